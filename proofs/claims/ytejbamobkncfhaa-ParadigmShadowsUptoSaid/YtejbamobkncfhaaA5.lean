/- A part that the proofs of the laws of this seat share: an interpreter of loaded code over typed values, what it says of the functions that the laws reach, and plain facts on these. -/
import Derived.Test.YtejbamobkncfhaaA0
import Derived.Test.YtejbamobkncfhaaA1
import Derived.Test.YtejbamobkncfhaaA2
import Derived.Test.YtejbamobkncfhaaA3
import Derived.Test.YtejbamobkncfhaaA4
namespace Go.Ai.Par
open Go Go.Ai
variable {M : Nat}
deriving instance DecidableEq for arr2_Int

/-! ### Affixes that are not used -/
abbrev Used := List (arr2_Int × Bool)
abbrev kq : arr2_Int → arr2_Int → Bool := keyEq (E := E) (.st .arr2_Int)

theorem kq_iff (a b : arr2_Int) : kq a b = true ↔ a = b := by
  have e : kq a b = (decide (a.f0 = b.f0) && (decide (a.f1 = b.f1) && true)) := rfl
  rw [e]
  cases a; cases b
  simp

def putSlots (ch : Int → Int) (ok : Bool) : Nat → Nat → Used → Used
  | 0, _, m => m
  | n + 1, i, m => putSlots ch ok n (i + 1) (cond ok (cond (decide (0 ≤ ch i)) (mput kq m ⟨i, ch i⟩ true) m) m)

theorem putSlots_get {ch : Int → Int} {ok : Bool} {s k : Int} (hk : 0 ≤ k) : ∀ (n i : Nat) (m : Used), (mget kq (putSlots ch ok n i m) ⟨s, k⟩).getD false = ((mget kq m ⟨s, k⟩).getD false || (ok && (decide ((i : Int) ≤ s) && (decide (s < (i : Int) + n) && decide (ch s = k)))))
  | 0, i, m => by
    have : (decide ((i : Int) ≤ s) && (decide (s < (i : Int) + (0 : Nat)) && decide (ch s = k))) = false := by
      by_cases h : (i : Int) ≤ s
      · have e : decide (s < (i : Int) + (0 : Nat)) = false := decide_eq_false (by omega)
        rw [e, Bool.false_and, Bool.and_false]
      · simp [h]
    rw [this]; simp [putSlots]
  | n + 1, i, m => by
    simp only [putSlots]
    rw [putSlots_get hk n (i + 1)]
    cases ok with
    | false => simp
    | true =>
      simp only [cond_true, Bool.true_and]
      have hput : (mget kq (cond (decide (0 ≤ ch i)) (mput kq m ⟨i, ch i⟩ true) m) ⟨s, k⟩).getD false = ((mget kq m ⟨s, k⟩).getD false || (decide (s = (i : Int)) && decide (ch i = k))) := by
        by_cases h0 : 0 ≤ ch i
        · rw [cpos h0, mget_mput kq_iff]
          cases hq : kq ⟨s, k⟩ ⟨i, ch i⟩ with
          | true =>
            have e := (kq_iff _ _).1 hq
            simp only [arr2_Int.mk.injEq] at e
            simp [e.1, e.2]
          | false =>
            have e : ¬ (s = (i : Int) ∧ k = ch i) := fun h => by
              have := (kq_iff ⟨s, k⟩ ⟨i, ch i⟩).2 (by rw [h.1, h.2])
              rw [this] at hq; cases hq
            simp only [cond_false]
            by_cases hs : s = (i : Int)
            · have : ¬ ch i = k := fun h => e ⟨hs, h.symm⟩
              simp [this]
            · simp [hs]
        · rw [cneg h0]
          have : ¬ ch i = k := by omega
          simp [this]
      rw [hput, Bool.or_assoc]
      congr 1
      by_cases hs : s = (i : Int)
      · subst hs
        have h1 : decide (((i + 1 : Nat) : Int) ≤ (i : Int)) = false := decide_eq_false (by omega)
        have h2 : decide ((i : Int) < (i : Int) + (n + 1 : Nat)) = true := decide_eq_true (by omega)
        have h3 : decide ((i : Int) ≤ (i : Int)) = true := decide_eq_true (by omega)
        have h4 : decide ((i : Int) = (i : Int)) = true := decide_eq_true rfl
        rw [h1, h2, h3, h4]
        simp
      · have e1 : decide (((i + 1 : Nat) : Int) ≤ s) = decide ((i : Int) ≤ s) := by rw [Bool.eq_iff_iff]; simp; omega
        have e2 : decide (s < ((i + 1 : Nat) : Int) + n) = decide (s < (i : Int) + (n + 1 : Nat)) := by rw [Bool.eq_iff_iff]; simp; omega
        rw [e1, e2]; simp [hs]

def putOne (ds : List api_Dimension) (ss : List (List api_Affix)) (c r : List api_Feature) (m : Used) : Used := putSlots (fun i => chosenS subsP ss i (pairOf (mergeS ds c r)).1) (pairOf (mergeS ds c r)).2 ss.length 0 m
def putInh (ds : List api_Dimension) (ss : List (List api_Affix)) (c : List api_Feature) : List (List api_Feature) → Used → Used
  | [], m => m
  | r :: rs, m => putInh ds ss c rs (putOne ds ss c r m)
def putCells (ds : List api_Dimension) (ss : List (List api_Affix)) (inh : List (List api_Feature)) : List (List api_Feature) → Used → Used
  | [], m => m
  | c :: cs, m => putCells ds ss inh cs (putInh ds ss c inh m)

def usesOne (ds : List api_Dimension) (ss : List (List api_Affix)) (s k : Int) (c r : List api_Feature) : Bool := match mergeS ds c r with
  | none => false
  | some m => decide (chosenS subs ss s m = k)
def usedS (ds : List api_Dimension) (ss : List (List api_Affix)) (inh : List (List api_Feature)) (s k : Int) : Bool := (cells ds).any fun c => inh.any fun r => usesOne ds ss s k c r

theorem putOne_get {ds : List api_Dimension} {ss : List (List api_Affix)} (ha : ascSlots ss) {c r : List api_Feature} {m : Used} {s k : Int} (hk : 0 ≤ k) (h0 : 0 ≤ s) (h1 : s < (ss.length : Int)) : (mget kq (putOne ds ss c r m) ⟨s, k⟩).getD false = ((mget kq m ⟨s, k⟩).getD false || usesOne ds ss s k c r) := by
  unfold putOne usesOne
  rw [putSlots_get hk]
  cases hm : mergeS ds c r with
  | none => rfl
  | some x =>
    obtain ⟨g1, _⟩ := merge_asc hm
    simp only [pairOf, Option.getD_some, Option.isSome_some, Bool.true_and, chosen_same ha g1]
    have e1 : decide (((0 : Nat) : Int) ≤ s) = true := by simp; omega
    have e2 : decide (s < ((0 : Nat) : Int) + (ss.length : Nat)) = true := by simp; omega
    rw [e1, e2]; rfl

theorem putCells_get {ds : List api_Dimension} {ss : List (List api_Affix)} (ha : ascSlots ss) {inh : List (List api_Feature)} {s k : Int} (hk : 0 ≤ k) (h0 : 0 ≤ s) (h1 : s < (ss.length : Int)) : ∀ (cs : List (List api_Feature)) (m : Used), (mget kq (putCells ds ss inh cs m) ⟨s, k⟩).getD false = ((mget kq m ⟨s, k⟩).getD false || cs.any fun c => inh.any fun r => usesOne ds ss s k c r) := by
  have hinh : ∀ (c : List api_Feature) (rs : List (List api_Feature)) (m : Used), (mget kq (putInh ds ss c rs m) ⟨s, k⟩).getD false = ((mget kq m ⟨s, k⟩).getD false || rs.any fun r => usesOne ds ss s k c r) := by
    intro c rs
    induction rs with
    | nil => intro m; simp [putInh]
    | cons r rs ih => intro m; simp only [putInh, ih, putOne_get ha hk h0 h1, List.any_cons, Bool.or_assoc]
  intro cs
  induction cs with
  | nil => intro m; simp [putCells]
  | cons c cs ih => intro m; simp only [putCells, ih, hinh, List.any_cons, Bool.or_assoc]

/-- The pairs that are left. -/
def rowU (u : Int → Int → Bool) (i : Nat) : Nat → Nat → List arr2_Int
  | 0, _ => []
  | n + 1, j => cond (u i j) (rowU u i n (j + 1)) (⟨i, j⟩ :: rowU u i n (j + 1))
def rowsU (u : Int → Int → Bool) : Nat → List (List api_Affix) → List arr2_Int
  | _, [] => []
  | i, s :: ss => rowU u i s.length 0 ++ rowsU u (i + 1) ss

theorem rowU_length (u : Int → Int → Bool) (i : Nat) : ∀ (n j : Nat), (rowU u i n j).length ≤ n
  | 0, _ => Nat.le_refl _
  | n + 1, j => by
    have := rowU_length u i n (j + 1)
    simp only [rowU]
    cases u i j <;> simp <;> omega

theorem rowU_congr {u u' : Int → Int → Bool} {i : Nat} (h : ∀ j : Nat, u i j = u' i j) : ∀ (n j : Nat), rowU u i n j = rowU u' i n j
  | 0, _ => rfl
  | n + 1, j => by simp only [rowU, h, rowU_congr h n (j + 1)]

theorem rowsU_congr {u u' : Int → Int → Bool} : ∀ (ss : List (List api_Affix)) (i : Nat), (∀ q j : Nat, q < i + ss.length → u q j = u' q j) → rowsU u i ss = rowsU u' i ss
  | [], _, _ => rfl
  | s :: ss, i, h => by
    simp only [rowsU]
    rw [rowU_congr (fun j => h i j (by simp)), rowsU_congr ss (i + 1) fun q j hq => h q j (by simp only [List.length_cons]; omega)]

def okInh (inh : List (List api_Feature)) : Prop := inh.length ≤ 1048576 ∧ ∀ r ∈ inh, okR r

theorem paradigm_Unused_eq (hM : 1048576 < M) {p : api_Paradigm} (hd : okDims p.fDimensions) (hs : okSlots p.fSlots) (ha : ascSlots p.fSlots) (h8 : p.fSlots.length ≤ 8) (h64 : ∀ s ∈ p.fSlots, s.length ≤ 64) {inh : List (List api_Feature)} (hi : okInh inh) :
    paradigm_Unused M p inh = some (rowsU (usedS p.fDimensions p.fSlots inh) 0 p.fSlots) := by
  have hsl := hs.1
  have hil := hi.1
  have slots : ∀ (h2 : List (List api_Feature) → api_Paradigm → List api_Feature → List (List api_Feature) → Int → Used → Option (List arr2_Int)) (c r : List api_Feature) (x : Nat) (xs : List (List api_Feature)) (m : Used), x < inh.length →
      paradigm_Unused.l3 M h2 M inh p (pairOf (mergeS p.fDimensions c r)) x c xs 0 m = h2 inh p c xs ((x + 1 : Nat) : Int) (putOne p.fDimensions p.fSlots c r m) := by
    intro h2 c r x xs m hx
    have hml : (pairOf (mergeS p.fDimensions c r)).1.length ≤ 1048576 := by
      cases hm : mergeS p.fDimensions c r with
      | none => simp [pairOf]
      | some y => have := (merge_asc hm).2; simp only [pairOf, Option.getD_some]; omega
    refine upto (n := p.fSlots.length) (f := fun k i (m : Used) => paradigm_Unused.l3 M h2 k inh p (pairOf (mergeS p.fDimensions c r)) x c xs i m) (g := fun i m => h2 inh p c xs ((x + 1 : Nat) : Int) (putSlots (fun i => chosenS subsP p.fSlots i (pairOf (mergeS p.fDimensions c r)).1) (pairOf (mergeS p.fDimensions c r)).2 (p.fSlots.length - i) i m)) (fun k m => by
      simp (disch := omega) only [paradigm_Unused.l3, paradigm_Unused.s3, ↓cneg (Int.lt_irrefl _), Nat.sub_self, putSlots, wsucc]) (fun k i m hi' ih => by
      have e : p.fSlots.length - i = (p.fSlots.length - (i + 1)) + 1 := by omega
      simp (disch := omega) only [paradigm_Unused.l3, paradigm_Unused.s3, ↓cpos, paradigm_Chosen_eq hM hs hml, Option.bind_some, wsucc, ih]
      rw [e]
      simp only [putSlots]
      cases (pairOf (mergeS p.fDimensions c r)).2 with
      | false => rfl
      | true =>
        simp only [cond_true]
        cases decide (0 ≤ chosenS subsP p.fSlots (i : Int) (pairOf (mergeS p.fDimensions c r)).1) <;> rfl) p.fSlots.length M 0 m (by omega) (by omega)
  have inhs : ∀ (h1 : List (List api_Feature) → api_Paradigm → List (List api_Feature) → Used → Option (List arr2_Int)) (c : List api_Feature) (xs : List (List api_Feature)) (m : Used), c.length ≤ 1048576 →
      paradigm_Unused.l2 M h1 M inh p c xs 0 m = h1 inh p xs (putInh p.fDimensions p.fSlots c inh m) := by
    intro h1 c xs m hcl
    exact over (xs := inh) (f := fun k i (m : Used) => paradigm_Unused.l2 M h1 k inh p c xs i m) (g := fun rs m => h1 inh p xs (putInh p.fDimensions p.fSlots c rs m)) (fun k m => by
      simp only [paradigm_Unused.l2, paradigm_Unused.s2, ↓cneg (Int.lt_irrefl _), putInh]) (fun k i r rs m hi' hx ih => by
      have hr := hi.2 r (by rw [← hx]; exact getD_mem hi')
      simp (disch := omega) only [paradigm_Unused.l2, paradigm_Unused.s2, Int.toNat_natCast, ↓cpos, ↓cpos2, hx, paradigm_Merge_eq hM hd hcl hr, Option.bind_some, slots _ c r i xs m hi', ih, putInh]) (by omega) m
  have outs : ∀ m : Used, (∀ q j : Nat, q < p.fSlots.length → (mget kq m ⟨q, j⟩).getD false = usedS p.fDimensions p.fSlots inh q j) → paradigm_Unused.j4 M p m = some (rowsU (usedS p.fDimensions p.fSlots inh) 0 p.fSlots) := by
    intro m hm
    have row : ∀ (h5 : Used → api_Paradigm → List arr2_Int → Int → Option (List arr2_Int)) (i : Nat) (s : List api_Affix) (out : List arr2_Int), i < p.fSlots.length → p.fSlots.getD i default = s → s.length ≤ 64 → out.length ≤ 512 →
        paradigm_Unused.l6 M h5 M m p i out 0 = h5 m p (out ++ rowU (usedS p.fDimensions p.fSlots inh) i s.length 0) ((i + 1 : Nat) : Int) := by
      intro h5 i s out hi' hsi hsl' ho
      have key := uptoFrom (lo := 0) (n := s.length) (f := fun k j (o : {o : List arr2_Int // o.length ≤ 512 + 64}) => cond (decide (o.1.length ≤ 512 + j.toNat)) (paradigm_Unused.l6 M h5 k m p i o.1 j) none) (g := fun j o => cond (decide (o.1.length ≤ 512 + j)) (h5 m p (o.1 ++ rowU (usedS p.fDimensions p.fSlots inh) i (s.length - j) j) ((i + 1 : Nat) : Int)) none) (fun k o => by
        simp (disch := omega) only [paradigm_Unused.l6, paradigm_Unused.s6, Int.toNat_natCast, hsi, ↓cneg (Int.lt_irrefl _), Nat.sub_self, rowU, List.append_nil, wsucc]) (fun k j o _ hj ih => by
        have e : s.length - j = (s.length - (j + 1)) + 1 := by omega
        by_cases hol : o.1.length ≤ 512 + j
        · simp only [Int.toNat_natCast]
          rw [cpos hol, cpos hol, e]
          have hq : (mget (keyEq (E := E) (Ty.st Nm.arr2_Int)) m (arr2_Int.mk (i : Int) (j : Int))).getD false = usedS p.fDimensions p.fSlots inh i j := hm i j hi'
          simp (disch := first | omega | (simp only [len, len0]; omega)) only [paradigm_Unused.l6, paradigm_Unused.s6, Int.toNat_natCast, hsi, ↓cpos, wsucc]
          simp only [hq, cnot, rowU]
          cases usedS p.fDimensions p.fSlots inh i j with
          | true =>
            have := ih o
            simp only [Int.toNat_natCast] at this
            rw [cpos (by omega), cpos (by omega)] at this
            simp only [cond_true]
            exact this
          | false =>
            have := ih ⟨o.1 ++ [⟨i, j⟩], by simp; omega⟩
            simp only [Int.toNat_natCast] at this
            rw [cpos (by simp; omega), cpos (by simp; omega)] at this
            simp only [cond_false, this, List.append_assoc, List.singleton_append]
        · simp only [Int.toNat_natCast]
          rw [cneg hol, cneg hol]) s.length M 0 ⟨out, by omega⟩ (by omega) (by omega) (by omega)
      simp only [Int.toNat_natCast] at key
      rw [cpos (by omega), cpos (by omega)] at key
      exact key
    unfold paradigm_Unused.j4 paradigm_Unused.s4
    exact overJ (xs := p.fSlots) (f := fun k i (o : List arr2_Int) => paradigm_Unused.l5 M k m p o i) (g := fun i t o => some (o ++ rowsU (usedS p.fDimensions p.fSlots inh) i t)) (I := fun i o => o.length ≤ 64 * i) (fun k o _ => by
      simp only [paradigm_Unused.l5, paradigm_Unused.s5, ↓cneg (Int.lt_irrefl _), rowsU, List.append_nil]) (fun k i s t o hi' ho hx _ _ ih => by
      have h6 := h64 s (by rw [← hx]; exact getD_mem hi')
      simp (disch := omega) only [paradigm_Unused.l5, paradigm_Unused.s5, ↓cpos, ↓cpos2, row _ i s o hi' hx h6 (by omega)]
      rw [ih _ (by have := rowU_length (usedS p.fDimensions p.fSlots inh) i s.length 0; simp; omega)]
      simp [rowsU]) (k := M) (by omega) (s := []) (by simp)
  unfold paradigm_Unused paradigm_Unused.s
  rw [feature_All_eq hM hd, Option.bind_some]
  show paradigm_Unused.l1 M M inh p (cells p.fDimensions) [] = _
  have key : ∀ (cs : List (List api_Feature)) (k : Nat) (m : Used), cs.length < k → (∀ c ∈ cs, c.length ≤ 1048576) → paradigm_Unused.l1 M k inh p cs m = paradigm_Unused.j4 M p (putCells p.fDimensions p.fSlots inh cs m) := by
    intro cs
    induction cs with
    | nil =>
      intro k m hk _
      obtain ⟨k, rfl⟩ := Nat.exists_eq_succ_of_ne_zero (by omega : k ≠ 0)
      rfl
    | cons c cs ih =>
      intro k m hk hc
      simp only [List.length_cons] at hk
      obtain ⟨k, rfl⟩ := Nat.exists_eq_succ_of_ne_zero (by omega : k ≠ 0)
      simp only [Nat.succ_eq_add_one, paradigm_Unused.l1, paradigm_Unused.s1, lcase]
      rw [inhs _ c cs m (hc c (by simp)), ih k _ (by omega) fun c hc' => hc c (List.mem_cons_of_mem _ hc')]
      rfl
  have hcl := cells_length p.fDimensions
  have hcc := count_le p.fDimensions
  rw [key _ M [] (by omega) fun c hc => by have := (cells_mem hc).2.2; omega]
  exact outs _ fun q j hq => by
    rw [putCells_get ha (by omega) (by omega) (by omega)]
    rfl

end Go.Ai.Par
namespace Go.Ai.Par
open Go Go.Ai
variable {M : Nat}

theorem ref10_SamePairs_eq (hM : 1048576 < M) {a b : List arr2_Int} (hl : a.length ≤ 1048576) : pentaglotref10_SamePairs M a b = some (decide (a = b)) := by
  unfold pentaglotref10_SamePairs pentaglotref10_SamePairs.s
  by_cases h : a.length = b.length
  · rw [show (!decide ((a.length : Int) = (b.length : Int))) = false by simp [h], cond_false]
    have key := overI (xs := a) (f := fun k i (_ : Unit) => pentaglotref10_SamePairs.l1 M k a b i) (g := fun i r _ => some (decide (r = b.drop i))) (fun k _ => by
      simp only [pentaglotref10_SamePairs.l1, pentaglotref10_SamePairs.s1, ↓cneg (Int.lt_irrefl _)]
      rw [List.drop_of_length_le (by omega)]; rfl) (fun k i x r _ hi hx _ _ ih => by
      have ih := ih ()
      obtain ⟨y, t, e2, g2, e3⟩ := dropCons (xs := b) (i := i) (by omega)
      have hd : (decide (x.f0 = y.f0) && (decide (x.f1 = y.f1) && true)) = decide (x = y) := by
        rw [Bool.eq_iff_iff]
        cases x; cases y
        simp
      simp (disch := omega) only [pentaglotref10_SamePairs.l1, pentaglotref10_SamePairs.s1, ↓cpos, ↓cpos2, Int.toNat_natCast, hx, g2, wsucc, ih, hd, e2, e3, cnot]
      by_cases hxb : x = y <;> simp [hxb]) (k := M) (by omega) ()
    simpa using key
  · rw [show (!decide ((a.length : Int) = (b.length : Int))) = true by simp; omega, cond_true]
    have : a ≠ b := fun e => h (by rw [e])
    simp [this]

theorem ref10_used_eq (hM : 1048576 < M) {p : api_Paradigm} (hd : okDims p.fDimensions) (hs : okSlots p.fSlots) {inh : List (List api_Feature)} (hi : okInh inh) (s k : Int) : pentaglotref10_used M p s k inh = some (usedS p.fDimensions p.fSlots inh s k) := by
  have hil := hi.1
  have hcl := cells_length p.fDimensions
  have hcc := count_le p.fDimensions
  unfold pentaglotref10_used pentaglotref10_used.s usedS
  rw [ref10_Cells_eq hM hd, Option.bind_some]
  have inner : ∀ (h1 : Int → List (List api_Feature) → api_Paradigm → List (List api_Feature) → Int → Int → Option Bool) (i : Nat) (c : List api_Feature), i < (cells p.fDimensions).length → (cells p.fDimensions).getD i default = c →
      pentaglotref10_used.l2 M h1 M k i inh p (cells p.fDimensions) s 0 = cond (inh.any fun r => usesOne p.fDimensions p.fSlots s k c r) (some true) (h1 k inh p (cells p.fDimensions) s ((i + 1 : Nat) : Int)) := by
    intro h1 i c hi' hc
    exact over (xs := inh) (f := fun q j (_ : Unit) => pentaglotref10_used.l2 M h1 q k i inh p (cells p.fDimensions) s j) (g := fun rs _ => cond (rs.any fun r => usesOne p.fDimensions p.fSlots s k c r) (some true) (h1 k inh p (cells p.fDimensions) s ((i + 1 : Nat) : Int))) (fun q _ => by
      simp (disch := omega) only [pentaglotref10_used.l2, pentaglotref10_used.s2, ↓cneg (Int.lt_irrefl _), List.any_nil, cond_false, wsucc]) (fun q j r rs _ hj hr ih => by
      have ih := ih ()
      have hrr := hi.2 r (by rw [← hr]; exact getD_mem hj)
      simp (disch := omega) only [pentaglotref10_used.l2, pentaglotref10_used.s2, Int.toNat_natCast, ↓cpos, ↓cpos2, hc, hr, ref10_Merge_eq hM hd hrr, Option.bind_some, wsucc, ih, List.any_cons, usesOne]
      cases hm : mergeS p.fDimensions c r with
      | none => rfl
      | some m =>
        have := (merge_asc hm).2
        simp only [pairOf, Option.getD_some, Option.isSome_some, cond_true]
        rw [ref10_Chosen_eq hM hs (by omega), Option.bind_some]
        cases decide (chosenS subs p.fSlots s m = k) <;> rfl) (k := M) (by omega) ()
  exact over (xs := cells p.fDimensions) (f := fun q i (_ : Unit) => pentaglotref10_used.l1 M q k inh p (cells p.fDimensions) s i) (g := fun cs _ => some (cs.any fun c => inh.any fun r => usesOne p.fDimensions p.fSlots s k c r)) (fun q _ => by
    simp only [pentaglotref10_used.l1, pentaglotref10_used.s1, ↓cneg (Int.lt_irrefl _), List.any_nil]) (fun q i c cs _ hi' hc ih => by
    have ih := ih ()
    simp (disch := omega) only [pentaglotref10_used.l1, pentaglotref10_used.s1, ↓cpos, inner _ i c hi' hc, ih, List.any_cons]
    cases inh.any (fun r => usesOne p.fDimensions p.fSlots s k c r) <;> rfl) (k := M) (by omega) ()

theorem ref10_Unused_eq (hM : 1048576 < M) {p : api_Paradigm} (hd : okDims p.fDimensions) (hs : okSlots p.fSlots) (h8 : p.fSlots.length ≤ 8) (h64 : ∀ s ∈ p.fSlots, s.length ≤ 64) {inh : List (List api_Feature)} (hi : okInh inh) :
    pentaglotref10_Unused M p inh = some (rowsU (usedS p.fDimensions p.fSlots inh) 0 p.fSlots) := by
  unfold pentaglotref10_Unused pentaglotref10_Unused.s
  have row : ∀ (h1 : List (List api_Feature) → api_Paradigm → List arr2_Int → Int → Option (List arr2_Int)) (i : Nat) (s : List api_Affix) (out : List arr2_Int), i < p.fSlots.length → p.fSlots.getD i default = s → s.length ≤ 64 → out.length ≤ 512 →
      pentaglotref10_Unused.l2 M h1 M i inh p out 0 = h1 inh p (out ++ rowU (usedS p.fDimensions p.fSlots inh) i s.length 0) ((i + 1 : Nat) : Int) := by
    intro h1 i s out hi' hsi hsl' ho
    have key := uptoFrom (lo := 0) (n := s.length) (f := fun k j (o : List arr2_Int) => cond (decide (o.length ≤ 512 + j.toNat)) (pentaglotref10_Unused.l2 M h1 k i inh p o j) none) (g := fun j o => cond (decide (o.length ≤ 512 + j)) (h1 inh p (o ++ rowU (usedS p.fDimensions p.fSlots inh) i (s.length - j) j) ((i + 1 : Nat) : Int)) none) (fun k o => by
      simp (disch := omega) only [pentaglotref10_Unused.l2, pentaglotref10_Unused.s2, Int.toNat_natCast, hsi, ↓cpos2, ↓cneg (Int.lt_irrefl _), Nat.sub_self, rowU, List.append_nil, wsucc]) (fun k j o _ hj ih => by
      have e : s.length - j = (s.length - (j + 1)) + 1 := by omega
      by_cases hol : o.length ≤ 512 + j
      · simp only [Int.toNat_natCast]
        rw [cpos hol, cpos hol, e]
        simp (disch := first | omega | (simp only [len, len0]; omega)) only [pentaglotref10_Unused.l2, pentaglotref10_Unused.s2, Int.toNat_natCast, hsi, ↓cpos, ↓cpos2, wsucc, ref10_used_eq hM hd hs hi, Option.bind_some, cnot, rowU]
        cases usedS p.fDimensions p.fSlots inh i j with
        | true =>
          have := ih o
          simp only [Int.toNat_natCast] at this
          rw [cpos (by omega), cpos (by omega)] at this
          simp only [cond_true]
          exact this
        | false =>
          have := ih (o ++ [⟨i, j⟩])
          simp only [Int.toNat_natCast] at this
          rw [cpos (by simp; omega), cpos (by simp; omega)] at this
          simp only [cond_false, this, List.append_assoc, List.singleton_append]
      · simp only [Int.toNat_natCast]
        rw [cneg hol, cneg hol]) s.length M 0 out (by omega) (by omega) (by omega)
    simp only [Int.toNat_natCast] at key
    rw [cpos (by omega), cpos (by omega)] at key
    exact key
  exact overJ (xs := p.fSlots) (f := fun k i (o : List arr2_Int) => pentaglotref10_Unused.l1 M k inh p o i) (g := fun i t o => some (o ++ rowsU (usedS p.fDimensions p.fSlots inh) i t)) (I := fun i o => o.length ≤ 64 * i) (fun k o _ => by
    simp only [pentaglotref10_Unused.l1, pentaglotref10_Unused.s1, ↓cneg (Int.lt_irrefl _), rowsU, List.append_nil]) (fun k i s t o hi' ho hx _ _ ih => by
    have h6 := h64 s (by rw [← hx]; exact getD_mem hi')
    simp (disch := omega) only [pentaglotref10_Unused.l1, pentaglotref10_Unused.s1, ↓cpos, row _ i s o hi' hx h6 (by omega)]
    rw [ih _ (by have := rowU_length (usedS p.fDimensions p.fSlots inh) i s.length 0; simp; omega)]
    simp [rowsU]) (k := M) (by omega) (s := []) (by simp)

theorem rowsU_length (u : Int → Int → Bool) : ∀ (ss : List (List api_Affix)) (i : Nat), (∀ s ∈ ss, s.length ≤ 64) → (rowsU u i ss).length ≤ 64 * ss.length
  | [], _, _ => by simp [rowsU]
  | s :: ss, i, h => by
    have h1 := rowU_length u i s.length 0
    have h2 := rowsU_length u ss (i + 1) fun s hs => h s (List.mem_cons_of_mem _ hs)
    have h3 := h s (by simp)
    simp only [rowsU, List.length_append, List.length_cons]
    omega

end Go.Ai.Par
set_option linter.unusedVariables false
set_option linter.unusedSectionVars false
noncomputable section
namespace Go.Ai.Par
open Go Go.Ai Go.Proofs
noncomputable def sigs32 (M : Nat) : List (Nat × Sig E) := []
noncomputable def rs32 (M : Nat) : List (Nat × Sig E) := []
noncomputable def its32 (M : Nat) : List (Nat × It E) := []
theorem sigs_ok32 (M : Nat) : SigsOk Try.prog (sigs32 M) := SigsOk.nil
theorem rs_ok32 (M : Nat) : SigsOk Try.prog (rs32 M) := SigsOk.nil
theorem its_ok32 (M : Nat) : ItsOk Try.prog (its32 M) := ItsOk.nil
noncomputable def C32 (M : Nat) : Ctx E := { ti := fun t => tisE.lookup t, sig := fun f => (sigs32 M).lookup f, it := fun f => (its32 M).lookup f, nt := 9 }
theorem SigOk_C32 (M : Nat) : SigOk Try.prog (C32 M) := sigs_ok32 M
theorem RSigOk_C32 (M : Nat) : SigOk Try.prog ({ ti := fun _ => none, sig := fun f => (rs32 M).lookup f } : Ctx E) := rs_ok32 M
theorem ItOk_C32 (M : Nat) : ItOk Try.prog (C32 M) := (its_ok32 M).ok
namespace pentaglotlaw10_single
noncomputable def plans : List (Option (Plan Nm)) := [none, none]
noncomputable abbrev body : Code := bodyOf Try.f32
def ps : List (Ty Nm) := [.str, .str]
def rs : List (Ty Nm) := [(.sl (.st .api_Feature))]
def ex : List (Option Nat) := [some 71]
noncomputable def inl : List (Nat × Nat × Nat × Inl Nm) := []
theorem inl_ok : InlsOk Try.prog inl := InlsOk.nil
noncomputable def X (M : Nat) : Ext E (List api_Feature) := extOf (C32 M) (inlOf inl) (fun f => (rs32 M).lookup f) (fun _ _ _ => none) noX M 1
abbrev Rt := (List api_Feature)
noncomputable def H (M : Nat) : Hd E Rt := hd0 (X M)
theorem Hok (M : Nat) : (H M).ok (C32 M) M := hd0_ok _
abbrev Zt := List Dir → St E → Option Rt
abbrev Ut := St E → Option Rt
noncomputable def s (M : Nat) (namea0_0 : (List UInt8)) (valuea1_0 : (List UInt8)) : Option Rt :=
  some [api_Feature.mk namea0_0 valuea1_0]
end pentaglotlaw10_single
noncomputable def pentaglotlaw10_single (M : Nat) (namea0_0 : (List UInt8)) (valuea1_0 : (List UInt8)) : Option (List api_Feature) :=
  pentaglotlaw10_single.s M namea0_0 valuea1_0
namespace pentaglotlaw10_single
noncomputable def K (M : Nat) : Cont E (List api_Feature) := kRet (C32 M) Try.f32.results.toList rs ex
set_option maxRecDepth 100000
theorem g (M : Nat) (Z : Zt) (namea0_0 : (List UInt8)) (valuea1_0 : (List UInt8)) : runZ (C32 M) (extZ (C32 M) (H M) 0) Z body plans (start (argHs ps (namea0_0, valuea1_0)) Try.f32.ntmps 9) (K M) = s M namea0_0 valuea1_0 := by kernel_rfl
theorem run (M : Nat) (namea0_0 : (List UInt8)) (valuea1_0 : (List UInt8)) : runF (rs := rs) (C32 M) (X M) M body Try.f32.ntmps 9 Try.f32.results.toList plans ps ex (namea0_0, valuea1_0) = pentaglotlaw10_single M namea0_0 valuea1_0 := by
  refine Eq.trans (b := runC (C32 M) (X M) M body plans (start (argHs ps (namea0_0, valuea1_0)) Try.f32.ntmps 9) (K M)) (by kernel_rfl) ?_
  refine (zrun (Hok M) 0 body plans _ (K M) (fun _ => none) fun _ => rfl).symm.trans ?_
  refine (g M _ namea0_0 valuea1_0).trans ?_
  rfl
noncomputable def sig (M : Nat) : Sig E := { ps := ps, rs := rs, ex := ex, fn := fun x => pentaglotlaw10_single M x.1 x.2 }
theorem says (M : Nat) : callable Try.prog 32 = true ∧ ∀ x y, (sig M).fn x = some y → Says Try.prog 32 (sig M) x y := by
  refine ⟨by kernel_rfl, fun x y h => ?_⟩
  refine says_of_run (S := sig M) (C := C32 M) (X := X M) (M := M) (q := 9) (plans := plans) (COk_Try) (SigOk_C32 M) (ItOk_C32 M) (by kernel_rfl) (callOk_ext COk_Try (SigOk_C32 M) (ItOk_C32 M) (by kernel_rfl) inl_ok.ok (RSigOk_C32 M) (fun _ => callOk_none) M 1) (Try.func32) (body := body) (by kernel_rfl) (by kernel_rfl) ?_
  obtain ⟨namea0_0, valuea1_0⟩ := x
  exact (run M namea0_0 valuea1_0).trans h
end pentaglotlaw10_single
end Go.Ai.Par
end
set_option linter.unusedVariables false
set_option linter.unusedSectionVars false
noncomputable section
namespace Go.Ai.Par
open Go Go.Ai Go.Proofs
noncomputable def sigs31 (M : Nat) : List (Nat × Sig E) := [(32, pentaglotlaw10_single.sig M)]
noncomputable def rs31 (M : Nat) : List (Nat × Sig E) := []
noncomputable def its31 (M : Nat) : List (Nat × It E) := []
theorem sigs_ok31 (M : Nat) : SigsOk Try.prog (sigs31 M) := SigsOk.cons (pentaglotlaw10_single.says M) (SigsOk.nil)
theorem rs_ok31 (M : Nat) : SigsOk Try.prog (rs31 M) := SigsOk.nil
theorem its_ok31 (M : Nat) : ItsOk Try.prog (its31 M) := ItsOk.nil
noncomputable def C31 (M : Nat) : Ctx E := { ti := fun t => tisE.lookup t, sig := fun f => (sigs31 M).lookup f, it := fun f => (its31 M).lookup f, nt := 21 }
theorem SigOk_C31 (M : Nat) : SigOk Try.prog (C31 M) := sigs_ok31 M
theorem RSigOk_C31 (M : Nat) : SigOk Try.prog ({ ti := fun _ => none, sig := fun f => (rs31 M).lookup f } : Ctx E) := rs_ok31 M
theorem ItOk_C31 (M : Nat) : ItOk Try.prog (C31 M) := (its_ok31 M).ok
namespace pentaglotlaw10_example
noncomputable def plans : List (Option (Plan Nm)) := [none, none, none]
noncomputable abbrev body : Code := bodyOf Try.f31
def ps : List (Ty Nm) := []
def rs : List (Ty Nm) := [(.st .api_Paradigm)]
def ex : List (Option Nat) := [none]
noncomputable def inl : List (Nat × Nat × Nat × Inl Nm) := []
theorem inl_ok : InlsOk Try.prog inl := InlsOk.nil
noncomputable def X (M : Nat) : Ext E api_Paradigm := extOf (C31 M) (inlOf inl) (fun f => (rs31 M).lookup f) (fun _ _ _ => none) noX M 1
abbrev Rt := api_Paradigm
noncomputable def H (M : Nat) : Hd E Rt := hd0 (X M)
theorem Hok (M : Nat) : (H M).ok (C31 M) M := hd0_ok _
abbrev Zt := List Dir → St E → Option Rt
abbrev Ut := St E → Option Rt
noncomputable def s (M : Nat) : Option Rt :=
  Option.bind (pentaglotlaw10_single M [103, 101, 110, 100, 101, 114] [102]) fun r2_1 =>
  Option.bind (pentaglotlaw10_single M [110, 117, 109, 98, 101, 114] [112, 108]) fun r8_2 =>
  Option.bind (pentaglotlaw10_single M [99, 97, 115, 101] [97, 99, 99]) fun r12_3 =>
  cond (decide (r12_3.length + r2_1.length ≤ lim))
   (Option.bind (pentaglotlaw10_single M [99, 97, 115, 101] [97, 99, 99]) fun r16_4 =>
    some (api_Paradigm.mk [110, 111, 117, 110] ([api_Dimension.mk [110, 117, 109, 98, 101, 114] ([[115, 103], [112, 108]]), api_Dimension.mk [99, 97, 115, 101] ([[110, 111, 109], [97, 99, 99]])]) ([[api_Affix.mk r8_2 [] [107, 101], api_Affix.mk [] [] [101]], [api_Affix.mk (r12_3 ++ r2_1) [97] [], api_Affix.mk r16_4 [] [116]]])))
   none
end pentaglotlaw10_example
noncomputable def pentaglotlaw10_example (M : Nat) : Option api_Paradigm :=
  pentaglotlaw10_example.s M
namespace pentaglotlaw10_example
noncomputable def K (M : Nat) : Cont E api_Paradigm := kRet (C31 M) Try.f31.results.toList rs ex
set_option maxRecDepth 100000
theorem g (M : Nat) (Z : Zt) : runZ (C31 M) (extZ (C31 M) (H M) 0) Z body plans (start (argHs ps ()) Try.f31.ntmps 21) (K M) = s M := by kernel_rfl
theorem run (M : Nat) : runF (rs := rs) (C31 M) (X M) M body Try.f31.ntmps 21 Try.f31.results.toList plans ps ex () = pentaglotlaw10_example M := by
  refine Eq.trans (b := runC (C31 M) (X M) M body plans (start (argHs ps ()) Try.f31.ntmps 21) (K M)) (by kernel_rfl) ?_
  refine (zrun (Hok M) 0 body plans _ (K M) (fun _ => none) fun _ => rfl).symm.trans ?_
  refine (g M _).trans ?_
  rfl
noncomputable def sig (M : Nat) : Sig E := { ps := ps, rs := rs, ex := ex, fn := fun _ => pentaglotlaw10_example M }
theorem says (M : Nat) : callable Try.prog 31 = true ∧ ∀ x y, (sig M).fn x = some y → Says Try.prog 31 (sig M) x y := by
  refine ⟨by kernel_rfl, fun x y h => ?_⟩
  refine says_of_run (S := sig M) (C := C31 M) (X := X M) (M := M) (q := 21) (plans := plans) (COk_Try) (SigOk_C31 M) (ItOk_C31 M) (by kernel_rfl) (callOk_ext COk_Try (SigOk_C31 M) (ItOk_C31 M) (by kernel_rfl) inl_ok.ok (RSigOk_C31 M) (fun _ => callOk_none) M 1) (Try.func31) (body := body) (by kernel_rfl) (by kernel_rfl) ?_
  exact (run M).trans h
end pentaglotlaw10_example
end Go.Ai.Par
end
set_option linter.unusedVariables false
set_option linter.unusedSectionVars false
noncomputable section
namespace Go.Ai.Par
open Go Go.Ai Go.Proofs
noncomputable def sigs12 (M : Nat) : List (Nat × Sig E) := [(15, paradigm_Cell.sig M), (16, paradigm_Count.sig M), (18, paradigm_Number.sig M), (25, paradigm_Underlying.sig M), (28, paradigm_Unused.sig M), (31, pentaglotlaw10_example.sig M), (32, pentaglotlaw10_single.sig M)]
noncomputable def rs12 (M : Nat) : List (Nat × Sig E) := []
noncomputable def its12 (M : Nat) : List (Nat × It E) := []
theorem sigs_ok12 (M : Nat) : SigsOk Try.prog (sigs12 M) := SigsOk.cons (paradigm_Cell.says M) (SigsOk.cons (paradigm_Count.says M) (SigsOk.cons (paradigm_Number.says M) (SigsOk.cons (paradigm_Underlying.says M) (SigsOk.cons (paradigm_Unused.says M) (SigsOk.cons (pentaglotlaw10_example.says M) (SigsOk.cons (pentaglotlaw10_single.says M) (SigsOk.nil)))))))
theorem rs_ok12 (M : Nat) : SigsOk Try.prog (rs12 M) := SigsOk.nil
theorem its_ok12 (M : Nat) : ItsOk Try.prog (its12 M) := ItsOk.nil
noncomputable def C12 (M : Nat) : Ctx E := { ti := fun t => tisE.lookup t, sig := fun f => (sigs12 M).lookup f, it := fun f => (its12 M).lookup f, nt := 56 }
theorem SigOk_C12 (M : Nat) : SigOk Try.prog (C12 M) := sigs_ok12 M
theorem RSigOk_C12 (M : Nat) : SigOk Try.prog ({ ti := fun _ => none, sig := fun f => (rs12 M).lookup f } : Ctx E) := rs_ok12 M
theorem ItOk_C12 (M : Nat) : ItOk Try.prog (C12 M) := (its_ok12 M).ok
namespace pentaglotlaw10_awake
noncomputable def plans : List (Option (Plan Nm)) := [none, none, none, none, none, none]
noncomputable abbrev body : Code := bodyOf Try.f12
def ps : List (Ty Nm) := []
def rs : List (Ty Nm) := [.bool]
def ex : List (Option Nat) := [none]
noncomputable def inl : List (Nat × Nat × Nat × Inl Nm) := []
theorem inl_ok : InlsOk Try.prog inl := InlsOk.nil
noncomputable def X (M : Nat) : Ext E Bool := extOf (C12 M) (inlOf inl) (fun f => (rs12 M).lookup f) (fun _ _ _ => none) noX M 1
abbrev Rt := Bool
noncomputable def H (M : Nat) : Hd E Rt := hd0 (X M)
theorem Hok (M : Nat) : (H M).ok (C12 M) M := hd0_ok _
abbrev Zt := List Dir → St E → Option Rt
abbrev Ut := St E → Option Rt
noncomputable def s (M : Nat) : Option Rt :=
  Option.bind (pentaglotlaw10_example M) fun r7_1 =>
  Option.bind (paradigm_Cell M r7_1 3) fun r10_2 =>
  Option.bind (pentaglotlaw10_single M [103, 101, 110, 100, 101, 114] [102]) fun r15_3 =>
  Option.bind (paradigm_Underlying M r7_1 [116, 101, 107] r15_3 r10_2.1) fun r17_4 =>
  Option.bind (pentaglotlaw10_single M [103, 101, 110, 100, 101, 114] [109]) fun r21_5 =>
  Option.bind (paradigm_Unused M r7_1 [r21_5]) fun r23_6 =>
  cond (r10_2.2)
   (Option.bind (paradigm_Count M r7_1) fun r27_7 =>
    cond (decide (r27_7 = 4))
     (Option.bind (paradigm_Number M r7_1 r10_2.1) fun r33_8 =>
      cond (decide (r33_8 = 3))
       (cond (decide (r17_4.1 = [97, 116, 101, 107, 107, 101]))
         (cond (decide (r17_4.2 = 0))
           (cond (decide ((r23_6.length : Int) = 1))
             (cond (decide (0 ≤ 0) && decide (0 < (r23_6.length : Int)))
               (some (decide (((r23_6.getD 0 default).f0) = 1) && (decide (((r23_6.getD 0 default).f1) = 0) && true)))
               none)
             (some false))
           (some false))
         (some false))
       (some false))
     (some false))
   (some false)
end pentaglotlaw10_awake
noncomputable def pentaglotlaw10_awake (M : Nat) : Option Bool :=
  pentaglotlaw10_awake.s M
namespace pentaglotlaw10_awake
noncomputable def K (M : Nat) : Cont E Bool := kRet (C12 M) Try.f12.results.toList rs ex
set_option maxRecDepth 100000
theorem g (M : Nat) (Z : Zt) : runZ (C12 M) (extZ (C12 M) (H M) 0) Z body plans (start (argHs ps ()) Try.f12.ntmps 56) (K M) = s M := by kernel_rfl
theorem run (M : Nat) : runF (rs := rs) (C12 M) (X M) M body Try.f12.ntmps 56 Try.f12.results.toList plans ps ex () = pentaglotlaw10_awake M := by
  refine Eq.trans (b := runC (C12 M) (X M) M body plans (start (argHs ps ()) Try.f12.ntmps 56) (K M)) (by kernel_rfl) ?_
  refine (zrun (Hok M) 0 body plans _ (K M) (fun _ => none) fun _ => rfl).symm.trans ?_
  refine (g M _).trans ?_
  rfl
noncomputable def sig (M : Nat) : Sig E := { ps := ps, rs := rs, ex := ex, fn := fun _ => pentaglotlaw10_awake M }
theorem says (M : Nat) : callable Try.prog 12 = true ∧ ∀ x y, (sig M).fn x = some y → Says Try.prog 12 (sig M) x y := by
  refine ⟨by kernel_rfl, fun x y h => ?_⟩
  refine says_of_run (S := sig M) (C := C12 M) (X := X M) (M := M) (q := 56) (plans := plans) (COk_Try) (SigOk_C12 M) (ItOk_C12 M) (by kernel_rfl) (callOk_ext COk_Try (SigOk_C12 M) (ItOk_C12 M) (by kernel_rfl) inl_ok.ok (RSigOk_C12 M) (fun _ => callOk_none) M 1) (Try.func12) (body := body) (by kernel_rfl) (by kernel_rfl) ?_
  exact (run M).trans h
end pentaglotlaw10_awake
end Go.Ai.Par
end
namespace Go.Ai.Par
open Go Go.Ai
variable {M : Nat}

/-! ### The chapter's example -/
def exF : List api_Feature := [⟨[103, 101, 110, 100, 101, 114], [102]⟩]
def exP : api_Paradigm := ⟨[110, 111, 117, 110], [⟨[110, 117, 109, 98, 101, 114], [[115, 103], [112, 108]]⟩, ⟨[99, 97, 115, 101], [[110, 111, 109], [97, 99, 99]]⟩],
  [[⟨[⟨[110, 117, 109, 98, 101, 114], [112, 108]⟩], [], [107, 101]⟩, ⟨[], [], [101]⟩], [⟨[⟨[99, 97, 115, 101], [97, 99, 99]⟩, ⟨[103, 101, 110, 100, 101, 114], [102]⟩], [97], []⟩, ⟨[⟨[99, 97, 115, 101], [97, 99, 99]⟩], [], [116]⟩]]⟩

theorem example_eq : pentaglotlaw10_example M = some exP := rfl

theorem okR_of {r : List api_Feature} (h : (decide (r.length ≤ 1048576) && r.all fun f => decide (f.fName.length ≤ 1048576) && decide (f.fValue.length ≤ 1048576)) = true) : okR r := by
  simp only [Bool.and_eq_true, decide_eq_true_eq, List.all_eq_true] at h
  exact ⟨h.1, fun f hf => h.2 f hf⟩

theorem exDims : okDims exP.fDimensions := by
  refine ⟨by decide, fun d hd => ?_⟩
  simp only [exP, List.mem_cons, List.not_mem_nil, or_false] at hd
  rcases hd with rfl | rfl
  · refine ⟨by decide, by decide, fun v hv => ?_⟩
    simp only [List.mem_cons, List.not_mem_nil, or_false] at hv
    rcases hv with rfl | rfl <;> decide
  · refine ⟨by decide, by decide, fun v hv => ?_⟩
    simp only [List.mem_cons, List.not_mem_nil, or_false] at hv
    rcases hv with rfl | rfl <;> decide

theorem exSlots : okSlots exP.fSlots ∧ ascSlots exP.fSlots ∧ ∀ s ∈ exP.fSlots, s.length ≤ 64 := by
  refine ⟨⟨by decide, fun s hs => ?_⟩, fun s hs x hx => ?_, fun s hs => ?_⟩
  · simp only [exP, List.mem_cons, List.not_mem_nil, or_false] at hs
    rcases hs with rfl | rfl <;> refine ⟨by decide, fun x hx => ?_⟩ <;> simp only [List.mem_cons, List.not_mem_nil, or_false] at hx <;> rcases hx with rfl | rfl <;> exact ⟨okR_of (by decide), by decide, by decide, by decide⟩
  · simp only [exP, List.mem_cons, List.not_mem_nil, or_false] at hs
    rcases hs with rfl | rfl <;> simp only [List.mem_cons, List.not_mem_nil, or_false] at hx <;> rcases hx with rfl | rfl <;> exact isRec_iff.1 (by decide)
  · simp only [exP, List.mem_cons, List.not_mem_nil, or_false] at hs
    rcases hs with rfl | rfl <;> decide

def exC : List api_Feature := [⟨[99, 97, 115, 101], [97, 99, 99]⟩, ⟨[110, 117, 109, 98, 101, 114], [112, 108]⟩]
theorem exCell : cellS exP.fDimensions 3 = (exC, true) := by decide
theorem exCount : count exP.fDimensions = 4 := by decide
theorem exNum : numP exP.fDimensions exC = 3 := by decide
def exM : List api_Feature := [⟨[99, 97, 115, 101], [97, 99, 99]⟩, ⟨[103, 101, 110, 100, 101, 114], [102]⟩, ⟨[110, 117, 109, 98, 101, 114], [112, 108]⟩]
theorem exMerge : mergeS exP.fDimensions exC exF = some exM := by decide
theorem exForm : formS exM exP.fSlots [116, 101, 107] = [97, 116, 101, 107, 107, 101] := by decide
theorem exUnder : underS exP.fDimensions exP.fSlots [116, 101, 107] exF exC = ([97, 116, 101, 107, 107, 101], 0) := by
  unfold underS
  rw [exMerge]
  simp only [exForm]
  have := runes_le [97, 116, 101, 107, 107, 101]
  rw [cneg (by simp at this; omega)]
theorem exUnused : rowsU (usedS exP.fDimensions exP.fSlots [[⟨[103, 101, 110, 100, 101, 114], [109]⟩]]) 0 exP.fSlots = [⟨1, 0⟩] := by decide

theorem awake_eq (hM : 1048576 < M) (hM2 : M ≤ 1099511627776) : pentaglotlaw10_awake M = some true := by
  obtain ⟨hs, ha, h64⟩ := exSlots
  have hsz : ([116, 101, 107] : List UInt8).length + szS exP.fSlots < M := by
    have h : ([116, 101, 107] : List UInt8).length + szS exP.fSlots ≤ 100 := by decide
    omega
  have hf : okR exF := okR_of (by decide)
  have hm : okInh [[⟨[103, 101, 110, 100, 101, 114], [109]⟩]] := ⟨by decide, fun r hr => by
    simp only [List.mem_cons, List.not_mem_nil, or_false] at hr
    subst hr
    exact okR_of (by decide)⟩
  unfold pentaglotlaw10_awake pentaglotlaw10_awake.s
  rw [example_eq, Option.bind_some, paradigm_Cell_eq hM exDims, Option.bind_some, exCell]
  have e1 : pentaglotlaw10_single M [103, 101, 110, 100, 101, 114] [102] = some exF := rfl
  have e2 : pentaglotlaw10_single M [103, 101, 110, 100, 101, 114] [109] = some [⟨[103, 101, 110, 100, 101, 114], [109]⟩] := rfl
  rw [e1, Option.bind_some, paradigm_Underlying_eq hM hM2 exDims hs ha (by decide) hf hsz, Option.bind_some, exUnder, e2, Option.bind_some, paradigm_Unused_eq hM exDims hs ha (by decide) h64 hm, Option.bind_some, exUnused, paradigm_Count_eq hM exDims, Option.bind_some, exCount, paradigm_Number_eq hM exDims (by decide), Option.bind_some, exNum]
  rfl

end Go.Ai.Par
namespace Go.Ai.Par
open Go Go.Ai

/-! ### What the bound gives -/
abbrev Z (k : Nat) (t : Ty Nm) (x : den E.Γ t) : Nat := szT (szD E k) t x

theorem z_feature {k B : Nat} {f : api_Feature} (h : Z (k + 2) (.st .api_Feature) f ≤ B) : f.fName.length + f.fValue.length + 3 ≤ B := by
  have e : Z (k + 2) (.st .api_Feature) f = (f.fName.length + 1) + (f.fValue.length + 1) + 1 := rfl
  omega

theorem z_rec {k B : Nat} (hB : B ≤ 1048576) {r : List api_Feature} (h : Z (k + 2) (.sl (.st .api_Feature)) r ≤ B) : okR r ∧ r.length + 1 ≤ B := by
  obtain ⟨h1, h2⟩ := sl_le h
  have h1 : r.length + 1 ≤ B := h1
  exact ⟨⟨by omega, fun f hf => by have := z_feature (h2 f hf |> Nat.le_of_succ_le); exact ⟨by omega, by omega⟩⟩, h1⟩

theorem z_recs {k B : Nat} (hB : B ≤ 1048576) {r : List (List api_Feature)} (h : Z (k + 2) (.sl (.sl (.st .api_Feature))) r ≤ B) : okInh r := by
  obtain ⟨h1, h2⟩ := sl_le h
  have h1 : r.length + 1 ≤ B := h1
  exact ⟨by omega, fun f hf => (z_rec hB (h2 f hf |> Nat.le_of_succ_le)).1⟩

theorem z_affix {k B : Nat} (hB : B ≤ 1048576) {x : api_Affix} (h : Z (k + 3) (.st .api_Affix) x ≤ B) : okAffix x := by
  have e : Z (k + 3) (.st .api_Affix) x = Z (k + 2) (.sl (.st .api_Feature)) x.fWhen + ((x.fPrefix.length + 1) + (x.fSuffix.length + 1)) + 1 := rfl
  obtain ⟨h1, h2⟩ := z_rec (k := k) (B := B) hB (r := x.fWhen) (by omega)
  exact ⟨h1, by omega, by omega, by omega⟩

theorem z_slots {k B : Nat} (hB : B ≤ 1048576) {ss : List (List api_Affix)} (h : Z (k + 3) (.sl (.sl (.st .api_Affix))) ss ≤ B) : okSlots ss ∧ szS ss + 1 ≤ B := by
  obtain ⟨h1, h2⟩ := sl_le h
  have h1 : ss.length + 1 ≤ B := h1
  refine ⟨⟨by omega, fun s hs => ?_⟩, ?_⟩
  · obtain ⟨h3, h4⟩ := sl_le (h2 s hs |> Nat.le_of_succ_le)
    have h3 : s.length + 1 ≤ B := h3
    exact ⟨by omega, fun x hx => z_affix hB (h4 x hx |> Nat.le_of_succ_le)⟩
  · have e : Z (k + 3) (.sl (.sl (.st .api_Affix))) ss = (ss.map (Z (k + 3) (.sl (.st .api_Affix)))).sum + 1 := rfl
    have : szS ss ≤ (ss.map (Z (k + 3) (.sl (.st .api_Affix)))).sum := by
      unfold szS
      refine sum_mono fun s _ => ?_
      have e2 : Z (k + 3) (.sl (.st .api_Affix)) s = (s.map (Z (k + 3) (.st .api_Affix))).sum + 1 := rfl
      have : szA s ≤ (s.map (Z (k + 3) (.st .api_Affix))).sum := by
        unfold szA
        refine sum_mono fun x _ => ?_
        have e3 : Z (k + 3) (.st .api_Affix) x = Z (k + 2) (.sl (.st .api_Feature)) x.fWhen + ((x.fPrefix.length + 1) + (x.fSuffix.length + 1)) + 1 := rfl
        omega
      omega
    omega

theorem z_dims {k B : Nat} (hB : B ≤ 1048576) {ds : List api_Dimension} (h : Z (k + 2) (.sl (.st .api_Dimension)) ds ≤ B) : okDims ds := by
  obtain ⟨h1, h2⟩ := sl_le h
  have h1 : ds.length + 1 ≤ B := h1
  refine ⟨by omega, fun d hd => ?_⟩
  have h3 : Z (k + 2) (.st .api_Dimension) d + 1 ≤ B := h2 d hd
  have e : Z (k + 2) (.st .api_Dimension) d = (d.fName.length + 1) + Z (k + 1) (.sl .str) d.fValues + 1 := rfl
  have h4 : Z (k + 1) (.sl .str) d.fValues ≤ B := by omega
  obtain ⟨h5, h6⟩ := sl_le h4
  have h5 : d.fValues.length + 1 ≤ B := h5
  refine ⟨by omega, by omega, fun v hv => ?_⟩
  have h7 : (v.length + 1) + 1 ≤ B := h6 v hv
  omega

theorem z_par {k B : Nat} (hB : B ≤ 1048576) {p : api_Paradigm} (h : Z (k + 4) (.st .api_Paradigm) p ≤ B) : OkP p ∧ szS p.fSlots + 3 ≤ B := by
  have e : Z (k + 4) (.st .api_Paradigm) p = (p.fName.length + 1) + (Z (k + 3) (.sl (.st .api_Dimension)) p.fDimensions + Z (k + 3) (.sl (.sl (.st .api_Affix))) p.fSlots) + 1 := rfl
  have hd := szT_pos (E := E) (k + 2) (.sl (.st .api_Dimension)) p.fDimensions
  have hd' : 1 ≤ Z (k + 3) (.sl (.st .api_Dimension)) p.fDimensions := hd
  obtain ⟨h1, h2⟩ := z_slots (k := k) (B := B - 2) (by omega) (ss := p.fSlots) (by omega)
  have hdd : Z (k + 1 + 2) (.sl (.st .api_Dimension)) p.fDimensions ≤ B := by show Z (k + 3) (.sl (.st .api_Dimension)) p.fDimensions ≤ B; omega
  exact ⟨⟨by omega, z_dims (k := k + 1) hB hdd, h1, by omega⟩, by omega⟩

theorem z_letters {k B : Nat} (hB : B ≤ 1048576) {a : List api_Letter} (h : Z (k + 1) (.sl (.st .api_Letter)) a ≤ B) : a.length ≤ 1048576 := by
  obtain ⟨h1, _⟩ := sl_le h
  have h1 : a.length + 1 ≤ B := h1
  omega

abbrev Z8 (t : Ty Nm) (x : den E.Γ t) : Nat := szT (szD E 8) t x
theorem z8_rec {B : Nat} (hB : B ≤ 1048576) {r : List api_Feature} (h : Z8 (.sl (.st .api_Feature)) r ≤ B) : okR r ∧ r.length + 1 ≤ B := z_rec (k := 6) hB h
theorem z8_recs {B : Nat} (hB : B ≤ 1048576) {r : List (List api_Feature)} (h : Z8 (.sl (.sl (.st .api_Feature))) r ≤ B) : okInh r := z_recs (k := 6) hB h
theorem z8_affix {B : Nat} (hB : B ≤ 1048576) {x : api_Affix} (h : Z8 (.st .api_Affix) x ≤ B) : okAffix x := z_affix (k := 5) hB h
theorem z8_par {B : Nat} (hB : B ≤ 1048576) {p : api_Paradigm} (h : Z8 (.st .api_Paradigm) p ≤ B) : OkP p ∧ szS p.fSlots + 3 ≤ B := z_par (k := 4) hB h
theorem z8_letters {B : Nat} (hB : B ≤ 1048576) {a : List api_Letter} (h : Z8 (.sl (.st .api_Letter)) a ≤ B) : a.length ≤ 1048576 := z_letters (k := 7) hB h

end Go.Ai.Par
namespace Go.Ai.Par
open Go Go.Ai

/-! ### No cell stands twice -/
theorem valsF_nodup {vals : List (List UInt8)} : ∀ {r : List (List UInt8)} {i : Nat}, vals.drop i = r → valsF vals i r = true → (r.Pairwise fun x y => x ≠ y) ∧ ∀ x ∈ vals.take i, ∀ y ∈ r, x ≠ y
  | [], i, _, _ => ⟨List.Pairwise.nil, fun x _ y hy => (by cases hy)⟩
  | v :: r, i, hd, h => by
    simp only [valsF, Bool.and_eq_true, Bool.not_eq_true', List.any_eq_false] at h
    obtain ⟨⟨_, h1⟩, h2⟩ := h
    have hi : i < vals.length := by
      rcases Nat.lt_or_ge i vals.length with h | h
      · exact h
      · rw [List.drop_of_length_le h] at hd; cases hd
    have hc := List.drop_eq_getElem_cons hi
    rw [hd] at hc
    obtain ⟨e1, e2⟩ := List.cons.inj hc
    obtain ⟨g1, g2⟩ := valsF_nodup e2.symm h2
    rw [List.take_succ_eq_append_getElem hi, ← e1] at g2
    refine ⟨List.pairwise_cons.2 ⟨fun y hy => g2 v (by simp) y hy, g1⟩, fun x hx y hy => ?_⟩
    rcases List.mem_cons.1 hy with rfl | hy
    · have := h1 x hx
      simp only [decide_eq_true_eq] at this
      exact fun e => this e.symm
    · exact g2 x (by simp [hx]) y hy

theorem dimsF_vals {all : List api_Dimension} : ∀ {r : List api_Dimension} {i : Nat}, dimsF all i r = true → ∀ d ∈ r, d.fValues.Pairwise fun x y => x ≠ y
  | [], _, _, d, hd => by cases hd
  | e :: r, i, h, d, hd => by
    simp only [dimsF, dimOk, Bool.and_eq_true] at h
    rcases List.mem_cons.1 hd with rfl | hd
    · exact (valsF_nodup (i := 0) (by simp) h.1.1.2).1
    · exact dimsF_vals h.2 d hd

theorem choices_nodup : ∀ {ds : List api_Dimension}, (∀ d ∈ ds, d.fValues.Pairwise fun x y => x ≠ y) → (choices ds).Pairwise fun x y => x ≠ y
  | [], _ => List.pairwise_singleton _ _
  | d :: ds, h => by
    simp only [choices]
    rw [List.pairwise_flatMap]
    refine ⟨fun v _ => ?_, ?_⟩
    · rw [List.pairwise_map]
      exact (choices_nodup fun d hd => h d (List.mem_cons_of_mem _ hd)).imp fun hne e => hne (by simpa using e)
    · refine (h d (by simp)).imp fun {v w} hne x hx y hy e => ?_
      simp only [List.mem_map] at hx hy
      obtain ⟨x', _, rfl⟩ := hx
      obtain ⟨y', _, rfl⟩ := hy
      simp only [List.cons.injEq, api_Feature.mk.injEq, true_and] at e
      exact hne e.1

theorem cells_nodup (ds : List api_Dimension) : (cells ds).Pairwise fun x y => x ≠ y := by
  unfold cells
  cases hd : dimsOk ds with
  | false => exact List.Pairwise.nil
  | true =>
    have hg := dimsOk_good hd
    simp only [dimsOk, Bool.and_eq_true] at hd
    simp only [cond_true, allF]
    rw [List.pairwise_map]
    refine (choices_nodup (dimsF_vals hd.2)).imp_of_mem fun {x y} hx hy hne e => hne ?_
    have dx := distinct_of_names (choices_names hx) hg.names
    have dy := distinct_of_names (choices_names hy) hg.names
    have h1 := (pick_of (asc_distinct (rec_asc dx)) hx fun f hf => rec_mem.2 hf).1
    have h2 := (pick_of (asc_distinct (rec_asc dy)) hy fun f hf => rec_mem.2 hf).1
    rw [← h1, e, h2]

theorem fst_nodup {α : Type} [DecidableEq α] [Inhabited α] : ∀ {xs : List α} (n i : Nat), (xs.Pairwise fun x y => x ≠ y) → n < xs.length → fstIdx (fun c => decide (c = xs.getD n default)) xs i = ((i + n : Nat) : Int)
  | [], n, _, _, h => by simp at h
  | x :: xs, 0, i, _, _ => by simp [fstIdx]
  | x :: xs, n + 1, i, hp, h => by
    obtain ⟨h1, h2⟩ := List.pairwise_cons.1 hp
    have hl : n < xs.length := by simpa using h
    have hne : x ≠ xs.getD n default := h1 _ (getD_mem hl)
    have hg : (x :: xs).getD (n + 1) default = xs.getD n default := rfl
    simp only [fstIdx, hg, hne, decide_false, cond_false]
    rw [fst_nodup n (i + 1) h2 hl]
    omega

/-! ### What stands before a stem and behind it -/
def preS (r : List api_Feature) : List (List api_Affix) → List UInt8
  | [] => []
  | s :: ss => preS r ss ++ match pickA r s with
    | some x => x.fPrefix
    | none => []
def sufS (r : List api_Feature) : List (List api_Affix) → List UInt8
  | [] => []
  | s :: ss => (match pickA r s with
    | some x => x.fSuffix
    | none => []) ++ sufS r ss

theorem formS_wrap (r : List api_Feature) : ∀ (ss : List (List api_Affix)) (f : List UInt8), formS r ss f = (preS r ss ++ f) ++ sufS r ss
  | [], f => by simp [formS, preS, sufS]
  | s :: ss, f => by
    simp only [formS, preS, sufS, wrapA]
    rw [formS_wrap r ss]
    cases pickA r s with
    | none => simp
    | some x => simp

end Go.Ai.Par
