/- A part that the proofs of the laws of this seat share: an interpreter of loaded code over typed values, what it says of the functions that the laws reach, and plain facts on these. -/
import Derived.Test.YtejbamobkncfhaaDoorA0
import Derived.Test.YtejbamobkncfhaaDoorA1
import Derived.Test.YtejbamobkncfhaaDoorA2
import Derived.Test.YtejbamobkncfhaaDoorProg
import Derived.Shelf.SlSortCmp.SmallK
import Derived.Shelf.Small.Bits
import Derived.Shelf.Unicode.ValidAny
import Derived.Ground.SlsfProg
import Derived.Ground.NamesProg
import Derived.Laws.Cover1
/- Tools for the plain laws: loops by fuel, conditions, wraps. -/
namespace Go.Ai
open Go

section
variable {α β ρ σ : Type}

theorem cpos {p : Prop} [Decidable p] (h : p) (a b : α) : cond (decide p) a b = a := by simp [h]
theorem cneg {p : Prop} [Decidable p] (h : ¬p) (a b : α) : cond (decide p) a b = b := by simp [h]
theorem cpos2 {p q : Prop} [Decidable p] [Decidable q] (hp : p) (hq : q) (a b : α) : cond (decide p && decide q) a b = a := by simp [hp, hq]
theorem cpos3 {p q r : Prop} [Decidable p] [Decidable q] [Decidable r] (hp : p) (hq : q) (hr : r) (a b : α) : cond (decide p && (decide q && decide r)) a b = a := by simp [hp, hq, hr]
theorem cpos3' {p q r : Prop} [Decidable p] [Decidable q] [Decidable r] (hp : p) (hq : q) (hr : r) (a b : α) : cond (decide p && decide q && decide r) a b = a := by simp [hp, hq, hr]
theorem cneg2 {p q : Prop} [Decidable p] [Decidable q] (h : ¬(p ∧ q)) (a b : α) : cond (decide p && decide q) a b = b := by by_cases hp : p <;> by_cases hq : q <;> simp_all
theorem cnot (c : Bool) (a b : α) : cond (!c) a b = cond c b a := by cases c <;> rfl

/-- Lengths, for the discharger. -/
theorem len : (∀ a b : List α, (a ++ b).length = a.length + b.length) ∧ (∀ (x : α) (l : List α), (x :: l).length = l.length + 1) ∧ ([] : List α).length = 0 ∧ (∀ (n : Nat) (l : List α), (l.drop n).length = l.length - n) ∧ (∀ (n : Nat) (l : List α), (l.take n).length = min n l.length) :=
  ⟨fun _ _ => List.length_append, fun _ _ => rfl, rfl, fun _ _ => List.length_drop, fun _ _ => List.length_take⟩
theorem len0 : lim = 67108864 ∧ (∀ n : Nat, (n : Int).toNat = n) := ⟨rfl, Int.toNat_natCast⟩

theorem cdec_eq {p q : Prop} [Decidable p] [Decidable q] (h : p ↔ q) (a b : α) : cond (decide p) a b = cond (decide q) a b := by simp [h]

theorem agree_self (a : Option α) : agree a a = a := by unfold agree; simp

theorem wrap64 {n : Int} (h1 : -9223372036854775808 ≤ n) (h2 : n < 9223372036854775808) : IntKind.i64.wrap n = n := by
  unfold IntKind.wrap
  simp [IntKind.bits, IntKind.signed]
  omega

theorem wsucc {i : Nat} (h : i < 9223372036854775807) : IntKind.i64.wrap ((i : Int) + 1) = ((i + 1 : Nat) : Int) := by rw [wrap64] <;> omega

/-- A loop whose counter goes up to n; the spec may look at the counter and at a state. -/
theorem uptoFrom {lo n : Nat} {f : Nat → Int → σ → Option ρ} {g : Nat → σ → Option ρ} (hexit : ∀ k s, f (k + 1) (n : Int) s = g n s)
    (hstep : ∀ k (i : Nat) s, lo ≤ i → i < n → (∀ s', f k ((i + 1 : Nat) : Int) s' = g (i + 1) s') → f (k + 1) (i : Int) s = g i s) : ∀ (d k i : Nat) (s : σ), lo ≤ i → i + d = n → d < k → f k (i : Int) s = g i s := by
  intro d
  induction d with
  | zero =>
    intro k i s hlo h hk
    obtain ⟨k, rfl⟩ := Nat.exists_eq_succ_of_ne_zero (by omega : k ≠ 0)
    have e : i = n := by omega
    subst e; exact hexit k s
  | succ d ih =>
    intro k i s hlo h hk
    obtain ⟨k, rfl⟩ := Nat.exists_eq_succ_of_ne_zero (by omega : k ≠ 0)
    exact hstep k i s hlo (by omega) fun s' => ih k (i + 1) s' (by omega) (by omega) (by omega)

theorem upto {n : Nat} {f : Nat → Int → σ → Option ρ} {g : Nat → σ → Option ρ} (hexit : ∀ k s, f (k + 1) (n : Int) s = g n s)
    (hstep : ∀ k (i : Nat) s, i < n → (∀ s', f k ((i + 1 : Nat) : Int) s' = g (i + 1) s') → f (k + 1) (i : Int) s = g i s) (d k i : Nat) (s : σ) (h : i + d = n) (hk : d < k) : f k (i : Int) s = g i s :=
  uptoFrom (lo := 0) hexit (fun k i s _ => hstep k i s) d k i s (Nat.zero_le _) h hk

theorem dropCons [Inhabited α] {xs : List α} {i : Nat} (h : i < xs.length) : ∃ y t, xs.drop i = y :: t ∧ xs.getD i default = y ∧ xs.drop (i + 1) = t :=
  ⟨xs[i], xs.drop (i + 1), List.drop_eq_getElem_cons h, by simp [h], rfl⟩

theorem drop_suffix {l p t : List α} (h : l = p ++ t) : l.drop (l.length - t.length) = t := by subst h; simp

/-- A loop over a list by its index: the spec goes over the rest of the list; i is where it stands. -/
theorem overI [Inhabited α] {xs : List α} {f : Nat → Int → σ → Option ρ} {g : Nat → List α → σ → Option ρ} (hnil : ∀ k s, f (k + 1) (xs.length : Int) s = g xs.length [] s)
    (hcons : ∀ k (i : Nat) x r s, i < xs.length → xs.getD i default = x → xs.drop i = x :: r → xs.drop (i + 1) = r → (∀ s', f k ((i + 1 : Nat) : Int) s' = g (i + 1) r s') → f (k + 1) (i : Int) s = g i (x :: r) s)
    {k : Nat} (hk : xs.length < k) (s : σ) : f k 0 s = g 0 xs s := by
  have := upto (n := xs.length) (f := f) (g := fun i s => g i (xs.drop i) s) (fun k s => by simpa using hnil k s) (fun k i s hi ih => by
    have e : xs.drop i = xs[i] :: xs.drop (i + 1) := List.drop_eq_getElem_cons hi
    have := hcons k i xs[i] (xs.drop (i + 1)) s hi (by simp [hi]) e rfl ih
    simp only [e]
    exact this) xs.length k 0 s (by omega) hk
  simpa using this

/-- .. where the spec does not look at the index. -/
theorem over [Inhabited α] {xs : List α} {f : Nat → Int → σ → Option ρ} {g : List α → σ → Option ρ} (hnil : ∀ k s, f (k + 1) (xs.length : Int) s = g [] s)
    (hcons : ∀ k (i : Nat) x r s, i < xs.length → xs.getD i default = x → (∀ s', f k ((i + 1 : Nat) : Int) s' = g r s') → f (k + 1) (i : Int) s = g (x :: r) s)
    {k : Nat} (hk : xs.length < k) (s : σ) : f k 0 s = g xs s :=
  overI (g := fun _ xs s => g xs s) hnil (fun k i x r s h1 h2 _ _ h3 => hcons k i x r s h1 h2 h3) hk s

/-- .. with something that holds of the state. -/
theorem overJ [Inhabited α] {xs : List α} {f : Nat → Int → σ → Option ρ} {g : Nat → List α → σ → Option ρ} {I : Nat → σ → Prop} (hnil : ∀ k s, I xs.length s → f (k + 1) (xs.length : Int) s = g xs.length [] s)
    (hcons : ∀ k (i : Nat) x r s, i < xs.length → I i s → xs.getD i default = x → xs.drop i = x :: r → xs.drop (i + 1) = r → (∀ s', I (i + 1) s' → f k ((i + 1 : Nat) : Int) s' = g (i + 1) r s') → f (k + 1) (i : Int) s = g i (x :: r) s)
    {k : Nat} (hk : xs.length < k) {s : σ} (hs : I 0 s) : f k 0 s = g 0 xs s := by
  suffices h : ∀ (d k i : Nat) (s : σ), i + d = xs.length → d < k → I i s → f k (i : Int) s = g i (xs.drop i) s by
    have := h xs.length k 0 s (by omega) hk hs
    simpa using this
  intro d
  induction d with
  | zero =>
    intro k i s h hk hI
    obtain ⟨k, rfl⟩ := Nat.exists_eq_succ_of_ne_zero (by omega : k ≠ 0)
    have e : i = xs.length := by omega
    subst e
    rw [List.drop_length]
    exact hnil k s hI
  | succ d ih =>
    intro k i s h hk hI
    obtain ⟨k, rfl⟩ := Nat.exists_eq_succ_of_ne_zero (by omega : k ≠ 0)
    obtain ⟨x, r, h1, h2, h3⟩ := dropCons (xs := xs) (i := i) (by omega)
    rw [h1]
    exact hcons k i x r s (by omega) hI h2 h1 h3 fun s' hs' => by rw [← h3]; exact ih k (i + 1) s' (by omega) (by omega) hs'

end

theorem bt_getD (s : List UInt8) (i : Nat) : bt s i = ((s.getD i default).toNat : Int) := rfl

theorem dec_pos (s : List UInt8) (p : Nat) : 1 ≤ (dec s p).2 := by
  unfold dec Utf8.decode
  dsimp only
  repeat' split
  all_goals simp

theorem enc_length (n : Int) : (enc n).length ≤ 4 := by
  unfold enc Utf8.encode
  dsimp only
  generalize (if Utf8.valid n = true then n.toNat else Utf8.runeError) = c
  repeat' split
  all_goals simp

/-- How many runes: from a place on, with so many rounds at most. -/
def runesAt (s : List UInt8) : Nat → Nat → Nat → Nat
  | 0, _, n => n
  | k + 1, p, n => cond (decide (p < s.length)) (runesAt s k (p + (dec s p).2) (n + 1)) n
def runes (s : List UInt8) : Nat := runesAt s s.length 0 0

theorem runesAt_le (s : List UInt8) : ∀ (k p n : Nat), runesAt s k p n ≤ n + k
  | 0, p, n => Nat.le_refl _
  | k + 1, p, n => by
    simp only [runesAt]
    by_cases h : p < s.length
    · rw [cpos h]; have := runesAt_le s k (p + (dec s p).2) (n + 1); omega
    · rw [cneg h]; omega
theorem runes_le (s : List UInt8) : runes s ≤ s.length := by have := runesAt_le s s.length 0 0; unfold runes; omega

/-- A loop over the runes of a string that counts them. -/
theorem runes_loop {ρ : Type} {s : List UInt8} {f : Nat → Int → Nat → Option ρ} {g : Nat → Option ρ} (hs : s.length ≤ 1099511627776) (hstep : ∀ (k n p : Nat), p < s.length → f (k + 1) (n : Int) p = f k (IntKind.i64.wrap ((n : Int) + 1)) (p + (dec s p).2)) (hend : ∀ (k n p : Nat), ¬ p < s.length → f (k + 1) (n : Int) p = g n) :
    ∀ (q k n p : Nat), s.length - p ≤ q → q < k → n ≤ p → f k (n : Int) p = g (runesAt s q p n)
  | 0, k, n, p, h, hk, hn => by
    obtain ⟨k, rfl⟩ := Nat.exists_eq_succ_of_ne_zero (by omega : k ≠ 0)
    exact hend k n p (by omega)
  | q + 1, k, n, p, h, hk, hn => by
    obtain ⟨k, rfl⟩ := Nat.exists_eq_succ_of_ne_zero (by omega : k ≠ 0)
    simp only [runesAt]
    by_cases hp : p < s.length
    · have := dec_pos s p
      rw [cpos hp, Nat.succ_eq_add_one, hstep k n p hp, wsucc (by omega)]
      exact runes_loop hs hstep hend q k (n + 1) (p + (dec s p).2) (by omega) (by omega) (by omega)
    · rw [cneg hp]; exact hend k n p hp

/-- The first place at which p holds, or -1. -/
def fstIdx {α : Type} (p : α → Bool) : List α → Nat → Int
  | [], _ => -1
  | x :: xs, i => cond (p x) (i : Int) (fstIdx p xs (i + 1))

theorem fstIdx_cases {α : Type} (p : α → Bool) : ∀ (xs : List α) (i : Nat), (xs.any p = false ∧ fstIdx p xs i = -1) ∨ ∃ j : Nat, ∃ h : j < xs.length, p xs[j] = true ∧ (∀ k : Nat, ∀ h' : k < j, p (xs[k]'(by omega)) = false) ∧ fstIdx p xs i = ((i + j : Nat) : Int) ∧ xs.any p = true
  | [], i => .inl ⟨rfl, rfl⟩
  | x :: xs, i => by
    simp only [fstIdx, List.any_cons]
    cases hx : p x with
    | true => exact .inr ⟨0, by simp, by simpa using hx, fun k h => by omega, by simp, by simp⟩
    | false =>
      rcases fstIdx_cases p xs (i + 1) with ⟨h1, h2⟩ | ⟨j, h, h1, h2, h3, h4⟩
      · exact .inl ⟨by simpa using h1, h2⟩
      · refine .inr ⟨j + 1, by simp only [List.length_cons]; omega, by simpa using h1, fun k hk => ?_, ?_, by simpa using h4⟩
        · cases k with
          | zero => simpa using hx
          | succ k => simpa using h2 k (by omega)
        · simp only [cond_false, h3]; omega

theorem fstIdx_nonneg {α : Type} (p : α → Bool) (xs : List α) (i : Nat) : decide (0 ≤ fstIdx p xs i) = xs.any p := by
  rcases fstIdx_cases p xs i with ⟨h1, h2⟩ | ⟨j, h, h1, h2, h3, h4⟩
  · rw [h1, h2]; rfl
  · rw [h3, h4]; simp; omega

theorem fstIdx_lt {α : Type} (p : α → Bool) (xs : List α) : fstIdx p xs 0 < xs.length := by
  rcases fstIdx_cases p xs 0 with ⟨h1, h2⟩ | ⟨j, h, h1, h2, h3, h4⟩ <;> omega

theorem mget_mput {α γ : Type} {eq : α → α → Bool} (h1 : ∀ a b, eq a b = true ↔ a = b) (x z : α) (y : γ) : ∀ m : List (α × γ), mget eq (mput eq m x y) z = cond (eq z x) (some y) (mget eq m z)
  | [] => by simp only [mput, mget]; cases eq z x <;> rfl
  | (k, v) :: r => by
    simp only [mput]
    cases hx : eq x k with
    | true =>
      have e := (h1 x k).1 hx
      subst e
      simp only [mget]
      cases eq z x <;> rfl
    | false =>
      simp only [mget, mget_mput h1 x z y r]
      cases hz : eq z k with
      | true =>
        have e := (h1 z k).1 hz
        subst e
        have : eq z x = false := by
          cases hzx : eq z x with
          | false => rfl
          | true => have e := (h1 z x).1 hzx; subst e; rw [hz] at hx; cases hx
        rw [this]; rfl
      | false => rfl

/-! ### The order of strings -/
theorem bl_irrefl : ∀ x : List UInt8, Op.bytesLess x x = false
  | [] => rfl
  | a :: x => by simp [Op.bytesLess, bl_irrefl x]

theorem bl_trans : ∀ {x y z : List UInt8}, Op.bytesLess x y = true → Op.bytesLess y z = true → Op.bytesLess x z = true
  | _, _, [], _, h => by simp [Op.bytesLess] at h
  | _, [], _ :: _, h, _ => by simp [Op.bytesLess] at h
  | [], _ :: _, _ :: _, _, _ => rfl
  | a :: x, b :: y, c :: z, h1, h2 => by
    simp only [Op.bytesLess, Bool.or_eq_true, Bool.and_eq_true, decide_eq_true_eq, beq_iff_eq] at h1 h2 ⊢
    rcases h1 with h1 | ⟨rfl, h1⟩
    · rcases h2 with h2 | ⟨rfl, h2⟩
      · exact .inl (by rw [UInt8.lt_iff_toNat_lt] at *; omega)
      · exact .inl h1
    · rcases h2 with h2 | ⟨rfl, h2⟩
      · exact .inl h2
      · exact .inr ⟨rfl, bl_trans h1 h2⟩

theorem bl_tri : ∀ {x y : List UInt8}, Op.bytesLess x y = false → Op.bytesLess y x = false → x = y
  | [], [], _, _ => rfl
  | [], _ :: _, h, _ => by simp [Op.bytesLess] at h
  | _ :: _, [], _, h => by simp [Op.bytesLess] at h
  | a :: x, b :: y, h1, h2 => by
    simp only [Op.bytesLess, Bool.or_eq_false_iff, Bool.and_eq_false_iff, decide_eq_false_iff_not, beq_eq_false_iff_ne] at h1 h2
    have e : a = b := by
      have h3 := h1.1; have h4 := h2.1
      rw [UInt8.lt_iff_toNat_lt] at h3 h4
      exact UInt8.toNat_inj.1 (by omega)
    subst e
    rw [bl_tri (h1.2.resolve_left (fun h => h rfl)) (h2.2.resolve_left (fun h => h rfl))]

theorem bl_asymm {x y : List UInt8} (h : Op.bytesLess x y = true) : Op.bytesLess y x = false := by
  cases hyx : Op.bytesLess y x with
  | false => rfl
  | true => have := bl_trans h hyx; rw [bl_irrefl] at this; cases this

theorem bl_ne {x y : List UInt8} (h : Op.bytesLess x y = true) : x ≠ y := fun e => by rw [e, bl_irrefl] at h; cases h

/-- A sum of sizes bounds each, and the length. -/
theorem sum_mem {α : Type} (f : α → Nat) {xs : List α} {x : α} (h : x ∈ xs) : f x ≤ (xs.map f).sum := by
  induction xs with
  | nil => cases h
  | cons y ys ih =>
    simp only [List.map_cons, List.sum_cons]
    rcases List.mem_cons.1 h with rfl | h
    · omega
    · have := ih h; omega

theorem sum_len {α : Type} (f : α → Nat) {xs : List α} (h : ∀ x ∈ xs, 1 ≤ f x) : xs.length ≤ (xs.map f).sum := by
  induction xs with
  | nil => simp
  | cons y ys ih =>
    have h1 := h y (by simp)
    have h2 := ih fun x hx => h x (List.mem_cons_of_mem _ hx)
    simp only [List.map_cons, List.sum_cons, List.length_cons]
    omega

end Go.Ai
set_option linter.unusedVariables false
set_option linter.unusedSectionVars false
noncomputable section
namespace Go.Ai.Pav
open Go Go.Ai Go.Proofs
noncomputable def sigs30 (M : Nat) : List (Nat × Sig E) := []
noncomputable def rs30 (M : Nat) : List (Nat × Sig E) := []
noncomputable def its30 (M : Nat) : List (Nat × It E) := []
theorem sigs_ok30 (M : Nat) : SigsOk Tryd.prog (sigs30 M) := SigsOk.nil
theorem rs_ok30 (M : Nat) : SigsOk Tryd.prog (rs30 M) := SigsOk.nil
theorem its_ok30 (M : Nat) : ItsOk Tryd.prog (its30 M) := ItsOk.nil
noncomputable def C30 (M : Nat) : Ctx E := { ti := fun t => tisE.lookup t, sig := fun f => (sigs30 M).lookup f, it := fun f => (its30 M).lookup f, nt := 34 }
theorem SigOk_C30 (M : Nat) : SigOk Tryd.prog (C30 M) := sigs_ok30 M
theorem RSigOk_C30 (M : Nat) : SigOk Tryd.prog ({ ti := fun _ => none, sig := fun f => (rs30 M).lookup f } : Ctx E) := rs_ok30 M
theorem ItOk_C30 (M : Nat) : ItOk Tryd.prog (C30 M) := (its_ok30 M).ok
namespace feature_name
noncomputable def plans : List (Option (Plan Nm)) := [none, none, some { tmps := [(0, .asis), (3, .asis)], boxes := [] }, none, none, none, some { tmps := [(0, .asis), (3, .asis), (31, .asis)], boxes := [] }, none, none, none, none]
noncomputable abbrev body : Code := bodyOf Tryd.f30
def ps : List (Ty Nm) := [.str]
def rs : List (Ty Nm) := [.bool]
def ex : List (Option Nat) := [none]
noncomputable def inl : List (Nat × Nat × Nat × Inl Nm) := []
theorem inl_ok : InlsOk Tryd.prog inl := InlsOk.nil
noncomputable def X (M : Nat) : Ext E Bool := extOf (C30 M) (inlOf inl) (fun f => (rs30 M).lookup f) (fun _ _ _ => none) noX M 1
abbrev Rt := Bool
noncomputable def H (M : Nat) : Hd E Rt := hd0 (X M)
theorem Hok (M : Nat) : (H M).ok (C30 M) M := hd0_ok _
abbrev Qt2 : List Dir := [.r, .l, .r, .k, .L, .r, .l, .k, .r]
abbrev Ht2 := Int → (List UInt8) → Bool → Option Rt
abbrev Qt1 : List Dir := [.r, .l, .r, .k]
abbrev Ht1 := (List UInt8) → Int → Option Rt
abbrev Zt := List Dir → St E → Option Rt
abbrev Ut := St E → Option Rt
noncomputable def s2 (M : Nat) (h1 : Ht1) (i3_1 : Int) (sa0_0 : (List UInt8)) (x31_2 : Bool) : Option Rt :=
  cond (x31_2)
   (some false)
   (h1 sa0_0 (IntKind.i64.wrap (i3_1 + 1)))
noncomputable def j2 (M : Nat) (h1 : Ht1) (i3_1 : Int) (sa0_0 : (List UInt8)) (x31_2 : Bool) : Option Rt :=
  s2 M h1 i3_1 sa0_0 x31_2
noncomputable def s1 (M : Nat) (h2 : Ht2) (sa0_0 : (List UInt8)) (i3_1 : Int) : Option Rt :=
  cond (decide (i3_1 < (sa0_0.length : Int)))
   (cond (decide (0 ≤ i3_1) && decide (i3_1 < (sa0_0.length : Int)))
     (cond (decide ((bt sa0_0 i3_1.toNat) < 97))
       (cond (decide ((bt sa0_0 i3_1.toNat) < 48))
         (h2 i3_1 sa0_0 (!decide ((bt sa0_0 i3_1.toNat) = 45)))
         (cond (decide (57 < (bt sa0_0 i3_1.toNat)))
           (h2 i3_1 sa0_0 (!decide ((bt sa0_0 i3_1.toNat) = 45)))
           (h2 i3_1 sa0_0 false)))
       (cond (decide (122 < (bt sa0_0 i3_1.toNat)))
         (cond (decide ((bt sa0_0 i3_1.toNat) < 48))
           (h2 i3_1 sa0_0 (!decide ((bt sa0_0 i3_1.toNat) = 45)))
           (cond (decide (57 < (bt sa0_0 i3_1.toNat)))
             (h2 i3_1 sa0_0 (!decide ((bt sa0_0 i3_1.toNat) = 45)))
             (h2 i3_1 sa0_0 false)))
         (h2 i3_1 sa0_0 false)))
     none)
   (some (!decide (sa0_0 = [])))
noncomputable def l1 (M : Nat) : Nat → Ht1
  | 0, _, _ => none
  | k + 1, sa0_0, i3_1 => s1 M (j2 M (l1 M k)) sa0_0 i3_1
noncomputable def s (M : Nat) (h1 : Ht1) (sa0_0 : (List UInt8)) : Option Rt :=
  h1 sa0_0 0
end feature_name
noncomputable def feature_name (M : Nat) (sa0_0 : (List UInt8)) : Option Bool :=
  feature_name.s M (feature_name.l1 M M) sa0_0
namespace feature_name
noncomputable def S2 (i3_1 : Int) (sa0_0 : (List UInt8)) (x31_2 : Bool) : St E :=
  mkSt 34 34 [(0, .one (.tv (.str sa0_0))), (3, .one (.tv (.int .i64 i3_1))), (31, .one (.tv (.bool x31_2)))] [] 0 [] [] false
noncomputable def S1 (sa0_0 : (List UInt8)) (i3_1 : Int) : St E :=
  mkSt 34 34 [(0, .one (.tv (.str sa0_0))), (3, .one (.tv (.int .i64 i3_1)))] [] 0 [] [] false
noncomputable def K (M : Nat) : Cont E Bool := kRet (C30 M) Tryd.f30.results.toList rs ex
noncomputable abbrev zA (M : Nat) (ZL : List Dir → Option (Ut)) (q : List Dir) : Ut := zAt (C30 M) (H M) M 0 ZL body plans (K M) q
noncomputable abbrev lA (M : Nat) (ZL : List Dir → Option (Ut)) (q : List Dir) (k : Nat) : Ut := lpAt (C30 M) (H M) M 0 ZL body plans (K M) q k
noncomputable abbrev gA (M : Nat) (Z : Zt) (q : List Dir) : Ut := seg (C30 M) (H M) 0 Z body plans (K M) q
set_option maxRecDepth 100000
theorem g2 (M : Nat) (Z : Zt) (i3_1 : Int) (sa0_0 : (List UInt8)) (x31_2 : Bool) : gA M Z Qt2 (S2 i3_1 sa0_0 x31_2) = s2 M
    (fun sa0_0 i3_1 => Z Qt1 (S1 sa0_0 i3_1)) i3_1 sa0_0 x31_2 := by kernel_rfl
theorem g1 (M : Nat) (Z : Zt) (sa0_0 : (List UInt8)) (i3_1 : Int) : gA M Z Qt1 (S1 sa0_0 i3_1) = s1 M
    (fun i3_1 sa0_0 x31_2 => Z Qt2 (S2 i3_1 sa0_0 x31_2)) sa0_0 i3_1 := by kernel_rfl
theorem g (M : Nat) (Z : Zt) (sa0_0 : (List UInt8)) : runZ (C30 M) (extZ (C30 M) (H M) 0) Z body plans (start (argHs ps sa0_0) Tryd.f30.ntmps 34) (K M) = s M
    (fun sa0_0 i3_1 => Z Qt1 (S1 sa0_0 i3_1)) sa0_0 := by kernel_rfl
theorem e2 (M : Nat) (Z1 : Ut) (h1 : Ht1) (hZ1 : ∀ (sa0_0 : (List UInt8)) (i3_1 : Int), Z1 (S1 sa0_0 i3_1) = h1 sa0_0 i3_1) (i3_1 : Int) (sa0_0 : (List UInt8)) (x31_2 : Bool) : zA M (zlq Qt2 [Z1]) Qt2 (S2 i3_1 sa0_0 x31_2) = j2 M h1 i3_1 sa0_0 x31_2 := by
  refine (seg_join (Hok M) 0 Qt2 body plans (K M) _ (S2 i3_1 sa0_0 x31_2) (around_zlq _ _ (by kernel_rfl)) (by kernel_rfl)).trans ?_
  refine (g2 M _ i3_1 sa0_0 x31_2).trans ?_
  have x0 := (funext fun sa0_0 => funext fun i3_1 => Eq.trans (b := Z1 (S1 sa0_0 i3_1)) (by kernel_rfl) (hZ1 sa0_0 i3_1) : (fun sa0_0 i3_1 => zA M (zlq Qt2 [Z1]) Qt1 (S1 sa0_0 i3_1)) = h1)
  rw [x0]; rfl
theorem el1 (M : Nat) (k : Nat) (sa0_0 : (List UInt8)) (i3_1 : Int) : lA M (zlq Qt1 []) Qt1 k (S1 sa0_0 i3_1) = l1 M k sa0_0 i3_1 := by
  induction k generalizing sa0_0 i3_1 with
  | zero => kernel_rfl
  | succ k ih =>
    refine Eq.trans (b := lA M (zlq Qt1 [lA M (zlq Qt1 []) Qt1 k]) Qt1 (k + 1) (S1 sa0_0 i3_1)) (by kernel_rfl) ?_
    refine (seg_loop (Hok M) 0 Qt1 body plans (K M) _ (S1 sa0_0 i3_1) (around_zlq _ _ (by kernel_rfl)) (by kernel_rfl) (by kernel_rfl)).trans ?_
    refine (g1 M _ sa0_0 i3_1).trans ?_
    have x0 := (funext fun i3_1 => funext fun sa0_0 => funext fun x31_2 => Eq.trans (b := zA M (zlq Qt2 [(lA M (zlq Qt1 []) Qt1 k)]) Qt2 (S2 i3_1 sa0_0 x31_2)) (by kernel_rfl) (e2 M (lA M (zlq Qt1 []) Qt1 k) (l1 M k) (fun sa0_0 i3_1 => ih sa0_0 i3_1) i3_1 sa0_0 x31_2) : (fun i3_1 sa0_0 x31_2 => zA M (zlq Qt1 [lA M (zlq Qt1 []) Qt1 k]) Qt2 (S2 i3_1 sa0_0 x31_2)) = j2 M (l1 M k))
    rw [x0]; rfl
theorem e1 (M : Nat) (sa0_0 : (List UInt8)) (i3_1 : Int) : zA M (zlq Qt1 []) Qt1 (S1 sa0_0 i3_1) = l1 M M sa0_0 i3_1 :=
  Eq.trans (b := lA M (zlq Qt1 []) Qt1 M (S1 sa0_0 i3_1)) (by kernel_rfl) (el1 M M sa0_0 i3_1)
theorem run (M : Nat) (sa0_0 : (List UInt8)) : runF (rs := rs) (C30 M) (X M) M body Tryd.f30.ntmps 34 Tryd.f30.results.toList plans ps ex sa0_0 = feature_name M sa0_0 := by
  refine Eq.trans (b := runC (C30 M) (X M) M body plans (start (argHs ps sa0_0) Tryd.f30.ntmps 34) (K M)) (by kernel_rfl) ?_
  refine (zrun (Hok M) 0 body plans _ (K M) (fun _ => none) fun _ => rfl).symm.trans ?_
  refine (g M _ sa0_0).trans ?_
  have x0 := (funext fun sa0_0 => funext fun i3_1 => Eq.trans (b := zA M (zlq Qt1 []) Qt1 (S1 sa0_0 i3_1)) (by kernel_rfl) (e1 M sa0_0 i3_1) : (fun sa0_0 i3_1 => zA M (fun _ => none) Qt1 (S1 sa0_0 i3_1)) = l1 M M)
  rw [x0]; rfl
noncomputable def sig (M : Nat) : Sig E := { ps := ps, rs := rs, ex := ex, fn := fun x => feature_name M x }
theorem says (M : Nat) : callable Tryd.prog 30 = true ∧ ∀ x y, (sig M).fn x = some y → Says Tryd.prog 30 (sig M) x y := by
  refine ⟨by kernel_rfl, fun x y h => ?_⟩
  refine says_of_run (S := sig M) (C := C30 M) (X := X M) (M := M) (q := 34) (plans := plans) (COk_Tryd) (SigOk_C30 M) (ItOk_C30 M) (by kernel_rfl) (callOk_ext COk_Tryd (SigOk_C30 M) (ItOk_C30 M) (by kernel_rfl) inl_ok.ok (RSigOk_C30 M) (fun _ => callOk_none) M 1) (Tryd.func30) (body := body) (by kernel_rfl) (by kernel_rfl) ?_
  exact (run M x).trans h
end feature_name
end Go.Ai.Pav
end
set_option linter.unusedVariables false
set_option linter.unusedSectionVars false
noncomputable section
namespace Go.Ai.Pav
open Go Go.Ai Go.Proofs
noncomputable def sigs27 (M : Nat) : List (Nat × Sig E) := []
noncomputable def rs27 (M : Nat) : List (Nat × Sig E) := []
noncomputable def its27 (M : Nat) : List (Nat × It E) := []
theorem sigs_ok27 (M : Nat) : SigsOk Tryd.prog (sigs27 M) := SigsOk.nil
theorem rs_ok27 (M : Nat) : SigsOk Tryd.prog (rs27 M) := SigsOk.nil
theorem its_ok27 (M : Nat) : ItsOk Tryd.prog (its27 M) := ItsOk.nil
noncomputable def C27 (M : Nat) : Ctx E := { ti := fun t => tisE.lookup t, sig := fun f => (sigs27 M).lookup f, it := fun f => (its27 M).lookup f, nt := 19 }
theorem SigOk_C27 (M : Nat) : SigOk Tryd.prog (C27 M) := sigs_ok27 M
theorem RSigOk_C27 (M : Nat) : SigOk Tryd.prog ({ ti := fun _ => none, sig := fun f => (rs27 M).lookup f } : Ctx E) := rs_ok27 M
theorem ItOk_C27 (M : Nat) : ItOk Tryd.prog (C27 M) := (its_ok27 M).ok
namespace slices_Index_string_string
noncomputable def plans : List (Option (Plan Nm)) := [none, none, some { tmps := [(0, .asis), (1, .asis), (7, .asis), (8, .asis)], boxes := [] }, none, none, none, none, none, none, none, none]
noncomputable abbrev body : Code := bodyOf Tryd.f27
def ps : List (Ty Nm) := [(.sl .str), .str]
def rs : List (Ty Nm) := [(.int .i64)]
def ex : List (Option Nat) := [none]
noncomputable def inl : List (Nat × Nat × Nat × Inl Nm) := []
theorem inl_ok : InlsOk Tryd.prog inl := InlsOk.nil
noncomputable def X (M : Nat) : Ext E Int := extOf (C27 M) (inlOf inl) (fun f => (rs27 M).lookup f) (fun _ _ _ => none) noX M 1
abbrev Rt := Int
noncomputable def H (M : Nat) : Hd E Rt := hd0 (X M)
theorem Hok (M : Nat) : (H M).ok (C27 M) M := hd0_ok _
abbrev Qt1 : List Dir := [.r, .l, .r, .k]
abbrev Ht1 := (List (List UInt8)) → (List UInt8) → Int → Option Rt
abbrev Zt := List Dir → St E → Option Rt
abbrev Ut := St E → Option Rt
noncomputable def s1 (M : Nat) (h1 : Ht1) (sa0_0 : (List (List UInt8))) (va1_0 : (List UInt8)) (x8_1 : Int) : Option Rt :=
  cond (decide (x8_1 < (sa0_0.length : Int)))
   (cond (decide (0 ≤ x8_1) && decide (x8_1 < (sa0_0.length : Int)))
     (cond (decide (va1_0 = (sa0_0.getD x8_1.toNat default)))
       (some x8_1)
       (h1 sa0_0 va1_0 (IntKind.i64.wrap (x8_1 + 1))))
     none)
   (some (-1))
noncomputable def l1 (M : Nat) : Nat → Ht1
  | 0, _, _, _ => none
  | k + 1, sa0_0, va1_0, x8_1 => s1 M (l1 M k) sa0_0 va1_0 x8_1
noncomputable def s (M : Nat) (h1 : Ht1) (sa0_0 : (List (List UInt8))) (va1_0 : (List UInt8)) : Option Rt :=
  h1 sa0_0 va1_0 0
end slices_Index_string_string
noncomputable def slices_Index_string_string (M : Nat) (sa0_0 : (List (List UInt8))) (va1_0 : (List UInt8)) : Option Int :=
  slices_Index_string_string.s M (slices_Index_string_string.l1 M M) sa0_0 va1_0
namespace slices_Index_string_string
noncomputable def S1 (sa0_0 : (List (List UInt8))) (va1_0 : (List UInt8)) (x8_1 : Int) : St E :=
  mkSt 19 19 [(0, .one (.tv (.sl .str sa0_0))), (1, .one (.tv (.str va1_0))), (7, .one (.tv (.int .i64 (sa0_0.length : Int)))), (8, .one (.tv (.int .i64 x8_1)))] [] 0 [] [] false
noncomputable def K (M : Nat) : Cont E Int := kRet (C27 M) Tryd.f27.results.toList rs ex
noncomputable abbrev zA (M : Nat) (ZL : List Dir → Option (Ut)) (q : List Dir) : Ut := zAt (C27 M) (H M) M 0 ZL body plans (K M) q
noncomputable abbrev lA (M : Nat) (ZL : List Dir → Option (Ut)) (q : List Dir) (k : Nat) : Ut := lpAt (C27 M) (H M) M 0 ZL body plans (K M) q k
noncomputable abbrev gA (M : Nat) (Z : Zt) (q : List Dir) : Ut := seg (C27 M) (H M) 0 Z body plans (K M) q
set_option maxRecDepth 100000
theorem g1 (M : Nat) (Z : Zt) (sa0_0 : (List (List UInt8))) (va1_0 : (List UInt8)) (x8_1 : Int) : gA M Z Qt1 (S1 sa0_0 va1_0 x8_1) = s1 M
    (fun sa0_0 va1_0 x8_1 => Z Qt1 (S1 sa0_0 va1_0 x8_1)) sa0_0 va1_0 x8_1 := by kernel_rfl
theorem g (M : Nat) (Z : Zt) (sa0_0 : (List (List UInt8))) (va1_0 : (List UInt8)) : runZ (C27 M) (extZ (C27 M) (H M) 0) Z body plans (start (argHs ps (sa0_0, va1_0)) Tryd.f27.ntmps 19) (K M) = s M
    (fun sa0_0 va1_0 x8_1 => Z Qt1 (S1 sa0_0 va1_0 x8_1)) sa0_0 va1_0 := by kernel_rfl
theorem el1 (M : Nat) (k : Nat) (sa0_0 : (List (List UInt8))) (va1_0 : (List UInt8)) (x8_1 : Int) : lA M (zlq Qt1 []) Qt1 k (S1 sa0_0 va1_0 x8_1) = l1 M k sa0_0 va1_0 x8_1 := by
  induction k generalizing sa0_0 va1_0 x8_1 with
  | zero => kernel_rfl
  | succ k ih =>
    refine Eq.trans (b := lA M (zlq Qt1 [lA M (zlq Qt1 []) Qt1 k]) Qt1 (k + 1) (S1 sa0_0 va1_0 x8_1)) (by kernel_rfl) ?_
    refine (seg_loop (Hok M) 0 Qt1 body plans (K M) _ (S1 sa0_0 va1_0 x8_1) (around_zlq _ _ (by kernel_rfl)) (by kernel_rfl) (by kernel_rfl)).trans ?_
    refine (g1 M _ sa0_0 va1_0 x8_1).trans ?_
    have x0 := (funext fun sa0_0 => funext fun va1_0 => funext fun x8_1 => Eq.trans (b := lA M (zlq Qt1 []) Qt1 k (S1 sa0_0 va1_0 x8_1)) (by kernel_rfl) (ih sa0_0 va1_0 x8_1) : (fun sa0_0 va1_0 x8_1 => zA M (zlq Qt1 [lA M (zlq Qt1 []) Qt1 k]) Qt1 (S1 sa0_0 va1_0 x8_1)) = l1 M k)
    rw [x0]; rfl
theorem e1 (M : Nat) (sa0_0 : (List (List UInt8))) (va1_0 : (List UInt8)) (x8_1 : Int) : zA M (zlq Qt1 []) Qt1 (S1 sa0_0 va1_0 x8_1) = l1 M M sa0_0 va1_0 x8_1 :=
  Eq.trans (b := lA M (zlq Qt1 []) Qt1 M (S1 sa0_0 va1_0 x8_1)) (by kernel_rfl) (el1 M M sa0_0 va1_0 x8_1)
theorem run (M : Nat) (sa0_0 : (List (List UInt8))) (va1_0 : (List UInt8)) : runF (rs := rs) (C27 M) (X M) M body Tryd.f27.ntmps 19 Tryd.f27.results.toList plans ps ex (sa0_0, va1_0) = slices_Index_string_string M sa0_0 va1_0 := by
  refine Eq.trans (b := runC (C27 M) (X M) M body plans (start (argHs ps (sa0_0, va1_0)) Tryd.f27.ntmps 19) (K M)) (by kernel_rfl) ?_
  refine (zrun (Hok M) 0 body plans _ (K M) (fun _ => none) fun _ => rfl).symm.trans ?_
  refine (g M _ sa0_0 va1_0).trans ?_
  have x0 := (funext fun sa0_0 => funext fun va1_0 => funext fun x8_1 => Eq.trans (b := zA M (zlq Qt1 []) Qt1 (S1 sa0_0 va1_0 x8_1)) (by kernel_rfl) (e1 M sa0_0 va1_0 x8_1) : (fun sa0_0 va1_0 x8_1 => zA M (fun _ => none) Qt1 (S1 sa0_0 va1_0 x8_1)) = l1 M M)
  rw [x0]; rfl
noncomputable def sig (M : Nat) : Sig E := { ps := ps, rs := rs, ex := ex, fn := fun x => slices_Index_string_string M x.1 x.2 }
theorem says (M : Nat) : callable Tryd.prog 27 = true ∧ ∀ x y, (sig M).fn x = some y → Says Tryd.prog 27 (sig M) x y := by
  refine ⟨by kernel_rfl, fun x y h => ?_⟩
  refine says_of_run (S := sig M) (C := C27 M) (X := X M) (M := M) (q := 19) (plans := plans) (COk_Tryd) (SigOk_C27 M) (ItOk_C27 M) (by kernel_rfl) (callOk_ext COk_Tryd (SigOk_C27 M) (ItOk_C27 M) (by kernel_rfl) inl_ok.ok (RSigOk_C27 M) (fun _ => callOk_none) M 1) (Tryd.func27) (body := body) (by kernel_rfl) (by kernel_rfl) ?_
  obtain ⟨sa0_0, va1_0⟩ := x
  exact (run M sa0_0 va1_0).trans h
end slices_Index_string_string
end Go.Ai.Pav
end
set_option linter.unusedVariables false
set_option linter.unusedSectionVars false
noncomputable section
namespace Go.Ai.Pav
open Go Go.Ai Go.Proofs
noncomputable def sigs49 (M : Nat) : List (Nat × Sig E) := [(27, slices_Index_string_string.sig M)]
noncomputable def rs49 (M : Nat) : List (Nat × Sig E) := []
noncomputable def its49 (M : Nat) : List (Nat × It E) := []
theorem sigs_ok49 (M : Nat) : SigsOk Tryd.prog (sigs49 M) := SigsOk.cons (slices_Index_string_string.says M) (SigsOk.nil)
theorem rs_ok49 (M : Nat) : SigsOk Tryd.prog (rs49 M) := SigsOk.nil
theorem its_ok49 (M : Nat) : ItsOk Tryd.prog (its49 M) := ItsOk.nil
noncomputable def C49 (M : Nat) : Ctx E := { ti := fun t => tisE.lookup t, sig := fun f => (sigs49 M).lookup f, it := fun f => (its49 M).lookup f, nt := 9 }
theorem SigOk_C49 (M : Nat) : SigOk Tryd.prog (C49 M) := sigs_ok49 M
theorem RSigOk_C49 (M : Nat) : SigOk Tryd.prog ({ ti := fun _ => none, sig := fun f => (rs49 M).lookup f } : Ctx E) := rs_ok49 M
theorem ItOk_C49 (M : Nat) : ItOk Tryd.prog (C49 M) := (its_ok49 M).ok
namespace slices_Contains_string_string
noncomputable def plans : List (Option (Plan Nm)) := [none, none]
noncomputable abbrev body : Code := bodyOf Tryd.f49
def ps : List (Ty Nm) := [(.sl .str), .str]
def rs : List (Ty Nm) := [.bool]
def ex : List (Option Nat) := [none]
noncomputable def inl : List (Nat × Nat × Nat × Inl Nm) := []
theorem inl_ok : InlsOk Tryd.prog inl := InlsOk.nil
noncomputable def X (M : Nat) : Ext E Bool := extOf (C49 M) (inlOf inl) (fun f => (rs49 M).lookup f) (fun _ _ _ => none) noX M 1
abbrev Rt := Bool
noncomputable def H (M : Nat) : Hd E Rt := hd0 (X M)
theorem Hok (M : Nat) : (H M).ok (C49 M) M := hd0_ok _
abbrev Zt := List Dir → St E → Option Rt
abbrev Ut := St E → Option Rt
noncomputable def s (M : Nat) (sa0_0 : (List (List UInt8))) (va1_0 : (List UInt8)) : Option Rt :=
  Option.bind (slices_Index_string_string M sa0_0 va1_0) fun r7_1 =>
  some (decide (0 ≤ r7_1))
end slices_Contains_string_string
noncomputable def slices_Contains_string_string (M : Nat) (sa0_0 : (List (List UInt8))) (va1_0 : (List UInt8)) : Option Bool :=
  slices_Contains_string_string.s M sa0_0 va1_0
namespace slices_Contains_string_string
noncomputable def K (M : Nat) : Cont E Bool := kRet (C49 M) Tryd.f49.results.toList rs ex
set_option maxRecDepth 100000
theorem g (M : Nat) (Z : Zt) (sa0_0 : (List (List UInt8))) (va1_0 : (List UInt8)) : runZ (C49 M) (extZ (C49 M) (H M) 0) Z body plans (start (argHs ps (sa0_0, va1_0)) Tryd.f49.ntmps 9) (K M) = s M sa0_0 va1_0 := by kernel_rfl
theorem run (M : Nat) (sa0_0 : (List (List UInt8))) (va1_0 : (List UInt8)) : runF (rs := rs) (C49 M) (X M) M body Tryd.f49.ntmps 9 Tryd.f49.results.toList plans ps ex (sa0_0, va1_0) = slices_Contains_string_string M sa0_0 va1_0 := by
  refine Eq.trans (b := runC (C49 M) (X M) M body plans (start (argHs ps (sa0_0, va1_0)) Tryd.f49.ntmps 9) (K M)) (by kernel_rfl) ?_
  refine (zrun (Hok M) 0 body plans _ (K M) (fun _ => none) fun _ => rfl).symm.trans ?_
  refine (g M _ sa0_0 va1_0).trans ?_
  rfl
noncomputable def sig (M : Nat) : Sig E := { ps := ps, rs := rs, ex := ex, fn := fun x => slices_Contains_string_string M x.1 x.2 }
theorem says (M : Nat) : callable Tryd.prog 49 = true ∧ ∀ x y, (sig M).fn x = some y → Says Tryd.prog 49 (sig M) x y := by
  refine ⟨by kernel_rfl, fun x y h => ?_⟩
  refine says_of_run (S := sig M) (C := C49 M) (X := X M) (M := M) (q := 9) (plans := plans) (COk_Tryd) (SigOk_C49 M) (ItOk_C49 M) (by kernel_rfl) (callOk_ext COk_Tryd (SigOk_C49 M) (ItOk_C49 M) (by kernel_rfl) inl_ok.ok (RSigOk_C49 M) (fun _ => callOk_none) M 1) (Tryd.func49) (body := body) (by kernel_rfl) (by kernel_rfl) ?_
  obtain ⟨sa0_0, va1_0⟩ := x
  exact (run M sa0_0 va1_0).trans h
end slices_Contains_string_string
end Go.Ai.Pav
end
set_option linter.unusedVariables false
set_option linter.unusedSectionVars false
noncomputable section
namespace Go.Ai.Pav
open Go Go.Ai Go.Proofs
noncomputable def sigs37 (M : Nat) : List (Nat × Sig E) := [(30, feature_name.sig M), (49, slices_Contains_string_string.sig M)]
noncomputable def rs37 (M : Nat) : List (Nat × Sig E) := []
noncomputable def its37 (M : Nat) : List (Nat × It E) := []
theorem sigs_ok37 (M : Nat) : SigsOk Tryd.prog (sigs37 M) := SigsOk.cons (feature_name.says M) (SigsOk.cons (slices_Contains_string_string.says M) (SigsOk.nil))
theorem rs_ok37 (M : Nat) : SigsOk Tryd.prog (rs37 M) := SigsOk.nil
theorem its_ok37 (M : Nat) : ItsOk Tryd.prog (its37 M) := ItsOk.nil
noncomputable def C37 (M : Nat) : Ctx E := { ti := fun t => tisE.lookup t, sig := fun f => (sigs37 M).lookup f, it := fun f => (its37 M).lookup f, nt := 70 }
theorem SigOk_C37 (M : Nat) : SigOk Tryd.prog (C37 M) := sigs_ok37 M
theorem RSigOk_C37 (M : Nat) : SigOk Tryd.prog ({ ti := fun _ => none, sig := fun f => (rs37 M).lookup f } : Ctx E) := rs_ok37 M
theorem ItOk_C37 (M : Nat) : ItOk Tryd.prog (C37 M) := (its_ok37 M).ok
namespace feature_dimensions
noncomputable def plans : List (Option (Plan Nm)) := [none, none, none, none, none, some { tmps := [(0, .asis), (12, .asis), (13, .asis), (14, .asis)], boxes := [] }, none, none, none, none, none, none, none, some { tmps := [(0, .asis), (3, .asis), (4, .asis), (12, .asis), (13, .asis), (14, .asis), (36, .asis), (37, .asis), (38, .asis)], boxes := [(4, [.asis, .asis])] }, none, none, none, none, none, none, some { tmps := [(0, .asis), (3, .asis), (4, .asis), (12, .asis), (13, .asis), (14, .asis)], boxes := [(4, [.asis, .asis])] }, none, some { tmps := [(0, .asis), (4, .asis), (12, .asis), (13, .asis), (14, .asis), (57, .asis), (58, .asis), (59, .asis)], boxes := [(4, [.asis, .asis])] }, none, none, none, none, none, none, none, none, none]
noncomputable abbrev body : Code := bodyOf Tryd.f37
def ps : List (Ty Nm) := [(.sl (.st .api_Dimension))]
def rs : List (Ty Nm) := [.bool]
def ex : List (Option Nat) := [none]
noncomputable def inl : List (Nat × Nat × Nat × Inl Nm) := []
theorem inl_ok : InlsOk Tryd.prog inl := InlsOk.nil
noncomputable def X (M : Nat) : Ext E Bool := extOf (C37 M) (inlOf inl) (fun f => (rs37 M).lookup f) (fun _ _ _ => none) noX M 1
abbrev Rt := Bool
noncomputable def H (M : Nat) : Hd E Rt := hd0 (X M)
theorem Hok (M : Nat) : (H M).ok (C37 M) M := hd0_ok _
abbrev Qt4 : List Dir := [.r, .r, .l, .r, .k, .L, .r, .r, .l, .k, .r, .r, .r, .r, .k]
abbrev Ht4 := (List api_Dimension) → Int → Int → Option Rt
abbrev Qt3 : List Dir := [.r, .r, .l, .r, .k, .L, .r, .r, .l, .k, .r, .r]
abbrev Ht3 := (List api_Dimension) → Int → Option Rt
abbrev Qt2 : List Dir := [.r, .r, .l, .r, .k, .L, .r, .r, .l, .k, .r, .r, .l, .r, .k]
abbrev Ht2 := (List api_Dimension) → Int → Int → Option Rt
abbrev Qt1 : List Dir := [.r, .r, .l, .r, .k]
abbrev Ht1 := (List api_Dimension) → Int → Option Rt
abbrev Zt := List Dir → St E → Option Rt
abbrev Ut := St E → Option Rt
noncomputable def s4 (M : Nat) (h1 : Ht1) (h4 : Ht4) (dimsa0_0 : (List api_Dimension)) (x14_1 : Int) (x59_4 : Int) : Option Rt :=
  cond (decide (x59_4 < ((dimsa0_0.take x14_1.toNat).length : Int)))
   (cond (decide (0 ≤ x59_4) && decide (x59_4 < ((dimsa0_0.take x14_1.toNat).length : Int)))
     (cond (decide ((((dimsa0_0.take x14_1.toNat).getD x59_4.toNat default).fName) = ((dimsa0_0.getD x14_1.toNat default).fName)))
       (some false)
       (h4 dimsa0_0 x14_1 (IntKind.i64.wrap (x59_4 + 1))))
     none)
   (h1 dimsa0_0 (IntKind.i64.wrap (x14_1 + 1)))
noncomputable def l4 (M : Nat) (h1 : Ht1) : Nat → Ht4
  | 0, _, _, _ => none
  | k + 1, dimsa0_0, x14_1, x59_4 => s4 M h1 (l4 M h1 k) dimsa0_0 x14_1 x59_4
noncomputable def s3 (M : Nat) (h4 : Ht4) (dimsa0_0 : (List api_Dimension)) (x14_1 : Int) : Option Rt :=
  cond (decide (0 ≤ x14_1) && decide (x14_1 ≤ (dimsa0_0.length : Int)))
   (h4 dimsa0_0 x14_1 0)
   none
noncomputable def j3 (M : Nat) (h1 : Ht1) (dimsa0_0 : (List api_Dimension)) (x14_1 : Int) : Option Rt :=
  s3 M (l4 M h1 M) dimsa0_0 x14_1
noncomputable def s2 (M : Nat) (h2 : Ht2) (h3 : Ht3) (dimsa0_0 : (List api_Dimension)) (x14_1 : Int) (x38_2 : Int) : Option Rt :=
  cond (decide (x38_2 < (((dimsa0_0.getD x14_1.toNat default).fValues).length : Int)))
   (cond (decide (0 ≤ x38_2) && decide (x38_2 < (((dimsa0_0.getD x14_1.toNat default).fValues).length : Int)))
     (Option.bind (feature_name M (((dimsa0_0.getD x14_1.toNat default).fValues).getD x38_2.toNat default)) fun r44_143 =>
      cond (!r44_143)
       (some false)
       (cond (decide (0 ≤ x38_2) && decide (x38_2 ≤ (((dimsa0_0.getD x14_1.toNat default).fValues).length : Int)))
         (Option.bind (slices_Contains_string_string M (((dimsa0_0.getD x14_1.toNat default).fValues).take x38_2.toNat) (((dimsa0_0.getD x14_1.toNat default).fValues).getD x38_2.toNat default)) fun r52_144 =>
          cond (r52_144)
           (some false)
           (h2 dimsa0_0 x14_1 (IntKind.i64.wrap (x38_2 + 1))))
         none))
     none)
   (h3 dimsa0_0 x14_1)
noncomputable def l2 (M : Nat) (h1 : Ht1) : Nat → Ht2
  | 0, _, _, _ => none
  | k + 1, dimsa0_0, x14_1, x38_2 => s2 M (l2 M h1 k) (j3 M h1) dimsa0_0 x14_1 x38_2
noncomputable def s1 (M : Nat) (h2 : Ht2) (dimsa0_0 : (List api_Dimension)) (x14_1 : Int) : Option Rt :=
  cond (decide (x14_1 < (dimsa0_0.length : Int)))
   (cond (decide (0 ≤ x14_1) && decide (x14_1 < (dimsa0_0.length : Int)))
     (Option.bind (feature_name M ((dimsa0_0.getD x14_1.toNat default).fName)) fun r21_112 =>
      cond (!r21_112)
       (some false)
       (cond (decide ((((dimsa0_0.getD x14_1.toNat default).fValues).length : Int) < 1))
         (some false)
         (cond (decide (8 < (((dimsa0_0.getD x14_1.toNat default).fValues).length : Int)))
           (some false)
           (h2 dimsa0_0 x14_1 0))))
     none)
   (some true)
noncomputable def l1 (M : Nat) : Nat → Ht1
  | 0, _, _ => none
  | k + 1, dimsa0_0, x14_1 => s1 M (l2 M (l1 M k) M) dimsa0_0 x14_1
noncomputable def s (M : Nat) (h1 : Ht1) (dimsa0_0 : (List api_Dimension)) : Option Rt :=
  cond (decide (4 < (dimsa0_0.length : Int)))
   (some false)
   (h1 dimsa0_0 0)
end feature_dimensions
noncomputable def feature_dimensions (M : Nat) (dimsa0_0 : (List api_Dimension)) : Option Bool :=
  feature_dimensions.s M (feature_dimensions.l1 M M) dimsa0_0
namespace feature_dimensions
noncomputable def S4 (dimsa0_0 : (List api_Dimension)) (x14_1 : Int) (x59_4 : Int) : St E :=
  mkSt 70 70 [(0, .one (.tv (.sl (.st .api_Dimension) dimsa0_0))), (4, .one (.ptr 4 0)), (12, .one (.tv (.sl (.st .api_Dimension) dimsa0_0))), (13, .one (.tv (.int .i64 (dimsa0_0.length : Int)))), (14, .one (.tv (.int .i64 x14_1))), (57, .one (.tv (.sl (.st .api_Dimension) (dimsa0_0.take x14_1.toNat)))), (58, .one (.tv (.int .i64 ((dimsa0_0.take x14_1.toNat).length : Int)))), (59, .one (.tv (.int .i64 x59_4)))] [(4, .cells [.tv (.str ((dimsa0_0.getD x14_1.toNat default).fName)), .tv (.sl .str ((dimsa0_0.getD x14_1.toNat default).fValues))])] 0 [] [] false
noncomputable def S3 (dimsa0_0 : (List api_Dimension)) (x14_1 : Int) : St E :=
  mkSt 70 70 [(0, .one (.tv (.sl (.st .api_Dimension) dimsa0_0))), (3, .one (.tv (.int .i64 x14_1))), (4, .one (.ptr 4 0)), (12, .one (.tv (.sl (.st .api_Dimension) dimsa0_0))), (13, .one (.tv (.int .i64 (dimsa0_0.length : Int)))), (14, .one (.tv (.int .i64 x14_1)))] [(4, .cells [.tv (.str ((dimsa0_0.getD x14_1.toNat default).fName)), .tv (.sl .str ((dimsa0_0.getD x14_1.toNat default).fValues))])] 0 [] [] false
noncomputable def S2 (dimsa0_0 : (List api_Dimension)) (x14_1 : Int) (x38_2 : Int) : St E :=
  mkSt 70 70 [(0, .one (.tv (.sl (.st .api_Dimension) dimsa0_0))), (3, .one (.tv (.int .i64 x14_1))), (4, .one (.ptr 4 0)), (12, .one (.tv (.sl (.st .api_Dimension) dimsa0_0))), (13, .one (.tv (.int .i64 (dimsa0_0.length : Int)))), (14, .one (.tv (.int .i64 x14_1))), (36, .one (.tv (.sl .str ((dimsa0_0.getD x14_1.toNat default).fValues)))), (37, .one (.tv (.int .i64 (((dimsa0_0.getD x14_1.toNat default).fValues).length : Int)))), (38, .one (.tv (.int .i64 x38_2)))] [(4, .cells [.tv (.str ((dimsa0_0.getD x14_1.toNat default).fName)), .tv (.sl .str ((dimsa0_0.getD x14_1.toNat default).fValues))])] 0 [] [] false
noncomputable def S1 (dimsa0_0 : (List api_Dimension)) (x14_1 : Int) : St E :=
  mkSt 70 70 [(0, .one (.tv (.sl (.st .api_Dimension) dimsa0_0))), (12, .one (.tv (.sl (.st .api_Dimension) dimsa0_0))), (13, .one (.tv (.int .i64 (dimsa0_0.length : Int)))), (14, .one (.tv (.int .i64 x14_1)))] [] 0 [] [] false
noncomputable def K (M : Nat) : Cont E Bool := kRet (C37 M) Tryd.f37.results.toList rs ex
noncomputable abbrev zA (M : Nat) (ZL : List Dir → Option (Ut)) (q : List Dir) : Ut := zAt (C37 M) (H M) M 0 ZL body plans (K M) q
noncomputable abbrev lA (M : Nat) (ZL : List Dir → Option (Ut)) (q : List Dir) (k : Nat) : Ut := lpAt (C37 M) (H M) M 0 ZL body plans (K M) q k
noncomputable abbrev gA (M : Nat) (Z : Zt) (q : List Dir) : Ut := seg (C37 M) (H M) 0 Z body plans (K M) q
set_option maxRecDepth 100000
theorem g4 (M : Nat) (Z : Zt) (dimsa0_0 : (List api_Dimension)) (x14_1 : Int) (x59_4 : Int) : gA M Z Qt4 (S4 dimsa0_0 x14_1 x59_4) = s4 M
    (fun dimsa0_0 x14_1 => Z Qt1 (S1 dimsa0_0 x14_1))
    (fun dimsa0_0 x14_1 x59_4 => Z Qt4 (S4 dimsa0_0 x14_1 x59_4)) dimsa0_0 x14_1 x59_4 := by kernel_rfl
theorem g3 (M : Nat) (Z : Zt) (dimsa0_0 : (List api_Dimension)) (x14_1 : Int) : gA M Z Qt3 (S3 dimsa0_0 x14_1) = s3 M
    (fun dimsa0_0 x14_1 x59_4 => Z Qt4 (S4 dimsa0_0 x14_1 x59_4)) dimsa0_0 x14_1 := by kernel_rfl
theorem g2 (M : Nat) (Z : Zt) (dimsa0_0 : (List api_Dimension)) (x14_1 : Int) (x38_2 : Int) : gA M Z Qt2 (S2 dimsa0_0 x14_1 x38_2) = s2 M
    (fun dimsa0_0 x14_1 x38_2 => Z Qt2 (S2 dimsa0_0 x14_1 x38_2))
    (fun dimsa0_0 x14_1 => Z Qt3 (S3 dimsa0_0 x14_1)) dimsa0_0 x14_1 x38_2 := by kernel_rfl
theorem g1 (M : Nat) (Z : Zt) (dimsa0_0 : (List api_Dimension)) (x14_1 : Int) : gA M Z Qt1 (S1 dimsa0_0 x14_1) = s1 M
    (fun dimsa0_0 x14_1 x38_2 => Z Qt2 (S2 dimsa0_0 x14_1 x38_2)) dimsa0_0 x14_1 := by kernel_rfl
theorem g (M : Nat) (Z : Zt) (dimsa0_0 : (List api_Dimension)) : runZ (C37 M) (extZ (C37 M) (H M) 0) Z body plans (start (argHs ps dimsa0_0) Tryd.f37.ntmps 70) (K M) = s M
    (fun dimsa0_0 x14_1 => Z Qt1 (S1 dimsa0_0 x14_1)) dimsa0_0 := by kernel_rfl
theorem el4 (M : Nat) (Z1 : Ut) (h1 : Ht1) (hZ1 : ∀ (dimsa0_0 : (List api_Dimension)) (x14_1 : Int), Z1 (S1 dimsa0_0 x14_1) = h1 dimsa0_0 x14_1) (k : Nat) (dimsa0_0 : (List api_Dimension)) (x14_1 : Int) (x59_4 : Int) : lA M (zlq Qt4 [Z1]) Qt4 k (S4 dimsa0_0 x14_1 x59_4) = l4 M h1 k dimsa0_0 x14_1 x59_4 := by
  induction k generalizing dimsa0_0 x14_1 x59_4 with
  | zero => kernel_rfl
  | succ k ih =>
    refine Eq.trans (b := lA M (zlq Qt4 [Z1, lA M (zlq Qt4 [Z1]) Qt4 k]) Qt4 (k + 1) (S4 dimsa0_0 x14_1 x59_4)) (by kernel_rfl) ?_
    refine (seg_loop (Hok M) 0 Qt4 body plans (K M) _ (S4 dimsa0_0 x14_1 x59_4) (around_zlq _ _ (by kernel_rfl)) (by kernel_rfl) (by kernel_rfl)).trans ?_
    refine (g4 M _ dimsa0_0 x14_1 x59_4).trans ?_
    have x0 := (funext fun dimsa0_0 => funext fun x14_1 => Eq.trans (b := Z1 (S1 dimsa0_0 x14_1)) (by kernel_rfl) (hZ1 dimsa0_0 x14_1) : (fun dimsa0_0 x14_1 => zA M (zlq Qt4 [Z1, lA M (zlq Qt4 [Z1]) Qt4 k]) Qt1 (S1 dimsa0_0 x14_1)) = h1)
    have x1 := (funext fun dimsa0_0 => funext fun x14_1 => funext fun x59_4 => Eq.trans (b := lA M (zlq Qt4 [Z1]) Qt4 k (S4 dimsa0_0 x14_1 x59_4)) (by kernel_rfl) (ih dimsa0_0 x14_1 x59_4) : (fun dimsa0_0 x14_1 x59_4 => zA M (zlq Qt4 [Z1, lA M (zlq Qt4 [Z1]) Qt4 k]) Qt4 (S4 dimsa0_0 x14_1 x59_4)) = l4 M h1 k)
    rw [x0, x1]; rfl
theorem e4 (M : Nat) (Z1 : Ut) (h1 : Ht1) (hZ1 : ∀ (dimsa0_0 : (List api_Dimension)) (x14_1 : Int), Z1 (S1 dimsa0_0 x14_1) = h1 dimsa0_0 x14_1) (dimsa0_0 : (List api_Dimension)) (x14_1 : Int) (x59_4 : Int) : zA M (zlq Qt4 [Z1]) Qt4 (S4 dimsa0_0 x14_1 x59_4) = l4 M h1 M dimsa0_0 x14_1 x59_4 :=
  Eq.trans (b := lA M (zlq Qt4 [Z1]) Qt4 M (S4 dimsa0_0 x14_1 x59_4)) (by kernel_rfl) (el4 M Z1 h1 hZ1 M dimsa0_0 x14_1 x59_4)
theorem e3 (M : Nat) (Z1 : Ut) (h1 : Ht1) (hZ1 : ∀ (dimsa0_0 : (List api_Dimension)) (x14_1 : Int), Z1 (S1 dimsa0_0 x14_1) = h1 dimsa0_0 x14_1) (dimsa0_0 : (List api_Dimension)) (x14_1 : Int) : zA M (zlq Qt3 [Z1]) Qt3 (S3 dimsa0_0 x14_1) = j3 M h1 dimsa0_0 x14_1 := by
  refine (seg_join (Hok M) 0 Qt3 body plans (K M) _ (S3 dimsa0_0 x14_1) (around_zlq _ _ (by kernel_rfl)) (by kernel_rfl)).trans ?_
  refine (g3 M _ dimsa0_0 x14_1).trans ?_
  have x0 := (funext fun dimsa0_0 => funext fun x14_1 => funext fun x59_4 => Eq.trans (b := zA M (zlq Qt4 [Z1]) Qt4 (S4 dimsa0_0 x14_1 x59_4)) (by kernel_rfl) (e4 M Z1 h1 hZ1 dimsa0_0 x14_1 x59_4) : (fun dimsa0_0 x14_1 x59_4 => zA M (zlq Qt3 [Z1]) Qt4 (S4 dimsa0_0 x14_1 x59_4)) = l4 M h1 M)
  rw [x0]; rfl
theorem el2 (M : Nat) (Z1 : Ut) (h1 : Ht1) (hZ1 : ∀ (dimsa0_0 : (List api_Dimension)) (x14_1 : Int), Z1 (S1 dimsa0_0 x14_1) = h1 dimsa0_0 x14_1) (k : Nat) (dimsa0_0 : (List api_Dimension)) (x14_1 : Int) (x38_2 : Int) : lA M (zlq Qt2 [Z1]) Qt2 k (S2 dimsa0_0 x14_1 x38_2) = l2 M h1 k dimsa0_0 x14_1 x38_2 := by
  induction k generalizing dimsa0_0 x14_1 x38_2 with
  | zero => kernel_rfl
  | succ k ih =>
    refine Eq.trans (b := lA M (zlq Qt2 [Z1, lA M (zlq Qt2 [Z1]) Qt2 k]) Qt2 (k + 1) (S2 dimsa0_0 x14_1 x38_2)) (by kernel_rfl) ?_
    refine (seg_loop (Hok M) 0 Qt2 body plans (K M) _ (S2 dimsa0_0 x14_1 x38_2) (around_zlq _ _ (by kernel_rfl)) (by kernel_rfl) (by kernel_rfl)).trans ?_
    refine (g2 M _ dimsa0_0 x14_1 x38_2).trans ?_
    have x0 := (funext fun dimsa0_0 => funext fun x14_1 => funext fun x38_2 => Eq.trans (b := lA M (zlq Qt2 [Z1]) Qt2 k (S2 dimsa0_0 x14_1 x38_2)) (by kernel_rfl) (ih dimsa0_0 x14_1 x38_2) : (fun dimsa0_0 x14_1 x38_2 => zA M (zlq Qt2 [Z1, lA M (zlq Qt2 [Z1]) Qt2 k]) Qt2 (S2 dimsa0_0 x14_1 x38_2)) = l2 M h1 k)
    have x1 := (funext fun dimsa0_0 => funext fun x14_1 => Eq.trans (b := zA M (zlq Qt3 [Z1]) Qt3 (S3 dimsa0_0 x14_1)) (by kernel_rfl) (e3 M Z1 h1 hZ1 dimsa0_0 x14_1) : (fun dimsa0_0 x14_1 => zA M (zlq Qt2 [Z1, lA M (zlq Qt2 [Z1]) Qt2 k]) Qt3 (S3 dimsa0_0 x14_1)) = j3 M h1)
    rw [x0, x1]; rfl
theorem e2 (M : Nat) (Z1 : Ut) (h1 : Ht1) (hZ1 : ∀ (dimsa0_0 : (List api_Dimension)) (x14_1 : Int), Z1 (S1 dimsa0_0 x14_1) = h1 dimsa0_0 x14_1) (dimsa0_0 : (List api_Dimension)) (x14_1 : Int) (x38_2 : Int) : zA M (zlq Qt2 [Z1]) Qt2 (S2 dimsa0_0 x14_1 x38_2) = l2 M h1 M dimsa0_0 x14_1 x38_2 :=
  Eq.trans (b := lA M (zlq Qt2 [Z1]) Qt2 M (S2 dimsa0_0 x14_1 x38_2)) (by kernel_rfl) (el2 M Z1 h1 hZ1 M dimsa0_0 x14_1 x38_2)
theorem el1 (M : Nat) (k : Nat) (dimsa0_0 : (List api_Dimension)) (x14_1 : Int) : lA M (zlq Qt1 []) Qt1 k (S1 dimsa0_0 x14_1) = l1 M k dimsa0_0 x14_1 := by
  induction k generalizing dimsa0_0 x14_1 with
  | zero => kernel_rfl
  | succ k ih =>
    refine Eq.trans (b := lA M (zlq Qt1 [lA M (zlq Qt1 []) Qt1 k]) Qt1 (k + 1) (S1 dimsa0_0 x14_1)) (by kernel_rfl) ?_
    refine (seg_loop (Hok M) 0 Qt1 body plans (K M) _ (S1 dimsa0_0 x14_1) (around_zlq _ _ (by kernel_rfl)) (by kernel_rfl) (by kernel_rfl)).trans ?_
    refine (g1 M _ dimsa0_0 x14_1).trans ?_
    have x0 := (funext fun dimsa0_0 => funext fun x14_1 => funext fun x38_2 => Eq.trans (b := zA M (zlq Qt2 [(lA M (zlq Qt1 []) Qt1 k)]) Qt2 (S2 dimsa0_0 x14_1 x38_2)) (by kernel_rfl) (e2 M (lA M (zlq Qt1 []) Qt1 k) (l1 M k) (fun dimsa0_0 x14_1 => ih dimsa0_0 x14_1) dimsa0_0 x14_1 x38_2) : (fun dimsa0_0 x14_1 x38_2 => zA M (zlq Qt1 [lA M (zlq Qt1 []) Qt1 k]) Qt2 (S2 dimsa0_0 x14_1 x38_2)) = l2 M (l1 M k) M)
    rw [x0]; rfl
theorem e1 (M : Nat) (dimsa0_0 : (List api_Dimension)) (x14_1 : Int) : zA M (zlq Qt1 []) Qt1 (S1 dimsa0_0 x14_1) = l1 M M dimsa0_0 x14_1 :=
  Eq.trans (b := lA M (zlq Qt1 []) Qt1 M (S1 dimsa0_0 x14_1)) (by kernel_rfl) (el1 M M dimsa0_0 x14_1)
theorem run (M : Nat) (dimsa0_0 : (List api_Dimension)) : runF (rs := rs) (C37 M) (X M) M body Tryd.f37.ntmps 70 Tryd.f37.results.toList plans ps ex dimsa0_0 = feature_dimensions M dimsa0_0 := by
  refine Eq.trans (b := runC (C37 M) (X M) M body plans (start (argHs ps dimsa0_0) Tryd.f37.ntmps 70) (K M)) (by kernel_rfl) ?_
  refine (zrun (Hok M) 0 body plans _ (K M) (fun _ => none) fun _ => rfl).symm.trans ?_
  refine (g M _ dimsa0_0).trans ?_
  have x0 := (funext fun dimsa0_0 => funext fun x14_1 => Eq.trans (b := zA M (zlq Qt1 []) Qt1 (S1 dimsa0_0 x14_1)) (by kernel_rfl) (e1 M dimsa0_0 x14_1) : (fun dimsa0_0 x14_1 => zA M (fun _ => none) Qt1 (S1 dimsa0_0 x14_1)) = l1 M M)
  rw [x0]; rfl
noncomputable def sig (M : Nat) : Sig E := { ps := ps, rs := rs, ex := ex, fn := fun x => feature_dimensions M x }
theorem says (M : Nat) : callable Tryd.prog 37 = true ∧ ∀ x y, (sig M).fn x = some y → Says Tryd.prog 37 (sig M) x y := by
  refine ⟨by kernel_rfl, fun x y h => ?_⟩
  refine says_of_run (S := sig M) (C := C37 M) (X := X M) (M := M) (q := 70) (plans := plans) (COk_Tryd) (SigOk_C37 M) (ItOk_C37 M) (by kernel_rfl) (callOk_ext COk_Tryd (SigOk_C37 M) (ItOk_C37 M) (by kernel_rfl) inl_ok.ok (RSigOk_C37 M) (fun _ => callOk_none) M 1) (Tryd.func37) (body := body) (by kernel_rfl) (by kernel_rfl) ?_
  exact (run M x).trans h
end feature_dimensions
end Go.Ai.Pav
end
set_option linter.unusedVariables false
set_option linter.unusedSectionVars false
noncomputable section
namespace Go.Ai.Pav
open Go Go.Ai Go.Proofs
noncomputable def sigs26 (M : Nat) : List (Nat × Sig E) := []
noncomputable def rs26 (M : Nat) : List (Nat × Sig E) := []
noncomputable def its26 (M : Nat) : List (Nat × It E) := []
theorem sigs_ok26 (M : Nat) : SigsOk Tryd.prog (sigs26 M) := SigsOk.nil
theorem rs_ok26 (M : Nat) : SigsOk Tryd.prog (rs26 M) := SigsOk.nil
theorem its_ok26 (M : Nat) : ItsOk Tryd.prog (its26 M) := ItsOk.nil
noncomputable def C26 (M : Nat) : Ctx E := { ti := fun t => tisE.lookup t, sig := fun f => (sigs26 M).lookup f, it := fun f => (its26 M).lookup f, nt := 21 }
theorem SigOk_C26 (M : Nat) : SigOk Tryd.prog (C26 M) := sigs_ok26 M
theorem RSigOk_C26 (M : Nat) : SigOk Tryd.prog ({ ti := fun _ => none, sig := fun f => (rs26 M).lookup f } : Ctx E) := rs_ok26 M
theorem ItOk_C26 (M : Nat) : ItOk Tryd.prog (C26 M) := (its_ok26 M).ok
namespace feature_Get
noncomputable def plans : List (Option (Plan Nm)) := [none, none, some { tmps := [(1, .asis), (8, .asis), (9, .asis), (10, .asis)], boxes := [] }, none, none, none, none, none, none, none, none]
noncomputable abbrev body : Code := bodyOf Tryd.f26
def ps : List (Ty Nm) := [(.sl (.st .api_Feature)), .str]
def rs : List (Ty Nm) := [.str, .bool]
def ex : List (Option Nat) := [none, none]
noncomputable def inl : List (Nat × Nat × Nat × Inl Nm) := []
theorem inl_ok : InlsOk Tryd.prog inl := InlsOk.nil
noncomputable def X (M : Nat) : Ext E ((List UInt8) × Bool) := extOf (C26 M) (inlOf inl) (fun f => (rs26 M).lookup f) (fun _ _ _ => none) noX M 1
abbrev Rt := (List UInt8) × Bool
noncomputable def H (M : Nat) : Hd E Rt := hd0 (X M)
theorem Hok (M : Nat) : (H M).ok (C26 M) M := hd0_ok _
abbrev Qt1 : List Dir := [.r, .l, .r, .k]
abbrev Ht1 := (List UInt8) → (List api_Feature) → Int → Option Rt
abbrev Zt := List Dir → St E → Option Rt
abbrev Ut := St E → Option Rt
noncomputable def s1 (M : Nat) (h1 : Ht1) (namea1_0 : (List UInt8)) (ra0_0 : (List api_Feature)) (x10_1 : Int) : Option Rt :=
  cond (decide (x10_1 < (ra0_0.length : Int)))
   (cond (decide (0 ≤ x10_1) && decide (x10_1 < (ra0_0.length : Int)))
     (cond (decide (((ra0_0.getD x10_1.toNat default).fName) = namea1_0))
       (some ((ra0_0.getD x10_1.toNat default).fValue, true))
       (h1 namea1_0 ra0_0 (IntKind.i64.wrap (x10_1 + 1))))
     none)
   (some ([], false))
noncomputable def l1 (M : Nat) : Nat → Ht1
  | 0, _, _, _ => none
  | k + 1, namea1_0, ra0_0, x10_1 => s1 M (l1 M k) namea1_0 ra0_0 x10_1
noncomputable def s (M : Nat) (h1 : Ht1) (ra0_0 : (List api_Feature)) (namea1_0 : (List UInt8)) : Option Rt :=
  h1 namea1_0 ra0_0 0
end feature_Get
noncomputable def feature_Get (M : Nat) (ra0_0 : (List api_Feature)) (namea1_0 : (List UInt8)) : Option ((List UInt8) × Bool) :=
  feature_Get.s M (feature_Get.l1 M M) ra0_0 namea1_0
namespace feature_Get
noncomputable def S1 (namea1_0 : (List UInt8)) (ra0_0 : (List api_Feature)) (x10_1 : Int) : St E :=
  mkSt 21 21 [(1, .one (.tv (.str namea1_0))), (8, .one (.tv (.sl (.st .api_Feature) ra0_0))), (9, .one (.tv (.int .i64 (ra0_0.length : Int)))), (10, .one (.tv (.int .i64 x10_1)))] [] 0 [] [] false
noncomputable def K (M : Nat) : Cont E ((List UInt8) × Bool) := kRet (C26 M) Tryd.f26.results.toList rs ex
noncomputable abbrev zA (M : Nat) (ZL : List Dir → Option (Ut)) (q : List Dir) : Ut := zAt (C26 M) (H M) M 0 ZL body plans (K M) q
noncomputable abbrev lA (M : Nat) (ZL : List Dir → Option (Ut)) (q : List Dir) (k : Nat) : Ut := lpAt (C26 M) (H M) M 0 ZL body plans (K M) q k
noncomputable abbrev gA (M : Nat) (Z : Zt) (q : List Dir) : Ut := seg (C26 M) (H M) 0 Z body plans (K M) q
set_option maxRecDepth 100000
theorem g1 (M : Nat) (Z : Zt) (namea1_0 : (List UInt8)) (ra0_0 : (List api_Feature)) (x10_1 : Int) : gA M Z Qt1 (S1 namea1_0 ra0_0 x10_1) = s1 M
    (fun namea1_0 ra0_0 x10_1 => Z Qt1 (S1 namea1_0 ra0_0 x10_1)) namea1_0 ra0_0 x10_1 := by kernel_rfl
theorem g (M : Nat) (Z : Zt) (ra0_0 : (List api_Feature)) (namea1_0 : (List UInt8)) : runZ (C26 M) (extZ (C26 M) (H M) 0) Z body plans (start (argHs ps (ra0_0, namea1_0)) Tryd.f26.ntmps 21) (K M) = s M
    (fun namea1_0 ra0_0 x10_1 => Z Qt1 (S1 namea1_0 ra0_0 x10_1)) ra0_0 namea1_0 := by kernel_rfl
theorem el1 (M : Nat) (k : Nat) (namea1_0 : (List UInt8)) (ra0_0 : (List api_Feature)) (x10_1 : Int) : lA M (zlq Qt1 []) Qt1 k (S1 namea1_0 ra0_0 x10_1) = l1 M k namea1_0 ra0_0 x10_1 := by
  induction k generalizing namea1_0 ra0_0 x10_1 with
  | zero => kernel_rfl
  | succ k ih =>
    refine Eq.trans (b := lA M (zlq Qt1 [lA M (zlq Qt1 []) Qt1 k]) Qt1 (k + 1) (S1 namea1_0 ra0_0 x10_1)) (by kernel_rfl) ?_
    refine (seg_loop (Hok M) 0 Qt1 body plans (K M) _ (S1 namea1_0 ra0_0 x10_1) (around_zlq _ _ (by kernel_rfl)) (by kernel_rfl) (by kernel_rfl)).trans ?_
    refine (g1 M _ namea1_0 ra0_0 x10_1).trans ?_
    have x0 := (funext fun namea1_0 => funext fun ra0_0 => funext fun x10_1 => Eq.trans (b := lA M (zlq Qt1 []) Qt1 k (S1 namea1_0 ra0_0 x10_1)) (by kernel_rfl) (ih namea1_0 ra0_0 x10_1) : (fun namea1_0 ra0_0 x10_1 => zA M (zlq Qt1 [lA M (zlq Qt1 []) Qt1 k]) Qt1 (S1 namea1_0 ra0_0 x10_1)) = l1 M k)
    rw [x0]; rfl
theorem e1 (M : Nat) (namea1_0 : (List UInt8)) (ra0_0 : (List api_Feature)) (x10_1 : Int) : zA M (zlq Qt1 []) Qt1 (S1 namea1_0 ra0_0 x10_1) = l1 M M namea1_0 ra0_0 x10_1 :=
  Eq.trans (b := lA M (zlq Qt1 []) Qt1 M (S1 namea1_0 ra0_0 x10_1)) (by kernel_rfl) (el1 M M namea1_0 ra0_0 x10_1)
theorem run (M : Nat) (ra0_0 : (List api_Feature)) (namea1_0 : (List UInt8)) : runF (rs := rs) (C26 M) (X M) M body Tryd.f26.ntmps 21 Tryd.f26.results.toList plans ps ex (ra0_0, namea1_0) = feature_Get M ra0_0 namea1_0 := by
  refine Eq.trans (b := runC (C26 M) (X M) M body plans (start (argHs ps (ra0_0, namea1_0)) Tryd.f26.ntmps 21) (K M)) (by kernel_rfl) ?_
  refine (zrun (Hok M) 0 body plans _ (K M) (fun _ => none) fun _ => rfl).symm.trans ?_
  refine (g M _ ra0_0 namea1_0).trans ?_
  have x0 := (funext fun namea1_0 => funext fun ra0_0 => funext fun x10_1 => Eq.trans (b := zA M (zlq Qt1 []) Qt1 (S1 namea1_0 ra0_0 x10_1)) (by kernel_rfl) (e1 M namea1_0 ra0_0 x10_1) : (fun namea1_0 ra0_0 x10_1 => zA M (fun _ => none) Qt1 (S1 namea1_0 ra0_0 x10_1)) = l1 M M)
  rw [x0]; rfl
noncomputable def sig (M : Nat) : Sig E := { ps := ps, rs := rs, ex := ex, fn := fun x => feature_Get M x.1 x.2 }
theorem says (M : Nat) : callable Tryd.prog 26 = true ∧ ∀ x y, (sig M).fn x = some y → Says Tryd.prog 26 (sig M) x y := by
  refine ⟨by kernel_rfl, fun x y h => ?_⟩
  refine says_of_run (S := sig M) (C := C26 M) (X := X M) (M := M) (q := 21) (plans := plans) (COk_Tryd) (SigOk_C26 M) (ItOk_C26 M) (by kernel_rfl) (callOk_ext COk_Tryd (SigOk_C26 M) (ItOk_C26 M) (by kernel_rfl) inl_ok.ok (RSigOk_C26 M) (fun _ => callOk_none) M 1) (Tryd.func26) (body := body) (by kernel_rfl) (by kernel_rfl) ?_
  obtain ⟨ra0_0, namea1_0⟩ := x
  exact (run M ra0_0 namea1_0).trans h
end feature_Get
end Go.Ai.Pav
end
set_option linter.unusedVariables false
set_option linter.unusedSectionVars false
noncomputable section
namespace Go.Ai.Pav
open Go Go.Ai Go.Proofs
noncomputable def sigs15 (M : Nat) : List (Nat × Sig E) := [(30, feature_name.sig M)]
noncomputable def rs15 (M : Nat) : List (Nat × Sig E) := []
noncomputable def its15 (M : Nat) : List (Nat × It E) := []
theorem sigs_ok15 (M : Nat) : SigsOk Tryd.prog (sigs15 M) := SigsOk.cons (feature_name.says M) (SigsOk.nil)
theorem rs_ok15 (M : Nat) : SigsOk Tryd.prog (rs15 M) := SigsOk.nil
theorem its_ok15 (M : Nat) : ItsOk Tryd.prog (its15 M) := ItsOk.nil
noncomputable def C15 (M : Nat) : Ctx E := { ti := fun t => tisE.lookup t, sig := fun f => (sigs15 M).lookup f, it := fun f => (its15 M).lookup f, nt := 41 }
theorem SigOk_C15 (M : Nat) : SigOk Tryd.prog (C15 M) := sigs_ok15 M
theorem RSigOk_C15 (M : Nat) : SigOk Tryd.prog ({ ti := fun _ => none, sig := fun f => (rs15 M).lookup f } : Ctx E) := rs_ok15 M
theorem ItOk_C15 (M : Nat) : ItOk Tryd.prog (C15 M) := (its_ok15 M).ok
namespace feature_Valid
noncomputable def plans : List (Option (Plan Nm)) := [none, none, some { tmps := [(0, .asis), (5, .asis), (6, .asis), (7, .asis)], boxes := [] }, none, none, none, some { tmps := [(0, .asis), (5, .asis), (6, .asis), (7, .asis), (36, .asis)], boxes := [] }, none, none, some { tmps := [(0, .asis)], boxes := [] }, none]
noncomputable abbrev body : Code := bodyOf Tryd.f15
def ps : List (Ty Nm) := [(.sl (.st .api_Feature))]
def rs : List (Ty Nm) := [.bool]
def ex : List (Option Nat) := [none]
noncomputable def inl : List (Nat × Nat × Nat × Inl Nm) := []
theorem inl_ok : InlsOk Tryd.prog inl := InlsOk.nil
noncomputable def X (M : Nat) : Ext E Bool := extOf (C15 M) (inlOf inl) (fun f => (rs15 M).lookup f) (fun _ _ _ => none) noX M 1
abbrev Rt := Bool
noncomputable def H (M : Nat) : Hd E Rt := hd0 (X M)
theorem Hok (M : Nat) : (H M).ok (C15 M) M := hd0_ok _
abbrev Qt2 : List Dir := [.r, .l, .r, .k, .L, .r, .r, .l, .k, .r]
abbrev Ht2 := (List api_Feature) → Int → Bool → Option Rt
abbrev Qt3 : List Dir := [.r]
abbrev Ht3 := (List api_Feature) → Option Rt
abbrev Qt1 : List Dir := [.r, .l, .r, .k]
abbrev Ht1 := (List api_Feature) → Int → Option Rt
abbrev Zt := List Dir → St E → Option Rt
abbrev Ut := St E → Option Rt
noncomputable def s2 (M : Nat) (h1 : Ht1) (ra0_0 : (List api_Feature)) (x7_1 : Int) (x36_2 : Bool) : Option Rt :=
  cond (x36_2)
   (some false)
   (h1 ra0_0 (IntKind.i64.wrap (x7_1 + 1)))
noncomputable def j2 (M : Nat) (h1 : Ht1) (ra0_0 : (List api_Feature)) (x7_1 : Int) (x36_2 : Bool) : Option Rt :=
  s2 M h1 ra0_0 x7_1 x36_2
noncomputable def s3 (M : Nat) (ra0_0 : (List api_Feature)) : Option Rt :=
  some (decide ((ra0_0.length : Int) ≤ 8))
noncomputable def j3 (M : Nat) (ra0_0 : (List api_Feature)) : Option Rt :=
  s3 M ra0_0
noncomputable def s1 (M : Nat) (h2 : Ht2) (h3 : Ht3) (ra0_0 : (List api_Feature)) (x7_1 : Int) : Option Rt :=
  cond (decide (x7_1 < (ra0_0.length : Int)))
   (cond (decide (0 ≤ x7_1) && decide (x7_1 < (ra0_0.length : Int)))
     (Option.bind (feature_name M ((ra0_0.getD x7_1.toNat default).fName)) fun r14_31 =>
      cond (!r14_31)
       (h2 ra0_0 x7_1 true)
       (Option.bind (feature_name M ((ra0_0.getD x7_1.toNat default).fValue)) fun r19_32 =>
        cond (!r19_32)
         (h2 ra0_0 x7_1 true)
         (cond (decide (0 < x7_1))
           (cond (decide (0 ≤ IntKind.i64.wrap (x7_1 - 1)) && decide (IntKind.i64.wrap (x7_1 - 1) < (ra0_0.length : Int)))
             (h2 ra0_0 x7_1 (!(Op.bytesLess ((ra0_0.getD (IntKind.i64.wrap (x7_1 - 1)).toNat default).fName) ((ra0_0.getD x7_1.toNat default).fName))))
             none)
           (h2 ra0_0 x7_1 false))))
     none)
   (h3 ra0_0)
noncomputable def l1 (M : Nat) : Nat → Ht1
  | 0, _, _ => none
  | k + 1, ra0_0, x7_1 => s1 M (j2 M (l1 M k)) (j3 M) ra0_0 x7_1
noncomputable def s (M : Nat) (h1 : Ht1) (ra0_0 : (List api_Feature)) : Option Rt :=
  h1 ra0_0 0
end feature_Valid
noncomputable def feature_Valid (M : Nat) (ra0_0 : (List api_Feature)) : Option Bool :=
  feature_Valid.s M (feature_Valid.l1 M M) ra0_0
namespace feature_Valid
noncomputable def S2 (ra0_0 : (List api_Feature)) (x7_1 : Int) (x36_2 : Bool) : St E :=
  mkSt 41 41 [(0, .one (.tv (.sl (.st .api_Feature) ra0_0))), (5, .one (.tv (.sl (.st .api_Feature) ra0_0))), (6, .one (.tv (.int .i64 (ra0_0.length : Int)))), (7, .one (.tv (.int .i64 x7_1))), (36, .one (.tv (.bool x36_2)))] [] 0 [] [] false
noncomputable def S3 (ra0_0 : (List api_Feature)) : St E :=
  mkSt 41 41 [(0, .one (.tv (.sl (.st .api_Feature) ra0_0)))] [] 0 [] [] false
noncomputable def S1 (ra0_0 : (List api_Feature)) (x7_1 : Int) : St E :=
  mkSt 41 41 [(0, .one (.tv (.sl (.st .api_Feature) ra0_0))), (5, .one (.tv (.sl (.st .api_Feature) ra0_0))), (6, .one (.tv (.int .i64 (ra0_0.length : Int)))), (7, .one (.tv (.int .i64 x7_1)))] [] 0 [] [] false
noncomputable def K (M : Nat) : Cont E Bool := kRet (C15 M) Tryd.f15.results.toList rs ex
noncomputable abbrev zA (M : Nat) (ZL : List Dir → Option (Ut)) (q : List Dir) : Ut := zAt (C15 M) (H M) M 0 ZL body plans (K M) q
noncomputable abbrev lA (M : Nat) (ZL : List Dir → Option (Ut)) (q : List Dir) (k : Nat) : Ut := lpAt (C15 M) (H M) M 0 ZL body plans (K M) q k
noncomputable abbrev gA (M : Nat) (Z : Zt) (q : List Dir) : Ut := seg (C15 M) (H M) 0 Z body plans (K M) q
set_option maxRecDepth 100000
theorem g2 (M : Nat) (Z : Zt) (ra0_0 : (List api_Feature)) (x7_1 : Int) (x36_2 : Bool) : gA M Z Qt2 (S2 ra0_0 x7_1 x36_2) = s2 M
    (fun ra0_0 x7_1 => Z Qt1 (S1 ra0_0 x7_1)) ra0_0 x7_1 x36_2 := by kernel_rfl
theorem g3 (M : Nat) (Z : Zt) (ra0_0 : (List api_Feature)) : gA M Z Qt3 (S3 ra0_0) = s3 M ra0_0 := by kernel_rfl
theorem g1 (M : Nat) (Z : Zt) (ra0_0 : (List api_Feature)) (x7_1 : Int) : gA M Z Qt1 (S1 ra0_0 x7_1) = s1 M
    (fun ra0_0 x7_1 x36_2 => Z Qt2 (S2 ra0_0 x7_1 x36_2))
    (fun ra0_0 => Z Qt3 (S3 ra0_0)) ra0_0 x7_1 := by kernel_rfl
theorem g (M : Nat) (Z : Zt) (ra0_0 : (List api_Feature)) : runZ (C15 M) (extZ (C15 M) (H M) 0) Z body plans (start (argHs ps ra0_0) Tryd.f15.ntmps 41) (K M) = s M
    (fun ra0_0 x7_1 => Z Qt1 (S1 ra0_0 x7_1)) ra0_0 := by kernel_rfl
theorem e2 (M : Nat) (Z1 : Ut) (h1 : Ht1) (hZ1 : ∀ (ra0_0 : (List api_Feature)) (x7_1 : Int), Z1 (S1 ra0_0 x7_1) = h1 ra0_0 x7_1) (ra0_0 : (List api_Feature)) (x7_1 : Int) (x36_2 : Bool) : zA M (zlq Qt2 [Z1]) Qt2 (S2 ra0_0 x7_1 x36_2) = j2 M h1 ra0_0 x7_1 x36_2 := by
  refine (seg_join (Hok M) 0 Qt2 body plans (K M) _ (S2 ra0_0 x7_1 x36_2) (around_zlq _ _ (by kernel_rfl)) (by kernel_rfl)).trans ?_
  refine (g2 M _ ra0_0 x7_1 x36_2).trans ?_
  have x0 := (funext fun ra0_0 => funext fun x7_1 => Eq.trans (b := Z1 (S1 ra0_0 x7_1)) (by kernel_rfl) (hZ1 ra0_0 x7_1) : (fun ra0_0 x7_1 => zA M (zlq Qt2 [Z1]) Qt1 (S1 ra0_0 x7_1)) = h1)
  rw [x0]; rfl
theorem e3 (M : Nat) (ra0_0 : (List api_Feature)) : zA M (zlq Qt3 []) Qt3 (S3 ra0_0) = j3 M ra0_0 := by
  refine (seg_join (Hok M) 0 Qt3 body plans (K M) _ (S3 ra0_0) (around_zlq _ _ (by kernel_rfl)) (by kernel_rfl)).trans ?_
  refine (g3 M _ ra0_0).trans ?_
  rfl
theorem el1 (M : Nat) (k : Nat) (ra0_0 : (List api_Feature)) (x7_1 : Int) : lA M (zlq Qt1 []) Qt1 k (S1 ra0_0 x7_1) = l1 M k ra0_0 x7_1 := by
  induction k generalizing ra0_0 x7_1 with
  | zero => kernel_rfl
  | succ k ih =>
    refine Eq.trans (b := lA M (zlq Qt1 [lA M (zlq Qt1 []) Qt1 k]) Qt1 (k + 1) (S1 ra0_0 x7_1)) (by kernel_rfl) ?_
    refine (seg_loop (Hok M) 0 Qt1 body plans (K M) _ (S1 ra0_0 x7_1) (around_zlq _ _ (by kernel_rfl)) (by kernel_rfl) (by kernel_rfl)).trans ?_
    refine (g1 M _ ra0_0 x7_1).trans ?_
    have x0 := (funext fun ra0_0 => funext fun x7_1 => funext fun x36_2 => Eq.trans (b := zA M (zlq Qt2 [(lA M (zlq Qt1 []) Qt1 k)]) Qt2 (S2 ra0_0 x7_1 x36_2)) (by kernel_rfl) (e2 M (lA M (zlq Qt1 []) Qt1 k) (l1 M k) (fun ra0_0 x7_1 => ih ra0_0 x7_1) ra0_0 x7_1 x36_2) : (fun ra0_0 x7_1 x36_2 => zA M (zlq Qt1 [lA M (zlq Qt1 []) Qt1 k]) Qt2 (S2 ra0_0 x7_1 x36_2)) = j2 M (l1 M k))
    have x1 := (funext fun ra0_0 => Eq.trans (b := zA M (zlq Qt3 []) Qt3 (S3 ra0_0)) (by kernel_rfl) (e3 M ra0_0) : (fun ra0_0 => zA M (zlq Qt1 [lA M (zlq Qt1 []) Qt1 k]) Qt3 (S3 ra0_0)) = j3 M)
    rw [x0, x1]; rfl
theorem e1 (M : Nat) (ra0_0 : (List api_Feature)) (x7_1 : Int) : zA M (zlq Qt1 []) Qt1 (S1 ra0_0 x7_1) = l1 M M ra0_0 x7_1 :=
  Eq.trans (b := lA M (zlq Qt1 []) Qt1 M (S1 ra0_0 x7_1)) (by kernel_rfl) (el1 M M ra0_0 x7_1)
theorem run (M : Nat) (ra0_0 : (List api_Feature)) : runF (rs := rs) (C15 M) (X M) M body Tryd.f15.ntmps 41 Tryd.f15.results.toList plans ps ex ra0_0 = feature_Valid M ra0_0 := by
  refine Eq.trans (b := runC (C15 M) (X M) M body plans (start (argHs ps ra0_0) Tryd.f15.ntmps 41) (K M)) (by kernel_rfl) ?_
  refine (zrun (Hok M) 0 body plans _ (K M) (fun _ => none) fun _ => rfl).symm.trans ?_
  refine (g M _ ra0_0).trans ?_
  have x0 := (funext fun ra0_0 => funext fun x7_1 => Eq.trans (b := zA M (zlq Qt1 []) Qt1 (S1 ra0_0 x7_1)) (by kernel_rfl) (e1 M ra0_0 x7_1) : (fun ra0_0 x7_1 => zA M (fun _ => none) Qt1 (S1 ra0_0 x7_1)) = l1 M M)
  rw [x0]; rfl
noncomputable def sig (M : Nat) : Sig E := { ps := ps, rs := rs, ex := ex, fn := fun x => feature_Valid M x }
theorem says (M : Nat) : callable Tryd.prog 15 = true ∧ ∀ x y, (sig M).fn x = some y → Says Tryd.prog 15 (sig M) x y := by
  refine ⟨by kernel_rfl, fun x y h => ?_⟩
  refine says_of_run (S := sig M) (C := C15 M) (X := X M) (M := M) (q := 41) (plans := plans) (COk_Tryd) (SigOk_C15 M) (ItOk_C15 M) (by kernel_rfl) (callOk_ext COk_Tryd (SigOk_C15 M) (ItOk_C15 M) (by kernel_rfl) inl_ok.ok (RSigOk_C15 M) (fun _ => callOk_none) M 1) (Tryd.func15) (body := body) (by kernel_rfl) (by kernel_rfl) ?_
  exact (run M x).trans h
end feature_Valid
end Go.Ai.Pav
end
namespace Go.Ai.Pav
open Go Go.Ai
deriving instance DecidableEq for api_Feature

/-- A byte of a name. -/
def nameByte (c : UInt8) : Bool := !((decide ((c.toNat : Int) < 97) || decide (122 < (c.toNat : Int))) && (decide ((c.toNat : Int) < 48) || decide (57 < (c.toNat : Int))) && !decide ((c.toNat : Int) = 45))
def isName (s : List UInt8) : Bool := s.all nameByte && !s.isEmpty

variable {M : Nat}

theorem feature_name_eq (hM : 1048576 < M) {s : List UInt8} (hl : s.length ≤ 1048576) : feature_name M s = some (isName s) :=
  over (xs := s) (f := fun k i (_ : Unit) => feature_name.l1 M k s i) (g := fun r _ => some (r.all nameByte && !s.isEmpty)) (fun k _ => by
    simp only [feature_name.l1, feature_name.s1, ↓cneg (Int.lt_irrefl _)]
    cases s <;> simp) (fun k i x r _ hi hx ih => by
    have ih := ih ()
    simp (disch := omega) only [feature_name.l1, feature_name.s1, feature_name.j2, feature_name.s2, ↓cpos, ↓cpos2, Int.toNat_natCast, bt_getD, hx, wsucc, ih]
    simp only [List.all_cons, nameByte]
    cases decide ((x.toNat : Int) < 97) <;> cases decide (122 < (x.toNat : Int)) <;> cases decide ((x.toNat : Int) < 48) <;> cases decide (57 < (x.toNat : Int)) <;> cases decide ((x.toNat : Int) = 45) <;> simp) (by omega) ()

theorem ref02_Name_eq (hM : 1048576 < M) {s : List UInt8} (hl : s.length ≤ 1048576) : pentaglotref02_Name M s = some (isName s) :=
  over (xs := s) (f := fun k i (_ : Unit) => pentaglotref02_Name.l1 M k s i) (g := fun r _ => some (r.all nameByte && !s.isEmpty)) (fun k _ => by
    simp only [pentaglotref02_Name.l1, pentaglotref02_Name.s1, pentaglotref02_Name.j3, pentaglotref02_Name.s3, ↓cneg (Int.lt_irrefl _)]
    cases s <;> simp) (fun k i x r _ hi hx ih => by
    have ih := ih ()
    simp (disch := omega) only [pentaglotref02_Name.l1, pentaglotref02_Name.s1, pentaglotref02_Name.j2, pentaglotref02_Name.s2, ↓cpos, ↓cpos2, Int.toNat_natCast, bt_getD, hx, wsucc, ih]
    simp only [List.all_cons, nameByte]
    cases decide ((x.toNat : Int) < 97) <;> cases decide (122 < (x.toNat : Int)) <;> cases decide ((x.toNat : Int) < 48) <;> cases decide (57 < (x.toNat : Int)) <;> cases decide ((x.toNat : Int) = 45) <;> simp) (by omega) ()

theorem slices_Index_eq (hM : 1048576 < M) {xs : List (List UInt8)} (hl : xs.length ≤ 1048576) (v : List UInt8) : slices_Index_string_string M xs v = some (fstIdx (fun x => decide (v = x)) xs 0) :=
  overI (xs := xs) (f := fun k i (_ : Unit) => slices_Index_string_string.l1 M k xs v i) (g := fun i r _ => some (fstIdx (fun x => decide (v = x)) r i)) (fun k _ => by
    simp only [slices_Index_string_string.l1, slices_Index_string_string.s1, ↓cneg (Int.lt_irrefl _), fstIdx]) (fun k i x r _ hi hx _ _ ih => by
    have ih := ih ()
    simp (disch := omega) only [slices_Index_string_string.l1, slices_Index_string_string.s1, ↓cpos, ↓cpos2, Int.toNat_natCast, hx, wsucc, ih, fstIdx]
    cases decide (v = x) <;> rfl) (by omega) ()

theorem slices_Contains_eq (hM : 1048576 < M) {xs : List (List UInt8)} (hl : xs.length ≤ 1048576) (v : List UInt8) : slices_Contains_string_string M xs v = some (xs.any fun x => decide (v = x)) := by
  simp only [slices_Contains_string_string, slices_Contains_string_string.s, slices_Index_eq hM hl, Option.bind_some, fstIdx_nonneg]

theorem ref02_In_eq (hM : 1048576 < M) {xs : List (List UInt8)} (hl : xs.length ≤ 1048576) (v : List UInt8) : pentaglotref02_In M xs v = some (xs.any fun x => decide (v = x)) :=
  over (xs := xs) (f := fun k i (_ : Unit) => pentaglotref02_In.l1 M k xs v i) (g := fun r _ => some (r.any fun x => decide (v = x))) (fun k _ => by
    simp only [pentaglotref02_In.l1, pentaglotref02_In.s1, ↓cneg (Int.lt_irrefl _), List.any_nil]) (fun k i x r _ hi hx ih => by
    have ih := ih ()
    simp (disch := omega) only [pentaglotref02_In.l1, pentaglotref02_In.s1, ↓cpos, ↓cpos2, Int.toNat_natCast, hx, wsucc, ih, List.any_cons, eq_comm (a := x)]
    cases decide (v = x) <;> rfl) (by omega) ()

/-- The value of a name in a record. -/
def getF : List api_Feature → List UInt8 → Option (List UInt8)
  | [], _ => none
  | f :: r, n => if f.fName = n then some f.fValue else getF r n

theorem feature_Get_eq (hM : 1048576 < M) {r : List api_Feature} (hl : r.length ≤ 1048576) (n : List UInt8) : feature_Get M r n = some ((getF r n).getD [], (getF r n).isSome) :=
  over (xs := r) (f := fun k i (_ : Unit) => feature_Get.l1 M k n r i) (g := fun r _ => some ((getF r n).getD [], (getF r n).isSome)) (fun k _ => by
    simp only [feature_Get.l1, feature_Get.s1, ↓cneg (Int.lt_irrefl _), getF]; rfl) (fun k i x r' _ hi hx ih => by
    have ih := ih ()
    simp (disch := omega) only [feature_Get.l1, feature_Get.s1, ↓cpos, ↓cpos2, Int.toNat_natCast, hx, wsucc, ih, getF]
    by_cases h : x.fName = n <;> simp [h]) (by omega) ()

/-- Strictly ascending names, from a feature on. -/
def asc : Option api_Feature → List api_Feature → Bool
  | _, [] => true
  | none, f :: r => asc (some f) r
  | some e, f :: r => Op.bytesLess e.fName f.fName && asc (some f) r

def isRec (r : List api_Feature) : Bool := asc none r

theorem ref02_Record_eq (hM : 1048576 < M) {r : List api_Feature} (hl : r.length ≤ 1048576) : pentaglotref02_Record M r = some (isRec r) := by
  unfold pentaglotref02_Record pentaglotref02_Record.s isRec
  cases r with
  | nil =>
    obtain ⟨k, rfl⟩ := Nat.exists_eq_succ_of_ne_zero (by omega : M ≠ 0)
    rfl
  | cons f r =>
    have key := uptoFrom (lo := 1) (n := (f :: r).length) (f := fun k i (_ : Unit) => pentaglotref02_Record.l1 M k (f :: r) i) (g := fun i _ => some (asc (some ((f :: r).getD (i - 1) default)) ((f :: r).drop i))) (fun k _ => by
      simp only [pentaglotref02_Record.l1, pentaglotref02_Record.s1, ↓cneg (Int.lt_irrefl _), List.drop_length, asc]) (fun k i _ hlo hi ih => by
      have ih := ih ()
      obtain ⟨i, rfl⟩ := Nat.exists_eq_succ_of_ne_zero (by omega : i ≠ 0)
      obtain ⟨y, t, e2, g2, e3⟩ := dropCons (xs := f :: r) (i := i + 1) hi
      have w : IntKind.i64.wrap (((i + 1 : Nat) : Int) - 1) = (i : Int) := by rw [wrap64] <;> omega
      simp only [Nat.succ_eq_add_one, Nat.add_sub_cancel, g2, e3] at ih ⊢
      simp (disch := omega) only [pentaglotref02_Record.l1, pentaglotref02_Record.s1, w, ↓cpos, ↓cpos2, Int.toNat_natCast, wsucc, ih, e2, g2, asc, cnot]
      cases Op.bytesLess ((f :: r).getD i default).fName y.fName <;> rfl) r.length M 1 () (by omega) (by simp; omega) (by simp at hl; omega)
    exact key

end Go.Ai.Pav
set_option linter.unusedVariables false
set_option linter.unusedSectionVars false
noncomputable section
namespace Go.Ai.Pav
open Go Go.Ai Go.Proofs
noncomputable def sigs42 (M : Nat) : List (Nat × Sig E) := []
noncomputable def rs42 (M : Nat) : List (Nat × Sig E) := []
noncomputable def its42 (M : Nat) : List (Nat × It E) := []
theorem sigs_ok42 (M : Nat) : SigsOk Tryd.prog (sigs42 M) := SigsOk.nil
theorem rs_ok42 (M : Nat) : SigsOk Tryd.prog (rs42 M) := SigsOk.nil
theorem its_ok42 (M : Nat) : ItsOk Tryd.prog (its42 M) := ItsOk.nil
noncomputable def C42 (M : Nat) : Ctx E := { ti := fun t => tisE.lookup t, sig := fun f => (sigs42 M).lookup f, it := fun f => (its42 M).lookup f, nt := 109 }
theorem SigOk_C42 (M : Nat) : SigOk Tryd.prog (C42 M) := sigs_ok42 M
theorem RSigOk_C42 (M : Nat) : SigOk Tryd.prog ({ ti := fun _ => none, sig := fun f => (rs42 M).lookup f } : Ctx E) := rs_ok42 M
theorem ItOk_C42 (M : Nat) : ItOk Tryd.prog (C42 M) := (its_ok42 M).ok
namespace feature_Unify
noncomputable def plans : List (Option (Plan Nm)) := [none, none, none, some { tmps := [(0, .asis), (1, .asis), (6, .own (100006, 0, 45) (.st .api_Feature)), (7, .asis), (8, .asis)], boxes := [] }, none, some { tmps := [(0, .asis), (1, .asis), (6, .own (100006, 0, 45) (.st .api_Feature)), (7, .asis), (8, .asis)], boxes := [] }, some { tmps := [(0, .asis), (1, .asis), (6, .own (100006, 0, 45) (.st .api_Feature)), (7, .asis), (8, .asis), (36, .asis)], boxes := [] }, none, none, none, none, none, none, none, none]
noncomputable abbrev body : Code := bodyOf Tryd.f42
def ps : List (Ty Nm) := [(.sl (.st .api_Feature)), (.sl (.st .api_Feature))]
def rs : List (Ty Nm) := [(.sl (.st .api_Feature)), .bool]
def ex : List (Option Nat) := [some 45, none]
noncomputable def inl : List (Nat × Nat × Nat × Inl Nm) := []
theorem inl_ok : InlsOk Tryd.prog inl := InlsOk.nil
noncomputable def X (M : Nat) : Ext E ((List api_Feature) × Bool) := extOf (C42 M) (inlOf inl) (fun f => (rs42 M).lookup f) (fun _ _ _ => none) noX M 1
abbrev Rt := (List api_Feature) × Bool
noncomputable def H (M : Nat) : Hd E Rt := hd0 (X M)
theorem Hok (M : Nat) : (H M).ok (C42 M) M := hd0_ok _
abbrev Qt3 : List Dir := [.r, .r, .r, .l, .k, .L, .r, .k, .k]
abbrev Ht3 := (List api_Feature) → (List api_Feature) → Int → Int → (List api_Feature) → Bool → Option Rt
abbrev Qt2 : List Dir := [.r, .r, .r, .l, .k, .L]
abbrev Ht2 := (List api_Feature) → (List api_Feature) → Int → Int → (List api_Feature) → Option Rt
abbrev Qt1 : List Dir := [.r, .r, .r, .l, .k]
abbrev Ht1 := (List api_Feature) → (List api_Feature) → (List api_Feature) → Int → Int → Option Rt
abbrev Zt := List Dir → St E → Option Rt
abbrev Ut := St E → Option Rt
noncomputable def s3 (M : Nat) (h1 : Ht1) (aa0_0 : (List api_Feature)) (ba1_0 : (List api_Feature)) (i7_1 : Int) (k8_1 : Int) (out6_1 : (List api_Feature)) (x36_3 : Bool) : Option Rt :=
  cond (x36_3)
   (cond (decide (0 ≤ i7_1) && decide (i7_1 < (aa0_0.length : Int)))
     (cond (decide (out6_1.length + ([(aa0_0.getD i7_1.toNat default)] : List api_Feature).length ≤ lim))
       (h1 aa0_0 ba1_0 (out6_1 ++ [(aa0_0.getD i7_1.toNat default)]) (IntKind.i64.wrap (i7_1 + 1)) k8_1)
       none)
     none)
   (cond (decide (i7_1 = (aa0_0.length : Int)))
     (cond (decide (0 ≤ k8_1) && decide (k8_1 < (ba1_0.length : Int)))
       (cond (decide (out6_1.length + ([(ba1_0.getD k8_1.toNat default)] : List api_Feature).length ≤ lim))
         (h1 aa0_0 ba1_0 (out6_1 ++ [(ba1_0.getD k8_1.toNat default)]) i7_1 (IntKind.i64.wrap (k8_1 + 1)))
         none)
       none)
     (cond (decide (0 ≤ k8_1) && decide (k8_1 < (ba1_0.length : Int)))
       (cond (decide (0 ≤ i7_1) && decide (i7_1 < (aa0_0.length : Int)))
         (cond (Op.bytesLess ((ba1_0.getD k8_1.toNat default).fName) ((aa0_0.getD i7_1.toNat default).fName))
           (cond (decide (0 ≤ k8_1) && decide (k8_1 < (ba1_0.length : Int)))
             (cond (decide (out6_1.length + ([(ba1_0.getD k8_1.toNat default)] : List api_Feature).length ≤ lim))
               (h1 aa0_0 ba1_0 (out6_1 ++ [(ba1_0.getD k8_1.toNat default)]) i7_1 (IntKind.i64.wrap (k8_1 + 1)))
               none)
             none)
           (cond (decide (0 ≤ i7_1) && decide (i7_1 < (aa0_0.length : Int)))
             (cond (decide (0 ≤ k8_1) && decide (k8_1 < (ba1_0.length : Int)))
               (cond (!decide (((aa0_0.getD i7_1.toNat default).fValue) = ((ba1_0.getD k8_1.toNat default).fValue)))
                 (some ([], false))
                 (cond (decide (0 ≤ i7_1) && decide (i7_1 < (aa0_0.length : Int)))
                   (cond (decide (out6_1.length + ([(aa0_0.getD i7_1.toNat default)] : List api_Feature).length ≤ lim))
                     (h1 aa0_0 ba1_0 (out6_1 ++ [(aa0_0.getD i7_1.toNat default)]) (IntKind.i64.wrap (i7_1 + 1)) (IntKind.i64.wrap (k8_1 + 1)))
                     none)
                   none))
               none)
             none))
         none)
       none))
noncomputable def j3 (M : Nat) (h1 : Ht1) (aa0_0 : (List api_Feature)) (ba1_0 : (List api_Feature)) (i7_1 : Int) (k8_1 : Int) (out6_1 : (List api_Feature)) (x36_3 : Bool) : Option Rt :=
  s3 M h1 aa0_0 ba1_0 i7_1 k8_1 out6_1 x36_3
noncomputable def s2 (M : Nat) (h3 : Ht3) (aa0_0 : (List api_Feature)) (ba1_0 : (List api_Feature)) (i7_1 : Int) (k8_1 : Int) (out6_1 : (List api_Feature)) : Option Rt :=
  cond (decide (k8_1 = (ba1_0.length : Int)))
   (h3 aa0_0 ba1_0 i7_1 k8_1 out6_1 true)
   (cond (decide (i7_1 < (aa0_0.length : Int)))
     (cond (decide (0 ≤ i7_1) && decide (i7_1 < (aa0_0.length : Int)))
       (cond (decide (0 ≤ k8_1) && decide (k8_1 < (ba1_0.length : Int)))
         (h3 aa0_0 ba1_0 i7_1 k8_1 out6_1 (Op.bytesLess ((aa0_0.getD i7_1.toNat default).fName) ((ba1_0.getD k8_1.toNat default).fName)))
         none)
       none)
     (h3 aa0_0 ba1_0 i7_1 k8_1 out6_1 false))
noncomputable def j2 (M : Nat) (h1 : Ht1) (aa0_0 : (List api_Feature)) (ba1_0 : (List api_Feature)) (i7_1 : Int) (k8_1 : Int) (out6_1 : (List api_Feature)) : Option Rt :=
  s2 M (j3 M h1) aa0_0 ba1_0 i7_1 k8_1 out6_1
noncomputable def s1 (M : Nat) (h2 : Ht2) (aa0_0 : (List api_Feature)) (ba1_0 : (List api_Feature)) (out6_1 : (List api_Feature)) (i7_1 : Int) (k8_1 : Int) : Option Rt :=
  cond (decide (i7_1 < (aa0_0.length : Int)))
   (h2 aa0_0 ba1_0 i7_1 k8_1 out6_1)
   (cond (decide (k8_1 < (ba1_0.length : Int)))
     (h2 aa0_0 ba1_0 i7_1 k8_1 out6_1)
     (some (out6_1, true)))
noncomputable def l1 (M : Nat) : Nat → Ht1
  | 0, _, _, _, _, _ => none
  | k + 1, aa0_0, ba1_0, out6_1, i7_1, k8_1 => s1 M (j2 M (l1 M k)) aa0_0 ba1_0 out6_1 i7_1 k8_1
noncomputable def s (M : Nat) (h1 : Ht1) (aa0_0 : (List api_Feature)) (ba1_0 : (List api_Feature)) : Option Rt :=
  cond (decide (0 ≤ IntKind.i64.wrap ((aa0_0.length : Int) + (ba1_0.length : Int))) && decide (IntKind.i64.wrap ((aa0_0.length : Int) + (ba1_0.length : Int)) ≤ (lim : Int)))
   (h1 aa0_0 ba1_0 ([] : (List api_Feature)) 0 0)
   none
end feature_Unify
noncomputable def feature_Unify (M : Nat) (aa0_0 : (List api_Feature)) (ba1_0 : (List api_Feature)) : Option ((List api_Feature) × Bool) :=
  feature_Unify.s M (feature_Unify.l1 M M) aa0_0 ba1_0
namespace feature_Unify
noncomputable def S3 (aa0_0 : (List api_Feature)) (ba1_0 : (List api_Feature)) (i7_1 : Int) (k8_1 : Int) (out6_1 : (List api_Feature)) (x36_3 : Bool) : St E :=
  mkSt 109 109 [(0, .one (.tv (.sl (.st .api_Feature) aa0_0))), (1, .one (.tv (.sl (.st .api_Feature) ba1_0))), (6, .one (.tok (100006, 0, 45) (.st .api_Feature) out6_1)), (7, .one (.tv (.int .i64 i7_1))), (8, .one (.tv (.int .i64 k8_1))), (36, .one (.tv (.bool x36_3)))] [] 0 [] [] false
noncomputable def S2 (aa0_0 : (List api_Feature)) (ba1_0 : (List api_Feature)) (i7_1 : Int) (k8_1 : Int) (out6_1 : (List api_Feature)) : St E :=
  mkSt 109 109 [(0, .one (.tv (.sl (.st .api_Feature) aa0_0))), (1, .one (.tv (.sl (.st .api_Feature) ba1_0))), (6, .one (.tok (100006, 0, 45) (.st .api_Feature) out6_1)), (7, .one (.tv (.int .i64 i7_1))), (8, .one (.tv (.int .i64 k8_1)))] [] 0 [] [] false
noncomputable def S1 (aa0_0 : (List api_Feature)) (ba1_0 : (List api_Feature)) (out6_1 : (List api_Feature)) (i7_1 : Int) (k8_1 : Int) : St E :=
  mkSt 109 109 [(0, .one (.tv (.sl (.st .api_Feature) aa0_0))), (1, .one (.tv (.sl (.st .api_Feature) ba1_0))), (6, .one (.tok (100006, 0, 45) (.st .api_Feature) out6_1)), (7, .one (.tv (.int .i64 i7_1))), (8, .one (.tv (.int .i64 k8_1)))] [] 0 [] [] false
noncomputable def K (M : Nat) : Cont E ((List api_Feature) × Bool) := kRet (C42 M) Tryd.f42.results.toList rs ex
noncomputable abbrev zA (M : Nat) (ZL : List Dir → Option (Ut)) (q : List Dir) : Ut := zAt (C42 M) (H M) M 0 ZL body plans (K M) q
noncomputable abbrev lA (M : Nat) (ZL : List Dir → Option (Ut)) (q : List Dir) (k : Nat) : Ut := lpAt (C42 M) (H M) M 0 ZL body plans (K M) q k
noncomputable abbrev gA (M : Nat) (Z : Zt) (q : List Dir) : Ut := seg (C42 M) (H M) 0 Z body plans (K M) q
set_option maxRecDepth 100000
theorem g3 (M : Nat) (Z : Zt) (aa0_0 : (List api_Feature)) (ba1_0 : (List api_Feature)) (i7_1 : Int) (k8_1 : Int) (out6_1 : (List api_Feature)) (x36_3 : Bool) : gA M Z Qt3 (S3 aa0_0 ba1_0 i7_1 k8_1 out6_1 x36_3) = s3 M
    (fun aa0_0 ba1_0 out6_1 i7_1 k8_1 => Z Qt1 (S1 aa0_0 ba1_0 out6_1 i7_1 k8_1)) aa0_0 ba1_0 i7_1 k8_1 out6_1 x36_3 := by kernel_rfl
theorem g2 (M : Nat) (Z : Zt) (aa0_0 : (List api_Feature)) (ba1_0 : (List api_Feature)) (i7_1 : Int) (k8_1 : Int) (out6_1 : (List api_Feature)) : gA M Z Qt2 (S2 aa0_0 ba1_0 i7_1 k8_1 out6_1) = s2 M
    (fun aa0_0 ba1_0 i7_1 k8_1 out6_1 x36_3 => Z Qt3 (S3 aa0_0 ba1_0 i7_1 k8_1 out6_1 x36_3)) aa0_0 ba1_0 i7_1 k8_1 out6_1 := by kernel_rfl
theorem g1 (M : Nat) (Z : Zt) (aa0_0 : (List api_Feature)) (ba1_0 : (List api_Feature)) (out6_1 : (List api_Feature)) (i7_1 : Int) (k8_1 : Int) : gA M Z Qt1 (S1 aa0_0 ba1_0 out6_1 i7_1 k8_1) = s1 M
    (fun aa0_0 ba1_0 i7_1 k8_1 out6_1 => Z Qt2 (S2 aa0_0 ba1_0 i7_1 k8_1 out6_1)) aa0_0 ba1_0 out6_1 i7_1 k8_1 := by kernel_rfl
theorem g (M : Nat) (Z : Zt) (aa0_0 : (List api_Feature)) (ba1_0 : (List api_Feature)) : runZ (C42 M) (extZ (C42 M) (H M) 0) Z body plans (start (argHs ps (aa0_0, ba1_0)) Tryd.f42.ntmps 109) (K M) = s M
    (fun aa0_0 ba1_0 out6_1 i7_1 k8_1 => Z Qt1 (S1 aa0_0 ba1_0 out6_1 i7_1 k8_1)) aa0_0 ba1_0 := by kernel_rfl
theorem e3 (M : Nat) (Z1 : Ut) (h1 : Ht1) (hZ1 : ∀ (aa0_0 : (List api_Feature)) (ba1_0 : (List api_Feature)) (out6_1 : (List api_Feature)) (i7_1 : Int) (k8_1 : Int), Z1 (S1 aa0_0 ba1_0 out6_1 i7_1 k8_1) = h1 aa0_0 ba1_0 out6_1 i7_1 k8_1) (aa0_0 : (List api_Feature)) (ba1_0 : (List api_Feature)) (i7_1 : Int) (k8_1 : Int) (out6_1 : (List api_Feature)) (x36_3 : Bool) : zA M (zlq Qt3 [Z1]) Qt3 (S3 aa0_0 ba1_0 i7_1 k8_1 out6_1 x36_3) = j3 M h1 aa0_0 ba1_0 i7_1 k8_1 out6_1 x36_3 := by
  refine (seg_join (Hok M) 0 Qt3 body plans (K M) _ (S3 aa0_0 ba1_0 i7_1 k8_1 out6_1 x36_3) (around_zlq _ _ (by kernel_rfl)) (by kernel_rfl)).trans ?_
  refine (g3 M _ aa0_0 ba1_0 i7_1 k8_1 out6_1 x36_3).trans ?_
  have x0 := (funext fun aa0_0 => funext fun ba1_0 => funext fun out6_1 => funext fun i7_1 => funext fun k8_1 => Eq.trans (b := Z1 (S1 aa0_0 ba1_0 out6_1 i7_1 k8_1)) (by kernel_rfl) (hZ1 aa0_0 ba1_0 out6_1 i7_1 k8_1) : (fun aa0_0 ba1_0 out6_1 i7_1 k8_1 => zA M (zlq Qt3 [Z1]) Qt1 (S1 aa0_0 ba1_0 out6_1 i7_1 k8_1)) = h1)
  rw [x0]; rfl
theorem e2 (M : Nat) (Z1 : Ut) (h1 : Ht1) (hZ1 : ∀ (aa0_0 : (List api_Feature)) (ba1_0 : (List api_Feature)) (out6_1 : (List api_Feature)) (i7_1 : Int) (k8_1 : Int), Z1 (S1 aa0_0 ba1_0 out6_1 i7_1 k8_1) = h1 aa0_0 ba1_0 out6_1 i7_1 k8_1) (aa0_0 : (List api_Feature)) (ba1_0 : (List api_Feature)) (i7_1 : Int) (k8_1 : Int) (out6_1 : (List api_Feature)) : zA M (zlq Qt2 [Z1]) Qt2 (S2 aa0_0 ba1_0 i7_1 k8_1 out6_1) = j2 M h1 aa0_0 ba1_0 i7_1 k8_1 out6_1 := by
  refine (seg_join (Hok M) 0 Qt2 body plans (K M) _ (S2 aa0_0 ba1_0 i7_1 k8_1 out6_1) (around_zlq _ _ (by kernel_rfl)) (by kernel_rfl)).trans ?_
  refine (g2 M _ aa0_0 ba1_0 i7_1 k8_1 out6_1).trans ?_
  have x0 := (funext fun aa0_0 => funext fun ba1_0 => funext fun i7_1 => funext fun k8_1 => funext fun out6_1 => funext fun x36_3 => Eq.trans (b := zA M (zlq Qt3 [Z1]) Qt3 (S3 aa0_0 ba1_0 i7_1 k8_1 out6_1 x36_3)) (by kernel_rfl) (e3 M Z1 h1 hZ1 aa0_0 ba1_0 i7_1 k8_1 out6_1 x36_3) : (fun aa0_0 ba1_0 i7_1 k8_1 out6_1 x36_3 => zA M (zlq Qt2 [Z1]) Qt3 (S3 aa0_0 ba1_0 i7_1 k8_1 out6_1 x36_3)) = j3 M h1)
  rw [x0]; rfl
theorem el1 (M : Nat) (k : Nat) (aa0_0 : (List api_Feature)) (ba1_0 : (List api_Feature)) (out6_1 : (List api_Feature)) (i7_1 : Int) (k8_1 : Int) : lA M (zlq Qt1 []) Qt1 k (S1 aa0_0 ba1_0 out6_1 i7_1 k8_1) = l1 M k aa0_0 ba1_0 out6_1 i7_1 k8_1 := by
  induction k generalizing aa0_0 ba1_0 out6_1 i7_1 k8_1 with
  | zero => kernel_rfl
  | succ k ih =>
    refine Eq.trans (b := lA M (zlq Qt1 [lA M (zlq Qt1 []) Qt1 k]) Qt1 (k + 1) (S1 aa0_0 ba1_0 out6_1 i7_1 k8_1)) (by kernel_rfl) ?_
    refine (seg_loop (Hok M) 0 Qt1 body plans (K M) _ (S1 aa0_0 ba1_0 out6_1 i7_1 k8_1) (around_zlq _ _ (by kernel_rfl)) (by kernel_rfl) (by kernel_rfl)).trans ?_
    refine (g1 M _ aa0_0 ba1_0 out6_1 i7_1 k8_1).trans ?_
    have x0 := (funext fun aa0_0 => funext fun ba1_0 => funext fun i7_1 => funext fun k8_1 => funext fun out6_1 => Eq.trans (b := zA M (zlq Qt2 [(lA M (zlq Qt1 []) Qt1 k)]) Qt2 (S2 aa0_0 ba1_0 i7_1 k8_1 out6_1)) (by kernel_rfl) (e2 M (lA M (zlq Qt1 []) Qt1 k) (l1 M k) (fun aa0_0 ba1_0 out6_1 i7_1 k8_1 => ih aa0_0 ba1_0 out6_1 i7_1 k8_1) aa0_0 ba1_0 i7_1 k8_1 out6_1) : (fun aa0_0 ba1_0 i7_1 k8_1 out6_1 => zA M (zlq Qt1 [lA M (zlq Qt1 []) Qt1 k]) Qt2 (S2 aa0_0 ba1_0 i7_1 k8_1 out6_1)) = j2 M (l1 M k))
    rw [x0]; rfl
theorem e1 (M : Nat) (aa0_0 : (List api_Feature)) (ba1_0 : (List api_Feature)) (out6_1 : (List api_Feature)) (i7_1 : Int) (k8_1 : Int) : zA M (zlq Qt1 []) Qt1 (S1 aa0_0 ba1_0 out6_1 i7_1 k8_1) = l1 M M aa0_0 ba1_0 out6_1 i7_1 k8_1 :=
  Eq.trans (b := lA M (zlq Qt1 []) Qt1 M (S1 aa0_0 ba1_0 out6_1 i7_1 k8_1)) (by kernel_rfl) (el1 M M aa0_0 ba1_0 out6_1 i7_1 k8_1)
theorem run (M : Nat) (aa0_0 : (List api_Feature)) (ba1_0 : (List api_Feature)) : runF (rs := rs) (C42 M) (X M) M body Tryd.f42.ntmps 109 Tryd.f42.results.toList plans ps ex (aa0_0, ba1_0) = feature_Unify M aa0_0 ba1_0 := by
  refine Eq.trans (b := runC (C42 M) (X M) M body plans (start (argHs ps (aa0_0, ba1_0)) Tryd.f42.ntmps 109) (K M)) (by kernel_rfl) ?_
  refine (zrun (Hok M) 0 body plans _ (K M) (fun _ => none) fun _ => rfl).symm.trans ?_
  refine (g M _ aa0_0 ba1_0).trans ?_
  have x0 := (funext fun aa0_0 => funext fun ba1_0 => funext fun out6_1 => funext fun i7_1 => funext fun k8_1 => Eq.trans (b := zA M (zlq Qt1 []) Qt1 (S1 aa0_0 ba1_0 out6_1 i7_1 k8_1)) (by kernel_rfl) (e1 M aa0_0 ba1_0 out6_1 i7_1 k8_1) : (fun aa0_0 ba1_0 out6_1 i7_1 k8_1 => zA M (fun _ => none) Qt1 (S1 aa0_0 ba1_0 out6_1 i7_1 k8_1)) = l1 M M)
  rw [x0]; rfl
noncomputable def sig (M : Nat) : Sig E := { ps := ps, rs := rs, ex := ex, fn := fun x => feature_Unify M x.1 x.2 }
theorem says (M : Nat) : callable Tryd.prog 42 = true ∧ ∀ x y, (sig M).fn x = some y → Says Tryd.prog 42 (sig M) x y := by
  refine ⟨by kernel_rfl, fun x y h => ?_⟩
  refine says_of_run (S := sig M) (C := C42 M) (X := X M) (M := M) (q := 109) (plans := plans) (COk_Tryd) (SigOk_C42 M) (ItOk_C42 M) (by kernel_rfl) (callOk_ext COk_Tryd (SigOk_C42 M) (ItOk_C42 M) (by kernel_rfl) inl_ok.ok (RSigOk_C42 M) (fun _ => callOk_none) M 1) (Tryd.func42) (body := body) (by kernel_rfl) (by kernel_rfl) ?_
  obtain ⟨aa0_0, ba1_0⟩ := x
  exact (run M aa0_0 ba1_0).trans h
end feature_Unify
end Go.Ai.Pav
end
set_option linter.unusedVariables false
set_option linter.unusedSectionVars false
noncomputable section
namespace Go.Ai.Pav
open Go Go.Ai Go.Proofs
noncomputable def sigs66 (M : Nat) : List (Nat × Sig E) := []
noncomputable def rs66 (M : Nat) : List (Nat × Sig E) := []
noncomputable def its66 (M : Nat) : List (Nat × It E) := []
theorem sigs_ok66 (M : Nat) : SigsOk Tryd.prog (sigs66 M) := SigsOk.nil
theorem rs_ok66 (M : Nat) : SigsOk Tryd.prog (rs66 M) := SigsOk.nil
theorem its_ok66 (M : Nat) : ItsOk Tryd.prog (its66 M) := ItsOk.nil
noncomputable def C66 (M : Nat) : Ctx E := { ti := fun t => tisE.lookup t, sig := fun f => (sigs66 M).lookup f, it := fun f => (its66 M).lookup f, nt := 45 }
theorem SigOk_C66 (M : Nat) : SigOk Tryd.prog (C66 M) := sigs_ok66 M
theorem RSigOk_C66 (M : Nat) : SigOk Tryd.prog ({ ti := fun _ => none, sig := fun f => (rs66 M).lookup f } : Ctx E) := rs_ok66 M
theorem ItOk_C66 (M : Nat) : ItOk Tryd.prog (C66 M) := (its_ok66 M).ok
namespace feature_Subsumes
noncomputable def plans : List (Option (Plan Nm)) := [none, none, none, some { tmps := [(1, .asis), (5, .asis), (8, .asis), (9, .asis), (10, .asis)], boxes := [] }, none, none, none, some { tmps := [(1, .asis), (5, .asis), (7, .asis), (8, .asis), (9, .asis), (10, .asis)], boxes := [(7, [.asis, .asis])] }, none, none, some { tmps := [(1, .asis), (5, .asis), (7, .asis), (8, .asis), (9, .asis), (10, .asis)], boxes := [(7, [.asis, .asis])] }, none, none, none, none, none, none]
noncomputable abbrev body : Code := bodyOf Tryd.f66
def ps : List (Ty Nm) := [(.sl (.st .api_Feature)), (.sl (.st .api_Feature))]
def rs : List (Ty Nm) := [.bool]
def ex : List (Option Nat) := [none]
noncomputable def inl : List (Nat × Nat × Nat × Inl Nm) := []
theorem inl_ok : InlsOk Tryd.prog inl := InlsOk.nil
noncomputable def X (M : Nat) : Ext E Bool := extOf (C66 M) (inlOf inl) (fun f => (rs66 M).lookup f) (fun _ _ _ => none) noX M 1
abbrev Rt := Bool
noncomputable def H (M : Nat) : Hd E Rt := hd0 (X M)
theorem Hok (M : Nat) : (H M).ok (C66 M) M := hd0_ok _
abbrev Qt3 : List Dir := [.r, .r, .l, .r, .k, .L, .r, .r, .l, .k, .r]
abbrev Ht3 := (List api_Feature) → (List api_Feature) → Int → Int → Option Rt
abbrev Qt2 : List Dir := [.r, .r, .l, .r, .k, .L, .r, .r, .l, .k, .r, .l, .k]
abbrev Ht2 := (List api_Feature) → (List api_Feature) → Int → Int → Option Rt
abbrev Qt1 : List Dir := [.r, .r, .l, .r, .k]
abbrev Ht1 := (List api_Feature) → (List api_Feature) → Int → Int → Option Rt
abbrev Zt := List Dir → St E → Option Rt
abbrev Ut := St E → Option Rt
noncomputable def s3 (M : Nat) (h1 : Ht1) (aa0_0 : (List api_Feature)) (ba1_0 : (List api_Feature)) (x10_1 : Int) (k5_3 : Int) : Option Rt :=
  cond (decide (k5_3 = (ba1_0.length : Int)))
   (some false)
   (cond (decide (0 ≤ k5_3) && decide (k5_3 < (ba1_0.length : Int)))
     (cond (!(decide (((ba1_0.getD k5_3.toNat default).fName) = ((aa0_0.getD x10_1.toNat default).fName)) && (decide (((ba1_0.getD k5_3.toNat default).fValue) = ((aa0_0.getD x10_1.toNat default).fValue)) && true)))
       (some false)
       (h1 aa0_0 ba1_0 (IntKind.i64.wrap (k5_3 + 1)) (IntKind.i64.wrap (x10_1 + 1))))
     none)
noncomputable def j3 (M : Nat) (h1 : Ht1) (aa0_0 : (List api_Feature)) (ba1_0 : (List api_Feature)) (x10_1 : Int) (k5_3 : Int) : Option Rt :=
  s3 M h1 aa0_0 ba1_0 x10_1 k5_3
noncomputable def s2 (M : Nat) (h2 : Ht2) (h3 : Ht3) (aa0_0 : (List api_Feature)) (ba1_0 : (List api_Feature)) (x10_1 : Int) (k5_2 : Int) : Option Rt :=
  cond (decide (k5_2 < (ba1_0.length : Int)))
   (cond (decide (0 ≤ k5_2) && decide (k5_2 < (ba1_0.length : Int)))
     (cond (Op.bytesLess ((ba1_0.getD k5_2.toNat default).fName) ((aa0_0.getD x10_1.toNat default).fName))
       (h2 aa0_0 ba1_0 x10_1 (IntKind.i64.wrap (k5_2 + 1)))
       (h3 aa0_0 ba1_0 x10_1 k5_2))
     none)
   (h3 aa0_0 ba1_0 x10_1 k5_2)
noncomputable def l2 (M : Nat) (h1 : Ht1) : Nat → Ht2
  | 0, _, _, _, _ => none
  | k + 1, aa0_0, ba1_0, x10_1, k5_2 => s2 M (l2 M h1 k) (j3 M h1) aa0_0 ba1_0 x10_1 k5_2
noncomputable def s1 (M : Nat) (h2 : Ht2) (aa0_0 : (List api_Feature)) (ba1_0 : (List api_Feature)) (k5_1 : Int) (x10_1 : Int) : Option Rt :=
  cond (decide (x10_1 < (aa0_0.length : Int)))
   (cond (decide (0 ≤ x10_1) && decide (x10_1 < (aa0_0.length : Int)))
     (h2 aa0_0 ba1_0 x10_1 k5_1)
     none)
   (some true)
noncomputable def l1 (M : Nat) : Nat → Ht1
  | 0, _, _, _, _ => none
  | k + 1, aa0_0, ba1_0, k5_1, x10_1 => s1 M (l2 M (l1 M k) M) aa0_0 ba1_0 k5_1 x10_1
noncomputable def s (M : Nat) (h1 : Ht1) (aa0_0 : (List api_Feature)) (ba1_0 : (List api_Feature)) : Option Rt :=
  h1 aa0_0 ba1_0 0 0
end feature_Subsumes
noncomputable def feature_Subsumes (M : Nat) (aa0_0 : (List api_Feature)) (ba1_0 : (List api_Feature)) : Option Bool :=
  feature_Subsumes.s M (feature_Subsumes.l1 M M) aa0_0 ba1_0
namespace feature_Subsumes
noncomputable def S3 (aa0_0 : (List api_Feature)) (ba1_0 : (List api_Feature)) (x10_1 : Int) (k5_3 : Int) : St E :=
  mkSt 45 45 [(1, .one (.tv (.sl (.st .api_Feature) ba1_0))), (5, .one (.tv (.int .i64 k5_3))), (7, .one (.ptr 7 0)), (8, .one (.tv (.sl (.st .api_Feature) aa0_0))), (9, .one (.tv (.int .i64 (aa0_0.length : Int)))), (10, .one (.tv (.int .i64 x10_1)))] [(7, .cells [.tv (.str ((aa0_0.getD x10_1.toNat default).fName)), .tv (.str ((aa0_0.getD x10_1.toNat default).fValue))])] 0 [] [] false
noncomputable def S2 (aa0_0 : (List api_Feature)) (ba1_0 : (List api_Feature)) (x10_1 : Int) (k5_2 : Int) : St E :=
  mkSt 45 45 [(1, .one (.tv (.sl (.st .api_Feature) ba1_0))), (5, .one (.tv (.int .i64 k5_2))), (7, .one (.ptr 7 0)), (8, .one (.tv (.sl (.st .api_Feature) aa0_0))), (9, .one (.tv (.int .i64 (aa0_0.length : Int)))), (10, .one (.tv (.int .i64 x10_1)))] [(7, .cells [.tv (.str ((aa0_0.getD x10_1.toNat default).fName)), .tv (.str ((aa0_0.getD x10_1.toNat default).fValue))])] 0 [] [] false
noncomputable def S1 (aa0_0 : (List api_Feature)) (ba1_0 : (List api_Feature)) (k5_1 : Int) (x10_1 : Int) : St E :=
  mkSt 45 45 [(1, .one (.tv (.sl (.st .api_Feature) ba1_0))), (5, .one (.tv (.int .i64 k5_1))), (8, .one (.tv (.sl (.st .api_Feature) aa0_0))), (9, .one (.tv (.int .i64 (aa0_0.length : Int)))), (10, .one (.tv (.int .i64 x10_1)))] [] 0 [] [] false
noncomputable def K (M : Nat) : Cont E Bool := kRet (C66 M) Tryd.f66.results.toList rs ex
noncomputable abbrev zA (M : Nat) (ZL : List Dir → Option (Ut)) (q : List Dir) : Ut := zAt (C66 M) (H M) M 0 ZL body plans (K M) q
noncomputable abbrev lA (M : Nat) (ZL : List Dir → Option (Ut)) (q : List Dir) (k : Nat) : Ut := lpAt (C66 M) (H M) M 0 ZL body plans (K M) q k
noncomputable abbrev gA (M : Nat) (Z : Zt) (q : List Dir) : Ut := seg (C66 M) (H M) 0 Z body plans (K M) q
set_option maxRecDepth 100000
theorem g3 (M : Nat) (Z : Zt) (aa0_0 : (List api_Feature)) (ba1_0 : (List api_Feature)) (x10_1 : Int) (k5_3 : Int) : gA M Z Qt3 (S3 aa0_0 ba1_0 x10_1 k5_3) = s3 M
    (fun aa0_0 ba1_0 k5_1 x10_1 => Z Qt1 (S1 aa0_0 ba1_0 k5_1 x10_1)) aa0_0 ba1_0 x10_1 k5_3 := by kernel_rfl
theorem g2 (M : Nat) (Z : Zt) (aa0_0 : (List api_Feature)) (ba1_0 : (List api_Feature)) (x10_1 : Int) (k5_2 : Int) : gA M Z Qt2 (S2 aa0_0 ba1_0 x10_1 k5_2) = s2 M
    (fun aa0_0 ba1_0 x10_1 k5_2 => Z Qt2 (S2 aa0_0 ba1_0 x10_1 k5_2))
    (fun aa0_0 ba1_0 x10_1 k5_3 => Z Qt3 (S3 aa0_0 ba1_0 x10_1 k5_3)) aa0_0 ba1_0 x10_1 k5_2 := by kernel_rfl
theorem g1 (M : Nat) (Z : Zt) (aa0_0 : (List api_Feature)) (ba1_0 : (List api_Feature)) (k5_1 : Int) (x10_1 : Int) : gA M Z Qt1 (S1 aa0_0 ba1_0 k5_1 x10_1) = s1 M
    (fun aa0_0 ba1_0 x10_1 k5_2 => Z Qt2 (S2 aa0_0 ba1_0 x10_1 k5_2)) aa0_0 ba1_0 k5_1 x10_1 := by kernel_rfl
theorem g (M : Nat) (Z : Zt) (aa0_0 : (List api_Feature)) (ba1_0 : (List api_Feature)) : runZ (C66 M) (extZ (C66 M) (H M) 0) Z body plans (start (argHs ps (aa0_0, ba1_0)) Tryd.f66.ntmps 45) (K M) = s M
    (fun aa0_0 ba1_0 k5_1 x10_1 => Z Qt1 (S1 aa0_0 ba1_0 k5_1 x10_1)) aa0_0 ba1_0 := by kernel_rfl
theorem e3 (M : Nat) (Z1 : Ut) (h1 : Ht1) (hZ1 : ∀ (aa0_0 : (List api_Feature)) (ba1_0 : (List api_Feature)) (k5_1 : Int) (x10_1 : Int), Z1 (S1 aa0_0 ba1_0 k5_1 x10_1) = h1 aa0_0 ba1_0 k5_1 x10_1) (aa0_0 : (List api_Feature)) (ba1_0 : (List api_Feature)) (x10_1 : Int) (k5_3 : Int) : zA M (zlq Qt3 [Z1]) Qt3 (S3 aa0_0 ba1_0 x10_1 k5_3) = j3 M h1 aa0_0 ba1_0 x10_1 k5_3 := by
  refine (seg_join (Hok M) 0 Qt3 body plans (K M) _ (S3 aa0_0 ba1_0 x10_1 k5_3) (around_zlq _ _ (by kernel_rfl)) (by kernel_rfl)).trans ?_
  refine (g3 M _ aa0_0 ba1_0 x10_1 k5_3).trans ?_
  have x0 := (funext fun aa0_0 => funext fun ba1_0 => funext fun k5_1 => funext fun x10_1 => Eq.trans (b := Z1 (S1 aa0_0 ba1_0 k5_1 x10_1)) (by kernel_rfl) (hZ1 aa0_0 ba1_0 k5_1 x10_1) : (fun aa0_0 ba1_0 k5_1 x10_1 => zA M (zlq Qt3 [Z1]) Qt1 (S1 aa0_0 ba1_0 k5_1 x10_1)) = h1)
  rw [x0]; rfl
theorem el2 (M : Nat) (Z1 : Ut) (h1 : Ht1) (hZ1 : ∀ (aa0_0 : (List api_Feature)) (ba1_0 : (List api_Feature)) (k5_1 : Int) (x10_1 : Int), Z1 (S1 aa0_0 ba1_0 k5_1 x10_1) = h1 aa0_0 ba1_0 k5_1 x10_1) (k : Nat) (aa0_0 : (List api_Feature)) (ba1_0 : (List api_Feature)) (x10_1 : Int) (k5_2 : Int) : lA M (zlq Qt2 [Z1]) Qt2 k (S2 aa0_0 ba1_0 x10_1 k5_2) = l2 M h1 k aa0_0 ba1_0 x10_1 k5_2 := by
  induction k generalizing aa0_0 ba1_0 x10_1 k5_2 with
  | zero => kernel_rfl
  | succ k ih =>
    refine Eq.trans (b := lA M (zlq Qt2 [Z1, lA M (zlq Qt2 [Z1]) Qt2 k]) Qt2 (k + 1) (S2 aa0_0 ba1_0 x10_1 k5_2)) (by kernel_rfl) ?_
    refine (seg_loop (Hok M) 0 Qt2 body plans (K M) _ (S2 aa0_0 ba1_0 x10_1 k5_2) (around_zlq _ _ (by kernel_rfl)) (by kernel_rfl) (by kernel_rfl)).trans ?_
    refine (g2 M _ aa0_0 ba1_0 x10_1 k5_2).trans ?_
    have x0 := (funext fun aa0_0 => funext fun ba1_0 => funext fun x10_1 => funext fun k5_2 => Eq.trans (b := lA M (zlq Qt2 [Z1]) Qt2 k (S2 aa0_0 ba1_0 x10_1 k5_2)) (by kernel_rfl) (ih aa0_0 ba1_0 x10_1 k5_2) : (fun aa0_0 ba1_0 x10_1 k5_2 => zA M (zlq Qt2 [Z1, lA M (zlq Qt2 [Z1]) Qt2 k]) Qt2 (S2 aa0_0 ba1_0 x10_1 k5_2)) = l2 M h1 k)
    have x1 := (funext fun aa0_0 => funext fun ba1_0 => funext fun x10_1 => funext fun k5_3 => Eq.trans (b := zA M (zlq Qt3 [Z1]) Qt3 (S3 aa0_0 ba1_0 x10_1 k5_3)) (by kernel_rfl) (e3 M Z1 h1 hZ1 aa0_0 ba1_0 x10_1 k5_3) : (fun aa0_0 ba1_0 x10_1 k5_3 => zA M (zlq Qt2 [Z1, lA M (zlq Qt2 [Z1]) Qt2 k]) Qt3 (S3 aa0_0 ba1_0 x10_1 k5_3)) = j3 M h1)
    rw [x0, x1]; rfl
theorem e2 (M : Nat) (Z1 : Ut) (h1 : Ht1) (hZ1 : ∀ (aa0_0 : (List api_Feature)) (ba1_0 : (List api_Feature)) (k5_1 : Int) (x10_1 : Int), Z1 (S1 aa0_0 ba1_0 k5_1 x10_1) = h1 aa0_0 ba1_0 k5_1 x10_1) (aa0_0 : (List api_Feature)) (ba1_0 : (List api_Feature)) (x10_1 : Int) (k5_2 : Int) : zA M (zlq Qt2 [Z1]) Qt2 (S2 aa0_0 ba1_0 x10_1 k5_2) = l2 M h1 M aa0_0 ba1_0 x10_1 k5_2 :=
  Eq.trans (b := lA M (zlq Qt2 [Z1]) Qt2 M (S2 aa0_0 ba1_0 x10_1 k5_2)) (by kernel_rfl) (el2 M Z1 h1 hZ1 M aa0_0 ba1_0 x10_1 k5_2)
theorem el1 (M : Nat) (k : Nat) (aa0_0 : (List api_Feature)) (ba1_0 : (List api_Feature)) (k5_1 : Int) (x10_1 : Int) : lA M (zlq Qt1 []) Qt1 k (S1 aa0_0 ba1_0 k5_1 x10_1) = l1 M k aa0_0 ba1_0 k5_1 x10_1 := by
  induction k generalizing aa0_0 ba1_0 k5_1 x10_1 with
  | zero => kernel_rfl
  | succ k ih =>
    refine Eq.trans (b := lA M (zlq Qt1 [lA M (zlq Qt1 []) Qt1 k]) Qt1 (k + 1) (S1 aa0_0 ba1_0 k5_1 x10_1)) (by kernel_rfl) ?_
    refine (seg_loop (Hok M) 0 Qt1 body plans (K M) _ (S1 aa0_0 ba1_0 k5_1 x10_1) (around_zlq _ _ (by kernel_rfl)) (by kernel_rfl) (by kernel_rfl)).trans ?_
    refine (g1 M _ aa0_0 ba1_0 k5_1 x10_1).trans ?_
    have x0 := (funext fun aa0_0 => funext fun ba1_0 => funext fun x10_1 => funext fun k5_2 => Eq.trans (b := zA M (zlq Qt2 [(lA M (zlq Qt1 []) Qt1 k)]) Qt2 (S2 aa0_0 ba1_0 x10_1 k5_2)) (by kernel_rfl) (e2 M (lA M (zlq Qt1 []) Qt1 k) (l1 M k) (fun aa0_0 ba1_0 k5_1 x10_1 => ih aa0_0 ba1_0 k5_1 x10_1) aa0_0 ba1_0 x10_1 k5_2) : (fun aa0_0 ba1_0 x10_1 k5_2 => zA M (zlq Qt1 [lA M (zlq Qt1 []) Qt1 k]) Qt2 (S2 aa0_0 ba1_0 x10_1 k5_2)) = l2 M (l1 M k) M)
    rw [x0]; rfl
theorem e1 (M : Nat) (aa0_0 : (List api_Feature)) (ba1_0 : (List api_Feature)) (k5_1 : Int) (x10_1 : Int) : zA M (zlq Qt1 []) Qt1 (S1 aa0_0 ba1_0 k5_1 x10_1) = l1 M M aa0_0 ba1_0 k5_1 x10_1 :=
  Eq.trans (b := lA M (zlq Qt1 []) Qt1 M (S1 aa0_0 ba1_0 k5_1 x10_1)) (by kernel_rfl) (el1 M M aa0_0 ba1_0 k5_1 x10_1)
theorem run (M : Nat) (aa0_0 : (List api_Feature)) (ba1_0 : (List api_Feature)) : runF (rs := rs) (C66 M) (X M) M body Tryd.f66.ntmps 45 Tryd.f66.results.toList plans ps ex (aa0_0, ba1_0) = feature_Subsumes M aa0_0 ba1_0 := by
  refine Eq.trans (b := runC (C66 M) (X M) M body plans (start (argHs ps (aa0_0, ba1_0)) Tryd.f66.ntmps 45) (K M)) (by kernel_rfl) ?_
  refine (zrun (Hok M) 0 body plans _ (K M) (fun _ => none) fun _ => rfl).symm.trans ?_
  refine (g M _ aa0_0 ba1_0).trans ?_
  have x0 := (funext fun aa0_0 => funext fun ba1_0 => funext fun k5_1 => funext fun x10_1 => Eq.trans (b := zA M (zlq Qt1 []) Qt1 (S1 aa0_0 ba1_0 k5_1 x10_1)) (by kernel_rfl) (e1 M aa0_0 ba1_0 k5_1 x10_1) : (fun aa0_0 ba1_0 k5_1 x10_1 => zA M (fun _ => none) Qt1 (S1 aa0_0 ba1_0 k5_1 x10_1)) = l1 M M)
  rw [x0]; rfl
noncomputable def sig (M : Nat) : Sig E := { ps := ps, rs := rs, ex := ex, fn := fun x => feature_Subsumes M x.1 x.2 }
theorem says (M : Nat) : callable Tryd.prog 66 = true ∧ ∀ x y, (sig M).fn x = some y → Says Tryd.prog 66 (sig M) x y := by
  refine ⟨by kernel_rfl, fun x y h => ?_⟩
  refine says_of_run (S := sig M) (C := C66 M) (X := X M) (M := M) (q := 45) (plans := plans) (COk_Tryd) (SigOk_C66 M) (ItOk_C66 M) (by kernel_rfl) (callOk_ext COk_Tryd (SigOk_C66 M) (ItOk_C66 M) (by kernel_rfl) inl_ok.ok (RSigOk_C66 M) (fun _ => callOk_none) M 1) (Tryd.func66) (body := body) (by kernel_rfl) (by kernel_rfl) ?_
  obtain ⟨aa0_0, ba1_0⟩ := x
  exact (run M aa0_0 ba1_0).trans h
end feature_Subsumes
end Go.Ai.Pav
end
namespace Go.Ai.Pav
open Go Go.Ai
variable {M : Nat}

def okF (f : api_Feature) : Prop := f.fName.length ≤ 1048576 ∧ f.fValue.length ≤ 1048576
def okR (r : List api_Feature) : Prop := r.length ≤ 1048576 ∧ ∀ f ∈ r, okF f
def goodF (f : api_Feature) : Bool := isName f.fName && isName f.fValue
def isValid (r : List api_Feature) : Bool := r.all goodF && isRec r && decide (r.length ≤ 8)
def prevAt (r : List api_Feature) (i : Nat) : Option api_Feature := match i with
  | 0 => none
  | i + 1 => some (r.getD i default)

theorem getD_mem {α : Type} [Inhabited α] {xs : List α} {i : Nat} (h : i < xs.length) : xs.getD i default ∈ xs := by
  simp [h]

theorem feature_Valid_eq (hM : 1048576 < M) {r : List api_Feature} (hr : okR r) : feature_Valid M r = some (isValid r) := by
  obtain ⟨hl, hf⟩ := hr
  have key := overI (xs := r) (f := fun k i (_ : Unit) => feature_Valid.l1 M k r i) (g := fun i t _ => some (t.all goodF && asc (prevAt r i) t && decide (r.length ≤ 8))) (fun k _ => by
    simp only [feature_Valid.l1, feature_Valid.s1, feature_Valid.j3, feature_Valid.s3, ↓cneg (Int.lt_irrefl _), List.all_nil, asc, Bool.true_and]
    congr 1
    rw [Bool.eq_iff_iff]; simp; omega) (fun k i x t _ hi hx _ ht ih => by
    have ih := ih ()
    obtain ⟨n1, n2⟩ := hf _ (getD_mem hi)
    rw [hx] at n1 n2
    simp (disch := omega) only [feature_Valid.l1, feature_Valid.s1, feature_Valid.j2, feature_Valid.s2, ↓cpos, ↓cpos2, Int.toNat_natCast, hx, wsucc, ih, feature_name_eq hM, Option.bind_some, List.all_cons, goodF, cnot, cond_true, cond_false]
    cases i with
    | zero =>
      have : (0 : Int) < ((0 : Nat) : Int) ↔ False := by simp
      simp only [prevAt, asc, this, decide_false, cond_false, hx]
      cases isName x.fName <;> cases isName x.fValue <;> simp
    | succ i =>
      have w : IntKind.i64.wrap (((i + 1 : Nat) : Int) - 1) = (i : Int) := by rw [wrap64] <;> omega
      simp (disch := omega) only [w, ↓cpos, ↓cpos2, prevAt, asc, Int.toNat_natCast, hx]
      cases isName x.fName <;> cases isName x.fValue <;> cases Op.bytesLess (r.getD i default).fName x.fName <;> simp) (k := M) (by omega) ()
  exact key

theorem ref02_Valid_eq (hM : 1048576 < M) {r : List api_Feature} (hr : okR r) : pentaglotref02_Valid M r = some (isValid r) := by
  obtain ⟨hl, hf⟩ := hr
  have key := over (xs := r) (f := fun k i (_ : Unit) => pentaglotref02_Valid.l1 M k r i) (g := fun t _ => some (t.all goodF && (isRec r && decide (r.length ≤ 8)))) (fun k _ => by
    simp only [pentaglotref02_Valid.l1, pentaglotref02_Valid.s1, pentaglotref02_Valid.j2, pentaglotref02_Valid.s2, ↓cneg (Int.lt_irrefl _), List.all_nil, Bool.true_and, ref02_Record_eq hM hl, Option.bind_some]
    by_cases h : r.length ≤ 8
    · rw [cpos (by omega)]; simp [h]
    · rw [cneg (by omega)]; simp [h]) (fun k i x t _ hi hx ih => by
    have ih := ih ()
    obtain ⟨n1, n2⟩ := hf _ (getD_mem hi)
    rw [hx] at n1 n2
    simp (disch := omega) only [pentaglotref02_Valid.l1, pentaglotref02_Valid.s1, ↓cpos, ↓cpos2, Int.toNat_natCast, hx, wsucc, ih, ref02_Name_eq hM, Option.bind_some, List.all_cons, goodF, cnot]
    cases isName x.fName <;> cases isName x.fValue <;> simp) (k := M) (by omega) ()
  unfold isValid
  rw [Bool.and_assoc]
  exact key

def ltB (x y : api_Feature) : Bool := Op.bytesLess x.fName y.fName

/-- A feature is put into a record. -/
def put : List api_Feature → api_Feature → List api_Feature
  | [], f => [f]
  | e :: r, f => cond (ltB e f) (e :: put r f) (f :: e :: r)

theorem put_length (f : api_Feature) : ∀ r : List api_Feature, (put r f).length = r.length + 1
  | [] => rfl
  | e :: r => by simp only [put]; cases ltB e f <;> simp [put_length f r]

theorem put_mem {f x : api_Feature} : ∀ {r : List api_Feature}, x ∈ put r f ↔ x = f ∨ x ∈ r
  | [] => by simp [put]
  | e :: r => by
    simp only [put]
    cases ltB e f with
    | true =>
      simp only [cond_true, List.mem_cons, put_mem (r := r)]
      constructor <;> intro h <;> rcases h with h | h | h <;> simp [h]
    | false => simp

/-! ### Two records in one -/
def unify : Nat → List api_Feature → List api_Feature → Option (List api_Feature)
  | 0, _, _ => none
  | n + 1, [], b => some b
  | n + 1, x :: a, [] => some (x :: a)
  | n + 1, x :: a, y :: b => cond (ltB x y) ((unify n a (y :: b)).map (x :: ·)) (cond (ltB y x) ((unify n (x :: a) b).map (y :: ·)) (cond (decide (x.fValue = y.fValue)) ((unify n a b).map (x :: ·)) none))

def pairOf (o : Option (List api_Feature)) : List api_Feature × Bool := (o.getD [], o.isSome)

def Asc (r : List api_Feature) : Prop := r.Pairwise fun x y => ltB x y = true

theorem asc_some : ∀ {r : List api_Feature} {e : api_Feature}, asc (some e) r = true → (∀ f ∈ r, ltB e f = true) ∧ Asc r
  | [], e, _ => ⟨fun f h => (by cases h), List.Pairwise.nil⟩
  | g :: r, e, h => by
    simp only [asc, Bool.and_eq_true] at h
    obtain ⟨h1, h2⟩ := asc_some (r := r) h.2
    refine ⟨fun f hf => ?_, List.pairwise_cons.2 ⟨h1, h2⟩⟩
    rcases List.mem_cons.1 hf with rfl | hf
    · exact h.1
    · exact bl_trans h.1 (h1 f hf)

theorem asc_of : ∀ {r : List api_Feature} {e : api_Feature}, (∀ f ∈ r, ltB e f = true) → Asc r → asc (some e) r = true
  | [], e, _, _ => rfl
  | g :: r, e, h, ha => by
    obtain ⟨h1, h2⟩ := List.pairwise_cons.1 ha
    simp only [asc, Bool.and_eq_true]
    exact ⟨h g (by simp), asc_of h1 h2⟩

theorem isRec_iff {r : List api_Feature} : isRec r = true ↔ Asc r := by
  unfold isRec
  cases r with
  | nil => exact ⟨fun _ => List.Pairwise.nil, fun _ => rfl⟩
  | cons f r =>
    simp only [asc]
    exact ⟨fun h => List.pairwise_cons.2 (asc_some h), fun h => asc_of (List.pairwise_cons.1 h).1 (List.pairwise_cons.1 h).2⟩

theorem put_head {x f : api_Feature} (r : List api_Feature) (h : ltB x f = true) : put (x :: r) f = x :: put r f := by
  simp only [put, h, cond_true]

theorem put_front {x f : api_Feature} (r : List api_Feature) (h : ltB f x = true) : put (x :: r) f = f :: x :: r := by
  have : ltB x f = false := bl_asymm h
  simp only [put, this, cond_false]

/-- What the reference does with the second record. -/
def foldU (g : List UInt8 → Bool) (b out : List api_Feature) : List api_Feature := b.foldl (fun o f => cond (g f.fName) o (put o f)) out

theorem foldU_cons {g : List UInt8 → Bool} {x : api_Feature} : ∀ {b out : List api_Feature}, (∀ f ∈ b, ltB x f = true) → foldU g b (x :: out) = x :: foldU g b out
  | [], out, _ => rfl
  | f :: b, out, h => by
    have hf := h f (by simp)
    simp only [foldU, List.foldl_cons]
    cases g f.fName with
    | true => exact foldU_cons fun f hf => h f (List.mem_cons_of_mem _ hf)
    | false =>
      simp only [cond_false]
      rw [put_head _ hf]; exact foldU_cons fun f hf => h f (List.mem_cons_of_mem _ hf)

theorem foldU_congr {g g' : List UInt8 → Bool} : ∀ {b out : List api_Feature}, (∀ f ∈ b, g f.fName = g' f.fName) → foldU g b out = foldU g' b out
  | [], out, _ => rfl
  | f :: b, out, h => by
    simp only [foldU, List.foldl_cons]
    rw [h f (by simp)]
    exact foldU_congr fun f hf => h f (List.mem_cons_of_mem _ hf)

theorem foldU_end {g : List UInt8 → Bool} : ∀ {b : List api_Feature}, Asc b → (∀ f ∈ b, g f.fName = false) → foldU g b [] = b
  | [], _, _ => rfl
  | f :: b, ha, h => by
    obtain ⟨h1, h2⟩ := List.pairwise_cons.1 ha
    simp only [foldU, List.foldl_cons]
    rw [h f (by simp), cond_false]
    simp only [put]
    exact (foldU_cons h1).trans (by rw [foldU_end h2 fun f hf => h f (List.mem_cons_of_mem _ hf)])

def agreeF (a : List api_Feature) (f : api_Feature) : Bool := match getF a f.fName with
  | some v => decide (v = f.fValue)
  | none => true

def refU (a b : List api_Feature) : Option (List api_Feature) := cond (b.all (agreeF a)) (some (foldU (fun n => (getF a n).isSome) b a)) none

theorem getF_skip {x : api_Feature} {a : List api_Feature} {n : List UInt8} (h : Op.bytesLess x.fName n = true) : getF (x :: a) n = getF a n := by
  simp only [getF]; rw [if_neg (bl_ne h)]

theorem getF_none {a : List api_Feature} {n : List UInt8} (h : ∀ f ∈ a, Op.bytesLess n f.fName = true) : getF a n = none := by
  induction a with
  | nil => rfl
  | cons x a ih =>
    simp only [getF]
    rw [if_neg (bl_ne (h x (by simp))).symm, ih fun f hf => h f (List.mem_cons_of_mem _ hf)]

theorem all_congr {p q : api_Feature → Bool} {b : List api_Feature} (h : ∀ f ∈ b, p f = q f) : b.all p = b.all q := by
  induction b with
  | nil => rfl
  | cons f b ih => simp only [List.all_cons, h f (by simp), ih fun f hf => h f (List.mem_cons_of_mem _ hf)]

theorem unify_ref : ∀ (n : Nat) (a b : List api_Feature), Asc a → Asc b → a.length + b.length < n → unify n a b = refU a b
  | 0, _, _, _, _, h => by omega
  | n + 1, [], b, _, hb, _ => by
    have e : b.all (agreeF []) = true := by simp [agreeF, getF]
    simp only [unify, refU, e, cond_true]
    rw [foldU_end hb (fun f _ => by simp [getF])]
  | n + 1, x :: a, [], _, _, _ => by simp [unify, refU, foldU]
  | n + 1, x :: a, y :: b, ha, hb, hn => by
    obtain ⟨ha1, ha2⟩ := List.pairwise_cons.1 ha
    obtain ⟨hb1, hb2⟩ := List.pairwise_cons.1 hb
    simp only [List.length_cons] at hn
    simp only [unify]
    cases h : ltB x y with
    | true =>
      have hall : ∀ f ∈ y :: b, ltB x f = true := fun f hf => by
        rcases List.mem_cons.1 hf with rfl | hf
        · exact h
        · exact bl_trans h (hb1 f hf)
      rw [cond_true, unify_ref n a (y :: b) ha2 hb (by simp only [List.length_cons]; omega)]
      unfold refU
      rw [all_congr (p := agreeF (x :: a)) (q := agreeF a) fun f hf => by unfold agreeF; rw [getF_skip (hall f hf)]]
      rw [foldU_cons hall, foldU_congr (g := fun n => (getF (x :: a) n).isSome) (g' := fun n => (getF a n).isSome) fun f hf => by rw [getF_skip (hall f hf)]]
      cases (y :: b).all (agreeF a) <;> rfl
    | false =>
      rw [cond_false]
      cases h' : ltB y x with
      | true =>
        have hall : ∀ f ∈ x :: a, Op.bytesLess y.fName f.fName = true := fun f hf => by
          rcases List.mem_cons.1 hf with rfl | hf
          · exact h'
          · exact bl_trans h' (ha1 f hf)
        rw [cond_true, unify_ref n (x :: a) b ha hb2 (by simp only [List.length_cons]; omega)]
        have e : getF (x :: a) y.fName = none := getF_none hall
        have e1 : agreeF (x :: a) y = true := by unfold agreeF; rw [e]
        have e2 : foldU (fun n => (getF (x :: a) n).isSome) (y :: b) (x :: a) = foldU (fun n => (getF (x :: a) n).isSome) b (y :: x :: a) := by
          simp only [foldU, List.foldl_cons, e, Option.isSome_none, cond_false]
          rw [put_front _ h']
        unfold refU
        rw [e2, foldU_cons hb1, List.all_cons, e1, Bool.true_and]
        cases b.all (agreeF (x :: a)) <;> rfl
      | false =>
        rw [cond_false]
        have hxy : x.fName = y.fName := bl_tri h h'
        have hall : ∀ f ∈ b, ltB x f = true := fun f hf => by unfold ltB; rw [hxy]; exact hb1 f hf
        have e : getF (x :: a) y.fName = some x.fValue := by simp [getF, hxy]
        have e1 : agreeF (x :: a) y = decide (x.fValue = y.fValue) := by unfold agreeF; rw [e]
        have e2 : foldU (fun n => (getF (x :: a) n).isSome) (y :: b) (x :: a) = foldU (fun n => (getF (x :: a) n).isSome) b (x :: a) := by
          simp only [foldU, List.foldl_cons, e, Option.isSome_some, cond_true]
        rw [unify_ref n a b ha2 hb2 (by omega)]
        unfold refU
        rw [e2, foldU_cons hall, List.all_cons, e1, all_congr (p := agreeF (x :: a)) (q := agreeF a) (b := b) fun f hf => by unfold agreeF; rw [getF_skip (hall f hf)]]
        rw [foldU_congr (g := fun n => (getF (x :: a) n).isSome) (g' := fun n => (getF a n).isSome) fun f hf => by rw [getF_skip (hall f hf)]]
        cases decide (x.fValue = y.fValue) <;> cases b.all (agreeF a) <;> rfl

theorem getF_fst (r : List api_Feature) (n : List UInt8) : (getF r n = none ∧ fstIdx (fun x : api_Feature => decide (x.fName = n)) r 0 = -1) ∨ ∃ j : Nat, j < r.length ∧ fstIdx (fun x : api_Feature => decide (x.fName = n)) r 0 = (j : Int) ∧ getF r n = some (r.getD j default).fValue := by
  have key : ∀ (r : List api_Feature) (i : Nat), (getF r n = none ∧ fstIdx (fun x : api_Feature => decide (x.fName = n)) r i = -1) ∨ ∃ j : Nat, j < r.length ∧ fstIdx (fun x : api_Feature => decide (x.fName = n)) r i = ((i + j : Nat) : Int) ∧ getF r n = some (r.getD j default).fValue := by
    intro r
    induction r with
    | nil => intro i; exact .inl ⟨rfl, rfl⟩
    | cons x r ih =>
      intro i
      simp only [fstIdx, getF]
      by_cases h : x.fName = n
      · rw [if_pos h]; exact .inr ⟨0, by simp, by simp [h], by simp⟩
      · rw [if_neg h]
        simp only [h, decide_false, cond_false]
        rcases ih (i + 1) with ⟨h1, h2⟩ | ⟨j, h1, h2, h3⟩
        · exact .inl ⟨h1, h2⟩
        · exact .inr ⟨j + 1, by simp only [List.length_cons]; omega, by rw [h2]; omega, by rw [h3]; simp⟩
  simpa using key r 0

theorem merge_loop (hM : 1048576 < M) {a b : List api_Feature} (hl : a.length + b.length ≤ 1048576) : ∀ (n fuel i k : Nat) (out : List api_Feature), i ≤ a.length → k ≤ b.length → (a.length - i) + (b.length - k) < n → n ≤ fuel → out.length ≤ i + k →
    feature_Unify.l1 M fuel a b out i k = some (pairOf ((unify n (a.drop i) (b.drop k)).map (out ++ ·)))
  | 0, fuel, i, k, out, hi, hk, hn, hf, ho => by omega
  | n + 1, 0, i, k, out, hi, hk, hn, hf, ho => by omega
  | n + 1, fuel + 1, i, k, out, hi, hk, hn, hf, ho => by
    simp only [feature_Unify.l1, feature_Unify.s1, feature_Unify.j2, feature_Unify.s2]
    rcases Nat.lt_or_ge i a.length with h1 | h1
    · obtain ⟨x, t, hx1, hx2, hx3⟩ := dropCons h1
      have r1 := merge_loop hM hl n fuel (i + 1) k (out ++ [x]) (by omega) hk (by omega) (by omega) (by simp; omega)
      rcases Nat.lt_or_ge k b.length with h2 | h2
      · obtain ⟨y, u, hy1, hy2, hy3⟩ := dropCons h2
        have r2 := merge_loop hM hl n fuel i (k + 1) (out ++ [y]) hi (by omega) (by omega) (by omega) (by simp; omega)
        have r3 := merge_loop hM hl n fuel (i + 1) (k + 1) (out ++ [x]) (by omega) (by omega) (by omega) (by omega) (by simp; omega)
        simp (disch := first | omega | (simp only [len, len0]; omega)) only [↓cpos, ↓cpos2, ↓cneg, Int.toNat_natCast, hx2, hy2, wsucc, feature_Unify.j3, feature_Unify.s3, r1, r2, r3, hx1, hy1, hx3, hy3, cnot]
        simp only [unify, ltB]
        cases Op.bytesLess x.fName y.fName with
        | true => simp only [cond_true]; cases unify n t (y :: u) <;> simp [pairOf]
        | false =>
          cases Op.bytesLess y.fName x.fName with
          | true => simp only [cond_true, cond_false]; cases unify n (x :: t) u <;> simp [pairOf]
          | false =>
            cases decide (x.fValue = y.fValue) with
            | true => simp only [cond_true, cond_false]; cases unify n t u <;> simp [pairOf]
            | false => rfl
      · have e : k = b.length := by omega
        subst e
        simp (disch := first | omega | (simp only [len, len0]; omega)) only [↓cpos, ↓cpos2, ↓cneg, Int.toNat_natCast, hx2, wsucc, feature_Unify.j3, feature_Unify.s3, r1, hx1, hx3, cnot, cond_true, List.drop_length]
        cases n with
        | zero => omega
        | succ n => cases t <;> simp [unify, pairOf]
    · have e : i = a.length := by omega
      subst e
      rcases Nat.lt_or_ge k b.length with h2 | h2
      · obtain ⟨y, u, hy1, hy2, hy3⟩ := dropCons h2
        have r2 := merge_loop hM hl n fuel a.length (k + 1) (out ++ [y]) hi (by omega) (by omega) (by omega) (by simp; omega)
        simp (disch := first | omega | (simp only [len, len0]; omega)) only [↓cpos, ↓cpos2, ↓cneg, Int.toNat_natCast, hy2, wsucc, feature_Unify.j3, feature_Unify.s3, r2, hy1, hy3, cnot, cond_false, List.drop_length]
        cases n with
        | zero => omega
        | succ n => simp [unify, pairOf]
      · have e : k = b.length := by omega
        subst e
        simp (disch := omega) only [↓cneg, List.drop_length]
        simp [unify, pairOf]

theorem feature_Unify_eq (hM : 1048576 < M) {a b : List api_Feature} (hl : a.length + b.length < 1048576) : feature_Unify M a b = some (pairOf (unify M a b)) := by
  unfold feature_Unify feature_Unify.s
  simp (disch := first | omega | (simp only [len0]; omega)) only [wrap64, ↓cpos2]
  have := merge_loop hM (by omega : a.length + b.length ≤ 1048576) M M 0 0 [] (by omega) (by omega) (by omega) (by omega) (by simp)
  simp only [List.drop_zero, List.nil_append] at this
  refine this.trans ?_
  cases unify M a b <;> rfl

/-! ### Is one record within another? -/
def hasF (b : List api_Feature) (f : api_Feature) : Bool := match getF b f.fName with
  | some v => decide (v = f.fValue)
  | none => false
def subs (a b : List api_Feature) : Bool := a.all (hasF b)

end Go.Ai.Pav
set_option linter.unusedVariables false
set_option linter.unusedSectionVars false
noncomputable section
namespace Go.Ai.Pav
open Go Go.Ai Go.Proofs
noncomputable def sigs53 (M : Nat) : List (Nat × Sig E) := []
noncomputable def rs53 (M : Nat) : List (Nat × Sig E) := []
noncomputable def its53 (M : Nat) : List (Nat × It E) := []
theorem sigs_ok53 (M : Nat) : SigsOk Tryd.prog (sigs53 M) := SigsOk.nil
theorem rs_ok53 (M : Nat) : SigsOk Tryd.prog (rs53 M) := SigsOk.nil
theorem its_ok53 (M : Nat) : ItsOk Tryd.prog (its53 M) := ItsOk.nil
noncomputable def C53 (M : Nat) : Ctx E := { ti := fun t => tisE.lookup t, sig := fun f => (sigs53 M).lookup f, it := fun f => (its53 M).lookup f, nt := 8 }
theorem SigOk_C53 (M : Nat) : SigOk Tryd.prog (C53 M) := sigs_ok53 M
theorem RSigOk_C53 (M : Nat) : SigOk Tryd.prog ({ ti := fun _ => none, sig := fun f => (rs53 M).lookup f } : Ctx E) := rs_ok53 M
theorem ItOk_C53 (M : Nat) : ItOk Tryd.prog (C53 M) := (its_ok53 M).ok
namespace slices_Clone_api_Feature_api_Feature
noncomputable def plans : List (Option (Plan Nm)) := [none, none, none, some { tmps := [(0, .asis)], boxes := [] }, none]
noncomputable abbrev body : Code := bodyOf Tryd.f53
def ps : List (Ty Nm) := [(.sl (.st .api_Feature))]
def rs : List (Ty Nm) := [(.sl (.st .api_Feature))]
def ex : List (Option Nat) := [some 45]
noncomputable def inl : List (Nat × Nat × Nat × Inl Nm) := []
theorem inl_ok : InlsOk Tryd.prog inl := InlsOk.nil
noncomputable def X (M : Nat) : Ext E (List api_Feature) := extOf (C53 M) (inlOf inl) (fun f => (rs53 M).lookup f) (fun _ _ _ => none) noX M 1
abbrev Rt := (List api_Feature)
noncomputable def H (M : Nat) : Hd E Rt := hd0 (X M)
theorem Hok (M : Nat) : (H M).ok (C53 M) M := hd0_ok _
abbrev Qt1 : List Dir := [.r]
abbrev Ht1 := (List api_Feature) → Option Rt
abbrev Zt := List Dir → St E → Option Rt
abbrev Ut := St E → Option Rt
noncomputable def s1 (M : Nat) (sa0_0 : (List api_Feature)) : Option Rt :=
  cond (decide (([] : List api_Feature).length + sa0_0.length ≤ lim))
   (some ([] ++ sa0_0))
   none
noncomputable def j1 (M : Nat) (sa0_0 : (List api_Feature)) : Option Rt :=
  s1 M sa0_0
noncomputable def s (M : Nat) (h1 : Ht1) (sa0_0 : (List api_Feature)) : Option Rt :=
  cond (sa0_0.isEmpty)
   (agree
     (some [])
     (h1 sa0_0))
   (h1 sa0_0)
end slices_Clone_api_Feature_api_Feature
noncomputable def slices_Clone_api_Feature_api_Feature (M : Nat) (sa0_0 : (List api_Feature)) : Option (List api_Feature) :=
  slices_Clone_api_Feature_api_Feature.s M (slices_Clone_api_Feature_api_Feature.j1 M) sa0_0
namespace slices_Clone_api_Feature_api_Feature
noncomputable def S1 (sa0_0 : (List api_Feature)) : St E :=
  mkSt 8 8 [(0, .one (.tv (.sl (.st .api_Feature) sa0_0)))] [] 0 [] [] false
noncomputable def K (M : Nat) : Cont E (List api_Feature) := kRet (C53 M) Tryd.f53.results.toList rs ex
noncomputable abbrev zA (M : Nat) (ZL : List Dir → Option (Ut)) (q : List Dir) : Ut := zAt (C53 M) (H M) M 0 ZL body plans (K M) q
noncomputable abbrev lA (M : Nat) (ZL : List Dir → Option (Ut)) (q : List Dir) (k : Nat) : Ut := lpAt (C53 M) (H M) M 0 ZL body plans (K M) q k
noncomputable abbrev gA (M : Nat) (Z : Zt) (q : List Dir) : Ut := seg (C53 M) (H M) 0 Z body plans (K M) q
set_option maxRecDepth 100000
theorem g1 (M : Nat) (Z : Zt) (sa0_0 : (List api_Feature)) : gA M Z Qt1 (S1 sa0_0) = s1 M sa0_0 := by kernel_rfl
theorem g (M : Nat) (Z : Zt) (sa0_0 : (List api_Feature)) : runZ (C53 M) (extZ (C53 M) (H M) 0) Z body plans (start (argHs ps sa0_0) Tryd.f53.ntmps 8) (K M) = s M
    (fun sa0_0 => Z Qt1 (S1 sa0_0)) sa0_0 := by kernel_rfl
theorem e1 (M : Nat) (sa0_0 : (List api_Feature)) : zA M (zlq Qt1 []) Qt1 (S1 sa0_0) = j1 M sa0_0 := by
  refine (seg_join (Hok M) 0 Qt1 body plans (K M) _ (S1 sa0_0) (around_zlq _ _ (by kernel_rfl)) (by kernel_rfl)).trans ?_
  refine (g1 M _ sa0_0).trans ?_
  rfl
theorem run (M : Nat) (sa0_0 : (List api_Feature)) : runF (rs := rs) (C53 M) (X M) M body Tryd.f53.ntmps 8 Tryd.f53.results.toList plans ps ex sa0_0 = slices_Clone_api_Feature_api_Feature M sa0_0 := by
  refine Eq.trans (b := runC (C53 M) (X M) M body plans (start (argHs ps sa0_0) Tryd.f53.ntmps 8) (K M)) (by kernel_rfl) ?_
  refine (zrun (Hok M) 0 body plans _ (K M) (fun _ => none) fun _ => rfl).symm.trans ?_
  refine (g M _ sa0_0).trans ?_
  have x0 := (funext fun sa0_0 => Eq.trans (b := zA M (zlq Qt1 []) Qt1 (S1 sa0_0)) (by kernel_rfl) (e1 M sa0_0) : (fun sa0_0 => zA M (fun _ => none) Qt1 (S1 sa0_0)) = j1 M)
  rw [x0]; rfl
noncomputable def sig (M : Nat) : Sig E := { ps := ps, rs := rs, ex := ex, fn := fun x => slices_Clone_api_Feature_api_Feature M x }
theorem says (M : Nat) : callable Tryd.prog 53 = true ∧ ∀ x y, (sig M).fn x = some y → Says Tryd.prog 53 (sig M) x y := by
  refine ⟨by kernel_rfl, fun x y h => ?_⟩
  refine says_of_run (S := sig M) (C := C53 M) (X := X M) (M := M) (q := 8) (plans := plans) (COk_Tryd) (SigOk_C53 M) (ItOk_C53 M) (by kernel_rfl) (callOk_ext COk_Tryd (SigOk_C53 M) (ItOk_C53 M) (by kernel_rfl) inl_ok.ok (RSigOk_C53 M) (fun _ => callOk_none) M 1) (Tryd.func53) (body := body) (by kernel_rfl) (by kernel_rfl) ?_
  exact (run M x).trans h
end slices_Clone_api_Feature_api_Feature
end Go.Ai.Pav
end
set_option linter.unusedVariables false
set_option linter.unusedSectionVars false
noncomputable section
namespace Go.Ai.Pav
open Go Go.Ai Go.Proofs
noncomputable def sigs65 (M : Nat) : List (Nat × Sig E) := [(66, feature_Subsumes.sig M)]
noncomputable def rs65 (M : Nat) : List (Nat × Sig E) := []
noncomputable def its65 (M : Nat) : List (Nat × It E) := []
theorem sigs_ok65 (M : Nat) : SigsOk Tryd.prog (sigs65 M) := SigsOk.cons (feature_Subsumes.says M) (SigsOk.nil)
theorem rs_ok65 (M : Nat) : SigsOk Tryd.prog (rs65 M) := SigsOk.nil
theorem its_ok65 (M : Nat) : ItsOk Tryd.prog (its65 M) := ItsOk.nil
noncomputable def C65 (fv : Nat → Value) (M : Nat) : Ctx (E.withFv fv) := { ti := fun t => (tis (fv := fv)).lookup t, sig := fun f => ((sigs65 M).lookup f).map fun S => S.withFv fv, it := fun f => ((its65 M).lookup f).map fun I => I.withFv fv, nt := 27 }
theorem SigOk_C65 (fv : Nat → Value) (M : Nat) : SigOk Tryd.prog (C65 fv M) := (sigs_ok65 M).fv fv
theorem RSigOk_C65 (fv : Nat → Value) (M : Nat) : SigOk Tryd.prog ({ ti := fun _ => none, sig := fun f => ((rs65 M).lookup f).map fun S => S.withFv fv } : Ctx (E.withFv fv)) := (rs_ok65 M).fv fv
theorem ItOk_C65 (fv : Nat → Value) (M : Nat) : ItOk Tryd.prog (C65 fv M) := (its_ok65 M).fv fv
namespace feature_Table_int_Matches_1
variable {fv : Nat → Value}
noncomputable def plans : List (Option (Plan Nm)) := [none, some { tmps := [(0, .asis), (2, .asis), (9, .asis), (10, .asis), (11, .asis)], boxes := [] }, none, none, none, some { tmps := [(0, .asis), (2, .asis), (9, .asis), (10, .asis), (11, .asis), (25, .asis)], boxes := [] }, none]
noncomputable abbrev body : Code := bodyOf Tryd.f65
def ts : List (Ty Nm) := [(.int .i64)]
def cts : List (Ty Nm) := [(.ref .feature_Table_int), (.sl (.st .api_Feature))]
def shape : List Nat := [1, 1]
noncomputable def inl : List (Nat × Nat × Nat × Inl Nm) := []
theorem inl_ok : InlsOk Tryd.prog inl := InlsOk.nil
noncomputable def X (fv : Nat → Value) (M : Nat) : Ext (E.withFv fv) (List (Int)) := extOf (C65 fv M) (inlOf inl) (fun f => ((rs65 M).lookup f).map fun S => S.withFv fv) (ylOf ts) noX M 1
abbrev Rt := List (Int)
noncomputable def H (fv : Nat → Value) (M : Nat) : Hd (E.withFv fv) Rt := hd0 (X fv M)
theorem Hok (fv : Nat → Value) (M : Nat) : (H fv M).ok (C65 fv M) M := hd0_ok _
abbrev Qt2 : List Dir := [.r, .k, .L, .r, .r, .l, .k, .r]
abbrev Ht2 := feature_Table_int → (List api_Feature) → Int → Bool → Option Rt
abbrev Qt1 : List Dir := [.r, .k]
abbrev Ht1 := feature_Table_int → (List api_Feature) → Int → Option Rt
abbrev Zt (fv : Nat → Value) := List Dir → St (E.withFv fv) → Option Rt
abbrev Ut (fv : Nat → Value) := St (E.withFv fv) → Option Rt
noncomputable def s2 (M : Nat) (h1 : Ht1) (c0a0_0 : feature_Table_int) (c1a1_0 : (List api_Feature)) (x11_1 : Int) (x25_2 : Bool) : Option Rt :=
  cond (x25_2)
   (some [])
   (h1 c0a0_0 c1a1_0 (IntKind.i64.wrap (x11_1 + 1)))
noncomputable def j2 (M : Nat) (h1 : Ht1) (c0a0_0 : feature_Table_int) (c1a1_0 : (List api_Feature)) (x11_1 : Int) (x25_2 : Bool) : Option Rt :=
  s2 M h1 c0a0_0 c1a1_0 x11_1 x25_2
noncomputable def s1 (M : Nat) (h2 : Ht2) (c0a0_0 : feature_Table_int) (c1a1_0 : (List api_Feature)) (x11_1 : Int) : Option Rt :=
  cond (decide (x11_1 < (c0a0_0.fentries.length : Int)))
   (cond (decide (0 ≤ x11_1) && decide (x11_1 < (c0a0_0.fentries.length : Int)))
     (Option.bind (feature_Subsumes M ((c0a0_0.fentries.getD x11_1.toNat default).fwhen) c1a1_0) fun r18_8 =>
      cond (r18_8)
       (emit ((c0a0_0.fentries.getD x11_1.toNat default).fvalue)
         (h2 c0a0_0 c1a1_0 x11_1 (!true))
         (h2 c0a0_0 c1a1_0 x11_1 (!false)))
       (h2 c0a0_0 c1a1_0 x11_1 false))
     none)
   (some [])
noncomputable def l1 (M : Nat) : Nat → Ht1
  | 0, _, _, _ => none
  | k + 1, c0a0_0, c1a1_0, x11_1 => s1 M (j2 M (l1 M k)) c0a0_0 c1a1_0 x11_1
noncomputable def s (M : Nat) (h1 : Ht1) (c0a0_0 : feature_Table_int) (c1a1_0 : (List api_Feature)) : Option Rt :=
  h1 c0a0_0 c1a1_0 0
end feature_Table_int_Matches_1
noncomputable def feature_Table_int_Matches_1 (M : Nat) (c0a0_0 : feature_Table_int) (c1a1_0 : (List api_Feature)) : Option (List (Int)) :=
  feature_Table_int_Matches_1.s M (feature_Table_int_Matches_1.l1 M M) c0a0_0 c1a1_0
namespace feature_Table_int_Matches_1
variable {fv : Nat → Value}
noncomputable def S2 (c0a0_0 : feature_Table_int) (c1a1_0 : (List api_Feature)) (x11_1 : Int) (x25_2 : Bool) : St (E.withFv fv) :=
  mkSt 27 27 [(0, .one (.tv (.spec 0))), (2, .one (.fptr [.sl (.st .api_Feature) c1a1_0])), (9, .one (.tv (.sl (.st .feature_entry_int) c0a0_0.fentries))), (10, .one (.tv (.int .i64 (c0a0_0.fentries.length : Int)))), (11, .one (.tv (.int .i64 x11_1))), (25, .one (.tv (.bool x25_2)))] [] 0 [] [] false
noncomputable def S1 (c0a0_0 : feature_Table_int) (c1a1_0 : (List api_Feature)) (x11_1 : Int) : St (E.withFv fv) :=
  mkSt 27 27 [(0, .one (.tv (.spec 0))), (2, .one (.fptr [.sl (.st .api_Feature) c1a1_0])), (9, .one (.tv (.sl (.st .feature_entry_int) c0a0_0.fentries))), (10, .one (.tv (.int .i64 (c0a0_0.fentries.length : Int)))), (11, .one (.tv (.int .i64 x11_1)))] [] 0 [] [] false
noncomputable def K (M : Nat) : Cont (E.withFv fv) (List (Int)) := kEnd (C65 fv M) Tryd.f65.results.toList
noncomputable abbrev zA (fv : Nat → Value) (M : Nat) (ZL : List Dir → Option (Ut fv)) (q : List Dir) : Ut fv := zAt (C65 fv M) (H fv M) M 0 ZL body plans (K (fv := fv) M) q
noncomputable abbrev lA (fv : Nat → Value) (M : Nat) (ZL : List Dir → Option (Ut fv)) (q : List Dir) (k : Nat) : Ut fv := lpAt (C65 fv M) (H fv M) M 0 ZL body plans (K (fv := fv) M) q k
noncomputable abbrev gA (fv : Nat → Value) (M : Nat) (Z : Zt fv) (q : List Dir) : Ut fv := seg (C65 fv M) (H fv M) 0 Z body plans (K (fv := fv) M) q
set_option maxRecDepth 100000
theorem g2 (M : Nat) (Z : Zt fv) (c0a0_0 : feature_Table_int) (c1a1_0 : (List api_Feature)) (x11_1 : Int) (x25_2 : Bool) : gA fv M Z Qt2 (S2 c0a0_0 c1a1_0 x11_1 x25_2) = s2 M
    (fun c0a0_0 c1a1_0 x11_1 => Z Qt1 (S1 c0a0_0 c1a1_0 x11_1)) c0a0_0 c1a1_0 x11_1 x25_2 := by kernel_rfl
theorem g1 (M : Nat) (Z : Zt fv) (c0a0_0 : feature_Table_int) (c1a1_0 : (List api_Feature)) (x11_1 : Int) : gA fv M Z Qt1 (S1 c0a0_0 c1a1_0 x11_1) = s1 M
    (fun c0a0_0 c1a1_0 x11_1 x25_2 => Z Qt2 (S2 c0a0_0 c1a1_0 x11_1 x25_2)) c0a0_0 c1a1_0 x11_1 := by kernel_rfl
theorem g (M : Nat) (Z : Zt fv) (c0a0_0 : feature_Table_int) (c1a1_0 : (List api_Feature)) : runZ (C65 fv M) (extZ (C65 fv M) (H fv M) 0) Z body plans (start (.one (.tv (.spec 0)) :: capHs shape (viewTup (E := E.withFv fv) cts (c0a0_0, c1a1_0))) Tryd.f65.ntmps 27) (K (fv := fv) M) = s M
    (fun c0a0_0 c1a1_0 x11_1 => Z Qt1 (S1 c0a0_0 c1a1_0 x11_1)) c0a0_0 c1a1_0 := by kernel_rfl
theorem e2 (M : Nat) (Z1 : Ut fv) (h1 : Ht1) (hZ1 : ∀ (c0a0_0 : feature_Table_int) (c1a1_0 : (List api_Feature)) (x11_1 : Int), Z1 (S1 c0a0_0 c1a1_0 x11_1) = h1 c0a0_0 c1a1_0 x11_1) (c0a0_0 : feature_Table_int) (c1a1_0 : (List api_Feature)) (x11_1 : Int) (x25_2 : Bool) : zA fv M (zlq Qt2 [Z1]) Qt2 (S2 c0a0_0 c1a1_0 x11_1 x25_2) = j2 M h1 c0a0_0 c1a1_0 x11_1 x25_2 := by
  refine (seg_join (Hok fv M) 0 Qt2 body plans (K (fv := fv) M) _ (S2 c0a0_0 c1a1_0 x11_1 x25_2) (around_zlq _ _ (by kernel_rfl)) (by kernel_rfl)).trans ?_
  refine (g2 M _ c0a0_0 c1a1_0 x11_1 x25_2).trans ?_
  have x0 := (funext fun c0a0_0 => funext fun c1a1_0 => funext fun x11_1 => Eq.trans (b := Z1 (S1 c0a0_0 c1a1_0 x11_1)) (by kernel_rfl) (hZ1 c0a0_0 c1a1_0 x11_1) : (fun c0a0_0 c1a1_0 x11_1 => zA fv M (zlq Qt2 [Z1]) Qt1 (S1 c0a0_0 c1a1_0 x11_1)) = h1)
  rw [x0]; rfl
theorem el1 (M : Nat) (k : Nat) (c0a0_0 : feature_Table_int) (c1a1_0 : (List api_Feature)) (x11_1 : Int) : lA fv M (zlq Qt1 []) Qt1 k (S1 c0a0_0 c1a1_0 x11_1) = l1 M k c0a0_0 c1a1_0 x11_1 := by
  induction k generalizing c0a0_0 c1a1_0 x11_1 with
  | zero => kernel_rfl
  | succ k ih =>
    refine Eq.trans (b := lA fv M (zlq Qt1 [lA fv M (zlq Qt1 []) Qt1 k]) Qt1 (k + 1) (S1 c0a0_0 c1a1_0 x11_1)) (by kernel_rfl) ?_
    refine (seg_loop (Hok fv M) 0 Qt1 body plans (K (fv := fv) M) _ (S1 c0a0_0 c1a1_0 x11_1) (around_zlq _ _ (by kernel_rfl)) (by kernel_rfl) (by kernel_rfl)).trans ?_
    refine (g1 M _ c0a0_0 c1a1_0 x11_1).trans ?_
    have x0 := (funext fun c0a0_0 => funext fun c1a1_0 => funext fun x11_1 => funext fun x25_2 => Eq.trans (b := zA fv M (zlq Qt2 [(lA fv M (zlq Qt1 []) Qt1 k)]) Qt2 (S2 c0a0_0 c1a1_0 x11_1 x25_2)) (by kernel_rfl) (e2 M (lA fv M (zlq Qt1 []) Qt1 k) (l1 M k) (fun c0a0_0 c1a1_0 x11_1 => ih c0a0_0 c1a1_0 x11_1) c0a0_0 c1a1_0 x11_1 x25_2) : (fun c0a0_0 c1a1_0 x11_1 x25_2 => zA fv M (zlq Qt1 [lA fv M (zlq Qt1 []) Qt1 k]) Qt2 (S2 c0a0_0 c1a1_0 x11_1 x25_2)) = j2 M (l1 M k))
    rw [x0]; rfl
theorem e1 (M : Nat) (c0a0_0 : feature_Table_int) (c1a1_0 : (List api_Feature)) (x11_1 : Int) : zA fv M (zlq Qt1 []) Qt1 (S1 c0a0_0 c1a1_0 x11_1) = l1 M M c0a0_0 c1a1_0 x11_1 :=
  Eq.trans (b := lA fv M (zlq Qt1 []) Qt1 M (S1 c0a0_0 c1a1_0 x11_1)) (by kernel_rfl) (el1 M M c0a0_0 c1a1_0 x11_1)
theorem run (M : Nat) (c0a0_0 : feature_Table_int) (c1a1_0 : (List api_Feature)) : runC (C65 fv M) (X fv M) M body plans (start (.one (.tv (.spec 0)) :: capHs shape (viewTup (E := E.withFv fv) cts (c0a0_0, c1a1_0))) Tryd.f65.ntmps 27) (K (fv := fv) M) = feature_Table_int_Matches_1 M c0a0_0 c1a1_0 := by
  refine (zrun (Hok fv M) 0 body plans _ (K (fv := fv) M) (fun _ => none) fun _ => rfl).symm.trans ?_
  refine (g M _ c0a0_0 c1a1_0).trans ?_
  have x0 := (funext fun c0a0_0 => funext fun c1a1_0 => funext fun x11_1 => Eq.trans (b := zA fv M (zlq Qt1 []) Qt1 (S1 c0a0_0 c1a1_0 x11_1)) (by kernel_rfl) (e1 M c0a0_0 c1a1_0 x11_1) : (fun c0a0_0 c1a1_0 x11_1 => zA fv M (fun _ => none) Qt1 (S1 c0a0_0 c1a1_0 x11_1)) = l1 M M)
  rw [x0]; rfl
noncomputable def it (M : Nat) : It E := { ts := ts, cts := cts, shape := shape, fn := fun x => feature_Table_int_Matches_1 M x.1 x.2 }
theorem says (M : Nat) : ItSays Tryd.prog 65 (it M) := by
  refine ⟨by kernel_rfl, fun y xs h w0 F0 lb hF hT hc => ?_⟩
  refine seqX_of_run (E := E) (ts := ts) (cts := cts) (C := fun fv => C65 fv M) (X := fun fv => X fv M) (M := M) (q := 27) (plans := plans) (y := y) (fun fv => COk_Trydv) (fun fv => SigOk_C65 fv M) (fun fv => ItOk_C65 fv M) (by kernel_rfl) (fun fv => callOk_yl COk_Trydv (SigOk_C65 fv M) (ItOk_C65 fv M) (by kernel_rfl) inl_ok.ok (RSigOk_C65 fv M) (fun _ => callOk_none) M 1) (Tryd.func65) (body := body) (by kernel_rfl) (fun fv => ?_) hT hc
  obtain ⟨c0a0_0, c1a1_0⟩ := y
  exact (run (fv := fv) M c0a0_0 c1a1_0).trans h
end feature_Table_int_Matches_1
end Go.Ai.Pav
end
set_option linter.unusedVariables false
set_option linter.unusedSectionVars false
noncomputable section
namespace Go.Ai.Pav
open Go Go.Ai Go.Proofs
noncomputable def sigs45 (M : Nat) : List (Nat × Sig E) := []
noncomputable def rs45 (M : Nat) : List (Nat × Sig E) := []
noncomputable def its45 (M : Nat) : List (Nat × It E) := [(65, feature_Table_int_Matches_1.it M)]
theorem sigs_ok45 (M : Nat) : SigsOk Tryd.prog (sigs45 M) := SigsOk.nil
theorem rs_ok45 (M : Nat) : SigsOk Tryd.prog (rs45 M) := SigsOk.nil
theorem its_ok45 (M : Nat) : ItsOk Tryd.prog (its45 M) := ItsOk.cons (feature_Table_int_Matches_1.says M) (ItsOk.nil)
noncomputable def C45 (M : Nat) : Ctx E := { ti := fun t => tisE.lookup t, sig := fun f => (sigs45 M).lookup f, it := fun f => (its45 M).lookup f, nt := 14 }
theorem SigOk_C45 (M : Nat) : SigOk Tryd.prog (C45 M) := sigs_ok45 M
theorem RSigOk_C45 (M : Nat) : SigOk Tryd.prog ({ ti := fun _ => none, sig := fun f => (rs45 M).lookup f } : Ctx E) := rs_ok45 M
theorem ItOk_C45 (M : Nat) : ItOk Tryd.prog (C45 M) := (its_ok45 M).ok
namespace feature_Table_int_Find
noncomputable def plans : List (Option (Plan Nm)) := [none, none, some { tmps := [(4, .asis), (5, .asis)], boxes := [(4, [.asis]), (5, [.asis])] }, none, none, none, none]
noncomputable abbrev body : Code := bodyOf Tryd.f45
def ps : List (Ty Nm) := [(.ref .feature_Table_int), (.sl (.st .api_Feature))]
def rs : List (Ty Nm) := [(.int .i64), .bool]
def ex : List (Option Nat) := [none, none]
noncomputable def inl : List (Nat × Nat × Nat × Inl Nm) := [(0, 10, 54, { off := 14, ntmps := Tryd.f54.ntmps, body := bodyOf Tryd.f54, res := Tryd.f54.results.toList, plans := [] })]
theorem inl_ok : InlsOk Tryd.prog inl := InlsOk.cons ⟨by kernel_rfl, _, Tryd.func54, by kernel_rfl, rfl, rfl⟩ (InlsOk.nil)
noncomputable def X (M : Nat) : Ext E (Int × Bool) := extOf (C45 M) (inlOf inl) (fun f => (rs45 M).lookup f) (fun _ _ _ => none) noX M 2
abbrev Rt := Int × Bool
noncomputable def H (M : Nat) : Hd E Rt := hd0 (X M)
theorem Hok (M : Nat) : (H M).ok (C45 M) M := hd0_ok _
abbrev Qt1 : List Dir := [.r, .l, .r, .k]
abbrev Ht1 := (List (Int)) → Option Rt
abbrev Zt := List Dir → St E → Option Rt
abbrev Ut := St E → Option Rt
noncomputable def s1 (M : Nat) (ri65_1 : List (Int)) : Option Rt :=
  lcase ri65_1
   (some (0, false))
   (fun x900_1 xs900_1 =>
    some (x900_1, true))
noncomputable def l1 (M : Nat) : Nat → Ht1
  | 0, _ => none
  | k + 1, ri65_1 => s1 M ri65_1
noncomputable def s (M : Nat) (h1 : Ht1) (ta0_0 : feature_Table_int) (ra1_0 : (List api_Feature)) : Option Rt :=
  Option.bind (feature_Table_int_Matches_1 M ta0_0 ra1_0) fun ri65_1 =>
  h1 ri65_1
end feature_Table_int_Find
noncomputable def feature_Table_int_Find (M : Nat) (ta0_0 : feature_Table_int) (ra1_0 : (List api_Feature)) : Option (Int × Bool) :=
  feature_Table_int_Find.s M (feature_Table_int_Find.l1 M M) ta0_0 ra1_0
namespace feature_Table_int_Find
noncomputable def S1 (ri65_1 : List (Int)) : St E :=
  mkSt 14 20 [(4, .one (.ptr 4 0)), (5, .one (.ptr 5 0))] [(4, .cells [.tv (.int .i64 0)]), (5, .cells [.tv (.bool false)])] 0 [] [⟨[(.int .i64)], ri65_1⟩] true
noncomputable def K (M : Nat) : Cont E (Int × Bool) := kRet (C45 M) Tryd.f45.results.toList rs ex
noncomputable abbrev zA (M : Nat) (ZL : List Dir → Option (Ut)) (q : List Dir) : Ut := zAt (C45 M) (H M) M 0 ZL body plans (K M) q
noncomputable abbrev lA (M : Nat) (ZL : List Dir → Option (Ut)) (q : List Dir) (k : Nat) : Ut := lpAt (C45 M) (H M) M 0 ZL body plans (K M) q k
noncomputable abbrev gA (M : Nat) (Z : Zt) (q : List Dir) : Ut := seg (C45 M) (H M) 0 Z body plans (K M) q
set_option maxRecDepth 100000
theorem g1 (M : Nat) (Z : Zt) (ri65_1 : List (Int)) : gA M Z Qt1 (S1 ri65_1) = s1 M ri65_1 := by kernel_rfl
theorem g (M : Nat) (Z : Zt) (ta0_0 : feature_Table_int) (ra1_0 : (List api_Feature)) : runZ (C45 M) (extZ (C45 M) (H M) 0) Z body plans (start (argHs ps (ta0_0, ra1_0)) Tryd.f45.ntmps 20) (K M) = s M
    (fun ri65_1 => Z Qt1 (S1 ri65_1)) ta0_0 ra1_0 := by kernel_rfl
theorem el1 (M : Nat) (k : Nat) (ri65_1 : List (Int)) : lA M (zlq Qt1 []) Qt1 k (S1 ri65_1) = l1 M k ri65_1 := by
  induction k generalizing ri65_1 with
  | zero => kernel_rfl
  | succ k ih =>
    refine Eq.trans (b := lA M (zlq Qt1 [lA M (zlq Qt1 []) Qt1 k]) Qt1 (k + 1) (S1 ri65_1)) (by kernel_rfl) ?_
    refine (seg_loop (Hok M) 0 Qt1 body plans (K M) _ (S1 ri65_1) (around_zlq _ _ (by kernel_rfl)) (by kernel_rfl) (by kernel_rfl)).trans ?_
    refine (g1 M _ ri65_1).trans ?_
    rfl
theorem e1 (M : Nat) (ri65_1 : List (Int)) : zA M (zlq Qt1 []) Qt1 (S1 ri65_1) = l1 M M ri65_1 :=
  Eq.trans (b := lA M (zlq Qt1 []) Qt1 M (S1 ri65_1)) (by kernel_rfl) (el1 M M ri65_1)
theorem run (M : Nat) (ta0_0 : feature_Table_int) (ra1_0 : (List api_Feature)) : runF (rs := rs) (C45 M) (X M) M body Tryd.f45.ntmps 20 Tryd.f45.results.toList plans ps ex (ta0_0, ra1_0) = feature_Table_int_Find M ta0_0 ra1_0 := by
  refine Eq.trans (b := runC (C45 M) (X M) M body plans (start (argHs ps (ta0_0, ra1_0)) Tryd.f45.ntmps 20) (K M)) (by kernel_rfl) ?_
  refine (zrun (Hok M) 0 body plans _ (K M) (fun _ => none) fun _ => rfl).symm.trans ?_
  refine (g M _ ta0_0 ra1_0).trans ?_
  have x0 := (funext fun ri65_1 => Eq.trans (b := zA M (zlq Qt1 []) Qt1 (S1 ri65_1)) (by kernel_rfl) (e1 M ri65_1) : (fun ri65_1 => zA M (fun _ => none) Qt1 (S1 ri65_1)) = l1 M M)
  rw [x0]; rfl
noncomputable def sig (M : Nat) : Sig E := { ps := ps, rs := rs, ex := ex, fn := fun x => feature_Table_int_Find M x.1 x.2 }
theorem says (M : Nat) : callable Tryd.prog 45 = true ∧ ∀ x y, (sig M).fn x = some y → Says Tryd.prog 45 (sig M) x y := by
  refine ⟨by kernel_rfl, fun x y h => ?_⟩
  refine says_of_run (S := sig M) (C := C45 M) (X := X M) (M := M) (q := 20) (plans := plans) (COk_Tryd) (SigOk_C45 M) (ItOk_C45 M) (by kernel_rfl) (callOk_ext COk_Tryd (SigOk_C45 M) (ItOk_C45 M) (by kernel_rfl) inl_ok.ok (RSigOk_C45 M) (fun _ => callOk_none) M 2) (Tryd.func45) (body := body) (by kernel_rfl) (by kernel_rfl) ?_
  obtain ⟨ta0_0, ra1_0⟩ := x
  exact (run M ta0_0 ra1_0).trans h
end feature_Table_int_Find
end Go.Ai.Pav
end
set_option linter.unusedVariables false
set_option linter.unusedSectionVars false
noncomputable section
namespace Go.Ai.Pav
open Go Go.Ai Go.Proofs
noncomputable def sigs24 (M : Nat) : List (Nat × Sig E) := [(53, slices_Clone_api_Feature_api_Feature.sig M)]
noncomputable def rs24 (M : Nat) : List (Nat × Sig E) := [(45, feature_Table_int_Find.sig M)]
noncomputable def its24 (M : Nat) : List (Nat × It E) := []
theorem sigs_ok24 (M : Nat) : SigsOk Tryd.prog (sigs24 M) := SigsOk.cons (slices_Clone_api_Feature_api_Feature.says M) (SigsOk.nil)
theorem rs_ok24 (M : Nat) : SigsOk Tryd.prog (rs24 M) := SigsOk.cons (feature_Table_int_Find.says M) (SigsOk.nil)
theorem its_ok24 (M : Nat) : ItsOk Tryd.prog (its24 M) := ItsOk.nil
noncomputable def C24 (M : Nat) : Ctx E := { ti := fun t => tisE.lookup t, sig := fun f => (sigs24 M).lookup f, it := fun f => (its24 M).lookup f, nt := 50 }
theorem SigOk_C24 (M : Nat) : SigOk Tryd.prog (C24 M) := sigs_ok24 M
theorem RSigOk_C24 (M : Nat) : SigOk Tryd.prog ({ ti := fun _ => none, sig := fun f => (rs24 M).lookup f } : Ctx E) := rs_ok24 M
theorem ItOk_C24 (M : Nat) : ItOk Tryd.prog (C24 M) := (its_ok24 M).ok
namespace paradigm_Chosen
noncomputable def plans : List (Option (Plan Nm)) := [none, none, none, none, none, none, none, some { tmps := [(2, .asis), (7, .asis), (8, .asis), (29, .asis), (30, .asis), (31, .asis)], boxes := [(52, [.own (300052, 1, 100) (.st .feature_entry_int)])] }, none, none, none, none, some { tmps := [(2, .asis), (7, .asis)], boxes := [(52, [.own (300052, 1, 100) (.st .feature_entry_int)])] }, none, none, none, none, none]
noncomputable abbrev body : Code := bodyOf Tryd.f24
def ps : List (Ty Nm) := [(.st .api_Paradigm), (.int .i64), (.sl (.st .api_Feature))]
def rs : List (Ty Nm) := [(.int .i64)]
def ex : List (Option Nat) := [none]
noncomputable def inl : List (Nat × Nat × Nat × Inl Nm) := [(0, 22, 43, { off := 50, ntmps := Tryd.f43.ntmps, body := bodyOf Tryd.f43, res := Tryd.f43.results.toList, plans := [] }), (0, 40, 44, { off := 53, ntmps := Tryd.f44.ntmps, body := bodyOf Tryd.f44, res := Tryd.f44.results.toList, plans := [] })]
theorem inl_ok : InlsOk Tryd.prog inl := InlsOk.cons ⟨by kernel_rfl, _, Tryd.func43, by kernel_rfl, rfl, rfl⟩ (InlsOk.cons ⟨by kernel_rfl, _, Tryd.func44, by kernel_rfl, rfl, rfl⟩ (InlsOk.nil))
noncomputable def X (M : Nat) : Ext E Int := extOf (C24 M) (inlOf inl) (fun f => (rs24 M).lookup f) (fun _ _ _ => none) noX M 2
abbrev Rt := Int
noncomputable def H (M : Nat) : Hd E Rt := hd0 (X M)
theorem Hok (M : Nat) : (H M).ok (C24 M) M := hd0_ok _
abbrev Qt2 : List Dir := [.r, .r, .r, .r]
abbrev Ht2 := (List api_Feature) → (List feature_entry_int) → Option Rt
abbrev Qt1 : List Dir := [.r, .r, .r, .r, .l, .r, .k]
abbrev Ht1 := (List api_Feature) → api_Paradigm → Int → Int → (List feature_entry_int) → Option Rt
abbrev Zt := List Dir → St E → Option Rt
abbrev Ut := St E → Option Rt
noncomputable def s2 (M : Nat) (featuresa2_0 : (List api_Feature)) (xb052_2 : (List feature_entry_int)) : Option Rt :=
  Option.bind (feature_Table_int_Find M (feature_Table_int.mk xb052_2) featuresa2_0) fun r45_9 =>
  cond (r45_9.2)
   (some r45_9.1)
   (some (-1))
noncomputable def j2 (M : Nat) (featuresa2_0 : (List api_Feature)) (xb052_2 : (List feature_entry_int)) : Option Rt :=
  s2 M featuresa2_0 xb052_2
noncomputable def s1 (M : Nat) (h1 : Ht1) (h2 : Ht2) (featuresa2_0 : (List api_Feature)) (pa0_0 : api_Paradigm) (slota1_0 : Int) (x31_1 : Int) (xb052_1 : (List feature_entry_int)) : Option Rt :=
  cond (decide (x31_1 < ((pa0_0.fSlots.getD slota1_0.toNat default).length : Int)))
   (cond (decide (0 ≤ x31_1) && decide (x31_1 < ((pa0_0.fSlots.getD slota1_0.toNat default).length : Int)))
     (Option.bind (slices_Clone_api_Feature_api_Feature M (((pa0_0.fSlots.getD slota1_0.toNat default).getD x31_1.toNat default).fWhen)) fun r65_8 =>
      cond (decide (xb052_1.length + ([feature_entry_int.mk r65_8 x31_1] : List feature_entry_int).length ≤ lim))
       (h1 featuresa2_0 pa0_0 slota1_0 (IntKind.i64.wrap (x31_1 + 1)) (xb052_1 ++ [feature_entry_int.mk r65_8 x31_1]))
       none)
     none)
   (h2 featuresa2_0 xb052_1)
noncomputable def l1 (M : Nat) : Nat → Ht1
  | 0, _, _, _, _, _ => none
  | k + 1, featuresa2_0, pa0_0, slota1_0, x31_1, xb052_1 => s1 M (l1 M k) (j2 M) featuresa2_0 pa0_0 slota1_0 x31_1 xb052_1
noncomputable def s (M : Nat) (h1 : Ht1) (pa0_0 : api_Paradigm) (slota1_0 : Int) (featuresa2_0 : (List api_Feature)) : Option Rt :=
  cond (decide (slota1_0 < 0))
   (some (-1))
   (cond (decide ((pa0_0.fSlots.length : Int) ≤ slota1_0))
     (some (-1))
     (cond (decide (0 ≤ slota1_0) && decide (slota1_0 < (pa0_0.fSlots.length : Int)))
       (h1 featuresa2_0 pa0_0 slota1_0 0 ([] : (List feature_entry_int)))
       none))
end paradigm_Chosen
noncomputable def paradigm_Chosen (M : Nat) (pa0_0 : api_Paradigm) (slota1_0 : Int) (featuresa2_0 : (List api_Feature)) : Option Int :=
  paradigm_Chosen.s M (paradigm_Chosen.l1 M M) pa0_0 slota1_0 featuresa2_0
namespace paradigm_Chosen
noncomputable def S2 (featuresa2_0 : (List api_Feature)) (xb052_2 : (List feature_entry_int)) : St E :=
  mkSt 50 72 [(2, .one (.tv (.sl (.st .api_Feature) featuresa2_0))), (7, .one (.ptr 52 0))] [(52, .cells [.tok (300052, 1, 100) (.st .feature_entry_int) xb052_2])] 0 [] [] false
noncomputable def S1 (featuresa2_0 : (List api_Feature)) (pa0_0 : api_Paradigm) (slota1_0 : Int) (x31_1 : Int) (xb052_1 : (List feature_entry_int)) : St E :=
  mkSt 50 72 [(2, .one (.tv (.sl (.st .api_Feature) featuresa2_0))), (7, .one (.ptr 52 0)), (8, .one (.fn (.func 44) [.ptr 52 0] [])), (29, .one (.tv (.sl (.st .api_Affix) (pa0_0.fSlots.getD slota1_0.toNat default)))), (30, .one (.tv (.int .i64 ((pa0_0.fSlots.getD slota1_0.toNat default).length : Int)))), (31, .one (.tv (.int .i64 x31_1)))] [(52, .cells [.tok (300052, 1, 100) (.st .feature_entry_int) xb052_1])] 0 [] [] false
noncomputable def K (M : Nat) : Cont E Int := kRet (C24 M) Tryd.f24.results.toList rs ex
noncomputable abbrev zA (M : Nat) (ZL : List Dir → Option (Ut)) (q : List Dir) : Ut := zAt (C24 M) (H M) M 0 ZL body plans (K M) q
noncomputable abbrev lA (M : Nat) (ZL : List Dir → Option (Ut)) (q : List Dir) (k : Nat) : Ut := lpAt (C24 M) (H M) M 0 ZL body plans (K M) q k
noncomputable abbrev gA (M : Nat) (Z : Zt) (q : List Dir) : Ut := seg (C24 M) (H M) 0 Z body plans (K M) q
set_option maxRecDepth 100000
theorem g2 (M : Nat) (Z : Zt) (featuresa2_0 : (List api_Feature)) (xb052_2 : (List feature_entry_int)) : gA M Z Qt2 (S2 featuresa2_0 xb052_2) = s2 M featuresa2_0 xb052_2 := by kernel_rfl
theorem g1 (M : Nat) (Z : Zt) (featuresa2_0 : (List api_Feature)) (pa0_0 : api_Paradigm) (slota1_0 : Int) (x31_1 : Int) (xb052_1 : (List feature_entry_int)) : gA M Z Qt1 (S1 featuresa2_0 pa0_0 slota1_0 x31_1 xb052_1) = s1 M
    (fun featuresa2_0 pa0_0 slota1_0 x31_1 xb052_1 => Z Qt1 (S1 featuresa2_0 pa0_0 slota1_0 x31_1 xb052_1))
    (fun featuresa2_0 xb052_2 => Z Qt2 (S2 featuresa2_0 xb052_2)) featuresa2_0 pa0_0 slota1_0 x31_1 xb052_1 := by kernel_rfl
theorem g (M : Nat) (Z : Zt) (pa0_0 : api_Paradigm) (slota1_0 : Int) (featuresa2_0 : (List api_Feature)) : runZ (C24 M) (extZ (C24 M) (H M) 0) Z body plans (start (argHs ps (pa0_0, slota1_0, featuresa2_0)) Tryd.f24.ntmps 72) (K M) = s M
    (fun featuresa2_0 pa0_0 slota1_0 x31_1 xb052_1 => Z Qt1 (S1 featuresa2_0 pa0_0 slota1_0 x31_1 xb052_1)) pa0_0 slota1_0 featuresa2_0 := by kernel_rfl
theorem e2 (M : Nat) (featuresa2_0 : (List api_Feature)) (xb052_2 : (List feature_entry_int)) : zA M (zlq Qt2 []) Qt2 (S2 featuresa2_0 xb052_2) = j2 M featuresa2_0 xb052_2 := by
  refine (seg_join (Hok M) 0 Qt2 body plans (K M) _ (S2 featuresa2_0 xb052_2) (around_zlq _ _ (by kernel_rfl)) (by kernel_rfl)).trans ?_
  refine (g2 M _ featuresa2_0 xb052_2).trans ?_
  rfl
theorem el1 (M : Nat) (k : Nat) (featuresa2_0 : (List api_Feature)) (pa0_0 : api_Paradigm) (slota1_0 : Int) (x31_1 : Int) (xb052_1 : (List feature_entry_int)) : lA M (zlq Qt1 []) Qt1 k (S1 featuresa2_0 pa0_0 slota1_0 x31_1 xb052_1) = l1 M k featuresa2_0 pa0_0 slota1_0 x31_1 xb052_1 := by
  induction k generalizing featuresa2_0 pa0_0 slota1_0 x31_1 xb052_1 with
  | zero => kernel_rfl
  | succ k ih =>
    refine Eq.trans (b := lA M (zlq Qt1 [lA M (zlq Qt1 []) Qt1 k]) Qt1 (k + 1) (S1 featuresa2_0 pa0_0 slota1_0 x31_1 xb052_1)) (by kernel_rfl) ?_
    refine (seg_loop (Hok M) 0 Qt1 body plans (K M) _ (S1 featuresa2_0 pa0_0 slota1_0 x31_1 xb052_1) (around_zlq _ _ (by kernel_rfl)) (by kernel_rfl) (by kernel_rfl)).trans ?_
    refine (g1 M _ featuresa2_0 pa0_0 slota1_0 x31_1 xb052_1).trans ?_
    have x0 := (funext fun featuresa2_0 => funext fun pa0_0 => funext fun slota1_0 => funext fun x31_1 => funext fun xb052_1 => Eq.trans (b := lA M (zlq Qt1 []) Qt1 k (S1 featuresa2_0 pa0_0 slota1_0 x31_1 xb052_1)) (by kernel_rfl) (ih featuresa2_0 pa0_0 slota1_0 x31_1 xb052_1) : (fun featuresa2_0 pa0_0 slota1_0 x31_1 xb052_1 => zA M (zlq Qt1 [lA M (zlq Qt1 []) Qt1 k]) Qt1 (S1 featuresa2_0 pa0_0 slota1_0 x31_1 xb052_1)) = l1 M k)
    have x1 := (funext fun featuresa2_0 => funext fun xb052_2 => Eq.trans (b := zA M (zlq Qt2 []) Qt2 (S2 featuresa2_0 xb052_2)) (by kernel_rfl) (e2 M featuresa2_0 xb052_2) : (fun featuresa2_0 xb052_2 => zA M (zlq Qt1 [lA M (zlq Qt1 []) Qt1 k]) Qt2 (S2 featuresa2_0 xb052_2)) = j2 M)
    rw [x0, x1]; rfl
theorem e1 (M : Nat) (featuresa2_0 : (List api_Feature)) (pa0_0 : api_Paradigm) (slota1_0 : Int) (x31_1 : Int) (xb052_1 : (List feature_entry_int)) : zA M (zlq Qt1 []) Qt1 (S1 featuresa2_0 pa0_0 slota1_0 x31_1 xb052_1) = l1 M M featuresa2_0 pa0_0 slota1_0 x31_1 xb052_1 :=
  Eq.trans (b := lA M (zlq Qt1 []) Qt1 M (S1 featuresa2_0 pa0_0 slota1_0 x31_1 xb052_1)) (by kernel_rfl) (el1 M M featuresa2_0 pa0_0 slota1_0 x31_1 xb052_1)
theorem run (M : Nat) (pa0_0 : api_Paradigm) (slota1_0 : Int) (featuresa2_0 : (List api_Feature)) : runF (rs := rs) (C24 M) (X M) M body Tryd.f24.ntmps 72 Tryd.f24.results.toList plans ps ex (pa0_0, slota1_0, featuresa2_0) = paradigm_Chosen M pa0_0 slota1_0 featuresa2_0 := by
  refine Eq.trans (b := runC (C24 M) (X M) M body plans (start (argHs ps (pa0_0, slota1_0, featuresa2_0)) Tryd.f24.ntmps 72) (K M)) (by kernel_rfl) ?_
  refine (zrun (Hok M) 0 body plans _ (K M) (fun _ => none) fun _ => rfl).symm.trans ?_
  refine (g M _ pa0_0 slota1_0 featuresa2_0).trans ?_
  have x0 := (funext fun featuresa2_0 => funext fun pa0_0 => funext fun slota1_0 => funext fun x31_1 => funext fun xb052_1 => Eq.trans (b := zA M (zlq Qt1 []) Qt1 (S1 featuresa2_0 pa0_0 slota1_0 x31_1 xb052_1)) (by kernel_rfl) (e1 M featuresa2_0 pa0_0 slota1_0 x31_1 xb052_1) : (fun featuresa2_0 pa0_0 slota1_0 x31_1 xb052_1 => zA M (fun _ => none) Qt1 (S1 featuresa2_0 pa0_0 slota1_0 x31_1 xb052_1)) = l1 M M)
  rw [x0]; rfl
noncomputable def sig (M : Nat) : Sig E := { ps := ps, rs := rs, ex := ex, fn := fun x => paradigm_Chosen M x.1 x.2.1 x.2.2 }
theorem says (M : Nat) : callable Tryd.prog 24 = true ∧ ∀ x y, (sig M).fn x = some y → Says Tryd.prog 24 (sig M) x y := by
  refine ⟨by kernel_rfl, fun x y h => ?_⟩
  refine says_of_run (S := sig M) (C := C24 M) (X := X M) (M := M) (q := 72) (plans := plans) (COk_Tryd) (SigOk_C24 M) (ItOk_C24 M) (by kernel_rfl) (callOk_ext COk_Tryd (SigOk_C24 M) (ItOk_C24 M) (by kernel_rfl) inl_ok.ok (RSigOk_C24 M) (fun _ => callOk_none) M 2) (Tryd.func24) (body := body) (by kernel_rfl) (by kernel_rfl) ?_
  obtain ⟨pa0_0, slota1_0, featuresa2_0⟩ := x
  exact (run M pa0_0 slota1_0 featuresa2_0).trans h
end paradigm_Chosen
end Go.Ai.Pav
end
namespace Go.Ai.Pav
open Go Go.Ai
variable {M : Nat}

def subsP : List api_Feature → List api_Feature → Bool
  | [], _ => true
  | f :: a, b => match b.dropWhile (ltB · f) with
    | [] => false
    | e :: b' => decide (e = f) && subsP a b'

theorem getF_dropWhile {f : api_Feature} : ∀ {b : List api_Feature}, Asc b → getF b f.fName = getF (b.dropWhile (ltB · f)) f.fName
  | [], _ => rfl
  | e :: b, h => by
    simp only [List.dropWhile_cons]
    cases he : ltB e f with
    | true =>
      simp only [if_true]
      rw [getF_skip he]
      exact getF_dropWhile (List.pairwise_cons.1 h).2
    | false => rfl

theorem asc_dropWhile {f : api_Feature} {b : List api_Feature} (h : Asc b) : Asc (b.dropWhile (ltB · f)) := h.sublist (List.dropWhile_sublist _)

theorem dropWhile_head {f e : api_Feature} {b' : List api_Feature} : ∀ {b : List api_Feature}, b.dropWhile (ltB · f) = e :: b' → ltB e f = false
  | [], h => by cases h
  | x :: b, h => by
    simp only [List.dropWhile_cons] at h
    cases hx : ltB x f with
    | true => rw [hx] at h; exact dropWhile_head (b := b) (by simpa using h)
    | false => rw [hx] at h; simp only [Bool.false_eq_true, if_false, List.cons.injEq] at h; rw [← h.1]; exact hx

theorem subsP_eq : ∀ {a b : List api_Feature}, Asc a → Asc b → subsP a b = subs a b
  | [], b, _, _ => rfl
  | f :: a, b, ha, hb => by
    obtain ⟨ha1, ha2⟩ := List.pairwise_cons.1 ha
    have hg := getF_dropWhile (f := f) hb
    have hall : ∀ g ∈ a, hasF b g = hasF (b.dropWhile (ltB · f)) g := fun g hg => by
      have key : ∀ b : List api_Feature, getF b g.fName = getF (b.dropWhile (ltB · f)) g.fName := by
        intro b
        induction b with
        | nil => rfl
        | cons e b ih =>
          simp only [List.dropWhile_cons]
          cases he : ltB e f with
          | true => simp only [if_true]; rw [getF_skip (bl_trans he (ha1 g hg))]; exact ih
          | false => rfl
      unfold hasF
      rw [key b]
    simp only [subsP, subs, List.all_cons]
    rw [all_congr hall]
    have hbd := asc_dropWhile (f := f) hb
    split
    · rename_i hd
      have : hasF b f = false := by unfold hasF; rw [hg, hd]; rfl
      rw [this]; rfl
    · rename_i e b' hd
      rw [hd] at hbd
      obtain ⟨hb1, hb2⟩ := List.pairwise_cons.1 hbd
      have hef := dropWhile_head hd
      by_cases h : e = f
      · subst h
        have h1 : hasF b e = true := by unfold hasF; rw [hg, hd]; simp [getF]
        rw [h1]
        simp only [decide_true, Bool.true_and]
        rw [subsP_eq ha2 hb2]
        unfold subs
        exact all_congr fun g hg => by unfold hasF; rw [hd, getF_skip (ha1 g hg)]
      · have h1 : hasF b f = false := by
          unfold hasF; rw [hg, hd]
          simp only [getF]
          by_cases hn : e.fName = f.fName
          · rw [if_pos hn]
            simp only [decide_eq_false_iff_not]
            intro hv
            apply h
            cases e; cases f; simp at hn hv; simp [hn, hv]
          · rw [if_neg hn, getF_none fun g hg => ?_]
            have h2 : ltB f e = true := by
              cases h3 : ltB f e with
              | true => rfl
              | false => exact absurd (bl_tri hef h3) hn
            exact bl_trans h2 (hb1 g hg)
        rw [h1]; simp [h]

theorem advance (hM : 1048576 < M) {a b : List api_Feature} (hb : b.length ≤ 1048576) {h1 : List api_Feature → List api_Feature → Int → Int → Option Bool} {x : Nat} (hx : x < 1048576) {f : api_Feature} (hf : a.getD x default = f) :
    ∀ (d k i : Nat) (s : Unit), i + d = b.length → d < k → feature_Subsumes.l2 M h1 k a b x i = (fun (i : Nat) (_ : Unit) => match (b.drop i).dropWhile (ltB · f) with
      | [] => some false
      | e :: b' => cond (decide (e = f)) (h1 a b ((b.length - b'.length : Nat) : Int) ((x + 1 : Nat) : Int)) (some false)) i s :=
  upto (n := b.length) (f := fun k i (_ : Unit) => feature_Subsumes.l2 M h1 k a b x i) (g := fun i _ => match (b.drop i).dropWhile (ltB · f) with
      | [] => some false
      | e :: b' => cond (decide (e = f)) (h1 a b ((b.length - b'.length : Nat) : Int) ((x + 1 : Nat) : Int)) (some false)) (fun k _ => by
    simp (disch := omega) only [feature_Subsumes.l2, feature_Subsumes.s2, feature_Subsumes.j3, feature_Subsumes.s3, ↓cpos, ↓cneg, List.drop_length, List.dropWhile_nil]) (fun k i _ hi ih => by
    have ih := ih ()
    obtain ⟨y, t, h2, h3, h4⟩ := dropCons hi
    have hd : (decide (y.fName = f.fName) && (decide (y.fValue = f.fValue) && true)) = decide (y = f) := by
      rw [Bool.eq_iff_iff]
      cases y; cases f
      simp
    simp (disch := omega) only [feature_Subsumes.l2, feature_Subsumes.s2, feature_Subsumes.j3, feature_Subsumes.s3, ↓cpos, ↓cpos2, ↓cneg, Int.toNat_natCast, h3, hf, wsucc, ih, h2, h4, cnot, List.dropWhile_cons, ltB, hd]
    cases Op.bytesLess y.fName f.fName with
    | true => rfl
    | false =>
      have hlen : b.length - t.length = i + 1 := by rw [← h4, List.length_drop]; omega
      simp only [cond_false, Bool.false_eq_true, if_false, hlen])

theorem feature_Subsumes_eq (hM : 1048576 < M) {a b : List api_Feature} (ha : a.length < 1048576) (hb : b.length ≤ 1048576) : feature_Subsumes M a b = some (subsP a b) := by
  have key : ∀ (d fuel x k : Nat), x + d = a.length → d < fuel → k ≤ b.length → feature_Subsumes.l1 M fuel a b k x = some (subsP (a.drop x) (b.drop k)) := by
    intro d
    induction d with
    | zero =>
      intro fuel x k h hf hk
      obtain ⟨fuel, rfl⟩ := Nat.exists_eq_succ_of_ne_zero (by omega : fuel ≠ 0)
      have e : x = a.length := by omega
      subst e
      simp (disch := omega) only [Nat.succ_eq_add_one, feature_Subsumes.l1, feature_Subsumes.s1, ↓cneg, List.drop_length, subsP]
    | succ d ih =>
      intro fuel x k h hf hk
      obtain ⟨fuel, rfl⟩ := Nat.exists_eq_succ_of_ne_zero (by omega : fuel ≠ 0)
      obtain ⟨f, t, h1, h2, h3⟩ := dropCons (xs := a) (i := x) (by omega)
      simp (disch := omega) only [Nat.succ_eq_add_one, feature_Subsumes.l1, feature_Subsumes.s1, ↓cpos, ↓cpos2, h1, subsP]
      rw [advance hM hb (by omega) h2 (b.length - k) M k () (by omega) (by omega)]
      simp only
      split
      · rfl
      · rename_i e b' hd
        have hlen : b'.length + 1 ≤ (b.drop k).length := by
          have := (List.dropWhile_sublist (fun e => ltB e f) (l := b.drop k)).length_le
          rw [hd] at this
          simpa using this
        rw [List.length_drop] at hlen
        have hs : b.drop (b.length - b'.length) = b' := by
          obtain ⟨pre, hp⟩ := List.dropWhile_suffix (fun e => ltB e f) (l := b.drop k)
          rw [hd] at hp
          refine drop_suffix (p := b.take k ++ pre ++ [e]) ?_
          conv => lhs; rw [← List.take_append_drop k b, ← hp]
          simp
        rw [ih fuel (x + 1) (b.length - b'.length) (by omega) (by omega) (by omega), h3, hs]
        cases decide (e = f) <;> rfl
  have := key a.length M 0 0 (by omega) (by omega) (by omega)
  simp only [List.drop_zero] at this
  exact this

/-! ### Tables -/
theorem slices_Clone_eq {s : List api_Feature} (hs : s.length ≤ 1048576) : slices_Clone_api_Feature_api_Feature M s = some s := by
  simp (disch := first | omega | (simp only [len, len0]; omega)) only [slices_Clone_api_Feature_api_Feature, slices_Clone_api_Feature_api_Feature.s, slices_Clone_api_Feature_api_Feature.j1, slices_Clone_api_Feature_api_Feature.s1, ↓cpos]
  cases s with
  | nil => exact agree_self _
  | cons x s => rfl

def okE (e : feature_entry_int) : Prop := e.fwhen.length < 1048576

theorem matches_eq (hM : 1048576 < M) {t : feature_Table_int} {r : List api_Feature} (hr : r.length ≤ 1048576) (ht : t.fentries.length ≤ 1048576) (he : ∀ e ∈ t.fentries, okE e) :
    feature_Table_int_Matches_1 M t r = some ((t.fentries.filter fun e => subsP e.fwhen r).map (·.fvalue)) :=
  over (xs := t.fentries) (f := fun k i (_ : Unit) => feature_Table_int_Matches_1.l1 M k t r i) (g := fun es _ => some ((es.filter fun e : feature_entry_int => subsP e.fwhen r).map (fun e : feature_entry_int => e.fvalue))) (fun k _ => by
    simp only [feature_Table_int_Matches_1.l1, feature_Table_int_Matches_1.s1, ↓cneg (Int.lt_irrefl _)]; rfl) (fun k i x es _ hi hx ih => by
    have ih := ih ()
    have hw : x.fwhen.length < 1048576 := he x (by rw [← hx]; exact getD_mem hi)
    simp (disch := omega) only [feature_Table_int_Matches_1.l1, feature_Table_int_Matches_1.s1, feature_Table_int_Matches_1.j2, feature_Table_int_Matches_1.s2, ↓cpos, ↓cpos2, Int.toNat_natCast, hx, wsucc, ih, feature_Subsumes_eq hM hw hr, Option.bind_some, List.filter_cons]
    cases subsP x.fwhen r <;> rfl) (by omega) ()

theorem find_eq (hM : 1048576 < M) {t : feature_Table_int} {r : List api_Feature} (hr : r.length ≤ 1048576) (ht : t.fentries.length ≤ 1048576) (he : ∀ e ∈ t.fentries, okE e) :
    feature_Table_int_Find M t r = some (((t.fentries.find? fun e => subsP e.fwhen r).map (·.fvalue)).getD 0, (t.fentries.find? fun e => subsP e.fwhen r).isSome) := by
  obtain ⟨k, rfl⟩ := Nat.exists_eq_succ_of_ne_zero (by omega : M ≠ 0)
  simp only [feature_Table_int_Find, feature_Table_int_Find.s, matches_eq hM hr ht he, Option.bind_some, Nat.succ_eq_add_one, feature_Table_int_Find.l1, feature_Table_int_Find.s1]
  rw [← List.head?_filter]
  cases t.fentries.filter fun e => subsP e.fwhen r <;> rfl

end Go.Ai.Pav
/-
  DERIVED: THE SHELF's CONTRACTS AT THIS DUMP, IN PLAIN WORDS (tools/lay-plain.mjs out of 'TrydShelf.lean', which tools/lay-shelf.mjs wrote): THE SAME DECLARATIONS UNDER THE SAME NAMES: 'import', 'namespace', 'open', 'def', 'theorem' AND NOTHING ELSE: no command of the shelf's: FOR A HAND-IN. Each laying: the table of numbers ('.._ren') and one theorem, a field a fact of the dump's own or the kernel's comparison; each contract: ONE APPLICATION.
-/
namespace Go.Proofs
open Go.Shelf
def Tryd.sortF_ren : Go.Shelf.Ren := ⟨fun | 6 => 39 | 15 => 51 | 14 => 50 | 28 => 63 | 29 => 64 | 20 => 55 | 21 => 56 | 22 => 57 | 23 => 58 | 24 => 59 | 25 => 60 | 26 => 61 | 27 => 62 | 46 => 67 | 47 => 68 | 48 => 69 | 49 => 70 | 50 => 71 | 57 => 72 | n => n, fun | 22 => 30 | 24 => 45 | 25 => 80 | 3 => 3 | 39 => 91 | 0 => 0 | 53 => 66 | 55 => 104 | 4 => 4 | 46 => 107 | 45 => 106 | 50 => 72 | 5 => 5 | 9 => 9 | 66 => 116 | 70 => 120 | 76 => 122 | 77 => 123 | n => n, fun | n => n⟩
theorem Tryd.sortF : Go.Proofs.SlLaysF0.n6 Tryd.prog Tryd.sortF_ren := {
  mixed := by kernel_rfl
  f6 := ⟨Tryd.f39.name, by decide, Tryd.func39.trans (congrArg some (by kernel_rfl))⟩
  f14 := ⟨Tryd.f50.name, by decide, Tryd.func50.trans (congrArg some (by kernel_rfl))⟩
  f15 := Tryd.func51.trans (congrArg some (by kernel_rfl))
  f20 := ⟨Tryd.f55.name, by decide, Tryd.func55.trans (congrArg some (by kernel_rfl))⟩
  f21 := ⟨Tryd.f56.name, by decide, Tryd.func56.trans (congrArg some (by kernel_rfl))⟩
  f22 := ⟨Tryd.f57.name, by decide, Tryd.func57.trans (congrArg some (by kernel_rfl))⟩
  f23 := ⟨Tryd.f58.name, by decide, Tryd.func58.trans (congrArg some (by kernel_rfl))⟩
  f24 := ⟨Tryd.f59.name, by decide, Tryd.func59.trans (congrArg some (by kernel_rfl))⟩
  f25 := ⟨Tryd.f60.name, by decide, Tryd.func60.trans (congrArg some (by kernel_rfl))⟩
  f26 := ⟨Tryd.f61.name, by decide, Tryd.func61.trans (congrArg some (by kernel_rfl))⟩
  f27 := ⟨Tryd.f62.name, by decide, Tryd.func62.trans (congrArg some (by kernel_rfl))⟩
  f28 := Tryd.func63.trans (congrArg some (by kernel_rfl))
  f29 := Tryd.func64.trans (congrArg some (by kernel_rfl))
  f46 := ⟨Tryd.f67.name, by decide, Tryd.func67.trans (congrArg some (by kernel_rfl))⟩
  f47 := Tryd.func68.trans (congrArg some (by kernel_rfl))
  f48 := Tryd.func69.trans (congrArg some (by kernel_rfl))
  f49 := ⟨Tryd.f70.name, by decide, Tryd.func70.trans (congrArg some (by kernel_rfl))⟩
  f50 := ⟨Tryd.f71.name, by decide, Tryd.func71.trans (congrArg some (by kernel_rfl))⟩
  f57 := ⟨Tryd.f72.name, by decide, Tryd.func72.trans (congrArg some (by kernel_rfl))⟩
  t0 := Tryd.underlying0
  a0 := Tryd.isAgg0
  z0 := Tryd.sizeOf0
  v0 := Tryd.zeroValue0
  t3 := Tryd.underlying3
  a3 := Tryd.isAgg3
  z3 := Tryd.sizeOf3
  v3 := Tryd.zeroValue3
  t4 := Tryd.underlying4
  a4 := Tryd.isAgg4
  z4 := Tryd.sizeOf4
  v4 := Tryd.zeroValue4
  t5 := Tryd.underlying5
  a5 := Tryd.isAgg5
  z5 := Tryd.sizeOf5
  v5 := Tryd.zeroValue5
  t9 := Tryd.underlying9
  a9 := Tryd.isAgg9
  z9 := Tryd.sizeOf9
  v9 := Tryd.zeroValue9
  t22 := Tryd.underlying30
  a22 := Tryd.isAgg30
  z22 := Tryd.sizeOf30
  v22 := Tryd.zeroValue30
  t25 := Tryd.underlying80
  a25 := Tryd.isAgg80
  z25 := Tryd.sizeOf80
  v25 := Tryd.zeroValue80
  t39 := Tryd.underlying91
  a39 := Tryd.isAgg91
  z39 := Tryd.sizeOf91
  v39 := Tryd.zeroValue91
  t45 := Tryd.underlying106
  a45 := Tryd.isAgg106
  z45 := Tryd.sizeOf106
  v45 := Tryd.zeroValue106
  t46 := Tryd.underlying107
  a46 := Tryd.isAgg107
  z46 := Tryd.sizeOf107
  v46 := Tryd.zeroValue107
  t50 := Tryd.underlying72
  a50 := Tryd.isAgg72
  z50 := Tryd.sizeOf72
  v50 := Tryd.zeroValue72
  t53 := Tryd.underlying66
  a53 := Tryd.isAgg66
  z53 := Tryd.sizeOf66
  v53 := Tryd.zeroValue66
  t55 := Tryd.underlying104
  a55 := Tryd.isAgg104
  z55 := Tryd.sizeOf104
  v55 := Tryd.zeroValue104
  t66 := Tryd.underlying116
  a66 := Tryd.isAgg116
  z66 := Tryd.sizeOf116
  v66 := Tryd.zeroValue116
  t70 := Tryd.underlying120
  a70 := Tryd.isAgg120
  z70 := Tryd.sizeOf120
  v70 := Tryd.zeroValue120
  t76 := Tryd.underlying122
  a76 := Tryd.isAgg122
  z76 := Tryd.sizeOf122
  v76 := Tryd.zeroValue122
  t77 := Tryd.underlying123
  a77 := Tryd.isAgg123
  z77 := Tryd.sizeOf123
  v77 := Tryd.zeroValue123 }
def Tryd.bitsLen2_ren : Go.Shelf.Ren := ⟨fun | 125 => 51 | 128 => 63 | 129 => 64 | n => n, fun | 46 => 91 | 3 => 3 | 51 => 66 | 53 => 104 | 4 => 4 | 5 => 5 | 9 => 9 | n => n, fun | n => n⟩
theorem Tryd.bitsLen2 : Go.Proofs.Lays.n125 Tryd.prog Tryd.bitsLen2_ren := {
  mixed := by kernel_rfl
  f125 := Tryd.func51.trans (congrArg some (by kernel_rfl))
  f128 := Tryd.func63.trans (congrArg some (by kernel_rfl))
  f129 := Tryd.func64.trans (congrArg some (by kernel_rfl))
  t3 := Tryd.underlying3
  a3 := Tryd.isAgg3
  z3 := Tryd.sizeOf3
  v3 := Tryd.zeroValue3
  t4 := Tryd.underlying4
  a4 := Tryd.isAgg4
  z4 := Tryd.sizeOf4
  v4 := Tryd.zeroValue4
  t5 := Tryd.underlying5
  a5 := Tryd.isAgg5
  z5 := Tryd.sizeOf5
  v5 := Tryd.zeroValue5
  t9 := Tryd.underlying9
  a9 := Tryd.isAgg9
  z9 := Tryd.sizeOf9
  v9 := Tryd.zeroValue9
  t46 := Tryd.underlying91
  a46 := Tryd.isAgg91
  z46 := Tryd.sizeOf91
  v46 := Tryd.zeroValue91
  t51 := Tryd.underlying66
  a51 := Tryd.isAgg66
  z51 := Tryd.sizeOf66
  v51 := Tryd.zeroValue66
  t53 := Tryd.underlying104
  a53 := Tryd.isAgg104
  z53 := Tryd.sizeOf104
  v53 := Tryd.zeroValue104 }
def Tryd.laysValid_ren : Go.Shelf.Ren := ⟨fun | 196 => 31 | 259 => 46 | n => n, fun | 9 => 9 | 4 => 4 | 3 => 3 | 5 => 5 | 12 => 12 | 119 => 87 | 0 => 0 | 46 => 91 | 139 => 90 | 138 => 89 | 53 => 104 | n => n, fun | 3 => 0 | 4 => 1 | n => n⟩
theorem Tryd.laysValid : Go.Proofs.Lays.n196 Tryd.prog Tryd.laysValid_ren := {
  mixed := by kernel_rfl
  f196 := Tryd.func31.trans (congrArg some (by kernel_rfl))
  f259 := Tryd.func46.trans (congrArg some (by kernel_rfl))
  t0 := Tryd.underlying0
  a0 := Tryd.isAgg0
  z0 := Tryd.sizeOf0
  v0 := Tryd.zeroValue0
  t3 := Tryd.underlying3
  a3 := Tryd.isAgg3
  z3 := Tryd.sizeOf3
  v3 := Tryd.zeroValue3
  t4 := Tryd.underlying4
  a4 := Tryd.isAgg4
  z4 := Tryd.sizeOf4
  v4 := Tryd.zeroValue4
  t5 := Tryd.underlying5
  a5 := Tryd.isAgg5
  z5 := Tryd.sizeOf5
  v5 := Tryd.zeroValue5
  t9 := Tryd.underlying9
  a9 := Tryd.isAgg9
  z9 := Tryd.sizeOf9
  v9 := Tryd.zeroValue9
  t12 := Tryd.underlying12
  a12 := Tryd.isAgg12
  z12 := Tryd.sizeOf12
  v12 := Tryd.zeroValue12
  t46 := Tryd.underlying91
  a46 := Tryd.isAgg91
  z46 := Tryd.sizeOf91
  v46 := Tryd.zeroValue91
  t53 := Tryd.underlying104
  a53 := Tryd.isAgg104
  z53 := Tryd.sizeOf104
  v53 := Tryd.zeroValue104
  t119 := Tryd.underlying87
  a119 := Tryd.isAgg87
  z119 := Tryd.sizeOf87
  t138 := Tryd.underlying89
  a138 := Tryd.isAgg89
  z138 := Tryd.sizeOf89
  v138 := Tryd.zeroValue89
  t139 := Tryd.underlying90
  a139 := Tryd.isAgg90
  z139 := Tryd.sizeOf90
  v139 := Tryd.zeroValue90
  g3 := by kernel_rfl
  g4 := by kernel_rfl }
end Go.Proofs
/- slices.SortFunc of features by name: its contract. -/
noncomputable section
namespace Go.Ai.Pav
open Go Go.Ai Go.Proofs Go.Lib Go.Sort Go.Shelf Go.RowKit
set_option maxHeartbeats 1000000

theorem isNaN52 (x : ByteArray) (W : World) : Calls Tryd.prog 52 #[.string x] W fun e w' => e = .returned (.bool false) ∧ w' = W := by
  go_enter Tryd.func52, Tryd.ntmps52
  go_wp2
  go_ret
  exact ⟨by simp, rfl⟩

def cmpL (a b : List UInt8) : Int := if Op.bytesLess a b then -1 else if !(Op.bytesLess a b || a == b) then 1 else 0
def cmpS (x y : ByteArray) : Int := cmpL x.toList y.toList
theorem cmpS_mk (a b : List UInt8) : cmpS ⟨a.toArray⟩ ⟨b.toArray⟩ = cmpL a b := by
  unfold cmpS
  rw [ByteArray.toList_eq, ByteArray.toList_eq]

theorem cmp41 (x y : ByteArray) (W : World) : Calls Tryd.prog 41 #[.string x, .string y] W fun e w' => e = .returned (.int .i64 (cmpS x y)) ∧ w' = W := by
  go_enter Tryd.func41, Tryd.ntmps41
  go_wp2_with (go_at_call 52; refine (isNaN52 _ _).mono ?_; rintro e w' ⟨rfl, hw⟩; rw [hw])
  all_goals (go_ret; refine ⟨?_, rfl⟩; unfold cmpS cmpL; simp_all)

theorem closure40 (x1 x2 y1 y2 : ByteArray) (W : World) : Calls Tryd.prog 40 #[.agg #[.string x1, .string x2], .agg #[.string y1, .string y2]] W fun e w' => e = .returned (.int .i64 (cmpS x1 y1)) ∧ ∃ q os', w' = grow (W.drewN q) os' := by
  have hcon := fun W' => cmp41 x1 y1 W'
  generalize cmpS x1 y1 = r at hcon ⊢
  go_enter Tryd.func40, Tryd.ntmps40
  go_wp2_with (go_at_call 41; refine (hcon _).mono ?_; rintro e w' ⟨rfl, rfl⟩)
  go_ret
  exact ⟨rfl, 0, _, by rw [alloc_eq_grow, alloc_eq_grow, grow_grow]; rfl⟩


def encF (x : api_Feature) : List Value := [.string ⟨x.fName.toArray⟩, .string ⟨x.fValue.toArray⟩]
def cmpF (x y : api_Feature) : Int := cmpL x.fName y.fName

theorem size_insInner {α : Type} [Inhabited α] (lt : α → α → Bool) (a : Nat) : ∀ (j : Nat) (d : Array α), (insInner lt a j d).size = d.size
  | 0, d => rfl
  | j + 1, d => by
    simp only [insInner]
    split
    · rw [size_insInner lt a j, size_swp]
    · rfl

theorem size_insOuter {α : Type} [Inhabited α] (lt : α → α → Bool) (a b : Nat) : ∀ (n i : Nat) (d : Array α), b - i = n → (insOuter lt a b i d).size = d.size
  | 0, i, d, h => by rw [insOuter, if_neg (by omega)]
  | n + 1, i, d, h => by rw [insOuter, if_pos (by omega), size_insOuter lt a b n (i + 1) _ (by omega), size_insInner]

def insN {α : Type} [Inhabited α] (lt : α → α → Bool) (a : Nat) : Nat → Nat → Array α → Array α
  | 0, _, d => d
  | n + 1, i, d => insN lt a n (i + 1) (insInner lt a i d)

theorem insOuter_eq {α : Type} [Inhabited α] (lt : α → α → Bool) (a b : Nat) : ∀ (n i : Nat) (d : Array α), b - i = n → insOuter lt a b i d = insN lt a n i d
  | 0, i, d, h => by rw [insOuter, if_neg (by omega)]; rfl
  | n + 1, i, d, h => by rw [insOuter, if_pos (by omega), insOuter_eq lt a b n (i + 1) _ (by omega)]; rfl

/-- Insertion sort by name, as slices.SortFunc does it for at most 12. -/
def sortFeatures (xs : List api_Feature) : Option (List api_Feature) := cond (decide (xs.length ≤ 12)) (some (insN (ltOf cmpF) 0 (xs.toArray.size - 1) 1 xs.toArray).toList) none

variable {fv : Nat → Value} {w w' : World} {F : Fz}

theorem rep_strV {l : List UInt8} {u : Value} (h : Rep (E := E.withFv fv) w F (.str l) u) : u = .string ⟨l.toArray⟩ := by
  cases h with
  | str s => simp

theorem flat_get (d : Array api_Feature) (q : Nat) (h : q < d.size * 2) : (flatK encF 2 d).toList[q]? = some ((encF d[q / 2]!)[q % 2]!) := by
  simp [flatK, h]

theorem row_flat {xs : List api_Feature} {L : List Value} (h : RowRep (E := E.withFv fv) w F (.st .api_Feature) xs L) : L = (flatK encF 2 xs.toArray).toList := by
  have hl : L.length = xs.length * 2 := h.1
  apply List.ext_getElem?
  intro q
  by_cases hq : q < xs.length * 2
  · rw [flat_get _ _ (by simpa using hq)]
    have hi : q / 2 < xs.length := by omega
    have hx : xs[q / 2]? = some xs[q / 2] := List.getElem?_eq_getElem hi
    have hx' : xs.toArray[q / 2]! = xs[q / 2] := by simp [hi]
    rw [hx']
    rcases Nat.mod_two_eq_zero_or_one q with hm | hm
    · obtain ⟨u, h1, h2⟩ := h.2 (q / 2) xs[q / 2] 0 (.str xs[q / 2].fName) hx rfl
      rw [hm]
      have : q / 2 * Ty.size (E.withFv fv) (.st .api_Feature) + 0 = q := by show q / 2 * 2 + 0 = q; omega
      rw [this] at h1
      rw [h1, rep_strV h2]
      rfl
    · obtain ⟨u, h1, h2⟩ := h.2 (q / 2) xs[q / 2] 1 (.str xs[q / 2].fValue) hx rfl
      rw [hm]
      have : q / 2 * Ty.size (E.withFv fv) (.st .api_Feature) + 1 = q := by show q / 2 * 2 + 1 = q; omega
      rw [this] at h1
      rw [h1, rep_strV h2]
      rfl
  · rw [List.getElem?_eq_none (by omega), List.getElem?_eq_none (by simp; omega)]

theorem flat_row (xs : List api_Feature) : RowRep (E := E.withFv fv) w F (.st .api_Feature) xs (flatK encF 2 xs.toArray).toList := by
  refine ⟨by simp; rfl, fun i x c l hx hl => ?_⟩
  have hi : i < xs.length := (List.getElem?_eq_some_iff.1 hx).1
  have hxi : xs.toArray[i]! = (x : api_Feature) := by
    have := (List.getElem?_eq_some_iff.1 hx).2
    rw [getElem!_pos xs.toArray i (by simpa using hi)]
    exact this
  have hl' : ([.str x.fName, .str x.fValue] : List (TV (E.withFv fv)))[c]? = some l := hl
  show ∃ u, (flatK encF 2 xs.toArray).toList[i * 2 + c]? = some u ∧ Rep w F l u
  match c, hl' with
  | 0, hl' =>
    cases hl'
    refine ⟨.string ⟨x.fName.toArray⟩, ?_, ?_⟩
    · rw [flat_get _ _ (by simp; omega), show (i * 2 + 0) / 2 = i by omega, show (i * 2 + 0) % 2 = 0 by omega, hxi]
      rfl
    · have := Rep.str (E := E.withFv fv) (w := w) (F := F) ⟨x.fName.toArray⟩
      simpa using this
  | 1, hl' =>
    cases hl'
    refine ⟨.string ⟨x.fValue.toArray⟩, ?_, ?_⟩
    · rw [flat_get _ _ (by simp; omega), show (i * 2 + 1) / 2 = i by omega, show (i * 2 + 1) % 2 = 1 by omega, hxi]
      rfl
    · have := Rep.str (E := E.withFv fv) (w := w) (F := F) ⟨x.fValue.toArray⟩
      simpa using this
  | c + 2, hl' => simp at hl'

theorem hlen (n : Nat) (W : World) (h : n ≤ 12) : Calls Tryd.prog 51 #[.int .u64 n] W fun e w' => (∃ l : Int, e = .returned (.int .i64 l)) ∧ w' = W :=
  (Any.bits_Len Tryd.bitsLen2 n W (by omega) (by omega)).mono fun _ _ ⟨he, hw⟩ => ⟨⟨_, he⟩, hw⟩

theorem ty45 (w : World) : (isAgg 45).run Tryd.prog w = .ok true w ∧ (Go.sizeOf 45).run Tryd.prog w = .ok 2 w := by
  obtain ⟨ti, hti, h1, h2⟩ : ∃ ti : TI E, tisE.lookup 45 = some ti ∧ ti.agg = true ∧ ti.size = 2 := ⟨_, rfl, rfl, rfl⟩
  obtain ⟨i, d, hT, _⟩ := tok_of (COk_Tryd (sig := fun _ => none) (it := fun _ => none) (nt := 0) (r1 := []) (r2 := [])) (t := 45) (ti := ti) hti
  refine ⟨?_, ?_⟩
  · rw [run_isAgg hT.under, hT.agg, h1]
  · rw [run_size hT.info, hT.size, h2]

theorem sort_call (blk cap : Nat) (d : Array api_Feature) (w : World) (hH : HoldsK encF 2 w blk 0 d) (hblk : blk < w.heap.size) (h12 : d.size ≤ 12) :
    Calls Tryd.prog 39 #[.slice (some ⟨blk, 0, none⟩) d.size cap, .func (.func 40) #[] #[]] w fun e w' => e = .returned (.tuple #[]) ∧ ∃ n os, w' = sortWorldK encF 2 w blk 0 n (insertionSort (ltOf cmpF) d 0 d.size) os := by
  have eg : ∀ args w, (callFunc 40 args).run Tryd.prog w = .ok (.enter 40 args) w := enters_of Tryd.func40 (by kernel_rfl) rfl
  exact AnyQ.slices_SortFunc_small Tryd.sortF 2 (fun w => (ty45 w).1) (fun w => (ty45 w).2) encF (fun _ => rfl) (fun x v hv => by simp [encF] at hv; rcases hv with rfl | rfl <;> rfl) cmpF 40 #[] blk 0 cap d w eg (fun _ _ _ _ x y => by have h := closure40 ⟨x.fName.toArray⟩ ⟨x.fValue.toArray⟩ ⟨y.fName.toArray⟩ ⟨y.fValue.toArray⟩; simp only [cmpS_mk] at h; exact h _) hH hblk h12 hlen

theorem sortFeatures_says : MutSays (E := E.withFv fv) Tryd.prog 39 40 45 (.st .api_Feature) sortFeatures := by
  refine ⟨by kernel_rfl, ?_⟩
  intro (xs : List api_Feature) (ys : List api_Feature) hxy w base F v L i hi hsz ho hr hF hFv hso hbase
  have hs2 : i.size = 2 := hsz
  unfold sortFeatures at hxy
  cases h12 : decide (xs.length ≤ 12) with
  | false => rw [h12] at hxy; cases hxy
  | true =>
    rw [h12] at hxy
    have h12 : xs.length ≤ 12 := of_decide_eq_true h12
    have hys : ys = (insertionSort (ltOf cmpF) xs.toArray 0 xs.toArray.size).toList := (Option.some.inj hxy).symm.trans (congrArg Array.toList (insOuter_eq (ltOf cmpF) 0 xs.toArray.size _ 1 xs.toArray rfl).symm)
    have hyl : ys.length = xs.length := by
      rw [hys, Array.length_toList]
      exact size_insOuter _ _ _ _ _ _ rfl
    have hya : ys.toArray = insertionSort (ltOf cmpF) xs.toArray 0 xs.toArray.size := by rw [hys, Array.toArray_toList]
    have hL := row_flat hr
    rw [hs2] at ho
    rcases ho.2 with ⟨hv, _⟩ | ⟨g, cap, cur, hv, hb, hg, hnc, hcm, hcs, htake⟩
    · rw [hv] at hso; cases hso
    · subst hv
      have hlt : g < w.heap.size := (Array.getElem?_eq_some_iff.1 hg).1
      have hH : HoldsK encF 2 w g 0 xs.toArray := by
        intro q hq
        have hq' : q < xs.length * 2 := by simpa using hq
        refine ⟨?_, ?_⟩
        · have h1 : L[q]? = some ((encF xs.toArray[q / 2]!)[q % 2]!) := by rw [hL]; exact flat_get _ _ (by simpa using hq')
          have h2 := ho.cells (g := g) rfl q _ h1
          rw [addr_add] at h2
          rw [h2, get_flatK _ _ _ _ (by simpa using hq')]
          rfl
        · simp [World.frozen?, hg]
      have hcall := sort_call g cap xs.toArray w hH hlt (by simpa using h12)
      rw [show xs.toArray.size = xs.length by simp] at hcall
      refine hcall.mono ?_
      rintro e w' ⟨rfl, n, os, rfl⟩
      rw [show insertionSort (ltOf cmpF) xs.toArray 0 xs.length = ys.toArray by rw [hya]; simp]
      have hheap : ∀ k, k < w.heap.size → (sortWorldK encF 2 w g 0 n ys.toArray os).heap[k]? = (w.heap[k]?).map fun o => if g = k then onCells (putCells id 0 (flatK encF 2 ys.toArray)) o else o := by
        intro k hk
        show ((w.heap.modify g (onCells (putCells id 0 (flatK encF 2 ys.toArray)))) ++ os)[k]? = _
        rw [Array.getElem?_append_left (by simpa using hk), Array.getElem?_modify]
        cases w.heap[k]? with
        | none => simp
        | some o => by_cases e : g = k <;> simp [e]
      have hnc : List.length (α := api_Feature) xs ≤ cap := hnc
      have htk : (putCells id 0 (flatK encF 2 ys.toArray) cur).toList.take (ys.length * 2) = (flatK encF 2 ys.toArray).toList := by
        have hc2 : ys.length * 2 ≤ cur.size := by rw [hyl, hcs]; exact Nat.mul_le_mul_right _ hnc
        apply List.ext_getElem?
        intro q
        by_cases hq : q < ys.length * 2
        · rw [List.getElem?_take_of_lt hq, flat_get _ _ (by simpa using hq), Array.getElem?_toList]
          simp only [putCells, Array.getElem?_mapIdx]
          rw [Array.getElem?_eq_getElem (show q < cur.size by omega)]
          simp only [Option.map_some, Nat.zero_le, true_and, Nat.zero_add, Nat.sub_zero, size_flatK, List.size_toArray, hq, if_true, id]
          rw [get_flatK _ _ _ _ (by simpa using hq)]
        · rw [List.getElem?_eq_none (by simp; omega), List.getElem?_eq_none (by simp; omega)]
      have hown : (sortWorldK encF 2 w g 0 n ys.toArray os).ownsRow base 45 2 (.slice (some ⟨g, 0, none⟩) (List.length (α := api_Feature) xs) cap) (List.length (α := api_Feature) ys) (flatK encF 2 ys.toArray).toList := by
        refine ⟨by simp, .inr ⟨g, cap, putCells id 0 (flatK encF 2 ys.toArray) cur, by rw [hyl], hb, ?_, by rw [hyl]; exact hnc, hcm, by simp [putCells, hcs], htk⟩⟩
        rw [hheap g hlt, hg]
        simp [onCells]
      refine ⟨rfl, ⟨rfl, rfl, rfl, ?_, ?_⟩, (flatK encF 2 ys.toArray).toList, ?_, flat_row ys⟩
      · show w.heap.size ≤ ((w.heap.modify g (onCells (putCells id 0 (flatK encF 2 ys.toArray)))) ++ os).size
        simp
      · intro k hk hne
        have hgk : g ≠ k := fun e => hne (by rw [e]; rfl)
        rw [hheap k hk]
        simp [hgk]
      · rw [hs2]
        exact hown

end Go.Ai.Pav
end
set_option linter.unusedVariables false
set_option linter.unusedSectionVars false
noncomputable section
namespace Go.Ai.Pav
open Go Go.Ai Go.Proofs
noncomputable def sigs38 (M : Nat) : List (Nat × Sig E) := []
noncomputable def rs38 (M : Nat) : List (Nat × Sig E) := []
noncomputable def its38 (M : Nat) : List (Nat × It E) := []
theorem sigs_ok38 (M : Nat) : SigsOk Tryd.prog (sigs38 M) := SigsOk.nil
theorem rs_ok38 (M : Nat) : SigsOk Tryd.prog (rs38 M) := SigsOk.nil
theorem its_ok38 (M : Nat) : ItsOk Tryd.prog (its38 M) := ItsOk.nil
noncomputable def C38 (fv : Nat → Value) (M : Nat) : Ctx (E.withFv fv) := { ti := fun t => (tis (fv := fv)).lookup t, sig := fun f => ((sigs38 M).lookup f).map fun S => S.withFv fv, it := fun f => ((its38 M).lookup f).map fun I => I.withFv fv, nt := 52, rowAt := [15, 17], frzAt := [21] }
theorem SigOk_C38 (fv : Nat → Value) (M : Nat) : SigOk Tryd.prog (C38 fv M) := (sigs_ok38 M).fv fv
theorem RSigOk_C38 (fv : Nat → Value) (M : Nat) : SigOk Tryd.prog ({ ti := fun _ => none, sig := fun f => ((rs38 M).lookup f).map fun S => S.withFv fv } : Ctx (E.withFv fv)) := (rs_ok38 M).fv fv
theorem ItOk_C38 (fv : Nat → Value) (M : Nat) : ItOk Tryd.prog (C38 fv M) := (its_ok38 M).fv fv
namespace feature_All_1_1
class Rec where
  V : (Int × (List api_Feature)) → Option (List ((List api_Feature)))
variable {fv : Nat → Value}
noncomputable def plans : List (Option (Plan Nm)) := [none, none, none, none, none, none, none, some { tmps := [(0, .asis), (1, .asis), (2, .asis), (4, .asis), (27, .asis), (28, .asis), (29, .asis)], boxes := [] }, none, none, none, none, none, none, none, none]
noncomputable abbrev body : Code := bodyOf Tryd.f38
def ts : List (Ty Nm) := [(.sl (.st .api_Feature))]
def cts : List (Ty Nm) := [(.sl (.st .api_Dimension))]
def ars : List (Ty Nm) := [(.int .i64), (.sl (.st .api_Feature))]
def ks : List CapK := [.val 1, .yld, .self]
noncomputable def inl : List (Nat × Nat × Nat × Inl Nm) := []
theorem inl_ok : InlsOk Tryd.prog inl := InlsOk.nil
variable [Rec]
noncomputable def X (fv : Nat → Value) (M : Nat) : Ext (E.withFv fv) (List ((List api_Feature)) × Bool) := extMut 39 40 45 (.st .api_Feature) (sortFeatures) (extOf (C38 fv M) (inlOf inl) (fun f => ((rs38 M).lookup f).map fun S => S.withFv fv) (yl01 (E := E.withFv fv) ars ts Rec.V) noX M 1)
abbrev Rt := List ((List api_Feature)) × Bool
noncomputable def H (fv : Nat → Value) (M : Nat) : Hd (E.withFv fv) Rt := hd0 (X fv M)
theorem Hok (fv : Nat → Value) (M : Nat) : (H fv M).ok (C38 fv M) M := hd0_ok _
abbrev Qt1 : List Dir := [.r, .r, .l, .r, .k]
abbrev Ht1 := (List api_Dimension) → (List api_Feature) → Int → Int → Option Rt
abbrev Zt (fv : Nat → Value) := List Dir → St (E.withFv fv) → Option Rt
abbrev Ut (fv : Nat → Value) := St (E.withFv fv) → Option Rt
noncomputable def s1 (M : Nat) (h1 : Ht1) (c0a0_0 : (List api_Dimension)) (chosena1_0 : (List api_Feature)) (ia0_0 : Int) (x29_1 : Int) : Option Rt :=
  cond (decide (x29_1 < (((c0a0_0.getD ia0_0.toNat default).fValues).length : Int)))
   (cond (decide (0 ≤ x29_1) && decide (x29_1 < (((c0a0_0.getD ia0_0.toNat default).fValues).length : Int)))
     (cond (decide (0 ≤ ia0_0) && (decide (ia0_0 ≤ (chosena1_0.length : Int)) && decide (ia0_0 = ia0_0)))
       (cond (decide (0 ≤ ia0_0) && decide (ia0_0 < (c0a0_0.length : Int)))
         (cond (decide (0 < ([api_Feature.mk ((c0a0_0.getD ia0_0.toNat default).fName) (((c0a0_0.getD ia0_0.toNat default).fValues).getD x29_1.toNat default)] : List api_Feature).length) && decide ((chosena1_0.take ia0_0.toNat).length + ([api_Feature.mk ((c0a0_0.getD ia0_0.toNat default).fName) (((c0a0_0.getD ia0_0.toNat default).fValues).getD x29_1.toNat default)] : List api_Feature).length ≤ lim))
           (Option.bind (Rec.V (IntKind.i64.wrap (ia0_0 + 1), (chosena1_0.take ia0_0.toNat) ++ [api_Feature.mk ((c0a0_0.getD ia0_0.toNat default).fName) (((c0a0_0.getD ia0_0.toNat default).fValues).getD x29_1.toNat default)])) fun rv38_6 =>
            emits2 rv38_6
             (cond (!true)
               (some ([], false))
               (h1 c0a0_0 chosena1_0 ia0_0 (IntKind.i64.wrap (x29_1 + 1))))
             (cond (!false)
               (some ([], false))
               (h1 c0a0_0 chosena1_0 ia0_0 (IntKind.i64.wrap (x29_1 + 1)))))
           none)
         none)
       none)
     none)
   (some ([], true))
noncomputable def l1 (M : Nat) : Nat → Ht1
  | 0, _, _, _, _ => none
  | k + 1, c0a0_0, chosena1_0, ia0_0, x29_1 => s1 M (l1 M k) c0a0_0 chosena1_0 ia0_0 x29_1
noncomputable def s (M : Nat) (h1 : Ht1) (ia0_0 : Int) (chosena1_0 : (List api_Feature)) (c0a0_0 : (List api_Dimension)) : Option Rt :=
  cond (decide (ia0_0 = (c0a0_0.length : Int)))
   (cond (decide (([] : List api_Feature).length + chosena1_0.length ≤ lim))
     (Option.bind (sortFeatures (([] : List api_Feature) ++ chosena1_0)) fun ry39_2 =>
      emit2 ry39_2
       (some ([], true))
       (some ([], false)))
     none)
   (cond (decide (0 ≤ ia0_0) && decide (ia0_0 < (c0a0_0.length : Int)))
     (h1 c0a0_0 chosena1_0 ia0_0 0)
     none)
end feature_All_1_1
noncomputable def feature_All_1_1 [feature_All_1_1.Rec] (M : Nat) (ia0_0 : Int) (chosena1_0 : (List api_Feature)) (c0a0_0 : (List api_Dimension)) : Option (List ((List api_Feature)) × Bool) :=
  feature_All_1_1.s M (feature_All_1_1.l1 M M) ia0_0 chosena1_0 c0a0_0
namespace feature_All_1_1
variable [Rec]
variable {fv : Nat → Value}
noncomputable def S1 (c0a0_0 : (List api_Dimension)) (chosena1_0 : (List api_Feature)) (ia0_0 : Int) (x29_1 : Int) : St (E.withFv fv) :=
  mkSt 52 52 [(0, .one (.tv (.int .i64 ia0_0))), (1, .one (.tv (.sl (.st .api_Feature) chosena1_0))), (2, .one (.fptr [.sl (.st .api_Dimension) c0a0_0])), (4, .one (.fptr [.spec 1])), (27, .one (.tv (.sl .str ((c0a0_0.getD ia0_0.toNat default).fValues)))), (28, .one (.tv (.int .i64 (((c0a0_0.getD ia0_0.toNat default).fValues).length : Int)))), (29, .one (.tv (.int .i64 x29_1)))] [] 0 [] [] false
noncomputable def K (M : Nat) : Cont (E.withFv fv) (List ((List api_Feature)) × Bool) := kBool (C38 fv M) Tryd.f38.results.toList
noncomputable abbrev zA (fv : Nat → Value) (M : Nat) (ZL : List Dir → Option (Ut fv)) (q : List Dir) : Ut fv := zAt (C38 fv M) (H fv M) M 0 ZL body plans (K (fv := fv) M) q
noncomputable abbrev lA (fv : Nat → Value) (M : Nat) (ZL : List Dir → Option (Ut fv)) (q : List Dir) (k : Nat) : Ut fv := lpAt (C38 fv M) (H fv M) M 0 ZL body plans (K (fv := fv) M) q k
noncomputable abbrev gA (fv : Nat → Value) (M : Nat) (Z : Zt fv) (q : List Dir) : Ut fv := seg (C38 fv M) (H fv M) 0 Z body plans (K (fv := fv) M) q
set_option maxRecDepth 100000
theorem g1 (M : Nat) (Z : Zt fv) (c0a0_0 : (List api_Dimension)) (chosena1_0 : (List api_Feature)) (ia0_0 : Int) (x29_1 : Int) : gA fv M Z Qt1 (S1 c0a0_0 chosena1_0 ia0_0 x29_1) = s1 M
    (fun c0a0_0 chosena1_0 ia0_0 x29_1 => Z Qt1 (S1 c0a0_0 chosena1_0 ia0_0 x29_1)) c0a0_0 chosena1_0 ia0_0 x29_1 := by kernel_rfl
theorem g (M : Nat) (Z : Zt fv) (ia0_0 : Int) (chosena1_0 : (List api_Feature)) (c0a0_0 : (List api_Dimension)) : runZ (C38 fv M) (extZ (C38 fv M) (H fv M) 0) Z body plans (start (argHs (E := E.withFv fv) ars (ia0_0, chosena1_0) ++ capHK ks (viewTup (E := E.withFv fv) cts c0a0_0)) Tryd.f38.ntmps 52) (K (fv := fv) M) = s M
    (fun c0a0_0 chosena1_0 ia0_0 x29_1 => Z Qt1 (S1 c0a0_0 chosena1_0 ia0_0 x29_1)) ia0_0 chosena1_0 c0a0_0 := by kernel_rfl
theorem el1 (M : Nat) (k : Nat) (c0a0_0 : (List api_Dimension)) (chosena1_0 : (List api_Feature)) (ia0_0 : Int) (x29_1 : Int) : lA fv M (zlq Qt1 []) Qt1 k (S1 c0a0_0 chosena1_0 ia0_0 x29_1) = l1 M k c0a0_0 chosena1_0 ia0_0 x29_1 := by
  induction k generalizing c0a0_0 chosena1_0 ia0_0 x29_1 with
  | zero => kernel_rfl
  | succ k ih =>
    refine Eq.trans (b := lA fv M (zlq Qt1 [lA fv M (zlq Qt1 []) Qt1 k]) Qt1 (k + 1) (S1 c0a0_0 chosena1_0 ia0_0 x29_1)) (by kernel_rfl) ?_
    refine (seg_loop (Hok fv M) 0 Qt1 body plans (K (fv := fv) M) _ (S1 c0a0_0 chosena1_0 ia0_0 x29_1) (around_zlq _ _ (by kernel_rfl)) (by kernel_rfl) (by kernel_rfl)).trans ?_
    refine (g1 M _ c0a0_0 chosena1_0 ia0_0 x29_1).trans ?_
    have x0 := (funext fun c0a0_0 => funext fun chosena1_0 => funext fun ia0_0 => funext fun x29_1 => Eq.trans (b := lA fv M (zlq Qt1 []) Qt1 k (S1 c0a0_0 chosena1_0 ia0_0 x29_1)) (by kernel_rfl) (ih c0a0_0 chosena1_0 ia0_0 x29_1) : (fun c0a0_0 chosena1_0 ia0_0 x29_1 => zA fv M (zlq Qt1 [lA fv M (zlq Qt1 []) Qt1 k]) Qt1 (S1 c0a0_0 chosena1_0 ia0_0 x29_1)) = l1 M k)
    rw [x0]; rfl
theorem e1 (M : Nat) (c0a0_0 : (List api_Dimension)) (chosena1_0 : (List api_Feature)) (ia0_0 : Int) (x29_1 : Int) : zA fv M (zlq Qt1 []) Qt1 (S1 c0a0_0 chosena1_0 ia0_0 x29_1) = l1 M M c0a0_0 chosena1_0 ia0_0 x29_1 :=
  Eq.trans (b := lA fv M (zlq Qt1 []) Qt1 M (S1 c0a0_0 chosena1_0 ia0_0 x29_1)) (by kernel_rfl) (el1 M M c0a0_0 chosena1_0 ia0_0 x29_1)
theorem run (M : Nat) (ia0_0 : Int) (chosena1_0 : (List api_Feature)) (c0a0_0 : (List api_Dimension)) : runC (C38 fv M) (X fv M) M body plans (start (argHs (E := E.withFv fv) ars (ia0_0, chosena1_0) ++ capHK ks (viewTup (E := E.withFv fv) cts c0a0_0)) Tryd.f38.ntmps 52) (K (fv := fv) M) = feature_All_1_1 M ia0_0 chosena1_0 c0a0_0 := by
  refine (zrun (Hok fv M) 0 body plans _ (K (fv := fv) M) (fun _ => none) fun _ => rfl).symm.trans ?_
  refine (g M _ ia0_0 chosena1_0 c0a0_0).trans ?_
  have x0 := (funext fun c0a0_0 => funext fun chosena1_0 => funext fun ia0_0 => funext fun x29_1 => Eq.trans (b := zA fv M (zlq Qt1 []) Qt1 (S1 c0a0_0 chosena1_0 ia0_0 x29_1)) (by kernel_rfl) (e1 M c0a0_0 chosena1_0 ia0_0 x29_1) : (fun c0a0_0 chosena1_0 ia0_0 x29_1 => zA fv M (fun _ => none) Qt1 (S1 c0a0_0 chosena1_0 ia0_0 x29_1)) = l1 M M)
  rw [x0]; rfl
end feature_All_1_1
namespace feature_All_1_1
noncomputable def V (M : Nat) : Nat → (List api_Dimension) → (List api_Dimension) → (Int × (List api_Feature)) → Option (List ((List api_Feature)))
  | 0, _, _, _ => none
  | k + 1, y0, y, x => match @feature_All_1_1 ⟨V M k y y⟩ M x.1 x.2 y0 with
    | some (es, true) => some es
    | _ => none
theorem emx (M : Nat) : ∀ k, EmX (E := E) Tryd.prog 38 ks cts ars ts (V M k)
  | 0 => ⟨by kernel_rfl, fun l y0 y x es rest B base w fn F vs lb0 lb h => by cases h⟩
  | k + 1 => by
    refine emX_of_run (E := E) (C := fun fv => C38 fv M) (M := M) (q := 52) (plans := plans) (ks := ks) (body := body) (Xy := fun y fv => @X ⟨V M k y y⟩ fv M) (fun fv => COk_Trydv) (fun fv => SigOk_C38 fv M) (fun fv => ItOk_C38 fv M) (by kernel_rfl) (by kernel_rfl) Tryd.func38 (by kernel_rfl) (fun y0 y x es h fv => ?_) (fun fv l lb y W FW h0 h1 hc B hY hW => ?_)
    · have h1 : @feature_All_1_1 ⟨V M k y y⟩ M x.1 x.2 y0 = some (es, true) := by
        have h2 : (match @feature_All_1_1 ⟨V M k y y⟩ M x.1 x.2 y0 with | some (es, true) => some es | _ => none) = some es := h
        split at h2
        · rename_i e
          cases h2
          exact e
        · cases h2
      obtain ⟨ia0_0, chosena1_0⟩ := x
      exact (@run ⟨V M k y y⟩ fv M ia0_0 chosena1_0 y0).trans h1
    · exact callOk_mut (sortFeatures_says (fv := fv)) (callOk_em COk_Trydv (SigOk_C38 fv M) (ItOk_C38 fv M) (by kernel_rfl) inl_ok.ok (RSigOk_C38 fv M) M 1 (fun _ => callOk_none) (emx M k) h0 h1 hc B hY hW)
end feature_All_1_1
end Go.Ai.Pav
end
set_option linter.unusedVariables false
set_option linter.unusedSectionVars false
noncomputable section
namespace Go.Ai.Pav
open Go Go.Ai Go.Proofs
noncomputable def sigs36 (M : Nat) : List (Nat × Sig E) := [(37, feature_dimensions.sig M)]
noncomputable def rs36 (M : Nat) : List (Nat × Sig E) := []
noncomputable def its36 (M : Nat) : List (Nat × It E) := []
theorem sigs_ok36 (M : Nat) : SigsOk Tryd.prog (sigs36 M) := SigsOk.cons (feature_dimensions.says M) (SigsOk.nil)
theorem rs_ok36 (M : Nat) : SigsOk Tryd.prog (rs36 M) := SigsOk.nil
theorem its_ok36 (M : Nat) : ItsOk Tryd.prog (its36 M) := ItsOk.nil
noncomputable def C36 (fv : Nat → Value) (M : Nat) : Ctx (E.withFv fv) := { ti := fun t => (tis (fv := fv)).lookup t, sig := fun f => ((sigs36 M).lookup f).map fun S => S.withFv fv, it := fun f => ((its36 M).lookup f).map fun I => I.withFv fv, nt := 10 }
theorem SigOk_C36 (fv : Nat → Value) (M : Nat) : SigOk Tryd.prog (C36 fv M) := (sigs_ok36 M).fv fv
theorem RSigOk_C36 (fv : Nat → Value) (M : Nat) : SigOk Tryd.prog ({ ti := fun _ => none, sig := fun f => ((rs36 M).lookup f).map fun S => S.withFv fv } : Ctx (E.withFv fv)) := (rs_ok36 M).fv fv
theorem ItOk_C36 (fv : Nat → Value) (M : Nat) : ItOk Tryd.prog (C36 fv M) := (its_ok36 M).fv fv
namespace feature_All_1
variable {fv : Nat → Value}
noncomputable def plans : List (Option (Plan Nm)) := [none, none, none, none, none]
noncomputable abbrev body : Code := bodyOf Tryd.f36
def ts : List (Ty Nm) := [(.sl (.st .api_Feature))]
def cts : List (Ty Nm) := [(.sl (.st .api_Dimension))]
def shape : List Nat := [1]
noncomputable def inl : List (Nat × Nat × Nat × Inl Nm) := []
theorem inl_ok : InlsOk Tryd.prog inl := InlsOk.nil
noncomputable def X (fv : Nat → Value) (M : Nat) : Ext (E.withFv fv) (List ((List api_Feature))) := extRec (E := E.withFv fv) 38 feature_All_1_1.ks feature_All_1_1.cts feature_All_1_1.ars feature_All_1_1.ts (feature_All_1_1.V M M) (extOf (C36 fv M) (inlOf inl) (fun f => ((rs36 M).lookup f).map fun S => S.withFv fv) (ylOf ts) noX M 1)
abbrev Rt := List ((List api_Feature))
noncomputable def H (fv : Nat → Value) (M : Nat) : Hd (E.withFv fv) Rt := hd0 (X fv M)
theorem Hok (fv : Nat → Value) (M : Nat) : (H fv M).ok (C36 fv M) M := hd0_ok _
abbrev Zt (fv : Nat → Value) := List Dir → St (E.withFv fv) → Option Rt
abbrev Ut (fv : Nat → Value) := St (E.withFv fv) → Option Rt
noncomputable def s (M : Nat) (c0a0_0 : (List api_Dimension)) : Option Rt :=
  Option.bind (feature_dimensions M c0a0_0) fun r5_2 =>
  cond (!r5_2)
   (some [])
   (Option.bind (feature_All_1_1.V M M c0a0_0 c0a0_0 (0, ([] : (List api_Feature)))) fun rv38_3 =>
    emits rv38_3
     (some [])
     (some []))
end feature_All_1
noncomputable def feature_All_1 (M : Nat) (c0a0_0 : (List api_Dimension)) : Option (List ((List api_Feature))) :=
  feature_All_1.s M c0a0_0
namespace feature_All_1
variable {fv : Nat → Value}
noncomputable def K (M : Nat) : Cont (E.withFv fv) (List ((List api_Feature))) := kEnd (C36 fv M) Tryd.f36.results.toList
set_option maxRecDepth 100000
theorem g (M : Nat) (Z : Zt fv) (c0a0_0 : (List api_Dimension)) : runZ (C36 fv M) (extZ (C36 fv M) (H fv M) 0) Z body plans (start (.one (.tv (.spec 0)) :: capHs shape (viewTup (E := E.withFv fv) cts c0a0_0)) Tryd.f36.ntmps 10) (K (fv := fv) M) = s M c0a0_0 := by kernel_rfl
theorem run (M : Nat) (c0a0_0 : (List api_Dimension)) : runC (C36 fv M) (X fv M) M body plans (start (.one (.tv (.spec 0)) :: capHs shape (viewTup (E := E.withFv fv) cts c0a0_0)) Tryd.f36.ntmps 10) (K (fv := fv) M) = feature_All_1 M c0a0_0 := by
  refine (zrun (Hok fv M) 0 body plans _ (K (fv := fv) M) (fun _ => none) fun _ => rfl).symm.trans ?_
  refine (g M _ c0a0_0).trans ?_
  rfl
noncomputable def it (M : Nat) : It E := { ts := ts, cts := cts, shape := shape, fn := fun x => feature_All_1 M x }
theorem says (M : Nat) : ItSays Tryd.prog 36 (it M) := by
  refine ⟨by kernel_rfl, fun y xs h w0 F0 lb hF hT hc => ?_⟩
  refine seqX_of_run2 (E := E) (ts := ts) (cts := cts) (C := fun fv => C36 fv M) (X := fun fv => X fv M) (M := M) (q := 10) (plans := plans) (y := y) (fun fv => COk_Trydv) (fun fv => SigOk_C36 fv M) (fun fv => ItOk_C36 fv M) (by kernel_rfl) (fun fv l h0 B hB => callOk_rec (feature_All_1_1.emx M M) h0 hB (callOk_yl COk_Trydv (SigOk_C36 fv M) (ItOk_C36 fv M) (by kernel_rfl) inl_ok.ok (RSigOk_C36 fv M) (fun _ => callOk_none) M 1 B hB)) (Tryd.func36) (body := body) (by kernel_rfl) (fun fv => ?_) hT hc
  exact (run (fv := fv) M y).trans h
end feature_All_1
end Go.Ai.Pav
end
namespace Go.Ai.Pav
open Go Go.Ai Go.Sort Go.Shelf Go.Proofs Go.Lib Go.RowKit
variable {M : Nat}

/-! ### Insertion sort on lists -/
def insRev {α : Type} (f : α → α → Bool) (x : α) : List α → List α → List α
  | [], post => x :: post
  | y :: r, post => cond (f x y) (insRev f x r (y :: post)) ((y :: r).reverse ++ x :: post)

theorem insRev_post {α : Type} (f : α → α → Bool) (x : α) : ∀ (r post : List α), insRev f x r post = insRev f x r [] ++ post
  | [], post => rfl
  | y :: r, post => by
    simp only [insRev]
    cases f x y with
    | true => simp only [cond_true]; rw [insRev_post f x r (y :: post), insRev_post f x r [y]]; simp
    | false => simp

theorem insInner_list {α : Type} [Inhabited α] (f : α → α → Bool) (x : α) : ∀ (r post : List α), insInner f 0 r.length (r.reverse ++ x :: post).toArray = (insRev f x r post).toArray
  | [], post => rfl
  | y :: r, post => by
    have hn : (y :: r).length = r.length + 1 := rfl
    rw [hn]
    simp only [insInner, insRev]
    have e1 : ((y :: r).reverse ++ x :: post).toArray[r.length + 1]! = x := by
      have : ((y :: r).reverse ++ x :: post)[r.length + 1]? = some x := by rw [List.getElem?_append_right (by simp)]; simp
      simp [this]
    have e2 : ((y :: r).reverse ++ x :: post).toArray[r.length]! = y := by
      have : ((y :: r).reverse ++ x :: post)[r.length]? = some y := by rw [List.getElem?_append_left (by simp)]; simp
      simp [this]
    rw [e1, e2]
    have e3 : (decide (r.length + 1 > 0) && f x y) = f x y := by simp
    rw [e3]
    cases hf : f x y with
    | false => simp
    | true =>
      simp only [if_true, cond_true]
      rw [← insInner_list f x r (y :: post)]
      congr 1
      unfold swp
      rw [e1, e2]
      apply Array.ext'
      simp only [List.setIfInBounds_toArray]
      have h1 : ((y :: r).reverse ++ x :: post).set (r.length + 1) y = (y :: r).reverse ++ y :: post := by
        rw [List.set_append_right _ _ (by simp)]; simp
      rw [h1]
      have h2 : (y :: r).reverse ++ y :: post = r.reverse ++ y :: y :: post := by simp
      rw [h2, List.set_append_right _ _ (by simp)]
      simp

theorem insRev_length {α : Type} (f : α → α → Bool) (x : α) : ∀ (r post : List α), (insRev f x r post).length = r.length + post.length + 1
  | [], post => by simp [insRev]
  | y :: r, post => by
    simp only [insRev]
    cases f x y with
    | true => simp only [cond_true, insRev_length f x r (y :: post), List.length_cons]; omega
    | false => simp; omega

def sortL {α : Type} (f : α → α → Bool) (acc : List α) : List α → List α
  | [] => acc
  | x :: r => sortL f (insRev f x acc.reverse []) r

theorem insN_list {α : Type} [Inhabited α] (f : α → α → Bool) : ∀ (rest acc : List α), insN f 0 rest.length acc.length (acc ++ rest).toArray = (sortL f acc rest).toArray
  | [], acc => by simp [insN, sortL]
  | x :: rest, acc => by
    simp only [List.length_cons, insN, sortL]
    have h := insInner_list f x acc.reverse rest
    rw [List.reverse_reverse, List.length_reverse] at h
    rw [h, insRev_post]
    have hl : (insRev f x acc.reverse []).length = acc.length + 1 := by rw [insRev_length]; simp
    rw [← hl]
    exact insN_list f rest _

def sortF (xs : List api_Feature) : List api_Feature := sortL (ltOf cmpF) [] xs

theorem sortFeatures_eq {xs : List api_Feature} (h : xs.length ≤ 12) : sortFeatures xs = some (sortF xs) := by
  unfold sortFeatures
  rw [cpos h]
  cases xs with
  | nil => rfl
  | cons x xs =>
    have := insN_list (ltOf cmpF) xs [x]
    simp only [List.length_singleton, List.singleton_append] at this
    simp only [List.size_toArray, List.length_cons, Nat.add_sub_cancel]
    rw [this]
    rfl

theorem ltOf_cmpF (x y : api_Feature) : ltOf cmpF x y = ltB x y := by
  unfold ltOf cmpF cmpL ltB
  cases Op.bytesLess x.fName y.fName with
  | true => rfl
  | false => simp only [Bool.false_eq_true, if_false]; split <;> rfl

theorem put_append {x : api_Feature} : ∀ {a b : List api_Feature}, (∀ e ∈ a, ltB e x = true) → put (a ++ b) x = a ++ put b x
  | [], b, _ => rfl
  | e :: a, b, h => by
    simp only [List.cons_append, put, h e (by simp), cond_true]
    rw [put_append fun e he => h e (List.mem_cons_of_mem _ he)]

theorem put_first {x : api_Feature} : ∀ {b : List api_Feature}, (∀ e ∈ b, ltB x e = true) → put b x = x :: b
  | [], _ => rfl
  | e :: b, h => put_front b (h e (by simp))

/-- Insertion from behind is insertion from the front, in a record without the name. -/
theorem insRev_put {x : api_Feature} : ∀ {r post : List api_Feature}, Asc (r.reverse ++ post) → (∀ e ∈ r, e.fName ≠ x.fName) → (∀ e ∈ post, ltB x e = true) → insRev (ltOf cmpF) x r post = put (r.reverse ++ post) x
  | [], post, _, _, hp => (put_first hp).symm
  | y :: r, post, ha, hn, hp => by
    simp only [insRev, ltOf_cmpF]
    cases hxy : ltB x y with
    | true =>
      simp only [cond_true]
      rw [insRev_put (r := r) (post := y :: post) (by simpa using ha) (fun e he => hn e (List.mem_cons_of_mem _ he)) (fun e he => by
        rcases List.mem_cons.1 he with rfl | he
        · exact hxy
        · exact hp e he)]
      simp
    | false =>
      simp only [cond_false]
      have hyx : ltB y x = true := by
        cases h : ltB y x with
        | true => rfl
        | false => exact absurd (bl_tri h hxy) (hn y (by simp))
      rw [put_append, put_first hp]
      intro e he
      rw [List.reverse_cons, List.mem_append] at he
      rcases he with he | he
      · refine bl_trans ?_ hyx
        have := List.pairwise_append.1 (by simpa using ha : Asc (r.reverse ++ y :: post))
        exact this.2.2 e he y (by simp)
      · simp at he; rw [he]; exact hyx

theorem put_asc {x : api_Feature} : ∀ {r : List api_Feature}, Asc r → (∀ e ∈ r, e.fName ≠ x.fName) → Asc (put r x)
  | [], _, _ => List.pairwise_singleton _ _
  | e :: r, ha, hn => by
    obtain ⟨h1, h2⟩ := List.pairwise_cons.1 ha
    simp only [put]
    cases hex : ltB e x with
    | true =>
      simp only [cond_true]
      refine List.pairwise_cons.2 ⟨fun y hy => ?_, put_asc h2 fun e he => hn e (List.mem_cons_of_mem _ he)⟩
      rcases put_mem.1 hy with rfl | hy
      · exact hex
      · exact h1 y hy
    | false =>
      simp only [cond_false]
      have hxe : ltB x e = true := by
        cases h : ltB x e with
        | true => rfl
        | false => exact absurd (bl_tri hex h) (hn e (by simp))
      refine List.pairwise_cons.2 ⟨fun y hy => ?_, ha⟩
      rcases List.mem_cons.1 hy with rfl | hy
      · exact hxe
      · exact bl_trans hxe (h1 y hy)

/-- A record out of features with distinct names. -/
def rec (c : List api_Feature) : List api_Feature := c.foldl put []

theorem foldl_put_mem {x : api_Feature} : ∀ {c acc : List api_Feature}, x ∈ c.foldl put acc ↔ x ∈ c ∨ x ∈ acc
  | [], acc => by simp
  | y :: c, acc => by
    rw [List.foldl_cons, foldl_put_mem, put_mem]
    simp only [List.mem_cons]
    constructor
    · rintro (h | h | h) <;> simp [h]
    · rintro ((h | h) | h) <;> simp [h]

def Distinct (c : List api_Feature) : Prop := c.Pairwise fun x y => x.fName ≠ y.fName

theorem sortL_put : ∀ {c acc : List api_Feature}, Asc acc → Distinct c → (∀ e ∈ acc, ∀ f ∈ c, e.fName ≠ f.fName) → sortL (ltOf cmpF) acc c = c.foldl put acc ∧ Asc (c.foldl put acc)
  | [], acc, ha, _, _ => ⟨rfl, ha⟩
  | x :: c, acc, ha, hd, hn => by
    obtain ⟨h1, h2⟩ := List.pairwise_cons.1 hd
    have hx : ∀ e ∈ acc, e.fName ≠ x.fName := fun e he => hn e he x (by simp)
    have e := insRev_put (x := x) (r := acc.reverse) (post := []) (by simpa using ha) (fun e he => hx e (by simpa using he)) (fun e he => by cases he)
    simp only [List.reverse_reverse, List.append_nil] at e
    simp only [sortL, List.foldl_cons, e]
    refine sortL_put (put_asc ha hx) h2 fun e he f hf => ?_
    rcases put_mem.1 he with rfl | he
    · exact h1 f hf
    · exact hn e he f (List.mem_cons_of_mem _ hf)

theorem sortF_rec {c : List api_Feature} (h : Distinct c) : sortF c = rec c := (sortL_put List.Pairwise.nil h (fun e he => by cases he)).1
theorem rec_asc {c : List api_Feature} (h : Distinct c) : Asc (rec c) := (sortL_put List.Pairwise.nil h (fun e he => by cases he)).2
theorem rec_mem {x : api_Feature} {c : List api_Feature} : x ∈ rec c ↔ x ∈ c := by unfold rec; rw [foldl_put_mem]; simp

end Go.Ai.Pav
set_option linter.unusedVariables false
set_option linter.unusedSectionVars false
noncomputable section
namespace Go.Ai.Pav
open Go Go.Ai Go.Proofs
noncomputable def sigs12 (M : Nat) : List (Nat × Sig E) := []
noncomputable def rs12 (M : Nat) : List (Nat × Sig E) := []
noncomputable def its12 (M : Nat) : List (Nat × It E) := [(36, feature_All_1.it M)]
theorem sigs_ok12 (M : Nat) : SigsOk Tryd.prog (sigs12 M) := SigsOk.nil
theorem rs_ok12 (M : Nat) : SigsOk Tryd.prog (rs12 M) := SigsOk.nil
theorem its_ok12 (M : Nat) : ItsOk Tryd.prog (its12 M) := ItsOk.cons (feature_All_1.says M) (ItsOk.nil)
noncomputable def C12 (M : Nat) : Ctx E := { ti := fun t => tisE.lookup t, sig := fun f => (sigs12 M).lookup f, it := fun f => (its12 M).lookup f, nt := 24 }
theorem SigOk_C12 (M : Nat) : SigOk Tryd.prog (C12 M) := sigs_ok12 M
theorem RSigOk_C12 (M : Nat) : SigOk Tryd.prog ({ ti := fun _ => none, sig := fun f => (rs12 M).lookup f } : Ctx E) := rs_ok12 M
theorem ItOk_C12 (M : Nat) : ItOk Tryd.prog (C12 M) := (its_ok12 M).ok
namespace paradigm_Count
noncomputable def plans : List (Option (Plan Nm)) := [none, none, some { tmps := [(1, .asis), (2, .asis)], boxes := [(1, [.asis, .asis, .asis]), (2, [.asis])] }, none, none, some { tmps := [(2, .asis), (3, .asis), (11, .asis), (12, .asis), (13, .asis)], boxes := [(2, [.asis]), (1, [.asis, .asis, .asis])], outs := [(1, .asis), (2, .asis)] }, none, none, none, none, none, none, none, none]
noncomputable abbrev body : Code := bodyOf Tryd.f12
def ps : List (Ty Nm) := [(.st .api_Paradigm)]
def rs : List (Ty Nm) := [(.int .i64)]
def ex : List (Option Nat) := [none]
noncomputable def inl : List (Nat × Nat × Nat × Inl Nm) := [(0, 8, 22, { off := 24, ntmps := Tryd.f22.ntmps, body := bodyOf Tryd.f22, res := Tryd.f22.results.toList, plans := [] })]
theorem inl_ok : InlsOk Tryd.prog inl := InlsOk.cons ⟨by kernel_rfl, _, Tryd.func22, by kernel_rfl, rfl, rfl⟩ (InlsOk.nil)
noncomputable def X (M : Nat) : Ext E Int := extOf (C12 M) (inlOf inl) (fun f => (rs12 M).lookup f) (fun _ _ _ => none) noX M 2
abbrev Rt := Int
noncomputable def H (M : Nat) : Hd E Rt := hd0 (X M)
theorem Hok (M : Nat) : (H M).ok (C12 M) M := hd0_ok _
abbrev Qt2 : List Dir := [.r, .l, .r, .k, .L, .k, .r, .l, .r, .k]
abbrev Ht2 := api_Paradigm → (List ((List api_Feature))) → Int → Int → Option Rt
abbrev Qt1 : List Dir := [.r, .l, .r, .k]
abbrev Ht1 := api_Paradigm → (List ((List api_Feature))) → Option Rt
abbrev Zt := List Dir → St E → Option Rt
abbrev Ut := St E → Option Rt
noncomputable def s2 (M : Nat) (h2 : Ht2) (pa0_0 : api_Paradigm) (xs900_1 : List ((List api_Feature))) (n3_2 : Int) (x13_2 : Int) : Option Rt :=
  cond (decide (x13_2 < (pa0_0.fDimensions.length : Int)))
   (cond (decide (0 ≤ x13_2) && decide (x13_2 < (pa0_0.fDimensions.length : Int)))
     (h2 pa0_0 xs900_1 (IntKind.i64.wrap (n3_2 * (((pa0_0.fDimensions.getD x13_2.toNat default).fValues).length : Int))) (IntKind.i64.wrap (x13_2 + 1)))
     none)
   (some n3_2)
noncomputable def l2 (M : Nat) : Nat → Ht2
  | 0, _, _, _, _ => none
  | k + 1, pa0_0, xs900_1, n3_2, x13_2 => s2 M (l2 M k) pa0_0 xs900_1 n3_2 x13_2
noncomputable def s1 (M : Nat) (h2 : Ht2) (pa0_0 : api_Paradigm) (ri36_1 : List ((List api_Feature))) : Option Rt :=
  lcase ri36_1
   (some 0)
   (fun x900_1 xs900_1 =>
    h2 pa0_0 xs900_1 1 0)
noncomputable def l1 (M : Nat) : Nat → Ht1
  | 0, _, _ => none
  | k + 1, pa0_0, ri36_1 => s1 M (l2 M M) pa0_0 ri36_1
noncomputable def s (M : Nat) (h1 : Ht1) (pa0_0 : api_Paradigm) : Option Rt :=
  Option.bind (feature_All_1 M pa0_0.fDimensions) fun ri36_1 =>
  h1 pa0_0 ri36_1
end paradigm_Count
noncomputable def paradigm_Count (M : Nat) (pa0_0 : api_Paradigm) : Option Int :=
  paradigm_Count.s M (paradigm_Count.l1 M M) pa0_0
namespace paradigm_Count
noncomputable def S2 (pa0_0 : api_Paradigm) (xs900_1 : List ((List api_Feature))) (n3_2 : Int) (x13_2 : Int) : St E :=
  mkSt 24 28 [(2, .one (.ptr 2 0)), (3, .one (.tv (.int .i64 n3_2))), (11, .one (.tv (.sl (.st .api_Dimension) pa0_0.fDimensions))), (12, .one (.tv (.int .i64 (pa0_0.fDimensions.length : Int)))), (13, .one (.tv (.int .i64 x13_2)))] [(1, .cells [.tv (.str pa0_0.fName), .tv (.sl (.st .api_Dimension) pa0_0.fDimensions), .tv (.sl (.sl (.st .api_Affix)) pa0_0.fSlots)]), (2, .cells [.tv (.int .i64 0)])] 24 [(1, .one (.ptr 1 0)), (2, .one (.ptr 2 0))] [⟨[(.sl (.st .api_Feature))], xs900_1⟩] false
noncomputable def S1 (pa0_0 : api_Paradigm) (ri36_1 : List ((List api_Feature))) : St E :=
  mkSt 24 28 [(1, .one (.ptr 1 0)), (2, .one (.ptr 2 0))] [(1, .cells [.tv (.str pa0_0.fName), .tv (.sl (.st .api_Dimension) pa0_0.fDimensions), .tv (.sl (.sl (.st .api_Affix)) pa0_0.fSlots)]), (2, .cells [.tv (.int .i64 0)])] 0 [] [⟨[(.sl (.st .api_Feature))], ri36_1⟩] true
noncomputable def K (M : Nat) : Cont E Int := kRet (C12 M) Tryd.f12.results.toList rs ex
noncomputable abbrev zA (M : Nat) (ZL : List Dir → Option (Ut)) (q : List Dir) : Ut := zAt (C12 M) (H M) M 0 ZL body plans (K M) q
noncomputable abbrev lA (M : Nat) (ZL : List Dir → Option (Ut)) (q : List Dir) (k : Nat) : Ut := lpAt (C12 M) (H M) M 0 ZL body plans (K M) q k
noncomputable abbrev gA (M : Nat) (Z : Zt) (q : List Dir) : Ut := seg (C12 M) (H M) 0 Z body plans (K M) q
set_option maxRecDepth 100000
theorem g2 (M : Nat) (Z : Zt) (pa0_0 : api_Paradigm) (xs900_1 : List ((List api_Feature))) (n3_2 : Int) (x13_2 : Int) : gA M Z Qt2 (S2 pa0_0 xs900_1 n3_2 x13_2) = s2 M
    (fun pa0_0 xs900_1 n3_2 x13_2 => Z Qt2 (S2 pa0_0 xs900_1 n3_2 x13_2)) pa0_0 xs900_1 n3_2 x13_2 := by kernel_rfl
theorem g1 (M : Nat) (Z : Zt) (pa0_0 : api_Paradigm) (ri36_1 : List ((List api_Feature))) : gA M Z Qt1 (S1 pa0_0 ri36_1) = s1 M
    (fun pa0_0 xs900_1 n3_2 x13_2 => Z Qt2 (S2 pa0_0 xs900_1 n3_2 x13_2)) pa0_0 ri36_1 := by kernel_rfl
theorem g (M : Nat) (Z : Zt) (pa0_0 : api_Paradigm) : runZ (C12 M) (extZ (C12 M) (H M) 0) Z body plans (start (argHs ps pa0_0) Tryd.f12.ntmps 28) (K M) = s M
    (fun pa0_0 ri36_1 => Z Qt1 (S1 pa0_0 ri36_1)) pa0_0 := by kernel_rfl
theorem el2 (M : Nat) (Z1 : Ut) (k : Nat) (pa0_0 : api_Paradigm) (xs900_1 : List ((List api_Feature))) (n3_2 : Int) (x13_2 : Int) : lA M (zlq Qt2 [Z1]) Qt2 k (S2 pa0_0 xs900_1 n3_2 x13_2) = l2 M k pa0_0 xs900_1 n3_2 x13_2 := by
  induction k generalizing pa0_0 xs900_1 n3_2 x13_2 with
  | zero => kernel_rfl
  | succ k ih =>
    refine Eq.trans (b := lA M (zlq Qt2 [Z1, lA M (zlq Qt2 [Z1]) Qt2 k]) Qt2 (k + 1) (S2 pa0_0 xs900_1 n3_2 x13_2)) (by kernel_rfl) ?_
    refine (seg_loop (Hok M) 0 Qt2 body plans (K M) _ (S2 pa0_0 xs900_1 n3_2 x13_2) (around_zlq _ _ (by kernel_rfl)) (by kernel_rfl) (by kernel_rfl)).trans ?_
    refine (g2 M _ pa0_0 xs900_1 n3_2 x13_2).trans ?_
    have x0 := (funext fun pa0_0 => funext fun xs900_1 => funext fun n3_2 => funext fun x13_2 => Eq.trans (b := lA M (zlq Qt2 [Z1]) Qt2 k (S2 pa0_0 xs900_1 n3_2 x13_2)) (by kernel_rfl) (ih pa0_0 xs900_1 n3_2 x13_2) : (fun pa0_0 xs900_1 n3_2 x13_2 => zA M (zlq Qt2 [Z1, lA M (zlq Qt2 [Z1]) Qt2 k]) Qt2 (S2 pa0_0 xs900_1 n3_2 x13_2)) = l2 M k)
    rw [x0]; rfl
theorem e2 (M : Nat) (Z1 : Ut) (pa0_0 : api_Paradigm) (xs900_1 : List ((List api_Feature))) (n3_2 : Int) (x13_2 : Int) : zA M (zlq Qt2 [Z1]) Qt2 (S2 pa0_0 xs900_1 n3_2 x13_2) = l2 M M pa0_0 xs900_1 n3_2 x13_2 :=
  Eq.trans (b := lA M (zlq Qt2 [Z1]) Qt2 M (S2 pa0_0 xs900_1 n3_2 x13_2)) (by kernel_rfl) (el2 M Z1 M pa0_0 xs900_1 n3_2 x13_2)
theorem el1 (M : Nat) (k : Nat) (pa0_0 : api_Paradigm) (ri36_1 : List ((List api_Feature))) : lA M (zlq Qt1 []) Qt1 k (S1 pa0_0 ri36_1) = l1 M k pa0_0 ri36_1 := by
  induction k generalizing pa0_0 ri36_1 with
  | zero => kernel_rfl
  | succ k ih =>
    refine Eq.trans (b := lA M (zlq Qt1 [lA M (zlq Qt1 []) Qt1 k]) Qt1 (k + 1) (S1 pa0_0 ri36_1)) (by kernel_rfl) ?_
    refine (seg_loop (Hok M) 0 Qt1 body plans (K M) _ (S1 pa0_0 ri36_1) (around_zlq _ _ (by kernel_rfl)) (by kernel_rfl) (by kernel_rfl)).trans ?_
    refine (g1 M _ pa0_0 ri36_1).trans ?_
    have x0 := (funext fun pa0_0 => funext fun xs900_1 => funext fun n3_2 => funext fun x13_2 => Eq.trans (b := zA M (zlq Qt2 [(lA M (zlq Qt1 []) Qt1 k)]) Qt2 (S2 pa0_0 xs900_1 n3_2 x13_2)) (by kernel_rfl) (e2 M (lA M (zlq Qt1 []) Qt1 k) pa0_0 xs900_1 n3_2 x13_2) : (fun pa0_0 xs900_1 n3_2 x13_2 => zA M (zlq Qt1 [lA M (zlq Qt1 []) Qt1 k]) Qt2 (S2 pa0_0 xs900_1 n3_2 x13_2)) = l2 M M)
    rw [x0]; rfl
theorem e1 (M : Nat) (pa0_0 : api_Paradigm) (ri36_1 : List ((List api_Feature))) : zA M (zlq Qt1 []) Qt1 (S1 pa0_0 ri36_1) = l1 M M pa0_0 ri36_1 :=
  Eq.trans (b := lA M (zlq Qt1 []) Qt1 M (S1 pa0_0 ri36_1)) (by kernel_rfl) (el1 M M pa0_0 ri36_1)
theorem run (M : Nat) (pa0_0 : api_Paradigm) : runF (rs := rs) (C12 M) (X M) M body Tryd.f12.ntmps 28 Tryd.f12.results.toList plans ps ex pa0_0 = paradigm_Count M pa0_0 := by
  refine Eq.trans (b := runC (C12 M) (X M) M body plans (start (argHs ps pa0_0) Tryd.f12.ntmps 28) (K M)) (by kernel_rfl) ?_
  refine (zrun (Hok M) 0 body plans _ (K M) (fun _ => none) fun _ => rfl).symm.trans ?_
  refine (g M _ pa0_0).trans ?_
  have x0 := (funext fun pa0_0 => funext fun ri36_1 => Eq.trans (b := zA M (zlq Qt1 []) Qt1 (S1 pa0_0 ri36_1)) (by kernel_rfl) (e1 M pa0_0 ri36_1) : (fun pa0_0 ri36_1 => zA M (fun _ => none) Qt1 (S1 pa0_0 ri36_1)) = l1 M M)
  rw [x0]; rfl
noncomputable def sig (M : Nat) : Sig E := { ps := ps, rs := rs, ex := ex, fn := fun x => paradigm_Count M x }
theorem says (M : Nat) : callable Tryd.prog 12 = true ∧ ∀ x y, (sig M).fn x = some y → Says Tryd.prog 12 (sig M) x y := by
  refine ⟨by kernel_rfl, fun x y h => ?_⟩
  refine says_of_run (S := sig M) (C := C12 M) (X := X M) (M := M) (q := 28) (plans := plans) (COk_Tryd) (SigOk_C12 M) (ItOk_C12 M) (by kernel_rfl) (callOk_ext COk_Tryd (SigOk_C12 M) (ItOk_C12 M) (by kernel_rfl) inl_ok.ok (RSigOk_C12 M) (fun _ => callOk_none) M 2) (Tryd.func12) (body := body) (by kernel_rfl) (by kernel_rfl) ?_
  exact (run M x).trans h
end paradigm_Count
end Go.Ai.Pav
end
set_option linter.unusedVariables false
set_option linter.unusedSectionVars false
noncomputable section
namespace Go.Ai.Pav
open Go Go.Ai Go.Proofs
noncomputable def sigs8 (M : Nat) : List (Nat × Sig E) := [(12, paradigm_Count.sig M)]
noncomputable def rs8 (M : Nat) : List (Nat × Sig E) := []
noncomputable def its8 (M : Nat) : List (Nat × It E) := [(36, feature_All_1.it M)]
theorem sigs_ok8 (M : Nat) : SigsOk Tryd.prog (sigs8 M) := SigsOk.cons (paradigm_Count.says M) (SigsOk.nil)
theorem rs_ok8 (M : Nat) : SigsOk Tryd.prog (rs8 M) := SigsOk.nil
theorem its_ok8 (M : Nat) : ItsOk Tryd.prog (its8 M) := ItsOk.cons (feature_All_1.says M) (ItsOk.nil)
noncomputable def C8 (M : Nat) : Ctx E := { ti := fun t => tisE.lookup t, sig := fun f => (sigs8 M).lookup f, it := fun f => (its8 M).lookup f, nt := 26 }
theorem SigOk_C8 (M : Nat) : SigOk Tryd.prog (C8 M) := sigs_ok8 M
theorem RSigOk_C8 (M : Nat) : SigOk Tryd.prog ({ ti := fun _ => none, sig := fun f => (rs8 M).lookup f } : Ctx E) := rs_ok8 M
theorem ItOk_C8 (M : Nat) : ItOk Tryd.prog (C8 M) := (its_ok8 M).ok
namespace paradigm_Cell
noncomputable def plans : List (Option (Plan Nm)) := [none, none, none, none, none, none, some { tmps := [(3, .asis), (4, .asis), (5, .asis), (6, .asis)], boxes := [(3, [.asis]), (4, [.asis]), (5, [.asis]), (6, [.asis])] }, none, none, none, none, none]
noncomputable abbrev body : Code := bodyOf Tryd.f8
def ps : List (Ty Nm) := [(.st .api_Paradigm), (.int .i64)]
def rs : List (Ty Nm) := [(.sl (.st .api_Feature)), .bool]
def ex : List (Option Nat) := [none, none]
noncomputable def inl : List (Nat × Nat × Nat × Inl Nm) := [(0, 18, 22, { off := 26, ntmps := Tryd.f22.ntmps, body := bodyOf Tryd.f22, res := Tryd.f22.results.toList, plans := [] })]
theorem inl_ok : InlsOk Tryd.prog inl := InlsOk.cons ⟨by kernel_rfl, _, Tryd.func22, by kernel_rfl, rfl, rfl⟩ (InlsOk.nil)
noncomputable def X (M : Nat) : Ext E ((List api_Feature) × Bool) := extOf (C8 M) (inlOf inl) (fun f => (rs8 M).lookup f) (fun _ _ _ => none) noX M 2
abbrev Rt := (List api_Feature) × Bool
noncomputable def H (M : Nat) : Hd E Rt := hd0 (X M)
theorem Hok (M : Nat) : (H M).ok (C8 M) M := hd0_ok _
abbrev Qt1 : List Dir := [.r, .r, .r, .l, .r, .k]
abbrev Ht1 := Int → (List ((List api_Feature))) → Int → Option Rt
abbrev Zt := List Dir → St E → Option Rt
abbrev Ut := St E → Option Rt
noncomputable def s1 (M : Nat) (h1 : Ht1) (na1_0 : Int) (it0_1 : (List ((List api_Feature)))) (ib06_1 : Int) : Option Rt :=
  lcase it0_1
   (some ([], false))
   (fun x900_1 xs900_1 =>
    cond (decide (ib06_1 = na1_0))
     (some (x900_1, true))
     (h1 na1_0 xs900_1 (IntKind.i64.wrap (ib06_1 + 1))))
noncomputable def l1 (M : Nat) : Nat → Ht1
  | 0, _, _, _ => none
  | k + 1, na1_0, it0_1, ib06_1 => s1 M (l1 M k) na1_0 it0_1 ib06_1
noncomputable def s (M : Nat) (h1 : Ht1) (pa0_0 : api_Paradigm) (na1_0 : Int) : Option Rt :=
  cond (decide (na1_0 < 0))
   (some ([], false))
   (Option.bind (paradigm_Count M pa0_0) fun r13_4 =>
    cond (decide (r13_4 ≤ na1_0))
     (some ([], false))
     (Option.bind (feature_All_1 M pa0_0.fDimensions) fun ri36_5 =>
      h1 na1_0 ri36_5 0))
end paradigm_Cell
noncomputable def paradigm_Cell (M : Nat) (pa0_0 : api_Paradigm) (na1_0 : Int) : Option ((List api_Feature) × Bool) :=
  paradigm_Cell.s M (paradigm_Cell.l1 M M) pa0_0 na1_0
namespace paradigm_Cell
noncomputable def S1 (na1_0 : Int) (it0_1 : (List ((List api_Feature)))) (ib06_1 : Int) : St E :=
  mkSt 26 30 [(3, .one (.ptr 3 0)), (4, .one (.ptr 4 0)), (5, .one (.ptr 5 0)), (6, .one (.ptr 6 0))] [(3, .cells [.tv (.int .i64 na1_0)]), (4, .cells [.tv (.val nilS)]), (5, .cells [.tv (.bool false)]), (6, .cells [.tv (.int .i64 ib06_1)])] 0 [] [⟨[(.sl (.st .api_Feature))], it0_1⟩] true
noncomputable def K (M : Nat) : Cont E ((List api_Feature) × Bool) := kRet (C8 M) Tryd.f8.results.toList rs ex
noncomputable abbrev zA (M : Nat) (ZL : List Dir → Option (Ut)) (q : List Dir) : Ut := zAt (C8 M) (H M) M 0 ZL body plans (K M) q
noncomputable abbrev lA (M : Nat) (ZL : List Dir → Option (Ut)) (q : List Dir) (k : Nat) : Ut := lpAt (C8 M) (H M) M 0 ZL body plans (K M) q k
noncomputable abbrev gA (M : Nat) (Z : Zt) (q : List Dir) : Ut := seg (C8 M) (H M) 0 Z body plans (K M) q
set_option maxRecDepth 100000
theorem g1 (M : Nat) (Z : Zt) (na1_0 : Int) (it0_1 : (List ((List api_Feature)))) (ib06_1 : Int) : gA M Z Qt1 (S1 na1_0 it0_1 ib06_1) = s1 M
    (fun na1_0 it0_1 ib06_1 => Z Qt1 (S1 na1_0 it0_1 ib06_1)) na1_0 it0_1 ib06_1 := by kernel_rfl
theorem g (M : Nat) (Z : Zt) (pa0_0 : api_Paradigm) (na1_0 : Int) : runZ (C8 M) (extZ (C8 M) (H M) 0) Z body plans (start (argHs ps (pa0_0, na1_0)) Tryd.f8.ntmps 30) (K M) = s M
    (fun na1_0 it0_1 ib06_1 => Z Qt1 (S1 na1_0 it0_1 ib06_1)) pa0_0 na1_0 := by kernel_rfl
theorem el1 (M : Nat) (k : Nat) (na1_0 : Int) (it0_1 : (List ((List api_Feature)))) (ib06_1 : Int) : lA M (zlq Qt1 []) Qt1 k (S1 na1_0 it0_1 ib06_1) = l1 M k na1_0 it0_1 ib06_1 := by
  induction k generalizing na1_0 it0_1 ib06_1 with
  | zero => kernel_rfl
  | succ k ih =>
    refine Eq.trans (b := lA M (zlq Qt1 [lA M (zlq Qt1 []) Qt1 k]) Qt1 (k + 1) (S1 na1_0 it0_1 ib06_1)) (by kernel_rfl) ?_
    refine (seg_loop (Hok M) 0 Qt1 body plans (K M) _ (S1 na1_0 it0_1 ib06_1) (around_zlq _ _ (by kernel_rfl)) (by kernel_rfl) (by kernel_rfl)).trans ?_
    refine (g1 M _ na1_0 it0_1 ib06_1).trans ?_
    have x0 := (funext fun na1_0 => funext fun it0_1 => funext fun ib06_1 => Eq.trans (b := lA M (zlq Qt1 []) Qt1 k (S1 na1_0 it0_1 ib06_1)) (by kernel_rfl) (ih na1_0 it0_1 ib06_1) : (fun na1_0 it0_1 ib06_1 => zA M (zlq Qt1 [lA M (zlq Qt1 []) Qt1 k]) Qt1 (S1 na1_0 it0_1 ib06_1)) = l1 M k)
    rw [x0]; rfl
theorem e1 (M : Nat) (na1_0 : Int) (it0_1 : (List ((List api_Feature)))) (ib06_1 : Int) : zA M (zlq Qt1 []) Qt1 (S1 na1_0 it0_1 ib06_1) = l1 M M na1_0 it0_1 ib06_1 :=
  Eq.trans (b := lA M (zlq Qt1 []) Qt1 M (S1 na1_0 it0_1 ib06_1)) (by kernel_rfl) (el1 M M na1_0 it0_1 ib06_1)
theorem run (M : Nat) (pa0_0 : api_Paradigm) (na1_0 : Int) : runF (rs := rs) (C8 M) (X M) M body Tryd.f8.ntmps 30 Tryd.f8.results.toList plans ps ex (pa0_0, na1_0) = paradigm_Cell M pa0_0 na1_0 := by
  refine Eq.trans (b := runC (C8 M) (X M) M body plans (start (argHs ps (pa0_0, na1_0)) Tryd.f8.ntmps 30) (K M)) (by kernel_rfl) ?_
  refine (zrun (Hok M) 0 body plans _ (K M) (fun _ => none) fun _ => rfl).symm.trans ?_
  refine (g M _ pa0_0 na1_0).trans ?_
  have x0 := (funext fun na1_0 => funext fun it0_1 => funext fun ib06_1 => Eq.trans (b := zA M (zlq Qt1 []) Qt1 (S1 na1_0 it0_1 ib06_1)) (by kernel_rfl) (e1 M na1_0 it0_1 ib06_1) : (fun na1_0 it0_1 ib06_1 => zA M (fun _ => none) Qt1 (S1 na1_0 it0_1 ib06_1)) = l1 M M)
  rw [x0]; rfl
noncomputable def sig (M : Nat) : Sig E := { ps := ps, rs := rs, ex := ex, fn := fun x => paradigm_Cell M x.1 x.2 }
theorem says (M : Nat) : callable Tryd.prog 8 = true ∧ ∀ x y, (sig M).fn x = some y → Says Tryd.prog 8 (sig M) x y := by
  refine ⟨by kernel_rfl, fun x y h => ?_⟩
  refine says_of_run (S := sig M) (C := C8 M) (X := X M) (M := M) (q := 30) (plans := plans) (COk_Tryd) (SigOk_C8 M) (ItOk_C8 M) (by kernel_rfl) (callOk_ext COk_Tryd (SigOk_C8 M) (ItOk_C8 M) (by kernel_rfl) inl_ok.ok (RSigOk_C8 M) (fun _ => callOk_none) M 2) (Tryd.func8) (body := body) (by kernel_rfl) (by kernel_rfl) ?_
  obtain ⟨pa0_0, na1_0⟩ := x
  exact (run M pa0_0 na1_0).trans h
end paradigm_Cell
end Go.Ai.Pav
end
set_option linter.unusedVariables false
set_option linter.unusedSectionVars false
noncomputable section
namespace Go.Ai.Pav
open Go Go.Ai Go.Proofs
noncomputable def sigs13 (M : Nat) : List (Nat × Sig E) := [(12, paradigm_Count.sig M), (26, feature_Get.sig M), (27, slices_Index_string_string.sig M)]
noncomputable def rs13 (M : Nat) : List (Nat × Sig E) := []
noncomputable def its13 (M : Nat) : List (Nat × It E) := []
theorem sigs_ok13 (M : Nat) : SigsOk Tryd.prog (sigs13 M) := SigsOk.cons (paradigm_Count.says M) (SigsOk.cons (feature_Get.says M) (SigsOk.cons (slices_Index_string_string.says M) (SigsOk.nil)))
theorem rs_ok13 (M : Nat) : SigsOk Tryd.prog (rs13 M) := SigsOk.nil
theorem its_ok13 (M : Nat) : ItsOk Tryd.prog (its13 M) := ItsOk.nil
noncomputable def C13 (M : Nat) : Ctx E := { ti := fun t => tisE.lookup t, sig := fun f => (sigs13 M).lookup f, it := fun f => (its13 M).lookup f, nt := 74 }
theorem SigOk_C13 (M : Nat) : SigOk Tryd.prog (C13 M) := sigs_ok13 M
theorem RSigOk_C13 (M : Nat) : SigOk Tryd.prog ({ ti := fun _ => none, sig := fun f => (rs13 M).lookup f } : Ctx E) := rs_ok13 M
theorem ItOk_C13 (M : Nat) : ItOk Tryd.prog (C13 M) := (its_ok13 M).ok
namespace paradigm_Number
noncomputable def plans : List (Option (Plan Nm)) := [none, none, none, none, none, none, some { tmps := [(1, .asis), (5, .asis), (24, .asis), (25, .asis), (26, .asis)], boxes := [] }, none, none, none, none, none, none, none, none, none, some { tmps := [(1, .asis), (5, .asis)], boxes := [] }, none, some { tmps := [(1, .asis), (5, .asis), (11, .asis)], boxes := [] }, none, none, none, none, none, none, none]
noncomputable abbrev body : Code := bodyOf Tryd.f13
def ps : List (Ty Nm) := [(.st .api_Paradigm), (.sl (.st .api_Feature))]
def rs : List (Ty Nm) := [(.int .i64)]
def ex : List (Option Nat) := [none]
noncomputable def inl : List (Nat × Nat × Nat × Inl Nm) := []
theorem inl_ok : InlsOk Tryd.prog inl := InlsOk.nil
noncomputable def X (M : Nat) : Ext E Int := extOf (C13 M) (inlOf inl) (fun f => (rs13 M).lookup f) (fun _ _ _ => none) noX M 1
abbrev Rt := Int
noncomputable def H (M : Nat) : Hd E Rt := hd0 (X M)
theorem Hok (M : Nat) : (H M).ok (C13 M) M := hd0_ok _
abbrev Qt3 : List Dir := [.r, .r, .r, .r, .l, .r, .k]
abbrev Ht3 := (List api_Feature) → Int → Int → Option Rt
abbrev Qt2 : List Dir := [.r, .r, .r]
abbrev Ht2 := (List api_Feature) → Int → Option Rt
abbrev Qt1 : List Dir := [.r, .r, .r, .l, .r, .k]
abbrev Ht1 := (List api_Feature) → api_Paradigm → Int → Int → Option Rt
abbrev Zt := List Dir → St E → Option Rt
abbrev Ut := St E → Option Rt
noncomputable def s3 (M : Nat) (h3 : Ht3) (cella1_0 : (List api_Feature)) (n5_2 : Int) (i11_3 : Int) : Option Rt :=
  cond (decide (i11_3 < (cella1_0.length : Int)))
   (cond (decide (0 ≤ IntKind.i64.wrap (i11_3 - 1)) && decide (IntKind.i64.wrap (i11_3 - 1) < (cella1_0.length : Int)))
     (cond (decide (0 ≤ i11_3) && decide (i11_3 < (cella1_0.length : Int)))
       (cond (!(Op.bytesLess ((cella1_0.getD (IntKind.i64.wrap (i11_3 - 1)).toNat default).fName) ((cella1_0.getD i11_3.toNat default).fName)))
         (some (-1))
         (h3 cella1_0 n5_2 (IntKind.i64.wrap (i11_3 + 1))))
       none)
     none)
   (some n5_2)
noncomputable def l3 (M : Nat) : Nat → Ht3
  | 0, _, _, _ => none
  | k + 1, cella1_0, n5_2, i11_3 => s3 M (l3 M k) cella1_0 n5_2 i11_3
noncomputable def s2 (M : Nat) (h3 : Ht3) (cella1_0 : (List api_Feature)) (n5_2 : Int) : Option Rt :=
  h3 cella1_0 n5_2 1
noncomputable def j2 (M : Nat) (cella1_0 : (List api_Feature)) (n5_2 : Int) : Option Rt :=
  s2 M (l3 M M) cella1_0 n5_2
noncomputable def s1 (M : Nat) (h1 : Ht1) (h2 : Ht2) (cella1_0 : (List api_Feature)) (pa0_0 : api_Paradigm) (n5_1 : Int) (x26_1 : Int) : Option Rt :=
  cond (decide (x26_1 < (pa0_0.fDimensions.length : Int)))
   (cond (decide (0 ≤ x26_1) && decide (x26_1 < (pa0_0.fDimensions.length : Int)))
     (Option.bind (feature_Get M cella1_0 ((pa0_0.fDimensions.getD x26_1.toNat default).fName)) fun r34_19 =>
      Option.bind (slices_Index_string_string M ((pa0_0.fDimensions.getD x26_1.toNat default).fValues) r34_19.1) fun r40_20 =>
      cond (!r34_19.2)
       (some (-1))
       (cond (decide (r40_20 < 0))
         (some (-1))
         (h1 cella1_0 pa0_0 (IntKind.i64.wrap ((IntKind.i64.wrap (n5_1 * (((pa0_0.fDimensions.getD x26_1.toNat default).fValues).length : Int))) + r40_20)) (IntKind.i64.wrap (x26_1 + 1)))))
     none)
   (h2 cella1_0 n5_1)
noncomputable def l1 (M : Nat) : Nat → Ht1
  | 0, _, _, _, _ => none
  | k + 1, cella1_0, pa0_0, n5_1, x26_1 => s1 M (l1 M k) (j2 M) cella1_0 pa0_0 n5_1 x26_1
noncomputable def s (M : Nat) (h1 : Ht1) (pa0_0 : api_Paradigm) (cella1_0 : (List api_Feature)) : Option Rt :=
  cond (!decide ((cella1_0.length : Int) = (pa0_0.fDimensions.length : Int)))
   (some (-1))
   (Option.bind (paradigm_Count M pa0_0) fun r20_4 =>
    cond (decide (r20_4 = 0))
     (some (-1))
     (h1 cella1_0 pa0_0 0 0))
end paradigm_Number
noncomputable def paradigm_Number (M : Nat) (pa0_0 : api_Paradigm) (cella1_0 : (List api_Feature)) : Option Int :=
  paradigm_Number.s M (paradigm_Number.l1 M M) pa0_0 cella1_0
namespace paradigm_Number
noncomputable def S3 (cella1_0 : (List api_Feature)) (n5_2 : Int) (i11_3 : Int) : St E :=
  mkSt 74 74 [(1, .one (.tv (.sl (.st .api_Feature) cella1_0))), (5, .one (.tv (.int .i64 n5_2))), (11, .one (.tv (.int .i64 i11_3)))] [] 0 [] [] false
noncomputable def S2 (cella1_0 : (List api_Feature)) (n5_2 : Int) : St E :=
  mkSt 74 74 [(1, .one (.tv (.sl (.st .api_Feature) cella1_0))), (5, .one (.tv (.int .i64 n5_2)))] [] 0 [] [] false
noncomputable def S1 (cella1_0 : (List api_Feature)) (pa0_0 : api_Paradigm) (n5_1 : Int) (x26_1 : Int) : St E :=
  mkSt 74 74 [(1, .one (.tv (.sl (.st .api_Feature) cella1_0))), (5, .one (.tv (.int .i64 n5_1))), (24, .one (.tv (.sl (.st .api_Dimension) pa0_0.fDimensions))), (25, .one (.tv (.int .i64 (pa0_0.fDimensions.length : Int)))), (26, .one (.tv (.int .i64 x26_1)))] [] 0 [] [] false
noncomputable def K (M : Nat) : Cont E Int := kRet (C13 M) Tryd.f13.results.toList rs ex
noncomputable abbrev zA (M : Nat) (ZL : List Dir → Option (Ut)) (q : List Dir) : Ut := zAt (C13 M) (H M) M 0 ZL body plans (K M) q
noncomputable abbrev lA (M : Nat) (ZL : List Dir → Option (Ut)) (q : List Dir) (k : Nat) : Ut := lpAt (C13 M) (H M) M 0 ZL body plans (K M) q k
noncomputable abbrev gA (M : Nat) (Z : Zt) (q : List Dir) : Ut := seg (C13 M) (H M) 0 Z body plans (K M) q
set_option maxRecDepth 100000
theorem g3 (M : Nat) (Z : Zt) (cella1_0 : (List api_Feature)) (n5_2 : Int) (i11_3 : Int) : gA M Z Qt3 (S3 cella1_0 n5_2 i11_3) = s3 M
    (fun cella1_0 n5_2 i11_3 => Z Qt3 (S3 cella1_0 n5_2 i11_3)) cella1_0 n5_2 i11_3 := by kernel_rfl
theorem g2 (M : Nat) (Z : Zt) (cella1_0 : (List api_Feature)) (n5_2 : Int) : gA M Z Qt2 (S2 cella1_0 n5_2) = s2 M
    (fun cella1_0 n5_2 i11_3 => Z Qt3 (S3 cella1_0 n5_2 i11_3)) cella1_0 n5_2 := by kernel_rfl
theorem g1 (M : Nat) (Z : Zt) (cella1_0 : (List api_Feature)) (pa0_0 : api_Paradigm) (n5_1 : Int) (x26_1 : Int) : gA M Z Qt1 (S1 cella1_0 pa0_0 n5_1 x26_1) = s1 M
    (fun cella1_0 pa0_0 n5_1 x26_1 => Z Qt1 (S1 cella1_0 pa0_0 n5_1 x26_1))
    (fun cella1_0 n5_2 => Z Qt2 (S2 cella1_0 n5_2)) cella1_0 pa0_0 n5_1 x26_1 := by kernel_rfl
theorem g (M : Nat) (Z : Zt) (pa0_0 : api_Paradigm) (cella1_0 : (List api_Feature)) : runZ (C13 M) (extZ (C13 M) (H M) 0) Z body plans (start (argHs ps (pa0_0, cella1_0)) Tryd.f13.ntmps 74) (K M) = s M
    (fun cella1_0 pa0_0 n5_1 x26_1 => Z Qt1 (S1 cella1_0 pa0_0 n5_1 x26_1)) pa0_0 cella1_0 := by kernel_rfl
theorem el3 (M : Nat) (k : Nat) (cella1_0 : (List api_Feature)) (n5_2 : Int) (i11_3 : Int) : lA M (zlq Qt3 []) Qt3 k (S3 cella1_0 n5_2 i11_3) = l3 M k cella1_0 n5_2 i11_3 := by
  induction k generalizing cella1_0 n5_2 i11_3 with
  | zero => kernel_rfl
  | succ k ih =>
    refine Eq.trans (b := lA M (zlq Qt3 [lA M (zlq Qt3 []) Qt3 k]) Qt3 (k + 1) (S3 cella1_0 n5_2 i11_3)) (by kernel_rfl) ?_
    refine (seg_loop (Hok M) 0 Qt3 body plans (K M) _ (S3 cella1_0 n5_2 i11_3) (around_zlq _ _ (by kernel_rfl)) (by kernel_rfl) (by kernel_rfl)).trans ?_
    refine (g3 M _ cella1_0 n5_2 i11_3).trans ?_
    have x0 := (funext fun cella1_0 => funext fun n5_2 => funext fun i11_3 => Eq.trans (b := lA M (zlq Qt3 []) Qt3 k (S3 cella1_0 n5_2 i11_3)) (by kernel_rfl) (ih cella1_0 n5_2 i11_3) : (fun cella1_0 n5_2 i11_3 => zA M (zlq Qt3 [lA M (zlq Qt3 []) Qt3 k]) Qt3 (S3 cella1_0 n5_2 i11_3)) = l3 M k)
    rw [x0]; rfl
theorem e3 (M : Nat) (cella1_0 : (List api_Feature)) (n5_2 : Int) (i11_3 : Int) : zA M (zlq Qt3 []) Qt3 (S3 cella1_0 n5_2 i11_3) = l3 M M cella1_0 n5_2 i11_3 :=
  Eq.trans (b := lA M (zlq Qt3 []) Qt3 M (S3 cella1_0 n5_2 i11_3)) (by kernel_rfl) (el3 M M cella1_0 n5_2 i11_3)
theorem e2 (M : Nat) (cella1_0 : (List api_Feature)) (n5_2 : Int) : zA M (zlq Qt2 []) Qt2 (S2 cella1_0 n5_2) = j2 M cella1_0 n5_2 := by
  refine (seg_join (Hok M) 0 Qt2 body plans (K M) _ (S2 cella1_0 n5_2) (around_zlq _ _ (by kernel_rfl)) (by kernel_rfl)).trans ?_
  refine (g2 M _ cella1_0 n5_2).trans ?_
  have x0 := (funext fun cella1_0 => funext fun n5_2 => funext fun i11_3 => Eq.trans (b := zA M (zlq Qt3 []) Qt3 (S3 cella1_0 n5_2 i11_3)) (by kernel_rfl) (e3 M cella1_0 n5_2 i11_3) : (fun cella1_0 n5_2 i11_3 => zA M (zlq Qt2 []) Qt3 (S3 cella1_0 n5_2 i11_3)) = l3 M M)
  rw [x0]; rfl
theorem el1 (M : Nat) (k : Nat) (cella1_0 : (List api_Feature)) (pa0_0 : api_Paradigm) (n5_1 : Int) (x26_1 : Int) : lA M (zlq Qt1 []) Qt1 k (S1 cella1_0 pa0_0 n5_1 x26_1) = l1 M k cella1_0 pa0_0 n5_1 x26_1 := by
  induction k generalizing cella1_0 pa0_0 n5_1 x26_1 with
  | zero => kernel_rfl
  | succ k ih =>
    refine Eq.trans (b := lA M (zlq Qt1 [lA M (zlq Qt1 []) Qt1 k]) Qt1 (k + 1) (S1 cella1_0 pa0_0 n5_1 x26_1)) (by kernel_rfl) ?_
    refine (seg_loop (Hok M) 0 Qt1 body plans (K M) _ (S1 cella1_0 pa0_0 n5_1 x26_1) (around_zlq _ _ (by kernel_rfl)) (by kernel_rfl) (by kernel_rfl)).trans ?_
    refine (g1 M _ cella1_0 pa0_0 n5_1 x26_1).trans ?_
    have x0 := (funext fun cella1_0 => funext fun pa0_0 => funext fun n5_1 => funext fun x26_1 => Eq.trans (b := lA M (zlq Qt1 []) Qt1 k (S1 cella1_0 pa0_0 n5_1 x26_1)) (by kernel_rfl) (ih cella1_0 pa0_0 n5_1 x26_1) : (fun cella1_0 pa0_0 n5_1 x26_1 => zA M (zlq Qt1 [lA M (zlq Qt1 []) Qt1 k]) Qt1 (S1 cella1_0 pa0_0 n5_1 x26_1)) = l1 M k)
    have x1 := (funext fun cella1_0 => funext fun n5_2 => Eq.trans (b := zA M (zlq Qt2 []) Qt2 (S2 cella1_0 n5_2)) (by kernel_rfl) (e2 M cella1_0 n5_2) : (fun cella1_0 n5_2 => zA M (zlq Qt1 [lA M (zlq Qt1 []) Qt1 k]) Qt2 (S2 cella1_0 n5_2)) = j2 M)
    rw [x0, x1]; rfl
theorem e1 (M : Nat) (cella1_0 : (List api_Feature)) (pa0_0 : api_Paradigm) (n5_1 : Int) (x26_1 : Int) : zA M (zlq Qt1 []) Qt1 (S1 cella1_0 pa0_0 n5_1 x26_1) = l1 M M cella1_0 pa0_0 n5_1 x26_1 :=
  Eq.trans (b := lA M (zlq Qt1 []) Qt1 M (S1 cella1_0 pa0_0 n5_1 x26_1)) (by kernel_rfl) (el1 M M cella1_0 pa0_0 n5_1 x26_1)
theorem run (M : Nat) (pa0_0 : api_Paradigm) (cella1_0 : (List api_Feature)) : runF (rs := rs) (C13 M) (X M) M body Tryd.f13.ntmps 74 Tryd.f13.results.toList plans ps ex (pa0_0, cella1_0) = paradigm_Number M pa0_0 cella1_0 := by
  refine Eq.trans (b := runC (C13 M) (X M) M body plans (start (argHs ps (pa0_0, cella1_0)) Tryd.f13.ntmps 74) (K M)) (by kernel_rfl) ?_
  refine (zrun (Hok M) 0 body plans _ (K M) (fun _ => none) fun _ => rfl).symm.trans ?_
  refine (g M _ pa0_0 cella1_0).trans ?_
  have x0 := (funext fun cella1_0 => funext fun pa0_0 => funext fun n5_1 => funext fun x26_1 => Eq.trans (b := zA M (zlq Qt1 []) Qt1 (S1 cella1_0 pa0_0 n5_1 x26_1)) (by kernel_rfl) (e1 M cella1_0 pa0_0 n5_1 x26_1) : (fun cella1_0 pa0_0 n5_1 x26_1 => zA M (fun _ => none) Qt1 (S1 cella1_0 pa0_0 n5_1 x26_1)) = l1 M M)
  rw [x0]; rfl
noncomputable def sig (M : Nat) : Sig E := { ps := ps, rs := rs, ex := ex, fn := fun x => paradigm_Number M x.1 x.2 }
theorem says (M : Nat) : callable Tryd.prog 13 = true ∧ ∀ x y, (sig M).fn x = some y → Says Tryd.prog 13 (sig M) x y := by
  refine ⟨by kernel_rfl, fun x y h => ?_⟩
  refine says_of_run (S := sig M) (C := C13 M) (X := X M) (M := M) (q := 74) (plans := plans) (COk_Tryd) (SigOk_C13 M) (ItOk_C13 M) (by kernel_rfl) (callOk_ext COk_Tryd (SigOk_C13 M) (ItOk_C13 M) (by kernel_rfl) inl_ok.ok (RSigOk_C13 M) (fun _ => callOk_none) M 1) (Tryd.func13) (body := body) (by kernel_rfl) (by kernel_rfl) ?_
  obtain ⟨pa0_0, cella1_0⟩ := x
  exact (run M pa0_0 cella1_0).trans h
end paradigm_Number
end Go.Ai.Pav
end
namespace Go.Ai.Pav
open Go Go.Ai
variable {M : Nat}

/-! ### Dimensions -/
def okDim (d : api_Dimension) : Prop := d.fName.length ≤ 1048576 ∧ d.fValues.length ≤ 1048576 ∧ ∀ v ∈ d.fValues, v.length ≤ 1048576
def okDims (ds : List api_Dimension) : Prop := ds.length ≤ 1048576 ∧ ∀ d ∈ ds, okDim d

def valsF (vals : List (List UInt8)) : Nat → List (List UInt8) → Bool
  | _, [] => true
  | i, v :: r => isName v && !((vals.take i).any fun x => decide (v = x)) && valsF vals (i + 1) r
def dimOk (pre : List api_Dimension) (d : api_Dimension) : Bool := isName d.fName && decide (1 ≤ d.fValues.length) && decide (d.fValues.length ≤ 8) && valsF d.fValues 0 d.fValues && !(pre.any fun e => decide (e.fName = d.fName))
def dimsF (all : List api_Dimension) : Nat → List api_Dimension → Bool
  | _, [] => true
  | i, d :: r => dimOk (all.take i) d && dimsF all (i + 1) r
def dimsOk (ds : List api_Dimension) : Bool := decide (ds.length ≤ 4) && dimsF ds 0 ds

theorem feature_dimensions_eq (hM : 1048576 < M) {ds : List api_Dimension} (hd : okDims ds) : feature_dimensions M ds = some (dimsOk ds) := by
  obtain ⟨hl, hf⟩ := hd
  have prev : ∀ (h1 : List api_Dimension → Int → Option Bool) (i : Nat), i < ds.length → feature_dimensions.j3 M h1 ds i = cond ((ds.take i).any fun e => decide (e.fName = (ds.getD i default).fName)) (some false) (h1 ds ((i + 1 : Nat) : Int)) := by
    intro h1 i hi
    unfold feature_dimensions.j3 feature_dimensions.s3
    rw [cpos2 (by omega) (by omega)]
    refine (over (xs := ds.take i) (f := fun k x (_ : Unit) => feature_dimensions.l4 M h1 k ds i x) (g := fun r _ => cond (r.any fun e => decide (e.fName = (ds.getD i default).fName)) (some false) (h1 ds ((i + 1 : Nat) : Int))) (fun k _ => by
      simp (disch := omega) only [feature_dimensions.l4, feature_dimensions.s4, Int.toNat_natCast, ↓cneg (Int.lt_irrefl _), wsucc, List.any_nil, cond_false]) (fun k q x r _ hq hx ih => by
      have ih := ih ()
      have hq' := hq
      rw [List.length_take] at hq'
      simp (disch := omega) only [feature_dimensions.l4, feature_dimensions.s4, Int.toNat_natCast, ↓cpos, ↓cpos2, wsucc, hx, ih, List.any_cons]
      cases decide (x.fName = (ds.getD i default).fName) <;> rfl) (k := M) (by rw [List.length_take]; omega) ())
  have vals : ∀ (h1 : List api_Dimension → Int → Option Bool) (i : Nat), i < ds.length → feature_dimensions.l2 M h1 M ds i 0 = cond (valsF (ds.getD i default).fValues 0 (ds.getD i default).fValues) (feature_dimensions.j3 M h1 ds i) (some false) := by
    intro h1 i hi
    obtain ⟨hn, hvl, hv⟩ := hf _ (getD_mem hi)
    refine overI (xs := (ds.getD i default).fValues) (f := fun k x (_ : Unit) => feature_dimensions.l2 M h1 k ds i x) (g := fun q r _ => cond (valsF (ds.getD i default).fValues q r) (feature_dimensions.j3 M h1 ds i) (some false)) (fun k _ => by
      simp only [feature_dimensions.l2, feature_dimensions.s2, Int.toNat_natCast, ↓cneg (Int.lt_irrefl _), valsF, cond_true]) (fun k q x r _ hq hx _ _ ih => by
      have ih := ih ()
      have hxl := hv _ (getD_mem hq)
      rw [hx] at hxl
      simp (disch := first | omega | (simp only [len]; omega)) only [feature_dimensions.l2, feature_dimensions.s2, Int.toNat_natCast, ↓cpos, ↓cpos2, wsucc, hx, ih, feature_name_eq hM hxl, Option.bind_some, slices_Contains_eq hM, cnot, valsF]
      cases isName x <;> cases ((ds.getD i default).fValues.take q).any (fun y => decide (x = y)) <;> rfl) (k := M) (by omega) ()
  unfold feature_dimensions feature_dimensions.s dimsOk
  by_cases h4 : ds.length ≤ 4
  · rw [cneg (by omega)]
    have key := overI (xs := ds) (f := fun k i (_ : Unit) => feature_dimensions.l1 M k ds i) (g := fun i r _ => some (dimsF ds i r)) (fun k _ => by
      simp only [feature_dimensions.l1, feature_dimensions.s1, ↓cneg (Int.lt_irrefl _), dimsF]) (fun k i d r _ hi hx _ _ ih => by
      have ih := ih ()
      obtain ⟨hn, hvl, hv⟩ := hf _ (getD_mem hi)
      have hp := prev (feature_dimensions.l1 M k) i hi
      have hvs := vals (feature_dimensions.l1 M k) i hi
      rw [hx] at hn hp hvs
      simp (disch := omega) only [feature_dimensions.l1, feature_dimensions.s1, Int.toNat_natCast, ↓cpos, ↓cpos2, wsucc, hx, hvs, hp, ih, feature_name_eq hM hn, Option.bind_some, cnot, dimsF, dimOk]
      cases isName d.fName with
      | false => rfl
      | true =>
        by_cases h1 : 1 ≤ d.fValues.length
        · rw [cneg (by omega)]
          by_cases h8 : d.fValues.length ≤ 8
          · rw [cneg (by omega)]
            simp only [h1, h8, decide_true]
            cases valsF d.fValues 0 d.fValues <;> cases (ds.take i).any (fun e => decide (e.fName = d.fName)) <;> rfl
          · rw [cpos (by omega)]; simp [h8]
        · rw [cpos (by omega)]; simp [h1]) (k := M) (by omega) ()
    simp only [h4, decide_true, Bool.true_and]
    exact key
  · rw [cpos (by omega)]; simp [h4]

theorem ref02_Dimensions_eq (hM : 1048576 < M) {ds : List api_Dimension} (hd : okDims ds) : pentaglotref02_Dimensions M ds = some (dimsOk ds) := by
  obtain ⟨hl, hf⟩ := hd
  have vals : ∀ (h1 : List api_Dimension → Int → Option Bool) (i : Nat), i < ds.length → pentaglotref02_Dimensions.j3 M h1 ds i = cond (valsF (ds.getD i default).fValues 0 (ds.getD i default).fValues) (h1 ds ((i + 1 : Nat) : Int)) (some false) := by
    intro h1 i hi
    obtain ⟨hn, hvl, hv⟩ := hf _ (getD_mem hi)
    unfold pentaglotref02_Dimensions.j3 pentaglotref02_Dimensions.s3
    refine overI (xs := (ds.getD i default).fValues) (f := fun k x (_ : Unit) => pentaglotref02_Dimensions.l4 M h1 k ds i x) (g := fun q r _ => cond (valsF (ds.getD i default).fValues q r) (h1 ds ((i + 1 : Nat) : Int)) (some false)) (fun k _ => by
      simp (disch := omega) only [pentaglotref02_Dimensions.l4, pentaglotref02_Dimensions.s4, Int.toNat_natCast, ↓cneg (Int.lt_irrefl _), valsF, cond_true, wsucc]) (fun k q x r _ hq hx _ _ ih => by
      have ih := ih ()
      have hxl := hv _ (getD_mem hq)
      rw [hx] at hxl
      simp (disch := first | omega | (simp only [len]; omega)) only [pentaglotref02_Dimensions.l4, pentaglotref02_Dimensions.s4, Int.toNat_natCast, ↓cpos, ↓cpos2, wsucc, hx, ih, ref02_Name_eq hM hxl, Option.bind_some, ref02_In_eq hM, cnot, valsF]
      cases isName x <;> cases ((ds.getD i default).fValues.take q).any (fun y => decide (x = y)) <;> rfl) (k := M) (by omega) ()
  have prev : ∀ (h1 : List api_Dimension → Int → Option Bool) (i : Nat), i < ds.length → pentaglotref02_Dimensions.l2 M h1 M ds i 0 = cond ((ds.take i).any fun e => decide (e.fName = (ds.getD i default).fName)) (some false) (pentaglotref02_Dimensions.j3 M h1 ds i) := by
    intro h1 i hi
    have hlen : (ds.take i).length = i := by rw [List.length_take]; omega
    refine (over (xs := ds.take i) (f := fun k x (_ : Unit) => pentaglotref02_Dimensions.l2 M h1 k ds i x) (g := fun r _ => cond (r.any fun e => decide (e.fName = (ds.getD i default).fName)) (some false) (pentaglotref02_Dimensions.j3 M h1 ds i)) (fun k _ => by
      rw [hlen]
      simp (disch := omega) only [pentaglotref02_Dimensions.l2, pentaglotref02_Dimensions.s2, ↓cneg (Int.lt_irrefl _), List.any_nil, cond_false]) (fun k q x r _ hq hx ih => by
      have ih := ih ()
      rw [hlen] at hq
      have hx' : ds.getD q default = x := by rw [← hx]; simp [List.getElem?_take, hq]
      simp (disch := omega) only [pentaglotref02_Dimensions.l2, pentaglotref02_Dimensions.s2, Int.toNat_natCast, ↓cpos, ↓cpos2, wsucc, hx', ih, List.any_cons]
      cases decide (x.fName = (ds.getD i default).fName) <;> rfl) (k := M) (by omega) ())
  unfold pentaglotref02_Dimensions pentaglotref02_Dimensions.s dimsOk
  by_cases h4 : ds.length ≤ 4
  · rw [cneg (by omega)]
    have key := overI (xs := ds) (f := fun k i (_ : Unit) => pentaglotref02_Dimensions.l1 M k ds i) (g := fun i r _ => some (dimsF ds i r)) (fun k _ => by
      simp only [pentaglotref02_Dimensions.l1, pentaglotref02_Dimensions.s1, ↓cneg (Int.lt_irrefl _), dimsF]) (fun k i d r _ hi hx _ _ ih => by
      have ih := ih ()
      obtain ⟨hn, hvl, hv⟩ := hf _ (getD_mem hi)
      have hp := prev (pentaglotref02_Dimensions.l1 M k) i hi
      have hvs := vals (pentaglotref02_Dimensions.l1 M k) i hi
      rw [hx] at hn hp hvs
      simp (disch := omega) only [pentaglotref02_Dimensions.l1, pentaglotref02_Dimensions.s1, Int.toNat_natCast, ↓cpos, ↓cpos2, wsucc, hx, hvs, hp, ih, ref02_Name_eq hM hn, Option.bind_some, cnot, dimsF, dimOk]
      cases isName d.fName with
      | false => rfl
      | true =>
        by_cases h1 : 1 ≤ d.fValues.length
        · rw [cneg (by omega)]
          by_cases h8 : d.fValues.length ≤ 8
          · rw [cneg (by omega)]
            simp only [h1, h8, decide_true]
            cases valsF d.fValues 0 d.fValues <;> cases (ds.take i).any (fun e => decide (e.fName = d.fName)) <;> rfl
          · rw [cpos (by omega)]; simp [h8]
        · rw [cpos (by omega)]; simp [h1]) (k := M) (by omega) ()
    simp only [h4, decide_true, Bool.true_and]
    exact key
  · rw [cpos (by omega)]; simp [h4]

/-- What valid dimensions are. -/
structure GoodDims (ds : List api_Dimension) : Prop where
  four : ds.length ≤ 4
  vals : ∀ d ∈ ds, 1 ≤ d.fValues.length ∧ d.fValues.length ≤ 8
  names : ds.Pairwise fun d e => d.fName ≠ e.fName
  good : ∀ d ∈ ds, isName d.fName = true ∧ ∀ v ∈ d.fValues, isName v = true

theorem valsF_names {vals : List (List UInt8)} : ∀ {r : List (List UInt8)} {i : Nat}, valsF vals i r = true → ∀ v ∈ r, isName v = true
  | [], _, _, v, hv => by cases hv
  | x :: r, i, h, v, hv => by
    simp only [valsF, Bool.and_eq_true] at h
    rcases List.mem_cons.1 hv with rfl | hv
    · exact h.1.1
    · exact valsF_names h.2 v hv

theorem dimsF_good {all : List api_Dimension} : ∀ {r : List api_Dimension} {i : Nat}, all.drop i = r → dimsF all i r = true →
    (∀ d ∈ r, 1 ≤ d.fValues.length ∧ d.fValues.length ≤ 8) ∧ (r.Pairwise fun d e => d.fName ≠ e.fName) ∧ (∀ d ∈ r, isName d.fName = true ∧ ∀ v ∈ d.fValues, isName v = true) ∧ ∀ d ∈ all.take i, ∀ e ∈ r, d.fName ≠ e.fName
  | [], i, _, _ => ⟨fun d h => (by cases h), List.Pairwise.nil, fun d h => (by cases h), fun d _ e h => (by cases h)⟩
  | d :: r, i, hd, h => by
    simp only [dimsF, dimOk, Bool.and_eq_true, decide_eq_true_eq, Bool.not_eq_true', List.any_eq_false] at h
    obtain ⟨⟨⟨⟨⟨h1, h2⟩, h3⟩, h4⟩, h5⟩, h6⟩ := h
    have hi : i < all.length := by
      rcases Nat.lt_or_ge i all.length with h | h
      · exact h
      · rw [List.drop_of_length_le h] at hd; cases hd
    have hd' : all.drop (i + 1) = r := by
      have := List.drop_eq_getElem_cons hi
      rw [hd] at this
      exact (List.cons.inj this).2.symm
    have hdi : all[i] = d := by
      have := List.drop_eq_getElem_cons hi
      rw [hd] at this
      exact (List.cons.inj this).1.symm
    obtain ⟨g1, g2, g3, g4⟩ := dimsF_good hd' h6
    have htake : all.take (i + 1) = all.take i ++ [d] := by rw [List.take_succ_eq_append_getElem hi, hdi]
    rw [htake] at g4
    refine ⟨fun e he => ?_, List.pairwise_cons.2 ⟨fun e he => g4 d (by simp) e he, g2⟩, fun e he => ?_, fun c hc e he => ?_⟩
    · rcases List.mem_cons.1 he with rfl | he
      · exact ⟨h2, h3⟩
      · exact g1 e he
    · rcases List.mem_cons.1 he with rfl | he
      · exact ⟨h1, valsF_names h4⟩
      · exact g3 e he
    · rcases List.mem_cons.1 he with rfl | he
      · have := h5 c hc
        simpa using this
      · exact g4 c (by simp [hc]) e he

theorem dimsOk_good {ds : List api_Dimension} (h : dimsOk ds = true) : GoodDims ds := by
  simp only [dimsOk, Bool.and_eq_true, decide_eq_true_eq] at h
  obtain ⟨h1, h2, h3, h4⟩ := dimsF_good (i := 0) (by simp) h.2
  exact ⟨h.1, h1, h2, h3⟩

end Go.Ai.Pav
namespace Go.Ai.Pav
open Go Go.Ai
variable {M : Nat}

/-! ### All records -/
def choices : List api_Dimension → List (List api_Feature)
  | [] => [[]]
  | d :: ds => d.fValues.flatMap fun v => (choices ds).map (⟨d.fName, v⟩ :: ·)

def prod : List api_Dimension → Nat
  | [] => 1
  | d :: ds => d.fValues.length * prod ds

theorem choices_length : ∀ ds : List api_Dimension, (choices ds).length = prod ds
  | [] => rfl
  | d :: ds => by
    simp only [choices, prod, List.length_flatMap, List.length_map, choices_length ds]
    rw [List.map_const', List.sum_replicate_nat]

theorem prod_le : ∀ {ds : List api_Dimension}, (∀ d ∈ ds, d.fValues.length ≤ 8) → prod ds ≤ 8 ^ ds.length
  | [], _ => Nat.le_refl _
  | d :: ds, h => by
    simp only [prod, List.length_cons, Nat.pow_succ]
    rw [Nat.mul_comm]
    exact Nat.mul_le_mul (prod_le fun d hd => h d (List.mem_cons_of_mem _ hd)) (h d (by simp))

theorem prod_pos : ∀ {ds : List api_Dimension}, (∀ d ∈ ds, 1 ≤ d.fValues.length) → 0 < prod ds
  | [], _ => Nat.zero_lt_one
  | d :: ds, h => Nat.mul_pos (h d (by simp)) (prod_pos fun d hd => h d (List.mem_cons_of_mem _ hd))

theorem choices_names : ∀ {ds : List api_Dimension} {c : List api_Feature}, c ∈ choices ds → c.map (·.fName) = ds.map (·.fName)
  | [], c, h => by simp [choices] at h; simp [h]
  | d :: ds, c, h => by
    simp only [choices, List.mem_flatMap, List.mem_map] at h
    obtain ⟨v, _, c', hc, rfl⟩ := h
    simp [choices_names hc]

theorem distinct_of_names {c : List api_Feature} {ds : List api_Dimension} (h : c.map (·.fName) = ds.map (·.fName)) (hd : ds.Pairwise fun d e => d.fName ≠ e.fName) : Distinct c := by
  have h1 : (ds.map (·.fName)).Pairwise (· ≠ ·) := List.pairwise_map.2 hd
  rw [← h] at h1
  exact List.pairwise_map.1 h1

def allF (ds : List api_Dimension) : List (List api_Feature) := (choices ds).map rec

theorem allF_length (ds : List api_Dimension) : (allF ds).length = prod ds := by simp [allF, choices_length]

theorem allV (hM : 1048576 < M) {ds : List api_Dimension} (hg : GoodDims ds) : ∀ (r : List api_Dimension) (i k : Nat) (c : List api_Feature), ds.drop i = r → i + r.length = ds.length → r.length < k → c.length = i →
    feature_All_1_1.V M k ds ds ((i : Int), c) = some ((choices r).map fun x => sortF (c ++ x)) := by
  have h4 := hg.four
  intro r
  induction r with
  | nil =>
    intro i k c hd hi hk hc
    obtain ⟨k, rfl⟩ := Nat.exists_eq_succ_of_ne_zero (by omega : k ≠ 0)
    simp only [List.length_nil] at hi
    have e : @feature_All_1_1 ⟨feature_All_1_1.V M k ds ds⟩ M (i : Int) c ds = some ([sortF c], true) := by
      unfold feature_All_1_1 feature_All_1_1.s
      simp (disch := first | omega | (simp only [len, len0]; omega)) only [↓cpos, List.nil_append, sortFeatures_eq, Option.bind_some]
      rfl
    simp only [Nat.succ_eq_add_one, feature_All_1_1.V]
    rw [e]
    simp [choices]
  | cons d r ih =>
    intro i k c hd hi hk hc
    simp only [List.length_cons] at hi hk
    obtain ⟨k, rfl⟩ := Nat.exists_eq_succ_of_ne_zero (by omega : k ≠ 0)
    have hil : i < ds.length := by omega
    obtain ⟨d', r', g1, g2, g3⟩ := dropCons hil
    rw [hd] at g1
    cases g1
    obtain ⟨v1, v2⟩ := hg.vals d (by rw [← g2]; exact getD_mem hil)
    have e : @feature_All_1_1 ⟨feature_All_1_1.V M k ds ds⟩ M (i : Int) c ds = some (d.fValues.flatMap fun v => (choices r).map fun x => sortF (c ++ [⟨d.fName, v⟩] ++ x), true) := by
      unfold feature_All_1_1 feature_All_1_1.s
      simp (disch := omega) only [↓cneg, ↓cpos2]
      refine over (xs := d.fValues) (f := fun q x (_ : Unit) => @feature_All_1_1.l1 ⟨feature_All_1_1.V M k ds ds⟩ M q ds c (i : Int) x) (g := fun vs _ => some (vs.flatMap fun v => (choices r).map fun x => sortF (c ++ [⟨d.fName, v⟩] ++ x), true)) (fun q _ => by
        simp only [feature_All_1_1.l1, feature_All_1_1.s1, Int.toNat_natCast, g2, ↓cneg (Int.lt_irrefl _)]
        rfl) (fun q j v vs _ hj hv ih' => by
        have ih' := ih' ()
        have ihv := ih (i + 1) k (c ++ [⟨d.fName, v⟩]) g3 (by omega) (by omega) (by simp [hc])
        have hct : c.take i = c := by rw [List.take_of_length_le (by omega)]
        have hlim : (c.length + [(⟨d.fName, v⟩ : api_Feature)].length ≤ lim) := by simp only [len, len0]; omega
        simp only [feature_All_1_1.l1, feature_All_1_1.s1, Int.toNat_natCast, g2, hct, hv]
        rw [cpos (by omega), cpos2 (by omega) (by omega)]
        rw [cpos3 (by omega) (by omega) trivial]
        rw [cpos2 (by omega) (by omega), cpos2 (by simp) hlim]
        rw [wsucc (by omega), wsucc (by omega), ihv, ih']
        simp only [Option.bind_some, Bool.not_true, Bool.not_false, cond_true, cond_false, emits2, List.flatMap_cons]) (k := M) (by omega) ()
    simp only [Nat.succ_eq_add_one, feature_All_1_1.V]
    rw [e]
    simp only [choices, List.map_flatMap, List.map_map]
    congr 1
    congr 1
    funext v
    congr 1
    funext x
    simp

theorem feature_All_eq (hM : 1048576 < M) {ds : List api_Dimension} (hd : okDims ds) : feature_All_1 M ds = some (cond (dimsOk ds) (allF ds) []) := by
  unfold feature_All_1 feature_All_1.s
  rw [feature_dimensions_eq hM hd, Option.bind_some]
  cases h : dimsOk ds with
  | false => rfl
  | true =>
    have hg := dimsOk_good h
    have h4 := hg.four
    have := allV hM hg ds 0 M [] (by simp) (by simp) (by omega) rfl
    simp only [Bool.not_true, cond_false, cond_true]
    have e : ((0 : Nat) : Int) = 0 := rfl
    rw [e] at this
    rw [this]
    simp only [Option.bind_some, emits, List.append_nil, List.nil_append, allF]
    congr 1
    refine List.map_congr_left fun c hc => ?_
    exact sortF_rec (distinct_of_names (choices_names hc) hg.names)

/-! ### The reference's list of all records -/
def stepAll (d : api_Dimension) (out : List (List api_Feature)) : List (List api_Feature) := out.flatMap fun r => d.fValues.map fun v => put r ⟨d.fName, v⟩

theorem foldAll : ∀ (ds : List api_Dimension) (out : List (List api_Feature)), ds.foldl (fun o d => stepAll d o) out = out.flatMap fun r => (choices ds).map fun c => c.foldl put r
  | [], out => by simp [choices]
  | d :: ds, out => by
    rw [List.foldl_cons, foldAll ds, stepAll]
    simp only [choices, List.flatMap_assoc, List.flatMap_map, List.map_flatMap, List.map_map]
    rfl

end Go.Ai.Pav
namespace Go.Ai.Pav
open Go Go.Ai
variable {M : Nat}

/-! ### Counting cells -/
def count (ds : List api_Dimension) : Nat := cond (dimsOk ds) (prod ds) 0
def cells (ds : List api_Dimension) : List (List api_Feature) := cond (dimsOk ds) (allF ds) []

theorem cells_length (ds : List api_Dimension) : (cells ds).length = count ds := by
  unfold cells count
  cases dimsOk ds <;> simp [allF_length]

theorem count_le (ds : List api_Dimension) : count ds ≤ 4096 := by
  unfold count
  cases h : dimsOk ds with
  | false => simp
  | true =>
    have hg := dimsOk_good h
    have h1 := prod_le fun d hd => (hg.vals d hd).2
    have h2 : 8 ^ ds.length ≤ 8 ^ 4 := Nat.pow_le_pow_right (by omega) hg.four
    simp only [cond_true]
    have : (8 : Nat) ^ 4 = 4096 := by decide
    omega

theorem paradigm_Count_eq (hM : 1048576 < M) {p : api_Paradigm} (hd : okDims p.fDimensions) : paradigm_Count M p = some (count p.fDimensions : Int) := by
  obtain ⟨k, hk⟩ := Nat.exists_eq_succ_of_ne_zero (by omega : M ≠ 0)
  unfold paradigm_Count paradigm_Count.s
  rw [feature_All_eq hM hd, Option.bind_some]
  have e : ∀ l, paradigm_Count.l1 M M p l = lcase l (some 0) (fun _ xs => paradigm_Count.l2 M M p xs 1 0) := by
    intro l
    conv => lhs; arg 2; rw [hk]
    simp only [Nat.succ_eq_add_one, paradigm_Count.l1, paradigm_Count.s1]
  rw [e]
  unfold count
  cases h : dimsOk p.fDimensions with
  | false => rfl
  | true =>
    have hg := dimsOk_good h
    have h4 := hg.four
    simp only [cond_true]
    have hpos : 0 < (allF p.fDimensions).length := by rw [allF_length]; exact prod_pos fun d hd => (hg.vals d hd).1
    cases hl : allF p.fDimensions with
    | nil => rw [hl] at hpos; simp at hpos
    | cons x xs =>
      simp only [lcase]
      have key := overJ (xs := p.fDimensions) (f := fun k i (n : Nat) => paradigm_Count.l2 M k p xs (n : Int) i) (g := fun _ r n => some ((n * prod r : Nat) : Int)) (I := fun i n => n ≤ 8 ^ i) (fun k n _ => by
        simp only [paradigm_Count.l2, paradigm_Count.s2, ↓cneg (Int.lt_irrefl _), prod, Nat.mul_one]) (fun k i d r n hi hn hx _ _ ih => by
        obtain ⟨v1, v2⟩ := hg.vals d (by rw [← hx]; exact getD_mem hi)
        have h8 : 8 ^ i ≤ 8 ^ 3 := Nat.pow_le_pow_right (by omega) (by omega)
        have h8' : (8 : Nat) ^ 3 = 512 := by decide
        have hb : n * d.fValues.length ≤ 512 * 8 := Nat.mul_le_mul (by omega) v2
        have hw : IntKind.i64.wrap ((n : Int) * (d.fValues.length : Int)) = ((n * d.fValues.length : Nat) : Int) := by
          rw [wrap64]
          · simp
          · have : (0 : Int) ≤ (n : Int) * (d.fValues.length : Int) := Int.mul_nonneg (by omega) (by omega)
            omega
          · have : ((n * d.fValues.length : Nat) : Int) ≤ 4096 := by omega
            simp at this
            omega
        simp (disch := omega) only [paradigm_Count.l2, paradigm_Count.s2, Int.toNat_natCast, ↓cpos, ↓cpos2, hx, hw, wsucc]
        rw [ih _ (by rw [Nat.pow_succ]; exact Nat.mul_le_mul hn v2)]
        simp only [prod, Nat.mul_assoc]) (k := M) (by omega) (s := 1) (by simp)
      simp only [Nat.one_mul] at key
      exact key

def cellS (ds : List api_Dimension) (n : Int) : List api_Feature × Bool := cond (decide (0 ≤ n) && decide (n < (count ds : Int))) ((cells ds).getD n.toNat default, true) ([], false)

theorem paradigm_Cell_eq (hM : 1048576 < M) {p : api_Paradigm} (hd : okDims p.fDimensions) (n : Int) : paradigm_Cell M p n = some (cellS p.fDimensions n) := by
  unfold paradigm_Cell paradigm_Cell.s cellS
  rw [paradigm_Count_eq hM hd, feature_All_eq hM hd]
  simp only [Option.bind_some]
  have hc := count_le p.fDimensions
  by_cases h0 : n < 0
  · rw [cpos h0, cneg2 (by omega)]
  · rw [cneg h0]
    by_cases h1 : (count p.fDimensions : Int) ≤ n
    · rw [cpos h1, cneg2 (by omega)]
    · rw [cneg h1, cpos2 (by omega) (by omega)]
      have key : ∀ (xs : List (List api_Feature)) (k i : Nat), xs.length < k → (i : Int) ≤ n → n < i + xs.length → i + xs.length ≤ 4096 → paradigm_Cell.l1 M k n xs i = some (xs.getD (n.toNat - i) default, true) := by
        intro xs
        induction xs with
        | nil => intro k i hk h2 h3; simp at h3; omega
        | cons x xs ih =>
          intro k i hk h2 h3 h4
          simp only [List.length_cons] at hk h3 h4
          obtain ⟨k, rfl⟩ := Nat.exists_eq_succ_of_ne_zero (by omega : k ≠ 0)
          simp only [Nat.succ_eq_add_one, paradigm_Cell.l1, paradigm_Cell.s1, lcase]
          by_cases hin : (i : Int) = n
          · rw [cpos hin]
            have : n.toNat - i = 0 := by omega
            rw [this]; rfl
          · rw [cneg hin, wsucc (by omega), ih k (i + 1) (by omega) (by omega) (by omega) (by omega)]
            have : n.toNat - i = n.toNat - (i + 1) + 1 := by omega
            rw [this]; rfl
      have := key (cells p.fDimensions) M 0 (by rw [cells_length]; omega) (by omega) (by rw [cells_length]; omega) (by rw [cells_length]; omega)
      simpa [cells] using this

/-! ### The number of a cell -/
def numD (cell : List api_Feature) : List api_Dimension → Int → Option Int
  | [], n => some n
  | d :: ds, n => match getF cell d.fName with
    | none => none
    | some v => cond (decide (fstIdx (fun x => decide (v = x)) d.fValues 0 < 0)) none (numD cell ds (n * d.fValues.length + fstIdx (fun x => decide (v = x)) d.fValues 0))

def numP (ds : List api_Dimension) (cell : List api_Feature) : Int := cond (decide (cell.length = ds.length) && dimsOk ds) (match numD cell ds 0 with
  | none => -1
  | some n => cond (isRec cell) n (-1)) (-1)

theorem paradigm_Number_eq (hM : 1048576 < M) {p : api_Paradigm} (hd : okDims p.fDimensions) {cell : List api_Feature} (hc : cell.length ≤ 1048576) : paradigm_Number M p cell = some (numP p.fDimensions cell) := by
  unfold paradigm_Number paradigm_Number.s numP
  rw [paradigm_Count_eq hM hd, Option.bind_some]
  by_cases hl : cell.length = p.fDimensions.length
  · have e : (!decide ((cell.length : Int) = (p.fDimensions.length : Int))) = false := by simp [hl]
    rw [e, cond_false]
    cases h : dimsOk p.fDimensions with
    | false =>
      have : count p.fDimensions = 0 := by simp [count, h]
      rw [this]; simp
    | true =>
      have hg := dimsOk_good h
      have h4 := hg.four
      have hcp : count p.fDimensions ≠ 0 := by
        have := prod_pos fun d hd => (hg.vals d hd).1
        simp [count, h]; omega
      rw [cneg (by omega)]
      simp only [hl, decide_true, Bool.and_self, cond_true]
      have fin : ∀ n : Int, paradigm_Number.j2 M cell n = some (cond (isRec cell) n (-1)) := by
        intro n
        unfold paradigm_Number.j2 paradigm_Number.s2 isRec
        cases cell with
        | nil =>
          obtain ⟨k, rfl⟩ := Nat.exists_eq_succ_of_ne_zero (by omega : M ≠ 0)
          rfl
        | cons f r =>
          have key := uptoFrom (lo := 1) (n := (f :: r).length) (f := fun k i (_ : Unit) => paradigm_Number.l3 M k (f :: r) n i) (g := fun i _ => some (cond (asc (some ((f :: r).getD (i - 1) default)) ((f :: r).drop i)) n (-1))) (fun k _ => by
            simp only [paradigm_Number.l3, paradigm_Number.s3, ↓cneg (Int.lt_irrefl _), List.drop_length, asc, cond_true]) (fun k i _ hlo hi ih => by
            have ih := ih ()
            obtain ⟨i, rfl⟩ := Nat.exists_eq_succ_of_ne_zero (by omega : i ≠ 0)
            obtain ⟨y, t, e2, g2, e3⟩ := dropCons (xs := f :: r) (i := i + 1) hi
            have w : IntKind.i64.wrap (((i + 1 : Nat) : Int) - 1) = (i : Int) := by rw [wrap64] <;> omega
            simp only [Nat.succ_eq_add_one, Nat.add_sub_cancel, g2, e3] at ih ⊢
            simp (disch := omega) only [paradigm_Number.l3, paradigm_Number.s3, w, ↓cpos, ↓cpos2, Int.toNat_natCast, wsucc, ih, e2, g2, asc, cnot]
            cases Op.bytesLess ((f :: r).getD i default).fName y.fName <;> rfl) r.length M 1 () (by omega) (by simp; omega) (by simp at hc; omega)
          exact key
      have key := overJ (xs := p.fDimensions) (f := fun k i (n : Int) => paradigm_Number.l1 M k cell p n i) (g := fun _ r n => some (match numD cell r n with
          | none => -1
          | some n => cond (isRec cell) n (-1))) (I := fun i n => 0 ≤ n ∧ n < ((8 ^ i : Nat) : Int)) (fun k n _ => by
        simp only [paradigm_Number.l1, paradigm_Number.s1, ↓cneg (Int.lt_irrefl _), numD, fin]) (fun k i d r n hi hn hx _ _ ih => by
        obtain ⟨hn1, hn2⟩ := hn
        obtain ⟨v1, v2⟩ := hg.vals d (by rw [← hx]; exact getD_mem hi)
        have h8 : 8 ^ i ≤ 8 ^ 3 := Nat.pow_le_pow_right (by omega) (by omega)
        have h8' : (8 : Nat) ^ 3 = 512 := by decide
        simp (disch := omega) only [paradigm_Number.l1, paradigm_Number.s1, Int.toNat_natCast, ↓cpos, ↓cpos2, hx, feature_Get_eq hM hc, slices_Index_eq hM, Option.bind_some, wsucc, cnot, numD]
        cases hgf : getF cell d.fName with
        | none => rfl
        | some v =>
          simp only [Option.getD_some, Option.isSome_some, cond_true]
          have hlt := fstIdx_lt (fun x => decide (v = x)) d.fValues
          by_cases hk : fstIdx (fun x => decide (v = x)) d.fValues 0 < 0
          · rw [cpos hk, cpos hk]
          · rw [cneg hk, cneg hk]
            have hnl : n * (d.fValues.length : Int) ≤ 512 * 8 := Int.mul_le_mul (by omega) (by omega) (by omega) (by omega)
            have hnl0 : 0 ≤ n * (d.fValues.length : Int) := Int.mul_nonneg hn1 (by omega)
            have hpow : n * (d.fValues.length : Int) + (d.fValues.length : Int) ≤ ((8 ^ (i + 1) : Nat) : Int) := by
              have e1 : (n + 1) * (d.fValues.length : Int) ≤ ((8 ^ i : Nat) : Int) * 8 := Int.mul_le_mul (by omega) (by omega) (by omega) (by omega)
              have e2 : (n + 1) * (d.fValues.length : Int) = n * (d.fValues.length : Int) + d.fValues.length := by rw [Int.add_mul, Int.one_mul]
              have e3 : ((8 ^ (i + 1) : Nat) : Int) = ((8 ^ i : Nat) : Int) * 8 := by rw [Nat.pow_succ]; simp
              omega
            rw [wrap64 (n := n * (d.fValues.length : Int)) (by omega) (by omega), wrap64 (by omega) (by omega)]
            exact ih _ ⟨by omega, by omega⟩) (k := M) (by omega) (s := 0) ⟨by omega, by simp⟩
      exact key
  · have e : (!decide ((cell.length : Int) = (p.fDimensions.length : Int))) = true := by simp; omega
    rw [e, cond_true]
    simp [hl]

def numR (ds : List api_Dimension) (cell : List api_Feature) : Int := fstIdx (fun c => decide (c = cell)) (cells ds) 0

theorem choices_mem_length {ds : List api_Dimension} {c : List api_Feature} (h : c ∈ choices ds) : c.length = ds.length := by
  have := congrArg List.length (choices_names h)
  simpa using this

theorem rec_length (c : List api_Feature) : (rec c).length = c.length := by
  have key : ∀ (c acc : List api_Feature), (c.foldl put acc).length = acc.length + c.length := by
    intro c
    induction c with
    | nil => intro acc; rfl
    | cons x c ih => intro acc; rw [List.foldl_cons, ih, put_length]; simp; omega
  unfold rec
  rw [key]; simp

theorem cells_mem {ds : List api_Dimension} {c : List api_Feature} (h : c ∈ cells ds) : Asc c ∧ c.length = ds.length ∧ c.length ≤ 4 := by
  unfold cells at h
  cases hd : dimsOk ds with
  | false => rw [hd] at h; cases h
  | true =>
    rw [hd] at h
    have hg := dimsOk_good hd
    simp only [cond_true, allF, List.mem_map] at h
    obtain ⟨c', hc', rfl⟩ := h
    refine ⟨rec_asc (distinct_of_names (choices_names hc') hg.names), by rw [rec_length, choices_mem_length hc'], by rw [rec_length, choices_mem_length hc']; exact hg.four⟩

end Go.Ai.Pav
namespace Go.Ai.Pav
open Go Go.Ai

/-! ### The two numbers of a cell are one -/
theorem fstIdx_append {α : Type} (p : α → Bool) : ∀ (xs ys : List α) (i : Nat), fstIdx p (xs ++ ys) i = cond (xs.any p) (fstIdx p xs i) (fstIdx p ys (i + xs.length))
  | [], ys, i => rfl
  | x :: xs, ys, i => by
    simp only [List.cons_append, fstIdx, List.any_cons, fstIdx_append p xs ys (i + 1), List.length_cons]
    cases p x with
    | true => rfl
    | false =>
      simp only [cond_false, Bool.false_or]
      rw [show i + 1 + xs.length = i + (xs.length + 1) by omega]

theorem fstIdx_map {α β : Type} (p : β → Bool) (f : α → β) : ∀ (xs : List α) (i : Nat), fstIdx p (xs.map f) i = fstIdx (fun x => p (f x)) xs i
  | [], _ => rfl
  | x :: xs, i => by simp only [List.map_cons, fstIdx, fstIdx_map p f xs]

theorem fstIdx_congr {α : Type} {p q : α → Bool} : ∀ {xs : List α} (i : Nat), (∀ x ∈ xs, p x = q x) → fstIdx p xs i = fstIdx q xs i
  | [], _, _ => rfl
  | x :: xs, i, h => by simp only [fstIdx, h x (by simp), fstIdx_congr (i + 1) fun y hy => h y (List.mem_cons_of_mem _ hy)]

theorem fstIdx_none {α : Type} {p : α → Bool} : ∀ {xs : List α} (i : Nat), (∀ x ∈ xs, p x = false) → fstIdx p xs i = -1
  | [], _, _ => rfl
  | x :: xs, i, h => by simp only [fstIdx, h x (by simp), cond_false, fstIdx_none (i + 1) fun y hy => h y (List.mem_cons_of_mem _ hy)]

theorem fstIdx_shift {α : Type} (p : α → Bool) (xs : List α) (i : Nat) : fstIdx p xs i = cond (xs.any p) (fstIdx p xs 0 + i) (-1) := by
  rcases fstIdx_cases p xs i with ⟨h1, h2⟩ | ⟨j, h, h1, h2, h3, h4⟩
  · rw [h1, h2]; rfl
  · rcases fstIdx_cases p xs 0 with ⟨g1, g2⟩ | ⟨j', g, g1, g2, g3, g4⟩
    · rw [g1] at h4; cases h4
    · rw [h4, h3, g3]
      have : j = j' := by
        rcases Nat.lt_trichotomy j j' with h' | h' | h'
        · have := g2 j h'; rw [h1] at this; cases this
        · exact h'
        · have := h2 j' h'; rw [g1] at this; cases this
      subst this
      simp only [cond_true]
      omega

theorem fstIdx_flat {n v : List UInt8} {rest : List api_Feature} {L : List (List api_Feature)} : ∀ (vals : List (List UInt8)) (i : Nat),
    fstIdx (fun c => decide (c = ⟨n, v⟩ :: rest)) (vals.flatMap fun v' => L.map (⟨n, v'⟩ :: ·)) i = cond ((vals.any fun x => decide (v = x)) && (L.any fun c => decide (c = rest))) (i + fstIdx (fun x => decide (v = x)) vals 0 * L.length + fstIdx (fun c => decide (c = rest)) L 0) (-1)
  | [], i => rfl
  | v' :: vals, i => by
    simp only [List.flatMap_cons]
    rw [fstIdx_append, fstIdx_map, fstIdx_flat vals]
    have hany : (L.map (⟨n, v'⟩ :: ·)).any (fun c => decide (c = ⟨n, v⟩ :: rest)) = (decide (v = v') && L.any fun c => decide (c = rest)) := by
      rw [List.any_map]
      by_cases h : v = v'
      · subst h; simp only [decide_true, Bool.true_and]; congr 1; funext c; simp
      · simp only [h, decide_false, Bool.false_and]
        rw [List.any_eq_false]
        intro c _
        simp only [Function.comp_apply, List.cons.injEq, api_Feature.mk.injEq, decide_eq_true_eq]
        intro h'
        exact h h'.1.2.symm
    rw [hany]
    simp only [List.any_cons, fstIdx, List.length_map]
    by_cases h : v = v'
    · subst h
      simp only [decide_true, Bool.true_and, Bool.true_or, cond_true]
      cases hL : L.any (fun c => decide (c = rest)) with
      | false =>
        simp
      | true =>
        simp only [cond_true, Bool.true_and]
        have : fstIdx (fun x => decide ((⟨n, v⟩ :: x : List api_Feature) = ⟨n, v⟩ :: rest)) L i = fstIdx (fun c => decide (c = rest)) L i := fstIdx_congr i fun c _ => by simp
        rw [this, fstIdx_shift, hL]
        simp only [cond_true]
        omega
    · simp only [h, decide_false, Bool.false_and, Bool.false_or, cond_false]
      cases hv : vals.any (fun x => decide (v = x)) with
      | false => simp
      | true =>
        cases hL : L.any (fun c => decide (c = rest)) with
        | false => simp
        | true =>
          simp only [Bool.true_and, cond_true]
          have := fstIdx_shift (fun x => decide (v = x)) vals 1
          rw [hv, cond_true] at this
          rw [show (0 : Nat) + 1 = 1 from rfl, this, Int.add_mul]
          simp
          omega

def pick (cell : List api_Feature) (ds : List api_Dimension) : List api_Feature := ds.map fun d => ⟨d.fName, (getF cell d.fName).getD []⟩

def fits (cell : List api_Feature) (ds : List api_Dimension) : Bool := ds.all fun d => (getF cell d.fName).isSome && d.fValues.any fun x => decide ((getF cell d.fName).getD [] = x)

theorem numD_eq {cell : List api_Feature} : ∀ (ds : List api_Dimension) (n : Int), numD cell ds n = cond (fits cell ds) (some (n * (prod ds : Int) + fstIdx (fun c => decide (c = pick cell ds)) (choices ds) 0)) none
  | [], n => by simp [numD, fits, prod, choices, pick, fstIdx]
  | d :: ds, n => by
    have hany : (choices ds).any (fun c => decide (c = pick cell ds)) = true ∨ fits cell ds = false := by
      have key : ∀ ds : List api_Dimension, fits cell ds = true → pick cell ds ∈ choices ds := by
        intro ds
        induction ds with
        | nil => intro _; simp [pick, choices]
        | cons d ds ih =>
          intro h
          simp only [fits, List.all_cons, Bool.and_eq_true] at h
          simp only [pick, List.map_cons, choices, List.mem_flatMap, List.mem_map]
          obtain ⟨x, hx, e⟩ := List.any_eq_true.1 h.1.2
          have e := of_decide_eq_true e
          exact ⟨x, hx, pick cell ds, ih h.2, by rw [e]; rfl⟩
      cases h : fits cell ds with
      | false => exact .inr rfl
      | true => exact .inl (List.any_eq_true.2 ⟨_, key ds h, by simp⟩)
    simp only [numD, fits, List.all_cons]
    cases hg : getF cell d.fName with
    | none => rfl
    | some v =>
      simp only [Option.isSome_some, Option.getD_some, Bool.true_and]
      have hn := fstIdx_nonneg (fun x => decide (v = x)) d.fValues 0
      cases hv : d.fValues.any (fun x => decide (v = x)) with
      | false =>
        rw [hv] at hn
        have : fstIdx (fun x => decide (v = x)) d.fValues 0 < 0 := by have := of_decide_eq_false hn; omega
        rw [cpos this]; rfl
      | true =>
        rw [hv] at hn
        have : ¬ fstIdx (fun x => decide (v = x)) d.fValues 0 < 0 := by have := of_decide_eq_true hn; omega
        rw [cneg this, numD_eq ds]
        simp only [Bool.true_and]
        show cond (fits cell ds) _ _ = cond (fits cell ds) _ _
        rcases hany with hany | hf
        · cases hf : fits cell ds with
          | false => rfl
          | true =>
            have hp : pick cell (d :: ds) = ⟨d.fName, v⟩ :: pick cell ds := by simp [pick, hg]
            simp only [cond_true, hp, choices]
            rw [fstIdx_flat, hv, hany]
            simp only [Bool.true_and, cond_true, choices_length, prod]
            congr 1
            rw [Int.add_mul, Int.mul_assoc]
            simp
            omega
        · rw [hf]; rfl

theorem getF_mem {r : List api_Feature} {n v : List UInt8} (h : getF r n = some v) : (⟨n, v⟩ : api_Feature) ∈ r := by
  induction r with
  | nil => cases h
  | cons f r ih =>
    simp only [getF] at h
    by_cases hn : f.fName = n
    · rw [if_pos hn] at h
      cases h; subst hn
      simp
    · rw [if_neg hn] at h
      exact List.mem_cons_of_mem _ (ih h)

theorem getF_of_mem {r : List api_Feature} (hd : Distinct r) {f : api_Feature} (h : f ∈ r) : getF r f.fName = some f.fValue := by
  induction r with
  | nil => cases h
  | cons e r ih =>
    obtain ⟨h1, h2⟩ := List.pairwise_cons.1 hd
    simp only [getF]
    rcases List.mem_cons.1 h with rfl | h
    · rw [if_pos rfl]
    · rw [if_neg (h1 f h)]
      exact ih h2 h

theorem asc_distinct {r : List api_Feature} (h : Asc r) : Distinct r := h.imp fun h => bl_ne h

theorem asc_sub : ∀ {b a : List api_Feature}, Asc a → Asc b → (∀ x ∈ a, x ∈ b) → a.Sublist b
  | [], a, _, _, h => by
    cases a with
    | nil => exact List.Sublist.slnil
    | cons x a => have := h x (by simp); cases this
  | y :: b, [], _, _, _ => List.nil_sublist _
  | y :: b, x :: a, ha, hb, h => by
    obtain ⟨ha1, ha2⟩ := List.pairwise_cons.1 ha
    obtain ⟨hb1, hb2⟩ := List.pairwise_cons.1 hb
    have later : ∀ z ∈ a, z ∈ b := fun z hz => by
      rcases List.mem_cons.1 (h z (List.mem_cons_of_mem _ hz)) with rfl | hz'
      · exfalso
        have h1 := ha1 z hz
        rcases List.mem_cons.1 (h x (by simp)) with rfl | hx
        · unfold ltB at h1; rw [bl_irrefl] at h1; cases h1
        · have h2 := hb1 x hx
          have := bl_trans h1 h2
          rw [bl_irrefl] at this; cases this
      · exact hz'
    rcases List.mem_cons.1 (h x (by simp)) with rfl | hx
    · exact List.Sublist.cons_cons _ (asc_sub ha2 hb2 later)
    · refine List.Sublist.cons _ (asc_sub ha hb2 fun z hz => ?_)
      rcases List.mem_cons.1 hz with rfl | hz
      · exact hx
      · exact later z hz

theorem asc_eq {a b : List api_Feature} (ha : Asc a) (hb : Asc b) (h : ∀ x ∈ a, x ∈ b) (hl : a.length = b.length) : a = b := (asc_sub ha hb h).eq_of_length hl

theorem pick_of {cell : List api_Feature} (hc : Distinct cell) : ∀ {ds : List api_Dimension} {c : List api_Feature}, c ∈ choices ds → (∀ f ∈ c, f ∈ cell) → pick cell ds = c ∧ fits cell ds = true
  | [], c, h, _ => by simp [choices] at h; subst h; exact ⟨rfl, rfl⟩
  | d :: ds, c, h, hm => by
    simp only [choices, List.mem_flatMap, List.mem_map] at h
    obtain ⟨v, hv, c', hc', rfl⟩ := h
    obtain ⟨h1, h2⟩ := pick_of hc hc' fun f hf => hm f (List.mem_cons_of_mem _ hf)
    have hg : getF cell d.fName = some v := getF_of_mem hc (hm ⟨d.fName, v⟩ (by simp))
    refine ⟨?_, ?_⟩
    · simp only [pick, List.map_cons, hg, Option.getD_some]
      rw [← h1]; rfl
    · simp only [fits, List.all_cons, hg, Option.isSome_some, Option.getD_some, Bool.true_and, Bool.and_eq_true]
      exact ⟨List.any_eq_true.2 ⟨v, hv, by simp⟩, h2⟩

theorem pick_mem {cell : List api_Feature} : ∀ {ds : List api_Dimension}, fits cell ds = true → ∀ f ∈ pick cell ds, f ∈ cell
  | [], _, f, h => by cases h
  | d :: ds, hf, f, h => by
    simp only [fits, List.all_cons, Bool.and_eq_true] at hf
    simp only [pick, List.map_cons, List.mem_cons] at h
    rcases h with rfl | h
    · cases hg : getF cell d.fName with
      | none => rw [hg] at hf; simp at hf
      | some v => exact getF_mem hg
    · exact pick_mem hf.2 f h

theorem pick_names (cell : List api_Feature) (ds : List api_Dimension) : (pick cell ds).map (·.fName) = ds.map (·.fName) := by simp [pick]

theorem numP_numR (ds : List api_Dimension) (cell : List api_Feature) : numP ds cell = numR ds cell := by
  unfold numP numR cells
  cases hd : dimsOk ds with
  | false => simp [fstIdx]
  | true =>
    have hg := dimsOk_good hd
    simp only [Bool.and_true, cond_true, allF]
    rw [fstIdx_map]
    by_cases hall : cell.length = ds.length ∧ isRec cell = true ∧ fits cell ds = true
    · obtain ⟨h1, h2, h3⟩ := hall
      have ha := isRec_iff.1 h2
      rw [cpos h1, numD_eq, h3]
      simp only [cond_true, h2, Int.zero_mul, Int.zero_add]
      refine fstIdx_congr 0 fun c hc => ?_
      rw [Bool.eq_iff_iff]
      simp only [decide_eq_true_eq]
      have hdc := distinct_of_names (choices_names hc) hg.names
      constructor
      · rintro rfl
        have hdp := distinct_of_names (pick_names cell ds) hg.names
        refine asc_eq (rec_asc hdp) ha (fun x hx => pick_mem h3 x (rec_mem.1 hx)) ?_
        rw [rec_length]; simp [pick, h1]
      · intro e
        exact (pick_of (asc_distinct ha) hc fun f hf => by rw [← e]; exact rec_mem.2 hf).1.symm
    · have hnone : fstIdx (fun x => decide (rec x = cell)) (choices ds) 0 = -1 := by
        refine fstIdx_none 0 fun c hc => ?_
        simp only [decide_eq_false_iff_not]
        intro e
        have hdc := distinct_of_names (choices_names hc) hg.names
        apply hall
        have ha : Asc cell := by rw [← e]; exact rec_asc hdc
        refine ⟨by rw [← e, rec_length, choices_mem_length hc], isRec_iff.2 ha, (pick_of (asc_distinct ha) hc fun f hf => by rw [← e]; exact rec_mem.2 hf).2⟩
      rw [hnone]
      by_cases h1 : cell.length = ds.length
      · rw [cpos h1, numD_eq]
        cases hf : fits cell ds with
        | false => rfl
        | true =>
          simp only [cond_true]
          cases hr : isRec cell with
          | false => rfl
          | true => exact absurd ⟨h1, hr, hf⟩ hall
      · rw [cneg h1]

/-- The number of a cell is where it stands. -/
theorem num_cells {ds : List api_Dimension} {cell : List api_Feature} (h : 0 ≤ numR ds cell) : Asc cell ∧ cell.length = ds.length ∧ cell.length ≤ 4 ∧ cell ∈ cells ds := by
  unfold numR at h
  rcases fstIdx_cases (fun c => decide (c = cell)) (cells ds) 0 with ⟨h1, h2⟩ | ⟨j, hj, h1, h2, h3, h4⟩
  · omega
  · have e := of_decide_eq_true h1
    have hm : cell ∈ cells ds := by rw [← e]; exact List.getElem_mem _
    obtain ⟨a, b, c⟩ := cells_mem hm
    exact ⟨a, b, c, hm⟩

end Go.Ai.Pav
