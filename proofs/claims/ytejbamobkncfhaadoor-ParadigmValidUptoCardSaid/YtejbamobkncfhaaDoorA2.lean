/- A part that the proofs of the laws of this seat share: an interpreter of loaded code over typed values, what it says of the functions that the laws reach, and plain facts on these. -/
import Derived.Test.YtejbamobkncfhaaDoorA0
import Derived.Test.YtejbamobkncfhaaDoorA1
import Derived.RangeFuncBound
import Derived.KernelRfl
import Derived.Shelf.Unicode.DecodeSlow
import Derived.Test.YtejbamobkncfhaaDoorProg
/- Code: regions, branches, blocks, loops; a whole function. -/
namespace Go.Ai
open Go.RowKit
set_option linter.unusedSectionVars false
set_option linter.unusedVariables false
set_option linter.unusedSimpArgs false

noncomputable section
variable {N : Type} [DecidableEq N] {E : Env N} {P : Program}
variable {base n : Nat} {ov : Ov E} {w0 w w' : World} {F0 : Fx} {F : Fz} {σ σ' : St E} {a : Act} {ro : Option Nat}
variable {β : Type} {r : β} {B : Bs β} {X : Ext E β}

/-- A loop whose rounds are counted down by a ghost. -/
theorem wpIn_loop_ghost {Fe : Fence} {c : Code} {Q : Exit → Act → World → Prop} (I : Nat → Act → World → Prop) (k0 : Nat) (h₀ : I k0 a w)
    (round : ∀ k a w, I k a w → c.wpIn Fe n P (Exit.then (fun a' w' => ∃ k', k' < k ∧ I k' a' w') Q) a w) : (Code.loop c).wpIn Fe n P Q a w := by
  intro b k cs hro hb hr
  have key : ∀ m a w, I m a w →
      ∃ e a' w', Q e a' w' ∧ ArrivesIn (Machine.fenced P Fe) P (lone (b.atR a (.code c :: .inLoop c :: k)) cs w) b k cs e a' w' := by
    intro m
    induction m using Nat.strongRecOn with
    | _ m ih =>
      intro a w hI
      obtain ⟨e, a₁, w₁, hq, harr⟩ := round m a w hI b (.inLoop c :: k) cs hro hb hr
      cases e with
      | normal =>
        obtain ⟨k', hlt, hI₁⟩ := hq
        obtain ⟨e₂, a₂, w₂, hq₂, harr₂⟩ := ih k' hlt a₁ w₁ hI₁
        exact ⟨e₂, a₂, w₂, hq₂, .of_steps (StepsIn.trans harr (.one (fenced_calm hb hr rfl) stepR_inLoop)) harr₂⟩
      | exit id => exact ⟨_, a₁, w₁, hq, .pass (x := .inLoop c) rfl (fun _ _ => .inl (by simp)) harr⟩
      | goto l => exact ⟨_, a₁, w₁, hq, .pass (x := .inLoop c) rfl (fun _ _ => .inl (by simp)) harr⟩
      | ret => exact ⟨_, a₁, w₁, hq, .pass (x := .inLoop c) rfl (fun _ _ => .inl (by simp)) harr⟩
      | panic ch => exact ⟨_, a₁, w₁, hq, .pass (x := .inLoop c) rfl (fun _ _ => .inl (by simp)) harr⟩
      | outgrown => exact ⟨_, a₁, w₁, hq, .pass (x := .inLoop c) rfl (fun _ _ => .inl (by simp)) harr⟩
  obtain ⟨e, a', w', hq, harr⟩ := key k0 a w h₀
  exact ⟨e, a', w', hq, .of_steps (.one (fenced_calm hb hr rfl) stepR_loop) harr⟩

theorem eval_bool {t : Bool} {c : Operand} {x : Option β} (h : Gd P B ov σ a w x) (hc : σ.ev c = .one (.tv (.bool t))) : a.eval c = .bool t := by
  obtain ⟨base, w0, F0, r, hB, ⟨j, tk, F, hs⟩, he⟩ := h
  have := hs.ev c
  rw [hc] at this
  exact rep_bool_inv this

/-- **Code, run by the interpreter, is run by the machine.** -/
theorem runC_sound {C : Ctx E} (hC : COk P C) (hS : SigOk P C) (hIt : ItOk P C) (hm : P.follows .mixedOrders = true) {G : Bs β → Prop} (hG : ∀ B l x X O1 W1 F1, G B → G (Rnd B l x X O1 W1 F1)) (hX : ∀ B, G B → CallOk P B X) (M : Nat) :
    ∀ (c : Code) (ps : List (Option (Plan N))), RunsTo P G c (fun σ K => runC C X M c ps σ K) := by
  intro c
  induction c with
  | skip => intro ps B ro n hB hro ov σ K a w h; exact wpIn_skip ⟨σ, h⟩
  | region id ops draw =>
    intro ps B ro n hB hro ov σ K a w h
    cases draw with
    | false =>
      refine wpIn_region ?_
      exact runOps_sound hC hS (hX B hB) _ σ a w (K .normal) h fun σ' a' w' h' => ⟨σ', h'⟩
    | true =>
      simp only [runC] at h
      split at h
      · rename_i hd
        simp only [Bool.and_eq_true] at hd
        refine wpIn_region_draw fun t => ?_
        exact draw_sound hC hS (hX B hB) hm hd.1 hd.2 h t fun σ' a' w' h' => ⟨σ', h'⟩
      · obtain ⟨_, _, _, _, _, _, e⟩ := h; cases e
  | seq x y ihx ihy =>
    intro ps B ro n hB hro ov σ K a w h
    refine wpIn_seq ?_
    refine wpIn_mono (ihx _ B ro n hB hro ov σ _ a w h) ?_
    intro e a' w' hp
    cases e with
    | normal =>
      obtain ⟨σ', h'⟩ := hp
      simp only [kSeq] at h'
      obtain ⟨σ'', h''⟩ := cut_sound hC h'
      exact ihy _ B ro n hB hro ov σ'' K a' w' h''
    | exit id => exact hp
    | ret => exact hp
    | _ => exact hp.elim
  | cond c x y ihx ihy =>
    intro ps B ro n hB hro ov σ K a w h
    simp only [runC] at h
    split at h
    · rename_i t hc
      have hv := eval_bool h hc
      cases t with
      | true => exact wpIn_cond_true hv (ihx _ B ro n hB hro ov σ K a w h)
      | false => exact wpIn_cond_false hv (ihy _ B ro n hB hro ov σ K a w h)
    · obtain ⟨_, _, _, _, _, _, e⟩ := h; cases e
  | block id x ih =>
    intro ps B ro n hB hro ov σ K a w h
    refine wpIn_block ?_
    refine wpIn_mono (ih _ B ro n hB hro ov σ _ a w h) ?_
    intro e a' w' hp
    cases e with
    | normal => exact hp
    | exit id' =>
      obtain ⟨σ', hk⟩ := hp
      simp only [kBlock] at hk
      simp only [Exit.inBlock]
      split at hk
      · rename_i hid
        rw [if_pos (Nat.eq_of_beq_eq_true hid)]
        exact ⟨σ', hk⟩
      · rename_i hid
        have : ¬ id' = id := fun e => by rw [e] at hid; simp at hid
        rw [if_neg this]
        exact ⟨σ', hk⟩
    | ret => exact hp
    | _ => exact hp.elim
  | loop x ih =>
    intro ps B ro n hB hro ov σ K a w h
    simp only [runC] at h
    obtain ⟨σ1, h1⟩ := cut_sound hC h
    refine wpIn_loop_ghost (fun k a w => ∃ σ, Gd P B ov σ a w (iter C ps.head?.join (fun σ' K' => runC C X M x ps.tail σ' K') K k σ)) M ⟨σ1, h1⟩ ?_
    rintro k a w ⟨σ, h⟩
    cases k with
    | zero => obtain ⟨_, _, _, _, _, _, e⟩ := h; cases e
    | succ k =>
      simp only [iter] at h
      refine wpIn_mono (ih _ B ro n hB hro ov σ _ a w h) ?_
      intro e a' w' hp
      cases e with
      | normal =>
        obtain ⟨σ', h'⟩ := hp
        obtain ⟨σ'', h''⟩ := cut_sound hC h'
        exact ⟨k, Nat.lt_succ_self k, σ'', h''⟩
      | exit id => exact hp
      | ret => exact hp
      | _ => exact hp.elim
  | rangeFunc g pa x y ihx ihy =>
    intro ps B ro n hB hro ov σ K a w h
    exact range_sound hC hIt hG hB hro (ihx _) (ihy _) h
  | exit id => intro ps B ro n hB hro ov σ K a w h; exact wpIn_exit ⟨σ, h⟩
  | ret => intro ps B ro n hB hro ov σ K a w h; exact wpIn_ret ⟨σ, h⟩
  | _ => intro ps B ro n hB hro ov σ K a w h; obtain ⟨_, _, _, _, _, _, e⟩ := h; simp [runC] at e

/-! ### A whole function -/
variable {j : Sites} {tk : Toks}

theorem argHs_len : ∀ (ts : List (Ty N)) (x : Tup E.Γ ts), (argHs (E := E) ts x).length = ts.length
  | [], _ => rfl
  | [t], _ => rfl
  | t :: u :: ts, (x, y) => by simp [argHs, argHs_len (u :: ts) y]

/-- A call begins. -/
theorem start_sim {hs : List (Hold E)} {args : List Value} {m q : Nat} (hF : ∀ b o, F b o → b < w.heap.size) (hT : E.tab w F) (h : HReps w noSite noTok F hs args) :
    Sim P w.heap.size w ⟨F, fun _ => False⟩ ⟨[], []⟩ (start hs m q) { tmps := args.toArray ++ Array.replicate (m - args.toArray.size) undef, defers := [] } w noSite noTok F where
  tab := hT
  below := Below.refl _ _
  size := Nat.le_refl _
  Fold := fun _ _ h => h
  Fnew := fun _ _ h => .inl h
  Flt := hF
  agr := Agree.refl _ _
  frn := fun k hk => hk.elim
  outs := trivial
  itq := rfl
  defers := Marks.nil _ _
  mks := fun _ => rfl
  len := by simp [start, h.len]
  tmps := fun i x v hx hv => by
    simp only [start] at hx
    by_cases hi : i < hs.length
    · rw [List.getElem?_append_left hi] at hx
      have hi' : i < args.length := by rw [← h.len]; exact hi
      have hv' : args[i]? = some v := by
        rw [Array.getElem?_append_left (by simpa using hi')] at hv
        simpa using hv
      exact h.get i x v hx hv'
    · rw [List.getElem?_append_right (by omega), List.getElem?_replicate] at hx
      split at hx
      · cases hx; trivial
      · cases hx
  boxes := fun s cs hs' => by
    simp only [start, List.getElem?_replicate] at hs'
    split at hs' <;> cases hs'
  iters := fun s str q hs' => by
    simp only [start, List.getElem?_replicate] at hs'
    split at hs' <;> cases hs'
  maps := fun s kt vt m hs' => by
    simp only [start, List.getElem?_replicate] at hs'
    split at hs' <;> cases hs'
  rows := fun m s e t xs hs' => by
    simp only [start, List.getElem?_replicate] at hs'
    split at hs' <;> cases hs'
  live := fun s b hb => by cases hb
  inj := fun s s' b hb => by cases hb
  toks := fun k v hk => by cases hk
  apart := fun k k' v v' g hk => by cases hk

theorem resH_sound {C : Ctx E} (hC : COk P C) (h : Sim P base w0 F0 ov σ a w j tk F) : ∀ (res : List ResultVar) (hs : List (Hold E)), resH C σ res = some hs →
    ∃ vs : List Value, (res.mapM (fun | ResultVar.tmp t => pure (a.tmps.getD t undef) | ResultVar.cell x t => (do loadVar t (← asAddr (a.tmps.getD x undef)) : Sem Value))).run P w = .ok vs w ∧ HReps w j tk F hs vs := by
  intro res
  induction res with
  | nil => intro hs he; simp [resH] at he; subst he; exact ⟨[], by simp, trivial⟩
  | cons x res ih =>
    intro hs he
    cases x with
    | tmp t =>
      simp only [resH] at he
      split at he
      · rename_i hs' hr
        cases he
        obtain ⟨vs, h1, h2⟩ := ih hs' hr
        exact ⟨a.tmps.getD t undef :: vs, by rw [List.mapM_cons]; simp only [Sem.run_bind, Sem.run_pure, Result.andThen_ok, h1], h.get t, h2⟩
      · cases he
    | cell x t =>
      simp only [resH] at he
      split at he
      · rename_i hs' ti s o' hr hti hx
        obtain ⟨i, td, hT, _⟩ := tok_of hC hti
        split at he
        · rename_i cs hcs
          cases hl : loadC (β := Hold E) ti cs o' some with
          | none => rw [hl] at he; cases he
          | some z =>
            rw [hl] at he
            cases he
            obtain ⟨vs, h1, h2⟩ := ih hs' hr
            have hg := h.get x
            rw [hx] at hg
            obtain ⟨b, hb1, hb2⟩ := hg
            obtain ⟨b', us, T, e1, e2, e3⟩ := h.boxes s cs hcs
            rw [hb1] at e1
            cases e1
            obtain ⟨z', v, h5, h6, h7⟩ := loadC_sound (b := b) (oo := 0) hT hl e3 (fun m u hu => by rw [cell_of_row w b _ us T (0, 0) e2]; simpa using hu)
            cases h7
            rw [Nat.zero_add] at h5
            refine ⟨v :: vs, ?_, h6, h2⟩
            have ha : (asAddr (a.tmps.getD x undef)).run P w = .ok ⟨b, o', none⟩ w := by rw [hb2]; rfl
            rw [List.mapM_cons]
            simp only [Sem.run_bind, ha, Sem.run_pure, Result.andThen_ok, h5, h1]
        · cases he
      · cases he

def tkR (d : Nat) (es : List (Option Nat)) (vs : List Value) : Toks := fun q =>
  if q.1 = d then (match es[q.2.1]? with
    | some (some e) => if e = q.2.2 then vs[q.2.1]? else none
    | _ => none) else none

theorem VReps.len : ∀ {xs : List (Bool × List (Cell E))} {vs : List Value}, VReps w j tk F xs vs → xs.length = vs.length
  | [], [], _ => rfl
  | _ :: _, _ :: _, h => by simp [VReps.len h.2]
  | [], _ :: _, h => h.elim
  | _ :: _, [], h => h.elim

theorem packRes_sound {d : Nat} {tr : Toks} : ∀ (ts : List (Ty N)) (es : List (Option Nat)) (hs : List (Hold E)) (y : Tup E.Γ ts) (vs : List Value) (m : Nat), packRes ts es hs = some y → HReps w j tk F hs vs →
    (∀ (q e : Nat) (v : Value), es[q]? = some (some e) → vs[q]? = some v → tr (d, m + q, e) = some v) → VReps w noSite tr F (resVs d m ts es y) vs := by
  have one : ∀ (t : Ty N) (e : Option Nat) (x : Hold E) (y : den E.Γ t) (v : Value) (m : Nat), packR t e x = some y → HRep w j tk F x v → (∀ e', e = some e' → tr (d, m, e') = some v) → VRep w noSite tr F (resV d m e t y) v := by
    intro t e x y v m hp hr ht
    cases e with
    | none =>
      have h1 := (hr.packH (t := t) hp).free noSite tr
      unfold resV
      dsimp only
      unfold valH at h1
      cases htt : t.one with
      | true => rw [htt] at h1; exact ⟨_, rfl, h1⟩
      | false => rw [htt] at h1; exact h1
    | some e =>
      unfold resV
      dsimp only
      refine ⟨_, rfl, ?_⟩
      have htv := ht e rfl
      unfold packR packX at hp
      dsimp only at hp
      split at hp
      · rename_i k t' xs
        split at hp
        · have h1 : Rep w F (.sl t' xs) v := hr.1
          have h2 := Rep.pack hp h1
          cases t with
          | sl t => exact ⟨h2, htv⟩
          | _ => trivial
        · cases hp
      · have h2 := Rep.pack hp hr
        cases t with
        | sl t => exact ⟨h2, htv⟩
        | _ => trivial
      · cases hp
  intro ts
  induction ts with
  | nil =>
    intro es hs y vs m hp hr _
    cases hs with
    | nil => cases vs <;> exact hr
    | cons _ _ => simp [packRes] at hp
  | cons t ts ih =>
    intro es hs y vs m hp hr ht
    cases ts with
    | nil =>
      match es, hs, vs, hp, hr with
      | [e], [x], [v], hp, hr => exact ⟨one t e x y v m (by simpa [packRes] using hp) hr.1 (fun e' he => by have := ht 0 e' v (by simp [he]) rfl; simpa using this), trivial⟩
      | [e], [x], [], hp, hr => exact hr.elim
      | [e], [x], _ :: _ :: _, hp, hr => exact hr.2.elim
      | [], _, _, hp, _ => simp [packRes] at hp
      | _ :: _ :: _, _, _, hp, _ => simp [packRes] at hp
      | [_], [], _, hp, _ => simp [packRes] at hp
      | [_], _ :: _ :: _, _, hp, _ => simp [packRes] at hp
    | cons u ts =>
      match es, hs, vs, hp, hr with
      | e :: es, x :: hs, v :: vs, hp, hr =>
        simp only [packRes] at hp
        split at hp
        · rename_i y1 y2 h1 h2
          cases hp
          exact ⟨one t e x y1 v m h1 hr.1 (fun e' he => by have := ht 0 e' v (by simp [he]) rfl; simpa using this),
            ih es hs y2 vs (m + 1) h2 hr.2 (fun q e' v' h3 h4 => by have := ht (q + 1) e' v' (by simpa using h3) (by simpa using h4); rw [show m + 1 + q = m + (q + 1) by omega]; exact this)⟩
        · cases hp
      | [], _, _, hp, _ => simp [packRes] at hp
      | _ :: _, [], _, hp, _ => simp [packRes] at hp
      | _ :: _, _ :: _, [], hp, hr => exact hr.elim

theorem packRes_ex : ∀ (ts : List (Ty N)) (es : List (Option Nat)) (hs : List (Hold E)) (y : Tup E.Γ ts) (vs : List Value), packRes ts es hs = some y → HReps w j tk F hs vs →
    ∀ (q e : Nat) (v : Value), es[q]? = some (some e) → vs[q]? = some v → v = .slice none 0 0 ∨ ∃ k, k.2.2 = e ∧ tk k = some v := by
  have one : ∀ (t : Ty N) (e : Nat) (x : Hold E) (y : den E.Γ t) (v : Value), packR t (some e) x = some y → HRep w j tk F x v → v = .slice none 0 0 ∨ ∃ k, k.2.2 = e ∧ tk k = some v := by
    intro t e x y v hp hr
    unfold packR packX at hp
    dsimp only at hp
    split at hp
    · rename_i k t' xs
      split at hp
      · rename_i hk
        exact .inr ⟨k, Nat.eq_of_beq_eq_true hk, hr.2⟩
      · cases hp
    · left
      have hr' : Rep (E := E) w F (.val (.slice none 0 0)) v := hr
      cases hr'; rfl
    · cases hp
  intro ts
  induction ts with
  | nil =>
    intro es hs y vs hp hr q e v h1 h2
    cases hs with
    | nil => cases vs with
      | nil => simp at h2
      | cons _ _ => exact hr.elim
    | cons _ _ => simp [packRes] at hp
  | cons t ts ih =>
    intro es hs y vs hp hr q e v h1 h2
    cases ts with
    | nil =>
      match es, hs, vs, hp, hr with
      | [e0], [x], [v0], hp, hr =>
        cases q with
        | zero => simp at h1 h2; subst h1 h2; exact one t e x y v0 (by simpa [packRes] using hp) hr.1
        | succ q => simp at h1
      | [e], [x], [], hp, hr => exact hr.elim
      | [e], [x], _ :: _ :: _, hp, hr => exact hr.2.elim
      | [], _, _, hp, _ => simp [packRes] at hp
      | _ :: _ :: _, _, _, hp, _ => simp [packRes] at hp
      | [_], [], _, hp, _ => simp [packRes] at hp
      | [_], _ :: _ :: _, _, hp, _ => simp [packRes] at hp
    | cons u ts =>
      match es, hs, vs, hp, hr with
      | e0 :: es, x :: hs, v0 :: vs, hp, hr =>
        simp only [packRes] at hp
        split at hp
        · rename_i y1 y2 h3 h4
          cases q with
          | zero => simp at h1 h2; subst h1 h2; exact one t e x y1 v0 h3 hr.1
          | succ q => exact ih es hs y2 vs h4 hr.2 q e v (by simpa using h1) (by simpa using h2)
        · cases hp
      | [], _, _, hp, _ => simp [packRes] at hp
      | _ :: _, [], _, hp, _ => simp [packRes] at hp
      | _ :: _, _ :: _, [], hp, hr => exact hr.elim

/-- At most one result brings a row's spare room, of a type that is known. -/
def exOk (C : Ctx E) (es : List (Option Nat)) : Bool :=
  (match es with
   | [] => true
   | _ :: r => r.all Option.isNone || (es.head?.join.isNone && (match r with
     | [] => true
     | _ :: r' => r'.all Option.isNone))) &&
  es.all fun o => match o with
    | some e => (C.ti e).isSome
    | none => true

theorem exOk_one {C : Ctx E} {es : List (Option Nat)} (h : exOk C es = true) {q q' e e' : Nat} (h1 : es[q]? = some (some e)) (h2 : es[q']? = some (some e')) : q = q' := by
  unfold exOk at h
  simp only [Bool.and_eq_true] at h
  obtain ⟨h, _⟩ := h
  have none_at : ∀ (r : List (Option Nat)) (q e : Nat), r.all Option.isNone = true → r[q]? = some (some e) → False := by
    intro r q e hr hq
    have := List.all_eq_true.1 hr _ (List.mem_of_getElem? hq)
    simp at this
  cases es with
  | nil => simp at h1
  | cons o r =>
    simp only [List.head?_cons, Option.join_some, Bool.or_eq_true, Bool.and_eq_true] at h
    rcases h with h | ⟨ho, h⟩
    · cases q with
      | zero => cases q' with
        | zero => rfl
        | succ q' => exact (none_at r q' e' h (by simpa using h2)).elim
      | succ q => exact (none_at r q e h (by simpa using h1)).elim
    · cases q with
      | zero => simp at h1; subst h1; simp at ho
      | succ q => cases q' with
        | zero => simp at h2; subst h2; simp at ho
        | succ q' =>
          cases r with
          | nil => simp at h1
          | cons o' r' =>
            cases q with
            | zero => cases q' with
              | zero => rfl
              | succ q' => exact (none_at r' q' e' h (by simpa using h2)).elim
            | succ q => exact (none_at r' q e h (by simpa using h1)).elim

theorem resVs_len {d : Nat} : ∀ (m : Nat) (ts : List (Ty N)) (es : List (Option Nat)) (y : Tup E.Γ ts), (resVs d m ts es y).length = ts.length
  | _, [], _, _ => rfl
  | _, [t], _, _ => rfl
  | m, t :: u :: ts, es, (x, y) => by simp [resVs, resVs_len (m + 1) (u :: ts) es.tail y]

theorem leaves_marks {Fe : Fence} {m : Nat} {fn : Func} {R : Ending → World → Prop} : ∀ (ds : List Deferred) (a : Act) (w : World), a.defers = ds → Sim P base w0 F0 ov σ a w j tk F →
    (∀ w', Sim P base w0 F0 ov σ { a with defers := [] } w' j tk F → ∃ v, (results fn a.tmps).run P w' = .ok v w' ∧ R (.returned v) w') → LeavesInM Fe m P fn a.tmps R ds .returning w := by
  intro ds
  induction ds with
  | nil => intro a w hd hs hk; exact hk w (hs.reDefer (Marks.nil _ _) (fun _ => rfl) (fun d hd => by cases hd))
  | cons d ds ih =>
    intro a w hd hs hk
    obtain ⟨Ds, _, h2, _⟩ := hs.defers
    rw [hd] at h2
    cases Ds with
    | nil => cases h2
    | cons D Ds =>
      simp only [List.map_cons, List.cons.injEq] at h2
      obtain ⟨rfl, _⟩ := h2
      obtain ⟨h3, h4⟩ := hs.unmark hd
      exact ⟨(fun e => by cases e), .inl ⟨D, _, rfl, h4, ih { a with defers := ds } _ rfl h3 hk⟩⟩

/-- **A function's contract out of its run.** -/
theorem says_of_run {C : Ctx E} {S : Sig E} {X : Ext E (Tup E.Γ S.rs)} (hC : COk P C) (hS : SigOk P C) (hIt : ItOk P C) (hm : P.follows .mixedOrders = true) (hX : ∀ B, CallOk P B X) {M q : Nat} {f : FuncId} {fn : Func} {body : Code} {plans : List (Option (Plan N))} {x : Tup E.Γ S.ps} {y : Tup E.Γ S.rs}
    (hf : P.funcs[f]? = some fn) (hb : fn.body = some body) (hex : exOk C S.ex = true) (hrun : runF C X M body fn.ntmps q fn.results.toList plans S.ps S.ex x = some y) : Says P f S x y := by
  intro w F args d hF hT hargs
  have hsim := start_sim (P := P) (m := fn.ntmps) (q := q) hF hT hargs
  have hwp := runC_sound (X := X) hC hS hIt hm (G := fun _ => True) (fun _ _ _ _ _ _ _ _ => trivial) (fun B _ => hX B) M body plans (fun b w' F' r => b = w.heap.size ∧ w' = w ∧ F' = ⟨F, fun _ => False⟩ ∧ r = y) none 0 trivial trivial _ _ _ _ w ⟨_, _, _, _, ⟨rfl, rfl, rfl, rfl⟩, ⟨_, _, _, hsim⟩, hrun⟩
  rw [fence_none] at hwp
  refine callsIn_wide.1 (callsIn_of_wp_marks (F := Fence.wide) (n := 0) hf hb trivial ?_)
  refine wpIn_mono hwp ?_
  have fin : ∀ (e : Out) (σ : St E) (a : Act) (w' : World), SimE P w.heap.size w ⟨F, fun _ => False⟩ ⟨[], []⟩ σ a w' → kRet C fn.results.toList S.rs S.ex e σ = some y → ∃ v, (results fn a.tmps).run P w' = .ok v w' ∧
      ∃ v0 tk F', Ending.returned v = .returned v0 ∧ Below w.heap.size w w' ∧ (∀ b o, F b o → F' b o) ∧ (∀ b o, F' b o → F b o ∨ w.heap.size ≤ b) ∧ (∀ b o, F' b o → b < w'.heap.size) ∧
      HRep w' noSite tk F' (viewRes (E := E) d S.rs S.ex y) v0 ∧ (∀ k u, tk k = some u → k.1 = d ∧ Own P w.heap.size w' noSite F' k u) ∧
      (∀ k k' u u' g, tk k = some u → tk k' = some u' → u.ownBlock = some g → u'.ownBlock = some g → k = k') := by
    intro e σ a w' h he
    obtain ⟨j, tk, F', hs⟩ := h
    have he' : (match resH C σ fn.results.toList with | some hs => packRes S.rs S.ex hs | none => none) = some y := by
      cases e <;> first | exact he | cases he
    split at he'
    · rename_i hds hres
      obtain ⟨vs, h1, h2⟩ := resH_sound hC hs _ _ hres
      refine ⟨if h : vs.toArray.size = 1 then vs.toArray[0] else .tuple vs.toArray, ?_, _, tkR d S.ex vs, F', rfl, hs.below, hs.Fold, fun b o hf => (hs.Fnew b o hf).imp id (·.1), hs.Flt, ?_, ?_, ?_⟩
      · unfold results
        rw [Array.mapM_eq_mapM_toList]
        simp only [Sem.run_bind, Sem.run_map]
        erw [h1]
        rfl
      · have hv := packRes_sound (d := d) (tr := tkR d S.ex vs) S.rs S.ex hds y vs 0 he' h2 (fun q e v h3 h4 => by simp [tkR, h3, h4])
        have hlen := resVs_len (E := E) (d := d) 0 S.rs S.ex y
        unfold viewRes
        split
        · rename_i x hx
          rw [hx] at hv
          match vs, hv with
          | [v], hv => exact hv.1.hold
          | [], hv => exact hv.elim
          | _ :: _ :: _, hv => exact hv.2.elim
        · rename_i xs hne
          have hvl : vs.length ≠ 1 := by
            intro e1
            have hl := VReps.len hv
            generalize resVs d 0 S.rs S.ex y = zs at hne hl
            match zs, hl with
            | [], hl => simp at hl; omega
            | [z], _ => exact hne z rfl
            | _ :: _ :: _, hl => simp at hl; omega
          rw [dif_neg (by simpa using hvl)]
          exact ⟨vs, rfl, hv⟩
      · intro k u hk
        unfold tkR at hk
        split at hk
        · rename_i hd
          split at hk
          · rename_i e0 he0
            split at hk
            · rename_i hee
              refine ⟨hd, ?_⟩
              have hq := packRes_ex S.rs S.ex hds y vs he' h2 _ _ _ he0 hk
              rcases hq with hq | ⟨k', hk1, hk2⟩
              · subst hq
                simp only [exOk, Bool.and_eq_true] at hex
                have := List.all_eq_true.1 hex.2 _ (List.mem_of_getElem? he0)
                obtain ⟨ti, hti⟩ := Option.isSome_iff_exists.1 this
                obtain ⟨i, td, hT, _⟩ := tok_of hC hti
                exact ⟨i, 0, [], by rw [← hee]; exact hT.info, World.ownsRow_nil w' _ _ _, fun g hg => by simp [Value.ownBlock] at hg⟩
              · obtain ⟨i, n', xs, e1, e2, e3⟩ := hs.toks k' u hk2
                exact ⟨i, n', xs, by rw [← hee, ← hk1]; exact e1, by rw [← hee, ← hk1]; exact e2, fun g hg => ⟨(e3 g hg).1, fun s hs => by cases hs⟩⟩
            · cases hk
          · cases hk
        · cases hk
      · intro k k' u u' g hk hk' hg hg'
        unfold tkR at hk hk'
        split at hk
        · rename_i hd
          split at hk
          · rename_i e0 he0
            split at hk
            · rename_i hee
              split at hk'
              · rename_i hd'
                split at hk'
                · rename_i e1 he1
                  split at hk'
                  · rename_i hee'
                    have hq : k.2.1 = k'.2.1 := exOk_one hex he0 he1
                    rw [hq] at he0
                    rw [he0] at he1
                    cases he1
                    exact Prod.ext (hd.trans hd'.symm) (Prod.ext hq (hee.symm.trans hee'))
                  · cases hk'
                · cases hk'
              · cases hk'
            · cases hk
          · cases hk
        · cases hk
    · cases he'
  intro e a w' hp
  cases e with
  | normal => obtain ⟨σ, _, _, _, _, ⟨rfl, rfl, rfl, rfl⟩, ⟨_, _, _, h1⟩, h2⟩ := hp; exact leaves_marks a.defers a w' rfl h1 fun w'' hs => fin .normal σ { a with defers := [] } w'' ⟨_, _, _, hs⟩ h2
  | ret => obtain ⟨σ, _, _, _, _, ⟨rfl, rfl, rfl, rfl⟩, ⟨_, _, _, h1⟩, h2⟩ := hp; exact leaves_marks a.defers a w' rfl h1 fun w'' hs => fin .ret σ { a with defers := [] } w'' ⟨_, _, _, hs⟩ h2
  | exit id => obtain ⟨σ, _, _, _, _, _, h1, h2⟩ := hp; cases h2
  | _ => exact hp.elim

end
end Go.Ai
/- The handler of calls: functions run in place, contracts that take references, yields. -/
namespace Go.Ai
open Go.RowKit
set_option linter.unusedSectionVars false
set_option linter.unusedVariables false
set_option linter.unusedSimpArgs false

noncomputable section
variable {N : Type} [DecidableEq N] {E : Env N} {P : Program}
variable {base n : Nat} {ov : Ov E} {w0 w w' : World} {F0 : Fx} {F F' : Fz} {σ σ' : St E} {a : Act} {j : Sites} {tk : Toks} {ro : Option Nat}
variable {β : Type} {r : β} {B : Bs β}

/-- The worlds from which a callee's state is reckoned: the caller's blocks X lie ats in W1. -/
def Kp (B : Bs β) (X : Nat → Prop) (W1 : World) (FX : Fz) : Bs β := fun base w0' F0' r => ∃ w0 F0, B base w0 F0 r ∧ Conv base w0 F0 w0' F0' ∧ (∀ b o, F0'.c b o → b < w0'.heap.size) ∧
  (∀ k, X k → F0'.fn k ∧ ¬ F0.fn k ∧ base ≤ k ∧ w0'.heap[k]? = W1.heap[k]?) ∧ (∀ k, F0'.fn k → F0.fn k ∨ X k) ∧ ∀ k o, X k → F0'.c k o → FX k o

/-- **Yields are sound**: the round is run; what is the state's own lies ats it lay. -/
def YOk (P : Program) (yl : Nat → List (Hold E) → (Bool → Option β) → Option β) (B : Bs β) : Prop := ∀ (ov : Ov E) (σ : St E) (a : Act) (w : World) (i : Nat) (args : List (Hold E)) (vs : List Value) (Kb : Bool → Option β) (base : Nat) (w0 : World) (F0 : Fx) (r : β) (j : Sites) (tk : Toks) (F : Fz),
  B base w0 F0 r → Sim P base w0 F0 ov σ a w j tk F → HReps w j tk F args vs → yl i args Kb = some r → ∃ l, E.fv i = .func (.yield l) #[] #[] ∧
    YieldAt (fence none) 0 P l vs.toArray w fun e w2 => ∃ b F0' r', e = .returned (.bool b) ∧ B base w2 F0' r' ∧ Kb b = some r' ∧ (∀ b o, F b o → F0'.c b o) ∧ Agree F w w2 ∧ (∀ b o, F0'.c b o → F b o ∨ ¬ (base ≤ b ∧ b < w.heap.size ∧ ¬ F0.fn b)) ∧ (∀ b o, F0'.c b o → b < w2.heap.size) ∧ w.heap.size ≤ w2.heap.size ∧
      (∀ k, base ≤ k → k < w.heap.size → ¬ F0.fn k → w2.heap[k]? = w.heap[k]? ∧ ¬ F0'.fn k) ∧ (∀ k, F0'.fn k → k < w2.heap.size)

theorem YOk.none : YOk (E := E) P (fun _ _ _ => none) B := by
  intro ov σ a w i args vs Kb base w0 F0 r j tk F _ _ _ h
  cases h

theorem YOk.rnd {yl : Nat → List (Hold E) → (Bool → Option β) → Option β} (h : YOk P yl B) (l : Nat) (x : Obj) (X O1 : Nat → Prop) (W1 : World) (F1 : Fz) : YOk P yl (Rnd B l x X O1 W1 F1) := by
  rintro ov σ a w i args vs Kb base w0' Fr r j tk F ⟨w0, F0, hB, hcv, c1, c2, c3, c4, c5, c6, c7, c8, c9, c10, c11, c12⟩ hs hv he
  obtain ⟨l', h1, h2⟩ := h ov σ a w i args vs Kb base w0 F0 r j tk F hB (hs.conv hcv) hv he
  have hll : l < w.heap.size := by
    have := (Array.getElem?_eq_some_iff.1 c9).1
    exact Nat.lt_of_lt_of_le this hs.below.size
  have hX : ∀ k, X k → k < w.heap.size := fun k hk => Nat.lt_of_lt_of_le (hs.frn k (c10 k hk).1).1 hs.below.size
  refine ⟨l', h1, h2.mono ?_⟩
  rintro e w2 ⟨b, F0', r', e1, e2, e3, e4, e5, e6, e7, e8, e9, e10⟩
  refine ⟨b, ⟨F0'.c, fun k => F0'.fn k ∨ k = l ∨ X k⟩, r', e1, ⟨w2, F0', e2, ⟨Below.refl _ _, fun _ _ h => h, fun _ _ h => .inl h, Agree.refl _ _, fun k hk => ⟨.inl hk, e10 k hk, rfl⟩⟩, fun b o hf => e4 b o (hs.Fold b o (c1 b o hf)), ?_, ?_, e7, ?_, .inr (.inl rfl), (e9 l c8 hll c7).2, c8, ?_, ?_, fun _ h => h, c12⟩, e3, e4, e5, ?_, e7, e8, ?_, ?_⟩
  · exact (c2.trans (hs.agr.mono c1)).trans (e5.mono fun b o hf => hs.Fold b o (c1 b o hf))
  · intro b o hf
    rcases e6 b o hf with hf | hf
    · rcases hs.Fnew b o hf with hf | hf
      · exact c3 b o hf
      · exact .inr fun ho => hf.2 (c10 b (c12 b ho)).1
    · exact .inr fun ho => hf ⟨(c10 b (c12 b ho)).2.2.1, hX b (c12 b ho), (c10 b (c12 b ho)).2.1⟩
  · exact Nat.le_trans c5 (Nat.le_trans hs.below.size e8)
  · rw [(e9 l c8 hll c7).1, (hs.frn l c6).2.1]; exact c9
  · intro k hk
    obtain ⟨f1, f2, f3, f4, f5, f6⟩ := c10 k hk
    have := e9 k f3 (hX k hk) f2
    exact ⟨.inr (.inr hk), this.2, f3, f4, f5, by rw [this.1, (hs.frn k f1).2.1]; exact f6⟩
  · intro b o hf
    rcases e6 b o hf with hf | hf
    · exact .inl hf
    · exact .inr fun ho => hf ⟨ho.1, ho.2.1, fun hn => ho.2.2 (hcv.frn b hn).1⟩
  · intro k h1 h2 h3
    have := e9 k h1 h2 fun hn => h3 (hcv.frn k hn).1
    refine ⟨this.1, ?_⟩
    rintro (hk | rfl | hk)
    · exact this.2 hk
    · exact h3 c6
    · exact h3 (c10 k hk).1
  · rintro k (hk | rfl | hk)
    · exact e10 k hk
    · exact Nat.lt_of_lt_of_le hll e8
    · exact Nat.lt_of_lt_of_le (hX k hk) e8

theorem YOk.kp {yl : Nat → List (Hold E) → (Bool → Option β) → Option β} (h : YOk P yl B) (X : Nat → Prop) (W1 : World) (FX : Fz) : YOk P yl (Kp B X W1 FX) := by
  rintro ov σ a w i args vs Kb base w0' Fr r j tk F ⟨w0, F0, hB, hcv, c4, c10, c11, c12⟩ hs hv he
  obtain ⟨l', h1, h2⟩ := h ov σ a w i args vs Kb base w0 F0 r j tk F hB (hs.conv hcv) hv he
  have hX : ∀ k, X k → k < w.heap.size := fun k hk => Nat.lt_of_lt_of_le (hs.frn k (c10 k hk).1).1 hs.below.size
  refine ⟨l', h1, h2.mono ?_⟩
  rintro e w2 ⟨b, F0', r', e1, e2, e3, e4, e5, e6, e7, e8, e9, e10⟩
  refine ⟨b, ⟨F0'.c, fun k => F0'.fn k ∨ X k⟩, r', e1, ⟨w2, F0', e2, ⟨Below.refl _ _, fun _ _ h => h, fun _ _ h => .inl h, Agree.refl _ _, fun k hk => ⟨.inl hk, e10 k hk, rfl⟩⟩, e7, ?_, fun _ h => h, ?_⟩, e3, e4, e5, ?_, e7, e8, ?_, ?_⟩
  · intro k hk
    obtain ⟨f1, f2, f3, f6⟩ := c10 k hk
    have := e9 k f3 (hX k hk) f2
    exact ⟨.inr hk, this.2, f3, by rw [this.1, (hs.frn k f1).2.1]; exact f6⟩
  · intro k o hk hf
    obtain ⟨f1, f2, f3, f6⟩ := c10 k hk
    rcases e6 k o hf with hf | hf
    · rcases hs.Fnew k o hf with hf | hf
      · exact c12 k o hk hf
      · exact absurd f1 hf.2
    · exact absurd ⟨f3, hX k hk, f2⟩ hf
  · intro b o hf
    rcases e6 b o hf with hf | hf
    · exact .inl hf
    · exact .inr fun ho => hf ⟨ho.1, ho.2.1, fun hn => ho.2.2 (hcv.frn b hn).1⟩
  · intro k h1 h2 h3
    have := e9 k h1 h2 fun hn => h3 (hcv.frn k hn).1
    refine ⟨this.1, ?_⟩
    rintro (hk | hk)
    · exact this.2 hk
    · exact h3 (c10 k hk).1
  · rintro k (hk | hk)
    · exact e10 k hk
    · exact Nat.lt_of_lt_of_le (hX k hk) e8

/-! ### The machine's steps -/
theorem exec_callv {o : Oper} {c : Call} {fv : Operand} {f : FuncId} {us vs : Array Value} (ho : o.op = .call c) (hc : c.callee = .value fv) (hv : a.eval fv = .func (.func f) us vs) (hf : callable P f = true) :
    (execOp a.eval o).run P w = .ok (.enter f (us ++ c.args.map a.eval ++ vs)) w := by
  unfold callable at hf
  split at hf
  · rename_i fn hfn
    simp only [Bool.and_eq_true, Bool.not_eq_true'] at hf
    have hb : fn.body.isNone = false := by
      cases hb : fn.body with
      | none => rw [hb] at hf; exact absurd hf.2 (by simp)
      | some _ => rfl
    have hne : ¬ fn.name = "runtime.NumGoroutine" := by simpa using hf.1
    have hbn : ¬ fn.body = none := by intro e; rw [e] at hb; cases hb
    simp only [execOp, ho, resolve, hc, hv, Deferred.ofValue, Sem.run_bind, Sem.run_pure, Result.andThen_ok, invoke, callFunc, program]
    simp [Sem.run, hfn, hne, hbn]
  · cases hf

theorem exec_yield {o : Oper} {c : Call} {fv : Operand} {l : Nat} (ho : o.op = .call c) (hc : c.callee = .value fv) (hv : a.eval fv = .func (.yield l) #[] #[]) :
    (execOp a.eval o).run P w = (Instr.yield l (c.args.map a.eval)).run P w := by
  simp [execOp, ho, resolve, hc, hv, Deferred.ofValue, Sem.run_bind, Sem.run_pure, Result.andThen_ok, invoke]

theorem sc_cell {x : Sc E} {v : Value} (h : SRep w j F x v) : CRep w j tk F x.cell v := by cases x <;> exact h

theorem scs_cells : ∀ {xs : List (Sc E)} {vs : List Value}, SReps w j F xs vs → HReps w j tk F (xs.map fun x => Hold.one x.cell) vs
  | [], [], _ => trivial
  | _ :: _, _ :: _, h => ⟨sc_cell h.1, scs_cells h.2⟩
  | [], _ :: _, h => h.elim
  | _ :: _, [], h => h.elim

theorem parts_rep : ∀ {hs : List (Hold E)} {xs : List (Bool × List (Cell E))} {vs : List Value}, parts hs = some xs → HReps w j tk F hs vs → VReps w j tk F xs vs
  | [], xs, [], h, _ => by simp [parts] at h; subst h; trivial
  | h0 :: hs, xs, v :: vs, h, hr => by
    simp only [parts] at h
    split at h
    · rename_i x ys h1 h2
      cases h
      refine ⟨?_, parts_rep h2 hr.2⟩
      have hr1 := hr.1
      cases h0 with
      | one c => cases h1; exact ⟨c, rfl, hr1⟩
      | agg cs => cases h1; exact hr1
      | tup _ => cases h1
    · cases h
  | [], _, _ :: _, _, hr => hr.elim
  | _ :: _, _, [], _, hr => hr.elim

theorem together_rep {hs : List (Hold E)} {h : Hold E} {vs : List Value} (ht : together hs = some h) (hr : HReps w j tk F hs vs) : HRep w j tk F h (if h : vs.toArray.size = 1 then vs.toArray[0] else .tuple vs.toArray) := by
  unfold together at ht
  split at ht
  · cases ht
    match vs, hr with
    | [v], hr => exact hr.1
    | [], hr => exact hr.elim
    | _ :: _ :: _, hr => exact hr.2.elim
  · rename_i hne
    split at ht
    · rename_i xs hxs
      cases ht
      have hl := hr.len
      have : ¬ vs.toArray.size = 1 := by
        intro e
        match hs, hne, hl with
        | [], _, hl => simp at hl; simp [← hl] at e
        | [x], hne, _ => exact hne x rfl
        | _ :: _ :: _, _, hl => simp at hl e; omega
      rw [dif_neg this]
      exact ⟨vs, rfl, parts_rep hxs hr⟩
    · cases ht

/-- Calls of special values are sound. -/
def SpOk (P : Program) (yl : Nat → List (Hold E) → (Bool → Option β) → Option β) (B : Bs β) : Prop := ∀ (ov : Ov E) (σ : St E) (a : Act) (w : World) (o : Oper) (c : Call) (fv : Operand) (i : Nat) (K : St E → Option β) (next : Act → World → Prop)
  (Q : Exit → Act → World → Prop) (ro : Option Nat) (n base : Nat) (w0 : World) (F0 : Fx) (r : β) (j : Sites) (tk : Toks) (F : Fz), o.op = .call c → c.callee = .value fv → σ.ev fv = .one (.tv (.spec i)) → B base w0 F0 r →
  Sim P base w0 F0 ov σ a w j tk F → yl i (evL σ c.args.toList) (fun b => K (σ.put o.dst (.one (.tv (.bool b))))) = some r →
  (∀ base' w0' F0' r' σ' a' w', B base' w0' F0' r' → SimE P base' w0' F0' ov σ' a' w' → K σ' = some r' → next a' w') → o.wpIn (fence ro) n P a w next Q

theorem YOk.sp {yl : Nat → List (Hold E) → (Bool → Option β) → Option β} (h : YOk P yl B) : SpOk P yl B := by
  intro ov σ a w o c fv i K next Q ro n base w0 F0 r j tk F ho hc hev hB hs he hk
  have hfv := hs.ev fv
  rw [hev] at hfv
  have hargs := evL_reps hs c.args.toList
  obtain ⟨l, h1, h2⟩ := h ov σ a w i _ _ _ base w0 F0 r j tk F hB hs hargs he
  have hvv : a.eval fv = E.fv i := by
    have hfv : Rep w F (.spec i) (a.eval fv) := hfv
    generalize a.eval fv = u at hfv
    cases hfv; rfl
  rw [h1] at hvv
  obtain ⟨fn, tmps, ats, bs, hy, hrd⟩ := h2
  have hex := exec_yield (P := P) (w := w) ho hc hvv
  have hea : c.args.map a.eval = (c.args.toList.map a.eval).toArray := by rw [← Array.toList_map]
  rw [hea, hy] at hex
  refine ⟨fun _ _ => trivial, ?_⟩
  show o.uponIn _ _ _ _ _ _ ((o.semAt ro a.eval).run P w)
  rw [Oper.semAt_eq ro a.eval o (by rw [ho]; intro c' e; cases e), hex, Oper.uponIn_round]
  refine ⟨fun h => absurd h (by simp [fence, Fence.wide]), ?_⟩
  have hrd' : RoundIn (fence ro) (n - 1) P l fn tmps ats bs w _ := ⟨trivial, fun c cs _ => hrd.2 c cs (by simp [Fence.room, fence, Fence.wide])⟩
  refine RoundIn.mono hrd' ?_
  rintro e w2 ⟨b, F0', r', rfl, e2, e3, e4, e5, e6, e7, e8, e9, e10⟩
  have hsim : Sim P base w2 F0' ov σ a w2 j tk F0'.c := by
    refine hs.turn e4 e5 e7 e8 (Below.refl _ _) (fun _ _ h => h) (fun _ _ h => .inl h) (Agree.refl _ _) ?_ ?_ ?_ ?_
    · intro q hq
      have own : base ≤ q → q < w.heap.size → ¬ F0.fn q → False := fun h1 h2 h3 => (e9 q h1 h2 h3).2 hq
      refine ⟨e10 q hq, rfl, fun s hj => ?_, fun t v ht hv => ?_, fun hm => ?_⟩
      · obtain ⟨g1, _, _, g4⟩ := hs.live s q hj
        exact own g1 g4 fun hf => (hs.frn q hf).2.2.1 s hj
      · obtain ⟨g1, g2⟩ := hs.tok_at ht hv
        exact own g1 g2 fun hf => (hs.frn q hf).2.2.2.1 t v ht hv
      · obtain ⟨g1, g2⟩ := hs.mark_at hm
        exact own g1 (Array.getElem?_eq_some_iff.1 g2).1 fun hf => (hs.frn q hf).2.2.2.2 hm
    · intro s b hj
      obtain ⟨g1, _, _, g4⟩ := hs.live s b hj
      have hnf : ¬ F0.fn b := fun hf => (hs.frn b hf).2.2.1 s hj
      refine ⟨(e9 b g1 g4 hnf).1, fun o hf => ?_⟩
      rcases e6 b o hf with hf | hf
      · exact hf
      · exact absurd ⟨g1, g4, hnf⟩ hf
    · intro t v g ht hv
      obtain ⟨g1, g2⟩ := hs.tok_at ht hv
      have hnf : ¬ F0.fn g := fun hf => (hs.frn g hf).2.2.2.1 t v ht hv
      refine ⟨(e9 g g1 g2 hnf).1, fun o hf => ?_⟩
      rcases e6 g o hf with hf | hf
      · exact hf
      · exact absurd ⟨g1, g2, hnf⟩ hf
    · intro D hD
      obtain ⟨g1, g2⟩ := hs.mark_at hD
      exact (e9 D g1 (Array.getElem?_eq_some_iff.1 g2).1 fun hf => (hs.frn D hf).2.2.2.2 hD).1
  exact hk _ _ _ _ _ _ _ e2 ⟨j, tk, _, hsim.put (hd := .one (.tv (.bool b))) (Rep.bool _) o.dst⟩ e3

def InlOk (P : Program) (inl : Nat → Nat → FuncId → Option (Inl N)) : Prop := ∀ q d f I, inl q d f = some I → callable P f = true ∧ ∃ fn, P.funcs[f]? = some fn ∧ fn.body = some I.body ∧ fn.ntmps = I.ntmps ∧ fn.results.toList = I.res

/-- **The handler is sound.** -/
theorem ext_sound {C : Ctx E} (hC : COk P C) (hS : SigOk P C) (hIt : ItOk P C) (hm : P.follows .mixedOrders = true) {inl : Nat → Nat → FuncId → Option (Inl N)} (hI : InlOk P inl) {rsig : FuncId → Option (Sig E)} (hR : SigOk P { ti := fun _ => none, sig := rsig })
    {yl : Nat → List (Hold E) → (Bool → Option β) → Option β} {G : Bs β → Prop} (hG : ∀ B l x X O1 W1 F1, G B → G (Rnd B l x X O1 W1 F1)) (hG' : ∀ B X W1 FX, G B → G (Kp B X W1 FX)) (hY : ∀ B, G B → SpOk P yl B) {X0 : Ext E β} (hX0 : ∀ B, G B → CallOk P B X0) (M : Nat) :
    ∀ (k : Nat) (B : Bs β), G B → CallOk P B (extOf C inl rsig yl X0 M k) := by
  intro k
  induction k with
  | zero => intro B hB; exact hX0 B hB
  | succ k ih =>
    intro B hGB ov σ a w o c fv c' K next Q ro n base w0 F0 r j tk F ho hc hev hB hs he hk
    simp only [extOf] at he
    have hfv := hs.ev fv
    rw [hev] at hfv
    split at he
    · -- a function's value
      rename_i f us vs
      obtain ⟨us', vs', hv, hus, hvs⟩ := hfv
      have hargs : HReps w j tk F (us.map (fun x => Hold.one x.cell) ++ evL σ c.args.toList ++ vs.map (fun x => Hold.one x.cell)) (us' ++ c.args.toList.map a.eval ++ vs') :=
        ((scs_cells hus).append (evL_reps hs _)).append (scs_cells hvs)
      have hea : us'.toArray ++ c.args.map a.eval ++ vs'.toArray = (us' ++ c.args.toList.map a.eval ++ vs').toArray := by
        apply Array.ext'
        simp
      split at he
      · -- by a contract
        rename_i S hsig
        obtain ⟨hcall, hsays⟩ := hR f S hsig
        generalize us.map (fun x => Hold.one x.cell) ++ evL σ c.args.toList ++ vs.map (fun x => Hold.one x.cell) = hs' at he hargs
        generalize us' ++ c.args.toList.map a.eval ++ vs' = vs'' at hea hargs
        unfold callR at he
        split at he
        · rename_i x hx hnd
          cases hy : S.fn x with
          | none => rw [hy] at he; cases he
          | some y =>
            rw [hy] at he
            have hsf := hs.freeze (hs'.flatMap Hold.ptrs)
            have hfr : HReps w (jF j (hs'.flatMap Hold.ptrs)) tk (FF σ j F (hs'.flatMap Hold.ptrs)) (hs'.map (·.freeze σ (hs'.flatMap Hold.ptrs))) vs'' := hargs.map _ fun x _ v hr => hr.freeze hs
            have hpa := packArgs_sound S.ps _ x _ hx hfr
            have hcalls := hsays x y hy w _ _ (σ.off + o.dst.getD 0) hsf.Flt hsf.tab hpa
            refine step_enter (by rw [ho]; intro c' e; cases e) (exec_callv ho hc hv hcall) (R := _) (by rw [hea]; exact hcalls) ?_
            rintro e w' ⟨v, tr, F', rfl, hb, h1, h2, h3, hr, ht, ha⟩
            refine ⟨v, rfl, ?_⟩
            exact hk _ _ _ _ _ _ _ hB ⟨_, _, F', (hsf.afterCall hb h1 h2 h3 hnd ht ha).put (viewRes_toks hr _ _) o.dst⟩ he
        · cases he
      · -- in place
        split at he
        · rename_i I hin
          obtain ⟨hcall, fn, hf, hbody, hnt, hres⟩ := hI _ _ _ _ hin
          generalize hhs : us.map (fun x => Hold.one x.cell) ++ evL σ c.args.toList ++ vs.map (fun x => Hold.one x.cell) = hs' at he hargs
          generalize us' ++ c.args.toList.map a.eval ++ vs' = vs'' at hea hargs
          have hlen := hargs.len
          have hs1 := hs.push (ts := hs' ++ List.replicate (I.ntmps - hs'.length) (.one .dead)) (vs := vs''.toArray ++ Array.replicate (I.ntmps - vs''.toArray.size) undef) I.off (by simp [hlen]) (by
            intro i x v hx hv
            by_cases hi : i < hs'.length
            · rw [List.getElem?_append_left hi] at hx
              have hi' : i < vs''.length := by rw [← hlen]; exact hi
              have hv' : vs''[i]? = some v := by
                rw [Array.getElem?_append_left (by simpa using hi')] at hv
                simpa using hv
              exact hargs.get i x v hx hv'
            · rw [List.getElem?_append_right (by omega), List.getElem?_replicate] at hx
              split at hx
              · cases hx; trivial
              · cases hx)
          have hmk : ∀ D, mark D ∈ a.defers → base ≤ D ∧ ¬ F0.fn D ∧ D < w.heap.size ∧ (∀ s, j s ≠ some D) ∧ (∀ q v, tk q = some v → v.ownBlock ≠ some D) := by
            intro q hq
            obtain ⟨e1, e2⟩ := hs.mark_at hq
            refine ⟨e1, fun hf => (hs.frn q hf).2.2.2.2 hq, (Array.getElem?_eq_some_iff.1 e2).1, fun s hj => ?_, fun t v ht hv => ?_⟩
            · obtain ⟨_, _, ⟨blk, e3, e4⟩, _⟩ := hs.live s q hj
              cases blk with
              | gone => exact e4 rfl
              | cells cs => obtain ⟨b, us, T, f1, f2, _⟩ := hs.boxes s cs e3; rw [hj] at f1; cases f1; rw [e2] at f2; cases f2
              | iter str q' => obtain ⟨b, us, f1, f2, _⟩ := hs.iters s str q' e3; rw [hj] at f1; cases f1; rw [e2] at f2; cases f2
              | mp kt vt m => obtain ⟨b, es, cl, f1, f2, _⟩ := hs.maps s kt vt m e3; rw [hj] at f1; cases f1; rw [e2] at f2; cases f2
              | rw s' e' t xs => have := (hs.rows s s' e' t xs e3).1.1; rw [hj] at this; cases this
            · obtain ⟨i', m, ys, f1, f2, f3⟩ := hs.toks t v ht
              rcases f2.2 with ⟨f4, _⟩ | ⟨g, cap, cur, f4, _, f5, _⟩
              · rw [f4] at hv; simp [Value.ownBlock] at hv
              · rw [f4] at hv
                simp only [Value.ownBlock, Option.some.injEq] at hv
                subst hv
                rw [e2] at f5; cases f5
          have hs2 := hs1.restart (fun q => F0.fn q ∨ mark q ∈ a.defers) (by
            rintro q (hq | hq)
            · obtain ⟨f1, f2, f3, f4, f5⟩ := hs1.frn q hq
              exact ⟨Nat.lt_of_lt_of_le f1 hs1.below.size, f3, f4, f5⟩
            · obtain ⟨f1, f2, f3, f4, f5⟩ := hmk q hq
              exact ⟨f3, f4, f5, fun hm => by cases hm⟩)
          have hgd : Gd P (Kp B (fun q => mark q ∈ a.defers) w F) ⟨a.tmps.toList ++ ov.vs, ov.iv⟩ (σ.enter I hs') { tmps := vs''.toArray ++ Array.replicate (I.ntmps - vs''.toArray.size) undef, defers := [] } w _ :=
            ⟨base, w, ⟨F, fun q => F0.fn q ∨ mark q ∈ a.defers⟩, r, ⟨w0, F0, hB, hs1.toConv _ (fun _ h => .inl h), hs.Flt, fun q hq => ⟨.inr hq, (hmk q hq).2.1, (hmk q hq).1, rfl⟩, fun _ h => h, fun _ _ _ h => h⟩, ⟨j, tk, F, hs2⟩, he⟩
          have hwp := runC_sound hC hS hIt hm hG ih M I.body I.plans _ none 0 (hG' _ _ _ _ hGB) trivial _ _ _ _ _ hgd
          rw [fence_none] at hwp
          refine step_enter (by rw [ho]; intro c' e; cases e) (exec_callv ho hc hv hcall) (R := fun e w' => ∃ v, e = .returned v ∧ next (a.put o.dst v) w') ?_ (fun e w' h => h)
          rw [hea]
          refine callsIn_wide.1 (callsIn_of_wp_marks (F := Fence.wide) (n := 0) hf hbody trivial ?_)
          rw [hnt]
          refine wpIn_mono hwp ?_
          have fin : ∀ (e : Out) (σ2 : St E) (a2 : Act) (w2 : World), Gd P (Kp B (fun q => mark q ∈ a.defers) w F) ⟨a.tmps.toList ++ ov.vs, ov.iv⟩ σ2 a2 w2 (kCall C I.res σ.tmps.length σ.off σ.mrk o.dst K e σ2) → (e = .normal ∨ e = .ret) →
              LeavesInM Fence.wide 0 P fn a2.tmps (fun e w' => ∃ v, e = .returned v ∧ next (a.put o.dst v) w') a2.defers .returning w2 := by
            rintro e σ2 a2 w2 ⟨base1, w1, G1, r1, ⟨w3, G2, hB2, hcv, c4, c10, c11, _⟩, ⟨j1, tk1, F3, hs3⟩, he⟩ hee
            refine leaves_marks a2.defers a2 w2 rfl hs3 fun w4 hs4 => ?_
            have he' : (match resH C σ2 I.res with
              | some hs => match together hs with
                | some h => K ((σ2.back σ.tmps.length σ.off σ.mrk).put o.dst h)
                | none => none
              | none => none) = some r1 := by
              rcases hee with rfl | rfl <;> exact he
            split at he'
            · rename_i hds hrs
              split at he'
              · rename_i hd htg
                obtain ⟨vs3, h1, h2⟩ := resH_sound hC hs4 _ _ hrs
                have hrep := together_rep htg h2
                refine ⟨if h : vs3.toArray.size = 1 then vs3.toArray[0] else .tuple vs3.toArray, ?_, _, rfl, ?_⟩
                · unfold results
                  rw [Array.mapM_eq_mapM_toList, hres]
                  simp only [Sem.run_bind, Sem.run_map]
                  erw [h1]
                  rfl
                · have hs5 := hs4.conv hcv
                  have hmarks : ∀ D, mark D ∈ a.defers → w4.heap[D]? = w.heap[D]? ∧ ¬ G2.fn D ∧ base1 ≤ D := by
                    intro D hD
                    obtain ⟨f1, f2, f3, f6⟩ := c10 D hD
                    exact ⟨by rw [(hs4.frn D f1).2.1]; exact f6, f2, f3⟩
                  have hs6 := hs5.pop (a := a) (ov := ov) (vs := a2.tmps) (ds := []) (n := σ.tmps.length) σ.off σ.mrk hs.len.symm (by
                    obtain ⟨Ds, g1, g2, g3⟩ := hs.defers
                    refine ⟨Ds, g1, g2, fun D hD => ?_⟩
                    have := hmarks D (by rw [g2]; exact List.mem_map.2 ⟨D, hD, rfl⟩)
                    exact ⟨this.2.2, by rw [this.1]; exact (g3 D hD).2⟩) hs.mks (fun q hq hm => (hmarks q hm).2.1 hq)
                  exact hk _ _ _ _ _ _ _ hB2 ⟨_, _, _, hs6.put hrep o.dst⟩ he'
              · cases he'
            · cases he'
          intro e a2 w2 hp
          cases e with
          | normal => obtain ⟨σ2, h2⟩ := hp; exact fin .normal σ2 a2 w2 h2 (.inl rfl)
          | ret => obtain ⟨σ2, h2⟩ := hp; exact fin .ret σ2 a2 w2 h2 (.inr rfl)
          | exit id => obtain ⟨σ2, _, _, _, _, _, _, e⟩ := hp; cases e
          | _ => exact hp.elim
        · exact hX0 B hGB ov σ a w o c fv _ K next Q ro n base w0 F0 r j tk F ho hc hev hB hs he hk
    · -- yield
      rename_i i
      exact hY B hGB ov σ a w o c fv i K next Q ro n base w0 F0 r j tk F ho hc hev hB hs he hk
    · exact hX0 B hGB ov σ a w o c fv _ K next Q ro n base w0 F0 r j tk F ho hc hev hB hs he hk

theorem callOk_none {B : Bs β} : CallOk (E := E) P B noX := by
  intro ov σ a w o c fv c' K next Q ro n base w0 F0 r j tk F _ _ _ _ _ he; cases he

end
end Go.Ai
/- Other special function values: the contracts stay. An iterator's contract out of its run. -/
namespace Go.Ai
open Go.RowKit
set_option linter.unusedSectionVars false
set_option linter.unusedVariables false
set_option linter.unusedSimpArgs false

noncomputable section
variable {N : Type} [DecidableEq N] {E : Env N} {P : Program}
variable {base n : Nat} {ov : Ov E} {w0 w w' : World} {F0 : Fx} {F F' : Fz} {σ σ' : St E} {a : Act} {j : Sites} {tk : Toks} {ro : Option Nat} {fv : Nat → Value}

/-! ### Other special values -/
def TV.cast (fv : Nat → Value) : TV E → TV (E.withFv fv)
  | .int k n => .int k n
  | .bool b => .bool b
  | .str s => .str s
  | .sl t xs => .sl t xs
  | .val v => .val v
  | .ref n x => .ref n x
  | .spec i => .spec i

def TV.isSpec : TV E → Bool
  | .spec _ => true
  | _ => false

theorem tvOf_cast (t : Ty N) (x : den E.Γ t) : tvOf (E := E.withFv fv) t x = (tvOf (E := E) t x).cast fv := by cases t <;> rfl
theorem tvOf_spec (t : Ty N) (x : den E.Γ t) : (tvOf (E := E) t x).isSpec = false := by cases t <;> rfl

theorem viewTup_cast : ∀ (ts : List (Ty N)) (x : Tup E.Γ ts), viewTup (E := E.withFv fv) ts x = (viewTup (E := E) ts x).map (TV.cast fv)
  | [], _ => rfl
  | [t], x => by show [tvOf (E := E.withFv fv) t x] = _; rw [tvOf_cast]; rfl
  | t :: u :: ts, (x, y) => by
    show tvOf (E := E.withFv fv) t x :: viewTup (E := E.withFv fv) (u :: ts) y = _
    rw [tvOf_cast, viewTup_cast (u :: ts) y]; rfl

theorem viewTup_spec : ∀ (ts : List (Ty N)) (x : Tup E.Γ ts), ∀ l ∈ viewTup (E := E) ts x, l.isSpec = false
  | [], _, l, h => by cases h
  | [t], x, l, h => by
    have : l = tvOf t x := by simpa [viewTup] using h
    rw [this]; exact tvOf_spec t x
  | t :: u :: ts, (x, y), l, h => by
    rcases List.mem_cons.1 (show l ∈ tvOf t x :: viewTup (u :: ts) y from h) with rfl | h
    · exact tvOf_spec t x
    · exact viewTup_spec (u :: ts) y l h

theorem leaves_cast (t : Ty N) (x : den E.Γ t) : leaves (E := E.withFv fv) t x = (leaves (E := E) t x).map (TV.cast fv) := by
  cases t <;> first | rfl | exact viewTup_cast (E := E) _ _

theorem leaves_spec (t : Ty N) (x : den E.Γ t) : ∀ l ∈ leaves (E := E) t x, l.isSpec = false := by
  cases t with
  | st n => exact viewTup_spec (E := E) _ _
  | _ => intro l h; rw [List.mem_singleton.1 h]; rfl

theorem Rep.cast {x : TV E} {v : Value} (h : Rep w F x v) (hx : x.isSpec = false) : Rep w F (x.cast fv) v := by
  induction h with
  | int k n => exact .int k n
  | bool b => exact .bool b
  | str s => exact .str s
  | val v h => exact .val v h
  | spec i h => cases hx
  | sl t xs a cap vs hcap hnil hspot hc hr ih =>
    refine Rep.sl (E := E.withFv fv) t xs a cap vs hcap hnil hspot (fun ad ha i x c l hx hl => ?_) (fun i x c l hx hl => ?_)
    · rw [leaves_cast (E := E), List.getElem?_map, Option.map_eq_some_iff] at hl
      obtain ⟨l0, hl0, _⟩ := hl
      exact hc ad ha i x c l0 hx hl0
    · rw [leaves_cast (E := E), List.getElem?_map, Option.map_eq_some_iff] at hl
      obtain ⟨l0, hl0, rfl⟩ := hl
      exact ih i x c l0 hx hl0 (leaves_spec (E := E) t x l0 (List.mem_of_getElem? hl0))
  | ref n x b o vs hc hr ih =>
    refine Rep.ref (E := E.withFv fv) n x b o vs (fun c l hl => ?_) (fun c l hl => ?_)
    · rw [show viewTup (E := E.withFv fv) ((E.withFv fv).fl n) ((E.withFv fv).un n x) = (viewTup (E := E) (E.fl n) (E.un n x)).map (TV.cast fv) from viewTup_cast (E := E) _ _, List.getElem?_map, Option.map_eq_some_iff] at hl
      obtain ⟨l0, hl0, _⟩ := hl
      exact hc c l0 hl0
    · rw [show viewTup (E := E.withFv fv) ((E.withFv fv).fl n) ((E.withFv fv).un n x) = (viewTup (E := E) (E.fl n) (E.un n x)).map (TV.cast fv) from viewTup_cast (E := E) _ _, List.getElem?_map, Option.map_eq_some_iff] at hl
      obtain ⟨l0, hl0, rfl⟩ := hl
      exact ih c l0 hl0 (viewTup_spec (E := E) _ _ l0 (List.mem_of_getElem? hl0))

theorem TReps.cast : ∀ {xs : List (TV E)} {vs : List Value}, TReps w F xs vs → (∀ l ∈ xs, l.isSpec = false) → TReps w F (xs.map (TV.cast fv)) vs
  | [], [], _, _ => trivial
  | x :: xs, v :: vs, h, hx => ⟨h.1.cast (hx x (List.mem_cons_self ..)), TReps.cast h.2 fun l hl => hx l (List.mem_cons_of_mem _ hl)⟩
  | [], _ :: _, h, _ => h.elim
  | _ :: _, [], h, _ => h.elim

theorem LRep.tvs : ∀ {ls : List (TV E)} {us : List Value}, LRep w j tk F (ls.map Cell.tv) us → TReps w F ls us
  | [], [], _ => trivial
  | _ :: _, _ :: _, h => ⟨h.1, LRep.tvs h.2⟩
  | [], _ :: _, h => h.elim
  | _ :: _, [], h => h.elim

theorem HRep.castV {t : Ty N} {x : den E.Γ t} {v : Value} (h : HRep w j tk F (valH (E := E) t x) v) : HRep w j tk F (valH (E := E.withFv fv) t x) v := by
  unfold valH at h ⊢
  cases ht : t.one with
  | true =>
    rw [ht] at h
    dsimp only at h ⊢
    have : Rep w F (tvOf (E := E) t x) v := h
    show Rep (E := E.withFv fv) w F (tvOf (E := E.withFv fv) t x) v
    rw [tvOf_cast]
    exact this.cast (tvOf_spec t x)
  | false =>
    rw [ht] at h
    obtain ⟨us, e1, e2⟩ := h
    refine ⟨us, e1, LRep.of_tvs ?_⟩
    rw [leaves_cast]
    exact (LRep.tvs e2).cast (leaves_spec t x)

theorem HReps.castA : ∀ (ts : List (Ty N)) (x : Tup E.Γ ts) (vs : List Value), HReps w j tk F (argHs (E := E) ts x) vs → HReps w j tk F (argHs (E := E.withFv fv) ts x) vs
  | [], _, [], _ => trivial
  | [], _, _ :: _, h => h.elim
  | [t], x, [v], h => ⟨h.1.castV, trivial⟩
  | [t], x, [], h => h.elim
  | [t], x, _ :: _ :: _, h => h.2.elim
  | t :: u :: ts, (x, y), [], h => h.elim
  | t :: u :: ts, (x, y), v :: vs, h => ⟨h.1.castV, HReps.castA (u :: ts) y vs h.2⟩

theorem resVs_cast {d : Nat} : ∀ (i : Nat) (ts : List (Ty N)) (es : List (Option Nat)) (y : Tup E.Γ ts) (vs : List Value), VReps w j tk F (resVs (E := E) d i ts es y) vs → VReps w j tk F (resVs (E := E.withFv fv) d i ts es y) vs := by
  have one : ∀ (i : Nat) (e : Option Nat) (t : Ty N) (x : den E.Γ t) (v : Value), VRep w j tk F (resV (E := E) d i e t x) v → VRep w j tk F (resV (E := E.withFv fv) d i e t x) v := by
    intro i e t x v h
    unfold resV at h ⊢
    cases e with
    | some e =>
      dsimp only at h ⊢
      obtain ⟨c, hc, hr⟩ := h
      cases hc
      refine ⟨_, rfl, ?_⟩
      cases t with
      | sl t => exact ⟨(hr.1 : Rep w F (.sl t x) v).cast (fv := fv) rfl, hr.2⟩
      | _ => trivial
    | none =>
      dsimp only at h ⊢
      have hv : HRep w j tk F (valH (E := E) t x) v := by
        unfold valH
        cases ht : t.one with
        | true => rw [ht] at h; obtain ⟨c, hc, hr⟩ := h; cases hc; exact hr
        | false => rw [ht] at h; exact h
      have := hv.castV (fv := fv)
      unfold valH at this
      cases ht : t.one with
      | true => rw [ht] at this; exact ⟨_, rfl, this⟩
      | false => rw [ht] at this; exact this
  intro i ts
  induction ts generalizing i with
  | nil => intro es y vs h; cases vs <;> exact h
  | cons t ts ih =>
    intro es y vs h
    cases ts with
    | nil => cases vs with
      | nil => exact h.elim
      | cons v vs => exact ⟨one _ _ _ _ _ h.1, by cases vs <;> exact h.2⟩
    | cons u ts => cases vs with
      | nil => obtain ⟨y1, y2⟩ := y; exact h.elim
      | cons v vs => obtain ⟨y1, y2⟩ := y; exact ⟨one _ _ _ _ _ h.1, ih _ _ _ _ h.2⟩

theorem resV_rep {d i : Nat} {e : Option Nat} {t : Ty N} {x : den E.Γ t} {v : Value} (h : HRep w j tk F (holdV (resV (E := E) d i e t x)) v) : VRep w j tk F (resV (E := E) d i e t x) v := by
  unfold resV at h ⊢
  cases e with
  | some e => exact ⟨_, rfl, h⟩
  | none =>
    dsimp only at h ⊢
    cases ht : t.one with
    | true => rw [ht] at h; exact ⟨_, rfl, h⟩
    | false => rw [ht] at h; exact h

theorem HRep.castR {d : Nat} {ts : List (Ty N)} {es : List (Option Nat)} {y : Tup E.Γ ts} {v : Value} (h : HRep w j tk F (viewRes (E := E) d ts es y) v) : HRep w j tk F (viewRes (E := E.withFv fv) d ts es y) v := by
  have key := resVs_cast (w := w) (j := j) (tk := tk) (F := F) (fv := fv) (d := d) 0 ts es y
  match ts, y, h, key with
  | [t], y, h, key =>
    have hx : VRep w j tk F (resV (E := E) d 0 (es.headD none) t y) v := resV_rep h
    exact ((key [v] ⟨hx, trivial⟩).1 : VRep w j tk F (resV (E := E.withFv fv) d 0 (es.headD none) t y) v).hold
  | [], y, h, key => obtain ⟨us, h1, h2⟩ := h; exact ⟨us, h1, key us h2⟩
  | [t, u], (x, y), h, key => obtain ⟨us, h1, h2⟩ := h; exact ⟨us, h1, key us h2⟩
  | t :: u :: s :: ts, (x, y, z), h, key => obtain ⟨us, h1, h2⟩ := h; exact ⟨us, h1, key us h2⟩

def Sig.withFv (S : Sig E) (fv : Nat → Value) : Sig (E.withFv fv) := { ps := S.ps, rs := S.rs, ex := S.ex, fn := S.fn }

theorem Says.withFv {f : FuncId} {S : Sig E} {x : Tup E.Γ S.ps} {y : Tup E.Γ S.rs} (h : Says P f S x y) (fv : Nat → Value) : Says P f (S.withFv fv) x y := by
  intro w F args d hF hT hargs
  refine (h w F args d hF hT (HReps.castA (E := E.withFv fv) (fv := E.fv) S.ps x args hargs)).mono ?_
  rintro e w' ⟨v, tk, F', h1, h2, h3, h4, h5, h6, h7, h8⟩
  exact ⟨v, tk, F', h1, h2, h3, h4, h5, h6.castR, h7, h8⟩

def It.withFv (I : It E) (fv : Nat → Value) : It (E.withFv fv) := { ts := I.ts, cts := I.cts, shape := I.shape, fn := I.fn }

theorem Caps.cast : ∀ {sh : List Nat} {ls : List (TV E)} {vs : List Value}, Caps w F sh ls vs → (∀ l ∈ ls, l.isSpec = false) → Caps w F sh (ls.map (TV.cast fv)) vs
  | [], [], [], _, _ => trivial
  | n :: sh, ls, v :: vs, ⟨h1, ⟨b, o, us, h2, h3, h4⟩, h5⟩, hx => by
    refine ⟨by simpa using h1, ⟨b, o, us, h2, h3, ?_⟩, ?_⟩
    · rw [← List.map_take]; exact h4.cast fun l hl => hx l (List.mem_of_mem_take hl)
    · rw [← List.map_drop]; exact h5.cast fun l hl => hx l (List.mem_of_mem_drop hl)
  | [], _ :: _, _, h, _ => by cases ‹List Value› <;> exact h.elim
  | [], [], _ :: _, h, _ => h.elim
  | _ :: _, _, [], h, _ => h.elim

theorem SeqX.withFv {g : FuncId} {lb : Array Value} {ts : List (Ty N)} {xs : List (Tup E.Γ ts)} {F0 : Fz} (h : SeqX (E := E) P g lb ts xs w0 F0) (fv : Nat → Value) : SeqX (E := E.withFv fv) P g lb ts xs w0 F0 := by
  intro l J Jx W F h1 h2 h3 h4 h5 h6 h7
  exact h l J Jx W F h1 h2 h3 h4 h5 (fun i x F1 O1 W1 vs e1 e2 e3 e4 => h6 i x F1 O1 W1 vs e1 e2 e3 (HReps.castA ts x vs e4)) h7

/-! ### Yields -/
/-- One more is handed on; who is told to stop hands nothing on. -/
def emit {α : Type} (x : α) (kt kf : Option (List α)) : Option (List α) := match kf with
  | some [] => match kt with
    | some xs => some (x :: xs)
    | none => none
  | _ => none

def ylOf (ts : List (Ty N)) : Nat → List (Hold E) → (Bool → Option (List (Tup E.Γ ts))) → Option (List (Tup E.Γ ts)) := fun i args Kb => match i, packArgs ts args with
  | 0, some x => emit x (Kb true) (Kb false)
  | _, _ => none

def capHs : List Nat → List (TV E) → List (Hold E)
  | [], _ => []
  | n :: sh, ls => .one (.fptr (ls.take n)) :: capHs sh (ls.drop n)

theorem capHs_rep : ∀ {sh : List Nat} {ls : List (TV E)} {vs : List Value}, Caps w F sh ls vs → HReps w j tk F (capHs sh ls) vs
  | [], [], [], _ => trivial
  | n :: sh, ls, v :: vs, ⟨h1, h2, h3⟩ => ⟨h2, capHs_rep h3⟩
  | [], _ :: _, _, h => by cases ‹List Value› <;> exact h.elim
  | [], [], _ :: _, h => h.elim
  | _ :: _, _, [], h => h.elim

def kEnd {α : Type} (C : Ctx E) (res : List ResultVar) : Cont E (List α) := fun e σ => match e with
  | .exit _ => none
  | .normal => match resH C σ res with
    | some _ => some []
    | none => none
  | .ret => match resH C σ res with
    | some _ => some []
    | none => none

/-- From where an iterator's state is reckoned: O are its own blocks. -/
def Bit {ts : List (Ty N)} (J Jx : Inv) (b0 : Nat) (FW : Fz) (xs : List (Tup E.Γ ts)) : Bs (List (Tup E.Γ ts)) := fun base w0 F0 rest => base = b0 ∧ (∀ b o, FW b o → F0.c b o) ∧ b0 ≤ w0.heap.size ∧ ∃ i O, F0.fn = (fun k => k < w0.heap.size ∧ ¬ O k) ∧ (∀ k, O k → b0 ≤ k) ∧
  ((i ≤ xs.length ∧ xs.drop i = rest ∧ J i F0.c O w0) ∨ (i < xs.length ∧ rest = [] ∧ Jx (i + 1) F0.c O w0))

theorem Sim.turns (h : Sim P base w0 F0 ov σ a w j tk F) {O : Nat → Prop} (hfn : F0.fn = fun k => k < w0.heap.size ∧ ¬ O k) : Turns O w0 w ∧ (∀ b o, F b o → F0.c b o ∨ O b ∨ w0.heap.size ≤ b) := by
  refine ⟨⟨h.below.os, h.below.tape, h.below.output, h.below.size, fun k hk ho => (h.frn k (by rw [hfn]; exact ⟨hk, ho⟩)).2.1⟩, fun b o hf => ?_⟩
  rcases h.Fnew b o hf with hf | hf
  · exact .inl hf
  · right
    by_cases hO : O b
    · exact .inl hO
    · right
      have := hf.2
      rw [hfn] at this
      by_cases hb : b < w0.heap.size
      · exact absurd ⟨hb, hO⟩ this
      · omega

theorem Bit.yields {ts : List (Ty N)} {xs : List (Tup E.Γ ts)} {J Jx : Inv} {l b0 : Nat} {FW : Fz} (hJ : Abides J) (hJx : Abides Jx) (hl : fv 0 = .func (.yield l) #[] #[])
    (hround : ∀ (i : Nat) (x : Tup E.Γ ts) (F1 : Fz) (O1 : Nat → Prop) (W1 : World) (vs : List Value), xs[i]? = some x → (∀ b o, FW b o → F1 b o) → J i F1 O1 W1 → HReps W1 noSite noTok F1 (argHs (E := E) ts x) vs →
      YieldAt (fence none) 0 P l vs.toArray W1 fun e W2 => ∃ F2, (∀ b o, F1 b o → F2 b o) ∧ Agree F1 W1 W2 ∧ (∀ b o, F2 b o → F1 b o ∨ ¬ O1 b) ∧ (∀ b o, F2 b o → b < W2.heap.size) ∧ W1.heap.size ≤ W2.heap.size ∧
        (∀ k, O1 k → W2.heap[k]? = W1.heap[k]?) ∧ ((e = .returned (.bool true) ∧ J (i + 1) F2 O1 W2) ∨ (e = .returned (.bool false) ∧ Jx (i + 1) F2 O1 W2))) :
    YOk (E := E.withFv fv) P (ylOf (E := E.withFv fv) ts) (Bit (E := E) J Jx b0 FW xs) := by
  rintro ov σ a w i args vs Kb base w0 F0 r j tk F ⟨rfl, hFW, hb0, q, O, hfn, hO, hq⟩ hs hv he
  unfold ylOf at he
  split at he
  · rename_i x hx
    have hargs := packArgs_sound ts args x vs hx hv
    obtain ⟨rest, hkf, hkt, hr⟩ : ∃ rest, Kb false = some [] ∧ Kb true = some rest ∧ r = x :: rest := by
      unfold emit at he
      split at he
      · rename_i hf
        split at he
        · rename_i ys ht
          cases he
          exact ⟨ys, hf, ht, rfl⟩
        · cases he
      · cases he
    subst hr
    rcases hq with ⟨hqle, hdrop, hj⟩ | ⟨_, hnil, _⟩
    · have hqx : xs[q]? = some x ∧ xs.drop (q + 1) = rest := by
        have hlt : q < xs.length := by
          by_cases h : q < xs.length
          · exact h
          · rw [List.drop_eq_nil_of_le (by omega)] at hdrop; cases hdrop
        rw [List.drop_eq_getElem_cons hlt] at hdrop
        cases hdrop
        exact ⟨List.getElem?_eq_getElem hlt, rfl⟩
      obtain ⟨ht, hn⟩ := hs.turns hfn
      have hj1 : J q F (fun k => O k ∨ (w0.heap.size ≤ k ∧ k < w.heap.size)) w := hJ q F0.c F O _ w0 w hj ht hs.Fold hs.agr hn hs.Flt (fun _ h => .inl h) (fun _ h => h)
      have hy := hround q x F _ w vs hqx.1 (fun b o hf => hs.Fold b o (hFW b o hf)) hj1 (HReps.castA (E := E.withFv fv) (fv := E.fv) ts x vs hargs)
      refine ⟨l, hl, hy.mono ?_⟩
      have hown : ∀ k, base ≤ k → k < w.heap.size → ¬ F0.fn k → O k ∨ (w0.heap.size ≤ k ∧ k < w.heap.size) := by
        intro k h1 h2 h3
        rw [hfn] at h3
        by_cases hk : O k
        · exact .inl hk
        · right
          refine ⟨?_, h2⟩
          by_cases h4 : k < w0.heap.size
          · exact absurd ⟨h4, hk⟩ h3
          · omega
      rintro e w2 ⟨F2, f1, f2, f3, f4, f5, f6, f7⟩
      have common : ∀ (b : Bool) (r' : List (Tup E.Γ ts)), e = .returned (.bool b) → Bit (E := E) J Jx base FW xs base w2 ⟨F2, fun k => k < w2.heap.size ∧ ¬ (O k ∨ (w0.heap.size ≤ k ∧ k < w.heap.size))⟩ r' → Kb b = some r' → ∃ b F0' r', e = .returned (.bool b) ∧ Bit (E := E) J Jx base FW xs base w2 F0' r' ∧ Kb b = some r' ∧ (∀ b o, F b o → F0'.c b o) ∧ Agree F w w2 ∧ (∀ b o, F0'.c b o → F b o ∨ ¬ (base ≤ b ∧ b < w.heap.size ∧ ¬ F0.fn b)) ∧ (∀ b o, F0'.c b o → b < w2.heap.size) ∧ w.heap.size ≤ w2.heap.size ∧
          (∀ k, base ≤ k → k < w.heap.size → ¬ F0.fn k → w2.heap[k]? = w.heap[k]? ∧ ¬ F0'.fn k) ∧ (∀ k, F0'.fn k → k < w2.heap.size) := by
        intro b r' e1 e2 e3
        refine ⟨b, ⟨F2, fun k => k < w2.heap.size ∧ ¬ (O k ∨ (w0.heap.size ≤ k ∧ k < w.heap.size))⟩, r', e1, e2, e3, f1, f2, fun b o hf => ?_, f4, f5, fun k h1 h2 h3 => ⟨f6 k (hown k h1 h2 h3), fun hk => hk.2 (hown k h1 h2 h3)⟩, fun k hk => hk.1⟩
        rcases f3 b o hf with hf | hf
        · exact .inl hf
        · exact .inr fun h => hf (hown b h.1 h.2.1 h.2.2)
      have hO' : ∀ k, (O k ∨ (w0.heap.size ≤ k ∧ k < w.heap.size)) → base ≤ k := by
        rintro k (hk | hk)
        · exact hO k hk
        · exact Nat.le_trans hb0 hk.1
      rcases f7 with ⟨e1, hj2⟩ | ⟨e1, hj2⟩
      · exact common true rest e1 ⟨rfl, fun b o hf => f1 b o (hs.Fold b o (hFW b o hf)), Nat.le_trans hs.size f5, q + 1, _, rfl, hO', .inl ⟨by have := (List.getElem?_eq_some_iff.1 hqx.1).1; omega, hqx.2, hj2⟩⟩ hkt
      · exact common false [] e1 ⟨rfl, fun b o hf => f1 b o (hs.Fold b o (hFW b o hf)), Nat.le_trans hs.size f5, q, _, rfl, hO', .inr ⟨(List.getElem?_eq_some_iff.1 hqx.1).1, rfl, hj2⟩⟩ hkf
    · cases hnil
  · cases he

/-- **An iterator's contract out of its run.** -/
theorem seq_of_run {C : Ctx (E.withFv fv)} {ts cts : List (Ty N)} {X : Ext (E.withFv fv) (List (Tup E.Γ ts))} (hC : COk P C) (hS : SigOk P C) (hIt : ItOk P C) (hm : P.follows .mixedOrders = true)
    (hX : ∀ B, YOk (E := E.withFv fv) P (ylOf (E := E.withFv fv) ts) B → CallOk P B X) {M q : Nat} {f : FuncId} {fn : Func} {body : Code} {plans : List (Option (Plan N))} {shape : List Nat} {y : Tup E.Γ cts} {xs : List (Tup E.Γ ts)} {l : Nat} {J Jx : Inv} {W : World} {F : Fz} {lb : List Value}
    (hl : fv 0 = .func (.yield l) #[] #[]) (hf : P.funcs[f]? = some fn) (hb : fn.body = some body)
    (hrun : runC C X M body plans (start (.one (.tv (.spec 0)) :: capHs shape (viewTup (E := E.withFv fv) cts y)) fn.ntmps q) (kEnd C fn.results.toList) = some xs)
    (hF : ∀ b o, F b o → b < W.heap.size) (hT : E.tab W F) (hcap : Caps W F shape (viewTup (E := E) cts y) lb) (hJ : Abides J) (hJx : Abides Jx)
    (hround : ∀ (i : Nat) (x : Tup E.Γ ts) (F1 : Fz) (O1 : Nat → Prop) (W1 : World) (vs : List Value), xs[i]? = some x → (∀ b o, F b o → F1 b o) → J i F1 O1 W1 → HReps W1 noSite noTok F1 (argHs (E := E) ts x) vs →
      YieldAt (fence none) 0 P l vs.toArray W1 fun e W2 => ∃ F2, (∀ b o, F1 b o → F2 b o) ∧ Agree F1 W1 W2 ∧ (∀ b o, F2 b o → F1 b o ∨ ¬ O1 b) ∧ (∀ b o, F2 b o → b < W2.heap.size) ∧ W1.heap.size ≤ W2.heap.size ∧
        (∀ k, O1 k → W2.heap[k]? = W1.heap[k]?) ∧ ((e = .returned (.bool true) ∧ J (i + 1) F2 O1 W2) ∨ (e = .returned (.bool false) ∧ Jx (i + 1) F2 O1 W2)))
    (h0 : J 0 F (fun _ => False) W) :
    CallsIn (fence none) 0 P f (#[.func (.yield l) #[] #[]] ++ lb.toArray) W fun e W' => (∃ v, e = .returned v) ∧ ∃ F' O', (J xs.length F' O' W' ∨ ∃ i, i < xs.length ∧ Jx (i + 1) F' O' W') := by
  have hargs : HReps (E := E.withFv fv) W noSite noTok F (.one (.tv (.spec 0)) :: capHs shape (viewTup (E := E.withFv fv) cts y)) (.func (.yield l) #[] #[] :: lb) := by
    refine ⟨?_, capHs_rep ?_⟩
    · have : Rep (E := E.withFv fv) W F (.spec 0) (fv 0) := .spec 0 (by show (fv 0).oneCell' = true; rw [hl]; rfl)
      rw [hl] at this
      exact this
    · rw [viewTup_cast]
      exact hcap.cast (viewTup_spec (E := E) cts y)
  have hea : (#[.func (.yield l) #[] #[]] ++ lb.toArray : Array Value) = (.func (.yield l) #[] #[] :: lb).toArray := by
    apply Array.ext'
    simp
  rw [hea]
  have hsim := (start_sim (E := E.withFv fv) (P := P) (m := fn.ntmps) (q := q) hF hT hargs).restart (fun k => k < W.heap.size ∧ ¬ False) (fun k hk => ⟨hk.1, fun s e => (by cases e), fun t v e => (by cases e), fun hm => (by cases hm)⟩)
  have hY := Bit.yields (P := P) (E := E) (fv := fv) (xs := xs) (b0 := W.heap.size) (FW := F) hJ hJx hl hround
  have hgd : Gd P (Bit (E := E) J Jx W.heap.size F xs) ⟨[], []⟩ (start (.one (.tv (.spec 0)) :: capHs shape (viewTup (E := E.withFv fv) cts y)) fn.ntmps q) { tmps := (.func (.yield l) #[] #[] :: lb).toArray ++ Array.replicate (fn.ntmps - (.func (.yield l) #[] #[] :: lb).toArray.size) undef, defers := [] } W _ :=
    ⟨W.heap.size, W, ⟨F, fun k => k < W.heap.size ∧ ¬ False⟩, xs, ⟨rfl, fun _ _ h => h, Nat.le_refl _, 0, fun _ => False, rfl, fun k hk => hk.elim, .inl ⟨Nat.zero_le _, rfl, h0⟩⟩, ⟨_, _, _, hsim⟩, hrun⟩
  have hwp := runC_sound (X := X) hC hS hIt hm (G := fun B => YOk (E := E.withFv fv) P (ylOf (E := E.withFv fv) ts) B) (fun B l x X O1 W1 F1 h => h.rnd l x X O1 W1 F1) hX M body plans _ none 0 hY trivial _ _ _ _ W hgd
  rw [fence_none] at hwp
  rw [fence_none]
  refine callsIn_of_wp_marks (F := Fence.wide) (n := 0) hf hb trivial ?_
  refine wpIn_mono hwp ?_
  have fin : ∀ (e : Out) (σ2 : St (E.withFv fv)) (a2 : Act) (w2 : World), Gd P (Bit (E := E) J Jx W.heap.size F xs) ⟨[], []⟩ σ2 a2 w2 (kEnd C fn.results.toList e σ2) → (e = .normal ∨ e = .ret) →
      LeavesInM Fence.wide 0 P fn a2.tmps (fun e W' => (∃ v, e = .returned v) ∧ ∃ F' O', (J xs.length F' O' W' ∨ ∃ i, i < xs.length ∧ Jx (i + 1) F' O' W')) a2.defers .returning w2 := by
    rintro e σ2 a2 w2 ⟨base1, w1, G1, r1, ⟨rfl, hFW, hb1, i, O, hfn, hO, hq⟩, ⟨j1, tk1, F3, hs3⟩, he⟩ hee
    refine leaves_marks a2.defers a2 w2 rfl hs3 fun w4 hs4 => ?_
    cases hrs : resH C σ2 fn.results.toList with
    | none => rcases hee with rfl | rfl <;> (simp only [kEnd, hrs] at he; cases he)
    | some hds =>
      have hr1 : r1 = [] := by rcases hee with rfl | rfl <;> (simp only [kEnd, hrs] at he; exact (Option.some.inj he).symm)
      subst hr1
      obtain ⟨vs3, h1, h2⟩ := resH_sound hC hs4 _ _ hrs
      refine ⟨if h : vs3.toArray.size = 1 then vs3.toArray[0] else .tuple vs3.toArray, ?_, ⟨_, rfl⟩, F3, fun k => O k ∨ (w1.heap.size ≤ k ∧ k < w4.heap.size), ?_⟩
      · unfold results
        rw [Array.mapM_eq_mapM_toList]
        simp only [Sem.run_bind, Sem.run_map]
        erw [h1]
        rfl
      · obtain ⟨ht, hn⟩ := hs4.turns hfn
        rcases hq with ⟨hle, hdrop, hj⟩ | ⟨hlt, _, hj⟩
        · left
          have hi : i = xs.length := by
            have := congrArg List.length hdrop
            simp at this
            omega
          subst hi
          exact hJ _ _ _ _ _ _ _ hj ht hs4.Fold hs4.agr hn hs4.Flt (fun _ h => .inl h) (fun _ h => h)
        · exact .inr ⟨i, hlt, hJx _ _ _ _ _ _ _ hj ht hs4.Fold hs4.agr hn hs4.Flt (fun _ h => .inl h) (fun _ h => h)⟩
  intro e a2 w2 hp
  cases e with
  | normal => obtain ⟨σ2, h2⟩ := hp; exact fin .normal σ2 a2 w2 h2 (.inl rfl)
  | ret => obtain ⟨σ2, h2⟩ := hp; exact fin .ret σ2 a2 w2 h2 (.inr rfl)
  | exit id => obtain ⟨σ2, _, _, _, _, _, _, e⟩ := hp; cases e
  | _ => exact hp.elim

theorem Caps.mono (hF : ∀ b o, F b o → F' b o) (hw : Agree F w w') : ∀ {sh : List Nat} {ls : List (TV E)} {vs : List Value}, Caps w F sh ls vs → Caps w' F' sh ls vs
  | [], [], [], _ => trivial
  | n :: sh, ls, v :: vs, ⟨h1, ⟨b, o, us, h2, h3, h4⟩, h5⟩ => ⟨h1, ⟨b, o, us, h2, fun i u hu => ⟨hF _ _ (h3 i u hu).1, hw _ _ _ (h3 i u hu).1 (h3 i u hu).2⟩, h4.mono hF hw⟩, h5.mono hF hw⟩
  | [], _ :: _, _, h => by cases ‹List Value› <;> exact h.elim
  | [], [], _ :: _, h => h.elim
  | _ :: _, _, [], h => h.elim

theorem seqX_of_run {C : ∀ fv, Ctx (E.withFv fv)} {ts cts : List (Ty N)} {X : ∀ fv, Ext (E.withFv fv) (List (Tup E.Γ ts))} (hC : ∀ fv, COk P (C fv)) (hS : ∀ fv, SigOk P (C fv)) (hIt : ∀ fv, ItOk P (C fv)) (hm : P.follows .mixedOrders = true)
    (hX : ∀ fv B, YOk (E := E.withFv fv) P (ylOf (E := E.withFv fv) ts) B → CallOk P B (X fv)) {M q : Nat} {f : FuncId} {fn : Func} {body : Code} {plans : List (Option (Plan N))} {shape : List Nat} {y : Tup E.Γ cts} {xs : List (Tup E.Γ ts)} {F0 : Fz} {lb : List Value}
    (hf : P.funcs[f]? = some fn) (hb : fn.body = some body)
    (hrun : ∀ fv, runC (C fv) (X fv) M body plans (start (.one (.tv (.spec 0)) :: capHs shape (viewTup (E := E.withFv fv) cts y)) fn.ntmps q) (kEnd (C fv) fn.results.toList) = some xs)
    (hT : E.tab w0 F0) (hcap : Caps w0 F0 shape (viewTup (E := E) cts y) lb) : SeqX (E := E) P f lb.toArray ts xs w0 F0 := by
  intro l J Jx W F h1 h2 h3 h4 h5 h6 h7
  exact seq_of_run (fv := fun _ => .func (.yield l) #[] #[]) (hC _) (hS _) (hIt _) hm (hX _) rfl hf hb (hrun _) h3 (E.tabM _ _ _ _ hT h1 h2) (hcap.mono h1 h2) h4 h5 h6 h7

/-! ### Tables -/
def inlOf : List (Nat × Nat × Nat × Inl N) → Nat → Nat → FuncId → Option (Inl N)
  | [], _, _, _ => none
  | (a, b, c, I) :: r, q, d, f => match Nat.beq a q, Nat.beq b d, Nat.beq c f with
    | true, true, true => some I
    | _, _, _ => inlOf r q d f

def InlsOk (P : Program) (l : List (Nat × Nat × Nat × Inl N)) : Prop := ∀ a b c I, (a, b, c, I) ∈ l → callable P c = true ∧ ∃ fn, P.funcs[c]? = some fn ∧ fn.body = some I.body ∧ fn.ntmps = I.ntmps ∧ fn.results.toList = I.res

theorem InlsOk.nil : InlsOk (N := N) P [] := fun a b c I h => by cases h
theorem InlsOk.cons {a b c : Nat} {I : Inl N} {l : List (Nat × Nat × Nat × Inl N)} (h : callable P c = true ∧ ∃ fn, P.funcs[c]? = some fn ∧ fn.body = some I.body ∧ fn.ntmps = I.ntmps ∧ fn.results.toList = I.res) (hl : InlsOk P l) : InlsOk P ((a, b, c, I) :: l) := by
  intro a' b' c' I' hm
  rcases List.mem_cons.1 hm with e | hm
  · cases e; exact h
  · exact hl _ _ _ _ hm

theorem InlsOk.ok : ∀ {l : List (Nat × Nat × Nat × Inl N)}, InlsOk P l → InlOk P (inlOf l)
  | [], _, q, d, f, I, h => by cases h
  | (a, b, c, I') :: l, hl, q, d, f, I, h => by
    simp only [inlOf] at h
    split at h
    · rename_i h1 h2 h3
      cases h
      have := Nat.eq_of_beq_eq_true h3
      subst this
      exact hl _ _ _ _ (List.mem_cons_self ..)
    · exact InlsOk.ok (fun a b c I hm => hl a b c I (List.mem_cons_of_mem _ hm)) q d f I h

theorem callOk_ext {C : Ctx E} {β : Type} (hC : COk P C) (hS : SigOk P C) (hIt : ItOk P C) (hm : P.follows .mixedOrders = true) {inl : Nat → Nat → FuncId → Option (Inl N)} (hI : InlOk P inl) {rsig : FuncId → Option (Sig E)} (hR : SigOk P { ti := fun _ => none, sig := rsig }) {X0 : Ext E β} (hX0 : ∀ B, CallOk P B X0) (M k : Nat) :
    ∀ B : Bs β, CallOk P B (extOf C inl rsig (fun _ _ _ => none) X0 M k) :=
  fun B => ext_sound hC hS hIt hm hI hR (G := fun _ => True) (fun _ _ _ _ _ _ _ _ => trivial) (fun _ _ _ _ _ => trivial) (fun _ _ => YOk.none.sp) (fun B _ => hX0 B) M k B trivial

theorem callOk_yl {C : Ctx E} {ts : List (Ty N)} (hC : COk P C) (hS : SigOk P C) (hIt : ItOk P C) (hm : P.follows .mixedOrders = true) {inl : Nat → Nat → FuncId → Option (Inl N)} (hI : InlOk P inl) {rsig : FuncId → Option (Sig E)} (hR : SigOk P { ti := fun _ => none, sig := rsig }) {X0 : Ext E (List (Tup E.Γ ts))} (hX0 : ∀ B, CallOk P B X0) (M k : Nat) :
    ∀ B, YOk (E := E) P (ylOf ts) B → CallOk P B (extOf C inl rsig (ylOf ts) X0 M k) :=
  fun B hB => ext_sound hC hS hIt hm hI hR (G := fun B => YOk (E := E) P (ylOf ts) B) (fun B l x X O1 W1 F1 h => h.rnd l x X O1 W1 F1) (fun B X W1 FX h => h.kp X W1 FX) (fun B h => h.sp) (fun B _ => hX0 B) M k B hB

/-- What is asked of an iterator's contract. -/
def ItSays (P : Program) (f : FuncId) (I : It E) : Prop := callable P f = true ∧ ∀ y xs, I.fn y = some xs → ∀ (w0 : World) (F0 : Fz) (lb : List Value), (∀ b o, F0 b o → b < w0.heap.size) → E.tab w0 F0 → Caps w0 F0 I.shape (viewTup I.cts y) lb → SeqX P f lb.toArray I.ts xs w0 F0

theorem ItSays.withFv {f : FuncId} {I : It E} (h : ItSays P f I) (fv : Nat → Value) : ItSays P f (I.withFv fv) := by
  refine ⟨h.1, fun y xs hy w0 F0 lb hF hT hc => ?_⟩
  refine (h.2 y xs hy w0 F0 lb hF hT ?_).withFv fv
  have hc' : Caps (E := E.withFv fv) w0 F0 I.shape (viewTup (E := E.withFv fv) I.cts y) lb := hc
  have h1 := hc'.cast (fv := E.fv) (viewTup_spec (E := E.withFv fv) I.cts y)
  have h2 : viewTup (E := (E.withFv fv).withFv E.fv) I.cts y = (viewTup (E := E.withFv fv) I.cts y).map (TV.cast E.fv) := viewTup_cast (E := E.withFv fv) (fv := E.fv) I.cts y
  exact (h2 ▸ h1 : Caps (E := (E.withFv fv).withFv E.fv) w0 F0 I.shape (viewTup (E := (E.withFv fv).withFv E.fv) I.cts y) lb)

end
end Go.Ai
/- Pieces of a function's code by their place, with what is run behind them. -/
namespace Go.Ai
set_option linter.unusedSectionVars false
set_option linter.unusedVariables false

/-- c: into a call that is run in place: the operation's number, the function, the caller's number of temporaries, where its sites begin, has it a mark. -/
inductive Dir where
  | l | r | a | b | k | L | s
  | c (i f n off : Nat) (mrk : Bool)

noncomputable section
variable {N : Type} [DecidableEq N] {E : Env N} {β : Type}

def kLoop (C : Ctx E) (p : Option (Plan N)) (Z : St E → Option β) (K : Cont E β) : Cont E β := fun e σ => match e with
  | .normal => cut C p σ Z
  | .exit id => K (.exit id) σ
  | .ret => K .ret σ

def setAll {α : Type} (n : Nat) (d : α) (xs : List (Nat × α)) : List α := xs.foldl (fun l x => l.set x.1 x.2) (List.replicate n d)
def mkSt (n m : Nat) (ts : List (Nat × Hold E)) (bs : List (Nat × Blk E)) (no : Nat) (os : List (Nat × Hold E)) (its : List (Pend E)) (mrk : Bool) : St E :=
  { tmps := setAll n (.one .dead) ts, heap := setAll m .gone bs, out := setAll no (.one .dead) os, its := its, mrk := mrk }

def bodyOf (f : Func) : Code := match f.body with
  | some c => c
  | none => .skip

/-- A table of contracts. -/
def SigsOk (P : Program) (l : List (Nat × Sig E)) : Prop := ∀ f S, l.lookup f = some S → callable P f = true ∧ ∀ x y, S.fn x = some y → Says P f S x y

theorem SigsOk.nil {P : Program} : SigsOk (E := E) P [] := fun f S h => by simp at h
theorem SigsOk.cons {P : Program} {f : Nat} {S : Sig E} {l : List (Nat × Sig E)} (h : callable P f = true ∧ ∀ x y, S.fn x = some y → Says P f S x y) (hl : SigsOk P l) : SigsOk P ((f, S) :: l) := by
  intro g T hg
  rw [List.lookup_cons] at hg
  split at hg
  · rename_i e
    have e : g = f := by simpa using e
    subst e
    cases hg
    exact h
  · exact hl g T hg

theorem lookup_mem' {α : Type} {t : Nat} {x : α} : ∀ {l : List (Nat × α)}, l.lookup t = some x → (t, x) ∈ l
  | [], h => by simp at h
  | (s, y) :: l, h => by
    rw [List.lookup_cons] at h
    split at h
    · rename_i e
      have e : t = s := by simpa using e
      subst e
      cases h
      exact List.mem_cons_self ..
    · exact List.mem_cons_of_mem _ (lookup_mem' h)

theorem COk.of_list {P : Program} {l : List (Nat × TI E)} {sig : FuncId → Option (Sig E)} {it : FuncId → Option (It E)} {nt : Nat} {r1 r2 : List Nat} (h : (l.all fun x => chk P x.1 x.2) = true) : COk P { ti := fun t => l.lookup t, sig := sig, it := it, nt := nt, rowAt := r1, frzAt := r2 } := fun _ _ ht => List.all_eq_true.1 h _ (lookup_mem' ht)

theorem SigsOk.fv {P : Program} {l : List (Nat × Sig E)} (h : SigsOk P l) (fv : Nat → Value) {ti : Nat → Option (TI (E.withFv fv))} {it : FuncId → Option (It (E.withFv fv))} {nt : Nat} {r1 r2 : List Nat} :
    SigOk P ({ ti := ti, sig := fun f => (l.lookup f).map fun S => S.withFv fv, it := it, nt := nt, rowAt := r1, frzAt := r2 } : Ctx (E.withFv fv)) := by
  intro f S hf
  rw [Option.map_eq_some_iff] at hf
  obtain ⟨S0, h0, rfl⟩ := hf
  obtain ⟨h1, h2⟩ := h f S0 h0
  exact ⟨h1, fun x y hy => (h2 x y hy).withFv fv⟩

def ItsOk (P : Program) (l : List (Nat × It E)) : Prop := ∀ f I, l.lookup f = some I → ItSays P f I
theorem ItsOk.nil {P : Program} : ItsOk (E := E) P [] := fun f S h => by simp at h
theorem ItsOk.cons {P : Program} {f : Nat} {S : It E} {l : List (Nat × It E)} (h : ItSays P f S) (hl : ItsOk P l) : ItsOk P ((f, S) :: l) := by
  intro g T hg
  rw [List.lookup_cons] at hg
  split at hg
  · rename_i e
    have e : g = f := by simpa using e
    subst e
    cases hg
    exact h
  · exact hl g T hg

theorem ItsOk.ok {P : Program} {l : List (Nat × It E)} (h : ItsOk P l) {ti : Nat → Option (TI E)} {sig : FuncId → Option (Sig E)} {nt : Nat} {r1 r2 : List Nat} : ItOk P ({ ti := ti, sig := sig, it := fun f => l.lookup f, nt := nt, rowAt := r1, frzAt := r2 } : Ctx E) := fun f I hf => h f I hf

theorem ItsOk.fv {P : Program} {l : List (Nat × It E)} (h : ItsOk P l) (fv : Nat → Value) {ti : Nat → Option (TI (E.withFv fv))} {sig : FuncId → Option (Sig (E.withFv fv))} {nt : Nat} {r1 r2 : List Nat} :
    ItOk P ({ ti := ti, sig := sig, it := fun f => (l.lookup f).map fun I => I.withFv fv, nt := nt, rowAt := r1, frzAt := r2 } : Ctx (E.withFv fv)) := by
  intro f S hf
  rw [Option.map_eq_some_iff] at hf
  obtain ⟨S0, h0, rfl⟩ := hf
  exact (h f S0 h0).withFv fv

end
end Go.Ai
/- A function's code in segments between its cuts: what each computes, with what comes behind the cuts held abstract; also of calls that are run in place. -/
namespace Go.Ai
set_option linter.unusedSectionVars false
set_option linter.unusedVariables false

deriving instance DecidableEq for Dir

noncomputable section
variable {N : Type} [DecidableEq N] {E : Env N} {β : Type}

def kSeqZ (C : Ctx E) (p : Option (Plan N)) (z f : St E → Option β) (K : Cont E β) : Cont E β := fun e σ => match e with
  | .normal => match p with
    | none => f σ
    | some p => cut C (some p) σ z
  | .exit id => K (.exit id) σ
  | .ret => K .ret σ

/-- A region's operations, each with a handler of its own. -/
def runOpsY (C : Ctx E) (Xi : Nat → Ext E β) (ops : Array Oper) : List Nat → St E → (St E → Option β) → Option β
  | [], σ, K => K σ
  | i :: r, σ, K => match ops[i]? with
    | none => runOpsY C Xi ops r σ K
    | some o => match o.guard with
      | none => evalOp C (Xi i) σ o fun σ' => runOpsY C Xi ops r σ' K
      | some (j, want) => match (ops[j]?).bind (·.dst) with
        | some d => match σ.tmps[d]? with
          | some (.one (.tv (.bool b))) =>
            cond b
              (match want with
               | true => evalOp C (Xi i) (σ.put (some d) (.one (.tv (.bool true)))) o fun σ' => runOpsY C Xi ops r σ' K
               | false => runOpsY C Xi ops r ((σ.put (some d) (.one (.tv (.bool true)))).put o.dst (.tup [])) K)
              (match want with
               | false => evalOp C (Xi i) (σ.put (some d) (.one (.tv (.bool false)))) o fun σ' => runOpsY C Xi ops r σ' K
               | true => runOpsY C Xi ops r ((σ.put (some d) (.one (.tv (.bool false)))).put o.dst (.tup [])) K)
          | some (.tup []) => runOpsY C Xi ops r (σ.put o.dst (.tup [])) K
          | _ => none
        | none => none

/-- What stands behind the cuts within calls in place. -/
abbrev ZC (E : Env N) (β : Type) := Nat → Nat → Nat → Bool → List Dir → St E → Option β
def zc (Z : List Dir → St E → Option β) (i : Nat) : ZC E β := fun f n off mrk p => Z (.c i f n off mrk :: p)

def runZ (C : Ctx E) (Y : ZC E β → Ext E β) : (List Dir → St E → Option β) → Code → List (Option (Plan N)) → St E → Cont E β → Option β
  | Z, .skip, _, σ, K => K .normal σ
  | Z, .region _ ops draw, _, σ, K => match draw with
    | false => runOpsY C (fun i => Y (zc Z i)) ops (List.range ops.size) σ (K .normal)
    | true => match drawOk C ops && freshD σ ops with
      | true => runOpsY C (fun i => Y (zc Z i)) ops (List.range ops.size) σ (K .normal)
      | false => none
  | Z, .seq a b, ps, σ, K => runZ C Y (fun p => Z (.l :: p)) a (ps.take (nplans a)) σ (kSeqZ C (ps.drop (nplans a)).head?.join (Z []) (fun σ' => runZ C Y (fun p => Z (.r :: p)) b (ps.drop (nplans a + 1)) σ' K) K)
  | Z, .cond c a b, ps, σ, K => match σ.ev c with
    | .one (.tv (.bool t)) => cond t (runZ C Y (fun p => Z (.a :: p)) a (ps.take (nplans a)) σ K) (runZ C Y (fun p => Z (.b :: p)) b (ps.drop (nplans a)) σ K)
    | _ => none
  | Z, .block id a, ps, σ, K => runZ C Y (fun p => Z (.k :: p)) a ps σ (kBlock id K)
  | Z, .loop a, ps, σ, K => cut C ps.head?.join σ (Z [])
  | Z, .rangeFunc g pa a b, ps, σ, K => enterX C σ g fun σ1 => cut C ps.head?.join σ1 (Z [])
  | Z, .exit id, _, σ, K => K (.exit id) σ
  | Z, .ret, _, σ, K => K .ret σ
  | _, _, _, _, _ => none

/-- How a handler is made: functions run in place at each depth, by the handler of the depth below. -/
structure Hd (E : Env N) (β : Type) where
  inl : Nat → Nat → FuncId → Option (Inl N)
  rsig : FuncId → Bool
  X : Nat → Ext E β

def Hd.ok (C : Ctx E) (M : Nat) (H : Hd E β) : Prop := ∀ k σ d f us vs args K I, H.rsig f = false → H.inl σ.off (d.getD 0) f = some I →
  (H.X (k + 1)).call σ d (.fn (.func f) us vs) args K = runC C (H.X k) M I.body I.plans (σ.enter I (us.map (fun x => .one x.cell) ++ args ++ vs.map (fun x => .one x.cell))) (kCall C I.res σ.tmps.length σ.off σ.mrk d K)

def extZ (C : Ctx E) (H : Hd E β) : Nat → ZC E β → Ext E β
  | 0, _ => H.X 0
  | k + 1, Z => ⟨fun σ d c args K => match c with
    | .fn (.func f) us vs => match H.rsig f, H.inl σ.off (d.getD 0) f with
      | false, some I => runZ C (extZ C H k) (Z f σ.tmps.length σ.off σ.mrk) I.body I.plans (σ.enter I (us.map (fun x => .one x.cell) ++ args ++ vs.map (fun x => .one x.cell))) (kCall C I.res σ.tmps.length σ.off σ.mrk d K)
      | _, _ => (H.X (k + 1)).call σ d (.fn (.func f) us vs) args K
    | c => (H.X (k + 1)).call σ d c args K⟩

/-- The function that a place within a region leads into. -/
def inlAt (H : Hd E β) (ops : Array Oper) (i f off : Nat) : Option (Oper × Inl N) := match ops[i]? with
  | some o => match H.inl off (o.dst.getD 0) f with
    | some I => some (o, I)
    | none => none
  | none => none

def rest (ops : Array Oper) (i : Nat) : List Nat := (List.range ops.size).drop (i + 1)

/-- The segment behind the cut at a place. -/
def seg (C : Ctx E) (H : Hd E β) : Nat → (List Dir → St E → Option β) → Code → List (Option (Plan N)) → Cont E β → List Dir → St E → Option β
  | k, Z, .seq a b, ps, K, [] => fun σ => runZ C (extZ C H k) (fun p => Z (.r :: p)) b (ps.drop (nplans a + 1)) σ K
  | k, Z, .loop a, ps, K, [] => fun σ => runZ C (extZ C H k) (fun p => Z (.L :: p)) a ps.tail σ (kLoop C ps.head?.join (Z []) K)
  | k, Z, .rangeFunc g pa a b, ps, K, [] => fun σ => roundX C.nt pa.toList (fun σ' K' => runZ C (extZ C H k) (fun p => Z (.s :: p)) a (ps.tail.take (nplans a)) σ' K') (fun σ' K' => runZ C (extZ C H k) (fun p => Z (.L :: p)) b (ps.tail.drop (nplans a)) σ' K') K σ (kLoop C ps.head?.join (Z []) (kPop K))
  | k, Z, .rangeFunc g pa a b, ps, K, .s :: p => seg C H k (fun p => Z (.s :: p)) a (ps.tail.take (nplans a)) (kAssign fun σ' => runZ C (extZ C H k) (fun p => Z (.L :: p)) b (ps.tail.drop (nplans a)) σ' (kBack C.nt 0 true (kLoop C ps.head?.join (Z []) (kPop K)))) p
  | k, Z, .rangeFunc g pa a b, ps, K, .L :: p => seg C H k (fun p => Z (.L :: p)) b (ps.tail.drop (nplans a)) (kBack C.nt 0 true (kLoop C ps.head?.join (Z []) (kPop K))) p
  | k, Z, .seq a b, ps, K, .l :: p => seg C H k (fun p => Z (.l :: p)) a (ps.take (nplans a)) (kSeqZ C (ps.drop (nplans a)).head?.join (Z []) (fun σ' => runZ C (extZ C H k) (fun p => Z (.r :: p)) b (ps.drop (nplans a + 1)) σ' K) K) p
  | k, Z, .seq a b, ps, K, .r :: p => seg C H k (fun p => Z (.r :: p)) b (ps.drop (nplans a + 1)) K p
  | k, Z, .cond _ a _, ps, K, .a :: p => seg C H k (fun p => Z (.a :: p)) a (ps.take (nplans a)) K p
  | k, Z, .cond _ a b, ps, K, .b :: p => seg C H k (fun p => Z (.b :: p)) b (ps.drop (nplans a)) K p
  | k, Z, .block id a, ps, K, .k :: p => seg C H k (fun p => Z (.k :: p)) a ps (kBlock id K) p
  | k, Z, .loop a, ps, K, .L :: p => seg C H k (fun p => Z (.L :: p)) a ps.tail (kLoop C ps.head?.join (Z []) K) p
  | k + 1, Z, .region _ ops _, ps, K, .c i f n off mrk :: p => match inlAt H ops i f off with
    | some (o, I) => seg C H k (zc Z i f n off mrk) I.body I.plans (kCall C I.res n off mrk o.dst fun σ' => runOpsY C (fun q => extZ C H (k + 1) (zc Z q)) ops (rest ops i) σ' (K .normal)) p
    | none => fun _ => none
  | _, _, _, _, _, _ => fun _ => none

/-- What truly comes behind a cut; ZL: the next rounds of the loops around. -/
def zAt (C : Ctx E) (H : Hd E β) (M : Nat) : Nat → (List Dir → Option (St E → Option β)) → Code → List (Option (Plan N)) → Cont E β → List Dir → St E → Option β
  | k, ZL, .seq a b, ps, K, [] => fun σ => runC C (H.X k) M b (ps.drop (nplans a + 1)) σ K
  | k, ZL, .loop a, ps, K, [] => match ZL [] with
    | some z => z
    | none => fun σ => iter C ps.head?.join (fun σ' K' => runC C (H.X k) M a ps.tail σ' K') K M σ
  | k, ZL, .rangeFunc g pa a b, ps, K, [] => match ZL [] with
    | some z => z
    | none => fun σ => iter C ps.head?.join (roundX C.nt pa.toList (fun σ' K' => runC C (H.X k) M a (ps.tail.take (nplans a)) σ' K') (fun σ' K' => runC C (H.X k) M b (ps.tail.drop (nplans a)) σ' K') K) (kPop K) M σ
  | k, ZL, .rangeFunc g pa a b, ps, K, .s :: p => zAt C H M k (fun p => ZL (.s :: p)) a (ps.tail.take (nplans a)) (kAssign fun σ' => runC C (H.X k) M b (ps.tail.drop (nplans a)) σ' (kBack C.nt 0 true (kLoop C ps.head?.join ((ZL []).getD fun _ => none) (kPop K)))) p
  | k, ZL, .rangeFunc g pa a b, ps, K, .L :: p => zAt C H M k (fun p => ZL (.L :: p)) b (ps.tail.drop (nplans a)) (kBack C.nt 0 true (kLoop C ps.head?.join ((ZL []).getD fun _ => none) (kPop K))) p
  | k, ZL, .seq a b, ps, K, .l :: p => zAt C H M k (fun p => ZL (.l :: p)) a (ps.take (nplans a)) (kSeq C (ps.drop (nplans a)).head?.join (fun σ' K' => runC C (H.X k) M b (ps.drop (nplans a + 1)) σ' K') K) p
  | k, ZL, .seq a b, ps, K, .r :: p => zAt C H M k (fun p => ZL (.r :: p)) b (ps.drop (nplans a + 1)) K p
  | k, ZL, .cond _ a _, ps, K, .a :: p => zAt C H M k (fun p => ZL (.a :: p)) a (ps.take (nplans a)) K p
  | k, ZL, .cond _ a b, ps, K, .b :: p => zAt C H M k (fun p => ZL (.b :: p)) b (ps.drop (nplans a)) K p
  | k, ZL, .block id a, ps, K, .k :: p => zAt C H M k (fun p => ZL (.k :: p)) a ps (kBlock id K) p
  | k, ZL, .loop a, ps, K, .L :: p => zAt C H M k (fun p => ZL (.L :: p)) a ps.tail (kLoop C ps.head?.join ((ZL []).getD fun _ => none) K) p
  | k + 1, ZL, .region _ ops _, ps, K, .c i f n off mrk :: p => match inlAt H ops i f off with
    | some (o, I) => zAt C H M k (fun p => ZL (.c i f n off mrk :: p)) I.body I.plans (kCall C I.res n off mrk o.dst fun σ' => runOps C (H.X (k + 1)) ops (rest ops i) σ' (K .normal)) p
    | none => fun _ => none
  | _, _, _, _, _, _ => fun _ => none

/-- So many rounds of the loop at a place. -/
def lpAt (C : Ctx E) (H : Hd E β) (M : Nat) : Nat → (List Dir → Option (St E → Option β)) → Code → List (Option (Plan N)) → Cont E β → List Dir → Nat → St E → Option β
  | k, ZL, .loop a, ps, K, [] => fun m σ => iter C ps.head?.join (fun σ' K' => runC C (H.X k) M a ps.tail σ' K') K m σ
  | k, ZL, .rangeFunc g pa a b, ps, K, [] => fun m σ => iter C ps.head?.join (roundX C.nt pa.toList (fun σ' K' => runC C (H.X k) M a (ps.tail.take (nplans a)) σ' K') (fun σ' K' => runC C (H.X k) M b (ps.tail.drop (nplans a)) σ' K') K) (kPop K) m σ
  | k, ZL, .rangeFunc g pa a b, ps, K, .s :: p => lpAt C H M k (fun p => ZL (.s :: p)) a (ps.tail.take (nplans a)) (kAssign fun σ' => runC C (H.X k) M b (ps.tail.drop (nplans a)) σ' (kBack C.nt 0 true (kLoop C ps.head?.join ((ZL []).getD fun _ => none) (kPop K)))) p
  | k, ZL, .rangeFunc g pa a b, ps, K, .L :: p => lpAt C H M k (fun p => ZL (.L :: p)) b (ps.tail.drop (nplans a)) (kBack C.nt 0 true (kLoop C ps.head?.join ((ZL []).getD fun _ => none) (kPop K))) p
  | k, ZL, .seq a b, ps, K, .l :: p => lpAt C H M k (fun p => ZL (.l :: p)) a (ps.take (nplans a)) (kSeq C (ps.drop (nplans a)).head?.join (fun σ' K' => runC C (H.X k) M b (ps.drop (nplans a + 1)) σ' K') K) p
  | k, ZL, .seq a b, ps, K, .r :: p => lpAt C H M k (fun p => ZL (.r :: p)) b (ps.drop (nplans a + 1)) K p
  | k, ZL, .cond _ a _, ps, K, .a :: p => lpAt C H M k (fun p => ZL (.a :: p)) a (ps.take (nplans a)) K p
  | k, ZL, .cond _ a b, ps, K, .b :: p => lpAt C H M k (fun p => ZL (.b :: p)) b (ps.drop (nplans a)) K p
  | k, ZL, .block id a, ps, K, .k :: p => lpAt C H M k (fun p => ZL (.k :: p)) a ps (kBlock id K) p
  | k, ZL, .loop a, ps, K, .L :: p => lpAt C H M k (fun p => ZL (.L :: p)) a ps.tail (kLoop C ps.head?.join ((ZL []).getD fun _ => none) K) p
  | k + 1, ZL, .region _ ops _, ps, K, .c i f n off mrk :: p => match inlAt H ops i f off with
    | some (o, I) => lpAt C H M k (fun p => ZL (.c i f n off mrk :: p)) I.body I.plans (kCall C I.res n off mrk o.dst fun σ' => runOps C (H.X (k + 1)) ops (rest ops i) σ' (K .normal)) p
    | none => fun _ _ => none
  | _, _, _, _, _, _ => fun _ _ => none

theorem kSeqZ_eq {C : Ctx E} {p : Option (Plan N)} {z f : St E → Option β} {g : St E → Cont E β → Option β} {K : Cont E β} (hz : ∀ σ, z σ = g σ K) (hf : ∀ σ, f σ = g σ K) : kSeqZ C p z f K = kSeq C p g K := by
  funext e σ
  cases e with
  | normal =>
    cases p with
    | none => exact hf σ
    | some p =>
      show cut C (some p) σ z = cut C (some p) σ fun σ' => g σ' K
      rw [funext hz]
  | exit id => rfl
  | ret => rfl

theorem evalOp_ext {C : Ctx E} {X X' : Ext E β} {σ : St E} {o : Oper} {K : St E → Option β} (h : ∀ c args, X.call σ o.dst c args K = X'.call σ o.dst c args K) : evalOp C X σ o K = evalOp C X' σ o K := by
  unfold evalOp
  split <;> first | rfl | skip
  rename_i c d ho hd
  split <;> first | rfl | skip
  · split
    · rfl
    · exact h _ _
  · split
    · exact h _ _
    · rfl

theorem runOpsY_eq {C : Ctx E} {X : Ext E β} {Xi : Nat → Ext E β} {ops : Array Oper} {K : St E → Option β} : ∀ (l : List Nat), (∀ (pre : List Nat) (i : Nat) (r : List Nat), l = pre ++ i :: r → ∀ (σ : St E) (o : Oper), ops[i]? = some o → ∀ c args, (Xi i).call σ o.dst c args (fun σ' => runOps C X ops r σ' K) = X.call σ o.dst c args (fun σ' => runOps C X ops r σ' K)) →
    ∀ σ, runOpsY C Xi ops l σ K = runOps C X ops l σ K
  | [], _, _ => rfl
  | i :: r, h, σ => by
    have ih := runOpsY_eq r fun pre j r' e σ o ho c args => h (i :: pre) j r' (by rw [e]; rfl) σ o ho c args
    have ih' : (fun σ' => runOpsY C Xi ops r σ' K) = fun σ' => runOps C X ops r σ' K := funext ih
    simp only [runOpsY, runOps]
    cases ho : ops[i]? with
    | none => exact ih σ
    | some o =>
      have he : ∀ σ, evalOp C (Xi i) σ o (fun σ' => runOps C X ops r σ' K) = evalOp C X σ o fun σ' => runOps C X ops r σ' K := fun σ => evalOp_ext fun c args => h [] i r rfl σ o ho c args
      simp only [ih', ih, he]
      rfl

theorem range_split {m : Nat} {pre r : List Nat} {i : Nat} (h : List.range m = pre ++ i :: r) : r = (List.range m).drop (i + 1) := by
  have hi : pre.length = i := by
    have h1 : (List.range m)[pre.length]? = some i := by rw [h, List.getElem?_append_right (Nat.le_refl _)]; simp
    have hlt := (List.getElem?_eq_some_iff.1 h1).1
    rw [List.getElem?_range (by simpa using hlt)] at h1
    exact Option.some.inj h1
  rw [h, ← hi, List.drop_append]
  simp

/-- A call in place, within a region, with what truly comes behind. -/
theorem zAt_c {C : Ctx E} {H : Hd E β} {M k : Nat} {ZL : List Dir → Option (St E → Option β)} {r : Nat} {ops : Array Oper} {draw : Bool} {ps : List (Option (Plan N))} {K : Cont E β} {i f n off : Nat} {mrk : Bool} {o : Oper} {I : Inl N} (h : inlAt H ops i f off = some (o, I)) :
    zc (zAt C H M (k + 1) ZL (.region r ops draw) ps K) i f n off mrk = zAt C H M k (fun p => ZL (.c i f n off mrk :: p)) I.body I.plans (kCall C I.res n off mrk o.dst fun σ' => runOps C (H.X (k + 1)) ops (rest ops i) σ' (K .normal)) := by
  funext p
  simp only [zc, zAt, h]

theorem zregion {C : Ctx E} {H : Hd E β} {M : Nat} (hH : H.ok C M) {k : Nat} (ih : ∀ q, k = q + 1 → ∀ (c : Code) (ps : List (Option (Plan N))) (σ : St E) (K : Cont E β) (ZL : List Dir → Option (St E → Option β)), (∀ p, ZL p = none) → runZ C (extZ C H q) (zAt C H M q ZL c ps K) c ps σ K = runC C (H.X q) M c ps σ K)
    {r : Nat} {ops : Array Oper} {draw : Bool} {ps : List (Option (Plan N))} {K : Cont E β} {ZL : List Dir → Option (St E → Option β)} {l : List Nat} {m : Nat} (hl : l = (List.range ops.size).drop m) (hz : ∀ j ∈ l, ∀ f n off mrk p, ZL (.c j f n off mrk :: p) = none) (σ : St E) :
    runOpsY C (fun q => extZ C H k (zc (zAt C H M k ZL (.region r ops draw) ps K) q)) ops l σ (K .normal) = runOps C (H.X k) ops l σ (K .normal) := by
  cases k with
  | zero => exact runOpsY_eq l (fun _ _ _ _ _ _ _ _ _ => rfl) σ
  | succ k =>
    refine runOpsY_eq l (fun pre i t e σ o ho c args => ?_) σ
    have ht : t = rest ops i := range_split (pre := (List.range ops.size).take m ++ pre) (by rw [List.append_assoc, ← e, hl, List.take_append_drop])
    show (match c with
      | .fn (.func f) us vs => match H.rsig f, H.inl σ.off (o.dst.getD 0) f with
        | false, some I => _
        | _, _ => _
      | c => _) = _
    split
    · rename_i f us vs
      split
      · rename_i I h1 h2
        have hI : inlAt H ops i f σ.off = some (o, I) := by simp only [inlAt, ho, h2]
        rw [hH k σ o.dst f us vs args _ I h1 h2, zAt_c hI, ht]
        exact ih k rfl _ _ _ _ _ fun p => hz i (by rw [e]; simp) _ _ _ _ _
      · rfl
    · rfl

theorem zrunC {C : Ctx E} {H : Hd E β} {M : Nat} (hH : H.ok C M) {k : Nat} (ih0 : ∀ q, k = q + 1 → ∀ (c : Code) (ps : List (Option (Plan N))) (σ : St E) (K : Cont E β) (ZL : List Dir → Option (St E → Option β)), (∀ p, ZL p = none) → runZ C (extZ C H q) (zAt C H M q ZL c ps K) c ps σ K = runC C (H.X q) M c ps σ K) :
    ∀ (c : Code) (ps : List (Option (Plan N))) (σ : St E) (K : Cont E β) (ZL : List Dir → Option (St E → Option β)), (∀ p, ZL p = none) → runZ C (extZ C H k) (zAt C H M k ZL c ps K) c ps σ K = runC C (H.X k) M c ps σ K := by
  intro c
  induction c with
  | region r ops draw =>
    intro ps σ K ZL h
    have e := zregion hH ih0 (r := r) (ops := ops) (draw := draw) (ps := ps) (K := K) (ZL := ZL) (l := List.range ops.size) (m := 0) rfl (fun _ _ _ _ _ _ _ => h _) σ
    cases draw with
    | false => exact e
    | true =>
      simp only [runZ, runC]
      cases drawOk C ops && freshD σ ops with
      | true => exact e
      | false => rfl
  | seq a b iha ihb =>
    intro ps σ K ZL h
    simp only [runZ, runC]
    have e : kSeqZ C (ps.drop (nplans a)).head?.join (zAt C H M k ZL (.seq a b) ps K []) (fun σ' => runZ C (extZ C H k) (fun p => zAt C H M k ZL (.seq a b) ps K (.r :: p)) b (ps.drop (nplans a + 1)) σ' K) K =
        kSeq C (ps.drop (nplans a)).head?.join (fun σ' K' => runC C (H.X k) M b (ps.drop (nplans a + 1)) σ' K') K :=
      kSeqZ_eq (fun σ => by simp only [zAt]) fun σ' => by simp only [zAt]; exact ihb _ _ K (fun p => ZL (.r :: p)) fun p => h _
    rw [e]
    simp only [zAt]
    exact iha _ _ _ (fun p => ZL (.l :: p)) fun p => h _
  | cond c a b iha ihb =>
    intro ps σ K ZL h
    have ea : runZ C (extZ C H k) (fun p => zAt C H M k ZL (.cond c a b) ps K (.a :: p)) a (ps.take (nplans a)) σ K = runC C (H.X k) M a (ps.take (nplans a)) σ K := by simp only [zAt]; exact iha _ _ _ (fun p => ZL (.a :: p)) fun p => h _
    have eb : runZ C (extZ C H k) (fun p => zAt C H M k ZL (.cond c a b) ps K (.b :: p)) b (ps.drop (nplans a)) σ K = runC C (H.X k) M b (ps.drop (nplans a)) σ K := by simp only [zAt]; exact ihb _ _ _ (fun p => ZL (.b :: p)) fun p => h _
    simp only [runZ, runC, ea, eb]
    split <;> rename_i h1
    · rw [h1]
    · split
      · rename_i t ht; exact absurd ht (h1 t)
      · rfl
  | block id a ih =>
    intro ps σ K ZL h
    simp only [runZ, runC, zAt]
    exact ih _ _ _ (fun p => ZL (.k :: p)) fun p => h _
  | loop a ih =>
    intro ps σ K ZL h
    simp only [runZ, runC, zAt, h]
  | rangeFunc g pa a b iha ihb =>
    intro ps σ K ZL h
    simp only [runZ, runC, zAt, h]
  | _ => intro ps σ K ZL h; rfl

theorem zrun {C : Ctx E} {H : Hd E β} {M : Nat} (hH : H.ok C M) : ∀ (k : Nat) (c : Code) (ps : List (Option (Plan N))) (σ : St E) (K : Cont E β) (ZL : List Dir → Option (St E → Option β)), (∀ p, ZL p = none) →
    runZ C (extZ C H k) (zAt C H M k ZL c ps K) c ps σ K = runC C (H.X k) M c ps σ K := by
  intro k
  induction k with
  | zero => exact zrunC hH fun q e => by cases e
  | succ k ihk => exact zrunC hH fun q e => by cases e; exact ihk

/-- The second part of a sequence at a place. -/
def joinOf (H : Hd E β) : Code → List Dir → Nat → Bool
  | .seq _ _, [], _ => true
  | .seq a _, .l :: p, k => joinOf H a p k
  | .seq _ b, .r :: p, k => joinOf H b p k
  | .cond _ a _, .a :: p, k => joinOf H a p k
  | .cond _ _ b, .b :: p, k => joinOf H b p k
  | .block _ a, .k :: p, k => joinOf H a p k
  | .loop a, .L :: p, k => joinOf H a p k
  | .rangeFunc _ _ a _, .s :: p, k => joinOf H a p k
  | .rangeFunc _ _ _ b, .L :: p, k => joinOf H b p k
  | .region _ ops _, .c i f _ off _ :: p, k + 1 => match inlAt H ops i f off with
    | some (_, I) => joinOf H I.body p k
    | none => false
  | _, _, _ => false

def loopOf (H : Hd E β) : Code → List Dir → Nat → Bool
  | .loop _, [], _ => true
  | .rangeFunc _ _ _ _, [], _ => true
  | .seq a _, .l :: p, k => loopOf H a p k
  | .seq _ b, .r :: p, k => loopOf H b p k
  | .cond _ a _, .a :: p, k => loopOf H a p k
  | .cond _ _ b, .b :: p, k => loopOf H b p k
  | .block _ a, .k :: p, k => loopOf H a p k
  | .loop a, .L :: p, k => loopOf H a p k
  | .rangeFunc _ _ a _, .s :: p, k => loopOf H a p k
  | .rangeFunc _ _ _ b, .L :: p, k => loopOf H b p k
  | .region _ ops _, .c i f _ off _ :: p, k + 1 => match inlAt H ops i f off with
    | some (_, I) => loopOf H I.body p k
    | none => false
  | _, _, _ => false

/-- The next rounds are known of just the loops around a place. -/
def Around (ZL : List Dir → Option (St E → Option β)) : List Dir → Prop
  | [] => ∀ d p, ZL (d :: p) = none
  | d :: q => (∀ d' p, d' ≠ d → ZL (d' :: p) = none) ∧ ((d = .L ∨ d = .s) → ZL [] ≠ none) ∧ Around (fun p => ZL (d :: p)) q

section
variable {C : Ctx E} {H : Hd E β} {M k : Nat} {a b : Code} {ps : List (Option (Plan N))} {K : Cont E β} {ZL : List Dir → Option (St E → Option β)}

theorem seg_seq (hH : H.ok C M) (h : ∀ p, ZL (.r :: p) = none) :
    kSeqZ C (ps.drop (nplans a)).head?.join (zAt C H M k ZL (.seq a b) ps K []) (fun σ' => runZ C (extZ C H k) (fun p => zAt C H M k ZL (.seq a b) ps K (.r :: p)) b (ps.drop (nplans a + 1)) σ' K) K =
      kSeq C (ps.drop (nplans a)).head?.join (fun σ' K' => runC C (H.X k) M b (ps.drop (nplans a + 1)) σ' K') K :=
  kSeqZ_eq (fun σ => by simp only [zAt]) fun σ' => by simp only [zAt]; exact zrun hH k b _ _ K (fun p => ZL (.r :: p)) h

theorem getD_zAt_loop (h : ZL [] ≠ none) : (ZL []).getD (fun _ => none) = zAt C H M k ZL (.loop a) ps K [] := by
  cases hz : ZL [] with
  | none => exact absurd hz h
  | some z => simp [zAt, hz]

theorem getD_zAt_range {g : Operand} {pa : Array Tmp} (h : ZL [] ≠ none) : (ZL []).getD (fun _ => none) = zAt C H M k ZL (.rangeFunc g pa a b) ps K [] := by
  cases hz : ZL [] with
  | none => exact absurd hz h
  | some z => simp [zAt, hz]

theorem zrestc (hH : H.ok C M) {r : Nat} {ops : Array Oper} {draw : Bool} {i f n off : Nat} {mrk : Bool} {o : Oper} {I : Inl N} (h : ∀ d' p, d' ≠ Dir.c i f n off mrk → ZL (d' :: p) = none) :
    (kCall C I.res n off mrk o.dst fun σ' => runOpsY C (fun q => extZ C H (k + 1) (zc (zAt C H M (k + 1) ZL (.region r ops draw) ps K) q)) ops (rest ops i) σ' (K .normal)) = kCall C I.res n off mrk o.dst fun σ' => runOps C (H.X (k + 1)) ops (rest ops i) σ' (K .normal) := by
  congr 1
  funext σ'
  refine zregion hH (fun q e => by cases e; exact zrun hH k) (m := i + 1) rfl (fun j hj f' n' off' mrk' p => h _ p fun e => ?_) σ'
  cases e
  obtain ⟨t, ht⟩ := List.mem_iff_getElem?.1 hj
  have ht : ((List.range ops.size).drop (_ + 1))[t]? = some _ := ht
  rw [List.getElem?_drop] at ht
  have hlt := (List.getElem?_eq_some_iff.1 ht).1
  rw [List.getElem?_range (by simpa using hlt)] at ht
  have := Option.some.inj ht
  omega
end

/-- **The segment behind a join, with what truly comes behind.** -/
theorem seg_join {C : Ctx E} {H : Hd E β} {M : Nat} (hH : H.ok C M) : ∀ (k : Nat) (q : List Dir) (c : Code) (ps : List (Option (Plan N))) (K : Cont E β) (ZL : List Dir → Option (St E → Option β)) (σ : St E), Around ZL q → joinOf H c q k = true →
    zAt C H M k ZL c ps K q σ = seg C H k (zAt C H M k ZL c ps K) c ps K q σ
  | k, [], .seq a b, ps, K, ZL, σ, h, _ => by
    simp only [seg, zAt]
    exact (zrun hH k b _ σ K (fun p => ZL (.r :: p)) fun p => h _ _).symm
  | k, .l :: q, .seq a b, ps, K, ZL, σ, h, hc => by
    have e := seg_seq (C := C) (H := H) (M := M) (k := k) (a := a) (b := b) (ps := ps) (K := K) (ZL := ZL) hH fun p => h.1 .r p (by decide)
    simp only [joinOf] at hc
    have := seg_join hH k q a (ps.take (nplans a)) (kSeq C (ps.drop (nplans a)).head?.join (fun σ' K' => runC C (H.X k) M b (ps.drop (nplans a + 1)) σ' K') K) (fun p => ZL (.l :: p)) σ h.2.2 hc
    simp only [seg]
    rw [e]
    simp only [zAt]
    exact this
  | k, .r :: q, .seq a b, ps, K, ZL, σ, h, hc => by
    simp only [joinOf] at hc
    simp only [seg, zAt]
    exact seg_join hH k q b _ K (fun p => ZL (.r :: p)) σ h.2.2 hc
  | k, .a :: q, .cond c a b, ps, K, ZL, σ, h, hc => by
    simp only [joinOf] at hc
    simp only [seg, zAt]
    exact seg_join hH k q a _ K (fun p => ZL (.a :: p)) σ h.2.2 hc
  | k, .b :: q, .cond c a b, ps, K, ZL, σ, h, hc => by
    simp only [joinOf] at hc
    simp only [seg, zAt]
    exact seg_join hH k q b _ K (fun p => ZL (.b :: p)) σ h.2.2 hc
  | k, .k :: q, .block id a, ps, K, ZL, σ, h, hc => by
    simp only [joinOf] at hc
    simp only [seg, zAt]
    exact seg_join hH k q a ps (kBlock id K) (fun p => ZL (.k :: p)) σ h.2.2 hc
  | k, .L :: q, .loop a, ps, K, ZL, σ, h, hc => by
    simp only [joinOf] at hc
    have := seg_join hH k q a ps.tail (kLoop C ps.head?.join ((ZL []).getD fun _ => none) K) (fun p => ZL (.L :: p)) σ h.2.2 hc
    simp only [seg]
    rw [← getD_zAt_loop (h.2.1 (.inl rfl))]
    simp only [zAt]
    exact this
  | k, .L :: q, .rangeFunc g pa a b, ps, K, ZL, σ, h, hc => by
    simp only [joinOf] at hc
    have := seg_join hH k q b (ps.tail.drop (nplans a)) (kBack C.nt 0 true (kLoop C ps.head?.join ((ZL []).getD fun _ => none) (kPop K))) (fun p => ZL (.L :: p)) σ h.2.2 hc
    simp only [seg]
    rw [← getD_zAt_range (h.2.1 (.inl rfl))]
    simp only [zAt]
    exact this
  | k, .s :: q, .rangeFunc g pa a b, ps, K, ZL, σ, h, hc => by
    simp only [joinOf] at hc
    have := seg_join hH k q a (ps.tail.take (nplans a)) (kAssign fun σ' => runC C (H.X k) M b (ps.tail.drop (nplans a)) σ' (kBack C.nt 0 true (kLoop C ps.head?.join ((ZL []).getD fun _ => none) (kPop K)))) (fun p => ZL (.s :: p)) σ h.2.2 hc
    simp only [seg]
    rw [← getD_zAt_range (h.2.1 (.inr rfl))]
    simp only [zAt]
    have e : (fun σ' => runZ C (extZ C H k) (fun p => zAt C H M k (fun p => ZL (.L :: p)) b (ps.tail.drop (nplans a)) (kBack C.nt 0 true (kLoop C ps.head?.join ((ZL []).getD fun _ => none) (kPop K))) p) b (ps.tail.drop (nplans a)) σ' (kBack C.nt 0 true (kLoop C ps.head?.join ((ZL []).getD fun _ => none) (kPop K)))) = fun σ' => runC C (H.X k) M b (ps.tail.drop (nplans a)) σ' (kBack C.nt 0 true (kLoop C ps.head?.join ((ZL []).getD fun _ => none) (kPop K))) := by
      funext σ'
      exact zrun hH k b _ σ' _ (fun p => ZL (.L :: p)) fun p => h.1 .L p (by decide)
    rw [e]
    exact this
  | 0, .c _ _ _ _ _ :: q, c, ps, K, ZL, σ, h, hc => by cases c <;> simp [joinOf] at hc
  | k + 1, .c i f n off mrk :: q, .region r ops draw, ps, K, ZL, σ, h, hc => by
    simp only [joinOf] at hc
    cases hI : inlAt H ops i f off with
    | none => rw [hI] at hc; cases hc
    | some x =>
      obtain ⟨o, I⟩ := x
      rw [hI] at hc
      have := seg_join hH k q I.body I.plans (kCall C I.res n off mrk o.dst fun σ' => runOps C (H.X (k + 1)) ops (rest ops i) σ' (K .normal)) (fun p => ZL (.c i f n off mrk :: p)) σ h.2.2 hc
      simp only [seg, hI]
      rw [zrestc hH h.1, zAt_c hI]
      simp only [zAt, hI]
      exact this

/-- **The segment behind a loop's head is one round of it.** -/
theorem seg_loop {C : Ctx E} {H : Hd E β} {M : Nat} (hH : H.ok C M) {m : Nat} : ∀ (k : Nat) (q : List Dir) (c : Code) (ps : List (Option (Plan N))) (K : Cont E β) (ZL : List Dir → Option (St E → Option β)) (σ : St E), Around ZL q → loopOf H c q k = true →
    ZL q = some (lpAt C H M k ZL c ps K q m) → lpAt C H M k ZL c ps K q (m + 1) σ = seg C H k (zAt C H M k ZL c ps K) c ps K q σ
  | k, [], .loop a, ps, K, ZL, σ, h, _, hz => by
    have hne : ZL [] ≠ none := by rw [hz]; simp
    simp only [seg]
    rw [← getD_zAt_loop hne]
    have := zrun (C := C) (H := H) (M := M) hH k a ps.tail σ (kLoop C ps.head?.join ((ZL []).getD fun _ => none) K) (fun p => ZL (.L :: p)) fun p => h _ _
    simp only [zAt]
    refine Eq.trans ?_ this.symm
    simp only [lpAt, iter]
    congr 1
    funext e σ'
    rw [hz]
    cases e with
    | normal => simp only [lpAt]; rfl
    | exit id => rfl
    | ret => rfl
  | k, .l :: q, .seq a b, ps, K, ZL, σ, h, hc, hz => by
    have e := seg_seq (C := C) (H := H) (M := M) (k := k) (a := a) (b := b) (ps := ps) (K := K) (ZL := ZL) hH fun p => h.1 .r p (by decide)
    simp only [loopOf] at hc
    simp only [lpAt] at hz
    have := seg_loop hH k q a (ps.take (nplans a)) (kSeq C (ps.drop (nplans a)).head?.join (fun σ' K' => runC C (H.X k) M b (ps.drop (nplans a + 1)) σ' K') K) (fun p => ZL (.l :: p)) σ h.2.2 hc hz
    simp only [seg]
    rw [e]
    simp only [zAt, lpAt]
    exact this
  | k, .r :: q, .seq a b, ps, K, ZL, σ, h, hc, hz => by
    simp only [loopOf] at hc
    simp only [lpAt] at hz
    simp only [seg, zAt, lpAt]
    exact seg_loop hH k q b _ K (fun p => ZL (.r :: p)) σ h.2.2 hc hz
  | k, .a :: q, .cond c a b, ps, K, ZL, σ, h, hc, hz => by
    simp only [loopOf] at hc
    simp only [lpAt] at hz
    simp only [seg, zAt, lpAt]
    exact seg_loop hH k q a _ K (fun p => ZL (.a :: p)) σ h.2.2 hc hz
  | k, .b :: q, .cond c a b, ps, K, ZL, σ, h, hc, hz => by
    simp only [loopOf] at hc
    simp only [lpAt] at hz
    simp only [seg, zAt, lpAt]
    exact seg_loop hH k q b _ K (fun p => ZL (.b :: p)) σ h.2.2 hc hz
  | k, .k :: q, .block id a, ps, K, ZL, σ, h, hc, hz => by
    simp only [loopOf] at hc
    simp only [lpAt] at hz
    simp only [seg, zAt, lpAt]
    exact seg_loop hH k q a ps (kBlock id K) (fun p => ZL (.k :: p)) σ h.2.2 hc hz
  | k, .L :: q, .loop a, ps, K, ZL, σ, h, hc, hz => by
    simp only [loopOf] at hc
    simp only [lpAt] at hz
    have := seg_loop hH k q a ps.tail (kLoop C ps.head?.join ((ZL []).getD fun _ => none) K) (fun p => ZL (.L :: p)) σ h.2.2 hc hz
    simp only [seg]
    rw [← getD_zAt_loop (h.2.1 (.inl rfl))]
    simp only [zAt, lpAt]
    exact this
  | k, .L :: q, .rangeFunc g pa a b, ps, K, ZL, σ, h, hc, hz => by
    simp only [loopOf] at hc
    simp only [lpAt] at hz
    have := seg_loop hH k q b (ps.tail.drop (nplans a)) (kBack C.nt 0 true (kLoop C ps.head?.join ((ZL []).getD fun _ => none) (kPop K))) (fun p => ZL (.L :: p)) σ h.2.2 hc hz
    simp only [seg]
    rw [← getD_zAt_range (h.2.1 (.inl rfl))]
    simp only [zAt, lpAt]
    exact this
  | k, .s :: q, .rangeFunc g pa a b, ps, K, ZL, σ, h, hc, hz => by
    simp only [loopOf] at hc
    simp only [lpAt] at hz
    have := seg_loop hH k q a (ps.tail.take (nplans a)) (kAssign fun σ' => runC C (H.X k) M b (ps.tail.drop (nplans a)) σ' (kBack C.nt 0 true (kLoop C ps.head?.join ((ZL []).getD fun _ => none) (kPop K)))) (fun p => ZL (.s :: p)) σ h.2.2 hc hz
    simp only [seg]
    rw [← getD_zAt_range (h.2.1 (.inr rfl))]
    simp only [zAt, lpAt]
    have e : (fun σ' => runZ C (extZ C H k) (fun p => zAt C H M k (fun p => ZL (.L :: p)) b (ps.tail.drop (nplans a)) (kBack C.nt 0 true (kLoop C ps.head?.join ((ZL []).getD fun _ => none) (kPop K))) p) b (ps.tail.drop (nplans a)) σ' (kBack C.nt 0 true (kLoop C ps.head?.join ((ZL []).getD fun _ => none) (kPop K)))) = fun σ' => runC C (H.X k) M b (ps.tail.drop (nplans a)) σ' (kBack C.nt 0 true (kLoop C ps.head?.join ((ZL []).getD fun _ => none) (kPop K))) := by
      funext σ'
      exact zrun hH k b _ σ' _ (fun p => ZL (.L :: p)) fun p => h.1 .L p (by decide)
    rw [e]
    exact this
  | 0, .c _ _ _ _ _ :: q, c, ps, K, ZL, σ, h, hc, _ => by cases c <;> simp [loopOf] at hc
  | k + 1, .c i f n off mrk :: q, .region r ops draw, ps, K, ZL, σ, h, hc, hz => by
    simp only [loopOf] at hc
    cases hI : inlAt H ops i f off with
    | none => rw [hI] at hc; cases hc
    | some x =>
      obtain ⟨o, I⟩ := x
      rw [hI] at hc
      simp only [lpAt, hI] at hz
      have := seg_loop hH k q I.body I.plans (kCall C I.res n off mrk o.dst fun σ' => runOps C (H.X (k + 1)) ops (rest ops i) σ' (K .normal)) (fun p => ZL (.c i f n off mrk :: p)) σ h.2.2 hc hz
      simp only [seg, hI]
      rw [zrestc hH h.1, zAt_c hI]
      simp only [zAt, lpAt, hI]
      exact this
  | k, [], .rangeFunc g pa a b, ps, K, ZL, σ, h, _, hz => by
    have hne : ZL [] ≠ none := by rw [hz]; simp
    simp only [seg]
    rw [← getD_zAt_range hne]
    simp only [zAt]
    have e1 : (fun (e : Out) (σ' : St E) => match e with
      | .normal => cut C ps.head?.join σ' fun σ'' => iter C ps.head?.join (roundX C.nt pa.toList (fun σ' K' => runC C (H.X k) M a (ps.tail.take (nplans a)) σ' K') (fun σ' K' => runC C (H.X k) M b (ps.tail.drop (nplans a)) σ' K') K) (kPop K) m σ''
      | .exit id => kPop K (.exit id) σ'
      | .ret => kPop K .ret σ') = kLoop C ps.head?.join ((ZL []).getD fun _ => none) (kPop K) := by
      funext e σ'
      rw [hz]
      cases e <;> first | (simp only [lpAt]; rfl) | rfl
    have e2 : iter C ps.head?.join (roundX C.nt pa.toList (fun σ' K' => runC C (H.X k) M a (ps.tail.take (nplans a)) σ' K') (fun σ' K' => runC C (H.X k) M b (ps.tail.drop (nplans a)) σ' K') K) (kPop K) (m + 1) σ = roundX C.nt pa.toList (fun σ' K' => runC C (H.X k) M a (ps.tail.take (nplans a)) σ' K') (fun σ' K' => runC C (H.X k) M b (ps.tail.drop (nplans a)) σ' K') K σ (kLoop C ps.head?.join ((ZL []).getD fun _ => none) (kPop K)) := by
      rw [← e1]; rfl
    simp only [lpAt]
    refine e2.trans ?_
    unfold roundX
    split
    · rfl
    · split
      · congr 1
        funext x xs
        have eb : ∀ σ', runZ C (extZ C H k) (fun p => zAt C H M k (fun p => ZL (.L :: p)) b (ps.tail.drop (nplans a)) (kBack C.nt 0 true (kLoop C ps.head?.join ((ZL []).getD fun _ => none) (kPop K))) p) b (ps.tail.drop (nplans a)) σ' (kBack C.nt 0 true (kLoop C ps.head?.join ((ZL []).getD fun _ => none) (kPop K))) = runC C (H.X k) M b (ps.tail.drop (nplans a)) σ' (kBack C.nt 0 true (kLoop C ps.head?.join ((ZL []).getD fun _ => none) (kPop K))) :=
          fun σ' => zrun hH k b _ σ' _ (fun p => ZL (.L :: p)) fun p => h .L p
        simp only [eb]
        exact (zrun hH k a _ _ _ (fun p => ZL (.s :: p)) fun p => h .s p).symm
      · rfl

/-- The next rounds of the loops around a place (and of the loop there, if one more is given), by their order. -/
def zlq : List Dir → List (St E → Option β) → List Dir → Option (St E → Option β)
  | [], z :: _, [] => some z
  | [], [], [] => none
  | [], _, _ :: _ => none
  | .L :: _, z :: _, [] => some z
  | .s :: _, z :: _, [] => some z
  | _ :: _, _, [] => none
  | d :: q, Zs, d' :: p => match decide (d' = d) with
    | true => zlq q (match d with | .L => Zs.tail | .s => Zs.tail | _ => Zs) p
    | false => none

def countL : List Dir → Nat
  | [] => 0
  | .L :: q => countL q + 1
  | .s :: q => countL q + 1
  | _ :: q => countL q

theorem around_zlq : ∀ (q : List Dir) (Zs : List (St E → Option β)), Nat.ble (countL q) Zs.length = true → Around (zlq q Zs) q
  | [], Zs, _ => fun d p => by cases Zs <;> rfl
  | d :: q, Zs, h => by
    refine ⟨fun d' p hne => ?_, fun e => ?_, ?_⟩
    · have : decide (d' = d) = false := by simp [hne]
      cases d <;> simp only [zlq, this]
    · rcases e with rfl | rfl <;> (cases Zs with
      | nil => simp [countL] at h
      | cons z Zs => simp [zlq])
    · have e : (fun p => zlq (d :: q) Zs (d :: p)) = zlq q (match d with | .L => Zs.tail | .s => Zs.tail | _ => Zs) := by
        funext p
        cases d <;> simp [zlq]
      rw [e]
      apply around_zlq
      have h := Nat.le_of_ble_eq_true h
      apply Nat.ble_eq_true_of_le
      cases d <;> simp only [countL] at h ⊢ <;> first | exact h | (rw [List.length_tail]; omega)

/-- A handler none of whose functions in place has cuts. -/
def hd0 (X : Ext E β) : Hd E β := ⟨fun _ _ _ => none, fun _ => true, fun _ => X⟩
theorem hd0_ok {C : Ctx E} {M : Nat} (X : Ext E β) : (hd0 X).ok C M := fun _ _ _ _ _ _ _ _ _ h => by cases h

/-- The handler of functions in place, at each depth. -/
def hdOf (C : Ctx E) (inl : Nat → Nat → FuncId → Option (Inl N)) (rsig : FuncId → Option (Sig E)) (yl : Nat → List (Hold E) → (Bool → Option β) → Option β) (X0 : Ext E β) (M : Nat) : Hd E β := ⟨inl, fun f => (rsig f).isSome, extOf C inl rsig yl X0 M⟩
theorem hdOf_ok {C : Ctx E} {inl : Nat → Nat → FuncId → Option (Inl N)} {rsig : FuncId → Option (Sig E)} {yl : Nat → List (Hold E) → (Bool → Option β) → Option β} {X0 : Ext E β} {M : Nat} : (hdOf C inl rsig yl X0 M).ok C M := by
  intro k σ d f us vs args K I h1 h2
  have h1 : (rsig f).isSome = false := h1
  have h2 : inl σ.off (d.getD 0) f = some I := h2
  show (extOf C inl rsig yl X0 M (k + 1)).call σ d (.fn (.func f) us vs) args K = _
  cases h3 : rsig f with
  | some S => rw [h3] at h1; cases h1
  | none => simp only [extOf, h3, h2]; rfl

end
end Go.Ai
/- Closures that hand on, and call themselves: what a call of one comes to. -/
namespace Go.Ai
open Go.RowKit
set_option linter.unusedSectionVars false
set_option linter.unusedVariables false
set_option linter.unusedSimpArgs false

noncomputable section
variable {N : Type} [DecidableEq N] {E : Env N} {P : Program}
variable {base n : Nat} {ov : Ov E} {w0 w w' : World} {F0 : Fx} {F F' : Fz} {σ σ' : St E} {a : Act} {j : Sites} {tk : Toks} {ro : Option Nat} {fv : Nat → Value}

/-! ### From a world on -/
structure Fwd (base : Nat) (w1 : World) (F1 : Fx) (w : World) (F : Fz) : Prop where
  below : Below base w1 w
  size : base ≤ w.heap.size
  Fold : ∀ b o, F1.c b o → F b o
  Fnew : ∀ b o, F b o → F1.c b o ∨ (base ≤ b ∧ ¬ F1.fn b)
  Flt : ∀ b o, F b o → b < w.heap.size
  agr : Agree F1.c w1 w
  frn : ∀ k, F1.fn k → k < w1.heap.size ∧ w.heap[k]? = w1.heap[k]?

theorem Sim.fwd (h : Sim P base w0 F0 ov σ a w j tk F) : Fwd base w0 F0 w F := ⟨h.below, h.size, h.Fold, h.Fnew, h.Flt, h.agr, fun k hk => ⟨(h.frn k hk).1, (h.frn k hk).2.1⟩⟩

theorem Fwd.sim (h : Fwd base w0 F0 w F) (hT : E.tab w F) : Sim (E := E) P base w0 F0 ⟨[], []⟩ (start [] 0 0) { tmps := #[], defers := [] } w noSite noTok F where
  tab := hT
  below := h.below
  size := h.size
  Fold := h.Fold
  Fnew := h.Fnew
  Flt := h.Flt
  agr := h.agr
  frn := fun k hk => ⟨(h.frn k hk).1, (h.frn k hk).2, (fun s e => by cases e), (fun q v e => by cases e), (fun hm => by cases hm)⟩
  outs := trivial
  itq := rfl
  defers := Marks.nil _ _
  mks := fun _ => rfl
  len := rfl
  tmps := fun i x v hx => by simp [start] at hx
  boxes := fun s cs hs => by simp [start] at hs
  iters := fun s str q hs => by simp [start] at hs
  maps := fun s kt vt m hs => by simp [start] at hs
  rows := fun m s e t xs hs => by simp [start] at hs
  live := fun s b hb => by cases hb
  inj := fun s s' b hb => by cases hb
  toks := fun k v hk => by cases hk
  apart := fun k k' v v' g hk => by cases hk

theorem Sim.rebase (h : Sim P base w0 F0 ov σ a w j tk F) {base' : Nat} (hb : base' ≤ base) : Sim P base' w0 F0 ov σ a w j tk F :=
  { h with
    tab := h.tab
    below := ⟨h.below.os, h.below.tape, h.below.output, h.below.size, fun k hk => h.below.block k (Nat.lt_of_lt_of_le hk hb)⟩
    size := Nat.le_trans hb h.size
    Fnew := fun b o hf => by
      rcases h.Fnew b o hf with hf | hf
      · exact .inl hf
      · exact .inr ⟨Nat.le_trans hb hf.1, hf.2⟩
    defers := by
      obtain ⟨Ds, h1, h2, h3⟩ := h.defers
      exact ⟨Ds, h1, h2, fun D hD => ⟨Nat.le_trans hb (h3 D hD).1, (h3 D hD).2⟩⟩
    rows := fun m s e τ xs hs => by
      obtain ⟨h1, v, L, i, e1, e2, e3, e4, e5⟩ := h.rows m s e τ xs hs
      exact ⟨h1, v, L, i, e1, e2, e3, ownsRow_base e4 hb, e5⟩
    live := fun s b hs => ⟨Nat.le_trans hb (h.live s b hs).1, (h.live s b hs).2⟩
    toks := fun k v hk => by
      obtain ⟨i, m, xs, e1, e2, e3⟩ := h.toks k v hk
      exact ⟨i, m, xs, e1, ownsRow_base e2 hb, e3⟩ }

/-! ### What has been taken apart is put together -/
theorem packTV_tvOf : ∀ (t : Ty N) (x : den E.Γ t), t.one = true → packTV t (tvOf (E := E) t x) = some x := by
  intro t x ht
  cases t with
  | st n => cases ht
  | int k => simp [tvOf, packTV]
  | bool => rfl
  | str => rfl
  | sl t => simp [tvOf, packTV]
  | ref n => simp [tvOf, packTV]

theorem leafL_tvs : ∀ (ls : List (TV E)), leafL (ls.map Cell.tv) = some ls
  | [] => rfl
  | l :: ls => by simp only [List.map_cons, leafL, Cell.leaf, leafL_tvs ls]

theorem packTup_view : ∀ (ts : List (Ty N)) (x : Tup E.Γ ts), (∀ t ∈ ts, t.one = true) → packTup (E := E) ts (viewTup ts x) = some x
  | [], _, _ => rfl
  | [t], x, h => packTV_tvOf t x (h t (List.mem_cons_self ..))
  | t :: u :: ts, (x, y), h => by
    show (match packTV t (tvOf t x), packTup (u :: ts) (viewTup (u :: ts) y) with | some a, some b => some (a, b) | _, _ => none) = _
    rw [packTV_tvOf t x (h t (List.mem_cons_self ..)), packTup_view (u :: ts) y fun t ht => h t (List.mem_cons_of_mem _ ht)]

theorem packH_valH (t : Ty N) (x : den E.Γ t) : packH t (valH (E := E) t x) = some x := by
  cases t with
  | st n =>
    show (match (false : Bool), leafL ((leaves (E := E) (.st n) x).map .tv) with | false, some ls => packEl (.st n) ls | _, _ => none) = _
    rw [leafL_tvs]
    show (match packTup (E.fl n) (viewTup (E.fl n) (E.un n x)) with | some x => some (E.pk n x) | none => none) = _
    rw [packTup_view _ _ fun t ht => List.all_eq_true.1 (E.plain n) t ht]
    exact congrArg some (E.eta n x)
  | int k => exact packTV_tvOf (E := E) _ x rfl
  | bool => exact packTV_tvOf (E := E) _ x rfl
  | str => exact packTV_tvOf (E := E) _ x rfl
  | sl t => exact packTV_tvOf (E := E) _ x rfl
  | ref n => exact packTV_tvOf (E := E) _ x rfl

theorem packArgs_argHs : ∀ (ts : List (Ty N)) (x : Tup E.Γ ts), packArgs ts (argHs (E := E) ts x) = some x
  | [], _ => rfl
  | [t], x => packH_valH t x
  | t :: u :: ts, (x, y) => by
    show (match packH t (valH t x), packArgs (u :: ts) (argHs (u :: ts) y) with | some a, some b => some (a, b) | _, _ => none) = _
    rw [packH_valH, packArgs_argHs (u :: ts) y]

/-! ### Handing on, with what is to be returned -/
def emit2 {α : Type} (x : α) (kt kf : Option (List α × Bool)) : Option (List α × Bool) := match kf with
  | some ([], false) => match kt with
    | some (xs, true) => some (x :: xs, true)
    | _ => none
  | _ => none

def emits2 {α : Type} (es : List α) (kt kf : Option (List α × Bool)) : Option (List α × Bool) := match kf with
  | some ([], false) => match kt with
    | some (xs, true) => some (es ++ xs, true)
    | _ => none
  | _ => none

def emits {α : Type} (es : List α) (kt kf : Option (List α)) : Option (List α) := match kf with
  | some [] => match kt with
    | some xs => some (es ++ xs)
    | _ => none
  | _ => none

theorem emit2_some {α : Type} {x : α} {kt kf : Option (List α × Bool)} {r : List α × Bool} (h : emit2 x kt kf = some r) : ∃ rest, kf = some ([], false) ∧ kt = some (rest, true) ∧ r = (x :: rest, true) := by
  unfold emit2 at h
  split at h
  · split at h
    · cases h; exact ⟨_, rfl, rfl, rfl⟩
    · cases h
  · cases h

theorem emits2_some {α : Type} {es : List α} {kt kf : Option (List α × Bool)} {r : List α × Bool} (h : emits2 es kt kf = some r) : ∃ rest, kf = some ([], false) ∧ kt = some (rest, true) ∧ r = (es ++ rest, true) := by
  unfold emits2 at h
  split at h
  · split at h
    · cases h; exact ⟨_, rfl, rfl, rfl⟩
    · cases h
  · cases h

theorem emits_some {α : Type} {es : List α} {kt kf : Option (List α)} {r : List α} (h : emits es kt kf = some r) : ∃ rest, kf = some [] ∧ kt = some rest ∧ r = es ++ rest := by
  unfold emits at h
  split at h
  · split at h
    · cases h; exact ⟨_, rfl, rfl, rfl⟩
    · cases h
  · cases h

/-- What is left behind a yes or a no. -/
def left {α : Type} (rest : List α) (b : Bool) : List α × Bool := match b with
  | true => (rest, true)
  | false => ([], false)

def yl0 (ts : List (Ty N)) : Nat → List (Hold E) → (Bool → Option (List (Tup E.Γ ts) × Bool)) → Option (List (Tup E.Γ ts) × Bool) := fun i args Kb => match i, packArgs ts args with
  | 0, some x => emit2 x (Kb true) (Kb false)
  | _, _ => none

/-- What a yield does to the worlds from which a state is reckoned. -/
def YLaw (P : Program) {ts : List (Ty N)} (l : Nat) (B : Bs (List (Tup E.Γ ts) × Bool)) : Prop := ∀ (base : Nat) (w0 : World) (F0 : Fx) (x : Tup E.Γ ts) (rest : List (Tup E.Γ ts)) (w : World) (F : Fz) (vs : List Value),
  B base w0 F0 (x :: rest, true) → Fwd base w0 F0 w F → E.tab w F → HReps (E := E) w noSite noTok F (argHs ts x) vs →
  YieldAt (fence none) 0 P l vs.toArray w fun e w2 => ∃ b F0', e = .returned (.bool b) ∧ B base w2 F0' (left rest b) ∧ (∀ b o, F b o → F0'.c b o) ∧ Agree F w w2 ∧ (∀ b o, F0'.c b o → F b o ∨ ¬ (base ≤ b ∧ b < w.heap.size ∧ ¬ F0.fn b)) ∧ (∀ b o, F0'.c b o → b < w2.heap.size) ∧ w.heap.size ≤ w2.heap.size ∧
    (∀ k, base ≤ k → k < w.heap.size → ¬ F0.fn k → w2.heap[k]? = w.heap[k]? ∧ ¬ F0'.fn k) ∧ (∀ k, F0'.fn k → k < w2.heap.size)

theorem YLaw.yok {ts : List (Ty N)} {l : Nat} {B : Bs (List (Tup E.Γ ts) × Bool)} (h : YLaw (E := E) P l B) (hl : fv 0 = .func (.yield l) #[] #[]) : YOk (E := E.withFv fv) P (yl0 (E := E.withFv fv) ts) B := by
  rintro ov σ a w i args vs Kb base w0 F0 r j tk F hB hs hv he
  unfold yl0 at he
  split at he
  · rename_i x hx
    have hargs := packArgs_sound ts args x vs hx hv
    obtain ⟨rest, hkf, hkt, rfl⟩ := emit2_some he
    have hy := h base w0 F0 x rest w F vs hB hs.fwd hs.tab (HReps.castA (E := E.withFv fv) (fv := E.fv) ts x vs hargs)
    refine ⟨l, hl, hy.mono ?_⟩
    rintro e w2 ⟨b, F0', e1, e2, e3⟩
    refine ⟨b, F0', left rest b, e1, e2, ?_, e3⟩
    cases b with
    | true => exact hkt
    | false => exact hkf
  · cases he

theorem YOk.law {ts : List (Ty N)} {l : Nat} {B : Bs (List (Tup E.Γ ts) × Bool)} (h : YOk (E := E.withFv fv) P (yl0 (E := E.withFv fv) ts) B) (hl : fv 0 = .func (.yield l) #[] #[]) : YLaw (E := E) P l B := by
  intro base w0 F0 x rest w F vs hB hf hT hv
  have hs := hf.sim (E := E.withFv fv) (P := P) hT
  obtain ⟨l', h1, h2⟩ := h ⟨[], []⟩ _ _ w 0 (argHs (E := E.withFv fv) ts x) vs (fun b => some (left rest b)) base w0 F0 (x :: rest, true) noSite noTok F hB hs (HReps.castA ts x vs hv) (by
    unfold yl0
    rw [packArgs_argHs (E := E.withFv fv)]
    rfl)
  rw [show (E.withFv fv).fv 0 = fv 0 from rfl, hl] at h1
  cases h1
  refine h2.mono ?_
  rintro e w2 ⟨b, F0', r', e1, e2, e3, e4⟩
  cases e3
  exact ⟨b, F0', e1, e2, e4⟩

/-- The worlds of an iterator that is itself reckoned without an answer. -/
def lift {α : Type} (B : Bs (List α)) : Bs (List α × Bool) := fun base w0 F0 r => (r.2 = true ∨ r.1 = []) ∧ B base w0 F0 r.1

theorem YOk.law1 {ts : List (Ty N)} {l : Nat} {B : Bs (List (Tup E.Γ ts))} (h : YOk (E := E.withFv fv) P (ylOf (E := E.withFv fv) ts) B) (hl : fv 0 = .func (.yield l) #[] #[]) : YLaw (E := E) P l (lift B) := by
  intro base w0 F0 x rest w F vs hB hf hT hv
  have hs := hf.sim (E := E.withFv fv) (P := P) hT
  obtain ⟨l', h1, h2⟩ := h ⟨[], []⟩ _ _ w 0 (argHs (E := E.withFv fv) ts x) vs (fun b => some (left rest b).1) base w0 F0 (x :: rest) noSite noTok F hB.2 hs (HReps.castA ts x vs hv) (by
    unfold ylOf
    rw [packArgs_argHs (E := E.withFv fv)]
    rfl)
  rw [show (E.withFv fv).fv 0 = fv 0 from rfl, hl] at h1
  cases h1
  refine h2.mono ?_
  rintro e w2 ⟨b, F0', r', e1, e2, e3, e4⟩
  cases e3
  refine ⟨b, F0', e1, ⟨?_, e2⟩, e4⟩
  cases b with
  | true => exact .inl rfl
  | false => exact .inr rfl

/-! ### What a closure that calls itself has captured -/
inductive CapK where
  | val (n : Nat)
  | self
  | yld

/-- Its captured variables: cells of F that read ats these values; the variable that holds the closure (with lb captured) itself; the one that holds the yield. -/
def CapsK (w : World) (F : Fz) (f : FuncId) (l : Nat) (lb : List Value) : List CapK → List (TV E) → List Value → Prop
  | [], [], [] => True
  | .val n :: ks, ls, v :: vs => n ≤ ls.length ∧ (∃ b o us, v = .pointer (some ⟨b, o, none⟩) ∧ (∀ (i : Nat) (u : Value), us[i]? = some u → F b (o + i) ∧ w.cell? ⟨b, o + i, none⟩ = some u) ∧ TReps w F (ls.take n) us) ∧ CapsK w F f l lb ks (ls.drop n) vs
  | .self :: ks, ls, v :: vs => (∃ b o, v = .pointer (some ⟨b, o, none⟩) ∧ F b o ∧ w.cell? ⟨b, o, none⟩ = some (.func (.func f) #[] lb.toArray)) ∧ CapsK w F f l lb ks ls vs
  | .yld :: ks, ls, v :: vs => (∃ b o, v = .pointer (some ⟨b, o, none⟩) ∧ F b o ∧ w.cell? ⟨b, o, none⟩ = some (.func (.yield l) #[] #[])) ∧ CapsK w F f l lb ks ls vs
  | _, _, _ => False

theorem CapsK.mono {f : FuncId} {l : Nat} {lb : List Value} (hF : ∀ b o, F b o → F' b o) (hw : Agree F w w') : ∀ {ks : List CapK} {ls : List (TV E)} {vs : List Value}, CapsK w F f l lb ks ls vs → CapsK w' F' f l lb ks ls vs
  | [], [], [], _ => trivial
  | .val n :: ks, ls, v :: vs, ⟨h1, ⟨b, o, us, h2, h3, h4⟩, h5⟩ => ⟨h1, ⟨b, o, us, h2, fun i u hu => ⟨hF _ _ (h3 i u hu).1, hw _ _ _ (h3 i u hu).1 (h3 i u hu).2⟩, h4.mono hF hw⟩, h5.mono hF hw⟩
  | .self :: ks, ls, v :: vs, ⟨⟨b, o, h1, h2, h3⟩, h4⟩ => ⟨⟨b, o, h1, hF _ _ h2, hw _ _ _ h2 h3⟩, h4.mono hF hw⟩
  | .yld :: ks, ls, v :: vs, ⟨⟨b, o, h1, h2, h3⟩, h4⟩ => ⟨⟨b, o, h1, hF _ _ h2, hw _ _ _ h2 h3⟩, h4.mono hF hw⟩
  | [], [], _ :: _, h => h.elim
  | [], _ :: _, vs, h => by cases vs <;> exact h.elim
  | .val _ :: _, _, [], h => h.elim
  | .self :: _, _, [], h => h.elim
  | .yld :: _, _, [], h => h.elim

def capHK : List CapK → List (TV E) → List (Hold E)
  | [], _ => []
  | .val n :: ks, ls => .one (.fptr (ls.take n)) :: capHK ks (ls.drop n)
  | .self :: ks, ls => .one (.fptr [.spec 1]) :: capHK ks ls
  | .yld :: ks, ls => .one (.fptr [.spec 0]) :: capHK ks ls

theorem capHK_rep {f : FuncId} {l : Nat} {lb : List Value} (h0 : fv 0 = .func (.yield l) #[] #[]) (h1 : fv 1 = .func (.func f) #[] lb.toArray) : ∀ {ks : List CapK} {ls : List (TV E)} {vs : List Value}, (∀ x ∈ ls, x.isSpec = false) → CapsK w F f l lb ks ls vs → HReps (E := E.withFv fv) w j tk F (capHK ks (ls.map (TV.cast fv))) vs
  | [], [], [], _, _ => trivial
  | .val n :: ks, ls, v :: vs, hs, ⟨e1, ⟨b, o, us, e2, e3, e4⟩, e5⟩ => by
    refine ⟨⟨b, o, us, e2, e3, ?_⟩, ?_⟩
    · rw [← List.map_take]; exact e4.cast fun x hx => hs x (List.mem_of_mem_take hx)
    · rw [← List.map_drop]; exact capHK_rep h0 h1 (fun x hx => hs x (List.mem_of_mem_drop hx)) e5
  | .self :: ks, ls, v :: vs, hs, ⟨⟨b, o, e1, e2, e3⟩, e4⟩ => by
    refine ⟨⟨b, o, [.func (.func f) #[] lb.toArray], e1, fun i u hu => ?_, ⟨?_, trivial⟩⟩, capHK_rep h0 h1 hs e4⟩
    · cases i with
      | zero => simp at hu; subst hu; exact ⟨e2, e3⟩
      | succ i => simp at hu
    · have : Rep (E := E.withFv fv) w F (.spec 1) (fv 1) := .spec 1 (by show (fv 1).oneCell' = true; rw [h1]; rfl)
      rw [h1] at this
      exact this
  | .yld :: ks, ls, v :: vs, hs, ⟨⟨b, o, e1, e2, e3⟩, e4⟩ => by
    refine ⟨⟨b, o, [.func (.yield l) #[] #[]], e1, fun i u hu => ?_, ⟨?_, trivial⟩⟩, capHK_rep h0 h1 hs e4⟩
    · cases i with
      | zero => simp at hu; subst hu; exact ⟨e2, e3⟩
      | succ i => simp at hu
    · have : Rep (E := E.withFv fv) w F (.spec 0) (fv 0) := .spec 0 (by show (fv 0).oneCell' = true; rw [h0]; rfl)
      rw [h0] at this
      exact this
  | [], [], _ :: _, _, h => h.elim
  | [], _ :: _, vs, _, h => by cases vs <;> exact h.elim
  | .val _ :: _, _, [], _, h => h.elim
  | .self :: _, _, [], _, h => h.elim
  | .yld :: _, _, [], _, h => h.elim

/-- **The contract of a closure that hands on**: V says what a call hands on; y0 it has captured itself, y what its self has captured. -/
def EmX (P : Program) (f : FuncId) (ks : List CapK) (cts ats ts : List (Ty N)) (V : Tup E.Γ cts → Tup E.Γ cts → Tup E.Γ ats → Option (List (Tup E.Γ ts))) : Prop :=
  callable P f = true ∧ ∀ (l : Nat) (y0 y : Tup E.Γ cts) (x : Tup E.Γ ats) (es rest : List (Tup E.Γ ts)) (B : Bs (List (Tup E.Γ ts) × Bool)) (base : Nat) (w : World) (fn : Nat → Prop) (F : Fz) (vs lb0 lb : List Value),
    V y0 y x = some es → YLaw (E := E) P l B → B base w ⟨F, fn⟩ (es ++ rest, true) → (∀ k, fn k → k < w.heap.size) → base ≤ w.heap.size → (∀ b o, F b o → b < w.heap.size) → E.tab w F →
    CapsK (E := E) w F f l lb ks (viewTup cts y0) lb0 → CapsK (E := E) w F f l lb ks (viewTup cts y) lb → HReps (E := E) w noSite noTok F (argHs ats x) vs →
    CallsIn Fence.wide 0 P f (vs ++ lb0).toArray w fun e w' => ∃ b w1 F1 F', e = .returned (.bool b) ∧ B base w1 F1 (left rest b) ∧ Fwd base w1 F1 w' F' ∧ (∀ b o, F b o → F' b o) ∧ Agree F w w' ∧ w.heap.size ≤ w'.heap.size

def kBool {α : Type} (C : Ctx E) (res : List ResultVar) : Cont E (List α × Bool) := fun e σ => match e with
  | .exit _ => none
  | .normal => match resH C σ res with
    | some [.one (.tv (.bool b))] => some ([], b)
    | _ => none
  | .ret => match resH C σ res with
    | some [.one (.tv (.bool b))] => some ([], b)
    | _ => none

/-- The worlds within a call: what is still to be handed on, and the rest behind it. -/
def Inn {ts : List (Ty N)} (B : Bs (List (Tup E.Γ ts) × Bool)) (b0 : Nat) (rest : List (Tup E.Γ ts)) (W : World) (FW : Fz) : Bs (List (Tup E.Γ ts) × Bool) := fun base w0 F0 r => base = b0 ∧ (∀ b o, FW b o → F0.c b o) ∧ Agree FW W w0 ∧ W.heap.size ≤ w0.heap.size ∧
  ((r.2 = true ∧ B base w0 F0 (r.1 ++ rest, true)) ∨ (r = ([], false) ∧ B base w0 F0 ([], false)))

theorem YLaw.inn {ts : List (Ty N)} {l b0 : Nat} {B : Bs (List (Tup E.Γ ts) × Bool)} (h : YLaw (E := E) P l B) (rest : List (Tup E.Γ ts)) (W : World) (FW : Fz) : YLaw (E := E) P l (Inn B b0 rest W FW) := by
  rintro base w0 F0 x xs w F vs ⟨rfl, h1, h2, h3, h4⟩ hf hT hv
  rcases h4 with ⟨_, h4⟩ | ⟨h4, _⟩
  · refine (h base w0 F0 x (xs ++ rest) w F vs h4 hf hT hv).mono ?_
    rintro e w2 ⟨b, F0', e1, e2, e3, e4, e5, e6, e7, e8⟩
    refine ⟨b, F0', e1, ⟨rfl, fun b o hb => e3 b o (hf.Fold b o (h1 b o hb)), (h2.trans (hf.agr.mono h1)).trans (e4.mono fun b o hb => hf.Fold b o (h1 b o hb)), Nat.le_trans h3 (Nat.le_trans hf.below.size e7), ?_⟩, e3, e4, e5, e6, e7, e8⟩
    cases b with
    | true => exact .inl ⟨rfl, e2⟩
    | false => exact .inr ⟨rfl, e2⟩
  · cases h4

/-- **Out of a run.** -/
theorem emX_of_run {C : ∀ fv, Ctx (E.withFv fv)} {cts ats ts : List (Ty N)} (hC : ∀ fv, COk P (C fv)) (hS : ∀ fv, SigOk P (C fv)) (hIt : ∀ fv, ItOk P (C fv)) (hm : P.follows .mixedOrders = true)
    {M q : Nat} {f : FuncId} {fn : Func} {body : Code} {plans : List (Option (Plan N))} {ks : List CapK} (hcall : callable P f = true) (hf : P.funcs[f]? = some fn) (hb : fn.body = some body)
    {V : Tup E.Γ cts → Tup E.Γ cts → Tup E.Γ ats → Option (List (Tup E.Γ ts))} {Xy : Tup E.Γ cts → ∀ fv, Ext (E.withFv fv) (List (Tup E.Γ ts) × Bool)}
    (hrun : ∀ y0 y x es, V y0 y x = some es → ∀ fv, runC (C fv) (Xy y fv) M body plans (start (argHs (E := E.withFv fv) ats x ++ capHK ks (viewTup (E := E.withFv fv) cts y0)) fn.ntmps q) (kBool (C fv) fn.results.toList) = some (es, true))
    (hX : ∀ (fv : Nat → Value) (l : Nat) (lb : List Value) (y : Tup E.Γ cts) (W : World) (FW : Fz), fv 0 = .func (.yield l) #[] #[] → fv 1 = .func (.func f) #[] lb.toArray → CapsK (E := E) W FW f l lb ks (viewTup cts y) lb →
      ∀ B, YOk (E := E.withFv fv) P (yl0 (E := E.withFv fv) ts) B → (∀ base w0 F0 r, B base w0 F0 r → (∀ b o, FW b o → F0.c b o) ∧ Agree FW W w0) → CallOk P B (Xy y fv)) :
    EmX (E := E) P f ks cts ats ts V := by
  refine ⟨hcall, fun l y0 y x es rest B base w fn' F vs lb0 lb hV hL hB hfn hbase hF hT hc0 hc hvs => ?_⟩
  generalize hfv : (fun i : Nat => match i with | 0 => Value.func (.yield l) #[] #[] | _ => Value.func (.func f) #[] lb.toArray) = fv
  have h0 : fv 0 = .func (.yield l) #[] #[] := by rw [← hfv]; rfl
  have h1 : fv 1 = .func (.func f) #[] lb.toArray := by rw [← hfv]; rfl
  have hargs : HReps (E := E.withFv fv) w noSite noTok F (argHs (E := E.withFv fv) ats x ++ capHK ks (viewTup (E := E.withFv fv) cts y0)) (vs ++ lb0) := by
    refine (HReps.castA (E := E) (fv := fv) ats x vs hvs).append ?_
    rw [viewTup_cast (E := E)]
    exact capHK_rep h0 h1 (viewTup_spec (E := E) cts y0) hc0
  have hsim := ((start_sim (E := E.withFv fv) (P := P) (m := fn.ntmps) (q := q) hF hT hargs).rebase hbase).restart fn' (fun k hk => ⟨hfn k hk, fun s e => (by cases e), fun t v e => (by cases e), fun hm => (by cases hm)⟩)
  have hL' := hL.inn (b0 := base) rest w F
  have hgd : Gd P (Inn B base rest w F) ⟨[], []⟩ (start (argHs (E := E.withFv fv) ats x ++ capHK ks (viewTup (E := E.withFv fv) cts y0)) fn.ntmps q) { tmps := (vs ++ lb0).toArray ++ Array.replicate (fn.ntmps - (vs ++ lb0).toArray.size) undef, defers := [] } w _ :=
    ⟨base, w, ⟨F, fn'⟩, (es, true), ⟨rfl, fun _ _ h => h, Agree.refl _ _, Nat.le_refl _, .inl ⟨rfl, hB⟩⟩, ⟨_, _, _, hsim⟩, hrun y0 y x es hV fv⟩
  let G : Bs (List (Tup E.Γ ts) × Bool) → Prop := fun B => YOk (E := E.withFv fv) P (yl0 (E := E.withFv fv) ts) B ∧ ∀ base w0 F0 r, B base w0 F0 r → (∀ b o, F b o → F0.c b o) ∧ Agree F w w0
  have hG : G (Inn B base rest w F) := ⟨hL'.yok h0, fun _ _ _ _ h => ⟨h.2.1, h.2.2.1⟩⟩
  have hwp := runC_sound (X := Xy y fv) (hC fv) (hS fv) (hIt fv) hm (G := G) (fun B l x X O1 W1 F1 h => ⟨h.1.rnd l x X O1 W1 F1, by
    rintro base w0' F0' r ⟨w0, F0, hB, hcv, _⟩
    obtain ⟨g1, g2⟩ := h.2 _ _ _ _ hB
    exact ⟨fun b o hf => hcv.Fold b o (g1 b o hf), g2.trans (hcv.agr.mono g1)⟩⟩) (fun B h => hX fv l lb y w F h0 h1 hc B h.1 h.2) M body plans _ none 0 hG trivial _ _ _ _ w hgd
  rw [fence_none] at hwp
  refine callsIn_of_wp_marks (F := Fence.wide) (n := 0) hf hb trivial ?_
  refine wpIn_mono hwp ?_
  have fin : ∀ (e : Out) (σ2 : St (E.withFv fv)) (a2 : Act) (w2 : World), Gd P (Inn B base rest w F) ⟨[], []⟩ σ2 a2 w2 (kBool (C fv) fn.results.toList e σ2) → (e = .normal ∨ e = .ret) →
      LeavesInM Fence.wide 0 P fn a2.tmps (fun e w' => ∃ b w1 F1 F', e = .returned (.bool b) ∧ B base w1 F1 (left rest b) ∧ Fwd base w1 F1 w' F' ∧ (∀ b o, F b o → F' b o) ∧ Agree F w w' ∧ w.heap.size ≤ w'.heap.size) a2.defers .returning w2 := by
    rintro e σ2 a2 w2 ⟨base1, w1, G1, r1, ⟨rfl, g1, g2, g3, g4⟩, ⟨j1, tk1, F3, hs3⟩, he⟩ hee
    refine leaves_marks a2.defers a2 w2 rfl hs3 fun w4 hs4 => ?_
    obtain ⟨b, hrs, rfl⟩ : ∃ b, resH (C fv) σ2 fn.results.toList = some [.one (.tv (.bool b))] ∧ r1 = ([], b) := by
      rcases hee with rfl | rfl
      all_goals
        simp only [kBool] at he
        split at he
        · rename_i b hb
          cases he
          exact ⟨b, hb, rfl⟩
        · cases he
    obtain ⟨vs3, k1, k2⟩ := resH_sound (hC fv) hs4 _ _ hrs
    obtain ⟨v3, hv3⟩ : ∃ v, vs3 = [v] := by
      match vs3, k2 with
      | [v], _ => exact ⟨v, rfl⟩
      | [], k2 => exact k2.elim
      | _ :: _ :: _, k2 => exact k2.2.elim
    subst hv3
    have hv3 : v3 = .bool b := by
      have : Rep (E := E.withFv fv) w4 F3 (.bool b) v3 := k2.1
      cases this; rfl
    subst hv3
    refine ⟨.bool b, ?_, b, w1, G1, F3, rfl, ?_, hs4.fwd, fun b o hf => hs4.Fold b o (g1 b o hf), g2.trans (hs4.agr.mono g1), Nat.le_trans g3 hs4.below.size⟩
    · unfold results
      rw [Array.mapM_eq_mapM_toList]
      simp only [Sem.run_bind, Sem.run_map]
      erw [k1]
      rfl
    · rcases g4 with ⟨e1, g4⟩ | ⟨e1, g4⟩
      · have e1 : b = true := e1
        subst e1
        exact g4
      · cases e1
        exact g4
  intro e a2 w2 hp
  cases e with
  | normal => obtain ⟨σ2, h2⟩ := hp; exact fin .normal σ2 a2 w2 h2 (.inl rfl)
  | ret => obtain ⟨σ2, h2⟩ := hp; exact fin .ret σ2 a2 w2 h2 (.inr rfl)
  | exit id => obtain ⟨σ2, _, _, _, _, _, _, e⟩ := hp; cases e
  | _ => exact hp.elim

/-! ### A call -/
/-- The state's own blocks. -/
def Mine (base : Nat) (w : World) (F0 : Fx) (k : Nat) : Prop := base ≤ k ∧ k < w.heap.size ∧ ¬ F0.fn k

/-- **A call of a closure that hands on.** -/
theorem emX_step {E' : Env N} {σ : St E'} {ov : Ov E'} {β : Type} {B : Bs β} {r' : Bool → β} {f : FuncId} {ks : List CapK} {cts ats ts : List (Ty N)} {V : Tup E.Γ cts → Tup E.Γ cts → Tup E.Γ ats → Option (List (Tup E.Γ ts))} (hE : EmX (E := E) P f ks cts ats ts V) (hEt : ∀ (w : World) (F : Fz), E'.tab w F → E.tab w F)
    {B2 : Bs (List (Tup E.Γ ts) × Bool)} {l : Nat} {y0 y : Tup E.Γ cts} {x : Tup E.Γ ats} {es rest : List (Tup E.Γ ts)} {vs lb0 lb : List Value} {o : Oper} {next : Act → World → Prop} {Q : Exit → Act → World → Prop}
    (hd : ∀ c, o.op ≠ .defer c) (hx : (execOp a.eval o).run P w = .ok (.enter f (vs ++ lb0).toArray) w) (hs : Sim (E := E') P base w0 F0 ov σ a w j tk F)
    (hV : V y0 y x = some es) (hL : YLaw (E := E) P l B2) (hin : B2 base w ⟨F, fun k => F0.fn k ∨ Mine base w F0 k⟩ (es ++ rest, true))
    (hout : ∀ w1 F1 b, B2 base w1 F1 (left rest b) → ∃ w3 F3, B base w3 F3 (r' b) ∧ Conv base w3 F3 w1 F1 ∧ (∀ k, Mine base w F0 k → F1.fn k ∧ ¬ F3.fn k ∧ w1.heap[k]? = w.heap[k]?) ∧ ∀ k o, Mine base w F0 k → F1.c k o → F k o)
    (hc0 : CapsK (E := E) w F f l lb ks (viewTup cts y0) lb0) (hc : CapsK (E := E) w F f l lb ks (viewTup cts y) lb) (hvs : HReps (E := E) w noSite noTok F (argHs ats x) vs)
    (hk : ∀ b w3 F3 w' F', B base w3 F3 (r' b) → Sim (E := E') P base w3 F3 ov (σ.put o.dst (.one (.tv (.bool b)))) (a.put o.dst (.bool b)) w' j tk F' → next (a.put o.dst (.bool b)) w') : o.wpIn (fence ro) n P a w next Q := by
  have hcall := hE.2 l y0 y x es rest B2 base w _ F vs lb0 lb hV hL hin (fun k hk => by
    rcases hk with hk | hk
    · exact Nat.lt_of_lt_of_le (hs.frn k hk).1 hs.below.size
    · exact hk.2.1) hs.size hs.Flt (hEt _ _ hs.tab) hc0 hc hvs
  refine step_enter hd hx (R := _) (callsIn_wide.1 hcall) ?_
  rintro e w' ⟨b, w1, F1, F', rfl, hB1, hf, hFF, hA, hsz⟩
  refine ⟨_, rfl, ?_⟩
  obtain ⟨w3, F3, hB3, hcv, c1, c2⟩ := hout w1 F1 b hB1
  have mine : ∀ k, Mine base w F0 k → w'.heap[k]? = w.heap[k]? ∧ ∀ o, F' k o → F k o := by
    intro k hm
    obtain ⟨e1, e2, e3⟩ := c1 k hm
    refine ⟨by rw [(hf.frn k e1).2]; exact e3, fun o hfo => ?_⟩
    rcases hf.Fnew k o hfo with hfo | hfo
    · exact c2 k o hm hfo
    · exact absurd e1 hfo.2
  have hsim : Sim (E := E') P base w3 F3 ov σ a w' j tk F' := by
    refine hs.turn hFF hA hf.Flt hsz (hcv.below.trans hf.below) (fun b o h => hf.Fold b o (hcv.Fold b o h)) (fun b o h => ?_) (hcv.agr.trans (hf.agr.mono hcv.Fold)) (fun k hk => ?_) (fun s b hj => ?_) (fun q v g hq hg => ?_) (fun D hD => ?_)
    · rcases hf.Fnew b o h with h | h
      · exact hcv.Fnew b o h
      · exact .inr ⟨h.1, fun hn => h.2 (hcv.frn b hn).1⟩
    · obtain ⟨g1, g2, g3⟩ := hcv.frn k hk
      refine ⟨g2, by rw [(hf.frn k g1).2]; exact g3, fun s hj => ?_, fun q v hq hg => ?_, fun hm => ?_⟩
      · exact (c1 k ⟨(hs.live s k hj).1, (hs.live s k hj).2.2.2, fun hn => (hs.frn k hn).2.2.1 s hj⟩).2.1 hk
      · obtain ⟨m1, m2⟩ := hs.tok_at hq hg
        exact (c1 k ⟨m1, m2, fun hn => (hs.frn k hn).2.2.2.1 q v hq hg⟩).2.1 hk
      · obtain ⟨m1, m2⟩ := hs.mark_at hm
        exact (c1 k ⟨m1, (Array.getElem?_eq_some_iff.1 m2).1, fun hn => (hs.frn k hn).2.2.2.2 hm⟩).2.1 hk
    · exact mine b ⟨(hs.live s b hj).1, (hs.live s b hj).2.2.2, fun hn => (hs.frn b hn).2.2.1 s hj⟩
    · obtain ⟨m1, m2⟩ := hs.tok_at hq hg
      exact mine g ⟨m1, m2, fun hn => (hs.frn g hn).2.2.2.1 q v hq hg⟩
    · obtain ⟨m1, m2⟩ := hs.mark_at hD
      exact (mine D ⟨m1, (Array.getElem?_eq_some_iff.1 m2).1, fun hn => (hs.frn D hn).2.2.2.2 hD⟩).1
  exact hk b w3 F3 w' F' hB3 (hsim.put (hd := .one (.tv (.bool b))) (Rep.bool _) o.dst)

theorem Kp.out {β : Type} {B : Bs β} {w1 : World} {F1 : Fx} {r : β} (h : Kp B (Mine base w F0) w F base w1 F1 r) : ∃ w3 F3, B base w3 F3 r ∧ Conv base w3 F3 w1 F1 ∧ (∀ k, Mine base w F0 k → F1.fn k ∧ ¬ F3.fn k ∧ w1.heap[k]? = w.heap[k]?) ∧ ∀ k o, Mine base w F0 k → F1.c k o → F k o := by
  obtain ⟨w3, F3, h1, h2, _, h4, _, h6⟩ := h
  exact ⟨w3, F3, h1, h2, fun k hk => ⟨(h4 k hk).1, (h4 k hk).2.1, (h4 k hk).2.2.2⟩, h6⟩

theorem Kp.inn {β : Type} {B : Bs β} {r : β} (hB : B base w0 F0 r) (hs : Sim P base w0 F0 ov σ a w j tk F) : Kp B (Mine base w F0) w F base w ⟨F, fun k => F0.fn k ∨ Mine base w F0 k⟩ r :=
  ⟨w0, F0, hB, hs.toConv _ (fun _ h => .inl h), hs.Flt, fun k hk => ⟨.inr hk, hk.2.2, hk.1, rfl⟩, fun _ h => h, fun _ _ _ h => h⟩

/-- Yields, and calls of itself. -/
def yl01 (ats ts : List (Ty N)) (V : Tup E.Γ ats → Option (List (Tup E.Γ ts))) : Nat → List (Hold E) → (Bool → Option (List (Tup E.Γ ts) × Bool)) → Option (List (Tup E.Γ ts) × Bool)
  | 0, args, Kb => match packArgs ts args with
    | some x => emit2 x (Kb true) (Kb false)
    | none => none
  | 1, args, Kb => match packArgs ats args with
    | some x => (V x).bind fun es => emits2 es (Kb true) (Kb false)
    | none => none
  | _, _, _ => none

theorem spOk_yl01 {f : FuncId} {ks : List CapK} {cts ats ts : List (Ty N)} {V : Tup E.Γ cts → Tup E.Γ cts → Tup E.Γ ats → Option (List (Tup E.Γ ts))} (hE : EmX (E := E) P f ks cts ats ts V) {l : Nat} {lb : List Value} {y : Tup E.Γ cts} {W : World} {FW : Fz}
    (h0 : fv 0 = .func (.yield l) #[] #[]) (h1 : fv 1 = .func (.func f) #[] lb.toArray) (hc : CapsK (E := E) W FW f l lb ks (viewTup cts y) lb) {B : Bs (List (Tup E.Γ ts) × Bool)} (hY : YOk (E := E.withFv fv) P (yl0 (E := E.withFv fv) ts) B)
    (hW : ∀ base w0 F0 r, B base w0 F0 r → (∀ b o, FW b o → F0.c b o) ∧ Agree FW W w0) : SpOk (E := E.withFv fv) P (yl01 (E := E.withFv fv) ats ts (V y y)) B := by
  intro ov σ a w o c fvo i K next Q ro n base w0 F0 r j tk F ho hcl hev hB hs he hk
  match i with
  | 0 =>
    refine hY.sp ov σ a w o c fvo 0 K next Q ro n base w0 F0 r j tk F ho hcl hev hB hs ?_ hk
    rw [yl01] at he
    unfold yl0
    cases hx : packArgs (E := E.withFv fv) ts (evL σ c.args.toList) with
    | none => rw [hx] at he; cases he
    | some x => rw [hx] at he; exact he
  | 1 =>
    rw [yl01] at he
    cases hx : packArgs (E := E.withFv fv) ats (evL σ c.args.toList) with
    | none => rw [hx] at he; cases he
    | some x =>
      rw [hx] at he
      dsimp only at he
      cases hV : V y y x with
      | none => rw [hV] at he; cases he
      | some es =>
        rw [hV] at he
        obtain ⟨rest, hkf, hkt, rfl⟩ := emits2_some he
        have hargs := packArgs_sound ats _ x _ hx (evL_reps hs c.args.toList)
        have hvv : a.eval fvo = .func (.func f) #[] lb.toArray := by
          have hfv := hs.ev fvo
          rw [hev] at hfv
          have hfv : Rep (E := E.withFv fv) w F (.spec 1) (a.eval fvo) := hfv
          generalize a.eval fvo = u at hfv
          cases hfv
          exact h1
        have hex := exec_callv (w := w) ho hcl hvv hE.1
        have hea : (#[] ++ c.args.map a.eval ++ lb.toArray : Array Value) = (c.args.toList.map a.eval ++ lb).toArray := by
          apply Array.ext'
          simp
        rw [hea] at hex
        obtain ⟨k1, k2⟩ := hW _ _ _ _ hB
        have hcap := hc.mono (F' := F) (w' := w) (fun b o hf => hs.Fold b o (k1 b o hf)) (k2.trans (hs.agr.mono k1))
        refine emX_step (E := E) (E' := E.withFv fv) (B := B) (r' := left rest) (B2 := Kp B (Mine base w F0) w F) (l := l) hE (fun _ _ h => h) (by rw [ho]; intro c' e; cases e) hex hs hV ((hY.kp _ _ _).law h0) (Kp.inn hB hs) (fun w1 F1 b h => h.out) hcap hcap (HReps.castA (E := E.withFv fv) (fv := E.fv) ats x _ hargs) ?_
        intro b w3 F3 w' F' hB3 hs3
        refine hk base w3 F3 (left rest b) _ _ _ hB3 ⟨_, _, _, hs3⟩ ?_
        cases b with
        | true => exact hkt
        | false => exact hkf
  | i + 2 => cases he

end
end Go.Ai
/- Functions that write the elements of a row; the first call of a closure that calls itself. -/
namespace Go.Ai
open Go.RowKit
set_option linter.unusedSectionVars false
set_option linter.unusedVariables false
set_option linter.unusedSimpArgs false

noncomputable section
variable {N : Type} [DecidableEq N] {E : Env N} {P : Program}
variable {base n : Nat} {ov : Ov E} {w0 w w' : World} {F0 : Fx} {F F' : Fz} {σ σ' : St E} {a : Act} {j : Sites} {tk : Toks} {ro : Option Nat} {fv : Nat → Value}
variable {β : Type} {B : Bs β}

/-- **The contract of a function that writes a row**, handed the row and a function's name. -/
def MutSays (P : Program) (f g e : Nat) (τ : Ty N) (fn : List (den E.Γ τ) → Option (List (den E.Γ τ))) : Prop := callable P f = true ∧ ∀ xs ys, fn xs = some ys →
  ∀ (w : World) (base : Nat) (F : Fz) (v : Value) (L : List Value) (i : TypeInfo), P.info? e = some i → i.size = τ.size E → w.ownsRow base e i.size v xs.length L → RowRep (E := E) w F τ xs L → (∀ b o, F b o → b < w.heap.size) → (∀ b, v.ownBlock = some b → ∀ o, ¬ F b o) → v.ownBlock.isSome = true → base ≤ w.heap.size →
    Calls P f #[v, .func (.func g) #[] #[]] w fun en w' => en = .returned (.tuple #[]) ∧ w.grownBy w' v.ownBlock ∧ ∃ L', w'.ownsRow base e i.size v ys.length L' ∧ RowRep (E := E) w' F τ ys L'

def extMut (f g e : Nat) (τ : Ty N) (fn : List (den E.Γ τ) → Option (List (den E.Γ τ))) (X : Ext E β) : Ext E β := ⟨fun σ d c args K => match c with
  | .fn (.func f') [] [] => match Nat.beq f' f with
    | true => match args with
      | [.one (.rw s e' none), .one (.fn (.func g') [] [])] => match Nat.beq g' g && Nat.beq e' e, σ.heap[s]? with
        | true, some (.rw s' e'' τ' xs) => match packTV (.sl τ) (.sl τ' xs : TV E), Nat.beq s' s && Nat.beq e'' e' with
          | some xs, true => (fn xs).bind fun ys => K (({ σ with heap := σ.heap.set s (.rw s' e'' τ ys) } : St E).put d (.tup []))
          | _, _ => none
        | _, _ => none
      | _ => none
    | false => X.call σ d (.fn (.func f') [] []) args K
  | c => X.call σ d c args K⟩

theorem callOk_mut {f g e : Nat} {τ : Ty N} {fn : List (den E.Γ τ) → Option (List (den E.Γ τ))} (hM : MutSays (E := E) P f g e τ fn) {X : Ext E β} (hX : CallOk P B X) : CallOk P B (extMut f g e τ fn X) := by
  intro ov σ a w o c fv c' K next Q ro n base w0 F0 r j tk F ho hc hev hB hs he hk
  unfold extMut at he
  dsimp only at he
  split at he
  · rename_i f'
    split at he
    · rename_i hff
      have hff := Nat.eq_of_beq_eq_true hff
      subst hff
      split at he
      · rename_i s e' g' hargs
        split at he
        · rename_i s' e'' τ' xs' hcc hrow
          simp only [Bool.and_eq_true] at hcc
          have hg := Nat.eq_of_beq_eq_true hcc.1
          have he1 := Nat.eq_of_beq_eq_true hcc.2
          subst hg he1
          split at he
          · rename_i xs hpk hc2
            simp only [Bool.and_eq_true] at hc2
            have h1 := Nat.eq_of_beq_eq_true hc2.1
            have h2 := Nat.eq_of_beq_eq_true hc2.2
            subst h1 h2
            obtain ⟨hty, hxs⟩ := packTV_sl hpk
            subst hty
            subst hxs
            cases hfn : fn xs with
            | none => rw [hfn] at he; cases he
            | some ys =>
              rw [show fn xs = some ys from hfn] at he
              have hreps := evL_reps hs c.args.toList
              rw [hargs] at hreps
              obtain ⟨v, u, hvu⟩ : ∃ v u, c.args.toList.map a.eval = [v, u] := by
                have := hreps.len
                match hl : c.args.toList.map a.eval with
                | [v, u] => exact ⟨v, u, rfl⟩
                | [] => rw [hl] at this; cases this
                | [_] => rw [hl] at this; cases this
                | _ :: _ :: _ :: _ => rw [hl] at this; simp at this
              rw [hvu] at hreps
              have hv : tk (rkey s' e'') = some v := hreps.1
              obtain ⟨us1, us2, hu, hu1, hu2⟩ := hreps.2.1
              have hu : u = .func (.func g') #[] #[] := by
                cases us1 with
                | nil => cases us2 with
                  | nil => exact hu
                  | cons _ _ => exact hu2.elim
                | cons _ _ => exact hu1.elim
              subst hu
              obtain ⟨_, v0, L, i, g1, g2, g3, g4, g5, g6, g7⟩ := hs.rows _ _ _ _ _ hrow
              rw [hv] at g1
              cases g1
              have hcall := hM.2 xs ys hfn w base F v L i g2 g3 g4 g5 hs.Flt g6 g7 hs.size
              have hcell := hs.ev fv
              rw [hev] at hcell
              obtain ⟨vs1, vs2, hcv, hc1, hc2⟩ := hcell
              have hcv : a.eval fv = .func (.func f') #[] #[] := by
                cases vs1 with
                | nil => cases vs2 with
                  | nil => exact hcv
                  | cons _ _ => exact hc2.elim
                | cons _ _ => exact hc1.elim
              have hex := exec_callv (w := w) ho hc hcv hM.1
              have hea : (#[] ++ c.args.map a.eval ++ #[] : Array Value) = #[v, .func (.func g') #[] #[]] := by
                apply Array.ext'
                simp [hvu]
              rw [hea] at hex
              refine step_enter (by rw [ho]; intro c' e; cases e) hex hcall ?_
              rintro en w' ⟨rfl, h3, L', h4, h5⟩
              refine ⟨_, rfl, ?_⟩
              exact hk _ _ _ _ _ _ _ hB ⟨_, _, _, (hs.mutRow hrow hv g2 g3 h3 h4 h5).put (hd := .tup []) ⟨[], rfl, trivial⟩ o.dst⟩ he
          · cases he
        · cases he
      · cases he
    · exact hX ov σ a w o c fv _ K next Q ro n base w0 F0 r j tk F ho hc hev hB hs he hk
  · exact hX ov σ a w o c fv _ K next Q ro n base w0 F0 r j tk F ho hc hev hB hs he hk

/-! ### The first call of a closure that calls itself -/
def selfSite : List CapK → List (Sc E) → Option Nat
  | .self :: _, .ptr s 0 :: _ => some s
  | _ :: ks, _ :: cs => selfSite ks cs
  | _, _ => none

def capVals (σ : St E) (ss : List Nat) (z : Nat) : List CapK → List (Sc E) → Option (List (TV E))
  | [], [] => some []
  | .val n :: ks, c :: cs => match c.freeze σ ss, capVals σ ss z ks cs with
    | some (.fptr ls), some r => match Nat.beq ls.length n with
      | true => some (ls ++ r)
      | false => none
    | _, _ => none
  | .yld :: ks, .ptr s 0 :: cs => match σ.heap[s]?, ss.contains s with
    | some (.cells [.tv (.spec 0)]), true => capVals σ ss z ks cs
    | _, _ => none
  | .self :: ks, .ptr s 0 :: cs => match Nat.beq s z with
    | true => capVals σ ss z ks cs
    | false => none
  | _, _ => none

def extRec (f : FuncId) (ks : List CapK) (cts ats ts : List (Ty N)) (V : Tup E.Γ cts → Tup E.Γ cts → Tup E.Γ ats → Option (List (Tup E.Γ ts))) (X : Ext E (List (Tup E.Γ ts))) : Ext E (List (Tup E.Γ ts)) := ⟨fun σ d c args K => match c with
  | .fn (.func g) [] caps => match Nat.beq g f with
    | true => match selfSite ks caps with
      | some z => match σ.heap[z]? with
        | some (.cells [.fn (.func g') [] caps']) => match Nat.beq g' f && (caps.flatMap Sc.sites).contains z, capVals σ (caps.flatMap Sc.sites) z ks caps, capVals σ (caps.flatMap Sc.sites) z ks caps', packArgs ats (args.map (·.freeze σ (caps.flatMap Sc.sites))) with
          | true, some ls0, some ls, some x => match packTup cts ls0, packTup cts ls with
            | some y0, some y => (V y0 y x).bind fun es => emits es (K ((σ.freeze (caps.flatMap Sc.sites)).put d (.one (.tv (.bool true))))) (K ((σ.freeze (caps.flatMap Sc.sites)).put d (.one (.tv (.bool false)))))
            | _, _ => none
          | _, _, _, _ => none
        | _ => none
      | none => none
    | false => X.call σ d (.fn (.func g) [] caps) args K
  | c => X.call σ d c args K⟩

theorem CapsK.conv {f : FuncId} {l : Nat} {lb : List Value} : ∀ {ks : List CapK} {ls ls' : List (TV E)} {vs : List Value}, ls'.length = ls.length → (∀ (i : Nat) (x x' : TV E), ls[i]? = some x → ls'[i]? = some x' → ∀ v, Rep w F x v → Rep w F x' v) → CapsK w F f l lb ks ls vs → CapsK w F f l lb ks ls' vs
  | [], [], ls', [], hl, _, _ => by cases ls' with | nil => trivial | cons _ _ => simp at hl
  | .val n :: ks, ls, ls', v :: vs, hl, h, ⟨h1, ⟨b, o, us, h2, h3, h4⟩, h5⟩ => by
    refine ⟨by omega, ⟨b, o, us, h2, h3, ?_⟩, CapsK.conv (by simp [hl]) (fun i x x' hx hx' => h (n + i) x x' (by simpa using hx) (by simpa using hx')) h5⟩
    refine TReps.of_get (by rw [← h4.len]; simp [hl]) fun i x v hx hv => ?_
    have hin : i < n := by have := (List.getElem?_eq_some_iff.1 hx).1; simp at this; omega
    obtain ⟨x0, hx0⟩ : ∃ x0, (ls.take n)[i]? = some x0 := ⟨_, List.getElem?_eq_getElem (by have := (List.getElem?_eq_some_iff.1 hx).1; simp at this ⊢; omega)⟩
    obtain ⟨v', hv', hr⟩ := h4.get i x0 hx0
    rw [hv] at hv'; cases hv'
    rw [List.getElem?_take_of_lt hin] at hx hx0
    exact h i x0 x hx0 hx v hr
  | .self :: ks, ls, ls', v :: vs, hl, h, ⟨h1, h2⟩ => ⟨h1, CapsK.conv hl h h2⟩
  | .yld :: ks, ls, ls', v :: vs, hl, h, ⟨h1, h2⟩ => ⟨h1, CapsK.conv hl h h2⟩
  | [], [], _, _ :: _, _, _, h => h.elim
  | [], _ :: _, _, vs, _, _, h => by cases vs <;> exact h.elim
  | .val _ :: _, _, _, [], _, _, h => h.elim
  | .self :: _, _, _, [], _, _, h => h.elim
  | .yld :: _, _, _, [], _, _, h => h.elim

theorem CapsK.cast {f : FuncId} {l : Nat} {lb : List Value} : ∀ {ks : List CapK} {ls : List (TV E)} {vs : List Value}, CapsK w F f l lb ks ls vs → (∀ x ∈ ls, x.isSpec = false) → CapsK (E := E.withFv fv) w F f l lb ks (ls.map (TV.cast fv)) vs
  | [], [], [], _, _ => trivial
  | .val n :: ks, ls, v :: vs, ⟨h1, ⟨b, o, us, h2, h3, h4⟩, h5⟩, hx => by
    refine ⟨by simpa using h1, ⟨b, o, us, h2, h3, ?_⟩, ?_⟩
    · rw [← List.map_take]; exact h4.cast fun l hl => hx l (List.mem_of_mem_take hl)
    · rw [← List.map_drop]; exact h5.cast fun l hl => hx l (List.mem_of_mem_drop hl)
  | .self :: ks, ls, v :: vs, ⟨h1, h2⟩, hx => ⟨h1, h2.cast hx⟩
  | .yld :: ks, ls, v :: vs, ⟨h1, h2⟩, hx => ⟨h1, h2.cast hx⟩
  | [], [], _ :: _, h, _ => h.elim
  | [], _ :: _, vs, h, _ => by cases vs <;> exact h.elim
  | .val _ :: _, _, [], h, _ => h.elim
  | .self :: _, _, [], h, _ => h.elim
  | .yld :: _, _, [], h, _ => h.elim

/-- F with the boxes' first cells. -/
def F2 (σ : St E) (j : Sites) (F : Fz) (ss : List Nat) : Fz := fun b o => FF σ j F ss b o ∨ (o = 0 ∧ ∃ s, ss.contains s = true ∧ j s = some b)

theorem Sim.freeze2 (hs : Sim P base w0 F0 ov σ a w j tk F) (ss : List Nat) : Sim P base w0 F0 ov (σ.freeze ss) a w (jF j ss) tk (F2 σ j F ss) := by
  refine (hs.freeze ss).moreF (fun _ _ h => .inl h) fun b o hf => ?_
  rcases hf with hf | ⟨_, s, hc, hj⟩
  · exact .inl hf
  · refine .inr ⟨(hs.live s b hj).1, (hs.live s b hj).2.2.2, fun s' hj' => ?_, fun k v hk hv => ?_, fun hn => (hs.frn b hn).2.2.1 s hj⟩
    · simp only [jF] at hj'
      split at hj'
      · cases hj'
      · rename_i hn
        have := hs.inj s s' b hj hj'
        subst this
        exact hn hc
    · obtain ⟨_, _, _, _, _, e3⟩ := hs.toks k v hk
      exact (e3 b hv).2 s hj

theorem capVals_sound {σ : St (E.withFv fv)} {ov : Ov (E.withFv fv)} (hs : Sim (E := E.withFv fv) P base w0 F0 ov σ a w j tk F) {f : FuncId} {l z : Nat} {lb : List Value} {ss : List Nat} (h0 : fv 0 = .func (.yield l) #[] #[]) (hz : ss.contains z = true)
    (hzb : ∃ b, j z = some b ∧ w.cell? ⟨b, 0, none⟩ = some (.func (.func f) #[] lb.toArray)) : ∀ (ks : List CapK) (cs : List (Sc (E.withFv fv))) (ls : List (TV (E.withFv fv))) (vs : List Value), capVals σ ss z ks cs = some ls → SReps w j F cs vs → CapsK w (F2 σ j F ss) f l lb ks ls vs := by
  intro ks
  induction ks with
  | nil =>
    intro cs ls vs h hr
    cases cs with
    | nil =>
      cases vs with
      | nil => simp [capVals] at h; subst h; trivial
      | cons _ _ => exact hr.elim
    | cons _ _ => simp [capVals] at h
  | cons k ks ih =>
    intro cs ls vs h hr
    cases cs with
    | nil => cases k <;> simp [capVals] at h
    | cons c cs =>
      cases vs with
      | nil => exact hr.elim
      | cons v vs =>
        cases k with
        | val n =>
          simp only [capVals] at h
          split at h
          · rename_i ls1 r h1 h2
            split at h
            · rename_i hn
              have hn := Nat.eq_of_beq_eq_true hn
              cases h
              subst hn
              refine ⟨by simp, ?_, ?_⟩
              · obtain ⟨b, o, us, e1, e2, e3⟩ := SRep.freeze hs hr.1 h1
                refine ⟨b, o, us, e1, fun i u hu => ⟨.inl (e2 i u hu).1, (e2 i u hu).2⟩, ?_⟩
                rw [List.take_left]
                exact e3.mono (fun _ _ h => .inl h) (Agree.refl _ _)
              · rw [List.drop_left]
                exact ih _ _ _ h2 hr.2
            · cases h
          · cases h
        | yld =>
          cases c with
          | ptr s o =>
            cases o with
            | succ o => simp [capVals] at h
            | zero =>
              simp only [capVals] at h
              split at h
              · rename_i hb hc
                refine ⟨?_, ih _ _ _ h hr.2⟩
                obtain ⟨b, hj, hv⟩ := hr.1
                obtain ⟨b', us, T, e1, e2, e3⟩ := hs.boxes s _ hb
                rw [hj] at e1
                cases e1
                refine ⟨b, 0, hv, .inr ⟨rfl, s, hc, hj⟩, ?_⟩
                rw [cell_of_row w b 0 us T (0, 0) e2]
                rw [← Array.getElem?_toList]
                generalize us.toList = ul at e3
                cases ul with
                | nil => exact e3.elim
                | cons u ul =>
                  have hu : Rep (E := E.withFv fv) w F (.spec 0) u := e3.1
                  cases hu
                  exact congrArg some h0
              · cases h
          | _ => simp [capVals] at h
        | self =>
          cases c with
          | ptr s o =>
            cases o with
            | succ o => simp [capVals] at h
            | zero =>
              simp only [capVals] at h
              split at h
              · rename_i hb
                have hb := Nat.eq_of_beq_eq_true hb
                subst hb
                refine ⟨?_, ih _ _ _ h hr.2⟩
                obtain ⟨b, hj, hv⟩ := hr.1
                obtain ⟨b', hj', hcell⟩ := hzb
                rw [hj] at hj'
                cases hj'
                exact ⟨b, 0, hv, .inr ⟨rfl, s, hz, hj⟩, hcell⟩
              · cases h
          | _ => simp [capVals] at h

theorem callOk_rec {f : FuncId} {ks : List CapK} {cts ats ts : List (Ty N)} {V : Tup E.Γ cts → Tup E.Γ cts → Tup E.Γ ats → Option (List (Tup E.Γ ts))} (hE : EmX (E := E) P f ks cts ats ts V) {l : Nat} (h0 : fv 0 = .func (.yield l) #[] #[])
    {X : Ext (E.withFv fv) (List (Tup E.Γ ts))} {B : Bs (List (Tup E.Γ ts))} (hY : YOk (E := E.withFv fv) P (ylOf (E := E.withFv fv) ts) B) (hX : CallOk P B X) : CallOk P B (extRec (E := E.withFv fv) f ks cts ats ts V X) := by
  intro ov σ a w o c fvo c' K next Q ro n base w0 F0 r j tk F ho hcl hev hB hs he hk
  unfold extRec at he
  dsimp only at he
  split at he
  · rename_i g caps
    split at he
    · rename_i hgf
      have hgf := Nat.eq_of_beq_eq_true hgf
      subst hgf
      split at he
      · rename_i z hz
        split at he
        · rename_i g' caps' hbox
          split at he
          · rename_i ls0 ls x hcc hls0 hls hx
            simp only [Bool.and_eq_true] at hcc
            have hg' := Nat.eq_of_beq_eq_true hcc.1
            subst hg'
            have hzs := hcc.2
            split at he
            · rename_i y0 y hy0 hy
              cases hV : V y0 y x with
              | none => rw [show V y0 y x = none from hV] at he; cases he
              | some es =>
                rw [show V y0 y x = some es from hV] at he
                obtain ⟨rest, hkf, hkt, rfl⟩ := emits_some he
                have hcell := hs.ev fvo
                rw [hev] at hcell
                obtain ⟨us0, vs0, hfv, hus0, hvs0⟩ := hcell
                have hus0 : us0 = [] := by cases us0 with | nil => rfl | cons _ _ => exact hus0.elim
                subst hus0
                obtain ⟨b, us, T, e1, e2, e3⟩ := hs.boxes z _ hbox
                obtain ⟨lb, hlb, hlr⟩ : ∃ lb : List Value, w.cell? ⟨b, 0, none⟩ = some (.func (.func g') #[] lb.toArray) ∧ SReps w j F caps' lb := by
                  rw [cell_of_row w b 0 us T (0, 0) e2, ← Array.getElem?_toList]
                  generalize us.toList = ul at e3
                  cases ul with
                  | nil => exact e3.elim
                  | cons u ul =>
                    obtain ⟨us1, vs1, hu, hu1, hu2⟩ := e3.1
                    have hus1 : us1 = [] := by cases us1 with | nil => rfl | cons _ _ => exact hu1.elim
                    subst hus1
                    exact ⟨vs1, by simp [hu], hu2⟩
                have hs2 := hs.freeze2 (caps.flatMap Sc.sites)
                have hF2 : ∀ b o, FF σ j F (caps.flatMap Sc.sites) b o → F2 σ j F (caps.flatMap Sc.sites) b o := fun _ _ h => .inl h
                have toE : ∀ (ls : List (TV (E.withFv fv))) (y : Tup E.Γ cts) (vs : List Value), packTup (E := E.withFv fv) cts ls = some y → CapsK (E := E.withFv fv) w (F2 σ j F (caps.flatMap Sc.sites)) g' l lb ks ls vs → CapsK (E := E) w (F2 σ j F (caps.flatMap Sc.sites)) g' l lb ks (viewTup (E := E) cts y) vs := by
                  intro ls y vs hp hc
                  obtain ⟨p1, p2⟩ := packTup_get hp
                  have h1 := hc.conv p1 p2
                  have h2 := h1.cast (fv := E.fv) (viewTup_spec (E := E.withFv fv) cts y)
                  have h3 : viewTup (E := (E.withFv fv).withFv E.fv) cts y = (viewTup (E := E.withFv fv) cts y).map (TV.cast E.fv) := viewTup_cast (E := E.withFv fv) (fv := E.fv) cts y
                  exact (h3 ▸ h2 : CapsK (E := (E.withFv fv).withFv E.fv) w (F2 σ j F (caps.flatMap Sc.sites)) g' l lb ks (viewTup (E := (E.withFv fv).withFv E.fv) cts y) vs)
                have hc0 := toE _ _ _ hy0 (capVals_sound hs h0 hzs ⟨b, e1, hlb⟩ ks caps ls0 vs0 hls0 hvs0)
                have hc := toE _ _ _ hy (capVals_sound hs h0 hzs ⟨b, e1, hlb⟩ ks caps' ls lb hls hlr)
                have hfr : HReps w (jF j (caps.flatMap Sc.sites)) tk (F2 σ j F (caps.flatMap Sc.sites)) ((evL σ c.args.toList).map (·.freeze σ (caps.flatMap Sc.sites))) (c.args.toList.map a.eval) := (evL_reps hs c.args.toList).map _ fun x _ v hr => (hr.freeze hs).mono hF2 (Agree.refl _ _) (fun _ _ h => h) (fun _ _ h => h)
                have hargs := packArgs_sound (E := E.withFv fv) ats _ x _ hx hfr
                have hex := exec_callv (w := w) ho hcl hfv hE.1
                have hea : (#[] ++ c.args.map a.eval ++ vs0.toArray : Array Value) = (c.args.toList.map a.eval ++ vs0).toArray := by
                  apply Array.ext'
                  simp
                rw [hea] at hex
                refine emX_step (E := E) (E' := E.withFv fv) (B := B) (r' := fun b => (left rest b).1) (B2 := lift (Kp B (Mine base w F0) w (F2 σ j F (caps.flatMap Sc.sites)))) (l := l) hE (fun _ _ h => h) (by rw [ho]; intro c' e; cases e) hex hs2 hV ((hY.kp _ _ _).law1 h0) ⟨.inl rfl, Kp.inn hB hs2⟩ (fun w1 F1 b h => h.2.out) hc0 hc (HReps.castA (E := E.withFv fv) (fv := E.fv) ats x _ hargs) ?_
                intro b w3 F3 w' F' hB3 hs3
                refine hk base w3 F3 (left rest b).1 _ _ _ hB3 ⟨_, _, _, hs3⟩ ?_
                cases b with
                | true => exact hkt
                | false => exact hkf
            · cases he
          · cases he
        · cases he
      · cases he
    · exact hX ov σ a w o c fvo _ K next Q ro n base w0 F0 r j tk F ho hcl hev hB hs he hk
  · exact hX ov σ a w o c fvo _ K next Q ro n base w0 F0 r j tk F ho hcl hev hB hs he hk

/-- An iterator's contract out of its run, the yield being at hand. -/
theorem seqX_of_run2 {C : ∀ fv, Ctx (E.withFv fv)} {ts cts : List (Ty N)} {X : ∀ fv, Ext (E.withFv fv) (List (Tup E.Γ ts))} (hC : ∀ fv, COk P (C fv)) (hS : ∀ fv, SigOk P (C fv)) (hIt : ∀ fv, ItOk P (C fv)) (hm : P.follows .mixedOrders = true)
    (hX : ∀ (fv : Nat → Value) (l : Nat), fv 0 = .func (.yield l) #[] #[] → ∀ B, YOk (E := E.withFv fv) P (ylOf (E := E.withFv fv) ts) B → CallOk P B (X fv)) {M q : Nat} {f : FuncId} {fn : Func} {body : Code} {plans : List (Option (Plan N))} {shape : List Nat} {y : Tup E.Γ cts} {xs : List (Tup E.Γ ts)} {F0 : Fz} {lb : List Value}
    (hf : P.funcs[f]? = some fn) (hb : fn.body = some body)
    (hrun : ∀ fv, runC (C fv) (X fv) M body plans (start (.one (.tv (.spec 0)) :: capHs shape (viewTup (E := E.withFv fv) cts y)) fn.ntmps q) (kEnd (C fv) fn.results.toList) = some xs)
    (hT : E.tab w0 F0) (hcap : Caps w0 F0 shape (viewTup (E := E) cts y) lb) : SeqX (E := E) P f lb.toArray ts xs w0 F0 := by
  intro l J Jx W F h1 h2 h3 h4 h5 h6 h7
  exact seq_of_run (fv := fun _ => .func (.yield l) #[] #[]) (hC _) (hS _) (hIt _) hm (hX _ l rfl) rfl hf hb (hrun _) h3 (E.tabM _ _ _ _ hT h1 h2) (hcap.mono h1 h2) h4 h5 h6 h7

theorem callOk_em {C : Ctx (E.withFv fv)} (hC : COk P C) (hS : SigOk P C) (hIt : ItOk P C) (hm : P.follows .mixedOrders = true) {inl : Nat → Nat → FuncId → Option (Inl N)} (hI : InlOk P inl) {rsig : FuncId → Option (Sig (E.withFv fv))} (hR : SigOk P { ti := fun _ => none, sig := rsig }) (M k : Nat)
    {f : FuncId} {ks : List CapK} {cts ats ts : List (Ty N)} {V : Tup E.Γ cts → Tup E.Γ cts → Tup E.Γ ats → Option (List (Tup E.Γ ts))} {X0 : Ext (E.withFv fv) (List (Tup (E.withFv fv).Γ ts) × Bool)} (hX0 : ∀ B, CallOk P B X0) (hE : EmX (E := E) P f ks cts ats ts V) {l : Nat} {lb : List Value} {y : Tup E.Γ cts} {W : World} {FW : Fz}
    (h0 : fv 0 = .func (.yield l) #[] #[]) (h1 : fv 1 = .func (.func f) #[] lb.toArray) (hc : CapsK (E := E) W FW f l lb ks (viewTup cts y) lb) :
    ∀ B, YOk (E := E.withFv fv) P (yl0 (E := E.withFv fv) ts) B → (∀ base w0 F0 r, B base w0 F0 r → (∀ b o, FW b o → F0.c b o) ∧ Agree FW W w0) → CallOk P B (extOf C inl rsig (yl01 (E := E.withFv fv) ats ts (V y y)) X0 M k) := by
  intro B hB hW
  refine ext_sound hC hS hIt hm hI hR (G := fun B => YOk (E := E.withFv fv) P (yl0 (E := E.withFv fv) ts) B ∧ ∀ base w0 F0 r, B base w0 F0 r → (∀ b o, FW b o → F0.c b o) ∧ Agree FW W w0) (fun B l x X O1 W1 F1 h => ⟨h.1.rnd l x X O1 W1 F1, ?_⟩) (fun B X W1 FX h => ⟨h.1.kp X W1 FX, ?_⟩) (fun B h => spOk_yl01 hE h0 h1 hc h.1 h.2) (fun B _ => hX0 B) M k B ⟨hB, hW⟩
  · rintro base w0' F0' r ⟨w0, F0, hB, hcv, _⟩
    obtain ⟨g1, g2⟩ := h.2 _ _ _ _ hB
    exact ⟨fun b o hf => hcv.Fold b o (g1 b o hf), g2.trans (hcv.agr.mono g1)⟩
  · rintro base w0' F0' r ⟨w0, F0, hB, hcv, _⟩
    obtain ⟨g1, g2⟩ := h.2 _ _ _ _ hB
    exact ⟨fun b o hf => hcv.Fold b o (g1 b o hf), g2.trans (hcv.agr.mono g1)⟩

end
end Go.Ai
namespace Go.Ai.Pav
open Go Go.Ai Go.Proofs
inductive Nm where
  | api_Feature | api_Affix | api_Dimension | api_Letter | api_Paradigm | arr2_Int | feature_entry_int | feature_Table_int | unicode_utf8_acceptRange
  deriving DecidableEq
structure api_Feature where
  fName : (List UInt8)
  fValue : (List UInt8)
instance : Inhabited api_Feature := ⟨⟨default, default⟩⟩
structure api_Affix where
  fWhen : (List api_Feature)
  fPrefix : (List UInt8)
  fSuffix : (List UInt8)
instance : Inhabited api_Affix := ⟨⟨default, default, default⟩⟩
structure api_Dimension where
  fName : (List UInt8)
  fValues : (List (List UInt8))
instance : Inhabited api_Dimension := ⟨⟨default, default⟩⟩
structure api_Letter where
  fRune : Int
  fClasses : Int
instance : Inhabited api_Letter := ⟨⟨default, default⟩⟩
structure api_Paradigm where
  fName : (List UInt8)
  fDimensions : (List api_Dimension)
  fSlots : (List (List api_Affix))
instance : Inhabited api_Paradigm := ⟨⟨default, default, default⟩⟩
structure arr2_Int where
  f0 : Int
  f1 : Int
instance : Inhabited arr2_Int := ⟨⟨default, default⟩⟩
structure feature_entry_int where
  fwhen : (List api_Feature)
  fvalue : Int
instance : Inhabited feature_entry_int := ⟨⟨default, default⟩⟩
structure feature_Table_int where
  fentries : (List feature_entry_int)
instance : Inhabited feature_Table_int := ⟨⟨default⟩⟩
structure unicode_utf8_acceptRange where
  flo : Int
  fhi : Int
instance : Inhabited unicode_utf8_acceptRange := ⟨⟨default, default⟩⟩
/-- utf8's tables, in cells that are read. -/
def utabs (w : World) (F : Nat → Nat → Prop) : Prop := (∀ c, c < 256 → F 0 c) ∧ (∀ c, c < 32 → F 1 c) ∧ Go.Lib.Utf8Tabs 0 1 w
theorem utabsM (w w' : World) (F F' : Nat → Nat → Prop) (h : utabs w F) (hF : ∀ b o, F b o → F' b o) (hw : ∀ b o v, F b o → w.cell? ⟨b, o, none⟩ = some v → w'.cell? ⟨b, o, none⟩ = some v) : utabs w' F' :=
  ⟨fun c hc => hF _ _ (h.1 c hc), fun c hc => hF _ _ (h.2.1 c hc), fun c hc => hw _ _ _ (h.1 c hc) (h.2.2.1 c hc), fun i hi => ⟨hw _ _ _ (h.2.1 _ (by omega)) (h.2.2.2 i hi).1, hw _ _ _ (h.2.1 _ (by omega)) (h.2.2.2 i hi).2⟩⟩
def E : Env Nm where
  tab := utabs
  tabM := utabsM
  Γ := fun
    | .api_Feature => api_Feature
    | .api_Affix => api_Affix
    | .api_Dimension => api_Dimension
    | .api_Letter => api_Letter
    | .api_Paradigm => api_Paradigm
    | .arr2_Int => arr2_Int
    | .feature_entry_int => feature_entry_int
    | .feature_Table_int => feature_Table_int
    | .unicode_utf8_acceptRange => unicode_utf8_acceptRange
  fl := fun
    | .api_Feature => [.str, .str]
    | .api_Affix => [(.sl (.st .api_Feature)), .str, .str]
    | .api_Dimension => [.str, (.sl .str)]
    | .api_Letter => [(.int .i32), (.int .u32)]
    | .api_Paradigm => [.str, (.sl (.st .api_Dimension)), (.sl (.sl (.st .api_Affix)))]
    | .arr2_Int => [(.int .i64), (.int .i64)]
    | .feature_entry_int => [(.sl (.st .api_Feature)), (.int .i64)]
    | .feature_Table_int => [(.sl (.st .feature_entry_int))]
    | .unicode_utf8_acceptRange => [(.int .u8), (.int .u8)]
  pk := fun
    | .api_Feature, (x0, x1) => ⟨x0, x1⟩
    | .api_Affix, (x0, x1, x2) => ⟨x0, x1, x2⟩
    | .api_Dimension, (x0, x1) => ⟨x0, x1⟩
    | .api_Letter, (x0, x1) => ⟨x0, x1⟩
    | .api_Paradigm, (x0, x1, x2) => ⟨x0, x1, x2⟩
    | .arr2_Int, (x0, x1) => ⟨x0, x1⟩
    | .feature_entry_int, (x0, x1) => ⟨x0, x1⟩
    | .feature_Table_int, x0 => ⟨x0⟩
    | .unicode_utf8_acceptRange, (x0, x1) => ⟨x0, x1⟩
  un := fun
    | .api_Feature, x => (x.fName, x.fValue)
    | .api_Affix, x => (x.fWhen, x.fPrefix, x.fSuffix)
    | .api_Dimension, x => (x.fName, x.fValues)
    | .api_Letter, x => (x.fRune, x.fClasses)
    | .api_Paradigm, x => (x.fName, x.fDimensions, x.fSlots)
    | .arr2_Int, x => (x.f0, x.f1)
    | .feature_entry_int, x => (x.fwhen, x.fvalue)
    | .feature_Table_int, x => (x.fentries)
    | .unicode_utf8_acceptRange, x => (x.flo, x.fhi)
  z := fun
    | .api_Feature => default
    | .api_Affix => default
    | .api_Dimension => default
    | .api_Letter => default
    | .api_Paradigm => default
    | .arr2_Int => default
    | .feature_entry_int => default
    | .feature_Table_int => default
    | .unicode_utf8_acceptRange => default
  law := fun n x => by cases n <;> rfl
  eta := fun n x => by cases n <;> rfl
  plain := fun n => by cases n <;> rfl
  pos := fun n => by cases n <;> decide
def tis {fv : Nat → Value} : List (Nat × TI (E.withFv fv)) := [
  (1, { d := .other, size := 1, bytes := 8, agg := false, zero := [.val .nilFunc], ty := none }),
  (2, { d := .int .i64, size := 1, bytes := 8, agg := false, zero := [.int .i64 0], ty := some (.int .i64) }),
  (3, { d := .int .i64, size := 1, bytes := 8, agg := false, zero := [.int .i64 0], ty := some (.int .i64) }),
  (4, { d := .bool, size := 1, bytes := 1, agg := false, zero := [.bool false], ty := some .bool }),
  (5, { d := .int .u8, size := 1, bytes := 1, agg := false, zero := [.int .u8 0], ty := some (.int .u8) }),
  (9, { d := .str, size := 1, bytes := 16, agg := false, zero := [.str []], ty := some .str }),
  (12, { d := .int .u64, size := 1, bytes := 8, agg := false, zero := [.int .u64 0], ty := some (.int .u64) }),
  (21, { d := .int .i32, size := 1, bytes := 4, agg := false, zero := [.int .i32 0], ty := some (.int .i32) }),
  (22, { d := .slice 68, size := 1, bytes := 24, agg := false, zero := [.val nilS], ty := some (.sl (.st .api_Letter)) }),
  (23, { d := .slice 54, size := 1, bytes := 24, agg := false, zero := [.val nilS], ty := some (.sl (.st .api_Dimension)) }),
  (24, { d := .slice 46, size := 1, bytes := 24, agg := false, zero := [.val nilS], ty := some (.sl (.sl (.st .api_Affix))) }),
  (26, { d := .struct [(0, 9, 1), (1, 23, 1), (2, 24, 1)], size := 3, bytes := 64, agg := true, zero := [.str [], .val nilS, .val nilS], ty := some (.st .api_Paradigm) }),
  (30, { d := .slice 45, size := 1, bytes := 24, agg := false, zero := [.val nilS], ty := some (.sl (.st .api_Feature)) }),
  (33, { d := .int .i64, size := 1, bytes := 8, agg := false, zero := [.int .i64 0], ty := some (.int .i64) }),
  (37, { d := .slice 41, size := 1, bytes := 24, agg := false, zero := [.val nilS], ty := some (.sl (.st .arr2_Int)) }),
  (41, { d := .arr 2 3, size := 2, bytes := 16, agg := true, zero := [.int .i64 0, .int .i64 0], ty := some (.st .arr2_Int), eq := true }),
  (43, { d := .other, size := 1, bytes := 8, agg := false, zero := [.val .nilFunc], ty := none }),
  (45, { d := .struct [(0, 9, 1), (1, 9, 1)], size := 2, bytes := 32, agg := true, zero := [.str [], .str []], ty := some (.st .api_Feature), eq := true }),
  (46, { d := .slice 48, size := 1, bytes := 24, agg := false, zero := [.val nilS], ty := some (.sl (.st .api_Affix)) }),
  (48, { d := .struct [(0, 30, 1), (1, 9, 1), (2, 9, 1)], size := 3, bytes := 56, agg := true, zero := [.val nilS, .str [], .str []], ty := some (.st .api_Affix) }),
  (52, { d := .slice 9, size := 1, bytes := 24, agg := false, zero := [.val nilS], ty := some (.sl .str) }),
  (54, { d := .struct [(0, 9, 1), (1, 52, 1)], size := 2, bytes := 40, agg := true, zero := [.str [], .val nilS], ty := some (.st .api_Dimension) }),
  (56, { d := .other, size := 1, bytes := 8, agg := false, zero := [.val .nilFunc], ty := none }),
  (61, { d := .slice 30, size := 1, bytes := 24, agg := false, zero := [.val nilS], ty := some (.sl (.sl (.st .api_Feature))) }),
  (62, { d := .map 41 4, size := 1, bytes := 8, agg := false, zero := [.val (.map none)], ty := none }),
  (66, { d := .int .u32, size := 1, bytes := 4, agg := false, zero := [.int .u32 0], ty := some (.int .u32) }),
  (68, { d := .struct [(0, 21, 1), (1, 66, 1)], size := 2, bytes := 8, agg := true, zero := [.int .i32 0, .int .u32 0], ty := some (.st .api_Letter), eq := true }),
  (70, { d := .map 21 3, size := 1, bytes := 8, agg := false, zero := [.val (.map none)], ty := none }),
  (74, { d := .slice 3, size := 1, bytes := 24, agg := false, zero := [.val nilS], ty := some (.sl (.int .i64)) }),
  (77, { d := .other, size := 1, bytes := 8, agg := false, zero := [.val .nilFunc], ty := none }),
  (80, { d := .other, size := 1, bytes := 8, agg := false, zero := [.val .nilFunc], ty := none }),
  (82, { d := .other, size := 1, bytes := 8, agg := false, zero := [.val (.pointer none)], ty := some (.ref .feature_Table_int) }),
  (87, { d := .arr 256 5, size := 256, bytes := 256, agg := true, zero := [.int .u8 0, .int .u8 0, .int .u8 0, .int .u8 0, .int .u8 0, .int .u8 0, .int .u8 0, .int .u8 0, .int .u8 0, .int .u8 0, .int .u8 0, .int .u8 0, .int .u8 0, .int .u8 0, .int .u8 0, .int .u8 0, .int .u8 0, .int .u8 0, .int .u8 0, .int .u8 0, .int .u8 0, .int .u8 0, .int .u8 0, .int .u8 0, .int .u8 0, .int .u8 0, .int .u8 0, .int .u8 0, .int .u8 0, .int .u8 0, .int .u8 0, .int .u8 0, .int .u8 0, .int .u8 0, .int .u8 0, .int .u8 0, .int .u8 0, .int .u8 0, .int .u8 0, .int .u8 0, .int .u8 0, .int .u8 0, .int .u8 0, .int .u8 0, .int .u8 0, .int .u8 0, .int .u8 0, .int .u8 0, .int .u8 0, .int .u8 0, .int .u8 0, .int .u8 0, .int .u8 0, .int .u8 0, .int .u8 0, .int .u8 0, .int .u8 0, .int .u8 0, .int .u8 0, .int .u8 0, .int .u8 0, .int .u8 0, .int .u8 0, .int .u8 0, .int .u8 0, .int .u8 0, .int .u8 0, .int .u8 0, .int .u8 0, .int .u8 0, .int .u8 0, .int .u8 0, .int .u8 0, .int .u8 0, .int .u8 0, .int .u8 0, .int .u8 0, .int .u8 0, .int .u8 0, .int .u8 0, .int .u8 0, .int .u8 0, .int .u8 0, .int .u8 0, .int .u8 0, .int .u8 0, .int .u8 0, .int .u8 0, .int .u8 0, .int .u8 0, .int .u8 0, .int .u8 0, .int .u8 0, .int .u8 0, .int .u8 0, .int .u8 0, .int .u8 0, .int .u8 0, .int .u8 0, .int .u8 0, .int .u8 0, .int .u8 0, .int .u8 0, .int .u8 0, .int .u8 0, .int .u8 0, .int .u8 0, .int .u8 0, .int .u8 0, .int .u8 0, .int .u8 0, .int .u8 0, .int .u8 0, .int .u8 0, .int .u8 0, .int .u8 0, .int .u8 0, .int .u8 0, .int .u8 0, .int .u8 0, .int .u8 0, .int .u8 0, .int .u8 0, .int .u8 0, .int .u8 0, .int .u8 0, .int .u8 0, .int .u8 0, .int .u8 0, .int .u8 0, .int .u8 0, .int .u8 0, .int .u8 0, .int .u8 0, .int .u8 0, .int .u8 0, .int .u8 0, .int .u8 0, .int .u8 0, .int .u8 0, .int .u8 0, .int .u8 0, .int .u8 0, .int .u8 0, .int .u8 0, .int .u8 0, .int .u8 0, .int .u8 0, .int .u8 0, .int .u8 0, .int .u8 0, .int .u8 0, .int .u8 0, .int .u8 0, .int .u8 0, .int .u8 0, .int .u8 0, .int .u8 0, .int .u8 0, .int .u8 0, .int .u8 0, .int .u8 0, .int .u8 0, .int .u8 0, .int .u8 0, .int .u8 0, .int .u8 0, .int .u8 0, .int .u8 0, .int .u8 0, .int .u8 0, .int .u8 0, .int .u8 0, .int .u8 0, .int .u8 0, .int .u8 0, .int .u8 0, .int .u8 0, .int .u8 0, .int .u8 0, .int .u8 0, .int .u8 0, .int .u8 0, .int .u8 0, .int .u8 0, .int .u8 0, .int .u8 0, .int .u8 0, .int .u8 0, .int .u8 0, .int .u8 0, .int .u8 0, .int .u8 0, .int .u8 0, .int .u8 0, .int .u8 0, .int .u8 0, .int .u8 0, .int .u8 0, .int .u8 0, .int .u8 0, .int .u8 0, .int .u8 0, .int .u8 0, .int .u8 0, .int .u8 0, .int .u8 0, .int .u8 0, .int .u8 0, .int .u8 0, .int .u8 0, .int .u8 0, .int .u8 0, .int .u8 0, .int .u8 0, .int .u8 0, .int .u8 0, .int .u8 0, .int .u8 0, .int .u8 0, .int .u8 0, .int .u8 0, .int .u8 0, .int .u8 0, .int .u8 0, .int .u8 0, .int .u8 0, .int .u8 0, .int .u8 0, .int .u8 0, .int .u8 0, .int .u8 0, .int .u8 0, .int .u8 0, .int .u8 0, .int .u8 0, .int .u8 0, .int .u8 0, .int .u8 0, .int .u8 0, .int .u8 0, .int .u8 0, .int .u8 0, .int .u8 0, .int .u8 0, .int .u8 0, .int .u8 0, .int .u8 0, .int .u8 0, .int .u8 0, .int .u8 0, .int .u8 0, .int .u8 0, .int .u8 0, .int .u8 0, .int .u8 0], ty := none, eq := true }),
  (89, { d := .struct [(0, 5, 1), (1, 5, 1)], size := 2, bytes := 2, agg := true, zero := [.int .u8 0, .int .u8 0], ty := some (.st .unicode_utf8_acceptRange), eq := true }),
  (90, { d := .arr 16 89, size := 32, bytes := 32, agg := true, zero := [.int .u8 0, .int .u8 0, .int .u8 0, .int .u8 0, .int .u8 0, .int .u8 0, .int .u8 0, .int .u8 0, .int .u8 0, .int .u8 0, .int .u8 0, .int .u8 0, .int .u8 0, .int .u8 0, .int .u8 0, .int .u8 0, .int .u8 0, .int .u8 0, .int .u8 0, .int .u8 0, .int .u8 0, .int .u8 0, .int .u8 0, .int .u8 0, .int .u8 0, .int .u8 0, .int .u8 0, .int .u8 0, .int .u8 0, .int .u8 0, .int .u8 0, .int .u8 0], ty := none }),
  (91, { d := .int .u64, size := 1, bytes := 8, agg := false, zero := [.int .u64 0], ty := some (.int .u64) }),
  (95, { d := .slice 100, size := 1, bytes := 24, agg := false, zero := [.val nilS], ty := some (.sl (.st .feature_entry_int)) }),
  (97, { d := .struct [(0, 95, 1)], size := 1, bytes := 24, agg := true, zero := [.val nilS], ty := some (.st .feature_Table_int) }),
  (100, { d := .struct [(0, 30, 1), (1, 3, 1)], size := 2, bytes := 32, agg := true, zero := [.val nilS, .int .i64 0], ty := some (.st .feature_entry_int) }),
  (102, { d := .other, size := 1, bytes := 8, agg := false, zero := [.val .nilFunc], ty := none }),
  (104, { d := .int .u64, size := 1, bytes := 8, agg := false, zero := [.int .u64 0], ty := some (.int .u64) }),
  (106, { d := .int .i64, size := 1, bytes := 8, agg := false, zero := [.int .i64 0], ty := some (.int .i64) }),
  (114, { d := .other, size := 1, bytes := 8, agg := false, zero := [.val .nilFunc], ty := none }),
  (116, { d := .int .u64, size := 1, bytes := 8, agg := false, zero := [.int .u64 0], ty := some (.int .u64) }),
  (120, { d := .other, size := 1, bytes := 8, agg := false, zero := [.val (.pointer none)], ty := none }),
  (122, { d := .other, size := 1, bytes := 8, agg := false, zero := [.val (.pointer none)], ty := none })]
def tisE : List (Nat × TI E) := tis (fv := E.fv)
theorem tis_ok {fv : Nat → Value} : ((tis (fv := fv)).all fun x => chk Tryd.prog x.1 x.2) = true := by kernel_rfl
theorem tisE_ok : (tisE.all fun x => chk Tryd.prog x.1 x.2) = true := by kernel_rfl
theorem COk_Tryd {sig : FuncId → Option (Sig E)} {it : FuncId → Option (It E)} {nt : Nat} {r1 r2 : List Nat} : COk Tryd.prog ({ ti := fun t => tisE.lookup t, sig := sig, it := it, nt := nt, rowAt := r1, frzAt := r2 } : Ctx E) := COk.of_list tisE_ok
theorem COk_Trydv {fv : Nat → Value} {sig : FuncId → Option (Sig (E.withFv fv))} {it : FuncId → Option (It (E.withFv fv))} {nt : Nat} {r1 r2 : List Nat} : COk Tryd.prog ({ ti := fun t => (tis (fv := fv)).lookup t, sig := sig, it := it, nt := nt, rowAt := r1, frzAt := r2 } : Ctx (E.withFv fv)) := COk.of_list tis_ok
end Go.Ai.Pav
set_option linter.unusedVariables false
set_option linter.unusedSectionVars false
noncomputable section
namespace Go.Ai.Pav
open Go Go.Ai Go.Proofs
noncomputable def sigs47 (M : Nat) : List (Nat × Sig E) := []
noncomputable def rs47 (M : Nat) : List (Nat × Sig E) := []
noncomputable def its47 (M : Nat) : List (Nat × It E) := []
theorem sigs_ok47 (M : Nat) : SigsOk Tryd.prog (sigs47 M) := SigsOk.nil
theorem rs_ok47 (M : Nat) : SigsOk Tryd.prog (rs47 M) := SigsOk.nil
theorem its_ok47 (M : Nat) : ItsOk Tryd.prog (its47 M) := ItsOk.nil
noncomputable def C47 (M : Nat) : Ctx E := { ti := fun t => tisE.lookup t, sig := fun f => (sigs47 M).lookup f, it := fun f => (its47 M).lookup f, nt := 17 }
theorem SigOk_C47 (M : Nat) : SigOk Tryd.prog (C47 M) := sigs_ok47 M
theorem RSigOk_C47 (M : Nat) : SigOk Tryd.prog ({ ti := fun _ => none, sig := fun f => (rs47 M).lookup f } : Ctx E) := rs_ok47 M
theorem ItOk_C47 (M : Nat) : ItOk Tryd.prog (C47 M) := (its_ok47 M).ok
namespace pentaglotref06_code
noncomputable def plans : List (Option (Plan Nm)) := [none, none]
noncomputable abbrev body : Code := bodyOf Tryd.f47
def ps : List (Ty Nm) := [(.int .i32)]
def rs : List (Ty Nm) := [.bool]
def ex : List (Option Nat) := [none]
noncomputable def inl : List (Nat × Nat × Nat × Inl Nm) := []
theorem inl_ok : InlsOk Tryd.prog inl := InlsOk.nil
noncomputable def X (M : Nat) : Ext E Bool := extOf (C47 M) (inlOf inl) (fun f => (rs47 M).lookup f) (fun _ _ _ => none) noX M 1
abbrev Rt := Bool
noncomputable def H (M : Nat) : Hd E Rt := hd0 (X M)
theorem Hok (M : Nat) : (H M).ok (C47 M) M := hd0_ok _
abbrev Zt := List Dir → St E → Option Rt
abbrev Ut := St E → Option Rt
noncomputable def s (M : Nat) (ra0_0 : Int) : Option Rt :=
  cond (decide (32 < ra0_0))
   (cond (decide (ra0_0 < 55296))
     (some (decide (ra0_0 ≤ 1114111)))
     (cond (decide (57343 < ra0_0))
       (some (decide (ra0_0 ≤ 1114111)))
       (some false)))
   (some false)
end pentaglotref06_code
noncomputable def pentaglotref06_code (M : Nat) (ra0_0 : Int) : Option Bool :=
  pentaglotref06_code.s M ra0_0
namespace pentaglotref06_code
noncomputable def K (M : Nat) : Cont E Bool := kRet (C47 M) Tryd.f47.results.toList rs ex
set_option maxRecDepth 100000
theorem g (M : Nat) (Z : Zt) (ra0_0 : Int) : runZ (C47 M) (extZ (C47 M) (H M) 0) Z body plans (start (argHs ps ra0_0) Tryd.f47.ntmps 17) (K M) = s M ra0_0 := by kernel_rfl
theorem run (M : Nat) (ra0_0 : Int) : runF (rs := rs) (C47 M) (X M) M body Tryd.f47.ntmps 17 Tryd.f47.results.toList plans ps ex ra0_0 = pentaglotref06_code M ra0_0 := by
  refine Eq.trans (b := runC (C47 M) (X M) M body plans (start (argHs ps ra0_0) Tryd.f47.ntmps 17) (K M)) (by kernel_rfl) ?_
  refine (zrun (Hok M) 0 body plans _ (K M) (fun _ => none) fun _ => rfl).symm.trans ?_
  refine (g M _ ra0_0).trans ?_
  rfl
noncomputable def sig (M : Nat) : Sig E := { ps := ps, rs := rs, ex := ex, fn := fun x => pentaglotref06_code M x }
theorem says (M : Nat) : callable Tryd.prog 47 = true ∧ ∀ x y, (sig M).fn x = some y → Says Tryd.prog 47 (sig M) x y := by
  refine ⟨by kernel_rfl, fun x y h => ?_⟩
  refine says_of_run (S := sig M) (C := C47 M) (X := X M) (M := M) (q := 17) (plans := plans) (COk_Tryd) (SigOk_C47 M) (ItOk_C47 M) (by kernel_rfl) (callOk_ext COk_Tryd (SigOk_C47 M) (ItOk_C47 M) (by kernel_rfl) inl_ok.ok (RSigOk_C47 M) (fun _ => callOk_none) M 1) (Tryd.func47) (body := body) (by kernel_rfl) (by kernel_rfl) ?_
  exact (run M x).trans h
end pentaglotref06_code
end Go.Ai.Pav
end
set_option linter.unusedVariables false
set_option linter.unusedSectionVars false
noncomputable section
namespace Go.Ai.Pav
open Go Go.Ai Go.Proofs
noncomputable def sigs48 (M : Nat) : List (Nat × Sig E) := []
noncomputable def rs48 (M : Nat) : List (Nat × Sig E) := []
noncomputable def its48 (M : Nat) : List (Nat × It E) := []
theorem sigs_ok48 (M : Nat) : SigsOk Tryd.prog (sigs48 M) := SigsOk.nil
theorem rs_ok48 (M : Nat) : SigsOk Tryd.prog (rs48 M) := SigsOk.nil
theorem its_ok48 (M : Nat) : ItsOk Tryd.prog (its48 M) := ItsOk.nil
noncomputable def C48 (M : Nat) : Ctx E := { ti := fun t => tisE.lookup t, sig := fun f => (sigs48 M).lookup f, it := fun f => (its48 M).lookup f, nt := 20 }
theorem SigOk_C48 (M : Nat) : SigOk Tryd.prog (C48 M) := sigs_ok48 M
theorem RSigOk_C48 (M : Nat) : SigOk Tryd.prog ({ ti := fun _ => none, sig := fun f => (rs48 M).lookup f } : Ctx E) := rs_ok48 M
theorem ItOk_C48 (M : Nat) : ItOk Tryd.prog (C48 M) := (its_ok48 M).ok
namespace pentaglotref06_Index
noncomputable def plans : List (Option (Plan Nm)) := [none, none, some { tmps := [(0, .asis), (1, .asis), (5, .asis)], boxes := [] }, none, none, none, none, none, none, none]
noncomputable abbrev body : Code := bodyOf Tryd.f48
def ps : List (Ty Nm) := [(.sl (.st .api_Letter)), (.int .i32)]
def rs : List (Ty Nm) := [(.int .i64)]
def ex : List (Option Nat) := [none]
noncomputable def inl : List (Nat × Nat × Nat × Inl Nm) := []
theorem inl_ok : InlsOk Tryd.prog inl := InlsOk.nil
noncomputable def X (M : Nat) : Ext E Int := extOf (C48 M) (inlOf inl) (fun f => (rs48 M).lookup f) (fun _ _ _ => none) noX M 1
abbrev Rt := Int
noncomputable def H (M : Nat) : Hd E Rt := hd0 (X M)
theorem Hok (M : Nat) : (H M).ok (C48 M) M := hd0_ok _
abbrev Qt1 : List Dir := [.r, .l, .r, .k]
abbrev Ht1 := (List api_Letter) → Int → Int → Option Rt
abbrev Zt := List Dir → St E → Option Rt
abbrev Ut := St E → Option Rt
noncomputable def s1 (M : Nat) (h1 : Ht1) (aa0_0 : (List api_Letter)) (ra1_0 : Int) (i5_1 : Int) : Option Rt :=
  cond (decide (i5_1 < (aa0_0.length : Int)))
   (cond (decide (0 ≤ i5_1) && decide (i5_1 < (aa0_0.length : Int)))
     (cond (decide (((aa0_0.getD i5_1.toNat default).fRune) = ra1_0))
       (some i5_1)
       (h1 aa0_0 ra1_0 (IntKind.i64.wrap (i5_1 + 1))))
     none)
   (some (-1))
noncomputable def l1 (M : Nat) : Nat → Ht1
  | 0, _, _, _ => none
  | k + 1, aa0_0, ra1_0, i5_1 => s1 M (l1 M k) aa0_0 ra1_0 i5_1
noncomputable def s (M : Nat) (h1 : Ht1) (aa0_0 : (List api_Letter)) (ra1_0 : Int) : Option Rt :=
  h1 aa0_0 ra1_0 0
end pentaglotref06_Index
noncomputable def pentaglotref06_Index (M : Nat) (aa0_0 : (List api_Letter)) (ra1_0 : Int) : Option Int :=
  pentaglotref06_Index.s M (pentaglotref06_Index.l1 M M) aa0_0 ra1_0
namespace pentaglotref06_Index
noncomputable def S1 (aa0_0 : (List api_Letter)) (ra1_0 : Int) (i5_1 : Int) : St E :=
  mkSt 20 20 [(0, .one (.tv (.sl (.st .api_Letter) aa0_0))), (1, .one (.tv (.int .i32 ra1_0))), (5, .one (.tv (.int .i64 i5_1)))] [] 0 [] [] false
noncomputable def K (M : Nat) : Cont E Int := kRet (C48 M) Tryd.f48.results.toList rs ex
noncomputable abbrev zA (M : Nat) (ZL : List Dir → Option (Ut)) (q : List Dir) : Ut := zAt (C48 M) (H M) M 0 ZL body plans (K M) q
noncomputable abbrev lA (M : Nat) (ZL : List Dir → Option (Ut)) (q : List Dir) (k : Nat) : Ut := lpAt (C48 M) (H M) M 0 ZL body plans (K M) q k
noncomputable abbrev gA (M : Nat) (Z : Zt) (q : List Dir) : Ut := seg (C48 M) (H M) 0 Z body plans (K M) q
set_option maxRecDepth 100000
theorem g1 (M : Nat) (Z : Zt) (aa0_0 : (List api_Letter)) (ra1_0 : Int) (i5_1 : Int) : gA M Z Qt1 (S1 aa0_0 ra1_0 i5_1) = s1 M
    (fun aa0_0 ra1_0 i5_1 => Z Qt1 (S1 aa0_0 ra1_0 i5_1)) aa0_0 ra1_0 i5_1 := by kernel_rfl
theorem g (M : Nat) (Z : Zt) (aa0_0 : (List api_Letter)) (ra1_0 : Int) : runZ (C48 M) (extZ (C48 M) (H M) 0) Z body plans (start (argHs ps (aa0_0, ra1_0)) Tryd.f48.ntmps 20) (K M) = s M
    (fun aa0_0 ra1_0 i5_1 => Z Qt1 (S1 aa0_0 ra1_0 i5_1)) aa0_0 ra1_0 := by kernel_rfl
theorem el1 (M : Nat) (k : Nat) (aa0_0 : (List api_Letter)) (ra1_0 : Int) (i5_1 : Int) : lA M (zlq Qt1 []) Qt1 k (S1 aa0_0 ra1_0 i5_1) = l1 M k aa0_0 ra1_0 i5_1 := by
  induction k generalizing aa0_0 ra1_0 i5_1 with
  | zero => kernel_rfl
  | succ k ih =>
    refine Eq.trans (b := lA M (zlq Qt1 [lA M (zlq Qt1 []) Qt1 k]) Qt1 (k + 1) (S1 aa0_0 ra1_0 i5_1)) (by kernel_rfl) ?_
    refine (seg_loop (Hok M) 0 Qt1 body plans (K M) _ (S1 aa0_0 ra1_0 i5_1) (around_zlq _ _ (by kernel_rfl)) (by kernel_rfl) (by kernel_rfl)).trans ?_
    refine (g1 M _ aa0_0 ra1_0 i5_1).trans ?_
    have x0 := (funext fun aa0_0 => funext fun ra1_0 => funext fun i5_1 => Eq.trans (b := lA M (zlq Qt1 []) Qt1 k (S1 aa0_0 ra1_0 i5_1)) (by kernel_rfl) (ih aa0_0 ra1_0 i5_1) : (fun aa0_0 ra1_0 i5_1 => zA M (zlq Qt1 [lA M (zlq Qt1 []) Qt1 k]) Qt1 (S1 aa0_0 ra1_0 i5_1)) = l1 M k)
    rw [x0]; rfl
theorem e1 (M : Nat) (aa0_0 : (List api_Letter)) (ra1_0 : Int) (i5_1 : Int) : zA M (zlq Qt1 []) Qt1 (S1 aa0_0 ra1_0 i5_1) = l1 M M aa0_0 ra1_0 i5_1 :=
  Eq.trans (b := lA M (zlq Qt1 []) Qt1 M (S1 aa0_0 ra1_0 i5_1)) (by kernel_rfl) (el1 M M aa0_0 ra1_0 i5_1)
theorem run (M : Nat) (aa0_0 : (List api_Letter)) (ra1_0 : Int) : runF (rs := rs) (C48 M) (X M) M body Tryd.f48.ntmps 20 Tryd.f48.results.toList plans ps ex (aa0_0, ra1_0) = pentaglotref06_Index M aa0_0 ra1_0 := by
  refine Eq.trans (b := runC (C48 M) (X M) M body plans (start (argHs ps (aa0_0, ra1_0)) Tryd.f48.ntmps 20) (K M)) (by kernel_rfl) ?_
  refine (zrun (Hok M) 0 body plans _ (K M) (fun _ => none) fun _ => rfl).symm.trans ?_
  refine (g M _ aa0_0 ra1_0).trans ?_
  have x0 := (funext fun aa0_0 => funext fun ra1_0 => funext fun i5_1 => Eq.trans (b := zA M (zlq Qt1 []) Qt1 (S1 aa0_0 ra1_0 i5_1)) (by kernel_rfl) (e1 M aa0_0 ra1_0 i5_1) : (fun aa0_0 ra1_0 i5_1 => zA M (fun _ => none) Qt1 (S1 aa0_0 ra1_0 i5_1)) = l1 M M)
  rw [x0]; rfl
noncomputable def sig (M : Nat) : Sig E := { ps := ps, rs := rs, ex := ex, fn := fun x => pentaglotref06_Index M x.1 x.2 }
theorem says (M : Nat) : callable Tryd.prog 48 = true ∧ ∀ x y, (sig M).fn x = some y → Says Tryd.prog 48 (sig M) x y := by
  refine ⟨by kernel_rfl, fun x y h => ?_⟩
  refine says_of_run (S := sig M) (C := C48 M) (X := X M) (M := M) (q := 20) (plans := plans) (COk_Tryd) (SigOk_C48 M) (ItOk_C48 M) (by kernel_rfl) (callOk_ext COk_Tryd (SigOk_C48 M) (ItOk_C48 M) (by kernel_rfl) inl_ok.ok (RSigOk_C48 M) (fun _ => callOk_none) M 1) (Tryd.func48) (body := body) (by kernel_rfl) (by kernel_rfl) ?_
  obtain ⟨aa0_0, ra1_0⟩ := x
  exact (run M aa0_0 ra1_0).trans h
end pentaglotref06_Index
end Go.Ai.Pav
end
set_option linter.unusedVariables false
set_option linter.unusedSectionVars false
noncomputable section
namespace Go.Ai.Pav
open Go Go.Ai Go.Proofs
noncomputable def sigs32 (M : Nat) : List (Nat × Sig E) := [(47, pentaglotref06_code.sig M), (48, pentaglotref06_Index.sig M)]
noncomputable def rs32 (M : Nat) : List (Nat × Sig E) := []
noncomputable def its32 (M : Nat) : List (Nat × It E) := []
theorem sigs_ok32 (M : Nat) : SigsOk Tryd.prog (sigs32 M) := SigsOk.cons (pentaglotref06_code.says M) (SigsOk.cons (pentaglotref06_Index.says M) (SigsOk.nil))
theorem rs_ok32 (M : Nat) : SigsOk Tryd.prog (rs32 M) := SigsOk.nil
theorem its_ok32 (M : Nat) : ItsOk Tryd.prog (its32 M) := ItsOk.nil
noncomputable def C32 (M : Nat) : Ctx E := { ti := fun t => tisE.lookup t, sig := fun f => (sigs32 M).lookup f, it := fun f => (its32 M).lookup f, nt := 32 }
theorem SigOk_C32 (M : Nat) : SigOk Tryd.prog (C32 M) := sigs_ok32 M
theorem RSigOk_C32 (M : Nat) : SigOk Tryd.prog ({ ti := fun _ => none, sig := fun f => (rs32 M).lookup f } : Ctx E) := rs_ok32 M
theorem ItOk_C32 (M : Nat) : ItOk Tryd.prog (C32 M) := (its_ok32 M).ok
namespace pentaglotref06_Proper
noncomputable def plans : List (Option (Plan Nm)) := [none, none, none, none, none, some { tmps := [(0, .asis), (3, .asis)], boxes := [] }, none, none, none, none, none, none, none]
noncomputable abbrev body : Code := bodyOf Tryd.f32
def ps : List (Ty Nm) := [(.sl (.st .api_Letter))]
def rs : List (Ty Nm) := [.bool]
def ex : List (Option Nat) := [none]
noncomputable def inl : List (Nat × Nat × Nat × Inl Nm) := []
theorem inl_ok : InlsOk Tryd.prog inl := InlsOk.nil
noncomputable def X (M : Nat) : Ext E Bool := extOf (C32 M) (inlOf inl) (fun f => (rs32 M).lookup f) (fun _ _ _ => none) noX M 1
abbrev Rt := Bool
noncomputable def H (M : Nat) : Hd E Rt := hd0 (X M)
theorem Hok (M : Nat) : (H M).ok (C32 M) M := hd0_ok _
abbrev Qt1 : List Dir := [.r, .r, .l, .r, .k]
abbrev Ht1 := (List api_Letter) → Int → Option Rt
abbrev Zt := List Dir → St E → Option Rt
abbrev Ut := St E → Option Rt
noncomputable def s1 (M : Nat) (h1 : Ht1) (aa0_0 : (List api_Letter)) (i3_1 : Int) : Option Rt :=
  cond (decide (i3_1 < (aa0_0.length : Int)))
   (cond (decide (0 ≤ i3_1) && decide (i3_1 < (aa0_0.length : Int)))
     (Option.bind (pentaglotref06_code M ((aa0_0.getD i3_1.toNat default).fRune)) fun r18_15 =>
      cond (!r18_15)
       (some false)
       (cond (decide (0 ≤ i3_1) && decide (i3_1 ≤ (aa0_0.length : Int)))
         (cond (decide (0 ≤ i3_1) && decide (i3_1 < (aa0_0.length : Int)))
           (Option.bind (pentaglotref06_Index M (aa0_0.take i3_1.toNat) ((aa0_0.getD i3_1.toNat default).fRune)) fun r29_16 =>
            cond (decide (0 ≤ r29_16))
             (some false)
             (h1 aa0_0 (IntKind.i64.wrap (i3_1 + 1))))
           none)
         none))
     none)
   (some true)
noncomputable def l1 (M : Nat) : Nat → Ht1
  | 0, _, _ => none
  | k + 1, aa0_0, i3_1 => s1 M (l1 M k) aa0_0 i3_1
noncomputable def s (M : Nat) (h1 : Ht1) (aa0_0 : (List api_Letter)) : Option Rt :=
  cond (decide (65 < (aa0_0.length : Int)))
   (some false)
   (h1 aa0_0 0)
end pentaglotref06_Proper
noncomputable def pentaglotref06_Proper (M : Nat) (aa0_0 : (List api_Letter)) : Option Bool :=
  pentaglotref06_Proper.s M (pentaglotref06_Proper.l1 M M) aa0_0
namespace pentaglotref06_Proper
noncomputable def S1 (aa0_0 : (List api_Letter)) (i3_1 : Int) : St E :=
  mkSt 32 32 [(0, .one (.tv (.sl (.st .api_Letter) aa0_0))), (3, .one (.tv (.int .i64 i3_1)))] [] 0 [] [] false
noncomputable def K (M : Nat) : Cont E Bool := kRet (C32 M) Tryd.f32.results.toList rs ex
noncomputable abbrev zA (M : Nat) (ZL : List Dir → Option (Ut)) (q : List Dir) : Ut := zAt (C32 M) (H M) M 0 ZL body plans (K M) q
noncomputable abbrev lA (M : Nat) (ZL : List Dir → Option (Ut)) (q : List Dir) (k : Nat) : Ut := lpAt (C32 M) (H M) M 0 ZL body plans (K M) q k
noncomputable abbrev gA (M : Nat) (Z : Zt) (q : List Dir) : Ut := seg (C32 M) (H M) 0 Z body plans (K M) q
set_option maxRecDepth 100000
theorem g1 (M : Nat) (Z : Zt) (aa0_0 : (List api_Letter)) (i3_1 : Int) : gA M Z Qt1 (S1 aa0_0 i3_1) = s1 M
    (fun aa0_0 i3_1 => Z Qt1 (S1 aa0_0 i3_1)) aa0_0 i3_1 := by kernel_rfl
theorem g (M : Nat) (Z : Zt) (aa0_0 : (List api_Letter)) : runZ (C32 M) (extZ (C32 M) (H M) 0) Z body plans (start (argHs ps aa0_0) Tryd.f32.ntmps 32) (K M) = s M
    (fun aa0_0 i3_1 => Z Qt1 (S1 aa0_0 i3_1)) aa0_0 := by kernel_rfl
theorem el1 (M : Nat) (k : Nat) (aa0_0 : (List api_Letter)) (i3_1 : Int) : lA M (zlq Qt1 []) Qt1 k (S1 aa0_0 i3_1) = l1 M k aa0_0 i3_1 := by
  induction k generalizing aa0_0 i3_1 with
  | zero => kernel_rfl
  | succ k ih =>
    refine Eq.trans (b := lA M (zlq Qt1 [lA M (zlq Qt1 []) Qt1 k]) Qt1 (k + 1) (S1 aa0_0 i3_1)) (by kernel_rfl) ?_
    refine (seg_loop (Hok M) 0 Qt1 body plans (K M) _ (S1 aa0_0 i3_1) (around_zlq _ _ (by kernel_rfl)) (by kernel_rfl) (by kernel_rfl)).trans ?_
    refine (g1 M _ aa0_0 i3_1).trans ?_
    have x0 := (funext fun aa0_0 => funext fun i3_1 => Eq.trans (b := lA M (zlq Qt1 []) Qt1 k (S1 aa0_0 i3_1)) (by kernel_rfl) (ih aa0_0 i3_1) : (fun aa0_0 i3_1 => zA M (zlq Qt1 [lA M (zlq Qt1 []) Qt1 k]) Qt1 (S1 aa0_0 i3_1)) = l1 M k)
    rw [x0]; rfl
theorem e1 (M : Nat) (aa0_0 : (List api_Letter)) (i3_1 : Int) : zA M (zlq Qt1 []) Qt1 (S1 aa0_0 i3_1) = l1 M M aa0_0 i3_1 :=
  Eq.trans (b := lA M (zlq Qt1 []) Qt1 M (S1 aa0_0 i3_1)) (by kernel_rfl) (el1 M M aa0_0 i3_1)
theorem run (M : Nat) (aa0_0 : (List api_Letter)) : runF (rs := rs) (C32 M) (X M) M body Tryd.f32.ntmps 32 Tryd.f32.results.toList plans ps ex aa0_0 = pentaglotref06_Proper M aa0_0 := by
  refine Eq.trans (b := runC (C32 M) (X M) M body plans (start (argHs ps aa0_0) Tryd.f32.ntmps 32) (K M)) (by kernel_rfl) ?_
  refine (zrun (Hok M) 0 body plans _ (K M) (fun _ => none) fun _ => rfl).symm.trans ?_
  refine (g M _ aa0_0).trans ?_
  have x0 := (funext fun aa0_0 => funext fun i3_1 => Eq.trans (b := zA M (zlq Qt1 []) Qt1 (S1 aa0_0 i3_1)) (by kernel_rfl) (e1 M aa0_0 i3_1) : (fun aa0_0 i3_1 => zA M (fun _ => none) Qt1 (S1 aa0_0 i3_1)) = l1 M M)
  rw [x0]; rfl
noncomputable def sig (M : Nat) : Sig E := { ps := ps, rs := rs, ex := ex, fn := fun x => pentaglotref06_Proper M x }
theorem says (M : Nat) : callable Tryd.prog 32 = true ∧ ∀ x y, (sig M).fn x = some y → Says Tryd.prog 32 (sig M) x y := by
  refine ⟨by kernel_rfl, fun x y h => ?_⟩
  refine says_of_run (S := sig M) (C := C32 M) (X := X M) (M := M) (q := 32) (plans := plans) (COk_Tryd) (SigOk_C32 M) (ItOk_C32 M) (by kernel_rfl) (callOk_ext COk_Tryd (SigOk_C32 M) (ItOk_C32 M) (by kernel_rfl) inl_ok.ok (RSigOk_C32 M) (fun _ => callOk_none) M 1) (Tryd.func32) (body := body) (by kernel_rfl) (by kernel_rfl) ?_
  exact (run M x).trans h
end pentaglotref06_Proper
end Go.Ai.Pav
end
set_option linter.unusedVariables false
set_option linter.unusedSectionVars false
noncomputable section
namespace Go.Ai.Pav
open Go Go.Ai Go.Proofs
noncomputable def sigs17 (M : Nat) : List (Nat × Sig E) := [(32, pentaglotref06_Proper.sig M)]
noncomputable def rs17 (M : Nat) : List (Nat × Sig E) := []
noncomputable def its17 (M : Nat) : List (Nat × It E) := []
theorem sigs_ok17 (M : Nat) : SigsOk Tryd.prog (sigs17 M) := SigsOk.cons (pentaglotref06_Proper.says M) (SigsOk.nil)
theorem rs_ok17 (M : Nat) : SigsOk Tryd.prog (rs17 M) := SigsOk.nil
theorem its_ok17 (M : Nat) : ItsOk Tryd.prog (its17 M) := ItsOk.nil
noncomputable def C17 (M : Nat) : Ctx E := { ti := fun t => tisE.lookup t, sig := fun f => (sigs17 M).lookup f, it := fun f => (its17 M).lookup f, nt := 15 }
theorem SigOk_C17 (M : Nat) : SigOk Tryd.prog (C17 M) := sigs_ok17 M
theorem RSigOk_C17 (M : Nat) : SigOk Tryd.prog ({ ti := fun _ => none, sig := fun f => (rs17 M).lookup f } : Ctx E) := rs_ok17 M
theorem ItOk_C17 (M : Nat) : ItOk Tryd.prog (C17 M) := (its_ok17 M).ok
namespace pentaglotref10_Alphabet
noncomputable def plans : List (Option (Plan Nm)) := [none, none]
noncomputable abbrev body : Code := bodyOf Tryd.f17
def ps : List (Ty Nm) := [(.sl (.st .api_Letter))]
def rs : List (Ty Nm) := [.bool]
def ex : List (Option Nat) := [none]
noncomputable def inl : List (Nat × Nat × Nat × Inl Nm) := []
theorem inl_ok : InlsOk Tryd.prog inl := InlsOk.nil
noncomputable def X (M : Nat) : Ext E Bool := extOf (C17 M) (inlOf inl) (fun f => (rs17 M).lookup f) (fun _ _ _ => none) noX M 1
abbrev Rt := Bool
noncomputable def H (M : Nat) : Hd E Rt := hd0 (X M)
theorem Hok (M : Nat) : (H M).ok (C17 M) M := hd0_ok _
abbrev Zt := List Dir → St E → Option Rt
abbrev Ut := St E → Option Rt
noncomputable def s (M : Nat) (aa0_0 : (List api_Letter)) : Option Rt :=
  cond (decide (1 ≤ (aa0_0.length : Int)))
   (cond (decide ((aa0_0.length : Int) ≤ 64))
     (Option.bind (pentaglotref06_Proper M aa0_0) fun r13_1 =>
      some r13_1)
     (some false))
   (some false)
end pentaglotref10_Alphabet
noncomputable def pentaglotref10_Alphabet (M : Nat) (aa0_0 : (List api_Letter)) : Option Bool :=
  pentaglotref10_Alphabet.s M aa0_0
namespace pentaglotref10_Alphabet
noncomputable def K (M : Nat) : Cont E Bool := kRet (C17 M) Tryd.f17.results.toList rs ex
set_option maxRecDepth 100000
theorem g (M : Nat) (Z : Zt) (aa0_0 : (List api_Letter)) : runZ (C17 M) (extZ (C17 M) (H M) 0) Z body plans (start (argHs ps aa0_0) Tryd.f17.ntmps 15) (K M) = s M aa0_0 := by kernel_rfl
theorem run (M : Nat) (aa0_0 : (List api_Letter)) : runF (rs := rs) (C17 M) (X M) M body Tryd.f17.ntmps 15 Tryd.f17.results.toList plans ps ex aa0_0 = pentaglotref10_Alphabet M aa0_0 := by
  refine Eq.trans (b := runC (C17 M) (X M) M body plans (start (argHs ps aa0_0) Tryd.f17.ntmps 15) (K M)) (by kernel_rfl) ?_
  refine (zrun (Hok M) 0 body plans _ (K M) (fun _ => none) fun _ => rfl).symm.trans ?_
  refine (g M _ aa0_0).trans ?_
  rfl
noncomputable def sig (M : Nat) : Sig E := { ps := ps, rs := rs, ex := ex, fn := fun x => pentaglotref10_Alphabet M x }
theorem says (M : Nat) : callable Tryd.prog 17 = true ∧ ∀ x y, (sig M).fn x = some y → Says Tryd.prog 17 (sig M) x y := by
  refine ⟨by kernel_rfl, fun x y h => ?_⟩
  refine says_of_run (S := sig M) (C := C17 M) (X := X M) (M := M) (q := 15) (plans := plans) (COk_Tryd) (SigOk_C17 M) (ItOk_C17 M) (by kernel_rfl) (callOk_ext COk_Tryd (SigOk_C17 M) (ItOk_C17 M) (by kernel_rfl) inl_ok.ok (RSigOk_C17 M) (fun _ => callOk_none) M 1) (Tryd.func17) (body := body) (by kernel_rfl) (by kernel_rfl) ?_
  exact (run M x).trans h
end pentaglotref10_Alphabet
end Go.Ai.Pav
end
set_option linter.unusedVariables false
set_option linter.unusedSectionVars false
noncomputable section
namespace Go.Ai.Pav
open Go Go.Ai Go.Proofs
noncomputable def sigs18 (M : Nat) : List (Nat × Sig E) := []
noncomputable def rs18 (M : Nat) : List (Nat × Sig E) := []
noncomputable def its18 (M : Nat) : List (Nat × It E) := []
theorem sigs_ok18 (M : Nat) : SigsOk Tryd.prog (sigs18 M) := SigsOk.nil
theorem rs_ok18 (M : Nat) : SigsOk Tryd.prog (rs18 M) := SigsOk.nil
theorem its_ok18 (M : Nat) : ItsOk Tryd.prog (its18 M) := ItsOk.nil
noncomputable def C18 (M : Nat) : Ctx E := { ti := fun t => tisE.lookup t, sig := fun f => (sigs18 M).lookup f, it := fun f => (its18 M).lookup f, nt := 35 }
theorem SigOk_C18 (M : Nat) : SigOk Tryd.prog (C18 M) := sigs_ok18 M
theorem RSigOk_C18 (M : Nat) : SigOk Tryd.prog ({ ti := fun _ => none, sig := fun f => (rs18 M).lookup f } : Ctx E) := rs_ok18 M
theorem ItOk_C18 (M : Nat) : ItOk Tryd.prog (C18 M) := (its_ok18 M).ok
namespace pentaglotref02_Name
noncomputable def plans : List (Option (Plan Nm)) := [none, none, some { tmps := [(0, .asis), (3, .asis)], boxes := [] }, none, none, none, some { tmps := [(0, .asis), (3, .asis), (31, .asis)], boxes := [] }, none, none, some { tmps := [(0, .asis)], boxes := [] }, none]
noncomputable abbrev body : Code := bodyOf Tryd.f18
def ps : List (Ty Nm) := [.str]
def rs : List (Ty Nm) := [.bool]
def ex : List (Option Nat) := [none]
noncomputable def inl : List (Nat × Nat × Nat × Inl Nm) := []
theorem inl_ok : InlsOk Tryd.prog inl := InlsOk.nil
noncomputable def X (M : Nat) : Ext E Bool := extOf (C18 M) (inlOf inl) (fun f => (rs18 M).lookup f) (fun _ _ _ => none) noX M 1
abbrev Rt := Bool
noncomputable def H (M : Nat) : Hd E Rt := hd0 (X M)
theorem Hok (M : Nat) : (H M).ok (C18 M) M := hd0_ok _
abbrev Qt2 : List Dir := [.r, .l, .r, .k, .L, .r, .l, .k, .r]
abbrev Ht2 := Int → (List UInt8) → Bool → Option Rt
abbrev Qt3 : List Dir := [.r]
abbrev Ht3 := (List UInt8) → Option Rt
abbrev Qt1 : List Dir := [.r, .l, .r, .k]
abbrev Ht1 := (List UInt8) → Int → Option Rt
abbrev Zt := List Dir → St E → Option Rt
abbrev Ut := St E → Option Rt
noncomputable def s2 (M : Nat) (h1 : Ht1) (i3_1 : Int) (sa0_0 : (List UInt8)) (x31_2 : Bool) : Option Rt :=
  cond (x31_2)
   (some false)
   (h1 sa0_0 (IntKind.i64.wrap (i3_1 + 1)))
noncomputable def j2 (M : Nat) (h1 : Ht1) (i3_1 : Int) (sa0_0 : (List UInt8)) (x31_2 : Bool) : Option Rt :=
  s2 M h1 i3_1 sa0_0 x31_2
noncomputable def s3 (M : Nat) (sa0_0 : (List UInt8)) : Option Rt :=
  some (decide (0 < (sa0_0.length : Int)))
noncomputable def j3 (M : Nat) (sa0_0 : (List UInt8)) : Option Rt :=
  s3 M sa0_0
noncomputable def s1 (M : Nat) (h2 : Ht2) (h3 : Ht3) (sa0_0 : (List UInt8)) (i3_1 : Int) : Option Rt :=
  cond (decide (i3_1 < (sa0_0.length : Int)))
   (cond (decide (0 ≤ i3_1) && decide (i3_1 < (sa0_0.length : Int)))
     (cond (decide ((bt sa0_0 i3_1.toNat) < 97))
       (cond (decide ((bt sa0_0 i3_1.toNat) < 48))
         (h2 i3_1 sa0_0 (!decide ((bt sa0_0 i3_1.toNat) = 45)))
         (cond (decide (57 < (bt sa0_0 i3_1.toNat)))
           (h2 i3_1 sa0_0 (!decide ((bt sa0_0 i3_1.toNat) = 45)))
           (h2 i3_1 sa0_0 false)))
       (cond (decide (122 < (bt sa0_0 i3_1.toNat)))
         (cond (decide ((bt sa0_0 i3_1.toNat) < 48))
           (h2 i3_1 sa0_0 (!decide ((bt sa0_0 i3_1.toNat) = 45)))
           (cond (decide (57 < (bt sa0_0 i3_1.toNat)))
             (h2 i3_1 sa0_0 (!decide ((bt sa0_0 i3_1.toNat) = 45)))
             (h2 i3_1 sa0_0 false)))
         (h2 i3_1 sa0_0 false)))
     none)
   (h3 sa0_0)
noncomputable def l1 (M : Nat) : Nat → Ht1
  | 0, _, _ => none
  | k + 1, sa0_0, i3_1 => s1 M (j2 M (l1 M k)) (j3 M) sa0_0 i3_1
noncomputable def s (M : Nat) (h1 : Ht1) (sa0_0 : (List UInt8)) : Option Rt :=
  h1 sa0_0 0
end pentaglotref02_Name
noncomputable def pentaglotref02_Name (M : Nat) (sa0_0 : (List UInt8)) : Option Bool :=
  pentaglotref02_Name.s M (pentaglotref02_Name.l1 M M) sa0_0
namespace pentaglotref02_Name
noncomputable def S2 (i3_1 : Int) (sa0_0 : (List UInt8)) (x31_2 : Bool) : St E :=
  mkSt 35 35 [(0, .one (.tv (.str sa0_0))), (3, .one (.tv (.int .i64 i3_1))), (31, .one (.tv (.bool x31_2)))] [] 0 [] [] false
noncomputable def S3 (sa0_0 : (List UInt8)) : St E :=
  mkSt 35 35 [(0, .one (.tv (.str sa0_0)))] [] 0 [] [] false
noncomputable def S1 (sa0_0 : (List UInt8)) (i3_1 : Int) : St E :=
  mkSt 35 35 [(0, .one (.tv (.str sa0_0))), (3, .one (.tv (.int .i64 i3_1)))] [] 0 [] [] false
noncomputable def K (M : Nat) : Cont E Bool := kRet (C18 M) Tryd.f18.results.toList rs ex
noncomputable abbrev zA (M : Nat) (ZL : List Dir → Option (Ut)) (q : List Dir) : Ut := zAt (C18 M) (H M) M 0 ZL body plans (K M) q
noncomputable abbrev lA (M : Nat) (ZL : List Dir → Option (Ut)) (q : List Dir) (k : Nat) : Ut := lpAt (C18 M) (H M) M 0 ZL body plans (K M) q k
noncomputable abbrev gA (M : Nat) (Z : Zt) (q : List Dir) : Ut := seg (C18 M) (H M) 0 Z body plans (K M) q
set_option maxRecDepth 100000
theorem g2 (M : Nat) (Z : Zt) (i3_1 : Int) (sa0_0 : (List UInt8)) (x31_2 : Bool) : gA M Z Qt2 (S2 i3_1 sa0_0 x31_2) = s2 M
    (fun sa0_0 i3_1 => Z Qt1 (S1 sa0_0 i3_1)) i3_1 sa0_0 x31_2 := by kernel_rfl
theorem g3 (M : Nat) (Z : Zt) (sa0_0 : (List UInt8)) : gA M Z Qt3 (S3 sa0_0) = s3 M sa0_0 := by kernel_rfl
theorem g1 (M : Nat) (Z : Zt) (sa0_0 : (List UInt8)) (i3_1 : Int) : gA M Z Qt1 (S1 sa0_0 i3_1) = s1 M
    (fun i3_1 sa0_0 x31_2 => Z Qt2 (S2 i3_1 sa0_0 x31_2))
    (fun sa0_0 => Z Qt3 (S3 sa0_0)) sa0_0 i3_1 := by kernel_rfl
theorem g (M : Nat) (Z : Zt) (sa0_0 : (List UInt8)) : runZ (C18 M) (extZ (C18 M) (H M) 0) Z body plans (start (argHs ps sa0_0) Tryd.f18.ntmps 35) (K M) = s M
    (fun sa0_0 i3_1 => Z Qt1 (S1 sa0_0 i3_1)) sa0_0 := by kernel_rfl
theorem e2 (M : Nat) (Z1 : Ut) (h1 : Ht1) (hZ1 : ∀ (sa0_0 : (List UInt8)) (i3_1 : Int), Z1 (S1 sa0_0 i3_1) = h1 sa0_0 i3_1) (i3_1 : Int) (sa0_0 : (List UInt8)) (x31_2 : Bool) : zA M (zlq Qt2 [Z1]) Qt2 (S2 i3_1 sa0_0 x31_2) = j2 M h1 i3_1 sa0_0 x31_2 := by
  refine (seg_join (Hok M) 0 Qt2 body plans (K M) _ (S2 i3_1 sa0_0 x31_2) (around_zlq _ _ (by kernel_rfl)) (by kernel_rfl)).trans ?_
  refine (g2 M _ i3_1 sa0_0 x31_2).trans ?_
  have x0 := (funext fun sa0_0 => funext fun i3_1 => Eq.trans (b := Z1 (S1 sa0_0 i3_1)) (by kernel_rfl) (hZ1 sa0_0 i3_1) : (fun sa0_0 i3_1 => zA M (zlq Qt2 [Z1]) Qt1 (S1 sa0_0 i3_1)) = h1)
  rw [x0]; rfl
theorem e3 (M : Nat) (sa0_0 : (List UInt8)) : zA M (zlq Qt3 []) Qt3 (S3 sa0_0) = j3 M sa0_0 := by
  refine (seg_join (Hok M) 0 Qt3 body plans (K M) _ (S3 sa0_0) (around_zlq _ _ (by kernel_rfl)) (by kernel_rfl)).trans ?_
  refine (g3 M _ sa0_0).trans ?_
  rfl
theorem el1 (M : Nat) (k : Nat) (sa0_0 : (List UInt8)) (i3_1 : Int) : lA M (zlq Qt1 []) Qt1 k (S1 sa0_0 i3_1) = l1 M k sa0_0 i3_1 := by
  induction k generalizing sa0_0 i3_1 with
  | zero => kernel_rfl
  | succ k ih =>
    refine Eq.trans (b := lA M (zlq Qt1 [lA M (zlq Qt1 []) Qt1 k]) Qt1 (k + 1) (S1 sa0_0 i3_1)) (by kernel_rfl) ?_
    refine (seg_loop (Hok M) 0 Qt1 body plans (K M) _ (S1 sa0_0 i3_1) (around_zlq _ _ (by kernel_rfl)) (by kernel_rfl) (by kernel_rfl)).trans ?_
    refine (g1 M _ sa0_0 i3_1).trans ?_
    have x0 := (funext fun i3_1 => funext fun sa0_0 => funext fun x31_2 => Eq.trans (b := zA M (zlq Qt2 [(lA M (zlq Qt1 []) Qt1 k)]) Qt2 (S2 i3_1 sa0_0 x31_2)) (by kernel_rfl) (e2 M (lA M (zlq Qt1 []) Qt1 k) (l1 M k) (fun sa0_0 i3_1 => ih sa0_0 i3_1) i3_1 sa0_0 x31_2) : (fun i3_1 sa0_0 x31_2 => zA M (zlq Qt1 [lA M (zlq Qt1 []) Qt1 k]) Qt2 (S2 i3_1 sa0_0 x31_2)) = j2 M (l1 M k))
    have x1 := (funext fun sa0_0 => Eq.trans (b := zA M (zlq Qt3 []) Qt3 (S3 sa0_0)) (by kernel_rfl) (e3 M sa0_0) : (fun sa0_0 => zA M (zlq Qt1 [lA M (zlq Qt1 []) Qt1 k]) Qt3 (S3 sa0_0)) = j3 M)
    rw [x0, x1]; rfl
theorem e1 (M : Nat) (sa0_0 : (List UInt8)) (i3_1 : Int) : zA M (zlq Qt1 []) Qt1 (S1 sa0_0 i3_1) = l1 M M sa0_0 i3_1 :=
  Eq.trans (b := lA M (zlq Qt1 []) Qt1 M (S1 sa0_0 i3_1)) (by kernel_rfl) (el1 M M sa0_0 i3_1)
theorem run (M : Nat) (sa0_0 : (List UInt8)) : runF (rs := rs) (C18 M) (X M) M body Tryd.f18.ntmps 35 Tryd.f18.results.toList plans ps ex sa0_0 = pentaglotref02_Name M sa0_0 := by
  refine Eq.trans (b := runC (C18 M) (X M) M body plans (start (argHs ps sa0_0) Tryd.f18.ntmps 35) (K M)) (by kernel_rfl) ?_
  refine (zrun (Hok M) 0 body plans _ (K M) (fun _ => none) fun _ => rfl).symm.trans ?_
  refine (g M _ sa0_0).trans ?_
  have x0 := (funext fun sa0_0 => funext fun i3_1 => Eq.trans (b := zA M (zlq Qt1 []) Qt1 (S1 sa0_0 i3_1)) (by kernel_rfl) (e1 M sa0_0 i3_1) : (fun sa0_0 i3_1 => zA M (fun _ => none) Qt1 (S1 sa0_0 i3_1)) = l1 M M)
  rw [x0]; rfl
noncomputable def sig (M : Nat) : Sig E := { ps := ps, rs := rs, ex := ex, fn := fun x => pentaglotref02_Name M x }
theorem says (M : Nat) : callable Tryd.prog 18 = true ∧ ∀ x y, (sig M).fn x = some y → Says Tryd.prog 18 (sig M) x y := by
  refine ⟨by kernel_rfl, fun x y h => ?_⟩
  refine says_of_run (S := sig M) (C := C18 M) (X := X M) (M := M) (q := 35) (plans := plans) (COk_Tryd) (SigOk_C18 M) (ItOk_C18 M) (by kernel_rfl) (callOk_ext COk_Tryd (SigOk_C18 M) (ItOk_C18 M) (by kernel_rfl) inl_ok.ok (RSigOk_C18 M) (fun _ => callOk_none) M 1) (Tryd.func18) (body := body) (by kernel_rfl) (by kernel_rfl) ?_
  exact (run M x).trans h
end pentaglotref02_Name
end Go.Ai.Pav
end
set_option linter.unusedVariables false
set_option linter.unusedSectionVars false
noncomputable section
namespace Go.Ai.Pav
open Go Go.Ai Go.Proofs
noncomputable def sigs33 (M : Nat) : List (Nat × Sig E) := []
noncomputable def rs33 (M : Nat) : List (Nat × Sig E) := []
noncomputable def its33 (M : Nat) : List (Nat × It E) := []
theorem sigs_ok33 (M : Nat) : SigsOk Tryd.prog (sigs33 M) := SigsOk.nil
theorem rs_ok33 (M : Nat) : SigsOk Tryd.prog (rs33 M) := SigsOk.nil
theorem its_ok33 (M : Nat) : ItsOk Tryd.prog (its33 M) := ItsOk.nil
noncomputable def C33 (M : Nat) : Ctx E := { ti := fun t => tisE.lookup t, sig := fun f => (sigs33 M).lookup f, it := fun f => (its33 M).lookup f, nt := 18 }
theorem SigOk_C33 (M : Nat) : SigOk Tryd.prog (C33 M) := sigs_ok33 M
theorem RSigOk_C33 (M : Nat) : SigOk Tryd.prog ({ ti := fun _ => none, sig := fun f => (rs33 M).lookup f } : Ctx E) := rs_ok33 M
theorem ItOk_C33 (M : Nat) : ItOk Tryd.prog (C33 M) := (its_ok33 M).ok
namespace pentaglotref02_In
noncomputable def plans : List (Option (Plan Nm)) := [none, none, some { tmps := [(0, .asis), (1, .asis), (5, .asis)], boxes := [] }, none, none, none, none, none, none, none]
noncomputable abbrev body : Code := bodyOf Tryd.f33
def ps : List (Ty Nm) := [(.sl .str), .str]
def rs : List (Ty Nm) := [.bool]
def ex : List (Option Nat) := [none]
noncomputable def inl : List (Nat × Nat × Nat × Inl Nm) := []
theorem inl_ok : InlsOk Tryd.prog inl := InlsOk.nil
noncomputable def X (M : Nat) : Ext E Bool := extOf (C33 M) (inlOf inl) (fun f => (rs33 M).lookup f) (fun _ _ _ => none) noX M 1
abbrev Rt := Bool
noncomputable def H (M : Nat) : Hd E Rt := hd0 (X M)
theorem Hok (M : Nat) : (H M).ok (C33 M) M := hd0_ok _
abbrev Qt1 : List Dir := [.r, .l, .r, .k]
abbrev Ht1 := (List (List UInt8)) → (List UInt8) → Int → Option Rt
abbrev Zt := List Dir → St E → Option Rt
abbrev Ut := St E → Option Rt
noncomputable def s1 (M : Nat) (h1 : Ht1) (lista0_0 : (List (List UInt8))) (sa1_0 : (List UInt8)) (i5_1 : Int) : Option Rt :=
  cond (decide (i5_1 < (lista0_0.length : Int)))
   (cond (decide (0 ≤ i5_1) && decide (i5_1 < (lista0_0.length : Int)))
     (cond (decide ((lista0_0.getD i5_1.toNat default) = sa1_0))
       (some true)
       (h1 lista0_0 sa1_0 (IntKind.i64.wrap (i5_1 + 1))))
     none)
   (some false)
noncomputable def l1 (M : Nat) : Nat → Ht1
  | 0, _, _, _ => none
  | k + 1, lista0_0, sa1_0, i5_1 => s1 M (l1 M k) lista0_0 sa1_0 i5_1
noncomputable def s (M : Nat) (h1 : Ht1) (lista0_0 : (List (List UInt8))) (sa1_0 : (List UInt8)) : Option Rt :=
  h1 lista0_0 sa1_0 0
end pentaglotref02_In
noncomputable def pentaglotref02_In (M : Nat) (lista0_0 : (List (List UInt8))) (sa1_0 : (List UInt8)) : Option Bool :=
  pentaglotref02_In.s M (pentaglotref02_In.l1 M M) lista0_0 sa1_0
namespace pentaglotref02_In
noncomputable def S1 (lista0_0 : (List (List UInt8))) (sa1_0 : (List UInt8)) (i5_1 : Int) : St E :=
  mkSt 18 18 [(0, .one (.tv (.sl .str lista0_0))), (1, .one (.tv (.str sa1_0))), (5, .one (.tv (.int .i64 i5_1)))] [] 0 [] [] false
noncomputable def K (M : Nat) : Cont E Bool := kRet (C33 M) Tryd.f33.results.toList rs ex
noncomputable abbrev zA (M : Nat) (ZL : List Dir → Option (Ut)) (q : List Dir) : Ut := zAt (C33 M) (H M) M 0 ZL body plans (K M) q
noncomputable abbrev lA (M : Nat) (ZL : List Dir → Option (Ut)) (q : List Dir) (k : Nat) : Ut := lpAt (C33 M) (H M) M 0 ZL body plans (K M) q k
noncomputable abbrev gA (M : Nat) (Z : Zt) (q : List Dir) : Ut := seg (C33 M) (H M) 0 Z body plans (K M) q
set_option maxRecDepth 100000
theorem g1 (M : Nat) (Z : Zt) (lista0_0 : (List (List UInt8))) (sa1_0 : (List UInt8)) (i5_1 : Int) : gA M Z Qt1 (S1 lista0_0 sa1_0 i5_1) = s1 M
    (fun lista0_0 sa1_0 i5_1 => Z Qt1 (S1 lista0_0 sa1_0 i5_1)) lista0_0 sa1_0 i5_1 := by kernel_rfl
theorem g (M : Nat) (Z : Zt) (lista0_0 : (List (List UInt8))) (sa1_0 : (List UInt8)) : runZ (C33 M) (extZ (C33 M) (H M) 0) Z body plans (start (argHs ps (lista0_0, sa1_0)) Tryd.f33.ntmps 18) (K M) = s M
    (fun lista0_0 sa1_0 i5_1 => Z Qt1 (S1 lista0_0 sa1_0 i5_1)) lista0_0 sa1_0 := by kernel_rfl
theorem el1 (M : Nat) (k : Nat) (lista0_0 : (List (List UInt8))) (sa1_0 : (List UInt8)) (i5_1 : Int) : lA M (zlq Qt1 []) Qt1 k (S1 lista0_0 sa1_0 i5_1) = l1 M k lista0_0 sa1_0 i5_1 := by
  induction k generalizing lista0_0 sa1_0 i5_1 with
  | zero => kernel_rfl
  | succ k ih =>
    refine Eq.trans (b := lA M (zlq Qt1 [lA M (zlq Qt1 []) Qt1 k]) Qt1 (k + 1) (S1 lista0_0 sa1_0 i5_1)) (by kernel_rfl) ?_
    refine (seg_loop (Hok M) 0 Qt1 body plans (K M) _ (S1 lista0_0 sa1_0 i5_1) (around_zlq _ _ (by kernel_rfl)) (by kernel_rfl) (by kernel_rfl)).trans ?_
    refine (g1 M _ lista0_0 sa1_0 i5_1).trans ?_
    have x0 := (funext fun lista0_0 => funext fun sa1_0 => funext fun i5_1 => Eq.trans (b := lA M (zlq Qt1 []) Qt1 k (S1 lista0_0 sa1_0 i5_1)) (by kernel_rfl) (ih lista0_0 sa1_0 i5_1) : (fun lista0_0 sa1_0 i5_1 => zA M (zlq Qt1 [lA M (zlq Qt1 []) Qt1 k]) Qt1 (S1 lista0_0 sa1_0 i5_1)) = l1 M k)
    rw [x0]; rfl
theorem e1 (M : Nat) (lista0_0 : (List (List UInt8))) (sa1_0 : (List UInt8)) (i5_1 : Int) : zA M (zlq Qt1 []) Qt1 (S1 lista0_0 sa1_0 i5_1) = l1 M M lista0_0 sa1_0 i5_1 :=
  Eq.trans (b := lA M (zlq Qt1 []) Qt1 M (S1 lista0_0 sa1_0 i5_1)) (by kernel_rfl) (el1 M M lista0_0 sa1_0 i5_1)
theorem run (M : Nat) (lista0_0 : (List (List UInt8))) (sa1_0 : (List UInt8)) : runF (rs := rs) (C33 M) (X M) M body Tryd.f33.ntmps 18 Tryd.f33.results.toList plans ps ex (lista0_0, sa1_0) = pentaglotref02_In M lista0_0 sa1_0 := by
  refine Eq.trans (b := runC (C33 M) (X M) M body plans (start (argHs ps (lista0_0, sa1_0)) Tryd.f33.ntmps 18) (K M)) (by kernel_rfl) ?_
  refine (zrun (Hok M) 0 body plans _ (K M) (fun _ => none) fun _ => rfl).symm.trans ?_
  refine (g M _ lista0_0 sa1_0).trans ?_
  have x0 := (funext fun lista0_0 => funext fun sa1_0 => funext fun i5_1 => Eq.trans (b := zA M (zlq Qt1 []) Qt1 (S1 lista0_0 sa1_0 i5_1)) (by kernel_rfl) (e1 M lista0_0 sa1_0 i5_1) : (fun lista0_0 sa1_0 i5_1 => zA M (fun _ => none) Qt1 (S1 lista0_0 sa1_0 i5_1)) = l1 M M)
  rw [x0]; rfl
noncomputable def sig (M : Nat) : Sig E := { ps := ps, rs := rs, ex := ex, fn := fun x => pentaglotref02_In M x.1 x.2 }
theorem says (M : Nat) : callable Tryd.prog 33 = true ∧ ∀ x y, (sig M).fn x = some y → Says Tryd.prog 33 (sig M) x y := by
  refine ⟨by kernel_rfl, fun x y h => ?_⟩
  refine says_of_run (S := sig M) (C := C33 M) (X := X M) (M := M) (q := 18) (plans := plans) (COk_Tryd) (SigOk_C33 M) (ItOk_C33 M) (by kernel_rfl) (callOk_ext COk_Tryd (SigOk_C33 M) (ItOk_C33 M) (by kernel_rfl) inl_ok.ok (RSigOk_C33 M) (fun _ => callOk_none) M 1) (Tryd.func33) (body := body) (by kernel_rfl) (by kernel_rfl) ?_
  obtain ⟨lista0_0, sa1_0⟩ := x
  exact (run M lista0_0 sa1_0).trans h
end pentaglotref02_In
end Go.Ai.Pav
end
set_option linter.unusedVariables false
set_option linter.unusedSectionVars false
noncomputable section
namespace Go.Ai.Pav
open Go Go.Ai Go.Proofs
noncomputable def sigs19 (M : Nat) : List (Nat × Sig E) := [(18, pentaglotref02_Name.sig M), (33, pentaglotref02_In.sig M)]
noncomputable def rs19 (M : Nat) : List (Nat × Sig E) := []
noncomputable def its19 (M : Nat) : List (Nat × It E) := []
theorem sigs_ok19 (M : Nat) : SigsOk Tryd.prog (sigs19 M) := SigsOk.cons (pentaglotref02_Name.says M) (SigsOk.cons (pentaglotref02_In.says M) (SigsOk.nil))
theorem rs_ok19 (M : Nat) : SigsOk Tryd.prog (rs19 M) := SigsOk.nil
theorem its_ok19 (M : Nat) : ItsOk Tryd.prog (its19 M) := ItsOk.nil
noncomputable def C19 (M : Nat) : Ctx E := { ti := fun t => tisE.lookup t, sig := fun f => (sigs19 M).lookup f, it := fun f => (its19 M).lookup f, nt := 76 }
theorem SigOk_C19 (M : Nat) : SigOk Tryd.prog (C19 M) := sigs_ok19 M
theorem RSigOk_C19 (M : Nat) : SigOk Tryd.prog ({ ti := fun _ => none, sig := fun f => (rs19 M).lookup f } : Ctx E) := rs_ok19 M
theorem ItOk_C19 (M : Nat) : ItOk Tryd.prog (C19 M) := (its_ok19 M).ok
namespace pentaglotref02_Dimensions
noncomputable def plans : List (Option (Plan Nm)) := [none, none, none, none, none, some { tmps := [(0, .asis), (3, .asis)], boxes := [] }, none, none, none, none, none, none, none, some { tmps := [(0, .asis), (3, .asis), (4, .asis), (5, .asis)], boxes := [] }, none, none, none, none, none, some { tmps := [(0, .asis), (3, .asis), (4, .asis)], boxes := [] }, none, some { tmps := [(0, .asis), (3, .asis), (4, .asis), (6, .asis)], boxes := [] }, none, none, none, none, none, none, none, none]
noncomputable abbrev body : Code := bodyOf Tryd.f19
def ps : List (Ty Nm) := [(.sl (.st .api_Dimension))]
def rs : List (Ty Nm) := [.bool]
def ex : List (Option Nat) := [none]
noncomputable def inl : List (Nat × Nat × Nat × Inl Nm) := []
theorem inl_ok : InlsOk Tryd.prog inl := InlsOk.nil
noncomputable def X (M : Nat) : Ext E Bool := extOf (C19 M) (inlOf inl) (fun f => (rs19 M).lookup f) (fun _ _ _ => none) noX M 1
abbrev Rt := Bool
noncomputable def H (M : Nat) : Hd E Rt := hd0 (X M)
theorem Hok (M : Nat) : (H M).ok (C19 M) M := hd0_ok _
abbrev Qt4 : List Dir := [.r, .r, .l, .r, .k, .L, .r, .l, .k, .r, .r, .r, .r, .k]
abbrev Ht4 := (List api_Dimension) → Int → Int → Option Rt
abbrev Qt3 : List Dir := [.r, .r, .l, .r, .k, .L, .r, .l, .k, .r, .r]
abbrev Ht3 := (List api_Dimension) → Int → Option Rt
abbrev Qt2 : List Dir := [.r, .r, .l, .r, .k, .L, .r, .l, .k, .r, .r, .l, .r, .k]
abbrev Ht2 := (List api_Dimension) → Int → Int → Option Rt
abbrev Qt1 : List Dir := [.r, .r, .l, .r, .k]
abbrev Ht1 := (List api_Dimension) → Int → Option Rt
abbrev Zt := List Dir → St E → Option Rt
abbrev Ut := St E → Option Rt
noncomputable def s4 (M : Nat) (h1 : Ht1) (h4 : Ht4) (dimsa0_0 : (List api_Dimension)) (i3_1 : Int) (k6_4 : Int) : Option Rt :=
  cond (decide (k6_4 < (((dimsa0_0.getD i3_1.toNat default).fValues).length : Int)))
   (cond (decide (0 ≤ k6_4) && decide (k6_4 < (((dimsa0_0.getD i3_1.toNat default).fValues).length : Int)))
     (Option.bind (pentaglotref02_Name M (((dimsa0_0.getD i3_1.toNat default).fValues).getD k6_4.toNat default)) fun r64_79 =>
      cond (!r64_79)
       (some false)
       (cond (decide (0 ≤ k6_4) && decide (k6_4 ≤ (((dimsa0_0.getD i3_1.toNat default).fValues).length : Int)))
         (cond (decide (0 ≤ k6_4) && decide (k6_4 < (((dimsa0_0.getD i3_1.toNat default).fValues).length : Int)))
           (Option.bind (pentaglotref02_In M (((dimsa0_0.getD i3_1.toNat default).fValues).take k6_4.toNat) (((dimsa0_0.getD i3_1.toNat default).fValues).getD k6_4.toNat default)) fun r74_80 =>
            cond (r74_80)
             (some false)
             (h4 dimsa0_0 i3_1 (IntKind.i64.wrap (k6_4 + 1))))
           none)
         none))
     none)
   (h1 dimsa0_0 (IntKind.i64.wrap (i3_1 + 1)))
noncomputable def l4 (M : Nat) (h1 : Ht1) : Nat → Ht4
  | 0, _, _, _ => none
  | k + 1, dimsa0_0, i3_1, k6_4 => s4 M h1 (l4 M h1 k) dimsa0_0 i3_1 k6_4
noncomputable def s3 (M : Nat) (h4 : Ht4) (dimsa0_0 : (List api_Dimension)) (i3_1 : Int) : Option Rt :=
  h4 dimsa0_0 i3_1 0
noncomputable def j3 (M : Nat) (h1 : Ht1) (dimsa0_0 : (List api_Dimension)) (i3_1 : Int) : Option Rt :=
  s3 M (l4 M h1 M) dimsa0_0 i3_1
noncomputable def s2 (M : Nat) (h2 : Ht2) (h3 : Ht3) (dimsa0_0 : (List api_Dimension)) (i3_1 : Int) (k5_2 : Int) : Option Rt :=
  cond (decide (k5_2 < i3_1))
   (cond (decide (0 ≤ k5_2) && decide (k5_2 < (dimsa0_0.length : Int)))
     (cond (decide (0 ≤ i3_1) && decide (i3_1 < (dimsa0_0.length : Int)))
       (cond (decide (((dimsa0_0.getD k5_2.toNat default).fName) = ((dimsa0_0.getD i3_1.toNat default).fName)))
         (some false)
         (h2 dimsa0_0 i3_1 (IntKind.i64.wrap (k5_2 + 1))))
       none)
     none)
   (h3 dimsa0_0 i3_1)
noncomputable def l2 (M : Nat) (h1 : Ht1) : Nat → Ht2
  | 0, _, _, _ => none
  | k + 1, dimsa0_0, i3_1, k5_2 => s2 M (l2 M h1 k) (j3 M h1) dimsa0_0 i3_1 k5_2
noncomputable def s1 (M : Nat) (h2 : Ht2) (dimsa0_0 : (List api_Dimension)) (i3_1 : Int) : Option Rt :=
  cond (decide (i3_1 < (dimsa0_0.length : Int)))
   (cond (decide (0 ≤ i3_1) && decide (i3_1 < (dimsa0_0.length : Int)))
     (cond (decide (0 ≤ i3_1) && decide (i3_1 < (dimsa0_0.length : Int)))
       (Option.bind (pentaglotref02_Name M ((dimsa0_0.getD i3_1.toNat default).fName)) fun r26_64 =>
        cond (!r26_64)
         (some false)
         (cond (decide ((((dimsa0_0.getD i3_1.toNat default).fValues).length : Int) < 1))
           (some false)
           (cond (decide (8 < (((dimsa0_0.getD i3_1.toNat default).fValues).length : Int)))
             (some false)
             (h2 dimsa0_0 i3_1 0))))
       none)
     none)
   (some true)
noncomputable def l1 (M : Nat) : Nat → Ht1
  | 0, _, _ => none
  | k + 1, dimsa0_0, i3_1 => s1 M (l2 M (l1 M k) M) dimsa0_0 i3_1
noncomputable def s (M : Nat) (h1 : Ht1) (dimsa0_0 : (List api_Dimension)) : Option Rt :=
  cond (decide (4 < (dimsa0_0.length : Int)))
   (some false)
   (h1 dimsa0_0 0)
end pentaglotref02_Dimensions
noncomputable def pentaglotref02_Dimensions (M : Nat) (dimsa0_0 : (List api_Dimension)) : Option Bool :=
  pentaglotref02_Dimensions.s M (pentaglotref02_Dimensions.l1 M M) dimsa0_0
namespace pentaglotref02_Dimensions
noncomputable def S4 (dimsa0_0 : (List api_Dimension)) (i3_1 : Int) (k6_4 : Int) : St E :=
  mkSt 76 76 [(0, .one (.tv (.sl (.st .api_Dimension) dimsa0_0))), (3, .one (.tv (.int .i64 i3_1))), (4, .one (.tv (.sl .str ((dimsa0_0.getD i3_1.toNat default).fValues)))), (6, .one (.tv (.int .i64 k6_4)))] [] 0 [] [] false
noncomputable def S3 (dimsa0_0 : (List api_Dimension)) (i3_1 : Int) : St E :=
  mkSt 76 76 [(0, .one (.tv (.sl (.st .api_Dimension) dimsa0_0))), (3, .one (.tv (.int .i64 i3_1))), (4, .one (.tv (.sl .str ((dimsa0_0.getD i3_1.toNat default).fValues))))] [] 0 [] [] false
noncomputable def S2 (dimsa0_0 : (List api_Dimension)) (i3_1 : Int) (k5_2 : Int) : St E :=
  mkSt 76 76 [(0, .one (.tv (.sl (.st .api_Dimension) dimsa0_0))), (3, .one (.tv (.int .i64 i3_1))), (4, .one (.tv (.sl .str ((dimsa0_0.getD i3_1.toNat default).fValues)))), (5, .one (.tv (.int .i64 k5_2)))] [] 0 [] [] false
noncomputable def S1 (dimsa0_0 : (List api_Dimension)) (i3_1 : Int) : St E :=
  mkSt 76 76 [(0, .one (.tv (.sl (.st .api_Dimension) dimsa0_0))), (3, .one (.tv (.int .i64 i3_1)))] [] 0 [] [] false
noncomputable def K (M : Nat) : Cont E Bool := kRet (C19 M) Tryd.f19.results.toList rs ex
noncomputable abbrev zA (M : Nat) (ZL : List Dir → Option (Ut)) (q : List Dir) : Ut := zAt (C19 M) (H M) M 0 ZL body plans (K M) q
noncomputable abbrev lA (M : Nat) (ZL : List Dir → Option (Ut)) (q : List Dir) (k : Nat) : Ut := lpAt (C19 M) (H M) M 0 ZL body plans (K M) q k
noncomputable abbrev gA (M : Nat) (Z : Zt) (q : List Dir) : Ut := seg (C19 M) (H M) 0 Z body plans (K M) q
set_option maxRecDepth 100000
theorem g4 (M : Nat) (Z : Zt) (dimsa0_0 : (List api_Dimension)) (i3_1 : Int) (k6_4 : Int) : gA M Z Qt4 (S4 dimsa0_0 i3_1 k6_4) = s4 M
    (fun dimsa0_0 i3_1 => Z Qt1 (S1 dimsa0_0 i3_1))
    (fun dimsa0_0 i3_1 k6_4 => Z Qt4 (S4 dimsa0_0 i3_1 k6_4)) dimsa0_0 i3_1 k6_4 := by kernel_rfl
theorem g3 (M : Nat) (Z : Zt) (dimsa0_0 : (List api_Dimension)) (i3_1 : Int) : gA M Z Qt3 (S3 dimsa0_0 i3_1) = s3 M
    (fun dimsa0_0 i3_1 k6_4 => Z Qt4 (S4 dimsa0_0 i3_1 k6_4)) dimsa0_0 i3_1 := by kernel_rfl
theorem g2 (M : Nat) (Z : Zt) (dimsa0_0 : (List api_Dimension)) (i3_1 : Int) (k5_2 : Int) : gA M Z Qt2 (S2 dimsa0_0 i3_1 k5_2) = s2 M
    (fun dimsa0_0 i3_1 k5_2 => Z Qt2 (S2 dimsa0_0 i3_1 k5_2))
    (fun dimsa0_0 i3_1 => Z Qt3 (S3 dimsa0_0 i3_1)) dimsa0_0 i3_1 k5_2 := by kernel_rfl
theorem g1 (M : Nat) (Z : Zt) (dimsa0_0 : (List api_Dimension)) (i3_1 : Int) : gA M Z Qt1 (S1 dimsa0_0 i3_1) = s1 M
    (fun dimsa0_0 i3_1 k5_2 => Z Qt2 (S2 dimsa0_0 i3_1 k5_2)) dimsa0_0 i3_1 := by kernel_rfl
theorem g (M : Nat) (Z : Zt) (dimsa0_0 : (List api_Dimension)) : runZ (C19 M) (extZ (C19 M) (H M) 0) Z body plans (start (argHs ps dimsa0_0) Tryd.f19.ntmps 76) (K M) = s M
    (fun dimsa0_0 i3_1 => Z Qt1 (S1 dimsa0_0 i3_1)) dimsa0_0 := by kernel_rfl
theorem el4 (M : Nat) (Z1 : Ut) (h1 : Ht1) (hZ1 : ∀ (dimsa0_0 : (List api_Dimension)) (i3_1 : Int), Z1 (S1 dimsa0_0 i3_1) = h1 dimsa0_0 i3_1) (k : Nat) (dimsa0_0 : (List api_Dimension)) (i3_1 : Int) (k6_4 : Int) : lA M (zlq Qt4 [Z1]) Qt4 k (S4 dimsa0_0 i3_1 k6_4) = l4 M h1 k dimsa0_0 i3_1 k6_4 := by
  induction k generalizing dimsa0_0 i3_1 k6_4 with
  | zero => kernel_rfl
  | succ k ih =>
    refine Eq.trans (b := lA M (zlq Qt4 [Z1, lA M (zlq Qt4 [Z1]) Qt4 k]) Qt4 (k + 1) (S4 dimsa0_0 i3_1 k6_4)) (by kernel_rfl) ?_
    refine (seg_loop (Hok M) 0 Qt4 body plans (K M) _ (S4 dimsa0_0 i3_1 k6_4) (around_zlq _ _ (by kernel_rfl)) (by kernel_rfl) (by kernel_rfl)).trans ?_
    refine (g4 M _ dimsa0_0 i3_1 k6_4).trans ?_
    have x0 := (funext fun dimsa0_0 => funext fun i3_1 => Eq.trans (b := Z1 (S1 dimsa0_0 i3_1)) (by kernel_rfl) (hZ1 dimsa0_0 i3_1) : (fun dimsa0_0 i3_1 => zA M (zlq Qt4 [Z1, lA M (zlq Qt4 [Z1]) Qt4 k]) Qt1 (S1 dimsa0_0 i3_1)) = h1)
    have x1 := (funext fun dimsa0_0 => funext fun i3_1 => funext fun k6_4 => Eq.trans (b := lA M (zlq Qt4 [Z1]) Qt4 k (S4 dimsa0_0 i3_1 k6_4)) (by kernel_rfl) (ih dimsa0_0 i3_1 k6_4) : (fun dimsa0_0 i3_1 k6_4 => zA M (zlq Qt4 [Z1, lA M (zlq Qt4 [Z1]) Qt4 k]) Qt4 (S4 dimsa0_0 i3_1 k6_4)) = l4 M h1 k)
    rw [x0, x1]; rfl
theorem e4 (M : Nat) (Z1 : Ut) (h1 : Ht1) (hZ1 : ∀ (dimsa0_0 : (List api_Dimension)) (i3_1 : Int), Z1 (S1 dimsa0_0 i3_1) = h1 dimsa0_0 i3_1) (dimsa0_0 : (List api_Dimension)) (i3_1 : Int) (k6_4 : Int) : zA M (zlq Qt4 [Z1]) Qt4 (S4 dimsa0_0 i3_1 k6_4) = l4 M h1 M dimsa0_0 i3_1 k6_4 :=
  Eq.trans (b := lA M (zlq Qt4 [Z1]) Qt4 M (S4 dimsa0_0 i3_1 k6_4)) (by kernel_rfl) (el4 M Z1 h1 hZ1 M dimsa0_0 i3_1 k6_4)
theorem e3 (M : Nat) (Z1 : Ut) (h1 : Ht1) (hZ1 : ∀ (dimsa0_0 : (List api_Dimension)) (i3_1 : Int), Z1 (S1 dimsa0_0 i3_1) = h1 dimsa0_0 i3_1) (dimsa0_0 : (List api_Dimension)) (i3_1 : Int) : zA M (zlq Qt3 [Z1]) Qt3 (S3 dimsa0_0 i3_1) = j3 M h1 dimsa0_0 i3_1 := by
  refine (seg_join (Hok M) 0 Qt3 body plans (K M) _ (S3 dimsa0_0 i3_1) (around_zlq _ _ (by kernel_rfl)) (by kernel_rfl)).trans ?_
  refine (g3 M _ dimsa0_0 i3_1).trans ?_
  have x0 := (funext fun dimsa0_0 => funext fun i3_1 => funext fun k6_4 => Eq.trans (b := zA M (zlq Qt4 [Z1]) Qt4 (S4 dimsa0_0 i3_1 k6_4)) (by kernel_rfl) (e4 M Z1 h1 hZ1 dimsa0_0 i3_1 k6_4) : (fun dimsa0_0 i3_1 k6_4 => zA M (zlq Qt3 [Z1]) Qt4 (S4 dimsa0_0 i3_1 k6_4)) = l4 M h1 M)
  rw [x0]; rfl
theorem el2 (M : Nat) (Z1 : Ut) (h1 : Ht1) (hZ1 : ∀ (dimsa0_0 : (List api_Dimension)) (i3_1 : Int), Z1 (S1 dimsa0_0 i3_1) = h1 dimsa0_0 i3_1) (k : Nat) (dimsa0_0 : (List api_Dimension)) (i3_1 : Int) (k5_2 : Int) : lA M (zlq Qt2 [Z1]) Qt2 k (S2 dimsa0_0 i3_1 k5_2) = l2 M h1 k dimsa0_0 i3_1 k5_2 := by
  induction k generalizing dimsa0_0 i3_1 k5_2 with
  | zero => kernel_rfl
  | succ k ih =>
    refine Eq.trans (b := lA M (zlq Qt2 [Z1, lA M (zlq Qt2 [Z1]) Qt2 k]) Qt2 (k + 1) (S2 dimsa0_0 i3_1 k5_2)) (by kernel_rfl) ?_
    refine (seg_loop (Hok M) 0 Qt2 body plans (K M) _ (S2 dimsa0_0 i3_1 k5_2) (around_zlq _ _ (by kernel_rfl)) (by kernel_rfl) (by kernel_rfl)).trans ?_
    refine (g2 M _ dimsa0_0 i3_1 k5_2).trans ?_
    have x0 := (funext fun dimsa0_0 => funext fun i3_1 => funext fun k5_2 => Eq.trans (b := lA M (zlq Qt2 [Z1]) Qt2 k (S2 dimsa0_0 i3_1 k5_2)) (by kernel_rfl) (ih dimsa0_0 i3_1 k5_2) : (fun dimsa0_0 i3_1 k5_2 => zA M (zlq Qt2 [Z1, lA M (zlq Qt2 [Z1]) Qt2 k]) Qt2 (S2 dimsa0_0 i3_1 k5_2)) = l2 M h1 k)
    have x1 := (funext fun dimsa0_0 => funext fun i3_1 => Eq.trans (b := zA M (zlq Qt3 [Z1]) Qt3 (S3 dimsa0_0 i3_1)) (by kernel_rfl) (e3 M Z1 h1 hZ1 dimsa0_0 i3_1) : (fun dimsa0_0 i3_1 => zA M (zlq Qt2 [Z1, lA M (zlq Qt2 [Z1]) Qt2 k]) Qt3 (S3 dimsa0_0 i3_1)) = j3 M h1)
    rw [x0, x1]; rfl
theorem e2 (M : Nat) (Z1 : Ut) (h1 : Ht1) (hZ1 : ∀ (dimsa0_0 : (List api_Dimension)) (i3_1 : Int), Z1 (S1 dimsa0_0 i3_1) = h1 dimsa0_0 i3_1) (dimsa0_0 : (List api_Dimension)) (i3_1 : Int) (k5_2 : Int) : zA M (zlq Qt2 [Z1]) Qt2 (S2 dimsa0_0 i3_1 k5_2) = l2 M h1 M dimsa0_0 i3_1 k5_2 :=
  Eq.trans (b := lA M (zlq Qt2 [Z1]) Qt2 M (S2 dimsa0_0 i3_1 k5_2)) (by kernel_rfl) (el2 M Z1 h1 hZ1 M dimsa0_0 i3_1 k5_2)
theorem el1 (M : Nat) (k : Nat) (dimsa0_0 : (List api_Dimension)) (i3_1 : Int) : lA M (zlq Qt1 []) Qt1 k (S1 dimsa0_0 i3_1) = l1 M k dimsa0_0 i3_1 := by
  induction k generalizing dimsa0_0 i3_1 with
  | zero => kernel_rfl
  | succ k ih =>
    refine Eq.trans (b := lA M (zlq Qt1 [lA M (zlq Qt1 []) Qt1 k]) Qt1 (k + 1) (S1 dimsa0_0 i3_1)) (by kernel_rfl) ?_
    refine (seg_loop (Hok M) 0 Qt1 body plans (K M) _ (S1 dimsa0_0 i3_1) (around_zlq _ _ (by kernel_rfl)) (by kernel_rfl) (by kernel_rfl)).trans ?_
    refine (g1 M _ dimsa0_0 i3_1).trans ?_
    have x0 := (funext fun dimsa0_0 => funext fun i3_1 => funext fun k5_2 => Eq.trans (b := zA M (zlq Qt2 [(lA M (zlq Qt1 []) Qt1 k)]) Qt2 (S2 dimsa0_0 i3_1 k5_2)) (by kernel_rfl) (e2 M (lA M (zlq Qt1 []) Qt1 k) (l1 M k) (fun dimsa0_0 i3_1 => ih dimsa0_0 i3_1) dimsa0_0 i3_1 k5_2) : (fun dimsa0_0 i3_1 k5_2 => zA M (zlq Qt1 [lA M (zlq Qt1 []) Qt1 k]) Qt2 (S2 dimsa0_0 i3_1 k5_2)) = l2 M (l1 M k) M)
    rw [x0]; rfl
theorem e1 (M : Nat) (dimsa0_0 : (List api_Dimension)) (i3_1 : Int) : zA M (zlq Qt1 []) Qt1 (S1 dimsa0_0 i3_1) = l1 M M dimsa0_0 i3_1 :=
  Eq.trans (b := lA M (zlq Qt1 []) Qt1 M (S1 dimsa0_0 i3_1)) (by kernel_rfl) (el1 M M dimsa0_0 i3_1)
theorem run (M : Nat) (dimsa0_0 : (List api_Dimension)) : runF (rs := rs) (C19 M) (X M) M body Tryd.f19.ntmps 76 Tryd.f19.results.toList plans ps ex dimsa0_0 = pentaglotref02_Dimensions M dimsa0_0 := by
  refine Eq.trans (b := runC (C19 M) (X M) M body plans (start (argHs ps dimsa0_0) Tryd.f19.ntmps 76) (K M)) (by kernel_rfl) ?_
  refine (zrun (Hok M) 0 body plans _ (K M) (fun _ => none) fun _ => rfl).symm.trans ?_
  refine (g M _ dimsa0_0).trans ?_
  have x0 := (funext fun dimsa0_0 => funext fun i3_1 => Eq.trans (b := zA M (zlq Qt1 []) Qt1 (S1 dimsa0_0 i3_1)) (by kernel_rfl) (e1 M dimsa0_0 i3_1) : (fun dimsa0_0 i3_1 => zA M (fun _ => none) Qt1 (S1 dimsa0_0 i3_1)) = l1 M M)
  rw [x0]; rfl
noncomputable def sig (M : Nat) : Sig E := { ps := ps, rs := rs, ex := ex, fn := fun x => pentaglotref02_Dimensions M x }
theorem says (M : Nat) : callable Tryd.prog 19 = true ∧ ∀ x y, (sig M).fn x = some y → Says Tryd.prog 19 (sig M) x y := by
  refine ⟨by kernel_rfl, fun x y h => ?_⟩
  refine says_of_run (S := sig M) (C := C19 M) (X := X M) (M := M) (q := 76) (plans := plans) (COk_Tryd) (SigOk_C19 M) (ItOk_C19 M) (by kernel_rfl) (callOk_ext COk_Tryd (SigOk_C19 M) (ItOk_C19 M) (by kernel_rfl) inl_ok.ok (RSigOk_C19 M) (fun _ => callOk_none) M 1) (Tryd.func19) (body := body) (by kernel_rfl) (by kernel_rfl) ?_
  exact (run M x).trans h
end pentaglotref02_Dimensions
end Go.Ai.Pav
end
set_option linter.unusedVariables false
set_option linter.unusedSectionVars false
noncomputable section
namespace Go.Ai.Pav
open Go Go.Ai Go.Proofs
noncomputable def sigs34 (M : Nat) : List (Nat × Sig E) := []
noncomputable def rs34 (M : Nat) : List (Nat × Sig E) := []
noncomputable def its34 (M : Nat) : List (Nat × It E) := []
theorem sigs_ok34 (M : Nat) : SigsOk Tryd.prog (sigs34 M) := SigsOk.nil
theorem rs_ok34 (M : Nat) : SigsOk Tryd.prog (rs34 M) := SigsOk.nil
theorem its_ok34 (M : Nat) : ItsOk Tryd.prog (its34 M) := ItsOk.nil
noncomputable def C34 (M : Nat) : Ctx E := { ti := fun t => tisE.lookup t, sig := fun f => (sigs34 M).lookup f, it := fun f => (its34 M).lookup f, nt := 22 }
theorem SigOk_C34 (M : Nat) : SigOk Tryd.prog (C34 M) := sigs_ok34 M
theorem RSigOk_C34 (M : Nat) : SigOk Tryd.prog ({ ti := fun _ => none, sig := fun f => (rs34 M).lookup f } : Ctx E) := rs_ok34 M
theorem ItOk_C34 (M : Nat) : ItOk Tryd.prog (C34 M) := (its_ok34 M).ok
namespace pentaglotref02_Record
noncomputable def plans : List (Option (Plan Nm)) := [none, none, some { tmps := [(0, .asis), (3, .asis)], boxes := [] }, none, none, none, none, none, none, none]
noncomputable abbrev body : Code := bodyOf Tryd.f34
def ps : List (Ty Nm) := [(.sl (.st .api_Feature))]
def rs : List (Ty Nm) := [.bool]
def ex : List (Option Nat) := [none]
noncomputable def inl : List (Nat × Nat × Nat × Inl Nm) := []
theorem inl_ok : InlsOk Tryd.prog inl := InlsOk.nil
noncomputable def X (M : Nat) : Ext E Bool := extOf (C34 M) (inlOf inl) (fun f => (rs34 M).lookup f) (fun _ _ _ => none) noX M 1
abbrev Rt := Bool
noncomputable def H (M : Nat) : Hd E Rt := hd0 (X M)
theorem Hok (M : Nat) : (H M).ok (C34 M) M := hd0_ok _
abbrev Qt1 : List Dir := [.r, .l, .r, .k]
abbrev Ht1 := (List api_Feature) → Int → Option Rt
abbrev Zt := List Dir → St E → Option Rt
abbrev Ut := St E → Option Rt
noncomputable def s1 (M : Nat) (h1 : Ht1) (ra0_0 : (List api_Feature)) (i3_1 : Int) : Option Rt :=
  cond (decide (i3_1 < (ra0_0.length : Int)))
   (cond (decide (0 ≤ IntKind.i64.wrap (i3_1 - 1)) && decide (IntKind.i64.wrap (i3_1 - 1) < (ra0_0.length : Int)))
     (cond (decide (0 ≤ i3_1) && decide (i3_1 < (ra0_0.length : Int)))
       (cond (!(Op.bytesLess ((ra0_0.getD (IntKind.i64.wrap (i3_1 - 1)).toNat default).fName) ((ra0_0.getD i3_1.toNat default).fName)))
         (some false)
         (h1 ra0_0 (IntKind.i64.wrap (i3_1 + 1))))
       none)
     none)
   (some true)
noncomputable def l1 (M : Nat) : Nat → Ht1
  | 0, _, _ => none
  | k + 1, ra0_0, i3_1 => s1 M (l1 M k) ra0_0 i3_1
noncomputable def s (M : Nat) (h1 : Ht1) (ra0_0 : (List api_Feature)) : Option Rt :=
  h1 ra0_0 1
end pentaglotref02_Record
noncomputable def pentaglotref02_Record (M : Nat) (ra0_0 : (List api_Feature)) : Option Bool :=
  pentaglotref02_Record.s M (pentaglotref02_Record.l1 M M) ra0_0
namespace pentaglotref02_Record
noncomputable def S1 (ra0_0 : (List api_Feature)) (i3_1 : Int) : St E :=
  mkSt 22 22 [(0, .one (.tv (.sl (.st .api_Feature) ra0_0))), (3, .one (.tv (.int .i64 i3_1)))] [] 0 [] [] false
noncomputable def K (M : Nat) : Cont E Bool := kRet (C34 M) Tryd.f34.results.toList rs ex
noncomputable abbrev zA (M : Nat) (ZL : List Dir → Option (Ut)) (q : List Dir) : Ut := zAt (C34 M) (H M) M 0 ZL body plans (K M) q
noncomputable abbrev lA (M : Nat) (ZL : List Dir → Option (Ut)) (q : List Dir) (k : Nat) : Ut := lpAt (C34 M) (H M) M 0 ZL body plans (K M) q k
noncomputable abbrev gA (M : Nat) (Z : Zt) (q : List Dir) : Ut := seg (C34 M) (H M) 0 Z body plans (K M) q
set_option maxRecDepth 100000
theorem g1 (M : Nat) (Z : Zt) (ra0_0 : (List api_Feature)) (i3_1 : Int) : gA M Z Qt1 (S1 ra0_0 i3_1) = s1 M
    (fun ra0_0 i3_1 => Z Qt1 (S1 ra0_0 i3_1)) ra0_0 i3_1 := by kernel_rfl
theorem g (M : Nat) (Z : Zt) (ra0_0 : (List api_Feature)) : runZ (C34 M) (extZ (C34 M) (H M) 0) Z body plans (start (argHs ps ra0_0) Tryd.f34.ntmps 22) (K M) = s M
    (fun ra0_0 i3_1 => Z Qt1 (S1 ra0_0 i3_1)) ra0_0 := by kernel_rfl
theorem el1 (M : Nat) (k : Nat) (ra0_0 : (List api_Feature)) (i3_1 : Int) : lA M (zlq Qt1 []) Qt1 k (S1 ra0_0 i3_1) = l1 M k ra0_0 i3_1 := by
  induction k generalizing ra0_0 i3_1 with
  | zero => kernel_rfl
  | succ k ih =>
    refine Eq.trans (b := lA M (zlq Qt1 [lA M (zlq Qt1 []) Qt1 k]) Qt1 (k + 1) (S1 ra0_0 i3_1)) (by kernel_rfl) ?_
    refine (seg_loop (Hok M) 0 Qt1 body plans (K M) _ (S1 ra0_0 i3_1) (around_zlq _ _ (by kernel_rfl)) (by kernel_rfl) (by kernel_rfl)).trans ?_
    refine (g1 M _ ra0_0 i3_1).trans ?_
    have x0 := (funext fun ra0_0 => funext fun i3_1 => Eq.trans (b := lA M (zlq Qt1 []) Qt1 k (S1 ra0_0 i3_1)) (by kernel_rfl) (ih ra0_0 i3_1) : (fun ra0_0 i3_1 => zA M (zlq Qt1 [lA M (zlq Qt1 []) Qt1 k]) Qt1 (S1 ra0_0 i3_1)) = l1 M k)
    rw [x0]; rfl
theorem e1 (M : Nat) (ra0_0 : (List api_Feature)) (i3_1 : Int) : zA M (zlq Qt1 []) Qt1 (S1 ra0_0 i3_1) = l1 M M ra0_0 i3_1 :=
  Eq.trans (b := lA M (zlq Qt1 []) Qt1 M (S1 ra0_0 i3_1)) (by kernel_rfl) (el1 M M ra0_0 i3_1)
theorem run (M : Nat) (ra0_0 : (List api_Feature)) : runF (rs := rs) (C34 M) (X M) M body Tryd.f34.ntmps 22 Tryd.f34.results.toList plans ps ex ra0_0 = pentaglotref02_Record M ra0_0 := by
  refine Eq.trans (b := runC (C34 M) (X M) M body plans (start (argHs ps ra0_0) Tryd.f34.ntmps 22) (K M)) (by kernel_rfl) ?_
  refine (zrun (Hok M) 0 body plans _ (K M) (fun _ => none) fun _ => rfl).symm.trans ?_
  refine (g M _ ra0_0).trans ?_
  have x0 := (funext fun ra0_0 => funext fun i3_1 => Eq.trans (b := zA M (zlq Qt1 []) Qt1 (S1 ra0_0 i3_1)) (by kernel_rfl) (e1 M ra0_0 i3_1) : (fun ra0_0 i3_1 => zA M (fun _ => none) Qt1 (S1 ra0_0 i3_1)) = l1 M M)
  rw [x0]; rfl
noncomputable def sig (M : Nat) : Sig E := { ps := ps, rs := rs, ex := ex, fn := fun x => pentaglotref02_Record M x }
theorem says (M : Nat) : callable Tryd.prog 34 = true ∧ ∀ x y, (sig M).fn x = some y → Says Tryd.prog 34 (sig M) x y := by
  refine ⟨by kernel_rfl, fun x y h => ?_⟩
  refine says_of_run (S := sig M) (C := C34 M) (X := X M) (M := M) (q := 22) (plans := plans) (COk_Tryd) (SigOk_C34 M) (ItOk_C34 M) (by kernel_rfl) (callOk_ext COk_Tryd (SigOk_C34 M) (ItOk_C34 M) (by kernel_rfl) inl_ok.ok (RSigOk_C34 M) (fun _ => callOk_none) M 1) (Tryd.func34) (body := body) (by kernel_rfl) (by kernel_rfl) ?_
  exact (run M x).trans h
end pentaglotref02_Record
end Go.Ai.Pav
end
set_option linter.unusedVariables false
set_option linter.unusedSectionVars false
noncomputable section
namespace Go.Ai.Pav
open Go Go.Ai Go.Proofs
noncomputable def sigs20 (M : Nat) : List (Nat × Sig E) := [(18, pentaglotref02_Name.sig M), (34, pentaglotref02_Record.sig M)]
noncomputable def rs20 (M : Nat) : List (Nat × Sig E) := []
noncomputable def its20 (M : Nat) : List (Nat × It E) := []
theorem sigs_ok20 (M : Nat) : SigsOk Tryd.prog (sigs20 M) := SigsOk.cons (pentaglotref02_Name.says M) (SigsOk.cons (pentaglotref02_Record.says M) (SigsOk.nil))
theorem rs_ok20 (M : Nat) : SigsOk Tryd.prog (rs20 M) := SigsOk.nil
theorem its_ok20 (M : Nat) : ItsOk Tryd.prog (its20 M) := ItsOk.nil
noncomputable def C20 (M : Nat) : Ctx E := { ti := fun t => tisE.lookup t, sig := fun f => (sigs20 M).lookup f, it := fun f => (its20 M).lookup f, nt := 33 }
theorem SigOk_C20 (M : Nat) : SigOk Tryd.prog (C20 M) := sigs_ok20 M
theorem RSigOk_C20 (M : Nat) : SigOk Tryd.prog ({ ti := fun _ => none, sig := fun f => (rs20 M).lookup f } : Ctx E) := rs_ok20 M
theorem ItOk_C20 (M : Nat) : ItOk Tryd.prog (C20 M) := (its_ok20 M).ok
namespace pentaglotref02_Valid
noncomputable def plans : List (Option (Plan Nm)) := [none, none, some { tmps := [(0, .asis), (3, .asis)], boxes := [] }, none, none, none, none, none, some { tmps := [(0, .asis)], boxes := [] }, none]
noncomputable abbrev body : Code := bodyOf Tryd.f20
def ps : List (Ty Nm) := [(.sl (.st .api_Feature))]
def rs : List (Ty Nm) := [.bool]
def ex : List (Option Nat) := [none]
noncomputable def inl : List (Nat × Nat × Nat × Inl Nm) := []
theorem inl_ok : InlsOk Tryd.prog inl := InlsOk.nil
noncomputable def X (M : Nat) : Ext E Bool := extOf (C20 M) (inlOf inl) (fun f => (rs20 M).lookup f) (fun _ _ _ => none) noX M 1
abbrev Rt := Bool
noncomputable def H (M : Nat) : Hd E Rt := hd0 (X M)
theorem Hok (M : Nat) : (H M).ok (C20 M) M := hd0_ok _
abbrev Qt2 : List Dir := [.r]
abbrev Ht2 := (List api_Feature) → Option Rt
abbrev Qt1 : List Dir := [.r, .l, .r, .k]
abbrev Ht1 := (List api_Feature) → Int → Option Rt
abbrev Zt := List Dir → St E → Option Rt
abbrev Ut := St E → Option Rt
noncomputable def s2 (M : Nat) (ra0_0 : (List api_Feature)) : Option Rt :=
  cond (decide ((ra0_0.length : Int) ≤ 8))
   (Option.bind (pentaglotref02_Record M ra0_0) fun r31_33 =>
    some r31_33)
   (some false)
noncomputable def j2 (M : Nat) (ra0_0 : (List api_Feature)) : Option Rt :=
  s2 M ra0_0
noncomputable def s1 (M : Nat) (h1 : Ht1) (h2 : Ht2) (ra0_0 : (List api_Feature)) (i3_1 : Int) : Option Rt :=
  cond (decide (i3_1 < (ra0_0.length : Int)))
   (cond (decide (0 ≤ i3_1) && decide (i3_1 < (ra0_0.length : Int)))
     (Option.bind (pentaglotref02_Name M ((ra0_0.getD i3_1.toNat default).fName)) fun r15_31 =>
      cond (!r15_31)
       (some false)
       (cond (decide (0 ≤ i3_1) && decide (i3_1 < (ra0_0.length : Int)))
         (Option.bind (pentaglotref02_Name M ((ra0_0.getD i3_1.toNat default).fValue)) fun r23_32 =>
          cond (!r23_32)
           (some false)
           (h1 ra0_0 (IntKind.i64.wrap (i3_1 + 1))))
         none))
     none)
   (h2 ra0_0)
noncomputable def l1 (M : Nat) : Nat → Ht1
  | 0, _, _ => none
  | k + 1, ra0_0, i3_1 => s1 M (l1 M k) (j2 M) ra0_0 i3_1
noncomputable def s (M : Nat) (h1 : Ht1) (ra0_0 : (List api_Feature)) : Option Rt :=
  h1 ra0_0 0
end pentaglotref02_Valid
noncomputable def pentaglotref02_Valid (M : Nat) (ra0_0 : (List api_Feature)) : Option Bool :=
  pentaglotref02_Valid.s M (pentaglotref02_Valid.l1 M M) ra0_0
namespace pentaglotref02_Valid
noncomputable def S2 (ra0_0 : (List api_Feature)) : St E :=
  mkSt 33 33 [(0, .one (.tv (.sl (.st .api_Feature) ra0_0)))] [] 0 [] [] false
noncomputable def S1 (ra0_0 : (List api_Feature)) (i3_1 : Int) : St E :=
  mkSt 33 33 [(0, .one (.tv (.sl (.st .api_Feature) ra0_0))), (3, .one (.tv (.int .i64 i3_1)))] [] 0 [] [] false
noncomputable def K (M : Nat) : Cont E Bool := kRet (C20 M) Tryd.f20.results.toList rs ex
noncomputable abbrev zA (M : Nat) (ZL : List Dir → Option (Ut)) (q : List Dir) : Ut := zAt (C20 M) (H M) M 0 ZL body plans (K M) q
noncomputable abbrev lA (M : Nat) (ZL : List Dir → Option (Ut)) (q : List Dir) (k : Nat) : Ut := lpAt (C20 M) (H M) M 0 ZL body plans (K M) q k
noncomputable abbrev gA (M : Nat) (Z : Zt) (q : List Dir) : Ut := seg (C20 M) (H M) 0 Z body plans (K M) q
set_option maxRecDepth 100000
theorem g2 (M : Nat) (Z : Zt) (ra0_0 : (List api_Feature)) : gA M Z Qt2 (S2 ra0_0) = s2 M ra0_0 := by kernel_rfl
theorem g1 (M : Nat) (Z : Zt) (ra0_0 : (List api_Feature)) (i3_1 : Int) : gA M Z Qt1 (S1 ra0_0 i3_1) = s1 M
    (fun ra0_0 i3_1 => Z Qt1 (S1 ra0_0 i3_1))
    (fun ra0_0 => Z Qt2 (S2 ra0_0)) ra0_0 i3_1 := by kernel_rfl
theorem g (M : Nat) (Z : Zt) (ra0_0 : (List api_Feature)) : runZ (C20 M) (extZ (C20 M) (H M) 0) Z body plans (start (argHs ps ra0_0) Tryd.f20.ntmps 33) (K M) = s M
    (fun ra0_0 i3_1 => Z Qt1 (S1 ra0_0 i3_1)) ra0_0 := by kernel_rfl
theorem e2 (M : Nat) (ra0_0 : (List api_Feature)) : zA M (zlq Qt2 []) Qt2 (S2 ra0_0) = j2 M ra0_0 := by
  refine (seg_join (Hok M) 0 Qt2 body plans (K M) _ (S2 ra0_0) (around_zlq _ _ (by kernel_rfl)) (by kernel_rfl)).trans ?_
  refine (g2 M _ ra0_0).trans ?_
  rfl
theorem el1 (M : Nat) (k : Nat) (ra0_0 : (List api_Feature)) (i3_1 : Int) : lA M (zlq Qt1 []) Qt1 k (S1 ra0_0 i3_1) = l1 M k ra0_0 i3_1 := by
  induction k generalizing ra0_0 i3_1 with
  | zero => kernel_rfl
  | succ k ih =>
    refine Eq.trans (b := lA M (zlq Qt1 [lA M (zlq Qt1 []) Qt1 k]) Qt1 (k + 1) (S1 ra0_0 i3_1)) (by kernel_rfl) ?_
    refine (seg_loop (Hok M) 0 Qt1 body plans (K M) _ (S1 ra0_0 i3_1) (around_zlq _ _ (by kernel_rfl)) (by kernel_rfl) (by kernel_rfl)).trans ?_
    refine (g1 M _ ra0_0 i3_1).trans ?_
    have x0 := (funext fun ra0_0 => funext fun i3_1 => Eq.trans (b := lA M (zlq Qt1 []) Qt1 k (S1 ra0_0 i3_1)) (by kernel_rfl) (ih ra0_0 i3_1) : (fun ra0_0 i3_1 => zA M (zlq Qt1 [lA M (zlq Qt1 []) Qt1 k]) Qt1 (S1 ra0_0 i3_1)) = l1 M k)
    have x1 := (funext fun ra0_0 => Eq.trans (b := zA M (zlq Qt2 []) Qt2 (S2 ra0_0)) (by kernel_rfl) (e2 M ra0_0) : (fun ra0_0 => zA M (zlq Qt1 [lA M (zlq Qt1 []) Qt1 k]) Qt2 (S2 ra0_0)) = j2 M)
    rw [x0, x1]; rfl
theorem e1 (M : Nat) (ra0_0 : (List api_Feature)) (i3_1 : Int) : zA M (zlq Qt1 []) Qt1 (S1 ra0_0 i3_1) = l1 M M ra0_0 i3_1 :=
  Eq.trans (b := lA M (zlq Qt1 []) Qt1 M (S1 ra0_0 i3_1)) (by kernel_rfl) (el1 M M ra0_0 i3_1)
theorem run (M : Nat) (ra0_0 : (List api_Feature)) : runF (rs := rs) (C20 M) (X M) M body Tryd.f20.ntmps 33 Tryd.f20.results.toList plans ps ex ra0_0 = pentaglotref02_Valid M ra0_0 := by
  refine Eq.trans (b := runC (C20 M) (X M) M body plans (start (argHs ps ra0_0) Tryd.f20.ntmps 33) (K M)) (by kernel_rfl) ?_
  refine (zrun (Hok M) 0 body plans _ (K M) (fun _ => none) fun _ => rfl).symm.trans ?_
  refine (g M _ ra0_0).trans ?_
  have x0 := (funext fun ra0_0 => funext fun i3_1 => Eq.trans (b := zA M (zlq Qt1 []) Qt1 (S1 ra0_0 i3_1)) (by kernel_rfl) (e1 M ra0_0 i3_1) : (fun ra0_0 i3_1 => zA M (fun _ => none) Qt1 (S1 ra0_0 i3_1)) = l1 M M)
  rw [x0]; rfl
noncomputable def sig (M : Nat) : Sig E := { ps := ps, rs := rs, ex := ex, fn := fun x => pentaglotref02_Valid M x }
theorem says (M : Nat) : callable Tryd.prog 20 = true ∧ ∀ x y, (sig M).fn x = some y → Says Tryd.prog 20 (sig M) x y := by
  refine ⟨by kernel_rfl, fun x y h => ?_⟩
  refine says_of_run (S := sig M) (C := C20 M) (X := X M) (M := M) (q := 33) (plans := plans) (COk_Tryd) (SigOk_C20 M) (ItOk_C20 M) (by kernel_rfl) (callOk_ext COk_Tryd (SigOk_C20 M) (ItOk_C20 M) (by kernel_rfl) inl_ok.ok (RSigOk_C20 M) (fun _ => callOk_none) M 1) (Tryd.func20) (body := body) (by kernel_rfl) (by kernel_rfl) ?_
  exact (run M x).trans h
end pentaglotref02_Valid
end Go.Ai.Pav
end
set_option linter.unusedVariables false
set_option linter.unusedSectionVars false
noncomputable section
namespace Go.Ai.Pav
open Go Go.Ai Go.Proofs
noncomputable def sigs35 (M : Nat) : List (Nat × Sig E) := [(48, pentaglotref06_Index.sig M)]
noncomputable def rs35 (M : Nat) : List (Nat × Sig E) := []
noncomputable def its35 (M : Nat) : List (Nat × It E) := []
theorem sigs_ok35 (M : Nat) : SigsOk Tryd.prog (sigs35 M) := SigsOk.cons (pentaglotref06_Index.says M) (SigsOk.nil)
theorem rs_ok35 (M : Nat) : SigsOk Tryd.prog (rs35 M) := SigsOk.nil
theorem its_ok35 (M : Nat) : ItsOk Tryd.prog (its35 M) := ItsOk.nil
noncomputable def C35 (M : Nat) : Ctx E := { ti := fun t => tisE.lookup t, sig := fun f => (sigs35 M).lookup f, it := fun f => (its35 M).lookup f, nt := 34 }
theorem SigOk_C35 (M : Nat) : SigOk Tryd.prog (C35 M) := sigs_ok35 M
theorem RSigOk_C35 (M : Nat) : SigOk Tryd.prog ({ ti := fun _ => none, sig := fun f => (rs35 M).lookup f } : Ctx E) := rs_ok35 M
theorem ItOk_C35 (M : Nat) : ItOk Tryd.prog (C35 M) := (its_ok35 M).ok
namespace pentaglotref06_Over
noncomputable def plans : List (Option (Plan Nm)) := [none, none, none, none, some { tmps := [(0, .asis), (1, .asis), (6, .own (100006, 0, 3) (.int .i64)), (7, .asis), (13, .asis)], boxes := [(13, [])] }, none, none, none, none, none, none, none, none, some { tmps := [(1, .asis), (6, .own (100006, 0, 3) (.int .i64)), (7, .asis)], boxes := [] }, none]
noncomputable abbrev body : Code := bodyOf Tryd.f35
def ps : List (Ty Nm) := [(.sl (.st .api_Letter)), .str]
def rs : List (Ty Nm) := [(.sl (.int .i64)), .bool]
def ex : List (Option Nat) := [some 3, none]
noncomputable def inl : List (Nat × Nat × Nat × Inl Nm) := []
theorem inl_ok : InlsOk Tryd.prog inl := InlsOk.nil
noncomputable def X (M : Nat) : Ext E ((List Int) × Bool) := extOf (C35 M) (inlOf inl) (fun f => (rs35 M).lookup f) (fun _ _ _ => none) noX M 1
abbrev Rt := (List Int) × Bool
noncomputable def H (M : Nat) : Hd E Rt := hd0 (X M)
theorem Hok (M : Nat) : (H M).ok (C35 M) M := hd0_ok _
abbrev Qt2 : List Dir := [.r, .r, .r]
abbrev Ht2 := (List UInt8) → (List Int) → (List UInt8) → Option Rt
abbrev Qt1 : List Dir := [.r, .r, .r, .l, .r, .k]
abbrev Ht1 := (List api_Letter) → (List UInt8) → (List Int) → (List UInt8) → Nat → Option Rt
abbrev Zt := List Dir → St E → Option Rt
abbrev Ut := St E → Option Rt
noncomputable def s2 (M : Nat) (sa1_0 : (List UInt8)) (out6_2 : (List Int)) (back7_2 : (List UInt8)) : Option Rt :=
  some (out6_2, decide (back7_2 = sa1_0))
noncomputable def j2 (M : Nat) (sa1_0 : (List UInt8)) (out6_2 : (List Int)) (back7_2 : (List UInt8)) : Option Rt :=
  s2 M sa1_0 out6_2 back7_2
noncomputable def s1 (M : Nat) (h1 : Ht1) (h2 : Ht2) (aa0_0 : (List api_Letter)) (sa1_0 : (List UInt8)) (out6_1 : (List Int)) (back7_1 : (List UInt8)) (p13_1 : Nat) : Option Rt :=
  cond (decide (p13_1 < sa1_0.length))
   (Option.bind (pentaglotref06_Index M aa0_0 ((dec sa1_0 p13_1).1 : Int)) fun r19_8 =>
    cond (decide (r19_8 < 0))
     (some ([], false))
     (cond (decide (out6_1.length + ([r19_8] : List Int).length ≤ lim))
       (cond (decide (back7_1.length + (enc ((dec sa1_0 p13_1).1 : Int)).length ≤ 1125899906842624))
         (h1 aa0_0 sa1_0 (out6_1 ++ [r19_8]) (back7_1 ++ (enc ((dec sa1_0 p13_1).1 : Int))) (p13_1 + (dec sa1_0 p13_1).2))
         none)
       none))
   (h2 sa1_0 out6_1 back7_1)
noncomputable def l1 (M : Nat) : Nat → Ht1
  | 0, _, _, _, _, _ => none
  | k + 1, aa0_0, sa1_0, out6_1, back7_1, p13_1 => s1 M (l1 M k) (j2 M) aa0_0 sa1_0 out6_1 back7_1 p13_1
noncomputable def s (M : Nat) (h1 : Ht1) (aa0_0 : (List api_Letter)) (sa1_0 : (List UInt8)) : Option Rt :=
  h1 aa0_0 sa1_0 ([] : (List Int)) ([] : (List UInt8)) 0
end pentaglotref06_Over
noncomputable def pentaglotref06_Over (M : Nat) (aa0_0 : (List api_Letter)) (sa1_0 : (List UInt8)) : Option ((List Int) × Bool) :=
  pentaglotref06_Over.s M (pentaglotref06_Over.l1 M M) aa0_0 sa1_0
namespace pentaglotref06_Over
noncomputable def S2 (sa1_0 : (List UInt8)) (out6_2 : (List Int)) (back7_2 : (List UInt8)) : St E :=
  mkSt 34 34 [(1, .one (.tv (.str sa1_0))), (6, .one (.tok (100006, 0, 3) (.int .i64) out6_2)), (7, .one (.tv (.str back7_2)))] [] 0 [] [] false
noncomputable def S1 (aa0_0 : (List api_Letter)) (sa1_0 : (List UInt8)) (out6_1 : (List Int)) (back7_1 : (List UInt8)) (p13_1 : Nat) : St E :=
  mkSt 34 34 [(0, .one (.tv (.sl (.st .api_Letter) aa0_0))), (1, .one (.tv (.str sa1_0))), (6, .one (.tok (100006, 0, 3) (.int .i64) out6_1)), (7, .one (.tv (.str back7_1))), (13, .one (.ptr 13 0))] [(13, .iter sa1_0 p13_1)] 0 [] [] false
noncomputable def K (M : Nat) : Cont E ((List Int) × Bool) := kRet (C35 M) Tryd.f35.results.toList rs ex
noncomputable abbrev zA (M : Nat) (ZL : List Dir → Option (Ut)) (q : List Dir) : Ut := zAt (C35 M) (H M) M 0 ZL body plans (K M) q
noncomputable abbrev lA (M : Nat) (ZL : List Dir → Option (Ut)) (q : List Dir) (k : Nat) : Ut := lpAt (C35 M) (H M) M 0 ZL body plans (K M) q k
noncomputable abbrev gA (M : Nat) (Z : Zt) (q : List Dir) : Ut := seg (C35 M) (H M) 0 Z body plans (K M) q
set_option maxRecDepth 100000
theorem g2 (M : Nat) (Z : Zt) (sa1_0 : (List UInt8)) (out6_2 : (List Int)) (back7_2 : (List UInt8)) : gA M Z Qt2 (S2 sa1_0 out6_2 back7_2) = s2 M sa1_0 out6_2 back7_2 := by kernel_rfl
theorem g1 (M : Nat) (Z : Zt) (aa0_0 : (List api_Letter)) (sa1_0 : (List UInt8)) (out6_1 : (List Int)) (back7_1 : (List UInt8)) (p13_1 : Nat) : gA M Z Qt1 (S1 aa0_0 sa1_0 out6_1 back7_1 p13_1) = s1 M
    (fun aa0_0 sa1_0 out6_1 back7_1 p13_1 => Z Qt1 (S1 aa0_0 sa1_0 out6_1 back7_1 p13_1))
    (fun sa1_0 out6_2 back7_2 => Z Qt2 (S2 sa1_0 out6_2 back7_2)) aa0_0 sa1_0 out6_1 back7_1 p13_1 := by kernel_rfl
theorem g (M : Nat) (Z : Zt) (aa0_0 : (List api_Letter)) (sa1_0 : (List UInt8)) : runZ (C35 M) (extZ (C35 M) (H M) 0) Z body plans (start (argHs ps (aa0_0, sa1_0)) Tryd.f35.ntmps 34) (K M) = s M
    (fun aa0_0 sa1_0 out6_1 back7_1 p13_1 => Z Qt1 (S1 aa0_0 sa1_0 out6_1 back7_1 p13_1)) aa0_0 sa1_0 := by kernel_rfl
theorem e2 (M : Nat) (sa1_0 : (List UInt8)) (out6_2 : (List Int)) (back7_2 : (List UInt8)) : zA M (zlq Qt2 []) Qt2 (S2 sa1_0 out6_2 back7_2) = j2 M sa1_0 out6_2 back7_2 := by
  refine (seg_join (Hok M) 0 Qt2 body plans (K M) _ (S2 sa1_0 out6_2 back7_2) (around_zlq _ _ (by kernel_rfl)) (by kernel_rfl)).trans ?_
  refine (g2 M _ sa1_0 out6_2 back7_2).trans ?_
  rfl
theorem el1 (M : Nat) (k : Nat) (aa0_0 : (List api_Letter)) (sa1_0 : (List UInt8)) (out6_1 : (List Int)) (back7_1 : (List UInt8)) (p13_1 : Nat) : lA M (zlq Qt1 []) Qt1 k (S1 aa0_0 sa1_0 out6_1 back7_1 p13_1) = l1 M k aa0_0 sa1_0 out6_1 back7_1 p13_1 := by
  induction k generalizing aa0_0 sa1_0 out6_1 back7_1 p13_1 with
  | zero => kernel_rfl
  | succ k ih =>
    refine Eq.trans (b := lA M (zlq Qt1 [lA M (zlq Qt1 []) Qt1 k]) Qt1 (k + 1) (S1 aa0_0 sa1_0 out6_1 back7_1 p13_1)) (by kernel_rfl) ?_
    refine (seg_loop (Hok M) 0 Qt1 body plans (K M) _ (S1 aa0_0 sa1_0 out6_1 back7_1 p13_1) (around_zlq _ _ (by kernel_rfl)) (by kernel_rfl) (by kernel_rfl)).trans ?_
    refine (g1 M _ aa0_0 sa1_0 out6_1 back7_1 p13_1).trans ?_
    have x0 := (funext fun aa0_0 => funext fun sa1_0 => funext fun out6_1 => funext fun back7_1 => funext fun p13_1 => Eq.trans (b := lA M (zlq Qt1 []) Qt1 k (S1 aa0_0 sa1_0 out6_1 back7_1 p13_1)) (by kernel_rfl) (ih aa0_0 sa1_0 out6_1 back7_1 p13_1) : (fun aa0_0 sa1_0 out6_1 back7_1 p13_1 => zA M (zlq Qt1 [lA M (zlq Qt1 []) Qt1 k]) Qt1 (S1 aa0_0 sa1_0 out6_1 back7_1 p13_1)) = l1 M k)
    have x1 := (funext fun sa1_0 => funext fun out6_2 => funext fun back7_2 => Eq.trans (b := zA M (zlq Qt2 []) Qt2 (S2 sa1_0 out6_2 back7_2)) (by kernel_rfl) (e2 M sa1_0 out6_2 back7_2) : (fun sa1_0 out6_2 back7_2 => zA M (zlq Qt1 [lA M (zlq Qt1 []) Qt1 k]) Qt2 (S2 sa1_0 out6_2 back7_2)) = j2 M)
    rw [x0, x1]; rfl
theorem e1 (M : Nat) (aa0_0 : (List api_Letter)) (sa1_0 : (List UInt8)) (out6_1 : (List Int)) (back7_1 : (List UInt8)) (p13_1 : Nat) : zA M (zlq Qt1 []) Qt1 (S1 aa0_0 sa1_0 out6_1 back7_1 p13_1) = l1 M M aa0_0 sa1_0 out6_1 back7_1 p13_1 :=
  Eq.trans (b := lA M (zlq Qt1 []) Qt1 M (S1 aa0_0 sa1_0 out6_1 back7_1 p13_1)) (by kernel_rfl) (el1 M M aa0_0 sa1_0 out6_1 back7_1 p13_1)
theorem run (M : Nat) (aa0_0 : (List api_Letter)) (sa1_0 : (List UInt8)) : runF (rs := rs) (C35 M) (X M) M body Tryd.f35.ntmps 34 Tryd.f35.results.toList plans ps ex (aa0_0, sa1_0) = pentaglotref06_Over M aa0_0 sa1_0 := by
  refine Eq.trans (b := runC (C35 M) (X M) M body plans (start (argHs ps (aa0_0, sa1_0)) Tryd.f35.ntmps 34) (K M)) (by kernel_rfl) ?_
  refine (zrun (Hok M) 0 body plans _ (K M) (fun _ => none) fun _ => rfl).symm.trans ?_
  refine (g M _ aa0_0 sa1_0).trans ?_
  have x0 := (funext fun aa0_0 => funext fun sa1_0 => funext fun out6_1 => funext fun back7_1 => funext fun p13_1 => Eq.trans (b := zA M (zlq Qt1 []) Qt1 (S1 aa0_0 sa1_0 out6_1 back7_1 p13_1)) (by kernel_rfl) (e1 M aa0_0 sa1_0 out6_1 back7_1 p13_1) : (fun aa0_0 sa1_0 out6_1 back7_1 p13_1 => zA M (fun _ => none) Qt1 (S1 aa0_0 sa1_0 out6_1 back7_1 p13_1)) = l1 M M)
  rw [x0]; rfl
noncomputable def sig (M : Nat) : Sig E := { ps := ps, rs := rs, ex := ex, fn := fun x => pentaglotref06_Over M x.1 x.2 }
theorem says (M : Nat) : callable Tryd.prog 35 = true ∧ ∀ x y, (sig M).fn x = some y → Says Tryd.prog 35 (sig M) x y := by
  refine ⟨by kernel_rfl, fun x y h => ?_⟩
  refine says_of_run (S := sig M) (C := C35 M) (X := X M) (M := M) (q := 34) (plans := plans) (COk_Tryd) (SigOk_C35 M) (ItOk_C35 M) (by kernel_rfl) (callOk_ext COk_Tryd (SigOk_C35 M) (ItOk_C35 M) (by kernel_rfl) inl_ok.ok (RSigOk_C35 M) (fun _ => callOk_none) M 1) (Tryd.func35) (body := body) (by kernel_rfl) (by kernel_rfl) ?_
  obtain ⟨aa0_0, sa1_0⟩ := x
  exact (run M aa0_0 sa1_0).trans h
end pentaglotref06_Over
end Go.Ai.Pav
end
set_option linter.unusedVariables false
set_option linter.unusedSectionVars false
noncomputable section
namespace Go.Ai.Pav
open Go Go.Ai Go.Proofs
noncomputable def sigs21 (M : Nat) : List (Nat × Sig E) := [(35, pentaglotref06_Over.sig M)]
noncomputable def rs21 (M : Nat) : List (Nat × Sig E) := []
noncomputable def its21 (M : Nat) : List (Nat × It E) := []
theorem sigs_ok21 (M : Nat) : SigsOk Tryd.prog (sigs21 M) := SigsOk.cons (pentaglotref06_Over.says M) (SigsOk.nil)
theorem rs_ok21 (M : Nat) : SigsOk Tryd.prog (rs21 M) := SigsOk.nil
theorem its_ok21 (M : Nat) : ItsOk Tryd.prog (its21 M) := ItsOk.nil
noncomputable def C21 (M : Nat) : Ctx E := { ti := fun t => tisE.lookup t, sig := fun f => (sigs21 M).lookup f, it := fun f => (its21 M).lookup f, nt := 19 }
theorem SigOk_C21 (M : Nat) : SigOk Tryd.prog (C21 M) := sigs_ok21 M
theorem RSigOk_C21 (M : Nat) : SigOk Tryd.prog ({ ti := fun _ => none, sig := fun f => (rs21 M).lookup f } : Ctx E) := rs_ok21 M
theorem ItOk_C21 (M : Nat) : ItOk Tryd.prog (C21 M) := (its_ok21 M).ok
namespace pentaglotref10_Word
noncomputable def plans : List (Option (Plan Nm)) := [none, none, none]
noncomputable abbrev body : Code := bodyOf Tryd.f21
def ps : List (Ty Nm) := [(.sl (.st .api_Letter)), .str]
def rs : List (Ty Nm) := [.bool]
def ex : List (Option Nat) := [none]
noncomputable def inl : List (Nat × Nat × Nat × Inl Nm) := []
theorem inl_ok : InlsOk Tryd.prog inl := InlsOk.nil
noncomputable def X (M : Nat) : Ext E Bool := extOf (C21 M) (inlOf inl) (fun f => (rs21 M).lookup f) (fun _ _ _ => none) noX M 1
abbrev Rt := Bool
noncomputable def H (M : Nat) : Hd E Rt := hd0 (X M)
theorem Hok (M : Nat) : (H M).ok (C21 M) M := hd0_ok _
abbrev Zt := List Dir → St E → Option Rt
abbrev Ut := St E → Option Rt
noncomputable def s (M : Nat) (aa0_0 : (List api_Letter)) (sa1_0 : (List UInt8)) : Option Rt :=
  Option.bind (pentaglotref06_Over M aa0_0 sa1_0) fun r10_1 =>
  cond (r10_1.2)
   (some (decide ((r10_1.1.length : Int) ≤ 40)))
   (some false)
end pentaglotref10_Word
noncomputable def pentaglotref10_Word (M : Nat) (aa0_0 : (List api_Letter)) (sa1_0 : (List UInt8)) : Option Bool :=
  pentaglotref10_Word.s M aa0_0 sa1_0
namespace pentaglotref10_Word
noncomputable def K (M : Nat) : Cont E Bool := kRet (C21 M) Tryd.f21.results.toList rs ex
set_option maxRecDepth 100000
theorem g (M : Nat) (Z : Zt) (aa0_0 : (List api_Letter)) (sa1_0 : (List UInt8)) : runZ (C21 M) (extZ (C21 M) (H M) 0) Z body plans (start (argHs ps (aa0_0, sa1_0)) Tryd.f21.ntmps 19) (K M) = s M aa0_0 sa1_0 := by kernel_rfl
theorem run (M : Nat) (aa0_0 : (List api_Letter)) (sa1_0 : (List UInt8)) : runF (rs := rs) (C21 M) (X M) M body Tryd.f21.ntmps 19 Tryd.f21.results.toList plans ps ex (aa0_0, sa1_0) = pentaglotref10_Word M aa0_0 sa1_0 := by
  refine Eq.trans (b := runC (C21 M) (X M) M body plans (start (argHs ps (aa0_0, sa1_0)) Tryd.f21.ntmps 19) (K M)) (by kernel_rfl) ?_
  refine (zrun (Hok M) 0 body plans _ (K M) (fun _ => none) fun _ => rfl).symm.trans ?_
  refine (g M _ aa0_0 sa1_0).trans ?_
  rfl
noncomputable def sig (M : Nat) : Sig E := { ps := ps, rs := rs, ex := ex, fn := fun x => pentaglotref10_Word M x.1 x.2 }
theorem says (M : Nat) : callable Tryd.prog 21 = true ∧ ∀ x y, (sig M).fn x = some y → Says Tryd.prog 21 (sig M) x y := by
  refine ⟨by kernel_rfl, fun x y h => ?_⟩
  refine says_of_run (S := sig M) (C := C21 M) (X := X M) (M := M) (q := 19) (plans := plans) (COk_Tryd) (SigOk_C21 M) (ItOk_C21 M) (by kernel_rfl) (callOk_ext COk_Tryd (SigOk_C21 M) (ItOk_C21 M) (by kernel_rfl) inl_ok.ok (RSigOk_C21 M) (fun _ => callOk_none) M 1) (Tryd.func21) (body := body) (by kernel_rfl) (by kernel_rfl) ?_
  obtain ⟨aa0_0, sa1_0⟩ := x
  exact (run M aa0_0 sa1_0).trans h
end pentaglotref10_Word
end Go.Ai.Pav
end
set_option linter.unusedVariables false
set_option linter.unusedSectionVars false
noncomputable section
namespace Go.Ai.Pav
open Go Go.Ai Go.Proofs
noncomputable def sigs6 (M : Nat) : List (Nat × Sig E) := [(17, pentaglotref10_Alphabet.sig M), (18, pentaglotref02_Name.sig M), (19, pentaglotref02_Dimensions.sig M), (20, pentaglotref02_Valid.sig M), (21, pentaglotref10_Word.sig M)]
noncomputable def rs6 (M : Nat) : List (Nat × Sig E) := []
noncomputable def its6 (M : Nat) : List (Nat × It E) := []
theorem sigs_ok6 (M : Nat) : SigsOk Tryd.prog (sigs6 M) := SigsOk.cons (pentaglotref10_Alphabet.says M) (SigsOk.cons (pentaglotref02_Name.says M) (SigsOk.cons (pentaglotref02_Dimensions.says M) (SigsOk.cons (pentaglotref02_Valid.says M) (SigsOk.cons (pentaglotref10_Word.says M) (SigsOk.nil)))))
theorem rs_ok6 (M : Nat) : SigsOk Tryd.prog (rs6 M) := SigsOk.nil
theorem its_ok6 (M : Nat) : ItsOk Tryd.prog (its6 M) := ItsOk.nil
noncomputable def C6 (M : Nat) : Ctx E := { ti := fun t => tisE.lookup t, sig := fun f => (sigs6 M).lookup f, it := fun f => (its6 M).lookup f, nt := 79 }
theorem SigOk_C6 (M : Nat) : SigOk Tryd.prog (C6 M) := sigs_ok6 M
theorem RSigOk_C6 (M : Nat) : SigOk Tryd.prog ({ ti := fun _ => none, sig := fun f => (rs6 M).lookup f } : Ctx E) := rs_ok6 M
theorem ItOk_C6 (M : Nat) : ItOk Tryd.prog (C6 M) := (its_ok6 M).ok
namespace pentaglotref10_Valid
noncomputable def plans : List (Option (Plan Nm)) := [none, none, none, none, none, some { tmps := [(0, .asis), (3, .asis), (5, .asis)], boxes := [(3, [.asis, .asis, .asis])] }, none, none, none, none, none, none, some { tmps := [(0, .asis), (3, .asis), (5, .asis), (6, .asis)], boxes := [(3, [.asis, .asis, .asis])] }, none, none, none, none, none, none, none, none, none]
noncomputable abbrev body : Code := bodyOf Tryd.f6
def ps : List (Ty Nm) := [(.sl (.st .api_Letter)), (.st .api_Paradigm)]
def rs : List (Ty Nm) := [.bool]
def ex : List (Option Nat) := [none]
noncomputable def inl : List (Nat × Nat × Nat × Inl Nm) := []
theorem inl_ok : InlsOk Tryd.prog inl := InlsOk.nil
noncomputable def X (M : Nat) : Ext E Bool := extOf (C6 M) (inlOf inl) (fun f => (rs6 M).lookup f) (fun _ _ _ => none) noX M 1
abbrev Rt := Bool
noncomputable def H (M : Nat) : Hd E Rt := hd0 (X M)
theorem Hok (M : Nat) : (H M).ok (C6 M) M := hd0_ok _
abbrev Qt2 : List Dir := [.r, .r, .l, .r, .k, .L, .r, .l, .k, .r, .r, .k]
abbrev Ht2 := (List api_Letter) → Int → api_Paradigm → Int → Option Rt
abbrev Qt1 : List Dir := [.r, .r, .l, .r, .k]
abbrev Ht1 := (List api_Letter) → api_Paradigm → Int → Option Rt
abbrev Zt := List Dir → St E → Option Rt
abbrev Ut := St E → Option Rt
noncomputable def s2 (M : Nat) (h1 : Ht1) (h2 : Ht2) (aa0_0 : (List api_Letter)) (i5_1 : Int) (pa1_0 : api_Paradigm) (k6_2 : Int) : Option Rt :=
  cond (decide (0 ≤ i5_1) && decide (i5_1 < (pa1_0.fSlots.length : Int)))
   (cond (decide (k6_2 < ((pa1_0.fSlots.getD i5_1.toNat default).length : Int)))
     (cond (decide (0 ≤ i5_1) && decide (i5_1 < (pa1_0.fSlots.length : Int)))
       (cond (decide (0 ≤ k6_2) && decide (k6_2 < ((pa1_0.fSlots.getD i5_1.toNat default).length : Int)))
         (Option.bind (pentaglotref02_Valid M (((pa1_0.fSlots.getD i5_1.toNat default).getD k6_2.toNat default).fWhen)) fun r63_106 =>
          cond (!r63_106)
           (some false)
           (Option.bind (pentaglotref10_Word M aa0_0 (((pa1_0.fSlots.getD i5_1.toNat default).getD k6_2.toNat default).fPrefix)) fun r69_107 =>
            cond (!r69_107)
             (some false)
             (Option.bind (pentaglotref10_Word M aa0_0 (((pa1_0.fSlots.getD i5_1.toNat default).getD k6_2.toNat default).fSuffix)) fun r76_108 =>
              cond (!r76_108)
               (some false)
               (h2 aa0_0 i5_1 pa1_0 (IntKind.i64.wrap (k6_2 + 1))))))
         none)
       none)
     (h1 aa0_0 pa1_0 (IntKind.i64.wrap (i5_1 + 1))))
   none
noncomputable def l2 (M : Nat) (h1 : Ht1) : Nat → Ht2
  | 0, _, _, _, _ => none
  | k + 1, aa0_0, i5_1, pa1_0, k6_2 => s2 M h1 (l2 M h1 k) aa0_0 i5_1 pa1_0 k6_2
noncomputable def s1 (M : Nat) (h2 : Ht2) (aa0_0 : (List api_Letter)) (pa1_0 : api_Paradigm) (i5_1 : Int) : Option Rt :=
  cond (decide (i5_1 < (pa1_0.fSlots.length : Int)))
   (cond (decide (0 ≤ i5_1) && decide (i5_1 < (pa1_0.fSlots.length : Int)))
     (cond (decide (64 < ((pa1_0.fSlots.getD i5_1.toNat default).length : Int)))
       (some false)
       (h2 aa0_0 i5_1 pa1_0 0))
     none)
   (some true)
noncomputable def l1 (M : Nat) : Nat → Ht1
  | 0, _, _, _ => none
  | k + 1, aa0_0, pa1_0, i5_1 => s1 M (l2 M (l1 M k) M) aa0_0 pa1_0 i5_1
noncomputable def s (M : Nat) (h1 : Ht1) (aa0_0 : (List api_Letter)) (pa1_0 : api_Paradigm) : Option Rt :=
  Option.bind (pentaglotref10_Alphabet M aa0_0) fun r9_10 =>
  cond (!r9_10)
   (some false)
   (Option.bind (pentaglotref02_Name M pa1_0.fName) fun r14_11 =>
    cond (!r14_11)
     (some false)
     (Option.bind (pentaglotref02_Dimensions M pa1_0.fDimensions) fun r20_12 =>
      cond (!r20_12)
       (some false)
       (cond (decide (8 < (pa1_0.fSlots.length : Int)))
         (some false)
         (h1 aa0_0 pa1_0 0))))
end pentaglotref10_Valid
noncomputable def pentaglotref10_Valid (M : Nat) (aa0_0 : (List api_Letter)) (pa1_0 : api_Paradigm) : Option Bool :=
  pentaglotref10_Valid.s M (pentaglotref10_Valid.l1 M M) aa0_0 pa1_0
namespace pentaglotref10_Valid
noncomputable def S2 (aa0_0 : (List api_Letter)) (i5_1 : Int) (pa1_0 : api_Paradigm) (k6_2 : Int) : St E :=
  mkSt 79 79 [(0, .one (.tv (.sl (.st .api_Letter) aa0_0))), (3, .one (.ptr 3 0)), (5, .one (.tv (.int .i64 i5_1))), (6, .one (.tv (.int .i64 k6_2)))] [(3, .cells [.tv (.str pa1_0.fName), .tv (.sl (.st .api_Dimension) pa1_0.fDimensions), .tv (.sl (.sl (.st .api_Affix)) pa1_0.fSlots)])] 0 [] [] false
noncomputable def S1 (aa0_0 : (List api_Letter)) (pa1_0 : api_Paradigm) (i5_1 : Int) : St E :=
  mkSt 79 79 [(0, .one (.tv (.sl (.st .api_Letter) aa0_0))), (3, .one (.ptr 3 0)), (5, .one (.tv (.int .i64 i5_1)))] [(3, .cells [.tv (.str pa1_0.fName), .tv (.sl (.st .api_Dimension) pa1_0.fDimensions), .tv (.sl (.sl (.st .api_Affix)) pa1_0.fSlots)])] 0 [] [] false
noncomputable def K (M : Nat) : Cont E Bool := kRet (C6 M) Tryd.f6.results.toList rs ex
noncomputable abbrev zA (M : Nat) (ZL : List Dir → Option (Ut)) (q : List Dir) : Ut := zAt (C6 M) (H M) M 0 ZL body plans (K M) q
noncomputable abbrev lA (M : Nat) (ZL : List Dir → Option (Ut)) (q : List Dir) (k : Nat) : Ut := lpAt (C6 M) (H M) M 0 ZL body plans (K M) q k
noncomputable abbrev gA (M : Nat) (Z : Zt) (q : List Dir) : Ut := seg (C6 M) (H M) 0 Z body plans (K M) q
set_option maxRecDepth 100000
theorem g2 (M : Nat) (Z : Zt) (aa0_0 : (List api_Letter)) (i5_1 : Int) (pa1_0 : api_Paradigm) (k6_2 : Int) : gA M Z Qt2 (S2 aa0_0 i5_1 pa1_0 k6_2) = s2 M
    (fun aa0_0 pa1_0 i5_1 => Z Qt1 (S1 aa0_0 pa1_0 i5_1))
    (fun aa0_0 i5_1 pa1_0 k6_2 => Z Qt2 (S2 aa0_0 i5_1 pa1_0 k6_2)) aa0_0 i5_1 pa1_0 k6_2 := by kernel_rfl
theorem g1 (M : Nat) (Z : Zt) (aa0_0 : (List api_Letter)) (pa1_0 : api_Paradigm) (i5_1 : Int) : gA M Z Qt1 (S1 aa0_0 pa1_0 i5_1) = s1 M
    (fun aa0_0 i5_1 pa1_0 k6_2 => Z Qt2 (S2 aa0_0 i5_1 pa1_0 k6_2)) aa0_0 pa1_0 i5_1 := by kernel_rfl
theorem g (M : Nat) (Z : Zt) (aa0_0 : (List api_Letter)) (pa1_0 : api_Paradigm) : runZ (C6 M) (extZ (C6 M) (H M) 0) Z body plans (start (argHs ps (aa0_0, pa1_0)) Tryd.f6.ntmps 79) (K M) = s M
    (fun aa0_0 pa1_0 i5_1 => Z Qt1 (S1 aa0_0 pa1_0 i5_1)) aa0_0 pa1_0 := by kernel_rfl
theorem el2 (M : Nat) (Z1 : Ut) (h1 : Ht1) (hZ1 : ∀ (aa0_0 : (List api_Letter)) (pa1_0 : api_Paradigm) (i5_1 : Int), Z1 (S1 aa0_0 pa1_0 i5_1) = h1 aa0_0 pa1_0 i5_1) (k : Nat) (aa0_0 : (List api_Letter)) (i5_1 : Int) (pa1_0 : api_Paradigm) (k6_2 : Int) : lA M (zlq Qt2 [Z1]) Qt2 k (S2 aa0_0 i5_1 pa1_0 k6_2) = l2 M h1 k aa0_0 i5_1 pa1_0 k6_2 := by
  induction k generalizing aa0_0 i5_1 pa1_0 k6_2 with
  | zero => kernel_rfl
  | succ k ih =>
    refine Eq.trans (b := lA M (zlq Qt2 [Z1, lA M (zlq Qt2 [Z1]) Qt2 k]) Qt2 (k + 1) (S2 aa0_0 i5_1 pa1_0 k6_2)) (by kernel_rfl) ?_
    refine (seg_loop (Hok M) 0 Qt2 body plans (K M) _ (S2 aa0_0 i5_1 pa1_0 k6_2) (around_zlq _ _ (by kernel_rfl)) (by kernel_rfl) (by kernel_rfl)).trans ?_
    refine (g2 M _ aa0_0 i5_1 pa1_0 k6_2).trans ?_
    have x0 := (funext fun aa0_0 => funext fun pa1_0 => funext fun i5_1 => Eq.trans (b := Z1 (S1 aa0_0 pa1_0 i5_1)) (by kernel_rfl) (hZ1 aa0_0 pa1_0 i5_1) : (fun aa0_0 pa1_0 i5_1 => zA M (zlq Qt2 [Z1, lA M (zlq Qt2 [Z1]) Qt2 k]) Qt1 (S1 aa0_0 pa1_0 i5_1)) = h1)
    have x1 := (funext fun aa0_0 => funext fun i5_1 => funext fun pa1_0 => funext fun k6_2 => Eq.trans (b := lA M (zlq Qt2 [Z1]) Qt2 k (S2 aa0_0 i5_1 pa1_0 k6_2)) (by kernel_rfl) (ih aa0_0 i5_1 pa1_0 k6_2) : (fun aa0_0 i5_1 pa1_0 k6_2 => zA M (zlq Qt2 [Z1, lA M (zlq Qt2 [Z1]) Qt2 k]) Qt2 (S2 aa0_0 i5_1 pa1_0 k6_2)) = l2 M h1 k)
    rw [x0, x1]; rfl
theorem e2 (M : Nat) (Z1 : Ut) (h1 : Ht1) (hZ1 : ∀ (aa0_0 : (List api_Letter)) (pa1_0 : api_Paradigm) (i5_1 : Int), Z1 (S1 aa0_0 pa1_0 i5_1) = h1 aa0_0 pa1_0 i5_1) (aa0_0 : (List api_Letter)) (i5_1 : Int) (pa1_0 : api_Paradigm) (k6_2 : Int) : zA M (zlq Qt2 [Z1]) Qt2 (S2 aa0_0 i5_1 pa1_0 k6_2) = l2 M h1 M aa0_0 i5_1 pa1_0 k6_2 :=
  Eq.trans (b := lA M (zlq Qt2 [Z1]) Qt2 M (S2 aa0_0 i5_1 pa1_0 k6_2)) (by kernel_rfl) (el2 M Z1 h1 hZ1 M aa0_0 i5_1 pa1_0 k6_2)
theorem el1 (M : Nat) (k : Nat) (aa0_0 : (List api_Letter)) (pa1_0 : api_Paradigm) (i5_1 : Int) : lA M (zlq Qt1 []) Qt1 k (S1 aa0_0 pa1_0 i5_1) = l1 M k aa0_0 pa1_0 i5_1 := by
  induction k generalizing aa0_0 pa1_0 i5_1 with
  | zero => kernel_rfl
  | succ k ih =>
    refine Eq.trans (b := lA M (zlq Qt1 [lA M (zlq Qt1 []) Qt1 k]) Qt1 (k + 1) (S1 aa0_0 pa1_0 i5_1)) (by kernel_rfl) ?_
    refine (seg_loop (Hok M) 0 Qt1 body plans (K M) _ (S1 aa0_0 pa1_0 i5_1) (around_zlq _ _ (by kernel_rfl)) (by kernel_rfl) (by kernel_rfl)).trans ?_
    refine (g1 M _ aa0_0 pa1_0 i5_1).trans ?_
    have x0 := (funext fun aa0_0 => funext fun i5_1 => funext fun pa1_0 => funext fun k6_2 => Eq.trans (b := zA M (zlq Qt2 [(lA M (zlq Qt1 []) Qt1 k)]) Qt2 (S2 aa0_0 i5_1 pa1_0 k6_2)) (by kernel_rfl) (e2 M (lA M (zlq Qt1 []) Qt1 k) (l1 M k) (fun aa0_0 pa1_0 i5_1 => ih aa0_0 pa1_0 i5_1) aa0_0 i5_1 pa1_0 k6_2) : (fun aa0_0 i5_1 pa1_0 k6_2 => zA M (zlq Qt1 [lA M (zlq Qt1 []) Qt1 k]) Qt2 (S2 aa0_0 i5_1 pa1_0 k6_2)) = l2 M (l1 M k) M)
    rw [x0]; rfl
theorem e1 (M : Nat) (aa0_0 : (List api_Letter)) (pa1_0 : api_Paradigm) (i5_1 : Int) : zA M (zlq Qt1 []) Qt1 (S1 aa0_0 pa1_0 i5_1) = l1 M M aa0_0 pa1_0 i5_1 :=
  Eq.trans (b := lA M (zlq Qt1 []) Qt1 M (S1 aa0_0 pa1_0 i5_1)) (by kernel_rfl) (el1 M M aa0_0 pa1_0 i5_1)
theorem run (M : Nat) (aa0_0 : (List api_Letter)) (pa1_0 : api_Paradigm) : runF (rs := rs) (C6 M) (X M) M body Tryd.f6.ntmps 79 Tryd.f6.results.toList plans ps ex (aa0_0, pa1_0) = pentaglotref10_Valid M aa0_0 pa1_0 := by
  refine Eq.trans (b := runC (C6 M) (X M) M body plans (start (argHs ps (aa0_0, pa1_0)) Tryd.f6.ntmps 79) (K M)) (by kernel_rfl) ?_
  refine (zrun (Hok M) 0 body plans _ (K M) (fun _ => none) fun _ => rfl).symm.trans ?_
  refine (g M _ aa0_0 pa1_0).trans ?_
  have x0 := (funext fun aa0_0 => funext fun pa1_0 => funext fun i5_1 => Eq.trans (b := zA M (zlq Qt1 []) Qt1 (S1 aa0_0 pa1_0 i5_1)) (by kernel_rfl) (e1 M aa0_0 pa1_0 i5_1) : (fun aa0_0 pa1_0 i5_1 => zA M (fun _ => none) Qt1 (S1 aa0_0 pa1_0 i5_1)) = l1 M M)
  rw [x0]; rfl
noncomputable def sig (M : Nat) : Sig E := { ps := ps, rs := rs, ex := ex, fn := fun x => pentaglotref10_Valid M x.1 x.2 }
theorem says (M : Nat) : callable Tryd.prog 6 = true ∧ ∀ x y, (sig M).fn x = some y → Says Tryd.prog 6 (sig M) x y := by
  refine ⟨by kernel_rfl, fun x y h => ?_⟩
  refine says_of_run (S := sig M) (C := C6 M) (X := X M) (M := M) (q := 79) (plans := plans) (COk_Tryd) (SigOk_C6 M) (ItOk_C6 M) (by kernel_rfl) (callOk_ext COk_Tryd (SigOk_C6 M) (ItOk_C6 M) (by kernel_rfl) inl_ok.ok (RSigOk_C6 M) (fun _ => callOk_none) M 1) (Tryd.func6) (body := body) (by kernel_rfl) (by kernel_rfl) ?_
  obtain ⟨aa0_0, pa1_0⟩ := x
  exact (run M aa0_0 pa1_0).trans h
end pentaglotref10_Valid
end Go.Ai.Pav
end
