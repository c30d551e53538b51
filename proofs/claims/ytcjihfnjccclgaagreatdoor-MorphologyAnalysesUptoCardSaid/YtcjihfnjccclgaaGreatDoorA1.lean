/- A part that the proofs of the laws of this seat share: an interpreter of loaded code over typed values, what it says of the functions that the laws reach, and plain facts on these. -/
import Derived.Test.YtcjihfnjccclgaaGreatDoorA0
import Derived.Laws.RangeString
import Derived.Laws.Cover3
import Derived.Laws.IdiomStrings
import Derived.OrdersIn
import Derived.RangeFuncNested
set_option linter.unusedSectionVars false
set_option linter.unusedVariables false
set_option linter.unusedSimpArgs false
namespace Go.Ai
open Go.RowKit
section
variable {N:Type} [DecidableEq N] {E:Env N} {P:Program}
variable {base n:Nat} {ov:Ov E} {w0 w w' : World} {F0:Fx} {F:Fz} {σ:St E} {a:Act} {j:Sites} {tk:Toks} {ro:Option Nat} {o:Oper} {next:Act->World->Prop} {Q:Exit->Act->World->Prop}
variable {β:Type} {r:β}
theorem site_lt (h:Sim P base w0 F0 ov σ a w j tk F) {s b:Nat} (hs:j s=some b):b<w.heap.size:=by
 exact (h.live s b hs).2.2.2
theorem tok_lt (h:Sim P base w0 F0 ov σ a w j tk F) {k:Tok} {u:Value} {g:Nat} (hk:tk k=some u) (hg:u.ownBlock=some g):g<w.heap.size:=by
 obtain ⟨i',m',xs',e1',e2',e3'⟩:=h.toks k u hk
 exact (e2'.lt g hg).2
theorem Sim.newRow (h:Sim P base w0 F0 ov σ a w j tk F) {d q0 e:Nat} {τ:Ty N} {i:TypeInfo} {v:Value} {L:List Value} {xs:List (den E.Γ τ)} (hb:Below w.heap.size w w') (hi:P.info? e=some i) (hs:i.size=τ.size E)
  (ho:w'.ownsRow base e i.size v xs.length L) (hnew:∀ g,v.ownBlock=some g->w.heap.size<=g) (hr:RowRep w F τ xs L) (hn:σ.hasD d=false) :
  SimE P base w0 F0 ov (σ.put (some q0) (.one (.tok (d,0,e) τ xs))) (a.put (some q0) v) w' := by
 have h' := h.grow hb
 have hA:Agree F w w' := by
  have hg:w.grownBy w' none:=⟨hb.os,hb.tape,hb.output,hb.size,fun k hk _=>hb.block k hk⟩
  exact agree_grown hg fun b o hf=>⟨h.Flt b o hf,by simp⟩
 have h2:=h'.addTok (k:=(d,0,e)) (v:=v) hn hi ho (fun g hg=>⟨fun s hs' => by have:=site_lt h hs'; have:=hnew g hg; omega,fun p hf=>by have:=h.Flt g p hf; have:=hnew g hg; omega,
  fun q u hq hu=>by have:=tok_lt h hq hu; have:=hnew g hg; omega,fun hf=>by have:=(h.frn g hf).1; have:=h.below.size; have:=hnew g hg; omega⟩)
 refine ⟨j,_,_,h2.put ?_ (some q0)⟩
 refine ⟨?_,by simp⟩
 rw [hs] at ho
 refine rep_of_own ho (hr.mono (fun b o hf => .inl hf) hA) fun g hg p hp => .inr ⟨hg,by rw [hs]; exact hp⟩
theorem Sim.newVal (h:Sim P base w0 F0 ov σ a w j tk F) {e:Nat} {τ:Ty N} {i:TypeInfo} {v:Value} {L:List Value} {xs:List (den E.Γ τ)} (hb:Below w.heap.size w w') (hs:i.size=τ.size E)
  (ho:w'.ownsRow base e i.size v xs.length L) (hnew:∀ g,v.ownBlock=some g->w.heap.size<=g) (hr:RowRep w F τ xs L) (d:Option Nat):SimE P base w0 F0 ov (σ.put d (.one (.tv (.sl τ xs)))) (a.put d v) w' := by
 have h' := h.grow hb
 have hA:Agree F w w' := by
  have hg:w.grownBy w' none:=⟨hb.os,hb.tape,hb.output,hb.size,fun k hk _=>hb.block k hk⟩
  exact agree_grown hg fun b o hf=>⟨h.Flt b o hf,by simp⟩
 have h2:=h'.moreF (F' := fun b o=>F b o\/v.ownBlock=some b) (fun _ _ hf => .inl hf) fun b o hf=>by
  rcases hf with hf | hf
  ·exact .inl hf
  ·have:=hnew b hf
   exact .inr ⟨(ho.lt b hf).1,(ho.lt b hf).2,fun s hs' => by have:=site_lt h hs'; omega,fun q u hq hu=>by have:=tok_lt h hq hu; omega,fun hf=>by have:=(h.frn b hf).1; have:=h.below.size; omega⟩
 refine ⟨j,_,_,h2.put (hd := .one (.tv (.sl τ xs))) ?_ d⟩
 rw [hs] at ho
 exact rep_of_own ho (hr.mono (fun b o hf => .inl hf) hA) fun g hg p hp => .inr hg
theorem toRunes_inv {C:Ctx E} (hC:COk P C) {s t:Nat} (h:toRunes C s t=true):∃ e i,P.underlying s=some .string/\P.underlying t=some (.slice e)/\P.underlying e=some (.int .i32)/\P.info? e=some i/\i.size=1:=by
 unfold toRunes at h
 split at h
 ·rename_i sd e te hsd hel
  split at h
  ·rename_i hd hde
   obtain ⟨_,_,_,hcd⟩:=tok_of hC hsd
   rw [hd] at hcd
   obtain ⟨hu,i,td,hT,hs1,_⟩:=elem_of hC hel
   have hte:C.ti e=some te:=by
    unfold elemTy at hel
    split at hel
    ·split at hel
     ·split at hel
      ·rename_i te' hte
       split at hel
       ·cases hel; exact hte
       ·cases hel
      ·cases hel
     ·cases hel
    ·cases hel
   obtain ⟨_,_,_,hce⟩:=tok_of hC hte
   rw [hde] at hce
   exact ⟨e,i,under_str hcd,hu,under_int hce,hT.info,hs1⟩
  ·cases h
 ·cases h
theorem runesFrom_acc (u:ByteArray):∀ (n i:Nat) (acc:Array Value),Conv.runesFrom u n i acc=acc++((runesF u.data.toList n i).map (Value.int .i32)).toArray:=by
 intro n
 induction n with
 | zero=>intro i acc; simp [Conv.runesFrom,runesF]
 | succ n ih=>
   intro i acc
   simp only [Conv.runesFrom,runesF]
   by_cases hi:i<u.size
   ·have hi' : i<u.data.toList.length:=by simpa using hi
    rw [if_pos hi,decide_eq_true hi']
    have hdec:dec u.data.toList i=Utf8.decode u i:=by simp [dec]
    rw [hdec]
    simp only [ih]
    simp
   ·have hi' : ¬ i<u.data.toList.length:=by simpa using hi
    rw [if_neg hi,decide_eq_false hi']
    simp
theorem runesFrom_eq (u:ByteArray) (b:List UInt8) (hb:u.data.toList=b):Conv.runesFrom u u.size 0 #[]=((rns b).map (Value.int .i32)).toArray:=by
 subst hb
 rw [runesFrom_acc]
 simp [rns]
theorem Sim.appended (h:Sim P base w0 F0 ov σ a w j tk F) {d q0 e t ty:Nat} {τ:Ty N} {i:TypeInfo} {z v y:Value} {L:List Value} {xs ys:List (den E.Γ τ)} (ht:P.underlying t=some (.slice e)) (hi:P.info? e=some i) (hz:i.zero=some z)
  (hzs:z.cells.size=i.size) (hs:i.size=τ.size E) (ho:w.ownsRow base e i.size v xs.length L) (hr:RowRep w F τ xs L) (hrel:∀ g,v.ownBlock=some g->(∀ s,j s≠some g)/\(∀ p,F g p->p<xs.length*i.size)/\(∀ q u,tk q=some u->u.ownBlock≠some g) /\ ¬ F0.fn g)
  (hy:Rep w F (.sl τ ys) y) (hlim:xs.length+ys.length<=lim) (hby:i.bytes<=1024) (hn:σ.hasD d=false) :
  ∃ v' w',(Builtin.append_ #[t,t] ty #[v,y]).run P w = .ok v' w' /\ SimE P base w0 F0 ov (σ.put (some q0) (.one (.tok (d,0,e) τ (xs++ys)))) (a.put (some q0) v') w' := by
 obtain ⟨ad,cap,M,rfl,hnil,hsp,hM,hM1,hMc⟩:=row_of_rep hy
 have hpos:0<i.size:=by rw [hs]; exact size_pos τ
 have hlim' : xs.length+ys.length<=67108864:=hlim
 have hbytes:(xs.length+ys.length)*i.bytes<=140737488355328:=by
  have:=Nat.mul_le_mul hlim' hby
  omega
 obtain ⟨v',w',hrun,hown',hcase⟩:=run_append_tok (P:=P) t ty e i z ht hi hz hzs hpos ho ad ys.length cap M (by rw [hM.1,hs]) (fun e=>⟨by rw [(hnil e).1]; rfl,(hnil e).2⟩)
  (fun p hp q u hq=>by
   have hspp:=hsp p hp (fun e=>by rw [e] at hq; simp at hq)
   obtain ⟨blk,off,spot⟩:=p
   simp only at hspp
   subst hspp
   rw [addr_add]
   exact (hMc _ hp q u hq).2) hM1 (by simp only [maxLen]; omega) hbytes h.size
 refine ⟨v',w',hrun,?_⟩
 have hlen:(xs++ys).length=xs.length+ys.length:=List.length_append
 rcases hcase with ⟨hg,hob⟩ | ⟨hb,hnew,_⟩
 ·
  have hA:Agree F w w' := by
   intro b p u hf hc
   by_cases hb:v.ownBlock=some b
   ·have hp:=(hrel b hb).2.1 p hf
    have hLq:∃ q,L[p]? = some q:=⟨_,List.getElem?_eq_getElem (by rw [ho.1]; exact hp)⟩
    obtain ⟨q,hq⟩:=hLq
    have h1:=ho.cells hb p q hq
    rw [addr_add,Nat.zero_add] at h1
    have h2:=hown'.cells (by rw [hob]; exact hb) p q (by rw [List.getElem?_append_left (by rw [ho.1]; exact hp)]; exact hq)
    rw [addr_add,Nat.zero_add] at h2
    rw [h1] at hc
    rw [h2,<- hc]
   ·rw [World.cell?_of_block (w:=w) (w' := w') (a:=⟨b,p,none⟩) (hg.block b (h.Flt b p hf) (fun e=>hb e.symm))]
    exact hc
  have h' := h.grown hg hA (h.defers.keep fun D _ hD=>by
   rw [hg.block D (Array.getElem?_eq_some_iff.1 hD).1 (fun hgg=>by
    rcases ho.2 with ⟨e,_⟩ | ⟨g',cap,cur,e,_,hc,_⟩
    ·rw [e] at hgg; simp [Value.ownBlock] at hgg
    ·rw [e] at hgg
     simp only [Value.ownBlock,Option.some.injEq] at hgg
     subst hgg
     rw [hc] at hD; cases hD)]
   exact hD) fun g hgg=>⟨(ho.lt g hgg).1,(hrel g hgg).2.2.2,(hrel g hgg).1,fun k u hk hu=>(hrel g hgg).2.2.1 k u hk hu⟩
  have h2:=h'.addTok (k:=(d,0,e)) (v:=v') hn hi hown' (fun g hgg=>by
   rw [hob] at hgg
   refine ⟨(hrel g hgg).1,fun p hf => ?_,(hrel g hgg).2.2.1,(hrel g hgg).2.2.2⟩
   have h3:=(hrel g hgg).2.1 p hf
   have h4:xs.length*i.size<=(xs.length+ys.length)*i.size:=Nat.mul_le_mul_right _ (by omega)
   omega)
  refine ⟨j,_,_,h2.put ?_ (some q0)⟩
  refine ⟨?_,by simp⟩
  rw [hs,<- hlen] at hown'
  refine rep_of_own hown' ((hr.append hM).mono (fun b p hf => .inl hf) hA) fun g hgg p hp => .inr ⟨hgg,by rw [hs,<- hlen]; exact hp⟩
 ·rw [<- hlen] at hown'
  exact h.newRow hb hi hs hown' hnew (hr.append hM) hn
theorem Sim.appendedRaw (h:Sim P base w0 F0 ov σ a w j tk F) {e t ty:Nat} {τ:Ty N} {i:TypeInfo} {z v y:Value} {L:List Value} {xs ys:List (den E.Γ τ)} (ht:P.underlying t=some (.slice e)) (hi:P.info? e=some i) (hz:i.zero=some z)
  (hzs:z.cells.size=i.size) (hs:i.size=τ.size E) (ho:w.ownsRow base e i.size v xs.length L) (hr:RowRep w F τ xs L) (hrel:∀ g,v.ownBlock=some g->(∀ s,j s≠some g)/\(∀ p,¬ F g p)/\(∀ q u,tk q=some u->u.ownBlock≠some g) /\ ¬ F0.fn g)
  (hy:Rep w F (.sl τ ys) y) (hlim:xs.length+ys.length<=lim) (hby:i.bytes<=1024) :
  ∃ v' w' L',(Builtin.append_ #[t,t] ty #[v,y]).run P w = .ok v' w' /\ Sim P base w0 F0 ov σ a w' j tk F/\w'.ownsRow base e i.size v' (xs++ys).length L' /\ RowRep w' F τ (xs++ys) L' /\
    (∀ g,v'.ownBlock=some g->(∀ s,j s≠some g)/\(∀ p,¬ F g p)/\(∀ q u,tk q=some u->u.ownBlock≠some g) /\ ¬ F0.fn g):=by
 obtain ⟨ad,cap,M,rfl,hnil,hsp,hM,hM1,hMc⟩:=row_of_rep hy
 have hpos:0<i.size:=by rw [hs]; exact size_pos τ
 have hlim' : xs.length+ys.length<=67108864:=hlim
 have hbytes:(xs.length+ys.length)*i.bytes<=140737488355328:=by
  have:=Nat.mul_le_mul hlim' hby
  omega
 obtain ⟨v',w',hrun,hown',hcase⟩:=run_append_tok (P:=P) t ty e i z ht hi hz hzs hpos ho ad ys.length cap M (by rw [hM.1,hs]) (fun e=>⟨by rw [(hnil e).1]; rfl,(hnil e).2⟩)
  (fun p hp q u hq=>by
   have hspp:=hsp p hp (fun e=>by rw [e] at hq; simp at hq)
   obtain ⟨blk,off,spot⟩:=p
   simp only at hspp
   subst hspp
   rw [addr_add]
   exact (hMc _ hp q u hq).2) hM1 (by simp only [maxLen]; omega) hbytes h.size
 have hlen:(xs++ys).length=xs.length+ys.length:=List.length_append
 rw [<- hlen] at hown'
 rcases hcase with ⟨hg,hob⟩ | ⟨hb,hnew,hso'⟩
 ·have hA:Agree F w w' := agree_grown hg fun b p hf=>⟨h.Flt b p hf,fun hb=>(hrel b hb.symm).2.1 p hf⟩
  refine ⟨v',w',L++M,hrun,h.grown hg hA (h.defers.keep fun D _ hD => ?_) (fun g hgg=>⟨(ho.lt g hgg).1,(hrel g hgg).2.2.2,(hrel g hgg).1,fun k u hk hu=>(hrel g hgg).2.2.1 k u hk hu⟩),hown',(hr.append hM).mono (fun _ _ hf=>hf) hA,(fun g hgg=>hrel g (by rw [<- hob]; exact hgg))⟩
  rw [hg.block D (Array.getElem?_eq_some_iff.1 hD).1 (fun hgg=>by
    rcases ho.2 with ⟨e,_⟩ | ⟨g',cap,cur,e,_,hc,_⟩
    ·rw [e] at hgg; simp [Value.ownBlock] at hgg
    ·rw [e] at hgg
     simp only [Value.ownBlock,Option.some.injEq] at hgg
     subst hgg
     rw [hc] at hD; cases hD)]
  exact hD
 ·have hA:Agree F w w' := agree_grown (row:=none) ⟨hb.os,hb.tape,hb.output,hb.size,fun k hk _=>hb.block k hk⟩ (fun b o hf=>⟨h.Flt b o hf,by simp⟩)
  refine ⟨v',w',L++M,hrun,h.grow hb,hown',(hr.append hM).mono (fun _ _ hf=>hf) hA,fun g hgg => ?_⟩
  have hge:=hnew g hgg
  exact ⟨fun s hs' => by have:=site_lt h hs'; omega,fun p hf=>by have:=h.Flt g p hf; omega,fun q u hq hu=>by have:=tok_lt h hq hu; omega,fun hf=>by have:=(h.frn g hf).1; have:=h.below.size; omega⟩
theorem packTV_sl {t t' : Ty N} {xs' : List (den E.Γ t')} {xs:den E.Γ (.sl t)} (h:packTV (.sl t) (.sl t' xs' : TV E)=some xs):∃ e:t' = t,xs=e ▸ xs' := by
 simp only [packTV] at h
 split at h
 ·rename_i e
  exact ⟨e,(Option.some.inj h).symm⟩
 ·cases h
theorem Sim.appendedFull (h:Sim P base w0 F0 ov σ a w j tk F) {d q0 e t ty:Nat} {τ:Ty N} {i:TypeInfo} {z v y:Value} {xs ys:List (den E.Γ τ)} (ht:P.underlying t=some (.slice e)) (hi:P.info? e=some i) (hz:i.zero=some z)
  (hzs:z.cells.size=i.size) (hs:i.size=τ.size E) (hx:Rep w F (.sl τ xs) v) (hv:∃ ad n,v = .slice ad n n)
  (hy:Rep w F (.sl τ ys) y) (hpos:0<ys.length) (hlim:xs.length+ys.length<=lim) (hby:i.bytes<=1024) (hn:σ.hasD d=false) :
  ∃ v' w',(Builtin.append_ #[t,t] ty #[v,y]).run P w = .ok v' w' /\ SimE P base w0 F0 ov (σ.put (some q0) (.one (.tok (d,0,e) τ (xs++ys)))) (a.put (some q0) v') w' := by
 obtain ⟨ad,cap,M,rfl,hnil,hsp,hM,hM1,hMc⟩:=row_of_rep hy
 obtain ⟨ad0,cap0,L,rfl,hnil0,hsp0,hL,hL1,hLc⟩:=row_of_rep hx
 obtain ⟨ad1,n1,hv⟩:=hv
 simp only [Value.slice.injEq] at hv
 obtain ⟨_,hv1,hv2⟩:=hv
 have hcap:cap0=xs.length:=by omega
 subst hcap
 have hlim' : xs.length+ys.length<=67108864:=hlim
 have hbytes:(xs.length+ys.length)*i.bytes<=140737488355328:=by
  have:=Nat.mul_le_mul hlim' hby
  omega
 have cells:∀ (ad:Option Addr) (M:List Value),(∀ p,ad=some p->M≠[]->p.spot=none)->(∀ p,ad=some p -> ∀ (q:Nat) (u:Value),M[q]? = some u->F p.block (p.off+q)/\w.cell? ⟨p.block,p.off+q,none⟩=some u) -> ∀ p,ad=some p -> ∀ (q:Nat) (u:Value),M[q]? = some u->w.cell? (p.add q)=some u:=by
  intro ad M hsp hMc p hp q u hq
  have hspp:=hsp p hp (fun e=>by rw [e] at hq; simp at hq)
  have h2:=(hMc p hp q u hq).2
  obtain ⟨blk,off,spot⟩:=p
  simp only at hspp
  subst hspp
  rw [addr_add]
  exact h2
 cases ad with
 | none=>
   have:=(hnil rfl).1
   rw [this] at hpos
   cases hpos
 | some p=>
   obtain ⟨v',w',hrun,hown',hb,hnew⟩:=run_append_full (P:=P) (base:=base) t ty e i z ht hi hz hzs ad0 xs.length L (by rw [hL.1,hs]) (fun e=>by rw [(hnil0 e).1]; rfl) (cells ad0 L hsp0 hLc) p ys.length cap M (by rw [hM.1,hs]) (cells (some p) M hsp hMc p rfl) hpos (by simp only [maxLen]; omega) hbytes h.size
   refine ⟨v',w',hrun,?_⟩
   rw [<- List.length_append] at hown'
   exact h.newRow hb hi hs hown' hnew (hL.append hM) hn
theorem Sim.addRow (h:Sim P base w0 F0 ov σ a w j tk F) {m s e:Nat} (hms:m=s) {τ:Ty N} {i:TypeInfo} {v:Value} {L:List Value} {xs:List (den E.Γ τ)} (hgone:σ.heap[m]? = some .gone) (hn:σ.hasD s=false) (hi:P.info? e=some i) (hs:i.size=τ.size E)
  (ho:w.ownsRow base e i.size v xs.length L) (hr:RowRep w F τ xs L) (hg:∀ g,v.ownBlock=some g->(∀ s,j s≠some g)/\(∀ p,¬ F g p)/\(∀ q u,tk q=some u->u.ownBlock≠some g) /\ ¬ F0.fn g) :
  Sim P base w0 F0 ov {σ with heap:=σ.heap.set m (.rw s e τ xs)} a w j (fun q=>if q=rkey s e then some v else tk q) F:=by
 have hjm:∀ b,j m≠some b:=by
  intro b hb
  obtain ⟨_,_,⟨blk,h1,h2⟩,_⟩:=h.live m b hb
  rw [hgone] at h1
  cases h1
  exact h2 rfl
 have hF:∀ b o,F b o->F b o:=fun _ _ h=>h
 have hn1:∀ (q:Nat) (x:Hold E),σ.tmps[q]? = some x->x.hasD (rkey s e).1=false:=by
  intro q x hx
  simp only [St.hasD,Bool.or_eq_false_iff,List.any_eq_false] at hn
  exact Bool.eq_false_iff.2 (hn.1.1 x (List.mem_of_getElem? hx))
 have hn2:∀ (q:Nat) (b:Blk E),σ.heap[q]? = some b->b.hasD (rkey s e).1=false:=by
  intro q b hx
  simp only [St.hasD,Bool.or_eq_false_iff,List.any_eq_false] at hn
  exact Bool.eq_false_iff.2 (hn.1.2 _ (List.mem_of_getElem? hx))
 have hn3:∀ x ∈ σ.out,x.hasD (rkey s e).1=false:=by
  intro x hx
  simp only [St.hasD,Bool.or_eq_false_iff,List.any_eq_false] at hn
  exact Bool.eq_false_iff.2 (hn.2 x hx)
 have get:∀ (q:Nat) (b:Blk E),(σ.heap.set m (.rw s e τ xs))[q]? = some b->(q=m/\b = .rw s e τ xs)\/(q≠m/\σ.heap[q]? = some b):=by
  intro q b hb
  by_cases e:q=m
  ·subst e
   rw [List.getElem?_set] at hb
   simp only [if_true] at hb
   split at hb
   ·exact .inl ⟨rfl,(Option.some.inj hb).symm⟩
   ·cases hb
  ·rw [List.getElem?_set_ne (fun h=>e h.symm)] at hb
   exact .inr ⟨e,hb⟩
 exact {
  tab:=h.tab
  below:=h.below,size:=h.size,Fold:=h.Fold,Fnew:=h.Fnew,Flt:=h.Flt,agr:=h.agr
  frn:=fun q hq=>by
   obtain ⟨h1,h2,h3,h4,h5⟩:=h.frn q hq
   exact ⟨h1,h2,h3,fun k' u hu=>by
    split at hu
    ·cases hu
     exact fun e=>(hg q e).2.2.2 hq
    ·exact h4 k' u hu,h5⟩
  itq:=h.itq
  outs:=h.outs.imp fun x hx _ hr=>hr.addTok v (hn3 x hx) hF
  defers:=h.defers,mks:=h.mks,len:=h.len
  tmps:=fun q x u hx hu=>(h.tmps q x u hx hu).addTok v (hn1 q x hx) hF
  boxes:=fun q cs hc=>by
   rcases get q _ hc with ⟨_,e⟩ | ⟨_,hc⟩
   ·cases e
   ·obtain ⟨b,vs,T,h1,h2,h3⟩:=h.boxes q cs hc
    exact ⟨b,vs,T,h1,h2,h3.addTok v hF (hn2 q _ hc)⟩
  iters:=fun q str p hc=>by
   rcases get q _ hc with ⟨_,e⟩ | ⟨_,hc⟩
   ·cases e
   ·exact h.iters q str p hc
  maps:=fun q kt vt mm hc=>by
   rcases get q _ hc with ⟨_,e⟩ | ⟨_,hc⟩
   ·cases e
   ·exact h.maps q kt vt mm hc
  rows:=fun q s' e' τ' ys hc=>by
   rcases get q _ hc with ⟨e1,e2⟩ | ⟨_,hc⟩
   ·cases e2
    subst e1
    refine ⟨⟨?_,hms⟩,v,L,i,by simp,hi,hs,ho,hr,(fun g hgg=>(hg g hgg).2.1)⟩
    cases hj:j q with
    | none=>rfl
    | some b=>exact absurd hj (hjm b)
   ·obtain ⟨h1,h2⟩:=h.rows q s' e' τ' ys hc
    have hne:rkey s' e' ≠ rkey s e:=by
     intro e1
     have h3:=hn2 q _ hc
     simp only [rkey,Prod.mk.injEq] at e1
     simp [Blk.hasD,rkey,e1.1] at h3
    exact ⟨h1,h2.move hF (Agree.refl _ _) (fun u hu=>by rw [if_neg hne]; exact hu) fun _ _ _ _ _=>⟨rfl,fun _ hf=>hf⟩⟩
  live:=fun q b hb=>by
   obtain ⟨h1,h2,⟨blk,h3,h4⟩,h5⟩:=h.live q b hb
   refine ⟨h1,h2,⟨blk,?_,h4⟩,h5⟩
   rw [List.getElem?_set_ne (fun e=>by subst e; exact hjm b hb)]
   exact h3
  inj:=h.inj
  toks:=fun q u hq=>by
   split at hq
   ·rename_i e
    subst e
    cases hq
    exact ⟨i,xs.length,L,hi,ho,fun g hgg=>⟨fun o hf=>absurd hf ((hg g hgg).2.1 o),(hg g hgg).1⟩⟩
   ·exact h.toks q u hq
  apart:=fun q q' u u' g hq hq' hgu hgu' => by
   split at hq
   ·rename_i e
    split at hq'
    ·rename_i e'; rw [e,e']
    ·cases hq; exact absurd hgu' ((hg g hgu).2.2.1 q' u' hq')
   ·split at hq'
    ·cases hq'; exact absurd hgu ((hg g hgu').2.2.1 q u hq)
    ·exact h.apart q q' u u' g hq hq' hgu hgu'}
theorem Sim.putRow {hp:List (Blk E)} (h:Sim P base w0 F0 ov {σ with heap:=hp} a w j tk F) {d s e:Nat} {v:Value} (ht:tk (rkey s e)=some v):SimE P base w0 F0 ov {σ with tmps:=σ.tmps.set d (.one (.rw s e none)),heap:=hp} (a.put (some d) v) w:=
 ⟨j,tk,F,h.put (hd := .one (.rw s e none)) ht (some d)⟩
theorem Rep.scalar {l:TV E} {u:Value} {F2:Fz} {w2:World} (hl:match l with | .int .. => True | .bool .. => True | .str .. => True | _=>False) (h:Rep w F l u):Rep w2 F2 l u:=by
 cases h with
 | int k n=>exact Rep.int _ _
 | bool b=>exact Rep.bool _
 | str s=>exact Rep.str _
 | _=>exact hl.elim
theorem tvOf_scalar:∀ (t:Ty N) (x:den E.Γ t),t.scalar=true->(match tvOf (E:=E) t x with | .int .. => True | .bool .. => True | .str .. => True | _=>False)
 | .int _,_,_=>trivial
 | .bool,_,_=>trivial
 | .str,_,_=>trivial
 | .sl _,_,h=>by cases h
 | .st _,_,h=>by cases h
 | .ref _,_,h=>by cases h
theorem viewTup_scalar:∀ (ts:List (Ty N)) (x:Tup E.Γ ts),ts.all Ty.scalar=true -> ∀ l ∈ viewTup (E:=E) ts x,(match l with | .int .. => True | .bool .. => True | .str .. => True | _=>False)
 | [],_,_,l,hl=>by cases hl
 | [t],x,h,l,hl=>by
   simp only [viewTup,List.mem_singleton] at hl
   subst hl
   exact tvOf_scalar t x (by simpa using h)
 | t::u::ts,(x,y),h,l,hl=>by
   simp only [List.all_cons,Bool.and_eq_true] at h
   simp only [viewTup,List.mem_cons] at hl
   rcases hl with hl | hl
   ·subst hl
    exact tvOf_scalar t x h.1
   ·exact viewTup_scalar (u::ts) y (by simpa using h.2) l (by simpa using hl)
theorem leaves_scalar (t:Ty N) (x:den E.Γ t) (h:t.flat E=true):∀ l ∈ leaves (E:=E) t x,(match l with | .int .. => True | .bool .. => True | .str .. => True | _=>False):=by
 intro l hl
 cases t with
 | int k=>simp [leaves] at hl; subst hl; trivial
 | bool=>simp [leaves] at hl; subst hl; trivial
 | str=>simp [leaves] at hl; subst hl; trivial
 | sl t=>cases h
 | ref n=>cases h
 | st n=>exact viewTup_scalar _ _ h l hl
theorem Sim.rowOf (h:Sim P base w0 F0 ov σ a w j tk F) {d e:Nat} {F' : Fz} {τ:Ty N} {i:TypeInfo} {u:Value} {xs:List (den E.Γ τ)} (hb:Below w.heap.size w w') (h1:∀ b o,F b o->F' b o) (h2:∀ b o,F' b o->F b o\/w.heap.size<=b) (h3:∀ b o,F' b o->b<w'.heap.size)
  (hn:σ.hasD d=false) (hgone:σ.heap[d]? = some .gone) (hi:P.info? e=some i) (hs:i.size=τ.size E) (hf:τ.flat E=true) (hr:Rep w' F' (.sl τ xs) u) (ho:Own P w.heap.size w' noSite F' (d,0,e) u\/Own P w.heap.size w' noSite F' (d,1,e) u) :
  ∃ tk2 F2,Sim P base w0 F0 ov {σ with heap:=σ.heap.set d (.rw d e τ xs)} a w' j tk2 F2/\tk2 (rkey d e)=some u:=by
 obtain ⟨L,e2⟩:∃ L,w'.ownsRow w.heap.size e i.size u xs.length L/\RowRep w' F' τ xs L:=by
  rcases ho with ⟨i',m,L,e1,e2,_⟩ | ⟨i',m,L,e1,e2,_⟩ <;>
  ·dsimp only at e1 e2
   rw [hi] at e1
   cases e1
   obtain ⟨hm,hrow⟩:=tok_row hr e2 hs
   subst hm
   exact ⟨L,e2,hrow⟩
 obtain ⟨e2,hrow⟩:=e2
 have hlt:=h.below.size
 have h' := h.afterCall (F' := fun b o=>F' b o/\u.ownBlock≠some b) (tr:=fun _=>none) hb (fun b o hf=>⟨h1 b o hf,fun hu=>by have:=h.Flt b o hf; have:=(e2.lt b hu).1; omega⟩) (fun b o hf=>h2 b o hf.1) (fun b o hf=>h3 b o hf.1) hn (fun k u hk=>by cases hk) (fun k k' u u' g hk=>by cases hk)
 refine ⟨_,_,h'.addRow (m:=d) (s:=d) (e:=e) rfl hgone hn hi hs (ownsRow_base e2 h.size) (L:=L) ⟨hrow.1,fun q x c l hx hl => ?_⟩ (fun g hg => ?_),by simp⟩
 ·obtain ⟨v,hv,hv'⟩:=hrow.2 q x c l hx hl
  exact ⟨v,hv,Rep.scalar (leaves_scalar τ x hf l (List.mem_of_getElem? hl)) hv'⟩
 ·have hge:=(e2.lt g hg).1
  refine ⟨fun s hs' => by have:=site_lt h hs'; omega,fun p hf=>hf.2 hg,fun q v hq hv => ?_,fun hf=>by have:=(h.frn g hf).1; omega⟩
  split at hq
  ·cases hq
  ·have:=tok_lt h hq hv
   omega
theorem rowTy_inv {C:Ctx E} (hC:COk P C) {e:Nat} {τ:Ty N} (h:rowTy C e τ=true):∃ i,P.info? e=some i/\i.size=τ.size E/\τ.flat E=true:=by
 unfold rowTy at h
 split at h
 ·rename_i te hte
  split at h
  ·rename_i τ' hτ
   simp only [Bool.and_eq_true,decide_eq_true_eq] at h
   obtain ⟨rfl,hf⟩:=h
   obtain ⟨i,d,hT,_⟩:=tok_of hC hte
   exact ⟨i,hT.info,by rw [hT.size,(hT.ty _ hτ).1],hf⟩
  ·cases h
 ·cases h
theorem call_row_sound {C:Ctx E} (hC:COk P C) (hS:SigOk P C) (h:Sim P base w0 F0 ov σ a w j tk F) {c:Call} {f:FuncId} {S:Sig E} {x:Tup E.Γ S.ps} {K:St E->Option β} {t:Nat}
  (ho:o.op = .call c) (hc:c.callee = .value (.func f)) (hdst:o.dst=some t) (hsig:C.sig f=some S) (hx:packArgs S.ps (evL σ c.args.toList)=some x) (hn:σ.hasD (σ.off+t)=false) (hgone:σ.heap[σ.off+t]? = some .gone)
  (he:((S.fn x).bind fun y=>(rowRes C (σ.off+t) S.rs S.ex y).bind fun z=>K {σ with tmps:=σ.tmps.set t z.1,heap:=σ.heap.set (σ.off+t) z.2})=some r)
  (hk:∀ σ' a' w',SimE P base w0 F0 ov σ' a' w' -> K σ' = some r->next a' w'):o.wpIn (fence ro) n P a w next Q:=by
 obtain ⟨hcall,hsays⟩:=hS f S hsig
 cases hy:S.fn x with
 | none=>rw [hy] at he; cases he
 | some y=>
   rw [hy] at he
   have he:((rowRes C (σ.off+t) S.rs S.ex y).bind fun z=>K {σ with tmps:=σ.tmps.set t z.1,heap:=σ.heap.set (σ.off+t) z.2})=some r:=he
   have hargs:=packArgs_sound S.ps _ x _ hx (evL_reps h c.args.toList)
   have hcalls:=hsays x y hy w F _ (σ.off+t) h.Flt h.tab hargs
   refine step_enter (by rw [ho]; intro c' e; cases e) (exec_callf ho hc hcall) (R:=_) (by rw [show c.args.map a.eval=(c.args.toList.map a.eval).toArray from by rw [<- Array.toList_map]]; exact hcalls) ?_
   rintro e w' ⟨v,tr,F',rfl,hb,h1,h2,h3,hr,ht,ha⟩
   refine ⟨v,rfl,?_⟩
   rw [hdst]
   obtain ⟨ps,rs,ex,fn⟩:=S
   dsimp only at y hr he
   unfold rowRes at he
   split at he
   ·rename_i τ e xs _
    split at he
    ·rename_i hrt
     obtain ⟨i,hi,hs,hf⟩:=rowTy_inv hC hrt
     have hr:Rep w' F' (.sl τ xs) v/\tr (σ.off+t,0,e)=some v:=hr
     obtain ⟨tk2,F2,hs2,hk2⟩:=h.rowOf hb h1 h2 h3 hn hgone hi hs hf hr.1 (.inl (ht _ _ hr.2).2)
     exact hk _ _ _ ⟨_,_,_,hs2.put (hd := .one (.rw (σ.off+t) e none)) hk2 (some t)⟩ he
    ·cases he
   ·rename_i τ e xs b _
    split at he
    ·rename_i hrt
     obtain ⟨i,hi,hs,hf⟩:=rowTy_inv hC hrt
     obtain ⟨vs,hv,hr'⟩:=(show ∃ vs:List Value,v = .tuple vs.toArray/\VReps w' noSite tr F' [(false,[.tok (σ.off+t,0,e) τ xs]),(false,[.tv (.bool b)])] vs from hr)
     match vs,hv,hr' with
     | [u,u'],hv,hr'=>
       subst hv
       obtain ⟨⟨c1,hc1,hr1⟩,⟨c2,hc2,hr2⟩,_⟩:=hr'
       cases hc1
       cases hc2
       obtain ⟨tk2,F2,hs2,hk2⟩:=h.rowOf hb h1 h2 h3 hn hgone hi hs hf hr1.1 (.inl (ht _ _ hr1.2).2)
       have hr2' : Rep (E:=E) w' F2 (.bool b) u' := by
        have hr2:Rep (E:=E) w' F' (.bool b) u' := hr2
        cases hr2
        exact Rep.bool _
       exact hk _ _ _ ⟨_,_,_,hs2.put (hd := .tup [(false,[.rw (σ.off+t) e none]),(false,[.tv (.bool b)])]) ⟨[u,u'],rfl,⟨_,rfl,hk2⟩,⟨_,rfl,hr2'⟩,trivial⟩ (some t)⟩ he
     | [],_,hr' => exact hr'.elim
     | [_],_,hr' => exact hr'.2.elim
     | _::_::_::_,_,hr' => exact hr'.2.2.elim
    ·cases he
   ·cases he
theorem Sim.thaw (h:Sim P base w0 F0 ov σ a w j tk F) {m s e:Nat} {τ:Ty N} {xs:List (den E.Γ τ)} (hm:σ.heap[m]? = some (.rw s e τ xs)) {v:Value} (hv:tk (rkey s e)=some v) :
  ∃ tk' F',Sim P base w0 F0 ov (σ.kill (rkey s e)) a w j tk' F' /\ Rep (E:=E) w F' (.sl τ xs) v:=by
 obtain ⟨_,v',L,i,h1,h2,h3,h4,h5,h6⟩:=h.rows m s e τ xs hm
 rw [hv] at h1
 cases h1
 refine ⟨_,fun b o=>F b o\/(v.ownBlock=some b/\o<xs.length*i.size),(h.drop (rkey s e)).moreF (fun _ _ hf => .inl hf) fun b o hf => ?_,?_⟩
 ·rcases hf with hf | ⟨hf,_⟩
  ·exact .inl hf
  ·obtain ⟨_,_,_,_,_,e3⟩:=h.toks _ v hv
   refine .inr ⟨(h4.lt b hf).1,(h4.lt b hf).2,(e3 b hf).2,fun k u hk hu => ?_,fun hn=>(h.frn b hn).2.2.2.1 _ v hv hf⟩
   split at hk
   ·cases hk
   ·rename_i hne
    exact hne (h.apart k _ u v b hk hv hu hf)
 ·rw [h3] at h4
  exact rep_of_own h4 (h5.mono (fun _ _ hf => .inl hf) (Agree.refl _ _)) fun g hg o ho => .inr ⟨hg,by rw [h3]; exact ho⟩
theorem partsH_row (h:Sim P base w0 F0 ov σ a w j tk F) {τ:Ty N} : ∀ (parts:List (Nat×Operand)) (m:Nat) (xs:List (den E.Γ τ)),partsH σ τ m parts=some xs ->
  xs.length=parts.length/\(∀ (q:Nat) (p:Nat×Operand),parts[q]? = some p->p.1=m+q/\(a.eval p.2).cells.size=τ.size E)/\RowRep w F τ xs (parts.flatMap fun p=>(a.eval p.2).cells.toList):=by
 intro parts
 induction parts with
 | nil=>intro m xs hp; simp [partsH] at hp; subst hp; exact ⟨rfl,fun q p hq=>by simp at hq,by simp [RowRep]⟩
 | cons p parts ih=>
   intro m xs hp
   obtain ⟨i,x⟩:=p
   simp only [partsH] at hp
   split at hp
   ·rename_i y ys hb hy hys
    cases hp
    obtain ⟨h1,h2,h3⟩:=ih _ _ hys
    have hv:=(h.ev x).packH hy
    have hcells:TReps w F (leaves τ y) (a.eval x).cells.toList:=by
     unfold valH at hv
     cases ht:τ.one with
     | true=>
       rw [ht] at hv
       have hv' : Rep w F (tvOf τ y) (a.eval x):=hv
       have h1c:=hv'.oneCell
       have:(a.eval x).cells = #[a.eval x]:=by cases hq:a.eval x <;> rw [hq] at h1c <;> simp_all [Value.cells,Value.oneCell']
       rw [this]
       cases τ <;> first | exact ⟨hv',trivial⟩ | cases ht
     | false=>
       rw [ht] at hv
       obtain ⟨us,hu,hL⟩:=hv
       rw [hu]
       show TReps w F _ us
       have key:∀ (ls:List (TV E)) (us:List Value),LRep w j tk F (ls.map Cell.tv) us->TReps w F ls us:=by
        intro ls
        induction ls with
        | nil=>intro us h; cases us <;> exact h
        | cons l ls ih=>intro us h; cases us with
          | nil=>exact h.elim
          | cons u us=>exact ⟨h.1,ih us h.2⟩
       exact key _ _ hL
    have hsz:(a.eval x).cells.size=τ.size E:=by
     rw [<- Array.length_toList,<- hcells.len,size_leaves]
    refine ⟨by simp [h1],?_,?_⟩
    ·intro q p hq
     cases q with
     | zero=>simp at hq; subst hq; exact ⟨by rw [Nat.eq_of_beq_eq_true hb]; rfl,hsz⟩
     | succ q=>simp at hq; have:=h2 q p hq; exact ⟨by omega,this.2⟩
    ·have hone:RowRep w F τ [y] (a.eval x).cells.toList:=by
      refine ⟨by simp [hsz],fun q z c l hz hl => ?_⟩
      cases q with
      | zero=>
        simp at hz; subst hz
        obtain ⟨u,hu,hr⟩:=hcells.get c l hl
        exact ⟨u,by simpa using hu,hr⟩
      | succ q=>simp at hz
     simpa using hone.append h3
   ·cases hp
theorem fill_row {s:Nat} : ∀ (parts:List (Nat×Value)) (m:Nat) (cs:Array Value),(∀ (q:Nat) (p:Nat×Value),parts[q]? = some p->p.1=m+q/\p.2.cells.size=s)->cs.size=(m+parts.length)*s ->
  ∃ cs',Instr.fill (fun i=>some (i*s,s)) cs parts=some cs' /\ cs'.toList=cs.toList.take (m*s)++parts.flatMap fun p=>p.2.cells.toList:=by
 intro parts
 induction parts with
 | nil=>intro m cs _ hs; exact ⟨cs,rfl,by simp only [List.flatMap_nil,List.append_nil]; rw [List.take_of_length_le (by rw [Array.length_toList,hs]; simp)]⟩
 | cons p parts ih=>
   intro m cs hp hs
   obtain ⟨i,v⟩:=p
   have h0:=hp 0 (i,v) rfl
   have hi:i=m:=by simpa using h0.1
   subst hi
   have hsz:v.cells.size=s:=h0.2
   have hl:cs.size=i*s+(s+parts.length*s):=by
    rw [hs,List.length_cons,Nat.add_mul,Nat.add_mul,Nat.one_mul]; omega
   have hf:=fold_set v.cells.toList 0 (i*s) cs (by rw [Array.length_toList,hsz]; omega)
   obtain ⟨cs',h1,h2⟩:=ih (i+1) _ (fun q p hq=>by have:=hp (q+1) p (by simpa using hq); exact ⟨by omega,this.2⟩) (by
    have h3:=congrArg List.length hf
    simp only [Array.length_toList,List.length_append,List.length_take,List.length_drop,hsz] at h3
    rw [h3,hl,Nat.add_mul,Nat.add_mul,Nat.one_mul]
    omega)
   refine ⟨cs',?_,?_⟩
   ·rw [fill_step (off:=i*s) (size:=s) rfl hsz (by omega)]
    exact h1
   ·rw [h2,hf]
    simp only [List.flatMap_cons,Nat.add_zero,Nat.add_mul,Nat.one_mul]
    rw [List.take_append_of_le_length (by simp [hsz]; omega),List.take_of_length_le (by simp [hsz]; omega),List.append_assoc]
theorem exec_builtin2 {c:Call} {x y:Operand} {t t' : Nat} {v:Value} (ho:o.op = .call c) (hc:c.callee = .builtin .append) (ha:c.args.toList=[x,y]) (ht:c.argTypes.toList=[t,t'])
  (h:(Builtin.append_ #[t,t'] o.type #[a.eval x,a.eval y]).run P w = .ok v w'):(execOp a.eval o).run P w = .ok (.value v) w' := by
 obtain ⟨callee,args,types⟩:=c
 simp only at hc ha ht
 subst hc
 have e1:args = #[x,y]:=by rw [<- Array.toArray_toList (xs:=args),ha]
 have e2:types = #[t,t']:=by rw [<- Array.toArray_toList (xs:=types),ht]
 subst e1 e2
 simp [execOp,ho,resolve,invoke,builtin,h]
theorem elem_zero {C:Ctx E} (hC:COk P C) {t e:Nat} {te:TI E} {τ:Ty N} (h:elemTy C t=some (e,te,τ)) :
  P.underlying t=some (.slice e) /\ ∃ i z,P.info? e=some i/\i.zero=some z/\z.cells.size=i.size/\i.size=τ.size E/\te.size=τ.size E/\i.bytes=te.bytes:=by
 obtain ⟨hu,i,d',hT,h1,h2⟩:=elem_of hC h
 obtain ⟨z,hz,_,hz'⟩:=hT.zero
 exact ⟨hu,i,z,hT.info,hz,by rw [<- Array.length_toList,<- (hz' default (fun _ _=>False)).len,hT.zlen,hT.size],h1,h2,hT.bytes⟩
theorem run_zero {t:TypeId} {i:TypeInfo} {z:Value} (hi:P.info? t=some i) (hz:i.zero=some z):(zeroValue t).run P w = .ok z w:=by
 simp [zeroValue,typeInfo,hi,hz]
theorem run_buildSlice {t e m:Nat} {i:TypeInfo} {z:Value} {parts:Array (Nat×Value)} {cs:Array Value} (hu:P.underlying t=some (.slice e)) (hi:P.info? e=some i) (hz:i.zero=some z) (hs:m*i.size<=16777216)
  (hf:Instr.fill (fun k=>some (k*i.size,i.size)) (madeCells z.cells (m*i.size)) parts.toList=some cs) :
  (Instr.buildSlice t m parts).run P w = .ok (.slice (some ⟨w.heap.size,0,none⟩) m m) (w.alloc (.cells cs e)):=by
 have hsz : ¬ 16777216<m*i.size:=by omega
 unfold madeCells at hf
 by_cases h0:m*i.size=0
 ·have e1:(Array.range (m*i.size)).map (z.cells[· % z.cells.size]!) = #[]:=by rw [h0]; simp
  have e2:(Array.range (m*i.size)).map ((#[]:Array Value)[· % (#[]:Array Value).size]!) = #[]:=by rw [h0]; simp
  rw [e1] at hf
  simp only [Instr.buildSlice,Sem.run_bind,run_underlying hu,Result.andThen_ok,run_size hi]
  rw [if_neg (by omega),if_pos h0]
  simp only [Sem.run_pure,Result.andThen_ok,Sem.run_bind]
  rw [e2,hf]
  simp [newRow]
 ·simp only [Instr.buildSlice,Sem.run_bind,run_underlying hu,Result.andThen_ok,run_size hi]
  rw [if_neg (by omega),if_neg h0]
  simp only [Sem.run_pure,Result.andThen_ok,Sem.run_bind,run_zero hi hz]
  rw [hf]
  simp [newRow]
theorem setRow_storeCells {b off:Nat} {vs:Array Value} {T:TypeId} {us:List Value} (hb:w.heap[b]? = some (.cells vs T (0,0))) (hle:off+us.length<=vs.size) (h1:∀ u ∈ us,u.oneCell' = true) :
  (storeCells ⟨b,off,none⟩ us).run P w = .ok () (w.setRow b (vs.toList.take off++us++vs.toList.drop (off+us.length)).toArray):=by
 have:=run_storeCells_at P b off T us 0 vs w hb (by simpa using hle) h1
 simpa using this
theorem agree_left {x y:Option β} (h:agree x y=some r):x=some r:=by
 unfold agree at h
 split at h
 ·exact h
 ·cases h
theorem agree_right {x y:Option β} (h:agree x y=some r):y=some r:=by
 unfold agree at h
 split at h
 ·rename_i e; rw [<- e]; exact h
 ·cases h
theorem guard_slice (op:BinOp) (t:TypeId) (x y:Operand) (a:Option Addr) (l c:Nat) (a' : Option Addr) (l' c' : Nat):(eqGuard op t x y (.slice a l c) (.slice a' l' c')).run P w = .ok () w:=by
 unfold eqGuard
 split <;> rfl
theorem nilCmp_sound {hd:Hold E} {v:Value} {K:Bool->Option β} (hr:HRep w j tk F hd v) (h:nilCmp hd K=some r):∃ a l c,v = .slice a l c/\K a.isNone=some r:=by
 unfold nilCmp at h
 split at h
 ·have hv:v = .slice none 0 0:=by
   have hr:Rep w F (.val (.slice none 0 0)) v:=hr
   cases hr; rfl
  exact ⟨none,0,0,hv,h⟩
 ·rename_i c _
  split at h
  ·rename_i t xs hl
   have hx:Rep w F (.sl t xs) v:=CRep.leaf hr hl
   cases hx with
   | sl _ _ a cap vs hcap hnil hspot hc hr'=>
     refine ⟨a,xs.length,cap,rfl,?_⟩
     cases a with
     | none=>
       have:xs=[]:=List.length_eq_zero_iff.1 (by have:=hnil rfl; omega)
       subst this
       exact agree_left h
     | some ad=>
       cases xs with
       | nil=>exact agree_right h
       | cons y ys=>exact h
  ·cases h
 ·cases h
theorem Sim.mutRow (h:Sim P base w0 F0 ov σ a w j tk F) {m s e:Nat} {τ:Ty N} {xs ys:List (den E.Γ τ)} {v:Value} {i:TypeInfo} {L' : List Value} (hm:σ.heap[m]? = some (.rw s e τ xs)) (hv:tk (rkey s e)=some v) (hi:P.info? e=some i) (hsz:i.size=τ.size E)
  (hg:w.grownBy w' v.ownBlock) (ho:w'.ownsRow base e i.size v ys.length L') (hr:RowRep w' F τ ys L'):Sim P base w0 F0 ov {σ with heap:=σ.heap.set m (.rw s e τ ys)} a w' j tk F:=by
 obtain ⟨⟨hjm,hms⟩,v0,L,i0,g1,g2,g3,g4,g5,g6⟩:=h.rows m s e τ xs hm
 rw [hv] at g1
 cases g1
 rw [hi] at g2
 cases g2
 obtain ⟨_,_,_,_,_,t3⟩:=h.toks _ v hv
 have hA:Agree F w w' := agree_grown hg fun b p hf=>⟨h.Flt b p hf,fun hb=>g6 b hb.symm p hf⟩
 have get:∀ (q:Nat) (b:Blk E),(σ.heap.set m (.rw s e τ ys))[q]? = some b->(q=m/\b = .rw s e τ ys)\/(q≠m/\σ.heap[q]? = some b):=by
  intro q b hb
  by_cases e:q=m
  ·subst e
   rw [List.getElem?_set] at hb
   simp only [if_true] at hb
   split at hb
   ·exact .inl ⟨rfl,(Option.some.inj hb).symm⟩
   ·cases hb
  ·rw [List.getElem?_set_ne (fun h=>e h.symm)] at hb
   exact .inr ⟨e,hb⟩
 have site:∀ (q b:Nat),j q=some b->w'.heap[b]? = w.heap[b]? := fun q b hj=>hg.block b (h.live q b hj).2.2.2 fun hb=>(t3 b hb.symm).2 q hj
 exact {
  tab:=E.tabM _ _ _ _ h.tab (fun _ _ hf=>hf) hA
  below:=h.below.grown hg h.size fun k hk=>(g4.lt k hk).1
  size:=Nat.le_trans h.size hg.size
  Fold:=h.Fold
  Fnew:=h.Fnew
  Flt:=fun b o hf=>Nat.lt_of_lt_of_le (h.Flt b o hf) hg.size
  agr:=h.agr.trans (hA.mono h.Fold)
  frn:=fun k hk=>by
   obtain ⟨h1,h2,h3,h4,h5⟩:=h.frn k hk
   exact ⟨h1,by rw [hg.block k (Nat.lt_of_lt_of_le h1 h.below.size) (fun e=>h4 _ v hv e.symm)]; exact h2,h3,h4,h5⟩
  outs:=h.outs.mono (fun _ _ hf=>hf) hA (fun _ _ hj=>hj) (fun _ _ ht=>ht)
  itq:=h.itq
  defers:=h.defers.keep fun D _ hD=>by
   rw [hg.block D (Array.getElem?_eq_some_iff.1 hD).1 (fun hgg=>by
    rcases g4.2 with ⟨e,_⟩ | ⟨g',cap,cur,e,_,hc,_⟩
    ·rw [e] at hgg; simp [Value.ownBlock] at hgg
    ·rw [e] at hgg
     simp only [Value.ownBlock,Option.some.injEq] at hgg
     subst hgg
     rw [hc] at hD; cases hD)]
   exact hD
  mks:=h.mks
  len:=h.len
  tmps:=fun i x u hx hu=>(h.tmps i x u hx hu).mono (fun _ _ hf=>hf) hA (fun _ _ hj=>hj) (fun _ _ ht=>ht)
  boxes:=fun q cs hc=>by
   rcases get q _ hc with ⟨_,e⟩ | ⟨_,hc⟩
   ·cases e
   ·obtain ⟨b,vs,T,h1,h2,h3⟩:=h.boxes q cs hc
    exact ⟨b,vs,T,h1,by rw [site q b h1]; exact h2,h3.mono (fun _ _ hf=>hf) hA (fun _ _ hj=>hj) (fun _ _ ht=>ht)⟩
  iters:=fun q str p hc=>by
   rcases get q _ hc with ⟨_,e⟩ | ⟨_,hc⟩
   ·cases e
   ·obtain ⟨b,sb,h1,h2,h3⟩:=h.iters q str p hc
    exact ⟨b,sb,h1,by rw [site q b h1]; exact h2,h3⟩
  maps:=fun q kt vt mm hc=>by
   rcases get q _ hc with ⟨_,e⟩ | ⟨_,hc⟩
   ·cases e
   ·obtain ⟨b,es,cl,h1,h2,h3⟩:=h.maps q kt vt mm hc
    exact ⟨b,es,cl,h1,by rw [site q b h1]; exact h2,h3.mono (fun _ _ hf=>hf) hA⟩
  rows:=fun q s' e' τ' zs hc=>by
   rcases get q _ hc with ⟨e1,e2⟩ | ⟨hne,hc⟩
   ·cases e2
    subst e1
    exact ⟨⟨hjm,hms⟩,v,L',i,hv,hi,hsz,ho,hr,g6⟩
   ·obtain ⟨⟨h1,h1'⟩,h2⟩:=h.rows q s' e' τ' zs hc
    refine ⟨⟨h1,h1'⟩,h2.move (fun _ _ hf=>hf) hA (fun _ hv=>hv) fun u g hu hgu hlt=>⟨hg.block g hlt fun hb => ?_,fun _ hf=>hf⟩⟩
    have:=h.apart _ _ u v g hu hv hgu hb.symm
    simp only [rkey,Prod.mk.injEq] at this
    exact hne (by rw [h1',hms]; exact this.1)
  live:=fun q b hj=>by
   obtain ⟨h1,h2,⟨blk,h3,h4⟩,h5⟩:=h.live q b hj
   refine ⟨h1,h2,⟨blk,?_,h4⟩,Nat.lt_of_lt_of_le h5 hg.size⟩
   rw [List.getElem?_set_ne (fun e=>by subst e; rw [hjm] at hj; cases hj)]
   exact h3
  inj:=h.inj
  toks:=fun k u hk=>by
   by_cases hk2:k=rkey s e
   ·subst hk2
    rw [hv] at hk
    cases hk
    exact ⟨i,ys.length,L',hi,ho,fun g hgg=>⟨fun o hf=>absurd hf (g6 g hgg o),(t3 g hgg).2⟩⟩
   ·obtain ⟨i',n',L2,e1,e2,e3⟩:=h.toks k u hk
    refine ⟨i',n',L2,e1,ownsRow_same e2 fun g hgg=>hg.block g (e2.lt g hgg).2 fun hb=>hk2 (h.apart _ _ u v g hk hv hgg hb.symm),e3⟩
  apart:=h.apart}
theorem RowRep.set {τ:Ty N} {xs:List (den E.Γ τ)} {L us:List Value} {y:den E.Γ τ} {m:Nat} (h:RowRep w F τ xs L) (hy:RowRep w F τ [y] us) (hn:m<xs.length):RowRep w F τ (xs.set m y) (L.take (m*τ.size E)++us++L.drop (m*τ.size E+us.length)):=by
 obtain ⟨h1,h2⟩:=h
 obtain ⟨g1,g2⟩:=hy
 rw [List.length_singleton,Nat.one_mul] at g1
 have hle:m*τ.size E+τ.size E<=xs.length*τ.size E:=by
  have:=Nat.mul_le_mul_right (τ.size E) hn
  rwa [Nat.succ_mul] at this
 have hA:(L.take (m*τ.size E)).length=m*τ.size E:=by rw [List.length_take,h1]; omega
 have hAU:(L.take (m*τ.size E)++us).length=m*τ.size E+τ.size E:=by rw [List.length_append,hA,g1]
 refine ⟨by rw [List.length_append,hAU,List.length_drop,h1,g1,List.length_set]; omega,fun i x c l hx hl => ?_⟩
 have hc:c<τ.size E:=by rw [<- size_leaves (E:=E) τ x]; exact (List.getElem?_eq_some_iff.1 hl).1
 by_cases hi:i=m
 ·subst hi
  rw [List.getElem?_set_self hn] at hx
  cases hx
  obtain ⟨u,e1,e2⟩:=g2 0 y c l rfl hl
  refine ⟨u,?_,e2⟩
  rw [Nat.zero_mul,Nat.zero_add] at e1
  rw [List.getElem?_append_left (by omega),List.getElem?_append_right (by omega),hA,Nat.add_sub_cancel_left]
  exact e1
 ·rw [List.getElem?_set_ne (fun e=>hi e.symm)] at hx
  obtain ⟨u,e1,e2⟩:=h2 i x c l hx hl
  refine ⟨u,?_,e2⟩
  by_cases hlt:i<m
  ·have:=idx_lt hlt hc
   rw [List.getElem?_append_left (by omega),List.getElem?_append_left (by omega),List.getElem?_take_of_lt (by omega)]
   exact e1
  ·have hge:m*τ.size E+τ.size E<=i*τ.size E:=by
    have:=Nat.mul_le_mul_right (τ.size E) (show m+1<=i by omega)
    rwa [Nat.add_mul,Nat.one_mul] at this
   rw [List.getElem?_append_right (by omega),hAU,List.getElem?_drop,g1,<- e1]
   congr 1
   omega
theorem RowRep.oneCell {τ:Ty N} {xs:List (den E.Γ τ)} {L:List Value} (h:RowRep w F τ xs L):∀ u ∈ L,u.oneCell' = true:=by
 intro u hu
 obtain ⟨q,hq⟩:=List.mem_iff_getElem?.1 hu
 have hlt:q<xs.length*τ.size E:=by rw [<- h.1]; exact (List.getElem?_eq_some_iff.1 hq).1
 have hs:=size_pos (E:=E) τ
 have hi:q / τ.size E<xs.length:=Nat.div_lt_of_lt_mul (by rw [Nat.mul_comm]; exact hlt)
 have hm:q % τ.size E<τ.size E:=Nat.mod_lt _ hs
 obtain ⟨u',e1,e2⟩:=h.2 (q / τ.size E) xs[q / τ.size E] (q % τ.size E) ((leaves τ xs[q / τ.size E])[q % τ.size E]'(by rw [size_leaves]; exact hm)) (List.getElem?_eq_getElem hi) (List.getElem?_eq_getElem _)
 rw [show q / τ.size E*τ.size E+q % τ.size E=q by rw [Nat.mul_comm]; exact Nat.div_add_mod q _,hq] at e1
 cases e1
 exact e2.oneCell
theorem Sim.tokCell (h:Sim P base w0 F0 ov σ a w j tk F):∀ k v,tk k=some v->v.oneCell' = true:=by
 intro k v hk
 obtain ⟨i,m,xs,_,h2,_⟩:=h.toks k v hk
 rcases h2.2 with ⟨rfl,_⟩ | ⟨g,cap,cur,rfl,_⟩ <;> rfl
theorem ownsRow_store {g m cap off e size:Nat} {L us:List Value} (h:w.ownsRow base e size (.slice (some ⟨g,0,none⟩) m cap) m L) (hle:off+us.length<=m*size) (h1:∀ u ∈ us,u.oneCell' = true) :
  ∃ w',(storeCells ⟨g,off,none⟩ us).run P w = .ok () w' /\ w'.ownsRow base e size (.slice (some ⟨g,0,none⟩) m cap) m (L.take off++us++L.drop (off+us.length))/\w.grownBy w' (some g):=by
 obtain ⟨hlen,h2⟩:=h
 rcases h2 with ⟨e1,_⟩ | ⟨g',cap',cur,e1,hb,hg,hle2,hcm,hsz,ht⟩
 ·cases e1
 ·simp only [Value.slice.injEq,Option.some.injEq,Addr.mk.injEq,and_true,true_and] at e1
  obtain ⟨rfl,rfl⟩:=e1
  have hms:m*size<=cap*size:=Nat.mul_le_mul_right _ hle2
  have hrun:=setRow_storeCells (P:=P) (off:=off) (us:=us) hg (by rw [hsz]; omega) h1
  refine ⟨_,hrun,⟨?_,.inr ⟨g,cap,_,rfl,hb,setRow_heap w g cur _ e _ hg,hle2,hcm,?_,?_⟩⟩,⟨rfl,rfl,rfl,by simp,fun k _ hk=>setRow_other w g k _ (fun e=>hk (by rw [e]))⟩⟩
  ·simp only [List.length_append,List.length_take,List.length_drop,hlen]; omega
  ·simp only [List.size_toArray,List.length_append,List.length_take,List.length_drop,Array.length_toList,hsz]; omega
  ·have hcl:cur.toList.length=cap*size:=by rw [Array.length_toList,hsz]
   have hA:(cur.toList.take off++us).length=off+us.length:=by rw [List.length_append,List.length_take,hcl]; omega
   rw [List.toList_toArray,List.take_append,hA,List.take_of_length_le (by omega),<- ht,List.take_take,Nat.min_eq_left (by omega),List.drop_take]
theorem LRep.frz {F' : Fz} {s e:Nat} {τ:Ty N} {xs:List (den E.Γ τ)} {v:Value} {tk' : Toks} (hv:tk (rkey s e)=some v) (hr:Rep (E:=E) w F' (.sl τ xs) v):∀ {cs:List (Cell E)} {vs:List Value},LRep w j tk F cs vs->LRep w j tk' F' (cs.map (·.kill (rkey s e))) vs->LRep w j tk' F' (cs.map (Cell.frz s e τ xs)) vs
 | [],[],_,_=>trivial
 | c::cs,u::us,h,h' => by
   refine ⟨?_,LRep.frz hv hr h.2 h'.2⟩
   have h1:=h.1
   have h2:=h'.1
   cases c with
   | rw s' e' p=>
     simp only [Cell.kill,Cell.frz] at h2 ⊢
     cases hq:Tok.eq (rkey s' e') (rkey s e) with
     | false=>rw [hq] at h2; exact h2
     | true=>
       have hk:=Tok.eq_iff.1 hq
       cases p with
       | none=>
         have h1:tk (rkey s' e')=some u:=h1
         rw [hk,hv] at h1
         cases h1
         exact hr
       | some _=>exact trivial
   | _=>exact h2
 | [],_::_,h,_=>h.elim
 | _::_,[],h,_=>h.elim
theorem Sim.setBox (h:Sim P base w0 F0 ov σ a w j tk F) {b:Nat} {cs cs2:List (Cell E)} (hb:σ.heap[b]? = some (.cells cs)) (hr:∀ (g:Nat) (vs:Array Value) (T:TypeId),j b=some g->w.heap[g]? = some (.cells vs T (0,0))->LRep w j tk F cs vs.toList->LRep w j tk F cs2 vs.toList) :
  Sim P base w0 F0 ov {σ with heap:=σ.heap.set b (.cells cs2)} a w j tk F:=by
 have get:∀ (q:Nat) (x:Blk E),(σ.heap.set b (.cells cs2))[q]? = some x->(q=b/\x = .cells cs2)\/(q≠b/\σ.heap[q]? = some x):=by
  intro q x hx
  by_cases e:q=b
  ·subst e
   rw [List.getElem?_set] at hx
   simp only [if_true] at hx
   split at hx
   ·exact .inl ⟨rfl,(Option.some.inj hx).symm⟩
   ·cases hx
  ·rw [List.getElem?_set_ne (fun h=>e h.symm)] at hx
   exact .inr ⟨e,hx⟩
 exact {
  tab:=h.tab
  below:=h.below,size:=h.size,Fold:=h.Fold,Fnew:=h.Fnew,Flt:=h.Flt,agr:=h.agr,frn:=h.frn,outs:=h.outs,itq:=h.itq,defers:=h.defers,mks:=h.mks,len:=h.len,tmps:=h.tmps
  boxes:=fun q cs' hc=>by
   rcases get q _ hc with ⟨rfl,e⟩ | ⟨_,hc⟩
   ·cases e
    obtain ⟨g,vs,T,h1,h2,h3⟩:=h.boxes q cs hb
    exact ⟨g,vs,T,h1,h2,hr g vs T h1 h2 h3⟩
   ·exact h.boxes q cs' hc
  iters:=fun q str p hc=>by
   rcases get q _ hc with ⟨_,e⟩ | ⟨_,hc⟩
   ·cases e
   ·exact h.iters q str p hc
  maps:=fun q kt vt mm hc=>by
   rcases get q _ hc with ⟨_,e⟩ | ⟨_,hc⟩
   ·cases e
   ·exact h.maps q kt vt mm hc
  rows:=fun q s' e' τ' ys hc=>by
   rcases get q _ hc with ⟨_,e⟩ | ⟨_,hc⟩
   ·cases e
   ·exact h.rows q s' e' τ' ys hc
  live:=fun q g hg=>by
   obtain ⟨h1,h2,⟨blk,h3,h4⟩,h5⟩:=h.live q g hg
   by_cases e:q=b
   ·subst e
    exact ⟨h1,h2,⟨.cells cs2,by rw [List.getElem?_set_self (List.getElem?_eq_some_iff.1 hb).1],fun e=>by cases e⟩,h5⟩
   ·exact ⟨h1,h2,⟨blk,by rw [List.getElem?_set_ne (fun h=>e h.symm)]; exact h3,h4⟩,h5⟩
  inj:=h.inj,toks:=h.toks,apart:=h.apart}
theorem mkRunes_sound {C:Ctx E} (hC:COk P C) (h:Sim P base w0 F0 ov σ a w j tk F) {d:Nat} {K:Hold E->Option β} (hm:mkRunes C o=true) (he:evalR C σ d o K=some r) :
  ∃ z v w',(execOp a.eval o).run P w = .ok (.value v) w' /\ (∀ d,SimE P base w0 F0 ov (σ.put d z) (a.put d v) w')/\K z=some r:=by
 unfold mkRunes at hm
 split at hm
 ·rename_i s t x ho
  unfold evalR at he
  rw [ho] at he
  have hor:ofRunes C s t (σ.ev x)=none:=by
   unfold toRunes at hm
   split at hm
   ·rename_i sd e te hsd hel
    split at hm
    ·rename_i hd hde
     unfold ofRunes elemTy
     rw [hsd]
     dsimp only
     rw [hd]
    ·cases hm
   ·cases hm
  simp only [hor,hm] at he
  split at he
  ·rename_i b hx
   obtain ⟨hlim,he⟩:=cond_none_right he
   have hlim:(rns b).length<=67108864:=of_decide_eq_true hlim
   obtain ⟨e,i,hus,hut,hue,hi,hsz⟩:=toRunes_inv hC hm
   obtain ⟨u,hu,hub⟩:=rep_str_inv (show Rep w F (.str b) (a.eval x) by have:=h.ev x; rw [hx] at this; exact this)
   have hrr:=runesFrom_eq u b hub
   have hrun:=run_runes_of_string (P:=P) w s t e u hus hut hue (by rw [hrr]; simp; omega)
   rw [hrr] at hrun
   simp only [List.size_toArray,List.length_map] at hrun
   have hge:=grownCap_ge w (rns b).length 0 e
   have hle:=grownCap_le_maxLen w (rns b).length 0 e (by simp only [maxLen]; omega)
   refine ⟨_,.slice (some ⟨w.heap.size,0,none⟩) (rns b).length (grownCap w (rns b).length 0 e),w.drew.alloc (.cells (((rns b).map (Value.int .i32)).toArray++Array.replicate (grownCap w (rns b).length 0 e - (rns b).length) (.int .i32 0)) e),by simp only [execOp,ho,hu,Sem.run_bind,hrun,Result.andThen_ok,Sem.run_pure],h.newVal (e:=e) (i:=i) (τ := .int .i32) (xs:=rns b) (L:=(rns b).map (Value.int .i32)) (((Below.refl _ _).drew).alloc (Nat.le_refl _) _) hsz
    ⟨by rw [hsz]; simp [Ty.size],.inr ⟨w.heap.size,_,_,rfl,h.size,heap_alloc_new w.drew _,hge,hle,by rw [hsz]; simp [Ty.size]; omega,by rw [hsz]; simp [Ty.size]⟩⟩ (fun g hg=>by simp [Value.ownBlock] at hg; omega) ⟨by simp [Ty.size],fun q x c l hx hl => ?_⟩,he⟩
   simp [leaves] at hl
   obtain ⟨h1,h2⟩:=List.getElem?_eq_some_iff.1 hl
   have hc0:c=0:=by simpa using h1
   subst hc0
   simp at h2
   subst h2
   refine ⟨.int .i32 x,?_,Rep.int _ _⟩
   simp only [Ty.size,Nat.mul_one,Nat.add_zero,List.getElem?_map]
   rw [hx]; rfl
  ·cases he
 ·cases hm
theorem evalOp_sound {C:Ctx E} {X:Ext E β} (hC:COk P C) (hS:SigOk P C) (h:Sim P base w0 F0 ov σ a w j tk F) {K:St E->Option β} (he:evalOp C X σ o K=some r)
  (hk:∀ σ' a' w',SimE P base w0 F0 ov σ' a' w' -> K σ' = some r->next a' w')
  (hX:∀ c fv c',o.op = .call c->c.callee = .value fv->σ.ev fv = .one c' -> X.call σ o.dst c' (evL σ c.args.toList) K=some r->o.wpIn (fence ro) n P a w next Q):o.wpIn (fence ro) n P a w next Q:=by
 have plain:∀ (d:Option Nat) (hd:o.dst=d) (hn:isCall o=false) (hdef:∀ c,o.op ≠ .defer c) (dd:Nat) (he:evalR C σ dd o (fun x=>K (σ.put d x))=some r),o.wpIn (fence ro) n P a w next Q:=by
  intro d hd hn hdef dd he
  cases hmr:mkRunes C o with
  | true=>
    obtain ⟨z,v,w',h1,h2,h3⟩:=mkRunes_sound hC h hmr he
    refine step_value hdef h1 ?_
    rw [hd]
    exact hk _ _ _ (h2 d) h3
  | false=>
    obtain ⟨z,v,h1,h2,h3⟩:=evalR_sound hC h hn hmr he
    refine step_value hdef h1 ?_
    rw [hd]
    exact hk _ _ _ ⟨j,tk,F,h.put h2 d⟩ h3
 unfold evalOp at he
 split at he
 ·
  rename_i t x d ho hdst
  split at he
  ·rename_i ti hti hgone
   obtain ⟨i,td,hT,_⟩:=tok_of hC hti
   split at he
   ·rename_i hc
    simp only [Bool.and_eq_true,Nat.beq_eq] at hc
    have hne:(σ.ev x).cells≠[]:=by
     intro e
     have h0:=hc.2.2
     rw [e] at h0
     simp at h0
    have hx:=(h.ev x).cells hc.2.1 hne
    refine step_value (v := .pointer (some ⟨w.heap.size,0,none⟩)) (w' := w.alloc (.cells (a.eval x).cells t)) (by rw [ho]; intro c e; cases e) ?_ ?_
    ·simp [execOp,ho,Instr.box,newVar,newRow]
    ·rw [hdst]
     have:=h.newBox (t:=d) (T:=t) hgone hx
     rw [Array.toArray_toList] at this
     exact hk _ _ _ ⟨_,_,_,this⟩ he
   ·cases he
  ·cases he
 ·
  rename_i t d ho hdst
  split at he
  ·rename_i ti hti hgone
   obtain ⟨i,td,hT,_⟩:=tok_of hC hti
   obtain ⟨z,hz,_,hzr⟩:=hT.zero
   refine step_value (v := .pointer (some ⟨w.heap.size,0,none⟩)) (w' := w.alloc (.cells z.cells t)) (by rw [ho]; intro c e; cases e) ?_ ?_
   ·simp [execOp,ho,Instr.alloc,run_zero hT.info hz,newVar,newRow]
   ·rw [hdst]
    have:=h.newBox (t:=d) (T:=t) hgone (LRep.of_tvs (hzr w F))
    rw [Array.toArray_toList] at this
    exact hk _ _ _ ⟨_,_,_,this⟩ he
  ·cases he
 ·
  rename_i op t x t' d ho hdst
  split at he
  ·rename_i ti hti
   obtain ⟨i,td,hT,htd⟩:=tok_of hC hti
   split at he
   ·rename_i e hd
    rw [hd] at htd
    have hu:=under_slice htd
    obtain ⟨ad,l,c,hv,hK⟩:=nilCmp_sound (h.ev x) he
    refine step_value (v := .bool ad.isNone) (w' := w) (by rw [ho]; intro c e; cases e) ?_ ?_
    ·have h1:(binOp .eql t (.slice ad l c) (.slice none 0 0)).run P w = .ok (.bool ad.isNone) w:=by
      simp only [binOp]
      simp [run_equal_slice_nil w t e ad l c hu]
     simp only [execOp,ho,hv,show a.eval (.const (.slice none 0 0)) = .slice none 0 0 from rfl,Sem.run_bind,guard_slice,Result.andThen_ok,h1,Sem.run_pure]
    ·rw [hdst]
     exact hk _ _ _ ⟨_,_,_,h.put (hd := .one (.tv (.bool ad.isNone))) (Rep.bool _) (some d)⟩ hK
   ·cases he
  ·rename_i ti hti
   obtain ⟨i,td,hT,htd⟩:=tok_of hC hti
   split at he
   ·rename_i e hd
    rw [hd] at htd
    have hu:=under_slice htd
    obtain ⟨ad,l,c,hv,hK⟩:=nilCmp_sound (h.ev x) he
    refine step_value (v := .bool (!ad.isNone)) (w' := w) (by rw [ho]; intro c e; cases e) ?_ ?_
    ·have h1:=run_neq_slice_nil (P:=P) w t e ad l c hu
     simp only [execOp,ho,hv,show a.eval (.const (.slice none 0 0)) = .slice none 0 0 from rfl,Sem.run_bind,guard_slice,Result.andThen_ok,h1,Sem.run_pure]
    ·rw [hdst]
     exact hk _ _ _ ⟨_,_,_,h.put (hd := .one (.tv (.bool (!ad.isNone)))) (Rep.bool _) (some d)⟩ hK
   ·cases he
  ·cases he
 ·
  rename_i t x d ho hdst
  split at he
  ·rename_i ti hti hgone
   obtain ⟨i,td,hT,htd⟩:=tok_of hC hti
   split at he
   ·rename_i str hd hx
    rw [hd] at htd
    have hu:=under_str htd
    obtain ⟨sb,hsv,hsb⟩:∃ sb:ByteArray,a.eval x = .string sb/\sb.data.toList=str:=by
     have:=h.ev x
     rw [hx] at this
     generalize hv:a.eval x=vv at this
     cases this with
     | str s=>exact ⟨s,rfl,rfl⟩
    refine step_value (v := .pointer (some ⟨w.heap.size,0,none⟩)) (w' := w.alloc (.stringIter sb 0)) (by rw [ho]; intro c e; cases e) ?_ ?_
    ·have:=run_range_string (P:=P) w t sb hu
     simp only [execOp,ho,hsv,Sem.run_bind,this,Result.andThen_ok,Sem.run_pure]
     rfl
    ·rw [hdst]
     exact hk _ _ _ ⟨_,_,_,h.newBlk (hc := .one (.ptr (σ.off+d) 0)) (u := .pointer (some ⟨w.heap.size,0,none⟩)) (obj := .stringIter sb 0) hgone (fun e=>by cases e) (fun cs e=>by cases e) (fun str' pos e=>by cases e; exact ⟨sb,rfl,hsb⟩) (fun _ _ _ e=>by cases e) (fun _ _ hj=>⟨_,hj,rfl⟩)⟩ he
   ·cases he
  ·cases he
 ·
  rename_i x d ho hdst
  split at he
  ·rename_i s hx
   split at he
   ·rename_i str pos hcs
    have hp:=h.ev x
    rw [hx] at hp
    obtain ⟨b,hb1,hb2⟩:=hp
    obtain ⟨b',sb,e1,e2,e3⟩:=h.iters s str pos hcs
    rw [hb1] at e1
    cases e1
    have hsz:sb.size=str.length:=by rw [<- e3]; rfl
    have hdec:Utf8.decode sb pos=dec str pos:=by rw [<- e3]; rfl
    cases hlt:decide (pos<str.length) with
    | true=>
      rw [hlt] at he
      have hlt' : pos<sb.size:=by rw [hsz]; exact of_decide_eq_true hlt
      refine step_value (v := .tuple #[.bool true,.int .i64 pos,.int .i32 (dec str pos).1]) (w' := {w with heap:=w.heap.setIfInBounds b (.stringIter sb (pos+(dec str pos).2))}) (by rw [ho]; intro c e; cases e) ?_ ?_
      ·simp only [execOp,ho,hb2,Instr.next,getObj,setObj,Sem.run_bind,Sem.run,e2,Result.andThen,hlt',if_true,hdec,goInt]
       rfl
      ·rw [hdst]
       have hs' := (h.iterStep (pos' := pos+(dec str pos).2) hb1 hcs e2 e3).put (hd := .tup [(false,[.tv (.bool true)]),(false,[.tv (.int .i64 pos)]),(false,[.tv (.int .i32 (dec str pos).1)])]) (u := .tuple #[.bool true,.int .i64 pos,.int .i32 (dec str pos).1])
        ⟨[.bool true,.int .i64 pos,.int .i32 (dec str pos).1],rfl,⟨_,rfl,Rep.bool _⟩,⟨_,rfl,Rep.int _ _⟩,⟨_,rfl,Rep.int _ _⟩,trivial⟩ (some d)
       exact hk _ _ _ ⟨_,_,_,hs'⟩ he
    | false=>
      rw [hlt] at he
      have hlt' : ¬ pos<sb.size:=by rw [hsz]; exact of_decide_eq_false hlt
      refine step_value (v := .tuple #[.bool false]) (w' := w) (by rw [ho]; intro c e; cases e) ?_ ?_
      ·simp [execOp,ho,hb2,Instr.next,getObj,Sem.run_bind,Sem.run,e2,Result.andThen,hlt']
      ·rw [hdst]
       exact hk _ _ _ ⟨_,_,_,h.put (hd := .tup [(false,[.tv (.bool false)])]) (u := .tuple #[.bool false]) ⟨[.bool false],rfl,⟨_,rfl,Rep.bool _⟩,trivial⟩ (some d)⟩ he
   ·cases he
  ·cases he
 ·
  rename_i t x y ho hdst
  split at he
  ·rename_i ti hti
   obtain ⟨i,td,hT,_⟩:=tok_of hC hti
   split at he
   ·rename_i s off hx
    split at he
    ·rename_i cs hcs
     split at he
     ·rename_i hc
      simp only [Bool.and_eq_true,Nat.beq_eq] at hc
      obtain ⟨⟨h1,h2⟩,h3,h3'⟩:=hc
      have h2:=Nat.le_of_ble_eq_true h2
      have hp:=h.ev x
      rw [hx] at hp
      obtain ⟨b,hb1,hb2⟩:=hp
      obtain ⟨b',vs,T,e1,e2,e3⟩:=h.boxes s cs hcs
      rw [hb1] at e1
      cases e1
      have hne:(σ.ev y).cells≠[]:=by
       intro e
       rw [e] at h3'
       simp at h3'
      have hy:=(h.ev y).cells2 h.tokCell h3 hne
      have hl:=hy.len
      have hcl:=e3.len
      refine step_skip (dst:=none) hdst (by rw [ho]; intro c e; cases e) (w' := w.setRow b (vs.toList.take off++(a.eval y).cells.toList++vs.toList.drop (off+(a.eval y).cells.toList.length)).toArray) ?_ ?_
      ·have hsz:(a.eval y).cells.size=i.size:=by rw [<- Array.length_toList,<- hl,h1,hT.size]
       have hrun:=setRow_storeCells (P:=P) (off:=off) (us:=(a.eval y).cells.toList) e2 (by rw [<- hl,h1,<- Array.length_toList,<- hcl]; exact h2) (fun u hu=>hy.oneCell2 h.tokCell h3 u hu)
       simp only [execOp,ho,Instr.storeAt,hb2,Instr.sureAddr,storeVar,Sem.run_bind,Sem.run_pure,Result.andThen_ok,run_size hT.info]
       rw [if_neg (by simp [hsz])]
       rw [hrun]
       rfl
      ·have:=h.store (s:=s) hb1 e2 (e3.setRange hy (o:=off))
       exact hk _ _ _ ⟨_,_,_,this⟩ he
     ·cases he
    ·cases he
   ·rename_i s e m z hx
    split at he
    ·rename_i s' e' τ xs hrow
     split at he
     ·rename_i yv hc hpk
      simp only [Bool.and_eq_true,Nat.beq_eq] at hc
      obtain ⟨⟨h1,h2⟩,h3,h4⟩:=hc
      subst h1 h2 h3 h4
      have hp:=h.ev x
      rw [hx] at hp
      obtain ⟨g,len,cap,e1,e2,e3⟩:=hp
      obtain ⟨_,v0,L,i0,g1,g2,g3,g4,g5,g6⟩:=h.rows _ _ _ _ _ hrow
      rw [e1] at g1
      cases g1
      rw [hT.info] at g2
      cases g2
      have hlen:len=xs.length:=by
       rcases g4.2 with ⟨e,_⟩ | ⟨_,_,_,e,_⟩
       ·cases e
       ·simp only [Value.slice.injEq] at e; exact e.2.1
      subst hlen
      have hpr:=(partsH_row h [(0,y)] 0 [yv] (by simp [partsH,hpk])).2.2
      simp only [List.flatMap_cons,List.flatMap_nil,List.append_nil] at hpr
      have hul:(a.eval y).cells.toList.length=τ.size E:=by rw [hpr.1]; simp
      have hoff:e1=e1:=rfl
      have hle:m*ti.size+(a.eval y).cells.toList.length<=xs.length*i.size:=by
       have:=Nat.mul_le_mul_right i.size (show m+1<=xs.length from e2)
       rw [Nat.add_mul,Nat.one_mul] at this
       rw [hul,<- g3,<- hT.size]
       exact this
      obtain ⟨w',hrun,ho',hg'⟩:=ownsRow_store (P:=P) g4 hle hpr.oneCell
      refine step_skip (dst:=none) hdst (by rw [ho]; intro c e; cases e) (w' := w') ?_ ?_
      ·simp only [execOp,ho,Instr.storeAt,e3,Instr.sureAddr,storeVar,Sem.run_bind,Sem.run_pure,Result.andThen_ok,run_size hT.info]
       rw [if_neg (by rw [<- Array.length_toList,hul,hT.size,<- hT.size,g3]; simp)]
       rw [hrun]
       rfl
      ·have hA:Agree F w w' := agree_grown hg' fun b o hf=>⟨h.Flt b o hf,fun e=>by cases e; exact g6 g rfl o hf⟩
       have hset:=(g5.set hpr e2).mono (fun _ _ hf=>hf) hA
       rw [show m*τ.size E=m*ti.size by rw [<- g3,hT.size]] at hset
       have hlen2:(xs.set m yv).length=xs.length:=List.length_set
       exact hk _ _ _ ⟨_,_,_,h.mutRow hrow e1 hT.info g3 hg' (by rw [hlen2]; exact ho') hset⟩ he
     ·cases he
    ·cases he
   ·cases he
  ·cases he
 ·
  rename_i t m parts d ho hdst
  split at he
  ·rename_i e te τ hel
   obtain ⟨hu,i,z,hi,hz,hzs,hs,hte,hby⟩:=elem_zero hC hel
   split at he
   ·rename_i xs hxs
    split at he
    ·rename_i hc
     simp only [Bool.and_eq_true,Nat.beq_eq,Bool.not_eq_true'] at hc
     obtain ⟨⟨h1,h2⟩,h3⟩:=hc
     have h2:=Nat.le_of_ble_eq_true h2
     obtain ⟨hl,hp,hr⟩:=partsH_row h parts.toList 0 xs hxs
     have hms:m*i.size<=16777216:=by rw [hs,<- hte]; exact h2
     have hps:(parts.toList.map fun p=>(p.1,a.eval p.2)).length=m:=by rw [List.length_map,h1]
     obtain ⟨cs',hf,hcs'⟩:=fill_row (s:=i.size) (parts.toList.map fun p=>(p.1,a.eval p.2)) 0 (madeCells z.cells (m*i.size)) (fun q p hq=>by
      rw [List.getElem?_map,Option.map_eq_some_iff] at hq
      obtain ⟨p',hp',rfl⟩:=hq
      have:=hp q p' hp'
      exact ⟨this.1,by rw [this.2,hs]⟩) (by rw [size_madeCells,hps,Nat.zero_add])
     have hcl:cs'.toList=parts.toList.flatMap fun p=>(a.eval p.2).cells.toList:=by
      rw [hcs']; simp [List.flatMap_map]
     refine step_value (v := .slice (some ⟨w.heap.size,0,none⟩) m m) (w' := w.alloc (.cells cs' e)) (by rw [ho]; intro c e; cases e) ?_ ?_
     ·have hf' : Instr.fill (fun k=>some (k*i.size,i.size)) (madeCells z.cells (m*i.size)) (parts.map fun (k,x)=>(k,a.eval x)).toList=some cs' := by
       rw [<- hf]
       congr 1
       rw [Array.toList_map]
      simp only [execOp,ho,Sem.run_bind,run_buildSlice hu hi hz hms hf',Result.andThen_ok,Sem.run_pure]
     ·rw [hdst]
      have hxl:xs.length=m:=by rw [hl,h1]
      have hb:Below w.heap.size w (w.alloc (.cells cs' e)):=(Below.refl _ _).alloc (Nat.le_refl _) _
      have hsize:cs'.size=m*i.size:=by
       rw [<- Array.length_toList,hcl,hr.1,hxl,hs]
      have hrow:=World.ownsRow_lit (e:=e) w cs' m h.size (by have:=size_pos (E:=E) τ; have hm1:m*1<=m*i.size:=Nat.mul_le_mul_left _ (by rw [hs]; exact this); simp only [maxLen]; omega) hsize
      rw [hcl,<- hxl] at hrow
      rw [hxl] at hrow
      split at he
      ·have:=h.newRow (d:=σ.off+d) (q0:=d) (τ:=τ) (xs:=xs) (v := .slice (some ⟨w.heap.size,0,none⟩) m m) hb hi hs (by rw [hxl]; exact hrow) (fun g hg=>by simp [Value.ownBlock] at hg; omega) hr h3
       exact hk _ _ _ this he
      ·split at he
       ·rename_i hgone
        have hA:Agree F w (w.alloc (.cells cs' e)):=agree_grown (row:=none) ⟨hb.os,hb.tape,hb.output,hb.size,fun k hk _=>hb.block k hk⟩ (fun b o hf=>⟨h.Flt b o hf,by simp⟩)
        have:=(h.grow hb).addRow (s:=σ.off+d) (e:=e) rfl (v := .slice (some ⟨w.heap.size,0,none⟩) m m) hgone h3 hi hs (by rw [hxl]; exact hrow) (hr.mono (fun _ _ hf=>hf) hA) fun g hg=>by
         simp only [Value.ownBlock,Option.some.injEq] at hg
         subst hg
         exact ⟨fun s hs' => by have:=site_lt h hs'; omega,fun p hf=>by have:=h.Flt _ p hf; omega,fun q u hq hu=>by have:=tok_lt h hq hu; omega,fun hf=>by have:=(h.frn _ hf).1; have:=h.below.size; omega⟩
        exact hk _ _ _ (this.putRow (by simp)) he
       ·cases he
    ·cases he
   ·cases he
  ·cases he
 ·
  rename_i x d ho hdst
  split at he
  ·split at he
   ·rename_i s e hx
    split at he
    ·rename_i s' e' τ xs hrow
     split at he
     ·rename_i hc
      simp only [Bool.and_eq_true] at hc
      obtain ⟨h1,h2⟩:=hc
      have h1:=Nat.eq_of_beq_eq_true h1
      have h2:=Nat.eq_of_beq_eq_true h2
      subst h1 h2
      have hv:=h.ev x
      rw [hx] at hv
      obtain ⟨tk',F',hs',hrep⟩:=h.thaw hrow (v:=a.eval x) hv
      refine step_value (v:=a.eval x) (w' := w) (by rw [ho]; intro c e; cases e) (by simp [execOp,ho]) ?_
      rw [hdst]
      exact hk _ _ _ ⟨_,_,_,hs'.put (hd := .one (.tv (.sl τ xs))) hrep (some d)⟩ he
     ·cases he
    ·cases he
   ·cases he
  ·exact plain _ hdst (by simp [isCall,ho]) (by rw [ho]; intro c e; cases e) _ he
 ·
  rename_i t x d ho hdst
  split at he
  ·split at he
   ·rename_i b off hx
    split at he
    ·rename_i cs hcs
     split at he
     ·rename_i s e hro
      split at he
      ·rename_i s' e' τ xs hrow
       split at he
       ·rename_i hc
        simp only [Bool.and_eq_true] at hc
        obtain ⟨h1,h2⟩:=hc
        have h1:=Nat.eq_of_beq_eq_true h1
        have h2:=Nat.eq_of_beq_eq_true h2
        subst h1 h2
        obtain ⟨_,v0,_,_,hv,_⟩:=h.rows _ _ _ _ _ hrow
        obtain ⟨tk',F',hs',hrep⟩:=h.thaw hrow hv
        have hb' : (σ.kill (rkey s' e')).heap[b]? = some (.cells (cs.map (·.kill (rkey s' e')))):=by simp [St.kill,hcs,Blk.kill]
        have hs2:=hs'.setBox (cs2:=cs.map (Cell.frz s' e' τ xs)) hb' fun g vs T hj hg hL=>by
         obtain ⟨g0,vs0,T0,e1,e2,e3⟩:=h.boxes b cs hcs
         rw [hj] at e1
         cases e1
         rw [hg] at e2
         cases e2
         exact e3.frz hv hrep hL
        obtain ⟨z,v,g1,g2,g3⟩:=evalR_sound hC hs2 (by simp [isCall,ho]) (by simp [mkRunes,ho]) he
        refine step_value (by rw [ho]; intro c e; cases e) g1 ?_
        rw [hdst]
        exact hk _ _ _ ⟨_,_,_,hs2.put g2 (some d)⟩ g3
       ·cases he
      ·cases he
     ·cases he
    ·cases he
   ·cases he
  ·exact plain _ hdst (by simp [isCall,ho]) (by rw [ho]; intro c e; cases e) _ he
 ·
  rename_i t x y d ho hdst
  split at he
  ·split at he
   ·rename_i e te τ0 s e' k m hel hx hy
    split at he
    ·rename_i s' e'' τ xs hrow
     split at he
     ·rename_i hc
      simp only [Bool.and_eq_true,Nat.beq_eq] at hc
      obtain ⟨h1,h2,h3⟩:=hc
      subst h1 h2 h3
      obtain ⟨hcond,he⟩:=cond_none_right he
      simp only [Bool.and_eq_true,decide_eq_true_eq] at hcond
      obtain ⟨hu,i,d',hT,hsz,_⟩:=elem_of hC hel
      have hxv:=h.ev x
      rw [hx] at hxv
      have hxv:tk (rkey s' e')=some (a.eval x):=hxv
      have hi:a.eval y = .int k m:=by have:=h.ev y; rw [hy] at this; exact rep_int_inv this
      obtain ⟨_,v0,L,i0,g1,g2,g3,g4,g5,g6⟩:=h.rows _ _ _ _ _ hrow
      rw [hxv] at g1
      cases g1
      rcases g4.2 with ⟨e,hn0⟩ | ⟨g,cap,cur,e,_⟩
      ·omega
      ·have hlt:m.toNat<xs.length:=by omega
       refine step_value (v := .pointer (some ⟨g,m.toNat*te.size,none⟩)) (w' := w) (by rw [ho]; intro c e; cases e) ?_ ?_
       ·simp [execOp,ho,Instr.indexAt,hi,asIntOf,run_underlying hu,e,hcond.1,hcond.2,run_size hT.info,hT.size,addr_add]
       ·rw [hdst]
        refine hk _ _ _ ⟨_,_,_,h.put (hd := .one (.rw s' e' (some (m.toNat,te.size)))) (u := .pointer (some ⟨g,m.toNat*te.size,none⟩)) ⟨g,xs.length,cap,by rw [hxv,e],hlt,rfl⟩ (some d)⟩ he
     ·cases he
    ·cases he
   ·cases he
  ·exact plain _ hdst (by simp [isCall,ho]) (by rw [ho]; intro c e; cases e) _ he
 ·
  rename_i t l c d ho hdst
  split at he
  ·rename_i e te τ kl kc m hel hl hc
   obtain ⟨hu,i,z,hi,hz,hzs,hs,hte,hby⟩:=elem_zero hC hel
   split at he
   ·rename_i hcc
    simp only [Bool.or_eq_false_iff,Bool.not_eq_false'] at hcc
    obtain ⟨h3,h4⟩:=hcc
    have h4:=Nat.le_of_ble_eq_true h4
    obtain ⟨hcond,he⟩:=cond_none_right he
    simp only [Bool.and_eq_true,decide_eq_true_eq] at hcond
    have hlv:a.eval l = .int kl 0:=by have:=h.ev l; rw [hl] at this; exact rep_int_inv this
    have hcv:a.eval c = .int kc m:=by have:=h.ev c; rw [hc] at this; exact rep_int_inv this
    have hm:(m.toNat:Int)=m:=by omega
    have hmle:m.toNat<=67108864:=by have:m<=(67108864:Nat):=hcond.2; omega
    obtain ⟨w',hrun,hrow,hg⟩:=run_make_own (P:=P) w base t e i z i.size hu hi hz rfl kl kc m.toNat (by have:=Nat.mul_le_mul h4 hmle; rw [hby]; omega) (by simp only [maxLen]; omega) h.size
    rw [hm] at hrun
    refine step_value (v := .slice (some ⟨w.heap.size,0,none⟩) 0 m.toNat) (w' := w') (by rw [ho]; intro c e; cases e) ?_ ?_
    ·simp [execOp,ho,hlv,hcv,hrun]
    ·rw [hdst]
     have hb:Below w.heap.size w w' := ⟨hg.os,hg.tape,hg.output,hg.size,fun k hk=>hg.block k hk (by simp)⟩
     have:=h.newRow (d:=σ.off+d) (q0:=d) (τ:=τ) (xs:=[]) (v := .slice (some ⟨w.heap.size,0,none⟩) 0 m.toNat) hb hi hs hrow (fun g hg=>by simp [Value.ownBlock] at hg; omega) ⟨by simp,fun q x c l hx=>by simp at hx⟩ h3
     exact hk _ _ _ this he
   ·cases he
  ·cases he
 ·
  rename_i t rsv d ho hdst
  split at he
  ·rename_i kt vt n hkv hgone hrs
   have hu:∃ k e,P.underlying t=some (.map k e):=by
    unfold mapKV at hkv
    split at hkv
    ·rename_i ti hti
     obtain ⟨_,_,_,htd⟩:=tok_of hC hti
     split at hkv
     ·rename_i k e hd
      rw [hd] at htd
      exact ⟨k,e,under_map htd⟩
     ·cases hkv
    ·cases hkv
   obtain ⟨k,e,hu⟩:=hu
   refine step_value (v := .map (some w.heap.size)) (w' := w.alloc (.map #[] 0)) (by rw [ho]; intro c e; cases e) ?_ ?_
   ·rcases optInt_sound h hrs with ⟨rfl,_⟩ | ⟨y,ik,m,rfl,_,hv⟩
    ·simp [execOp,ho,Instr.makeMap,newObj,Sem.run]
    ·simp [execOp,ho,Instr.makeMap,hv,run_underlying hu,asInt,asIntOf,newObj,Sem.run,Result.andThen]
   ·rw [hdst]
    exact hk _ _ _ ⟨_,_,_,h.newBlk (hc := .one (.mp (σ.off+d))) (u := .map (some w.heap.size)) (obj := .map #[] 0) hgone (fun e=>by cases e) (fun cs e=>by cases e) (fun _ _ e=>by cases e) (fun _ _ m e=>by cases e; exact ⟨_,_,rfl,trivial⟩) (fun _ _ hj=>⟨_,hj,rfl⟩)⟩ he
  ·cases he
 ·
  rename_i t m kx vx ho hdst
  split at he
  ·rename_i s hm
   split at he
   ·rename_i kt vt ents hbs
    split at he
    ·rename_i z x y hz hx hy
     have hp:=h.ev m
     rw [hm] at hp
     obtain ⟨b,hb1,hb2⟩:=hp
     obtain ⟨b',es,cl,e1,e2,e3⟩:=h.maps s kt vt ents hbs
     rw [hb1] at e1
     cases e1
     have hkx:HRep (E:=E) w noSite noTok F (valH kt x) (a.eval kx):=((h.ev kx).packH hx).free _ _
     have hvx:HRep (E:=E) w noSite noTok F (valH vt y) (a.eval vx):=((h.ev vx).packH hy).free _ _
     obtain ⟨es',cl',g1,g2⟩:=mapUpdate_run (P:=P) hC hz e2 e3 hkx hvx
     refine step_skip (dst:=none) hdst (by rw [ho]; intro c e; cases e) (w' := {w with heap:=w.heap.setIfInBounds b (.map es' cl')}) ?_ ?_
     ·simp only [execOp,ho,hb2,Sem.run_bind,g1,Result.andThen_ok,Sem.run_pure]
     ·exact hk _ _ _ ⟨_,_,_,h.setObj hb1 e2 (fun _ e=>by cases e) (fun _ _ _ e=>by cases e) (fun _ _ _ e=>by cases e) (fun e=>by cases e) (fun _ e=>by cases e) (fun _ _ e=>by cases e) (fun _ _ m e=>by cases e; exact ⟨es',cl',rfl,g2⟩)⟩ he
    ·cases he
   ·cases he
  ·cases he
 ·
  rename_i t m kx ok d ho hdst
  split at he
  ·rename_i s hm
   split at he
   ·rename_i kt vt ents hbs
    split at he
    ·rename_i z x hz hx
     have hp:=h.ev m
     rw [hm] at hp
     obtain ⟨b,hb1,hb2⟩:=hp
     obtain ⟨b',es,cl,e1,e2,e3⟩:=h.maps s kt vt ents hbs
     rw [hb1] at e1
     cases e1
     have hkx:HRep (E:=E) w noSite noTok F (valH kt x) (a.eval kx):=((h.ev kx).packH hx).free _ _
     obtain ⟨v,g1,g2⟩:=lookup_run (P:=P) hC hz e2 e3 hkx ok
     have g2:HRep w j tk F (valH vt ((mget (keyEq kt) ents x).getD z)) v:=g2.free j tk
     cases ok with
     | false=>
       refine step_value (v:=v) (w' := w) (by rw [ho]; intro c e; cases e) ?_ ?_
       ·simp only [execOp,ho,hb2,Sem.run_bind,g1,Result.andThen_ok,Sem.run_pure]
        rfl
       ·rw [hdst]
        exact hk _ _ _ ⟨_,_,_,h.put g2 (some d)⟩ he
     | true=>
       refine step_value (v := .tuple #[v,.bool (mget (keyEq kt) ents x).isSome]) (w' := w) (by rw [ho]; intro c e; cases e) ?_ ?_
       ·simp only [execOp,ho,hb2,Sem.run_bind,g1,Result.andThen_ok,Sem.run_pure]
        rfl
       ·rw [hdst]
        refine hk _ _ _ ⟨_,_,_,h.put (hd := .tup [(!vt.one,(valH vt ((mget (keyEq kt) ents x).getD z)).cells),(false,[.tv (.bool (mget (keyEq kt) ents x).isSome)])]) ⟨[v,.bool (mget (keyEq kt) ents x).isSome],rfl,?_,⟨_,rfl,Rep.bool _⟩,trivial⟩ (some d)⟩ he
        cases h1:vt.one with
        | true=>
          have g2:HRep w j tk F (valH vt ((mget (keyEq kt) ents x).getD z)) v:=g2
          unfold valH at g2 ⊢
          rw [h1] at g2 ⊢
          exact ⟨_,rfl,g2⟩
        | false=>
          unfold valH at g2 ⊢
          rw [h1] at g2 ⊢
          exact g2
    ·cases he
   ·cases he
  ·cases he
 ·
  rename_i c ho
  split at he
  ·
   rename_i d' hc hdst
   split at he
   ·rename_i x y t t' hargs htypes
    split at he
    ·rename_i e te τ htt hel
     have htt:=Nat.eq_of_beq_eq_true htt
     subst htt
     obtain ⟨hu,i,z,hi,hz,hzs,hs,hte,hby⟩:=elem_zero hC hel
     split at he
     ·rename_i ys hys hbyt
      have hbyt:=Nat.le_of_ble_eq_true hbyt
      have hyr:=sliceOf_rep (h.ev y) hys
      split at he
      ·rename_i k τ' xs' hx
       split at he
       ·rename_i xs hpk hnd hke
        have hke:=Nat.eq_of_beq_eq_true hke
        obtain ⟨hlim,he⟩:=cond_none_right he
        have hlim:xs.length+ys.length<=lim:=by simpa using hlim
        have hxr:=h.ev x
        rw [hx] at hxr
        obtain ⟨hxr,htk⟩:=hxr
        have hxr:Rep w F (.sl τ xs) (a.eval x):=Rep.pack (t := .sl τ) hpk hxr
        obtain ⟨i',m,L,e1,e2,e3⟩:=h.toks k _ htk
        rw [hke,hi] at e1
        cases e1
        rw [hke] at e2
        obtain ⟨hm,hrow⟩:=tok_row hxr e2 hs
        subst hm
        have hd:=h.drop k
        obtain ⟨v',w',hrun,hsim⟩:=hd.appended (d:=σ.off+d') (q0:=d') (ty:=o.type) hu hi hz hzs hs e2 hrow (fun g hg=>⟨(e3 g hg).2,(e3 g hg).1,fun q u hq hqg=>by
         split at hq
         ·cases hq
         ·rename_i hne
          exact hne (h.apart q k u _ g hq htk hqg hg),fun hf=>(h.frn g hf).2.2.2.1 k _ htk hg⟩) hyr hlim (by rw [hby]; exact hbyt) hnd
        refine step_value (by rw [ho]; intro c e; cases e) (exec_builtin2 ho hc hargs htypes hrun) ?_
        rw [hdst]
        exact hk _ _ _ hsim he
       ·cases he
      ·rename_i hx
       split at he
       ·rename_i hnd
        obtain ⟨hlim,he⟩:=cond_none_right he
        have hlim:ys.length<=lim:=by simpa using hlim
        have hxr:=h.ev x
        rw [hx] at hxr
        have hxv:a.eval x = .slice none 0 0:=by
         generalize a.eval x=v at hxr
         cases hxr; rfl
        obtain ⟨v',w',hrun,hsim⟩:=h.appended (d:=σ.off+d') (q0:=d') (ty:=o.type) (τ:=τ) (xs:=[]) (L:=[]) (v := .slice none 0 0) hu hi hz hzs hs (World.ownsRow_nil w base e i.size) ⟨by simp,fun q x c l hx=>by simp at hx⟩
         (fun g hg=>by simp [Value.ownBlock] at hg) hyr (by simpa using hlim) (by rw [hby]; exact hbyt) hnd
        rw [<- hxv] at hrun
        refine step_value (by rw [ho]; intro c e; cases e) (exec_builtin2 ho hc hargs htypes hrun) ?_
        rw [hdst]
        exact hk _ _ _ hsim he
       ·cases he
      ·
       rename_i τ' xs' hx
       split at he
       ·rename_i xs hpk hnd
        obtain ⟨hlim,he⟩:=cond_none_right he
        simp only [Bool.and_eq_true,decide_eq_true_eq] at hlim
        have hxr:=h.ev x
        rw [hx] at hxr
        obtain ⟨ad,hxv,hxr⟩:=hxr
        have hxr:Rep w F (.sl τ xs) (a.eval x):=Rep.pack (t := .sl τ) hpk hxr
        obtain ⟨v',w',hrun,hsim⟩:=h.appendedFull (d:=σ.off+d') (q0:=d') (ty:=o.type) hu hi hz hzs hs hxr ⟨ad,_,hxv⟩ hyr hlim.1 hlim.2 (by rw [hby]; exact hbyt) hnd
        refine step_value (by rw [ho]; intro c e; cases e) (exec_builtin2 ho hc hargs htypes hrun) ?_
        rw [hdst]
        exact hk _ _ _ hsim he
       ·cases he
      ·
       rename_i s e' hx
       split at he
       ·rename_i s' e'' τ' xs' hrat hrow hnd
        simp only [Bool.or_eq_false_iff,Bool.not_eq_false'] at hnd
        obtain ⟨hnd,he'⟩:=hnd
        have he' := Nat.eq_of_beq_eq_true he'
        subst he'
        split at he
        ·rename_i xs hpk hcc hgone
         simp only [Bool.and_eq_true] at hcc
         obtain ⟨h1,h2⟩:=hcc
         have h1:=Nat.eq_of_beq_eq_true h1
         have h2:=Nat.eq_of_beq_eq_true h2
         subst h1 h2
         obtain ⟨hlim,he⟩:=cond_none_right he
         have hlim:xs.length+ys.length<=lim:=by simpa using hlim
         have hxv:=h.ev x
         rw [hx] at hxv
         obtain ⟨_,v0,L,i0,g1,g2,g3,g4,g5,g6⟩:=h.rows _ _ _ _ _ hrow
         have hev:a.eval x=v0:=Option.some.inj ((show tk (rkey s' e'')=some (a.eval x) from hxv).symm.trans g1)
         rw [hi] at g2
         cases g2
         obtain ⟨hty,hxs⟩:=packTV_sl hpk
         subst hty
         subst hxs
         have hd:=h.drop (rkey s' e'')
         obtain ⟨v',w',L',hrun,hsim,ho',hr',hg'⟩:=hd.appendedRaw (ty:=o.type) hu hi hz hzs hs g4 g5 (fun g hg=>by
          obtain ⟨_,_,_,_,_,e3⟩:=h.toks _ v0 g1
          refine ⟨(e3 g hg).2,g6 g hg,fun q u hq hu' => ?_,fun hf=>(h.frn g hf).2.2.2.1 _ v0 g1 hg⟩
          split at hq
          ·cases hq
          ·rename_i hne
           exact hne (h.apart q _ u v0 g hq g1 hu' hg)) hyr hlim (by rw [hby]; exact hbyt)
         rw [<- hev] at hrun
         refine step_value (by rw [ho]; intro c e; cases e) (exec_builtin2 ho hc hargs htypes hrun) ?_
         rw [hdst]
         have:=hsim.addRow (s:=σ.off+d') (e:=e'') rfl hgone hnd hi hs ho' hr' hg'
         exact hk _ _ _ (this.putRow (by simp)) he
        ·cases he
       ·cases he
      ·cases he
     ·cases he
    ·cases he
   ·cases he
  ·
   rename_i f hc
   split at he
   ·rename_i S' hS'
    split at he
    ·rename_i d' hdst
     split at he
     ·rename_i hnd
      split at he
      rotate_left
      ·split at he
       ·rename_i x hx hgone
        exact call_row_sound hC hS h ho hc hdst hS' hx hnd hgone he hk
       ·cases he
      unfold evalR at he
      rw [ho] at he
      simp only [hc] at he
      split at he
      ·rename_i S hsig
       split at he
       ·rename_i x hx
        refine call_sound hS h (d:=σ.off+d') (t:=d') (K:=fun hd=>K (σ.put (some d') hd)) ho hc hdst hsig hx hnd he ?_
        intro hd a' w' hsim hK
        exact hk _ _ _ hsim hK
       ·cases he
      ·cases he
     ·cases he
    ·rename_i hdst
     unfold evalR at he
     rw [ho] at he
     simp only [hc] at he
     split at he
     ·rename_i S hsig
      split at he
      ·rename_i x hx
       exact call_sound_none hS h (K:=K σ) ho hc hdst hsig hx he fun w' hs hK=>hk _ _ _ hs hK
      ·cases he
     ·cases he
   ·exact hX c _ _ ho hc rfl he
  ·
   rename_i fv hfv hc
   split at he
   ·rename_i c' hev
    exact hX c _ _ ho hc hev he
   ·cases he
  ·
   rename_i hne1 hne2 hne3
   by_cases hcall:isCall o=true
   ·exfalso
    unfold evalR at he
    rw [ho] at he
    simp only at he
    split at he
    ·rename_i hc; simp [isCall,ho,hc] at hcall
    ·rename_i f hc
     exact hne2 _ hc
    ·cases he
   ·exact plain o.dst rfl (by simpa using hcall) (by rw [ho]; intro c e; cases e) _ he
 ·
  rename_i hb1 hb2 hb3 hb4 hb5 hb6 hb7 hb8 hb9 hb10 hb11 hb12 hb13 hb14 hb15
  by_cases hcall:isCall o=true
  ·exfalso
   unfold isCall at hcall
   split at hcall
   ·rename_i c hc; exact hb1 c hc
   ·cases hcall
  ·refine plain o.dst rfl (by simpa using hcall) ?_ _ he
   intro c hc
   unfold evalR at he
   rw [hc] at he
   simp at he
def CallAt (P:Program) (B:Bs β) (X:Ext E β) (o:Oper) (K:St E->Option β):Prop := ∀ (ov:Ov E) (σ:St E) (a:Act) (w:World) (c:Call) (fv:Operand) (c' : Cell E) (next:Act->World->Prop)
 (Q:Exit->Act->World->Prop) (ro:Option Nat) (n base:Nat) (w0:World) (F0:Fx) (r:β) (j:Sites) (tk:Toks) (F:Fz),o.op = .call c->c.callee = .value fv->σ.ev fv = .one c' -> B base w0 F0 r ->
 Sim P base w0 F0 ov σ a w j tk F->X.call σ o.dst c' (evL σ c.args.toList) K=some r ->
 (∀ base' w0' F0' r' σ' a' w',B base' w0' F0' r' -> SimE P base' w0' F0' ov σ' a' w' -> K σ' = some r' -> next a' w')->o.wpIn (fence ro) n P a w next Q
def CallOk (P:Program) (B:Bs β) (X:Ext E β):Prop := ∀ (o:Oper) (K:St E->Option β),CallAt P B X o K
theorem callOk_none {B:Bs β} : CallOk (E:=E) P B noX:=by
 intro o K ov σ a w c fv c' next Q ro n base w0 F0 r j tk F _ _ _ _ _ he; cases he
theorem evalOp_good {B:Bs β} {C:Ctx E} {X:Ext E β} (hC:COk P C) (hS:SigOk P C) {K:St E->Option β} (hX:CallAt P B X o K) (h:Gd P B ov σ a w (evalOp C X σ o K))
  (hk:∀ σ' a' w',Gd P B ov σ' a' w' (K σ')->next a' w'):o.wpIn (fence ro) n P a w next Q:=by
 obtain ⟨base,w0,F0,r,hB,⟨j,tk,F,hs⟩,he⟩:=h
 refine evalOp_sound hC hS hs he (fun σ' a' w' h1 h2=>hk σ' a' w' ⟨base,w0,F0,r,hB,h1,h2⟩) ?_
 intro c fv c' h1 h2 h3 h4
 exact hX ov σ a w c fv c' next Q ro n base w0 F0 r j tk F h1 h2 h3 hB hs h4 fun base' w0' F0' r' σ' a' w' hB' hs' hK=>hk σ' a' w' ⟨base',w0',F0',r',hB',hs',hK⟩
end
end Go.Ai

namespace Go.Ai
open Go.RowKit
section
variable {N:Type} [DecidableEq N] {E:Env N} {P:Program}
variable {base n:Nat} {ov:Ov E} {w0 w w' : World} {F0:Fx} {F:Fz} {σ σ' : St E} {a:Act} {j:Sites} {tk:Toks}
theorem hasTok_mem {k:Tok} : ∀ {ks:List Tok},hasTok k ks=true↔k ∈ ks
 | []=>by simp [hasTok]
 | q::qs=>by
   simp only [hasTok,Bool.or_eq_true,Tok.eq_iff,List.mem_cons,hasTok_mem (ks:=qs)]
   constructor
   ·rintro (rfl | h)
    ·exact .inl rfl
    ·exact .inr h
   ·rintro (rfl | h)
    ·exact .inl rfl
    ·exact .inr h
theorem nodup_cons {k:Tok} {ks:List Tok} : nodup (k::ks)=true↔k ∉ ks/\nodup ks=true:=by
 simp only [nodup,Bool.and_eq_true,Bool.not_eq_true']
 constructor
 ·rintro ⟨h1,h2⟩
  refine ⟨fun hm => ?_,h2⟩
  rw [hasTok_mem.2 hm] at h1
  cases h1
 ·rintro ⟨h1,h2⟩
  refine ⟨?_,h2⟩
  cases h:hasTok k ks with
  | false=>rfl
  | true=>exact absurd (hasTok_mem.1 h) h1
def oldV (tk:Toks):Option Tok->Option Value
 | some k=>tk k
 | none=>some (.slice none 0 0)
def newTk (tk:Toks):List (Tok×Option Tok)->Toks
 | [],_=>none
 | (k,o)::r,q=>if q=k then oldV tk o else newTk tk r q
theorem newTk_mem {ps:List (Tok×Option Tok)} (hn:nodup (ps.map (·.1))=true) {k:Tok} {o:Option Tok} (hm:(k,o) ∈ ps):newTk tk ps k=oldV tk o:=by
 induction ps with
 | nil=>cases hm
 | cons p ps ih=>
   obtain ⟨k',o'⟩:=p
   rw [List.map_cons,nodup_cons] at hn
   rcases List.mem_cons.1 hm with e | hm'
   ·cases e; simp [newTk]
   ·have hne:k≠k' := by
     intro e
     subst e
     exact hn.1 (List.mem_map.2 ⟨(k,o),hm',rfl⟩)
    simp only [newTk,if_neg hne]
    exact ih hn.2 hm'
theorem newTk_some {ps:List (Tok×Option Tok)} {k:Tok} {v:Value} (h:newTk tk ps k=some v):∃ o,(k,o) ∈ ps/\oldV tk o=some v:=by
 induction ps with
 | nil=>cases h
 | cons p ps ih=>
   obtain ⟨k',o'⟩:=p
   simp only [newTk] at h
   split at h
   ·rename_i e
    subst e
    exact ⟨o',List.mem_cons_self,h⟩
   ·obtain ⟨o,h1,h2⟩:=ih h
    exact ⟨o,List.mem_cons_of_mem _ h1,h2⟩
theorem olds_unique {ps:List (Tok×Option Tok)} (hn:nodup (olds ps)=true) {k1 k2 k' : Tok} (h1:(k1,some k') ∈ ps) (h2:(k2,some k') ∈ ps):k1=k2:=by
 have mem:∀ {ps:List (Tok×Option Tok)} {k:Tok},(k,some k') ∈ ps->k' ∈ olds ps:=by
  intro ps
  induction ps with
  | nil=>intro k h; cases h
  | cons p ps ih=>
    intro k h
    obtain ⟨q,o⟩:=p
    rcases List.mem_cons.1 h with e | h'
    ·cases e; exact List.mem_cons_self
    ·cases o with
     | none=>exact ih h'
     | some _=>exact List.mem_cons_of_mem _ (ih h')
 induction ps with
 | nil=>cases h1
 | cons p ps ih=>
   obtain ⟨q,o⟩:=p
   cases o with
   | none=>
     rcases List.mem_cons.1 h1 with e | h1'
     ·cases e
     ·rcases List.mem_cons.1 h2 with e | h2'
      ·cases e
      ·exact ih hn h1' h2'
   | some o=>
     simp only [olds] at hn
     rw [nodup_cons] at hn
     rcases List.mem_cons.1 h1 with e | h1'
     ·cases e
      rcases List.mem_cons.1 h2 with e | h2'
      ·cases e; rfl
      ·exact absurd (mem h2') hn.1
     ·rcases List.mem_cons.1 h2 with e | h2'
      ·cases e; exact absurd (mem h1') hn.1
      ·exact ih hn.2 h1' h2'
theorem Keep.cell_sound {k:Keep N} {c c' : Cell E} {v:Value} {live:List Nat} {ps:List (Tok×Option Tok)} (hk:k.cell c=some c') (hr:CRep w j tk F c v) (hs:c'.sites.all live.contains=true) (hp:∀ x ∈ k.pair c,x ∈ ps)
  (hn:nodup (ps.map (·.1))=true):CRep w (fun s=>if live.contains s then j s else none) (newTk tk ps) F c' v:=by
 cases k with
 | asis=>
   have site:∀ (s b:Nat),live.contains s=true->j s=some b->(if live.contains s then j s else none)=some b:=by
    intro s b h1 h2; rw [if_pos h1]; exact h2
   cases c with
   | tok k t xs=>cases hk
   | rw s e p=>cases hk
   | tv x=>
     have e:c' = .tv x:=by
      unfold Keep.cell at hk
      split at hk
      all_goals first | (cases hk; rfl) | simp_all
     subst e
     exact hr
   | full t xs=>cases hk; exact hr
   | ptr s o=>
     cases hk
     obtain ⟨b,h1,h2⟩:=hr
     simp only [Cell.sites,List.all_cons,List.all_nil,Bool.and_true] at hs
     exact ⟨b,site s b hs h1,h2⟩
   | fptr ls=>cases hk; exact hr
   | mp s=>
     cases hk
     obtain ⟨b,h1,h2⟩:=hr
     simp only [Cell.sites,List.all_cons,List.all_nil,Bool.and_true] at hs
     exact ⟨b,site s b hs h1,h2⟩
   | fn f us vs=>
     cases hk
     obtain ⟨a,b,h1,h2,h3⟩:=hr
     simp only [Cell.sites,List.all_append,Bool.and_eq_true] at hs
     have key:∀ (xs:List (Sc E)) (vs:List Value),(xs.flatMap Sc.sites).all live.contains=true->SReps w j F xs vs->SReps w (fun s=>if live.contains s then j s else none) F xs vs:=by
      intro xs
      induction xs with
      | nil=>intro vs _ h; cases vs <;> exact h
      | cons x xs ih=>
        intro vs hl h
        cases vs with
        | nil=>exact h.elim
        | cons v vs=>
          simp only [List.flatMap_cons,List.all_append,Bool.and_eq_true] at hl
          refine ⟨?_,ih vs hl.2 h.2⟩
          have h1:=h.1
          cases x with
          | tv x=>exact h1
          | fptr ls=>exact h1
          | ptr s o=>
            obtain ⟨b,e1,e2⟩:=h1
            have:=hl.1
            simp only [Sc.sites,List.all_cons,List.all_nil,Bool.and_true] at this
            exact ⟨b,site s b this e1,e2⟩
     exact ⟨a,b,h1,key _ _ hs.1 h2,key _ _ hs.2 h3⟩
   | dead=>cases hk; trivial
 | own q t=>
   cases c with
   | tok k' t' xs=>
     simp only [Keep.cell] at hk
     split at hk
     ·rename_i ys hpk he
      cases hk
      have hm:(q,some k') ∈ ps:=hp _ (by simp [Keep.pair])
      exact ⟨Rep.pack (t := .sl t) hpk hr.1,by rw [newTk_mem hn hm]; exact hr.2⟩
     ·cases hk
   | tv x=>
     unfold Keep.cell at hk
     split at hk
     ·cases hk
     ·cases hk
     ·cases hk
     ·rename_i h1 h2 h3 h4 h5; cases h2
     ·rename_i h1 h2; cases h2
     ·rename_i h1 h2
      cases h1
      cases h2
      cases hk
      have hm:(q,none) ∈ ps:=hp _ (by simp [Keep.pair])
      have hv:v = .slice none 0 0:=by
       have hr' : Rep (E:=E) w F (.val (.slice none 0 0)) v:=hr
       cases hr'; rfl
      subst hv
      exact ⟨Rep.pack (t := .sl t) (x := .val (.slice none 0 0)) rfl hr,by rw [newTk_mem hn hm]; rfl⟩
     ·cases hk
     ·rename_i h1 h2; cases h2
   | _=>cases hk
 | frz t=>
   simp only [Keep.cell] at hk
   split at hk
   ·rename_i x hx
    split at hk
    ·rename_i y hy
     cases hk
     exact Rep.pack hy (CRep.leaf hr hx)
    ·cases hk
   ·cases hk
theorem lookup_mem {α:Type} {p:List (Nat×α)} {i:Nat} {k:α} (h:p.lookup i=some k):(i,k) ∈ p:=by
 induction p with
 | nil=>cases h
 | cons x p ih=>
   obtain ⟨q,y⟩:=x
   simp only [List.lookup_cons] at h
   split at h
   ·rename_i e
    simp only [beq_iff_eq] at e
    cases h
    subst e
    exact List.mem_cons_self
   ·exact List.mem_cons_of_mem _ (ih h)
theorem keepTmps_get {p:List (Nat×Keep N)} : ∀ (hs:List (Hold E)) (m:Nat) (ts:List (Hold E)),keepTmps p m hs=some ts->ts.length=hs.length /\
  ∀ (i:Nat) (h' : Hold E),ts[i]? = some h' -> h' = .one .dead \/ ∃ h k,hs[i]? = some h/\(m+i,k) ∈ p/\k.hold h=some h' := by
 intro hs
 induction hs with
 | nil=>intro m ts h; simp [keepTmps] at h; subst h; exact ⟨rfl,fun i h' e=>by simp at e⟩
 | cons h hs ih=>
   intro m ts he
   simp only [keepTmps] at he
   split at he
   ·rename_i rr hr
    obtain ⟨h1,h2⟩:=ih _ _ hr
    have tail:∀ (x:Hold E) (i:Nat) (h' : Hold E),(x::rr)[i+1]? = some h' -> h' = .one .dead \/ ∃ h0 k,(h::hs)[i+1]? = some h0/\(m+(i+1),k) ∈ p/\k.hold h0=some h' := by
     intro x i h' e
     rcases h2 i h' (by simpa using e) with e | ⟨h0,k,e1,e2,e3⟩
     ·exact .inl e
     ·exact .inr ⟨h0,k,by simpa using e1,by rw [show m+(i+1)=m+1+i by omega]; exact e2,e3⟩
    split at he
    ·rename_i k hk
     split at he
     ·rename_i h' hh
      cases he
      refine ⟨by simp [h1],fun i x e => ?_⟩
      cases i with
      | zero=>simp at e; subst e; exact .inr ⟨h,k,rfl,lookup_mem hk,hh⟩
      | succ i=>exact tail _ i x e
     ·cases he
    ·cases he
     refine ⟨by simp [h1],fun i x e => ?_⟩
     cases i with
     | zero=>simp at e; exact .inl e.symm
     | succ i=>exact tail _ i x e
   ·cases he
theorem keepHeap_get {p:List (Nat×List (Keep N))} : ∀ (hs:List (Blk E)) (m:Nat) (ts:List (Blk E)),keepHeap p m hs=some ts ->
  ∀ (i:Nat),(∀ cs',ts[i]? = some (.cells cs') -> ∃ cs ks,hs[i]? = some (.cells cs)/\(m+i,ks) ∈ p/\keepCells ks cs=some cs')/\(∀ cs,hs[i]? = some (.cells cs)->(p.map (·.1)).contains (m+i)=true -> ∃ cs',ts[i]? = some (.cells cs')):=by
 intro hs
 induction hs with
 | nil=>intro m ts h i; simp [keepHeap] at h; subst h; exact ⟨fun cs' e=>by simp at e,fun cs e=>by simp at e⟩
 | cons b bs ih=>
   intro m ts he i
   simp only [keepHeap] at he
   split at he
   ·rename_i rr hr
    have ih:=ih _ _ hr
    have tail:∀ (x:Blk E) (i:Nat),(∀ cs',(x::rr)[i+1]? = some (.cells cs') -> ∃ cs ks,(b::bs)[i+1]? = some (.cells cs)/\(m+(i+1),ks) ∈ p/\keepCells ks cs=some cs') /\
      (∀ cs,(b::bs)[i+1]? = some (.cells cs)->(p.map (·.1)).contains (m+(i+1))=true -> ∃ cs',(x::rr)[i+1]? = some (.cells cs')):=by
     intro x i
     have e:m+(i+1)=m+1+i:=by omega
     rw [e]
     exact ⟨fun cs' hc=>by simpa using (ih i).1 cs' (by simpa using hc),fun cs hc hm=>by simpa using (ih i).2 cs (by simpa using hc) hm⟩
    split at he
    ·rename_i ks cs hk
     split at he
     ·rename_i cs' hcs
      cases he
      cases i with
      | zero=>exact ⟨fun c e=>by simp at e; subst e; exact ⟨cs,ks,rfl,lookup_mem hk,hcs⟩,fun _ _ _=>⟨cs',rfl⟩⟩
      | succ i=>exact tail _ i
     ·cases he
    ·cases he
     cases i with
     | zero=>exact ⟨fun c e=>by simp at e,fun cs e=>by simp at e⟩
     | succ i=>exact tail _ i
    ·cases he
     cases i with
     | zero=>exact ⟨fun c e=>by simp at e,fun cs e=>by simp at e⟩
     | succ i=>exact tail _ i
    ·cases he
    ·cases he
    ·rename_i hk
     cases he
     cases i with
     | zero=>
       refine ⟨fun c e=>by simp at e,fun cs _ hm => ?_⟩
       exfalso
       have:p.lookup m≠none:=by
        intro hnone
        rw [List.lookup_eq_none_iff] at hnone
        simp only [Nat.add_zero,List.contains_iff_mem,List.mem_map] at hm
        obtain ⟨x,hx,hxm⟩:=hm
        have:=hnone x hx
        simp [hxm] at this
       exact this hk
     | succ i=>exact tail _ i
   ·cases he
theorem lookup_none_not {p:List (Nat×List (Keep N))} {m:Nat} (hk:p.lookup m=none) (hm:(p.map (·.1)).contains m=true):False:=by
 have:p.lookup m≠none:=by
  intro hnone
  rw [List.lookup_eq_none_iff] at hnone
  simp only [List.contains_iff_mem,List.mem_map] at hm
  obtain ⟨x,hx,hxm⟩:=hm
  have:=hnone x hx
  simp [hxm] at this
 exact this hk
def Blk.other:Blk E->Prop
 | .iter _ _=>True
 | .mp _ _ _=>True
 | .rw .. => True
 | _=>False
theorem keepHeap_iter {p:List (Nat×List (Keep N))} : ∀ (hs:List (Blk E)) (m:Nat) (ts:List (Blk E)),keepHeap p m hs=some ts ->
  ∀ (i:Nat) (x:Blk E),x.other->(ts[i]? = some x->hs[i]? = some x/\(p.map (·.1)).contains (m+i)=true)/\(hs[i]? = some x->(p.map (·.1)).contains (m+i)=true->ts[i]? = some x):=by
 intro hs
 induction hs with
 | nil=>intro m ts h i x hx; simp [keepHeap] at h; subst h; exact ⟨fun e=>by simp at e,fun e=>by simp at e⟩
 | cons b bs ih=>
   intro m ts he i x hx
   simp only [keepHeap] at he
   split at he
   ·rename_i rr hr
    have ih:=ih _ _ hr
    have tail:∀ (y:Blk E) (i:Nat),((y::rr)[i+1]? = some x->(b::bs)[i+1]? = some x/\(p.map (·.1)).contains (m+(i+1))=true)/\((b::bs)[i+1]? = some x->(p.map (·.1)).contains (m+(i+1))=true->(y::rr)[i+1]? = some x):=by
     intro y i
     have e:m+(i+1)=m+1+i:=by omega
     rw [e]
     simpa using ih i x hx
    split at he
    ·split at he
     ·cases he
      cases i with
      | zero=>exact ⟨fun e=>by simp at e; subst e; exact hx.elim,fun e=>by simp at e; subst e; exact hx.elim⟩
      | succ i=>exact tail _ i
     ·cases he
    ·rename_i ks str' q' hk
     cases he
     cases i with
     | zero=>
       refine ⟨fun e=>⟨by simpa using e,?_⟩,fun e _=>by simpa using e⟩
       rw [List.contains_iff_mem]
       exact List.mem_map.2 ⟨_,lookup_mem hk,rfl⟩
     | succ i=>exact tail _ i
    ·rename_i ks kt vt mm hk
     cases he
     cases i with
     | zero=>
       refine ⟨fun e=>⟨by simpa using e,?_⟩,fun e _=>by simpa using e⟩
       rw [List.contains_iff_mem]
       exact List.mem_map.2 ⟨_,lookup_mem hk,rfl⟩
     | succ i=>exact tail _ i
    ·cases he
    ·cases he
    ·rename_i hk
     cases he
     cases i with
     | zero=>exact ⟨fun e=>by simp at e; subst e; exact hx.elim,fun _ hm=>(lookup_none_not hk hm).elim⟩
     | succ i=>exact tail _ i
   ·cases he
theorem keepHeap_rw {p:List (Nat×List (Keep N))} : ∀ (hs:List (Blk E)) (m:Nat) (ts:List (Blk E)),keepHeap p m hs=some ts -> ∀ (i s e:Nat) (t:Ty N) (xs:List (den E.Γ t)),ts[i]? ≠ some (.rw s e t xs):=by
 intro hs
 induction hs with
 | nil=>intro m ts h i s e t xs; simp [keepHeap] at h; subst h; simp
 | cons b bs ih=>
   intro m ts he i s e t xs hi
   simp only [keepHeap] at he
   split at he
   ·rename_i rr hr
    have ih:=ih _ _ hr
    have tail:∀ (y:Blk E),ts=y::rr->(∀ s e t xs,y ≠ .rw s e t xs)->False:=by
     intro y hy hn
     subst hy
     cases i with
     | zero=>simp at hi; exact hn _ _ _ _ hi
     | succ i=>exact ih i s e t xs (by simpa using hi)
    split at he
    ·split at he
     ·cases he; exact tail _ rfl (fun _ _ _ _ e=>by cases e)
     ·cases he
    ·cases he; exact tail _ rfl (fun _ _ _ _ e=>by cases e)
    ·cases he; exact tail _ rfl (fun _ _ _ _ e=>by cases e)
    ·cases he
    ·cases he
    ·cases he; exact tail _ rfl (fun _ _ _ _ e=>by cases e)
   ·cases he
theorem keepCells_sound {ks:List (Keep N)} {live:List Nat} {ps:List (Tok×Option Tok)} (hn:nodup (ps.map (·.1))=true):∀ {cs cs' : List (Cell E)} {vs:List Value},keepCells ks cs=some cs' -> LRep w j tk F cs vs ->
  (cs'.all fun c=>c.sites.all live.contains)=true->(∀ x ∈ (List.zipWith Keep.pair ks cs).flatten,x ∈ ps)->LRep w (fun s=>if live.contains s then j s else none) (newTk tk ps) F cs' vs:=by
 induction ks with
 | nil=>
   intro cs cs' vs hk hr _ _
   cases cs with
   | nil=>simp [keepCells] at hk; subst hk; cases vs <;> exact hr
   | cons _ _=>simp [keepCells] at hk
 | cons k ks ih=>
   intro cs cs' vs hk hr hs hp
   cases cs with
   | nil=>simp [keepCells] at hk
   | cons c cs=>
     simp only [keepCells] at hk
     split at hk
     ·rename_i c' r h1 h2
      cases hk
      cases vs with
      | nil=>exact hr.elim
      | cons v vs=>
        simp only [List.all_cons,Bool.and_eq_true] at hs
        simp only [List.zipWith_cons_cons,List.flatten_cons,List.mem_append] at hp
        exact ⟨Keep.cell_sound h1 hr.1 hs.1 (fun x hx=>hp x (.inl hx)) hn,ih h2 hr.2 hs.2 (fun x hx=>hp x (.inr hx))⟩
     ·cases hk
theorem Plan.app_sim {C:Ctx E} (hC:COk P C) {p:Plan N} (h:Sim P base w0 F0 ov σ a w j tk F) (hp:p.app C σ=some σ'):∃ j' tk',Sim P base w0 F0 ov σ' a w j' tk' F/\(∀ s b,j' s=some b->j s=some b) /\ ∀ q v g,tk' q=some v->v.ownBlock=some g -> ∃ q',tk q' = some v:=by
 unfold Plan.app at hp
 split at hp
 ·rename_i ts bs os hts hbs hos
  split at hp
  ·rename_i hc
   cases hp
   simp only [Bool.and_eq_true] at hc
   obtain ⟨⟨⟨ho,hn⟩,hti⟩,hcl⟩:=hc
   simp only [St.closed,Bool.and_eq_true] at hcl
   obtain ⟨⟨hcl1,hcl3⟩,hcl2⟩:=hcl
   have htm:=keepTmps_get σ.tmps 0 ts hts
   have hbx:=keepHeap_get σ.heap 0 bs hbs
   have hox:=keepTmps_get σ.out 0 os hos
   have hold:∀ (k:Keep N) (h0 x:Hold E) (v:Value),k.hold h0=some x->HRep w j tk F h0 v->(match x with
     | .one c=>c.sites.all (p.boxes.map (·.1)).contains
     | .agg cs=>cs.all fun c=>c.sites.all (p.boxes.map (·.1)).contains
     | .tup _=>false)=true->(∀ c,h0 = .one c -> ∀ y ∈ k.pair c,y ∈ p.pairs σ) ->
     HRep w (fun s=>if (p.boxes.map (·.1)).contains s then j s else none) (newTk tk (p.pairs σ)) F x v:=by
    intro k h0 x v e3 hr hcl hpr
    unfold Keep.hold at e3
    split at e3
    ·rename_i c
     split at e3
     ·rename_i c' hc'
      cases e3
      exact Keep.cell_sound hc' hr hcl (hpr c rfl) hn
     ·cases e3
    ·rename_i cs
     split at e3
     ·rename_i hno
      cases e3
      obtain ⟨vs,e4,e5⟩:=hr
      refine ⟨vs,e4,?_⟩
      have key:∀ (cs:List (Cell E)) (vs:List Value),(cs.any fun c=>match c with | .tok .. => true | .rw .. => true | .tv (.val (.map none))=>true | _=>false)=false->(cs.all fun c=>c.sites.all (p.boxes.map (·.1)).contains)=true->LRep w j tk F cs vs ->
        LRep w (fun s=>if (p.boxes.map (·.1)).contains s then j s else none) (newTk tk (p.pairs σ)) F cs vs:=by
       intro cs
       induction cs with
       | nil=>intro vs _ _ hr; cases vs <;> exact hr
       | cons c cs ih=>
         intro vs h1 h2 hr
         cases vs with
         | nil=>exact hr.elim
         | cons v vs=>
           simp only [List.any_cons,Bool.or_eq_false_iff] at h1
           simp only [List.all_cons,Bool.and_eq_true] at h2
           refine ⟨Keep.cell_sound (k := .asis) (c:=c) ?_ hr.1 h2.1 (fun x hx => ?_) hn,ih vs h1.2 h2.2 hr.2⟩
           ·have h1:=h1.1
            cases c with
            | tok=>cases h1
            | rw=>cases h1
            | tv x=>
              cases x with
              | val u=>
                cases u with
                | map m=>
                  cases m with
                  | none=>cases h1
                  | some _=>rfl
                | _=>rfl
              | _=>rfl
            | _=>rfl
           ·cases c <;> cases hx
      exact key cs vs hno hcl e5
     ·cases e3
    ·cases e3
   refine ⟨fun s=>if (p.boxes.map (·.1)).contains s then j s else none,newTk tk (p.pairs σ),?_,fun s b hs => ?_,fun q v g hq hg => ?_⟩
   case refine_2=>
    dsimp only at hs
    split at hs
    ·exact hs
    ·cases hs
   case refine_3=>
    obtain ⟨o,hm,ho'⟩:=newTk_some hq
    cases o with
    | some k' => exact ⟨k',ho'⟩
    | none=>cases ho'; simp [Value.ownBlock] at hg
   exact {
    tab:=h.tab
    below:=h.below,size:=h.size,Fold:=h.Fold,Fnew:=h.Fnew,Flt:=h.Flt,agr:=h.agr,defers:=h.defers,mks:=fun e=>h.mks (Bool.or_eq_false_iff.1 e).1
    frn:=fun k hk=>by
     obtain ⟨h1,h2,h3,h4,h5⟩:=h.frn k hk
     refine ⟨h1,h2,fun s hs => ?_,fun q v hv => ?_,h5⟩
     ·split at hs
      ·exact h3 s hs
      ·cases hs
     ·obtain ⟨o,hm,ho'⟩:=newTk_some hv
      cases o with
      | some k' => exact h4 k' v ho'
      | none=>cases ho'; simp [Value.ownBlock]
    len:=by rw [h.len]; exact htm.1.symm
    itq:=h.itq
    outs:=by
     refine HReps.of_get (by rw [hox.1]; exact h.outs.len) fun i x v hx hv => ?_
     rcases hox.2 i x hx with e | ⟨h0,k,e1,e2,e3⟩
     ·subst e; trivial
     ·rw [Nat.zero_add] at e2
      refine hold k h0 x v e3 (h.outs.get i h0 v e1 hv) (List.all_eq_true.1 hcl3 x (List.mem_of_getElem? hx)) fun c hc y hy => ?_
      refine List.mem_append_right _ (List.mem_append_right _ (List.mem_flatMap.2 ⟨(i,k),e2,?_⟩))
      dsimp only
      rw [List.getD_eq_getElem?_getD,e1,hc]
      exact hy
    tmps:=fun i x v hx hv=>by
     rcases htm.2 i x hx with e | ⟨h0,k,e1,e2,e3⟩
     ·subst e; trivial
     ·rw [Nat.zero_add] at e2
      refine hold k h0 x v e3 (h.tmps i h0 v e1 hv) (List.all_eq_true.1 hcl1 x (List.mem_of_getElem? hx)) fun c hc y hy => ?_
      refine List.mem_append_left _ (List.mem_flatMap.2 ⟨(i,k),e2,?_⟩)
      have hget:σ.get i=h0:=by unfold St.get; rw [List.getD_eq_getElem?_getD,e1]; rfl
      dsimp only
      rw [hget,hc]
      exact hy
    boxes:=fun s cs' hs=>by
     obtain ⟨cs,ks,e1,e2,e3⟩:=(hbx s).1 cs' hs
     obtain ⟨b,vs,T,e4,e5,e6⟩:=h.boxes s cs e1
     rw [Nat.zero_add] at e2
     have hlive:(p.boxes.map (·.1)).contains s=true:=by
      rw [List.contains_iff_mem]; exact List.mem_map.2 ⟨_,e2,rfl⟩
     refine ⟨b,vs,T,by rw [if_pos hlive]; exact e4,e5,?_⟩
     refine keepCells_sound hn e3 e6 (List.all_eq_true.1 hcl2 _ (List.mem_of_getElem? hs)) ?_
     intro y hy
     refine List.mem_append_right _ (List.mem_append_left _ (List.mem_flatMap.2 ⟨(s,ks),e2,?_⟩))
     dsimp only
     rw [e1]
     exact hy
    iters:=fun s str q hs=>by
     obtain ⟨e1,e2⟩:=(keepHeap_iter σ.heap 0 bs hbs s (.iter str q) trivial).1 hs
     obtain ⟨b,sb,e3,e4,e5⟩:=h.iters s str q e1
     rw [Nat.zero_add] at e2
     exact ⟨b,sb,by rw [if_pos e2]; exact e3,e4,e5⟩
    maps:=fun s kt vt m hs=>by
     obtain ⟨e1,e2⟩:=(keepHeap_iter σ.heap 0 bs hbs s (.mp kt vt m) trivial).1 hs
     obtain ⟨b,es,cl,e3,e4,e5⟩:=h.maps s kt vt m e1
     rw [Nat.zero_add] at e2
     exact ⟨b,es,cl,by rw [if_pos e2]; exact e3,e4,e5⟩
    rows:=fun m s e τ xs hs=>absurd hs (keepHeap_rw σ.heap 0 bs hbs m s e τ xs)
    live:=fun s b hs=>by
     split at hs
     ·rename_i hlive
      obtain ⟨e1,e2,⟨blk,e3,e4⟩,e5⟩:=h.live s b hs
      refine ⟨e1,e2,?_,e5⟩
      cases blk with
      | gone=>exact absurd rfl e4
      | cells cs=>
        obtain ⟨cs',e6⟩:=(hbx s).2 cs e3 (by rw [Nat.zero_add]; exact hlive)
        exact ⟨_,e6,fun e=>by cases e⟩
      | iter str q=>exact ⟨_,(keepHeap_iter σ.heap 0 bs hbs s (.iter str q) trivial).2 e3 (by rw [Nat.zero_add]; exact hlive),fun e=>by cases e⟩
      | rw s' e' t xs=>have:=(h.rows s s' e' t xs e3).1.1; rw [hs] at this; cases this
      | mp kt vt m=>exact ⟨_,(keepHeap_iter σ.heap 0 bs hbs s (.mp kt vt m) trivial).2 e3 (by rw [Nat.zero_add]; exact hlive),fun e=>by cases e⟩
     ·cases hs
    inj:=fun s s' b hs hs' => by
     split at hs
     ·split at hs'
      ·exact h.inj s s' b hs hs'
      ·cases hs'
     ·cases hs
    toks:=fun k v hk=>by
     obtain ⟨o,hm,ho'⟩:=newTk_some hk
     cases o with
     | some k'=>
       obtain ⟨i,m,xs,e1,e2,e3⟩:=h.toks k' v ho'
       have hee:k'.2.2=k.2.2:=by
        have:=List.all_eq_true.1 hti _ hm
        simp only [Bool.and_eq_true,Nat.beq_eq] at this
        exact this.2
       refine ⟨i,m,xs,by rw [<- hee]; exact e1,by rw [<- hee]; exact e2,fun g hg=>⟨(e3 g hg).1,fun s hs => ?_⟩⟩
       dsimp only at hs
       split at hs
       ·exact (e3 g hg).2 s hs
       ·cases hs
     | none=>
       cases ho'
       have ht:=List.all_eq_true.1 hti _ hm
       simp only [Bool.and_eq_true] at ht
       obtain ⟨ti,hti'⟩:=Option.isSome_iff_exists.1 ht.1
       obtain ⟨i,d,hT,_⟩:=tok_of hC hti'
       exact ⟨i,0,[],hT.info,World.ownsRow_nil w base _ _,fun g hg=>by simp [Value.ownBlock] at hg⟩
    apart:=fun k k' v v' g hk hk' hg hg' => by
     obtain ⟨o,hm,ho1⟩:=newTk_some hk
     obtain ⟨o',hm',ho2⟩:=newTk_some hk'
     cases o with
     | none=>cases ho1; simp [Value.ownBlock] at hg
     | some q=>cases o' with
       | none=>cases ho2; simp [Value.ownBlock] at hg'
       | some q'=>
         have:=h.apart q q' v v' g ho1 ho2 hg hg'
         subst this
         exact olds_unique ho hm hm'}
  ·cases hp
 ·cases hp
end
end Go.Ai

namespace Go.Ai
section
variable {N:Type} [DecidableEq N] {E:Env N} {β γ:Type} {σ σ' : St E}
theorem cond_bind {b:Bool} {x y:Option γ} {K:γ->Option β} : (cond b x y).bind K=cond b (x.bind K) (y.bind K):=by cases b <;> rfl
theorem binInt_bind {op:BinOp} {k:IntKind} {a b:Int} {f:TV E->γ} {K:γ->Option β} : binInt op k a b (fun x=>K (f x))=(binInt op k a b (fun x=>some (f x))).bind K:=by
 unfold binInt
 split <;> first | rfl | (rw [cond_bind]; rfl)
theorem shiftInt_bind {op:BinOp} {k:IntKind} {a b:Int} {f:TV E->γ} {K:γ->Option β} : shiftInt op k a b (fun x=>K (f x))=(shiftInt op k a b (fun x=>some (f x))).bind K:=by
 unfold shiftInt
 split <;> first | rfl | (rw [cond_bind]; rfl)
theorem binStr_bind {op:BinOp} {a b:List UInt8} {f:TV E->γ} {K:γ->Option β} : binStr op a b (fun x=>K (f x))=(binStr op a b (fun x=>some (f x))).bind K:=by
 unfold binStr
 split <;> first | rfl | (rw [cond_bind]; rfl)
theorem binTV_bind {op:BinOp} {x y:TV E} {f:TV E->γ} {K:γ->Option β} : binTV op x y (fun z=>K (f z))=(binTV op x y (fun z=>some (f z))).bind K:=by
 unfold binTV
 split
 ·split
  ·exact shiftInt_bind
  ·exact shiftInt_bind
  ·split
   ·exact binInt_bind
   ·rfl
 ·exact binStr_bind
 ·rfl
theorem binC_bind {C:Ctx E} {t:Nat} {op:BinOp} {x y:TV E} {f:TV E->γ} {K:γ->Option β} : binC C t op x y (fun z=>K (f z))=(binC C t op x y (fun z=>some (f z))).bind K:=by
 unfold binC
 split
 ·split
  ·split <;> rfl
  ·rfl
 ·exact binTV_bind
theorem eqOp_bind {op:BinOp} {b:Option Bool} {f:TV E->γ} {K:γ->Option β} : eqOp op b (fun z=>K (f z))=(eqOp op b (fun z=>some (f z))).bind K:=by
 unfold eqOp
 split <;> rfl
theorem convTV_bind {d:TD} {x:TV E} {f:TV E->γ} {K:γ->Option β} : convTV d x (fun z=>K (f z))=(convTV d x (fun z=>some (f z))).bind K:=by
 unfold convTV
 split <;> rfl
theorem unTV_bind {op:UnOp} {x:TV E} {f:TV E->γ} {K:γ->Option β} : unTV op x (fun z=>K (f z))=(unTV op x (fun z=>some (f z))).bind K:=by
 unfold unTV
 split <;> rfl
theorem loadC_bind {ti:TI E} {cs:List (Cell E)} {o:Nat} {K:Hold E->Option β} : loadC ti cs o K=(loadC ti cs o some).bind K:=by
 unfold loadC
 split
 ·split <;> rfl
 ·split <;> rfl
theorem lenH_bind {d:TD} {h:Hold E} {K:Hold E->Option β} : lenH d h K=(lenH d h some).bind K:=by
 unfold lenH
 split <;> rfl
theorem lenM_bind {bs:List (Blk E)} {d:TD} {h:Hold E} {K:Hold E->Option β} : lenM bs d h K=(lenM bs d h some).bind K:=by
 unfold lenM
 split
 ·split <;> rfl
 ·exact lenH_bind
theorem cutL_bind {α:Type} {xs:List α} {lo hi:Option Int} {f:List α->γ} {K:γ->Option β} : cutL xs lo hi (fun z=>K (f z))=(cutL xs lo hi (fun z=>some (f z))).bind K:=by
 unfold cutL
 split <;> first | rfl | (rw [cond_bind]; rfl)
theorem evalR_bind {C:Ctx E} {d:Nat} {o:Oper} {K:Hold E->Option β} : evalR C σ d o K=(evalR C σ d o some).bind K:=by
 unfold evalR
 split
 ·rfl
 ·rfl
 ·split
  ·rw [cond_bind]; rfl
  ·rfl
 ·split
  ·exact binC_bind (f:=fun r=>Hold.one (.tv r)) (K:=K)
  ·split
   ·exact eqOp_bind (f:=fun r=>Hold.one (.tv r)) (K:=K)
   ·rfl
  ·rfl
 ·split
  ·exact unTV_bind (f:=fun r=>Hold.one (.tv r)) (K:=K)
  ·rfl
 ·split
  ·split
   ·split
    ·exact loadC_bind
    ·rfl
   ·exact loadC_bind
   ·rfl
  ·rfl
 ·split
  ·split
   ·split
    ·split <;> rfl
    ·rfl
   ·rfl
  ·rfl
 ·split
  ·split
   ·rw [cond_bind]; rfl
   ·rfl
  ·generalize arrAddr C _ _ _=z; cases z <;> rfl
 ·split
  ·split
   ·rw [cond_bind]; rfl
   ·rfl
  ·rfl
 ·split
  ·split
   ·exact cutL_bind (f:=fun r=>Hold.one (.tv (.str r))) (K:=K)
   ·split
    ·rename_i τ _
     split
     ·exact cutL_bind (f:=fun r=>Hold.one (.tv (.sl τ r))) (K:=K)
     ·rfl
    ·rfl
   ·rfl
  ·rfl
 ·split
  ·split
   ·rw [cond_bind]; rfl
   ·rfl
  ·rfl
 ·split
  ·split <;> rfl
  ·rfl
 ·split <;> rfl
 ·split <;> rfl
 ·split
  ·split
   ·split <;> rfl
   ·rfl
  ·rfl
 ·split
  ·split
   ·split
    ·exact lenM_bind
    ·rfl
   ·rfl
  ·split
   ·split
    ·rw [Option.bind_assoc]; rfl
    ·rfl
   ·rfl
  ·rfl
 ·split
  ·rfl
  ·split
   ·split
    ·rw [cond_bind]; rfl
    ·rfl
   ·split
    ·exact convTV_bind (f:=fun r=>Hold.one (.tv r)) (K:=K)
    ·rfl
 ·rfl
def St.killO (σ:St E):Option Tok->St E
 | none=>σ
 | some k=>σ.kill k
def Hold.killO (h:Hold E):Option Tok->Hold E
 | none=>h
 | some k=>h.kill k
def res (C:Ctx E) (σ:St E) (o:Oper):Option (Option Tok×Hold E):=match o.op,o.dst with
 | .buildSlice t n parts,some d=>match elemTy C t with
   | some (e,te,τ)=>match partsH σ τ 0 parts.toList with
     | some xs=>match Nat.beq parts.toList.length n&&Nat.ble (n*te.size) 16777216 with
       | true=>some (none,.one (.tok (σ.off+d,0,e) τ xs))
       | false=>none
     | none=>none
   | none=>none
 | .call c,d=>match c.callee,d with
   | .builtin .append,some d=>match c.args.toList,c.argTypes.toList with
     | [x,y],[t,t']=>match Nat.beq t t',elemTy C t with
       | true,some (e,te,τ)=>match sliceOf τ (σ.ev y),Nat.ble te.bytes 1024 with
         | some ys,true=>match σ.ev x with
           | .one (.tok k τ' xs)=>match packTV (.sl τ) (.sl τ' xs:TV E),Nat.beq k.2.2 e with
             | some xs,true=>cond (decide (List.length (α:=den E.Γ τ) xs+List.length (α:=den E.Γ τ) ys<=lim)) (some (some k,.one (.tok (σ.off+d,0,e) τ (List.append (α:=den E.Γ τ) xs ys)))) none
             | _,_=>none
           | .one (.tv (.val (.slice none 0 0)))=>cond (decide (List.length (α:=den E.Γ τ) ys<=lim)) (some (none,.one (.tok (σ.off+d,0,e) τ ys))) none
           | .one (.full τ' xs)=>match packTV (.sl τ) (.sl τ' xs:TV E) with
             | some xs=>cond (decide (0<List.length (α:=den E.Γ τ) ys)&&decide (List.length (α:=den E.Γ τ) xs+List.length (α:=den E.Γ τ) ys<=lim)) (some (none,.one (.tok (σ.off+d,0,e) τ (List.append (α:=den E.Γ τ) xs ys)))) none
             | none=>none
           | _=>none
         | _,_=>none
       | _,_=>none
     | _,_=>none
   | _,d=>(evalR C σ (σ.off+d.getD 0) o some).map fun h=>(none,h)
 | _,d=>(evalR C σ (σ.off+d.getD 0) o some).map fun h=>(none,h)
theorem Cell.hasD_kill {c:Cell E} {k:Tok} {d:Nat} (h:c.hasD d=false):(c.kill k).hasD d=false:=by
 cases c with
 | rw s e p=>
   simp only [Cell.kill]
   split
   ·rfl
   ·exact h
 | tok k' t xs=>
   simp only [Cell.kill]
   split
   ·rfl
   ·exact h
 | _=>exact h
theorem any_kill {k:Tok} {d:Nat} : ∀ {cs:List (Cell E)},cs.any (·.hasD d)=false->(cs.map (·.kill k)).any (·.hasD d)=false
 | [],_=>rfl
 | c::cs,h=>by
   simp only [List.any_cons,Bool.or_eq_false_iff] at h
   simp only [List.map_cons,List.any_cons,Bool.or_eq_false_iff]
   exact ⟨Cell.hasD_kill h.1,any_kill h.2⟩
theorem Hold.hasD_kill {x:Hold E} {k:Tok} {d:Nat} (h:x.hasD d=false):(x.kill k).hasD d=false:=by
 cases x with
 | one c=>exact Cell.hasD_kill h
 | agg cs=>exact any_kill h
 | tup vs=>
   simp only [Hold.hasD,Hold.kill] at h ⊢
   rw [List.any_eq_false] at h ⊢
   intro v hv
   rw [List.mem_map] at hv
   obtain ⟨u,hu,rfl⟩:=hv
   have:=h u hu
   simp only [Bool.not_eq_true] at this ⊢
   exact any_kill this
theorem Blk.hasD_kill {x:Blk E} {k:Tok} {d:Nat} (h:x.hasD d=false):(x.kill k).hasD d=false:=by
 cases x with
 | gone=>rfl
 | iter _ _=>rfl
 | mp _ _ _=>rfl
 | rw s e t xs=>
   simp only [Blk.kill]
   split
   ·rfl
   ·exact h
 | cells cs=>exact any_kill h
theorem St.hasD_kill {k:Tok} {d:Nat} (h:σ.hasD d=false):(σ.kill k).hasD d=false:=by
 simp only [St.hasD,Bool.or_eq_false_iff,St.kill,List.any_eq_false] at h ⊢
 refine ⟨⟨fun x hx => ?_,fun x hx => ?_⟩,fun x hx => ?_⟩
 ·rw [List.mem_map] at hx
  obtain ⟨y,hy,rfl⟩:=hx
  have:=h.1.1 y hy
  simp only [Bool.not_eq_true] at this ⊢
  exact Hold.hasD_kill this
 ·rw [List.mem_map] at hx
  obtain ⟨y,hy,rfl⟩:=hx
  have:=h.1.2 y hy
  simp only [Bool.not_eq_true] at this ⊢
  exact Blk.hasD_kill this
 ·rw [List.mem_map] at hx
  obtain ⟨y,hy,rfl⟩:=hx
  have:=h.2 y hy
  simp only [Bool.not_eq_true] at this ⊢
  exact Hold.hasD_kill this
theorem St.hasD_killO {k:Option Tok} {d:Nat} (h:σ.hasD d=false):(σ.killO k).hasD d=false:=by
 cases k with
 | none=>exact h
 | some k=>exact St.hasD_kill h
theorem St.hasD_put {x:Hold E} {d:Nat} {q:Option Nat} (h:σ.hasD d=false) (hx:x.hasD d=false):(σ.put q x).hasD d=false:=by
 cases q with
 | none=>exact h
 | some q=>
   simp only [St.hasD,Bool.or_eq_false_iff,St.put,List.any_eq_false] at h ⊢
   refine ⟨⟨fun y hy => ?_,h.1.2⟩,h.2⟩
   rcases List.mem_or_eq_of_mem_set hy with hy | rfl
   ·exact h.1.1 y hy
   ·rw [hx]; simp
theorem cls_bin {C:Ctx E} {dst:Option Tmp} {op:BinOp} {t t' ty:TypeId} {x y:Operand} {pos:String} {after:Array Edge} {guard:Option (Nat×Bool)} :
  cls C ⟨dst,.binOp op t x y t',ty,pos,after,guard⟩=3\/(cls C ⟨dst,.binOp op t x y t',ty,pos,after,guard⟩=0/\dst.isSome=true):=by
 have key:∀ (v:Value),cls C ⟨dst,.binOp op t x (.const v) t',ty,pos,after,guard⟩=3\/(cls C ⟨dst,.binOp op t x (.const v) t',ty,pos,after,guard⟩=0/\dst.isSome=true):=by
  intro v
  cases v <;> first | (cases dst <;> first | exact .inl rfl | exact .inr ⟨rfl,rfl⟩) | skip
  rename_i ad l c
  cases ad <;> first | (cases dst <;> first | exact .inl rfl | exact .inr ⟨rfl,rfl⟩) | skip
  cases l <;> first | (cases dst <;> first | exact .inl rfl | exact .inr ⟨rfl,rfl⟩) | skip
  cases c <;> (cases dst <;> first | exact .inl rfl | exact .inr ⟨rfl,rfl⟩)
 cases y <;> first | exact key _ | (cases dst <;> first | exact .inl rfl | exact .inr ⟨rfl,rfl⟩)
theorem evalOp_res {C:Ctx E} {X:Ext E β} {o:Oper} {K:St E->Option β} (hc:Nat.ble (cls C o) 2=true) (hf:∀ d,o.dst=some d->σ.hasD (σ.off+d)=false) :
  evalOp C X σ o K=(res C σ o).bind fun x=>K ((σ.killO x.1).put o.dst x.2):=by
 have plain:∀ d,evalR C σ d o (fun h=>K (σ.put o.dst h))=((evalR C σ d o some).map fun h=>((none:Option Tok),h)).bind fun x=>K ((σ.killO x.1).put o.dst x.2):=by
  intro d
  rw [evalR_bind]
  cases evalR C σ d o some <;> rfl
 obtain ⟨dst,op,ty,pos,after,guard⟩:=o
 dsimp only at hf plain ⊢
 cases op
 case buildSlice t m parts=>
  cases dst with
  | none=>simp [cls] at hc
  | some d=>
    have:=hf d rfl
    have hrat:C.rowAt.contains d=false:=by
     cases hr:C.rowAt.contains d with
     | false=>rfl
     | true=>exfalso; dsimp only [cls] at hc; rw [hr] at hc; cases hc
    simp only [evalOp,res,this,hrat]
    cases elemTy C t with
    | none=>rfl
    | some q=>
      obtain ⟨e,te,τ⟩:=q
      dsimp only
      cases partsH σ τ 0 parts.toList with
      | none=>rfl
      | some xs=>
        dsimp only
        simp only [Bool.not_false,Bool.and_true]
        cases Nat.beq parts.toList.length m&&Nat.ble (m*te.size) 16777216 <;> rfl
 case call c=>
  obtain ⟨callee,args,types⟩:=c
  cases callee
  case builtin b=>
   cases b <;> first | exact plain _ | (exfalso; cases dst <;> simp [cls] at hc; done) | skip
   cases dst with
   | none=>simp [cls] at hc
   | some d=>
     have:=hf d rfl
     have hrat:C.rowAt.contains d=false:=by
      cases hr:C.rowAt.contains d with
      | false=>rfl
      | true=>exfalso; dsimp only [cls] at hc; rw [hr] at hc; cases hc
     simp only [evalOp,res,hrat]
     generalize args.toList=la
     generalize types.toList=lt
     rcases la with _ | ⟨x,_ | ⟨y,_ | _⟩⟩ <;> try rfl
     rcases lt with _ | ⟨t,_ | ⟨t',_ | _⟩⟩ <;> try rfl
     dsimp only
     cases elemTy C t with
     | none=>cases Nat.beq t t' <;> rfl
     | some q=>
       obtain ⟨e,te,τ⟩:=q
       cases Nat.beq t t' with
       | false=>rfl
       | true=>
         dsimp only
         cases sliceOf τ (σ.ev y) with
         | none=>rfl
         | some ys=>
           cases Nat.ble te.bytes 1024 with
           | false=>rfl
           | true=>
             dsimp only
             generalize σ.ev x=hx
             split
             ·rename_i k τ' xs'
              rw [St.hasD_kill this]
              dsimp only
              cases packTV (.sl τ) (.sl τ' xs' : TV E) with
              | none=>cases Nat.beq k.2.2 e <;> rfl
              | some xs=>
                cases Nat.beq k.2.2 e with
                | false=>rfl
                | true=>dsimp only; rw [cond_bind]; rfl
             ·rw [this]
              dsimp only
              cases decide (ys.length<=lim) <;> rfl
             ·rename_i τ' xs'
              rw [this]
              dsimp only
              cases packTV (.sl τ) (.sl τ' xs' : TV E) with
              | none=>rfl
              | some xs=>dsimp only; rw [cond_bind]; rfl
             ·rfl
             ·rename_i h1 h2 h3 h4
              split
              ·rename_i k τ' xs'; exact absurd rfl (h1 k τ' xs')
              ·exact absurd rfl h2
              ·rename_i τ' xs'; exact absurd rfl (h3 τ' xs')
              ·rfl
  case value x=>
   cases dst with
   | none=>simp [cls] at hc
   | some d=>
     have:=hf d rfl
     cases x with
     | func f=>
       simp only [cls] at hc
       cases hsg:C.sig f with
       | none=>rw [hsg] at hc; cases hc
       | some S=>
         have hrat:C.rowAt.contains d=false:=by
          cases hr:C.rowAt.contains d with
          | false=>rfl
          | true=>exfalso; rw [hsg] at hc; dsimp only at hc; rw [hr] at hc; cases hc
         simp only [evalOp,this,hsg,hrat]
         exact plain _
     | _=>simp [cls] at hc
  case invoke=>exfalso; cases dst <;> simp [cls] at hc
 case box t x=>cases dst <;> first | exact plain _ | simp [cls] at hc
 case alloc t=>cases dst <;> first | exact plain _ | simp [cls] at hc
 case store t x y=>cases dst <;> first | exact plain _ | simp [cls] at hc
 case range t x=>cases dst <;> first | exact plain _ | simp [cls] at hc
 case binOp op t x y t'=>
  cases y <;> first | exact plain (σ.off+dst.getD 0) | skip
  rename_i v
  cases v <;> first | exact plain (σ.off+dst.getD 0) | skip
  rename_i ad l c
  cases ad <;> first | exact plain (σ.off+dst.getD 0) | skip
  cases l <;> first | exact plain (σ.off+dst.getD 0) | skip
  cases c <;> first | exact plain (σ.off+dst.getD 0) | skip
  exfalso
  cases dst <;> simp [cls] at hc
 case next x b=>cases dst <;> first | exact plain _ | simp [cls] at hc
 case makeSlice t l c=>cases dst <;> first | exact plain _ | simp [cls] at hc
 case move x=>
  cases dst with
  | none=>exact plain (σ.off+(none:Option Nat).getD 0)
  | some d=>
    have hfat:C.frzAt.contains d=false:=by
     cases hr:C.frzAt.contains d with
     | false=>rfl
     | true=>exfalso; dsimp only [cls] at hc; rw [hr] at hc; cases hc
    simp only [evalOp,hfat]
    exact plain (σ.off+d)
 case load t x=>
  cases dst with
  | none=>exact plain (σ.off+(none:Option Nat).getD 0)
  | some d=>
    have hfat:C.frzAt.contains d=false:=by
     cases hr:C.frzAt.contains d with
     | false=>rfl
     | true=>exfalso; dsimp only [cls] at hc; rw [hr] at hc; cases hc
    simp only [evalOp,hfat]
    exact plain (σ.off+d)
 case indexAddr t x i=>
  cases dst with
  | none=>exact plain (σ.off+(none:Option Nat).getD 0)
  | some d=>
    have hrat:C.rowAt.contains d=false:=by
     cases hr:C.rowAt.contains d with
     | false=>rfl
     | true=>exfalso; dsimp only [cls] at hc; rw [hr] at hc; cases hc
    simp only [evalOp,hrat]
    exact plain (σ.off+d)
 case makeMap t r=>cases dst <;> first | exact plain _ | simp [cls] at hc
 case mapUpdate t m k v=>cases dst <;> first | exact plain _ | simp [cls] at hc
 case lookup t m k ok=>cases dst <;> first | exact plain _ | simp [cls] at hc
 all_goals exact plain (σ.off+dst.getD 0)
theorem partsH_congr {τ:Ty N} : ∀ {parts:List (Nat×Operand)} {m:Nat},(∀ p ∈ parts,σ'.ev p.2=σ.ev p.2)->partsH σ' τ m parts=partsH σ τ m parts
 | [],_,_=>rfl
 | (j,x)::r,m,h=>by
   have hx:σ'.ev x=σ.ev x:=h (j,x) (List.mem_cons_self ..)
   simp only [partsH]
   rw [hx,partsH_congr fun p hp=>h p (List.mem_cons_of_mem _ hp)]
theorem buildParts_congr {fs:List (Nat×Nat×Nat)} : ∀ {parts:List (Nat×Operand)} {cs:List (Cell E)},(∀ p ∈ parts,σ'.ev p.2=σ.ev p.2)->buildParts σ' fs parts cs=buildParts σ fs parts cs
 | [],_,_=>rfl
 | (j,x)::r,cs,h=>by
   have hx:σ'.ev x=σ.ev x:=h (j,x) (List.mem_cons_self ..)
   simp only [buildParts]
   rw [hx]
   split
   ·split
    ·exact buildParts_congr fun p hp=>h p (List.mem_cons_of_mem _ hp)
    ·rfl
   ·rfl
theorem evL_congr:∀ {xs:List Operand},(∀ x ∈ xs,σ'.ev x=σ.ev x)->evL σ' xs=evL σ xs
 | [],_=>rfl
 | x::xs,h=>by
   simp only [evL]
   rw [h _ (List.mem_cons_self ..),evL_congr fun p hp=>h p (List.mem_cons_of_mem _ hp)]
theorem optInt_congr {x:Option Operand} (h:∀ y,x=some y->σ'.ev y=σ.ev y):optInt σ' x=optInt σ x:=by
 cases x with
 | none=>rfl
 | some y=>simp only [optInt,h y rfl]
theorem evalR_congr {C:Ctx E} {d:Nat} {o:Oper} {K:Hold E->Option β} (h:∀ x ∈ o.op.operands.toList,σ'.ev x=σ.ev x) (hh:σ'.heap=σ.heap):evalR C σ' d o K=evalR C σ d o K:=by
 obtain ⟨dst,op,ty,pos,after,guard⟩:=o
 dsimp only at h
 cases op
 case move x=>have hx:=h x (by simp [Op.operands]); simp only [evalR,hx]
 case assign x=>have hx:=h x (by simp [Op.operands]); simp only [evalR,hx]
 case pick c x y=>
  have h1:=h c (by simp [Op.operands]); have h2:=h x (by simp [Op.operands]); have h3:=h y (by simp [Op.operands])
  simp only [evalR,h1,h2,h3]
 case binOp op t x y t' => have h1:=h x (by simp [Op.operands]); have h2:=h y (by simp [Op.operands]); simp only [evalR,h1,h2]
 case unOp op t x=>have h1:=h x (by simp [Op.operands]); simp only [evalR,h1]
 case load t x=>have h1:=h x (by simp [Op.operands]); simp only [evalR,h1,hh]
 case fieldAddr t x f=>have h1:=h x (by simp [Op.operands]); simp only [evalR,h1]
 case indexAddr t x y=>have h1:=h x (by simp [Op.operands]); have h2:=h y (by simp [Op.operands]); simp only [evalR,h1,h2]
 case index t x y=>have h1:=h x (by simp [Op.operands]); have h2:=h y (by simp [Op.operands]); simp only [evalR,h1,h2]
 case slice t x lo hi m=>
  have h1:=h x (by simp [Op.operands])
  have h2:=optInt_congr (σ:=σ) (σ' := σ') (x:=lo) fun y e=>h y (by simp [Op.operands,e])
  have h3:=optInt_congr (σ:=σ) (σ' := σ') (x:=hi) fun y e=>h y (by simp [Op.operands,e])
  cases m with
  | none=>simp only [evalR,h1,h2,h3]
  | some z=>
    cases lo with
    | some _=>rfl
    | none=>cases hi with
      | none=>rfl
      | some y=>
        have h4:=h y (by simp [Op.operands])
        have h5:=h z (by simp [Op.operands])
        simp only [evalR,h1,h4,h5]
 case extract x i=>have h1:=h x (by simp [Op.operands]); simp only [evalR,h1]
 case nilCheck x=>have h1:=h x (by simp [Op.operands]); simp only [evalR,h1]
 case build t parts=>
  have h1:∀ fs cs,buildParts σ' fs parts.toList cs=buildParts σ fs parts.toList cs:=fun fs cs=>buildParts_congr fun p hp=>h _ (by simp only [Op.operands,List.toList_toArray]; exact List.mem_map.2 ⟨p,hp,rfl⟩)
  simp only [evalR,h1]
 case call c=>
  have h1:∀ x ∈ c.args.toList,σ'.ev x=σ.ev x:=fun x hx=>h x (by simp only [Op.operands,Call.operands,Array.toList_append]; exact List.mem_append_right _ hx)
  have h2:=evL_congr h1
  simp only [evalR]
  split
  ·split
   ·rename_i x t ha ht
    rw [h1 x (by rw [ha]; simp),hh]
   ·rfl
  ·rw [h2]
  ·rfl
 case convert s t x=>have h1:=h x (by simp [Op.operands]); simp only [evalR,h1]
 case makeFunc fn us vs=>
  cases fn with
  | func f=>
    have h1:evL σ' us.toList=evL σ us.toList:=evL_congr fun x hx=>h x (by simp only [Op.operands,Array.toList_append]; exact List.mem_append_left _ hx)
    have h2:evL σ' vs.toList=evL σ vs.toList:=evL_congr fun x hx=>h x (by simp only [Op.operands,Array.toList_append]; exact List.mem_append_right _ hx)
    simp only [evalR,h1,h2]
  | _=>rfl
 all_goals rfl
theorem res_congr {C:Ctx E} {o:Oper} (h:∀ x ∈ o.op.operands.toList,σ'.ev x=σ.ev x) (hh:σ'.heap=σ.heap) (hoff:σ'.off=σ.off):res C σ' o=res C σ o:=by
 have hR:=fun d=>evalR_congr (C:=C) (d:=d) (K:=some) h hh
 obtain ⟨dst,op,ty,pos,after,guard⟩:=o
 dsimp only at h hR
 cases op
 case buildSlice t m parts=>
  have h1:∀ τ,partsH σ' τ 0 parts.toList=partsH σ τ 0 parts.toList:=fun τ=>partsH_congr fun p hp=>h _ (by simp only [Op.operands,List.toList_toArray]; exact List.mem_map.2 ⟨p,hp,rfl⟩)
  cases dst with
  | none=>simp only [res,hR,hoff]
  | some d=>simp only [res,h1,hoff]
 case call c=>
  have h1:∀ x ∈ c.args.toList,σ'.ev x=σ.ev x:=fun x hx=>h x (by simp only [Op.operands,Call.operands,Array.toList_append]; exact List.mem_append_right _ hx)
  simp only [res,hR,hoff]
  split
  ·split
   ·rename_i x y t t' ha ht
    rw [h1 x (by rw [ha]; simp),h1 y (by rw [ha]; simp)]
   ·rfl
  ·rfl
 all_goals simp only [res,hR,hoff]
section kill
variable {k:Tok}
theorem getD_map {α:Type} (f:α->α) (d:α) (hd:f d=d):∀ (l:List α) (i:Nat),(l.map f).getD i d=f (l.getD i d)
 | [],i=>by simp [hd]
 | a::l,0=>rfl
 | a::l,i+1=>by simpa using getD_map f d hd l i
theorem get_kill (i:Nat):(σ.kill k).get i=(σ.get i).kill k:=getD_map _ _ rfl σ.tmps i
theorem ofConst_kill (v:Value):(ofConst v:Cell E).kill k=ofConst v:=by cases v <;> rfl
theorem ev_kill (x:Operand):(σ.kill k).ev x=(σ.ev x).kill k:=by
 cases x with
 | tmp t=>exact get_kill t
 | const v=>
   show constH v=(constH v).kill k
   cases v <;> first | rfl | skip
   rename_i cs
   show Hold.agg _=Hold.agg _
   rw [List.map_map]
   congr 1
   exact List.map_congr_left fun v _=>(ofConst_kill v).symm
 | global g=>rfl
 | func f=>rfl
theorem leaf_kill (c:Cell E):(c.kill k).leaf=c.leaf:=by
 cases c with
 | tok k' t xs=>simp only [Cell.kill]; split <;> rfl
 | rw s e p=>simp only [Cell.kill]; split <;> rfl
 | _=>rfl
theorem alive_kill (c:Cell E):(c.kill k).alive=c.alive:=by
 cases c with
 | tok k' t xs=>simp only [Cell.kill]; split <;> rfl
 | rw s e p=>simp only [Cell.kill]; split <;> rfl
 | _=>rfl
theorem cells_kill (h:Hold E):(h.kill k).cells=h.cells.map (·.kill k):=by cases h <;> rfl
theorem all_alive_kill:∀ cs:List (Cell E),(cs.map (·.kill k)).all Cell.alive=cs.all Cell.alive
 | []=>rfl
 | c::cs=>by simp only [List.map_cons,List.all_cons,alive_kill,all_alive_kill cs]
theorem leafL_kill:∀ cs:List (Cell E),leafL (cs.map (·.kill k))=leafL cs
 | []=>rfl
 | c::cs=>by simp only [List.map_cons,leafL,leaf_kill,leafL_kill cs]
theorem packH_kill {t:Ty N} {h:Hold E} : packH t (h.kill k)=packH t h:=by
 cases h with
 | one c=>
   cases c with
   | tok k' t' xs=>simp only [Hold.kill,Cell.kill]; cases Tok.eq k' k <;> rfl
   | rw s e p=>simp only [Hold.kill,Cell.kill]; cases Tok.eq (rkey s e) k <;> rfl
   | _=>rfl
 | agg cs=>simp only [Hold.kill,packH,leafL_kill]
 | tup vs=>rfl
theorem fp_kill (h:Hold E):(h.kill k).fp=h.fp.kill k:=by
 cases h with
 | one c=>
   cases c with
   | tok k' t' xs=>simp only [Hold.kill,Cell.kill,Hold.fp,Cell.fp]; cases Tok.eq k' k <;> rfl
   | rw s e p=>simp only [Hold.kill,Cell.kill,Hold.fp,Cell.fp]; cases Tok.eq (rkey s e) k <;> rfl
   | tv x=>cases x <;> rfl
   | _=>rfl
 | agg cs=>rfl
 | tup vs=>rfl
theorem scs_kill:∀ hs:List (Hold E),Hold.scs (hs.map (·.kill k))=Hold.scs hs
 | []=>rfl
 | .one c::hs=>by
   have e:(c.kill k).sc=c.sc:=by
    cases c with
    | tok k' t' xs=>simp only [Cell.kill]; cases Tok.eq k' k <;> rfl
    | rw s e p=>simp only [Cell.kill]; cases Tok.eq (rkey s e) k <;> rfl
    | _=>rfl
   show (match (c.kill k).sc,Hold.scs (hs.map (·.kill k)) with | some x,some xs=>some (x::xs) | _,_=>none)=_
   rw [e,scs_kill hs]
   rfl
 | .agg _::_=>rfl
 | .tup _::_=>rfl
theorem sliceOf_kill {t:Ty N} {h:Hold E} : sliceOf t (h.kill k)=sliceOf t h:=by
 cases h with
 | one c=>simp only [Hold.kill,sliceOf,leaf_kill]
 | agg cs=>rfl
 | tup vs=>rfl
theorem partsH_kill {τ:Ty N} : ∀ (parts:List (Nat×Operand)) (m:Nat),partsH (σ.kill k) τ m parts=partsH σ τ m parts
 | [],_=>rfl
 | (j,x)::r,m=>by simp only [partsH,ev_kill,packH_kill,partsH_kill r]
theorem evL_kill:∀ xs:List Operand,evL (σ.kill k) xs=(evL σ xs).map (·.kill k)
 | []=>rfl
 | x::xs=>by simp only [evL,ev_kill,evL_kill xs,List.map_cons]
theorem packArgs_kill:∀ (ts:List (Ty N)) (hs:List (Hold E)),packArgs ts (hs.map (·.kill k))=packArgs ts hs
 | [],[]=>rfl
 | [],_::_=>rfl
 | [t],[]=>rfl
 | [t],[h]=>packH_kill
 | [t],_::_::_=>rfl
 | t::u::ts,[]=>rfl
 | t::u::ts,h::hs=>by
   simp only [List.map_cons,packArgs,packH_kill]
   rw [packArgs_kill (u::ts) hs]
theorem tvs_kill (ls:List (TV E)):(ls.map Cell.tv).map (·.kill k)=ls.map Cell.tv:=by
 rw [List.map_map]; exact List.map_congr_left fun _ _=>rfl
theorem loadC_kill {ti:TI E} {cs:List (Cell E)} {o:Nat} : loadC ti (cs.map (·.kill k)) o some=(loadC ti cs o some).map (·.kill k):=by
 unfold loadC
 split
 ·rw [List.length_map]
  split
  ·show some (Hold.agg _)=some (Hold.agg _)
   rw [<- List.map_drop,<- List.map_take]
  ·rfl
 ·rw [<- List.map_drop]
  cases cs.drop o <;> rfl
theorem lenH_kill {d:TD} {h:Hold E} : lenH d (h.kill k) some=(lenH d h some).map (·.kill k):=by
 cases h with
 | one c=>
   cases c with
   | tok k' t xs=>
     simp only [Hold.kill,Cell.kill]
     split <;> cases d <;> rfl
   | rw s e p=>
     simp only [Hold.kill,Cell.kill]
     split <;> cases d <;> rfl
   | _=>unfold lenH; cases d <;> simp only [Hold.kill,Cell.kill] <;> (try rfl) <;> split <;> rfl
 | agg cs=>cases d <;> rfl
 | tup vs=>cases d <;> rfl
theorem lenM_kill {bs:List (Blk E)} {d:TD} {h:Hold E} : lenM (bs.map (·.kill k)) d (h.kill k) some=(lenM bs d h some).map (·.kill k):=by
 by_cases hm:∃ s,h = .one (.mp s)
 ·obtain ⟨s,rfl⟩:=hm
  simp only [Hold.kill,Cell.kill,lenM,List.getElem?_map]
  cases d <;> try rfl
  cases bs[s]? with
  | none=>rfl
  | some b=>
    cases b with
    | rw s e t xs=>simp only [Option.map_some,Blk.kill]; cases Tok.eq (rkey s e) k <;> rfl
    | _=>rfl
 ·have h1:∀ (bs:List (Blk E)) (h' : Hold E),(∀ s,h' ≠ .one (.mp s))->lenM bs d h' some=lenH d h' some:=by
   intro bs h' hne
   unfold lenM
   split
   ·exact absurd rfl (hne _)
   ·rfl
  rw [h1 bs h (fun s e=>hm ⟨s,e⟩),h1 _ (h.kill k),lenH_kill]
  intro s e
  apply hm
  cases h with
  | one c=>
    cases c with
    | mp s' => exact ⟨s',rfl⟩
    | tok k' t xs=>simp only [Hold.kill,Cell.kill] at e; split at e <;> cases e
    | rw s e' p=>simp only [Hold.kill,Cell.kill] at e; split at e <;> cases e
    | _=>simp only [Hold.kill,Cell.kill] at e; cases e
  | agg cs=>cases e
  | tup vs=>cases e
theorem holdV_kill (v:Bool×List (Cell E)):holdV (v.1,v.2.map (·.kill k))=(holdV v).kill k:=by
 obtain ⟨b,cs⟩:=v
 cases b with
 | true=>rfl
 | false=>
   match cs with
   | []=>rfl
   | [c]=>rfl
   | _::_::_=>rfl
theorem setRange_kill {cs xs:List (Cell E)} {o:Nat} : setRange (cs.map (·.kill k)) o (xs.map (·.kill k))=(setRange cs o xs).map (·.kill k):=by
 simp only [setRange,List.map_append,List.map_take,List.map_drop,List.length_map]
theorem buildParts_kill {fs:List (Nat×Nat×Nat)} : ∀ (parts:List (Nat×Operand)) (cs:List (Cell E)),buildParts (σ.kill k) fs parts (cs.map (·.kill k))=(buildParts σ fs parts cs).map (List.map (·.kill k))
 | [],_=>rfl
 | (j,x)::r,cs=>by
   simp only [buildParts,ev_kill,cells_kill,List.length_map,all_alive_kill,setRange_kill,List.isEmpty_map]
   split
   ·split
    ·exact buildParts_kill r _
    ·rfl
   ·rfl
theorem optInt_kill (x:Option Operand):optInt (σ.kill k) x=optInt σ x:=by
 cases x with
 | none=>rfl
 | some x=>
   simp only [optInt,ev_kill]
   cases σ.ev x with
   | one c=>
     cases c with
     | tok k' t xs=>simp only [Hold.kill,Cell.kill]; cases Tok.eq k' k <;> rfl
     | rw s e p=>simp only [Hold.kill,Cell.kill]; cases Tok.eq (rkey s e) k <;> rfl
     | _=>rfl
   | agg cs=>rfl
   | tup vs=>rfl
theorem Tok.ne_of {d:Nat} (hk:k.1≠d) (i e:Nat):Tok.eq (d,i,e) k=false:=by
 simp only [Tok.eq]
 have:Nat.beq d k.1=false:=by
  cases h:Nat.beq d k.1 with
  | false=>rfl
  | true=>exact absurd (Nat.eq_of_beq_eq_true h).symm hk
 rw [this]; rfl
theorem resVs_kill {d:Nat} (hk:k.1≠d):∀ (m:Nat) (ts:List (Ty N)) (es:List (Option Nat)) (y:Tup E.Γ ts),(resVs d m ts es y).map (fun v=>(v.1,v.2.map (·.kill k)))=resVs (E:=E) d m ts es y:=by
 have one:∀ (i:Nat) (e:Option Nat) (t:Ty N) (x:den E.Γ t),((resV d i e t x).1,(resV d i e t x).2.map (·.kill k))=resV (E:=E) d i e t x:=by
  intro i e t x
  unfold resV
  cases e with
  | some e=>
    dsimp only [List.map]
    unfold exCell
    split
    ·simp only [Cell.kill,Tok.ne_of hk]
    ·rfl
  | none=>
    dsimp only
    split
    ·rfl
    ·dsimp only; rw [tvs_kill]
 intro m ts
 induction ts generalizing m with
 | nil=>intro es y; rfl
 | cons t ts ih=>
   intro es y
   cases ts with
   | nil=>simp only [resVs,List.map_cons,List.map_nil,one]
   | cons u ts=>
     obtain ⟨y1,y2⟩:=y
     simp only [resVs,List.map_cons,one]
     rw [ih (m+1) es.tail y2]
theorem viewRes_kill {d:Nat} (hk:k.1≠d) (ts:List (Ty N)) (es:List (Option Nat)) (y:Tup E.Γ ts):(viewRes (E:=E) d ts es y).kill k=viewRes d ts es y:=by
 have h:=resVs_kill (E:=E) (k:=k) hk 0 ts es y
 unfold viewRes
 split
 ·rename_i v hv
  rw [hv] at h
  rw [<- holdV_kill]
  simp only [List.map_cons,List.map_nil,List.cons.injEq,and_true] at h
  rw [h]
 ·simp only [Hold.kill]
  rw [h]
theorem heap_kill (i:Nat):(σ.kill k).heap[i]? = (σ.heap[i]?).map (·.kill k):=by simp [St.kill]
theorem binC_kill {C:Ctx E} {t:Nat} {op:BinOp} {x y:TV E} : (binC C t op x y fun r=>some (Hold.one (.tv r)))=(binC C t op x y fun r=>some (Hold.one (.tv r))).map (·.kill k):=by
 cases h:binC C t op x y fun r=>some (Hold.one (Cell.tv r)) with
 | none=>rfl
 | some z=>
   have:=binC_bind (C:=C) (t:=t) (op:=op) (x:=x) (y:=y) (f:=fun r=>r) (K:=fun r=>some (Hold.one (Cell.tv r)))
   rw [h] at this
   cases hb:binC C t op x y fun r=>some r with
   | none=>rw [hb] at this; cases this
   | some q=>rw [hb] at this; cases this; rfl
theorem unTV_kill {op:UnOp} {x:TV E} : (unTV op x fun r=>some (Hold.one (.tv r)))=(unTV op x fun r=>some (Hold.one (.tv r))).map (·.kill k):=by
 unfold unTV
 split <;> rfl
theorem cutL_kill {α:Type} {xs:List α} {lo hi:Option Int} {f:List α->Hold E} (hf:∀ r,(f r).kill k=f r):(cutL xs lo hi fun r=>some (f r))=(cutL xs lo hi fun r=>some (f r)).map (·.kill k):=by
 have key:∀ (b:Bool) (r:List α),cond b (some (f r)) none=(cond b (some (f r)) none).map (·.kill k):=by intro b r; cases b <;> simp [hf]
 unfold cutL
 split
 ·simp [hf]
 ·exact key _ _
 ·exact key _ _
 ·exact key _ _
theorem cell_kill (c:Cell E):(c.kill k=c)\/(∃ q u zs,c = .tok q u zs/\c.kill k = .tv (.sl u zs)) \/ ∃ s e p,c = .rw s e p/\c.kill k = .dead:=by
 cases c with
 | tok q u zs=>
   cases hq:Tok.eq q k with
   | true=>exact .inr (.inl ⟨q,u,zs,rfl,by simp only [Cell.kill,hq]⟩)
   | false=>exact .inl (by simp only [Cell.kill,hq])
 | rw s e p=>
   cases hq:Tok.eq (rkey s e) k with
   | true=>exact .inr (.inr ⟨s,e,p,rfl,by simp only [Cell.kill,hq]⟩)
   | false=>exact .inl (by simp only [Cell.kill,hq])
 | _=>exact .inl rfl
theorem two_kill {f:TV E->TV E->Option γ} {g:List (Cell E)->List (Cell E)->Option γ} (hs:∀ (u:Ty N) (xs:List (den E.Γ u)) (z:TV E),f (.sl u xs) z=none) (hs' : ∀ (u:Ty N) (xs:List (den E.Γ u)) (z:TV E),f z (.sl u xs)=none)
  (hg:∀ xs ys,g (xs.map (·.kill k)) (ys.map (·.kill k))=g xs ys) (hx hy:Hold E) :
  (match hx.kill k,hy.kill k with | .one (.tv x),.one (.tv y)=>f x y | .agg xs,.agg ys=>g xs ys | _,_=>none)=(match hx,hy with | .one (.tv x),.one (.tv y)=>f x y | .agg xs,.agg ys=>g xs ys | _,_=>none):=by
 cases hx with
 | one c=>
   cases hy with
   | one c'=>
     simp only [Hold.kill]
     rcases cell_kill (k:=k) c with e | ⟨q,u,zs,rfl,e⟩ | ⟨q,u,pp,rfl,e⟩ <;> rcases cell_kill (k:=k) c' with e' | ⟨q',u',zs',rfl,e'⟩ | ⟨q',u',pp',rfl,e'⟩ <;> rw [e,e']
     all_goals first | rfl | exact hs _ _ _ | (cases c <;> first | rfl | exact hs' _ _ _) | (cases c' <;> first | rfl | exact hs _ _ _)
   | _=>
     simp only [Hold.kill]
     rcases cell_kill (k:=k) c with e | ⟨q,u,zs,rfl,e⟩ | ⟨q,u,pp,rfl,e⟩ <;> rw [e] <;> first | rfl | (cases c <;> rfl)
 | agg cs=>
   cases hy with
   | agg ds=>exact hg cs ds
   | one c=>simp only [Hold.kill]
   | tup vs=>simp only [Hold.kill]
 | tup vs=>simp only [Hold.kill]
theorem eqFs_kill {C:Ctx E} : ∀ (ts:List Nat) (xs ys:List (Cell E)),eqFs C ts (xs.map (·.kill k)) (ys.map (·.kill k))=eqFs C ts xs ys
 | [],[],[]=>rfl
 | [],[],_::_=>rfl
 | [],_::_,_=>rfl
 | _::_,[],_=>rfl
 | _::_,_::_,[]=>rfl
 | t::ts,x::xs,y::ys=>by
   simp only [List.map_cons,eqFs,eqFs_kill ts xs ys]
   cases C.ti t with
   | none=>rfl
   | some ti=>
     cases eqFs C ts xs ys with
     | none=>rfl
     | some r=>
       dsimp only
       rcases cell_kill (k:=k) x with e | ⟨q,u,zs,rfl,e⟩ | ⟨q,u,pp,rfl,e⟩ <;> rcases cell_kill (k:=k) y with e' | ⟨q',u',zs',rfl,e'⟩ | ⟨q',u',pp',rfl,e'⟩ <;> rw [e,e'] <;> cases ti.d <;> first | rfl | (cases x <;> first | rfl | (rename_i v; cases v <;> rfl))
theorem arrAddr_kill {C:Ctx E} {t:Nat} {i:Operand} {h:Hold E} : arrAddr C t i (h.kill k)=(arrAddr C t i h).map (·.kill k):=by
 unfold arrAddr
 split
 ·split
  ·rename_i te n hti _ _ m e hd
   cases C.ti e with
   | none=>rfl
   | some te=>cases Nat.blt _ m with
     | false=>rfl
     | true=>cases h with
       | one c=>cases c with
         | tok k' t xs=>simp only [Hold.kill,Cell.kill]; cases Tok.eq k' k <;> rfl
         | rw s e p=>simp only [Hold.kill,Cell.kill]; cases Tok.eq (rkey s e) k <;> rfl
         | _=>rfl
       | _=>rfl
  ·rfl
 ·rfl
theorem evalR_kill {C:Ctx E} {d:Nat} {o:Oper} (hk:k.1≠d):evalR C (σ.kill k) d o some=(evalR C σ d o some).map (·.kill k):=by
 obtain ⟨dst,op,ty,pos,after,guard⟩:=o
 cases op
 case move x=>simp only [evalR,ev_kill,Option.map_some]
 case assign x=>simp only [evalR,ev_kill,Option.map_some]
 case pick c x y=>
  simp only [evalR,ev_kill]
  generalize σ.ev c=hc
  cases hc with
  | one c=>
    cases c with
    | tok k' t xs=>simp only [Hold.kill,Cell.kill]; cases Tok.eq k' k <;> rfl
    | rw s e p=>simp only [Hold.kill,Cell.kill]; cases Tok.eq (rkey s e) k <;> rfl
    | tv v=>cases v with
      | bool b=>cases b <;> rfl
      | _=>rfl
    | _=>rfl
  | _=>rfl
 case binOp op t x y t'=>
  simp only [evalR,ev_kill]
  generalize σ.ev x=hx
  generalize σ.ev y=hy
  have hs:∀ (u:Ty N) (xs:List (den E.Γ u)) (z:TV E),binC C t op (.sl u xs) z (fun r=>some (Hold.one (.tv r)))=none:=by intro u xs z; cases z <;> rfl
  have hs' : ∀ (u:Ty N) (xs:List (den E.Γ u)) (z:TV E),binC C t op z (.sl u xs) (fun r=>some (Hold.one (.tv r)))=none:=by intro u xs z; cases z <;> rfl
  have hop:∀ b,(eqOp op b fun r=>some (Hold.one (E:=E) (.tv r)))=(eqOp op b fun r=>some (Hold.one (.tv r))).map (·.kill k):=by
   intro b; unfold eqOp; split <;> rfl
  refine (two_kill (k:=k) (f:=fun x y=>binC C t op x y fun r=>some (Hold.one (.tv r))) (g:=fun xs ys=>match (C.ti t).bind eqTys with
   | some ts=>eqOp op (eqFs C ts xs ys) fun r=>some (Hold.one (.tv r))
   | none=>none) hs hs' (fun xs ys=>by simp only [eqFs_kill]) hx hy).trans ?_
  cases hx with
  | one c=>cases hy with
    | one c' => cases c <;> first | rfl | (cases c' <;> first | rfl | exact binC_kill)
    | _=>cases c <;> rfl
  | agg cs=>cases hy with
    | agg ds=>
      dsimp only
      cases (C.ti t).bind eqTys with
      | none=>rfl
      | some ts=>exact hop _
    | _=>rfl
  | tup vs=>rfl
 case unOp op t x=>
  simp only [evalR,ev_kill]
  generalize σ.ev x=hx
  cases hx with
  | one c=>
    cases c with
    | tok k' t xs=>simp only [Hold.kill,Cell.kill]; cases Tok.eq k' k <;> cases op <;> rfl
    | rw s e p=>simp only [Hold.kill,Cell.kill]; cases Tok.eq (rkey s e) k <;> cases op <;> rfl
    | tv v=>exact unTV_kill
    | _=>rfl
  | _=>rfl
 case load t x=>
  simp only [evalR,ev_kill,fp_kill]
  cases C.ti t with
  | none=>rfl
  | some ti=>
    dsimp only
    generalize (σ.ev x).fp=hx
    cases hx with
    | one c=>
      cases c with
      | tok k' t xs=>simp only [Hold.kill,Cell.kill]; cases Tok.eq k' k <;> rfl
      | rw s e p=>simp only [Hold.kill,Cell.kill]; cases Tok.eq (rkey s e) k <;> rfl
      | ptr s off=>
        simp only [Hold.kill,Cell.kill,heap_kill]
        cases σ.heap[s]? with
        | none=>rfl
        | some b=>cases b with
          | gone=>rfl
          | iter _ _=>rfl
          | mp _ _ _=>rfl
          | rw s' e' t' xs' => simp only [Option.map_some,Blk.kill]; cases Tok.eq (rkey s' e') k <;> rfl
          | cells cs=>exact loadC_kill
      | fptr ls=>
        simp only [Hold.kill,Cell.kill]
        have:=loadC_kill (k:=k) (ti:=ti) (cs:=ls.map Cell.tv) (o:=0)
        rw [tvs_kill] at this
        exact this
      | _=>rfl
    | _=>rfl
 case fieldAddr t x f=>
  simp only [evalR,ev_kill,fp_kill]
  cases C.ti t with
  | none=>rfl
  | some ti=>
    dsimp only
    cases ti.d <;> try rfl
    rename_i fs
    dsimp only
    cases fs[f]? with
    | none=>rfl
    | some q=>
      obtain ⟨off,u,sz⟩:=q
      dsimp only
      generalize (σ.ev x).fp=hx
      cases Nat.blt 0 sz <;> cases hx with
      | one c=>
        cases c with
        | tok k' t xs=>simp only [Hold.kill,Cell.kill]; cases Tok.eq k' k <;> rfl
        | rw s e p=>simp only [Hold.kill,Cell.kill]; cases Tok.eq (rkey s e) k <;> rfl
        | _=>rfl
      | _=>rfl
 case indexAddr t x y=>
  simp only [evalR,ev_kill,sliceOf_kill,fp_kill]
  cases elemTy C t with
  | none=>simp only [arrAddr_kill]; cases arrAddr C t y (σ.ev x).fp <;> rfl
  | some q=>
    obtain ⟨e,te,τ⟩:=q
    dsimp only
    cases sliceOf τ (σ.ev x) with
    | none=>rfl
    | some xs=>
      generalize σ.ev y=hy
      cases hy with
      | one c=>
        cases c with
        | tok k' t ys=>simp only [Hold.kill,Cell.kill]; cases Tok.eq k' k <;> rfl
        | rw s e p=>simp only [Hold.kill,Cell.kill]; cases Tok.eq (rkey s e) k <;> rfl
        | tv v=>cases v <;> try rfl
                rename_i kk n
                simp only [Hold.kill,Cell.kill]
                cases decide (0<=n)&&decide (n<xs.length) <;> rfl
        | _=>rfl
      | _=>rfl
 case index t x y=>
  simp only [evalR,ev_kill]
  cases C.ti t with
  | none=>rfl
  | some ti=>
    dsimp only
    cases ti.d <;> try rfl
    generalize σ.ev x=hx
    generalize σ.ev y=hy
    have hi:(hy.kill k=hy)\/(∃ s e p,hy = .one (.rw s e p)/\hy.kill k = .one .dead) \/ ∃ q u xs,hy = .one (.tok q u xs)/\hy.kill k = .one (.tv (.sl u xs))\/(∀ c,hy ≠ .one c) /\ ∀ c,hy.kill k ≠ .one c:=by
     cases hy with
     | one c=>
       cases c with
       | tok q u xs=>
         cases hq:Tok.eq q k with
         | true=>exact .inr (.inr ⟨q,u,xs,.inl ⟨rfl,by simp only [Hold.kill,Cell.kill,hq]⟩⟩)
         | false=>exact .inl (by simp only [Hold.kill,Cell.kill,hq])
       | rw s e p=>
         cases hq:Tok.eq (rkey s e) k with
         | true=>exact .inr (.inl ⟨s,e,p,rfl,by simp only [Hold.kill,Cell.kill,hq]⟩)
         | false=>exact .inl (by simp only [Hold.kill,Cell.kill,hq])
       | _=>exact .inl rfl
     | _=>exact .inr <| .inr ⟨(0,0,0),.bool,[],.inr ⟨fun c e=>(by cases e),fun c e=>(by cases e)⟩⟩
    have key:∀ (s:List UInt8) (n:Int),cond (decide (0<=n)&&decide (n<s.length)) (some (Hold.one (E:=E) (.tv (.int .u8 (bt s n.toNat))))) none =
      (cond (decide (0<=n)&&decide (n<s.length)) (some (Hold.one (.tv (.int .u8 (bt s n.toNat))))) none).map (·.kill k):=by
     intro s n; cases decide (0<=n)&&decide (n<s.length) <;> rfl
    cases hx with
    | one c=>
      cases c with
      | tok q u xs=>simp only [Hold.kill,Cell.kill]; cases Tok.eq q k <;> rfl
      | rw s e p=>simp only [Hold.kill,Cell.kill]; cases Tok.eq (rkey s e) k <;> rfl
      | tv v=>
        cases v with
        | str s=>
          rcases hi with e | ⟨q,u,pp,rfl,e⟩ | ⟨q,u,xs,⟨rfl,e⟩ | ⟨e1,e2⟩⟩
          ·rw [e]
           cases hy with
           | one c=>cases c with
             | tv v=>cases v with
               | int kk n=>exact key s n
               | _=>rfl
             | _=>rfl
           | _=>rfl
          ·rw [e]; rfl
          ·rw [e]; rfl
          ·cases hy with
           | one c=>exact absurd rfl (e1 c)
           | _=>rfl
        | _=>rfl
      | _=>rfl
    | _=>rfl
 case slice t x lo hi m=>
  cases m with
  | some m=>
    cases lo with
    | some _=>rfl
    | none=>
      cases hi with
      | none=>rfl
      | some y=>
        simp only [evalR,ev_kill,sliceOf_kill]
        cases elemTy C t with
        | none=>rfl
        | some q=>
          obtain ⟨e,te,τ⟩:=q
          have hnt:∀ h:Hold E,(∀ ik n,h ≠ .one (.tv (.int ik n))) -> ∀ ik n,h.kill k ≠ .one (.tv (.int ik n)):=by
           intro h hn ik n
           cases h with
           | one c=>
             cases c with
             | tok q u xs=>simp only [Hold.kill,Cell.kill]; cases Tok.eq q k <;> (intro e; cases e)
             | rw s e p=>simp only [Hold.kill,Cell.kill]; cases Tok.eq (rkey s e) k <;> (intro e; cases e)
             | tv v=>exact hn ik n
             | _=>intro e; cases e
           | _=>intro e; cases e
          by_cases h1:∃ ik n,σ.ev y = .one (.tv (.int ik n))
          ·obtain ⟨ik,n,h1⟩:=h1
           by_cases h2:∃ ik n,σ.ev m = .one (.tv (.int ik n))
           ·obtain ⟨ik',n',h2⟩:=h2
            rw [h1,h2]
            dsimp only [Hold.kill,Cell.kill]
            cases sliceOf τ (σ.ev x) with
            | none=>rfl
            | some xs=>dsimp only; cases decide (0<=n)&&(decide (n<=xs.length)&&decide (n=n')) <;> rfl
           ·have h3:=hnt _ (fun ik n e=>h2 ⟨ik,n,e⟩)
            split
            ·rename_i e1 e2; exact absurd e2 (h3 _ _)
            ·split
             ·rename_i e1 e2; exact absurd ⟨_,_,e2⟩ h2
             ·rfl
          ·have h3:=hnt _ (fun ik n e=>h1 ⟨ik,n,e⟩)
           split
           ·rename_i e1 e2; exact absurd e1 (h3 _ _)
           ·split
            ·rename_i e1 e2; exact absurd ⟨_,_,e1⟩ h1
            ·rfl
  | none=>
    simp only [evalR,ev_kill,optInt_kill]
    cases C.ti t with
    | none=>rfl
    | some ti=>
      generalize σ.ev x=hx
      generalize optInt σ lo=l
      generalize optInt σ hi=h
      cases l with
      | none=>cases hx <;> rfl
      | some l=>
        cases h with
        | none=>cases hx <;> rfl
        | some h=>
          cases hx with
          | one c=>
            have h1:∀ τ:Ty N,sliceOf τ (.one (c.kill k))=sliceOf τ (.one c):=fun τ=>sliceOf_kill (k:=k) (h := .one c)
            simp only [Hold.kill]
            cases ti.d with
            | str=>
              cases c with
              | tok q u xs=>simp only [Cell.kill]; cases Tok.eq q k <;> rfl
              | rw s e p=>simp only [Cell.kill]; cases Tok.eq (rkey s e) k <;> rfl
              | tv v=>cases v with
                | str s=>exact cutL_kill (f:=fun r=>Hold.one (.tv (.str r))) fun r=>rfl
                | _=>rfl
              | _=>rfl
            | slice e=>
              dsimp only
              cases elemTy C t with
              | none=>rfl
              | some q=>
                obtain ⟨e,te,τ⟩:=q
                dsimp only
                rw [h1]
                cases sliceOf τ (.one c) with
                | none=>rfl
                | some xs=>exact cutL_kill (f:=fun r=>Hold.one (.tv (.sl τ r))) fun r=>rfl
            | _=>rfl
          | _=>rfl
 case extract x i=>
  simp only [evalR,ev_kill]
  generalize σ.ev x=hx
  cases hx with
  | one c=>
    cases c with
    | tok k' t xs=>simp only [Hold.kill,Cell.kill]; cases Tok.eq k' k <;> rfl
    | rw s e p=>simp only [Hold.kill,Cell.kill]; cases Tok.eq (rkey s e) k <;> rfl
    | _=>rfl
  | agg cs=>rfl
  | tup vs=>
    simp only [Hold.kill,List.getElem?_map]
    cases vs[i]? with
    | none=>rfl
    | some v=>exact congrArg some (holdV_kill v)
 case makeFunc fn us vs=>
  cases fn with
  | func f=>
    simp only [evalR,evL_kill,scs_kill]
    cases Hold.scs (evL σ us.toList) with
    | none=>rfl
    | some a=>cases Hold.scs (evL σ vs.toList) <;> rfl
  | _=>rfl
 case nilCheck x=>
  simp only [evalR,ev_kill,fp_kill]
  generalize (σ.ev x).fp=hx
  cases hx with
  | one c=>
    cases c with
    | tok k' t xs=>simp only [Hold.kill,Cell.kill]; cases Tok.eq k' k <;> rfl
    | rw s e p=>simp only [Hold.kill,Cell.kill]; cases Tok.eq (rkey s e) k <;> rfl
    | _=>rfl
  | _=>rfl
 case build t parts=>
  simp only [evalR]
  cases C.ti t with
  | none=>rfl
  | some ti=>
    dsimp only
    cases places C ti.d with
    | none=>rfl
    | some fs=>
    dsimp only
    have:=buildParts_kill (σ:=σ) (k:=k) (fs:=fs) parts.toList (ti.zero.map Cell.tv)
    rw [tvs_kill] at this
    rw [this]
    cases buildParts σ fs parts.toList (ti.zero.map Cell.tv) <;> rfl
 case call c=>
  simp only [evalR,ev_kill,evL_kill,packArgs_kill]
  split
  ·split
   ·split
    ·exact lenM_kill
    ·rfl
   ·rfl
  ·split
   ·split
    ·rename_i S hS _ z hz
     cases hy:S.fn z with
     | none=>rfl
     | some y=>exact congrArg some (viewRes_kill hk _ _ y).symm
    ·rfl
   ·rfl
  ·rfl
 case convert s t x=>
  have hrs:ofRunes C s t ((σ.ev x).kill k)=ofRunes C s t (σ.ev x):=by simp only [ofRunes,sliceOf_kill]
  simp only [evalR,ev_kill,hrs]
  cases ofRunes C s t (σ.ev x) with
  | some rs=>rfl
  | none=>
  cases toRunes C s t with
  | true=>
    generalize σ.ev x=hx
    cases hx with
    | one c=>
      simp only [Hold.kill]
      rcases cell_kill (k:=k) c with e | ⟨q,u,zs,rfl,e⟩ | ⟨q,u,pp,rfl,e⟩
      ·rw [e]
       cases c <;> first | rfl | skip
       rename_i x
       cases x <;> first | rfl | skip
       rename_i b
       show (cond (decide ((rns b).length<=lim)) _ none:Option (Hold E))=(cond (decide ((rns b).length<=lim)) _ none).map _
       cases decide ((rns b).length<=lim) <;> rfl
      ·rw [e]; rfl
      ·rw [e]; rfl
    | agg cs=>rfl
    | tup vs=>rfl
  | false=>
  dsimp only
  cases C.ti s with
  | none=>rfl
  | some ts=>
    cases C.ti t with
    | none=>rfl
    | some td=>
      generalize σ.ev x=hx
      cases hx with
      | one c=>
        simp only [Hold.kill]
        have hsl:∀ (u:Ty N) (zs:List (den E.Γ u)),convTV td.d (.sl u zs) (fun r=>some (Hold.one (E:=E) (.tv r)))=none:=by intro u zs; unfold convTV; cases td.d <;> rfl
        rcases cell_kill (k:=k) c with e | ⟨q,u,zs,rfl,e⟩ | ⟨q,u,pp,rfl,e⟩
        rotate_left 2
        ·rw [e]; rfl
        ·rw [e]
         cases c <;> first | rfl | skip
         dsimp only
         unfold convTV
         split <;> rfl
        ·rw [e]; exact hsl u zs
      | agg cs=>rfl
      | tup vs=>rfl
 all_goals rfl
end kill
theorem res_kill {C:Ctx E} {o:Oper} {k:Tok} (hc:Nat.ble (cls C o) 1=true) (hk:∀ d,o.dst=some d->k.1≠σ.off+d):res C (σ.kill k) o=(res C σ o).map fun x=>(x.1,x.2.kill k):=by
 have hR:∀ d,o.dst=some d->(evalR C (σ.kill k) (σ.off+d) o some).map (fun h=>((none:Option Tok),h))=((evalR C σ (σ.off+d) o some).map (fun h=>((none:Option Tok),h))).map fun x=>(x.1,x.2.kill k):=by
  intro d hd
  rw [evalR_kill (hk d hd)]
  cases evalR C σ (σ.off+d) o some <;> rfl
 obtain ⟨dst,op,ty,pos,after,guard⟩:=o
 dsimp only at hk hR
 cases dst with
 | none=>
   exfalso
   cases op
   case binOp=>
    rcases cls_bin (C:=C) (dst:=none) with e | ⟨_,e⟩
    ·rw [e] at hc; simp at hc
    ·simp at e
   all_goals simp [cls] at hc
 | some d=>
   replace hR:=hR d rfl
   replace hk:=hk d rfl
   cases op
   case buildSlice t m parts=>
    simp only [res,partsH_kill]
    cases elemTy C t with
    | none=>rfl
    | some q=>
      obtain ⟨e,te,τ⟩:=q
      dsimp only
      cases partsH σ τ 0 parts.toList with
      | none=>rfl
      | some xs=>
        dsimp only
        cases Nat.beq parts.toList.length m&&Nat.ble (m*te.size) 16777216 with
        | false=>rfl
        | true=>
          show some ((none:Option Tok),Hold.one (Cell.tok (σ.off+d,0,e) τ xs))=some (none,(Hold.one (Cell.tok (σ.off+d,0,e) τ xs)).kill k)
          simp only [Hold.kill,Cell.kill,Tok.ne_of hk]
   case call c=>
    obtain ⟨callee,args,types⟩:=c
    cases callee
    case builtin b=>cases b <;> first | exact hR | (exfalso; dsimp only [cls] at hc; cases hr:C.rowAt.contains d <;> rw [hr] at hc <;> cases hc)
    case value x=>exact hR
    case invoke=>exact hR
   all_goals exact hR
theorem Cell.kill_of {c:Cell E} {k:Tok} (h:c.hasD k.1=false):c.kill k=c:=by
 cases c with
 | tok k' t xs=>
   simp only [Cell.hasD] at h
   simp only [Cell.kill,Tok.eq,h,Bool.false_and]
 | rw s e p=>
   simp only [Cell.hasD] at h
   simp only [Cell.kill,Tok.eq,rkey,h,Bool.false_and]
 | _=>rfl
theorem map_kill_of {k:Tok} : ∀ {cs:List (Cell E)},cs.any (·.hasD k.1)=false->cs.map (·.kill k)=cs
 | [],_=>rfl
 | c::cs,h=>by
   simp only [List.any_cons,Bool.or_eq_false_iff] at h
   rw [List.map_cons,Cell.kill_of h.1,map_kill_of h.2]
theorem Hold.kill_of {x:Hold E} {k:Tok} (h:x.hasD k.1=false):x.kill k=x:=by
 cases x with
 | one c=>exact congrArg Hold.one (Cell.kill_of h)
 | agg cs=>exact congrArg Hold.agg (map_kill_of h)
 | tup vs=>
   simp only [Hold.hasD] at h
   refine congrArg Hold.tup ?_
   induction vs with
   | nil=>rfl
   | cons v vs ih=>
     simp only [List.any_cons,Bool.or_eq_false_iff] at h
     rw [List.map_cons,map_kill_of h.1,ih h.2]
theorem St.kill_of {k:Tok} (h:σ.hasD k.1=false):σ.kill k=σ:=by
 simp only [St.hasD,Bool.or_eq_false_iff,List.any_eq_false] at h
 have e1:σ.tmps.map (·.kill k)=σ.tmps:=(List.map_congr_left fun x hx=>(Hold.kill_of (Bool.eq_false_iff.2 (h.1.1 x hx)):_=id x)).trans (List.map_id _)
 have e2:σ.heap.map (·.kill k)=σ.heap:=by
  refine (List.map_congr_left fun x hx=>(?_:_=id x)).trans (List.map_id _)
  have:=Bool.eq_false_iff.2 (h.1.2 x hx)
  cases x with
  | gone=>rfl
  | iter _ _=>rfl
  | mp _ _ _=>rfl
  | rw s e t xs=>
    simp only [Blk.hasD] at this
    simp only [Blk.kill,Tok.eq,rkey,this,Bool.false_and,id]
  | cells cs=>exact congrArg Blk.cells (map_kill_of this)
 have e3:σ.out.map (·.kill k)=σ.out:=(List.map_congr_left fun x hx=>(Hold.kill_of (Bool.eq_false_iff.2 (h.2 x hx)):_=id x)).trans (List.map_id _)
 show St.mk _ _ _ _ _ _=σ
 rw [e1,e2,e3]
theorem Cell.hasD_of {c:Cell E} {q:Nat} (h:∀ k:Tok,k.1=q->c.kill k=c):c.hasD q=false:=by
 cases c with
 | tok k t xs=>
   cases hq:Nat.beq k.1 q with
   | false=>exact hq
   | true=>
     have:=h k (Nat.eq_of_beq_eq_true hq)
     simp [Cell.kill,Tok.eq,Nat.beq_refl] at this
 | rw s e p=>
   cases hq:Nat.beq s q with
   | false=>exact hq
   | true=>
     have:=h (rkey s e) (Nat.eq_of_beq_eq_true hq)
     simp [Cell.kill,Tok.eq,Nat.beq_refl] at this
 | _=>rfl
theorem any_hasD_of {q:Nat} : ∀ {cs:List (Cell E)},(∀ k:Tok,k.1=q->cs.map (·.kill k)=cs)->cs.any (·.hasD q)=false
 | [],_=>rfl
 | c::cs,h=>by
   simp only [List.any_cons,Bool.or_eq_false_iff]
   exact ⟨Cell.hasD_of fun k hk=>(List.cons.inj (h k hk)).1,any_hasD_of fun k hk=>(List.cons.inj (h k hk)).2⟩
theorem Hold.hasD_of {x:Hold E} {q:Nat} (h:∀ k:Tok,k.1=q->x.kill k=x):x.hasD q=false:=by
 cases x with
 | one c=>exact Cell.hasD_of fun k hk=>Hold.one.inj (h k hk)
 | agg cs=>exact any_hasD_of fun k hk=>Hold.agg.inj (h k hk)
 | tup vs=>
   replace h:∀ k:Tok,k.1=q->(vs.map fun v=>(v.1,v.2.map (·.kill k)))=vs:=fun k hk=>Hold.tup.inj (h k hk)
   show (vs.any fun v=>v.2.any (·.hasD q))=false
   induction vs with
   | nil=>rfl
   | cons v vs ih=>
     simp only [List.any_cons,Bool.or_eq_false_iff]
     exact ⟨any_hasD_of fun k hk=>congrArg Prod.snd (List.cons.inj (h k hk)).1,ih fun k hk=>(List.cons.inj (h k hk)).2⟩
theorem res_fresh {C:Ctx E} {o:Oper} {q d:Nat} {x:Option Tok×Hold E} (hc:Nat.ble (cls C o) 2=true) (hd:o.dst=some d) (hne:q≠σ.off+d) (hf:σ.hasD q=false) (h:res C σ o=some x):x.2.hasD q=false:=by
 by_cases h1:Nat.ble (cls C o) 1=true
 ·refine Hold.hasD_of fun k hk => ?_
  have e:=res_kill (σ:=σ) (C:=C) (k:=k) h1 (fun d' hd' => by rw [hd] at hd'; cases hd'; rw [hk]; exact hne)
  rw [St.kill_of (by rw [hk]; exact hf),h] at e
  have:=Option.some.inj e
  exact (congrArg Prod.snd this).symm
 ·obtain ⟨dst,op,ty,pos,after,guard⟩:=o
  dsimp only at hd
  subst hd
  have hq:∀ e:Nat,Nat.beq (σ.off+d) q=false:=fun _=>by
   cases hb:Nat.beq (σ.off+d) q with
   | false=>rfl
   | true=>exact absurd (Nat.eq_of_beq_eq_true hb).symm hne
  cases op
  case call c=>
   obtain ⟨callee,args,types⟩:=c
   cases callee
   case builtin b=>
    cases b <;> first | (exfalso; simp [cls] at h1 hc; done) | skip
    have key:∀ (b:Bool) (y:Option Tok×Hold E),cond b (some y) none=some x->x=y:=by
     intro b y e; cases b <;> cases e; rfl
    simp only [res] at h
    split at h
    ·split at h
     ·split at h
      ·split at h
       ·split at h
        ·rw [key _ _ h]; exact hq 0
        ·cases h
       ·rw [key _ _ h]; exact hq 0
       ·split at h
        ·rw [key _ _ h]; exact hq 0
        ·cases h
       ·cases h
      ·cases h
     ·cases h
    ·cases h
   case value y=>
    exfalso
    cases y with
    | func f=>
      dsimp only [cls] at h1 hc
      cases hs:C.sig f with
      | none=>rw [hs] at hc; cases hc
      | some S=>
        rw [hs] at h1 hc
        dsimp only at h1 hc
        cases hr:C.rowAt.contains d <;> rw [hr] at h1 hc <;> first | exact h1 rfl | cases hc
    | _=>simp [cls] at h1 hc
   case invoke=>exfalso; simp [cls] at hc
  case binOp=>
   exfalso
   rcases cls_bin (C:=C) (dst:=some d) with e | ⟨e,_⟩
   ·rw [e] at hc; simp at hc
   ·rw [e] at h1; simp at h1
  case move=>exfalso; dsimp only [cls] at h1 hc; cases hr:C.frzAt.contains d <;> rw [hr] at h1 hc <;> first | exact h1 rfl | cases hc
  case load=>exfalso; dsimp only [cls] at h1 hc; cases hr:C.frzAt.contains d <;> rw [hr] at h1 hc <;> first | exact h1 rfl | cases hc
  case indexAddr=>exfalso; dsimp only [cls] at h1 hc; cases hr:C.rowAt.contains d <;> rw [hr] at h1 hc <;> first | exact h1 rfl | cases hc
  case buildSlice=>exfalso; dsimp only [cls] at h1 hc; cases hr:C.rowAt.contains d <;> rw [hr] at h1 hc <;> first | exact h1 rfl | cases hc
  all_goals (exfalso; simp [cls] at h1 hc; done)
theorem ev_hasD {x:Operand} {q:Nat} (h:σ.hasD q=false):(σ.ev x).hasD q=false:=
 Hold.hasD_of fun k hk=>by rw [<- ev_kill,St.kill_of (by rw [hk]; exact h)]
theorem res_one {C:Ctx E} {o:Oper} {x:Option Tok×Hold E} (hc:Nat.ble (cls C o) 1=true) (h:res C σ o=some x):x.1=none:=by
 obtain ⟨dst,op,ty,pos,after,guard⟩:=o
 have plain:(evalR C σ (σ.off+dst.getD 0) ⟨dst,op,ty,pos,after,guard⟩ some).map (fun h=>((none:Option Tok),h))=some x->x.1=none:=by
  intro e
  cases hv:evalR C σ (σ.off+dst.getD 0) ⟨dst,op,ty,pos,after,guard⟩ some with
  | none=>rw [hv] at e; cases e
  | some v=>rw [hv] at e; cases e; rfl
 cases op
 case buildSlice t m parts=>
  cases dst with
  | none=>exact plain h
  | some d=>
    simp only [res] at h
    split at h
    ·split at h
     ·split at h
      ·cases h; rfl
      ·cases h
     ·cases h
    ·cases h
 case call c=>
  obtain ⟨callee,args,types⟩:=c
  cases callee
  case builtin b=>
   cases b <;> first | exact plain h | skip
   cases dst with
   | none=>exact plain h
   | some d=>exfalso; dsimp only [cls] at hc; cases hr:C.rowAt.contains d <;> rw [hr] at hc <;> cases hc
  all_goals exact plain h
 all_goals exact plain h
theorem res_tok {C:Ctx E} {o:Oper} {q:Nat} {x:Option Tok×Hold E} {k:Tok} (hf:σ.hasD q=false) (h:res C σ o=some x) (hx:x.1=some k):k.1≠q:=by
 by_cases h1:Nat.ble (cls C o) 1=true
 ·rw [res_one h1 h] at hx; cases hx
 obtain ⟨dst,op,ty,pos,after,guard⟩:=o
 have plain:(evalR C σ (σ.off+dst.getD 0) ⟨dst,op,ty,pos,after,guard⟩ some).map (fun h=>((none:Option Tok),h))=some x->False:=by
  intro e
  cases hv:evalR C σ (σ.off+dst.getD 0) ⟨dst,op,ty,pos,after,guard⟩ some with
  | none=>rw [hv] at e; cases e
  | some v=>rw [hv] at e; cases e; cases hx
 cases op
 case buildSlice t m parts=>
  cases dst with
  | none=>exact (plain h).elim
  | some d=>
    simp only [res] at h
    split at h
    ·split at h
     ·split at h
      ·cases h; cases hx
      ·cases h
     ·cases h
    ·cases h
 case call c=>
  obtain ⟨callee,args,types⟩:=c
  cases callee
  case builtin b=>
   cases b <;> first | exact (plain h).elim | skip
   cases dst with
   | none=>exact (plain h).elim
   | some d=>
     have key:∀ (b:Bool) (y:Option Tok×Hold E),cond b (some y) none=some x->x=y:=by
      intro b y e; cases b <;> cases e; rfl
     simp only [res] at h
     split at h
     ·rename_i x' y' t t' _ _
      split at h
      ·split at h
       ·have hev:=ev_hasD (σ:=σ) (x:=x') hf
        split at h
        ·rename_i k' τ' xs' he
         rw [he] at hev
         split at h
         ·rw [key _ _ h] at hx
          cases hx
          intro e
          rw [show Hold.hasD q (Hold.one (Cell.tok k τ' xs'))=Nat.beq k.1 q from rfl,e,Nat.beq_refl] at hev
          cases hev
         ·cases h
        ·rw [key _ _ h] at hx; cases hx
        ·split at h
         ·rw [key _ _ h] at hx; cases hx
         ·cases h
        ·cases h
       ·cases h
      ·cases h
     ·cases h
  all_goals exact (plain h).elim
 all_goals exact (plain h).elim
end
end Go.Ai

namespace Go.Ai
open Go.RowKit
noncomputable section
variable {N:Type} [DecidableEq N] {E:Env N} {P:Program}
variable {base n:Nat} {ov:Ov E} {w0 w w' : World} {F0:Fx} {F:Fz} {σ σ' : St E} {a:Act} {j:Sites} {tk:Toks} {ro:Option Nat}
variable {β:Type} {r:β} {B:Bs β} {X:Ext E β} {Xi:Nat->Ext E β}
theorem Sim.refine (h:Sim P base w0 F0 ov σ a w j tk F) {d:Nat} {hd:Hold E} (hr:∀ v,a.tmps[d]? = some v->HRep w j tk F hd v):Sim P base w0 F0 ov (σ.put (some d) hd) a w j tk F:=by
 exact {
  tab:=h.tab
  below:=h.below,size:=h.size,Fold:=h.Fold,Fnew:=h.Fnew,Flt:=h.Flt,agr:=h.agr,frn:=h.frn,outs:=h.outs,itq:=h.itq,defers:=h.defers,mks:=h.mks
  len:=by simp [St.put,h.len]
  tmps:=fun i x v hx hv=>by
   simp only [St.put,List.getElem?_set] at hx
   split at hx
   ·rename_i e
    subst e
    split at hx
    ·cases hx; exact hr v hv
    ·cases hx
   ·exact h.tmps i x v hx hv
  boxes:=h.boxes,iters:=h.iters,maps:=h.maps,rows:=h.rows,live:=h.live,inj:=h.inj,toks:=h.toks,apart:=h.apart}
def stepI (C:Ctx E) (X:Ext E β) (ops:Array Oper) (i:Nat) (σ:St E) (K:St E->Option β):Option β:=
 match ops[i]? with
 | none=>K σ
 | some o=>match o.guard with
   | none=>evalOp C X σ o K
   | some (j,want)=>match (ops[j]?).bind (·.dst) with
     | some d=>match σ.tmps[d]? with
       | some (.one (.tv (.bool b)))=>cond (b == want) (evalOp C X σ o K) (K (σ.put o.dst (.tup [])))
       | some (.tup [])=>K (σ.put o.dst (.tup []))
       | _=>none
     | none=>none
theorem put_same {d:Nat} {h:Hold E} (hg:σ.tmps[d]? = some h):σ.put (some d) h=σ:=by
 show St.mk (σ.tmps.set d h) σ.heap σ.out σ.off σ.its σ.mrk=σ
 have:σ.tmps.set d h=σ.tmps:=by
  apply List.ext_getElem?
  intro i
  rw [List.getElem?_set]
  split
  ·rename_i e
   subst e
   rw [hg]
   split
   ·rfl
   ·rename_i hlt
    rw [List.getElem?_eq_none (by omega)] at hg
    cases hg
  ·rfl
 rw [this]
theorem runOps_cons {C:Ctx E} {ops:Array Oper} {i:Nat} {l:List Nat} {K:St E->Option β} : runOps C Xi ops (i::l) σ K=stepI C (Xi i) ops i σ fun σ' => runOps C Xi ops l σ' K:=by
 simp only [runOps,stepI]
 cases ho:ops[i]? with
 | none=>rfl
 | some o=>
   dsimp only
   cases hg:o.guard with
   | none=>rfl
   | some g=>
     obtain ⟨q,want⟩:=g
     dsimp only
     cases hd:(ops[q]?).bind (·.dst) with
     | none=>rfl
     | some d=>
       dsimp only
       split
       ·rename_i b hb
        rw [hb]
        cases b with
        | true=>
          rw [put_same hb]
          cases want <;> rfl
        | false=>
          rw [put_same hb]
          cases want <;> rfl
       ·rename_i hne
        rw [hne]
       ·rename_i hne1 hne2
        split
        ·rename_i b hb; exact absurd hb (hne1 b)
        ·rename_i hb; exact absurd hb hne2
        ·rfl
theorem yielded_of {ops:Array Oper} {i d:Nat} {b:Bool} (h:Sim P base w0 F0 ov σ a w j tk F) (hd:(ops[i]?).bind (·.dst)=some d) (hb:σ.tmps[d]? = some (.one (.tv (.bool b)))):yielded ops a.tmps i=some b:=by
 have hlt:d<a.tmps.size:=by rw [h.len]; exact (List.getElem?_eq_some_iff.1 hb).1
 have hv:=h.tmps d _ _ hb (Array.getElem?_eq_getElem hlt)
 have hv:=rep_bool_inv hv
 unfold yielded
 rw [hd]
 simp only [Option.bind_some,Array.getElem?_eq_getElem hlt,hv]
theorem stepI_sound {C:Ctx E} (hC:COk P C) (hS:SigOk P C) {ops:Array Oper} {i:Nat} {K:St E->Option β} (hX:∀ o,ops[i]? = some o->CallAt P B X o K) {Kc:Act->World->Prop} {Q:Exit->Act->World->Prop} (h:Gd P B ov σ a w (stepI C X ops i σ K))
  (hk:∀ σ' a' w',Gd P B ov σ' a' w' (K σ')->Kc a' w'):wpOpIn (fence ro) n P ops Q i Kc a w:=by
 obtain ⟨base,w0,F0,r,hB,⟨j,tk,F,hs⟩,he⟩:=h
 unfold wpOpIn
 unfold stepI at he
 split at he
 ·rename_i ho
  simp only [ho]
  exact hk _ _ _ ⟨base,w0,F0,r,hB,⟨j,tk,F,hs⟩,he⟩
 ·rename_i o ho
  simp only [ho]
  split at he
  ·rename_i hg
   have hw:Region.wanted o (yielded ops a.tmps)=true:=by simp [Region.wanted,hg]
   rw [if_pos hw]
   exact evalOp_good hC hS (hX o ho) ⟨base,w0,F0,r,hB,⟨j,tk,F,hs⟩,he⟩ hk
  ·rename_i q want hg
   split at he
   ·rename_i d hd
    split at he
    ·rename_i b hb
     have hy:=yielded_of hs hd hb
     have hw:Region.wanted o (yielded ops a.tmps)=(b == want):=by
      simp only [Region.wanted,hg,hy]
      cases b <;> cases want <;> rfl
     cases hbw:(b == want) with
     | true=>
       rw [hbw] at he hw
       rw [if_pos hw]
       exact evalOp_good hC hS (hX o ho) ⟨base,w0,F0,r,hB,⟨j,tk,F,hs⟩,he⟩ hk
     | false=>
       rw [hbw] at he hw
       rw [if_neg (by rw [hw]; simp)]
       exact ⟨fun _ _=>trivial,hk _ _ _ ⟨base,w0,F0,r,hB,⟨j,tk,F,hs.put (hd := .tup []) ⟨[],rfl,trivial⟩ o.dst⟩,he⟩⟩
    ·rename_i hb
     have hw:Region.wanted o (yielded ops a.tmps)=false:=by
      have hlt:d<a.tmps.size:=by rw [hs.len]; exact (List.getElem?_eq_some_iff.1 hb).1
      obtain ⟨us,hu,hr⟩:=hs.tmps d _ _ hb (Array.getElem?_eq_getElem hlt)
      have hy:yielded ops a.tmps q=none:=by
       unfold yielded
       rw [hd]
       simp only [Option.bind_some,Array.getElem?_eq_getElem hlt,hu]
      simp [Region.wanted,hg,hy]
     rw [if_neg (by rw [hw]; simp)]
     exact ⟨fun _ _=>trivial,hk _ _ _ ⟨base,w0,F0,r,hB,⟨j,tk,F,hs.put (hd := .tup []) ⟨[],rfl,trivial⟩ o.dst⟩,he⟩⟩
    ·cases he
   ·cases he
theorem runOps_sound {C:Ctx E} (hC:COk P C) (hS:SigOk P C) {ops:Array Oper} {Q:Exit->Act->World->Prop} {K:St E->Option β} : ∀ (l:List Nat),(∀ (pre:List Nat) (i:Nat) (r:List Nat),l=pre++i::r -> ∀ o,ops[i]? = some o->CallAt P B (Xi i) o fun σ' => runOps C Xi ops r σ' K) ->
  ∀ (σ:St E) (a:Act) (w:World),Gd P B ov σ a w (runOps C Xi ops l σ K)->(∀ σ' a' w',Gd P B ov σ' a' w' (K σ')->Q .normal a' w')->wpOpsIn (fence ro) n P ops Q l a w:=by
 intro l
 induction l with
 | nil=>intro _ σ a w h hk; exact hk _ _ _ h
 | cons i l ih=>
   intro hX σ a w h hk
   rw [runOps_cons] at h
   rw [wpOpsIn_cons]
   exact stepI_sound hC hS (hX [] i l rfl) h fun σ' a' w' h' => ih (fun pre j r e=>hX (i::pre) j r (by rw [e]; rfl)) σ' a' w' h' hk
def sres (C:Ctx E) (ops:Array Oper) (o:Oper) (σ:St E):Option (Option Tok×Hold E):=match o.guard with
 | none=>res C σ o
 | some (j,want)=>match (ops[j]?).bind (·.dst) with
   | some dg=>match σ.tmps[dg]? with
     | some (.one (.tv (.bool b)))=>cond (b == want) (res C σ o) (some (none,.tup []))
     | some (.tup [])=>some (none,.tup [])
     | _=>none
   | none=>none
theorem stepI_res {C:Ctx E} {ops:Array Oper} {i:Nat} {o:Oper} {K:St E->Option β} (ho:ops[i]? = some o) (hc:Nat.ble (cls C o) 2=true) (hf:∀ d,o.dst=some d->σ.hasD (σ.off+d)=false) :
  stepI C X ops i σ K=(sres C ops o σ).bind fun x=>K ((σ.killO x.1).put o.dst x.2):=by
 unfold stepI sres
 rw [ho]
 dsimp only
 cases o.guard with
 | none=>exact evalOp_res hc hf
 | some g=>
   obtain ⟨q,want⟩:=g
   dsimp only
   cases (ops[q]?).bind (·.dst) with
   | none=>rfl
   | some d=>
     dsimp only
     split
     ·rename_i b hb
      cases b == want with
      | true=>exact evalOp_res hc hf
      | false=>rfl
     ·rfl
     ·rfl
theorem get_put_ne {t q:Nat} {x:Hold E} (h:t≠q):(σ.put (some q) x).tmps[t]? = σ.tmps[t]? := by
 show (σ.tmps.set q x)[t]? = _
 rw [List.getElem?_set_ne (fun e=>h e.symm)]
theorem ev_put_ne {y:Operand} {q:Nat} {x:Hold E} (h:∀ t,y = .tmp t->t≠q):(σ.put (some q) x).ev y=σ.ev y:=by
 cases y with
 | tmp t=>
   show (σ.put (some q) x).tmps.getD t _=σ.tmps.getD t _
   rw [List.getD_eq_getElem?_getD,List.getD_eq_getElem?_getD,get_put_ne (h t rfl)]
 | _=>rfl
theorem sres_put {C:Ctx E} {ops:Array Oper} {o:Oper} {q:Nat} {x:Hold E} (h:q ∉ tmpsOf ops o):sres C ops o (σ.put (some q) x)=sres C ops o σ:=by
 have h1:∀ t,t ∈ (o.op.operands.toList.filterMap fun | .tmp t=>some t | _=>none)->t≠q:=fun t ht e=>h (by subst e; exact List.mem_append_left _ ht)
 have hr:res C (σ.put (some q) x) o=res C σ o:=res_congr (fun y hy=>ev_put_ne fun t e=>h1 t (List.mem_filterMap.2 ⟨y,hy,by subst e; rfl⟩)) rfl rfl
 unfold sres
 cases hg:o.guard with
 | none=>exact hr
 | some g=>
   obtain ⟨j,want⟩:=g
   dsimp only
   cases hd:(ops[j]?).bind (·.dst) with
   | none=>rfl
   | some d=>
     dsimp only
     have:d≠q:=fun e=>h (by subst e; exact List.mem_append_right _ (by rw [hg]; simp only; rw [hd]; simp))
     rw [get_put_ne this,hr]
theorem sres_kill {C:Ctx E} {ops:Array Oper} {o:Oper} {k:Tok} (hc:Nat.ble (cls C o) 1=true) (hk:∀ d,o.dst=some d->k.1≠σ.off+d):sres C ops o (σ.kill k)=(sres C ops o σ).map fun x=>(x.1,x.2.kill k):=by
 have hr:=res_kill (σ:=σ) (C:=C) (k:=k) hc hk
 unfold sres
 cases o.guard with
 | none=>exact hr
 | some g=>
   obtain ⟨j,want⟩:=g
   dsimp only
   cases (ops[j]?).bind (·.dst) with
   | none=>rfl
   | some d=>
     dsimp only
     rw [hr]
     have e:(σ.kill k).tmps[d]? = (σ.tmps[d]?).map (·.kill k):=by simp [St.kill]
     rw [e]
     cases σ.tmps[d]? with
     | none=>rfl
     | some h=>
       cases h with
       | one c=>
         cases c with
         | tok q t xs=>simp only [Option.map_some,Hold.kill,Cell.kill]; cases Tok.eq q k <;> rfl
         | rw s e p=>simp only [Option.map_some,Hold.kill,Cell.kill]; cases Tok.eq (rkey s e) k <;> rfl
         | tv v=>cases v with
           | bool b=>simp only [Option.map_some,Hold.kill,Cell.kill]; cases b == want <;> rfl
           | _=>rfl
         | _=>rfl
       | agg cs=>rfl
       | tup vs=>cases vs <;> rfl
theorem sres_one {C:Ctx E} {ops:Array Oper} {o:Oper} {x:Option Tok×Hold E} (hc:Nat.ble (cls C o) 1=true) (h:sres C ops o σ=some x):x.1=none:=by
 unfold sres at h
 split at h
 ·exact res_one hc h
 ·rename_i j want hg
  split at h
  ·split at h
   ·rename_i b hb
    cases hb:b == want with
    | true=>rw [hb] at h; exact res_one hc h
    | false=>rw [hb] at h; cases h; rfl
   ·cases h; rfl
   ·cases h
  ·cases h
theorem sres_fresh {C:Ctx E} {ops:Array Oper} {o:Oper} {q d:Nat} {x:Option Tok×Hold E} (hc:Nat.ble (cls C o) 2=true) (hd:o.dst=some d) (hne:q≠σ.off+d) (hf:σ.hasD q=false) (h:sres C ops o σ=some x):x.2.hasD q=false:=by
 unfold sres at h
 split at h
 ·exact res_fresh hc hd hne hf h
 ·rename_i j want hg
  split at h
  ·split at h
   ·rename_i b hb
    cases hb:b == want with
    | true=>rw [hb] at h; exact res_fresh hc hd hne hf h
    | false=>rw [hb] at h; cases h; rfl
   ·cases h; rfl
   ·cases h
  ·cases h
theorem sres_tok {C:Ctx E} {ops:Array Oper} {o:Oper} {q:Nat} {x:Option Tok×Hold E} {k:Tok} (hf:σ.hasD q=false) (h:sres C ops o σ=some x) (hx:x.1=some k):k.1≠q:=by
 unfold sres at h
 split at h
 ·exact res_tok hf h hx
 ·rename_i j want hg
  split at h
  ·split at h
   ·rename_i b hb
    cases hb:b == want with
    | true=>rw [hb] at h; exact res_tok hf h hx
    | false=>rw [hb] at h; cases h; cases hx
   ·cases h; cases hx
   ·cases h
  ·cases h
theorem put_put {d d' : Nat} {x y:Hold E} (h:d≠d'):(σ.put (some d) x).put (some d') y=(σ.put (some d') y).put (some d) x:=by
 show St.mk ((σ.tmps.set d x).set d' y) σ.heap σ.out σ.off σ.its σ.mrk=St.mk ((σ.tmps.set d' y).set d x) σ.heap σ.out σ.off σ.its σ.mrk
 rw [List.set_comm _ _ h]
theorem kill_put {d:Nat} {x:Hold E} {k:Tok} : (σ.put (some d) x).kill k=(σ.kill k).put (some d) (x.kill k):=by
 show St.mk ((σ.tmps.set d x).map (·.kill k)) (σ.heap.map (·.kill k)) (σ.out.map (·.kill k)) σ.off σ.its σ.mrk=St.mk ((σ.tmps.map (·.kill k)).set d (x.kill k)) (σ.heap.map (·.kill k)) (σ.out.map (·.kill k)) σ.off σ.its σ.mrk
 rw [List.map_set]
theorem put_off {k:Option Tok} {q:Option Nat} {x:Hold E} : ((σ.killO k).put q x).off=σ.off:=by cases k <;> cases q <;> rfl
theorem stepI_swap {C:Ctx E} {ops:Array Oper} {i j:Nat} {o o' : Oper} {K:St E->Option β} (ho:ops[i]? = some o) (ho' : ops[j]? = some o') (hs:swaps C ops o o' = true)
  (hf:∀ d,o.dst=some d->σ.hasD (σ.off+d)=false) (hf' : ∀ d,o'.dst=some d->σ.hasD (σ.off+d)=false) :
  stepI C X ops i σ (fun σ1=>stepI C X ops j σ1 K)=stepI C X ops j σ (fun σ1=>stepI C X ops i σ1 K):=by
 unfold swaps at hs
 simp only [Bool.and_eq_true,Bool.not_eq_true'] at hs
 obtain ⟨⟨⟨hc,hc'⟩,hcc⟩,hd⟩:=hs
 cases hdo:o.dst with
 | none=>rw [hdo] at hd; simp at hd
 | some d=>
 cases hdo' : o'.dst with
 | none=>rw [hdo,hdo'] at hd; simp at hd
 | some d'=>
 rw [hdo,hdo'] at hd
 simp only [Bool.and_eq_true,Bool.not_eq_true',List.contains_eq_mem,decide_eq_false_iff_not] at hd
 obtain ⟨⟨hne,h1⟩,h2⟩:=hd
 have hne:d≠d' := fun e=>by subst e; rw [Nat.beq_refl] at hne; cases hne
 have hfd:=hf d hdo
 have hfd' := hf' d' hdo'
 have inner:∀ (x:Option Tok×Hold E),sres C ops o σ=some x->stepI C X ops j ((σ.killO x.1).put (some d) x.2) K=(sres C ops o' ((σ.killO x.1).put (some d) x.2)).bind fun y=>K ((((σ.killO x.1).put (some d) x.2).killO y.1).put (some d') y.2):=by
  intro x hx
  have:=stepI_res (C:=C) (X:=X) (ops:=ops) (σ:=(σ.killO x.1).put (some d) x.2) (K:=K) ho' hc' (fun q hq=>by
   rw [hdo'] at hq; cases hq
   rw [put_off]
   exact St.hasD_put (St.hasD_killO hfd') (sres_fresh hc hdo (fun e=>hne (Nat.add_left_cancel e).symm) hfd' hx))
  rw [hdo'] at this
  exact this
 have inner' : ∀ (y:Option Tok×Hold E),sres C ops o' σ=some y->stepI C X ops i ((σ.killO y.1).put (some d') y.2) K=(sres C ops o ((σ.killO y.1).put (some d') y.2)).bind fun x=>K ((((σ.killO y.1).put (some d') y.2).killO x.1).put (some d) x.2):=by
  intro y hy
  have:=stepI_res (C:=C) (X:=X) (ops:=ops) (σ:=(σ.killO y.1).put (some d') y.2) (K:=K) ho hc (fun q hq=>by
   rw [hdo] at hq; cases hq
   rw [put_off]
   exact St.hasD_put (St.hasD_killO hfd) (sres_fresh hc' hdo' (fun e=>hne (Nat.add_left_cancel e)) hfd hy))
  rw [hdo] at this
  exact this
 rw [stepI_res ho hc hf,stepI_res ho' hc' hf',hdo,hdo']
 have way:∀ (p p' : Oper) (e e' : Nat),Nat.ble (cls C p) 2=true->Nat.ble (cls C p') 1=true->p.dst=some e->p'.dst=some e' -> e≠e' -> e ∉ tmpsOf ops p' -> e' ∉ tmpsOf ops p->σ.hasD (σ.off+e)=false->σ.hasD (σ.off+e')=false -> ∀ x y,sres C ops p σ=some x->sres C ops p' σ=some y ->
   sres C ops p' ((σ.killO x.1).put (some e) x.2)=some (none,y.2.killO x.1)/\sres C ops p ((σ.killO y.1).put (some e') y.2)=some x/\y.1=none /\
   ((σ.killO x.1).put (some e) x.2).put (some e') (y.2.killO x.1)=((σ.put (some e') y.2).killO x.1).put (some e) x.2:=by
  intro p p' e e' hcp hcp' hdp hdp' hee h1 h2 hfe hfe' x y hx hy
  have hy1:=sres_one hcp' hy
  refine ⟨?_,?_,hy1,?_⟩
  ·rw [sres_put h1]
   cases hk:x.1 with
   | none=>
     show sres C ops p' σ=_
     rw [hy]
     obtain ⟨y1,y2⟩:=y
     cases hy1
     rfl
   | some k=>
     show sres C ops p' (σ.kill k)=_
     rw [sres_kill hcp' (fun q hq=>by rw [hdp'] at hq; cases hq; exact sres_tok hfe' hx hk),hy]
     obtain ⟨y1,y2⟩:=y
     cases hy1
     rfl
  ·rw [hy1]
   show sres C ops p (σ.put (some e') y.2)=_
   rw [sres_put h2,hx]
  ·cases hk:x.1 with
   | none=>exact put_put hee
   | some k=>
     show ((σ.kill k).put (some e) x.2).put (some e') (y.2.kill k)=((σ.put (some e') y.2).kill k).put (some e) x.2
     rw [kill_put,put_put hee]
 have hor:Nat.ble (cls C o') 1=true\/Nat.ble (cls C o) 1=true:=by
  have a1:=Nat.le_of_ble_eq_true hc
  have a2:=Nat.le_of_ble_eq_true hc'
  rcases Nat.lt_or_ge (cls C o') 2 with h | h
  ·exact .inl (Nat.ble_eq_true_of_le (by omega))
  ·right
   have:cls C o' = 2:=by omega
   rw [this,Nat.beq_refl,Bool.and_true] at hcc
   have:cls C o≠2:=fun e=>by rw [e] at hcc; cases hcc
   exact Nat.ble_eq_true_of_le (by omega)
 cases hx:sres C ops o σ with
 | none=>
   cases hy:sres C ops o' σ with
   | none=>rfl
   | some y=>
     show none=stepI C X ops i ((σ.killO y.1).put (some d') y.2) K
     rw [inner' y hy]
     rcases hor with h | h
     ·rw [sres_one h hy]
      show none=(sres C ops o (σ.put (some d') y.2)).bind _
      rw [sres_put h2,hx]; rfl
     ·rw [sres_put h2]
      cases hk:y.1 with
      | none=>show none=(sres C ops o σ).bind _; rw [hx]; rfl
      | some k=>
        show none=(sres C ops o (σ.kill k)).bind _
        rw [sres_kill h (fun q hq=>by rw [hdo] at hq; cases hq; exact sres_tok hfd hy hk),hx]; rfl
 | some x=>
   cases hy:sres C ops o' σ with
   | none=>
     show stepI C X ops j ((σ.killO x.1).put (some d) x.2) K=none
     rw [inner x hx]
     rcases hor with h | h
     ·rw [sres_put h1]
      cases hk:x.1 with
      | none=>show (sres C ops o' σ).bind _=none; rw [hy]; rfl
      | some k=>
        show (sres C ops o' (σ.kill k)).bind _=none
        rw [sres_kill h (fun q hq=>by rw [hdo'] at hq; cases hq; exact sres_tok hfd' hx hk),hy]; rfl
     ·rw [sres_one h hx]
      show (sres C ops o' (σ.put (some d) x.2)).bind _=none
      rw [sres_put h1,hy]; rfl
   | some y=>
     show stepI C X ops j ((σ.killO x.1).put (some d) x.2) K=stepI C X ops i ((σ.killO y.1).put (some d') y.2) K
     rw [inner x hx,inner' y hy]
     rcases hor with h | h
     ·obtain ⟨e1,e2,e3,e4⟩:=way o o' d d' hc h hdo hdo' hne h1 h2 hfd hfd' x y hx hy
      rw [e1,e2]
      show K _=K _
      rw [e3] at *
      exact congrArg K e4
     ·obtain ⟨e1,e2,e3,e4⟩:=way o' o d' d hc' h hdo' hdo (fun e=>hne e.symm) h2 h1 hfd' hfd y x hy hx
      rw [e1,e2]
      show K _=K _
      rw [e3] at *
      exact congrArg K e4.symm
def Fr (C:Ctx E) (ops:Array Oper) (σ:St E) (l:List Nat):Prop := ∀ i ∈ l,∀ o,ops[i]? = some o->late C ops i=false -> ∀ d,o.dst=some d->σ.hasD (σ.off+d)=false
theorem late_cls {C:Ctx E} {ops:Array Oper} {i:Nat} {o:Oper} (h:late C ops i=false) (ho:ops[i]? = some o):Nat.ble (cls C o) 2=true:=by
 have:=List.any_eq_false.1 h i (List.mem_range.2 (Nat.lt_succ_self _))
 rw [ho] at this
 simpa using this
theorem late_le {C:Ctx E} {ops:Array Oper} {i q:Nat} (h:late C ops i=false) (hq:q<=i):late C ops q=false:=by
 refine List.any_eq_false.2 fun p hp=>List.any_eq_false.1 h p (List.mem_range.2 ?_)
 have:=List.mem_range.1 hp
 omega
theorem Fr.step {C:Ctx E} {ops:Array Oper} {l:List Nat} {i:Nat} {o:Oper} {x:Option Tok×Hold E} (h:Fr C ops σ l) (ho:ops[i]? = some o) (hc:Nat.ble (cls C o) 2=true)
  (hne:∀ q ∈ l,∀ o' d d',ops[q]? = some o' -> o.dst=some d->o'.dst=some d' -> d' ≠ d) (hx:sres C ops o σ=some x):Fr C ops ((σ.killO x.1).put o.dst x.2) l:=by
 intro q hq o' ho' hc' d' hd'
 have h1:=h q hq o' ho' hc' d' hd'
 rw [put_off]
 cases hd:o.dst with
 | none=>exact St.hasD_killO h1
 | some d=>exact St.hasD_put (St.hasD_killO h1) (sres_fresh hc hd (fun e=>hne q hq o' d d' ho' hd hd' (Nat.add_left_cancel e)) h1 hx)
theorem stepI_congr {C:Ctx E} {ops:Array Oper} {i:Nat} {o:Oper} {K K' : St E->Option β} (ho:ops[i]? = some o) (hc:Nat.ble (cls C o) 2=true) (hf:∀ d,o.dst=some d->σ.hasD (σ.off+d)=false)
  (h:∀ x,sres C ops o σ=some x->K ((σ.killO x.1).put o.dst x.2)=K' ((σ.killO x.1).put o.dst x.2)):stepI C X ops i σ K=stepI C X ops i σ K' := by
 rw [stepI_res ho hc hf,stepI_res ho hc hf]
 cases hx:sres C ops o σ with
 | none=>rfl
 | some x=>exact h x hx
theorem stepI_any {C:Ctx E} {ops:Array Oper} {i:Nat} {o:Oper} {K:St E->Option β} {X' : Ext E β} (ho:ops[i]? = some o) (hc:Nat.ble (cls C o) 2=true) (hf:∀ d,o.dst=some d->σ.hasD (σ.off+d)=false) :
  stepI C X ops i σ K=stepI C X' ops i σ K:=by rw [stepI_res ho hc hf,stepI_res ho hc hf]
theorem runOps_front {C:Ctx E} {ops:Array Oper} {i:Nat} {o:Oper} {post:List Nat} {K:St E->Option β} (ho:ops[i]? = some o):∀ (pre:List Nat) (σ:St E),
  (∀ q ∈ pre,∃ o',ops[q]? = some o' /\ swaps C ops o' o=true/\late C ops q=false/\late C ops i=false)->(pre++[i]).Pairwise (fun p q => ∀ o1 o2 d1 d2,ops[p]? = some o1->ops[q]? = some o2->o1.dst=some d1->o2.dst=some d2->d2≠d1)->Fr C ops σ (pre++[i]) ->
  runOps C Xi ops (pre++i::post) σ K=runOps C Xi ops (i::(pre++post)) σ K:=by
 intro pre
 induction pre with
 | nil=>intro σ _ _ _; rfl
 | cons p pre ih=>
   intro σ hs hp hf
   obtain ⟨o',ho',hsw,hl1,hl2⟩:=hs p (List.mem_cons_self ..)
   have hc:Nat.ble (cls C o') 2=true/\Nat.ble (cls C o) 2=true:=by
    simp only [swaps,Bool.and_eq_true] at hsw
    exact ⟨hsw.1.1.1,hsw.1.1.2⟩
   have hp' := List.pairwise_cons.1 (show (p::(pre++[i])).Pairwise _ from hp)
   have hfp:∀ d,o'.dst=some d->σ.hasD (σ.off+d)=false:=hf p (List.mem_cons_self ..) o' ho' hl1
   have hfi:∀ d,o.dst=some d->σ.hasD (σ.off+d)=false:=hf i (by simp) o ho hl2
   have frn:∀ x,sres C ops o' σ=some x->Fr C ops ((σ.killO x.1).put o'.dst x.2) (pre++[i]):=fun x hx=>
    Fr.step (l:=pre++[i]) (fun q hq=>hf q (List.mem_cons_of_mem _ hq)) ho' hc.1 (fun q hq o2 d d' h1 h2 h3=>hp'.1 q hq o' o2 d d' ho' h1 h2 h3) hx
   show runOps C Xi ops (p::(pre++i::post)) σ K=_
   rw [runOps_cons]
   have e:stepI C (Xi p) ops p σ (fun σ' => runOps C Xi ops (pre++i::post) σ' K)=stepI C (Xi p) ops p σ (fun σ' => stepI C (Xi p) ops i σ' fun σ'' => runOps C Xi ops (pre++post) σ'' K):=by
    refine stepI_congr ho' hc.1 hfp fun x hx => ?_
    rw [ih _ (fun q hq=>hs q (List.mem_cons_of_mem _ hq)) hp'.2 (frn x hx),runOps_cons]
    exact stepI_any ho hc.2 (frn x hx i (by simp) o ho hl2)
   rw [e,stepI_swap ho' ho hsw hfp hfi]
   rw [runOps_cons]
   show _=stepI C (Xi i) ops i σ fun σ' => runOps C Xi ops (p::(pre++post)) σ' K
   rw [stepI_any (X:=Xi i) (X' := Xi p) ho hc.2 hfi]
   refine congrArg (stepI C (Xi p) ops i σ) ?_
   funext σ'
   exact runOps_cons.symm
theorem ordered_listed {ops:Array Oper} {listed:Array Bool} (hcl:∀ i o,i<ops.size->listed.getD i false=true->ops[i]? = some o -> ∀ e ∈ o.after.toList,Region.binds .any e=true->listed.getD e.on false=true) :
  ∀ (fuel i j:Nat),ordered ops fuel i j=true->(∀ o,ops[j]? = some o -> ∀ e ∈ o.after.toList,Region.binds .any e=true->listed.getD e.on false=true)->listed.getD i false=true:=by
 intro fuel
 induction fuel with
 | zero=>intro i j h; cases h
 | succ fuel ih=>
   intro i j h hj
   simp only [ordered] at h
   split at h
   ·rename_i o ho
    rw [List.any_eq_true] at h
    obtain ⟨e,he,h⟩:=h
    simp only [Bool.and_eq_true,Bool.or_eq_true] at h
    have hl:=hj o ho e he h.1
    rcases h.2 with h2 | h2
    ·rw [<- Nat.eq_of_beq_eq_true h2]; exact hl
    ·refine ih i e.on h2 fun o' ho' e' he' hb => ?_
     exact hcl e.on o' (Array.getElem?_eq_some_iff.1 ho').1 hl ho' e' he' hb
   ·cases h
theorem drawOk_pair {C:Ctx E} {ops:Array Oper} (h:drawOk C ops=true) {i j:Nat} {o o' : Oper} (hij:i<j) (ho' : ops[i]? = some o') (ho:ops[j]? = some o) :
  (∀ d d',o.dst=some d->o'.dst=some d' -> d≠d')/\(ordered ops ops.size i j=true\/(late C ops j=false/\swaps C ops o' o=true)):=by
 have hj:j<ops.size:=(Array.getElem?_eq_some_iff.1 ho).1
 have h1:=List.all_eq_true.1 h j (List.mem_range.2 hj)
 rw [ho] at h1
 simp only [Bool.and_eq_true] at h1
 have h2:=List.all_eq_true.1 h1.2 i (List.mem_range.2 hij)
 rw [ho'] at h2
 simp only [Bool.and_eq_true,Bool.or_eq_true,Bool.not_eq_true'] at h2
 refine ⟨fun d d' hd hd' => ?_,h2.2⟩
 have h3:=h2.1
 rw [hd,hd'] at h3
 intro e
 subst e
 simp [Nat.beq_refl] at h3
theorem drawOk_back {C:Ctx E} {ops:Array Oper} (h:drawOk C ops=true) {j:Nat} {o:Oper} (ho:ops[j]? = some o):∀ e ∈ o.after.toList,Region.binds .any e=true->e.on<j:=by
 have hj:j<ops.size:=(Array.getElem?_eq_some_iff.1 ho).1
 have h1:=List.all_eq_true.1 h j (List.mem_range.2 hj)
 rw [ho] at h1
 simp only [Bool.and_eq_true] at h1
 intro e he hb
 have h2:=List.all_eq_true.1 h1.1 e he
 simp only [Bool.or_eq_true,Bool.not_eq_true',hb] at h2
 rcases h2 with h2 | h2
 ·cases h2
 ·simpa [Nat.blt_eq] using h2
theorem mem_ready {ops:Array Oper} {listed:Array Bool} {i:Nat} : i ∈ Region.ready .any ops listed ↔ ∃ o,ops[i]? = some o/\listed.getD i true=false /\ ∀ e ∈ o.after.toList,Region.binds .any e=true->listed.getD e.on false=true:=by
 unfold Region.ready
 rw [List.mem_filter,List.mem_range]
 constructor
 ·rintro ⟨hlt,h⟩
  rw [Array.getElem?_eq_getElem hlt] at h ⊢
  simp only [Bool.and_eq_true,Bool.not_eq_true',Option.map_some,Option.getD_some] at h
  refine ⟨_,rfl,h.1,fun e he hb => ?_⟩
  have h2:=h.2
  rw [<- Array.all_toList] at h2
  have h3:=List.all_eq_true.1 h2 e he
  simp only [Bool.or_eq_true,Bool.not_eq_true',hb] at h3
  rcases h3 with h3 | h3
  ·cases h3
  ·exact h3
 ·rintro ⟨o,ho,h1,h2⟩
  refine ⟨(Array.getElem?_eq_some_iff.1 ho).1,?_⟩
  rw [ho]
  simp only [h1,Bool.not_false,Option.map_some,Option.getD_some,Bool.true_and]
  rw [<- Array.all_toList]
  rw [List.all_eq_true]
  intro e he
  cases hb:Region.binds .any e with
  | false=>rfl
  | true=>simp [h2 e he hb]
theorem any_sound {C:Ctx E} (hC:COk P C) (hS:SigOk P C) {ops:Array Oper} {K:St E->Option β} (hX:∀ i o,ops[i]? = some o->CallAt P B (Xi i) o fun σ' => runOps C Xi ops (rest ops i) σ' K) {Q:Exit->Act->World->Prop} (hd:drawOk C ops=true) (hk:∀ σ' a' w',Gd P B ov σ' a' w' (K σ')->Q .normal a' w') :
  ∀ (fuel:Nat) (listed:Array Bool) (l:List Nat) (σ:St E) (a:Act) (w:World),l=(List.range ops.size).filter (fun i => !listed.getD i true)->listed.size=ops.size ->
    (∀ i o,i<ops.size->listed.getD i false=true->ops[i]? = some o -> ∀ e ∈ o.after.toList,Region.binds .any e=true->listed.getD e.on false=true)->Fr C ops σ l->l.length<=fuel ->
    Gd P B ov σ a w (runOps C Xi ops l σ K)->wpAnyIn (fence ro) n P .any ops Q fuel listed a w:=by
 intro fuel
 induction fuel with
 | zero=>
   intro listed l σ a w hl hsz hcl hfr hlen h
   have:l=[]:=List.length_eq_zero_iff.1 (by omega)
   subst this
   refine ⟨?_,hk _ _ _ h⟩
   apply List.eq_nil_iff_forall_not_mem.2
   intro i hi
   obtain ⟨o,ho,h1,h2⟩:=mem_ready.1 hi
   have:i ∈ (List.range ops.size).filter (fun i => !listed.getD i true):=List.mem_filter.2 ⟨List.mem_range.2 (Array.getElem?_eq_some_iff.1 ho).1,by rw [h1]; rfl⟩
   rw [<- hl] at this
   cases this
 | succ fuel ih=>
   intro listed l σ a w hl hsz hcl hfr hlen h
   have hmem:∀ i,i ∈ l↔i<ops.size/\listed.getD i true=false:=by
    intro i
    rw [hl,List.mem_filter,List.mem_range]
    simp
   have hsort:l.Pairwise (· < ·):=by
    rw [hl]
    exact List.Pairwise.filter _ List.pairwise_lt_range
   refine ⟨fun hr => ?_,fun i hi => ?_⟩
   ·
    have:l=[]:=by
     cases hl' : l with
     | nil=>rfl
     | cons i rest=>
       exfalso
       have hi:=(hmem i).1 (by rw [hl']; exact List.mem_cons_self ..)
       have hmin:∀ q ∈ l,i<=q:=by
        rw [hl'] at hsort ⊢
        intro q hq
        rcases List.mem_cons.1 hq with rfl | hq
        ·exact Nat.le_refl _
        ·exact Nat.le_of_lt ((List.pairwise_cons.1 hsort).1 q hq)
       have:i ∈ Region.ready .any ops listed:=by
        refine mem_ready.2 ⟨_,Array.getElem?_eq_getElem hi.1,hi.2,fun e hee hb => ?_⟩
        have hlt:=drawOk_back hd (Array.getElem?_eq_getElem hi.1) e hee hb
        have hlt' : e.on<listed.size:=by omega
        cases hle:listed.getD e.on true with
        | true=>simpa [Array.getD,hlt'] using hle
        | false=>
          have:=hmin e.on ((hmem _).2 ⟨by omega,hle⟩)
          omega
       rw [hr] at this
       cases this
    subst this
    exact hk _ _ _ h
   ·obtain ⟨o,ho,h1,h2⟩:=mem_ready.1 hi
    have hil:i ∈ l:=(hmem i).2 ⟨(Array.getElem?_eq_some_iff.1 ho).1,h1⟩
    obtain ⟨pre,post,hpp⟩:=List.append_of_mem hil
    have hnd:∀ q ∈ pre,q<i:=by
     rw [hpp] at hsort
     intro q hq
     exact (List.pairwise_append.1 hsort).2.2 q hq i (List.mem_cons_self ..)
    have hpost:∀ q ∈ post,i<q:=by
     rw [hpp] at hsort
     intro q hq
     exact (List.pairwise_cons.1 (List.pairwise_append.1 hsort).2.1).1 q hq
    have hsw:∀ q ∈ pre,∃ o',ops[q]? = some o' /\ swaps C ops o' o=true/\late C ops q=false/\late C ops i=false:=by
     intro q hq
     have hql:=(hmem q).1 (by rw [hpp]; exact List.mem_append_left _ hq)
     have ho' := Array.getElem?_eq_getElem hql.1
     refine ⟨_,ho',?_⟩
     rcases (drawOk_pair hd (hnd q hq) ho' ho).2 with h3 | h3
     ·exfalso
      have:=ordered_listed hcl _ _ _ h3 (fun o2 ho2=>by rw [ho] at ho2; cases ho2; exact h2)
      have hq2:=hql.2
      have hlt' : q<listed.size:=by rw [hsz]; exact hql.1
      simp [Array.getD,hlt'] at this hq2
      rw [hq2] at this
      cases this
     ·exact ⟨h3.2,late_le h3.1 (Nat.le_of_lt (hnd q hq)),h3.1⟩
    have hdist:∀ p q,p ∈ l->q ∈ l->p<q -> ∀ o1 o2 d1 d2,ops[p]? = some o1->ops[q]? = some o2->o1.dst=some d1->o2.dst=some d2->d2≠d1:=by
     intro p q _ _ hpq o1 o2 d1 d2 e1 e2 e3 e4
     exact (drawOk_pair hd hpq e1 e2).1 d2 d1 e4 e3
    have hpw:(pre++[i]).Pairwise (fun p q => ∀ o1 o2 d1 d2,ops[p]? = some o1->ops[q]? = some o2->o1.dst=some d1->o2.dst=some d2->d2≠d1):=by
     have hs2:(pre++[i]).Pairwise (· < ·):=by
      have:(pre++[i]++post).Pairwise (· < ·):=by rw [List.append_assoc]; exact hpp ▸ hsort
      exact (List.pairwise_append.1 this).1
     refine List.Pairwise.imp_of_mem ?_ hs2
     intro p q hp hq hpq
     have hsub:∀ z,z ∈ pre++[i]->z ∈ l:=by
      intro z hz
      rw [hpp]
      rcases List.mem_append.1 hz with hz | hz
      ·exact List.mem_append_left _ hz
      ·rw [List.mem_singleton] at hz; subst hz; exact List.mem_append_right _ (List.mem_cons_self ..)
     exact hdist p q (hsub p hp) (hsub q hq) hpq
    have hfr1:Fr C ops σ (pre++[i]):=fun q hq=>hfr q (by
     rw [hpp]
     rcases List.mem_append.1 hq with hq | hq
     ·exact List.mem_append_left _ hq
     ·rw [List.mem_singleton] at hq; subst hq; exact List.mem_append_right _ (List.mem_cons_self ..))
    rw [hpp,runOps_front ho pre σ hsw hpw hfr1,runOps_cons] at h
    have hl' : pre++post=(List.range ops.size).filter (fun q => !(listed.setIfInBounds i true).getD q true):=by
     have e1:(List.range ops.size).filter (fun q => !(listed.setIfInBounds i true).getD q true)=l.filter (fun q=>decide (q≠i)):=by
      rw [hl,List.filter_filter]
      apply List.filter_congr
      intro q hq
      have hq:=List.mem_range.1 hq
      have hlt:q<listed.size:=by rw [hsz]; exact hq
      by_cases e:q=i
      ·subst e; simp [Array.getD,hlt]
      ·simp [Array.getD,hlt,e,Array.getElem_setIfInBounds,Ne.symm e]
     rw [e1,hpp,List.filter_append,List.filter_cons]
     have a1:pre.filter (fun q=>decide (q≠i))=pre:=List.filter_eq_self.2 fun q hq=>by have:=hnd q hq; simp; omega
     have a2:post.filter (fun q=>decide (q≠i))=post:=List.filter_eq_self.2 fun q hq=>by have:=hpost q hq; simp; omega
     rw [a1,a2]
     simp
    have hcl' : ∀ q o,q<ops.size->(listed.setIfInBounds i true).getD q false=true->ops[q]? = some o -> ∀ e ∈ o.after.toList,Region.binds .any e=true->(listed.setIfInBounds i true).getD e.on false=true:=by
     have up:∀ q,listed.getD q false=true->(listed.setIfInBounds i true).getD q false=true:=by
      intro q hq
      simp only [Array.getD_eq_getD_getElem?] at hq ⊢
      rw [Array.getElem?_setIfInBounds]
      split
      ·rename_i e
       subst e
       have:i<listed.size:=by rw [hsz]; exact (Array.getElem?_eq_some_iff.1 ho).1
       rw [if_pos this]; rfl
      ·exact hq
     intro q o2 hq hlq ho2 e hee hb
     by_cases eq:q=i
     ·subst eq
      rw [ho] at ho2; cases ho2
      exact up _ (h2 e hee hb)
     ·have hlt:q<listed.size:=by rw [hsz]; exact hq
      have:listed.getD q false=true:=by
       simpa [Array.getD,hlt,Array.getElem_setIfInBounds,Ne.symm eq] using hlq
      exact up _ (hcl q o2 hq this ho2 e hee hb)
    have hsub:∀ q,q ∈ pre++post->q ∈ l/\q≠i:=by
     intro q hq
     rw [hpp]
     rcases List.mem_append.1 hq with hq | hq
     ·exact ⟨List.mem_append_left _ hq,by have:=hnd q hq; omega⟩
     ·exact ⟨List.mem_append_right _ (List.mem_cons_of_mem _ hq),by have:=hpost q hq; omega⟩
    have hlen' : (pre++post).length<=fuel:=by
     rw [hpp] at hlen
     simp at hlen ⊢
     omega
    have go:∀ σ' a' w',Gd P B ov σ' a' w' (runOps C Xi ops (pre++post) σ' K)->Fr C ops σ' (pre++post)->wpAnyIn (fence ro) n P .any ops Q fuel (listed.setIfInBounds i true) a' w':=
     fun σ' a' w' h' hf' => ih _ _ σ' a' w' hl' (by simp [hsz]) hcl' hf' hlen' h'
    by_cases hlt:late C ops i=false
    ·have hc:Nat.ble (cls C o) 2=true:=late_cls hlt ho
     have hfi:∀ d,o.dst=some d->σ.hasD (σ.off+d)=false:=hfr i hil o ho hlt
     let K2:St E->Option β:=fun σ' => @ite _ (Fr C ops σ' (pre++post)) (Classical.propDecidable _) (runOps C Xi ops (pre++post) σ' K) none
     have he2:(stepI C (Xi i) ops i σ fun σ' => runOps C Xi ops (pre++post) σ' K)=stepI C noX ops i σ K2:=by
      rw [stepI_any (X' := noX) ho hc hfi]
      symm
      refine stepI_congr ho hc hfi fun x hx => ?_
      have:Fr C ops ((σ.killO x.1).put o.dst x.2) (pre++post):=Fr.step (fun q hq=>hfr q (hsub q hq).1) ho hc (fun q hq o' d d' h3 h4 h5=>by
       have hq2:=hsub q hq
       rcases Nat.lt_or_ge q i with hlt | hge
       ·exact (hdist q i hq2.1 hil hlt o' o d' d h3 ho h5 h4).symm
       ·exact hdist i q hil hq2.1 (by omega) o o' d d' ho h3 h4 h5) hx
      exact if_pos this
     rw [he2] at h
     refine stepI_sound hC hS (fun o _=>callOk_none o _) h fun σ' a' w' h' => ?_
     have h' : Gd P B ov σ' a' w' (@ite _ (Fr C ops σ' (pre++post)) (Classical.propDecidable _) (runOps C Xi ops (pre++post) σ' K) none):=h'
     by_cases hF:Fr C ops σ' (pre++post)
     ·rw [if_pos hF] at h'
      exact go σ' a' w' h' hF
     ·rw [if_neg hF] at h'
      obtain ⟨_,_,_,_,_,_,e⟩:=h'
      cases e
    ·
     have hpre:pre=[]:=by
      cases hp:pre with
      | nil=>rfl
      | cons q pre'=>
        obtain ⟨o',ho',hs',_,hl⟩:=hsw q (by rw [hp]; exact List.mem_cons_self ..)
        exact absurd hl hlt
     have hrest:post=rest ops i:=by
      have hall:∀ q,i<q->q<ops.size->q ∈ l:=by
       intro q h3 h4
       refine (hmem q).2 ⟨h4,?_⟩
       cases hq:listed.getD q true with
       | false=>rfl
       | true=>
         exfalso
         have hq' : listed.getD q false=true:=by
          have hlt' : q<listed.size:=by rw [hsz]; exact h4
          simpa [Array.getD,hlt'] using hq
         have ho' := Array.getElem?_eq_getElem h4
         rcases (drawOk_pair hd h3 ho ho').2 with h5 | h5
         ·have:=ordered_listed hcl _ _ _ h5 (fun o2 ho2 e he hb=>hcl q o2 h4 hq' ho2 e he hb)
          have hlt' : i<listed.size:=by rw [hsz]; omega
          simp [Array.getD,hlt'] at this h1
          rw [h1] at this
          cases this
         ·exact hlt (late_le h5.1 (Nat.le_of_lt h3))
      have hs3:post.Pairwise (· < ·):=by
       rw [hpp] at hsort
       exact (List.pairwise_cons.1 (List.pairwise_append.1 hsort).2.1).2
      have hr:(rest ops i).Pairwise (· < ·):=(List.pairwise_lt_range).sublist (List.drop_sublist _ _)
      have hmr:∀ q,q ∈ rest ops i↔i<q/\q<ops.size:=by
       intro q
       unfold rest
       rw [List.mem_iff_getElem?]
       constructor
       ·rintro ⟨m,hm⟩
        rw [List.getElem?_drop] at hm
        obtain ⟨hm1,hm2⟩:=List.getElem?_eq_some_iff.1 hm
        simp at hm1 hm2
        omega
       ·rintro ⟨h3,h4⟩
        exact ⟨q - (i+1),by rw [List.getElem?_drop,List.getElem?_range (by omega)]; congr 1; omega⟩
      refine List.Perm.eq_of_pairwise (le:=(· < ·)) (fun a b _ _ h3 h4=>by omega) hs3 hr ((List.perm_ext_iff_of_nodup (hs3.imp (fun h=>Nat.ne_of_lt h)) (hr.imp (fun h=>Nat.ne_of_lt h))).2 fun q => ?_)
      rw [hmr]
      constructor
      ·intro hq
       exact ⟨hpost q hq,((hmem q).1 (by rw [hpp]; exact List.mem_append_right _ (List.mem_cons_of_mem _ hq))).1⟩
      ·rintro ⟨h3,h4⟩
       have:=hall q h3 h4
       rw [hpp,hpre] at this
       rcases List.mem_cons.1 this with e | e
       ·omega
       ·exact e
     refine stepI_sound hC hS (fun o' ho' => ?_) h fun σ' a' w' h' => go σ' a' w' h' ?_
     ·rw [hpre,hrest]
      exact hX i o' ho'
     intro q hq o' ho' hc' d hd'
     exfalso
     rw [hpre] at hq
     exact hlt (late_le hc' (Nat.le_of_lt (hpost q hq)))
theorem draw_sound {C:Ctx E} (hC:COk P C) (hS:SigOk P C) (hm:P.follows .mixedOrders=true) {ops:Array Oper} {K:St E->Option β} (hX:∀ i o,ops[i]? = some o->CallAt P B (Xi i) o fun σ' => runOps C Xi ops (rest ops i) σ' K) {Q:Exit->Act->World->Prop} (hd:drawOk C ops=true) (hf:freshD σ ops=true)
  (h:Gd P B ov σ a w (runOps C Xi ops (List.range ops.size) σ K)) (t:Nat) (hk:∀ σ' a' w',Gd P B ov σ' a' w' (K σ')->Q .normal a' w') :
  wpOpsIn (fence ro) n P ops Q (Region.schedule (P.follows .mixedOrders) ops t) a {w with drawn:=w.drawn+1} := by
 have hw:Gd P B ov σ a {w with drawn:=w.drawn+1} (runOps C Xi ops (List.range ops.size) σ K):=by
  obtain ⟨base,w0,F0,r,hB,⟨j,tk,F,hs⟩,he⟩:=h
  exact ⟨base,w0,F0,r,hB,⟨j,tk,F,hs.grow (Below.drew (Below.refl _ w))⟩,he⟩
 rw [hm]
 refine wpAnyIn_sound ops.size t (Array.replicate ops.size false) a _ (any_sound hC hS hX hd hk ops.size _ (List.range ops.size) σ a _ ?_ (by simp) ?_ ?_ (by simp) hw)
 ·refine (List.filter_eq_self.2 fun i hi => ?_).symm
  have:=List.mem_range.1 hi
  simp [Array.getD,this]
 ·intro i o hi hl
  simp [Array.getD,hi] at hl
 ·intro i hi o ho hc d hdd
  have:=List.all_eq_true.1 hf o (by rw [Array.mem_toList_iff]; exact Array.mem_of_getElem? ho)
  rw [hdd] at this
  simpa using this
end
end Go.Ai

namespace Go.Ai
open Go.RowKit
noncomputable section
variable {N:Type} [DecidableEq N] {E:Env N} {P:Program}
variable {base n:Nat} {ov:Ov E} {w0 w w' : World} {F0:Fx} {F F' : Fz} {σ σ' : St E} {a:Act} {j:Sites} {tk:Toks} {ss:List Nat}
theorem TReps.drop (n:Nat):∀ {xs:List (TV E)} {vs:List Value},TReps w F xs vs->TReps w F (xs.drop n) (vs.drop n):=by
 induction n with
 | zero=>intro xs vs h; exact h
 | succ n ih=>
   intro xs vs h
   match xs,vs,h with
   | [],[],_=>exact trivial
   | _::_,_::_,h=>exact ih h.2
   | [],_::_,h=>exact h.elim
   | _::_,[],h=>exact h.elim
def jF (j:Sites) (ss:List Nat):Sites:=fun s=>if ss.contains s then none else j s
def FF (σ:St E) (j:Sites) (F:Fz) (ss:List Nat):Fz:=fun b o=>F b o \/ ∃ s ls,ss.contains s=true/\j s=some b/\frozen σ ss s=some ls/\o<ls.length
theorem frozen_some {s:Nat} {ls:List (TV E)} (h:frozen σ ss s=some ls):ss.contains s=true /\ ∃ cs,σ.heap[s]? = some (.cells cs)/\leafL cs=some ls:=by
 unfold frozen at h
 split at h
 ·rename_i hc
  split at h
  ·rename_i cs hcs
   exact ⟨hc,cs,hcs,h⟩
  ·cases h
 ·cases h
theorem Sim.frozen (h:Sim P base w0 F0 ov σ a w j tk F) {s b:Nat} {ls:List (TV E)} (hs:j s=some b) (hf:frozen σ ss s=some ls) :
  ∃ vs:List Value,(∀ (i:Nat) (u:Value),vs[i]? = some u->FF σ j F ss b i/\w.cell? ⟨b,i,none⟩=some u)/\TReps w F ls vs:=by
 obtain ⟨hc,cs,hcs,hl⟩:=frozen_some hf
 obtain ⟨b',vs,T,h1,h2,h3⟩:=h.boxes s cs hcs
 rw [hs] at h1
 cases h1
 have ht:=h3.leafL hl
 refine ⟨vs.toList,fun i u hu=>⟨.inr ⟨s,ls,hc,hs,hf,?_⟩,?_⟩,ht⟩
 ·rw [ht.len]; exact (List.getElem?_eq_some_iff.1 hu).1
 ·rw [cell_of_row w b i vs T (0,0) h2]; simpa using hu
theorem SRep.freeze (h:Sim P base w0 F0 ov σ a w j tk F) {x y:Sc E} {v:Value} (hr:SRep w j F x v) (hy:x.freeze σ ss=some y):SRep w (jF j ss) (FF σ j F ss) y v:=by
 cases x with
 | tv x=>cases hy; exact Rep.mono (fun _ _ hf => .inl hf) (Agree.refl _ _) hr
 | fptr ls=>cases hy; obtain ⟨b,o,vs,h1,hc,hr⟩:=hr; exact ⟨b,o,vs,h1,fun i u hu=>⟨.inl (hc i u hu).1,(hc i u hu).2⟩,hr.mono (fun _ _ hf => .inl hf) (Agree.refl _ _)⟩
 | ptr s o=>
   obtain ⟨b,hb,rfl⟩:=hr
   simp only [Sc.freeze] at hy
   split at hy
   ·split at hy
    ·rename_i ls hls
     split at hy
     ·rename_i hle
      cases hy
      obtain ⟨vs,hc,ht⟩:=h.frozen hb hls
      refine ⟨b,o,vs.drop o,rfl,fun i u hu=>hc (o+i) u (by rwa [List.getElem?_drop] at hu),(ht.drop o).mono (fun _ _ hf => .inl hf) (Agree.refl _ _)⟩
     ·cases hy
    ·cases hy
   ·rename_i hn
    cases hy
    exact ⟨b,by simp only [jF]; rw [if_neg (by rw [hn]; simp)]; exact hb,rfl⟩
theorem SReps.freeze (h:Sim P base w0 F0 ov σ a w j tk F):∀ {xs ys:List (Sc E)} {vs:List Value},SReps w j F xs vs->freezeScs σ ss xs=some ys->SReps w (jF j ss) (FF σ j F ss) ys vs
 | [],ys,[],_,hy=>by simp [freezeScs] at hy; subst hy; trivial
 | x::xs,ys,v::vs,hr,hy=>by
   simp only [freezeScs] at hy
   split at hy
   ·rename_i y zs h1 h2
    cases hy
    exact ⟨SRep.freeze h hr.1 h1,SReps.freeze h hr.2 h2⟩
   ·cases hy
 | [],_,_::_,hr,_=>hr.elim
 | _::_,_,[],hr,_=>hr.elim
theorem CRep.freeze (h:Sim P base w0 F0 ov σ a w j tk F) {c:Cell E} {v:Value} (hr:CRep w j tk F c v):CRep w (jF j ss) tk (FF σ j F ss) (c.freeze σ ss) v:=by
 have hF:∀ b o,F b o->FF σ j F ss b o:=fun _ _ hf => .inl hf
 have hA:=Agree.refl F w
 cases c with
 | tv x=>exact Rep.mono hF hA hr
 | tok k t xs=>exact ⟨hr.1.mono hF hA,hr.2⟩
 | full t xs=>obtain ⟨a,h1,h2⟩:=hr; exact ⟨a,h1,h2.mono hF hA⟩
 | fptr ls=>obtain ⟨b,o,vs,h1,hc,hr⟩:=hr; exact ⟨b,o,vs,h1,fun i u hu=>⟨.inl (hc i u hu).1,(hc i u hu).2⟩,hr.mono hF hA⟩
 | dead=>trivial
 | mp s=>
   simp only [Cell.freeze]
   split
   ·trivial
   ·rename_i hn
    obtain ⟨b,h1,h2⟩:=hr
    exact ⟨b,by simp only [jF]; rw [if_neg (by rw [hn]; simp)]; exact h1,h2⟩
 | rw s e p=>cases p <;> exact hr
 | fn f us vs=>
   simp only [Cell.freeze]
   split
   ·rename_i us' vs' h1 h2
    obtain ⟨x,y,e1,e2,e3⟩:=hr
    exact ⟨x,y,e1,SReps.freeze h e2 h1,SReps.freeze h e3 h2⟩
   ·trivial
 | ptr s o=>
   simp only [Cell.freeze]
   split
   ·rename_i hs
    split
    ·rename_i ls hls
     split
     ·rename_i hle
      obtain ⟨b,hb,rfl⟩:=hr
      obtain ⟨vs,hc,ht⟩:=h.frozen hb hls
      exact ⟨b,o,vs.drop o,rfl,fun i u hu=>hc (o+i) u (by rwa [List.getElem?_drop] at hu),(ht.drop o).mono hF hA⟩
     ·trivial
    ·trivial
   ·rename_i hn
    obtain ⟨b,h1,h2⟩:=hr
    exact ⟨b,by simp only [jF]; rw [if_neg (by rw [hn]; simp)]; exact h1,h2⟩
theorem LRep.freeze (h:Sim P base w0 F0 ov σ a w j tk F):∀ {cs:List (Cell E)} {vs:List Value},LRep w j tk F cs vs->LRep w (jF j ss) tk (FF σ j F ss) (cs.map (·.freeze σ ss)) vs
 | [],[],_=>trivial
 | _::_,_::_,hr=>⟨hr.1.freeze h,LRep.freeze h hr.2⟩
 | [],_::_,hr=>hr.elim
 | _::_,[],hr=>hr.elim
theorem VReps.freeze (h:Sim P base w0 F0 ov σ a w j tk F):∀ {xs:List (Bool×List (Cell E))} {vs:List Value},VReps w j tk F xs vs->VReps w (jF j ss) tk (FF σ j F ss) (xs.map fun v=>(v.1,v.2.map (·.freeze σ ss))) vs
 | [],[],_=>trivial
 | (true,_)::_,_::_,⟨⟨us,h1,h2⟩,hr⟩=>⟨⟨us,h1,h2.freeze h⟩,VReps.freeze h hr⟩
 | (false,_)::_,_::_,⟨⟨c,h1,h2⟩,hr⟩=>⟨⟨_,by rw [h1]; rfl,h2.freeze h⟩,VReps.freeze h hr⟩
 | [],_::_,hr=>hr.elim
 | x::_,[],hr=>by cases x with | mk b _=>cases b <;> exact hr.elim
theorem HRep.freeze (h:Sim P base w0 F0 ov σ a w j tk F) {x:Hold E} {v:Value} (hr:HRep w j tk F x v):HRep w (jF j ss) tk (FF σ j F ss) (x.freeze σ ss) v:=by
 cases x with
 | one c=>exact CRep.freeze h hr
 | agg cs=>obtain ⟨vs,h1,h2⟩:=hr; exact ⟨vs,h1,h2.freeze h⟩
 | tup xs=>obtain ⟨vs,h1,h2⟩:=hr; exact ⟨vs,h1,h2.freeze h⟩
theorem freezeHeap_get:∀ (hs:List (Blk E)) (m i:Nat),(freezeHeap σ ss m hs)[i]? = (hs[i]?).map fun b=>match ss.contains (m+i) with
  | true => .gone
  | false=>match b with
    | .cells cs => .cells (cs.map (·.freeze σ ss))
    | b=>b
 | [],_,i=>by simp [freezeHeap]
 | b::bs,m,0=>rfl
 | b::bs,m,i+1=>by
   simp only [freezeHeap,List.getElem?_cons_succ]
   rw [freezeHeap_get bs (m+1) i,show m+1+i=m+(i+1) by omega]
theorem freezeHeap_cells {s:Nat} {cs:List (Cell E)} (h:(freezeHeap σ ss 0 σ.heap)[s]? = some (.cells cs)):ss.contains s=false /\ ∃ cs0,σ.heap[s]? = some (.cells cs0)/\cs=cs0.map (·.freeze σ ss):=by
 rw [freezeHeap_get,Option.map_eq_some_iff,Nat.zero_add] at h
 obtain ⟨b,hb,e⟩:=h
 cases hc:ss.contains s with
 | true=>rw [hc] at e; cases e
 | false=>
   rw [hc] at e
   cases b <;> cases e
   exact ⟨rfl,_,hb,rfl⟩
theorem freezeHeap_iter {s:Nat} {x:Blk E} (hx:x.other) (h:(freezeHeap σ ss 0 σ.heap)[s]? = some x):ss.contains s=false/\σ.heap[s]? = some x:=by
 rw [freezeHeap_get,Option.map_eq_some_iff,Nat.zero_add] at h
 obtain ⟨b,hb,e⟩:=h
 cases hc:ss.contains s with
 | true=>rw [hc] at e; cases e; exact hx.elim
 | false=>
   rw [hc] at e
   cases b <;> cases e
   ·exact hx.elim
   ·exact hx.elim
   ·exact ⟨rfl,hb⟩
   ·exact ⟨rfl,hb⟩
   ·exact ⟨rfl,hb⟩
theorem Sim.freeze (h:Sim P base w0 F0 ov σ a w j tk F) (ss:List Nat):Sim P base w0 F0 ov (σ.freeze ss) a w (jF j ss) tk (FF σ j F ss) where
 tab:=E.tabM _ _ _ _ h.tab (fun _ _ hf => .inl hf) (Agree.refl _ _)
 below:=h.below
 size:=h.size
 Fold:=fun b o hf => .inl (h.Fold b o hf)
 Fnew:=fun b o hf=>by
  rcases hf with hf | ⟨s,ls,_,hs,_,_⟩
  ·exact h.Fnew b o hf
  ·exact .inr ⟨(h.live s b hs).1,fun hn=>(h.frn b hn).2.2.1 s hs⟩
 Flt:=fun b o hf=>by
  rcases hf with hf | ⟨s,ls,_,hs,_,_⟩
  ·exact h.Flt b o hf
  ·exact (h.live s b hs).2.2.2
 agr:=h.agr
 frn:=fun k hk=>by
  obtain ⟨h1,h2,h3,h4,h5⟩:=h.frn k hk
  refine ⟨h1,h2,fun s hs => ?_,h4,h5⟩
  simp only [jF] at hs
  split at hs
  ·cases hs
  ·exact h3 s hs
 itq:=h.itq
 outs:=h.outs.map _ fun x _ v hr=>hr.freeze h
 defers:=h.defers
 mks:=h.mks
 len:=by simp [St.freeze,h.len]
 tmps:=fun i x v hx hv=>by
  simp only [St.freeze,List.getElem?_map,Option.map_eq_some_iff] at hx
  obtain ⟨y,hy,rfl⟩:=hx
  exact (h.tmps i y v hy hv).freeze h
 boxes:=fun s cs hs=>by
  obtain ⟨hn,cs0,hc,rfl⟩:=freezeHeap_cells hs
  obtain ⟨b,vs,T,h1,h2,h3⟩:=h.boxes s cs0 hc
  exact ⟨b,vs,T,by simp only [jF]; rw [if_neg (by rw [hn]; simp)]; exact h1,h2,h3.freeze h⟩
 iters:=fun s str q hs=>by
  obtain ⟨hn,hc⟩:=freezeHeap_iter (x := .iter str q) trivial hs
  obtain ⟨b,sb,h1,h2,h3⟩:=h.iters s str q hc
  exact ⟨b,sb,by simp only [jF]; rw [if_neg (by rw [hn]; simp)]; exact h1,h2,h3⟩
 maps:=fun s kt vt m hs=>by
  obtain ⟨hn,hc⟩:=freezeHeap_iter (x := .mp kt vt m) trivial hs
  obtain ⟨b,es,cl,h1,h2,h3⟩:=h.maps s kt vt m hc
  exact ⟨b,es,cl,by simp only [jF]; rw [if_neg (by rw [hn]; simp)]; exact h1,h2,h3.mono (fun _ _ hf => .inl hf) (Agree.refl _ _)⟩
 rows:=fun m s e τ xs hs=>by
  obtain ⟨hn,hc⟩:=freezeHeap_iter (x := .rw s e τ xs) trivial hs
  obtain ⟨h1,h2⟩:=h.rows m s e τ xs hc
  refine ⟨⟨by simp only [jF]; split; · rfl
              ·exact h1.1,h1.2⟩,h2.move (fun _ _ hf => .inl hf) (Agree.refl _ _) (fun _ hv=>hv) fun v g hv hg _=>⟨rfl,fun o hf => ?_⟩⟩
  rcases hf with hf | ⟨s',ls,_,hj,_,_⟩
  ·exact hf
  ·obtain ⟨_,_,_,_,_,e3⟩:=h.toks _ v hv
   exact absurd hj ((e3 g hg).2 s')
 live:=fun s b hs=>by
  simp only [jF] at hs
  split at hs
  ·cases hs
  ·rename_i hn
   obtain ⟨h1,h2,⟨blk,h3,h4⟩,h5⟩:=h.live s b hs
   refine ⟨h1,fun o hf => ?_,?_,h5⟩
   ·rcases hf with hf | ⟨s',ls,hs',hj,_,_⟩
    ·exact h2 o hf
    ·rw [h.inj s s' b hs hj] at hn
     exact hn hs'
   ·refine ⟨_,by
     show (freezeHeap σ ss 0 σ.heap)[s]? = _
     rw [freezeHeap_get,h3,Option.map_some,Nat.zero_add],?_⟩
    have:ss.contains s=false:=by simpa using hn
    rw [this]
    cases blk <;> first | exact h4 | (intro e; cases e)
 inj:=fun s s' b hs hs' => by
  simp only [jF] at hs hs'
  split at hs
  ·cases hs
  ·split at hs'
   ·cases hs'
   ·exact h.inj s s' b hs hs'
 toks:=fun k v hk=>by
  obtain ⟨i,m,xs,h1,h2,h3⟩:=h.toks k v hk
  refine ⟨i,m,xs,h1,h2,fun g hg=>⟨fun o hf => ?_,fun s hs => ?_⟩⟩
  ·rcases hf with hf | ⟨s',ls,hs',hj,_,_⟩
   ·exact (h3 g hg).1 o hf
   ·exact absurd hj ((h3 g hg).2 s')
  ·simp only [jF] at hs
   split at hs
   ·cases hs
   ·exact (h3 g hg).2 s hs
 apart:=h.apart
structure Conv (base:Nat) (w0:World) (F0:Fx) (w0' : World) (F0' : Fx):Prop where
 below:Below base w0 w0'
 Fold:∀ b o,F0.c b o->F0'.c b o
 Fnew:∀ b o,F0'.c b o->F0.c b o\/(base<=b /\ ¬ F0.fn b)
 agr:Agree F0.c w0 w0'
 frn:∀ k,F0.fn k->F0'.fn k/\k<w0.heap.size/\w0'.heap[k]? = w0.heap[k]?
theorem Sim.conv {w0' : World} {F0' : Fx} (hc:Conv base w0 F0 w0' F0') (h:Sim P base w0' F0' ov σ a w j tk F):Sim P base w0 F0 ov σ a w j tk F:=
 {h with
  tab:=h.tab
  below:=hc.below.trans h.below
  Fold:=fun b o hf=>h.Fold b o (hc.Fold b o hf)
  Fnew:=fun b o hf=>by
   rcases h.Fnew b o hf with hf | hf
   ·exact hc.Fnew b o hf
   ·exact .inr ⟨hf.1,fun hn=>hf.2 (hc.frn b hn).1⟩
  agr:=hc.agr.trans (h.agr.mono hc.Fold)
  frn:=fun k hk=>by
   obtain ⟨h1,h2,h3⟩:=hc.frn k hk
   obtain ⟨e1,e2,e3⟩:=h.frn k h1
   exact ⟨h2,e2.trans h3,e3⟩}
theorem Sim.restart (h:Sim P base w0 F0 ov σ a w j tk F) (fn:Nat->Prop) (hfn:∀ k,fn k->k<w.heap.size/\(∀ s,j s≠some k)/\(∀ q v,tk q=some v->v.ownBlock≠some k)/\({target := .collected k,args := #[]} : Deferred) ∉ a.defers) :
  Sim P base w ⟨F,fn⟩ ov σ a w j tk F:=
 {h with
  tab:=h.tab
  below:=Below.refl _ _
  Fold:=fun _ _ hf=>hf
  Fnew:=fun _ _ hf => .inl hf
  agr:=Agree.refl _ _
  frn:=fun k hk=>⟨(hfn k hk).1,rfl,(hfn k hk).2⟩}
theorem Sim.toConv (h:Sim P base w0 F0 ov σ a w j tk F) (fn:Nat->Prop) (hfn:∀ k,F0.fn k->fn k):Conv base w0 F0 w ⟨F,fn⟩:=
 ⟨h.below,h.Fold,h.Fnew,h.agr,fun k hk=>⟨hfn k hk,(h.frn k hk).1,(h.frn k hk).2.1⟩⟩
theorem Sim.turn (h:Sim P base w0 F0 ov σ a w j tk F) {w0' : World} {F0' : Fx}
  (hF:∀ b o,F b o->F' b o) (hA:Agree F w w') (hlt:∀ b o,F' b o->b<w'.heap.size) (hsz:w.heap.size<=w'.heap.size)
  (hbelow:Below base w0' w') (hFold:∀ b o,F0'.c b o->F' b o) (hFnew:∀ b o,F' b o->F0'.c b o\/(base<=b /\ ¬ F0'.fn b)) (hagr:Agree F0'.c w0' w')
  (hfrn:∀ k,F0'.fn k->k<w0'.heap.size/\w'.heap[k]? = w0'.heap[k]? /\ (∀ s,j s≠some k)/\(∀ q v,tk q=some v->v.ownBlock≠some k)/\({target := .collected k,args := #[]} : Deferred) ∉ a.defers)
  (hsite:∀ s b,j s=some b->w'.heap[b]? = w.heap[b]? /\ ∀ o,F' b o->F b o)
  (htok:∀ q v g,tk q=some v->v.ownBlock=some g->w'.heap[g]? = w.heap[g]? /\ ∀ o,F' g o->F g o)
  (hmark:∀ D,({target := .collected D,args := #[]} : Deferred) ∈ a.defers->w'.heap[D]? = w.heap[D]?) :
  Sim P base w0' F0' ov σ a w' j tk F' where
 tab:=E.tabM _ _ _ _ h.tab hF hA
 below:=hbelow
 size:=Nat.le_trans h.size hsz
 Fold:=hFold
 Fnew:=hFnew
 Flt:=hlt
 agr:=hagr
 frn:=hfrn
 itq:=h.itq
 outs:=h.outs.mono hF hA (fun _ _ hj=>hj) (fun _ _ ht=>ht)
 defers:=by
  obtain ⟨Ds,h1,h2,h3⟩:=h.defers
  refine ⟨Ds,h1,h2,fun D hD=>⟨(h3 D hD).1,?_⟩⟩
  rw [hmark D (by rw [h2]; exact List.mem_map.2 ⟨D,hD,rfl⟩)]
  exact (h3 D hD).2
 mks:=h.mks
 len:=h.len
 tmps:=fun i x v hx hv=>(h.tmps i x v hx hv).mono hF hA (fun _ _ hj=>hj) (fun _ _ ht=>ht)
 boxes:=fun s cs hc=>by
  obtain ⟨b,vs,T,e1,e2,e3⟩:=h.boxes s cs hc
  exact ⟨b,vs,T,e1,by rw [(hsite s b e1).1]; exact e2,e3.mono hF hA (fun _ _ hj=>hj) (fun _ _ ht=>ht)⟩
 iters:=fun s str q hc=>by
  obtain ⟨b,sb,e1,e2,e3⟩:=h.iters s str q hc
  exact ⟨b,sb,e1,by rw [(hsite s b e1).1]; exact e2,e3⟩
 maps:=fun s kt vt m hc=>by
  obtain ⟨b,es,cl,e1,e2,e3⟩:=h.maps s kt vt m hc
  exact ⟨b,es,cl,e1,by rw [(hsite s b e1).1]; exact e2,e3.mono hF hA⟩
 rows:=fun m s e τ xs hs=>by
  obtain ⟨e1,e2⟩:=h.rows m s e τ xs hs
  exact ⟨e1,e2.move hF hA (fun _ hv=>hv) fun v g hv hg _=>htok _ v g hv hg⟩
 live:=fun s b hs=>by
  obtain ⟨e1,e2,e3,e4⟩:=h.live s b hs
  exact ⟨e1,fun o hf=>e2 o ((hsite s b hs).2 o hf),e3,Nat.lt_of_lt_of_le e4 hsz⟩
 inj:=h.inj
 toks:=fun q v hq=>by
  obtain ⟨i,m,xs,e1,e2,e3⟩:=h.toks q v hq
  exact ⟨i,m,xs,e1,ownsRow_same e2 fun g hg=>(htok q v g hq hg).1,fun g hg=>⟨fun o hf=>(e3 g hg).1 o ((htok q v g hq hg).2 o hf),(e3 g hg).2⟩⟩
 apart:=h.apart
end
end Go.Ai

namespace Go.Ai
open Go.RowKit
noncomputable section
variable {N:Type} [DecidableEq N] {E:Env N} {P:Program}
variable {base n:Nat} {ov:Ov E} {w0 w w' : World} {F0:Fx} {F F' : Fz} {σ σ' : St E} {a:Act} {j:Sites} {tk:Toks} {ro:Option Nat}
variable {β:Type} {r:β} {B:Bs β}
def Turns (O:Nat->Prop) (W W' : World):Prop:=W'.os=W.os/\W'.tape=W.tape/\W'.output=W.output/\W.heap.size<=W'.heap.size /\ ∀ k,k<W.heap.size -> ¬ O k->W'.heap[k]? = W.heap[k]?
abbrev Inv:=Nat->Fz->(Nat->Prop)->World->Prop
def Abides (J:Inv):Prop := ∀ (i:Nat) (F F' : Fz) (O O' : Nat->Prop) (W W' : World),J i F O W->Turns O W W' -> (∀ b o,F b o->F' b o)->Agree F W W' -> (∀ b o,F' b o->F b o\/O b\/W.heap.size<=b)->(∀ b o,F' b o->b<W'.heap.size) ->
 (∀ k,O k->O' k)->(∀ k,O' k->O k\/(W.heap.size<=k/\k<W'.heap.size))->J i F' O' W'
def SeqX (P:Program) (g:FuncId) (lb:Array Value) (ts:List (Ty N)) (xs:List (Tup E.Γ ts)) (w0:World) (F0:Fz):Prop:=
 ∀ (l:Nat) (J Jx:Inv) (W:World) (F:Fz),(∀ b o,F0 b o->F b o)->Agree F0 w0 W->(∀ b o,F b o->b<W.heap.size)->Abides J->Abides Jx ->
   (∀ (i:Nat) (x:Tup E.Γ ts) (F1:Fz) (O1:Nat->Prop) (W1:World) (vs:List Value),xs[i]? = some x->(∀ b o,F b o->F1 b o)->J i F1 O1 W1->HReps W1 noSite noTok F1 (argHs ts x) vs ->
    YieldAt (fence none) 0 P l vs.toArray W1 fun e W2 => ∃ F2,(∀ b o,F1 b o->F2 b o)/\Agree F1 W1 W2/\(∀ b o,F2 b o->F1 b o \/ ¬ O1 b)/\(∀ b o,F2 b o->b<W2.heap.size)/\W1.heap.size<=W2.heap.size /\
     (∀ k,O1 k->W2.heap[k]? = W1.heap[k]?)/\((e = .returned (.bool true)/\J (i+1) F2 O1 W2)\/(e = .returned (.bool false)/\Jx (i+1) F2 O1 W2))) ->
   J 0 F (fun _=>False) W ->
   CallsIn (fence none) 0 P g (#[.func (.yield l) #[] #[]]++lb) W fun e W' => (∃ v,e = .returned v) /\ ∃ F' O',(J xs.length F' O' W' \/ ∃ i,i<xs.length/\Jx (i+1) F' O' W')
def Caps (w:World) (F:Fz):List Nat->List (TV E)->List Value->Prop
 | [],[],[]=>True
 | n::sh,ls,v::vs=>n<=ls.length/\(∃ b o us,v = .pointer (some ⟨b,o,none⟩)/\(∀ (i:Nat) (u:Value),us[i]? = some u->F b (o+i)/\w.cell? ⟨b,o+i,none⟩=some u)/\TReps w F (ls.take n) us)/\Caps w F sh (ls.drop n) vs
 | _,_,_=>False
theorem caps_sound:∀ {sh:List Nat} {scs:List (Sc E)} {ls:List (TV E)} {vs:List Value},caps sh scs=some ls->SReps w j F scs vs->Caps w F sh ls vs
 | [],[],ls,[],h,_=>by simp [caps] at h; subst h; trivial
 | n::sh,.fptr l::scs,ls,v::vs,h,hr=>by
   simp only [caps] at h
   split at h
   ·rename_i r h1 h2
    cases h
    have h1:=Nat.eq_of_beq_eq_true h1
    subst h1
    refine ⟨by simp,?_,?_⟩
    ·obtain ⟨b,o,us,e1,e2,e3⟩:=hr.1
     exact ⟨b,o,us,e1,e2,by rw [List.take_left]; exact e3⟩
    ·rw [List.drop_left]; exact caps_sound h2 hr.2
   ·cases h
 | [],_::_,_,_,h,_=>by simp [caps] at h
 | _::_,[],_,_,h,_=>by simp [caps] at h
 | _::_,.tv _::_,_,_,h,_=>by simp [caps] at h
 | _::_,.ptr _ _::_,_,_,h,_=>by simp [caps] at h
 | [],[],_,_::_,_,hr=>hr.elim
 | _::_,.fptr _::_,_,[],_,hr=>hr.elim
theorem packTup_get:∀ {ts:List (Ty N)} {xs:List (TV E)} {y:Tup E.Γ ts},packTup ts xs=some y->(viewTup ts y).length=xs.length /\ ∀ (i:Nat) (x x' : TV E),xs[i]? = some x->(viewTup ts y)[i]? = some x' -> ∀ v,Rep w F x v->Rep w F x' v
 | [],[],y,_=>⟨rfl,fun i x x' h=>by simp at h⟩
 | [],_::_,y,h=>by simp [packTup] at h
 | [t],[x],y,h=>by
   refine ⟨rfl,fun i z z' hz hz' v hr => ?_⟩
   cases i with
   | zero=>simp [viewTup] at hz hz'; subst hz hz'; exact Rep.pack (by simpa [packTup] using h) hr
   | succ i=>simp at hz
 | [t],[],y,h=>by simp [packTup] at h
 | [t],_::_::_,y,h=>by simp [packTup] at h
 | t::u::ts,[],y,h=>by simp [packTup] at h
 | t::u::ts,x::xs,y,h=>by
   simp only [packTup] at h
   split at h
   ·rename_i a b ha hb
    simp only [Option.some.injEq] at h
    subst h
    obtain ⟨h1,h2⟩:=packTup_get hb
    refine ⟨by simp [viewTup,h1],fun i z z' hz hz' v hr => ?_⟩
    cases i with
    | zero=>simp [viewTup] at hz hz'; subst hz hz'; exact Rep.pack ha hr
    | succ i=>exact h2 i z z' (by simpa using hz) (by simpa [viewTup] using hz') v hr
   ·exact absurd h (by simp)
theorem Caps.conv:∀ {sh:List Nat} {ls ls' : List (TV E)} {vs:List Value},ls'.length=ls.length->(∀ (i:Nat) (x x' : TV E),ls[i]? = some x->ls'[i]? = some x' -> ∀ v,Rep w F x v->Rep w F x' v)->Caps w F sh ls vs->Caps w F sh ls' vs
 | [],[],ls',[],hl,_,_=>by cases ls' with | nil=>trivial | cons _ _=>simp at hl
 | n::sh,ls,ls',v::vs,hl,h,⟨h1,⟨b,o,us,h2,h3,h4⟩,h5⟩=>by
   refine ⟨by omega,⟨b,o,us,h2,h3,?_⟩,Caps.conv (by simp [hl]) (fun i x x' hx hx' => h (n+i) x x' (by simpa using hx) (by simpa using hx')) h5⟩
   refine TReps.of_get (by rw [<- h4.len]; simp [hl]) fun i x v hx hv => ?_
   have hin:i<n:=by have:=(List.getElem?_eq_some_iff.1 hx).1; simp at this; omega
   obtain ⟨x0,hx0⟩:∃ x0,(ls.take n)[i]? = some x0:=⟨_,List.getElem?_eq_getElem (by have:=(List.getElem?_eq_some_iff.1 hx).1; simp at this ⊢; omega)⟩
   obtain ⟨v',hv',hr⟩:=h4.get i x0 hx0
   rw [hv] at hv'; cases hv'
   rw [List.getElem?_take_of_lt hin] at hx hx0
   exact h i x0 x hx0 hx v hr
def ItOk (P:Program) (C:Ctx E):Prop := ∀ f I,C.it f=some I->callable P f=true /\ ∀ y xs,I.fn y=some xs -> ∀ (w0:World) (F0:Fz) (lb:List Value),(∀ b o,F0 b o->b<w0.heap.size)->E.tab w0 F0->Caps w0 F0 I.shape (viewTup I.cts y) lb->SeqX P f lb.toArray I.ts xs w0 F0
theorem Sim.withIts (h:Sim P base w0 F0 ov σ a w j tk F) (its:List (Pend E)):Sim P base w0 F0 ⟨ov.vs,its⟩ {σ with its:=its} a w j tk F:=
 ⟨h.below,h.tab,h.size,h.Fold,h.Fnew,h.Flt,h.agr,h.frn,h.outs,rfl,h.defers,h.mks,h.len,h.tmps,h.boxes,h.iters,h.maps,h.rows,h.live,h.inj,h.toks,h.apart⟩
theorem Sim.popIts {q:Pend E} (h:Sim P base w0 F0 ⟨ov.vs,q::ov.iv⟩ σ a w j tk F):Sim P base w0 F0 ov {σ with its:=σ.its.tail} a w j tk F:=
 ⟨h.below,h.tab,h.size,h.Fold,h.Fnew,h.Flt,h.agr,h.frn,h.outs,by show σ.its.tail=ov.iv; rw [h.itq]; rfl,h.defers,h.mks,h.len,h.tmps,h.boxes,h.iters,h.maps,h.rows,h.live,h.inj,h.toks,h.apart⟩
theorem Sim.withMrk (h:Sim P base w0 F0 ov σ a w j tk F):Sim P base w0 F0 ov {σ with mrk:=true} a w j tk F:=
 ⟨h.below,h.tab,h.size,h.Fold,h.Fnew,h.Flt,h.agr,h.frn,h.outs,h.itq,h.defers,(fun e=>by cases e),h.len,h.tmps,h.boxes,h.iters,h.maps,h.rows,h.live,h.inj,h.toks,h.apart⟩
theorem Sim.push (h:Sim P base w0 F0 ov σ a w j tk F) {ts:List (Hold E)} {vs:Array Value} (off:Nat) (hl:vs.size=ts.length) (ht:∀ (i:Nat) (x:Hold E) (v:Value),ts[i]? = some x->vs[i]? = some v->HRep w j tk F x v) :
  Sim P base w0 F0 ⟨a.tmps.toList++ov.vs,ov.iv⟩ {σ with tmps:=ts,out:=σ.tmps++σ.out,off:=off,mrk:=false} {tmps:=vs,defers:=[]} w j tk F where
 tab:=h.tab
 below:=h.below
 size:=h.size
 Fold:=h.Fold
 Fnew:=h.Fnew
 Flt:=h.Flt
 agr:=h.agr
 frn:=fun k hk=>by obtain ⟨h1,h2,h3,h4,h5⟩:=h.frn k hk; exact ⟨h1,h2,h3,h4,fun hm=>by cases hm⟩
 outs:=by
  refine HReps.append (HReps.of_get (by rw [Array.length_toList,h.len]) fun i x v hx hv=>h.tmps i x v hx ?_) h.outs
  simpa using hv
 itq:=h.itq
 defers:=Marks.nil _ _
 mks:=fun _=>rfl
 len:=hl
 tmps:=ht
 boxes:=h.boxes
 iters:=h.iters
 maps:=h.maps
 rows:=h.rows
 live:=h.live
 inj:=h.inj
 toks:=h.toks
 apart:=h.apart
theorem Sim.pop {vs:Array Value} {ds:List Deferred} {iv:List (Pend E)} (h:Sim P base w0 F0 ⟨a.tmps.toList++ov.vs,iv⟩ σ' {tmps:=vs,defers:=ds} w j tk F) {n:Nat} (off:Nat) (mrk:Bool) (hn:n=a.tmps.size) (hM:Marks base w a.defers) (hmk:mrk=false->a.defers=[])
  (hfr:∀ k,F0.fn k->({target := .collected k,args := #[]} : Deferred) ∉ a.defers):Sim P base w0 F0 ⟨ov.vs,iv⟩ (σ'.back n off mrk) a w j tk F where
 tab:=h.tab
 below:=h.below
 size:=h.size
 Fold:=h.Fold
 Fnew:=h.Fnew
 Flt:=h.Flt
 agr:=h.agr
 frn:=fun k hk=>by obtain ⟨h1,h2,h3,h4,h5⟩:=h.frn k hk; exact ⟨h1,h2,h3,h4,hfr k hk⟩
 outs:=by
  have:=h.outs.drop n
  rw [List.drop_left' (by rw [Array.length_toList,hn])] at this
  exact this
 itq:=h.itq
 defers:=hM
 mks:=hmk
 len:=by
  have h1:=h.outs.len
  show a.tmps.size=(σ'.out.take n).length
  rw [List.length_take,h1,List.length_append,Array.length_toList]
  omega
 tmps:=fun i x v hx hv=>by
  have:=(h.outs.take n).get i x v hx
  rw [List.take_left' (by rw [Array.length_toList,hn])] at this
  exact this (by simpa using hv)
 boxes:=h.boxes
 iters:=h.iters
 maps:=h.maps
 rows:=h.rows
 live:=h.live
 inj:=h.inj
 toks:=h.toks
 apart:=h.apart
end
end Go.Ai

namespace Go.Ai
section
variable {N:Type} [DecidableEq N] {E:Env N} {β γ:Type}
def Le (x y:Option β):Prop := ∀ r,x=some r->y=some r
theorem Le.refl (x:Option β):Le x x:=fun _ h=>h
theorem Le.trans {x y z:Option β} (h:Le x y) (h' : Le y z):Le x z:=fun r hr=>h' r (h r hr)
theorem Le.none {x:Option β} : Le Option.none x:=fun _ h=>by cases h
theorem Le.cond {b:Bool} {x y x' y' : Option β} (h:Le x x') (h' : Le y y'):Le (cond b x y) (cond b x' y'):=by cases b <;> assumption
theorem Le.bind {o:Option γ} {f g:γ->Option β} (h:∀ c,Le (f c) (g c)):Le (o.bind f) (o.bind g):=by
 cases o with
 | none=>exact Le.none
 | some c=>exact h c
theorem Le.agree {x y x' y' : Option β} (h:Le x x') (h' : Le y y'):Le (agree x y) (agree x' y'):=by
 intro r hr
 unfold Ai.agree at hr ⊢
 split at hr
 ·rename_i e
  have h1:=h r hr
  have h2:=h' r (by rw [<- e]; exact hr)
  rw [h1,h2]; simp
 ·cases hr
theorem binInt_mono {op:BinOp} {k:IntKind} {a b:Int} {K K' : TV E->Option β} (h:∀ x,Le (K x) (K' x)):Le (binInt op k a b K) (binInt op k a b K'):=by
 unfold binInt
 split <;> first | exact h _ | exact Le.cond Le.none (h _) | exact Le.none
theorem shiftInt_mono {op:BinOp} {k:IntKind} {a b:Int} {K K' : TV E->Option β} (h:∀ x,Le (K x) (K' x)):Le (shiftInt op k a b K) (shiftInt op k a b K'):=by
 unfold shiftInt
 split <;> first | exact Le.cond Le.none (h _) | exact Le.none
theorem binStr_mono {op:BinOp} {a b:List UInt8} {K K' : TV E->Option β} (h:∀ x,Le (K x) (K' x)):Le (binStr op a b K) (binStr op a b K'):=by
 unfold binStr
 split <;> first | exact h _ | exact Le.cond (h _) Le.none | exact Le.none
theorem binTV_mono {op:BinOp} {x y:TV E} {K K' : TV E->Option β} (h:∀ x,Le (K x) (K' x)):Le (binTV op x y K) (binTV op x y K'):=by
 unfold binTV
 repeat' split
 all_goals first | exact shiftInt_mono h | exact binInt_mono h | exact binStr_mono h | exact Le.none
theorem binC_mono {C:Ctx E} {t:Nat} {op:BinOp} {x y:TV E} {K K' : TV E->Option β} (h:∀ x,Le (K x) (K' x)):Le (binC C t op x y K) (binC C t op x y K'):=by
 unfold binC
 repeat' split
 all_goals first | exact binTV_mono h | exact h _ | exact Le.none
theorem eqOp_mono {op:BinOp} {b:Option Bool} {K K' : TV E->Option β} (h:∀ x,Le (K x) (K' x)):Le (eqOp op b K) (eqOp op b K'):=by
 unfold eqOp
 split <;> first | exact h _ | exact Le.none
theorem unTV_mono {op:UnOp} {x:TV E} {K K' : TV E->Option β} (h:∀ x,Le (K x) (K' x)):Le (unTV op x K) (unTV op x K'):=by
 unfold unTV
 split <;> first | exact h _ | exact Le.none
theorem loadC_mono {ti:TI E} {cs:List (Cell E)} {o:Nat} {K K' : Hold E->Option β} (h:∀ x,Le (K x) (K' x)):Le (loadC ti cs o K) (loadC ti cs o K'):=by
 unfold loadC
 repeat' split
 all_goals first | exact h _ | exact Le.none
theorem lenH_mono {d:TD} {x:Hold E} {K K' : Hold E->Option β} (h:∀ x,Le (K x) (K' x)):Le (lenH d x K) (lenH d x K'):=by
 unfold lenH
 repeat' split
 all_goals first | exact h _ | exact Le.none
theorem lenM_mono {bs:List (Blk E)} {d:TD} {x:Hold E} {K K' : Hold E->Option β} (h:∀ x,Le (K x) (K' x)):Le (lenM bs d x K) (lenM bs d x K'):=by
 unfold lenM
 repeat' split
 all_goals first | exact h _ | exact lenH_mono h | exact Le.none
theorem cutL_mono {α:Type} {xs:List α} {lo hi:Option Int} {K K' : List α->Option β} (h:∀ x,Le (K x) (K' x)):Le (cutL xs lo hi K) (cutL xs lo hi K'):=by
 unfold cutL
 repeat' split
 all_goals first | exact h _ | exact Le.cond (h _) Le.none | exact Le.none
theorem convTV_mono {d:TD} {x:TV E} {K K' : TV E->Option β} (h:∀ x,Le (K x) (K' x)):Le (convTV d x K) (convTV d x K'):=by
 unfold convTV
 repeat' split
 all_goals first | exact h _ | exact Le.none
theorem evalR_mono {C:Ctx E} {σ:St E} {d:Nat} {o:Oper} {K K' : Hold E->Option β} (h:∀ x,Le (K x) (K' x)):Le (evalR C σ d o K) (evalR C σ d o K'):=by
 unfold evalR
 repeat' split
 all_goals first
  | exact h _
  | exact Le.none
  | exact Le.cond (h _) (h _)
  | exact Le.cond (h _) Le.none
  | exact binC_mono fun _=>h _
  | exact eqOp_mono fun _=>h _
  | exact unTV_mono fun _=>h _
  | exact loadC_mono h
  | exact lenM_mono h
  | exact cutL_mono fun _=>h _
  | exact convTV_mono fun _=>h _
  | exact Le.bind fun _=>h _
theorem nilCmp_mono {x:Hold E} {K K' : Bool->Option β} (h:∀ x,Le (K x) (K' x)):Le (nilCmp x K) (nilCmp x K'):=by
 unfold nilCmp
 repeat' split
 all_goals first | exact h _ | exact Le.cond (Le.agree (h _) (h _)) (h _) | exact Le.none
theorem evalOp_mono {C:Ctx E} {X X' : Ext E β} {σ:St E} {o:Oper} {K K' : St E->Option β} (h:∀ σ,Le (K σ) (K' σ)) (hX:∀ d c args,Le (X.call σ d c args K) (X'.call σ d c args K')):Le (evalOp C X σ o K) (evalOp C X' σ o K'):=by
 unfold evalOp
 split
 all_goals repeat' split
 all_goals first
  | exact h _
  | exact Le.none
  | exact hX _ _ _
  | exact evalR_mono fun _=>h _
  | exact nilCmp_mono fun _=>h _
  | exact Le.cond (h _) (h _)
  | exact Le.cond (h _) Le.none
  | exact Le.bind fun _=>Le.bind fun _=>h _
theorem runOps_mono {C:Ctx E} {Xi Xi' : Nat->Ext E β} {ops:Array Oper} : ∀ {l:List Nat} {σ:St E} {K K' : St E->Option β},(∀ σ,Le (K σ) (K' σ)) ->
  (∀ i σ d c args (K K' : St E->Option β),(∀ σ,Le (K σ) (K' σ))->Le ((Xi i).call σ d c args K) ((Xi' i).call σ d c args K'))->Le (runOps C Xi ops l σ K) (runOps C Xi' ops l σ K')
 | [],σ,K,K',h,_=>h σ
 | i::l,σ,K,K',h,hX=>by
   have ih:∀ σ,Le (runOps C Xi ops l σ K) (runOps C Xi' ops l σ K'):=fun σ=>runOps_mono h hX
   have he:∀ σ o,Le (evalOp C (Xi i) σ o fun σ' => runOps C Xi ops l σ' K) (evalOp C (Xi' i) σ o fun σ' => runOps C Xi' ops l σ' K'):=fun σ o=>evalOp_mono ih fun d c args=>hX i σ d c args _ _ ih
   unfold runOps
   repeat' split
   all_goals first
    | exact ih _
    | exact he _ _
    | exact Le.none
    | (refine Le.cond ?_ ?_ <;> first | exact he _ _ | exact ih _ | (split <;> first | exact he _ _ | exact ih _))
theorem cut_mono {C:Ctx E} {p:Option (Plan N)} {σ:St E} {K K' : St E->Option β} (h:∀ σ,Le (K σ) (K' σ)):Le (cut C p σ K) (cut C p σ K'):=by
 unfold cut
 repeat' split
 all_goals first | exact h _ | exact Le.none
def LeK (K K' : Cont E β):Prop := ∀ e σ,Le (K e σ) (K' e σ)
def LeZ (Z Z' : List Dir->St E->Option β):Prop := ∀ p σ,Le (Z p σ) (Z' p σ)
theorem LeK.refl (K:Cont E β):LeK K K:=fun _ _=>Le.refl _
theorem LeZ.refl (Z:List Dir->St E->Option β):LeZ Z Z:=fun _ _=>Le.refl _
theorem LeK.trans {K K' K'' : Cont E β} (h:LeK K K') (h' : LeK K' K''):LeK K K'' := fun e σ=>(h e σ).trans (h' e σ)
theorem kSeq_mono {C:Ctx E} {p:Option (Plan N)} {z z' f f' : St E->Option β} {K K' : Cont E β} (hz:∀ σ,Le (z σ) (z' σ)) (hf:∀ σ,Le (f σ) (f' σ)) (hK:LeK K K'):LeK (kSeq C p z f K) (kSeq C p z' f' K'):=by
 intro e σ
 cases e with
 | normal=>
   cases p with
   | none=>exact hf σ
   | some p=>exact cut_mono (p:=some p) hz
 | exit id=>exact hK _ _
 | ret=>exact hK _ _
theorem kLoop_mono {C:Ctx E} {p:Option (Plan N)} {z z' : St E->Option β} {K K' : Cont E β} (hz:∀ σ,Le (z σ) (z' σ)) (hK:LeK K K'):LeK (kLoop C p z K) (kLoop C p z' K'):=by
 intro e σ
 cases e with
 | normal=>exact cut_mono hz
 | exit id=>exact hK _ _
 | ret=>exact hK _ _
theorem kBlock_mono {id:Nat} {K K' : Cont E β} (hK:LeK K K'):LeK (kBlock id K) (kBlock id K'):=by
 intro e σ
 cases e with
 | normal=>exact hK _ _
 | exit id'=>
   simp only [kBlock]
   split <;> exact hK _ _
 | ret=>exact hK _ _
theorem kPop_mono {K K' : Cont E β} (hK:LeK K K'):LeK (kPop K) (kPop K'):=by intro e σ; cases e <;> exact hK _ _
theorem kBack_mono {n off:Nat} {mk:Bool} {K K' : Cont E β} (hK:LeK K K'):LeK (kBack n off mk K) (kBack n off mk K'):=fun e σ=>hK _ _
theorem kAssign_mono {f f' : St E->Option β} (hf:∀ σ,Le (f σ) (f' σ)):LeK (kAssign f) (kAssign f'):=by intro e σ; cases e <;> first | exact hf _ | exact Le.none
theorem kCall_mono {C:Ctx E} {res:List ResultVar} {n off:Nat} {mk:Bool} {d:Option Nat} {K K' : St E->Option β} (h:∀ σ,Le (K σ) (K' σ)):LeK (kCall C res n off mk d K) (kCall C res n off mk d K'):=by
 intro e σ
 unfold kCall
 repeat' split
 all_goals first | exact h _ | exact Le.none
theorem lcase_mono {α:Type} {xs:List α} {a a' : Option β} {f f' : α->List α->Option β} (ha:Le a a') (hf:∀ x xs,Le (f x xs) (f' x xs)):Le (lcase xs a f) (lcase xs a' f'):=by cases xs <;> first | exact ha | exact hf _ _
theorem roundX_mono {nt:Nat} {ps:List Nat} {ats ats' bs bs' : St E->Cont E β->Option β} {K K' : Cont E β} {σ:St E} {Kl Kl' : Cont E β} (ha:∀ σ K K',LeK K K' -> Le (ats σ K) (ats' σ K')) (hb:∀ σ K K',LeK K K' -> Le (bs σ K) (bs' σ K')) (hK:LeK K K') (hl:LeK Kl Kl') :
  Le (roundX nt ps ats bs K σ Kl) (roundX nt ps ats' bs' K' σ Kl'):=by
 unfold roundX
 repeat' split
 all_goals first
  | exact Le.none
  | exact lcase_mono (hK _ _) fun x xs=>ha _ _ _ (kAssign_mono fun σ=>hb _ _ _ (kBack_mono hl))
theorem enterX_mono {C:Ctx E} {σ:St E} {g:Operand} {K K' : St E->Option β} (h:∀ σ,Le (K σ) (K' σ)):Le (enterX C σ g K) (enterX C σ g K'):=by
 unfold enterX
 repeat' split
 all_goals first | exact Le.none | exact Le.bind fun _=>h _
def YMono (Y:ZC E β->Ext E β):Prop := ∀ (Z Z' : ZC E β),(∀ f n off mrk p σ,Le (Z f n off mrk p σ) (Z' f n off mrk p σ)) -> ∀ σ d c args (K K' : St E->Option β),(∀ σ,Le (K σ) (K' σ))->Le ((Y Z).call σ d c args K) ((Y Z').call σ d c args K')
theorem runZ_mono {C:Ctx E} {Y:ZC E β->Ext E β} (hY:YMono Y):∀ {c:Code} {Z Z' : List Dir->St E->Option β} {ps:List (Option (Plan N))} {σ:St E} {K K' : Cont E β},LeZ Z Z' -> LeK K K' -> Le (runZ C Y Z c ps σ K) (runZ C Y Z' c ps σ K'):=by
 intro c
 induction c with
 | skip=>intro Z Z' ps σ K K' hz hk; exact hk _ _
 | region r ops draw=>
   intro Z Z' ps σ K K' hz hk
   have e:Le (runOps C (fun i=>Y (zc Z i)) ops (List.range ops.size) σ (K .normal)) (runOps C (fun i=>Y (zc Z' i)) ops (List.range ops.size) σ (K' .normal)):=
    runOps_mono (hk _) fun i σ d c args K K' h=>hY _ _ (fun f n off mrk p σ=>hz _ _) σ d c args K K' h
   cases draw with
   | false=>exact e
   | true=>
     simp only [runZ]
     split
     ·exact e
     ·exact Le.none
 | seq a b iha ihb=>
   intro Z Z' ps σ K K' hz hk
   exact iha (fun p σ=>hz _ _) (kSeq_mono (hz _) (fun σ=>ihb (fun p σ=>hz _ _) hk) hk)
 | cond c a b iha ihb=>
   intro Z Z' ps σ K K' hz hk
   simp only [runZ]
   split
   ·exact Le.cond (iha (fun p σ=>hz _ _) hk) (ihb (fun p σ=>hz _ _) hk)
   ·exact Le.none
 | block id a ih=>intro Z Z' ps σ K K' hz hk; exact ih (fun p σ=>hz _ _) (kBlock_mono hk)
 | scope a ih=>intro Z Z' ps σ K K' hz hk; exact ih (fun p σ=>hz _ _) hk
 | label l=>intro Z Z' ps σ K K' hz hk; exact hk _ _
 | loop a ih=>intro Z Z' ps σ K K' hz hk; exact cut_mono (hz _)
 | rangeFunc g pa a b iha ihb=>intro Z Z' ps σ K K' hz hk; exact enterX_mono fun σ=>cut_mono (hz _)
 | exit id=>intro Z Z' ps σ K K' hz hk; exact hk _ _
 | ret=>intro Z Z' ps σ K K' hz hk; exact hk _ _
 | _=>intro Z Z' ps σ K K' hz hk; exact Le.none
structure Hd.Mono (H:Hd E β):Prop where
 yl:∀ i args (K K' : Bool->Option β),(∀ b,Le (K b) (K' b))->Le (H.yl i args K) (H.yl i args K')
 X0:∀ σ d c args (K K' : St E->Option β),(∀ σ,Le (K σ) (K' σ))->Le (H.X0.call σ d c args K) (H.X0.call σ d c args K')
theorem callR_mono {S:Sig E} {σ:St E} {d:Option Nat} {args:List (Hold E)} {K K' : St E->Option β} (h:∀ σ,Le (K σ) (K' σ)):Le (callR S σ d args K) (callR S σ d args K'):=by
 unfold callR
 repeat' split
 all_goals first | exact Le.none | exact Le.bind fun _=>h _
theorem extZ_mono {C:Ctx E} {H:Hd E β} (hH:H.Mono):∀ k,YMono (extZ C H k):=by
 intro k
 induction k with
 | zero=>intro Z Z' hz σ d c args K K' h; exact hH.X0 σ d c args K K' h
 | succ k ih=>
   intro Z Z' hz σ d c args K K' h
   simp only [extZ]
   repeat' split
   ·exact callR_mono h
   ·exact runZ_mono ih (fun p σ=>hz _ _ _ _ _ _) (kCall_mono h)
   ·exact hH.X0 _ _ _ _ _ _ h
   ·exact hH.yl _ _ _ _ fun b=>h _
   ·exact hH.X0 _ _ _ _ _ _ h
theorem seg_mono {C:Ctx E} {H:Hd E β} (hH:H.Mono):∀ (q:List Dir) (k:Nat) (c:Code) {Z Z' : List Dir->St E->Option β} {ps:List (Option (Plan N))} {K K' : Cont E β} {σ:St E},LeZ Z Z' -> LeK K K' -> Le (seg C H k Z c ps K q σ) (seg C H k Z' c ps K' q σ):=by
 intro q
 induction q with
 | nil=>
   intro k c Z Z' ps K K' σ hz hk
   cases c with
   | seq a b=>simp only [seg]; exact runZ_mono (extZ_mono hH k) (fun p σ=>hz _ _) hk
   | loop a=>simp only [seg]; exact runZ_mono (extZ_mono hH k) (fun p σ=>hz _ _) (kLoop_mono (hz _) hk)
   | rangeFunc g pa a b=>
     simp only [seg]
     exact roundX_mono (fun σ K K' h=>runZ_mono (extZ_mono hH k) (fun p σ=>hz _ _) h) (fun σ K K' h=>runZ_mono (extZ_mono hH k) (fun p σ=>hz _ _) h) hk (kLoop_mono (hz _) (kPop_mono hk))
   | _=>cases k <;> exact Le.none
 | cons d q ih=>
   intro k c Z Z' ps K K' σ hz hk
   cases d with
   | l=>cases c with
     | seq a b=>simp only [seg]; exact ih k a (fun p σ=>hz _ _) (kSeq_mono (hz _) (fun σ=>runZ_mono (extZ_mono hH k) (fun p σ=>hz _ _) hk) hk)
     | _=>cases k <;> exact Le.none
   | r=>cases c with
     | seq a b=>simp only [seg]; exact ih k b (fun p σ=>hz _ _) hk
     | _=>cases k <;> exact Le.none
   | a=>cases c with
     | cond x a b=>simp only [seg]; exact ih k a (fun p σ=>hz _ _) hk
     | _=>cases k <;> exact Le.none
   | b=>cases c with
     | cond x a b=>simp only [seg]; exact ih k b (fun p σ=>hz _ _) hk
     | _=>cases k <;> exact Le.none
   | k=>cases c with
     | block id a=>simp only [seg]; exact ih k a (fun p σ=>hz _ _) (kBlock_mono hk)
     | scope a=>simp only [seg]; exact ih k a (fun p σ=>hz _ _) hk
     | _=>cases k <;> exact Le.none
   | L=>cases c with
     | loop a=>simp only [seg]; exact ih k a (fun p σ=>hz _ _) (kLoop_mono (hz _) hk)
     | rangeFunc g pa a b=>simp only [seg]; exact ih k b (fun p σ=>hz _ _) (kBack_mono (kLoop_mono (hz _) (kPop_mono hk)))
     | _=>cases k <;> exact Le.none
   | s=>cases c with
     | rangeFunc g pa a b=>simp only [seg]; exact ih k a (fun p σ=>hz _ _) (kAssign_mono fun σ=>runZ_mono (extZ_mono hH k) (fun p σ=>hz _ _) (kBack_mono (kLoop_mono (hz _) (kPop_mono hk))))
     | _=>cases k <;> exact Le.none
   | c i f n off mrk=>cases c with
     | region r ops draw=>
       cases k with
       | zero=>exact Le.none
       | succ k=>
         simp only [seg]
         cases inlAt H ops i f off with
         | none=>exact Le.none
         | some x=>exact ih k _ (fun p σ=>hz _ _) (kCall_mono fun σ=>runOps_mono (hk _) fun q σ d c args K K' h=>extZ_mono hH (k+1) _ _ (fun f n off mrk p σ=>hz _ _) σ d c args K K' h)
     | _=>cases k <;> exact Le.none
theorem Dz_mono {C:Ctx E} {H:Hd E β} (hH:H.Mono) {d:Nat} {body:Code} {plans:List (Option (Plan N))} {K:Cont E β} : ∀ k,LeZ (Dz C H d body plans K k) (Dz C H d body plans K (k+1))
 | 0=>fun p σ=>Le.none
 | k+1=>fun p σ=>seg_mono hH p d body (Dz_mono hH k) (LeK.refl K)
end
end Go.Ai

namespace Go.Ai
open Go.RowKit
noncomputable section
variable {N:Type} [DecidableEq N] {E:Env N} {P:Program}
variable {base n:Nat} {ov:Ov E} {w0 w w' : World} {F0:Fx} {F F' : Fz} {σ σ' : St E} {a:Act} {j:Sites} {tk:Toks} {ro:Option Nat}
variable {β:Type} {r:β} {B:Bs β}
def Post (P:Program) (B:Bs β) (ov:Ov E) (K:Cont E β):Exit->Act->World->Prop
 | .normal,a,w => ∃ σ,Gd P B ov σ a w (K .normal σ)
 | .exit id,a,w => ∃ σ,Gd P B ov σ a w (K (.exit id) σ)
 | .ret,a,w => ∃ σ,Gd P B ov σ a w (K .ret σ)
 | _,_,_=>False
theorem Post.le {K K' : Cont E β} (h:LeK K K') {e:Exit} (hp:Post P B ov K e a w):Post P B ov K' e a w:=by
 have key:∀ o,(∃ σ,Gd P B ov σ a w (K o σ)) -> ∃ σ,Gd P B ov σ a w (K' o σ):=by
  rintro o ⟨σ,base,w0,F0,r,h1,h2,h3⟩
  exact ⟨σ,base,w0,F0,r,h1,h2,h _ _ _ h3⟩
 cases e <;> first | exact key _ hp | exact hp
theorem cut_sim {C:Ctx E} (hC:COk P C) {p:Option (Plan N)} {K:St E->Option β} (h:Sim P base w0 F0 ov σ a w j tk F) (hc:cut C p σ K=some r) :
  ∃ σ' j' tk',σ'.its=σ.its/\(σ.mrk=true->σ'.mrk=true)/\Sim P base w0 F0 ov σ' a w j' tk' F/\K σ' = some r/\(∀ s b,j' s=some b->j s=some b) /\ ∀ q v g,tk' q=some v->v.ownBlock=some g -> ∃ q',tk q' = some v:=by
 unfold cut at hc
 split at hc
 ·exact ⟨σ,j,tk,rfl,id,h,hc,fun _ _ h=>h,fun q v _ h _=>⟨q,h⟩⟩
 ·split at hc
  ·rename_i σ1 hp
   obtain ⟨j',tk',h1,h2,h3⟩:=Plan.app_sim hC h hp
   refine ⟨σ1,j',tk',?_,?_,h1,hc,h2,h3⟩
   ·unfold Plan.app at hp
    split at hp
    ·split at hp <;> cases hp
     rfl
    ·cases hp
   ·unfold Plan.app at hp
    split at hp
    ·split at hp <;> cases hp
     exact fun e=>by rw [e]; rfl
    ·cases hp
  ·cases hc
theorem cut_sound {C:Ctx E} (hC:COk P C) {p:Option (Plan N)} {K:St E->Option β} (h:Gd P B ov σ a w (cut C p σ K)):∃ σ',Gd P B ov σ' a w (K σ'):=by
 obtain ⟨base,w0,F0,r,hB,⟨j,tk,F,hs⟩,hc⟩:=h
 obtain ⟨σ',j',tk',_,_,h1,h2,_⟩:=cut_sim hC hs hc
 exact ⟨σ',base,w0,F0,r,hB,⟨j',tk',F,h1⟩,h2⟩
abbrev mark (D:Nat):Deferred := {target := .collected D,args := #[]}
def Ap (base:Nat) (F0:Fx) (w:World) (j:Sites) (tk:Toks) (a:Act) (k:Nat):Prop:=
 base<=k /\ ¬ F0.fn k/\k<w.heap.size/\(∀ s,j s≠some k)/\(∀ q v,tk q=some v->v.ownBlock≠some k)/\mark k ∉ a.defers
theorem Sim.tok_at (h:Sim P base w0 F0 ov σ a w j tk F) {q:Tok} {v:Value} {g:Nat} (hq:tk q=some v) (hg:v.ownBlock=some g):base<=g/\g<w.heap.size:=by
 obtain ⟨i,m,xs,e1,e2,e3⟩:=h.toks q v hq
 exact e2.lt g hg
theorem Sim.mark_at (h:Sim P base w0 F0 ov σ a w j tk F) {D:Nat} (hD:mark D ∈ a.defers):base<=D/\w.heap[D]? = some (.deferred (some [])):=by
 obtain ⟨Ds,h1,h2,h3⟩:=h.defers
 rw [h2,List.mem_map] at hD
 obtain ⟨D',hD',e⟩:=hD
 have:D' = D:=by
  have:=congrArg Deferred.target e
  simpa [mark] using this
 subst this
 exact h3 D' hD'
theorem Sim.abides (h:Sim P base w0 F0 ov σ a w j tk F) {O:Nat->Prop} (hO:∀ k,O k->Ap base F0 w j tk a k) (ht:Turns O w w') (hF:∀ b o,F b o->F' b o) (hA:Agree F w w')
  (hn:∀ b o,F' b o->F b o\/O b\/w.heap.size<=b) (hlt:∀ b o,F' b o->b<w'.heap.size):Sim P base w0 F0 ov σ a w' j tk F' := by
 obtain ⟨h1,h2,h3,h4,h5⟩:=ht
 have hold:∀ k,F0.fn k->k<w.heap.size:=fun k hk=>Nat.lt_of_lt_of_le (h.frn k hk).1 h.below.size
 refine h.turn hF hA hlt h4 ?_ (fun b o hf=>hF b o (h.Fold b o hf)) ?_ (h.agr.trans (hA.mono h.Fold)) ?_ ?_ ?_ ?_
 ·refine h.below.trans ⟨h1,h2,h3,h4,fun k hk=>h5 k (Nat.lt_of_lt_of_le hk h.size) fun ho => ?_⟩
  have:=(hO k ho).1; omega
 ·intro b o hf
  rcases hn b o hf with hf | hf | hf
  ·exact h.Fnew b o hf
  ·exact .inr ⟨(hO b hf).1,(hO b hf).2.1⟩
  ·exact .inr ⟨Nat.le_trans h.size hf,fun hk=>by have:=hold b hk; omega⟩
 ·intro k hk
  obtain ⟨e1,e2,e3⟩:=h.frn k hk
  exact ⟨e1,by rw [h5 k (hold k hk) fun ho=>(hO k ho).2.1 hk]; exact e2,e3⟩
 ·intro s b hs
  have hb:=(h.live s b hs).2.2.2
  have hnb : ¬ O b:=fun ho=>(hO b ho).2.2.2.1 s hs
  refine ⟨h5 b hb hnb,fun o hf => ?_⟩
  rcases hn b o hf with hf | hf | hf
  ·exact hf
  ·exact absurd hf hnb
  ·omega
 ·intro q v g hq hg
  have hb:=(h.tok_at hq hg).2
  have hnb : ¬ O g:=fun ho=>(hO g ho).2.2.2.2.1 q v hq hg
  refine ⟨h5 g hb hnb,fun o hf => ?_⟩
  rcases hn g o hf with hf | hf | hf
  ·exact hf
  ·exact absurd hf hnb
  ·omega
 ·intro D hD
  exact h5 D (Array.getElem?_eq_some_iff.1 (h.mark_at hD).2).1 fun ho=>(hO D ho).2.2.2.2.2 hD
theorem Ap.grow {k:Nat} (h:Ap base F0 w j tk a k) (hw:w.heap.size<=w'.heap.size):Ap base F0 w' j tk a k:=⟨h.1,h.2.1,Nat.lt_of_lt_of_le h.2.2.1 hw,h.2.2.2⟩
theorem Sim.ap_new (h:Sim P base w0 F0 ov σ a w j tk F) {k:Nat} (hk:w.heap.size<=k) (hk' : k<w'.heap.size):Ap base F0 w' j tk a k:=
 ⟨Nat.le_trans h.size hk,fun hf=>by have:=(h.frn k hf).1; have:=h.below.size; omega,hk',fun s hs=>by have:=(h.live s k hs).2.2.2; omega,
  fun q v hq hg=>by have:=(h.tok_at hq hg).2; omega,fun hm=>by have:=(Array.getElem?_eq_some_iff.1 (h.mark_at hm).2).1; omega⟩
theorem Sim.putAp (h:Sim P base w0 F0 ov σ a w j tk F) {k:Nat} {x y:Obj} (hk:Ap base F0 w j tk a k) (hx:w.heap[k]? = some x) (hcx:∀ vs T q,x ≠ .cells vs T q):Sim P base w0 F0 ov σ a (w.putObj k y) j tk F/\Agree F w (w.putObj k y):=by
 have hA:Agree F w (w.putObj k y):=by
  intro b o v hf hc
  have hne:b≠k:=by
   intro e; subst e
   cases x with
   | cells vs T q=>exact hcx vs T q rfl
   | _=>simp [World.cell?,hx] at hc
  rw [World.cell?_of_block (w:=w) (w' := w.putObj k y) (a:=⟨b,o,none⟩) (World.putObj_heap_other hne)]
  exact hc
 refine ⟨h.abides (O:=fun q=>q=k) (fun q hq=>by subst hq; exact hk) ⟨rfl,rfl,rfl,by simp,fun q _ hq=>World.putObj_heap_other hq⟩ (fun _ _ hf=>hf) hA (fun _ _ hf => .inl hf) (fun b o hf=>by simpa using h.Flt b o hf),hA⟩
def Rnd (B:Bs β) (l:Nat) (x:Obj) (X O1:Nat->Prop) (W1:World) (F1:Fz):Bs β:=fun base w0' F0' r => ∃ w0 F0,B base w0 F0 r/\Conv base w0 F0 w0' F0' /\
 (∀ b o,F1 b o->F0'.c b o)/\Agree F1 W1 w0' /\ (∀ b o,F0'.c b o->F1 b o \/ ¬ O1 b)/\(∀ b o,F0'.c b o->b<w0'.heap.size)/\W1.heap.size<=w0'.heap.size /\
 F0'.fn l /\ ¬ F0.fn l/\base<=l/\w0'.heap[l]? = some x/\(∀ k,X k->F0'.fn k /\ ¬ F0.fn k/\base<=k/\k≠l/\k<W1.heap.size/\w0'.heap[k]? = W1.heap[k]?)/\(∀ k,F0'.fn k->F0.fn k\/k=l\/X k)/\(∀ k,O1 k->X k)
def RoOk (B:Bs β):Option Nat->Prop
 | none=>True
 | some l => ∀ base w0 F0 r,B base w0 F0 r->F0.fn l /\ ∃ rc,w0.heap[l]? = some (.loop rc)
theorem RoOk.rnd {l:Nat} {rc:Loop} {X O1:Nat->Prop} {W1:World} {F1:Fz} : RoOk (Rnd B l (.loop rc) X O1 W1 F1) (some l):=by
 rintro base w0' F0' r ⟨w0,F0,_,_,_,_,_,_,_,h1,_,_,h2,_⟩
 exact ⟨h1,rc,h2⟩
theorem enterLoop_run (h:Sim P base w0 F0 ov σ a w j tk F) (hB:B base w0 F0 r) (hro:RoOk B ro) (fn:FuncId) (ps:Array Tmp) (ats bs:Code) :
  ∃ l ms W1 D,(Instr.enterLoop fn a.tmps ps ats bs ro).run P w = .ok (l,ms) W1/\Below w.heap.size w W1/\w.heap.size<=l/\l<W1.heap.size/\W1.heap[l]? = some (.loop {state := .ready,pending:=none,fn,tmps:=a.tmps,params:=ps,assign:=ats,body:=bs,defers:=D}) /\
    Marks base W1 (ms++a.defers)/\(∀ k,mark k ∈ ms->w.heap.size<=k/\k<l):=by
 cases ro with
 | none=>
   refine ⟨w.heap.size+1,[mark w.heap.size],_,w.heap.size,run_enterLoop_outer _ _ _ _ _,(((Below.refl _ w).alloc (Nat.le_refl _) _).alloc (by simp) _),by omega,by simp,?_,?_,?_⟩
   ·have:=World.alloc_heap_new (w.alloc (.deferred (some []))) (.loop {state := .ready,pending:=none,fn:=fn,tmps:=a.tmps,params:=ps,assign:=ats,body:=bs,defers:=w.heap.size})
    rwa [World.size_alloc] at this
   ·obtain ⟨Ds,h1,h2,h3⟩:=h.defers
    refine ⟨w.heap.size::Ds,List.nodup_cons.2 ⟨fun hm => ?_,h1⟩,by rw [h2]; rfl,fun D hD => ?_⟩
    ·have:=(Array.getElem?_eq_some_iff.1 (h3 _ hm).2).1; omega
    ·rcases List.mem_cons.1 hD with rfl | hD
     ·exact ⟨h.size,(Below.heap_alloc _ _ _ (by simp)).trans (World.alloc_heap_new w _)⟩
     ·have hlt:=(Array.getElem?_eq_some_iff.1 (h3 _ hD).2).1
      exact ⟨(h3 D hD).1,(Below.heap_alloc _ _ _ (by simp; omega)).trans ((Below.heap_alloc _ _ _ hlt).trans (h3 D hD).2)⟩
   ·intro k hk
    simp only [mark,List.mem_singleton,Deferred.mk.injEq,Target.collected.injEq,and_true] at hk
    omega
 | some l0=>
   obtain ⟨h1,rc,h2⟩:=hro base w0 F0 r hB
   have hl:w.heap[l0]? = some (.loop rc):=by rw [(h.frn l0 h1).2.1]; exact h2
   refine ⟨w.heap.size,[],_,rc.defers,run_enterLoop_inner hl _ _ _ _ _,(Below.refl _ w).alloc (Nat.le_refl _) _,Nat.le_refl _,by simp,World.alloc_heap_new w _,?_,fun k hk=>by cases hk⟩
   obtain ⟨Ds,h1,h2,h3⟩:=h.defers
   refine ⟨Ds,h1,h2,fun D hD=>⟨(h3 D hD).1,(Below.heap_alloc _ _ _ (Array.getElem?_eq_some_iff.1 (h3 _ hD).2).1).trans (h3 D hD).2⟩⟩
theorem setPs_rep:∀ (ps:List Nat) (hs:List (Hold E)) (us:List Value) (ts:List (Hold E)) (vs:Array Value),ps.length=hs.length->HReps w j tk F hs us->vs.size=ts.length ->
  (∀ (i:Nat) (x:Hold E) (v:Value),ts[i]? = some x->vs[i]? = some v->HRep w j tk F x v) ->
  ((ps.zip us).foldl (fun t (p:Nat×Value)=>t.setIfInBounds p.1 p.2) vs).size=(setPs ts ps hs).length /\
  (∀ (i:Nat) (x:Hold E) (v:Value),(setPs ts ps hs)[i]? = some x->((ps.zip us).foldl (fun t (p:Nat×Value)=>t.setIfInBounds p.1 p.2) vs)[i]? = some v->HRep w j tk F x v)
 | [],[],us,ts,vs,_,_,hl,h=>⟨by simpa [setPs] using hl,by simpa [setPs] using h⟩
 | p::ps,hd::hs,u::us,ts,vs,hlen,hr,hl,h=>by
   simp only [setPs,List.zip_cons_cons,List.foldl_cons]
   refine setPs_rep ps hs us _ _ (by simpa using hlen) hr.2 (by simpa using hl) ?_
   intro i x v hx hv
   rcases get_put hl hx hv with ⟨_,rfl,rfl⟩ | ⟨h1,h2⟩
   ·exact hr.1
   ·exact h i x v h1 h2
 | p::ps,hd::hs,[],ts,vs,_,hr,_,_=>hr.elim
 | [],_::_,_,_,_,hlen,_,_,_=>by simp at hlen
 | _::_,[],_,_,_,hlen,_,_,_=>by simp at hlen
theorem argHs_length:∀ (ts:List (Ty N)) (x:Tup E.Γ ts),(argHs (E:=E) ts x).length=ts.length
 | [],_=>rfl
 | [t],_=>rfl
 | t::u::ts,(x,y)=>by simp [argHs,argHs_length (u::ts) y]
theorem argHs_free:∀ (ts:List (Ty N)) (x:Tup E.Γ ts) (vs:List Value),HReps w j tk F (argHs ts x) vs -> ∀ (j' : Sites) (tk' : Toks),HReps w j' tk' F (argHs ts x) vs
 | [],_,vs,h,_,_=>by cases vs <;> exact h
 | [t],x,[],h,_,_=>h.elim
 | [t],x,v::vs,h,j',tk' => ⟨h.1.free j' tk',by cases vs <;> exact h.2⟩
 | t::u::ts,(x,y),[],h,_,_=>h.elim
 | t::u::ts,(x,y),v::vs,h,j',tk' => ⟨h.1.free j' tk',argHs_free (u::ts) y vs h.2 j' tk'⟩
def RunsAt (P:Program) (G:Bs β->Prop) (c:Code) (f:St E->Option β) (K:Cont E β):Prop := ∀ (B:Bs β) (ro:Option Nat) (n:Nat),G B->RoOk B ro -> ∀ (ov:Ov E) (σ:St E) (a:Act) (w:World),Gd P B ov σ a w (f σ)->c.wpIn (fence ro) n P (Post P B ov K) a w
section
variable {C:Ctx E} {p:Option (Plan N)} {z:Nat->St E->Option β} {m:Nat} {K:Cont E β} {Kf:Nat->Cont E β} {fa fb:Nat->St E->Cont E β->Option β} {ts:List (Ty N)} {xs:List (Tup E.Γ ts)} {l:Nat} {rc:LoopState->Option Code->Loop}
def JC (P:Program) (B:Bs β) (ov:Ov E) (a:Act) (z:Nat->St E->Option β) (m:Nat) (ts:List (Ty N)) (xs:List (Tup E.Γ ts)) (l:Nat) (rc:LoopState->Option Code->Loop):Inv:=fun i F O W=>
 ∃ base w0 F0 r σ j tk k,B base w0 F0 r/\Sim P base w0 F0 ⟨ov.vs,⟨ts,xs.drop i⟩::ov.iv⟩ σ a W j tk F/\σ.mrk=true/\(k<=m/\z k σ=some r)/\W.heap[l]? = some (.loop (rc .ready none)) /\
   Ap base F0 W j tk a l /\ ∀ k,O k->Ap base F0 W j tk a k/\k≠l
def JX (P:Program) (B:Bs β) (ov:Ov E) (a:Act) (K:Cont E β) (l:Nat) (rc:LoopState->Option Code->Loop):Inv:=fun i F O W=>
 ∃ base w0 F0 r σ j tk c,B base w0 F0 r/\Sim P base w0 F0 ov σ a W j tk F/\((c = .ret/\K .ret σ=some r) \/ ∃ id,c = .exit id/\K (.exit id) σ=some r)/\W.heap[l]? = some (.loop (rc .done (some c))) /\
   Ap base F0 W j tk a l /\ ∀ k,O k->Ap base F0 W j tk a k/\k≠l
theorem JC.abides:Abides (JC P B ov a z m ts xs l rc):=by
 rintro i F F' O O' W W' ⟨base,w0,F0,r,σ,j,tk,k,hB,hs,h2,h3,h4,h5,h6⟩ ht hF hA hn hlt hO hO'
 refine ⟨base,w0,F0,r,σ,j,tk,k,hB,hs.abides (fun q hq=>(h6 q hq).1) ht hF hA hn hlt,h2,h3,?_,h5.grow ht.2.2.2.1,fun q hq => ?_⟩
 ·rw [ht.2.2.2.2 l h5.2.2.1 fun ho=>(h6 l ho).2 rfl]; exact h4
 ·rcases hO' q hq with hq | ⟨hq,hq'⟩
  ·exact ⟨(h6 q hq).1.grow ht.2.2.2.1,(h6 q hq).2⟩
  ·exact ⟨hs.ap_new hq hq',fun e=>by have:=h5.2.2.1; omega⟩
theorem JX.abides:Abides (JX P B ov a K l rc):=by
 rintro i F F' O O' W W' ⟨base,w0,F0,r,σ,j,tk,c,hB,hs,h1,h4,h5,h6⟩ ht hF hA hn hlt hO hO'
 refine ⟨base,w0,F0,r,σ,j,tk,c,hB,hs.abides (fun q hq=>(h6 q hq).1) ht hF hA hn hlt,h1,?_,h5.grow ht.2.2.2.1,fun q hq => ?_⟩
 ·rw [ht.2.2.2.2 l h5.2.2.1 fun ho=>(h6 l ho).2 rfl]; exact h4
 ·rcases hO' q hq with hq | ⟨hq,hq'⟩
  ·exact ⟨(h6 q hq).1.grow ht.2.2.2.1,(h6 q hq).2⟩
  ·exact ⟨hs.ap_new hq hq',fun e=>by have:=h5.2.2.1; omega⟩
theorem round_sound (hC:COk P C) {G:Bs β->Prop} (hG:∀ B l x X O1 W1 F1,G B->G (Rnd B l x X O1 W1 F1)) (hGB:G B) {ats bs:Code} {pa:Array Tmp} (hz0:∀ σ,z 0 σ=none) (hz:∀ k σ,z (k+1) σ=roundX C.nt pa.toList (fa k) (fb k) (Kf k) σ (kLoop C p (z k) (kPop (Kf k)))) (hK:∀ k,k<m->LeK (Kf k) K)
  (ha:∀ k,k<m->RunsAt P G ats (fun σ=>fa k σ (kAssign fun σ' => fb k σ' (kBack C.nt 0 true (kLoop C p (z k) (kPop (Kf k)))))) (kAssign fun σ' => fb k σ' (kBack C.nt 0 true (kLoop C p (z k) (kPop (Kf k)))))) (hb:∀ k,k<m->RunsAt P G bs (fun σ=>fb k σ (kBack C.nt 0 true (kLoop C p (z k) (kPop (Kf k))))) (kBack C.nt 0 true (kLoop C p (z k) (kPop (Kf k))))) {D:Nat} {fn:FuncId}
  (hrc:rc=fun st pe => {state:=st,pending:=pe,fn:=fn,tmps:=a.tmps,params:=pa,assign:=ats,body:=bs,defers:=D})
  {i:Nat} {x:Tup E.Γ ts} {F1:Fz} {O1:Nat->Prop} {W1:World} {vs:List Value} (hnt:C.nt=a.tmps.size) (hx:xs[i]? = some x) (hJ:JC P B ov a z m ts xs l rc i F1 O1 W1) (hvs:HReps W1 noSite noTok F1 (argHs ts x) vs) :
  YieldAt (fence none) 0 P l vs.toArray W1 fun e W2 => ∃ F2,(∀ b o,F1 b o->F2 b o)/\Agree F1 W1 W2/\(∀ b o,F2 b o->F1 b o \/ ¬ O1 b)/\(∀ b o,F2 b o->b<W2.heap.size)/\W1.heap.size<=W2.heap.size /\
    (∀ k,O1 k->W2.heap[k]? = W1.heap[k]?)/\((e = .returned (.bool true)/\JC P B ov a z m ts xs l rc (i+1) F2 O1 W2)\/(e = .returned (.bool false)/\JX P B ov a K l rc (i+1) F2 O1 W2)):=by
 obtain ⟨base,w0,F0,r,σ,j,tk,k,hB,hs,h2,⟨hkm,h3⟩,h4,h5,h6⟩:=hJ
 have h1:=hs.itq
 cases k with
 | zero=>rw [hz0] at h3; cases h3
 | succ k=>
 rw [hz] at h3
 have hdrop:xs.drop i=x::xs.drop (i+1):=by
  rw [List.drop_eq_getElem_cons (List.getElem?_eq_some_iff.1 hx).1]
  congr 1
  exact (List.getElem?_eq_some_iff.1 hx).2
 simp only [roundX,h1] at h3
 split at h3
 ·rename_i hbeq
  have hbeq:=Nat.eq_of_beq_eq_true hbeq
  rw [hdrop] at h3
  simp only [lcase] at h3
  have hlen:vs.toArray.size=(rc .ready none).params.size:=by
   rw [hrc]
   have:=hvs.len
   rw [argHs_length] at this
   simpa [<- hbeq] using this.symm
  have hy:=run_yield (P:=P) (args:=vs.toArray) h4 hlen
  have hfold:((rc .ready none).params.zip vs.toArray).foldl (fun tmps (t,a)=>tmps.setIfInBounds t a) (rc .ready none).tmps=((pa.toList.zip vs).foldl (fun t (p:Nat×Value)=>t.setIfInBounds p.1 p.2) a.tmps):=by
   rw [hrc,<- Array.foldl_toList,Array.toList_zip]
  rw [hfold] at hy
  have hyfn:(rc .ready none).fn=fn/\(rc .ready none).assign=ats/\(rc .ready none).body=bs:=by rw [hrc]; exact ⟨rfl,rfl,rfl⟩
  rw [hyfn.1,hyfn.2.1,hyfn.2.2] at hy
  refine ⟨fn,_,ats,bs,hy,roundIn_of_wpIn trivial ?_⟩
  obtain ⟨X,hX⟩:∃ X:Nat->Prop,X=fun k=>O1 k\/mark k ∈ a.defers:=⟨_,rfl⟩
  have hXap:∀ k,X k->base<=k /\ ¬ F0.fn k/\k<W1.heap.size/\(∀ s,j s≠some k)/\(∀ q v,tk q=some v->v.ownBlock≠some k)/\k≠l:=by
   intro q hq
   rw [hX] at hq
   rcases hq with hq | hq
   ·obtain ⟨e1,e2,e3,e4,e5,_⟩:=(h6 q hq).1
    exact ⟨e1,e2,e3,e4,e5,(h6 q hq).2⟩
   ·obtain ⟨e1,e2⟩:=hs.mark_at hq
    refine ⟨e1,fun hf=>(hs.frn q hf).2.2.2.2 hq,(Array.getElem?_eq_some_iff.1 e2).1,fun s hj => ?_,fun t v ht hv => ?_,fun e => ?_⟩
    ·obtain ⟨_,_,⟨blk,e3,e4⟩,_⟩:=hs.live s q hj
     cases blk with
     | gone=>exact e4 rfl
     | cells cs=>obtain ⟨b,us,T,f1,f2,_⟩:=hs.boxes s cs e3; rw [hj] at f1; cases f1; rw [e2] at f2; cases f2
     | iter str q' => obtain ⟨b,us,f1,f2,_⟩:=hs.iters s str q' e3; rw [hj] at f1; cases f1; rw [e2] at f2; cases f2
     | mp kt vt m=>obtain ⟨b,es,cl,f1,f2,_⟩:=hs.maps s kt vt m e3; rw [hj] at f1; cases f1; rw [e2] at f2; cases f2
     | rw s' e' t xs=>have:=(hs.rows s s' e' t xs e3).1.1; rw [hj] at this; cases this
    ·obtain ⟨i',m,ys,f1,f2,f3⟩:=hs.toks t v ht
     rcases f2.2 with ⟨f4,_⟩ | ⟨g,cap,cur,f4,_,f5,_⟩
     ·rw [f4] at hv; simp [Value.ownBlock] at hv
     ·rw [f4] at hv
      simp only [Value.ownBlock,Option.some.injEq] at hv
      subst hv
      rw [e2] at f5; cases f5
    ·subst e; rw [h4] at e2; cases e2
  have hargs:=argHs_free ts x vs hvs j tk
  obtain ⟨e1,e2⟩:=setPs_rep pa.toList (argHs ts x) vs σ.tmps a.tmps (by rw [argHs_length]; exact hbeq) hargs hs.len hs.tmps
  have hs1:=(hs.withIts (⟨ts,xs.drop (i+1)⟩::ov.iv)).push (ts:=setPs σ.tmps pa.toList (argHs ts x)) (vs:=(pa.toList.zip vs).foldl (fun t (p:Nat×Value)=>t.setIfInBounds p.1 p.2) a.tmps) σ.off e1 e2
  have hs2:=hs1.restart (fun k=>F0.fn k\/k=l\/X k) (by
   rintro q (hq | rfl | hq)
   ·obtain ⟨f1,f2,f3,f4,f5⟩:=hs1.frn q hq
    exact ⟨Nat.lt_of_lt_of_le f1 hs1.below.size,f3,f4,f5⟩
   ·exact ⟨h5.2.2.1,h5.2.2.2.1,h5.2.2.2.2.1,fun hm=>by cases hm⟩
   ·obtain ⟨f1,f2,f3,f4,f5,f6⟩:=hXap q hq
    exact ⟨f3,f4,f5,fun hm=>by cases hm⟩)
  have hgd:Gd P (Rnd B l (.loop (rc .ready none)) X O1 W1 F1) ⟨a.tmps.toList++ov.vs,⟨ts,xs.drop (i+1)⟩::ov.iv⟩ ((({σ with its:=⟨ts,xs.drop (i+1)⟩::ov.iv} : St E)).round pa.toList x)
    {tmps:=(pa.toList.zip vs).foldl (fun t (p:Nat×Value)=>t.setIfInBounds p.1 p.2) a.tmps,defers:=[]} W1
    (fa k ((({σ with its:=⟨ts,xs.drop (i+1)⟩::ov.iv} : St E)).round pa.toList x) (kAssign fun σ' => fb k σ' (kBack C.nt 0 true (kLoop C p (z k) (kPop (Kf k)))))):=
   ⟨base,W1,⟨F1,fun k=>F0.fn k\/k=l\/X k⟩,r,⟨w0,F0,hB,hs1.toConv _ (fun _ h => .inl h),fun _ _ h=>h,Agree.refl _ _,fun _ _ h => .inl h,hs.Flt,Nat.le_refl _,.inr (.inl rfl),h5.2.1,h5.1,h4,
    fun q hq=>⟨.inr (.inr hq),(hXap q hq).2.1,(hXap q hq).1,(hXap q hq).2.2.2.2.2,(hXap q hq).2.2.1,rfl⟩,fun _ h=>h,fun q hq=>by rw [hX]; exact .inl hq⟩,⟨j,tk,F1,hs2⟩,h3⟩
  have hwa:=ha k hkm _ (some l) 0 (hG _ _ _ _ _ _ _ hGB) (by
   have:=RoOk.rnd (B:=B) (l:=l) (rc:=rc .ready none) (X:=X) (O1:=O1) (W1:=W1) (F1:=F1)
   exact this) _ _ _ _ hgd
  refine wpIn_mono hwa ?_
  intro e a' w' hp
  cases e with
  | normal=>
    obtain ⟨σ1,base1,w1,G1,r1,⟨w2,G2,hB2,hcv,c1,c2,c3,c4,c5,c6,c7,c8,c9,c10,c11,c12⟩,⟨j1,tk1,F3,hs3⟩,he⟩:=hp
    simp only [kAssign] at he
    have hl3:w'.heap[l]? = some (.loop (rc .ready none)):=by rw [(hs3.frn l c6).2.1]; exact c9
    have hbr:=run_beginRound (P:=P) hl3 (by rw [hrc])
    refine ⟨_,hbr,?_⟩
    have hapl:Ap base1 G2 w' j1 tk1 a' l:=⟨c8,c7,(Array.getElem?_eq_some_iff.1 hl3).1,(hs3.frn l c6).2.2⟩
    obtain ⟨hs4,hA4⟩:=(hs3.conv hcv).putAp (y := .loop {rc .ready none with state := .busy}) hapl hl3 (fun _ _ _ e=>by cases e)
    have hs5:=hs4.restart (fun k=>G2.fn k\/k=l\/X k) (by
     rintro q (hq | rfl | hq)
     ·obtain ⟨f1,f2,f3,f4,f5⟩:=hs4.frn q hq
      exact ⟨Nat.lt_of_lt_of_le f1 hs4.below.size,f3,f4,f5⟩
     ·exact ⟨by simpa using hapl.2.2.1,hapl.2.2.2⟩
     ·obtain ⟨f1,f2,f3,f4,f5,f6⟩:=c10 q hq
      obtain ⟨g1,g2,g3⟩:=hs3.frn q f1
      exact ⟨by simpa using Nat.lt_of_lt_of_le g1 hs3.below.size,g3⟩)
    have hgb:Gd P (Rnd B l (.loop {rc .ready none with state := .busy}) X O1 W1 F1) ⟨a.tmps.toList++ov.vs,⟨ts,xs.drop (i+1)⟩::ov.iv⟩ σ1 a' (w'.putObj l (.loop {rc .ready none with state := .busy})) _:=
     ⟨base1,_,⟨F3,fun k=>G2.fn k\/k=l\/X k⟩,r1,⟨w2,G2,hB2,hs4.toConv _ (fun _ h => .inl h),fun b o hf=>hs3.Fold b o (c1 b o hf),(c2.trans (hs3.agr.mono c1)).trans (hA4.mono fun b o hf=>hs3.Fold b o (c1 b o hf)),
      fun b o hf=>by
       rcases hs3.Fnew b o hf with hf | hf
       ·exact c3 b o hf
       ·exact .inr fun ho=>hf.2 (c10 b (c12 b ho)).1,hs4.Flt,by simpa using Nat.le_trans c5 hs3.below.size,.inr (.inl rfl),c7,c8,World.putObj_heap_same hapl.2.2.1,
      fun q hq=>by
       obtain ⟨f1,f2,f3,f4,f5,f6⟩:=c10 q hq
       exact ⟨.inr (.inr hq),f2,f3,f4,f5,by rw [World.putObj_heap_other f4,(hs3.frn q f1).2.1]; exact f6⟩,fun _ h=>h,c12⟩,⟨j1,tk1,F3,hs5⟩,he⟩
    have hwb:=hb k hkm _ (some l) 0 (hG _ _ _ _ _ _ _ hGB) (by
     have:=RoOk.rnd (B:=B) (l:=l) (rc := {rc .ready none with state := .busy}) (X:=X) (O1:=O1) (W1:=W1) (F1:=F1)
     exact this) _ _ _ _ hgb
    clear hs5 hs4 hA4 hapl hbr hl3 he hs3 c1 c2 c3 c4 c5 c6 c7 c8 c9 c10 c11 c12 hcv hB2 hgb hwa hgd hs2 hs1
    refine wpIn_mono hwb ?_
    have fin:∀ (e:Out) (σ2:St E) (a3:Act) (w3:World) (jump:Option Code),Gd P (Rnd B l (.loop {rc .ready none with state := .busy}) X O1 W1 F1) ⟨a.tmps.toList++ov.vs,⟨ts,xs.drop (i+1)⟩::ov.iv⟩ σ2 a3 w3 (kBack C.nt 0 true (kLoop C p (z k) (kPop (Kf k))) e σ2) ->
      ∃ W2,(Instr.endRound l jump).run P w3 = .ok (.bool jump.isNone) W2/\W2.heap[l]? = some (.loop (rc (if jump.isNone then .ready else .done) jump)) /\ ∃ F2,(∀ b o,F1 b o->F2 b o)/\Agree F1 W1 W2/\(∀ b o,F2 b o->F1 b o \/ ¬ O1 b)/\(∀ b o,F2 b o->b<W2.heap.size)/\W1.heap.size<=W2.heap.size /\
        (∀ k,O1 k->W2.heap[k]? = W1.heap[k]?) /\ ∃ base w0 F0 r j tk,B base w0 F0 r/\Sim P base w0 F0 ⟨ov.vs,⟨ts,xs.drop (i+1)⟩::ov.iv⟩ (σ2.back C.nt 0 true) a W2 j tk F2/\Ap base F0 W2 j tk a l/\(∀ k,O1 k->Ap base F0 W2 j tk a k/\k≠l) /\
        (match e with
         | .normal=>cut C p (σ2.back C.nt 0 true) (z k)
         | .exit id=>Kf k (.exit id) {σ2.back C.nt 0 true with its:=(σ2.back C.nt 0 true).its.tail}
         | .ret=>Kf k .ret {σ2.back C.nt 0 true with its:=(σ2.back C.nt 0 true).its.tail})=some r:=by
     rintro e σ2 ⟨t3,d3⟩ w3 jump ⟨base1,w1,G1,r1,⟨w2,G2,hB2,hcv,c1,c2,c3,c4,c5,c6,c7,c8,c9,c10,c11,c12⟩,⟨j1,tk1,F3,hs3⟩,he⟩
     have hl3:w3.heap[l]? = some (.loop {rc .ready none with state := .busy}):=by rw [(hs3.frn l c6).2.1]; exact c9
     have hend:=run_endRound (P:=P) jump hl3
     have hrc3:({({rc .ready none with state := .busy} : Loop) with state:=if jump.isNone then .ready else .done,pending:=jump} : Loop)=rc (if jump.isNone then .ready else .done) jump:=by rw [hrc]
     rw [hrc3] at hend
     have hlt3:=(Array.getElem?_eq_some_iff.1 hl3).1
     have hs4:=hs3.conv hcv
     have hmarks:∀ D,mark D ∈ a.defers->w3.heap[D]? = W1.heap[D]? /\ ¬ G2.fn D/\base1<=D:=by
      intro D hD
      obtain ⟨f1,f2,f3,f4,f5,f6⟩:=c10 D (by rw [hX]; exact .inr hD)
      exact ⟨by rw [(hs3.frn D f1).2.1]; exact f6,f2,f3⟩
     have hs5:=hs4.pop (a:=a) (ov:=ov) (vs:=t3) (ds:=d3) (n:=C.nt) 0 true hnt (by
      obtain ⟨Ds,g1,g2,g3⟩:=hs.defers
      refine ⟨Ds,g1,g2,fun D hD => ?_⟩
      have:=hmarks D (by rw [g2]; exact List.mem_map.2 ⟨D,hD,rfl⟩)
      exact ⟨this.2.2,by rw [this.1]; exact (g3 D hD).2⟩) (fun e=>by cases e) (fun q hq hm=>(hmarks q hm).2.1 hq)
     have hapl:Ap base1 G2 w3 j1 tk1 a l:=⟨c8,c7,hlt3,(hs3.frn l c6).2.2.1,(hs3.frn l c6).2.2.2.1,h5.2.2.2.2.2⟩
     obtain ⟨hs6,hA6⟩:=hs5.putAp (y := .loop (rc (if jump.isNone then .ready else .done) jump)) hapl hl3 (fun _ _ _ e=>by cases e)
     have hF13:∀ b o,F1 b o->F3 b o:=fun b o hf=>hs3.Fold b o (c1 b o hf)
     refine ⟨_,hend,World.putObj_heap_same hlt3,F3,hF13,(c2.trans (hs3.agr.mono c1)).trans (hA6.mono hF13),fun b o hf => ?_,hs6.Flt,by simpa using Nat.le_trans c5 hs3.below.size,fun q hq => ?_,base1,w2,G2,r1,j1,tk1,hB2,hs6,hapl.grow (by simp),fun q hq => ?_,?_⟩
     ·rcases hs3.Fnew b o hf with hf | hf
      ·exact c3 b o hf
      ·exact .inr fun ho=>hf.2 (c10 b (c12 b ho)).1
     ·obtain ⟨f1,f2,f3,f4,f5,f6⟩:=c10 q (c12 q hq)
      rw [World.putObj_heap_other f4,(hs3.frn q f1).2.1]; exact f6
     ·obtain ⟨f1,f2,f3,f4,f5,f6⟩:=c10 q (c12 q hq)
      obtain ⟨g1,g2,g3,g4,g5⟩:=hs3.frn q f1
      exact ⟨⟨f3,f2,by simpa using Nat.lt_of_lt_of_le g1 hs3.below.size,g3,g4,(h6 q hq).1.2.2.2.2.2⟩,f4⟩
     ·cases e <;> exact he
    intro e a3 w3 hp
    cases e with
    | normal=>
      obtain ⟨σ2,hgd⟩:=hp
      obtain ⟨W2,g1,g2,F2,g3,g4,g5,g6,g7,g8,base',w0',F0',r',j',tk',g9,g10,g11,g12,g13⟩:=fin .normal σ2 a3 w3 none hgd
      refine ⟨_,_,g1,F2,g3,g4,g5,g6,g7,g8,.inl ⟨rfl,?_⟩⟩
      obtain ⟨σ3,j3,tk3,f1,f2,f3,f4,f5,f6⟩:=cut_sim hC g10 g13
      have hap:∀ q,Ap base' F0' W2 j' tk' a q->Ap base' F0' W2 j3 tk3 a q:=fun q ⟨a1,a2,a3,a4,a5,a6⟩=>⟨a1,a2,a3,fun s hj=>a4 s (f5 s q hj),fun t v ht hv=>by
       obtain ⟨t',ht'⟩:=f6 t v q ht hv
       exact a5 t' v ht' hv,a6⟩
      exact ⟨base',w0',F0',r',σ3,j3,tk3,k,g9,f3,f2 rfl,⟨Nat.le_of_lt hkm,f4⟩,g2,hap l g11,fun q hq=>⟨hap q (g12 q hq).1,(g12 q hq).2⟩⟩
    | ret=>
      obtain ⟨σ2,hgd⟩:=hp
      obtain ⟨W2,g1,g2,F2,g3,g4,g5,g6,g7,g8,base',w0',F0',r',j',tk',g9,g10,g11,g12,g13⟩:=fin .ret σ2 a3 w3 (some .ret) hgd
      exact ⟨_,_,g1,F2,g3,g4,g5,g6,g7,g8,.inr ⟨rfl,base',w0',F0',r',_,j',tk',.ret,g9,g10.popIts,.inl ⟨rfl,hK k hkm _ _ _ g13⟩,g2,g11,g12⟩⟩
    | exit id=>
      obtain ⟨σ2,hgd⟩:=hp
      obtain ⟨W2,g1,g2,F2,g3,g4,g5,g6,g7,g8,base',w0',F0',r',j',tk',g9,g10,g11,g12,g13⟩:=fin (.exit id) σ2 a3 w3 (some (.exit id)) hgd
      exact ⟨_,_,g1,F2,g3,g4,g5,g6,g7,g8,.inr ⟨rfl,base',w0',F0',r',_,j',tk',.exit id,g9,g10.popIts,.inr ⟨id,rfl,hK k hkm _ _ _ g13⟩,g2,g11,g12⟩⟩
    | _=>exact hp.elim
  | exit id=>obtain ⟨σ1,base1,w1,G1,r1,_,_,he⟩:=hp; cases he
  | ret=>obtain ⟨σ1,base1,w1,G1,r1,_,_,he⟩:=hp; cases he
  | _=>exact hp.elim
 ·cases h3
theorem SReps_nil {vs:List Value} (h:SReps (E:=E) w j F [] vs):vs=[]:=by cases vs with
 | nil=>rfl
 | cons _ _=>exact h.elim
theorem calls_of_in {n:Nat} {f:FuncId} {args:Array Value} {w:World} {R:Ending->World->Prop} (h:CallsIn (fence none) n P f args w R) (ro:Option Nat) (m:Nat):CallsIn (fence ro) m P f args w R:=by
 rw [fence_none] at h
 exact calls_fence (callsIn_wide.1 h)
theorem range_sound (hC:COk P C) (hIt:ItOk P C) {G:Bs β->Prop} (hG:∀ B l x X O1 W1 F1,G B->G (Rnd B l x X O1 W1 F1)) (hGB:G B) (hro:RoOk B ro) {ats bs:Code} {pa:Array Tmp} {g:Operand} (hz0:∀ σ,z 0 σ=none) (hz:∀ k σ,z (k+1) σ=roundX C.nt pa.toList (fa k) (fb k) (Kf k) σ (kLoop C p (z k) (kPop (Kf k)))) (hK:∀ k,k<m->LeK (Kf k) K)
  (ha:∀ k,k<m->RunsAt P G ats (fun σ=>fa k σ (kAssign fun σ' => fb k σ' (kBack C.nt 0 true (kLoop C p (z k) (kPop (Kf k)))))) (kAssign fun σ' => fb k σ' (kBack C.nt 0 true (kLoop C p (z k) (kPop (Kf k)))))) (hb:∀ k,k<m->RunsAt P G bs (fun σ=>fb k σ (kBack C.nt 0 true (kLoop C p (z k) (kPop (Kf k))))) (kBack C.nt 0 true (kLoop C p (z k) (kPop (Kf k)))))
  (h:Gd P B ov σ a w (enterX C σ g fun σ1=>cut C p σ1 (z m))) :
  (Code.rangeFunc g pa ats bs).wpIn (fence ro) n P (Post P B ov K) a w:=by
 obtain ⟨base,w0,F0,r,hB,⟨j,tk,F,hs⟩,he⟩:=h
 unfold enterX at he
 split at he
 ·rename_i f scs hg
  split at he
  ·rename_i I scs' hI hfz hnt
   have hnt:=Nat.eq_of_beq_eq_true hnt
   split at he
   ·rename_i ls hls
    split at he
    ·rename_i y hy
     cases hxs:I.fn y with
     | none=>rw [hxs] at he; cases he
     | some xs=>
     rw [hxs] at he
     dsimp only [Option.bind_some] at he
     have hgr:=hs.ev g
     rw [hg] at hgr
     obtain ⟨us,lb,hv,hus,hlb⟩:=hgr
     have hus:=SReps_nil hus
     subst hus
     obtain ⟨hcall,hseq⟩:=hIt f I hI
     have hsf:=hs.freeze (scs.flatMap Sc.sites)
     have hcaps:=(caps_sound hls (SReps.freeze hs hlb hfz)).conv (packTup_get (w:=w) (F:=FF σ j F (scs.flatMap Sc.sites)) hy).1 (packTup_get (w:=w) (F:=FF σ j F (scs.flatMap Sc.sites)) hy).2
     have hseq:=hseq y xs hxs w _ lb hsf.Flt hsf.tab hcaps
     refine wpIn_rangeFunc ?_
     intro fn hfn
     obtain ⟨l,ms,W1,D,hel,hbw,hlw,hlt,hrec,hmk,hms⟩:=enterLoop_run hs hB hro fn pa ats bs
     obtain ⟨rc,hrc⟩:∃ rc:LoopState->Option Code->Loop,rc=fun st pe => {state:=st,pending:=pe,fn:=fn,tmps:=a.tmps,params:=pa,assign:=ats,body:=bs,defers:=D} := ⟨_,rfl⟩
     have hl1:W1.heap[l]? = some (.loop (rc .ready none)):=by rw [hrc]; exact hrec
     refine ⟨l,ms,W1,{target := .fn (.func f) lb.toArray,args := #[.func (.yield l) #[] #[]]},W1,f,#[.func (.yield l) #[] #[]]++lb.toArray,W1,hel,?_,fun f' hf' => trivial,?_,?_,?_⟩
     ·simp only [resolve,hv]
      simp [go_sem]
     ·have hcf:(callFunc f (#[.func (.yield l) #[] #[]]++lb.toArray)).run P W1 = .ok (.enter f (#[.func (.yield l) #[] #[]]++lb.toArray)) W1:=by
       unfold callable at hcall
       split at hcall
       ·rename_i fn' hfn'
        simp only [Bool.and_eq_true,Bool.not_eq_true'] at hcall
        have hb:fn'.body.isNone=false:=by
         cases hb:fn'.body with
         | none=>rw [hb] at hcall; exact absurd hcall.2 (by simp)
         | some _=>rfl
        have hne : ¬ fn'.name = "runtime.NumGoroutine":=by simpa using hcall.1
        have hbn : ¬ fn'.body=none:=by intro e; rw [e] at hb; cases hb
        simp only [callFunc,program,Sem.run_bind]
        simp [Sem.run,hfn',hne,hbn]
       ·cases hcall
      simpa [invoke] using hcf
     ·intro hd; simp [fence,Fence.wide] at hd
     ·refine calls_of_in (n:=0) ?_ ro _
      have hs1:Sim P base w0 F0 ⟨ov.vs,⟨I.ts,xs⟩::ov.iv⟩ {σ.freeze (scs.flatMap Sc.sites) with its:=⟨I.ts,xs⟩::σ.its,mrk:=true} {a with defers:=ms++a.defers} W1 (jF j (scs.flatMap Sc.sites)) tk (FF σ j F (scs.flatMap Sc.sites)):=by
       have h1:=((hsf.grow hbw).withMrk).withIts (⟨I.ts,xs⟩::ov.iv)
       exact {h1 with
        itq:=by show _::σ.its=_; rw [hs.itq]
        defers:=hmk
        mks:=fun e=>by cases e
        frn:=fun q hq=>by
         obtain ⟨f1,f2,f3,f4,f5⟩:=h1.frn q hq
         refine ⟨f1,f2,f3,f4,fun hm => ?_⟩
         rcases List.mem_append.1 hm with hm | hm
         ·have:=(hms q hm).1; have:=hs.below.size; omega
         ·exact f5 hm}
      have hap1:Ap base F0 W1 (jF j (scs.flatMap Sc.sites)) tk {a with defers:=ms++a.defers} l:=by
       refine ⟨Nat.le_trans hs.size hlw,fun hf=>by have:=(hs.frn l hf).1; have:=hs.below.size; omega,hlt,fun s hj => ?_,fun q v hq hg => ?_,fun hm => ?_⟩
       ·have:=(hsf.live s l hj).2.2.2; omega
       ·have:=(hsf.tok_at hq hg).2; omega
       ·rcases List.mem_append.1 hm with hm | hm
        ·have:=(hms l hm).2; omega
        ·have:=(Array.getElem?_eq_some_iff.1 (hs.mark_at hm).2).1; omega
      obtain ⟨σ3,j3,tk3,f1,f2,f3,f4,f5,f6⟩:=cut_sim hC hs1 he
      have hap:Ap base F0 W1 j3 tk3 {a with defers:=ms++a.defers} l:=⟨hap1.1,hap1.2.1,hap1.2.2.1,fun s hj=>hap1.2.2.2.1 s (f5 s l hj),fun t v ht hv=>by
       obtain ⟨t',ht'⟩:=f6 t v l ht hv
       exact hap1.2.2.2.2.1 t' v ht' hv,hap1.2.2.2.2.2⟩
      have hA1:Agree (FF σ j F (scs.flatMap Sc.sites)) w W1:=agree_grown (row:=none) ⟨hbw.os,hbw.tape,hbw.output,hbw.size,fun k hk _=>hbw.block k hk⟩ fun b o hf=>⟨hsf.Flt b o hf,by simp⟩
      refine (hseq l (JC P B ov {a with defers:=ms++a.defers} z m I.ts xs l rc) (JX P B ov {a with defers:=ms++a.defers} K l rc) W1 _ (fun _ _ hf=>hf) hA1 (fun b o hf=>Nat.lt_of_lt_of_le (hsf.Flt b o hf) hbw.size) JC.abides JX.abides
       (fun i x F1 O1 W vs hx _ hJ hvs=>round_sound (a := {a with defers:=ms++a.defers}) hC hG hGB hz0 hz hK ha hb hrc (hnt.symm.trans hs.len.symm) hx hJ hvs) ?_).mono ?_
      ·exact ⟨base,w0,F0,r,σ3,j3,tk3,m,hB,f3,f2 rfl,⟨Nat.le_refl _,f4⟩,hl1,hap,fun q hq=>hq.elim⟩
      ·rintro e W' ⟨⟨v,rfl⟩,F',O',hJ | ⟨i,hi,hJ⟩⟩
       ·obtain ⟨base',w0',F0',r',σ',j',tk',k,g1,g2,g4,⟨hkm,g5⟩,g6,g7,g8⟩:=hJ
        have g3:=g2.itq
        have hend:=run_endLoop (P:=P) g6 (by rw [hrc]; simp)
        refine ⟨none,_,by rw [hend,hrc],?_⟩
        cases k with
        | zero=>rw [hz0] at g5; cases g5
        | succ k=>
        rw [hz] at g5
        simp only [roundX,g3] at g5
        split at g5
        ·rw [List.drop_eq_nil_of_le (Nat.le_refl _)] at g5
         simp only [lcase] at g5
         exact ⟨_,base',w0',F0',r',g1,⟨j',tk',F',((g2.putAp g7 g6 (fun _ _ _ e=>by cases e)).1).withIts ov.iv⟩,hK k hkm _ _ _ g5⟩
        ·cases g5
       ·obtain ⟨base',w0',F0',r',σ',j',tk',c,g1,g2,g3,g4,g5,g6⟩:=hJ
        have hend:=run_endLoop (P:=P) g4 (by rw [hrc]; simp)
        have hpd:(rc .done (some c)).pending=some c:=by rw [hrc]
        rw [hpd] at hend
        refine ⟨some c,_,hend,?_⟩
        rcases g3 with ⟨rfl,g3⟩ | ⟨id,rfl,g3⟩
        ·exact wpIn_ret ⟨σ',base',w0',F0',r',g1,⟨j',tk',F',(g2.putAp g5 g4 (fun _ _ _ e=>by cases e)).1⟩,g3⟩
        ·exact wpIn_exit ⟨σ',base',w0',F0',r',g1,⟨j',tk',F',(g2.putAp g5 g4 (fun _ _ _ e=>by cases e)).1⟩,g3⟩
    ·cases he
   ·cases he
  ·cases he
 ·cases he
end
end
end Go.Ai

namespace Go.Ai
open Go.RowKit
noncomputable section
variable {N:Type} [DecidableEq N] {E:Env N} {P:Program}
variable {base n:Nat} {ov:Ov E} {w0 w w' : World} {F0:Fx} {F:Fz} {σ σ' : St E} {a:Act} {ro:Option Nat}
variable {β:Type} {r:β} {B:Bs β} {X:Ext E β}
theorem wpIn_loop_ghost {Fe:Fence} {c:Code} {Q:Exit->Act->World->Prop} (I:Nat->Act->World->Prop) (k0:Nat) (h₀:I k0 a w)
  (round:∀ k a w,I k a w->c.wpIn Fe n P (Exit.then (fun a' w' => ∃ k',k' < k/\I k' a' w') Q) a w):(Code.loop c).wpIn Fe n P Q a w:=by
 intro b k cs hro hb hr
 have key:∀ m a w,I m a w ->
   ∃ e a' w',Q e a' w' /\ ArrivesIn (Machine.fenced P Fe) P (lone (b.atR a (.code c :: .inLoop c::k)) cs w) b k cs e a' w' := by
  intro m
  induction m using Nat.strongRecOn with
  | _ m ih=>
    intro a w hI
    obtain ⟨e,a₁,w₁,hq,harr⟩:=round m a w hI b (.inLoop c::k) cs hro hb hr
    cases e with
    | normal=>
      obtain ⟨k',hlt,hI₁⟩:=hq
      obtain ⟨e₂,a₂,w₂,hq₂,harr₂⟩:=ih k' hlt a₁ w₁ hI₁
      exact ⟨e₂,a₂,w₂,hq₂,.of_steps (StepsIn.trans harr (.one (fenced_calm hb hr rfl) stepR_inLoop)) harr₂⟩
    | exit id=>exact ⟨_,a₁,w₁,hq,.pass (x := .inLoop c) rfl (fun _ _ => .inl (by simp)) harr⟩
    | goto l=>exact ⟨_,a₁,w₁,hq,.pass (x := .inLoop c) rfl (fun _ _ => .inl (by simp)) harr⟩
    | ret=>exact ⟨_,a₁,w₁,hq,.pass (x := .inLoop c) rfl (fun _ _ => .inl (by simp)) harr⟩
    | panic ch=>exact ⟨_,a₁,w₁,hq,.pass (x := .inLoop c) rfl (fun _ _ => .inl (by simp)) harr⟩
    | outgrown=>exact ⟨_,a₁,w₁,hq,.pass (x := .inLoop c) rfl (fun _ _ => .inl (by simp)) harr⟩
 obtain ⟨e,a',w',hq,harr⟩:=key k0 a w h₀
 exact ⟨e,a',w',hq,.of_steps (.one (fenced_calm hb hr rfl) stepR_loop) harr⟩
theorem eval_bool {t:Bool} {c:Operand} {x:Option β} (h:Gd P B ov σ a w x) (hc:σ.ev c = .one (.tv (.bool t))):a.eval c = .bool t:=by
 obtain ⟨base,w0,F0,r,hB,⟨j,tk,F,hs⟩,he⟩:=h
 have:=hs.ev c
 rw [hc] at this
 exact rep_bool_inv this
variable {j:Sites} {tk:Toks}
theorem start_sim {hs:List (Hold E)} {args:List Value} {m q:Nat} (hF:∀ b o,F b o->b<w.heap.size) (hT:E.tab w F) (h:HReps w noSite noTok F hs args) :
  Sim P w.heap.size w ⟨F,fun _=>False⟩ ⟨[],[]⟩ (start hs m q) {tmps:=args.toArray++Array.replicate (m - args.toArray.size) undef,defers:=[]} w noSite noTok F where
 tab:=hT
 below:=Below.refl _ _
 size:=Nat.le_refl _
 Fold:=fun _ _ h=>h
 Fnew:=fun _ _ h => .inl h
 Flt:=hF
 agr:=Agree.refl _ _
 frn:=fun k hk=>hk.elim
 outs:=trivial
 itq:=rfl
 defers:=Marks.nil _ _
 mks:=fun _=>rfl
 len:=by simp [start,h.len]
 tmps:=fun i x v hx hv=>by
  simp only [start] at hx
  by_cases hi:i<hs.length
  ·rw [List.getElem?_append_left hi] at hx
   have hi' : i<args.length:=by rw [<- h.len]; exact hi
   have hv' : args[i]? = some v:=by
    rw [Array.getElem?_append_left (by simpa using hi')] at hv
    simpa using hv
   exact h.get i x v hx hv'
  ·rw [List.getElem?_append_right (by omega),List.getElem?_replicate] at hx
   split at hx
   ·cases hx; trivial
   ·cases hx
 boxes:=fun s cs hs' => by
  simp only [start,List.getElem?_replicate] at hs'
  split at hs' <;> cases hs'
 iters:=fun s str q hs' => by
  simp only [start,List.getElem?_replicate] at hs'
  split at hs' <;> cases hs'
 maps:=fun s kt vt m hs' => by
  simp only [start,List.getElem?_replicate] at hs'
  split at hs' <;> cases hs'
 rows:=fun m s e t xs hs' => by
  simp only [start,List.getElem?_replicate] at hs'
  split at hs' <;> cases hs'
 live:=fun s b hb=>by cases hb
 inj:=fun s s' b hb=>by cases hb
 toks:=fun k v hk=>by cases hk
 apart:=fun k k' v v' g hk=>by cases hk
theorem resH_sound {C:Ctx E} (hC:COk P C) (h:Sim P base w0 F0 ov σ a w j tk F):∀ (res:List ResultVar) (hs:List (Hold E)),resH C σ res=some hs ->
  ∃ vs:List Value,(res.mapM (fun | ResultVar.tmp t=>pure (a.tmps.getD t undef) | ResultVar.cell x t=>(do loadVar t (<- asAddr (a.tmps.getD x undef)):Sem Value))).run P w = .ok vs w/\HReps w j tk F hs vs:=by
 intro res
 induction res with
 | nil=>intro hs he; simp [resH] at he; subst he; exact ⟨[],by simp,trivial⟩
 | cons x res ih=>
   intro hs he
   cases x with
   | tmp t=>
     simp only [resH] at he
     split at he
     ·rename_i hs' hr
      cases he
      obtain ⟨vs,h1,h2⟩:=ih hs' hr
      exact ⟨a.tmps.getD t undef::vs,by rw [List.mapM_cons]; simp only [Sem.run_bind,Sem.run_pure,Result.andThen_ok,h1],h.get t,h2⟩
     ·cases he
   | cell x t=>
     simp only [resH] at he
     split at he
     ·rename_i hs' ti s o' hr hti hx
      obtain ⟨i,td,hT,_⟩:=tok_of hC hti
      split at he
      ·rename_i cs hcs
       cases hl:loadC (β:=Hold E) ti cs o' some with
       | none=>rw [hl] at he; cases he
       | some z=>
         rw [hl] at he
         cases he
         obtain ⟨vs,h1,h2⟩:=ih hs' hr
         have hg:=h.get x
         rw [hx] at hg
         obtain ⟨b,hb1,hb2⟩:=hg
         obtain ⟨b',us,T,e1,e2,e3⟩:=h.boxes s cs hcs
         rw [hb1] at e1
         cases e1
         obtain ⟨z',v,h5,h6,h7⟩:=loadC_sound (b:=b) (oo:=0) hT hl e3 (fun m u hu=>by rw [cell_of_row w b _ us T (0,0) e2]; simpa using hu)
         cases h7
         rw [Nat.zero_add] at h5
         refine ⟨v::vs,?_,h6,h2⟩
         have ha:(asAddr (a.tmps.getD x undef)).run P w = .ok ⟨b,o',none⟩ w:=by rw [hb2]; rfl
         rw [List.mapM_cons]
         simp only [Sem.run_bind,ha,Sem.run_pure,Result.andThen_ok,h5,h1]
      ·cases he
     ·cases he
def tkR (d:Nat) (es:List (Option Nat)) (vs:List Value):Toks:=fun q=>
 if q.1=d then (match es[q.2.1]? with
  | some (some e)=>if e=q.2.2 then vs[q.2.1]? else none
  | _=>none) else none
theorem VReps.len:∀ {xs:List (Bool×List (Cell E))} {vs:List Value},VReps w j tk F xs vs->xs.length=vs.length
 | [],[],_=>rfl
 | _::_,_::_,h=>by simp [VReps.len h.2]
 | [],_::_,h=>h.elim
 | _::_,[],h=>h.elim
theorem packRes_sound {d:Nat} {tr:Toks} : ∀ (ts:List (Ty N)) (es:List (Option Nat)) (hs:List (Hold E)) (y:Tup E.Γ ts) (vs:List Value) (m:Nat),packRes ts es hs=some y->HReps w j tk F hs vs ->
  (∀ (q e:Nat) (v:Value),es[q]? = some (some e)->vs[q]? = some v->tr (d,m+q,e)=some v)->VReps w noSite tr F (resVs d m ts es y) vs:=by
 have one:∀ (t:Ty N) (e:Option Nat) (x:Hold E) (y:den E.Γ t) (v:Value) (m:Nat),packR t e x=some y->HRep w j tk F x v->(∀ e',e=some e' -> tr (d,m,e')=some v)->VRep w noSite tr F (resV d m e t y) v:=by
  intro t e x y v m hp hr ht
  cases e with
  | none=>
    have h1:=(hr.packH (t:=t) hp).free noSite tr
    unfold resV
    dsimp only
    unfold valH at h1
    cases htt:t.one with
    | true=>rw [htt] at h1; exact ⟨_,rfl,h1⟩
    | false=>rw [htt] at h1; exact h1
  | some e=>
    unfold resV
    dsimp only
    refine ⟨_,rfl,?_⟩
    have htv:=ht e rfl
    unfold packR packX at hp
    dsimp only at hp
    split at hp
    ·rename_i k t' xs
     split at hp
     ·have h1:Rep w F (.sl t' xs) v:=hr.1
      have h2:=Rep.pack hp h1
      cases t with
      | sl t=>exact ⟨h2,htv⟩
      | _=>trivial
     ·cases hp
    ·have h2:=Rep.pack hp hr
     cases t with
     | sl t=>exact ⟨h2,htv⟩
     | _=>trivial
    ·cases hp
 intro ts
 induction ts with
 | nil=>
   intro es hs y vs m hp hr _
   cases hs with
   | nil=>cases vs <;> exact hr
   | cons _ _=>simp [packRes] at hp
 | cons t ts ih=>
   intro es hs y vs m hp hr ht
   cases ts with
   | nil=>
     match es,hs,vs,hp,hr with
     | [e],[x],[v],hp,hr=>exact ⟨one t e x y v m (by simpa [packRes] using hp) hr.1 (fun e' he=>by have:=ht 0 e' v (by simp [he]) rfl; simpa using this),trivial⟩
     | [e],[x],[],hp,hr=>exact hr.elim
     | [e],[x],_::_::_,hp,hr=>exact hr.2.elim
     | [],_,_,hp,_=>simp [packRes] at hp
     | _::_::_,_,_,hp,_=>simp [packRes] at hp
     | [_],[],_,hp,_=>simp [packRes] at hp
     | [_],_::_::_,_,hp,_=>simp [packRes] at hp
   | cons u ts=>
     match es,hs,vs,hp,hr with
     | e::es,x::hs,v::vs,hp,hr=>
       simp only [packRes] at hp
       split at hp
       ·rename_i y1 y2 h1 h2
        cases hp
        exact ⟨one t e x y1 v m h1 hr.1 (fun e' he=>by have:=ht 0 e' v (by simp [he]) rfl; simpa using this),
         ih es hs y2 vs (m+1) h2 hr.2 (fun q e' v' h3 h4=>by have:=ht (q+1) e' v' (by simpa using h3) (by simpa using h4); rw [show m+1+q=m+(q+1) by omega]; exact this)⟩
       ·cases hp
     | [],_,_,hp,_=>simp [packRes] at hp
     | _::_,[],_,hp,_=>simp [packRes] at hp
     | _::_,_::_,[],hp,hr=>exact hr.elim
theorem packRes_ex:∀ (ts:List (Ty N)) (es:List (Option Nat)) (hs:List (Hold E)) (y:Tup E.Γ ts) (vs:List Value),packRes ts es hs=some y->HReps w j tk F hs vs ->
  ∀ (q e:Nat) (v:Value),es[q]? = some (some e)->vs[q]? = some v->v = .slice none 0 0 \/ ∃ k,k.2.2=e/\tk k=some v:=by
 have one:∀ (t:Ty N) (e:Nat) (x:Hold E) (y:den E.Γ t) (v:Value),packR t (some e) x=some y->HRep w j tk F x v->v = .slice none 0 0 \/ ∃ k,k.2.2=e/\tk k=some v:=by
  intro t e x y v hp hr
  unfold packR packX at hp
  dsimp only at hp
  split at hp
  ·rename_i k t' xs
   split at hp
   ·rename_i hk
    exact .inr ⟨k,Nat.eq_of_beq_eq_true hk,hr.2⟩
   ·cases hp
  ·left
   have hr' : Rep (E:=E) w F (.val (.slice none 0 0)) v:=hr
   cases hr'; rfl
  ·cases hp
 intro ts
 induction ts with
 | nil=>
   intro es hs y vs hp hr q e v h1 h2
   cases hs with
   | nil=>cases vs with
     | nil=>simp at h2
     | cons _ _=>exact hr.elim
   | cons _ _=>simp [packRes] at hp
 | cons t ts ih=>
   intro es hs y vs hp hr q e v h1 h2
   cases ts with
   | nil=>
     match es,hs,vs,hp,hr with
     | [e0],[x],[v0],hp,hr=>
       cases q with
       | zero=>simp at h1 h2; subst h1 h2; exact one t e x y v0 (by simpa [packRes] using hp) hr.1
       | succ q=>simp at h1
     | [e],[x],[],hp,hr=>exact hr.elim
     | [e],[x],_::_::_,hp,hr=>exact hr.2.elim
     | [],_,_,hp,_=>simp [packRes] at hp
     | _::_::_,_,_,hp,_=>simp [packRes] at hp
     | [_],[],_,hp,_=>simp [packRes] at hp
     | [_],_::_::_,_,hp,_=>simp [packRes] at hp
   | cons u ts=>
     match es,hs,vs,hp,hr with
     | e0::es,x::hs,v0::vs,hp,hr=>
       simp only [packRes] at hp
       split at hp
       ·rename_i y1 y2 h3 h4
        cases q with
        | zero=>simp at h1 h2; subst h1 h2; exact one t e x y1 v0 h3 hr.1
        | succ q=>exact ih es hs y2 vs h4 hr.2 q e v (by simpa using h1) (by simpa using h2)
       ·cases hp
     | [],_,_,hp,_=>simp [packRes] at hp
     | _::_,[],_,hp,_=>simp [packRes] at hp
     | _::_,_::_,[],hp,hr=>exact hr.elim
def exOk (C:Ctx E) (es:List (Option Nat)):Bool:=
 (match es with
  | []=>true
  | _::r=>r.all Option.isNone||(es.head?.join.isNone&&(match r with
    | []=>true
    | _::r' => r'.all Option.isNone))) &&
 es.all fun o=>match o with
  | some e=>(C.ti e).isSome
  | none=>true
theorem exOk_one {C:Ctx E} {es:List (Option Nat)} (h:exOk C es=true) {q q' e e' : Nat} (h1:es[q]? = some (some e)) (h2:es[q']? = some (some e')):q=q' := by
 unfold exOk at h
 simp only [Bool.and_eq_true] at h
 obtain ⟨h,_⟩:=h
 have none_at:∀ (r:List (Option Nat)) (q e:Nat),r.all Option.isNone=true->r[q]? = some (some e)->False:=by
  intro r q e hr hq
  have:=List.all_eq_true.1 hr _ (List.mem_of_getElem? hq)
  simp at this
 cases es with
 | nil=>simp at h1
 | cons o r=>
   simp only [List.head?_cons,Option.join_some,Bool.or_eq_true,Bool.and_eq_true] at h
   rcases h with h | ⟨ho,h⟩
   ·cases q with
    | zero=>cases q' with
      | zero=>rfl
      | succ q' => exact (none_at r q' e' h (by simpa using h2)).elim
    | succ q=>exact (none_at r q e h (by simpa using h1)).elim
   ·cases q with
    | zero=>simp at h1; subst h1; simp at ho
    | succ q=>cases q' with
      | zero=>simp at h2; subst h2; simp at ho
      | succ q'=>
        cases r with
        | nil=>simp at h1
        | cons o' r'=>
          cases q with
          | zero=>cases q' with
            | zero=>rfl
            | succ q' => exact (none_at r' q' e' h (by simpa using h2)).elim
          | succ q=>exact (none_at r' q e h (by simpa using h1)).elim
theorem resVs_len {d:Nat} : ∀ (m:Nat) (ts:List (Ty N)) (es:List (Option Nat)) (y:Tup E.Γ ts),(resVs d m ts es y).length=ts.length
 | _,[],_,_=>rfl
 | _,[t],_,_=>rfl
 | m,t::u::ts,es,(x,y)=>by simp [resVs,resVs_len (m+1) (u::ts) es.tail y]
theorem leaves_marks {Fe:Fence} {m:Nat} {fn:Func} {R:Ending->World->Prop} : ∀ (ds:List Deferred) (a:Act) (w:World),a.defers=ds->Sim P base w0 F0 ov σ a w j tk F ->
  (∀ w',Sim P base w0 F0 ov σ {a with defers:=[]} w' j tk F -> ∃ v,(results fn a.tmps).run P w' = .ok v w' /\ R (.returned v) w')->LeavesInM Fe m P fn a.tmps R ds .returning w:=by
 intro ds
 induction ds with
 | nil=>intro a w hd hs hk; exact hk w (hs.reDefer (Marks.nil _ _) (fun _=>rfl) (fun d hd=>by cases hd))
 | cons d ds ih=>
   intro a w hd hs hk
   obtain ⟨Ds,_,h2,_⟩:=hs.defers
   rw [hd] at h2
   cases Ds with
   | nil=>cases h2
   | cons D Ds=>
     simp only [List.map_cons,List.cons.injEq] at h2
     obtain ⟨rfl,_⟩:=h2
     obtain ⟨h3,h4⟩:=hs.unmark hd
     exact ⟨(fun e=>by cases e),.inl ⟨D,_,rfl,h4,ih {a with defers:=ds} _ rfl h3 hk⟩⟩
end
end Go.Ai

