/- A part that the proofs of the laws of this seat share: an interpreter of loaded code over typed values, what it says of the functions that the laws reach, and plain facts on these. -/
import Derived.Test.YtcjihfnjccclgaaGreatDoorA0
import Derived.Test.YtcjihfnjccclgaaGreatDoorA1
import Derived.Test.YtcjihfnjccclgaaGreatDoorA2
import Derived.Test.YtcjihfnjccclgaaGreatDoorA3
set_option linter.unusedSectionVars false
set_option linter.unusedVariables false
set_option linter.unusedSimpArgs false
noncomputable section
namespace Go.Ai
open Go Go.Proofs Go.Lib Go.Sort Go.Shelf Go.RowKit
section
variable {N:Type} [DecidableEq N] {E:Env N} {P:Program} {τ:Ty N} {w w' : World} {F:Fz}
def scV:TV E->Value
 | .int k n => .int k n
 | .bool b => .bool b
 | .str l => .string ⟨l.toArray⟩
 | _ => .nilFunc
def encT (τ:Ty N) (x:den E.Γ τ):List Value:=(leaves (E:=E) τ x).map scV
theorem scV_of {l:TV E} {u:Value} (hl:match l with | .int .. => True | .bool .. => True | .str .. => True | _=>False) (h:Rep w F l u):u=scV l:=by
 cases h with
 | int k n=>rfl
 | bool b=>rfl
 | str s=>simp [scV]
 | _=>exact hl.elim
theorem rep_scV {l:TV E} (hl:match l with | .int .. => True | .bool .. => True | .str .. => True | _=>False):Rep w F l (scV l):=by
 cases l with
 | int k n=>exact Rep.int _ _
 | bool b=>exact Rep.bool _
 | str s=>have:=Rep.str (E:=E) (w:=w) (F:=F) ⟨s.toArray⟩; simpa [scV] using this
 | _=>exact hl.elim
theorem scV_one {l:TV E} (hl:match l with | .int .. => True | .bool .. => True | .str .. => True | _=>False):(scV l).oneCell' = true:=by
 cases l with
 | int k n=>rfl
 | bool b=>rfl
 | str s=>rfl
 | _=>exact hl.elim
variable [Inhabited (den E.Γ τ)]
theorem encT_len (x:den E.Γ τ):(encT (E:=E) τ x).length=τ.size E:=by simp [encT,size_leaves]
theorem flatT_get (d:Array (den E.Γ τ)) (q:Nat) (h:q<d.size*τ.size E):(flatK (encT (E:=E) τ) (τ.size E) d).toList[q]? = some ((encT (E:=E) τ d[q / τ.size E]!)[q % τ.size E]!):=by
 simp [flatK,h]
theorem row_flatT (hf:τ.flat E=true) {xs:List (den E.Γ τ)} {L:List Value} (h:RowRep (E:=E) w F τ xs L):L=(flatK (encT (E:=E) τ) (τ.size E) xs.toArray).toList:=by
 have hp:=size_pos (E:=E) τ
 apply List.ext_getElem?
 intro q
 by_cases hq:q<xs.length*τ.size E
 ·rw [flatT_get _ _ (by simpa using hq)]
  have hi:q / τ.size E<xs.length:=by rw [Nat.div_lt_iff_lt_mul hp]; exact hq
  have hc:q % τ.size E<τ.size E:=Nat.mod_lt _ hp
  have hx:xs[q / τ.size E]? = some xs[q / τ.size E]:=List.getElem?_eq_getElem hi
  have hx' : xs.toArray[q / τ.size E]! = xs[q / τ.size E]:=by simp [hi]
  have hcl:q % τ.size E<(leaves (E:=E) τ xs[q / τ.size E]).length:=by rw [size_leaves]; exact hc
  obtain ⟨u,h1,h2⟩:=h.2 _ _ (q % τ.size E) _ hx (List.getElem?_eq_getElem hcl)
  rw [show q / τ.size E*τ.size E+q % τ.size E=q from by rw [Nat.mul_comm]; exact Nat.div_add_mod _ _] at h1
  rw [h1,hx',scV_of (leaves_scalar τ _ hf _ (List.getElem_mem hcl)) h2]
  simp [encT,hcl]
 ·rw [List.getElem?_eq_none (by rw [h.1]; omega),List.getElem?_eq_none (by simp; omega)]
theorem flat_rowT (hf:τ.flat E=true) (xs:List (den E.Γ τ)):RowRep (E:=E) w F τ xs (flatK (encT (E:=E) τ) (τ.size E) xs.toArray).toList:=by
 have hp:=size_pos (E:=E) τ
 refine ⟨by simp,fun i x c l hx hl => ?_⟩
 obtain ⟨hi,hxe⟩:=List.getElem?_eq_some_iff.1 hx
 obtain ⟨hc,hle⟩:=List.getElem?_eq_some_iff.1 hl
 have hc' : c<τ.size E:=by rw [<- size_leaves (E:=E) τ x]; exact hc
 have hlt:i*τ.size E+c<xs.length*τ.size E:=by
  have:=Nat.mul_le_mul_right (τ.size E) (show i+1<=xs.length from hi)
  rw [Nat.add_mul,Nat.one_mul] at this
  omega
 refine ⟨scV l,?_,rep_scV (leaves_scalar τ x hf l (List.mem_of_getElem? hl))⟩
 rw [flatT_get _ _ (by simpa using hlt)]
 have e1:(i*τ.size E+c) / τ.size E=i:=by rw [Nat.add_comm,Nat.add_mul_div_right _ _ hp,Nat.div_eq_of_lt hc',Nat.zero_add]
 have e2:(i*τ.size E+c) % τ.size E=c:=by rw [Nat.add_comm,Nat.add_mul_mod_self_right,Nat.mod_eq_of_lt hc']
 rw [e1,e2]
 have hx' : xs.toArray[i]! = x:=by simp [hi,hxe]
 rw [hx']
 simp [encT,hc,hle]
theorem mutRev {f e:Nat} (hf:τ.flat E=true) (hc:callable P f=true)
  (hcall:∀ (blk cap:Nat) (xs:List (den E.Γ τ)) (w:World),Holds id w blk 0 (flatK (encT (E:=E) τ) (τ.size E) xs.toArray)->xs.length<=9223372036854775807 ->
   Calls P f #[.slice (some ⟨blk,0,none⟩) xs.length cap] w fun en w' => en = .returned (.tuple #[]) /\ ∃ n,w' = putRow id (Sort.ahead w n) blk 0 (flatK (encT (E:=E) τ) (τ.size E) xs.reverse.toArray))
  (hnil:∀ w,Calls P f #[.slice none 0 0] w fun en w' => en = .returned (.tuple #[])/\w' = w):MutSays (E:=E) P f none e τ (fun xs=>some xs.reverse):=by
 refine ⟨hc,?_⟩
 intro xs ys hxy w base F v L i hi hsz ho hr hF hFv hbase
 have hys:ys=xs.reverse:=(Option.some.inj hxy).symm
 subst hys
 rcases ho.2 with ⟨hv,hn0⟩ | ⟨g,cap,cur,hv,hb,hg,hnc,hcm,hcs,htake⟩
 ·subst hv
  have hxs:xs=[]:=List.eq_nil_of_length_eq_zero hn0
  subst hxs
  refine (hnil w).mono ?_
  rintro en w' ⟨rfl,rfl⟩
  exact ⟨rfl,⟨rfl,rfl,rfl,Nat.le_refl _,fun _ _ _=>rfl⟩,L,ho,hr⟩
 ·subst hv
  have hL:=row_flatT hf hr
  have hlt:g<w.heap.size:=(Array.getElem?_eq_some_iff.1 hg).1
  have hsz0:xs.length<=9223372036854775807:=by simp only [maxLen] at hcm; omega
  have hH:Holds id w g 0 (flatK (encT (E:=E) τ) (τ.size E) xs.toArray):=by
   intro q hq
   have hq' : q<xs.length*τ.size E:=by simpa using hq
   refine ⟨?_,?_⟩
   ·have h1:L[q]? = some ((encT (E:=E) τ xs.toArray[q / τ.size E]!)[q % τ.size E]!):=by rw [hL]; exact flatT_get _ _ (by simpa using hq')
    have h2:=ho.cells (g:=g) rfl q _ h1
    rw [addr_add] at h2
    rw [h2,get_flatK _ _ _ _ (by simpa using hq')]
    rfl
   ·simp [World.frozen?,hg]
  refine (hcall g cap xs w hH hsz0).mono ?_
  rintro en w' ⟨rfl,n,rfl⟩
  have hheap:∀ k:Nat,(putRow id (Sort.ahead w n) g 0 (flatK (encT (E:=E) τ) (τ.size E) xs.reverse.toArray)).heap[k]? = (w.heap[k]?).map fun o=>if g=k then onCells (putCells id 0 (flatK (encT (E:=E) τ) (τ.size E) xs.reverse.toArray)) o else o:=by
   intro k
   show (w.heap.modify g (onCells (putCells id 0 (flatK (encT (E:=E) τ) (τ.size E) xs.reverse.toArray))))[k]? = _
   rw [Array.getElem?_modify]
   cases w.heap[k]? with
   | none=>simp
   | some o=>by_cases e:g=k <;> simp [e]
  have htk:(putCells id 0 (flatK (encT (E:=E) τ) (τ.size E) xs.reverse.toArray) cur).toList.take (xs.reverse.length*i.size)=(flatK (encT (E:=E) τ) (τ.size E) xs.reverse.toArray).toList:=by
   rw [hsz] at hcs ⊢
   have hc2:xs.reverse.length*τ.size E<=cur.size:=by rw [List.length_reverse,hcs]; exact Nat.mul_le_mul_right _ hnc
   apply List.ext_getElem?
   intro q
   by_cases hq:q<xs.reverse.length*τ.size E
   ·rw [List.getElem?_take_of_lt hq,flatT_get _ _ (by simpa using hq),Array.getElem?_toList]
    simp only [putCells,Array.getElem?_mapIdx]
    rw [Array.getElem?_eq_getElem (show q<cur.size by omega)]
    have hq2:q<xs.reverse.toArray.size*τ.size E:=by simpa using hq
    simp only [Option.map_some,Nat.zero_le,true_and,Nat.zero_add,Nat.sub_zero,size_flatK,hq2,if_true,id]
    rw [get_flatK _ _ _ _ hq2]
   ·rw [List.getElem?_eq_none (by simp at hq ⊢; omega),List.getElem?_eq_none (by simp at hq ⊢; omega)]
  refine ⟨rfl,⟨rfl,rfl,rfl,?_,?_⟩,(flatK (encT (E:=E) τ) (τ.size E) xs.reverse.toArray).toList,?_,flat_rowT hf _⟩
  ·show w.heap.size<=(w.heap.modify g _).size
   simp
  ·intro k hk hne
   have hgk:g≠k:=fun e=>hne (by rw [e]; rfl)
   rw [hheap k]
   simp [hgk]
  ·refine ⟨by rw [hsz]; simp,.inr ⟨g,cap,putCells id 0 (flatK (encT (E:=E) τ) (τ.size E) xs.reverse.toArray) cur,by simp,hb,?_,by simpa using hnc,hcm,by simp [putCells,hcs],htk⟩⟩
   rw [hheap g,hg]
   simp [onCells]
end
end Go.Ai
namespace Go.Ai.Mor
open Go Go.Ai Go.Proofs Go.Lib Go.Sort Go.Shelf Go.RowKit
variable {fv:Nat->Value}
def revItems (xs:List aItem):Option (List aItem):=some xs.reverse
def revInts (xs:List Int):Option (List Int):=some xs.reverse
theorem ty162 (w:World):(isAgg 162).run Tryz.prog w = .ok true w/\(Go.sizeOf 162).run Tryz.prog w = .ok 4 w:=by
 obtain ⟨ti,hti,h1,h2⟩:∃ ti:TI E,tisE.lookup 162=some ti/\ti.agg=true/\ti.size=4:=⟨_,rfl,rfl,rfl⟩
 obtain ⟨i,d,hT,_⟩:=tok_of (COk_Tryz (sig:=fun _=>none) (it:=fun _=>none) (nt:=0) (r1:=[]) (r2:=[])) (t:=162) (ti:=ti) hti
 refine ⟨?_,?_⟩
 ·rw [run_isAgg hT.under,hT.agg,h1]
 ·rw [run_size hT.info,hT.size,h2]
instance:Inhabited (den (E.withFv fv).Γ (.st .aItem)):=inferInstanceAs (Inhabited aItem)
instance:Inhabited (den (E.withFv fv).Γ (.int .i64)):=inferInstanceAs (Inhabited Int)
theorem revItems_says:MutSays (E:=E.withFv fv) Tryz.prog 178 none 162 (.st .aItem) revItems:=by
 refine mutRev (E:=E.withFv fv) (τ := .st .aItem) rfl (by kernel_rfl) ?_ fun w=>AnyQ.slices_Reverse_empty Tryz.revItem none 0 w
 intro blk cap xs w hH hsz
 have h:=AnyQ.slices_Reverse Tryz.revItem 4 (fun w=>(ty162 w).1) (fun w=>(ty162 w).2) (encT (E:=E.withFv fv) (.st .aItem)) (fun x=>encT_len (E:=E.withFv fv) (τ := .st .aItem) x) (fun x v hv=>by
  obtain ⟨l,hl,rfl⟩:=List.mem_map.1 hv
  exact scV_one (leaves_scalar (E:=E.withFv fv) (.st .aItem) x rfl l hl)) blk 0 cap xs.toArray w hH (by simpa using hsz)
 rw [show xs.toArray.size=xs.length by simp] at h
 refine h.mono ?_
 rintro en w' ⟨rfl,n,rfl⟩
 refine ⟨rfl,n,?_⟩
 rw [List.reverse_toArray]
 rfl
theorem flat_int (d:Array Int):flatK (encT (E:=E.withFv fv) (.int .i64)) 1 d=d.map (Value.int .i64):=by
 apply Array.ext
 ·simp
 ·intro q h1 h2
  have hq:q<d.size:=by simpa using h2
  simp [flatK,encT,leaves,scV,Nat.mod_one,hq]
theorem revInts_says:MutSays (E:=E.withFv fv) Tryz.prog 179 none 3 (.int .i64) revInts:=by
 refine mutRev (E:=E.withFv fv) (τ := .int .i64) rfl (by kernel_rfl) ?_ fun w=>Any.slices_Reverse_int_empty Tryz.revInt none 0 w
 intro blk cap (xs:List Int) w hH hsz
 have hH' : Holds (Value.int .i64) w blk 0 xs.toArray:=by
  intro q hq
  have hq' : q<xs.length:=by simpa using hq
  have:=hH q (by simpa [Ty.size] using hq')
  rw [show flatK (encT (E:=E.withFv fv) (.int .i64)) (Ty.size (E.withFv fv) (.int .i64)) xs.toArray=xs.toArray.map (Value.int .i64) from flat_int xs.toArray] at this
  simpa [hq'] using this
 refine (Any.slices_Reverse_int Tryz.revInt blk 0 cap xs w hH' hsz).mono ?_
 rintro en w' ⟨rfl,n,rfl⟩
 refine ⟨rfl,n,?_⟩
 rw [show flatK (encT (E:=E.withFv fv) (.int .i64)) (Ty.size (E.withFv fv) (.int .i64)) xs.reverse.toArray=xs.reverse.toArray.map (Value.int .i64) from flat_int xs.reverse.toArray]
 unfold putRow
 congr 1
 funext c
 unfold putCells
 congr 1
 funext k x
 by_cases hk:0<=k/\k<0+xs.reverse.toArray.size
 ·rw [if_pos hk,if_pos (by simpa using hk)]
  have:k<xs.reverse.length:=by simpa using hk.2
  simp [<- List.map_reverse,List.getElem?_eq_getElem this]
 ·rw [if_neg hk,if_neg (by simpa using hk)]
end Go.Ai.Mor
end

set_option maxRecDepth 100000
noncomputable section
namespace Go.Ai.Mor
open Go Go.Ai Go.Proofs
namespace pattern_Suffixes
inductive Pt
def D:FD pd := {f:=171,fn:=Tryz.f171,q:=29,ps:=[(.sl (.st .aLetter)),(.sl (.st .aItem)),.str],rs:=[(.sl (.int .i64))],ex:=[some 3],cs:=[pattern_read.con,pattern_lengths.con,slices_Clone_aItem_aItem.con],r1:=[14,20],r2:=[26,27],X:=extMut 178 none 162 (.st .aItem) revItems (extMut 179 none 3 (.int .i64) revInts (noX)),hX:=⟨fun _=>callOk_mut revItems_says (callOk_mut revInts_says (callOk_none)),extMut_mono (extMut_mono (XMono.noX))⟩}
def go:((List aLetter)×(List aItem)×(List UInt8))->Tr Pt ((List Int))
 | (d,e,h)=>
  .b (pattern_read d e h) fun i=>
  .c (!i.2)
  (.r [])
  (.b (slices_Clone_aItem_aItem e) fun j=>
   .b (revItems j) fun l=>
   .b (revInts i.1) fun m=>
   .b (pattern_lengths d l m) fun k=>
   .r k)
def st:Pt->Tr Pt ((List Int)):=nofun
def pt:Pt->List Dir×St E:=nofun
theorem g:D.G st pt:=fun Z a=>by cases a <;> kernel_rfl
theorem g0:D.G0 go pt:=fun Z ⟨_,_,_⟩=>by kernel_rfl
abbrev con:Con Tryz.prog E:=FD.con Tryz.func171 (by kernel_rfl) g g0
end pattern_Suffixes
def pattern_Suffixes (d:List aLetter) (e:List aItem) (h:List UInt8):Option ((List Int)):=ev (pattern_Suffixes.go (d,e,h)) (fx pattern_Suffixes.st)
end Go.Ai.Mor
end

set_option maxRecDepth 100000
noncomputable section
namespace Go.Ai.Mor
open Go Go.Ai Go.Proofs
namespace rewrite_follows
inductive Pt
def D:FD pd := {f:=162,fn:=Tryz.f162,q:=21,ps:=[(.sl (.st .aLetter)),(.st .aRule),.str],rs:=[.bool],ex:=[none],cs:=[pattern_Matches.con,pattern_Suffixes.con]}
def go:((List aLetter)×aRule×(List UInt8))->Tr Pt (Bool)
 | (e,d,h)=>
  .c d.fInitial
  (.b (pattern_Matches e d.fLeft h) fun i=>
   .r i)
  (.b (pattern_Suffixes e d.fLeft h) fun j=>
   .r (decide (0<(j.length:Int))))
def st:Pt->Tr Pt (Bool):=nofun
def pt:Pt->List Dir×St E:=nofun
theorem g:D.G st pt:=fun Z a=>by cases a <;> kernel_rfl
theorem g0:D.G0 go pt:=fun Z ⟨_,_,_⟩=>by kernel_rfl
abbrev con:Con Tryz.prog E:=FD.con Tryz.func162 (by kernel_rfl) g g0
end rewrite_follows
def rewrite_follows (e:List aLetter) (d:aRule) (h:List UInt8):Option (Bool):=ev (rewrite_follows.go (e,d,h)) (fx rewrite_follows.st)
end Go.Ai.Mor
end

set_option maxRecDepth 100000
noncomputable section
namespace Go.Ai.Mor
open Go Go.Ai Go.Proofs
namespace pattern_Prefixes
inductive Pt
def D:FD pd := {f:=172,fn:=Tryz.f172,q:=22,ps:=[(.sl (.st .aLetter)),(.sl (.st .aItem)),.str],rs:=[(.sl (.int .i64))],ex:=[some 3],cs:=[pattern_read.con,pattern_lengths.con]}
def go:((List aLetter)×(List aItem)×(List UInt8))->Tr Pt ((List Int))
 | (d,e,h)=>
  .b (pattern_read d e h) fun i=>
  .c (!i.2)
  (.r [])
  (.b (pattern_lengths d e i.1) fun j=>
   .r j)
def st:Pt->Tr Pt ((List Int)):=nofun
def pt:Pt->List Dir×St E:=nofun
theorem g:D.G st pt:=fun Z a=>by cases a <;> kernel_rfl
theorem g0:D.G0 go pt:=fun Z ⟨_,_,_⟩=>by kernel_rfl
abbrev con:Con Tryz.prog E:=FD.con Tryz.func172 (by kernel_rfl) g g0
end pattern_Prefixes
def pattern_Prefixes (d:List aLetter) (e:List aItem) (h:List UInt8):Option ((List Int)):=ev (pattern_Prefixes.go (d,e,h)) (fx pattern_Prefixes.st)
end Go.Ai.Mor
end

set_option maxRecDepth 100000
noncomputable section
namespace Go.Ai.Mor
open Go Go.Ai Go.Proofs
namespace rewrite_precedes
inductive Pt
def D:FD pd := {f:=163,fn:=Tryz.f163,q:=21,ps:=[(.sl (.st .aLetter)),(.st .aRule),.str],rs:=[.bool],ex:=[none],cs:=[pattern_Matches.con,pattern_Prefixes.con]}
def go:((List aLetter)×aRule×(List UInt8))->Tr Pt (Bool)
 | (e,d,h)=>
  .c d.fFinal
  (.b (pattern_Matches e d.fRight h) fun i=>
   .r i)
  (.b (pattern_Prefixes e d.fRight h) fun j=>
   .r (decide (0<(j.length:Int))))
def st:Pt->Tr Pt (Bool):=nofun
def pt:Pt->List Dir×St E:=nofun
theorem g:D.G st pt:=fun Z a=>by cases a <;> kernel_rfl
theorem g0:D.G0 go pt:=fun Z ⟨_,_,_⟩=>by kernel_rfl
abbrev con:Con Tryz.prog E:=FD.con Tryz.func163 (by kernel_rfl) g g0
end rewrite_precedes
def rewrite_precedes (e:List aLetter) (d:aRule) (h:List UInt8):Option (Bool):=ev (rewrite_precedes.go (e,d,h)) (fx rewrite_precedes.st)
end Go.Ai.Mor
end

set_option maxRecDepth 100000
noncomputable section
namespace Go.Ai.Mor
open Go Go.Ai Go.Proofs
namespace rewrite_Sites
inductive Pt
 | c2 (i:List aLetter) (h:Int) (m:List Int) (d:aRule) (e:List UInt8) (o:Int)
 | c1 (i:List aLetter) (d:aRule) (e:List UInt8) (m:List Int) (h:Int)
def D:FD pd := {f:=146,fn:=Tryz.f146,q:=69,pl:=pls 20 [(8,kp [0,4,7,9] [(4,6)] [] [(8,.own (100008,0,3) (.int .i64))]),(15,kp [0,4,7,9,10] [(4,6)] [] [(8,.own (100008,0,3) (.int .i64))])],ps:=[(.sl (.st .aLetter)),(.st .aRule),.str],rs:=[(.sl (.int .i64))],ex:=[some 3],cs:=[rewrite_Valid.con,rewrite_letters_isWord.con,rewrite_follows.con,rewrite_precedes.con]}
def go:((List aLetter)×aRule×(List UInt8))->Tr Pt ((List Int))
 | (i,d,e)=>
  .b (rewrite_Valid i d) fun p=>
  .c (!p)
  (.r [])
  (.b (rewrite_letters_isWord i e) fun s=>
   .c (!s)
   (.r [])
   (.c (decide ((rns e).length<=lim))
    (.j (.c1 i d e ([]:(List Int)) 0)) .n))
def st:Pt->Tr Pt ((List Int))
 | .c2 i h m d e o=>
  .c (decide (0<=h)&&decide (h<=((rns e).length:Int)))
  (.b (rewrite_follows i d (utf ((rns e).take h.toNat))) fun t=>
   .c t
   (.c (decide (0<=o)&&decide (o<=((rns e).length:Int)))
    (.b (rewrite_precedes i d (utf ((rns e).drop o.toNat))) fun u=>
     .c u
     (.c (decide (m.length+([h]:List Int).length<=lim))
      (.j (.c1 i d e (m++[h]) (IntKind.i64.wrap (h+1)))) .n)
     (.j (.c1 i d e m (IntKind.i64.wrap (h+1))))) .n)
   (.j (.c1 i d e m (IntKind.i64.wrap (h+1))))) .n
 | .c1 i d e m h=>
  .c (decide (h<=((rns e).length:Int)))
  (.c (!decide (d.fFrom=0))
   (.c (decide (h=((rns e).length:Int)))
    (.j (.c1 i d e m (IntKind.i64.wrap (h+1))))
    (.c (decide (0<=h)&&decide (h<((rns e).length:Int)))
     (.c (!decide (((rns e).getD h.toNat default)=d.fFrom))
      (.j (.c1 i d e m (IntKind.i64.wrap (h+1))))
      (.j (.c2 i h m d e (IntKind.i64.wrap (h+1))))) .n))
   (.j (.c2 i h m d e h)))
  (.r m)
def pt:Pt->List Dir×St E
 | .c2 i h m d e o=>([.r,.k,.r,.r,.r,.r,.l,.r,.k,.L,.r,.l,.k,.r],ms 69 69 [(0,hL (.st .aLetter) i),(4,hP 4),(7,hL (.int .i32) (rns e)),(8,hT 100008 3 (.int .i64) m),(9,hI h),(10,hI o)] [(4,.cells [.tv (.int .i32 d.fFrom),cS d.fTo,cL (.st .aItem) d.fLeft,cL (.st .aItem) d.fRight,cB d.fInitial,cB d.fFinal])])
 | .c1 i d e m h=>([.r,.k,.r,.r,.r,.r,.l,.r,.k],ms 69 69 [(0,hL (.st .aLetter) i),(4,hP 4),(7,hL (.int .i32) (rns e)),(8,hT 100008 3 (.int .i64) m),(9,hI h)] [(4,.cells [.tv (.int .i32 d.fFrom),cS d.fTo,cL (.st .aItem) d.fLeft,cL (.st .aItem) d.fRight,cB d.fInitial,cB d.fFinal])])
theorem g:D.G st pt:=fun Z a=>by cases a <;> kernel_rfl
theorem g0:D.G0 go pt:=fun Z ⟨_,_,_⟩=>by kernel_rfl
abbrev con:Con Tryz.prog E:=FD.con Tryz.func146 (by kernel_rfl) g g0
end rewrite_Sites
def rewrite_Sites (i:List aLetter) (d:aRule) (e:List UInt8):Option ((List Int)):=ev (rewrite_Sites.go (i,d,e)) (fx rewrite_Sites.st)
end Go.Ai.Mor
end

set_option maxRecDepth 100000
noncomputable section
namespace Go.Ai.Mor
open Go Go.Ai Go.Proofs
namespace rewrite_Apply
inductive Pt
def D:FD pd := {f:=134,fn:=Tryz.f134,q:=30,ps:=[(.sl (.st .aLetter)),(.st .aRule),.str],rs:=[.str,(.int .i64)],ex:=[none,none],cs:=[rewrite_Valid.con,unicode_utf8_RuneCountInString.con,rewrite_letters_isWord.con,rewrite_result.con,rewrite_Sites.con]}
def go:((List aLetter)×aRule×(List UInt8))->Tr Pt ((List UInt8)×Int)
 | (d,e,h)=>
  .b (rewrite_Valid d e) fun j=>
  .c (!j)
  (.r ([],1))
  (.b (rewrite_letters_isWord d h) fun k=>
   .c (!k)
   (.r ([],1))
   (.b (rewrite_Sites d e h) fun l=>
    .b (rewrite_result e l h) fun i=>
    .b (unicode_utf8_RuneCountInString i) fun m=>
    .c (decide (40<m))
    (.r ([],2))
    (.r (i,0))))
def st:Pt->Tr Pt ((List UInt8)×Int):=nofun
def pt:Pt->List Dir×St E:=nofun
theorem g:D.G st pt:=fun Z a=>by cases a <;> kernel_rfl
theorem g0:D.G0 go pt:=fun Z ⟨_,_,_⟩=>by kernel_rfl
abbrev con:Con Tryz.prog E:=FD.con Tryz.func134 (by kernel_rfl) g g0
end rewrite_Apply
def rewrite_Apply (d:List aLetter) (e:aRule) (h:List UInt8):Option ((List UInt8)×Int):=ev (rewrite_Apply.go (d,e,h)) (fx rewrite_Apply.st)
end Go.Ai.Mor
end

set_option maxRecDepth 100000
noncomputable section
namespace Go.Ai.Mor
open Go Go.Ai Go.Proofs
namespace rewrite_Trace
inductive Pt
 | c3 (e:List aLetter) (d:List aRule) (i:List (List UInt8)) (o:Int)
 | c2 (e:List aLetter) (d:List aRule) (h:List UInt8)
 | c1 (e:List aLetter) (d:List aRule) (h:List UInt8) (m:Int)
def D:FD pd := {f:=103,fn:=Tryz.f103,q:=69,pl:=pls 26 [(5,kp [0,1,2,29,30,31]),(12,kp [0,1,2]),(15,kp [0,42,43,44] [] [] [(10,.own (100010,0,9) .str)])],ps:=[(.sl (.st .aLetter)),(.sl (.st .aRule)),.str],rs:=[(.sl .str),(.int .i64)],ex:=[some 9,none],cs:=[rewrite_Valid.con,rewrite_letters_admissible.con,rewrite_letters_isWord.con,rewrite_Apply.con]}
def go:((List aLetter)×(List aRule)×(List UInt8))->Tr Pt ((List (List UInt8))×Int)
 | (e,d,h)=>
  .c (decide (64<(d.length:Int)))
  (.r ([],1))
  (.b (rewrite_letters_admissible e) fun s=>
   .c (!s)
   (.r ([],1))
   (.b (rewrite_letters_isWord e h) fun t=>
    .c (!t)
    (.r ([],1))
    (.j (.c1 e d h 0))))
def st:Pt->Tr Pt ((List (List UInt8))×Int)
 | .c3 e d i o=>
  .c (decide (o<(d.length:Int)))
  (.c (decide (0<=o)&&decide (o<(d.length:Int)))
   (.c (decide (0<=IntKind.i64.wrap ((i.length:Int) - 1))&&decide (IntKind.i64.wrap ((i.length:Int) - 1)<(i.length:Int)))
    (.b (rewrite_Apply e (d.getD o.toNat default) (i.getD (IntKind.i64.wrap ((i.length:Int) - 1)).toNat default)) fun p=>
     .c (!decide (p.2=0))
     (.r ([],p.2))
     (.c (decide (i.length+([p.1]:List (List UInt8)).length<=lim))
      (.j (.c3 e d (i++[p.1]) (IntKind.i64.wrap (o+1)))) .n)) .n) .n)
  (.r (i,0))
 | .c2 e d h=>
  .j (.c3 e d [h] 0)
 | .c1 e d h m=>
  .c (decide (m<(d.length:Int)))
  (.c (decide (0<=m)&&decide (m<(d.length:Int)))
   (.b (rewrite_Valid e (d.getD m.toNat default)) fun u=>
    .c (!u)
    (.r ([],1))
    (.j (.c1 e d h (IntKind.i64.wrap (m+1))))) .n)
  (.j (.c2 e d h))
def pt:Pt->List Dir×St E
 | .c3 e d i o=>([.r,.r,.r,.r,.l,.r,.k],ms 69 69 [(0,hL (.st .aLetter) e),(10,hT 100010 9 .str i),(42,hL (.st .aRule) d),(43,hI (d.length:Int)),(44,hI o)])
 | .c2 e d h=>([.r,.r],ms 69 69 [(0,hL (.st .aLetter) e),(1,hL (.st .aRule) d),(2,hS h)])
 | .c1 e d h m=>([.r,.r,.l,.r,.k],ms 69 69 [(0,hL (.st .aLetter) e),(1,hL (.st .aRule) d),(2,hS h),(29,hL (.st .aRule) d),(30,hI (d.length:Int)),(31,hI m)])
theorem g:D.G st pt:=fun Z a=>by cases a <;> kernel_rfl
theorem g0:D.G0 go pt:=fun Z ⟨_,_,_⟩=>by kernel_rfl
abbrev con:Con Tryz.prog E:=FD.con Tryz.func103 (by kernel_rfl) g g0
end rewrite_Trace
def rewrite_Trace (e:List aLetter) (d:List aRule) (h:List UInt8):Option ((List (List UInt8))×Int):=ev (rewrite_Trace.go (e,d,h)) (fx rewrite_Trace.st)
end Go.Ai.Mor
end

set_option maxRecDepth 100000
noncomputable section
namespace Go.Ai.Mor
open Go Go.Ai Go.Proofs
namespace rewrite_Cascade
inductive Pt
def D:FD pd := {f:=69,fn:=Tryz.f69,q:=26,ps:=[(.sl (.st .aLetter)),(.sl (.st .aRule)),.str],rs:=[.str,(.int .i64)],ex:=[none,none],cs:=[rewrite_Trace.con]}
def go:((List aLetter)×(List aRule)×(List UInt8))->Tr Pt ((List UInt8)×Int)
 | (e,h,i)=>
  .b (rewrite_Trace e h i) fun d=>
  .c (!decide (d.2=0))
  (.r ([],d.2))
  (.c (decide (0<=IntKind.i64.wrap ((d.1.length:Int) - 1))&&decide (IntKind.i64.wrap ((d.1.length:Int) - 1)<(d.1.length:Int)))
   (.r (d.1.getD (IntKind.i64.wrap ((d.1.length:Int) - 1)).toNat default,0)) .n)
def st:Pt->Tr Pt ((List UInt8)×Int):=nofun
def pt:Pt->List Dir×St E:=nofun
theorem g:D.G st pt:=fun Z a=>by cases a <;> kernel_rfl
theorem g0:D.G0 go pt:=fun Z ⟨_,_,_⟩=>by kernel_rfl
abbrev con:Con Tryz.prog E:=FD.con Tryz.func69 (by kernel_rfl) g g0
end rewrite_Cascade
def rewrite_Cascade (e:List aLetter) (h:List aRule) (i:List UInt8):Option ((List UInt8)×Int):=ev (rewrite_Cascade.go (e,h,i)) (fx rewrite_Cascade.st)
end Go.Ai.Mor
end

set_option maxRecDepth 100000
noncomputable section
namespace Go.Ai.Mor
open Go Go.Ai Go.Proofs
namespace morphology_words_form
inductive Pt
 | c1 (d:morphology_words) (h:List UInt8)
def D:FD pd := {f:=45,fn:=Tryz.f45,q:=54,pl:=pls 11 [(8,kp [3,8] [(3,4)])],ps:=[(.st .morphology_words),(.st .aLexeme),(.sl (.st .aFeature))],rs:=[.str,.bool],ex:=[none,none],cs:=[morphology_words_paradigm.con,paradigm_Underlying.con,rewrite_Cascade.con]}
def go:(morphology_words×aLexeme×(List aFeature))->Tr Pt ((List UInt8)×Bool)
 | (d,e,i)=>
  .c (!decide (e.fParadigm=[]))
  (.b (morphology_words_paradigm d e.fParadigm) fun m=>
   .b (paradigm_Underlying m.1 e.fStem e.fFeatures i) fun k=>
   .c (!decide (k.2=0))
   (.r ([],false))
   (.j (.c1 d k.1)))
  (.j (.c1 d e.fStem))
def st:Pt->Tr Pt ((List UInt8)×Bool)
 | .c1 d h=>
  .b (rewrite_Cascade d.fWords.fAlphabet d.fWords.fRules h) fun l=>
  .r (l.1,decide (l.2=0))
def pt:Pt->List Dir×St E
 | .c1 d h=>([.r,.r],ms 54 54 [(3,hP 3),(8,hS h)] [(3,.cells [cL (.st .aLetter) d.fWords.fAlphabet,cL (.st .aRule) d.fWords.fRules,cL (.st .aParadigm) d.fWords.fParadigms,cL (.st .aLexeme) d.fWords.fLexemes])])
theorem g:D.G st pt:=fun Z a=>by cases a <;> kernel_rfl
theorem g0:D.G0 go pt:=fun Z ⟨_,_,_⟩=>by kernel_rfl
abbrev con:Con Tryz.prog E:=FD.con Tryz.func45 (by kernel_rfl) g g0
end morphology_words_form
def morphology_words_form (d:morphology_words) (e:aLexeme) (i:List aFeature):Option ((List UInt8)×Bool):=ev (morphology_words_form.go (d,e,i)) (fx morphology_words_form.st)
end Go.Ai.Mor
end

set_option maxRecDepth 100000
noncomputable section
namespace Go.Ai.Mor
open Go Go.Ai Go.Proofs
namespace morphology_words_cells_1
inductive Pt
 | c1 (d:aParadigm×Bool) (e h:Int)
def D:FI pd := {f:=65,fn:=Tryz.f65,q:=37,pl:=pls 12 [(5,kp [0,4,22,23] [(4,3)])],ts:=[(.sl (.st .aFeature))],cts:=[.str,.str,.str,.str,(.sl (.st .aFeature)),(.sl (.st .aLetter)),(.sl (.st .aRule)),(.sl (.st .aParadigm)),(.sl (.st .aLexeme))],shape:=[5,4],cs:=[morphology_words_paradigm.con,paradigm_Count.con,paradigm_Cell.con]}
def go:((List UInt8)×(List UInt8)×(List UInt8)×(List UInt8)×(List aFeature)×(List aLetter)×(List aRule)×(List aParadigm)×(List aLexeme))->Tr Pt (List ((List aFeature)))
 | (s,t,u,i,v,l,n,o,p)=>
  .c (decide (i=[]))
  (.m (gEmit ([]:(List aFeature)))
   (.r [])
   (.r []))
  (.b (morphology_words_paradigm (morphology_words.mk (aWords.mk l n o p)) i) fun d=>
   .b (paradigm_Count d.1) fun e=>
   .j (.c1 d e 0))
def st:Pt->Tr Pt (List ((List aFeature)))
 | .c1 d e h=>
  .c (decide (h<e))
  (.b (paradigm_Cell d.1 h) fun w=>
   .m (gEmit w.1)
   (.j (.c1 d e (IntKind.i64.wrap (h+1))))
   (.r []))
  (.r [])
def pt (fv:Nat->Value):Pt->List Dir×St (E.withFv fv)
 | .c1 d e h=>([.r,.r,.r,.k],ms 37 37 [(0,.one (.tv (.spec 0))),(4,hP 4),(22,hI e),(23,hI h)] [(4,.cells [cS d.1.fName,cL (.st .aDimension) d.1.fDimensions,cL (.sl (.st .aAffix)) d.1.fSlots])])
theorem g:D.G st pt:=fun fv Z a=>by cases a <;> kernel_rfl
theorem g0:D.G0 go pt:=fun fv Z ⟨_,_,_,_,_,_,_,_,_⟩=>by kernel_rfl
abbrev con:ItCon Tryz.prog E:=FI.con Tryz.func65 (by kernel_rfl) g g0
end morphology_words_cells_1
def morphology_words_cells_1 (s t u i:List UInt8) (v:List aFeature) (l:List aLetter) (n:List aRule) (o:List aParadigm) (p:List aLexeme):Option (List ((List aFeature))):=ev (morphology_words_cells_1.go (s,t,u,i,v,l,n,o,p)) (fx morphology_words_cells_1.st)
end Go.Ai.Mor
end

set_option maxRecDepth 100000
noncomputable section
namespace Go.Ai.Mor
open Go Go.Ai Go.Proofs
namespace morphology_All_1
inductive Pt
 | c3 (h:List aLetter) (i:List aRule) (o:List aParadigm) (d:List aLexeme) (e:Int) (p:List ((List aFeature))) (t:Bool)
 | c2 (h:List aLetter) (i:List aRule) (o:List aParadigm) (d:List aLexeme) (e:Int) (s:List ((List aFeature)))
 | c1 (h:List aLetter) (i:List aRule) (o:List aParadigm) (d:List aLexeme) (e:Int)
def D:FI pd := {f:=43,fn:=Tryz.f43,q:=45,pl:=pls 11 [(2,kp [1,2,10,11,12] [(2,1)] [] [] [] true),(7,kp [1,2,4,10,11,12] [(2,1),(4,5)]),(9,kp [37] [(2,1),(4,5)] [1,2,4,10,11,12])],ts:=[.str,(.st .aAnalysis)],cts:=[(.sl (.st .aLetter)),(.sl (.st .aRule)),(.sl (.st .aParadigm)),(.sl (.st .aLexeme))],shape:=[4],dp:=2,cs:=[morphology_words_form.con],is:=[morphology_words_cells_1.con],il:=[inl 0 18 44 39 Tryz.f44 [] Tryz.func44 (by kernel_rfl)]}
def go:((List aLetter)×(List aRule)×(List aParadigm)×(List aLexeme))->Tr Pt (List ((List UInt8)×aAnalysis))
 | (h,i,o,d)=>
  .j (.c1 h i o d 0)
def st:Pt->Tr Pt (List ((List UInt8)×aAnalysis))
 | .c3 h i o d e p t=>
  .c t
  (.r [])
  (.j (.c2 h i o d e p))
 | .c2 h i o d e s=>
  .l s
  (.j (.c1 h i o d (IntKind.i64.wrap (e+1)))) fun v p=>
   .b (morphology_words_form (morphology_words.mk (aWords.mk h i o d)) (d.getD e.toNat default) v) fun u=>
   .c u.2
   (.m (gEmit (u.1,aAnalysis.mk ((d.getD e.toNat default).fID) v))
    (.j (.c3 h i o d e p false))
    (.j (.c3 h i o d e p true)))
   (.j (.c3 h i o d e p false))
 | .c1 h i o d e=>
  .c (decide (e<(d.length:Int)))
  (.c (decide (0<=e)&&decide (e<(d.length:Int)))
   (.b (morphology_words_cells_1 ((d.getD e.toNat default).fID) ((d.getD e.toNat default).fCategory) ((d.getD e.toNat default).fStem) ((d.getD e.toNat default).fParadigm) ((d.getD e.toNat default).fFeatures) h i o d) fun w=>
    .j (.c2 h i o d e w)) .n)
  (.r [])
def pt (fv:Nat->Value):Pt->List Dir×St (E.withFv fv)
 | .c3 h i o d e p t=>([.r,.r,.k,.L,.r,.r,.l,.k,.r,.r,.k,.L,.k,.r],ms 39 45 [(37,hB t)] [(2,.cells [.tv (.spec 0)]),(4,.cells [cS ((d.getD e.toNat default).fID),cS ((d.getD e.toNat default).fCategory),cS ((d.getD e.toNat default).fStem),cS ((d.getD e.toNat default).fParadigm),cL (.st .aFeature) ((d.getD e.toNat default).fFeatures)])] 39 [(1,hF [.sl (.st .aLetter) h,.sl (.st .aRule) i,.sl (.st .aParadigm) o,.sl (.st .aLexeme) d]),(2,hP 2),(4,hP 4),(10,hL (.st .aLexeme) d),(11,hI (d.length:Int)),(12,hI e)] [⟨[(.sl (.st .aFeature))],p⟩])
 | .c2 h i o d e s=>([.r,.r,.k,.L,.r,.r,.l,.k,.r,.r,.k],ms 39 45 [(1,hF [.sl (.st .aLetter) h,.sl (.st .aRule) i,.sl (.st .aParadigm) o,.sl (.st .aLexeme) d]),(2,hP 2),(4,hP 4),(10,hL (.st .aLexeme) d),(11,hI (d.length:Int)),(12,hI e)] [(2,.cells [.tv (.spec 0)]),(4,.cells [cS ((d.getD e.toNat default).fID),cS ((d.getD e.toNat default).fCategory),cS ((d.getD e.toNat default).fStem),cS ((d.getD e.toNat default).fParadigm),cL (.st .aFeature) ((d.getD e.toNat default).fFeatures)])] 0 [] [⟨[(.sl (.st .aFeature))],s⟩] true)
 | .c1 h i o d e=>([.r,.r,.k],ms 39 45 [(1,hF [.sl (.st .aLetter) h,.sl (.st .aRule) i,.sl (.st .aParadigm) o,.sl (.st .aLexeme) d]),(2,hP 2),(10,hL (.st .aLexeme) d),(11,hI (d.length:Int)),(12,hI e)] [(2,.cells [.tv (.spec 0)])] 0 [] [] true)
theorem g:D.G st pt:=fun fv Z a=>by cases a <;> kernel_rfl
theorem g0:D.G0 go pt:=fun fv Z ⟨_,_,_,_⟩=>by kernel_rfl
abbrev con:ItCon Tryz.prog E:=FI.con Tryz.func43 (by kernel_rfl) g g0
end morphology_All_1
def morphology_All_1 (h:List aLetter) (i:List aRule) (o:List aParadigm) (d:List aLexeme):Option (List ((List UInt8)×aAnalysis)):=ev (morphology_All_1.go (h,i,o,d)) (fx morphology_All_1.st)
end Go.Ai.Mor
end

set_option maxRecDepth 100000
noncomputable section
namespace Go.Ai.Mor
open Go Go.Ai Go.Proofs
namespace morphology_Analyses
inductive Pt
 | c1 (d:List UInt8) (i:List ((List UInt8)×aAnalysis)) (e:List aAnalysis)
def D:FD pd := {f:=17,fn:=Tryz.f17,q:=36,pl:=pls 15 [(6,kp [3,4,5,6] [(3,1),(4,1),(5,1)] [] [] [] false [(6,[.own (300006,1,46) (.st .aAnalysis)])])],ps:=[(.st .aWords),.str],rs:=[(.sl (.st .aAnalysis)),(.int .i64)],ex:=[some 46,none],dp:=2,cs:=[alphabet_IsWord.con],is:=[morphology_All_1.con],il:=[inl 0 15 22 29 Tryz.f22 [] Tryz.func22 (by kernel_rfl)]}
def go:(aWords×(List UInt8))->Tr Pt ((List aAnalysis)×Int)
 | (h,d)=>
  .b (alphabet_IsWord h.fAlphabet d) fun p=>
  .c (!p)
  (.r ([],1))
  (.b (morphology_All_1 h.fAlphabet h.fRules h.fParadigms h.fLexemes) fun s=>
   .j (.c1 d s ([]:(List aAnalysis))))
def st:Pt->Tr Pt ((List aAnalysis)×Int)
 | .c1 d i e=>
  .l i
  (.r (e,0)) fun m o=>
   .c (!decide (m.1=d))
   (.j (.c1 d o e))
   (.c (decide ((e.length:Int)=256))
    (.r ([],2))
    (.c (decide (e.length+([m.2]:List aAnalysis).length<=lim))
     (.j (.c1 d o (e++[m.2]))) .n))
def pt:Pt->List Dir×St E
 | .c1 d i e=>([.r,.r,.r,.l,.r,.k],ms 29 36 [(3,hP 3),(4,hP 4),(5,hP 5),(6,hP 6)] [(3,.cells [cS d]),(4,.cells [.tv (.val nilS)]),(5,.cells [cI 0]),(6,.cells [.tok (300006,1,46) (.st .aAnalysis) e])] 0 [] [⟨[.str,(.st .aAnalysis)],i⟩] true)
theorem g:D.G st pt:=fun Z a=>by cases a <;> kernel_rfl
theorem g0:D.G0 go pt:=fun Z ⟨_,_⟩=>by kernel_rfl
abbrev con:Con Tryz.prog E:=FD.con Tryz.func17 (by kernel_rfl) g g0
end morphology_Analyses
def morphology_Analyses (h:aWords) (d:List UInt8):Option ((List aAnalysis)×Int):=ev (morphology_Analyses.go (h,d)) (fx morphology_Analyses.st)
end Go.Ai.Mor
end

set_option maxRecDepth 100000
noncomputable section
namespace Go.Ai.Mor
open Go Go.Ai Go.Proofs
namespace morphology_Ambiguity
inductive Pt
def D:FD pd := {f:=20,fn:=Tryz.f20,q:=17,ps:=[(.st .aWords),.str],rs:=[(.int .i64),(.int .i64)],ex:=[none,none],cs:=[morphology_Analyses.con]}
def go:(aWords×(List UInt8))->Tr Pt (Int×Int)
 | (c,d)=>
  .b (morphology_Analyses c d) fun e=>
  .r ((e.1.length:Int),e.2)
def st:Pt->Tr Pt (Int×Int):=nofun
def pt:Pt->List Dir×St E:=nofun
theorem g:D.G st pt:=fun Z a=>by cases a <;> kernel_rfl
theorem g0:D.G0 go pt:=fun Z ⟨_,_⟩=>by kernel_rfl
abbrev con:Con Tryz.prog E:=FD.con Tryz.func20 (by kernel_rfl) g g0
end morphology_Ambiguity
def morphology_Ambiguity (c:aWords) (d:List UInt8):Option (Int×Int):=ev (morphology_Ambiguity.go (c,d)) (fx morphology_Ambiguity.st)
end Go.Ai.Mor
end

set_option maxRecDepth 100000
noncomputable section
namespace Go.Ai.Mor
open Go Go.Ai Go.Proofs
namespace lexicon_Index
inductive Pt
 | c1 (d:List UInt8) (b:List aLexeme) (e:Int)
def D:FD pd := {f:=70,fn:=Tryz.f70,q:=35,ps:=[(.sl (.st .aLexeme)),.str],rs:=[(.int .i64)],ex:=[none],dp:=3,il:=[inl 0 7 104 8 Tryz.f104 (pls 11 [(2,kp [0,1,7,8] [(3,1)])]) Tryz.func104 (by kernel_rfl),inl 8 16 105 27 Tryz.f105 [] Tryz.func105 (by kernel_rfl)]}
def go:((List aLexeme)×(List UInt8))->Tr Pt (Int)
 | (b,d)=>
  .j (.c1 d b 0)
def st:Pt->Tr Pt (Int)
 | .c1 d b e=>
  .c (decide (e<(b.length:Int)))
  (.c (decide (0<=e)&&decide (e<(b.length:Int)))
   (.c (decide (((b.getD e.toNat default).fID)=d))
    (.r e)
    (.j (.c1 d b (IntKind.i64.wrap (e+1))))) .n)
  (.r (-1))
def pt:Pt->List Dir×St E
 | .c1 d b e=>([.r,.l,.c 2 104 8 0 false,.r,.l,.r,.k],ms 19 35 [(0,hL (.st .aLexeme) b),(1,.one (.fn (.func 105) [] [.ptr 3 0])),(7,hI (b.length:Int)),(8,hI e)] [(3,.cells [cS d])] 8 [] [] false 8)
theorem g:D.G st pt:=fun Z a=>by cases a <;> kernel_rfl
theorem g0:D.G0 go pt:=fun Z ⟨_,_⟩=>by kernel_rfl
abbrev con:Con Tryz.prog E:=FD.con Tryz.func70 (by kernel_rfl) g g0
end lexicon_Index
def lexicon_Index (b:List aLexeme) (d:List UInt8):Option (Int):=ev (lexicon_Index.go (b,d)) (fx lexicon_Index.st)
end Go.Ai.Mor
end

set_option maxRecDepth 100000
noncomputable section
namespace Go.Ai.Mor
open Go Go.Ai Go.Proofs
namespace slices_Clip_aFeature_aFeature
inductive Pt
def D:FD pd := {f:=106,fn:=Tryz.f106,q:=9,ps:=[(.sl (.st .aFeature))],rs:=[(.sl (.st .aFeature))],ex:=[none]}
def go:((List aFeature))->Tr Pt ((List aFeature))
 | b=>
  .c (decide (0<=(b.length:Int))&&(decide ((b.length:Int)<=(b.length:Int))&&decide ((b.length:Int)=(b.length:Int))))
  (.r (b.take (b.length:Int).toNat)) .n
def st:Pt->Tr Pt ((List aFeature)):=nofun
def pt:Pt->List Dir×St E:=nofun
theorem g:D.G st pt:=fun Z a=>by cases a <;> kernel_rfl
theorem g0:D.G0 go pt:=fun Z _=>by kernel_rfl
abbrev con:Con Tryz.prog E:=FD.con Tryz.func106 (by kernel_rfl) g g0
end slices_Clip_aFeature_aFeature
def slices_Clip_aFeature_aFeature (b:List aFeature):Option ((List aFeature)):=ev (slices_Clip_aFeature_aFeature.go b) (fx slices_Clip_aFeature_aFeature.st)
end Go.Ai.Mor
end

set_option maxRecDepth 100000
noncomputable section
namespace Go.Ai.Mor
open Go Go.Ai Go.Proofs
namespace lexicon_copied
inductive Pt
def D:FD pd := {f:=71,fn:=Tryz.f71,q:=9,ps:=[(.st .aLexeme)],rs:=[(.st .aLexeme)],ex:=[none],cs:=[slices_Clip_aFeature_aFeature.con,slices_Clone_aFeature_aFeature.con]}
def go:(aLexeme)->Tr Pt (aLexeme)
 | c=>
  .b (slices_Clone_aFeature_aFeature c.fFeatures) fun d=>
  .b (slices_Clip_aFeature_aFeature d) fun e=>
  .r (aLexeme.mk c.fID c.fCategory c.fStem c.fParadigm e)
def st:Pt->Tr Pt (aLexeme):=nofun
def pt:Pt->List Dir×St E:=nofun
theorem g:D.G st pt:=fun Z a=>by cases a <;> kernel_rfl
theorem g0:D.G0 go pt:=fun Z _=>by kernel_rfl
abbrev con:Con Tryz.prog E:=FD.con Tryz.func71 (by kernel_rfl) g g0
end lexicon_copied
def lexicon_copied (c:aLexeme):Option (aLexeme):=ev (lexicon_copied.go c) (fx lexicon_copied.st)
end Go.Ai.Mor
end

set_option maxRecDepth 100000
noncomputable section
namespace Go.Ai.Mor
open Go Go.Ai Go.Proofs
namespace lexicon_Find
inductive Pt
def D:FD pd := {f:=46,fn:=Tryz.f46,q:=18,ps:=[(.sl (.st .aLexeme)),.str],rs:=[(.st .aLexeme),.bool],ex:=[none,none],cs:=[lexicon_Index.con,lexicon_copied.con]}
def go:((List aLexeme)×(List UInt8))->Tr Pt (aLexeme×Bool)
 | (d,h)=>
  .b (lexicon_Index d h) fun e=>
  .c (decide (0<=e))
  (.c (decide (0<=e)&&decide (e<(d.length:Int)))
   (.b (lexicon_copied (d.getD e.toNat default)) fun i=>
    .r (i,true)) .n)
  (.r (aLexeme.mk [] [] [] [] [],false))
def st:Pt->Tr Pt (aLexeme×Bool):=nofun
def pt:Pt->List Dir×St E:=nofun
theorem g:D.G st pt:=fun Z a=>by cases a <;> kernel_rfl
theorem g0:D.G0 go pt:=fun Z ⟨_,_⟩=>by kernel_rfl
abbrev con:Con Tryz.prog E:=FD.con Tryz.func46 (by kernel_rfl) g g0
end lexicon_Find
def lexicon_Find (d:List aLexeme) (h:List UInt8):Option (aLexeme×Bool):=ev (lexicon_Find.go (d,h)) (fx lexicon_Find.st)
end Go.Ai.Mor
end

set_option maxRecDepth 100000
noncomputable section
namespace Go.Ai.Mor
open Go Go.Ai Go.Proofs
namespace morphology_Forms
inductive Pt
 | c1 (d:aLexeme×Bool) (e:aWords) (i:List ((List aFeature))) (h:List (List UInt8))
def D:FD pd := {f:=25,fn:=Tryz.f25,q:=49,pl:=pls 15 [(8,kp [4,5,6,7,9] [(4,1),(5,1),(6,4),(7,5)] [] [] [] false [(9,[.own (300009,1,9) .str])])],ps:=[(.st .aWords),.str],rs:=[(.sl .str),(.int .i64)],ex:=[some 9,none],dp:=2,cs:=[morphology_words_form.con,lexicon_Find.con],is:=[morphology_words_cells_1.con],il:=[inl 0 27 44 43 Tryz.f44 [] Tryz.func44 (by kernel_rfl)]}
def go:(aWords×(List UInt8))->Tr Pt ((List (List UInt8))×Int)
 | (e,m)=>
  .b (lexicon_Find e.fLexemes m) fun d=>
  .c (!d.2)
  (.r ([],4))
  (.b (morphology_words_cells_1 d.1.fID d.1.fCategory d.1.fStem d.1.fParadigm d.1.fFeatures e.fAlphabet e.fRules e.fParadigms e.fLexemes) fun p=>
   .j (.c1 d e p ([]:(List (List UInt8)))))
def st:Pt->Tr Pt ((List (List UInt8))×Int)
 | .c1 d e i h=>
  .l i
  (.r (h,0)) fun s t=>
   .b (morphology_words_form (morphology_words.mk e) d.1 s) fun o=>
   .c (!o.2)
   (.r ([],2))
   (.c (decide (h.length+([o.1]:List (List UInt8)).length<=lim))
    (.j (.c1 d e t (h++[o.1]))) .n)
def pt:Pt->List Dir×St E
 | .c1 d e i h=>([.r,.r,.r,.r,.r,.l,.r,.k],ms 43 49 [(4,hP 4),(5,hP 5),(6,hP 6),(7,hP 7),(9,hP 9)] [(4,.cells [.tv (.val nilS)]),(5,.cells [cI 0]),(6,.cells [cL (.st .aLetter) e.fAlphabet,cL (.st .aRule) e.fRules,cL (.st .aParadigm) e.fParadigms,cL (.st .aLexeme) e.fLexemes]),(7,.cells [cS d.1.fID,cS d.1.fCategory,cS d.1.fStem,cS d.1.fParadigm,cL (.st .aFeature) d.1.fFeatures]),(9,.cells [.tok (300009,1,9) .str h])] 0 [] [⟨[(.sl (.st .aFeature))],i⟩] true)
theorem g:D.G st pt:=fun Z a=>by cases a <;> kernel_rfl
theorem g0:D.G0 go pt:=fun Z ⟨_,_⟩=>by kernel_rfl
abbrev con:Con Tryz.prog E:=FD.con Tryz.func25 (by kernel_rfl) g g0
end morphology_Forms
def morphology_Forms (e:aWords) (m:List UInt8):Option ((List (List UInt8))×Int):=ev (morphology_Forms.go (e,m)) (fx morphology_Forms.st)
end Go.Ai.Mor
end

set_option maxRecDepth 100000
noncomputable section
namespace Go.Ai.Mor
open Go Go.Ai Go.Proofs
namespace morphology_Surface
inductive Pt
 | c1 (h:List aFeature) (d:aLexeme×Bool) (e:aWords) (i:Bool)
def D:FD pd := {f:=26,fn:=Tryz.f26,q:=56,pl:=pls 18 [(9,kp [2,8,9,11] [(8,4),(9,5)])],ps:=[(.st .aWords),.str,(.sl (.st .aFeature))],rs:=[.str,(.int .i64)],ex:=[none,none],cs:=[morphology_words_paradigm.con,morphology_words_form.con,lexicon_Find.con,paradigm_Number.con]}
def go:(aWords×(List UInt8)×(List aFeature))->Tr Pt ((List UInt8)×Int)
 | (e,k,h)=>
  .b (lexicon_Find e.fLexemes k) fun d=>
  .c (!d.2)
  (.r ([],4))
  (.c (!decide (d.1.fParadigm=[]))
   (.b (morphology_words_paradigm (morphology_words.mk e) d.1.fParadigm) fun m=>
    .b (paradigm_Number m.1 h) fun n=>
    .j (.c1 h d e (decide (0<=n))))
   (.j (.c1 h d e (decide ((h.length:Int)=0)))))
def st:Pt->Tr Pt ((List UInt8)×Int)
 | .c1 h d e i=>
  .c (!i)
  (.r ([],1))
  (.b (morphology_words_form (morphology_words.mk e) d.1 h) fun l=>
   .c (!l.2)
   (.r ([],2))
   (.r (l.1,0)))
def pt:Pt->List Dir×St E
 | .c1 h d e i=>([.r,.r,.r,.r,.r],ms 56 56 [(2,hL (.st .aFeature) h),(8,hP 8),(9,hP 9),(11,hB i)] [(8,.cells [cL (.st .aLetter) e.fAlphabet,cL (.st .aRule) e.fRules,cL (.st .aParadigm) e.fParadigms,cL (.st .aLexeme) e.fLexemes]),(9,.cells [cS d.1.fID,cS d.1.fCategory,cS d.1.fStem,cS d.1.fParadigm,cL (.st .aFeature) d.1.fFeatures])])
theorem g:D.G st pt:=fun Z a=>by cases a <;> kernel_rfl
theorem g0:D.G0 go pt:=fun Z ⟨_,_,_⟩=>by kernel_rfl
abbrev con:Con Tryz.prog E:=FD.con Tryz.func26 (by kernel_rfl) g g0
end morphology_Surface
def morphology_Surface (e:aWords) (k:List UInt8) (h:List aFeature):Option ((List UInt8)×Int):=ev (morphology_Surface.go (e,k,h)) (fx morphology_Surface.st)
end Go.Ai.Mor
end

set_option maxRecDepth 100000
noncomputable section
namespace Go.Ai.Mor
open Go Go.Ai Go.Proofs
namespace r03_Texts
inductive Pt
 | c1 (b d:List (List UInt8)) (e:Int)
def D:FD pd := {f:=31,fn:=Tryz.f31,q:=26,pl:=pls 13 [(5,kp [0,1,5])],ps:=[(.sl .str),(.sl .str)],rs:=[.bool],ex:=[none]}
def go:((List (List UInt8))×(List (List UInt8)))->Tr Pt (Bool)
 | (b,d)=>
  .c (!decide ((b.length:Int)=(d.length:Int)))
  (.r false)
  (.j (.c1 b d 0))
def st:Pt->Tr Pt (Bool)
 | .c1 b d e=>
  .c (decide (e<(b.length:Int)))
  (.c (decide (0<=e)&&decide (e<(b.length:Int)))
   (.c (decide (0<=e)&&decide (e<(d.length:Int)))
    (.c (!decide ((b.getD e.toNat default)=(d.getD e.toNat default)))
     (.r false)
     (.j (.c1 b d (IntKind.i64.wrap (e+1))))) .n) .n)
  (.r true)
def pt:Pt->List Dir×St E
 | .c1 b d e=>([.r,.r,.l,.r,.k],ms 26 26 [(0,hL .str b),(1,hL .str d),(5,hI e)])
theorem g:D.G st pt:=fun Z a=>by cases a <;> kernel_rfl
theorem g0:D.G0 go pt:=fun Z ⟨_,_⟩=>by kernel_rfl
abbrev con:Con Tryz.prog E:=FD.con Tryz.func31 (by kernel_rfl) g g0
end r03_Texts
def r03_Texts (b d:List (List UInt8)):Option (Bool):=ev (r03_Texts.go (b,d)) (fx r03_Texts.st)
end Go.Ai.Mor
end

set_option maxRecDepth 100000
noncomputable section
namespace Go.Ai.Mor
open Go Go.Ai Go.Proofs
namespace r11_Same
inductive Pt
 | c1 (e h:List aAnalysis) (d:Int)
def D:FD pd := {f:=19,fn:=Tryz.f19,q:=42,pl:=pls 13 [(5,kp [0,1,5])],ps:=[(.sl (.st .aAnalysis)),(.sl (.st .aAnalysis))],rs:=[.bool],ex:=[none],cs:=[r02_Same.con]}
def go:((List aAnalysis)×(List aAnalysis))->Tr Pt (Bool)
 | (e,h)=>
  .c (!decide ((e.length:Int)=(h.length:Int)))
  (.r false)
  (.j (.c1 e h 0))
def st:Pt->Tr Pt (Bool)
 | .c1 e h d=>
  .c (decide (d<(e.length:Int)))
  (.c (decide (0<=d)&&decide (d<(e.length:Int)))
   (.c (decide (0<=d)&&decide (d<(h.length:Int)))
    (.c (!decide (((e.getD d.toNat default).fLexeme)=((h.getD d.toNat default).fLexeme)))
     (.r false)
     (.c (decide (0<=d)&&decide (d<(e.length:Int)))
      (.c (decide (0<=d)&&decide (d<(h.length:Int)))
       (.b (r02_Same ((e.getD d.toNat default).fCell) ((h.getD d.toNat default).fCell)) fun i=>
        .c (!i)
        (.r false)
        (.j (.c1 e h (IntKind.i64.wrap (d+1))))) .n) .n)) .n) .n)
  (.r true)
def pt:Pt->List Dir×St E
 | .c1 e h d=>([.r,.r,.l,.r,.k],ms 42 42 [(0,hL (.st .aAnalysis) e),(1,hL (.st .aAnalysis) h),(5,hI d)])
theorem g:D.G st pt:=fun Z a=>by cases a <;> kernel_rfl
theorem g0:D.G0 go pt:=fun Z ⟨_,_⟩=>by kernel_rfl
abbrev con:Con Tryz.prog E:=FD.con Tryz.func19 (by kernel_rfl) g g0
end r11_Same
def r11_Same (e h:List aAnalysis):Option (Bool):=ev (r11_Same.go (e,h)) (fx r11_Same.st)
end Go.Ai.Mor
end

set_option maxRecDepth 100000
noncomputable section
namespace Go.Ai.Mor
open Go Go.Ai Go.Proofs
namespace l11_small
inductive Pt
 | c5 (e d:Int) (b:aWords)
 | c4 (e d:Int) (b:aWords) (i:Int)
 | c3 (d:Int) (b:aWords) (e:Int)
 | c2 (d:Int) (b:aWords) (m h:Int)
 | c1 (b:aWords) (d:Int)
def D:FD pd := {f:=12,fn:=Tryz.f12,q:=92,pl:=pls 35 [(5,kp [1,3] [(1,4)]),(14,kp [1,3,4,5,6] [(1,4),(4,3)]),(21,kp [1,3,4,5] [(1,4),(4,3)]),(23,kp [1,3,4,5,7] [(1,4),(4,3)]),(29,kp [1,3,5] [(1,4)])],ps:=[(.st .aWords)],rs:=[.bool],ex:=[none]}
def go:(aWords)->Tr Pt (Bool)
 | b=>
  .c (decide (12<(b.fAlphabet.length:Int)))
  (.r false)
  (.c (decide (4<(b.fRules.length:Int)))
   (.r false)
   (.c (decide (4<(b.fParadigms.length:Int)))
    (.r false)
    (.c (decide (8<(b.fLexemes.length:Int)))
     (.r false)
     (.j (.c1 b 0)))))
def st:Pt->Tr Pt (Bool)
 | .c5 e d b=>
  .c (decide (16<e))
  (.r false)
  (.j (.c1 b (IntKind.i64.wrap (d+1))))
 | .c4 e d b i=>
  .c (decide (i<(((b.fParadigms.getD d.toNat default).fSlots).length:Int)))
  (.c (decide (0<=i)&&decide (i<(((b.fParadigms.getD d.toNat default).fSlots).length:Int)))
   (.c (decide (6<((((b.fParadigms.getD d.toNat default).fSlots).getD i.toNat default).length:Int)))
    (.r false)
    (.j (.c4 e d b (IntKind.i64.wrap (i+1))))) .n)
  (.j (.c5 e d b))
 | .c3 d b e=>
  .j (.c4 e d b 0)
 | .c2 d b m h=>
  .c (decide (h<(((b.fParadigms.getD d.toNat default).fDimensions).length:Int)))
  (.c (decide (0<=h)&&decide (h<(((b.fParadigms.getD d.toNat default).fDimensions).length:Int)))
   (.c (decide (4<(((((b.fParadigms.getD d.toNat default).fDimensions).getD h.toNat default).fValues).length:Int)))
    (.r false)
    (.c (decide (0<=h)&&decide (h<(((b.fParadigms.getD d.toNat default).fDimensions).length:Int)))
     (.j (.c2 d b (IntKind.i64.wrap (m*(((((b.fParadigms.getD d.toNat default).fDimensions).getD h.toNat default).fValues).length:Int))) (IntKind.i64.wrap (h+1)))) .n)) .n)
  (.j (.c3 d b m))
 | .c1 b d=>
  .c (decide (d<(b.fParadigms.length:Int)))
  (.c (decide (0<=d)&&decide (d<(b.fParadigms.length:Int)))
   (.c (decide (3<(((b.fParadigms.getD d.toNat default).fDimensions).length:Int)))
    (.r false)
    (.c (decide (4<(((b.fParadigms.getD d.toNat default).fSlots).length:Int)))
     (.r false)
     (.j (.c2 d b 1 0)))) .n)
  (.r true)
def pt:Pt->List Dir×St E
 | .c5 e d b=>([.r,.r,.l,.r,.k,.L,.r,.l,.k,.r,.r,.r,.r],ms 92 92 [(1,hP 1),(3,hI d),(5,hI e)] [(1,.cells [cL (.st .aLetter) b.fAlphabet,cL (.st .aRule) b.fRules,cL (.st .aParadigm) b.fParadigms,cL (.st .aLexeme) b.fLexemes])])
 | .c4 e d b i=>([.r,.r,.l,.r,.k,.L,.r,.l,.k,.r,.r,.r,.r,.l,.r,.k],ms 92 92 [(1,hP 1),(3,hI d),(4,hP 4),(5,hI e),(7,hI i)] [(1,.cells [cL (.st .aLetter) b.fAlphabet,cL (.st .aRule) b.fRules,cL (.st .aParadigm) b.fParadigms,cL (.st .aLexeme) b.fLexemes]),(4,.cells [cS ((b.fParadigms.getD d.toNat default).fName),cL (.st .aDimension) ((b.fParadigms.getD d.toNat default).fDimensions),cL (.sl (.st .aAffix)) ((b.fParadigms.getD d.toNat default).fSlots)])])
 | .c3 d b e=>([.r,.r,.l,.r,.k,.L,.r,.l,.k,.r,.r,.r],ms 92 92 [(1,hP 1),(3,hI d),(4,hP 4),(5,hI e)] [(1,.cells [cL (.st .aLetter) b.fAlphabet,cL (.st .aRule) b.fRules,cL (.st .aParadigm) b.fParadigms,cL (.st .aLexeme) b.fLexemes]),(4,.cells [cS ((b.fParadigms.getD d.toNat default).fName),cL (.st .aDimension) ((b.fParadigms.getD d.toNat default).fDimensions),cL (.sl (.st .aAffix)) ((b.fParadigms.getD d.toNat default).fSlots)])])
 | .c2 d b m h=>([.r,.r,.l,.r,.k,.L,.r,.l,.k,.r,.r,.r,.l,.r,.k],ms 92 92 [(1,hP 1),(3,hI d),(4,hP 4),(5,hI m),(6,hI h)] [(1,.cells [cL (.st .aLetter) b.fAlphabet,cL (.st .aRule) b.fRules,cL (.st .aParadigm) b.fParadigms,cL (.st .aLexeme) b.fLexemes]),(4,.cells [cS ((b.fParadigms.getD d.toNat default).fName),cL (.st .aDimension) ((b.fParadigms.getD d.toNat default).fDimensions),cL (.sl (.st .aAffix)) ((b.fParadigms.getD d.toNat default).fSlots)])])
 | .c1 b d=>([.r,.r,.l,.r,.k],ms 92 92 [(1,hP 1),(3,hI d)] [(1,.cells [cL (.st .aLetter) b.fAlphabet,cL (.st .aRule) b.fRules,cL (.st .aParadigm) b.fParadigms,cL (.st .aLexeme) b.fLexemes])])
theorem g:D.G st pt:=fun Z a=>by cases a <;> kernel_rfl
theorem g0:D.G0 go pt:=fun Z _=>by kernel_rfl
abbrev con:Con Tryz.prog E:=FD.con Tryz.func12 (by kernel_rfl) g g0
end l11_small
def l11_small (b:aWords):Option (Bool):=ev (l11_small.go b) (fx l11_small.st)
end Go.Ai.Mor
end

namespace Go.Ai.Mor
open Go Go.Ai
deriving instance DecidableEq for aAnalysis
def admL (x:aItem) (l:aLetter):Bool:=(decide ((IntKind.u32.wrap (((BitVec.ofInt IntKind.u32.bits l.fClasses &&& BitVec.ofInt IntKind.u32.bits x.fMask).toNat:Int)))=x.fMask)&&(decide (x.fLetters=[])||(runesL x.fLetters).any fun r=>decide ((r:Int)=l.fRune))) != x.fNegated
def admR (a:List aLetter) (x:aItem) (r:Nat):Bool:=match a.find? fun l=>decide (l.fRune=(r:Int)) with
 | some l=>admL x l
 | none=>false
def rep (x:aItem):Bool:=x.fRepeated
def matchS (a:List aLetter) (p:List aItem) (s:List Nat):Bool:=mt rep (admR a) p s
def leftS (a:List aLetter) (r:aRule) (s:List Nat):Bool:=cond r.fInitial (matchS a r.fLeft s) ((List.range (s.length+1)).any fun i=>matchS a r.fLeft (s.drop i))
def rightS (a:List aLetter) (r:aRule) (s:List Nat):Bool:=cond r.fFinal (matchS a r.fRight s) ((List.range (s.length+1)).any fun i=>matchS a r.fRight (s.take i))
def siteB (a:List aLetter) (r:aRule) (w:List Nat) (i:Nat):Bool:=
 cond (decide (r.fFrom=0)) (leftS a r (w.take i)&&rightS a r (w.drop i)) (match w[i]? with
  | some c=>decide ((c:Int)=r.fFrom)&&(leftS a r (w.take i)&&rightS a r (w.drop (i+1)))
  | none=>false)
def sitesF (a:List aLetter) (r:aRule) (w:List Nat):Nat->Nat->List Int
 | 0,_=>[]
 | d+1,i=>cond (siteB a r w i) ((i:Int)::sitesF a r w d (i+1)) (sitesF a r w d (i+1))
def sitesS (a:List aLetter) (r:aRule) (w:List Nat):List Int:=sitesF a r w (w.length+1) 0
def putR (ins:Bool) (to' : List Nat):Nat->List Int->List Nat->List Nat
 | i,t,[]=>cond (decide (t.head? = some (i:Int))) to' []
 | i,t,c::w=>cond (decide (t.head? = some (i:Int))) (to' ++ (cond ins [c] []++putR ins to' (i+1) t.tail w)) (c::putR ins to' (i+1) t w)
def applyS (a:List aLetter) (r:aRule) (w:List Nat):List Nat:=putR (decide (r.fFrom=0)) (runesL r.fTo) 0 (sitesS a r w) w
def applyW (a:List aLetter) (r:aRule) (s:List UInt8):List UInt8×Int:=
 cond (ruleB a r&&wordB a s) (cond (decide ((applyS a r (runesL s)).length<=40)) (encs (applyS a r (runesL s)),0) ([],2)) ([],1)
def runS (a:List aLetter):List aRule->List UInt8->List UInt8×Int
 | [],s=>(s,0)
 | r::rs,s=>cond (decide ((applyW a r s).2=0)) (runS a rs (applyW a r s).1) ([],(applyW a r s).2)
def cascB (a:List aLetter) (rs:List aRule) (s:List UInt8):Bool:=decide (rs.length<=64)&&(admB a&&(wordB a s&&rs.all (ruleB a)))
def cascS (a:List aLetter) (rs:List aRule) (s:List UInt8):List UInt8×Int:=cond (cascB a rs s) (runS a rs s) ([],1)
def HC (w:aWords):Prop := ∀ u:List UInt8,u.length<=4194304->rewrite_Cascade w.fAlphabet w.fRules u=some (cascS w.fAlphabet w.fRules u)
def par0:aParadigm:=⟨[],[],[]⟩
def lex0:aLexeme:=⟨[],[],[],[],[]⟩
def pOf (w:aWords) (n:List UInt8):aParadigm:=(parP w n).getD par0
def lexP (w:aWords) (n:List UInt8):Option aLexeme:=w.fLexemes.find? fun x=>decide (x.fID=n)
def cellsOf (w:aWords) (x:aLexeme):List (List aFeature):=cond (decide (x.fParadigm=[])) [[]] (cells (pOf w x.fParadigm).fDimensions)
def underW (w:aWords) (x:aLexeme) (c:List aFeature):List UInt8×Int:=underS (pOf w x.fParadigm).fDimensions (pOf w x.fParadigm).fSlots x.fStem x.fFeatures c
def cascB' (w:aWords) (s:List UInt8):List UInt8×Bool:=((cascS w.fAlphabet w.fRules s).1,decide ((cascS w.fAlphabet w.fRules s).2=0))
def formW (w:aWords) (x:aLexeme) (c:List aFeature):List UInt8×Bool:=
 cond (decide (x.fParadigm=[])) (cascB' w x.fStem) (cond (decide ((underW w x c).2=0)) (cascB' w (underW w x c).1) ([],false))
def pairs (w:aWords) (x:aLexeme) (cs:List (List aFeature)):List (List UInt8×aAnalysis):=cs.flatMap fun c=>cond (formW w x c).2 [((formW w x c).1,⟨x.fID,c⟩)] []
def allS (w:aWords):List (List UInt8×aAnalysis):=w.fLexemes.flatMap fun x=>pairs w x (cellsOf w x)
def sel (s:List UInt8) (l:List (List UInt8×aAnalysis)):List aAnalysis:=(l.filter fun x=>decide (x.1=s)).map (·.2)
def anS (w:aWords) (s:List UInt8):List aAnalysis×Int:=cond (wordB w.fAlphabet s) (cond (decide ((sel s (allS w)).length<=256)) (sel s (allS w),0) ([],2)) ([],1)
def formsS (w:aWords) (n:List UInt8):List (List UInt8)×Int:=match lexP w n with
 | none=>([],4)
 | some x=>cond ((cellsOf w x).all fun c=>(formW w x c).2) ((cellsOf w x).map fun c=>(formW w x c).1,0) ([],2)
def surfS (w:aWords) (n:List UInt8) (c:List aFeature):List UInt8×Int:=match lexP w n with
 | none=>([],4)
 | some x=>cond ((cellsOf w x).any fun y=>decide (y=c)) (cond (formW w x c).2 ((formW w x c).1,0) ([],2)) ([],1)
theorem ok_par0:OkP par0:=⟨by simp [par0],⟨by simp [par0],fun d h=>by cases h⟩,⟨by simp [par0],fun s h=>by cases h⟩,by simp [par0,szS]⟩
section
variable {w:aWords} (hw:OkW w) (hp:partsB w=true)
include hw
theorem ok_pOf (n:List UInt8):OkP (pOf w n):=by
 unfold pOf
 cases h:parP w n with
 | none=>exact ok_par0
 | some p=>exact hw.pars p (List.mem_of_find?_eq_some h)
theorem ok_lexP {n:List UInt8} {x:aLexeme} (h:lexP w n=some x):okLex x:=hw.lexs x (List.mem_of_find?_eq_some h)
omit hw in
include hp in
theorem asc_pOf (n:List UInt8):ascSlots (pOf w n).fSlots:=by
 unfold pOf
 cases h:parP w n with
 | none=>intro s hs; cases hs
 | some p=>
   simp only [partsB,Bool.and_eq_true,List.all_eq_true] at hp
   exact (parB_facts (hp.2.2.2.2.1 p (List.mem_of_find?_eq_some h))).2.2.1
theorem paradigm_pOf (n:List UInt8):morphology_words_paradigm ⟨w⟩ n=some (pOf w n,(parP w n).isSome):=words_paradigm_eq hw n
theorem cells_1_eq (x:aLexeme):morphology_words_cells_1 x.fID x.fCategory x.fStem x.fParadigm x.fFeatures w.fAlphabet w.fRules w.fParadigms w.fLexemes=some (cellsOf w x):=by
 have ew:aWords.mk w.fAlphabet w.fRules w.fParadigms w.fLexemes=w:=rfl
 simp only [morphology_words_cells_1,morphology_words_cells_1.go,evs,ev_b,ew,paradigm_pOf hw,Option.bind_some,cellsOf]
 cases decide (x.fParadigm=[]) with
 | true=>rfl
 | false=>
   simp only [cond_false]
   have hd:=(ok_pOf hw x.fParadigm).dims
   rw [paradigm_Count_eq hd,Option.bind_some]
   generalize hb:(parP w x.fParadigm).isSome=b
   generalize pOf w x.fParadigm=p at hd ⊢
   have hc:=count_le p.fDimensions
   have hl:=cells_length p.fDimensions
   exact over (xs:=cells p.fDimensions) (f:=fun i (_:Unit)=>fx morphology_words_cells_1.st (.c1 (p,b) (count p.fDimensions:Int) i)) (g:=fun t _=>some t) (fun _=>by
    rw [fx_eq]; simp only [morphology_words_cells_1.st,evs,hl,↓cneg (Int.lt_irrefl _)]) (fun i c t _ hi hx ih=>by
    have ih:=ih ()
    rw [hl] at hi
    rw [fx_eq]; simp (disch:=omega) only [morphology_words_cells_1.st,evs,ev_b,↓cpos,paradigm_Cell_eq hd,Option.bind_some,cellS,↓cpos2,Int.toNat_natCast,hx,wsucc,ih]
    rfl) ()
include hp
theorem form_eq (hC:HC w) {x:aLexeme} (hx:okLex x) {c:List aFeature} (hc:c.length<=1048576):morphology_words_form ⟨w⟩ x c=some (formW w x c):=by
 have hps:=ok_pOf hw x.fParadigm
 have hst:=hx.stem
 have hsz:=hps.size
 have l1:∀ u:List UInt8,u.length<=4194304->fx morphology_words_form.st (.c1 ⟨w⟩ u)=some (cascB' w u):=fun u hu=>by
  rw [fx_eq]; simp only [morphology_words_form.st,evs,ev_b]
  rw [hC u hu]; rfl
 have hul:(underW w x c).1.length<=4194304:=by
  unfold underW underS
  split
  ·simp
  ·rename_i m hm
   have:=formS_length m (pOf w x.fParadigm).fSlots x.fStem
   cases decide (40<((runesL (formS m (pOf w x.fParadigm).fSlots x.fStem)).length:Int)) with
   | true=>simp
   | false=>simp only [cond_false]; omega
 simp only [morphology_words_form,morphology_words_form.go,evs,ev_b,paradigm_pOf hw,Option.bind_some,paradigm_Underlying_eq hps.dims hps.slots (asc_pOf hp x.fParadigm) hc hx.feat (show x.fStem.length+szS (pOf w x.fParadigm).fSlots<=2097152 by omega),cnot,formW]
 show cond (decide (x.fParadigm=[])) (fx morphology_words_form.st (.c1 ⟨w⟩ x.fStem)) (cond (decide ((underW w x c).2=0)) (fx morphology_words_form.st (.c1 ⟨w⟩ (underW w x c).1)) (some ([],false)))=_
 rw [l1 _ (by omega),l1 _ hul]
 cases decide (x.fParadigm=[]) <;> cases decide ((underW w x c).2=0) <;> rfl
omit hp in
theorem cellsOf_len (x:aLexeme):(cellsOf w x).length<=4096 /\ ∀ c ∈ cellsOf w x,c.length<=4:=by
 unfold cellsOf
 cases decide (x.fParadigm=[]) with
 | true=>simp
 | false=>exact ⟨by rw [cond_false,cells_length]; exact count_le _,fun c hc=>(cells_mem hc).2.2⟩
theorem All_eq (hC:HC w):morphology_All_1 w.fAlphabet w.fRules w.fParadigms w.fLexemes=some (allS w):=by
 have ew:aWords.mk w.fAlphabet w.fRules w.fParadigms w.fLexemes=w:=rfl
 have hll:=hw.ll
 exact over (xs:=w.fLexemes) (f:=fun i (_:Unit)=>fx morphology_All_1.st (.c1 w.fAlphabet w.fRules w.fParadigms w.fLexemes i)) (g:=fun t _=>some (t.flatMap fun x=>pairs w x (cellsOf w x))) (fun _=>by
  rw [fx_eq]; simp only [morphology_All_1.st,evs,↓cneg (Int.lt_irrefl _),List.flatMap_nil]) (fun e x t _ he hx ih=>by
  have ih:=ih ()
  have hxo:=hw.lexs x (by rw [<- hx]; exact getD_mem he)
  have key:∀ cs:List (List aFeature),(∀ c ∈ cs,c.length<=4)->fx morphology_All_1.st (.c2 w.fAlphabet w.fRules w.fParadigms w.fLexemes e cs)=some (pairs w x cs++t.flatMap fun x=>pairs w x (cellsOf w x)):=by
   intro cs
   induction cs with
   | nil=>
     intro _
     rw [fx_eq]; simp (disch:=omega) only [morphology_All_1.st,evs,lcase,wsucc,ih]; rfl
   | cons c cs ihc=>
     intro hcs
     have ihc:=ihc fun y hy=>hcs y (List.mem_cons_of_mem _ hy)
     have hcl:=hcs c (by simp)
     have l3:∀ b,fx morphology_All_1.st (.c3 w.fAlphabet w.fRules w.fParadigms w.fLexemes e cs b)=cond b (some []) (some (pairs w x cs++t.flatMap fun x=>pairs w x (cellsOf w x))):=fun b=>by
      rw [fx_eq]; simp only [morphology_All_1.st,evs,ihc]
     rw [fx_eq]; simp only [morphology_All_1.st,evs,ev_b,lcase,ew,Int.toNat_natCast,hx]
     rw [form_eq hw hp hC hxo (by omega),Option.bind_some,l3,l3]
     simp only [pairs,List.flatMap_cons]
     cases (formW w x c).2 <;> rfl
  rw [fx_eq]; simp (disch:=omega) only [morphology_All_1.st,evs,ev_b,↓cpos,↓cpos2,Int.toNat_natCast,hx,cells_1_eq hw,Option.bind_some]
  rw [key _ (cellsOf_len hw x).2,List.flatMap_cons]) ()
theorem Analyses_eq (hC:HC w) {s:List UInt8} (hs:s.length<=1048576):morphology_Analyses w s=some (anS w s):=by
 have key:∀ (l:List (List UInt8×aAnalysis)) (e:List aAnalysis),e.length<=256->fx morphology_Analyses.st (.c1 s l e)=some (cond (decide (e.length+(sel s l).length<=256)) (e++sel s l,0) ([],2)):=by
  intro l
  induction l with
  | nil=>intro e he; rw [fx_eq]; simp only [morphology_Analyses.st,evs,lcase]; simp [sel,he]
  | cons y l ih=>
    intro e he
    rw [fx_eq]; simp only [morphology_Analyses.st,evs,lcase,cnot]
    by_cases h:y.1=s
    ·rw [cpos h]
     have e1:sel s (y::l)=y.2::sel s l:=by simp [sel,h]
     rw [e1]
     by_cases h6:e.length=256
     ·rw [cpos (by omega),cneg (by simp; omega)]
     ·rw [cneg (by omega),cpos (by simp only [len,len0]; omega),ih _ (by simp; omega)]
      simp only [List.length_append,List.length_cons,List.length_nil,List.append_assoc,List.singleton_append]
      rw [show e.length+(0+1)+(sel s l).length=e.length+((sel s l).length+1) by omega]
    ·rw [cneg h]
     have e1:sel s (y::l)=sel s l:=by simp [sel,h]
     rw [e1,ih _ he]
 simp only [morphology_Analyses,morphology_Analyses.go,evs,ev_b,isWord_eq hw.al hs,All_eq hw hp hC,Option.bind_some,cnot,anS]
 rw [key _ _ (by simp)]
 simp only [List.length_nil,Nat.zero_add,List.nil_append]
 cases wordB w.fAlphabet s <;> rfl
theorem Ambiguity_eq (hC:HC w) {s:List UInt8} (hs:s.length<=1048576):morphology_Ambiguity w s=some (((anS w s).1.length:Int),(anS w s).2):=by
 simp only [morphology_Ambiguity,morphology_Ambiguity.go,evs,ev_b,Analyses_eq hw hp hC hs,Option.bind_some]
omit hp in
theorem copied_eq {x:aLexeme} (hx:okLex x):lexicon_copied x=some x:=by
 have hf:=hx.feat.1
 simp only [lexicon_copied,lexicon_copied.go,evs,ev_b,slices_Clone_eq hf,Option.bind_some,slices_Clip_aFeature_aFeature,slices_Clip_aFeature_aFeature.go]
 rw [cpos3 (by omega) (by omega) trivial,Option.bind_some,Int.toNat_natCast,List.take_length]
omit hp in
theorem Find_eq (n:List UInt8):lexicon_Find w.fLexemes n=some ((lexP w n).getD lex0,(lexP w n).isSome):=by
 have hll:=hw.ll
 have h1:lexicon_Index w.fLexemes n=some (fstIdx (fun x:aLexeme=>decide (x.fID=n)) w.fLexemes 0):=
  overI (xs:=w.fLexemes) (f:=fun i (_:Unit)=>fx lexicon_Index.st (.c1 n w.fLexemes i)) (g:=fun i t _=>some (fstIdx (fun x:aLexeme=>decide (x.fID=n)) t i)) (fun _=>by
   rw [fx_eq]; simp only [lexicon_Index.st,evs,↓cneg (Int.lt_irrefl _),fstIdx]) (fun i x t _ hi hx _ _ ih=>by
   have ih:=ih ()
   rw [fx_eq]; simp (disch:=omega) only [lexicon_Index.st,evs,↓cpos,↓cpos2,Int.toNat_natCast,hx,wsucc,ih,fstIdx]
   cases decide (x.fID=n) <;> rfl) ()
 simp only [lexicon_Find,lexicon_Find.go,evs,ev_b,h1,Option.bind_some,lexP]
 rcases fst_find (fun x:aLexeme=>decide (x.fID=n)) w.fLexemes with ⟨g1,g2⟩ | ⟨j,g1,g2,g3⟩
 ·rw [g1,g2]; rfl
 ·rw [g3,g2,cpos (by omega),cpos2 (by omega) (by omega),Int.toNat_natCast,copied_eq hw (hw.lexs _ (getD_mem g1))]; rfl
theorem Forms_eq (hC:HC w) (n:List UInt8):morphology_Forms w n=some (formsS w n):=by
 simp only [morphology_Forms,morphology_Forms.go,evs,ev_b,Find_eq hw,Option.bind_some,cnot,formsS]
 cases hx:lexP w n with
 | none=>rfl
 | some x=>
   have hxo:=ok_lexP hw hx
   obtain ⟨hl,hc⟩:=cellsOf_len hw x
   simp only [Option.getD_some,Option.isSome_some,cond_true,cells_1_eq hw,Option.bind_some]
   have key:∀ (cs:List (List aFeature)) (out:List (List UInt8)),(∀ c ∈ cs,c.length<=4)->out.length+cs.length<=4096->fx morphology_Forms.st (.c1 (x,true) w cs out)=some (cond (cs.all fun c=>(formW w x c).2) (out++cs.map fun c=>(formW w x c).1,0) ([],2)):=by
    intro cs
    induction cs with
    | nil=>intro out _ _; rw [fx_eq]; simp [morphology_Forms.st,evs,lcase]
    | cons c cs ih=>
      intro out hcs ho
      simp only [List.length_cons] at ho
      rw [fx_eq]; simp only [morphology_Forms.st,evs,ev_b,lcase]
      rw [form_eq hw hp hC hxo (show c.length<=1048576 by have:=hcs c (by simp); omega),Option.bind_some,cnot]
      simp only [List.all_cons]
      cases (formW w x c).2 with
      | false=>rfl
      | true=>
        rw [cond_true,cpos (by simp only [len,len0]; omega),ih _ (fun y hy=>hcs y (List.mem_cons_of_mem _ hy)) (by simp; omega)]
        simp
   have:=key (cellsOf w x) [] hc (by simpa using hl)
   simpa using this
theorem Surface_eq (hC:HC w) (n:List UInt8) {c:List aFeature} (hc:c.length<=1048576):morphology_Surface w n c=some (surfS w n c):=by
 simp only [morphology_Surface,morphology_Surface.go,evs,ev_b,Find_eq hw,Option.bind_some,cnot,surfS]
 cases hx:lexP w n with
 | none=>rfl
 | some x=>
   have hxo:=ok_lexP hw hx
   have hd:=(ok_pOf hw x.fParadigm).dims
   simp only [Option.getD_some,Option.isSome_some,cond_true,paradigm_pOf hw,Option.bind_some,paradigm_Number_eq hd hc,numP_numR,numR,fstIdx_nonneg]
   have l1:∀ b,fx morphology_Surface.st (.c1 c (x,true) w b)=some (cond b (cond (formW w x c).2 ((formW w x c).1,0) ([],2)) ([],1)):=fun b=>by
    rw [fx_eq]; simp only [morphology_Surface.st,evs,ev_b,form_eq hw hp hC hxo hc,Option.bind_some,cnot]
    cases b <;> cases (formW w x c).2 <;> rfl
   rw [l1,l1]
   simp only [cellsOf]
   cases decide (x.fParadigm=[]) with
   | false=>rfl
   | true=>
     simp only [cond_true,List.any_cons,List.any_nil,Bool.or_false]
     congr 3
     cases c with
     | nil=>simp
     | cons y t=>simp; omega
end
theorem ref03_Texts_eq {a b:List (List UInt8)} (hl:a.length<=1048576):r03_Texts a b=some (decide (a=b)):=by
 simp only [r03_Texts,r03_Texts.go,evs,cnot]
 by_cases h:a.length=b.length
 ·rw [cpos (by omega)]
  have key:=overI (xs:=a) (f:=fun i (_:Unit)=>fx r03_Texts.st (.c1 a b i)) (g:=fun i r _=>some (decide (r=b.drop i))) (fun _=>by
   rw [fx_eq]; simp only [r03_Texts.st,evs,↓cneg (Int.lt_irrefl _)]
   rw [List.drop_of_length_le (by omega)]; rfl) (fun i x r _ hi hx _ _ ih=>by
   have ih:=ih ()
   obtain ⟨y,t,g1,g2,g3⟩:=dropCons (xs:=b) (i:=i) (by omega)
   rw [fx_eq]; simp (disch:=omega) only [r03_Texts.st,evs,↓cpos,↓cpos2,Int.toNat_natCast,hx,g2,cnot,wsucc,ih,g1,g3]
   by_cases e:x=y <;> simp [e]) ()
  simpa using key
 ·rw [cneg (by omega)]
  have:a≠b:=fun e=>h (by rw [e])
  simp [this]
theorem ref11_Same_eq {a b:List aAnalysis} (hl:a.length<=1048576) (hc:∀ x ∈ a,x.fCell.length<=1048576):r11_Same a b=some (decide (a=b)):=by
 simp only [r11_Same,r11_Same.go,evs,cnot]
 by_cases h:a.length=b.length
 ·rw [cpos (by omega)]
  have key:=overI (xs:=a) (f:=fun i (_:Unit)=>fx r11_Same.st (.c1 a b i)) (g:=fun i r _=>some (decide (r=b.drop i))) (fun _=>by
   rw [fx_eq]; simp only [r11_Same.st,evs,↓cneg (Int.lt_irrefl _)]
   rw [List.drop_of_length_le (by omega)]; rfl) (fun i x r _ hi hx _ _ ih=>by
   have ih:=ih ()
   have hxc:=hc x (by rw [<- hx]; exact getD_mem hi)
   obtain ⟨y,t,g1,g2,g3⟩:=dropCons (xs:=b) (i:=i) (by omega)
   rw [fx_eq]; simp (disch:=omega) only [r11_Same.st,evs,ev_b,↓cpos,↓cpos2,Int.toNat_natCast,hx,g2,ref02_Same_eq hxc,Option.bind_some,cnot,wsucc,ih,g1,g3]
   obtain ⟨x1,x2⟩:=x
   obtain ⟨y1,y2⟩:=y
   by_cases e1:x1=y1 <;> by_cases e2:x2=y2 <;> simp [e1,e2]) ()
  simpa using key
 ·rw [cneg (by omega)]
  have:a≠b:=fun e=>h (by rw [e])
  simp [this]
end Go.Ai.Mor

namespace Go.Ai.Mor
open Go Go.Ai
abbrev Z (k:Nat) (t:Ty Nm) (x:den E.Γ t):Nat:=szT (szD E k) t x
theorem z_feature {k B:Nat} {f:aFeature} (h:Z (k+2) (.st .aFeature) f<=B):f.fName.length+f.fValue.length+3<=B:=by
 have e:Z (k+2) (.st .aFeature) f=(f.fName.length+1)+(f.fValue.length+1)+1:=rfl
 omega
theorem z_rec {k B:Nat} (hB:B<=1048576) {r:List aFeature} (h:Z (k+2) (.sl (.st .aFeature)) r<=B):okR r/\r.length+1<=B:=by
 obtain ⟨h1,h2⟩:=sl_le h
 have h1:r.length+1<=B:=h1
 exact ⟨⟨by omega,fun f hf=>by have:=z_feature (h2 f hf |> Nat.le_of_succ_le); exact ⟨by omega,by omega⟩⟩,h1⟩
theorem z_affix {k B:Nat} (hB:B<=1048576) {x:aAffix} (h:Z (k+3) (.st .aAffix) x<=B):okAffix x:=by
 have e:Z (k+3) (.st .aAffix) x=Z (k+2) (.sl (.st .aFeature)) x.fWhen+((x.fPrefix.length+1)+(x.fSuffix.length+1))+1:=rfl
 obtain ⟨h1,h2⟩:=z_rec (k:=k) (B:=B) hB (r:=x.fWhen) (by omega)
 exact ⟨h1,by omega,by omega,by omega⟩
theorem z_slots {k B:Nat} (hB:B<=1048576) {ss:List (List aAffix)} (h:Z (k+3) (.sl (.sl (.st .aAffix))) ss<=B):okSlots ss/\szS ss+1<=B:=by
 obtain ⟨h1,h2⟩:=sl_le h
 have h1:ss.length+1<=B:=h1
 refine ⟨⟨by omega,fun s hs => ?_⟩,?_⟩
 ·obtain ⟨h3,h4⟩:=sl_le (h2 s hs |> Nat.le_of_succ_le)
  have h3:s.length+1<=B:=h3
  exact ⟨by omega,fun x hx=>z_affix hB (h4 x hx |> Nat.le_of_succ_le)⟩
 ·have e:Z (k+3) (.sl (.sl (.st .aAffix))) ss=(ss.map (Z (k+3) (.sl (.st .aAffix)))).sum+1:=rfl
  have:szS ss<=(ss.map (Z (k+3) (.sl (.st .aAffix)))).sum:=by
   unfold szS
   refine sum_mono fun s _ => ?_
   have e2:Z (k+3) (.sl (.st .aAffix)) s=(s.map (Z (k+3) (.st .aAffix))).sum+1:=rfl
   have:szA s<=(s.map (Z (k+3) (.st .aAffix))).sum:=by
    unfold szA
    refine sum_mono fun x _ => ?_
    have e3:Z (k+3) (.st .aAffix) x=Z (k+2) (.sl (.st .aFeature)) x.fWhen+((x.fPrefix.length+1)+(x.fSuffix.length+1))+1:=rfl
    omega
   omega
  omega
theorem z_dims {k B:Nat} (hB:B<=1048576) {ds:List aDimension} (h:Z (k+2) (.sl (.st .aDimension)) ds<=B):okDims ds:=by
 obtain ⟨h1,h2⟩:=sl_le h
 have h1:ds.length+1<=B:=h1
 refine ⟨by omega,fun d hd => ?_⟩
 have h3:Z (k+2) (.st .aDimension) d+1<=B:=h2 d hd
 have e:Z (k+2) (.st .aDimension) d=(d.fName.length+1)+Z (k+1) (.sl .str) d.fValues+1:=rfl
 have h4:Z (k+1) (.sl .str) d.fValues<=B:=by omega
 obtain ⟨h5,h6⟩:=sl_le h4
 have h5:d.fValues.length+1<=B:=h5
 refine ⟨by omega,by omega,fun v hv => ?_⟩
 have h7:(v.length+1)+1<=B:=h6 v hv
 omega
theorem z_par {k B:Nat} (hB:B<=1048576) {p:aParadigm} (h:Z (k+4) (.st .aParadigm) p<=B):OkP p/\szS p.fSlots+3<=B:=by
 have e:Z (k+4) (.st .aParadigm) p=(p.fName.length+1)+(Z (k+3) (.sl (.st .aDimension)) p.fDimensions+Z (k+3) (.sl (.sl (.st .aAffix))) p.fSlots)+1:=rfl
 have hd:=szT_pos (E:=E) (k+2) (.sl (.st .aDimension)) p.fDimensions
 have hd' : 1<=Z (k+3) (.sl (.st .aDimension)) p.fDimensions:=hd
 obtain ⟨h1,h2⟩:=z_slots (k:=k) (B:=B - 2) (by omega) (ss:=p.fSlots) (by omega)
 have hdd:Z (k+1+2) (.sl (.st .aDimension)) p.fDimensions<=B:=by show Z (k+3) (.sl (.st .aDimension)) p.fDimensions<=B; omega
 exact ⟨⟨by omega,z_dims (k:=k+1) hB hdd,h1,by omega⟩,by omega⟩
theorem z_letters {k B:Nat} (hB:B<=1048576) {a:List aLetter} (h:Z (k+1) (.sl (.st .aLetter)) a<=B):a.length<=1048576:=by
 obtain ⟨h1,_⟩:=sl_le h
 have h1:a.length+1<=B:=h1
 omega
theorem z_items {k B:Nat} (hB:B<=1048576) {p:List aItem} (h:Z (k+1) (.sl (.st .aItem)) p<=B):okItems p:=by
 obtain ⟨h1,h2⟩:=sl_le h
 have h1:p.length+1<=B:=h1
 refine ⟨by omega,fun x hx => ?_⟩
 have h3:Z (k+1) (.st .aItem) x+1<=B:=h2 x hx
 have e:Z (k+1) (.st .aItem) x=1+((x.fLetters.length+1)+(1+1))+1:=rfl
 omega
theorem z_rule {k B:Nat} (hB:B<=1048576) {r:aRule} (h:Z (k+2) (.st .aRule) r<=B):okRule r:=by
 have e:Z (k+2) (.st .aRule) r=1+((r.fTo.length+1)+(Z (k+1) (.sl (.st .aItem)) r.fLeft+(Z (k+1) (.sl (.st .aItem)) r.fRight+(1+1))))+1:=rfl
 exact ⟨by omega,z_items (k:=k) hB (by omega),z_items (k:=k) hB (by omega)⟩
theorem z_lex {k B:Nat} (hB:B<=1048576) {x:aLexeme} (h:Z (k+3) (.st .aLexeme) x<=B):okLex x:=by
 have e:Z (k+3) (.st .aLexeme) x=(x.fID.length+1)+((x.fCategory.length+1)+((x.fStem.length+1)+((x.fParadigm.length+1)+Z (k+2) (.sl (.st .aFeature)) x.fFeatures)))+1:=rfl
 exact ⟨by omega,by omega,by omega,by omega,(z_rec (k:=k) (B:=B) hB (by omega)).1⟩
theorem z_words {k B:Nat} (hB:B<=1048576) {w:aWords} (h:Z (k+5) (.st .aWords) w<=B):OkW w:=by
 have e:Z (k+5) (.st .aWords) w=Z (k+4) (.sl (.st .aLetter)) w.fAlphabet+(Z (k+4) (.sl (.st .aRule)) w.fRules+(Z (k+4) (.sl (.st .aParadigm)) w.fParadigms+Z (k+4) (.sl (.st .aLexeme)) w.fLexemes))+1:=rfl
 have hr:Z (k+2+2) (.sl (.st .aRule)) w.fRules<=B:=by show Z (k+4) (.sl (.st .aRule)) w.fRules<=B; omega
 have hx:Z (k+1+3) (.sl (.st .aLexeme)) w.fLexemes<=B:=by show Z (k+4) (.sl (.st .aLexeme)) w.fLexemes<=B; omega
 have hp:Z (k+4) (.sl (.st .aParadigm)) w.fParadigms<=B:=by omega
 have ha:Z (k+3+1) (.sl (.st .aLetter)) w.fAlphabet<=B:=by show Z (k+4) (.sl (.st .aLetter)) w.fAlphabet<=B; omega
 obtain ⟨r1,r2⟩:=sl_le hr
 have r1:w.fRules.length+1<=B:=r1
 obtain ⟨x1,x2⟩:=sl_le hx
 have x1:w.fLexemes.length+1<=B:=x1
 obtain ⟨p1,p2⟩:=sl_le hp
 have p1:w.fParadigms.length+1<=B:=p1
 exact ⟨z_letters hB ha,by omega,fun r hr=>z_rule (k:=k+2) hB (Nat.le_of_succ_le (r2 r hr)),by omega,fun p hp=>(z_par hB (Nat.le_of_succ_le (p2 p hp))).1,by omega,fun x hx=>z_lex (k:=k+1) hB (Nat.le_of_succ_le (x2 x hx))⟩
abbrev Z8 (t:Ty Nm) (x:den E.Γ t):Nat:=szT (szD E 8) t x
theorem z8_rec {B:Nat} (hB:B<=1048576) {r:List aFeature} (h:Z8 (.sl (.st .aFeature)) r<=B):okR r/\r.length+1<=B:=z_rec (k:=6) hB h
theorem z8_words {B:Nat} (hB:B<=1048576) {w:aWords} (h:Z8 (.st .aWords) w<=B):OkW w:=z_words (k:=3) hB h
theorem z8_lex {B:Nat} (hB:B<=1048576) {x:aLexeme} (h:Z8 (.st .aLexeme) x<=B):okLex x:=z_lex (k:=5) hB h
end Go.Ai.Mor

namespace Go.Ai.Mor
open Go Go.Ai
theorem admits_eq {x:aItem} (l:aLetter):pattern_admits x l=some (admL x l):=by
 have l2:∀ b,fx pattern_admits.st (.c2 x b)=some (b != x.fNegated):=fun b=>by
  rw [fx_eq]; simp only [pattern_admits.st,evs]; cases b <;> cases x.fNegated <;> rfl
 have l1:fx pattern_admits.st (.c1 l x false 0)=some (((runesL x.fLetters).any fun r=>decide ((r:Int)=l.fRune)) != x.fNegated):=by
  have:=overR (s:=x.fLetters) (f:=fun p (h:Bool)=>fx pattern_admits.st (.c1 l x h p)) (g:=fun rs h=>some ((h||rs.any fun r=>decide ((r:Int)=l.fRune)) != x.fNegated)) (fun p h hp=>by
   rw [fx_eq]; simp only [pattern_admits.st,evs,l2]; rw [cneg hp]; simp) (fun p r rs h hp hr ih=>by
   rw [fx_eq]; simp only [pattern_admits.st,evs]
   rw [cpos hp,hr,ih,ih,List.any_cons]
   cases h <;> simp) false
  simpa using this
 simp only [pattern_admits,pattern_admits.go,evs,l1,l2,admL]
 cases decide (IntKind.u32.wrap (((BitVec.ofInt IntKind.u32.bits l.fClasses &&& BitVec.ofInt IntKind.u32.bits x.fMask).toNat:Int))=x.fMask) <;> cases decide (x.fLetters=[]) <;> simp
theorem mapO_map {α β:Type} {f:α->Option β} {g:α->β} : ∀ {xs:List α},(∀ x ∈ xs,f x=some (g x))->mapO f xs=some (xs.map g)
 | [],_=>rfl
 | x::xs,h=>by simp only [mapO,h x (by simp),Option.bind_some,mapO_map fun y hy=>h y (List.mem_cons_of_mem _ hy),List.map_cons]
theorem machine_eq {a:List aLetter} (ha:a.length<=1048576) {p:List aItem} (hp:p.length<=1048576):pattern_machine a p=some (p.map fun x=>a.map (admL x)):=by
 unfold pattern_machine
 rw [cpos2 (by simp only [len,len0]; omega) (by simp only [len,len0]; omega)]
 exact mapO_map fun x _=>mapO_map fun l _=>admits_eq l
theorem bitT:∀ n:Nat,n<16 -> ∀ k:Nat,k<4->decide (IntKind.u8.wrap (((BitVec.ofInt IntKind.u8.bits (Int.fdiv (n:Int) (2 ^ (min k IntKind.u8.bits))) &&& BitVec.ofInt IntKind.u8.bits 1).toNat:Int))=1)=n.testBit k:=by decide +kernel
theorem bitF:∀ n:Nat,n<16 -> ∀ k:Nat,k<4->decide (IntKind.u8.wrap (((BitVec.ofInt IntKind.u8.bits (Int.fdiv (n:Int) (2 ^ (min k IntKind.u8.bits))) &&& BitVec.ofInt IntKind.u8.bits 1).toNat:Int))=0) = !n.testBit k:=by decide +kernel
theorem setB:∀ n:Nat,n<16 -> ∀ k:Nat,k<4->IntKind.u8.wrap (((BitVec.ofInt IntKind.u8.bits (n:Int) ||| BitVec.ofInt IntKind.u8.bits (IntKind.u8.wrap (1*2 ^ (min k IntKind.u8.bits)))).toNat:Int))=((n ||| 2 ^ k:Nat):Int):=by decide +kernel
theorem or_lt {n k:Nat} (hn:n<16) (hk:k<4):n ||| 2 ^ k<16:=Nat.or_lt_two_pow (n:=4) hn (Nat.pow_lt_pow_right (by omega) hk)
theorem bit_or (n d k:Nat):(n ||| 2 ^ d).testBit k=(n.testBit k||decide (d=k)):=by rw [Nat.testBit_or,Nat.testBit_two_pow]
def clN:Nat->List aItem->Nat->Nat
 | _,[],n=>n
 | d,x::t,n=>clN (d+1) t (cond (rep x&&n.testBit d) (n ||| 2 ^ (d+1)) n)
def nxN (m:Nat) (ok:Nat->Bool):Nat->List aItem->Nat->Nat
 | _,[],s=>s
 | o,x::t,s=>nxN m ok (o+1) t (cond (m.testBit o&&ok o) (cond (rep x) (s ||| 2 ^ o) (s ||| 2 ^ (o+1))) s)
theorem clN_lt:∀ (t:List aItem) (d n:Nat),d+t.length<=3->n<16->clN d t n<16
 | [],_,_,_,h=>h
 | x::t,d,n,hd,hn=>by
   simp only [List.length_cons] at hd
   simp only [clN]
   refine clN_lt t (d+1) _ (by omega) ?_
   cases rep x&&n.testBit d with
   | true=>exact or_lt hn (by omega)
   | false=>exact hn
theorem nxN_lt (m:Nat) (ok:Nat->Bool):∀ (t:List aItem) (o s:Nat),o+t.length<=3->s<16->nxN m ok o t s<16
 | [],_,_,_,h=>h
 | x::t,o,s,hd,hn=>by
   simp only [List.length_cons] at hd
   simp only [nxN]
   refine nxN_lt m ok t (o+1) _ (by omega) ?_
   cases m.testBit o&&ok o with
   | true=>cases rep x with
     | true=>exact or_lt hn (by omega)
     | false=>exact or_lt hn (by omega)
   | false=>exact hn
theorem clN_cl (p:List aItem) (n:Nat):∀ (t:List aItem) (d m:Nat),p.drop d=t->(∀ k,k<=d->m.testBit k=cl rep n.testBit p k)->(∀ k,d<k->m.testBit k=n.testBit k) -> ∀ k,k<=d+t.length->(clN d t m).testBit k=cl rep n.testBit p k
 | [],d,m,_,h1,_,k,hk=>h1 k (by simpa using hk)
 | x::t,d,m,ht,h1,h2,k,hk=>by
   simp only [List.length_cons] at hk
   have hx:p[d]? = some x:=by
    have:(p.drop d)[0]? = some x:=by rw [ht]; rfl
    simpa using this
   have ht' : p.drop (d+1)=t:=by rw [<- List.drop_drop,ht]; rfl
   have hb:∀ j,(cond (rep x&&m.testBit d) (m ||| 2 ^ (d+1)) m).testBit j=(m.testBit j||((rep x&&m.testBit d)&&decide (d+1=j))):=fun j=>by
    cases rep x&&m.testBit d with
    | true=>rw [cond_true,bit_or]; simp
    | false=>simp
   simp only [clN]
   refine clN_cl p n t (d+1) _ ht' (fun j hj => ?_) (fun j hj => ?_) k (by omega)
   ·rw [hb]
    by_cases e:d+1=j
    ·subst e
     simp only [cl,hx,h2 (d+1) (by omega),<- h1 d (Nat.le_refl _),decide_true,Bool.and_true]
     rw [Bool.and_comm]
    ·rw [h1 j (by omega)]; simp [e]
   ·rw [hb,h2 j (by omega)]
    have : ¬ d+1=j:=by omega
    simp [this]
theorem nxN_nxt {β:Type} (adm:aItem->β->Bool) (c:β) (p:List aItem) (m:Nat) (ok:Nat->Bool) (hok:∀ o x,p[o]? = some x->ok o=adm x c):∀ (t:List aItem) (o s:Nat),p.drop o=t ->
  (∀ k,s.testBit k=((decide (k<o)&&(match p[k]? with | some x=>m.testBit k&&(adm x c&&rep x) | none=>false))||(match k with | 0=>false | j+1=>decide (j<o)&&(match p[j]? with | some x=>m.testBit j&&(adm x c && !rep x) | none=>false)))) ->
  ∀ k,(nxN m ok o t s).testBit k=nxt rep adm m.testBit p c k
 | [],o,s,ht,hs,k=>by
   have hlen:p.length<=o:=by
    rcases Nat.lt_or_ge o p.length with h | h
    ·rw [List.drop_eq_getElem_cons h] at ht; cases ht
    ·exact h
   simp only [nxN,hs,nxt]
   congr 1
   ·cases hx:p[k]? with
    | none=>simp
    | some x=>
      have hk:=(List.getElem?_eq_some_iff.1 hx).1
      have:k<o:=by omega
      simp [this]
   ·cases k with
    | zero=>rfl
    | succ j=>
      dsimp only
      cases hx:p[j]? with
      | none=>simp
      | some x=>
        have hk:=(List.getElem?_eq_some_iff.1 hx).1
        have:j<o:=by omega
        simp [this]
 | x::t,o,s,ht,hs,k=>by
   have hx:p[o]? = some x:=by
    have:(p.drop o)[0]? = some x:=by rw [ht]; rfl
    simpa using this
   have ht' : p.drop (o+1)=t:=by rw [<- List.drop_drop,ht]; rfl
   simp only [nxN]
   refine nxN_nxt adm c p m ok hok t (o+1) _ ht' (fun j => ?_) k
   rw [hok o x hx]
   have e1:(cond (m.testBit o&&adm x c) (cond (rep x) (s ||| 2 ^ o) (s ||| 2 ^ (o+1))) s).testBit j=(s.testBit j||((decide (o=j)&&(m.testBit o&&(adm x c&&rep x)))||(decide (o+1=j)&&(m.testBit o&&(adm x c && !rep x))))):=by
    cases m.testBit o <;> cases adm x c <;> cases rep x <;> simp [bit_or,Nat.testBit_two_pow]
   rw [e1,hs j]
   cases j with
   | zero=>
     by_cases h0:o=0
     ·subst h0; simp [hx]
     ·have:0<o:=by omega
      simp [h0,this]
   | succ j=>
     have a1:decide (j+1<o+1)=(decide (j+1<o)||decide (o=j+1)):=by
      by_cases h1:o=j+1
      ·simp [h1]
      ·by_cases h2:j+1<o
       ·simp [h2]; omega
       ·simp [h1,h2]; omega
     have a2:decide (j<o+1)=(decide (j<o)||decide (o+1=j+1)):=by
      by_cases h1:o=j
      ·simp [h1]
      ·by_cases h2:j<o
       ·simp [h2]; omega
       ·simp [h1,h2]; omega
     dsimp only
     rw [a1,a2]
     by_cases h1:o=j+1
     ·subst h1
      simp only [hx]
      have : ¬ (j+1+1=j+1):=by omega
      have h3:j<j+1:=by omega
      simp [h3]
      cases m.testBit (j+1) <;> cases adm x c <;> cases rep x <;> simp
     ·by_cases h2:o=j
      ·subst h2
       simp only [hx]
       simp
      ·have : ¬ (o+1=j+1):=by omega
       simp [h1,h2]
section
variable {ι β:Type} {rep:ι->Bool} {adm:ι->β->Bool}
theorem cl_congr {S S' : Nat->Bool} {p:List ι} (h:∀ k,k<=p.length->S k=S' k):∀ k,k<=p.length->cl rep S p k=cl rep S' p k
 | 0,hk=>h 0 hk
 | k+1,hk=>by
   simp only [cl,h (k+1) hk]
   rw [cl_congr h k (by omega)]
theorem nxt_congr {S S' : Nat->Bool} {p:List ι} {c:β} (h:∀ k,k<=p.length->S k=S' k) {k:Nat} (hk:k<=p.length):nxt rep adm S p c k=nxt rep adm S' p c k:=by
 simp only [nxt,h k hk]
 cases k with
 | zero=>rfl
 | succ j=>simp only [h j (by omega)]
end
theorem closed_eq {p:List aItem} (hp:p.length<=3) {n:Nat} (hn:n<16):pattern_closed p (n:Int)=some ((clN 0 p n:Nat):Int):=
 overJ (xs:=p) (f:=fun i (n:Nat)=>fx pattern_closed.st (.c1 p (n:Int) i)) (g:=fun i t n=>some ((clN i t n:Nat):Int)) (I:=fun _ n=>n<16) (fun n _=>by
  rw [fx_eq]; simp only [pattern_closed.st,evs,↓cneg (Int.lt_irrefl _),clN]) (fun i x t n hi hn hx _ _ ih=>by
  have hw:IntKind.i64.wrap ((i:Int)+1)=((i+1:Nat):Int):=wsucc (by omega)
  rw [fx_eq]; simp only [pattern_closed.st,evs,hw,Int.toNat_natCast,hx,bitT n hn i (by omega),setB n hn (i+1) (by omega)]
  rw [cpos (by omega),cpos2 (by omega) (by omega),cneg (by omega),cneg (by omega),ih n hn,ih _ (or_lt hn (by omega))]
  simp only [clN,rep]
  cases x.fRepeated <;> cases n.testBit i <;> rfl) hn
def admI (a:List aLetter) (x:aItem) (c:Int):Bool:=admL x (a.getD c.toNat default)
theorem step_eq {a:List aLetter} {p:List aItem} (hp:p.length<=3) {l:List Int} {h:Nat} (hh:h<l.length) (hc:0<=l.getD h default/\l.getD h default<(a.length:Int)) (t:List Int) {m:Nat} (hm:m<16) :
  fx pattern_lengths.st (.c3 (h:Int) l t p (p.map fun x=>a.map (admL x)) (m:Int) 0 0)=fx pattern_lengths.st (.c4 (h:Int) l t p (p.map fun x=>a.map (admL x)) ((nxN m (fun o=>admI a (p.getD o default) (l.getD h default)) 0 p 0:Nat):Int)):=by
 exact overJ (xs:=p) (f:=fun o (s:Nat)=>fx pattern_lengths.st (.c3 (h:Int) l t p (p.map fun x=>a.map (admL x)) (m:Int) (s:Int) o)) (g:=fun o u s=>fx pattern_lengths.st (.c4 (h:Int) l t p (p.map fun x=>a.map (admL x)) ((nxN m (fun o=>admI a (p.getD o default) (l.getD h default)) o u s:Nat):Int))) (I:=fun _ s=>s<16) (fun s _=>by
  rw [fx_eq]; simp only [pattern_lengths.st,evs,↓cneg (Int.lt_irrefl _),nxN]) (fun o x u s ho hs hx _ _ ih=>by
  have hw:IntKind.i64.wrap ((o:Int)+1)=((o+1:Nat):Int):=wsucc (by omega)
  have hrow:(p.map fun x=>a.map (admL x)).getD o default=a.map (admL x):=by
   have:p[o]=x:=by rw [<- hx]; simp [ho]
   simp [ho,this]
  have hcell:(a.map (admL x)).getD (l.getD h default).toNat default=admI a x (l.getD h default):=by
   unfold admI
   have h2:(l.getD h default).toNat<a.length:=by omega
   generalize (l.getD h default).toNat=q at h2 ⊢
   simp [h2]
  rw [fx_eq]; simp only [pattern_lengths.st,evs,hw,Int.toNat_natCast,hx,bitF m hm o (by omega),setB s hs o (by omega),setB s hs (o+1) (by omega),hrow,hcell,List.length_map]
  rw [cpos (by omega),cpos2 (by omega) (by omega),cneg (by omega),cpos2 (by omega) (by omega),cpos2 hc.1 hc.2,cneg (by omega),cneg (by omega),ih s hs,ih _ (or_lt hs (by omega)),ih _ (or_lt hs (by omega))]
  simp only [nxN,hx,rep]
  cases m.testBit o <;> cases admI a x (l.getD h default) <;> cases x.fRepeated <;> rfl) (s:=0) (by omega)
theorem lengths_eq {a:List aLetter} (ha:a.length<=1048576) {p:List aItem} (hp:p.length<=3) {l:List Int} (hl:l.length<=1048576) (hc:∀ c ∈ l,0<=c/\c<(a.length:Int)) :
  pattern_lengths a p l=some ((lens rep (admI a) p l).map fun n:Nat=>(n:Int)):=by
 have loop:∀ (d h m:Nat) (t:List Int),h+d=l.length+1->h<=l.length->m<16->(∀ k,k<=p.length->m.testBit k=plc rep (admI a) p (l.take h) (plc0 rep p) k)->t.length<=h ->
   fx pattern_lengths.st (.c1 l p (p.map fun x=>a.map (admL x)) t (m:Int) (h:Int))=some (t++(lensF rep (admI a) p l d h).map fun n:Nat=>(n:Int)):=by
  intro d
  induction d with
  | zero=>intro h m t h1 h2; omega
  | succ d ih=>
    intro h m t h1 h2 hm hst ht
    have hb:m.testBit p.length=mt rep (admI a) p (l.take h):=by rw [hst _ (Nat.le_refl _),plc_final]
    have hw:IntKind.i64.wrap ((h:Int)+1)=((h+1:Nat):Int):=wsucc (by omega)
    have l2:∀ t' : List Int,t'.length<=h+1->fx pattern_lengths.st (.c2 (h:Int) l p (p.map fun x=>a.map (admL x)) (m:Int) t')=some (t' ++ (lensF rep (admI a) p l d (h+1)).map fun n:Nat=>(n:Int)):=by
     intro t' ht'
     rw [fx_eq]; simp only [pattern_lengths.st,evs]
     by_cases he:h=l.length
     ·rw [cpos (by omega)]
      have:d=0:=by omega
      subst this
      simp [lensF]
     ·rw [cneg (by omega)]
      by_cases h0:m=0
      ·rw [cpos (by omega),lensF_none]
       ·simp
       ·intro j hj
        have e:l.take j=l.take h++(l.take j).drop h:=by
         have:=List.take_append_drop h (l.take j)
         rw [List.take_take,show min h j=h by omega] at this
         exact this.symm
        rw [e]
        exact plc_none rep (admI a) p _ _ fun k hk=>by rw [<- hst k hk,h0]; simp
      ·rw [cneg (by omega),cpos2 (by omega) (by omega)]
       have hcc:=hc (l.getD h default) (getD_mem (by omega))
       rw [step_eq hp (by omega) hcc _ hm,fx_eq]
       simp only [pattern_lengths.st,evs,ev_b,hw]
       have hn:=nxN_lt m (fun o=>admI a (p.getD o default) (l.getD h default)) p 0 0 (by omega) (by omega)
       rw [closed_eq hp hn,Option.bind_some]
       refine ih (h+1) _ t' (by omega) (by omega) (clN_lt p 0 _ (by omega) hn) (fun k hk => ?_) ht'
       have htk:l.take (h+1)=l.take h++[l.getD h default]:=by
        rw [List.take_succ_eq_append_getElem (by omega)]
        have:l.getD h default=l[h]'(by omega):=by simp [show h<l.length by omega]
        rw [this]
       rw [htk,plc_snoc,clN_cl p _ p 0 _ rfl (fun k hk => ?_) (fun k _=>rfl) k (by omega)]
       ·refine cl_congr (fun k hk => ?_) k hk
        rw [nxN_nxt (admI a) (l.getD h default) p m _ (fun o x hx=>by
         have:p.getD o default=x:=by simp [hx]
         rw [this]) p 0 0 rfl (fun k => ?_) k]
        ·exact nxt_congr hst hk
        ·cases k <;> simp
       ·have:k=0:=by omega
        subst this; rfl
    rw [fx_eq]; simp only [pattern_lengths.st,evs,Int.toNat_natCast,bitT m hm p.length (by omega),hb]
    rw [cneg (by omega),cpos (by simp only [len,len0]; omega),l2 _ (by simp; omega),l2 t (by omega)]
    simp only [lensF]
    cases mt rep (admI a) p (l.take h) <;> simp
 have h16:clN 0 p 1<16:=clN_lt p 0 1 (by omega) (by omega)
 have hcl:=closed_eq hp (n:=1) (by omega)
 rw [show ((1:Nat):Int)=1 from rfl] at hcl
 simp only [pattern_lengths,pattern_lengths.go,evs,ev_b,machine_eq ha (show p.length<=1048576 by omega),hcl,Option.bind_some]
 have h0:∀ k,k<=0->(1:Nat).testBit k=cl rep (fun i=>(1:Nat).testBit i) p k:=fun k hk=>by
  have:k=0:=by omega
  subst this
  rfl
 have hst:∀ k,k<=p.length->(clN 0 p 1).testBit k=plc rep (admI a) p (l.take 0) (plc0 rep p) k:=fun k hk=>by
  rw [List.take_zero,plc,plc0,clN_cl p 1 p 0 1 rfl h0 (fun k _=>rfl) k (by omega)]
  refine cl_congr (fun k _ => ?_) k hk
  have:=Nat.testBit_two_pow (n:=0) (m:=k)
  rw [Nat.pow_zero] at this
  rw [this]
  exact decide_eq_decide.2 ⟨fun h=>h.symm,fun h=>h.symm⟩
 have:=loop (l.length+1) 0 (clN 0 p 1) [] (by omega) (by omega) h16 hst (Nat.zero_le _)
 simpa [lens] using this
end Go.Ai.Mor

set_option maxRecDepth 100000
noncomputable section
namespace Go.Ai.Mor
open Go Go.Ai Go.Proofs
namespace l11_boats
inductive Pt
def D:FD pd := {f:=30,fn:=Tryz.f30,q:=21,ps:=[],rs:=[(.st .aWords)],ex:=[none]}
def go:(Unit)->Tr Pt (aWords)
 | _=>
  .r (aWords.mk [aLetter.mk 97 1,aLetter.mk 101 1,aLetter.mk 116 2,aLetter.mk 107 2] [] ([aParadigm.mk [110,111,117,110] ([aDimension.mk [110,117,109,98,101,114] ([[115,103],[112,108]])]) ([[aAffix.mk ([aFeature.mk [110,117,109,98,101,114] [112,108]]) [] [116]]])]) ([aLexeme.mk [98,111,97,116] [110] [107,97,101] [110,111,117,110] [],aLexeme.mk [98,111,97,116,115] [110] [107,97,101,116] [] [],aLexeme.mk [116,101,97] [110] [116,101] [110,111,117,110] []]))
def st:Pt->Tr Pt (aWords):=nofun
def pt:Pt->List Dir×St E:=nofun
theorem g:D.G st pt:=fun Z a=>by cases a <;> kernel_rfl
theorem g0:D.G0 go pt:=fun Z _=>by kernel_rfl
abbrev con:Con Tryz.prog E:=FD.con Tryz.func30 (by kernel_rfl) g g0
end l11_boats
def l11_boats:Option (aWords):=ev (l11_boats.go ()) (fx l11_boats.st)
end Go.Ai.Mor
end

set_option maxRecDepth 100000
noncomputable section
namespace Go.Ai.Mor
open Go Go.Ai Go.Proofs
namespace l11_awake
inductive Pt
def D:FD pd := {f:=13,fn:=Tryz.f13,q:=57,ps:=[],rs:=[.bool],ex:=[none],cs:=[morphology_Check.con,morphology_Analyses.con,r11_Same.con,morphology_Ambiguity.con,morphology_Forms.con,l11_boats.con,r03_Texts.con]}
def go:(Unit)->Tr Pt (Bool)
 | _=>
  .b l11_boats fun d=>
  .b (morphology_Forms d [98,111,97,116]) fun e=>
  .b (morphology_Analyses d [107,97,101,116]) fun h=>
  .b (morphology_Ambiguity d [116,101]) fun i=>
  .b (morphology_Check d) fun j=>
  .c (decide (j=0))
  (.c (decide (e.2=0))
   (.c (decide (h.2=0))
    (.c (decide (i.2=0))
     (.b (r03_Texts e.1 ([[107,97,101],[107,97,101,116]])) fun k=>
      .c k
      (.b (r11_Same h.1 ([aAnalysis.mk [98,111,97,116] ([aFeature.mk [110,117,109,98,101,114] [112,108]]),aAnalysis.mk [98,111,97,116,115] []])) fun l=>
       .c l
       (.r (decide (i.1=1)))
       (.r false))
      (.r false))
     (.r false))
    (.r false))
   (.r false))
  (.r false)
def st:Pt->Tr Pt (Bool):=nofun
def pt:Pt->List Dir×St E:=nofun
theorem g:D.G st pt:=fun Z a=>by cases a <;> kernel_rfl
theorem g0:D.G0 go pt:=fun Z _=>by kernel_rfl
abbrev con:Con Tryz.prog E:=FD.con Tryz.func13 (by kernel_rfl) g g0
end l11_awake
def l11_awake:Option (Bool):=ev (l11_awake.go ()) (fx l11_awake.st)
end Go.Ai.Mor
end

set_option maxRecDepth 100000
noncomputable section
namespace Go.Ai.Mor
open Go Go.Ai Go.Proofs
namespace l11_valid
inductive Pt
def D:FD pd := {f:=16,fn:=Tryz.f16,q:=10,ps:=[(.st .aWords)],rs:=[.bool],ex:=[none],cs:=[l11_small.con,r11_Check.con]}
def go:(aWords)->Tr Pt (Bool)
 | d=>
  .b (l11_small d) fun e=>
  .c e
  (.b (r11_Check d) fun h=>
   .r (decide (h=0)))
  (.r false)
def st:Pt->Tr Pt (Bool):=nofun
def pt:Pt->List Dir×St E:=nofun
theorem g:D.G st pt:=fun Z a=>by cases a <;> kernel_rfl
theorem g0:D.G0 go pt:=fun Z _=>by kernel_rfl
abbrev con:Con Tryz.prog E:=FD.con Tryz.func16 (by kernel_rfl) g g0
end l11_valid
def l11_valid (d:aWords):Option (Bool):=ev (l11_valid.go d) (fx l11_valid.st)
end Go.Ai.Mor
end

set_option maxRecDepth 100000
noncomputable section
namespace Go.Ai.Mor
open Go Go.Ai Go.Proofs
namespace l11_MorphologyCheck
inductive Pt
def D:FD pd := {f:=3,fn:=Tryz.f3,q:=15,ps:=[(.st .aWords)],rs:=[.bool],ex:=[none],cs:=[l11_small.con,l11_awake.con,morphology_Check.con,r11_Check.con]}
def go:(aWords)->Tr Pt (Bool)
 | d=>
  .b (l11_small d) fun i=>
  .c (!i)
  (.b l11_awake fun j=>
   .r j)
  (.b l11_awake fun k=>
   .c k
   (.b (morphology_Check d) fun e=>
    .b (r11_Check d) fun h=>
    .r (decide (e=h)))
   (.r false))
def st:Pt->Tr Pt (Bool):=nofun
def pt:Pt->List Dir×St E:=nofun
theorem g:D.G st pt:=fun Z a=>by cases a <;> kernel_rfl
theorem g0:D.G0 go pt:=fun Z _=>by kernel_rfl
abbrev con:Con Tryz.prog E:=FD.con Tryz.func3 (by kernel_rfl) g g0
end l11_MorphologyCheck
def l11_MorphologyCheck (d:aWords):Option (Bool):=ev (l11_MorphologyCheck.go d) (fx l11_MorphologyCheck.st)
end Go.Ai.Mor
end

namespace Go.Ai.Mor
open Go Go.Ai
theorem letters_isWord_eq {a:List aLetter} (ha:a.length<=1048576) {s:List UInt8} (hs:s.length<=4194304):rewrite_letters_isWord a s=some (wordB a s):=by
 simp only [rewrite_letters_isWord,rewrite_letters_isWord.go,evs,ev_b,valStr (show s.length<=1099511627776 by omega),Option.bind_some,cnot,wordB]
 cases Lib.validD s with
 | false=>rfl
 | true=>
   simp only [cond_true,Bool.true_and]
   have key:=overRJ (s:=s) (f:=fun q (n:Nat)=>fx rewrite_letters_isWord.st (.c1 a s (n:Int) q)) (g:=fun rs n=>some ((rs.all fun c=>inA a (c:Int))&&decide (n+rs.length<=40\/rs=[]))) (I:=fun q n=>n<=q) (fun q n hq _=>by
    rw [fx_eq]; simp only [rewrite_letters_isWord.st,evs]; rw [cneg hq]; simp) (fun q c rs n hq hI hc h1 ih=>by
    rw [fx_eq]; simp only [rewrite_letters_isWord.st,evs,ev_b]
    rw [cpos hq,hc,wsucc (by omega),letters_has_eq ha,Option.bind_some,cnot,ih (n+1) (by omega)]
    by_cases h4:40<n+1
    ·rw [cpos (by omega)]
     have:decide (n+(c::rs).length<=40\/c::rs=[])=false:=by simp; omega
     rw [this]; simp
    ·rw [cneg (by omega)]
     have:decide (n+(c::rs).length<=40\/c::rs=[])=decide (n+1+rs.length<=40\/rs=[]):=by
      refine decide_eq_decide.2 ⟨fun h => ?_,fun h => .inl ?_⟩
      ·rcases h with h | h
       ·simp only [List.length_cons] at h; left; omega
       ·cases h
      ·rcases h with h | rfl
       ·simp only [List.length_cons]; omega
       ·simp; omega
     rw [this,List.all_cons]
     cases inA a (c:Int) <;> rfl) (x:=0) (Nat.le_refl _)
   refine key.trans ?_
   congr 2
   exact decide_eq_decide.2 ⟨fun h=>by
    rcases h with h | h
    ·omega
    ·rw [h]; simp,fun h => .inl (by omega)⟩
theorem applyW_len (a:List aLetter) (r:aRule) (s:List UInt8):(applyW a r s).1.length<=160:=by
 unfold applyW
 cases ruleB a r&&wordB a s with
 | false=>simp
 | true=>
   by_cases h:(applyS a r (runesL s)).length<=40
   ·have:=encs_len (applyS a r (runesL s))
    simp only [h,decide_true,cond_true]; omega
   ·simp [h]
def trS (a:List aLetter):List aRule->List (List UInt8)->List (List UInt8)×Int
 | [],i=>(i,0)
 | r::t,i=>cond (decide ((applyW a r (i.getLastD [])).2=0)) (trS a t (i++[(applyW a r (i.getLastD [])).1])) ([],(applyW a r (i.getLastD [])).2)
theorem trS_run (a:List aLetter):∀ (t:List aRule) (pre:List (List UInt8)) (u:List UInt8),
  ((runS a t u).2=0 /\ ∃ pre',trS a t (pre++[u])=(pre' ++ [(runS a t u).1],0)/\pre'.length=pre.length+t.length)\/((runS a t u).2≠0/\(runS a t u).1=[]/\trS a t (pre++[u])=([],(runS a t u).2))
 | [],pre,u => .inl ⟨rfl,pre,rfl,rfl⟩
 | r::t,pre,u=>by
   have e:(pre++[u]).getLastD []=u:=by simp
   simp only [runS,trS,e]
   by_cases h:(applyW a r u).2=0
   ·rw [cpos h,cpos h]
    rcases trS_run a t (pre++[u]) (applyW a r u).1 with ⟨h1,pre',h2,h3⟩ | h1
    ·exact .inl ⟨h1,pre',h2,by rw [h3]; simp; omega⟩
    ·exact .inr h1
   ·rw [cneg h,cneg h]
    exact .inr ⟨h,rfl,rfl⟩
theorem Trace_eq {a:List aLetter} (ha:a.length<=1048576) {rs:List aRule} (hr:∀ r ∈ rs,okRule r) (hA:∀ r ∈ rs,∀ u:List UInt8,u.length<=4194304->rewrite_Apply a r u=some (applyW a r u)) {u:List UInt8} (hu:u.length<=4194304) :
  rewrite_Trace a rs u=some (cond (cascB a rs u) (trS a rs [u]) ([],1)):=by
 simp only [rewrite_Trace,rewrite_Trace.go,evs,ev_b,letters_adm_eq ha,letters_isWord_eq ha hu,Option.bind_some,cnot,cascB]
 by_cases h64:rs.length<=64
 ·rw [cneg (by omega)]
  simp only [h64,decide_true,Bool.true_and]
  have h3:fx rewrite_Trace.st (.c3 a rs [u] 0)=some (trS a rs [u]):=
   overJ (xs:=rs) (f:=fun o (i:List (List UInt8))=>fx rewrite_Trace.st (.c3 a rs i o)) (g:=fun _ t i=>some (trS a t i)) (I:=fun o i => ∃ pre v,i=pre++[v]/\v.length<=4194304/\i.length=o+1) (fun i _=>by
    rw [fx_eq]; simp only [rewrite_Trace.st,evs,↓cneg (Int.lt_irrefl _),trS]) (fun o r t i ho hI hx _ _ ih=>by
    obtain ⟨pre,v,rfl,hv,hl⟩:=hI
    have hrm:r ∈ rs:=by rw [<- hx]; exact getD_mem ho
    have hw:IntKind.i64.wrap (((pre++[v]).length:Int) - 1)=(pre.length:Int):=by
     have:(pre++[v]).length=pre.length+1:=by simp
     rw [wrap64] <;> omega
    have hlp:pre.length<(pre++[v]).length:=by simp
    have hg:(pre++[v]).getD pre.length default=v:=by simp
    have e:(pre++[v]).getLastD []=v:=by simp
    have hal:=applyW_len a r v
    rw [fx_eq]; simp (disch:=omega) only [rewrite_Trace.st,evs,ev_b,↓cpos,↓cpos2,Int.toNat_natCast,hx,hw,hg,hA r hrm v hv,Option.bind_some,cnot,trS,e,wsucc]
    by_cases h0:(applyW a r v).2=0
    ·rw [cpos h0,cpos h0,cpos (by simp only [len,len0] at *; omega),ih _ ⟨pre++[v],_,rfl,by omega,by simp at hl ⊢; omega⟩]
    ·rw [cneg h0,cneg h0]) (s:=[u]) ⟨[],u,rfl,hu,rfl⟩
  have h1:fx rewrite_Trace.st (.c1 a rs u 0)=some (cond (rs.all (ruleB a)) (trS a rs [u]) ([],1)):=
   over (xs:=rs) (f:=fun o (_:Unit)=>fx rewrite_Trace.st (.c1 a rs u o)) (g:=fun t _=>some (cond (t.all (ruleB a)) (trS a rs [u]) ([],1))) (fun _=>by
    rw [fx_eq]; simp only [rewrite_Trace.st,evs,↓cneg (Int.lt_irrefl _),fx_eq rewrite_Trace.st (.c2 ..),h3,List.all_nil,cond_true]) (fun o r t _ ho hx ih=>by
    have ih:=ih ()
    have hro:=hr r (by rw [<- hx]; exact getD_mem ho)
    rw [fx_eq]; simp (disch:=omega) only [rewrite_Trace.st,evs,ev_b,↓cpos,↓cpos2,Int.toNat_natCast,hx,rewrite_Valid_eq ha hro,Option.bind_some,cnot,wsucc,ih,List.all_cons]
    cases ruleB a r <;> rfl) ()
  rw [h1]
  cases admB a <;> cases wordB a u <;> rfl
 ·rw [cpos (by omega)]; simp [h64]
theorem Cascade_eq {a:List aLetter} (ha:a.length<=1048576) {rs:List aRule} (hr:∀ r ∈ rs,okRule r) (hA:∀ r ∈ rs,∀ u:List UInt8,u.length<=4194304->rewrite_Apply a r u=some (applyW a r u)) {u:List UInt8} (hu:u.length<=4194304) :
  rewrite_Cascade a rs u=some (cascS a rs u):=by
 simp only [rewrite_Cascade,rewrite_Cascade.go,evs,ev_b,Trace_eq ha hr hA hu,Option.bind_some,cnot,cascS]
 cases hb:cascB a rs u with
 | false=>rfl
 | true=>
   simp only [cond_true]
   rcases trS_run a rs [] u with ⟨h1,pre',h2,h3⟩ | ⟨h1,h2,h3⟩
   ·rw [List.nil_append] at h2
    have hl:(pre' ++ [(runS a rs u).1]).length=pre'.length+1:=by simp
    have hrl:rs.length<=64:=by simp only [cascB,Bool.and_eq_true,decide_eq_true_eq] at hb; exact hb.1
    have hw:IntKind.i64.wrap (((pre' ++ [(runS a rs u).1]).length:Int) - 1)=(pre'.length:Int):=by
     simp only [List.length_nil] at h3
     rw [wrap64] <;> omega
    rw [h2]
    dsimp only
    simp only [hw]
    rw [cpos trivial,cpos2 (by omega) (by omega),Int.toNat_natCast]
    congr 1
    refine Prod.ext ?_ h1.symm
    simp
   ·rw [List.nil_append] at h3
    rw [h3]
    dsimp only
    rw [cneg h1]
    congr 1
    exact Prod.ext h2.symm rfl
def boats:aWords:=⟨[⟨97,1⟩,⟨101,1⟩,⟨116,2⟩,⟨107,2⟩],[],[⟨[110,111,117,110],[⟨[110,117,109,98,101,114],[[115,103],[112,108]]⟩],[[⟨[⟨[110,117,109,98,101,114],[112,108]⟩],[],[116]⟩]]⟩],[⟨[98,111,97,116],[110],[107,97,101],[110,111,117,110],[]⟩,⟨[98,111,97,116,115],[110],[107,97,101,116],[],[]⟩,⟨[116,101,97],[110],[116,101],[110,111,117,110],[]⟩]⟩
theorem boats_eq:l11_boats=some boats:=rfl
theorem okR_nil:okR []:=⟨by simp,fun f h=>by cases h⟩
theorem ok_boats:OkW boats where
 al:=by decide
 rl:=by decide
 rules:=fun r h=>by cases h
 pl:=by decide
 pars:=fun p h=>by
  simp only [boats,List.mem_cons,List.not_mem_nil,or_false] at h
  subst h
  refine ⟨by decide,⟨by decide,fun d hd => ?_⟩,⟨by decide,fun s hs => ?_⟩,by decide⟩
  ·simp only [List.mem_cons,List.not_mem_nil,or_false] at hd
   subst hd
   exact ⟨by decide,by decide,by decide⟩
  ·simp only [List.mem_cons,List.not_mem_nil,or_false] at hs
   subst hs
   refine ⟨by decide,fun x hx => ?_⟩
   simp only [List.mem_cons,List.not_mem_nil,or_false] at hx
   subst hx
   exact ⟨⟨by decide,fun f hf=>by simp only [List.mem_cons,List.not_mem_nil,or_false] at hf; subst hf; exact ⟨by decide,by decide⟩⟩,by decide,by decide,by decide⟩
 ll:=by decide
 lexs:=fun x h=>by
  simp only [boats,List.mem_cons,List.not_mem_nil,or_false] at h
  rcases h with rfl | rfl | rfl <;> exact ⟨by decide,by decide,by decide,by decide,okR_nil⟩
theorem HC_boats:HC boats:=fun _ hu=>Cascade_eq (by decide) (fun r h=>by cases h) (fun r h=>by cases h) hu
theorem boats_check:checkS boats=0:=by decide +kernel
theorem boats_parts:partsB boats=true:=by decide +kernel
theorem boats_forms:formsS boats [98,111,97,116]=([[107,97,101],[107,97,101,116]],0):=by decide +kernel
theorem boats_an:anS boats [107,97,101,116]=([⟨[98,111,97,116],[⟨[110,117,109,98,101,114],[112,108]⟩]⟩,⟨[98,111,97,116,115],[]⟩],0):=by decide +kernel
theorem boats_am:anS boats [116,101]=([⟨[116,101,97],[⟨[110,117,109,98,101,114],[115,103]⟩]⟩],0):=by decide +kernel
theorem awake_eq:l11_awake=some true:=by
 simp only [l11_awake,l11_awake.go,evs,ev_b,boats_eq,Option.bind_some]
 rw [Forms_eq ok_boats boats_parts HC_boats,boats_forms,Analyses_eq ok_boats boats_parts HC_boats (by decide),boats_an,Ambiguity_eq ok_boats boats_parts HC_boats (by decide),boats_am,morphology_Check_eq ok_boats,boats_check]
 simp only [Option.bind_some]
 rw [ref03_Texts_eq (by decide),ref11_Same_eq (by decide) (by decide)]
 rfl
def smP (p:aParadigm):Bool:=decide (p.fDimensions.length<=3)&&(decide (p.fSlots.length<=4)&&((p.fDimensions.all fun d=>decide (d.fValues.length<=4))&&((p.fSlots.all fun s=>decide (s.length<=6))&&decide (prod p.fDimensions<=16))))
def smallB (w:aWords):Bool:=decide (w.fAlphabet.length<=12)&&(decide (w.fRules.length<=4)&&(decide (w.fParadigms.length<=4)&&(decide (w.fLexemes.length<=8)&&w.fParadigms.all smP)))
theorem small_eq {w:aWords} (hw:OkW w):l11_small w=some (smallB w):=by
 simp only [l11_small,l11_small.go,evs,smallB]
 by_cases h1:w.fAlphabet.length<=12
 ·by_cases h2:w.fRules.length<=4
  ·by_cases h3:w.fParadigms.length<=4
   ·by_cases h4:w.fLexemes.length<=8
    ·rw [cneg (by omega),cneg (by omega),cneg (by omega),cneg (by omega)]
     simp only [h1,h2,h3,h4,decide_true,Bool.true_and]
     exact over (xs:=w.fParadigms) (f:=fun i (_:Unit)=>fx l11_small.st (.c1 w i)) (g:=fun t _=>some (t.all smP)) (fun _=>by
      rw [fx_eq]; simp only [l11_small.st,evs,↓cneg (Int.lt_irrefl _),List.all_nil]) (fun d p t _ hd hp ih=>by
      have ih:=ih ()
      have hpo:=hw.pars p (by rw [<- hp]; exact getD_mem hd)
      rw [fx_eq]; simp (disch:=omega) only [l11_small.st,evs,↓cpos,↓cpos2,Int.toNat_natCast,hp,List.all_cons]
      by_cases g1:p.fDimensions.length<=3
      ·by_cases g2:p.fSlots.length<=4
       ·rw [cneg (by omega),cneg (by omega)]
        have h5:∀ e:Nat,fx l11_small.st (.c5 (e:Int) d w)=cond (decide (e<=16)) (some (t.all smP)) (some false):=fun e=>by
         rw [fx_eq]; simp (disch:=omega) only [l11_small.st,evs,wsucc,ih]
         by_cases h:e<=16
         ·rw [cneg (by omega),cpos h]
         ·rw [cpos (by omega),cneg h]
        have h4:∀ e:Nat,fx l11_small.st (.c4 (e:Int) d w 0)=cond (p.fSlots.all fun s=>decide (s.length<=6)) (cond (decide (e<=16)) (some (t.all smP)) (some false)) (some false):=fun e=>
         over (xs:=p.fSlots) (f:=fun i (_:Unit)=>fx l11_small.st (.c4 (e:Int) d w i)) (g:=fun u _=>cond (u.all fun s=>decide (s.length<=6)) (cond (decide (e<=16)) (some (t.all smP)) (some false)) (some false)) (fun _=>by
          rw [fx_eq]; simp only [l11_small.st,evs,Int.toNat_natCast,hp,↓cneg (Int.lt_irrefl _),h5,List.all_nil,cond_true]) (fun i s u _ hi hs ih=>by
          have ih:=ih ()
          rw [fx_eq]; simp (disch:=omega) only [l11_small.st,evs,Int.toNat_natCast,hp,↓cpos,↓cpos2,hs,wsucc,ih,List.all_cons]
          by_cases h6:s.length<=6
          ·rw [cneg (by omega)]; simp [h6]
          ·rw [cpos (by omega)]; simp [h6]) ()
        have h2:=overJ (xs:=p.fDimensions) (f:=fun i (m:Nat)=>fx l11_small.st (.c2 d w (m:Int) i)) (g:=fun _ u m=>cond (u.all fun d=>decide (d.fValues.length<=4)) (fx l11_small.st (.c3 d w ((m*prod u:Nat):Int))) (some false)) (I:=fun i m=>m<=4 ^ i) (fun m _=>by
         rw [fx_eq]; simp only [l11_small.st,evs,Int.toNat_natCast,hp,↓cneg (Int.lt_irrefl _),List.all_nil,cond_true,prod,Nat.mul_one]) (fun i x u m hi hm hx _ _ ih=>by
         have h8:4 ^ i<=4 ^ 2:=Nat.pow_le_pow_right (by omega) (by omega)
         have h8' : (4:Nat) ^ 2=16:=by decide
         rw [fx_eq]; simp (disch:=omega) only [l11_small.st,evs,Int.toNat_natCast,hp,↓cpos,↓cpos2,hx,wsucc,List.all_cons]
         by_cases h4:x.fValues.length<=4
         ·have hb:m*x.fValues.length<=16*4:=Nat.mul_le_mul (by omega) h4
          have hmul:(m:Int)*(x.fValues.length:Int)=((m*x.fValues.length:Nat):Int):=by simp
          have hw' : IntKind.i64.wrap ((m:Int)*(x.fValues.length:Int))=((m*x.fValues.length:Nat):Int):=by rw [hmul,wrap64] <;> omega
          rw [cneg (by omega),hw',ih _ (by rw [Nat.pow_succ]; exact Nat.mul_le_mul hm h4)]
          simp only [h4,decide_true,Bool.true_and,prod,Nat.mul_assoc]
         ·rw [cpos (by omega)]; simp [h4]) (s:=1) (by simp)
        rw [show ((1:Nat):Int)=1 from rfl] at h2
        rw [h2,fx_eq]
        simp only [l11_small.st,evs,Nat.one_mul,h4,smP,g1,g2,decide_true,Bool.true_and]
        cases p.fDimensions.all (fun d=>decide (d.fValues.length<=4)) <;> cases p.fSlots.all (fun s=>decide (s.length<=6)) <;> cases decide (prod p.fDimensions<=16) <;> simp
       ·rw [cneg (by omega),cpos (by omega)]; simp [smP,g2]
      ·rw [cpos (by omega)]; simp [smP,g1]) ()
    ·rw [cneg (by omega),cneg (by omega),cneg (by omega),cpos (by omega)]; simp [h4]
   ·rw [cneg (by omega),cneg (by omega),cpos (by omega)]; simp [h3]
  ·rw [cneg (by omega),cpos (by omega)]; simp [h2]
 ·rw [cpos (by omega)]; simp [h1]
end Go.Ai.Mor

namespace Go.Ai.Mor
open Go Go.Ai
def idxI (a:List aLetter) (r:Int):Int:=fstIdx (fun x:aLetter=>decide (x.fRune=r)) a 0
theorem mget_addK (r:Int):∀ (t:List aLetter) (i:Nat) (m:List (Int×Int)),mget eqI (addK i t m) r=match mget eqI m r with
  | some v=>some v
  | none=>cond (inA t r) (some (fstIdx (fun x:aLetter=>decide (x.fRune=r)) t i)) none
 | [],i,m=>by
   simp only [addK,inA,List.any_nil,cond_false]
   cases mget eqI m r <;> rfl
 | x::t,i,m=>by
   simp only [addK,mget_addK r t (i+1),inA,List.any_cons,fstIdx]
   by_cases e:x.fRune=r
   ·subst e
    cases h:mget eqI m x.fRune with
    | some v=>simp [h]
    | none=>
      simp only [Option.isSome_none,cond_false]
      rw [mget_mput eqI_iff,(eqI_iff _ _).2 rfl]
      simp
   ·have e2:eqI r x.fRune=false:=by
     rw [Bool.eq_false_iff]; intro h; exact e ((eqI_iff _ _).1 h).symm
    have e3:mget eqI (cond (mget eqI m x.fRune).isSome m (mput eqI m x.fRune (i:Int))) r=mget eqI m r:=by
     cases (mget eqI m x.fRune).isSome with
     | true=>rfl
     | false=>rw [cond_false,mget_mput eqI_iff,e2]; rfl
    rw [e3]
    simp [e,inA]
theorem idx_get (a:List aLetter) (r:Int) (h:inA a r=true):(mget eqI (addK 0 a []) r).getD 0=idxI a r:=by
 rw [mget_addK]; simp [mget,h,idxI]
theorem idx_range {a:List aLetter} {r:Int} (h:inA a r=true):0<=idxI a r/\idxI a r<(a.length:Int):=by
 refine ⟨?_,fstIdx_lt _ _⟩
 have:=fstIdx_nonneg (fun x:aLetter=>decide (x.fRune=r)) a 0
 rw [show (a.any fun x=>decide (x.fRune=r))=inA a r from rfl,h] at this
 exact of_decide_eq_true this
theorem admI_admR {a:List aLetter} {r:Nat} (h:inA a (r:Int)=true) (x:aItem):admI a x (idxI a (r:Int))=admR a x r:=by
 unfold admI admR idxI
 rcases fst_find (fun l:aLetter=>decide (l.fRune=(r:Int))) a with ⟨h1,h2⟩ | ⟨j,h1,h2,h3⟩
 ·have:=(idx_range h).1
  unfold idxI at this
  omega
 ·rw [h2,h3,Int.toNat_natCast]
theorem mt_idx {a:List aLetter} {s:List Nat} (h:∀ r ∈ s,inA a (r:Int)=true) (p:List aItem):mt rep (admI a) p (s.map fun r:Nat=>idxI a (r:Int))=matchS a p s:=by
 rw [mt_map]
 exact mt_congr _ _ p s fun x _ r hr=>admI_admR (h r hr) x
theorem overB_in {a:List aLetter} {s:List UInt8} (h:overB a s=true):∀ r ∈ runesL s,inA a (r:Int)=true:=by
 simp only [overB,Bool.and_eq_true,List.all_eq_true] at h
 exact h.2
section
variable {a:List aLetter} (ha:a.length<=1048576) (hadm:admB a=true)
include ha hadm
theorem patVal {p:List aItem} (hp:okItems p) (hb:patB a p=true):pattern_Valid a p=some true:=by
 rw [pattern_Valid_eq ha hp,hb]
 simp only [admB,Bool.and_eq_true] at hadm
 rw [hadm.2.1,hadm.2.2.1,hadm.2.2.2]; rfl
theorem read_eq {p:List aItem} (hp:okItems p) (hb:patB a p=true) {s:List UInt8} (hs:s.length<=1048576):pattern_read a p s=some (cond (overB a s) ((runesL s).map fun r:Nat=>idxI a (r:Int),true) ([],false)):=by
 have l3:fx pattern_read.st (.c3 (addK 0 a []) s [] 0)=some (cond ((runesL s).all fun r=>inA a (r:Int)) ((runesL s).map fun r:Nat=>idxI a (r:Int),true) ([],false)):=by
  have:=overRJ (s:=s) (f:=fun q (o:List Int)=>fx pattern_read.st (.c3 (addK 0 a []) s o q)) (g:=fun rs o=>some (cond (rs.all fun r=>inA a (r:Int)) (o++rs.map fun r:Nat=>idxI a (r:Int),true) ([],false))) (I:=fun q o=>o.length<=q) (fun q o hq _=>by
   rw [fx_eq]; simp only [pattern_read.st,evs]; rw [cneg hq]; simp) (fun q r rs o hq hI hr h1 ih=>by
   rw [fx_eq]; simp only [pattern_read.st,evs]
   rw [cpos hq,hr,cnot,cpos (by simp only [len,len0]; omega),idx_isSome,ih _ (by simp; omega)]
   simp only [List.all_cons,List.map_cons]
   cases h:inA a (r:Int) with
   | false=>rfl
   | true=>rw [idx_get a _ h]; simp) (x:=[]) (Nat.le_refl _)
  simpa using this
 have l2:fx pattern_read.st (.c2 a s (addK 0 a []))=some (cond (overB a s) ((runesL s).map fun r:Nat=>idxI a (r:Int),true) ([],false)):=by
  rw [fx_eq]; simp only [pattern_read.st,evs,ev_b,valStr (show s.length<=1099511627776 by omega),Option.bind_some,cnot,l3,overB]
  cases Lib.validD s <;> rfl
 have l1:=overJ (xs:=a) (f:=fun i (m:List (Int×Int))=>fx pattern_read.st (.c1 a s i m)) (g:=fun i t m=>fx pattern_read.st (.c2 a s (addK i t m))) (I:=fun i m=>keysOk m (a.drop i)=true) (fun m _=>by
  rw [fx_eq]; simp only [pattern_read.st,evs,↓cneg (Int.lt_irrefl _),addK]) (fun i x t m hi hI hx hd hd' ih=>by
  rw [hd] at hI
  simp only [keysOk,List.all_cons,distL,Bool.and_eq_true,Bool.not_eq_true'] at hI
  obtain ⟨⟨g1,g2⟩,g3,g4⟩:=hI
  have hk:(mget eqI m x.fRune).isSome=false:=by rw [mget_isSome]; rw [List.any_map] at g3; exact g3
  have h32 : ¬ x.fRune<=32:=by
   intro h
   have:goodB x.fRune=false:=by simp [goodB]; omega
   rw [g1] at this; cases this
  rw [fx_eq]; simp (disch:=omega) only [pattern_read.st,evs,ev_b,↓cpos,↓cpos2,Int.toNat_natCast,hx,wsucc]
  show cond (mget eqI m x.fRune).isSome _ _=_
  rw [hk,cond_false,cneg h32,validRune_eq _ (by omega),g1,Option.bind_some]
  simp only [Bool.not_true,cond_false,addK,hk]
  refine ih _ ?_
  rw [hd']
  have e:=mput_new x.fRune (i:Int) m hk
  show keysOk (mput eqI m x.fRune (i:Int)) t=true
  rw [e]
  simp only [keysOk,g2,Bool.true_and,List.map_append,List.map_cons,List.map_nil,g4]) (s:=[]) (by
  simp only [admB,Bool.and_eq_true] at hadm
  rw [List.drop_zero,keysOk,hadm.2.2.1]
  exact hadm.2.2.2)
 simp only [pattern_read,pattern_read.go,evs,ev_b,patVal ha hadm hp hb,Option.bind_some]
 exact l1.trans l2
omit hadm in
theorem lens_of {p:List aItem} (hp:p.length<=3) {s:List Nat} (hs:s.length<=1048576) (h:∀ r ∈ s,inA a (r:Int)=true):pattern_lengths a p (s.map fun r:Nat=>idxI a (r:Int))=some ((lens rep (admI a) p (s.map fun r:Nat=>idxI a (r:Int))).map fun n:Nat=>(n:Int)):=
 lengths_eq ha hp (by simpa using hs) fun c hc=>by
  obtain ⟨r,hr,rfl⟩:=List.mem_map.1 hc
  exact idx_range (h r hr)
theorem Matches_eq {p:List aItem} (hp:okItems p) (hb:patB a p=true) {s:List UInt8} (hs:s.length<=1048576) (ho:overB a s=true):pattern_Matches a p s=some (matchS a p (runesL s)):=by
 have h3:p.length<=3:=by simp only [patB,Bool.and_eq_true,decide_eq_true_eq] at hb; exact hb.1
 have hin:=overB_in ho
 have hrl:=runesL_length s
 simp only [pattern_Matches,pattern_Matches.go,evs,ev_b,read_eq ha hadm hp hb hs,ho,cond_true,Option.bind_some,Bool.not_true,cond_false,lens_of ha h3 (show (runesL s).length<=1048576 by omega) hin]
 rw [<- mt_idx hin,<- lens_all]
 simp only [List.length_map]
 generalize hL:lens rep (admI a) p ((runesL s).map fun r:Nat=>idxI a (r:Int))=L
 have hll:L.length<=1048577:=by
  have:=lensF_len rep (admI a) p ((runesL s).map fun r:Nat=>idxI a (r:Int)) (((runesL s).map fun r:Nat=>idxI a (r:Int)).length+1) 0
  rw [<- hL,lens]
  simp only [List.length_map] at this ⊢
  omega
 cases L with
 | nil=>rfl
 | cons x L=>
   have hw:IntKind.i64.wrap ((((x::L).length:Nat):Int) - 1)=(L.length:Int):=by
    simp only [List.length_cons] at hll ⊢
    rw [wrap64] <;> omega
   simp only [hw]
   rw [cpos (by simp only [List.length_cons]; omega),cpos2 (by omega) (by simp only [List.length_cons]; omega),Int.toNat_natCast]
   congr 1
   have e1:((x::L).map fun n:Nat=>(n:Int)).getD L.length default=(((x::L).getLast (by simp):Nat):Int):=by
    rw [List.getLast_eq_getElem,List.getD_eq_getElem?_getD,List.getElem?_map]; simp
   rw [e1,List.getLast?_eq_some_getLast (by simp)]
   exact decide_eq_decide.2 ⟨fun h=>by simp only [Option.some.injEq]; omega,fun h=>by simp only [Option.some.injEq] at h; omega⟩
theorem Prefixes_eq {p:List aItem} (hp:okItems p) (hb:patB a p=true) {s:List UInt8} (hs:s.length<=1048576) (ho:overB a s=true):∃ l,pattern_Prefixes a p s=some l/\decide (0<(l.length:Int))=((List.range ((runesL s).length+1)).any fun i=>matchS a p ((runesL s).take i)):=by
 have h3:p.length<=3:=by simp only [patB,Bool.and_eq_true,decide_eq_true_eq] at hb; exact hb.1
 have hin:=overB_in ho
 have hrl:=runesL_length s
 refine ⟨_,by simp only [pattern_Prefixes,pattern_Prefixes.go,evs,ev_b,read_eq ha hadm hp hb hs,ho,cond_true,Option.bind_some,Bool.not_true,cond_false,lens_of ha h3 (show (runesL s).length<=1048576 by omega) hin]; rfl,?_⟩
 have:=lens_any rep (admI a) p ((runesL s).map fun r:Nat=>idxI a (r:Int))
 simp only [List.length_map] at this ⊢
 rw [show decide (0<((lens rep (admI a) p ((runesL s).map fun r:Nat=>idxI a (r:Int))).length:Int)) = !(lens rep (admI a) p ((runesL s).map fun r:Nat=>idxI a (r:Int))).isEmpty by
  cases lens rep (admI a) p ((runesL s).map fun r:Nat=>idxI a (r:Int)) <;> simp,this]
 congr 1
 funext i
 rw [<- List.map_take]
 exact mt_idx (fun r hr=>hin r (List.mem_of_mem_take hr)) p
theorem Suffixes_eq {p:List aItem} (hp:okItems p) (hb:patB a p=true) {s:List UInt8} (hs:s.length<=1048576) (ho:overB a s=true):∃ l,pattern_Suffixes a p s=some l/\decide (0<(l.length:Int))=((List.range ((runesL s).length+1)).any fun i=>matchS a p ((runesL s).drop i)):=by
 have h3:p.length<=3:=by simp only [patB,Bool.and_eq_true,decide_eq_true_eq] at hb; exact hb.1
 have hin:=overB_in ho
 have hrl:=runesL_length s
 have hpl:=hp.1
 have hclone:slices_Clone_aItem_aItem p=some p:=by
  have h1:fx slices_Clone_aItem_aItem.st (.c1 p)=some p:=by
   rw [fx_eq]; simp only [slices_Clone_aItem_aItem.st,evs]
   rw [cpos (by simp only [len,len0]; omega)]; rfl
  simp only [slices_Clone_aItem_aItem,slices_Clone_aItem_aItem.go,evs,h1]
  cases p with
  | nil=>exact agree_self _
  | cons x p=>rfl
 have e1:(((runesL s).map fun r:Nat=>idxI a (r:Int)).reverse)=(runesL s).reverse.map fun r:Nat=>idxI a (r:Int):=by rw [List.map_reverse]
 have hl:=lens_of ha (p:=p.reverse) (by simpa using h3) (s:=(runesL s).reverse) (by simp; omega) (fun r hr=>hin r (List.mem_reverse.1 hr))
 refine ⟨_,by simp only [pattern_Suffixes,pattern_Suffixes.go,evs,ev_b,read_eq ha hadm hp hb hs,ho,cond_true,Option.bind_some,Bool.not_true,cond_false,hclone,revItems,revInts,e1,hl]; rfl,?_⟩
 have:=lens_suffix rep (admI a) p ((runesL s).map fun r:Nat=>idxI a (r:Int))
 rw [e1] at this
 simp only [List.length_map] at this ⊢
 rw [show decide (0<((lens rep (admI a) p.reverse ((runesL s).reverse.map fun r:Nat=>idxI a (r:Int))).length:Int)) = !(lens rep (admI a) p.reverse ((runesL s).reverse.map fun r:Nat=>idxI a (r:Int))).isEmpty by
  cases lens rep (admI a) p.reverse ((runesL s).reverse.map fun r:Nat=>idxI a (r:Int)) <;> simp,this]
 congr 1
 funext i
 rw [<- List.map_drop]
 exact mt_idx (fun r hr=>hin r (List.mem_of_mem_drop hr)) p
omit ha in
theorem over_encs {s:List Nat} (h:∀ r ∈ s,inA a (r:Int)=true):overB a (encs s)=true/\runesL (encs s)=s:=by
 have hok:∀ r ∈ s,okRune r:=fun r hr=>by
  have h1:=h r hr
  simp only [admB,Bool.and_eq_true,List.all_eq_true] at hadm
  simp only [inA,List.any_eq_true,decide_eq_true_eq] at h1
  obtain ⟨l,hl,e⟩:=h1
  have:=hadm.2.2.1 l hl
  rw [e] at this
  simp only [goodB,Bool.and_eq_true,Bool.or_eq_true,decide_eq_true_eq] at this
  unfold okRune; omega
 have e:=runesL_encs hok
 refine ⟨?_,e⟩
 rw [overB,valid_encs' hok,e,Bool.true_and,List.all_eq_true]
 exact h
theorem follows_eq {r:aRule} (hr:okRule r) (hb:patB a r.fLeft=true) {s:List Nat} (hs:s.length<=200000) (h:∀ c ∈ s,inA a (c:Int)=true):rewrite_follows a r (encs s)=some (leftS a r s):=by
 obtain ⟨h1,h2⟩:=over_encs hadm h
 have hl:=encs_len s
 obtain ⟨l,g1,g2⟩:=Suffixes_eq ha hadm hr.left hb (s:=encs s) (by omega) h1
 simp only [rewrite_follows,rewrite_follows.go,evs,ev_b,Matches_eq ha hadm hr.left hb (s:=encs s) (by omega) h1,g1,g2,h2,Option.bind_some,leftS]
 cases r.fInitial <;> rfl
theorem precedes_eq {r:aRule} (hr:okRule r) (hb:patB a r.fRight=true) {s:List Nat} (hs:s.length<=200000) (h:∀ c ∈ s,inA a (c:Int)=true):rewrite_precedes a r (encs s)=some (rightS a r s):=by
 obtain ⟨h1,h2⟩:=over_encs hadm h
 have hl:=encs_len s
 obtain ⟨l,g1,g2⟩:=Prefixes_eq ha hadm hr.right hb (s:=encs s) (by omega) h1
 simp only [rewrite_precedes,rewrite_precedes.go,evs,ev_b,Matches_eq ha hadm hr.right hb (s:=encs s) (by omega) h1,g1,g2,h2,Option.bind_some,rightS]
 cases r.fFinal <;> rfl
end
theorem utf_map:∀ l:List Nat,utf (l.map fun r:Nat=>(r:Int))=encs l
 | []=>rfl
 | r::l=>by
   rw [encs_cons,<- utf_map l,List.map_cons]
   simp only [utf,List.map_cons,List.flatten_cons]
theorem rns_take (s:List UInt8) (h:Nat):(rns s).take h=((runesL s).take h).map fun r:Nat=>(r:Int):=by rw [rns_eq,List.map_take]
theorem rns_drop (s:List UInt8) (h:Nat):(rns s).drop h=((runesL s).drop h).map fun r:Nat=>(r:Int):=by rw [rns_eq,List.map_drop]
theorem rns_get {s:List UInt8} {h:Nat} (hh:h<(runesL s).length):(rns s).getD h default=(((runesL s)[h]:Nat):Int):=by
 rw [rns_eq]; simp [hh]
theorem ruleB_parts {a:List aLetter} {r:aRule} (h:ruleB a r=true):admB a=true/\toB a r.fTo=true/\patB a r.fLeft=true/\patB a r.fRight=true:=by
 simp only [ruleB,Bool.and_eq_true] at h
 exact ⟨h.1,h.2.2.1,h.2.2.2.1,h.2.2.2.2⟩
theorem wordB_parts {a:List aLetter} {s:List UInt8} (h:wordB a s=true):overB a s=true/\(runesL s).length<=40:=by
 rw [wordB_over,Bool.and_eq_true,decide_eq_true_eq] at h; exact h
theorem sitesF_len (a:List aLetter) (r:aRule) (w:List Nat):∀ (d i:Nat),(sitesF a r w d i).length<=d
 | 0,_=>Nat.le_refl _
 | d+1,i=>by
   have:=sitesF_len a r w d (i+1)
   simp only [sitesF]
   cases siteB a r w i with
   | true=>simp only [cond_true,List.length_cons]; omega
   | false=>simp only [cond_false]; omega
theorem Sites_eq {a:List aLetter} (ha:a.length<=1048576) {r:aRule} (hr:okRule r) {s:List UInt8} (hs:s.length<=4194304):rewrite_Sites a r s=some (cond (ruleB a r&&wordB a s) (sitesS a r (runesL s)) []):=by
 simp only [rewrite_Sites,rewrite_Sites.go,evs,ev_b,rewrite_Valid_eq ha hr,letters_isWord_eq ha hs,Option.bind_some,cnot]
 cases hrb:ruleB a r with
 | false=>rfl
 | true=>
   cases hwb:wordB a s with
   | false=>rfl
   | true=>
     obtain ⟨hadm,_,hpl,hpr⟩:=ruleB_parts hrb
     obtain ⟨ho,h40⟩:=wordB_parts hwb
     have hin:=overB_in ho
     simp only [cond_true,Bool.true_and,rns_len]
     rw [cpos (by simp only [len,len0]; omega)]
     have loop:∀ (d h:Nat) (m:List Int),h+d=(runesL s).length+1->m.length<=h->fx rewrite_Sites.st (.c1 a r s m (h:Int))=some (m++sitesF a r (runesL s) d h):=by
      intro d
      induction d with
      | zero=>
        intro h m h1 _
        rw [fx_eq]; simp only [rewrite_Sites.st,evs,rns_len]
        rw [cneg (by omega)]; simp [sitesF]
      | succ d ih=>
        intro h m h1 hm
        have hw:IntKind.i64.wrap ((h:Int)+1)=((h+1:Nat):Int):=wsucc (by omega)
        have l2:∀ o:Nat,o<=(runesL s).length->fx rewrite_Sites.st (.c2 a (h:Int) m r s (o:Int))=some (m++cond (leftS a r ((runesL s).take h)&&rightS a r ((runesL s).drop o)) ((h:Int)::sitesF a r (runesL s) d (h+1)) (sitesF a r (runesL s) d (h+1))):=by
         intro o hoo
         have hf:=follows_eq ha hadm hr hpl (s:=(runesL s).take h) (by rw [List.length_take]; omega) fun c hc=>hin c (List.mem_of_mem_take hc)
         have hp:=precedes_eq ha hadm hr hpr (s:=(runesL s).drop o) (by rw [List.length_drop]; omega) fun c hc=>hin c (List.mem_of_mem_drop hc)
         rw [fx_eq]; simp only [rewrite_Sites.st,evs,ev_b,rns_len,Int.toNat_natCast,rns_take,rns_drop,utf_map,hf,hp,Option.bind_some,hw]
         rw [cpos2 (by omega) (by omega),cpos2 (by omega) (by omega),cpos (by simp only [len,len0]; omega),ih (h+1) _ (by omega) (by simp; omega),ih (h+1) m (by omega) (by omega)]
         cases leftS a r ((runesL s).take h) <;> cases rightS a r ((runesL s).drop o) <;> simp
        rw [fx_eq]; simp only [rewrite_Sites.st,evs,rns_len,hw,Int.toNat_natCast]
        rw [cpos (by omega),l2 h (by omega),cnot]
        simp only [sitesF,siteB]
        by_cases h0:r.fFrom=0
        ·rw [cpos h0,cpos h0]
        ·rw [cneg h0,cneg h0]
         by_cases he:h=(runesL s).length
         ·have:(runesL s)[h]? = none:=by simp [he]
          rw [cpos (by omega),ih (h+1) m (by omega) (by omega),this]
          rfl
         ·have hlt:h<(runesL s).length:=by omega
          rw [cneg (by omega),cpos2 (by omega) (by omega),l2 (h+1) (by omega),ih (h+1) m (by omega) (by omega),List.getElem?_eq_getElem hlt,cnot]
          simp only [rns_get hlt]
          cases decide ((((runesL s)[h]:Nat):Int)=r.fFrom) with
          | false=>rfl
          | true=>simp
     have:=loop ((runesL s).length+1) 0 [] (by omega) (Nat.zero_le _)
     simpa [sitesS] using this
end Go.Ai.Mor

set_option maxRecDepth 100000
noncomputable section
namespace Go.Ai.Mor
open Go Go.Ai Go.Proofs
namespace r07_Check
inductive Pt
 | c2 (e:List aLetter) (d:List aRule) (h:List UInt8)
 | c1 (e:List aLetter) (d:List aRule) (h:List UInt8) (i:Int)
def D:FD pd := {f:=111,fn:=Tryz.f111,q:=33,pl:=pls 10 [(2,kp [0,1,2,7]),(8,kp [0,1,2])],ps:=[(.sl (.st .aLetter)),(.sl (.st .aRule)),.str],rs:=[.bool],ex:=[none],cs:=[r07_Word.con,r07_Valid.con,r07_Admissible.con]}
def go:((List aLetter)×(List aRule)×(List UInt8))->Tr Pt (Bool)
 | (e,d,h)=>
  .j (.c1 e d h 0)
def st:Pt->Tr Pt (Bool)
 | .c2 e d h=>
  .c (decide ((d.length:Int)<=64))
  (.b (r07_Admissible e) fun o=>
   .c o
   (.b (r07_Word e h) fun p=>
    .r p)
   (.r false))
  (.r false)
 | .c1 e d h i=>
  .c (decide (i<(d.length:Int)))
  (.c (decide (0<=i)&&decide (i<(d.length:Int)))
   (.b (r07_Valid e (d.getD i.toNat default)) fun m=>
    .c (!m)
    (.r false)
    (.j (.c1 e d h (IntKind.i64.wrap (i+1))))) .n)
  (.j (.c2 e d h))
def pt:Pt->List Dir×St E
 | .c2 e d h=>([.r],ms 33 33 [(0,hL (.st .aLetter) e),(1,hL (.st .aRule) d),(2,hS h)])
 | .c1 e d h i=>([.r,.l,.r,.k],ms 33 33 [(0,hL (.st .aLetter) e),(1,hL (.st .aRule) d),(2,hS h),(7,hI i)])
theorem g:D.G st pt:=fun Z a=>by cases a <;> kernel_rfl
theorem g0:D.G0 go pt:=fun Z ⟨_,_,_⟩=>by kernel_rfl
abbrev con:Con Tryz.prog E:=FD.con Tryz.func111 (by kernel_rfl) g g0
end r07_Check
def r07_Check (e:List aLetter) (d:List aRule) (h:List UInt8):Option (Bool):=ev (r07_Check.go (e,d,h)) (fx r07_Check.st)
end Go.Ai.Mor
end

set_option maxRecDepth 100000
noncomputable section
namespace Go.Ai.Mor
open Go Go.Ai Go.Proofs
namespace r07_has
inductive Pt
 | c1 (b:List Int) (d e:Int)
def D:FD pd := {f:=180,fn:=Tryz.f180,q:=18,pl:=pls 10 [(2,kp [0,1,5])],ps:=[(.sl (.int .i32)),(.int .i32)],rs:=[.bool],ex:=[none]}
def go:((List Int)×Int)->Tr Pt (Bool)
 | (b,d)=>
  .j (.c1 b d 0)
def st:Pt->Tr Pt (Bool)
 | .c1 b d e=>
  .c (decide (e<(b.length:Int)))
  (.c (decide (0<=e)&&decide (e<(b.length:Int)))
   (.c (decide ((b.getD e.toNat default)=d))
    (.r true)
    (.j (.c1 b d (IntKind.i64.wrap (e+1))))) .n)
  (.r false)
def pt:Pt->List Dir×St E
 | .c1 b d e=>([.r,.l,.r,.k],ms 18 18 [(0,hL (.int .i32) b),(1,hi .i32 d),(5,hI e)])
theorem g:D.G st pt:=fun Z a=>by cases a <;> kernel_rfl
theorem g0:D.G0 go pt:=fun Z ⟨_,_⟩=>by kernel_rfl
abbrev con:Con Tryz.prog E:=FD.con Tryz.func180 (by kernel_rfl) g g0
end r07_has
def r07_has (b:List Int) (d:Int):Option (Bool):=ev (r07_has.go (b,d)) (fx r07_has.st)
end Go.Ai.Mor
end

set_option maxRecDepth 100000
noncomputable section
namespace Go.Ai.Mor
open Go Go.Ai Go.Proofs
namespace r07_Admits
inductive Pt
 | c1 (d:aItem) (h:Bool)
def D:FD pd := {f:=173,fn:=Tryz.f173,q:=41,pl:=pls 7 [(5,kp [4,8] [(4,4)])],ps:=[(.sl (.st .aLetter)),(.st .aItem),(.int .i32)],rs:=[.bool],ex:=[none],cs:=[r07_Index.con,r07_has.con]}
def go:((List aLetter)×aItem×Int)->Tr Pt (Bool)
 | (e,d,k)=>
  .b (r07_Index e k) fun i=>
  .c (decide (i<0))
  (.r false)
  (.c (decide (0<=i)&&decide (i<(e.length:Int)))
   (.c (decide ((IntKind.u32.wrap (((BitVec.ofInt IntKind.u32.bits ((e.getD i.toNat default).fClasses) &&& BitVec.ofInt IntKind.u32.bits d.fMask).toNat:Int)))=d.fMask))
    (.c (decide (d.fLetters=[]))
     (.j (.c1 d true))
     (.c (decide ((rns d.fLetters).length<=lim))
      (.b (r07_has (rns d.fLetters) k) fun l=>
       .j (.c1 d l)) .n))
    (.j (.c1 d false))) .n)
def st:Pt->Tr Pt (Bool)
 | .c1 d h=>
  .r (!decide (h=d.fNegated))
def pt:Pt->List Dir×St E
 | .c1 d h=>([.r,.r,.r],ms 41 41 [(4,hP 4),(8,hB h)] [(4,.cells [.tv (.int .u32 d.fMask),cS d.fLetters,cB d.fNegated,cB d.fRepeated])])
theorem g:D.G st pt:=fun Z a=>by cases a <;> kernel_rfl
theorem g0:D.G0 go pt:=fun Z ⟨_,_,_⟩=>by kernel_rfl
abbrev con:Con Tryz.prog E:=FD.con Tryz.func173 (by kernel_rfl) g g0
end r07_Admits
def r07_Admits (e:List aLetter) (d:aItem) (k:Int):Option (Bool):=ev (r07_Admits.go (e,d,k)) (fx r07_Admits.st)
end Go.Ai.Mor
end

set_option maxRecDepth 100000
noncomputable section
namespace Go.Ai.Mor
open Go Go.Ai Go.Proofs
namespace r07_Matches
inductive Pt
 | me (x:(List aLetter)×(List aItem)×(List Int))
 | c1 (i:List aLetter) (d:List aItem) (h:List Int)
def D:FD pd := {f:=164,fn:=Tryz.f164,q:=53,pl:=pls 14 [(6,kp [0,1,2])],ps:=[(.sl (.st .aLetter)),(.sl (.st .aItem)),(.sl (.int .i32))],rs:=[.bool],ex:=[none],cs:=[r07_Admits.con]}
def go:((List aLetter)×(List aItem)×(List Int))->Tr Pt (Bool)
 | (i,d,h)=>
  .c (decide ((d.length:Int)=0))
  (.r (decide ((h.length:Int)=0)))
  (.c (decide (0<=0)&&decide (0<(d.length:Int)))
   (.c ((d.getD 0 default).fRepeated)
    (.c (decide (0<=1)&&decide (1<=(d.length:Int)))
     (.jb (.me (i,d.drop 1,h)) fun k=>
      .c k
      (.r true)
      (.j (.c1 i d h))) .n)
    (.j (.c1 i d h))) .n)
def st:Pt->Tr Pt (Bool)
 | .me x=>go x
 | .c1 i d h=>
  .c (decide ((h.length:Int)=0))
  (.r false)
  (.c (decide (0<=0)&&decide (0<(d.length:Int)))
   (.c (decide (0<=0)&&decide (0<(h.length:Int)))
    (.b (r07_Admits i (d.getD 0 default) (h.getD 0 default)) fun l=>
     .c (!l)
     (.r false)
     (.c (decide (0<=0)&&decide (0<(d.length:Int)))
      (.c ((d.getD 0 default).fRepeated)
       (.c (decide (0<=1)&&decide (1<=(h.length:Int)))
        (.jb (.me (i,d,h.drop 1)) fun m=>
         .r m) .n)
       (.c (decide (0<=1)&&decide (1<=(d.length:Int)))
        (.c (decide (0<=1)&&decide (1<=(h.length:Int)))
         (.jb (.me (i,d.drop 1,h.drop 1)) fun o=>
          .r o) .n) .n)) .n)) .n) .n)
def isMe:Pt->Option ((List aLetter)×(List aItem)×(List Int))
 | .me x=>some x
 | _=>none
def pt:Pt->List Dir×St E
 | .me _=>([],start [] 0 0)
 | .c1 i d h=>([.r,.r],ms 53 53 [(0,hL (.st .aLetter) i),(1,hL (.st .aItem) d),(2,hL (.int .i32) h)])
theorem g:D.GR isMe st pt:=fun me Z a=>by cases a <;> intro e <;> first | (cases e; done) | kernel_rfl
theorem g0:D.G0R isMe go pt:=fun me Z ⟨_,_,_⟩=>by kernel_rfl
abbrev con:Con Tryz.prog E:=FD.conR Tryz.func164 (by kernel_rfl) (fun a x e=>by cases a <;> cases e; rfl) g g0
end r07_Matches
def r07_Matches (i:List aLetter) (d:List aItem) (h:List Int):Option (Bool):=ev (r07_Matches.go (i,d,h)) (fx r07_Matches.st)
end Go.Ai.Mor
end

set_option maxRecDepth 100000
noncomputable section
namespace Go.Ai.Mor
open Go Go.Ai Go.Proofs
namespace r07_left
inductive Pt
 | c1 (h:List aLetter) (d:aRule) (e:List Int) (i:Int)
def D:FD pd := {f:=147,fn:=Tryz.f147,q:=28,pl:=pls 13 [(5,kp [0,2,4,7] [(4,6)])],ps:=[(.sl (.st .aLetter)),(.st .aRule),(.sl (.int .i32))],rs:=[.bool],ex:=[none],cs:=[r07_Matches.con]}
def go:((List aLetter)×aRule×(List Int))->Tr Pt (Bool)
 | (h,d,e)=>
  .c d.fInitial
  (.b (r07_Matches h d.fLeft e) fun m=>
   .r m)
  (.j (.c1 h d e 0))
def st:Pt->Tr Pt (Bool)
 | .c1 h d e i=>
  .c (decide (i<=(e.length:Int)))
  (.c (decide (0<=i)&&decide (i<=(e.length:Int)))
   (.b (r07_Matches h d.fLeft (e.drop i.toNat)) fun o=>
    .c o
    (.r true)
    (.j (.c1 h d e (IntKind.i64.wrap (i+1))))) .n)
  (.r false)
def pt:Pt->List Dir×St E
 | .c1 h d e i=>([.r,.r,.l,.r,.k],ms 28 28 [(0,hL (.st .aLetter) h),(2,hL (.int .i32) e),(4,hP 4),(7,hI i)] [(4,.cells [.tv (.int .i32 d.fFrom),cS d.fTo,cL (.st .aItem) d.fLeft,cL (.st .aItem) d.fRight,cB d.fInitial,cB d.fFinal])])
theorem g:D.G st pt:=fun Z a=>by cases a <;> kernel_rfl
theorem g0:D.G0 go pt:=fun Z ⟨_,_,_⟩=>by kernel_rfl
abbrev con:Con Tryz.prog E:=FD.con Tryz.func147 (by kernel_rfl) g g0
end r07_left
def r07_left (h:List aLetter) (d:aRule) (e:List Int):Option (Bool):=ev (r07_left.go (h,d,e)) (fx r07_left.st)
end Go.Ai.Mor
end

set_option maxRecDepth 100000
noncomputable section
namespace Go.Ai.Mor
open Go Go.Ai Go.Proofs
namespace r07_right
inductive Pt
 | c1 (h:List aLetter) (d:aRule) (e:List Int) (i:Int)
def D:FD pd := {f:=148,fn:=Tryz.f148,q:=28,pl:=pls 13 [(5,kp [0,2,4,7] [(4,6)])],ps:=[(.sl (.st .aLetter)),(.st .aRule),(.sl (.int .i32))],rs:=[.bool],ex:=[none],cs:=[r07_Matches.con]}
def go:((List aLetter)×aRule×(List Int))->Tr Pt (Bool)
 | (h,d,e)=>
  .c d.fFinal
  (.b (r07_Matches h d.fRight e) fun m=>
   .r m)
  (.j (.c1 h d e 0))
def st:Pt->Tr Pt (Bool)
 | .c1 h d e i=>
  .c (decide (i<=(e.length:Int)))
  (.c (decide (0<=i)&&decide (i<=(e.length:Int)))
   (.b (r07_Matches h d.fRight (e.take i.toNat)) fun o=>
    .c o
    (.r true)
    (.j (.c1 h d e (IntKind.i64.wrap (i+1))))) .n)
  (.r false)
def pt:Pt->List Dir×St E
 | .c1 h d e i=>([.r,.r,.l,.r,.k],ms 28 28 [(0,hL (.st .aLetter) h),(2,hL (.int .i32) e),(4,hP 4),(7,hI i)] [(4,.cells [.tv (.int .i32 d.fFrom),cS d.fTo,cL (.st .aItem) d.fLeft,cL (.st .aItem) d.fRight,cB d.fInitial,cB d.fFinal])])
theorem g:D.G st pt:=fun Z a=>by cases a <;> kernel_rfl
theorem g0:D.G0 go pt:=fun Z ⟨_,_,_⟩=>by kernel_rfl
abbrev con:Con Tryz.prog E:=FD.con Tryz.func148 (by kernel_rfl) g g0
end r07_right
def r07_right (h:List aLetter) (d:aRule) (e:List Int):Option (Bool):=ev (r07_right.go (h,d,e)) (fx r07_right.st)
end Go.Ai.Mor
end

set_option maxRecDepth 100000
noncomputable section
namespace Go.Ai.Mor
open Go Go.Ai Go.Proofs
namespace r07_Sites
inductive Pt
 | c2 (i:List aLetter) (h:Int) (m:List Int) (d:aRule) (e:List UInt8) (o:Int)
 | c1 (i:List aLetter) (d:aRule) (e:List UInt8) (m:List Int) (h:Int)
def D:FD pd := {f:=136,fn:=Tryz.f136,q:=69,pl:=pls 19 [(7,kp [0,4,8,9] [(4,6)] [] [(7,.own (100007,0,3) (.int .i64))]),(14,kp [0,4,8,9,10] [(4,6)] [] [(7,.own (100007,0,3) (.int .i64))])],ps:=[(.sl (.st .aLetter)),(.st .aRule),.str],rs:=[(.sl (.int .i64))],ex:=[some 3],cs:=[r07_Word.con,r07_Valid.con,r07_left.con,r07_right.con]}
def go:((List aLetter)×aRule×(List UInt8))->Tr Pt ((List Int))
 | (i,d,e)=>
  .b (r07_Valid i d) fun p=>
  .c (!p)
  (.r [])
  (.b (r07_Word i e) fun s=>
   .c (!s)
   (.r [])
   (.c (decide ((rns e).length<=lim))
    (.j (.c1 i d e ([]:(List Int)) 0)) .n))
def st:Pt->Tr Pt ((List Int))
 | .c2 i h m d e o=>
  .c (decide (0<=h)&&decide (h<=((rns e).length:Int)))
  (.b (r07_left i d ((rns e).take h.toNat)) fun t=>
   .c t
   (.c (decide (0<=o)&&decide (o<=((rns e).length:Int)))
    (.b (r07_right i d ((rns e).drop o.toNat)) fun u=>
     .c u
     (.c (decide (m.length+([h]:List Int).length<=lim))
      (.j (.c1 i d e (m++[h]) (IntKind.i64.wrap (h+1)))) .n)
     (.j (.c1 i d e m (IntKind.i64.wrap (h+1))))) .n)
   (.j (.c1 i d e m (IntKind.i64.wrap (h+1))))) .n
 | .c1 i d e m h=>
  .c (decide (h<=((rns e).length:Int)))
  (.c (!decide (d.fFrom=0))
   (.c (decide (h=((rns e).length:Int)))
    (.j (.c1 i d e m (IntKind.i64.wrap (h+1))))
    (.c (decide (0<=h)&&decide (h<((rns e).length:Int)))
     (.c (!decide (((rns e).getD h.toNat default)=d.fFrom))
      (.j (.c1 i d e m (IntKind.i64.wrap (h+1))))
      (.j (.c2 i h m d e (IntKind.i64.wrap (h+1))))) .n))
   (.j (.c2 i h m d e h)))
  (.r m)
def pt:Pt->List Dir×St E
 | .c2 i h m d e o=>([.r,.r,.r,.r,.l,.r,.k,.L,.r,.l,.k,.r],ms 69 69 [(0,hL (.st .aLetter) i),(4,hP 4),(7,hT 100007 3 (.int .i64) m),(8,hL (.int .i32) (rns e)),(9,hI h),(10,hI o)] [(4,.cells [.tv (.int .i32 d.fFrom),cS d.fTo,cL (.st .aItem) d.fLeft,cL (.st .aItem) d.fRight,cB d.fInitial,cB d.fFinal])])
 | .c1 i d e m h=>([.r,.r,.r,.r,.l,.r,.k],ms 69 69 [(0,hL (.st .aLetter) i),(4,hP 4),(7,hT 100007 3 (.int .i64) m),(8,hL (.int .i32) (rns e)),(9,hI h)] [(4,.cells [.tv (.int .i32 d.fFrom),cS d.fTo,cL (.st .aItem) d.fLeft,cL (.st .aItem) d.fRight,cB d.fInitial,cB d.fFinal])])
theorem g:D.G st pt:=fun Z a=>by cases a <;> kernel_rfl
theorem g0:D.G0 go pt:=fun Z ⟨_,_,_⟩=>by kernel_rfl
abbrev con:Con Tryz.prog E:=FD.con Tryz.func136 (by kernel_rfl) g g0
end r07_Sites
def r07_Sites (i:List aLetter) (d:aRule) (e:List UInt8):Option ((List Int)):=ev (r07_Sites.go (i,d,e)) (fx r07_Sites.st)
end Go.Ai.Mor
end

set_option maxRecDepth 100000
noncomputable section
namespace Go.Ai.Mor
open Go Go.Ai Go.Proofs
namespace r07_Apply
inductive Pt
 | c4 (h s:Int) (p:List UInt8) (i:List Int) (d:aRule) (e:List UInt8) (w:Bool)
 | c3 (t:Bool) (h:Int) (i:List Int) (d:aRule) (e p:List UInt8) (s:Int)
 | c2 (h m:Int) (o:List UInt8) (i:List Int) (d:aRule) (e:List UInt8) (t:Bool)
 | c5 (u:List UInt8)
 | c1 (i:List Int) (d:aRule) (e o:List UInt8) (m h:Int)
def D:FD pd := {f:=112,fn:=Tryz.f112,q:=80,pl:=pls 23 [(9,kp [4,9,10,11,12] [(4,6)] [] [(8,.own (100008,0,3) (.int .i64))]),(12,kp [4,9,10,11,12,13] [(4,6)] [] [(8,.own (100008,0,3) (.int .i64))]),(15,kp [4,9,10,11,12,13] [(4,6)] [] [(8,.own (100008,0,3) (.int .i64))]),(16,kp [4,9,10,11,12,67] [(4,6)] [] [(8,.own (100008,0,3) (.int .i64))]),(18,kp [10])],ps:=[(.sl (.st .aLetter)),(.st .aRule),.str],rs:=[.str,(.int .i64)],ex:=[none,none],cs:=[r07_Word.con,r07_Valid.con,r07_Sites.con]}
def go:((List aLetter)×aRule×(List UInt8))->Tr Pt ((List UInt8)×Int)
 | (v,d,e)=>
  .b (r07_Valid v d) fun x=>
  .c (!x)
  (.r ([],1))
  (.b (r07_Word v e) fun y=>
   .c (!y)
   (.r ([],1))
   (.b (r07_Sites v d e) fun i=>
    .c (decide ((rns e).length<=lim))
    (.j (.c1 i d e ([]:(List UInt8)) 0 0)) .n))
def st:Pt->Tr Pt ((List UInt8)×Int)
 | .c4 h s p i d e w=>
  .c w
  (.c (decide (0<=h)&&decide (h<((rns e).length:Int)))
   (.c (decide (p.length+(enc ((rns e).getD h.toNat default)).length<=1125899906842624))
    (.j (.c1 i d e (p++(enc ((rns e).getD h.toNat default))) s (IntKind.i64.wrap (h+1)))) .n) .n)
  (.j (.c1 i d e p s (IntKind.i64.wrap (h+1))))
 | .c3 t h i d e p s=>
  .c (decide (h<((rns e).length:Int)))
  (.c (!t)
   (.j (.c4 h s p i d e true))
   (.j (.c4 h s p i d e (decide (d.fFrom=0)))))
  (.j (.c4 h s p i d e false))
 | .c2 h m o i d e t=>
  .c t
  (.c (decide (o.length+d.fTo.length<=1125899906842624))
   (.j (.c3 t h i d e (o++d.fTo) (IntKind.i64.wrap (m+1)))) .n)
  (.j (.c3 t h i d e o m))
 | .c5 u=>
  .c (decide ((rns u).length<=lim))
  (.c (decide (40<((rns u).length:Int)))
   (.r ([],2))
   (.r (u,0))) .n
 | .c1 i d e o m h=>
  .c (decide (h<=((rns e).length:Int)))
  (.c (decide (m<(i.length:Int)))
   (.c (decide (0<=m)&&decide (m<(i.length:Int)))
    (.j (.c2 h m o i d e (decide ((i.getD m.toNat default)=h)))) .n)
   (.j (.c2 h m o i d e false)))
  (.j (.c5 o))
def pt:Pt->List Dir×St E
 | .c4 h s p i d e w=>([.r,.r,.r,.r,.r,.r,.l,.r,.k,.L,.r,.l,.k,.r,.r],ms 80 80 [(4,hP 4),(8,hT 100008 3 (.int .i64) i),(9,hL (.int .i32) (rns e)),(10,hS p),(11,hI s),(12,hI h),(67,hB w)] [(4,.cells [.tv (.int .i32 d.fFrom),cS d.fTo,cL (.st .aItem) d.fLeft,cL (.st .aItem) d.fRight,cB d.fInitial,cB d.fFinal])])
 | .c3 t h i d e p s=>([.r,.r,.r,.r,.r,.r,.l,.r,.k,.L,.r,.l,.k,.r],ms 80 80 [(4,hP 4),(8,hT 100008 3 (.int .i64) i),(9,hL (.int .i32) (rns e)),(10,hS p),(11,hI s),(12,hI h),(13,hB t)] [(4,.cells [.tv (.int .i32 d.fFrom),cS d.fTo,cL (.st .aItem) d.fLeft,cL (.st .aItem) d.fRight,cB d.fInitial,cB d.fFinal])])
 | .c2 h m o i d e t=>([.r,.r,.r,.r,.r,.r,.l,.r,.k,.L,.r,.l,.k],ms 80 80 [(4,hP 4),(8,hT 100008 3 (.int .i64) i),(9,hL (.int .i32) (rns e)),(10,hS o),(11,hI m),(12,hI h),(13,hB t)] [(4,.cells [.tv (.int .i32 d.fFrom),cS d.fTo,cL (.st .aItem) d.fLeft,cL (.st .aItem) d.fRight,cB d.fInitial,cB d.fFinal])])
 | .c5 u=>([.r,.r,.r,.r,.r,.r],ms 80 80 [(10,hS u)])
 | .c1 i d e o m h=>([.r,.r,.r,.r,.r,.r,.l,.r,.k],ms 80 80 [(4,hP 4),(8,hT 100008 3 (.int .i64) i),(9,hL (.int .i32) (rns e)),(10,hS o),(11,hI m),(12,hI h)] [(4,.cells [.tv (.int .i32 d.fFrom),cS d.fTo,cL (.st .aItem) d.fLeft,cL (.st .aItem) d.fRight,cB d.fInitial,cB d.fFinal])])
theorem g:D.G st pt:=fun Z a=>by cases a <;> kernel_rfl
theorem g0:D.G0 go pt:=fun Z ⟨_,_,_⟩=>by kernel_rfl
abbrev con:Con Tryz.prog E:=FD.con Tryz.func112 (by kernel_rfl) g g0
end r07_Apply
def r07_Apply (v:List aLetter) (d:aRule) (e:List UInt8):Option ((List UInt8)×Int):=ev (r07_Apply.go (v,d,e)) (fx r07_Apply.st)
end Go.Ai.Mor
end

set_option maxRecDepth 100000
noncomputable section
namespace Go.Ai.Mor
open Go Go.Ai Go.Proofs
namespace r07_Trace
inductive Pt
 | c1 (h:List aLetter) (d:List aRule) (i:List (List UInt8)) (e:Int)
def D:FD pd := {f:=77,fn:=Tryz.f77,q:=46,pl:=pls 16 [(6,kp [0,1,9] [] [] [(8,.own (100008,0,9) .str)])],ps:=[(.sl (.st .aLetter)),(.sl (.st .aRule)),.str],rs:=[(.sl .str),(.int .i64)],ex:=[some 9,none],cs:=[r07_Check.con,r07_Apply.con]}
def go:((List aLetter)×(List aRule)×(List UInt8))->Tr Pt ((List (List UInt8))×Int)
 | (h,d,o)=>
  .b (r07_Check h d o) fun p=>
  .c (!p)
  (.r ([],1))
  (.j (.c1 h d [o] 0))
def st:Pt->Tr Pt ((List (List UInt8))×Int)
 | .c1 h d i e=>
  .c (decide (e<(d.length:Int)))
  (.c (decide (0<=e)&&decide (e<(d.length:Int)))
   (.c (decide (0<=e)&&decide (e<(i.length:Int)))
    (.b (r07_Apply h (d.getD e.toNat default) (i.getD e.toNat default)) fun m=>
     .c (!decide (m.2=0))
     (.r ([],m.2))
     (.c (decide (i.length+([m.1]:List (List UInt8)).length<=lim))
      (.j (.c1 h d (i++[m.1]) (IntKind.i64.wrap (e+1)))) .n)) .n) .n)
  (.r (i,0))
def pt:Pt->List Dir×St E
 | .c1 h d i e=>([.r,.r,.r,.l,.r,.k],ms 46 46 [(0,hL (.st .aLetter) h),(1,hL (.st .aRule) d),(8,hT 100008 9 .str i),(9,hI e)])
theorem g:D.G st pt:=fun Z a=>by cases a <;> kernel_rfl
theorem g0:D.G0 go pt:=fun Z ⟨_,_,_⟩=>by kernel_rfl
abbrev con:Con Tryz.prog E:=FD.con Tryz.func77 (by kernel_rfl) g g0
end r07_Trace
def r07_Trace (h:List aLetter) (d:List aRule) (o:List UInt8):Option ((List (List UInt8))×Int):=ev (r07_Trace.go (h,d,o)) (fx r07_Trace.st)
end Go.Ai.Mor
end

set_option maxRecDepth 100000
noncomputable section
namespace Go.Ai.Mor
open Go Go.Ai Go.Proofs
namespace r07_Cascade
inductive Pt
def D:FD pd := {f:=49,fn:=Tryz.f49,q:=26,ps:=[(.sl (.st .aLetter)),(.sl (.st .aRule)),.str],rs:=[.str,(.int .i64)],ex:=[none,none],cs:=[r07_Trace.con]}
def go:((List aLetter)×(List aRule)×(List UInt8))->Tr Pt ((List UInt8)×Int)
 | (e,h,i)=>
  .b (r07_Trace e h i) fun d=>
  .c (!decide (d.2=0))
  (.r ([],d.2))
  (.c (decide (0<=IntKind.i64.wrap ((d.1.length:Int) - 1))&&decide (IntKind.i64.wrap ((d.1.length:Int) - 1)<(d.1.length:Int)))
   (.r (d.1.getD (IntKind.i64.wrap ((d.1.length:Int) - 1)).toNat default,0)) .n)
def st:Pt->Tr Pt ((List UInt8)×Int):=nofun
def pt:Pt->List Dir×St E:=nofun
theorem g:D.G st pt:=fun Z a=>by cases a <;> kernel_rfl
theorem g0:D.G0 go pt:=fun Z ⟨_,_,_⟩=>by kernel_rfl
abbrev con:Con Tryz.prog E:=FD.con Tryz.func49 (by kernel_rfl) g g0
end r07_Cascade
def r07_Cascade (e:List aLetter) (h:List aRule) (i:List UInt8):Option ((List UInt8)×Int):=ev (r07_Cascade.go (e,h,i)) (fx r07_Cascade.st)
end Go.Ai.Mor
end

namespace Go.Ai.Mor
open Go Go.Ai
def nI (l:List Nat):List Int:=l.map fun r:Nat=>(r:Int)
theorem rns_nI (s:List UInt8):rns s=nI (runesL s):=rns_eq s
theorem nI_append (a b:List Nat):nI (a++b)=nI a++nI b:=List.map_append
theorem nI_length (l:List Nat):(nI l).length=l.length:=List.length_map _
theorem result_eq {r:aRule} (h4:(runesL r.fTo).length<=4) {w:List UInt8} (h40:(runesL w).length<=40) (t:List Int) (ht:t.length<=100) :
  rewrite_result r t w=some (encs (putR (decide (r.fFrom=0)) (runesL r.fTo) 0 t (runesL w))):=by
 have hexit:∀ (e:Nat) (t:List Int) (on:List Nat),(runesL w).length<e->fx rewrite_result.st (.c1 r w t (nI on) (e:Int))=some (encs on):=by
  intro e t on he
  rw [fx_eq]; simp only [rewrite_result.st,evs,rns_len,fx_eq rewrite_result.st (.c5 ..)]
  rw [cneg (by omega)]
  congr 1
  exact utf_map on
 have l4:∀ (e:Nat) (t:List Int) (on:List Nat) (b:Bool),(b=true->e<(runesL w).length)->on.length<=1000->e<=40->fx rewrite_result.st (.c4 (e:Int) (nI on) r t w b)=fx rewrite_result.st (.c1 r w t (nI (on++cond b [(runesL w).getD e 0] [])) ((e+1:Nat):Int)):=by
  intro e t on b hb hon he
  have hw:IntKind.i64.wrap ((e:Int)+1)=((e+1:Nat):Int):=wsucc (by omega)
  rw [fx_eq]; simp only [rewrite_result.st,evs,rns_len,hw,Int.toNat_natCast]
  cases b with
  | false=>simp
  | true=>
    have hlt:=hb rfl
    have e1:(runesL w).getD e 0=(runesL w)[e]:=by simp [hlt]
    rw [cond_true,cpos2 (by omega) (by omega),cpos (by simp only [len,len0,nI_length]; omega),rns_get hlt,cond_true,nI_append,e1]
    rfl
 have l3:∀ (e:Nat) (t:List Int) (on:List Nat) (b:Bool),on.length<=1000->e<=40->fx rewrite_result.st (.c3 (e:Int) r w b t (nI on))=fx rewrite_result.st (.c1 r w t (nI (on++cond (decide (e<(runesL w).length)&&(!b||decide (r.fFrom=0))) [(runesL w).getD e 0] [])) ((e+1:Nat):Int)):=by
  intro e t on b hon he
  rw [fx_eq]; simp only [rewrite_result.st,evs,rns_len]
  by_cases h:e<(runesL w).length
  ·rw [cpos (by omega),l4 e t on true (fun _=>h) hon he,l4 e t on _ (fun _=>h) hon he]
   cases b <;> simp [h]
  ·rw [cneg (by omega),l4 e t on false (fun hb=>by cases hb) hon he]
   simp [h]
 have loop:∀ (d e:Nat) (t:List Int) (on:List Nat),e+d=(runesL w).length->t.length<=100->on.length<=5*e->fx rewrite_result.st (.c1 r w t (nI on) (e:Int))=some (encs (on++putR (decide (r.fFrom=0)) (runesL r.fTo) e t ((runesL w).drop e))):=by
  intro d
  induction d with
  | zero=>
    intro e t on he ht hon
    have e1:(runesL w).drop e=[]:=List.drop_of_length_le (by omega)
    have hlt:decide (e<(runesL w).length)=false:=by simp; omega
    rw [fx_eq]; simp only [rewrite_result.st,evs,rns_len,fx_eq rewrite_result.st (.c2 ..)]
    rw [cpos (by omega),e1]
    cases t with
    | nil=>
      rw [cneg (by simp),cond_false,l3 e [] on false (by omega) (by omega),hlt,hexit _ _ _ (by omega)]
      simp [putR]
    | cons x t=>
      rw [cpos (by simp only [List.length_cons]; omega),cpos2 (by omega) (by simp only [List.length_cons]; omega)]
      simp only [List.getD_cons_zero,putR,List.head?_cons,Option.some.injEq]
      by_cases hx:x=(e:Int)
      ·rw [cpos hx,cpos hx,cpos2 (by omega) (by simp only [List.length_cons]; omega),cpos (by simp only [len,len0,nI_length,rns_len]; omega),rns_nI,<- nI_append,l3 e _ _ _ (by simp; omega) (by omega),hlt,hexit _ _ _ (by omega)]
       simp
      ·rw [cneg hx,cneg hx,decide_eq_false hx,l3 e _ on false (by omega) (by omega),hlt,hexit _ _ _ (by omega)]
       simp
  | succ d ih=>
    intro e t on he ht hon
    have hlt:e<(runesL w).length:=by omega
    have hlt' : decide (e<(runesL w).length)=true:=by simp [hlt]
    have e1:(runesL w).drop e=(runesL w)[e]::(runesL w).drop (e+1):=List.drop_eq_getElem_cons hlt
    have e2:(runesL w).getD e 0=(runesL w)[e]:=by simp [hlt]
    rw [fx_eq]; simp only [rewrite_result.st,evs,rns_len,fx_eq rewrite_result.st (.c2 ..)]
    rw [cpos (by omega),e1]
    cases t with
    | nil=>
      rw [cneg (by simp),cond_false,l3 e [] on false (by omega) (by omega),hlt',e2,ih (e+1) [] _ (by omega) (by omega) (by simp; omega)]
      simp [putR]
    | cons x t=>
      have ht2:t.length<=100:=by simp only [List.length_cons] at ht; omega
      rw [cpos (by simp only [List.length_cons]; omega),cpos2 (by omega) (by simp only [List.length_cons]; omega)]
      simp only [List.getD_cons_zero,putR,List.head?_cons,Option.some.injEq,List.tail_cons]
      by_cases hx:x=(e:Int)
      ·rw [cpos hx,cpos hx,cpos2 (by omega) (by simp only [List.length_cons]; omega),cpos (by simp only [len,len0,nI_length,rns_len]; omega),rns_nI,<- nI_append,l3 e _ _ _ (by simp; omega) (by omega),hlt',e2,List.drop_one,List.tail_cons,ih (e+1) t _ (by omega) ht2 (by
        simp only [List.length_append]
        have:(cond (true&&(!decide (x=(e:Int))||decide (r.fFrom=0))) [(runesL w)[e]] []).length<=1:=by cases (true&&(!decide (x=(e:Int))||decide (r.fFrom=0))) <;> simp
        omega)]
       simp [hx]
      ·rw [cneg hx,cneg hx,decide_eq_false hx,l3 e _ on false (by omega) (by omega),hlt',e2,ih (e+1) (x::t) _ (by omega) ht (by simp; omega)]
       simp
 simp only [rewrite_result,rewrite_result.go,evs,rns_len]
 rw [cpos (by simp only [len,len0]; omega),cpos (by simp only [len,len0]; omega)]
 exact loop (runesL w).length 0 t [] (by omega) ht (by simp)
theorem putR_mem {ins:Bool} {to' : List Nat} {c:Nat} : ∀ {w:List Nat} {i:Nat} {t:List Int},c ∈ putR ins to' i t w->c ∈ to' \/ c ∈ w
 | [],i,t,h=>by
   simp only [putR] at h
   cases hb:decide (t.head? = some (i:Int)) with
   | true=>rw [hb] at h; exact .inl h
   | false=>rw [hb] at h; cases h
 | x::w,i,t,h=>by
   simp only [putR] at h
   cases hb:decide (t.head? = some (i:Int)) with
   | true=>
     rw [hb,cond_true,List.mem_append,List.mem_append] at h
     rcases h with h | h | h
     ·exact .inl h
     ·cases ins with
      | true=>simp at h; exact .inr (by simp [h])
      | false=>cases h
     ·rcases putR_mem h with h | h
      ·exact .inl h
      ·exact .inr (List.mem_cons_of_mem _ h)
   | false=>
     rw [hb,cond_false] at h
     rcases List.mem_cons.1 h with rfl | h
     ·exact .inr (by simp)
     ·rcases putR_mem h with h | h
      ·exact .inl h
      ·exact .inr (List.mem_cons_of_mem _ h)
theorem putR_len {ins:Bool} {to' : List Nat} : ∀ (w:List Nat) (i:Nat) (t:List Int),(putR ins to' i t w).length<=w.length+(w.length+1)*to'.length
 | [],i,t=>by
   simp only [putR]
   cases decide (t.head? = some (i:Int)) <;> simp
 | x::w,i,t=>by
   simp only [putR,List.length_cons]
   have e:(w.length+1+1)*to'.length=(w.length+1)*to'.length+to'.length:=by rw [Nat.add_mul (w.length+1) 1,Nat.one_mul]
   cases decide (t.head? = some (i:Int)) with
   | true=>
     have:=putR_len (ins:=ins) (to' := to') w (i+1) t.tail
     have h1:(cond ins [x] []).length<=1:=by cases ins <;> simp
     simp only [cond_true,List.length_append]; omega
   | false=>
     have:=putR_len (ins:=ins) (to' := to') w (i+1) t
     simp only [cond_false,List.length_cons]; omega
theorem apply_in {a:List aLetter} {r:aRule} {s:List UInt8} (hr:ruleB a r=true) (hs:wordB a s=true):∀ c ∈ applyS a r (runesL s),inA a (c:Int)=true:=fun c hc=>by
 obtain ⟨_,ht,_,_⟩:=ruleB_parts hr
 simp only [toB,Bool.and_eq_true] at ht
 rcases putR_mem hc with h | h
 ·exact overB_in ht.1 c h
 ·exact overB_in (wordB_parts hs).1 c h
theorem apply_len {a:List aLetter} {r:aRule} {s:List UInt8} (hr:ruleB a r=true) (hs:wordB a s=true):(applyS a r (runesL s)).length<=204:=by
 obtain ⟨_,ht,_,_⟩:=ruleB_parts hr
 simp only [toB,Bool.and_eq_true,decide_eq_true_eq] at ht
 have h40:=(wordB_parts hs).2
 have:=putR_len (ins:=decide (r.fFrom=0)) (to' := runesL r.fTo) (runesL s) 0 (sitesS a r (runesL s))
 have h2:((runesL s).length+1)*(runesL r.fTo).length<=41*4:=Nat.mul_le_mul (by omega) ht.2
 unfold applyS
 omega
theorem Apply_eq {a:List aLetter} (ha:a.length<=1048576) {r:aRule} (hr:okRule r) {s:List UInt8} (hs:s.length<=4194304):rewrite_Apply a r s=some (applyW a r s):=by
 simp only [rewrite_Apply,rewrite_Apply.go,evs,ev_b,rewrite_Valid_eq ha hr,letters_isWord_eq ha hs,Sites_eq ha hr hs,Option.bind_some,cnot,applyW]
 cases hrb:ruleB a r with
 | false=>rfl
 | true=>
   cases hwb:wordB a s with
   | false=>rfl
   | true=>
     obtain ⟨hadm,ht,_,_⟩:=ruleB_parts hrb
     simp only [toB,Bool.and_eq_true,decide_eq_true_eq] at ht
     have h40:=(wordB_parts hwb).2
     have hsl:=sitesF_len a r (runesL s) ((runesL s).length+1) 0
     simp only [cond_true,Bool.and_self]
     rw [result_eq ht.2 h40 _ (by unfold sitesS; omega),Option.bind_some]
     have hin:=apply_in hrb hwb
     have hl:=apply_len hrb hwb
     obtain ⟨g1,g2⟩:=over_encs hadm hin
     have hel:=encs_len (applyS a r (runesL s))
     show (unicode_utf8_RuneCountInString (encs (applyS a r (runesL s)))).bind _=_
     rw [utf8_RuneCount_eq (by omega),Option.bind_some,g2]
     by_cases h:(applyS a r (runesL s)).length<=40
     ·rw [cneg (by omega),cpos h]; rfl
     ·rw [cpos (by omega),cneg h]
theorem HC_all {w:aWords} (hw:OkW w):HC w:=fun _ hu=>Cascade_eq hw.al hw.rules (fun r hr _ hv=>Apply_eq hw.al (hw.rules r hr) hv) hu
theorem ref07_has_eq {l:List Int} (hl:l.length<=1048576) (k:Int):r07_has l k=some (l.any fun y=>decide (y=k)):=
 over (xs:=l) (f:=fun i (_:Unit)=>fx r07_has.st (.c1 l k i)) (g:=fun t _=>some (t.any fun y=>decide (y=k))) (fun _=>by
  rw [fx_eq]; simp only [r07_has.st,evs,↓cneg (Int.lt_irrefl _),List.any_nil]) (fun i x t _ hi hx ih=>by
  have ih:=ih ()
  rw [fx_eq]; simp (disch:=omega) only [r07_has.st,evs,↓cpos,↓cpos2,Int.toNat_natCast,hx,wsucc,ih,List.any_cons]
  cases decide (x=k) <;> rfl) ()
theorem ref07_Admits_eq {a:List aLetter} (ha:a.length<=1048576) {x:aItem} (hx:x.fLetters.length<=1048576) (r:Nat):r07_Admits a x (r:Int)=some (admR a x r):=by
 have l1:∀ b,fx r07_Admits.st (.c1 x b)=some (b != x.fNegated):=fun b=>by
  rw [fx_eq]; simp only [r07_Admits.st,evs]; cases b <;> cases x.fNegated <;> rfl
 have hr:=rns_len x.fLetters
 have hl:=runesL_length x.fLetters
 simp only [r07_Admits,r07_Admits.go,evs,ev_b,ref07_Index_eq ha,Option.bind_some,l1]
 unfold admR
 rcases fst_find (fun l:aLetter=>decide (l.fRune=(r:Int))) a with ⟨h1,h2⟩ | ⟨j,h1,h2,h3⟩
 ·rw [h1,h2]; rfl
 ·have hrune:(a.getD j default).fRune=(r:Int):=by
   have:=List.find?_some h3
   exact of_decide_eq_true this
  simp only [h2,h3]
  have hlim:(rns x.fLetters).length<=lim:=by simp only [len0]; omega
  rw [cneg (by omega),cpos2 (by omega) (by omega),cpos hlim,ref07_has_eq (by omega),Option.bind_some]
  simp only [Int.toNat_natCast,admL]
  have e:((rns x.fLetters).any fun y=>decide (y=(r:Int)))=((runesL x.fLetters).any fun c=>decide ((c:Int)=(a.getD j default).fRune)):=by
   rw [rns_eq,List.any_map,hrune]; rfl
  rw [e]
  cases decide (IntKind.u32.wrap (((BitVec.ofInt IntKind.u32.bits (a.getD j default).fClasses &&& BitVec.ofInt IntKind.u32.bits x.fMask).toNat:Int))=x.fMask) <;> cases decide (x.fLetters=[]) <;> rfl
theorem ref07_Matches_eq {a:List aLetter} (ha:a.length<=1048576):∀ {p:List aItem} (s:List Nat),okItems p->s.length<=1048576->r07_Matches a p (nI s)=some (matchS a p s):=by
 have hm:∀ (a:List aLetter) (p:List aItem) (s:List Int),fx r07_Matches.st (.me (a,p,s))=r07_Matches a p s:=fun a p s=>by rw [fx_eq]; rfl
 intro p
 induction p with
 | nil=>
   intro s _ hs
   simp only [r07_Matches,r07_Matches.go,evs,matchS,mt_nil,nI_length,List.length_nil]
   rw [cpos (by omega)]
   cases s with
   | nil=>rfl
   | cons c s=>simp; omega
 | cons x p ihp=>
   intro s hp
   have hp' : okItems p:=⟨by have:=hp.1; simp only [List.length_cons] at this; omega,fun y hy=>hp.2 y (List.mem_cons_of_mem _ hy)⟩
   have hpl:=hp.1
   simp only [List.length_cons] at hpl
   induction s with
   | nil=>
     intro hs
     have h1:fx r07_Matches.st (.c1 a (x::p) (nI []))=some false:=by
      rw [fx_eq]; simp only [r07_Matches.st,evs]; rfl
     have ih0:=ihp [] hp' (by simp)
     show ev (r07_Matches.go (a,x::p,nI [])) (fx r07_Matches.st)=_
     simp only [r07_Matches.go,evs,List.getD_cons_zero,List.drop_one,List.tail_cons,hm,ih0,h1,Option.bind_some,List.length_cons]
     rw [cneg (by omega),cpos2 (by omega) (by omega),cpos2 (by omega) (by omega)]
     simp only [matchS,mt_cons_nil,rep]
     cases x.fRepeated with
     | false=>rfl
     | true=>simp only [cond_true,Bool.true_and]; cases mt rep (admR a) p [] <;> rfl
   | cons c s ihs=>
     intro hs
     simp only [List.length_cons] at hs
     have ihs:=ihs (by omega)
     have ih1:=ihp (c::s) hp' (by simp only [List.length_cons]; omega)
     have ih2:=ihp s hp' (by omega)
     have h1:fx r07_Matches.st (.c1 a (x::p) (nI (c::s)))=some (admR a x c&&cond x.fRepeated (matchS a (x::p) s) (matchS a p s)):=by
      have e1:nI (c::s)=(c:Int)::nI s:=rfl
      rw [fx_eq]; simp only [r07_Matches.st,evs,ev_b,e1,List.getD_cons_zero,List.drop_one,List.tail_cons,hm,ihs,ih2,Option.bind_some,List.length_cons,nI_length,ref07_Admits_eq ha (hp.2 x (by simp)),cnot]
      rw [cneg (by omega),cpos2 (by omega) (by omega),cpos2 (by omega) (by omega),cpos2 (by omega) (by omega),cpos2 (by omega) (by omega),cpos2 (by omega) (by omega),cpos2 (by omega) (by omega)]
      cases admR a x c <;> cases x.fRepeated <;> rfl
     show ev (r07_Matches.go (a,x::p,nI (c::s))) (fx r07_Matches.st)=_
     simp only [r07_Matches.go,evs,List.getD_cons_zero,List.drop_one,List.tail_cons,hm,ih1,h1,Option.bind_some,List.length_cons]
     rw [cneg (by omega),cpos2 (by omega) (by omega),cpos2 (by omega) (by omega)]
     simp only [matchS,mt_cons,rep]
     cases x.fRepeated with
     | false=>simp
     | true=>simp only [cond_true,Bool.true_and]; cases mt rep (admR a) p (c::s) <;> simp
theorem nI_take (l:List Nat) (i:Nat):(nI l).take i=nI (l.take i):=List.map_take.symm
theorem nI_drop (l:List Nat) (i:Nat):(nI l).drop i=nI (l.drop i):=List.map_drop.symm
theorem ref07_left_eq {a:List aLetter} (ha:a.length<=1048576) {r:aRule} (hr:okRule r) {s:List Nat} (hs:s.length<=1048576):r07_left a r (nI s)=some (leftS a r s):=by
 have loop:∀ (d i:Nat),i+d=s.length+1->fx r07_left.st (.c1 a r (nI s) (i:Int))=some ((List.range' i d).any fun i=>matchS a r.fLeft (s.drop i)):=by
  intro d
  induction d with
  | zero=>
    intro i hi
    rw [fx_eq]; simp only [r07_left.st,evs,nI_length]; rw [cneg (by omega)]; rfl
  | succ d ih=>
    intro i hi
    rw [fx_eq]; simp only [r07_left.st,evs,ev_b,nI_length,Int.toNat_natCast,nI_drop]
    rw [cpos (by omega),cpos2 (by omega) (by omega),ref07_Matches_eq ha _ hr.left (by rw [List.length_drop]; omega),Option.bind_some,wsucc (by omega),ih (i+1) (by omega),List.range'_succ,List.any_cons]
    cases matchS a r.fLeft (s.drop i) <;> rfl
 simp only [r07_left,r07_left.go,evs,ev_b,ref07_Matches_eq ha s hr.left hs,Option.bind_some,leftS]
 have:=loop (s.length+1) 0 (by omega)
 rw [<- List.range_eq_range'] at this
 rw [show ((0:Nat):Int)=0 from rfl] at this
 rw [this]
 cases r.fInitial <;> rfl
theorem ref07_right_eq {a:List aLetter} (ha:a.length<=1048576) {r:aRule} (hr:okRule r) {s:List Nat} (hs:s.length<=1048576):r07_right a r (nI s)=some (rightS a r s):=by
 have loop:∀ (d i:Nat),i+d=s.length+1->fx r07_right.st (.c1 a r (nI s) (i:Int))=some ((List.range' i d).any fun i=>matchS a r.fRight (s.take i)):=by
  intro d
  induction d with
  | zero=>
    intro i hi
    rw [fx_eq]; simp only [r07_right.st,evs,nI_length]; rw [cneg (by omega)]; rfl
  | succ d ih=>
    intro i hi
    rw [fx_eq]; simp only [r07_right.st,evs,ev_b,nI_length,Int.toNat_natCast,nI_take]
    rw [cpos (by omega),cpos2 (by omega) (by omega),ref07_Matches_eq ha _ hr.right (by rw [List.length_take]; omega),Option.bind_some,wsucc (by omega),ih (i+1) (by omega),List.range'_succ,List.any_cons]
    cases matchS a r.fRight (s.take i) <;> rfl
 simp only [r07_right,r07_right.go,evs,ev_b,ref07_Matches_eq ha s hr.right hs,Option.bind_some,rightS]
 have:=loop (s.length+1) 0 (by omega)
 rw [<- List.range_eq_range'] at this
 rw [show ((0:Nat):Int)=0 from rfl] at this
 rw [this]
 cases r.fFinal <;> rfl
theorem ref07_Sites_eq {a:List aLetter} (ha:a.length<=1048576) {r:aRule} (hr:okRule r) {s:List UInt8} (hs:s.length<=1048576):r07_Sites a r s=some (cond (ruleB a r&&wordB a s) (sitesS a r (runesL s)) []):=by
 simp only [r07_Sites,r07_Sites.go,evs,ev_b,ref07_Valid_eq ha hr,ref07_Word_eq ha hs,Option.bind_some,cnot]
 cases hrb:ruleB a r with
 | false=>rfl
 | true=>
   cases hwb:wordB a s with
   | false=>rfl
   | true=>
     obtain ⟨ho,h40⟩:=wordB_parts hwb
     simp only [cond_true,Bool.true_and,rns_len]
     rw [cpos (by simp only [len,len0]; omega)]
     have loop:∀ (d h:Nat) (m:List Int),h+d=(runesL s).length+1->m.length<=h->fx r07_Sites.st (.c1 a r s m (h:Int))=some (m++sitesF a r (runesL s) d h):=by
      intro d
      induction d with
      | zero=>
        intro h m h1 _
        rw [fx_eq]; simp only [r07_Sites.st,evs,rns_len]
        rw [cneg (by omega)]; simp [sitesF]
      | succ d ih=>
        intro h m h1 hm
        have hw:IntKind.i64.wrap ((h:Int)+1)=((h+1:Nat):Int):=wsucc (by omega)
        have l2:∀ o:Nat,o<=(runesL s).length->fx r07_Sites.st (.c2 a (h:Int) m r s (o:Int))=some (m++cond (leftS a r ((runesL s).take h)&&rightS a r ((runesL s).drop o)) ((h:Int)::sitesF a r (runesL s) d (h+1)) (sitesF a r (runesL s) d (h+1))):=by
         intro o hoo
         have hf:=ref07_left_eq ha hr (s:=(runesL s).take h) (by rw [List.length_take]; omega)
         have hp:=ref07_right_eq ha hr (s:=(runesL s).drop o) (by rw [List.length_drop]; omega)
         rw [fx_eq]; simp only [r07_Sites.st,evs,ev_b,rns_len,Int.toNat_natCast,rns_nI,nI_take,nI_drop,nI_length,hf,hp,Option.bind_some,hw]
         rw [cpos2 (by omega) (by omega),cpos2 (by omega) (by omega),cpos (by simp only [len,len0]; omega),ih (h+1) _ (by omega) (by simp; omega),ih (h+1) m (by omega) (by omega)]
         cases leftS a r ((runesL s).take h) <;> cases rightS a r ((runesL s).drop o) <;> simp
        rw [fx_eq]; simp only [r07_Sites.st,evs,rns_len,hw,Int.toNat_natCast]
        rw [cpos (by omega),l2 h (by omega),cnot]
        simp only [sitesF,siteB]
        by_cases h0:r.fFrom=0
        ·rw [cpos h0,cpos h0]
        ·rw [cneg h0,cneg h0]
         by_cases he:h=(runesL s).length
         ·have:(runesL s)[h]? = none:=by simp [he]
          rw [cpos (by omega),ih (h+1) m (by omega) (by omega),this]
          rfl
         ·have hlt:h<(runesL s).length:=by omega
          rw [cneg (by omega),cpos2 (by omega) (by omega),l2 (h+1) (by omega),ih (h+1) m (by omega) (by omega),List.getElem?_eq_getElem hlt,cnot]
          simp only [rns_get hlt]
          cases decide ((((runesL s)[h]:Nat):Int)=r.fFrom) with
          | false=>rfl
          | true=>simp
     have:=loop ((runesL s).length+1) 0 [] (by omega) (Nat.zero_le _)
     simpa [sitesS] using this
end Go.Ai.Mor

set_option maxRecDepth 100000
noncomputable section
namespace Go.Ai.Mor
open Go Go.Ai Go.Proofs
namespace l11_MorphologyAmbiguity
inductive Pt
def D:FD pd := {f:=5,fn:=Tryz.f5,q:=42,ps:=[(.st .aWords),.str],rs:=[.bool],ex:=[none],cs:=[l11_awake.con,l11_valid.con,morphology_Analyses.con,morphology_Ambiguity.con]}
def go:(aWords×(List UInt8))->Tr Pt (Bool)
 | (d,e)=>
  .b (l11_valid d) fun j=>
  .c (!j)
  (.b l11_awake fun k=>
   .r k)
  (.c (decide (200<(e.length:Int)))
   (.b l11_awake fun l=>
    .r l)
   (.b (morphology_Ambiguity d e) fun h=>
    .b (morphology_Analyses d e) fun i=>
    .b l11_awake fun m=>
    .c m
    (.c (decide (h.2=i.2))
     (.r (decide (h.1=(i.1.length:Int))))
     (.r false))
    (.r false)))
def st:Pt->Tr Pt (Bool):=nofun
def pt:Pt->List Dir×St E:=nofun
theorem g:D.G st pt:=fun Z a=>by cases a <;> kernel_rfl
theorem g0:D.G0 go pt:=fun Z ⟨_,_⟩=>by kernel_rfl
abbrev con:Con Tryz.prog E:=FD.con Tryz.func5 (by kernel_rfl) g g0
end l11_MorphologyAmbiguity
def l11_MorphologyAmbiguity (d:aWords) (e:List UInt8):Option (Bool):=ev (l11_MorphologyAmbiguity.go (d,e)) (fx l11_MorphologyAmbiguity.st)
end Go.Ai.Mor
end

set_option maxRecDepth 100000
noncomputable section
namespace Go.Ai.Mor
open Go Go.Ai Go.Proofs
namespace l11_MorphologyMore
inductive Pt
 | c2
 | c1 (e:(List aAnalysis)×Int) (d:aLexeme) (m:Int)
def D:FD pd := {f:=7,fn:=Tryz.f7,q:=92,pl:=pls 23 [(15,kp [4,12] [(4,5)] [] [(10,.own (100010,0,46) (.st .aAnalysis))]),(21,kp [])],ps:=[(.st .aWords),(.st .aLexeme),.str],rs:=[.bool],ex:=[none],cs:=[l11_awake.con,l11_valid.con,morphology_Analyses.con,r11_Same.con]}
def go:(aWords×aLexeme×(List UInt8))->Tr Pt (Bool)
 | (h,d,o)=>
  .c (decide (([]:List aLexeme).length+h.fLexemes.length<=lim))
  (.c (decide (([]++h.fLexemes:List aLexeme).length+([d]:List aLexeme).length<=lim))
   (.b (l11_valid h) fun p=>
    .c (!p)
    (.b l11_awake fun t=>
     .r t)
    (.b (l11_valid (aWords.mk h.fAlphabet h.fRules h.fParadigms (([]++h.fLexemes)++[d]))) fun s=>
     .c (!s)
     (.b l11_awake fun u=>
      .r u)
     (.c (decide (200<(o.length:Int)))
      (.b l11_awake fun v=>
       .r v)
      (.b (morphology_Analyses h o) fun i=>
       .b (morphology_Analyses (aWords.mk h.fAlphabet h.fRules h.fParadigms (([]++h.fLexemes)++[d])) o) fun e=>
       .c (!decide (i.2=e.2))
       (.b l11_awake fun w=>
        .c w
        (.r (decide (i.2=e.2)))
        (.r false))
       (.c (!decide (i.2=0))
        (.b l11_awake fun x=>
         .c x
         (.r (decide (i.2=e.2)))
         (.r false))
        (.c (decide ((e.1.length:Int)<(i.1.length:Int)))
         (.r false)
         (.c (decide (0<=(i.1.length:Int))&&decide ((i.1.length:Int)<=(e.1.length:Int)))
          (.b (r11_Same (e.1.take (i.1.length:Int).toNat) i.1) fun y=>
           .c (!y)
           (.r false)
           (.j (.c1 e d (i.1.length:Int)))) .n))))))) .n) .n
def st:Pt->Tr Pt (Bool)
 | .c2=>
  .b l11_awake fun z=>
  .r z
 | .c1 e d m=>
  .c (decide (m<(e.1.length:Int)))
  (.c (decide (0<=m)&&decide (m<(e.1.length:Int)))
   (.c (!decide (((e.1.getD m.toNat default).fLexeme)=d.fID))
    (.r false)
    (.j (.c1 e d (IntKind.i64.wrap (m+1))))) .n)
  (.j .c2)
def pt:Pt->List Dir×St E
 | .c2=>([.r,.r,.r,.r,.r,.r,.r,.r],ms 92 92 [])
 | .c1 e d m=>([.r,.r,.r,.r,.r,.r,.r,.r,.l,.r,.k],ms 92 92 [(4,hP 4),(10,hT 100010 46 (.st .aAnalysis) e.1),(12,hI m)] [(4,.cells [cS d.fID,cS d.fCategory,cS d.fStem,cS d.fParadigm,cL (.st .aFeature) d.fFeatures])])
theorem g:D.G st pt:=fun Z a=>by cases a <;> kernel_rfl
theorem g0:D.G0 go pt:=fun Z ⟨_,_,_⟩=>by kernel_rfl
abbrev con:Con Tryz.prog E:=FD.con Tryz.func7 (by kernel_rfl) g g0
end l11_MorphologyMore
def l11_MorphologyMore (h:aWords) (d:aLexeme) (o:List UInt8):Option (Bool):=ev (l11_MorphologyMore.go (h,d,o)) (fx l11_MorphologyMore.st)
end Go.Ai.Mor
end

set_option maxRecDepth 100000
noncomputable section
namespace Go.Ai.Mor
open Go Go.Ai Go.Proofs
namespace l11_MorphologyOneRelation
inductive Pt
 | c4 (m:(List aAnalysis)×Int) (u:Bool)
 | c3 (d:List aFeature) (h:List UInt8) (m:(List aAnalysis)×Int) (t:Bool) (o:Int)
 | c2 (d:List aFeature) (h:List UInt8) (i:(List aAnalysis)×Int) (e:aWords)
 | c1 (d:List aFeature) (h:List UInt8) (i:(List aAnalysis)×Int) (e:aWords) (s:List UInt8) (p:Int)
def D:FD pd := {f:=11,fn:=Tryz.f11,q:=126,pl:=pls 27 [(6,kp [1,2,3,4,10,11] [(4,4)] [] [(9,.own (100009,0,46) (.st .aAnalysis))]),(13,kp [2,3,4,10] [(4,4)] [] [(9,.own (100009,0,46) (.st .aAnalysis))]),(21,kp [2,3,17,18,19] [] [] [(16,.own (100016,0,46) (.st .aAnalysis))]),(25,kp [17,18])],ps:=[(.st .aWords),.str,.str,(.sl (.st .aFeature))],rs:=[.bool],ex:=[none],cs:=[l11_awake.con,l11_valid.con,morphology_Analyses.con,r02_Same.con,morphology_Surface.con]}
def go:(aWords×(List UInt8)×(List UInt8)×(List aFeature))->Tr Pt (Bool)
 | (e,s,h,d)=>
  .b (l11_valid e) fun z=>
  .c (!z)
  (.b l11_awake fun ab=>
   .r ab)
  (.c (decide (200<(s.length:Int)))
   (.b l11_awake fun ac=>
    .r ac)
   (.c (decide (10<(d.length:Int)))
    (.b l11_awake fun aa=>
     .r aa)
    (.b (morphology_Analyses e s) fun i=>
     .j (.c1 d h i e s 0))))
def st:Pt->Tr Pt (Bool)
 | .c4 m u=>
  .b l11_awake fun y=>
  .c y
  (.c (decide (m.2=0))
   (.r u)
   (.r false))
  (.r false)
 | .c3 d h m t o=>
  .c (decide (o<(m.1.length:Int)))
  (.c t
   (.j (.c3 d h m true (IntKind.i64.wrap (o+1))))
   (.c (decide (0<=o)&&decide (o<(m.1.length:Int)))
    (.c (decide (((m.1.getD o.toNat default).fLexeme)=h))
     (.c (decide (0<=o)&&decide (o<(m.1.length:Int)))
      (.b (r02_Same ((m.1.getD o.toNat default).fCell) d) fun x=>
       .j (.c3 d h m x (IntKind.i64.wrap (o+1)))) .n)
     (.j (.c3 d h m false (IntKind.i64.wrap (o+1))))) .n))
  (.j (.c4 m t))
 | .c2 d h i e=>
  .b (morphology_Surface e h d) fun w=>
  .c (!decide (w.2=0))
  (.b l11_awake fun ad=>
   .c ad
   (.c (decide (i.2=0))
    (.r true)
    (.r (decide ((i.1.length:Int)=0))))
   (.r false))
  (.b (morphology_Analyses e w.1) fun m=>
   .j (.c3 d h m false 0))
 | .c1 d h i e s p=>
  .c (decide (p<(i.1.length:Int)))
  (.c (decide (0<=p)&&decide (p<(i.1.length:Int)))
   (.c (decide (0<=p)&&decide (p<(i.1.length:Int)))
    (.b (morphology_Surface e ((i.1.getD p.toNat default).fLexeme) ((i.1.getD p.toNat default).fCell)) fun v=>
     .c (!decide (v.2=0))
     (.r false)
     (.c (!decide (v.1=s))
      (.r false)
      (.j (.c1 d h i e s (IntKind.i64.wrap (p+1)))))) .n) .n)
  (.j (.c2 d h i e))
def pt:Pt->List Dir×St E
 | .c4 m u=>([.r,.r,.r,.r,.r,.r,.r,.r],ms 126 126 [(17,hI m.2),(18,hB u)])
 | .c3 d h m t o=>([.r,.r,.r,.r,.r,.r,.r,.r,.l,.r,.k],ms 126 126 [(2,hS h),(3,hL (.st .aFeature) d),(16,hT 100016 46 (.st .aAnalysis) m.1),(17,hI m.2),(18,hB t),(19,hI o)])
 | .c2 d h i e=>([.r,.r,.r],ms 126 126 [(2,hS h),(3,hL (.st .aFeature) d),(4,hP 4),(9,hT 100009 46 (.st .aAnalysis) i.1),(10,hI i.2)] [(4,.cells [cL (.st .aLetter) e.fAlphabet,cL (.st .aRule) e.fRules,cL (.st .aParadigm) e.fParadigms,cL (.st .aLexeme) e.fLexemes])])
 | .c1 d h i e s p=>([.r,.r,.r,.l,.r,.k],ms 126 126 [(1,hS s),(2,hS h),(3,hL (.st .aFeature) d),(4,hP 4),(9,hT 100009 46 (.st .aAnalysis) i.1),(10,hI i.2),(11,hI p)] [(4,.cells [cL (.st .aLetter) e.fAlphabet,cL (.st .aRule) e.fRules,cL (.st .aParadigm) e.fParadigms,cL (.st .aLexeme) e.fLexemes])])
theorem g:D.G st pt:=fun Z a=>by cases a <;> kernel_rfl
theorem g0:D.G0 go pt:=fun Z ⟨_,_,_,_⟩=>by kernel_rfl
abbrev con:Con Tryz.prog E:=FD.con Tryz.func11 (by kernel_rfl) g g0
end l11_MorphologyOneRelation
def l11_MorphologyOneRelation (e:aWords) (s h:List UInt8) (d:List aFeature):Option (Bool):=ev (l11_MorphologyOneRelation.go (e,s,h,d)) (fx l11_MorphologyOneRelation.st)
end Go.Ai.Mor
end

set_option maxRecDepth 100000
noncomputable section
namespace Go.Ai.Mor
open Go Go.Ai Go.Proofs
namespace r11_Lexeme
inductive Pt
 | c1 (e:List UInt8) (b:aWords) (d:Int)
def D:FD pd := {f:=28,fn:=Tryz.f28,q:=22,pl:=pls 10 [(2,kp [1,2,5] [(2,4)])],ps:=[(.st .aWords),.str],rs:=[(.int .i64)],ex:=[none]}
def go:(aWords×(List UInt8))->Tr Pt (Int)
 | (b,e)=>
  .j (.c1 e b 0)
def st:Pt->Tr Pt (Int)
 | .c1 e b d=>
  .c (decide (d<(b.fLexemes.length:Int)))
  (.c (decide (0<=d)&&decide (d<(b.fLexemes.length:Int)))
   (.c (decide (((b.fLexemes.getD d.toNat default).fID)=e))
    (.r d)
    (.j (.c1 e b (IntKind.i64.wrap (d+1))))) .n)
  (.r (-1))
def pt:Pt->List Dir×St E
 | .c1 e b d=>([.r,.l,.r,.k],ms 22 22 [(1,hS e),(2,hP 2),(5,hI d)] [(2,.cells [cL (.st .aLetter) b.fAlphabet,cL (.st .aRule) b.fRules,cL (.st .aParadigm) b.fParadigms,cL (.st .aLexeme) b.fLexemes])])
theorem g:D.G st pt:=fun Z a=>by cases a <;> kernel_rfl
theorem g0:D.G0 go pt:=fun Z ⟨_,_⟩=>by kernel_rfl
abbrev con:Con Tryz.prog E:=FD.con Tryz.func28 (by kernel_rfl) g g0
end r11_Lexeme
def r11_Lexeme (b:aWords) (e:List UInt8):Option (Int):=ev (r11_Lexeme.go (b,e)) (fx r11_Lexeme.st)
end Go.Ai.Mor
end

set_option maxRecDepth 100000
noncomputable section
namespace Go.Ai.Mor
open Go Go.Ai Go.Proofs
namespace r11_Cells
inductive Pt
def D:FD pd := {f:=29,fn:=Tryz.f29,q:=19,ps:=[(.st .aWords),(.st .aLexeme)],rs:=[(.sl (.sl (.st .aFeature)))],ex:=[some 44],cs:=[r11_Paradigm.con,r10_Cells.con]}
def go:(aWords×aLexeme)->Tr Pt ((List (List aFeature)))
 | (d,e)=>
  .c (decide (e.fParadigm=[]))
  (.r ([[]]))
  (.b (r11_Paradigm d e.fParadigm) fun h=>
   .c (decide (0<=h)&&decide (h<(d.fParadigms.length:Int)))
   (.b (r10_Cells (d.fParadigms.getD h.toNat default)) fun i=>
    .r i) .n)
def st:Pt->Tr Pt ((List (List aFeature))):=nofun
def pt:Pt->List Dir×St E:=nofun
theorem g:D.G st pt:=fun Z a=>by cases a <;> kernel_rfl
theorem g0:D.G0 go pt:=fun Z ⟨_,_⟩=>by kernel_rfl
abbrev con:Con Tryz.prog E:=FD.con Tryz.func29 (by kernel_rfl) g g0
end r11_Cells
def r11_Cells (d:aWords) (e:aLexeme):Option ((List (List aFeature))):=ev (r11_Cells.go (d,e)) (fx r11_Cells.st)
end Go.Ai.Mor
end

set_option maxRecDepth 100000
noncomputable section
namespace Go.Ai.Mor
open Go Go.Ai Go.Proofs
namespace l11_MorphologyForms
inductive Pt
 | c2 (i:Int) (m:List UInt8) (d:(List (List UInt8))×Int) (h:List (List aFeature)) (e:aWords) (s:Bool)
 | c3 (d:(List (List UInt8))×Int) (h:List (List aFeature))
 | c1 (m:List UInt8) (d:(List (List UInt8))×Int) (h:List (List aFeature)) (e:aWords) (i:Int)
def D:FD pd := {f:=10,fn:=Tryz.f10,q:=105,pl:=pls 23 [(11,kp [1,2,6,9] [(2,4)] [] [(5,.own (100005,0,9) .str),(8,.own (100008,0,44) (.sl (.st .aFeature)))]),(18,kp [1,2,6,9,92] [(2,4)] [] [(5,.own (100005,0,9) .str),(8,.own (100008,0,44) (.sl (.st .aFeature)))]),(21,kp [6] [] [] [(5,.own (100005,0,9) .str),(8,.own (100008,0,44) (.sl (.st .aFeature)))])],ps:=[(.st .aWords),.str],rs:=[.bool],ex:=[none],cs:=[l11_awake.con,l11_valid.con,morphology_Forms.con,morphology_Surface.con,r11_Lexeme.con,r11_Cells.con]}
def go:(aWords×(List UInt8))->Tr Pt (Bool)
 | (e,m)=>
  .b (l11_valid e) fun t=>
  .c (!t)
  (.b l11_awake fun u=>
   .r u)
  (.b (morphology_Forms e m) fun d=>
   .b (r11_Lexeme e m) fun o=>
   .c (decide (o<0))
   (.b l11_awake fun v=>
    .c v
    (.c (decide (d.2=4))
     (.r (decide ((d.1.length:Int)=0)))
     (.r false))
    (.r false))
   (.c (decide (0<=o)&&decide (o<(e.fLexemes.length:Int)))
    (.b (r11_Cells e (e.fLexemes.getD o.toNat default)) fun h=>
     .j (.c1 m d h e 0)) .n))
def st:Pt->Tr Pt (Bool)
 | .c2 i m d h e s=>
  .c s
  (.r false)
  (.j (.c1 m d h e (IntKind.i64.wrap (i+1))))
 | .c3 d h=>
  .b l11_awake fun x=>
  .c x
  (.c (decide (d.2=0))
   (.r (decide ((d.1.length:Int)=(h.length:Int))))
   (.r false))
  (.r false)
 | .c1 m d h e i=>
  .c (decide (i<(h.length:Int)))
  (.c (decide (0<=i)&&decide (i<(h.length:Int)))
   (.b (morphology_Surface e m (h.getD i.toNat default)) fun p=>
    .c (!decide (p.2=0))
    (.b l11_awake fun w=>
     .c w
     (.c (decide (p.2=2))
      (.c (decide (d.2=p.2))
       (.r (decide ((d.1.length:Int)=0)))
       (.r false))
      (.r false))
     (.r false))
    (.c (decide (d.2=0))
     (.c (decide ((d.1.length:Int)<=i))
      (.j (.c2 i m d h e true))
      (.c (decide (0<=i)&&decide (i<(d.1.length:Int)))
       (.j (.c2 i m d h e (!decide ((d.1.getD i.toNat default)=p.1)))) .n))
     (.j (.c2 i m d h e false)))) .n)
  (.j (.c3 d h))
def pt:Pt->List Dir×St E
 | .c2 i m d h e s=>([.r,.r,.r,.r,.r,.r,.l,.r,.k,.L,.r,.l,.k,.r,.r],ms 105 105 [(1,hS m),(2,hP 2),(5,hT 100005 9 .str d.1),(6,hI d.2),(8,hT 100008 44 (.sl (.st .aFeature)) h),(9,hI i),(92,hB s)] [(2,.cells [cL (.st .aLetter) e.fAlphabet,cL (.st .aRule) e.fRules,cL (.st .aParadigm) e.fParadigms,cL (.st .aLexeme) e.fLexemes])])
 | .c3 d h=>([.r,.r,.r,.r,.r,.r],ms 105 105 [(5,hT 100005 9 .str d.1),(6,hI d.2),(8,hT 100008 44 (.sl (.st .aFeature)) h)])
 | .c1 m d h e i=>([.r,.r,.r,.r,.r,.r,.l,.r,.k],ms 105 105 [(1,hS m),(2,hP 2),(5,hT 100005 9 .str d.1),(6,hI d.2),(8,hT 100008 44 (.sl (.st .aFeature)) h),(9,hI i)] [(2,.cells [cL (.st .aLetter) e.fAlphabet,cL (.st .aRule) e.fRules,cL (.st .aParadigm) e.fParadigms,cL (.st .aLexeme) e.fLexemes])])
theorem g:D.G st pt:=fun Z a=>by cases a <;> kernel_rfl
theorem g0:D.G0 go pt:=fun Z ⟨_,_⟩=>by kernel_rfl
abbrev con:Con Tryz.prog E:=FD.con Tryz.func10 (by kernel_rfl) g g0
end l11_MorphologyForms
def l11_MorphologyForms (e:aWords) (m:List UInt8):Option (Bool):=ev (l11_MorphologyForms.go (e,m)) (fx l11_MorphologyForms.st)
end Go.Ai.Mor
end

namespace Go.Ai.Mor
open Go Go.Ai
def validW (w:aWords):Bool:=smallB w&&decide (checkS w=0)
theorem valid_eq {w:aWords} (hw:OkW w):l11_valid w=some (validW w):=by
 simp only [l11_valid,l11_valid.go,evs,ev_b,small_eq hw,ref11_Check_eq hw,Option.bind_some,validW]
 cases smallB w <;> rfl
structure VW (w:aWords):Prop where
 ok:OkW w
 parts:partsB w=true
 small:smallB w=true
 miss:∀ x ∈ w.fLexemes,missB w x=false
 clash:∀ x ∈ w.fLexemes,clashW w x=false
theorem VW_of {w:aWords} (hw:OkW w) (h:validW w=true):VW w:=by
 simp only [validW,Bool.and_eq_true,decide_eq_true_eq] at h
 obtain ⟨h1,h2⟩:=h
 unfold checkS at h2
 cases hp:partsB w with
 | false=>rw [hp] at h2; simp at h2
 | true=>
   rw [hp,cond_true] at h2
   cases hn:parF w.fParadigms 0 w.fParadigms with
   | false=>rw [hn] at h2; simp at h2
   | true=>
     rw [hn,cond_true] at h2
     cases hm:w.fLexemes.any (missB w) with
     | true=>rw [hm] at h2; simp at h2
     | false=>
       rw [hm,cond_false] at h2
       cases hc:w.fLexemes.any (clashW w) with
       | true=>rw [hc] at h2; simp at h2
       | false=>exact ⟨hw,hp,h1,fun x hx=>by simpa using (List.any_eq_false.1 hm) x hx,fun x hx=>by simpa using (List.any_eq_false.1 hc) x hx⟩
theorem lexF_at {a:List aLetter} {all:List aLexeme} : ∀ {t:List aLexeme} {i:Nat},lexF a all i t=true->all.drop i=t -> ∀ (j:Nat) (hj:j<all.length),i<=j->((all.take j).any fun y=>decide (y.fID=all[j].fID))=false/\lexB a all[j]=true
 | [],i,_,ht,j,hj,hij=>by
   have:=congrArg List.length ht
   simp at this; omega
 | x::t,i,h,ht,j,hj,hij=>by
   simp only [lexF,Bool.and_eq_true,Bool.not_eq_true'] at h
   by_cases e:i=j
   ·subst e
    have:all[i]=x:=by
     have:=List.drop_eq_getElem_cons hj
     rw [ht] at this
     exact (List.cons.inj this).1.symm
    rw [this]
    exact ⟨h.1.2,h.1.1⟩
   ·exact lexF_at h.2 (by rw [<- List.drop_drop,ht]; rfl) j hj (by omega)
section
variable {w:aWords} (hv:VW w)
include hv
theorem vw_lexs:lexsB w.fAlphabet w.fLexemes=true:=by
 have:=hv.parts
 simp only [partsB,Bool.and_eq_true] at this
 exact this.2.2.2.2.2
theorem vw_lexP {x:aLexeme} (hx:x ∈ w.fLexemes):lexP w x.fID=some x:=by
 obtain ⟨j,hj,hq⟩:=List.getElem_of_mem hx
 have h:=vw_lexs hv
 simp only [lexsB,Bool.and_eq_true] at h
 obtain ⟨h1,_⟩:=lexF_at (i:=0) h.2.2 rfl j hj (Nat.zero_le _)
 rw [hq] at h1
 unfold lexP
 have e:w.fLexemes=w.fLexemes.take j++x::w.fLexemes.drop (j+1):=by
  rw [<- hq,<- List.drop_eq_getElem_cons hj,List.take_append_drop]
 have h2:(w.fLexemes.take j).find? (fun y=>decide (y.fID=x.fID))=none:=by
  rw [List.find?_eq_none]
  intro y hy
  have:=(List.any_eq_false.1 h1) y hy
  simpa using this
 rw [e,List.find?_append,h2]
 simp
theorem vw_lexB {x:aLexeme} (hx:x ∈ w.fLexemes):lexB w.fAlphabet x=true:=by
 obtain ⟨j,hj,rfl⟩:=List.getElem_of_mem hx
 have h:=vw_lexs hv
 simp only [lexsB,Bool.and_eq_true] at h
 exact (lexF_at (i:=0) h.2.2 rfl j hj (Nat.zero_le _)).2
theorem vw_small:w.fLexemes.length<=8 /\ ∀ p ∈ w.fParadigms,prod p.fDimensions<=16:=by
 have h:=hv.small
 simp only [smallB,Bool.and_eq_true,decide_eq_true_eq,List.all_eq_true,smP] at h
 exact ⟨h.2.2.2.1,fun p hp=>(h.2.2.2.2 p hp).2.2.2.2⟩
theorem vw_cells {x:aLexeme} (_hx:x ∈ w.fLexemes):(cellsOf w x).length<=16:=by
 unfold cellsOf
 cases decide (x.fParadigm=[]) with
 | true=>simp
 | false=>
   rw [cond_false,cells_length]
   unfold pOf count
   cases hp:parP w x.fParadigm with
   | none=>
     simp only [Option.getD_none]
     cases dimsOk par0.fDimensions <;> simp [par0,prod]
   | some p=>
     have:=(vw_small hv).2 p (List.mem_of_find?_eq_some hp)
     simp only [Option.getD_some]
     cases dimsOk p.fDimensions <;> simp <;> omega
omit hv in
theorem pairs_len (x:aLexeme):∀ cs:List (List aFeature),(pairs w x cs).length<=cs.length
 | []=>Nat.le_refl _
 | c::cs=>by
   have:=pairs_len x cs
   have e:pairs w x (c::cs)=cond (formW w x c).2 [((formW w x c).1,⟨x.fID,c⟩)] []++pairs w x cs:=by simp [pairs]
   have h1:(cond (formW w x c).2 [((formW w x c).1,(⟨x.fID,c⟩:aAnalysis))] []).length<=1:=by cases (formW w x c).2 <;> simp
   rw [e,List.length_append,List.length_cons]
   omega
theorem vw_all:(allS w).length<=128:=by
 have key:∀ l:List aLexeme,(∀ x ∈ l,x ∈ w.fLexemes)->(l.flatMap fun x=>pairs w x (cellsOf w x)).length<=16*l.length:=by
  intro l
  induction l with
  | nil=>intro _; simp
  | cons x l ih=>
    intro h
    have h1:=ih fun y hy=>h y (List.mem_cons_of_mem _ hy)
    have h2:=pairs_len (w:=w) x (cellsOf w x)
    have h3:=vw_cells hv (h x (by simp))
    simp only [List.flatMap_cons,List.length_append,List.length_cons]
    omega
 have h1:=key w.fLexemes fun _ h=>h
 have h2:=(vw_small hv).1
 unfold allS
 omega
omit hv in
theorem sel_len (s:List UInt8) (l:List (List UInt8×aAnalysis)):(sel s l).length<=l.length:=by
 unfold sel
 rw [List.length_map]
 exact List.length_filter_le _ _
theorem vw_an (s:List UInt8):anS w s=cond (wordB w.fAlphabet s) (sel s (allS w),0) ([],1):=by
 have h1:=sel_len s (allS w)
 have h2:=vw_all hv
 unfold anS
 rw [show decide ((sel s (allS w)).length<=256)=true by simp; omega]
 rfl
theorem Analyses_v {s:List UInt8} (hs:s.length<=1048576):morphology_Analyses w s=some (cond (wordB w.fAlphabet s) (sel s (allS w),0) ([],1)):=by
 rw [Analyses_eq hv.ok hv.parts (HC_all hv.ok) hs,vw_an hv]
omit hv in
theorem allS_mem {p:List UInt8×aAnalysis} : p ∈ allS w ↔ ∃ x ∈ w.fLexemes,∃ c ∈ cellsOf w x,(formW w x c).2=true/\p=((formW w x c).1,⟨x.fID,c⟩):=by
 simp only [allS,pairs,List.mem_flatMap]
 constructor
 ·rintro ⟨x,hx,c,hc,h⟩
  cases hf:(formW w x c).2 with
  | false=>rw [hf] at h; cases h
  | true=>rw [hf] at h; simp at h; exact ⟨x,hx,c,hc,hf,h⟩
 ·rintro ⟨x,hx,c,hc,hf,rfl⟩
  exact ⟨x,hx,c,hc,by rw [hf]; simp⟩
omit hv in
theorem sel_mem {s:List UInt8} {y:aAnalysis} {l:List (List UInt8×aAnalysis)} : y ∈ sel s l↔(s,y) ∈ l:=by
 simp only [sel,List.mem_map,List.mem_filter,decide_eq_true_eq]
 constructor
 ·rintro ⟨p,⟨hp,e⟩,rfl⟩
  rw [<- e]; exact hp
 ·intro h
  exact ⟨(s,y),⟨h,rfl⟩,rfl⟩
end
theorem law_Ambiguity {w:aWords} (hw:OkW w) {s:List UInt8} (hs:s.length<=1048576):l11_MorphologyAmbiguity w s=some true:=by
 simp only [l11_MorphologyAmbiguity,l11_MorphologyAmbiguity.go,evs,ev_b,valid_eq hw,awake_eq,Option.bind_some,cnot]
 cases hv:validW w with
 | false=>rfl
 | true=>
   have hv:=VW_of hw hv
   simp only [cond_true,Analyses_v hv hs,Ambiguity_eq hw hv.parts (HC_all hw) hs,vw_an hv,Option.bind_some,decide_true]
   cases decide (200<(s.length:Int)) <;> rfl
theorem sel_pairs {w:aWords} {s:List UInt8} {x:aLexeme} : ∀ (cs:List (List aFeature)),∀ y ∈ sel s (pairs w x cs),y.fLexeme=x.fID:=by
 intro cs y hy
 rw [sel_mem] at hy
 simp only [pairs,List.mem_flatMap] at hy
 obtain ⟨c,hc,h⟩:=hy
 cases hf:(formW w x c).2 with
 | false=>rw [hf] at h; cases h
 | true=>rw [hf] at h; simp at h; rw [h.2]
theorem law_More {w:aWords} (hw:OkW w) {x:aLexeme} (hx:okLex x) {s:List UInt8} (hs:s.length<=1048576):l11_MorphologyMore w x s=some true:=by
 have hll:=hw.ll
 simp only [l11_MorphologyMore,l11_MorphologyMore.go,evs,ev_b,valid_eq hw,awake_eq,Option.bind_some,cnot]
 rw [cpos (by simp only [len,len0]; omega),cpos (by simp only [len,len0]; omega)]
 cases hv:validW w with
 | false=>rfl
 | true=>
   have hv:=VW_of hw hv
   have h8:=(vw_small hv).1
   have hm:OkW ⟨w.fAlphabet,w.fRules,w.fParadigms,([]++w.fLexemes)++[x]⟩:=⟨hw.al,hw.rl,hw.rules,hw.pl,hw.pars,by simp; omega,fun y hy=>by
    simp only [List.nil_append,List.mem_append,List.mem_singleton] at hy
    rcases hy with hy | rfl
    ·exact hw.lexs y hy
    ·exact hx⟩
   simp only [cond_true,valid_eq hm,Option.bind_some]
   cases hvm:validW ⟨w.fAlphabet,w.fRules,w.fParadigms,([]++w.fLexemes)++[x]⟩ with
   | false=>rfl
   | true=>
     have hvm:=VW_of hm hvm
     have hall:allS ⟨w.fAlphabet,w.fRules,w.fParadigms,([]++w.fLexemes)++[x]⟩=allS w++pairs w x (cellsOf w x):=by
      unfold allS
      rw [List.nil_append,List.flatMap_append,List.flatMap_singleton]
      rfl
     have hsel:sel s (allS ⟨w.fAlphabet,w.fRules,w.fParadigms,([]++w.fLexemes)++[x]⟩)=sel s (allS w)++sel s (pairs w x (cellsOf w x)):=by
      rw [hall]; simp [sel]
     have hbd:=vw_all hvm
     have hsl:=sel_len s (allS ⟨w.fAlphabet,w.fRules,w.fParadigms,([]++w.fLexemes)++[x]⟩)
     simp only [cond_true,Analyses_v hv hs,Analyses_v hvm hs,Option.bind_some]
     cases decide (200<(s.length:Int)) with
     | true=>rfl
     | false=>
       simp only [cond_false]
       cases wordB w.fAlphabet s with
       | false=>rfl
       | true=>
         simp only [cond_true,hsel] at *
         rw [cpos trivial,cpos trivial]
         have hcells:∀ y ∈ sel s (allS w),y.fCell.length<=1048576:=fun y hy=>by
          rw [sel_mem,allS_mem] at hy
          obtain ⟨z,_,c,hc,_,e⟩:=hy
          have:=(cellsOf_len hw z).2 c hc
          rw [(Prod.mk.inj e).2]
          show c.length<=1048576
          omega
         rw [cneg (by simp only [List.length_append]; omega),cpos2 (by omega) (by simp only [List.length_append]; omega),Int.toNat_natCast,List.take_left,ref11_Same_eq (by simp only [List.length_append] at hsl; omega) hcells]
         simp only [Option.bind_some,decide_true,cond_true]
         have loop:∀ (d i:Nat),i+d=(sel s (allS w)++sel s (pairs w x (cellsOf w x))).length->(sel s (allS w)).length<=i->fx l11_MorphologyMore.st (.c1 (sel s (allS w)++sel s (pairs w x (cellsOf w x)),0) x (i:Int))=some true:=by
          intro d
          induction d with
          | zero=>
            intro i hi _
            rw [fx_eq]; simp only [l11_MorphologyMore.st,evs,ev_b,fx_eq l11_MorphologyMore.st .c2,awake_eq,Option.bind_some]
            rw [cneg (by omega)]
          | succ d ih=>
            intro i hi hge
            have hi2:i<(sel s (allS w)++sel s (pairs w x (cellsOf w x))).length:=by omega
            have hm:(sel s (allS w)++sel s (pairs w x (cellsOf w x))).getD i default ∈ sel s (pairs w x (cellsOf w x)):=by
             rw [List.getD_eq_getElem?_getD,List.getElem?_append_right hge,<- List.getD_eq_getElem?_getD]
             exact getD_mem (by rw [List.length_append] at hi2; omega)
            rw [fx_eq]; simp only [l11_MorphologyMore.st,evs,Int.toNat_natCast,cnot,sel_pairs _ _ hm]
            rw [cpos (by omega),cpos2 (by omega) (by omega),cpos trivial,wsucc (by omega),ih (i+1) (by omega) (by omega)]
         exact loop _ _ (by rw [List.length_append]) (Nat.le_refl _)
theorem surfS_of {w:aWords} (hv:VW w) {x:aLexeme} (hx:x ∈ w.fLexemes) {c:List aFeature} (hc:c ∈ cellsOf w x):surfS w x.fID c=cond (formW w x c).2 ((formW w x c).1,0) ([],2):=by
 unfold surfS
 rw [vw_lexP hv hx]
 have:((cellsOf w x).any fun y=>decide (y=c))=true:=List.any_eq_true.2 ⟨c,hc,by simp⟩
 simp only [this,cond_true]
theorem cascS_word {a:List aLetter} {rs:List aRule} {s:List UInt8} (h:(cascS a rs s).2=0):wordB a (cascS a rs s).1=true:=by
 unfold cascS at h ⊢
 cases hb:cascB a rs s with
 | false=>rw [hb] at h; simp at h
 | true=>
   rw [hb,cond_true] at h
   rw [cond_true]
   simp only [cascB,Bool.and_eq_true] at hb
   have key:∀ (rs:List aRule) (s:List UInt8),wordB a s=true->(runS a rs s).2=0->wordB a (runS a rs s).1=true:=by
    intro rs
    induction rs with
    | nil=>intro s hs _; exact hs
    | cons r rs ih=>
      intro s hs h
      simp only [runS] at h ⊢
      by_cases h0:(applyW a r s).2=0
      ·rw [cpos h0] at h ⊢
       refine ih _ ?_ h
       unfold applyW at h0 ⊢
       cases hb:ruleB a r&&wordB a s with
       | false=>rw [hb] at h0; simp at h0
       | true=>
         rw [hb,cond_true] at h0
         rw [cond_true]
         by_cases h40:(applyS a r (runesL s)).length<=40
         ·rw [cpos h40]
          rw [Bool.and_eq_true] at hb
          obtain ⟨g1,g2⟩:=over_encs (ruleB_parts hb.1).1 (apply_in hb.1 hb.2)
          rw [wordB_over]
          show (overB a (encs (applyS a r (runesL s)))&&decide ((runesL (encs (applyS a r (runesL s)))).length<=40))=true
          rw [g1,g2]; simp [h40]
         ·rw [cneg h40] at h0; simp at h0
      ·rw [cneg h0] at h; exact absurd h h0
   exact key rs s hb.2.2.1 h
theorem form_word {w:aWords} {x:aLexeme} {c:List aFeature} (h:(formW w x c).2=true):wordB w.fAlphabet (formW w x c).1=true:=by
 unfold formW at h ⊢
 cases hb:decide (x.fParadigm=[]) with
 | true=>
   rw [hb,cond_true] at h
   rw [cond_true]
   exact cascS_word (of_decide_eq_true h)
 | false=>
   rw [hb,cond_false] at h
   rw [cond_false]
   cases hu:decide ((underW w x c).2=0) with
   | false=>rw [hu] at h; simp at h
   | true=>rw [hu,cond_true] at h; rw [cond_true]; exact cascS_word (of_decide_eq_true h)
theorem wordB_len {a:List aLetter} {s:List UInt8} (h:wordB a s=true):s.length<=160:=by
 obtain ⟨h1,h2⟩:=wordB_parts h
 simp only [overB,Bool.and_eq_true] at h1
 have e:=encs_runes h1.1
 have:=encs_len (runesL s)
 rw [e] at this
 omega
theorem law_One {w:aWords} (hw:OkW w) {s n:List UInt8} (hs:s.length<=1048576) {c:List aFeature} (hc:c.length<=1048576):l11_MorphologyOneRelation w s n c=some true:=by
 simp only [l11_MorphologyOneRelation,l11_MorphologyOneRelation.go,evs,ev_b,valid_eq hw,awake_eq,Option.bind_some,cnot]
 cases hv:validW w with
 | false=>rfl
 | true=>
   have hv:=VW_of hw hv
   have hC:=HC_all hw
   simp only [cond_true]
   cases decide (200<(s.length:Int)) with
   | true=>rfl
   | false=>
     cases decide (10<(c.length:Int)) with
     | true=>rfl
     | false=>
       simp only [cond_false,Analyses_v hv hs,Option.bind_some]
       have hbd:=vw_all hv
       have hfound:∀ (h:(surfS w n c).2=0),wordB w.fAlphabet (surfS w n c).1=true/\(⟨n,c⟩:aAnalysis) ∈ sel (surfS w n c).1 (allS w):=fun h=>by
        unfold surfS at h ⊢
        cases hl:lexP w n with
        | none=>rw [hl] at h; simp at h
        | some x=>
          rw [hl] at h
          have hxm:x ∈ w.fLexemes:=List.mem_of_find?_eq_some hl
          have hid:x.fID=n:=by
           have:=List.find?_some hl
           exact of_decide_eq_true this
          dsimp only at h ⊢
          cases ha:(cellsOf w x).any (fun y=>decide (y=c)) with
          | false=>rw [ha] at h; simp at h
          | true=>
            rw [ha,cond_true] at h
            obtain ⟨y,hy,e⟩:=List.any_eq_true.1 ha
            have e:=of_decide_eq_true e
            subst e
            cases hf:(formW w x y).2 with
            | false=>rw [hf] at h; simp at h
            | true=>
              simp only [cond_true]
              refine ⟨form_word hf,?_⟩
              rw [sel_mem,allS_mem]
              exact ⟨x,hxm,y,hy,hf,by rw [hid]⟩
       have h2:∀ i:List aAnalysis×Int,(i.2=0\/i.1=[])->fx l11_MorphologyOneRelation.st (.c2 c n i w)=some true:=by
        intro i hi
        rw [fx_eq]; simp only [l11_MorphologyOneRelation.st,evs,ev_b,Surface_eq hw hv.parts hC n hc,awake_eq,Option.bind_some,cnot]
        by_cases h:(surfS w n c).2=0
        ·obtain ⟨g1,g2⟩:=hfound h
         have hl:=wordB_len g1
         rw [cpos h,Analyses_v hv (by omega),Option.bind_some,g1,cond_true]
         have hsl:=sel_len (surfS w n c).1 (allS w)
         have loop:=over (xs:=sel (surfS w n c).1 (allS w)) (f:=fun o (t:Bool)=>fx l11_MorphologyOneRelation.st (.c3 c n (sel (surfS w n c).1 (allS w),0) t o)) (g:=fun u t=>some (t||u.any fun y=>decide (y=(⟨n,c⟩:aAnalysis)))) (fun t=>by
          rw [fx_eq]; simp only [l11_MorphologyOneRelation.st,evs,ev_b,↓cneg (Int.lt_irrefl _),fx_eq l11_MorphologyOneRelation.st (.c4 ..),awake_eq,Option.bind_some,List.any_nil,Bool.or_false]
          rfl) (fun o y u t ho hy ih=>by
          have hym:y ∈ sel (surfS w n c).1 (allS w):=by rw [<- hy]; exact getD_mem ho
          have hyc:y.fCell.length<=1048576:=by
           rw [sel_mem,allS_mem] at hym
           obtain ⟨z,_,d,hd,_,e⟩:=hym
           have:=(cellsOf_len hw z).2 d hd
           rw [(Prod.mk.inj e).2]
           show d.length<=1048576
           omega
          rw [fx_eq]; simp (disch:=omega) only [l11_MorphologyOneRelation.st,evs,ev_b,↓cpos,↓cpos2,Int.toNat_natCast,hy,ref02_Same_eq hyc,Option.bind_some,wsucc,ih,List.any_cons]
          obtain ⟨y1,y2⟩:=y
          cases t with
          | true=>simp
          | false=>
            by_cases e1:y1=n <;> by_cases e2:y2=c <;> simp [e1,e2]) false
         rw [loop]
         congr 1
         rw [Bool.false_or,List.any_eq_true]
         exact ⟨_,g2,by simp⟩
        ·rw [cneg h]
         simp only [cond_true]
         rcases hi with hi | hi
         ·rw [cpos hi]
         ·rw [hi]
          cases decide (i.2=0) <;> rfl
       have h1:∀ i:List aAnalysis×Int,(∀ y ∈ i.1,surfS w y.fLexeme y.fCell=(s,0)/\y.fCell.length<=1048576)->i.1.length<=1048576->(i.2=0\/i.1=[])->fx l11_MorphologyOneRelation.st (.c1 c n i w s 0)=some true:=by
        intro i hi hil h0
        exact over (xs:=i.1) (f:=fun p (_:Unit)=>fx l11_MorphologyOneRelation.st (.c1 c n i w s p)) (g:=fun _ _=>some true) (fun _=>by
         rw [fx_eq]; simp only [l11_MorphologyOneRelation.st,evs,↓cneg (Int.lt_irrefl _),h2 i h0]) (fun p y u _ hp hy ih=>by
         have ih:=ih ()
         obtain ⟨g1,g2⟩:=hi y (by rw [<- hy]; exact getD_mem hp)
         rw [fx_eq]; simp (disch:=omega) only [l11_MorphologyOneRelation.st,evs,ev_b,↓cpos,↓cpos2,Int.toNat_natCast,hy,Surface_eq hw hv.parts hC y.fLexeme g2,g1,Option.bind_some,cnot,wsucc,ih]
         rfl) ()
       cases hwb:wordB w.fAlphabet s with
       | false=>exact h1 ([],1) (fun y hy=>by cases hy) (by simp) (.inr rfl)
       | true=>
         refine h1 (sel s (allS w),0) (fun y hy => ?_) ?_ (.inl rfl)
         ·have hy:y ∈ sel s (allS w):=hy
          rw [sel_mem,allS_mem] at hy
          obtain ⟨x,hx,d,hd,hf,e⟩:=hy
          obtain ⟨e1,e2⟩:=Prod.mk.inj e
          have:=(cellsOf_len hw x).2 d hd
          rw [e2]
          refine ⟨?_,by show d.length<=1048576; omega⟩
          show surfS w x.fID d=(s,0)
          rw [surfS_of hv hx hd,hf,cond_true,e1]
         ·have:=sel_len s (allS w)
          show (sel s (allS w)).length<=1048576
          omega
end Go.Ai.Mor

set_option maxRecDepth 100000
noncomputable section
namespace Go.Ai.Mor
open Go Go.Ai Go.Proofs
namespace r11_Surface
inductive Pt
 | c3 (d:aWords) (s:List UInt8)
 | c2 (h:List aFeature) (e:Int) (d:aWords) (p:Bool)
 | c1 (h:List aFeature) (e:Int) (i:List (List aFeature)) (d:aWords) (o:Bool) (m:Int)
def D:FD pd := {f:=27,fn:=Tryz.f27,q:=80,pl:=pls 25 [(9,kp [2,3,9,11,12] [(3,4),(9,5)] [] [(10,.own (100010,0,44) (.sl (.st .aFeature)))]),(13,kp [2,3,9,11] [(3,4),(9,5)]),(23,kp [3,13] [(3,4)])],ps:=[(.st .aWords),.str,(.sl (.st .aFeature))],rs:=[.str,(.int .i64)],ex:=[none,none],cs:=[r02_Same.con,r11_Lexeme.con,r11_Cells.con,r11_Paradigm.con,r10_Underlying.con,r07_Cascade.con]}
def go:(aWords×(List UInt8)×(List aFeature))->Tr Pt ((List UInt8)×Int)
 | (d,t,h)=>
  .b (r11_Lexeme d t) fun e=>
  .c (decide (e<0))
  (.r ([],4))
  (.c (decide (0<=e)&&decide (e<(d.fLexemes.length:Int)))
   (.b (r11_Cells d (d.fLexemes.getD e.toNat default)) fun i=>
    .j (.c1 h e i d false 0)) .n)
def st:Pt->Tr Pt ((List UInt8)×Int)
 | .c3 d s=>
  .b (r07_Cascade d.fAlphabet d.fRules s) fun w=>
  .r (w.1,w.2)
 | .c2 h e d p=>
  .c (!p)
  (.r ([],1))
  (.c (!decide (((d.fLexemes.getD e.toNat default).fParadigm)=[]))
   (.b (r11_Paradigm d ((d.fLexemes.getD e.toNat default).fParadigm)) fun u=>
    .c (decide (0<=u)&&decide (u<(d.fParadigms.length:Int)))
    (.b (r10_Underlying (d.fParadigms.getD u.toNat default) ((d.fLexemes.getD e.toNat default).fStem) ((d.fLexemes.getD e.toNat default).fFeatures) h) fun v=>
     .c (!decide (v.2=0))
     (.r ([],v.2))
     (.j (.c3 d v.1))) .n)
   (.j (.c3 d ((d.fLexemes.getD e.toNat default).fStem))))
 | .c1 h e i d o m=>
  .c (decide (m<(i.length:Int)))
  (.c o
   (.j (.c1 h e i d true (IntKind.i64.wrap (m+1))))
   (.c (decide (0<=m)&&decide (m<(i.length:Int)))
    (.b (r02_Same (i.getD m.toNat default) h) fun x=>
     .j (.c1 h e i d x (IntKind.i64.wrap (m+1)))) .n))
  (.j (.c2 h e d o))
def pt:Pt->List Dir×St E
 | .c3 d s=>([.r,.r,.r,.r,.r,.r,.r,.r,.r],ms 80 80 [(3,hP 3),(13,hS s)] [(3,.cells [cL (.st .aLetter) d.fAlphabet,cL (.st .aRule) d.fRules,cL (.st .aParadigm) d.fParadigms,cL (.st .aLexeme) d.fLexemes])])
 | .c2 h e d p=>([.r,.r,.r,.r,.r,.r],ms 80 80 [(2,hL (.st .aFeature) h),(3,hP 3),(9,hP 9),(11,hB p)] [(3,.cells [cL (.st .aLetter) d.fAlphabet,cL (.st .aRule) d.fRules,cL (.st .aParadigm) d.fParadigms,cL (.st .aLexeme) d.fLexemes]),(9,.cells [cS ((d.fLexemes.getD e.toNat default).fID),cS ((d.fLexemes.getD e.toNat default).fCategory),cS ((d.fLexemes.getD e.toNat default).fStem),cS ((d.fLexemes.getD e.toNat default).fParadigm),cL (.st .aFeature) ((d.fLexemes.getD e.toNat default).fFeatures)])])
 | .c1 h e i d o m=>([.r,.r,.r,.r,.r,.r,.l,.r,.k],ms 80 80 [(2,hL (.st .aFeature) h),(3,hP 3),(9,hP 9),(10,hT 100010 44 (.sl (.st .aFeature)) i),(11,hB o),(12,hI m)] [(3,.cells [cL (.st .aLetter) d.fAlphabet,cL (.st .aRule) d.fRules,cL (.st .aParadigm) d.fParadigms,cL (.st .aLexeme) d.fLexemes]),(9,.cells [cS ((d.fLexemes.getD e.toNat default).fID),cS ((d.fLexemes.getD e.toNat default).fCategory),cS ((d.fLexemes.getD e.toNat default).fStem),cS ((d.fLexemes.getD e.toNat default).fParadigm),cL (.st .aFeature) ((d.fLexemes.getD e.toNat default).fFeatures)])])
theorem g:D.G st pt:=fun Z a=>by cases a <;> kernel_rfl
theorem g0:D.G0 go pt:=fun Z ⟨_,_,_⟩=>by kernel_rfl
abbrev con:Con Tryz.prog E:=FD.con Tryz.func27 (by kernel_rfl) g g0
end r11_Surface
def r11_Surface (d:aWords) (t:List UInt8) (h:List aFeature):Option ((List UInt8)×Int):=ev (r11_Surface.go (d,t,h)) (fx r11_Surface.st)
end Go.Ai.Mor
end

set_option maxRecDepth 100000
noncomputable section
namespace Go.Ai.Mor
open Go Go.Ai Go.Proofs
namespace r11_All
inductive Pt
 | c2 (e:Int) (i:List (List aFeature)) (d:aWords) (m:List r11_Pair) (h:Int)
 | c1 (d:aWords) (o:List r11_Pair) (e:Int)
def D:FD pd := {f:=21,fn:=Tryz.f21,q:=64,pl:=pls 17 [(3,kp [1,4] [(1,4)] [] [(3,.own (100003,0,48) (.st .r11_Pair))]),(8,kp [1,4,6] [(1,4)] [] [(3,.own (100003,0,48) (.st .r11_Pair)),(5,.own (100005,0,44) (.sl (.st .aFeature)))])],ps:=[(.st .aWords)],rs:=[(.sl (.st .r11_Pair))],ex:=[some 48],cs:=[r11_Surface.con,r11_Cells.con]}
def go:(aWords)->Tr Pt ((List r11_Pair))
 | d=>
  .j (.c1 d ([]:(List r11_Pair)) 0)
def st:Pt->Tr Pt ((List r11_Pair))
 | .c2 e i d m h=>
  .c (decide (h<(i.length:Int)))
  (.c (decide (0<=e)&&decide (e<(d.fLexemes.length:Int)))
   (.c (decide (0<=h)&&decide (h<(i.length:Int)))
    (.b (r11_Surface d ((d.fLexemes.getD e.toNat default).fID) (i.getD h.toNat default)) fun p=>
     .c (decide (p.2=0))
     (.c (decide (0<=e)&&decide (e<(d.fLexemes.length:Int)))
      (.c (decide (0<=h)&&decide (h<(i.length:Int)))
       (.c (decide (m.length+([r11_Pair.mk p.1 (aAnalysis.mk ((d.fLexemes.getD e.toNat default).fID) (i.getD h.toNat default))]:List r11_Pair).length<=lim))
        (.j (.c2 e i d (m++[r11_Pair.mk p.1 (aAnalysis.mk ((d.fLexemes.getD e.toNat default).fID) (i.getD h.toNat default))]) (IntKind.i64.wrap (h+1)))) .n) .n) .n)
     (.j (.c2 e i d m (IntKind.i64.wrap (h+1))))) .n) .n)
  (.j (.c1 d m (IntKind.i64.wrap (e+1))))
 | .c1 d o e=>
  .c (decide (e<(d.fLexemes.length:Int)))
  (.c (decide (0<=e)&&decide (e<(d.fLexemes.length:Int)))
   (.b (r11_Cells d (d.fLexemes.getD e.toNat default)) fun i=>
    .j (.c2 e i d o 0)) .n)
  (.r o)
def pt:Pt->List Dir×St E
 | .c2 e i d m h=>([.r,.r,.l,.r,.k,.L,.r,.l,.k,.r,.r,.k],ms 64 64 [(1,hP 1),(3,hT 100003 48 (.st .r11_Pair) m),(4,hI e),(5,hT 100005 44 (.sl (.st .aFeature)) i),(6,hI h)] [(1,.cells [cL (.st .aLetter) d.fAlphabet,cL (.st .aRule) d.fRules,cL (.st .aParadigm) d.fParadigms,cL (.st .aLexeme) d.fLexemes])])
 | .c1 d o e=>([.r,.r,.l,.r,.k],ms 64 64 [(1,hP 1),(3,hT 100003 48 (.st .r11_Pair) o),(4,hI e)] [(1,.cells [cL (.st .aLetter) d.fAlphabet,cL (.st .aRule) d.fRules,cL (.st .aParadigm) d.fParadigms,cL (.st .aLexeme) d.fLexemes])])
theorem g:D.G st pt:=fun Z a=>by cases a <;> kernel_rfl
theorem g0:D.G0 go pt:=fun Z _=>by kernel_rfl
abbrev con:Con Tryz.prog E:=FD.con Tryz.func21 (by kernel_rfl) g g0
end r11_All
def r11_All (d:aWords):Option ((List r11_Pair)):=ev (r11_All.go d) (fx r11_All.st)
end Go.Ai.Mor
end

set_option maxRecDepth 100000
noncomputable section
namespace Go.Ai.Mor
open Go Go.Ai Go.Proofs
namespace r11_Analyses
inductive Pt
 | c2 (m:List aAnalysis)
 | c1 (e:List r11_Pair) (h:List UInt8) (i:List aAnalysis) (d:Int)
def D:FD pd := {f:=18,fn:=Tryz.f18,q:=42,pl:=pls 17 [(7,kp [1,8] [] [] [(6,.own (100006,0,46) (.st .aAnalysis)),(7,.own (100007,0,48) (.st .r11_Pair))]),(12,kp [] [] [] [(6,.own (100006,0,46) (.st .aAnalysis))])],ps:=[(.st .aWords),.str],rs:=[(.sl (.st .aAnalysis)),(.int .i64)],ex:=[some 46,none],cs:=[r11_All.con,r07_Word.con]}
def go:(aWords×(List UInt8))->Tr Pt ((List aAnalysis)×Int)
 | (o,h)=>
  .b (r07_Word o.fAlphabet h) fun p=>
  .c (!p)
  (.r ([],1))
  (.b (r11_All o) fun e=>
   .j (.c1 e h ([]:(List aAnalysis)) 0))
def st:Pt->Tr Pt ((List aAnalysis)×Int)
 | .c2 m=>
  .c (decide (256<(m.length:Int)))
  (.r ([],2))
  (.r (m,0))
 | .c1 e h i d=>
  .c (decide (d<(e.length:Int)))
  (.c (decide (0<=d)&&decide (d<(e.length:Int)))
   (.c (decide (((e.getD d.toNat default).fForm)=h))
    (.c (decide (0<=d)&&decide (d<(e.length:Int)))
     (.c (decide (i.length+([((e.getD d.toNat default).fAnalysis)]:List aAnalysis).length<=lim))
      (.j (.c1 e h (i++[((e.getD d.toNat default).fAnalysis)]) (IntKind.i64.wrap (d+1)))) .n) .n)
    (.j (.c1 e h i (IntKind.i64.wrap (d+1))))) .n)
  (.j (.c2 i))
def pt:Pt->List Dir×St E
 | .c2 m=>([.r,.r,.r,.r],ms 42 42 [(6,hT 100006 46 (.st .aAnalysis) m)])
 | .c1 e h i d=>([.r,.r,.r,.r,.l,.r,.k],ms 42 42 [(1,hS h),(6,hT 100006 46 (.st .aAnalysis) i),(7,hT 100007 48 (.st .r11_Pair) e),(8,hI d)])
theorem g:D.G st pt:=fun Z a=>by cases a <;> kernel_rfl
theorem g0:D.G0 go pt:=fun Z ⟨_,_⟩=>by kernel_rfl
abbrev con:Con Tryz.prog E:=FD.con Tryz.func18 (by kernel_rfl) g g0
end r11_Analyses
def r11_Analyses (o:aWords) (h:List UInt8):Option ((List aAnalysis)×Int):=ev (r11_Analyses.go (o,h)) (fx r11_Analyses.st)
end Go.Ai.Mor
end

set_option maxRecDepth 100000
noncomputable section
namespace Go.Ai.Mor
open Go Go.Ai Go.Proofs
namespace l11_MorphologyAnalyses
inductive Pt
def D:FD pd := {f:=4,fn:=Tryz.f4,q:=41,ps:=[(.st .aWords),.str],rs:=[.bool],ex:=[none],cs:=[l11_awake.con,l11_valid.con,morphology_Analyses.con,r11_Analyses.con,r11_Same.con]}
def go:(aWords×(List UInt8))->Tr Pt (Bool)
 | (d,e)=>
  .b (l11_valid d) fun j=>
  .c (!j)
  (.b l11_awake fun k=>
   .r k)
  (.c (decide (200<(e.length:Int)))
   (.b l11_awake fun l=>
    .r l)
   (.b (morphology_Analyses d e) fun h=>
    .b (r11_Analyses d e) fun i=>
    .b l11_awake fun m=>
    .c m
    (.c (decide (h.2=i.2))
     (.b (r11_Same h.1 i.1) fun n=>
      .r n)
     (.r false))
    (.r false)))
def st:Pt->Tr Pt (Bool):=nofun
def pt:Pt->List Dir×St E:=nofun
theorem g:D.G st pt:=fun Z a=>by cases a <;> kernel_rfl
theorem g0:D.G0 go pt:=fun Z ⟨_,_⟩=>by kernel_rfl
abbrev con:Con Tryz.prog E:=FD.con Tryz.func4 (by kernel_rfl) g g0
end l11_MorphologyAnalyses
def l11_MorphologyAnalyses (d:aWords) (e:List UInt8):Option (Bool):=ev (l11_MorphologyAnalyses.go (d,e)) (fx l11_MorphologyAnalyses.st)
end Go.Ai.Mor
end

set_option maxRecDepth 100000
noncomputable section
namespace Go.Ai.Mor
open Go Go.Ai Go.Proofs
namespace l11_MorphologyAll
inductive Pt
 | c2 (u:Bool) (s:List r11_Pair) (p m:Int)
 | c1 (e:List r11_Pair) (h:Int) (o:List ((List UInt8)×aAnalysis)) (d:Int)
def D:FD pd := {f:=6,fn:=Tryz.f6,q:=87,pl:=pls 17 [(8,kp [4,5,6,7] [(4,1),(6,1),(7,1)] [] [] [] false [(5,[.own (300005,1,48) (.st .r11_Pair)])]),(15,kp [4,5,6,7] [(4,1),(6,1),(7,1)] [] [] [] false [(5,[.own (300005,1,48) (.st .r11_Pair)])])],ps:=[(.st .aWords),(.int .u8)],rs:=[.bool],ex:=[none],dp:=2,cs:=[l11_awake.con,l11_valid.con,r11_All.con,r02_Same.con],is:=[morphology_All_1.con],il:=[inl 0 23 22 80 Tryz.f22 [] Tryz.func22 (by kernel_rfl)]}
def go:(aWords×Int)->Tr Pt (Bool)
 | (i,h)=>
  .b l11_awake fun v=>
  .c (!v)
  (.b l11_awake fun x=>
   .r x)
  (.b (l11_valid i) fun w=>
   .c (!w)
   (.b l11_awake fun y=>
    .r y)
   (.b (r11_All i) fun e=>
    .b (morphology_All_1 i.fAlphabet i.fRules i.fParadigms i.fLexemes) fun ab=>
    .j (.c1 e h ab 0)))
def st:Pt->Tr Pt (Bool)
 | .c2 u s p m=>
  .b l11_awake fun aa=>
  .c aa
  (.c (decide (m=(s.length:Int)))
   (.r true)
   (.r (decide (m=(IntKind.i64.wrap (p+1))))))
  (.r false)
 | .c1 e h o d=>
  .l o
  (.j (.c2 false e (IntKind.i64.wrap h) d)) fun t ac=>
   .c (decide ((e.length:Int)<=d))
   (.r false)
   (.c (decide (0<=d)&&decide (d<(e.length:Int)))
    (.c (!decide (t.1=((e.getD d.toNat default).fForm)))
     (.r false)
     (.c (decide (0<=d)&&decide (d<(e.length:Int)))
      (.c (!decide (t.2.fLexeme=(((e.getD d.toNat default).fAnalysis).fLexeme)))
       (.r false)
       (.c (decide (0<=d)&&decide (d<(e.length:Int)))
        (.b (r02_Same t.2.fCell (((e.getD d.toNat default).fAnalysis).fCell)) fun z=>
         .c (!z)
         (.r false)
         (.c (decide ((IntKind.i64.wrap h)<(IntKind.i64.wrap (d+1))))
          (.j (.c2 false e (IntKind.i64.wrap h) (IntKind.i64.wrap (d+1))))
          (.j (.c1 e h ac (IntKind.i64.wrap (d+1)))))) .n)) .n)) .n)
def pt:Pt->List Dir×St E
 | .c2 u s p m=>([.r,.r,.r,.r,.r],ms 80 87 [(4,hP 4),(5,hP 5),(6,hP 6),(7,hP 7)] [(4,.cells [cB u]),(5,.cells [.tok (300005,1,48) (.st .r11_Pair) s]),(6,.cells [cI p]),(7,.cells [cI m])] 0 [] [] true)
 | .c1 e h o d=>([.r,.r,.r,.r,.r,.l,.r,.k],ms 80 87 [(4,hP 4),(5,hP 5),(6,hP 6),(7,hP 7)] [(4,.cells [cB false]),(5,.cells [.tok (300005,1,48) (.st .r11_Pair) e]),(6,.cells [cI (IntKind.i64.wrap h)]),(7,.cells [cI d])] 0 [] [⟨[.str,(.st .aAnalysis)],o⟩] true)
theorem g:D.G st pt:=fun Z a=>by cases a <;> kernel_rfl
theorem g0:D.G0 go pt:=fun Z ⟨_,_⟩=>by kernel_rfl
abbrev con:Con Tryz.prog E:=FD.con Tryz.func6 (by kernel_rfl) g g0
end l11_MorphologyAll
def l11_MorphologyAll (i:aWords) (h:Int):Option (Bool):=ev (l11_MorphologyAll.go (i,h)) (fx l11_MorphologyAll.st)
end Go.Ai.Mor
end

set_option maxRecDepth 100000
noncomputable section
namespace Go.Ai.Mor
open Go Go.Ai Go.Proofs
namespace l11_MorphologySurface
inductive Pt
def D:FD pd := {f:=9,fn:=Tryz.f9,q:=45,ps:=[(.st .aWords),.str,(.sl (.st .aFeature))],rs:=[.bool],ex:=[none],cs:=[l11_awake.con,l11_valid.con,morphology_Surface.con,r11_Surface.con]}
def go:(aWords×(List UInt8)×(List aFeature))->Tr Pt (Bool)
 | (e,h,d)=>
  .b (l11_valid e) fun k=>
  .c (!k)
  (.b l11_awake fun l=>
   .r l)
  (.c (decide (10<(d.length:Int)))
   (.b l11_awake fun m=>
    .r m)
   (.b (morphology_Surface e h d) fun i=>
    .b (r11_Surface e h d) fun j=>
    .b l11_awake fun n=>
    .c n
    (.c (decide (i.1=j.1))
     (.r (decide (i.2=j.2)))
     (.r false))
    (.r false)))
def st:Pt->Tr Pt (Bool):=nofun
def pt:Pt->List Dir×St E:=nofun
theorem g:D.G st pt:=fun Z a=>by cases a <;> kernel_rfl
theorem g0:D.G0 go pt:=fun Z ⟨_,_,_⟩=>by kernel_rfl
abbrev con:Con Tryz.prog E:=FD.con Tryz.func9 (by kernel_rfl) g g0
end l11_MorphologySurface
def l11_MorphologySurface (e:aWords) (h:List UInt8) (d:List aFeature):Option (Bool):=ev (l11_MorphologySurface.go (e,h,d)) (fx l11_MorphologySurface.st)
end Go.Ai.Mor
end

namespace Go.Ai.Mor
open Go Go.Ai
set_option maxRecDepth 100000
theorem sites_get (l:List Int) (k:Nat):(l.drop k).head? = l[k]? := by rw [List.head?_drop]
theorem ref07_Apply_eq {a:List aLetter} (ha:a.length<=1048576) {r:aRule} (hr:okRule r) {s:List UInt8} (hs:s.length<=1048576):r07_Apply a r s=some (applyW a r s):=by
 simp only [r07_Apply,r07_Apply.go,evs,ev_b,ref07_Valid_eq ha hr,ref07_Word_eq ha hs,ref07_Sites_eq ha hr hs,Option.bind_some,cnot,applyW]
 cases hrb:ruleB a r with
 | false=>rfl
 | true=>
   cases hwb:wordB a s with
   | false=>rfl
   | true=>
     obtain ⟨hadm,ht,_,_⟩:=ruleB_parts hrb
     simp only [toB,Bool.and_eq_true,decide_eq_true_eq] at ht
     obtain ⟨hto,ht4⟩:=ht
     have hov:Lib.validD r.fTo=true:=by simp only [overB,Bool.and_eq_true] at hto; exact hto.1
     have hte:=encs_runes hov
     have htl:r.fTo.length<=16:=by have:=encs_len (runesL r.fTo); rw [hte] at this; omega
     obtain ⟨ho,h40⟩:=wordB_parts hwb
     have hsl:=sitesF_len a r (runesL s) ((runesL s).length+1) 0
     have hsl:(sitesS a r (runesL s)).length<=41:=by unfold sitesS; omega
     have hin:=apply_in hrb hwb
     have hl:=apply_len hrb hwb
     obtain ⟨_,g2⟩:=over_encs hadm hin
     simp only [cond_true,Bool.and_self,rns_len]
     rw [cpos (by simp only [len,len0]; omega)]
     generalize hS:sitesS a r (runesL s)=S at *
     have hexit:∀ (e m:Nat) (o:List UInt8),(runesL s).length<e->fx r07_Apply.st (.c1 S r s o (m:Int) (e:Int))=fx r07_Apply.st (.c5 o):=by
      intro e m o he
      rw [fx_eq]; simp only [r07_Apply.st,evs,rns_len]
      rw [cneg (by omega)]
     have l4:∀ (e m:Nat) (o:List UInt8) (b:Bool),(b=true->e<(runesL s).length)->o.length<=100000->e<=40->fx r07_Apply.st (.c4 (e:Int) (m:Int) o S r s b)=fx r07_Apply.st (.c1 S r s (o++cond b (enc (((runesL s).getD e 0:Nat):Int)) []) (m:Int) ((e+1:Nat):Int)):=by
      intro e m o b hb ho he
      have hw:IntKind.i64.wrap ((e:Int)+1)=((e+1:Nat):Int):=wsucc (by omega)
      rw [fx_eq]; simp only [r07_Apply.st,evs,rns_len,hw,Int.toNat_natCast]
      cases b with
      | false=>simp
      | true=>
        have hlt:=hb rfl
        have e1:(runesL s).getD e 0=(runesL s)[e]:=by simp [hlt]
        have he4:=enc_length (((runesL s)[e]:Nat):Int)
        rw [cond_true,cpos2 (by omega) (by omega)]
        simp only [rns_get hlt]
        rw [cpos (by omega),cond_true,e1]
     have l3:∀ (e m:Nat) (o:List UInt8) (b:Bool),o.length<=100000->e<=40->fx r07_Apply.st (.c3 b (e:Int) S r s o (m:Int))=fx r07_Apply.st (.c1 S r s (o++cond (decide (e<(runesL s).length)&&(!b||decide (r.fFrom=0))) (enc (((runesL s).getD e 0:Nat):Int)) []) (m:Int) ((e+1:Nat):Int)):=by
      intro e m o b ho he
      rw [fx_eq]; simp only [r07_Apply.st,evs,rns_len]
      by_cases h:e<(runesL s).length
      ·rw [cpos (by omega),l4 e m o true (fun _=>h) ho he,l4 e m o _ (fun _=>h) ho he]
       cases b <;> simp [h]
      ·rw [cneg (by omega),l4 e m o false (fun hb=>by cases hb) ho he]
       simp [h]
     have l1:∀ (e m:Nat) (o:List UInt8),o.length<=90000->e<=(runesL s).length->m<=41->fx r07_Apply.st (.c1 S r s o (m:Int) (e:Int))=cond (decide ((S.drop m).head? = some (e:Int)))
       (fx r07_Apply.st (.c1 S r s (o++r.fTo++cond (decide (e<(runesL s).length)&&decide (r.fFrom=0)) (enc (((runesL s).getD e 0:Nat):Int)) []) ((m+1:Nat):Int) ((e+1:Nat):Int)))
       (fx r07_Apply.st (.c1 S r s (o++cond (decide (e<(runesL s).length)) (enc (((runesL s).getD e 0:Nat):Int)) []) (m:Int) ((e+1:Nat):Int))):=by
      intro e m o ho he hm
      have hwm:IntKind.i64.wrap ((m:Int)+1)=((m+1:Nat):Int):=wsucc (by omega)
      rw [fx_eq]; simp only [r07_Apply.st,evs,rns_len,fx_eq r07_Apply.st (.c2 ..),Int.toNat_natCast,hwm]
      rw [cpos (by omega),sites_get]
      by_cases hms:m<S.length
      ·rw [cpos (by omega),cpos2 (by omega) (by omega),List.getElem?_eq_getElem hms]
       have e1:S.getD m default=S[m]:=by simp [hms]
       simp only [e1,Option.some.injEq]
       by_cases hx:S[m]=(e:Int)
       ·rw [cpos hx,cpos hx,cpos (by omega),l3 e (m+1) _ _ (by rw [List.length_append]; omega) (by omega)]
        simp [hx]
       ·rw [cneg hx,cneg hx,l3 e m o _ (by omega) (by omega)]
        simp [hx]
      ·rw [cneg (by omega),cond_false,l3 e m o false (by omega) (by omega),List.getElem?_eq_none (by omega)]
       simp
     have loop:∀ (d e m:Nat) (on:List Nat),e+d=(runesL s).length->m<=e->on.length<=5*e->fx r07_Apply.st (.c1 S r s (encs on) (m:Int) (e:Int))=fx r07_Apply.st (.c5 (encs (on++putR (decide (r.fFrom=0)) (runesL r.fTo) e (S.drop m) ((runesL s).drop e)))):=by
      intro d
      induction d with
      | zero=>
        intro e m on he hm hon
        have hlt:decide (e<(runesL s).length)=false:=by simp; omega
        have hel:=encs_len on
        rw [l1 e m _ (by omega) (by omega) (by omega),hlt,List.drop_of_length_le (by omega:(runesL s).length<=e)]
        simp only [Bool.false_and,cond_false,List.append_nil,putR]
        rw [hexit _ _ _ (by omega),hexit _ _ _ (by omega)]
        cases decide ((S.drop m).head? = some (e:Int)) with
        | true=>rw [cond_true,cond_true,encs_append,hte]
        | false=>rw [cond_false,cond_false,List.append_nil]
      | succ d ih=>
        intro e m on he hm hon
        have hlt:e<(runesL s).length:=by omega
        have hlt' : decide (e<(runesL s).length)=true:=by simp [hlt]
        have e1:(runesL s).drop e=(runesL s)[e]::(runesL s).drop (e+1):=List.drop_eq_getElem_cons hlt
        have e2:(runesL s).getD e 0=(runesL s)[e]:=by simp [hlt]
        have hel:=encs_len on
        rw [l1 e m _ (by omega) (by omega) (by omega),hlt',e1,e2]
        simp only [Bool.true_and,cond_true,putR]
        cases decide ((S.drop m).head? = some (e:Int)) with
        | true=>
          have e3:encs on++r.fTo++cond (decide (r.fFrom=0)) (enc (((runesL s)[e]:Nat):Int)) []=encs (on++runesL r.fTo++cond (decide (r.fFrom=0)) [(runesL s)[e]] []):=by
           rw [encs_append,encs_append,hte]
           cases decide (r.fFrom=0) <;> simp [encs]
          rw [cond_true,cond_true,e3,ih (e+1) (m+1) _ (by omega) (by omega) (by
           simp only [List.length_append]
           have:(cond (decide (r.fFrom=0)) [(runesL s)[e]] []).length<=1:=by cases decide (r.fFrom=0) <;> simp
           omega)]
          rw [List.tail_drop]
          simp only [List.append_assoc]
        | false=>
          have e3:encs on++enc (((runesL s)[e]:Nat):Int)=encs (on++[(runesL s)[e]]):=by
           rw [encs_append]; simp [encs]
          rw [cond_false,cond_false,e3,ih (e+1) m _ (by omega) (by omega) (by simp; omega)]
          simp
     have:=loop (runesL s).length 0 0 [] (by omega) (Nat.le_refl _) (by simp)
     rw [List.drop_zero,List.drop_zero,List.nil_append] at this
     have eA:applyS a r (runesL s)=putR (decide (r.fFrom=0)) (runesL r.fTo) 0 S (runesL s):=by unfold applyS; rw [hS]
     rw [<- eA] at this
     refine Eq.trans this ?_
     have hel:=encs_len (applyS a r (runesL s))
     rw [fx_eq]; simp only [r07_Apply.st,evs,rns_len,g2]
     rw [cpos (by simp only [len,len0]; omega)]
     by_cases h:(applyS a r (runesL s)).length<=40
     ·rw [cneg (by omega),cpos h]
     ·rw [cpos (by omega),cneg h]
theorem ref07_Check_eq {a:List aLetter} (ha:a.length<=1048576) {rs:List aRule} (hl:rs.length<=1048576) (hr:∀ r ∈ rs,okRule r) {s:List UInt8} (hs:s.length<=1048576):r07_Check a rs s=some (cascB a rs s):=by
 have key:=over (xs:=rs) (f:=fun i (_:Unit)=>fx r07_Check.st (.c1 a rs s i)) (g:=fun t _=>some (t.all (ruleB a)&&(decide (rs.length<=64)&&(admB a&&wordB a s)))) (fun _=>by
  rw [fx_eq]; simp only [r07_Check.st,evs,ev_b,↓cneg (Int.lt_irrefl _),fx_eq r07_Check.st (.c2 ..),ref07_Admissible_eq ha,ref07_Word_eq ha hs,Option.bind_some,List.all_nil,Bool.true_and]
  rw [show decide ((rs.length:Int)<=64)=decide (rs.length<=64) from decide_eq_decide.2 ⟨fun h=>by omega,fun h=>by omega⟩]
  cases decide (rs.length<=64) <;> cases admB a <;> rfl) (fun i r t _ hi hx ih=>by
  have ih:=ih ()
  have hro:=hr r (by rw [<- hx]; exact getD_mem hi)
  rw [fx_eq]; simp (disch:=omega) only [r07_Check.st,evs,ev_b,↓cpos,↓cpos2,Int.toNat_natCast,hx,ref07_Valid_eq ha hro,Option.bind_some,cnot,wsucc,ih,List.all_cons]
  cases ruleB a r <;> rfl) ()
 refine Eq.trans (b:=_) ?_ (key.trans ?_)
 ·simp only [r07_Check,r07_Check.go,evs]
 ·congr 1
  unfold cascB
  cases rs.all (ruleB a) <;> cases decide (rs.length<=64) <;> cases admB a <;> cases wordB a s <;> rfl
theorem ref07_Trace_eq {a:List aLetter} (ha:a.length<=1048576) {rs:List aRule} (hl:rs.length<=1048576) (hr:∀ r ∈ rs,okRule r) {s:List UInt8} (hs:s.length<=1048576):r07_Trace a rs s=some (cond (cascB a rs s) (trS a rs [s]) ([],1)):=by
 simp only [r07_Trace,r07_Trace.go,evs,ev_b,ref07_Check_eq ha hl hr hs,Option.bind_some,cnot]
 cases cascB a rs s with
 | false=>rfl
 | true=>
   simp only [cond_true]
   exact overJ (xs:=rs) (f:=fun o (i:List (List UInt8))=>fx r07_Trace.st (.c1 a rs i o)) (g:=fun _ t i=>some (trS a t i)) (I:=fun o i => ∃ pre v,i=pre++[v]/\v.length<=1048576/\i.length=o+1) (fun i _=>by
    rw [fx_eq]; simp only [r07_Trace.st,evs,↓cneg (Int.lt_irrefl _),trS]) (fun o r t i ho hI hx _ _ ih=>by
    obtain ⟨pre,v,rfl,hv,hl⟩:=hI
    have hro:=hr r (by rw [<- hx]; exact getD_mem ho)
    have hpo:pre.length=o:=by simp at hl; exact hl
    have hg:(pre++[v]).getD o default=v:=by rw [<- hpo]; simp
    have e:(pre++[v]).getLastD []=v:=by simp
    have hal:=applyW_len a r v
    rw [fx_eq]; simp (disch:=omega) only [r07_Trace.st,evs,ev_b,↓cpos,↓cpos2,Int.toNat_natCast,hx,hg,ref07_Apply_eq ha hro hv,Option.bind_some,cnot,trS,e,wsucc]
    by_cases h0:(applyW a r v).2=0
    ·rw [cpos h0,cpos h0,cpos (by simp only [len,len0] at *; omega),ih _ ⟨pre++[v],_,rfl,by omega,by simp at hl ⊢; omega⟩]
    ·rw [cneg h0,cneg h0]) (s:=[s]) ⟨[],s,rfl,hs,rfl⟩
theorem ref07_Cascade_eq {a:List aLetter} (ha:a.length<=1048576) {rs:List aRule} (hl:rs.length<=1048576) (hr:∀ r ∈ rs,okRule r) {u:List UInt8} (hu:u.length<=1048576):r07_Cascade a rs u=some (cascS a rs u):=by
 simp only [r07_Cascade,r07_Cascade.go,evs,ev_b,ref07_Trace_eq ha hl hr hu,Option.bind_some,cnot,cascS]
 cases hb:cascB a rs u with
 | false=>rfl
 | true=>
   simp only [cond_true]
   rcases trS_run a rs [] u with ⟨h1,pre',h2,h3⟩ | ⟨h1,h2,h3⟩
   ·rw [List.nil_append] at h2
    have hl:(pre' ++ [(runS a rs u).1]).length=pre'.length+1:=by simp
    have hrl:rs.length<=64:=by simp only [cascB,Bool.and_eq_true,decide_eq_true_eq] at hb; exact hb.1
    have hw:IntKind.i64.wrap (((pre' ++ [(runS a rs u).1]).length:Int) - 1)=(pre'.length:Int):=by
     simp only [List.length_nil] at h3
     rw [wrap64] <;> omega
    rw [h2]
    dsimp only
    simp only [hw]
    rw [cpos trivial,cpos2 (by omega) (by omega),Int.toNat_natCast]
    congr 1
    refine Prod.ext ?_ h1.symm
    simp
   ·rw [List.nil_append] at h3
    rw [h3]
    dsimp only
    rw [cneg h1]
    congr 1
    exact Prod.ext h2.symm rfl
section
variable {w:aWords} (hw:OkW w)
include hw
theorem ref11_Lexeme_eq (n:List UInt8):r11_Lexeme w n=some (fstIdx (fun x:aLexeme=>decide (x.fID=n)) w.fLexemes 0):=by
 have hl:=hw.ll
 exact overI (xs:=w.fLexemes) (f:=fun i (_:Unit)=>fx r11_Lexeme.st (.c1 n w i)) (g:=fun i t _=>some (fstIdx (fun x:aLexeme=>decide (x.fID=n)) t i)) (fun _=>by
  rw [fx_eq]; simp only [r11_Lexeme.st,evs,↓cneg (Int.lt_irrefl _),fstIdx]) (fun i x t _ hi hx _ _ ih=>by
  have ih:=ih ()
  rw [fx_eq]; simp (disch:=omega) only [r11_Lexeme.st,evs,↓cpos,↓cpos2,Int.toNat_natCast,hx,wsucc,ih,fstIdx]
  cases decide (x.fID=n) <;> rfl) ()
end
section
variable {w:aWords} (hv:VW w)
include hv
theorem vw_par {x:aLexeme} (hx:x ∈ w.fLexemes) (h:decide (x.fParadigm=[])=false):∃ j:Nat,j<w.fParadigms.length/\fstIdx (fun p:aParadigm=>decide (p.fName=x.fParadigm)) w.fParadigms 0=(j:Int)/\w.fParadigms.getD j default=pOf w x.fParadigm:=by
 have hm:=hv.miss x hx
 simp only [missB,h,Bool.not_false,Bool.true_and] at hm
 rcases fst_find (fun p:aParadigm=>decide (p.fName=x.fParadigm)) w.fParadigms with ⟨h1,h2⟩ | ⟨j,h1,h2,h3⟩
 ·unfold parP at hm; rw [h1] at hm; cases hm
 ·refine ⟨j,h1,h2,?_⟩
  unfold pOf parP; rw [h3]; rfl
theorem ref11_Cells_eq {x:aLexeme} (hx:x ∈ w.fLexemes):r11_Cells w x=some (cellsOf w x):=by
 simp only [r11_Cells,r11_Cells.go,evs,ev_b,ref11_Paradigm_eq hv.ok,Option.bind_some,cellsOf]
 cases h:decide (x.fParadigm=[]) with
 | true=>rfl
 | false=>
   obtain ⟨j,h1,h2,h3⟩:=vw_par hv hx h
   rw [h2,cond_false,cpos2 (by omega) (by omega),Int.toNat_natCast,h3,ref10_Cells_eq (ok_pOf hv.ok x.fParadigm).dims]
   rfl
theorem merge_some {x:aLexeme} (hx:x ∈ w.fLexemes) (h:decide (x.fParadigm=[])=false) {c:List aFeature} (hc:c ∈ cellsOf w x):∃ m,mergeS (pOf w x.fParadigm).fDimensions c x.fFeatures=some m:=by
 unfold cellsOf at hc
 rw [h,cond_false] at hc
 have hlb:=vw_lexB hv hx
 simp only [lexB,Bool.and_eq_true] at hlb
 have hval:=hlb.2.2.2.2
 have hcl:=hv.clash x hx
 simp only [clashW,h,Bool.not_false,Bool.true_and] at hcl
 have hm:=hv.miss x hx
 simp only [missB,h,Bool.not_false,Bool.true_and] at hm
 cases hp:parP w x.fParadigm with
 | none=>rw [hp] at hm; cases hm
 | some p=>
   rw [hp] at hcl
   dsimp only at hcl
   have epo:pOf w x.fParadigm=p:=by unfold pOf; rw [hp]; rfl
   rw [epo] at hc ⊢
   have hnum:0<=numR p.fDimensions c:=by
    have:=fstIdx_nonneg (fun y=>decide (y=c)) (cells p.fDimensions) 0
    have hany:((cells p.fDimensions).any fun y=>decide (y=c))=true:=List.any_eq_true.2 ⟨c,hc,by simp⟩
    rw [hany] at this
    exact of_decide_eq_true this
   unfold mergeS
   rw [show decide (0<=numR p.fDimensions c)=true by simp [hnum],hval]
   simp only [Bool.and_self,cond_true,refU]
   have hag:x.fFeatures.all (agreeF c)=true:=by
    rw [List.all_eq_true]
    intro f hf
    have hno:getF c f.fName=none:=by
     cases hg:getF c f.fName with
     | none=>rfl
     | some v=>
       exfalso
       have hmem:=getF_mem hg
       have hds:∃ d ∈ p.fDimensions,d.fName=f.fName:=by
        unfold cells at hc
        cases hdk:dimsOk p.fDimensions with
        | false=>rw [hdk] at hc; cases hc
        | true=>
          rw [hdk,cond_true] at hc
          simp only [allF,List.mem_map] at hc
          obtain ⟨c',hc',rfl⟩:=hc
          rw [rec_mem] at hmem
          have hn:=choices_names hc'
          have:f.fName ∈ c'.map (·.fName):=List.mem_map.2 ⟨_,hmem,rfl⟩
          rw [hn] at this
          obtain ⟨d,hd,e⟩:=List.mem_map.1 this
          exact ⟨d,hd,e⟩
       obtain ⟨d,hd,e⟩:=hds
       have h1:=(List.any_eq_false.1 hcl) d hd
       have h2:(x.fFeatures.any fun f=>decide (f.fName=d.fName))=true:=List.any_eq_true.2 ⟨f,hf,by simp [e]⟩
       rw [h2] at h1
       exact h1 rfl
    unfold agreeF
    rw [hno]
   rw [hag]
   exact ⟨_,rfl⟩
theorem under_in {x:aLexeme} (hx:x ∈ w.fLexemes) (h:decide (x.fParadigm=[])=false) (c:List aFeature) (h0:(underW w x c).2=0):wordB w.fAlphabet (underW w x c).1=true:=by
 have hlb:=vw_lexB hv hx
 simp only [lexB,Bool.and_eq_true] at hlb
 have hstem:=hlb.2.2.2.1
 have hm:=hv.miss x hx
 simp only [missB,h,Bool.not_false,Bool.true_and] at hm
 have hpB:parB w.fAlphabet (pOf w x.fParadigm)=true:=by
  cases hp:parP w x.fParadigm with
  | none=>rw [hp] at hm; cases hm
  | some p=>
    have epo:pOf w x.fParadigm=p:=by unfold pOf; rw [hp]; rfl
    rw [epo]
    have:=hv.parts
    simp only [partsB,Bool.and_eq_true,List.all_eq_true] at this
    exact this.2.2.2.2.1 p (List.mem_of_find?_eq_some hp)
 have hadm:admB w.fAlphabet=true:=by
  have:=hv.parts
  simp only [partsB,Bool.and_eq_true] at this
  have h1:=this.1
  simp only [alphaB,admB,Bool.and_eq_true,decide_eq_true_eq] at *
  exact ⟨h1.1,by omega,h1.2.2⟩
 have hws:=parB_words hpB
 have happ:∀ {u v:List UInt8},overB w.fAlphabet u=true->overB w.fAlphabet v=true->overB w.fAlphabet (u++v)=true:=by
  intro u v hu hv
  have e1:u=encs (runesL u):=by simp only [overB,Bool.and_eq_true] at hu; exact (encs_runes hu.1).symm
  have e2:v=encs (runesL v):=by simp only [overB,Bool.and_eq_true] at hv; exact (encs_runes hv.1).symm
  rw [e1,e2,<- encs_append]
  exact (over_encs hadm fun r hr=>by
   rcases List.mem_append.1 hr with hr | hr
   ·exact overB_in hu r hr
   ·exact overB_in hv r hr).1
 have hform:∀ (m:List aFeature) (ss:List (List aAffix)) (f:List UInt8),(∀ s ∈ ss,∀ y ∈ s,wordB w.fAlphabet y.fPrefix=true/\wordB w.fAlphabet y.fSuffix=true)->overB w.fAlphabet f=true->overB w.fAlphabet (formS m ss f)=true:=by
  intro m ss
  induction ss with
  | nil=>intro f _ hf; exact hf
  | cons s ss ih=>
    intro f hss hf
    refine ih _ (fun s' hs' => hss s' (List.mem_cons_of_mem _ hs')) ?_
    unfold wrapA
    split
    ·rename_i y hy
     obtain ⟨g1,g2⟩:=hss s (by simp) y (List.mem_of_find?_eq_some hy)
     exact happ (happ (wordB_parts g1).1 hf) (wordB_parts g2).1
    ·exact hf
 unfold underW underS at h0 ⊢
 cases hmm:mergeS (pOf w x.fParadigm).fDimensions c x.fFeatures with
 | none=>rw [hmm] at h0; simp at h0
 | some m=>
   rw [hmm] at h0
   dsimp only at h0 ⊢
   by_cases h40:40<((runesL (formS m (pOf w x.fParadigm).fSlots x.fStem)).length:Int)
   ·rw [cpos h40] at h0; simp at h0
   ·rw [cneg h40]
    rw [wordB_over,hform m _ _ hws (wordB_parts hstem).1]
    simp
    omega
omit hv in
theorem alpha_adm {a:List aLetter} (h:alphaB a=true):admB a=true:=by
 simp only [alphaB,admB,Bool.and_eq_true,decide_eq_true_eq] at *
 exact ⟨h.1,by omega,h.2.2⟩
theorem cascB_of {s:List UInt8} (hs:wordB w.fAlphabet s=true):cascB w.fAlphabet w.fRules s=true:=by
 have:=hv.parts
 simp only [partsB,Bool.and_eq_true,decide_eq_true_eq] at this
 unfold cascB
 rw [alpha_adm this.1,hs,this.2.2.2.1]
 simp [this.2.1]
omit hv in
theorem runS_err (a:List aLetter):∀ (rs:List aRule) (s:List UInt8),rs.all (ruleB a)=true->wordB a s=true->(runS a rs s).2=0\/runS a rs s=([],2)
 | [],s,_,_ => .inl rfl
 | r::rs,s,hr,hs=>by
   rw [List.all_cons,Bool.and_eq_true] at hr
   have h1:(applyW a r s).2=0/\wordB a (applyW a r s).1=true\/(applyW a r s).2=2:=by
    unfold applyW
    rw [hr.1,hs]
    simp only [Bool.and_self,cond_true]
    by_cases h40:(applyS a r (runesL s)).length<=40
    ·rw [cpos h40]
     obtain ⟨g1,g2⟩:=over_encs (ruleB_parts hr.1).1 (apply_in hr.1 hs)
     refine .inl ⟨rfl,?_⟩
     rw [wordB_over]
     show (overB a (encs (applyS a r (runesL s)))&&decide ((runesL (encs (applyS a r (runesL s)))).length<=40))=true
     rw [g1,g2]; simp [h40]
    ·rw [cneg h40]; exact .inr rfl
   simp only [runS]
   rcases h1 with ⟨h1,h2⟩ | h1
   ·rw [cpos h1]; exact runS_err a rs _ hr.2 h2
   ·rw [h1]; exact .inr rfl
theorem cascS_err {s:List UInt8} (hs:wordB w.fAlphabet s=true):(cascS w.fAlphabet w.fRules s).2=0\/cascS w.fAlphabet w.fRules s=([],2):=by
 have:=hv.parts
 simp only [partsB,Bool.and_eq_true] at this
 unfold cascS
 rw [cascB_of hv hs,cond_true]
 exact runS_err _ _ _ this.2.2.2.1 hs
def refForm (w:aWords) (x:aLexeme) (c:List aFeature):List UInt8×Int:=
 cond (decide (x.fParadigm=[])) (cascS w.fAlphabet w.fRules x.fStem) (cond (decide ((underW w x c).2=0)) (cascS w.fAlphabet w.fRules (underW w x c).1) ([],(underW w x c).2))
theorem refForm_form {x:aLexeme} (hx:x ∈ w.fLexemes) {c:List aFeature} (hc:c ∈ cellsOf w x):refForm w x c=cond (formW w x c).2 ((formW w x c).1,0) ([],2):=by
 have hlb:=vw_lexB hv hx
 simp only [lexB,Bool.and_eq_true] at hlb
 have fin:∀ s:List UInt8,wordB w.fAlphabet s=true->cascS w.fAlphabet w.fRules s=cond (cascB' w s).2 ((cascB' w s).1,0) ([],2):=fun s hs=>by
  unfold cascB'
  rcases cascS_err hv hs with h | h
  ·rw [h]; exact Prod.ext rfl h
  ·rw [h]; rfl
 unfold refForm formW
 cases h:decide (x.fParadigm=[]) with
 | true=>rw [cond_true,cond_true]; exact fin _ hlb.2.2.2.1
 | false=>
   rw [cond_false,cond_false]
   obtain ⟨m,hm⟩:=merge_some hv hx h hc
   have hu:(underW w x c).2=0\/underW w x c=([],2):=by
    unfold underW underS
    rw [hm]
    dsimp only
    by_cases h40:40<((runesL (formS m (pOf w x.fParadigm).fSlots x.fStem)).length:Int)
    ·rw [cpos h40]; exact .inr rfl
    ·rw [cneg h40]; exact .inl rfl
   rcases hu with hu | hu
   ·rw [cpos hu,cpos hu]; exact fin _ (under_in hv hx h c hu)
   ·rw [hu]; rfl
theorem ref11_Surface_eq (n:List UInt8) {c:List aFeature} (hc:c.length<=1048576):r11_Surface w n c=some (surfS w n c):=by
 have hw:=hv.ok
 simp only [r11_Surface,r11_Surface.go,evs,ev_b,ref11_Lexeme_eq hw,Option.bind_some,surfS,lexP]
 rcases fst_find (fun x:aLexeme=>decide (x.fID=n)) w.fLexemes with ⟨h1,h2⟩ | ⟨k,h1,h2,h3⟩
 ·rw [h1,h2]; rfl
 ·have hx:w.fLexemes.getD k default ∈ w.fLexemes:=getD_mem h1
  rw [h2,h3,cneg (by omega),cpos2 (by omega) (by omega),Int.toNat_natCast,ref11_Cells_eq hv hx,Option.bind_some]
  obtain ⟨hl,hcl⟩:=cellsOf_len hw (w.fLexemes.getD k default)
  have l3:∀ s:List UInt8,s.length<=1048576->fx r11_Surface.st (.c3 w s)=some (cascS w.fAlphabet w.fRules s):=fun s hs=>by
   rw [fx_eq]; simp only [r11_Surface.st,evs,ev_b,ref07_Cascade_eq hw.al hw.rl hw.rules hs,Option.bind_some]
  have l2:∀ b,(b=true->c ∈ cellsOf w (w.fLexemes.getD k default))->fx r11_Surface.st (.c2 c (k:Int) w b)=some (cond b (cond (formW w (w.fLexemes.getD k default) c).2 ((formW w (w.fLexemes.getD k default) c).1,0) ([],2)) ([],1)):=fun b hb=>by
   rw [fx_eq]; simp only [r11_Surface.st,evs,ev_b,Int.toNat_natCast,ref11_Paradigm_eq hw,Option.bind_some,cnot]
   cases b with
   | false=>rfl
   | true=>
     have hcc:=hb rfl
     rw [<- refForm_form hv hx hcc]
     have hxo:=hw.lexs _ hx
     have hlb:=vw_lexB hv hx
     simp only [lexB,Bool.and_eq_true] at hlb
     unfold refForm
     rw [l3 _ hxo.stem]
     simp only [cond_true]
     cases h:decide ((w.fLexemes.getD k default).fParadigm=[]) with
     | true=>rfl
     | false=>
       obtain ⟨j,g1,g2,g3⟩:=vw_par hv hx h
       have hps:=ok_pOf hw (w.fLexemes.getD k default).fParadigm
       have hst:=hxo.stem
       have hsz:=hps.size
       simp only [cond_false]
       rw [g2,cpos2 (by omega) (by omega),Int.toNat_natCast,g3,ref10_Underlying_eq hps.dims hps.slots hxo.feat (by omega),Option.bind_some]
       show cond (decide ((underW w (w.fLexemes.getD k default) c).2=0)) (fx r11_Surface.st (.c3 w (underW w (w.fLexemes.getD k default) c).1)) (some ([],(underW w (w.fLexemes.getD k default) c).2))=_
       by_cases h0:(underW w (w.fLexemes.getD k default) c).2=0
       ·have:=wordB_len (under_in hv hx h c h0)
        rw [cpos h0,cpos h0,l3 _ (by omega)]
       ·rw [cneg h0,cneg h0]
  have l1:=over (xs:=cellsOf w (w.fLexemes.getD k default)) (f:=fun m (o:Bool)=>fx r11_Surface.st (.c1 c (k:Int) (cellsOf w (w.fLexemes.getD k default)) w o m)) (g:=fun t o=>fx r11_Surface.st (.c2 c (k:Int) w (o||t.any fun y=>decide (y=c)))) (fun o=>by
   rw [fx_eq]; simp only [r11_Surface.st,evs,↓cneg (Int.lt_irrefl _),List.any_nil,Bool.or_false]) (fun m y t o hm hy ih=>by
   have hyl:=hcl y (by rw [<- hy]; exact getD_mem hm)
   rw [fx_eq]; simp (disch:=omega) only [r11_Surface.st,evs,ev_b,↓cpos,↓cpos2,Int.toNat_natCast,hy,ref02_Same_eq (show y.length<=1048576 by omega),Option.bind_some,wsucc,ih,List.any_cons]
   cases o <;> simp) false
  rw [l1,Bool.false_or,l2 _ (fun h=>by
   obtain ⟨y,hy,e⟩:=List.any_eq_true.1 h
   rw [<- of_decide_eq_true e]; exact hy)]
def prP (p:List UInt8×aAnalysis):r11_Pair:=⟨p.1,p.2⟩
theorem ref11_All_eq:r11_All w=some ((allS w).map prP):=by
 have hw:=hv.ok
 have hbd:=vw_all hv
 have key:=overJ (xs:=w.fLexemes) (f:=fun e (o:List r11_Pair)=>fx r11_All.st (.c1 w o e)) (g:=fun _ t o=>some (o++(t.flatMap fun x=>pairs w x (cellsOf w x)).map prP)) (I:=fun e o=>o.length<=16*e) (fun o _=>by
  rw [fx_eq]; simp only [r11_All.st,evs,↓cneg (Int.lt_irrefl _),List.flatMap_nil,List.map_nil,List.append_nil]) (fun e x t o he ho hx _ _ ih=>by
  have hxm:x ∈ w.fLexemes:=by rw [<- hx]; exact getD_mem he
  have h8:=(vw_small hv).1
  have h16:=vw_cells hv hxm
  have l2:=overJ (xs:=cellsOf w x) (f:=fun h (m:List r11_Pair)=>fx r11_All.st (.c2 (e:Int) (cellsOf w x) w m h)) (g:=fun _ cs m=>fx r11_All.st (.c1 w (m++(pairs w x cs).map prP) ((e+1:Nat):Int))) (I:=fun h m=>m.length<=16*e+h) (fun m _=>by
   rw [fx_eq]; simp (disch:=omega) only [r11_All.st,evs,↓cneg (Int.lt_irrefl _),wsucc,pairs,List.flatMap_nil,List.map_nil,List.append_nil]) (fun h c cs m hh hm hc _ _ ih=>by
   have hcm:c ∈ cellsOf w x:=by rw [<- hc]; exact getD_mem hh
   have hcl:=(cellsOf_len hw x).2 c hcm
   rw [fx_eq]; simp (disch:=omega) only [r11_All.st,evs,ev_b,↓cpos,↓cpos2,Int.toNat_natCast,hx,hc,ref11_Surface_eq hv x.fID (show c.length<=1048576 by omega),surfS_of hv hxm hcm,Option.bind_some,wsucc]
   have ep:pairs w x (c::cs)=cond (formW w x c).2 [((formW w x c).1,⟨x.fID,c⟩)] []++pairs w x cs:=by simp [pairs]
   rw [ep]
   cases hf:(formW w x c).2 with
   | false=>
     simp only [cond_false]
     rw [cneg (by decide),ih m (by omega)]; rfl
   | true=>
     simp only [cond_true]
     rw [cpos trivial,cpos (by simp only [len,len0]; omega),ih _ (by simp; omega)]
     simp [prP]) (s:=o) (by omega)
  rw [fx_eq]; simp (disch:=omega) only [r11_All.st,evs,ev_b,↓cpos,↓cpos2,Int.toNat_natCast,hx,ref11_Cells_eq hv hxm,Option.bind_some]
  have hpl:=pairs_len (w:=w) x (cellsOf w x)
  rw [l2,ih _ (by simp; omega)]
  simp [List.flatMap_cons]) (s:=[]) (by simp)
 simp only [r11_All,r11_All.go,evs]
 exact key
theorem ref11_Analyses_eq {s:List UInt8} (hs:s.length<=1048576):r11_Analyses w s=some (cond (wordB w.fAlphabet s) (sel s (allS w),0) ([],1)):=by
 have hbd:=vw_all hv
 have hsl:=sel_len s (allS w)
 simp only [r11_Analyses,r11_Analyses.go,evs,ev_b,ref07_Word_eq hv.ok.al hs,ref11_All_eq hv,Option.bind_some,cnot]
 cases wordB w.fAlphabet s with
 | false=>rfl
 | true=>
   simp only [cond_true]
   have l1:=overJ (xs:=(allS w).map prP) (f:=fun d (i:List aAnalysis)=>fx r11_Analyses.st (.c1 ((allS w).map prP) s i d)) (g:=fun _ t i=>fx r11_Analyses.st (.c2 (i++(t.filter fun p=>decide (p.fForm=s)).map (·.fAnalysis)))) (I:=fun d i=>i.length<=d) (fun i _=>by
    rw [fx_eq]; simp only [r11_Analyses.st,evs,↓cneg (Int.lt_irrefl _),List.filter_nil,List.map_nil,List.append_nil]) (fun d p t i hd hi hp _ _ ih=>by
    rw [List.length_map] at hd
    have hd' : d<((allS w).map prP).length:=by rw [List.length_map]; exact hd
    rw [fx_eq]; simp (disch:=omega) only [r11_Analyses.st,evs,↓cpos,↓cpos2,Int.toNat_natCast,hp,wsucc]
    by_cases h:p.fForm=s
    ·rw [cpos h,cpos (by simp only [len,len0]; omega),ih _ (by simp; omega)]
     simp [h]
    ·rw [cneg h,ih i (by omega)]
     simp [h]) (s:=[]) (by simp)
   rw [l1]
   have e:(((allS w).map prP).filter fun p=>decide (p.fForm=s)).map (·.fAnalysis)=sel s (allS w):=by
    unfold sel
    rw [List.filter_map,List.map_map]; rfl
   rw [List.nil_append,e,fx_eq]
   simp only [r11_Analyses.st,evs]
   rw [cneg (by omega)]
end
theorem cell_of_sel {w:aWords} (hw:OkW w) {s:List UInt8} : ∀ y ∈ sel s (allS w),y.fCell.length<=1048576:=fun y hy=>by
 rw [sel_mem,allS_mem] at hy
 obtain ⟨z,_,c,hc,_,e⟩:=hy
 have:=(cellsOf_len hw z).2 c hc
 rw [(Prod.mk.inj e).2]
 show c.length<=1048576
 omega
theorem law_Analyses {w:aWords} (hw:OkW w) {s:List UInt8} (hs:s.length<=1048576):l11_MorphologyAnalyses w s=some true:=by
 simp only [l11_MorphologyAnalyses,l11_MorphologyAnalyses.go,evs,ev_b,valid_eq hw,awake_eq,Option.bind_some,cnot]
 cases hv:validW w with
 | false=>rfl
 | true=>
   have hv:=VW_of hw hv
   have hbd:=vw_all hv
   have hsl:=sel_len s (allS w)
   simp only [cond_true,Analyses_v hv hs,ref11_Analyses_eq hv hs,Option.bind_some]
   cases decide (200<(s.length:Int)) with
   | true=>rfl
   | false=>
     cases wordB w.fAlphabet s with
     | false=>
       simp only [cond_false,decide_true,cond_true]
       rw [ref11_Same_eq (by simp) (fun x h=>by cases h)]; rfl
     | true=>
       simp only [cond_false,decide_true,cond_true]
       rw [ref11_Same_eq (by omega) (cell_of_sel hw)]; simp
theorem law_Surface {w:aWords} (hw:OkW w) (n:List UInt8) {c:List aFeature} (hc:c.length<=1048576):l11_MorphologySurface w n c=some true:=by
 simp only [l11_MorphologySurface,l11_MorphologySurface.go,evs,ev_b,valid_eq hw,awake_eq,Option.bind_some,cnot]
 cases hv:validW w with
 | false=>rfl
 | true=>
   have hv:=VW_of hw hv
   simp only [cond_true,Surface_eq hw hv.parts (HC_all hw) n hc,ref11_Surface_eq hv n hc,Option.bind_some,decide_true]
   cases decide (10<(c.length:Int)) <;> rfl
theorem law_Forms {w:aWords} (hw:OkW w) (n:List UInt8):l11_MorphologyForms w n=some true:=by
 simp only [l11_MorphologyForms,l11_MorphologyForms.go,evs,ev_b,valid_eq hw,awake_eq,Option.bind_some,cnot]
 cases hv:validW w with
 | false=>rfl
 | true=>
   have hv:=VW_of hw hv
   have hC:=HC_all hw
   simp only [cond_true,Forms_eq hw hv.parts hC n,ref11_Lexeme_eq hw,Option.bind_some]
   unfold formsS lexP
   rcases fst_find (fun x:aLexeme=>decide (x.fID=n)) w.fLexemes with ⟨h1,h2⟩ | ⟨k,h1,h2,h3⟩
   ·rw [h1,h2]; rfl
   ·have hx:w.fLexemes.getD k default ∈ w.fLexemes:=getD_mem h1
    have hid:(w.fLexemes.getD k default).fID=n:=by
     have:=List.find?_some h3
     exact of_decide_eq_true this
    rw [h2,h3,cneg (by omega),cpos2 (by omega) (by omega),Int.toNat_natCast,ref11_Cells_eq hv hx,Option.bind_some]
    generalize hX:w.fLexemes.getD k default=x at *
    obtain ⟨hl,hcl⟩:=cellsOf_len hw x
    dsimp only
    have hsf:∀ c ∈ cellsOf w x,morphology_Surface w n c=some (cond (formW w x c).2 ((formW w x c).1,0) ([],2)):=fun c hc=>by
     have:=hcl c hc
     rw [Surface_eq hw hv.parts hC n (by omega),<- hid,surfS_of hv hx hc]
    cases hall:(cellsOf w x).all (fun c=>(formW w x c).2) with
    | true=>
      rw [List.all_eq_true] at hall
      simp only [cond_true]
      have hlm:((cellsOf w x).map fun c=>(formW w x c).1).length=(cellsOf w x).length:=List.length_map _
      exact over (xs:=cellsOf w x) (f:=fun i (_:Unit)=>fx l11_MorphologyForms.st (.c1 n ((cellsOf w x).map fun c=>(formW w x c).1,0) (cellsOf w x) w i)) (g:=fun _ _=>some true) (fun _=>by
       rw [fx_eq]; simp only [l11_MorphologyForms.st,evs,ev_b,↓cneg (Int.lt_irrefl _),fx_eq l11_MorphologyForms.st (.c3 ..),awake_eq,Option.bind_some,hlm,decide_true,cond_true]) (fun i c t _ hi hc ih=>by
       have ih:=ih ()
       have hcm:c ∈ cellsOf w x:=by rw [<- hc]; exact getD_mem hi
       have hg:((cellsOf w x).map fun c=>(formW w x c).1).getD i default=(formW w x c).1:=by
        have:(cellsOf w x)[i]=c:=by rw [<- hc]; simp [hi]
        simp [hi,this]
       rw [fx_eq]; simp (disch:=omega) only [l11_MorphologyForms.st,evs,ev_b,↓cpos,↓cpos2,Int.toNat_natCast,hc,hsf c hcm,hall c hcm,Option.bind_some,cnot,cond_true,fx_eq l11_MorphologyForms.st (.c2 ..),hlm,hg,wsucc,ih,decide_true]
       rw [cneg (by omega)]) ()
    | false=>
      simp only [cond_false]
      have key:∀ (cs:List (List aFeature)) (i:Nat),(cellsOf w x).drop i=cs->cs.all (fun c=>(formW w x c).2)=false->fx l11_MorphologyForms.st (.c1 n ([],2) (cellsOf w x) w (i:Int))=some true:=by
       intro cs
       induction cs with
       | nil=>intro i _ h; cases h
       | cons c cs ih=>
         intro i hd h
         have hi:i<(cellsOf w x).length:=by
          rcases Nat.lt_or_ge i (cellsOf w x).length with h' | h'
          ·exact h'
          ·rw [List.drop_of_length_le h'] at hd; cases hd
         have e:=List.drop_eq_getElem_cons hi
         rw [hd] at e
         obtain ⟨e1,e2⟩:=List.cons.inj e
         have hc:(cellsOf w x).getD i default=c:=by rw [e1]; simp [hi]
         have hcm:c ∈ cellsOf w x:=by rw [<- hc]; exact getD_mem hi
         rw [fx_eq]; simp (disch:=omega) only [l11_MorphologyForms.st,evs,ev_b,↓cpos,↓cpos2,Int.toNat_natCast,hc,hsf c hcm,Option.bind_some,cnot,awake_eq,fx_eq l11_MorphologyForms.st (.c2 ..),wsucc]
         rw [List.all_cons] at h
         cases hf:(formW w x c).2 with
         | false=>rfl
         | true=>
           rw [hf,Bool.true_and] at h
           have:=ih (i+1) e2.symm h
           simp only [cond_true,decide_true]
           exact this
      exact key _ 0 rfl hall
theorem law_All {w:aWords} (hw:OkW w) {h:Int} (h0:0<=h) (h1:h<256):l11_MorphologyAll w h=some true:=by
 simp only [l11_MorphologyAll,l11_MorphologyAll.go,evs,ev_b,valid_eq hw,awake_eq,Option.bind_some,cnot]
 cases hv:validW w with
 | false=>rfl
 | true=>
   have hv:=VW_of hw hv
   have hbd:=vw_all hv
   have hw64:IntKind.i64.wrap h=h:=wrap64 (by omega) (by omega)
   simp only [cond_true,ref11_All_eq hv,All_eq hw hv.parts (HC_all hw),Option.bind_some]
   have key:∀ (l:List (List UInt8×aAnalysis)) (d:Nat),(allS w).drop d=l->d<=(allS w).length->(d:Int)<=h->fx l11_MorphologyAll.st (.c1 ((allS w).map prP) h l (d:Int))=some true:=by
    intro l
    induction l with
    | nil=>
      intro d hd hle _
      have he:d=(allS w).length:=by
       rcases Nat.lt_or_ge d (allS w).length with h' | h'
       ·rw [List.drop_eq_getElem_cons h'] at hd; cases hd
       ·omega
      rw [fx_eq]; simp only [l11_MorphologyAll.st,evs,ev_b,lcase,fx_eq l11_MorphologyAll.st (.c2 ..),awake_eq,Option.bind_some,List.length_map]
      rw [cond_true,cpos (by omega)]
    | cons t l ih=>
      intro d hd hle hdh
      have hi:d<(allS w).length:=by
       rcases Nat.lt_or_ge d (allS w).length with h' | h'
       ·exact h'
       ·rw [List.drop_of_length_le h'] at hd; cases hd
      have e:=List.drop_eq_getElem_cons hi
      rw [hd] at e
      obtain ⟨e1,e2⟩:=List.cons.inj e
      have hg:((allS w).map prP).getD d default=prP t:=by rw [e1]; simp [hi]
      have htm:t ∈ allS w:=by rw [e1]; exact List.getElem_mem hi
      have htc:t.2.fCell.length<=1048576:=by
       rw [allS_mem] at htm
       obtain ⟨z,_,c,hc,_,e⟩:=htm
       have:=(cellsOf_len hw z).2 c hc
       rw [e]
       show c.length<=1048576
       omega
      have hwd:IntKind.i64.wrap ((d:Int)+1)=((d+1:Nat):Int):=wsucc (by omega)
      have hwh:IntKind.i64.wrap (h+1)=h+1:=wrap64 (by omega) (by omega)
      rw [fx_eq]; simp only [l11_MorphologyAll.st,evs,ev_b,lcase,Int.toNat_natCast,List.length_map,hg,prP,ref02_Same_eq htc,Option.bind_some,cnot,hwd,hw64,decide_true,cond_true]
      rw [cneg (by omega),cpos2 (by omega) (by omega),cpos2 (by omega) (by omega),cpos2 (by omega) (by omega)]
      by_cases hs:h<((d+1:Nat):Int)
      ·rw [cpos hs,fx_eq]
       simp only [l11_MorphologyAll.st,evs,ev_b,awake_eq,Option.bind_some,List.length_map,hwh,cond_true]
       by_cases he:((d+1:Nat):Int)=((allS w).length:Int)
       ·rw [cpos he]
       ·rw [cneg he]
        have:((d+1:Nat):Int)=h+1:=by omega
        rw [this]; simp
      ·rw [cneg hs]
       exact ih (d+1) e2.symm (by omega) (by omega)
   exact key (allS w) 0 rfl (Nat.zero_le _) (by omega)
end Go.Ai.Mor

namespace Go.Ai.Mor
open Go Go.Ai
theorem MorphologyAnalyses_law (x:Tup E.Γ l11_MorphologyAnalyses.D.ps) (hk:okTup (okD E 8) l11_MorphologyAnalyses.D.ps x) (h:szTup (szD E 8) l11_MorphologyAnalyses.D.ps x<=1048576):l11_MorphologyAnalyses.con.S.fn x=some true:=by
 obtain ⟨w,s⟩:aWords×List UInt8:=x
 have hz:Z8 (.st .aWords) w+(s.length+1)<=1048576:=h
 have hw:OkW w:=z8_words (Nat.le_refl _) (by omega)
 exact law_Analyses hw (s:=s) (by omega)
end Go.Ai.Mor

namespace Go.Ai.Mor
open Go Go.Ai
theorem MorphologyAmbiguity_law (x:Tup E.Γ l11_MorphologyAmbiguity.D.ps) (hk:okTup (okD E 8) l11_MorphologyAmbiguity.D.ps x) (h:szTup (szD E 8) l11_MorphologyAmbiguity.D.ps x<=1048576):l11_MorphologyAmbiguity.con.S.fn x=some true:=by
 obtain ⟨w,s⟩:aWords×List UInt8:=x
 have hz:Z8 (.st .aWords) w+(s.length+1)<=1048576:=h
 have hw:OkW w:=z8_words (Nat.le_refl _) (by omega)
 exact law_Ambiguity hw (s:=s) (by omega)
end Go.Ai.Mor

namespace Go.Ai.Mor
open Go Go.Ai
theorem MorphologyAll_law (x:Tup E.Γ l11_MorphologyAll.D.ps) (hk:okTup (okD E 8) l11_MorphologyAll.D.ps x) (h:szTup (szD E 8) l11_MorphologyAll.D.ps x<=1048576):l11_MorphologyAll.con.S.fn x=some true:=by
 obtain ⟨w,n⟩:aWords×Int:=x
 have hz:Z8 (.st .aWords) w+1<=1048576:=h
 have hw:OkW w:=z8_words (Nat.le_refl _) (by omega)
 have hk:(decide (IntKind.u8.min<=n)&&decide (n<=IntKind.u8.max))=true:=hk.2
 rw [Bool.and_eq_true,decide_eq_true_eq,decide_eq_true_eq] at hk
 have h0:IntKind.u8.min=0:=by decide
 have h1:IntKind.u8.max=255:=by decide
 exact law_All hw (h:=n) (by omega) (by omega)
end Go.Ai.Mor

namespace Go.Ai.Mor
open Go Go.Ai
theorem MorphologyMore_law (x:Tup E.Γ l11_MorphologyMore.D.ps) (hk:okTup (okD E 8) l11_MorphologyMore.D.ps x) (h:szTup (szD E 8) l11_MorphologyMore.D.ps x<=1048576):l11_MorphologyMore.con.S.fn x=some true:=by
 obtain ⟨w,y,s⟩:aWords×aLexeme×List UInt8:=x
 have hz:Z8 (.st .aWords) w+(Z8 (.st .aLexeme) y+(s.length+1))<=1048576:=h
 have hw:OkW w:=z8_words (Nat.le_refl _) (by omega)
 exact law_More hw (z8_lex (x:=y) (B:=1048576) (Nat.le_refl _) (by omega)) (s:=s) (by omega)
end Go.Ai.Mor

namespace Go.Ai.Mor
open Go Go.Ai
theorem MorphologySurface_law (x:Tup E.Γ l11_MorphologySurface.D.ps) (hk:okTup (okD E 8) l11_MorphologySurface.D.ps x) (h:szTup (szD E 8) l11_MorphologySurface.D.ps x<=1048576):l11_MorphologySurface.con.S.fn x=some true:=by
 obtain ⟨w,n,c⟩:aWords×List UInt8×List aFeature:=x
 have hz:Z8 (.st .aWords) w+((n.length+1)+Z8 (.sl (.st .aFeature)) c)<=1048576:=h
 have hw:OkW w:=z8_words (Nat.le_refl _) (by omega)
 exact law_Surface hw n (z8_rec (r:=c) (B:=1048576) (Nat.le_refl _) (by omega)).1.1
end Go.Ai.Mor

namespace Go.Ai.Mor
open Go Go.Ai
theorem MorphologyForms_law (x:Tup E.Γ l11_MorphologyForms.D.ps) (hk:okTup (okD E 8) l11_MorphologyForms.D.ps x) (h:szTup (szD E 8) l11_MorphologyForms.D.ps x<=1048576):l11_MorphologyForms.con.S.fn x=some true:=by
 obtain ⟨w,n⟩:aWords×List UInt8:=x
 have hz:Z8 (.st .aWords) w+(n.length+1)<=1048576:=h
 have hw:OkW w:=z8_words (Nat.le_refl _) (by omega)
 exact law_Forms hw n
end Go.Ai.Mor

namespace Go.Ai.Mor
open Go Go.Ai
theorem MorphologyOneRelation_law (x:Tup E.Γ l11_MorphologyOneRelation.D.ps) (hk:okTup (okD E 8) l11_MorphologyOneRelation.D.ps x) (h:szTup (szD E 8) l11_MorphologyOneRelation.D.ps x<=1048576):l11_MorphologyOneRelation.con.S.fn x=some true:=by
 obtain ⟨w,s,n,c⟩:aWords×List UInt8×List UInt8×List aFeature:=x
 have hz:Z8 (.st .aWords) w+((s.length+1)+((n.length+1)+Z8 (.sl (.st .aFeature)) c))<=1048576:=h
 have hw:OkW w:=z8_words (Nat.le_refl _) (by omega)
 exact law_One hw (s:=s) (n:=n) (by omega) (z8_rec (r:=c) (B:=1048576) (Nat.le_refl _) (by omega)).1.1
end Go.Ai.Mor

