/- A part that the proofs of the laws of this seat share: an interpreter of loaded code over typed values, what it says of the functions that the laws reach, and plain facts on these. -/
import Derived.Test.YtcjihfnjccclgaaGreatDoorA0
import Derived.Test.YtcjihfnjccclgaaGreatDoorA1
import Derived.Test.YtcjihfnjccclgaaGreatDoorA2
import Derived.Test.YtcjihfnjccclgaaGreatDoorA3
import Derived.WalkKit
import Derived.Maps.AppendAt
import Derived.Deep.OwnRows
import Derived.Deep.LoopGhost
set_option linter.unusedSectionVars false
set_option linter.unusedVariables false
set_option linter.unusedSimpArgs false
set_option maxRecDepth 100000
noncomputable section
namespace Go.Ai.Mor
open Go Go.Ai Go.Proofs
namespace pattern_Suffixes
inductive Pt
def D:FD pd := {f:=171,fn:=Tryz.f171,q:=29,ps:=[(.sl (.st .aLetter)),(.sl (.st .aItem)),.str],rs:=[(.sl (.int .i64))],ex:=[some 3],cs:=[pattern_read.con,pattern_lengths.con,slices_Clone_aItem_aItem.con],r1:=[14,20],r2:=[26,27],X:=extMut 178 none 162 (.st .aItem) revItems (extMut 179 none 3 (.int .i64) revInts (noX)),hX:=⟨fun _=>callOk_mut revItems_says (callOk_mut revInts_says (callOk_none)),extMut_mono (extMut_mono (XMono.noX))⟩}
def go:((List aLetter)×(List aItem)×(List UInt8))->Tr Pt ((List Int))
 | (d,e,h)=>
  .b (pattern_read d e h) fun i=>
  .c (!i.2)
  (.r [])
  (.b (slices_Clone_aItem_aItem e) fun j=>
   .b (revItems j) fun l=>
   .b (revInts i.1) fun m=>
   .b (pattern_lengths d l m) fun k=>
   .r k)
def st:Pt->Tr Pt ((List Int)):=nofun
def pt:Pt->List Dir×St E:=nofun
theorem g:D.G st pt:=fun Z a=>by cases a <;> kernel_rfl
theorem g0:D.G0 go pt:=fun Z ⟨_,_,_⟩=>by kernel_rfl
abbrev con:Con Tryz.prog E:=FD.con Tryz.func171 (by kernel_rfl) g g0
end pattern_Suffixes
def pattern_Suffixes (d:List aLetter) (e:List aItem) (h:List UInt8):Option ((List Int)):=ev (pattern_Suffixes.go (d,e,h)) (fx pattern_Suffixes.st)
end Go.Ai.Mor
end

set_option maxRecDepth 100000
noncomputable section
namespace Go.Ai.Mor
open Go Go.Ai Go.Proofs
namespace rewrite_follows
inductive Pt
def D:FD pd := {f:=162,fn:=Tryz.f162,q:=21,ps:=[(.sl (.st .aLetter)),(.st .aRule),.str],rs:=[.bool],ex:=[none],cs:=[pattern_Matches.con,pattern_Suffixes.con]}
def go:((List aLetter)×aRule×(List UInt8))->Tr Pt (Bool)
 | (e,d,h)=>
  .c d.fInitial
  (.b (pattern_Matches e d.fLeft h) fun i=>
   .r i)
  (.b (pattern_Suffixes e d.fLeft h) fun j=>
   .r (decide (0<(j.length:Int))))
def st:Pt->Tr Pt (Bool):=nofun
def pt:Pt->List Dir×St E:=nofun
theorem g:D.G st pt:=fun Z a=>by cases a <;> kernel_rfl
theorem g0:D.G0 go pt:=fun Z ⟨_,_,_⟩=>by kernel_rfl
abbrev con:Con Tryz.prog E:=FD.con Tryz.func162 (by kernel_rfl) g g0
end rewrite_follows
def rewrite_follows (e:List aLetter) (d:aRule) (h:List UInt8):Option (Bool):=ev (rewrite_follows.go (e,d,h)) (fx rewrite_follows.st)
end Go.Ai.Mor
end

set_option maxRecDepth 100000
noncomputable section
namespace Go.Ai.Mor
open Go Go.Ai Go.Proofs
namespace pattern_Prefixes
inductive Pt
def D:FD pd := {f:=172,fn:=Tryz.f172,q:=22,ps:=[(.sl (.st .aLetter)),(.sl (.st .aItem)),.str],rs:=[(.sl (.int .i64))],ex:=[some 3],cs:=[pattern_read.con,pattern_lengths.con]}
def go:((List aLetter)×(List aItem)×(List UInt8))->Tr Pt ((List Int))
 | (d,e,h)=>
  .b (pattern_read d e h) fun i=>
  .c (!i.2)
  (.r [])
  (.b (pattern_lengths d e i.1) fun j=>
   .r j)
def st:Pt->Tr Pt ((List Int)):=nofun
def pt:Pt->List Dir×St E:=nofun
theorem g:D.G st pt:=fun Z a=>by cases a <;> kernel_rfl
theorem g0:D.G0 go pt:=fun Z ⟨_,_,_⟩=>by kernel_rfl
abbrev con:Con Tryz.prog E:=FD.con Tryz.func172 (by kernel_rfl) g g0
end pattern_Prefixes
def pattern_Prefixes (d:List aLetter) (e:List aItem) (h:List UInt8):Option ((List Int)):=ev (pattern_Prefixes.go (d,e,h)) (fx pattern_Prefixes.st)
end Go.Ai.Mor
end

set_option maxRecDepth 100000
noncomputable section
namespace Go.Ai.Mor
open Go Go.Ai Go.Proofs
namespace rewrite_precedes
inductive Pt
def D:FD pd := {f:=163,fn:=Tryz.f163,q:=21,ps:=[(.sl (.st .aLetter)),(.st .aRule),.str],rs:=[.bool],ex:=[none],cs:=[pattern_Matches.con,pattern_Prefixes.con]}
def go:((List aLetter)×aRule×(List UInt8))->Tr Pt (Bool)
 | (e,d,h)=>
  .c d.fFinal
  (.b (pattern_Matches e d.fRight h) fun i=>
   .r i)
  (.b (pattern_Prefixes e d.fRight h) fun j=>
   .r (decide (0<(j.length:Int))))
def st:Pt->Tr Pt (Bool):=nofun
def pt:Pt->List Dir×St E:=nofun
theorem g:D.G st pt:=fun Z a=>by cases a <;> kernel_rfl
theorem g0:D.G0 go pt:=fun Z ⟨_,_,_⟩=>by kernel_rfl
abbrev con:Con Tryz.prog E:=FD.con Tryz.func163 (by kernel_rfl) g g0
end rewrite_precedes
def rewrite_precedes (e:List aLetter) (d:aRule) (h:List UInt8):Option (Bool):=ev (rewrite_precedes.go (e,d,h)) (fx rewrite_precedes.st)
end Go.Ai.Mor
end

set_option maxRecDepth 100000
noncomputable section
namespace Go.Ai.Mor
open Go Go.Ai Go.Proofs
namespace rewrite_Sites
inductive Pt
 | c2 (i:List aLetter) (h:Int) (m:List Int) (d:aRule) (e:List UInt8) (o:Int)
 | c1 (i:List aLetter) (d:aRule) (e:List UInt8) (m:List Int) (h:Int)
def D:FD pd := {f:=146,fn:=Tryz.f146,q:=69,pl:=pls 20 [(8,kp [0,4,7,9] [(4,6)] [] [(8,.own (100008,0,3) (.int .i64))]),(15,kp [0,4,7,9,10] [(4,6)] [] [(8,.own (100008,0,3) (.int .i64))])],ps:=[(.sl (.st .aLetter)),(.st .aRule),.str],rs:=[(.sl (.int .i64))],ex:=[some 3],cs:=[rewrite_Valid.con,rewrite_letters_isWord.con,rewrite_follows.con,rewrite_precedes.con]}
def go:((List aLetter)×aRule×(List UInt8))->Tr Pt ((List Int))
 | (i,d,e)=>
  .b (rewrite_Valid i d) fun p=>
  .c (!p)
  (.r [])
  (.b (rewrite_letters_isWord i e) fun s=>
   .c (!s)
   (.r [])
   (.c (decide ((rns e).length<=lim))
    (.j (.c1 i d e ([]:(List Int)) 0)) .n))
def st:Pt->Tr Pt ((List Int))
 | .c2 i h m d e o=>
  .c (decide (0<=h)&&decide (h<=((rns e).length:Int)))
  (.b (rewrite_follows i d (utf ((rns e).take h.toNat))) fun t=>
   .c t
   (.c (decide (0<=o)&&decide (o<=((rns e).length:Int)))
    (.b (rewrite_precedes i d (utf ((rns e).drop o.toNat))) fun u=>
     .c u
     (.c (decide (m.length+([h]:List Int).length<=lim))
      (.j (.c1 i d e (m++[h]) (IntKind.i64.wrap (h+1)))) .n)
     (.j (.c1 i d e m (IntKind.i64.wrap (h+1))))) .n)
   (.j (.c1 i d e m (IntKind.i64.wrap (h+1))))) .n
 | .c1 i d e m h=>
  .c (decide (h<=((rns e).length:Int)))
  (.c (!decide (d.fFrom=0))
   (.c (decide (h=((rns e).length:Int)))
    (.j (.c1 i d e m (IntKind.i64.wrap (h+1))))
    (.c (decide (0<=h)&&decide (h<((rns e).length:Int)))
     (.c (!decide (((rns e).getD h.toNat default)=d.fFrom))
      (.j (.c1 i d e m (IntKind.i64.wrap (h+1))))
      (.j (.c2 i h m d e (IntKind.i64.wrap (h+1))))) .n))
   (.j (.c2 i h m d e h)))
  (.r m)
def pt:Pt->List Dir×St E
 | .c2 i h m d e o=>([.r,.k,.r,.r,.r,.r,.l,.r,.k,.L,.r,.l,.k,.r],ms 69 69 [(0,hL (.st .aLetter) i),(4,hP 4),(7,hL (.int .i32) (rns e)),(8,hT 100008 3 (.int .i64) m),(9,hI h),(10,hI o)] [(4,.cells [.tv (.int .i32 d.fFrom),cS d.fTo,cL (.st .aItem) d.fLeft,cL (.st .aItem) d.fRight,cB d.fInitial,cB d.fFinal])])
 | .c1 i d e m h=>([.r,.k,.r,.r,.r,.r,.l,.r,.k],ms 69 69 [(0,hL (.st .aLetter) i),(4,hP 4),(7,hL (.int .i32) (rns e)),(8,hT 100008 3 (.int .i64) m),(9,hI h)] [(4,.cells [.tv (.int .i32 d.fFrom),cS d.fTo,cL (.st .aItem) d.fLeft,cL (.st .aItem) d.fRight,cB d.fInitial,cB d.fFinal])])
theorem g:D.G st pt:=fun Z a=>by cases a <;> kernel_rfl
theorem g0:D.G0 go pt:=fun Z ⟨_,_,_⟩=>by kernel_rfl
abbrev con:Con Tryz.prog E:=FD.con Tryz.func146 (by kernel_rfl) g g0
end rewrite_Sites
def rewrite_Sites (i:List aLetter) (d:aRule) (e:List UInt8):Option ((List Int)):=ev (rewrite_Sites.go (i,d,e)) (fx rewrite_Sites.st)
end Go.Ai.Mor
end

set_option maxRecDepth 100000
noncomputable section
namespace Go.Ai.Mor
open Go Go.Ai Go.Proofs
namespace rewrite_Apply
inductive Pt
def D:FD pd := {f:=134,fn:=Tryz.f134,q:=30,ps:=[(.sl (.st .aLetter)),(.st .aRule),.str],rs:=[.str,(.int .i64)],ex:=[none,none],cs:=[rewrite_Valid.con,unicode_utf8_RuneCountInString.con,rewrite_letters_isWord.con,rewrite_result.con,rewrite_Sites.con]}
def go:((List aLetter)×aRule×(List UInt8))->Tr Pt ((List UInt8)×Int)
 | (d,e,h)=>
  .b (rewrite_Valid d e) fun j=>
  .c (!j)
  (.r ([],1))
  (.b (rewrite_letters_isWord d h) fun k=>
   .c (!k)
   (.r ([],1))
   (.b (rewrite_Sites d e h) fun l=>
    .b (rewrite_result e l h) fun i=>
    .b (unicode_utf8_RuneCountInString i) fun m=>
    .c (decide (40<m))
    (.r ([],2))
    (.r (i,0))))
def st:Pt->Tr Pt ((List UInt8)×Int):=nofun
def pt:Pt->List Dir×St E:=nofun
theorem g:D.G st pt:=fun Z a=>by cases a <;> kernel_rfl
theorem g0:D.G0 go pt:=fun Z ⟨_,_,_⟩=>by kernel_rfl
abbrev con:Con Tryz.prog E:=FD.con Tryz.func134 (by kernel_rfl) g g0
end rewrite_Apply
def rewrite_Apply (d:List aLetter) (e:aRule) (h:List UInt8):Option ((List UInt8)×Int):=ev (rewrite_Apply.go (d,e,h)) (fx rewrite_Apply.st)
end Go.Ai.Mor
end

set_option maxRecDepth 100000
noncomputable section
namespace Go.Ai.Mor
open Go Go.Ai Go.Proofs
namespace rewrite_Trace
inductive Pt
 | c3 (e:List aLetter) (d:List aRule) (i:List (List UInt8)) (o:Int)
 | c2 (e:List aLetter) (d:List aRule) (h:List UInt8)
 | c1 (e:List aLetter) (d:List aRule) (h:List UInt8) (m:Int)
def D:FD pd := {f:=103,fn:=Tryz.f103,q:=69,pl:=pls 26 [(5,kp [0,1,2,29,30,31]),(12,kp [0,1,2]),(15,kp [0,42,43,44] [] [] [(10,.own (100010,0,9) .str)])],ps:=[(.sl (.st .aLetter)),(.sl (.st .aRule)),.str],rs:=[(.sl .str),(.int .i64)],ex:=[some 9,none],cs:=[rewrite_Valid.con,rewrite_letters_admissible.con,rewrite_letters_isWord.con,rewrite_Apply.con]}
def go:((List aLetter)×(List aRule)×(List UInt8))->Tr Pt ((List (List UInt8))×Int)
 | (e,d,h)=>
  .c (decide (64<(d.length:Int)))
  (.r ([],1))
  (.b (rewrite_letters_admissible e) fun s=>
   .c (!s)
   (.r ([],1))
   (.b (rewrite_letters_isWord e h) fun t=>
    .c (!t)
    (.r ([],1))
    (.j (.c1 e d h 0))))
def st:Pt->Tr Pt ((List (List UInt8))×Int)
 | .c3 e d i o=>
  .c (decide (o<(d.length:Int)))
  (.c (decide (0<=o)&&decide (o<(d.length:Int)))
   (.c (decide (0<=IntKind.i64.wrap ((i.length:Int) - 1))&&decide (IntKind.i64.wrap ((i.length:Int) - 1)<(i.length:Int)))
    (.b (rewrite_Apply e (d.getD o.toNat default) (i.getD (IntKind.i64.wrap ((i.length:Int) - 1)).toNat default)) fun p=>
     .c (!decide (p.2=0))
     (.r ([],p.2))
     (.c (decide (i.length+([p.1]:List (List UInt8)).length<=lim))
      (.j (.c3 e d (i++[p.1]) (IntKind.i64.wrap (o+1)))) .n)) .n) .n)
  (.r (i,0))
 | .c2 e d h=>
  .j (.c3 e d [h] 0)
 | .c1 e d h m=>
  .c (decide (m<(d.length:Int)))
  (.c (decide (0<=m)&&decide (m<(d.length:Int)))
   (.b (rewrite_Valid e (d.getD m.toNat default)) fun u=>
    .c (!u)
    (.r ([],1))
    (.j (.c1 e d h (IntKind.i64.wrap (m+1))))) .n)
  (.j (.c2 e d h))
def pt:Pt->List Dir×St E
 | .c3 e d i o=>([.r,.r,.r,.r,.l,.r,.k],ms 69 69 [(0,hL (.st .aLetter) e),(10,hT 100010 9 .str i),(42,hL (.st .aRule) d),(43,hI (d.length:Int)),(44,hI o)])
 | .c2 e d h=>([.r,.r],ms 69 69 [(0,hL (.st .aLetter) e),(1,hL (.st .aRule) d),(2,hS h)])
 | .c1 e d h m=>([.r,.r,.l,.r,.k],ms 69 69 [(0,hL (.st .aLetter) e),(1,hL (.st .aRule) d),(2,hS h),(29,hL (.st .aRule) d),(30,hI (d.length:Int)),(31,hI m)])
theorem g:D.G st pt:=fun Z a=>by cases a <;> kernel_rfl
theorem g0:D.G0 go pt:=fun Z ⟨_,_,_⟩=>by kernel_rfl
abbrev con:Con Tryz.prog E:=FD.con Tryz.func103 (by kernel_rfl) g g0
end rewrite_Trace
def rewrite_Trace (e:List aLetter) (d:List aRule) (h:List UInt8):Option ((List (List UInt8))×Int):=ev (rewrite_Trace.go (e,d,h)) (fx rewrite_Trace.st)
end Go.Ai.Mor
end

set_option maxRecDepth 100000
noncomputable section
namespace Go.Ai.Mor
open Go Go.Ai Go.Proofs
namespace rewrite_Cascade
inductive Pt
def D:FD pd := {f:=69,fn:=Tryz.f69,q:=26,ps:=[(.sl (.st .aLetter)),(.sl (.st .aRule)),.str],rs:=[.str,(.int .i64)],ex:=[none,none],cs:=[rewrite_Trace.con]}
def go:((List aLetter)×(List aRule)×(List UInt8))->Tr Pt ((List UInt8)×Int)
 | (e,h,i)=>
  .b (rewrite_Trace e h i) fun d=>
  .c (!decide (d.2=0))
  (.r ([],d.2))
  (.c (decide (0<=IntKind.i64.wrap ((d.1.length:Int) - 1))&&decide (IntKind.i64.wrap ((d.1.length:Int) - 1)<(d.1.length:Int)))
   (.r (d.1.getD (IntKind.i64.wrap ((d.1.length:Int) - 1)).toNat default,0)) .n)
def st:Pt->Tr Pt ((List UInt8)×Int):=nofun
def pt:Pt->List Dir×St E:=nofun
theorem g:D.G st pt:=fun Z a=>by cases a <;> kernel_rfl
theorem g0:D.G0 go pt:=fun Z ⟨_,_,_⟩=>by kernel_rfl
abbrev con:Con Tryz.prog E:=FD.con Tryz.func69 (by kernel_rfl) g g0
end rewrite_Cascade
def rewrite_Cascade (e:List aLetter) (h:List aRule) (i:List UInt8):Option ((List UInt8)×Int):=ev (rewrite_Cascade.go (e,h,i)) (fx rewrite_Cascade.st)
end Go.Ai.Mor
end

set_option maxRecDepth 100000
noncomputable section
namespace Go.Ai.Mor
open Go Go.Ai Go.Proofs
namespace morphology_words_form
inductive Pt
 | c1 (d:morphology_words) (h:List UInt8)
def D:FD pd := {f:=45,fn:=Tryz.f45,q:=54,pl:=pls 11 [(8,kp [3,8] [(3,4)])],ps:=[(.st .morphology_words),(.st .aLexeme),(.sl (.st .aFeature))],rs:=[.str,.bool],ex:=[none,none],cs:=[morphology_words_paradigm.con,paradigm_Underlying.con,rewrite_Cascade.con]}
def go:(morphology_words×aLexeme×(List aFeature))->Tr Pt ((List UInt8)×Bool)
 | (d,e,i)=>
  .c (!decide (e.fParadigm=[]))
  (.b (morphology_words_paradigm d e.fParadigm) fun m=>
   .b (paradigm_Underlying m.1 e.fStem e.fFeatures i) fun k=>
   .c (!decide (k.2=0))
   (.r ([],false))
   (.j (.c1 d k.1)))
  (.j (.c1 d e.fStem))
def st:Pt->Tr Pt ((List UInt8)×Bool)
 | .c1 d h=>
  .b (rewrite_Cascade d.fWords.fAlphabet d.fWords.fRules h) fun l=>
  .r (l.1,decide (l.2=0))
def pt:Pt->List Dir×St E
 | .c1 d h=>([.r,.r],ms 54 54 [(3,hP 3),(8,hS h)] [(3,.cells [cL (.st .aLetter) d.fWords.fAlphabet,cL (.st .aRule) d.fWords.fRules,cL (.st .aParadigm) d.fWords.fParadigms,cL (.st .aLexeme) d.fWords.fLexemes])])
theorem g:D.G st pt:=fun Z a=>by cases a <;> kernel_rfl
theorem g0:D.G0 go pt:=fun Z ⟨_,_,_⟩=>by kernel_rfl
abbrev con:Con Tryz.prog E:=FD.con Tryz.func45 (by kernel_rfl) g g0
end morphology_words_form
def morphology_words_form (d:morphology_words) (e:aLexeme) (i:List aFeature):Option ((List UInt8)×Bool):=ev (morphology_words_form.go (d,e,i)) (fx morphology_words_form.st)
end Go.Ai.Mor
end

set_option maxRecDepth 100000
noncomputable section
namespace Go.Ai.Mor
open Go Go.Ai Go.Proofs
namespace morphology_words_cells_1
inductive Pt
 | c1 (d:aParadigm×Bool) (e h:Int)
def D:FI pd := {f:=65,fn:=Tryz.f65,q:=37,pl:=pls 12 [(5,kp [0,4,22,23] [(4,3)])],ts:=[(.sl (.st .aFeature))],cts:=[.str,.str,.str,.str,(.sl (.st .aFeature)),(.sl (.st .aLetter)),(.sl (.st .aRule)),(.sl (.st .aParadigm)),(.sl (.st .aLexeme))],shape:=[5,4],cs:=[morphology_words_paradigm.con,paradigm_Count.con,paradigm_Cell.con]}
def go:((List UInt8)×(List UInt8)×(List UInt8)×(List UInt8)×(List aFeature)×(List aLetter)×(List aRule)×(List aParadigm)×(List aLexeme))->Tr Pt (List ((List aFeature)))
 | (s,t,u,i,v,l,n,o,p)=>
  .c (decide (i=[]))
  (.m (gEmit ([]:(List aFeature)))
   (.r [])
   (.r []))
  (.b (morphology_words_paradigm (morphology_words.mk (aWords.mk l n o p)) i) fun d=>
   .b (paradigm_Count d.1) fun e=>
   .j (.c1 d e 0))
def st:Pt->Tr Pt (List ((List aFeature)))
 | .c1 d e h=>
  .c (decide (h<e))
  (.b (paradigm_Cell d.1 h) fun w=>
   .m (gEmit w.1)
   (.j (.c1 d e (IntKind.i64.wrap (h+1))))
   (.r []))
  (.r [])
def pt (fv:Nat->Value):Pt->List Dir×St (E.withFv fv)
 | .c1 d e h=>([.r,.r,.r,.k],ms 37 37 [(0,.one (.tv (.spec 0))),(4,hP 4),(22,hI e),(23,hI h)] [(4,.cells [cS d.1.fName,cL (.st .aDimension) d.1.fDimensions,cL (.sl (.st .aAffix)) d.1.fSlots])])
theorem g:D.G st pt:=fun fv Z a=>by cases a <;> kernel_rfl
theorem g0:D.G0 go pt:=fun fv Z ⟨_,_,_,_,_,_,_,_,_⟩=>by kernel_rfl
abbrev con:ItCon Tryz.prog E:=FI.con Tryz.func65 (by kernel_rfl) g g0
end morphology_words_cells_1
def morphology_words_cells_1 (s t u i:List UInt8) (v:List aFeature) (l:List aLetter) (n:List aRule) (o:List aParadigm) (p:List aLexeme):Option (List ((List aFeature))):=ev (morphology_words_cells_1.go (s,t,u,i,v,l,n,o,p)) (fx morphology_words_cells_1.st)
end Go.Ai.Mor
end

set_option maxRecDepth 100000
noncomputable section
namespace Go.Ai.Mor
open Go Go.Ai Go.Proofs
namespace morphology_All_1
inductive Pt
 | c3 (h:List aLetter) (i:List aRule) (o:List aParadigm) (d:List aLexeme) (e:Int) (p:List ((List aFeature))) (t:Bool)
 | c2 (h:List aLetter) (i:List aRule) (o:List aParadigm) (d:List aLexeme) (e:Int) (s:List ((List aFeature)))
 | c1 (h:List aLetter) (i:List aRule) (o:List aParadigm) (d:List aLexeme) (e:Int)
def D:FI pd := {f:=43,fn:=Tryz.f43,q:=45,pl:=pls 11 [(2,kp [1,2,10,11,12] [(2,1)] [] [] [] true),(7,kp [1,2,4,10,11,12] [(2,1),(4,5)]),(9,kp [37] [(2,1),(4,5)] [1,2,4,10,11,12])],ts:=[.str,(.st .aAnalysis)],cts:=[(.sl (.st .aLetter)),(.sl (.st .aRule)),(.sl (.st .aParadigm)),(.sl (.st .aLexeme))],shape:=[4],dp:=2,cs:=[morphology_words_form.con],is:=[morphology_words_cells_1.con],il:=[inl 0 18 44 39 Tryz.f44 [] Tryz.func44 (by kernel_rfl)]}
def go:((List aLetter)×(List aRule)×(List aParadigm)×(List aLexeme))->Tr Pt (List ((List UInt8)×aAnalysis))
 | (h,i,o,d)=>
  .j (.c1 h i o d 0)
def st:Pt->Tr Pt (List ((List UInt8)×aAnalysis))
 | .c3 h i o d e p t=>
  .c t
  (.r [])
  (.j (.c2 h i o d e p))
 | .c2 h i o d e s=>
  .l s
  (.j (.c1 h i o d (IntKind.i64.wrap (e+1)))) fun v p=>
   .b (morphology_words_form (morphology_words.mk (aWords.mk h i o d)) (d.getD e.toNat default) v) fun u=>
   .c u.2
   (.m (gEmit (u.1,aAnalysis.mk ((d.getD e.toNat default).fID) v))
    (.j (.c3 h i o d e p false))
    (.j (.c3 h i o d e p true)))
   (.j (.c3 h i o d e p false))
 | .c1 h i o d e=>
  .c (decide (e<(d.length:Int)))
  (.c (decide (0<=e)&&decide (e<(d.length:Int)))
   (.b (morphology_words_cells_1 ((d.getD e.toNat default).fID) ((d.getD e.toNat default).fCategory) ((d.getD e.toNat default).fStem) ((d.getD e.toNat default).fParadigm) ((d.getD e.toNat default).fFeatures) h i o d) fun w=>
    .j (.c2 h i o d e w)) .n)
  (.r [])
def pt (fv:Nat->Value):Pt->List Dir×St (E.withFv fv)
 | .c3 h i o d e p t=>([.r,.r,.k,.L,.r,.r,.l,.k,.r,.r,.k,.L,.k,.r],ms 39 45 [(37,hB t)] [(2,.cells [.tv (.spec 0)]),(4,.cells [cS ((d.getD e.toNat default).fID),cS ((d.getD e.toNat default).fCategory),cS ((d.getD e.toNat default).fStem),cS ((d.getD e.toNat default).fParadigm),cL (.st .aFeature) ((d.getD e.toNat default).fFeatures)])] 39 [(1,hF [.sl (.st .aLetter) h,.sl (.st .aRule) i,.sl (.st .aParadigm) o,.sl (.st .aLexeme) d]),(2,hP 2),(4,hP 4),(10,hL (.st .aLexeme) d),(11,hI (d.length:Int)),(12,hI e)] [⟨[(.sl (.st .aFeature))],p⟩])
 | .c2 h i o d e s=>([.r,.r,.k,.L,.r,.r,.l,.k,.r,.r,.k],ms 39 45 [(1,hF [.sl (.st .aLetter) h,.sl (.st .aRule) i,.sl (.st .aParadigm) o,.sl (.st .aLexeme) d]),(2,hP 2),(4,hP 4),(10,hL (.st .aLexeme) d),(11,hI (d.length:Int)),(12,hI e)] [(2,.cells [.tv (.spec 0)]),(4,.cells [cS ((d.getD e.toNat default).fID),cS ((d.getD e.toNat default).fCategory),cS ((d.getD e.toNat default).fStem),cS ((d.getD e.toNat default).fParadigm),cL (.st .aFeature) ((d.getD e.toNat default).fFeatures)])] 0 [] [⟨[(.sl (.st .aFeature))],s⟩] true)
 | .c1 h i o d e=>([.r,.r,.k],ms 39 45 [(1,hF [.sl (.st .aLetter) h,.sl (.st .aRule) i,.sl (.st .aParadigm) o,.sl (.st .aLexeme) d]),(2,hP 2),(10,hL (.st .aLexeme) d),(11,hI (d.length:Int)),(12,hI e)] [(2,.cells [.tv (.spec 0)])] 0 [] [] true)
theorem g:D.G st pt:=fun fv Z a=>by cases a <;> kernel_rfl
theorem g0:D.G0 go pt:=fun fv Z ⟨_,_,_,_⟩=>by kernel_rfl
abbrev con:ItCon Tryz.prog E:=FI.con Tryz.func43 (by kernel_rfl) g g0
end morphology_All_1
def morphology_All_1 (h:List aLetter) (i:List aRule) (o:List aParadigm) (d:List aLexeme):Option (List ((List UInt8)×aAnalysis)):=ev (morphology_All_1.go (h,i,o,d)) (fx morphology_All_1.st)
end Go.Ai.Mor
end

set_option maxRecDepth 100000
noncomputable section
namespace Go.Ai.Mor
open Go Go.Ai Go.Proofs
namespace morphology_Analyses
inductive Pt
 | c1 (d:List UInt8) (i:List ((List UInt8)×aAnalysis)) (e:List aAnalysis)
def D:FD pd := {f:=17,fn:=Tryz.f17,q:=36,pl:=pls 15 [(6,kp [3,4,5,6] [(3,1),(4,1),(5,1)] [] [] [] false [(6,[.own (300006,1,46) (.st .aAnalysis)])])],ps:=[(.st .aWords),.str],rs:=[(.sl (.st .aAnalysis)),(.int .i64)],ex:=[some 46,none],dp:=2,cs:=[alphabet_IsWord.con],is:=[morphology_All_1.con],il:=[inl 0 15 22 29 Tryz.f22 [] Tryz.func22 (by kernel_rfl)]}
def go:(aWords×(List UInt8))->Tr Pt ((List aAnalysis)×Int)
 | (h,d)=>
  .b (alphabet_IsWord h.fAlphabet d) fun p=>
  .c (!p)
  (.r ([],1))
  (.b (morphology_All_1 h.fAlphabet h.fRules h.fParadigms h.fLexemes) fun s=>
   .j (.c1 d s ([]:(List aAnalysis))))
def st:Pt->Tr Pt ((List aAnalysis)×Int)
 | .c1 d i e=>
  .l i
  (.r (e,0)) fun m o=>
   .c (!decide (m.1=d))
   (.j (.c1 d o e))
   (.c (decide ((e.length:Int)=256))
    (.r ([],2))
    (.c (decide (e.length+([m.2]:List aAnalysis).length<=lim))
     (.j (.c1 d o (e++[m.2]))) .n))
def pt:Pt->List Dir×St E
 | .c1 d i e=>([.r,.r,.r,.l,.r,.k],ms 29 36 [(3,hP 3),(4,hP 4),(5,hP 5),(6,hP 6)] [(3,.cells [cS d]),(4,.cells [.tv (.val nilS)]),(5,.cells [cI 0]),(6,.cells [.tok (300006,1,46) (.st .aAnalysis) e])] 0 [] [⟨[.str,(.st .aAnalysis)],i⟩] true)
theorem g:D.G st pt:=fun Z a=>by cases a <;> kernel_rfl
theorem g0:D.G0 go pt:=fun Z ⟨_,_⟩=>by kernel_rfl
abbrev con:Con Tryz.prog E:=FD.con Tryz.func17 (by kernel_rfl) g g0
end morphology_Analyses
def morphology_Analyses (h:aWords) (d:List UInt8):Option ((List aAnalysis)×Int):=ev (morphology_Analyses.go (h,d)) (fx morphology_Analyses.st)
end Go.Ai.Mor
end

set_option maxRecDepth 100000
noncomputable section
namespace Go.Ai.Mor
open Go Go.Ai Go.Proofs
namespace morphology_Ambiguity
inductive Pt
def D:FD pd := {f:=20,fn:=Tryz.f20,q:=17,ps:=[(.st .aWords),.str],rs:=[(.int .i64),(.int .i64)],ex:=[none,none],cs:=[morphology_Analyses.con]}
def go:(aWords×(List UInt8))->Tr Pt (Int×Int)
 | (c,d)=>
  .b (morphology_Analyses c d) fun e=>
  .r ((e.1.length:Int),e.2)
def st:Pt->Tr Pt (Int×Int):=nofun
def pt:Pt->List Dir×St E:=nofun
theorem g:D.G st pt:=fun Z a=>by cases a <;> kernel_rfl
theorem g0:D.G0 go pt:=fun Z ⟨_,_⟩=>by kernel_rfl
abbrev con:Con Tryz.prog E:=FD.con Tryz.func20 (by kernel_rfl) g g0
end morphology_Ambiguity
def morphology_Ambiguity (c:aWords) (d:List UInt8):Option (Int×Int):=ev (morphology_Ambiguity.go (c,d)) (fx morphology_Ambiguity.st)
end Go.Ai.Mor
end

set_option maxRecDepth 100000
noncomputable section
namespace Go.Ai.Mor
open Go Go.Ai Go.Proofs
namespace lexicon_Index
inductive Pt
 | c1 (d:List UInt8) (b:List aLexeme) (e:Int)
def D:FD pd := {f:=70,fn:=Tryz.f70,q:=35,ps:=[(.sl (.st .aLexeme)),.str],rs:=[(.int .i64)],ex:=[none],dp:=3,il:=[inl 0 7 104 8 Tryz.f104 (pls 11 [(2,kp [0,1,7,8] [(3,1)])]) Tryz.func104 (by kernel_rfl),inl 8 16 105 27 Tryz.f105 [] Tryz.func105 (by kernel_rfl)]}
def go:((List aLexeme)×(List UInt8))->Tr Pt (Int)
 | (b,d)=>
  .j (.c1 d b 0)
def st:Pt->Tr Pt (Int)
 | .c1 d b e=>
  .c (decide (e<(b.length:Int)))
  (.c (decide (0<=e)&&decide (e<(b.length:Int)))
   (.c (decide (((b.getD e.toNat default).fID)=d))
    (.r e)
    (.j (.c1 d b (IntKind.i64.wrap (e+1))))) .n)
  (.r (-1))
def pt:Pt->List Dir×St E
 | .c1 d b e=>([.r,.l,.c 2 104 8 0 false,.r,.l,.r,.k],ms 19 35 [(0,hL (.st .aLexeme) b),(1,.one (.fn (.func 105) [] [.ptr 3 0])),(7,hI (b.length:Int)),(8,hI e)] [(3,.cells [cS d])] 8 [] [] false 8)
theorem g:D.G st pt:=fun Z a=>by cases a <;> kernel_rfl
theorem g0:D.G0 go pt:=fun Z ⟨_,_⟩=>by kernel_rfl
abbrev con:Con Tryz.prog E:=FD.con Tryz.func70 (by kernel_rfl) g g0
end lexicon_Index
def lexicon_Index (b:List aLexeme) (d:List UInt8):Option (Int):=ev (lexicon_Index.go (b,d)) (fx lexicon_Index.st)
end Go.Ai.Mor
end

set_option maxRecDepth 100000
noncomputable section
namespace Go.Ai.Mor
open Go Go.Ai Go.Proofs
namespace slices_Clip_aFeature_aFeature
inductive Pt
def D:FD pd := {f:=106,fn:=Tryz.f106,q:=9,ps:=[(.sl (.st .aFeature))],rs:=[(.sl (.st .aFeature))],ex:=[none]}
def go:((List aFeature))->Tr Pt ((List aFeature))
 | b=>
  .c (decide (0<=(b.length:Int))&&(decide ((b.length:Int)<=(b.length:Int))&&decide ((b.length:Int)=(b.length:Int))))
  (.r (b.take (b.length:Int).toNat)) .n
def st:Pt->Tr Pt ((List aFeature)):=nofun
def pt:Pt->List Dir×St E:=nofun
theorem g:D.G st pt:=fun Z a=>by cases a <;> kernel_rfl
theorem g0:D.G0 go pt:=fun Z _=>by kernel_rfl
abbrev con:Con Tryz.prog E:=FD.con Tryz.func106 (by kernel_rfl) g g0
end slices_Clip_aFeature_aFeature
def slices_Clip_aFeature_aFeature (b:List aFeature):Option ((List aFeature)):=ev (slices_Clip_aFeature_aFeature.go b) (fx slices_Clip_aFeature_aFeature.st)
end Go.Ai.Mor
end

set_option maxRecDepth 100000
noncomputable section
namespace Go.Ai.Mor
open Go Go.Ai Go.Proofs
namespace lexicon_copied
inductive Pt
def D:FD pd := {f:=71,fn:=Tryz.f71,q:=9,ps:=[(.st .aLexeme)],rs:=[(.st .aLexeme)],ex:=[none],cs:=[slices_Clip_aFeature_aFeature.con,slices_Clone_aFeature_aFeature.con]}
def go:(aLexeme)->Tr Pt (aLexeme)
 | c=>
  .b (slices_Clone_aFeature_aFeature c.fFeatures) fun d=>
  .b (slices_Clip_aFeature_aFeature d) fun e=>
  .r (aLexeme.mk c.fID c.fCategory c.fStem c.fParadigm e)
def st:Pt->Tr Pt (aLexeme):=nofun
def pt:Pt->List Dir×St E:=nofun
theorem g:D.G st pt:=fun Z a=>by cases a <;> kernel_rfl
theorem g0:D.G0 go pt:=fun Z _=>by kernel_rfl
abbrev con:Con Tryz.prog E:=FD.con Tryz.func71 (by kernel_rfl) g g0
end lexicon_copied
def lexicon_copied (c:aLexeme):Option (aLexeme):=ev (lexicon_copied.go c) (fx lexicon_copied.st)
end Go.Ai.Mor
end

set_option maxRecDepth 100000
noncomputable section
namespace Go.Ai.Mor
open Go Go.Ai Go.Proofs
namespace lexicon_Find
inductive Pt
def D:FD pd := {f:=46,fn:=Tryz.f46,q:=18,ps:=[(.sl (.st .aLexeme)),.str],rs:=[(.st .aLexeme),.bool],ex:=[none,none],cs:=[lexicon_Index.con,lexicon_copied.con]}
def go:((List aLexeme)×(List UInt8))->Tr Pt (aLexeme×Bool)
 | (d,h)=>
  .b (lexicon_Index d h) fun e=>
  .c (decide (0<=e))
  (.c (decide (0<=e)&&decide (e<(d.length:Int)))
   (.b (lexicon_copied (d.getD e.toNat default)) fun i=>
    .r (i,true)) .n)
  (.r (aLexeme.mk [] [] [] [] [],false))
def st:Pt->Tr Pt (aLexeme×Bool):=nofun
def pt:Pt->List Dir×St E:=nofun
theorem g:D.G st pt:=fun Z a=>by cases a <;> kernel_rfl
theorem g0:D.G0 go pt:=fun Z ⟨_,_⟩=>by kernel_rfl
abbrev con:Con Tryz.prog E:=FD.con Tryz.func46 (by kernel_rfl) g g0
end lexicon_Find
def lexicon_Find (d:List aLexeme) (h:List UInt8):Option (aLexeme×Bool):=ev (lexicon_Find.go (d,h)) (fx lexicon_Find.st)
end Go.Ai.Mor
end

set_option maxRecDepth 100000
noncomputable section
namespace Go.Ai.Mor
open Go Go.Ai Go.Proofs
namespace morphology_Forms
inductive Pt
 | c1 (d:aLexeme×Bool) (e:aWords) (i:List ((List aFeature))) (h:List (List UInt8))
def D:FD pd := {f:=25,fn:=Tryz.f25,q:=49,pl:=pls 15 [(8,kp [4,5,6,7,9] [(4,1),(5,1),(6,4),(7,5)] [] [] [] false [(9,[.own (300009,1,9) .str])])],ps:=[(.st .aWords),.str],rs:=[(.sl .str),(.int .i64)],ex:=[some 9,none],dp:=2,cs:=[morphology_words_form.con,lexicon_Find.con],is:=[morphology_words_cells_1.con],il:=[inl 0 27 44 43 Tryz.f44 [] Tryz.func44 (by kernel_rfl)]}
def go:(aWords×(List UInt8))->Tr Pt ((List (List UInt8))×Int)
 | (e,m)=>
  .b (lexicon_Find e.fLexemes m) fun d=>
  .c (!d.2)
  (.r ([],4))
  (.b (morphology_words_cells_1 d.1.fID d.1.fCategory d.1.fStem d.1.fParadigm d.1.fFeatures e.fAlphabet e.fRules e.fParadigms e.fLexemes) fun p=>
   .j (.c1 d e p ([]:(List (List UInt8)))))
def st:Pt->Tr Pt ((List (List UInt8))×Int)
 | .c1 d e i h=>
  .l i
  (.r (h,0)) fun s t=>
   .b (morphology_words_form (morphology_words.mk e) d.1 s) fun o=>
   .c (!o.2)
   (.r ([],2))
   (.c (decide (h.length+([o.1]:List (List UInt8)).length<=lim))
    (.j (.c1 d e t (h++[o.1]))) .n)
def pt:Pt->List Dir×St E
 | .c1 d e i h=>([.r,.r,.r,.r,.r,.l,.r,.k],ms 43 49 [(4,hP 4),(5,hP 5),(6,hP 6),(7,hP 7),(9,hP 9)] [(4,.cells [.tv (.val nilS)]),(5,.cells [cI 0]),(6,.cells [cL (.st .aLetter) e.fAlphabet,cL (.st .aRule) e.fRules,cL (.st .aParadigm) e.fParadigms,cL (.st .aLexeme) e.fLexemes]),(7,.cells [cS d.1.fID,cS d.1.fCategory,cS d.1.fStem,cS d.1.fParadigm,cL (.st .aFeature) d.1.fFeatures]),(9,.cells [.tok (300009,1,9) .str h])] 0 [] [⟨[(.sl (.st .aFeature))],i⟩] true)
theorem g:D.G st pt:=fun Z a=>by cases a <;> kernel_rfl
theorem g0:D.G0 go pt:=fun Z ⟨_,_⟩=>by kernel_rfl
abbrev con:Con Tryz.prog E:=FD.con Tryz.func25 (by kernel_rfl) g g0
end morphology_Forms
def morphology_Forms (e:aWords) (m:List UInt8):Option ((List (List UInt8))×Int):=ev (morphology_Forms.go (e,m)) (fx morphology_Forms.st)
end Go.Ai.Mor
end

set_option maxRecDepth 100000
noncomputable section
namespace Go.Ai.Mor
open Go Go.Ai Go.Proofs
namespace morphology_Surface
inductive Pt
 | c1 (h:List aFeature) (d:aLexeme×Bool) (e:aWords) (i:Bool)
def D:FD pd := {f:=26,fn:=Tryz.f26,q:=56,pl:=pls 18 [(9,kp [2,8,9,11] [(8,4),(9,5)])],ps:=[(.st .aWords),.str,(.sl (.st .aFeature))],rs:=[.str,(.int .i64)],ex:=[none,none],cs:=[morphology_words_paradigm.con,morphology_words_form.con,lexicon_Find.con,paradigm_Number.con]}
def go:(aWords×(List UInt8)×(List aFeature))->Tr Pt ((List UInt8)×Int)
 | (e,k,h)=>
  .b (lexicon_Find e.fLexemes k) fun d=>
  .c (!d.2)
  (.r ([],4))
  (.c (!decide (d.1.fParadigm=[]))
   (.b (morphology_words_paradigm (morphology_words.mk e) d.1.fParadigm) fun m=>
    .b (paradigm_Number m.1 h) fun n=>
    .j (.c1 h d e (decide (0<=n))))
   (.j (.c1 h d e (decide ((h.length:Int)=0)))))
def st:Pt->Tr Pt ((List UInt8)×Int)
 | .c1 h d e i=>
  .c (!i)
  (.r ([],1))
  (.b (morphology_words_form (morphology_words.mk e) d.1 h) fun l=>
   .c (!l.2)
   (.r ([],2))
   (.r (l.1,0)))
def pt:Pt->List Dir×St E
 | .c1 h d e i=>([.r,.r,.r,.r,.r],ms 56 56 [(2,hL (.st .aFeature) h),(8,hP 8),(9,hP 9),(11,hB i)] [(8,.cells [cL (.st .aLetter) e.fAlphabet,cL (.st .aRule) e.fRules,cL (.st .aParadigm) e.fParadigms,cL (.st .aLexeme) e.fLexemes]),(9,.cells [cS d.1.fID,cS d.1.fCategory,cS d.1.fStem,cS d.1.fParadigm,cL (.st .aFeature) d.1.fFeatures])])
theorem g:D.G st pt:=fun Z a=>by cases a <;> kernel_rfl
theorem g0:D.G0 go pt:=fun Z ⟨_,_,_⟩=>by kernel_rfl
abbrev con:Con Tryz.prog E:=FD.con Tryz.func26 (by kernel_rfl) g g0
end morphology_Surface
def morphology_Surface (e:aWords) (k:List UInt8) (h:List aFeature):Option ((List UInt8)×Int):=ev (morphology_Surface.go (e,k,h)) (fx morphology_Surface.st)
end Go.Ai.Mor
end

set_option maxRecDepth 100000
noncomputable section
namespace Go.Ai.Mor
open Go Go.Ai Go.Proofs
namespace r03_Texts
inductive Pt
 | c1 (b d:List (List UInt8)) (e:Int)
def D:FD pd := {f:=31,fn:=Tryz.f31,q:=26,pl:=pls 13 [(5,kp [0,1,5])],ps:=[(.sl .str),(.sl .str)],rs:=[.bool],ex:=[none]}
def go:((List (List UInt8))×(List (List UInt8)))->Tr Pt (Bool)
 | (b,d)=>
  .c (!decide ((b.length:Int)=(d.length:Int)))
  (.r false)
  (.j (.c1 b d 0))
def st:Pt->Tr Pt (Bool)
 | .c1 b d e=>
  .c (decide (e<(b.length:Int)))
  (.c (decide (0<=e)&&decide (e<(b.length:Int)))
   (.c (decide (0<=e)&&decide (e<(d.length:Int)))
    (.c (!decide ((b.getD e.toNat default)=(d.getD e.toNat default)))
     (.r false)
     (.j (.c1 b d (IntKind.i64.wrap (e+1))))) .n) .n)
  (.r true)
def pt:Pt->List Dir×St E
 | .c1 b d e=>([.r,.r,.l,.r,.k],ms 26 26 [(0,hL .str b),(1,hL .str d),(5,hI e)])
theorem g:D.G st pt:=fun Z a=>by cases a <;> kernel_rfl
theorem g0:D.G0 go pt:=fun Z ⟨_,_⟩=>by kernel_rfl
abbrev con:Con Tryz.prog E:=FD.con Tryz.func31 (by kernel_rfl) g g0
end r03_Texts
def r03_Texts (b d:List (List UInt8)):Option (Bool):=ev (r03_Texts.go (b,d)) (fx r03_Texts.st)
end Go.Ai.Mor
end

set_option maxRecDepth 100000
noncomputable section
namespace Go.Ai.Mor
open Go Go.Ai Go.Proofs
namespace r11_Same
inductive Pt
 | c1 (e h:List aAnalysis) (d:Int)
def D:FD pd := {f:=19,fn:=Tryz.f19,q:=42,pl:=pls 13 [(5,kp [0,1,5])],ps:=[(.sl (.st .aAnalysis)),(.sl (.st .aAnalysis))],rs:=[.bool],ex:=[none],cs:=[r02_Same.con]}
def go:((List aAnalysis)×(List aAnalysis))->Tr Pt (Bool)
 | (e,h)=>
  .c (!decide ((e.length:Int)=(h.length:Int)))
  (.r false)
  (.j (.c1 e h 0))
def st:Pt->Tr Pt (Bool)
 | .c1 e h d=>
  .c (decide (d<(e.length:Int)))
  (.c (decide (0<=d)&&decide (d<(e.length:Int)))
   (.c (decide (0<=d)&&decide (d<(h.length:Int)))
    (.c (!decide (((e.getD d.toNat default).fLexeme)=((h.getD d.toNat default).fLexeme)))
     (.r false)
     (.c (decide (0<=d)&&decide (d<(e.length:Int)))
      (.c (decide (0<=d)&&decide (d<(h.length:Int)))
       (.b (r02_Same ((e.getD d.toNat default).fCell) ((h.getD d.toNat default).fCell)) fun i=>
        .c (!i)
        (.r false)
        (.j (.c1 e h (IntKind.i64.wrap (d+1))))) .n) .n)) .n) .n)
  (.r true)
def pt:Pt->List Dir×St E
 | .c1 e h d=>([.r,.r,.l,.r,.k],ms 42 42 [(0,hL (.st .aAnalysis) e),(1,hL (.st .aAnalysis) h),(5,hI d)])
theorem g:D.G st pt:=fun Z a=>by cases a <;> kernel_rfl
theorem g0:D.G0 go pt:=fun Z ⟨_,_⟩=>by kernel_rfl
abbrev con:Con Tryz.prog E:=FD.con Tryz.func19 (by kernel_rfl) g g0
end r11_Same
def r11_Same (e h:List aAnalysis):Option (Bool):=ev (r11_Same.go (e,h)) (fx r11_Same.st)
end Go.Ai.Mor
end

set_option maxRecDepth 100000
noncomputable section
namespace Go.Ai.Mor
open Go Go.Ai Go.Proofs
namespace l11_small
inductive Pt
 | c5 (e d:Int) (b:aWords)
 | c4 (e d:Int) (b:aWords) (i:Int)
 | c3 (d:Int) (b:aWords) (e:Int)
 | c2 (d:Int) (b:aWords) (m h:Int)
 | c1 (b:aWords) (d:Int)
def D:FD pd := {f:=12,fn:=Tryz.f12,q:=92,pl:=pls 35 [(5,kp [1,3] [(1,4)]),(14,kp [1,3,4,5,6] [(1,4),(4,3)]),(21,kp [1,3,4,5] [(1,4),(4,3)]),(23,kp [1,3,4,5,7] [(1,4),(4,3)]),(29,kp [1,3,5] [(1,4)])],ps:=[(.st .aWords)],rs:=[.bool],ex:=[none]}
def go:(aWords)->Tr Pt (Bool)
 | b=>
  .c (decide (12<(b.fAlphabet.length:Int)))
  (.r false)
  (.c (decide (4<(b.fRules.length:Int)))
   (.r false)
   (.c (decide (4<(b.fParadigms.length:Int)))
    (.r false)
    (.c (decide (8<(b.fLexemes.length:Int)))
     (.r false)
     (.j (.c1 b 0)))))
def st:Pt->Tr Pt (Bool)
 | .c5 e d b=>
  .c (decide (16<e))
  (.r false)
  (.j (.c1 b (IntKind.i64.wrap (d+1))))
 | .c4 e d b i=>
  .c (decide (i<(((b.fParadigms.getD d.toNat default).fSlots).length:Int)))
  (.c (decide (0<=i)&&decide (i<(((b.fParadigms.getD d.toNat default).fSlots).length:Int)))
   (.c (decide (6<((((b.fParadigms.getD d.toNat default).fSlots).getD i.toNat default).length:Int)))
    (.r false)
    (.j (.c4 e d b (IntKind.i64.wrap (i+1))))) .n)
  (.j (.c5 e d b))
 | .c3 d b e=>
  .j (.c4 e d b 0)
 | .c2 d b m h=>
  .c (decide (h<(((b.fParadigms.getD d.toNat default).fDimensions).length:Int)))
  (.c (decide (0<=h)&&decide (h<(((b.fParadigms.getD d.toNat default).fDimensions).length:Int)))
   (.c (decide (4<(((((b.fParadigms.getD d.toNat default).fDimensions).getD h.toNat default).fValues).length:Int)))
    (.r false)
    (.c (decide (0<=h)&&decide (h<(((b.fParadigms.getD d.toNat default).fDimensions).length:Int)))
     (.j (.c2 d b (IntKind.i64.wrap (m*(((((b.fParadigms.getD d.toNat default).fDimensions).getD h.toNat default).fValues).length:Int))) (IntKind.i64.wrap (h+1)))) .n)) .n)
  (.j (.c3 d b m))
 | .c1 b d=>
  .c (decide (d<(b.fParadigms.length:Int)))
  (.c (decide (0<=d)&&decide (d<(b.fParadigms.length:Int)))
   (.c (decide (3<(((b.fParadigms.getD d.toNat default).fDimensions).length:Int)))
    (.r false)
    (.c (decide (4<(((b.fParadigms.getD d.toNat default).fSlots).length:Int)))
     (.r false)
     (.j (.c2 d b 1 0)))) .n)
  (.r true)
def pt:Pt->List Dir×St E
 | .c5 e d b=>([.r,.r,.l,.r,.k,.L,.r,.l,.k,.r,.r,.r,.r],ms 92 92 [(1,hP 1),(3,hI d),(5,hI e)] [(1,.cells [cL (.st .aLetter) b.fAlphabet,cL (.st .aRule) b.fRules,cL (.st .aParadigm) b.fParadigms,cL (.st .aLexeme) b.fLexemes])])
 | .c4 e d b i=>([.r,.r,.l,.r,.k,.L,.r,.l,.k,.r,.r,.r,.r,.l,.r,.k],ms 92 92 [(1,hP 1),(3,hI d),(4,hP 4),(5,hI e),(7,hI i)] [(1,.cells [cL (.st .aLetter) b.fAlphabet,cL (.st .aRule) b.fRules,cL (.st .aParadigm) b.fParadigms,cL (.st .aLexeme) b.fLexemes]),(4,.cells [cS ((b.fParadigms.getD d.toNat default).fName),cL (.st .aDimension) ((b.fParadigms.getD d.toNat default).fDimensions),cL (.sl (.st .aAffix)) ((b.fParadigms.getD d.toNat default).fSlots)])])
 | .c3 d b e=>([.r,.r,.l,.r,.k,.L,.r,.l,.k,.r,.r,.r],ms 92 92 [(1,hP 1),(3,hI d),(4,hP 4),(5,hI e)] [(1,.cells [cL (.st .aLetter) b.fAlphabet,cL (.st .aRule) b.fRules,cL (.st .aParadigm) b.fParadigms,cL (.st .aLexeme) b.fLexemes]),(4,.cells [cS ((b.fParadigms.getD d.toNat default).fName),cL (.st .aDimension) ((b.fParadigms.getD d.toNat default).fDimensions),cL (.sl (.st .aAffix)) ((b.fParadigms.getD d.toNat default).fSlots)])])
 | .c2 d b m h=>([.r,.r,.l,.r,.k,.L,.r,.l,.k,.r,.r,.r,.l,.r,.k],ms 92 92 [(1,hP 1),(3,hI d),(4,hP 4),(5,hI m),(6,hI h)] [(1,.cells [cL (.st .aLetter) b.fAlphabet,cL (.st .aRule) b.fRules,cL (.st .aParadigm) b.fParadigms,cL (.st .aLexeme) b.fLexemes]),(4,.cells [cS ((b.fParadigms.getD d.toNat default).fName),cL (.st .aDimension) ((b.fParadigms.getD d.toNat default).fDimensions),cL (.sl (.st .aAffix)) ((b.fParadigms.getD d.toNat default).fSlots)])])
 | .c1 b d=>([.r,.r,.l,.r,.k],ms 92 92 [(1,hP 1),(3,hI d)] [(1,.cells [cL (.st .aLetter) b.fAlphabet,cL (.st .aRule) b.fRules,cL (.st .aParadigm) b.fParadigms,cL (.st .aLexeme) b.fLexemes])])
theorem g:D.G st pt:=fun Z a=>by cases a <;> kernel_rfl
theorem g0:D.G0 go pt:=fun Z _=>by kernel_rfl
abbrev con:Con Tryz.prog E:=FD.con Tryz.func12 (by kernel_rfl) g g0
end l11_small
def l11_small (b:aWords):Option (Bool):=ev (l11_small.go b) (fx l11_small.st)
end Go.Ai.Mor
end

namespace Go.Ai.Mor
open Go Go.Ai
deriving instance DecidableEq for aAnalysis
def admL (x:aItem) (l:aLetter):Bool:=(decide ((IntKind.u32.wrap (((BitVec.ofInt IntKind.u32.bits l.fClasses &&& BitVec.ofInt IntKind.u32.bits x.fMask).toNat:Int)))=x.fMask)&&(decide (x.fLetters=[])||(runesL x.fLetters).any fun r=>decide ((r:Int)=l.fRune))) != x.fNegated
def admR (a:List aLetter) (x:aItem) (r:Nat):Bool:=match a.find? fun l=>decide (l.fRune=(r:Int)) with
 | some l=>admL x l
 | none=>false
def rep (x:aItem):Bool:=x.fRepeated
def matchS (a:List aLetter) (p:List aItem) (s:List Nat):Bool:=mt rep (admR a) p s
def leftS (a:List aLetter) (r:aRule) (s:List Nat):Bool:=cond r.fInitial (matchS a r.fLeft s) ((List.range (s.length+1)).any fun i=>matchS a r.fLeft (s.drop i))
def rightS (a:List aLetter) (r:aRule) (s:List Nat):Bool:=cond r.fFinal (matchS a r.fRight s) ((List.range (s.length+1)).any fun i=>matchS a r.fRight (s.take i))
def siteB (a:List aLetter) (r:aRule) (w:List Nat) (i:Nat):Bool:=
 cond (decide (r.fFrom=0)) (leftS a r (w.take i)&&rightS a r (w.drop i)) (match w[i]? with
  | some c=>decide ((c:Int)=r.fFrom)&&(leftS a r (w.take i)&&rightS a r (w.drop (i+1)))
  | none=>false)
def sitesF (a:List aLetter) (r:aRule) (w:List Nat):Nat->Nat->List Int
 | 0,_=>[]
 | d+1,i=>cond (siteB a r w i) ((i:Int)::sitesF a r w d (i+1)) (sitesF a r w d (i+1))
def sitesS (a:List aLetter) (r:aRule) (w:List Nat):List Int:=sitesF a r w (w.length+1) 0
def putR (ins:Bool) (to' : List Nat):Nat->List Int->List Nat->List Nat
 | i,t,[]=>cond (decide (t.head? = some (i:Int))) to' []
 | i,t,c::w=>cond (decide (t.head? = some (i:Int))) (to' ++ (cond ins [c] []++putR ins to' (i+1) t.tail w)) (c::putR ins to' (i+1) t w)
def applyS (a:List aLetter) (r:aRule) (w:List Nat):List Nat:=putR (decide (r.fFrom=0)) (runesL r.fTo) 0 (sitesS a r w) w
def applyW (a:List aLetter) (r:aRule) (s:List UInt8):List UInt8×Int:=
 cond (ruleB a r&&wordB a s) (cond (decide ((applyS a r (runesL s)).length<=40)) (encs (applyS a r (runesL s)),0) ([],2)) ([],1)
def runS (a:List aLetter):List aRule->List UInt8->List UInt8×Int
 | [],s=>(s,0)
 | r::rs,s=>cond (decide ((applyW a r s).2=0)) (runS a rs (applyW a r s).1) ([],(applyW a r s).2)
def cascB (a:List aLetter) (rs:List aRule) (s:List UInt8):Bool:=decide (rs.length<=64)&&(admB a&&(wordB a s&&rs.all (ruleB a)))
def cascS (a:List aLetter) (rs:List aRule) (s:List UInt8):List UInt8×Int:=cond (cascB a rs s) (runS a rs s) ([],1)
def HC (w:aWords):Prop := ∀ u:List UInt8,u.length<=4194304->rewrite_Cascade w.fAlphabet w.fRules u=some (cascS w.fAlphabet w.fRules u)
def par0:aParadigm:=⟨[],[],[]⟩
def lex0:aLexeme:=⟨[],[],[],[],[]⟩
def pOf (w:aWords) (n:List UInt8):aParadigm:=(parP w n).getD par0
def lexP (w:aWords) (n:List UInt8):Option aLexeme:=w.fLexemes.find? fun x=>decide (x.fID=n)
def cellsOf (w:aWords) (x:aLexeme):List (List aFeature):=cond (decide (x.fParadigm=[])) [[]] (cells (pOf w x.fParadigm).fDimensions)
def underW (w:aWords) (x:aLexeme) (c:List aFeature):List UInt8×Int:=underS (pOf w x.fParadigm).fDimensions (pOf w x.fParadigm).fSlots x.fStem x.fFeatures c
def cascB' (w:aWords) (s:List UInt8):List UInt8×Bool:=((cascS w.fAlphabet w.fRules s).1,decide ((cascS w.fAlphabet w.fRules s).2=0))
def formW (w:aWords) (x:aLexeme) (c:List aFeature):List UInt8×Bool:=
 cond (decide (x.fParadigm=[])) (cascB' w x.fStem) (cond (decide ((underW w x c).2=0)) (cascB' w (underW w x c).1) ([],false))
def pairs (w:aWords) (x:aLexeme) (cs:List (List aFeature)):List (List UInt8×aAnalysis):=cs.flatMap fun c=>cond (formW w x c).2 [((formW w x c).1,⟨x.fID,c⟩)] []
def allS (w:aWords):List (List UInt8×aAnalysis):=w.fLexemes.flatMap fun x=>pairs w x (cellsOf w x)
def sel (s:List UInt8) (l:List (List UInt8×aAnalysis)):List aAnalysis:=(l.filter fun x=>decide (x.1=s)).map (·.2)
def anS (w:aWords) (s:List UInt8):List aAnalysis×Int:=cond (wordB w.fAlphabet s) (cond (decide ((sel s (allS w)).length<=256)) (sel s (allS w),0) ([],2)) ([],1)
def formsS (w:aWords) (n:List UInt8):List (List UInt8)×Int:=match lexP w n with
 | none=>([],4)
 | some x=>cond ((cellsOf w x).all fun c=>(formW w x c).2) ((cellsOf w x).map fun c=>(formW w x c).1,0) ([],2)
theorem ok_par0:OkP par0:=⟨by simp [par0],⟨by simp [par0],fun d h=>by cases h⟩,⟨by simp [par0],fun s h=>by cases h⟩,by simp [par0,szS]⟩
section
variable {w:aWords} (hw:OkW w) (hp:partsB w=true)
include hw
theorem ok_pOf (n:List UInt8):OkP (pOf w n):=by
 unfold pOf
 cases h:parP w n with
 | none=>exact ok_par0
 | some p=>exact hw.pars p (List.mem_of_find?_eq_some h)
theorem ok_lexP {n:List UInt8} {x:aLexeme} (h:lexP w n=some x):okLex x:=hw.lexs x (List.mem_of_find?_eq_some h)
omit hw in
include hp in
theorem asc_pOf (n:List UInt8):ascSlots (pOf w n).fSlots:=by
 unfold pOf
 cases h:parP w n with
 | none=>intro s hs; cases hs
 | some p=>
   simp only [partsB,Bool.and_eq_true,List.all_eq_true] at hp
   exact (parB_facts (hp.2.2.2.2.1 p (List.mem_of_find?_eq_some h))).2.2.1
theorem paradigm_pOf (n:List UInt8):morphology_words_paradigm ⟨w⟩ n=some (pOf w n,(parP w n).isSome):=words_paradigm_eq hw n
theorem cells_1_eq (x:aLexeme):morphology_words_cells_1 x.fID x.fCategory x.fStem x.fParadigm x.fFeatures w.fAlphabet w.fRules w.fParadigms w.fLexemes=some (cellsOf w x):=by
 have ew:aWords.mk w.fAlphabet w.fRules w.fParadigms w.fLexemes=w:=rfl
 simp only [morphology_words_cells_1,morphology_words_cells_1.go,evs,ev_b,ew,paradigm_pOf hw,Option.bind_some,cellsOf]
 cases decide (x.fParadigm=[]) with
 | true=>rfl
 | false=>
   simp only [cond_false]
   have hd:=(ok_pOf hw x.fParadigm).dims
   rw [paradigm_Count_eq hd,Option.bind_some]
   generalize hb:(parP w x.fParadigm).isSome=b
   generalize pOf w x.fParadigm=p at hd ⊢
   have hc:=count_le p.fDimensions
   have hl:=cells_length p.fDimensions
   exact over (xs:=cells p.fDimensions) (f:=fun i (_:Unit)=>fx morphology_words_cells_1.st (.c1 (p,b) (count p.fDimensions:Int) i)) (g:=fun t _=>some t) (fun _=>by
    rw [fx_eq]; simp only [morphology_words_cells_1.st,evs,hl,↓cneg (Int.lt_irrefl _)]) (fun i c t _ hi hx ih=>by
    have ih:=ih ()
    rw [hl] at hi
    rw [fx_eq]; simp (disch:=omega) only [morphology_words_cells_1.st,evs,ev_b,↓cpos,paradigm_Cell_eq hd,Option.bind_some,cellS,↓cpos2,Int.toNat_natCast,hx,wsucc,ih]
    rfl) ()
include hp
theorem form_eq (hC:HC w) {x:aLexeme} (hx:okLex x) {c:List aFeature} (hc:c.length<=1048576):morphology_words_form ⟨w⟩ x c=some (formW w x c):=by
 have hps:=ok_pOf hw x.fParadigm
 have hst:=hx.stem
 have hsz:=hps.size
 have l1:∀ u:List UInt8,u.length<=4194304->fx morphology_words_form.st (.c1 ⟨w⟩ u)=some (cascB' w u):=fun u hu=>by
  rw [fx_eq]; simp only [morphology_words_form.st,evs,ev_b]
  rw [hC u hu]; rfl
 have hul:(underW w x c).1.length<=4194304:=by
  unfold underW underS
  split
  ·simp
  ·rename_i m hm
   have:=formS_length m (pOf w x.fParadigm).fSlots x.fStem
   cases decide (40<((runesL (formS m (pOf w x.fParadigm).fSlots x.fStem)).length:Int)) with
   | true=>simp
   | false=>simp only [cond_false]; omega
 simp only [morphology_words_form,morphology_words_form.go,evs,ev_b,paradigm_pOf hw,Option.bind_some,paradigm_Underlying_eq hps.dims hps.slots (asc_pOf hp x.fParadigm) hc hx.feat (show x.fStem.length+szS (pOf w x.fParadigm).fSlots<=2097152 by omega),cnot,formW]
 show cond (decide (x.fParadigm=[])) (fx morphology_words_form.st (.c1 ⟨w⟩ x.fStem)) (cond (decide ((underW w x c).2=0)) (fx morphology_words_form.st (.c1 ⟨w⟩ (underW w x c).1)) (some ([],false)))=_
 rw [l1 _ (by omega),l1 _ hul]
 cases decide (x.fParadigm=[]) <;> cases decide ((underW w x c).2=0) <;> rfl
omit hp in
theorem cellsOf_len (x:aLexeme):(cellsOf w x).length<=4096 /\ ∀ c ∈ cellsOf w x,c.length<=4:=by
 unfold cellsOf
 cases decide (x.fParadigm=[]) with
 | true=>simp
 | false=>exact ⟨by rw [cond_false,cells_length]; exact count_le _,fun c hc=>(cells_mem hc).2.2⟩
theorem All_eq (hC:HC w):morphology_All_1 w.fAlphabet w.fRules w.fParadigms w.fLexemes=some (allS w):=by
 have ew:aWords.mk w.fAlphabet w.fRules w.fParadigms w.fLexemes=w:=rfl
 have hll:=hw.ll
 exact over (xs:=w.fLexemes) (f:=fun i (_:Unit)=>fx morphology_All_1.st (.c1 w.fAlphabet w.fRules w.fParadigms w.fLexemes i)) (g:=fun t _=>some (t.flatMap fun x=>pairs w x (cellsOf w x))) (fun _=>by
  rw [fx_eq]; simp only [morphology_All_1.st,evs,↓cneg (Int.lt_irrefl _),List.flatMap_nil]) (fun e x t _ he hx ih=>by
  have ih:=ih ()
  have hxo:=hw.lexs x (by rw [<- hx]; exact getD_mem he)
  have key:∀ cs:List (List aFeature),(∀ c ∈ cs,c.length<=4)->fx morphology_All_1.st (.c2 w.fAlphabet w.fRules w.fParadigms w.fLexemes e cs)=some (pairs w x cs++t.flatMap fun x=>pairs w x (cellsOf w x)):=by
   intro cs
   induction cs with
   | nil=>
     intro _
     rw [fx_eq]; simp (disch:=omega) only [morphology_All_1.st,evs,lcase,wsucc,ih]; rfl
   | cons c cs ihc=>
     intro hcs
     have ihc:=ihc fun y hy=>hcs y (List.mem_cons_of_mem _ hy)
     have hcl:=hcs c (by simp)
     have l3:∀ b,fx morphology_All_1.st (.c3 w.fAlphabet w.fRules w.fParadigms w.fLexemes e cs b)=cond b (some []) (some (pairs w x cs++t.flatMap fun x=>pairs w x (cellsOf w x))):=fun b=>by
      rw [fx_eq]; simp only [morphology_All_1.st,evs,ihc]
     rw [fx_eq]; simp only [morphology_All_1.st,evs,ev_b,lcase,ew,Int.toNat_natCast,hx]
     rw [form_eq hw hp hC hxo (by omega),Option.bind_some,l3,l3]
     simp only [pairs,List.flatMap_cons]
     cases (formW w x c).2 <;> rfl
  rw [fx_eq]; simp (disch:=omega) only [morphology_All_1.st,evs,ev_b,↓cpos,↓cpos2,Int.toNat_natCast,hx,cells_1_eq hw,Option.bind_some]
  rw [key _ (cellsOf_len hw x).2,List.flatMap_cons]) ()
theorem Analyses_eq (hC:HC w) {s:List UInt8} (hs:s.length<=1048576):morphology_Analyses w s=some (anS w s):=by
 have key:∀ (l:List (List UInt8×aAnalysis)) (e:List aAnalysis),e.length<=256->fx morphology_Analyses.st (.c1 s l e)=some (cond (decide (e.length+(sel s l).length<=256)) (e++sel s l,0) ([],2)):=by
  intro l
  induction l with
  | nil=>intro e he; rw [fx_eq]; simp only [morphology_Analyses.st,evs,lcase]; simp [sel,he]
  | cons y l ih=>
    intro e he
    rw [fx_eq]; simp only [morphology_Analyses.st,evs,lcase,cnot]
    by_cases h:y.1=s
    ·rw [cpos h]
     have e1:sel s (y::l)=y.2::sel s l:=by simp [sel,h]
     rw [e1]
     by_cases h6:e.length=256
     ·rw [cpos (by omega),cneg (by simp; omega)]
     ·rw [cneg (by omega),cpos (by simp only [len,len0]; omega),ih _ (by simp; omega)]
      simp only [List.length_append,List.length_cons,List.length_nil,List.append_assoc,List.singleton_append]
      rw [show e.length+(0+1)+(sel s l).length=e.length+((sel s l).length+1) by omega]
    ·rw [cneg h]
     have e1:sel s (y::l)=sel s l:=by simp [sel,h]
     rw [e1,ih _ he]
 simp only [morphology_Analyses,morphology_Analyses.go,evs,ev_b,isWord_eq hw.al hs,All_eq hw hp hC,Option.bind_some,cnot,anS]
 rw [key _ _ (by simp)]
 simp only [List.length_nil,Nat.zero_add,List.nil_append]
 cases wordB w.fAlphabet s <;> rfl
theorem Ambiguity_eq (hC:HC w) {s:List UInt8} (hs:s.length<=1048576):morphology_Ambiguity w s=some (((anS w s).1.length:Int),(anS w s).2):=by
 simp only [morphology_Ambiguity,morphology_Ambiguity.go,evs,ev_b,Analyses_eq hw hp hC hs,Option.bind_some]
omit hp in
theorem copied_eq {x:aLexeme} (hx:okLex x):lexicon_copied x=some x:=by
 have hf:=hx.feat.1
 simp only [lexicon_copied,lexicon_copied.go,evs,ev_b,slices_Clone_eq hf,Option.bind_some,slices_Clip_aFeature_aFeature,slices_Clip_aFeature_aFeature.go]
 rw [cpos3 (by omega) (by omega) trivial,Option.bind_some,Int.toNat_natCast,List.take_length]
omit hp in
theorem Find_eq (n:List UInt8):lexicon_Find w.fLexemes n=some ((lexP w n).getD lex0,(lexP w n).isSome):=by
 have hll:=hw.ll
 have h1:lexicon_Index w.fLexemes n=some (fstIdx (fun x:aLexeme=>decide (x.fID=n)) w.fLexemes 0):=
  overI (xs:=w.fLexemes) (f:=fun i (_:Unit)=>fx lexicon_Index.st (.c1 n w.fLexemes i)) (g:=fun i t _=>some (fstIdx (fun x:aLexeme=>decide (x.fID=n)) t i)) (fun _=>by
   rw [fx_eq]; simp only [lexicon_Index.st,evs,↓cneg (Int.lt_irrefl _),fstIdx]) (fun i x t _ hi hx _ _ ih=>by
   have ih:=ih ()
   rw [fx_eq]; simp (disch:=omega) only [lexicon_Index.st,evs,↓cpos,↓cpos2,Int.toNat_natCast,hx,wsucc,ih,fstIdx]
   cases decide (x.fID=n) <;> rfl) ()
 simp only [lexicon_Find,lexicon_Find.go,evs,ev_b,h1,Option.bind_some,lexP]
 rcases fst_find (fun x:aLexeme=>decide (x.fID=n)) w.fLexemes with ⟨g1,g2⟩ | ⟨j,g1,g2,g3⟩
 ·rw [g1,g2]; rfl
 ·rw [g3,g2,cpos (by omega),cpos2 (by omega) (by omega),Int.toNat_natCast,copied_eq hw (hw.lexs _ (getD_mem g1))]; rfl
theorem Forms_eq (hC:HC w) (n:List UInt8):morphology_Forms w n=some (formsS w n):=by
 simp only [morphology_Forms,morphology_Forms.go,evs,ev_b,Find_eq hw,Option.bind_some,cnot,formsS]
 cases hx:lexP w n with
 | none=>rfl
 | some x=>
   have hxo:=ok_lexP hw hx
   obtain ⟨hl,hc⟩:=cellsOf_len hw x
   simp only [Option.getD_some,Option.isSome_some,cond_true,cells_1_eq hw,Option.bind_some]
   have key:∀ (cs:List (List aFeature)) (out:List (List UInt8)),(∀ c ∈ cs,c.length<=4)->out.length+cs.length<=4096->fx morphology_Forms.st (.c1 (x,true) w cs out)=some (cond (cs.all fun c=>(formW w x c).2) (out++cs.map fun c=>(formW w x c).1,0) ([],2)):=by
    intro cs
    induction cs with
    | nil=>intro out _ _; rw [fx_eq]; simp [morphology_Forms.st,evs,lcase]
    | cons c cs ih=>
      intro out hcs ho
      simp only [List.length_cons] at ho
      rw [fx_eq]; simp only [morphology_Forms.st,evs,ev_b,lcase]
      rw [form_eq hw hp hC hxo (show c.length<=1048576 by have:=hcs c (by simp); omega),Option.bind_some,cnot]
      simp only [List.all_cons]
      cases (formW w x c).2 with
      | false=>rfl
      | true=>
        rw [cond_true,cpos (by simp only [len,len0]; omega),ih _ (fun y hy=>hcs y (List.mem_cons_of_mem _ hy)) (by simp; omega)]
        simp
   have:=key (cellsOf w x) [] hc (by simpa using hl)
   simpa using this
end
theorem ref03_Texts_eq {a b:List (List UInt8)} (hl:a.length<=1048576):r03_Texts a b=some (decide (a=b)):=by
 simp only [r03_Texts,r03_Texts.go,evs,cnot]
 by_cases h:a.length=b.length
 ·rw [cpos (by omega)]
  have key:=overI (xs:=a) (f:=fun i (_:Unit)=>fx r03_Texts.st (.c1 a b i)) (g:=fun i r _=>some (decide (r=b.drop i))) (fun _=>by
   rw [fx_eq]; simp only [r03_Texts.st,evs,↓cneg (Int.lt_irrefl _)]
   rw [List.drop_of_length_le (by omega)]; rfl) (fun i x r _ hi hx _ _ ih=>by
   have ih:=ih ()
   obtain ⟨y,t,g1,g2,g3⟩:=dropCons (xs:=b) (i:=i) (by omega)
   rw [fx_eq]; simp (disch:=omega) only [r03_Texts.st,evs,↓cpos,↓cpos2,Int.toNat_natCast,hx,g2,cnot,wsucc,ih,g1,g3]
   by_cases e:x=y <;> simp [e]) ()
  simpa using key
 ·rw [cneg (by omega)]
  have:a≠b:=fun e=>h (by rw [e])
  simp [this]
theorem ref11_Same_eq {a b:List aAnalysis} (hl:a.length<=1048576) (hc:∀ x ∈ a,x.fCell.length<=1048576):r11_Same a b=some (decide (a=b)):=by
 simp only [r11_Same,r11_Same.go,evs,cnot]
 by_cases h:a.length=b.length
 ·rw [cpos (by omega)]
  have key:=overI (xs:=a) (f:=fun i (_:Unit)=>fx r11_Same.st (.c1 a b i)) (g:=fun i r _=>some (decide (r=b.drop i))) (fun _=>by
   rw [fx_eq]; simp only [r11_Same.st,evs,↓cneg (Int.lt_irrefl _)]
   rw [List.drop_of_length_le (by omega)]; rfl) (fun i x r _ hi hx _ _ ih=>by
   have ih:=ih ()
   have hxc:=hc x (by rw [<- hx]; exact getD_mem hi)
   obtain ⟨y,t,g1,g2,g3⟩:=dropCons (xs:=b) (i:=i) (by omega)
   rw [fx_eq]; simp (disch:=omega) only [r11_Same.st,evs,ev_b,↓cpos,↓cpos2,Int.toNat_natCast,hx,g2,ref02_Same_eq hxc,Option.bind_some,cnot,wsucc,ih,g1,g3]
   obtain ⟨x1,x2⟩:=x
   obtain ⟨y1,y2⟩:=y
   by_cases e1:x1=y1 <;> by_cases e2:x2=y2 <;> simp [e1,e2]) ()
  simpa using key
 ·rw [cneg (by omega)]
  have:a≠b:=fun e=>h (by rw [e])
  simp [this]
end Go.Ai.Mor

namespace Go.Ai.Mor
open Go Go.Ai
abbrev Z (k:Nat) (t:Ty Nm) (x:den E.Γ t):Nat:=szT (szD E k) t x
theorem z_feature {k B:Nat} {f:aFeature} (h:Z (k+2) (.st .aFeature) f<=B):f.fName.length+f.fValue.length+3<=B:=by
 have e:Z (k+2) (.st .aFeature) f=(f.fName.length+1)+(f.fValue.length+1)+1:=rfl
 omega
theorem z_rec {k B:Nat} (hB:B<=1048576) {r:List aFeature} (h:Z (k+2) (.sl (.st .aFeature)) r<=B):okR r/\r.length+1<=B:=by
 obtain ⟨h1,h2⟩:=sl_le h
 have h1:r.length+1<=B:=h1
 exact ⟨⟨by omega,fun f hf=>by have:=z_feature (h2 f hf |> Nat.le_of_succ_le); exact ⟨by omega,by omega⟩⟩,h1⟩
theorem z_affix {k B:Nat} (hB:B<=1048576) {x:aAffix} (h:Z (k+3) (.st .aAffix) x<=B):okAffix x:=by
 have e:Z (k+3) (.st .aAffix) x=Z (k+2) (.sl (.st .aFeature)) x.fWhen+((x.fPrefix.length+1)+(x.fSuffix.length+1))+1:=rfl
 obtain ⟨h1,h2⟩:=z_rec (k:=k) (B:=B) hB (r:=x.fWhen) (by omega)
 exact ⟨h1,by omega,by omega,by omega⟩
theorem z_slots {k B:Nat} (hB:B<=1048576) {ss:List (List aAffix)} (h:Z (k+3) (.sl (.sl (.st .aAffix))) ss<=B):okSlots ss/\szS ss+1<=B:=by
 obtain ⟨h1,h2⟩:=sl_le h
 have h1:ss.length+1<=B:=h1
 refine ⟨⟨by omega,fun s hs => ?_⟩,?_⟩
 ·obtain ⟨h3,h4⟩:=sl_le (h2 s hs |> Nat.le_of_succ_le)
  have h3:s.length+1<=B:=h3
  exact ⟨by omega,fun x hx=>z_affix hB (h4 x hx |> Nat.le_of_succ_le)⟩
 ·have e:Z (k+3) (.sl (.sl (.st .aAffix))) ss=(ss.map (Z (k+3) (.sl (.st .aAffix)))).sum+1:=rfl
  have:szS ss<=(ss.map (Z (k+3) (.sl (.st .aAffix)))).sum:=by
   unfold szS
   refine sum_mono fun s _ => ?_
   have e2:Z (k+3) (.sl (.st .aAffix)) s=(s.map (Z (k+3) (.st .aAffix))).sum+1:=rfl
   have:szA s<=(s.map (Z (k+3) (.st .aAffix))).sum:=by
    unfold szA
    refine sum_mono fun x _ => ?_
    have e3:Z (k+3) (.st .aAffix) x=Z (k+2) (.sl (.st .aFeature)) x.fWhen+((x.fPrefix.length+1)+(x.fSuffix.length+1))+1:=rfl
    omega
   omega
  omega
theorem z_dims {k B:Nat} (hB:B<=1048576) {ds:List aDimension} (h:Z (k+2) (.sl (.st .aDimension)) ds<=B):okDims ds:=by
 obtain ⟨h1,h2⟩:=sl_le h
 have h1:ds.length+1<=B:=h1
 refine ⟨by omega,fun d hd => ?_⟩
 have h3:Z (k+2) (.st .aDimension) d+1<=B:=h2 d hd
 have e:Z (k+2) (.st .aDimension) d=(d.fName.length+1)+Z (k+1) (.sl .str) d.fValues+1:=rfl
 have h4:Z (k+1) (.sl .str) d.fValues<=B:=by omega
 obtain ⟨h5,h6⟩:=sl_le h4
 have h5:d.fValues.length+1<=B:=h5
 refine ⟨by omega,by omega,fun v hv => ?_⟩
 have h7:(v.length+1)+1<=B:=h6 v hv
 omega
theorem z_par {k B:Nat} (hB:B<=1048576) {p:aParadigm} (h:Z (k+4) (.st .aParadigm) p<=B):OkP p/\szS p.fSlots+3<=B:=by
 have e:Z (k+4) (.st .aParadigm) p=(p.fName.length+1)+(Z (k+3) (.sl (.st .aDimension)) p.fDimensions+Z (k+3) (.sl (.sl (.st .aAffix))) p.fSlots)+1:=rfl
 have hd:=szT_pos (E:=E) (k+2) (.sl (.st .aDimension)) p.fDimensions
 have hd' : 1<=Z (k+3) (.sl (.st .aDimension)) p.fDimensions:=hd
 obtain ⟨h1,h2⟩:=z_slots (k:=k) (B:=B - 2) (by omega) (ss:=p.fSlots) (by omega)
 have hdd:Z (k+1+2) (.sl (.st .aDimension)) p.fDimensions<=B:=by show Z (k+3) (.sl (.st .aDimension)) p.fDimensions<=B; omega
 exact ⟨⟨by omega,z_dims (k:=k+1) hB hdd,h1,by omega⟩,by omega⟩
theorem z_letters {k B:Nat} (hB:B<=1048576) {a:List aLetter} (h:Z (k+1) (.sl (.st .aLetter)) a<=B):a.length<=1048576:=by
 obtain ⟨h1,_⟩:=sl_le h
 have h1:a.length+1<=B:=h1
 omega
theorem z_items {k B:Nat} (hB:B<=1048576) {p:List aItem} (h:Z (k+1) (.sl (.st .aItem)) p<=B):okItems p:=by
 obtain ⟨h1,h2⟩:=sl_le h
 have h1:p.length+1<=B:=h1
 refine ⟨by omega,fun x hx => ?_⟩
 have h3:Z (k+1) (.st .aItem) x+1<=B:=h2 x hx
 have e:Z (k+1) (.st .aItem) x=1+((x.fLetters.length+1)+(1+1))+1:=rfl
 omega
theorem z_rule {k B:Nat} (hB:B<=1048576) {r:aRule} (h:Z (k+2) (.st .aRule) r<=B):okRule r:=by
 have e:Z (k+2) (.st .aRule) r=1+((r.fTo.length+1)+(Z (k+1) (.sl (.st .aItem)) r.fLeft+(Z (k+1) (.sl (.st .aItem)) r.fRight+(1+1))))+1:=rfl
 exact ⟨by omega,z_items (k:=k) hB (by omega),z_items (k:=k) hB (by omega)⟩
theorem z_lex {k B:Nat} (hB:B<=1048576) {x:aLexeme} (h:Z (k+3) (.st .aLexeme) x<=B):okLex x:=by
 have e:Z (k+3) (.st .aLexeme) x=(x.fID.length+1)+((x.fCategory.length+1)+((x.fStem.length+1)+((x.fParadigm.length+1)+Z (k+2) (.sl (.st .aFeature)) x.fFeatures)))+1:=rfl
 exact ⟨by omega,by omega,by omega,by omega,(z_rec (k:=k) (B:=B) hB (by omega)).1⟩
theorem z_words {k B:Nat} (hB:B<=1048576) {w:aWords} (h:Z (k+5) (.st .aWords) w<=B):OkW w:=by
 have e:Z (k+5) (.st .aWords) w=Z (k+4) (.sl (.st .aLetter)) w.fAlphabet+(Z (k+4) (.sl (.st .aRule)) w.fRules+(Z (k+4) (.sl (.st .aParadigm)) w.fParadigms+Z (k+4) (.sl (.st .aLexeme)) w.fLexemes))+1:=rfl
 have hr:Z (k+2+2) (.sl (.st .aRule)) w.fRules<=B:=by show Z (k+4) (.sl (.st .aRule)) w.fRules<=B; omega
 have hx:Z (k+1+3) (.sl (.st .aLexeme)) w.fLexemes<=B:=by show Z (k+4) (.sl (.st .aLexeme)) w.fLexemes<=B; omega
 have hp:Z (k+4) (.sl (.st .aParadigm)) w.fParadigms<=B:=by omega
 have ha:Z (k+3+1) (.sl (.st .aLetter)) w.fAlphabet<=B:=by show Z (k+4) (.sl (.st .aLetter)) w.fAlphabet<=B; omega
 obtain ⟨r1,r2⟩:=sl_le hr
 have r1:w.fRules.length+1<=B:=r1
 obtain ⟨x1,x2⟩:=sl_le hx
 have x1:w.fLexemes.length+1<=B:=x1
 obtain ⟨p1,p2⟩:=sl_le hp
 have p1:w.fParadigms.length+1<=B:=p1
 exact ⟨z_letters hB ha,by omega,fun r hr=>z_rule (k:=k+2) hB (Nat.le_of_succ_le (r2 r hr)),by omega,fun p hp=>(z_par hB (Nat.le_of_succ_le (p2 p hp))).1,by omega,fun x hx=>z_lex (k:=k+1) hB (Nat.le_of_succ_le (x2 x hx))⟩
abbrev Z8 (t:Ty Nm) (x:den E.Γ t):Nat:=szT (szD E 8) t x
theorem z8_words {B:Nat} (hB:B<=1048576) {w:aWords} (h:Z8 (.st .aWords) w<=B):OkW w:=z_words (k:=3) hB h
end Go.Ai.Mor

noncomputable section
namespace Go.Ai.Mor
open Go Go.Ai Go.Proofs Go.Lib Go.RowKit Go.Deep
set_option maxHeartbeats 1600000
set_option maxRecDepth 1000000
theorem info60:(Tryz.prog.info? 60).map (fun i=>(i.zero,i.size,i.bytes))=some (some (.slice none 0 0),1,24):=by kernel_rfl
theorem info3:(Tryz.prog.info? 3).map (fun i=>(i.zero,i.size,i.bytes))=some (some (.int .i64 0),1,8):=by kernel_rfl
abbrev Ents:=List (List UInt8×Int)
def eget (m:Ents) (s:List UInt8):Option Int:=mget (keyEq (E:=E) .str) (m:List (den E.Γ .str×den E.Γ (.int .i64))) s
def eput (m:Ents) (s:List UInt8) (k:Int):Ents:=mput (keyEq (E:=E) .str) (m:List (den E.Γ .str×den E.Γ (.int .i64))) s k
def synStep (st:Ents×List (List Int)) (n:Nat) (s:List UInt8):Ents×List (List Int):=match eget st.1 s with
 | some k=>(st.1,st.2.set k.toNat (st.2.getD k.toNat []++[(n:Int)]))
 | none=>(eput st.1 s (st.2.length:Int),st.2++[[(n:Int)]])
def synRun:List (List UInt8)->Nat->Ents×List (List Int)->Ents×List (List Int)
 | [],_,st=>st
 | s::ss,n,st=>synRun ss (n+1) (synStep st n s)
def morphology_Syncretic (x:aWords) (l:List UInt8):Option (List (List Int)×Int):=(morphology_Forms x l).bind fun r=>
 cond (decide (r.2=0)) (cond (decide (r.1.length<=lim)) (some ((synRun r.1 0 ([],[])).2,0)) none) (some ([],r.2))
abbrev noF:Fz:=fun _ _=>False
structure SAt (wF wr:World) (B n:Nat) (st:Ents×List (List Int)) (vo:Value) (vs:List Value):Prop where
 since:wF.Since B wr
 size:B+1<=wr.heap.size
 map:∃ es cl,wr.heap[B]? = some (.map es cl)/\MRep (E:=E) wr noF (kt := .str) (vt := .int .i64) st.1 es.toList
 own:wr.ownsRow (B+1) 60 1 vo st.2.length vs
 rows:∀ j,j<st.2.length->wr.ownsRow (B+1) 3 1 (vs.getD j undef) (st.2.getD j []).length ((st.2.getD j []).map (Value.int .i64))
 apart0:∀ j,j<st.2.length->(vs.getD j undef).ownBlock=none\/(vs.getD j undef).ownBlock≠vo.ownBlock
 apart:∀ i j,i<st.2.length->j<st.2.length->i≠j->(vs.getD i undef).ownBlock=none\/(vs.getD i undef).ownBlock≠(vs.getD j undef).ownBlock
 keys:∀ s k,eget st.1 s=some k->0<=k/\k<st.2.length
 few:st.2.length<=n
 short:∀ g ∈ st.2,g.length<=n
theorem eqB_iff (a b:List UInt8):keyEq (E:=E) .str a b=true↔a=b:=by
 simp [keyEq,leaves,eqLs,eqLv,tvOf]
theorem eget_eput (m:Ents) (x z:List UInt8) (k:Int):eget (eput m x k) z=cond (decide (z=x)) (some k) (eget m z):=by
 have:=mget_mput (eq:=keyEq (E:=E) .str) eqB_iff x z k m
 show mget _ (mput _ m x k) z=_
 rw [this]
 cases h:keyEq (E:=E) .str z x with
 | true=>rw [decide_eq_true ((eqB_iff _ _).1 h)]; rfl
 | false=>rw [decide_eq_false (fun e=>by rw [(eqB_iff z x).2 e] at h; cases h)]; rfl
theorem mrep_any {w w' : World} {m:Ents} {es:List MapEntry} (h:MRep (E:=E) w noF (kt := .str) (vt := .int .i64) m es):MRep (E:=E) w' noF (kt := .str) (vt := .int .i64) m es:=
 MRep.mono (fun _ _ h=>h) (fun _ _ _ h=>h.elim) h
theorem strRep (w:World) (s:List UInt8):HRep (E:=E) w noSite noTok noF (valH .str s) (.string ⟨s.toArray⟩):=by
 have:=Rep.str (E:=E) (w:=w) (F:=noF) ⟨s.toArray⟩
 show Rep (E:=E) w noF (.str s) _
 simpa using this
abbrev C0:Ctx E := {ti:=fun t=>tisE.lookup t,sig:=fun _=>none,it:=fun _=>none,nt:=0,rowAt:=[],frzAt:=[]}
theorem syn_lookup {wr:World} {B:Nat} {m:Ents} (h:∃ es cl,wr.heap[B]? = some (.map es cl)/\MRep (E:=E) wr noF (kt := .str) (vt := .int .i64) m es.toList) (s:List UInt8) :
  (Instr.lookup 95 (.map (some B)) (.string ⟨s.toArray⟩) true).run Tryz.prog wr = .ok (.tuple #[.int .i64 ((eget m s).getD 0),.bool (eget m s).isSome]) wr:=by
 obtain ⟨es,cl,hb,hm⟩:=h
 obtain ⟨v,hr,hv⟩:=lookup_run (P:=Tryz.prog) (C:=C0) COk_Tryz (t:=95) (b:=B) (kt := .str) (vt := .int .i64) (z:=(0:Int)) (x:=s) (kv := .string ⟨s.toArray⟩) (by kernel_rfl) hb hm (strRep wr s) true
 have hv:Rep (E:=E) wr noF (.int .i64 ((eget m s).getD 0)) v:=hv
 cases hv
 exact hr
theorem syn_update {wr:World} {B:Nat} {m:Ents} (h:∃ es cl,wr.heap[B]? = some (.map es cl)/\MRep (E:=E) wr noF (kt := .str) (vt := .int .i64) m es.toList) (s:List UInt8) (k:Int) :
  ∃ w2,(Instr.mapUpdate 95 (.map (some B)) (.string ⟨s.toArray⟩) (.int .i64 k)).run Tryz.prog wr = .ok () w2/\wr.grownBy w2 (some B)/\w2.heap.size=wr.heap.size /\
    ∃ es cl,w2.heap[B]? = some (.map es cl)/\MRep (E:=E) w2 noF (kt := .str) (vt := .int .i64) (eput m s k) es.toList:=by
 obtain ⟨es,cl,hb,hm⟩:=h
 obtain ⟨es',cl',hr,hm'⟩:=mapUpdate_run (P:=Tryz.prog) (C:=C0) COk_Tryz (t:=95) (b:=B) (kt := .str) (vt := .int .i64) (z:=(0:Int)) (x:=s) (y:=k) (kv := .string ⟨s.toArray⟩) (v := .int .i64 k) (by kernel_rfl) hb hm (strRep wr s) (Rep.int _ _)
 have hlt:B<wr.heap.size:=(Array.getElem?_eq_some_iff.1 hb).1
 refine ⟨_,hr,⟨rfl,rfl,rfl,by simp,fun q hq hne => ?_⟩,by simp,es',cl',?_,mrep_any hm'⟩
 ·show (wr.heap.setIfInBounds B _)[q]? = _
  rw [Array.getElem?_setIfInBounds,if_neg (fun e=>hne (by rw [e]))]
 ·show (wr.heap.setIfInBounds B _)[B]? = _
  rw [Array.getElem?_setIfInBounds,if_pos rfl,if_pos hlt]
theorem getD_append_lt {α:Type} {xs ys:List α} {i:Nat} {d:α} (h:i<xs.length):(xs++ys).getD i d=xs.getD i d:=by
 simp [List.getElem?_append_left h]
theorem getD_append_eq {α:Type} {xs:List α} {y d:α} : (xs++[y]).getD xs.length d=y:=by simp
theorem getD_set_ne {α:Type} {xs:List α} {i k:Nat} {y d:α} (h:i≠k):(xs.set k y).getD i d=xs.getD i d:=by
 simp only [List.getD_eq_getElem?_getD,List.getElem?_set_ne (Ne.symm h)]
theorem getD_set_eq {α:Type} {xs:List α} {k:Nat} {y d:α} (h:k<xs.length):(xs.set k y).getD k d=y:=by
 simp [List.getElem?_set,h]
theorem SAt.vlen {wF wr:World} {B n:Nat} {st:Ents×List (List Int)} {vo:Value} {vs:List Value} (h:SAt wF wr B n st vo vs):vs.length=st.2.length:=by
 have:=h.own.1; simpa using this
theorem SAt.grow {wF wr w2 w4:World} {B n:Nat} {m:Ents} {out:List (List Int)} {vo v' : Value} {vs:List Value} {s:List UInt8} {o:Obj} (h:SAt wF wr B n (m,out) vo vs) (hB:B<wr.heap.size) (hFB:wF.heap.size<=B)
  (hu:wr.grownBy w2 (some B)) (hsz:w2.heap.size=wr.heap.size) (hm:∃ es cl,w2.heap[B]? = some (.map es cl)/\MRep (E:=E) w2 noF (kt := .str) (vt := .int .i64) (eput m s (out.length:Int)) es.toList) (hn:eget m s=none)
  (hown:w4.ownsRow (B+1) 60 1 v' (out.length+1) (vs++[.slice none 0 0])) (hg:(w2.alloc o).grownBy w4 vo.ownBlock) (hloc:v'.ownBlock=vo.ownBlock\/v'.ownBlock=some (w2.alloc o).heap.size) :
  SAt wF w4 B (n+1) (eput m s (out.length:Int),out++[[]]) v' (vs++[.slice none 0 0]):=by
 have hvl:vs.length=out.length:=h.vlen
 have hvo:∀ k,vo.ownBlock=some k->B+1<=k/\k<wr.heap.size:=h.own.lt
 have hall:(w2.alloc o).heap.size=wr.heap.size+1:=by simp [hsz]
 have keep:∀ {e n:Nat} {v:Value} {xs:List Value},wr.ownsRow (B+1) e 1 v n xs->(v.ownBlock=none\/v.ownBlock≠vo.ownBlock)->w4.ownsRow (B+1) e 1 v n xs:=by
  intro e n v xs ho hne
  refine ((ho.kept hu ?_).alloc o).kept hg hne
  cases hb:v.ownBlock with
  | none=>exact .inl rfl
  | some g1=>right; intro e; have h2:=(ho.lt g1 hb).1; have:g1=B:=Option.some.inj e; omega
 have hs4:wr.heap.size+1<=w4.heap.size:=by have:=hg.size; omega
 refine ⟨?_,?_,?_,?_,?_,?_,?_,?_,?_,?_⟩
 ·exact ((h.since.grown hu (by omega) (fun k e=>by cases e; exact Nat.le_refl _)).alloc (by omega) o).grown hg (by simp; omega) (fun k e=>by have:=hvo k e; omega)
 ·have:=h.size; omega
 ·obtain ⟨es,cl,h1,h2⟩:=hm
  refine ⟨es,cl,?_,mrep_any h2⟩
  rw [hg.block B (by simp; omega) (fun e=>by have:=hvo B e.symm; omega),blk_alloc_lt _ _ _ (by omega)]
  exact h1
 ·simpa using hown
 ·intro j hj
  by_cases e:j<out.length
  ·have:=h.rows j e
   simp only at this ⊢
   rw [getD_append_lt (by omega),getD_append_lt e]
   exact keep this (h.apart0 j e)
  ·have e:j=out.length:=by simp at hj; omega
   subst e
   simp only
   rw [getD_append_eq]
   rw [<- hvl,getD_append_eq]
   exact World.ownsRow_nil _ _ _ _
 ·intro j hj
  by_cases e:j<out.length
  ·rw [getD_append_lt (by omega)]
   rcases hloc with hl | hl
   ·rw [hl]; exact h.apart0 j e
   ·rw [hl]
    cases hb:(vs.getD j undef).ownBlock with
    | none=>exact .inl rfl
    | some g=>right; intro e2; have:=((h.rows j e).lt g hb).2; cases e2; omega
  ·have e:j=out.length:=by simp at hj; omega
   subst e
   rw [<- hvl,getD_append_eq]
   exact .inl rfl
 ·intro i j hi hj hne
  by_cases e:i<out.length
  ·rw [getD_append_lt (by omega)]
   by_cases e2:j<out.length
   ·rw [getD_append_lt (by omega)]; exact h.apart i j e e2 hne
   ·have e2:j=out.length:=by simp at hj; omega
    subst e2
    rw [<- hvl,getD_append_eq]
    cases hb:(vs.getD i undef).ownBlock with
    | none=>exact .inl rfl
    | some g=>right; intro e2; cases e2
  ·have e:i=out.length:=by simp at hi; omega
   subst e
   rw [<- hvl,getD_append_eq]
   exact .inl rfl
 ·intro z k hz
  simp only at hz
  rw [eget_eput] at hz
  simp only [List.length_append,List.length_cons,List.length_nil]
  cases hd:decide (z=s) with
  | true=>rw [hd] at hz; cases hz; omega
  | false=>rw [hd] at hz; have:=h.keys z k hz; simp only at this; omega
 ·have:=h.few; simp at this ⊢; omega
 ·intro g hg
  rcases List.mem_append.1 hg with hg | hg
  ·have:=h.short g hg; omega
  ·simp at hg; subst hg; simp
theorem SAt.put {wF w w6:World} {B n m' k x g cap:Nat} {m:Ents} {out:List (List Int)} {v' : Value} {vs:List Value} {o:Obj} (h:SAt wF w B n (m,out) (.slice (some ⟨g,0,none⟩) out.length cap) vs) (hFB:wF.heap.size<=B)
  (hk:k<out.length) (hm' : out.length<=m' /\ ∀ r ∈ out,r.length+1<=m')
  (hown:w6.ownsRow (B+1) 3 1 v' ((out.getD k []).length+1) ((out.getD k []).map (Value.int .i64)++[.int .i64 x])) (hg:(w.alloc o).grownBy w6 (vs.getD k undef).ownBlock) (hloc:v'.ownBlock=(vs.getD k undef).ownBlock\/v'.ownBlock=some (w.alloc o).heap.size) :
  SAt wF (w6.setCell ⟨g,k,none⟩ v') B m' (m,out.set k (out.getD k []++[(x:Int)])) (.slice (some ⟨g,0,none⟩) out.length cap) (vs.set k v'):=by
 have hvl:vs.length=out.length:=h.vlen
 have hg1:=h.own.lt g rfl
 have hrow:=h.rows k hk
 simp only at hrow
 have hgn:(vs.getD k undef).ownBlock=none\/(vs.getD k undef).ownBlock≠some g:=h.apart0 k hk
 have hsz:(w.alloc o).heap.size=w.heap.size+1:=by simp
 have hs6:w.heap.size+1<=w6.heap.size:=by have:=hg.size; omega
 have own6:w6.ownsRow (B+1) 60 1 (.slice (some ⟨g,0,none⟩) out.length cap) out.length vs:=(h.own.alloc o).kept hg (.inr (fun e=>by
  rcases hgn with hgn | hgn
  ·rw [hgn] at e; cases e
  ·exact hgn e.symm))
 have hst:=own6.stored k v'
 have hv' : v'.ownBlock=none\/v'.ownBlock≠some g:=by
  rcases hloc with hl | hl
  ·rw [hl]; exact hgn
  ·right; rw [hl]; intro e; have:=Option.some.inj e; omega
 have keep:∀ j,j<out.length->j≠k->(w6.setCell ⟨g,k,none⟩ v').ownsRow (B+1) 3 1 (vs.getD j undef) (out.getD j []).length ((out.getD j []).map (Value.int .i64)):=fun j hj hne=>
  (((h.rows j hj).alloc o).kept hg (h.apart j k hj hk hne)).kept hst.2 (h.apart0 j hj)
 refine ⟨?_,?_,?_,?_,?_,?_,?_,?_,?_,?_⟩
 ·exact ((h.since.alloc (by omega) o).grown hg (by simp; omega) (fun q e=>by have:=hrow.lt q e; omega)).setCell (by show B<=g; omega) _
 ·have:=h.size; simp; omega
 ·obtain ⟨es,cl,h1,h2⟩:=h.map
  refine ⟨es,cl,?_,mrep_any h2⟩
  rw [blk_setCell_other _ _ _ _ (by show B≠g; omega),hg.block B (by have:=h.size; simp; omega) (fun e=>by have:=hrow.lt B e.symm; omega),blk_alloc_lt _ _ _ (by have:=h.size; omega)]
  exact h1
 ·simpa using hst.1
 ·intro j hj
  simp only [List.length_set] at hj ⊢
  by_cases e:j=k
  ·subst e
   rw [getD_set_eq (by omega),getD_set_eq hk]
   simpa using hown.kept hst.2 hv'
  ·rw [getD_set_ne e,getD_set_ne e]
   exact keep j hj e
 ·intro j hj
  simp only [List.length_set] at hj
  by_cases e:j=k
  ·subst e
   rw [getD_set_eq (by omega)]
   exact hv'
  ·rw [getD_set_ne e]
   exact h.apart0 j hj
 ·intro i j hi hj hne
  simp only [List.length_set] at hi hj
  have old:∀ q,q<out.length->q≠k -> ∀ b,(vs.getD q undef).ownBlock=some b->v'.ownBlock≠some b:=by
   intro q hq hqk b hb e
   rcases hloc with hl | hl
   ·rcases h.apart q k hq hk hqk with h1 | h1
    ·rw [hb] at h1; cases h1
    ·exact h1 (by rw [hb,<- hl,e])
   ·rw [hl] at e
    have:=((h.rows q hq).lt b hb).2
    have:=Option.some.inj e
    omega
  by_cases e:i=k
  ·subst e
   rw [getD_set_eq (by omega),getD_set_ne (Ne.symm hne)]
   cases hb:v'.ownBlock with
   | none=>exact .inl rfl
   | some b=>right; intro e; exact old j hj (Ne.symm hne) b e.symm hb
  ·rw [getD_set_ne e]
   by_cases e2:j=k
   ·subst e2
    rw [getD_set_eq (by omega)]
    cases hb:(vs.getD i undef).ownBlock with
    | none=>exact .inl rfl
    | some b=>right; intro e3; exact old i hi e b hb e3.symm
   ·rw [getD_set_ne e2]
    exact h.apart i j hi hj hne
 ·intro z q hz
  have:=h.keys z q hz
  simpa using this
 ·simpa using hm'.1
 ·intro r hr
  rcases List.mem_or_eq_of_mem_set hr with hr | rfl
  ·have:=hm'.2 r hr; omega
  ·have:out.getD k [] ∈ out:=by
    simp [hk]
   have:=hm'.2 _ this
   simpa using this
theorem getD_append_eqv {α:Type} {xs:List α} {n:Nat} {y d:α} (h:xs.length=n):(xs++[y]).getD n d=y:=by subst h; exact getD_append_eq
theorem own_last {w:World} {base e g n cap:Nat} {vs:List Value} {u:Value} (h:w.ownsRow base e 1 (.slice (some ⟨g,0,none⟩) (n+1) cap) (n+1) (vs++[u])) (hl:vs.length=n):w.cell? ⟨g,n,none⟩=some u:=by
 rw [h.cellAt n (by omega)]
 subst hl
 simp
theorem own_some {w:World} {base e size n:Nat} {v:Value} {xs:List Value} (h:w.ownsRow base e size v (n+1) xs):∃ g cap,v = .slice (some ⟨g,0,none⟩) (n+1) cap:=by
 rcases h.2 with ⟨_,h0⟩ | ⟨g,cap,cur,e,_⟩
 ·omega
 ·exact ⟨g,cap,e⟩
theorem own_cell {w w' : World} {base e n g cap:Nat} {row:Option Nat} {vs:List Value} {o:Obj} {u:Value} {j:Nat} (h:w.ownsRow base e 1 (.slice (some ⟨g,0,none⟩) n cap) n vs) (hg:(w.alloc o).grownBy w' row) (hne:row=none\/row≠some g) (hj:j<n) (hu:vs.getD j undef=u) :
  w'.cell? ⟨g,j,none⟩=some u/\w'.frozen? ⟨g,j,none⟩=false:=by
 have own6:=(h.alloc o).kept hg (.inr (fun e=>by
  rcases hne with hn | hn
  ·rw [hn] at e; cases e
  ·exact hn e.symm))
 refine ⟨?_,own6.frozenAt j⟩
 rw [own6.cellAt j (by simpa using hj)]
 have:vs.length=n:=by have:=h.1; simpa using this
 have:j<vs.length:=by omega
 rw [<- hu]
 simp [this]
def FormsAt (w2:World) (fs:List (List UInt8)) (v:Value):Prop := ∃ (Aa:Option Addr) (ba oa ca:Nat),v = .slice Aa fs.length ca/\(0<fs.length->Aa=some ⟨ba,oa,none⟩) /\
 ∀ i,i<fs.length->w2.cell? ⟨ba,oa+i,none⟩=some (.string ⟨(fs.getD i []).toArray⟩)
theorem syn_err (va vb vc vd:Value) (s:List UInt8) (fs:List (List UInt8)) (r:Int) (hr:r≠0) (w:World)
  (hcall:∀ W:World,w.Since w.heap.size W->Calls Tryz.prog 25 #[.agg #[va,vb,vc,vd],.string ⟨s.toArray⟩] W fun e w2 => ∃ v6,e = .returned (.tuple #[v6,.int .i64 r])/\Below W.heap.size W w2/\FormsAt w2 fs v6) :
  Calls Tryz.prog 24 #[.agg #[va,vb,vc,vd],.string ⟨s.toArray⟩] w fun e w' => e = .returned (.tuple #[.slice none 0 0,.int .i64 r])/\w.Since w.heap.size w' := by
 go_enter Tryz.func24,Tryz.ntmps24
 go_wp2_with (first | (go_at_call 25; refine (hcall _ ((World.Since.refl _ _).alloc (Nat.le_refl _) _)).mono ?_; rintro e w2 ⟨v6,rfl,hB,hX⟩))
 go_ret2
 exact ⟨rfl,(World.Since.refl _ _).alloc (Nat.le_refl _) _ |>.trans ⟨hB.os,hB.tape,hB.output,hB.size,fun k hk=>hB.block k (by simp; omega)⟩⟩
theorem syn_ok (va vb vc vd:Value) (s:List UInt8) (fs:List (List UInt8)) (hlen:fs.length<=67108864) (w:World)
  (hcall:∀ W:World,w.Since w.heap.size W->Calls Tryz.prog 25 #[.agg #[va,vb,vc,vd],.string ⟨s.toArray⟩] W fun e w2 => ∃ v6,e = .returned (.tuple #[v6,.int .i64 0])/\Below W.heap.size W w2/\FormsAt w2 fs v6) :
  Calls Tryz.prog 24 #[.agg #[va,vb,vc,vd],.string ⟨s.toArray⟩] w fun e w' => ∃ wF vo vs,e = .returned (.tuple #[vo,.int .i64 0])/\w.Since w.heap.size wF/\SAt wF w' wF.heap.size fs.length (synRun fs 0 ([],[])) vo vs:=by
 have hmm := @run_makeMap Tryz.prog
 go_enter Tryz.func24,Tryz.ntmps24
 go_wp2_with (first | (go_at_call 25; refine (hcall _ ((World.Since.refl _ _).alloc (Nat.le_refl _) _)).mono ?_; rintro e wF ⟨v6,rfl,hB,hX⟩; obtain ⟨Aa,ba,oa,ca,rfl,hA,hX⟩:=hX))
 have hsF:wF.heap.size<(wF.alloc (.map #[] 0)).heap.size:=by simp
 go_loopg [9,26] fs.length (fun gn vo i wr => ∃ (k:Nat) (st:Ents×List (List Int)) (vs:List Value),k<=fs.length/\gn=fs.length - k/\i = .int .i64 k/\SAt wF wr wF.heap.size k st vo vs/\synRun (fs.drop k) k st=synRun fs 0 ([],[]))
 case atStart=>
  refine ⟨0,([],[]),[],Nat.zero_le _,rfl,rfl,⟨(World.Since.refl _ _).alloc (Nat.le_refl _) _,by simp,⟨#[],0,(MapKept.heap_alloc wF _).1,trivial⟩,World.ownsRow_nil _ _ _ _,fun j hj=>absurd hj (Nat.not_lt_zero _),fun j hj=>absurd hj (Nat.not_lt_zero _),fun i j hi=>absurd hi (Nat.not_lt_zero _),fun z k hz=>(by cases hz),Nat.le_refl _,fun g hg=>(by cases hg)⟩,rfl⟩
 case round=>
  obtain ⟨k,⟨m,out⟩,vs,hk,rfl,rfl,hS,hrun⟩:=hrel
  obtain ⟨i3,hi3,hz30,hz31,hz32⟩:=info_parts info3
  obtain ⟨i60,hi60,hz600,hz601,hz602⟩:=info_parts info60
  have hFsz:=hS.size
  by_cases hlt:k<fs.length
  ·have hA:=hA (by omega)
   subst hA
   have hc0:=hX k hlt
   have hba:ba<wF.heap.size:=World.block_lt_of_cell? _ _ hc0
   obtain ⟨sk,hsk⟩:∃ sk,sk=fs.getD k []:=⟨_,rfl⟩
   have hcx:wr.cell? ⟨ba,oa+k,none⟩=some (.string ⟨sk.toArray⟩):=by rw [hsk]; exact (hS.since.cell hba).trans hc0
   have hdrop:fs.drop k=sk::fs.drop (k+1):=by rw [hsk,List.drop_eq_getElem_cons hlt]; simp [hlt]
   rw [hdrop] at hrun
   have hlk:=syn_lookup hS.map sk
   have hfew:=hS.few
   have hshort:=hS.short
   clear hX hc0 hsk
   cases hm:eget m sk with
   | some kk=>
     obtain ⟨k1,k2⟩:=hS.keys sk kk hm
     obtain ⟨j,rfl⟩:∃ j:Nat,kk=(j:Int):=⟨kk.toNat,by omega⟩
     have hj:j<out.length:=by simp only at k2; omega
     obtain ⟨g,cap,rfl⟩:∃ g cap,u9 = .slice (some ⟨g,0,none⟩) out.length cap:=by
      rcases hS.own.2 with ⟨_,h0⟩ | ⟨g,cap,cur,e,_⟩
      ·simp only at h0; omega
      ·exact ⟨g,cap,e⟩
     rw [hm] at hlk
     simp only [Option.getD_some,Option.isSome_some] at hlk
     have c1:wr.cell? ⟨g,j,none⟩=some (vs.getD j undef):=by
      have:=hS.own.cellAt j (by simpa using hj)
      rw [this]
      have:j<vs.length:=by rw [hS.vlen]; exact hj
      simp [this]
     have hrow:wr.ownsRow (wF.heap.size+1) 3 1 (vs.getD j undef) (out.getD j []).length ((out.getD j []).map (Value.int .i64)):=hS.rows j hj
     have hrl:(out.getD j []).length<=k:=hshort _ (by simp [hj])
     have hap0:(vs.getD j undef).ownBlock=none\/(vs.getD j undef).ownBlock≠some g:=hS.apart0 j hj
     generalize hvj:vs.getD j undef=vj at c1 hrow hap0
     generalize hrj:out.getD j []=rj at hrow hrl
     go_wp2_with (first
      | (at_builtin; refine wpList_append_own_at _ rfl _ _ 60 rfl (wF.heap.size+1) 3 i3 (.int .i64 0) 1 8 Tryz.underlying60 hi3 hz30 hz31 hz32 rfl (by decide) _ _ _ rfl (hrow.alloc _) ⟨wr.heap.size,0,none⟩ 1 1 [.int .i64 k] rfl rfl (cell_one_new _ _ _) (ints_oneCell .i64 [(k:Int)]) (by unfold maxLen; omega) (by omega) (by simp; omega) ?_; intro v' w6 hown' hgrow hnil hloc; obtain ⟨g6,cap6,rfl⟩:=own_some hown'; obtain ⟨c6,f6⟩:=own_cell hS.own hgrow hap0 hj hvj))
     subst hvj
     subst hrj
     have hS2:=hS.put (m' := k+1) (Nat.le_refl _) hj ⟨Nat.le_succ_of_le hfew,fun r hr=>Nat.succ_le_succ (hshort r hr)⟩ hown' hgrow hloc
     have hst:synStep (m,out) k sk=(m,out.set j (out.getD j []++[(k:Int)])):=by simp only [synStep,hm,Int.toNat_natCast]
     have hrun2:synRun (fs.drop (k+1)) (k+1) (m,out.set j (out.getD j []++[(k:Int)]))=synRun fs 0 ([],[]):=by rw [<- hst]; exact hrun
     clear hS hown' hgrow hloc c6 f6 c1 hrow hlk
     go_roundg (fs.length - (k+1))
     case measure=>omega
     case rel=>exact ⟨k+1,_,vs.set j _,by omega,rfl,rfl,hS2,hrun2⟩
   | none=>
     obtain ⟨a9,cap,rfl⟩:∃ a9 cap,u9 = .slice a9 out.length cap:=by
      rcases hS.own.2 with ⟨e,h0⟩ | ⟨g,cap,cur,e,_⟩
      ·exact ⟨none,0,by rw [e]; simp only at h0; rw [h0]⟩
      ·exact ⟨_,cap,e⟩
     rw [hm] at hlk
     simp only [Option.getD_none,Option.isSome_none] at hlk
     obtain ⟨w2,hup,hu,hsz2,hm2⟩:=syn_update hS.map sk (out.length:Int)
     have hown:=hS.own
     have own2:w2.ownsRow (wF.heap.size+1) 60 1 (.slice a9 out.length cap) out.length vs:=hown.kept hu (by
      cases hb:(Value.slice a9 out.length cap).ownBlock with
      | none=>exact .inl rfl
      | some g=>right; intro e; have:=(hown.lt g hb).1; have:=Option.some.inj e; omega)
     simp only at hfew
     have hnew2:=cell_one_new w2 (.slice none 0 0) 60
     rw [hsz2] at hnew2
     go_wp2_with (first
      | (at_builtin; refine wpList_append_own_at _ rfl _ _ 54 rfl (wF.heap.size+1) 60 i60 (.slice none 0 0) 1 24 Tryz.underlying54 hi60 hz600 hz601 hz602 rfl (by decide) _ _ _ rfl (own2.alloc _) ⟨wr.heap.size,0,none⟩ 1 1 [.slice none 0 0] rfl rfl hnew2 (by intro u hu; simp at hu; subst hu; rfl) (by unfold maxLen; omega) (by omega) (by simp; omega) ?_; intro v4 w4 hown4 hgrow4 hnil4 hloc4; obtain ⟨g4,cap4,rfl⟩:=own_some hown4; have hS4:=hS.grow (by omega) (Nat.le_refl _) hu hsz2 hm2 hm hown4 hgrow4 hloc4; have c4:w4.cell? ⟨g4,out.length,none⟩=some (.slice none 0 0):=own_last hown4 hS.vlen)
      | (at_builtin; refine wpList_append_own_at _ rfl _ _ 60 rfl (wF.heap.size+1) 3 i3 (.int .i64 0) 1 8 Tryz.underlying60 hi3 hz30 hz31 hz32 rfl (by decide) _ _ _ rfl ((World.ownsRow_nil w4 (wF.heap.size+1) 3 1).alloc _) ⟨w4.heap.size,0,none⟩ 1 1 [.int .i64 k] rfl rfl (cell_one_new _ _ _) (ints_oneCell .i64 [(k:Int)]) (by decide) (by decide) (by have:=hS4.size; simp; omega) ?_; intro v' w6 hown' hgrow hnil hloc; obtain ⟨g6,cap6,rfl⟩:=own_some hown'; obtain ⟨c6,f6⟩:=own_cell (j:=out.length) hown4 hgrow (.inl rfl) (Nat.lt_succ_self _) (getD_append_eqv hS.vlen)))
     have hvl:vs.length=out.length:=hS.vlen
     have e1:(out++[[]]).getD out.length ([]:List Int)=[]:=getD_append_eq
     have e2:(vs++[Value.slice none 0 0]).getD out.length undef = .slice none 0 0:=getD_append_eqv hvl
     have e3:(out++[[]]).set out.length [(k:Int)]=out++[[(k:Int)]]:=by simp
     have hl4:(out++[[]]).length=out.length+1:=by simp
     have hS5:SAt wF w4 wF.heap.size (k+1) (eput m sk (out.length:Int),out++[[]]) (.slice (some ⟨g4,0,none⟩) (out++[[]]).length cap4) (vs++[.slice none 0 0]):=by rw [hl4]; exact hS4
     have hS2:=hS5.put (m' := k+1) (k:=out.length) (x:=k) (v' := .slice (some ⟨g6,0,none⟩) (0+1) cap6) (Nat.le_refl _) (by simp) ⟨by omega,fun r hr=>by
      rcases List.mem_append.1 hr with hr | hr
      ·exact Nat.succ_le_succ (hshort r hr)
      ·simp at hr; subst hr; simp⟩ (by rw [e1]; exact hown') (by rw [e2]; exact hgrow) (by rw [e2]; exact hloc)
     rw [e1,List.nil_append,e3,hl4] at hS2
     have hst:synStep (m,out) k sk=(eput m sk (out.length:Int),out++[[(k:Int)]]):=by simp only [synStep,hm]
     have hrun2:synRun (fs.drop (k+1)) (k+1) (eput m sk (out.length:Int),out++[[(k:Int)]])=synRun fs 0 ([],[]):=by rw [<- hst]; exact hrun
     clear hS hS4 hS5 hown' hgrow hloc c6 f6 c4 hlk hup hu hsz2 hm2 own2 hown hgrow4 hloc4 hown4
     go_roundg (fs.length - (k+1))
     case measure=>omega
     case rel=>exact ⟨k+1,_,(vs++[Value.slice none 0 0]).set out.length _,by omega,rfl,rfl,hS2,hrun2⟩
  ·go_wp2
   have:k=fs.length:=by omega
   subst this
   go_ret2
   have hr:synRun (fs.drop fs.length) fs.length (m,out)=(m,out):=by simp [synRun]
   rw [hr] at hrun
   rw [<- hrun]
   exact ⟨wF,u9,vs,rfl,((World.Since.refl _ _).alloc (Nat.le_refl _) _).trans ⟨hB.os,hB.tape,hB.output,hB.size,fun k hk=>hB.block k (by simp; omega)⟩,hS⟩
theorem forms_call {w:World} {F:Nat->Nat->Prop} (hF:∀ b o,F b o->b<w.heap.size) (hT:E.tab w F) {x:aWords} {l:List UInt8} {r:List (List UInt8)×Int} (h:morphology_Forms x l=some r) {args:List Value}
  (hargs:HReps w noSite noTok F (argHs (E:=E) [.st .aWords,.str] (x,l)) args) (W:World) (hs:w.Since w.heap.size W) :
  Calls Tryz.prog 25 args.toArray W fun e w2 => ∃ v6,e = .returned (.tuple #[v6,.int .i64 r.2])/\Below W.heap.size W w2/\FormsAt w2 r.1 v6:=by
 have hsz:=hs.size
 have hA:Agree F w W:=fun b o v hf hc=>(hs.cell (a:=⟨b,o,none⟩) (hF b o hf)).trans hc
 have hF' : ∀ b o,F b o->b<W.heap.size:=fun b o hf=>by have:=hF b o hf; omega
 have hT' : E.tab W F:=E.tabM w W F F hT (fun _ _ hf=>hf) hA
 have hc:=morphology_Forms.con.ok.2 (x,l) r h W F _ 0 hF' hT' (hargs.mono (fun _ _ hf=>hf) hA (fun _ _ h=>h) (fun _ _ h=>h))
 refine hc.mono ?_
 rintro e w2 ⟨v,tk,F',rfl,hb,_,_,_,hr,_⟩
 obtain ⟨r1,r2⟩:=r
 obtain ⟨us,rfl,hu⟩:∃ us:List Value,v = .tuple us.toArray/\VReps w2 noSite tk F' [(false,[.tok (0,0,9) .str r1]),(false,[.tv (.int .i64 r2)])] us:=hr
 match us,hu with
 | [v6,v7],hu=>
   obtain ⟨⟨c6,e6,h6⟩,⟨c7,e7,h7⟩,_⟩:=hu
   cases e6
   cases e7
   obtain ⟨h6,_⟩:=h6
   have h7:Rep (E:=E) w2 F' (.int .i64 r2) v7:=h7
   cases h7
   obtain ⟨ad,b,o,cap,vs,rfl,h1,h2⟩:=slice_of h6
   refine ⟨_,rfl,hb,ad,b,o,cap,rfl,h1,fun i hi => ?_⟩
   have hx:(r1:List (den E.Γ .str))[i]? = some r1[i]:=List.getElem?_eq_getElem hi
   obtain ⟨c0,r0⟩:=h2 i r1[i] 0 (.str r1[i]) hx rfl
   obtain ⟨u,hu,hul⟩:=rep_str_inv r0
   rw [hu] at c0
   have hu2:u=⟨r1[i].toArray⟩:=by rw [<- hul]
   rw [hu2] at c0
   have e:r1.getD i []=r1[i]:=by simp [hi]
   rw [e]
   simpa [Ty.size] using c0
namespace morphology_Syncretic
def sig:Sig E:=⟨[.st .aWords,.str],[.sl (.sl (.int .i64)),.int .i64],[none,none],fun x=>morphology_Syncretic x.1 x.2⟩
theorem says:callable Tryz.prog 24=true /\ ∀ x y,sig.fn x=some y->Says Tryz.prog 24 sig x y:=by
 refine ⟨by kernel_rfl,?_⟩
 intro (x:aWords×List UInt8) (y:List (List Int)×Int) h w F args d hF hT hargs
 obtain ⟨x,l⟩:=x
 have h:morphology_Syncretic x l=some y:=h
 unfold morphology_Syncretic at h
 rw [Option.bind_eq_some_iff] at h
 obtain ⟨r,hr,h⟩:=h
 have hargs:HReps w noSite noTok F (argHs (E:=E) [.st .aWords,.str] (x,l)) args:=hargs
 obtain ⟨va,vb,vc,vd,rfl⟩:∃ va vb vc vd,args=[.agg #[va,vb,vc,vd],.string ⟨l.toArray⟩]:=by
  match args,hargs with
  | [vw,vl],hargs=>
    obtain ⟨⟨us,rfl,hu⟩,hl,_⟩:=hargs
    obtain ⟨u,rfl,hul⟩:=rep_str_inv (show Rep (E:=E) w F (.str l) vl from hl)
    have:u=⟨l.toArray⟩:=by rw [<- hul]
    subst this
    match us,hu with
    | [va,vb,vc,vd],_=>exact ⟨va,vb,vc,vd,rfl⟩
    | [],hu=>exact hu.elim
    | [_],hu=>exact hu.2.elim
    | [_,_],hu=>exact hu.2.2.elim
    | [_,_,_],hu=>exact hu.2.2.2.elim
    | _::_::_::_::_::_,hu=>exact hu.2.2.2.2.elim
  | [],hargs=>exact hargs.elim
  | [_],hargs=>exact hargs.2.elim
  | _::_::_::_,hargs=>exact hargs.2.2.elim
 have hcall:=fun W hs=>forms_call hF hT hr hargs W hs
 have hbelow:∀ w' : World,w.Since w.heap.size w' -> Below w.heap.size w w' := fun w' hs=>⟨hs.os,hs.tape,hs.output,hs.size,hs.block⟩
 have fin:∀ (w' : World) (out:List (List Int)) (e:Int) (vo:Value),w.Since w.heap.size w' -> Rep (E:=E) w' (fun b o=>F b o\/(w.heap.size<=b/\b<w'.heap.size)) (.sl (.sl (.int .i64)) out) vo -> ∃ v tk F',Ending.returned (.tuple #[vo,.int .i64 e]) = .returned v/\Below w.heap.size w w' /\ (∀ b o,F b o->F' b o)/\(∀ b o,F' b o->F b o\/w.heap.size<=b)/\(∀ b o,F' b o->b<w'.heap.size) /\
   HRep w' noSite tk F' (viewRes (E:=E) d sig.rs sig.ex (out,e)) v/\(∀ k u,tk k=some u->k.1=d/\Own Tryz.prog w.heap.size w' noSite F' k u)/\(∀ k k' u u' g,tk k=some u->tk k' = some u' -> u.ownBlock=some g->u'.ownBlock=some g->k=k'):=by
  intro w' out e vo hs hrep
  refine ⟨_,noTok,fun b o=>F b o\/(w.heap.size<=b/\b<w'.heap.size),rfl,hbelow w' hs,fun _ _ hf => .inl hf,fun b o hf=>hf.imp id And.left,fun b o hf => ?_,?_,fun k u h=>(by cases h),fun k k' u u' g h=>(by cases h)⟩
  ·rcases hf with hf | hf
   ·have:=hF b o hf; have:=hs.size; omega
   ·exact hf.2
  ·exact ⟨[vo,.int .i64 e],rfl,⟨_,rfl,hrep⟩,⟨_,rfl,Rep.int _ _⟩,trivial⟩
 by_cases hz:r.2=0
 ·rw [decide_eq_true hz] at h
  cases hl:decide (r.1.length<=lim) with
  | false=>rw [hl] at h; cases h
  | true=>
    rw [hl] at h
    have hl:r.1.length<=67108864:=of_decide_eq_true hl
    have hy:((synRun r.1 0 ([],[])).2,(0:Int))=y:=Option.some.inj h
    subst hy
    rw [hz] at hcall
    refine (syn_ok va vb vc vd l r.1 hl w hcall).mono ?_
    rintro e w' ⟨wF,vo,vs,rfl,hs,hS⟩
    have hs' : w.Since w.heap.size w' := hs.trans ⟨hS.since.os,hS.since.tape,hS.since.output,hS.since.size,fun k hk=>hS.since.block k (by have:=hs.size; omega)⟩
    refine fin w' _ 0 vo hs' ?_
    have hsz:=hs.size
    have hvl:=hS.vlen
    refine rep_of_own (e:=60) (b0:=wF.heap.size+1) hS.own ⟨by rw [hvl]; simp [Ty.size],fun i row c lf hrow hlf => ?_⟩ (fun g hg o _ => .inr ⟨by have:=(hS.own.lt g hg).1; omega,(hS.own.lt g hg).2⟩)
    have hi:i<(synRun r.1 0 ([],[])).2.length:=(List.getElem?_eq_some_iff.1 hrow).1
    have hc:c=0/\lf = .sl (.int .i64) row:=by
     obtain ⟨hc,he⟩:=List.getElem?_eq_some_iff.1 hlf
     have:c=0:=by simpa [leaves] using hc
     subst this
     exact ⟨rfl,by simpa [leaves] using he.symm⟩
    obtain ⟨rfl,rfl⟩:=hc
    have hgetD:(synRun r.1 0 ([],[])).2.getD i []=row:=by
     have hrow:(synRun r.1 0 ([],[])).2[i]? = some row:=hrow
     simp [hrow]
    have hr:=hS.rows i hi
    rw [hgetD] at hr
    refine ⟨vs.getD i undef,?_,rep_of_own (e:=3) (b0:=wF.heap.size+1) hr ⟨by simp [Ty.size],fun q z c lf hz hlf => ?_⟩ (fun g hg o _ => .inr ⟨by have:=(hr.lt g hg).1; omega,(hr.lt g hg).2⟩)⟩
    ·have:i<vs.length:=by omega
     simp [Ty.size,this]
    ·have hc:c=0/\lf = .int .i64 z:=by
      obtain ⟨hc,he⟩:=List.getElem?_eq_some_iff.1 hlf
      have:c=0:=by simpa [leaves] using hc
      subst this
      exact ⟨rfl,by simpa [leaves] using he.symm⟩
     obtain ⟨rfl,rfl⟩:=hc
     refine ⟨.int .i64 z,?_,Rep.int _ _⟩
     have hz:row[q]? = some z:=hz
     simp [Ty.size,hz]
 ·rw [decide_eq_false hz] at h
  have hy:(([]:List (List Int)),r.2)=y:=Option.some.inj h
  subst hy
  refine (syn_err va vb vc vd l r.1 r.2 hz w hcall).mono ?_
  rintro e w' ⟨rfl,hs⟩
  exact fin w' [] r.2 _ hs (Rep.sl (.sl (.int .i64)) [] none 0 (fun _ _=>undef) (Nat.le_refl _) (fun _=>rfl) (fun ad h=>by cases h) (fun ad h=>by cases h) (fun i x c l h=>by cases h))
def con:Con Tryz.prog E:=⟨24,sig,says⟩
end morphology_Syncretic
end Go.Ai.Mor
end

namespace Go.Ai.Mor
open Go Go.Ai
set_option maxRecDepth 100000
theorem synRun_append:∀ (xs ys:List (List UInt8)) (n:Nat) (st:Ents×List (List Int)),synRun (xs++ys) n st=synRun ys (n+xs.length) (synRun xs n st)
 | [],ys,n,st=>rfl
 | x::xs,ys,n,st=>by
   show synRun (xs++ys) (n+1) _=_
   rw [synRun_append xs ys]
   rw [List.length_cons,show n+1+xs.length=n+(xs.length+1) by omega]
   rfl
structure GInv (fs:List (List UInt8)) (k:Nat) (m:Ents) (out:List (List Int)):Prop where
 lt:∀ s j,eget m s=some j -> ∃ j' : Nat,j=j' /\ j' < out.length
 has:∀ x,x<k -> ∃ j:Nat,eget m (fs.getD x [])=some (j:Int)
 inj:∀ s s' j,eget m s=some j->eget m s' = some j->s=s'
 mem:∀ j,j<out.length -> ∀ y:Int,y ∈ out.getD j [] ↔ ∃ x:Nat,x<k/\y=x/\eget m (fs.getD x [])=some (j:Int)
 inc:∀ j,j<out.length->(out.getD j []).Pairwise (· < ·)
 ne:∀ j,j<out.length->out.getD j []≠[]
 heads:∀ i j,i<j->j<out.length->(out.getD i []).getD 0 0<(out.getD j []).getD 0 0
theorem GInv.start (fs:List (List UInt8)):GInv fs 0 [] []:=
 ⟨fun s j h=>(by cases h),fun x h=>absurd h (Nat.not_lt_zero _),fun s s' j h=>(by cases h),fun j h=>absurd h (Nat.not_lt_zero _),fun j h=>absurd h (Nat.not_lt_zero _),fun j h=>absurd h (Nat.not_lt_zero _),fun i j _ h=>absurd h (Nat.not_lt_zero _)⟩
theorem getD0_append {xs:List Int} {y:Int} (h:xs≠[]):(xs++[y]).getD 0 0=xs.getD 0 0:=by
 cases xs with
 | nil=>exact absurd rfl h
 | cons a r=>rfl
theorem GInv.step {fs:List (List UInt8)} {k:Nat} {m:Ents} {out:List (List Int)} (h:GInv fs k m out) (hk:k<fs.length):GInv fs (k+1) (synStep (m,out) k (fs.getD k [])).1 (synStep (m,out) k (fs.getD k [])).2:=by
 generalize hs:fs.getD k []=s
 have small:∀ j,j<out.length -> ∀ y ∈ out.getD j [],y<(k:Int):=fun j hj y hy=>by
  obtain ⟨x,h1,h2,_⟩:=(h.mem j hj y).1 hy
  omega
 simp only [synStep]
 cases hm:eget m s with
 | some kk=>
   obtain ⟨j0,rfl,hj0⟩:=h.lt s kk hm
   simp only [Int.toNat_natCast]
   have heads0:∀ j,j<out.length->((out.set j0 (out.getD j0 []++[(k:Int)])).getD j []).getD 0 0=(out.getD j []).getD 0 0:=fun j hj=>by
    by_cases e:j=j0
    ·subst e; rw [getD_set_eq hj,getD0_append (h.ne j hj)]
    ·rw [getD_set_ne e]
   refine ⟨fun z j hz => ?_,fun x hx => ?_,h.inj,fun j hj y => ?_,fun j hj => ?_,fun j hj => ?_,fun i j hij hj => ?_⟩
   ·obtain ⟨j',h1,h2⟩:=h.lt z j hz
    exact ⟨j',h1,by simpa using h2⟩
   ·by_cases e:x<k
    ·exact h.has x e
    ·have e:x=k:=by omega
     subst e
     exact ⟨j0,by rw [hs]; exact hm⟩
   ·have hj:j<out.length:=by simpa using hj
    have split:(∃ x:Nat,x<k+1/\y=x/\eget m (fs.getD x [])=some (j:Int))↔(∃ x:Nat,x<k/\y=x/\eget m (fs.getD x [])=some (j:Int))\/(y=k/\j=j0):=by
     constructor
     ·rintro ⟨x,h1,h2,h3⟩
      by_cases e:x<k
      ·exact .inl ⟨x,e,h2,h3⟩
      ·have e:x=k:=by omega
       subst e
       rw [hs,hm] at h3
       exact .inr ⟨h2,by have:=Option.some.inj h3; omega⟩
     ·rintro (⟨x,h1,h2,h3⟩ | ⟨h1,h2⟩)
      ·exact ⟨x,by omega,h2,h3⟩
      ·exact ⟨k,by omega,h1,by rw [hs,hm,h2]⟩
    rw [split,<- h.mem j hj y]
    by_cases e:j=j0
    ·subst e
     rw [getD_set_eq hj0]
     simp
    ·rw [getD_set_ne e]
     simp [e]
   ·have hj:j<out.length:=by simpa using hj
    by_cases e:j=j0
    ·subst e
     rw [getD_set_eq hj0]
     exact List.pairwise_append.2 ⟨h.inc j hj0,List.pairwise_singleton _ _,fun a ha b hb=>by simp at hb; subst hb; exact small j hj0 a ha⟩
    ·rw [getD_set_ne e]; exact h.inc j hj
   ·have hj:j<out.length:=by simpa using hj
    by_cases e:j=j0
    ·subst e; rw [getD_set_eq hj0]; simp
    ·rw [getD_set_ne e]; exact h.ne j hj
   ·have hj:j<out.length:=by simpa using hj
    rw [heads0 i (by omega),heads0 j hj]
    exact h.heads i j hij hj
 | none=>
   have hold:∀ x,x<k->eget (eput m s (out.length:Int)) (fs.getD x [])=eget m (fs.getD x []):=fun x hx=>by
    obtain ⟨j,hj⟩:=h.has x hx
    rw [eget_eput,cneg (fun e=>by rw [e,hm] at hj; cases hj)]
   have hnew:eget (eput m s (out.length:Int)) s=some (out.length:Int):=by rw [eget_eput,cpos rfl]
   have cases' : ∀ z j,eget (eput m s (out.length:Int)) z=some j->(z=s/\j=out.length)\/eget m z=some j:=fun z j hz=>by
    rw [eget_eput] at hz
    by_cases e:z=s
    ·rw [cpos e] at hz; exact .inl ⟨e,(Option.some.inj hz).symm⟩
    ·rw [cneg e] at hz; exact .inr hz
   have hlen:(out++[[(k:Int)]]).length=out.length+1:=by simp
   refine ⟨fun z j hz => ?_,fun x hx => ?_,fun z z' j h1 h2 => ?_,fun j hj y => ?_,fun j hj => ?_,fun j hj => ?_,fun i j hij hj => ?_⟩
   ·rw [hlen]
    rcases cases' z j hz with ⟨_,e⟩ | h1
    ·exact ⟨out.length,e,by omega⟩
    ·obtain ⟨j',h1,h2⟩:=h.lt z j h1
     exact ⟨j',h1,by omega⟩
   ·by_cases e:x<k
    ·rw [hold x e]; exact h.has x e
    ·have e:x=k:=by omega
     subst e
     rw [hs]
     exact ⟨_,hnew⟩
   ·rcases cases' z j h1 with ⟨e1,e2⟩ | g1
    ·rcases cases' z' j h2 with ⟨e3,_⟩ | g2
     ·rw [e1,e3]
     ·obtain ⟨j',h3,h4⟩:=h.lt z' j g2; omega
    ·rcases cases' z' j h2 with ⟨_,e4⟩ | g2
     ·obtain ⟨j',h3,h4⟩:=h.lt z j g1; omega
     ·exact h.inj z z' j g1 g2
   ·rw [hlen] at hj
    by_cases e:j<out.length
    ·rw [getD_append_lt e,h.mem j e y]
     constructor
     ·rintro ⟨x,h1,h2,h3⟩; exact ⟨x,by omega,h2,by rw [hold x h1]; exact h3⟩
     ·rintro ⟨x,h1,h2,h3⟩
      by_cases e2:x<k
      ·exact ⟨x,e2,h2,by rw [<- hold x e2]; exact h3⟩
      ·have e2:x=k:=by omega
       subst e2
       rw [hs,hnew] at h3
       have:=Option.some.inj h3
       omega
    ·have e:j=out.length:=by omega
     subst e
     rw [getD_append_eq]
     constructor
     ·intro hy
      simp at hy
      exact ⟨k,by omega,hy,by rw [hs]; exact hnew⟩
     ·rintro ⟨x,h1,h2,h3⟩
      by_cases e2:x<k
      ·rw [hold x e2] at h3
       obtain ⟨j',h4,h5⟩:=h.lt _ _ h3
       omega
      ·have e2:x=k:=by omega
       subst e2
       simp [h2]
   ·rw [hlen] at hj
    by_cases e:j<out.length
    ·rw [getD_append_lt e]; exact h.inc j e
    ·have e:j=out.length:=by omega
     subst e
     rw [getD_append_eq]; exact List.pairwise_singleton _ _
   ·rw [hlen] at hj
    by_cases e:j<out.length
    ·rw [getD_append_lt e]; exact h.ne j e
    ·have e:j=out.length:=by omega
     subst e
     rw [getD_append_eq]; simp
   ·rw [hlen] at hj
    by_cases e:j<out.length
    ·rw [getD_append_lt e,getD_append_lt (by omega)]; exact h.heads i j hij e
    ·have e:j=out.length:=by omega
     subst e
     rw [getD_append_eq,getD_append_lt hij]
     show _<(k:Int)
     refine small i hij _ ?_
     have:=h.ne i hij
     cases hg:out.getD i [] with
     | nil=>exact absurd hg this
     | cons a r=>simp
theorem GInv.all (fs:List (List UInt8)):∀ k,k<=fs.length->GInv fs k (synRun (fs.take k) 0 ([],[])).1 (synRun (fs.take k) 0 ([],[])).2
 | 0,_=>by rw [List.take_zero]; exact GInv.start fs
 | k+1,h=>by
   have ih:=GInv.all fs k (by omega)
   have e:fs.take (k+1)=fs.take k++[fs.getD k []]:=by
    rw [List.take_succ_eq_append_getElem (by omega)]
    simp [show k<fs.length by omega]
   have hl:(fs.take k).length=k:=by simp; omega
   rw [e,synRun_append,hl,Nat.zero_add]
   exact ih.step (by omega)
structure Grp (fs:List (List UInt8)) (G:List (List Int)) (gof:Nat->Nat):Prop where
 lt:∀ x,x<fs.length->gof x<G.length
 mem:∀ j,j<G.length -> ∀ y:Int,y ∈ G.getD j [] ↔ ∃ x:Nat,x<fs.length/\y=x/\gof x=j
 inc:∀ j,j<G.length->(G.getD j []).Pairwise (· < ·)
 ne:∀ j,j<G.length->G.getD j []≠[]
 heads:∀ i j,i<j->j<G.length->(G.getD i []).getD 0 0<(G.getD j []).getD 0 0
 inj:∀ x y,x<fs.length->y<fs.length->(gof x=gof y↔fs.getD x []=fs.getD y [])
theorem grp_all (fs:List (List UInt8)):∃ gof,Grp fs (synRun fs 0 ([],[])).2 gof:=by
 have h:=GInv.all fs fs.length (Nat.le_refl _)
 rw [List.take_length] at h
 generalize (synRun fs 0 ([],[])).1=m at h
 generalize (synRun fs 0 ([],[])).2=G at h ⊢
 have hg:∀ x,x<fs.length->eget m (fs.getD x [])=some ((((eget m (fs.getD x [])).getD 0).toNat:Nat):Int):=fun x hx=>by
  obtain ⟨j,hj⟩:=h.has x hx
  rw [hj]; simp
 refine ⟨fun x=>((eget m (fs.getD x [])).getD 0).toNat,⟨fun x hx => ?_,fun j hj y => ?_,h.inc,h.ne,h.heads,fun x y hx hy=>⟨fun e => ?_,fun e => ?_⟩⟩⟩
 ·obtain ⟨j,h1,h2⟩:=h.lt _ _ (hg x hx)
  show ((eget m (fs.getD x [])).getD 0).toNat<_
  omega
 ·rw [h.mem j hj y]
  constructor
  ·rintro ⟨x,h1,h2,h3⟩
   exact ⟨x,h1,h2,by show ((eget m (fs.getD x [])).getD 0).toNat=j; rw [h3]; simp⟩
  ·rintro ⟨x,h1,h2,h3⟩
   have h3:((eget m (fs.getD x [])).getD 0).toNat=j:=h3
   exact ⟨x,h1,h2,by rw [hg x h1,h3]⟩
 ·have h1:=hg x hx
  have h2:=hg y hy
  have e:((eget m (fs.getD x [])).getD 0).toNat=((eget m (fs.getD y [])).getD 0).toNat:=e
  rw [e] at h1
  exact h.inj _ _ _ h1 h2
 ·show ((eget m (fs.getD x [])).getD 0).toNat=((eget m (fs.getD y [])).getD 0).toNat
  rw [e]
end Go.Ai.Mor

set_option maxRecDepth 100000
noncomputable section
namespace Go.Ai.Mor
open Go Go.Ai Go.Proofs
namespace l11_boats
inductive Pt
def D:FD pd := {f:=30,fn:=Tryz.f30,q:=21,ps:=[],rs:=[(.st .aWords)],ex:=[none]}
def go:(Unit)->Tr Pt (aWords)
 | _=>
  .r (aWords.mk [aLetter.mk 97 1,aLetter.mk 101 1,aLetter.mk 116 2,aLetter.mk 107 2] [] ([aParadigm.mk [110,111,117,110] ([aDimension.mk [110,117,109,98,101,114] ([[115,103],[112,108]])]) ([[aAffix.mk ([aFeature.mk [110,117,109,98,101,114] [112,108]]) [] [116]]])]) ([aLexeme.mk [98,111,97,116] [110] [107,97,101] [110,111,117,110] [],aLexeme.mk [98,111,97,116,115] [110] [107,97,101,116] [] [],aLexeme.mk [116,101,97] [110] [116,101] [110,111,117,110] []]))
def st:Pt->Tr Pt (aWords):=nofun
def pt:Pt->List Dir×St E:=nofun
theorem g:D.G st pt:=fun Z a=>by cases a <;> kernel_rfl
theorem g0:D.G0 go pt:=fun Z _=>by kernel_rfl
abbrev con:Con Tryz.prog E:=FD.con Tryz.func30 (by kernel_rfl) g g0
end l11_boats
def l11_boats:Option (aWords):=ev (l11_boats.go ()) (fx l11_boats.st)
end Go.Ai.Mor
end

set_option maxRecDepth 100000
noncomputable section
namespace Go.Ai.Mor
open Go Go.Ai Go.Proofs
namespace l11_awake
inductive Pt
def D:FD pd := {f:=13,fn:=Tryz.f13,q:=57,ps:=[],rs:=[.bool],ex:=[none],cs:=[morphology_Check.con,morphology_Analyses.con,r11_Same.con,morphology_Ambiguity.con,morphology_Forms.con,l11_boats.con,r03_Texts.con]}
def go:(Unit)->Tr Pt (Bool)
 | _=>
  .b l11_boats fun d=>
  .b (morphology_Forms d [98,111,97,116]) fun e=>
  .b (morphology_Analyses d [107,97,101,116]) fun h=>
  .b (morphology_Ambiguity d [116,101]) fun i=>
  .b (morphology_Check d) fun j=>
  .c (decide (j=0))
  (.c (decide (e.2=0))
   (.c (decide (h.2=0))
    (.c (decide (i.2=0))
     (.b (r03_Texts e.1 ([[107,97,101],[107,97,101,116]])) fun k=>
      .c k
      (.b (r11_Same h.1 ([aAnalysis.mk [98,111,97,116] ([aFeature.mk [110,117,109,98,101,114] [112,108]]),aAnalysis.mk [98,111,97,116,115] []])) fun l=>
       .c l
       (.r (decide (i.1=1)))
       (.r false))
      (.r false))
     (.r false))
    (.r false))
   (.r false))
  (.r false)
def st:Pt->Tr Pt (Bool):=nofun
def pt:Pt->List Dir×St E:=nofun
theorem g:D.G st pt:=fun Z a=>by cases a <;> kernel_rfl
theorem g0:D.G0 go pt:=fun Z _=>by kernel_rfl
abbrev con:Con Tryz.prog E:=FD.con Tryz.func13 (by kernel_rfl) g g0
end l11_awake
def l11_awake:Option (Bool):=ev (l11_awake.go ()) (fx l11_awake.st)
end Go.Ai.Mor
end

set_option maxRecDepth 100000
noncomputable section
namespace Go.Ai.Mor
open Go Go.Ai Go.Proofs
namespace l11_valid
inductive Pt
def D:FD pd := {f:=16,fn:=Tryz.f16,q:=10,ps:=[(.st .aWords)],rs:=[.bool],ex:=[none],cs:=[l11_small.con,r11_Check.con]}
def go:(aWords)->Tr Pt (Bool)
 | d=>
  .b (l11_small d) fun e=>
  .c e
  (.b (r11_Check d) fun h=>
   .r (decide (h=0)))
  (.r false)
def st:Pt->Tr Pt (Bool):=nofun
def pt:Pt->List Dir×St E:=nofun
theorem g:D.G st pt:=fun Z a=>by cases a <;> kernel_rfl
theorem g0:D.G0 go pt:=fun Z _=>by kernel_rfl
abbrev con:Con Tryz.prog E:=FD.con Tryz.func16 (by kernel_rfl) g g0
end l11_valid
def l11_valid (d:aWords):Option (Bool):=ev (l11_valid.go d) (fx l11_valid.st)
end Go.Ai.Mor
end

set_option maxRecDepth 100000
noncomputable section
namespace Go.Ai.Mor
open Go Go.Ai Go.Proofs
namespace l11_MorphologySyncretic
inductive Pt
 | c7 (h i:Int) (e:(List (List Int))×Int) (d:(List (List UInt8))×Int) (p:List Int) (z:Bool)
 | c6 (h:Int) (e:(List (List Int))×Int) (d:(List (List UInt8))×Int) (i:Int) (p:List Int)
 | c5 (h:Int) (e:(List (List Int))×Int) (d:(List (List UInt8))×Int) (s:List Int) (ab:Bool)
 | c10 (m:Int) (d:(List (List UInt8))×Int) (o:List Int) (t:Int)
 | c11
 | c9 (d:(List (List UInt8))×Int) (o:List Int) (m:Int)
 | c8 (d:(List (List UInt8))×Int) (o:List Int)
 | c4 (e:(List (List Int))×Int) (d:(List (List UInt8))×Int) (h:Int) (s:List Int)
 | c3 (e:(List (List Int))×Int) (d:(List (List UInt8))×Int) (y:List Int)
 | c2 (e:(List (List Int))×Int) (d:(List (List UInt8))×Int) (u:Int) (v:List Int)
 | c1 (e:(List (List Int))×Int) (d:(List (List UInt8))×Int) (aa:Bool)
def D:FD pd := {f:=8,fn:=Tryz.f8,q:=177,pl:=pls 48 [(6,kp [5,43] [] [] [(7,.own (100007,0,9) .str)]),(11,kp [5,10] [(46,0)] [] [(7,.own (100007,0,9) .str),(9,.row)]),(15,kp [5] [(46,0)] [] [(7,.own (100007,0,9) .str),(9,.row)]),(17,kp [5,11] [(46,0)] [] [(7,.own (100007,0,9) .str),(9,.row)]),(20,kp [5,11,87] [(46,0)] [] [(7,.own (100007,0,9) .str),(9,.row)]),(24,kp [5,11,12] [(46,0)] [] [(7,.own (100007,0,9) .str),(9,.row)]),(28,kp [5,11,12,13,134] [(46,0)] [] [(7,.own (100007,0,9) .str),(9,.row)]),(33,kp [] [(46,0)] [] [(7,.own (100007,0,9) .str),(9,.row)]),(35,kp [14] [(46,0)] [] [(7,.own (100007,0,9) .str),(9,.row)]),(39,kp [14,15] [(46,0)] [] [(7,.own (100007,0,9) .str),(9,.row)]),(46,kp [])],ps:=[(.st .aWords),.str],rs:=[.bool],ex:=[none],cs:=[l11_awake.con,l11_valid.con,morphology_Syncretic.con,morphology_Forms.con],r1:=[46,55,115,116,138,152,153,158,159,162,163],r2:=[]}
def go:(aWords×(List UInt8))->Tr Pt (Bool)
 | (w,x)=>
  .b (l11_valid w) fun ad=>
  .c (!ad)
  (.b l11_awake fun ae=>
   .r ae)
  (.b (morphology_Syncretic w x) fun e=>
   .b (morphology_Forms w x) fun d=>
   .c (!decide (e.2=d.2))
   (.j (.c1 e d true))
   (.c (!decide (e.2=0))
    (.j (.c1 e d (!decide ((e.1.length:Int)=0))))
    (.j (.c1 e d false))))
def st:Pt->Tr Pt (Bool)
 | .c7 h i e d p z=>
  .c z
  (.r false)
  (.c (decide (0<=(e.1.getD h.toNat default).getD i.toNat default)&&decide ((e.1.getD h.toNat default).getD i.toNat default<((p:List Int).length:Int)))
   (.j (.c6 h e d (IntKind.i64.wrap (i+1)) ((p:List Int).set ((e.1.getD h.toNat default).getD i.toNat default).toNat h))) .n)
 | .c6 h e d i p=>
  .c (decide (0<=h)&&decide (h<(e.1.length:Int)))
  (.c (decide (i<((e.1.getD h.toNat default).length:Int)))
   (.c (decide (0<=h)&&decide (h<(e.1.length:Int)))
    (.c (decide (0<=i)&&decide (i<((e.1.getD h.toNat default).length:Int)))
     (.c (decide (((e.1.getD h.toNat default).getD i.toNat default)<0))
      (.j (.c7 h i e d p true))
      (.c (decide ((d.1.length:Int)<=((e.1.getD h.toNat default).getD i.toNat default)))
       (.j (.c7 h i e d p true))
       (.c (decide (0<=(e.1.getD h.toNat default).getD i.toNat default)&&decide ((e.1.getD h.toNat default).getD i.toNat default<((p:List Int).length:Int)))
        (.b ((p:List Int)[((e.1.getD h.toNat default).getD i.toNat default).toNat]?) fun af=>
         .c (decide (0<=af))
         (.j (.c7 h i e d p true))
         (.c (decide (0<i))
          (.c (decide (0<=h)&&decide (h<(e.1.length:Int)))
           (.c (decide (0<=IntKind.i64.wrap (i - 1))&&decide (IntKind.i64.wrap (i - 1)<((e.1.getD h.toNat default).length:Int)))
            (.j (.c7 h i e d p (decide (((e.1.getD h.toNat default).getD i.toNat default)<=((e.1.getD h.toNat default).getD (IntKind.i64.wrap (i - 1)).toNat default))))) .n) .n)
          (.j (.c7 h i e d p false)))) .n))) .n) .n)
   (.j (.c4 e d (IntKind.i64.wrap (h+1)) p))) .n
 | .c5 h e d s ab=>
  .c ab
  (.r false)
  (.j (.c6 h e d 0 s))
 | .c10 m d o t=>
  .c (decide (t<=m))
  (.c (decide (0<=m)&&decide (m<((o:List Int).length:Int)))
   (.b ((o:List Int)[m.toNat]?) fun ag=>
    .c (decide (ag<0))
    (.r false)
    (.c (decide (0<=m)&&decide (m<((o:List Int).length:Int)))
     (.b ((o:List Int)[m.toNat]?) fun ah=>
      .c (decide (0<=t)&&decide (t<((o:List Int).length:Int)))
      (.b ((o:List Int)[t.toNat]?) fun ai=>
       .c (decide (0<=m)&&decide (m<(d.1.length:Int)))
       (.c (decide (0<=t)&&decide (t<(d.1.length:Int)))
        (.c (!decide ((decide (ah=ai))=(decide ((d.1.getD m.toNat default)=(d.1.getD t.toNat default)))))
         (.r false)
         (.j (.c10 m d o (IntKind.i64.wrap (t+1))))) .n) .n) .n) .n)) .n)
  (.j (.c9 d o (IntKind.i64.wrap (m+1))))
 | .c11=>
  .b l11_awake fun ac=>
  .r ac
 | .c9 d o m=>
  .c (decide (m<(d.1.length:Int)))
  (.j (.c10 m d o 0))
  (.j .c11)
 | .c8 d o=>
  .j (.c9 d o 0)
 | .c4 e d h s=>
  .c (decide (h<(e.1.length:Int)))
  (.c (decide (0<=h)&&decide (h<(e.1.length:Int)))
   (.c (decide (((e.1.getD h.toNat default).length:Int)=0))
    (.j (.c5 h e d s true))
    (.c (decide (0<h))
     (.c (decide (0<=h)&&decide (h<(e.1.length:Int)))
      (.c (decide (0<=0)&&decide (0<((e.1.getD h.toNat default).length:Int)))
       (.c (decide (0<=IntKind.i64.wrap (h - 1))&&decide (IntKind.i64.wrap (h - 1)<(e.1.length:Int)))
        (.c (decide (0<=0)&&decide (0<((e.1.getD (IntKind.i64.wrap (h - 1)).toNat default).length:Int)))
         (.j (.c5 h e d s (decide (((e.1.getD h.toNat default).getD 0 default)<=((e.1.getD (IntKind.i64.wrap (h - 1)).toNat default).getD 0 default))))) .n) .n) .n) .n)
     (.j (.c5 h e d s false)))) .n)
  (.j (.c8 d s))
 | .c3 e d y=>
  .j (.c4 e d 0 y)
 | .c2 e d u v=>
  .c (decide (u<(d.1.length:Int)))
  (.c (decide (0<=u)&&decide (u<((v:List Int).length:Int)))
   (.j (.c2 e d (IntKind.i64.wrap (u+1)) ((v:List Int).set u.toNat (-1)))) .n)
  (.j (.c3 e d v))
 | .c1 e d aa=>
  .c aa
  (.r false)
  (.c (decide (0<=(d.1.length:Int))&&(decide ((d.1.length:Int)<=(lim:Int))&&decide ((d.1.length:Int)=(d.1.length:Int))))
   (.j (.c2 e d 0 (List.replicate (d.1.length:Int).toNat (0:Int)))) .n)
def pt:Pt->List Dir×St E
 | .c7 h i e d p z=>([.r,.r,.r,.r,.r,.r,.r,.l,.r,.k,.L,.r,.l,.k,.r,.r,.k,.L,.r,.l,.k,.r,.l],ms 177 177 [(5,hL (.sl (.int .i64)) e.1),(7,hT 100007 9 .str d.1),(9,.one (.rw 46 3 none)),(11,hI h),(12,hI i),(13,hI ((e.1.getD h.toNat default).getD i.toNat default)),(134,hB z)] [(46,.rw 46 3 (.int .i64) p)])
 | .c6 h e d i p=>([.r,.r,.r,.r,.r,.r,.r,.l,.r,.k,.L,.r,.l,.k,.r,.r,.k],ms 177 177 [(5,hL (.sl (.int .i64)) e.1),(7,hT 100007 9 .str d.1),(9,.one (.rw 46 3 none)),(11,hI h),(12,hI i)] [(46,.rw 46 3 (.int .i64) p)])
 | .c5 h e d s ab=>([.r,.r,.r,.r,.r,.r,.r,.l,.r,.k,.L,.r,.l,.k,.l],ms 177 177 [(5,hL (.sl (.int .i64)) e.1),(7,hT 100007 9 .str d.1),(9,.one (.rw 46 3 none)),(11,hI h),(87,hB ab)] [(46,.rw 46 3 (.int .i64) s)])
 | .c10 m d o t=>([.r,.r,.r,.r,.r,.r,.r,.r,.l,.r,.k,.L,.r,.l,.k,.r,.k],ms 177 177 [(7,hT 100007 9 .str d.1),(9,.one (.rw 46 3 none)),(14,hI m),(15,hI t)] [(46,.rw 46 3 (.int .i64) o)])
 | .c11=>([.r,.r,.r,.r,.r,.r,.r,.r],ms 177 177 [])
 | .c9 d o m=>([.r,.r,.r,.r,.r,.r,.r,.r,.l,.r,.k],ms 177 177 [(7,hT 100007 9 .str d.1),(9,.one (.rw 46 3 none)),(14,hI m)] [(46,.rw 46 3 (.int .i64) o)])
 | .c8 d o=>([.r,.r,.r,.r,.r,.r,.r],ms 177 177 [(7,hT 100007 9 .str d.1),(9,.one (.rw 46 3 none))] [(46,.rw 46 3 (.int .i64) o)])
 | .c4 e d h s=>([.r,.r,.r,.r,.r,.r,.r,.l,.r,.k],ms 177 177 [(5,hL (.sl (.int .i64)) e.1),(7,hT 100007 9 .str d.1),(9,.one (.rw 46 3 none)),(11,hI h)] [(46,.rw 46 3 (.int .i64) s)])
 | .c3 e d y=>([.r,.r,.r,.r,.r,.r],ms 177 177 [(5,hL (.sl (.int .i64)) e.1),(7,hT 100007 9 .str d.1),(9,.one (.rw 46 3 none))] [(46,.rw 46 3 (.int .i64) y)])
 | .c2 e d u v=>([.r,.r,.r,.r,.r,.r,.l,.r,.k],ms 177 177 [(5,hL (.sl (.int .i64)) e.1),(7,hT 100007 9 .str d.1),(9,.one (.rw 46 3 none)),(10,hI u)] [(46,.rw 46 3 (.int .i64) v)])
 | .c1 e d aa=>([.r,.r,.r,.r,.l],ms 177 177 [(5,hL (.sl (.int .i64)) e.1),(7,hT 100007 9 .str d.1),(43,hB aa)])
theorem g:D.G st pt:=fun Z a=>by cases a <;> kernel_rfl
theorem g0:D.G0 go pt:=fun Z ⟨_,_⟩=>by kernel_rfl
abbrev con:Con Tryz.prog E:=FD.con Tryz.func8 (by kernel_rfl) g g0
end l11_MorphologySyncretic
def l11_MorphologySyncretic (w:aWords) (x:List UInt8):Option (Bool):=ev (l11_MorphologySyncretic.go (w,x)) (fx l11_MorphologySyncretic.st)
end Go.Ai.Mor
end

namespace Go.Ai.Mor
open Go Go.Ai
theorem admits_eq {x:aItem} (l:aLetter):pattern_admits x l=some (admL x l):=by
 have l2:∀ b,fx pattern_admits.st (.c2 x b)=some (b != x.fNegated):=fun b=>by
  rw [fx_eq]; simp only [pattern_admits.st,evs]; cases b <;> cases x.fNegated <;> rfl
 have l1:fx pattern_admits.st (.c1 l x false 0)=some (((runesL x.fLetters).any fun r=>decide ((r:Int)=l.fRune)) != x.fNegated):=by
  have:=overR (s:=x.fLetters) (f:=fun p (h:Bool)=>fx pattern_admits.st (.c1 l x h p)) (g:=fun rs h=>some ((h||rs.any fun r=>decide ((r:Int)=l.fRune)) != x.fNegated)) (fun p h hp=>by
   rw [fx_eq]; simp only [pattern_admits.st,evs,l2]; rw [cneg hp]; simp) (fun p r rs h hp hr ih=>by
   rw [fx_eq]; simp only [pattern_admits.st,evs]
   rw [cpos hp,hr,ih,ih,List.any_cons]
   cases h <;> simp) false
  simpa using this
 simp only [pattern_admits,pattern_admits.go,evs,l1,l2,admL]
 cases decide (IntKind.u32.wrap (((BitVec.ofInt IntKind.u32.bits l.fClasses &&& BitVec.ofInt IntKind.u32.bits x.fMask).toNat:Int))=x.fMask) <;> cases decide (x.fLetters=[]) <;> simp
theorem mapO_map {α β:Type} {f:α->Option β} {g:α->β} : ∀ {xs:List α},(∀ x ∈ xs,f x=some (g x))->mapO f xs=some (xs.map g)
 | [],_=>rfl
 | x::xs,h=>by simp only [mapO,h x (by simp),Option.bind_some,mapO_map fun y hy=>h y (List.mem_cons_of_mem _ hy),List.map_cons]
theorem machine_eq {a:List aLetter} (ha:a.length<=1048576) {p:List aItem} (hp:p.length<=1048576):pattern_machine a p=some (p.map fun x=>a.map (admL x)):=by
 unfold pattern_machine
 rw [cpos2 (by simp only [len,len0]; omega) (by simp only [len,len0]; omega)]
 exact mapO_map fun x _=>mapO_map fun l _=>admits_eq l
theorem bitT:∀ n:Nat,n<16 -> ∀ k:Nat,k<4->decide (IntKind.u8.wrap (((BitVec.ofInt IntKind.u8.bits (Int.fdiv (n:Int) (2 ^ (min k IntKind.u8.bits))) &&& BitVec.ofInt IntKind.u8.bits 1).toNat:Int))=1)=n.testBit k:=by decide +kernel
theorem bitF:∀ n:Nat,n<16 -> ∀ k:Nat,k<4->decide (IntKind.u8.wrap (((BitVec.ofInt IntKind.u8.bits (Int.fdiv (n:Int) (2 ^ (min k IntKind.u8.bits))) &&& BitVec.ofInt IntKind.u8.bits 1).toNat:Int))=0) = !n.testBit k:=by decide +kernel
theorem setB:∀ n:Nat,n<16 -> ∀ k:Nat,k<4->IntKind.u8.wrap (((BitVec.ofInt IntKind.u8.bits (n:Int) ||| BitVec.ofInt IntKind.u8.bits (IntKind.u8.wrap (1*2 ^ (min k IntKind.u8.bits)))).toNat:Int))=((n ||| 2 ^ k:Nat):Int):=by decide +kernel
theorem or_lt {n k:Nat} (hn:n<16) (hk:k<4):n ||| 2 ^ k<16:=Nat.or_lt_two_pow (n:=4) hn (Nat.pow_lt_pow_right (by omega) hk)
theorem bit_or (n d k:Nat):(n ||| 2 ^ d).testBit k=(n.testBit k||decide (d=k)):=by rw [Nat.testBit_or,Nat.testBit_two_pow]
def clN:Nat->List aItem->Nat->Nat
 | _,[],n=>n
 | d,x::t,n=>clN (d+1) t (cond (rep x&&n.testBit d) (n ||| 2 ^ (d+1)) n)
def nxN (m:Nat) (ok:Nat->Bool):Nat->List aItem->Nat->Nat
 | _,[],s=>s
 | o,x::t,s=>nxN m ok (o+1) t (cond (m.testBit o&&ok o) (cond (rep x) (s ||| 2 ^ o) (s ||| 2 ^ (o+1))) s)
theorem clN_lt:∀ (t:List aItem) (d n:Nat),d+t.length<=3->n<16->clN d t n<16
 | [],_,_,_,h=>h
 | x::t,d,n,hd,hn=>by
   simp only [List.length_cons] at hd
   simp only [clN]
   refine clN_lt t (d+1) _ (by omega) ?_
   cases rep x&&n.testBit d with
   | true=>exact or_lt hn (by omega)
   | false=>exact hn
theorem nxN_lt (m:Nat) (ok:Nat->Bool):∀ (t:List aItem) (o s:Nat),o+t.length<=3->s<16->nxN m ok o t s<16
 | [],_,_,_,h=>h
 | x::t,o,s,hd,hn=>by
   simp only [List.length_cons] at hd
   simp only [nxN]
   refine nxN_lt m ok t (o+1) _ (by omega) ?_
   cases m.testBit o&&ok o with
   | true=>cases rep x with
     | true=>exact or_lt hn (by omega)
     | false=>exact or_lt hn (by omega)
   | false=>exact hn
theorem clN_cl (p:List aItem) (n:Nat):∀ (t:List aItem) (d m:Nat),p.drop d=t->(∀ k,k<=d->m.testBit k=cl rep n.testBit p k)->(∀ k,d<k->m.testBit k=n.testBit k) -> ∀ k,k<=d+t.length->(clN d t m).testBit k=cl rep n.testBit p k
 | [],d,m,_,h1,_,k,hk=>h1 k (by simpa using hk)
 | x::t,d,m,ht,h1,h2,k,hk=>by
   simp only [List.length_cons] at hk
   have hx:p[d]? = some x:=by
    have:(p.drop d)[0]? = some x:=by rw [ht]; rfl
    simpa using this
   have ht' : p.drop (d+1)=t:=by rw [<- List.drop_drop,ht]; rfl
   have hb:∀ j,(cond (rep x&&m.testBit d) (m ||| 2 ^ (d+1)) m).testBit j=(m.testBit j||((rep x&&m.testBit d)&&decide (d+1=j))):=fun j=>by
    cases rep x&&m.testBit d with
    | true=>rw [cond_true,bit_or]; simp
    | false=>simp
   simp only [clN]
   refine clN_cl p n t (d+1) _ ht' (fun j hj => ?_) (fun j hj => ?_) k (by omega)
   ·rw [hb]
    by_cases e:d+1=j
    ·subst e
     simp only [cl,hx,h2 (d+1) (by omega),<- h1 d (Nat.le_refl _),decide_true,Bool.and_true]
     rw [Bool.and_comm]
    ·rw [h1 j (by omega)]; simp [e]
   ·rw [hb,h2 j (by omega)]
    have : ¬ d+1=j:=by omega
    simp [this]
theorem nxN_nxt {β:Type} (adm:aItem->β->Bool) (c:β) (p:List aItem) (m:Nat) (ok:Nat->Bool) (hok:∀ o x,p[o]? = some x->ok o=adm x c):∀ (t:List aItem) (o s:Nat),p.drop o=t ->
  (∀ k,s.testBit k=((decide (k<o)&&(match p[k]? with | some x=>m.testBit k&&(adm x c&&rep x) | none=>false))||(match k with | 0=>false | j+1=>decide (j<o)&&(match p[j]? with | some x=>m.testBit j&&(adm x c && !rep x) | none=>false)))) ->
  ∀ k,(nxN m ok o t s).testBit k=nxt rep adm m.testBit p c k
 | [],o,s,ht,hs,k=>by
   have hlen:p.length<=o:=by
    rcases Nat.lt_or_ge o p.length with h | h
    ·rw [List.drop_eq_getElem_cons h] at ht; cases ht
    ·exact h
   simp only [nxN,hs,nxt]
   congr 1
   ·cases hx:p[k]? with
    | none=>simp
    | some x=>
      have hk:=(List.getElem?_eq_some_iff.1 hx).1
      have:k<o:=by omega
      simp [this]
   ·cases k with
    | zero=>rfl
    | succ j=>
      dsimp only
      cases hx:p[j]? with
      | none=>simp
      | some x=>
        have hk:=(List.getElem?_eq_some_iff.1 hx).1
        have:j<o:=by omega
        simp [this]
 | x::t,o,s,ht,hs,k=>by
   have hx:p[o]? = some x:=by
    have:(p.drop o)[0]? = some x:=by rw [ht]; rfl
    simpa using this
   have ht' : p.drop (o+1)=t:=by rw [<- List.drop_drop,ht]; rfl
   simp only [nxN]
   refine nxN_nxt adm c p m ok hok t (o+1) _ ht' (fun j => ?_) k
   rw [hok o x hx]
   have e1:(cond (m.testBit o&&adm x c) (cond (rep x) (s ||| 2 ^ o) (s ||| 2 ^ (o+1))) s).testBit j=(s.testBit j||((decide (o=j)&&(m.testBit o&&(adm x c&&rep x)))||(decide (o+1=j)&&(m.testBit o&&(adm x c && !rep x))))):=by
    cases m.testBit o <;> cases adm x c <;> cases rep x <;> simp [bit_or,Nat.testBit_two_pow]
   rw [e1,hs j]
   cases j with
   | zero=>
     by_cases h0:o=0
     ·subst h0; simp [hx]
     ·have:0<o:=by omega
      simp [h0,this]
   | succ j=>
     have a1:decide (j+1<o+1)=(decide (j+1<o)||decide (o=j+1)):=by
      by_cases h1:o=j+1
      ·simp [h1]
      ·by_cases h2:j+1<o
       ·simp [h2]; omega
       ·simp [h1,h2]; omega
     have a2:decide (j<o+1)=(decide (j<o)||decide (o+1=j+1)):=by
      by_cases h1:o=j
      ·simp [h1]
      ·by_cases h2:j<o
       ·simp [h2]; omega
       ·simp [h1,h2]; omega
     dsimp only
     rw [a1,a2]
     by_cases h1:o=j+1
     ·subst h1
      simp only [hx]
      have : ¬ (j+1+1=j+1):=by omega
      have h3:j<j+1:=by omega
      simp [h3]
      cases m.testBit (j+1) <;> cases adm x c <;> cases rep x <;> simp
     ·by_cases h2:o=j
      ·subst h2
       simp only [hx]
       simp
      ·have : ¬ (o+1=j+1):=by omega
       simp [h1,h2]
section
variable {ι β:Type} {rep:ι->Bool} {adm:ι->β->Bool}
theorem cl_congr {S S' : Nat->Bool} {p:List ι} (h:∀ k,k<=p.length->S k=S' k):∀ k,k<=p.length->cl rep S p k=cl rep S' p k
 | 0,hk=>h 0 hk
 | k+1,hk=>by
   simp only [cl,h (k+1) hk]
   rw [cl_congr h k (by omega)]
theorem nxt_congr {S S' : Nat->Bool} {p:List ι} {c:β} (h:∀ k,k<=p.length->S k=S' k) {k:Nat} (hk:k<=p.length):nxt rep adm S p c k=nxt rep adm S' p c k:=by
 simp only [nxt,h k hk]
 cases k with
 | zero=>rfl
 | succ j=>simp only [h j (by omega)]
end
theorem closed_eq {p:List aItem} (hp:p.length<=3) {n:Nat} (hn:n<16):pattern_closed p (n:Int)=some ((clN 0 p n:Nat):Int):=
 overJ (xs:=p) (f:=fun i (n:Nat)=>fx pattern_closed.st (.c1 p (n:Int) i)) (g:=fun i t n=>some ((clN i t n:Nat):Int)) (I:=fun _ n=>n<16) (fun n _=>by
  rw [fx_eq]; simp only [pattern_closed.st,evs,↓cneg (Int.lt_irrefl _),clN]) (fun i x t n hi hn hx _ _ ih=>by
  have hw:IntKind.i64.wrap ((i:Int)+1)=((i+1:Nat):Int):=wsucc (by omega)
  rw [fx_eq]; simp only [pattern_closed.st,evs,hw,Int.toNat_natCast,hx,bitT n hn i (by omega),setB n hn (i+1) (by omega)]
  rw [cpos (by omega),cpos2 (by omega) (by omega),cneg (by omega),cneg (by omega),ih n hn,ih _ (or_lt hn (by omega))]
  simp only [clN,rep]
  cases x.fRepeated <;> cases n.testBit i <;> rfl) hn
def admI (a:List aLetter) (x:aItem) (c:Int):Bool:=admL x (a.getD c.toNat default)
theorem step_eq {a:List aLetter} {p:List aItem} (hp:p.length<=3) {l:List Int} {h:Nat} (hh:h<l.length) (hc:0<=l.getD h default/\l.getD h default<(a.length:Int)) (t:List Int) {m:Nat} (hm:m<16) :
  fx pattern_lengths.st (.c3 (h:Int) l t p (p.map fun x=>a.map (admL x)) (m:Int) 0 0)=fx pattern_lengths.st (.c4 (h:Int) l t p (p.map fun x=>a.map (admL x)) ((nxN m (fun o=>admI a (p.getD o default) (l.getD h default)) 0 p 0:Nat):Int)):=by
 exact overJ (xs:=p) (f:=fun o (s:Nat)=>fx pattern_lengths.st (.c3 (h:Int) l t p (p.map fun x=>a.map (admL x)) (m:Int) (s:Int) o)) (g:=fun o u s=>fx pattern_lengths.st (.c4 (h:Int) l t p (p.map fun x=>a.map (admL x)) ((nxN m (fun o=>admI a (p.getD o default) (l.getD h default)) o u s:Nat):Int))) (I:=fun _ s=>s<16) (fun s _=>by
  rw [fx_eq]; simp only [pattern_lengths.st,evs,↓cneg (Int.lt_irrefl _),nxN]) (fun o x u s ho hs hx _ _ ih=>by
  have hw:IntKind.i64.wrap ((o:Int)+1)=((o+1:Nat):Int):=wsucc (by omega)
  have hrow:(p.map fun x=>a.map (admL x)).getD o default=a.map (admL x):=by
   have:p[o]=x:=by rw [<- hx]; simp [ho]
   simp [ho,this]
  have hcell:(a.map (admL x)).getD (l.getD h default).toNat default=admI a x (l.getD h default):=by
   unfold admI
   have h2:(l.getD h default).toNat<a.length:=by omega
   generalize (l.getD h default).toNat=q at h2 ⊢
   simp [h2]
  rw [fx_eq]; simp only [pattern_lengths.st,evs,hw,Int.toNat_natCast,hx,bitF m hm o (by omega),setB s hs o (by omega),setB s hs (o+1) (by omega),hrow,hcell,List.length_map]
  rw [cpos (by omega),cpos2 (by omega) (by omega),cneg (by omega),cpos2 (by omega) (by omega),cpos2 hc.1 hc.2,cneg (by omega),cneg (by omega),ih s hs,ih _ (or_lt hs (by omega)),ih _ (or_lt hs (by omega))]
  simp only [nxN,hx,rep]
  cases m.testBit o <;> cases admI a x (l.getD h default) <;> cases x.fRepeated <;> rfl) (s:=0) (by omega)
theorem lengths_eq {a:List aLetter} (ha:a.length<=1048576) {p:List aItem} (hp:p.length<=3) {l:List Int} (hl:l.length<=1048576) (hc:∀ c ∈ l,0<=c/\c<(a.length:Int)) :
  pattern_lengths a p l=some ((lens rep (admI a) p l).map fun n:Nat=>(n:Int)):=by
 have loop:∀ (d h m:Nat) (t:List Int),h+d=l.length+1->h<=l.length->m<16->(∀ k,k<=p.length->m.testBit k=plc rep (admI a) p (l.take h) (plc0 rep p) k)->t.length<=h ->
   fx pattern_lengths.st (.c1 l p (p.map fun x=>a.map (admL x)) t (m:Int) (h:Int))=some (t++(lensF rep (admI a) p l d h).map fun n:Nat=>(n:Int)):=by
  intro d
  induction d with
  | zero=>intro h m t h1 h2; omega
  | succ d ih=>
    intro h m t h1 h2 hm hst ht
    have hb:m.testBit p.length=mt rep (admI a) p (l.take h):=by rw [hst _ (Nat.le_refl _),plc_final]
    have hw:IntKind.i64.wrap ((h:Int)+1)=((h+1:Nat):Int):=wsucc (by omega)
    have l2:∀ t' : List Int,t'.length<=h+1->fx pattern_lengths.st (.c2 (h:Int) l p (p.map fun x=>a.map (admL x)) (m:Int) t')=some (t' ++ (lensF rep (admI a) p l d (h+1)).map fun n:Nat=>(n:Int)):=by
     intro t' ht'
     rw [fx_eq]; simp only [pattern_lengths.st,evs]
     by_cases he:h=l.length
     ·rw [cpos (by omega)]
      have:d=0:=by omega
      subst this
      simp [lensF]
     ·rw [cneg (by omega)]
      by_cases h0:m=0
      ·rw [cpos (by omega),lensF_none]
       ·simp
       ·intro j hj
        have e:l.take j=l.take h++(l.take j).drop h:=by
         have:=List.take_append_drop h (l.take j)
         rw [List.take_take,show min h j=h by omega] at this
         exact this.symm
        rw [e]
        exact plc_none rep (admI a) p _ _ fun k hk=>by rw [<- hst k hk,h0]; simp
      ·rw [cneg (by omega),cpos2 (by omega) (by omega)]
       have hcc:=hc (l.getD h default) (getD_mem (by omega))
       rw [step_eq hp (by omega) hcc _ hm,fx_eq]
       simp only [pattern_lengths.st,evs,ev_b,hw]
       have hn:=nxN_lt m (fun o=>admI a (p.getD o default) (l.getD h default)) p 0 0 (by omega) (by omega)
       rw [closed_eq hp hn,Option.bind_some]
       refine ih (h+1) _ t' (by omega) (by omega) (clN_lt p 0 _ (by omega) hn) (fun k hk => ?_) ht'
       have htk:l.take (h+1)=l.take h++[l.getD h default]:=by
        rw [List.take_succ_eq_append_getElem (by omega)]
        have:l.getD h default=l[h]'(by omega):=by simp [show h<l.length by omega]
        rw [this]
       rw [htk,plc_snoc,clN_cl p _ p 0 _ rfl (fun k hk => ?_) (fun k _=>rfl) k (by omega)]
       ·refine cl_congr (fun k hk => ?_) k hk
        rw [nxN_nxt (admI a) (l.getD h default) p m _ (fun o x hx=>by
         have:p.getD o default=x:=by simp [hx]
         rw [this]) p 0 0 rfl (fun k => ?_) k]
        ·exact nxt_congr hst hk
        ·cases k <;> simp
       ·have:k=0:=by omega
        subst this; rfl
    rw [fx_eq]; simp only [pattern_lengths.st,evs,Int.toNat_natCast,bitT m hm p.length (by omega),hb]
    rw [cneg (by omega),cpos (by simp only [len,len0]; omega),l2 _ (by simp; omega),l2 t (by omega)]
    simp only [lensF]
    cases mt rep (admI a) p (l.take h) <;> simp
 have h16:clN 0 p 1<16:=clN_lt p 0 1 (by omega) (by omega)
 have hcl:=closed_eq hp (n:=1) (by omega)
 rw [show ((1:Nat):Int)=1 from rfl] at hcl
 simp only [pattern_lengths,pattern_lengths.go,evs,ev_b,machine_eq ha (show p.length<=1048576 by omega),hcl,Option.bind_some]
 have h0:∀ k,k<=0->(1:Nat).testBit k=cl rep (fun i=>(1:Nat).testBit i) p k:=fun k hk=>by
  have:k=0:=by omega
  subst this
  rfl
 have hst:∀ k,k<=p.length->(clN 0 p 1).testBit k=plc rep (admI a) p (l.take 0) (plc0 rep p) k:=fun k hk=>by
  rw [List.take_zero,plc,plc0,clN_cl p 1 p 0 1 rfl h0 (fun k _=>rfl) k (by omega)]
  refine cl_congr (fun k _ => ?_) k hk
  have:=Nat.testBit_two_pow (n:=0) (m:=k)
  rw [Nat.pow_zero] at this
  rw [this]
  exact decide_eq_decide.2 ⟨fun h=>h.symm,fun h=>h.symm⟩
 have:=loop (l.length+1) 0 (clN 0 p 1) [] (by omega) (by omega) h16 hst (Nat.zero_le _)
 simpa [lens] using this
end Go.Ai.Mor

set_option maxRecDepth 100000
noncomputable section
namespace Go.Ai.Mor
open Go Go.Ai Go.Proofs
namespace l11_MorphologyCheck
inductive Pt
def D:FD pd := {f:=3,fn:=Tryz.f3,q:=15,ps:=[(.st .aWords)],rs:=[.bool],ex:=[none],cs:=[l11_small.con,l11_awake.con,morphology_Check.con,r11_Check.con]}
def go:(aWords)->Tr Pt (Bool)
 | d=>
  .b (l11_small d) fun i=>
  .c (!i)
  (.b l11_awake fun j=>
   .r j)
  (.b l11_awake fun k=>
   .c k
   (.b (morphology_Check d) fun e=>
    .b (r11_Check d) fun h=>
    .r (decide (e=h)))
   (.r false))
def st:Pt->Tr Pt (Bool):=nofun
def pt:Pt->List Dir×St E:=nofun
theorem g:D.G st pt:=fun Z a=>by cases a <;> kernel_rfl
theorem g0:D.G0 go pt:=fun Z _=>by kernel_rfl
abbrev con:Con Tryz.prog E:=FD.con Tryz.func3 (by kernel_rfl) g g0
end l11_MorphologyCheck
def l11_MorphologyCheck (d:aWords):Option (Bool):=ev (l11_MorphologyCheck.go d) (fx l11_MorphologyCheck.st)
end Go.Ai.Mor
end

namespace Go.Ai.Mor
open Go Go.Ai
theorem letters_isWord_eq {a:List aLetter} (ha:a.length<=1048576) {s:List UInt8} (hs:s.length<=4194304):rewrite_letters_isWord a s=some (wordB a s):=by
 simp only [rewrite_letters_isWord,rewrite_letters_isWord.go,evs,ev_b,valStr (show s.length<=1099511627776 by omega),Option.bind_some,cnot,wordB]
 cases Lib.validD s with
 | false=>rfl
 | true=>
   simp only [cond_true,Bool.true_and]
   have key:=overRJ (s:=s) (f:=fun q (n:Nat)=>fx rewrite_letters_isWord.st (.c1 a s (n:Int) q)) (g:=fun rs n=>some ((rs.all fun c=>inA a (c:Int))&&decide (n+rs.length<=40\/rs=[]))) (I:=fun q n=>n<=q) (fun q n hq _=>by
    rw [fx_eq]; simp only [rewrite_letters_isWord.st,evs]; rw [cneg hq]; simp) (fun q c rs n hq hI hc h1 ih=>by
    rw [fx_eq]; simp only [rewrite_letters_isWord.st,evs,ev_b]
    rw [cpos hq,hc,wsucc (by omega),letters_has_eq ha,Option.bind_some,cnot,ih (n+1) (by omega)]
    by_cases h4:40<n+1
    ·rw [cpos (by omega)]
     have:decide (n+(c::rs).length<=40\/c::rs=[])=false:=by simp; omega
     rw [this]; simp
    ·rw [cneg (by omega)]
     have:decide (n+(c::rs).length<=40\/c::rs=[])=decide (n+1+rs.length<=40\/rs=[]):=by
      refine decide_eq_decide.2 ⟨fun h => ?_,fun h => .inl ?_⟩
      ·rcases h with h | h
       ·simp only [List.length_cons] at h; left; omega
       ·cases h
      ·rcases h with h | rfl
       ·simp only [List.length_cons]; omega
       ·simp; omega
     rw [this,List.all_cons]
     cases inA a (c:Int) <;> rfl) (x:=0) (Nat.le_refl _)
   refine key.trans ?_
   congr 2
   exact decide_eq_decide.2 ⟨fun h=>by
    rcases h with h | h
    ·omega
    ·rw [h]; simp,fun h => .inl (by omega)⟩
theorem applyW_len (a:List aLetter) (r:aRule) (s:List UInt8):(applyW a r s).1.length<=160:=by
 unfold applyW
 cases ruleB a r&&wordB a s with
 | false=>simp
 | true=>
   by_cases h:(applyS a r (runesL s)).length<=40
   ·have:=encs_len (applyS a r (runesL s))
    simp only [h,decide_true,cond_true]; omega
   ·simp [h]
def trS (a:List aLetter):List aRule->List (List UInt8)->List (List UInt8)×Int
 | [],i=>(i,0)
 | r::t,i=>cond (decide ((applyW a r (i.getLastD [])).2=0)) (trS a t (i++[(applyW a r (i.getLastD [])).1])) ([],(applyW a r (i.getLastD [])).2)
theorem trS_run (a:List aLetter):∀ (t:List aRule) (pre:List (List UInt8)) (u:List UInt8),
  ((runS a t u).2=0 /\ ∃ pre',trS a t (pre++[u])=(pre' ++ [(runS a t u).1],0)/\pre'.length=pre.length+t.length)\/((runS a t u).2≠0/\(runS a t u).1=[]/\trS a t (pre++[u])=([],(runS a t u).2))
 | [],pre,u => .inl ⟨rfl,pre,rfl,rfl⟩
 | r::t,pre,u=>by
   have e:(pre++[u]).getLastD []=u:=by simp
   simp only [runS,trS,e]
   by_cases h:(applyW a r u).2=0
   ·rw [cpos h,cpos h]
    rcases trS_run a t (pre++[u]) (applyW a r u).1 with ⟨h1,pre',h2,h3⟩ | h1
    ·exact .inl ⟨h1,pre',h2,by rw [h3]; simp; omega⟩
    ·exact .inr h1
   ·rw [cneg h,cneg h]
    exact .inr ⟨h,rfl,rfl⟩
theorem Trace_eq {a:List aLetter} (ha:a.length<=1048576) {rs:List aRule} (hr:∀ r ∈ rs,okRule r) (hA:∀ r ∈ rs,∀ u:List UInt8,u.length<=4194304->rewrite_Apply a r u=some (applyW a r u)) {u:List UInt8} (hu:u.length<=4194304) :
  rewrite_Trace a rs u=some (cond (cascB a rs u) (trS a rs [u]) ([],1)):=by
 simp only [rewrite_Trace,rewrite_Trace.go,evs,ev_b,letters_adm_eq ha,letters_isWord_eq ha hu,Option.bind_some,cnot,cascB]
 by_cases h64:rs.length<=64
 ·rw [cneg (by omega)]
  simp only [h64,decide_true,Bool.true_and]
  have h3:fx rewrite_Trace.st (.c3 a rs [u] 0)=some (trS a rs [u]):=
   overJ (xs:=rs) (f:=fun o (i:List (List UInt8))=>fx rewrite_Trace.st (.c3 a rs i o)) (g:=fun _ t i=>some (trS a t i)) (I:=fun o i => ∃ pre v,i=pre++[v]/\v.length<=4194304/\i.length=o+1) (fun i _=>by
    rw [fx_eq]; simp only [rewrite_Trace.st,evs,↓cneg (Int.lt_irrefl _),trS]) (fun o r t i ho hI hx _ _ ih=>by
    obtain ⟨pre,v,rfl,hv,hl⟩:=hI
    have hrm:r ∈ rs:=by rw [<- hx]; exact getD_mem ho
    have hw:IntKind.i64.wrap (((pre++[v]).length:Int) - 1)=(pre.length:Int):=by
     have:(pre++[v]).length=pre.length+1:=by simp
     rw [wrap64] <;> omega
    have hlp:pre.length<(pre++[v]).length:=by simp
    have hg:(pre++[v]).getD pre.length default=v:=by simp
    have e:(pre++[v]).getLastD []=v:=by simp
    have hal:=applyW_len a r v
    rw [fx_eq]; simp (disch:=omega) only [rewrite_Trace.st,evs,ev_b,↓cpos,↓cpos2,Int.toNat_natCast,hx,hw,hg,hA r hrm v hv,Option.bind_some,cnot,trS,e,wsucc]
    by_cases h0:(applyW a r v).2=0
    ·rw [cpos h0,cpos h0,cpos (by simp only [len,len0] at *; omega),ih _ ⟨pre++[v],_,rfl,by omega,by simp at hl ⊢; omega⟩]
    ·rw [cneg h0,cneg h0]) (s:=[u]) ⟨[],u,rfl,hu,rfl⟩
  have h1:fx rewrite_Trace.st (.c1 a rs u 0)=some (cond (rs.all (ruleB a)) (trS a rs [u]) ([],1)):=
   over (xs:=rs) (f:=fun o (_:Unit)=>fx rewrite_Trace.st (.c1 a rs u o)) (g:=fun t _=>some (cond (t.all (ruleB a)) (trS a rs [u]) ([],1))) (fun _=>by
    rw [fx_eq]; simp only [rewrite_Trace.st,evs,↓cneg (Int.lt_irrefl _),fx_eq rewrite_Trace.st (.c2 ..),h3,List.all_nil,cond_true]) (fun o r t _ ho hx ih=>by
    have ih:=ih ()
    have hro:=hr r (by rw [<- hx]; exact getD_mem ho)
    rw [fx_eq]; simp (disch:=omega) only [rewrite_Trace.st,evs,ev_b,↓cpos,↓cpos2,Int.toNat_natCast,hx,rewrite_Valid_eq ha hro,Option.bind_some,cnot,wsucc,ih,List.all_cons]
    cases ruleB a r <;> rfl) ()
  rw [h1]
  cases admB a <;> cases wordB a u <;> rfl
 ·rw [cpos (by omega)]; simp [h64]
theorem Cascade_eq {a:List aLetter} (ha:a.length<=1048576) {rs:List aRule} (hr:∀ r ∈ rs,okRule r) (hA:∀ r ∈ rs,∀ u:List UInt8,u.length<=4194304->rewrite_Apply a r u=some (applyW a r u)) {u:List UInt8} (hu:u.length<=4194304) :
  rewrite_Cascade a rs u=some (cascS a rs u):=by
 simp only [rewrite_Cascade,rewrite_Cascade.go,evs,ev_b,Trace_eq ha hr hA hu,Option.bind_some,cnot,cascS]
 cases hb:cascB a rs u with
 | false=>rfl
 | true=>
   simp only [cond_true]
   rcases trS_run a rs [] u with ⟨h1,pre',h2,h3⟩ | ⟨h1,h2,h3⟩
   ·rw [List.nil_append] at h2
    have hl:(pre' ++ [(runS a rs u).1]).length=pre'.length+1:=by simp
    have hrl:rs.length<=64:=by simp only [cascB,Bool.and_eq_true,decide_eq_true_eq] at hb; exact hb.1
    have hw:IntKind.i64.wrap (((pre' ++ [(runS a rs u).1]).length:Int) - 1)=(pre'.length:Int):=by
     simp only [List.length_nil] at h3
     rw [wrap64] <;> omega
    rw [h2]
    dsimp only
    simp only [hw]
    rw [cpos trivial,cpos2 (by omega) (by omega),Int.toNat_natCast]
    congr 1
    refine Prod.ext ?_ h1.symm
    simp
   ·rw [List.nil_append] at h3
    rw [h3]
    dsimp only
    rw [cneg h1]
    congr 1
    exact Prod.ext h2.symm rfl
def boats:aWords:=⟨[⟨97,1⟩,⟨101,1⟩,⟨116,2⟩,⟨107,2⟩],[],[⟨[110,111,117,110],[⟨[110,117,109,98,101,114],[[115,103],[112,108]]⟩],[[⟨[⟨[110,117,109,98,101,114],[112,108]⟩],[],[116]⟩]]⟩],[⟨[98,111,97,116],[110],[107,97,101],[110,111,117,110],[]⟩,⟨[98,111,97,116,115],[110],[107,97,101,116],[],[]⟩,⟨[116,101,97],[110],[116,101],[110,111,117,110],[]⟩]⟩
theorem boats_eq:l11_boats=some boats:=rfl
theorem okR_nil:okR []:=⟨by simp,fun f h=>by cases h⟩
theorem ok_boats:OkW boats where
 al:=by decide
 rl:=by decide
 rules:=fun r h=>by cases h
 pl:=by decide
 pars:=fun p h=>by
  simp only [boats,List.mem_cons,List.not_mem_nil,or_false] at h
  subst h
  refine ⟨by decide,⟨by decide,fun d hd => ?_⟩,⟨by decide,fun s hs => ?_⟩,by decide⟩
  ·simp only [List.mem_cons,List.not_mem_nil,or_false] at hd
   subst hd
   exact ⟨by decide,by decide,by decide⟩
  ·simp only [List.mem_cons,List.not_mem_nil,or_false] at hs
   subst hs
   refine ⟨by decide,fun x hx => ?_⟩
   simp only [List.mem_cons,List.not_mem_nil,or_false] at hx
   subst hx
   exact ⟨⟨by decide,fun f hf=>by simp only [List.mem_cons,List.not_mem_nil,or_false] at hf; subst hf; exact ⟨by decide,by decide⟩⟩,by decide,by decide,by decide⟩
 ll:=by decide
 lexs:=fun x h=>by
  simp only [boats,List.mem_cons,List.not_mem_nil,or_false] at h
  rcases h with rfl | rfl | rfl <;> exact ⟨by decide,by decide,by decide,by decide,okR_nil⟩
theorem HC_boats:HC boats:=fun _ hu=>Cascade_eq (by decide) (fun r h=>by cases h) (fun r h=>by cases h) hu
theorem boats_check:checkS boats=0:=by decide +kernel
theorem boats_parts:partsB boats=true:=by decide +kernel
theorem boats_forms:formsS boats [98,111,97,116]=([[107,97,101],[107,97,101,116]],0):=by decide +kernel
theorem boats_an:anS boats [107,97,101,116]=([⟨[98,111,97,116],[⟨[110,117,109,98,101,114],[112,108]⟩]⟩,⟨[98,111,97,116,115],[]⟩],0):=by decide +kernel
theorem boats_am:anS boats [116,101]=([⟨[116,101,97],[⟨[110,117,109,98,101,114],[115,103]⟩]⟩],0):=by decide +kernel
theorem awake_eq:l11_awake=some true:=by
 simp only [l11_awake,l11_awake.go,evs,ev_b,boats_eq,Option.bind_some]
 rw [Forms_eq ok_boats boats_parts HC_boats,boats_forms,Analyses_eq ok_boats boats_parts HC_boats (by decide),boats_an,Ambiguity_eq ok_boats boats_parts HC_boats (by decide),boats_am,morphology_Check_eq ok_boats,boats_check]
 simp only [Option.bind_some]
 rw [ref03_Texts_eq (by decide),ref11_Same_eq (by decide) (by decide)]
 rfl
def smP (p:aParadigm):Bool:=decide (p.fDimensions.length<=3)&&(decide (p.fSlots.length<=4)&&((p.fDimensions.all fun d=>decide (d.fValues.length<=4))&&((p.fSlots.all fun s=>decide (s.length<=6))&&decide (prod p.fDimensions<=16))))
def smallB (w:aWords):Bool:=decide (w.fAlphabet.length<=12)&&(decide (w.fRules.length<=4)&&(decide (w.fParadigms.length<=4)&&(decide (w.fLexemes.length<=8)&&w.fParadigms.all smP)))
theorem small_eq {w:aWords} (hw:OkW w):l11_small w=some (smallB w):=by
 simp only [l11_small,l11_small.go,evs,smallB]
 by_cases h1:w.fAlphabet.length<=12
 ·by_cases h2:w.fRules.length<=4
  ·by_cases h3:w.fParadigms.length<=4
   ·by_cases h4:w.fLexemes.length<=8
    ·rw [cneg (by omega),cneg (by omega),cneg (by omega),cneg (by omega)]
     simp only [h1,h2,h3,h4,decide_true,Bool.true_and]
     exact over (xs:=w.fParadigms) (f:=fun i (_:Unit)=>fx l11_small.st (.c1 w i)) (g:=fun t _=>some (t.all smP)) (fun _=>by
      rw [fx_eq]; simp only [l11_small.st,evs,↓cneg (Int.lt_irrefl _),List.all_nil]) (fun d p t _ hd hp ih=>by
      have ih:=ih ()
      have hpo:=hw.pars p (by rw [<- hp]; exact getD_mem hd)
      rw [fx_eq]; simp (disch:=omega) only [l11_small.st,evs,↓cpos,↓cpos2,Int.toNat_natCast,hp,List.all_cons]
      by_cases g1:p.fDimensions.length<=3
      ·by_cases g2:p.fSlots.length<=4
       ·rw [cneg (by omega),cneg (by omega)]
        have h5:∀ e:Nat,fx l11_small.st (.c5 (e:Int) d w)=cond (decide (e<=16)) (some (t.all smP)) (some false):=fun e=>by
         rw [fx_eq]; simp (disch:=omega) only [l11_small.st,evs,wsucc,ih]
         by_cases h:e<=16
         ·rw [cneg (by omega),cpos h]
         ·rw [cpos (by omega),cneg h]
        have h4:∀ e:Nat,fx l11_small.st (.c4 (e:Int) d w 0)=cond (p.fSlots.all fun s=>decide (s.length<=6)) (cond (decide (e<=16)) (some (t.all smP)) (some false)) (some false):=fun e=>
         over (xs:=p.fSlots) (f:=fun i (_:Unit)=>fx l11_small.st (.c4 (e:Int) d w i)) (g:=fun u _=>cond (u.all fun s=>decide (s.length<=6)) (cond (decide (e<=16)) (some (t.all smP)) (some false)) (some false)) (fun _=>by
          rw [fx_eq]; simp only [l11_small.st,evs,Int.toNat_natCast,hp,↓cneg (Int.lt_irrefl _),h5,List.all_nil,cond_true]) (fun i s u _ hi hs ih=>by
          have ih:=ih ()
          rw [fx_eq]; simp (disch:=omega) only [l11_small.st,evs,Int.toNat_natCast,hp,↓cpos,↓cpos2,hs,wsucc,ih,List.all_cons]
          by_cases h6:s.length<=6
          ·rw [cneg (by omega)]; simp [h6]
          ·rw [cpos (by omega)]; simp [h6]) ()
        have h2:=overJ (xs:=p.fDimensions) (f:=fun i (m:Nat)=>fx l11_small.st (.c2 d w (m:Int) i)) (g:=fun _ u m=>cond (u.all fun d=>decide (d.fValues.length<=4)) (fx l11_small.st (.c3 d w ((m*prod u:Nat):Int))) (some false)) (I:=fun i m=>m<=4 ^ i) (fun m _=>by
         rw [fx_eq]; simp only [l11_small.st,evs,Int.toNat_natCast,hp,↓cneg (Int.lt_irrefl _),List.all_nil,cond_true,prod,Nat.mul_one]) (fun i x u m hi hm hx _ _ ih=>by
         have h8:4 ^ i<=4 ^ 2:=Nat.pow_le_pow_right (by omega) (by omega)
         have h8' : (4:Nat) ^ 2=16:=by decide
         rw [fx_eq]; simp (disch:=omega) only [l11_small.st,evs,Int.toNat_natCast,hp,↓cpos,↓cpos2,hx,wsucc,List.all_cons]
         by_cases h4:x.fValues.length<=4
         ·have hb:m*x.fValues.length<=16*4:=Nat.mul_le_mul (by omega) h4
          have hmul:(m:Int)*(x.fValues.length:Int)=((m*x.fValues.length:Nat):Int):=by simp
          have hw' : IntKind.i64.wrap ((m:Int)*(x.fValues.length:Int))=((m*x.fValues.length:Nat):Int):=by rw [hmul,wrap64] <;> omega
          rw [cneg (by omega),hw',ih _ (by rw [Nat.pow_succ]; exact Nat.mul_le_mul hm h4)]
          simp only [h4,decide_true,Bool.true_and,prod,Nat.mul_assoc]
         ·rw [cpos (by omega)]; simp [h4]) (s:=1) (by simp)
        rw [show ((1:Nat):Int)=1 from rfl] at h2
        rw [h2,fx_eq]
        simp only [l11_small.st,evs,Nat.one_mul,h4,smP,g1,g2,decide_true,Bool.true_and]
        cases p.fDimensions.all (fun d=>decide (d.fValues.length<=4)) <;> cases p.fSlots.all (fun s=>decide (s.length<=6)) <;> cases decide (prod p.fDimensions<=16) <;> simp
       ·rw [cneg (by omega),cpos (by omega)]; simp [smP,g2]
      ·rw [cpos (by omega)]; simp [smP,g1]) ()
    ·rw [cneg (by omega),cneg (by omega),cneg (by omega),cpos (by omega)]; simp [h4]
   ·rw [cneg (by omega),cneg (by omega),cpos (by omega)]; simp [h3]
  ·rw [cneg (by omega),cpos (by omega)]; simp [h2]
 ·rw [cpos (by omega)]; simp [h1]
end Go.Ai.Mor

namespace Go.Ai.Mor
open Go Go.Ai
def idxI (a:List aLetter) (r:Int):Int:=fstIdx (fun x:aLetter=>decide (x.fRune=r)) a 0
theorem mget_addK (r:Int):∀ (t:List aLetter) (i:Nat) (m:List (Int×Int)),mget eqI (addK i t m) r=match mget eqI m r with
  | some v=>some v
  | none=>cond (inA t r) (some (fstIdx (fun x:aLetter=>decide (x.fRune=r)) t i)) none
 | [],i,m=>by
   simp only [addK,inA,List.any_nil,cond_false]
   cases mget eqI m r <;> rfl
 | x::t,i,m=>by
   simp only [addK,mget_addK r t (i+1),inA,List.any_cons,fstIdx]
   by_cases e:x.fRune=r
   ·subst e
    cases h:mget eqI m x.fRune with
    | some v=>simp [h]
    | none=>
      simp only [Option.isSome_none,cond_false]
      rw [mget_mput eqI_iff,(eqI_iff _ _).2 rfl]
      simp
   ·have e2:eqI r x.fRune=false:=by
     rw [Bool.eq_false_iff]; intro h; exact e ((eqI_iff _ _).1 h).symm
    have e3:mget eqI (cond (mget eqI m x.fRune).isSome m (mput eqI m x.fRune (i:Int))) r=mget eqI m r:=by
     cases (mget eqI m x.fRune).isSome with
     | true=>rfl
     | false=>rw [cond_false,mget_mput eqI_iff,e2]; rfl
    rw [e3]
    simp [e,inA]
theorem idx_get (a:List aLetter) (r:Int) (h:inA a r=true):(mget eqI (addK 0 a []) r).getD 0=idxI a r:=by
 rw [mget_addK]; simp [mget,h,idxI]
theorem idx_range {a:List aLetter} {r:Int} (h:inA a r=true):0<=idxI a r/\idxI a r<(a.length:Int):=by
 refine ⟨?_,fstIdx_lt _ _⟩
 have:=fstIdx_nonneg (fun x:aLetter=>decide (x.fRune=r)) a 0
 rw [show (a.any fun x=>decide (x.fRune=r))=inA a r from rfl,h] at this
 exact of_decide_eq_true this
theorem admI_admR {a:List aLetter} {r:Nat} (h:inA a (r:Int)=true) (x:aItem):admI a x (idxI a (r:Int))=admR a x r:=by
 unfold admI admR idxI
 rcases fst_find (fun l:aLetter=>decide (l.fRune=(r:Int))) a with ⟨h1,h2⟩ | ⟨j,h1,h2,h3⟩
 ·have:=(idx_range h).1
  unfold idxI at this
  omega
 ·rw [h2,h3,Int.toNat_natCast]
theorem mt_idx {a:List aLetter} {s:List Nat} (h:∀ r ∈ s,inA a (r:Int)=true) (p:List aItem):mt rep (admI a) p (s.map fun r:Nat=>idxI a (r:Int))=matchS a p s:=by
 rw [mt_map]
 exact mt_congr _ _ p s fun x _ r hr=>admI_admR (h r hr) x
theorem overB_in {a:List aLetter} {s:List UInt8} (h:overB a s=true):∀ r ∈ runesL s,inA a (r:Int)=true:=by
 simp only [overB,Bool.and_eq_true,List.all_eq_true] at h
 exact h.2
section
variable {a:List aLetter} (ha:a.length<=1048576) (hadm:admB a=true)
include ha hadm
theorem patVal {p:List aItem} (hp:okItems p) (hb:patB a p=true):pattern_Valid a p=some true:=by
 rw [pattern_Valid_eq ha hp,hb]
 simp only [admB,Bool.and_eq_true] at hadm
 rw [hadm.2.1,hadm.2.2.1,hadm.2.2.2]; rfl
theorem read_eq {p:List aItem} (hp:okItems p) (hb:patB a p=true) {s:List UInt8} (hs:s.length<=1048576):pattern_read a p s=some (cond (overB a s) ((runesL s).map fun r:Nat=>idxI a (r:Int),true) ([],false)):=by
 have l3:fx pattern_read.st (.c3 (addK 0 a []) s [] 0)=some (cond ((runesL s).all fun r=>inA a (r:Int)) ((runesL s).map fun r:Nat=>idxI a (r:Int),true) ([],false)):=by
  have:=overRJ (s:=s) (f:=fun q (o:List Int)=>fx pattern_read.st (.c3 (addK 0 a []) s o q)) (g:=fun rs o=>some (cond (rs.all fun r=>inA a (r:Int)) (o++rs.map fun r:Nat=>idxI a (r:Int),true) ([],false))) (I:=fun q o=>o.length<=q) (fun q o hq _=>by
   rw [fx_eq]; simp only [pattern_read.st,evs]; rw [cneg hq]; simp) (fun q r rs o hq hI hr h1 ih=>by
   rw [fx_eq]; simp only [pattern_read.st,evs]
   rw [cpos hq,hr,cnot,cpos (by simp only [len,len0]; omega),idx_isSome,ih _ (by simp; omega)]
   simp only [List.all_cons,List.map_cons]
   cases h:inA a (r:Int) with
   | false=>rfl
   | true=>rw [idx_get a _ h]; simp) (x:=[]) (Nat.le_refl _)
  simpa using this
 have l2:fx pattern_read.st (.c2 a s (addK 0 a []))=some (cond (overB a s) ((runesL s).map fun r:Nat=>idxI a (r:Int),true) ([],false)):=by
  rw [fx_eq]; simp only [pattern_read.st,evs,ev_b,valStr (show s.length<=1099511627776 by omega),Option.bind_some,cnot,l3,overB]
  cases Lib.validD s <;> rfl
 have l1:=overJ (xs:=a) (f:=fun i (m:List (Int×Int))=>fx pattern_read.st (.c1 a s i m)) (g:=fun i t m=>fx pattern_read.st (.c2 a s (addK i t m))) (I:=fun i m=>keysOk m (a.drop i)=true) (fun m _=>by
  rw [fx_eq]; simp only [pattern_read.st,evs,↓cneg (Int.lt_irrefl _),addK]) (fun i x t m hi hI hx hd hd' ih=>by
  rw [hd] at hI
  simp only [keysOk,List.all_cons,distL,Bool.and_eq_true,Bool.not_eq_true'] at hI
  obtain ⟨⟨g1,g2⟩,g3,g4⟩:=hI
  have hk:(mget eqI m x.fRune).isSome=false:=by rw [mget_isSome]; rw [List.any_map] at g3; exact g3
  have h32 : ¬ x.fRune<=32:=by
   intro h
   have:goodB x.fRune=false:=by simp [goodB]; omega
   rw [g1] at this; cases this
  rw [fx_eq]; simp (disch:=omega) only [pattern_read.st,evs,ev_b,↓cpos,↓cpos2,Int.toNat_natCast,hx,wsucc]
  show cond (mget eqI m x.fRune).isSome _ _=_
  rw [hk,cond_false,cneg h32,validRune_eq _ (by omega),g1,Option.bind_some]
  simp only [Bool.not_true,cond_false,addK,hk]
  refine ih _ ?_
  rw [hd']
  have e:=mput_new x.fRune (i:Int) m hk
  show keysOk (mput eqI m x.fRune (i:Int)) t=true
  rw [e]
  simp only [keysOk,g2,Bool.true_and,List.map_append,List.map_cons,List.map_nil,g4]) (s:=[]) (by
  simp only [admB,Bool.and_eq_true] at hadm
  rw [List.drop_zero,keysOk,hadm.2.2.1]
  exact hadm.2.2.2)
 simp only [pattern_read,pattern_read.go,evs,ev_b,patVal ha hadm hp hb,Option.bind_some]
 exact l1.trans l2
omit hadm in
theorem lens_of {p:List aItem} (hp:p.length<=3) {s:List Nat} (hs:s.length<=1048576) (h:∀ r ∈ s,inA a (r:Int)=true):pattern_lengths a p (s.map fun r:Nat=>idxI a (r:Int))=some ((lens rep (admI a) p (s.map fun r:Nat=>idxI a (r:Int))).map fun n:Nat=>(n:Int)):=
 lengths_eq ha hp (by simpa using hs) fun c hc=>by
  obtain ⟨r,hr,rfl⟩:=List.mem_map.1 hc
  exact idx_range (h r hr)
theorem Matches_eq {p:List aItem} (hp:okItems p) (hb:patB a p=true) {s:List UInt8} (hs:s.length<=1048576) (ho:overB a s=true):pattern_Matches a p s=some (matchS a p (runesL s)):=by
 have h3:p.length<=3:=by simp only [patB,Bool.and_eq_true,decide_eq_true_eq] at hb; exact hb.1
 have hin:=overB_in ho
 have hrl:=runesL_length s
 simp only [pattern_Matches,pattern_Matches.go,evs,ev_b,read_eq ha hadm hp hb hs,ho,cond_true,Option.bind_some,Bool.not_true,cond_false,lens_of ha h3 (show (runesL s).length<=1048576 by omega) hin]
 rw [<- mt_idx hin,<- lens_all]
 simp only [List.length_map]
 generalize hL:lens rep (admI a) p ((runesL s).map fun r:Nat=>idxI a (r:Int))=L
 have hll:L.length<=1048577:=by
  have:=lensF_len rep (admI a) p ((runesL s).map fun r:Nat=>idxI a (r:Int)) (((runesL s).map fun r:Nat=>idxI a (r:Int)).length+1) 0
  rw [<- hL,lens]
  simp only [List.length_map] at this ⊢
  omega
 cases L with
 | nil=>rfl
 | cons x L=>
   have hw:IntKind.i64.wrap ((((x::L).length:Nat):Int) - 1)=(L.length:Int):=by
    simp only [List.length_cons] at hll ⊢
    rw [wrap64] <;> omega
   simp only [hw]
   rw [cpos (by simp only [List.length_cons]; omega),cpos2 (by omega) (by simp only [List.length_cons]; omega),Int.toNat_natCast]
   congr 1
   have e1:((x::L).map fun n:Nat=>(n:Int)).getD L.length default=(((x::L).getLast (by simp):Nat):Int):=by
    rw [List.getLast_eq_getElem,List.getD_eq_getElem?_getD,List.getElem?_map]; simp
   rw [e1,List.getLast?_eq_some_getLast (by simp)]
   exact decide_eq_decide.2 ⟨fun h=>by simp only [Option.some.injEq]; omega,fun h=>by simp only [Option.some.injEq] at h; omega⟩
theorem Prefixes_eq {p:List aItem} (hp:okItems p) (hb:patB a p=true) {s:List UInt8} (hs:s.length<=1048576) (ho:overB a s=true):∃ l,pattern_Prefixes a p s=some l/\decide (0<(l.length:Int))=((List.range ((runesL s).length+1)).any fun i=>matchS a p ((runesL s).take i)):=by
 have h3:p.length<=3:=by simp only [patB,Bool.and_eq_true,decide_eq_true_eq] at hb; exact hb.1
 have hin:=overB_in ho
 have hrl:=runesL_length s
 refine ⟨_,by simp only [pattern_Prefixes,pattern_Prefixes.go,evs,ev_b,read_eq ha hadm hp hb hs,ho,cond_true,Option.bind_some,Bool.not_true,cond_false,lens_of ha h3 (show (runesL s).length<=1048576 by omega) hin]; rfl,?_⟩
 have:=lens_any rep (admI a) p ((runesL s).map fun r:Nat=>idxI a (r:Int))
 simp only [List.length_map] at this ⊢
 rw [show decide (0<((lens rep (admI a) p ((runesL s).map fun r:Nat=>idxI a (r:Int))).length:Int)) = !(lens rep (admI a) p ((runesL s).map fun r:Nat=>idxI a (r:Int))).isEmpty by
  cases lens rep (admI a) p ((runesL s).map fun r:Nat=>idxI a (r:Int)) <;> simp,this]
 congr 1
 funext i
 rw [<- List.map_take]
 exact mt_idx (fun r hr=>hin r (List.mem_of_mem_take hr)) p
theorem Suffixes_eq {p:List aItem} (hp:okItems p) (hb:patB a p=true) {s:List UInt8} (hs:s.length<=1048576) (ho:overB a s=true):∃ l,pattern_Suffixes a p s=some l/\decide (0<(l.length:Int))=((List.range ((runesL s).length+1)).any fun i=>matchS a p ((runesL s).drop i)):=by
 have h3:p.length<=3:=by simp only [patB,Bool.and_eq_true,decide_eq_true_eq] at hb; exact hb.1
 have hin:=overB_in ho
 have hrl:=runesL_length s
 have hpl:=hp.1
 have hclone:slices_Clone_aItem_aItem p=some p:=by
  have h1:fx slices_Clone_aItem_aItem.st (.c1 p)=some p:=by
   rw [fx_eq]; simp only [slices_Clone_aItem_aItem.st,evs]
   rw [cpos (by simp only [len,len0]; omega)]; rfl
  simp only [slices_Clone_aItem_aItem,slices_Clone_aItem_aItem.go,evs,h1]
  cases p with
  | nil=>exact agree_self _
  | cons x p=>rfl
 have e1:(((runesL s).map fun r:Nat=>idxI a (r:Int)).reverse)=(runesL s).reverse.map fun r:Nat=>idxI a (r:Int):=by rw [List.map_reverse]
 have hl:=lens_of ha (p:=p.reverse) (by simpa using h3) (s:=(runesL s).reverse) (by simp; omega) (fun r hr=>hin r (List.mem_reverse.1 hr))
 refine ⟨_,by simp only [pattern_Suffixes,pattern_Suffixes.go,evs,ev_b,read_eq ha hadm hp hb hs,ho,cond_true,Option.bind_some,Bool.not_true,cond_false,hclone,revItems,revInts,e1,hl]; rfl,?_⟩
 have:=lens_suffix rep (admI a) p ((runesL s).map fun r:Nat=>idxI a (r:Int))
 rw [e1] at this
 simp only [List.length_map] at this ⊢
 rw [show decide (0<((lens rep (admI a) p.reverse ((runesL s).reverse.map fun r:Nat=>idxI a (r:Int))).length:Int)) = !(lens rep (admI a) p.reverse ((runesL s).reverse.map fun r:Nat=>idxI a (r:Int))).isEmpty by
  cases lens rep (admI a) p.reverse ((runesL s).reverse.map fun r:Nat=>idxI a (r:Int)) <;> simp,this]
 congr 1
 funext i
 rw [<- List.map_drop]
 exact mt_idx (fun r hr=>hin r (List.mem_of_mem_drop hr)) p
omit ha in
theorem over_encs {s:List Nat} (h:∀ r ∈ s,inA a (r:Int)=true):overB a (encs s)=true/\runesL (encs s)=s:=by
 have hok:∀ r ∈ s,okRune r:=fun r hr=>by
  have h1:=h r hr
  simp only [admB,Bool.and_eq_true,List.all_eq_true] at hadm
  simp only [inA,List.any_eq_true,decide_eq_true_eq] at h1
  obtain ⟨l,hl,e⟩:=h1
  have:=hadm.2.2.1 l hl
  rw [e] at this
  simp only [goodB,Bool.and_eq_true,Bool.or_eq_true,decide_eq_true_eq] at this
  unfold okRune; omega
 have e:=runesL_encs hok
 refine ⟨?_,e⟩
 rw [overB,valid_encs' hok,e,Bool.true_and,List.all_eq_true]
 exact h
theorem follows_eq {r:aRule} (hr:okRule r) (hb:patB a r.fLeft=true) {s:List Nat} (hs:s.length<=200000) (h:∀ c ∈ s,inA a (c:Int)=true):rewrite_follows a r (encs s)=some (leftS a r s):=by
 obtain ⟨h1,h2⟩:=over_encs hadm h
 have hl:=encs_len s
 obtain ⟨l,g1,g2⟩:=Suffixes_eq ha hadm hr.left hb (s:=encs s) (by omega) h1
 simp only [rewrite_follows,rewrite_follows.go,evs,ev_b,Matches_eq ha hadm hr.left hb (s:=encs s) (by omega) h1,g1,g2,h2,Option.bind_some,leftS]
 cases r.fInitial <;> rfl
theorem precedes_eq {r:aRule} (hr:okRule r) (hb:patB a r.fRight=true) {s:List Nat} (hs:s.length<=200000) (h:∀ c ∈ s,inA a (c:Int)=true):rewrite_precedes a r (encs s)=some (rightS a r s):=by
 obtain ⟨h1,h2⟩:=over_encs hadm h
 have hl:=encs_len s
 obtain ⟨l,g1,g2⟩:=Prefixes_eq ha hadm hr.right hb (s:=encs s) (by omega) h1
 simp only [rewrite_precedes,rewrite_precedes.go,evs,ev_b,Matches_eq ha hadm hr.right hb (s:=encs s) (by omega) h1,g1,g2,h2,Option.bind_some,rightS]
 cases r.fFinal <;> rfl
end
theorem utf_map:∀ l:List Nat,utf (l.map fun r:Nat=>(r:Int))=encs l
 | []=>rfl
 | r::l=>by
   rw [encs_cons,<- utf_map l,List.map_cons]
   simp only [utf,List.map_cons,List.flatten_cons]
theorem rns_take (s:List UInt8) (h:Nat):(rns s).take h=((runesL s).take h).map fun r:Nat=>(r:Int):=by rw [rns_eq,List.map_take]
theorem rns_drop (s:List UInt8) (h:Nat):(rns s).drop h=((runesL s).drop h).map fun r:Nat=>(r:Int):=by rw [rns_eq,List.map_drop]
theorem rns_get {s:List UInt8} {h:Nat} (hh:h<(runesL s).length):(rns s).getD h default=(((runesL s)[h]:Nat):Int):=by
 rw [rns_eq]; simp [hh]
theorem ruleB_parts {a:List aLetter} {r:aRule} (h:ruleB a r=true):admB a=true/\toB a r.fTo=true/\patB a r.fLeft=true/\patB a r.fRight=true:=by
 simp only [ruleB,Bool.and_eq_true] at h
 exact ⟨h.1,h.2.2.1,h.2.2.2.1,h.2.2.2.2⟩
theorem wordB_parts {a:List aLetter} {s:List UInt8} (h:wordB a s=true):overB a s=true/\(runesL s).length<=40:=by
 rw [wordB_over,Bool.and_eq_true,decide_eq_true_eq] at h; exact h
theorem sitesF_len (a:List aLetter) (r:aRule) (w:List Nat):∀ (d i:Nat),(sitesF a r w d i).length<=d
 | 0,_=>Nat.le_refl _
 | d+1,i=>by
   have:=sitesF_len a r w d (i+1)
   simp only [sitesF]
   cases siteB a r w i with
   | true=>simp only [cond_true,List.length_cons]; omega
   | false=>simp only [cond_false]; omega
theorem Sites_eq {a:List aLetter} (ha:a.length<=1048576) {r:aRule} (hr:okRule r) {s:List UInt8} (hs:s.length<=4194304):rewrite_Sites a r s=some (cond (ruleB a r&&wordB a s) (sitesS a r (runesL s)) []):=by
 simp only [rewrite_Sites,rewrite_Sites.go,evs,ev_b,rewrite_Valid_eq ha hr,letters_isWord_eq ha hs,Option.bind_some,cnot]
 cases hrb:ruleB a r with
 | false=>rfl
 | true=>
   cases hwb:wordB a s with
   | false=>rfl
   | true=>
     obtain ⟨hadm,_,hpl,hpr⟩:=ruleB_parts hrb
     obtain ⟨ho,h40⟩:=wordB_parts hwb
     have hin:=overB_in ho
     simp only [cond_true,Bool.true_and,rns_len]
     rw [cpos (by simp only [len,len0]; omega)]
     have loop:∀ (d h:Nat) (m:List Int),h+d=(runesL s).length+1->m.length<=h->fx rewrite_Sites.st (.c1 a r s m (h:Int))=some (m++sitesF a r (runesL s) d h):=by
      intro d
      induction d with
      | zero=>
        intro h m h1 _
        rw [fx_eq]; simp only [rewrite_Sites.st,evs,rns_len]
        rw [cneg (by omega)]; simp [sitesF]
      | succ d ih=>
        intro h m h1 hm
        have hw:IntKind.i64.wrap ((h:Int)+1)=((h+1:Nat):Int):=wsucc (by omega)
        have l2:∀ o:Nat,o<=(runesL s).length->fx rewrite_Sites.st (.c2 a (h:Int) m r s (o:Int))=some (m++cond (leftS a r ((runesL s).take h)&&rightS a r ((runesL s).drop o)) ((h:Int)::sitesF a r (runesL s) d (h+1)) (sitesF a r (runesL s) d (h+1))):=by
         intro o hoo
         have hf:=follows_eq ha hadm hr hpl (s:=(runesL s).take h) (by rw [List.length_take]; omega) fun c hc=>hin c (List.mem_of_mem_take hc)
         have hp:=precedes_eq ha hadm hr hpr (s:=(runesL s).drop o) (by rw [List.length_drop]; omega) fun c hc=>hin c (List.mem_of_mem_drop hc)
         rw [fx_eq]; simp only [rewrite_Sites.st,evs,ev_b,rns_len,Int.toNat_natCast,rns_take,rns_drop,utf_map,hf,hp,Option.bind_some,hw]
         rw [cpos2 (by omega) (by omega),cpos2 (by omega) (by omega),cpos (by simp only [len,len0]; omega),ih (h+1) _ (by omega) (by simp; omega),ih (h+1) m (by omega) (by omega)]
         cases leftS a r ((runesL s).take h) <;> cases rightS a r ((runesL s).drop o) <;> simp
        rw [fx_eq]; simp only [rewrite_Sites.st,evs,rns_len,hw,Int.toNat_natCast]
        rw [cpos (by omega),l2 h (by omega),cnot]
        simp only [sitesF,siteB]
        by_cases h0:r.fFrom=0
        ·rw [cpos h0,cpos h0]
        ·rw [cneg h0,cneg h0]
         by_cases he:h=(runesL s).length
         ·have:(runesL s)[h]? = none:=by simp [he]
          rw [cpos (by omega),ih (h+1) m (by omega) (by omega),this]
          rfl
         ·have hlt:h<(runesL s).length:=by omega
          rw [cneg (by omega),cpos2 (by omega) (by omega),l2 (h+1) (by omega),ih (h+1) m (by omega) (by omega),List.getElem?_eq_getElem hlt,cnot]
          simp only [rns_get hlt]
          cases decide ((((runesL s)[h]:Nat):Int)=r.fFrom) with
          | false=>rfl
          | true=>simp
     have:=loop ((runesL s).length+1) 0 [] (by omega) (Nat.zero_le _)
     simpa [sitesS] using this
end Go.Ai.Mor

set_option maxRecDepth 100000
noncomputable section
namespace Go.Ai.Mor
open Go Go.Ai Go.Proofs
namespace r07_Check
inductive Pt
 | c2 (e:List aLetter) (d:List aRule) (h:List UInt8)
 | c1 (e:List aLetter) (d:List aRule) (h:List UInt8) (i:Int)
def D:FD pd := {f:=111,fn:=Tryz.f111,q:=33,pl:=pls 10 [(2,kp [0,1,2,7]),(8,kp [0,1,2])],ps:=[(.sl (.st .aLetter)),(.sl (.st .aRule)),.str],rs:=[.bool],ex:=[none],cs:=[r07_Word.con,r07_Valid.con,r07_Admissible.con]}
def go:((List aLetter)×(List aRule)×(List UInt8))->Tr Pt (Bool)
 | (e,d,h)=>
  .j (.c1 e d h 0)
def st:Pt->Tr Pt (Bool)
 | .c2 e d h=>
  .c (decide ((d.length:Int)<=64))
  (.b (r07_Admissible e) fun o=>
   .c o
   (.b (r07_Word e h) fun p=>
    .r p)
   (.r false))
  (.r false)
 | .c1 e d h i=>
  .c (decide (i<(d.length:Int)))
  (.c (decide (0<=i)&&decide (i<(d.length:Int)))
   (.b (r07_Valid e (d.getD i.toNat default)) fun m=>
    .c (!m)
    (.r false)
    (.j (.c1 e d h (IntKind.i64.wrap (i+1))))) .n)
  (.j (.c2 e d h))
def pt:Pt->List Dir×St E
 | .c2 e d h=>([.r],ms 33 33 [(0,hL (.st .aLetter) e),(1,hL (.st .aRule) d),(2,hS h)])
 | .c1 e d h i=>([.r,.l,.r,.k],ms 33 33 [(0,hL (.st .aLetter) e),(1,hL (.st .aRule) d),(2,hS h),(7,hI i)])
theorem g:D.G st pt:=fun Z a=>by cases a <;> kernel_rfl
theorem g0:D.G0 go pt:=fun Z ⟨_,_,_⟩=>by kernel_rfl
abbrev con:Con Tryz.prog E:=FD.con Tryz.func111 (by kernel_rfl) g g0
end r07_Check
def r07_Check (e:List aLetter) (d:List aRule) (h:List UInt8):Option (Bool):=ev (r07_Check.go (e,d,h)) (fx r07_Check.st)
end Go.Ai.Mor
end

set_option maxRecDepth 100000
noncomputable section
namespace Go.Ai.Mor
open Go Go.Ai Go.Proofs
namespace r07_has
inductive Pt
 | c1 (b:List Int) (d e:Int)
def D:FD pd := {f:=180,fn:=Tryz.f180,q:=18,pl:=pls 10 [(2,kp [0,1,5])],ps:=[(.sl (.int .i32)),(.int .i32)],rs:=[.bool],ex:=[none]}
def go:((List Int)×Int)->Tr Pt (Bool)
 | (b,d)=>
  .j (.c1 b d 0)
def st:Pt->Tr Pt (Bool)
 | .c1 b d e=>
  .c (decide (e<(b.length:Int)))
  (.c (decide (0<=e)&&decide (e<(b.length:Int)))
   (.c (decide ((b.getD e.toNat default)=d))
    (.r true)
    (.j (.c1 b d (IntKind.i64.wrap (e+1))))) .n)
  (.r false)
def pt:Pt->List Dir×St E
 | .c1 b d e=>([.r,.l,.r,.k],ms 18 18 [(0,hL (.int .i32) b),(1,hi .i32 d),(5,hI e)])
theorem g:D.G st pt:=fun Z a=>by cases a <;> kernel_rfl
theorem g0:D.G0 go pt:=fun Z ⟨_,_⟩=>by kernel_rfl
abbrev con:Con Tryz.prog E:=FD.con Tryz.func180 (by kernel_rfl) g g0
end r07_has
def r07_has (b:List Int) (d:Int):Option (Bool):=ev (r07_has.go (b,d)) (fx r07_has.st)
end Go.Ai.Mor
end

set_option maxRecDepth 100000
noncomputable section
namespace Go.Ai.Mor
open Go Go.Ai Go.Proofs
namespace r07_Admits
inductive Pt
 | c1 (d:aItem) (h:Bool)
def D:FD pd := {f:=173,fn:=Tryz.f173,q:=41,pl:=pls 7 [(5,kp [4,8] [(4,4)])],ps:=[(.sl (.st .aLetter)),(.st .aItem),(.int .i32)],rs:=[.bool],ex:=[none],cs:=[r07_Index.con,r07_has.con]}
def go:((List aLetter)×aItem×Int)->Tr Pt (Bool)
 | (e,d,k)=>
  .b (r07_Index e k) fun i=>
  .c (decide (i<0))
  (.r false)
  (.c (decide (0<=i)&&decide (i<(e.length:Int)))
   (.c (decide ((IntKind.u32.wrap (((BitVec.ofInt IntKind.u32.bits ((e.getD i.toNat default).fClasses) &&& BitVec.ofInt IntKind.u32.bits d.fMask).toNat:Int)))=d.fMask))
    (.c (decide (d.fLetters=[]))
     (.j (.c1 d true))
     (.c (decide ((rns d.fLetters).length<=lim))
      (.b (r07_has (rns d.fLetters) k) fun l=>
       .j (.c1 d l)) .n))
    (.j (.c1 d false))) .n)
def st:Pt->Tr Pt (Bool)
 | .c1 d h=>
  .r (!decide (h=d.fNegated))
def pt:Pt->List Dir×St E
 | .c1 d h=>([.r,.r,.r],ms 41 41 [(4,hP 4),(8,hB h)] [(4,.cells [.tv (.int .u32 d.fMask),cS d.fLetters,cB d.fNegated,cB d.fRepeated])])
theorem g:D.G st pt:=fun Z a=>by cases a <;> kernel_rfl
theorem g0:D.G0 go pt:=fun Z ⟨_,_,_⟩=>by kernel_rfl
abbrev con:Con Tryz.prog E:=FD.con Tryz.func173 (by kernel_rfl) g g0
end r07_Admits
def r07_Admits (e:List aLetter) (d:aItem) (k:Int):Option (Bool):=ev (r07_Admits.go (e,d,k)) (fx r07_Admits.st)
end Go.Ai.Mor
end

set_option maxRecDepth 100000
noncomputable section
namespace Go.Ai.Mor
open Go Go.Ai Go.Proofs
namespace r07_Matches
inductive Pt
 | me (x:(List aLetter)×(List aItem)×(List Int))
 | c1 (i:List aLetter) (d:List aItem) (h:List Int)
def D:FD pd := {f:=164,fn:=Tryz.f164,q:=53,pl:=pls 14 [(6,kp [0,1,2])],ps:=[(.sl (.st .aLetter)),(.sl (.st .aItem)),(.sl (.int .i32))],rs:=[.bool],ex:=[none],cs:=[r07_Admits.con]}
def go:((List aLetter)×(List aItem)×(List Int))->Tr Pt (Bool)
 | (i,d,h)=>
  .c (decide ((d.length:Int)=0))
  (.r (decide ((h.length:Int)=0)))
  (.c (decide (0<=0)&&decide (0<(d.length:Int)))
   (.c ((d.getD 0 default).fRepeated)
    (.c (decide (0<=1)&&decide (1<=(d.length:Int)))
     (.jb (.me (i,d.drop 1,h)) fun k=>
      .c k
      (.r true)
      (.j (.c1 i d h))) .n)
    (.j (.c1 i d h))) .n)
def st:Pt->Tr Pt (Bool)
 | .me x=>go x
 | .c1 i d h=>
  .c (decide ((h.length:Int)=0))
  (.r false)
  (.c (decide (0<=0)&&decide (0<(d.length:Int)))
   (.c (decide (0<=0)&&decide (0<(h.length:Int)))
    (.b (r07_Admits i (d.getD 0 default) (h.getD 0 default)) fun l=>
     .c (!l)
     (.r false)
     (.c (decide (0<=0)&&decide (0<(d.length:Int)))
      (.c ((d.getD 0 default).fRepeated)
       (.c (decide (0<=1)&&decide (1<=(h.length:Int)))
        (.jb (.me (i,d,h.drop 1)) fun m=>
         .r m) .n)
       (.c (decide (0<=1)&&decide (1<=(d.length:Int)))
        (.c (decide (0<=1)&&decide (1<=(h.length:Int)))
         (.jb (.me (i,d.drop 1,h.drop 1)) fun o=>
          .r o) .n) .n)) .n)) .n) .n)
def isMe:Pt->Option ((List aLetter)×(List aItem)×(List Int))
 | .me x=>some x
 | _=>none
def pt:Pt->List Dir×St E
 | .me _=>([],start [] 0 0)
 | .c1 i d h=>([.r,.r],ms 53 53 [(0,hL (.st .aLetter) i),(1,hL (.st .aItem) d),(2,hL (.int .i32) h)])
theorem g:D.GR isMe st pt:=fun me Z a=>by cases a <;> intro e <;> first | (cases e; done) | kernel_rfl
theorem g0:D.G0R isMe go pt:=fun me Z ⟨_,_,_⟩=>by kernel_rfl
abbrev con:Con Tryz.prog E:=FD.conR Tryz.func164 (by kernel_rfl) (fun a x e=>by cases a <;> cases e; rfl) g g0
end r07_Matches
def r07_Matches (i:List aLetter) (d:List aItem) (h:List Int):Option (Bool):=ev (r07_Matches.go (i,d,h)) (fx r07_Matches.st)
end Go.Ai.Mor
end

set_option maxRecDepth 100000
noncomputable section
namespace Go.Ai.Mor
open Go Go.Ai Go.Proofs
namespace r07_left
inductive Pt
 | c1 (h:List aLetter) (d:aRule) (e:List Int) (i:Int)
def D:FD pd := {f:=147,fn:=Tryz.f147,q:=28,pl:=pls 13 [(5,kp [0,2,4,7] [(4,6)])],ps:=[(.sl (.st .aLetter)),(.st .aRule),(.sl (.int .i32))],rs:=[.bool],ex:=[none],cs:=[r07_Matches.con]}
def go:((List aLetter)×aRule×(List Int))->Tr Pt (Bool)
 | (h,d,e)=>
  .c d.fInitial
  (.b (r07_Matches h d.fLeft e) fun m=>
   .r m)
  (.j (.c1 h d e 0))
def st:Pt->Tr Pt (Bool)
 | .c1 h d e i=>
  .c (decide (i<=(e.length:Int)))
  (.c (decide (0<=i)&&decide (i<=(e.length:Int)))
   (.b (r07_Matches h d.fLeft (e.drop i.toNat)) fun o=>
    .c o
    (.r true)
    (.j (.c1 h d e (IntKind.i64.wrap (i+1))))) .n)
  (.r false)
def pt:Pt->List Dir×St E
 | .c1 h d e i=>([.r,.r,.l,.r,.k],ms 28 28 [(0,hL (.st .aLetter) h),(2,hL (.int .i32) e),(4,hP 4),(7,hI i)] [(4,.cells [.tv (.int .i32 d.fFrom),cS d.fTo,cL (.st .aItem) d.fLeft,cL (.st .aItem) d.fRight,cB d.fInitial,cB d.fFinal])])
theorem g:D.G st pt:=fun Z a=>by cases a <;> kernel_rfl
theorem g0:D.G0 go pt:=fun Z ⟨_,_,_⟩=>by kernel_rfl
abbrev con:Con Tryz.prog E:=FD.con Tryz.func147 (by kernel_rfl) g g0
end r07_left
def r07_left (h:List aLetter) (d:aRule) (e:List Int):Option (Bool):=ev (r07_left.go (h,d,e)) (fx r07_left.st)
end Go.Ai.Mor
end

set_option maxRecDepth 100000
noncomputable section
namespace Go.Ai.Mor
open Go Go.Ai Go.Proofs
namespace r07_right
inductive Pt
 | c1 (h:List aLetter) (d:aRule) (e:List Int) (i:Int)
def D:FD pd := {f:=148,fn:=Tryz.f148,q:=28,pl:=pls 13 [(5,kp [0,2,4,7] [(4,6)])],ps:=[(.sl (.st .aLetter)),(.st .aRule),(.sl (.int .i32))],rs:=[.bool],ex:=[none],cs:=[r07_Matches.con]}
def go:((List aLetter)×aRule×(List Int))->Tr Pt (Bool)
 | (h,d,e)=>
  .c d.fFinal
  (.b (r07_Matches h d.fRight e) fun m=>
   .r m)
  (.j (.c1 h d e 0))
def st:Pt->Tr Pt (Bool)
 | .c1 h d e i=>
  .c (decide (i<=(e.length:Int)))
  (.c (decide (0<=i)&&decide (i<=(e.length:Int)))
   (.b (r07_Matches h d.fRight (e.take i.toNat)) fun o=>
    .c o
    (.r true)
    (.j (.c1 h d e (IntKind.i64.wrap (i+1))))) .n)
  (.r false)
def pt:Pt->List Dir×St E
 | .c1 h d e i=>([.r,.r,.l,.r,.k],ms 28 28 [(0,hL (.st .aLetter) h),(2,hL (.int .i32) e),(4,hP 4),(7,hI i)] [(4,.cells [.tv (.int .i32 d.fFrom),cS d.fTo,cL (.st .aItem) d.fLeft,cL (.st .aItem) d.fRight,cB d.fInitial,cB d.fFinal])])
theorem g:D.G st pt:=fun Z a=>by cases a <;> kernel_rfl
theorem g0:D.G0 go pt:=fun Z ⟨_,_,_⟩=>by kernel_rfl
abbrev con:Con Tryz.prog E:=FD.con Tryz.func148 (by kernel_rfl) g g0
end r07_right
def r07_right (h:List aLetter) (d:aRule) (e:List Int):Option (Bool):=ev (r07_right.go (h,d,e)) (fx r07_right.st)
end Go.Ai.Mor
end

set_option maxRecDepth 100000
noncomputable section
namespace Go.Ai.Mor
open Go Go.Ai Go.Proofs
namespace r07_Sites
inductive Pt
 | c2 (i:List aLetter) (h:Int) (m:List Int) (d:aRule) (e:List UInt8) (o:Int)
 | c1 (i:List aLetter) (d:aRule) (e:List UInt8) (m:List Int) (h:Int)
def D:FD pd := {f:=136,fn:=Tryz.f136,q:=69,pl:=pls 19 [(7,kp [0,4,8,9] [(4,6)] [] [(7,.own (100007,0,3) (.int .i64))]),(14,kp [0,4,8,9,10] [(4,6)] [] [(7,.own (100007,0,3) (.int .i64))])],ps:=[(.sl (.st .aLetter)),(.st .aRule),.str],rs:=[(.sl (.int .i64))],ex:=[some 3],cs:=[r07_Word.con,r07_Valid.con,r07_left.con,r07_right.con]}
def go:((List aLetter)×aRule×(List UInt8))->Tr Pt ((List Int))
 | (i,d,e)=>
  .b (r07_Valid i d) fun p=>
  .c (!p)
  (.r [])
  (.b (r07_Word i e) fun s=>
   .c (!s)
   (.r [])
   (.c (decide ((rns e).length<=lim))
    (.j (.c1 i d e ([]:(List Int)) 0)) .n))
def st:Pt->Tr Pt ((List Int))
 | .c2 i h m d e o=>
  .c (decide (0<=h)&&decide (h<=((rns e).length:Int)))
  (.b (r07_left i d ((rns e).take h.toNat)) fun t=>
   .c t
   (.c (decide (0<=o)&&decide (o<=((rns e).length:Int)))
    (.b (r07_right i d ((rns e).drop o.toNat)) fun u=>
     .c u
     (.c (decide (m.length+([h]:List Int).length<=lim))
      (.j (.c1 i d e (m++[h]) (IntKind.i64.wrap (h+1)))) .n)
     (.j (.c1 i d e m (IntKind.i64.wrap (h+1))))) .n)
   (.j (.c1 i d e m (IntKind.i64.wrap (h+1))))) .n
 | .c1 i d e m h=>
  .c (decide (h<=((rns e).length:Int)))
  (.c (!decide (d.fFrom=0))
   (.c (decide (h=((rns e).length:Int)))
    (.j (.c1 i d e m (IntKind.i64.wrap (h+1))))
    (.c (decide (0<=h)&&decide (h<((rns e).length:Int)))
     (.c (!decide (((rns e).getD h.toNat default)=d.fFrom))
      (.j (.c1 i d e m (IntKind.i64.wrap (h+1))))
      (.j (.c2 i h m d e (IntKind.i64.wrap (h+1))))) .n))
   (.j (.c2 i h m d e h)))
  (.r m)
def pt:Pt->List Dir×St E
 | .c2 i h m d e o=>([.r,.r,.r,.r,.l,.r,.k,.L,.r,.l,.k,.r],ms 69 69 [(0,hL (.st .aLetter) i),(4,hP 4),(7,hT 100007 3 (.int .i64) m),(8,hL (.int .i32) (rns e)),(9,hI h),(10,hI o)] [(4,.cells [.tv (.int .i32 d.fFrom),cS d.fTo,cL (.st .aItem) d.fLeft,cL (.st .aItem) d.fRight,cB d.fInitial,cB d.fFinal])])
 | .c1 i d e m h=>([.r,.r,.r,.r,.l,.r,.k],ms 69 69 [(0,hL (.st .aLetter) i),(4,hP 4),(7,hT 100007 3 (.int .i64) m),(8,hL (.int .i32) (rns e)),(9,hI h)] [(4,.cells [.tv (.int .i32 d.fFrom),cS d.fTo,cL (.st .aItem) d.fLeft,cL (.st .aItem) d.fRight,cB d.fInitial,cB d.fFinal])])
theorem g:D.G st pt:=fun Z a=>by cases a <;> kernel_rfl
theorem g0:D.G0 go pt:=fun Z ⟨_,_,_⟩=>by kernel_rfl
abbrev con:Con Tryz.prog E:=FD.con Tryz.func136 (by kernel_rfl) g g0
end r07_Sites
def r07_Sites (i:List aLetter) (d:aRule) (e:List UInt8):Option ((List Int)):=ev (r07_Sites.go (i,d,e)) (fx r07_Sites.st)
end Go.Ai.Mor
end

set_option maxRecDepth 100000
noncomputable section
namespace Go.Ai.Mor
open Go Go.Ai Go.Proofs
namespace r07_Apply
inductive Pt
 | c4 (h s:Int) (p:List UInt8) (i:List Int) (d:aRule) (e:List UInt8) (w:Bool)
 | c3 (t:Bool) (h:Int) (i:List Int) (d:aRule) (e p:List UInt8) (s:Int)
 | c2 (h m:Int) (o:List UInt8) (i:List Int) (d:aRule) (e:List UInt8) (t:Bool)
 | c5 (u:List UInt8)
 | c1 (i:List Int) (d:aRule) (e o:List UInt8) (m h:Int)
def D:FD pd := {f:=112,fn:=Tryz.f112,q:=80,pl:=pls 23 [(9,kp [4,9,10,11,12] [(4,6)] [] [(8,.own (100008,0,3) (.int .i64))]),(12,kp [4,9,10,11,12,13] [(4,6)] [] [(8,.own (100008,0,3) (.int .i64))]),(15,kp [4,9,10,11,12,13] [(4,6)] [] [(8,.own (100008,0,3) (.int .i64))]),(16,kp [4,9,10,11,12,67] [(4,6)] [] [(8,.own (100008,0,3) (.int .i64))]),(18,kp [10])],ps:=[(.sl (.st .aLetter)),(.st .aRule),.str],rs:=[.str,(.int .i64)],ex:=[none,none],cs:=[r07_Word.con,r07_Valid.con,r07_Sites.con]}
def go:((List aLetter)×aRule×(List UInt8))->Tr Pt ((List UInt8)×Int)
 | (v,d,e)=>
  .b (r07_Valid v d) fun x=>
  .c (!x)
  (.r ([],1))
  (.b (r07_Word v e) fun y=>
   .c (!y)
   (.r ([],1))
   (.b (r07_Sites v d e) fun i=>
    .c (decide ((rns e).length<=lim))
    (.j (.c1 i d e ([]:(List UInt8)) 0 0)) .n))
def st:Pt->Tr Pt ((List UInt8)×Int)
 | .c4 h s p i d e w=>
  .c w
  (.c (decide (0<=h)&&decide (h<((rns e).length:Int)))
   (.c (decide (p.length+(enc ((rns e).getD h.toNat default)).length<=1125899906842624))
    (.j (.c1 i d e (p++(enc ((rns e).getD h.toNat default))) s (IntKind.i64.wrap (h+1)))) .n) .n)
  (.j (.c1 i d e p s (IntKind.i64.wrap (h+1))))
 | .c3 t h i d e p s=>
  .c (decide (h<((rns e).length:Int)))
  (.c (!t)
   (.j (.c4 h s p i d e true))
   (.j (.c4 h s p i d e (decide (d.fFrom=0)))))
  (.j (.c4 h s p i d e false))
 | .c2 h m o i d e t=>
  .c t
  (.c (decide (o.length+d.fTo.length<=1125899906842624))
   (.j (.c3 t h i d e (o++d.fTo) (IntKind.i64.wrap (m+1)))) .n)
  (.j (.c3 t h i d e o m))
 | .c5 u=>
  .c (decide ((rns u).length<=lim))
  (.c (decide (40<((rns u).length:Int)))
   (.r ([],2))
   (.r (u,0))) .n
 | .c1 i d e o m h=>
  .c (decide (h<=((rns e).length:Int)))
  (.c (decide (m<(i.length:Int)))
   (.c (decide (0<=m)&&decide (m<(i.length:Int)))
    (.j (.c2 h m o i d e (decide ((i.getD m.toNat default)=h)))) .n)
   (.j (.c2 h m o i d e false)))
  (.j (.c5 o))
def pt:Pt->List Dir×St E
 | .c4 h s p i d e w=>([.r,.r,.r,.r,.r,.r,.l,.r,.k,.L,.r,.l,.k,.r,.r],ms 80 80 [(4,hP 4),(8,hT 100008 3 (.int .i64) i),(9,hL (.int .i32) (rns e)),(10,hS p),(11,hI s),(12,hI h),(67,hB w)] [(4,.cells [.tv (.int .i32 d.fFrom),cS d.fTo,cL (.st .aItem) d.fLeft,cL (.st .aItem) d.fRight,cB d.fInitial,cB d.fFinal])])
 | .c3 t h i d e p s=>([.r,.r,.r,.r,.r,.r,.l,.r,.k,.L,.r,.l,.k,.r],ms 80 80 [(4,hP 4),(8,hT 100008 3 (.int .i64) i),(9,hL (.int .i32) (rns e)),(10,hS p),(11,hI s),(12,hI h),(13,hB t)] [(4,.cells [.tv (.int .i32 d.fFrom),cS d.fTo,cL (.st .aItem) d.fLeft,cL (.st .aItem) d.fRight,cB d.fInitial,cB d.fFinal])])
 | .c2 h m o i d e t=>([.r,.r,.r,.r,.r,.r,.l,.r,.k,.L,.r,.l,.k],ms 80 80 [(4,hP 4),(8,hT 100008 3 (.int .i64) i),(9,hL (.int .i32) (rns e)),(10,hS o),(11,hI m),(12,hI h),(13,hB t)] [(4,.cells [.tv (.int .i32 d.fFrom),cS d.fTo,cL (.st .aItem) d.fLeft,cL (.st .aItem) d.fRight,cB d.fInitial,cB d.fFinal])])
 | .c5 u=>([.r,.r,.r,.r,.r,.r],ms 80 80 [(10,hS u)])
 | .c1 i d e o m h=>([.r,.r,.r,.r,.r,.r,.l,.r,.k],ms 80 80 [(4,hP 4),(8,hT 100008 3 (.int .i64) i),(9,hL (.int .i32) (rns e)),(10,hS o),(11,hI m),(12,hI h)] [(4,.cells [.tv (.int .i32 d.fFrom),cS d.fTo,cL (.st .aItem) d.fLeft,cL (.st .aItem) d.fRight,cB d.fInitial,cB d.fFinal])])
theorem g:D.G st pt:=fun Z a=>by cases a <;> kernel_rfl
theorem g0:D.G0 go pt:=fun Z ⟨_,_,_⟩=>by kernel_rfl
abbrev con:Con Tryz.prog E:=FD.con Tryz.func112 (by kernel_rfl) g g0
end r07_Apply
def r07_Apply (v:List aLetter) (d:aRule) (e:List UInt8):Option ((List UInt8)×Int):=ev (r07_Apply.go (v,d,e)) (fx r07_Apply.st)
end Go.Ai.Mor
end

set_option maxRecDepth 100000
noncomputable section
namespace Go.Ai.Mor
open Go Go.Ai Go.Proofs
namespace r07_Trace
inductive Pt
 | c1 (h:List aLetter) (d:List aRule) (i:List (List UInt8)) (e:Int)
def D:FD pd := {f:=77,fn:=Tryz.f77,q:=46,pl:=pls 16 [(6,kp [0,1,9] [] [] [(8,.own (100008,0,9) .str)])],ps:=[(.sl (.st .aLetter)),(.sl (.st .aRule)),.str],rs:=[(.sl .str),(.int .i64)],ex:=[some 9,none],cs:=[r07_Check.con,r07_Apply.con]}
def go:((List aLetter)×(List aRule)×(List UInt8))->Tr Pt ((List (List UInt8))×Int)
 | (h,d,o)=>
  .b (r07_Check h d o) fun p=>
  .c (!p)
  (.r ([],1))
  (.j (.c1 h d [o] 0))
def st:Pt->Tr Pt ((List (List UInt8))×Int)
 | .c1 h d i e=>
  .c (decide (e<(d.length:Int)))
  (.c (decide (0<=e)&&decide (e<(d.length:Int)))
   (.c (decide (0<=e)&&decide (e<(i.length:Int)))
    (.b (r07_Apply h (d.getD e.toNat default) (i.getD e.toNat default)) fun m=>
     .c (!decide (m.2=0))
     (.r ([],m.2))
     (.c (decide (i.length+([m.1]:List (List UInt8)).length<=lim))
      (.j (.c1 h d (i++[m.1]) (IntKind.i64.wrap (e+1)))) .n)) .n) .n)
  (.r (i,0))
def pt:Pt->List Dir×St E
 | .c1 h d i e=>([.r,.r,.r,.l,.r,.k],ms 46 46 [(0,hL (.st .aLetter) h),(1,hL (.st .aRule) d),(8,hT 100008 9 .str i),(9,hI e)])
theorem g:D.G st pt:=fun Z a=>by cases a <;> kernel_rfl
theorem g0:D.G0 go pt:=fun Z ⟨_,_,_⟩=>by kernel_rfl
abbrev con:Con Tryz.prog E:=FD.con Tryz.func77 (by kernel_rfl) g g0
end r07_Trace
def r07_Trace (h:List aLetter) (d:List aRule) (o:List UInt8):Option ((List (List UInt8))×Int):=ev (r07_Trace.go (h,d,o)) (fx r07_Trace.st)
end Go.Ai.Mor
end

set_option maxRecDepth 100000
noncomputable section
namespace Go.Ai.Mor
open Go Go.Ai Go.Proofs
namespace r07_Cascade
inductive Pt
def D:FD pd := {f:=49,fn:=Tryz.f49,q:=26,ps:=[(.sl (.st .aLetter)),(.sl (.st .aRule)),.str],rs:=[.str,(.int .i64)],ex:=[none,none],cs:=[r07_Trace.con]}
def go:((List aLetter)×(List aRule)×(List UInt8))->Tr Pt ((List UInt8)×Int)
 | (e,h,i)=>
  .b (r07_Trace e h i) fun d=>
  .c (!decide (d.2=0))
  (.r ([],d.2))
  (.c (decide (0<=IntKind.i64.wrap ((d.1.length:Int) - 1))&&decide (IntKind.i64.wrap ((d.1.length:Int) - 1)<(d.1.length:Int)))
   (.r (d.1.getD (IntKind.i64.wrap ((d.1.length:Int) - 1)).toNat default,0)) .n)
def st:Pt->Tr Pt ((List UInt8)×Int):=nofun
def pt:Pt->List Dir×St E:=nofun
theorem g:D.G st pt:=fun Z a=>by cases a <;> kernel_rfl
theorem g0:D.G0 go pt:=fun Z ⟨_,_,_⟩=>by kernel_rfl
abbrev con:Con Tryz.prog E:=FD.con Tryz.func49 (by kernel_rfl) g g0
end r07_Cascade
def r07_Cascade (e:List aLetter) (h:List aRule) (i:List UInt8):Option ((List UInt8)×Int):=ev (r07_Cascade.go (e,h,i)) (fx r07_Cascade.st)
end Go.Ai.Mor
end

namespace Go.Ai.Mor
open Go Go.Ai
def nI (l:List Nat):List Int:=l.map fun r:Nat=>(r:Int)
theorem rns_nI (s:List UInt8):rns s=nI (runesL s):=rns_eq s
theorem nI_append (a b:List Nat):nI (a++b)=nI a++nI b:=List.map_append
theorem nI_length (l:List Nat):(nI l).length=l.length:=List.length_map _
theorem result_eq {r:aRule} (h4:(runesL r.fTo).length<=4) {w:List UInt8} (h40:(runesL w).length<=40) (t:List Int) (ht:t.length<=100) :
  rewrite_result r t w=some (encs (putR (decide (r.fFrom=0)) (runesL r.fTo) 0 t (runesL w))):=by
 have hexit:∀ (e:Nat) (t:List Int) (on:List Nat),(runesL w).length<e->fx rewrite_result.st (.c1 r w t (nI on) (e:Int))=some (encs on):=by
  intro e t on he
  rw [fx_eq]; simp only [rewrite_result.st,evs,rns_len,fx_eq rewrite_result.st (.c5 ..)]
  rw [cneg (by omega)]
  congr 1
  exact utf_map on
 have l4:∀ (e:Nat) (t:List Int) (on:List Nat) (b:Bool),(b=true->e<(runesL w).length)->on.length<=1000->e<=40->fx rewrite_result.st (.c4 (e:Int) (nI on) r t w b)=fx rewrite_result.st (.c1 r w t (nI (on++cond b [(runesL w).getD e 0] [])) ((e+1:Nat):Int)):=by
  intro e t on b hb hon he
  have hw:IntKind.i64.wrap ((e:Int)+1)=((e+1:Nat):Int):=wsucc (by omega)
  rw [fx_eq]; simp only [rewrite_result.st,evs,rns_len,hw,Int.toNat_natCast]
  cases b with
  | false=>simp
  | true=>
    have hlt:=hb rfl
    have e1:(runesL w).getD e 0=(runesL w)[e]:=by simp [hlt]
    rw [cond_true,cpos2 (by omega) (by omega),cpos (by simp only [len,len0,nI_length]; omega),rns_get hlt,cond_true,nI_append,e1]
    rfl
 have l3:∀ (e:Nat) (t:List Int) (on:List Nat) (b:Bool),on.length<=1000->e<=40->fx rewrite_result.st (.c3 (e:Int) r w b t (nI on))=fx rewrite_result.st (.c1 r w t (nI (on++cond (decide (e<(runesL w).length)&&(!b||decide (r.fFrom=0))) [(runesL w).getD e 0] [])) ((e+1:Nat):Int)):=by
  intro e t on b hon he
  rw [fx_eq]; simp only [rewrite_result.st,evs,rns_len]
  by_cases h:e<(runesL w).length
  ·rw [cpos (by omega),l4 e t on true (fun _=>h) hon he,l4 e t on _ (fun _=>h) hon he]
   cases b <;> simp [h]
  ·rw [cneg (by omega),l4 e t on false (fun hb=>by cases hb) hon he]
   simp [h]
 have loop:∀ (d e:Nat) (t:List Int) (on:List Nat),e+d=(runesL w).length->t.length<=100->on.length<=5*e->fx rewrite_result.st (.c1 r w t (nI on) (e:Int))=some (encs (on++putR (decide (r.fFrom=0)) (runesL r.fTo) e t ((runesL w).drop e))):=by
  intro d
  induction d with
  | zero=>
    intro e t on he ht hon
    have e1:(runesL w).drop e=[]:=List.drop_of_length_le (by omega)
    have hlt:decide (e<(runesL w).length)=false:=by simp; omega
    rw [fx_eq]; simp only [rewrite_result.st,evs,rns_len,fx_eq rewrite_result.st (.c2 ..)]
    rw [cpos (by omega),e1]
    cases t with
    | nil=>
      rw [cneg (by simp),cond_false,l3 e [] on false (by omega) (by omega),hlt,hexit _ _ _ (by omega)]
      simp [putR]
    | cons x t=>
      rw [cpos (by simp only [List.length_cons]; omega),cpos2 (by omega) (by simp only [List.length_cons]; omega)]
      simp only [List.getD_cons_zero,putR,List.head?_cons,Option.some.injEq]
      by_cases hx:x=(e:Int)
      ·rw [cpos hx,cpos hx,cpos2 (by omega) (by simp only [List.length_cons]; omega),cpos (by simp only [len,len0,nI_length,rns_len]; omega),rns_nI,<- nI_append,l3 e _ _ _ (by simp; omega) (by omega),hlt,hexit _ _ _ (by omega)]
       simp
      ·rw [cneg hx,cneg hx,decide_eq_false hx,l3 e _ on false (by omega) (by omega),hlt,hexit _ _ _ (by omega)]
       simp
  | succ d ih=>
    intro e t on he ht hon
    have hlt:e<(runesL w).length:=by omega
    have hlt' : decide (e<(runesL w).length)=true:=by simp [hlt]
    have e1:(runesL w).drop e=(runesL w)[e]::(runesL w).drop (e+1):=List.drop_eq_getElem_cons hlt
    have e2:(runesL w).getD e 0=(runesL w)[e]:=by simp [hlt]
    rw [fx_eq]; simp only [rewrite_result.st,evs,rns_len,fx_eq rewrite_result.st (.c2 ..)]
    rw [cpos (by omega),e1]
    cases t with
    | nil=>
      rw [cneg (by simp),cond_false,l3 e [] on false (by omega) (by omega),hlt',e2,ih (e+1) [] _ (by omega) (by omega) (by simp; omega)]
      simp [putR]
    | cons x t=>
      have ht2:t.length<=100:=by simp only [List.length_cons] at ht; omega
      rw [cpos (by simp only [List.length_cons]; omega),cpos2 (by omega) (by simp only [List.length_cons]; omega)]
      simp only [List.getD_cons_zero,putR,List.head?_cons,Option.some.injEq,List.tail_cons]
      by_cases hx:x=(e:Int)
      ·rw [cpos hx,cpos hx,cpos2 (by omega) (by simp only [List.length_cons]; omega),cpos (by simp only [len,len0,nI_length,rns_len]; omega),rns_nI,<- nI_append,l3 e _ _ _ (by simp; omega) (by omega),hlt',e2,List.drop_one,List.tail_cons,ih (e+1) t _ (by omega) ht2 (by
        simp only [List.length_append]
        have:(cond (true&&(!decide (x=(e:Int))||decide (r.fFrom=0))) [(runesL w)[e]] []).length<=1:=by cases (true&&(!decide (x=(e:Int))||decide (r.fFrom=0))) <;> simp
        omega)]
       simp [hx]
      ·rw [cneg hx,cneg hx,decide_eq_false hx,l3 e _ on false (by omega) (by omega),hlt',e2,ih (e+1) (x::t) _ (by omega) ht (by simp; omega)]
       simp
 simp only [rewrite_result,rewrite_result.go,evs,rns_len]
 rw [cpos (by simp only [len,len0]; omega),cpos (by simp only [len,len0]; omega)]
 exact loop (runesL w).length 0 t [] (by omega) ht (by simp)
theorem putR_mem {ins:Bool} {to' : List Nat} {c:Nat} : ∀ {w:List Nat} {i:Nat} {t:List Int},c ∈ putR ins to' i t w->c ∈ to' \/ c ∈ w
 | [],i,t,h=>by
   simp only [putR] at h
   cases hb:decide (t.head? = some (i:Int)) with
   | true=>rw [hb] at h; exact .inl h
   | false=>rw [hb] at h; cases h
 | x::w,i,t,h=>by
   simp only [putR] at h
   cases hb:decide (t.head? = some (i:Int)) with
   | true=>
     rw [hb,cond_true,List.mem_append,List.mem_append] at h
     rcases h with h | h | h
     ·exact .inl h
     ·cases ins with
      | true=>simp at h; exact .inr (by simp [h])
      | false=>cases h
     ·rcases putR_mem h with h | h
      ·exact .inl h
      ·exact .inr (List.mem_cons_of_mem _ h)
   | false=>
     rw [hb,cond_false] at h
     rcases List.mem_cons.1 h with rfl | h
     ·exact .inr (by simp)
     ·rcases putR_mem h with h | h
      ·exact .inl h
      ·exact .inr (List.mem_cons_of_mem _ h)
theorem putR_len {ins:Bool} {to' : List Nat} : ∀ (w:List Nat) (i:Nat) (t:List Int),(putR ins to' i t w).length<=w.length+(w.length+1)*to'.length
 | [],i,t=>by
   simp only [putR]
   cases decide (t.head? = some (i:Int)) <;> simp
 | x::w,i,t=>by
   simp only [putR,List.length_cons]
   have e:(w.length+1+1)*to'.length=(w.length+1)*to'.length+to'.length:=by rw [Nat.add_mul (w.length+1) 1,Nat.one_mul]
   cases decide (t.head? = some (i:Int)) with
   | true=>
     have:=putR_len (ins:=ins) (to' := to') w (i+1) t.tail
     have h1:(cond ins [x] []).length<=1:=by cases ins <;> simp
     simp only [cond_true,List.length_append]; omega
   | false=>
     have:=putR_len (ins:=ins) (to' := to') w (i+1) t
     simp only [cond_false,List.length_cons]; omega
theorem apply_in {a:List aLetter} {r:aRule} {s:List UInt8} (hr:ruleB a r=true) (hs:wordB a s=true):∀ c ∈ applyS a r (runesL s),inA a (c:Int)=true:=fun c hc=>by
 obtain ⟨_,ht,_,_⟩:=ruleB_parts hr
 simp only [toB,Bool.and_eq_true] at ht
 rcases putR_mem hc with h | h
 ·exact overB_in ht.1 c h
 ·exact overB_in (wordB_parts hs).1 c h
theorem apply_len {a:List aLetter} {r:aRule} {s:List UInt8} (hr:ruleB a r=true) (hs:wordB a s=true):(applyS a r (runesL s)).length<=204:=by
 obtain ⟨_,ht,_,_⟩:=ruleB_parts hr
 simp only [toB,Bool.and_eq_true,decide_eq_true_eq] at ht
 have h40:=(wordB_parts hs).2
 have:=putR_len (ins:=decide (r.fFrom=0)) (to' := runesL r.fTo) (runesL s) 0 (sitesS a r (runesL s))
 have h2:((runesL s).length+1)*(runesL r.fTo).length<=41*4:=Nat.mul_le_mul (by omega) ht.2
 unfold applyS
 omega
theorem Apply_eq {a:List aLetter} (ha:a.length<=1048576) {r:aRule} (hr:okRule r) {s:List UInt8} (hs:s.length<=4194304):rewrite_Apply a r s=some (applyW a r s):=by
 simp only [rewrite_Apply,rewrite_Apply.go,evs,ev_b,rewrite_Valid_eq ha hr,letters_isWord_eq ha hs,Sites_eq ha hr hs,Option.bind_some,cnot,applyW]
 cases hrb:ruleB a r with
 | false=>rfl
 | true=>
   cases hwb:wordB a s with
   | false=>rfl
   | true=>
     obtain ⟨hadm,ht,_,_⟩:=ruleB_parts hrb
     simp only [toB,Bool.and_eq_true,decide_eq_true_eq] at ht
     have h40:=(wordB_parts hwb).2
     have hsl:=sitesF_len a r (runesL s) ((runesL s).length+1) 0
     simp only [cond_true,Bool.and_self]
     rw [result_eq ht.2 h40 _ (by unfold sitesS; omega),Option.bind_some]
     have hin:=apply_in hrb hwb
     have hl:=apply_len hrb hwb
     obtain ⟨g1,g2⟩:=over_encs hadm hin
     have hel:=encs_len (applyS a r (runesL s))
     show (unicode_utf8_RuneCountInString (encs (applyS a r (runesL s)))).bind _=_
     rw [utf8_RuneCount_eq (by omega),Option.bind_some,g2]
     by_cases h:(applyS a r (runesL s)).length<=40
     ·rw [cneg (by omega),cpos h]; rfl
     ·rw [cpos (by omega),cneg h]
theorem HC_all {w:aWords} (hw:OkW w):HC w:=fun _ hu=>Cascade_eq hw.al hw.rules (fun r hr _ hv=>Apply_eq hw.al (hw.rules r hr) hv) hu
end Go.Ai.Mor

set_option maxRecDepth 100000
noncomputable section
namespace Go.Ai.Mor
open Go Go.Ai Go.Proofs
namespace l11_MorphologyAmbiguity
inductive Pt
def D:FD pd := {f:=5,fn:=Tryz.f5,q:=42,ps:=[(.st .aWords),.str],rs:=[.bool],ex:=[none],cs:=[l11_awake.con,l11_valid.con,morphology_Analyses.con,morphology_Ambiguity.con]}
def go:(aWords×(List UInt8))->Tr Pt (Bool)
 | (d,e)=>
  .b (l11_valid d) fun j=>
  .c (!j)
  (.b l11_awake fun k=>
   .r k)
  (.c (decide (200<(e.length:Int)))
   (.b l11_awake fun l=>
    .r l)
   (.b (morphology_Ambiguity d e) fun h=>
    .b (morphology_Analyses d e) fun i=>
    .b l11_awake fun m=>
    .c m
    (.c (decide (h.2=i.2))
     (.r (decide (h.1=(i.1.length:Int))))
     (.r false))
    (.r false)))
def st:Pt->Tr Pt (Bool):=nofun
def pt:Pt->List Dir×St E:=nofun
theorem g:D.G st pt:=fun Z a=>by cases a <;> kernel_rfl
theorem g0:D.G0 go pt:=fun Z ⟨_,_⟩=>by kernel_rfl
abbrev con:Con Tryz.prog E:=FD.con Tryz.func5 (by kernel_rfl) g g0
end l11_MorphologyAmbiguity
def l11_MorphologyAmbiguity (d:aWords) (e:List UInt8):Option (Bool):=ev (l11_MorphologyAmbiguity.go (d,e)) (fx l11_MorphologyAmbiguity.st)
end Go.Ai.Mor
end

set_option maxRecDepth 100000
noncomputable section
namespace Go.Ai.Mor
open Go Go.Ai Go.Proofs
namespace l11_MorphologyMore
inductive Pt
 | c2
 | c1 (e:(List aAnalysis)×Int) (d:aLexeme) (m:Int)
def D:FD pd := {f:=7,fn:=Tryz.f7,q:=92,pl:=pls 23 [(15,kp [4,12] [(4,5)] [] [(10,.own (100010,0,46) (.st .aAnalysis))]),(21,kp [])],ps:=[(.st .aWords),(.st .aLexeme),.str],rs:=[.bool],ex:=[none],cs:=[l11_awake.con,l11_valid.con,morphology_Analyses.con,r11_Same.con]}
def go:(aWords×aLexeme×(List UInt8))->Tr Pt (Bool)
 | (h,d,o)=>
  .c (decide (([]:List aLexeme).length+h.fLexemes.length<=lim))
  (.c (decide (([]++h.fLexemes:List aLexeme).length+([d]:List aLexeme).length<=lim))
   (.b (l11_valid h) fun p=>
    .c (!p)
    (.b l11_awake fun t=>
     .r t)
    (.b (l11_valid (aWords.mk h.fAlphabet h.fRules h.fParadigms (([]++h.fLexemes)++[d]))) fun s=>
     .c (!s)
     (.b l11_awake fun u=>
      .r u)
     (.c (decide (200<(o.length:Int)))
      (.b l11_awake fun v=>
       .r v)
      (.b (morphology_Analyses h o) fun i=>
       .b (morphology_Analyses (aWords.mk h.fAlphabet h.fRules h.fParadigms (([]++h.fLexemes)++[d])) o) fun e=>
       .c (!decide (i.2=e.2))
       (.b l11_awake fun w=>
        .c w
        (.r (decide (i.2=e.2)))
        (.r false))
       (.c (!decide (i.2=0))
        (.b l11_awake fun x=>
         .c x
         (.r (decide (i.2=e.2)))
         (.r false))
        (.c (decide ((e.1.length:Int)<(i.1.length:Int)))
         (.r false)
         (.c (decide (0<=(i.1.length:Int))&&decide ((i.1.length:Int)<=(e.1.length:Int)))
          (.b (r11_Same (e.1.take (i.1.length:Int).toNat) i.1) fun y=>
           .c (!y)
           (.r false)
           (.j (.c1 e d (i.1.length:Int)))) .n))))))) .n) .n
def st:Pt->Tr Pt (Bool)
 | .c2=>
  .b l11_awake fun z=>
  .r z
 | .c1 e d m=>
  .c (decide (m<(e.1.length:Int)))
  (.c (decide (0<=m)&&decide (m<(e.1.length:Int)))
   (.c (!decide (((e.1.getD m.toNat default).fLexeme)=d.fID))
    (.r false)
    (.j (.c1 e d (IntKind.i64.wrap (m+1))))) .n)
  (.j .c2)
def pt:Pt->List Dir×St E
 | .c2=>([.r,.r,.r,.r,.r,.r,.r,.r],ms 92 92 [])
 | .c1 e d m=>([.r,.r,.r,.r,.r,.r,.r,.r,.l,.r,.k],ms 92 92 [(4,hP 4),(10,hT 100010 46 (.st .aAnalysis) e.1),(12,hI m)] [(4,.cells [cS d.fID,cS d.fCategory,cS d.fStem,cS d.fParadigm,cL (.st .aFeature) d.fFeatures])])
theorem g:D.G st pt:=fun Z a=>by cases a <;> kernel_rfl
theorem g0:D.G0 go pt:=fun Z ⟨_,_,_⟩=>by kernel_rfl
abbrev con:Con Tryz.prog E:=FD.con Tryz.func7 (by kernel_rfl) g g0
end l11_MorphologyMore
def l11_MorphologyMore (h:aWords) (d:aLexeme) (o:List UInt8):Option (Bool):=ev (l11_MorphologyMore.go (h,d,o)) (fx l11_MorphologyMore.st)
end Go.Ai.Mor
end

set_option maxRecDepth 100000
noncomputable section
namespace Go.Ai.Mor
open Go Go.Ai Go.Proofs
namespace l11_MorphologyOneRelation
inductive Pt
 | c4 (m:(List aAnalysis)×Int) (u:Bool)
 | c3 (d:List aFeature) (h:List UInt8) (m:(List aAnalysis)×Int) (t:Bool) (o:Int)
 | c2 (d:List aFeature) (h:List UInt8) (i:(List aAnalysis)×Int) (e:aWords)
 | c1 (d:List aFeature) (h:List UInt8) (i:(List aAnalysis)×Int) (e:aWords) (s:List UInt8) (p:Int)
def D:FD pd := {f:=11,fn:=Tryz.f11,q:=126,pl:=pls 27 [(6,kp [1,2,3,4,10,11] [(4,4)] [] [(9,.own (100009,0,46) (.st .aAnalysis))]),(13,kp [2,3,4,10] [(4,4)] [] [(9,.own (100009,0,46) (.st .aAnalysis))]),(21,kp [2,3,17,18,19] [] [] [(16,.own (100016,0,46) (.st .aAnalysis))]),(25,kp [17,18])],ps:=[(.st .aWords),.str,.str,(.sl (.st .aFeature))],rs:=[.bool],ex:=[none],cs:=[l11_awake.con,l11_valid.con,morphology_Analyses.con,r02_Same.con,morphology_Surface.con]}
def go:(aWords×(List UInt8)×(List UInt8)×(List aFeature))->Tr Pt (Bool)
 | (e,s,h,d)=>
  .b (l11_valid e) fun z=>
  .c (!z)
  (.b l11_awake fun ab=>
   .r ab)
  (.c (decide (200<(s.length:Int)))
   (.b l11_awake fun ac=>
    .r ac)
   (.c (decide (10<(d.length:Int)))
    (.b l11_awake fun aa=>
     .r aa)
    (.b (morphology_Analyses e s) fun i=>
     .j (.c1 d h i e s 0))))
def st:Pt->Tr Pt (Bool)
 | .c4 m u=>
  .b l11_awake fun y=>
  .c y
  (.c (decide (m.2=0))
   (.r u)
   (.r false))
  (.r false)
 | .c3 d h m t o=>
  .c (decide (o<(m.1.length:Int)))
  (.c t
   (.j (.c3 d h m true (IntKind.i64.wrap (o+1))))
   (.c (decide (0<=o)&&decide (o<(m.1.length:Int)))
    (.c (decide (((m.1.getD o.toNat default).fLexeme)=h))
     (.c (decide (0<=o)&&decide (o<(m.1.length:Int)))
      (.b (r02_Same ((m.1.getD o.toNat default).fCell) d) fun x=>
       .j (.c3 d h m x (IntKind.i64.wrap (o+1)))) .n)
     (.j (.c3 d h m false (IntKind.i64.wrap (o+1))))) .n))
  (.j (.c4 m t))
 | .c2 d h i e=>
  .b (morphology_Surface e h d) fun w=>
  .c (!decide (w.2=0))
  (.b l11_awake fun ad=>
   .c ad
   (.c (decide (i.2=0))
    (.r true)
    (.r (decide ((i.1.length:Int)=0))))
   (.r false))
  (.b (morphology_Analyses e w.1) fun m=>
   .j (.c3 d h m false 0))
 | .c1 d h i e s p=>
  .c (decide (p<(i.1.length:Int)))
  (.c (decide (0<=p)&&decide (p<(i.1.length:Int)))
   (.c (decide (0<=p)&&decide (p<(i.1.length:Int)))
    (.b (morphology_Surface e ((i.1.getD p.toNat default).fLexeme) ((i.1.getD p.toNat default).fCell)) fun v=>
     .c (!decide (v.2=0))
     (.r false)
     (.c (!decide (v.1=s))
      (.r false)
      (.j (.c1 d h i e s (IntKind.i64.wrap (p+1)))))) .n) .n)
  (.j (.c2 d h i e))
def pt:Pt->List Dir×St E
 | .c4 m u=>([.r,.r,.r,.r,.r,.r,.r,.r],ms 126 126 [(17,hI m.2),(18,hB u)])
 | .c3 d h m t o=>([.r,.r,.r,.r,.r,.r,.r,.r,.l,.r,.k],ms 126 126 [(2,hS h),(3,hL (.st .aFeature) d),(16,hT 100016 46 (.st .aAnalysis) m.1),(17,hI m.2),(18,hB t),(19,hI o)])
 | .c2 d h i e=>([.r,.r,.r],ms 126 126 [(2,hS h),(3,hL (.st .aFeature) d),(4,hP 4),(9,hT 100009 46 (.st .aAnalysis) i.1),(10,hI i.2)] [(4,.cells [cL (.st .aLetter) e.fAlphabet,cL (.st .aRule) e.fRules,cL (.st .aParadigm) e.fParadigms,cL (.st .aLexeme) e.fLexemes])])
 | .c1 d h i e s p=>([.r,.r,.r,.l,.r,.k],ms 126 126 [(1,hS s),(2,hS h),(3,hL (.st .aFeature) d),(4,hP 4),(9,hT 100009 46 (.st .aAnalysis) i.1),(10,hI i.2),(11,hI p)] [(4,.cells [cL (.st .aLetter) e.fAlphabet,cL (.st .aRule) e.fRules,cL (.st .aParadigm) e.fParadigms,cL (.st .aLexeme) e.fLexemes])])
theorem g:D.G st pt:=fun Z a=>by cases a <;> kernel_rfl
theorem g0:D.G0 go pt:=fun Z ⟨_,_,_,_⟩=>by kernel_rfl
abbrev con:Con Tryz.prog E:=FD.con Tryz.func11 (by kernel_rfl) g g0
end l11_MorphologyOneRelation
def l11_MorphologyOneRelation (e:aWords) (s h:List UInt8) (d:List aFeature):Option (Bool):=ev (l11_MorphologyOneRelation.go (e,s,h,d)) (fx l11_MorphologyOneRelation.st)
end Go.Ai.Mor
end

set_option maxRecDepth 100000
noncomputable section
namespace Go.Ai.Mor
open Go Go.Ai Go.Proofs
namespace r11_Lexeme
inductive Pt
 | c1 (e:List UInt8) (b:aWords) (d:Int)
def D:FD pd := {f:=28,fn:=Tryz.f28,q:=22,pl:=pls 10 [(2,kp [1,2,5] [(2,4)])],ps:=[(.st .aWords),.str],rs:=[(.int .i64)],ex:=[none]}
def go:(aWords×(List UInt8))->Tr Pt (Int)
 | (b,e)=>
  .j (.c1 e b 0)
def st:Pt->Tr Pt (Int)
 | .c1 e b d=>
  .c (decide (d<(b.fLexemes.length:Int)))
  (.c (decide (0<=d)&&decide (d<(b.fLexemes.length:Int)))
   (.c (decide (((b.fLexemes.getD d.toNat default).fID)=e))
    (.r d)
    (.j (.c1 e b (IntKind.i64.wrap (d+1))))) .n)
  (.r (-1))
def pt:Pt->List Dir×St E
 | .c1 e b d=>([.r,.l,.r,.k],ms 22 22 [(1,hS e),(2,hP 2),(5,hI d)] [(2,.cells [cL (.st .aLetter) b.fAlphabet,cL (.st .aRule) b.fRules,cL (.st .aParadigm) b.fParadigms,cL (.st .aLexeme) b.fLexemes])])
theorem g:D.G st pt:=fun Z a=>by cases a <;> kernel_rfl
theorem g0:D.G0 go pt:=fun Z ⟨_,_⟩=>by kernel_rfl
abbrev con:Con Tryz.prog E:=FD.con Tryz.func28 (by kernel_rfl) g g0
end r11_Lexeme
def r11_Lexeme (b:aWords) (e:List UInt8):Option (Int):=ev (r11_Lexeme.go (b,e)) (fx r11_Lexeme.st)
end Go.Ai.Mor
end

set_option maxRecDepth 100000
noncomputable section
namespace Go.Ai.Mor
open Go Go.Ai Go.Proofs
namespace r11_Cells
inductive Pt
def D:FD pd := {f:=29,fn:=Tryz.f29,q:=19,ps:=[(.st .aWords),(.st .aLexeme)],rs:=[(.sl (.sl (.st .aFeature)))],ex:=[some 44],cs:=[r11_Paradigm.con,r10_Cells.con]}
def go:(aWords×aLexeme)->Tr Pt ((List (List aFeature)))
 | (d,e)=>
  .c (decide (e.fParadigm=[]))
  (.r ([[]]))
  (.b (r11_Paradigm d e.fParadigm) fun h=>
   .c (decide (0<=h)&&decide (h<(d.fParadigms.length:Int)))
   (.b (r10_Cells (d.fParadigms.getD h.toNat default)) fun i=>
    .r i) .n)
def st:Pt->Tr Pt ((List (List aFeature))):=nofun
def pt:Pt->List Dir×St E:=nofun
theorem g:D.G st pt:=fun Z a=>by cases a <;> kernel_rfl
theorem g0:D.G0 go pt:=fun Z ⟨_,_⟩=>by kernel_rfl
abbrev con:Con Tryz.prog E:=FD.con Tryz.func29 (by kernel_rfl) g g0
end r11_Cells
def r11_Cells (d:aWords) (e:aLexeme):Option ((List (List aFeature))):=ev (r11_Cells.go (d,e)) (fx r11_Cells.st)
end Go.Ai.Mor
end

set_option maxRecDepth 100000
noncomputable section
namespace Go.Ai.Mor
open Go Go.Ai Go.Proofs
namespace l11_MorphologyForms
inductive Pt
 | c2 (i:Int) (m:List UInt8) (d:(List (List UInt8))×Int) (h:List (List aFeature)) (e:aWords) (s:Bool)
 | c3 (d:(List (List UInt8))×Int) (h:List (List aFeature))
 | c1 (m:List UInt8) (d:(List (List UInt8))×Int) (h:List (List aFeature)) (e:aWords) (i:Int)
def D:FD pd := {f:=10,fn:=Tryz.f10,q:=105,pl:=pls 23 [(11,kp [1,2,6,9] [(2,4)] [] [(5,.own (100005,0,9) .str),(8,.own (100008,0,44) (.sl (.st .aFeature)))]),(18,kp [1,2,6,9,92] [(2,4)] [] [(5,.own (100005,0,9) .str),(8,.own (100008,0,44) (.sl (.st .aFeature)))]),(21,kp [6] [] [] [(5,.own (100005,0,9) .str),(8,.own (100008,0,44) (.sl (.st .aFeature)))])],ps:=[(.st .aWords),.str],rs:=[.bool],ex:=[none],cs:=[l11_awake.con,l11_valid.con,morphology_Forms.con,morphology_Surface.con,r11_Lexeme.con,r11_Cells.con]}
def go:(aWords×(List UInt8))->Tr Pt (Bool)
 | (e,m)=>
  .b (l11_valid e) fun t=>
  .c (!t)
  (.b l11_awake fun u=>
   .r u)
  (.b (morphology_Forms e m) fun d=>
   .b (r11_Lexeme e m) fun o=>
   .c (decide (o<0))
   (.b l11_awake fun v=>
    .c v
    (.c (decide (d.2=4))
     (.r (decide ((d.1.length:Int)=0)))
     (.r false))
    (.r false))
   (.c (decide (0<=o)&&decide (o<(e.fLexemes.length:Int)))
    (.b (r11_Cells e (e.fLexemes.getD o.toNat default)) fun h=>
     .j (.c1 m d h e 0)) .n))
def st:Pt->Tr Pt (Bool)
 | .c2 i m d h e s=>
  .c s
  (.r false)
  (.j (.c1 m d h e (IntKind.i64.wrap (i+1))))
 | .c3 d h=>
  .b l11_awake fun x=>
  .c x
  (.c (decide (d.2=0))
   (.r (decide ((d.1.length:Int)=(h.length:Int))))
   (.r false))
  (.r false)
 | .c1 m d h e i=>
  .c (decide (i<(h.length:Int)))
  (.c (decide (0<=i)&&decide (i<(h.length:Int)))
   (.b (morphology_Surface e m (h.getD i.toNat default)) fun p=>
    .c (!decide (p.2=0))
    (.b l11_awake fun w=>
     .c w
     (.c (decide (p.2=2))
      (.c (decide (d.2=p.2))
       (.r (decide ((d.1.length:Int)=0)))
       (.r false))
      (.r false))
     (.r false))
    (.c (decide (d.2=0))
     (.c (decide ((d.1.length:Int)<=i))
      (.j (.c2 i m d h e true))
      (.c (decide (0<=i)&&decide (i<(d.1.length:Int)))
       (.j (.c2 i m d h e (!decide ((d.1.getD i.toNat default)=p.1)))) .n))
     (.j (.c2 i m d h e false)))) .n)
  (.j (.c3 d h))
def pt:Pt->List Dir×St E
 | .c2 i m d h e s=>([.r,.r,.r,.r,.r,.r,.l,.r,.k,.L,.r,.l,.k,.r,.r],ms 105 105 [(1,hS m),(2,hP 2),(5,hT 100005 9 .str d.1),(6,hI d.2),(8,hT 100008 44 (.sl (.st .aFeature)) h),(9,hI i),(92,hB s)] [(2,.cells [cL (.st .aLetter) e.fAlphabet,cL (.st .aRule) e.fRules,cL (.st .aParadigm) e.fParadigms,cL (.st .aLexeme) e.fLexemes])])
 | .c3 d h=>([.r,.r,.r,.r,.r,.r],ms 105 105 [(5,hT 100005 9 .str d.1),(6,hI d.2),(8,hT 100008 44 (.sl (.st .aFeature)) h)])
 | .c1 m d h e i=>([.r,.r,.r,.r,.r,.r,.l,.r,.k],ms 105 105 [(1,hS m),(2,hP 2),(5,hT 100005 9 .str d.1),(6,hI d.2),(8,hT 100008 44 (.sl (.st .aFeature)) h),(9,hI i)] [(2,.cells [cL (.st .aLetter) e.fAlphabet,cL (.st .aRule) e.fRules,cL (.st .aParadigm) e.fParadigms,cL (.st .aLexeme) e.fLexemes])])
theorem g:D.G st pt:=fun Z a=>by cases a <;> kernel_rfl
theorem g0:D.G0 go pt:=fun Z ⟨_,_⟩=>by kernel_rfl
abbrev con:Con Tryz.prog E:=FD.con Tryz.func10 (by kernel_rfl) g g0
end l11_MorphologyForms
def l11_MorphologyForms (e:aWords) (m:List UInt8):Option (Bool):=ev (l11_MorphologyForms.go (e,m)) (fx l11_MorphologyForms.st)
end Go.Ai.Mor
end

namespace Go.Ai.Mor
open Go Go.Ai
def validW (w:aWords):Bool:=smallB w&&decide (checkS w=0)
theorem valid_eq {w:aWords} (hw:OkW w):l11_valid w=some (validW w):=by
 simp only [l11_valid,l11_valid.go,evs,ev_b,small_eq hw,ref11_Check_eq hw,Option.bind_some,validW]
 cases smallB w <;> rfl
structure VW (w:aWords):Prop where
 ok:OkW w
 parts:partsB w=true
 small:smallB w=true
 miss:∀ x ∈ w.fLexemes,missB w x=false
 clash:∀ x ∈ w.fLexemes,clashW w x=false
theorem VW_of {w:aWords} (hw:OkW w) (h:validW w=true):VW w:=by
 simp only [validW,Bool.and_eq_true,decide_eq_true_eq] at h
 obtain ⟨h1,h2⟩:=h
 unfold checkS at h2
 cases hp:partsB w with
 | false=>rw [hp] at h2; simp at h2
 | true=>
   rw [hp,cond_true] at h2
   cases hn:parF w.fParadigms 0 w.fParadigms with
   | false=>rw [hn] at h2; simp at h2
   | true=>
     rw [hn,cond_true] at h2
     cases hm:w.fLexemes.any (missB w) with
     | true=>rw [hm] at h2; simp at h2
     | false=>
       rw [hm,cond_false] at h2
       cases hc:w.fLexemes.any (clashW w) with
       | true=>rw [hc] at h2; simp at h2
       | false=>exact ⟨hw,hp,h1,fun x hx=>by simpa using (List.any_eq_false.1 hm) x hx,fun x hx=>by simpa using (List.any_eq_false.1 hc) x hx⟩
section
variable {w:aWords} (hv:VW w)
include hv
end
end Go.Ai.Mor

namespace Go.Ai.Mor
open Go Go.Ai
set_option maxRecDepth 100000
theorem getD_of {α:Type} {xs:List α} {k:Nat} (h:k<xs.length) (d:α):xs.getD k d=xs[k]:=by simp [h]
theorem inc_ge {xs:List Int} (h:xs.Pairwise (· < ·)) (h0:∀ y ∈ xs,0<=y):∀ a,a<xs.length->(a:Int)<=xs.getD a 0
 | 0,ha=>by
   have:=h0 (xs.getD 0 0) (by simp [ha])
   simpa using this
 | a+1,ha=>by
   have ih:=inc_ge h h0 a (by omega)
   have:=List.pairwise_iff_getElem.1 h a (a+1) (by omega) ha (by omega)
   have e1:xs.getD a 0=xs[a]:=by simp [show a<xs.length by omega]
   have e2:xs.getD (a+1) 0=xs[a+1]:=by simp [ha]
   rw [e1] at ih
   rw [e2]
   omega
section
variable {fs:List (List UInt8)} {G:List (List Int)} {gof:Nat->Nat} (hG:Grp fs G gof)
include hG
theorem Grp.at {j k:Nat} (hj:j<G.length) (hk:k<(G.getD j []).length):∃ x:Nat,x<fs.length/\(G.getD j []).getD k 0=x/\gof x=j:=by
 have:(G.getD j []).getD k 0 ∈ G.getD j []:=by
  rw [getD_of hk]
  exact List.getElem_mem hk
 obtain ⟨x,h1,h2,h3⟩:=(hG.mem j hj _).1 this
 exact ⟨x,h1,h2,h3⟩
theorem Grp.short {j:Nat} (hj:j<G.length):(G.getD j []).length<=fs.length:=by
 rcases Nat.lt_or_ge fs.length (G.getD j []).length with h | h
 ·exfalso
  have h1:=inc_ge (hG.inc j hj) (fun y hy=>by obtain ⟨x,_,h2,_⟩:=(hG.mem j hj y).1 hy; omega) fs.length h
  obtain ⟨x,h2,h3,_⟩:=hG.at hj h
  omega
 ·exact h
theorem Grp.few:G.length<=fs.length:=by
 have head:∀ j,j<G.length->(j:Int)<=(G.getD j []).getD 0 0:=by
  intro j
  induction j with
  | zero=>
    intro hj
    obtain ⟨x,_,h2,_⟩:=hG.at hj (List.length_pos_iff.2 (hG.ne 0 hj))
    omega
  | succ j ih=>
    intro hj
    have h1:=ih (by omega)
    have h2:=hG.heads j (j+1) (by omega) hj
    omega
 rcases Nat.lt_or_ge fs.length G.length with h | h
 ·exfalso
  have h1:=head fs.length h
  obtain ⟨x,h2,h3,_⟩:=hG.at h (List.length_pos_iff.2 (hG.ne _ h))
  omega
 ·exact h
end
def gV (fs:List (List UInt8)) (G:List (List Int)) (gof:Nat->Nat) (h k:Nat):List Int:=
 (List.range fs.length).map fun x=>cond (decide (gof x<h)||(decide (gof x=h)&&decide ((x:Int) ∈ (G.getD h []).take k))) (gof x:Int) (-1)
theorem gV_len (fs:List (List UInt8)) (G:List (List Int)) (gof:Nat->Nat) (h k:Nat):(gV fs G gof h k).length=fs.length:=by simp [gV]
theorem gV_get {fs:List (List UInt8)} {G:List (List Int)} {gof:Nat->Nat} {h k x:Nat} (hx:x<fs.length):(gV fs G gof h k)[x]? = some (cond (decide (gof x<h)||(decide (gof x=h)&&decide ((x:Int) ∈ (G.getD h []).take k))) (gof x:Int) (-1)):=by
 simp [gV,hx]
section
variable {fs:List (List UInt8)} {G:List (List Int)} {gof:Nat->Nat} (hG:Grp fs G gof)
include hG
omit hG in
theorem gV_start:gV fs G gof 0 0=List.replicate fs.length (-1):=by
 apply List.ext_getElem?
 intro x
 by_cases hx:x<fs.length
 ·rw [gV_get hx]; simp [hx]
 ·rw [List.getElem?_eq_none (by rw [gV_len]; omega),List.getElem?_eq_none (by simp; omega)]
theorem gV_next {h:Nat} (hh:h<G.length):gV fs G gof h (G.getD h []).length=gV fs G gof (h+1) 0:=by
 apply List.ext_getElem?
 intro x
 by_cases hx:x<fs.length
 ·rw [gV_get hx,gV_get hx,List.take_length,List.take_zero]
  have:decide ((x:Int) ∈ G.getD h [])=decide (gof x=h):=by
   rw [decide_eq_decide,hG.mem h hh]
   exact ⟨fun ⟨y,h1,h2,h3⟩=>by have:x=y:=by omega
                               rw [this]; exact h3,fun e=>⟨x,hx,rfl,e⟩⟩
  rw [this]
  congr 2
  by_cases h1:gof x<h
  ·simp [h1,show gof x<h+1 by omega]
  ·by_cases h2:gof x=h
   ·simp [h2]
   ·simp [h1,h2,show ¬ gof x<h+1 by omega]
 ·rw [List.getElem?_eq_none (by rw [gV_len]; omega),List.getElem?_eq_none (by rw [gV_len]; omega)]
theorem gV_end {x:Nat} (hx:x<fs.length):(gV fs G gof G.length 0)[x]? = some (gof x:Int):=by
 rw [gV_get hx,decide_eq_true (hG.lt x hx)]
 rfl
theorem not_mem_take {h k x:Nat} (hh:h<G.length) (hk:k<(G.getD h []).length) (hx:(G.getD h []).getD k 0=x) : ¬ (x:Int) ∈ (G.getD h []).take k:=by
 intro hm
 obtain ⟨i,hi,e⟩:=List.mem_take_iff_getElem.1 hm
 have hik:i<k:=by omega
 have:=List.pairwise_iff_getElem.1 (hG.inc h hh) i k (by omega) hk hik
 rw [e] at this
 rw [getD_of hk] at hx
 omega
theorem gV_fresh {h k x:Nat} (hh:h<G.length) (hk:k<(G.getD h []).length) (hx:(G.getD h []).getD k 0=x) (hl:x<fs.length) (hg:gof x=h):(gV fs G gof h k)[x]? = some (-1):=by
 rw [gV_get hl,decide_eq_false (not_mem_take hG hh hk hx),decide_eq_false (show ¬ gof x<h by omega)]
 simp
omit hG in
theorem gV_set {h k x:Nat} (hk:k<(G.getD h []).length) (hx:(G.getD h []).getD k 0=x) (hl:x<fs.length) (hg:gof x=h):(gV fs G gof h k).set x (h:Int)=gV fs G gof h (k+1):=by
 have e:(G.getD h []).take (k+1)=(G.getD h []).take k++[(x:Int)]:=by
  rw [List.take_succ_eq_append_getElem hk,<- hx,getD_of hk]
 apply List.ext_getElem?
 intro y
 by_cases hy:y<fs.length
 ·by_cases exy:x=y
  ·subst exy
   rw [List.getElem?_set_self (by rw [gV_len]; exact hl),gV_get hl,e]
   simp [hg]
  ·rw [List.getElem?_set_ne exy,gV_get hy,gV_get hy,e]
   have:decide ((y:Int) ∈ (G.getD h []).take k++[(x:Int)])=decide ((y:Int) ∈ (G.getD h []).take k):=by
    rw [decide_eq_decide,List.mem_append]
    simp only [List.mem_singleton]
    exact ⟨fun h=>h.elim id (fun h=>by omega),.inl⟩
   rw [this]
 ·rw [List.getElem?_eq_none (by simp [gV_len]; omega),List.getElem?_eq_none (by rw [gV_len]; omega)]
end
section
variable {fs:List (List UInt8)} {G:List (List Int)} {gof:Nat->Nat} {e:Int} (hG:Grp fs G gof) (hl:fs.length<=1048576)
include hG hl
theorem syn_pairs:fx l11_MorphologySyncretic.st (.c9 (fs,e) (gV fs G gof G.length 0) 0)=some true:=by
 have hlen:=gV_len fs G gof G.length 0
 generalize hV:gV fs G gof G.length 0=V at hlen
 have hget:∀ x,x<fs.length->V[x]? = some (gof x:Int):=fun x hx=>by rw [<- hV]; exact gV_end hG hx
 have inner:∀ (m:Nat),m<fs.length->fx l11_MorphologySyncretic.st (.c9 (fs,e) V ((m+1:Nat):Int))=some true -> ∀ (d t:Nat),t+d=m+1->fx l11_MorphologySyncretic.st (.c10 (m:Int) (fs,e) V (t:Int))=some true:=by
  intro m hm hnext d
  induction d with
  | zero=>
    intro t ht
    rw [fx_eq]; simp (disch:=omega) only [l11_MorphologySyncretic.st,evs,ev_b,↓cneg,wsucc,hnext]
  | succ d ih=>
    intro t ht
    have h1:=hget m hm
    have h2:=hget t (by omega)
    have h3:=hG.inj m t hm (by omega)
    have heq:decide ((gof m:Int)=(gof t:Int))=decide (fs.getD m default=fs.getD t default):=by
     rw [decide_eq_decide]
     exact ⟨fun h=>h3.1 (by omega),fun h=>by have:=h3.2 h; omega⟩
    rw [fx_eq]; simp (disch:=omega) only [l11_MorphologySyncretic.st,evs,ev_b,↓cpos,↓cpos2,↓cneg,Int.toNat_natCast,hlen,h1,h2,Option.bind_some,heq,decide_true,cnot,cond_true,wsucc,ih (t+1) (by omega)]
 have outer:∀ (d m:Nat),m+d=fs.length->fx l11_MorphologySyncretic.st (.c9 (fs,e) V (m:Int))=some true:=by
  intro d
  induction d with
  | zero=>
    intro m hm
    rw [fx_eq]; simp (disch:=omega) only [l11_MorphologySyncretic.st,evs,ev_b,↓cneg,fx_eq l11_MorphologySyncretic.st .c11,awake_eq,Option.bind_some]
  | succ d ih=>
    intro m hm
    have:=inner m (by omega) (ih (m+1) (by omega)) (m+1) 0 (by omega)
    rw [fx_eq]; simp (disch:=omega) only [l11_MorphologySyncretic.st,evs,ev_b,↓cpos]
    exact this
 exact outer fs.length 0 (by omega)
theorem syn_group {h:Nat} (hh:h<G.length) (hnext:fx l11_MorphologySyncretic.st (.c4 (G,e) (fs,e) ((h+1:Nat):Int) (gV fs G gof (h+1) 0))=some true) :
  ∀ (d i:Nat),i+d=(G.getD h []).length->fx l11_MorphologySyncretic.st (.c6 (h:Int) (G,e) (fs,e) (i:Int) (gV fs G gof h i))=some true:=by
 have hfew:=hG.few
 have hsh:=hG.short hh
 intro d
 induction d with
 | zero=>
   intro i hi
   have hi:i=(G.getD h []).length:=by omega
   subst hi
   rw [fx_eq]; simp (disch:=omega) only [l11_MorphologySyncretic.st,evs,ev_b,↓cpos2,↓cneg,Int.toNat_natCast,wsucc]
   have hx : ¬ (((G.getD h []).length:Int)<((G.getD h default).length:Int)):=Int.lt_irrefl _
   rw [cneg hx,gV_next hG hh]
   exact hnext
 | succ d ih=>
   intro i hi
   have hi' : i<(G.getD h []).length:=by omega
   obtain ⟨x,hx,hy,hgx⟩:=hG.at hh hi'
   have hD:G.getD h default=G.getD h []:=rfl
   have hE:(G.getD h []).getD i default=(x:Int):=hy
   have hV:=gV_len fs G gof h i
   have hf:=gV_fresh hG hh hi' hy hx hgx
   have hs:=gV_set hi' hy hx hgx
   have next:=ih (i+1) (by omega)
   have c7:fx l11_MorphologySyncretic.st (.c7 (h:Int) (i:Int) (G,e) (fs,e) (gV fs G gof h i) false)=some true:=by
    rw [fx_eq]; simp (disch:=omega) only [l11_MorphologySyncretic.st,evs,ev_b,cond_false,Int.toNat_natCast,hD,hE,hV,↓cpos2,hs,wsucc,next]
   rw [fx_eq]; simp (disch:=omega) only [l11_MorphologySyncretic.st,evs,ev_b,↓cpos2,↓cpos,↓cneg,Int.toNat_natCast,hD,hE,hV,hf,Option.bind_some]
   rcases Nat.eq_zero_or_pos i with h0 | h0
   ·rw [cneg (by omega)]; exact c7
   ·rw [cpos (by omega)]
    have hp:IntKind.i64.wrap ((i:Int) - 1)=((i - 1:Nat):Int):=by rw [wrap64] <;> omega
    have hlt:=List.pairwise_iff_getElem.1 (hG.inc h hh) (i - 1) i (by omega) hi' (by omega)
    have e1:(G.getD h []).getD (i - 1) default=(G.getD h [])[i - 1]:=getD_of (by omega) _
    have e2:(x:Int)=(G.getD h [])[i]:=by rw [<- hy]; exact getD_of hi' _
    simp (disch:=omega) only [hp,↓cpos2,Int.toNat_natCast,hD]
    rw [e1,decide_eq_false (by omega)]
    exact c7
theorem syn_groups:fx l11_MorphologySyncretic.st (.c4 (G,e) (fs,e) 0 (gV fs G gof 0 0))=some true:=by
 have hfew:=hG.few
 have key:∀ (d h:Nat),h+d=G.length->fx l11_MorphologySyncretic.st (.c4 (G,e) (fs,e) (h:Int) (gV fs G gof h 0))=some true:=by
  intro d
  induction d with
  | zero=>
    intro h hh
    have hh:h=G.length:=by omega
    subst hh
    have:=syn_pairs (e:=e) hG hl
    rw [fx_eq]; simp (disch:=omega) only [l11_MorphologySyncretic.st,evs,ev_b,↓cneg,fx_eq l11_MorphologySyncretic.st (.c8 ..),this]
  | succ d ih=>
    intro h hh
    have hh' : h<G.length:=by omega
    have hD:G.getD h default=G.getD h []:=rfl
    have hne:=List.length_pos_iff.2 (hG.ne h hh')
    have hg:=syn_group (e:=e) hG hl hh' (ih (h+1) (by omega)) (G.getD h []).length 0 (by omega)
    have c5:fx l11_MorphologySyncretic.st (.c5 (h:Int) (G,e) (fs,e) (gV fs G gof h 0) false)=some true:=by
     rw [fx_eq]; simp (disch:=omega) only [l11_MorphologySyncretic.st,evs,ev_b,cond_false]
     exact hg
    rw [fx_eq]; simp (disch:=omega) only [l11_MorphologySyncretic.st,evs,ev_b,↓cpos2,↓cpos,↓cneg,Int.toNat_natCast,hD]
    rcases Nat.eq_zero_or_pos h with h0 | h0
    ·rw [cneg (by omega)]; exact c5
    ·rw [cpos (by omega)]
     have hp:IntKind.i64.wrap ((h:Int) - 1)=((h - 1:Nat):Int):=by rw [wrap64] <;> omega
     have hD2:G.getD (h - 1) default=G.getD (h - 1) []:=rfl
     have hne2:=List.length_pos_iff.2 (hG.ne (h - 1) (by omega))
     have hlt:=hG.heads (h - 1) h (by omega) hh'
     simp (disch:=omega) only [hp,↓cpos2,Int.toNat_natCast,hD2]
     rw [decide_eq_false (show ¬ (G.getD h []).getD 0 default<=(G.getD (h - 1) []).getD 0 default from by
      show ¬ (G.getD h []).getD 0 0<=(G.getD (h - 1) []).getD 0 0
      omega)]
     exact c5
 exact key G.length 0 (by omega)
theorem syn_all:fx l11_MorphologySyncretic.st (.c1 (G,e) (fs,e) false)=some true:=by
 have key:∀ (d u:Nat),u+d=fs.length->fx l11_MorphologySyncretic.st (.c2 (G,e) (fs,e) (u:Int) (List.replicate u (-1)++List.replicate d 0))=some true:=by
  intro d
  induction d with
  | zero=>
    intro u hu
    have hu:u=fs.length:=by omega
    subst hu
    have:=syn_groups (e:=e) hG hl
    rw [gV_start] at this
    rw [fx_eq]; simp (disch:=omega) only [l11_MorphologySyncretic.st,evs,ev_b,↓cneg,fx_eq l11_MorphologySyncretic.st (.c3 ..),List.replicate_zero,List.append_nil,this]
  | succ d ih=>
    intro u hu
    have hlen:(List.replicate u (-1:Int)++List.replicate (d+1) 0).length=fs.length:=by simp; omega
    have hs:(List.replicate u (-1:Int)++List.replicate (d+1) 0).set u (-1)=List.replicate (u+1) (-1)++List.replicate d 0:=by
     rw [List.set_append_right _ _ (by simp),List.length_replicate,Nat.sub_self,List.replicate_succ,List.set_cons_zero,List.replicate_succ',List.append_assoc]
     rfl
    rw [fx_eq]; simp (disch:=omega) only [l11_MorphologySyncretic.st,evs,ev_b,↓cpos,↓cpos2,Int.toNat_natCast,hlen,hs,wsucc,ih (u+1) (by omega)]
 have:=key fs.length 0 (by omega)
 rw [List.replicate_zero,List.nil_append] at this
 rw [fx_eq]; simp only [l11_MorphologySyncretic.st,evs,ev_b,cond_false,Int.toNat_natCast]
 rw [decide_eq_true (show (0:Int)<=(fs.length:Int) by omega),decide_eq_true (show (fs.length:Int)<=(lim:Int) by simp only [lim]; omega)]
 simp only [decide_true,Bool.and_true,cond_true]
 exact this
end
theorem law_Syncretic {w:aWords} (hw:OkW w) (n:List UInt8):l11_MorphologySyncretic w n=some true:=by
 simp only [l11_MorphologySyncretic,l11_MorphologySyncretic.go,evs,ev_b,valid_eq hw,awake_eq,Option.bind_some,cnot]
 cases hv:validW w with
 | false=>rfl
 | true=>
   have hv:=VW_of hw hv
   have hF:=Forms_eq hw hv.parts (HC_all hw) n
   have hlen:(formsS w n).1.length<=4096/\((formsS w n).2≠0->(formsS w n).1=[]):=by
    unfold formsS
    cases hx:lexP w n with
    | none=>simp
    | some x=>
      have:=(cellsOf_len hw x).1
      dsimp only
      cases (cellsOf w x).all (fun c=>(formW w x c).2) with
      | true=>simpa using this
      | false=>simp
   obtain ⟨gof,hG⟩:=grp_all (formsS w n).1
   have hS:morphology_Syncretic w n=some ((synRun (formsS w n).1 0 ([],[])).2,(formsS w n).2):=by
    unfold morphology_Syncretic
    rw [hF,Option.bind_some]
    by_cases h0:(formsS w n).2=0
    ·rw [cpos h0,cpos (by simp only [lim]; omega),h0]
    ·rw [cneg h0,hlen.2 h0]; rfl
   simp only [cond_true,hS,hF,Option.bind_some,decide_true]
   generalize formsS w n=r at *
   obtain ⟨fs,e⟩:=r
   have key:=syn_all (e:=e) hG (by have:=hlen.1; simp only at this; omega)
   by_cases h0:e=0
   ·rw [cpos h0]; exact key
   ·have hn:fs=[]:=hlen.2 h0
    subst hn
    rw [cneg h0]
    exact key
end Go.Ai.Mor

namespace Go.Ai.Mor
open Go Go.Ai
theorem MorphologySyncretic_law (x:Tup E.Γ l11_MorphologySyncretic.D.ps) (hk:okTup (okD E 8) l11_MorphologySyncretic.D.ps x) (h:szTup (szD E 8) l11_MorphologySyncretic.D.ps x<=1048576):l11_MorphologySyncretic.con.S.fn x=some true:=by
 obtain ⟨w,n⟩:aWords×List UInt8:=x
 have hz:Z8 (.st .aWords) w+(n.length+1)<=1048576:=h
 have hw:OkW w:=z8_words (Nat.le_refl _) (by omega)
 exact law_Syncretic hw n
end Go.Ai.Mor

