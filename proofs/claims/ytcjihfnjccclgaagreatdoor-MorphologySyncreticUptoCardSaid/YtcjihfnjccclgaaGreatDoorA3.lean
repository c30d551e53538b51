/- A part that the proofs of the laws of this seat share: an interpreter of loaded code over typed values, what it says of the functions that the laws reach, and plain facts on these. -/
import Derived.Test.YtcjihfnjccclgaaGreatDoorA0
import Derived.Test.YtcjihfnjccclgaaGreatDoorA1
import Derived.Test.YtcjihfnjccclgaaGreatDoorA2
import Derived.Shelf.SlSortCmp.SmallK
import Derived.Shelf.SlSortCmp.NoneTotal
import Derived.Shelf.Small.Bits
import Derived.Laws.Cover1
import Derived.WalkKit
import Derived.Deep.OwnRows
import Derived.Deep.LoopGhost
import Derived.Deep.RegionHeld3
set_option linter.unusedSectionVars false
set_option linter.unusedVariables false
set_option linter.unusedSimpArgs false
set_option maxRecDepth 100000
noncomputable section
namespace Go.Ai.Mor
open Go Go.Ai Go.Proofs
namespace r07_Letters
inductive Pt
 | c2 (d:List UInt8)
 | c1 (e:List aLetter) (d:List UInt8) (h:Int)
def D:FD pd := {f:=64,fn:=Tryz.f64,q:=26,pl:=pls 11 [(3,kp [0,1,6,7]),(9,kp [1,6])],ps:=[(.sl (.st .aLetter)),.str],rs:=[(.sl (.int .i32)),.bool],ex:=[none,none],cs:=[unicode_utf8_ValidString.con,r07_Index.con]}
def go:((List aLetter)×(List UInt8))->Tr Pt ((List Int)×Bool)
 | (e,d)=>
  .c (decide ((rns d).length<=lim))
  (.j (.c1 e d 0)) .n
def st:Pt->Tr Pt ((List Int)×Bool)
 | .c2 d=>
  .b (unicode_utf8_ValidString d) fun m=>
  .r (rns d,m)
 | .c1 e d h=>
  .c (decide (h<((rns d).length:Int)))
  (.c (decide (0<=h)&&decide (h<((rns d).length:Int)))
   (.b (r07_Index e ((rns d).getD h.toNat default)) fun i=>
    .c (decide (i<0))
    (.r ([],false))
    (.j (.c1 e d (IntKind.i64.wrap (h+1))))) .n)
  (.j (.c2 d))
def pt:Pt->List Dir×St E
 | .c2 d=>([.r,.r],ms 26 26 [(1,hS d),(6,hL (.int .i32) (rns d))])
 | .c1 e d h=>([.r,.r,.l,.r,.k],ms 26 26 [(0,hL (.st .aLetter) e),(1,hS d),(6,hL (.int .i32) (rns d)),(7,hI h)])
theorem g:D.G st pt:=fun Z a=>by cases a <;> kernel_rfl
theorem g0:D.G0 go pt:=fun Z ⟨_,_⟩=>by kernel_rfl
abbrev con:Con Tryz.prog E:=FD.con Tryz.func64 (by kernel_rfl) g g0
end r07_Letters
def r07_Letters (e:List aLetter) (d:List UInt8):Option ((List Int)×Bool):=ev (r07_Letters.go (e,d)) (fx r07_Letters.st)
end Go.Ai.Mor
end

set_option maxRecDepth 100000
noncomputable section
namespace Go.Ai.Mor
open Go Go.Ai Go.Proofs
namespace r07_Word
inductive Pt
def D:FD pd := {f:=42,fn:=Tryz.f42,q:=19,ps:=[(.sl (.st .aLetter)),.str],rs:=[.bool],ex:=[none],cs:=[r07_Letters.con]}
def go:((List aLetter)×(List UInt8))->Tr Pt (Bool)
 | (d,e)=>
  .b (r07_Letters d e) fun h=>
  .c h.2
  (.r (decide ((h.1.length:Int)<=40)))
  (.r false)
def st:Pt->Tr Pt (Bool):=nofun
def pt:Pt->List Dir×St E:=nofun
theorem g:D.G st pt:=fun Z a=>by cases a <;> kernel_rfl
theorem g0:D.G0 go pt:=fun Z ⟨_,_⟩=>by kernel_rfl
abbrev con:Con Tryz.prog E:=FD.con Tryz.func42 (by kernel_rfl) g g0
end r07_Word
def r07_Word (d:List aLetter) (e:List UInt8):Option (Bool):=ev (r07_Word.go (d,e)) (fx r07_Word.st)
end Go.Ai.Mor
end

set_option maxRecDepth 100000
noncomputable section
namespace Go.Ai.Mor
open Go Go.Ai Go.Proofs
namespace r07_Admissible
inductive Pt
 | c2 (d:List aLetter)
 | c1 (d:List aLetter) (e:Int)
def D:FD pd := {f:=90,fn:=Tryz.f90,q:=44,pl:=pls 10 [(2,kp [0,3]),(8,kp [0])],ps:=[(.sl (.st .aLetter))],rs:=[.bool],ex:=[none],cs:=[unicode_utf8_ValidRune.con,r07_Index.con]}
def go:((List aLetter))->Tr Pt (Bool)
 | d=>
  .j (.c1 d 0)
def st:Pt->Tr Pt (Bool)
 | .c2 d=>
  .c (decide (1<=(d.length:Int)))
  (.r (decide ((d.length:Int)<=65)))
  (.r false)
 | .c1 d e=>
  .c (decide (e<(d.length:Int)))
  (.c (decide (0<=e)&&decide (e<(d.length:Int)))
   (.c (decide (((d.getD e.toNat default).fRune)<=32))
    (.r false)
    (.c (decide (0<=e)&&decide (e<(d.length:Int)))
     (.b (unicode_utf8_ValidRune ((d.getD e.toNat default).fRune)) fun h=>
      .c (!h)
      (.r false)
      (.c (decide (0<=e)&&decide (e<(d.length:Int)))
       (.b (r07_Index d ((d.getD e.toNat default).fRune)) fun i=>
        .c (!decide (i=e))
        (.r false)
        (.j (.c1 d (IntKind.i64.wrap (e+1))))) .n)) .n)) .n)
  (.j (.c2 d))
def pt:Pt->List Dir×St E
 | .c2 d=>([.r],ms 44 44 [(0,hL (.st .aLetter) d)])
 | .c1 d e=>([.r,.l,.r,.k],ms 44 44 [(0,hL (.st .aLetter) d),(3,hI e)])
theorem g:D.G st pt:=fun Z a=>by cases a <;> kernel_rfl
theorem g0:D.G0 go pt:=fun Z _=>by kernel_rfl
abbrev con:Con Tryz.prog E:=FD.con Tryz.func90 (by kernel_rfl) g g0
end r07_Admissible
def r07_Admissible (d:List aLetter):Option (Bool):=ev (r07_Admissible.go d) (fx r07_Admissible.st)
end Go.Ai.Mor
end

set_option maxRecDepth 100000
noncomputable section
namespace Go.Ai.Mor
open Go Go.Ai Go.Proofs
namespace r07_pattern
inductive Pt
 | c2 (d:List aItem)
 | c1 (e:List aLetter) (d:List aItem) (h:Int)
def D:FD pd := {f:=92,fn:=Tryz.f92,q:=29,pl:=pls 11 [(2,kp [0,1,5]),(9,kp [1])],ps:=[(.sl (.st .aLetter)),(.sl (.st .aItem))],rs:=[.bool],ex:=[none],cs:=[r07_Letters.con]}
def go:((List aLetter)×(List aItem))->Tr Pt (Bool)
 | (e,d)=>
  .j (.c1 e d 0)
def st:Pt->Tr Pt (Bool)
 | .c2 d=>
  .r (decide ((d.length:Int)<=3))
 | .c1 e d h=>
  .c (decide (h<(d.length:Int)))
  (.c (decide (0<=h)&&decide (h<(d.length:Int)))
   (.b (r07_Letters e ((d.getD h.toNat default).fLetters)) fun i=>
    .c (!i.2)
    (.r false)
    (.j (.c1 e d (IntKind.i64.wrap (h+1))))) .n)
  (.j (.c2 d))
def pt:Pt->List Dir×St E
 | .c2 d=>([.r],ms 29 29 [(1,hL (.st .aItem) d)])
 | .c1 e d h=>([.r,.l,.r,.k],ms 29 29 [(0,hL (.st .aLetter) e),(1,hL (.st .aItem) d),(5,hI h)])
theorem g:D.G st pt:=fun Z a=>by cases a <;> kernel_rfl
theorem g0:D.G0 go pt:=fun Z ⟨_,_⟩=>by kernel_rfl
abbrev con:Con Tryz.prog E:=FD.con Tryz.func92 (by kernel_rfl) g g0
end r07_pattern
def r07_pattern (e:List aLetter) (d:List aItem):Option (Bool):=ev (r07_pattern.go (e,d)) (fx r07_pattern.st)
end Go.Ai.Mor
end

set_option maxRecDepth 100000
noncomputable section
namespace Go.Ai.Mor
open Go Go.Ai Go.Proofs
namespace r07_Valid
inductive Pt
def D:FD pd := {f:=59,fn:=Tryz.f59,q:=48,ps:=[(.sl (.st .aLetter)),(.st .aRule)],rs:=[.bool],ex:=[none],cs:=[r07_Letters.con,r07_Admissible.con,r07_Index.con,r07_pattern.con]}
def go:((List aLetter)×aRule)->Tr Pt (Bool)
 | (d,e)=>
  .b (r07_Letters d e.fTo) fun h=>
  .b (r07_Admissible d) fun i=>
  .c i
  (.c (decide (e.fFrom=0))
   (.c h.2
    (.c (decide ((h.1.length:Int)<=4))
     (.b (r07_pattern d e.fLeft) fun k=>
      .c k
      (.b (r07_pattern d e.fRight) fun m=>
       .r m)
      (.r false))
     (.r false))
    (.r false))
   (.b (r07_Index d e.fFrom) fun j=>
    .c (decide (0<=j))
    (.c h.2
     (.c (decide ((h.1.length:Int)<=4))
      (.b (r07_pattern d e.fLeft) fun l=>
       .c l
       (.b (r07_pattern d e.fRight) fun n=>
        .r n)
       (.r false))
      (.r false))
     (.r false))
    (.r false)))
  (.r false)
def st:Pt->Tr Pt (Bool):=nofun
def pt:Pt->List Dir×St E:=nofun
theorem g:D.G st pt:=fun Z a=>by cases a <;> kernel_rfl
theorem g0:D.G0 go pt:=fun Z ⟨_,_⟩=>by kernel_rfl
abbrev con:Con Tryz.prog E:=FD.con Tryz.func59 (by kernel_rfl) g g0
end r07_Valid
def r07_Valid (d:List aLetter) (e:aRule):Option (Bool):=ev (r07_Valid.go (d,e)) (fx r07_Valid.st)
end Go.Ai.Mor
end

set_option maxRecDepth 100000
noncomputable section
namespace Go.Ai.Mor
open Go Go.Ai Go.Proofs
namespace rewrite_letters_has
inductive Pt
 | c1 (b:List aLetter) (d e:Int)
def D:FD pd := {f:=81,fn:=Tryz.f81,q:=18,pl:=pls 11 [(2,kp [1,7,8,9])],ps:=[(.sl (.st .aLetter)),(.int .i32)],rs:=[.bool],ex:=[none]}
def go:((List aLetter)×Int)->Tr Pt (Bool)
 | (b,d)=>
  .j (.c1 b d 0)
def st:Pt->Tr Pt (Bool)
 | .c1 b d e=>
  .c (decide (e<(b.length:Int)))
  (.c (decide (0<=e)&&decide (e<(b.length:Int)))
   (.c (decide (((b.getD e.toNat default).fRune)=d))
    (.r true)
    (.j (.c1 b d (IntKind.i64.wrap (e+1))))) .n)
  (.r false)
def pt:Pt->List Dir×St E
 | .c1 b d e=>([.r,.l,.r,.k],ms 18 18 [(1,hi .i32 d),(7,hL (.st .aLetter) b),(8,hI (b.length:Int)),(9,hI e)])
theorem g:D.G st pt:=fun Z a=>by cases a <;> kernel_rfl
theorem g0:D.G0 go pt:=fun Z ⟨_,_⟩=>by kernel_rfl
abbrev con:Con Tryz.prog E:=FD.con Tryz.func81 (by kernel_rfl) g g0
end rewrite_letters_has
def rewrite_letters_has (b:List aLetter) (d:Int):Option (Bool):=ev (rewrite_letters_has.go (b,d)) (fx rewrite_letters_has.st)
end Go.Ai.Mor
end

set_option maxRecDepth 100000
noncomputable section
namespace Go.Ai.Mor
open Go Go.Ai Go.Proofs
namespace rewrite_letters_admissible
inductive Pt
 | c1 (d:List aLetter) (e:Int)
def D:FD pd := {f:=80,fn:=Tryz.f80,q:=38,pl:=pls 14 [(5,kp [0,13,14,15])],ps:=[(.sl (.st .aLetter))],rs:=[.bool],ex:=[none],cs:=[unicode_utf8_ValidRune.con,rewrite_letters_has.con]}
def go:((List aLetter))->Tr Pt (Bool)
 | d=>
  .c (decide ((d.length:Int)<1))
  (.r false)
  (.c (decide (65<(d.length:Int)))
   (.r false)
   (.j (.c1 d 0)))
def st:Pt->Tr Pt (Bool)
 | .c1 d e=>
  .c (decide (e<(d.length:Int)))
  (.c (decide (0<=e)&&decide (e<(d.length:Int)))
   (.c (decide (((d.getD e.toNat default).fRune)<=32))
    (.r false)
    (.b (unicode_utf8_ValidRune ((d.getD e.toNat default).fRune)) fun h=>
     .c (!h)
     (.r false)
     (.c (decide (0<=e)&&decide (e<=(d.length:Int)))
      (.b (rewrite_letters_has (d.take e.toNat) ((d.getD e.toNat default).fRune)) fun i=>
       .c i
       (.r false)
       (.j (.c1 d (IntKind.i64.wrap (e+1))))) .n))) .n)
  (.r true)
def pt:Pt->List Dir×St E
 | .c1 d e=>([.r,.r,.l,.r,.k],ms 38 38 [(0,hL (.st .aLetter) d),(13,hL (.st .aLetter) d),(14,hI (d.length:Int)),(15,hI e)])
theorem g:D.G st pt:=fun Z a=>by cases a <;> kernel_rfl
theorem g0:D.G0 go pt:=fun Z _=>by kernel_rfl
abbrev con:Con Tryz.prog E:=FD.con Tryz.func80 (by kernel_rfl) g g0
end rewrite_letters_admissible
def rewrite_letters_admissible (d:List aLetter):Option (Bool):=ev (rewrite_letters_admissible.go d) (fx rewrite_letters_admissible.st)
end Go.Ai.Mor
end

set_option maxRecDepth 100000
noncomputable section
namespace Go.Ai.Mor
open Go Go.Ai Go.Proofs
namespace pattern_Valid
inductive Pt
 | c4 (i:List (Int×Int)) (d:List aItem) (h:Int) (s:List Int) (o:Nat)
 | c3 (i:List (Int×Int)) (d:List aItem) (h:Int)
 | c2 (e:List aLetter) (d:List aItem) (i:List (Int×Int))
 | c1 (e:List aLetter) (d:List aItem) (m:Int) (p:List (Int×Int))
def D:FD pd := {f:=83,fn:=Tryz.f83,q:=118,pl:=pls 16 [(6,kp [5,23,24,25] [(50,0)])],ps:=[(.sl (.st .aLetter)),(.sl (.st .aItem))],rs:=[.bool],ex:=[none],dp:=2,cs:=[unicode_utf8_ValidString.con,unicode_utf8_ValidRune.con],il:=[inl 0 13 114 39 Tryz.f114 (pls 14 [(3,kp [0,4,12,13,14] [(50,0)] [1]),(12,kp [0,4] [(50,0)] [1])]) Tryz.func114 (by kernel_rfl),inl 0 33 115 86 Tryz.f115 (pls 16 [(6,kp [0,15] [(50,0),(101,0)] [5,23,24,25] [(6,.own (100006,0,3) (.int .i64))])]) Tryz.func115 (by kernel_rfl)]}
def go:((List aLetter)×(List aItem))->Tr Pt (Bool)
 | (e,d)=>
  .j (.c1 e d 0 ([]:(List (Int×Int))))
def st:Pt->Tr Pt (Bool)
 | .c4 i d h s o=>
  .c (decide (o<((d.getD h.toNat default).fLetters).length))
  (.c (!((mget (keyEq (E:=E) (.int .i32)) i ((dec ((d.getD h.toNat default).fLetters) o).1:Int)).isSome))
   (.r false)
   (.c (decide (s.length+([(mget (keyEq (E:=E) (.int .i32)) i ((dec ((d.getD h.toNat default).fLetters) o).1:Int)).getD 0]:List Int).length<=lim))
    (.j (.c4 i d h (s++[(mget (keyEq (E:=E) (.int .i32)) i ((dec ((d.getD h.toNat default).fLetters) o).1:Int)).getD 0]) (o+(dec ((d.getD h.toNat default).fLetters) o).2))) .n))
  (.j (.c3 i d (IntKind.i64.wrap (h+1))))
 | .c3 i d h=>
  .c (decide (h<(d.length:Int)))
  (.c (decide (0<=h)&&decide (h<(d.length:Int)))
   (.b (unicode_utf8_ValidString ((d.getD h.toNat default).fLetters)) fun u=>
    .c (!u)
    (.r false)
    (.j (.c4 i d h ([]:(List Int)) 0))) .n)
  (.r true)
 | .c2 e d i=>
  .c (!(decide ((e.length:Int)<=65)))
  (.r false)
  (.c (decide (3<(d.length:Int)))
   (.r false)
   (.j (.c3 i d 0)))
 | .c1 e d m p=>
  .c (decide (m<(e.length:Int)))
  (.c (decide (0<=m)&&decide (m<(e.length:Int)))
   (.c ((mget (keyEq (E:=E) (.int .i32)) p ((e.getD m.toNat default).fRune)).isSome)
    (.r false)
    (.c (decide (((e.getD m.toNat default).fRune)<=32))
     (.r false)
     (.b (unicode_utf8_ValidRune ((e.getD m.toNat default).fRune)) fun t=>
      .c (!t)
      (.r false)
      (.j (.c1 e d (IntKind.i64.wrap (m+1)) (mput (keyEq (E:=E) (.int .i32)) p ((e.getD m.toNat default).fRune) m)))))) .n)
  (.j (.c2 e d p))
def pt:Pt->List Dir×St E
 | .c4 i d h s o=>([.r,.r,.r,.l,.r,.k,.L,.r,.r,.l,.k,.r,.l,.c 3 115 39 0 false,.r,.r,.r,.l,.r,.k],ms 32 118 [(0,.one (.mp 50)),(6,hT 100006 3 (.int .i64) s),(15,hP 101)] [(50,.mp (.int .i32) (.int .i64) i),(101,.iter ((d.getD h.toNat default).fLetters) o)] 39 [(5,.one (.mp 50)),(23,hL (.st .aItem) d),(24,hI (d.length:Int)),(25,hI h)] [] false 86)
 | .c3 i d h=>([.r,.r,.r,.l,.r,.k],ms 39 118 [(5,.one (.mp 50)),(23,hL (.st .aItem) d),(24,hI (d.length:Int)),(25,hI h)] [(50,.mp (.int .i32) (.int .i64) i)])
 | .c2 e d i=>([.r,.l,.c 1 114 39 0 false,.r,.r],ms 47 118 [(0,hL (.st .aLetter) e),(4,.one (.mp 50))] [(50,.mp (.int .i32) (.int .i64) i)] 39 [(1,hL (.st .aItem) d)] [] false 39)
 | .c1 e d m p=>([.r,.l,.c 1 114 39 0 false,.r,.r,.l,.r,.k],ms 47 118 [(0,hL (.st .aLetter) e),(4,.one (.mp 50)),(12,hL (.st .aLetter) e),(13,hI (e.length:Int)),(14,hI m)] [(50,.mp (.int .i32) (.int .i64) p)] 39 [(1,hL (.st .aItem) d)] [] false 39)
theorem g:D.G st pt:=fun Z a=>by cases a <;> kernel_rfl
theorem g0:D.G0 go pt:=fun Z ⟨_,_⟩=>by kernel_rfl
abbrev con:Con Tryz.prog E:=FD.con Tryz.func83 (by kernel_rfl) g g0
end pattern_Valid
def pattern_Valid (e:List aLetter) (d:List aItem):Option (Bool):=ev (pattern_Valid.go (e,d)) (fx pattern_Valid.st)
end Go.Ai.Mor
end

set_option maxRecDepth 100000
noncomputable section
namespace Go.Ai.Mor
open Go Go.Ai Go.Proofs
namespace rewrite_Valid
inductive Pt
 | c2 (e:List aLetter) (d:aRule) (i:Int) (h:Nat)
 | c1 (e:List aLetter) (d:aRule) (m:Bool)
def D:FD pd := {f:=52,fn:=Tryz.f52,q:=68,pl:=pls 6 [(2,kp [0,3,5,21] [(3,6)])],ps:=[(.sl (.st .aLetter)),(.st .aRule)],rs:=[.bool],ex:=[none],dp:=2,cs:=[unicode_utf8_ValidString.con,rewrite_letters_admissible.con,rewrite_letters_has.con,pattern_Valid.con],rcs:=[rewrite_letters_has.con],il:=[inl 0 26 82 39 Tryz.f82 (pls 15 [(6,kp [1,2,7,14] [(53,0),(3,6)] [0,3])]) Tryz.func82 (by kernel_rfl)]}
def go:((List aLetter)×aRule)->Tr Pt (Bool)
 | (e,d)=>
  .b (rewrite_letters_admissible e) fun u=>
  .c (!u)
  (.j (.c1 e d true))
  (.c (!decide (d.fFrom=0))
   (.b (rewrite_letters_has e d.fFrom) fun n=>
    .j (.c1 e d (!n)))
   (.j (.c1 e d false)))
def st:Pt->Tr Pt (Bool)
 | .c2 e d i h=>
  .c (decide (h<d.fTo.length))
  (.c (decide (4<(IntKind.i64.wrap (i+1))))
   (.r false)
   (.b (rewrite_letters_has e ((dec d.fTo h).1:Int)) fun t=>
    .c (!t)
    (.r false)
    (.j (.c2 e d (IntKind.i64.wrap (i+1)) (h+(dec d.fTo h).2)))))
  (.b (pattern_Valid e d.fLeft) fun o=>
   .c o
   (.b (pattern_Valid e d.fRight) fun p=>
    .r p)
   (.r false))
 | .c1 e d m=>
  .c m
  (.r false)
  (.b (unicode_utf8_ValidString d.fTo) fun s=>
   .c (!s)
   (.r false)
   (.j (.c2 e d 0 0)))
def pt:Pt->List Dir×St E
 | .c2 e d i h=>([.r,.r,.r,.l,.c 4 82 39 0 false,.r,.r,.r,.l,.r,.k],ms 29 68 [(1,hI 4),(2,.one (.fn (.func 81) [.tv (.sl (.st .aLetter) e)] [])),(7,hI i),(14,hP 53)] [(3,.cells [.tv (.int .i32 d.fFrom),cS d.fTo,cL (.st .aItem) d.fLeft,cL (.st .aItem) d.fRight,cB d.fInitial,cB d.fFinal]),(53,.iter d.fTo h)] 39 [(0,hL (.st .aLetter) e),(3,hP 3)] [] false 39)
 | .c1 e d m=>([.r,.r,.l],ms 39 68 [(0,hL (.st .aLetter) e),(3,hP 3),(5,hL (.st .aLetter) e),(21,hB m)] [(3,.cells [.tv (.int .i32 d.fFrom),cS d.fTo,cL (.st .aItem) d.fLeft,cL (.st .aItem) d.fRight,cB d.fInitial,cB d.fFinal])])
theorem g:D.G st pt:=fun Z a=>by cases a <;> kernel_rfl
theorem g0:D.G0 go pt:=fun Z ⟨_,_⟩=>by kernel_rfl
abbrev con:Con Tryz.prog E:=FD.con Tryz.func52 (by kernel_rfl) g g0
end rewrite_Valid
def rewrite_Valid (e:List aLetter) (d:aRule):Option (Bool):=ev (rewrite_Valid.go (e,d)) (fx rewrite_Valid.st)
end Go.Ai.Mor
end

set_option maxRecDepth 100000
noncomputable section
namespace Go.Ai.Mor
open Go Go.Ai Go.Proofs
namespace r01_Good
inductive Pt
def D:FD pd := {f:=86,fn:=Tryz.f86,q:=17,ps:=[(.int .i32)],rs:=[.bool],ex:=[none]}
def go:(Int)->Tr Pt (Bool)
 | b=>
  .c (decide (32<b))
  (.c (decide (b<=1114111))
   (.c (decide (b<55296))
    (.r true)
    (.r (decide (57343<b))))
   (.r false))
  (.r false)
def st:Pt->Tr Pt (Bool):=nofun
def pt:Pt->List Dir×St E:=nofun
theorem g:D.G st pt:=fun Z a=>by cases a <;> kernel_rfl
theorem g0:D.G0 go pt:=fun Z _=>by kernel_rfl
abbrev con:Con Tryz.prog E:=FD.con Tryz.func86 (by kernel_rfl) g g0
end r01_Good
def r01_Good (b:Int):Option (Bool):=ev (r01_Good.go b) (fx r01_Good.st)
end Go.Ai.Mor
end

set_option maxRecDepth 100000
noncomputable section
namespace Go.Ai.Mor
open Go Go.Ai Go.Proofs
namespace r01_Valid
inductive Pt
 | c1 (d:List aLetter) (e:Int)
def D:FD pd := {f:=57,fn:=Tryz.f57,q:=36,pl:=pls 13 [(5,kp [0,3])],ps:=[(.sl (.st .aLetter))],rs:=[.bool],ex:=[none],cs:=[r01_Good.con,r01_Index.con]}
def go:((List aLetter))->Tr Pt (Bool)
 | d=>
  .c (decide ((d.length:Int)<1))
  (.r false)
  (.c (decide (64<(d.length:Int)))
   (.r false)
   (.j (.c1 d 0)))
def st:Pt->Tr Pt (Bool)
 | .c1 d e=>
  .c (decide (e<(d.length:Int)))
  (.c (decide (0<=e)&&decide (e<(d.length:Int)))
   (.b (r01_Good ((d.getD e.toNat default).fRune)) fun h=>
    .c (!h)
    (.r false)
    (.c (decide (0<=e)&&decide (e<(d.length:Int)))
     (.b (r01_Index d ((d.getD e.toNat default).fRune)) fun i=>
      .c (!decide (i=e))
      (.r false)
      (.j (.c1 d (IntKind.i64.wrap (e+1))))) .n)) .n)
  (.r true)
def pt:Pt->List Dir×St E
 | .c1 d e=>([.r,.r,.l,.r,.k],ms 36 36 [(0,hL (.st .aLetter) d),(3,hI e)])
theorem g:D.G st pt:=fun Z a=>by cases a <;> kernel_rfl
theorem g0:D.G0 go pt:=fun Z _=>by kernel_rfl
abbrev con:Con Tryz.prog E:=FD.con Tryz.func57 (by kernel_rfl) g g0
end r01_Valid
def r01_Valid (d:List aLetter):Option (Bool):=ev (r01_Valid.go d) (fx r01_Valid.st)
end Go.Ai.Mor
end

set_option maxRecDepth 100000
noncomputable section
namespace Go.Ai.Mor
open Go Go.Ai Go.Proofs
namespace r01_UTF8
inductive Pt
 | c2 (d:Nat) (b:List UInt8) (e:Bool)
 | c1 (b:List UInt8) (d:Nat)
def D:FD pd := {f:=149,fn:=Tryz.f149,q:=28,pl:=pls 10 [(2,kp [0,6] [(6,0)]),(6,kp [0,6,27] [(6,0)])],ps:=[.str],rs:=[.bool],ex:=[none]}
def go:((List UInt8))->Tr Pt (Bool)
 | b=>
  .j (.c1 b 0)
def st:Pt->Tr Pt (Bool)
 | .c2 d b e=>
  .c e
  (.r false)
  (.j (.c1 b (d+(dec b d).2)))
 | .c1 b d=>
  .c (decide (d<b.length))
  (.c (decide (((dec b d).1:Int)=65533))
   (.c (decide ((b.length:Int)<(IntKind.i64.wrap ((d:Int)+3))))
    (.j (.c2 d b true))
    (.c (decide (0<=(d:Int))&&decide ((d:Int)<=IntKind.i64.wrap ((d:Int)+3))&&decide (IntKind.i64.wrap ((d:Int)+3)<=(b.length:Int)))
     (.j (.c2 d b (!decide (((b.take (IntKind.i64.wrap ((d:Int)+3)).toNat).drop (d:Int).toNat)=[239,191,189])))) .n))
   (.j (.c2 d b false)))
  (.r true)
def pt:Pt->List Dir×St E
 | .c2 d b e=>([.r,.l,.r,.k,.L,.r,.r,.k,.r],ms 28 28 [(0,hS b),(6,hP 6),(27,hB e)] [(6,.iter b (d+(dec b d).2))])
 | .c1 b d=>([.r,.l,.r,.k],ms 28 28 [(0,hS b),(6,hP 6)] [(6,.iter b d)])
theorem g:D.G st pt:=fun Z a=>by cases a <;> kernel_rfl
theorem g0:D.G0 go pt:=fun Z _=>by kernel_rfl
abbrev con:Con Tryz.prog E:=FD.con Tryz.func149 (by kernel_rfl) g g0
end r01_UTF8
def r01_UTF8 (b:List UInt8):Option (Bool):=ev (r01_UTF8.go b) (fx r01_UTF8.st)
end Go.Ai.Mor
end

set_option maxRecDepth 100000
noncomputable section
namespace Go.Ai.Mor
open Go Go.Ai Go.Proofs
namespace r01_Over
inductive Pt
 | c1 (e:List aLetter) (d:List UInt8) (h:Nat)
def D:FD pd := {f:=137,fn:=Tryz.f137,q:=19,pl:=pls 13 [(5,kp [0,11] [(11,0)])],ps:=[(.sl (.st .aLetter)),.str],rs:=[.bool],ex:=[none],cs:=[r01_Index.con,r01_UTF8.con]}
def go:((List aLetter)×(List UInt8))->Tr Pt (Bool)
 | (e,d)=>
  .b (r01_UTF8 d) fun m=>
  .c (!m)
  (.r false)
  (.j (.c1 e d 0))
def st:Pt->Tr Pt (Bool)
 | .c1 e d h=>
  .c (decide (h<d.length))
  (.b (r01_Index e ((dec d h).1:Int)) fun i=>
   .c (decide (i<0))
   (.r false)
   (.j (.c1 e d (h+(dec d h).2))))
  (.r true)
def pt:Pt->List Dir×St E
 | .c1 e d h=>([.r,.r,.l,.r,.k],ms 19 19 [(0,hL (.st .aLetter) e),(11,hP 11)] [(11,.iter d h)])
theorem g:D.G st pt:=fun Z a=>by cases a <;> kernel_rfl
theorem g0:D.G0 go pt:=fun Z ⟨_,_⟩=>by kernel_rfl
abbrev con:Con Tryz.prog E:=FD.con Tryz.func137 (by kernel_rfl) g g0
end r01_Over
def r01_Over (e:List aLetter) (d:List UInt8):Option (Bool):=ev (r01_Over.go (e,d)) (fx r01_Over.st)
end Go.Ai.Mor
end

set_option maxRecDepth 100000
noncomputable section
namespace Go.Ai.Mor
open Go Go.Ai Go.Proofs
namespace r01_IsWord
inductive Pt
def D:FD pd := {f:=118,fn:=Tryz.f118,q:=14,ps:=[(.sl (.st .aLetter)),.str],rs:=[.bool],ex:=[none],cs:=[r01_Over.con]}
def go:((List aLetter)×(List UInt8))->Tr Pt (Bool)
 | (e,d)=>
  .b (r01_Over e d) fun h=>
  .c h
  (.c (decide ((rns d).length<=lim))
   (.r (decide (((rns d).length:Int)<=40))) .n)
  (.r false)
def st:Pt->Tr Pt (Bool):=nofun
def pt:Pt->List Dir×St E:=nofun
theorem g:D.G st pt:=fun Z a=>by cases a <;> kernel_rfl
theorem g0:D.G0 go pt:=fun Z ⟨_,_⟩=>by kernel_rfl
abbrev con:Con Tryz.prog E:=FD.con Tryz.func118 (by kernel_rfl) g g0
end r01_IsWord
def r01_IsWord (e:List aLetter) (d:List UInt8):Option (Bool):=ev (r01_IsWord.go (e,d)) (fx r01_IsWord.st)
end Go.Ai.Mor
end

namespace Go.Ai.Mor
open Go Go.Ai
theorem dlt (a b:Int):decide (a<b) = !decide (b<=a):=by by_cases h:b<=a <;> simp [h] <;> omega
theorem rns_eq (s:List UInt8):rns s=(runesL s).map fun r:Nat=>(r:Int):=by
 have key:∀ (q p:Nat),s.length - p<=q->runesF s q p=(runesL (s.drop p)).map fun r:Nat=>(r:Int):=by
  intro q
  induction q with
  | zero=>intro p h; rw [runesL_end (by omega)]; rfl
  | succ q ih=>
    intro p h
    have hd:=dec_pos s p
    unfold runesF
    by_cases hp:p<s.length
    ·rw [runesL_at hp,List.map_cons,<- ih (p+(dec s p).2) (by omega)]; simp [hp]
    ·rw [runesL_end hp]; simp [hp]
 have:=key s.length 0 (by omega)
 rwa [List.drop_zero] at this
theorem rns_len (s:List UInt8):(rns s).length=(runesL s).length:=by rw [rns_eq,List.length_map]
theorem fst_at {α:Type} [Inhabited α] {p:α->Bool} {xs:List α} {i:Nat} (hi:i<xs.length) (hp:p (xs.getD i default)=true):decide (fstIdx p xs 0=(i:Int)) = !((xs.take i).any p):=by
 rcases fstIdx_cases p xs 0 with ⟨h1,h2⟩ | ⟨j,h,h1,h2,h3,h4⟩
 ·have:=(List.any_eq_false.1 h1) _ (getD_mem hi)
  rw [hp] at this; exact absurd rfl this
 ·rw [h3]
  have hge : ¬ i<j:=fun hlt=>by
   have:=h2 i hlt
   have e:xs.getD i default=xs[i]:=by simp [hi]
   rw [e,this] at hp; cases hp
  by_cases e:j=i
  ·subst e
   have:(xs.take j).any p=false:=by
    rw [List.any_eq_false]
    intro y hy
    obtain ⟨k,hk,rfl⟩:=List.getElem_of_mem hy
    rw [List.length_take] at hk
    rw [List.getElem_take]
    simp [h2 k (by omega)]
   rw [this]; simp
  ·have:(xs.take i).any p=true:=by
    rw [List.any_eq_true]
    refine ⟨xs[j],?_,h1⟩
    have hk:j<(xs.take i).length:=by rw [List.length_take]; omega
    have:(xs.take i)[j]=xs[j]:=List.getElem_take
    rw [<- this]; exact List.getElem_mem hk
   rw [this]
   simp
   omega
theorem inA_fst (a:List aLetter) (r:Int):decide (fstIdx (fun x:aLetter=>decide (x.fRune=r)) a 0<0) = !inA a r:=by
 rw [dlt,fstIdx_nonneg]; rfl
def admB (a:List aLetter):Bool:=decide (1<=a.length)&&(decide (a.length<=65)&&(a.all (fun l=>goodB l.fRune)&&distL [] a))
theorem ref01_Good_eq (r:Int):r01_Good r=some (goodB r):=by
 simp only [r01_Good,r01_Good.go,evs,ev_b,goodB]
 by_cases h1:32<r <;> by_cases h2:r<55296 <;> by_cases h3:57343<r <;> by_cases h4:r<=1114111 <;> simp [h1,h2,h3,h4]
theorem ref01_Index_eq {a:List aLetter} (hl:a.length<=1048576) (r:Int):r01_Index a r=some (fstIdx (fun x:aLetter=>decide (x.fRune=r)) a 0):=
 overI (xs:=a) (f:=fun i (_:Unit)=>fx r01_Index.st (.c1 a r i)) (g:=fun i t _=>some (fstIdx (fun x:aLetter=>decide (x.fRune=r)) t i)) (fun _=>by
  rw [fx_eq]; simp only [r01_Index.st,evs,ev_b,↓cneg (Int.lt_irrefl _),fstIdx]) (fun i x t _ hi hx _ _ ih=>by
  have ih:=ih ()
  rw [fx_eq]; simp (disch:=omega) only [r01_Index.st,evs,ev_b,↓cpos,↓cpos2,Int.toNat_natCast,hx,wsucc,ih,fstIdx]
  cases decide (x.fRune=r) <;> rfl) ()
theorem ref07_Index_eq {a:List aLetter} (hl:a.length<=1048576) (r:Int):r07_Index a r=some (fstIdx (fun x:aLetter=>decide (x.fRune=r)) a 0):=
 overI (xs:=a) (f:=fun i (_:Unit)=>fx r07_Index.st (.c1 a r i)) (g:=fun i t _=>some (fstIdx (fun x:aLetter=>decide (x.fRune=r)) t i)) (fun _=>by
  rw [fx_eq]; simp only [r07_Index.st,evs,ev_b,↓cneg (Int.lt_irrefl _),fstIdx]) (fun i x t _ hi hx _ _ ih=>by
  have ih:=ih ()
  rw [fx_eq]; simp (disch:=omega) only [r07_Index.st,evs,ev_b,↓cpos,↓cpos2,Int.toNat_natCast,hx,wsucc,ih,fstIdx]
  cases decide (x.fRune=r) <;> rfl) ()
theorem letters_has_eq {a:List aLetter} (hl:a.length<=1048576) (r:Int):rewrite_letters_has a r=some (inA a r):=
 over (xs:=a) (f:=fun i (_:Unit)=>fx rewrite_letters_has.st (.c1 a r i)) (g:=fun t _=>some (inA t r)) (fun _=>by
  rw [fx_eq]; simp only [rewrite_letters_has.st,evs,ev_b,↓cneg (Int.lt_irrefl _),inA,List.any_nil]) (fun i x t _ hi hx ih=>by
  have ih:=ih ()
  rw [fx_eq]; simp (disch:=omega) only [rewrite_letters_has.st,evs,ev_b,↓cpos,↓cpos2,Int.toNat_natCast,hx,wsucc,ih,inA,List.any_cons]
  cases decide (x.fRune=r) <;> rfl) ()
theorem ref01_Valid_eq {a:List aLetter} (hl:a.length<=1048576):r01_Valid a=some (alphaB a):=by
 simp only [r01_Valid,r01_Valid.go,evs,ev_b,alphaB]
 by_cases h1:1<=a.length
 ·by_cases h2:a.length<=64
  ·rw [cneg (by omega),cneg (by omega)]
   have key:=overI (xs:=a) (f:=fun i (_:Unit)=>fx r01_Valid.st (.c1 a i)) (g:=fun i t _=>some (t.all (fun l=>goodB l.fRune)&&distL ((a.take i).map (·.fRune)) t)) (fun _=>by
    rw [fx_eq]; simp only [r01_Valid.st,evs,ev_b,↓cneg (Int.lt_irrefl _),List.all_nil,distL,Bool.and_self]) (fun i x t _ hi hx hd hd2 ih=>by
    have ih:=ih ()
    have hf:=fst_at (p:=fun y:aLetter=>decide (y.fRune=x.fRune)) hi (by rw [hx]; simp)
    rw [fx_eq]; simp (disch:=omega) only [r01_Valid.st,evs,ev_b,↓cpos,↓cpos2,Int.toNat_natCast,hx,ref01_Good_eq,ref01_Index_eq hl,Option.bind_some,wsucc,ih,hf,List.all_cons,distL_drop hd]
    cases goodB x.fRune <;> cases (a.take i).any (fun y=>decide (y.fRune=x.fRune)) <;> simp) ()
   simpa [h1,h2] using key
  ·rw [cneg (by omega),cpos (by omega)]; simp [h2]
 ·rw [cpos (by omega)]; simp [h1]
theorem ref07_Admissible_eq {a:List aLetter} (hl:a.length<=1048576):r07_Admissible a=some (admB a):=by
 have key:=overI (xs:=a) (f:=fun i (_:Unit)=>fx r07_Admissible.st (.c1 a i)) (g:=fun i t _=>some ((t.all (fun l=>goodB l.fRune)&&distL ((a.take i).map (·.fRune)) t)&&(decide (1<=a.length)&&decide (a.length<=65)))) (fun _=>by
  rw [fx_eq]; simp only [r07_Admissible.st,evs,ev_b,↓cneg (Int.lt_irrefl _),List.all_nil,distL,Bool.and_self,fx_eq r07_Admissible.st (.c2 ..)]
  by_cases h1:1<=a.length
  ·rw [cpos (by omega)]; simp [h1]; omega
  ·rw [cneg (by omega)]; simp [h1]) (fun i x t _ hi hx hd hd2 ih=>by
  have ih:=ih ()
  have hf:=fst_at (p:=fun y:aLetter=>decide (y.fRune=x.fRune)) hi (by rw [hx]; simp)
  rw [fx_eq]; simp (disch:=omega) only [r07_Admissible.st,evs,ev_b,↓cpos,↓cpos2,Int.toNat_natCast,hx,ref07_Index_eq hl,Option.bind_some,wsucc,ih,hf,List.all_cons,distL_drop hd]
  by_cases hg:x.fRune<=32
  ·rw [cpos hg]
   have:goodB x.fRune=false:=by simp [goodB]; omega
   simp [this]
  ·rw [cneg hg,validRune_eq _ (by omega),Option.bind_some,cnot]
   cases goodB x.fRune <;> cases (a.take i).any (fun y=>decide (y.fRune=x.fRune)) <;> simp) ()
 refine Eq.trans (b:=_) ?_ (key.trans ?_)
 ·simp only [r07_Admissible,r07_Admissible.go,evs]
 ·congr 1
  simp only [admB,List.take_zero,List.map_nil]
  cases decide (1<=a.length) <;> cases decide (a.length<=65) <;> cases a.all (fun l=>goodB l.fRune) <;> cases distL [] a <;> rfl
theorem letters_adm_eq {a:List aLetter} (hl:a.length<=1048576):rewrite_letters_admissible a=some (admB a):=by
 simp only [rewrite_letters_admissible,rewrite_letters_admissible.go,evs,ev_b,admB]
 by_cases h1:1<=a.length
 ·by_cases h2:a.length<=65
  ·rw [cneg (by omega),cneg (by omega)]
   have key:=overI (xs:=a) (f:=fun i (_:Unit)=>fx rewrite_letters_admissible.st (.c1 a i)) (g:=fun i t _=>some (t.all (fun l=>goodB l.fRune)&&distL ((a.take i).map (·.fRune)) t)) (fun _=>by
    rw [fx_eq]; simp only [rewrite_letters_admissible.st,evs,ev_b,↓cneg (Int.lt_irrefl _),List.all_nil,distL,Bool.and_self]) (fun i x t _ hi hx hd hd2 ih=>by
    have ih:=ih ()
    rw [fx_eq]; simp (disch:=omega) only [rewrite_letters_admissible.st,evs,ev_b,↓cpos,↓cpos2,Int.toNat_natCast,hx,letters_has_eq (show (a.take i).length<=1048576 by rw [List.length_take]; omega),Option.bind_some,wsucc,ih,List.all_cons,distL_drop hd]
    by_cases hg:x.fRune<=32
    ·rw [cpos hg]
     have:goodB x.fRune=false:=by simp [goodB]; omega
     simp [this]
    ·rw [cneg hg,validRune_eq _ (by omega),Option.bind_some,cnot]
     unfold inA
     cases goodB x.fRune <;> cases (a.take i).any (fun y=>decide (y.fRune=x.fRune)) <;> simp) ()
   simpa [h1,h2] using key
  ·rw [cneg (by omega),cpos (by omega)]; simp [h2]
 ·rw [cpos (by omega)]; simp [h1]
def overB (a:List aLetter) (s:List UInt8):Bool:=Lib.validD s&&(runesL s).all fun r=>inA a (r:Int)
theorem wordB_over (a:List aLetter) (s:List UInt8):wordB a s=(overB a s&&decide ((runesL s).length<=40)):=by
 unfold wordB overB; rw [Bool.and_assoc]
theorem valid_step {l:List UInt8} (h:l≠[]):Lib.validD l=(!(decide ((Lib.decodeL l).1=65533/\(Lib.decodeL l).2=1))&&Lib.validD (l.drop (Lib.decodeL l).2)):=by
 have hw:=Lib.decodeL_width l
 have hp:=List.length_pos_iff.2 h
 obtain ⟨n,hn⟩:=Nat.exists_eq_succ_of_ne_zero (by omega:l.length≠0)
 have e1:Lib.validD l=Lib.validGoD (n+1) l:=by unfold Lib.validD; rw [hn]
 rw [e1,Lib.validGoD,if_neg h]
 have e2:Lib.validGoD n (l.drop (Lib.decodeL l).2)=Lib.validD (l.drop (Lib.decodeL l).2):=by
  rw [valid_encs n _ (by rw [List.length_drop]; omega),valid_iff]
 rw [e2]
 split <;> rename_i hb <;> simp [hb]
theorem ref01_UTF8_eq {s:List UInt8} (hs:s.length<=1048576):r01_UTF8 s=some (Lib.validD s):=by
 have key:∀ (q p:Nat),s.length - p<=q->fx r01_UTF8.st (.c1 s p)=some (Lib.validD (s.drop p)):=by
  intro q
  induction q with
  | zero=>
    intro p h
    rw [fx_eq]; simp only [r01_UTF8.st,evs]
    rw [cneg (by omega),List.drop_of_length_le (by omega)]; rfl
  | succ q ih=>
    intro p h
    have hd:=dec_pos s p
    rw [fx_eq]; simp only [r01_UTF8.st,evs,fx_eq r01_UTF8.st (.c2 ..)]
    by_cases hp:p<s.length
    ·rw [cpos hp,ih (p+(dec s p).2) (by omega)]
     have hne:s.drop p≠[]:=by intro e; have:=congrArg List.length e; simp at this; omega
     have hstep:=valid_step hne
     rw [List.drop_drop,<- dec_drop] at hstep
     rw [hstep]
     by_cases h1:(dec s p).1=65533
     ·rw [cpos (by omega)]
      have hw:IntKind.i64.wrap ((p:Int)+3)=((p+3:Nat):Int):=by rw [wrap64] <;> omega
      rw [hw]
      by_cases h3:s.length<p+3
      ·rw [cpos (by omega)]
       have hbad:(dec s p).2=1:=by
        rcases Nat.lt_or_ge 1 (dec s p).2 with hb | hb
        ·have he:=Lib.encode_decode (s.drop p) hne (by rw [<- dec_drop]; omega)
         rw [<- dec_drop,h1] at he
         have e3:Lib.encodeRune ((65533:Nat):Int)=[239,191,189]:=by rw [<- enc_rune]; rfl
         rw [e3] at he
         have:=congrArg List.length he
         simp at this
         omega
        ·omega
       simp [h1,hbad]
      ·rw [cneg (by omega),cpos3' (by omega) (by omega) (by omega)]
       simp only [Int.toNat_natCast]
       by_cases hb:(dec s p).2=1
       ·have hx : ¬ ((s.take (p+3)).drop p=[239,191,189]):=by
         intro e
         have e4:s.drop p=239::191::189::s.drop (p+3):=by
          have:=List.take_append_drop 3 (s.drop p)
          rw [List.drop_take,show p+3 - p=3 by omega] at e
          rw [List.drop_drop,e] at this
          exact this.symm
         have:=decode_bad (t:=s.drop (p+3))
         rw [<- e4,<- dec_drop] at this
         rw [this] at hb
         exact absurd hb (by decide)
        simp [h1,hb,hx]
       ·have he:=Lib.encode_decode (s.drop p) hne (by rw [<- dec_drop]; omega)
        rw [<- dec_drop,h1] at he
        have e3:Lib.encodeRune ((65533:Nat):Int)=[239,191,189]:=by rw [<- enc_rune]; rfl
        rw [e3] at he
        have hl:=congrArg List.length he
        simp only [List.length_cons,List.length_nil,List.length_take,List.length_drop] at hl
        have hle:=Lib.decodeL_le (s.drop p) hne
        rw [<- dec_drop,List.length_drop] at hle
        have h33:(dec s p).2=3:=by omega
        have hx:(s.take (p+3)).drop p=[239,191,189]:=by
         rw [List.drop_take,show p+3 - p=3 by omega,<- h33]; exact he.symm
        simp [h1,hb,hx]
     ·rw [cneg (by omega)]
      simp [h1]
    ·rw [cneg hp,List.drop_of_length_le (by omega)]; rfl
 have:=key s.length 0 (by omega)
 rw [List.drop_zero] at this
 simp only [r01_UTF8,r01_UTF8.go,evs,this]
theorem ref01_Over_eq {a:List aLetter} (ha:a.length<=1048576) {s:List UInt8} (hs:s.length<=1048576):r01_Over a s=some (overB a s):=by
 simp only [r01_Over,r01_Over.go,evs,ev_b,ref01_UTF8_eq hs,Option.bind_some,cnot,overB]
 cases Lib.validD s with
 | false=>rfl
 | true=>
   exact overR (s:=s) (f:=fun p (_:Unit)=>fx r01_Over.st (.c1 a s p)) (g:=fun rs _=>some (rs.all fun r=>inA a (r:Int))) (fun p _ hp=>by
    rw [fx_eq]; simp only [r01_Over.st,evs]; rw [cneg hp]; rfl) (fun p r rs _ hp hr ih=>by
    have ih:=ih ()
    rw [fx_eq]; simp only [r01_Over.st,evs,ev_b]
    rw [cpos hp,hr,ref01_Index_eq ha,Option.bind_some,inA_fst,cnot,ih,List.all_cons]
    cases inA a (r:Int) <;> rfl) ()
theorem ref01_IsWord_eq {a:List aLetter} (ha:a.length<=1048576) {s:List UInt8} (hs:s.length<=1048576):r01_IsWord a s=some (wordB a s):=by
 have hr:=rns_len s
 have hl:=runesL_length s
 simp only [r01_IsWord,r01_IsWord.go,evs,ev_b,ref01_Over_eq ha hs,Option.bind_some,wordB_over]
 rw [cpos (by simp only [len,len0]; omega),hr]
 cases overB a s with
 | false=>rfl
 | true=>simp only [cond_true,Bool.true_and]; congr 2; apply propext; omega
theorem ref07_Letters_eq {a:List aLetter} (ha:a.length<=1048576) {s:List UInt8} (hs:s.length<=1048576):r07_Letters a s=some (cond ((runesL s).all fun r=>inA a (r:Int)) (rns s,Lib.validD s) ([],false)):=by
 have hr:=rns_len s
 have hl:=runesL_length s
 simp only [r07_Letters,r07_Letters.go,evs]
 rw [cpos (by simp only [len,len0]; omega)]
 have key:=over (xs:=rns s) (f:=fun i (_:Unit)=>fx r07_Letters.st (.c1 a s i)) (g:=fun t _=>some (cond (t.all fun r=>inA a r) (rns s,Lib.validD s) ([],false))) (fun _=>by
  rw [fx_eq]; simp only [r07_Letters.st,evs,ev_b,↓cneg (Int.lt_irrefl _),fx_eq r07_Letters.st (.c2 ..),valStr (show s.length<=1099511627776 by omega),Option.bind_some,List.all_nil,cond_true]) (fun i x t _ hi hx ih=>by
  have ih:=ih ()
  rw [fx_eq]; simp (disch:=omega) only [r07_Letters.st,evs,ev_b,↓cpos,↓cpos2,Int.toNat_natCast,hx,ref07_Index_eq ha,Option.bind_some,inA_fst,cnot,wsucc,ih,List.all_cons]
  cases inA a x <;> rfl) ()
 rw [key]
 congr 2
 rw [rns_eq,List.all_map]; rfl
def okItems (p:List aItem):Prop:=p.length<=1048576 /\ ∀ x ∈ p,x.fLetters.length<=1048576
structure okRule (r:aRule):Prop where
 tgt:r.fTo.length<=1048576
 left:okItems r.fLeft
 right:okItems r.fRight
def patB (a:List aLetter) (p:List aItem):Bool:=decide (p.length<=3)&&p.all fun x=>overB a x.fLetters
def toB (a:List aLetter) (s:List UInt8):Bool:=overB a s&&decide ((runesL s).length<=4)
def ruleB (a:List aLetter) (r:aRule):Bool:=admB a&&((decide (r.fFrom=0)||inA a r.fFrom)&&(toB a r.fTo&&(patB a r.fLeft&&patB a r.fRight)))
theorem ref07_pattern_eq {a:List aLetter} (ha:a.length<=1048576) {p:List aItem} (hp:okItems p):r07_pattern a p=some (patB a p):=by
 have key:=over (xs:=p) (f:=fun i (_:Unit)=>fx r07_pattern.st (.c1 a p i)) (g:=fun t _=>some ((t.all fun x=>overB a x.fLetters)&&decide (p.length<=3))) (fun _=>by
  rw [fx_eq]; simp only [r07_pattern.st,evs,ev_b,↓cneg (Int.lt_irrefl _),fx_eq r07_pattern.st (.c2 ..),List.all_nil,Bool.true_and]
  congr 2
  apply propext; omega) (fun i x t _ hi hx ih=>by
  have ih:=ih ()
  have hxl:=hp.2 x (by rw [<- hx]; exact getD_mem hi)
  have hl:=hp.1
  rw [fx_eq]; simp (disch:=omega) only [r07_pattern.st,evs,ev_b,↓cpos,↓cpos2,Int.toNat_natCast,hx,ref07_Letters_eq ha hxl,Option.bind_some,cnot,wsucc,ih,List.all_cons,overB]
  cases (runesL x.fLetters).all (fun r=>inA a (r:Int)) <;> cases Lib.validD x.fLetters <;> rfl) ()
 simp only [r07_pattern,r07_pattern.go,evs,key,patB,Bool.and_comm]
theorem ref07_Valid_eq {a:List aLetter} (ha:a.length<=1048576) {r:aRule} (hr:okRule r):r07_Valid a r=some (ruleB a r):=by
 simp only [r07_Valid,r07_Valid.go,evs,ev_b,ref07_Letters_eq ha hr.tgt,ref07_Admissible_eq ha,ref07_pattern_eq ha hr.left,ref07_pattern_eq ha hr.right,ref07_Index_eq ha,Option.bind_some,ruleB,toB,overB,fstIdx_nonneg]
 have e:(a.any fun x=>decide (x.fRune=r.fFrom))=inA a r.fFrom:=rfl
 rw [e]
 cases admB a with
 | false=>rfl
 | true=>
   cases (runesL r.fTo).all (fun r=>inA a (r:Int)) with
   | false=>cases decide (r.fFrom=0) <;> cases inA a r.fFrom <;> simp
   | true=>
     simp only [cond_true,rns_len,Bool.and_true,Bool.true_and]
     have e4:decide (((runesL r.fTo).length:Int)<=4)=decide ((runesL r.fTo).length<=4):=by congr 1; apply propext; omega
     rw [e4]
     cases decide (r.fFrom=0) <;> cases inA a r.fFrom <;> cases Lib.validD r.fTo <;> cases decide ((runesL r.fTo).length<=4) <;> cases patB a r.fLeft <;> rfl
def keysOk (m:List (Int×Int)) (a:List aLetter):Bool:=a.all (fun l=>goodB l.fRune)&&distL (m.map (·.1)) a
theorem idx_isSome (a:List aLetter) (r:Int):(mget eqI (addK 0 a []) r).isSome=inA a r:=by
 rw [addK_isSome]; simp [mget,inA]
theorem pattern_Valid_eq {a:List aLetter} (ha:a.length<=1048576) {p:List aItem} (hp:okItems p):pattern_Valid a p=some ((decide (a.length<=65)&&(a.all (fun l=>goodB l.fRune)&&distL [] a))&&patB a p):=by
 have hl:=hp.1
 have l3:fx pattern_Valid.st (.c3 (addK 0 a []) p 0)=some (p.all fun x=>overB a x.fLetters):=
  over (xs:=p) (f:=fun i (_:Unit)=>fx pattern_Valid.st (.c3 (addK 0 a []) p i)) (g:=fun t _=>some (t.all fun x=>overB a x.fLetters)) (fun _=>by
   rw [fx_eq]; simp only [pattern_Valid.st,evs,ev_b,↓cneg (Int.lt_irrefl _),List.all_nil]) (fun i x t _ hi hx ih=>by
   have ih:=ih ()
   have hxl:=hp.2 x (by rw [<- hx]; exact getD_mem hi)
   have l4:fx pattern_Valid.st (.c4 (addK 0 a []) p (i:Int) [] 0)=cond ((runesL x.fLetters).all fun r=>inA a (r:Int)) (fx pattern_Valid.st (.c3 (addK 0 a []) p ((i+1:Nat):Int))) (some false):=
    overRJ (s:=x.fLetters) (f:=fun q (s:List Int)=>fx pattern_Valid.st (.c4 (addK 0 a []) p (i:Int) s q)) (g:=fun rs _=>cond (rs.all fun r=>inA a (r:Int)) (fx pattern_Valid.st (.c3 (addK 0 a []) p ((i+1:Nat):Int))) (some false)) (I:=fun q s=>s.length<=q) (fun q s hq _=>by
     rw [fx_eq]; simp (disch:=omega) only [pattern_Valid.st,evs,ev_b,Int.toNat_natCast,hx,wsucc]
     rw [cneg hq]; rfl) (fun q r rs s hq hI hr h1 ih2=>by
     rw [fx_eq]; simp (disch:=omega) only [pattern_Valid.st,evs,ev_b,Int.toNat_natCast,hx]
     rw [cpos hq,hr,cpos (by simp only [len,len0]; omega),ih2 _ (by simp; omega),cnot,idx_isSome]
     simp only [List.all_cons]
     cases inA a (r:Int) <;> rfl) (Nat.le_refl _)
   rw [fx_eq]; simp (disch:=omega) only [pattern_Valid.st,evs,ev_b,↓cpos,↓cpos2,Int.toNat_natCast,hx,valStr (show x.fLetters.length<=1099511627776 by omega),Option.bind_some,cnot,l4,ih,List.all_cons,overB]
   cases Lib.validD x.fLetters <;> cases (runesL x.fLetters).all (fun r=>inA a (r:Int)) <;> rfl) ()
 have l2:fx pattern_Valid.st (.c2 a p (addK 0 a []))=some (decide (a.length<=65)&&patB a p):=by
  rw [fx_eq]; simp only [pattern_Valid.st,evs,l3,patB]
  by_cases h1:a.length<=65
  ·by_cases h2:p.length<=3
   ·rw [cnot,cpos (by omega),cneg (by omega)]; simp [h1,h2]
   ·rw [cnot,cpos (by omega),cpos (by omega)]; simp [h2]
  ·rw [cnot,cneg (by omega)]; simp [h1]
 have key:=overI (xs:=a) (f:=fun i (m:List (Int×Int))=>fx pattern_Valid.st (.c1 a p i m)) (g:=fun i t m=>cond (keysOk m t) (fx pattern_Valid.st (.c2 a p (addK i t m))) (some false)) (fun m=>by
  rw [fx_eq]; simp only [pattern_Valid.st,evs,ev_b,↓cneg (Int.lt_irrefl _),addK,keysOk,List.all_nil,distL,Bool.and_self,cond_true]) (fun i x t m hi hx _ _ ih=>by
  rw [fx_eq]; simp (disch:=omega) only [pattern_Valid.st,evs,ev_b,↓cpos,↓cpos2,Int.toNat_natCast,hx,wsucc,ih,addK,cnot,keysOk,List.all_cons,distL]
  have hk:((m.map (·.1)).any fun y=>decide (y=x.fRune))=(mget eqI m x.fRune).isSome:=by rw [mget_isSome,List.any_map]; rfl
  rw [hk]
  show cond (mget eqI m x.fRune).isSome _ _=_
  cases h:(mget eqI m x.fRune).isSome with
  | true=>simp
  | false=>
    simp only [cond_false,Bool.not_false,Bool.true_and]
    by_cases hg:x.fRune<=32
    ·rw [cpos hg]
     have:goodB x.fRune=false:=by simp [goodB]; omega
     simp [this]
    ·rw [cneg hg,validRune_eq _ (by omega),Option.bind_some]
     have e:=mput_new x.fRune (i:Int) m h
     cases goodB x.fRune with
     | false=>rfl
     | true=>
       simp only [cond_true,Bool.true_and]
       show cond ((t.all fun l=>goodB l.fRune)&&distL ((mput eqI m x.fRune (i:Int)).map (·.1)) t) _ _=_
       rw [show ((mput eqI m x.fRune (i:Int)).map (·.1))=m.map (·.1)++[x.fRune] by rw [e]; simp]) []
 have key:pattern_Valid a p=_:=Eq.trans (by simp only [pattern_Valid,pattern_Valid.go,evs]) key
 rw [key,l2]
 simp only [keysOk,List.map_nil]
 cases a.all (fun l=>goodB l.fRune) <;> cases distL [] a <;> cases decide (a.length<=65) <;> rfl
theorem rewrite_Valid_eq {a:List aLetter} (ha:a.length<=1048576) {r:aRule} (hr:okRule r):rewrite_Valid a r=some (ruleB a r):=by
 have hto:=hr.tgt
 simp only [rewrite_Valid,rewrite_Valid.go,evs,ev_b,letters_adm_eq ha,letters_has_eq ha,Option.bind_some,cnot,ruleB]
 cases hadm:admB a with
 | false=>rw [cond_false,fx_eq]; rfl
 | true=>
   have hpv:∀ {p:List aItem},okItems p->pattern_Valid a p=some (patB a p):=fun hp=>by
    rw [pattern_Valid_eq ha hp]
    simp only [admB,Bool.and_eq_true] at hadm
    rw [hadm.2.1,hadm.2.2.1,hadm.2.2.2]; rfl
   have l2:fx rewrite_Valid.st (.c2 a r 0 0)=some (((runesL r.fTo).all fun c=>inA a (c:Int))&&decide ((runesL r.fTo).length<=4)&&(patB a r.fLeft&&patB a r.fRight)):=by
    have:=overRJ (s:=r.fTo) (f:=fun q (n:Nat)=>fx rewrite_Valid.st (.c2 a r (n:Int) q)) (g:=fun rs n=>some ((rs.all fun c=>inA a (c:Int))&&decide (n+rs.length<=4\/rs=[])&&(patB a r.fLeft&&patB a r.fRight))) (I:=fun q n=>n<=q) (fun q n hq _=>by
     rw [fx_eq]; simp only [rewrite_Valid.st,evs,ev_b,hpv hr.left,hpv hr.right,Option.bind_some]
     rw [cneg hq]
     simp only [List.all_nil,List.length_nil]
     cases patB a r.fLeft <;> cases patB a r.fRight <;> simp) (fun q c rs n hq hI hc h1 ih=>by
     rw [fx_eq]; simp only [rewrite_Valid.st,evs,ev_b]
     rw [cpos hq,hc,wsucc (by omega),letters_has_eq ha,Option.bind_some,cnot,ih (n+1) (by omega)]
     by_cases h4:4<n+1
     ·rw [cpos (by omega)]
      have:decide (n+(c::rs).length<=4\/c::rs=[])=false:=by simp; omega
      rw [this]; simp
     ·rw [cneg (by omega)]
      have:decide (n+(c::rs).length<=4\/c::rs=[])=decide (n+1+rs.length<=4\/rs=[]):=by
       congr 1; apply propext
       simp only [List.length_cons,reduceCtorEq,or_false]
       constructor
       ·intro h; left; omega
       ·rintro (h | rfl)
        ·omega
        ·simp; omega
      rw [this,List.all_cons]
      cases inA a (c:Int) <;> rfl) (x:=0) (Nat.le_refl _)
    rw [show ((0:Nat):Int)=0 from rfl] at this
    have e4:decide (0+(runesL r.fTo).length<=4\/runesL r.fTo=[])=decide ((runesL r.fTo).length<=4):=decide_eq_decide.2 ⟨fun h=>by
     rcases h with h | h
     ·omega
     ·rw [h]; simp,fun h => .inl (by omega)⟩
    rw [this,e4]
   have l1:fx rewrite_Valid.st (.c1 a r false)=some (toB a r.fTo&&(patB a r.fLeft&&patB a r.fRight)):=by
    rw [fx_eq]; simp only [rewrite_Valid.st,evs,ev_b,cond_false,valStr (show r.fTo.length<=1099511627776 by omega),Option.bind_some,cnot,l2,toB,overB]
    cases Lib.validD r.fTo <;> rfl
   have l1' : fx rewrite_Valid.st (.c1 a r true)=some false:=by
    rw [fx_eq]; rfl
   simp only [cond_true,Bool.true_and]
   cases decide (r.fFrom=0) with
   | true=>simp [l1]
   | false=>cases inA a r.fFrom <;> simp [l1,l1']
end Go.Ai.Mor

set_option maxRecDepth 100000
noncomputable section
namespace Go.Ai.Mor
open Go Go.Ai Go.Proofs
namespace lexicon_name
inductive Pt
 | c2 (b:List UInt8) (d:Int) (e:Bool)
 | c1 (b:List UInt8) (d:Int)
def D:FD pd := {f:=85,fn:=Tryz.f85,q:=39,pl:=pls 12 [(2,kp [0,6,7]),(7,kp [0,6,7,35])],ps:=[.str],rs:=[.bool],ex:=[none]}
def go:((List UInt8))->Tr Pt (Bool)
 | b=>
  .j (.c1 b 0)
def st:Pt->Tr Pt (Bool)
 | .c2 b d e=>
  .c e
  (.r false)
  (.j (.c1 b (IntKind.i64.wrap (d+1))))
 | .c1 b d=>
  .c (decide (d<(b.length:Int)))
  (.c (decide (0<=d)&&decide (d<(b.length:Int)))
   (.c (decide (97<=(bt b d.toNat)))
    (.c (decide ((bt b d.toNat)<=122))
     (.j (.c2 b d false))
     (.c (decide (48<=(bt b d.toNat)))
      (.c (decide ((bt b d.toNat)<=57))
       (.j (.c2 b d false))
       (.c (decide ((bt b d.toNat)=45))
        (.j (.c2 b d false))
        (.j (.c2 b d (!(decide ((bt b d.toNat)=95)))))))
      (.c (decide ((bt b d.toNat)=45))
       (.j (.c2 b d false))
       (.j (.c2 b d (!(decide ((bt b d.toNat)=95))))))))
    (.c (decide (48<=(bt b d.toNat)))
     (.c (decide ((bt b d.toNat)<=57))
      (.j (.c2 b d false))
      (.c (decide ((bt b d.toNat)=45))
       (.j (.c2 b d false))
       (.j (.c2 b d (!(decide ((bt b d.toNat)=95)))))))
     (.c (decide ((bt b d.toNat)=45))
      (.j (.c2 b d false))
      (.j (.c2 b d (!(decide ((bt b d.toNat)=95)))))))) .n)
  (.r (!decide (b=[])))
def pt:Pt->List Dir×St E
 | .c2 b d e=>([.r,.l,.r,.k,.L,.r,.r,.l,.k,.r,.r],ms 39 39 [(0,hS b),(6,hI (b.length:Int)),(7,hI d),(35,hB e)])
 | .c1 b d=>([.r,.l,.r,.k],ms 39 39 [(0,hS b),(6,hI (b.length:Int)),(7,hI d)])
theorem g:D.G st pt:=fun Z a=>by cases a <;> kernel_rfl
theorem g0:D.G0 go pt:=fun Z _=>by kernel_rfl
abbrev con:Con Tryz.prog E:=FD.con Tryz.func85 (by kernel_rfl) g g0
end lexicon_name
def lexicon_name (b:List UInt8):Option (Bool):=ev (lexicon_name.go b) (fx lexicon_name.st)
end Go.Ai.Mor
end

set_option maxRecDepth 100000
noncomputable section
namespace Go.Ai.Mor
open Go Go.Ai Go.Proofs
namespace lexicon_Valid
inductive Pt
 | c2 (h:List aLetter) (d:List aLexeme) (i:List ((List UInt8)×Bool)) (e:Int) (m:Bool)
 | c1 (h:List aLetter) (d:List aLexeme) (e:Int) (i:List ((List UInt8)×Bool))
def D:FD pd := {f:=54,fn:=Tryz.f54,q:=67,pl:=pls 16 [(6,kp [0,5,17,18,19] [(16,0)]),(10,kp [0,5,7,17,18,19,62] [(16,0),(7,5)])],ps:=[(.sl (.st .aLetter)),(.sl (.st .aLexeme))],rs:=[.bool],ex:=[none],cs:=[alphabet_IsWord.con,alphabet_Valid.con,feature_Valid.con,lexicon_name.con]}
def go:((List aLetter)×(List aLexeme))->Tr Pt (Bool)
 | (h,d)=>
  .b (alphabet_Valid h) fun x=>
  .c (!x)
  (.r false)
  (.c (decide (256<(d.length:Int)))
   (.r false)
   (.j (.c1 h d 0 ([]:(List ((List UInt8)×Bool))))))
def st:Pt->Tr Pt (Bool)
 | .c2 h d i e m=>
  .c m
  (.r false)
  (.j (.c1 h d (IntKind.i64.wrap (e+1)) (mput (keyEq (E:=E) .str) i ((d.getD e.toNat default).fID) true)))
 | .c1 h d e i=>
  .c (decide (e<(d.length:Int)))
  (.c (decide (0<=e)&&decide (e<(d.length:Int)))
   (.c ((mget (keyEq (E:=E) .str) i ((d.getD e.toNat default).fID)).getD false)
    (.j (.c2 h d i e true))
    (.b (lexicon_name ((d.getD e.toNat default).fID)) fun o=>
     .c (!o)
     (.j (.c2 h d i e true))
     (.b (lexicon_name ((d.getD e.toNat default).fCategory)) fun p=>
      .c (!p)
      (.j (.c2 h d i e true))
      (.c (!decide (((d.getD e.toNat default).fParadigm)=[]))
       (.b (lexicon_name ((d.getD e.toNat default).fParadigm)) fun s=>
        .c (!s)
        (.j (.c2 h d i e true))
        (.b (alphabet_IsWord h ((d.getD e.toNat default).fStem)) fun t=>
         .c (!t)
         (.j (.c2 h d i e true))
         (.b (feature_Valid ((d.getD e.toNat default).fFeatures)) fun v=>
          .j (.c2 h d i e (!v)))))
       (.b (alphabet_IsWord h ((d.getD e.toNat default).fStem)) fun u=>
        .c (!u)
        (.j (.c2 h d i e true))
        (.b (feature_Valid ((d.getD e.toNat default).fFeatures)) fun w=>
         .j (.c2 h d i e (!w)))))))) .n)
  (.r true)
def pt:Pt->List Dir×St E
 | .c2 h d i e m=>([.r,.r,.r,.l,.r,.k,.L,.r,.r,.l,.k,.r,.l],ms 67 67 [(0,hL (.st .aLetter) h),(5,.one (.mp 16)),(7,hP 7),(17,hL (.st .aLexeme) d),(18,hI (d.length:Int)),(19,hI e),(62,hB m)] [(7,.cells [cS ((d.getD e.toNat default).fID),cS ((d.getD e.toNat default).fCategory),cS ((d.getD e.toNat default).fStem),cS ((d.getD e.toNat default).fParadigm),cL (.st .aFeature) ((d.getD e.toNat default).fFeatures)]),(16,.mp .str .bool i)])
 | .c1 h d e i=>([.r,.r,.r,.l,.r,.k],ms 67 67 [(0,hL (.st .aLetter) h),(5,.one (.mp 16)),(17,hL (.st .aLexeme) d),(18,hI (d.length:Int)),(19,hI e)] [(16,.mp .str .bool i)])
theorem g:D.G st pt:=fun Z a=>by cases a <;> kernel_rfl
theorem g0:D.G0 go pt:=fun Z ⟨_,_⟩=>by kernel_rfl
abbrev con:Con Tryz.prog E:=FD.con Tryz.func54 (by kernel_rfl) g g0
end lexicon_Valid
def lexicon_Valid (h:List aLetter) (d:List aLexeme):Option (Bool):=ev (lexicon_Valid.go (h,d)) (fx lexicon_Valid.st)
end Go.Ai.Mor
end

set_option maxRecDepth 100000
noncomputable section
namespace Go.Ai.Mor
open Go Go.Ai Go.Proofs
namespace r09_Name
inductive Pt
 | c2 (d:Int) (b:List UInt8) (e:Bool)
 | c3 (b:List UInt8)
 | c1 (b:List UInt8) (d:Int)
def D:FD pd := {f:=117,fn:=Tryz.f117,q:=39,pl:=pls 11 [(2,kp [0,3]),(6,kp [0,3,35]),(9,kp [0])],ps:=[.str],rs:=[.bool],ex:=[none]}
def go:((List UInt8))->Tr Pt (Bool)
 | b=>
  .j (.c1 b 0)
def st:Pt->Tr Pt (Bool)
 | .c2 d b e=>
  .c e
  (.r false)
  (.j (.c1 b (IntKind.i64.wrap (d+1))))
 | .c3 b=>
  .r (decide (0<(b.length:Int)))
 | .c1 b d=>
  .c (decide (d<(b.length:Int)))
  (.c (decide (0<=d)&&decide (d<(b.length:Int)))
   (.c (decide ((bt b d.toNat)<97))
    (.c (decide ((bt b d.toNat)<48))
     (.c (!decide ((bt b d.toNat)=45))
      (.j (.c2 d b (!decide ((bt b d.toNat)=95))))
      (.j (.c2 d b false)))
     (.c (decide (57<(bt b d.toNat)))
      (.c (!decide ((bt b d.toNat)=45))
       (.j (.c2 d b (!decide ((bt b d.toNat)=95))))
       (.j (.c2 d b false)))
      (.j (.c2 d b false))))
    (.c (decide (122<(bt b d.toNat)))
     (.c (decide ((bt b d.toNat)<48))
      (.c (!decide ((bt b d.toNat)=45))
       (.j (.c2 d b (!decide ((bt b d.toNat)=95))))
       (.j (.c2 d b false)))
      (.c (decide (57<(bt b d.toNat)))
       (.c (!decide ((bt b d.toNat)=45))
        (.j (.c2 d b (!decide ((bt b d.toNat)=95))))
        (.j (.c2 d b false)))
       (.j (.c2 d b false))))
     (.j (.c2 d b false)))) .n)
  (.j (.c3 b))
def pt:Pt->List Dir×St E
 | .c2 d b e=>([.r,.l,.r,.k,.L,.r,.l,.k,.r],ms 39 39 [(0,hS b),(3,hI d),(35,hB e)])
 | .c3 b=>([.r],ms 39 39 [(0,hS b)])
 | .c1 b d=>([.r,.l,.r,.k],ms 39 39 [(0,hS b),(3,hI d)])
theorem g:D.G st pt:=fun Z a=>by cases a <;> kernel_rfl
theorem g0:D.G0 go pt:=fun Z _=>by kernel_rfl
abbrev con:Con Tryz.prog E:=FD.con Tryz.func117 (by kernel_rfl) g g0
end r09_Name
def r09_Name (b:List UInt8):Option (Bool):=ev (r09_Name.go b) (fx r09_Name.st)
end Go.Ai.Mor
end

set_option maxRecDepth 100000
noncomputable section
namespace Go.Ai.Mor
open Go Go.Ai Go.Proofs
namespace r09_Lexeme
inductive Pt
def D:FD pd := {f:=88,fn:=Tryz.f88,q:=34,ps:=[(.sl (.st .aLetter)),(.st .aLexeme)],rs:=[.bool],ex:=[none],cs:=[r02_Valid.con,r09_Name.con,r01_IsWord.con]}
def go:((List aLetter)×aLexeme)->Tr Pt (Bool)
 | (e,d)=>
  .b (r09_Name d.fID) fun n=>
  .c n
  (.b (r09_Name d.fCategory) fun h=>
   .c h
   (.c (decide (d.fParadigm=[]))
    (.b (r01_IsWord e d.fStem) fun j=>
     .c j
     (.b (r02_Valid d.fFeatures) fun l=>
      .r l)
     (.r false))
    (.b (r09_Name d.fParadigm) fun i=>
     .c i
     (.b (r01_IsWord e d.fStem) fun k=>
      .c k
      (.b (r02_Valid d.fFeatures) fun m=>
       .r m)
      (.r false))
     (.r false)))
   (.r false))
  (.r false)
def st:Pt->Tr Pt (Bool):=nofun
def pt:Pt->List Dir×St E:=nofun
theorem g:D.G st pt:=fun Z a=>by cases a <;> kernel_rfl
theorem g0:D.G0 go pt:=fun Z ⟨_,_⟩=>by kernel_rfl
abbrev con:Con Tryz.prog E:=FD.con Tryz.func88 (by kernel_rfl) g g0
end r09_Lexeme
def r09_Lexeme (e:List aLetter) (d:aLexeme):Option (Bool):=ev (r09_Lexeme.go (e,d)) (fx r09_Lexeme.st)
end Go.Ai.Mor
end

set_option maxRecDepth 100000
noncomputable section
namespace Go.Ai.Mor
open Go Go.Ai Go.Proofs
namespace r09_Index
inductive Pt
 | c1 (e:List UInt8) (b:List aLexeme) (d:Int)
def D:FD pd := {f:=89,fn:=Tryz.f89,q:=20,pl:=pls 10 [(2,kp [0,1,5])],ps:=[(.sl (.st .aLexeme)),.str],rs:=[(.int .i64)],ex:=[none]}
def go:((List aLexeme)×(List UInt8))->Tr Pt (Int)
 | (b,e)=>
  .j (.c1 e b 0)
def st:Pt->Tr Pt (Int)
 | .c1 e b d=>
  .c (decide (d<(b.length:Int)))
  (.c (decide (0<=d)&&decide (d<(b.length:Int)))
   (.c (decide (((b.getD d.toNat default).fID)=e))
    (.r d)
    (.j (.c1 e b (IntKind.i64.wrap (d+1))))) .n)
  (.r (-1))
def pt:Pt->List Dir×St E
 | .c1 e b d=>([.r,.l,.r,.k],ms 20 20 [(0,hL (.st .aLexeme) b),(1,hS e),(5,hI d)])
theorem g:D.G st pt:=fun Z a=>by cases a <;> kernel_rfl
theorem g0:D.G0 go pt:=fun Z ⟨_,_⟩=>by kernel_rfl
abbrev con:Con Tryz.prog E:=FD.con Tryz.func89 (by kernel_rfl) g g0
end r09_Index
def r09_Index (b:List aLexeme) (e:List UInt8):Option (Int):=ev (r09_Index.go (b,e)) (fx r09_Index.st)
end Go.Ai.Mor
end

set_option maxRecDepth 100000
noncomputable section
namespace Go.Ai.Mor
open Go Go.Ai Go.Proofs
namespace r09_Valid
inductive Pt
 | c1 (h:List aLetter) (d:List aLexeme) (e:Int)
def D:FD pd := {f:=58,fn:=Tryz.f58,q:=38,pl:=pls 13 [(5,kp [0,1,5])],ps:=[(.sl (.st .aLetter)),(.sl (.st .aLexeme))],rs:=[.bool],ex:=[none],cs:=[r01_Valid.con,r09_Lexeme.con,r09_Index.con]}
def go:((List aLetter)×(List aLexeme))->Tr Pt (Bool)
 | (h,d)=>
  .b (r01_Valid h) fun o=>
  .c (!o)
  (.r false)
  (.c (decide (256<(d.length:Int)))
   (.r false)
   (.j (.c1 h d 0)))
def st:Pt->Tr Pt (Bool)
 | .c1 h d e=>
  .c (decide (e<(d.length:Int)))
  (.c (decide (0<=e)&&decide (e<(d.length:Int)))
   (.b (r09_Lexeme h (d.getD e.toNat default)) fun i=>
    .c (!i)
    (.r false)
    (.c (decide (0<=e)&&decide (e<(d.length:Int)))
     (.b (r09_Index d ((d.getD e.toNat default).fID)) fun m=>
      .c (!decide (m=e))
      (.r false)
      (.j (.c1 h d (IntKind.i64.wrap (e+1))))) .n)) .n)
  (.r true)
def pt:Pt->List Dir×St E
 | .c1 h d e=>([.r,.r,.l,.r,.k],ms 38 38 [(0,hL (.st .aLetter) h),(1,hL (.st .aLexeme) d),(5,hI e)])
theorem g:D.G st pt:=fun Z a=>by cases a <;> kernel_rfl
theorem g0:D.G0 go pt:=fun Z ⟨_,_⟩=>by kernel_rfl
abbrev con:Con Tryz.prog E:=FD.con Tryz.func58 (by kernel_rfl) g g0
end r09_Valid
def r09_Valid (h:List aLetter) (d:List aLexeme):Option (Bool):=ev (r09_Valid.go (h,d)) (fx r09_Valid.st)
end Go.Ai.Mor
end

namespace Go.Ai.Mor
open Go Go.Ai
def idByte (c:UInt8):Bool:=(decide (97<=(c.toNat:Int))&&decide ((c.toNat:Int)<=122))||(decide (48<=(c.toNat:Int))&&decide ((c.toNat:Int)<=57))||(decide ((c.toNat:Int)=45)||decide ((c.toNat:Int)=95))
def isId (s:List UInt8):Bool:=s.all idByte && !s.isEmpty
theorem lexicon_name_eq {s:List UInt8} (hl:s.length<=1048576):lexicon_name s=some (isId s):=
 over (xs:=s) (f:=fun i (_:Unit)=>fx lexicon_name.st (.c1 s i)) (g:=fun r _=>some (r.all idByte && !s.isEmpty)) (fun _=>by
  rw [fx_eq]; simp only [lexicon_name.st,evs,ev_b,↓cneg (Int.lt_irrefl _)]
  cases s <;> simp) (fun i x r _ hi hx ih=>by
  have ih:=ih ()
  rw [fx_eq]; simp (disch:=omega) only [lexicon_name.st,evs,ev_b,fx_eq lexicon_name.st (.c2 ..),↓cpos,↓cpos2,Int.toNat_natCast,bt_getD,hx,wsucc,ih]
  simp only [List.all_cons,idByte]
  cases decide (97<=(x.toNat:Int)) <;> cases decide ((x.toNat:Int)<=122) <;> cases decide (48<=(x.toNat:Int)) <;> cases decide ((x.toNat:Int)<=57) <;> cases decide ((x.toNat:Int)=45) <;> cases decide ((x.toNat:Int)=95) <;> simp) ()
theorem ref09_Name_eq {s:List UInt8} (hl:s.length<=1048576):r09_Name s=some (isId s):=
 over (xs:=s) (f:=fun i (_:Unit)=>fx r09_Name.st (.c1 s i)) (g:=fun r _=>some (r.all idByte && !s.isEmpty)) (fun _=>by
  rw [fx_eq]; simp only [r09_Name.st,evs,ev_b,fx_eq r09_Name.st (.c3 ..),↓cneg (Int.lt_irrefl _)]
  cases s <;> simp) (fun i x r _ hi hx ih=>by
  have ih:=ih ()
  rw [fx_eq]; simp (disch:=omega) only [r09_Name.st,evs,ev_b,fx_eq r09_Name.st (.c2 ..),↓cpos,↓cpos2,Int.toNat_natCast,bt_getD,hx,wsucc,ih]
  simp only [List.all_cons,idByte,dlt]
  cases decide (97<=(x.toNat:Int)) <;> cases decide ((x.toNat:Int)<=122) <;> cases decide (48<=(x.toNat:Int)) <;> cases decide ((x.toNat:Int)<=57) <;> cases decide ((x.toNat:Int)=45) <;> cases decide ((x.toNat:Int)=95) <;> simp) ()
structure okLex (x:aLexeme):Prop where
 id:x.fID.length<=1048576
 cat:x.fCategory.length<=1048576
 stem:x.fStem.length<=1048576
 par:x.fParadigm.length<=1048576
 feat:okR x.fFeatures
def lexB (a:List aLetter) (x:aLexeme):Bool:=isId x.fID&&(isId x.fCategory&&((decide (x.fParadigm=[])||isId x.fParadigm)&&(wordB a x.fStem&&isValid x.fFeatures)))
def lexF (a:List aLetter) (all:List aLexeme):Nat->List aLexeme->Bool
 | _,[]=>true
 | i,x::t=>(lexB a x && !((all.take i).any fun y=>decide (y.fID=x.fID)))&&lexF a all (i+1) t
def lexsB (a:List aLetter) (l:List aLexeme):Bool:=alphaB a&&(decide (l.length<=256)&&lexF a l 0 l)
theorem ref09_Lexeme_eq {a:List aLetter} (ha:a.length<=1048576) {x:aLexeme} (hx:okLex x):r09_Lexeme a x=some (lexB a x):=by
 simp only [r09_Lexeme,r09_Lexeme.go,evs,ev_b,ref09_Name_eq hx.id,ref09_Name_eq hx.cat,ref09_Name_eq hx.par,ref01_IsWord_eq ha hx.stem,ref02_Valid_eq hx.feat,Option.bind_some,lexB]
 cases isId x.fID <;> cases isId x.fCategory <;> cases decide (x.fParadigm=[]) <;> cases isId x.fParadigm <;> cases wordB a x.fStem <;> rfl
theorem ref09_Index_eq {l:List aLexeme} (hl:l.length<=1048576) (n:List UInt8):r09_Index l n=some (fstIdx (fun x:aLexeme=>decide (x.fID=n)) l 0):=
 overI (xs:=l) (f:=fun i (_:Unit)=>fx r09_Index.st (.c1 n l i)) (g:=fun i t _=>some (fstIdx (fun x:aLexeme=>decide (x.fID=n)) t i)) (fun _=>by
  rw [fx_eq]; simp only [r09_Index.st,evs,ev_b,↓cneg (Int.lt_irrefl _),fstIdx]) (fun i x t _ hi hx _ _ ih=>by
  have ih:=ih ()
  rw [fx_eq]; simp (disch:=omega) only [r09_Index.st,evs,ev_b,↓cpos,↓cpos2,Int.toNat_natCast,hx,wsucc,ih,fstIdx]
  cases decide (x.fID=n) <;> rfl) ()
theorem ref09_Valid_eq {a:List aLetter} (ha:a.length<=1048576) {l:List aLexeme} (hl:l.length<=1048576) (hx:∀ x ∈ l,okLex x):r09_Valid a l=some (lexsB a l):=by
 simp only [r09_Valid,r09_Valid.go,evs,ev_b,ref01_Valid_eq ha,Option.bind_some,cnot,lexsB]
 cases alphaB a with
 | false=>rfl
 | true=>
   simp only [cond_true,Bool.true_and]
   by_cases h:l.length<=256
   ·rw [cneg (by omega)]
    simp only [h,decide_true,Bool.true_and]
    exact overI (xs:=l) (f:=fun i (_:Unit)=>fx r09_Valid.st (.c1 a l i)) (g:=fun i t _=>some (lexF a l i t)) (fun _=>by
     rw [fx_eq]; simp only [r09_Valid.st,evs,ev_b,↓cneg (Int.lt_irrefl _),lexF]) (fun i x t _ hi hxi _ _ ih=>by
     have ih:=ih ()
     have hxo:=hx x (by rw [<- hxi]; exact getD_mem hi)
     have hf:=fst_at (p:=fun y:aLexeme=>decide (y.fID=x.fID)) hi (by rw [hxi]; simp)
     rw [fx_eq]; simp (disch:=omega) only [r09_Valid.st,evs,ev_b,↓cpos,↓cpos2,Int.toNat_natCast,hxi,ref09_Lexeme_eq ha hxo,ref09_Index_eq hl,Option.bind_some,cnot,wsucc,ih,hf,lexF]
     cases lexB a x <;> cases (l.take i).any (fun y=>decide (y.fID=x.fID)) <;> rfl) ()
   ·rw [cpos (by omega)]; simp [h]
abbrev eqS:List UInt8->List UInt8->Bool:=keyEq (E:=E) .str
theorem eqS_iff (a b:List UInt8):eqS a b=true↔a=b:=by
 show (decide (a=b)&&true)=true↔a=b
 simp
theorem take_any {α:Type} [Inhabited α] (p:α->Bool) {xs:List α} {i:Nat} (hi:i<xs.length):(xs.take (i+1)).any p=((xs.take i).any p||p (xs.getD i default)):=by
 rw [List.take_succ_eq_append_getElem hi,List.any_append]; simp [hi]
theorem lexicon_Valid_eq {a:List aLetter} (ha:a.length<=1048576) {l:List aLexeme} (hl:l.length<=1048576) (hx:∀ x ∈ l,okLex x):lexicon_Valid a l=some (lexsB a l):=by
 simp only [lexicon_Valid,lexicon_Valid.go,evs,ev_b,alphabet_Valid_eq ha,Option.bind_some,cnot,lexsB]
 cases alphaB a with
 | false=>rfl
 | true=>
   simp only [cond_true,Bool.true_and]
   by_cases h:l.length<=256
   ·rw [cneg (by omega)]
    simp only [h,decide_true,Bool.true_and]
    exact overJ (xs:=l) (f:=fun i (m:List (List UInt8×Bool))=>fx lexicon_Valid.st (.c1 a l i m)) (g:=fun i t _=>some (lexF a l i t)) (I:=fun i m => ∀ n,(mget eqS m n).getD false=(l.take i).any fun y=>decide (y.fID=n)) (fun m _=>by
     rw [fx_eq]; simp only [lexicon_Valid.st,evs,ev_b,↓cneg (Int.lt_irrefl _),lexF]) (fun i x t m hi hI hxi _ _ ih=>by
     have hxo:=hx x (by rw [<- hxi]; exact getD_mem hi)
     have hI' : ∀ n,(mget eqS (mput eqS m x.fID true) n).getD false=(l.take (i+1)).any fun y=>decide (y.fID=n):=fun n=>by
      rw [mget_mput eqS_iff,take_any _ hi,hxi,<- hI n]
      by_cases e:x.fID=n
      ·rw [(eqS_iff n x.fID).2 e.symm]; simp [e]
      ·have:eqS n x.fID=false:=by
        rw [Bool.eq_false_iff]; intro h; exact e ((eqS_iff _ _).1 h).symm
       rw [this]; simp [e]
     have ih:=ih _ hI'
     have l2:∀ b,fx lexicon_Valid.st (.c2 a l m (i:Int) b)=cond b (some false) (some (lexF a l (i+1) t)):=fun b=>by
      rw [fx_eq]; simp (disch:=omega) only [lexicon_Valid.st,evs,ev_b,Int.toNat_natCast,hxi,wsucc]
      rw [<- ih]
     have hm:=hI x.fID
     rw [fx_eq]; simp (disch:=omega) only [lexicon_Valid.st,evs,ev_b,↓cpos,↓cpos2,Int.toNat_natCast,hxi,lexicon_name_eq hxo.id,lexicon_name_eq hxo.cat,lexicon_name_eq hxo.par,isWord_eq ha hxo.stem,feature_Valid_eq hxo.feat,Option.bind_some,cnot,l2,lexF,lexB]
     show cond ((mget eqS m x.fID).getD false) _ _=_
     rw [hm]
     cases (l.take i).any (fun y=>decide (y.fID=x.fID)) <;> cases isId x.fID <;> cases isId x.fCategory <;> cases decide (x.fParadigm=[]) <;> cases isId x.fParadigm <;> cases wordB a x.fStem <;> cases isValid x.fFeatures <;> simp) (s:=[]) (fun n=>by simp [mget])
   ·rw [cpos (by omega)]; simp [h]
end Go.Ai.Mor

set_option maxRecDepth 100000
noncomputable section
namespace Go.Ai.Mor
open Go Go.Ai Go.Proofs
namespace slices_Clone_aFeature_aFeature
inductive Pt
 | c1 (b:List aFeature)
def D:FD pd := {f:=107,fn:=Tryz.f107,q:=8,pl:=pls 5 [(3,kp [0])],ps:=[(.sl (.st .aFeature))],rs:=[(.sl (.st .aFeature))],ex:=[some 78]}
def go:((List aFeature))->Tr Pt ((List aFeature))
 | b=>
  .c b.isEmpty
  (.m gAgree
   (.r [])
   (.j (.c1 b)))
  (.j (.c1 b))
def st:Pt->Tr Pt ((List aFeature))
 | .c1 b=>
  .c (decide (([]:List aFeature).length+b.length<=lim))
  (.r ([]++b)) .n
def pt:Pt->List Dir×St E
 | .c1 b=>([.r],ms 8 8 [(0,hL (.st .aFeature) b)])
theorem g:D.G st pt:=fun Z a=>by cases a <;> kernel_rfl
theorem g0:D.G0 go pt:=fun Z _=>by kernel_rfl
abbrev con:Con Tryz.prog E:=FD.con Tryz.func107 (by kernel_rfl) g g0
end slices_Clone_aFeature_aFeature
def slices_Clone_aFeature_aFeature (b:List aFeature):Option ((List aFeature)):=ev (slices_Clone_aFeature_aFeature.go b) (fx slices_Clone_aFeature_aFeature.st)
end Go.Ai.Mor
end

set_option maxRecDepth 100000
noncomputable section
namespace Go.Ai.Mor
open Go Go.Ai Go.Proofs
namespace feature_Table_int_Matches_1
inductive Pt
 | c2 (d:feature_Table_int) (e:List aFeature) (h:Int) (i:Bool)
 | c1 (d:feature_Table_int) (e:List aFeature) (h:Int)
def D:FI pd := {f:=160,fn:=Tryz.f160,q:=27,pl:=pls 7 [(1,kp [0,2,9,10,11]),(5,kp [0,2,9,10,11,25])],ts:=[(.int .i64)],cts:=[(.ref .feature_Table_int),(.sl (.st .aFeature))],shape:=[1,1],cs:=[feature_Subsumes.con]}
def go:(feature_Table_int×(List aFeature))->Tr Pt (List (Int))
 | (d,e)=>
  .j (.c1 d e 0)
def st:Pt->Tr Pt (List (Int))
 | .c2 d e h i=>
  .c i
  (.r [])
  (.j (.c1 d e (IntKind.i64.wrap (h+1))))
 | .c1 d e h=>
  .c (decide (h<(d.fentries.length:Int)))
  (.c (decide (0<=h)&&decide (h<(d.fentries.length:Int)))
   (.b (feature_Subsumes ((d.fentries.getD h.toNat default).fwhen) e) fun o=>
    .c o
    (.m (gEmit ((d.fentries.getD h.toNat default).fvalue))
     (.j (.c2 d e h false))
     (.j (.c2 d e h true)))
    (.j (.c2 d e h false))) .n)
  (.r [])
def pt (fv:Nat->Value):Pt->List Dir×St (E.withFv fv)
 | .c2 d e h i=>([.r,.k,.L,.r,.r,.l,.k,.r],ms 27 27 [(0,.one (.tv (.spec 0))),(2,hF [.sl (.st .aFeature) e]),(9,hL (.st .feature_entry_int) d.fentries),(10,hI (d.fentries.length:Int)),(11,hI h),(25,hB i)])
 | .c1 d e h=>([.r,.k],ms 27 27 [(0,.one (.tv (.spec 0))),(2,hF [.sl (.st .aFeature) e]),(9,hL (.st .feature_entry_int) d.fentries),(10,hI (d.fentries.length:Int)),(11,hI h)])
theorem g:D.G st pt:=fun fv Z a=>by cases a <;> kernel_rfl
theorem g0:D.G0 go pt:=fun fv Z ⟨_,_⟩=>by kernel_rfl
abbrev con:ItCon Tryz.prog E:=FI.con Tryz.func160 (by kernel_rfl) g g0
end feature_Table_int_Matches_1
def feature_Table_int_Matches_1 (d:feature_Table_int) (e:List aFeature):Option (List (Int)):=ev (feature_Table_int_Matches_1.go (d,e)) (fx feature_Table_int_Matches_1.st)
end Go.Ai.Mor
end

set_option maxRecDepth 100000
noncomputable section
namespace Go.Ai.Mor
open Go Go.Ai Go.Proofs
namespace feature_Table_int_Find
inductive Pt
 | c1 (c:List (Int))
def D:FD pd := {f:=132,fn:=Tryz.f132,q:=20,pl:=pls 7 [(2,kp [4,5] [(4,1),(5,1)])],ps:=[(.ref .feature_Table_int),(.sl (.st .aFeature))],rs:=[(.int .i64),.bool],ex:=[none,none],dp:=2,is:=[feature_Table_int_Matches_1.con],il:=[inl 0 10 144 14 Tryz.f144 [] Tryz.func144 (by kernel_rfl)]}
def go:(feature_Table_int×(List aFeature))->Tr Pt (Int×Bool)
 | (e,d)=>
  .b (feature_Table_int_Matches_1 e d) fun c=>
  .j (.c1 c)
def st:Pt->Tr Pt (Int×Bool)
 | .c1 c=>
  .l c
  (.r (0,false)) fun h i=>
   .r (h,true)
def pt:Pt->List Dir×St E
 | .c1 c=>([.r,.l,.r,.k],ms 14 20 [(4,hP 4),(5,hP 5)] [(4,.cells [cI 0]),(5,.cells [cB false])] 0 [] [⟨[(.int .i64)],c⟩] true)
theorem g:D.G st pt:=fun Z a=>by cases a <;> kernel_rfl
theorem g0:D.G0 go pt:=fun Z ⟨_,_⟩=>by kernel_rfl
abbrev con:Con Tryz.prog E:=FD.con Tryz.func132 (by kernel_rfl) g g0
end feature_Table_int_Find
def feature_Table_int_Find (e:feature_Table_int) (d:List aFeature):Option (Int×Bool):=ev (feature_Table_int_Find.go (e,d)) (fx feature_Table_int_Find.st)
end Go.Ai.Mor
end

set_option maxRecDepth 100000
noncomputable section
namespace Go.Ai.Mor
open Go Go.Ai Go.Proofs
namespace paradigm_Chosen
inductive Pt
 | c2 (e:List aFeature) (o:List feature_entry_int)
 | c1 (e:List aFeature) (h:aParadigm) (d i:Int) (m:List feature_entry_int)
def D:FD pd := {f:=101,fn:=Tryz.f101,q:=72,pl:=pls 18 [(7,kp [2,7,8,29,30,31] [] [] [] [] false [(52,[.own (300052,1,184) (.st .feature_entry_int)])]),(12,kp [2,7] [] [] [] [] false [(52,[.own (300052,1,184) (.st .feature_entry_int)])])],ps:=[(.st .aParadigm),(.int .i64),(.sl (.st .aFeature))],rs:=[(.int .i64)],ex:=[none],dp:=2,cs:=[slices_Clone_aFeature_aFeature.con],rcs:=[feature_Table_int_Find.con],il:=[inl 0 22 130 50 Tryz.f130 [] Tryz.func130 (by kernel_rfl),inl 0 40 131 53 Tryz.f131 [] Tryz.func131 (by kernel_rfl)]}
def go:(aParadigm×Int×(List aFeature))->Tr Pt (Int)
 | (h,d,e)=>
  .c (decide (d<0))
  (.r (-1))
  (.c (decide ((h.fSlots.length:Int)<=d))
   (.r (-1))
   (.c (decide (0<=d)&&decide (d<(h.fSlots.length:Int)))
    (.j (.c1 e h d 0 ([]:(List feature_entry_int)))) .n))
def st:Pt->Tr Pt (Int)
 | .c2 e o=>
  .b (feature_Table_int_Find (feature_Table_int.mk o) e) fun p=>
  .c p.2
  (.r p.1)
  (.r (-1))
 | .c1 e h d i m=>
  .c (decide (i<((h.fSlots.getD d.toNat default).length:Int)))
  (.c (decide (0<=i)&&decide (i<((h.fSlots.getD d.toNat default).length:Int)))
   (.b (slices_Clone_aFeature_aFeature (((h.fSlots.getD d.toNat default).getD i.toNat default).fWhen)) fun s=>
    .c (decide (m.length+([feature_entry_int.mk s i]:List feature_entry_int).length<=lim))
    (.j (.c1 e h d (IntKind.i64.wrap (i+1)) (m++[feature_entry_int.mk s i]))) .n) .n)
  (.j (.c2 e m))
def pt:Pt->List Dir×St E
 | .c2 e o=>([.r,.r,.r,.r],ms 50 72 [(2,hL (.st .aFeature) e),(7,hP 52)] [(52,.cells [.tok (300052,1,184) (.st .feature_entry_int) o])])
 | .c1 e h d i m=>([.r,.r,.r,.r,.l,.r,.k],ms 50 72 [(2,hL (.st .aFeature) e),(7,hP 52),(8,.one (.fn (.func 131) [.ptr 52 0] [])),(29,hL (.st .aAffix) (h.fSlots.getD d.toNat default)),(30,hI ((h.fSlots.getD d.toNat default).length:Int)),(31,hI i)] [(52,.cells [.tok (300052,1,184) (.st .feature_entry_int) m])])
theorem g:D.G st pt:=fun Z a=>by cases a <;> kernel_rfl
theorem g0:D.G0 go pt:=fun Z ⟨_,_,_⟩=>by kernel_rfl
abbrev con:Con Tryz.prog E:=FD.con Tryz.func101 (by kernel_rfl) g g0
end paradigm_Chosen
def paradigm_Chosen (h:aParadigm) (d:Int) (e:List aFeature):Option (Int):=ev (paradigm_Chosen.go (h,d,e)) (fx paradigm_Chosen.st)
end Go.Ai.Mor
end

set_option maxRecDepth 100000
noncomputable section
namespace Go.Ai.Mor
open Go Go.Ai Go.Proofs
namespace r10_Chosen
inductive Pt
 | c1 (h:List aFeature) (e:aParadigm) (d i:Int)
def D:FD pd := {f:=75,fn:=Tryz.f75,q:=39,pl:=pls 13 [(5,kp [1,2,3,7] [(3,3)])],ps:=[(.st .aParadigm),(.int .i64),(.sl (.st .aFeature))],rs:=[(.int .i64)],ex:=[none],cs:=[r02_Subsumes.con]}
def go:(aParadigm×Int×(List aFeature))->Tr Pt (Int)
 | (e,d,h)=>
  .c (decide (d<0))
  (.r (-1))
  (.c (decide ((e.fSlots.length:Int)<=d))
   (.r (-1))
   (.j (.c1 h e d 0)))
def st:Pt->Tr Pt (Int)
 | .c1 h e d i=>
  .c (decide (0<=d)&&decide (d<(e.fSlots.length:Int)))
  (.c (decide (i<((e.fSlots.getD d.toNat default).length:Int)))
   (.c (decide (0<=d)&&decide (d<(e.fSlots.length:Int)))
    (.c (decide (0<=i)&&decide (i<((e.fSlots.getD d.toNat default).length:Int)))
     (.b (r02_Subsumes (((e.fSlots.getD d.toNat default).getD i.toNat default).fWhen) h) fun m=>
      .c m
      (.r i)
      (.j (.c1 h e d (IntKind.i64.wrap (i+1))))) .n) .n)
   (.r (-1))) .n
def pt:Pt->List Dir×St E
 | .c1 h e d i=>([.r,.r,.l,.r,.k],ms 39 39 [(1,hI d),(2,hL (.st .aFeature) h),(3,hP 3),(7,hI i)] [(3,.cells [cS e.fName,cL (.st .aDimension) e.fDimensions,cL (.sl (.st .aAffix)) e.fSlots])])
theorem g:D.G st pt:=fun Z a=>by cases a <;> kernel_rfl
theorem g0:D.G0 go pt:=fun Z ⟨_,_,_⟩=>by kernel_rfl
abbrev con:Con Tryz.prog E:=FD.con Tryz.func75 (by kernel_rfl) g g0
end r10_Chosen
def r10_Chosen (e:aParadigm) (d:Int) (h:List aFeature):Option (Int):=ev (r10_Chosen.go (e,d,h)) (fx r10_Chosen.st)
end Go.Ai.Mor
end

namespace Go.Ai.Mor
open Go Go.Ai
def subsP:List aFeature->List aFeature->Bool
 | [],_=>true
 | f::a,b=>match b.dropWhile (ltB · f) with
   | []=>false
   | e::b' => decide (e=f)&&subsP a b'
theorem getF_dropWhile {f:aFeature} : ∀ {b:List aFeature},Asc b->getF b f.fName=getF (b.dropWhile (ltB · f)) f.fName
 | [],_=>rfl
 | e::b,h=>by
   simp only [List.dropWhile_cons]
   cases he:ltB e f with
   | true=>
     simp only [if_true]
     rw [getF_skip he]
     exact getF_dropWhile (List.pairwise_cons.1 h).2
   | false=>rfl
theorem asc_dropWhile {f:aFeature} {b:List aFeature} (h:Asc b):Asc (b.dropWhile (ltB · f)):=h.sublist (List.dropWhile_sublist _)
theorem dropWhile_head {f e:aFeature} {b' : List aFeature} : ∀ {b:List aFeature},b.dropWhile (ltB · f)=e::b' -> ltB e f=false
 | [],h=>by cases h
 | x::b,h=>by
   simp only [List.dropWhile_cons] at h
   cases hx:ltB x f with
   | true=>rw [hx] at h; exact dropWhile_head (b:=b) (by simpa using h)
   | false=>rw [hx] at h; simp only [Bool.false_eq_true,if_false,List.cons.injEq] at h; rw [<- h.1]; exact hx
theorem subsP_eq:∀ {a b:List aFeature},Asc a->Asc b->subsP a b=subs a b
 | [],b,_,_=>rfl
 | f::a,b,ha,hb=>by
   obtain ⟨ha1,ha2⟩:=List.pairwise_cons.1 ha
   have hg:=getF_dropWhile (f:=f) hb
   have hall:∀ g ∈ a,hasF b g=hasF (b.dropWhile (ltB · f)) g:=fun g hg=>by
    have key:∀ b:List aFeature,getF b g.fName=getF (b.dropWhile (ltB · f)) g.fName:=by
     intro b
     induction b with
     | nil=>rfl
     | cons e b ih=>
       simp only [List.dropWhile_cons]
       cases he:ltB e f with
       | true=>simp only [if_true]; rw [getF_skip (bl_trans he (ha1 g hg))]; exact ih
       | false=>rfl
    unfold hasF
    rw [key b]
   simp only [subsP,subs,List.all_cons]
   rw [all_congr hall]
   have hbd:=asc_dropWhile (f:=f) hb
   split
   ·rename_i hd
    have:hasF b f=false:=by unfold hasF; rw [hg,hd]; rfl
    rw [this]; rfl
   ·rename_i e b' hd
    rw [hd] at hbd
    obtain ⟨hb1,hb2⟩:=List.pairwise_cons.1 hbd
    have hef:=dropWhile_head hd
    by_cases h:e=f
    ·subst h
     have h1:hasF b e=true:=by unfold hasF; rw [hg,hd]; simp [getF]
     rw [h1]
     simp only [decide_true,Bool.true_and]
     rw [subsP_eq ha2 hb2]
     unfold subs
     exact all_congr fun g hg=>by unfold hasF; rw [hd,getF_skip (ha1 g hg)]
    ·have h1:hasF b f=false:=by
      unfold hasF; rw [hg,hd]
      simp only [getF]
      by_cases hn:e.fName=f.fName
      ·rw [if_pos hn]
       simp only [decide_eq_false_iff_not]
       intro hv
       apply h
       cases e; cases f; simp at hn hv; simp [hn,hv]
      ·rw [if_neg hn,getF_none fun g hg => ?_]
       have h2:ltB f e=true:=by
        cases h3:ltB f e with
        | true=>rfl
        | false=>exact absurd (bl_tri hef h3) hn
       exact bl_trans h2 (hb1 g hg)
     rw [h1]; simp [h]
theorem advance {a b:List aFeature} (hb:b.length<=1048576) {x:Nat} (hx:x<1048576) {f:aFeature} (hf:a.getD x default=f) :
  ∀ (d i:Nat) (s:Unit),i+d=b.length->fx feature_Subsumes.st (.c2 a b x i)=(fun (i:Nat) (_:Unit)=>match (b.drop i).dropWhile (ltB · f) with
    | []=>some false
    | e::b' => cond (decide (e=f)) (fx feature_Subsumes.st (.c1 a b ((b.length - b'.length:Nat):Int) ((x+1:Nat):Int))) (some false)) i s:=
 upto (n:=b.length) (f:=fun i (_:Unit)=>fx feature_Subsumes.st (.c2 a b x i)) (g:=fun i _=>match (b.drop i).dropWhile (ltB · f) with
   | []=>some false
   | e::b' => cond (decide (e=f)) (fx feature_Subsumes.st (.c1 a b ((b.length - b'.length:Nat):Int) ((x+1:Nat):Int))) (some false)) (fun _=>by
  rw [fx_eq]; simp (disch:=omega) only [feature_Subsumes.st,evs,ev_b,fx_eq feature_Subsumes.st (.c3 ..),feature_Subsumes.st,evs,↓cpos,↓cneg,decide_true,cond_true,List.drop_length,List.dropWhile_nil]) (fun i _ hi ih=>by
  have ih:=ih ()
  obtain ⟨y,t,h2,h3,h4⟩:=dropCons hi
  have hd:(decide (y.fName=f.fName)&&(decide (y.fValue=f.fValue)&&true))=decide (y=f):=by
   rw [Bool.eq_iff_iff]
   cases y; cases f
   simp
  rw [fx_eq]; simp (disch:=omega) only [feature_Subsumes.st,evs,ev_b,fx_eq feature_Subsumes.st (.c3 ..),feature_Subsumes.st,evs,↓cpos,↓cpos2,↓cneg,Int.toNat_natCast,h3,hf,wsucc,ih,h2,h4,cnot,List.dropWhile_cons,ltB,hd]
  cases Op.bytesLess y.fName f.fName with
  | true=>rfl
  | false=>
    have hlen:b.length - t.length=i+1:=by rw [<- h4,List.length_drop]; omega
    simp only [cond_false,Bool.false_eq_true,if_false,hlen])
theorem feature_Subsumes_eq {a b:List aFeature} (ha:a.length<1048576) (hb:b.length<=1048576):feature_Subsumes a b=some (subsP a b):=by
 have key:∀ (d x k:Nat),x+d=a.length->k<=b.length->fx feature_Subsumes.st (.c1 a b k x)=some (subsP (a.drop x) (b.drop k)):=by
  intro d
  induction d with
  | zero=>
    intro x k h hk
    have e:x=a.length:=by omega
    subst e
    rw [fx_eq]; simp (disch:=omega) only [feature_Subsumes.st,evs,↓cneg,List.drop_length,subsP]
  | succ d ih=>
    intro x k h hk
    obtain ⟨f,t,h1,h2,h3⟩:=dropCons (xs:=a) (i:=x) (by omega)
    rw [fx_eq]; simp (disch:=omega) only [feature_Subsumes.st,evs,↓cpos,↓cpos2,h1,subsP]
    rw [advance hb (by omega) h2 (b.length - k) k () (by omega)]
    simp only
    split
    ·rfl
    ·rename_i e b' hd
     have hlen:b'.length+1<=(b.drop k).length:=by
      have:=(List.dropWhile_sublist (fun e=>ltB e f) (l:=b.drop k)).length_le
      rw [hd] at this
      simpa using this
     rw [List.length_drop] at hlen
     have hs:b.drop (b.length - b'.length)=b' := by
      obtain ⟨pre,hp⟩:=List.dropWhile_suffix (fun e=>ltB e f) (l:=b.drop k)
      rw [hd] at hp
      refine drop_suffix (p:=b.take k++pre++[e]) ?_
      conv=>lhs; rw [<- List.take_append_drop k b,<- hp]
      simp
     rw [ih (x+1) (b.length - b'.length) (by omega) (by omega),h3,hs]
     cases decide (e=f) <;> rfl
 have:=key a.length 0 0 (by omega) (by omega)
 simp only [List.drop_zero] at this
 exact this
theorem slices_Clone_eq {s:List aFeature} (hs:s.length<=1048576):slices_Clone_aFeature_aFeature s=some s:=by
 simp (disch:=first | omega | (simp only [len,len0]; omega)) only [slices_Clone_aFeature_aFeature,slices_Clone_aFeature_aFeature.go,evs,ev_b,fx_eq slices_Clone_aFeature_aFeature.st (.c1 ..),slices_Clone_aFeature_aFeature.st,evs,↓cpos]
 cases s with
 | nil=>exact agree_self _
 | cons x s=>rfl
def okE (e:feature_entry_int):Prop:=e.fwhen.length<1048576
theorem matches_eq {t:feature_Table_int} {r:List aFeature} (hr:r.length<=1048576) (ht:t.fentries.length<=1048576) (he:∀ e ∈ t.fentries,okE e) :
  feature_Table_int_Matches_1 t r=some ((t.fentries.filter fun e=>subsP e.fwhen r).map (·.fvalue)):=
 over (xs:=t.fentries) (f:=fun i (_:Unit)=>fx feature_Table_int_Matches_1.st (.c1 t r i)) (g:=fun es _=>some ((es.filter fun e:feature_entry_int=>subsP e.fwhen r).map (fun e:feature_entry_int=>e.fvalue))) (fun _=>by
  rw [fx_eq]; simp only [feature_Table_int_Matches_1.st,evs,ev_b,↓cneg (Int.lt_irrefl _)]; rfl) (fun i x es _ hi hx ih=>by
  have ih:=ih ()
  have hw:x.fwhen.length<1048576:=he x (by rw [<- hx]; exact getD_mem hi)
  rw [fx_eq]; simp (disch:=omega) only [feature_Table_int_Matches_1.st,evs,ev_b,fx_eq feature_Table_int_Matches_1.st (.c2 ..),feature_Table_int_Matches_1.st,evs,↓cpos,↓cpos2,Int.toNat_natCast,hx,wsucc,ih,feature_Subsumes_eq hw hr,Option.bind_some,List.filter_cons]
  cases subsP x.fwhen r <;> rfl) ()
theorem find_eq {t:feature_Table_int} {r:List aFeature} (hr:r.length<=1048576) (ht:t.fentries.length<=1048576) (he:∀ e ∈ t.fentries,okE e) :
  feature_Table_int_Find t r=some (((t.fentries.find? fun e=>subsP e.fwhen r).map (·.fvalue)).getD 0,(t.fentries.find? fun e=>subsP e.fwhen r).isSome):=by
 simp only [feature_Table_int_Find,feature_Table_int_Find.go,evs,ev_b,matches_eq hr ht he,Option.bind_some]
 rw [fx_eq]
 simp only [feature_Table_int_Find.st,evs]
 rw [<- List.head?_filter]
 cases t.fentries.filter fun e=>subsP e.fwhen r <;> rfl
end Go.Ai.Mor

noncomputable section
namespace Go.Ai.Mor
open Go Go.Ai Go.Proofs Go.Lib Go.Sort Go.Shelf Go.RowKit
set_option maxHeartbeats 1000000
theorem isNaN143 (x:ByteArray) (W:World):Calls Tryz.prog 143 #[.string x] W fun e w' => e = .returned (.bool false)/\w' = W:=by
 go_enter Tryz.func143,Tryz.ntmps143
 go_wp2
 go_ret
 exact ⟨by simp,rfl⟩
def cmpL (a b:List UInt8):Int:=if Op.bytesLess a b then -1 else if !(Op.bytesLess a b||a == b) then 1 else 0
def cmpS (x y:ByteArray):Int:=cmpL x.toList y.toList
theorem cmpS_mk (a b:List UInt8):cmpS ⟨a.toArray⟩ ⟨b.toArray⟩=cmpL a b:=by
 unfold cmpS
 rw [ByteArray.toList_eq,ByteArray.toList_eq]
theorem cmp128 (x y:ByteArray) (W:World):Calls Tryz.prog 128 #[.string x,.string y] W fun e w' => e = .returned (.int .i64 (cmpS x y))/\w' = W:=by
 go_enter Tryz.func128,Tryz.ntmps128
 go_wp2_with (go_at_call 143; refine (isNaN143 _ _).mono ?_; rintro e w' ⟨rfl,hw⟩; rw [hw])
 all_goals (go_ret; refine ⟨?_,rfl⟩; unfold cmpS cmpL; simp_all)
theorem closure127 (x1 x2 y1 y2:ByteArray) (W:World):Calls Tryz.prog 127 #[.agg #[.string x1,.string x2],.agg #[.string y1,.string y2]] W fun e w' => e = .returned (.int .i64 (cmpS x1 y1)) /\ ∃ q os',w' = grow (W.drewN q) os' := by
 have hcon:=fun W' => cmp128 x1 y1 W'
 generalize cmpS x1 y1=r at hcon ⊢
 go_enter Tryz.func127,Tryz.ntmps127
 go_wp2_with (go_at_call 128; refine (hcon _).mono ?_; rintro e w' ⟨rfl,rfl⟩)
 go_ret
 exact ⟨rfl,0,_,by rw [alloc_eq_grow,alloc_eq_grow,grow_grow]; rfl⟩
def encF (x:aFeature):List Value:=[.string ⟨x.fName.toArray⟩,.string ⟨x.fValue.toArray⟩]
def cmpF (x y:aFeature):Int:=cmpL x.fName y.fName
theorem size_insInner {α:Type} [Inhabited α] (lt:α->α->Bool) (a:Nat):∀ (j:Nat) (d:Array α),(insInner lt a j d).size=d.size
 | 0,d=>rfl
 | j+1,d=>by
   simp only [insInner]
   split
   ·rw [size_insInner lt a j,size_swp]
   ·rfl
theorem size_insOuter {α:Type} [Inhabited α] (lt:α->α->Bool) (a b:Nat):∀ (n i:Nat) (d:Array α),b - i=n->(insOuter lt a b i d).size=d.size
 | 0,i,d,h=>by rw [insOuter,if_neg (by omega)]
 | n+1,i,d,h=>by rw [insOuter,if_pos (by omega),size_insOuter lt a b n (i+1) _ (by omega),size_insInner]
def insN {α:Type} [Inhabited α] (lt:α->α->Bool) (a:Nat):Nat->Nat->Array α->Array α
 | 0,_,d=>d
 | n+1,i,d=>insN lt a n (i+1) (insInner lt a i d)
theorem insOuter_eq {α:Type} [Inhabited α] (lt:α->α->Bool) (a b:Nat):∀ (n i:Nat) (d:Array α),b - i=n->insOuter lt a b i d=insN lt a n i d
 | 0,i,d,h=>by rw [insOuter,if_neg (by omega)]; rfl
 | n+1,i,d,h=>by rw [insOuter,if_pos (by omega),insOuter_eq lt a b n (i+1) _ (by omega)]; rfl
def sortFeatures (xs:List aFeature):Option (List aFeature):=cond (decide (xs.length<=12)) (some (insN (ltOf cmpF) 0 (xs.toArray.size - 1) 1 xs.toArray).toList) none
variable {fv:Nat->Value} {w w' : World} {F:Fz}
theorem rep_strV {l:List UInt8} {u:Value} (h:Rep (E:=E.withFv fv) w F (.str l) u):u = .string ⟨l.toArray⟩:=by
 cases h with
 | str s=>simp
theorem flat_get (d:Array aFeature) (q:Nat) (h:q<d.size*2):(flatK encF 2 d).toList[q]? = some ((encF d[q / 2]!)[q % 2]!):=by
 simp [flatK,h]
theorem row_flat {xs:List aFeature} {L:List Value} (h:RowRep (E:=E.withFv fv) w F (.st .aFeature) xs L):L=(flatK encF 2 xs.toArray).toList:=by
 have hl:L.length=xs.length*2:=h.1
 apply List.ext_getElem?
 intro q
 by_cases hq:q<xs.length*2
 ·rw [flat_get _ _ (by simpa using hq)]
  have hi:q / 2<xs.length:=by omega
  have hx:xs[q / 2]? = some xs[q / 2]:=List.getElem?_eq_getElem hi
  have hx' : xs.toArray[q / 2]! = xs[q / 2]:=by simp [hi]
  rw [hx']
  rcases Nat.mod_two_eq_zero_or_one q with hm | hm
  ·obtain ⟨u,h1,h2⟩:=h.2 (q / 2) xs[q / 2] 0 (.str xs[q / 2].fName) hx rfl
   rw [hm]
   have:q / 2*Ty.size (E.withFv fv) (.st .aFeature)+0=q:=by show q / 2*2+0=q; omega
   rw [this] at h1
   rw [h1,rep_strV h2]
   rfl
  ·obtain ⟨u,h1,h2⟩:=h.2 (q / 2) xs[q / 2] 1 (.str xs[q / 2].fValue) hx rfl
   rw [hm]
   have:q / 2*Ty.size (E.withFv fv) (.st .aFeature)+1=q:=by show q / 2*2+1=q; omega
   rw [this] at h1
   rw [h1,rep_strV h2]
   rfl
 ·rw [List.getElem?_eq_none (by omega),List.getElem?_eq_none (by simp; omega)]
theorem flat_row (xs:List aFeature):RowRep (E:=E.withFv fv) w F (.st .aFeature) xs (flatK encF 2 xs.toArray).toList:=by
 refine ⟨by simp; rfl,fun i x c l hx hl => ?_⟩
 have hi:i<xs.length:=(List.getElem?_eq_some_iff.1 hx).1
 have hxi:xs.toArray[i]! = (x:aFeature):=by
  have:=(List.getElem?_eq_some_iff.1 hx).2
  rw [getElem!_pos xs.toArray i (by simpa using hi)]
  exact this
 have hl' : ([.str x.fName,.str x.fValue]:List (TV (E.withFv fv)))[c]? = some l:=hl
 show ∃ u,(flatK encF 2 xs.toArray).toList[i*2+c]? = some u/\Rep w F l u
 match c,hl' with
 | 0,hl'=>
   cases hl'
   refine ⟨.string ⟨x.fName.toArray⟩,?_,?_⟩
   ·rw [flat_get _ _ (by simp; omega),show (i*2+0) / 2=i by omega,show (i*2+0) % 2=0 by omega,hxi]
    rfl
   ·have:=Rep.str (E:=E.withFv fv) (w:=w) (F:=F) ⟨x.fName.toArray⟩
    simpa using this
 | 1,hl'=>
   cases hl'
   refine ⟨.string ⟨x.fValue.toArray⟩,?_,?_⟩
   ·rw [flat_get _ _ (by simp; omega),show (i*2+1) / 2=i by omega,show (i*2+1) % 2=1 by omega,hxi]
    rfl
   ·have:=Rep.str (E:=E.withFv fv) (w:=w) (F:=F) ⟨x.fValue.toArray⟩
    simpa using this
 | c+2,hl' => simp at hl'
theorem hlen (n:Nat) (W:World) (h:n<=12):Calls Tryz.prog 142 #[.int .u64 n] W fun e w' => (∃ l:Int,e = .returned (.int .i64 l))/\w' = W:=
 (Any.bits_Len Tryz.bitsLen2 n W (by omega) (by omega)).mono fun _ _ ⟨he,hw⟩=>⟨⟨_,he⟩,hw⟩
theorem ty78 (w:World):(isAgg 78).run Tryz.prog w = .ok true w/\(Go.sizeOf 78).run Tryz.prog w = .ok 2 w:=by
 obtain ⟨ti,hti,h1,h2⟩:∃ ti:TI E,tisE.lookup 78=some ti/\ti.agg=true/\ti.size=2:=⟨_,rfl,rfl,rfl⟩
 obtain ⟨i,d,hT,_⟩:=tok_of (COk_Tryz (sig:=fun _=>none) (it:=fun _=>none) (nt:=0) (r1:=[]) (r2:=[])) (t:=78) (ti:=ti) hti
 refine ⟨?_,?_⟩
 ·rw [run_isAgg hT.under,hT.agg,h1]
 ·rw [run_size hT.info,hT.size,h2]
theorem sort_call (blk cap:Nat) (d:Array aFeature) (w:World) (hH:HoldsK encF 2 w blk 0 d) (hblk:blk<w.heap.size) (h12:d.size<=12) :
  Calls Tryz.prog 126 #[.slice (some ⟨blk,0,none⟩) d.size cap,.func (.func 127) #[] #[]] w fun e w' => e = .returned (.tuple #[]) /\ ∃ n os,w' = sortWorldK encF 2 w blk 0 n (insertionSort (ltOf cmpF) d 0 d.size) os:=by
 have eg:∀ args w,(callFunc 127 args).run Tryz.prog w = .ok (.enter 127 args) w:=enters_of Tryz.func127 (by kernel_rfl) rfl
 exact AnyQ.slices_SortFunc_small Tryz.sortF 2 (fun w=>(ty78 w).1) (fun w=>(ty78 w).2) encF (fun _=>rfl) (fun x v hv=>by simp [encF] at hv; rcases hv with rfl | rfl <;> rfl) cmpF 127 #[] blk 0 cap d w eg (fun _ _ _ _ x y=>by have h:=closure127 ⟨x.fName.toArray⟩ ⟨x.fValue.toArray⟩ ⟨y.fName.toArray⟩ ⟨y.fValue.toArray⟩; simp only [cmpS_mk] at h; exact h _) hH hblk h12 hlen
theorem sortFeatures_says:MutSays (E:=E.withFv fv) Tryz.prog 126 (some 127) 78 (.st .aFeature) sortFeatures:=by
 refine ⟨by kernel_rfl,?_⟩
 intro (xs:List aFeature) (ys:List aFeature) hxy w base F v L i hi hsz ho hr hF hFv hbase
 have hs2:i.size=2:=hsz
 unfold sortFeatures at hxy
 cases hc:(decide (xs.length<=12)) with
 | false=>rw [hc] at hxy; cases hxy
 | true=>
   rw [hc] at hxy
   simp only [decide_eq_true_eq] at hc
   have h12:=hc
   rcases Nat.eq_zero_or_pos (List.length (α:=aFeature) xs) with h00 | h0
   ·have hxe:xs=[]:=List.eq_nil_of_length_eq_zero h00
    have hye:ys=[]:=by
     have h:=Option.some.inj hxy
     rw [<- h,hxe]; rfl
    subst hxe
    subst hye
    obtain ⟨p,cap,hv⟩:∃ p cap,v = .slice p 0 cap:=by
     rcases ho.2 with ⟨hv,_⟩ | ⟨g,cap,cur,hv,_⟩
     ·exact ⟨_,_,hv⟩
     ·exact ⟨_,_,hv⟩
    have hcall:=AnyF.slices_SortFunc_none (P:=Tryz.prog) Tryz.sortF p cap (.func (.func 127) #[] #[]) w
    subst hv
    refine hcall.mono ?_
    rintro e w' ⟨rfl,rfl⟩
    exact ⟨rfl,⟨rfl,rfl,rfl,Nat.le_refl _,fun _ _ _=>rfl⟩,L,ho,hr⟩
   have hys:ys=(insertionSort (ltOf cmpF) xs.toArray 0 xs.toArray.size).toList:=(Option.some.inj hxy).symm.trans (congrArg Array.toList (insOuter_eq (ltOf cmpF) 0 xs.toArray.size _ 1 xs.toArray rfl).symm)
   have hyl:ys.length=xs.length:=by
    rw [hys,Array.length_toList]
    exact size_insOuter _ _ _ _ _ _ rfl
   have hya:ys.toArray=insertionSort (ltOf cmpF) xs.toArray 0 xs.toArray.size:=by rw [hys,Array.toArray_toList]
   have hL:=row_flat hr
   rw [hs2] at ho
   rcases ho.2 with ⟨hv,hn0⟩ | ⟨g,cap,cur,hv,hb,hg,hnc,hcm,hcs,htake⟩
   ·exact absurd hn0 (Nat.ne_of_gt h0)
   ·subst hv
    have hlt:g<w.heap.size:=(Array.getElem?_eq_some_iff.1 hg).1
    have hH:HoldsK encF 2 w g 0 xs.toArray:=by
     intro q hq
     have hq' : q<xs.length*2:=by simpa using hq
     refine ⟨?_,?_⟩
     ·have h1:L[q]? = some ((encF xs.toArray[q / 2]!)[q % 2]!):=by rw [hL]; exact flat_get _ _ (by simpa using hq')
      have h2:=ho.cells (g:=g) rfl q _ h1
      rw [addr_add] at h2
      rw [h2,get_flatK _ _ _ _ (by simpa using hq')]
      rfl
     ·simp [World.frozen?,hg]
    have hcall:=sort_call g cap xs.toArray w hH hlt (by simpa using h12)
    rw [show xs.toArray.size=xs.length by simp] at hcall
    refine hcall.mono ?_
    rintro e w' ⟨rfl,n,os,rfl⟩
    rw [show insertionSort (ltOf cmpF) xs.toArray 0 xs.length=ys.toArray by rw [hya]; simp]
    have hheap:∀ k,k<w.heap.size->(sortWorldK encF 2 w g 0 n ys.toArray os).heap[k]? = (w.heap[k]?).map fun o=>if g=k then onCells (putCells id 0 (flatK encF 2 ys.toArray)) o else o:=by
     intro k hk
     show ((w.heap.modify g (onCells (putCells id 0 (flatK encF 2 ys.toArray))))++os)[k]? = _
     rw [Array.getElem?_append_left (by simpa using hk),Array.getElem?_modify]
     cases w.heap[k]? with
     | none=>simp
     | some o=>by_cases e:g=k <;> simp [e]
    have hnc:List.length (α:=aFeature) xs<=cap:=hnc
    have htk:(putCells id 0 (flatK encF 2 ys.toArray) cur).toList.take (ys.length*2)=(flatK encF 2 ys.toArray).toList:=by
     have hc2:ys.length*2<=cur.size:=by rw [hyl,hcs]; exact Nat.mul_le_mul_right _ hnc
     apply List.ext_getElem?
     intro q
     by_cases hq:q<ys.length*2
     ·rw [List.getElem?_take_of_lt hq,flat_get _ _ (by simpa using hq),Array.getElem?_toList]
      simp only [putCells,Array.getElem?_mapIdx]
      rw [Array.getElem?_eq_getElem (show q<cur.size by omega)]
      simp only [Option.map_some,Nat.zero_le,true_and,Nat.zero_add,Nat.sub_zero,size_flatK,List.size_toArray,hq,if_true,id]
      rw [get_flatK _ _ _ _ (by simpa using hq)]
     ·rw [List.getElem?_eq_none (by simp; omega),List.getElem?_eq_none (by simp; omega)]
    have hown:(sortWorldK encF 2 w g 0 n ys.toArray os).ownsRow base 78 2 (.slice (some ⟨g,0,none⟩) (List.length (α:=aFeature) xs) cap) (List.length (α:=aFeature) ys) (flatK encF 2 ys.toArray).toList:=by
     refine ⟨by simp,.inr ⟨g,cap,putCells id 0 (flatK encF 2 ys.toArray) cur,by rw [hyl],hb,?_,by rw [hyl]; exact hnc,hcm,by simp [putCells,hcs],htk⟩⟩
     rw [hheap g hlt,hg]
     simp [onCells]
    refine ⟨rfl,⟨rfl,rfl,rfl,?_,?_⟩,(flatK encF 2 ys.toArray).toList,?_,flat_row ys⟩
    ·show w.heap.size<=((w.heap.modify g (onCells (putCells id 0 (flatK encF 2 ys.toArray))))++os).size
     simp
    ·intro k hk hne
     have hgk:g≠k:=fun e=>hne (by rw [e]; rfl)
     rw [hheap k hk]
     simp [hgk]
    ·rw [hs2]
     exact hown
end Go.Ai.Mor
end

set_option maxRecDepth 100000
noncomputable section
namespace Go.Ai.Mor
open Go Go.Ai Go.Proofs
namespace feature_All_1_1
inductive Pt
 | me (x:Int×(List aFeature))
 | c1 (c0a0_0:List aDimension) (chosena1_0:List aFeature) (ia0_0 x29_1:Int)
noncomputable abbrev pl:List (Option (Plan Nm)):=[none,none,none,none,none,none,none,some {tmps:=[(0,.asis),(1,.asis),(2,.asis),(4,.asis),(27,.asis),(28,.asis),(29,.asis)],boxes:=[]},none,none,none,none,none,none,none,none]
noncomputable abbrev il:List (InlCon Tryz.prog Nm):=[]
abbrev ts:List (Ty Nm):=[(.sl (.st .aFeature))]
abbrev cts:List (Ty Nm):=[(.sl (.st .aDimension))]
noncomputable abbrev C (fv:Nat->Value):Ctx (E.withFv fv):=mkCv (P:=Tryz.prog) fv tis [] [] 52 [15,17] [21]
abbrev ats:List (Ty Nm):=[(.int .i64),(.sl (.st .aFeature))]
abbrev ks:List CapK:=[.val 1,.yld,.self]
noncomputable abbrev X (fv:Nat->Value):Ext (E.withFv fv) (List ((List aFeature))×Bool):=extMut (E:=E.withFv fv) 126 (some 127) 78 (.st .aFeature) (sortFeatures) (noX)
noncomputable abbrev H (me:(Int×(List aFeature))->Option (List ((List aFeature))×Bool)) (fv:Nat->Value):Hd (E.withFv fv) (List ((List aFeature))×Bool):=mkHv (P:=Tryz.prog) fv il [] (yl01 (E:=E.withFv fv) ats ts fun x=>handed (me x)) (X fv)
noncomputable abbrev K (fv:Nat->Value):Cont (E.withFv fv) (List ((List aFeature))×Bool):=kBool (C fv) Tryz.f125.results.toList
noncomputable def go (h:Pt->Option (List ((List aFeature))×Bool)):(Int×(List aFeature))->((List aDimension))->Option (List ((List aFeature))×Bool)
 | (ia0_0,chosena1_0),c0a0_0=>
  cond (decide (ia0_0=(c0a0_0.length:Int)))
  (cond (decide (([]:List aFeature).length+chosena1_0.length<=lim))
   (Option.bind (sortFeatures (([]:List aFeature)++chosena1_0)) fun ry126_2=>
    emit2 ry126_2
    (some ([],true))
    (some ([],false))) none)
  (cond (decide (0<=ia0_0)&&decide (ia0_0<(c0a0_0.length:Int)))
   (h (.c1 c0a0_0 chosena1_0 ia0_0 0)) none)
noncomputable def st (y:(List aDimension)) (h:Pt->Option (List ((List aFeature))×Bool)):Pt->Option (List ((List aFeature))×Bool)
 | .me x=>go h x y
 | .c1 c0a0_0 chosena1_0 ia0_0 x29_1=>
  cond (decide (x29_1<(((c0a0_0.getD ia0_0.toNat default).fValues).length:Int)))
  (cond (decide (0<=x29_1)&&decide (x29_1<(((c0a0_0.getD ia0_0.toNat default).fValues).length:Int)))
   (cond (decide (0<=ia0_0)&&(decide (ia0_0<=(chosena1_0.length:Int))&&decide (ia0_0=ia0_0)))
    (cond (decide (0<=ia0_0)&&decide (ia0_0<(c0a0_0.length:Int)))
     (cond (decide (0<([aFeature.mk ((c0a0_0.getD ia0_0.toNat default).fName) (((c0a0_0.getD ia0_0.toNat default).fValues).getD x29_1.toNat default)]:List aFeature).length)&&decide ((chosena1_0.take ia0_0.toNat).length+([aFeature.mk ((c0a0_0.getD ia0_0.toNat default).fName) (((c0a0_0.getD ia0_0.toNat default).fValues).getD x29_1.toNat default)]:List aFeature).length<=lim))
      (Option.bind (handed (h (.me (IntKind.i64.wrap (ia0_0+1),(chosena1_0.take ia0_0.toNat)++[aFeature.mk ((c0a0_0.getD ia0_0.toNat default).fName) (((c0a0_0.getD ia0_0.toNat default).fValues).getD x29_1.toNat default)])))) fun rv125_6=>
       emits2 rv125_6
       (h (.c1 c0a0_0 chosena1_0 ia0_0 (IntKind.i64.wrap (x29_1+1))))
       (some ([],false))) none) none) none) none)
  (some ([],true))
noncomputable def isMe:Pt->Option (Int×(List aFeature))
 | .me x=>some x
 | _=>none
noncomputable def pt (fv:Nat->Value):Pt->List Dir×St (E.withFv fv)
 | .me _=>([],start [] 0 0)
 | .c1 c0a0_0 chosena1_0 ia0_0 x29_1=>([.r,.r,.l,.r,.k],mkSt 52 52 [(0,.one (.tv (.int .i64 ia0_0))),(1,.one (.tv (.sl (.st .aFeature) chosena1_0))),(2,.one (.fptr [.sl (.st .aDimension) c0a0_0])),(4,.one (.fptr [.spec 1])),(27,.one (.tv (.sl .str ((c0a0_0.getD ia0_0.toNat default).fValues)))),(28,.one (.tv (.int .i64 (((c0a0_0.getD ia0_0.toNat default).fValues).length:Int)))),(29,.one (.tv (.int .i64 x29_1)))] [] 0 [] [] false)
theorem ctG (x) (y0):Cts fun h=>go h x y0:=by
 dsimp only [go]
 repeat' first | refine .cond ?_ ?_ | refine .bind fun _ => ?_ | refine .emit2 ?_ ?_ | refine .emits2 ?_ ?_ | refine .handed ?_ | refine .bindH ?_ fun _ => ?_ | exact .call _ | exact .const _
theorem ctS (y) (a:Pt):Cts fun h=>st y h a:=by
 cases a <;> dsimp only [st] <;> first | exact ctG _ _ | (repeat' first | refine .cond ?_ ?_ | refine .bind fun _ => ?_ | refine .emit2 ?_ ?_ | refine .emits2 ?_ ?_ | refine .handed ?_ | refine .bindH ?_ fun _ => ?_ | exact .call _ | exact .const _)
noncomputable def V (y0 y:(List aDimension)) (x:Int×(List aFeature)):Option (List ((List aFeature))):=handed (go (fix (st y)) x y0)
theorem eq (y) (a:Pt):fix (st y) a=st y (fix (st y)) a:=fix_eq (ctS y) a
end feature_All_1_1
namespace feature_All_1_1
theorem g (me:(Int×(List aFeature))->Option (List ((List aFeature))×Bool)) (y:(List aDimension)) (fv:Nat->Value) (Z:List Dir->St (E.withFv fv)->Option (List ((List aFeature))×Bool)):∀ a,isMe a=none->seg (C fv) (H me fv) 1 Z (bodyOf Tryz.f125) pl (K fv) (pt fv a).1 (pt fv a).2=st y (hole isMe (pt fv) me Z) a
 | .me _,e=>by cases e
 | .c1 _ _ _ _,_=>by kernel_rfl
theorem g0 (me:(Int×(List aFeature))->Option (List ((List aFeature))×Bool)) (fv:Nat->Value) (Z:List Dir->St (E.withFv fv)->Option (List ((List aFeature))×Bool)) (x:Int×(List aFeature)) (y0:(List aDimension)):runZ (C fv) (extZ (C fv) (H me fv) 1) Z (bodyOf Tryz.f125) pl (start (argHs (E:=E.withFv fv) ats x++capHK ks (viewTup (E:=E.withFv fv) cts y0)) Tryz.f125.ntmps 52) (K fv)=go (hole isMe (pt fv) me Z) x y0:=by obtain ⟨ia0_0,chosena1_0⟩:=x; kernel_rfl
theorem emx:EmX (E:=E) Tryz.prog 125 ks cts ats ts V := @em_fn _ _ E Tryz.prog 125 _ (bodyOf Tryz.f125) 1 52 52 [15,17] [21] pl [] [] [] il ts cts ats (fun _=>tis) X ks Pt st go isMe pt (by kernel_rfl) Tryz.func125 (by kernel_rfl) (by kernel_rfl) (fun _=>tis_ok) (fun _ B=>callOk_mut sortFeatures_says (callOk_none)) (fun _=>extMut_mono (XMono.noX)) ctS ctG (fun y a x h e=>by cases a <;> cases e; rfl) g g0
end feature_All_1_1
end Go.Ai.Mor
end

set_option maxRecDepth 100000
noncomputable section
namespace Go.Ai.Mor
open Go Go.Ai Go.Proofs
namespace feature_All_1
inductive Pt
def D:FI pd := {f:=123,fn:=Tryz.f123,q:=10,ts:=[(.sl (.st .aFeature))],cts:=[(.sl (.st .aDimension))],shape:=[1],cs:=[feature_dimensions.con],X:=fun fv=>extRec (E:=E.withFv fv) 125 feature_All_1_1.ks feature_All_1_1.cts feature_All_1_1.ats feature_All_1_1.ts feature_All_1_1.V (noX),hX:=⟨fun fv l h0 B hB=>callOk_rec feature_All_1_1.emx h0 hB (callOk_none),fun _=>extRec_mono (XMono.noX)⟩}
def go:((List aDimension))->Tr Pt (List ((List aFeature)))
 | d=>
  .b (feature_dimensions d) fun e=>
  .c (!e)
  (.r [])
  (.b (feature_All_1_1.V d d (0,([]:(List aFeature)))) fun h=>
   .m (gEmits h)
   (.r [])
   (.r []))
def st:Pt->Tr Pt (List ((List aFeature))):=nofun
def pt (fv:Nat->Value):Pt->List Dir×St (E.withFv fv):=nofun
theorem g:D.G st pt:=fun fv Z a=>by cases a <;> kernel_rfl
theorem g0:D.G0 go pt:=fun fv Z _=>by kernel_rfl
abbrev con:ItCon Tryz.prog E:=FI.con Tryz.func123 (by kernel_rfl) g g0
end feature_All_1
def feature_All_1 (d:List aDimension):Option (List ((List aFeature))):=ev (feature_All_1.go d) (fx feature_All_1.st)
end Go.Ai.Mor
end

set_option maxRecDepth 100000
noncomputable section
namespace Go.Ai.Mor
open Go Go.Ai Go.Proofs
namespace r02_All
inductive Pt
 | c3 (d:List aDimension) (e i:Int) (h o:List (List aFeature)) (m:Int)
 | c2 (d:List aDimension) (e:Int) (h p:List (List aFeature)) (i:Int)
 | c1 (d:List aDimension) (h:List (List aFeature)) (e:Int)
def D:FD pd := {f:=78,fn:=Tryz.f78,q:=60,pl:=pls 24 [(6,kp [0,4] [] [] [(3,.own (100003,0,44) (.sl (.st .aFeature)))]),(11,kp [0,4,6] [] [] [(3,.own (100003,0,44) (.sl (.st .aFeature))),(5,.own (100005,0,44) (.sl (.st .aFeature)))]),(15,kp [0,4,6,7] [] [] [(3,.own (100003,0,44) (.sl (.st .aFeature))),(5,.own (100005,0,44) (.sl (.st .aFeature)))])],ps:=[(.sl (.st .aDimension))],rs:=[(.sl (.sl (.st .aFeature)))],ex:=[some 44],cs:=[r02_Dimensions.con,r02_Put.con]}
def go:((List aDimension))->Tr Pt ((List (List aFeature)))
 | d=>
  .b (r02_Dimensions d) fun t=>
  .c (!t)
  (.r [])
  (.j (.c1 d ([[]]) 0))
def st:Pt->Tr Pt ((List (List aFeature)))
 | .c3 d e i h o m=>
  .c (decide (0<=e)&&decide (e<(d.length:Int)))
  (.c (decide (m<(((d.getD e.toNat default).fValues).length:Int)))
   (.c (decide (0<=i)&&decide (i<(h.length:Int)))
    (.c (decide (0<=e)&&decide (e<(d.length:Int)))
     (.c (decide (0<=e)&&decide (e<(d.length:Int)))
      (.c (decide (0<=m)&&decide (m<(((d.getD e.toNat default).fValues).length:Int)))
       (.b (r02_Put (h.getD i.toNat default) (aFeature.mk ((d.getD e.toNat default).fName) (((d.getD e.toNat default).fValues).getD m.toNat default))) fun s=>
        .c (decide (o.length+([s]:List (List aFeature)).length<=lim))
        (.j (.c3 d e i h (o++[s]) (IntKind.i64.wrap (m+1)))) .n) .n) .n) .n) .n)
   (.j (.c2 d e h o (IntKind.i64.wrap (i+1))))) .n
 | .c2 d e h p i=>
  .c (decide (i<(h.length:Int)))
  (.j (.c3 d e i h p 0))
  (.j (.c1 d p (IntKind.i64.wrap (e+1))))
 | .c1 d h e=>
  .c (decide (e<(d.length:Int)))
  (.j (.c2 d e h ([]:(List (List aFeature))) 0))
  (.r h)
def pt:Pt->List Dir×St E
 | .c3 d e i h o m=>([.r,.r,.r,.l,.r,.k,.L,.r,.l,.k,.r,.l,.r,.k,.L,.r,.l,.k,.r,.k],ms 60 60 [(0,hL (.st .aDimension) d),(3,hT 100003 44 (.sl (.st .aFeature)) h),(4,hI e),(5,hT 100005 44 (.sl (.st .aFeature)) o),(6,hI i),(7,hI m)])
 | .c2 d e h p i=>([.r,.r,.r,.l,.r,.k,.L,.r,.l,.k,.r,.l,.r,.k],ms 60 60 [(0,hL (.st .aDimension) d),(3,hT 100003 44 (.sl (.st .aFeature)) h),(4,hI e),(5,hT 100005 44 (.sl (.st .aFeature)) p),(6,hI i)])
 | .c1 d h e=>([.r,.r,.r,.l,.r,.k],ms 60 60 [(0,hL (.st .aDimension) d),(3,hT 100003 44 (.sl (.st .aFeature)) h),(4,hI e)])
theorem g:D.G st pt:=fun Z a=>by cases a <;> kernel_rfl
theorem g0:D.G0 go pt:=fun Z _=>by kernel_rfl
abbrev con:Con Tryz.prog E:=FD.con Tryz.func78 (by kernel_rfl) g g0
end r02_All
def r02_All (d:List aDimension):Option ((List (List aFeature))):=ev (r02_All.go d) (fx r02_All.st)
end Go.Ai.Mor
end

namespace Go.Ai.Mor
open Go Go.Ai Go.Sort Go.Shelf Go.Proofs Go.Lib Go.RowKit
def insRev {α:Type} (f:α->α->Bool) (x:α):List α->List α->List α
 | [],post=>x::post
 | y::r,post=>cond (f x y) (insRev f x r (y::post)) ((y::r).reverse++x::post)
theorem insRev_post {α:Type} (f:α->α->Bool) (x:α):∀ (r post:List α),insRev f x r post=insRev f x r []++post
 | [],post=>rfl
 | y::r,post=>by
   simp only [insRev]
   cases f x y with
   | true=>simp only [cond_true]; rw [insRev_post f x r (y::post),insRev_post f x r [y]]; simp
   | false=>simp
theorem insInner_list {α:Type} [Inhabited α] (f:α->α->Bool) (x:α):∀ (r post:List α),insInner f 0 r.length (r.reverse++x::post).toArray=(insRev f x r post).toArray
 | [],post=>rfl
 | y::r,post=>by
   have hn:(y::r).length=r.length+1:=rfl
   rw [hn]
   simp only [insInner,insRev]
   have e1:((y::r).reverse++x::post).toArray[r.length+1]! = x:=by
    have:((y::r).reverse++x::post)[r.length+1]? = some x:=by rw [List.getElem?_append_right (by simp)]; simp
    simp [this]
   have e2:((y::r).reverse++x::post).toArray[r.length]! = y:=by
    have:((y::r).reverse++x::post)[r.length]? = some y:=by rw [List.getElem?_append_left (by simp)]; simp
    simp [this]
   rw [e1,e2]
   have e3:(decide (r.length+1 > 0)&&f x y)=f x y:=by simp
   rw [e3]
   cases hf:f x y with
   | false=>simp
   | true=>
     simp only [if_true,cond_true]
     rw [<- insInner_list f x r (y::post)]
     congr 1
     unfold swp
     rw [e1,e2]
     apply Array.ext'
     simp only [List.setIfInBounds_toArray]
     have h1:((y::r).reverse++x::post).set (r.length+1) y=(y::r).reverse++y::post:=by
      rw [List.set_append_right _ _ (by simp)]; simp
     rw [h1]
     have h2:(y::r).reverse++y::post=r.reverse++y::y::post:=by simp
     rw [h2,List.set_append_right _ _ (by simp)]
     simp
theorem insRev_length {α:Type} (f:α->α->Bool) (x:α):∀ (r post:List α),(insRev f x r post).length=r.length+post.length+1
 | [],post=>by simp [insRev]
 | y::r,post=>by
   simp only [insRev]
   cases f x y with
   | true=>simp only [cond_true,insRev_length f x r (y::post),List.length_cons]; omega
   | false=>simp; omega
def sortL {α:Type} (f:α->α->Bool) (acc:List α):List α->List α
 | []=>acc
 | x::r=>sortL f (insRev f x acc.reverse []) r
theorem insN_list {α:Type} [Inhabited α] (f:α->α->Bool):∀ (rest acc:List α),insN f 0 rest.length acc.length (acc++rest).toArray=(sortL f acc rest).toArray
 | [],acc=>by simp [insN,sortL]
 | x::rest,acc=>by
   simp only [List.length_cons,insN,sortL]
   have h:=insInner_list f x acc.reverse rest
   rw [List.reverse_reverse,List.length_reverse] at h
   rw [h,insRev_post]
   have hl:(insRev f x acc.reverse []).length=acc.length+1:=by rw [insRev_length]; simp
   rw [<- hl]
   exact insN_list f rest _
def sortF (xs:List aFeature):List aFeature:=sortL (ltOf cmpF) [] xs
theorem sortFeatures_eq {xs:List aFeature} (h:xs.length<=12):sortFeatures xs=some (sortF xs):=by
 unfold sortFeatures
 rw [cpos h]
 cases xs with
 | nil=>rfl
 | cons x xs=>
   have:=insN_list (ltOf cmpF) xs [x]
   simp only [List.length_singleton,List.singleton_append] at this
   simp only [List.size_toArray,List.length_cons,Nat.add_sub_cancel]
   rw [this]
   rfl
theorem ltOf_cmpF (x y:aFeature):ltOf cmpF x y=ltB x y:=by
 unfold ltOf cmpF cmpL ltB
 cases Op.bytesLess x.fName y.fName with
 | true=>rfl
 | false=>simp only [Bool.false_eq_true,if_false]; split <;> rfl
theorem put_append {x:aFeature} : ∀ {a b:List aFeature},(∀ e ∈ a,ltB e x=true)->put (a++b) x=a++put b x
 | [],b,_=>rfl
 | e::a,b,h=>by
   simp only [List.cons_append,put,h e (by simp),cond_true]
   rw [put_append fun e he=>h e (List.mem_cons_of_mem _ he)]
theorem put_first {x:aFeature} : ∀ {b:List aFeature},(∀ e ∈ b,ltB x e=true)->put b x=x::b
 | [],_=>rfl
 | e::b,h=>put_front b (h e (by simp))
theorem insRev_put {x:aFeature} : ∀ {r post:List aFeature},Asc (r.reverse++post)->(∀ e ∈ r,e.fName≠x.fName)->(∀ e ∈ post,ltB x e=true)->insRev (ltOf cmpF) x r post=put (r.reverse++post) x
 | [],post,_,_,hp=>(put_first hp).symm
 | y::r,post,ha,hn,hp=>by
   simp only [insRev,ltOf_cmpF]
   cases hxy:ltB x y with
   | true=>
     simp only [cond_true]
     rw [insRev_put (r:=r) (post:=y::post) (by simpa using ha) (fun e he=>hn e (List.mem_cons_of_mem _ he)) (fun e he=>by
      rcases List.mem_cons.1 he with rfl | he
      ·exact hxy
      ·exact hp e he)]
     simp
   | false=>
     simp only [cond_false]
     have hyx:ltB y x=true:=by
      cases h:ltB y x with
      | true=>rfl
      | false=>exact absurd (bl_tri h hxy) (hn y (by simp))
     rw [put_append,put_first hp]
     intro e he
     rw [List.reverse_cons,List.mem_append] at he
     rcases he with he | he
     ·refine bl_trans ?_ hyx
      have:=List.pairwise_append.1 (by simpa using ha:Asc (r.reverse++y::post))
      exact this.2.2 e he y (by simp)
     ·simp at he; rw [he]; exact hyx
theorem put_asc {x:aFeature} : ∀ {r:List aFeature},Asc r->(∀ e ∈ r,e.fName≠x.fName)->Asc (put r x)
 | [],_,_=>List.pairwise_singleton _ _
 | e::r,ha,hn=>by
   obtain ⟨h1,h2⟩:=List.pairwise_cons.1 ha
   simp only [put]
   cases hex:ltB e x with
   | true=>
     simp only [cond_true]
     refine List.pairwise_cons.2 ⟨fun y hy => ?_,put_asc h2 fun e he=>hn e (List.mem_cons_of_mem _ he)⟩
     rcases put_mem.1 hy with rfl | hy
     ·exact hex
     ·exact h1 y hy
   | false=>
     simp only [cond_false]
     have hxe:ltB x e=true:=by
      cases h:ltB x e with
      | true=>rfl
      | false=>exact absurd (bl_tri hex h) (hn e (by simp))
     refine List.pairwise_cons.2 ⟨fun y hy => ?_,ha⟩
     rcases List.mem_cons.1 hy with rfl | hy
     ·exact hxe
     ·exact bl_trans hxe (h1 y hy)
def rec (c:List aFeature):List aFeature:=c.foldl put []
theorem foldl_put_mem {x:aFeature} : ∀ {c acc:List aFeature},x ∈ c.foldl put acc↔x ∈ c\/x ∈ acc
 | [],acc=>by simp
 | y::c,acc=>by
   rw [List.foldl_cons,foldl_put_mem,put_mem]
   simp only [List.mem_cons]
   constructor
   ·rintro (h | h | h) <;> simp [h]
   ·rintro ((h | h) | h) <;> simp [h]
def Distinct (c:List aFeature):Prop:=c.Pairwise fun x y=>x.fName≠y.fName
theorem sortL_put:∀ {c acc:List aFeature},Asc acc->Distinct c->(∀ e ∈ acc,∀ f ∈ c,e.fName≠f.fName)->sortL (ltOf cmpF) acc c=c.foldl put acc/\Asc (c.foldl put acc)
 | [],acc,ha,_,_=>⟨rfl,ha⟩
 | x::c,acc,ha,hd,hn=>by
   obtain ⟨h1,h2⟩:=List.pairwise_cons.1 hd
   have hx:∀ e ∈ acc,e.fName≠x.fName:=fun e he=>hn e he x (by simp)
   have e:=insRev_put (x:=x) (r:=acc.reverse) (post:=[]) (by simpa using ha) (fun e he=>hx e (by simpa using he)) (fun e he=>by cases he)
   simp only [List.reverse_reverse,List.append_nil] at e
   simp only [sortL,List.foldl_cons,e]
   refine sortL_put (put_asc ha hx) h2 fun e he f hf => ?_
   rcases put_mem.1 he with rfl | he
   ·exact h1 f hf
   ·exact hn e he f (List.mem_cons_of_mem _ hf)
theorem sortF_rec {c:List aFeature} (h:Distinct c):sortF c=rec c:=(sortL_put List.Pairwise.nil h (fun e he=>by cases he)).1
theorem rec_asc {c:List aFeature} (h:Distinct c):Asc (rec c):=(sortL_put List.Pairwise.nil h (fun e he=>by cases he)).2
theorem rec_mem {x:aFeature} {c:List aFeature} : x ∈ rec c↔x ∈ c:=by unfold rec; rw [foldl_put_mem]; simp
end Go.Ai.Mor

namespace Go.Ai.Mor
open Go Go.Ai
def okDim (d:aDimension):Prop:=d.fName.length<=1048576/\d.fValues.length<=1048576 /\ ∀ v ∈ d.fValues,v.length<=1048576
def okDims (ds:List aDimension):Prop:=ds.length<=1048576 /\ ∀ d ∈ ds,okDim d
def valsF (vals:List (List UInt8)):Nat->List (List UInt8)->Bool
 | _,[]=>true
 | i,v::r=>isName v && !((vals.take i).any fun x=>decide (v=x))&&valsF vals (i+1) r
def dimOk (pre:List aDimension) (d:aDimension):Bool:=isName d.fName&&decide (1<=d.fValues.length)&&decide (d.fValues.length<=8)&&valsF d.fValues 0 d.fValues && !(pre.any fun e=>decide (e.fName=d.fName))
def dimsF (all:List aDimension):Nat->List aDimension->Bool
 | _,[]=>true
 | i,d::r=>dimOk (all.take i) d&&dimsF all (i+1) r
def dimsOk (ds:List aDimension):Bool:=decide (ds.length<=4)&&dimsF ds 0 ds
theorem feature_dimensions_eq {ds:List aDimension} (hd:okDims ds):feature_dimensions ds=some (dimsOk ds):=by
 obtain ⟨hl,hf⟩:=hd
 have prev:∀ (i:Nat),i<ds.length->fx feature_dimensions.st (.c3 ds i)=cond ((ds.take i).any fun e=>decide (e.fName=(ds.getD i default).fName)) (some false) (fx feature_dimensions.st (.c1 ds ((i+1:Nat):Int))):=by
  intro i hi
  rw [fx_eq]; simp (disch:=omega) only [feature_dimensions.st,evs,ev_b,↓cpos2]
  exact over (xs:=ds.take i) (f:=fun x (_:Unit)=>fx feature_dimensions.st (.c4 ds i x)) (g:=fun r _=>cond (r.any fun e=>decide (e.fName=(ds.getD i default).fName)) (some false) (fx feature_dimensions.st (.c1 ds ((i+1:Nat):Int)))) (fun _=>by
   rw [fx_eq]; simp (disch:=omega) only [feature_dimensions.st,evs,ev_b,Int.toNat_natCast,↓cneg (Int.lt_irrefl _),wsucc,List.any_nil,cond_false]) (fun q x r _ hq hx ih=>by
   have ih:=ih ()
   have hq' := hq
   rw [List.length_take] at hq'
   rw [fx_eq]; simp (disch:=omega) only [feature_dimensions.st,evs,ev_b,Int.toNat_natCast,↓cpos,↓cpos2,wsucc,hx,ih,List.any_cons]
   cases decide (x.fName=(ds.getD i default).fName) <;> rfl) ()
 have vals:∀ (i:Nat),i<ds.length->fx feature_dimensions.st (.c2 ds i 0)=cond (valsF (ds.getD i default).fValues 0 (ds.getD i default).fValues) (fx feature_dimensions.st (.c3 ds i)) (some false):=by
  intro i hi
  obtain ⟨hn,hvl,hv⟩:=hf _ (getD_mem hi)
  exact overI (xs:=(ds.getD i default).fValues) (f:=fun x (_:Unit)=>fx feature_dimensions.st (.c2 ds i x)) (g:=fun q r _=>cond (valsF (ds.getD i default).fValues q r) (fx feature_dimensions.st (.c3 ds i)) (some false)) (fun _=>by
   rw [fx_eq]; simp only [feature_dimensions.st,evs,ev_b,Int.toNat_natCast,↓cneg (Int.lt_irrefl _),valsF,cond_true]) (fun q x r _ hq hx _ _ ih=>by
   have ih:=ih ()
   have hxl:=hv _ (getD_mem hq)
   rw [hx] at hxl
   rw [fx_eq]; simp (disch:=first | omega | (simp only [len]; omega)) only [feature_dimensions.st,evs,ev_b,Int.toNat_natCast,↓cpos,↓cpos2,wsucc,hx,ih,feature_name_eq hxl,Option.bind_some,slices_Contains_eq,cnot,valsF]
   cases isName x <;> cases ((ds.getD i default).fValues.take q).any (fun y=>decide (x=y)) <;> rfl) ()
 simp only [feature_dimensions,feature_dimensions.go,evs,ev_b,dimsOk]
 by_cases h4:ds.length<=4
 ·rw [cneg (by omega)]
  have key:=overI (xs:=ds) (f:=fun i (_:Unit)=>fx feature_dimensions.st (.c1 ds i)) (g:=fun i r _=>some (dimsF ds i r)) (fun _=>by
   rw [fx_eq]; simp only [feature_dimensions.st,evs,ev_b,↓cneg (Int.lt_irrefl _),dimsF]) (fun i d r _ hi hx _ _ ih=>by
   have ih:=ih ()
   obtain ⟨hn,hvl,hv⟩:=hf _ (getD_mem hi)
   have hp:=prev i hi
   have hvs:=vals i hi
   rw [hx] at hn hp hvs
   rw [fx_eq]; simp (disch:=omega) only [feature_dimensions.st,evs,ev_b,Int.toNat_natCast,↓cpos,↓cpos2,wsucc,hx,hvs,hp,ih,feature_name_eq hn,Option.bind_some,cnot,dimsF,dimOk]
   cases isName d.fName with
   | false=>rfl
   | true=>
     by_cases h1:1<=d.fValues.length
     ·rw [cneg (by omega)]
      by_cases h8:d.fValues.length<=8
      ·rw [cneg (by omega)]
       simp only [h1,h8,decide_true]
       cases valsF d.fValues 0 d.fValues <;> cases (ds.take i).any (fun e=>decide (e.fName=d.fName)) <;> rfl
      ·rw [cpos (by omega)]; simp [h8]
     ·rw [cpos (by omega)]; simp [h1]) ()
  simp only [h4,decide_true,Bool.true_and]
  exact key
 ·rw [cpos (by omega)]; simp [h4]
theorem ref02_Dimensions_eq {ds:List aDimension} (hd:okDims ds):r02_Dimensions ds=some (dimsOk ds):=by
 obtain ⟨hl,hf⟩:=hd
 have vals:∀ (i:Nat),i<ds.length->fx r02_Dimensions.st (.c3 ds i)=cond (valsF (ds.getD i default).fValues 0 (ds.getD i default).fValues) (fx r02_Dimensions.st (.c1 ds ((i+1:Nat):Int))) (some false):=by
  intro i hi
  obtain ⟨hn,hvl,hv⟩:=hf _ (getD_mem hi)
  rw [fx_eq]; simp only [r02_Dimensions.st,evs]
  exact overI (xs:=(ds.getD i default).fValues) (f:=fun x (_:Unit)=>fx r02_Dimensions.st (.c4 ds i x)) (g:=fun q r _=>cond (valsF (ds.getD i default).fValues q r) (fx r02_Dimensions.st (.c1 ds ((i+1:Nat):Int))) (some false)) (fun _=>by
   rw [fx_eq]; simp (disch:=omega) only [r02_Dimensions.st,evs,ev_b,Int.toNat_natCast,↓cneg (Int.lt_irrefl _),valsF,cond_true,wsucc]) (fun q x r _ hq hx _ _ ih=>by
   have ih:=ih ()
   have hxl:=hv _ (getD_mem hq)
   rw [hx] at hxl
   rw [fx_eq]; simp (disch:=first | omega | (simp only [len]; omega)) only [r02_Dimensions.st,evs,ev_b,Int.toNat_natCast,↓cpos,↓cpos2,wsucc,hx,ih,ref02_Name_eq hxl,Option.bind_some,ref02_In_eq,cnot,valsF]
   cases isName x <;> cases ((ds.getD i default).fValues.take q).any (fun y=>decide (x=y)) <;> rfl) ()
 have prev:∀ (i:Nat),i<ds.length->fx r02_Dimensions.st (.c2 ds i 0)=cond ((ds.take i).any fun e=>decide (e.fName=(ds.getD i default).fName)) (some false) (fx r02_Dimensions.st (.c3 ds i)):=by
  intro i hi
  have hlen:(ds.take i).length=i:=by rw [List.length_take]; omega
  exact over (xs:=ds.take i) (f:=fun x (_:Unit)=>fx r02_Dimensions.st (.c2 ds i x)) (g:=fun r _=>cond (r.any fun e=>decide (e.fName=(ds.getD i default).fName)) (some false) (fx r02_Dimensions.st (.c3 ds i))) (fun _=>by
   rw [hlen]
   rw [fx_eq]; simp (disch:=omega) only [r02_Dimensions.st,evs,ev_b,↓cneg (Int.lt_irrefl _),List.any_nil,cond_false]) (fun q x r _ hq hx ih=>by
   have ih:=ih ()
   rw [hlen] at hq
   have hx' : ds.getD q default=x:=by rw [<- hx]; simp [List.getElem?_take,hq]
   rw [fx_eq]; simp (disch:=omega) only [r02_Dimensions.st,evs,ev_b,Int.toNat_natCast,↓cpos,↓cpos2,wsucc,hx',ih,List.any_cons]
   cases decide (x.fName=(ds.getD i default).fName) <;> rfl) ()
 simp only [r02_Dimensions,r02_Dimensions.go,evs,ev_b,dimsOk]
 by_cases h4:ds.length<=4
 ·rw [cneg (by omega)]
  have key:=overI (xs:=ds) (f:=fun i (_:Unit)=>fx r02_Dimensions.st (.c1 ds i)) (g:=fun i r _=>some (dimsF ds i r)) (fun _=>by
   rw [fx_eq]; simp only [r02_Dimensions.st,evs,ev_b,↓cneg (Int.lt_irrefl _),dimsF]) (fun i d r _ hi hx _ _ ih=>by
   have ih:=ih ()
   obtain ⟨hn,hvl,hv⟩:=hf _ (getD_mem hi)
   have hp:=prev i hi
   have hvs:=vals i hi
   rw [hx] at hn hp hvs
   rw [fx_eq]; simp (disch:=omega) only [r02_Dimensions.st,evs,ev_b,Int.toNat_natCast,↓cpos,↓cpos2,wsucc,hx,hvs,hp,ih,ref02_Name_eq hn,Option.bind_some,cnot,dimsF,dimOk]
   cases isName d.fName with
   | false=>rfl
   | true=>
     by_cases h1:1<=d.fValues.length
     ·rw [cneg (by omega)]
      by_cases h8:d.fValues.length<=8
      ·rw [cneg (by omega)]
       simp only [h1,h8,decide_true]
       cases valsF d.fValues 0 d.fValues <;> cases (ds.take i).any (fun e=>decide (e.fName=d.fName)) <;> rfl
      ·rw [cpos (by omega)]; simp [h8]
     ·rw [cpos (by omega)]; simp [h1]) ()
  simp only [h4,decide_true,Bool.true_and]
  exact key
 ·rw [cpos (by omega)]; simp [h4]
structure GoodDims (ds:List aDimension):Prop where
 four:ds.length<=4
 vals:∀ d ∈ ds,1<=d.fValues.length/\d.fValues.length<=8
 names:ds.Pairwise fun d e=>d.fName≠e.fName
 good:∀ d ∈ ds,isName d.fName=true /\ ∀ v ∈ d.fValues,isName v=true
theorem valsF_names {vals:List (List UInt8)} : ∀ {r:List (List UInt8)} {i:Nat},valsF vals i r=true -> ∀ v ∈ r,isName v=true
 | [],_,_,v,hv=>by cases hv
 | x::r,i,h,v,hv=>by
   simp only [valsF,Bool.and_eq_true] at h
   rcases List.mem_cons.1 hv with rfl | hv
   ·exact h.1.1
   ·exact valsF_names h.2 v hv
theorem dimsF_good {all:List aDimension} : ∀ {r:List aDimension} {i:Nat},all.drop i=r->dimsF all i r=true ->
  (∀ d ∈ r,1<=d.fValues.length/\d.fValues.length<=8)/\(r.Pairwise fun d e=>d.fName≠e.fName)/\(∀ d ∈ r,isName d.fName=true /\ ∀ v ∈ d.fValues,isName v=true) /\ ∀ d ∈ all.take i,∀ e ∈ r,d.fName≠e.fName
 | [],i,_,_=>⟨fun d h=>(by cases h),List.Pairwise.nil,fun d h=>(by cases h),fun d _ e h=>(by cases h)⟩
 | d::r,i,hd,h=>by
   simp only [dimsF,dimOk,Bool.and_eq_true,decide_eq_true_eq,Bool.not_eq_true',List.any_eq_false] at h
   obtain ⟨⟨⟨⟨⟨h1,h2⟩,h3⟩,h4⟩,h5⟩,h6⟩:=h
   have hi:i<all.length:=by
    rcases Nat.lt_or_ge i all.length with h | h
    ·exact h
    ·rw [List.drop_of_length_le h] at hd; cases hd
   have hd' : all.drop (i+1)=r:=by
    have:=List.drop_eq_getElem_cons hi
    rw [hd] at this
    exact (List.cons.inj this).2.symm
   have hdi:all[i]=d:=by
    have:=List.drop_eq_getElem_cons hi
    rw [hd] at this
    exact (List.cons.inj this).1.symm
   obtain ⟨g1,g2,g3,g4⟩:=dimsF_good hd' h6
   have htake:all.take (i+1)=all.take i++[d]:=by rw [List.take_succ_eq_append_getElem hi,hdi]
   rw [htake] at g4
   refine ⟨fun e he => ?_,List.pairwise_cons.2 ⟨fun e he=>g4 d (by simp) e he,g2⟩,fun e he => ?_,fun c hc e he => ?_⟩
   ·rcases List.mem_cons.1 he with rfl | he
    ·exact ⟨h2,h3⟩
    ·exact g1 e he
   ·rcases List.mem_cons.1 he with rfl | he
    ·exact ⟨h1,valsF_names h4⟩
    ·exact g3 e he
   ·rcases List.mem_cons.1 he with rfl | he
    ·have:=h5 c hc
     simpa using this
    ·exact g4 c (by simp [hc]) e he
theorem dimsOk_good {ds:List aDimension} (h:dimsOk ds=true):GoodDims ds:=by
 simp only [dimsOk,Bool.and_eq_true,decide_eq_true_eq] at h
 obtain ⟨h1,h2,h3,h4⟩:=dimsF_good (i:=0) (by simp) h.2
 exact ⟨h.1,h1,h2,h3⟩
end Go.Ai.Mor

namespace Go.Ai.Mor
open Go Go.Ai
def choices:List aDimension->List (List aFeature)
 | []=>[[]]
 | d::ds=>d.fValues.flatMap fun v=>(choices ds).map (⟨d.fName,v⟩ :: ·)
def prod:List aDimension->Nat
 | []=>1
 | d::ds=>d.fValues.length*prod ds
theorem choices_length:∀ ds:List aDimension,(choices ds).length=prod ds
 | []=>rfl
 | d::ds=>by
   simp only [choices,prod,List.length_flatMap,List.length_map,choices_length ds]
   rw [List.map_const',List.sum_replicate_nat]
theorem prod_le:∀ {ds:List aDimension},(∀ d ∈ ds,d.fValues.length<=8)->prod ds<=8 ^ ds.length
 | [],_=>Nat.le_refl _
 | d::ds,h=>by
   simp only [prod,List.length_cons,Nat.pow_succ]
   rw [Nat.mul_comm]
   exact Nat.mul_le_mul (prod_le fun d hd=>h d (List.mem_cons_of_mem _ hd)) (h d (by simp))
theorem prod_pos:∀ {ds:List aDimension},(∀ d ∈ ds,1<=d.fValues.length)->0<prod ds
 | [],_=>Nat.zero_lt_one
 | d::ds,h=>Nat.mul_pos (h d (by simp)) (prod_pos fun d hd=>h d (List.mem_cons_of_mem _ hd))
theorem choices_names:∀ {ds:List aDimension} {c:List aFeature},c ∈ choices ds->c.map (·.fName)=ds.map (·.fName)
 | [],c,h=>by simp [choices] at h; simp [h]
 | d::ds,c,h=>by
   simp only [choices,List.mem_flatMap,List.mem_map] at h
   obtain ⟨v,_,c',hc,rfl⟩:=h
   simp [choices_names hc]
theorem distinct_of_names {c:List aFeature} {ds:List aDimension} (h:c.map (·.fName)=ds.map (·.fName)) (hd:ds.Pairwise fun d e=>d.fName≠e.fName):Distinct c:=by
 have h1:(ds.map (·.fName)).Pairwise (· ≠ ·):=List.pairwise_map.2 hd
 rw [<- h] at h1
 exact List.pairwise_map.1 h1
def allF (ds:List aDimension):List (List aFeature):=(choices ds).map rec
theorem allF_length (ds:List aDimension):(allF ds).length=prod ds:=by simp [allF,choices_length]
theorem allV {ds:List aDimension} (hg:GoodDims ds):∀ (r:List aDimension) (i:Nat) (c:List aFeature),ds.drop i=r->i+r.length=ds.length->c.length=i ->
  feature_All_1_1.go (fix (feature_All_1_1.st ds)) ((i:Int),c) ds=some ((choices r).map fun x=>sortF (c++x),true):=by
 have h4:=hg.four
 intro r
 induction r with
 | nil=>
   intro i c hd hi hc
   simp only [List.length_nil] at hi
   simp only [feature_All_1_1.go]
   rw [cpos (by omega),cpos (by simp only [len,len0]; omega),List.nil_append,sortFeatures_eq (by omega),Option.bind_some]
   simp [emit2,choices]
 | cons d r ih=>
   intro i c hd hi hc
   simp only [List.length_cons] at hi
   have hil:i<ds.length:=by omega
   obtain ⟨d',r',g1,g2,g3⟩:=dropCons hil
   rw [hd] at g1
   cases g1
   obtain ⟨v1,v2⟩:=hg.vals d (by rw [<- g2]; exact getD_mem hil)
   have e:=over (xs:=d.fValues) (f:=fun x (_:Unit)=>fix (feature_All_1_1.st ds) (.c1 ds c (i:Int) x)) (g:=fun vs _=>some (vs.flatMap fun v=>(choices r).map fun x=>sortF (c++[⟨d.fName,v⟩]++x),true)) (fun _=>by
     rw [feature_All_1_1.eq]; simp only [feature_All_1_1.st,Int.toNat_natCast,g2,↓cneg (Int.lt_irrefl _)]
     rfl) (fun j v vs _ hj hv ih' => by
     have ih' := ih' ()
     have ihv:=ih (i+1) (c++[⟨d.fName,v⟩]) g3 (by omega) (by simp [hc])
     have hct:c.take i=c:=by rw [List.take_of_length_le (by omega)]
     have hlim:(c.length+[(⟨d.fName,v⟩:aFeature)].length<=lim):=by simp only [len,len0]; omega
     rw [feature_All_1_1.eq]; simp only [feature_All_1_1.st,Int.toNat_natCast,g2,hct,hv]
     rw [cpos (by omega),cpos2 (by omega) (by omega)]
     rw [cpos3 (by omega) (by omega) trivial]
     rw [cpos2 (by omega) (by omega),cpos2 (by simp) hlim]
     rw [wsucc (by omega),wsucc (by omega),feature_All_1_1.eq]
     simp only [feature_All_1_1.st]
     rw [ihv,ih']
     simp only [handed,Option.bind_some,emits2,List.flatMap_cons]) ()
   simp only [feature_All_1_1.go]
   rw [cneg (by omega),cpos2 (by omega) (by omega),e]
   simp only [choices,List.map_flatMap,List.map_map]
   congr 2
   congr 1
   funext v
   congr 1
   funext x
   simp
theorem feature_All_eq {ds:List aDimension} (hd:okDims ds):feature_All_1 ds=some (cond (dimsOk ds) (allF ds) []):=by
 simp only [feature_All_1,feature_All_1.go,evs,ev_b]
 rw [feature_dimensions_eq hd,Option.bind_some]
 cases h:dimsOk ds with
 | false=>rfl
 | true=>
   have hg:=dimsOk_good h
   have this:=allV hg ds 0 [] (by simp) (by simp) rfl
   simp only [Bool.not_true,cond_false,cond_true,feature_All_1_1.V]
   have e:((0:Nat):Int)=0:=rfl
   rw [e] at this
   rw [this]
   simp only [handed,Option.bind_some,emits,List.append_nil,List.nil_append,allF]
   congr 1
   refine List.map_congr_left fun c hc => ?_
   exact sortF_rec (distinct_of_names (choices_names hc) hg.names)
end Go.Ai.Mor

set_option maxRecDepth 100000
noncomputable section
namespace Go.Ai.Mor
open Go Go.Ai Go.Proofs
namespace paradigm_Count
inductive Pt
 | c2 (d:aParadigm) (i:List ((List aFeature))) (m e:Int)
 | c1 (d:aParadigm) (h:List ((List aFeature)))
def D:FD pd := {f:=66,fn:=Tryz.f66,q:=28,pl:=pls 14 [(2,kp [1,2] [(1,3),(2,1)]),(5,kp [2,3,11,12,13] [(2,1),(1,3)] [1,2])],ps:=[(.st .aParadigm)],rs:=[(.int .i64)],ex:=[none],dp:=2,is:=[feature_All_1.con],il:=[inl 0 8 99 24 Tryz.f99 [] Tryz.func99 (by kernel_rfl)]}
def go:(aParadigm)->Tr Pt (Int)
 | d=>
  .b (feature_All_1 d.fDimensions) fun h=>
  .j (.c1 d h)
def st:Pt->Tr Pt (Int)
 | .c2 d i m e=>
  .c (decide (e<(d.fDimensions.length:Int)))
  (.c (decide (0<=e)&&decide (e<(d.fDimensions.length:Int)))
   (.j (.c2 d i (IntKind.i64.wrap (m*(((d.fDimensions.getD e.toNat default).fValues).length:Int))) (IntKind.i64.wrap (e+1)))) .n)
  (.r m)
 | .c1 d h=>
  .l h
  (.r 0) fun o i=>
   .j (.c2 d i 1 0)
def pt:Pt->List Dir×St E
 | .c2 d i m e=>([.r,.l,.r,.k,.L,.k,.r,.l,.r,.k],ms 24 28 [(2,hP 2),(3,hI m),(11,hL (.st .aDimension) d.fDimensions),(12,hI (d.fDimensions.length:Int)),(13,hI e)] [(1,.cells [cS d.fName,cL (.st .aDimension) d.fDimensions,cL (.sl (.st .aAffix)) d.fSlots]),(2,.cells [cI 0])] 24 [(1,hP 1),(2,hP 2)] [⟨[(.sl (.st .aFeature))],i⟩])
 | .c1 d h=>([.r,.l,.r,.k],ms 24 28 [(1,hP 1),(2,hP 2)] [(1,.cells [cS d.fName,cL (.st .aDimension) d.fDimensions,cL (.sl (.st .aAffix)) d.fSlots]),(2,.cells [cI 0])] 0 [] [⟨[(.sl (.st .aFeature))],h⟩] true)
theorem g:D.G st pt:=fun Z a=>by cases a <;> kernel_rfl
theorem g0:D.G0 go pt:=fun Z _=>by kernel_rfl
abbrev con:Con Tryz.prog E:=FD.con Tryz.func66 (by kernel_rfl) g g0
end paradigm_Count
def paradigm_Count (d:aParadigm):Option (Int):=ev (paradigm_Count.go d) (fx paradigm_Count.st)
end Go.Ai.Mor
end

set_option maxRecDepth 100000
noncomputable section
namespace Go.Ai.Mor
open Go Go.Ai Go.Proofs
namespace paradigm_Cell
inductive Pt
 | c1 (d:Int) (h:List ((List aFeature))) (e:Int)
def D:FD pd := {f:=67,fn:=Tryz.f67,q:=30,pl:=pls 12 [(6,kp [3,4,5,6] [(3,1),(4,1),(5,1),(6,1)])],ps:=[(.st .aParadigm),(.int .i64)],rs:=[(.sl (.st .aFeature)),.bool],ex:=[none,none],dp:=2,cs:=[paradigm_Count.con],is:=[feature_All_1.con],il:=[inl 0 18 99 26 Tryz.f99 [] Tryz.func99 (by kernel_rfl)]}
def go:(aParadigm×Int)->Tr Pt ((List aFeature)×Bool)
 | (i,d)=>
  .c (decide (d<0))
  (.r ([],false))
  (.b (paradigm_Count i) fun m=>
   .c (decide (m<=d))
   (.r ([],false))
   (.b (feature_All_1 i.fDimensions) fun n=>
    .j (.c1 d n 0)))
def st:Pt->Tr Pt ((List aFeature)×Bool)
 | .c1 d h e=>
  .l h
  (.r ([],false)) fun o p=>
   .c (decide (e=d))
   (.r (o,true))
   (.j (.c1 d p (IntKind.i64.wrap (e+1))))
def pt:Pt->List Dir×St E
 | .c1 d h e=>([.r,.r,.r,.l,.r,.k],ms 26 30 [(3,hP 3),(4,hP 4),(5,hP 5),(6,hP 6)] [(3,.cells [cI d]),(4,.cells [.tv (.val nilS)]),(5,.cells [cB false]),(6,.cells [cI e])] 0 [] [⟨[(.sl (.st .aFeature))],h⟩] true)
theorem g:D.G st pt:=fun Z a=>by cases a <;> kernel_rfl
theorem g0:D.G0 go pt:=fun Z ⟨_,_⟩=>by kernel_rfl
abbrev con:Con Tryz.prog E:=FD.con Tryz.func67 (by kernel_rfl) g g0
end paradigm_Cell
def paradigm_Cell (i:aParadigm) (d:Int):Option ((List aFeature)×Bool):=ev (paradigm_Cell.go (i,d)) (fx paradigm_Cell.st)
end Go.Ai.Mor
end

set_option maxRecDepth 100000
noncomputable section
namespace Go.Ai.Mor
open Go Go.Ai Go.Proofs
namespace r10_Cells
inductive Pt
def D:FD pd := {f:=50,fn:=Tryz.f50,q:=6,ps:=[(.st .aParadigm)],rs:=[(.sl (.sl (.st .aFeature)))],ex:=[some 44],cs:=[r02_All.con]}
def go:(aParadigm)->Tr Pt ((List (List aFeature)))
 | c=>
  .b (r02_All c.fDimensions) fun d=>
  .r d
def st:Pt->Tr Pt ((List (List aFeature))):=nofun
def pt:Pt->List Dir×St E:=nofun
theorem g:D.G st pt:=fun Z a=>by cases a <;> kernel_rfl
theorem g0:D.G0 go pt:=fun Z _=>by kernel_rfl
abbrev con:Con Tryz.prog E:=FD.con Tryz.func50 (by kernel_rfl) g g0
end r10_Cells
def r10_Cells (c:aParadigm):Option ((List (List aFeature))):=ev (r10_Cells.go c) (fx r10_Cells.st)
end Go.Ai.Mor
end

set_option maxRecDepth 100000
noncomputable section
namespace Go.Ai.Mor
open Go Go.Ai Go.Proofs
namespace paradigm_Number
inductive Pt
 | c3 (d:List aFeature) (i h:Int)
 | c2 (d:List aFeature) (i:Int)
 | c1 (d:List aFeature) (e:aParadigm) (o m:Int)
def D:FD pd := {f:=47,fn:=Tryz.f47,q:=74,pl:=pls 26 [(6,kp [1,5,24,25,26]),(16,kp [1,5]),(18,kp [1,5,11])],ps:=[(.st .aParadigm),(.sl (.st .aFeature))],rs:=[(.int .i64)],ex:=[none],cs:=[paradigm_Count.con,feature_Get.con,slices_Index_string_string.con]}
def go:(aParadigm×(List aFeature))->Tr Pt (Int)
 | (e,d)=>
  .c (!decide ((d.length:Int)=(e.fDimensions.length:Int)))
  (.r (-1))
  (.b (paradigm_Count e) fun t=>
   .c (decide (t=0))
   (.r (-1))
   (.j (.c1 d e 0 0)))
def st:Pt->Tr Pt (Int)
 | .c3 d i h=>
  .c (decide (h<(d.length:Int)))
  (.c (decide (0<=IntKind.i64.wrap (h - 1))&&decide (IntKind.i64.wrap (h - 1)<(d.length:Int)))
   (.c (decide (0<=h)&&decide (h<(d.length:Int)))
    (.c (!(Op.bytesLess ((d.getD (IntKind.i64.wrap (h - 1)).toNat default).fName) ((d.getD h.toNat default).fName)))
     (.r (-1))
     (.j (.c3 d i (IntKind.i64.wrap (h+1))))) .n) .n)
  (.r i)
 | .c2 d i=>
  .j (.c3 d i 1)
 | .c1 d e o m=>
  .c (decide (m<(e.fDimensions.length:Int)))
  (.c (decide (0<=m)&&decide (m<(e.fDimensions.length:Int)))
   (.b (feature_Get d ((e.fDimensions.getD m.toNat default).fName)) fun p=>
    .b (slices_Index_string_string ((e.fDimensions.getD m.toNat default).fValues) p.1) fun s=>
    .c (!p.2)
    (.r (-1))
    (.c (decide (s<0))
     (.r (-1))
     (.j (.c1 d e (IntKind.i64.wrap ((IntKind.i64.wrap (o*(((e.fDimensions.getD m.toNat default).fValues).length:Int)))+s)) (IntKind.i64.wrap (m+1)))))) .n)
  (.j (.c2 d o))
def pt:Pt->List Dir×St E
 | .c3 d i h=>([.r,.r,.r,.r,.l,.r,.k],ms 74 74 [(1,hL (.st .aFeature) d),(5,hI i),(11,hI h)])
 | .c2 d i=>([.r,.r,.r],ms 74 74 [(1,hL (.st .aFeature) d),(5,hI i)])
 | .c1 d e o m=>([.r,.r,.r,.l,.r,.k],ms 74 74 [(1,hL (.st .aFeature) d),(5,hI o),(24,hL (.st .aDimension) e.fDimensions),(25,hI (e.fDimensions.length:Int)),(26,hI m)])
theorem g:D.G st pt:=fun Z a=>by cases a <;> kernel_rfl
theorem g0:D.G0 go pt:=fun Z ⟨_,_⟩=>by kernel_rfl
abbrev con:Con Tryz.prog E:=FD.con Tryz.func47 (by kernel_rfl) g g0
end paradigm_Number
def paradigm_Number (e:aParadigm) (d:List aFeature):Option (Int):=ev (paradigm_Number.go (e,d)) (fx paradigm_Number.st)
end Go.Ai.Mor
end

set_option maxRecDepth 100000
noncomputable section
namespace Go.Ai.Mor
open Go Go.Ai Go.Proofs
namespace r10_Number
inductive Pt
 | c1 (d:List aFeature) (h:List (List aFeature)) (e:Int)
def D:FD pd := {f:=108,fn:=Tryz.f108,q:=22,pl:=pls 11 [(3,kp [1,6] [] [] [(5,.own (100005,0,44) (.sl (.st .aFeature)))])],ps:=[(.st .aParadigm),(.sl (.st .aFeature))],rs:=[(.int .i64)],ex:=[none],cs:=[r02_Same.con,r10_Cells.con]}
def go:(aParadigm×(List aFeature))->Tr Pt (Int)
 | (i,d)=>
  .b (r10_Cells i) fun h=>
  .j (.c1 d h 0)
def st:Pt->Tr Pt (Int)
 | .c1 d h e=>
  .c (decide (e<(h.length:Int)))
  (.c (decide (0<=e)&&decide (e<(h.length:Int)))
   (.b (r02_Same (h.getD e.toNat default) d) fun m=>
    .c m
    (.r e)
    (.j (.c1 d h (IntKind.i64.wrap (e+1))))) .n)
  (.r (-1))
def pt:Pt->List Dir×St E
 | .c1 d h e=>([.r,.r,.l,.r,.k],ms 22 22 [(1,hL (.st .aFeature) d),(5,hT 100005 44 (.sl (.st .aFeature)) h),(6,hI e)])
theorem g:D.G st pt:=fun Z a=>by cases a <;> kernel_rfl
theorem g0:D.G0 go pt:=fun Z ⟨_,_⟩=>by kernel_rfl
abbrev con:Con Tryz.prog E:=FD.con Tryz.func108 (by kernel_rfl) g g0
end r10_Number
def r10_Number (i:aParadigm) (d:List aFeature):Option (Int):=ev (r10_Number.go (i,d)) (fx r10_Number.st)
end Go.Ai.Mor
end

namespace Go.Ai.Mor
open Go Go.Ai
def count (ds:List aDimension):Nat:=cond (dimsOk ds) (prod ds) 0
def cells (ds:List aDimension):List (List aFeature):=cond (dimsOk ds) (allF ds) []
theorem cells_length (ds:List aDimension):(cells ds).length=count ds:=by
 unfold cells count
 cases dimsOk ds <;> simp [allF_length]
theorem count_le (ds:List aDimension):count ds<=4096:=by
 unfold count
 cases h:dimsOk ds with
 | false=>simp
 | true=>
   have hg:=dimsOk_good h
   have h1:=prod_le fun d hd=>(hg.vals d hd).2
   have h2:8 ^ ds.length<=8 ^ 4:=Nat.pow_le_pow_right (by omega) hg.four
   simp only [cond_true]
   have:(8:Nat) ^ 4=4096:=by decide
   omega
theorem paradigm_Count_eq {p:aParadigm} (hd:okDims p.fDimensions):paradigm_Count p=some (count p.fDimensions:Int):=by
 simp only [paradigm_Count,paradigm_Count.go,evs,ev_b]
 rw [feature_All_eq hd,Option.bind_some]
 have e:∀ l,fx paradigm_Count.st (.c1 p l)=lcase l (some 0) (fun _ xs=>fx paradigm_Count.st (.c2 p xs 1 0)):=by
  intro l
  rw [fx_eq]; simp only [paradigm_Count.st,evs]
 rw [e]
 unfold count
 cases h:dimsOk p.fDimensions with
 | false=>rfl
 | true=>
   have hg:=dimsOk_good h
   have h4:=hg.four
   simp only [cond_true]
   have hpos:0<(allF p.fDimensions).length:=by rw [allF_length]; exact prod_pos fun d hd=>(hg.vals d hd).1
   cases hl:allF p.fDimensions with
   | nil=>rw [hl] at hpos; simp at hpos
   | cons x xs=>
     simp only [lcase]
     have key:=overJ (xs:=p.fDimensions) (f:=fun i (n:Nat)=>fx paradigm_Count.st (.c2 p xs (n:Int) i)) (g:=fun _ r n=>some ((n*prod r:Nat):Int)) (I:=fun i n=>n<=8 ^ i) (fun n _=>by
      rw [fx_eq]; simp only [paradigm_Count.st,evs,ev_b,↓cneg (Int.lt_irrefl _),prod,Nat.mul_one]) (fun i d r n hi hn hx _ _ ih=>by
      obtain ⟨v1,v2⟩:=hg.vals d (by rw [<- hx]; exact getD_mem hi)
      have h8:8 ^ i<=8 ^ 3:=Nat.pow_le_pow_right (by omega) (by omega)
      have h8' : (8:Nat) ^ 3=512:=by decide
      have hb:n*d.fValues.length<=512*8:=Nat.mul_le_mul (by omega) v2
      have hw:IntKind.i64.wrap ((n:Int)*(d.fValues.length:Int))=((n*d.fValues.length:Nat):Int):=by
       rw [wrap64]
       ·simp
       ·have:(0:Int)<=(n:Int)*(d.fValues.length:Int):=Int.mul_nonneg (by omega) (by omega)
        omega
       ·have:((n*d.fValues.length:Nat):Int)<=4096:=by omega
        simp at this
        omega
      rw [fx_eq]; simp (disch:=omega) only [paradigm_Count.st,evs,ev_b,Int.toNat_natCast,↓cpos,↓cpos2,hx,hw,wsucc]
      rw [ih _ (by rw [Nat.pow_succ]; exact Nat.mul_le_mul hn v2)]
      simp only [prod,Nat.mul_assoc]) (s:=1) (by simp)
     simp only [Nat.one_mul] at key
     exact key
def cellS (ds:List aDimension) (n:Int):List aFeature×Bool:=cond (decide (0<=n)&&decide (n<(count ds:Int))) ((cells ds).getD n.toNat default,true) ([],false)
theorem paradigm_Cell_eq {p:aParadigm} (hd:okDims p.fDimensions) (n:Int):paradigm_Cell p n=some (cellS p.fDimensions n):=by
 simp only [paradigm_Cell,paradigm_Cell.go,evs,ev_b,cellS]
 rw [paradigm_Count_eq hd,feature_All_eq hd]
 simp only [Option.bind_some]
 have hc:=count_le p.fDimensions
 by_cases h0:n<0
 ·rw [cpos h0,cneg2 (by omega)]
 ·rw [cneg h0]
  by_cases h1:(count p.fDimensions:Int)<=n
  ·rw [cpos h1,cneg2 (by omega)]
  ·rw [cneg h1,cpos2 (by omega) (by omega)]
   have key:∀ (xs:List (List aFeature)) (i:Nat),(i:Int)<=n->n<i+xs.length->i+xs.length<=4096->fx paradigm_Cell.st (.c1 n xs i)=some (xs.getD (n.toNat - i) default,true):=by
    intro xs
    induction xs with
    | nil=>intro i h2 h3; simp at h3; omega
    | cons x xs ih=>
      intro i h2 h3 h4
      simp only [List.length_cons] at h3 h4
      rw [fx_eq]; simp only [paradigm_Cell.st,evs,lcase]
      by_cases hin:(i:Int)=n
      ·rw [cpos hin]
       have:n.toNat - i=0:=by omega
       rw [this]; rfl
      ·rw [cneg hin,wsucc (by omega),ih (i+1) (by omega) (by omega) (by omega)]
       have:n.toNat - i=n.toNat - (i+1)+1:=by omega
       rw [this]; rfl
   have:=key (cells p.fDimensions) 0 (by omega) (by rw [cells_length]; omega) (by rw [cells_length]; omega)
   simpa [cells] using this
def numD (cell:List aFeature):List aDimension->Int->Option Int
 | [],n=>some n
 | d::ds,n=>match getF cell d.fName with
   | none=>none
   | some v=>cond (decide (fstIdx (fun x=>decide (v=x)) d.fValues 0<0)) none (numD cell ds (n*d.fValues.length+fstIdx (fun x=>decide (v=x)) d.fValues 0))
def numP (ds:List aDimension) (cell:List aFeature):Int:=cond (decide (cell.length=ds.length)&&dimsOk ds) (match numD cell ds 0 with
 | none => -1
 | some n=>cond (isRec cell) n (-1)) (-1)
theorem paradigm_Number_eq {p:aParadigm} (hd:okDims p.fDimensions) {cell:List aFeature} (hc:cell.length<=1048576):paradigm_Number p cell=some (numP p.fDimensions cell):=by
 simp only [paradigm_Number,paradigm_Number.go,evs,ev_b,numP]
 rw [paradigm_Count_eq hd,Option.bind_some]
 by_cases hl:cell.length=p.fDimensions.length
 ·have e:(!decide ((cell.length:Int)=(p.fDimensions.length:Int)))=false:=by simp [hl]
  rw [e,cond_false]
  cases h:dimsOk p.fDimensions with
  | false=>
    have:count p.fDimensions=0:=by simp [count,h]
    rw [this]; simp
  | true=>
    have hg:=dimsOk_good h
    have h4:=hg.four
    have hcp:count p.fDimensions≠0:=by
     have:=prod_pos fun d hd=>(hg.vals d hd).1
     simp [count,h]; omega
    rw [cneg (by omega)]
    simp only [hl,decide_true,Bool.and_self,cond_true]
    have fin:∀ n:Int,fx paradigm_Number.st (.c2 cell n)=some (cond (isRec cell) n (-1)):=by
     intro n
     rw [fx_eq]; simp only [paradigm_Number.st,evs]
     unfold isRec
     cases cell with
     | nil=>
       rw [fx_eq]; simp only [paradigm_Number.st,evs]; rfl
     | cons f r=>
       have key:=uptoFrom (lo:=1) (n:=(f::r).length) (f:=fun i (_:Unit)=>fx paradigm_Number.st (.c3 (f::r) n i)) (g:=fun i _=>some (cond (asc (some ((f::r).getD (i - 1) default)) ((f::r).drop i)) n (-1))) (fun _=>by
        rw [fx_eq]; simp only [paradigm_Number.st,evs,ev_b,↓cneg (Int.lt_irrefl _),List.drop_length,asc,cond_true]) (fun i _ hlo hi ih=>by
        have ih:=ih ()
        obtain ⟨i,rfl⟩:=Nat.exists_eq_succ_of_ne_zero (by omega:i≠0)
        obtain ⟨y,t,e2,g2,e3⟩:=dropCons (xs:=f::r) (i:=i+1) hi
        have w:IntKind.i64.wrap (((i+1:Nat):Int) - 1)=(i:Int):=by rw [wrap64] <;> omega
        simp only [Nat.succ_eq_add_one,Nat.add_sub_cancel,g2,e3] at ih ⊢
        rw [fx_eq]; simp (disch:=omega) only [paradigm_Number.st,evs,ev_b,w,↓cpos,↓cpos2,Int.toNat_natCast,wsucc,ih,e2,g2,asc,cnot]
        cases Op.bytesLess ((f::r).getD i default).fName y.fName <;> rfl) r.length 1 () (by omega) (by simp; omega)
       exact key
    have key:=overJ (xs:=p.fDimensions) (f:=fun i (n:Int)=>fx paradigm_Number.st (.c1 cell p n i)) (g:=fun _ r n=>some (match numD cell r n with
      | none => -1
      | some n=>cond (isRec cell) n (-1))) (I:=fun i n=>0<=n/\n<((8 ^ i:Nat):Int)) (fun n _=>by
     rw [fx_eq]; simp only [paradigm_Number.st,evs,ev_b,↓cneg (Int.lt_irrefl _),numD,fin]) (fun i d r n hi hn hx _ _ ih=>by
     obtain ⟨hn1,hn2⟩:=hn
     obtain ⟨v1,v2⟩:=hg.vals d (by rw [<- hx]; exact getD_mem hi)
     have h8:8 ^ i<=8 ^ 3:=Nat.pow_le_pow_right (by omega) (by omega)
     have h8' : (8:Nat) ^ 3=512:=by decide
     rw [fx_eq]; simp (disch:=omega) only [paradigm_Number.st,evs,ev_b,Int.toNat_natCast,↓cpos,↓cpos2,hx,feature_Get_eq hc,slices_Index_eq,Option.bind_some,wsucc,cnot,numD]
     cases hgf:getF cell d.fName with
     | none=>rfl
     | some v=>
       simp only [Option.getD_some,Option.isSome_some,cond_true]
       have hlt:=fstIdx_lt (fun x=>decide (v=x)) d.fValues
       by_cases hk:fstIdx (fun x=>decide (v=x)) d.fValues 0<0
       ·rw [cpos hk,cpos hk]
       ·rw [cneg hk,cneg hk]
        have hnl:n*(d.fValues.length:Int)<=512*8:=Int.mul_le_mul (by omega) (by omega) (by omega) (by omega)
        have hnl0:0<=n*(d.fValues.length:Int):=Int.mul_nonneg hn1 (by omega)
        have hpow:n*(d.fValues.length:Int)+(d.fValues.length:Int)<=((8 ^ (i+1):Nat):Int):=by
         have e1:(n+1)*(d.fValues.length:Int)<=((8 ^ i:Nat):Int)*8:=Int.mul_le_mul (by omega) (by omega) (by omega) (by omega)
         have e2:(n+1)*(d.fValues.length:Int)=n*(d.fValues.length:Int)+d.fValues.length:=by rw [Int.add_mul,Int.one_mul]
         have e3:((8 ^ (i+1):Nat):Int)=((8 ^ i:Nat):Int)*8:=by rw [Nat.pow_succ]; simp
         omega
        rw [wrap64 (n:=n*(d.fValues.length:Int)) (by omega) (by omega),wrap64 (by omega) (by omega)]
        exact ih _ ⟨by omega,by omega⟩) (s:=0) ⟨by omega,by simp⟩
    exact key
 ·have e:(!decide ((cell.length:Int)=(p.fDimensions.length:Int)))=true:=by simp; omega
  rw [e,cond_true]
  simp [hl]
def numR (ds:List aDimension) (cell:List aFeature):Int:=fstIdx (fun c=>decide (c=cell)) (cells ds) 0
theorem choices_mem_length {ds:List aDimension} {c:List aFeature} (h:c ∈ choices ds):c.length=ds.length:=by
 have:=congrArg List.length (choices_names h)
 simpa using this
theorem rec_length (c:List aFeature):(rec c).length=c.length:=by
 have key:∀ (c acc:List aFeature),(c.foldl put acc).length=acc.length+c.length:=by
  intro c
  induction c with
  | nil=>intro acc; rfl
  | cons x c ih=>intro acc; rw [List.foldl_cons,ih,put_length]; simp; omega
 unfold rec
 rw [key]; simp
theorem cells_mem {ds:List aDimension} {c:List aFeature} (h:c ∈ cells ds):Asc c/\c.length=ds.length/\c.length<=4:=by
 unfold cells at h
 cases hd:dimsOk ds with
 | false=>rw [hd] at h; cases h
 | true=>
   rw [hd] at h
   have hg:=dimsOk_good hd
   simp only [cond_true,allF,List.mem_map] at h
   obtain ⟨c',hc',rfl⟩:=h
   refine ⟨rec_asc (distinct_of_names (choices_names hc') hg.names),by rw [rec_length,choices_mem_length hc'],by rw [rec_length,choices_mem_length hc']; exact hg.four⟩
end Go.Ai.Mor

namespace Go.Ai.Mor
open Go Go.Ai
theorem fstIdx_append {α:Type} (p:α->Bool):∀ (xs ys:List α) (i:Nat),fstIdx p (xs++ys) i=cond (xs.any p) (fstIdx p xs i) (fstIdx p ys (i+xs.length))
 | [],ys,i=>rfl
 | x::xs,ys,i=>by
   simp only [List.cons_append,fstIdx,List.any_cons,fstIdx_append p xs ys (i+1),List.length_cons]
   cases p x with
   | true=>rfl
   | false=>
     simp only [cond_false,Bool.false_or]
     rw [show i+1+xs.length=i+(xs.length+1) by omega]
theorem fstIdx_map {α β:Type} (p:β->Bool) (f:α->β):∀ (xs:List α) (i:Nat),fstIdx p (xs.map f) i=fstIdx (fun x=>p (f x)) xs i
 | [],_=>rfl
 | x::xs,i=>by simp only [List.map_cons,fstIdx,fstIdx_map p f xs]
theorem fstIdx_congr {α:Type} {p q:α->Bool} : ∀ {xs:List α} (i:Nat),(∀ x ∈ xs,p x=q x)->fstIdx p xs i=fstIdx q xs i
 | [],_,_=>rfl
 | x::xs,i,h=>by simp only [fstIdx,h x (by simp),fstIdx_congr (i+1) fun y hy=>h y (List.mem_cons_of_mem _ hy)]
theorem fstIdx_none {α:Type} {p:α->Bool} : ∀ {xs:List α} (i:Nat),(∀ x ∈ xs,p x=false)->fstIdx p xs i = -1
 | [],_,_=>rfl
 | x::xs,i,h=>by simp only [fstIdx,h x (by simp),cond_false,fstIdx_none (i+1) fun y hy=>h y (List.mem_cons_of_mem _ hy)]
theorem fstIdx_shift {α:Type} (p:α->Bool) (xs:List α) (i:Nat):fstIdx p xs i=cond (xs.any p) (fstIdx p xs 0+i) (-1):=by
 rcases fstIdx_cases p xs i with ⟨h1,h2⟩ | ⟨j,h,h1,h2,h3,h4⟩
 ·rw [h1,h2]; rfl
 ·rcases fstIdx_cases p xs 0 with ⟨g1,g2⟩ | ⟨j',g,g1,g2,g3,g4⟩
  ·rw [g1] at h4; cases h4
  ·rw [h4,h3,g3]
   have:j=j' := by
    rcases Nat.lt_trichotomy j j' with h' | h' | h'
    ·have:=g2 j h'; rw [h1] at this; cases this
    ·exact h'
    ·have:=h2 j' h'; rw [g1] at this; cases this
   subst this
   simp only [cond_true]
   omega
theorem fstIdx_flat {n v:List UInt8} {rest:List aFeature} {L:List (List aFeature)} : ∀ (vals:List (List UInt8)) (i:Nat),
  fstIdx (fun c=>decide (c=⟨n,v⟩::rest)) (vals.flatMap fun v' => L.map (⟨n,v'⟩ :: ·)) i=cond ((vals.any fun x=>decide (v=x))&&(L.any fun c=>decide (c=rest))) (i+fstIdx (fun x=>decide (v=x)) vals 0*L.length+fstIdx (fun c=>decide (c=rest)) L 0) (-1)
 | [],i=>rfl
 | v' :: vals,i=>by
   simp only [List.flatMap_cons]
   rw [fstIdx_append,fstIdx_map,fstIdx_flat vals]
   have hany:(L.map (⟨n,v'⟩ :: ·)).any (fun c=>decide (c=⟨n,v⟩::rest))=(decide (v=v')&&L.any fun c=>decide (c=rest)):=by
    rw [List.any_map]
    by_cases h:v=v'
    ·subst h; simp only [decide_true,Bool.true_and]; congr 1; funext c; simp
    ·simp only [h,decide_false,Bool.false_and]
     rw [List.any_eq_false]
     intro c _
     simp only [Function.comp_apply,List.cons.injEq,aFeature.mk.injEq,decide_eq_true_eq]
     intro h'
     exact h h'.1.2.symm
   rw [hany]
   simp only [List.any_cons,fstIdx,List.length_map]
   by_cases h:v=v'
   ·subst h
    simp only [decide_true,Bool.true_and,Bool.true_or,cond_true]
    cases hL:L.any (fun c=>decide (c=rest)) with
    | false=>
      simp
    | true=>
      simp only [cond_true,Bool.true_and]
      have:fstIdx (fun x=>decide ((⟨n,v⟩::x:List aFeature)=⟨n,v⟩::rest)) L i=fstIdx (fun c=>decide (c=rest)) L i:=fstIdx_congr i fun c _=>by simp
      rw [this,fstIdx_shift,hL]
      simp only [cond_true]
      omega
   ·simp only [h,decide_false,Bool.false_and,Bool.false_or,cond_false]
    cases hv:vals.any (fun x=>decide (v=x)) with
    | false=>simp
    | true=>
      cases hL:L.any (fun c=>decide (c=rest)) with
      | false=>simp
      | true=>
        simp only [Bool.true_and,cond_true]
        have:=fstIdx_shift (fun x=>decide (v=x)) vals 1
        rw [hv,cond_true] at this
        rw [show (0:Nat)+1=1 from rfl,this,Int.add_mul]
        simp
        omega
def pick (cell:List aFeature) (ds:List aDimension):List aFeature:=ds.map fun d=>⟨d.fName,(getF cell d.fName).getD []⟩
def fits (cell:List aFeature) (ds:List aDimension):Bool:=ds.all fun d=>(getF cell d.fName).isSome&&d.fValues.any fun x=>decide ((getF cell d.fName).getD []=x)
theorem numD_eq {cell:List aFeature} : ∀ (ds:List aDimension) (n:Int),numD cell ds n=cond (fits cell ds) (some (n*(prod ds:Int)+fstIdx (fun c=>decide (c=pick cell ds)) (choices ds) 0)) none
 | [],n=>by simp [numD,fits,prod,choices,pick,fstIdx]
 | d::ds,n=>by
   have hany:(choices ds).any (fun c=>decide (c=pick cell ds))=true\/fits cell ds=false:=by
    have key:∀ ds:List aDimension,fits cell ds=true->pick cell ds ∈ choices ds:=by
     intro ds
     induction ds with
     | nil=>intro _; simp [pick,choices]
     | cons d ds ih=>
       intro h
       simp only [fits,List.all_cons,Bool.and_eq_true] at h
       simp only [pick,List.map_cons,choices,List.mem_flatMap,List.mem_map]
       obtain ⟨x,hx,e⟩:=List.any_eq_true.1 h.1.2
       have e:=of_decide_eq_true e
       exact ⟨x,hx,pick cell ds,ih h.2,by rw [e]; rfl⟩
    cases h:fits cell ds with
    | false=>exact .inr rfl
    | true=>exact .inl (List.any_eq_true.2 ⟨_,key ds h,by simp⟩)
   simp only [numD,fits,List.all_cons]
   cases hg:getF cell d.fName with
   | none=>rfl
   | some v=>
     simp only [Option.isSome_some,Option.getD_some,Bool.true_and]
     have hn:=fstIdx_nonneg (fun x=>decide (v=x)) d.fValues 0
     cases hv:d.fValues.any (fun x=>decide (v=x)) with
     | false=>
       rw [hv] at hn
       have:fstIdx (fun x=>decide (v=x)) d.fValues 0<0:=by have:=of_decide_eq_false hn; omega
       rw [cpos this]; rfl
     | true=>
       rw [hv] at hn
       have : ¬ fstIdx (fun x=>decide (v=x)) d.fValues 0<0:=by have:=of_decide_eq_true hn; omega
       rw [cneg this,numD_eq ds]
       simp only [Bool.true_and]
       show cond (fits cell ds) _ _=cond (fits cell ds) _ _
       rcases hany with hany | hf
       ·cases hf:fits cell ds with
        | false=>rfl
        | true=>
          have hp:pick cell (d::ds)=⟨d.fName,v⟩::pick cell ds:=by simp [pick,hg]
          simp only [cond_true,hp,choices]
          rw [fstIdx_flat,hv,hany]
          simp only [Bool.true_and,cond_true,choices_length,prod]
          congr 1
          rw [Int.add_mul,Int.mul_assoc]
          simp
          omega
       ·rw [hf]; rfl
theorem getF_mem {r:List aFeature} {n v:List UInt8} (h:getF r n=some v):(⟨n,v⟩:aFeature) ∈ r:=by
 induction r with
 | nil=>cases h
 | cons f r ih=>
   simp only [getF] at h
   by_cases hn:f.fName=n
   ·rw [if_pos hn] at h
    cases h; subst hn
    simp
   ·rw [if_neg hn] at h
    exact List.mem_cons_of_mem _ (ih h)
theorem getF_of_mem {r:List aFeature} (hd:Distinct r) {f:aFeature} (h:f ∈ r):getF r f.fName=some f.fValue:=by
 induction r with
 | nil=>cases h
 | cons e r ih=>
   obtain ⟨h1,h2⟩:=List.pairwise_cons.1 hd
   simp only [getF]
   rcases List.mem_cons.1 h with rfl | h
   ·rw [if_pos rfl]
   ·rw [if_neg (h1 f h)]
    exact ih h2 h
theorem asc_distinct {r:List aFeature} (h:Asc r):Distinct r:=h.imp fun h=>bl_ne h
theorem asc_sub:∀ {b a:List aFeature},Asc a->Asc b->(∀ x ∈ a,x ∈ b)->a.Sublist b
 | [],a,_,_,h=>by
   cases a with
   | nil=>exact List.Sublist.slnil
   | cons x a=>have:=h x (by simp); cases this
 | y::b,[],_,_,_=>List.nil_sublist _
 | y::b,x::a,ha,hb,h=>by
   obtain ⟨ha1,ha2⟩:=List.pairwise_cons.1 ha
   obtain ⟨hb1,hb2⟩:=List.pairwise_cons.1 hb
   have later:∀ z ∈ a,z ∈ b:=fun z hz=>by
    rcases List.mem_cons.1 (h z (List.mem_cons_of_mem _ hz)) with rfl | hz'
    ·exfalso
     have h1:=ha1 z hz
     rcases List.mem_cons.1 (h x (by simp)) with rfl | hx
     ·unfold ltB at h1; rw [bl_irrefl] at h1; cases h1
     ·have h2:=hb1 x hx
      have:=bl_trans h1 h2
      rw [bl_irrefl] at this; cases this
    ·exact hz'
   rcases List.mem_cons.1 (h x (by simp)) with rfl | hx
   ·exact List.Sublist.cons_cons _ (asc_sub ha2 hb2 later)
   ·refine List.Sublist.cons _ (asc_sub ha hb2 fun z hz => ?_)
    rcases List.mem_cons.1 hz with rfl | hz
    ·exact hx
    ·exact later z hz
theorem asc_eq {a b:List aFeature} (ha:Asc a) (hb:Asc b) (h:∀ x ∈ a,x ∈ b) (hl:a.length=b.length):a=b:=(asc_sub ha hb h).eq_of_length hl
theorem pick_of {cell:List aFeature} (hc:Distinct cell):∀ {ds:List aDimension} {c:List aFeature},c ∈ choices ds->(∀ f ∈ c,f ∈ cell)->pick cell ds=c/\fits cell ds=true
 | [],c,h,_=>by simp [choices] at h; subst h; exact ⟨rfl,rfl⟩
 | d::ds,c,h,hm=>by
   simp only [choices,List.mem_flatMap,List.mem_map] at h
   obtain ⟨v,hv,c',hc',rfl⟩:=h
   obtain ⟨h1,h2⟩:=pick_of hc hc' fun f hf=>hm f (List.mem_cons_of_mem _ hf)
   have hg:getF cell d.fName=some v:=getF_of_mem hc (hm ⟨d.fName,v⟩ (by simp))
   refine ⟨?_,?_⟩
   ·simp only [pick,List.map_cons,hg,Option.getD_some]
    rw [<- h1]; rfl
   ·simp only [fits,List.all_cons,hg,Option.isSome_some,Option.getD_some,Bool.true_and,Bool.and_eq_true]
    exact ⟨List.any_eq_true.2 ⟨v,hv,by simp⟩,h2⟩
theorem pick_mem {cell:List aFeature} : ∀ {ds:List aDimension},fits cell ds=true -> ∀ f ∈ pick cell ds,f ∈ cell
 | [],_,f,h=>by cases h
 | d::ds,hf,f,h=>by
   simp only [fits,List.all_cons,Bool.and_eq_true] at hf
   simp only [pick,List.map_cons,List.mem_cons] at h
   rcases h with rfl | h
   ·cases hg:getF cell d.fName with
    | none=>rw [hg] at hf; simp at hf
    | some v=>exact getF_mem hg
   ·exact pick_mem hf.2 f h
theorem pick_names (cell:List aFeature) (ds:List aDimension):(pick cell ds).map (·.fName)=ds.map (·.fName):=by simp [pick]
theorem numP_numR (ds:List aDimension) (cell:List aFeature):numP ds cell=numR ds cell:=by
 unfold numP numR cells
 cases hd:dimsOk ds with
 | false=>simp [fstIdx]
 | true=>
   have hg:=dimsOk_good hd
   simp only [Bool.and_true,cond_true,allF]
   rw [fstIdx_map]
   by_cases hall:cell.length=ds.length/\isRec cell=true/\fits cell ds=true
   ·obtain ⟨h1,h2,h3⟩:=hall
    have ha:=isRec_iff.1 h2
    rw [cpos h1,numD_eq,h3]
    simp only [cond_true,h2,Int.zero_mul,Int.zero_add]
    refine fstIdx_congr 0 fun c hc => ?_
    rw [Bool.eq_iff_iff]
    simp only [decide_eq_true_eq]
    have hdc:=distinct_of_names (choices_names hc) hg.names
    constructor
    ·rintro rfl
     have hdp:=distinct_of_names (pick_names cell ds) hg.names
     refine asc_eq (rec_asc hdp) ha (fun x hx=>pick_mem h3 x (rec_mem.1 hx)) ?_
     rw [rec_length]; simp [pick,h1]
    ·intro e
     exact (pick_of (asc_distinct ha) hc fun f hf=>by rw [<- e]; exact rec_mem.2 hf).1.symm
   ·have hnone:fstIdx (fun x=>decide (rec x=cell)) (choices ds) 0 = -1:=by
     refine fstIdx_none 0 fun c hc => ?_
     simp only [decide_eq_false_iff_not]
     intro e
     have hdc:=distinct_of_names (choices_names hc) hg.names
     apply hall
     have ha:Asc cell:=by rw [<- e]; exact rec_asc hdc
     refine ⟨by rw [<- e,rec_length,choices_mem_length hc],isRec_iff.2 ha,(pick_of (asc_distinct ha) hc fun f hf=>by rw [<- e]; exact rec_mem.2 hf).2⟩
    rw [hnone]
    by_cases h1:cell.length=ds.length
    ·rw [cpos h1,numD_eq]
     cases hf:fits cell ds with
     | false=>rfl
     | true=>
       simp only [cond_true]
       cases hr:isRec cell with
       | false=>rfl
       | true=>exact absurd ⟨h1,hr,hf⟩ hall
    ·rw [cneg h1]
theorem num_cells {ds:List aDimension} {cell:List aFeature} (h:0<=numR ds cell):Asc cell/\cell.length=ds.length/\cell.length<=4/\cell ∈ cells ds:=by
 unfold numR at h
 rcases fstIdx_cases (fun c=>decide (c=cell)) (cells ds) 0 with ⟨h1,h2⟩ | ⟨j,hj,h1,h2,h3,h4⟩
 ·omega
 ·have e:=of_decide_eq_true h1
  have hm:cell ∈ cells ds:=by rw [<- e]; exact List.getElem_mem _
  obtain ⟨a,b,c⟩:=cells_mem hm
  exact ⟨a,b,c,hm⟩
end Go.Ai.Mor

set_option maxRecDepth 100000
noncomputable section
namespace Go.Ai.Mor
open Go Go.Ai Go.Proofs
namespace paradigm_Merge
inductive Pt
def D:FD pd := {f:=100,fn:=Tryz.f100,q:=22,ps:=[(.st .aParadigm),(.sl (.st .aFeature)),(.sl (.st .aFeature))],rs:=[(.sl (.st .aFeature)),.bool],ex:=[some 78,none],cs:=[paradigm_Number.con,feature_Valid.con,feature_Unify.con]}
def go:(aParadigm×(List aFeature)×(List aFeature))->Tr Pt ((List aFeature)×Bool)
 | (h,d,e)=>
  .b (paradigm_Number h d) fun j=>
  .c (decide (j<0))
  (.r ([],false))
  (.b (feature_Valid e) fun k=>
   .c (!k)
   (.r ([],false))
   (.b (feature_Unify d e) fun i=>
    .r (i.1,i.2)))
def st:Pt->Tr Pt ((List aFeature)×Bool):=nofun
def pt:Pt->List Dir×St E:=nofun
theorem g:D.G st pt:=fun Z a=>by cases a <;> kernel_rfl
theorem g0:D.G0 go pt:=fun Z ⟨_,_,_⟩=>by kernel_rfl
abbrev con:Con Tryz.prog E:=FD.con Tryz.func100 (by kernel_rfl) g g0
end paradigm_Merge
def paradigm_Merge (h:aParadigm) (d e:List aFeature):Option ((List aFeature)×Bool):=ev (paradigm_Merge.go (h,d,e)) (fx paradigm_Merge.st)
end Go.Ai.Mor
end

set_option maxRecDepth 100000
noncomputable section
namespace Go.Ai.Mor
open Go Go.Ai Go.Proofs
namespace r10_Merge
inductive Pt
def D:FD pd := {f:=74,fn:=Tryz.f74,q:=22,ps:=[(.st .aParadigm),(.sl (.st .aFeature)),(.sl (.st .aFeature))],rs:=[(.sl (.st .aFeature)),.bool],ex:=[some 78,none],cs:=[r02_Valid.con,r10_Number.con,r02_Unify.con]}
def go:(aParadigm×(List aFeature)×(List aFeature))->Tr Pt ((List aFeature)×Bool)
 | (h,d,e)=>
  .b (r10_Number h d) fun j=>
  .c (decide (j<0))
  (.r ([],false))
  (.b (r02_Valid e) fun k=>
   .c (!k)
   (.r ([],false))
   (.b (r02_Unify d e) fun i=>
    .r (i.1,i.2)))
def st:Pt->Tr Pt ((List aFeature)×Bool):=nofun
def pt:Pt->List Dir×St E:=nofun
theorem g:D.G st pt:=fun Z a=>by cases a <;> kernel_rfl
theorem g0:D.G0 go pt:=fun Z ⟨_,_,_⟩=>by kernel_rfl
abbrev con:Con Tryz.prog E:=FD.con Tryz.func74 (by kernel_rfl) g g0
end r10_Merge
def r10_Merge (h:aParadigm) (d e:List aFeature):Option ((List aFeature)×Bool):=ev (r10_Merge.go (h,d,e)) (fx r10_Merge.st)
end Go.Ai.Mor
end

set_option maxRecDepth 100000
noncomputable section
namespace Go.Ai.Mor
open Go Go.Ai Go.Proofs
namespace unicode_utf8_RuneCountInString
inductive Pt
 | c1 (b:List UInt8) (e:Int) (d:Nat)
def D:FD pd := {f:=102,fn:=Tryz.f102,q:=10,pl:=pls 7 [(2,kp [2,4] [(4,0)])],ps:=[.str],rs:=[(.int .i64)],ex:=[none]}
def go:((List UInt8))->Tr Pt (Int)
 | b=>
  .j (.c1 b 0 0)
def st:Pt->Tr Pt (Int)
 | .c1 b e d=>
  .c (decide (d<b.length))
  (.j (.c1 b (IntKind.i64.wrap (e+1)) (d+(dec b d).2)))
  (.r e)
def pt:Pt->List Dir×St E
 | .c1 b e d=>([.r,.l,.r,.k],ms 10 10 [(2,hI e),(4,hP 4)] [(4,.iter b d)])
theorem g:D.G st pt:=fun Z a=>by cases a <;> kernel_rfl
theorem g0:D.G0 go pt:=fun Z _=>by kernel_rfl
abbrev con:Con Tryz.prog E:=FD.con Tryz.func102 (by kernel_rfl) g g0
end unicode_utf8_RuneCountInString
def unicode_utf8_RuneCountInString (b:List UInt8):Option (Int):=ev (unicode_utf8_RuneCountInString.go b) (fx unicode_utf8_RuneCountInString.st)
end Go.Ai.Mor
end

set_option maxRecDepth 100000
noncomputable section
namespace Go.Ai.Mor
open Go Go.Ai Go.Proofs
namespace paradigm_Underlying
inductive Pt
 | c2 (o:List UInt8)
 | c1 (d:aParadigm) (h:(List aFeature)×Bool) (i:List UInt8) (e:Int)
def D:FD pd := {f:=68,fn:=Tryz.f68,q:=58,pl:=pls 20 [(7,kp [4,12,28,29] [(4,3)] [] [(10,.own (100010,0,78) (.st .aFeature))]),(15,kp [12])],ps:=[(.st .aParadigm),.str,(.sl (.st .aFeature)),(.sl (.st .aFeature))],rs:=[.str,(.int .i64)],ex:=[none,none],cs:=[paradigm_Merge.con,paradigm_Chosen.con,unicode_utf8_RuneCountInString.con]}
def go:(aParadigm×(List UInt8)×(List aFeature)×(List aFeature))->Tr Pt ((List UInt8)×Int)
 | (d,t,s,p)=>
  .b (paradigm_Merge d p s) fun h=>
  .c (!h.2)
  (.r ([],1))
  (.j (.c1 d h t 0))
def st:Pt->Tr Pt ((List UInt8)×Int)
 | .c2 o=>
  .b (unicode_utf8_RuneCountInString o) fun u=>
  .c (decide (40<u))
  (.r ([],2))
  (.r (o,0))
 | .c1 d h i e=>
  .c (decide (e<(d.fSlots.length:Int)))
  (.b (paradigm_Chosen d e h.1) fun m=>
   .c (decide (0<=m))
   (.c (decide (0<=e)&&decide (e<(d.fSlots.length:Int)))
    (.c (decide (0<=m)&&decide (m<((d.fSlots.getD e.toNat default).length:Int)))
     (.c (decide ((((d.fSlots.getD e.toNat default).getD m.toNat default).fPrefix).length+i.length<=1125899906842624))
      (.c (decide (((((d.fSlots.getD e.toNat default).getD m.toNat default).fPrefix)++i).length+(((d.fSlots.getD e.toNat default).getD m.toNat default).fSuffix).length<=1125899906842624))
       (.j (.c1 d h (((((d.fSlots.getD e.toNat default).getD m.toNat default).fPrefix)++i)++(((d.fSlots.getD e.toNat default).getD m.toNat default).fSuffix)) (IntKind.i64.wrap (e+1)))) .n) .n) .n) .n)
   (.j (.c1 d h i (IntKind.i64.wrap (e+1)))))
  (.j (.c2 i))
def pt:Pt->List Dir×St E
 | .c2 o=>([.r,.r,.r,.r],ms 58 58 [(12,hS o)])
 | .c1 d h i e=>([.r,.r,.r,.r,.l,.r,.k],ms 58 58 [(4,hP 4),(10,hT 100010 78 (.st .aFeature) h.1),(12,hS i),(28,hI (d.fSlots.length:Int)),(29,hI e)] [(4,.cells [cS d.fName,cL (.st .aDimension) d.fDimensions,cL (.sl (.st .aAffix)) d.fSlots])])
theorem g:D.G st pt:=fun Z a=>by cases a <;> kernel_rfl
theorem g0:D.G0 go pt:=fun Z ⟨_,_,_,_⟩=>by kernel_rfl
abbrev con:Con Tryz.prog E:=FD.con Tryz.func68 (by kernel_rfl) g g0
end paradigm_Underlying
def paradigm_Underlying (d:aParadigm) (t:List UInt8) (s p:List aFeature):Option ((List UInt8)×Int):=ev (paradigm_Underlying.go (d,t,s,p)) (fx paradigm_Underlying.st)
end Go.Ai.Mor
end

set_option maxRecDepth 100000
noncomputable section
namespace Go.Ai.Mor
open Go Go.Ai Go.Proofs
namespace r10_Runes
inductive Pt
 | c1 (b:List UInt8) (e:Int) (d:Nat)
def D:FD pd := {f:=76,fn:=Tryz.f76,q:=11,pl:=pls 8 [(3,kp [3,5] [(5,0)])],ps:=[.str],rs:=[(.int .i64)],ex:=[none]}
def go:((List UInt8))->Tr Pt (Int)
 | b=>
  .j (.c1 b 0 0)
def st:Pt->Tr Pt (Int)
 | .c1 b e d=>
  .c (decide (d<b.length))
  (.j (.c1 b (IntKind.i64.wrap (e+1)) (d+(dec b d).2)))
  (.r e)
def pt:Pt->List Dir×St E
 | .c1 b e d=>([.r,.r,.l,.r,.k],ms 11 11 [(3,hI e),(5,hP 5)] [(5,.iter b d)])
theorem g:D.G st pt:=fun Z a=>by cases a <;> kernel_rfl
theorem g0:D.G0 go pt:=fun Z _=>by kernel_rfl
abbrev con:Con Tryz.prog E:=FD.con Tryz.func76 (by kernel_rfl) g g0
end r10_Runes
def r10_Runes (b:List UInt8):Option (Int):=ev (r10_Runes.go b) (fx r10_Runes.st)
end Go.Ai.Mor
end

set_option maxRecDepth 100000
noncomputable section
namespace Go.Ai.Mor
open Go Go.Ai Go.Proofs
namespace r10_Underlying
inductive Pt
 | c2 (o:List UInt8)
 | c1 (d:aParadigm) (i:(List aFeature)×Bool) (m:List UInt8) (e:Int)
def D:FD pd := {f:=48,fn:=Tryz.f48,q:=61,pl:=pls 17 [(6,kp [1,4,12] [(4,3)] [] [(10,.own (100010,0,78) (.st .aFeature))]),(12,kp [1])],ps:=[(.st .aParadigm),.str,(.sl (.st .aFeature)),(.sl (.st .aFeature))],rs:=[.str,(.int .i64)],ex:=[none,none],cs:=[r10_Merge.con,r10_Chosen.con,r10_Runes.con]}
def go:(aParadigm×(List UInt8)×(List aFeature)×(List aFeature))->Tr Pt ((List UInt8)×Int)
 | (d,t,s,p)=>
  .b (r10_Merge d p s) fun i=>
  .c (!i.2)
  (.r ([],1))
  (.j (.c1 d i t 0))
def st:Pt->Tr Pt ((List UInt8)×Int)
 | .c2 o=>
  .b (r10_Runes o) fun u=>
  .c (decide (40<u))
  (.r ([],2))
  (.r (o,0))
 | .c1 d i m e=>
  .c (decide (e<(d.fSlots.length:Int)))
  (.b (r10_Chosen d e i.1) fun h=>
   .c (decide (0<=h))
   (.c (decide (0<=e)&&decide (e<(d.fSlots.length:Int)))
    (.c (decide (0<=h)&&decide (h<((d.fSlots.getD e.toNat default).length:Int)))
     (.c (decide ((((d.fSlots.getD e.toNat default).getD h.toNat default).fPrefix).length+m.length<=1125899906842624))
      (.c (decide (0<=e)&&decide (e<(d.fSlots.length:Int)))
       (.c (decide (0<=h)&&decide (h<((d.fSlots.getD e.toNat default).length:Int)))
        (.c (decide (((((d.fSlots.getD e.toNat default).getD h.toNat default).fPrefix)++m).length+(((d.fSlots.getD e.toNat default).getD h.toNat default).fSuffix).length<=1125899906842624))
         (.j (.c1 d i (((((d.fSlots.getD e.toNat default).getD h.toNat default).fPrefix)++m)++(((d.fSlots.getD e.toNat default).getD h.toNat default).fSuffix)) (IntKind.i64.wrap (e+1)))) .n) .n) .n) .n) .n) .n)
   (.j (.c1 d i m (IntKind.i64.wrap (e+1)))))
  (.j (.c2 m))
def pt:Pt->List Dir×St E
 | .c2 o=>([.r,.r,.r],ms 61 61 [(1,hS o)])
 | .c1 d i m e=>([.r,.r,.r,.l,.r,.k],ms 61 61 [(1,hS m),(4,hP 4),(10,hT 100010 78 (.st .aFeature) i.1),(12,hI e)] [(4,.cells [cS d.fName,cL (.st .aDimension) d.fDimensions,cL (.sl (.st .aAffix)) d.fSlots])])
theorem g:D.G st pt:=fun Z a=>by cases a <;> kernel_rfl
theorem g0:D.G0 go pt:=fun Z ⟨_,_,_,_⟩=>by kernel_rfl
abbrev con:Con Tryz.prog E:=FD.con Tryz.func48 (by kernel_rfl) g g0
end r10_Underlying
def r10_Underlying (d:aParadigm) (t:List UInt8) (s p:List aFeature):Option ((List UInt8)×Int):=ev (r10_Underlying.go (d,t,s,p)) (fx r10_Underlying.st)
end Go.Ai.Mor
end

namespace Go.Ai.Mor
open Go Go.Ai
theorem unify_asc:∀ {n:Nat} {a b r:List aFeature},Asc a->Asc b->unify n a b=some r->(∀ f ∈ r,f ∈ a\/f ∈ b)/\Asc r/\r.length<=a.length+b.length
 | 0,_,_,_,_,_,h=>by cases h
 | n+1,[],b,r,_,hb,h=>by
   simp only [unify,Option.some.injEq] at h
   subst h
   exact ⟨fun f hf => .inr hf,hb,by simp⟩
 | n+1,x::a,[],r,ha,_,h=>by
   simp only [unify,Option.some.injEq] at h
   subst h
   exact ⟨fun f hf => .inl hf,ha,by simp⟩
 | n+1,x::a,y::b,r,ha,hb,h=>by
   obtain ⟨ha1,ha2⟩:=List.pairwise_cons.1 ha
   obtain ⟨hb1,hb2⟩:=List.pairwise_cons.1 hb
   simp only [unify] at h
   cases hxy:ltB x y with
   | true=>
     rw [hxy,cond_true,Option.map_eq_some_iff] at h
     obtain ⟨r',hr,rfl⟩:=h
     obtain ⟨h1,h2,h3⟩:=unify_asc ha2 hb hr
     refine ⟨fun f hf => ?_,List.pairwise_cons.2 ⟨fun f hf => ?_,h2⟩,by simp at h3 ⊢; omega⟩
     ·rcases List.mem_cons.1 hf with rfl | hf
      ·exact .inl (by simp)
      ·rcases h1 f hf with h | h
       ·exact .inl (List.mem_cons_of_mem _ h)
       ·exact .inr h
     ·rcases h1 f hf with h | h
      ·exact ha1 f h
      ·rcases List.mem_cons.1 h with rfl | h
       ·exact hxy
       ·exact bl_trans hxy (hb1 f h)
   | false=>
     rw [hxy,cond_false] at h
     cases hyx:ltB y x with
     | true=>
       rw [hyx,cond_true,Option.map_eq_some_iff] at h
       obtain ⟨r',hr,rfl⟩:=h
       obtain ⟨h1,h2,h3⟩:=unify_asc ha hb2 hr
       refine ⟨fun f hf => ?_,List.pairwise_cons.2 ⟨fun f hf => ?_,h2⟩,by simp at h3 ⊢; omega⟩
       ·rcases List.mem_cons.1 hf with rfl | hf
        ·exact .inr (by simp)
        ·rcases h1 f hf with h | h
         ·exact .inl h
         ·exact .inr (List.mem_cons_of_mem _ h)
       ·rcases h1 f hf with h | h
        ·rcases List.mem_cons.1 h with rfl | h
         ·exact hyx
         ·exact bl_trans hyx (ha1 f h)
        ·exact hb1 f h
     | false=>
       rw [hyx,cond_false] at h
       by_cases hv:x.fValue=y.fValue
       ·rw [cpos hv,Option.map_eq_some_iff] at h
        obtain ⟨r',hr,rfl⟩:=h
        obtain ⟨h1,h2,h3⟩:=unify_asc ha2 hb2 hr
        have hn:x.fName=y.fName:=bl_tri hxy hyx
        refine ⟨fun f hf => ?_,List.pairwise_cons.2 ⟨fun f hf => ?_,h2⟩,by simp at h3 ⊢; omega⟩
        ·rcases List.mem_cons.1 hf with rfl | hf
         ·exact .inl (by simp)
         ·rcases h1 f hf with h | h
          ·exact .inl (List.mem_cons_of_mem _ h)
          ·exact .inr (List.mem_cons_of_mem _ h)
        ·rcases h1 f hf with h | h
         ·exact ha1 f h
         ·unfold ltB; rw [hn]; exact hb1 f h
       ·rw [cneg hv] at h; cases h
def mergeS (ds:List aDimension) (cell inh:List aFeature):Option (List aFeature):=cond (decide (0<=numR ds cell)&&isValid inh) (refU cell inh) none
theorem valid_asc {r:List aFeature} (h:isValid r=true):Asc r/\r.length<=8:=by
 simp only [isValid,Bool.and_eq_true,decide_eq_true_eq] at h
 exact ⟨isRec_iff.1 h.1.2,h.2⟩
theorem paradigm_Merge_eq {p:aParadigm} (hd:okDims p.fDimensions) {cell inh:List aFeature} (hc:cell.length<=1048576) (hi:okR inh):paradigm_Merge p cell inh=some (pairOf (mergeS p.fDimensions cell inh)):=by
 simp only [paradigm_Merge,paradigm_Merge.go,evs,ev_b,paradigm_Number_eq hd hc,Option.bind_some,mergeS,numP_numR]
 by_cases h:0<=numR p.fDimensions cell
 ·obtain ⟨h1,h2,h3,_⟩:=num_cells h
  rw [cneg (by omega),feature_Valid_eq hi]
  simp only [Option.bind_some,h,decide_true,Bool.true_and]
  cases hv:isValid inh with
  | false=>rfl
  | true=>
    obtain ⟨g1,g2⟩:=valid_asc hv
    simp only [Bool.not_true,cond_false,cond_true]
    rw [feature_Unify_eq (by omega),unify_ref _ cell inh h1 g1 (by omega)]
    rfl
 ·rw [cpos (by omega)]; simp [h,pairOf]
theorem merge_asc {ds:List aDimension} {cell inh m:List aFeature} (h:mergeS ds cell inh=some m):Asc m/\m.length<=12:=by
 unfold mergeS at h
 by_cases h0:0<=numR ds cell
 ·cases hv:isValid inh with
  | false=>rw [hv] at h; simp at h
  | true=>
    obtain ⟨h1,h2,h3,_⟩:=num_cells h0
    obtain ⟨g1,g2⟩:=valid_asc hv
    rw [hv] at h
    simp only [h0,decide_true,Bool.and_self,cond_true] at h
    rw [<- unify_ref (cell.length+inh.length+1) cell inh h1 g1 (by omega)] at h
    obtain ⟨_,h4,h5⟩:=unify_asc h1 g1 h
    exact ⟨h4,by omega⟩
 ·simp [h0] at h
def okAffix (x:aAffix):Prop:=okR x.fWhen/\x.fWhen.length<1048576/\x.fPrefix.length<=1048576/\x.fSuffix.length<=1048576
def okSlots (ss:List (List aAffix)):Prop:=ss.length<=1048576 /\ ∀ s ∈ ss,s.length<=1048576 /\ ∀ x ∈ s,okAffix x
def chosenS (sub:List aFeature->List aFeature->Bool) (ss:List (List aAffix)) (slot:Int) (r:List aFeature):Int:=
 cond (decide (0<=slot)&&decide (slot<(ss.length:Int))) (fstIdx (fun x:aAffix=>sub x.fWhen r) (ss.getD slot.toNat default) 0) (-1)
def mkE:Nat->List aAffix->List feature_entry_int
 | _,[]=>[]
 | i,x::xs=>⟨x.fWhen,(i:Int)⟩::mkE (i+1) xs
theorem mkE_length:∀ (i:Nat) (xs:List aAffix),(mkE i xs).length=xs.length
 | _,[]=>rfl
 | i,x::xs=>by simp [mkE,mkE_length]
theorem mkE_mem:∀ {i:Nat} {xs:List aAffix} {e:feature_entry_int},e ∈ mkE i xs -> ∃ x ∈ xs,e.fwhen=x.fWhen
 | _,[],_,h=>by cases h
 | i,x::xs,e,h=>by
   simp only [mkE,List.mem_cons] at h
   rcases h with rfl | h
   ·exact ⟨x,by simp,rfl⟩
   ·obtain ⟨y,hy,e⟩:=mkE_mem h
    exact ⟨y,List.mem_cons_of_mem _ hy,e⟩
theorem mkE_find (r:List aFeature):∀ (i:Nat) (xs:List aAffix),cond ((mkE i xs).find? fun e=>subsP e.fwhen r).isSome ((((mkE i xs).find? fun e=>subsP e.fwhen r).map (·.fvalue)).getD 0) (-1)=fstIdx (fun x:aAffix=>subsP x.fWhen r) xs i
 | _,[]=>rfl
 | i,x::xs=>by
   simp only [mkE,List.find?_cons,fstIdx]
   cases h:subsP x.fWhen r with
   | true=>simp
   | false=>simpa using mkE_find r (i+1) xs
theorem paradigm_Chosen_eq {p:aParadigm} (hs:okSlots p.fSlots) {r:List aFeature} (hr:r.length<=1048576) (slot:Int):paradigm_Chosen p slot r=some (chosenS subsP p.fSlots slot r):=by
 simp only [paradigm_Chosen,paradigm_Chosen.go,evs,ev_b,chosenS]
 by_cases h0:slot<0
 ·rw [cpos h0,cneg2 (by omega)]
 ·rw [cneg h0]
  by_cases h1:(p.fSlots.length:Int)<=slot
  ·rw [cpos h1,cneg2 (by omega)]
  ·rw [cneg h1,cpos2 (by omega) (by omega),cpos2 (by omega) (by omega)]
   obtain ⟨hl,hx⟩:=hs.2 (p.fSlots.getD slot.toNat default) (getD_mem (by omega))
   generalize hS:p.fSlots.getD slot.toNat default=S at *
   have key:=overJ (xs:=S) (f:=fun i (es:List feature_entry_int)=>fx paradigm_Chosen.st (.c1 r p slot i es)) (g:=fun i t es=>fx paradigm_Chosen.st (.c2 r (es++mkE i t))) (I:=fun i es=>es.length=i) (fun es _=>by
    rw [fx_eq]; simp only [paradigm_Chosen.st,evs,ev_b,hS,↓cneg (Int.lt_irrefl _),mkE,List.append_nil]) (fun i x t es hi hes hxi _ _ ih=>by
    obtain ⟨a1,a2,_,_⟩:=hx x (by rw [<- hxi]; exact getD_mem hi)
    rw [fx_eq]; simp (disch:=first | omega | (simp only [len,len0]; omega)) only [paradigm_Chosen.st,evs,ev_b,hS,Int.toNat_natCast,↓cpos,↓cpos2,hxi,slices_Clone_eq a1.1,Option.bind_some,wsucc]
    rw [ih _ (by simp [hes])]
    simp [mkE]) (s:=[]) rfl
   refine key.trans ?_
   simp only [List.nil_append,fx_eq paradigm_Chosen.st (.c2 ..),paradigm_Chosen.st,evs]
   rw [find_eq hr (by rw [mkE_length]; exact hl) (fun e he=>by
    obtain ⟨x,hx1,e1⟩:=mkE_mem he
    unfold okE
    rw [e1]
    exact (hx x hx1).2.1)]
   simp only [Option.bind_some]
   rw [<- mkE_find r 0 S]
   cases ((mkE 0 S).find? fun e=>subsP e.fwhen r).isSome <;> rfl
def ascSlots (ss:List (List aAffix)):Prop := ∀ s ∈ ss,∀ x ∈ s,Asc x.fWhen
theorem chosen_same {ss:List (List aAffix)} (h:ascSlots ss) {r:List aFeature} (hr:Asc r) (slot:Int):chosenS subsP ss slot r=chosenS subs ss slot r:=by
 unfold chosenS
 by_cases hs:0<=slot/\slot<(ss.length:Int)
 ·rw [cpos2 hs.1 hs.2,cpos2 hs.1 hs.2]
  exact fstIdx_congr 0 fun x hx=>subsP_eq (h _ (getD_mem (by omega)) x hx) hr
 ·rw [cneg2 hs,cneg2 hs]
theorem utf8_RuneCount_eq {s:List UInt8} (hs:s.length<=1099511627776):unicode_utf8_RuneCountInString s=some ((runesL s).length:Int):=by
 have:=overRJ (s:=s) (f:=fun p (n:Nat)=>fx unicode_utf8_RuneCountInString.st (.c1 s (n:Int) p)) (g:=fun rs n=>some ((n+rs.length:Nat):Int)) (I:=fun p n=>n<=p) (fun p n hp _=>by
  rw [fx_eq]; simp only [unicode_utf8_RuneCountInString.st,evs]; rw [cneg hp]; rfl) (fun p r rs n hp hn _ h1 ih=>by
  rw [fx_eq]; simp only [unicode_utf8_RuneCountInString.st,evs]
  rw [cpos hp,wsucc (by omega),ih (n+1) (by omega),List.length_cons,show n+1+rs.length=n+(rs.length+1) by omega]) (x:=0) (Nat.le_refl _)
 rw [Nat.zero_add] at this
 exact this
def pickA (r:List aFeature) (s:List aAffix):Option aAffix:=s.find? fun x=>subs x.fWhen r
def wrapA (r:List aFeature) (s:List aAffix) (f:List UInt8):List UInt8:=match pickA r s with
 | some x=>(x.fPrefix++f)++x.fSuffix
 | none=>f
def formS (r:List aFeature):List (List aAffix)->List UInt8->List UInt8
 | [],f=>f
 | s::ss,f=>formS r ss (wrapA r s f)
def szA (s:List aAffix):Nat:=(s.map fun x=>x.fPrefix.length+x.fSuffix.length).sum
def szS (ss:List (List aAffix)):Nat:=(ss.map szA).sum
theorem fst_find {α:Type} [Inhabited α] (p:α->Bool):∀ (xs:List α),(xs.find? p=none/\fstIdx p xs 0 = -1) \/ ∃ j:Nat,j<xs.length/\fstIdx p xs 0=(j:Int)/\xs.find? p=some (xs.getD j default):=by
 intro xs
 have key:∀ (xs:List α) (i:Nat),(xs.find? p=none/\fstIdx p xs i = -1) \/ ∃ j:Nat,j<xs.length/\fstIdx p xs i=((i+j:Nat):Int)/\xs.find? p=some (xs.getD j default):=by
  intro xs
  induction xs with
  | nil=>intro i; exact .inl ⟨rfl,rfl⟩
  | cons x xs ih=>
    intro i
    simp only [fstIdx,List.find?_cons]
    cases h:p x with
    | true=>exact .inr ⟨0,by simp,by simp,by simp⟩
    | false=>
      rcases ih (i+1) with ⟨h1,h2⟩ | ⟨j,h1,h2,h3⟩
      ·exact .inl ⟨by simpa using h1,by simpa using h2⟩
      ·exact .inr ⟨j+1,by simp only [List.length_cons]; omega,by rw [cond_false,h2]; omega,by simpa using h3⟩
 simpa using key xs 0
theorem wrapA_length (r:List aFeature) (s:List aAffix) (f:List UInt8):(wrapA r s f).length<=f.length+szA s:=by
 unfold wrapA
 split
 ·rename_i x hx
  have hm:x ∈ s:=List.mem_of_find?_eq_some hx
  have:=sum_mem (fun x:aAffix=>x.fPrefix.length+x.fSuffix.length) hm
  unfold szA
  simp only [List.length_append]
  omega
 ·omega
theorem formS_length (r:List aFeature):∀ (ss:List (List aAffix)) (f:List UInt8),(formS r ss f).length<=f.length+szS ss
 | [],f=>by simp [formS]
 | s::ss,f=>by
   have h1:=formS_length r ss (wrapA r s f)
   have h2:=wrapA_length r s f
   simp only [formS,szS,List.map_cons,List.sum_cons] at h1 ⊢
   omega
def underS (ds:List aDimension) (ss:List (List aAffix)) (stem:List UInt8) (inh cell:List aFeature):List UInt8×Int:=match mergeS ds cell inh with
 | none=>([],1)
 | some m=>cond (decide (40<((runesL (formS m ss stem)).length:Int))) ([],2) (formS m ss stem,0)
theorem paradigm_Underlying_eq {p:aParadigm} (hd:okDims p.fDimensions) (hs:okSlots p.fSlots) (ha:ascSlots p.fSlots) {cell inh:List aFeature} (hc:cell.length<=1048576) (hi:okR inh) {stem:List UInt8} (hl:stem.length+szS p.fSlots<=2097152):paradigm_Underlying p stem inh cell=some (underS p.fDimensions p.fSlots stem inh cell):=by
 simp only [paradigm_Underlying,paradigm_Underlying.go,evs,ev_b,paradigm_Merge_eq hd hc hi,Option.bind_some,underS]
 cases hm:mergeS p.fDimensions cell inh with
 | none=>rfl
 | some m=>
   obtain ⟨m1,m2⟩:=merge_asc hm
   simp only [pairOf,Option.getD_some,Option.isSome_some,Bool.not_true,cond_false]
   have key:=overJ (xs:=p.fSlots) (f:=fun i (f:List UInt8)=>fx paradigm_Underlying.st (.c1 p (m,true) f i)) (g:=fun i t f=>fx paradigm_Underlying.st (.c2 (formS m t f))) (I:=fun i f=>f.length+szS (p.fSlots.drop i)<=2097152) (fun f _=>by
    rw [fx_eq]; simp only [paradigm_Underlying.st,evs,ev_b,↓cneg (Int.lt_irrefl _),formS]) (fun i s t f hi' hf hx hdr ht ih=>by
    rw [hdr] at hf
    have hmem:s ∈ p.fSlots:=by rw [<- hx]; exact getD_mem hi'
    obtain ⟨hsl,hsx⟩:=hs.2 s hmem
    have e0:chosenS subs p.fSlots (i:Int) m=fstIdx (fun x:aAffix=>subs x.fWhen m) s 0:=by
     unfold chosenS
     rw [cpos2 (by omega) (by omega),Int.toNat_natCast,hx]
    have hw:=wrapA_length m s f
    have hsz:szA s+szS t=szS (s::t):=by simp [szS]
    rw [fx_eq]; simp (disch:=omega) only [paradigm_Underlying.st,evs,ev_b,↓cpos,paradigm_Chosen_eq hs (show m.length<=1048576 by omega),chosen_same ha m1,Option.bind_some,e0,formS]
    rcases fst_find (fun x:aAffix=>subs x.fWhen m) s with ⟨h1,h2⟩ | ⟨j,h1,h2,h3⟩
    ·have ew:wrapA m s f=f:=by unfold wrapA pickA; rw [h1]
     rw [h2,cneg (by omega),wsucc (by have:=hs.1; omega),ew]
     exact ih f (by rw [ht]; omega)
    ·have ew:wrapA m s f=((s.getD j default).fPrefix++f)++(s.getD j default).fSuffix:=by unfold wrapA pickA; rw [h3]
     have hm2:=sum_mem (fun x:aAffix=>x.fPrefix.length+x.fSuffix.length) (getD_mem h1)
     have hm3:(s.getD j default).fPrefix.length+(s.getD j default).fSuffix.length<=szA s:=hm2
     rw [h2]
     have hil:=hs.1
     simp (disch:=first | omega | (simp only [len,len0]; omega)) only [↓cpos,↓cpos2,Int.toNat_natCast,hx,wsucc]
     rw [<- ew]
     exact ih _ (by rw [ht]; omega)) (s:=stem) (by simpa using hl)
   refine key.trans ?_
   have hfl:=formS_length m p.fSlots stem
   simp only [fx_eq paradigm_Underlying.st (.c2 ..),paradigm_Underlying.st,evs,utf8_RuneCount_eq (show (formS m p.fSlots stem).length<=1099511627776 by omega),Option.bind_some]
   by_cases h40:40<((runesL (formS m p.fSlots stem)).length:Int)
   ·rw [cpos h40,cpos h40]
   ·rw [cneg h40,cneg h40]
end Go.Ai.Mor

set_option maxRecDepth 100000
noncomputable section
namespace Go.Ai.Mor
open Go Go.Ai Go.Proofs
namespace paradigm_Valid
inductive Pt
 | c2 (h:List aLetter) (d:aParadigm) (e i:Int)
 | c1 (h:List aLetter) (d:aParadigm) (e:Int)
def D:FD pd := {f:=53,fn:=Tryz.f53,q:=67,pl:=pls 23 [(5,kp [0,32,33,34]),(13,kp [0,32,33,34,41,42,43])],ps:=[(.sl (.st .aLetter)),(.st .aParadigm)],rs:=[.bool],ex:=[none],cs:=[alphabet_IsWord.con,alphabet_Valid.con,paradigm_Count.con,feature_Valid.con]}
def go:((List aLetter)×aParadigm)->Tr Pt (Bool)
 | (h,d)=>
  .b (alphabet_Valid h) fun m=>
  .c (!m)
  (.r false)
  (.b (feature_Valid ([aFeature.mk d.fName [120]])) fun o=>
   .c (!o)
   (.r false)
   (.b (paradigm_Count d) fun p=>
    .c (decide (p=0))
    (.r false)
    (.c (decide (8<(d.fSlots.length:Int)))
     (.r false)
     (.j (.c1 h d 0)))))
def st:Pt->Tr Pt (Bool)
 | .c2 h d e i=>
  .c (decide (i<((d.fSlots.getD e.toNat default).length:Int)))
  (.c (decide (0<=i)&&decide (i<((d.fSlots.getD e.toNat default).length:Int)))
   (.b (feature_Valid (((d.fSlots.getD e.toNat default).getD i.toNat default).fWhen)) fun s=>
    .c (!s)
    (.r false)
    (.b (alphabet_IsWord h (((d.fSlots.getD e.toNat default).getD i.toNat default).fPrefix)) fun t=>
     .c (!t)
     (.r false)
     (.b (alphabet_IsWord h (((d.fSlots.getD e.toNat default).getD i.toNat default).fSuffix)) fun u=>
      .c (!u)
      (.r false)
      (.j (.c2 h d e (IntKind.i64.wrap (i+1))))))) .n)
  (.j (.c1 h d (IntKind.i64.wrap (e+1))))
 | .c1 h d e=>
  .c (decide (e<(d.fSlots.length:Int)))
  (.c (decide (0<=e)&&decide (e<(d.fSlots.length:Int)))
   (.c (decide (64<((d.fSlots.getD e.toNat default).length:Int)))
    (.r false)
    (.j (.c2 h d e 0))) .n)
  (.r true)
def pt:Pt->List Dir×St E
 | .c2 h d e i=>([.r,.r,.l,.r,.k,.L,.r,.r,.l,.k,.r,.r,.r,.k],ms 67 67 [(0,hL (.st .aLetter) h),(32,hL (.sl (.st .aAffix)) d.fSlots),(33,hI (d.fSlots.length:Int)),(34,hI e),(41,hL (.st .aAffix) (d.fSlots.getD e.toNat default)),(42,hI ((d.fSlots.getD e.toNat default).length:Int)),(43,hI i)])
 | .c1 h d e=>([.r,.r,.l,.r,.k],ms 67 67 [(0,hL (.st .aLetter) h),(32,hL (.sl (.st .aAffix)) d.fSlots),(33,hI (d.fSlots.length:Int)),(34,hI e)])
theorem g:D.G st pt:=fun Z a=>by cases a <;> kernel_rfl
theorem g0:D.G0 go pt:=fun Z ⟨_,_⟩=>by kernel_rfl
abbrev con:Con Tryz.prog E:=FD.con Tryz.func53 (by kernel_rfl) g g0
end paradigm_Valid
def paradigm_Valid (h:List aLetter) (d:aParadigm):Option (Bool):=ev (paradigm_Valid.go (h,d)) (fx paradigm_Valid.st)
end Go.Ai.Mor
end

set_option maxRecDepth 100000
noncomputable section
namespace Go.Ai.Mor
open Go Go.Ai Go.Proofs
namespace r10_Valid
inductive Pt
 | c2 (h:List aLetter) (e:Int) (d:aParadigm) (i:Int)
 | c1 (h:List aLetter) (d:aParadigm) (e:Int)
def D:FD pd := {f:=60,fn:=Tryz.f60,q:=79,pl:=pls 22 [(5,kp [0,3,5] [(3,3)]),(12,kp [0,3,5,6] [(3,3)])],ps:=[(.sl (.st .aLetter)),(.st .aParadigm)],rs:=[.bool],ex:=[none],cs:=[r10_Alphabet.con,r02_Name.con,r02_Dimensions.con,r02_Valid.con,r10_Word.con]}
def go:((List aLetter)×aParadigm)->Tr Pt (Bool)
 | (h,d)=>
  .b (r10_Alphabet h) fun u=>
  .c (!u)
  (.r false)
  (.b (r02_Name d.fName) fun m=>
   .c (!m)
   (.r false)
   (.b (r02_Dimensions d.fDimensions) fun o=>
    .c (!o)
    (.r false)
    (.c (decide (8<(d.fSlots.length:Int)))
     (.r false)
     (.j (.c1 h d 0)))))
def st:Pt->Tr Pt (Bool)
 | .c2 h e d i=>
  .c (decide (0<=e)&&decide (e<(d.fSlots.length:Int)))
  (.c (decide (i<((d.fSlots.getD e.toNat default).length:Int)))
   (.c (decide (0<=e)&&decide (e<(d.fSlots.length:Int)))
    (.c (decide (0<=i)&&decide (i<((d.fSlots.getD e.toNat default).length:Int)))
     (.b (r02_Valid (((d.fSlots.getD e.toNat default).getD i.toNat default).fWhen)) fun p=>
      .c (!p)
      (.r false)
      (.b (r10_Word h (((d.fSlots.getD e.toNat default).getD i.toNat default).fPrefix)) fun s=>
       .c (!s)
       (.r false)
       (.b (r10_Word h (((d.fSlots.getD e.toNat default).getD i.toNat default).fSuffix)) fun t=>
        .c (!t)
        (.r false)
        (.j (.c2 h e d (IntKind.i64.wrap (i+1))))))) .n) .n)
   (.j (.c1 h d (IntKind.i64.wrap (e+1))))) .n
 | .c1 h d e=>
  .c (decide (e<(d.fSlots.length:Int)))
  (.c (decide (0<=e)&&decide (e<(d.fSlots.length:Int)))
   (.c (decide (64<((d.fSlots.getD e.toNat default).length:Int)))
    (.r false)
    (.j (.c2 h e d 0))) .n)
  (.r true)
def pt:Pt->List Dir×St E
 | .c2 h e d i=>([.r,.r,.l,.r,.k,.L,.r,.l,.k,.r,.r,.k],ms 79 79 [(0,hL (.st .aLetter) h),(3,hP 3),(5,hI e),(6,hI i)] [(3,.cells [cS d.fName,cL (.st .aDimension) d.fDimensions,cL (.sl (.st .aAffix)) d.fSlots])])
 | .c1 h d e=>([.r,.r,.l,.r,.k],ms 79 79 [(0,hL (.st .aLetter) h),(3,hP 3),(5,hI e)] [(3,.cells [cS d.fName,cL (.st .aDimension) d.fDimensions,cL (.sl (.st .aAffix)) d.fSlots])])
theorem g:D.G st pt:=fun Z a=>by cases a <;> kernel_rfl
theorem g0:D.G0 go pt:=fun Z ⟨_,_⟩=>by kernel_rfl
abbrev con:Con Tryz.prog E:=FD.con Tryz.func60 (by kernel_rfl) g g0
end r10_Valid
def r10_Valid (h:List aLetter) (d:aParadigm):Option (Bool):=ev (r10_Valid.go (h,d)) (fx r10_Valid.st)
end Go.Ai.Mor
end

namespace Go.Ai.Mor
open Go Go.Ai
def affB (a:List aLetter) (x:aAffix):Bool:=isValid x.fWhen&&(wordB a x.fPrefix&&wordB a x.fSuffix)
def slotB (a:List aLetter) (s:List aAffix):Bool:=decide (s.length<=64)&&s.all (affB a)
def parB (a:List aLetter) (p:aParadigm):Bool:=alphaB a&&(isName p.fName&&(dimsOk p.fDimensions&&(decide (p.fSlots.length<=8)&&p.fSlots.all (slotB a))))
structure OkP (p:aParadigm):Prop where
 name:p.fName.length<=1048576
 dims:okDims p.fDimensions
 slots:okSlots p.fSlots
 size:szS p.fSlots<=1048576
theorem ref10_Valid_eq {a:List aLetter} (ha:a.length<=1048576) {p:aParadigm} (hp:OkP p):r10_Valid a p=some (parB a p):=by
 obtain ⟨hn,hd,hs,_⟩:=hp
 simp only [r10_Valid,r10_Valid.go,evs,ev_b,parB]
 rw [ref10_Alphabet_eq ha,ref02_Name_eq hn,ref02_Dimensions_eq hd]
 simp only [Option.bind_some,cnot]
 cases alphaB a with
 | false=>rfl
 | true=>
   cases isName p.fName with
   | false=>rfl
   | true=>
     cases dimsOk p.fDimensions with
     | false=>rfl
     | true=>
       simp only [cond_true,Bool.true_and]
       by_cases h8:p.fSlots.length<=8
       ·rw [cneg (by omega)]
        simp only [h8,decide_true,Bool.true_and]
        have inner:∀ (i:Nat) (s:List aAffix),i<p.fSlots.length->p.fSlots.getD i default=s->fx r10_Valid.st (.c2 a i p 0)=cond (s.all (affB a)) (fx r10_Valid.st (.c1 a p ((i+1:Nat):Int))) (some false):=by
         intro i s hi hsi
         obtain ⟨hl,hx⟩:=hs.2 s (by rw [<- hsi]; exact getD_mem hi)
         exact over (xs:=s) (f:=fun j (_:Unit)=>fx r10_Valid.st (.c2 a i p j)) (g:=fun t _=>cond (t.all (affB a)) (fx r10_Valid.st (.c1 a p ((i+1:Nat):Int))) (some false)) (fun _=>by
          rw [fx_eq]; simp (disch:=omega) only [r10_Valid.st,evs,ev_b,Int.toNat_natCast,↓cpos2,hsi,↓cneg (Int.lt_irrefl _),List.all_nil,cond_true,wsucc]) (fun j x t _ hj hxj ih=>by
          have ih:=ih ()
          obtain ⟨a1,a2,a3,a4⟩:=hx x (by rw [<- hxj]; exact getD_mem hj)
          rw [fx_eq]; simp (disch:=omega) only [r10_Valid.st,evs,ev_b,Int.toNat_natCast,↓cpos,↓cpos2,hsi,hxj,ref02_Valid_eq a1,ref10_Word_eq ha a3,ref10_Word_eq ha a4,Option.bind_some,wsucc,ih,cnot,List.all_cons,affB]
          cases isValid x.fWhen <;> cases wordB a x.fPrefix <;> cases wordB a x.fSuffix <;> rfl) ()
        exact over (xs:=p.fSlots) (f:=fun i (_:Unit)=>fx r10_Valid.st (.c1 a p i)) (g:=fun t _=>some (t.all (slotB a))) (fun _=>by
         rw [fx_eq]; simp only [r10_Valid.st,evs,ev_b,↓cneg (Int.lt_irrefl _),List.all_nil]) (fun i s t _ hi hsi ih=>by
         have ih:=ih ()
         rw [fx_eq]; simp (disch:=omega) only [r10_Valid.st,evs,ev_b,Int.toNat_natCast,↓cpos,↓cpos2,hsi,inner i s hi hsi,ih,List.all_cons,slotB]
         by_cases h64:s.length<=64
         ·rw [cneg (by omega)]
          simp only [h64,decide_true,Bool.true_and]
          cases s.all (affB a) <;> rfl
         ·rw [cpos (by omega)]; simp [h64]) ()
       ·rw [cpos (by omega)]; simp [h8]
theorem count_zero {ds:List aDimension} : (count ds=0)↔dimsOk ds=false:=by
 unfold count
 cases h:dimsOk ds with
 | false=>simp
 | true=>
   simp only [cond_true]
   have:=prod_pos fun d hd=>((dimsOk_good h).vals d hd).1
   simp only [reduceCtorEq,iff_false]
   omega
theorem paradigm_Valid_eq {a:List aLetter} (ha:a.length<=1048576) {p:aParadigm} (hp:OkP p):paradigm_Valid a p=some (parB a p):=by
 obtain ⟨hn,hd,hs,_⟩:=hp
 have hname:feature_Valid [⟨p.fName,[120]⟩]=some (isName p.fName):=by
  rw [feature_Valid_eq ⟨by simp,fun f hf => ?_⟩]
  ·congr 1
   have:isName [120]=true:=by decide
   simp [isValid,goodF,this,isRec,asc]
  ·simp only [List.mem_cons,List.not_mem_nil,or_false] at hf
   subst hf
   exact ⟨hn,by simp⟩
 simp only [paradigm_Valid,paradigm_Valid.go,evs,ev_b,parB]
 rw [alphabet_Valid_eq ha,hname,paradigm_Count_eq hd]
 simp only [Option.bind_some,cnot]
 cases alphaB a with
 | false=>rfl
 | true=>
   cases isName p.fName with
   | false=>rfl
   | true=>
     simp only [cond_true,Bool.true_and]
     by_cases h0:(count p.fDimensions:Int)=0
     ·have:=count_zero.1 (by omega:count p.fDimensions=0)
      rw [cpos h0,this]; rfl
     ·have:dimsOk p.fDimensions=true:=by
       cases h:dimsOk p.fDimensions with
       | true=>rfl
       | false=>exact absurd (by exact_mod_cast count_zero.2 h) h0
      rw [cneg h0,this]
      simp only [Bool.true_and]
      by_cases h8:p.fSlots.length<=8
      ·rw [cneg (by omega)]
       simp only [h8,decide_true,Bool.true_and]
       have inner:∀ (i:Nat) (s:List aAffix),i<p.fSlots.length->p.fSlots.getD i default=s->fx paradigm_Valid.st (.c2 a p i 0)=cond (s.all (affB a)) (fx paradigm_Valid.st (.c1 a p ((i+1:Nat):Int))) (some false):=by
        intro i s hi hsi
        obtain ⟨hl,hx⟩:=hs.2 s (by rw [<- hsi]; exact getD_mem hi)
        exact over (xs:=s) (f:=fun j (_:Unit)=>fx paradigm_Valid.st (.c2 a p i j)) (g:=fun t _=>cond (t.all (affB a)) (fx paradigm_Valid.st (.c1 a p ((i+1:Nat):Int))) (some false)) (fun _=>by
         rw [fx_eq]; simp (disch:=omega) only [paradigm_Valid.st,evs,ev_b,Int.toNat_natCast,hsi,↓cneg (Int.lt_irrefl _),List.all_nil,cond_true,wsucc]) (fun j x t _ hj hxj ih=>by
         have ih:=ih ()
         obtain ⟨a1,a2,a3,a4⟩:=hx x (by rw [<- hxj]; exact getD_mem hj)
         rw [fx_eq]; simp (disch:=omega) only [paradigm_Valid.st,evs,ev_b,Int.toNat_natCast,↓cpos,↓cpos2,hsi,hxj,feature_Valid_eq a1,isWord_eq ha a3,isWord_eq ha a4,Option.bind_some,wsucc,ih,cnot,List.all_cons,affB]
         cases isValid x.fWhen <;> cases wordB a x.fPrefix <;> cases wordB a x.fSuffix <;> rfl) ()
       exact over (xs:=p.fSlots) (f:=fun i (_:Unit)=>fx paradigm_Valid.st (.c1 a p i)) (g:=fun t _=>some (t.all (slotB a))) (fun _=>by
        rw [fx_eq]; simp only [paradigm_Valid.st,evs,ev_b,↓cneg (Int.lt_irrefl _),List.all_nil]) (fun i s t _ hi hsi ih=>by
        have ih:=ih ()
        rw [fx_eq]; simp (disch:=omega) only [paradigm_Valid.st,evs,ev_b,Int.toNat_natCast,↓cpos,↓cpos2,hsi,inner i s hi hsi,ih,List.all_cons,slotB]
        by_cases h64:s.length<=64
        ·rw [cneg (by omega)]
         simp only [h64,decide_true,Bool.true_and]
         cases s.all (affB a) <;> rfl
        ·rw [cpos (by omega)]; simp [h64]) ()
      ·rw [cpos (by omega)]; simp [h8]
theorem parB_facts {a:List aLetter} {p:aParadigm} (h:parB a p=true):dimsOk p.fDimensions=true/\p.fSlots.length<=8/\ascSlots p.fSlots /\ ∀ s ∈ p.fSlots,s.length<=64:=by
 simp only [parB,Bool.and_eq_true,decide_eq_true_eq,List.all_eq_true,slotB,affB] at h
 obtain ⟨_,_,h1,h2,h3⟩:=h
 exact ⟨h1,h2,fun s hs x hx=>(valid_asc ((h3 s hs).2 x hx).1).1,fun s hs=>(h3 s hs).1⟩
end Go.Ai.Mor

set_option maxRecDepth 100000
noncomputable section
namespace Go.Ai.Mor
open Go Go.Ai Go.Proofs
namespace morphology_words_parts
inductive Pt
 | c4 (d:morphology_words)
 | c3 (d:morphology_words) (h:Int)
 | c2 (d:morphology_words)
 | c1 (d:morphology_words) (e:Int)
def D:FD pd := {f:=32,fn:=Tryz.f32,q:=63,pl:=pls 23 [(5,kp [1,28,29,30] [(1,4)]),(12,kp [1] [(1,4)]),(14,kp [1,43,44,45] [(1,4)]),(21,kp [1] [(1,4)])],ps:=[(.st .morphology_words)],rs:=[.bool],ex:=[none],cs:=[alphabet_Valid.con,rewrite_Valid.con,paradigm_Valid.con,lexicon_Valid.con]}
def go:(morphology_words)->Tr Pt (Bool)
 | d=>
  .b (alphabet_Valid d.fWords.fAlphabet) fun i=>
  .c (!i)
  (.r false)
  (.c (decide (64<(d.fWords.fRules.length:Int)))
   (.r false)
   (.c (decide (32<(d.fWords.fParadigms.length:Int)))
    (.r false)
    (.j (.c1 d 0))))
def st:Pt->Tr Pt (Bool)
 | .c4 d=>
  .b (lexicon_Valid d.fWords.fAlphabet d.fWords.fLexemes) fun p=>
  .r p
 | .c3 d h=>
  .c (decide (h<(d.fWords.fParadigms.length:Int)))
  (.c (decide (0<=h)&&decide (h<(d.fWords.fParadigms.length:Int)))
   (.b (paradigm_Valid d.fWords.fAlphabet (d.fWords.fParadigms.getD h.toNat default)) fun o=>
    .c (!o)
    (.r false)
    (.j (.c3 d (IntKind.i64.wrap (h+1))))) .n)
  (.j (.c4 d))
 | .c2 d=>
  .j (.c3 d 0)
 | .c1 d e=>
  .c (decide (e<(d.fWords.fRules.length:Int)))
  (.c (decide (0<=e)&&decide (e<(d.fWords.fRules.length:Int)))
   (.b (rewrite_Valid d.fWords.fAlphabet (d.fWords.fRules.getD e.toNat default)) fun m=>
    .c (!m)
    (.r false)
    (.j (.c1 d (IntKind.i64.wrap (e+1))))) .n)
  (.j (.c2 d))
def pt:Pt->List Dir×St E
 | .c4 d=>([.r,.r,.r],ms 63 63 [(1,hP 1)] [(1,.cells [cL (.st .aLetter) d.fWords.fAlphabet,cL (.st .aRule) d.fWords.fRules,cL (.st .aParadigm) d.fWords.fParadigms,cL (.st .aLexeme) d.fWords.fLexemes])])
 | .c3 d h=>([.r,.r,.r,.l,.r,.k],ms 63 63 [(1,hP 1),(43,hL (.st .aParadigm) d.fWords.fParadigms),(44,hI (d.fWords.fParadigms.length:Int)),(45,hI h)] [(1,.cells [cL (.st .aLetter) d.fWords.fAlphabet,cL (.st .aRule) d.fWords.fRules,cL (.st .aParadigm) d.fWords.fParadigms,cL (.st .aLexeme) d.fWords.fLexemes])])
 | .c2 d=>([.r,.r],ms 63 63 [(1,hP 1)] [(1,.cells [cL (.st .aLetter) d.fWords.fAlphabet,cL (.st .aRule) d.fWords.fRules,cL (.st .aParadigm) d.fWords.fParadigms,cL (.st .aLexeme) d.fWords.fLexemes])])
 | .c1 d e=>([.r,.r,.l,.r,.k],ms 63 63 [(1,hP 1),(28,hL (.st .aRule) d.fWords.fRules),(29,hI (d.fWords.fRules.length:Int)),(30,hI e)] [(1,.cells [cL (.st .aLetter) d.fWords.fAlphabet,cL (.st .aRule) d.fWords.fRules,cL (.st .aParadigm) d.fWords.fParadigms,cL (.st .aLexeme) d.fWords.fLexemes])])
theorem g:D.G st pt:=fun Z a=>by cases a <;> kernel_rfl
theorem g0:D.G0 go pt:=fun Z _=>by kernel_rfl
abbrev con:Con Tryz.prog E:=FD.con Tryz.func32 (by kernel_rfl) g g0
end morphology_words_parts
def morphology_words_parts (d:morphology_words):Option (Bool):=ev (morphology_words_parts.go d) (fx morphology_words_parts.st)
end Go.Ai.Mor
end

set_option maxRecDepth 100000
noncomputable section
namespace Go.Ai.Mor
open Go Go.Ai Go.Proofs
namespace morphology_words_paradigm
inductive Pt
 | c2
 | c1 (d:List UInt8) (b:morphology_words) (e:Int)
def D:FD pd := {f:=35,fn:=Tryz.f35,q:=23,pl:=pls 11 [(2,kp [1,4,10,11,12] [(4,3)]),(9,kp [4] [(4,3)])],ps:=[(.st .morphology_words),.str],rs:=[(.st .aParadigm),.bool],ex:=[none,none]}
def go:(morphology_words×(List UInt8))->Tr Pt (aParadigm×Bool)
 | (b,d)=>
  .j (.c1 d b 0)
def st:Pt->Tr Pt (aParadigm×Bool)
 | .c2=>
  .r (aParadigm.mk [] [] [],false)
 | .c1 d b e=>
  .c (decide (e<(b.fWords.fParadigms.length:Int)))
  (.c (decide (0<=e)&&decide (e<(b.fWords.fParadigms.length:Int)))
   (.c (decide (((b.fWords.fParadigms.getD e.toNat default).fName)=d))
    (.r ((b.fWords.fParadigms.getD e.toNat default),true))
    (.j (.c1 d b (IntKind.i64.wrap (e+1))))) .n)
  (.j .c2)
def pt:Pt->List Dir×St E
 | .c2=>([.r],ms 23 23 [(4,hP 4)] [(4,.cells [cS [],.tv (.val nilS),.tv (.val nilS)])])
 | .c1 d b e=>([.r,.l,.r,.k],ms 23 23 [(1,hS d),(4,hP 4),(10,hL (.st .aParadigm) b.fWords.fParadigms),(11,hI (b.fWords.fParadigms.length:Int)),(12,hI e)] [(4,.cells [cS [],.tv (.val nilS),.tv (.val nilS)])])
theorem g:D.G st pt:=fun Z a=>by cases a <;> kernel_rfl
theorem g0:D.G0 go pt:=fun Z ⟨_,_⟩=>by kernel_rfl
abbrev con:Con Tryz.prog E:=FD.con Tryz.func35 (by kernel_rfl) g g0
end morphology_words_paradigm
def morphology_words_paradigm (b:morphology_words) (d:List UInt8):Option (aParadigm×Bool):=ev (morphology_words_paradigm.go (b,d)) (fx morphology_words_paradigm.st)
end Go.Ai.Mor
end

set_option maxRecDepth 100000
noncomputable section
namespace Go.Ai.Mor
open Go Go.Ai Go.Proofs
namespace morphology_Check
inductive Pt
 | c2 (d:aWords) (h p:Int)
 | c8 (i:aParadigm×Bool) (d:aWords) (e m s:Int)
 | c7 (i:aParadigm×Bool) (d:aWords) (e m:Int)
 | c6 (d:aWords) (e:Int)
 | c5 (d:aWords)
 | c4 (d:aWords) (o:Int)
 | c3 (d:aWords)
 | c1 (d:aWords) (h:Int)
def D:FD pd := {f:=14,fn:=Tryz.f14,q:=166,pl:=pls 43 [(6,kp [3,23,24,25] [(3,4)]),(13,kp [3] [(3,4)]),(15,kp [3,40,41,42] [(3,4)]),(23,kp [3] [(3,4)]),(25,kp [3,63,64,65] [(3,4)]),(33,kp [3,11,63,64,65,80,81,82] [(3,4),(11,5)])],ps:=[(.st .aWords)],rs:=[(.int .i64)],ex:=[none],dp:=4,cs:=[morphology_words_parts.con,morphology_words_paradigm.con],il:=[inl 0 36 33 92 Tryz.f33 [] Tryz.func33 (by kernel_rfl),inl 92 7 55 101 Tryz.f55 (pls 11 [(2,kp [0,1,7,8] [(5,3),(3,4)] [12,32,33,34])]) Tryz.func55 (by kernel_rfl),inl 101 16 34 120 Tryz.f34 [] Tryz.func34 (by kernel_rfl),inl 0 89 36 129 Tryz.f36 [] Tryz.func36 (by kernel_rfl),inl 129 7 56 138 Tryz.f56 (pls 11 [(2,kp [0,1,7,8] [(15,2),(3,4),(11,5)] [12,20,72,73,74,89,90,91])]) Tryz.func56 (by kernel_rfl),inl 138 16 37 157 Tryz.f37 [] Tryz.func37 (by kernel_rfl)]}
def go:(aWords)->Tr Pt (Int)
 | d=>
  .b (morphology_words_parts (morphology_words.mk d)) fun t=>
  .c (!t)
  (.r 1)
  (.j (.c1 d 0))
def st:Pt->Tr Pt (Int)
 | .c2 d h p=>
  .c (decide (p<((d.fParadigms.take h.toNat).length:Int)))
  (.c (decide (0<=p)&&decide (p<((d.fParadigms.take h.toNat).length:Int)))
   (.c (decide ((((d.fParadigms.take h.toNat).getD p.toNat default).fName)=((d.fParadigms.getD h.toNat default).fName)))
    (.c (decide (0<=p))
     (.r 5)
     (.j (.c1 d (IntKind.i64.wrap (h+1)))))
    (.j (.c2 d h (IntKind.i64.wrap (p+1))))) .n)
  (.c (decide (0<=(-1)))
   (.r 5)
   (.j (.c1 d (IntKind.i64.wrap (h+1)))))
 | .c8 i d e m s=>
  .c (decide (s<(((d.fLexemes.getD e.toNat default).fFeatures).length:Int)))
  (.c (decide (0<=s)&&decide (s<(((d.fLexemes.getD e.toNat default).fFeatures).length:Int)))
   (.c (decide (((((d.fLexemes.getD e.toNat default).fFeatures).getD s.toNat default).fName)=((i.1.fDimensions.getD m.toNat default).fName)))
    (.c (decide (0<=s))
     (.r 11)
     (.j (.c7 i d e (IntKind.i64.wrap (m+1)))))
    (.j (.c8 i d e m (IntKind.i64.wrap (s+1))))) .n)
  (.c (decide (0<=(-1)))
   (.r 11)
   (.j (.c7 i d e (IntKind.i64.wrap (m+1)))))
 | .c7 i d e m=>
  .c (decide (m<(i.1.fDimensions.length:Int)))
  (.c (decide (0<=m)&&decide (m<(i.1.fDimensions.length:Int)))
   (.j (.c8 i d e m 0)) .n)
  (.j (.c6 d (IntKind.i64.wrap (e+1))))
 | .c6 d e=>
  .c (decide (e<(d.fLexemes.length:Int)))
  (.c (decide (0<=e)&&decide (e<(d.fLexemes.length:Int)))
   (.b (morphology_words_paradigm (morphology_words.mk d) ((d.fLexemes.getD e.toNat default).fParadigm)) fun i=>
    .c (decide (((d.fLexemes.getD e.toNat default).fParadigm)=[]))
    (.j (.c6 d (IntKind.i64.wrap (e+1))))
    (.j (.c7 i d e 0))) .n)
  (.r 0)
 | .c5 d=>
  .j (.c6 d 0)
 | .c4 d o=>
  .c (decide (o<(d.fLexemes.length:Int)))
  (.c (decide (0<=o)&&decide (o<(d.fLexemes.length:Int)))
   (.b (morphology_words_paradigm (morphology_words.mk d) ((d.fLexemes.getD o.toNat default).fParadigm)) fun u=>
    .c (!u.2)
    (.c (!decide (((d.fLexemes.getD o.toNat default).fParadigm)=[]))
     (.r 4)
     (.j (.c4 d (IntKind.i64.wrap (o+1)))))
    (.j (.c4 d (IntKind.i64.wrap (o+1))))) .n)
  (.j (.c5 d))
 | .c3 d=>
  .j (.c4 d 0)
 | .c1 d h=>
  .c (decide (h<(d.fParadigms.length:Int)))
  (.c (decide (0<=h)&&decide (h<(d.fParadigms.length:Int)))
   (.c (decide (0<=h)&&decide (h<=(d.fParadigms.length:Int)))
    (.j (.c2 d h 0)) .n) .n)
  (.j (.c3 d))
def pt:Pt->List Dir×St E
 | .c2 d h p=>([.r,.r,.r,.l,.r,.k,.L,.r,.r,.l,.k,.r,.l,.c 6 33 92 0 false,.r,.l,.c 2 55 9 92 false,.r,.l,.r,.k],ms 19 166 [(0,hL (.st .aParadigm) (d.fParadigms.take h.toNat)),(1,.one (.fn (.func 34) [] [.ptr 5 0])),(7,hI ((d.fParadigms.take h.toNat).length:Int)),(8,hI p)] [(3,.cells [cL (.st .aLetter) d.fAlphabet,cL (.st .aRule) d.fRules,cL (.st .aParadigm) d.fParadigms,cL (.st .aLexeme) d.fLexemes]),(5,.cells [cS ((d.fParadigms.getD h.toNat default).fName),cL (.st .aDimension) ((d.fParadigms.getD h.toNat default).fDimensions),cL (.sl (.st .aAffix)) ((d.fParadigms.getD h.toNat default).fSlots)])] 101 [(12,hP 3),(32,hL (.st .aParadigm) d.fParadigms),(33,hI (d.fParadigms.length:Int)),(34,hI h)] [] false 101)
 | .c8 i d e m s=>([.r,.r,.r,.r,.r,.l,.r,.k,.L,.r,.r,.l,.k,.r,.r,.r,.r,.k,.L,.r,.r,.l,.k,.r,.l,.c 3 36 92 0 false,.r,.l,.c 2 56 9 129 false,.r,.l,.r,.k],ms 19 166 [(0,hL (.st .aFeature) ((d.fLexemes.getD e.toNat default).fFeatures)),(1,.one (.fn (.func 37) [] [.ptr 15 0])),(7,hI (((d.fLexemes.getD e.toNat default).fFeatures).length:Int)),(8,hI s)] [(3,.cells [cL (.st .aLetter) d.fAlphabet,cL (.st .aRule) d.fRules,cL (.st .aParadigm) d.fParadigms,cL (.st .aLexeme) d.fLexemes]),(11,.cells [cS ((d.fLexemes.getD e.toNat default).fID),cS ((d.fLexemes.getD e.toNat default).fCategory),cS ((d.fLexemes.getD e.toNat default).fStem),cS ((d.fLexemes.getD e.toNat default).fParadigm),cL (.st .aFeature) ((d.fLexemes.getD e.toNat default).fFeatures)]),(15,.cells [cS ((i.1.fDimensions.getD m.toNat default).fName),cL .str ((i.1.fDimensions.getD m.toNat default).fValues)])] 101 [(12,hP 3),(20,hP 11),(72,hL (.st .aLexeme) d.fLexemes),(73,hI (d.fLexemes.length:Int)),(74,hI e),(89,hL (.st .aDimension) i.1.fDimensions),(90,hI (i.1.fDimensions.length:Int)),(91,hI m)] [] false 138)
 | .c7 i d e m=>([.r,.r,.r,.r,.r,.l,.r,.k,.L,.r,.r,.l,.k,.r,.r,.r,.r,.k],ms 92 166 [(3,hP 3),(11,hP 11),(63,hL (.st .aLexeme) d.fLexemes),(64,hI (d.fLexemes.length:Int)),(65,hI e),(80,hL (.st .aDimension) i.1.fDimensions),(81,hI (i.1.fDimensions.length:Int)),(82,hI m)] [(3,.cells [cL (.st .aLetter) d.fAlphabet,cL (.st .aRule) d.fRules,cL (.st .aParadigm) d.fParadigms,cL (.st .aLexeme) d.fLexemes]),(11,.cells [cS ((d.fLexemes.getD e.toNat default).fID),cS ((d.fLexemes.getD e.toNat default).fCategory),cS ((d.fLexemes.getD e.toNat default).fStem),cS ((d.fLexemes.getD e.toNat default).fParadigm),cL (.st .aFeature) ((d.fLexemes.getD e.toNat default).fFeatures)])])
 | .c6 d e=>([.r,.r,.r,.r,.r,.l,.r,.k],ms 92 166 [(3,hP 3),(63,hL (.st .aLexeme) d.fLexemes),(64,hI (d.fLexemes.length:Int)),(65,hI e)] [(3,.cells [cL (.st .aLetter) d.fAlphabet,cL (.st .aRule) d.fRules,cL (.st .aParadigm) d.fParadigms,cL (.st .aLexeme) d.fLexemes])])
 | .c5 d=>([.r,.r,.r,.r],ms 92 166 [(3,hP 3)] [(3,.cells [cL (.st .aLetter) d.fAlphabet,cL (.st .aRule) d.fRules,cL (.st .aParadigm) d.fParadigms,cL (.st .aLexeme) d.fLexemes])])
 | .c4 d o=>([.r,.r,.r,.r,.l,.r,.k],ms 92 166 [(3,hP 3),(40,hL (.st .aLexeme) d.fLexemes),(41,hI (d.fLexemes.length:Int)),(42,hI o)] [(3,.cells [cL (.st .aLetter) d.fAlphabet,cL (.st .aRule) d.fRules,cL (.st .aParadigm) d.fParadigms,cL (.st .aLexeme) d.fLexemes])])
 | .c3 d=>([.r,.r,.r],ms 92 166 [(3,hP 3)] [(3,.cells [cL (.st .aLetter) d.fAlphabet,cL (.st .aRule) d.fRules,cL (.st .aParadigm) d.fParadigms,cL (.st .aLexeme) d.fLexemes])])
 | .c1 d h=>([.r,.r,.r,.l,.r,.k],ms 92 166 [(3,hP 3),(23,hL (.st .aParadigm) d.fParadigms),(24,hI (d.fParadigms.length:Int)),(25,hI h)] [(3,.cells [cL (.st .aLetter) d.fAlphabet,cL (.st .aRule) d.fRules,cL (.st .aParadigm) d.fParadigms,cL (.st .aLexeme) d.fLexemes])])
theorem g:D.G st pt:=fun Z a=>by cases a <;> kernel_rfl
theorem g0:D.G0 go pt:=fun Z _=>by kernel_rfl
abbrev con:Con Tryz.prog E:=FD.con Tryz.func14 (by kernel_rfl) g g0
end morphology_Check
def morphology_Check (d:aWords):Option (Int):=ev (morphology_Check.go d) (fx morphology_Check.st)
end Go.Ai.Mor
end

set_option maxRecDepth 100000
noncomputable section
namespace Go.Ai.Mor
open Go Go.Ai Go.Proofs
namespace r11_parts
inductive Pt
 | c3 (d:aWords) (h:Int)
 | c2 (d:aWords)
 | c1 (d:aWords) (e:Int)
def D:FD pd := {f:=38,fn:=Tryz.f38,q:=61,pl:=pls 21 [(5,kp [1,3] [(1,4)]),(11,kp [1] [(1,4)]),(13,kp [1,4] [(1,4)])],ps:=[(.st .aWords)],rs:=[.bool],ex:=[none],cs:=[r01_Valid.con,r09_Valid.con,r07_Valid.con,r10_Valid.con]}
def go:(aWords)->Tr Pt (Bool)
 | d=>
  .b (r01_Valid d.fAlphabet) fun p=>
  .c (!p)
  (.r false)
  (.c (decide (64<(d.fRules.length:Int)))
   (.r false)
   (.c (decide (32<(d.fParadigms.length:Int)))
    (.r false)
    (.b (r09_Valid d.fAlphabet d.fLexemes) fun i=>
     .c (!i)
     (.r false)
     (.j (.c1 d 0)))))
def st:Pt->Tr Pt (Bool)
 | .c3 d h=>
  .c (decide (h<(d.fParadigms.length:Int)))
  (.c (decide (0<=h)&&decide (h<(d.fParadigms.length:Int)))
   (.b (r10_Valid d.fAlphabet (d.fParadigms.getD h.toNat default)) fun o=>
    .c (!o)
    (.r false)
    (.j (.c3 d (IntKind.i64.wrap (h+1))))) .n)
  (.r true)
 | .c2 d=>
  .j (.c3 d 0)
 | .c1 d e=>
  .c (decide (e<(d.fRules.length:Int)))
  (.c (decide (0<=e)&&decide (e<(d.fRules.length:Int)))
   (.b (r07_Valid d.fAlphabet (d.fRules.getD e.toNat default)) fun m=>
    .c (!m)
    (.r false)
    (.j (.c1 d (IntKind.i64.wrap (e+1))))) .n)
  (.j (.c2 d))
def pt:Pt->List Dir×St E
 | .c3 d h=>([.r,.r,.r,.l,.r,.k],ms 61 61 [(1,hP 1),(4,hI h)] [(1,.cells [cL (.st .aLetter) d.fAlphabet,cL (.st .aRule) d.fRules,cL (.st .aParadigm) d.fParadigms,cL (.st .aLexeme) d.fLexemes])])
 | .c2 d=>([.r,.r],ms 61 61 [(1,hP 1)] [(1,.cells [cL (.st .aLetter) d.fAlphabet,cL (.st .aRule) d.fRules,cL (.st .aParadigm) d.fParadigms,cL (.st .aLexeme) d.fLexemes])])
 | .c1 d e=>([.r,.r,.l,.r,.k],ms 61 61 [(1,hP 1),(3,hI e)] [(1,.cells [cL (.st .aLetter) d.fAlphabet,cL (.st .aRule) d.fRules,cL (.st .aParadigm) d.fParadigms,cL (.st .aLexeme) d.fLexemes])])
theorem g:D.G st pt:=fun Z a=>by cases a <;> kernel_rfl
theorem g0:D.G0 go pt:=fun Z _=>by kernel_rfl
abbrev con:Con Tryz.prog E:=FD.con Tryz.func38 (by kernel_rfl) g g0
end r11_parts
def r11_parts (d:aWords):Option (Bool):=ev (r11_parts.go d) (fx r11_parts.st)
end Go.Ai.Mor
end

set_option maxRecDepth 100000
noncomputable section
namespace Go.Ai.Mor
open Go Go.Ai Go.Proofs
namespace r11_Paradigm
inductive Pt
 | c1 (e:List UInt8) (b:aWords) (d:Int)
def D:FD pd := {f:=39,fn:=Tryz.f39,q:=22,pl:=pls 10 [(2,kp [1,2,5] [(2,4)])],ps:=[(.st .aWords),.str],rs:=[(.int .i64)],ex:=[none]}
def go:(aWords×(List UInt8))->Tr Pt (Int)
 | (b,e)=>
  .j (.c1 e b 0)
def st:Pt->Tr Pt (Int)
 | .c1 e b d=>
  .c (decide (d<(b.fParadigms.length:Int)))
  (.c (decide (0<=d)&&decide (d<(b.fParadigms.length:Int)))
   (.c (decide (((b.fParadigms.getD d.toNat default).fName)=e))
    (.r d)
    (.j (.c1 e b (IntKind.i64.wrap (d+1))))) .n)
  (.r (-1))
def pt:Pt->List Dir×St E
 | .c1 e b d=>([.r,.l,.r,.k],ms 22 22 [(1,hS e),(2,hP 2),(5,hI d)] [(2,.cells [cL (.st .aLetter) b.fAlphabet,cL (.st .aRule) b.fRules,cL (.st .aParadigm) b.fParadigms,cL (.st .aLexeme) b.fLexemes])])
theorem g:D.G st pt:=fun Z a=>by cases a <;> kernel_rfl
theorem g0:D.G0 go pt:=fun Z ⟨_,_⟩=>by kernel_rfl
abbrev con:Con Tryz.prog E:=FD.con Tryz.func39 (by kernel_rfl) g g0
end r11_Paradigm
def r11_Paradigm (b:aWords) (e:List UInt8):Option (Int):=ev (r11_Paradigm.go (b,e)) (fx r11_Paradigm.st)
end Go.Ai.Mor
end

set_option maxRecDepth 100000
noncomputable section
namespace Go.Ai.Mor
open Go Go.Ai Go.Proofs
namespace r11_clash
inductive Pt
 | c1 (d:aParadigm) (e:aLexeme) (h:Int)
def D:FD pd := {f:=40,fn:=Tryz.f40,q:=23,pl:=pls 10 [(2,kp [2,3,5] [(2,3),(3,5)])],ps:=[(.st .aParadigm),(.st .aLexeme)],rs:=[.bool],ex:=[none],cs:=[r02_Index.con]}
def go:(aParadigm×aLexeme)->Tr Pt (Bool)
 | (d,e)=>
  .j (.c1 d e 0)
def st:Pt->Tr Pt (Bool)
 | .c1 d e h=>
  .c (decide (h<(d.fDimensions.length:Int)))
  (.c (decide (0<=h)&&decide (h<(d.fDimensions.length:Int)))
   (.b (r02_Index e.fFeatures ((d.fDimensions.getD h.toNat default).fName)) fun i=>
    .c (decide (0<=i))
    (.r true)
    (.j (.c1 d e (IntKind.i64.wrap (h+1))))) .n)
  (.r false)
def pt:Pt->List Dir×St E
 | .c1 d e h=>([.r,.l,.r,.k],ms 23 23 [(2,hP 2),(3,hP 3),(5,hI h)] [(2,.cells [cS d.fName,cL (.st .aDimension) d.fDimensions,cL (.sl (.st .aAffix)) d.fSlots]),(3,.cells [cS e.fID,cS e.fCategory,cS e.fStem,cS e.fParadigm,cL (.st .aFeature) e.fFeatures])])
theorem g:D.G st pt:=fun Z a=>by cases a <;> kernel_rfl
theorem g0:D.G0 go pt:=fun Z ⟨_,_⟩=>by kernel_rfl
abbrev con:Con Tryz.prog E:=FD.con Tryz.func40 (by kernel_rfl) g g0
end r11_clash
def r11_clash (d:aParadigm) (e:aLexeme):Option (Bool):=ev (r11_clash.go (d,e)) (fx r11_clash.st)
end Go.Ai.Mor
end

set_option maxRecDepth 100000
noncomputable section
namespace Go.Ai.Mor
open Go Go.Ai Go.Proofs
namespace r11_Check
inductive Pt
 | c4 (h e i:Int) (d:aWords)
 | c3 (d:aWords) (h e:Int)
 | c2 (d:aWords)
 | c1 (d:aWords) (m:Int)
def D:FD pd := {f:=15,fn:=Tryz.f15,q:=64,pl:=pls 26 [(5,kp [1,3] [(1,4)]),(11,kp [1] [(1,4)]),(14,kp [1,4,5] [(1,4)]),(21,kp [1,4,5,6,7] [(1,4),(6,5)])],ps:=[(.st .aWords)],rs:=[(.int .i64)],ex:=[none],cs:=[r11_parts.con,r11_Paradigm.con,r11_clash.con]}
def go:(aWords)->Tr Pt (Int)
 | d=>
  .b (r11_parts d) fun s=>
  .c (!s)
  (.r 1)
  (.j (.c1 d 0))
def st:Pt->Tr Pt (Int)
 | .c4 h e i d=>
  .c (!decide (((d.fLexemes.getD e.toNat default).fParadigm)=[]))
  (.c (decide (0<=i)&&decide (i<(d.fParadigms.length:Int)))
   (.b (r11_clash (d.fParadigms.getD i.toNat default) (d.fLexemes.getD e.toNat default)) fun p=>
    .c p
    (.j (.c3 d 11 (IntKind.i64.wrap (e+1))))
    (.j (.c3 d h (IntKind.i64.wrap (e+1))))) .n)
  (.j (.c3 d h (IntKind.i64.wrap (e+1))))
 | .c3 d h e=>
  .c (decide (e<(d.fLexemes.length:Int)))
  (.c (decide (0<=e)&&decide (e<(d.fLexemes.length:Int)))
   (.b (r11_Paradigm d ((d.fLexemes.getD e.toNat default).fParadigm)) fun i=>
    .c (!decide (((d.fLexemes.getD e.toNat default).fParadigm)=[]))
    (.c (decide (i<0))
     (.r 4)
     (.j (.c4 h e i d)))
    (.j (.c4 h e i d))) .n)
  (.r h)
 | .c2 d=>
  .j (.c3 d 0 0)
 | .c1 d m=>
  .c (decide (m<(d.fParadigms.length:Int)))
  (.c (decide (0<=m)&&decide (m<(d.fParadigms.length:Int)))
   (.b (r11_Paradigm d ((d.fParadigms.getD m.toNat default).fName)) fun o=>
    .c (!decide (o=m))
    (.r 5)
    (.j (.c1 d (IntKind.i64.wrap (m+1))))) .n)
  (.j (.c2 d))
def pt:Pt->List Dir×St E
 | .c4 h e i d=>([.r,.r,.r,.r,.l,.r,.k,.L,.r,.l,.k,.r,.r],ms 64 64 [(1,hP 1),(4,hI h),(5,hI e),(6,hP 6),(7,hI i)] [(1,.cells [cL (.st .aLetter) d.fAlphabet,cL (.st .aRule) d.fRules,cL (.st .aParadigm) d.fParadigms,cL (.st .aLexeme) d.fLexemes]),(6,.cells [cS ((d.fLexemes.getD e.toNat default).fID),cS ((d.fLexemes.getD e.toNat default).fCategory),cS ((d.fLexemes.getD e.toNat default).fStem),cS ((d.fLexemes.getD e.toNat default).fParadigm),cL (.st .aFeature) ((d.fLexemes.getD e.toNat default).fFeatures)])])
 | .c3 d h e=>([.r,.r,.r,.r,.l,.r,.k],ms 64 64 [(1,hP 1),(4,hI h),(5,hI e)] [(1,.cells [cL (.st .aLetter) d.fAlphabet,cL (.st .aRule) d.fRules,cL (.st .aParadigm) d.fParadigms,cL (.st .aLexeme) d.fLexemes])])
 | .c2 d=>([.r,.r],ms 64 64 [(1,hP 1)] [(1,.cells [cL (.st .aLetter) d.fAlphabet,cL (.st .aRule) d.fRules,cL (.st .aParadigm) d.fParadigms,cL (.st .aLexeme) d.fLexemes])])
 | .c1 d m=>([.r,.r,.l,.r,.k],ms 64 64 [(1,hP 1),(3,hI m)] [(1,.cells [cL (.st .aLetter) d.fAlphabet,cL (.st .aRule) d.fRules,cL (.st .aParadigm) d.fParadigms,cL (.st .aLexeme) d.fLexemes])])
theorem g:D.G st pt:=fun Z a=>by cases a <;> kernel_rfl
theorem g0:D.G0 go pt:=fun Z _=>by kernel_rfl
abbrev con:Con Tryz.prog E:=FD.con Tryz.func15 (by kernel_rfl) g g0
end r11_Check
def r11_Check (d:aWords):Option (Int):=ev (r11_Check.go d) (fx r11_Check.st)
end Go.Ai.Mor
end

namespace Go.Ai.Mor
open Go Go.Ai
structure OkW (w:aWords):Prop where
 al:w.fAlphabet.length<=1048576
 rl:w.fRules.length<=1048576
 rules:∀ r ∈ w.fRules,okRule r
 pl:w.fParadigms.length<=1048576
 pars:∀ p ∈ w.fParadigms,OkP p
 ll:w.fLexemes.length<=1048576
 lexs:∀ x ∈ w.fLexemes,okLex x
def parP (w:aWords) (n:List UInt8):Option aParadigm:=w.fParadigms.find? fun p=>decide (p.fName=n)
def partsB (w:aWords):Bool:=alphaB w.fAlphabet&&(decide (w.fRules.length<=64)&&(decide (w.fParadigms.length<=32)&&(w.fRules.all (ruleB w.fAlphabet)&&(w.fParadigms.all (parB w.fAlphabet)&&lexsB w.fAlphabet w.fLexemes))))
def parF (all:List aParadigm):Nat->List aParadigm->Bool
 | _,[]=>true
 | i,p::t => !((all.take i).any fun q=>decide (q.fName=p.fName))&&parF all (i+1) t
def missB (w:aWords) (x:aLexeme):Bool := !decide (x.fParadigm=[])&&(parP w x.fParadigm).isNone
def clashB (p:aParadigm) (x:aLexeme):Bool:=p.fDimensions.any fun d=>x.fFeatures.any fun f=>decide (f.fName=d.fName)
def clashW (w:aWords) (x:aLexeme):Bool := !decide (x.fParadigm=[])&&(match parP w x.fParadigm with | some p=>clashB p x | none=>false)
def checkS (w:aWords):Int:=cond (partsB w) (cond (parF w.fParadigms 0 w.fParadigms) (cond (w.fLexemes.any (missB w)) 4 (cond (w.fLexemes.any (clashW w)) 11 0)) 5) 1
theorem words_paradigm_eq {w:aWords} (hw:OkW w) (n:List UInt8):morphology_words_paradigm ⟨w⟩ n=some ((parP w n).getD ⟨[],[],[]⟩,(parP w n).isSome):=by
 have hl:=hw.pl
 exact over (xs:=w.fParadigms) (f:=fun i (_:Unit)=>fx morphology_words_paradigm.st (.c1 n ⟨w⟩ i)) (g:=fun t _=>some ((t.find? fun p=>decide (p.fName=n)).getD ⟨[],[],[]⟩,(t.find? fun p=>decide (p.fName=n)).isSome)) (fun _=>by
  rw [fx_eq]; simp only [morphology_words_paradigm.st,evs,ev_b,↓cneg (Int.lt_irrefl _),fx_eq morphology_words_paradigm.st .c2]; rfl) (fun i x t _ hi hx ih=>by
  have ih:=ih ()
  rw [fx_eq]; simp (disch:=omega) only [morphology_words_paradigm.st,evs,ev_b,↓cpos,↓cpos2,Int.toNat_natCast,hx,wsucc,ih,List.find?_cons]
  cases decide (x.fName=n) <;> rfl) ()
theorem words_parts_eq {w:aWords} (hw:OkW w):morphology_words_parts ⟨w⟩=some (partsB w):=by
 have h4:fx morphology_words_parts.st (.c4 ⟨w⟩)=some (lexsB w.fAlphabet w.fLexemes):=by
  rw [fx_eq]; simp only [morphology_words_parts.st,evs,ev_b,lexicon_Valid_eq hw.al hw.ll hw.lexs,Option.bind_some]
 have hl:=hw.pl
 have h3:=over (xs:=w.fParadigms) (f:=fun i (_:Unit)=>fx morphology_words_parts.st (.c3 ⟨w⟩ i)) (g:=fun t _=>some (t.all (parB w.fAlphabet)&&lexsB w.fAlphabet w.fLexemes)) (fun _=>by
  rw [fx_eq]; simp only [morphology_words_parts.st,evs,ev_b,↓cneg (Int.lt_irrefl _),h4,List.all_nil,Bool.true_and]) (fun i x t _ hi hx ih=>by
  have ih:=ih ()
  have hp:=hw.pars x (by rw [<- hx]; exact getD_mem hi)
  rw [fx_eq]; simp (disch:=omega) only [morphology_words_parts.st,evs,ev_b,↓cpos,↓cpos2,Int.toNat_natCast,hx,paradigm_Valid_eq hw.al hp,Option.bind_some,cnot,wsucc,ih,List.all_cons]
  cases parB w.fAlphabet x <;> rfl) ()
 have hrl:=hw.rl
 have h1:=over (xs:=w.fRules) (f:=fun i (_:Unit)=>fx morphology_words_parts.st (.c1 ⟨w⟩ i)) (g:=fun t _=>some (t.all (ruleB w.fAlphabet)&&(w.fParadigms.all (parB w.fAlphabet)&&lexsB w.fAlphabet w.fLexemes))) (fun _=>by
  rw [fx_eq]; simp only [morphology_words_parts.st,evs,ev_b,↓cneg (Int.lt_irrefl _),fx_eq morphology_words_parts.st (.c2 ..),List.all_nil,Bool.true_and]
  exact h3) (fun i x t _ hi hx ih=>by
  have ih:=ih ()
  have hr:=hw.rules x (by rw [<- hx]; exact getD_mem hi)
  rw [fx_eq]; simp (disch:=omega) only [morphology_words_parts.st,evs,ev_b,↓cpos,↓cpos2,Int.toNat_natCast,hx,rewrite_Valid_eq hw.al hr,Option.bind_some,cnot,wsucc,ih,List.all_cons]
  cases ruleB w.fAlphabet x <;> rfl) ()
 simp only [morphology_words_parts,morphology_words_parts.go,evs,ev_b,alphabet_Valid_eq hw.al,Option.bind_some,cnot,partsB]
 cases alphaB w.fAlphabet with
 | false=>rfl
 | true=>
   by_cases h64:w.fRules.length<=64
   ·by_cases h32:w.fParadigms.length<=32
    ·rw [cneg (by omega),cneg (by omega)]
     simp only [cond_true,h64,h32,decide_true,Bool.true_and]
     exact h1
    ·rw [cneg (by omega),cpos (by omega)]; simp [h32]
   ·rw [cpos (by omega)]; simp [h64]
theorem ref11_parts_eq {w:aWords} (hw:OkW w):r11_parts w=some (partsB w):=by
 have hl:=hw.pl
 have h3:=over (xs:=w.fParadigms) (f:=fun i (_:Unit)=>fx r11_parts.st (.c3 w i)) (g:=fun t _=>some (t.all (parB w.fAlphabet))) (fun _=>by
  rw [fx_eq]; simp only [r11_parts.st,evs,ev_b,↓cneg (Int.lt_irrefl _),List.all_nil]) (fun i x t _ hi hx ih=>by
  have ih:=ih ()
  have hp:=hw.pars x (by rw [<- hx]; exact getD_mem hi)
  rw [fx_eq]; simp (disch:=omega) only [r11_parts.st,evs,ev_b,↓cpos,↓cpos2,Int.toNat_natCast,hx,ref10_Valid_eq hw.al hp,Option.bind_some,cnot,wsucc,ih,List.all_cons]
  cases parB w.fAlphabet x <;> rfl) ()
 have hrl:=hw.rl
 have h1:=over (xs:=w.fRules) (f:=fun i (_:Unit)=>fx r11_parts.st (.c1 w i)) (g:=fun t _=>some (t.all (ruleB w.fAlphabet)&&w.fParadigms.all (parB w.fAlphabet))) (fun _=>by
  rw [fx_eq]; simp only [r11_parts.st,evs,ev_b,↓cneg (Int.lt_irrefl _),fx_eq r11_parts.st (.c2 ..),List.all_nil,Bool.true_and]
  exact h3) (fun i x t _ hi hx ih=>by
  have ih:=ih ()
  have hr:=hw.rules x (by rw [<- hx]; exact getD_mem hi)
  rw [fx_eq]; simp (disch:=omega) only [r11_parts.st,evs,ev_b,↓cpos,↓cpos2,Int.toNat_natCast,hx,ref07_Valid_eq hw.al hr,Option.bind_some,cnot,wsucc,ih,List.all_cons]
  cases ruleB w.fAlphabet x <;> rfl) ()
 simp only [r11_parts,r11_parts.go,evs,ev_b,ref01_Valid_eq hw.al,ref09_Valid_eq hw.al hw.ll hw.lexs,Option.bind_some,cnot,partsB]
 cases alphaB w.fAlphabet with
 | false=>rfl
 | true=>
   by_cases h64:w.fRules.length<=64
   ·by_cases h32:w.fParadigms.length<=32
    ·rw [cneg (by omega),cneg (by omega)]
     simp only [cond_true,h64,h32,decide_true,Bool.true_and]
     cases lexsB w.fAlphabet w.fLexemes with
     | false=>simp
     | true=>simp only [cond_true,Bool.and_true]; exact h1
    ·rw [cneg (by omega),cpos (by omega)]; simp [h32]
   ·rw [cpos (by omega)]; simp [h64]
theorem ref11_Paradigm_eq {w:aWords} (hw:OkW w) (n:List UInt8):r11_Paradigm w n=some (fstIdx (fun p:aParadigm=>decide (p.fName=n)) w.fParadigms 0):=by
 have hl:=hw.pl
 exact overI (xs:=w.fParadigms) (f:=fun i (_:Unit)=>fx r11_Paradigm.st (.c1 n w i)) (g:=fun i t _=>some (fstIdx (fun p:aParadigm=>decide (p.fName=n)) t i)) (fun _=>by
  rw [fx_eq]; simp only [r11_Paradigm.st,evs,ev_b,↓cneg (Int.lt_irrefl _),fstIdx]) (fun i x t _ hi hx _ _ ih=>by
  have ih:=ih ()
  rw [fx_eq]; simp (disch:=omega) only [r11_Paradigm.st,evs,ev_b,↓cpos,↓cpos2,Int.toNat_natCast,hx,wsucc,ih,fstIdx]
  cases decide (x.fName=n) <;> rfl) ()
theorem ref11_clash_eq {p:aParadigm} (hp:OkP p) {x:aLexeme} (hx:okLex x):r11_clash p x=some (clashB p x):=by
 have hl:=hp.dims.1
 exact over (xs:=p.fDimensions) (f:=fun i (_:Unit)=>fx r11_clash.st (.c1 p x i)) (g:=fun t _=>some (t.any fun d=>x.fFeatures.any fun f=>decide (f.fName=d.fName))) (fun _=>by
  rw [fx_eq]; simp only [r11_clash.st,evs,ev_b,↓cneg (Int.lt_irrefl _),List.any_nil]) (fun i d t _ hi hd ih=>by
  have ih:=ih ()
  rw [fx_eq]; simp (disch:=omega) only [r11_clash.st,evs,ev_b,↓cpos,↓cpos2,Int.toNat_natCast,hd,ref02_Index_eq hx.feat.1,Option.bind_some,fstIdx_nonneg,wsucc,ih,List.any_cons]
  cases x.fFeatures.any (fun f=>decide (f.fName=d.fName)) <;> rfl) ()
theorem morphology_Check_eq {w:aWords} (hw:OkW w):morphology_Check w=some (checkS w):=by
 have hpl:=hw.pl
 have hll:=hw.ll
 have hwp:=fun n=>words_paradigm_eq hw n
 have h6:fx morphology_Check.st (.c6 w 0)=some (cond (w.fLexemes.any (clashW w)) 11 0):=
  over (xs:=w.fLexemes) (f:=fun i (_:Unit)=>fx morphology_Check.st (.c6 w i)) (g:=fun t _=>some (cond (t.any (clashW w)) 11 0)) (fun _=>by
   rw [fx_eq]; simp only [morphology_Check.st,evs,ev_b,↓cneg (Int.lt_irrefl _),List.any_nil,cond_false]) (fun e x t _ he hx ih=>by
   have ih:=ih ()
   have hxo:=hw.lexs x (by rw [<- hx]; exact getD_mem he)
   have hfl:=hxo.feat.1
   rw [fx_eq]; simp (disch:=omega) only [morphology_Check.st,evs,ev_b,↓cpos,↓cpos2,Int.toNat_natCast,hx,hwp,Option.bind_some,wsucc,ih,List.any_cons,clashW]
   cases hn:decide (x.fParadigm=[]) with
   | true=>simp
   | false=>
     simp only [cond_false,Bool.not_false,Bool.true_and]
     have h7:∀ i:aParadigm×Bool,i.1.fDimensions.length<=1048576->fx morphology_Check.st (.c7 i w e 0)=cond (clashB i.1 x) (some 11) (fx morphology_Check.st (.c6 w ((e+1:Nat):Int))):=fun i hil=>
      over (xs:=i.1.fDimensions) (f:=fun m (_:Unit)=>fx morphology_Check.st (.c7 i w e m)) (g:=fun t _=>cond (t.any fun d=>x.fFeatures.any fun f=>decide (f.fName=d.fName)) (some 11) (fx morphology_Check.st (.c6 w ((e+1:Nat):Int)))) (fun _=>by
       rw [fx_eq]; simp (disch:=omega) only [morphology_Check.st,evs,ev_b,↓cneg (Int.lt_irrefl _),List.any_nil,cond_false,wsucc]) (fun m d t _ hm hd ih=>by
       have ih:=ih ()
       have h8:fx morphology_Check.st (.c8 i w e m 0)=cond (x.fFeatures.any fun f=>decide (f.fName=d.fName)) (some 11) (fx morphology_Check.st (.c7 i w e ((m+1:Nat):Int))):=
        over (xs:=x.fFeatures) (f:=fun s (_:Unit)=>fx morphology_Check.st (.c8 i w e m s)) (g:=fun t _=>cond (t.any fun f=>decide (f.fName=d.fName)) (some 11) (fx morphology_Check.st (.c7 i w e ((m+1:Nat):Int)))) (fun _=>by
         rw [fx_eq]; simp (disch:=omega) only [morphology_Check.st,evs,ev_b,Int.toNat_natCast,hx,↓cneg (Int.lt_irrefl _),List.any_nil,cond_false,wsucc]; rfl) (fun s f t _ hs hf ih=>by
         have ih:=ih ()
         rw [fx_eq]; simp (disch:=omega) only [morphology_Check.st,evs,ev_b,Int.toNat_natCast,hx,hf,hd,↓cpos,↓cpos2,List.any_cons,wsucc,ih]
         cases decide (f.fName=d.fName) <;> rfl) ()
       rw [fx_eq]; simp (disch:=omega) only [morphology_Check.st,evs,ev_b,↓cpos,↓cpos2,h8,ih,List.any_cons]
       cases x.fFeatures.any (fun f=>decide (f.fName=d.fName)) <;> rfl) ()
     cases hp:parP w x.fParadigm with
     | none=>
       rw [h7 _ (by simp),ih]
       rfl
     | some p=>
       have hpo:=hw.pars p (List.mem_of_find?_eq_some hp)
       rw [h7 _ hpo.dims.1,ih]
       simp only [Option.getD_some]
       cases clashB p x <;> rfl) ()
 have h4:fx morphology_Check.st (.c4 w 0)=some (cond (w.fLexemes.any (missB w)) 4 (cond (w.fLexemes.any (clashW w)) 11 0)):=
  over (xs:=w.fLexemes) (f:=fun i (_:Unit)=>fx morphology_Check.st (.c4 w i)) (g:=fun t _=>some (cond (t.any (missB w)) 4 (cond (w.fLexemes.any (clashW w)) 11 0))) (fun _=>by
   rw [fx_eq]; simp only [morphology_Check.st,evs,ev_b,↓cneg (Int.lt_irrefl _),fx_eq morphology_Check.st (.c5 ..),h6,List.any_nil,cond_false]) (fun e x t _ he hx ih=>by
   have ih:=ih ()
   rw [fx_eq]; simp (disch:=omega) only [morphology_Check.st,evs,ev_b,↓cpos,↓cpos2,Int.toNat_natCast,hx,hwp,Option.bind_some,wsucc,ih,List.any_cons,missB]
   cases parP w x.fParadigm <;> cases decide (x.fParadigm=[]) <;> rfl) ()
 have h1:fx morphology_Check.st (.c1 w 0)=some (cond (parF w.fParadigms 0 w.fParadigms) (cond (w.fLexemes.any (missB w)) 4 (cond (w.fLexemes.any (clashW w)) 11 0)) 5):=
  overI (xs:=w.fParadigms) (f:=fun i (_:Unit)=>fx morphology_Check.st (.c1 w i)) (g:=fun i t _=>some (cond (parF w.fParadigms i t) (cond (w.fLexemes.any (missB w)) 4 (cond (w.fLexemes.any (clashW w)) 11 0)) 5)) (fun _=>by
   rw [fx_eq]; simp only [morphology_Check.st,evs,ev_b,↓cneg (Int.lt_irrefl _),fx_eq morphology_Check.st (.c3 ..),h4,parF,cond_true]) (fun h p t _ hh hp _ _ ih=>by
   have ih:=ih ()
   have hlen:(w.fParadigms.take h).length=h:=by rw [List.length_take]; omega
   have h2:fx morphology_Check.st (.c2 w h 0)=cond ((w.fParadigms.take h).any fun q=>decide (q.fName=p.fName)) (some 5) (fx morphology_Check.st (.c1 w ((h+1:Nat):Int))):=
    over (xs:=w.fParadigms.take h) (f:=fun i (_:Unit)=>fx morphology_Check.st (.c2 w h i)) (g:=fun t _=>cond (t.any fun q=>decide (q.fName=p.fName)) (some 5) (fx morphology_Check.st (.c1 w ((h+1:Nat):Int)))) (fun _=>by
     rw [fx_eq]; simp (disch:=omega) only [morphology_Check.st,evs,ev_b,Int.toNat_natCast,↓cneg (Int.lt_irrefl _),List.any_nil,cond_false,wsucc]; rfl) (fun q y t _ hq hy ih=>by
     have ih:=ih ()
     rw [fx_eq]; simp (disch:=omega) only [morphology_Check.st,evs,ev_b,Int.toNat_natCast,↓cpos,↓cpos2,hy,hp,List.any_cons,wsucc,ih]
     cases decide (y.fName=p.fName) <;> rfl) ()
   rw [fx_eq]; simp (disch:=omega) only [morphology_Check.st,evs,ev_b,↓cpos,↓cpos2,h2,ih,parF]
   cases (w.fParadigms.take h).any (fun q=>decide (q.fName=p.fName)) <;> rfl) ()
 simp only [morphology_Check,morphology_Check.go,evs,ev_b,words_parts_eq hw,Option.bind_some,cnot,h1,checkS]
 cases partsB w <;> rfl
theorem ref11_Check_eq {w:aWords} (hw:OkW w):r11_Check w=some (checkS w):=by
 have hpl:=hw.pl
 have hll:=hw.ll
 have h3:fx r11_Check.st (.c3 w 0 0)=some (cond (w.fLexemes.any (missB w)) 4 (cond (w.fLexemes.any (clashW w)) 11 0)):=
  over (xs:=w.fLexemes) (f:=fun i (h:Int)=>fx r11_Check.st (.c3 w h i)) (g:=fun t h=>some (cond (t.any (missB w)) 4 (cond (t.any (clashW w)) 11 h))) (fun h=>by
   rw [fx_eq]; simp only [r11_Check.st,evs,ev_b,↓cneg (Int.lt_irrefl _),List.any_nil,cond_false]) (fun e x t h he hx ih=>by
   have hxo:=hw.lexs x (by rw [<- hx]; exact getD_mem he)
   rw [fx_eq]; simp (disch:=omega) only [r11_Check.st,evs,ev_b,fx_eq r11_Check.st (.c4 ..),↓cpos,↓cpos2,Int.toNat_natCast,hx,ref11_Paradigm_eq hw,Option.bind_some,wsucc,ih,List.any_cons,missB,clashW,parP,cnot]
   cases hn:decide (x.fParadigm=[]) with
   | true=>simp
   | false=>
     rcases fst_find (fun p:aParadigm=>decide (p.fName=x.fParadigm)) w.fParadigms with ⟨h1,h2⟩ | ⟨j,h1,h2,h3⟩
     ·rw [h1,h2]; rfl
     ·rw [h3,h2]
      have hpo:=hw.pars _ (getD_mem h1)
      simp (disch:=omega) only [↓cneg,↓cpos2,Int.toNat_natCast,ref11_clash_eq hpo hxo,Option.bind_some,cond_false,Bool.not_false,Bool.true_and,Option.isNone_some,Bool.false_or]
      cases clashB (w.fParadigms.getD j default) x with
      | false=>simp
      | true=>simp) 0
 have h1:fx r11_Check.st (.c1 w 0)=some (cond (parF w.fParadigms 0 w.fParadigms) (cond (w.fLexemes.any (missB w)) 4 (cond (w.fLexemes.any (clashW w)) 11 0)) 5):=
  overI (xs:=w.fParadigms) (f:=fun i (_:Unit)=>fx r11_Check.st (.c1 w i)) (g:=fun i t _=>some (cond (parF w.fParadigms i t) (cond (w.fLexemes.any (missB w)) 4 (cond (w.fLexemes.any (clashW w)) 11 0)) 5)) (fun _=>by
   rw [fx_eq]; simp only [r11_Check.st,evs,ev_b,↓cneg (Int.lt_irrefl _),fx_eq r11_Check.st (.c2 ..),h3,parF,cond_true]) (fun h p t _ hh hp _ _ ih=>by
   have ih:=ih ()
   have hf:=fst_at (p:=fun q:aParadigm=>decide (q.fName=p.fName)) hh (by rw [hp]; simp)
   rw [fx_eq]; simp (disch:=omega) only [r11_Check.st,evs,ev_b,↓cpos,↓cpos2,Int.toNat_natCast,hp,ref11_Paradigm_eq hw,Option.bind_some,cnot,hf,ih,wsucc,parF]
   cases (w.fParadigms.take h).any (fun q=>decide (q.fName=p.fName)) <;> rfl) ()
 simp only [r11_Check,r11_Check.go,evs,ev_b,ref11_parts_eq hw,Option.bind_some,cnot,h1,checkS]
 cases partsB w <;> rfl
end Go.Ai.Mor

namespace Go.Ai
section
variable {ι β γ:Type} (rep:ι->Bool) (adm:ι->β->Bool)
def mtR (a:β->Bool) (f:List β->Bool):List β->Bool
 | []=>f []
 | c::s=>f (c::s)||(a c&&mtR a f s)
def mt:List ι->List β->Bool
 | [],s=>s.isEmpty
 | x::p,s=>cond (rep x) (mtR (adm x) (mt p) s) (match s with | []=>false | c::s=>adm x c&&mt p s)
theorem mt_nil (s:List β):mt rep adm [] s=s.isEmpty:=by simp only [mt]
theorem mt_cons_nil (x:ι) (p:List ι):mt rep adm (x::p) []=(rep x&&mt rep adm p []):=by
 simp only [mt]; cases rep x <;> rfl
theorem mt_cons (x:ι) (p:List ι) (c:β) (s:List β):mt rep adm (x::p) (c::s)=((rep x&&mt rep adm p (c::s))||(adm x c&&cond (rep x) (mt rep adm (x::p) s) (mt rep adm p s))):=by
 cases h:rep x with
 | true=>simp only [mt,h,mtR,cond_true,Bool.true_and]
 | false=>simp only [mt,h,cond_false,Bool.false_and,Bool.false_or]
theorem mt_rep {x:ι} (h:rep x=true) (p:List ι):∀ s:List β,mt rep adm p s=true->mt rep adm (x::p) s=true
 | [],hs=>by rw [mt_cons_nil,h,hs]; rfl
 | c::s,hs=>by rw [mt_cons,h,hs]; rfl
theorem mt_congr {adm' : ι->β->Bool} : ∀ (p:List ι) (s:List β),(∀ x ∈ p,∀ c ∈ s,adm x c=adm' x c)->mt rep adm p s=mt rep adm' p s
 | [],s,_=>by rw [mt_nil,mt_nil]
 | x::p,s,h=>by
   induction s with
   | nil=>rw [mt_cons_nil,mt_cons_nil,mt_congr p [] fun y hy=>h y (List.mem_cons_of_mem _ hy)]
   | cons c s ih=>
     rw [mt_cons,mt_cons,ih fun y hy d hd=>h y hy d (List.mem_cons_of_mem _ hd),mt_congr p (c::s) fun y hy=>h y (List.mem_cons_of_mem _ hy),mt_congr p s fun y hy d hd=>h y (List.mem_cons_of_mem _ hy) d (List.mem_cons_of_mem _ hd),h x (by simp) c (by simp)]
theorem mt_map (f:γ->β):∀ (p:List ι) (s:List γ),mt rep adm p (s.map f)=mt rep (fun x c=>adm x (f c)) p s
 | [],s=>by rw [mt_nil,mt_nil]; cases s <;> rfl
 | x::p,s=>by
   induction s with
   | nil=>rw [List.map_nil,mt_cons_nil,mt_cons_nil]; have:=mt_map f p []; rw [List.map_nil] at this; rw [this]
   | cons c s ih=>rw [List.map_cons,mt_cons,mt_cons,ih,mt_map f p s]; have:=mt_map f p (c::s); rw [List.map_cons] at this; rw [this]
def one (x:ι) (s:List β):Prop:=(rep x=true /\ ∀ c ∈ s,adm x c=true)\/(rep x=false /\ ∃ c,s=[c]/\adm x c=true)
theorem mt_one (x:ι) (p:List ι) (s:List β):mt rep adm (x::p) s=true ↔ ∃ s1 s2,s=s1++s2/\one rep adm x s1/\mt rep adm p s2=true:=by
 cases h:rep x with
 | false=>
   cases s with
   | nil=>
     rw [mt_cons_nil,h]
     simp only [Bool.false_and,Bool.false_eq_true,false_iff]
     rintro ⟨s1,s2,e,ho,_⟩
     rcases ho with ⟨ho,_⟩ | ⟨_,c,rfl,_⟩
     ·rw [h] at ho; cases ho
     ·simp at e
   | cons c s=>
     rw [mt_cons,h]
     simp only [Bool.false_and,Bool.false_or,cond_false,Bool.and_eq_true]
     constructor
     ·rintro ⟨h1,h2⟩
      exact ⟨[c],s,rfl,.inr ⟨h,c,rfl,h1⟩,h2⟩
     ·rintro ⟨s1,s2,e,ho,h2⟩
      rcases ho with ⟨ho,_⟩ | ⟨_,d,rfl,h1⟩
      ·rw [h] at ho; cases ho
      ·simp only [List.singleton_append,List.cons.injEq] at e
       rw [e.1,e.2]; exact ⟨h1,h2⟩
 | true=>
   induction s with
   | nil=>
     rw [mt_cons_nil,h,Bool.true_and]
     constructor
     ·intro hp; exact ⟨[],[],rfl,.inl ⟨h,fun c hc=>by cases hc⟩,hp⟩
     ·rintro ⟨s1,s2,e,_,hp⟩
      have:s2=[]:=(List.append_eq_nil_iff.1 e.symm).2
      rw [this] at hp; exact hp
   | cons c s ih=>
     rw [mt_cons,h]
     simp only [Bool.true_and,cond_true,Bool.or_eq_true,Bool.and_eq_true,ih]
     constructor
     ·rintro (hp | ⟨hc,s1,s2,e,ho,hp⟩)
      ·exact ⟨[],c::s,rfl,.inl ⟨h,fun c hc=>by cases hc⟩,hp⟩
      ·refine ⟨c::s1,s2,by rw [e]; rfl,.inl ⟨h,fun d hd => ?_⟩,hp⟩
       rcases ho with ⟨_,ho⟩ | ⟨ho,_⟩
       ·rcases List.mem_cons.1 hd with rfl | hd
        ·exact hc
        ·exact ho d hd
       ·rw [h] at ho; cases ho
     ·rintro ⟨s1,s2,e,ho,hp⟩
      rcases ho with ⟨_,ho⟩ | ⟨ho,_⟩
      ·cases s1 with
       | nil=>rw [List.nil_append] at e; rw [e]; exact .inl hp
       | cons d s1=>
         simp only [List.cons_append,List.cons.injEq] at e
         refine .inr ⟨by rw [e.1]; exact ho d (by simp),s1,s2,e.2,.inl ⟨h,fun y hy=>ho y (List.mem_cons_of_mem _ hy)⟩,hp⟩
      ·rw [h] at ho; cases ho
theorem mt_snoc (x:ι):∀ (p:List ι) (s:List β),mt rep adm (p++[x]) s=true ↔ ∃ s1 s2,s=s1++s2/\mt rep adm p s1=true/\one rep adm x s2
 | [],s=>by
   rw [List.nil_append,mt_one]
   constructor
   ·rintro ⟨s1,s2,e,ho,h⟩
    rw [mt_nil,List.isEmpty_iff] at h
    subst h
    exact ⟨[],s1,by rw [e]; simp,by rw [mt_nil]; rfl,ho⟩
   ·rintro ⟨s1,s2,e,h,ho⟩
    rw [mt_nil,List.isEmpty_iff] at h
    subst h
    exact ⟨s2,[],by rw [e]; simp,ho,by rw [mt_nil]; rfl⟩
 | y::p,s=>by
   rw [List.cons_append,mt_one]
   constructor
   ·rintro ⟨s1,s2,e,ho,h⟩
    obtain ⟨t1,t2,e2,h1,h2⟩:=(mt_snoc x p s2).1 h
    exact ⟨s1++t1,t2,by rw [e,e2,List.append_assoc],(mt_one rep adm y p _).2 ⟨s1,t1,rfl,ho,h1⟩,h2⟩
   ·rintro ⟨s1,s2,e,h,ho⟩
    obtain ⟨t1,t2,e2,h1,h2⟩:=(mt_one rep adm y p s1).1 h
    exact ⟨t1,t2++s2,by rw [e,e2,List.append_assoc],h1,(mt_snoc x p _).2 ⟨t2,s2,rfl,h2,ho⟩⟩
theorem one_reverse {x:ι} {s:List β} (h:one rep adm x s):one rep adm x s.reverse:=by
 rcases h with ⟨h,ho⟩ | ⟨h,c,rfl,hc⟩
 ·exact .inl ⟨h,fun c hc=>ho c (List.mem_reverse.1 hc)⟩
 ·exact .inr ⟨h,c,rfl,hc⟩
theorem mt_reverse:∀ (p:List ι) (s:List β),mt rep adm p.reverse s.reverse=mt rep adm p s
 | [],s=>by rw [List.reverse_nil,mt_nil,mt_nil]; cases s <;> simp
 | x::p,s=>by
   rw [Bool.eq_iff_iff,List.reverse_cons,mt_snoc,mt_one]
   constructor
   ·rintro ⟨s1,s2,e,h,ho⟩
    refine ⟨s2.reverse,s1.reverse,?_,one_reverse rep adm ho,?_⟩
    ·have:=congrArg List.reverse e; simpa using this
    ·rw [<- mt_reverse p,List.reverse_reverse]; exact h
   ·rintro ⟨s1,s2,e,ho,h⟩
    exact ⟨s2.reverse,s1.reverse,by rw [e]; simp,by rw [mt_reverse p]; exact h,one_reverse rep adm ho⟩
def acc (S:Nat->Bool) (p:List ι) (r:List β):Prop := ∃ k,k<=p.length/\S k=true/\mt rep adm (p.drop k) r=true
def Shut (S:Nat->Bool) (p:List ι):Prop := ∀ k x,p[k]? = some x->rep x=true->S k=true->S (k+1)=true
def nxt (S:Nat->Bool) (p:List ι) (c:β) (k:Nat):Bool:=
 (match p[k]? with | some x=>S k&&(adm x c&&rep x) | none=>false)||(match k with | 0=>false | j+1=>match p[j]? with | some x=>S j&&(adm x c && !rep x) | none=>false)
def cl (S:Nat->Bool) (p:List ι):Nat->Bool
 | 0=>S 0
 | k+1=>S (k+1)||(match p[k]? with | some x=>cl S p k&&rep x | none=>false)
theorem drop_at {p:List ι} {k:Nat} {x:ι} (h:p[k]? = some x):p.drop k=x::p.drop (k+1):=by
 obtain ⟨hk,e⟩:=List.getElem?_eq_some_iff.1 h
 rw [List.drop_eq_getElem_cons hk,e]
theorem shut_cl (S:Nat->Bool) (p:List ι):Shut rep (cl rep S p) p:=fun k x hx hr hk=>by
 simp only [cl,hx,hk,hr,Bool.and_self,Bool.or_true]
theorem acc_nil {S:Nat->Bool} {p:List ι} (hS:Shut rep S p):acc rep adm S p []↔S p.length=true:=by
 constructor
 ·rintro ⟨k,hk,h1,h2⟩
  have key:∀ (d k:Nat),k+d=p.length->S k=true->mt rep adm (p.drop k) []=true->S p.length=true:=by
   intro d
   induction d with
   | zero=>intro k hk h1 _; have:k=p.length:=by omega
           rw [<- this]; exact h1
   | succ d ih=>
     intro k hk h1 h2
     have hx:p[k]? = some (p[k]'(by omega)):=List.getElem?_eq_getElem (by omega)
     rw [drop_at hx,mt_cons_nil,Bool.and_eq_true] at h2
     exact ih (k+1) (by omega) (hS k _ hx h2.1 h1) h2.2
  exact key (p.length - k) k (by omega) h1 h2
 ·intro h
  exact ⟨p.length,Nat.le_refl _,h,by rw [List.drop_length,mt_nil]; rfl⟩
theorem acc_next {S:Nat->Bool} {p:List ι} (hS:Shut rep S p) (c:β) (r:List β):acc rep adm S p (c::r)↔acc rep adm (nxt rep adm S p c) p r:=by
 constructor
 ·rintro ⟨k,hk,h1,h2⟩
  have key:∀ (d k:Nat),k+d=p.length->S k=true->mt rep adm (p.drop k) (c::r)=true->acc rep adm (nxt rep adm S p c) p r:=by
   intro d
   induction d with
   | zero=>
     intro k hk h1 h2
     have:k=p.length:=by omega
     rw [this,List.drop_length,mt_nil] at h2; cases h2
   | succ d ih=>
     intro k hk h1 h2
     have hx:p[k]? = some (p[k]'(by omega)):=List.getElem?_eq_getElem (by omega)
     rw [drop_at hx,mt_cons,Bool.or_eq_true,Bool.and_eq_true,Bool.and_eq_true] at h2
     rcases h2 with ⟨h2,h3⟩ | ⟨h2,h3⟩
     ·exact ih (k+1) (by omega) (hS k _ hx h2 h1) h3
     ·cases hr:rep (p[k]'(by omega)) with
      | true=>
        rw [hr,cond_true,<- drop_at hx] at h3
        exact ⟨k,by omega,by simp only [nxt,hx,h1,h2,hr,Bool.and_self,Bool.true_or],h3⟩
      | false=>
        rw [hr,cond_false] at h3
        exact ⟨k+1,by omega,by simp only [nxt,hx,h1,h2,hr,Bool.not_false,Bool.and_self,Bool.or_true],h3⟩
  exact key (p.length - k) k (by omega) h1 h2
 ·rintro ⟨k,hk,h1,h2⟩
  simp only [nxt,Bool.or_eq_true] at h1
  rcases h1 with h1 | h1
  ·cases hx:p[k]? with
   | none=>rw [hx] at h1; cases h1
   | some x=>
     rw [hx] at h1
     simp only [Bool.and_eq_true] at h1
     refine ⟨k,hk,h1.1,?_⟩
     rw [drop_at hx] at h2 ⊢
     rw [mt_cons,h1.2.1,h1.2.2,cond_true,h2]; simp
  ·cases k with
   | zero=>cases h1
   | succ j=>
     simp only at h1
     cases hx:p[j]? with
     | none=>rw [hx] at h1; cases h1
     | some x=>
       rw [hx] at h1
       simp only [Bool.and_eq_true,Bool.not_eq_true'] at h1
       refine ⟨j,by omega,h1.1,?_⟩
       rw [drop_at hx,mt_cons,h1.2.1,h1.2.2,cond_false,h2]; simp
theorem acc_cl (S:Nat->Bool) (p:List ι) (r:List β):acc rep adm (cl rep S p) p r↔acc rep adm S p r:=by
 constructor
 ·rintro ⟨k,hk,h1,h2⟩
  induction k with
  | zero=>exact ⟨0,hk,h1,h2⟩
  | succ k ih=>
    simp only [cl,Bool.or_eq_true] at h1
    rcases h1 with h1 | h1
    ·exact ⟨k+1,hk,h1,h2⟩
    ·cases hx:p[k]? with
     | none=>rw [hx] at h1; cases h1
     | some x=>
       rw [hx] at h1
       simp only [Bool.and_eq_true] at h1
       refine ih (by omega) h1.1 ?_
       rw [drop_at hx]
       exact mt_rep rep adm h1.2 _ _ h2
 ·rintro ⟨k,hk,h1,h2⟩
  refine ⟨k,hk,?_,h2⟩
  cases k with
  | zero=>exact h1
  | succ k=>simp only [cl,h1,Bool.true_or]
def plc (p:List ι):List β->(Nat->Bool)->Nat->Bool
 | [],S=>S
 | c::s,S=>plc p s (cl rep (nxt rep adm S p c) p)
def plc0 (p:List ι):Nat->Bool:=cl rep (fun k=>decide (k=0)) p
theorem plc_snoc (p:List ι) (c:β):∀ (s:List β) (S:Nat->Bool),plc rep adm p (s++[c]) S=cl rep (nxt rep adm (plc rep adm p s S) p c) p
 | [],S=>rfl
 | d::s,S=>by rw [List.cons_append,plc,plc_snoc p c s]; rfl
theorem shut_plc (p:List ι):∀ (s:List β) (S:Nat->Bool),Shut rep S p->Shut rep (plc rep adm p s S) p
 | [],_,h=>h
 | c::s,_,_=>shut_plc p s _ (shut_cl rep _ p)
theorem acc_plc (p:List ι) (r:List β):∀ (s:List β) (S:Nat->Bool),Shut rep S p->(acc rep adm (plc rep adm p s S) p r↔acc rep adm S p (s++r))
 | [],_,_=>Iff.rfl
 | c::s,S,h=>by
   rw [plc,acc_plc p r s _ (shut_cl rep _ p),acc_cl,List.cons_append,<- acc_next rep adm h]
theorem acc_start (p:List ι) (r:List β):acc rep adm (plc0 rep p) p r↔mt rep adm p r=true:=by
 rw [plc0,acc_cl]
 constructor
 ·rintro ⟨k,_,h1,h2⟩
  have:k=0:=of_decide_eq_true h1
  rw [this,List.drop_zero] at h2; exact h2
 ·intro h; exact ⟨0,Nat.zero_le _,rfl,by rw [List.drop_zero]; exact h⟩
theorem plc_final (p:List ι) (s:List β):plc rep adm p s (plc0 rep p) p.length=mt rep adm p s:=by
 have h0:Shut rep (plc0 rep p) p:=shut_cl rep _ p
 rw [Bool.eq_iff_iff,<- acc_nil rep adm (shut_plc rep adm p s _ h0),acc_plc rep adm p [] s _ h0,acc_start,List.append_nil]
theorem plc_none (p:List ι) (s r:List β) (h:∀ k,k<=p.length->plc rep adm p s (plc0 rep p) k=false):mt rep adm p (s++r)=false:=by
 have h0:Shut rep (plc0 rep p) p:=shut_cl rep _ p
 rw [Bool.eq_false_iff]
 intro e
 obtain ⟨k,hk,h1,_⟩:=(acc_plc rep adm p r s _ h0).2 ((acc_start rep adm p _).2 e)
 rw [h k hk] at h1; cases h1
def lensF (p:List ι) (l:List β):Nat->Nat->List Nat
 | 0,_=>[]
 | d+1,i=>cond (mt rep adm p (l.take i)) (i::lensF p l d (i+1)) (lensF p l d (i+1))
def lens (p:List ι) (l:List β):List Nat:=lensF rep adm p l (l.length+1) 0
theorem lensF_none (p:List ι) (l:List β):∀ (d i:Nat),(∀ j,i<=j->mt rep adm p (l.take j)=false)->lensF rep adm p l d i=[]
 | 0,_,_=>rfl
 | d+1,i,h=>by rw [lensF,h i (Nat.le_refl _),cond_false,lensF_none p l d (i+1) fun j hj=>h j (by omega)]
theorem lensF_mem (p:List ι) (l:List β) (j:Nat):∀ (d i:Nat),j ∈ lensF rep adm p l d i↔(i<=j/\j<i+d/\mt rep adm p (l.take j)=true)
 | 0,i=>by simp [lensF]; omega
 | d+1,i=>by
   rw [lensF]
   cases h:mt rep adm p (l.take i) with
   | true=>
     simp only [cond_true,List.mem_cons,lensF_mem p l j d (i+1)]
     constructor
     ·rintro (rfl | ⟨h1,h2,h3⟩)
      ·exact ⟨Nat.le_refl _,by omega,h⟩
      ·exact ⟨by omega,by omega,h3⟩
     ·rintro ⟨h1,h2,h3⟩
      by_cases e:j=i
      ·exact .inl e
      ·exact .inr ⟨by omega,by omega,h3⟩
   | false=>
     simp only [cond_false,lensF_mem p l j d (i+1)]
     constructor
     ·rintro ⟨h1,h2,h3⟩
      exact ⟨by omega,by omega,h3⟩
     ·rintro ⟨h1,h2,h3⟩
      have:j≠i:=fun e=>by rw [e,h] at h3; cases h3
      exact ⟨by omega,by omega,h3⟩
theorem lens_mem (p:List ι) (l:List β) (j:Nat):j ∈ lens rep adm p l↔(j<=l.length/\mt rep adm p (l.take j)=true):=by
 rw [lens,lensF_mem]
 constructor
 ·rintro ⟨_,h2,h3⟩; exact ⟨by omega,h3⟩
 ·rintro ⟨h2,h3⟩; exact ⟨by omega,by omega,h3⟩
theorem lensF_len (p:List ι) (l:List β):∀ (d i:Nat),(lensF rep adm p l d i).length<=d
 | 0,_=>Nat.le_refl _
 | d+1,i=>by
   have:=lensF_len p l d (i+1)
   rw [lensF]
   cases mt rep adm p (l.take i) with
   | true=>simp only [cond_true,List.length_cons]; omega
   | false=>simp only [cond_false]; omega
theorem lensF_last (p:List ι) (l:List β):∀ (d i:Nat),i+d=l.length+1->(lensF rep adm p l d i).getLast? = some l.length\/mt rep adm p l=false\/d=0
 | 0,_,_ => .inr (.inr rfl)
 | d+1,i,h=>by
   rw [lensF]
   rcases lensF_last p l d (i+1) (by omega) with h1 | h1 | h1
   ·refine .inl ?_
    cases mt rep adm p (l.take i) with
    | true=>rw [cond_true,List.getLast?_cons,h1]; rfl
    | false=>rw [cond_false,h1]
   ·exact .inr (.inl h1)
   ·subst h1
    have:i=l.length:=by omega
    subst this
    rw [List.take_length]
    cases hm:mt rep adm p l with
    | true=>exact .inl rfl
    | false=>exact .inr (.inl rfl)
theorem lens_all (p:List ι) (l:List β):decide ((lens rep adm p l).getLast? = some l.length)=mt rep adm p l:=by
 cases h:mt rep adm p l with
 | true=>
   rcases lensF_last rep adm p l (l.length+1) 0 (by omega) with h1 | h1 | h1
   ·rw [lens,h1]; simp
   ·rw [h] at h1; cases h1
   ·omega
 | false=>
   rw [decide_eq_false_iff_not]
   intro e
   have:=(lens_mem rep adm p l _).1 (List.mem_of_getLast? e)
   rw [List.take_length,h] at this
   cases this.2
theorem lens_any (p:List ι) (l:List β):(!(lens rep adm p l).isEmpty)=(List.range (l.length+1)).any fun i=>mt rep adm p (l.take i):=by
 rw [Bool.eq_iff_iff]
 simp only [Bool.not_eq_true',List.any_eq_true,List.mem_range]
 constructor
 ·intro h
  cases hl:lens rep adm p l with
  | nil=>rw [hl] at h; cases h
  | cons j t=>
    obtain ⟨h1,h2⟩:=(lens_mem rep adm p l j).1 (by rw [hl]; simp)
    exact ⟨j,by omega,h2⟩
 ·rintro ⟨j,hj,h⟩
  have:=(lens_mem rep adm p l j).2 ⟨by omega,h⟩
  cases hl:lens rep adm p l with
  | nil=>rw [hl] at this; cases this
  | cons _ _=>rfl
theorem lens_suffix (p:List ι) (l:List β):(!(lens rep adm p.reverse l.reverse).isEmpty)=(List.range (l.length+1)).any fun i=>mt rep adm p (l.drop i):=by
 rw [lens_any,List.length_reverse,Bool.eq_iff_iff]
 simp only [List.any_eq_true,List.mem_range]
 have e:∀ i,i<=l.length->mt rep adm p.reverse (l.reverse.take i)=mt rep adm p (l.drop (l.length - i)):=fun i hi=>by
  rw [<- mt_reverse rep adm p]; congr 1
  rw [List.reverse_drop,Nat.sub_sub_self hi]
 constructor
 ·rintro ⟨i,hi,h⟩
  exact ⟨l.length - i,by omega,by rw [<- e i (by omega)]; exact h⟩
 ·rintro ⟨i,hi,h⟩
  exact ⟨l.length - i,by omega,by rw [e _ (by omega),Nat.sub_sub_self (by omega)]; exact h⟩
end
end Go.Ai

set_option maxRecDepth 100000
noncomputable section
namespace Go.Ai.Mor
open Go Go.Ai Go.Proofs
namespace rewrite_letters_isWord
inductive Pt
 | c1 (e:List aLetter) (d:List UInt8) (i:Int) (h:Nat)
def D:FD pd := {f:=133,fn:=Tryz.f133,q:=38,ps:=[(.sl (.st .aLetter)),.str],rs:=[.bool],ex:=[none],dp:=2,cs:=[unicode_utf8_ValidString.con],rcs:=[rewrite_letters_has.con],il:=[inl 0 8 82 9 Tryz.f82 (pls 15 [(6,kp [1,2,7,14] [(23,0)])]) Tryz.func82 (by kernel_rfl)]}
def go:((List aLetter)×(List UInt8))->Tr Pt (Bool)
 | (e,d)=>
  .b (unicode_utf8_ValidString d) fun m=>
  .c (!m)
  (.r false)
  (.j (.c1 e d 0 0))
def st:Pt->Tr Pt (Bool)
 | .c1 e d i h=>
  .c (decide (h<d.length))
  (.c (decide (40<(IntKind.i64.wrap (i+1))))
   (.r false)
   (.b (rewrite_letters_has e ((dec d h).1:Int)) fun n=>
    .c (!n)
    (.r false)
    (.j (.c1 e d (IntKind.i64.wrap (i+1)) (h+(dec d h).2)))))
  (.r true)
def pt:Pt->List Dir×St E
 | .c1 e d i h=>([.r,.l,.c 3 82 9 0 false,.r,.r,.r,.l,.r,.k],ms 29 38 [(1,hI 40),(2,.one (.fn (.func 81) [.tv (.sl (.st .aLetter) e)] [])),(7,hI i),(14,hP 23)] [(23,.iter d h)] 9 [] [] false 9)
theorem g:D.G st pt:=fun Z a=>by cases a <;> kernel_rfl
theorem g0:D.G0 go pt:=fun Z ⟨_,_⟩=>by kernel_rfl
abbrev con:Con Tryz.prog E:=FD.con Tryz.func133 (by kernel_rfl) g g0
end rewrite_letters_isWord
def rewrite_letters_isWord (e:List aLetter) (d:List UInt8):Option (Bool):=ev (rewrite_letters_isWord.go (e,d)) (fx rewrite_letters_isWord.st)
end Go.Ai.Mor
end

set_option maxRecDepth 100000
noncomputable section
namespace Go.Ai.Mor
open Go Go.Ai Go.Proofs
namespace rewrite_result
inductive Pt
 | c4 (e:Int) (m:List Int) (b:aRule) (o:List Int) (d:List UInt8) (t:Bool)
 | c3 (e:Int) (b:aRule) (d:List UInt8) (p:Bool) (o m:List Int)
 | c2 (e:Int) (i:List Int) (b:aRule) (h:List Int) (d:List UInt8) (p:Bool)
 | c5 (s:List Int)
 | c1 (b:aRule) (d:List UInt8) (h i:List Int) (e:Int)
def D:FD pd := {f:=145,fn:=Tryz.f145,q:=61,pl:=pls 16 [(5,kp [1,3,7,8,10] [(3,6)] [] [(9,.own (100009,0,21) (.int .i32))]),(8,kp [1,3,7,8,10,11] [(3,6)] [] [(9,.own (100009,0,21) (.int .i32))]),(11,kp [1,3,7,8,10,11] [(3,6)] [] [(9,.own (100009,0,21) (.int .i32))]),(12,kp [1,3,7,8,10,51] [(3,6)] [] [(9,.own (100009,0,21) (.int .i32))]),(14,kp [] [] [] [(9,.own (100009,0,21) (.int .i32))])],ps:=[(.st .aRule),(.sl (.int .i64)),.str],rs:=[.str],ex:=[none]}
def go:(aRule×(List Int)×(List UInt8))->Tr Pt ((List UInt8))
 | (b,u,d)=>
  .c (decide ((rns d).length<=lim))
  (.c (decide ((rns b.fTo).length<=lim))
   (.j (.c1 b d u ([]:(List Int)) 0)) .n) .n
def st:Pt->Tr Pt ((List UInt8))
 | .c4 e m b o d t=>
  .c t
  (.c (decide (0<=e)&&decide (e<((rns d).length:Int)))
   (.c (decide (m.length+([(rns d).getD e.toNat default]:List Int).length<=lim))
    (.j (.c1 b d o (m++[(rns d).getD e.toNat default]) (IntKind.i64.wrap (e+1)))) .n) .n)
  (.j (.c1 b d o m (IntKind.i64.wrap (e+1))))
 | .c3 e b d p o m=>
  .c (decide (e<((rns d).length:Int)))
  (.c (!p)
   (.j (.c4 e m b o d true))
   (.j (.c4 e m b o d (decide (b.fFrom=0)))))
  (.j (.c4 e m b o d false))
 | .c2 e i b h d p=>
  .c p
  (.c (decide (0<=1)&&decide (1<=(h.length:Int)))
   (.c (decide (i.length+(rns b.fTo).length<=lim))
    (.j (.c3 e b d p (h.drop 1) (i++(rns b.fTo)))) .n) .n)
  (.j (.c3 e b d p h i))
 | .c5 s=>
  .r (utf s)
 | .c1 b d h i e=>
  .c (decide (e<=((rns d).length:Int)))
  (.c (decide (0<(h.length:Int)))
   (.c (decide (0<=0)&&decide (0<(h.length:Int)))
    (.j (.c2 e i b h d (decide ((h.getD 0 default)=e)))) .n)
   (.j (.c2 e i b h d false)))
  (.j (.c5 i))
def pt:Pt->List Dir×St E
 | .c4 e m b o d t=>([.r,.r,.r,.r,.l,.r,.k,.L,.r,.l,.k,.r,.r],ms 61 61 [(1,hL (.int .i64) o),(3,hP 3),(7,hL (.int .i32) (rns d)),(8,hL (.int .i32) (rns b.fTo)),(9,hT 100009 21 (.int .i32) m),(10,hI e),(51,hB t)] [(3,.cells [.tv (.int .i32 b.fFrom),cS b.fTo,cL (.st .aItem) b.fLeft,cL (.st .aItem) b.fRight,cB b.fInitial,cB b.fFinal])])
 | .c3 e b d p o m=>([.r,.r,.r,.r,.l,.r,.k,.L,.r,.l,.k,.r],ms 61 61 [(1,hL (.int .i64) o),(3,hP 3),(7,hL (.int .i32) (rns d)),(8,hL (.int .i32) (rns b.fTo)),(9,hT 100009 21 (.int .i32) m),(10,hI e),(11,hB p)] [(3,.cells [.tv (.int .i32 b.fFrom),cS b.fTo,cL (.st .aItem) b.fLeft,cL (.st .aItem) b.fRight,cB b.fInitial,cB b.fFinal])])
 | .c2 e i b h d p=>([.r,.r,.r,.r,.l,.r,.k,.L,.r,.l,.k],ms 61 61 [(1,hL (.int .i64) h),(3,hP 3),(7,hL (.int .i32) (rns d)),(8,hL (.int .i32) (rns b.fTo)),(9,hT 100009 21 (.int .i32) i),(10,hI e),(11,hB p)] [(3,.cells [.tv (.int .i32 b.fFrom),cS b.fTo,cL (.st .aItem) b.fLeft,cL (.st .aItem) b.fRight,cB b.fInitial,cB b.fFinal])])
 | .c5 s=>([.r,.r,.r,.r],ms 61 61 [(9,hT 100009 21 (.int .i32) s)])
 | .c1 b d h i e=>([.r,.r,.r,.r,.l,.r,.k],ms 61 61 [(1,hL (.int .i64) h),(3,hP 3),(7,hL (.int .i32) (rns d)),(8,hL (.int .i32) (rns b.fTo)),(9,hT 100009 21 (.int .i32) i),(10,hI e)] [(3,.cells [.tv (.int .i32 b.fFrom),cS b.fTo,cL (.st .aItem) b.fLeft,cL (.st .aItem) b.fRight,cB b.fInitial,cB b.fFinal])])
theorem g:D.G st pt:=fun Z a=>by cases a <;> kernel_rfl
theorem g0:D.G0 go pt:=fun Z ⟨_,_,_⟩=>by kernel_rfl
abbrev con:Con Tryz.prog E:=FD.con Tryz.func145 (by kernel_rfl) g g0
end rewrite_result
def rewrite_result (b:aRule) (u:List Int) (d:List UInt8):Option ((List UInt8)):=ev (rewrite_result.go (b,u,d)) (fx rewrite_result.st)
end Go.Ai.Mor
end

set_option maxRecDepth 100000
noncomputable section
namespace Go.Ai.Mor
open Go Go.Ai Go.Proofs
namespace pattern_read
inductive Pt
 | c3 (h:List (Int×Int)) (d:List UInt8) (p:List Int) (m:Nat)
 | c2 (e:List aLetter) (d:List UInt8) (h:List (Int×Int))
 | c1 (e:List aLetter) (d:List UInt8) (i:Int) (o:List (Int×Int))
def D:FD pd := {f:=175,fn:=Tryz.f175,q:=103,ps:=[(.sl (.st .aLetter)),(.sl (.st .aItem)),.str],rs:=[(.sl (.int .i64)),.bool],ex:=[some 3,none],dp:=2,cs:=[unicode_utf8_ValidString.con,unicode_utf8_ValidRune.con,pattern_Valid.con],il:=[inl 0 16 114 24 Tryz.f114 (pls 14 [(3,kp [0,4,12,13,14] [(35,0)] [2]),(12,kp [0,4] [(35,0)] [2])]) Tryz.func114 (by kernel_rfl),inl 0 21 115 71 Tryz.f115 (pls 16 [(6,kp [0,15] [(35,0),(86,0)] [] [(6,.own (100006,0,3) (.int .i64))])]) Tryz.func115 (by kernel_rfl)]}
def go:((List aLetter)×(List aItem)×(List UInt8))->Tr Pt ((List Int)×Bool)
 | (e,s,d)=>
  .b (pattern_Valid e s) fun t=>
  .c (!t)
  (.r ([],false))
  (.j (.c1 e d 0 ([]:(List (Int×Int)))))
def st:Pt->Tr Pt ((List Int)×Bool)
 | .c3 h d p m=>
  .c (decide (m<d.length))
  (.c (!((mget (keyEq (E:=E) (.int .i32)) h ((dec d m).1:Int)).isSome))
   (.r ([],false))
   (.c (decide (p.length+([(mget (keyEq (E:=E) (.int .i32)) h ((dec d m).1:Int)).getD 0]:List Int).length<=lim))
    (.j (.c3 h d (p++[(mget (keyEq (E:=E) (.int .i32)) h ((dec d m).1:Int)).getD 0]) (m+(dec d m).2))) .n))
  (.r (p,true))
 | .c2 e d h=>
  .b (unicode_utf8_ValidString d) fun y=>
  .c (!y)
  (.r ([],false))
  (.j (.c3 h d ([]:(List Int)) 0))
 | .c1 e d i o=>
  .c (decide (i<(e.length:Int)))
  (.c (decide (0<=i)&&decide (i<(e.length:Int)))
   (.c ((mget (keyEq (E:=E) (.int .i32)) o ((e.getD i.toNat default).fRune)).isSome)
    (.b (unicode_utf8_ValidString d) fun v=>
     .c (!v)
     (.r ([],false)) .n)
    (.c (decide (((e.getD i.toNat default).fRune)<=32))
     (.b (unicode_utf8_ValidString d) fun w=>
      .c (!w)
      (.r ([],false)) .n)
     (.b (unicode_utf8_ValidRune ((e.getD i.toNat default).fRune)) fun u=>
      .c (!u)
      (.b (unicode_utf8_ValidString d) fun x=>
       .c (!x)
       (.r ([],false)) .n)
      (.j (.c1 e d (IntKind.i64.wrap (i+1)) (mput (keyEq (E:=E) (.int .i32)) o ((e.getD i.toNat default).fRune) i)))))) .n)
  (.j (.c2 e d o))
def pt:Pt->List Dir×St E
 | .c3 h d p m=>([.r,.r,.r,.l,.c 2 115 24 0 false,.r,.r,.r,.l,.r,.k],ms 32 103 [(0,.one (.mp 35)),(6,hT 100006 3 (.int .i64) p),(15,hP 86)] [(35,.mp (.int .i32) (.int .i64) h),(86,.iter d m)] 24 [] [] false 71)
 | .c2 e d h=>([.r,.r,.l,.c 1 114 24 0 false,.r,.r],ms 47 103 [(0,hL (.st .aLetter) e),(4,.one (.mp 35))] [(35,.mp (.int .i32) (.int .i64) h)] 24 [(2,hS d)] [] false 24)
 | .c1 e d i o=>([.r,.r,.l,.c 1 114 24 0 false,.r,.r,.l,.r,.k],ms 47 103 [(0,hL (.st .aLetter) e),(4,.one (.mp 35)),(12,hL (.st .aLetter) e),(13,hI (e.length:Int)),(14,hI i)] [(35,.mp (.int .i32) (.int .i64) o)] 24 [(2,hS d)] [] false 24)
theorem g:D.G st pt:=fun Z a=>by cases a <;> kernel_rfl
theorem g0:D.G0 go pt:=fun Z ⟨_,_,_⟩=>by kernel_rfl
abbrev con:Con Tryz.prog E:=FD.con Tryz.func175 (by kernel_rfl) g g0
end pattern_read
def pattern_read (e:List aLetter) (s:List aItem) (d:List UInt8):Option ((List Int)×Bool):=ev (pattern_read.go (e,s,d)) (fx pattern_read.st)
end Go.Ai.Mor
end

set_option maxRecDepth 100000
noncomputable section
namespace Go.Ai.Mor
open Go Go.Ai Go.Proofs
namespace pattern_closed
inductive Pt
 | c1 (b:List aItem) (e d:Int)
def D:FD pd := {f:=182,fn:=Tryz.f182,q:=30,pl:=pls 10 [(2,kp [1,7,8,9])],ps:=[(.sl (.st .aItem)),(.int .u8)],rs:=[(.int .u8)],ex:=[none]}
def go:((List aItem)×Int)->Tr Pt (Int)
 | (b,h)=>
  .j (.c1 b h 0)
def st:Pt->Tr Pt (Int)
 | .c1 b e d=>
  .c (decide (d<(b.length:Int)))
  (.c (decide (0<=d)&&decide (d<(b.length:Int)))
   (.c ((b.getD d.toNat default).fRepeated)
    (.c (decide (d<0))
     .n
     (.c (decide ((IntKind.u8.wrap (((BitVec.ofInt IntKind.u8.bits (Int.fdiv e (2 ^ (min d.toNat IntKind.u8.bits))) &&& BitVec.ofInt IntKind.u8.bits 1).toNat:Int)))=1))
      (.c (decide (IntKind.i64.wrap (d+1)<0))
       .n
       (.j (.c1 b (IntKind.u8.wrap (((BitVec.ofInt IntKind.u8.bits e ||| BitVec.ofInt IntKind.u8.bits (IntKind.u8.wrap (1*2 ^ (min (IntKind.i64.wrap (d+1)).toNat IntKind.u8.bits)))).toNat:Int))) (IntKind.i64.wrap (d+1)))))
      (.j (.c1 b e (IntKind.i64.wrap (d+1))))))
    (.j (.c1 b e (IntKind.i64.wrap (d+1))))) .n)
  (.r e)
def pt:Pt->List Dir×St E
 | .c1 b e d=>([.r,.l,.r,.k],ms 30 30 [(1,hi .u8 e),(7,hL (.st .aItem) b),(8,hI (b.length:Int)),(9,hI d)])
theorem g:D.G st pt:=fun Z a=>by cases a <;> kernel_rfl
theorem g0:D.G0 go pt:=fun Z ⟨_,_⟩=>by kernel_rfl
abbrev con:Con Tryz.prog E:=FD.con Tryz.func182 (by kernel_rfl) g g0
end pattern_closed
def pattern_closed (b:List aItem) (h:Int):Option (Int):=ev (pattern_closed.go (b,h)) (fx pattern_closed.st)
end Go.Ai.Mor
end

set_option maxRecDepth 100000
noncomputable section
namespace Go.Ai.Mor
open Go Go.Ai Go.Proofs
namespace pattern_admits
inductive Pt
 | c2 (b:aItem) (i:Bool)
 | c1 (d:aLetter) (b:aItem) (h:Bool) (e:Nat)
def D:FD pd := {f:=183,fn:=Tryz.f183,q:=39,pl:=pls 11 [(5,kp [2,3,5,24] [(2,4),(3,2),(24,0)]),(9,kp [2,5] [(2,4)])],ps:=[(.st .aItem),(.st .aLetter)],rs:=[.bool],ex:=[none]}
def go:(aItem×aLetter)->Tr Pt (Bool)
 | (b,d)=>
  .c (decide ((IntKind.u32.wrap (((BitVec.ofInt IntKind.u32.bits d.fClasses &&& BitVec.ofInt IntKind.u32.bits b.fMask).toNat:Int)))=b.fMask))
  (.c (!decide (b.fLetters=[]))
   (.j (.c1 d b false 0))
   (.j (.c2 b (decide ((IntKind.u32.wrap (((BitVec.ofInt IntKind.u32.bits d.fClasses &&& BitVec.ofInt IntKind.u32.bits b.fMask).toNat:Int)))=b.fMask)))))
  (.j (.c2 b (decide ((IntKind.u32.wrap (((BitVec.ofInt IntKind.u32.bits d.fClasses &&& BitVec.ofInt IntKind.u32.bits b.fMask).toNat:Int)))=b.fMask))))
def st:Pt->Tr Pt (Bool)
 | .c2 b i=>
  .r (!decide (i=b.fNegated))
 | .c1 d b h e=>
  .c (decide (e<b.fLetters.length))
  (.c h
   (.j (.c1 d b true (e+(dec b.fLetters e).2)))
   (.j (.c1 d b (decide (((dec b.fLetters e).1:Int)=d.fRune)) (e+(dec b.fLetters e).2))))
  (.j (.c2 b h))
def pt:Pt->List Dir×St E
 | .c2 b i=>([.r,.r],ms 39 39 [(2,hP 2),(5,hB i)] [(2,.cells [.tv (.int .u32 b.fMask),cS b.fLetters,cB b.fNegated,cB b.fRepeated])])
 | .c1 d b h e=>([.r,.r,.l,.r,.a,.r,.r,.k],ms 39 39 [(2,hP 2),(3,hP 3),(5,hB h),(24,hP 24)] [(2,.cells [.tv (.int .u32 b.fMask),cS b.fLetters,cB b.fNegated,cB b.fRepeated]),(3,.cells [.tv (.int .i32 d.fRune),.tv (.int .u32 d.fClasses)]),(24,.iter b.fLetters e)])
theorem g:D.G st pt:=fun Z a=>by cases a <;> kernel_rfl
theorem g0:D.G0 go pt:=fun Z ⟨_,_⟩=>by kernel_rfl
abbrev con:Con Tryz.prog E:=FD.con Tryz.func183 (by kernel_rfl) g g0
end pattern_admits
def pattern_admits (b:aItem) (d:aLetter):Option (Bool):=ev (pattern_admits.go (b,d)) (fx pattern_admits.st)
end Go.Ai.Mor
end

noncomputable section
namespace Go.Ai.Mor
open Go Go.Ai Go.Proofs Go.Lib Go.RowKit
set_option maxHeartbeats 1600000
set_option maxRecDepth 1000000
theorem info225:(Tryz.prog.info? 225).map (fun i=>(i.zero,i.size,i.bytes))=some (some (.slice none 0 0),1,24):=by kernel_rfl
theorem info4:(Tryz.prog.info? 4).map (fun i=>(i.zero,i.size,i.bytes))=some (some (.bool false),1,1):=by kernel_rfl
def itemV (x:aItem):Value := .agg #[.int .u32 x.fMask,.string ⟨x.fLetters.toArray⟩,.bool x.fNegated,.bool x.fRepeated]
def letterV (l:aLetter):Value := .agg #[.int .i32 l.fRune,.int .u32 l.fClasses]
theorem rowIs_one (w:World) (v:Value) (t:TypeId):(w.alloc (.cells #[v] t)).rowIs w.heap.size t 1 (fun _=>v):=
 World.rowIs_alloc w #[v] t (fun _=>v) fun i hi=>by
  have:i=0:=by simpa using hi
  subst this
  rfl
def topM (B:Nat->Nat) (m k:Nat):Nat->Value:=fun j=>if j<k then .slice (some ⟨B j,0,none⟩) m m else .slice none 0 0
structure MOuter (w wr:World) (vp:Value) (b3 b5 bT n m k:Nat) (B:Nat->Nat) (Z:Nat->Nat->Bool):Prop where
 since:w.Since w.heap.size wr
 o3:w.heap.size<=b3
 o5:w.heap.size<=b5
 oT:w.heap.size<=bT
 c3:wr.rowIs b3 109 1 (fun _=>vp)
 c5:wr.rowIs b5 224 1 (fun _ => .slice (some ⟨bT,0,none⟩) n n)
 top:wr.rowIs bT 225 n (topM B m k)
 done:∀ j,j<k->w.heap.size<=B j/\wr.rowIs (B j) 4 m (fun i => .bool (Z j i))
structure MInner (w wi:World) (vp:Value) (b3 b5 bT n m k i:Nat) (B:Nat->Nat) (g b7:Nat) (x:aItem) (Z:Nat->Nat->Bool):Prop where
 since:w.Since w.heap.size wi
 o3:w.heap.size<=b3
 o5:w.heap.size<=b5
 oT:w.heap.size<=bT
 og:w.heap.size<=g
 n3:g≠b3
 n5:g≠b5
 nT:g≠bT
 n7:g≠b7
 c3:wi.rowIs b3 109 1 (fun _=>vp)
 c5:wi.rowIs b5 224 1 (fun _ => .slice (some ⟨bT,0,none⟩) n n)
 top:wi.rowIs bT 225 n (fun j=>if j=k then .slice (some ⟨g,0,none⟩) m m else topM B m k j)
 done:∀ j,j<k->g≠B j/\w.heap.size<=B j/\wi.rowIs (B j) 4 m (fun i => .bool (Z j i))
 cur:wi.rowIs g 4 m (fun q => .bool (decide (q<i)&&Z k q))
 item:wi.rowIs b7 162 4 (fun c=>(itemV x).cells.getD c undef)
theorem MInner.below {w wi w2:World} {vp:Value} {b3 b5 bT n m k i:Nat} {B:Nat->Nat} {g b7:Nat} {x:aItem} {Z:Nat->Nat->Bool} (h:MInner w wi vp b3 b5 bT n m k i B g b7 x Z) (hb:Below wi.heap.size wi w2):MInner w w2 vp b3 b5 bT n m k i B g b7 x Z:=by
 have hs:=h.since.size
 have keep:∀ {b:Nat} {t:TypeId} {q:Nat} {f:Nat->Value},wi.rowIs b t q f->w2.rowIs b t q f:=fun hr=>hr.of_block (hb.block _ hr.lt)
 exact ⟨h.since.trans ⟨hb.os,hb.tape,hb.output,hb.size,fun q hq=>hb.block q (by omega)⟩,h.o3,h.o5,h.oT,h.og,h.n3,h.n5,h.nT,h.n7,keep h.c3,keep h.c5,keep h.top,fun j hj=>⟨(h.done j hj).1,(h.done j hj).2.1,keep (h.done j hj).2.2⟩,keep h.cur,keep h.item⟩
theorem MInner.store {w wi:World} {vp:Value} {b3 b5 bT n m k i:Nat} {B:Nat->Nat} {g b7:Nat} {x:aItem} {Z:Nat->Nat->Bool} (h:MInner w wi vp b3 b5 bT n m k i B g b7 x Z):MInner w (wi.setCell ⟨g,i,none⟩ (.bool (Z k i))) vp b3 b5 bT n m k (i+1) B g b7 x Z:=
 ⟨h.since.setCell h.og _,h.o3,h.o5,h.oT,h.og,h.n3,h.n5,h.nT,h.n7,h.c3.setOther (Ne.symm h.n3) _,h.c5.setOther (Ne.symm h.n5) _,h.top.setOther (Ne.symm h.nT) _,fun j hj=>⟨(h.done j hj).1,(h.done j hj).2.1,(h.done j hj).2.2.setOther (Ne.symm (h.done j hj).1) _⟩,
  (h.cur.set i _).congr fun q hq=>by
   by_cases e:q=i
   ·subst e; simp
   ·rw [if_neg e]
    congr 2
    by_cases hlt:q<i
    ·rw [decide_eq_true hlt,decide_eq_true (show q<i+1 by omega)]
    ·rw [decide_eq_false hlt,decide_eq_false (show ¬ q<i+1 by omega)],h.item.setOther (Ne.symm h.n7) _⟩
theorem MInner.done' {w wi:World} {vp:Value} {b3 b5 bT n m k:Nat} {B:Nat->Nat} {g b7:Nat} {x:aItem} {Z:Nat->Nat->Bool} (h:MInner w wi vp b3 b5 bT n m k m B g b7 x Z):MOuter w wi vp b3 b5 bT n m (k+1) (fun j=>if j=k then g else B j) Z:=
 ⟨h.since,h.o3,h.o5,h.oT,h.c3,h.c5,h.top.congr fun j hj=>by
  simp only [topM]
  by_cases e:j=k
  ·subst e; simp
  ·rw [if_neg e,if_neg e]
   by_cases hlt:j<k
   ·rw [if_pos hlt,if_pos (by omega)]
   ·rw [if_neg hlt,if_neg (by omega)],fun j hj=>by
  by_cases e:j=k
  ·subst e
   simp only [if_true]
   exact ⟨h.og,h.cur.congr fun q hq=>by rw [decide_eq_true hq]; simp⟩
  ·simp only [if_neg e]
   exact (h.done j (by omega)).2⟩
theorem MOuter.inner {w wr:World} {vp:Value} {b3 b5 bT n m k:Nat} {B:Nat->Nat} {x:aItem} {Z:Nat->Nat->Bool} (h:MOuter w wr vp b3 b5 bT n m k B Z) :
  MInner w (((wr.alloc (.cells #[.int .u32 x.fMask,.string ⟨x.fLetters.toArray⟩,.bool x.fNegated,.bool x.fRepeated] 162)).alloc (.cells (madeCells #[.bool false] m) 4)).setCell ⟨bT,k,none⟩ (.slice (some ⟨wr.heap.size+1,0,none⟩) m m)).drew vp b3 b5 bT n m k 0 B (wr.heap.size+1) wr.heap.size x Z:=by
 have hs:=h.since.size
 have l3:=h.c3.lt
 have l5:=h.c5.lt
 have lT:=h.top.lt
 have e1:(wr.alloc (.cells #[.int .u32 x.fMask,.string ⟨x.fLetters.toArray⟩,.bool x.fNegated,.bool x.fRepeated] 162)).heap.size=wr.heap.size+1:=by simp
 have r7:=World.rowIs_alloc wr #[.int .u32 x.fMask,.string ⟨x.fLetters.toArray⟩,.bool x.fNegated,.bool x.fRepeated] 162 (fun c=>(itemV x).cells.getD c undef) (fun i hi=>by
  have hi:i<4:=by simpa using hi
  match i,hi with
  | 0,_=>rfl
  | 1,_=>rfl
  | 2,_=>rfl
  | 3,_=>rfl)
 have rg:=World.rowIs_made (wr.alloc (.cells #[.int .u32 x.fMask,.string ⟨x.fLetters.toArray⟩,.bool x.fNegated,.bool x.fRepeated] 162)) (.bool false) m 4
 rw [e1] at rg
 refine ⟨(((h.since.alloc hs _).alloc (by simp; omega) _).setCell h.oT _).drew,h.o3,h.o5,h.oT,by omega,by omega,by omega,by omega,by omega,?_,?_,?_,fun j hj => ?_,?_,?_⟩
 ·exact (((h.c3.alloc _).alloc _).setOther (by show b3≠bT; intro e; have:=h.c3; subst e; obtain ⟨c,h1,_⟩:=h.c3; obtain ⟨c',h2,_⟩:=h.top; rw [h1] at h2; cases h2) _).drew
 ·exact (((h.c5.alloc _).alloc _).setOther (by show b5≠bT; intro e; subst e; obtain ⟨c,h1,_⟩:=h.c5; obtain ⟨c',h2,_⟩:=h.top; rw [h1] at h2; cases h2) _).drew
 ·refine ((((h.top.alloc _).alloc _).set k _).congr fun j hj => ?_).drew
  rfl
 ·have:=(h.done j hj).2.lt
  exact ⟨by omega,(h.done j hj).1,((((h.done j hj).2.alloc _).alloc _).setOther (by show B j≠bT; intro e; obtain ⟨c,h1,_⟩:=(h.done j hj).2; obtain ⟨c',h2,_⟩:=h.top; rw [e] at h1; rw [h1] at h2; cases h2) _).drew⟩
 ·exact ((rg.setOther (by show wr.heap.size+1≠bT; omega) _).congr fun q hq=>by simp).drew
 ·exact ((r7.alloc _).setOther (by show wr.heap.size≠bT; omega) _).drew
theorem admits_call {w:World} {F:Nat->Nat->Prop} (hF:∀ b o,F b o->b<w.heap.size) (hT:E.tab w F) {x:aItem} {l:aLetter} {z:Bool} (h:pattern_admits x l=some z) {W:World} (hs:w.Since w.heap.size W) :
  Calls Tryz.prog 183 #[itemV x,letterV l] W fun e w2=>e = .returned (.bool z)/\Below W.heap.size W w2:=by
 have hsz:=hs.size
 have hF' : ∀ b o,F b o->b<W.heap.size:=fun b o hf=>by have:=hF b o hf; omega
 have hT' : E.tab W F:=E.tabM w W F F hT (fun _ _ hf=>hf) fun b o v hf hc=>(hs.cell (a:=⟨b,o,none⟩) (hF b o hf)).trans hc
 have hargs:HReps W noSite noTok F (argHs (E:=E) [.st .aItem,.st .aLetter] (x,l)) [itemV x,letterV l]:=by
  refine ⟨⟨_,rfl,?_⟩,⟨_,rfl,?_⟩,trivial⟩
  ·have hl:Rep (E:=E) W F (.str x.fLetters) (.string ⟨x.fLetters.toArray⟩):=by
    have:=Rep.str (E:=E) (w:=W) (F:=F) ⟨x.fLetters.toArray⟩
    simpa using this
   exact ⟨Rep.int _ _,hl,Rep.bool _,Rep.bool _,trivial⟩
  ·exact ⟨Rep.int _ _,Rep.int _ _,trivial⟩
 have hc:=pattern_admits.con.ok.2 (x,l) z h W F _ 0 hF' hT' hargs
 refine hc.mono ?_
 rintro e w2 ⟨v,tk,F',rfl,hb,_,_,_,hr,_⟩
 have hr:Rep (E:=E) w2 F' (.bool z) v:=hr
 cases hr
 exact ⟨rfl,hb⟩
theorem machine_walk (m n ca cp ba oa bp op:Nat) (Aa Ap:Option Addr) (X:Nat->aItem) (Y:Nat->aLetter) (Z:Nat->Nat->Bool) (w:World) (F:Nat->Nat->Prop)
  (hF:∀ b o,F b o->b<w.heap.size) (hT:E.tab w F) (hn:n<=67108864) (hm:m<=67108864)
  (hA:0<m->Aa=some ⟨ba,oa,none⟩) (hP:0<n->Ap=some ⟨bp,op,none⟩)
  (hY:∀ i,i<m->w.cell? ⟨ba,oa+i*2,none⟩=some (.int .i32 (Y i).fRune)/\w.cell? ⟨ba,oa+i*2+1,none⟩=some (.int .u32 (Y i).fClasses))
  (hX:∀ k,k<n->w.cell? ⟨bp,op+k*4,none⟩=some (.int .u32 (X k).fMask)/\w.cell? ⟨bp,op+k*4+1,none⟩=some (.string ⟨(X k).fLetters.toArray⟩)/\w.cell? ⟨bp,op+k*4+2,none⟩=some (.bool (X k).fNegated)/\w.cell? ⟨bp,op+k*4+3,none⟩=some (.bool (X k).fRepeated))
  (hZ:∀ k i,k<n->i<m->pattern_admits (X k) (Y i)=some (Z k i)) :
  Calls Tryz.prog 181 #[.slice Aa m ca,.slice Ap n cp] w fun e w' => ∃ (b3 b5 bT:Nat) (B:Nat->Nat),e = .returned (.func (.func 184) #[] #[.pointer (some ⟨b3,0,none⟩),.pointer (some ⟨b5,0,none⟩)])/\MOuter w w' (.slice Ap n cp) b3 b5 bT n m n B Z:=by
 have hmk:=run_make_row' (P:=Tryz.prog) 224 225 (.slice none 0 0) 24 Tryz.underlying224 info225 rfl .i64 .i64 n (by omega) (by omega)
 go_enter Tryz.func181,Tryz.ntmps181
 go_wp2
 go_loopg [15] n (fun g i wr => ∃ (k:Nat) (B:Nat->Nat),k<=n/\g=n - k/\i = .int .i64 k/\MOuter w wr (.slice Ap n cp) w.heap.size (w.heap.size+1+1) (w.heap.size+1) n m k B Z)
 case atStart=>
  refine ⟨0,fun _=>0,Nat.zero_le _,rfl,rfl,?_⟩
  have e1:(w.alloc (.cells #[.slice Ap n cp] 109)).heap.size=w.heap.size+1:=by simp
  have e2:((w.alloc (.cells #[.slice Ap n cp] 109)).alloc (.cells (madeCells #[.slice none 0 0] n) 225)).heap.size=w.heap.size+1+1:=by simp
  have r3:=rowIs_one w (.slice Ap n cp) 109
  have rT:=World.rowIs_made (w.alloc (.cells #[.slice Ap n cp] 109)) (.slice none 0 0) n 225
  have r5:=rowIs_one ((w.alloc (.cells #[.slice Ap n cp] 109)).alloc (.cells (madeCells #[.slice none 0 0] n) 225)) (.slice (some ⟨w.heap.size+1,0,none⟩) n n) 224
  rw [e1] at rT
  rw [e2] at r5
  exact ⟨(((World.Since.refl _ _).alloc (Nat.le_refl _) _).alloc (by simp) _).alloc (by simp; omega) _,Nat.le_refl _,by omega,by omega,(r3.alloc _).alloc _,r5,(rT.alloc _).congr fun j _=>by simp [topM],fun j hj=>absurd hj (Nat.not_lt_zero _)⟩
 case round=>
  obtain ⟨k,B,hk,rfl,rfl,hO⟩:=hrel
  have f3:=hO.c3.cell (i:=0) (by omega)
  have f5:=hO.c5.cell (i:=0) (by omega)
  clear hmk
  by_cases hlt:k<n
  ·have hP:=hP (by omega)
   subst hP
   obtain ⟨x1,x2,x3,x4⟩:=hX k hlt
   have hbp:bp<w.heap.size:=World.block_lt_of_cell? _ _ x1
   have y1:=(hO.since.cell (a:=⟨bp,op+k*4,none⟩) hbp).trans x1
   have y2:=(hO.since.cell (a:=⟨bp,op+k*4+1,none⟩) hbp).trans x2
   have y3:=(hO.since.cell (a:=⟨bp,op+k*4+2,none⟩) hbp).trans x3
   have y4:=(hO.since.cell (a:=⟨bp,op+k*4+3,none⟩) hbp).trans x4
   have hmk:=run_make_row' (P:=Tryz.prog) 225 4 (.bool false) 1 Tryz.underlying225 info4 rfl .i64 .i64 m (by omega) (by omega)
   have st1:∀ o o',((wr.alloc o).alloc o').cell? ⟨w.heap.size+1,k,none⟩=some (topM B m k k):=fun o o' => ((hO.top.alloc o).alloc o').cell hlt
   have st2:∀ o o',((wr.alloc o).alloc o').frozen? ⟨w.heap.size+1,k,none⟩=false:=fun o o' => ((hO.top.alloc o).alloc o').frozen k
   go_wp2
   go_region_held3 (fun w' => w'.cell? ⟨w.heap.size+1+1,0,none⟩=some (.slice (some ⟨w.heap.size+1,0,none⟩) n n)) (go_keep) (fail)
   have hI0:=hO.inner (x:=X k)
   go_wp2
   generalize hb7:wr.heap.size=b7 at hI0 ⊢
   go_loopg [28] m (fun g' i' wi => ∃ i:Nat,i<=m/\g' = m - i/\i' = .int .i64 i/\MInner w wi (.slice (some ⟨bp,op,none⟩) n cp) w.heap.size (w.heap.size+1+1) (w.heap.size+1) n m k i B (b7+1) b7 (X k) Z)
   case atStart=>exact ⟨0,Nat.zero_le _,rfl,rfl,hI0⟩
   case round=>
    obtain ⟨i,hi,rfl,rfl,hI⟩:=hrel
    clear hI0 st1 st2 hmk
    by_cases hil:i<m
    ·have hA:=hA (by omega)
     subst hA
     obtain ⟨y1,y2⟩:=hY i hil
     have hba:ba<w.heap.size:=World.block_lt_of_cell? _ _ y1
     have z1:=(hI.since.cell (a:=⟨ba,oa+i*2,none⟩) hba).trans y1
     have z2:=(hI.since.cell (a:=⟨ba,oa+i*2+1,none⟩) hba).trans y2
     have hsz:=hI.since.size
     have c5:=hI.c5.cell (i:=0) (by omega)
     have cT:wr.cell? ⟨w.heap.size+1,k,none⟩=some (.slice (some ⟨b7+1,0,none⟩) m m):=by simpa using hI.top.cell hlt
     have d0:wr.cell? ⟨b7,0,none⟩=some (.int .u32 (X k).fMask):=hI.item.cell (i:=0) (by omega)
     have d1:wr.cell? ⟨b7,1,none⟩=some (.string ⟨(X k).fLetters.toArray⟩):=hI.item.cell (i:=1) (by omega)
     have d2:wr.cell? ⟨b7,2,none⟩=some (.bool (X k).fNegated):=hI.item.cell (i:=2) (by omega)
     have d3:wr.cell? ⟨b7,3,none⟩=some (.bool (X k).fRepeated):=hI.item.cell (i:=3) (by omega)
     have cg:wr.cell? ⟨b7+1,i,none⟩=some (.bool false):=by simpa using hI.cur.cell hil
     have fg:wr.frozen? ⟨b7+1,i,none⟩=false:=hI.cur.frozen i
     have hz:=hZ k i hlt hil
     have after:∀ w2,Below (wr.alloc (.cells #[.int .i32 (Y i).fRune,.int .u32 (Y i).fClasses] 105)).drew.heap.size (wr.alloc (.cells #[.int .i32 (Y i).fRune,.int .u32 (Y i).fClasses] 105)).drew w2 ->
       w2.cell? ⟨w.heap.size+1+1,0,none⟩=some (.slice (some ⟨w.heap.size+1,0,none⟩) n n)/\w2.cell? ⟨w.heap.size+1,k,none⟩=some (.slice (some ⟨b7+1,0,none⟩) m m) /\
       w2.cell? ⟨b7,0,none⟩=some (.int .u32 (X k).fMask)/\w2.cell? ⟨b7,1,none⟩=some (.string ⟨(X k).fLetters.toArray⟩)/\w2.cell? ⟨b7,2,none⟩=some (.bool (X k).fNegated)/\w2.cell? ⟨b7,3,none⟩=some (.bool (X k).fRepeated) /\
       w2.cell? ⟨wr.heap.size,0,none⟩=some (.int .i32 (Y i).fRune)/\w2.cell? ⟨wr.heap.size,1,none⟩=some (.int .u32 (Y i).fClasses) /\
       w2.cell? ⟨b7+1,i,none⟩=some (.bool false)/\w2.frozen? ⟨b7+1,i,none⟩=false /\
       (w2.setCell ⟨b7+1,i,none⟩ (.bool (Z k i))).cell? ⟨w.heap.size+1+1,0,none⟩=some (.slice (some ⟨w.heap.size+1,0,none⟩) n n)/\(w2.setCell ⟨b7+1,i,none⟩ (.bool (Z k i))).cell? ⟨w.heap.size+1,k,none⟩=some (.slice (some ⟨b7+1,0,none⟩) m m) /\
       (w2.setCell ⟨b7+1,i,none⟩ (.bool (Z k i))).cell? ⟨b7,0,none⟩=some (.int .u32 (X k).fMask)/\(w2.setCell ⟨b7+1,i,none⟩ (.bool (Z k i))).cell? ⟨b7,1,none⟩=some (.string ⟨(X k).fLetters.toArray⟩)/\(w2.setCell ⟨b7+1,i,none⟩ (.bool (Z k i))).cell? ⟨b7,2,none⟩=some (.bool (X k).fNegated)/\(w2.setCell ⟨b7+1,i,none⟩ (.bool (Z k i))).cell? ⟨b7,3,none⟩=some (.bool (X k).fRepeated) /\
       (w2.setCell ⟨b7+1,i,none⟩ (.bool (Z k i))).cell? ⟨wr.heap.size,0,none⟩=some (.int .i32 (Y i).fRune)/\(w2.setCell ⟨b7+1,i,none⟩ (.bool (Z k i))).cell? ⟨wr.heap.size,1,none⟩=some (.int .u32 (Y i).fClasses)/\MInner w w2 (.slice (some ⟨bp,op,none⟩) n cp) w.heap.size (w.heap.size+1+1) (w.heap.size+1) n m k i B (b7+1) b7 (X k) Z:=by
      intro w2 hb
      have hb:Below (wr.alloc (.cells #[.int .i32 (Y i).fRune,.int .u32 (Y i).fClasses] 105)).heap.size (wr.alloc (.cells #[.int .i32 (Y i).fRune,.int .u32 (Y i).fClasses] 105)) w2:=⟨hb.os,hb.tape,hb.output,hb.size,hb.block⟩
      have hI1:MInner w (wr.alloc (.cells #[.int .i32 (Y i).fRune,.int .u32 (Y i).fClasses] 105)) (.slice (some ⟨bp,op,none⟩) n cp) w.heap.size (w.heap.size+1+1) (w.heap.size+1) n m k i B (b7+1) b7 (X k) Z:=hI.below ((Below.refl _ _).alloc (Nat.le_refl _) _)
      have hI2:=hI1.below hb
      have r9:=(World.rowIs_alloc wr #[.int .i32 (Y i).fRune,.int .u32 (Y i).fClasses] 105 (fun c=>(letterV (Y i)).cells.getD c undef) (fun c hc=>by
       have hc:c<2:=by simpa using hc
       match c,hc with
       | 0,_=>rfl
       | 1,_=>rfl))
      have r9' := r9.of_block (hb.block _ r9.lt)
      have hI3:=hI2.store
      have lg:=hI.cur.lt
      have r9s:=r9'.setOther (a:=⟨b7+1,i,none⟩) (by show wr.heap.size≠b7+1; omega) (.bool (Z k i))
      exact ⟨hI2.c5.cell (i:=0) (by omega),by simpa using hI2.top.cell hlt,hI2.item.cell (i:=0) (by omega),hI2.item.cell (i:=1) (by omega),hI2.item.cell (i:=2) (by omega),hI2.item.cell (i:=3) (by omega),r9'.cell (i:=0) (by simp),r9'.cell (i:=1) (by simp),by simpa using hI2.cur.cell hil,hI2.cur.frozen i,
       hI3.c5.cell (i:=0) (by omega),by simpa using hI3.top.cell hlt,hI3.item.cell (i:=0) (by omega),hI3.item.cell (i:=1) (by omega),hI3.item.cell (i:=2) (by omega),hI3.item.cell (i:=3) (by omega),r9s.cell (i:=0) (by simp),r9s.cell (i:=1) (by simp),hI2⟩
     have since1:w.Since w.heap.size (wr.alloc (.cells #[.int .i32 (Y i).fRune,.int .u32 (Y i).fClasses] 105)).drew:=(hI.since.alloc hsz _).drew
     clear hY hX hO f3 f5
     go_wp2
     go_region_held3 (fun w' => w'.cell? ⟨w.heap.size+1+1,0,none⟩=some (.slice (some ⟨w.heap.size+1,0,none⟩) n n)/\w'.cell? ⟨w.heap.size+1,k,none⟩=some (.slice (some ⟨b7+1,0,none⟩) m m) /\
       w'.cell? ⟨b7,0,none⟩=some (.int .u32 (X k).fMask)/\w'.cell? ⟨b7,1,none⟩=some (.string ⟨(X k).fLetters.toArray⟩)/\w'.cell? ⟨b7,2,none⟩=some (.bool (X k).fNegated)/\w'.cell? ⟨b7,3,none⟩=some (.bool (X k).fRepeated) /\
       w'.cell? ⟨wr.heap.size,0,none⟩=some (.int .i32 (Y i).fRune)/\w'.cell? ⟨wr.heap.size,1,none⟩=some (.int .u32 (Y i).fClasses))
      (first | exact ⟨s1,s2,s3,s4,s5,s6,s7,s8⟩ | exact ⟨t1,t2,t3,t4,t5,t6,t7,t8⟩ | go_keep)
      (first | (go_at_call 183; refine (admits_call hF hT hz since1).mono ?_; rintro e w2 ⟨rfl,hB⟩; obtain ⟨s1,s2,s3,s4,s5,s6,s7,s8,s9,s10,t1,t2,t3,t4,t5,t6,t7,t8,hI2⟩:=after w2 hB))
     go_wp2
     go_roundg (m - (i+1))
     case measure=>omega
     case rel=>exact ⟨i+1,by omega,rfl,rfl,MInner.store (by assumption)⟩
    ·have him:i=m:=by omega
     subst him
     go_wp2
     go_roundg (n - (k+1))
     case measure=>omega
     case rel=>exact ⟨k+1,_,by omega,rfl,rfl,hI.done'⟩
  ·go_wp2
   have hkn:k=n:=by omega
   subst hkn
   go_ret
   exact ⟨_,_,_,B,rfl,hO⟩
def mapO {α β:Type} (f:α->Option β):List α->Option (List β)
 | []=>some []
 | x::xs=>(f x).bind fun y=>(mapO f xs).bind fun ys=>some (y::ys)
theorem mapO_get {α β:Type} {f:α->Option β} : ∀ {xs:List α} {ys:List β},mapO f xs=some ys->ys.length=xs.length /\ ∀ (i:Nat) (x:α),xs[i]? = some x -> ∃ y,ys[i]? = some y/\f x=some y
 | [],ys,h=>by cases h; exact ⟨rfl,fun i x hx=>by simp at hx⟩
 | x::xs,ys,h=>by
   simp only [mapO] at h
   cases hx:f x with
   | none=>rw [hx] at h; cases h
   | some y=>
     rw [hx] at h
     cases hr:mapO f xs with
     | none=>rw [hr] at h; cases h
     | some zs=>
       rw [hr] at h
       cases h
       obtain ⟨h1,h2⟩:=mapO_get hr
       refine ⟨by simp [h1],fun i z hz => ?_⟩
       cases i with
       | zero=>simp at hz; subst hz; exact ⟨y,rfl,hx⟩
       | succ i=>exact h2 i z (by simpa using hz)
def pattern_machine (a:List aLetter) (p:List aItem):Option (List (List Bool)):=cond (decide (a.length<=lim)&&decide (p.length<=lim)) (mapO (fun x=>mapO (pattern_admits x) a) p) none
def machineCs (x:List aLetter×List aItem) (y:List (List Bool)):List (Sc E):=[.fptr [.sl (.st .aItem) x.2],.fptr [.sl (.sl .bool) y]]
theorem slice_of {τ:Ty Nm} {w:World} {F:Fz} {xs:List (den E.Γ τ)} {v:Value} (h:Rep (E:=E) w F (.sl τ xs) v):∃ (ad:Option Addr) (b o cap:Nat) (vs:Nat->Nat->Value),v = .slice ad xs.length cap/\(0<xs.length->ad=some ⟨b,o,none⟩) /\
  ∀ (i:Nat) (x:den E.Γ τ) (c:Nat) (l:TV E),xs[i]? = some x->(leaves τ x)[c]? = some l->w.cell? ⟨b,o+(i*τ.size E+c),none⟩=some (vs i c)/\Rep w F l (vs i c):=by
 obtain ⟨ad,cap,rfl,_,hnil,hspot,vs,h5,h6⟩:=rep_slice h
 cases ad with
 | none=>
   have hl:xs=[]:=by
    cases h with
    | sl _ _ a cap vs hcap hnil hspot hc hr=>exact List.eq_nil_of_length_eq_zero (by have:=hnil rfl; omega)
   subst hl
   exact ⟨none,0,0,cap,vs,rfl,fun h=>absurd h (Nat.lt_irrefl 0),fun i x c l hx=>by simp at hx⟩
 | some ad=>
   refine ⟨some ad,ad.block,ad.off,cap,vs,rfl,fun hpos => ?_,fun i x c l hx hl=>⟨(h5 ad rfl i x c l hx hl).2,h6 i x c l hx hl⟩⟩
   have:=hspot ad rfl (fun e=>by rw [e] at hpos; exact absurd hpos (Nat.lt_irrefl 0))
   cases ad
   simp only at this
   rw [this]
theorem pattern_machine_says:CloSays (E:=E) Tryz.prog 181 184 [.sl (.st .aLetter),.sl (.st .aItem)] machineCs (fun x=>pattern_machine x.1 x.2):=by
 refine ⟨by kernel_rfl,?_⟩
 intro (x:List aLetter×List aItem) (y:List (List Bool)) h w F args hF hT hargs
 obtain ⟨a,p⟩:=x
 have h:pattern_machine a p=some y:=h
 unfold pattern_machine at h
 cases hc:(decide (a.length<=lim)&&decide (p.length<=lim)) with
 | false=>rw [hc] at h; cases h
 | true=>
   rw [hc] at h
   have h:mapO (fun x=>mapO (pattern_admits x) a) p=some y:=h
   simp only [Bool.and_eq_true,decide_eq_true_eq] at hc
   obtain ⟨va,vp,rfl,ha,hp⟩:∃ va vp,args=[va,vp]/\Rep (E:=E) w F (.sl (.st .aLetter) a) va/\Rep (E:=E) w F (.sl (.st .aItem) p) vp:=by
    match args,hargs with
    | [va,vp],hargs=>exact ⟨va,vp,rfl,hargs.1,hargs.2.1⟩
    | [],hargs=>exact hargs.elim
    | [_],hargs=>exact hargs.2.elim
    | _::_::_::_,hargs=>exact hargs.2.2.elim
   obtain ⟨Aa,ba,oa,ca,va',rfl,hA,hY⟩:=slice_of ha
   obtain ⟨Ap,bp,op,cp,vp',rfl,hP,hX⟩:=slice_of hp
   obtain ⟨hyl,hy⟩:=mapO_get h
   have hget:∀ k (hk:k<p.length),∃ r,y[k]? = some r/\mapO (pattern_admits p[k]) a=some r:=fun k hk=>hy k p[k] (List.getElem?_eq_getElem hk)
   have hw:=machine_walk a.length p.length ca cp ba oa bp op Aa Ap (fun k=>p.getD k default) (fun i=>a.getD i default) (fun k i=>(y.getD k []).getD i false) w F hF hT hc.2 hc.1 hA hP
    (fun i hi=>by
     have hx:(a:List (den E.Γ (.st .aLetter)))[i]? = some a[i]:=List.getElem?_eq_getElem hi
     have e:a.getD i default=a[i]:=by simp [hi]
     rw [e]
     obtain ⟨c0,r0⟩:=hY i a[i] 0 (.int .i32 a[i].fRune) hx rfl
     obtain ⟨c1,r1⟩:=hY i a[i] 1 (.int .u32 a[i].fClasses) hx rfl
     rw [repI r0] at c0
     rw [repI r1] at c1
     exact ⟨c0,c1⟩)
    (fun k hk=>by
     have hx:(p:List (den E.Γ (.st .aItem)))[k]? = some p[k]:=List.getElem?_eq_getElem hk
     have e:p.getD k default=p[k]:=by simp [hk]
     rw [e]
     obtain ⟨c0,r0⟩:=hX k p[k] 0 (.int .u32 p[k].fMask) hx rfl
     obtain ⟨c1,r1⟩:=hX k p[k] 1 (.str p[k].fLetters) hx rfl
     obtain ⟨c2,r2⟩:=hX k p[k] 2 (.bool p[k].fNegated) hx rfl
     obtain ⟨c3,r3⟩:=hX k p[k] 3 (.bool p[k].fRepeated) hx rfl
     rw [repI r0] at c0
     rw [repB r2] at c2
     rw [repB r3] at c3
     obtain ⟨u,hu,hul⟩:=rep_str_inv r1
     rw [hu] at c1
     have:u=⟨p[k].fLetters.toArray⟩:=by rw [<- hul]
     rw [this] at c1
     exact ⟨c0,c1,c2,c3⟩)
    (fun k i hk hi=>by
     obtain ⟨r,hr1,hr2⟩:=hget k hk
     obtain ⟨z,hz1,hz2⟩:=(mapO_get hr2).2 i a[i] (List.getElem?_eq_getElem hi)
     have e1:p.getD k default=p[k]:=by simp [hk]
     have e2:a.getD i default=a[i]:=by simp [hi]
     rw [e1,e2,hz2]
     simp [hr1,hz1])
   refine hw.mono ?_
   rintro e w' ⟨b3,b5,bT,B,rfl,hO⟩
   have hb:Below w.heap.size w w' := ⟨hO.since.os,hO.since.tape,hO.since.output,hO.since.size,hO.since.block⟩
   have hA:Agree F w w' := fun b o v hf hcell=>(hO.since.cell (a:=⟨b,o,none⟩) (hF b o hf)).trans hcell
   refine ⟨[.pointer (some ⟨b3,0,none⟩),.pointer (some ⟨b5,0,none⟩)],fun b o=>F b o\/(w.heap.size<=b/\b<w'.heap.size),rfl,hb,fun _ _ hf => .inl hf,fun b o hf=>hf.imp id And.left,fun b o hf => ?_,?_,?_,trivial⟩
   ·rcases hf with hf | hf
    ·have:=hF b o hf; have:=hO.since.size; omega
    ·exact hf.2
   ·refine ⟨b3,0,[_],rfl,fun i u hu => ?_,hp.mono (fun _ _ hf => .inl hf) hA,trivial⟩
    match i,hu with
    | 0,hu=>cases hu; exact ⟨.inr ⟨hO.o3,hO.c3.lt⟩,hO.c3.cell (i:=0) (by omega)⟩
    | i+1,hu=>simp at hu
   ·refine ⟨b5,0,[.slice (some ⟨bT,0,none⟩) p.length p.length],rfl,fun i u hu => ?_,?_,trivial⟩
    ·match i,hu with
     | 0,hu=>cases hu; exact ⟨.inr ⟨hO.o5,hO.c5.lt⟩,hO.c5.cell (i:=0) (by omega)⟩
     | i+1,hu=>simp at hu
    ·have hT:=Rep.sl (E:=E) (w:=w') (F:=fun b o=>F b o\/(w.heap.size<=b/\b<w'.heap.size)) (.sl .bool) y (some ⟨bT,0,none⟩) p.length (fun k _ => .slice (some ⟨B k,0,none⟩) a.length a.length) (by rw [hyl]; exact Nat.le_refl _) (fun h=>by cases h) (fun ad hd _=>by cases hd; rfl)
      (fun ad hd k r c l hr hl=>by
       cases hd
       have hk:k<p.length:=by rw [<- hyl]; exact (List.getElem?_eq_some_iff.1 hr).1
       have hc0:c=0:=by have:=(List.getElem?_eq_some_iff.1 hl).1; simpa [leaves] using this
       subst hc0
       have:=hO.top.cell hk
       simp only [topM,if_pos hk] at this
       refine ⟨.inr ⟨hO.oT,hO.top.lt⟩,?_⟩
       simpa [Ty.size] using this)
      (fun k r c l hr hl=>by
       have hk:k<p.length:=by rw [<- hyl]; exact (List.getElem?_eq_some_iff.1 hr).1
       have hl' : l = .sl .bool r:=by
        obtain ⟨hc,he⟩:=List.getElem?_eq_some_iff.1 hl
        have:c=0:=by simpa [leaves] using hc
        subst this
        simpa [leaves] using he.symm
       subst hl'
       obtain ⟨r',hr1,hr2⟩:=hget k hk
       rw [show y[k]? = some r from hr] at hr1
       cases hr1
       have hrl:r.length=a.length:=(mapO_get hr2).1
       obtain ⟨oB,hB⟩:=hO.done k hk
       have:=Rep.sl (E:=E) (w:=w') (F:=fun b o=>F b o\/(w.heap.size<=b/\b<w'.heap.size)) .bool r (some ⟨B k,0,none⟩) a.length (fun i _ => .bool (r.getD i false)) (by rw [hrl]; exact Nat.le_refl _) (fun h=>by cases h) (fun ad hd _=>by cases hd; rfl)
        (fun ad hd i z c l hz hl=>by
         cases hd
         have hi:i<a.length:=by rw [<- hrl]; exact (List.getElem?_eq_some_iff.1 hz).1
         have hc0:c=0:=by have:=(List.getElem?_eq_some_iff.1 hl).1; simpa [leaves] using this
         subst hc0
         have:=hB.cell hi
         refine ⟨.inr ⟨oB,hB.lt⟩,?_⟩
         rw [show (y.getD k []).getD i false=r.getD i false by simp [show y[k]? = some r from hr]] at this
         simpa [Ty.size] using this)
        (fun i z c l hz hl=>by
         have hl' : l = .bool z:=by
          obtain ⟨hc,he⟩:=List.getElem?_eq_some_iff.1 hl
          have:c=0:=by simpa [leaves] using hc
          subst this
          simpa [leaves] using he.symm
         subst hl'
         have:r.getD i false=z:=by simp [show r[i]? = some z from hz]
         rw [this]
         exact Rep.bool _)
       rw [hrl] at this
       exact this)
     rw [hyl] at hT
     exact hT
end Go.Ai.Mor
end

set_option maxRecDepth 100000
noncomputable section
namespace Go.Ai.Mor
open Go Go.Ai Go.Proofs
namespace pattern_lengths
inductive Pt
 | c4 (h:Int) (e p:List Int) (d:List aItem) (i:List (List Bool)) (u:Int)
 | c3 (h:Int) (e p:List Int) (d:List aItem) (i:List (List Bool)) (m s o:Int)
 | c2 (h:Int) (e:List Int) (d:List aItem) (i:List (List Bool)) (m:Int) (p:List Int)
 | c1 (e:List Int) (d:List aItem) (i:List (List Bool)) (t:List Int) (m h:Int)
def D:FD pd := {f:=176,fn:=Tryz.f176,q:=91,pl:=pls 12 [(5,kp [1,2,8,9,10] [] [] [(7,.own (100007,0,3) (.int .i64))]),(7,kp [1,2,8,9,10] [] [] [(7,.own (100007,0,3) (.int .i64))])],ps:=[(.sl (.st .aLetter)),(.sl (.st .aItem)),(.sl (.int .i64))],rs:=[(.sl (.int .i64))],ex:=[some 3],dp:=2,cs:=[pattern_closed.con],il:=[inl 0 43 184 44 Tryz.f184 (pls 13 [(3,kp [0,1,2,3,7,10,11,12] [] [1,2,8,10] [] [(7,.own (200007,0,3) (.int .i64))]),(11,kp [2,7] [] [1,2,8,10] [] [(7,.own (200007,0,3) (.int .i64))])]) Tryz.func184 (by kernel_rfl)],X:=extClo 181 184 [(.sl (.st .aLetter)),(.sl (.st .aItem))] machineCs (fun x=>pattern_machine x.1 x.2) (noX),hX:=⟨fun _=>callOk_clo pattern_machine_says (callOk_none),extClo_mono (XMono.noX)⟩}
def go:((List aLetter)×(List aItem)×(List Int))->Tr Pt ((List Int))
 | (v,d,e)=>
  .b (pattern_machine v d) fun i=>
  .b (pattern_closed d 1) fun w=>
  .j (.c1 e d i ([]:(List Int)) w 0)
def st:Pt->Tr Pt ((List Int))
 | .c4 h e p d i u=>
  .b (pattern_closed d u) fun y=>
  .j (.c1 e d i p y (IntKind.i64.wrap (h+1)))
 | .c3 h e p d i m s o=>
  .c (decide (o<(d.length:Int)))
  (.c (decide (0<=o)&&decide (o<(d.length:Int)))
   (.c (decide (o<0))
    .n
    (.c (decide ((IntKind.u8.wrap (((BitVec.ofInt IntKind.u8.bits (Int.fdiv m (2 ^ (min o.toNat IntKind.u8.bits))) &&& BitVec.ofInt IntKind.u8.bits 1).toNat:Int)))=0))
     (.j (.c3 h e p d i m s (IntKind.i64.wrap (o+1))))
     (.c (decide (0<=o)&&decide (o<(i.length:Int)))
      (.c (decide (0<=e.getD h.toNat default)&&decide (e.getD h.toNat default<((i.getD o.toNat default).length:Int)))
       (.c (!((i.getD o.toNat default).getD (e.getD h.toNat default).toNat default))
        (.j (.c3 h e p d i m s (IntKind.i64.wrap (o+1))))
        (.c ((d.getD o.toNat default).fRepeated)
         (.c (decide (o<0))
          .n
          (.j (.c3 h e p d i m (IntKind.u8.wrap (((BitVec.ofInt IntKind.u8.bits s ||| BitVec.ofInt IntKind.u8.bits (IntKind.u8.wrap (1*2 ^ (min o.toNat IntKind.u8.bits)))).toNat:Int))) (IntKind.i64.wrap (o+1)))))
         (.c (decide (IntKind.i64.wrap (o+1)<0))
          .n
          (.j (.c3 h e p d i m (IntKind.u8.wrap (((BitVec.ofInt IntKind.u8.bits s ||| BitVec.ofInt IntKind.u8.bits (IntKind.u8.wrap (1*2 ^ (min (IntKind.i64.wrap (o+1)).toNat IntKind.u8.bits)))).toNat:Int))) (IntKind.i64.wrap (o+1))))))) .n) .n))) .n)
  (.j (.c4 h e p d i s))
 | .c2 h e d i m p=>
  .c (decide (h=(e.length:Int)))
  (.r p)
  (.c (decide (m=0))
   (.r p)
   (.c (decide (0<=h)&&decide (h<(e.length:Int)))
    (.j (.c3 h e p d i m 0 0)) .n))
 | .c1 e d i t m h=>
  .c (decide ((d.length:Int)<0))
  .n
  (.c (decide ((IntKind.u8.wrap (((BitVec.ofInt IntKind.u8.bits (Int.fdiv m (2 ^ (min (d.length:Int).toNat IntKind.u8.bits))) &&& BitVec.ofInt IntKind.u8.bits 1).toNat:Int)))=1))
   (.c (decide (t.length+([h]:List Int).length<=lim))
    (.j (.c2 h e d i m (t++[h]))) .n)
   (.j (.c2 h e d i m t)))
def pt:Pt->List Dir×St E
 | .c4 h e p d i u=>([.r,.r,.r,.r,.r,.k,.L,.l,.k,.r,.r,.c 6 184 44 0 false,.r,.r],ms 47 91 [(2,hF [.sl (.st .aItem) d]),(7,hi .u8 u)] [] 44 [(1,hL (.st .aItem) d),(2,hL (.int .i64) e),(7,hT 200007 3 (.int .i64) p),(8,.one (.fn (.func 184) [] [.fptr [.sl (.st .aItem) d],.fptr [.sl (.sl .bool) i]])),(10,hI h)] [] false 44)
 | .c3 h e p d i m s o=>([.r,.r,.r,.r,.r,.k,.L,.l,.k,.r,.r,.c 6 184 44 0 false,.r,.r,.l,.r,.k],ms 47 91 [(0,hi .u8 m),(1,hI (e.getD h.toNat default)),(2,hF [.sl (.st .aItem) d]),(3,hF [.sl (.sl .bool) i]),(7,hi .u8 s),(10,hL (.st .aItem) d),(11,hI (d.length:Int)),(12,hI o)] [] 44 [(1,hL (.st .aItem) d),(2,hL (.int .i64) e),(7,hT 200007 3 (.int .i64) p),(8,.one (.fn (.func 184) [] [.fptr [.sl (.st .aItem) d],.fptr [.sl (.sl .bool) i]])),(10,hI h)] [] false 44)
 | .c2 h e d i m p=>([.r,.r,.r,.r,.r,.k,.L,.l,.k],ms 44 91 [(1,hL (.st .aItem) d),(2,hL (.int .i64) e),(7,hT 100007 3 (.int .i64) p),(8,.one (.fn (.func 184) [] [.fptr [.sl (.st .aItem) d],.fptr [.sl (.sl .bool) i]])),(9,hi .u8 m),(10,hI h)])
 | .c1 e d i t m h=>([.r,.r,.r,.r,.r,.k],ms 44 91 [(1,hL (.st .aItem) d),(2,hL (.int .i64) e),(7,hT 100007 3 (.int .i64) t),(8,.one (.fn (.func 184) [] [.fptr [.sl (.st .aItem) d],.fptr [.sl (.sl .bool) i]])),(9,hi .u8 m),(10,hI h)])
theorem g:D.G st pt:=fun Z a=>by cases a <;> kernel_rfl
theorem g0:D.G0 go pt:=fun Z ⟨_,_,_⟩=>by kernel_rfl
abbrev con:Con Tryz.prog E:=FD.con Tryz.func176 (by kernel_rfl) g g0
end pattern_lengths
def pattern_lengths (v:List aLetter) (d:List aItem) (e:List Int):Option ((List Int)):=ev (pattern_lengths.go (v,d,e)) (fx pattern_lengths.st)
end Go.Ai.Mor
end

set_option maxRecDepth 100000
noncomputable section
namespace Go.Ai.Mor
open Go Go.Ai Go.Proofs
namespace pattern_Matches
inductive Pt
def D:FD pd := {f:=170,fn:=Tryz.f170,q:=37,ps:=[(.sl (.st .aLetter)),(.sl (.st .aItem)),.str],rs:=[.bool],ex:=[none],cs:=[pattern_read.con,pattern_lengths.con]}
def go:((List aLetter)×(List aItem)×(List UInt8))->Tr Pt (Bool)
 | (e,h,j)=>
  .b (pattern_read e h j) fun i=>
  .c (!i.2)
  (.r false)
  (.b (pattern_lengths e h i.1) fun d=>
   .c (decide (0<(d.length:Int)))
   (.c (decide (0<=IntKind.i64.wrap ((d.length:Int) - 1))&&decide (IntKind.i64.wrap ((d.length:Int) - 1)<(d.length:Int)))
    (.r (decide ((d.getD (IntKind.i64.wrap ((d.length:Int) - 1)).toNat default)=(i.1.length:Int)))) .n)
   (.r false))
def st:Pt->Tr Pt (Bool):=nofun
def pt:Pt->List Dir×St E:=nofun
theorem g:D.G st pt:=fun Z a=>by cases a <;> kernel_rfl
theorem g0:D.G0 go pt:=fun Z ⟨_,_,_⟩=>by kernel_rfl
abbrev con:Con Tryz.prog E:=FD.con Tryz.func170 (by kernel_rfl) g g0
end pattern_Matches
def pattern_Matches (e:List aLetter) (h:List aItem) (j:List UInt8):Option (Bool):=ev (pattern_Matches.go (e,h,j)) (fx pattern_Matches.st)
end Go.Ai.Mor
end

set_option maxRecDepth 100000
noncomputable section
namespace Go.Ai.Mor
open Go Go.Ai Go.Proofs
namespace slices_Clone_aItem_aItem
inductive Pt
 | c1 (b:List aItem)
def D:FD pd := {f:=177,fn:=Tryz.f177,q:=8,pl:=pls 5 [(3,kp [0])],ps:=[(.sl (.st .aItem))],rs:=[(.sl (.st .aItem))],ex:=[some 162]}
def go:((List aItem))->Tr Pt ((List aItem))
 | b=>
  .c b.isEmpty
  (.m gAgree
   (.r [])
   (.j (.c1 b)))
  (.j (.c1 b))
def st:Pt->Tr Pt ((List aItem))
 | .c1 b=>
  .c (decide (([]:List aItem).length+b.length<=lim))
  (.r ([]++b)) .n
def pt:Pt->List Dir×St E
 | .c1 b=>([.r],ms 8 8 [(0,hL (.st .aItem) b)])
theorem g:D.G st pt:=fun Z a=>by cases a <;> kernel_rfl
theorem g0:D.G0 go pt:=fun Z _=>by kernel_rfl
abbrev con:Con Tryz.prog E:=FD.con Tryz.func177 (by kernel_rfl) g g0
end slices_Clone_aItem_aItem
def slices_Clone_aItem_aItem (b:List aItem):Option ((List aItem)):=ev (slices_Clone_aItem_aItem.go b) (fx slices_Clone_aItem_aItem.st)
end Go.Ai.Mor
end

noncomputable section
namespace Go.Ai
open Go Go.Proofs Go.Lib Go.Sort Go.Shelf Go.RowKit
section
variable {N:Type} [DecidableEq N] {E:Env N} {P:Program} {τ:Ty N} {w w' : World} {F:Fz}
def scV:TV E->Value
 | .int k n => .int k n
 | .bool b => .bool b
 | .str l => .string ⟨l.toArray⟩
 | _ => .nilFunc
def encT (τ:Ty N) (x:den E.Γ τ):List Value:=(leaves (E:=E) τ x).map scV
theorem scV_of {l:TV E} {u:Value} (hl:match l with | .int .. => True | .bool .. => True | .str .. => True | _=>False) (h:Rep w F l u):u=scV l:=by
 cases h with
 | int k n=>rfl
 | bool b=>rfl
 | str s=>simp [scV]
 | _=>exact hl.elim
theorem rep_scV {l:TV E} (hl:match l with | .int .. => True | .bool .. => True | .str .. => True | _=>False):Rep w F l (scV l):=by
 cases l with
 | int k n=>exact Rep.int _ _
 | bool b=>exact Rep.bool _
 | str s=>have:=Rep.str (E:=E) (w:=w) (F:=F) ⟨s.toArray⟩; simpa [scV] using this
 | _=>exact hl.elim
theorem scV_one {l:TV E} (hl:match l with | .int .. => True | .bool .. => True | .str .. => True | _=>False):(scV l).oneCell' = true:=by
 cases l with
 | int k n=>rfl
 | bool b=>rfl
 | str s=>rfl
 | _=>exact hl.elim
variable [Inhabited (den E.Γ τ)]
theorem encT_len (x:den E.Γ τ):(encT (E:=E) τ x).length=τ.size E:=by simp [encT,size_leaves]
theorem flatT_get (d:Array (den E.Γ τ)) (q:Nat) (h:q<d.size*τ.size E):(flatK (encT (E:=E) τ) (τ.size E) d).toList[q]? = some ((encT (E:=E) τ d[q / τ.size E]!)[q % τ.size E]!):=by
 simp [flatK,h]
theorem row_flatT (hf:τ.flat E=true) {xs:List (den E.Γ τ)} {L:List Value} (h:RowRep (E:=E) w F τ xs L):L=(flatK (encT (E:=E) τ) (τ.size E) xs.toArray).toList:=by
 have hp:=size_pos (E:=E) τ
 apply List.ext_getElem?
 intro q
 by_cases hq:q<xs.length*τ.size E
 ·rw [flatT_get _ _ (by simpa using hq)]
  have hi:q / τ.size E<xs.length:=by rw [Nat.div_lt_iff_lt_mul hp]; exact hq
  have hc:q % τ.size E<τ.size E:=Nat.mod_lt _ hp
  have hx:xs[q / τ.size E]? = some xs[q / τ.size E]:=List.getElem?_eq_getElem hi
  have hx' : xs.toArray[q / τ.size E]! = xs[q / τ.size E]:=by simp [hi]
  have hcl:q % τ.size E<(leaves (E:=E) τ xs[q / τ.size E]).length:=by rw [size_leaves]; exact hc
  obtain ⟨u,h1,h2⟩:=h.2 _ _ (q % τ.size E) _ hx (List.getElem?_eq_getElem hcl)
  rw [show q / τ.size E*τ.size E+q % τ.size E=q from by rw [Nat.mul_comm]; exact Nat.div_add_mod _ _] at h1
  rw [h1,hx',scV_of (leaves_scalar τ _ hf _ (List.getElem_mem hcl)) h2]
  simp [encT,hcl]
 ·rw [List.getElem?_eq_none (by rw [h.1]; omega),List.getElem?_eq_none (by simp; omega)]
theorem flat_rowT (hf:τ.flat E=true) (xs:List (den E.Γ τ)):RowRep (E:=E) w F τ xs (flatK (encT (E:=E) τ) (τ.size E) xs.toArray).toList:=by
 have hp:=size_pos (E:=E) τ
 refine ⟨by simp,fun i x c l hx hl => ?_⟩
 obtain ⟨hi,hxe⟩:=List.getElem?_eq_some_iff.1 hx
 obtain ⟨hc,hle⟩:=List.getElem?_eq_some_iff.1 hl
 have hc' : c<τ.size E:=by rw [<- size_leaves (E:=E) τ x]; exact hc
 have hlt:i*τ.size E+c<xs.length*τ.size E:=by
  have:=Nat.mul_le_mul_right (τ.size E) (show i+1<=xs.length from hi)
  rw [Nat.add_mul,Nat.one_mul] at this
  omega
 refine ⟨scV l,?_,rep_scV (leaves_scalar τ x hf l (List.mem_of_getElem? hl))⟩
 rw [flatT_get _ _ (by simpa using hlt)]
 have e1:(i*τ.size E+c) / τ.size E=i:=by rw [Nat.add_comm,Nat.add_mul_div_right _ _ hp,Nat.div_eq_of_lt hc',Nat.zero_add]
 have e2:(i*τ.size E+c) % τ.size E=c:=by rw [Nat.add_comm,Nat.add_mul_mod_self_right,Nat.mod_eq_of_lt hc']
 rw [e1,e2]
 have hx' : xs.toArray[i]! = x:=by simp [hi,hxe]
 rw [hx']
 simp [encT,hc,hle]
theorem mutRev {f e:Nat} (hf:τ.flat E=true) (hc:callable P f=true)
  (hcall:∀ (blk cap:Nat) (xs:List (den E.Γ τ)) (w:World),Holds id w blk 0 (flatK (encT (E:=E) τ) (τ.size E) xs.toArray)->xs.length<=9223372036854775807 ->
   Calls P f #[.slice (some ⟨blk,0,none⟩) xs.length cap] w fun en w' => en = .returned (.tuple #[]) /\ ∃ n,w' = putRow id (Sort.ahead w n) blk 0 (flatK (encT (E:=E) τ) (τ.size E) xs.reverse.toArray))
  (hnil:∀ w,Calls P f #[.slice none 0 0] w fun en w' => en = .returned (.tuple #[])/\w' = w):MutSays (E:=E) P f none e τ (fun xs=>some xs.reverse):=by
 refine ⟨hc,?_⟩
 intro xs ys hxy w base F v L i hi hsz ho hr hF hFv hbase
 have hys:ys=xs.reverse:=(Option.some.inj hxy).symm
 subst hys
 rcases ho.2 with ⟨hv,hn0⟩ | ⟨g,cap,cur,hv,hb,hg,hnc,hcm,hcs,htake⟩
 ·subst hv
  have hxs:xs=[]:=List.eq_nil_of_length_eq_zero hn0
  subst hxs
  refine (hnil w).mono ?_
  rintro en w' ⟨rfl,rfl⟩
  exact ⟨rfl,⟨rfl,rfl,rfl,Nat.le_refl _,fun _ _ _=>rfl⟩,L,ho,hr⟩
 ·subst hv
  have hL:=row_flatT hf hr
  have hlt:g<w.heap.size:=(Array.getElem?_eq_some_iff.1 hg).1
  have hsz0:xs.length<=9223372036854775807:=by simp only [maxLen] at hcm; omega
  have hH:Holds id w g 0 (flatK (encT (E:=E) τ) (τ.size E) xs.toArray):=by
   intro q hq
   have hq' : q<xs.length*τ.size E:=by simpa using hq
   refine ⟨?_,?_⟩
   ·have h1:L[q]? = some ((encT (E:=E) τ xs.toArray[q / τ.size E]!)[q % τ.size E]!):=by rw [hL]; exact flatT_get _ _ (by simpa using hq')
    have h2:=ho.cells (g:=g) rfl q _ h1
    rw [addr_add] at h2
    rw [h2,get_flatK _ _ _ _ (by simpa using hq')]
    rfl
   ·simp [World.frozen?,hg]
  refine (hcall g cap xs w hH hsz0).mono ?_
  rintro en w' ⟨rfl,n,rfl⟩
  have hheap:∀ k:Nat,(putRow id (Sort.ahead w n) g 0 (flatK (encT (E:=E) τ) (τ.size E) xs.reverse.toArray)).heap[k]? = (w.heap[k]?).map fun o=>if g=k then onCells (putCells id 0 (flatK (encT (E:=E) τ) (τ.size E) xs.reverse.toArray)) o else o:=by
   intro k
   show (w.heap.modify g (onCells (putCells id 0 (flatK (encT (E:=E) τ) (τ.size E) xs.reverse.toArray))))[k]? = _
   rw [Array.getElem?_modify]
   cases w.heap[k]? with
   | none=>simp
   | some o=>by_cases e:g=k <;> simp [e]
  have htk:(putCells id 0 (flatK (encT (E:=E) τ) (τ.size E) xs.reverse.toArray) cur).toList.take (xs.reverse.length*i.size)=(flatK (encT (E:=E) τ) (τ.size E) xs.reverse.toArray).toList:=by
   rw [hsz] at hcs ⊢
   have hc2:xs.reverse.length*τ.size E<=cur.size:=by rw [List.length_reverse,hcs]; exact Nat.mul_le_mul_right _ hnc
   apply List.ext_getElem?
   intro q
   by_cases hq:q<xs.reverse.length*τ.size E
   ·rw [List.getElem?_take_of_lt hq,flatT_get _ _ (by simpa using hq),Array.getElem?_toList]
    simp only [putCells,Array.getElem?_mapIdx]
    rw [Array.getElem?_eq_getElem (show q<cur.size by omega)]
    have hq2:q<xs.reverse.toArray.size*τ.size E:=by simpa using hq
    simp only [Option.map_some,Nat.zero_le,true_and,Nat.zero_add,Nat.sub_zero,size_flatK,hq2,if_true,id]
    rw [get_flatK _ _ _ _ hq2]
   ·rw [List.getElem?_eq_none (by simp at hq ⊢; omega),List.getElem?_eq_none (by simp at hq ⊢; omega)]
  refine ⟨rfl,⟨rfl,rfl,rfl,?_,?_⟩,(flatK (encT (E:=E) τ) (τ.size E) xs.reverse.toArray).toList,?_,flat_rowT hf _⟩
  ·show w.heap.size<=(w.heap.modify g _).size
   simp
  ·intro k hk hne
   have hgk:g≠k:=fun e=>hne (by rw [e]; rfl)
   rw [hheap k]
   simp [hgk]
  ·refine ⟨by rw [hsz]; simp,.inr ⟨g,cap,putCells id 0 (flatK (encT (E:=E) τ) (τ.size E) xs.reverse.toArray) cur,by simp,hb,?_,by simpa using hnc,hcm,by simp [putCells,hcs],htk⟩⟩
   rw [hheap g,hg]
   simp [onCells]
end
end Go.Ai
namespace Go.Ai.Mor
open Go Go.Ai Go.Proofs Go.Lib Go.Sort Go.Shelf Go.RowKit
variable {fv:Nat->Value}
def revItems (xs:List aItem):Option (List aItem):=some xs.reverse
def revInts (xs:List Int):Option (List Int):=some xs.reverse
theorem ty162 (w:World):(isAgg 162).run Tryz.prog w = .ok true w/\(Go.sizeOf 162).run Tryz.prog w = .ok 4 w:=by
 obtain ⟨ti,hti,h1,h2⟩:∃ ti:TI E,tisE.lookup 162=some ti/\ti.agg=true/\ti.size=4:=⟨_,rfl,rfl,rfl⟩
 obtain ⟨i,d,hT,_⟩:=tok_of (COk_Tryz (sig:=fun _=>none) (it:=fun _=>none) (nt:=0) (r1:=[]) (r2:=[])) (t:=162) (ti:=ti) hti
 refine ⟨?_,?_⟩
 ·rw [run_isAgg hT.under,hT.agg,h1]
 ·rw [run_size hT.info,hT.size,h2]
instance:Inhabited (den (E.withFv fv).Γ (.st .aItem)):=inferInstanceAs (Inhabited aItem)
instance:Inhabited (den (E.withFv fv).Γ (.int .i64)):=inferInstanceAs (Inhabited Int)
theorem revItems_says:MutSays (E:=E.withFv fv) Tryz.prog 178 none 162 (.st .aItem) revItems:=by
 refine mutRev (E:=E.withFv fv) (τ := .st .aItem) rfl (by kernel_rfl) ?_ fun w=>AnyQ.slices_Reverse_empty Tryz.revItem none 0 w
 intro blk cap xs w hH hsz
 have h:=AnyQ.slices_Reverse Tryz.revItem 4 (fun w=>(ty162 w).1) (fun w=>(ty162 w).2) (encT (E:=E.withFv fv) (.st .aItem)) (fun x=>encT_len (E:=E.withFv fv) (τ := .st .aItem) x) (fun x v hv=>by
  obtain ⟨l,hl,rfl⟩:=List.mem_map.1 hv
  exact scV_one (leaves_scalar (E:=E.withFv fv) (.st .aItem) x rfl l hl)) blk 0 cap xs.toArray w hH (by simpa using hsz)
 rw [show xs.toArray.size=xs.length by simp] at h
 refine h.mono ?_
 rintro en w' ⟨rfl,n,rfl⟩
 refine ⟨rfl,n,?_⟩
 rw [List.reverse_toArray]
 rfl
theorem flat_int (d:Array Int):flatK (encT (E:=E.withFv fv) (.int .i64)) 1 d=d.map (Value.int .i64):=by
 apply Array.ext
 ·simp
 ·intro q h1 h2
  have hq:q<d.size:=by simpa using h2
  simp [flatK,encT,leaves,scV,Nat.mod_one,hq]
theorem revInts_says:MutSays (E:=E.withFv fv) Tryz.prog 179 none 3 (.int .i64) revInts:=by
 refine mutRev (E:=E.withFv fv) (τ := .int .i64) rfl (by kernel_rfl) ?_ fun w=>Any.slices_Reverse_int_empty Tryz.revInt none 0 w
 intro blk cap (xs:List Int) w hH hsz
 have hH' : Holds (Value.int .i64) w blk 0 xs.toArray:=by
  intro q hq
  have hq' : q<xs.length:=by simpa using hq
  have:=hH q (by simpa [Ty.size] using hq')
  rw [show flatK (encT (E:=E.withFv fv) (.int .i64)) (Ty.size (E.withFv fv) (.int .i64)) xs.toArray=xs.toArray.map (Value.int .i64) from flat_int xs.toArray] at this
  simpa [hq'] using this
 refine (Any.slices_Reverse_int Tryz.revInt blk 0 cap xs w hH' hsz).mono ?_
 rintro en w' ⟨rfl,n,rfl⟩
 refine ⟨rfl,n,?_⟩
 rw [show flatK (encT (E:=E.withFv fv) (.int .i64)) (Ty.size (E.withFv fv) (.int .i64)) xs.reverse.toArray=xs.reverse.toArray.map (Value.int .i64) from flat_int xs.reverse.toArray]
 unfold putRow
 congr 1
 funext c
 unfold putCells
 congr 1
 funext k x
 by_cases hk:0<=k/\k<0+xs.reverse.toArray.size
 ·rw [if_pos hk,if_pos (by simpa using hk)]
  have:k<xs.reverse.length:=by simpa using hk.2
  simp [<- List.map_reverse,List.getElem?_eq_getElem this]
 ·rw [if_neg hk,if_neg (by simpa using hk)]
end Go.Ai.Mor
end

