/- A part that the proofs of the laws of this seat share: an interpreter of loaded code over typed values, what it says of the functions that the laws reach, and plain facts on these. -/
import Derived.Test.YtcjihfnjccclgaaGreatDoorA0
import Derived.Test.YtcjihfnjccclgaaGreatDoorA1
import Derived.Test.YtcjihfnjccclgaaGreatDoorA2
import Derived.Test.YtcjihfnjccclgaaGreatDoorA3
set_option linter.unusedSectionVars false
set_option linter.unusedVariables false
set_option linter.unusedSimpArgs false
set_option maxRecDepth 100000
noncomputable section
namespace Go.Ai.Mor
open Go Go.Ai Go.Proofs
namespace l11_small
inductive Pt
 | c5 (e d:Int) (b:aWords)
 | c4 (e d:Int) (b:aWords) (i:Int)
 | c3 (d:Int) (b:aWords) (e:Int)
 | c2 (d:Int) (b:aWords) (m h:Int)
 | c1 (b:aWords) (d:Int)
def D:FD pd := {f:=12,fn:=Tryz.f12,q:=92,pl:=pls 35 [(5,kp [1,3] [(1,4)]),(14,kp [1,3,4,5,6] [(1,4),(4,3)]),(21,kp [1,3,4,5] [(1,4),(4,3)]),(23,kp [1,3,4,5,7] [(1,4),(4,3)]),(29,kp [1,3,5] [(1,4)])],ps:=[(.st .aWords)],rs:=[.bool],ex:=[none]}
def go:(aWords)->Tr Pt (Bool)
 | b=>
  .c (decide (12<(b.fAlphabet.length:Int)))
  (.r false)
  (.c (decide (4<(b.fRules.length:Int)))
   (.r false)
   (.c (decide (4<(b.fParadigms.length:Int)))
    (.r false)
    (.c (decide (8<(b.fLexemes.length:Int)))
     (.r false)
     (.j (.c1 b 0)))))
def st:Pt->Tr Pt (Bool)
 | .c5 e d b=>
  .c (decide (16<e))
  (.r false)
  (.j (.c1 b (IntKind.i64.wrap (d+1))))
 | .c4 e d b i=>
  .c (decide (i<(((b.fParadigms.getD d.toNat default).fSlots).length:Int)))
  (.c (decide (0<=i)&&decide (i<(((b.fParadigms.getD d.toNat default).fSlots).length:Int)))
   (.c (decide (6<((((b.fParadigms.getD d.toNat default).fSlots).getD i.toNat default).length:Int)))
    (.r false)
    (.j (.c4 e d b (IntKind.i64.wrap (i+1))))) .n)
  (.j (.c5 e d b))
 | .c3 d b e=>
  .j (.c4 e d b 0)
 | .c2 d b m h=>
  .c (decide (h<(((b.fParadigms.getD d.toNat default).fDimensions).length:Int)))
  (.c (decide (0<=h)&&decide (h<(((b.fParadigms.getD d.toNat default).fDimensions).length:Int)))
   (.c (decide (4<(((((b.fParadigms.getD d.toNat default).fDimensions).getD h.toNat default).fValues).length:Int)))
    (.r false)
    (.c (decide (0<=h)&&decide (h<(((b.fParadigms.getD d.toNat default).fDimensions).length:Int)))
     (.j (.c2 d b (IntKind.i64.wrap (m*(((((b.fParadigms.getD d.toNat default).fDimensions).getD h.toNat default).fValues).length:Int))) (IntKind.i64.wrap (h+1)))) .n)) .n)
  (.j (.c3 d b m))
 | .c1 b d=>
  .c (decide (d<(b.fParadigms.length:Int)))
  (.c (decide (0<=d)&&decide (d<(b.fParadigms.length:Int)))
   (.c (decide (3<(((b.fParadigms.getD d.toNat default).fDimensions).length:Int)))
    (.r false)
    (.c (decide (4<(((b.fParadigms.getD d.toNat default).fSlots).length:Int)))
     (.r false)
     (.j (.c2 d b 1 0)))) .n)
  (.r true)
def pt:Pt->List Dir×St E
 | .c5 e d b=>([.r,.r,.l,.r,.k,.L,.r,.l,.k,.r,.r,.r,.r],ms 92 92 [(1,hP 1),(3,hI d),(5,hI e)] [(1,.cells [cL (.st .aLetter) b.fAlphabet,cL (.st .aRule) b.fRules,cL (.st .aParadigm) b.fParadigms,cL (.st .aLexeme) b.fLexemes])])
 | .c4 e d b i=>([.r,.r,.l,.r,.k,.L,.r,.l,.k,.r,.r,.r,.r,.l,.r,.k],ms 92 92 [(1,hP 1),(3,hI d),(4,hP 4),(5,hI e),(7,hI i)] [(1,.cells [cL (.st .aLetter) b.fAlphabet,cL (.st .aRule) b.fRules,cL (.st .aParadigm) b.fParadigms,cL (.st .aLexeme) b.fLexemes]),(4,.cells [cS ((b.fParadigms.getD d.toNat default).fName),cL (.st .aDimension) ((b.fParadigms.getD d.toNat default).fDimensions),cL (.sl (.st .aAffix)) ((b.fParadigms.getD d.toNat default).fSlots)])])
 | .c3 d b e=>([.r,.r,.l,.r,.k,.L,.r,.l,.k,.r,.r,.r],ms 92 92 [(1,hP 1),(3,hI d),(4,hP 4),(5,hI e)] [(1,.cells [cL (.st .aLetter) b.fAlphabet,cL (.st .aRule) b.fRules,cL (.st .aParadigm) b.fParadigms,cL (.st .aLexeme) b.fLexemes]),(4,.cells [cS ((b.fParadigms.getD d.toNat default).fName),cL (.st .aDimension) ((b.fParadigms.getD d.toNat default).fDimensions),cL (.sl (.st .aAffix)) ((b.fParadigms.getD d.toNat default).fSlots)])])
 | .c2 d b m h=>([.r,.r,.l,.r,.k,.L,.r,.l,.k,.r,.r,.r,.l,.r,.k],ms 92 92 [(1,hP 1),(3,hI d),(4,hP 4),(5,hI m),(6,hI h)] [(1,.cells [cL (.st .aLetter) b.fAlphabet,cL (.st .aRule) b.fRules,cL (.st .aParadigm) b.fParadigms,cL (.st .aLexeme) b.fLexemes]),(4,.cells [cS ((b.fParadigms.getD d.toNat default).fName),cL (.st .aDimension) ((b.fParadigms.getD d.toNat default).fDimensions),cL (.sl (.st .aAffix)) ((b.fParadigms.getD d.toNat default).fSlots)])])
 | .c1 b d=>([.r,.r,.l,.r,.k],ms 92 92 [(1,hP 1),(3,hI d)] [(1,.cells [cL (.st .aLetter) b.fAlphabet,cL (.st .aRule) b.fRules,cL (.st .aParadigm) b.fParadigms,cL (.st .aLexeme) b.fLexemes])])
theorem g:D.G st pt:=fun Z a=>by cases a <;> kernel_rfl
theorem g0:D.G0 go pt:=fun Z _=>by kernel_rfl
abbrev con:Con Tryz.prog E:=FD.con Tryz.func12 (by kernel_rfl) g g0
end l11_small
def l11_small (b:aWords):Option (Bool):=ev (l11_small.go b) (fx l11_small.st)
end Go.Ai.Mor
end

namespace Go.Ai.Mor
open Go Go.Ai
deriving instance DecidableEq for aAnalysis
def admL (x:aItem) (l:aLetter):Bool:=(decide ((IntKind.u32.wrap (((BitVec.ofInt IntKind.u32.bits l.fClasses &&& BitVec.ofInt IntKind.u32.bits x.fMask).toNat:Int)))=x.fMask)&&(decide (x.fLetters=[])||(runesL x.fLetters).any fun r=>decide ((r:Int)=l.fRune))) != x.fNegated
def admR (a:List aLetter) (x:aItem) (r:Nat):Bool:=match a.find? fun l=>decide (l.fRune=(r:Int)) with
 | some l=>admL x l
 | none=>false
def rep (x:aItem):Bool:=x.fRepeated
def matchS (a:List aLetter) (p:List aItem) (s:List Nat):Bool:=mt rep (admR a) p s
def leftS (a:List aLetter) (r:aRule) (s:List Nat):Bool:=cond r.fInitial (matchS a r.fLeft s) ((List.range (s.length+1)).any fun i=>matchS a r.fLeft (s.drop i))
def rightS (a:List aLetter) (r:aRule) (s:List Nat):Bool:=cond r.fFinal (matchS a r.fRight s) ((List.range (s.length+1)).any fun i=>matchS a r.fRight (s.take i))
def siteB (a:List aLetter) (r:aRule) (w:List Nat) (i:Nat):Bool:=
 cond (decide (r.fFrom=0)) (leftS a r (w.take i)&&rightS a r (w.drop i)) (match w[i]? with
  | some c=>decide ((c:Int)=r.fFrom)&&(leftS a r (w.take i)&&rightS a r (w.drop (i+1)))
  | none=>false)
def sitesF (a:List aLetter) (r:aRule) (w:List Nat):Nat->Nat->List Int
 | 0,_=>[]
 | d+1,i=>cond (siteB a r w i) ((i:Int)::sitesF a r w d (i+1)) (sitesF a r w d (i+1))
def sitesS (a:List aLetter) (r:aRule) (w:List Nat):List Int:=sitesF a r w (w.length+1) 0
def putR (ins:Bool) (to' : List Nat):Nat->List Int->List Nat->List Nat
 | i,t,[]=>cond (decide (t.head? = some (i:Int))) to' []
 | i,t,c::w=>cond (decide (t.head? = some (i:Int))) (to' ++ (cond ins [c] []++putR ins to' (i+1) t.tail w)) (c::putR ins to' (i+1) t w)
def applyS (a:List aLetter) (r:aRule) (w:List Nat):List Nat:=putR (decide (r.fFrom=0)) (runesL r.fTo) 0 (sitesS a r w) w
def applyW (a:List aLetter) (r:aRule) (s:List UInt8):List UInt8×Int:=
 cond (ruleB a r&&wordB a s) (cond (decide ((applyS a r (runesL s)).length<=40)) (encs (applyS a r (runesL s)),0) ([],2)) ([],1)
def runS (a:List aLetter):List aRule->List UInt8->List UInt8×Int
 | [],s=>(s,0)
 | r::rs,s=>cond (decide ((applyW a r s).2=0)) (runS a rs (applyW a r s).1) ([],(applyW a r s).2)
def cascB (a:List aLetter) (rs:List aRule) (s:List UInt8):Bool:=decide (rs.length<=64)&&(admB a&&(wordB a s&&rs.all (ruleB a)))
def cascS (a:List aLetter) (rs:List aRule) (s:List UInt8):List UInt8×Int:=cond (cascB a rs s) (runS a rs s) ([],1)
def HC (w:aWords):Prop := ∀ u:List UInt8,u.length<=4194304->rewrite_Cascade w.fAlphabet w.fRules u=some (cascS w.fAlphabet w.fRules u)
def par0:aParadigm:=⟨[],[],[]⟩
def lex0:aLexeme:=⟨[],[],[],[],[]⟩
def pOf (w:aWords) (n:List UInt8):aParadigm:=(parP w n).getD par0
def lexP (w:aWords) (n:List UInt8):Option aLexeme:=w.fLexemes.find? fun x=>decide (x.fID=n)
def cellsOf (w:aWords) (x:aLexeme):List (List aFeature):=cond (decide (x.fParadigm=[])) [[]] (cells (pOf w x.fParadigm).fDimensions)
def underW (w:aWords) (x:aLexeme) (c:List aFeature):List UInt8×Int:=underS (pOf w x.fParadigm).fDimensions (pOf w x.fParadigm).fSlots x.fStem x.fFeatures c
def cascB' (w:aWords) (s:List UInt8):List UInt8×Bool:=((cascS w.fAlphabet w.fRules s).1,decide ((cascS w.fAlphabet w.fRules s).2=0))
def formW (w:aWords) (x:aLexeme) (c:List aFeature):List UInt8×Bool:=
 cond (decide (x.fParadigm=[])) (cascB' w x.fStem) (cond (decide ((underW w x c).2=0)) (cascB' w (underW w x c).1) ([],false))
def pairs (w:aWords) (x:aLexeme) (cs:List (List aFeature)):List (List UInt8×aAnalysis):=cs.flatMap fun c=>cond (formW w x c).2 [((formW w x c).1,⟨x.fID,c⟩)] []
def allS (w:aWords):List (List UInt8×aAnalysis):=w.fLexemes.flatMap fun x=>pairs w x (cellsOf w x)
def sel (s:List UInt8) (l:List (List UInt8×aAnalysis)):List aAnalysis:=(l.filter fun x=>decide (x.1=s)).map (·.2)
def anS (w:aWords) (s:List UInt8):List aAnalysis×Int:=cond (wordB w.fAlphabet s) (cond (decide ((sel s (allS w)).length<=256)) (sel s (allS w),0) ([],2)) ([],1)
def formsS (w:aWords) (n:List UInt8):List (List UInt8)×Int:=match lexP w n with
 | none=>([],4)
 | some x=>cond ((cellsOf w x).all fun c=>(formW w x c).2) ((cellsOf w x).map fun c=>(formW w x c).1,0) ([],2)
theorem ok_par0:OkP par0:=⟨by simp [par0],⟨by simp [par0],fun d h=>by cases h⟩,⟨by simp [par0],fun s h=>by cases h⟩,by simp [par0,szS]⟩
section
variable {w:aWords} (hw:OkW w) (hp:partsB w=true)
include hw
theorem ok_pOf (n:List UInt8):OkP (pOf w n):=by
 unfold pOf
 cases h:parP w n with
 | none=>exact ok_par0
 | some p=>exact hw.pars p (List.mem_of_find?_eq_some h)
theorem ok_lexP {n:List UInt8} {x:aLexeme} (h:lexP w n=some x):okLex x:=hw.lexs x (List.mem_of_find?_eq_some h)
omit hw in
include hp in
theorem asc_pOf (n:List UInt8):ascSlots (pOf w n).fSlots:=by
 unfold pOf
 cases h:parP w n with
 | none=>intro s hs; cases hs
 | some p=>
   simp only [partsB,Bool.and_eq_true,List.all_eq_true] at hp
   exact (parB_facts (hp.2.2.2.2.1 p (List.mem_of_find?_eq_some h))).2.2.1
theorem paradigm_pOf (n:List UInt8):morphology_words_paradigm ⟨w⟩ n=some (pOf w n,(parP w n).isSome):=words_paradigm_eq hw n
theorem cells_1_eq (x:aLexeme):morphology_words_cells_1 x.fID x.fCategory x.fStem x.fParadigm x.fFeatures w.fAlphabet w.fRules w.fParadigms w.fLexemes=some (cellsOf w x):=by
 have ew:aWords.mk w.fAlphabet w.fRules w.fParadigms w.fLexemes=w:=rfl
 simp only [morphology_words_cells_1,morphology_words_cells_1.go,evs,ev_b,ew,paradigm_pOf hw,Option.bind_some,cellsOf]
 cases decide (x.fParadigm=[]) with
 | true=>rfl
 | false=>
   simp only [cond_false]
   have hd:=(ok_pOf hw x.fParadigm).dims
   rw [paradigm_Count_eq hd,Option.bind_some]
   generalize hb:(parP w x.fParadigm).isSome=b
   generalize pOf w x.fParadigm=p at hd ⊢
   have hc:=count_le p.fDimensions
   have hl:=cells_length p.fDimensions
   exact over (xs:=cells p.fDimensions) (f:=fun i (_:Unit)=>fx morphology_words_cells_1.st (.c1 (p,b) (count p.fDimensions:Int) i)) (g:=fun t _=>some t) (fun _=>by
    rw [fx_eq]; simp only [morphology_words_cells_1.st,evs,hl,↓cneg (Int.lt_irrefl _)]) (fun i c t _ hi hx ih=>by
    have ih:=ih ()
    rw [hl] at hi
    rw [fx_eq]; simp (disch:=omega) only [morphology_words_cells_1.st,evs,ev_b,↓cpos,paradigm_Cell_eq hd,Option.bind_some,cellS,↓cpos2,Int.toNat_natCast,hx,wsucc,ih]
    rfl) ()
include hp
theorem form_eq (hC:HC w) {x:aLexeme} (hx:okLex x) {c:List aFeature} (hc:c.length<=1048576):morphology_words_form ⟨w⟩ x c=some (formW w x c):=by
 have hps:=ok_pOf hw x.fParadigm
 have hst:=hx.stem
 have hsz:=hps.size
 have l1:∀ u:List UInt8,u.length<=4194304->fx morphology_words_form.st (.c1 ⟨w⟩ u)=some (cascB' w u):=fun u hu=>by
  rw [fx_eq]; simp only [morphology_words_form.st,evs,ev_b]
  rw [hC u hu]; rfl
 have hul:(underW w x c).1.length<=4194304:=by
  unfold underW underS
  split
  ·simp
  ·rename_i m hm
   have:=formS_length m (pOf w x.fParadigm).fSlots x.fStem
   cases decide (40<((runesL (formS m (pOf w x.fParadigm).fSlots x.fStem)).length:Int)) with
   | true=>simp
   | false=>simp only [cond_false]; omega
 simp only [morphology_words_form,morphology_words_form.go,evs,ev_b,paradigm_pOf hw,Option.bind_some,paradigm_Underlying_eq hps.dims hps.slots (asc_pOf hp x.fParadigm) hc hx.feat (show x.fStem.length+szS (pOf w x.fParadigm).fSlots<=2097152 by omega),cnot,formW]
 show cond (decide (x.fParadigm=[])) (fx morphology_words_form.st (.c1 ⟨w⟩ x.fStem)) (cond (decide ((underW w x c).2=0)) (fx morphology_words_form.st (.c1 ⟨w⟩ (underW w x c).1)) (some ([],false)))=_
 rw [l1 _ (by omega),l1 _ hul]
 cases decide (x.fParadigm=[]) <;> cases decide ((underW w x c).2=0) <;> rfl
omit hp in
theorem cellsOf_len (x:aLexeme):(cellsOf w x).length<=4096 /\ ∀ c ∈ cellsOf w x,c.length<=4:=by
 unfold cellsOf
 cases decide (x.fParadigm=[]) with
 | true=>simp
 | false=>exact ⟨by rw [cond_false,cells_length]; exact count_le _,fun c hc=>(cells_mem hc).2.2⟩
theorem All_eq (hC:HC w):morphology_All_1 w.fAlphabet w.fRules w.fParadigms w.fLexemes=some (allS w):=by
 have ew:aWords.mk w.fAlphabet w.fRules w.fParadigms w.fLexemes=w:=rfl
 have hll:=hw.ll
 exact over (xs:=w.fLexemes) (f:=fun i (_:Unit)=>fx morphology_All_1.st (.c1 w.fAlphabet w.fRules w.fParadigms w.fLexemes i)) (g:=fun t _=>some (t.flatMap fun x=>pairs w x (cellsOf w x))) (fun _=>by
  rw [fx_eq]; simp only [morphology_All_1.st,evs,↓cneg (Int.lt_irrefl _),List.flatMap_nil]) (fun e x t _ he hx ih=>by
  have ih:=ih ()
  have hxo:=hw.lexs x (by rw [<- hx]; exact getD_mem he)
  have key:∀ cs:List (List aFeature),(∀ c ∈ cs,c.length<=4)->fx morphology_All_1.st (.c2 w.fAlphabet w.fRules w.fParadigms w.fLexemes e cs)=some (pairs w x cs++t.flatMap fun x=>pairs w x (cellsOf w x)):=by
   intro cs
   induction cs with
   | nil=>
     intro _
     rw [fx_eq]; simp (disch:=omega) only [morphology_All_1.st,evs,lcase,wsucc,ih]; rfl
   | cons c cs ihc=>
     intro hcs
     have ihc:=ihc fun y hy=>hcs y (List.mem_cons_of_mem _ hy)
     have hcl:=hcs c (by simp)
     have l3:∀ b,fx morphology_All_1.st (.c3 w.fAlphabet w.fRules w.fParadigms w.fLexemes e cs b)=cond b (some []) (some (pairs w x cs++t.flatMap fun x=>pairs w x (cellsOf w x))):=fun b=>by
      rw [fx_eq]; simp only [morphology_All_1.st,evs,ihc]
     rw [fx_eq]; simp only [morphology_All_1.st,evs,ev_b,lcase,ew,Int.toNat_natCast,hx]
     rw [form_eq hw hp hC hxo (by omega),Option.bind_some,l3,l3]
     simp only [pairs,List.flatMap_cons]
     cases (formW w x c).2 <;> rfl
  rw [fx_eq]; simp (disch:=omega) only [morphology_All_1.st,evs,ev_b,↓cpos,↓cpos2,Int.toNat_natCast,hx,cells_1_eq hw,Option.bind_some]
  rw [key _ (cellsOf_len hw x).2,List.flatMap_cons]) ()
theorem Analyses_eq (hC:HC w) {s:List UInt8} (hs:s.length<=1048576):morphology_Analyses w s=some (anS w s):=by
 have key:∀ (l:List (List UInt8×aAnalysis)) (e:List aAnalysis),e.length<=256->fx morphology_Analyses.st (.c1 s l e)=some (cond (decide (e.length+(sel s l).length<=256)) (e++sel s l,0) ([],2)):=by
  intro l
  induction l with
  | nil=>intro e he; rw [fx_eq]; simp only [morphology_Analyses.st,evs,lcase]; simp [sel,he]
  | cons y l ih=>
    intro e he
    rw [fx_eq]; simp only [morphology_Analyses.st,evs,lcase,cnot]
    by_cases h:y.1=s
    ·rw [cpos h]
     have e1:sel s (y::l)=y.2::sel s l:=by simp [sel,h]
     rw [e1]
     by_cases h6:e.length=256
     ·rw [cpos (by omega),cneg (by simp; omega)]
     ·rw [cneg (by omega),cpos (by simp only [len,len0]; omega),ih _ (by simp; omega)]
      simp only [List.length_append,List.length_cons,List.length_nil,List.append_assoc,List.singleton_append]
      rw [show e.length+(0+1)+(sel s l).length=e.length+((sel s l).length+1) by omega]
    ·rw [cneg h]
     have e1:sel s (y::l)=sel s l:=by simp [sel,h]
     rw [e1,ih _ he]
 simp only [morphology_Analyses,morphology_Analyses.go,evs,ev_b,isWord_eq hw.al hs,All_eq hw hp hC,Option.bind_some,cnot,anS]
 rw [key _ _ (by simp)]
 simp only [List.length_nil,Nat.zero_add,List.nil_append]
 cases wordB w.fAlphabet s <;> rfl
theorem Ambiguity_eq (hC:HC w) {s:List UInt8} (hs:s.length<=1048576):morphology_Ambiguity w s=some (((anS w s).1.length:Int),(anS w s).2):=by
 simp only [morphology_Ambiguity,morphology_Ambiguity.go,evs,ev_b,Analyses_eq hw hp hC hs,Option.bind_some]
omit hp in
theorem copied_eq {x:aLexeme} (hx:okLex x):lexicon_copied x=some x:=by
 have hf:=hx.feat.1
 simp only [lexicon_copied,lexicon_copied.go,evs,ev_b,slices_Clone_eq hf,Option.bind_some,slices_Clip_aFeature_aFeature,slices_Clip_aFeature_aFeature.go]
 rw [cpos3 (by omega) (by omega) trivial,Option.bind_some,Int.toNat_natCast,List.take_length]
omit hp in
theorem Find_eq (n:List UInt8):lexicon_Find w.fLexemes n=some ((lexP w n).getD lex0,(lexP w n).isSome):=by
 have hll:=hw.ll
 have h1:lexicon_Index w.fLexemes n=some (fstIdx (fun x:aLexeme=>decide (x.fID=n)) w.fLexemes 0):=
  overI (xs:=w.fLexemes) (f:=fun i (_:Unit)=>fx lexicon_Index.st (.c1 n w.fLexemes i)) (g:=fun i t _=>some (fstIdx (fun x:aLexeme=>decide (x.fID=n)) t i)) (fun _=>by
   rw [fx_eq]; simp only [lexicon_Index.st,evs,↓cneg (Int.lt_irrefl _),fstIdx]) (fun i x t _ hi hx _ _ ih=>by
   have ih:=ih ()
   rw [fx_eq]; simp (disch:=omega) only [lexicon_Index.st,evs,↓cpos,↓cpos2,Int.toNat_natCast,hx,wsucc,ih,fstIdx]
   cases decide (x.fID=n) <;> rfl) ()
 simp only [lexicon_Find,lexicon_Find.go,evs,ev_b,h1,Option.bind_some,lexP]
 rcases fst_find (fun x:aLexeme=>decide (x.fID=n)) w.fLexemes with ⟨g1,g2⟩ | ⟨j,g1,g2,g3⟩
 ·rw [g1,g2]; rfl
 ·rw [g3,g2,cpos (by omega),cpos2 (by omega) (by omega),Int.toNat_natCast,copied_eq hw (hw.lexs _ (getD_mem g1))]; rfl
theorem Forms_eq (hC:HC w) (n:List UInt8):morphology_Forms w n=some (formsS w n):=by
 simp only [morphology_Forms,morphology_Forms.go,evs,ev_b,Find_eq hw,Option.bind_some,cnot,formsS]
 cases hx:lexP w n with
 | none=>rfl
 | some x=>
   have hxo:=ok_lexP hw hx
   obtain ⟨hl,hc⟩:=cellsOf_len hw x
   simp only [Option.getD_some,Option.isSome_some,cond_true,cells_1_eq hw,Option.bind_some]
   have key:∀ (cs:List (List aFeature)) (out:List (List UInt8)),(∀ c ∈ cs,c.length<=4)->out.length+cs.length<=4096->fx morphology_Forms.st (.c1 (x,true) w cs out)=some (cond (cs.all fun c=>(formW w x c).2) (out++cs.map fun c=>(formW w x c).1,0) ([],2)):=by
    intro cs
    induction cs with
    | nil=>intro out _ _; rw [fx_eq]; simp [morphology_Forms.st,evs,lcase]
    | cons c cs ih=>
      intro out hcs ho
      simp only [List.length_cons] at ho
      rw [fx_eq]; simp only [morphology_Forms.st,evs,ev_b,lcase]
      rw [form_eq hw hp hC hxo (show c.length<=1048576 by have:=hcs c (by simp); omega),Option.bind_some,cnot]
      simp only [List.all_cons]
      cases (formW w x c).2 with
      | false=>rfl
      | true=>
        rw [cond_true,cpos (by simp only [len,len0]; omega),ih _ (fun y hy=>hcs y (List.mem_cons_of_mem _ hy)) (by simp; omega)]
        simp
   have:=key (cellsOf w x) [] hc (by simpa using hl)
   simpa using this
end
theorem ref03_Texts_eq {a b:List (List UInt8)} (hl:a.length<=1048576):r03_Texts a b=some (decide (a=b)):=by
 simp only [r03_Texts,r03_Texts.go,evs,cnot]
 by_cases h:a.length=b.length
 ·rw [cpos (by omega)]
  have key:=overI (xs:=a) (f:=fun i (_:Unit)=>fx r03_Texts.st (.c1 a b i)) (g:=fun i r _=>some (decide (r=b.drop i))) (fun _=>by
   rw [fx_eq]; simp only [r03_Texts.st,evs,↓cneg (Int.lt_irrefl _)]
   rw [List.drop_of_length_le (by omega)]; rfl) (fun i x r _ hi hx _ _ ih=>by
   have ih:=ih ()
   obtain ⟨y,t,g1,g2,g3⟩:=dropCons (xs:=b) (i:=i) (by omega)
   rw [fx_eq]; simp (disch:=omega) only [r03_Texts.st,evs,↓cpos,↓cpos2,Int.toNat_natCast,hx,g2,cnot,wsucc,ih,g1,g3]
   by_cases e:x=y <;> simp [e]) ()
  simpa using key
 ·rw [cneg (by omega)]
  have:a≠b:=fun e=>h (by rw [e])
  simp [this]
theorem ref11_Same_eq {a b:List aAnalysis} (hl:a.length<=1048576) (hc:∀ x ∈ a,x.fCell.length<=1048576):r11_Same a b=some (decide (a=b)):=by
 simp only [r11_Same,r11_Same.go,evs,cnot]
 by_cases h:a.length=b.length
 ·rw [cpos (by omega)]
  have key:=overI (xs:=a) (f:=fun i (_:Unit)=>fx r11_Same.st (.c1 a b i)) (g:=fun i r _=>some (decide (r=b.drop i))) (fun _=>by
   rw [fx_eq]; simp only [r11_Same.st,evs,↓cneg (Int.lt_irrefl _)]
   rw [List.drop_of_length_le (by omega)]; rfl) (fun i x r _ hi hx _ _ ih=>by
   have ih:=ih ()
   have hxc:=hc x (by rw [<- hx]; exact getD_mem hi)
   obtain ⟨y,t,g1,g2,g3⟩:=dropCons (xs:=b) (i:=i) (by omega)
   rw [fx_eq]; simp (disch:=omega) only [r11_Same.st,evs,ev_b,↓cpos,↓cpos2,Int.toNat_natCast,hx,g2,ref02_Same_eq hxc,Option.bind_some,cnot,wsucc,ih,g1,g3]
   obtain ⟨x1,x2⟩:=x
   obtain ⟨y1,y2⟩:=y
   by_cases e1:x1=y1 <;> by_cases e2:x2=y2 <;> simp [e1,e2]) ()
  simpa using key
 ·rw [cneg (by omega)]
  have:a≠b:=fun e=>h (by rw [e])
  simp [this]
end Go.Ai.Mor

namespace Go.Ai.Mor
open Go Go.Ai
abbrev Z (k:Nat) (t:Ty Nm) (x:den E.Γ t):Nat:=szT (szD E k) t x
theorem z_feature {k B:Nat} {f:aFeature} (h:Z (k+2) (.st .aFeature) f<=B):f.fName.length+f.fValue.length+3<=B:=by
 have e:Z (k+2) (.st .aFeature) f=(f.fName.length+1)+(f.fValue.length+1)+1:=rfl
 omega
theorem z_rec {k B:Nat} (hB:B<=1048576) {r:List aFeature} (h:Z (k+2) (.sl (.st .aFeature)) r<=B):okR r/\r.length+1<=B:=by
 obtain ⟨h1,h2⟩:=sl_le h
 have h1:r.length+1<=B:=h1
 exact ⟨⟨by omega,fun f hf=>by have:=z_feature (h2 f hf |> Nat.le_of_succ_le); exact ⟨by omega,by omega⟩⟩,h1⟩
theorem z_affix {k B:Nat} (hB:B<=1048576) {x:aAffix} (h:Z (k+3) (.st .aAffix) x<=B):okAffix x:=by
 have e:Z (k+3) (.st .aAffix) x=Z (k+2) (.sl (.st .aFeature)) x.fWhen+((x.fPrefix.length+1)+(x.fSuffix.length+1))+1:=rfl
 obtain ⟨h1,h2⟩:=z_rec (k:=k) (B:=B) hB (r:=x.fWhen) (by omega)
 exact ⟨h1,by omega,by omega,by omega⟩
theorem z_slots {k B:Nat} (hB:B<=1048576) {ss:List (List aAffix)} (h:Z (k+3) (.sl (.sl (.st .aAffix))) ss<=B):okSlots ss/\szS ss+1<=B:=by
 obtain ⟨h1,h2⟩:=sl_le h
 have h1:ss.length+1<=B:=h1
 refine ⟨⟨by omega,fun s hs => ?_⟩,?_⟩
 ·obtain ⟨h3,h4⟩:=sl_le (h2 s hs |> Nat.le_of_succ_le)
  have h3:s.length+1<=B:=h3
  exact ⟨by omega,fun x hx=>z_affix hB (h4 x hx |> Nat.le_of_succ_le)⟩
 ·have e:Z (k+3) (.sl (.sl (.st .aAffix))) ss=(ss.map (Z (k+3) (.sl (.st .aAffix)))).sum+1:=rfl
  have:szS ss<=(ss.map (Z (k+3) (.sl (.st .aAffix)))).sum:=by
   unfold szS
   refine sum_mono fun s _ => ?_
   have e2:Z (k+3) (.sl (.st .aAffix)) s=(s.map (Z (k+3) (.st .aAffix))).sum+1:=rfl
   have:szA s<=(s.map (Z (k+3) (.st .aAffix))).sum:=by
    unfold szA
    refine sum_mono fun x _ => ?_
    have e3:Z (k+3) (.st .aAffix) x=Z (k+2) (.sl (.st .aFeature)) x.fWhen+((x.fPrefix.length+1)+(x.fSuffix.length+1))+1:=rfl
    omega
   omega
  omega
theorem z_dims {k B:Nat} (hB:B<=1048576) {ds:List aDimension} (h:Z (k+2) (.sl (.st .aDimension)) ds<=B):okDims ds:=by
 obtain ⟨h1,h2⟩:=sl_le h
 have h1:ds.length+1<=B:=h1
 refine ⟨by omega,fun d hd => ?_⟩
 have h3:Z (k+2) (.st .aDimension) d+1<=B:=h2 d hd
 have e:Z (k+2) (.st .aDimension) d=(d.fName.length+1)+Z (k+1) (.sl .str) d.fValues+1:=rfl
 have h4:Z (k+1) (.sl .str) d.fValues<=B:=by omega
 obtain ⟨h5,h6⟩:=sl_le h4
 have h5:d.fValues.length+1<=B:=h5
 refine ⟨by omega,by omega,fun v hv => ?_⟩
 have h7:(v.length+1)+1<=B:=h6 v hv
 omega
theorem z_par {k B:Nat} (hB:B<=1048576) {p:aParadigm} (h:Z (k+4) (.st .aParadigm) p<=B):OkP p/\szS p.fSlots+3<=B:=by
 have e:Z (k+4) (.st .aParadigm) p=(p.fName.length+1)+(Z (k+3) (.sl (.st .aDimension)) p.fDimensions+Z (k+3) (.sl (.sl (.st .aAffix))) p.fSlots)+1:=rfl
 have hd:=szT_pos (E:=E) (k+2) (.sl (.st .aDimension)) p.fDimensions
 have hd' : 1<=Z (k+3) (.sl (.st .aDimension)) p.fDimensions:=hd
 obtain ⟨h1,h2⟩:=z_slots (k:=k) (B:=B - 2) (by omega) (ss:=p.fSlots) (by omega)
 have hdd:Z (k+1+2) (.sl (.st .aDimension)) p.fDimensions<=B:=by show Z (k+3) (.sl (.st .aDimension)) p.fDimensions<=B; omega
 exact ⟨⟨by omega,z_dims (k:=k+1) hB hdd,h1,by omega⟩,by omega⟩
theorem z_letters {k B:Nat} (hB:B<=1048576) {a:List aLetter} (h:Z (k+1) (.sl (.st .aLetter)) a<=B):a.length<=1048576:=by
 obtain ⟨h1,_⟩:=sl_le h
 have h1:a.length+1<=B:=h1
 omega
theorem z_items {k B:Nat} (hB:B<=1048576) {p:List aItem} (h:Z (k+1) (.sl (.st .aItem)) p<=B):okItems p:=by
 obtain ⟨h1,h2⟩:=sl_le h
 have h1:p.length+1<=B:=h1
 refine ⟨by omega,fun x hx => ?_⟩
 have h3:Z (k+1) (.st .aItem) x+1<=B:=h2 x hx
 have e:Z (k+1) (.st .aItem) x=1+((x.fLetters.length+1)+(1+1))+1:=rfl
 omega
theorem z_rule {k B:Nat} (hB:B<=1048576) {r:aRule} (h:Z (k+2) (.st .aRule) r<=B):okRule r:=by
 have e:Z (k+2) (.st .aRule) r=1+((r.fTo.length+1)+(Z (k+1) (.sl (.st .aItem)) r.fLeft+(Z (k+1) (.sl (.st .aItem)) r.fRight+(1+1))))+1:=rfl
 exact ⟨by omega,z_items (k:=k) hB (by omega),z_items (k:=k) hB (by omega)⟩
theorem z_lex {k B:Nat} (hB:B<=1048576) {x:aLexeme} (h:Z (k+3) (.st .aLexeme) x<=B):okLex x:=by
 have e:Z (k+3) (.st .aLexeme) x=(x.fID.length+1)+((x.fCategory.length+1)+((x.fStem.length+1)+((x.fParadigm.length+1)+Z (k+2) (.sl (.st .aFeature)) x.fFeatures)))+1:=rfl
 exact ⟨by omega,by omega,by omega,by omega,(z_rec (k:=k) (B:=B) hB (by omega)).1⟩
theorem z_words {k B:Nat} (hB:B<=1048576) {w:aWords} (h:Z (k+5) (.st .aWords) w<=B):OkW w:=by
 have e:Z (k+5) (.st .aWords) w=Z (k+4) (.sl (.st .aLetter)) w.fAlphabet+(Z (k+4) (.sl (.st .aRule)) w.fRules+(Z (k+4) (.sl (.st .aParadigm)) w.fParadigms+Z (k+4) (.sl (.st .aLexeme)) w.fLexemes))+1:=rfl
 have hr:Z (k+2+2) (.sl (.st .aRule)) w.fRules<=B:=by show Z (k+4) (.sl (.st .aRule)) w.fRules<=B; omega
 have hx:Z (k+1+3) (.sl (.st .aLexeme)) w.fLexemes<=B:=by show Z (k+4) (.sl (.st .aLexeme)) w.fLexemes<=B; omega
 have hp:Z (k+4) (.sl (.st .aParadigm)) w.fParadigms<=B:=by omega
 have ha:Z (k+3+1) (.sl (.st .aLetter)) w.fAlphabet<=B:=by show Z (k+4) (.sl (.st .aLetter)) w.fAlphabet<=B; omega
 obtain ⟨r1,r2⟩:=sl_le hr
 have r1:w.fRules.length+1<=B:=r1
 obtain ⟨x1,x2⟩:=sl_le hx
 have x1:w.fLexemes.length+1<=B:=x1
 obtain ⟨p1,p2⟩:=sl_le hp
 have p1:w.fParadigms.length+1<=B:=p1
 exact ⟨z_letters hB ha,by omega,fun r hr=>z_rule (k:=k+2) hB (Nat.le_of_succ_le (r2 r hr)),by omega,fun p hp=>(z_par hB (Nat.le_of_succ_le (p2 p hp))).1,by omega,fun x hx=>z_lex (k:=k+1) hB (Nat.le_of_succ_le (x2 x hx))⟩
abbrev Z8 (t:Ty Nm) (x:den E.Γ t):Nat:=szT (szD E 8) t x
theorem z8_words {B:Nat} (hB:B<=1048576) {w:aWords} (h:Z8 (.st .aWords) w<=B):OkW w:=z_words (k:=3) hB h
end Go.Ai.Mor

set_option maxRecDepth 100000
noncomputable section
namespace Go.Ai.Mor
open Go Go.Ai Go.Proofs
namespace l11_boats
inductive Pt
def D:FD pd := {f:=30,fn:=Tryz.f30,q:=21,ps:=[],rs:=[(.st .aWords)],ex:=[none]}
def go:(Unit)->Tr Pt (aWords)
 | _=>
  .r (aWords.mk [aLetter.mk 97 1,aLetter.mk 101 1,aLetter.mk 116 2,aLetter.mk 107 2] [] ([aParadigm.mk [110,111,117,110] ([aDimension.mk [110,117,109,98,101,114] ([[115,103],[112,108]])]) ([[aAffix.mk ([aFeature.mk [110,117,109,98,101,114] [112,108]]) [] [116]]])]) ([aLexeme.mk [98,111,97,116] [110] [107,97,101] [110,111,117,110] [],aLexeme.mk [98,111,97,116,115] [110] [107,97,101,116] [] [],aLexeme.mk [116,101,97] [110] [116,101] [110,111,117,110] []]))
def st:Pt->Tr Pt (aWords):=nofun
def pt:Pt->List Dir×St E:=nofun
theorem g:D.G st pt:=fun Z a=>by cases a <;> kernel_rfl
theorem g0:D.G0 go pt:=fun Z _=>by kernel_rfl
abbrev con:Con Tryz.prog E:=FD.con Tryz.func30 (by kernel_rfl) g g0
end l11_boats
def l11_boats:Option (aWords):=ev (l11_boats.go ()) (fx l11_boats.st)
end Go.Ai.Mor
end

set_option maxRecDepth 100000
noncomputable section
namespace Go.Ai.Mor
open Go Go.Ai Go.Proofs
namespace l11_awake
inductive Pt
def D:FD pd := {f:=13,fn:=Tryz.f13,q:=57,ps:=[],rs:=[.bool],ex:=[none],cs:=[morphology_Check.con,morphology_Analyses.con,r11_Same.con,morphology_Ambiguity.con,morphology_Forms.con,l11_boats.con,r03_Texts.con]}
def go:(Unit)->Tr Pt (Bool)
 | _=>
  .b l11_boats fun d=>
  .b (morphology_Forms d [98,111,97,116]) fun e=>
  .b (morphology_Analyses d [107,97,101,116]) fun h=>
  .b (morphology_Ambiguity d [116,101]) fun i=>
  .b (morphology_Check d) fun j=>
  .c (decide (j=0))
  (.c (decide (e.2=0))
   (.c (decide (h.2=0))
    (.c (decide (i.2=0))
     (.b (r03_Texts e.1 ([[107,97,101],[107,97,101,116]])) fun k=>
      .c k
      (.b (r11_Same h.1 ([aAnalysis.mk [98,111,97,116] ([aFeature.mk [110,117,109,98,101,114] [112,108]]),aAnalysis.mk [98,111,97,116,115] []])) fun l=>
       .c l
       (.r (decide (i.1=1)))
       (.r false))
      (.r false))
     (.r false))
    (.r false))
   (.r false))
  (.r false)
def st:Pt->Tr Pt (Bool):=nofun
def pt:Pt->List Dir×St E:=nofun
theorem g:D.G st pt:=fun Z a=>by cases a <;> kernel_rfl
theorem g0:D.G0 go pt:=fun Z _=>by kernel_rfl
abbrev con:Con Tryz.prog E:=FD.con Tryz.func13 (by kernel_rfl) g g0
end l11_awake
def l11_awake:Option (Bool):=ev (l11_awake.go ()) (fx l11_awake.st)
end Go.Ai.Mor
end

set_option maxRecDepth 100000
noncomputable section
namespace Go.Ai.Mor
open Go Go.Ai Go.Proofs
namespace l11_valid
inductive Pt
def D:FD pd := {f:=16,fn:=Tryz.f16,q:=10,ps:=[(.st .aWords)],rs:=[.bool],ex:=[none],cs:=[l11_small.con,r11_Check.con]}
def go:(aWords)->Tr Pt (Bool)
 | d=>
  .b (l11_small d) fun e=>
  .c e
  (.b (r11_Check d) fun h=>
   .r (decide (h=0)))
  (.r false)
def st:Pt->Tr Pt (Bool):=nofun
def pt:Pt->List Dir×St E:=nofun
theorem g:D.G st pt:=fun Z a=>by cases a <;> kernel_rfl
theorem g0:D.G0 go pt:=fun Z _=>by kernel_rfl
abbrev con:Con Tryz.prog E:=FD.con Tryz.func16 (by kernel_rfl) g g0
end l11_valid
def l11_valid (d:aWords):Option (Bool):=ev (l11_valid.go d) (fx l11_valid.st)
end Go.Ai.Mor
end

set_option maxRecDepth 100000
noncomputable section
namespace Go.Ai.Mor
open Go Go.Ai Go.Proofs
namespace l11_MorphologyCheck
inductive Pt
def D:FD pd := {f:=3,fn:=Tryz.f3,q:=15,ps:=[(.st .aWords)],rs:=[.bool],ex:=[none],cs:=[l11_small.con,l11_awake.con,morphology_Check.con,r11_Check.con]}
def go:(aWords)->Tr Pt (Bool)
 | d=>
  .b (l11_small d) fun i=>
  .c (!i)
  (.b l11_awake fun j=>
   .r j)
  (.b l11_awake fun k=>
   .c k
   (.b (morphology_Check d) fun e=>
    .b (r11_Check d) fun h=>
    .r (decide (e=h)))
   (.r false))
def st:Pt->Tr Pt (Bool):=nofun
def pt:Pt->List Dir×St E:=nofun
theorem g:D.G st pt:=fun Z a=>by cases a <;> kernel_rfl
theorem g0:D.G0 go pt:=fun Z _=>by kernel_rfl
abbrev con:Con Tryz.prog E:=FD.con Tryz.func3 (by kernel_rfl) g g0
end l11_MorphologyCheck
def l11_MorphologyCheck (d:aWords):Option (Bool):=ev (l11_MorphologyCheck.go d) (fx l11_MorphologyCheck.st)
end Go.Ai.Mor
end

namespace Go.Ai.Mor
open Go Go.Ai
theorem letters_isWord_eq {a:List aLetter} (ha:a.length<=1048576) {s:List UInt8} (hs:s.length<=4194304):rewrite_letters_isWord a s=some (wordB a s):=by
 simp only [rewrite_letters_isWord,rewrite_letters_isWord.go,evs,ev_b,valStr (show s.length<=1099511627776 by omega),Option.bind_some,cnot,wordB]
 cases Lib.validD s with
 | false=>rfl
 | true=>
   simp only [cond_true,Bool.true_and]
   have key:=overRJ (s:=s) (f:=fun q (n:Nat)=>fx rewrite_letters_isWord.st (.c1 a s (n:Int) q)) (g:=fun rs n=>some ((rs.all fun c=>inA a (c:Int))&&decide (n+rs.length<=40\/rs=[]))) (I:=fun q n=>n<=q) (fun q n hq _=>by
    rw [fx_eq]; simp only [rewrite_letters_isWord.st,evs]; rw [cneg hq]; simp) (fun q c rs n hq hI hc h1 ih=>by
    rw [fx_eq]; simp only [rewrite_letters_isWord.st,evs,ev_b]
    rw [cpos hq,hc,wsucc (by omega),letters_has_eq ha,Option.bind_some,cnot,ih (n+1) (by omega)]
    by_cases h4:40<n+1
    ·rw [cpos (by omega)]
     have:decide (n+(c::rs).length<=40\/c::rs=[])=false:=by simp; omega
     rw [this]; simp
    ·rw [cneg (by omega)]
     have:decide (n+(c::rs).length<=40\/c::rs=[])=decide (n+1+rs.length<=40\/rs=[]):=by
      refine decide_eq_decide.2 ⟨fun h => ?_,fun h => .inl ?_⟩
      ·rcases h with h | h
       ·simp only [List.length_cons] at h; left; omega
       ·cases h
      ·rcases h with h | rfl
       ·simp only [List.length_cons]; omega
       ·simp; omega
     rw [this,List.all_cons]
     cases inA a (c:Int) <;> rfl) (x:=0) (Nat.le_refl _)
   refine key.trans ?_
   congr 2
   exact decide_eq_decide.2 ⟨fun h=>by
    rcases h with h | h
    ·omega
    ·rw [h]; simp,fun h => .inl (by omega)⟩
theorem applyW_len (a:List aLetter) (r:aRule) (s:List UInt8):(applyW a r s).1.length<=160:=by
 unfold applyW
 cases ruleB a r&&wordB a s with
 | false=>simp
 | true=>
   by_cases h:(applyS a r (runesL s)).length<=40
   ·have:=encs_len (applyS a r (runesL s))
    simp only [h,decide_true,cond_true]; omega
   ·simp [h]
def trS (a:List aLetter):List aRule->List (List UInt8)->List (List UInt8)×Int
 | [],i=>(i,0)
 | r::t,i=>cond (decide ((applyW a r (i.getLastD [])).2=0)) (trS a t (i++[(applyW a r (i.getLastD [])).1])) ([],(applyW a r (i.getLastD [])).2)
theorem trS_run (a:List aLetter):∀ (t:List aRule) (pre:List (List UInt8)) (u:List UInt8),
  ((runS a t u).2=0 /\ ∃ pre',trS a t (pre++[u])=(pre' ++ [(runS a t u).1],0)/\pre'.length=pre.length+t.length)\/((runS a t u).2≠0/\(runS a t u).1=[]/\trS a t (pre++[u])=([],(runS a t u).2))
 | [],pre,u => .inl ⟨rfl,pre,rfl,rfl⟩
 | r::t,pre,u=>by
   have e:(pre++[u]).getLastD []=u:=by simp
   simp only [runS,trS,e]
   by_cases h:(applyW a r u).2=0
   ·rw [cpos h,cpos h]
    rcases trS_run a t (pre++[u]) (applyW a r u).1 with ⟨h1,pre',h2,h3⟩ | h1
    ·exact .inl ⟨h1,pre',h2,by rw [h3]; simp; omega⟩
    ·exact .inr h1
   ·rw [cneg h,cneg h]
    exact .inr ⟨h,rfl,rfl⟩
theorem Trace_eq {a:List aLetter} (ha:a.length<=1048576) {rs:List aRule} (hr:∀ r ∈ rs,okRule r) (hA:∀ r ∈ rs,∀ u:List UInt8,u.length<=4194304->rewrite_Apply a r u=some (applyW a r u)) {u:List UInt8} (hu:u.length<=4194304) :
  rewrite_Trace a rs u=some (cond (cascB a rs u) (trS a rs [u]) ([],1)):=by
 simp only [rewrite_Trace,rewrite_Trace.go,evs,ev_b,letters_adm_eq ha,letters_isWord_eq ha hu,Option.bind_some,cnot,cascB]
 by_cases h64:rs.length<=64
 ·rw [cneg (by omega)]
  simp only [h64,decide_true,Bool.true_and]
  have h3:fx rewrite_Trace.st (.c3 a rs [u] 0)=some (trS a rs [u]):=
   overJ (xs:=rs) (f:=fun o (i:List (List UInt8))=>fx rewrite_Trace.st (.c3 a rs i o)) (g:=fun _ t i=>some (trS a t i)) (I:=fun o i => ∃ pre v,i=pre++[v]/\v.length<=4194304/\i.length=o+1) (fun i _=>by
    rw [fx_eq]; simp only [rewrite_Trace.st,evs,↓cneg (Int.lt_irrefl _),trS]) (fun o r t i ho hI hx _ _ ih=>by
    obtain ⟨pre,v,rfl,hv,hl⟩:=hI
    have hrm:r ∈ rs:=by rw [<- hx]; exact getD_mem ho
    have hw:IntKind.i64.wrap (((pre++[v]).length:Int) - 1)=(pre.length:Int):=by
     have:(pre++[v]).length=pre.length+1:=by simp
     rw [wrap64] <;> omega
    have hlp:pre.length<(pre++[v]).length:=by simp
    have hg:(pre++[v]).getD pre.length default=v:=by simp
    have e:(pre++[v]).getLastD []=v:=by simp
    have hal:=applyW_len a r v
    rw [fx_eq]; simp (disch:=omega) only [rewrite_Trace.st,evs,ev_b,↓cpos,↓cpos2,Int.toNat_natCast,hx,hw,hg,hA r hrm v hv,Option.bind_some,cnot,trS,e,wsucc]
    by_cases h0:(applyW a r v).2=0
    ·rw [cpos h0,cpos h0,cpos (by simp only [len,len0] at *; omega),ih _ ⟨pre++[v],_,rfl,by omega,by simp at hl ⊢; omega⟩]
    ·rw [cneg h0,cneg h0]) (s:=[u]) ⟨[],u,rfl,hu,rfl⟩
  have h1:fx rewrite_Trace.st (.c1 a rs u 0)=some (cond (rs.all (ruleB a)) (trS a rs [u]) ([],1)):=
   over (xs:=rs) (f:=fun o (_:Unit)=>fx rewrite_Trace.st (.c1 a rs u o)) (g:=fun t _=>some (cond (t.all (ruleB a)) (trS a rs [u]) ([],1))) (fun _=>by
    rw [fx_eq]; simp only [rewrite_Trace.st,evs,↓cneg (Int.lt_irrefl _),fx_eq rewrite_Trace.st (.c2 ..),h3,List.all_nil,cond_true]) (fun o r t _ ho hx ih=>by
    have ih:=ih ()
    have hro:=hr r (by rw [<- hx]; exact getD_mem ho)
    rw [fx_eq]; simp (disch:=omega) only [rewrite_Trace.st,evs,ev_b,↓cpos,↓cpos2,Int.toNat_natCast,hx,rewrite_Valid_eq ha hro,Option.bind_some,cnot,wsucc,ih,List.all_cons]
    cases ruleB a r <;> rfl) ()
  rw [h1]
  cases admB a <;> cases wordB a u <;> rfl
 ·rw [cpos (by omega)]; simp [h64]
theorem Cascade_eq {a:List aLetter} (ha:a.length<=1048576) {rs:List aRule} (hr:∀ r ∈ rs,okRule r) (hA:∀ r ∈ rs,∀ u:List UInt8,u.length<=4194304->rewrite_Apply a r u=some (applyW a r u)) {u:List UInt8} (hu:u.length<=4194304) :
  rewrite_Cascade a rs u=some (cascS a rs u):=by
 simp only [rewrite_Cascade,rewrite_Cascade.go,evs,ev_b,Trace_eq ha hr hA hu,Option.bind_some,cnot,cascS]
 cases hb:cascB a rs u with
 | false=>rfl
 | true=>
   simp only [cond_true]
   rcases trS_run a rs [] u with ⟨h1,pre',h2,h3⟩ | ⟨h1,h2,h3⟩
   ·rw [List.nil_append] at h2
    have hl:(pre' ++ [(runS a rs u).1]).length=pre'.length+1:=by simp
    have hrl:rs.length<=64:=by simp only [cascB,Bool.and_eq_true,decide_eq_true_eq] at hb; exact hb.1
    have hw:IntKind.i64.wrap (((pre' ++ [(runS a rs u).1]).length:Int) - 1)=(pre'.length:Int):=by
     simp only [List.length_nil] at h3
     rw [wrap64] <;> omega
    rw [h2]
    dsimp only
    simp only [hw]
    rw [cpos trivial,cpos2 (by omega) (by omega),Int.toNat_natCast]
    congr 1
    refine Prod.ext ?_ h1.symm
    simp
   ·rw [List.nil_append] at h3
    rw [h3]
    dsimp only
    rw [cneg h1]
    congr 1
    exact Prod.ext h2.symm rfl
def boats:aWords:=⟨[⟨97,1⟩,⟨101,1⟩,⟨116,2⟩,⟨107,2⟩],[],[⟨[110,111,117,110],[⟨[110,117,109,98,101,114],[[115,103],[112,108]]⟩],[[⟨[⟨[110,117,109,98,101,114],[112,108]⟩],[],[116]⟩]]⟩],[⟨[98,111,97,116],[110],[107,97,101],[110,111,117,110],[]⟩,⟨[98,111,97,116,115],[110],[107,97,101,116],[],[]⟩,⟨[116,101,97],[110],[116,101],[110,111,117,110],[]⟩]⟩
theorem boats_eq:l11_boats=some boats:=rfl
theorem okR_nil:okR []:=⟨by simp,fun f h=>by cases h⟩
theorem ok_boats:OkW boats where
 al:=by decide
 rl:=by decide
 rules:=fun r h=>by cases h
 pl:=by decide
 pars:=fun p h=>by
  simp only [boats,List.mem_cons,List.not_mem_nil,or_false] at h
  subst h
  refine ⟨by decide,⟨by decide,fun d hd => ?_⟩,⟨by decide,fun s hs => ?_⟩,by decide⟩
  ·simp only [List.mem_cons,List.not_mem_nil,or_false] at hd
   subst hd
   exact ⟨by decide,by decide,by decide⟩
  ·simp only [List.mem_cons,List.not_mem_nil,or_false] at hs
   subst hs
   refine ⟨by decide,fun x hx => ?_⟩
   simp only [List.mem_cons,List.not_mem_nil,or_false] at hx
   subst hx
   exact ⟨⟨by decide,fun f hf=>by simp only [List.mem_cons,List.not_mem_nil,or_false] at hf; subst hf; exact ⟨by decide,by decide⟩⟩,by decide,by decide,by decide⟩
 ll:=by decide
 lexs:=fun x h=>by
  simp only [boats,List.mem_cons,List.not_mem_nil,or_false] at h
  rcases h with rfl | rfl | rfl <;> exact ⟨by decide,by decide,by decide,by decide,okR_nil⟩
theorem HC_boats:HC boats:=fun _ hu=>Cascade_eq (by decide) (fun r h=>by cases h) (fun r h=>by cases h) hu
theorem boats_check:checkS boats=0:=by decide +kernel
theorem boats_parts:partsB boats=true:=by decide +kernel
theorem boats_forms:formsS boats [98,111,97,116]=([[107,97,101],[107,97,101,116]],0):=by decide +kernel
theorem boats_an:anS boats [107,97,101,116]=([⟨[98,111,97,116],[⟨[110,117,109,98,101,114],[112,108]⟩]⟩,⟨[98,111,97,116,115],[]⟩],0):=by decide +kernel
theorem boats_am:anS boats [116,101]=([⟨[116,101,97],[⟨[110,117,109,98,101,114],[115,103]⟩]⟩],0):=by decide +kernel
theorem awake_eq:l11_awake=some true:=by
 simp only [l11_awake,l11_awake.go,evs,ev_b,boats_eq,Option.bind_some]
 rw [Forms_eq ok_boats boats_parts HC_boats,boats_forms,Analyses_eq ok_boats boats_parts HC_boats (by decide),boats_an,Ambiguity_eq ok_boats boats_parts HC_boats (by decide),boats_am,morphology_Check_eq ok_boats,boats_check]
 simp only [Option.bind_some]
 rw [ref03_Texts_eq (by decide),ref11_Same_eq (by decide) (by decide)]
 rfl
def smP (p:aParadigm):Bool:=decide (p.fDimensions.length<=3)&&(decide (p.fSlots.length<=4)&&((p.fDimensions.all fun d=>decide (d.fValues.length<=4))&&((p.fSlots.all fun s=>decide (s.length<=6))&&decide (prod p.fDimensions<=16))))
def smallB (w:aWords):Bool:=decide (w.fAlphabet.length<=12)&&(decide (w.fRules.length<=4)&&(decide (w.fParadigms.length<=4)&&(decide (w.fLexemes.length<=8)&&w.fParadigms.all smP)))
theorem small_eq {w:aWords} (hw:OkW w):l11_small w=some (smallB w):=by
 simp only [l11_small,l11_small.go,evs,smallB]
 by_cases h1:w.fAlphabet.length<=12
 ·by_cases h2:w.fRules.length<=4
  ·by_cases h3:w.fParadigms.length<=4
   ·by_cases h4:w.fLexemes.length<=8
    ·rw [cneg (by omega),cneg (by omega),cneg (by omega),cneg (by omega)]
     simp only [h1,h2,h3,h4,decide_true,Bool.true_and]
     exact over (xs:=w.fParadigms) (f:=fun i (_:Unit)=>fx l11_small.st (.c1 w i)) (g:=fun t _=>some (t.all smP)) (fun _=>by
      rw [fx_eq]; simp only [l11_small.st,evs,↓cneg (Int.lt_irrefl _),List.all_nil]) (fun d p t _ hd hp ih=>by
      have ih:=ih ()
      have hpo:=hw.pars p (by rw [<- hp]; exact getD_mem hd)
      rw [fx_eq]; simp (disch:=omega) only [l11_small.st,evs,↓cpos,↓cpos2,Int.toNat_natCast,hp,List.all_cons]
      by_cases g1:p.fDimensions.length<=3
      ·by_cases g2:p.fSlots.length<=4
       ·rw [cneg (by omega),cneg (by omega)]
        have h5:∀ e:Nat,fx l11_small.st (.c5 (e:Int) d w)=cond (decide (e<=16)) (some (t.all smP)) (some false):=fun e=>by
         rw [fx_eq]; simp (disch:=omega) only [l11_small.st,evs,wsucc,ih]
         by_cases h:e<=16
         ·rw [cneg (by omega),cpos h]
         ·rw [cpos (by omega),cneg h]
        have h4:∀ e:Nat,fx l11_small.st (.c4 (e:Int) d w 0)=cond (p.fSlots.all fun s=>decide (s.length<=6)) (cond (decide (e<=16)) (some (t.all smP)) (some false)) (some false):=fun e=>
         over (xs:=p.fSlots) (f:=fun i (_:Unit)=>fx l11_small.st (.c4 (e:Int) d w i)) (g:=fun u _=>cond (u.all fun s=>decide (s.length<=6)) (cond (decide (e<=16)) (some (t.all smP)) (some false)) (some false)) (fun _=>by
          rw [fx_eq]; simp only [l11_small.st,evs,Int.toNat_natCast,hp,↓cneg (Int.lt_irrefl _),h5,List.all_nil,cond_true]) (fun i s u _ hi hs ih=>by
          have ih:=ih ()
          rw [fx_eq]; simp (disch:=omega) only [l11_small.st,evs,Int.toNat_natCast,hp,↓cpos,↓cpos2,hs,wsucc,ih,List.all_cons]
          by_cases h6:s.length<=6
          ·rw [cneg (by omega)]; simp [h6]
          ·rw [cpos (by omega)]; simp [h6]) ()
        have h2:=overJ (xs:=p.fDimensions) (f:=fun i (m:Nat)=>fx l11_small.st (.c2 d w (m:Int) i)) (g:=fun _ u m=>cond (u.all fun d=>decide (d.fValues.length<=4)) (fx l11_small.st (.c3 d w ((m*prod u:Nat):Int))) (some false)) (I:=fun i m=>m<=4 ^ i) (fun m _=>by
         rw [fx_eq]; simp only [l11_small.st,evs,Int.toNat_natCast,hp,↓cneg (Int.lt_irrefl _),List.all_nil,cond_true,prod,Nat.mul_one]) (fun i x u m hi hm hx _ _ ih=>by
         have h8:4 ^ i<=4 ^ 2:=Nat.pow_le_pow_right (by omega) (by omega)
         have h8' : (4:Nat) ^ 2=16:=by decide
         rw [fx_eq]; simp (disch:=omega) only [l11_small.st,evs,Int.toNat_natCast,hp,↓cpos,↓cpos2,hx,wsucc,List.all_cons]
         by_cases h4:x.fValues.length<=4
         ·have hb:m*x.fValues.length<=16*4:=Nat.mul_le_mul (by omega) h4
          have hmul:(m:Int)*(x.fValues.length:Int)=((m*x.fValues.length:Nat):Int):=by simp
          have hw' : IntKind.i64.wrap ((m:Int)*(x.fValues.length:Int))=((m*x.fValues.length:Nat):Int):=by rw [hmul,wrap64] <;> omega
          rw [cneg (by omega),hw',ih _ (by rw [Nat.pow_succ]; exact Nat.mul_le_mul hm h4)]
          simp only [h4,decide_true,Bool.true_and,prod,Nat.mul_assoc]
         ·rw [cpos (by omega)]; simp [h4]) (s:=1) (by simp)
        rw [show ((1:Nat):Int)=1 from rfl] at h2
        rw [h2,fx_eq]
        simp only [l11_small.st,evs,Nat.one_mul,h4,smP,g1,g2,decide_true,Bool.true_and]
        cases p.fDimensions.all (fun d=>decide (d.fValues.length<=4)) <;> cases p.fSlots.all (fun s=>decide (s.length<=6)) <;> cases decide (prod p.fDimensions<=16) <;> simp
       ·rw [cneg (by omega),cpos (by omega)]; simp [smP,g2]
      ·rw [cpos (by omega)]; simp [smP,g1]) ()
    ·rw [cneg (by omega),cneg (by omega),cneg (by omega),cpos (by omega)]; simp [h4]
   ·rw [cneg (by omega),cneg (by omega),cpos (by omega)]; simp [h3]
  ·rw [cneg (by omega),cpos (by omega)]; simp [h2]
 ·rw [cpos (by omega)]; simp [h1]
theorem law_Check {w:aWords} (hw:OkW w):l11_MorphologyCheck w=some true:=by
 simp only [l11_MorphologyCheck,l11_MorphologyCheck.go,evs,ev_b,small_eq hw,awake_eq,morphology_Check_eq hw,ref11_Check_eq hw,Option.bind_some,cnot]
 cases smallB w <;> simp
end Go.Ai.Mor

namespace Go.Ai.Mor
open Go Go.Ai
theorem MorphologyCheck_law (x:Tup E.Γ l11_MorphologyCheck.D.ps) (_:okTup (okD E 8) l11_MorphologyCheck.D.ps x) (h:szTup (szD E 8) l11_MorphologyCheck.D.ps x<=1048576):l11_MorphologyCheck.con.S.fn x=some true:=
 law_Check (z8_words (w:=x) (Nat.le_refl _) h)
end Go.Ai.Mor

