/- A part that the proofs of the laws of this seat share: an interpreter of loaded code over typed values, what it says of the functions that the laws reach, and plain facts on these. -/
import Derived.CallsIn
import Derived.Below
import Derived.Laws.AppendOwn
import Derived.RangeFuncRecord
import Derived.Lib.Strings
import Derived.Laws.StructEq
import Derived.ChangeKeysEq
import Derived.Laws.Slices
import Derived.Laws.Runes
import Derived.Laws.Cover4
import Derived.Laws.IdiomStrings
import Derived.Laws.OwnMore
import Derived.Laws.MakeOwn
import Derived.RangeFuncCalls
import Derived.Carry
import Derived.OpenShut
import Derived.ChangeSame
import Derived.MapKept
set_option linter.unusedSectionVars false
set_option linter.unusedVariables false
set_option linter.unusedSimpArgs false
namespace Go.Ai
inductive Ty (N:Type) where
 | int (k:IntKind) | bool | str | sl (t:Ty N) | st (n:N) | ref (n:N)
 deriving DecidableEq
@[reducible] def den {N:Type} (Γ:N->Type):Ty N->Type
 | .int _=>Int
 | .bool=>Bool
 | .str=>List UInt8
 | .sl t=>List (den Γ t)
 | .st n=>Γ n
 | .ref n=>Γ n
@[reducible] def Tup {N:Type} (Γ:N->Type):List (Ty N)->Type
 | []=>Unit
 | [t]=>den Γ t
 | t::u::ts=>den Γ t×Tup Γ (u::ts)
def Ty.one {N:Type} : Ty N->Bool
 | .st _=>false
 | _=>true
structure Env (N:Type) where
 Γ:N->Type
 fl:N->List (Ty N)
 pk:∀ n,Tup Γ (fl n)->Γ n
 un:∀ n,Γ n->Tup Γ (fl n)
 z:∀ n,Γ n
 law:∀ n x,un n (pk n x)=x
 eta:∀ n x,pk n (un n x)=x
 plain:∀ n,(fl n).all Ty.one=true
 pos:∀ n,0<(fl n).length
 fv:Nat->Value:=fun _ => .nilFunc
 tab:World->(Nat->Nat->Prop)->Prop:=fun _ _=>True
 tabM:∀ (w w' : World) (F F' : Nat->Nat->Prop),tab w F->(∀ b o,F b o->F' b o)->(∀ b o v,F b o->w.cell? ⟨b,o,none⟩=some v->w'.cell? ⟨b,o,none⟩=some v)->tab w' F' := by intros; trivial
@[reducible] def Env.withFv {N:Type} (E:Env N) (fv:Nat->Value):Env N := {E with fv:=fv}
abbrev Tok:=Nat×Nat×Nat
inductive TV {N:Type} (E:Env N) where
 | int (k:IntKind) (n:Int)
 | bool (b:Bool)
 | str (s:List UInt8)
 | sl (t:Ty N) (xs:List (den E.Γ t))
 | val (v:Value)
 | ref (n:N) (x:E.Γ n)
 | spec (i:Nat)
inductive Sc {N:Type} (E:Env N) where
 | tv (x:TV E)
 | ptr (s o:Nat)
 | fptr (ls:List (TV E))
inductive Cell {N:Type} (E:Env N) where
 | tv (x:TV E)
 | tok (k:Tok) (t:Ty N) (xs:List (den E.Γ t))
 | full (t:Ty N) (xs:List (den E.Γ t))
 | ptr (s o:Nat)
 | fptr (ls:List (TV E))
 | fn (f:Fn) (first captured:List (Sc E))
 | mp (s:Nat)
 | rw (s e:Nat) (p:Option (Nat×Nat))
 | dead
inductive Hold {N:Type} (E:Env N) where
 | one (c:Cell E)
 | agg (cs:List (Cell E))
 | tup (vs:List (Bool×List (Cell E)))
inductive Blk {N:Type} (E:Env N) where
 | gone
 | cells (cs:List (Cell E))
 | iter (s:List UInt8) (pos:Nat)
 | mp (kt vt:Ty N) (m:List (den E.Γ kt×den E.Γ vt))
 | rw (s e:Nat) (t:Ty N) (xs:List (den E.Γ t))
structure Pend {N:Type} (E:Env N) where
 ts:List (Ty N)
 xs:List (Tup E.Γ ts)
structure St {N:Type} (E:Env N) where
 tmps:List (Hold E)
 heap:List (Blk E)
 out:List (Hold E):=[]
 off:Nat:=0
 its:List (Pend E):=[]
 mrk:Bool:=false
inductive TD where
 | slice (e:Nat)
 | struct (fs:List (Nat×Nat×Nat))
 | str | bool | int (k:IntKind)
 | arr (n e:Nat)
 | map (k e:Nat)
 | other
structure TI {N:Type} (E:Env N) where
 d:TD
 size:Nat
 bytes:Nat
 agg:Bool
 zero:List (TV E)
 ty:Option (Ty N)
 eq:Bool:=false
structure Sig {N:Type} (E:Env N) where
 ps:List (Ty N)
 rs:List (Ty N)
 ex:List (Option Nat)
 fn:Tup E.Γ ps->Option (Tup E.Γ rs)
structure It {N:Type} (E:Env N) where
 ts:List (Ty N)
 cts:List (Ty N)
 shape:List Nat
 fn:Tup E.Γ cts->Option (List (Tup E.Γ ts))
structure Ctx {N:Type} (E:Env N) where
 ti:Nat->Option (TI E)
 sig:FuncId->Option (Sig E)
 it:FuncId->Option (It E):=fun _=>none
 nt:Nat:=0
 rowAt:List Nat:=[]
 frzAt:List Nat:=[]
def lim:Nat:=67108864
def nilS:Value := .slice none 0 0
section
variable {N:Type} [DecidableEq N] {E:Env N}
def tvOf:(t:Ty N)->den E.Γ t->TV E
 | .int k,n => .int k n
 | .bool,b => .bool b
 | .str,s => .str s
 | .sl t,xs => .sl t xs
 | .st _,_ => .val (.tuple #[])
 | .ref n,x => .ref n x
def viewTup:(ts:List (Ty N))->Tup E.Γ ts->List (TV E)
 | [],_=>[]
 | [t],x=>[tvOf t x]
 | t::u::ts,(x,y)=>tvOf t x::viewTup (u::ts) y
def packTV:(t:Ty N)->TV E->Option (den E.Γ t)
 | .int k,.int k' n=>if k' = k then some n else none
 | .bool,.bool b=>some b
 | .str,.str s=>some s
 | .sl t,.sl t' xs=>if h:t' = t then some (h ▸ xs) else none
 | .sl _,.val (.slice none 0 0)=>some []
 | .ref n,.ref n' x=>if h:n' = n then some (h ▸ x) else none
 | _,_=>none
def packTup:(ts:List (Ty N))->List (TV E)->Option (Tup E.Γ ts)
 | [],[]=>some ()
 | [t],[x]=>packTV t x
 | t::u::ts,x::xs=>match packTV t x,packTup (u::ts) xs with
   | some a,some b=>some (a,b)
   | _,_=>none
 | _,_=>none
def leaves:(t:Ty N)->den E.Γ t->List (TV E)
 | .st n,x=>viewTup (E.fl n) (E.un n x)
 | .int k,n=>[.int k n]
 | .bool,b=>[.bool b]
 | .str,s=>[.str s]
 | .sl t,xs=>[.sl t xs]
 | .ref n,x=>[.ref n x]
def packEl:(t:Ty N)->List (TV E)->Option (den E.Γ t)
 | .st n,ls=>match packTup (E.fl n) ls with
   | some x=>some (E.pk n x)
   | none=>none
 | .int k,[x]=>packTV (.int k) x
 | .bool,[x]=>packTV .bool x
 | .str,[x]=>packTV .str x
 | .sl t,[x]=>packTV (.sl t) x
 | .ref n,[x]=>packTV (.ref n) x
 | _,_=>none
def Ty.size (E:Env N):Ty N->Nat
 | .st n=>(E.fl n).length
 | _=>1
def zero:(t:Ty N)->den E.Γ t
 | .int _=>(0:Int)
 | .bool=>false
 | .str=>([]:List UInt8)
 | .sl t=>([]:List (den E.Γ t))
 | .st n=>E.z n
 | .ref n=>E.z n
def rd (t:Ty N) (xs:List (den E.Γ t)) (i:Nat):den E.Γ t:=xs.getD i (zero t)
def bt (s:List UInt8) (i:Nat):Int:=((s.getD i 0).toNat:Int)
def Hold.cells:Hold E->List (Cell E)
 | .one c=>[c]
 | .agg cs=>cs
 | .tup _=>[]
def Cell.leaf:Cell E->Option (TV E)
 | .tv x=>some x
 | .tok _ t xs=>some (.sl t xs)
 | .full t xs=>some (.sl t xs)
 | _=>none
def leafL:List (Cell E)->Option (List (TV E))
 | []=>some []
 | c::cs=>match c.leaf,leafL cs with
   | some a,some b=>some (a::b)
   | _,_=>none
def packH (t:Ty N):Hold E->Option (den E.Γ t)
 | .one (.fptr ls)=>match t with
   | .ref n=>match packTup (E.fl n) ls with
     | some x=>some (E.pk n x)
     | none=>none
   | _=>none
 | .one c=>match t.one,c.leaf with
   | true,some x=>packTV t x
   | _,_=>none
 | .agg cs=>match t.one,leafL cs with
   | false,some ls=>packEl t ls
   | _,_=>none
 | .tup _=>none
def valH (t:Ty N) (x:den E.Γ t):Hold E:=
 match t.one with
 | true => .one (.tv (tvOf t x))
 | false => .agg ((leaves t x).map .tv)
def packArgs:(ts:List (Ty N))->List (Hold E)->Option (Tup E.Γ ts)
 | [],[]=>some ()
 | [t],[x]=>packH t x
 | t::u::ts,x::xs=>match packH t x,packArgs (u::ts) xs with
   | some a,some b=>some (a,b)
   | _,_=>none
 | _,_=>none
def packX (e:Nat) (t:Ty N):Hold E->Option (den E.Γ t)
 | .one (.tok k t' xs)=>match Nat.beq k.2.2 e with
   | true=>packTV t (.sl t' xs)
   | false=>none
 | .one (.tv (.val (.slice none 0 0)))=>packTV t (.val (.slice none 0 0))
 | _=>none
def packR (t:Ty N) (ex:Option Nat) (h:Hold E):Option (den E.Γ t):=match ex with
 | some e=>packX e t h
 | none=>packH t h
def packRes:(ts:List (Ty N))->List (Option Nat)->List (Hold E)->Option (Tup E.Γ ts)
 | [],_,[]=>some ()
 | [t],[e],[x]=>packR t e x
 | t::u::ts,e::es,x::xs=>match packR t e x,packRes (u::ts) es xs with
   | some a,some b=>some (a,b)
   | _,_=>none
 | _,_,_=>none
def exCell (d i e:Nat):(t:Ty N)->den E.Γ t->Cell E
 | .sl t,xs => .tok (d,i,e) t xs
 | _,_ => .dead
def resV (d i:Nat) (e:Option Nat) (t:Ty N) (x:den E.Γ t):Bool×List (Cell E):=
 match e with
 | some e=>(false,[exCell d i e t x])
 | none=>match t.one with
   | true=>(false,[.tv (tvOf t x)])
   | false=>(true,(leaves t x).map .tv)
def resVs (d:Nat):Nat->(ts:List (Ty N))->List (Option Nat)->Tup E.Γ ts->List (Bool×List (Cell E))
 | _,[],_,_=>[]
 | i,[t],es,x=>[resV d i (es.headD none) t x]
 | i,t::u::ts,es,(x,y)=>resV d i (es.headD none) t x::resVs d (i+1) (u::ts) es.tail y
def holdV:Bool×List (Cell E)->Hold E
 | (true,cs) => .agg cs
 | (false,[c]) => .one c
 | (false,_) => .one .dead
def viewRes (d:Nat) (ts:List (Ty N)) (es:List (Option Nat)) (x:Tup E.Γ ts):Hold E:=
 match resVs d 0 ts es x with
 | [v]=>holdV v
 | vs => .tup vs
def ofConst:Value->Cell E
 | .int k n => .tv (.int k n)
 | .bool b => .tv (.bool b)
 | .string s => .tv (.str s.data.toList)
 | .agg _ => .dead
 | .tuple _ => .dead
 | v => .tv (.val v)
def constH:Value->Hold E
 | .agg cs => .agg (cs.toList.map ofConst)
 | v => .one (ofConst v)
def St.get (σ:St E) (i:Nat):Hold E:=σ.tmps.getD i (.one .dead)
def St.ev (σ:St E):Operand->Hold E
 | .tmp t=>σ.get t
 | .const v=>constH v
 | .global g => .one (.tv (.val (.pointer (some ⟨g,0,none⟩))))
 | .func f => .one (.fn (.func f) [] [])
def St.put (σ:St E) (d:Option Nat) (h:Hold E):St E:=
 match d with
 | some d => {σ with tmps:=σ.tmps.set d h}
 | none=>σ
def rkey (s e:Nat):Tok:=(s,777,e)
def Cell.hasD (d:Nat):Cell E->Bool
 | .tok k _ _=>Nat.beq k.1 d
 | .rw s _ _=>Nat.beq s d
 | _=>false
def Hold.hasD (d:Nat):Hold E->Bool
 | .one c=>c.hasD d
 | .agg cs=>cs.any (·.hasD d)
 | .tup vs=>vs.any fun v=>v.2.any (·.hasD d)
def Blk.hasD (d:Nat):Blk E->Bool
 | .gone=>false
 | .iter _ _=>false
 | .mp _ _ _=>false
 | .rw s _ _ _=>Nat.beq s d
 | .cells cs=>cs.any (·.hasD d)
def St.hasD (σ:St E) (d:Nat):Bool:=(σ.tmps.any (·.hasD d)||σ.heap.any (·.hasD d))||σ.out.any (·.hasD d)
def Cell.alive:Cell E->Bool
 | .dead=>false
 | .rw .. => false
 | _=>true
def Cell.stor:Cell E->Bool
 | .dead=>false
 | .rw _ _ (some _)=>false
 | _=>true
def Tok.eq (k k' : Tok):Bool:=Nat.beq k.1 k'.1&&(Nat.beq k.2.1 k'.2.1&&Nat.beq k.2.2 k'.2.2)
def Cell.kill (k:Tok):Cell E->Cell E
 | .tok k' t xs=>match Tok.eq k' k with
   | true => .tv (.sl t xs)
   | false => .tok k' t xs
 | .rw s e p=>match Tok.eq (rkey s e) k with
   | true => .dead
   | false => .rw s e p
 | c=>c
def Cell.frz (s e:Nat) (τ:Ty N) (xs:List (den E.Γ τ)):Cell E->Cell E
 | .rw s' e' p=>match Tok.eq (rkey s' e') (rkey s e),p with
   | true,none => .tv (.sl τ xs)
   | true,some _ => .dead
   | false,p => .rw s' e' p
 | c=>c.kill (rkey s e)
def rowOf:List (Cell E)->Option (Nat×Nat)
 | []=>none
 | .rw s e none::_=>some (s,e)
 | _::cs=>rowOf cs
def Hold.kill (k:Tok):Hold E->Hold E
 | .one c => .one (c.kill k)
 | .agg cs => .agg (cs.map (·.kill k))
 | .tup vs => .tup (vs.map fun v=>(v.1,v.2.map (·.kill k)))
def Blk.kill (k:Tok):Blk E->Blk E
 | .gone => .gone
 | .iter s p => .iter s p
 | .mp kt vt m => .mp kt vt m
 | .rw s e t xs=>match Tok.eq (rkey s e) k with
   | true => .gone
   | false => .rw s e t xs
 | .cells cs => .cells (cs.map (·.kill k))
def St.kill (σ:St E) (k:Tok):St E := {σ with tmps:=σ.tmps.map (·.kill k),heap:=σ.heap.map (·.kill k),out:=σ.out.map (·.kill k)}
def sliceOf (t:Ty N):Hold E->Option (List (den E.Γ t))
 | .one c=>match c.leaf with
   | some x=>packTV (.sl t) x
   | none=>none
 | _=>none
def elemTy (C:Ctx E) (t:Nat):Option (Nat×TI E×Ty N):=
 match C.ti t with
 | some ti=>match ti.d with
   | .slice e=>match C.ti e with
     | some te=>match te.ty with
       | some τ=>some (e,te,τ)
       | none=>none
     | none=>none
   | _=>none
 | none=>none
variable {β:Type}
def binInt (op:BinOp) (k:IntKind) (a b:Int) (K:TV E->Option β):Option β:=
 match op with
 | .add=>K (.int k (k.wrap (a+b)))
 | .sub=>K (.int k (k.wrap (a - b)))
 | .mul=>K (.int k (k.wrap (a*b)))
 | .quo=>cond (decide (b=0)) none (K (.int k (k.wrap (a.tdiv b))))
 | .rem=>cond (decide (b=0)) none (K (.int k (a.tmod b)))
 | .and=>K (.int k (k.wrap (BitVec.ofInt k.bits a &&& BitVec.ofInt k.bits b).toNat))
 | .or=>K (.int k (k.wrap (BitVec.ofInt k.bits a ||| BitVec.ofInt k.bits b).toNat))
 | .xor=>K (.int k (k.wrap (BitVec.ofInt k.bits a ^^^ BitVec.ofInt k.bits b).toNat))
 | .andNot=>K (.int k (k.wrap (BitVec.ofInt k.bits a &&& ~~~ BitVec.ofInt k.bits b).toNat))
 | .eql=>K (.bool (decide (a=b)))
 | .neq=>K (.bool (!decide (a=b)))
 | .lss=>K (.bool (decide (a<b)))
 | .leq=>K (.bool (decide (a<=b)))
 | .gtr=>K (.bool (decide (b<a)))
 | .geq=>K (.bool (decide (b<=a)))
 | _=>none
def shiftInt (op:BinOp) (k:IntKind) (a b:Int) (K:TV E->Option β):Option β:=
 match op with
 | .shl=>cond (decide (b<0)) none (K (.int k (k.wrap (a*2 ^ (min b.toNat k.bits)))))
 | .shr=>cond (decide (b<0)) none (K (.int k (a.fdiv (2 ^ (min b.toNat k.bits)))))
 | _=>none
def binStr (op:BinOp) (a b:List UInt8) (K:TV E->Option β):Option β:=
 match op with
 | .add=>cond (decide (a.length+b.length<=1125899906842624)) (K (.str (a++b))) none
 | .eql=>K (.bool (decide (a=b)))
 | .neq=>K (.bool (!decide (a=b)))
 | .lss=>K (.bool (Op.bytesLess a b))
 | .leq=>K (.bool (Op.bytesLess a b||decide (a=b)))
 | .gtr=>K (.bool (!(Op.bytesLess a b||decide (a=b))))
 | .geq=>K (.bool (!Op.bytesLess a b))
 | _=>none
def binTV (op:BinOp) (x y:TV E) (K:TV E->Option β):Option β:=
 match x,y with
 | .int k a,.int k' b=>match op with
   | .shl=>shiftInt .shl k a b K
   | .shr=>shiftInt .shr k a b K
   | op=>match decide (k=k') with
     | true=>binInt op k a b K
     | false=>none
 | .str a,.str b=>binStr op a b K
 | _,_=>none
def binC (C:Ctx E) (t:Nat) (op:BinOp) (x y:TV E) (K:TV E->Option β):Option β:=match x,y with
 | .bool a,.bool b=>match C.ti t with
   | some ti=>match ti.d,op with
     | .bool,.eql=>K (.bool (decide (a=b)))
     | .bool,.neq=>K (.bool (!decide (a=b)))
     | _,_=>none
   | none=>none
 | x,y=>binTV op x y K
def eqFs (C:Ctx E):List Nat->List (Cell E)->List (Cell E)->Option Bool
 | [],[],[]=>some true
 | t::ts,x::xs,y::ys=>match C.ti t,eqFs C ts xs ys with
   | some ti,some r=>match ti.d,x,y with
     | .int _,.tv (.int k a),.tv (.int k' b)=>match decide (k=k') with
       | true=>some (decide (a=b)&&r)
       | false=>none
     | .str,.tv (.str a),.tv (.str b)=>some (decide (a=b)&&r)
     | .bool,.tv (.bool a),.tv (.bool b)=>some (decide (a=b)&&r)
     | _,_,_=>none
   | _,_=>none
 | _,_,_=>none
def eqOp (op:BinOp) (b:Option Bool) (K:TV E->Option β):Option β:=match op,b with
 | .eql,some b=>K (.bool b)
 | .neq,some b=>K (.bool (!b))
 | _,_=>none
def eqTys (ti:TI E):Option (List Nat):=match ti.eq,ti.d with
 | true,.struct fs=>some (fs.map (·.2.1))
 | true,.arr n e=>some (List.replicate n e)
 | _,_=>none
def unTV (op:UnOp) (x:TV E) (K:TV E->Option β):Option β:=
 match op,x with
 | .not,.bool b=>K (.bool (!b))
 | .neg,.int k n=>K (.int k (k.wrap (0 - n)))
 | _,_=>none
def Cell.fp:Cell E->Cell E
 | .tv (.ref n x) => .fptr (viewTup (E.fl n) (E.un n x))
 | c=>c
def Hold.fp:Hold E->Hold E
 | .one c => .one c.fp
 | h=>h
def Cell.sc:Cell E->Option (Sc E)
 | .tv x=>some (.tv x)
 | .tok _ t xs=>some (.tv (.sl t xs))
 | .full t xs=>some (.tv (.sl t xs))
 | .ptr s o=>some (.ptr s o)
 | .fptr ls=>some (.fptr ls)
 | _=>none
def Hold.scs:List (Hold E)->Option (List (Sc E))
 | []=>some []
 | .one c::hs=>match c.sc,Hold.scs hs with
   | some x,some xs=>some (x::xs)
   | _,_=>none
 | _=>none
def Sc.cell:Sc E->Cell E
 | .tv x => .tv x
 | .ptr s o => .ptr s o
 | .fptr ls => .fptr ls
def loadC (ti:TI E) (cs:List (Cell E)) (o:Nat) (K:Hold E->Option β):Option β:=
 match ti.agg with
 | true=>match Nat.ble (o+ti.size) cs.length with
   | true=>K (.agg ((cs.drop o).take ti.size))
   | false=>none
 | false=>match cs.drop o with
   | c::_=>K (.one c)
   | []=>none
def lenH (d:TD) (h:Hold E) (K:Hold E->Option β):Option β:=
 match d,h with
 | .str,.one (.tv (.str s))=>K (.one (.tv (.int .i64 s.length)))
 | .slice _,.one (.tv (.sl _ xs))=>K (.one (.tv (.int .i64 xs.length)))
 | .slice _,.one (.tok _ _ xs)=>K (.one (.tv (.int .i64 xs.length)))
 | .slice _,.one (.full _ xs)=>K (.one (.tv (.int .i64 xs.length)))
 | .slice _,.one (.tv (.val (.slice none 0 0)))=>K (.one (.tv (.int .i64 0)))
 | _,_=>none
def lenM (bs:List (Blk E)) (d:TD) (h:Hold E) (K:Hold E->Option β):Option β:=
 match h with
 | .one (.mp s)=>match d,bs[s]? with
   | .map _ _,some (.mp kt vt m)=>K (.one (.tv (.int .i64 (List.length (α:=den E.Γ kt×den E.Γ vt) m))))
   | _,_=>none
 | h=>lenH d h K
def optInt (σ:St E):Option Operand->Option (Option Int)
 | none=>some none
 | some x=>match σ.ev x with
   | .one (.tv (.int _ n))=>some (some n)
   | _=>none
def cutL {α:Type} (xs:List α) (lo hi:Option Int) (K:List α->Option β):Option β:=
 match lo,hi with
 | none,none=>K xs
 | some l,none=>cond (decide (0<=l)&&decide (l<=xs.length)) (K (xs.drop l.toNat)) none
 | none,some h=>cond (decide (0<=h)&&decide (h<=xs.length)) (K (xs.take h.toNat)) none
 | some l,some h=>cond (decide (0<=l)&&decide (l<=h)&&decide (h<=xs.length)) (K ((xs.take h.toNat).drop l.toNat)) none
def evL (σ:St E):List Operand->List (Hold E)
 | []=>[]
 | x::xs=>σ.ev x::evL σ xs
def partsH (σ:St E) (τ:Ty N):Nat->List (Nat×Operand)->Option (List (den E.Γ τ))
 | _,[]=>some []
 | i,(j,x)::r=>match Nat.beq i j,packH τ (σ.ev x),partsH σ τ (i+1) r with
   | true,some a,some b=>some (a::b)
   | _,_,_=>none
def setRange (cs:List (Cell E)) (o:Nat) (xs:List (Cell E)):List (Cell E):=cs.take o++xs++cs.drop (o+xs.length)
def buildParts (σ:St E) (fs:List (Nat×Nat×Nat)):List (Nat×Operand)->List (Cell E)->Option (List (Cell E))
 | [],cs=>some cs
 | (j,x)::r,cs=>match fs[j]? with
   | some (off,_,sz)=>match Nat.beq (σ.ev x).cells.length sz&&Nat.ble (off+sz) cs.length&&((σ.ev x).cells.all Cell.alive && !(σ.ev x).cells.isEmpty) with
     | true=>buildParts σ fs r (setRange cs off (σ.ev x).cells)
     | false=>none
   | none=>none
def enc (n:Int):List UInt8:=(Utf8.encode n).data.toList
def utf (rs:List Int):List UInt8:=(rs.map enc).flatten
def dec (s:List UInt8) (pos:Nat):Nat×Nat:=Utf8.decode ⟨⟨s⟩⟩ pos
def runesF (s:List UInt8):Nat->Nat->List Int
 | 0,_=>[]
 | n+1,i=>match decide (i<s.length) with
   | true=>((dec s i).1:Int)::runesF s n (i+(dec s i).2)
   | false=>[]
def rns (s:List UInt8):List Int:=runesF s s.length 0
def toRunes (C:Ctx E) (s t:Nat):Bool:=match C.ti s,elemTy C t with
 | some sd,some (_,te,.int .i32)=>match sd.d,te.d with
   | .str,.int .i32=>true
   | _,_=>false
 | _,_=>false
def ofRunes (C:Ctx E) (s t:Nat) (h:Hold E):Option (List Int):=match elemTy C s,C.ti t with
 | some (_,te,.int .i32),some td=>match td.d,te.d with
   | .str,.int .i32=>sliceOf (.int .i32) h
   | _,_=>none
 | _,_=>none
def convTV (d:TD) (x:TV E) (K:TV E->Option β):Option β:=match d,x with
 | .int k',.int _ n=>K (.int k' (k'.wrap n))
 | .str,.int _ n=>K (.str (enc n))
 | _,_=>none
def places (C:Ctx E):TD->Option (List (Nat×Nat×Nat))
 | .struct fs=>some fs
 | .arr n e=>match C.ti e with
   | some te=>some ((List.range n).map fun i=>(i*te.size,e,te.size))
   | none=>none
 | _=>none
def arrAddr (C:Ctx E) (t:Nat) (i:Operand) (h:Hold E):Option (Hold E):=match C.ti t,i with
 | some ti,.const (.int _ (.ofNat n))=>match ti.d with
   | .arr m e=>match C.ti e,Nat.blt n m,h with
     | some te,true,.one (.ptr s o)=>some (.one (.ptr s (o+n*te.size)))
     | some te,true,.one (.fptr ls)=>some (.one (.fptr (ls.drop (n*te.size))))
     | _,_,_=>none
   | _=>none
 | _,_=>none
def evalR (C:Ctx E) (σ:St E) (d:Nat) (o:Oper) (K:Hold E->Option β):Option β:=
 match o.op with
 | .move x=>K (σ.ev x)
 | .assign x=>K (σ.ev x)
 | .pick c a b=>match σ.ev c with
   | .one (.tv (.bool t))=>cond t (K (σ.ev a)) (K (σ.ev b))
   | _=>none
 | .binOp op t x y _=>match σ.ev x,σ.ev y with
   | .one (.tv x),.one (.tv y)=>binC C t op x y fun r=>K (.one (.tv r))
   | .agg xs,.agg ys=>match (C.ti t).bind eqTys with
     | some ts=>eqOp op (eqFs C ts xs ys) fun r=>K (.one (.tv r))
     | none=>none
   | _,_=>none
 | .unOp op _ x=>match σ.ev x with
   | .one (.tv x)=>unTV op x fun r=>K (.one (.tv r))
   | _=>none
 | .load t a=>match C.ti t with
   | some ti=>match (σ.ev a).fp with
     | .one (.ptr s off)=>match σ.heap[s]? with
       | some (.cells cs)=>loadC ti cs off K
       | _=>none
     | .one (.fptr ls)=>loadC ti (ls.map .tv) 0 K
     | _=>none
   | none=>none
 | .fieldAddr t x f=>match C.ti t with
   | some ti=>match ti.d with
     | .struct fs=>match fs[f]? with
       | some (off,_,sz)=>match Nat.blt 0 sz,(σ.ev x).fp with
         | true,.one (.ptr s o)=>K (.one (.ptr s (o+off)))
         | true,.one (.fptr ls)=>K (.one (.fptr (ls.drop off)))
         | _,_=>none
       | none=>none
     | _=>none
   | none=>none
 | .indexAddr t x i=>match elemTy C t with
   | some (_,_,τ)=>match sliceOf τ (σ.ev x),σ.ev i with
     | some xs,.one (.tv (.int _ n))=>cond (decide (0<=n)&&decide (n<xs.length)) (K (.one (.fptr (leaves τ (rd τ xs n.toNat))))) none
     | _,_=>none
   | none=>(arrAddr C t i (σ.ev x).fp).bind K
 | .index t x i=>match C.ti t with
   | some ti=>match ti.d,σ.ev x,σ.ev i with
     | .str,.one (.tv (.str s)),.one (.tv (.int _ n))=>cond (decide (0<=n)&&decide (n<s.length)) (K (.one (.tv (.int .u8 (bt s n.toNat))))) none
     | _,_,_=>none
   | none=>none
 | .slice t x lo hi none=>match C.ti t,σ.ev x,optInt σ lo,optInt σ hi with
   | some ti,.one c,some l,some h=>match ti.d,c with
     | .str,.tv (.str s)=>cutL s l h fun r=>K (.one (.tv (.str r)))
     | .slice _,_=>match elemTy C t with
       | some (_,_,τ)=>match sliceOf τ (.one c) with
         | some xs=>cutL xs l h fun r=>K (.one (.tv (.sl τ r)))
         | none=>none
       | none=>none
     | _,_=>none
   | _,_,_,_=>none
 | .slice t x none (some y) (some z)=>match elemTy C t,σ.ev y,σ.ev z with
   | some (_,_,τ),.one (.tv (.int _ h)),.one (.tv (.int _ m))=>match sliceOf τ (σ.ev x) with
     | some xs=>cond (decide (0<=h)&&(decide (h<=List.length (α:=den E.Γ τ) xs)&&decide (h=m))) (K (.one (.full τ (List.take (α:=den E.Γ τ) h.toNat xs)))) none
     | none=>none
   | _,_,_=>none
 | .extract x i=>match σ.ev x with
   | .tup vs=>match vs[i]? with
     | some v=>K (holdV v)
     | none=>none
   | _=>none
 | .nilCheck x=>match (σ.ev x).fp with
   | .one (.ptr s o)=>K (.one (.ptr s o))
   | .one (.fptr ls)=>K (.one (.fptr ls))
   | _=>none
 | .makeFunc (.func f) first captured=>match Hold.scs (evL σ first.toList),Hold.scs (evL σ captured.toList) with
   | some us,some vs=>K (.one (.fn (.func f) us vs))
   | _,_=>none
 | .build t parts=>match C.ti t with
   | some ti=>match places C ti.d with
     | some fs=>match buildParts σ fs parts.toList (ti.zero.map .tv) with
       | some cs=>K (.agg cs)
       | none=>none
     | none=>none
   | none=>none
 | .call c=>match c.callee with
   | .builtin .len=>match c.args.toList,c.argTypes.toList with
     | [x],[t]=>match C.ti t with
       | some ti=>lenM σ.heap ti.d (σ.ev x) K
       | none=>none
     | _,_=>none
   | .value (.func f)=>match C.sig f with
     | some S=>match packArgs S.ps (evL σ c.args.toList) with
       | some x=>(S.fn x).bind fun r=>K (viewRes d S.rs S.ex r)
       | none=>none
     | none=>none
   | _=>none
 | .convert s t x=>match ofRunes C s t (σ.ev x) with
   | some rs=>K (.one (.tv (.str (utf rs))))
   | none=>match toRunes C s t with
     | true=>match σ.ev x with
       | .one (.tv (.str b))=>cond (decide ((rns b).length<=lim)) (K (.one (.tv (.sl (.int .i32) (rns b))))) none
       | _=>none
     | false=>match C.ti s,C.ti t,σ.ev x with
       | some _,some td,.one (.tv v)=>convTV td.d v fun r=>K (.one (.tv r))
       | _,_,_=>none
 | _=>none
noncomputable def agree (a b:Option β):Option β := @ite _ (a=b) (Classical.propDecidable _) a none
noncomputable def nilCmp (h:Hold E) (K:Bool->Option β):Option β:=match h with
 | .one (.tv (.val (.slice none 0 0)))=>K true
 | .one c=>match c.leaf with
   | some (.sl t xs)=>cond (List.isEmpty (α:=den E.Γ t) xs) (agree (K true) (K false)) (K false)
   | _=>none
 | _=>none
def eqLv:TV E->TV E->Bool
 | .int _ a,.int _ b=>decide (a=b)
 | .str a,.str b=>decide (a=b)
 | .bool a,.bool b=>decide (a=b)
 | _,_=>false
def eqLs:List (TV E)->List (TV E)->Bool
 | [],[]=>true
 | x::xs,y::ys=>eqLv x y&&eqLs xs ys
 | _,_=>false
def keyEq (t:Ty N) (a b:den E.Γ t):Bool:=eqLs (leaves t a) (leaves t b)
def mget {α γ:Type} (eq:α->α->Bool):List (α×γ)->α->Option γ
 | [],_=>none
 | (k,v)::r,x=>match eq x k with
   | true=>some v
   | false=>mget eq r x
def mput {α γ:Type} (eq:α->α->Bool):List (α×γ)->α->γ->List (α×γ)
 | [],x,y=>[(x,y)]
 | (k,v)::r,x,y=>match eq x k with
   | true=>(x,y)::r
   | false=>(k,v)::mput eq r x y
def matchTy (C:Ctx E) (t:Nat) (τ:Ty N):Bool:=match C.ti t with
 | some ti=>match ti.d,τ with
   | .int k,.int k' => decide (k=k')
   | .str,.str=>true
   | .bool,.bool=>true
   | _,_=>false
 | none=>false
def keyOk (C:Ctx E) (k:Nat) (τ:Ty N):Bool:=match τ with
 | .st n=>match C.ti k with
   | some ti=>match ti.eq,ti.d with
     | true,.arr m e=>Nat.beq m (E.fl n).length&&(E.fl n).all fun τ=>matchTy C e τ
     | _,_=>false
   | none=>false
 | τ=>matchTy C k τ
def zeroH (te:TI E):Hold E:=match te.agg with
 | true => .agg (te.zero.map .tv)
 | false=>match te.zero with
   | [z] => .one (.tv z)
   | _ => .one .dead
def mapKV (C:Ctx E) (t:Nat):Option (Ty N×Ty N):=match C.ti t with
 | some ti=>match ti.d with
   | .map k e=>match C.ti k,C.ti e with
     | some tk,some te=>match tk.ty,te.ty with
       | some kt,some vt=>some (kt,vt)
       | _,_=>none
     | _,_=>none
   | _=>none
 | none=>none
def mapZ (C:Ctx E) (t:Nat) (kt vt:Ty N):Option (den E.Γ vt):=match C.ti t with
 | some ti=>match ti.d with
   | .map k e=>match C.ti e,keyOk C k kt with
     | some te,true=>packH vt (zeroH te)
     | _,_=>none
   | _=>none
 | none=>none
structure Ext {N:Type} (E:Env N) (β:Type) where
 call:St E->Option Nat->Cell E->List (Hold E)->(St E->Option β)->Option β
def Ty.scalar:Ty N->Bool
 | .int _=>true
 | .bool=>true
 | .str=>true
 | _=>false
def Ty.flat (E:Env N):Ty N->Bool
 | .st n=>(E.fl n).all Ty.scalar
 | t=>t.scalar
def rowTy (C:Ctx E) (e:Nat) (τ:Ty N):Bool:=match C.ti e with
 | some te=>match te.ty with
   | some τ' => decide (τ' = τ)&&τ.flat E
   | none=>false
 | none=>false
def rowRes (C:Ctx E) (s:Nat):(rs:List (Ty N))->List (Option Nat)->Tup E.Γ rs->Option (Hold E×Blk E)
 | [.sl τ],[some e],xs=>match rowTy C e τ with
   | true=>some (.one (.rw s e none),.rw s e τ xs)
   | false=>none
 | [.sl τ,.bool],[some e,none],(xs,b)=>match rowTy C e τ with
   | true=>some (.tup [(false,[.rw s e none]),(false,[.tv (.bool b)])],.rw s e τ xs)
   | false=>none
 | _,_,_=>none
noncomputable def evalOp (C:Ctx E) (X:Ext E β) (σ:St E) (o:Oper) (K:St E->Option β):Option β:=
 match o.op,o.dst with
 | .box t x,some d=>match C.ti t,σ.heap[σ.off+d]? with
   | some ti,some .gone=>match Nat.beq (σ.ev x).cells.length ti.size&&((σ.ev x).cells.all Cell.alive && !(σ.ev x).cells.isEmpty) with
     | true=>K {σ with tmps:=σ.tmps.set d (.one (.ptr (σ.off+d) 0)),heap:=σ.heap.set (σ.off+d) (.cells (σ.ev x).cells)}
     | false=>none
   | _,_=>none
 | .alloc t,some d=>match C.ti t,σ.heap[σ.off+d]? with
   | some ti,some .gone=>K {σ with tmps:=σ.tmps.set d (.one (.ptr (σ.off+d) 0)),heap:=σ.heap.set (σ.off+d) (.cells (ti.zero.map .tv))}
   | _,_=>none
 | .binOp op t x (.const (.slice none 0 0)) t',some d=>match C.ti t,op with
   | some ti,.eql=>match ti.d with
     | .slice _=>nilCmp (σ.ev x) fun b=>K (σ.put (some d) (.one (.tv (.bool b))))
     | _=>none
   | some ti,.neq=>match ti.d with
     | .slice _=>nilCmp (σ.ev x) fun b=>K (σ.put (some d) (.one (.tv (.bool (!b)))))
     | _=>none
   | _,_=>none
 | .range t x,some d=>match C.ti t,σ.heap[σ.off+d]? with
   | some ti,some .gone=>match ti.d,σ.ev x with
     | .str,.one (.tv (.str s))=>K {σ with tmps:=σ.tmps.set d (.one (.ptr (σ.off+d) 0)),heap:=σ.heap.set (σ.off+d) (.iter s 0)}
     | _,_=>none
   | _,_=>none
 | .next x true,some d=>match σ.ev x with
   | .one (.ptr s 0)=>match σ.heap[s]? with
     | some (.iter str pos)=>cond (decide (pos<str.length))
       (K {σ with tmps:=σ.tmps.set d (.tup [(false,[.tv (.bool true)]),(false,[.tv (.int .i64 pos)]),(false,[.tv (.int .i32 (dec str pos).1)])]),heap:=σ.heap.set s (.iter str (pos+(dec str pos).2))})
       (K (σ.put (some d) (.tup [(false,[.tv (.bool false)])])))
     | _=>none
   | _=>none
 | .store t a x,none=>match C.ti t with
   | some ti=>match σ.ev a with
     | .one (.ptr s off)=>match σ.heap[s]? with
       | some (.cells cs)=>match Nat.beq (σ.ev x).cells.length ti.size&&Nat.ble (off+ti.size) cs.length&&((σ.ev x).cells.all Cell.stor && !(σ.ev x).cells.isEmpty) with
         | true=>K {σ with heap:=σ.heap.set s (.cells (setRange cs off (σ.ev x).cells))}
         | false=>none
       | _=>none
     | .one (.rw s e (some (n,z)))=>match σ.heap[s]? with
       | some (.rw s' e' τ xs)=>match (Nat.beq s' s&&Nat.beq e' e)&&(Nat.beq t e&&Nat.beq z ti.size),packH τ (σ.ev x) with
         | true,some y=>K {σ with heap:=σ.heap.set s (.rw s' e' τ (List.set (α:=den E.Γ τ) xs n y))}
         | _,_=>none
       | _=>none
     | _=>none
   | none=>none
 | .buildSlice t n parts,some d=>match elemTy C t with
   | some (e,te,τ)=>match partsH σ τ 0 parts.toList with
     | some xs=>match Nat.beq parts.toList.length n&&Nat.ble (n*te.size) 16777216 && !σ.hasD (σ.off+d) with
       | true=>match C.rowAt.contains d with
         | false=>K (σ.put (some d) (.one (.tok (σ.off+d,0,e) τ xs)))
         | true=>match σ.heap[σ.off+d]? with
           | some .gone=>K {σ with tmps:=σ.tmps.set d (.one (.rw (σ.off+d) e none)),heap:=σ.heap.set (σ.off+d) (.rw (σ.off+d) e τ xs)}
           | _=>none
       | false=>none
     | none=>none
   | none=>none
 | .move x,some d=>match C.frzAt.contains d with
   | true=>match σ.ev x with
     | .one (.rw s e none)=>match σ.heap[s]? with
       | some (.rw s' e' τ xs)=>match Nat.beq s' s&&Nat.beq e' e with
         | true=>K ((σ.kill (rkey s e)).put (some d) (.one (.tv (.sl τ xs))))
         | false=>none
       | _=>none
     | _=>none
   | false=>evalR C σ (σ.off+d) o fun h=>K (σ.put (some d) h)
 | .load t a,some d=>match C.frzAt.contains d with
   | true=>match σ.ev a with
     | .one (.ptr b off)=>match σ.heap[b]? with
       | some (.cells cs)=>match rowOf cs with
         | some (s,e)=>match σ.heap[s]? with
           | some (.rw s' e' τ xs)=>match Nat.beq s' s&&Nat.beq e' e with
             | true=>evalR C {σ.kill (rkey s e) with heap:=(σ.kill (rkey s e)).heap.set b (.cells (cs.map (Cell.frz s e τ xs)))} (σ.off+d) o fun h=>K (({σ.kill (rkey s e) with heap:=(σ.kill (rkey s e)).heap.set b (.cells (cs.map (Cell.frz s e τ xs)))} : St E).put (some d) h)
             | false=>none
           | _=>none
         | none=>none
       | _=>none
     | _=>none
   | false=>evalR C σ (σ.off+d) o fun h=>K (σ.put (some d) h)
 | .indexAddr t x i,some d=>match C.rowAt.contains d with
   | true=>match elemTy C t,σ.ev x,σ.ev i with
     | some (e,te,_),.one (.rw s e' none),.one (.tv (.int _ n))=>match σ.heap[s]? with
       | some (.rw s' e'' τ xs)=>match Nat.beq s' s&&(Nat.beq e'' e&&Nat.beq e' e) with
         | true=>cond (decide (0<=n)&&decide (n<List.length (α:=den E.Γ τ) xs)) (K (σ.put (some d) (.one (.rw s e (some (n.toNat,te.size)))))) none
         | false=>none
       | _=>none
     | _,_,_=>none
   | false=>evalR C σ (σ.off+d) o fun h=>K (σ.put (some d) h)
 | .makeSlice t l c,some d=>match elemTy C t,σ.ev l,σ.ev c with
   | some (e,te,τ),.one (.tv (.int _ 0)),.one (.tv (.int _ n))=>match σ.hasD (σ.off+d) || !Nat.ble te.bytes 1024 with
     | false=>cond (decide (0<=n)&&decide (n<=(lim:Int))) (K (σ.put (some d) (.one (.tok (σ.off+d,0,e) τ ([]:List (den E.Γ τ)))))) none
     | true=>none
   | _,_,_=>none
 | .makeMap t r,some d=>match mapKV C t,σ.heap[σ.off+d]?,optInt σ r with
   | some (kt,vt),some .gone,some _=>K {σ with tmps:=σ.tmps.set d (.one (.mp (σ.off+d))),heap:=σ.heap.set (σ.off+d) (.mp kt vt [])}
   | _,_,_=>none
 | .mapUpdate t m k v,none=>match σ.ev m with
   | .one (.mp s)=>match σ.heap[s]? with
     | some (.mp kt vt ents)=>match mapZ C t kt vt,packH kt (σ.ev k),packH vt (σ.ev v) with
       | some _,some x,some y=>K {σ with heap:=σ.heap.set s (.mp kt vt (mput (keyEq kt) ents x y))}
       | _,_,_=>none
     | _=>none
   | _=>none
 | .lookup t m k ok,some d=>match σ.ev m with
   | .one (.mp s)=>match σ.heap[s]? with
     | some (.mp kt vt ents)=>match mapZ C t kt vt,packH kt (σ.ev k) with
       | some z,some x=>match ok with
         | false=>K (σ.put (some d) (valH vt ((mget (keyEq kt) ents x).getD z)))
         | true=>K (σ.put (some d) (.tup [(!vt.one,(valH vt ((mget (keyEq kt) ents x).getD z)).cells),(false,[.tv (.bool (mget (keyEq kt) ents x).isSome)])]))
       | _,_=>none
     | _=>none
   | _=>none
 | .call c,d=>match c.callee,d with
   | .builtin .append,some d=>match c.args.toList,c.argTypes.toList with
     | [x,y],[t,t']=>match Nat.beq t t',elemTy C t with
       | true,some (e,te,τ)=>match sliceOf τ (σ.ev y),Nat.ble te.bytes 1024 with
         | some ys,true=>match σ.ev x with
           | .one (.tok k τ' xs)=>match packTV (.sl τ) (.sl τ' xs:TV E),(σ.kill k).hasD (σ.off+d),Nat.beq k.2.2 e with
             | some xs,false,true=>cond (decide (List.length (α:=den E.Γ τ) xs+List.length (α:=den E.Γ τ) ys<=lim)) (K ((σ.kill k).put (some d) (.one (.tok (σ.off+d,0,e) τ (List.append (α:=den E.Γ τ) xs ys))))) none
             | _,_,_=>none
           | .one (.tv (.val (.slice none 0 0)))=>match σ.hasD (σ.off+d) with
             | false=>cond (decide (List.length (α:=den E.Γ τ) ys<=lim)) (K (σ.put (some d) (.one (.tok (σ.off+d,0,e) τ ys)))) none
             | true=>none
           | .one (.full τ' xs)=>match packTV (.sl τ) (.sl τ' xs:TV E),σ.hasD (σ.off+d) with
             | some xs,false=>cond (decide (0<List.length (α:=den E.Γ τ) ys)&&decide (List.length (α:=den E.Γ τ) xs+List.length (α:=den E.Γ τ) ys<=lim)) (K (σ.put (some d) (.one (.tok (σ.off+d,0,e) τ (List.append (α:=den E.Γ τ) xs ys))))) none
             | _,_=>none
           | .one (.rw s e' none)=>match C.rowAt.contains d,σ.heap[s]?,(σ.kill (rkey s e')).hasD (σ.off+d) || !Nat.beq e' e with
             | true,some (.rw s' e'' τ' xs),false=>match packTV (.sl τ) (.sl τ' xs:TV E),Nat.beq s' s&&Nat.beq e'' e',(σ.kill (rkey s e')).heap[σ.off+d]? with
               | some xs,true,some .gone=>cond (decide (List.length (α:=den E.Γ τ) xs+List.length (α:=den E.Γ τ) ys<=lim)) (K {σ.kill (rkey s e') with tmps:=(σ.kill (rkey s e')).tmps.set d (.one (.rw (σ.off+d) e none)),heap:=(σ.kill (rkey s e')).heap.set (σ.off+d) (.rw (σ.off+d) e τ (List.append (α:=den E.Γ τ) xs ys))}) none
               | _,_,_=>none
             | _,_,_=>none
           | _=>none
         | _,_=>none
       | _,_=>none
     | _,_=>none
   | .value (.func f),d=>match C.sig f with
     | some S=>match d with
       | some d=>match σ.hasD (σ.off+d) with
         | false=>match C.rowAt.contains d with
           | false=>evalR C σ (σ.off+d) o fun h=>K (σ.put (some d) h)
           | true=>match packArgs S.ps (evL σ c.args.toList),σ.heap[σ.off+d]? with
             | some x,some .gone=>(S.fn x).bind fun y=>(rowRes C (σ.off+d) S.rs S.ex y).bind fun z=>K {σ with tmps:=σ.tmps.set d z.1,heap:=σ.heap.set (σ.off+d) z.2}
             | _,_=>none
         | true=>none
       | none=>evalR C σ (σ.off+0) o fun h=>K (σ.put none h)
     | none=>X.call σ d (.fn (.func f) [] []) (evL σ c.args.toList) K
   | .value fv,d=>match σ.ev fv with
     | .one c' => X.call σ d c' (evL σ c.args.toList) K
     | _=>none
   | _,d=>evalR C σ (σ.off+d.getD 0) o fun h=>K (σ.put d h)
 | _,d=>evalR C σ (σ.off+d.getD 0) o fun h=>K (σ.put d h)
noncomputable def runOps (C:Ctx E) (Xi:Nat->Ext E β) (ops:Array Oper):List Nat->St E->(St E->Option β)->Option β
 | [],σ,K=>K σ
 | i::r,σ,K=>match ops[i]? with
   | none=>runOps C Xi ops r σ K
   | some o=>match o.guard with
     | none=>evalOp C (Xi i) σ o fun σ' => runOps C Xi ops r σ' K
     | some (j,want)=>match (ops[j]?).bind (·.dst) with
       | some d=>match σ.tmps[d]? with
         | some (.one (.tv (.bool b)))=>
           cond b
            (match want with
             | true=>evalOp C (Xi i) (σ.put (some d) (.one (.tv (.bool true)))) o fun σ' => runOps C Xi ops r σ' K
             | false=>runOps C Xi ops r ((σ.put (some d) (.one (.tv (.bool true)))).put o.dst (.tup [])) K)
            (match want with
             | false=>evalOp C (Xi i) (σ.put (some d) (.one (.tv (.bool false)))) o fun σ' => runOps C Xi ops r σ' K
             | true=>runOps C Xi ops r ((σ.put (some d) (.one (.tv (.bool false)))).put o.dst (.tup [])) K)
         | some (.tup [])=>runOps C Xi ops r (σ.put o.dst (.tup [])) K
         | _=>none
       | none=>none
inductive Keep (N:Type) where
 | asis
 | own (k:Tok) (t:Ty N)
 | frz (t:Ty N)
structure Plan (N:Type) where
 tmps:List (Nat×Keep N)
 boxes:List (Nat×List (Keep N))
 outs:List (Nat×Keep N):=[]
 mrk:Bool:=false
def Keep.cell:Keep N->Cell E->Option (Cell E)
 | .asis,.tok .. => none
 | .asis,.rw .. => none
 | .asis,.tv (.val (.map none))=>none
 | .asis,c=>some c
 | .own k t,.tok k' t' xs=>match packTV (.sl t) (.sl t' xs:TV E),Nat.beq k'.2.2 k.2.2 with
   | some xs,true=>some (.tok k t xs)
   | _,_=>none
 | .own k t,.tv (.val (.slice none 0 0))=>some (.tok k t [])
 | .own _ _,_=>none
 | .frz t,c=>match c.leaf with
   | some x=>match packTV t x with
     | some y=>some (.tv (tvOf t y))
     | none=>none
   | none=>none
def Keep.hold:Keep N->Hold E->Option (Hold E)
 | k,.one c=>match k.cell c with
   | some c=>some (.one c)
   | none=>none
 | .asis,.agg cs=>match cs.any fun c=>match c with | .tok .. => true | .rw .. => true | .tv (.val (.map none))=>true | _=>false with
   | false=>some (.agg cs)
   | true=>none
 | _,_=>none
def keepCells:List (Keep N)->List (Cell E)->Option (List (Cell E))
 | [],[]=>some []
 | k::ks,c::cs=>match k.cell c,keepCells ks cs with
   | some a,some b=>some (a::b)
   | _,_=>none
 | _,_=>none
def Keep.pair (k:Keep N) (c:Cell E):List (Tok×Option Tok):=
 match k,c with
 | .own k _,.tok k' _ _=>[(k,some k')]
 | .own k _,.tv (.val (.slice none 0 0))=>[(k,none)]
 | _,_=>[]
def keepTmps (p:List (Nat×Keep N)):Nat->List (Hold E)->Option (List (Hold E))
 | _,[]=>some []
 | i,h::hs=>match keepTmps p (i+1) hs with
   | some r=>match p.lookup i with
     | some k=>match k.hold h with
       | some h' => some (h' :: r)
       | none=>none
     | none=>some (.one .dead::r)
   | none=>none
def keepHeap (p:List (Nat×List (Keep N))):Nat->List (Blk E)->Option (List (Blk E))
 | _,[]=>some []
 | i,b::bs=>match keepHeap p (i+1) bs with
   | some r=>match p.lookup i,b with
     | some ks,.cells cs=>match keepCells ks cs with
       | some cs' => some (.cells cs' :: r)
       | none=>none
     | some _,.iter s q=>some (.iter s q::r)
     | some _,.mp kt vt m=>some (.mp kt vt m::r)
     | some _,.gone=>none
     | some _,.rw .. => none
     | none,_=>some (.gone::r)
   | none=>none
def Plan.pairs (p:Plan N) (σ:St E):List (Tok×Option Tok):=
 p.tmps.flatMap (fun (x:Nat×Keep N)=>match σ.get x.1 with | .one c=>x.2.pair c | _=>[]) ++
 (p.boxes.flatMap (fun (x:Nat×List (Keep N))=>match (σ.heap[x.1]? : Option (Blk E)) with | some (Blk.cells cs)=>(List.zipWith Keep.pair x.2 cs).flatten | _=>[]) ++
 p.outs.flatMap (fun (x:Nat×Keep N)=>match σ.out.getD x.1 (.one .dead) with | .one c=>x.2.pair c | _=>[]))
def hasTok (k:Tok):List Tok->Bool
 | []=>false
 | q::qs=>Tok.eq q k||hasTok k qs
def nodup:List Tok->Bool
 | []=>true
 | k::ks => !hasTok k ks&&nodup ks
def olds:List (Tok×Option Tok)->List Tok
 | []=>[]
 | (_,some k)::r=>k::olds r
 | (_,none)::r=>olds r
def Sc.sites:Sc E->List Nat
 | .ptr s _=>[s]
 | _=>[]
def Cell.sites:Cell E->List Nat
 | .ptr s _=>[s]
 | .mp s=>[s]
 | .fn _ a b=>a.flatMap Sc.sites++b.flatMap Sc.sites
 | _=>[]
def St.closed (σ:St E) (live:List Nat):Bool:=
 σ.tmps.all (fun h=>match h with
  | .one c=>c.sites.all live.contains
  | .agg cs=>cs.all fun c=>c.sites.all live.contains
  | .tup _=>false) &&
 σ.out.all (fun h=>match h with
  | .one c=>c.sites.all live.contains
  | .agg cs=>cs.all fun c=>c.sites.all live.contains
  | .tup _=>false) &&
 σ.heap.all fun b=>match b with
  | .gone=>true
  | .iter _ _=>true
  | .mp _ _ _=>true
  | .rw .. => true
  | .cells cs=>cs.all fun c=>c.sites.all live.contains
def Plan.app (C:Ctx E) (p:Plan N) (σ:St E):Option (St E):=
 match keepTmps p.tmps 0 σ.tmps,keepHeap p.boxes 0 σ.heap,keepTmps p.outs 0 σ.out with
 | some ts,some bs,some os=>match nodup (olds (p.pairs σ))&&nodup ((p.pairs σ).map (·.1))&&(p.pairs σ).all (fun x=>(C.ti x.1.2.2).isSome&&(match x.2 with | some k=>Nat.beq k.2.2 x.1.2.2 | none=>true))&&({σ with tmps:=ts,heap:=bs,out:=os} : St E).closed (p.boxes.map (·.1)) with
   | true=>some {σ with tmps:=ts,heap:=bs,out:=os,mrk:=σ.mrk||p.mrk}
   | false=>none
 | _,_,_=>none
def cls (C:Ctx E) (o:Oper):Nat:=match o.op,o.dst with
 | .move _,some d=>match C.frzAt.contains d with
   | true=>3
   | false=>0
 | .binOp _ _ _ (.const (.slice none 0 0)) _,_=>3
 | .load ..,some d=>match C.frzAt.contains d with
   | true=>3
   | false=>0
 | .indexAddr ..,some d=>match C.rowAt.contains d with
   | true=>3
   | false=>0
 | .assign _,some _ | .pick ..,some _ | .binOp ..,some _ | .unOp ..,some _ | .fieldAddr ..,some _ | .index ..,some _
 | .convert ..,some _ | .slice ..,some _ | .extract ..,some _ | .nilCheck _,some _ | .build ..,some _=>0
 | .buildSlice ..,some d=>match C.rowAt.contains d with
   | true=>3
   | false=>1
 | .call c,some d=>match c.callee with
   | .builtin .len=>0
   | .builtin .append=>match C.rowAt.contains d with
     | true=>3
     | false=>2
   | .value (.func f)=>match C.sig f with
     | some _=>match C.rowAt.contains d with
       | true=>3
       | false=>1
     | none=>3
   | _=>3
 | _,_=>3
def tmpsOf (ops:Array Oper) (o:Oper):List Nat:=
 (o.op.operands.toList.filterMap fun | .tmp t=>some t | _=>none) ++
 (match o.guard with
  | some (g,_)=>((ops[g]?).bind (·.dst)).toList
  | none=>[])
def ordered (ops:Array Oper):Nat->Nat->Nat->Bool
 | 0,_,_=>false
 | fuel+1,i,j=>match ops[j]? with
   | some o=>o.after.toList.any fun e=>Region.binds .any e&&(Nat.beq e.on i||ordered ops fuel i e.on)
   | none=>false
def swaps (C:Ctx E) (ops:Array Oper) (o o' : Oper):Bool:=
 Nat.ble (cls C o) 2&&Nat.ble (cls C o') 2 && !(Nat.beq (cls C o) 2&&Nat.beq (cls C o') 2) &&
 (match o.dst,o'.dst with
  | some d,some d' => !Nat.beq d d' && !(tmpsOf ops o').contains d && !(tmpsOf ops o).contains d'
  | _,_=>false)
def late (C:Ctx E) (ops:Array Oper) (i:Nat):Bool:=(List.range (i+1)).any fun q=>match ops[q]? with
 | some o => !Nat.ble (cls C o) 2
 | none=>false
def drawOk (C:Ctx E) (ops:Array Oper):Bool:=
 (List.range ops.size).all fun j=>match ops[j]? with
  | some o=>(o.after.toList.all fun e => !Region.binds .any e||Nat.blt e.on j) &&
    (List.range j).all fun i=>match ops[i]? with
     | some o' => (match o.dst,o'.dst with
       | some d,some d' => !Nat.beq d d'
       | _,_=>true)&&(ordered ops ops.size i j||(!late C ops j&&swaps C ops o' o))
     | none=>true
  | none=>true
def freshD (σ:St E) (ops:Array Oper):Bool:=
 ops.toList.all fun o=>match o.dst with
  | some d => !σ.hasD (σ.off+d)
  | none=>true
inductive Out where
 | normal | exit (id:Nat) | ret
def nplans:Code->Nat
 | .seq a b=>nplans a+(nplans b+1)
 | .cond _ a b=>nplans a+nplans b
 | .block _ a=>nplans a
 | .scope a=>nplans a
 | .loop a=>nplans a+1
 | .rangeFunc _ _ a b=>nplans a+nplans b+1
 | _=>0
noncomputable def cut (C:Ctx E) (p:Option (Plan N)) (σ:St E) (K:St E->Option β):Option β:=
 match p with
 | none=>K σ
 | some p=>match p.app C σ with
   | some σ' => K σ'
   | none=>none
abbrev Cont (E:Env N) (β:Type):=Out->St E->Option β
noncomputable def kSeq (C:Ctx E) (p:Option (Plan N)) (z f:St E->Option β) (K:Cont E β):Cont E β:=fun e σ=>match e with
 | .normal=>match p with
   | none=>f σ
   | some p=>cut C (some p) σ z
 | .exit id=>K (.exit id) σ
 | .ret=>K .ret σ
noncomputable def kLoop (C:Ctx E) (p:Option (Plan N)) (z:St E->Option β) (K:Cont E β):Cont E β:=fun e σ=>match e with
 | .normal=>cut C p σ z
 | .exit id=>K (.exit id) σ
 | .ret=>K .ret σ
def kBlock (id:Nat) (K:Cont E β):Cont E β:=fun e σ=>match e with
 | .normal=>K .normal σ
 | .exit id' => match Nat.beq id' id with
   | true=>K .normal σ
   | false=>K (.exit id') σ
 | .ret=>K .ret σ
def frozen (σ:St E) (ss:List Nat) (s:Nat):Option (List (TV E)):=match ss.contains s with
 | true=>match σ.heap[s]? with
   | some (.cells cs)=>leafL cs
   | _=>none
 | false=>none
def Sc.freeze (σ:St E) (ss:List Nat):Sc E->Option (Sc E)
 | .ptr s o=>match ss.contains s with
   | true=>match frozen σ ss s with
     | some ls=>match Nat.ble o ls.length with
       | true=>some (.fptr (ls.drop o))
       | false=>none
     | none=>none
   | false=>some (.ptr s o)
 | c=>some c
def freezeScs (σ:St E) (ss:List Nat):List (Sc E)->Option (List (Sc E))
 | []=>some []
 | c::cs=>match c.freeze σ ss,freezeScs σ ss cs with
   | some x,some xs=>some (x::xs)
   | _,_=>none
def Cell.freeze (σ:St E) (ss:List Nat):Cell E->Cell E
 | .ptr s o=>match ss.contains s with
   | true=>match frozen σ ss s with
     | some ls=>match Nat.ble o ls.length with
       | true => .fptr (ls.drop o)
       | false => .dead
     | none => .dead
   | false => .ptr s o
 | .mp s=>match ss.contains s with
   | true => .dead
   | false => .mp s
 | .fn f us vs=>match freezeScs σ ss us,freezeScs σ ss vs with
   | some us,some vs => .fn f us vs
   | _,_ => .dead
 | c=>c
def Hold.freeze (σ:St E) (ss:List Nat):Hold E->Hold E
 | .one c => .one (c.freeze σ ss)
 | .agg cs => .agg (cs.map (·.freeze σ ss))
 | .tup vs => .tup (vs.map fun v=>(v.1,v.2.map (·.freeze σ ss)))
def freezeHeap (σ:St E) (ss:List Nat):Nat->List (Blk E)->List (Blk E)
 | _,[]=>[]
 | i,b::bs=>(match ss.contains i with
   | true => .gone
   | false=>match b with
     | .cells cs => .cells (cs.map (·.freeze σ ss))
     | b=>b)::freezeHeap σ ss (i+1) bs
def St.freeze (σ:St E) (ss:List Nat):St E := {σ with tmps:=σ.tmps.map (·.freeze σ ss),heap:=freezeHeap σ ss 0 σ.heap,out:=σ.out.map (·.freeze σ ss)}
def Cell.ptrs:Cell E->List Nat
 | .ptr s _=>[s]
 | .fn _ us vs=>us.flatMap Sc.sites++vs.flatMap Sc.sites
 | _=>[]
def caps (sh:List Nat) (scs:List (Sc E)):Option (List (TV E)):=match sh,scs with
 | [],[]=>some []
 | n::sh,.fptr ls::scs=>match Nat.beq ls.length n,caps sh scs with
   | true,some r=>some (ls++r)
   | _,_=>none
 | _,_=>none
noncomputable def lcase {α γ:Type} (xs:List α) (a:γ) (f:α->List α->γ):γ:=match xs with
 | []=>a
 | x::xs=>f x xs
noncomputable def enterX (C:Ctx E) (σ:St E) (g:Operand) (K:St E->Option β):Option β:=match σ.ev g with
 | .one (.fn (.func f) [] vs)=>match C.it f,freezeScs σ (vs.flatMap Sc.sites) vs,Nat.beq σ.tmps.length C.nt with
   | some I,some scs,true=>match caps I.shape scs with
     | some ls=>match packTup I.cts ls with
       | some y=>(I.fn y).bind fun xs=>K {σ.freeze (vs.flatMap Sc.sites) with its:=⟨I.ts,xs⟩::σ.its,mrk:=true}
       | none=>none
     | none=>none
   | _,_,_=>none
 | _=>none
def argHs:(ts:List (Ty N))->Tup E.Γ ts->List (Hold E)
 | [],_=>[]
 | [t],x=>[valH t x]
 | t::u::ts,(x,y)=>valH t x::argHs (u::ts) y
def setPs (tmps:List (Hold E)):List Nat->List (Hold E)->List (Hold E)
 | p::ps,h::hs=>setPs (tmps.set p h) ps hs
 | _,_=>tmps
def St.back (σ:St E) (n off:Nat) (mk:Bool):St E := {σ with tmps:=σ.out.take n,out:=σ.out.drop n,off:=off,mrk:=mk}
def kBack (n off:Nat) (mk:Bool) (K:Cont E β):Cont E β:=fun e σ=>K e (σ.back n off mk)
def kAssign (f:St E->Option β):Cont E β:=fun e σ=>match e with
 | .normal=>f σ
 | .exit _=>none
 | .ret=>none
def St.round (σ:St E) (ps:List Nat) {ts:List (Ty N)} (x:Tup E.Γ ts):St E := {σ with tmps:=setPs σ.tmps ps (argHs ts x),out:=σ.tmps++σ.out,mrk:=false}
noncomputable def roundX (nt:Nat) (ps:List Nat) (ats bs:St E->Cont E β->Option β) (K:Cont E β) (σ:St E) (K' : Cont E β):Option β:=match σ.its with
 | []=>none
 | ⟨ts,xs⟩::r=>match Nat.beq ps.length ts.length with
   | true=>lcase xs (K .normal {σ with its:=r}) fun x xs=>
     ats (({σ with its:=⟨ts,xs⟩::r} : St E).round ps x) (kAssign fun σ' => bs σ' (kBack nt 0 true K'))
   | false=>none
def kPop (K:Cont E β):Cont E β:=fun e σ=>match e with
 | .normal=>K .normal σ
 | .exit id=>K (.exit id) {σ with its:=σ.its.tail}
 | .ret=>K .ret {σ with its:=σ.its.tail}
def resH (C:Ctx E) (σ:St E):List ResultVar->Option (List (Hold E))
 | []=>some []
 | .tmp t::r=>match resH C σ r with
   | some hs=>some (σ.get t::hs)
   | none=>none
 | .cell a t::r=>match resH C σ r,C.ti t,σ.get a with
   | some hs,some ti,.one (.ptr s o)=>match σ.heap[s]? with
     | some (.cells cs)=>(loadC ti cs o some).map (· :: hs)
     | _=>none
   | _,_,_=>none
def start (S:List (Hold E)) (n m:Nat):St E := {tmps:=S++List.replicate (n - S.length) (.one .dead),heap:=List.replicate m .gone}
structure Inl (N:Type) where
 off:Nat
 ntmps:Nat
 body:Code
 res:List ResultVar
 plans:List (Option (Plan N))
def Hold.part:Hold E->Option (Bool×List (Cell E))
 | .one c=>some (false,[c])
 | .agg cs=>some (true,cs)
 | .tup _=>none
def parts:List (Hold E)->Option (List (Bool×List (Cell E)))
 | []=>some []
 | h::hs=>match h.part,parts hs with
   | some x,some xs=>some (x::xs)
   | _,_=>none
def together:List (Hold E)->Option (Hold E)
 | [h]=>some h
 | hs=>match parts hs with
   | some vs=>some (.tup vs)
   | none=>none
def kCall (C:Ctx E) (res:List ResultVar) (n off:Nat) (mk:Bool) (d:Option Nat) (K:St E->Option β):Cont E β:=fun e σ=>match e with
 | .exit _=>none
 | .normal=>match resH C σ res with
   | some hs=>match together hs with
     | some h=>K ((σ.back n off mk).put d h)
     | none=>none
   | none=>none
 | .ret=>match resH C σ res with
   | some hs=>match together hs with
     | some h=>K ((σ.back n off mk).put d h)
     | none=>none
   | none=>none
def St.enter (σ:St E) (I:Inl N) (args:List (Hold E)):St E := {σ with tmps:=args++List.replicate (I.ntmps - args.length) (.one .dead),out:=σ.tmps++σ.out,off:=I.off,mrk:=false}
def Hold.ptrs:Hold E->List Nat
 | .one (.ptr s _)=>[s]
 | _=>[]
def callR (S:Sig E) (σ:St E) (d:Option Nat) (args:List (Hold E)) (K:St E->Option β):Option β:=
 match packArgs S.ps (args.map (·.freeze σ (args.flatMap Hold.ptrs))),(σ.freeze (args.flatMap Hold.ptrs)).hasD (σ.off+d.getD 0) with
 | some x,false=>(S.fn x).bind fun r=>K ((σ.freeze (args.flatMap Hold.ptrs)).put d (viewRes (σ.off+d.getD 0) S.rs S.ex r))
 | _,_=>none
def noX:Ext E β:=⟨fun _ _ _ _ _=>none⟩
def kRet (C:Ctx E) (res:List ResultVar) (rs:List (Ty N)) (ex:List (Option Nat)):Cont E (Tup E.Γ rs):=fun e σ=>match e with
 | .exit _=>none
 | .normal=>match resH C σ res with
   | some hs=>packRes rs ex hs
   | none=>none
 | .ret=>match resH C σ res with
   | some hs=>packRes rs ex hs
   | none=>none
inductive Dir where
 | l | r | a | b | k | L | s
 | c (i f n off:Nat) (mrk:Bool)
abbrev ZC (E:Env N) (β:Type):=Nat->Nat->Nat->Bool->List Dir->St E->Option β
def zc (Z:List Dir->St E->Option β) (i:Nat):ZC E β:=fun f n off mrk p=>Z (.c i f n off mrk::p)
noncomputable def runZ (C:Ctx E) (Y:ZC E β->Ext E β):(List Dir->St E->Option β)->Code->List (Option (Plan N))->St E->Cont E β->Option β
 | Z,.skip,_,σ,K=>K .normal σ
 | Z,.region _ ops draw,_,σ,K=>match draw with
   | false=>runOps C (fun i=>Y (zc Z i)) ops (List.range ops.size) σ (K .normal)
   | true=>match drawOk C ops&&freshD σ ops with
     | true=>runOps C (fun i=>Y (zc Z i)) ops (List.range ops.size) σ (K .normal)
     | false=>none
 | Z,.seq a b,ps,σ,K=>runZ C Y (fun p=>Z (.l::p)) a (ps.take (nplans a)) σ (kSeq C (ps.drop (nplans a)).head?.join (Z []) (fun σ' => runZ C Y (fun p=>Z (.r::p)) b (ps.drop (nplans a+1)) σ' K) K)
 | Z,.cond c a b,ps,σ,K=>match σ.ev c with
   | .one (.tv (.bool t))=>cond t (runZ C Y (fun p=>Z (.a::p)) a (ps.take (nplans a)) σ K) (runZ C Y (fun p=>Z (.b::p)) b (ps.drop (nplans a)) σ K)
   | _=>none
 | Z,.block id a,ps,σ,K=>runZ C Y (fun p=>Z (.k::p)) a ps σ (kBlock id K)
 | Z,.scope a,ps,σ,K=>runZ C Y (fun p=>Z (.k::p)) a ps σ K
 | Z,.label _,_,σ,K=>K .normal σ
 | Z,.loop a,ps,σ,K=>cut C ps.head?.join σ (Z [])
 | Z,.rangeFunc g pa a b,ps,σ,K=>enterX C σ g fun σ1=>cut C ps.head?.join σ1 (Z [])
 | Z,.exit id,_,σ,K=>K (.exit id) σ
 | Z,.ret,_,σ,K=>K .ret σ
 | _,_,_,_,_=>none
structure Hd {N:Type} (E:Env N) (β:Type) where
 inl:Nat->Nat->FuncId->Option (Inl N)
 rsig:FuncId->Option (Sig E)
 yl:Nat->List (Hold E)->(Bool->Option β)->Option β
 X0:Ext E β
noncomputable def extZ (C:Ctx E) (H:Hd E β):Nat->ZC E β->Ext E β
 | 0,_=>H.X0
 | k+1,Z=>⟨fun σ d c args K=>match c with
   | .fn (.func f) us vs=>match H.rsig f with
     | some S=>callR S σ d (us.map (fun x => .one x.cell)++args++vs.map (fun x => .one x.cell)) K
     | none=>match H.inl σ.off (d.getD 0) f with
       | some I=>runZ C (extZ C H k) (Z f σ.tmps.length σ.off σ.mrk) I.body I.plans (σ.enter I (us.map (fun x => .one x.cell)++args++vs.map (fun x => .one x.cell))) (kCall C I.res σ.tmps.length σ.off σ.mrk d K)
       | none=>H.X0.call σ d (.fn (.func f) us vs) args K
   | .tv (.spec i)=>H.yl i args fun b=>K (σ.put d (.one (.tv (.bool b))))
   | c=>H.X0.call σ d c args K⟩
def inlAt (H:Hd E β) (ops:Array Oper) (i f off:Nat):Option (Oper×Inl N):=match ops[i]? with
 | some o=>match H.rsig f,H.inl off (o.dst.getD 0) f with
   | none,some I=>some (o,I)
   | _,_=>none
 | none=>none
def rest (ops:Array Oper) (i:Nat):List Nat:=(List.range ops.size).drop (i+1)
noncomputable def seg (C:Ctx E) (H:Hd E β):Nat->(List Dir->St E->Option β)->Code->List (Option (Plan N))->Cont E β->List Dir->St E->Option β
 | k,Z,.seq a b,ps,K,[]=>fun σ=>runZ C (extZ C H k) (fun p=>Z (.r::p)) b (ps.drop (nplans a+1)) σ K
 | k,Z,.loop a,ps,K,[]=>fun σ=>runZ C (extZ C H k) (fun p=>Z (.L::p)) a ps.tail σ (kLoop C ps.head?.join (Z []) K)
 | k,Z,.rangeFunc g pa a b,ps,K,[]=>fun σ=>roundX C.nt pa.toList (fun σ' K' => runZ C (extZ C H k) (fun p=>Z (.s::p)) a (ps.tail.take (nplans a)) σ' K') (fun σ' K' => runZ C (extZ C H k) (fun p=>Z (.L::p)) b (ps.tail.drop (nplans a)) σ' K') K σ (kLoop C ps.head?.join (Z []) (kPop K))
 | k,Z,.rangeFunc g pa a b,ps,K,.s::p=>seg C H k (fun p=>Z (.s::p)) a (ps.tail.take (nplans a)) (kAssign fun σ' => runZ C (extZ C H k) (fun p=>Z (.L::p)) b (ps.tail.drop (nplans a)) σ' (kBack C.nt 0 true (kLoop C ps.head?.join (Z []) (kPop K)))) p
 | k,Z,.rangeFunc g pa a b,ps,K,.L::p=>seg C H k (fun p=>Z (.L::p)) b (ps.tail.drop (nplans a)) (kBack C.nt 0 true (kLoop C ps.head?.join (Z []) (kPop K))) p
 | k,Z,.seq a b,ps,K,.l::p=>seg C H k (fun p=>Z (.l::p)) a (ps.take (nplans a)) (kSeq C (ps.drop (nplans a)).head?.join (Z []) (fun σ' => runZ C (extZ C H k) (fun p=>Z (.r::p)) b (ps.drop (nplans a+1)) σ' K) K) p
 | k,Z,.seq a b,ps,K,.r::p=>seg C H k (fun p=>Z (.r::p)) b (ps.drop (nplans a+1)) K p
 | k,Z,.cond _ a _,ps,K,.a::p=>seg C H k (fun p=>Z (.a::p)) a (ps.take (nplans a)) K p
 | k,Z,.cond _ a b,ps,K,.b::p=>seg C H k (fun p=>Z (.b::p)) b (ps.drop (nplans a)) K p
 | k,Z,.block id a,ps,K,.k::p=>seg C H k (fun p=>Z (.k::p)) a ps (kBlock id K) p
 | k,Z,.scope a,ps,K,.k::p=>seg C H k (fun p=>Z (.k::p)) a ps K p
 | k,Z,.loop a,ps,K,.L::p=>seg C H k (fun p=>Z (.L::p)) a ps.tail (kLoop C ps.head?.join (Z []) K) p
 | k+1,Z,.region _ ops _,ps,K,.c i f n off mrk::p=>match inlAt H ops i f off with
   | some (o,I)=>seg C H k (zc Z i f n off mrk) I.body I.plans (kCall C I.res n off mrk o.dst fun σ' => runOps C (fun q=>extZ C H (k+1) (zc Z q)) ops (rest ops i) σ' (K .normal)) p
   | none=>fun _=>none
 | _,_,_,_,_,_=>fun _=>none
noncomputable def Dz (C:Ctx E) (H:Hd E β) (d:Nat) (body:Code) (plans:List (Option (Plan N))) (K:Cont E β):Nat->List Dir->St E->Option β
 | 0=>fun _ _=>none
 | k+1=>seg C H d (Dz C H d body plans K k) body plans K
end
end Go.Ai

namespace Go.Ai
open Go.RowKit
section
variable {N:Type} [DecidableEq N] {E:Env N}
abbrev Fz:=Nat->Nat->Prop
inductive Rep (w:World) (F:Fz):TV E->Value->Prop
 | int (k:IntKind) (n:Int):Rep w F (.int k n) (.int k n)
 | bool (b:Bool):Rep w F (.bool b) (.bool b)
 | str (s:ByteArray):Rep w F (.str s.data.toList) (.string s)
 | val (v:Value) (h:v.oneCell' = true):Rep w F (.val v) v
 | sl (t:Ty N) (xs:List (den E.Γ t)) (a:Option Addr) (cap:Nat) (vs:Nat->Nat->Value) (hcap:xs.length<=cap) (hnil:a=none->cap=0)
   (hspot:∀ ad,a=some ad->xs≠[]->ad.spot=none)
   (hc:∀ ad,a=some ad -> ∀ (i:Nat) (x:den E.Γ t) (c:Nat) (l:TV E),xs[i]? = some x->(leaves (E:=E) t x)[c]? = some l ->
    F ad.block (ad.off+(i*t.size E+c))/\w.cell? ⟨ad.block,ad.off+(i*t.size E+c),none⟩=some (vs i c))
   (hr:∀ (i:Nat) (x:den E.Γ t) (c:Nat) (l:TV E),xs[i]? = some x->(leaves (E:=E) t x)[c]? = some l->Rep w F l (vs i c)) :
   Rep w F (.sl t xs) (.slice a xs.length cap)
 | ref (n:N) (x:E.Γ n) (b o:Nat) (vs:Nat->Value) (hc:∀ (c:Nat) (l:TV E),(viewTup (E.fl n) (E.un n x))[c]? = some l->F b (o+c)/\w.cell? ⟨b,o+c,none⟩=some (vs c))
   (hr:∀ (c:Nat) (l:TV E),(viewTup (E.fl n) (E.un n x))[c]? = some l->Rep w F l (vs c)):Rep w F (.ref n x) (.pointer (some ⟨b,o,none⟩))
 | spec (i:Nat) (h:(E.fv i).oneCell' = true):Rep w F (.spec i) (E.fv i)
def Agree (F:Fz) (w w' : World):Prop := ∀ b o v,F b o->w.cell? ⟨b,o,none⟩=some v->w'.cell? ⟨b,o,none⟩=some v
structure Fx where
 c:Fz
 fn:Nat->Prop
theorem Rep.mono {w w' : World} {F F' : Fz} (hF:∀ b o,F b o->F' b o) (hw:Agree F w w') {x:TV E} {v:Value} (h:Rep w F x v):Rep w' F' x v:=by
 induction h with
 | int k n=>exact .int k n
 | bool b=>exact .bool b
 | str s=>exact .str s
 | val v h=>exact .val v h
 | sl t xs a cap vs hcap hnil hspot hc hr ih=>
   exact .sl t xs a cap vs hcap hnil hspot (fun ad ha i x c l hx hl=>⟨hF _ _ (hc ad ha i x c l hx hl).1,hw _ _ _ (hc ad ha i x c l hx hl).1 (hc ad ha i x c l hx hl).2⟩) ih
 | ref n x b o vs hc hr ih=>exact .ref n x b o vs (fun c l hl=>⟨hF _ _ (hc c l hl).1,hw _ _ _ (hc c l hl).1 (hc c l hl).2⟩) ih
 | spec i h=>exact .spec i h
theorem Rep.oneCell {w:World} {F:Fz} {x:TV E} {v:Value} (h:Rep w F x v):v.oneCell' = true:=by
 cases h <;> first | rfl | assumption
theorem Agree.refl (F:Fz) (w:World):Agree F w w:=fun _ _ _ _ h=>h
theorem Agree.trans {F:Fz} {a b c:World} (h:Agree F a b) (h' : Agree F b c):Agree F a c:=fun x o v hf hc=>h' x o v hf (h x o v hf hc)
theorem Agree.mono {F F' : Fz} {a b:World} (h:Agree F a b) (hF:∀ b o,F' b o->F b o):Agree F' a b:=fun x o v hf=>h x o v (hF x o hf)
theorem size_leaves (t:Ty N) (x:den E.Γ t):(leaves (E:=E) t x).length=t.size E:=by
 have key:∀ (ts:List (Ty N)) (y:Tup E.Γ ts),(viewTup (E:=E) ts y).length=ts.length:=by
  intro ts
  induction ts with
  | nil=>intro y; rfl
  | cons t ts ih=>
    intro y
    cases ts with
    | nil=>rfl
    | cons u us=>
      obtain ⟨y1,y2⟩:=y
      show (tvOf t y1::viewTup (u::us) y2).length=_
      rw [List.length_cons,ih]; rfl
 cases t <;> first | rfl | exact key _ _
theorem size_pos (t:Ty N):0<t.size E:=by
 cases t <;> first | exact Nat.zero_lt_one | exact E.pos _
theorem Rep.pack {w:World} {F:Fz} {t:Ty N} {x:TV E} {y:den E.Γ t} {v:Value} (h:packTV t x=some y) (hr:Rep w F x v):Rep w F (tvOf t y) v:=by
 unfold packTV at h
 split at h
 ·rename_i k k' n
  by_cases e:k' = k
  ·subst e; rw [if_pos rfl] at h; cases h; exact hr
  ·rw [if_neg e] at h; cases h
 ·cases h; exact hr
 ·cases h; exact hr
 ·rename_i t t' xs
  by_cases e:t' = t
  ·subst e; rw [dif_pos rfl] at h; cases h; exact hr
  ·rw [dif_neg e] at h; cases h
 ·cases h
  cases hr
  exact Rep.sl _ [] none 0 (fun _ _=>default) (Nat.le_refl _) (fun _=>rfl) (fun ad h _=>by cases h) (fun ad h=>by cases h) (fun i x c l hx=>by simp at hx)
 ·rename_i n n' x
  by_cases e:n' = n
  ·subst e; rw [dif_pos rfl] at h; cases h; exact hr
  ·rw [dif_neg e] at h; cases h
 ·cases h
def TReps (w:World) (F:Fz):List (TV E)->List Value->Prop
 | [],[]=>True
 | x::xs,v::vs=>Rep w F x v/\TReps w F xs vs
 | _,_=>False
theorem TReps.len {w:World} {F:Fz} : ∀ {xs:List (TV E)} {vs:List Value},TReps w F xs vs->xs.length=vs.length
 | [],[],_=>rfl
 | _::_,_::_,h=>by simp [TReps.len h.2]
 | [],_::_,h=>h.elim
 | _::_,[],h=>h.elim
theorem TReps.get {w:World} {F:Fz} : ∀ {xs:List (TV E)} {vs:List Value},TReps w F xs vs -> ∀ (i:Nat) (x:TV E),xs[i]? = some x -> ∃ v,vs[i]? = some v/\Rep w F x v
 | [],_,_,i,x,h=>by simp at h
 | x::xs,v::vs,h,0,y,e=>by simp at e; subst e; exact ⟨v,rfl,h.1⟩
 | x::xs,v::vs,h,i+1,y,e=>by simpa using TReps.get h.2 i y (by simpa using e)
 | _::_,[],h,_,_,_=>h.elim
theorem TReps.of_get {w:World} {F:Fz} : ∀ {xs:List (TV E)} {vs:List Value},xs.length=vs.length->(∀ (i:Nat) (x:TV E) (v:Value),xs[i]? = some x->vs[i]? = some v->Rep w F x v)->TReps w F xs vs
 | [],[],_,_=>trivial
 | x::xs,v::vs,hl,h=>⟨h 0 x v rfl rfl,TReps.of_get (by simpa using hl) fun i x v hx hv=>h (i+1) x v (by simpa using hx) (by simpa using hv)⟩
 | [],_::_,hl,_=>by simp at hl
 | _::_,[],hl,_=>by simp at hl
theorem TReps.mono {w w' : World} {F F' : Fz} (hF:∀ b o,F b o->F' b o) (hw:Agree F w w'):∀ {xs:List (TV E)} {vs:List Value},TReps w F xs vs->TReps w' F' xs vs
 | [],[],_=>trivial
 | _::_,_::_,h=>⟨h.1.mono hF hw,TReps.mono hF hw h.2⟩
 | [],_::_,h=>h.elim
 | _::_,[],h=>h.elim
theorem TReps.packTup {w:World} {F:Fz} : ∀ {ts:List (Ty N)} {xs:List (TV E)} {y:Tup E.Γ ts} {vs:List Value},packTup ts xs=some y->TReps w F xs vs->TReps w F (viewTup ts y) vs
 | [],[],y,vs,_,hr=>hr
 | [],_::_,y,vs,h,_=>by simp [Ai.packTup] at h
 | [t],[x],y,[v],h,hr=>⟨Rep.pack (by simpa [Ai.packTup] using h) hr.1,trivial⟩
 | [t],[x],y,[],h,hr=>hr.elim
 | [t],[x],y,_::_::_,h,hr=>hr.2.elim
 | [t],[],y,vs,h,_=>by simp [Ai.packTup] at h
 | [t],_::_::_,y,vs,h,_=>by simp [Ai.packTup] at h
 | t::u::ts,[],y,vs,h,_=>by simp [Ai.packTup] at h
 | t::u::ts,x::xs,y,[],h,hr=>hr.elim
 | t::u::ts,x::xs,y,v::vs,h,hr=>by
   simp only [Ai.packTup] at h
   split at h
   ·rename_i a b ha hb
    simp only [Option.some.injEq] at h
    subst h
    exact ⟨Rep.pack ha hr.1,TReps.packTup hb hr.2⟩
   ·exact absurd h (by simp)
theorem TReps.packEl {w:World} {F:Fz} {t:Ty N} {xs:List (TV E)} {y:den E.Γ t} {vs:List Value} (h:packEl t xs=some y) (hr:TReps w F xs vs):TReps w F (leaves t y) vs:=by
 cases t with
 | st n=>
   simp only [Ai.packEl] at h
   split at h
   ·rename_i x hx
    simp only [Option.some.injEq] at h
    subst h
    simp only [leaves,E.law]
    exact TReps.packTup hx hr
   ·exact absurd h (by simp)
 | int k=>
   cases xs with
   | nil=>simp [Ai.packEl] at h
   | cons x r=>cases r with
     | nil=>
       cases vs with
       | nil=>exact hr.elim
       | cons v vs=>cases vs with
         | nil=>exact ⟨Rep.pack (t := .int k) h hr.1,trivial⟩
         | cons _ _=>exact hr.2.elim
     | cons _ _=>simp [Ai.packEl] at h
 | bool=>
   cases xs with
   | nil=>simp [Ai.packEl] at h
   | cons x r=>cases r with
     | nil=>
       cases vs with
       | nil=>exact hr.elim
       | cons v vs=>cases vs with
         | nil=>exact ⟨Rep.pack (t := .bool) h hr.1,trivial⟩
         | cons _ _=>exact hr.2.elim
     | cons _ _=>simp [Ai.packEl] at h
 | str=>
   cases xs with
   | nil=>simp [Ai.packEl] at h
   | cons x r=>cases r with
     | nil=>
       cases vs with
       | nil=>exact hr.elim
       | cons v vs=>cases vs with
         | nil=>exact ⟨Rep.pack (t := .str) h hr.1,trivial⟩
         | cons _ _=>exact hr.2.elim
     | cons _ _=>simp [Ai.packEl] at h
 | sl t=>
   cases xs with
   | nil=>simp [Ai.packEl] at h
   | cons x r=>cases r with
     | nil=>
       cases vs with
       | nil=>exact hr.elim
       | cons v vs=>cases vs with
         | nil=>exact ⟨Rep.pack (t := .sl t) h hr.1,trivial⟩
         | cons _ _=>exact hr.2.elim
     | cons _ _=>simp [Ai.packEl] at h
 | ref n=>
   cases xs with
   | nil=>simp [Ai.packEl] at h
   | cons x r=>cases r with
     | nil=>
       cases vs with
       | nil=>exact hr.elim
       | cons v vs=>cases vs with
         | nil=>exact ⟨Rep.pack (t := .ref n) h hr.1,trivial⟩
         | cons _ _=>exact hr.2.elim
     | cons _ _=>simp [Ai.packEl] at h
theorem Rep.of_cells {w:World} {F:Fz} {n:N} {x:Tup E.Γ (E.fl n)} {b o:Nat} {vs:List Value} (hc:∀ (i:Nat) (u:Value),vs[i]? = some u->F b (o+i)/\w.cell? ⟨b,o+i,none⟩=some u) (hr:TReps w F (viewTup (E.fl n) x) vs) :
  Rep (E:=E) w F (.ref n (E.pk n x)) (.pointer (some ⟨b,o,none⟩)):=by
 refine Rep.ref n _ b o (fun c=>vs.getD c .nilFunc) (fun c l hl => ?_) (fun c l hl => ?_)
 ·rw [E.law] at hl
  obtain ⟨v,hv,_⟩:=hr.get c l hl
  obtain ⟨h1,h2⟩:=hc c v hv
  exact ⟨h1,by rw [h2,List.getD_eq_getElem?_getD,hv]; rfl⟩
 ·rw [E.law] at hl
  obtain ⟨v,hv,hrr⟩:=hr.get c l hl
  rw [List.getD_eq_getElem?_getD,hv]
  exact hrr
theorem Rep.to_cells {w:World} {F:Fz} {n:N} {x:E.Γ n} {v:Value} (h:Rep (E:=E) w F (.ref n x) v) :
  ∃ b o vs,v = .pointer (some ⟨b,o,none⟩)/\(∀ (i:Nat) (u:Value),vs[i]? = some u->F b (o+i)/\w.cell? ⟨b,o+i,none⟩=some u)/\TReps w F (viewTup (E.fl n) (E.un n x)) vs:=by
 cases h with
 | ref _ _ b o vs hc hr=>
   refine ⟨b,o,(List.range (viewTup (E.fl n) (E.un n x)).length).map vs,rfl,fun i u hu => ?_,TReps.of_get (by simp) fun i l u hl hu => ?_⟩
   ·rw [List.getElem?_map,Option.map_eq_some_iff] at hu
    obtain ⟨q,hq,rfl⟩:=hu
    have hlt:q<(viewTup (E.fl n) (E.un n x)).length:=List.mem_range.1 (List.mem_of_getElem? hq)
    have hqi:q=i:=by
     have:=List.getElem?_eq_some_iff.1 hq
     obtain ⟨h1,h2⟩:=this
     simpa using h2.symm
    subst hqi
    exact hc q _ (List.getElem?_eq_getElem hlt)
   ·have hlt:=(List.getElem?_eq_some_iff.1 hl).1
    rw [List.getElem?_map,List.getElem?_range hlt] at hu
    simp only [Option.map_some,Option.some.injEq] at hu
    subst hu
    exact hr i l hl
abbrev Sites:=Nat->Option Nat
abbrev Toks:=Tok->Option Value
def SRep (w:World) (j:Sites) (F:Fz):Sc E->Value->Prop
 | .tv x,v=>Rep w F x v
 | .ptr s o,v => ∃ b,j s=some b/\v = .pointer (some ⟨b,o,none⟩)
 | .fptr ls,v => ∃ b o vs,v = .pointer (some ⟨b,o,none⟩)/\(∀ (i:Nat) (u:Value),vs[i]? = some u->F b (o+i)/\w.cell? ⟨b,o+i,none⟩=some u)/\TReps w F ls vs
def SReps (w:World) (j:Sites) (F:Fz):List (Sc E)->List Value->Prop
 | [],[]=>True
 | x::xs,v::vs=>SRep w j F x v/\SReps w j F xs vs
 | _,_=>False
theorem SRep.mono {w w' : World} {j j' : Sites} {F F' : Fz} (hF:∀ b o,F b o->F' b o) (hw:Agree F w w') (hj:∀ s b,j s=some b->j' s=some b) {x:Sc E} {v:Value} (h:SRep w j F x v):SRep w' j' F' x v:=by
 cases x with
 | tv x=>exact Rep.mono hF hw h
 | ptr s o=>obtain ⟨b,h1,h2⟩:=h; exact ⟨b,hj _ _ h1,h2⟩
 | fptr ls=>obtain ⟨b,o,vs,h1,hc,hr⟩:=h; exact ⟨b,o,vs,h1,fun i u hu=>⟨hF _ _ (hc i u hu).1,hw _ _ _ (hc i u hu).1 (hc i u hu).2⟩,hr.mono hF hw⟩
theorem SReps.mono {w w' : World} {j j' : Sites} {F F' : Fz} (hF:∀ b o,F b o->F' b o) (hw:Agree F w w') (hj:∀ s b,j s=some b->j' s=some b):∀ {xs:List (Sc E)} {vs:List Value},SReps w j F xs vs->SReps w' j' F' xs vs
 | [],[],_=>trivial
 | _::_,_::_,h=>⟨h.1.mono hF hw hj,SReps.mono hF hw hj h.2⟩
 | [],_::_,h=>h.elim
 | _::_,[],h=>h.elim
def CRep (w:World) (j:Sites) (tk:Toks) (F:Fz):Cell E->Value->Prop
 | .tv x,v=>Rep w F x v
 | .tok k t xs,v=>Rep w F (.sl t xs) v/\tk k=some v
 | .full t xs,v => ∃ a,v = .slice a xs.length xs.length/\Rep w F (.sl t xs) v
 | .ptr s o,v => ∃ b,j s=some b/\v = .pointer (some ⟨b,o,none⟩)
 | .fptr ls,v => ∃ b o vs,v = .pointer (some ⟨b,o,none⟩)/\(∀ (i:Nat) (u:Value),vs[i]? = some u->F b (o+i)/\w.cell? ⟨b,o+i,none⟩=some u)/\TReps w F ls vs
 | .mp s,v => ∃ b,j s=some b/\v = .map (some b)
 | .rw s e none,v=>tk (rkey s e)=some v
 | .rw s e (some (n,z)),v => ∃ g len cap,tk (rkey s e)=some (.slice (some ⟨g,0,none⟩) len cap)/\n<len/\v = .pointer (some ⟨g,n*z,none⟩)
 | .fn f first captured,v => ∃ us vs:List Value,v = .func f us.toArray vs.toArray/\SReps w j F first us/\SReps w j F captured vs
 | .dead,_=>True
theorem CRep.move {w w' : World} {j j' : Sites} {tk tk' : Toks} {F F' : Fz} (hF:∀ b o,F b o->F' b o) (hw:Agree F w w') (hj:∀ s b,j s=some b->j' s=some b)
  {c:Cell E} {v:Value} (ht:∀ k t xs,c = .tok k t xs->tk k=some v->tk' k=some v) (hr:∀ s e p u,c = .rw s e p->tk (rkey s e)=some u->tk' (rkey s e)=some u) (h:CRep w j tk F c v):CRep w' j' tk' F' c v:=by
 cases c with
 | tv x=>exact Rep.mono hF hw h
 | tok k t xs=>exact ⟨Rep.mono hF hw h.1,ht _ _ _ rfl h.2⟩
 | full t xs=>obtain ⟨a,h1,h2⟩:=h; exact ⟨a,h1,h2.mono hF hw⟩
 | ptr s o=>obtain ⟨b,h1,h2⟩:=h; exact ⟨b,hj _ _ h1,h2⟩
 | fptr ls=>obtain ⟨b,o,vs,h1,hc,hr⟩:=h; exact ⟨b,o,vs,h1,fun i u hu=>⟨hF _ _ (hc i u hu).1,hw _ _ _ (hc i u hu).1 (hc i u hu).2⟩,hr.mono hF hw⟩
 | fn f us vs=>obtain ⟨a,b,h1,h2,h3⟩:=h; exact ⟨a,b,h1,h2.mono hF hw hj,h3.mono hF hw hj⟩
 | mp s=>obtain ⟨b,h1,h2⟩:=h; exact ⟨b,hj _ _ h1,h2⟩
 | rw s e p=>cases p with
   | none=>exact hr s e _ _ rfl h
   | some q=>obtain ⟨g,len,cap,h1,h2,h3⟩:=h; exact ⟨g,len,cap,hr s e _ _ rfl h1,h2,h3⟩
 | dead=>trivial
theorem CRep.mono {w w' : World} {j j' : Sites} {tk tk' : Toks} {F F' : Fz} (hF:∀ b o,F b o->F' b o) (hw:Agree F w w') (hj:∀ s b,j s=some b->j' s=some b)
  (ht:∀ k v,tk k=some v->tk' k=some v) {c:Cell E} {v:Value} (h:CRep w j tk F c v):CRep w' j' tk' F' c v:=
 h.move hF hw hj (fun k _ _ _ hk=>ht k v hk) fun s e _ _ _ hk=>ht _ _ hk
theorem CRep.oneCell {w:World} {j:Sites} {tk:Toks} {F:Fz} {c:Cell E} {v:Value} (h:CRep w j tk F c v) (ha:c.alive=true):v.oneCell' = true:=by
 cases c with
 | tv x=>exact Rep.oneCell h
 | tok k t xs=>exact h.1.oneCell
 | full t xs=>obtain ⟨a,rfl,_⟩:=h; rfl
 | ptr s o=>obtain ⟨b,_,rfl⟩:=h; rfl
 | fptr ls=>obtain ⟨b,o,vs,rfl,_⟩:=h; rfl
 | fn f us vs=>obtain ⟨a,b,rfl,_⟩:=h; rfl
 | mp s=>obtain ⟨b,_,rfl⟩:=h; rfl
 | rw s e p=>cases ha
 | dead=>cases ha
theorem CRep.leaf {w:World} {j:Sites} {tk:Toks} {F:Fz} {c:Cell E} {v:Value} {x:TV E} (h:CRep w j tk F c v) (hl:c.leaf=some x):Rep w F x v:=by
 cases c with
 | tv x=>cases hl; exact h
 | tok k t xs=>cases hl; exact h.1
 | full t xs=>cases hl; obtain ⟨a,_,h2⟩:=h; exact h2
 | _=>cases hl
def LRep (w:World) (j:Sites) (tk:Toks) (F:Fz):List (Cell E)->List Value->Prop
 | [],[]=>True
 | c::cs,v::vs=>CRep w j tk F c v/\LRep w j tk F cs vs
 | _,_=>False
section
variable {w:World} {j:Sites} {tk:Toks} {F:Fz}
theorem LRep.len:∀ {cs:List (Cell E)} {vs:List Value},LRep w j tk F cs vs->cs.length=vs.length
 | [],[],_=>rfl
 | _::_,_::_,h=>by simp [LRep.len h.2]
 | [],_::_,h=>h.elim
 | _::_,[],h=>h.elim
theorem LRep.mono {w' : World} {j' : Sites} {tk' : Toks} {F' : Fz} (hF:∀ b o,F b o->F' b o) (hw:Agree F w w') (hj:∀ s b,j s=some b->j' s=some b)
  (ht:∀ k v,tk k=some v->tk' k=some v):∀ {cs:List (Cell E)} {vs:List Value},LRep w j tk F cs vs->LRep w' j' tk' F' cs vs
 | [],[],_=>trivial
 | _::_,_::_,h=>⟨h.1.mono hF hw hj ht,LRep.mono hF hw hj ht h.2⟩
 | [],_::_,h=>h.elim
 | _::_,[],h=>h.elim
theorem LRep.get:∀ {cs:List (Cell E)} {vs:List Value},LRep w j tk F cs vs -> ∀ (i:Nat) (c:Cell E),cs[i]? = some c -> ∃ v,vs[i]? = some v/\CRep w j tk F c v
 | [],_,_,i,x,h=>by simp at h
 | c::cs,v::vs,h,0,y,e=>by simp at e; subst e; exact ⟨v,rfl,h.1⟩
 | c::cs,v::vs,h,i+1,y,e=>by simpa using LRep.get h.2 i y (by simpa using e)
 | _::_,[],h,_,_,_=>h.elim
theorem LRep.of_get:∀ {cs:List (Cell E)} {vs:List Value},cs.length=vs.length->(∀ (i:Nat) (c:Cell E) (v:Value),cs[i]? = some c->vs[i]? = some v->CRep w j tk F c v)->LRep w j tk F cs vs
 | [],[],_,_=>trivial
 | x::xs,v::vs,hl,h=>⟨h 0 x v rfl rfl,LRep.of_get (by simpa using hl) fun i x v hx hv=>h (i+1) x v (by simpa using hx) (by simpa using hv)⟩
 | [],_::_,hl,_=>by simp at hl
 | _::_,[],hl,_=>by simp at hl
theorem LRep.append:∀ {cs ds:List (Cell E)} {vs us:List Value},LRep w j tk F cs vs->LRep w j tk F ds us->LRep w j tk F (cs++ds) (vs++us)
 | [],_,[],_,_,h=>h
 | _::_,_,_::_,_,h,h' => ⟨h.1,LRep.append h.2 h'⟩
 | [],_,_::_,_,h,_=>h.elim
 | _::_,_,[],_,h,_=>h.elim
theorem LRep.take (n:Nat):∀ {cs:List (Cell E)} {vs:List Value},LRep w j tk F cs vs->LRep w j tk F (cs.take n) (vs.take n):=by
 induction n with
 | zero=>intro cs vs _; exact trivial
 | succ n ih=>
   intro cs vs h
   match cs,vs,h with
   | [],[],_=>exact trivial
   | _::_,_::_,h=>exact ⟨h.1,ih h.2⟩
   | [],_::_,h=>exact h.elim
   | _::_,[],h=>exact h.elim
theorem LRep.drop (n:Nat):∀ {cs:List (Cell E)} {vs:List Value},LRep w j tk F cs vs->LRep w j tk F (cs.drop n) (vs.drop n):=by
 induction n with
 | zero=>intro cs vs h; exact h
 | succ n ih=>
   intro cs vs h
   match cs,vs,h with
   | [],[],_=>exact trivial
   | _::_,_::_,h=>exact ih h.2
   | [],_::_,h=>exact h.elim
   | _::_,[],h=>exact h.elim
theorem LRep.leafL:∀ {cs:List (Cell E)} {vs:List Value} {ls:List (TV E)},LRep w j tk F cs vs->Ai.leafL cs=some ls->TReps w F ls vs
 | [],[],ls,_,h=>by simp [Ai.leafL] at h; subst h; exact trivial
 | c::cs,v::vs,ls,hr,h=>by
   simp only [Ai.leafL] at h
   split at h
   ·rename_i a b ha hb
    simp only [Option.some.injEq] at h
    subst h
    exact ⟨hr.1.leaf ha,LRep.leafL hr.2 hb⟩
   ·exact absurd h (by simp)
 | [],_::_,_,h,_=>h.elim
 | _::_,[],_,h,_=>h.elim
theorem LRep.of_tvs:∀ {ls:List (TV E)} {vs:List Value},TReps w F ls vs->LRep w j tk F (ls.map .tv) vs
 | [],[],_=>trivial
 | _::_,_::_,h=>⟨h.1,LRep.of_tvs h.2⟩
 | [],_::_,h=>h.elim
 | _::_,[],h=>h.elim
theorem LRep.oneCell:∀ {cs:List (Cell E)} {vs:List Value},LRep w j tk F cs vs->cs.all Cell.alive=true -> ∀ v ∈ vs,v.oneCell' = true
 | [],[],_,_,_,h=>by simp at h
 | c::cs,v::vs,hr,ha,u,hu=>by
   simp only [List.all_cons,Bool.and_eq_true] at ha
   rcases List.mem_cons.1 hu with rfl | hu
   ·exact hr.1.oneCell ha.1
   ·exact LRep.oneCell hr.2 ha.2 u hu
 | [],_::_,h,_,_,_=>h.elim
 | _::_,[],h,_,_,_=>h.elim
end
def RowRep (w:World) (F:Fz) (τ:Ty N) (xs:List (den E.Γ τ)) (L:List Value):Prop:=
 L.length=xs.length*τ.size E /\ ∀ (i:Nat) (x:den E.Γ τ) (c:Nat) (l:TV E),xs[i]? = some x->(leaves τ x)[c]? = some l -> ∃ u,L[i*τ.size E+c]? = some u/\Rep w F l u
theorem RowRep.mono {w w' : World} {F F' : Fz} {τ:Ty N} {xs:List (den E.Γ τ)} {L:List Value} (hF:∀ b o,F b o->F' b o) (hw:Agree F w w') (h:RowRep w F τ xs L):RowRep w' F' τ xs L:=
 ⟨h.1,fun i x c l hx hl=>let ⟨u,h1,h2⟩:=h.2 i x c l hx hl; ⟨u,h1,h2.mono hF hw⟩⟩
def VRep (w:World) (j:Sites) (tk:Toks) (F:Fz):Bool×List (Cell E)->Value->Prop
 | (true,cs),v => ∃ vs:List Value,v = .agg vs.toArray/\LRep w j tk F cs vs
 | (false,cs),v => ∃ c,cs=[c]/\CRep w j tk F c v
def VReps (w:World) (j:Sites) (tk:Toks) (F:Fz):List (Bool×List (Cell E))->List Value->Prop
 | [],[]=>True
 | c::cs,v::vs=>VRep w j tk F c v/\VReps w j tk F cs vs
 | _,_=>False
def HRep (w:World) (j:Sites) (tk:Toks) (F:Fz):Hold E->Value->Prop
 | .one c,v=>CRep w j tk F c v
 | .agg cs,v => ∃ vs:List Value,v = .agg vs.toArray/\LRep w j tk F cs vs
 | .tup xs,v => ∃ vs:List Value,v = .tuple vs.toArray/\VReps w j tk F xs vs
section
variable {w w' : World} {j j' : Sites} {tk tk' : Toks} {F F' : Fz}
theorem VRep.mono (hF:∀ b o,F b o->F' b o) (hw:Agree F w w') (hj:∀ s b,j s=some b->j' s=some b) (ht:∀ k v,tk k=some v->tk' k=some v) :
  ∀ {x:Bool×List (Cell E)} {v:Value},VRep w j tk F x v->VRep w' j' tk' F' x v
 | (true,_),_,⟨vs,h1,h2⟩=>⟨vs,h1,h2.mono hF hw hj ht⟩
 | (false,_),_,⟨c,h1,h2⟩=>⟨c,h1,h2.mono hF hw hj ht⟩
theorem VReps.mono (hF:∀ b o,F b o->F' b o) (hw:Agree F w w') (hj:∀ s b,j s=some b->j' s=some b) (ht:∀ k v,tk k=some v->tk' k=some v) :
  ∀ {xs:List (Bool×List (Cell E))} {vs:List Value},VReps w j tk F xs vs->VReps w' j' tk' F' xs vs
 | [],[],_=>trivial
 | _::_,_::_,h=>⟨h.1.mono hF hw hj ht,VReps.mono hF hw hj ht h.2⟩
 | [],_::_,h=>h.elim
 | _::_,[],h=>h.elim
theorem VReps.get:∀ {xs:List (Bool×List (Cell E))} {vs:List Value},VReps w j tk F xs vs -> ∀ (i:Nat) (x:Bool×List (Cell E)),xs[i]? = some x -> ∃ v,vs[i]? = some v/\VRep w j tk F x v
 | [],_,_,i,x,h=>by simp at h
 | c::cs,v::vs,h,0,y,e=>by simp at e; subst e; exact ⟨v,rfl,h.1⟩
 | c::cs,v::vs,h,i+1,y,e=>by simpa using VReps.get h.2 i y (by simpa using e)
 | _::_,[],h,_,_,_=>h.elim
theorem VRep.hold {x:Bool×List (Cell E)} {v:Value} (h:VRep w j tk F x v):HRep w j tk F (holdV x) v:=by
 obtain ⟨b,cs⟩:=x
 cases b with
 | true=>exact h
 | false=>
   obtain ⟨c,h1,h2⟩:=h
   subst h1
   exact h2
theorem HRep.mono (hF:∀ b o,F b o->F' b o) (hw:Agree F w w') (hj:∀ s b,j s=some b->j' s=some b) (ht:∀ k v,tk k=some v->tk' k=some v) :
  ∀ {h:Hold E} {v:Value},HRep w j tk F h v->HRep w' j' tk' F' h v
 | .one _,_,h=>CRep.mono hF hw hj ht h
 | .agg _,_,⟨vs,h1,h2⟩=>⟨vs,h1,h2.mono hF hw hj ht⟩
 | .tup _,_,⟨vs,h1,h2⟩=>⟨vs,h1,h2.mono hF hw hj ht⟩
theorem CRep.fp {c:Cell E} {v:Value} (h:CRep w j tk F c v):CRep w j tk F c.fp v:=by
 unfold Cell.fp
 split
 ·exact Rep.to_cells h
 ·exact h
theorem HRep.fp {c:Hold E} {v:Value} (h:HRep w j tk F c v):HRep w j tk F c.fp v:=by
 cases c with
 | one c=>exact CRep.fp h
 | agg cs=>exact h
 | tup xs=>exact h
theorem HRep.packH {t:Ty N} {h:Hold E} {v:Value} {y:den E.Γ t} (hr:HRep w j tk F h v) (hp:packH t h=some y):HRep w j tk F (valH t y) v:=by
 cases h with
 | one c=>
   by_cases hfp:∃ ls,c = .fptr ls
   ·obtain ⟨ls,rfl⟩:=hfp
    simp only [Ai.packH] at hp
    split at hp
    ·rename_i n
     split at hp
     ·rename_i x hx
      cases hp
      obtain ⟨b,o,vs,rfl,hc,ht⟩:=hr
      exact Rep.of_cells hc (TReps.packTup hx ht)
     ·cases hp
    ·cases hp
   have hp' : (match t.one,c.leaf with
     | true,some x=>packTV t x
     | _,_=>none)=some y:=by
    cases c <;> first | exact hp | exact absurd ⟨_,rfl⟩ hfp
   split at hp'
   ·rename_i x h1 h2
    have hl:Rep w F x v:=CRep.leaf hr h2
    simp only [valH,h1]
    exact Rep.pack hp' hl
   ·exact absurd hp' (by simp)
 | agg cs=>
   simp only [Ai.packH] at hp
   split at hp
   ·rename_i ls h1 h2
    obtain ⟨vs,rfl,hL⟩:=hr
    simp only [valH,h1]
    exact ⟨vs,rfl,LRep.of_tvs (TReps.packEl hp (hL.leafL h2))⟩
   ·exact absurd hp (by simp)
 | tup xs=>simp [Ai.packH] at hp
theorem HRep.cells {h:Hold E} {v:Value} (hr:HRep w j tk F h v) (ha:h.cells.all Cell.alive=true) (hn:h.cells≠[]):LRep w j tk F h.cells v.cells.toList:=by
 cases h with
 | one c=>
   have h1:v.oneCell' = true:=CRep.oneCell hr (by simpa [Hold.cells] using ha)
   have:v.cells = #[v]:=by cases v <;> simp_all [Value.cells,Value.oneCell']
   rw [this]
   exact ⟨hr,trivial⟩
 | agg cs=>
   obtain ⟨vs,rfl,hL⟩:=hr
   exact hL
 | tup xs=>simp [Hold.cells] at hn
theorem CRep.oneCell2 (htk:∀ k v,tk k=some v->v.oneCell' = true) {c:Cell E} {v:Value} (h:CRep w j tk F c v) (ha:c.stor=true):v.oneCell' = true:=by
 cases c with
 | rw s e p=>cases p with
   | none=>exact htk _ _ h
   | some _=>cases ha
 | dead=>cases ha
 | _=>exact h.oneCell rfl
theorem LRep.oneCell2 (htk:∀ k v,tk k=some v->v.oneCell' = true):∀ {cs:List (Cell E)} {vs:List Value},LRep w j tk F cs vs->cs.all Cell.stor=true -> ∀ v ∈ vs,v.oneCell' = true
 | [],[],_,_,_,h=>by simp at h
 | c::cs,v::vs,hr,ha,u,hu=>by
   simp only [List.all_cons,Bool.and_eq_true] at ha
   rcases List.mem_cons.1 hu with rfl | hu
   ·exact hr.1.oneCell2 htk ha.1
   ·exact LRep.oneCell2 htk hr.2 ha.2 u hu
 | [],_::_,h,_,_,_=>h.elim
 | _::_,[],h,_,_,_=>h.elim
theorem HRep.cells2 (htk:∀ k v,tk k=some v->v.oneCell' = true) {h:Hold E} {v:Value} (hr:HRep w j tk F h v) (ha:h.cells.all Cell.stor=true) (hn:h.cells≠[]):LRep w j tk F h.cells v.cells.toList:=by
 cases h with
 | one c=>
   have h1:v.oneCell' = true:=CRep.oneCell2 htk hr (by simpa [Hold.cells] using ha)
   have:v.cells = #[v]:=by cases v <;> simp_all [Value.cells,Value.oneCell']
   rw [this]
   exact ⟨hr,trivial⟩
 | agg cs=>
   obtain ⟨vs,rfl,hL⟩:=hr
   exact hL
 | tup xs=>simp [Hold.cells] at hn
def MRep (w:World) (F:Fz) {kt vt:Ty N} : List (den E.Γ kt×den E.Γ vt)->List MapEntry->Prop
 | [],[]=>True
 | x::xs,e::es=>(HRep (E:=E) w (fun _=>none) (fun _=>none) F (valH kt x.1) e.key/\HRep (E:=E) w (fun _=>none) (fun _=>none) F (valH vt x.2) e.val)/\MRep w F xs es
 | _,_=>False
theorem MRep.mono (hF:∀ b o,F b o->F' b o) (hw:Agree F w w') {kt vt:Ty N} : ∀ {xs:List (den E.Γ kt×den E.Γ vt)} {es:List MapEntry},MRep w F xs es->MRep w' F' xs es
 | [],[],_=>trivial
 | _::_,_::_,h=>⟨⟨h.1.1.mono hF hw (fun _ _ h=>h) (fun _ _ h=>h),h.1.2.mono hF hw (fun _ _ h=>h) (fun _ _ h=>h)⟩,MRep.mono hF hw h.2⟩
 | [],_::_,h=>h.elim
 | _::_,[],h=>h.elim
def HReps (w:World) (j:Sites) (tk:Toks) (F:Fz):List (Hold E)->List Value->Prop
 | [],[]=>True
 | h::hs,v::vs=>HRep w j tk F h v/\HReps w j tk F hs vs
 | _,_=>False
theorem HReps.len:∀ {hs:List (Hold E)} {vs:List Value},HReps w j tk F hs vs->hs.length=vs.length
 | [],[],_=>rfl
 | _::_,_::_,h=>by simp [HReps.len h.2]
 | [],_::_,h=>h.elim
 | _::_,[],h=>h.elim
theorem HReps.get:∀ {hs:List (Hold E)} {vs:List Value},HReps w j tk F hs vs -> ∀ (i:Nat) (x:Hold E) (v:Value),hs[i]? = some x->vs[i]? = some v->HRep w j tk F x v
 | x::hs,v::vs,h,0,y,u,e,e' => by simp at e e'; subst e e'; exact h.1
 | x::hs,v::vs,h,i+1,y,u,e,e' => HReps.get h.2 i y u (by simpa using e) (by simpa using e')
 | [],_,_,i,x,v,e,_=>by simp at e
 | _::_,[],h,_,_,_,_,_=>h.elim
theorem HReps.of_get:∀ {hs:List (Hold E)} {vs:List Value},hs.length=vs.length->(∀ (i:Nat) (x:Hold E) (v:Value),hs[i]? = some x->vs[i]? = some v->HRep w j tk F x v)->HReps w j tk F hs vs
 | [],[],_,_=>trivial
 | x::xs,v::vs,hl,h=>⟨h 0 x v rfl rfl,HReps.of_get (by simpa using hl) fun i x v hx hv=>h (i+1) x v (by simpa using hx) (by simpa using hv)⟩
 | [],_::_,hl,_=>by simp at hl
 | _::_,[],hl,_=>by simp at hl
theorem HReps.map {w' : World} {j' : Sites} {tk' : Toks} {F' : Fz} (f:Hold E->Hold E):∀ {hs:List (Hold E)} {vs:List Value},(∀ x ∈ hs,∀ v,HRep w j tk F x v->HRep w' j' tk' F' (f x) v)->HReps w j tk F hs vs->HReps w' j' tk' F' (hs.map f) vs
 | [],[],_,_=>trivial
 | _::_,_::_,hf,h=>⟨hf _ (List.mem_cons_self ..) _ h.1,HReps.map f (fun x hx=>hf x (List.mem_cons_of_mem _ hx)) h.2⟩
 | [],_::_,_,h=>h.elim
 | _::_,[],_,h=>h.elim
theorem HReps.imp {w' : World} {j' : Sites} {tk' : Toks} {F' : Fz} : ∀ {hs:List (Hold E)} {vs:List Value},(∀ x ∈ hs,∀ v,HRep w j tk F x v->HRep w' j' tk' F' x v)->HReps w j tk F hs vs->HReps w' j' tk' F' hs vs
 | [],[],_,_=>trivial
 | _::_,_::_,hf,h=>⟨hf _ (List.mem_cons_self ..) _ h.1,HReps.imp (fun x hx=>hf x (List.mem_cons_of_mem _ hx)) h.2⟩
 | [],_::_,_,h=>h.elim
 | _::_,[],_,h=>h.elim
theorem HReps.mono (hF:∀ b o,F b o->F' b o) (hw:Agree F w w') (hj:∀ s b,j s=some b->j' s=some b) (ht:∀ k v,tk k=some v->tk' k=some v) {hs:List (Hold E)} {vs:List Value} (h:HReps w j tk F hs vs):HReps w' j' tk' F' hs vs:=
 h.imp fun _ _ _ h=>h.mono hF hw hj ht
theorem HReps.append:∀ {hs gs:List (Hold E)} {vs us:List Value},HReps w j tk F hs vs->HReps w j tk F gs us->HReps w j tk F (hs++gs) (vs++us)
 | [],_,[],_,_,h=>h
 | _::_,_,_::_,_,h,h' => ⟨h.1,HReps.append h.2 h'⟩
 | [],_,_::_,_,h,_=>h.elim
 | _::_,_,[],_,h,_=>h.elim
theorem HReps.take (n:Nat):∀ {hs:List (Hold E)} {vs:List Value},HReps w j tk F hs vs->HReps w j tk F (hs.take n) (vs.take n):=by
 induction n with
 | zero=>intro hs vs _; exact trivial
 | succ n ih=>
   intro hs vs h
   match hs,vs,h with
   | [],[],_=>exact trivial
   | _::_,_::_,h=>exact ⟨h.1,ih h.2⟩
   | [],_::_,h=>exact h.elim
   | _::_,[],h=>exact h.elim
theorem HReps.drop (n:Nat):∀ {hs:List (Hold E)} {vs:List Value},HReps w j tk F hs vs->HReps w j tk F (hs.drop n) (vs.drop n):=by
 induction n with
 | zero=>intro hs vs h; exact h
 | succ n ih=>
   intro hs vs h
   match hs,vs,h with
   | [],[],_=>exact trivial
   | _::_,_::_,h=>exact ih h.2
   | [],_::_,h=>exact h.elim
   | _::_,[],h=>exact h.elim
end
end
end Go.Ai

namespace Go.Ai
open Go.RowKit
section
variable {N:Type} [DecidableEq N] {E:Env N} {P:Program}
def Own (P:Program) (base:Nat) (w:World) (j:Sites) (F:Fz) (k:Tok) (v:Value):Prop:=
 ∃ i n xs,P.info? k.2.2=some i/\w.ownsRow base k.2.2 i.size v n xs /\ ∀ g,v.ownBlock=some g->(∀ o,F g o->o<n*i.size) /\ ∀ s,j s≠some g
def Marks (base:Nat) (w:World) (ds:List Deferred):Prop := ∃ Ds:List Nat,Ds.Nodup/\ds=Ds.map (fun D=>({target := .collected D,args := #[]} : Deferred)) /\ ∀ D ∈ Ds,base<=D/\w.heap[D]? = some (.deferred (some []))
theorem Marks.keep {base:Nat} {w w' : World} {ds:List Deferred} (h:Marks base w ds) (hk:∀ D,base<=D->w.heap[D]? = some (.deferred (some []))->w'.heap[D]? = some (.deferred (some []))):Marks base w' ds:=by
 obtain ⟨Ds,h1,h2,h3⟩:=h
 exact ⟨Ds,h1,h2,fun D hD=>⟨(h3 D hD).1,hk D (h3 D hD).1 (h3 D hD).2⟩⟩
theorem Marks.nil (base:Nat) (w:World):Marks base w []:=⟨[],List.nodup_nil,rfl,fun D h=>by cases h⟩
structure Ov {N:Type} (E:Env N) where
 vs:List Value
 iv:List (Pend E)
def RowR (P:Program) (base:Nat) (w:World) (tk:Toks) (F:Fz) (s e:Nat) (τ:Ty N) (xs:List (den E.Γ τ)):Prop:=
 ∃ v L i,tk (rkey s e)=some v/\P.info? e=some i/\i.size=τ.size E/\w.ownsRow base e i.size v xs.length L/\RowRep (E:=E) w F τ xs L/\(∀ g,v.ownBlock=some g -> ∀ o,¬ F g o)
structure Sim (P:Program) (base:Nat) (w0:World) (F0:Fx) (ov:Ov E) (σ:St E) (a:Act) (w:World) (j:Sites) (tk:Toks) (F:Fz):Prop where
 below:Below base w0 w
 tab:E.tab w F
 size:base<=w.heap.size
 Fold:∀ b o,F0.c b o->F b o
 Fnew:∀ b o,F b o->F0.c b o\/(base<=b /\ ¬ F0.fn b)
 Flt:∀ b o,F b o->b<w.heap.size
 agr:Agree F0.c w0 w
 frn:∀ k,F0.fn k->k<w0.heap.size/\w.heap[k]? = w0.heap[k]? /\ (∀ s,j s≠some k)/\(∀ q v,tk q=some v->v.ownBlock≠some k)/\({target := .collected k,args := #[]} : Deferred) ∉ a.defers
 outs:HReps w j tk F σ.out ov.vs
 itq:σ.its=ov.iv
 defers:Marks base w a.defers
 mks:σ.mrk=false->a.defers=[]
 len:a.tmps.size=σ.tmps.length
 tmps:∀ (i:Nat) (h:Hold E) (v:Value),σ.tmps[i]? = some h->a.tmps[i]? = some v->HRep w j tk F h v
 boxes:∀ (s:Nat) (cs:List (Cell E)),σ.heap[s]? = some (.cells cs) -> ∃ b vs T,j s=some b/\w.heap[b]? = some (.cells vs T (0,0))/\LRep w j tk F cs vs.toList
 iters:∀ (s:Nat) (str:List UInt8) (pos:Nat),σ.heap[s]? = some (.iter str pos) -> ∃ b sb,j s=some b/\w.heap[b]? = some (.stringIter sb pos)/\sb.data.toList=str
 maps:∀ (s:Nat) (kt vt:Ty N) (m:List (den E.Γ kt×den E.Γ vt)),σ.heap[s]? = some (.mp kt vt m) -> ∃ b es clock,j s=some b/\w.heap[b]? = some (.map es clock)/\MRep w F m es.toList
 rows:∀ (m s e:Nat) (τ:Ty N) (xs:List (den E.Γ τ)),σ.heap[m]? = some (.rw s e τ xs)->(j m=none/\m=s)/\RowR P base w tk F s e τ xs
 live:∀ s b,j s=some b->base<=b/\(∀ o,¬ F b o)/\(∃ blk,σ.heap[s]? = some blk/\blk ≠ .gone)/\b<w.heap.size
 inj:∀ s s' b,j s=some b->j s' = some b->s=s'
 toks:∀ k v,tk k=some v->Own P base w j F k v
 apart:∀ k k' v v' g,tk k=some v->tk k' = some v' -> v.ownBlock=some g->v'.ownBlock=some g->k=k'
variable {base:Nat} {ov:Ov E} {w0 w w' : World} {F0:Fx} {F F' : Fz} {σ:St E} {a:Act} {j:Sites} {tk:Toks}
theorem agree_grown {row:Option Nat} (hg:w.grownBy w' row) (hF:∀ b o,F b o->b<w.heap.size/\some b≠row):Agree F w w' := by
 intro b o v hf hc
 have h1:=hF b o hf
 rw [World.cell?_of_block (w:=w) (w' := w') (a:=⟨b,o,none⟩) (hg.block b h1.1 h1.2)]
 exact hc
theorem ownsRow_same {b:Nat} {e:TypeId} {size n:Nat} {v:Value} {xs:List Value} (h:w.ownsRow b e size v n xs) (hk:∀ g,v.ownBlock=some g->w'.heap[g]? = w.heap[g]?):w'.ownsRow b e size v n xs:=by
 refine ⟨h.1,?_⟩
 rcases h.2 with hn | ⟨g,cap,cur,rfl,hb,hgg,rest⟩
 ·exact .inl hn
 ·exact .inr ⟨g,cap,cur,rfl,hb,by rw [hk g rfl]; exact hgg,rest⟩
theorem RowR.move {tk' : Toks} {s e:Nat} {τ:Ty N} {xs:List (den E.Γ τ)} (h:RowR P base w tk F s e τ xs) (hF:∀ b o,F b o->F' b o) (hA:Agree F w w') (ht:∀ v,tk (rkey s e)=some v->tk' (rkey s e)=some v)
  (hk:∀ v g,tk (rkey s e)=some v->v.ownBlock=some g->g<w.heap.size->w'.heap[g]? = w.heap[g]? /\ ∀ o,F' g o->F g o):RowR P base w' tk' F' s e τ xs:=by
 obtain ⟨v,L,i,h1,h2,h3,h4,h5,h6⟩:=h
 exact ⟨v,L,i,ht v h1,h2,h3,ownsRow_same h4 fun g hg=>(hk v g h1 hg (h4.lt g hg).2).1,h5.mono hF hA,fun g hg o hf=>h6 g hg o ((hk v g h1 hg (h4.lt g hg).2).2 o hf)⟩
theorem Sim.grown (h:Sim P base w0 F0 ov σ a w j tk F) {row:Option Nat} (hg:w.grownBy w' row) (hA:Agree F w w')
  (hM:Marks base w' a.defers) (hrow:∀ g,row=some g->base<=g /\ ¬ F0.fn g/\(∀ s,j s≠some g) /\ ∀ k v,tk k=some v->v.ownBlock≠some g):Sim P base w0 F0 ov σ a w' j tk F where
 tab:=E.tabM _ _ _ _ h.tab (fun _ _ hf=>hf) hA
 below:=h.below.grown hg h.size fun k hk=>(hrow k hk).1
 size:=Nat.le_trans h.size hg.size
 Fold:=h.Fold
 Fnew:=h.Fnew
 Flt:=fun b o hf=>Nat.lt_of_lt_of_le (h.Flt b o hf) hg.size
 agr:=h.agr.trans (hA.mono h.Fold)
 frn:=fun k hk=>by
  obtain ⟨h1,h2,h3,h4,h5⟩:=h.frn k hk
  exact ⟨h1,by rw [hg.block k (Nat.lt_of_lt_of_le h1 h.below.size) (fun e=>(hrow k e.symm).2.1 hk)]; exact h2,h3,h4,h5⟩
 outs:=h.outs.mono (fun _ _ hf=>hf) hA (fun _ _ hj=>hj) (fun _ _ ht=>ht)
 itq:=h.itq
 defers:=hM
 mks:=h.mks
 len:=h.len
 tmps:=fun i x v hx hv=>(h.tmps i x v hx hv).mono (fun _ _ hf=>hf) hA (fun _ _ hj=>hj) (fun _ _ ht=>ht)
 boxes:=fun s cs hs=>by
  obtain ⟨b,vs,T,h1,h2,h3⟩:=h.boxes s cs hs
  have hb:b<w.heap.size:=(Array.getElem?_eq_some_iff.1 h2).1
  refine ⟨b,vs,T,h1,?_,h3.mono (fun _ _ hf=>hf) hA (fun _ _ hj=>hj) (fun _ _ ht=>ht)⟩
  rw [hg.block b hb (fun e=>(hrow b e.symm).2.2.1 s h1)]
  exact h2
 iters:=fun s str pos hs=>by
  obtain ⟨b,sb,h1,h2,h3⟩:=h.iters s str pos hs
  have hb:=(Array.getElem?_eq_some_iff.1 h2).1
  exact ⟨b,sb,h1,by rw [hg.block b hb (fun e=>(hrow b e.symm).2.2.1 s h1)]; exact h2,h3⟩
 maps:=fun s kt vt m hs=>by
  obtain ⟨b,es,cl,h1,h2,h3⟩:=h.maps s kt vt m hs
  have hb:=(Array.getElem?_eq_some_iff.1 h2).1
  exact ⟨b,es,cl,h1,by rw [hg.block b hb (fun e=>(hrow b e.symm).2.2.1 s h1)]; exact h2,h3.mono (fun _ _ hf=>hf) hA⟩
 rows:=fun m s e τ xs hs=>by
  obtain ⟨h1,h2⟩:=h.rows m s e τ xs hs
  exact ⟨h1,h2.move (fun _ _ hf=>hf) hA (fun _ hv=>hv) fun v g hv hgg hlt=>⟨hg.block g hlt fun e=>(hrow g e.symm).2.2.2 _ v hv hgg,fun _ hf=>hf⟩⟩
 live:=fun s b hs=>by
  obtain ⟨h1,h2,h3,h4⟩:=h.live s b hs
  exact ⟨h1,h2,h3,Nat.lt_of_lt_of_le h4 hg.size⟩
 inj:=h.inj
 toks:=fun k v hk=>by
  obtain ⟨i,n,xs,h1,h2,h3⟩:=h.toks k v hk
  refine ⟨i,n,xs,h1,h2.kept hg ?_,h3⟩
  cases hr:row with
  | none=>cases hv:v.ownBlock <;> simp
  | some g=>
    right
    exact (hrow g hr).2.2.2 k v hk
 apart:=h.apart
theorem Sim.grow (h:Sim P base w0 F0 ov σ a w j tk F) (hb:Below w.heap.size w w'):Sim P base w0 F0 ov σ a w' j tk F:=by
 have hg:w.grownBy w' none:=⟨hb.os,hb.tape,hb.output,hb.size,fun k hk _=>hb.block k hk⟩
 exact h.grown hg (agree_grown hg fun b o hf=>⟨h.Flt b o hf,by simp⟩) (h.defers.keep fun D _ hD=>by rw [hb.block D (Array.getElem?_eq_some_iff.1 hD).1]; exact hD) (fun g hg=>by cases hg)
theorem Sim.reDefer (h:Sim P base w0 F0 ov σ a w j tk F) {ds:List Deferred} (hM:Marks base w ds) (hmk:σ.mrk=false->ds=[]) (hsub:∀ d ∈ ds,d ∈ a.defers):Sim P base w0 F0 ov σ {a with defers:=ds} w j tk F:=
 {tab:=h.tab,
  below:=h.below,size:=h.size,Fold:=h.Fold,Fnew:=h.Fnew,Flt:=h.Flt,agr:=h.agr,frn:=fun k hk=>by obtain ⟨h1,h2,h3,h4,h5⟩:=h.frn k hk; exact ⟨h1,h2,h3,h4,fun hm=>h5 (hsub _ hm)⟩,outs:=h.outs,itq:=h.itq,defers:=hM,mks:=hmk,len:=h.len,tmps:=h.tmps,boxes:=h.boxes,iters:=h.iters,maps:=h.maps,rows:=h.rows,live:=h.live,inj:=h.inj,toks:=h.toks,apart:=h.apart}
theorem Sim.unmark (h:Sim P base w0 F0 ov σ a w j tk F) {D:Nat} {rest:List Deferred} (hd:a.defers = {target := .collected D,args := #[]} :: rest) :
  Sim P base w0 F0 ov σ {a with defers:=rest} (w.putObj D (.deferred none)) j tk F/\(Instr.takeDeferred D).run P w = .ok [] (w.putObj D (.deferred none)):=by
 obtain ⟨Ds,h1,h2,h3⟩:=h.defers
 rw [hd] at h2
 cases Ds with
 | nil=>cases h2
 | cons D' Ds=>
   simp only [List.map_cons,List.cons.injEq,Deferred.mk.injEq] at h2
   obtain ⟨⟨hD,_⟩,h2⟩:=h2
   cases hD
   have hx:=h3 D (List.mem_cons_self ..)
   have hn:=List.nodup_cons.1 h1
   refine ⟨?_,run_takeDeferred hx.2⟩
   have hg:w.grownBy (w.putObj D (.deferred none)) (some D):=⟨rfl,rfl,rfl,by simp,fun k _ hk=>World.putObj_heap_other (fun e=>hk (by rw [e]))⟩
   refine (h.reDefer (ds:=rest) ⟨Ds,hn.2,h2,fun E hE=>h3 E (List.mem_cons_of_mem _ hE)⟩ (fun e=>by have:=h.mks e; rw [hd] at this; cases this) (fun d hm=>by rw [hd]; exact List.mem_cons_of_mem _ hm)).grown hg ?_ ?_ ?_
   ·intro b o v hf hc
    have:b≠D:=by
     intro e; subst e
     simp [World.cell?,hx.2] at hc
    rw [World.cell?_of_block (w:=w) (w' := w.putObj D (.deferred none)) (a:=⟨b,o,none⟩) (World.putObj_heap_other this)]
    exact hc
   ·refine ⟨Ds,hn.2,h2,fun E hE=>⟨(h3 E (List.mem_cons_of_mem _ hE)).1,?_⟩⟩
    rw [World.putObj_heap_other (fun (e:E=D)=>hn.1 (by rw [<- e]; exact hE))]
    exact (h3 E (List.mem_cons_of_mem _ hE)).2
   ·intro g hgg
    cases hgg
    refine ⟨hx.1,fun hfn=>(h.frn D hfn).2.2.2.2 (by rw [hd]; exact List.mem_cons_self ..),fun s hs => ?_,fun k v hk hv => ?_⟩
    ·obtain ⟨_,_,⟨blk,hb1,hb2⟩,_⟩:=h.live s D hs
     cases blk with
     | gone=>exact hb2 rfl
     | cells cs=>
       obtain ⟨b,vs,T,e1,e2,_⟩:=h.boxes s cs hb1
       rw [hs] at e1; cases e1
       rw [hx.2] at e2; cases e2
     | iter str q=>
       obtain ⟨b,sb,e1,e2,_⟩:=h.iters s str q hb1
       rw [hs] at e1; cases e1
       rw [hx.2] at e2; cases e2
     | mp kt vt m=>
       obtain ⟨b,es,cl,e1,e2,_⟩:=h.maps s kt vt m hb1
       rw [hs] at e1; cases e1
       rw [hx.2] at e2; cases e2
     | rw s' e' t xs=>
       have:=(h.rows s s' e' t xs hb1).1.1
       rw [hs] at this; cases this
    ·obtain ⟨i,n,xs,_,e2,_⟩:=h.toks k v hk
     rcases e2.2 with ⟨e,_⟩ | ⟨g',cap,cur,e,_,hc,_⟩
     ·rw [e] at hv; simp [Value.ownBlock] at hv
     ·rw [e] at hv
      simp only [Value.ownBlock,Option.some.injEq] at hv
      subst hv
      rw [hx.2] at hc; cases hc
theorem get_put {tmps:List (Hold E)} {ts:Array Value} (hl:ts.size=tmps.length) {d i:Nat} {hd h:Hold E} {u v:Value}
  (hx:(tmps.set d hd)[i]? = some h) (hv:(ts.setIfInBounds d u)[i]? = some v):(i=d/\h=hd/\v=u)\/(tmps[i]? = some h/\ts[i]? = some v):=by
 by_cases e:i=d
 ·subst e
  rw [List.getElem?_set] at hx
  rw [Array.getElem?_setIfInBounds] at hv
  simp only [if_true] at hx hv
  split at hx
  ·rename_i hlt
   rw [if_pos (by omega)] at hv
   exact .inl ⟨rfl,(Option.some.inj hx).symm,(Option.some.inj hv).symm⟩
  ·cases hx
 ·rw [List.getElem?_set_ne (fun h=>e h.symm)] at hx
  rw [Array.getElem?_setIfInBounds_ne (fun h=>e h.symm)] at hv
  exact .inr ⟨hx,hv⟩
theorem Sim.put (h:Sim P base w0 F0 ov σ a w j tk F) {hd:Hold E} {u:Value} (hr:HRep w j tk F hd u) (d:Option Nat):Sim P base w0 F0 ov (σ.put d hd) (a.put d u) w j tk F:=by
 cases d with
 | none=>exact h
 | some d=>
   exact {
    tab:=h.tab
    below:=h.below,size:=h.size,Fold:=h.Fold,Fnew:=h.Fnew,Flt:=h.Flt,agr:=h.agr,frn:=h.frn,outs:=h.outs,itq:=h.itq,defers:=h.defers,mks:=h.mks
    len:=by simp [St.put,Act.put,h.len]
    tmps:=fun i x v hx hv=>by
     rcases get_put h.len hx hv with ⟨_,rfl,rfl⟩ | ⟨h1,h2⟩
     ·exact hr
     ·exact h.tmps i x v h1 h2
    boxes:=h.boxes,iters:=h.iters,maps:=h.maps,rows:=h.rows,live:=h.live,inj:=h.inj,toks:=h.toks,apart:=h.apart}
theorem Sim.newBlk (h:Sim P base w0 F0 ov σ a w j tk F) {t d:Nat} {hc:Hold E} {u:Value} {blk:Blk E} {obj:Obj} (hd:σ.heap[d]? = some .gone) (hne:blk ≠ .gone) (hcells:∀ cs,blk = .cells cs -> ∃ vs T,obj = .cells vs T (0,0)/\LRep w j tk F cs vs.toList)
  (hiter:∀ str pos,blk = .iter str pos -> ∃ sb,obj = .stringIter sb pos/\sb.data.toList=str) (hmap:∀ kt vt m,blk = .mp kt vt m -> ∃ es cl,obj = .map es cl/\MRep w F m es.toList)
  (hu:∀ w' j',j' d=some w.heap.size->HRep w' j' tk F hc u) (hrw:∀ s e t xs,blk ≠ .rw s e t xs:=by intro _ _ _ _ h; cases h) :
  Sim P base w0 F0 ov {σ with tmps:=σ.tmps.set t hc,heap:=σ.heap.set d blk} (a.put (some t) u) (w.alloc obj)
   (fun s=>if s=d then some w.heap.size else j s) tk F:=by
 have hb:Below w.heap.size w (w.alloc obj):=(Below.refl _ _).alloc (Nat.le_refl _) _
 have h' := h.grow hb
 have hjd:j d=none:=by
  cases e:j d with
  | none=>rfl
  | some b=>obtain ⟨_,_,⟨blk',hc,hne'⟩,_⟩:=h.live d b e; rw [hd] at hc; cases hc; exact absurd rfl hne'
 have hjm:∀ s b,j s=some b->(if s=d then some w.heap.size else j s)=some b:=by
  intro s b hs
  by_cases e:s=d
  ·subst e; rw [hjd] at hs; cases hs
  ·rw [if_neg e]; exact hs
 have hA:Agree F (w.alloc obj) (w.alloc obj):=Agree.refl _ _
 have hA2:Agree F w (w.alloc obj):=agree_grown (row:=none) ⟨hb.os,hb.tape,hb.output,hb.size,fun k hk _=>hb.block k hk⟩ (fun b o hf=>⟨h.Flt b o hf,by simp⟩)
 have hlt:∀ s b,j s=some b->b<w.heap.size:=by
  intro s b hs
  exact (h.live s b hs).2.2.2
 exact {
  tab:=h'.tab
  below:=h'.below,size:=h'.size,Fold:=h'.Fold,Fnew:=h'.Fnew,Flt:=h'.Flt,agr:=h'.agr,defers:=h'.defers,mks:=h'.mks
  frn:=fun k hk=>by
   obtain ⟨h1,h2,h3,h4,h5⟩:=h'.frn k hk
   refine ⟨h1,h2,fun s hs => ?_,h4,h5⟩
   by_cases e:s=d
   ·rw [if_pos e] at hs
    cases hs
    exact absurd (Nat.lt_of_lt_of_le h1 h.below.size) (Nat.lt_irrefl _)
   ·rw [if_neg e] at hs; exact h3 s hs
  outs:=h'.outs.mono (fun _ _ hf=>hf) hA hjm (fun _ _ ht=>ht)
  itq:=h'.itq
  len:=by simp [Act.put,h.len]
  tmps:=fun i x v hx hv=>by
   rcases get_put h.len hx hv with ⟨_,rfl,rfl⟩ | ⟨h1,h2⟩
   ·exact hu _ _ (by simp)
   ·exact (h'.tmps i x v h1 h2).mono (fun _ _ hf=>hf) hA hjm (fun _ _ ht=>ht)
  boxes:=fun s cs' hs=>by
   by_cases e:s=d
   ·subst e
    simp only [List.getElem?_set,if_true] at hs
    split at hs
    ·obtain ⟨vs,T,ho,hr⟩:=hcells cs' (Option.some.inj hs)
     subst ho
     exact ⟨w.heap.size,vs,T,by simp,heap_alloc_new w _,hr.mono (fun _ _ hf=>hf) hA2 hjm (fun _ _ ht=>ht)⟩
    ·cases hs
   ·simp only [List.getElem?_set_ne (fun h=>e h.symm)] at hs
    obtain ⟨b,vs',T',h1,h2,h3⟩:=h'.boxes s cs' hs
    exact ⟨b,vs',T',by rw [if_neg e]; exact h1,h2,h3.mono (fun _ _ hf=>hf) hA hjm (fun _ _ ht=>ht)⟩
  iters:=fun s str pos hs=>by
   by_cases e:s=d
   ·subst e
    simp only [List.getElem?_set,if_true] at hs
    split at hs
    ·obtain ⟨sb,ho,hsb⟩:=hiter str pos (Option.some.inj hs)
     subst ho
     exact ⟨w.heap.size,sb,by simp,heap_alloc_new w _,hsb⟩
    ·cases hs
   ·simp only [List.getElem?_set_ne (fun h=>e h.symm)] at hs
    obtain ⟨b,sb,h1,h2,h3⟩:=h'.iters s str pos hs
    exact ⟨b,sb,by rw [if_neg e]; exact h1,h2,h3⟩
  maps:=fun s kt vt m hs=>by
   by_cases e:s=d
   ·subst e
    simp only [List.getElem?_set,if_true] at hs
    split at hs
    ·obtain ⟨es,cl,ho,hsb⟩:=hmap kt vt m (Option.some.inj hs)
     subst ho
     exact ⟨w.heap.size,es,cl,by simp,heap_alloc_new w _,hsb.mono (fun _ _ hf=>hf) hA2⟩
    ·cases hs
   ·simp only [List.getElem?_set_ne (fun h=>e h.symm)] at hs
    obtain ⟨b,es,cl,h1,h2,h3⟩:=h'.maps s kt vt m hs
    exact ⟨b,es,cl,by rw [if_neg e]; exact h1,h2,h3⟩
  rows:=fun m s e τ xs hs=>by
   by_cases e:m=d
   ·subst e
    simp only [List.getElem?_set,if_true] at hs
    split at hs
    ·exact absurd (Option.some.inj hs) (hrw _ _ _ _)
    ·cases hs
   ·simp only [List.getElem?_set_ne (fun h=>e h.symm)] at hs
    obtain ⟨h1,h2⟩:=h'.rows m s _ τ xs hs
    exact ⟨⟨by rw [if_neg e]; exact h1.1,h1.2⟩,h2⟩
  live:=fun s b hs=>by
   by_cases e:s=d
   ·subst e
    simp only [if_true] at hs
    cases hs
    have hl:s<σ.heap.length:=(List.getElem?_eq_some_iff.1 hd).1
    exact ⟨h.size,fun o hf=>Nat.lt_irrefl _ (h.Flt _ _ hf),⟨blk,by simp [List.getElem?_set,hl],hne⟩,by simp⟩
   ·rw [if_neg e] at hs
    obtain ⟨h1,h2,⟨blk',h3,h4⟩,h5⟩:=h'.live s b hs
    exact ⟨h1,h2,⟨blk',by simp only [List.getElem?_set_ne (fun h=>e h.symm)]; exact h3,h4⟩,h5⟩
  inj:=fun s s' b hs hs' => by
   by_cases e:s=d <;> by_cases e' : s' = d
   ·exact e.trans e'.symm
   ·rw [if_pos e] at hs; rw [if_neg e'] at hs'; cases hs; exact absurd (hlt _ _ hs') (Nat.lt_irrefl _)
   ·rw [if_neg e] at hs; rw [if_pos e'] at hs'; cases hs'; exact absurd (hlt _ _ hs) (Nat.lt_irrefl _)
   ·rw [if_neg e] at hs; rw [if_neg e'] at hs'; exact h.inj s s' b hs hs'
  toks:=fun k v hk=>by
   obtain ⟨i,n,xs,h1,h2,h3⟩:=h'.toks k v hk
   refine ⟨i,n,xs,h1,h2,fun g hg=>⟨(h3 g hg).1,fun s hs => ?_⟩⟩
   dsimp only at hs
   by_cases e:s=d
   ·rw [if_pos e] at hs
    cases hs
    obtain ⟨i',n',xs',h1',h2',h3'⟩:=h.toks k v hk
    exact absurd (h2'.lt _ hg).2 (Nat.lt_irrefl _)
   ·rw [if_neg e] at hs; exact (h3 g hg).2 s hs
  apart:=h'.apart}
theorem Sim.newBox (h:Sim P base w0 F0 ov σ a w j tk F) {t d:Nat} {cs:List (Cell E)} {vs:List Value} {T:TypeId} (hd:σ.heap[d]? = some .gone) (hr:LRep w j tk F cs vs) :
  Sim P base w0 F0 ov {σ with tmps:=σ.tmps.set t (.one (.ptr d 0)),heap:=σ.heap.set d (.cells cs)} (a.put (some t) (.pointer (some ⟨w.heap.size,0,none⟩))) (w.alloc (.cells vs.toArray T))
   (fun s=>if s=d then some w.heap.size else j s) tk F:=
 h.newBlk hd (fun e=>by cases e) (fun cs' e=>by cases e; exact ⟨vs.toArray,T,rfl,hr⟩) (fun str pos e=>by cases e) (fun _ _ _ e=>by cases e) (fun _ _ hj=>⟨_,hj,rfl⟩)
theorem Sim.store (h:Sim P base w0 F0 ov σ a w j tk F) {s b:Nat} {vs:Array Value} {T:TypeId} {cs' : List (Cell E)} {vs' : List Value} (hs:j s=some b)
  (hb:w.heap[b]? = some (.cells vs T (0,0))) (hr:LRep w j tk F cs' vs') :
  Sim P base w0 F0 ov {σ with heap:=σ.heap.set s (.cells cs')} a (w.setRow b vs'.toArray) j tk F:=by
 obtain ⟨hbase,hnF,_,_⟩:=h.live s b hs
 have hg:w.grownBy (w.setRow b vs'.toArray) (some b):=⟨rfl,rfl,rfl,by simp,fun k _ hk=>setRow_other w b k _ (fun e=>hk (by rw [e]))⟩
 have hA:Agree F w (w.setRow b vs'.toArray):=agree_grown hg fun b' o hf=>⟨h.Flt b' o hf,fun e=>by cases e; exact hnF o hf⟩
 exact {
  tab:=E.tabM _ _ _ _ h.tab (fun _ _ hf=>hf) hA
  below:=h.below.grown hg h.size fun k hk=>by cases hk; exact hbase
  size:=by simpa using h.size
  Fold:=h.Fold,Fnew:=h.Fnew
  Flt:=fun b o hf=>by simpa using h.Flt b o hf
  agr:=h.agr.trans (hA.mono h.Fold)
  frn:=fun k hk=>by
   obtain ⟨h1,h2,h3,h4,h5⟩:=h.frn k hk
   exact ⟨h1,by rw [setRow_other w b k _ (fun e=>h3 s (by rw [e]; exact hs))]; exact h2,h3,h4,h5⟩
  outs:=h.outs.mono (fun _ _ hf=>hf) hA (fun _ _ hj=>hj) (fun _ _ ht=>ht)
  itq:=h.itq
  defers:=h.defers.keep fun D _ hD=>by rw [setRow_other w b D _ (fun e=>by rw [e] at hD; rw [hb] at hD; cases hD)]; exact hD
  mks:=h.mks
  len:=h.len
  tmps:=fun i x v hx hv=>(h.tmps i x v hx hv).mono (fun _ _ hf=>hf) hA (fun _ _ hj=>hj) (fun _ _ ht=>ht)
  boxes:=fun s' cs hc=>by
   by_cases e:s' = s
   ·subst e
    simp only [List.getElem?_set,if_true] at hc
    split at hc
    ·cases hc
     exact ⟨b,vs'.toArray,T,hs,setRow_heap w b vs _ T _ hb,hr.mono (fun _ _ hf=>hf) hA (fun _ _ hj=>hj) (fun _ _ ht=>ht)⟩
    ·cases hc
   ·simp only [List.getElem?_set_ne (fun h=>e h.symm)] at hc
    obtain ⟨b',us,T',h1,h2,h3⟩:=h.boxes s' cs hc
    refine ⟨b',us,T',h1,?_,h3.mono (fun _ _ hf=>hf) hA (fun _ _ hj=>hj) (fun _ _ ht=>ht)⟩
    rw [setRow_other w b b' _ (fun e' => e (h.inj s' s b' h1 (by rw [e']; exact hs)))]
    exact h2
  iters:=fun s' str pos hc=>by
   by_cases e:s' = s
   ·subst e
    simp only [List.getElem?_set,if_true] at hc
    split at hc <;> cases hc
   ·simp only [List.getElem?_set_ne (fun h=>e h.symm)] at hc
    obtain ⟨b',sb,h1,h2,h3⟩:=h.iters s' str pos hc
    exact ⟨b',sb,h1,by rw [setRow_other w b b' _ (fun e' => e (h.inj s' s b' h1 (by rw [e']; exact hs)))]; exact h2,h3⟩
  maps:=fun s' kt vt m hc=>by
   by_cases e:s' = s
   ·subst e
    simp only [List.getElem?_set,if_true] at hc
    split at hc <;> cases hc
   ·simp only [List.getElem?_set_ne (fun h=>e h.symm)] at hc
    obtain ⟨b',es,cl,h1,h2,h3⟩:=h.maps s' kt vt m hc
    exact ⟨b',es,cl,h1,by rw [setRow_other w b b' _ (fun e' => e (h.inj s' s b' h1 (by rw [e']; exact hs)))]; exact h2,h3.mono (fun _ _ hf=>hf) hA⟩
  rows:=fun m s' e' τ xs hc=>by
   by_cases e:m=s
   ·subst e
    simp only [List.getElem?_set,if_true] at hc
    split at hc <;> cases hc
   ·simp only [List.getElem?_set_ne (fun h=>e h.symm)] at hc
    obtain ⟨h1,h2⟩:=h.rows m s' e' τ xs hc
    refine ⟨h1,h2.move (fun _ _ hf=>hf) hA (fun _ hv=>hv) fun v g hv hgg _=>⟨setRow_other w b g _ fun e => ?_,fun _ hf=>hf⟩⟩
    obtain ⟨_,_,_,_,_,e3⟩:=h.toks _ v hv
    exact (e3 g hgg).2 s (by rw [e]; exact hs)
  live:=fun s' b' hs' => by
   obtain ⟨h1,h2,⟨blk,h3,h4⟩,h5⟩:=h.live s' b' hs'
   refine ⟨h1,h2,?_,by simpa using h5⟩
   by_cases e:s' = s
   ·subst e
    have hl:s' < σ.heap.length:=(List.getElem?_eq_some_iff.1 h3).1
    exact ⟨.cells cs',by simp [List.getElem?_set,hl],fun e=>by cases e⟩
   ·exact ⟨blk,by simp only [List.getElem?_set_ne (fun h=>e h.symm)]; exact h3,h4⟩
  inj:=h.inj
  toks:=fun k v hk=>by
   obtain ⟨i,n,xs,h1,h2,h3⟩:=h.toks k v hk
   refine ⟨i,n,xs,h1,h2.kept hg ?_,h3⟩
   right
   intro e
   exact (h3 b e).2 s hs
  apart:=h.apart}
theorem Sim.setObj (h:Sim P base w0 F0 ov σ a w j tk F) {s b:Nat} {blk:Blk E} {x y:Obj} (hs:j s=some b) (hb:w.heap[b]? = some x) (hrx:∀ d,x ≠ .deferred d) (hcx:∀ vs T q,x ≠ .cells vs T q) (hcy:∀ vs T q,y ≠ .cells vs T q) (hne:blk ≠ .gone) (hcells:∀ cs,blk ≠ .cells cs)
  (hiter:∀ str pos,blk = .iter str pos -> ∃ sb,y = .stringIter sb pos/\sb.data.toList=str) (hmap:∀ kt vt m,blk = .mp kt vt m -> ∃ es cl,y = .map es cl/\MRep w F m es.toList) (hrw:∀ s e t xs,blk ≠ .rw s e t xs:=by intro _ _ _ _ h; cases h) :
  Sim P base w0 F0 ov {σ with heap:=σ.heap.set s blk} a {w with heap:=w.heap.setIfInBounds b y} j tk F:=by
 obtain ⟨hbase,hnF,⟨blk0,hblk0,_⟩,hlt⟩:=h.live s b hs
 have other:∀ k,k≠b->({w with heap:=w.heap.setIfInBounds b y} : World).heap[k]? = w.heap[k]? := fun k hk=>Array.getElem?_setIfInBounds_ne (fun e=>hk e.symm)
 have hg:w.grownBy {w with heap:=w.heap.setIfInBounds b y} (some b):=⟨rfl,rfl,rfl,by simp,fun k _ hk=>other k (fun e=>hk (by rw [e]))⟩
 have hA:Agree F w {w with heap:=w.heap.setIfInBounds b y} := agree_grown hg fun b' o hf=>⟨h.Flt b' o hf,fun e=>by cases e; exact hnF o hf⟩
 exact {
  tab:=E.tabM _ _ _ _ h.tab (fun _ _ hf=>hf) hA
  below:=h.below.grown hg h.size fun k hk=>by cases hk; exact hbase
  size:=by simpa using h.size
  Fold:=h.Fold,Fnew:=h.Fnew
  Flt:=fun b o hf=>by simpa using h.Flt b o hf
  agr:=h.agr.trans (hA.mono h.Fold)
  frn:=fun k hk=>by
   obtain ⟨h1,h2,h3,h4,h5⟩:=h.frn k hk
   exact ⟨h1,by rw [other k (fun e=>h3 s (by rw [e]; exact hs))]; exact h2,h3,h4,h5⟩
  outs:=h.outs.mono (fun _ _ hf=>hf) hA (fun _ _ hj=>hj) (fun _ _ ht=>ht)
  itq:=h.itq
  defers:=h.defers.keep fun D _ hD=>by rw [other D (fun e=>by rw [e] at hD; rw [hb] at hD; cases hD; exact hrx _ rfl)]; exact hD
  mks:=h.mks
  len:=h.len
  tmps:=fun i x v hx hv=>(h.tmps i x v hx hv).mono (fun _ _ hf=>hf) hA (fun _ _ hj=>hj) (fun _ _ ht=>ht)
  boxes:=fun s' cs hc' => by
   by_cases e:s' = s
   ·subst e
    simp only [List.getElem?_set,if_true] at hc'
    split at hc'
    ·exact absurd (Option.some.inj hc') (hcells cs)
    ·cases hc'
   ·simp only [List.getElem?_set_ne (fun h=>e h.symm)] at hc'
    obtain ⟨b',us,T',h1,h2,h3⟩:=h.boxes s' cs hc'
    refine ⟨b',us,T',h1,?_,h3.mono (fun _ _ hf=>hf) hA (fun _ _ hj=>hj) (fun _ _ ht=>ht)⟩
    rw [other b' (fun e' => e (h.inj s' s b' h1 (by rw [e']; exact hs)))]
    exact h2
  iters:=fun s' str' q hc' => by
   by_cases e:s' = s
   ·subst e
    simp only [List.getElem?_set,if_true] at hc'
    split at hc'
    ·obtain ⟨sb,rfl,hsb⟩:=hiter str' q (Option.some.inj hc')
     exact ⟨b,sb,hs,by simp [hlt],hsb⟩
    ·cases hc'
   ·simp only [List.getElem?_set_ne (fun h=>e h.symm)] at hc'
    obtain ⟨b',sb',h1,h2,h3⟩:=h.iters s' str' q hc'
    exact ⟨b',sb',h1,by rw [other b' (fun e' => e (h.inj s' s b' h1 (by rw [e']; exact hs)))]; exact h2,h3⟩
  maps:=fun s' kt vt m hc' => by
   by_cases e:s' = s
   ·subst e
    simp only [List.getElem?_set,if_true] at hc'
    split at hc'
    ·obtain ⟨es,cl,rfl,hm⟩:=hmap kt vt m (Option.some.inj hc')
     exact ⟨b,es,cl,hs,by simp [hlt],hm.mono (fun _ _ hf=>hf) hA⟩
    ·cases hc'
   ·simp only [List.getElem?_set_ne (fun h=>e h.symm)] at hc'
    obtain ⟨b',es,cl,h1,h2,h3⟩:=h.maps s' kt vt m hc'
    exact ⟨b',es,cl,h1,by rw [other b' (fun e' => e (h.inj s' s b' h1 (by rw [e']; exact hs)))]; exact h2,h3.mono (fun _ _ hf=>hf) hA⟩
  rows:=fun m s' e' τ xs hc=>by
   by_cases e:m=s
   ·subst e
    simp only [List.getElem?_set,if_true] at hc
    split at hc
    ·exact absurd (Option.some.inj hc) (hrw _ _ _ _)
    ·cases hc
   ·simp only [List.getElem?_set_ne (fun h=>e h.symm)] at hc
    obtain ⟨h1,h2⟩:=h.rows m s' e' τ xs hc
    refine ⟨h1,h2.move (fun _ _ hf=>hf) hA (fun _ hv=>hv) fun v g hv hgg _=>⟨other g fun e => ?_,fun _ hf=>hf⟩⟩
    obtain ⟨_,_,_,_,_,e3⟩:=h.toks _ v hv
    exact (e3 g hgg).2 s (by rw [e]; exact hs)
  live:=fun s' b' hs' => by
   obtain ⟨h1,h2,⟨blk',h3,h4⟩,h5⟩:=h.live s' b' hs'
   refine ⟨h1,h2,?_,by simpa using h5⟩
   by_cases e:s' = s
   ·subst e
    have hl:s' < σ.heap.length:=(List.getElem?_eq_some_iff.1 h3).1
    exact ⟨blk,by simp [List.getElem?_set,hl],hne⟩
   ·exact ⟨blk',by simp only [List.getElem?_set_ne (fun h=>e h.symm)]; exact h3,h4⟩
  inj:=h.inj
  toks:=fun k v hk=>by
   obtain ⟨i,n,xs,h1,h2,h3⟩:=h.toks k v hk
   refine ⟨i,n,xs,h1,h2.kept hg ?_,h3⟩
   right
   intro e
   exact (h3 b e).2 s hs
  apart:=h.apart}
theorem Sim.iterStep (h:Sim P base w0 F0 ov σ a w j tk F) {s b pos pos' : Nat} {str:List UInt8} {sb:ByteArray} (hs:j s=some b) (hc:σ.heap[s]? = some (.iter str pos)) (hb:w.heap[b]? = some (.stringIter sb pos)) (hsb:sb.data.toList=str) :
  Sim P base w0 F0 ov {σ with heap:=σ.heap.set s (.iter str pos')} a {w with heap:=w.heap.setIfInBounds b (.stringIter sb pos')} j tk F:=
 h.setObj hs hb (fun _ e=>by cases e) (fun _ _ _ e=>by cases e) (fun _ _ _ e=>by cases e) (fun e=>by cases e) (fun _ e=>by cases e) (fun _ _ e=>by cases e; exact ⟨sb,rfl,hsb⟩) (fun _ _ _ e=>by cases e)
theorem Tok.eq_iff {k k' : Tok} : Tok.eq k k' = true↔k=k' := by
 obtain ⟨a,b,c⟩:=k
 obtain ⟨a',b',c'⟩:=k'
 simp [Tok.eq,Nat.beq_eq]
theorem CRep.kill {c:Cell E} {v:Value} (k:Tok) (h:CRep w j tk F c v):CRep w j (fun q=>if q=k then none else tk q) F (c.kill k) v:=by
 cases c with
 | tok k' t xs=>
   simp only [Cell.kill]
   split
   ·exact h.1
   ·rename_i hne
    refine ⟨h.1,?_⟩
    have:k' ≠ k:=fun e=>by rw [Tok.eq_iff.2 e] at hne; cases hne
    simp only [if_neg this]
    exact h.2
 | rw s e p=>
   simp only [Cell.kill]
   split
   ·trivial
   ·rename_i hne
    have:rkey s e≠k:=fun e' => by rw [Tok.eq_iff.2 e'] at hne; cases hne
    exact h.move (fun _ _ hf=>hf) (Agree.refl _ _) (fun _ _ hj=>hj) (fun _ _ _ e=>by cases e) fun s' e' p' u he hk=>by
     cases he
     show (if rkey s e=k then none else tk (rkey s e))=some u
     rw [if_neg this]; exact hk
 | _=>exact h
theorem LRep.kill (k:Tok):∀ {cs:List (Cell E)} {vs:List Value},LRep w j tk F cs vs->LRep w j (fun q=>if q=k then none else tk q) F (cs.map (·.kill k)) vs
 | [],[],_=>trivial
 | _::_,_::_,h=>⟨h.1.kill k,LRep.kill k h.2⟩
 | [],_::_,h=>h.elim
 | _::_,[],h=>h.elim
theorem VRep.kill (k:Tok) {x:Bool×List (Cell E)} {v:Value} (h:VRep w j tk F x v):VRep w j (fun q=>if q=k then none else tk q) F (x.1,x.2.map (·.kill k)) v:=by
 obtain ⟨b,cs⟩:=x
 cases b with
 | true=>obtain ⟨vs,h1,h2⟩:=h; exact ⟨vs,h1,h2.kill k⟩
 | false=>
   obtain ⟨c,h1,h2⟩:=h
   subst h1
   exact ⟨c.kill k,rfl,h2.kill k⟩
theorem VReps.kill (k:Tok):∀ {xs:List (Bool×List (Cell E))} {vs:List Value},VReps w j tk F xs vs->VReps w j (fun q=>if q=k then none else tk q) F (xs.map fun v=>(v.1,v.2.map (·.kill k))) vs
 | [],[],_=>trivial
 | _::_,_::_,h=>⟨h.1.kill k,VReps.kill k h.2⟩
 | [],_::_,h=>h.elim
 | _::_,[],h=>h.elim
theorem HRep.kill (k:Tok) {x:Hold E} {v:Value} (h:HRep w j tk F x v):HRep w j (fun q=>if q=k then none else tk q) F (x.kill k) v:=by
 cases x with
 | one c=>exact CRep.kill k h
 | agg cs=>obtain ⟨vs,h1,h2⟩:=h; exact ⟨vs,h1,h2.kill k⟩
 | tup xs=>obtain ⟨vs,h1,h2⟩:=h; exact ⟨vs,h1,h2.kill k⟩
theorem Sim.drop (h:Sim P base w0 F0 ov σ a w j tk F) (k:Tok):Sim P base w0 F0 ov (σ.kill k) a w j (fun q=>if q=k then none else tk q) F where
 tab:=h.tab
 below:=h.below
 size:=h.size
 Fold:=h.Fold
 Fnew:=h.Fnew
 Flt:=h.Flt
 agr:=h.agr
 frn:=fun q hq=>by
  obtain ⟨h1,h2,h3,h4,h5⟩:=h.frn q hq
  exact ⟨h1,h2,h3,fun k' v hv=>by
   split at hv
   ·cases hv
   ·exact h4 k' v hv,h5⟩
 outs:=h.outs.map _ fun _ _ _ hr=>hr.kill k
 itq:=h.itq
 defers:=h.defers
 mks:=h.mks
 len:=by simp [St.kill,h.len]
 tmps:=fun i x v hx hv=>by
  simp only [St.kill,List.getElem?_map,Option.map_eq_some_iff] at hx
  obtain ⟨y,hy,rfl⟩:=hx
  exact (h.tmps i y v hy hv).kill k
 boxes:=fun s cs hs=>by
  simp only [St.kill,List.getElem?_map,Option.map_eq_some_iff] at hs
  obtain ⟨y,hy,e⟩:=hs
  cases y with
  | gone=>cases e
  | iter _ _=>cases e
  | mp _ _ _=>cases e
  | rw s' e' t xs=>simp only [Blk.kill] at e; split at e <;> cases e
  | cells cs'=>
    cases e
    obtain ⟨b,vs,T,h1,h2,h3⟩:=h.boxes s cs' hy
    exact ⟨b,vs,T,h1,h2,h3.kill k⟩
 iters:=fun s str pos hs=>by
  simp only [St.kill,List.getElem?_map,Option.map_eq_some_iff] at hs
  obtain ⟨y,hy,e⟩:=hs
  cases y with
  | gone=>cases e
  | cells cs' => cases e
  | mp _ _ _=>cases e
  | rw s' e' t xs=>simp only [Blk.kill] at e; split at e <;> cases e
  | iter _ _=>cases e; exact h.iters s str pos hy
 maps:=fun s kt vt m hs=>by
  simp only [St.kill,List.getElem?_map,Option.map_eq_some_iff] at hs
  obtain ⟨y,hy,e⟩:=hs
  cases y with
  | gone=>cases e
  | cells cs' => cases e
  | iter _ _=>cases e
  | rw s' e' t xs=>simp only [Blk.kill] at e; split at e <;> cases e
  | mp _ _ _=>cases e; exact h.maps s kt vt m hy
 rows:=fun m s e τ xs hs=>by
  simp only [St.kill,List.getElem?_map,Option.map_eq_some_iff] at hs
  obtain ⟨y,hy,e1⟩:=hs
  cases y with
  | rw s' e' t xs'=>
    simp only [Blk.kill] at e1
    split at e1
    ·cases e1
    ·rename_i hne
     cases e1
     obtain ⟨h1,h2⟩:=h.rows m s e τ xs hy
     have:rkey s e≠k:=fun e' => by rw [Tok.eq_iff.2 e'] at hne; cases hne
     exact ⟨h1,h2.move (fun _ _ hf=>hf) (Agree.refl _ _) (fun v hv=>by rw [if_neg this]; exact hv) fun _ _ _ _ _=>⟨rfl,fun _ hf=>hf⟩⟩
  | _=>cases e1
 live:=fun s b hs=>by
  obtain ⟨h1,h2,⟨blk,h3,h4⟩,h5⟩:=h.live s b hs
  refine ⟨h1,h2,⟨blk.kill k,by simp [St.kill,h3],fun e => ?_⟩,h5⟩
  cases blk with
  | gone=>exact h4 rfl
  | rw s' e' t xs=>have:=(h.rows s s' e' t xs h3).1.1; rw [hs] at this; cases this
  | _=>cases e
 inj:=h.inj
 toks:=fun q v hq=>by
  split at hq
  ·cases hq
  ·exact h.toks q v hq
 apart:=fun q q' v v' g hq hq' => by
  split at hq
  ·cases hq
  ·split at hq'
   ·cases hq'
   ·exact h.apart q q' v v' g hq hq'
theorem CRep.addTok {c:Cell E} {v:Value} {k:Tok} (u:Value) (hn:c.hasD k.1=false) (hF:∀ b o,F b o->F' b o) (h:CRep w j tk F c v) :
  CRep w j (fun q=>if q=k then some u else tk q) F' c v:=by
 refine h.move hF (Agree.refl _ _) (fun _ _ hj=>hj) ?_ ?_
 ·intro k' t xs e hk
  subst e
  have:k' ≠ k:=fun e=>by subst e; simp [Cell.hasD] at hn
  simp only [if_neg this]
  exact hk
 ·intro s e p u' he hk
  subst he
  have:rkey s e≠k:=fun e' => by subst e'; simp [Cell.hasD,rkey] at hn
  show (if rkey s e=k then some u else tk (rkey s e))=some u'
  rw [if_neg this]
  exact hk
theorem LRep.addTok {k:Tok} (u:Value) (hF:∀ b o,F b o->F' b o):∀ {cs:List (Cell E)} {vs:List Value},cs.any (·.hasD k.1)=false->LRep w j tk F cs vs->LRep w j (fun q=>if q=k then some u else tk q) F' cs vs
 | [],[],_,_=>trivial
 | _::_,_::_,hn,h=>by
   simp only [List.any_cons,Bool.or_eq_false_iff] at hn
   exact ⟨h.1.addTok u hn.1 hF,LRep.addTok u hF hn.2 h.2⟩
 | [],_::_,_,h=>h.elim
 | _::_,[],_,h=>h.elim
theorem VReps.addTok {k:Tok} (u:Value) (hF:∀ b o,F b o->F' b o):∀ {xs:List (Bool×List (Cell E))} {vs:List Value},(xs.any fun v=>v.2.any (·.hasD k.1))=false->VReps w j tk F xs vs ->
  VReps w j (fun q=>if q=k then some u else tk q) F' xs vs
 | [],[],_,_=>trivial
 | (true,_)::_,_::_,hn,h=>by
   simp only [List.any_cons,Bool.or_eq_false_iff] at hn
   obtain ⟨⟨us,h1,h2⟩,h3⟩:=h
   exact ⟨⟨us,h1,h2.addTok u hF hn.1⟩,VReps.addTok u hF hn.2 h3⟩
 | (false,_)::_,_::_,hn,h=>by
   simp only [List.any_cons,Bool.or_eq_false_iff] at hn
   obtain ⟨⟨c,h1,h2⟩,h3⟩:=h
   subst h1
   simp only [List.any_cons,List.any_nil,Bool.or_false] at hn
   exact ⟨⟨c,rfl,h2.addTok u hn.1 hF⟩,VReps.addTok u hF hn.2 h3⟩
 | [],_::_,_,h=>h.elim
 | _::_,[],_,h=>by cases ‹Bool×List (Cell E)› with | mk b _=>cases b <;> exact h.elim
theorem HRep.addTok {x:Hold E} {v:Value} {k:Tok} (u:Value) (hn:x.hasD k.1=false) (hF:∀ b o,F b o->F' b o) (h:HRep w j tk F x v) :
  HRep w j (fun q=>if q=k then some u else tk q) F' x v:=by
 cases x with
 | one c=>exact CRep.addTok u hn hF h
 | agg cs=>obtain ⟨vs,h1,h2⟩:=h; exact ⟨vs,h1,h2.addTok u hF hn⟩
 | tup xs=>obtain ⟨vs,h1,h2⟩:=h; exact ⟨vs,h1,h2.addTok u hF hn⟩
theorem Sim.addTok (h:Sim P base w0 F0 ov σ a w j tk F) {k:Tok} {v:Value} {i:TypeInfo} {n:Nat} {xs:List Value} (hn:σ.hasD k.1=false)
  (hi:P.info? k.2.2=some i) (ho:w.ownsRow base k.2.2 i.size v n xs) (hs:∀ g,v.ownBlock=some g->(∀ s,j s≠some g)/\(∀ o,F g o->o<n*i.size)/\(∀ q u,tk q=some u->u.ownBlock≠some g) /\ ¬ F0.fn g) :
  Sim P base w0 F0 ov σ a w j (fun q=>if q=k then some v else tk q) (fun b o=>F b o\/(v.ownBlock=some b/\o<n*i.size)):=by
 have hF:∀ b o,F b o->(F b o\/(v.ownBlock=some b/\o<n*i.size)):=fun _ _ h => .inl h
 have hn1:∀ (m:Nat) (x:Hold E),σ.tmps[m]? = some x->x.hasD k.1=false:=by
  intro m x hx
  simp only [St.hasD,Bool.or_eq_false_iff,List.any_eq_false] at hn
  exact Bool.eq_false_iff.2 (hn.1.1 x (List.mem_of_getElem? hx))
 have hn2:∀ (m:Nat) (cs:List (Cell E)),σ.heap[m]? = some (.cells cs)->cs.any (·.hasD k.1)=false:=by
  intro m cs hx
  simp only [St.hasD,Bool.or_eq_false_iff,List.any_eq_false] at hn
  exact Bool.eq_false_iff.2 (hn.1.2 _ (List.mem_of_getElem? hx))
 have hn3:∀ x ∈ σ.out,x.hasD k.1=false:=by
  intro x hx
  simp only [St.hasD,Bool.or_eq_false_iff,List.any_eq_false] at hn
  exact Bool.eq_false_iff.2 (hn.2 x hx)
 exact {
  tab:=E.tabM _ _ _ _ h.tab hF (Agree.refl _ _)
  below:=h.below,size:=h.size
  Fold:=fun b o hf => .inl (h.Fold b o hf)
  Fnew:=fun b o hf=>by
   rcases hf with hf | ⟨hf,_⟩
   ·exact h.Fnew b o hf
   ·exact .inr ⟨(ho.lt b hf).1,(hs b hf).2.2.2⟩
  Flt:=fun b o hf=>by
   rcases hf with hf | ⟨hf,_⟩
   ·exact h.Flt b o hf
   ·exact (ho.lt b hf).2
  agr:=h.agr
  frn:=fun q hq=>by
   obtain ⟨h1,h2,h3,h4,h5⟩:=h.frn q hq
   exact ⟨h1,h2,h3,fun k' u hu=>by
    split at hu
    ·cases hu
     exact fun e=>(hs q e).2.2.2 hq
    ·exact h4 k' u hu,h5⟩
  itq:=h.itq
  outs:=h.outs.imp fun x hx _ hr=>hr.addTok v (hn3 x hx) hF
  defers:=h.defers,mks:=h.mks,len:=h.len
  tmps:=fun m x u hx hu=>(h.tmps m x u hx hu).addTok v (hn1 m x hx) hF
  boxes:=fun s cs hc=>by
   obtain ⟨b,vs,T,h1,h2,h3⟩:=h.boxes s cs hc
   exact ⟨b,vs,T,h1,h2,h3.addTok v hF (hn2 s cs hc)⟩
  iters:=h.iters
  maps:=fun s kt vt m hs=>by
   obtain ⟨b,es,cl,h1,h2,h3⟩:=h.maps s kt vt m hs
   exact ⟨b,es,cl,h1,h2,h3.mono hF (Agree.refl _ _)⟩
  rows:=fun m s e τ ys hs' => by
   obtain ⟨h1,h2⟩:=h.rows m s e τ ys hs'
   have hne:rkey s e≠k:=by
    intro e'
    have:(Blk.rw s e τ ys:Blk E).hasD k.1=false:=by
     simp only [St.hasD,Bool.or_eq_false_iff,List.any_eq_false] at hn
     exact Bool.eq_false_iff.2 (hn.1.2 _ (List.mem_of_getElem? hs'))
    subst e'
    simp [Blk.hasD,rkey] at this
   refine ⟨h1,h2.move hF (Agree.refl _ _) (fun u hu=>by rw [if_neg hne]; exact hu) fun u g hu hg _=>⟨rfl,fun o hf => ?_⟩⟩
   rcases hf with hf | ⟨hf,_⟩
   ·exact hf
   ·exact absurd hg ((hs g hf).2.2.1 _ u hu)
  live:=fun s b hb=>by
   obtain ⟨h1,h2,h3⟩:=h.live s b hb
   refine ⟨h1,fun o hf => ?_,h3⟩
   rcases hf with hf | ⟨hf,_⟩
   ·exact h2 o hf
   ·exact (hs b hf).1 s hb
  inj:=h.inj
  toks:=fun q u hq=>by
   split at hq
   ·rename_i e
    subst e
    cases hq
    refine ⟨i,n,xs,hi,ho,fun g hg=>⟨fun o hf => ?_,(hs g hg).1⟩⟩
    rcases hf with hf | ⟨_,hf⟩
    ·exact (hs g hg).2.1 o hf
    ·exact hf
   ·obtain ⟨i',n',xs',h1,h2,h3⟩:=h.toks q u hq
    refine ⟨i',n',xs',h1,h2,fun g hg=>⟨fun o hf => ?_,(h3 g hg).2⟩⟩
    rcases hf with hf | ⟨hf,_⟩
    ·exact (h3 g hg).1 o hf
    ·exact absurd hg ((hs g hf).2.2.1 q u hq)
  apart:=fun q q' u u' g hq hq' hg hg' => by
   split at hq
   ·rename_i e
    split at hq'
    ·rename_i e'; rw [e,e']
    ·cases hq; exact absurd hg' ((hs g hg).2.2.1 q' u' hq')
   ·split at hq'
    ·cases hq'; exact absurd hg ((hs g hg').2.2.1 q u hq)
    ·exact h.apart q q' u u' g hq hq' hg hg'}
theorem Sim.moreF (h:Sim P base w0 F0 ov σ a w j tk F) (h1:∀ b o,F b o->F' b o) (h2:∀ b o,F' b o->F b o\/(base<=b/\b<w.heap.size/\(∀ s,j s≠some b)/\(∀ k v,tk k=some v->v.ownBlock≠some b) /\ ¬ F0.fn b)) :
  Sim P base w0 F0 ov σ a w j tk F' where
 tab:=E.tabM _ _ _ _ h.tab h1 (Agree.refl _ _)
 below:=h.below
 size:=h.size
 Fold:=fun b o hf=>h1 b o (h.Fold b o hf)
 Fnew:=fun b o hf=>by
  rcases h2 b o hf with hf | hf
  ·exact h.Fnew b o hf
  ·exact .inr ⟨hf.1,hf.2.2.2.2⟩
 Flt:=fun b o hf=>by
  rcases h2 b o hf with hf | hf
  ·exact h.Flt b o hf
  ·exact hf.2.1
 agr:=h.agr
 frn:=h.frn
 itq:=h.itq
 outs:=h.outs.mono h1 (Agree.refl _ _) (fun _ _ hj=>hj) (fun _ _ ht=>ht)
 defers:=h.defers
 mks:=h.mks
 len:=h.len
 tmps:=fun m x u hx hu=>(h.tmps m x u hx hu).mono h1 (Agree.refl _ _) (fun _ _ hj=>hj) (fun _ _ ht=>ht)
 boxes:=fun s cs hc=>by
  obtain ⟨b,vs,T,e1,e2,e3⟩:=h.boxes s cs hc
  exact ⟨b,vs,T,e1,e2,e3.mono h1 (Agree.refl _ _) (fun _ _ hj=>hj) (fun _ _ ht=>ht)⟩
 iters:=h.iters
 maps:=fun s kt vt m hs=>by
  obtain ⟨b,es,cl,e1,e2,e3⟩:=h.maps s kt vt m hs
  exact ⟨b,es,cl,e1,e2,e3.mono h1 (Agree.refl _ _)⟩
 rows:=fun m s e τ xs hs=>by
  obtain ⟨e1,e2⟩:=h.rows m s e τ xs hs
  refine ⟨e1,e2.move h1 (Agree.refl _ _) (fun _ hv=>hv) fun v g hv hg _=>⟨rfl,fun o hf => ?_⟩⟩
  rcases h2 g o hf with hf | hf
  ·exact hf
  ·exact absurd hg (hf.2.2.2.1 _ v hv)
 live:=fun s b hs=>by
  obtain ⟨e1,e2,e3⟩:=h.live s b hs
  refine ⟨e1,fun q hf => ?_,e3⟩
  rcases h2 b q hf with hf | hf
  ·exact e2 q hf
  ·exact hf.2.2.1 s hs
 inj:=h.inj
 toks:=fun q u hq=>by
  obtain ⟨i,m,xs,e1,e2,e3⟩:=h.toks q u hq
  refine ⟨i,m,xs,e1,e2,fun g hg=>⟨fun p hf => ?_,(e3 g hg).2⟩⟩
  rcases h2 g p hf with hf | hf
  ·exact (e3 g hg).1 p hf
  ·exact absurd hg (hf.2.2.2.1 q u hq)
 apart:=h.apart
end
end Go.Ai

namespace Go.Ai
open Go.RowKit
section
variable {N:Type} [DecidableEq N] {E:Env N} {P:Program}
def flatEq:Value->Value->Bool
 | .slice none 0 0,.slice none 0 0=>true
 | .pointer none,.pointer none=>true
 | .nilIface,.nilIface=>true
 | .nilFunc,.nilFunc=>true
 | .map none,.map none=>true
 | .chan none,.chan none=>true
 | _,_=>false
def eqFlat:TV E->Value->Bool
 | .int k n,.int k' n' => decide (k=k')&&decide (n=n')
 | .bool b,.bool b' => b == b'
 | .str l,.string s=>decide (s.data.toList=l)
 | .val v,v' => flatEq v v'
 | _,_=>false
def chkTD (P:Program) (t:Nat):TD->Bool
 | .slice e=>match P.underlying t with
   | some (.slice e')=>Nat.beq e' e
   | _=>false
 | .struct fs=>match P.underlying t with
   | some (.struct fields)=>Nat.beq fields.toList.length fs.length&&(List.zip fields.toList fs).all fun x=>Nat.beq x.1.offset x.2.1&&Nat.beq x.1.type x.2.2.1&&(match P.info? x.2.2.1 with
     | some i=>Nat.beq i.size x.2.2.2
     | none=>false)
   | _=>false
 | .str=>match P.underlying t with
   | some .string=>true
   | _=>false
 | .bool=>match P.underlying t with
   | some .bool=>true
   | _=>false
 | .int k=>match P.underlying t with
   | some (.int k')=>decide (k' = k)
   | _=>false
 | .arr n e=>match P.underlying t with
   | some (.array n' e')=>Nat.beq n' n&&Nat.beq e' e
   | _=>false
 | .map k e=>match P.underlying t with
   | some (.map k' e')=>Nat.beq k' k&&Nat.beq e' e
   | _=>false
 | .other=>true
def chkEq (P:Program) (t:Nat):TD->Bool
 | .struct _=>match P.underlying t with
   | some (.struct fields) => !P.stoodInHeld t && !P.eqGuardType P.depth t&&(List.zip (List.range fields.toList.length) fields.toList).all fun x=>Nat.beq x.2.offset x.1 && !(x.2.name == "_")
   | _=>false
 | .arr _ e => !P.eqGuardType P.depth t&&(match P.info? e with
   | some i=>Nat.beq i.size 1
   | none=>false)
 | _=>false
def aggD:Option TypeDesc->Bool
 | some (.struct _)=>true
 | some (.array _ _)=>true
 | _=>false
def aggV:Value->Bool
 | .agg _=>true
 | _=>false
def chk (P:Program) (t:Nat) (ti:TI E):Bool:=
 match P.info? t,P.underlying t with
 | some i,some d=>Nat.beq i.size ti.size&&Nat.beq i.bytes ti.bytes&&chkTD P t ti.d&&(aggD (some d) == ti.agg) &&
   (match i.zero with
    | some z=>(aggV z == ti.agg)&&Nat.beq z.cells.toList.length ti.zero.length&&Nat.beq ti.zero.length ti.size&&(List.zip ti.zero z.cells.toList).all fun x=>eqFlat x.1 x.2
    | none=>false) &&
   (match ti.ty with
    | some τ=>Nat.beq (τ.size E) ti.size&&(τ.one == !ti.agg)
    | none=>true)&&(!ti.eq||chkEq P t ti.d)
 | _,_=>false
def COk (P:Program) (C:Ctx E):Prop := ∀ t ti,C.ti t=some ti->chk P t ti=true
theorem eqFlat_rep {x:TV E} {v:Value} (w:World) (F:Fz) (h:eqFlat x v=true):Rep w F x v:=by
 cases x with
 | int k n=>cases v <;> simp only [eqFlat,Bool.and_eq_true,decide_eq_true_eq,Bool.false_eq_true] at h; obtain ⟨rfl,rfl⟩:=h; exact .int _ _
 | bool b=>cases v <;> simp only [eqFlat,beq_iff_eq,Bool.false_eq_true] at h; subst h; exact .bool _
 | str l=>cases v <;> simp only [eqFlat,decide_eq_true_eq,Bool.false_eq_true] at h; subst h; exact .str _
 | sl t xs=>cases v <;> simp [eqFlat] at h
 | ref n x=>cases v <;> simp [eqFlat] at h
 | spec i=>cases v <;> simp [eqFlat] at h
 | val u=>
   simp only [eqFlat] at h
   have:u=v/\u.oneCell' = true:=by
    unfold flatEq at h
    split at h <;> first | exact ⟨rfl,rfl⟩ | exact absurd h (by simp)
   rw [<- this.1]
   exact .val _ this.2
structure TOk (P:Program) (t:Nat) (ti:TI E) (i:TypeInfo) (d:TypeDesc):Prop where
 info:P.info? t=some i
 under:P.underlying t=some d
 size:i.size=ti.size
 bytes:i.bytes=ti.bytes
 agg:aggD (some d)=ti.agg
 zero:∃ z,i.zero=some z/\aggV z=ti.agg /\ ∀ w F,TReps (E:=E) w F ti.zero z.cells.toList
 zlen:ti.zero.length=ti.size
 ty:∀ τ,ti.ty=some τ->τ.size E=ti.size/\τ.one = !ti.agg
theorem tok_of {C:Ctx E} (hC:COk P C) {t:Nat} {ti:TI E} (h:C.ti t=some ti):∃ i d,TOk P t ti i d/\chkTD P t ti.d=true:=by
 have hc:=hC t ti h
 unfold chk at hc
 split at hc
 ·rename_i i d hi hd
  simp only [Bool.and_eq_true,Nat.beq_eq,beq_iff_eq] at hc
  obtain ⟨⟨⟨⟨⟨⟨h1,h2⟩,h3⟩,h4⟩,h5⟩,h6⟩,_⟩:=hc
  refine ⟨i,d,⟨hi,hd,h1,h2,h4,?_,?_,?_⟩,h3⟩
  ·cases hz:i.zero with
   | none=>rw [hz] at h5; cases h5
   | some z=>
     rw [hz] at h5
     simp only [Bool.and_eq_true,Nat.beq_eq] at h5
     refine ⟨z,rfl,eq_of_beq h5.1.1.1,fun w F=>TReps.of_get h5.1.1.2.symm fun m x v hx hv => ?_⟩
     refine eqFlat_rep w F (List.all_eq_true.1 h5.2 (x,v) ?_)
     refine List.mem_of_getElem? (i:=m) ?_
     simp [List.getElem?_zip_eq_some,hx,hv]
  ·cases hz:i.zero with
   | none=>rw [hz] at h5; cases h5
   | some z=>
     rw [hz] at h5
     simp only [Bool.and_eq_true,Nat.beq_eq] at h5
     exact h5.1.2
  ·intro τ hτ
   rw [hτ] at h6
   simpa using h6
 ·cases hc
theorem eq_of {C:Ctx E} (hC:COk P C) {t:Nat} {ti:TI E} (h:C.ti t=some ti) (he:ti.eq=true):chkEq P t ti.d=true:=by
 have hc:=hC t ti h
 unfold chk at hc
 split at hc
 ·simp only [Bool.and_eq_true,he,Bool.not_true,Bool.false_or] at hc
  exact hc.2
 ·cases hc
theorem under_arr {t n e:Nat} (h:chkTD P t (.arr n e)=true):P.underlying t=some (.array n e):=by
 simp only [chkTD] at h
 split at h
 ·rename_i n' e' he
  simp only [Bool.and_eq_true] at h
  rw [he,Nat.eq_of_beq_eq_true h.1,Nat.eq_of_beq_eq_true h.2]
 ·cases h
theorem under_int {t:Nat} {k:IntKind} (h:chkTD P t (.int k)=true):P.underlying t=some (.int k):=by
 simp only [chkTD] at h
 split at h
 ·rename_i k' hk
  rw [hk,of_decide_eq_true h]
 ·cases h
theorem under_bool {t:Nat} (h:chkTD P t .bool=true):P.underlying t=some .bool:=by
 simp only [chkTD] at h
 split at h
 ·assumption
 ·cases h
theorem under_slice {t e:Nat} (h:chkTD P t (.slice e)=true):P.underlying t=some (.slice e):=by
 simp only [chkTD] at h
 split at h
 ·rename_i e' he
  rw [he,Nat.eq_of_beq_eq_true h]
 ·cases h
theorem under_str {t:Nat} (h:chkTD P t .str=true):P.underlying t=some .string:=by
 simp only [chkTD] at h
 split at h
 ·assumption
 ·cases h
theorem under_map {t k e:Nat} (h:chkTD P t (.map k e)=true):P.underlying t=some (.map k e):=by
 simp only [chkTD] at h
 split at h
 ·rename_i k' e' hu
  simp only [Bool.and_eq_true,Nat.beq_eq] at h
  obtain ⟨rfl,rfl⟩:=h
  exact hu
 ·cases h
theorem under_struct {t:Nat} {fs:List (Nat×Nat×Nat)} (h:chkTD P t (.struct fs)=true):∃ fields,P.underlying t=some (.struct fields)/\fields.toList.length=fs.length /\
  ∀ (m off ty sz:Nat),fs[m]? = some (off,ty,sz) -> ∃ f i,fields[m]? = some f/\f.offset=off/\f.type=ty/\P.info? ty=some i/\i.size=sz:=by
 simp only [chkTD] at h
 split at h
 ·rename_i fields hf
  simp only [Bool.and_eq_true,Nat.beq_eq] at h
  refine ⟨fields,hf,h.1,fun m off ty sz hm => ?_⟩
  have hlt:m<fields.toList.length:=by rw [h.1]; exact (List.getElem?_eq_some_iff.1 hm).1
  have hget:fields.toList[m]? = some fields.toList[m]:=List.getElem?_eq_getElem hlt
  have hx:=List.all_eq_true.1 h.2 (fields.toList[m],(off,ty,sz)) (List.mem_of_getElem? (i:=m) (by simp [List.getElem?_zip_eq_some,hm]))
  simp only [Bool.and_eq_true,Nat.beq_eq] at hx
  obtain ⟨⟨h1,h2⟩,h3⟩:=hx
  cases hi:P.info? ty with
  | none=>rw [hi] at h3; cases h3
  | some i=>
    rw [hi] at h3
    refine ⟨fields.toList[m],i,?_,h1,h2,rfl,by simpa using h3⟩
    rw [<- Array.getElem?_toList]; exact hget
 ·cases h
section
variable {base:Nat} {ov:Ov E} {w0 w:World} {F0:Fx} {F:Fz} {σ:St E} {a:Act} {j:Sites} {tk:Toks}
theorem ofConst_rep (v:Value):CRep (E:=E) w j tk F (ofConst v) v:=by
 cases v <;> first | exact Rep.int _ _ | exact Rep.bool _ | exact Rep.str _ | exact trivial | exact Rep.val _ rfl
theorem constH_rep (v:Value):HRep (E:=E) w j tk F (constH v) v:=by
 unfold constH
 split
 ·rename_i cs
  refine ⟨cs.toList,by simp,LRep.of_get (by simp) fun i c v hc hv => ?_⟩
  simp only [List.getElem?_map,Option.map_eq_some_iff] at hc
  obtain ⟨u,hu,rfl⟩:=hc
  rw [hu] at hv
  cases hv
  exact ofConst_rep _
 ·exact ofConst_rep _
theorem Sim.get (h:Sim P base w0 F0 ov σ a w j tk F) (t:Nat):HRep w j tk F (σ.get t) (a.tmps.getD t undef):=by
 unfold St.get
 by_cases hlt:t<σ.tmps.length
 ·have h1:σ.tmps[t]? = some σ.tmps[t]:=List.getElem?_eq_getElem hlt
  have hlt' : t<a.tmps.size:=by rw [h.len]; exact hlt
  have h2:a.tmps[t]? = some a.tmps[t]:=Array.getElem?_eq_getElem hlt'
  have:=h.tmps t _ _ h1 h2
  simpa [List.getD,h1,Array.getD,hlt'] using this
 ·have h1:σ.tmps[t]? = none:=List.getElem?_eq_none (by omega)
  simp only [List.getD,h1]
  exact trivial
theorem Sim.ev (h:Sim P base w0 F0 ov σ a w j tk F) (x:Operand):HRep w j tk F (σ.ev x) (a.eval x):=by
 cases x with
 | tmp t=>exact h.get t
 | const v=>exact constH_rep v
 | global g=>exact Rep.val _ rfl
 | func f=>exact ⟨[],[],rfl,trivial,trivial⟩
theorem Sim.evL (h:Sim P base w0 F0 ov σ a w j tk F) (xs:List Operand):∀ (i:Nat) (hd:Hold E),(Ai.evL σ xs)[i]? = some hd -> ∃ x,xs[i]? = some x/\HRep w j tk F hd (a.eval x):=by
 induction xs with
 | nil=>intro i hd hh; simp [Ai.evL] at hh
 | cons x xs ih=>
   intro i hd hh
   cases i with
   | zero=>simp [Ai.evL] at hh; subst hh; exact ⟨x,rfl,h.ev x⟩
   | succ i=>simpa using ih i hd (by simpa [Ai.evL] using hh)
theorem guard_int (op:BinOp) (t:TypeId) (x y:Operand) (k k' : IntKind) (m n:Int):(eqGuard op t x y (.int k m) (.int k' n)).run P w = .ok () w:=by
 unfold eqGuard
 split <;> rfl
theorem guard_str (op:BinOp) (t:TypeId) (x y:Operand) (s s' : ByteArray):(eqGuard op t x y (.string s) (.string s')).run P w = .ok () w:=by
 unfold eqGuard
 split <;> rfl
variable {β:Type} {r:β}
theorem cond_none_left {c:Bool} {X:Option β} (h:cond c none X=some r):c=false/\X=some r:=by
 cases c with
 | true=>cases h
 | false=>exact ⟨rfl,h⟩
theorem cond_none_right {c:Bool} {X:Option β} (h:cond c X none=some r):c=true/\X=some r:=by
 cases c with
 | true=>exact ⟨rfl,h⟩
 | false=>cases h
theorem binInt_sound {op:BinOp} {k:IntKind} {m n:Int} {t:TypeId} {K:TV E->Option β} (h:binInt op k m n K=some r) :
  ∃ x v,(binOp op t (.int k m) (.int k n)).run P w = .ok v w/\Rep w F x v/\K x=some r:=by
 cases op <;> simp only [binInt] at h
 case add=>exact ⟨_,_,by simp [binOp,Op.intArith],.int _ _,h⟩
 case sub=>exact ⟨_,_,by simp [binOp,Op.intArith],.int _ _,h⟩
 case mul=>exact ⟨_,_,by simp [binOp,Op.intArith],.int _ _,h⟩
 case quo=>
  obtain ⟨h1,h2⟩:=cond_none_left h
  have hn : ¬ n=0:=by simpa using h1
  exact ⟨_,_,by simp [binOp,Op.intDiv,hn],.int _ _,h2⟩
 case rem=>
  obtain ⟨h1,h2⟩:=cond_none_left h
  have hn : ¬ n=0:=by simpa using h1
  exact ⟨_,_,by simp [binOp,Op.intDiv,hn],.int _ _,h2⟩
 case and=>exact ⟨_,_,by simp [binOp,Op.intBits],.int _ _,h⟩
 case or=>exact ⟨_,_,by simp [binOp,Op.intBits],.int _ _,h⟩
 case xor=>exact ⟨_,_,by simp [binOp,Op.intBits],.int _ _,h⟩
 case andNot=>exact ⟨_,_,by simp [binOp,Op.intBits],.int _ _,h⟩
 case eql=>
  refine ⟨_,.bool (m == n),by simp [binOp,Op.intCmp],?_,h⟩
  have:(m == n)=decide (m=n):=by by_cases e:m=n <;> simp [e]
  rw [this]; exact .bool _
 case neq=>
  refine ⟨_,.bool (m != n),by simp [binOp,Op.intCmp],?_,h⟩
  have:(m != n) = !decide (m=n):=by by_cases e:m=n <;> simp [e]
  rw [this]; exact .bool _
 case lss=>exact ⟨_,.bool (decide (m<n)),by simp [binOp,Op.intCmp],.bool _,h⟩
 case leq=>exact ⟨_,.bool (decide (m<=n)),by simp [binOp,Op.intCmp],.bool _,h⟩
 case gtr=>exact ⟨_,.bool (decide (n<m)),by simp [binOp,Op.intCmp],.bool _,h⟩
 case geq=>exact ⟨_,.bool (decide (n<=m)),by simp [binOp,Op.intCmp],.bool _,h⟩
 all_goals cases h
theorem shiftInt_sound {op:BinOp} {k k' : IntKind} {m n:Int} {t:TypeId} {K:TV E->Option β} (h:shiftInt op k m n K=some r) :
  ∃ x v,(binOp op t (.int k m) (.int k' n)).run P w = .ok v w/\Rep w F x v/\K x=some r:=by
 cases op <;> simp only [shiftInt] at h
 case shl=>
  obtain ⟨h1,h2⟩:=cond_none_left h
  have hn : ¬ n<0:=by simpa using h1
  exact ⟨_,_,by simp [binOp,Op.shift,hn],.int _ _,h2⟩
 case shr=>
  obtain ⟨h1,h2⟩:=cond_none_left h
  have hn : ¬ n<0:=by simpa using h1
  exact ⟨_,_,by simp [binOp,Op.shift,hn],.int _ _,h2⟩
 all_goals cases h
theorem str_append (s s' : ByteArray):(s++s').data.toList=s.data.toList++s'.data.toList:=by
 rw [ByteArray.data_append]; simp
theorem beq_decide (s s' : ByteArray):(s.toList == s'.toList)=decide (s.data.toList=s'.data.toList):=by
 rw [Lib.toList_data,Lib.toList_data]
 rw [Bool.eq_iff_iff]; simp
theorem binStr_sound {op:BinOp} {s s' : ByteArray} {t:TypeId} {K:TV E->Option β} (h:binStr op s.data.toList s'.data.toList K=some r) :
  ∃ x v,(binOp op t (.string s) (.string s')).run P w = .ok v w/\Rep w F x v/\K x=some r:=by
 have hb:=beq_decide s s'
 have h1:=Lib.toList_data s
 have h2:=Lib.toList_data s'
 cases op <;> simp only [binStr] at h
 case add=>
  obtain ⟨hc,h⟩:=cond_none_right h
  have hc:s.size+s'.size<=1125899906842624:=by simpa using hc
  have hn : ¬ ((s.size:Int)+(s'.size:Int) > IntKind.i64.max):=by
   have:IntKind.i64.max=9223372036854775807:=by decide
   rw [this]; omega
  have hn' : (s.size:Int)+(s'.size:Int)<=IntKind.i64.max:=by omega
  refine ⟨_,.string (s++s'),by simp only [binOp,Op.stringOp]; rw [if_neg (by push_cast; exact hn)]; rfl,?_,h⟩
  rw [<- str_append]; exact .str _
 case eql=>exact ⟨_,_,by simp only [binOp,Op.stringOp]; rw [hb]; rfl,.bool _,h⟩
 case neq=>exact ⟨_,_,by simp only [binOp,Op.stringOp]; rw [hb]; rfl,.bool _,h⟩
 case lss=>exact ⟨_,_,by simp only [binOp,Op.stringOp]; rw [h1,h2]; rfl,.bool _,h⟩
 case leq=>exact ⟨_,_,by simp only [binOp,Op.stringOp]; rw [hb,h1,h2]; rfl,.bool _,h⟩
 case gtr=>exact ⟨_,_,by simp only [binOp,Op.stringOp]; rw [hb,h1,h2]; rfl,.bool _,h⟩
 case geq=>exact ⟨_,_,by simp only [binOp,Op.stringOp]; rw [h1,h2]; rfl,.bool _,h⟩
 all_goals cases h
theorem binTV_sound {op:BinOp} {x y:TV E} {u v:Value} {t:TypeId} {ox oy:Operand} {K:TV E->Option β} (hx:Rep w F x u) (hy:Rep w F y v) (h:binTV op x y K=some r) :
  ∃ z o,(do eqGuard op t ox oy u v; binOp op t u v:Sem Value).run P w = .ok o w/\Rep w F z o/\K z=some r:=by
 unfold binTV at h
 split at h
 ·rename_i k m k' n
  cases hx; cases hy
  simp only [Sem.run_bind,guard_int,Result.andThen_ok]
  split at h
  ·exact shiftInt_sound h
  ·exact shiftInt_sound h
  ·split at h
   ·rename_i hk
    have:k=k' := by simpa using hk
    subst this
    exact binInt_sound h
   ·cases h
 ·cases hx; cases hy
  simp only [Sem.run_bind,guard_str,Result.andThen_ok]
  exact binStr_sound h
 ·cases h
theorem repI {k:IntKind} {n:Int} {v:Value} (h:Rep w F (.int k n:TV E) v):v = .int k n:=by cases h; rfl
theorem repB {b:Bool} {v:Value} (h:Rep w F (.bool b:TV E) v):v = .bool b:=by cases h; rfl
theorem binC_sound {C:Ctx E} (hC:COk P C) {op:BinOp} {x y:TV E} {u v:Value} {t:TypeId} {ox oy:Operand} {K:TV E->Option β} (hx:Rep w F x u) (hy:Rep w F y v) (h:binC C t op x y K=some r) :
  ∃ z o,(do eqGuard op t ox oy u v; binOp op t u v:Sem Value).run P w = .ok o w/\Rep w F z o/\K z=some r:=by
 unfold binC at h
 split at h
 ·rename_i a b
  have hu:=repB hx
  have hv:=repB hy
  subst hu hv
  split at h
  ·rename_i ti hti
   obtain ⟨i,d,hT,hcd⟩:=tok_of hC hti
   have hg:(eqGuard op t ox oy (.bool a) (.bool b)).run P w = .ok () w:=by
    unfold eqGuard
    split <;> rfl
   have hd:decide (a=b)=(a == b):=by cases a <;> cases b <;> rfl
   split at h
   ·rename_i e
    rw [e] at hcd
    refine ⟨_,.bool (decide (a=b)),?_,.bool _,h⟩
    rw [hd]
    simp only [Sem.run_bind,hg,Result.andThen_ok,run_eql_bool w t a b (under_bool hcd)]
   ·rename_i e
    rw [e] at hcd
    refine ⟨_,.bool (!decide (a=b)),?_,.bool _,h⟩
    rw [hd]
    simp only [Sem.run_bind,hg,Result.andThen_ok,run_neq_bool w t a b (under_bool hcd)]
   ·cases h
  ·cases h
 ·exact binTV_sound hx hy h
theorem eqFs_sound {C:Ctx E} (hC:COk P C):∀ (ts:List Nat) (cs ds:List (Cell E)) (vs us:List Value) (b:Bool),eqFs C ts cs ds=some b->LRep w j tk F cs vs->LRep w j tk F ds us ->
  ∃ bs:List Bool,bs.length=ts.length/\vs.length=ts.length/\us.length=ts.length/\b=bs.all id /\ ∀ (i t:Nat) (u v:Value) (c:Bool),ts[i]? = some t->vs[i]? = some v->us[i]? = some u->bs[i]? = some c ->
    P.plainKey t=true /\ ∀ d,(Op.equalIn (d+1) t v u).run P w = .ok c w:=by
 intro ts
 induction ts with
 | nil=>
   intro cs ds vs us b h hc hd
   cases cs <;> cases ds <;> simp [eqFs] at h
   subst h
   cases vs with
   | nil=>cases us with
     | nil=>exact ⟨[],rfl,rfl,rfl,rfl,fun i t u v c h=>by simp at h⟩
     | cons _ _=>exact hd.elim
   | cons _ _=>exact hc.elim
 | cons t ts ih=>
   intro cs ds vs us b h hc hd
   cases cs with
   | nil=>simp [eqFs] at h
   | cons x cs=>
   cases ds with
   | nil=>simp [eqFs] at h
   | cons y ds=>
   cases vs with
   | nil=>exact hc.elim
   | cons v vs=>
   cases us with
   | nil=>exact hd.elim
   | cons u us=>
   simp only [eqFs] at h
   split at h
   ·rename_i ti r hti hr
    obtain ⟨bs,h1,h2,h3,h4,h5⟩:=ih cs ds vs us r hr hc.2 hd.2
    obtain ⟨_,_,_,htd⟩:=tok_of hC hti
    have fin:∀ (c:Bool),P.plainKey t=true->(∀ d,(Op.equalIn (d+1) t v u).run P w = .ok c w)->b=(c&&r) -> ∃ bs:List Bool,bs.length=(t::ts).length/\(v::vs).length=(t::ts).length/\(u::us).length=(t::ts).length/\b=bs.all id /\
      ∀ (i t' : Nat) (u' v' : Value) (c:Bool),(t::ts)[i]? = some t' -> (v::vs)[i]? = some v' -> (u::us)[i]? = some u' -> bs[i]? = some c->P.plainKey t' = true /\ ∀ d,(Op.equalIn (d+1) t' v' u').run P w = .ok c w:=by
     intro c hp he hb
     refine ⟨c::bs,by simp [h1],by simp [h2],by simp [h3],by rw [hb,h4]; rfl,?_⟩
     intro i t' u' v' c' e1 e2 e3 e4
     cases i with
     | zero=>simp at e1 e2 e3 e4; subst e1 e2 e3 e4; exact ⟨hp,he⟩
     | succ i=>exact h5 i t' u' v' c' (by simpa using e1) (by simpa using e2) (by simpa using e3) (by simpa using e4)
    split at h
    ·rename_i k0 k a k' a' hd0
     rw [hd0] at htd
     have hu:=under_int htd
     have hv:v = .int k a:=repI hc.1
     have hu' : u = .int k' a' := repI hd.1
     subst hv hu'
     split at h
     ·rename_i hk
      have:k=k' := of_decide_eq_true hk
      subst this
      refine fin (decide (a=a')) (by simp [Program.plainKey,hu]) (fun d => ?_) (by cases h; rfl)
      rw [run_equalIn_int w d t k k0 a a' hu]
      congr 1
     ·cases h
    ·rename_i a a' hd0
     rw [hd0] at htd
     have hu:=under_str htd
     obtain ⟨s,hs1,hs2⟩:∃ s:ByteArray,v = .string s/\s.data.toList=a:=by
      have:=hc.1
      generalize hv:v=vv at this
      cases this with
      | str s=>exact ⟨s,rfl,rfl⟩
     obtain ⟨s',hs1',hs2'⟩:∃ s:ByteArray,u = .string s/\s.data.toList=a' := by
      have:=hd.1
      generalize hv:u=vv at this
      cases this with
      | str s=>exact ⟨s,rfl,rfl⟩
     subst hs1 hs1'
     refine fin (decide (a=a')) (by simp [Program.plainKey,hu]) (fun d => ?_) (by cases h; rfl)
     rw [run_equalIn_string w d t s s' hu,ByteArray.toList_eq,ByteArray.toList_eq,hs2,hs2']
     exact congrArg (fun c=>Result.ok c w) (by rw [Bool.eq_iff_iff]; simp)
    ·rename_i a a' hd0
     rw [hd0] at htd
     have hu:=under_bool htd
     have hv:v = .bool a:=repB hc.1
     have hu' : u = .bool a' := repB hd.1
     subst hv hu'
     refine fin (decide (a=a')) (by simp [Program.plainKey,hu]) (fun d => ?_) (by cases h; rfl)
     rw [run_equalIn_bool' w d t a a' hu]
     congr 1
    ·cases h
   ·cases h
theorem eqFields_run {ts:List Nat} {bs:List Bool} {X Y:Array Value} {d:Nat} : ∀ (fields:List Field) (m:Nat),(∀ (i:Nat) (f:Field),fields[i]? = some f->f.offset=m+i/\(f.name == "_")=false/\ts[m+i]? = some f.type)->m+fields.length=ts.length ->
  bs.length=ts.length->X.size=ts.length->Y.size=ts.length ->
  (∀ (i t:Nat) (u v:Value) (c:Bool),ts[i]? = some t->X[i]? = some v->Y[i]? = some u->bs[i]? = some c->P.plainKey t=true /\ ∀ d,(Op.equalIn (d+1) t v u).run P w = .ok c w) ->
  (Op.eqFields (d+1) X Y fields).run P w = .ok ((bs.drop m).all id) w:=by
 intro fields
 induction fields with
 | nil=>
   intro m _ hm hb _ _ _
   rw [List.drop_of_length_le (by rw [hb,<- hm]; simp)]
   simp [Op.eqFields]
 | cons f fs ih=>
   intro m hf hm hb hX hY h
   have h0:=hf 0 f rfl
   have hlt:m<ts.length:=by rw [<- hm]; simp
   have hrec:=ih (m+1) (fun i g hg=>by have:=hf (i+1) g (by simpa using hg); rw [show m+1+i=m+(i+1) from by omega]; exact this) (by rw [<- hm]; simp; omega) hb hX hY h
   have e1:X[m]? = some X[m]:=Array.getElem?_eq_getElem (by omega)
   have e2:Y[m]? = some Y[m]:=Array.getElem?_eq_getElem (by omega)
   have e3:bs[m]? = some bs[m]:=List.getElem?_eq_getElem (by omega)
   have h1:=h m f.type _ _ _ (by simpa using h0.2.2) e1 e2 e3
   have hn:f.name ≠ "_":=by simpa using h0.2.1
   have ho:f.offset=m:=by simpa using h0.1
   have p1:=run_part_plain (P:=P) w h1.1 (xs:=X) (off:=f.offset) (by rw [ho]; exact e1)
   have p2:=run_part_plain (P:=P) w h1.1 (xs:=Y) (off:=f.offset) (by rw [ho]; exact e2)
   have hdrop:bs.drop m=bs[m]::bs.drop (m+1):=List.drop_eq_getElem_cons (by omega)
   simp only [Op.eqFields,hn,ne_eq,not_false_eq_true,if_true,Sem.run_bind,p1,p2,Result.andThen_ok,h1.2 d,hdrop,List.all_cons,id]
   cases bs[m] with
   | false=>simp
   | true=>simpa using hrec
theorem eqItems_run {n e:Nat} {bs:List Bool} {X Y:Array Value} {d:Nat} (hce:P.cellsOf e=1) (hb:bs.length=n) (hX:X.size=n) (hY:Y.size=n)
  (h:∀ (i t:Nat) (u v:Value) (c:Bool),(List.replicate n e)[i]? = some t->X[i]? = some v->Y[i]? = some u->bs[i]? = some c->P.plainKey t=true /\ ∀ d,(Op.equalIn (d+1) t v u).run P w = .ok c w) :
  ∀ (k m:Nat),m+k=n->(Op.eqItems (d+1) e (P.cellsOf e) X Y (List.range' m k)).run P w = .ok ((bs.drop m).all id) w:=by
 intro k
 induction k with
 | zero=>
   intro m hm
   rw [List.drop_of_length_le (by omega)]
   simp [Op.eqItems]
 | succ k ih=>
   intro m hm
   have hrec:=ih (m+1) (by omega)
   have e1:X[m]? = some X[m]:=Array.getElem?_eq_getElem (by omega)
   have e2:Y[m]? = some Y[m]:=Array.getElem?_eq_getElem (by omega)
   have e3:bs[m]? = some bs[m]:=List.getElem?_eq_getElem (by omega)
   have h1:=h m e _ _ _ (by simp [List.getElem?_replicate]; omega) e1 e2 e3
   have p1:=run_part_plain (P:=P) w h1.1 (xs:=X) (off:=m) e1
   have p2:=run_part_plain (P:=P) w h1.1 (xs:=Y) (off:=m) e2
   have hdrop:bs.drop m=bs[m]::bs.drop (m+1):=List.drop_eq_getElem_cons (by omega)
   rw [List.range'_succ]
   rw [hce] at hrec ⊢
   simp only [Op.eqItems,Nat.mul_one,Sem.run_bind,p1,p2,Result.andThen_ok,h1.2 d,hdrop,List.all_cons,id]
   cases bs[m] with
   | false=>simp
   | true=>simpa using hrec
theorem eqAgg_run {C:Ctx E} (hC:COk P C) {t:TypeId} {cs ds:List (Cell E)} {vs us:List Value} {ts:List Nat} (hL:LRep w j tk F cs vs) (hM:LRep w j tk F ds us)
  (ht:(C.ti t).bind eqTys=some ts) {b:Bool} (hb:eqFs C ts cs ds=some b):P.eqGuardType P.depth t=false/\(Op.equalIn 10000 t (.agg vs.toArray) (.agg us.toArray)).run P w = .ok b w:=by
 cases hti:C.ti t with
 | none=>rw [hti] at ht; cases ht
 | some ti=>
   rw [hti] at ht
   have ht:eqTys ti=some ts:=ht
   obtain ⟨bs,h1,h2,h3,h4,h5⟩:=eqFs_sound hC ts cs ds vs us b hb hL hM
   obtain ⟨_,_,_,htd⟩:=tok_of hC hti
   unfold eqTys at ht
   split at ht
   ·rename_i fs heq hd
    cases ht
    have hce:=eq_of hC hti heq
    rw [hd] at htd hce
    obtain ⟨fields,hu,hfl,hf⟩:=under_struct htd
    simp only [chkEq,hu,Bool.and_eq_true,Bool.not_eq_true'] at hce
    obtain ⟨⟨hp,hg⟩,hz⟩:=hce
    refine ⟨hg,?_⟩
    have hfo:P.fieldsOf t=fields:=by simp [Program.fieldsOf,hu]
    rw [run_equalIn_struct w 9999 t _ _ (by rw [hfo]; exact hu) hp,hfo]
    have:=eqFields_run (P:=P) (w:=w) (ts:=fs.map (·.2.1)) (bs:=bs) (X:=vs.toArray) (Y:=us.toArray) (d:=9998) fields.toList 0 (fun i f hfi=>by
     have hz1:=List.all_eq_true.1 hz (i,f) (by
      refine List.mem_of_getElem? (i:=i) ?_
      have hlt:=(List.getElem?_eq_some_iff.1 hfi).1
      rw [List.getElem?_zip_eq_some]
      exact ⟨by rw [List.getElem?_range hlt],hfi⟩)
     simp only [Bool.and_eq_true,Bool.not_eq_true'] at hz1
     have hlt:=(List.getElem?_eq_some_iff.1 hfi).1
     obtain ⟨q,hq⟩:∃ q,fs[i]? = some q:=⟨_,List.getElem?_eq_getElem (by omega)⟩
     obtain ⟨f',_,e1,_,e3,_⟩:=hf i q.1 q.2.1 q.2.2 hq
     have:f' = f:=by
      rw [<- Array.getElem?_toList] at e1
      rw [hfi] at e1; exact (Option.some.inj e1).symm
     subst this
     exact ⟨by rw [Nat.eq_of_beq_eq_true hz1.1]; omega,hz1.2,by rw [Nat.zero_add,List.getElem?_map,hq]; simp [e3]⟩) (by simp [hfl]) h1 (by simpa using h2) (by simpa using h3) (by simpa using h5)
    rw [this,h4]
    rfl
   ·rename_i n e heq hd
    cases ht
    have hce:=eq_of hC hti heq
    rw [hd] at htd hce
    have hu:=under_arr htd
    simp only [chkEq,Bool.and_eq_true,Bool.not_eq_true'] at hce
    refine ⟨hce.1,?_⟩
    have hsz:=hce.2
    split at hsz
    ·rename_i i hi
     rw [run_equalIn_array w 9999 _ _ hu hi,List.range_eq_range']
     have:=eqItems_run (P:=P) (w:=w) (n:=n) (e:=e) (bs:=bs) (X:=vs.toArray) (Y:=us.toArray) (d:=9998) (by simp [Program.cellsOf,hi,Nat.eq_of_beq_eq_true hsz]) (by simpa using h1) (by simpa using h2) (by simpa using h3) (by simpa using h5) n 0 (by omega)
     rw [this,h4]
     rfl
    ·cases hsz
   ·cases ht
theorem eqAgg_sound {C:Ctx E} (hC:COk P C) {op:BinOp} {t:TypeId} {cs ds:List (Cell E)} {u v:Value} {ox oy:Operand} {ts:List Nat} {K:TV E->Option β} (hx:HRep w j tk F (.agg cs) u) (hy:HRep w j tk F (.agg ds) v)
  (ht:(C.ti t).bind eqTys=some ts) (h:eqOp op (eqFs C ts cs ds) K=some r) :
  ∃ z o,(do eqGuard op t ox oy u v; binOp op t u v:Sem Value).run P w = .ok o w/\Rep w F z o/\K z=some r:=by
 obtain ⟨vs,rfl,hL⟩:=hx
 obtain ⟨us,rfl,hM⟩:=hy
 have key:∀ b,eqFs C ts cs ds=some b->P.eqGuardType P.depth t=false/\(Op.equalIn 10000 t (.agg vs.toArray) (.agg us.toArray)).run P w = .ok b w:=fun b hb=>eqAgg_run hC hL hM ht hb
 unfold eqOp at h
 split at h
 ·rename_i b hb
  obtain ⟨hg,hrun⟩:=key b hb
  refine ⟨_,.bool b,?_,.bool b,h⟩
  simp only [Sem.run_bind,run_eqGuard_agg w _ _ _ _ _ _ hg,Result.andThen_ok,run_eql_struct,hrun]
 ·rename_i b hb
  obtain ⟨hg,hrun⟩:=key b hb
  refine ⟨_,.bool (!b),?_,.bool (!b),h⟩
  simp only [Sem.run_bind,run_eqGuard_agg w _ _ _ _ _ _ hg,Result.andThen_ok,run_neq_struct,hrun]
 ·cases h
theorem unTV_sound {op:UnOp} {x:TV E} {u:Value} {K:TV E->Option β} (hx:Rep w F x u) (h:unTV op x K=some r) :
  ∃ z o,(Op.unary op u).run P w = .ok o w/\Rep w F z o/\K z=some r:=by
 unfold unTV at h
 split at h
 ·cases hx; exact ⟨_,_,by simp [Op.unary],.bool _,h⟩
 ·cases hx; exact ⟨_,_,by simp [Op.unary,Op.intArith],.int _ _,h⟩
 ·cases h
theorem hrep_int (k:IntKind) (n:Int):HRep (E:=E) w j tk F (.one (.tv (.int k n))) (.int k n):=Rep.int k n
theorem lenH_sound {d:TD} {hd:Hold E} {v:Value} {t:Nat} {ty:TypeId} {K:Hold E->Option β} (hx:HRep w j tk F hd v) (h:lenH d hd K=some r) (hd:chkTD P t d=true) :
  ∃ z o,(Builtin.len_ #[t] ty #[v]).run P w = .ok o w/\HRep w j tk F z o/\K z=some r:=by
 have hslice:∀ (e:Nat) (b:Option Addr) (n c:Nat),chkTD P t (.slice e)=true->(Builtin.len_ #[t] ty #[.slice b n c]).run P w = .ok (.int .i64 n) w:=by
  intro e b n c he
  simp [Builtin.len_,run_underlying (under_slice he),goInt]
 unfold lenH at h
 split at h
 ·cases hx
  rename_i s
  have he:=under_str hd
  exact ⟨_,.int .i64 s.size,by simp [Builtin.len_,run_underlying he,goInt],hrep_int .i64 _,h⟩
 ·cases hx; exact ⟨_,_,hslice _ _ _ _ hd,hrep_int .i64 _,h⟩
 ·obtain ⟨hx,_⟩:=hx; cases hx; exact ⟨_,_,hslice _ _ _ _ hd,hrep_int .i64 _,h⟩
 ·obtain ⟨b,rfl,hx⟩:=hx; exact ⟨_,_,hslice _ _ _ _ hd,hrep_int .i64 _,h⟩
 ·cases hx; exact ⟨_,_,hslice _ _ _ _ hd,hrep_int .i64 _,h⟩
 ·cases h
theorem rep_slice {τ:Ty N} {xs:List (den E.Γ τ)} {v:Value} (h:Rep w F (.sl τ xs) v):∃ b cap,v = .slice b xs.length cap/\xs.length<=cap/\(b=none->cap=0)/\(∀ ad,b=some ad->xs≠[]->ad.spot=none) /\
  ∃ vs:Nat->Nat->Value,(∀ ad,b=some ad -> ∀ (i:Nat) (x:den E.Γ τ) (c:Nat) (l:TV E),xs[i]? = some x->(leaves τ x)[c]? = some l ->
    F ad.block (ad.off+(i*τ.size E+c))/\w.cell? ⟨ad.block,ad.off+(i*τ.size E+c),none⟩=some (vs i c)) /\
    (∀ (i:Nat) (x:den E.Γ τ) (c:Nat) (l:TV E),xs[i]? = some x->(leaves τ x)[c]? = some l->Rep w F l (vs i c)):=by
 cases h with
 | sl _ _ a cap vs hcap hnil hspot hc hr=>exact ⟨a,cap,rfl,hcap,hnil,hspot,vs,hc,hr⟩
theorem sliceOf_rep {τ:Ty N} {hd:Hold E} {v:Value} {xs:List (den E.Γ τ)} (hx:HRep w j tk F hd v) (h:sliceOf τ hd=some xs):Rep w F (.sl τ xs) v:=by
 unfold sliceOf at h
 split at h
 ·split at h
  ·rename_i c x hl
   exact Rep.pack (t := .sl τ) h (CRep.leaf hx hl)
  ·cases h
 ·cases h
theorem addr_add (b o n:Nat):(⟨b,o,none⟩:Addr).add n=⟨b,o+n,none⟩:=by unfold Addr.add; split <;> simp_all
theorem run_isAgg {t:TypeId} {d:TypeDesc} (h:P.underlying t=some d):(isAgg t).run P w = .ok (aggD (some d)) w:=by
 simp only [isAgg,Sem.run_bind,run_underlying h,Result.andThen_ok]
 cases d <;> rfl
theorem run_size {t:TypeId} {i:TypeInfo} (h:P.info? t=some i):(sizeOf t).run P w = .ok i.size w:=by
 simp [sizeOf,typeInfo,h]
theorem loadC_sound {ti:TI E} {cs:List (Cell E)} {o b oo t:Nat} {i:TypeInfo} {d:TypeDesc} {vs:List Value} {K:Hold E->Option β} (hT:TOk P t ti i d) (h:loadC ti cs o K=some r)
  (hr:LRep w j tk F cs vs) (hc:∀ (m:Nat) (u:Value),vs[m]? = some u->w.cell? ⟨b,oo+m,none⟩=some u) :
  ∃ z v,(loadVar t ⟨b,oo+o,none⟩).run P w = .ok v w/\HRep w j tk F z v/\K z=some r:=by
 unfold loadC at h
 simp only [loadVar,Sem.run_bind,run_isAgg hT.under,Result.andThen_ok]
 rw [hT.agg]
 split at h
 ·rename_i hagg
  split at h
  ·rename_i hle
   have hle:=Nat.le_of_ble_eq_true hle
   have hl:=hr.len
   have hlen:((vs.drop o).take ti.size).length=ti.size:=by rw [List.length_take,List.length_drop]; omega
   have hrun:(loadCells ⟨b,oo+o,none⟩ i.size).run P w = .ok ((vs.drop o).take ti.size).toArray w:=by
    rw [hT.size,<- hlen]
    rw [run_loadCells_list w ⟨b,oo+o,none⟩ ((vs.drop o).take ti.size) (fun m u hu => ?_)]
    ·simp [hlen]
    ·rw [addr_add,Nat.add_assoc]
     refine hc _ _ ?_
     rw [List.getElem?_take] at hu
     split at hu
     ·rwa [List.getElem?_drop] at hu
     ·cases hu
   refine ⟨.agg ((cs.drop o).take ti.size),.agg ((vs.drop o).take ti.size).toArray,?_,⟨_,rfl,(hr.drop o).take ti.size⟩,h⟩
   simp only [hagg,if_true,Sem.run_bind,run_size hT.info,hrun,Result.andThen_ok,Sem.run_pure]
  ·cases h
 ·rename_i hagg
  split at h
  ·rename_i c rest hcs
   have hd:=hr.drop o
   rw [hcs] at hd
   cases hvs:vs.drop o with
   | nil=>rw [hvs] at hd; exact hd.elim
   | cons u us=>
     rw [hvs] at hd
     have hu:vs[o]? = some u:=by
      have:=congrArg (fun l=>l[0]?) hvs
      simpa [List.getElem?_drop] using this
     refine ⟨.one c,u,?_,hd.1,h⟩
     simp only [hagg,Bool.false_eq_true,if_false]
     simp [load,Sem.run,hc o u hu]
  ·cases h
theorem exec_load {t:TypeId} {x:Operand} {o:Oper} {ad:Addr} {v:Value} (ho:o.op = .load t x) (hx:a.eval x = .pointer (some ad)) (h:(loadVar t ad).run P w = .ok v w) :
  (execOp a.eval o).run P w = .ok (.value v) w:=by
 simp [execOp,ho,hx,Instr.loadAt,Instr.sureAddr,h]
theorem cutL_sound {α:Type} {xs:List α} {lo hi:Option Int} {K:List α->Option β} (h:cutL xs lo hi K=some r) :
  ∃ l u,l<=u/\u<=xs.length/\(∀ n,lo=some n->0<=n/\n.toNat=l)/\(lo=none->l=0)/\(∀ n,hi=some n->0<=n/\n.toNat=u)/\(hi=none->u=xs.length)/\K ((xs.take u).drop l)=some r:=by
 unfold cutL at h
 split at h
 ·exact ⟨0,xs.length,Nat.zero_le _,Nat.le_refl _,by simp,by simp,by simp,by simp,by simpa using h⟩
 ·rename_i n
  obtain ⟨hc,h⟩:=cond_none_right h
  simp only [Bool.and_eq_true,decide_eq_true_eq] at hc
  exact ⟨n.toNat,xs.length,by omega,Nat.le_refl _,fun m hm=>by cases hm; exact ⟨hc.1,rfl⟩,by simp,by simp,by simp,by simpa using h⟩
 ·rename_i n
  obtain ⟨hc,h⟩:=cond_none_right h
  simp only [Bool.and_eq_true,decide_eq_true_eq] at hc
  exact ⟨0,n.toNat,Nat.zero_le _,by omega,by simp,by simp,fun m hm=>by cases hm; exact ⟨hc.1,rfl⟩,by simp,by simpa using h⟩
 ·rename_i m n
  obtain ⟨hc,h⟩:=cond_none_right h
  simp only [Bool.and_eq_true,decide_eq_true_eq] at hc
  exact ⟨m.toNat,n.toNat,by omega,by omega,fun q hq=>by cases hq; exact ⟨by omega,rfl⟩,by simp,fun q hq=>by cases hq; exact ⟨by omega,rfl⟩,by simp,h⟩
theorem Rep.cut {τ:Ty N} {xs:List (den E.Γ τ)} {b:Option Addr} {cap l u:Nat} (h:Rep w F (.sl τ xs) (.slice b xs.length cap)) (hlu:l<=u) (hu:u<=xs.length) (c' : Nat) (hc' : u - l<=c') (hnil:b=none->c' = 0)
  (b' : Option Addr) (hb:b' = b.map (·.add (l*τ.size E))\/(b' = b/\(l=u\/l=0))):Rep w F (.sl τ ((xs.take u).drop l)) (.slice b' (u - l) c'):=by
 have hlen:((xs.take u).drop l).length=u - l:=by rw [List.length_drop,List.length_take]; omega
 rw [<- hlen]
 cases h with
 | sl _ _ _ _ vs hcap hn hspot hc hr=>
   have hget:∀ (m:Nat) (x:den E.Γ τ),((xs.take u).drop l)[m]? = some x->xs[l+m]? = some x/\l+m<u:=by
    intro m x hx
    rw [List.getElem?_drop,List.getElem?_take] at hx
    split at hx
    ·rename_i hlt; exact ⟨hx,hlt⟩
    ·cases hx
   refine Rep.sl τ _ b' c' (fun m c=>vs (l+m) c) (by rw [hlen]; exact hc') ?_ ?_ ?_ ?_
   ·intro e
    apply hnil
    rcases hb with hb | ⟨hb,_⟩
    ·rw [e] at hb
     cases b with
     | none=>rfl
     | some _=>cases hb
    ·rw [<- hb]; exact e
   ·intro ad had hne
    have hxs:xs≠[]:=fun e=>hne (by rw [e]; simp)
    rcases hb with hb | ⟨hb,_⟩
    ·cases hbb:b with
     | none=>rw [hbb,had] at hb; cases hb
     | some ad0=>
       rw [hbb,had] at hb
       simp only [Option.map_some,Option.some.injEq] at hb
       subst hb
       have:=hspot ad0 hbb hxs
       unfold Addr.add; split
       ·exact this
       ·rfl
    ·exact hspot ad (by rw [<- hb]; exact had) hxs
   ·intro ad had m x c le hx hle
    obtain ⟨hx1,hx2⟩:=hget m x hx
    have hxs:xs≠[]:=fun e=>by rw [e] at hx1; simp at hx1
    rcases hb with hb | ⟨hb,hz⟩
    ·cases hbb:b with
     | none=>rw [hbb,had] at hb; cases hb
     | some ad0=>
       rw [hbb,had] at hb
       simp only [Option.map_some,Option.some.injEq] at hb
       have hsp:=hspot ad0 hbb hxs
       obtain ⟨blk,off,spot⟩:=ad0
       simp only at hsp
       subst hsp
       rw [addr_add] at hb
       subst hb
       have h2:=hc _ hbb (l+m) x c le hx1 hle
       have e:off+l*τ.size E+(m*τ.size E+c)=off+((l+m)*τ.size E+c):=by rw [Nat.add_mul]; omega
       simp only at h2 ⊢
       rw [e]
       exact h2
    ·rcases hz with hz | hz
     ·omega
     ·subst hz
      have h2:=hc ad (by rw [<- hb]; exact had) m x c le (by simpa using hx1) hle
      simpa using h2
   ·intro m x c le hx hle
    exact hr (l+m) x c le (hget m x hx).1 hle
end
end
end Go.Ai

namespace Go.Ai
open Go.RowKit
section
variable {N:Type} [DecidableEq N] {E:Env N} {P:Program}
variable {base:Nat} {ov:Ov E} {w0 w:World} {F0:Fx} {F:Fz} {σ:St E} {a:Act} {j:Sites} {tk:Toks}
variable {β:Type} {r:β}
theorem rep_int_inv {k:IntKind} {n:Int} {v:Value} (h:Rep (E:=E) w F (.int k n) v):v = .int k n:=by cases h; rfl
theorem rep_bool_inv {b:Bool} {v:Value} (h:Rep (E:=E) w F (.bool b) v):v = .bool b:=by cases h; rfl
theorem rep_str_inv {l:List UInt8} {v:Value} (h:Rep (E:=E) w F (.str l) v):∃ s:ByteArray,v = .string s/\s.data.toList=l:=by cases h; exact ⟨_,rfl,rfl⟩
theorem places_of {t:Nat} {fs:List (Nat×Nat×Nat)} {fields:Array Field} (hu:P.underlying t=some (.struct fields)) (h:chkTD P t (.struct fs)=true) :
  fields.toList.mapM (fun f=>(P.info? f.type).map fun i=>(f.offset,i.size))=some (fs.map fun x=>(x.1,x.2.2)):=by
 obtain ⟨fields',hu',hl,hf⟩:=under_struct h
 rw [hu] at hu'
 cases hu'
 have key:∀ (l:List Field) (gs:List (Nat×Nat×Nat)),l.length=gs.length->(∀ (m off ty sz:Nat),gs[m]? = some (off,ty,sz) -> ∃ f i,l[m]? = some f/\f.offset=off/\f.type=ty/\P.info? ty=some i/\i.size=sz) ->
   l.mapM (fun f=>(P.info? f.type).map fun i=>(f.offset,i.size))=some (gs.map fun x=>(x.1,x.2.2)):=by
  intro l
  induction l with
  | nil=>intro gs hl _; cases gs with
    | nil=>rfl
    | cons _ _=>simp at hl
  | cons f l ih=>
    intro gs hl hg
    cases gs with
    | nil=>simp at hl
    | cons g gs=>
      obtain ⟨off,ty,sz⟩:=g
      obtain ⟨f',i,h1,h2,h3,h4,h5⟩:=hg 0 off ty sz rfl
      simp at h1
      subst h1
      rw [List.mapM_cons,h3,h4,ih gs (by simpa using hl) (fun m off ty sz hm=>by simpa using hg (m+1) off ty sz (by simpa using hm))]
      simp [h2,h5]
 refine key _ _ hl fun m off ty sz hm => ?_
 obtain ⟨f,i,h1,h2⟩:=hf m off ty sz hm
 exact ⟨f,i,by rw [Array.getElem?_toList]; exact h1,h2⟩
theorem fold_set (vs:List Value):∀ (m o:Nat) (cs:Array Value),o+m+vs.length<=cs.size ->
  ((vs.zipIdx m).foldl (fun (cs:Array Value) (x:Value×Nat)=>cs.setIfInBounds (o+x.2) x.1) cs).toList=cs.toList.take (o+m)++vs++cs.toList.drop (o+m+vs.length):=by
 induction vs with
 | nil=>intro m o cs h; simp
 | cons v vs ih=>
   intro m o cs h
   simp only [List.length_cons] at h
   simp only [List.zipIdx_cons,List.foldl_cons]
   rw [ih (m+1) o _ (by simp; omega)]
   apply List.ext_getElem?
   intro q
   simp only [Array.toList_setIfInBounds,List.getElem?_append,List.length_append,List.length_take,List.length_set,Array.length_toList,List.getElem?_take,List.getElem?_drop,List.getElem?_set,List.length_cons,List.getElem?_cons]
   by_cases h1:q<o+m
   ·have e1:q<min (o+(m+1)) cs.size:=by omega
    have e2:q<min (o+(m+1)) cs.size+vs.length:=by omega
    have e3:q<min (o+m) cs.size:=by omega
    have e4:q<min (o+m) cs.size+(vs.length+1):=by omega
    simp [e1,e2,e3,e4,h1,show q<o+(m+1) by omega,show ¬ o+m=q by omega]
   ·by_cases h2:q=o+m
    ·subst h2
     have e1:o+m<min (o+(m+1)) cs.size:=by omega
     have e2:o+m<min (o+(m+1)) cs.size+vs.length:=by omega
     have e3 : ¬ o+m<min (o+m) cs.size:=by omega
     have e4:o+m<min (o+m) cs.size+(vs.length+1):=by omega
     have e5:o+m - min (o+m) cs.size=0:=by omega
     simp [e1,e2,e3,e4,e5,show o+m<o+(m+1) by omega,show o+m<cs.size by omega]
    ·by_cases h3:q<o+m+(vs.length+1)
     ·have e1 : ¬ q<min (o+(m+1)) cs.size:=by omega
      have e2:q<min (o+(m+1)) cs.size+vs.length:=by omega
      have e3 : ¬ q<min (o+m) cs.size:=by omega
      have e4:q<min (o+m) cs.size+(vs.length+1):=by omega
      have e5:q - min (o+m) cs.size=(q - min (o+(m+1)) cs.size)+1:=by omega
      simp [e1,e2,e3,e4,e5]
     ·have e1 : ¬ q<min (o+(m+1)) cs.size:=by omega
      have e2 : ¬ q<min (o+(m+1)) cs.size+vs.length:=by omega
      have e3 : ¬ q<min (o+m) cs.size:=by omega
      have e4 : ¬ q<min (o+m) cs.size+(vs.length+1):=by omega
      have e5:o+(m+1)+vs.length+(q - (min (o+(m+1)) cs.size+vs.length))=o+m+(vs.length+1)+(q - (min (o+m) cs.size+(vs.length+1))):=by omega
      have e6 : ¬ o+m=o+m+(vs.length+1)+(q - (min (o+m) cs.size+(vs.length+1))):=by omega
      simp [e2,e4,e5,e6]
theorem LRep.setRange {cs xs:List (Cell E)} {vs us:List Value} {o:Nat} (h:LRep w j tk F cs vs) (hx:LRep w j tk F xs us) :
  LRep w j tk F (Ai.setRange cs o xs) (vs.take o++us++vs.drop (o+us.length)):=by
 unfold Ai.setRange
 rw [<- hx.len]
 exact ((h.take o).append hx).append (h.drop _)
theorem fill_step {place:Nat->Option (Nat×Nat)} {cells:Array Value} {m off size:Nat} {v:Value} {rest:List (Nat×Value)} (hp:place m=some (off,size)) (h1:v.cells.size=size) (h2:off+size<=cells.size) :
  Instr.fill place cells ((m,v)::rest)=Instr.fill place ((v.cells.toList.zipIdx 0).foldl (fun (cs:Array Value) (x:Value×Nat)=>cs.setIfInBounds (off+x.2) x.1) cells) rest:=by
 have hc : ¬ (v.cells.size≠size||decide (off+v.cells.size > cells.size))=true:=by
  simp only [h1,ne_eq,not_true_eq_false,decide_false,Bool.false_or,decide_eq_true_eq]
  omega
 simp only [Instr.fill,hp]
 rw [if_neg hc,<- Array.foldl_toList]
 simp
theorem buildParts_sound (h:Sim P base w0 F0 ov σ a w j tk F) (fs:List (Nat×Nat×Nat)) (place:Nat->Option (Nat×Nat)) (hpl:∀ (m:Nat) (x:Nat×Nat×Nat),fs[m]? = some x->place m=some (x.1,x.2.2)):∀ (parts:List (Nat×Operand)) (cs cs' : List (Cell E)) (vs:Array Value),buildParts σ fs parts cs=some cs' -> LRep w j tk F cs vs.toList ->
  ∃ vs',Instr.fill place vs (parts.map fun p=>(p.1,a.eval p.2))=some vs' /\ LRep w j tk F cs' vs'.toList:=by
 intro parts
 induction parts with
 | nil=>intro cs cs' vs hb hr; simp [buildParts] at hb; subst hb; exact ⟨vs,rfl,hr⟩
 | cons p parts ih=>
   intro cs cs' vs hb hr
   obtain ⟨m,x⟩:=p
   simp only [buildParts] at hb
   split at hb
   ·rename_i off ty sz hm
    split at hb
    ·rename_i hc
     simp only [Bool.and_eq_true,Nat.beq_eq] at hc
     obtain ⟨⟨h1,h2⟩,h3,h3'⟩:=hc
     have h2:=Nat.le_of_ble_eq_true h2
     have hx:=h.ev x
     have hne:(σ.ev x).cells≠[]:=by
      intro e; rw [e] at h3'
      simp at h3'
     have hxc:=hx.cells h3 hne
     have hl:=hxc.len
     have hfl:=fold_set (a.eval x).cells.toList 0 off vs (by rw [<- hl,h1,<- Array.length_toList,<- hr.len]; omega)
     have hr' : LRep w j tk F (setRange cs off (σ.ev x).cells) ((((a.eval x).cells.toList.zipIdx 0).foldl (fun (cs:Array Value) (x:Value×Nat)=>cs.setIfInBounds (off+x.2) x.1) vs).toList):=by
      rw [hfl]
      exact hr.setRange hxc
     obtain ⟨vs',h4,h5⟩:=ih _ _ _ hb hr'
     refine ⟨vs',?_,h5⟩
     have hsz:(a.eval x).cells.size=sz:=by rw [<- Array.length_toList,<- hl,h1]
     have hle:off+sz<=vs.size:=by rw [<- Array.length_toList,<- hr.len]; omega
     rw [List.map_cons,fill_step (off:=off) (size:=sz) (hpl _ _ hm) hsz hle]
     exact h4
    ·cases hb
   ·cases hb
def isCall (o:Oper):Bool:=match o.op with
 | .call c=>match c.callee with
   | .builtin _=>false
   | _=>true
 | _=>false
theorem runesBytes_go (ns:List Int):∀ s:ByteArray,(ns.foldl (fun r n=>r++Utf8.encode n) s).data.toList=s.data.toList++utf ns:=by
 induction ns with
 | nil=>intro s; simp [utf]
 | cons n ns ih=>
   intro s
   rw [List.foldl_cons,ih]
   simp [utf,enc,ByteArray.data_append]
theorem rep_runes (rs:List Int):HRep (E:=E) w j tk F (.one (.tv (.str (utf rs)))) (.string (runesBytes rs)):=by
 have:utf rs=(runesBytes rs).data.toList:=by
  have:=runesBytes_go rs ByteArray.empty
  unfold runesBytes
  rw [this]
  simp
 rw [this]
 exact Rep.str _
theorem run_ofRunes {s t e:Nat} {rs:List Int} {v:Value} (hs:P.underlying s=some (.slice e)) (he:P.underlying e=some (.int .i32)) (ht:P.underlying t=some .string) (h:Rep (E:=E) w F (.sl (.int .i32) rs) v) :
  (convert s t v).run P w = .ok (.string (runesBytes rs)) w:=by
 obtain ⟨b,cap,rfl,hcap,hnil,hspot,vs,h5,h6⟩:=rep_slice h
 cases b with
 | none=>
   have hc:=hnil rfl
   subst hc
   have:rs=[]:=List.eq_nil_of_length_eq_zero (by simpa using hcap)
   subst this
   rw [run_convert_runes_nil w s t e _ _ hs he ht]
   rfl
 | some ad=>
   have:=run_convert_runes (P:=P) w s t e ad rs.length cap rs (Nat.le_refl _) hs he ht fun q hq=>by
    have hne:rs≠[]:=fun e=>by rw [e] at hq; simp at hq
    have hu:=(h5 ad rfl q rs[q] 0 (.int .i32 rs[q]) (List.getElem?_eq_getElem hq) rfl).2
    have hr:=repI (h6 q rs[q] 0 (.int .i32 rs[q]) (List.getElem?_eq_getElem hq) rfl)
    obtain ⟨b,off,spot⟩:=ad
    have hspp:=hspot _ rfl hne
    simp only at hspp
    subst hspp
    rw [addr_add]
    simp only [Ty.size,Nat.mul_one,Nat.add_zero] at hu
    rw [hu,hr]
    simp [List.getD,List.getElem?_eq_getElem hq]
   simpa using this
def mkRunes (C:Ctx E) (o:Oper):Bool:=match o.op with
 | .convert s t _=>toRunes C s t
 | _=>false
theorem exec_call_len {o:Oper} {c:Call} {x:Operand} {t:Nat} {v:Value} (ho:o.op = .call c) (hc:c.callee = .builtin .len) (ha:c.args.toList=[x]) (ht:c.argTypes.toList=[t])
  (h:(Builtin.len_ #[t] o.type #[a.eval x]).run P w = .ok v w):(execOp a.eval o).run P w = .ok (.value v) w:=by
 obtain ⟨callee,args,types⟩:=c
 simp only at hc ha ht
 subst hc
 have e1:args = #[x]:=by rw [<- Array.toArray_toList (xs:=args),ha]
 have e2:types = #[t]:=by rw [<- Array.toArray_toList (xs:=types),ht]
 subst e1 e2
 simp [execOp,ho,resolve,invoke,builtin,h]
theorem optInt_sound (h:Sim P base w0 F0 ov σ a w j tk F) {x:Option Operand} {n:Option Int} (hx:optInt σ x=some n) :
  (x=none/\n=none) \/ ∃ y k m,x=some y/\n=some m/\a.eval y = .int k m:=by
 unfold optInt at hx
 split at hx
 ·cases hx; exact .inl ⟨rfl,rfl⟩
 ·rename_i y
  split at hx
  ·rename_i k m he
   cases hx
   have:=h.ev y
   rw [he] at this
   exact .inr ⟨y,k,m,rfl,rfl,rep_int_inv this⟩
  ·cases hx
theorem run_bounds {isSlice:Bool} {len cap:Nat} {lo hi:Option Operand} {l h' : Option Int} (hs:Sim P base w0 F0 ov σ a w j tk F) (hl:optInt σ lo=some l) (hh:optInt σ hi=some h') {m u:Nat}
  (hmu:m<=u) (hu:u<=(if h' = none then len else cap)) (h1:∀ n,l=some n->0<=n/\n.toNat=m) (h2:l=none->m=0) (h3:∀ n,h' = some n->0<=n/\n.toNat=u) (h4:h' = none->u=len) :
  (Instr.sliceBounds isSlice len cap (lo.map a.eval) (hi.map a.eval) none).run P w = .ok (m,u,cap) w:=by
 have bound:∀ (k:IntKind) (n:Int) (y:Nat) (code:BoundsCode),0<=n->n<=y->(Instr.sliceBound (.int k n) y code).run P w = .ok n.toNat w:=by
  intro k n y code e1 e2
  simp [Instr.sliceBound,asIntOf,e1,e2]
 rcases optInt_sound hs hl with ⟨rfl,rfl⟩ | ⟨y,k,n,rfl,rfl,e⟩
 ·have hm:=h2 rfl
  subst hm
  rcases optInt_sound hs hh with ⟨rfl,rfl⟩ | ⟨z,k',n',rfl,rfl,e'⟩
  ·have:=h4 rfl
   subst this
   simp [Instr.sliceBounds]
  ·have h5:=h3 n' rfl
   simp only [reduceCtorEq,if_false] at hu
   simp only [Instr.sliceBounds,Option.map_some,Option.map_none,e']
   simp only [Sem.run_bind,Sem.run_pure,Result.andThen_ok]
   rw [bound k' n' cap _ h5.1 (by omega)]
   simp [h5.2]
 ·have h6:=h1 n rfl
  rcases optInt_sound hs hh with ⟨rfl,rfl⟩ | ⟨z,k',n',rfl,rfl,e'⟩
  ·have:=h4 rfl
   subst this
   simp only [Instr.sliceBounds,Option.map_some,Option.map_none,e]
   simp only [Sem.run_bind,Sem.run_pure,Result.andThen_ok]
   rw [bound k n u _ h6.1 (by omega)]
   simp [h6.2]
  ·have h5:=h3 n' rfl
   simp only [reduceCtorEq,if_false] at hu
   simp only [Instr.sliceBounds,Option.map_some,e,e']
   simp only [Sem.run_bind,Sem.run_pure,Result.andThen_ok]
   rw [bound k' n' cap _ h5.1 (by omega)]
   simp only [Result.andThen_ok]
   rw [bound k n _ _ h6.1 (by omega)]
   simp [h6.2,h5.2]
theorem elem_of {C:Ctx E} (hC:COk P C) {t e:Nat} {te:TI E} {τ:Ty N} (h:elemTy C t=some (e,te,τ)) :
  P.underlying t=some (.slice e) /\ ∃ i d,TOk P e te i d/\i.size=τ.size E/\te.size=τ.size E:=by
 unfold elemTy at h
 split at h
 ·rename_i ti hti
  split at h
  ·rename_i e' hd
   split at h
   ·rename_i te' hte
    split at h
    ·rename_i τ' hτ
     cases h
     obtain ⟨i,d,hT,hc⟩:=tok_of hC hti
     obtain ⟨i',d',hT',_⟩:=tok_of hC hte
     rw [hd] at hc
     exact ⟨under_slice hc,i',d',hT',by rw [hT'.size,(hT'.ty _ hτ).1],(hT'.ty _ hτ).1.symm⟩
    ·cases h
   ·cases h
  ·cases h
 ·cases h
theorem lenM_sound (hs:Sim P base w0 F0 ov σ a w j tk F) {d:TD} {hd:Hold E} {v:Value} {t:Nat} {ty:TypeId} {K:Hold E->Option β} (hx:HRep w j tk F hd v) (h:lenM σ.heap d hd K=some r) (hd:chkTD P t d=true) :
  ∃ z o,(Builtin.len_ #[t] ty #[v]).run P w = .ok o w/\HRep w j tk F z o/\K z=some r:=by
 unfold lenM at h
 split at h
 ·rename_i s
  split at h
  ·rename_i kt vt m hm
   obtain ⟨b,hb,rfl⟩:=hx
   obtain ⟨b',es,cl,h1,h2,h3⟩:=hs.maps s kt vt m hm
   rw [hb] at h1; cases h1
   have hl:m.length=es.size:=by
    have key:∀ (xs:List (den E.Γ kt×den E.Γ vt)) (es:List MapEntry),MRep w F xs es->xs.length=es.length:=by
     intro xs
     induction xs with
     | nil=>intro es h; cases es with | nil=>rfl | cons _ _=>exact h.elim
     | cons x xs ih=>intro es h; cases es with | nil=>exact h.elim | cons e es=>simp [ih es h.2]
    rw [key _ _ h3]; simp
   refine ⟨_,.int .i64 es.size,?_,by rw [<- hl]; exact hrep_int .i64 _,h⟩
   have hg:(getObj b).run P w = .ok (.map es cl) w:=by simp [getObj,Sem.run,h2]
   simp [Builtin.len_,run_underlying (under_map hd),hg,goInt]
  ·cases h
 ·exact lenH_sound hx h hd
theorem sc_sound {c:Cell E} {x:Sc E} {v:Value} (h:CRep w j tk F c v) (hx:c.sc=some x):SRep w j F x v:=by
 cases c with
 | tv x=>cases hx; exact h
 | tok k t xs=>cases hx; exact h.1
 | full t xs=>cases hx; obtain ⟨a,_,h2⟩:=h; exact h2
 | ptr s o=>cases hx; exact h
 | fptr ls=>cases hx; exact h
 | _=>cases hx
theorem scs_sound (h:Sim P base w0 F0 ov σ a w j tk F):∀ (xs:List Operand) (us:List (Sc E)),Hold.scs (Ai.evL σ xs)=some us->SReps w j F us (xs.map a.eval):=by
 intro xs
 induction xs with
 | nil=>intro us hu; simp [Ai.evL,Hold.scs] at hu; subst hu; trivial
 | cons x xs ih=>
   intro us hu
   have h1:=h.ev x
   simp only [Ai.evL] at hu
   cases hx:σ.ev x with
   | one c=>
     rw [hx] at hu h1
     simp only [Hold.scs] at hu
     split at hu
     ·rename_i y ys hy hys
      cases hu
      exact ⟨sc_sound h1 hy,ih _ hys⟩
     ·cases hu
   | _=>rw [hx] at hu; cases hu
theorem arrAddr_sound {C:Ctx E} (hC:COk P C) {t:Nat} {x i:Operand} {z:Hold E} {o:Oper} (ho:o.op = .indexAddr t x i) (h:Sim P base w0 F0 ov σ a w j tk F) (he:arrAddr C t i (σ.ev x).fp=some z) :
  ∃ v,(execOp a.eval o).run P w = .ok (.value v) w/\HRep w j tk F z v:=by
 unfold arrAddr at he
 split at he
 ·rename_i ti k n hti
  obtain ⟨i',td,hT,hcd⟩:=tok_of hC hti
  split at he
  ·rename_i m e hd
   rw [hd] at hcd
   have hu:=under_arr hcd
   split at he
   ·rename_i te s o' hte hlt hx
    cases he
    obtain ⟨ie,tde,hTe,_⟩:=tok_of hC hte
    have hlt:n<m:=Nat.lt_of_succ_le (Nat.le_of_ble_eq_true hlt)
    have hv:=(h.ev x).fp
    rw [hx] at hv
    obtain ⟨b,hb1,hb2⟩:=hv
    refine ⟨.pointer (some ⟨b,o' + n*te.size,none⟩),?_,⟨b,hb1,rfl⟩⟩
    have hi:a.eval (.const (.int k (n:Int))) = .int k (n:Int):=rfl
    simp [execOp,ho,Instr.indexAt,hi,asIntOf,run_underlying hu,hb2,Instr.sureAddr,run_size hTe.info,hTe.size,addr_add,hlt]
   ·rename_i te ls hte hlt hx
    cases he
    obtain ⟨ie,tde,hTe,_⟩:=tok_of hC hte
    have hlt:n<m:=Nat.lt_of_succ_le (Nat.le_of_ble_eq_true hlt)
    have hv:=(h.ev x).fp
    rw [hx] at hv
    obtain ⟨b,oo,vs,hb2,hc,hr⟩:=hv
    refine ⟨.pointer (some ⟨b,oo+n*te.size,none⟩),?_,⟨b,oo+n*te.size,vs.drop (n*te.size),rfl,?_,?_⟩⟩
    ·have hi:a.eval (.const (.int k (n:Int))) = .int k (n:Int):=rfl
     simp [execOp,ho,Instr.indexAt,hi,asIntOf,run_underlying hu,hb2,Instr.sureAddr,run_size hTe.info,hTe.size,addr_add,hlt]
    ·intro m' u hu'
     rw [List.getElem?_drop] at hu'
     have:=hc _ _ hu'
     rwa [Nat.add_assoc]
    ·have hd:∀ (n:Nat) (ls:List (TV E)) (vs:List Value),TReps w F ls vs->TReps w F (ls.drop n) (vs.drop n):=by
      intro n
      induction n with
      | zero=>intro ls vs h; exact h
      | succ n ih=>
        intro ls vs h
        match ls,vs,h with
        | [],[],_=>exact trivial
        | _::_,_::_,h=>exact ih _ _ h.2
        | [],_::_,h=>exact h.elim
        | _::_,[],h=>exact h.elim
     exact hd _ _ _ hr
   ·cases he
  ·cases he
 ·cases he
theorem evalR_sound {C:Ctx E} (hC:COk P C) (h:Sim P base w0 F0 ov σ a w j tk F) {d:Nat} {o:Oper} {K:Hold E->Option β} (hn:isCall o=false) (hmr:mkRunes C o=false) (he:evalR C σ d o K=some r) :
  ∃ z v,(execOp a.eval o).run P w = .ok (.value v) w/\HRep w j tk F z v/\K z=some r:=by
 unfold evalR at he
 split at he
 ·rename_i x ho; exact ⟨_,_,by simp [execOp,ho],h.ev x,he⟩
 ·rename_i x ho; exact ⟨_,_,by simp [execOp,ho],h.ev x,he⟩
 ·
  rename_i c x y ho
  split at he
  ·rename_i t hc
   have hv:=h.ev c
   rw [hc] at hv
   have hv:a.eval c = .bool t:=rep_bool_inv hv
   cases t with
   | true=>exact ⟨_,a.eval x,by simp [execOp,ho,hv,asBool],h.ev x,he⟩
   | false=>exact ⟨_,a.eval y,by simp [execOp,ho,hv,asBool],h.ev y,he⟩
  ·cases he
 ·
  rename_i op t x y t' ho
  split at he
  ·rename_i x' y' hx hy
   have h1:=h.ev x
   have h2:=h.ev y
   rw [hx] at h1
   rw [hy] at h2
   obtain ⟨z,v,h3,h4,h5⟩:=binC_sound (P:=P) hC (t:=t) (ox:=x) (oy:=y) h1 h2 he
   exact ⟨.one (.tv z),v,by simp only [execOp,ho,Sem.run_bind] at h3 ⊢; simp [h3,Result.andThen] at h3 ⊢; simp [h3],h4,h5⟩
  ·rename_i xs ys hx hy
   have h1:=h.ev x
   have h2:=h.ev y
   rw [hx] at h1
   rw [hy] at h2
   split at he
   ·rename_i ts hts
    obtain ⟨z,v,h3,h4,h5⟩:=eqAgg_sound hC (P:=P) (t:=t) (ox:=x) (oy:=y) (K:=fun r=>K (.one (.tv r))) h1 h2 hts he
    exact ⟨.one (.tv z),v,by simp only [execOp,ho,Sem.run_bind] at h3 ⊢; simp [h3,Result.andThen] at h3 ⊢; simp [h3],h4,h5⟩
   ·cases he
  ·cases he
 ·
  rename_i op t x ho
  split at he
  ·rename_i x' hx
   have h1:=h.ev x
   rw [hx] at h1
   obtain ⟨z,v,h3,h4,h5⟩:=unTV_sound (P:=P) h1 he
   exact ⟨.one (.tv z),v,by simp [execOp,ho,h3],h4,h5⟩
  ·cases he
 ·
  rename_i t x ho
  split at he
  ·rename_i ti hti
   obtain ⟨i,td,hT,_⟩:=tok_of hC hti
   split at he
   ·rename_i s off hx
    split at he
    ·rename_i cs hcs
     have h1:=(h.ev x).fp
     rw [hx] at h1
     obtain ⟨b,hb1,hb2⟩:=h1
     obtain ⟨b',vs,T,h2,h3,h4⟩:=h.boxes s cs hcs
     rw [hb1] at h2
     cases h2
     obtain ⟨z,v,h5,h6,h7⟩:=loadC_sound (b:=b) (oo:=0) hT he h4 (fun m u hu=>by rw [cell_of_row w b _ vs T (0,0) h3]; simpa using hu)
     rw [Nat.zero_add] at h5
     exact ⟨z,v,exec_load ho hb2 h5,h6,h7⟩
    ·cases he
   ·rename_i ls hx
    have h1:=(h.ev x).fp
    rw [hx] at h1
    obtain ⟨b,oo,vs,hv,hc,hr⟩:=h1
    obtain ⟨z,v,h5,h6,h7⟩:=loadC_sound (b:=b) (oo:=oo) (o:=0) (j:=j) (tk:=tk) hT he (LRep.of_tvs hr) (fun m u hu=>(hc m u hu).2)
    exact ⟨z,v,exec_load ho hv h5,h6,h7⟩
   ·cases he
  ·cases he
 ·
  rename_i t x f ho
  split at he
  ·rename_i ti hti
   obtain ⟨i,td,hT,hcd⟩:=tok_of hC hti
   split at he
   ·rename_i fs hfs
    rw [hfs] at hcd
    obtain ⟨fields,hu,_,hf⟩:=under_struct hcd
    split at he
    ·rename_i off ty sz hm
     obtain ⟨fd,fi,h1,h2,h3,h4,h5⟩:=hf f off ty sz hm
     split at he
     ·rename_i s o' hsz hx
      have hsz:=Nat.le_of_ble_eq_true hsz
      have hv:=(h.ev x).fp
      rw [hx] at hv
      obtain ⟨b,hb1,hb2⟩:=hv
      have hne : ¬ fi.size=0:=by rw [h5]; omega
      refine ⟨.one (.ptr s (o' + off)),.pointer (some ⟨b,o' + off,none⟩),?_,⟨b,hb1,rfl⟩,he⟩
      simp [execOp,ho,Instr.fieldAt,run_underlying hu,h1,hb2,Instr.sureAddr,fieldPlace,h3,run_size h4,hne,h2,addr_add]
     ·rename_i ls hsz hx
      have hsz:=Nat.le_of_ble_eq_true hsz
      have hv:=(h.ev x).fp
      rw [hx] at hv
      obtain ⟨b,oo,vs,hb2,hc,hr⟩:=hv
      have hne : ¬ fi.size=0:=by rw [h5]; omega
      refine ⟨.one (.fptr (ls.drop off)),.pointer (some ⟨b,oo+off,none⟩),?_,⟨b,oo+off,vs.drop off,rfl,?_,?_⟩,he⟩
      ·simp [execOp,ho,Instr.fieldAt,run_underlying hu,h1,hb2,Instr.sureAddr,fieldPlace,h3,run_size h4,hne,h2,addr_add]
      ·intro m u hu'
       rw [List.getElem?_drop] at hu'
       have:=hc _ _ hu'
       rwa [Nat.add_assoc]
      ·have hd:∀ (n:Nat) (ls:List (TV E)) (vs:List Value),TReps w F ls vs->TReps w F (ls.drop n) (vs.drop n):=by
        intro n
        induction n with
        | zero=>intro ls vs h; exact h
        | succ n ih=>
          intro ls vs h
          match ls,vs,h with
          | [],[],_=>exact trivial
          | _::_,_::_,h=>exact ih _ _ h.2
          | [],_::_,h=>exact h.elim
          | _::_,[],h=>exact h.elim
       exact hd _ _ _ hr
     ·cases he
    ·cases he
   ·cases he
  ·cases he
 ·
  rename_i t x y ho
  split at he
  ·rename_i e te τ hel
   obtain ⟨hu,i,d',hT,hsz,_⟩:=elem_of hC hel
   split at he
   ·rename_i xs k n hxs hy
    obtain ⟨hc,he⟩:=cond_none_right he
    simp only [Bool.and_eq_true,decide_eq_true_eq] at hc
    have hv:=sliceOf_rep (h.ev x) hxs
    have hi:=h.ev y
    rw [hy] at hi
    have hi:a.eval y = .int k n:=rep_int_inv hi
    obtain ⟨b,cap,e1,e2,e3,e4,vs,e5,e6⟩:=rep_slice hv
    have hlt:n.toNat<xs.length:=by omega
    cases b with
    | none=>have:=e3 rfl; omega
    | some ad=>
      have hsp:=e4 ad rfl (fun e=>by rw [e] at hlt; simp at hlt)
      obtain ⟨blk,off,spot⟩:=ad
      simp only at hsp
      subst hsp
      have hx:xs[n.toNat]? = some (rd τ xs n.toNat):=by
       unfold rd; rw [List.getD_eq_getElem?_getD,List.getElem?_eq_getElem hlt]; rfl
      refine ⟨.one (.fptr (leaves τ (rd τ xs n.toNat))),.pointer (some ⟨blk,off+n.toNat*τ.size E,none⟩),?_,⟨blk,off+n.toNat*τ.size E,(List.range (τ.size E)).map (vs n.toNat),rfl,?_,?_⟩,he⟩
      ·simp [execOp,ho,Instr.indexAt,hi,asIntOf,run_underlying hu,e1,hc.1,hc.2,run_size hT.info,hsz,addr_add]
      ·intro m u hm
       rw [List.getElem?_map] at hm
       by_cases hmm:m<τ.size E
       ·rw [List.getElem?_range hmm] at hm
        simp only [Option.map_some,Option.some.injEq] at hm
        subst hm
        have hl:(leaves τ (rd τ xs n.toNat))[m]? = some ((leaves τ (rd τ xs n.toNat))[m]'(by rw [size_leaves]; exact hmm)):=List.getElem?_eq_getElem _
        have:=e5 _ rfl _ _ _ _ hx hl
        simp only at this ⊢
        rw [Nat.add_assoc]
        exact this
       ·rw [List.getElem?_eq_none (by simpa using hmm)] at hm
        cases hm
      ·refine TReps.of_get (by simp [size_leaves]) fun m l v hl hv => ?_
       have hmm:m<τ.size E:=by rw [<- size_leaves (E:=E) τ (rd τ xs n.toNat)]; exact (List.getElem?_eq_some_iff.1 hl).1
       rw [List.getElem?_map,List.getElem?_range hmm] at hv
       simp only [Option.map_some,Option.some.injEq] at hv
       subst hv
       exact e6 _ _ _ _ hx hl
   ·cases he
  ·cases hq:arrAddr C t y (σ.ev x).fp with
   | none=>rw [hq] at he; cases he
   | some z=>
     rw [hq] at he
     obtain ⟨v,h1,h2⟩:=arrAddr_sound hC ho h hq
     exact ⟨z,v,h1,h2,he⟩
 ·
  rename_i t x y ho
  split at he
  ·rename_i ti hti
   obtain ⟨i,td,hT,hcd⟩:=tok_of hC hti
   split at he
   ·rename_i s k n hd hx hy
    rw [hd] at hcd
    have hu:=under_str hcd
    obtain ⟨hc,he⟩:=cond_none_right he
    simp only [Bool.and_eq_true,decide_eq_true_eq] at hc
    have h1:=h.ev x
    have h2:=h.ev y
    rw [hx] at h1
    rw [hy] at h2
    have h2:a.eval y = .int k n:=rep_int_inv h2
    obtain ⟨bs,hbs,hs⟩:∃ bs:ByteArray,a.eval x = .string bs/\bs.data.toList=s:=by
     exact rep_str_inv h1
    have hlt:n.toNat<bs.size:=by
     have:bs.data.toList.length=bs.size:=rfl
     rw [hs] at this; omega
    refine ⟨_,.int .u8 (bt s n.toNat),?_,hrep_int _ _,he⟩
    have hget:bs[n.toNat]? = some bs[n.toNat]:=by simp [hlt]
    have hbt:bt s n.toNat=(bs[n.toNat].toNat:Int):=by
     unfold bt
     rw [<- hs,List.getD_eq_getElem?_getD]
     have:bs.data.toList[n.toNat]? = some bs[n.toNat]:=by
      rw [Array.getElem?_toList]
      exact Array.getElem?_eq_getElem (by simpa using hlt)
     rw [this]; rfl
    simp [execOp,ho,Instr.index,h2,asIntOf,run_underlying hu,hbs,hc.1,hget,hbt]
   ·cases he
  ·cases he
 ·
  rename_i t x lo hi ho
  split at he
  ·rename_i ti c l u hti hx hlo hhi
   obtain ⟨i,td,hT,hcd⟩:=tok_of hC hti
   split at he
   ·rename_i s hd
    rw [hd] at hcd
    have hu:=under_str hcd
    obtain ⟨m,n,h1,h2,h3,h4,h5,h6,h7⟩:=cutL_sound he
    have hv:=h.ev x
    rw [hx] at hv
    obtain ⟨bs,hbs,hs⟩:∃ bs:ByteArray,a.eval x = .string bs/\bs.data.toList=s:=by
     exact rep_str_inv hv
    have hlen:s.length=bs.size:=by rw [<- hs]; rfl
    have hb:=run_bounds (isSlice:=false) (len:=bs.size) (cap:=bs.size) h hlo hhi h1 (by rw [hlen] at h2; split <;> exact h2) h3 h4 h5 (by rw [hlen] at h6; exact h6)
    refine ⟨_,.string (bs.extract m n),?_,?_,h7⟩
    ·simp [execOp,ho,Instr.sliceAt,Instr.slice,run_underlying hu,hbs,hb]
    ·have:(bs.extract m n).data.toList=(s.take n).drop m:=by
      rw [Lib.extract_data,hs,List.drop_take]
     show Rep w F (.str _) _
     rw [<- this]
     exact .str _
   ·rename_i e hd
    rw [hd] at hcd
    have hu:=under_slice hcd
    split at he
    ·rename_i e' te τ hel
     obtain ⟨hu',ie,d',hTe,hsz,_⟩:=elem_of hC hel
     rw [hu] at hu'
     cases hu'
     split at he
     ·rename_i xs hxs
      obtain ⟨m,n,h1,h2,h3,h4,h5,h6,h7⟩:=cutL_sound he
      have hv:=h.ev x
      rw [hx] at hv
      have hv:=sliceOf_rep hv hxs
      obtain ⟨b,cap,e1,e2,e3,e4,_⟩:=rep_slice hv
      have hb:=run_bounds (isSlice:=true) (len:=xs.length) (cap:=cap) h hlo hhi h1 (by split <;> omega) h3 h4 h5 h6
      rw [e1] at hv
      refine ⟨_,.slice (if cap=m then b else b.map (·.add (m*ie.size))) (n - m) (cap - m),?_,?_,h7⟩
      ·simp [execOp,ho,Instr.sliceAt,Instr.slice,run_underlying hu,e1,hb,run_size hTe.info]
      ·refine hv.cut h1 h2 _ (by omega) (fun e=>by have:=e3 e; omega) _ ?_
       split
       ·exact .inr ⟨rfl,.inl (by omega)⟩
       ·rw [hsz]; exact .inl rfl
     ·cases he
    ·cases he
   ·cases he
  ·cases he
 ·
  rename_i t x y z ho
  split at he
  ·rename_i e te τ ky hh kz m hel hy hz
   obtain ⟨hu,ie,d',hTe,hsz,_⟩:=elem_of hC hel
   split at he
   ·rename_i xs hxs
    obtain ⟨hc,he2⟩:=cond_none_right he
    clear he
    simp only [Bool.and_eq_true,decide_eq_true_eq] at hc
    obtain ⟨hc1,hc2,hc3⟩:=hc
    have hv:=sliceOf_rep (h.ev x) hxs
    obtain ⟨b,cap,e1,e2,e3,e4,_⟩:=rep_slice hv
    have hyv:a.eval y = .int ky hh:=by have:=h.ev y; rw [hy] at this; exact rep_int_inv this
    have hzv:a.eval z = .int kz m:=by have:=h.ev z; rw [hz] at this; exact rep_int_inv this
    subst hc3
    have hle:hh.toNat<=xs.length:=by omega
    have hcap:hh<=(cap:Int):=by omega
    have hl:(List.take hh.toNat xs).length=hh.toNat:=by rw [List.length_take]; omega
    rw [e1] at hv
    have hcut:=hv.cut (l:=0) (u:=hh.toNat) (by omega) hle hh.toNat (by omega) (fun e=>by have:=e3 e; omega) (if hh.toNat=0 then b else b.map (·.add (0*ie.size))) (by
     split
     ·exact .inr ⟨rfl,.inl (by omega)⟩
     ·rw [hsz]; exact .inl rfl)
    rw [List.drop_zero] at hcut
    have hr:HRep w j tk F (.one (.full τ (xs.take hh.toNat))) (.slice (if hh.toNat=0 then b else b.map (·.add (0*ie.size))) hh.toNat hh.toNat):=⟨_,by rw [hl],by simpa using hcut⟩
    refine ⟨_,.slice (if hh.toNat=0 then b else b.map (·.add (0*ie.size))) hh.toNat hh.toNat,?_,hr,he2⟩
    simp [execOp,ho,Instr.sliceAt,Instr.slice,run_underlying hu,e1,Instr.sliceBounds,Instr.sliceBound,asIntOf,hyv,hzv,hc1,hcap,run_size hTe.info]
    intro hbad
    omega
   ·cases he
  ·cases he
 ·
  rename_i x i ho
  split at he
  ·rename_i vs hx
   split at he
   ·rename_i v hv
    have h1:=h.ev x
    rw [hx] at h1
    obtain ⟨us,hu,hr⟩:=h1
    obtain ⟨u,hu',hr'⟩:=hr.get i v hv
    exact ⟨_,u,by simp [execOp,ho,Instr.extract,hu,hu'],hr'.hold,he⟩
   ·cases he
  ·cases he
 ·
  rename_i x ho
  split at he
  ·rename_i s o' hx
   have h1:=(h.ev x).fp
   rw [hx] at h1
   have h2:=h1
   obtain ⟨b,hb1,hb2⟩:=h1
   exact ⟨_,a.eval x,by simp [execOp,ho,hb2],h2,he⟩
  ·rename_i ls hx
   have h1:=(h.ev x).fp
   rw [hx] at h1
   have h2:=h1
   obtain ⟨b,oo,vs,hb2,_⟩:=h1
   exact ⟨_,a.eval x,by simp [execOp,ho,hb2],h2,he⟩
  ·cases he
 ·
  rename_i f first captured ho
  split at he
  ·rename_i us vs h1 h2
   refine ⟨.one (.fn (.func f) us vs),.func (.func f) (first.map a.eval) (captured.map a.eval),by simp [execOp,ho,Instr.makeFunc],⟨(first.map a.eval).toList,(captured.map a.eval).toList,by rw [Array.toArray_toList,Array.toArray_toList],?_,?_⟩,he⟩
   ·rw [Array.toList_map]; exact scs_sound h _ _ h1
   ·rw [Array.toList_map]; exact scs_sound h _ _ h2
  ·cases he
 ·
  rename_i t parts ho
  split at he
  ·rename_i ti hti
   obtain ⟨i,td,hT,hcd⟩:=tok_of hC hti
   split at he
   ·rename_i fs hpf
    split at he
    ·rename_i cs hcs
     obtain ⟨zv,hz,_,hzr⟩:=hT.zero
     unfold places at hpf
     split at hpf
     rotate_left
     ·rename_i n e hfs
      split at hpf
      ·rename_i te hte
       cases hpf
       rw [hfs] at hcd
       have hu:=under_arr hcd
       obtain ⟨ie,de,hTe,_⟩:=tok_of hC hte
       obtain ⟨vs',h1,h2⟩:=buildParts_sound h _ (fun i=>some (i*ie.size,ie.size)) (fun m x hx=>by
        simp only [List.getElem?_map,Option.map_eq_some_iff] at hx
        obtain ⟨q,hq,rfl⟩:=hx
        have:=List.getElem?_range (n:=n) (i:=m) (by have:=(List.getElem?_eq_some_iff.1 hq).1; simpa using this)
        rw [this] at hq
        cases hq
        rw [hTe.size]) parts.toList _ cs zv.cells hcs (LRep.of_tvs (hzr w F))
       refine ⟨.agg cs,.agg vs',?_,⟨vs'.toList,by simp,h2⟩,he⟩
       have hz' : (zeroValue t).run P w = .ok zv w:=by simp [zeroValue,typeInfo,hT.info,hz]
       have hsz:(sizeOf e).run P w = .ok ie.size w:=by simp [sizeOf,typeInfo,hTe.info]
       have h1' : Instr.fill (fun i=>some (i*ie.size,ie.size)) zv.cells (parts.map fun (i,x)=>(i,a.eval x)).toList=some vs' := by
        rw [<- h1]; congr 1; rw [Array.toList_map]
       simp only [execOp,ho,Sem.run_bind,Instr.build,hz',Result.andThen_ok,run_underlying hu,hsz,h1']
       simp
      ·cases hpf
     ·cases hpf
     rename_i fs' hfs
     cases hpf
     rw [hfs] at hcd
     obtain ⟨fields,hu,_,_⟩:=under_struct hcd
     obtain ⟨vs',h1,h2⟩:=buildParts_sound h fs ((fs.map fun x=>(x.1,x.2.2)).toArray[·]?) (fun m x hx=>by simp [hx]) parts.toList _ cs zv.cells hcs (LRep.of_tvs (hzr w F))
     refine ⟨.agg cs,.agg vs',?_,⟨vs'.toList,by simp,h2⟩,he⟩
     have hb:P.built t ((parts.map fun (i,x)=>(i,a.eval x)).toList)=some vs' := by
      unfold Program.built
      simp only [hT.info,hu,hz,places_of hu hcd]
      rw [<- h1]
      congr 1
      rw [Array.toList_map]
     simp only [execOp,ho,Sem.run_bind,run_build w t _ vs' hb,Result.andThen_ok,Sem.run_pure]
    ·cases he
   ·cases he
  ·cases he
 ·
  rename_i c ho
  split at he
  ·rename_i hc
   split at he
   ·rename_i x t ha ht
    split at he
    ·rename_i ti hti
     obtain ⟨i,td,hT,hcd⟩:=tok_of hC hti
     obtain ⟨z,v,h1,h2,h3⟩:=lenM_sound (ty:=o.type) h (h.ev x) he hcd
     exact ⟨z,v,exec_call_len ho hc ha ht h1,h2,h3⟩
    ·cases he
   ·cases he
  ·rename_i f hc
   simp [isCall,ho,hc] at hn
  ·cases he
 ·
  rename_i s t x ho
  split at he
  ·rename_i rs hrs
   unfold ofRunes at hrs
   split at hrs
   ·rename_i e te td hel htd
    split at hrs
    ·rename_i hd hde
     obtain ⟨i,d0,hT,hcd⟩:=tok_of hC htd
     rw [hd] at hcd
     have hut:=under_str hcd
     have hus:=(elem_of hC hel).1
     have hue:P.underlying e=some (.int .i32):=by
      unfold elemTy at hel
      split at hel
      ·split at hel
       ·split at hel
        ·rename_i te' hte
         split at hel
         ·cases hel
          obtain ⟨_,_,_,hc'⟩:=tok_of hC hte
          rw [hde] at hc'
          exact under_int hc'
         ·cases hel
        ·cases hel
       ·cases hel
      ·cases hel
     refine ⟨_,.string (runesBytes rs),?_,rep_runes rs,he⟩
     have:=run_ofRunes (P:=P) hus hue hut (sliceOf_rep (h.ev x) hrs)
     simp only [execOp,ho,Sem.run_bind,this,Result.andThen_ok,Sem.run_pure]
    ·cases hrs
   ·cases hrs
  have hrn:toRunes C s t=false:=by simpa [mkRunes,ho] using hmr
  rw [hrn] at he
  dsimp only at he
  split at he
  ·rename_i _ _ _ ts td v hs ht hx
   obtain ⟨i,d0,hT,hcd⟩:=tok_of hC hs
   obtain ⟨i',d1,hT',hcd'⟩:=tok_of hC ht
   have hv:=h.ev x
   rw [hx] at hv
   have hsome:(P.underlying s).isSome=true:=by rw [hT.under]; rfl
   unfold convTV at he
   split at he
   ·rename_i k' k m hd
    rw [hd] at hcd'
    have hu:=under_int hcd'
    have hv' : a.eval x = .int k m:=repI hv
    have hik:P.intKind t=k' := by simp [Program.intKind,hu]
    refine ⟨.one (.tv (.int k' (k'.wrap m))),.int k' (k'.wrap m),?_,Rep.int _ _,he⟩
    have:=run_convert_int (P:=P) w s t k m hsome (by rw [hik]; exact hu)
    rw [hik] at this
    simp only [execOp,ho,hv',Sem.run_bind,this,Result.andThen_ok,Sem.run_pure]
   ·rename_i k m hd
    rw [hd] at hcd'
    have hu:=under_str hcd'
    have hv' : a.eval x = .int k m:=repI hv
    refine ⟨.one (.tv (.str (enc m))),.string (Utf8.encode m),?_,Rep.str _,he⟩
    have:=run_convert_int_string (P:=P) w s t k m hsome hu
    simp only [execOp,ho,hv',Sem.run_bind,this,Result.andThen_ok,Sem.run_pure]
   ·cases he
  ·cases he
 ·cases he
end
end Go.Ai

namespace Go.Ai
open Go.RowKit
section
variable {N:Type} [DecidableEq N] {E:Env N} {P:Program}
variable {base:Nat} {ov:Ov E} {w0 w w' : World} {F0:Fx} {F F' : Fz} {σ:St E} {a:Act} {j:Sites} {tk:Toks}
theorem idx_lt {n s i c:Nat} (hi:i<n) (hc:c<s):i*s+c<n*s:=by
 have h:(i+1)*s<=n*s:=Nat.mul_le_mul_right _ hi
 rw [Nat.add_mul,Nat.one_mul] at h
 omega
theorem RowRep.append {τ:Ty N} {xs ys:List (den E.Γ τ)} {L M:List Value} (h:RowRep w F τ xs L) (h' : RowRep w F τ ys M):RowRep w F τ (xs++ys) (L++M):=by
 refine ⟨by rw [List.length_append,List.length_append,h.1,h'.1,Nat.add_mul],fun i x c l hx hl => ?_⟩
 have hc:c<τ.size E:=by rw [<- size_leaves (E:=E) τ x]; exact (List.getElem?_eq_some_iff.1 hl).1
 by_cases hi:i<xs.length
 ·rw [List.getElem?_append_left hi] at hx
  obtain ⟨u,h1,h2⟩:=h.2 i x c l hx hl
  exact ⟨u,by rw [List.getElem?_append_left (by rw [h.1]; exact idx_lt hi hc)]; exact h1,h2⟩
 ·rw [List.getElem?_append_right (by omega)] at hx
  obtain ⟨u,h1,h2⟩:=h'.2 _ x c l hx hl
  refine ⟨u,?_,h2⟩
  have e:xs.length*τ.size E<=i*τ.size E:=Nat.mul_le_mul_right _ (by omega)
  rw [List.getElem?_append_right (by rw [h.1]; omega),h.1]
  rw [<- h1]
  congr 1
  rw [Nat.sub_mul]
  omega
theorem row_of_rep {τ:Ty N} {xs:List (den E.Γ τ)} {v:Value} (h:Rep w F (.sl τ xs) v):∃ b cap L,v = .slice b xs.length cap/\(b=none->xs=[]/\cap=0)/\(∀ ad,b=some ad->L≠[]->ad.spot=none)/\RowRep w F τ xs L/\(∀ u ∈ L,u.oneCell' = true) /\
  ∀ ad,b=some ad -> ∀ (q:Nat) (u:Value),L[q]? = some u->F ad.block (ad.off+q)/\w.cell? ⟨ad.block,ad.off+q,none⟩=some u:=by
 obtain ⟨b,cap,h1,h2,h3,h4,vs,h5,h6⟩:=rep_slice h
 have hs:=size_pos (E:=E) τ
 have hget:∀ q u,((List.range (xs.length*τ.size E)).map fun q=>vs (q / τ.size E) (q % τ.size E))[q]? = some u ->
   ∃ x l,xs[q / τ.size E]? = some x/\(leaves τ x)[q % τ.size E]? = some l/\u=vs (q / τ.size E) (q % τ.size E):=by
  intro q u hq
  have hlt:q<xs.length*τ.size E:=by
   have:=(List.getElem?_eq_some_iff.1 hq).1
   simpa using this
  rw [List.getElem?_map,List.getElem?_range hlt] at hq
  simp only [Option.map_some,Option.some.injEq] at hq
  have hi:q / τ.size E<xs.length:=Nat.div_lt_of_lt_mul (by rw [Nat.mul_comm]; exact hlt)
  have hm:q % τ.size E<τ.size E:=Nat.mod_lt _ hs
  refine ⟨xs[q / τ.size E],(leaves τ xs[q / τ.size E])[q % τ.size E]'(by rw [size_leaves]; exact hm),List.getElem?_eq_getElem hi,List.getElem?_eq_getElem _,hq.symm⟩
 refine ⟨b,cap,(List.range (xs.length*τ.size E)).map fun q=>vs (q / τ.size E) (q % τ.size E),h1,?_,(fun ad h hne=>h4 ad h (fun e=>hne (by simp [e]))),⟨by simp,?_⟩,?_,?_⟩
 ·intro e
  have:=h3 e
  exact ⟨List.eq_nil_of_length_eq_zero (by omega),this⟩
 ·intro i x c l hx hl
  have hi:i<xs.length:=(List.getElem?_eq_some_iff.1 hx).1
  have hc:c<τ.size E:=by rw [<- size_leaves (E:=E) τ x]; exact (List.getElem?_eq_some_iff.1 hl).1
  have e1:(i*τ.size E+c) / τ.size E=i:=by rw [Nat.add_comm,Nat.add_mul_div_right _ _ hs,Nat.div_eq_of_lt hc,Nat.zero_add]
  have e2:(i*τ.size E+c) % τ.size E=c:=by rw [Nat.add_comm,Nat.add_mul_mod_self_right,Nat.mod_eq_of_lt hc]
  refine ⟨vs i c,?_,h6 i x c l hx hl⟩
  rw [List.getElem?_map,List.getElem?_range (idx_lt hi hc)]
  simp [e1,e2]
 ·intro u hu
  obtain ⟨q,hq⟩:=List.mem_iff_getElem?.1 hu
  obtain ⟨x,l,hx,hl,rfl⟩:=hget q u hq
  exact (h6 _ _ _ _ hx hl).oneCell
 ·intro ad had q u hq
  obtain ⟨x,l,hx,hl,rfl⟩:=hget q u hq
  have:=h5 ad had _ _ _ _ hx hl
  have e:q / τ.size E*τ.size E+q % τ.size E=q:=by rw [Nat.mul_comm]; exact Nat.div_add_mod q _
  rw [e] at this
  exact this
theorem rep_of_own {τ:Ty N} {xs:List (den E.Γ τ)} {v:Value} {L:List Value} {e:TypeId} {b0:Nat} (ho:w.ownsRow b0 e (τ.size E) v xs.length L) (hr:RowRep w F τ xs L)
  (hF:∀ g,v.ownBlock=some g -> ∀ o,o<xs.length*τ.size E->F g o):Rep w F (.sl τ xs) v:=by
 rcases ho.2 with ⟨rfl,hn⟩ | ⟨g,cap,cur,rfl,hb,hg,hle,hm,hsz,ht⟩
 ·have:xs=[]:=List.eq_nil_of_length_eq_zero hn
  subst this
  exact Rep.sl τ [] none 0 (fun _ _=>default) (Nat.le_refl _) (fun _=>rfl) (fun ad h _=>by cases h) (fun ad h=>by cases h) (fun i x c l hx=>by simp at hx)
 ·have hch:∀ i c,∃ u,(i<xs.length->c<τ.size E->L[i*τ.size E+c]? = some u):=by
   intro i c
   by_cases h1:i<xs.length
   ·by_cases h2:c<τ.size E
    ·exact ⟨L[i*τ.size E+c]'(by rw [hr.1]; exact idx_lt h1 h2),fun _ _=>List.getElem?_eq_getElem _⟩
    ·exact ⟨default,fun _ h=>absurd h h2⟩
   ·exact ⟨default,fun h=>absurd h h1⟩
  refine Rep.sl τ xs (some ⟨g,0,none⟩) cap (fun i c=>Classical.choose (hch i c)) hle (fun h=>by cases h) (fun ad h _=>by cases h; rfl) ?_ ?_
  ·intro ad had i x c l hx hl
   cases had
   have hi:i<xs.length:=(List.getElem?_eq_some_iff.1 hx).1
   have hc:c<τ.size E:=by rw [<- size_leaves (E:=E) τ x]; exact (List.getElem?_eq_some_iff.1 hl).1
   have hs:=Classical.choose_spec (hch i c) hi hc
   simp only [Nat.zero_add]
   refine ⟨hF g rfl _ (idx_lt hi hc),?_⟩
   have:=ho.cells (g:=g) rfl _ _ hs
   rwa [addr_add,Nat.zero_add] at this
  ·intro i x c l hx hl
   have hi:i<xs.length:=(List.getElem?_eq_some_iff.1 hx).1
   have hc:c<τ.size E:=by rw [<- size_leaves (E:=E) τ x]; exact (List.getElem?_eq_some_iff.1 hl).1
   have hs:=Classical.choose_spec (hch i c) hi hc
   obtain ⟨u,h1,h2⟩:=hr.2 i x c l hx hl
   rw [hs] at h1
   cases h1
   exact h2
theorem tok_row {τ:Ty N} {xs:List (den E.Γ τ)} {v:Value} {L:List Value} {e:TypeId} {b0 n size:Nat} (h:Rep w F (.sl τ xs) v) (ho:w.ownsRow b0 e size v n L) (hs:size=τ.size E) :
  n=xs.length/\RowRep w F τ xs L:=by
 subst hs
 obtain ⟨b,cap,h1,h2,h3,h4,vs,h5,h6⟩:=rep_slice h
 have hn:n=xs.length:=by
  rcases ho.2 with ⟨hv,hn⟩ | ⟨g,cap',cur,hv,_⟩
  ·rw [h1] at hv
   simp only [Value.slice.injEq] at hv
   omega
  ·rw [h1] at hv
   simp only [Value.slice.injEq] at hv
   exact hv.2.1.symm
 subst hn
 refine ⟨rfl,ho.1,fun i x c l hx hl => ?_⟩
 have hi:i<xs.length:=(List.getElem?_eq_some_iff.1 hx).1
 have hc:c<τ.size E:=by rw [<- size_leaves (E:=E) τ x]; exact (List.getElem?_eq_some_iff.1 hl).1
 rcases ho.2 with ⟨hv,hn⟩ | ⟨g,cap',cur,hv,_⟩
 ·omega
 ·rw [h1] at hv
  simp only [Value.slice.injEq] at hv
  obtain ⟨hb,_,_⟩:=hv
  subst hb
  have h7:=(h5 _ rfl i x c l hx hl).2
  simp only [Nat.zero_add] at h7
  have hlt:=idx_lt hi hc
  have hq:L[i*τ.size E+c]? = some (L[i*τ.size E+c]'(by rw [ho.1]; exact hlt)):=List.getElem?_eq_getElem _
  have h8:=ho.cells (g:=g) (by rw [h1]; rfl) _ _ hq
  rw [addr_add,Nat.zero_add,h7] at h8
  refine ⟨vs i c,?_,h6 i x c l hx hl⟩
  rw [hq]
  exact h8.symm
theorem ownsRow_base {b0 b1:Nat} {e:TypeId} {size n:Nat} {v:Value} {L:List Value} (h:w.ownsRow b0 e size v n L) (hb:b1<=b0):w.ownsRow b1 e size v n L:=by
 refine ⟨h.1,?_⟩
 rcases h.2 with h | ⟨g,cap,cur,h1,h2,h3⟩
 ·exact .inl h
 ·exact .inr ⟨g,cap,cur,h1,Nat.le_trans hb h2,h3⟩
theorem run_append_tok (t ty e:TypeId) (i:TypeInfo) (z:Value) (ht:P.underlying t=some (.slice e)) (hi:P.info? e=some i) (hz:i.zero=some z) (hzs:z.cells.size=i.size) (hpos:0<i.size)
  {v:Value} {n:Nat} {xs:List Value} (hown:w.ownsRow base e i.size v n xs)
  (ad:Option Addr) (m c:Nat) (news:List Value) (hl:news.length=m*i.size) (hnil:ad=none->m=0/\c=0) (hnews:∀ p,ad=some p -> ∀ (q:Nat) (u:Value),news[q]? = some u->w.cell? (p.add q)=some u) (h1:∀ u ∈ news,u.oneCell' = true)
  (h63:n+m<=maxLen) (hbytes:(n+m)*i.bytes<=140737488355328) (hbase:base<=w.heap.size) :
  ∃ v' w',(Builtin.append_ #[t,t] ty #[v,.slice ad m c]).run P w = .ok v' w' /\ w'.ownsRow base e i.size v' (n+m) (xs++news) /\
    ((w.grownBy w' v.ownBlock/\v'.ownBlock=v.ownBlock)\/(Below w.heap.size w w' /\ (∀ g,v'.ownBlock=some g->w.heap.size<=g)/\v'.ownBlock.isSome=true)):=by
 cases ad with
 | none=>
   obtain ⟨rfl,rfl⟩:=hnil rfl
   have hn:news=[]:=List.eq_nil_of_length_eq_zero (by simpa using hl)
   subst hn
   refine ⟨v,w,run_append_owned_none w base t ty e i i.size ht hi v n xs hown,by simpa using hown,.inl ⟨⟨rfl,rfl,rfl,Nat.le_refl _,fun _ _ _=>rfl⟩,rfl⟩⟩
 | some p=>
   have hnews:=hnews p rfl
   have hsmall:n+m<=9223372036854775807:=by simp only [maxLen] at h63; omega
   have hlen:(xs++news).length=(n+m)*i.size:=by rw [List.length_append,hown.1,hl,Nat.add_mul]
   have grown:∀ (old:Nat),old<n+m ->
     (w.drew.alloc (.cells (xs.toArray++news.toArray++Builtin.zeroCells z.cells (grownCap w (n+m) old e - (n+m))) e)).ownsRow base e i.size
      (.slice (some ⟨w.heap.size,0,none⟩) (n+m) (grownCap w (n+m) old e)) (n+m) (xs++news) /\
     Below w.heap.size w (w.drew.alloc (.cells (xs.toArray++news.toArray++Builtin.zeroCells z.cells (grownCap w (n+m) old e - (n+m))) e)):=by
    intro old ho
    have hge:=grownCap_ge w (n+m) old e
    have hcm:grownCap w (n+m) old e<=maxLen:=grownCap_le_maxLen w (n+m) old e h63
    refine ⟨⟨hlen,.inr ⟨w.heap.size,_,_,rfl,hbase,heap_alloc_new w.drew _,hge,hcm,?_,?_⟩⟩,((Below.refl _ _).drew).alloc (Nat.le_refl _) _⟩
    ·simp only [Array.size_append,List.size_toArray,size_zeroCells,hzs,hown.1,hl,<- Nat.add_mul]
     congr 1
     omega
    ·simp only [Array.toList_append,List.append_assoc]
     rw [<- List.append_assoc,<- hlen]
     exact List.take_left
   rcases hown.2 with ⟨rfl,rfl⟩ | ⟨g,cap,cur,rfl,hbg,hg,hnc,hcm,hcs,htake⟩
   ·have hx:xs=[]:=List.eq_nil_of_length_eq_zero (by simpa using hown.1)
    subst hx
    by_cases hm:m=0
    ·subst hm
     have hn:news=[]:=List.eq_nil_of_length_eq_zero (by simpa using hl)
     subst hn
     refine ⟨.slice none 0 0,w,?_,World.ownsRow_nil w base e i.size,.inl ⟨⟨rfl,rfl,rfl,Nat.le_refl _,fun _ _ _=>rfl⟩,rfl⟩⟩
     simp [Builtin.append_,run_underlying ht,sizeOf,typeInfo,hi,Builtin.lenOf,Builtin.firstCells,loadCells,loadCellsFrom]
    ·have hr:=run_append_nil (P:=P) w t ty e i z ht hi hz p m c news hl hnews (by omega) (by omega) (by have hb:=hbytes; simp only [Nat.zero_add] at hb; omega)
     have hgr:=grown 0 (by omega)
     simp only [Nat.zero_add,List.nil_append,Array.empty_append] at hgr ⊢
     exact ⟨_,_,hr,hgr.1,.inr ⟨hgr.2,(fun g hg=>by simp [Value.ownBlock] at hg; omega),rfl⟩⟩
   ·by_cases hroom:n+m<=cap
    ·have hfit:n*i.size+news.length<=cur.size:=by rw [hl,hcs,<- Nat.add_mul]; exact Nat.mul_le_mul_right _ hroom
     have hr:=run_append_room (P:=P) w t ty e i ht hi g n cap cur hg p m c news hl hnews h1 hroom hfit
     refine ⟨_,_,hr,⟨hlen,.inr ⟨g,cap,_,rfl,hbg,setRow_heap w g cur _ e _ hg,hroom,hcm,?_,?_⟩⟩,.inl ⟨⟨rfl,rfl,rfl,by simp,fun k _ hk=>setRow_other w g k _ (fun e=>hk (by simp [Value.ownBlock,e]))⟩,rfl⟩⟩
     ·simp only [List.size_toArray,List.length_append,List.length_take,List.length_drop,Array.length_toList]
      omega
     ·rw [htake,<- hlen]
      exact List.take_left
    ·have holds:∀ j u,xs[j]? = some u->w.cell? ((⟨g,0,none⟩:Addr).add j)=some u:=hown.cells (g:=g) rfl
     have hr:=run_append_grow (P:=P) w t ty e i z ht hi hz ⟨g,0,none⟩ n cap xs hown.1 holds p m c news hl hnews (by omega) (by omega) (growslice_fits (by omega) hbytes)
     have hgr:=grown cap (by omega)
     exact ⟨_,_,hr,hgr.1,.inr ⟨hgr.2,(fun g' hg' => by simp [Value.ownBlock] at hg'; omega),rfl⟩⟩
theorem run_append_full (t ty e:TypeId) (i:TypeInfo) (z:Value) (ht:P.underlying t=some (.slice e)) (hi:P.info? e=some i) (hz:i.zero=some z) (hzs:z.cells.size=i.size)
  (ad0:Option Addr) (n:Nat) (xs:List Value) (hxl:xs.length=n*i.size) (hx0:ad0=none->n=0) (hxc:∀ p,ad0=some p -> ∀ (q:Nat) (u:Value),xs[q]? = some u->w.cell? (p.add q)=some u)
  (p:Addr) (m c:Nat) (news:List Value) (hl:news.length=m*i.size) (hnews:∀ (q:Nat) (u:Value),news[q]? = some u->w.cell? (p.add q)=some u) (hm:0<m)
  (h63:n+m<=maxLen) (hbytes:(n+m)*i.bytes<=140737488355328) (hbase:base<=w.heap.size) :
  ∃ v' w',(Builtin.append_ #[t,t] ty #[.slice ad0 n n,.slice (some p) m c]).run P w = .ok v' w' /\ w'.ownsRow base e i.size v' (n+m) (xs++news) /\
    Below w.heap.size w w' /\ ∀ g,v'.ownBlock=some g->w.heap.size<=g:=by
 have hsmall:n+m<=9223372036854775807:=by simp only [maxLen] at h63; omega
 have hlen:(xs++news).length=(n+m)*i.size:=by rw [List.length_append,hxl,hl,Nat.add_mul]
 have grown:∀ (old:Nat),old<n+m ->
   (w.drew.alloc (.cells (xs.toArray++news.toArray++Builtin.zeroCells z.cells (grownCap w (n+m) old e - (n+m))) e)).ownsRow base e i.size
    (.slice (some ⟨w.heap.size,0,none⟩) (n+m) (grownCap w (n+m) old e)) (n+m) (xs++news) /\
   Below w.heap.size w (w.drew.alloc (.cells (xs.toArray++news.toArray++Builtin.zeroCells z.cells (grownCap w (n+m) old e - (n+m))) e)):=by
  intro old ho
  have hge:=grownCap_ge w (n+m) old e
  have hcm:grownCap w (n+m) old e<=maxLen:=grownCap_le_maxLen w (n+m) old e h63
  refine ⟨⟨hlen,.inr ⟨w.heap.size,_,_,rfl,hbase,heap_alloc_new w.drew _,hge,hcm,?_,?_⟩⟩,((Below.refl _ _).drew).alloc (Nat.le_refl _) _⟩
  ·simp only [Array.size_append,List.size_toArray,size_zeroCells,hzs,hxl,hl,<- Nat.add_mul]
   congr 1
   omega
  ·simp only [Array.toList_append,List.append_assoc]
   rw [<- List.append_assoc,<- hlen]
   exact List.take_left
 cases ad0 with
 | none=>
   have hn:=hx0 rfl
   subst hn
   have hx:xs=[]:=List.eq_nil_of_length_eq_zero (by simpa using hxl)
   subst hx
   have hr:=run_append_nil (P:=P) w t ty e i z ht hi hz p m c news hl hnews (by omega) (by omega) (by have hb:=hbytes; simp only [Nat.zero_add] at hb; omega)
   have hgr:=grown 0 (by omega)
   simp only [Nat.zero_add,List.nil_append,Array.empty_append] at hgr ⊢
   exact ⟨_,_,hr,hgr.1,hgr.2,fun g hg=>by simp [Value.ownBlock] at hg; omega⟩
 | some p0=>
   have hr:=run_append_grow (P:=P) w t ty e i z ht hi hz p0 n n xs hxl (hxc p0 rfl) p m c news hl hnews (by omega) (by omega) (growslice_fits (by omega) hbytes)
   have hgr:=grown n (by omega)
   exact ⟨_,_,hr,hgr.1,hgr.2,fun g' hg' => by simp [Value.ownBlock] at hg'; omega⟩
end
end Go.Ai

namespace Go.Ai
open Go.RowKit
section
variable {N:Type} [DecidableEq N] {E:Env N} {P:Program}
def fence (ro:Option Nat):Fence := {Fence.wide with round:=ro}
theorem fence_none:fence none=Fence.wide:=rfl
theorem calls_fence {ro:Option Nat} {n:Nat} {f:FuncId} {args:Array Value} {w:World} {R:Ending->World->Prop} (h:Calls P f args w R):CallsIn (fence ro) n P f args w R:=by
 have h' : CallsIn Fence.wide n P f args w R:=callsIn_wide.2 h
 exact h'
def callable (P:Program) (f:FuncId):Bool:=match P.funcs[f]? with
 | some fn => !(fn.name == "runtime.NumGoroutine")&&fn.body.isSome
 | none=>false
def noSite:Sites:=fun _=>none
def noTok:Toks:=fun _=>none
def Says (P:Program) (f:FuncId) (S:Sig E) (x:Tup E.Γ S.ps) (y:Tup E.Γ S.rs):Prop:=
 ∀ (w:World) (F:Fz) (args:List Value) (d:Nat),(∀ b o,F b o->b<w.heap.size)->E.tab w F->HReps w noSite noTok F (argHs (E:=E) S.ps x) args ->
   Calls P f args.toArray w fun e w' => ∃ v tk F',e = .returned v/\Below w.heap.size w w' /\ (∀ b o,F b o->F' b o)/\(∀ b o,F' b o->F b o\/w.heap.size<=b)/\(∀ b o,F' b o->b<w'.heap.size) /\
    HRep w' noSite tk F' (viewRes (E:=E) d S.rs S.ex y) v/\(∀ k u,tk k=some u->k.1=d/\Own P w.heap.size w' noSite F' k u) /\
    (∀ k k' u u' g,tk k=some u->tk k' = some u' -> u.ownBlock=some g->u'.ownBlock=some g->k=k')
def SigOk (P:Program) (C:Ctx E):Prop := ∀ f S,C.sig f=some S->callable P f=true /\ ∀ x y,S.fn x=some y->Says P f S x y
abbrev Bs (β:Type):=Nat->World->Fx->β->Prop
def SimE (P:Program) (base:Nat) (w0:World) (F0:Fx) (ov:Ov E) (σ:St E) (a:Act) (w:World):Prop := ∃ j tk F,Sim P base w0 F0 ov σ a w j tk F
def Gd {β:Type} (P:Program) (B:Bs β) (ov:Ov E) (σ:St E) (a:Act) (w:World) (x:Option β):Prop := ∃ base w0 F0 r,B base w0 F0 r/\SimE P base w0 F0 ov σ a w/\x=some r
variable {base n:Nat} {ov:Ov E} {w0 w w' : World} {F0:Fx} {F:Fz} {σ:St E} {a:Act} {j:Sites} {tk:Toks} {ro:Option Nat} {o:Oper} {next:Act->World->Prop} {Q:Exit->Act->World->Prop}
variable {β:Type} {r:β} {B:Bs β}
theorem step_value {v:Value} (hd:∀ c,o.op ≠ .defer c) (h:(execOp a.eval o).run P w = .ok (.value v) w') (hk:next (a.put o.dst v) w'):o.wpIn (fence ro) n P a w next Q:=by
 refine ⟨fun _ _=>trivial,?_⟩
 show o.uponIn _ _ _ _ _ _ ((o.semAt ro a.eval).run P w)
 rw [Oper.semAt_eq ro a.eval o hd,h]
 exact hk
theorem step_skip {dst:Option Tmp} (hdst:o.dst=dst) (hd:∀ c,o.op ≠ .defer c) (h:(execOp a.eval o).run P w = .ok .skip w') (hk:next (a.put dst undef) w'):o.wpIn (fence ro) n P a w next Q:=by
 subst hdst
 refine ⟨fun _ _=>trivial,?_⟩
 show o.uponIn _ _ _ _ _ _ ((o.semAt ro a.eval).run P w)
 rw [Oper.semAt_eq ro a.eval o hd,h]
 exact hk
theorem step_enter {f:FuncId} {args:Array Value} {R:Ending->World->Prop} (hd:∀ c,o.op ≠ .defer c) (h:(execOp a.eval o).run P w = .ok (.enter f args) w) (hc:Calls P f args w R)
  (hk:∀ e w',R e w' -> ∃ v,e = .returned v/\next (a.put o.dst v) w'):o.wpIn (fence ro) n P a w next Q:=by
 refine ⟨fun _ _=>trivial,?_⟩
 show o.uponIn _ _ _ _ _ _ ((o.semAt ro a.eval).run P w)
 rw [Oper.semAt_eq ro a.eval o hd,h]
 rw [Oper.uponIn_enter]
 refine ⟨fun h=>absurd h (by simp [fence,Fence.wide]),?_⟩
 refine calls_fence (hc.mono fun e w' hr => ?_)
 obtain ⟨v,rfl,hv⟩:=hk e w' hr
 exact hv
theorem CRep.free {c:Cell E} {v:Value} {x:TV E} (hc:c = .tv x) (h:CRep w j tk F c v) (j' : Sites) (tk' : Toks):CRep w j' tk' F c v:=by subst hc; exact h
theorem LRep.free {ls:List (TV E)} {vs:List Value} (h:LRep w j tk F (ls.map Cell.tv) vs) (j' : Sites) (tk' : Toks):LRep w j' tk' F (ls.map Cell.tv) vs:=by
 induction ls generalizing vs with
 | nil=>cases vs <;> exact h
 | cons l ls ih=>cases vs with
   | nil=>exact h.elim
   | cons v vs=>exact ⟨h.1,ih h.2⟩
theorem HRep.free {t:Ty N} {y:den E.Γ t} {v:Value} (h:HRep w j tk F (valH t y) v) (j' : Sites) (tk' : Toks):HRep w j' tk' F (valH t y) v:=by
 unfold valH at h ⊢
 split
 ·rename_i e; rw [e] at h; exact h
 ·rename_i e; rw [e] at h
  obtain ⟨vs,h1,h2⟩:=h
  exact ⟨vs,h1,h2.free j' tk'⟩
theorem packArgs_sound:∀ (ts:List (Ty N)) (hs:List (Hold E)) (x:Tup E.Γ ts) (vs:List Value),packArgs ts hs=some x->HReps w j tk F hs vs->HReps w noSite noTok F (argHs ts x) vs
 | [],[],x,vs,_,h=>by cases vs <;> exact h
 | [],_::_,x,vs,hp,_=>by simp [packArgs] at hp
 | [t],[hd],x,[v],hp,h=>⟨(h.1.packH (t:=t) (by simpa [packArgs] using hp)).free _ _,trivial⟩
 | [t],[hd],x,[],hp,h=>h.elim
 | [t],[hd],x,_::_::_,hp,h=>h.2.elim
 | [t],[],x,vs,hp,_=>by simp [packArgs] at hp
 | [t],_::_::_,x,vs,hp,_=>by simp [packArgs] at hp
 | t::u::ts,[],x,vs,hp,_=>by simp [packArgs] at hp
 | t::u::ts,hd::hs,x,[],hp,h=>h.elim
 | t::u::ts,hd::hs,x,v::vs,hp,h=>by
   simp only [packArgs] at hp
   split at hp
   ·rename_i y z hy hz
    cases hp
    exact ⟨(h.1.packH hy).free _ _,packArgs_sound (u::ts) hs z vs hz h.2⟩
   ·cases hp
theorem evL_reps (h:Sim P base w0 F0 ov σ a w j tk F):∀ xs:List Operand,HReps w j tk F (evL σ xs) (xs.map a.eval)
 | []=>trivial
 | x::xs=>⟨h.ev x,evL_reps h xs⟩
theorem Sim.afterCall (h:Sim P base w0 F0 ov σ a w j tk F) {d:Nat} {F' : Fz} {tr:Toks} (hb:Below w.heap.size w w') (h1:∀ b o,F b o->F' b o) (h2:∀ b o,F' b o->F b o\/w.heap.size<=b) (h3:∀ b o,F' b o->b<w'.heap.size)
  (hn:σ.hasD d=false) (ht:∀ k u,tr k=some u->k.1=d/\Own P w.heap.size w' noSite F' k u)
  (ha:∀ k k' u u' g,tr k=some u->tr k' = some u' -> u.ownBlock=some g->u'.ownBlock=some g->k=k') :
  Sim P base w0 F0 ov σ a w' j (fun q=>if q.1=d then tr q else tk q) F' := by
 have h' := h.grow hb
 have hlt:∀ s b,j s=some b->b<w.heap.size:=by
  intro s b hs
  exact (h.live s b hs).2.2.2
 have hmove:∀ (c:Cell E) (v:Value),c.hasD d=false->CRep w' j tk F c v->CRep w' j (fun q=>if q.1=d then tr q else tk q) F' c v:=by
  intro c v hc hr
  refine hr.move h1 (Agree.refl _ _) (fun _ _ hj=>hj) ?_ ?_
  ·intro k t xs e hk
   subst e
   have:k.1≠d:=fun e=>by simp [Cell.hasD,e] at hc
   simp only [if_neg this]
   exact hk
  ·intro s e p u he hk
   subst he
   have:(rkey s e).1≠d:=fun e' => by simp only [rkey] at e'; simp [Cell.hasD,e'] at hc
   show (if (rkey s e).1=d then tr (rkey s e) else tk (rkey s e))=some u
   rw [if_neg this]
   exact hk
 have hmoveL:∀ (cs:List (Cell E)) (vs:List Value),cs.any (·.hasD d)=false->LRep w' j tk F cs vs->LRep w' j (fun q=>if q.1=d then tr q else tk q) F' cs vs:=by
  intro cs
  induction cs with
  | nil=>intro vs _ hr; cases vs <;> exact hr
  | cons c cs ih=>
    intro vs hc hr
    simp only [List.any_cons,Bool.or_eq_false_iff] at hc
    cases vs with
    | nil=>exact hr.elim
    | cons v vs=>exact ⟨hmove c v hc.1 hr.1,ih vs hc.2 hr.2⟩
 have hmoveV:∀ (xs:List (Bool×List (Cell E))) (vs:List Value),(xs.any fun v=>v.2.any (·.hasD d))=false->VReps w' j tk F xs vs->VReps w' j (fun q=>if q.1=d then tr q else tk q) F' xs vs:=by
  intro xs
  induction xs with
  | nil=>intro vs _ hr; cases vs <;> exact hr
  | cons x xs ih=>
    intro vs hc hr
    simp only [List.any_cons,Bool.or_eq_false_iff] at hc
    cases vs with
    | nil=>exact hr.elim
    | cons v vs=>
      refine ⟨?_,ih vs hc.2 hr.2⟩
      have hr1:=hr.1
      obtain ⟨b,cs⟩:=x
      cases b with
      | true=>obtain ⟨us,e1,e2⟩:=hr1; exact ⟨us,e1,hmoveL _ _ hc.1 e2⟩
      | false=>
        obtain ⟨c,e1,e2⟩:=hr1
        subst e1
        have hc1:=hc.1
        simp only [List.any_cons,List.any_nil,Bool.or_false] at hc1
        exact ⟨c,rfl,hmove c v hc1 e2⟩
 have hmoveH:∀ (x:Hold E) (u:Value),x.hasD d=false->HRep w' j tk F x u->HRep w' j (fun q=>if q.1=d then tr q else tk q) F' x u:=by
  intro x u hx hr
  cases x with
  | one c=>exact hmove c u hx hr
  | agg cs=>obtain ⟨us,e1,e2⟩:=hr; exact ⟨us,e1,hmoveL _ _ hx e2⟩
  | tup xs=>obtain ⟨us,e1,e2⟩:=hr; exact ⟨us,e1,hmoveV _ _ hx e2⟩
 have hn1:∀ (m:Nat) (x:Hold E),σ.tmps[m]? = some x->x.hasD d=false:=by
  intro m x hx
  simp only [St.hasD,Bool.or_eq_false_iff,List.any_eq_false] at hn
  exact Bool.eq_false_iff.2 (hn.1.1 x (List.mem_of_getElem? hx))
 have hn2:∀ (m:Nat) (cs:List (Cell E)),σ.heap[m]? = some (.cells cs)->cs.any (·.hasD d)=false:=by
  intro m cs hx
  simp only [St.hasD,Bool.or_eq_false_iff,List.any_eq_false] at hn
  exact Bool.eq_false_iff.2 (hn.1.2 _ (List.mem_of_getElem? hx))
 exact {
  tab:=E.tabM _ _ _ _ h'.tab h1 (Agree.refl _ _)
  below:=h'.below,size:=h'.size
  Fold:=fun b o hf=>h1 b o (h.Fold b o hf)
  Fnew:=fun b o hf=>by
   rcases h2 b o hf with hf | hf
   ·exact h.Fnew b o hf
   ·exact .inr ⟨Nat.le_trans h.size hf,fun hn=>by have:=(h.frn b hn).1; have:=h.below.size; omega⟩
  Flt:=h3,agr:=h'.agr
  frn:=fun k hk=>by
   obtain ⟨e1,e2,e3,e4,e5⟩:=h'.frn k hk
   refine ⟨e1,e2,e3,fun q u hq => ?_,e5⟩
   split at hq
   ·obtain ⟨i,m,xs,f1,f2,f3⟩:=(ht q u hq).2
    intro hu
    have:=(f2.lt k hu).1
    have:=h.below.size
    omega
   ·exact e4 q u hq
  defers:=h'.defers,mks:=h'.mks,len:=h.len
  itq:=h'.itq
  outs:=h'.outs.imp fun x hx u hr=>hmoveH x u (by
   simp only [St.hasD,Bool.or_eq_false_iff,List.any_eq_false] at hn
   exact Bool.eq_false_iff.2 (hn.2 x hx)) hr
  tmps:=fun m x u hx hu=>hmoveH x u (hn1 m _ hx) (h'.tmps m x u hx hu)
  boxes:=fun s cs hc=>by
   obtain ⟨b,vs,T,e1,e2,e3⟩:=h'.boxes s cs hc
   exact ⟨b,vs,T,e1,e2,hmoveL _ _ (hn2 s cs hc) e3⟩
  iters:=h'.iters
  maps:=fun s kt vt m hs=>by
   obtain ⟨b,es,cl,e1,e2,e3⟩:=h'.maps s kt vt m hs
   exact ⟨b,es,cl,e1,e2,e3.mono h1 (Agree.refl _ _)⟩
  rows:=fun m s e τ xs hs=>by
   obtain ⟨e1,e2⟩:=h'.rows m s e τ xs hs
   have hne:(rkey s e).1≠d:=by
    intro e'
    have:(Blk.rw s e τ xs:Blk E).hasD d=false:=by
     simp only [St.hasD,Bool.or_eq_false_iff,List.any_eq_false] at hn
     exact Bool.eq_false_iff.2 (hn.1.2 _ (List.mem_of_getElem? hs))
    simp only [rkey] at e'
    simp [Blk.hasD,e'] at this
   refine ⟨e1,e2.move h1 (Agree.refl _ _) (fun v hv=>by rw [if_neg hne]; exact hv) fun v g hv hg _=>⟨rfl,fun o hf => ?_⟩⟩
   rcases h2 g o hf with hf | hf
   ·exact hf
   ·obtain ⟨_,_,_,_,e2',_⟩:=h.toks _ v hv
    exact absurd (e2'.lt g hg).2 (by omega)
  live:=fun s b hs=>by
   obtain ⟨e1,e2,e3⟩:=h'.live s b hs
   refine ⟨e1,fun q hf => ?_,e3⟩
   rcases h2 b q hf with hf | hf
   ·exact e2 q hf
   ·exact absurd (hlt s b hs) (by omega)
  inj:=h.inj
  toks:=fun q u hq=>by
   split at hq
   ·obtain ⟨i,m,xs,e1,e2,e3⟩:=(ht q u hq).2
    refine ⟨i,m,xs,e1,ownsRow_base e2 h.size,fun g hg=>⟨(e3 g hg).1,fun s hs => ?_⟩⟩
    have:=(e2.lt g hg).1
    exact absurd (hlt s g hs) (by omega)
   ·obtain ⟨i,m,xs,e1,e2,e3⟩:=h'.toks q u hq
    obtain ⟨i',m',xs',e1',e2',e3'⟩:=h.toks q u hq
    refine ⟨i,m,xs,e1,e2,fun g hg=>⟨fun p hf => ?_,(e3 g hg).2⟩⟩
    rcases h2 g p hf with hf | hf
    ·exact (e3 g hg).1 p hf
    ·exact absurd (e2'.lt g hg).2 (by omega)
  apart:=fun q q' u u' g hq hq' hg hg' => by
   split at hq
   ·split at hq'
    ·exact ha q q' u u' g hq hq' hg hg'
    ·obtain ⟨i,m,xs,e1,e2,e3⟩:=(ht q u hq).2
     obtain ⟨i',m',xs',e1',e2',e3'⟩:=h.toks q' u' hq'
     have:=(e2.lt g hg).1
     exact absurd (e2'.lt g hg').2 (by omega)
   ·split at hq'
    ·obtain ⟨i,m,xs,e1,e2,e3⟩:=(ht q' u' hq').2
     obtain ⟨i',m',xs',e1',e2',e3'⟩:=h.toks q u hq
     have:=(e2.lt g hg').1
     exact absurd (e2'.lt g hg).2 (by omega)
    ·exact h.apart q q' u u' g hq hq' hg hg'}
theorem exec_callf {c:Call} {f:FuncId} (ho:o.op = .call c) (hc:c.callee = .value (.func f)) (hf:callable P f=true) :
  (execOp a.eval o).run P w = .ok (.enter f (c.args.map a.eval)) w:=by
 unfold callable at hf
 split at hf
 ·rename_i fn hfn
  simp only [Bool.and_eq_true,Bool.not_eq_true'] at hf
  have hb:fn.body.isNone=false:=by
   cases hb:fn.body with
   | none=>rw [hb] at hf; exact absurd hf.2 (by simp)
   | some _=>rfl
  simp only [execOp,ho,resolve,hc,Act.eval,Deferred.ofValue,Sem.run_bind,Sem.run_pure,Result.andThen_ok,invoke,callFunc,program]
  have hne : ¬ fn.name = "runtime.NumGoroutine":=by simpa using hf.1
  have hbn : ¬ fn.body=none:=by intro e; rw [e] at hb; cases hb
  simp [Sem.run,hfn,hne,hbn]
 ·cases hf
theorem resVs_toks {d:Nat} : ∀ (i:Nat) (ts:List (Ty N)) (es:List (Option Nat)) (y:Tup E.Γ ts) (vs:List Value) (tr:Toks),VReps w noSite tr F (resVs d i ts es y) vs -> ∀ (j:Sites) (tk:Toks),
  VReps w j (fun q=>if q.1=d then tr q else tk q) F (resVs d i ts es y) vs:=by
 have one:∀ (i:Nat) (e:Option Nat) (t:Ty N) (x:den E.Γ t) (v:Value) (tr:Toks),VRep w noSite tr F (resV d i e t x) v -> ∀ (j:Sites) (tk:Toks),VRep w j (fun q=>if q.1=d then tr q else tk q) F (resV d i e t x) v:=by
  intro i e t x v tr h j tk
  unfold resV at h ⊢
  cases e with
  | some e=>
    dsimp only at h ⊢
    obtain ⟨c,hc,hr⟩:=h
    cases hc
    refine ⟨_,rfl,?_⟩
    unfold exCell at hr ⊢
    split at hr
    ·exact ⟨hr.1,by simp only [if_true]; exact hr.2⟩
    ·trivial
  | none=>
    dsimp only at h ⊢
    cases ht:t.one with
    | true=>
      rw [ht] at h
      obtain ⟨c,hc,hr⟩:=h
      cases hc
      exact ⟨_,rfl,hr⟩
    | false=>
      rw [ht] at h
      obtain ⟨us,hu,hr⟩:=h
      exact ⟨us,hu,hr.free _ _⟩
 intro i ts
 induction ts generalizing i with
 | nil=>intro es y vs tr h j tk; cases vs <;> exact h
 | cons t ts ih=>
   intro es y vs tr h j tk
   cases ts with
   | nil=>cases vs with
     | nil=>exact h.elim
     | cons v vs=>exact ⟨one _ _ _ _ _ _ h.1 j tk,by cases vs <;> exact h.2⟩
   | cons u ts=>cases vs with
     | nil=>obtain ⟨y1,y2⟩:=y; exact h.elim
     | cons v vs=>obtain ⟨y1,y2⟩:=y; exact ⟨one _ _ _ _ _ _ h.1 j tk,ih _ _ _ _ _ h.2 j tk⟩
theorem viewRes_toks {d:Nat} {ts:List (Ty N)} {es:List (Option Nat)} {y:Tup E.Γ ts} {v:Value} {tr:Toks} (h:HRep w noSite tr F (viewRes d ts es y) v) (j:Sites) (tk:Toks) :
  HRep w j (fun q=>if q.1=d then tr q else tk q) F (viewRes d ts es y) v:=by
 have key:=resVs_toks (w:=w) (F:=F) (d:=d) 0 ts es y
 unfold viewRes at h ⊢
 split
 ·rename_i x hx
  rw [hx] at h key
  simp only at h
  obtain ⟨b,cs⟩:=x
  cases b with
  | true=>
    obtain ⟨us,hu,hr⟩:=h
    have:=(key [v] tr ⟨⟨us,hu,hr⟩,trivial⟩ j tk).1
    exact this.hold
  | false=>
    match cs,h with
    | [],h=>exact trivial
    | [c],h=>exact (key [v] tr ⟨⟨c,rfl,h⟩,trivial⟩ j tk).1.hold
    | _::_::_,h=>exact trivial
 ·rename_i vs hvs
  split at h
  ·rename_i x hx
   exact absurd hx (hvs x)
  ·obtain ⟨us,hu,hr⟩:=h
   exact ⟨us,hu,key us tr hr j tk⟩
theorem call_sound {C:Ctx E} (hS:SigOk P C) (h:Sim P base w0 F0 ov σ a w j tk F) {c:Call} {f:FuncId} {S:Sig E} {x:Tup E.Γ S.ps} {K:Hold E->Option β} {d t:Nat}
  (ho:o.op = .call c) (hc:c.callee = .value (.func f)) (hdst:o.dst=some t) (hsig:C.sig f=some S) (hx:packArgs S.ps (evL σ c.args.toList)=some x) (hn:σ.hasD d=false)
  (he:((S.fn x).bind fun y=>K (viewRes d S.rs S.ex y))=some r)
  (hk:∀ hd a' w',SimE P base w0 F0 ov (σ.put (some t) hd) a' w' -> K hd=some r->next a' w'):o.wpIn (fence ro) n P a w next Q:=by
 obtain ⟨hcall,hsays⟩:=hS f S hsig
 cases hy:S.fn x with
 | none=>rw [hy] at he; cases he
 | some y=>
   rw [hy] at he
   have hargs:=packArgs_sound S.ps _ x _ hx (evL_reps h c.args.toList)
   have hcalls:=hsays x y hy w F _ d h.Flt h.tab hargs
   refine step_enter (by rw [ho]; intro c' e; cases e) (exec_callf ho hc hcall) (R:=_) (by rw [show c.args.map a.eval=(c.args.toList.map a.eval).toArray from by rw [<- Array.toList_map]]; exact hcalls) ?_
   rintro e w' ⟨v,tr,F',rfl,hb,h1,h2,h3,hr,ht,ha⟩
   refine ⟨v,rfl,?_⟩
   rw [hdst]
   exact hk _ _ _ ⟨j,_,F',(h.afterCall hb h1 h2 h3 hn ht ha).put (viewRes_toks hr j tk) (some t)⟩ he
theorem call_sound_none {C:Ctx E} (hS:SigOk P C) (h:Sim P base w0 F0 ov σ a w j tk F) {c:Call} {f:FuncId} {S:Sig E} {x:Tup E.Γ S.ps} {K:Option β}
  (ho:o.op = .call c) (hc:c.callee = .value (.func f)) (hdst:o.dst=none) (hsig:C.sig f=some S) (hx:packArgs S.ps (evL σ c.args.toList)=some x)
  (he:((S.fn x).bind fun y=>K)=some r)
  (hk:∀ w',SimE P base w0 F0 ov σ a w' -> K=some r->next a w'):o.wpIn (fence ro) n P a w next Q:=by
 obtain ⟨hcall,hsays⟩:=hS f S hsig
 cases hy:S.fn x with
 | none=>rw [hy] at he; cases he
 | some y=>
   rw [hy] at he
   have hargs:=packArgs_sound S.ps _ x _ hx (evL_reps h c.args.toList)
   have hcalls:=hsays x y hy w F _ 0 h.Flt h.tab hargs
   refine step_enter (by rw [ho]; intro c' e; cases e) (exec_callf ho hc hcall) (R:=_) (by rw [show c.args.map a.eval=(c.args.toList.map a.eval).toArray from by rw [<- Array.toList_map]]; exact hcalls) ?_
   rintro e w' ⟨v,tr,F',rfl,hb,h1,h2,h3,hr,ht,ha⟩
   refine ⟨v,rfl,?_⟩
   rw [hdst]
   exact hk _ ⟨j,_,F,h.grow hb⟩ he
end
end Go.Ai

namespace Go.Ai
open Go.RowKit Go.ChangeShapes Go.WideShapes
section
variable {N:Type} [DecidableEq N] {E:Env N} {P:Program}
def szT (sz:∀ n,E.Γ n->Nat):(t:Ty N)->den E.Γ t->Nat
 | .int _,_=>1
 | .bool,_=>1
 | .str,s=>s.length+1
 | .sl t,xs=>(xs.map (szT sz t)).sum+1
 | .st n,x=>sz n x
 | .ref n,x=>sz n x+1
def szTup (sz:∀ n,E.Γ n->Nat):(ts:List (Ty N))->Tup E.Γ ts->Nat
 | [],_=>0
 | [t],x=>szT sz t x
 | t::u::ts,(x,y)=>szT sz t x+szTup sz (u::ts) y
def okT (ok:∀ n,E.Γ n->Prop):(t:Ty N)->den E.Γ t->Prop
 | .int k,n=>(Lit.int k n).wf=true
 | .bool,_=>True
 | .str,_=>True
 | .sl t,xs => ∀ x ∈ xs,okT ok t x
 | .st n,x=>ok n x
 | .ref n,x=>ok n x
def okTup (ok:∀ n,E.Γ n->Prop):(ts:List (Ty N))->Tup E.Γ ts->Prop
 | [],_=>True
 | [t],x=>okT ok t x
 | t::u::ts,(x,y)=>okT ok t x/\okTup ok (u::ts) y
inductive TL (sz:∀ n,E.Γ n->Nat) (ok:∀ n,E.Γ n->Prop):List (Ty N)->List (TV E)->Nat->Prop
 | nil:TL sz ok [] [] 0
 | cons {t:Ty N} {ts:List (Ty N)} {ls:List (TV E)} {m:Nat} (x:den E.Γ t) (hx:okT ok t x) (h:TL sz ok ts ls m):TL sz ok (t::ts) (tvOf t x::ls) (szT sz t x+m)
variable {sz:∀ n,E.Γ n->Nat} {ok:∀ n,E.Γ n->Prop}
theorem TL.append {ts us:List (Ty N)} {ls ks:List (TV E)} {m n:Nat} (h:TL sz ok ts ls m) (h' : TL sz ok us ks n):TL sz ok (ts++us) (ls++ks) (m+n):=by
 induction h with
 | nil=>simpa using h'
 | cons x hx h ih=>have:=TL.cons x hx ih; rw [<- Nat.add_assoc] at this; exact this
theorem TL.len {ts:List (Ty N)} {ls:List (TV E)} {m:Nat} (h:TL sz ok ts ls m):ls.length=ts.length:=by
 induction h with
 | nil=>rfl
 | cons x hx h ih=>simp [ih]
theorem TL.tup {ts:List (Ty N)} {ls:List (TV E)} {m:Nat} (h:TL sz ok ts ls m):∃ y:Tup E.Γ ts,viewTup ts y=ls/\szTup sz ts y=m/\okTup ok ts y:=by
 induction h with
 | nil=>exact ⟨(),rfl,rfl,trivial⟩
 | @cons t ts ls m x hx h ih=>
   obtain ⟨y,h1,h2,h3⟩:=ih
   cases ts with
   | nil=>
     cases h
     exact ⟨x,rfl,rfl,hx⟩
   | cons u us=>
     exact ⟨(x,y),by show tvOf t x::viewTup (u::us) y=_; rw [h1],by show szT sz t x+szTup sz (u::us) y=_; rw [h2],hx,h3⟩
theorem TReps.append {w:World} {F:Fz} : ∀ {ls ks:List (TV E)} {us vs:List Value},TReps w F ls us->TReps w F ks vs->TReps w F (ls++ks) (us++vs)
 | [],_,[],_,_,h=>h
 | _::_,_,_::_,_,h1,h=>⟨h1.1,TReps.append h1.2 h⟩
 | [],_,_::_,_,h1,_=>h1.elim
 | _::_,_,[],_,h1,_=>h1.elim
def flatTI (ti:TI E):Option (List (Ty N)):=match ti.ty with
 | some (.st n)=>some (E.fl n)
 | some (.ref _)=>none
 | some τ=>some [τ]
 | none=>none
def flatFs (C:Ctx E):Nat->List (Nat×Nat×Nat)->Option (List (Ty N))
 | _,[]=>some []
 | off,f::fs=>match C.ti f.2.1 with
   | some ti=>match flatTI ti,flatFs C (off+f.2.2) fs with
     | some L,some R=>match Nat.beq f.1 off&&(Nat.beq f.2.2 ti.size&&Nat.beq L.length f.2.2) with
       | true=>some (L++R)
       | false=>none
     | _,_=>none
   | none=>none
def items (n sz e:Nat):List (Nat×Nat×Nat):=(List.range n).map fun i=>(i*sz,e,sz)
def openOne (C:Ctx E) (S:List Nat) (t:Nat):Bool:=match C.ti t with
 | some ti=>match ti.d,ti.ty with
   | .int k,some (.int k')=>decide (k' = k)
   | .bool,some .bool=>true
   | .str,some .str=>true
   | .slice e,some (.sl τ)=>S.contains e&&(match C.ti e with
     | some te=>match te.ty with
       | some τ' => decide (τ' = τ)
       | none=>false
     | none=>false)
   | .struct fs,some (.st n)=>fs.all (fun f=>S.contains f.2.1)&&(match flatFs C 0 fs with
     | some L=>decide (L=E.fl n)
     | none=>false)
   | .arr n e,some (.st m)=>S.contains e&&(match C.ti e with
     | some te=>match flatFs C 0 (items n te.size e) with
       | some L=>decide (L=E.fl m)
       | none=>false
     | none=>false)
   | _,_=>false
 | none=>false
def openAll (C:Ctx E) (S:List Nat):Bool:=S.all (openOne C S)
structure BulkOk {H:Type} (b:DataW H->Nat) (bs:List (DataW H)->Nat):Prop where
 str:∀ l,b (.lit (.string l))=l.length+1
 lit:∀ l,1<=b (.lit l)
 nil:1<=b .nil
 slice:∀ xs ys,bs xs+1<=b (.slice xs ys)
 agg:∀ xs,bs xs+1<=b (.agg xs)
 cons:∀ x xs,b x+bs xs<=bs (x::xs)
theorem bulk_sum {H:Type} {b:DataW H->Nat} {bs:List (DataW H)->Nat} (hb:BulkOk b bs):∀ (xs:List (DataW H)),(xs.map b).sum<=bs xs
 | []=>Nat.zero_le _
 | x::xs=>by have:=bulk_sum hb xs; have:=hb.cons x xs; simp only [List.map_cons,List.sum_cons]; omega
variable {H:Type} {enc:TypeId×Value->H} {b:DataW H->Nat} {bs:List (DataW H)->Nat}
abbrev old (w:World):Fz:=fun k _=>k<w.heap.size
def GoodV (w:World) (C:Ctx E) (sz:∀ n,E.Γ n->Nat) (ok:∀ n,E.Γ n->Prop) (b:DataW H->Nat) (t:Nat) (cs:List Value) (d:DataW H):Prop:=
 ∀ ti L,C.ti t=some ti->flatTI ti=some L -> ∃ ls m,TL sz ok L ls m/\TReps w (old w) ls cs/\m+(match ti.agg with | true=>1 | false=>0)<=b d
theorem cells_old {w:World} {a:Addr} {v:Value} (h:w.cell? a=some v):a.block<w.heap.size:=by
 unfold World.cell? at h
 split at h
 ·rename_i e
  exact (Array.getElem?_eq_some_iff.1 e).1
 ·cases h
theorem getAll {α:Type} {p:Nat->α->Prop} : ∀ (n:Nat),(∀ i,i<n -> ∃ x,p i x) -> ∃ xs:List α,xs.length=n /\ ∀ i x,xs[i]? = some x->p i x
 | 0,_=>⟨[],rfl,fun i x h=>by simp at h⟩
 | n+1,h=>by
   obtain ⟨xs,h1,h2⟩:=getAll n fun i hi=>h i (by omega)
   obtain ⟨x,hx⟩:=h n (by omega)
   refine ⟨xs++[x],by simp [h1],fun i y hy => ?_⟩
   by_cases hi:i<n
   ·rw [List.getElem?_append_left (by omega)] at hy
    exact h2 i y hy
   ·have hl:i<(xs++[x]).length:=(List.getElem?_eq_some_iff.1 hy).1
    rw [List.length_append,h1] at hl
    have:i=n:=by simp at hl; omega
    subst this
    rw [List.getElem?_append_right (by omega),h1,Nat.sub_self] at hy
    simp only [List.getElem?_cons_zero,Option.some.injEq] at hy
    subst hy
    exact hx
theorem sum_le {α β:Type} {f:α->Nat} {g:β->Nat} : ∀ {xs:List α} {ys:List β},xs.length=ys.length->(∀ (i:Nat) x y,xs[i]? = some x->ys[i]? = some y->f x<=g y)->(xs.map f).sum<=(ys.map g).sum
 | [],[],_,_=>Nat.le_refl _
 | x::xs,y::ys,hl,h=>by
   have h0:=h 0 x y rfl rfl
   have:=sum_le (f:=f) (g:=g) (xs:=xs) (ys:=ys) (by simpa using hl) fun i a c ha hc=>h (i+1) a c (by simpa using ha) (by simpa using hc)
   simp only [List.map_cons,List.sum_cons]
   omega
 | [],_::_,hl,_=>by simp at hl
 | _::_,[],hl,_=>by simp at hl
theorem fields_good (hb:BulkOk b bs) {w:World} {C:Ctx E} (cs:List Value):∀ (fs:List (Nat×Nat×Nat)) (off:Nat) (L:List (Ty N)) (ds:List (DataW H)),flatFs C off fs=some L->ds.length=fs.length ->
  (∀ (m:Nat) f d,fs[m]? = some f->ds[m]? = some d->GoodV w C sz ok b f.2.1 ((cs.drop f.1).take f.2.2) d) ->
  ∃ ls m,TL sz ok L ls m/\TReps w (old w) ls ((cs.drop off).take L.length)/\m<=bs ds
 | [],off,L,ds,hf,hl,_=>by
   simp only [flatFs,Option.some.injEq] at hf
   subst hf
   exact ⟨[],0,.nil,trivial,Nat.zero_le _⟩
 | f::fs,off,L,[],hf,hl,_=>by simp at hl
 | f::fs,off,L,d::ds,hf,hl,hg=>by
   simp only [flatFs] at hf
   split at hf
   ·rename_i ti hti
    split at hf
    ·rename_i L1 R h1 h2
     split at hf
     ·rename_i hc
      simp only [Bool.and_eq_true,Nat.beq_eq] at hc
      simp only [Option.some.injEq] at hf
      subst hf
      obtain ⟨hc1,hc2,hc3⟩:=hc
      obtain ⟨ls,m,g1,g2,g3⟩:=hg 0 f d rfl rfl ti L1 hti h1
      obtain ⟨ks,n,k1,k2,k3⟩:=fields_good hb cs fs (off+f.2.2) R ds h2 (by simpa using hl) fun i f' d' hf' hd' => hg (i+1) f' d' (by simpa using hf') (by simpa using hd')
      have hcons:=hb.cons d ds
      refine ⟨ls++ks,m+n,g1.append k1,?_,by omega⟩
      rw [List.length_append,List.take_add,List.drop_drop,hc3,<- hc1]
      rw [<- hc1] at k2
      exact g2.append k2
     ·cases hf
    ·cases hf
   ·cases hf
theorem contains_mem {S:List Nat} {t:Nat} (h:S.contains t=true):t ∈ S:=by simpa using h
theorem trod_good {C:Ctx E} (hC:COk P C) (hb:BulkOk b bs) {S:List Nat} (hS:openAll C S=true) (hsz:∀ n x,sz n x<=szTup sz (E.fl n) (E.un n x)+1) (hok:∀ n x,okTup ok (E.fl n) (E.un n x)->ok n x) {w:World} {base:Nat} {sp:Nat->Bool} {held:Bool} :
  ∀ (fuel t:Nat) (cs:List Value) (x:DataW H×List MemPlace),t ∈ S->DataW.trod enc P w base sp held fuel t cs=some x->GoodV w C sz ok b t cs x.1:=by
 intro fuel
 induction fuel with
 | zero=>intro t cs x _ h; simp [DataW.trod] at h
 | succ fuel ih=>
   intro t cs x hmem h ti L hti hL
   have ho:openOne C S t=true:=List.all_eq_true.1 hS t hmem
   obtain ⟨i,d,hT,hd⟩:=tok_of hC hti
   unfold openOne at ho
   rw [hti] at ho
   simp only at ho
   split at ho
   ·
    rename_i k k' e1 e2
    have ho:=of_decide_eq_true ho
    subst ho
    rw [e1] at hd
    have hu:=under_int hd
    obtain ⟨n,rfl,rfl,hw⟩:=DataW.trod_int hu h
    unfold flatTI at hL
    rw [e2] at hL
    simp only [Option.some.injEq] at hL
    subst hL
    have hagg:ti.agg=false:=by have:=hT.agg; rw [hT.under.symm.trans hu |> Option.some.inj] at this; exact this.symm
    rw [hagg]
    exact ⟨_,_,.cons (t := .int k') n hw .nil,⟨.int _ _,trivial⟩,by have:=hb.lit (.int k' n); simp only [szT]; exact this⟩
   ·rename_i e1 e2
    rw [e1] at hd
    have hu:=under_bool hd
    obtain ⟨n,rfl,rfl⟩:=DataW.trod_bool hu h
    unfold flatTI at hL
    rw [e2] at hL
    simp only [Option.some.injEq] at hL
    subst hL
    have hagg:ti.agg=false:=by have:=hT.agg; rw [hT.under.symm.trans hu |> Option.some.inj] at this; exact this.symm
    rw [hagg]
    exact ⟨_,_,.cons (t := .bool) n trivial .nil,⟨.bool _,trivial⟩,by have:=hb.lit (.bool n); simp only [szT]; exact this⟩
   ·rename_i e1 e2
    rw [e1] at hd
    have hu:=under_str hd
    obtain ⟨s,rfl,rfl,_⟩:=DataW.trod_string hu h
    unfold flatTI at hL
    rw [e2] at hL
    simp only [Option.some.injEq] at hL
    subst hL
    have hagg:ti.agg=false:=by have:=hT.agg; rw [hT.under.symm.trans hu |> Option.some.inj] at this; exact this.symm
    rw [hagg]
    exact ⟨_,_,.cons (t := .str) s.data.toList trivial .nil,⟨.str _,trivial⟩,by rw [hb.str]; simp only [szT]; omega⟩
   ·
    rename_i e τ e1 e2
    rw [e1] at hd
    have hu:=under_slice hd
    simp only [Bool.and_eq_true] at ho
    obtain ⟨hmem',ho⟩:=ho
    have hagg:ti.agg=false:=by have:=hT.agg; rw [hT.under.symm.trans hu |> Option.some.inj] at this; exact this.symm
    rw [hagg]
    unfold flatTI at hL
    rw [e2] at hL
    simp only [Option.some.injEq] at hL
    subst hL
    split at ho
    ·rename_i te hte
     split at ho
     ·rename_i τ' hτ'
      have ho:=of_decide_eq_true ho
      subst ho
      obtain ⟨ie,de,hTe,hde⟩:=tok_of hC hte
      have hcell:P.cellsOf e=τ'.size E:=by
       unfold Program.cellsOf
       rw [hTe.info,(hTe.ty τ' hτ').1,<- hTe.size]
       rfl
      rcases DataW.trod_slice hu h with ⟨rfl,rfl⟩ | ⟨a,len,cap,elems,rest,n,hf,rfl,rfl,h1,h2,h3,h4,h5,_⟩
      ·refine ⟨_,_,.cons (t := .sl τ') [] (fun x hx=>by cases hx) .nil,⟨Rep.sl τ' [] none 0 (fun _ _=>default) (Nat.le_refl _) (fun _=>rfl) (fun ad h=>by cases h) (fun ad h=>by cases h) (fun i x c l hx=>by simp at hx),trivial⟩,?_⟩
       have:=hb.nil
       simpa [szT] using this
      ·cases hf
       have hsp0:0<len->a.spot=none:=by
        intro hlen
        have hlt:0<elems.length:=by omega
        have h6:=h5 0 hlen
        rw [List.getElem?_eq_getElem hlt,Option.bind_eq_some_iff] at h6
        obtain ⟨us,hus,_⟩:=h6
        obtain ⟨_,hul,huc⟩:=World.cells?_some hus
        have hpos:0<P.cellsOf e:=by rw [hcell]; exact size_pos τ'
        have h8:=huc 0 hpos
        rw [List.getElem?_eq_getElem (by omega)] at h8
        have h9:=World.cell?_spot h8
        simpa [Addr.add] using h9
       have key:∀ i,i<len -> ∃ x:den E.Γ τ',okT ok τ' x/\(∃ d,elems[i]? = some d/\szT sz τ' x<=b d.1) /\ ∃ vs:List Value,TReps w (old w) (leaves τ' x) vs /\ ∀ (c:Nat) (u:Value),vs[c]? = some u->a.spot=none/\a.block<w.heap.size/\w.cell? ⟨a.block,a.off+(i*τ'.size E+c),none⟩=some u:=by
        intro i hi
        have hlt:i<elems.length:=by omega
        have h6:=h5 i hi
        rw [List.getElem?_eq_getElem hlt] at h6
        rw [Option.bind_eq_some_iff] at h6
        obtain ⟨us,hus,htr⟩:=h6
        obtain ⟨_,hul,huc⟩:=World.cells?_some hus
        have hg:=ih e us _ (contains_mem hmem') htr
        have hfl:∃ L',flatTI te=some L' /\ ∀ ls m,TL sz ok L' ls m -> ∃ x:den E.Γ τ',okT ok τ' x/\leaves τ' x=ls/\szT sz τ' x<=m+(match te.agg with | true=>1 | false=>0):=by
         have hone:=(hTe.ty τ' hτ').2
         cases τ' with
         | st n=>
           refine ⟨E.fl n,by unfold flatTI; rw [hτ'],fun ls m hl => ?_⟩
           obtain ⟨y,y1,y2,y3⟩:=hl.tup
           have hag:te.agg=true:=by cases hte' : te.agg <;> simp_all [Ty.one]
           rw [hag]
           refine ⟨E.pk n y,hok n _ (by rw [E.law]; exact y3),by simp only [leaves,E.law]; exact y1,?_⟩
           have:=hsz n (E.pk n y)
           rw [E.law,y2] at this
           exact this
         | ref n=>
           exfalso
           have h7:openOne C S e=true:=List.all_eq_true.1 hS e (contains_mem hmem')
           unfold openOne at h7
           rw [hte] at h7
           simp only [hτ'] at h7
           split at h7 <;> simp_all
         | int k=>exact ⟨[.int k],by unfold flatTI; rw [hτ'],fun ls m hl=>by cases hl with | cons x hx h=>cases h; exact ⟨x,hx,rfl,Nat.le_add_right _ _⟩⟩
         | bool=>exact ⟨[.bool],by unfold flatTI; rw [hτ'],fun ls m hl=>by cases hl with | cons x hx h=>cases h; exact ⟨x,hx,rfl,Nat.le_add_right _ _⟩⟩
         | str=>exact ⟨[.str],by unfold flatTI; rw [hτ'],fun ls m hl=>by cases hl with | cons x hx h=>cases h; exact ⟨x,hx,rfl,Nat.le_add_right _ _⟩⟩
         | sl t=>exact ⟨[.sl t],by unfold flatTI; rw [hτ'],fun ls m hl=>by cases hl with | cons x hx h=>cases h; exact ⟨x,hx,rfl,Nat.le_add_right _ _⟩⟩
        obtain ⟨L',hL',hfl⟩:=hfl
        obtain ⟨ls,m,g1,g2,g3⟩:=hg te L' hte hL'
        obtain ⟨x,x1,x2,x3⟩:=hfl ls m g1
        refine ⟨x,x1,⟨elems[i],List.getElem?_eq_getElem hlt,by omega⟩,us,by rw [x2]; exact g2,fun c u hu' => ?_⟩
        have hc:c<P.cellsOf e:=by rw [<- hul]; exact (List.getElem?_eq_some_iff.1 hu').1
        have h8:=huc c hc
        rw [hu'] at h8
        have hbl:=cells_old h8
        have hsp:=hsp0 (by omega)
        obtain ⟨blk,off,spot⟩:=a
        simp only at hsp
        subst hsp
        rw [addr_add,addr_add] at h8
        rw [addr_add,addr_add] at hbl
        refine ⟨rfl,hbl,?_⟩
        rw [hcell] at h8
        simp only
        rw [<- Nat.add_assoc]
        exact h8
       obtain ⟨xs,hxl,hxs⟩:=getAll len key
       subst hxl
       have hch:∀ i,∃ vs:List Value,∀ x,xs[i]? = some x->TReps w (old w) (leaves τ' x) vs /\ ∀ (c:Nat) (u:Value),vs[c]? = some u->a.spot=none/\a.block<w.heap.size/\w.cell? ⟨a.block,a.off+(i*τ'.size E+c),none⟩=some u:=by
        intro i
        cases hx:xs[i]? with
        | none=>exact ⟨[],fun x h=>by cases h⟩
        | some x=>
          obtain ⟨_,_,vs,v1,v2⟩:=hxs i x hx
          exact ⟨vs,fun y hy=>by cases hy; exact ⟨v1,v2⟩⟩
       have hget:∀ (i:Nat) (x:den E.Γ τ') (c:Nat) (l:TV E),xs[i]? = some x->(leaves (E:=E) τ' x)[c]? = some l -> ∃ u,(Classical.choose (hch i))[c]? = some u/\Rep w (old w) l u:=by
        intro i x c l hx hl
        have:=(Classical.choose_spec (hch i) x hx).1
        exact this.get c l hl
       have hsum:(xs.map (szT sz τ')).sum<=((elems.map (·.1)).map b).sum:=by
        rw [List.map_map]
        refine sum_le (by rw [h4]) fun i x y hx hy => ?_
        obtain ⟨_,⟨d,hd1,hd2⟩,_⟩:=hxs i x hx
        rw [hy] at hd1
        cases hd1
        exact hd2
       refine ⟨_,_,.cons (t := .sl τ') xs (fun x hx => ?_) .nil,⟨Rep.sl τ' xs (some a) cap (fun i c=>(Classical.choose (hch i)).getD c .nilFunc) h2 (fun h=>by cases h) (fun ad had hne => ?_) (fun ad had i x c l hx hl => ?_) (fun i x c l hx hl => ?_),trivial⟩,?_⟩
       ·obtain ⟨i,hi⟩:=List.mem_iff_getElem?.1 hx
        exact (hxs i x hi).1
       ·cases had
        cases hxs0:xs with
        | nil=>exact absurd hxs0 hne
        | cons x r=>
          have hx0:xs[0]? = some x:=by rw [hxs0]; rfl
          have hpos:=size_pos (E:=E) τ'
          have hl0:0<(leaves (E:=E) τ' x).length:=by rw [size_leaves]; exact hpos
          obtain ⟨u,hu1,_⟩:=hget 0 x 0 _ hx0 (List.getElem?_eq_getElem hl0)
          exact ((Classical.choose_spec (hch 0) x hx0).2 0 u hu1).1
       ·cases had
        obtain ⟨u,hu1,_⟩:=hget i x c l hx hl
        obtain ⟨_,q2,q3⟩:=(Classical.choose_spec (hch i) x hx).2 c u hu1
        refine ⟨q2,?_⟩
        rw [q3,List.getD_eq_getElem?_getD,hu1]
        rfl
       ·obtain ⟨u,hu1,hu2⟩:=hget i x c l hx hl
        rw [List.getD_eq_getElem?_getD,hu1]
        exact hu2
       ·have s1:=bulk_sum hb (elems.map (·.1))
        have s2:=hb.slice (elems.map (·.1)) (rest.map (·.1))
        simp only [szT]
        omega
     ·cases ho
    ·cases ho
   ·
    rename_i fs n e1 e2
    rw [e1] at hd
    obtain ⟨fields,hu,hlen,hfs⟩:=under_struct hd
    simp only [Bool.and_eq_true] at ho
    obtain ⟨hall,ho⟩:=ho
    split at ho
    ·rename_i L0 hL0
     have ho:=of_decide_eq_true ho
     unfold flatTI at hL
     rw [e2] at hL
     simp only [Option.some.injEq] at hL
     subst hL
     rw [ho] at hL0
     obtain ⟨xs,m,hf,rfl,hcl,hxl,hx⟩:=DataW.trod_struct hu h
     cases hf
     have hagg:ti.agg=true:=by have:=hT.agg; rw [hT.under.symm.trans hu |> Option.some.inj] at this; exact this.symm
     rw [hagg]
     obtain ⟨ls,k,g1,g2,g3⟩:=fields_good (sz:=sz) (ok:=ok) hb (w:=w) cs fs 0 (E.fl n) (xs.map (·.1)) hL0 (by rw [List.length_map,hxl,<- hlen]; simp) (fun i f dd hfi hdi=>by
      obtain ⟨ff,inf,f1,f2,f3,f4,f5⟩:=hfs i f.1 f.2.1 f.2.2 hfi
      rw [List.getElem?_map,Option.map_eq_some_iff] at hdi
      obtain ⟨y,hy,rfl⟩:=hdi
      have hxx:=hx i ff f1
      rw [hy,f2,f3] at hxx
      have hce:P.cellsOf f.2.1=f.2.2:=by unfold Program.cellsOf; rw [f4,<- f5]; rfl
      rw [hce] at hxx
      refine ih f.2.1 _ y ?_ hxx
      exact contains_mem (List.all_eq_true.1 hall f (List.mem_of_getElem? hfi)))
     refine ⟨ls,k,g1,?_,?_⟩
     ·have hll:(E.fl n).length=cs.length:=by
       rw [hcl]
       have h9:=(hT.ty _ e2).1
       unfold Program.cellsOf
       rw [hT.info]
       show (Ty.size E (.st n))=i.size
       rw [h9,hT.size]
      rw [hll] at g2
      simpa using g2
     ·have:=hb.agg (xs.map (·.1))
      simp only
      omega
    ·cases ho
   ·
    rename_i n e m e1 e2
    rw [e1] at hd
    have hu:=under_arr hd
    simp only [Bool.and_eq_true] at ho
    obtain ⟨hmem',ho⟩:=ho
    split at ho
    ·rename_i te hte
     split at ho
     ·rename_i L0 hL0
      have ho:=of_decide_eq_true ho
      unfold flatTI at hL
      rw [e2] at hL
      simp only [Option.some.injEq] at hL
      subst hL
      rw [ho] at hL0
      obtain ⟨xs,q,hf,rfl,hcl,hxl,hx⟩:=DataW.trod_array hu h
      cases hf
      have hagg:ti.agg=true:=by have:=hT.agg; rw [hT.under.symm.trans hu |> Option.some.inj] at this; exact this.symm
      rw [hagg]
      obtain ⟨ie,de,hTe,hde⟩:=tok_of hC hte
      have hce:P.cellsOf e=te.size:=by unfold Program.cellsOf; rw [hTe.info,<- hTe.size]; rfl
      obtain ⟨ls,k,g1,g2,g3⟩:=fields_good (sz:=sz) (ok:=ok) hb (w:=w) cs (items n te.size e) 0 (E.fl m) (xs.map (·.1)) hL0 (by simp [items,hxl]) (fun i f dd hfi hdi=>by
       unfold items at hfi
       rw [List.getElem?_map,Option.map_eq_some_iff] at hfi
       obtain ⟨i',hi',rfl⟩:=hfi
       have hin:i<n:=by have:=(List.getElem?_eq_some_iff.1 hi').1; simpa using this
       rw [List.getElem?_range hin] at hi'
       cases hi'
       rw [List.getElem?_map,Option.map_eq_some_iff] at hdi
       obtain ⟨y,hy,rfl⟩:=hdi
       have hxx:=hx i hin
       rw [hy,hce] at hxx
       exact ih e _ y (contains_mem hmem') hxx)
      refine ⟨ls,k,g1,?_,?_⟩
      ·have hll:(E.fl m).length=cs.length:=by
        rw [hcl]
        have h9:=(hT.ty _ e2).1
        unfold Program.cellsOf
        rw [hT.info]
        show (Ty.size E (.st m))=i.size
        rw [h9,hT.size]
       rw [hll] at g2
       simpa using g2
      ·have:=hb.agg (xs.map (·.1))
       simp only
       omega
     ·cases ho
    ·cases ho
   ·cases ho
end
end Go.Ai

namespace Go.Ai
open Go.RowKit Go.ChangeShapes Go.WideShapes
section
variable {N:Type} [DecidableEq N] {E:Env N} {P:Program}
def argTys (C:Ctx E) (S:List Nat):List Nat->Option (List (Ty N))
 | []=>some []
 | t::ts=>match C.ti t,argTys C S ts with
   | some ti,some r=>match S.contains t,ti.ty with
     | true,some τ=>some (τ::r)
     | _,_=>none
   | _,_=>none
variable {sz:∀ n,E.Γ n->Nat} {ok:∀ n,E.Γ n->Prop} {H:Type} {enc:TypeId×Value->H} {b:DataW H->Nat} {bs:List (DataW H)->Nat}
theorem argHs_cons {t:Ty N} {ts:List (Ty N)} (x:den E.Γ t) (y:Tup E.Γ ts):∃ z:Tup E.Γ (t::ts),argHs (E:=E) (t::ts) z=valH t x::argHs ts y/\szTup sz (t::ts) z=szT sz t x+szTup sz ts y/\(okT ok t x->okTup ok ts y->okTup ok (t::ts) z):=by
 cases ts with
 | nil=>exact ⟨x,rfl,rfl,fun h _=>h⟩
 | cons u us=>exact ⟨(x,y),rfl,rfl,fun h h' => ⟨h,h'⟩⟩
theorem lrep_tvs {w:World} {j:Sites} {tk:Toks} {F:Fz} : ∀ {ls:List (TV E)} {vs:List Value},TReps w F ls vs->LRep w j tk F (ls.map Cell.tv) vs
 | [],[],_=>trivial
 | _::_,_::_,h=>⟨h.1,lrep_tvs h.2⟩
 | [],_::_,h=>h.elim
 | _::_,[],h=>h.elim
theorem arg_good {C:Ctx E} (hC:COk P C) {S:List Nat} (hS:openAll C S=true) (hsz:∀ n x,sz n x<=szTup sz (E.fl n) (E.un n x)+1) (hok:∀ n x,okTup ok (E.fl n) (E.un n x)->ok n x) {w:World} {t:Nat} {ti:TI E} {τ:Ty N} {v:Value} {d:DataW H} {r:Reach} {base:Nat}
  (hti:C.ti t=some ti) (hτ:ti.ty=some τ) (hm:t ∈ S) (hval:Value.okWide P w r base t v) (hg:GoodV w C sz ok b t v.cells.toList d):∃ x:den E.Γ τ,HRep w noSite noTok (old w) (valH (E:=E) τ x) v/\szT sz τ x<=b d/\okT ok τ x:=by
 obtain ⟨i,de,hT,hd⟩:=tok_of hC hti
 have hone:=(hT.ty τ hτ).2
 have ho:openOne C S t=true:=List.all_eq_true.1 hS t hm
 have aggr:∀ n,τ = .st n -> ∃ x:den E.Γ τ,HRep w noSite noTok (old w) (valH (E:=E) τ x) v/\szT sz τ x<=b d/\okT ok τ x:=by
  rintro n rfl
  have hagg:ti.agg=true:=by cases hti' : ti.agg <;> simp_all [Ty.one]
  have hu:∃ cs,v = .agg cs:=by
   unfold Value.okWide at hval
   rw [hT.under] at hval
   have:=hT.agg
   rw [hagg] at this
   cases de <;> simp [aggD] at this
   ·obtain ⟨cs,h1,_⟩:=hval
    exact ⟨cs,h1⟩
   ·obtain ⟨cs,h1,_⟩:=hval
    exact ⟨cs,h1⟩
  obtain ⟨cs,rfl⟩:=hu
  obtain ⟨ls,m,g1,g2,g3⟩:=hg ti (E.fl n) hti (by unfold flatTI; rw [hτ])
  obtain ⟨y,y1,y2,y3⟩:=g1.tup
  rw [hagg] at g3
  refine ⟨E.pk n y,?_,?_,hok n _ (by rw [E.law]; exact y3)⟩
  ·unfold valH
   show HRep w noSite noTok (old w) (.agg ((leaves (E:=E) (.st n) (E.pk n y)).map .tv)) _
   refine ⟨cs.toList,by simp,lrep_tvs ?_⟩
   simp only [leaves,E.law]
   rw [y1]
   exact g2
  ·have:=hsz n (E.pk n y)
   rw [E.law,y2] at this
   simp only at g3
   exact Nat.le_trans this g3
 unfold openOne at ho
 rw [hti] at ho
 simp only [hτ] at ho
 have single:flatTI ti=some [τ]->τ.one=true->(∀ cs,v ≠ .agg cs) -> ∃ x:den E.Γ τ,HRep w noSite noTok (old w) (valH (E:=E) τ x) v/\szT sz τ x<=b d/\okT ok τ x:=by
  intro hfl h1 hna
  obtain ⟨ls,m,g1,g2,g3⟩:=hg ti [τ] hti hfl
  cases g1 with
  | cons x hx h=>
    cases h
    have hc:v.cells.toList=[v]:=by
     cases v <;> first | rfl | exact absurd rfl (hna _)
    rw [hc] at g2
    refine ⟨x,?_,by omega,hx⟩
    unfold valH
    rw [h1]
    exact g2.1
 split at ho
 ·rename_i k k' e1 e2
  cases e2
  rw [e1] at hd
  obtain ⟨n,rfl⟩:=okWide_int (under_int hd) hval
  exact single (by unfold flatTI; rw [hτ]) rfl (fun cs h=>by cases h)
 ·rename_i e1 e2
  cases e2
  rw [e1] at hd
  obtain ⟨n,rfl⟩:=okWide_bool (under_bool hd) hval
  exact single (by unfold flatTI; rw [hτ]) rfl (fun cs h=>by cases h)
 ·rename_i e1 e2
  cases e2
  rw [e1] at hd
  obtain ⟨n,rfl⟩:=okWide_string (under_str hd) hval
  exact single (by unfold flatTI; rw [hτ]) rfl (fun cs h=>by cases h)
 ·rename_i e1 e2
  cases e2
  rw [e1] at hd
  obtain ⟨a,len,cap,rfl⟩:=okWide_slice (under_slice hd) hval
  exact single (by unfold flatTI; rw [hτ]) rfl (fun cs h=>by cases h)
 ·rename_i fs n e1 e2
  cases e2
  exact aggr n rfl
 ·rename_i q e n e1 e2
  cases e2
  exact aggr n rfl
 ·cases ho
theorem args_good {C:Ctx E} (hC:COk P C) {S:List Nat} (hS:openAll C S=true) (hsz:∀ n x,sz n x<=szTup sz (E.fl n) (E.un n x)+1) (hok:∀ n x,okTup ok (E.fl n) (E.un n x)->ok n x) (hb:BulkOk b bs) {w:World} {base0:Nat} {sp:Nat->Bool} {held:Bool} {r:Reach} {base:Nat} :
  ∀ (ts:List Nat) (ps:List (Ty N)) (args:List Value) (ds:List (DataW H)) (q:List MemPlace),argTys C S ts=some ps->DataW.TrodAll enc P w base0 sp held ts args ds q->(∀ (j:Nat) t v,ts[j]? = some t->args[j]? = some v->Value.okWide P w r base t v) ->
    ∃ x:Tup E.Γ ps,HReps w noSite noTok (old w) (argHs (E:=E) ps x) args/\szTup sz ps x<=bs ds/\okTup ok ps x
 | [],ps,args,ds,q,hp,h,_=>by
   obtain ⟨rfl,rfl,rfl⟩:=trodAll_nil h
   simp only [argTys,Option.some.injEq] at hp
   subst hp
   exact ⟨(),trivial,Nat.zero_le _,trivial⟩
 | t::ts,ps,args,ds,q,hp,h,hv=>by
   obtain ⟨v,vs,d,ds',p1,p2,rfl,rfl,rfl,h1,h2⟩:=trodAll_cons h
   simp only [argTys] at hp
   split at hp
   ·rename_i ti rr hti hr
    split at hp
    ·rename_i τ hm hτ
     simp only [Option.some.injEq] at hp
     subst hp
     obtain ⟨y,y1,y2,y3⟩:=args_good hC hS hsz hok hb ts rr vs ds' p2 hr h2 fun j t' v' ht' hv' => hv (j+1) t' v' (by simpa using ht') (by simpa using hv')
     obtain ⟨fuel,hf⟩:=h1
     have hmem:=contains_mem hm
     obtain ⟨x,x1,x2,x3⟩:=arg_good hC hS hsz hok hti hτ hmem (hv 0 t v rfl rfl) (trod_good hC hb hS hsz hok fuel t v.cells.toList _ hmem hf)
     obtain ⟨z,z1,z2,z3⟩:=argHs_cons (sz:=sz) (ok:=ok) (E:=E) x y
     have hc:=hb.cons d ds'
     simp only at x2
     refine ⟨z,?_,by omega,z3 x3 y3⟩
     rw [z1]
     exact ⟨x1,y1⟩
    ·cases hp
   ·cases hp
theorem trodAll_stays (hl:laidOutB P=true) {W W' : World} (hb:Below W.heap.size W W') {sp' : Nat->Bool} : ∀ (ts:List Nat) (args:List Value) (ds:List (DataW H)) (ps:List MemPlace),(ts.all fun t=>P.readableRec t&&decide (t<P.types.size))=true ->
  DataW.TrodAll enc P W 0 (fun _=>true) true ts args ds ps->(∀ p ∈ ps,p.block<W.heap.size)->(∀ p ∈ ps,sp' p.block=true)->DataW.TrodAll enc P W' 0 sp' true ts args ds ps
 | [],args,ds,ps,_,h,_,_=>by
   obtain ⟨rfl,rfl,rfl⟩:=trodAll_nil h
   rfl
 | t::ts,args,ds,ps,hr,h,hlt,hs=>by
   obtain ⟨v,vs,d,ds',p1,p2,rfl,rfl,rfl,h1,h2⟩:=trodAll_cons h
   simp only [List.all_cons,Bool.and_eq_true,decide_eq_true_eq] at hr
   exact ⟨p1,p2,WideElems.Trod_stays hl hr.1.1 hr.1.2 h1 (fun p hp=>hb.same (hlt p (List.mem_append.2 (.inl hp)))) (fun p hp=>hs p (List.mem_append.2 (.inl hp))),
    trodAll_stays hl hb ts vs ds' p2 (by simpa using hr.2) h2 (fun p hp=>hlt p (List.mem_append.2 (.inr hp))) (fun p hp=>hs p (List.mem_append.2 (.inr hp))),rfl⟩
theorem law_calls {C:Ctx E} (hC:COk P C) {S:List Nat} (hS:openAll C S=true) (hsz:∀ n x,sz n x<=szTup sz (E.fl n) (E.un n x)+1) (hok:∀ n x,okTup ok (E.fl n) (E.un n x)->ok n x) (hl:laidOutB P=true)
  {f:FuncId} {fn:Func} {ps:List (Ty N)} (hps:argTys C S fn.params.toList=some ps) (hread:(fn.params.toList.all fun t=>P.readableRec t&&decide (t<P.types.size))=true) {tb:Nat} (hres:fn.resultTypes = #[tb]) (htb:P.underlying tb=some .bool)
  {F:Tup E.Γ ps->Option Bool} (hs:∀ x y,F x=some y->Says P f ({ps:=ps,rs:=[.bool],ex:=[none],fn:=F} : Sig E) x y) {bound:Nat} (hlaw:∀ x,okTup ok ps x->szTup sz ps x<=bound->F x=some true)
  {s:ChangeSpec} (hvars:s.vars=[]) (hfn:∀ ds:List (DataW H),ds.length=fn.params.toList.length->s.fn H ds = {results:=[.lit (.bool true)],args:=ds})
  {W:World} {base:Nat} {args:Array Value} {ds gs:List (DataW H)} {before:List MemPlace} (hval:∀ (j:Nat) t v,fn.params[j]? = some t->args[j]? = some v->Value.okWide P W .any base t v)
  (hW:DataW.Whole enc P fn.params.toList s.vars false W args.toList ds gs before) (hb:BulkOk b bs) (hbound:bs (ds++gs)<=bound) (hTab:E.tab W (old W):=by exact True.intro) :
  Calls P f args W fun e W' => ∃ v,e = .returned v/\s.post enc P fn false true false false W args v W' := by
 have hW' := hW
 obtain ⟨p,q,hA,hV,rfl,hfz,hnd⟩:=hW
 rw [hvars] at hV
 obtain ⟨rfl,rfl⟩:=trodVars_none hV
 rw [List.append_nil] at hbound
 obtain ⟨x,h1,h2,h3⟩:=args_good hC hS hsz hok hb (r := .any) (base:=base) fn.params.toList ps args.toList ds p hps hA (fun j t v ht hv=>hval j t v (by simpa using ht) (by simpa using hv))
 have hx:=hlaw x h3 (Nat.le_trans h2 hbound)
 have hc:=hs x true hx W (old W) args.toList 0 (fun _ _ h=>h) hTab h1
 rw [Array.toArray_toList] at hc
 have hdl:ds.length=fn.params.toList.length:=by
  have key:∀ (ts:List Nat) (vs:List Value) (ds:List (DataW H)) (p:List MemPlace),DataW.TrodAll enc P W 0 (fun _=>true) true ts vs ds p->ds.length=ts.length:=by
   intro ts
   induction ts with
   | nil=>intro vs ds p h; obtain ⟨_,rfl,_⟩:=trodAll_nil h; rfl
   | cons t ts ih=>intro vs ds p h; obtain ⟨_,_,_,_,_,_,rfl,rfl,rfl,_,h2⟩:=trodAll_cons h; simp [ih _ _ _ h2]
  exact key _ _ _ _ hA
 refine hc.mono fun e W' h => ?_
 obtain ⟨v,tk,F',rfl,hbel,_,_,_,hr,_⟩:=h
 have hv:v = .bool true:=by
  have hr' : Rep W' F' (.bool true:TV E) v:=hr
  cases hr'
  rfl
 subst hv
 refine ⟨_,rfl,ds,[],p++[],[],p,[],hW',?_,?_,?_,?_,fun h=>by cases h⟩
 ·rw [hres,List.append_nil,hfn ds hdl]
  refine ⟨[],[],?_,rfl,rfl⟩
  exact ⟨1,by simp [DataW.trod,Value.cells,htb]⟩
 ·rw [List.append_nil,hfn ds hdl]
  exact trodAll_stays hl hbel _ _ _ _ hread hA (fun y hy=>hW'.lt y (by simpa using hy)) (fun y hy=>by simpa using hW'.lt y (by simpa using hy))
 ·rw [hvars,List.append_nil,hfn ds hdl]
  rfl
 ·exact hbel.frame _
def szD (E:Env N):Nat -> ∀ n,E.Γ n->Nat
 | 0=>fun _ _=>0
 | k+1=>fun n x=>szTup (szD E k) (E.fl n) (E.un n x)+1
def okD (E:Env N):Nat -> ∀ n,E.Γ n->Prop
 | 0=>fun _ _=>True
 | k+1=>fun n x=>okTup (okD E k) (E.fl n) (E.un n x)
theorem szT_mono {s s' : ∀ n,E.Γ n->Nat} (h:∀ n x,s n x<=s' n x):∀ (t:Ty N) (x:den E.Γ t),szT s t x<=szT s' t x
 | .int _,_=>Nat.le_refl _
 | .bool,_=>Nat.le_refl _
 | .str,_=>Nat.le_refl _
 | .sl t,xs=>by
   have:(xs.map (szT s t)).sum<=(xs.map (szT s' t)).sum:=sum_le rfl fun i x y hx hy=>by rw [hx] at hy; cases hy; exact szT_mono h t x
   simp only [szT]
   omega
 | .st n,x=>h n x
 | .ref n,x=>Nat.add_le_add_right (h n x) 1
theorem szTup_mono {s s' : ∀ n,E.Γ n->Nat} (h:∀ n x,s n x<=s' n x):∀ (ts:List (Ty N)) (x:Tup E.Γ ts),szTup s ts x<=szTup s' ts x
 | [],_=>Nat.le_refl _
 | [t],x=>szT_mono h t x
 | t::u::ts,(x,y)=>Nat.add_le_add (szT_mono h t x) (szTup_mono h (u::ts) y)
theorem okT_mono {s s' : ∀ n,E.Γ n->Prop} (h:∀ n x,s n x->s' n x):∀ (t:Ty N) (x:den E.Γ t),okT s t x->okT s' t x
 | .int _,_,hx=>hx
 | .bool,_,hx=>hx
 | .str,_,hx=>hx
 | .sl t,xs,hx=>fun x hm=>okT_mono h t x (hx x hm)
 | .st n,x,hx=>h n x hx
 | .ref n,x,hx=>h n x hx
theorem okTup_mono {s s' : ∀ n,E.Γ n->Prop} (h:∀ n x,s n x->s' n x):∀ (ts:List (Ty N)) (x:Tup E.Γ ts),okTup s ts x->okTup s' ts x
 | [],_,hx=>hx
 | [t],x,hx=>okT_mono h t x hx
 | t::u::ts,(x,y),hx=>⟨okT_mono h t x hx.1,okTup_mono h (u::ts) y hx.2⟩
theorem szD_succ:∀ (k:Nat) (n:N) (x:E.Γ n),szD E k n x<=szD E (k+1) n x
 | 0,_,_=>Nat.zero_le _
 | k+1,n,x=>Nat.add_le_add_right (szTup_mono (szD_succ k) _ _) 1
theorem szD_ok (k:Nat) (n:N) (x:E.Γ n):szD E k n x<=szTup (szD E k) (E.fl n) (E.un n x)+1:=szD_succ k n x
theorem okD_succ:∀ (k:Nat) (n:N) (x:E.Γ n),okD E (k+1) n x->okD E k n x
 | 0,_,_,_=>trivial
 | k+1,n,x,h=>okTup_mono (okD_succ k) _ _ h
theorem okD_ok (k:Nat) (n:N) (x:E.Γ n) (h:okTup (okD E k) (E.fl n) (E.un n x)):okD E k n x:=okD_succ k n x h
theorem szT_pos (k:Nat) (t:Ty N) (x:den E.Γ t):1<=szT (szD E (k+1)) t x:=by
 cases t <;> simp only [szT,szD] <;> omega
theorem sum_mono {α:Type} {f g:α->Nat} {xs:List α} (h:∀ x ∈ xs,f x<=g x):(xs.map f).sum<=(xs.map g).sum:=by
 induction xs with
 | nil=>exact Nat.le_refl _
 | cons x xs ih=>
   have h1:=h x (by simp)
   have h2:=ih fun y hy=>h y (List.mem_cons_of_mem _ hy)
   simp only [List.map_cons,List.sum_cons]
   omega
theorem sl_le {k B:Nat} {t:Ty N} {xs:List (den E.Γ t)} (h:szT (szD E (k+1)) (.sl t) xs<=B):xs.length+1<=B /\ ∀ x ∈ xs,szT (szD E (k+1)) t x+1<=B:=by
 simp only [szT] at h
 have h1:xs.length<=(xs.map (szT (szD E (k+1)) t)).sum:=by
  have:=sum_mono (xs:=xs) (f:=fun _=>1) (g:=szT (szD E (k+1)) t) fun x _=>szT_pos k t x
  simp only [List.map_const',List.sum_replicate_nat] at this
  omega
 refine ⟨by omega,fun x hx => ?_⟩
 have h2:szT (szD E (k+1)) t x<=(xs.map (szT (szD E (k+1)) t)).sum:=by
  clear h h1
  induction xs with
  | nil=>cases hx
  | cons y ys ih=>
    simp only [List.map_cons,List.sum_cons]
    rcases List.mem_cons.1 hx with rfl | hx
    ·omega
    ·have:=ih hx; omega
 omega
end
end Go.Ai

namespace Go.Ai
open Go.RowKit
section
variable {N:Type} [DecidableEq N] {E:Env N} {P:Program}
variable {base n:Nat} {ov:Ov E} {w0 w w' : World} {F0:Fx} {F:Fz} {σ:St E} {a:Act} {j:Sites} {tk:Toks}
theorem MRep.len {kt vt:Ty N} : ∀ {xs:List (den E.Γ kt×den E.Γ vt)} {es:List MapEntry},MRep w F xs es->xs.length=es.length
 | [],[],_=>rfl
 | _::_,_::_,h=>by simp [MRep.len h.2]
 | [],_::_,h=>h.elim
 | _::_,[],h=>h.elim
theorem MRep.append {kt vt:Ty N} : ∀ {xs ys:List (den E.Γ kt×den E.Γ vt)} {es fs:List MapEntry},MRep w F xs es->MRep w F ys fs->MRep w F (xs++ys) (es++fs)
 | [],_,[],_,_,h=>h
 | _::_,_,_::_,_,h,h' => ⟨h.1,MRep.append h.2 h'⟩
 | [],_,_::_,_,h,_=>h.elim
 | _::_,_,[],_,h,_=>h.elim
def Found (w:World) (F:Fz) {kt vt:Ty N} (ents:List (den E.Γ kt×den E.Γ vt)) (x:den E.Γ kt) (i:Nat):Option (Nat×Value)->Prop
 | none=>mget (keyEq kt) ents x=none /\ ∀ y:den E.Γ vt,mput (keyEq kt) ents x y=ents++[(x,y)]
 | some (q,v) => ∃ p y e,q=i+p/\mget (keyEq kt) ents x=some y/\HRep (E:=E) w noSite noTok F (valH vt y) v/\(ents[p]? = some e/\keyEq kt x e.1=true) /\ ∀ y' : den E.Γ vt,mput (keyEq kt) ents x y' = ents.set p (x,y')
theorem Found.cons {kt vt:Ty N} {e:den E.Γ kt×den E.Γ vt} {ents:List (den E.Γ kt×den E.Γ vt)} {x:den E.Γ kt} {i:Nat} {res:Option (Nat×Value)} (h:Found w F ents x (i+1) res) (hne:keyEq kt x e.1=false):Found w F (e::ents) x i res:=by
 obtain ⟨k,v⟩:=e
 cases res with
 | none=>exact ⟨by simp only [mget,hne]; exact h.1,fun y=>by simp only [mput,hne,h.2 y]; rfl⟩
 | some qv=>
   obtain ⟨q,u⟩:=qv
   obtain ⟨p,y,e',h1,h2,h3,h4,h5⟩:=h
   exact ⟨p+1,y,e',by omega,by simp only [mget,hne]; exact h2,h3,by simpa using h4,fun y' => by simp only [mput,hne,h5 y']; rfl⟩
theorem Found.head {kt vt:Ty N} {e:den E.Γ kt×den E.Γ vt} {ents:List (den E.Γ kt×den E.Γ vt)} {x:den E.Γ kt} {i:Nat} {v:Value} (hv:HRep (E:=E) w noSite noTok F (valH vt e.2) v) (heq:keyEq kt x e.1=true):Found w F (e::ents) x i (some (i,v)):=by
 obtain ⟨k,u⟩:=e
 exact ⟨0,u,_,rfl,by simp only [mget,heq],hv,⟨rfl,heq⟩,fun y' => by simp only [mput,heq]; rfl⟩
theorem findAsking_run {kt vt:Ty N} {kT:TypeId} {x:den E.Γ kt} {kv:Value} : ∀ (ents:List (den E.Γ kt×den E.Γ vt)) (es:List MapEntry) (i:Nat),MRep w F ents es ->
  (∀ (y:den E.Γ kt) (u:Value),HRep (E:=E) w noSite noTok F (valH kt y) u->(Op.equal kT kv u).run P w = .ok (keyEq kt x y) w) -> ∃ res,(Instr.findAsking kT kv es i).run P w = .ok res w/\Found w F ents x i res
 | [],[],i,_,_=>⟨none,by simp [Instr.findAsking],rfl,fun y=>rfl⟩
 | e::ents,f::es,i,h,heq=>by
   have h1:=heq e.1 f.key h.1.1
   cases hb:keyEq kt x e.1 with
   | true=>
     rw [hb] at h1
     exact ⟨some (i,f.val),by simp [Instr.findAsking,h1],Found.head h.1.2 hb⟩
   | false=>
     rw [hb] at h1
     obtain ⟨res,h2,h3⟩:=findAsking_run ents es (i+1) h.2 heq
     exact ⟨res,by simp [Instr.findAsking,h1,h2],h3.cons hb⟩
 | [],_::_,_,h,_=>h.elim
 | _::_,[],_,h,_=>h.elim
theorem findNow_run {kt vt:Ty N} {kind:TypeDesc} {x:den E.Γ kt} {kv:Value} : ∀ (ents:List (den E.Γ kt×den E.Γ vt)) (es:List MapEntry) (i:Nat),MRep w F ents es ->
  (∀ (y:den E.Γ kt) (u:Value),HRep (E:=E) w noSite noTok F (valH kt y) u->Instr.sameNow kind kv u=some (keyEq kt x y)) -> ∃ res,Instr.findNow kind kv es i=some res/\Found w F ents x i res
 | [],[],i,_,_=>⟨none,rfl,rfl,fun y=>rfl⟩
 | e::ents,f::es,i,h,heq=>by
   have h1:=heq e.1 f.key h.1.1
   cases hb:keyEq kt x e.1 with
   | true=>
     rw [hb] at h1
     exact ⟨some (i,f.val),by simp [Instr.findNow,h1],Found.head h.1.2 hb⟩
   | false=>
     rw [hb] at h1
     obtain ⟨res,h2,h3⟩:=findNow_run ents es (i+1) h.2 heq
     exact ⟨res,by simp [Instr.findNow,h1,h2],h3.cons hb⟩
 | [],_::_,_,h,_=>h.elim
 | _::_,[],_,h,_=>h.elim
theorem eqFs_leaves {C:Ctx E} {e:Nat} : ∀ (τs:List (Ty N)),(τs.all fun τ=>matchTy C e τ)=true -> ∀ (x y:Tup E.Γ τs),
  eqFs C (List.replicate τs.length e) ((viewTup τs x).map .tv) ((viewTup τs y).map .tv)=some (eqLs (viewTup τs x) (viewTup τs y)):=by
 have one:∀ (τ:Ty N),matchTy C e τ=true -> ∀ (x y:den E.Γ τ) (ts:List Nat) (xs ys:List (Cell E)) (b:Bool),eqFs C ts xs ys=some b->eqFs C (e::ts) (.tv (tvOf τ x)::xs) (.tv (tvOf τ y)::ys)=some (eqLv (tvOf τ x) (tvOf τ y)&&b):=by
  intro τ hτ x y ts xs ys b hb
  unfold matchTy at hτ
  split at hτ
  ·rename_i ti hti
   split at hτ
   ·rename_i k k' hd
    have:k=k' := of_decide_eq_true hτ
    subst this
    simp only [eqFs,hti,hb,hd,tvOf,eqLv,decide_true]
   ·rename_i hd
    simp only [eqFs,hti,hb,hd,tvOf,eqLv]
   ·rename_i hd
    simp only [eqFs,hti,hb,hd,tvOf,eqLv]
   ·cases hτ
  ·cases hτ
 intro τs
 induction τs with
 | nil=>intro _ x y; rfl
 | cons τ τs ih=>
   intro h x y
   simp only [List.all_cons,Bool.and_eq_true] at h
   cases τs with
   | nil=>exact one τ h.1 x y [] [] [] true rfl
   | cons u us=>
     obtain ⟨x1,x2⟩:=x
     obtain ⟨y1,y2⟩:=y
     exact one τ h.1 x1 y1 _ _ _ _ (ih h.2 x2 y2)
def flatD:TypeDesc->Bool
 | .int _=>true
 | .string=>true
 | .bool=>true
 | _=>false
theorem checkKey_flat {t:TypeId} {d:TypeDesc} (hu:P.underlying t=some d) (hd:flatD d=true) (m:Nat) (b:Bool) (v:Value):(Instr.checkKey b (m+1) t v).run P w = .ok () w:=by
 simp only [Instr.checkKey,Sem.run_bind,run_underlying hu,Result.andThen_ok]
 cases d <;> first | rfl | cases hd
theorem checkKey_arr {t e len:Nat} {cs:Array Value} (hu:P.underlying t=some (.array len e)) (m:Nat) (b:Bool)
  (h:∀ i,i<len -> ∃ v,(do part e cs (i*(<- sizeOf e)):Sem Value).run P w = .ok v w/\(Instr.checkKey b m e v).run P w = .ok () w):(Instr.checkKey b (m+1) t (.agg cs)).run P w = .ok () w:=by
 have hloop:∀ (l:List Nat),(∀ i ∈ l,i<len)->(forIn (m:=Sem) l PUnit.unit fun i _=>do
   Instr.checkKey b m e (<- part e cs (i*(<- sizeOf e)))
   pure (ForInStep.yield PUnit.unit)).run P w = .ok PUnit.unit w:=by
  intro l
  induction l with
  | nil=>intro _; simp
  | cons i l ih=>
    intro hl
    obtain ⟨v,h1,h2⟩:=h i (hl i (List.mem_cons_self ..))
    have h3:=ih fun i hi=>hl i (List.mem_cons_of_mem _ hi)
    rw [List.forIn_cons]
    simp only [Sem.run_bind] at h1 h3 ⊢
    cases hsz:(sizeOf e).run P w with
    | ok q w2=>
      rw [hsz] at h1
      simp only [Result.andThen_ok] at h1 ⊢
      cases hp:(part e cs (i*q)).run P w2 with
      | ok u w3=>
        rw [hp] at h1
        cases h1
        simp only [Result.andThen_ok,h2,Sem.run_pure]
        exact h3
      | _=>rw [hp] at h1; cases h1
    | _=>rw [hsz] at h1; cases h1
 have h0:=hloop (List.range' 0 len 1) (fun i hi=>by simpa [List.mem_range'] using hi)
 simp only [Instr.checkKey,Sem.run_bind,run_underlying hu,Result.andThen_ok,Std.Legacy.Range.forIn_eq_forIn_range',Std.Legacy.Range.size]
 simp only [Nat.sub_zero,Nat.add_sub_cancel,Nat.div_one,Nat.add_one_sub_one]
 rw [h0]
 rfl
theorem findKey_run {C:Ctx E} (hC:COk P C) {kt vt:Ty N} {k:Nat} {x:den E.Γ kt} {kv:Value} {ents:List (den E.Γ kt×den E.Γ vt)} {es:List MapEntry} (hk:keyOk C k kt=true) (hx:HRep (E:=E) w noSite noTok F (valH kt x) kv) (hm:MRep w F ents es) :
  (∃ res,(Instr.findKey k kv es).run P w = .ok res w/\Found w F ents x 0 res) /\ ∀ b,(Instr.checkKey b 10000 k kv).run P w = .ok () w:=by
 have now:∀ kind,P.underlying k=some kind->(∀ (y:den E.Γ kt) (u:Value),HRep (E:=E) w noSite noTok F (valH kt y) u->Instr.sameNow kind kv u=some (keyEq kt x y)) -> ∃ res,(Instr.findKey k kv es).run P w = .ok res w/\Found w F ents x 0 res:=by
  intro kind hu hs
  obtain ⟨res,h1,h2⟩:=findNow_run ents es 0 hm hs
  exact ⟨res,by simp [Instr.findKey,run_underlying hu,h1],h2⟩
 cases kt with
 | int ik=>
   simp only [keyOk,matchTy] at hk
   split at hk
   ·rename_i ti hti
    obtain ⟨i,d,hT,hcd⟩:=tok_of hC hti
    split at hk
    ·rename_i k1 k2 hd he
     cases he
     have:k1=ik:=of_decide_eq_true hk
     subst this
     rw [hd] at hcd
     have hu:=under_int hcd
     have hkv:kv = .int k1 x:=repI hx
     subst hkv
     refine ⟨now _ hu fun y u hy => ?_,fun b=>checkKey_flat hu rfl 9999 b _⟩
     have:u = .int k1 y:=repI hy
     subst this
     simp only [Instr.sameNow,if_true,keyEq,leaves,eqLs,eqLv,Bool.and_true]
     exact congrArg some (Bool.eq_iff_iff.2 (by simp))
    ·rename_i he; cases he
    ·rename_i he; cases he
    ·cases hk
   ·cases hk
 | bool=>
   simp only [keyOk,matchTy] at hk
   split at hk
   ·rename_i ti hti
    obtain ⟨i,d,hT,hcd⟩:=tok_of hC hti
    split at hk
    ·rename_i he; cases he
    ·rename_i he; cases he
    ·rename_i hd he
     rw [hd] at hcd
     have hu:=under_bool hcd
     have hkv:kv = .bool x:=repB hx
     subst hkv
     refine ⟨now _ hu fun y u hy => ?_,fun b=>checkKey_flat hu rfl 9999 b _⟩
     have:u = .bool y:=repB hy
     subst this
     simp only [Instr.sameNow,keyEq,leaves,eqLs,eqLv,Bool.and_true]
     exact congrArg some (Bool.eq_iff_iff.2 (by simp))
    ·cases hk
   ·cases hk
 | str=>
   simp only [keyOk,matchTy] at hk
   split at hk
   ·rename_i ti hti
    obtain ⟨i,d,hT,hcd⟩:=tok_of hC hti
    split at hk
    ·rename_i he; cases he
    ·rename_i hd he
     rw [hd] at hcd
     have hu:=under_str hcd
     have hx' : Rep w F (.str x) kv:=hx
     cases hx' with
     | str s=>
     refine ⟨now _ hu fun y u hy => ?_,fun b=>checkKey_flat hu rfl 9999 b _⟩
     have hy' : Rep w F (.str y) u:=hy
     cases hy' with
     | str s'=>
     simp only [Instr.sameNow,keyEq,leaves,eqLs,eqLv,Bool.and_true]
     congr 1
     have hbs:(s == s')=decide (s=s'):=Bool.eq_iff_iff.2 ((Go.MapKept.bytes_beq s s').trans (by simp))
     rw [hbs]
     refine decide_eq_decide.2 ⟨fun e=>by rw [e],fun e => ?_⟩
     cases s with
     | mk d=>cases s' with
       | mk d' => cases d; cases d'; simp only at e; rw [e]
    ·rename_i he; cases he
    ·cases hk
   ·cases hk
 | sl t=>
   simp only [keyOk,matchTy] at hk
   split at hk
   ·split at hk <;> first | (rename_i he; cases he) | cases hk
   ·cases hk
 | ref q=>
   simp only [keyOk,matchTy] at hk
   split at hk
   ·split at hk <;> first | (rename_i he; cases he) | cases hk
   ·cases hk
 | st q=>
   simp only [keyOk] at hk
   split at hk
   ·rename_i ti hti
    obtain ⟨i,d,hT,hcd⟩:=tok_of hC hti
    split at hk
    ·rename_i m e heq hd
     simp only [Bool.and_eq_true] at hk
     obtain ⟨hm1,hall⟩:=hk
     have hm1:=Nat.eq_of_beq_eq_true hm1
     subst hm1
     rw [hd] at hcd
     have hu:=under_arr hcd
     have hts:(C.ti k).bind eqTys=some (List.replicate (E.fl q).length e):=by
      rw [hti]
      show eqTys ti=_
      unfold eqTys
      rw [heq,hd]
     obtain ⟨vs,rfl,hL⟩:=hx
     have hequal:∀ (y:den E.Γ (.st q)) (u:Value),HRep (E:=E) w noSite noTok F (valH (.st q) y) u->(Op.equal k (.agg vs.toArray) u).run P w = .ok (keyEq (.st q) x y) w:=by
      intro y u hy
      obtain ⟨us,rfl,hM⟩:=hy
      have hlv:eqFs C (List.replicate (E.fl q).length e) ((viewTup (E.fl q) (E.un q x)).map .tv) ((viewTup (E.fl q) (E.un q y)).map .tv)=some (eqLs (viewTup (E.fl q) (E.un q x)) (viewTup (E.fl q) (E.un q y))):=eqFs_leaves (E.fl q) hall _ _
      exact (eqAgg_run hC hL hM hts hlv).2
     have hlen:vs.length=(E.fl q).length:=by
      rw [<- hL.len,List.length_map,size_leaves]; rfl
     constructor
     ·cases hes:es with
      | nil=>
        subst hes
        cases ents with
        | nil=>exact ⟨none,by simp [Instr.findKey,run_underlying hu,Instr.findNow],rfl,fun y=>rfl⟩
        | cons _ _=>exact hm.elim
      | cons f fs=>
        subst hes
        obtain ⟨res,h1,h2⟩:=findAsking_run ents (f::fs) 0 hm hequal
        have hnow:Instr.findNow (.array (E.fl q).length e) (.agg vs.toArray) (f::fs) 0=none:=by
         simp [Instr.findNow,Instr.sameNow]
        exact ⟨res,by simp [Instr.findKey,run_underlying hu,hnow,h1],h2⟩
     ·intro b
      refine checkKey_arr hu 9999 b fun i hi => ?_
      have hτ:=List.all_eq_true.1 hall (E.fl q)[i] (List.getElem_mem _)
      unfold matchTy at hτ
      split at hτ
      ·rename_i te hte
       obtain ⟨ie,de,hTe,hcde⟩:=tok_of hC hte
       have hce:=eq_of hC hti heq
       rw [hd] at hce
       simp only [chkEq,Bool.and_eq_true] at hce
       have hsz:=hce.2
       rw [hTe.info] at hsz
       have hsz:ie.size=1:=by simpa using hsz
       have hvi:vs.toArray[i*1]? = some (vs[i]'(by omega)):=by simp [hlen,hi]
       have fin:∀ d,P.underlying e=some d->flatD d=true -> ∃ v,(do part e vs.toArray (i*(<- sizeOf e)):Sem Value).run P w = .ok v w/\(Instr.checkKey b 9999 e v).run P w = .ok () w:=by
        intro d hde hfl
        have hpl:P.plainKey e=true:=by cases d <;> first | (simp [Program.plainKey,hde]; done) | cases hfl
        refine ⟨vs[i]'(by omega),?_,checkKey_flat hde hfl 9998 b _⟩
        simp only [Sem.run_bind,run_size hTe.info,Result.andThen_ok,hsz]
        exact run_part_plain (P:=P) w hpl hvi
       split at hτ
       ·rename_i k1 k2 hd1 hd2
        rw [hd1] at hcde
        exact fin _ (under_int hcde) rfl
       ·rename_i hd1 hd2
        rw [hd1] at hcde
        exact fin _ (under_str hcde) rfl
       ·rename_i hd1 hd2
        rw [hd1] at hcde
        exact fin _ (under_bool hcde) rfl
       ·cases hτ
      ·cases hτ
    ·cases hk
   ·cases hk
theorem MRep.set {kt vt:Ty N} {x:den E.Γ kt} {y:den E.Γ vt} {kv v:Value} (hk:HRep (E:=E) w noSite noTok F (valH kt x) kv) (hv:HRep (E:=E) w noSite noTok F (valH vt y) v):∀ {ents:List (den E.Γ kt×den E.Γ vt)} {es:List MapEntry} {p:Nat},MRep w F ents es->p<ents.length ->
  MRep w F (ents.set p (x,y)) ((es.toArray.modify p fun e => {e with key:=kv,val:=v}).toList)
 | [],_,_,_,hp=>by simp at hp
 | e::ents,[],_,h,_=>h.elim
 | e::ents,f::es,0,h,_=>by
   have:((f::es).toArray.modify 0 fun e => {e with key:=kv,val:=v}).toList = {f with key:=kv,val:=v} :: es:=by
    apply List.ext_getElem?
    intro i
    rw [Array.getElem?_toList,Array.getElem?_modify]
    cases i <;> simp
   rw [this]
   exact ⟨⟨hk,hv⟩,h.2⟩
 | e::ents,f::es,p+1,h,hp=>by
   have:((f::es).toArray.modify (p+1) fun e => {e with key:=kv,val:=v}).toList=f::(es.toArray.modify p fun e => {e with key:=kv,val:=v}).toList:=by
    apply List.ext_getElem?
    intro i
    rw [Array.getElem?_toList,Array.getElem?_modify]
    cases i with
    | zero=>simp
    | succ i=>rw [List.getElem?_cons_succ,Array.getElem?_toList,Array.getElem?_modify]; simp
   rw [this]
   exact ⟨h.1,MRep.set hk hv h.2 (by simpa using hp)⟩
theorem MRep.get {kt vt:Ty N} : ∀ {ents:List (den E.Γ kt×den E.Γ vt)} {es:List MapEntry} {p:Nat},MRep w F ents es->p<ents.length -> ∃ e f,ents[p]? = some e/\es[p]? = some f/\HRep (E:=E) w noSite noTok F (valH kt e.1) f.key
 | [],_,_,_,hp=>by simp at hp
 | e::ents,[],_,h,_=>h.elim
 | e::ents,f::es,0,h,_=>⟨e,f,rfl,rfl,h.1.1⟩
 | e::ents,f::es,p+1,h,hp=>by
   obtain ⟨e',f',h1,h2,h3⟩:=MRep.get (p:=p) h.2 (by simpa using hp)
   exact ⟨e',f',by simpa using h1,by simpa using h2,h3⟩
theorem leafSame {C:Ctx E} {e:Nat} {τ:Ty N} (hτ:matchTy C e τ=true) {x y:den E.Γ τ} {u v:Value} (hx:Rep w F (tvOf (E:=E) τ x) u) (hy:Rep w F (tvOf (E:=E) τ y) v) (he:eqLv (tvOf (E:=E) τ x) (tvOf τ y)=true) (n:Nat):Instr.sameBits n v u=true:=by
 unfold matchTy at hτ
 split at hτ
 ·split at hτ
  ·cases hx; cases hy
   simp only [tvOf,eqLv,decide_eq_true_eq] at he
   simp [Instr.sameBits,he]
  ·generalize hp:tvOf (E:=E) .str x=p at hx he
   generalize hq:tvOf (E:=E) .str y=q at hy he
   cases hx <;> simp only [tvOf] at hp <;> cases hp
   cases hy <;> simp only [tvOf] at hq <;> cases hq
   rename_i s s'
   simp only [eqLv,decide_eq_true_eq] at he
   have:s'.data.toList=s.data.toList:=he.symm
   have hs:s' = s:=by
    cases s with
    | mk d=>cases s' with
      | mk d' => cases d; cases d'; simp only at this; rw [this]
   subst hs
   have hb:(s' == s')=true:=(Go.MapKept.bytes_beq s' s').2 rfl
   simp [Instr.sameBits,hb]
  ·cases hx; cases hy
   simp only [tvOf,eqLv,decide_eq_true_eq] at he
   simp [Instr.sameBits,he]
  ·cases hτ
 ·cases hτ
theorem leavesSame {C:Ctx E} {e:Nat} (n:Nat):∀ (τs:List (Ty N)),(τs.all fun τ=>matchTy C e τ)=true -> ∀ (x y:Tup E.Γ τs) (us vs:List Value),
  LRep w noSite noTok F ((viewTup (E:=E) τs x).map .tv) us->LRep w noSite noTok F ((viewTup (E:=E) τs y).map .tv) vs->eqLs (viewTup (E:=E) τs x) (viewTup τs y)=true->vs.length=us.length/\((vs.zip us).all fun (p:Value×Value)=>Instr.sameBits n p.1 p.2)=true:=by
 have one:∀ (τ:Ty N),matchTy C e τ=true -> ∀ (x y:den E.Γ τ) (xs ys:List (TV E)) (us vs:List Value),
   (∀ us vs,LRep w noSite noTok F (xs.map .tv) us->LRep w noSite noTok F (ys.map .tv) vs->eqLs xs ys=true->vs.length=us.length/\((vs.zip us).all fun (p:Value×Value)=>Instr.sameBits n p.1 p.2)=true) ->
   LRep w noSite noTok F ((tvOf τ x::xs).map .tv) us->LRep w noSite noTok F ((tvOf τ y::ys).map .tv) vs->eqLs (tvOf τ x::xs) (tvOf τ y::ys)=true->vs.length=us.length/\((vs.zip us).all fun (p:Value×Value)=>Instr.sameBits n p.1 p.2)=true:=by
  intro τ hτ x y xs ys us vs ih hu hv he
  simp only [eqLs,Bool.and_eq_true] at he
  cases us with
  | nil=>exact hu.elim
  | cons u us=>
    cases vs with
    | nil=>exact hv.elim
    | cons v vs=>
      obtain ⟨h1,h2⟩:=ih us vs hu.2 hv.2 he.2
      refine ⟨by simp [h1],?_⟩
      rw [List.zip_cons_cons,List.all_cons,h2,leafSame hτ hu.1 hv.1 he.1 n]
      rfl
 intro τs
 induction τs with
 | nil=>
   intro _ x y us vs hu hv _
   cases us with
   | nil=>cases vs with
     | nil=>exact ⟨rfl,rfl⟩
     | cons _ _=>exact hv.elim
   | cons _ _=>exact hu.elim
 | cons τ τs ih=>
   intro h x y
   simp only [List.all_cons,Bool.and_eq_true] at h
   cases τs with
   | nil=>exact fun us vs=>one τ h.1 x y [] [] us vs (ih h.2 () ())
   | cons u us=>
     obtain ⟨x1,x2⟩:=x
     obtain ⟨y1,y2⟩:=y
     exact fun us' vs' => one τ h.1 x1 y1 _ _ us' vs' (ih h.2 x2 y2)
theorem keySame {C:Ctx E} {kt:Ty N} {k:Nat} {x y:den E.Γ kt} {kv u:Value} (hk:keyOk C k kt=true) (hx:HRep (E:=E) w noSite noTok F (valH kt x) kv) (hy:HRep (E:=E) w noSite noTok F (valH kt y) u) (he:keyEq kt x y=true):Instr.sameBits 10000 u kv=true:=by
 have one:∀ (τ:Ty N) (x y:den E.Γ τ),matchTy C k τ=true->τ.one=true->leaves (E:=E) τ x=[tvOf τ x]->leaves (E:=E) τ y=[tvOf τ y]->HRep (E:=E) w noSite noTok F (valH τ x) kv->HRep (E:=E) w noSite noTok F (valH τ y) u->keyEq τ x y=true->Instr.sameBits 10000 u kv=true:=by
  intro τ x y h1 ho h2 h3 h4 h5 h6
  unfold keyEq at h6
  rw [h2,h3] at h6
  simp only [eqLs,Bool.and_true] at h6
  unfold valH at h4 h5
  rw [ho] at h4 h5
  exact leafSame h1 h4 h5 h6 _
 cases kt with
 | int ik=>exact one (.int ik) x y hk rfl rfl rfl hx hy he
 | bool=>exact one .bool x y hk rfl rfl rfl hx hy he
 | str=>exact one .str x y hk rfl rfl rfl hx hy he
 | sl t=>exact one (.sl t) x y hk rfl rfl rfl hx hy he
 | ref q=>exact one (.ref q) x y hk rfl rfl rfl hx hy he
 | st q=>
   simp only [keyOk] at hk
   split at hk
   ·split at hk
    ·simp only [Bool.and_eq_true] at hk
     obtain ⟨_,hall⟩:=hk
     obtain ⟨us,rfl,hL⟩:=hx
     obtain ⟨vs,rfl,hM⟩:=hy
     obtain ⟨h1,h2⟩:=leavesSame 9999 (E.fl q) hall (E.un q x) (E.un q y) us vs hL hM he
     simp only [Instr.sameBits,List.size_toArray,h1,beq_self_eq_true,Bool.true_and]
     exact h2
    ·cases hk
   ·cases hk
theorem keyThat_run {C:Ctx E} {kt:Ty N} {k:Nat} {x y:den E.Γ kt} {kv u:Value} (hk:keyOk C k kt=true) (hx:HRep (E:=E) w noSite noTok F (valH kt x) kv) (hy:HRep (E:=E) w noSite noTok F (valH kt y) u) (he:keyEq kt x y=true):(Instr.keyThatStays u kv).run P w = .ok kv w:=by
 simp [Instr.keyThatStays,keySame hk hx hy he]
theorem mapZ_of {C:Ctx E} (hC:COk P C) {t:Nat} {kt vt:Ty N} {z:den E.Γ vt} (h:mapZ C t kt vt=some z) :
  ∃ k e zv,P.underlying t=some (.map k e)/\keyOk C k kt=true/\(∀ w:World,(zeroValue e).run P w = .ok zv w) /\ ∀ (w:World) (F:Fz),HRep (E:=E) w noSite noTok F (valH vt z) zv:=by
 unfold mapZ at h
 split at h
 ·rename_i ti hti
  split at h
  ·rename_i k e hd
   split at h
   ·rename_i te hte hk
    obtain ⟨_,_,_,htd⟩:=tok_of hC hti
    rw [hd] at htd
    obtain ⟨i,d,hT,_⟩:=tok_of hC hte
    obtain ⟨zv,hz,hza,hzr⟩:=hT.zero
    refine ⟨k,e,zv,under_map htd,hk,fun w=>by simp [zeroValue,typeInfo,hT.info,hz],fun w F => ?_⟩
    refine HRep.packH (t:=vt) ?_ h
    have hr:=hzr w F
    unfold zeroH
    cases ha:te.agg with
    | true=>
      rw [ha] at hza
      cases zv with
      | agg cs=>exact ⟨cs.toList,by simp,LRep.of_tvs hr⟩
      | _=>cases hza
    | false=>
      rw [ha] at hza
      dsimp only
      split
      ·rename_i q hq
       rw [hq] at hr
       have hc:zv.cells = #[zv]:=by
        cases zv with
        | agg cs=>cases hza
        | _=>rfl
       rw [hc] at hr
       exact hr.1
      ·trivial
   ·cases h
  ·cases h
 ·cases h
theorem mapUpdate_run {C:Ctx E} (hC:COk P C) {t b:Nat} {kt vt:Ty N} {z:den E.Γ vt} {x:den E.Γ kt} {y:den E.Γ vt} {kv v:Value} {ents:List (den E.Γ kt×den E.Γ vt)} {es:Array MapEntry} {cl:Nat} (h:mapZ C t kt vt=some z)
  (hb:w.heap[b]? = some (.map es cl)) (hm:MRep w F ents es.toList) (hx:HRep (E:=E) w noSite noTok F (valH kt x) kv) (hv:HRep (E:=E) w noSite noTok F (valH vt y) v) :
  ∃ es' cl',(Instr.mapUpdate t (.map (some b)) kv v).run P w = .ok () {w with heap:=w.heap.setIfInBounds b (.map es' cl')} /\ MRep w F (mput (keyEq kt) ents x y) es'.toList:=by
 obtain ⟨k,e,zv,hu,hk,_,_⟩:=mapZ_of hC h
 obtain ⟨⟨res,h1,h2⟩,h3⟩:=findKey_run (P:=P) hC hk hx hm
 cases res with
 | none=>
   refine ⟨es.push {key:=kv,val:=v,born:=cl},cl+1,?_,?_⟩
   ·simp [Instr.mapUpdate,run_underlying hu,Go.MapKept.run_getObj_map hb,h3,h1,Go.MapKept.run_setObj_map _ hb,Result.andThen]
   ·rw [h2.2 y,Array.toList_push]
    exact hm.append ⟨⟨hx,hv⟩,trivial⟩
 | some q=>
   obtain ⟨q,u⟩:=q
   obtain ⟨p,y0,e0,e1,e2,e3,⟨e4,e5⟩,e6⟩:=h2
   have hp:p<ents.length:=(List.getElem?_eq_some_iff.1 e4).1
   obtain ⟨e',f,g1,g2,g3⟩:=hm.get hp
   rw [e4] at g1
   cases g1
   rw [Nat.zero_add] at e1
   subst e1
   have g2' : es[q]? = some f:=by rw [<- Array.getElem?_toList]; exact g2
   refine ⟨es.modify q fun e => {e with key:=kv,val:=v},cl,?_,?_⟩
   ·simp [Instr.mapUpdate,run_underlying hu,Go.MapKept.run_getObj_map hb,h3,h1,g2',keyThat_run hk hx g3 e5,Go.MapKept.run_setObj_map _ hb,Result.andThen]
   ·rw [e6 y]
    have:=hm.set hx hv hp
    rwa [Array.toArray_toList] at this
theorem lookup_run {C:Ctx E} (hC:COk P C) {t b:Nat} {kt vt:Ty N} {z:den E.Γ vt} {x:den E.Γ kt} {kv:Value} {ents:List (den E.Γ kt×den E.Γ vt)} {es:Array MapEntry} {cl:Nat} (h:mapZ C t kt vt=some z)
  (hb:w.heap[b]? = some (.map es cl)) (hm:MRep w F ents es.toList) (hx:HRep (E:=E) w noSite noTok F (valH kt x) kv) (ok:Bool) :
  ∃ v,(Instr.lookup t (.map (some b)) kv ok).run P w = .ok (if ok then .tuple #[v,.bool (mget (keyEq kt) ents x).isSome] else v) w/\HRep (E:=E) w noSite noTok F (valH vt ((mget (keyEq kt) ents x).getD z)) v:=by
 obtain ⟨k,e,zv,hu,hk,hz,hzr⟩:=mapZ_of hC h
 obtain ⟨⟨res,h1,h2⟩,h3⟩:=findKey_run (P:=P) hC hk hx hm
 cases res with
 | none=>
   refine ⟨zv,?_,?_⟩
   ·simp [Instr.lookup,run_underlying hu,Go.MapKept.run_getObj_map hb,h3,h1,hz,Result.andThen,h2.1]
   ·rw [h2.1]
    exact hzr w F
 | some q=>
   obtain ⟨q,u⟩:=q
   obtain ⟨p,y0,e0,e1,e2,e3,⟨e4,e5⟩,e6⟩:=h2
   refine ⟨u,?_,?_⟩
   ·simp [Instr.lookup,run_underlying hu,Go.MapKept.run_getObj_map hb,h3,h1,Result.andThen,e2]
   ·rw [e2]
    exact e3
end
end Go.Ai

