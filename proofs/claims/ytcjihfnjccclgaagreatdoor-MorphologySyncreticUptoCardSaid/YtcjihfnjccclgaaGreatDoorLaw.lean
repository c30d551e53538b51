/- The law MorphologySyncretic of the chapter on morphologies, tied to the program's text: whatever it is called with, it answers true, where what it reads is of bulk at most 1048576. -/
import Derived.Test.YtcjihfnjccclgaaGreatDoorA0
import Derived.Test.YtcjihfnjccclgaaGreatDoorA1
import Derived.Test.YtcjihfnjccclgaaGreatDoorA2
import Derived.Test.YtcjihfnjccclgaaGreatDoorA3
import Derived.Test.YtcjihfnjccclgaaGreatDoorA4
import Derived.Test.YtcjihfnjccclgaaGreatDoorRows
import Derived.Test.YtcjihfnjccclgaaGreatDoorCards
import Derived.Test.YtcjihfnjccclgaaGreatDoorTie
import Derived.JoinedCond
import Derived.ProofKit
import Derived.Lib.LaidIn
import Derived.Lib.LaidU8T
import Derived.Deep.DeepHandedRow
set_option linter.unusedSectionVars false
set_option linter.unusedVariables false
set_option linter.unusedSimpArgs false
noncomputable section
namespace Go.Proofs.YtcjihfnjccclgaaGreatDoor
open Go Go.Ai Go.Ai.Mor Go.RowKit Go.ChangeShapes
set_option maxRecDepth 100000
namespace MorphologySyncretic
theorem bulkOk {H:Type} : BulkOk (H:=H) Rows.uptoBulk Rows.uptoBulkAll where
 str:=fun l=>by simp [Rows.uptoBulk]
 lit:=fun l=>by cases l <;> simp [Rows.uptoBulk]
 nil:=by simp [Rows.uptoBulk]
 slice:=fun xs ys=>by simp only [Rows.uptoBulk]; omega
 agg:=fun xs=>by simp only [Rows.uptoBulk]; omega
 cons:=fun x xs=>by simp only [Rows.uptoBulkAll]; omega
theorem bound {H:Type} {l:List (DataW H)} (hk:Rows.uptoSmall H l=true):Rows.uptoBulkAll l<=1048576:=of_decide_eq_true hk
noncomputable def reads:List Nat:=[4,5,9,21,22,23,24,25,27,44,52,57,68,69,71,73,74,78,103,105,107,109,111,162]
theorem own:ownKnob Tryz.prog.godebug=none:=by kernel_rfl
theorem laid:laidOutB Tryz.prog=true:=by kernel_rfl
theorem dFirst:Rows.laid_unicode_utf8_first=Lib.firstData:=by kernel_rfl
theorem dAccept:(Rows.laid_unicode_utf8_acceptRanges:DataW Unit)=Lib.acceptData:=by kernel_rfl
theorem lt_of_cell {W:World} {b o:Nat} {v:Value} (h:W.cell? ⟨b,o,none⟩=some v):b<W.heap.size:=by
 rcases Nat.lt_or_ge b W.heap.size with h' | h'
 ·exact h'
 ·have:W.heap[b]? = none:=Array.getElem?_eq_none h'
  simp [World.cell?,this] at h
theorem tables {W:World} (h:laidMetH Tryz.prog Rows.morphologySyncreticUptoRow.laid W):utabs W (old W):=by
 have h1:Lib.VarReads Tryz.prog W "unicode/utf8.acceptRanges" Rows.laid_unicode_utf8_acceptRanges:=Lib.laidMet.reads h (.head _)
 have h2:Lib.VarReads Tryz.prog W "unicode/utf8.first" Rows.laid_unicode_utf8_first:=Lib.laidMet.reads h (.tail _ (.head _))
 rw [dAccept] at h1
 rw [dFirst] at h2
 have hT:Lib.Utf8Tabs 0 1 W:=utf8Tabs_of_readsT (U8Types.of196 Tryz.laysValid) ⟨by kernel_rfl,by kernel_rfl,by kernel_rfl,by kernel_rfl,by kernel_rfl,by kernel_rfl,by kernel_rfl⟩ h2 h1
 exact ⟨fun c hc=>lt_of_cell (hT.1 c hc),fun c hc=>lt_of_cell (hT.2 0 (by omega)).1,hT⟩
noncomputable def laidWorld (os:Os):World:=
 let w0:=World.holding Tryz.prog os ⟨#[],#[],[]⟩
 let put (h:Array Obj) (g:Nat) (cs:Array Value):Array Obj:=h.modify g fun
  | .cells _ t frozen => .cells cs t frozen
  | o=>o
 let h1:=put w0.heap 0 (Lib.firstTab.map fun z=>Value.int .u8 z).toArray
 let h2:=put h1 1 ((List.range 16).flatMap fun i=>[Value.int .u8 (Lib.accLo i),Value.int .u8 (Lib.accHi i)]).toArray
 {w0 with heap:=h2}
theorem laid_met (os:Os) (args:Array Value):laidMet Tryz.prog Rows.morphologySyncreticUptoRow.laid ((laidWorld os).forCall (fun _ _=>0) ⟨#[],args,[]⟩).memory:=
 (LaidIn.of_run (l:=[("unicode/utf8.acceptRanges",Rows.laid_unicode_utf8_acceptRanges),("unicode/utf8.first",Rows.laid_unicode_utf8_first)]) [1,0] 8 (by kernel_rfl) (by kernel_rfl) (by kernel_rfl) (by kernel_rfl)).met
noncomputable def wargs:Array Value := #[.agg #[.slice none 0 0,.slice none 0 0,.slice none 0 0,.slice none 0 0],.string ⟨#[]⟩]
theorem reads_ok (os:Os) {H:Type} (enc:TypeId×Value->H):∃ places,DataW.whole enc Tryz.prog ((laidWorld os).forCall (fun _ _=>0) ⟨#[],wargs,[]⟩).memory Tryz.f8.params.toList Rows.morphologySyncreticSpec.vars false wargs.toList 8=some ([.agg [.nil,.nil,.nil,.nil],.lit (.string [])],[],places):=
 ⟨[],by kernel_rfl⟩
theorem lifted (os:Os) (started:os.Started) (H:Type) (enc:TypeId×Value->H) (F:Stop.Interp) :
  ReturnsInHanded {} Tryz.checked os 8 .any ((Rows.OpenSpec.upto Rows.morphologySyncreticSpec).preRow enc Tryz.prog Tryz.f8 Rows.morphologySyncreticUptoRow.domain false Rows.morphologySyncreticUptoRow.laid) (((Rows.OpenSpec.upto Rows.morphologySyncreticSpec).at F).post enc Tryz.prog Tryz.f8 false true false false):=by
 obtain ⟨places,hx⟩:=reads_ok os enc
 refine returnsInHanded_of_row (C:=Tryz.checked) (s:=Rows.OpenSpec.upto Rows.morphologySyncreticSpec) own started (by kernel_rfl) Tryz.func8
  (witness_row_at (enc:=enc) (C:=Tryz.checked) false (laidWorld os) wargs rfl (by kernel_rfl) (by kernel_rfl) (by kernel_rfl)
   (OpenSpec.preRow_of_cond 8 hx (by kernel_rfl) (fun k hk=>by cases hk; kernel_rfl) (by kernel_rfl) (laid_met os _))) ?_
 intro W base args ds gs before hval hW _ hcond _ hL _ _
 exact law_calls (COk_Tryz (sig:=fun _=>none) (it:=fun _=>none) (nt:=0) (r1:=[]) (r2:=[])) (S:=reads) (by kernel_rfl) (szD_ok 8) (okD_ok 8) laid (ps:=l11_MorphologySyncretic.D.ps) (by kernel_rfl) (by kernel_rfl) (tb:=4) rfl (by kernel_rfl) (F:=l11_MorphologySyncretic.con.S.fn)
  l11_MorphologySyncretic.con.ok.2 MorphologySyncretic_law rfl (fun ds h=>match ds,h with | [_,_],_=>rfl) hval hW bulkOk (bound (hcond _ rfl)) (tables hL)
theorem saidUpto:Rows.MorphologySyncreticUptoSaid:=
 OpenClaim.holds_of_cond 8 Tryz.f8 rfl rfl rfl rfl rfl rfl rfl ⟨rfl,rfl,rfl,rfl,rfl⟩ rfl rfl rfl rfl rfl (by kernel_rfl) Tryz.func8 (by kernel_rfl)
  (of_decide_eq_true (by kernel_rfl)) (by unfold Func.isWrapper; first | (rw [if_pos (by decide +kernel)]; kernel_rfl) | (rw [if_neg (by decide +kernel)]; exact ⟨rfl,rfl⟩))
  (fun os started H enc _ F=>by rw [OpenClaim.pre_eq_preRow]; exact lifted os started H enc F)
theorem plain (f:FuncId) (fn:Func) (hf:Tryz.pinned.checked.prog.funcNamed "pentaglot/pentaglotlaw11.MorphologySyncretic"=some f) (hfn:Tryz.pinned.checked.prog.funcs[f]? = some fn) :
  false=Tryz.pinned.checked.prog.looks [] /\ ∀ (j:Nat) t,fn.params[j]? = some t->Tryz.pinned.checked.prog.wantsStandIn t=false:=by
 obtain rfl:f=8:=Option.some.inj ((show Tryz.prog.funcNamed "pentaglot/pentaglotlaw11.MorphologySyncretic"=some 8 by kernel_rfl).symm.trans hf) |>.symm
 obtain rfl:fn=Tryz.f8:=(Option.some.inj (Tryz.func8.symm.trans hfn)).symm
 refine ⟨by kernel_rfl,fun j t ht => ?_⟩
 have ht:(#[27,9]:Array Nat)[j]? = some t:=ht
 rcases (show t=27\/t=9 by simpa using Array.mem_of_getElem? ht) with rfl | rfl
 ·exact (show Tryz.prog.wantsStandIn 27=false by kernel_rfl)
 ·exact (show Tryz.prog.wantsStandIn 9=false by kernel_rfl)
theorem said:Rows.MorphologySyncreticUptoCardSaid:=
 Claim7.holds_tied_plain_at .later [] _ _ _ _ saidUpto (fun _ h=>by cases h) (by kernel_rfl) (fun _ h=>by cases h) morphologySyncreticUpto_row_tie rfl ⟨rfl,rfl⟩ (by kernel_rfl) rfl plain (by kernel_rfl)
end MorphologySyncretic
end Go.Proofs.YtcjihfnjccclgaaGreatDoor
end

