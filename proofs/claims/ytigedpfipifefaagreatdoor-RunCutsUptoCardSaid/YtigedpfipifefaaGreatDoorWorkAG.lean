/- What the functions of this seat answer (7 of 40). No condition. -/
import Derived.Test.YtigedpfipifefaaGreatDoorWorkAE
import Derived.Test.YtigedpfipifefaaGreatDoorWorkAF
import Derived.Lib.LaidTab
import Derived.MakeChecks
set_option linter.unusedSimpArgs false
set_option linter.unusedVariables false
set_option maxRecDepth 100000
set_option maxHeartbeats 16000000
namespace Go.Proofs.YtigedpfipifefaaGreatDoor
section
def okI(a b:Int):Bool:=decide (1≤a)&&decide (a≤1048576)&&decide (0≤b)&&decide (b≤63)
theorem aHw{a b:Int}:okI a b=true↔1≤a∧a≤1048576∧0≤b∧b≤63:=by
 simp[okI,and_assoc]
theorem aAX(a b:Int)(H:AHeap):bJ Tryz.prog 148 [.agg [.int .i64 a,.int .i64 b]] H (.bool (okI a b)):=by
 refine fO Tryz.func148 ?_;refine hG ?_;exact⟨_,_,rfl,.cl _ (.bool _),rfl⟩
def rD(a b c d:Int):Bool:=decide (a<c)||(decide (a=c)&&decide (b<d))
theorem aF1{a b c d:Int}:rD a b c d=true↔(a<c∨(a=c∧b<d)):=by
 simp[rD]
theorem aI5(a b c d:Int)(H:AHeap):bJ Tryz.prog 100 [.agg [.int .i64 a,.int .i64 b],.agg [.int .i64 c,.int .i64 d]] H (.bool (rD a b c d)):=by
 refine fO Tryz.func100 ?_;repeat' first|(refine gS ?_;simp only[go_sem])|refine gA ?_|(refine gD ?_ ?_<;>intro h<;>try exact aD h)|fail
 all_goals refine⟨_,_,rfl,.cl _ (.bool _),zA5 AV.bool ?_⟩
 all_goals(rw[Bool.eq_iff_iff,aF1];simp at *;omega)
def iC(n:Int):Bool:=decide (128≤n)&&decide (n<134217856)
theorem aDm{n:Int}:iC n=true↔128≤n∧n<134217856:=by simp[iC]
theorem aDn{n:Int}:iC n=false↔¬(128≤n∧n<134217856):=by rw[←aDm,Bool.not_eq_true]
def oA(n:Int):Int:=if iC n=true then n / 128 else 0
def oB(n:Int):Int:=if iC n=true then n % 128 / 2 else 0
def oC(n:Int):Bool:=iC n&&decide (n % 2=1)
theorem aMk(n:Int)(H:AHeap):bJ Tryz.prog 97 [.int .i64 n] H (.tup [.agg [.int .i64 (oA n),.int .i64 (oB n)],.bool (oC n),.bool (iC n)]):=by
 refine aAP fun hok=>?_
 have hn:=(mD hok).2;refine fO Tryz.func97 ?_;repeat' first|((first|refine gQ (aAX _ _) ?_|refine gS ?_);simp only[go_sem])|refine gA ?_|(refine gD ?_ ?_<;>intro h<;>try exact aD h)|fail
 all_goals refine qN (k:=3) rfl ?_
 ·have e:iC n=false:=aDn.2 (by simp at h;omega)
  simp[oA,oB,oC,e]
 ·rename_i h0;simp at h0;rw[zAI (by omega),zAO (by omega),zAI (by omega),wI,wI]at h
  have h':¬okI (n / 128) (n % 128 / 2)=true:=by simpa using h
  rw[aHw]at h';have e:iC n=false:=aDn.2 (by omega)
  simp[oA,oB,oC,e]
 ·rename_i h0;simp at h0;rw[zAI (by omega),zAO (by omega),zAI (by omega),wI,wI]at h ⊢
  rw[zAO (by omega)]
  have h':okI (n / 128) (n % 128 / 2)=true:=by simpa using h
  rw[aHw]at h';have e:iC n=true:=aDm.2 (by omega)
  simp[oA,oB,oC,e]
def dirI(n:Int):Bool:=decide (n=0)||decide (n=2)||(iC n&& !oC n)
theorem aPG(n:Int)(H:AHeap):bJ Tryz.prog 68 [.int .i64 n] H (.bool (dirI n)):=by
 refine fO Tryz.func68 ?_;repeat' first|((first|refine gQ (aMk _) ?_|refine gS ?_);simp only[go_sem])|refine gA ?_|(refine gD ?_ ?_<;>intro h<;>try exact aD h)|fail
 ·exact wG (k:=3) rfl (by simp only[dirI,h];rfl)
 ·exact qN (k:=3) rfl (by simp only[dirI,h];rfl)
def aDo(a b n:Int):Bool:=iC n&&rD a b (oA n) (oB n)
end
section
open Go.ChangeShapes Go.WideShapes Go.ChangeAt Go.RowKit
theorem own:ownKnob Tryz.prog.godebug=none:=by kernel_rfl
theorem iR:laidOutB Tryz.prog=true:=by kernel_rfl
theorem aI6:dG Tryz.prog 3=false:=by kernel_rfl
theorem aMl:dG Tryz.prog 5=false:=by kernel_rfl
theorem aDp{x:AV}(h:∃ys,x=mkA Tryz.prog 3 ys∧Sh Tryz.prog 3 ys∧(dG Tryz.prog 3=true∨ys.length=1)):∃n,x=.int .i64 n:=by
 obtain⟨ys,rfl,h,_⟩:=h;obtain⟨n,rfl,hw⟩:=qY Tryz.underlying3 h;exact⟨n,by rw[mkA,zAk (by rw[aI6];decide)];rfl⟩
theorem aMm{x:AV}(h:∃ys,x=mkA Tryz.prog 5 ys∧Sh Tryz.prog 5 ys∧(dG Tryz.prog 5=true∨ys.length=1)):∃n,x=.int .u8 n:=by
 obtain⟨ys,rfl,h,_⟩:=h;obtain⟨n,rfl,hw⟩:=qY Tryz.underlying5 h;exact⟨n,by rw[mkA,zAk (by rw[aMl];decide)];rfl⟩
end
section
theorem aHx{W:World}{rest:List (String×DataW Unit)}(h:laidMet Tryz.prog (("gunwale/sums.steps",Lib.tabData .u32 [0,79764919])::rest) W):Laid (qZ W):=by
 have hg:Tryz.prog.globalNamed "gunwale/sums.steps" =some 0:=by kernel_rfl
 have ht:Lib.TabIs Tryz.prog W "gunwale/sums.steps" .u32 [0,79764919]:=Lib.tabIs_of_head (t:=341) (e:=230) (n:=2) hg (by kernel_rfl) Tryz.underlying341 Tryz.underlying230 (by kernel_rfl) (by kernel_rfl) h
 have h0:=ht.cell hg 0 (by decide)
 have h1:=ht.cell hg 1 (by decide)
 intro p hp;obtain rfl:=zAq.1 hp;refine⟨?_,fun j x hj=>?_⟩
 ·show 0<W.heap.size;by_cases hlt:0<W.heap.size
  ·exact hlt
  ·simp[World.cell?,zBJ (Nat.le_of_not_lt hlt)]at h0
 ·match j with
  |0=>cases hj;exact h0
  |1=>cases hj;exact h1
  |j+2=>simp at hj
end
end Go.Proofs.YtigedpfipifefaaGreatDoor
