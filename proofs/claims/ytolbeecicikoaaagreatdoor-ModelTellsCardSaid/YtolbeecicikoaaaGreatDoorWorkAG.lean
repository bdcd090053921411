/- The texts 7 of 53 beneath the rows of this seat (joined by program): the abstract machine, and what the functions answer. No condition. -/
import Derived.Test.YtolbeecicikoaaaGreatDoorWorkAD
import Derived.Test.YtolbeecicikoaaaGreatDoorWorkAE
import Derived.Test.YtolbeecicikoaaaGreatDoorWorkAF
set_option linter.unusedSimpArgs false
set_option linter.unusedVariables false
set_option linter.unusedSectionVars false
set_option maxRecDepth 100000
set_option maxHeartbeats 16000000
namespace Go.Proofs.YtolbeecicikoaaaGreatDoor
open Go.ChangeShapes Go.WideShapes Go.ChangeAt Go.RowKit
theorem own:ownKnob Tryz.prog.godebug=none:=by kernel_rfl
theorem aCp:laidOutB Tryz.prog=true:=by kernel_rfl
theorem aQK:kindB Tryz.prog 57=true:=by kernel_rfl
theorem aT5:gJ Tryz.prog 59=true:=by kernel_rfl
theorem aQL:kindB Tryz.prog 59=true:=by kernel_rfl
theorem aQM:gJ Tryz.prog 23=false:=by kernel_rfl
theorem aMU:kindB Tryz.prog 23=true:=by kernel_rfl
theorem aQN:gJ Tryz.prog 3=false:=by kernel_rfl
theorem aJz{ys:List AV}(h:Sh Tryz.prog 57 ys):∃p:Stm,ys=[.int .i64 p.c,.int .i64 p.r]:=by
 obtain⟨y,ys',rfl,h1,h2⟩:=fP (wW Tryz.underlying57 aQK h)
 obtain⟨z,zs,rfl,h3,h4⟩:=fP h2
 obtain rfl:=aCk h4
 obtain⟨a,rfl,_⟩:=rG Tryz.underlying3 h1
 obtain⟨b,rfl,_⟩:=rG Tryz.underlying3 h3
 exact⟨⟨a,b⟩,rfl⟩
theorem aHs{ys:List AV}(h:Sh Tryz.prog 59 ys):∃o:Opn,ys=(opA o).cells:=by
 obtain⟨y1,ys1,rfl,h1,r1⟩:=fP (wW Tryz.underlying59 aQL h)
 obtain⟨y2,ys2,rfl,h2,r2⟩:=fP r1
 obtain⟨y3,ys3,rfl,h3,r3⟩:=fP r2
 obtain⟨y4,ys4,rfl,h4,r4⟩:=fP r3
 obtain⟨y5,ys5,rfl,h5,r5⟩:=fP r4
 obtain⟨y6,ys6,rfl,h6,r6⟩:=fP r5
 obtain rfl:=aCk r6
 obtain⟨p,rfl⟩:=aJz h1
 obtain⟨a,rfl,_⟩:=rG Tryz.underlying3 h2
 obtain⟨b,rfl,_⟩:=rG Tryz.underlying3 h3
 obtain⟨c,rfl,_⟩:=rG Tryz.underlying3 h4
 obtain⟨s,rfl,_⟩:=aAw Tryz.underlying9 h5
 obtain⟨u,rfl,_⟩:=aAw Tryz.underlying9 h6
 exact⟨⟨p,a,b,c,s,u⟩,rfl⟩
theorem aMV{zs:List (List AV)}(h:∀z∈zs,Sh Tryz.prog 59 z):∃l:List Opn,zs.map (mkA Tryz.prog 59)=l.map opA∧l.length=zs.length:=by
 induction zs with
 |nil=>exact⟨[],rfl,rfl⟩
 |cons z zs ih=>
  obtain⟨p,rfl⟩:=aHs (h z (by simp))
  obtain⟨l,h1,h2⟩:=ih fun z hz=>h z (by simp[hz])
  refine⟨p::l,?_,by simp[h2]⟩
  rw[zAA,zAA,h1,mkA,zAc aT5];rfl
theorem aQO{x:AV}(h:∃ys,x=mkA Tryz.prog 23 ys∧Sh Tryz.prog 23 ys∧(gJ Tryz.prog 23=true∨ys.length=1)):∃l:List Opn,x=.sl false (l.map opA)∧l.length≤maxLen:=by
 obtain⟨ys,rfl,h,_⟩:=h
 obtain⟨zs,rfl,hl,hz⟩:=aDt Tryz.underlying23 aMU h
 obtain⟨l,h1,h2⟩:=aMV hz
 refine⟨l,?_,by rw[h2];exact hl⟩
 rw[mkA,zAb (by rw[aQM];decide),h1];rfl
theorem aQP{x:AV}(h:∃ys,x=mkA Tryz.prog 3 ys∧Sh Tryz.prog 3 ys∧(gJ Tryz.prog 3=true∨ys.length=1)):∃n,x=.int .i64 n:=by
 obtain⟨ys,rfl,h,_⟩:=h
 obtain⟨n,rfl,hw⟩:=rG Tryz.underlying3 h
 exact⟨n,by rw[mkA,zAb (by rw[aQN];decide)];rfl⟩
end Go.Proofs.YtolbeecicikoaaaGreatDoor
namespace Go.Proofs.YtolbeecicikoaaaGreatDoor
def zM(a b:Int):Bool:=decide (1≤a)&&decide (a≤1048576)&&decide (0≤b)&&decide (b≤63)
theorem oU{a b:Int}:zM a b=true↔1≤a∧a≤1048576∧0≤b∧b≤63:=by
 simp[zM,and_assoc]
theorem pS(a b:Int)(H:AHeap):bD Tryz.prog 79 [.agg [.int .i64 a,.int .i64 b]] H (.bool (zM a b)):=by
 refine fO Tryz.func79 ?_
 refine hG ?_
 exact⟨_,_,rfl,.cl _ (.bool _),rfl⟩
theorem uV(a b:Int)(H:AHeap):bD Tryz.prog 81 [.agg [.int .i64 a,.int .i64 b]] H (.bool (zM a b)):=by
 refine fO Tryz.func81 ?_
 refine hG ?_
 exact⟨_,_,rfl,.cl _ (.bool _),rfl⟩
def iI(a b c d:Int):Bool:=decide (a<c)||(decide (a=c)&&decide (b<d))
theorem uW{a b c d:Int}:iI a b c d=true↔(a<c∨(a=c∧b<d)):=by
 simp[iI]
theorem aEV(a b c d:Int)(H:AHeap):bD Tryz.prog 136 [.agg [.int .i64 a,.int .i64 b],.agg [.int .i64 c,.int .i64 d]] H (.bool (iI a b c d)):=by
 refine fO Tryz.func136 ?_
 repeat' first|(refine gS ?_;simp only[go_sem])|refine gA ?_|(refine gD (fun h=>?_) (fun h=>?_)<;>try exact aA h)|fail
 all_goals refine⟨_,_,rfl,.cl _ (.bool _),zAp AV.bool ?_⟩
 all_goals(rw[zA8,uW];simp at *;omega)
theorem aCq(a b c d:Int)(H:AHeap):bD Tryz.prog 83 [.agg [.int .i64 a,.int .i64 b],.agg [.int .i64 c,.int .i64 d]] H (.bool (iI a b c d)):=by
 refine fO Tryz.func83 ?_
 repeat' first|(refine gS ?_;simp only[go_sem])|refine gA ?_|(refine gD (fun h=>?_) (fun h=>?_)<;>try exact aA h)|fail
 exact⟨_,_,rfl,.cl _ (.bool _),rfl⟩
def dQ(n:Int):Bool:=decide (128≤n)&&decide (n<134217856)
theorem tQ{n:Int}:dQ n=true↔128≤n∧n<134217856:=by simp[dQ]
theorem aEW{n:Int}:dQ n=false↔¬(128≤n∧n<134217856):=by rw[←tQ,zBr]
def oA(n:Int):Int:=if dQ n=true then n / 128 else 0
def oB(n:Int):Int:=if dQ n=true then n % 128 / 2 else 0
def oC(n:Int):Bool:=dQ n&&decide (n % 2=1)
theorem aCr(n:Int)(H:AHeap):bD Tryz.prog 140 [.int .i64 n] H (.tup [.agg [.int .i64 (oA n),.int .i64 (oB n)],.bool (oC n),.bool (dQ n)]):=by
 refine aCi fun hok=>?_
 have hn:=(aQz hok).2
 refine fO Tryz.func140 ?_
 repeat' first|((first|refine gQ (pS _ _) ?_|refine gS ?_);simp only[go_sem])|refine gA ?_|(refine gD (fun h=>?_) (fun h=>?_)<;>try exact aA h)|fail
 all_goals refine kT (k:=3) rfl ?_
 ·have e:dQ n=false:=aEW.2 (by simp at h;omega)
  simp[oA,oB,oC,e]
 ·rename_i h0
  simp at h0
  rw[zAY (by omega),zBv (by omega),zAY (by omega),wI,wI]at h
  have h':¬zM (n / 128) (n % 128 / 2)=true:=by simpa using h
  rw[oU]at h'
  have e:dQ n=false:=aEW.2 (by omega)
  simp[oA,oB,oC,e]
 ·rename_i h0
  simp at h0
  rw[zAY (by omega),zBv (by omega),zAY (by omega),wI,wI]at h ⊢
  rw[zBv (by omega)]
  have h':zM (n / 128) (n % 128 / 2)=true:=by simpa using h
  rw[oU]at h'
  have e:dQ n=true:=tQ.2 (by omega)
  simp[oA,oB,oC,e]
theorem aJA(n:Int)(H:AHeap):bD Tryz.prog 82 [.int .i64 n] H (.tup [.agg [.int .i64 (oA n),.int .i64 (oB n)],.bool (oC n),.bool (dQ n)]):=by
 refine fO Tryz.func82 ?_
 repeat' first|(refine gS ?_;simp only[go_sem])|refine gA ?_|(refine gD (fun h=>?_) (fun h=>?_)<;>try exact aA h)|fail
 all_goals refine kT (k:=3) rfl ?_
 ·have e:dQ n=false:=aEW.2 (by simp at h;omega)
  simp[oA,oB,oC,e]
 ·simp at h
  rw[zAY (by omega),zBv (by omega),zAY (by omega),wI,wI]
  rw[zBv (by omega)]
  have e:dQ n=true:=tQ.2 (by omega)
  simp[oA,oB,oC,e]
def dirI(n:Int):Bool:=decide (n=0)||decide (n=2)||(dQ n&& !oC n)
theorem aAC(n:Int)(H:AHeap):bD Tryz.prog 96 [.int .i64 n] H (.bool (dirI n)):=by
 refine fO Tryz.func96 ?_
 repeat' first|((first|refine gQ (aCr _) ?_|refine gS ?_);simp only[go_sem])|refine gA ?_|(refine gD (fun h=>?_) (fun h=>?_)<;>try exact aA h)|fail
 ·exact aDn (k:=3) rfl (by simp only[dirI,h];rfl)
 ·exact kT (k:=3) rfl (by simp only[dirI,h];rfl)
theorem tR(n:Int)(H:AHeap):bD Tryz.prog 67 [.int .i64 n] H (.bool (dirI n)):=by
 refine fO Tryz.func67 ?_
 repeat' first|((first|refine gQ (aJA _) ?_|refine gS ?_);simp only[go_sem])|refine gA ?_|(refine gD (fun h=>?_) (fun h=>?_)<;>try exact aA h)|fail
 exact kT (k:=3) rfl rfl
def lU(a b n:Int):Bool:=dQ n&&iI a b (oA n) (oB n)
theorem aCs(a b n:Int)(H:AHeap):bD Tryz.prog 80 [.agg [.int .i64 a,.int .i64 b],.int .i64 n] H (.bool (lU a b n)):=by
 refine fO Tryz.func80 ?_
 repeat' first|((first|refine gQ (aCr _) ?_|refine gQ (aEV _ _ _ _) ?_|refine gS ?_);simp only[go_sem])|refine gA ?_|(refine gD (fun h=>?_) (fun h=>?_)<;>try exact aA h)|fail
 exact kT (k:=3) rfl rfl
theorem aHt(a b:Opn)(H:AHeap):bD Tryz.prog 143 [opA a,opA b] H (.bool (iI a.at_.c a.at_.r b.at_.c b.at_.r)):=by
 refine fO Tryz.func143 ?_
 simp only[opA]
 repeat' first|((first|refine gQ (aCq _ _ _ _) ?_|refine gS ?_);simp only[go_sem])|refine gA ?_|(refine gD (fun h=>?_) (fun h=>?_)<;>try exact aA h)|fail
 exact kT (k:=3) rfl rfl
theorem aDw(o:Opn)(H:AHeap):bD Tryz.prog 78 [opA o] H (if o.kind=1 then .iface 195 (opA o)else if o.kind=2 then .iface 196 (opA o)else .nilIface):=by
 refine fO Tryz.func78 ?_
 simp only[opA]
 repeat' first|(refine gS ?_;simp only[go_sem])|refine gA ?_|(refine gD (fun h=>?_) (fun h=>?_)<;>try exact aA h)|fail
 all_goals(simp only[zAr,zAC]at *)
 ·simp only[h,zAU];exact dY (.refl _)
 ·simp only[*,zAU,zA3];exact dY (.refl _)
 ·simp only[*,zAU,zA3];exact dY (.refl _)
end Go.Proofs.YtolbeecicikoaaaGreatDoor
namespace Go.Proofs.YtolbeecicikoaaaGreatDoor
theorem aGa(b:UInt8):b.toNat.toUInt8=b:=by simp
theorem aDx(s:List UInt8)(b:Int)(H:AHeap):FnX Tryz.prog 216 [.str s,.int .u8 b] H (.int .i64 (Lib.countByte s b.toNat.toUInt8)):=
 aQH Tryz.func216 (by kernel_rfl) (by kernel_rfl) (by kernel_rfl) (by kernel_rfl) s b H
theorem aDy(s:List UInt8)(b:Int)(H:AHeap):FnX Tryz.prog 240 [.str s,.int .u8 b] H (.int .i64 (Lib.indexByte s b.toNat.toUInt8)):=
 aQI Tryz.func240 (by kernel_rfl) (by kernel_rfl) (by kernel_rfl) (by kernel_rfl) s b H
theorem aJB(s:List UInt8)(b:UInt8)(H:AHeap):bD Tryz.prog 198 [.str s,.str [b]] H (.int .i64 (Lib.countByte s b)):=by
 refine fO Tryz.func198 ?_
 repeat' first|((first|refine aBJ (aDx _ _ _) ?_|refine aBK (aDx _ _ _) ?_|refine gS ?_);simp only[go_sem])|refine gA ?_|(refine gD (fun h=>?_) (fun h=>?_)<;>try exact aA h)|fail
 rw[aGa]
 exact bL (.refl _)
theorem aHu(s:List UInt8)(b:UInt8)(H:AHeap):bD Tryz.prog 225 [.str s,.int .u8 b.toNat] H (.int .i64 (Lib.indexByte s b)):=by
 refine fO Tryz.func225 ?_
 repeat' first|((first|refine aBJ (aDy _ _ _) ?_|refine aBK (aDy _ _ _) ?_|refine gS ?_);simp only[go_sem])|refine gA ?_|(refine gD (fun h=>?_) (fun h=>?_)<;>try exact aA h)|fail
 rw[aGa]
 exact bL (.refl _)
theorem aHv(s:List UInt8)(b:UInt8)(H:AHeap):bD Tryz.prog 217 [.str s,.str [b]] H (.int .i64 (Lib.indexByte s b)):=by
 refine fO Tryz.func217 ?_
 repeat' first|((first|refine gQ (aHu _ _) ?_|refine gS ?_);simp only[go_sem])|refine gA ?_|(refine gD (fun h=>?_) (fun h=>?_)<;>try exact aA h)|fail
 ·have e:[b]=s:=by simpa using h
  subst e
  refine bL (.of ?_)
  rw[Lib.indexByte,zAc (by simp)]
 ·exact bL (.refl _)
theorem aJC(s:List UInt8)(b:UInt8)(H:AHeap):bD Tryz.prog 199 [.str s,.str [b]] H (.int .i64 (Lib.indexByte s b)):=by
 refine fO Tryz.func199 ?_
 repeat' first|((first|refine gQ (aHv _ _) ?_|refine gS ?_);simp only[go_sem])|refine gA ?_|(refine gD (fun h=>?_) (fun h=>?_)<;>try exact aA h)|fail
 exact bL (.refl _)
def aBl(s:List UInt8)(b:UInt8):AV:=match s with
 |[]=>.tup [.str [],.bool false]
 |c::l=>if c=b then .tup [.str l,.bool true]else .tup [.str (c::l),.bool false]
theorem aJD(s:List UInt8)(b:UInt8)(H:AHeap):bD Tryz.prog 196 [.str s,.str [b]] H (.bool (decide (s.head?=some b))):=by
 refine fO Tryz.func196 ?_
 cases s with
 |nil=>
  repeat' first|(refine gS ?_;simp only[go_sem])|refine gA ?_|(refine gD (fun h=>?_) (fun h=>?_)<;>try exact aA h)|fail
  exact bL (.refl _)
 |cons c l=>
  repeat' first|(refine gS ?_;simp only[go_sem])|refine gA ?_|(refine gD (fun h=>?_) (fun h=>?_)<;>try exact aA h)|fail
  have e1:decide ((1:Int)≤((l.length+1:Nat):Int))=true:=dT
  have e2:decide ([c]=[b])=decide ((c::l).head?=some b):=by simp
  refine bL (.of ?_)
  rw[←e2]
  exact zAp AV.bool (by rw[show((1:Nat):Int)=(1:Int)from rfl,e1,zAB])
theorem aJE(s:List UInt8)(b:UInt8)(H:AHeap):bD Tryz.prog 175 [.str s,.str [b]] H (aBl s b):=by
 refine fO Tryz.func175 ?_
 have hp:=aJD s b
 cases s with
 |nil=>
  repeat' first|(refine gS ?_;simp only[go_sem])|refine gA ?_|(refine gD (fun h=>?_) (fun h=>?_)<;>try exact aA h)|fail
  exact bL (.refl _)
 |cons c l=>
  by_cases h:c=b
  ·rw[zAd (by rw[h];rfl)]at hp
   rw[aBl,zAc h]
   repeat' first|(refine gS ?_;simp only[go_sem])|refine gA ?_|(refine gD (fun h=>?_) (fun h=>?_)<;>try exact aA h)|fail
   exact bL (.refl _)
  ·rw[eT (by simp[h])]at hp
   rw[aBl,zAb h]
   repeat' first|(refine gS ?_;simp only[go_sem])|refine gA ?_|(refine gD (fun h=>?_) (fun h=>?_)<;>try exact aA h)|fail
   exact bL (.refl _)
theorem aQQ(s:List UInt8)(b:UInt8)(H:AHeap):bD Tryz.prog 144 [.str s,.str [b]] H (aBl s b):=by
 refine fO Tryz.func144 ?_
 have hp:=aJE s b
 cases s with
 |nil=>
  simp only[aBl]at hp ⊢
  repeat' first|(refine gS ?_;simp only[go_sem])|refine gA ?_|(refine gD (fun h=>?_) (fun h=>?_)<;>try exact aA h)|fail
  exact bL (.refl _)
 |cons c l=>
  by_cases h:c=b
  ·simp only[aBl,zAc h]at hp ⊢
   repeat' first|(refine gS ?_;simp only[go_sem])|refine gA ?_|(refine gD (fun h=>?_) (fun h=>?_)<;>try exact aA h)|fail
   exact bL (.refl _)
  ·simp only[aBl,zAb h]at hp ⊢
   repeat' first|(refine gS ?_;simp only[go_sem])|refine gA ?_|(refine gD (fun h=>?_) (fun h=>?_)<;>try exact aA h)|fail
   exact bL (.refl _)
end Go.Proofs.YtolbeecicikoaaaGreatDoor
