/- What the functions of this seat answer (38 of 40). No condition. -/
import Derived.Test.YtigedpfipifefaaGreatDoorWorkBE
import Derived.Test.YtigedpfipifefaaGreatDoorWorkBF
import Derived.Test.YtigedpfipifefaaGreatDoorWorkBK
set_option linter.unusedSimpArgs false
set_option linter.unusedVariables false
set_option maxRecDepth 100000
set_option maxHeartbeats 16000000
namespace Go.Proofs.YtigedpfipifefaaGreatDoor
section
def yP:List Pl:=[.pure 0,.pure 0,.free,.free,.free,.pure 0,.free,.free,.pure 0,.free,.eff [false,false,false,false]]
def yQ:List Pl:=[.pure 0,.pure 0,.free,.pure 0,.free,.pure 0,.pure 0,.pure 0,.free,.pure 0,.pure 0,.free,.free,.pure 0,.free,.pure 0,.eff [false,true,true,true,false,false,false,false,false,false],.free]
attribute [go_sem] yP yQ
end
section
def yR:List Pl:=[.free,.pure 0,.pure 0,.pure 0,.pure 0,.free,.pure 0,.pure 0,.pure 0,.pure 0,.pure 0,.pure 0,.free,.eff [true,true,true,true,true,true,true,true,true,true],.eff [false,false,false,false,false,false,false,false,false,false]]
def yS:List Pl:=[.free,.free,.pure 0,.pure 0,.pure 0,.pure 0,.eff [false,true,true,true],.pure 1,.free,.eff [true,true,true,true],.pure 0,.pure 0,.pure 0,.eff [false,true,true,false,false,false,false]]
def yT:List Pl:=[.free,.free,.pure 0,.pure 0,.pure 0,.pure 0,.eff [false,true,true,true],.free,.pure 1,.pure 1,.pure 1,.pure 1,.free,.free,.free,.eff [true,true,true,true,true,true,true],.pure 0,.pure 0,.pure 0,.eff [false,true,true,false,false,false,false,false,false,false]]
def yU:List Pl:=[.pure 0,.pure 0,.pure 0,.pure 0,.pure 0,.pure 0,.eff [false,true,true,true,true,true],.free,.eff [true,true,true,true,true],.pure 0,.pure 0,.pure 0,.eff [false,true,true,false,false,false,false,false]]
attribute [go_sem] yR yS yT yU
end
section
theorem aNP(l:List Itm):∀e∈l.map itA,Pur e:=fun e he=>by obtain⟨x,_,rfl⟩:=zAi.1 he;exact(by simp only[go_sem])
end
section
def yV:List Pl:=[.pure 0,.pure 0,.pure 0,.pure 0,.pure 0,.pure 0,.eff [false,true,true,true,true,true],.pure 0,.pure 0,.pure 0,.eff [false,true,true,false,false,false,false,false]]
def yW:List Pl:=[.free,.pure 0,.free,.pure 0,.pure 0,.pure 0,.free,.pure 0,.pure 0,.pure 0,.pure 0,.pure 0,.pure 0,.free,.free,.free,.pure 0,.pure 0,.eff [false,true,false,false,false,false,false,false,false,false,false,true],.pure 0,.pure 0,.pure 0,.eff [false,true,true,false,false]]
def yX:List Pl:=[.free,.free,.pure 0,.pure 0,.pure 0,.free,.free,.pure 0,.pure 0,.pure 0,.pure 0,.pure 0,.free,.pure 0,.pure 0,.pure 0,.pure 0,.pure 0,.pure 0,.pure 0,.eff [false,true,false,false,false,false,false,false,false,false,false,false,false,false,false]]
attribute [go_sem] yV yW yX
end
section
def aEr:List Pl:=[.eff [],.pure 1,.pure 1,.pure 0,.free,.free,.free,.free,.free]
def aEs:List Pl:=[.free,.pure 0,.pure 0,.pure 0,.free,.pure 0,.pure 0,.pure 0,.free,.pure 0,.pure 0,.pure 0,.eff [true,true,true,true,true,true,false,false,false],.eff [true,true,true,false,false,false],.free]
attribute [go_sem] aEr aEs
theorem aJV(r:Int)(H:AHeap):bJ Tryz.prog 44 [.int .i64 r] H (.tup [mdA false false false false (yB r).1,.int .i64 (yB r).2]):=by
 refine fO Tryz.func44 ?_;unfold yB;by_cases h1:r<0
 ·have d1:decide (r<0)=true:=zAg h1;rw[zAk (by omega)]
  refine hH ?_;exact dY (.tup _ _ rfl (aI (.agg _ _ rfl (aI (.sl _ _) (aI (.sl _ _) (aI (.refl _) (aI (.refl _) (aI (.sl _ _) (aI (.sl _ _) (aI (.refl _) dD)))))))) (aI (.refl _) dD)))
 have d1:decide (r<0)=false:=zAh h1;by_cases h2:63<r
 ·have d2:decide (63<r)=true:=zAg h2;rw[zAk (by omega)]
  refine hH ?_;exact dY (.tup _ _ rfl (aI (.agg _ _ rfl (aI (.sl _ _) (aI (.sl _ _) (aI (.refl _) (aI (.refl _) (aI (.sl _ _) (aI (.sl _ _) (aI (.refl _) dD)))))))) (aI (.refl _) dD)))
 have d2:decide (63<r)=false:=zAh h2;rw[zAp (by omega)]
 refine hH ?_;exact dY (.tup _ _ rfl (aI (.agg _ _ rfl (aI (.sl _ _) (aI (.sl _ _) (aI (.refl _) (aI (.refl _) (aI (.sl _ _) (aI (.sl _ _) (aI (.refl _) dD)))))))) (aI (.refl _) dD)))
end
section
def yY:List Pl:=[.pure 0,.pure 0,.eff [false,true],.pure 1,.pure 1,.pure 1,.free,.free,.eff [true,true,true,true],.pure 0,.eff [false,false,false,false,false]]
attribute [go_sem] yY
theorem aJW(f1 f2 f3 f4 f5 f6 f7 f8 f9:Bool)(x:Cor):Sim (coA f1 f2 f3 f4 f5 f6 f7 f8 f9 x) (coA false false false false false false false false false x):=by
 unfold coA coF;refine .agg _ _ rfl ?_;repeat' first|exact dD|refine aI ?_ ?_|exact .refl _|exact .sl _ _
abbrev coB:Cor→AV:=coA false false false false false false false false false
theorem aEt(f1 f2 f3 f4 f5 f6 f7 f8 f9:Bool)(x:Cor)(e:Int):Sim (.tup [coA f1 f2 f3 f4 f5 f6 f7 f8 f9 x,.int .i64 e]) (.tup [coB x,.int .i64 e]):=.tup _ _ rfl (aI (aJW ..) (aI (.refl _) dD))
theorem aJX(r:Int)(H:AHeap):bJ Tryz.prog 27 [.int .i64 r] H (.tup [coB (yC r).1,.int .i64 (yC r).2]):=by
 refine fO Tryz.func27 ?_;have hm:=aJV r;unfold yC;obtain⟨⟨m,e⟩,hr⟩:∃z,yB r=z:=⟨_,rfl⟩;rw[hr]at hm ⊢;simp only[mdA,mdF]at hm;by_cases he:e=0
 ·subst he;rw[zAp rfl];repeat' first|(refine gS ?_;simp only[go_sem])|refine hU ?_|fail
  exact dY (aEt false false false false true true true true true {co0 with m:=m} 0)
 ·have hd:decide (e=0)=false:=zAh he;rw[zAk he];refine hH ?_;exact dY (aEt true true true true true true true true true co0 e)
end
section
structure Dmn where
 c:Cor
 w:Wal
 sent:Int
deriving DecidableEq,Inhabited
def dmF(f1 f2 f3 f4 f5 f6 f7 f8 f9 fa fb:Bool)(x:Dmn):AV:=
 .agg [.sl f1 (x.c.m.log.entries.map enA),.sl f2 (x.c.m.log.nodes.map ndA),.int .i64 x.c.m.seen,.int .i64 x.c.m.rep,.sl f3 (x.c.m.snaps.map snA),.sl f4 (x.c.m.watches.map waA),.int .i64 x.c.m.next,.sl f5 (x.c.t.held.map hdA),.sl f6 (x.c.t.waits.map hdA),.int .i64 x.c.g.kept,.sl f7 (x.c.g.waits.map wtA),.sl f8 (x.c.ths.map thr),.int .i64 x.c.time,.sl f9 (x.c.ops.map opA),
  .int .i64 x.w.disk.size,.str x.w.disk.firm,.sl fa (x.w.disk.loose.map iH),.int .i64 x.w.seq,.int .i64 x.w.base,.int .i64 x.w.next,.int .i64 x.w.end_,.int .i64 x.w.spilled,.int .i64 x.w.kept,.sl fb (x.w.waits.map AV.str),.bool x.w.dirty,.int .i64 x.w.marked,.int .i64 x.w.mnext,.int .i64 x.w.mmany,.int .i64 x.sent]
abbrev dmA:Dmn→AV:=dmF false false false false false false false false false false false
@[go_sem] theorem aOY(f1 f2 f3 f4 f5 f6 f7 f8 f9 fa fb:Bool)(x:Dmn):Pur (dmF f1 f2 f3 f4 f5 f6 f7 f8 f9 fa fb x)=True:=by simp only[dmF,go_sem]
def dm0:Dmn:=⟨co0,aBZ,0⟩
def sQ(r s:Int):Dmn×Int:=if(yC r).2=0 then(if(aAA s).2=0 then(⟨(yC r).1,(aAA s).1,0⟩,0)else(dm0,(aAA s).2))else(dm0,(yC r).2)
theorem aAB(f1 f2 f3 f4 f5 f6 f7 f8 f9 fa fb:Bool)(x:Dmn)(e:Int):Sim (.tup [dmF f1 f2 f3 f4 f5 f6 f7 f8 f9 fa fb x,.int .i64 e]) (.tup [dmA x,.int .i64 e]):=by
 refine .tup _ _ rfl (aI ?_ (aI (.refl _) dD));unfold dmF;refine .agg _ _ rfl ?_;repeat' first|exact dD|refine aI ?_ ?_|exact .refl _|exact .sl _ _
theorem aJZ(r s:Int)(H:AHeap):bJ Tryz.prog 15 [.int .i64 r,.int .i64 s] H (.tup [dmA (sQ r s).1,.int .i64 (sQ r s).2]):=by
 refine fO Tryz.func15 ?_;have hc:=aJX r;have hw:=aJP s;unfold sQ;generalize yC r=p at *;generalize aAA s=q at *;obtain⟨c,e⟩:=p;obtain⟨w,k⟩:=q;simp only[coB,coA,coF,waF]at hc hw ⊢;by_cases he:e=0
 ·subst he;by_cases hk:k=0
  ·subst hk;repeat' first|(refine gS ?_;simp only[go_sem])|refine gA ?_|(refine gD ?_ ?_<;>intro h<;>try exact aD h)|fail
   exact dY (aAB false false false false false false false false false false false ⟨c,w,0⟩ 0)
  ·have hd:decide (k=0)=false:=zAh hk;rw[zAp rfl,zAk hk];repeat' first|(refine gS ?_;simp only[go_sem,hd])|refine gA ?_|(refine gD ?_ ?_<;>intro h<;>try exact aD h)|fail
   exact dY (aAB true true true true true true true true true true true dm0 k)
 ·have hd:decide (e=0)=false:=zAh he;rw[zAk he];repeat' first|(refine gS ?_;simp only[go_sem,hd])|refine gA ?_|(refine gD ?_ ?_<;>intro h<;>try exact aD h)|fail
  exact dY (aAB true true true true true true true true true true true dm0 e)
end
section
theorem WR.new1(H:AHeap)(A:ABlk)(R:List AV):WR (H.length+1) (H.length+2) 0 [] R (H++[A,.cells 0 (.osl 1 (H.length+2) 1 0 0 0::R),.cells 1 []]):=by simpa using WR.new (H++[A]) R
theorem nQ(H:AHeap)(A a b:ABlk)(k:Nat)(T:Txt)(R:List AV):lP (H++[A,a,b]) (H.length+1) (H.length+2) k T R=H++[A,.cells 0 (wrC (H.length+2) k T R),.cells (k+1) (bA T)]:=by
 have:=aBh (H++[A]) a b k T R;simpa using this
theorem WR.at1(H:AHeap)(A:ABlk)(k:Nat)(T:Txt)(R:List AV):WR (H.length+1) (H.length+2) k T R (H++[A,.cells 0 (wrC (H.length+2) k T R),.cells (k+1) (bA T)]):=by
 have:=(WR.new1 H A R).put k T R;rwa[nQ]at this
theorem sD{N:Nat}{body:Code}{Q:aT}{α:AF}{H:AHeap}(h:aw Tryz.prog N body (wH (fun _:Unit=>α) (fun _=>H) (fun _=>True) (fun _=>0) () Q) α H):aw Tryz.prog N (.loop body) Q α H:=
 aE3 (ι:=Unit) (fun _=>α) (fun _=>H) (fun _=>True) (fun _=>0) () trivial (fun _=>.inr rfl) rfl fun _ _=>jO h fun e α' H' h=>by
  cases e<;>first
   |exact h
   |(obtain⟨y,h1,h2,h3,h4⟩:=h;exact absurd h2 (Nat.lt_irrefl _))
theorem aJ0:rN [] 0=[]:=by decide+kernel
theorem aGJ(x:Dmn)(ht:x.c.ths=[])(hn:x.c.m.log.nodes=[])(H:AHeap):bJ Tryz.prog 18 [dmA x] H (.str [0,0]):=by
 refine fO Tryz.func18 ?_;have hi:∀H,bJ Tryz.prog 36 [.sl false [],.int .i64 0] H (.sl false []):=fun H=>by
  have:=aNO false [] 0 ⟨fun _=>0,fun a b h=>by simp[xK,wY]at h⟩ (by decide) (by simp) (by intro a ha;simp at ha) H
  rwa[aJ0]at this
 unfold dmA dmF;rw[ht,hn];iterate 4 first|(refine gS ?_;simp only[go_sem])|refine gA ?_|(refine gD ?_ ?_<;>intro h<;>try exact aD h)|fail
 refine jG (v:=0) (cs:=[.sl true []]) (H.length+1) 0 1 (by simp only[go_sem]) rfl ?_
 simp only[go_sem];repeat' first|(refine gS ?_;simp only[go_sem])|refine gA ?_|(refine gD ?_ ?_<;>intro h<;>try exact aD h)|fail
 refine aG (nN true [0] (WR.new1 H _ []) (by simp) (by simp) (by simp)) (cO) ?_
 rintro v H' ⟨rfl,k,rfl⟩;rw[nQ,show([]:Txt)++kH [0]=[0] by decide+kernel]
 unfold wrC;simp only[go_sem];repeat' first|(refine gS ?_;simp only[go_sem])|refine gA ?_|(refine gD ?_ ?_<;>intro h<;>try exact aD h)|fail
 refine sD ?_;repeat' first|(refine gS ?_;simp only[go_sem])|refine gA ?_|(refine gD ?_ ?_<;>intro h<;>try exact aD h)|fail
 refine aG (nN true [0] (WR.at1 H _ k [0] []) (by simp) (by simp) (by simp)) (cO) ?_
 rintro v H' ⟨rfl,k2,rfl⟩;rw[nQ,show([0]:Txt)++kH [0]=[0,0] by decide+kernel]
 unfold wrC;simp only[go_sem];repeat' first|(refine gS ?_;simp only[go_sem])|refine gA ?_|(refine gD ?_ ?_<;>intro h<;>try exact aD h)|fail
 refine sD ?_;repeat' first|(refine gS ?_;simp only[go_sem])|refine gA ?_|(refine gD ?_ ?_<;>intro h<;>try exact aD h)|fail
 rw[show List.take 2 (bA [0,0])=bA [0,0]from rfl]
 simp only[go_sem];repeat' first|(refine gS ?_;simp only[go_sem])|refine gA ?_|(refine gD ?_ ?_<;>intro h<;>try exact aD h)|fail
 exact dY (.refl _)
end
end Go.Proofs.YtigedpfipifefaaGreatDoor
