/- What the functions of this seat answer (20 of 38). No condition. -/
import Derived.Test.YtennnelammaapaaGreatDoorWorkAP
import Derived.Test.YtennnelammaapaaGreatDoorWorkAR
set_option linter.unusedSimpArgs false
set_option linter.unusedVariables false
set_option linter.unusedSectionVars false
set_option maxRecDepth 100000
set_option maxHeartbeats 16000000
namespace Go.Proofs.YtennnelammaapaaGreatDoor
section
theorem aSB(n:Nat)(h0:0<n)(hn:n≤1048576)(H:AHeap):ACalls Tryz.prog 90 [.sl true [],.int .i64 n] H (fun v H'=>v=.osl 1 H.length 1 0 0 n∧∃cs,cs.length=n∧H'=H++[.cells 1 cs]):=by
 refine aW Tryz.func90 ?_;have h1:decide ((n:Int)<0)=false:=dF;have h2:decide ((0:Int)<(n:Int))=true:=dT;have h3:IntKind.i64.wrap ((n:Int)-IntKind.i64.wrap 0)=n:=by rw[show IntKind.i64.wrap 0=0 from rfl,wI];omega
 have h4:(n * 8≤140737488355328)=True:=zAC (by omega)
 have h5:((0:Int)<(n:Int))=True:=zAC (by omega)
 have h6:IntKind.i64.wrap ((n:Int)-IntKind.i64.wrap (0-0))=n:=h3;repeat' first|(refine gS ?_;simp only[go_sem,h1,h2,h3,h4,h5,h6,zAI,zAv,Int.natCast_zero,zAN,Int.toNat_zero,List.take_nil])|refine gA ?_|(refine gD ?_ ?_<;>intro h<;>try exact aA h)|fail
 exact⟨_,by simp[AV.cells],rfl⟩
theorem aHh{H:AHeap}(v n:Nat)(l:List Int){B:ABlk}(hB:B=.cells v (l.map bK)):Frz H.length (H++[B]) (.osl 1 H.length v 0 l.length n) (.sl false (l.map bK)):=by
 subst hB;refine iT (v:=v) (cs:=l.map bK) (rest:=[]) (zAf _) (by simp only[go_sem]) (by rw[kQ,zAd]) (by rw[zAn]) (kW _) (fun e he=>by obtain⟨x,_,rfl⟩:=zAm.1 he;exact .int _ _)
theorem aLv(l:List Int):(List.flatMap AV.cells (l.map bK)).all AV.one=true:=by
 rw[kQ];induction l with
 |nil=>rfl
 |cons x l ih=>rw[zAw,List.all_cons,ih];rfl
theorem oY{A B X C:List AV}(h:X.length=C.length):bG (A++(C++B)) A.length X=A++(X++B):=by
 rw[cD rfl,h,List.drop_left]
theorem wJ(f f1 f2:Bool)(l1 l2:List Int)(h1:0<l1.length)(h2:l1.length≤100000)(h3:l2.length≤100000)(H:AHeap):
  bH Tryz.prog 71 [.sl f [.sl f1 (l1.map bK),.sl f2 (l2.map bK)]] H (.sl false ((l1++l2).map bK)):=by
 refine fO Tryz.func71 ?_;obtain⟨n,hn⟩:∃n,l1.length+l2.length=n:=⟨_,rfl⟩;have hw1:IntKind.i64.wrap (0+(l1.length:Int))=(l1.length:Int):=by rw[wI];omega
 have hw2:IntKind.i64.wrap ((l1.length:Int)+(l2.length:Int))=(n:Int):=by rw[wI];omega
 have hd1:decide ((l1.length:Int)<0)=false:=dF;have hd2:decide ((n:Int)<0)=false:=dF;have hi1:IntKind.i64.wrap (0+1)=1:=rfl;have hi2:IntKind.i64.wrap (1+1)=2:=rfl;repeat' first|(refine gS ?_;simp only[go_sem])|refine gA ?_|(refine gD ?_ ?_<;>intro h<;>try exact aA h)|fail
 refine fD 3 ?_;unfold fZ;repeat' first|(refine gS ?_;simp only[go_sem,hw1,hd1,hi1,hw2,hd2,hi2,Int.reduceLT])|refine gA ?_|(refine gD ?_ ?_<;>intro h<;>try exact aA h)|fail
 refine aR (aSB n (by omega) (by omega) H) (cO) (fun v H' hv=>?_)
 obtain⟨rfl,cs,hc,rfl⟩:=hv;obtain⟨c1,c2,rfl,hc1,hc2⟩:∃c1 c2,cs=c1++c2∧c1.length=l1.length∧c2.length=l2.length:=⟨cs.take l1.length,cs.drop l1.length,by simp,by simp;omega,by simp;omega⟩
 have e0:((0:Nat)=n)=False:=zDo (by omega)
 simp only[go_sem];repeat' first|(refine gS ?_;simp only[go_sem,e0])|refine gA ?_|(refine gD ?_ ?_<;>intro h<;>try exact aA h)|fail
 refine fD 3 ?_;unfold fZ;repeat' first|(refine gS ?_;simp only[go_sem,e0,hi1,hi2,Int.reduceLT])|refine gA ?_|(refine gD ?_ ?_<;>intro h<;>try exact aA h)|fail
 have g1:bG (c1++c2) 0 (List.flatMap AV.cells (l1.map bK))=l1.map bK++c2:=by
  have:=oY (A:=[]) (B:=c2) (X:=l1.map bK) (C:=c1) (by rw[zAn,hc1])
  rw[kQ];simpa using this
 rw[g1];refine⟨⟨by omega,by omega,kW _,aLv _⟩,?_⟩
 by_cases z:l2=[]
 ·subst z;have e1:(l1.length=n)=True:=zAC (by simpa using hn)
  have e2:c2=[]:=zAE hc2;subst e2;have e3:l1.length * 8≤140737488355328:=by omega
  repeat' first|(refine gS ?_;simp only[go_sem,e1,hi1,hi2,Int.reduceLT,zAd,zAZ,zCu,zAv,zCC,e3,zAn,List.all_nil,zAB])|refine gA ?_|(refine gD ?_ ?_<;>intro h<;>try exact aA h)|fail
  refine⟨_,_,rfl,aHh 2 _ l1 rfl,?_⟩;first|rfl|rw[zAd]
 ·have zl:0<l2.length:=zBl.2 z;have e1:(l1.length=n)=False:=zDo (by omega)
  repeat' first|(refine gS ?_;simp only[go_sem,e1,hi1,hi2,Int.reduceLT])|refine gA ?_|(refine gD ?_ ?_<;>intro h<;>try exact aA h)|fail
  have g2:bG (l1.map bK++c2) l1.length (List.flatMap AV.cells (l2.map bK))=l1.map bK++l2.map bK:=by
   have:=oY (A:=l1.map bK) (B:=[]) (X:=l2.map bK) (C:=c2) (by rw[zAn,hc2])
   rw[kQ];simpa using this
  have g3:bG (l1.map bK++c2) (l1.length * 1) (List.flatMap AV.cells (l2.map bK))=l1.map bK++l2.map bK:=by rw[zAB,g2]
  try rw[g2]
  try rw[g3]
  refine⟨⟨by omega,by omega,kW _,aLv _⟩,?_⟩
  repeat' first|(refine gS ?_;simp only[go_sem,hi2,Int.reduceLT])|refine gA ?_|(refine gD ?_ ?_<;>intro h<;>try exact aA h)|fail
  rw[←zA9];refine⟨_,_,rfl,?_,rfl⟩;have:=aHh (H:=H) 1 n (l1++l2) rfl;rwa[zAa]at this
theorem aLw(H:AHeap){i v lc:Nat}{a d:Int}{cs:List AV}(hh:hget H i=.cells v (bK a::cs))(hlc:0<lc):bH Tryz.prog 68 [.osl 1 i v 0 1 lc,.int .i64 d] H (.bool (decide (a=d))):=by
 have hi1:IntKind.i64.wrap (0+1)=1:=rfl;have hz:decide ((1:Int)<((1:Nat):Int))=false:=rfl;by_cases h:d=a
 ·subst h;have hx:bH Tryz.prog 88 [.osl 1 i v 0 1 lc,.int .i64 d] H (.int .i64 0):=by
   refine fO Tryz.func88 ?_;repeat' first|(refine gS ?_;simp only[go_sem])|refine gA ?_|(refine gD ?_ ?_<;>intro h<;>try exact aA h)|fail
   refine fD 2 ?_;unfold fZ;repeat' first|(refine gS ?_;simp only[go_sem,hh,bK,hi1,hz,zA7])|refine gA ?_|(refine gD ?_ ?_<;>intro h<;>try exact aA h)|fail
   exact aB1 (.int _ _) (.refl _)
  refine fO Tryz.func68 ?_;have hz:decide ((0:Int)≤0)=true:=rfl;rw[zAj rfl];repeat' first|((first|refine aZ (hx) (cO) ?_|refine bA (hx) (cO) ?_|refine bB (fun _=>hx) (cO) ?_|refine gS ?_);simp only[go_sem,hz])|refine gA ?_|(refine gD ?_ ?_<;>intro h<;>try exact aA h)|fail
  exact aB1 (.bool _) (.refl _)
 ·have e1:decide (d=a)=false:=zAg h;have hx:bH Tryz.prog 88 [.osl 1 i v 0 1 lc,.int .i64 d] H (.int .i64 (-1)):=by
   refine fO Tryz.func88 ?_;repeat' first|(refine gS ?_;simp only[go_sem])|refine gA ?_|(refine gD ?_ ?_<;>intro h<;>try exact aA h)|fail
   refine fD 2 ?_;unfold fZ;repeat' first|(refine gS ?_;simp only[go_sem,hh,e1,bK,hi1,hz])|refine gA ?_|(refine gD ?_ ?_<;>intro h<;>try exact aA h)|fail
   exact aB1 (.int _ _) (.refl _)
  refine fO Tryz.func68 ?_;have hz:decide ((0:Int)≤ -1)=false:=rfl;rw[zAg (zBs h)];repeat' first|((first|refine aZ (hx) (cO) ?_|refine bA (hx) (cO) ?_|refine bB (fun _=>hx) (cO) ?_|refine gS ?_);simp only[go_sem,hz])|refine gA ?_|(refine gD ?_ ?_<;>intro h<;>try exact aA h)|fail
  exact aB1 (.bool _) (.refl _)
def mT(i:Nat):List Int→AV
 |[]=>.sl true []
 |d::ds=>.osl 1 i (ds.length+1) 0 (ds.length+1) (ds.length+1)
def nQ(H:AHeap):List Int→AHeap
 |[]=>H
 |d::ds=>H++[.cells (ds.length+1) ((d::ds).map bK)]
theorem aFY{ds:List Int}{ps:List Txt}{f:List Int→Txt→List Int}{k:Nat}(h:k<ps.length):(ps.drop k).foldl f ds=(ps.drop (k+1)).foldl f (f ds ps[k]):=by
 rw[zAi h];rfl
theorem aFZ{l:List Nd}{p:Txt}(h:bM p=none):dG l p=none:=by rw[dG,h]
theorem aIM{l:List Nd}{p:Txt}(h:bM p=some []):dG l p=none:=by rw[dG,h]
theorem aF0{l:List Nd}{p x:Txt}{xs:List Txt}{d e:Int}(h:bM p=some (x::xs))(hf:findN l (x::xs).dropLast=(d,e)):dG l p=if e=0∧dirI d=true then some d else none:=by rw[dG,h];simp only[hf]
theorem aHi(l:List Int)(u:Int):(l.any fun x=>decide (x=u))=l.contains u:=by
 rw[zBo];simp
theorem aQE(b:Bool)(l:List Nd)(u w:Int)(hl:l.length≤1073741824)(H:AHeap)(i:Nat)(hh:hget H i=.cells 0 [.sl b (l.map ndA)]):bH Tryz.prog 69 [.int .i64 u,.int .i64 w,.ref i 0 0] H (.bool (fX l u w)):=by
 refine fO Tryz.func69 ?_;have hab:=aKw b l w hl;repeat' first|((first|refine gQ (vO _ _ _) ?_|refine gS ?_);simp only[go_sem,hh])|refine gA ?_|(refine gD ?_ ?_<;>intro h<;>try exact aA h)|fail
 refine cL (.of ?_);rw[fX,aHi]
theorem aHj(b:Bool)(l:List Nd)(c:Cal)(hp:c.path.length≤1048576)(ht:c.to.length≤1048576)(hl:l.length≤1073741824)(H:AHeap):
  bH Tryz.prog 46 [dS c,.sl b (l.map ndA)] H (.sl false ((locksT l c).map bK)):=by
 refine fO Tryz.func46 ?_;obtain⟨ps,hps⟩:∃ps,jD c=ps:=⟨_,rfl⟩;have hpc:=aOm c;rw[hps]at hpc;have hpl:ps.length≤2:=by rw[←hps,jD];split<;>(try split)<;>simp
 have hpm:∀p∈ps,p.length≤1048576:=by
  rw[←hps,jD];intro p hq;split at hq
  ·rcases zAs.1 hq with rfl|hq
   ·exact hp
   ·rw[zAq.1 hq];exact ht
  ·split at hq
   ·rw[zAq.1 hq];exact hp
   ·cases hq
 rw[show locksT l c=1::gZ l (ps.foldl (fun ds p=>mL ds (dG l p)) [])from by rw[locksT,uH,hps]]
 clear hps;obtain⟨kk,pp,to,dd,nn⟩:=c;simp only[dS]at hpc;have hfi:=vP b;repeat' first|(refine gS ?_;simp only[go_sem,dS])|refine gA ?_|(refine gD ?_ ?_<;>intro h<;>try exact aA h)|fail
 refine aI (ι:=Nat×List Int) (fun q=>[(3,.ref (H.length+1) 0 0),(15,.sl true (ps.map AV.str)),(16,.int .i64 ps.length),(17,.int .i64 q.1),(5,mT (H.length+2) q.2)]) (fun q=>nQ (H++[.cells 0 [.int .i64 kk,.str pp,.str to,.str dd,.int .i64 nn],.cells 0 [.sl b (l.map ndA)]]) q.2)
  (fun q=>q.1≤ps.length∧q.2.length≤q.1∧ps.foldl (fun ds p=>mL ds (dG l p)) []=(ps.drop q.1).foldl (fun ds p=>mL ds (dG l p)) q.2) (fun q=>ps.length-q.1) (0,[]) ⟨zAo _,zAo _,rfl⟩ ?_ rfl ?_
 ·simp[go_sem,mT]
 ·rintro⟨k,ds⟩ ⟨hk,hdl,he⟩;simp only at hk hdl he ⊢;by_cases hlt:k<ps.length
  ·have hpk:=aN AV.str hlt;have hli:decide ((k:Int)<(ps.length:Int))=true:=dT;have hw:IntKind.i64.wrap ((k:Int)+1)=((k+1:Nat):Int):=by rw[wI];omega
   rw[aFY hlt]at he;have hpath:=aBb ps[k] (hpm _ (zAK _));cases hns:bM ps[k]with
   |none=>
    rw[aFZ hns]at he;simp only[gY,hns]at hpath;rcases ds with _|⟨a,_|⟨a2,ds⟩⟩
    ·simp only[mT,nQ];repeat' first|(refine gS ?_;simp only[go_sem,hpk,hli])|refine gA ?_|(refine gD ?_ ?_<;>intro h<;>try exact aA h)|fail
     exact⟨(k+1,[]),⟨hlt,by simp only[zAc,zAv]at hdl ⊢;omega,he⟩,by simp only;omega,⟨zAx _ hw,rfl⟩,rfl⟩
    ·simp only[mT,nQ];repeat' first|(refine gS ?_;simp only[go_sem,hpk,hli])|refine gA ?_|(refine gD ?_ ?_<;>intro h<;>try exact aA h)|fail
     exact⟨(k+1,[a]),⟨hlt,by simp only[zAc,zAv]at hdl ⊢;omega,he⟩,by simp only;omega,⟨zAx _ hw,rfl⟩,rfl⟩
    ·simp only[zAc]at hdl;omega
   |some nl=>
    have hnl:=nJ hns;cases nl with
    |nil=>
     rw[aIM hns]at he;simp only[gY,hns]at hpath;rcases ds with _|⟨a,_|⟨a2,ds⟩⟩
     ·simp only[mT,nQ];repeat' first|(refine gS ?_;simp only[go_sem,hpk,hli])|refine gA ?_|(refine gD ?_ ?_<;>intro h<;>try exact aA h)|fail
      exact⟨(k+1,[]),⟨hlt,by simp only[zAc,zAv]at hdl ⊢;omega,he⟩,by simp only;omega,⟨zAx _ hw,rfl⟩,rfl⟩
     ·simp only[mT,nQ];repeat' first|(refine gS ?_;simp only[go_sem,hpk,hli])|refine gA ?_|(refine gD ?_ ?_<;>intro h<;>try exact aA h)|fail
      exact⟨(k+1,[a]),⟨hlt,by simp only[zAc,zAv]at hdl ⊢;omega,he⟩,by simp only;omega,⟨zAx _ hw,rfl⟩,rfl⟩
     ·simp only[zAc]at hdl;omega
    |cons x xs=>
     simp only[gY,hns]at hpath;rw[zAc]at hnl;have hw2:IntKind.i64.wrap (((xs.length+1:Nat):Int)-1)=(xs.length:Int):=by rw[wI];omega
     have hlz:decide (((xs.length+1:Nat):Int)=0)=false:=dF;have hb:((0:Int)≤(xs.length:Int)∧(xs.length:Int)≤((xs.length+1:Nat):Int))=True:=zAC (by omega)
     have hf:=fun b'=>vP b b' l (x::xs).dropLast hl
     obtain⟨⟨d,e⟩,hde⟩:∃r,findN l (x::xs).dropLast=r:=⟨_,rfl⟩;rw[aF0 hns hde]at he;rw[hde,aA6,zBV,zBG,zAw,zAc,Nat.add_sub_cancel]at hf;simp only at hf;have hdir:=aA0 d;by_cases he0:e=0
     ·subst he0;cases hdd:dirI d with
      |false=>
       rw[hdd]at he hdir;rw[zAe (by rintro⟨_,h⟩;cases h)]at he
       rcases ds with _|⟨a,_|⟨a2,ds⟩⟩
       ·simp only[mT,nQ];repeat' first|((first|refine gQ (hf _) ?_|refine gS ?_);simp only[go_sem,hpk,hli,hw2,hlz,hb,zAI,zAw,zA7])|refine gA ?_|(refine gD ?_ ?_<;>intro h<;>try exact aA h)|fail
        exact⟨(k+1,[]),⟨hlt,by simp only[zAc,zAv]at hdl ⊢;omega,he⟩,by simp only;omega,⟨zAx _ hw,rfl⟩,rfl⟩
       ·simp only[mT,nQ];repeat' first|((first|refine gQ (hf _) ?_|refine gS ?_);simp only[go_sem,hpk,hli,hw2,hlz,hb,zAI,zAw,zA7])|refine gA ?_|(refine gD ?_ ?_<;>intro h<;>try exact aA h)|fail
        exact⟨(k+1,[a]),⟨hlt,by simp only[zAc,zAv]at hdl ⊢;omega,he⟩,by simp only;omega,⟨zAx _ hw,rfl⟩,rfl⟩
       ·simp only[zAc]at hdl;omega
      |true=>
       rw[hdd]at he hdir;rw[zAl ⟨rfl,rfl⟩]at he;rcases ds with _|⟨a,_|⟨a2,ds⟩⟩
       ·simp only[mT,nQ];have hc:=vO true [] d;simp only[zAZ,List.any_nil]at hc;repeat' first|((first|refine gQ (hf _) ?_|refine gS ?_);simp only[go_sem,hpk,hli,hw2,hlz,hb,zAI,zAw,zA7])|refine gA ?_|(refine gD ?_ ?_<;>intro h<;>try exact aA h)|fail
        refine⟨⟨by simp only[true_or,and_self],by rintro e rfl;rfl⟩,?_⟩
        repeat' first|(refine gS ?_;simp only[go_sem])|refine gA ?_|(refine gD ?_ ?_<;>intro h<;>try exact aA h)|fail
        exact⟨(k+1,[d]),⟨hlt,by simp only[zAc,zAv]at hdl ⊢;omega,he⟩,by simp only;omega,⟨zAx _ hw,rfl⟩,rfl⟩
       ·simp only[mT,nQ];have hc:=aLw (H++[.cells 0 [.int .i64 kk,.str pp,.str to,.str dd,.int .i64 nn],.cells 0 [.sl b (l.map ndA)],.cells 1 [bK a]]) (i:=H.length+2) (v:=1) (lc:=1) (a:=a) (d:=d) (cs:=[]) (by simp only[go_sem]) (by omega)
        by_cases had:a=d
        ·rw[zAj had]at hc;rw[show mL [a] (some d)=[a]from by rw[had];simp[mL]]at he
         repeat' first|((first|refine gQ (hf _) ?_|refine aZ (hc) (cO) ?_|refine bA (hc) (cO) ?_|refine bB (fun _=>hc) (cO) ?_|refine gS ?_);simp only[go_sem,hpk,hli,hw2,hlz,hb,zAI,zAw,zA7])|refine gA ?_|(refine gD ?_ ?_<;>intro h<;>try exact aA h)|fail
         exact⟨(k+1,[a]),⟨hlt,by simp only[zAc,zAv]at hdl ⊢;omega,he⟩,by simp only;omega,⟨zAx _ hw,rfl⟩,rfl⟩
        ·rw[zAg had]at hc;rw[show mL [a] (some d)=[a,d]from by simp[mL,zBs had]]at he
         repeat' first|((first|refine gQ (hf _) ?_|refine aZ (hc) (cO) ?_|refine bA (hc) (cO) ?_|refine bB (fun _=>hc) (cO) ?_|refine gS ?_);simp only[go_sem,hpk,hli,hw2,hlz,hb,zAI,zAw,zA7])|refine gA ?_|(refine gD ?_ ?_<;>intro h<;>try exact aA h)|fail
         refine⟨by rintro e rfl;rfl,?_⟩
         repeat' first|(refine gS ?_;simp only[go_sem])|refine gA ?_|(refine gD ?_ ?_<;>intro h<;>try exact aA h)|fail
         exact⟨(k+1,[a,d]),⟨hlt,by simp only[zAc,zAv]at hdl ⊢;omega,he⟩,by simp only;omega,⟨zAx _ hw,rfl⟩,rfl⟩
       ·simp only[zAc]at hdl;omega
     ·rw[zAe (fun h=>he0 h.1)]at he
      have hez:decide (e=0)=false:=zAg he0;rcases ds with _|⟨a,_|⟨a2,ds⟩⟩
      ·simp only[mT,nQ];repeat' first|((first|refine gQ (hf _) ?_|refine gS ?_);simp only[go_sem,hpk,hli,hw2,hlz,hb,zAI,zAw,hez])|refine gA ?_|(refine gD ?_ ?_<;>intro h<;>try exact aA h)|fail
       exact⟨(k+1,[]),⟨hlt,by simp only[zAc,zAv]at hdl ⊢;omega,he⟩,by simp only;omega,⟨zAx _ hw,rfl⟩,rfl⟩
      ·simp only[mT,nQ];repeat' first|((first|refine gQ (hf _) ?_|refine gS ?_);simp only[go_sem,hpk,hli,hw2,hlz,hb,zAI,zAw,hez])|refine gA ?_|(refine gD ?_ ?_<;>intro h<;>try exact aA h)|fail
       exact⟨(k+1,[a]),⟨hlt,by simp only[zAc,zAv]at hdl ⊢;omega,he⟩,by simp only;omega,⟨zAx _ hw,rfl⟩,rfl⟩
      ·simp only[zAc]at hdl;omega
  ·have hke:k=ps.length:=by omega
   subst hke;rw[zBp]at he;simp only[zCt]at he;have hli:decide ((ps.length:Int)<(ps.length:Int))=false:=by simp
   rw[he];rcases ds with _|⟨a,_|⟨a2,_|⟨a3,ds⟩⟩⟩
   ·simp only[mT,nQ];have hcc:=fun f f1=>wJ f f1 true [1] [] (by simp) (by simp) (by simp)
    simp only[zAw,zAZ,zAd,bK]at hcc;repeat' first|((first|refine gQ (hcc _ _) ?_|refine gS ?_);simp only[go_sem,hli])|refine gA ?_|(refine gD ?_ ?_<;>intro h<;>try exact aA h)|fail
    exact dY (.of rfl)
   ·simp only[mT,nQ];have hcc:=fun f f1=>wJ f f1 false [1] [a] (by simp) (by simp) (by simp)
    simp only[zAw,zAZ,zA0,zAW,bK]at hcc;refine oM [5] [bK a] (v:=1) (lc:=1) (i:=H.length+2) (s:=1) (cs:=[bK a]) (by intro t ht;simp only[zAq]at ht;subst ht;rfl) (by simp only[go_sem]) (by decide) rfl (by simp[bK,AV.cells]) ?_
    repeat' first|((first|refine gQ (hcc _ _) ?_|refine gS ?_);simp only[go_sem,hli,bK])|refine gA ?_|(refine gD ?_ ?_<;>intro h<;>try exact aA h)|fail
    exact dY (.of rfl)
   ·simp only[mT,nQ];have hab:=fun H' hh=>aQE b l a a2 hl H' (H.length+1) hh
    have hba:=fun H' hh=>aQE b l a2 a hl H' (H.length+1) hh
    by_cases hsw:(!fX l a a2&&(fX l a2 a||decide (a2<a)))=true
    ·rw[show gZ l [a,a2]=[a2,a]from by rw[gZ,zAl hsw]]
     have hcc:=fun f f1=>wJ f f1 false [1] [a2,a] (by simp) (by simp) (by simp)
     simp only[zAw,zAZ,zA0,zAW,bK]at hcc;repeat' first|(refine gS ?_;simp only[go_sem,hli])|refine gA ?_|fail
     refine eJ rfl (fun h=>by cases h) (fun _=>?_)
     repeat' first|(refine gS ?_;simp only[go_sem])|refine gA ?_|fail
     refine eJ rfl (fun _=>?_) (fun h=>absurd h (by decide))
     cases hx:fX l a a2 with
     |true=>rw[hx]at hsw;cases hsw
     |false=>
      rw[hx]at hab;cases hy:fX l a2 a with
      |true=>
       rw[hy]at hba;repeat' first|((first|refine bU (hab _ (by simp only[go_sem,bK])) (cO) ?_|refine bV (fun _=>hab _ (by simp only[go_sem,bK])) (cO) ?_|refine bW (fun _=>hab _ (by simp only[go_sem,bK])) (cO) ?_|refine bU (hba _ (by simp only[go_sem,bK])) (cO) ?_|refine bV (fun _=>hba _ (by simp only[go_sem,bK])) (cO) ?_|refine bW (fun _=>hba _ (by simp only[go_sem,bK])) (cO) ?_|refine gS ?_);simp only[go_sem,bK])|refine gA ?_|fail
       refine eJ rfl (fun _=>?_) (fun h=>by cases h)
       refine dR rfl ?_;simp only[go_sem];refine⟨by decide,by decide,?_⟩
       refine oM [5] [bK a2,bK a] (v:=2) (lc:=2) (i:=H.length+2) (s:=1) (cs:=[bK a2,bK a]) (by intro t ht;simp only[zAq]at ht;subst ht;rfl) (by simp only[go_sem,bK]) (by decide) rfl (by simp[bK,AV.cells]) ?_
       simp only[bK];repeat' first|((first|refine gQ (hcc _ _) ?_|refine gS ?_);simp only[go_sem])|refine gA ?_|(refine gD ?_ ?_<;>intro h<;>try exact aA h)|fail
       exact dY (.of rfl)
      |false=>
       rw[hy,hx]at hsw;rw[hy]at hba;have hlt2:decide (a2<a)=true:=by simpa using hsw
       repeat' first|((first|refine bU (hab _ (by simp only[go_sem,bK,hlt2])) (cO) ?_|refine bV (fun _=>hab _ (by simp only[go_sem,bK,hlt2])) (cO) ?_|refine bW (fun _=>hab _ (by simp only[go_sem,bK,hlt2])) (cO) ?_|refine bU (hba _ (by simp only[go_sem,bK,hlt2])) (cO) ?_|refine bV (fun _=>hba _ (by simp only[go_sem,bK,hlt2])) (cO) ?_|refine bW (fun _=>hba _ (by simp only[go_sem,bK,hlt2])) (cO) ?_|refine gS ?_);simp only[go_sem,bK,hlt2])|refine gA ?_|fail
       refine eJ rfl (fun _=>?_) (fun h=>by cases h)
       refine dR rfl ?_;simp only[go_sem];refine⟨by decide,by decide,?_⟩
       refine oM [5] [bK a2,bK a] (v:=2) (lc:=2) (i:=H.length+2) (s:=1) (cs:=[bK a2,bK a]) (by intro t ht;simp only[zAq]at ht;subst ht;rfl) (by simp only[go_sem,bK]) (by decide) rfl (by simp[bK,AV.cells]) ?_
       simp only[bK];repeat' first|((first|refine gQ (hcc _ _) ?_|refine gS ?_);simp only[go_sem])|refine gA ?_|(refine gD ?_ ?_<;>intro h<;>try exact aA h)|fail
       exact dY (.of rfl)
    ·rw[show gZ l [a,a2]=[a,a2]from by rw[gZ,zAe hsw]]
     have hcc:=fun f f1=>wJ f f1 false [1] [a,a2] (by simp) (by simp) (by simp)
     simp only[zAw,zAZ,zA0,zAW,bK]at hcc;refine oM [5] [bK a,bK a2] (v:=2) (lc:=2) (i:=H.length+2) (s:=1) (cs:=[bK a,bK a2]) (by intro t ht;simp only[zAq]at ht;subst ht;rfl) (by simp only[go_sem]) (by decide) rfl (by simp[bK,AV.cells]) ?_
     cases hx:fX l a a2 with
     |true=>
      rw[hx]at hab;repeat' first|((first|refine gQ (hcc _ _) ?_|refine bU (hab _ (by simp only[go_sem,hli,bK])) (cO) ?_|refine bV (fun _=>hab _ (by simp only[go_sem,hli,bK])) (cO) ?_|refine bW (fun _=>hab _ (by simp only[go_sem,hli,bK])) (cO) ?_|refine gS ?_);simp only[go_sem,hli,bK])|refine gA ?_|(refine gD ?_ ?_<;>intro h<;>try exact aA h)|fail
      exact dY (.of rfl)
     |false=>
      rw[hx]at hab hsw;cases hy:fX l a2 a with
      |true=>rw[hy]at hsw;exact absurd rfl hsw
      |false=>
       rw[hy]at hba hsw;have hlt2:decide (a2<a)=false:=by simpa using hsw
       repeat' first|((first|refine gQ (hcc _ _) ?_|refine bU (hab _ (by simp only[go_sem,hli,bK,hlt2])) (cO) ?_|refine bV (fun _=>hab _ (by simp only[go_sem,hli,bK,hlt2])) (cO) ?_|refine bW (fun _=>hab _ (by simp only[go_sem,hli,bK,hlt2])) (cO) ?_|refine bU (hba _ (by simp only[go_sem,hli,bK,hlt2])) (cO) ?_|refine bV (fun _=>hba _ (by simp only[go_sem,hli,bK,hlt2])) (cO) ?_|refine bW (fun _=>hba _ (by simp only[go_sem,hli,bK,hlt2])) (cO) ?_|refine gS ?_);simp only[go_sem,hli,bK,hlt2])|refine gA ?_|(refine gD ?_ ?_<;>intro h<;>try exact aA h)|fail
       exact dY (.of rfl)
   ·simp only[zAc]at hdl;omega
end
section
def bZ:List Pl:=[.free,.free,.free,.free,.free,.free,.free,.free,.pure 0,.pure 0,.free,.free,.pure 0,.pure 0,.pure 0,.eff [false,false,true,false,false],.pure 0,.eff [false,false]]
attribute [go_sem] bZ
section
variable {lt:gJ→gJ→Bool} {c:gJ→gJ→Int} {fn:Fn} {fs cs:List AV}
theorem aOQ(hc:∀x y,decide (c x y<0)=lt x y)(hf:vX Tryz.prog (.func fn fs cs) c){d:Array gJ}{a b n lc blk v:Nat}(hn:n=d.size)(hl:n≤1073741824)(hb:b≤n)(hab:a<b)(H:AHeap)(hh:hget H blk=.cells v (dC d)):
  ACalls Tryz.prog 236 [.osl 1 blk v 0 n lc,.int .i64 a,.int .i64 b,.func fn fs cs] H (fun r H'=>r=.bool (Sort.partialInsertionSort lt d a b).2∧H'=aB H blk (.cells v (dC (Sort.partialInsertionSort lt d a b).1))):=by
 refine aO Tryz.func236 ?_;have hg:=fun b=>jY hh trivial b
 have hs:=gX H blk;have hw1:IntKind.i64.wrap ((a:Int)+1)=((a+1:Nat):Int):=aJ (by omega) (by omega)
 unfold Sort.partialInsertionSort;repeat' first|(refine gS ?_;simp only[go_sem,hw1])|refine gA ?_|(refine gD ?_ ?_<;>intro h<;>try exact aA h)|fail
 refine aI (ι:=Nat×Nat×Array gJ) (fun s=>[(0,.osl 1 blk v 0 n lc),(1,.int .i64 a),(2,.int .i64 b),(3,.func fn fs cs),(8,.bool false),(9,.int .i64 s.2.1),(10,.int .i64 ((5-s.1:Nat):Int))]) (fun s=>aB H blk (.cells v (dC s.2.2)))
  (fun s=>Sort.partialIns lt a b s.1 s.2.1 s.2.2=Sort.partialIns lt a b 5 (a+1) d∧s.2.2.size=n∧a<s.2.1∧s.2.1≤b∧s.1≤5) (fun s=>s.1) (5,a+1,d) ⟨rfl,hn.symm,by simp only;omega,by simp only;omega,zAf _⟩ ?_ (nI hh trivial).symm ?_
 ·simp[go_sem]
 rintro⟨s,i0,E⟩ ⟨w1,h2,h3,h4,h5⟩;simp only at w1 h2 h3 h4 h5 ⊢;cases s with
 |zero=>
  have hli:decide (((5-0:Nat):Int)<5)=false:=rfl;rw[Sort.partialIns]at w1;rw[←w1];repeat' first|((first|refine mx [11,17,23] bZ ?_|refine gS ?_);simp only[go_sem,hli])|refine gA ?_|(refine gD ?_ ?_<;>intro h<;>try exact aA h)|fail
  exact iA (fR _ _ _) (.bool _) _ ⟨rfl,rfl⟩
 |succ s=>
 have hli:decide (((5-(s+1):Nat):Int)<5)=true:=dT;have hwj:IntKind.i64.wrap (((5-(s+1):Nat):Int)+1)=((5-s:Nat):Int):=aJ (by omega) (by omega)
 rw[Sort.partialIns]at w1;repeat' first|((first|refine mx [11,17,23] bZ ?_|refine gS ?_);simp only[go_sem,hli])|refine gA ?_|(refine gD ?_ ?_<;>intro h<;>try exact aA h)|fail
 refine gB (ι:=Nat) (fun k=>[(0,.osl 1 blk v 0 n lc),(1,.int .i64 a),(2,.int .i64 b),(3,.func fn fs cs),(8,.bool false),(9,.int .i64 k),(10,.int .i64 ((5-(s+1):Nat):Int))]) (fun _=>aB H blk (.cells v (dC E))) (fun k=>k=Sort.scanSorted lt E b i0∧a<k∧k≤b) ?_ ?_
 ·refine aI (ι:=Nat) (fun k=>[(0,.osl 1 blk v 0 n lc),(1,.int .i64 a),(2,.int .i64 b),(3,.func fn fs cs),(8,.bool false),(9,.int .i64 k),(10,.int .i64 ((5-(s+1):Nat):Int))]) (fun _=>aB H blk (.cells v (dC E))) (fun k=>Sort.scanSorted lt E b k=Sort.scanSorted lt E b i0∧a<k∧k≤b) (fun k=>b-k) i0 ⟨rfl,h3,h4⟩ ?_ rfl ?_
  ·simp[go_sem]
  rintro k ⟨k1,k2,k3⟩;rw[Sort.scanSorted]at k1;by_cases hk:k<b
  ·have hlk:decide ((k:Int)<(b:Int))=true:=dT;have hw2:IntKind.i64.wrap ((k:Int)-1)=((k-1:Nat):Int):=aJ (by omega) (by omega)
   have hw3:IntKind.i64.wrap ((k:Int)+1)=((k+1:Nat):Int):=aJ (by omega) (by omega)
   have gi:=bI (d:=E) (show k<E.size by omega)
   have gj:=bI (d:=E) (show(k-1)<E.size by omega)
   have hsw:=fH (d:=E) (show k<E.size by omega) (show(k-1)<E.size by omega)
   repeat' first|((first|refine mx [11,17,23] bZ ?_|refine gS ?_);simp only[go_sem,hlk,hg,hs,gi,gj,hw2,zAB,bR,h2])|refine gA ?_|(refine gD ?_ ?_<;>intro h<;>try exact aA h)|fail
   refine cG hf ?_;simp only[go_sem,hc];cases hxy:lt E[k]! E[k-1]! with
   |false=>
    simp only[zAj hk,zAN,hxy,zBx,zBc]at k1;repeat' first|((first|refine mx [11,17,23] bZ ?_|refine gS ?_);simp only[go_sem,hxy,hw3])|refine gA ?_|(refine gD ?_ ?_<;>intro h<;>try exact aA h)|fail
    exact⟨k+1,⟨k1,by omega,by omega⟩,by omega,rfl⟩
   |true=>
    simp only[zAj hk,zAN,hxy,zBQ,zAz,zA3]at k1;repeat' first|((first|refine mx [11,17,23] bZ ?_|refine gS ?_);simp only[go_sem,hxy])|refine gA ?_|(refine gD ?_ ?_<;>intro h<;>try exact aA h)|fail
    exact⟨k,⟨k1,k2,k3⟩,rfl⟩
  ·have hlk:decide ((k:Int)<(b:Int))=false:=dF;simp only[zAg hk,zB5,zAz,zA3]at k1;repeat' first|((first|refine mx [11,17,23] bZ ?_|refine gS ?_);simp only[go_sem,hlk])|refine gA ?_|(refine gD ?_ ?_<;>intro h<;>try exact aA h)|fail
   exact⟨k,⟨k1,k2,k3⟩,rfl⟩
 clear h3 h4;rintro i ⟨hi,h3,h4⟩;simp only[←hi]at w1;clear hi;by_cases c0:i=b
 ·subst c0;rw[zAl rfl]at w1;have hli0:decide ((i:Int)=(i:Int))=true:=zAj rfl;repeat' first|((first|refine mx [11,17,23] bZ ?_|refine gS ?_);simp only[go_sem,hli0])|refine gA ?_|(refine gD ?_ ?_<;>intro h<;>try exact aA h)|fail
  rw[←w1];exact iA (fR _ _ _) (.bool _) _ ⟨rfl,rfl⟩
 have hli0:decide ((i:Int)=(b:Int))=false:=dF;rw[zAe c0]at w1;have hw2:IntKind.i64.wrap ((b:Int)-(a:Int))=((b-a:Nat):Int):=aJ (by omega) (by omega)
 have hwi:IntKind.i64.wrap ((i:Int)-(a:Int))=((i-a:Nat):Int):=aJ (by omega) (by omega)
 have hwi1:IntKind.i64.wrap ((i:Int)-1)=((i-1:Nat):Int):=aJ (by omega) (by omega)
 have hw3:IntKind.i64.wrap ((b:Int)-(i:Int))=((b-i:Nat):Int):=aJ (by omega) (by omega)
 have hw4:IntKind.i64.wrap ((i:Int)+1)=((i+1:Nat):Int):=aJ (by omega) (by omega)
 by_cases c1:b-a<50
 ·rw[zAl c1]at w1;have hli1:decide (((b-a:Nat):Int)<50)=true:=dT;repeat' first|((first|refine mx [11,17,23] bZ ?_|refine gS ?_);simp only[go_sem,hli0,hw2,hli1])|refine gA ?_|(refine gD ?_ ?_<;>intro h<;>try exact aA h)|fail
  rw[←w1];exact iA (fR _ _ _) (.bool _) _ ⟨rfl,rfl⟩
 have hli1:decide (((b-a:Nat):Int)<50)=false:=dF;rw[zAe c1]at w1;have gi:=bI (d:=E) (show i<E.size by omega)
 have gj:=bI (d:=E) (show(i-1)<E.size by omega)
 have hsw:=fH (d:=E) (show i<E.size by omega) (show(i-1)<E.size by omega)
 have sl:=kA E h2 (show i<n by omega)
 have hE1:(Sort.swp E i (i-1)).size=n:=by rw[cT];exact h2
 by_cases c3:i-a≥2
 ·have hli3:decide (2≤((i-a:Nat):Int))=true:=dT;simp only[zAl c3]at w1;repeat' first|((first|refine mx [11,17,23] bZ ?_|refine gS ?_);simp only[go_sem,hli0,hw2,hli1,hg,hs,gi,gj,hsw,sl,hwi,hwi1,hli3,zAB,bR,h2])|refine gA ?_|(refine gD ?_ ?_<;>intro h<;>try exact aA h)|fail
  generalize Sort.swp E i (i-1)=E1 at *;refine gB (ι:=Array gJ) (fun _=>[(0,.osl 1 blk v 0 n lc),(1,.int .i64 a),(2,.int .i64 b),(3,.func fn fs cs),(8,.bool false),(9,.int .i64 i),(10,.int .i64 ((5-(s+1):Nat):Int))]) (fun X=>aB H blk (.cells v (dC X))) (fun X=>X=Sort.shiftDown lt (i-1) E1∧X.size=n) ?_ ?_
  ·refine aI (ι:=Nat×Array gJ) (fun z=>[(0,.osl 1 blk v 0 n lc),(1,.int .i64 a),(2,.int .i64 b),(3,.func fn fs cs),(8,.bool false),(9,.int .i64 i),(10,.int .i64 ((5-(s+1):Nat):Int)),(11,.int .i64 z.1)]) (fun z=>aB H blk (.cells v (dC z.2))) (fun z=>Sort.shiftDown lt z.1 z.2=Sort.shiftDown lt (i-1) E1∧z.2.size=n∧z.1<n) (fun z=>z.1) (i-1,E1) ⟨rfl,hE1,by simp only;omega⟩ ?_ rfl ?_
   ·simp[go_sem]
   rintro⟨j,X⟩ ⟨k1,k2,k3⟩;simp only at k1 k2 k3 ⊢;cases j with
   |zero=>
    have hlj:decide (1≤((0:Nat):Int))=false:=rfl;have hlj':decide ((1:Int)≤0)=false:=rfl;rw[Sort.shiftDown]at k1;repeat' first|((first|refine mx [11,17,23] bZ ?_|refine gS ?_);simp only[go_sem,hlj,hlj'])|refine gA ?_|(refine gD ?_ ?_<;>intro h<;>try exact aA h)|fail
    exact⟨X,⟨k1,k2⟩,rfl⟩
   |succ j=>
    have hlj:decide (1≤((j+1:Nat):Int))=true:=dT;have hw5:IntKind.i64.wrap (((j+1:Nat):Int)-1)=((j:Nat):Int):=aJ (by omega) (by omega)
    have gi8:=bI (d:=X) (show(j+1)<X.size by omega)
    have gj8:=bI (d:=X) (show j<X.size by omega)
    have hsw8:=fH (d:=X) (show(j+1)<X.size by omega) (show j<X.size by omega)
    have sl8:=kA X k2 (show j+1<n by omega)
    rw[Sort.shiftDown]at k1;repeat' first|((first|refine mx [11,17,23] bZ ?_|refine gS ?_);simp only[go_sem,hlj,hg,hs,gi8,gj8,hw5,zAB,bR,k2])|refine gA ?_|(refine gD ?_ ?_<;>intro h<;>try exact aA h)|fail
    refine cG hf ?_;simp only[go_sem,hc];cases hxy:lt X[j+1]! X[j]! with
    |true=>
     rw[hxy,zAe (by simp)]at k1
     repeat' first|((first|refine mx [11,17,23] bZ ?_|refine gS ?_);simp only[go_sem,hxy,hg,hs,gi8,gj8,hsw8,sl8,hw5,zAB,bR,k2])|refine gA ?_|(refine gD ?_ ?_<;>intro h<;>try exact aA h)|fail
     exact⟨(j,Sort.swp X (j+1) j),⟨k1,by simp only[cT];exact k2,by simp only;omega⟩,zA8 _,rfl,rfl⟩
    |false=>
     simp only[hxy,zBx,zBc]at k1;repeat' first|((first|refine mx [11,17,23] bZ ?_|refine gS ?_);simp only[go_sem,hxy])|refine gA ?_|(refine gD ?_ ?_<;>intro h<;>try exact aA h)|fail
     exact⟨X,⟨k1,k2⟩,rfl⟩
  rintro E2 ⟨e2,hE2⟩;rw[←e2]at w1;by_cases c2:b-i≥2
  ·rw[zAl c2]at w1;have hli2:decide (2≤((b-i:Nat):Int))=true:=dT;repeat' first|((first|refine mx [11,17,23] bZ ?_|refine gS ?_);simp only[go_sem,hw3,hli2,hw4])|refine gA ?_|(refine gD ?_ ?_<;>intro h<;>try exact aA h)|fail
   refine aI (ι:=Nat×Array gJ) (fun z=>[(0,.osl 1 blk v 0 n lc),(1,.int .i64 a),(2,.int .i64 b),(3,.func fn fs cs),(8,.bool false),(9,.int .i64 i),(10,.int .i64 ((5-(s+1):Nat):Int)),(12,.int .i64 z.1)]) (fun z=>aB H blk (.cells v (dC z.2)))
    (fun z=>Sort.shiftUp lt b z.1 z.2=Sort.shiftUp lt b (i+1) E2∧z.2.size=n∧i<z.1) (fun z=>b-z.1) (i+1,E2) ⟨rfl,hE2,zA8 _⟩ ?_ rfl ?_
   ·simp[go_sem]
   rintro⟨j,X⟩ ⟨k1,k2,k3⟩;simp only at k1 k2 k3 ⊢;rw[Sort.shiftUp]at k1;by_cases hj:j<b
   ·rw[zAl hj]at k1;have hli3:decide ((j:Int)<(b:Int))=true:=dT;have hw5:IntKind.i64.wrap ((j:Int)-1)=((j-1:Nat):Int):=aJ (by omega) (by omega)
    have hw6:IntKind.i64.wrap ((j:Int)+1)=((j+1:Nat):Int):=aJ (by omega) (by omega)
    have gi8:=bI (d:=X) (show j<X.size by omega)
    have gj8:=bI (d:=X) (show(j-1)<X.size by omega)
    have hsw8:=fH (d:=X) (show j<X.size by omega) (show(j-1)<X.size by omega)
    have sl8:=kA X k2 (show j<n by omega)
    repeat' first|((first|refine mx [11,17,23] bZ ?_|refine gS ?_);simp only[go_sem,hli3,hg,hs,gi8,gj8,hw5,zAB,bR,k2])|refine gA ?_|(refine gD ?_ ?_<;>intro h<;>try exact aA h)|fail
    refine cG hf ?_;simp only[go_sem,hc];cases hxy:lt X[j]! X[j-1]! with
    |true=>
     rw[hxy,zAe (by simp)]at k1
     repeat' first|((first|refine mx [11,17,23] bZ ?_|refine gS ?_);simp only[go_sem,hxy,hg,hs,gi8,gj8,hsw8,sl8,hw5,hw6,zAB,bR,k2])|refine gA ?_|(refine gD ?_ ?_<;>intro h<;>try exact aA h)|fail
     exact⟨(j+1,Sort.swp X j (j-1)),⟨k1,by simp only[cT];exact k2,by simp only;omega⟩,by simp only;omega,rfl,rfl⟩
    |false=>
     simp only[hxy,zBx,zBc]at k1;rw[←k1]at w1;repeat' first|((first|refine mx [11,17,23] bZ ?_|refine gS ?_);simp only[go_sem,hxy,hwj])|refine gA ?_|(refine gD ?_ ?_<;>intro h<;>try exact aA h)|fail
     exact⟨(s,i,X),⟨w1,k2,h3,h4,by simp only;omega⟩,zA8 _,⟨rfl,rfl⟩,rfl⟩
   ·rw[zAe hj]at k1;rw[←k1]at w1;have hli3:decide ((j:Int)<(b:Int))=false:=dF;repeat' first|((first|refine mx [11,17,23] bZ ?_|refine gS ?_);simp only[go_sem,hli3,hwj])|refine gA ?_|(refine gD ?_ ?_<;>intro h<;>try exact aA h)|fail
    exact⟨(s,i,X),⟨w1,k2,h3,h4,by simp only;omega⟩,zA8 _,⟨rfl,rfl⟩,rfl⟩
  ·rw[zAe c2]at w1;have hli2:decide (2≤((b-i:Nat):Int))=false:=dF;have k2:=hE2;repeat' first|((first|refine mx [11,17,23] bZ ?_|refine gS ?_);simp only[go_sem,hw3,hli2,hwj])|refine gA ?_|(refine gD ?_ ?_<;>intro h<;>try exact aA h)|fail
   exact⟨(s,i,E2),⟨w1,k2,h3,h4,by simp only;omega⟩,zA8 _,⟨rfl,rfl⟩,rfl⟩
 ·have hli3:decide (2≤((i-a:Nat):Int))=false:=dF;simp only[zAe c3]at w1;by_cases c2:b-i≥2
  ·rw[zAl c2]at w1;have hli2:decide (2≤((b-i:Nat):Int))=true:=dT;repeat' first|((first|refine mx [11,17,23] bZ ?_|refine gS ?_);simp only[go_sem,hli0,hw2,hli1,hg,hs,gi,gj,hsw,sl,hwi,hwi1,hli3,zAB,bR,h2,hw3,hli2,hw4])|refine gA ?_|(refine gD ?_ ?_<;>intro h<;>try exact aA h)|fail
   refine aI (ι:=Nat×Array gJ) (fun z=>[(0,.osl 1 blk v 0 n lc),(1,.int .i64 a),(2,.int .i64 b),(3,.func fn fs cs),(8,.bool false),(9,.int .i64 i),(10,.int .i64 ((5-(s+1):Nat):Int)),(12,.int .i64 z.1)]) (fun z=>aB H blk (.cells v (dC z.2)))
    (fun z=>Sort.shiftUp lt b z.1 z.2=Sort.shiftUp lt b (i+1) (Sort.swp E i (i-1))∧z.2.size=n∧i<z.1) (fun z=>b-z.1) (i+1,(Sort.swp E i (i-1))) ⟨rfl,hE1,zA8 _⟩ ?_ rfl ?_
   ·simp[go_sem]
   rintro⟨j,X⟩ ⟨k1,k2,k3⟩;simp only at k1 k2 k3 ⊢;rw[Sort.shiftUp]at k1;by_cases hj:j<b
   ·rw[zAl hj]at k1;have hli3:decide ((j:Int)<(b:Int))=true:=dT;have hw5:IntKind.i64.wrap ((j:Int)-1)=((j-1:Nat):Int):=aJ (by omega) (by omega)
    have hw6:IntKind.i64.wrap ((j:Int)+1)=((j+1:Nat):Int):=aJ (by omega) (by omega)
    have gi8:=bI (d:=X) (show j<X.size by omega)
    have gj8:=bI (d:=X) (show(j-1)<X.size by omega)
    have hsw8:=fH (d:=X) (show j<X.size by omega) (show(j-1)<X.size by omega)
    have sl8:=kA X k2 (show j<n by omega)
    repeat' first|((first|refine mx [11,17,23] bZ ?_|refine gS ?_);simp only[go_sem,hli3,hg,hs,gi8,gj8,hw5,zAB,bR,k2])|refine gA ?_|(refine gD ?_ ?_<;>intro h<;>try exact aA h)|fail
    refine cG hf ?_;simp only[go_sem,hc];cases hxy:lt X[j]! X[j-1]! with
    |true=>
     rw[hxy,zAe (by simp)]at k1
     repeat' first|((first|refine mx [11,17,23] bZ ?_|refine gS ?_);simp only[go_sem,hxy,hg,hs,gi8,gj8,hsw8,sl8,hw5,hw6,zAB,bR,k2])|refine gA ?_|(refine gD ?_ ?_<;>intro h<;>try exact aA h)|fail
     exact⟨(j+1,Sort.swp X j (j-1)),⟨k1,by simp only[cT];exact k2,by simp only;omega⟩,by simp only;omega,rfl,rfl⟩
    |false=>
     simp only[hxy,zBx,zBc]at k1;rw[←k1]at w1;repeat' first|((first|refine mx [11,17,23] bZ ?_|refine gS ?_);simp only[go_sem,hxy,hwj])|refine gA ?_|(refine gD ?_ ?_<;>intro h<;>try exact aA h)|fail
     exact⟨(s,i,X),⟨w1,k2,h3,h4,by simp only;omega⟩,zA8 _,⟨rfl,rfl⟩,rfl⟩
   ·rw[zAe hj]at k1;rw[←k1]at w1;have hli3:decide ((j:Int)<(b:Int))=false:=dF;repeat' first|((first|refine mx [11,17,23] bZ ?_|refine gS ?_);simp only[go_sem,hli3,hwj])|refine gA ?_|(refine gD ?_ ?_<;>intro h<;>try exact aA h)|fail
    exact⟨(s,i,X),⟨w1,k2,h3,h4,by simp only;omega⟩,zA8 _,⟨rfl,rfl⟩,rfl⟩
  ·exfalso;omega
end
end
end Go.Proofs.YtennnelammaapaaGreatDoor
