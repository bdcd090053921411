/- What the functions of this seat answer (27 of 53). No condition. -/
import Derived.Test.YtnmamncmpklliaaGreatDoorWorkAX
import Derived.Test.YtnmamncmpklliaaGreatDoorWorkAZ
set_option linter.unusedSimpArgs false
set_option linter.unusedVariables false
set_option maxRecDepth 100000
set_option maxHeartbeats 16000000
namespace Go.Proofs.YtnmamncmpklliaaGreatDoor
open Go.Proofs.Tryz
theorem aDN(n:Int)(p:ag)(l:List ag)(h:(gG n p).2=0):oe n (p::l)=((gG n p).1++(oe (n+1) l).1,(oe (n+1) l).2):=by
 rw[oe,aA h]
theorem aEc(n:Int)(p:ag)(l:List ag)(h:(gG n p).2≠0):oe n (p::l)=([],(gG n p).2):=by
 rw[oe,aj h]
def UJ:List cu:=[.free,.pure 0,.pure 0,.pure 0,.free,.pure 0,.pure 0,.pure 0,.pure 0,.eff [true,true,true,true,true,true,true],.eff [false,true,true,true,false,true,true],.free]
attribute [go_sem] UJ
theorem aGN(f g:Bool)(w:bO)(hw:GF w)(H:ab):
  aM prog 121 [dN f g w] H (.aQ [dN false false (oq w).1,.int .i64 (oq w).2]):=by
 refine aZ func121 ?_;unfold oq;by_cases h1:w.marked=0
 ·have d1:decide (w.marked=0)=true:=cD h1;rw[aj (by simpa using h1)]
  simp only[dN];iterate 8 first|(refine ae ?_;simp only[go_sem,d1])|refine ao ?_|fail
  refine YP (Y:=uS) n2 rfl ?_
  simp only[go_sem];repeat' first|(refine ae ?_;simp only[go_sem])|refine ao ?_|fail
  obtain⟨A,V⟩:∃A:List I,A=(dN f g w).cells:=⟨_,rfl⟩;obtain⟨B,z⟩:∃B:List I,B=(dN true true sQ).cells:=⟨_,rfl⟩;have aOe:∀m T S,T.length+S.length<=140737488355328->dp prog 134 [.ref (H.length+2) 0 0,.str S] (H++(.cells 0 A::.cells 0 B::k8 (H.length+2) m T)) (λv H'=>v=.aQ [.int .i64 S.length,.nilIface]/\H'=H++(.cells 0 A::.cells 0 B::k8 (H.length+2) (m+1) (T++S))):=λm T S h=>by
   have:=Wh (H++[.cells 0 A,.cells 0 B]) [] m T S h;simpa only[cA,dr,bF,cg,eg,iN,ju]using this
  obtain⟨Z,ny⟩:∃Z,oe (w.eo+1) w.waits=Z:=⟨_,rfl⟩;rw[ny];refine cE (ι:=Nat×ag) (λs=>[(1,.ref H.length 0 0),(2,.ref (H.length+1) 0 0),(4,.ref (H.length+2) 0 0),(17,.sl g<|w.waits.map I.str),(18,.int .i64 w.waits.length),(19,.int .i64 s.1)]) (λs=>H++(.cells 0 A::.cells 0 B::k8 (H.length+2) s.1 s.2))
   (λs=>s.1<=w.waits.length/\Z=(s.2++(oe (w.eo+1+s.1) (w.waits.drop s.1)).1,(oe (w.eo+1+s.1) (w.waits.drop s.1)).2)/\s.2.length<=s.1 * 1000000/\(s.1≠0->s.2≠[])) (λs=>w.waits.length-s.1) (0,[]) ⟨bW _,by simp[<-ny],kk,kk⟩ ?_ (by rw[V,z];rfl) ?_
  ·simp[go_sem]
  rintro⟨m,T⟩ ⟨hm,J,hl,aN⟩;simp only at hm J hl aN ⊢;by_cases K:m<w.waits.length
  ·have ck:=di I.str K;have jZ:=ij K;obtain⟨p,ad⟩:∃p,p=w.waits[m]:=⟨_,rfl⟩;rw[<-ad]at ck jZ;rw[jZ]at J;have bg:decide ((m:Int)<(w.waits.length:Int))=true:=cK;have uq:=dA K (by have:=hw.wt;omega)
   have fH:IntKind.i64.wrap (w.eo+1)=w.eo+1:=by have:=hw.sp;exact bI
   have dI:IntKind.i64.wrap (w.eo+1+m)=w.eo+1+m:=by have:=hw.sp;have:=hw.wt;exact bI
   have hb:=Ks (w.eo+1+m) p<|hw.wl _ (by rw[ad];exact ga K)
   have ek:=N6 (w.eo+1+m) p;have qn:=U8 (w.eo+1+m) p;have jY:=aDN (w.eo+1+m) p<|w.waits.drop (m+1);have rZ:=aEc (w.eo+1+m) p<|w.waits.drop (m+1);obtain⟨q,aJ⟩:∃q,gG (w.eo+1+m) p=q:=⟨_,rfl⟩;rw[aJ]at hb ek qn jY rZ;obtain⟨S,e⟩:=q;simp only at hb ek qn jY rZ;obtain⟨G,aW⟩:∃G,H++(.cells 0 A::.cells 0 B::k8 (H.length+2) m T)=G:=⟨_,rfl⟩;have g1:ay G H.length=.cells 0 A:=by rw[<-aW];simp only[go_sem]
   have g3:ay G (H.length+1)=.cells 0 B:=by rw[<-aW];simp only[go_sem]
   have te:=aOe m T S (by have:=hw.wt;omega)
   rw[aW]at te ⊢;have w7:=g1;simp only[V,dN,I.cells]at w7;have ld:∀X,ar G (H.length+1) X=H++(.cells 0 A::X::k8 (H.length+2) m T):=λX=>by rw[<-aW];simp only[go_sem]
   have ZE:=g3;simp only[z,dN,I.cells]at ZE;by_cases h2:e=0
   ·subst h2;rw[jY rfl]at J;repeat' first|(refine ae ?_;simp only[go_sem,ck,bg,K,fH,dI,w7])|refine ao ?_|fail
    refine dU te aK ?_;rintro v H' ⟨rfl,rfl⟩;simp only[go_sem];repeat' first|(refine ae ?_;simp only[go_sem,uq])|refine ao ?_|fail
    refine⟨(m+1,T++S),⟨iV,?_,by simp only[bF];omega,λ_ h=>qn rfl (List.append_eq_nil_iff.1 h).2⟩,by simp only;omega,rfl,rfl⟩
    simp only[dr,Int.natCast_add,Int.natCast_one,<-Int.add_assoc];simpa only[dr,Int.add_assoc,Int.add_comm,Int.add_left_comm]using J
   ·have d2:decide (e=0)=false:=bN h2;rw[rZ h2]at J;repeat' first|(refine ae ?_;simp only[go_sem,ck,bg,K,fH,dI,w7,ZE,ld,d2])|refine ao ?_|fail
    subst J;simp only;rw[aA h2];exact aV<|pq f g w e
  ·have bg:decide ((m:Int)<(w.waits.length:Int))=false:=cQ;obtain rfl:m=w.waits.length:=iV
   simp only[oy,oe,cA]at J;subst J;have hlen:aM prog 176 [.ref (H.length+2) 0 0] (H++(.cells 0 A::.cells 0 B::k8 (H.length+2) w.waits.length T)) (.int .i64 T.length):=
    aMB (p:=vd (H.length+2) w.waits.length) (j:=H.length+3) (k:=w.waits.length+1) (e:=uS) (cs:=ch T) (by simp[k8]) (by simp[k8]) (by have:=hw.wt;omega)
   obtain⟨G,aW⟩:∃G,H++(.cells 0 A::.cells 0 B::k8 (H.length+2) w.waits.length T)=G:=⟨_,rfl⟩;have g1:ay G H.length=.cells 0 A:=by rw[<-aW];simp only[go_sem]
   have g3:ay G (H.length+1)=.cells 0 B:=by rw[<-aW];simp only[go_sem]
   have ld:∀X,ar G (H.length+1) X=H++(.cells 0 A::X::k8 (H.length+2) w.waits.length T):=λX=>by rw[<-aW];simp only[go_sem]
   rw[aW]at hlen ⊢;simp only[V,z,dN,I.cells]at g1 g3;have EO:IntKind.i64.wrap ((T.length:Int).tdiv 16)=((T.length / 16:Nat):Int):=by rw[zk iV,wrap_i64 (by have:=hw.wt;omega) (by have:=hw.wt;omega)];omega
   have hsz:=hw.bM.size;have q7:IntKind.i64.wrap (w.bw.size-w.end_)=w.bw.size-w.end_:=by have:=hw.uc;exact bI
   rw[aj kk]
   simp only;repeat' first|((first|refine jg hlen ?_|refine ae ?_);simp only[go_sem,bg,EO,q7,g1,g3,ld])|refine bt ?_|(refine bB ?_ ?_<;>intro h<;>try exact bA h)|fail
   ·rw[aA (by simpa using h)]
    exact aV<|pq f g w 120
   ·rename_i b4;have db:w.waits=[]:=iO<|by simpa using h
    rw[aj (by simpa using b4),aA db]
    exact aV<|pq f g w 0
   ·rename_i b4;have db:w.waits≠[]:=λe=>by rw[e]at h;simp at h
    have h0:=aN<|by intro e;exact db (iO e)
    have jF:T.length / 16<=65536:=by have:=hw.uc;simp at b4;omega
    rw[aj (by simpa using b4),aj db]
    refine dU (FR f g w _) aK ?_;rintro v H' ⟨rfl,rfl⟩;simp only[go_sem];repeat' first|(refine ae ?_;simp only[go_sem])|refine ao ?_|fail
    have Cf:G.length=H.length+4:=by rw[<-aW];simp[k8]
    have vJ:dD (G.length+1) f g w (G++[.cells 0 (NB f g w),.cells 0<|im f g w (G.length+2),.cells 0 [.ref (G.length+1) 0 0]]):=⟨nb,nb⟩
    refine dU (U6 vJ hw.bM) aK ?_;rintro v H' ⟨rfl,rfl⟩;rw[<-aW];unfold k8;simp only[go_sem,im,Cf,bF];have O:(eB w).end_=w.end_:=by unfold eB;split<;>rfl
    have mu:(eB w).next=w.next:=by unfold eB;split<;>rfl
    have yV:(eB w).bw.size=w.bw.size:=by unfold eB;split<;>rfl
    have ed:eY (eB w).bw:=by
     unfold eB;split
     ·exact DN hw.bM
     ·exact hw.bM
    obtain⟨U,fH⟩:∃U,eB w=U:=⟨_,rfl⟩;rw[fH]at O yV mu ed ⊢;obtain⟨n,af⟩:∃n:Nat,w.end_=n:=⟨w.end_.toNat,by have:=hw.uc;omega⟩
    have Mk:n<=65536:=by have:=hw.uc;omega
    rw[show w.end_.toNat=n by omega]
    repeat' first|((first|refine mx [19] UJ ?_|refine ae ?_);simp only[go_sem,O])|refine ao ?_|fail
    refine CV (first:=[]) (cap:=[]) (YQ (i:=H.length+2) (j:=H.length+3) (k:=w.waits.length+1) (t:=T) (p:=vd (H.length+2) w.waits.length) kk kk iV h0 (by have:=hw.wt;omega)) (by exact aK) ?_
    simp only[go_sem,O];have Ib:∀F D,dD (H.length+5) F g U (H++[.cells 0 A,.cells 0 B,D,.gone,.cells 0<|NB f g w,.cells 0<|im F g U (H.length+6),.cells 0 [.ref (H.length+5) 0 0]]):=λF D=>⟨nb,nb⟩
    have l5:=λF D=>F4 (Ib F D) ed n T iV iV
    simp only[im,O,<-af]at l5;refine CV (l5 (f||w.iy) _) (by exact aK) ?_
    simp only[go_sem];obtain⟨d2,iz,gl⟩:=Js U n T;obtain⟨X,cS⟩:∃X,gd U n T=X:=⟨_,rfl⟩;rw[cS]at iz ⊢;obtain⟨dE,al⟩:=X;simp only at iz ⊢;subst iz;rw[V,z];simp only[dN,I.cells];have CF:IntKind.i64.wrap (w.end_+(T.length / 16:Nat))=w.end_+(T.length / 16:Nat):=by exact bI
    have aPP:IntKind.i64.wrap (w.next-1)=w.next-1:=by have:=hw.qE;exact bI
    by_cases nv:al=0
    ·subst nv;rw[aj kk]
     repeat' first|(refine ae ?_;simp only[go_sem,O,mu,CF,aPP])|refine ao ?_|fail
     rw[<-mu];exact aV<|pq false true {U with bw:=d2,end_:=w.end_+(T.length / 16:Nat),eo:=U.next-1,waits:=[]} 0
    ·have d7:decide (al=0)=false:=bN nv;rw[aA nv];repeat' first|(refine ae ?_;simp only[go_sem,d7])|refine ao ?_|fail
     exact aV<|pq f g w al
 ·have d1:decide (w.marked=0)=false:=bN h1;rw[aA h1];repeat' first|(refine ae ?_;simp only[go_sem,dN,d1])|refine ao ?_|fail
  exact aV<|pq f g w 140
def UK:List cu:=[.free,.free,.pure 0,.pure 0,.pure 0,.pure 0,.free,.pure 0,.pure 0,.pure 0,.pure 0,.free,.pure 0,.pure 0,.pure 0,.pure 0,.eff [false,true,true,false,false,false,false,false,false,false,false,false]]
def UL:List cu:=[.free,.free,.pure 0,.pure 0,.pure 0,.pure 0,.free,.pure 0,.pure 0,.pure 0,.pure 0,.pure 0,.free,.pure 0,.pure 0,.pure 0,.pure 0,.pure 0,.pure 0,.pure 0,.pure 0,.pure 0,.pure 0,.pure 0,.eff [false,true,true,false,false,false,false,false,false,false,false,false,false,false,false,false,false,false,false,false]]
def UM:List cu:=[.free,.pure 0,.pure 0,.pure 0,.free,.pure 0,.pure 0,.pure 0,.pure 0,.free,.pure 0,.pure 0,.pure 0,.pure 0,.pure 0,.free,.pure 0,.pure 0,.pure 0,.pure 0,.free,.pure 0,.eff [false,true,true,true,true,true,true,true,true,true,false,true,true,true,false,true,true]]
attribute [go_sem] UK UL UM
theorem aJu(f g:Bool)(w:bO)(hw:GF w)(H:ab):
  aM prog 83 [dN f g w] H (.aQ [dN false false (sx w).1,.int .i64 (sx w).2]):=by
 refine aZ func83 ?_;have V:=F3 f hw.bM;unfold sx;rw[hw.bM.ok];unfold fW at V;simp only[dN];by_cases h1:w.marked=2
 ·have d1:decide (w.marked=2)=true:=cD h1;rw[aj (by simpa using h1)]
  repeat' first|(refine ae ?_;simp only[go_sem,d1])|refine ao ?_|fail
  refine dU (FR f g w _) aK ?_;rintro v H' ⟨rfl,rfl⟩;simp only[go_sem,im];have hsz:=hw.bM.size;obtain⟨z,Z⟩:∃z:Nat,w.bw.size=z:=⟨w.bw.size.toNat,iV⟩
  have ai:=O3 z iV
  rw[<-Z]at ai;rw[show w.bw.size.toNat=z by omega]
  have fH:IntKind.i64.wrap (w.seq+1)=w.seq+1:=by have:=hw.tq;exact bI
  have dI:IntKind.i64.wrap (w.fg-1)=w.fg-1:=by have:=hw.uF;exact bI
  obtain⟨k,hk⟩:∃k:Nat,min (max w.kQ 0) (w.waits.length:Int)=k:=⟨(min (max w.kQ 0) (w.waits.length:Int)).toNat,iV⟩
  have nA:k<=w.waits.length:=iV
  rw[hk,e5];have dV:=Ns g (w.waits.drop k) (by have:=hw.wt;simp;omega)
  have HT:=Ns false (w.waits.drop k) (by have:=hw.wt;simp;omega)
  rw[uY]at dV HT;have IC:bj z<=z / 2:=by unfold bj;omega
  have aP1:=Py (z-2 * bj z) iV
  have xn:IntKind.i64.wrap (w.bw.size-(2 * bj z:Nat))=((z-2 * bj z:Nat):Int):=by rw[bI];omega
  have Ro:((0:Int)<=(k:Int))=True:=b5 iV
  have Ay:((k:Int)<=(w.waits.length:Int))=True:=b5 iV
  have J:(∀x:I,x∈w.waits.map I.str->x.cells.length=1)=True:=b5 λx J=>by obtain⟨y, -,rfl⟩:=bJ.1 J;rfl
  repeat' first|((first|refine mx [7] UK ?_|refine mx [8] UL ?_|refine mx [9] UM ?_|refine ae ?_);simp only[go_sem,fH,dI,xn,hk,Ro,Ay,J])|refine ao ?_|fail
  obtain⟨U,av⟩:∃U:bO,U={w with seq:=w.seq+1,base:=w.fg,end_:=(2 * bj z:Nat),eo:=max w.eo<|w.fg-1,waits:=w.waits.drop k}:=⟨_,rfl⟩;have ed:eY U.bw:=by rw[av];exact hw.bM
  have Ib:∀A B C,dD (H.length+3) f false U (H++[A,B,C,.cells 0<|im f false U (H.length+4),.cells 0 [.ref (H.length+3) 0 0]]):=λA B C=>⟨nb,nb⟩
  have K:=λA B C=>F4 (Ib A B C) ed (2 * bj z) (cw ((z-2 * bj z) * 16)) (by simp[cw];omega) iV
  rw[<-av];obtain⟨d2,O,T⟩:=Js U (2 * bj z)<|cw ((z-2 * bj z) * 16);obtain⟨X,cS⟩:∃X,gd U (2 * bj z) (cw<|(z-2 * bj z) * 16)=X:=⟨_,rfl⟩;rw[cS]at O K ⊢;obtain⟨dE,al⟩:=X;simp only at O K ⊢;subst O;subst av;simp only[im,uY]at K;refine CV (K _ _ _) (by exact aK) ?_
  simp only[go_sem];refine⟨by simp only at T;rw[T],?_⟩
  refine aW ?_;obtain⟨F,n5⟩:∃F,(if al=0 then false else f)=F:=⟨_,rfl⟩
  rw[n5];simp only[<-uY];exact aV<|pq F false {w with bw:=d2,seq:=w.seq+1,base:=w.fg,end_:=(2 * bj z:Nat),eo:=max w.eo (w.fg-1),waits:=w.waits.drop k,iy:=true,marked:=0,fg:=0,kQ:=0} 0
 ·have d1:decide (w.marked=2)=false:=bN h1;rw[aA (.inl h1)];refine hH ?_;exact aV<|pq f g w 140
end Go.Proofs.YtnmamncmpklliaaGreatDoor
