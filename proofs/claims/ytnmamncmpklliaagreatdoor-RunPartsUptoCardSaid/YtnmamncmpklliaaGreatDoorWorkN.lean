/- What functions answer. No condition. -/
import Derived.Test.YtnmamncmpklliaaGreatDoorWorkJ
import Derived.Test.YtnmamncmpklliaaGreatDoorWorkM
set_option linter.unusedSimpArgs false
set_option linter.unusedVariables false
set_option maxRecDepth 100000
set_option maxHeartbeats 16000000
namespace Go.Proofs.YtnmamncmpklliaaGreatDoor
variable{d:gh}{b r:al}{H:ab}
open Go.Proofs.Tryz
structure HD (w:cj):Prop where
 bO:fI w.bG
 u5:0<=w.seq/\w.seq<=1000
 qh:0<=w.next/\w.next<=1000001
 uq:0<=w.end_/\w.end_<=65536
 wt:w.waits.length<=1000000
 sp:0<=w.eB/\w.eB<=1000001
 wl:∀p∈w.waits,p.length<=1073741824
 uS:0<=w.fP/\w.fP<=1000001
theorem NK(t:al)(off:Nat)(s:al):(sf t off s).length=t.length:=by unfold sf;simp only[bw,gK,hp];omega
theorem Gt(h:fI d)(a n:Nat)(U:((a+n:Nat):Int)<=d.size):(l5 d a n).length=n * 16:=by
 have hs:=h.size;have key:∀(l:List pK) (t:al),(l.foldl (yf a n) t).length=t.length:=by
  intro l;induction l with
  |nil=>intro t;rfl
  |cons p l J=>
   intro t;rw[qC,J];unfold yf;split
   ·exact NK _ _ _
   ·rfl
 rw[W4,key,gK,hp];omega
theorem Gu(h:fI d):fI (nR d):=by
 refine⟨?_,by simp[nR]⟩
 have hs:=h.size;have hl:=Gt h 0 d.size.toNat gf;unfold qM nR;simp only[dp,iK,List.all_nil,and_true];omega
theorem JW(w:cj)(a:Nat)(s:al):∃d:gh,(gi w a s).1={w with bG:=d}/\d.size=w.bG.size:=by
 unfold gi pw
 (repeat' split)<;>exact⟨_,rfl,rfl⟩
theorem Uy(n:Int)(p:al):(hE n p).1.length<=1000000:=by
 unfold hE;split
 ·simp
 ·rename_i h;have h1:=jq (n:=n.toNat) gf;have h2:=kX (t:=p) gf;have h3:(se (bT n.toNat++dj p)).length<=40022:=by unfold se;rw[bw,bw];have:(yJ (uc<|bT n.toNat++dj p)).length=4:=rfl;omega
  have h4:=kX (t:=se (bT n.toNat++dj p)) gf;have J:(qg n.toNat p).length<=40031:=by unfold qg;omega
  show(wJ n.toNat p).length<=_;unfold wJ;rw[Db _ _ (Gs _ _<|bh _),JV _ _<|bh _];omega
theorem VR(n:Int)(p:al)(h:(hE n p).2=0):(hE n p).1≠[]:=λe=>by
 unfold hE at h e;split at h
 ·simp at h
 ·rename_i U;rw[ar U]at e;have J:(wJ n.toNat p).length=0:=by rw[show wJ n.toNat p=[]from e];rfl
  unfold wJ at J;rw[Db _ _ (Gs _ _<|bh _),JV _ _<|bh _]at J;have:0<(qg n.toNat p).length:=by unfold qg dj bT;simp;omega
  omega
def T5:List cK:=[.aQ,.ah 0,.ah 0,.ah 0,.aQ,.ah 0,.ah 0,.ah 0,.ah 0,.ah 0,.aQ,.ah 0,.ah 0,.ah 0,.ah 0,.aQ,.ah 0,.aQ,.bW [false,true,true,true,true,true,true,true,true,true,false,true,true],.aQ]
def T6:List cK:=[.aQ,.aQ,.aQ,.aQ,.ah 0,.ah 0,.ah 0,.ah 0,.aQ,.ah 0,.ah 0,.ah 0,.ah 0,.ah 0,.ah 0,.ah 0,.ah 0,.bW [false,true,true,true,false,true,true,true,false,true,true,true],.ah 0,.ah 0,.ah 0,.bW [false,true,true,false,false,true,true,true,true],.ah 0,.ah 0,.ah 0,.bW [false,true,true]]
attribute [go_sem] T5 T6
theorem aIV(f g:Bool)(w:cj)(hw:HD w)(s:al)(hs:s.length<=1073741824)(H:ab):
  aO prog 82 [ei f g w,.str s] H (.aN [ei false false (uY w s).1,.int .i64 (uY w s).2]):=by
 refine bg func82 ?_;unfold uY;by_cases h1:w.marked=0
 ·have d1:decide (w.marked=0)=true:=dr h1;rw[ar (oq h1)];by_cases h2:200<=w.seq
  ·have d2:decide (200<=w.seq)=true:=dr h2;rw[aC h2];repeat' first|(refine ae ?_;simp only[go_sem,ei,d1,d2])|refine ai ?_|fail
   exact aX<|o9 f g w 193
  ·have d2:decide (200<=w.seq)=false:=b0 h2;rw[ar h2];obtain⟨n,af⟩:∃n:Nat,w.next=n:=⟨w.next.toNat,oC hw.qh⟩;have M1:n<=1000001:=oC hw.qh;have hm:=X3 n gf s hs;rw[<-af]at hm;rw[show w.next.toNat=n by omega]
   by_cases h3:40000<(nb n s).length
   ·simp only[aC h3]at hm;rw[aC h3];simp only[ei];repeat' first|(refine ae ?_;simp only[go_sem,d1,d2])|refine ai ?_|fail
    exact aX<|o9 f g w 130
   ·simp only[ar h3]at hm;rw[ar h3];simp only[ei];have ad:=Li (w.seq+1) (nb n s) gf;have K:IntKind.i64.wrap (w.seq+1)=w.seq+1:=by have:=hw.u5;exact bS
    have hsz:=hw.bO.size;obtain⟨z,a1⟩:∃z:Nat,w.bG.size=z:=⟨w.bG.size.toNat,gf⟩;have ij:=GY z gf;rw[<-a1]at ij;rw[show w.bG.size.toNat=z by omega]
    have dL:(hE (w.seq+1) (nb n s)).1.length<=1000000:=Uy _ _;obtain⟨q,aM⟩:∃q,hE (w.seq+1) (nb n s)=q:=⟨_,rfl⟩;rw[aM]at ad dL ⊢;obtain⟨T,e⟩:=q;simp only at ad dL ⊢;by_cases h4:e=0
    ·subst h4;rw[ar hW];have Fz:IntKind.i64.wrap ((T.length:Int).tdiv 16)=((T.length / 16:Nat):Int):=by rw[zG gf,bS];omega
     by_cases b6:bY z<T.length / 16
     ·have d5:decide ((bY z:Int)<((T.length / 16:Nat):Int))=true:=cS;rw[aC b6];repeat' first|(refine ae ?_;simp only[go_sem,d1,d2,K,Fz,d5])|refine ai ?_|fail
      exact aX<|o9 f g w 120
     ·have d5:decide ((bY z:Int)<((T.length / 16:Nat):Int))=false:=dA;rw[ar b6];repeat' first|(refine ae ?_;simp only[go_sem,d1,d2,K,Fz,d5])|refine ai ?_|fail
      refine c4 (GH f g w _) aI ?_;rintro v H' ⟨rfl,rfl⟩;simp only[go_sem];refine a7 ?_;have vZ:∀A B C,dJ (H.length+3) f g w (H++[A,B,C,.cells 0<|iG f g w (H.length+4),.cells 0 [.ref (H.length+3) 0 0]]):=λA B C=>⟨mZ,mZ⟩
      refine c4 (VM (vZ _ _ _) hw.bO) aI ?_;rintro v H' ⟨rfl,rfl⟩;simp only[go_sem,iG];have U:(gu w).seq=w.seq:=by unfold gu;split<;>rfl
      have mB:(gu w).next=w.next:=by unfold gu;split<;>rfl
      have nx:(gu w).waits=w.waits:=by unfold gu;split<;>rfl
      have O:(gu w).bG.size=w.bG.size:=by unfold gu;split<;>rfl
      obtain⟨q,Sh⟩:∃q:Nat,w.seq+1=q:=⟨(w.seq+1).toNat,oC hw.u5⟩;have aYE:q<=1000:=gf;have oN:=Lj z q gf gf;rw[<-a1,<-Sh]at oN;rw[show(w.seq+1).toNat=q by omega]
      have S:hV z q<=1000000:=by unfold hV bY;split<;>omega
      have ev:fI (gu w).bG:=by
       unfold gu;split
       ·exact Gu hw.bO
       ·exact hw.bO
      obtain⟨J,dw⟩:∃J,gu w=J:=⟨_,rfl⟩;rw[dw]at U O mB nx ev ⊢;repeat' first|((first|refine mx [15] T5 ?_|refine mx [18] T6 ?_|refine ae ?_);simp only[go_sem,U,O,K])|refine ai ?_|fail
      have Jf:∀F A B C,dJ (H.length+3) F g J (H++[A,B,C,.cells 0<|iG F g J (H.length+4),.cells 0 [.ref (H.length+3) 0 0]]):=λF A B C=>⟨mZ,mZ⟩
      have l3:=λF A B C=>GI (Jf F A B C) ev (hV z q) T gf S;simp only[iG,U,O]at l3;refine Dj (l3 (f||w.iQ) _ _ _) (by exact aI) ?_
      simp only[go_sem];obtain⟨d2,V,gl⟩:=JW J (hV z q) T;obtain⟨X,dk⟩:∃X,gi J (hV z q) T=X:=⟨_,rfl⟩;rw[dk]at V ⊢;obtain⟨cY,Z⟩:=X;simp only at V ⊢;subst V;refine⟨⟨by simp only[U],by simp only[gl,O]⟩,?_⟩
      by_cases I:Z=0
      ·subst I;rw[ar hW];repeat' first|((first|refine mx [15] T5 ?_|refine mx [18] T6 ?_|refine ae ?_);simp only[go_sem,U])|refine ai ?_|fail
       rw[<-mB,<-nx,<-U];exact aX<|o9 false g {J with bG:=d2,marked:=1,fP:=J.next,lg:=J.waits.length} 0
      ·have d6:decide (Z=0)=false:=b0 I;rw[aC I];repeat' first|(refine ae ?_;simp only[go_sem,d6])|refine ai ?_|fail
       exact aX<|o9 f g w Z
    ·have d4:decide (e=0)=false:=b0 h4;rw[aC h4];repeat' first|(refine ae ?_;simp only[go_sem,d1,d2,K,d4])|refine ai ?_|fail
     exact aX<|o9 f g w e
 ·have d1:decide (w.marked=0)=false:=b0 h1;rw[aC h1];refine bL ei.eq_1 ?_;exact aX<|o9 f g w 140
theorem aEC(n:Int)(p:al)(l:List al)(h:(hE n p).2=0):qa n (p::l)=((hE n p).1++(qa (n+1) l).1,(qa (n+1) l).2):=by rw[qa,aC h]
theorem aFd(n:Int)(p:al)(l:List al)(h:(hE n p).2≠0):qa n (p::l)=([],(hE n p).2):=by rw[qa,ar h]
def Vz:List cK:=[.aQ,.ah 0,.ah 0,.ah 0,.aQ,.ah 0,.ah 0,.ah 0,.ah 0,.bW [true,true,true,true,true,true,true],.bW [false,true,true,true,false,true,true],.aQ]
attribute [go_sem] Vz
theorem aHv(f g:Bool)(w:cj)(hw:HD w)(H:ab):
  aO prog 121 [ei f g w] H (.aN [ei false false (qb w).1,.int .i64 (qb w).2]):=by
 refine bg func121 ?_;unfold qb;by_cases h1:w.marked=0
 ·have d1:decide (w.marked=0)=true:=dr h1;rw[ar (oq h1)];simp only[ei];iterate 8 first|(refine ae ?_;simp only[go_sem,d1])|refine ai ?_|fail
  refine Zp (Y:=u6) ma rfl ?_;simp only[go_sem];repeat' first|(refine ae ?_;simp only[go_sem])|refine ai ?_|fail
  obtain⟨A,z⟩:∃A:List I,A=(ei f g w).cells:=⟨_,rfl⟩;obtain⟨B,cf⟩:∃B:List I,B=(ei true true tN).cells:=⟨_,rfl⟩;have aOX:∀m T S,T.length+S.length<=140737488355328->cV prog 134 [.ref (H.length+2) 0 0,.str S] (H++(.cells 0 A::.cells 0 B::lb (H.length+2) m T)) (λv H'=>v=.aN [.int .i64 S.length,.nilIface]/\H'=H++(.cells 0 A::.cells 0 B::lb (H.length+2) (m+1) (T++S))):=λm T S h=>by have:=Xa (H++[.cells 0 A,.cells 0 B]) [] m T S h;simpa only[cE,c6,bw,cd,dZ,mf,jb]using this
  obtain⟨Z,vM⟩:∃Z,qa (w.eB+1) w.waits=Z:=⟨_,rfl⟩;rw[vM];refine c7 (ι:=Nat×al) (λs=>[(1,.ref H.length 0 0),(2,.ref (H.length+1) 0 0),(4,.ref (H.length+2) 0 0),(17,.sl g<|w.waits.map I.str),(18,.int .i64 w.waits.length),(19,.int .i64 s.1)]) (λs=>H++(.cells 0 A::.cells 0 B::lb (H.length+2) s.1 s.2))
   (λs=>s.1<=w.waits.length/\Z=(s.2++(qa (w.eB+1+s.1) (w.waits.drop s.1)).1,(qa (w.eB+1+s.1) (w.waits.drop s.1)).2)/\s.2.length<=s.1 * 1000000/\(s.1≠0->s.2≠[])) (λs=>w.waits.length-s.1) (0,[]) ⟨cb _,by simp[<-vM],hW,hW⟩ ?_ (by rw[z,cf];rfl) ?_
  ·simp[go_sem]
  rintro⟨m,T⟩ ⟨hm,J,hl,aT⟩;simp only at hm J hl aT ⊢;by_cases K:m<w.waits.length
  ·have cA:=ek I.str K;have ju:=ir K;obtain⟨p,ad⟩:∃p,p=w.waits[m]:=⟨_,rfl⟩;rw[<-ad]at cA ju;rw[ju]at J;have bl:decide ((m:Int)<(w.waits.length:Int))=true:=cS;have uI:=eb K (oC hw.wt);have dw:IntKind.i64.wrap (w.eB+1)=w.eB+1:=by have:=hw.sp;exact bS
   have dQ:IntKind.i64.wrap (w.eB+1+m)=w.eB+1+m:=by have:=hw.sp;have:=hw.wt;exact bS
   have hK:=Li (w.eB+1+m) p<|hw.wl _ (by rw[ad];exact fQ K)
   have dL:=Uy (w.eB+1+m) p;have p4:=VR (w.eB+1+m) p;have jt:=aEC (w.eB+1+m) p<|w.waits.drop (m+1);have rX:=aFd (w.eB+1+m) p<|w.waits.drop (m+1);obtain⟨q,aM⟩:∃q,hE (w.eB+1+m) p=q:=⟨_,rfl⟩;rw[aM]at hK dL p4 jt rX;obtain⟨S,e⟩:=q;simp only at hK dL p4 jt rX;obtain⟨G,a7⟩:∃G,H++(.cells 0 A::.cells 0 B::lb (H.length+2) m T)=G:=⟨_,rfl⟩;have g1:az G H.length=.cells 0 A:=by rw[<-a7];simp only[go_sem]
   have g3:az G (H.length+1)=.cells 0 B:=by rw[<-a7];simp only[go_sem]
   have ti:=aOX m T S (oC hw.wt);rw[a7]at ti ⊢;have IH:=g1;simp only[z,ei,I.cells]at IH;have mb:∀X,an G (H.length+1) X=H++(.cells 0 A::X::lb (H.length+2) m T):=λX=>by rw[<-a7];simp only[go_sem]
   have O:=g3;simp only[cf,ei,I.cells]at O;by_cases h2:e=0
   ·subst h2;rw[jt rfl]at J;repeat' first|(refine ae ?_;simp only[go_sem,cA,bl,K,dw,dQ,IH])|refine ai ?_|fail
    refine c4 ti aI ?_;rintro v H' ⟨rfl,rfl⟩;simp only[go_sem];repeat' first|(refine ae ?_;simp only[go_sem,uI])|refine ai ?_|fail
    refine⟨(m+1,T++S),⟨gf,?_,by simp only[bw];omega,λ_ h=>p4 rfl (List.append_eq_nil_iff.1 h).2⟩,by simp only;omega,rfl,rfl⟩
    simp only[c6,Int.natCast_add,Int.natCast_one,<-Int.add_assoc];simpa only[c6,Int.add_assoc,Int.add_comm,Int.add_left_comm]using J
   ·have d2:decide (e=0)=false:=b0 h2;rw[rX h2]at J;repeat' first|(refine ae ?_;simp only[go_sem,cA,bl,K,dw,dQ,IH,O,mb,d2])|refine ai ?_|fail
    subst J;simp only;rw[aC h2];exact aX<|o9 f g w e
  ·have bl:decide ((m:Int)<(w.waits.length:Int))=false:=dA;obtain rfl:m=w.waits.length:=gf;simp only[qD,qa,cE]at J;subst J;have hlen:aO prog 176 [.ref (H.length+2) 0 0] (H++(.cells 0 A::.cells 0 B::lb (H.length+2) w.waits.length T)) (.int .i64 T.length):=
    aM6 (p:=vw (H.length+2) w.waits.length) (j:=H.length+3) (k:=w.waits.length+1) (e:=u6) (cs:=ck T) (by simp[lb]) (by simp[lb]) (oC hw.wt)
   obtain⟨G,a7⟩:∃G,H++(.cells 0 A::.cells 0 B::lb (H.length+2) w.waits.length T)=G:=⟨_,rfl⟩;have g1:az G H.length=.cells 0 A:=by rw[<-a7];simp only[go_sem]
   have g3:az G (H.length+1)=.cells 0 B:=by rw[<-a7];simp only[go_sem]
   have mb:∀X,an G (H.length+1) X=H++(.cells 0 A::X::lb (H.length+2) w.waits.length T):=λX=>by rw[<-a7];simp only[go_sem]
   rw[a7]at hlen ⊢;simp only[z,cf,ei,I.cells]at g1 g3;have Fz:IntKind.i64.wrap ((T.length:Int).tdiv 16)=((T.length / 16:Nat):Int):=by rw[zG gf,wrap_i64 (oC hw.wt) (oC hw.wt)];omega
   have hsz:=hw.bO.size;have qX:IntKind.i64.wrap (w.bG.size-w.end_)=w.bG.size-w.end_:=by have:=hw.uq;exact bS
   rw[ar hW];simp only;repeat' first|((first|refine hI hlen ?_|refine ae ?_);simp only[go_sem,bl,Fz,qX,g1,g3,mb])|refine bp ?_|(refine bz ?_ ?_<;>intro h<;>try exact bx h)|fail
   ·rw[aC (oq h)];exact aX<|o9 f g w 120
   ·rename_i b6;have dP:w.waits=[]:=iL<|oq h
    rw[ar (oq b6),aC dP];exact aX<|o9 f g w 0
   ·rename_i b6;have dP:w.waits≠[]:=λe=>by rw[e]at h;simp at h
    have cX:=aT<|by intro e;exact dP (iL e)
    have n1:T.length / 16<=65536:=by have:=hw.uq;simp at b6;omega
    rw[ar (oq b6),ar dP];refine c4 (GH f g w _) aI ?_;rintro v H' ⟨rfl,rfl⟩;simp only[go_sem];repeat' first|(refine ae ?_;simp only[go_sem])|refine ai ?_|fail
    have AI:G.length=H.length+4:=by rw[<-a7];simp[lb]
    have vZ:dJ (G.length+1) f g w (G++[.cells 0 (Oh f g w),.cells 0<|iG f g w (G.length+2),.cells 0 [.ref (G.length+1) 0 0]]):=⟨mZ,mZ⟩
    refine c4 (VM vZ hw.bO) aI ?_;rintro v H' ⟨rfl,rfl⟩;rw[<-a7];unfold lb;simp only[go_sem,iG,AI,bw];have V:(gu w).end_=w.end_:=by unfold gu;split<;>rfl
    have mB:(gu w).next=w.next:=by unfold gu;split<;>rfl
    have zc:(gu w).bG.size=w.bG.size:=by unfold gu;split<;>rfl
    have ev:fI (gu w).bG:=by
     unfold gu;split
     ·exact Gu hw.bO
     ·exact hw.bO
    obtain⟨U,dw⟩:∃U,gu w=U:=⟨_,rfl⟩;rw[dw]at V zc mB ev ⊢;obtain⟨n,af⟩:∃n:Nat,w.end_=n:=⟨w.end_.toNat,oC hw.uq⟩;have M1:n<=65536:=oC hw.uq;rw[show w.end_.toNat=n by omega]
    repeat' first|((first|refine mx [19] Vz ?_|refine ae ?_);simp only[go_sem,V])|refine ai ?_|fail
    refine Dj (first:=[]) (cap:=[]) (Zq (i:=H.length+2) (j:=H.length+3) (k:=w.waits.length+1) (t:=T) (p:=vw (H.length+2) w.waits.length) hW hW gf cX (oC hw.wt)) (by exact aI) ?_
    simp only[go_sem,V];have Jf:∀F D,dJ (H.length+5) F g U (H++[.cells 0 A,.cells 0 B,D,.gone,.cells 0<|Oh f g w,.cells 0<|iG F g U (H.length+6),.cells 0 [.ref (H.length+5) 0 0]]):=λF D=>⟨mZ,mZ⟩
    have l3:=λF D=>GI (Jf F D) ev n T gf gf;simp only[iG,V,<-af]at l3;refine Dj (l3 (f||w.iQ) _) (by exact aI) ?_
    simp only[go_sem];obtain⟨d2,ie,gl⟩:=JW U n T;obtain⟨X,dk⟩:∃X,gi U n T=X:=⟨_,rfl⟩;rw[dk]at ie ⊢;obtain⟨cY,aq⟩:=X;simp only at ie ⊢;subst ie;rw[z,cf];simp only[ei,I.cells];have C7:IntKind.i64.wrap (w.end_+(T.length / 16:Nat))=w.end_+(T.length / 16:Nat):=by exact bS
    have aQw:IntKind.i64.wrap (w.next-1)=w.next-1:=by have:=hw.qh;exact bS
    by_cases lE:aq=0
    ·subst lE;rw[ar hW];repeat' first|(refine ae ?_;simp only[go_sem,V,mB,C7,aQw])|refine ai ?_|fail
     rw[<-mB];exact aX<|o9 false true {U with bG:=d2,end_:=w.end_+(T.length / 16:Nat),eB:=U.next-1,waits:=[]} 0
    ·have d7:decide (aq=0)=false:=b0 lE;rw[aC lE];repeat' first|(refine ae ?_;simp only[go_sem,d7])|refine ai ?_|fail
     exact aX<|o9 f g w aq
 ·have d1:decide (w.marked=0)=false:=b0 h1;rw[aC h1];repeat' first|(refine ae ?_;simp only[go_sem,ei,d1])|refine ai ?_|fail
  exact aX<|o9 f g w 140
def VA:List cK:=[.aQ,.aQ,.ah 0,.ah 0,.ah 0,.ah 0,.aQ,.ah 0,.ah 0,.ah 0,.ah 0,.aQ,.ah 0,.ah 0,.ah 0,.ah 0,.bW [false,true,true]]
def VB:List cK:=[.aQ,.aQ,.ah 0,.ah 0,.ah 0,.ah 0,.aQ,.ah 0,.ah 0,.ah 0,.ah 0,.ah 0,.aQ,.ah 0,.ah 0,.ah 0,.ah 0,.ah 0,.ah 0,.ah 0,.ah 0,.ah 0,.ah 0,.ah 0,.bW [false,true,true]]
def VC:List cK:=[.aQ,.ah 0,.ah 0,.ah 0,.aQ,.ah 0,.ah 0,.ah 0,.ah 0,.aQ,.ah 0,.ah 0,.ah 0,.ah 0,.ah 0,.aQ,.ah 0,.ah 0,.ah 0,.ah 0,.aQ,.ah 0,.bW [false,true,true,true,true,true,true,true,true,true,false,true,true,true,false,true,true]]
attribute [go_sem] VA VB VC
theorem aIW(f g:Bool)(w:cj)(hw:HD w)(H:ab):
  aO prog 83 [ei f g w] H (.aN [ei false false (tw w).1,.int .i64 (tw w).2]):=by
 refine bg func83 ?_;have T:=GX f hw.bO;unfold tw;rw[hw.bO.ok];unfold ha at T;simp only[ei];by_cases h1:w.marked=2
 ·have d1:decide (w.marked=2)=true:=dr h1;rw[ar (oq h1)];repeat' first|(refine ae ?_;simp only[go_sem,d1])|refine ai ?_|fail
  refine c4 (GH f g w _) aI ?_;rintro v H' ⟨rfl,rfl⟩;simp only[go_sem,iG];have hsz:=hw.bO.size;obtain⟨z,V⟩:∃z:Nat,w.bG.size=z:=⟨w.bG.size.toNat,gf⟩;have Z:=O6 z gf;rw[<-V]at Z;rw[show w.bG.size.toNat=z by omega]
  have dw:IntKind.i64.wrap (w.seq+1)=w.seq+1:=by have:=hw.u5;exact bS
  have dQ:IntKind.i64.wrap (w.fP-1)=w.fP-1:=by have:=hw.uS;exact bS
  obtain⟨k,hk⟩:∃k:Nat,min (max w.lg 0) (w.waits.length:Int)=k:=⟨(min (max w.lg 0) (w.waits.length:Int)).toNat,gf⟩;have nW:k<=w.waits.length:=gf;rw[hk,h5];have eG:=Oe g (w.waits.drop k) (by have:=hw.wt;simp;omega)
  have I1:=Oe false (w.waits.drop k) (by have:=hw.wt;simp;omega)
  rw[yk]at eG I1;have Jy:bY z<=z / 2:=by unfold bY;omega
  have aQI:=O7 (z-2 * bY z) gf;have q6:IntKind.i64.wrap (w.bG.size-(2 * bY z:Nat))=((z-2 * bY z:Nat):Int):=by rw[bS];omega
  have R0:((0:Int)<=(k:Int))=True:=b1 gf;have R1:((k:Int)<=(w.waits.length:Int))=True:=b1 gf;have J:(∀x:I,x∈w.waits.map I.str->x.cells.length=1)=True:=b1 λx J=>by obtain⟨y, -,rfl⟩:=bP.1 J;rfl
  repeat' first|((first|refine mx [7] VA ?_|refine mx [8] VB ?_|refine mx [9] VC ?_|refine ae ?_);simp only[go_sem,dw,dQ,q6,hk,R0,R1,J])|refine ai ?_|fail
  obtain⟨U,ax⟩:∃U:cj,U={w with seq:=w.seq+1,base:=w.fP,end_:=(2 * bY z:Nat),eB:=max w.eB<|w.fP-1,waits:=w.waits.drop k}:=⟨_,rfl⟩;have ev:fI U.bG:=by rw[ax];exact hw.bO
  have Jf:∀A B C,dJ (H.length+3) f false U (H++[A,B,C,.cells 0<|iG f false U (H.length+4),.cells 0 [.ref (H.length+3) 0 0]]):=λA B C=>⟨mZ,mZ⟩
  have K:=λA B C=>GI (Jf A B C) ev (2 * bY z) (fM ((z-2 * bY z) * 16)) (by simp[fM];omega) gf
  rw[<-ax];obtain⟨d2,O,S⟩:=JW U (2 * bY z)<|fM ((z-2 * bY z) * 16);obtain⟨X,dk⟩:∃X,gi U (2 * bY z) (fM<|(z-2 * bY z) * 16)=X:=⟨_,rfl⟩;rw[dk]at O K ⊢;obtain⟨cY,aq⟩:=X;simp only at O K ⊢;subst O;subst ax;simp only[iG,yk]at K;refine Dj (K _ _ _) (by exact aI) ?_
  simp only[go_sem];refine⟨by simp only at S;rw[S],?_⟩
  refine a7 ?_;obtain⟨F,nT⟩:∃F,(if aq=0 then false else f)=F:=⟨_,rfl⟩
  rw[nT];simp only[<-yk];exact aX<|o9 F false {w with bG:=d2,seq:=w.seq+1,base:=w.fP,end_:=(2 * bY z:Nat),eB:=max w.eB (w.fP-1),waits:=w.waits.drop k,iQ:=true,marked:=0,fP:=0,lg:=0} 0
 ·have d1:decide (w.marked=2)=false:=b0 h1;rw[aC (.inl h1)];refine hH ?_;exact aX<|o9 f g w 140
def B3(d:gh)(a n:Int):al×Int:=if a<0\/n<0\/d.size-a<n then([],121)else(l5 d a.toNat n.toNat,0)
theorem aED(k:Nat)(t:al)(p:pK):(GW k t p).length=t.length:=by
 unfold GW
 (repeat' split)<;>simp only[NK]
theorem UO(cC:al):∀(l:List pK) (i:Nat) (p:pK) (t:al),wk cC i (l++[p]) t=GW (DM cC<|i+l.length) (wk cC i l t) p
 |[],_,_,_=>rfl
 |q::l,i,p,t=>by rw[mf,wk,wk,UO cC l (i+1) p,cd,vh,Nat.add_comm 1]
theorem TH(cC:al):∀(l:List pK) (i:Nat) (t:al),(wk cC i l t).length=t.length
 |[],_,_=>rfl
 |p::l,i,t=>by rw[wk,TH cC l,aED]
theorem OK(h:fI d)(cC:al):fI (qN d cC):=by
 refine⟨?_,by simp[qN]⟩
 have hs:=h.size;have hl:=TH cC d.loose 0 d.jJ;unfold qM qN;simp only[dp,iK,List.all_nil,and_true];omega
def TI:List cK:=[.aQ,.ah 0,.ah 0,.ah 0,.ah 0,.bW [false,true,true]]
attribute [go_sem] TI
theorem Xc(f:Bool)(hk:fI d)(a n:Int)(U: -1000000<=a/\a<=1000000)(af: -1000000<=n/\n<=1000000)(H:ab):aO prog 105 [ha f d,.int .i64 a,.int .i64 n] H (.aN [.str (B3 d a n).1,.int .i64 (B3 d a n).2]):=by
 refine bg func105 ?_;have hs:=hk.size;have K:=GX f hk;have hw:IntKind.i64.wrap (d.size-a)=d.size-a:=bS;unfold B3;by_cases h:a<0\/n<0\/d.size-a<n
 ·have J:(decide (a<0)||decide (n<0)||decide (d.size-a<n))=true:=nc
  rw[aC h];unfold ha at *;refine hH ?_;all_goals first|exact aX (.refl _)|(exfalso;simp at *;omega)
 ·rw[ar h];obtain⟨x,rfl⟩:∃x:Nat,a=x:=⟨a.toNat,gf⟩;obtain⟨y,rfl⟩:∃y:Nat,n=y:=⟨n.toNat,gf⟩;have J:(decide ((x:Int)<0)||decide ((y:Int)<0)||decide (d.size-x<y))=false:=nc
  have hd:=XZ f hk x y gf;unfold ha at *;refine hH ?_;all_goals first|exact aX (.refl _)|(exfalso;simp at *;omega)
theorem aIj(f:Bool)(hk:fI d)(cC:al)(ad:cC.length<=1073741824)(H:ab):aO prog 73 [ha f d,.str cC] H (ha true<|qN d cC):=by
 refine bg func73 ?_;obtain⟨k1,k2,k3,k4⟩:=hk.size;have RS:=hk.Mu;have ao:=GX f hk;unfold ha at ao;obtain⟨z,a1⟩:∃z:Nat,d.size=z:=⟨d.size.toNat,gf⟩;have IZ:d.jJ.length=z * 16:=gf;repeat' first|(refine ae ?_;simp only[go_sem,ha,IZ])|refine ai ?_|fail
 obtain⟨T,cX⟩:∃T:Nat->al,∀q,T q=wk cC 0 (d.loose.take q) d.jJ:=⟨_,λ_=>rfl⟩;refine c7 (ι:=Nat×ab) (λs=>[(1,.str cC),(2,.ref H.length 0 0),(4,.ref (H.length+1) 0 0),(5,.osl 1 (H.length+2) 1 0 (z * 16)<|z * 16),(20,.int .i64 d.loose.length),(21,.int .i64 s.1)])
  (λs=>H++(.cells 0 [.int .i64 d.size,.str d.jJ,.sl f<|d.loose.map fa]::.cells 0 [.int .i64 0,.str [],.sl true []]::.cells 1 (ck<|T s.1)::s.2)) (λs=>s.1<=d.loose.length) (λs=>d.loose.length-s.1) (0,[]) (cb _) ?_ (by simp[cX,wk]) ?_
 ·simp[go_sem]
 rintro⟨q,M⟩ aM;simp only at aM ⊢;have vL:(T q).length=z * 16:=by rw[cX,TH];exact IZ
 by_cases S:q<d.loose.length
 ·have M9:=ek fa S;have Z:decide ((q:Int)<(d.loose.length:Int))=true:=cS;have m1:∀x:bD,(M++[x]).getD M.length .gone=x:=λx=>hW;have m2:∀x y:bD,(M++[x]).set M.length y=M++[y]:=λx y=>hW;have hw:=eb S gf;have K:T (q+1)=GW (DM cC q) (T q) d.loose[q]:=by rw[cX,cX,hc S,UO,gK];congr 2;omega
  obtain⟨lp,z2,z3⟩:=k4 _<|fQ S;generalize d.loose[q]=p at *;obtain⟨P,iy⟩:∃P:Nat,p.at_=P:=⟨p.at_.toNat,gf⟩;have gz:IntKind.i64.wrap (p.at_ * 16)=((P * 16:Nat):Int):=by rw[bS];omega
  have hO:P * 16+16<=z * 16:=gf;unfold GW at K;rw[iy,h5]at K;generalize P * 16=O at *;generalize T q=U at *;have Jl:∀(V:al) (o:Nat) (s:al),V.length=z * 16->o+s.length<=z * 16->du (ck V) o (ck s)=ck (sf V o s):=λV o s h1 h2=>by rw[Us];unfold sf;rw[qy (l:=s) gf]
  have l1:List.take 8 (p.data.drop 8)=p.data.drop 8:=qy nc;have uF:=Jl U (O * 1+8) (p.data.drop 8) vL nc;have r5:=Jl U (O * 1) (p.data.take 8) vL nc;have FT:=Jl (sf U (O * 1+8) (p.data.drop 8)) (O * 1) (p.data.take 8) (by rw[NK];exact vL) nc
  have I:List.take 16 (List.take 8 p.data)=List.take 8 p.data:=by rw[List.take_take];rfl
  have FY:(List.take 8 p.data).length=8:=nc;have xJ:=NK U (O * 1+8)<|p.data.drop 8;by_cases hK:q<cC.length
  ·have ie:decide ((q:Int)<(cC.length:Int))=true:=cS;obtain⟨x,J⟩:∃x,cC[q]=x:=⟨_,rfl⟩;have aB9:cC[q]?=some x:=by rw[dn hK,J]
   have FP:DM cC q=x.toNat % 3:=by unfold DM;rw[gg,aB9];rfl
   rw[FP]at K;have aw:((x.toNat:Int)).tmod 3=((x.toNat % 3:Nat):Int):=by rw[wR gf];omega
   have SL:cC.getD q 0=x:=by rw[gg,aB9];rfl
   have SM:IntKind.i64.wrap (x.toNat:Int)=(x.toNat:Int):=wrap_i64 gf (oC x.toNat_lt);have aYx:x.toNat % 3<3:=Nat.mod_lt _ gf;generalize x.toNat % 3=c at *;by_cases jt:c=1
   ·subst jt;rw[aC rfl]at K;repeat' first|((first|refine mx [14] TI ?_|refine ae ?_);simp only[go_sem,M9,Z,fa,m1,m2,ie,gz,SL,SM,aw,l1,I,uF,FT,xJ,FY])|refine ai ?_|fail
    exact⟨(q+1,M++[.cells 0 [.int .i64 p.at_,.str p.data]]),S,by simp only;omega,b7 _ hw,by rw[K];simp only[mi]⟩
   by_cases rX:c=2
   ·subst rX;rw[ar gf,aC rfl]at K;repeat' first|((first|refine mx [14] TI ?_|refine ae ?_);simp only[go_sem,M9,Z,fa,m1,m2,ie,gz,SL,SM,aw,I,r5,FY])|refine ai ?_|fail
    exact⟨(q+1,M++[.cells 0 [.int .i64 p.at_,.str p.data]]),S,by simp only;omega,b7 _ hw,by rw[K];simp only[mi]⟩
   ·obtain rfl:c=0:=gf;rw[ar gf,ar gf]at K;repeat' first|(refine ae ?_;simp only[go_sem,M9,Z,fa,m1,m2,ie,gz,SL,SM,aw])|refine ai ?_|fail
    exact⟨(q+1,M++[.cells 0 [.int .i64 p.at_,.str p.data]]),S,by simp only;omega,b7 _ hw,by rw[K]⟩
  ·have ie:decide ((q:Int)<(cC.length:Int))=false:=dA;have FP:DM cC q=0:=by unfold DM;rw[gg,wW gf];rfl
   rw[FP,ar gf,ar gf]at K;repeat' first|(refine ae ?_;simp only[go_sem,M9,Z,fa,m1,m2,ie,gz])|refine ai ?_|fail
   exact⟨(q+1,M++[.cells 0 [.int .i64 p.at_,.str p.data]]),S,by simp only;omega,b7 _ hw,by rw[K]⟩
 ·have eI:q=d.loose.length:=gf;subst eI;have Z:decide ((d.loose.length:Int)<(d.loose.length:Int))=false:=dA;have aON:T d.loose.length=wk cC 0 d.loose d.jJ:=by rw[cX,fe]
  have FW:List.take (z * 16 * 1) (ck<|T d.loose.length)=ck (T d.loose.length):=qy<|by rw[qO];omega
  have R3:(z * 16 * 1<=(T d.loose.length).length)=True:=b1 gf;repeat' first|(refine ae ?_;simp only[go_sem,Z,FW,R3])|refine ai ?_|fail
  exact aX<|.of (by rw[aON];simp[ha,qN])
def Cg:Ord:=⟨0,eK,0,[]⟩
def Eg(o:Option (Ord×al)):I:=match o with
 |none=>.aN [da Cg,.bool false]
 |some (o,_)=>.aN [da o,.bool true]
theorem Xd{c:cg}(h:k5 b=some (c,r)):c.path.length<=b.length/\c.to.length<=b.length/\c.data.length<=b.length:=by
 unfold k5 at h;simp only[kv,sE]at h;obtain⟨k,U,ay,p,ad,a,K,h1,t,O,h2,d,a6,h3,n,bb,h4,J⟩:=h;have S:=hg ay;have ax:=wh h1;have T:=wh h2;have aU:=wh h3;split at J
 ·cases J;simp only;omega
 ·cases J
theorem aFe:∀(n k:Nat) (b:al),b.length<=n->b.length<=k->b.length<=1048576->mC k b=mC b.length b:=by
 intro n;induction n with
 |zero=>intro k b h _ _;rw[iL (by omega:b.length=0)];cases k<;>rfl
 |succ n J=>
  intro k b h hk U;by_cases af:b=[]
  ·subst af;cases k<;>rfl
  have:=nH.2 af;obtain⟨k,rfl⟩:∃m,k=m+1:=⟨k-1,gf⟩;obtain⟨m,hm⟩:∃m,b.length=m+1:=⟨b.length-1,gf⟩;rw[hm,mC,mC,ar af,ar af];cases ag:na b with
  |none=>rfl
  |some p=>obtain⟨o,r⟩:=p;have:=(Gq ag gf).1;simp only[e6];rw[J k r gf gf gf,J m r gf gf gf]
theorem aFf(h:b≠[])(J:b.length<=1048576):mC b.length b=(na b).bind λx=>(mC x.2.length x.2).map (x.1::·):=by
 have:=nH.2 h;obtain⟨m,hm⟩:∃m,b.length=m+1:=⟨b.length-1,gf⟩;rw[hm,mC,ar h];cases ag:na b with
 |none=>rfl
 |some p=>obtain⟨o,r⟩:=p;have:=(Gq ag gf).1;simp only[e6];rw[aFe m m r gf gf gf]
theorem Xe{o:Ord}(h:na b=some (o,r))(U:b.length<=1048576):lX o:=by
 obtain⟨-,hm,K⟩:=Gq h gf;have key:o.call.path.length<=1048576/\o.call.to.length<=1048576/\o.call.data.length<=1048576/\o.cC.length<=1048576:=by
  unfold na at h;simp only[kv,sE]at h;obtain⟨k,O,ay,S,T,h1,h2⟩:=h;have V:=hg ay;split at h2
  ·cases h2;split at h1
   ·simp only[gA,sE,DS]at h1;obtain⟨x,J,h3,rfl,rfl⟩:=h1;obtain⟨Z,a2,a3⟩:=Xd h3;exact⟨by simp only;omega,by simp only;omega,by simp only;omega,hW⟩
   split at h1
   ·simp only[gA,sE,DS]at h1;obtain⟨x,J,h3,rfl,rfl⟩:=h1;exact⟨by simp[eK],by simp[eK],by simp[eK],hW⟩
   split at h1
   ·simp only[gA,sE,DS]at h1;obtain⟨x,J,h3,rfl,rfl⟩:=h1;have:=Uq h3;exact⟨by simp[eK],by simp[eK],by simp[eK],by simp only;omega⟩
   ·cases h1;exact⟨by simp[eK],by simp[eK],by simp[eK],hW⟩
  ·cases h2
 exact⟨key.1,key.2.1,key.2.2.1,hm.call.n,hm.pick,key.2.2.2⟩
theorem aK3{i:Nat}{x:I}{L:ab}(J:cN H.length x){v w:I}(K:cJ H.length (an H i (.cells 0 [x,.str r])++L) v w){P:al->Prop}(O:P r):
  ∃H1 S y,an H i (.cells 0 [x,.str r])++L=H1++S/\H1.length=H.length/\(∀(k:Nat) (b:bD),H1[k]?=some b->H[k]?=some b\/ed H.length b)/\cJ H.length (an H i (.cells 0 [x,.str r])++L) v y/\(y=w/\∃r,H1=an H i (.cells 0 [x,.str r])/\P r):=
 ⟨_,L,_,rfl,bc _ _ _,ns λy U=>by
  simp only[db,mh,mj]at U;rcases U with rfl|rfl
  ·exact J
  ·exact .str _,K,rfl,r,rfl,O⟩
def B4(o:Option (Int×Int×List Ord)):I:=match o with
 |none=>.aN [.int .i64 0,.int .i64 0,.sl true [],.int .i64 240]
 |some (r,s,l)=>.aN [.int .i64 r,.int .i64 s,.sl false<|l.map da,.int .i64 0]
theorem PU(b:al)(K:b.length<=1048576)(i:Nat)(x:I)(U:az H i=.cells 0 [x,.str b]):
  cV prog 54 [.ref i 0 0] H (λv H'=>match dS b with
   |none=>v=.aN [.int .i64 0,.bool false]/\H'=H
   |some (n,r)=>v=.aN [.int .i64 n,.bool true]/\H'=an H i (.cells 0 [x,.str r])):=by
 refine mS func54 ?_;have J:=xR b gf;unfold sd at J;cases h:dS b with
 |none=>simp only[h]at J;repeat' first|(refine ae ?_;simp only[go_sem,U])|refine ai ?_|fail
 |some p=>obtain⟨n,r⟩:=p;simp only[h]at J;repeat' first|(refine ae ?_;simp only[go_sem,U])|refine ai ?_|fail
theorem aIX(b:al)(aa:b.length<=1048576)(i:Nat)(x:I)(J:cN H.length x)(z:az H i=.cells 0 [x,.str b]):
  cV prog 55 [.ref i 0 0] H (λv H'=>v=Eg (na b)/\∃r,H'=an H i (.cells 0 [x,.str r])/\∀o Z,na b=some (o,Z)->r=Z):=by
 refine h9 func55 ?_;have hi:=cZ z trivial;have S:=Y7 hi;have s1:=λL X=>gU hi L X;have fin:∀(r:al) (L:ab) (o:Option (Ord×al)),(∀l8 Z,o=some (l8,Z)->r=Z)->na b=o->
   ∃H1 fv y,an H i (.cells 0 [x,.str r])++L=H1++fv/\H1.length=H.length/\(∀(k:Nat) (b:bD),H1[k]?=some b->H[k]?=some b\/ed H.length b)/\cJ H.length (an H i (.cells 0 [x,.str r])++L) (Eg o) y/\
    (y=Eg (na b)/\∃r,H1=an H i (.cells 0 [x,.str r])/\∀o Z,na b=some (o,Z)->r=Z):=λr L o h1 h2=>by
  subst h2;exact aK3 J (eT.qR (.refl _) (by cases na b<;>simp only[Eg,go_sem])) h1
 refine a7 ?_;refine c4 (PU b aa i x<|bX z trivial _) aI ?_;intro v H';cases ay:dS b with
 |none=>
  rintro⟨rfl,rfl⟩;have eu:na b=none:=by unfold na;rw[ay];rfl
  simp only[go_sem];refine a7 ?_;have:=fin b [.cells 0 (da Cg).cells,.cells 0 (da Cg).cells] none (λ_ _ h=>p2 h) eu;rw[kf z trivial]at this;exact this
 |some p=>
  obtain⟨K,O⟩:=p;have cW:=hg ay;have cX:na b=(if K=1 then(k5 O).map λx=>((⟨K,x.1,0,[]⟩:Ord),x.2)else if K=2 then(dS O).map λx=>(⟨K,eK,x.1,[]⟩,x.2)else if K=4 then(ix O).map λx=>(⟨K,eK,0,x.1⟩,x.2)else some (⟨K,eK,0,[]⟩,O)).bind λx=>if gF x.1=true then some x else none:=by unfold na;rw[ay];rfl
  rintro⟨rfl,rfl⟩;rw[s1];simp only[go_sem];by_cases k1:K=1
  ·subst k1;have T:=aJa O gf;unfold PL at T;cases h1:k5 O with
   |none=>
    rw[h1]at cX;simp only[h1,cy,eK]at T;repeat' first|(refine ae ?_;simp only[go_sem,S])|refine ai ?_|fail
    exact fin [] _ none (λ_ _ h=>p2 h) cX
   |some p=>
    obtain⟨c,V⟩:=p;rw[h1]at cX;simp only[h1,cy]at T;obtain⟨cm,cT,j3⟩:=Xd h1;have hk:=Dn ⟨1,c,0,[]⟩ (by simp only;omega)<|by simp only;omega
    simp only[da]at hk;cases U:gF ⟨1,c,0,[]⟩with
    |true=>
     rw[U]at hk;repeat' first|(refine ae ?_;simp only[go_sem,S])|refine ai ?_|fail
     exact fin V _ (some (⟨1,c,0,[]⟩,V)) (λ_ _ h=>by cases h;rfl)<|by rw[cX];simp[U]
    |false=>
     rw[U]at hk;repeat' first|(refine ae ?_;simp only[go_sem,S])|refine ai ?_|fail
     exact fin V _ none (λ_ _ h=>p2 h)<|by rw[cX];simp[U]
  rw[ar k1]at cX;have d1:decide (K=1)=false:=b0 k1;by_cases k2:K=2
  ·subst k2;have T:=xR O gf;unfold sd at T;cases h1:dS O with
   |none=>
    rw[h1]at cX;simp only[h1]at T;repeat' first|(refine ae ?_;simp only[go_sem,S])|refine ai ?_|fail
    exact fin [] _ none (λ_ _ h=>p2 h) cX
   |some p=>
    obtain⟨n,V⟩:=p;rw[h1]at cX;simp only[h1]at T;have hk:=Dn ⟨2,eK,n,[]⟩ (by simp[eK])<|by simp[eK]
    simp only[da,eK]at hk;cases U:gF ⟨2,eK,n,[]⟩with
    |true=>
     rw[show gF ⟨2,⟨0,[],[],[],0⟩,n,[]⟩=true from U]at hk
     repeat' first|(refine ae ?_;simp only[go_sem,S])|refine ai ?_|fail
     exact fin V _ (some (⟨2,eK,n,[]⟩,V)) (λ_ _ h=>by cases h;rfl)<|by rw[cX];simp[U]
    |false=>
     rw[show gF ⟨2,⟨0,[],[],[],0⟩,n,[]⟩=false from U]at hk
     repeat' first|(refine ae ?_;simp only[go_sem,S])|refine ai ?_|fail
     exact fin V _ none (λ_ _ h=>p2 h)<|by rw[cX];simp[U]
  rw[ar k2]at cX;have d2:decide (K=2)=false:=b0 k2;by_cases k4:K=4
  ·subst k4;have T:=zj O gf;unfold wG at T;cases h1:ix O with
   |none=>
    rw[h1]at cX;simp only[h1]at T;repeat' first|(refine ae ?_;simp only[go_sem,S])|refine ai ?_|fail
    exact fin [] _ none (λ_ _ h=>p2 h) cX
   |some p=>
    obtain⟨n,V⟩:=p;rw[h1]at cX;simp only[h1]at T;have hk:=Dn ⟨4,eK,0,n⟩ (by simp[eK])<|by simp[eK]
    simp only[da,eK]at hk;cases U:gF ⟨4,eK,0,n⟩with
    |true=>
     rw[show gF ⟨4,⟨0,[],[],[],0⟩,0,n⟩=true from U]at hk
     repeat' first|(refine ae ?_;simp only[go_sem,S])|refine ai ?_|fail
     exact fin V _ (some (⟨4,eK,0,n⟩,V)) (λ_ _ h=>by cases h;rfl)<|by rw[cX];simp[U]
    |false=>
     rw[show gF ⟨4,⟨0,[],[],[],0⟩,0,n⟩=false from U]at hk
     repeat' first|(refine ae ?_;simp only[go_sem,S])|refine ai ?_|fail
     exact fin V _ none (λ_ _ h=>p2 h)<|by rw[cX];simp[U]
  rw[ar k4]at cX;have d4:decide (K=4)=false:=b0 k4;have hk:=Dn ⟨K,eK,0,[]⟩ (by simp[eK])<|by simp[eK]
  simp only[da,eK]at hk;cases U:gF ⟨K,eK,0,[]⟩with
  |true=>
   rw[show gF ⟨K,⟨0,[],[],[],0⟩,0,[]⟩=true from U]at hk
   repeat' first|(refine ae ?_;simp only[go_sem,S,d1,d2,d4])|refine ai ?_|fail
   exact fin O _ (some (⟨K,eK,0,[]⟩,O)) (λ_ _ h=>by cases h;rfl)<|by rw[cX];simp[U]
  |false=>
   rw[show gF ⟨K,⟨0,[],[],[],0⟩,0,[]⟩=false from U]at hk
   repeat' first|(refine ae ?_;simp only[go_sem,S,d1,d2,d4])|refine ai ?_|fail
   exact fin O _ none (λ_ _ h=>p2 h)<|by rw[cX];simp[U]
theorem Pq(b:al)(aa:b.length<=1048576)(H:ab):aO prog 26 [.str b] H (B4<|k6 b):=by
 refine bg func26 ?_;have O:∀G,aO prog 53 [] G (B4 none):=λG=>by refine bg func53 ?_;refine a7 ?_;exact bJ<|.of rfl
 unfold B4 at O;iterate 6 first|(refine ae ?_;simp only[go_sem])|refine ai ?_|fail
 refine uM (v:=0) (cs:=[.sl true [],.str b]) H.length 0 1 mZ rfl ?_;simp only[go_sem];have kK:az (H++[.cells 0 [.osl 1 (H.length+1) 1 0 0 0,.str b],.cells 1 []]) H.length=.cells 0 [.osl 1 (H.length+1) 1 0 0 0,.str b]:=mZ;repeat' first|(refine ae ?_;simp only[go_sem])|refine ai ?_|fail
 refine c4 (PU b aa H.length _ kK) aI ?_;intro v H';cases ay:dS b with
 |none=>
  have Z:k6 b=none:=by unfold k6;rw[ay];rfl
  rintro⟨rfl,rfl⟩;rw[Z];simp only[go_sem];repeat' first|((first|refine hI O ?_|refine ae ?_);simp only[go_sem])|refine ai ?_|fail
  exact aX<|.refl _
 |some p=>
  obtain⟨r,aW⟩:=p;have ax:=hg ay;rintro⟨rfl,rfl⟩;simp only[go_sem];repeat' first|(refine ae ?_;simp only[go_sem])|refine ai ?_|fail
  refine c4 (PU aW gf H.length (.osl 1 (H.length+1) 1 0 0 0) mZ) aI ?_;intro v H';cases h1:dS aW with
  |none=>
   have Z:k6 b=none:=by unfold k6;rw[ay];simp only[e6,h1];rfl
   rintro⟨rfl,rfl⟩;rw[Z];simp only[go_sem];repeat' first|((first|refine hI O ?_|refine ae ?_);simp only[go_sem])|refine ai ?_|fail
   exact aX<|.refl _
  |some p=>
   obtain⟨s,bA⟩:=p;have aq:=hg h1;have z:=GF ay;have ms:=GF h1;have U:k6 b=(mC bA.length bA).bind λl=>if oP r s l=some b then some (r,s,l)else none:=by unfold k6;rw[ay];simp only[e6,h1]
   rintro⟨rfl,rfl⟩;simp only[go_sem];repeat' first|(refine ae ?_;simp only[go_sem])|refine ai ?_|fail
   refine xU 11 8 rfl ?_;obtain⟨x,J⟩:∃x,x=I.osl 1 (H.length+1) 1 0 0 0:=⟨_,rfl⟩;refine n8 (ι:=List Ord×ab) (λy=>[(0,.str b),(6,.func (.func 53) [] []),(7,.ref H.length 0 0),(8,.int .i64 r),(10,.int .i64 s),(11,.osl 8 (H.length+2) (y.1.length+1) 0 y.1.length y.1.length)]) (λy=>H++(.cells 0 [x,.str []]::.cells 1 []::.cells (y.1.length+1) (aV da y.1)::y.2))
    (λy=>y.1.length<=b.length/\(∀o∈y.1,lX o)/\mC bA.length bA=some y.1) ?_ ?_
   ·refine c7 (ι:=List Ord×al×ab) (λy=>[(0,.str b),(6,.func (.func 53) [] []),(7,.ref H.length 0 0),(8,.int .i64 r),(10,.int .i64 s),(11,.osl 8 (H.length+2) (y.1.length+1) 0 y.1.length y.1.length)]) (λy=>H++(.cells 0 [x,.str y.2.1]::.cells 1 []::.cells (y.1.length+1) (aV da y.1)::y.2.2))
     (λy=>y.1.length+y.2.1.length<=bA.length/\(∀o∈y.1,lX o)/\mC bA.length bA=(mC y.2.1.length y.2.1).map (y.1++·)) (λy=>y.2.1.length) ([],bA,[]) ⟨hW,hW,hW⟩ ?_ (by rw[J];simp only[go_sem];rfl) ?_
    ·simp[go_sem]
    rintro⟨acc,rest,M⟩ ⟨hl,S,K⟩;simp only at hl S K ⊢;by_cases af:rest=[]
    ·subst af;repeat' first|(refine ae ?_;simp only[go_sem])|refine ai ?_|fail
     exact⟨(acc,M),⟨by simp at hl ⊢;omega,S,by rw[K];simp[mC]⟩,rfl,rfl⟩
    ·have hd:decide (rest=[])=false:=b0 af;repeat' first|(refine ae ?_;simp only[go_sem,hd])|refine ai ?_|fail
     refine c4 (aIX rest gf H.length x (by rw[J];exact .osl _ _ _ _ _ _ hW) mZ) aI ?_
     rintro v H' ⟨rfl,ql,rfl,hL⟩;rw[aFf af gf]at K;have m1:∀x:bD,(M++[x]).getD M.length .gone=x:=λx=>hW;have m2:∀x y:bD,(M++[x]).set M.length y=M++[y]:=λx y=>hW;cases ag:na rest with
     |none=>
      have Z:k6 b=none:=by rw[U,K,ag];rfl
      rw[Z];simp only[go_sem,Eg,da,Cg,eK];repeat' first|((first|refine hI O ?_|refine ae ?_);simp only[go_sem,m1,m2])|refine ai ?_|fail
      exact aX<|.refl _
     |some p=>
      obtain⟨o,aY⟩:=p;obtain rfl:=hL _ _ ag;have cH:=(Gq ag gf).1;have CS:=Xe ag gf;rw[ag]at K;have jw:(∀e,e=I.agg [.int .i64 o.kind,.int .i64 o.call.kind,.str o.call.path,.str o.call.to,.str o.call.data,.int .i64 o.call.n,.int .i64 o.pick,.str o.cC]->e.cells.length=8)=True:=b1 λe he=>by rw[he];rfl
      have iA:((acc.length+1) * 96<=140737488355328)=True:=b1 gf;have eh:=en (enc:=da) (s:=8) (λ_=>rfl) acc;simp only[go_sem,Eg,da];repeat' first|(refine ae ?_;simp only[go_sem,m1,m2,jw,iA,eh])|refine ai ?_|fail
      refine⟨(acc++[o],ql,M++[.cells 0 (da o).cells]),⟨by simp only[bw,List.length_singleton];omega,λq aM=>?_,?_⟩,cH,?_⟩
      ·rcases fH.1 aM with aM|aM
       ·exact S q aM
       ·rw[dH.1 aM];exact CS
      ·rw[K];simp only[e6,zK];congr 1;funext l;simp
      ·simp only[bw,List.length_singleton,iP,p9,G5,cE,da,I.cells];refine⟨?_,?_⟩<;>first|trivial|rfl
   ·rintro⟨acc,M⟩ ⟨hl,S,K⟩;simp only at hl S K ⊢;rw[K]at U;simp only[e6]at U;refine A8 [11] (acc.map da) (v:=acc.length+1) (lc:=acc.length) (i:=H.length+2) (s:=8) (cs:=aV da acc) (by intro t ag;simp only[dH]at ag;subst ag;rw[dq];simp only[go_sem]) mZ gf rfl (λe he=>by(obtain⟨x, -,rfl⟩:=bP.1 he;rfl)) ?_
    simp only[go_sem,dO,jm];refine a7 ?_;have hw:jG H.length (H.length+1) 0 [] [.str []] (H++(.cells 0 [x,.str []]::.cells 1 []::.gone::M)):=⟨gf,by rw[J];simp only[go_sem];rfl,by simp only[go_sem];rfl⟩
    refine c4 (Yd false r s acc hw (by simp only[dH,zM];exact .str _) z.2 ms.2 S gf hW) aI ?_
    rintro v H' ⟨rfl,k,T,rfl,cX⟩;rw[Zz]at U;unfold gR rA;cases bq:yC r s acc with
    |false=>
     simp[bq]at U;rw[U];simp only[go_sem];repeat' first|((first|refine hI O ?_|refine ae ?_);simp only[go_sem])|refine ai ?_|fail
     exact aX<|.refl _
    |true=>
     have e:=cX bq;rw[jb]at e;rw[bq,aC rfl,<-e]at U;simp only[go_sem];by_cases V:T=b
     ·have hd:decide (T=b)=true:=dr V;rw[aC (by rw[V])]at U
      rw[U];repeat' first|((first|refine hI O ?_|refine ae ?_);simp only[go_sem])|refine bp ?_|(refine bz ?_ ?_<;>intro h<;>try exact bx h)|fail
      all_goals first|(exfalso;revert h;simp[V];done)|exact aX<|.refl _
     ·have hd:decide (T=b)=false:=b0 V;rw[ar (oq V)]at U;rw[U];repeat' first|((first|refine hI O ?_|refine ae ?_);simp only[go_sem])|refine bp ?_|(refine bz ?_ ?_<;>intro h<;>try exact bx h)|fail
      all_goals first|(exfalso;revert h;simp[V];done)|exact aX<|.refl _
end Go.Proofs.YtnmamncmpklliaaGreatDoor
