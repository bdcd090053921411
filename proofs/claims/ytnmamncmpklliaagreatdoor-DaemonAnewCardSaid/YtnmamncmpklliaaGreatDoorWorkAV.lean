/- What the functions of this seat answer (22 of 53). No condition. -/
import Derived.Test.YtnmamncmpklliaaGreatDoorWorkAT
set_option linter.unusedSimpArgs false
set_option linter.unusedVariables false
set_option maxRecDepth 100000
set_option maxHeartbeats 16000000
namespace Go.Proofs.YtnmamncmpklliaaGreatDoor
open Go.Proofs.Tryz
def eS(o:aX):ag:=ct o.at_.c.toNat++(ct o.at_.r.toNat++(ct o.kind.toNat++(ct o.node.toNat++(if o.kind=1 then ct o.parent.toNat++gF o.name else gF o.data))))
def qV(b:ag)(o:aX):ag×Int:=if b0 o=true then(b++eS o,0)else([],50)
theorem O2{o:aX}(h:b0 o=true):(o.kind=1\/o.kind=2)/\(0<=o.at_.c/\o.at_.c<=1048576)/\(0<=o.at_.r/\o.at_.r<=63)/\(0<=o.node/\o.node<=134217856)/\(o.kind=1->0<=o.parent/\o.parent<=134217856):=by
 unfold b0 o8 tS ve at h;simp only[cV,Bool.or_eq_true,gU]at h;obtain⟨⟨⟨hk,h1⟩, -⟩,h2⟩:=h;have af:fV o.node=true:=by
  split at h2
  ·simp only[cV]at h2;exact h2.1.1.1.1
  ·simp only[cV]at h2;exact h2.1.1.1.1
 have af:=Bg.1 af;refine⟨hk,iV,iV,iV,λh=>?_⟩
 rw[aA h]at h2;simp only[cV]at h2;have hd:=h2.1.1.1.2;unfold dm fV at hd;simp only[cV,Bool.or_eq_true,gU]at hd;omega
theorem aJe(b:ag)(n m k j:Nat)(f:Bool)(af:n<=9223372036854775807)(hm:m<=9223372036854775807)(hk:k<=9223372036854775807)(U:j<=9223372036854775807)(J:b.length+36<=140737488355328)(H:ab):
  aM prog 49 [.str b,.sl f [.int .i64 n,.int .i64 m,.int .i64 k,.int .i64 j]] H (.aQ [.str (b++(ct n++(ct m++(ct k++ct j)))),.int .i64 0]):=by
 simpa using XS b [n,m,k,j] f nX (by simpa using J) H
theorem aJf(b:ag)(o:aX)(q:Nat)(aJ:o.parent=q)(J:q<=9223372036854775807)(af:o.name.length<=1073741824)(U:b.length<=1073741824)(H:ab):aM prog 355 [bh o,.str b] H (.str<|b++(ct q++gF o.name)):=by
 refine aZ func355 ?_;have h1:=Kp b q true J iV
 have K:=oQ (n:=q) iV
 have h2:=GJ (b++ct q) o.name (by rw[bF];omega) iV<|by rw[bF];omega
 simp only[bh,aJ];repeat' first|(refine ae ?_;simp only[go_sem])|refine ao ?_|fail
 exact aV<|.refl _
theorem aJg(b:ag)(o:aX)(af:o.data.length<=1073741824)(J:b.length<=1073741824)(H:ab):aM prog 357 [bh o,.str b] H (.str<|b++gF o.data):=by
 refine aZ func357 ?_;have h2:=GJ b o.data iV iV iV
 simp only[bh];repeat' first|(refine ae ?_;simp only[go_sem])|refine ao ?_|fail
 exact aV<|.refl _
theorem XX(b:ag)(o:aX)(hs:hD o)(aa:b.length<=1000000000)(H:ab):
  aM prog 122 [.str b,bh o] H (.aQ [.str (qV b o).1,.int .i64 (qV b o).2]):=by
 refine aZ func122 ?_;have O:=Dd o hs;have hk:=Oc o;unfold qV;by_cases T:b0 o=true
 ·obtain⟨fO,cq,cT,dP,mA⟩:=O2 T;rw[aA T];rw[T]at O;obtain⟨U,av⟩:∃n:Nat,o.at_.c=n:=⟨o.at_.c.toNat,iV⟩
  obtain⟨fh,al⟩:∃n:Nat,o.at_.r=n:=⟨o.at_.r.toNat,iV⟩
  obtain⟨J,Z⟩:∃n:Nat,o.kind=n:=⟨o.kind.toNat,iV⟩
  obtain⟨K,V⟩:∃n:Nat,o.node=n:=⟨o.node.toNat,iV⟩
  have ad:=aJe b U fh J K true iV iV iV iV iV
  have ca:=oQ (n:=U) iV
  have cy:=oQ (n:=fh) iV
  have ku:=oQ (n:=J) iV
  have th:=oQ (n:=K) iV
  have bX:(b++(ct U++(ct fh++(ct J++ct K)))).length<=b.length+36:=by simp only[bF];omega
  obtain⟨af,hd⟩:=hs;rcases fO with h1|h1
  ·obtain⟨I,z⟩:∃n:Nat,o.parent=n:=⟨o.parent.toNat,by have:=mA h1;omega⟩
   have ah:=aJf (b++(ct U++(ct fh++(ct J++ct K)))) o I z iV af iV
   have h0:b++eS o=b++(ct U++(ct fh++(ct J++ct K)))++(ct I++gF o.name):=by unfold eS;rw[aA h1,av,al,Z,V,z];simp
   rw[h0];generalize b++(ct U++(ct fh++(ct J++ct K)))=B at *;have h3:J=1:=iV
   subst h3;simp only[bh,h1,dG]at O hk ah ⊢;simp only[av,al,V]at O hk ah ad ⊢;repeat' first|((first|refine oK (ah _) aK ?_|refine oL (λ_=>ah _) aK ?_|refine oM (λ_=>ah _) aK ?_|refine ae ?_);simp only[go_sem])|refine ao ?_|fail
   exact aV<|.refl _
  ·have ah:=aJg (b++(ct U++(ct fh++(ct J++ct K)))) o hd iV
   have ed:¬o.kind=1:=iV
   have h0:b++eS o=b++(ct U++(ct fh++(ct J++ct K)))++gF o.data:=by unfold eS;rw[aj ed,av,al,Z,V];simp
   rw[h0];generalize b++(ct U++(ct fh++(ct J++ct K)))=B at *;have h3:J=2:=iV
   subst h3;simp only[bh,h1,dG,gz,Int.reduceEq]at O hk ah ⊢;simp only[bh,av,al,V]at O hk ah ad ⊢;repeat' first|((first|refine oK (ah _) aK ?_|refine oL (λ_=>ah _) aK ?_|refine oM (λ_=>ah _) aK ?_|refine ae ?_);simp only[go_sem])|refine ao ?_|fail
   exact aV<|.refl _
 ·have ax:b0 o=false:=by simpa using T
  rw[aj T];rw[ax]at O;simp only[bh]at O ⊢;repeat' first|(refine ae ?_;simp only[go_sem])|refine ao ?_|fail
  exact aV<|.refl _
def xL(l:List aX):ag×Int:=if l.all b0=true then(l.flatMap eS,0)else([],50)
theorem XY(o:aX):eS o≠[]:=λh=>by
 unfold eS ct at h;simp at h
def vd(i m:Nat):I:=if m=0 then .dO else .ref i 0 0
def k8(i m:Nat)(t:ag):ab:=[.c5 ov 0 [vd i m,.osl 1 (i+1) (m+1) 0 t.length t.length],.c5 uS (m+1)<|ch t]
theorem aJh(i m:Nat):vd i m=.dO\/vd i m=.ref i 0 0:=by unfold vd;split<;>simp
theorem Wh(H L:ab)(m:Nat)(t s:ag)(hl:t.length+s.length<=140737488355328):
  dp prog 134 [.ref H.length 0 0,.str s] (H++(k8 H.length m t++L)) (λv H'=>v=.aQ [.int .i64 s.length,.nilIface]/\H'=H++(k8 H.length (m+1) (t++s)++L)):=by
 refine(aMA (p:=vd H.length m) (i:=H.length) (j:=H.length+1) (k:=m) (t:=t) (s:=s) (by simp[k8]) (aJh _ _) (by simp[k8]) hl).mono ?_
 rintro v H' ⟨rfl,rfl⟩;refine⟨rfl,?_⟩;simp[k8,ar,vd]
theorem aJi(H L:ab)(m:Nat)(t:ag)(hm:m≠0->t≠[])(aw:m=0->t=[])(hl:t.length<=1000000000000):
  dp prog 135 [.ref H.length 0 0] (H++(k8 H.length m t++L)) (λv H'=>v=.str t/\∃B,H'=H++(B++L)/\B.length=2):=by
 by_cases h:m=0
 ·subst h;rw[aw rfl];refine(aMd (i:=H.length) (x:=.osl 1 (H.length+1) 1 0 0 0) (by simp[k8,vd])).mono ?_
  rintro v H' ⟨rfl,rfl⟩;exact⟨rfl,_,rfl,rfl⟩
 ·refine(YQ (p:=vd H.length m) (i:=H.length) (j:=H.length+1) (k:=m+1) (t:=t) (by simp[k8]) (by simp[k8]) iV (hm h) hl).mono ?_
  rintro v H' ⟨rfl,rfl⟩;exact⟨rfl,[.c5 ov 0 [vd H.length m,.osl 1 (H.length+1) (m+1) 0 t.length t.length],.gone],by simp[k8,ar],rfl⟩
theorem aGD(l:List aX)(f:Bool)(hs:∀o∈l,hD o)(af:l.length<=1000000)(hl:(l.flatMap eS).length<=1000000000)(H:ab):
  aM prog 81 [.sl f (l.map bh)] H (.aQ [.str (xL l).1,.int .i64 (xL l).2]):=by
 refine aZ func81 ?_;iterate 3 first|(refine ae ?_;simp only[go_sem])|refine ao ?_|fail
 refine YP (Y:=uS) n2 rfl ?_
 simp only[go_sem];repeat' first|(refine ae ?_;simp only[go_sem])|refine ao ?_|fail
 refine cE (ι:=Nat×ab) (λs=>[(4,.ref H.length 0 0),(9,.sl f<|l.map bh),(10,.int .i64 l.length),(11,.int .i64 s.1)]) (λs=>H++(k8 H.length s.1 ((l.take s.1).flatMap eS)++s.2)) (λs=>s.1<=l.length/\(l.take s.1).all b0=true) (λs=>l.length-s.1) (0,[]) ⟨bW _,rfl⟩ ?_ rfl ?_
 ·simp[go_sem]
 rintro⟨m,L⟩ ⟨hm,U⟩;simp only at hm U ⊢;by_cases J:m<l.length
 ·have K:=di bh J;have Z:=hs _<|ga J;have O:(l.take (m+1)).flatMap eS=(l.take m).flatMap eS++eS l[m]:=by rw[Gi,da J,tE];simp
  have I:(l.take (m+1)).all b0=(b0 l[m]):=by rw[Gi,da J,List.all_append,U];simp
  have z:((l.take (m+1)).flatMap eS).length<=(l.flatMap eS).length:=by
   have:l.flatMap eS=(l.take (m+1)).flatMap eS++(l.drop (m+1)).flatMap eS:=by rw[<-tE,pY]
   rw[this,bF];omega
  have te:b0 l[m]=false->l.all b0=false:=λh=>by
   cases au:l.all b0 with
   |false=>rfl
   |true=>rw[gm.1 au _ (ga J)]at h;cases h
  obtain⟨o,Rz⟩:∃o,o=l[m]:=⟨_,rfl⟩;rw[<-Rz]at K Z O I te;rw[O,bF]at z;have ad:=XX [] o Z kk
  unfold qV at ad;have V:decide ((m:Int)<(l.length:Int))=true:=cK;have hw:=dA J iV
  obtain⟨T,h0⟩:∃T,(l.take m).flatMap eS=T:=⟨_,rfl⟩;rw[h0]at O z ⊢;have aa:=Wh H (L++[.cells 0 (bh o).cells]) m T (eS o) iV
  obtain⟨G,aW⟩:∃G,H++(k8 H.length m T++L)=G:=⟨_,rfl⟩;rw[show H++(k8 H.length m T++(L++[.cells 0 (bh o).cells]))=G++[.cells 0 (bh o).cells] by rw[<-aW];simp]at aa
  rw[aW];simp only[bh]at K ad;cases hO:b0 o with
  |true=>
   rw[hO,aA rfl]at ad;repeat' first|(refine ae ?_;simp only[go_sem,K,V,J])|refine ao ?_|fail
   refine dU aa aK ?_;rintro v H' ⟨rfl,rfl⟩;simp only[go_sem];repeat' first|(refine ae ?_;simp only[go_sem,hw])|refine ao ?_|fail
   exact⟨(m+1,L++[.cells 0 (bh o).cells]),⟨iV,by rw[I,hO]⟩,by simp only;omega,rfl,by simp only[O]⟩
  |false=>
   rw[hO,aj nofun]at ad;repeat' first|(refine ae ?_;simp only[go_sem,K,V,J])|refine ao ?_|fail
   rw[<-aW,dr];exact aV<|.of (by unfold xL;rw[te hO];rfl)
 ·have V:decide ((m:Int)<(l.length:Int))=false:=cQ;obtain rfl:m=l.length:=iV
  rw[eG]at U ⊢;refine hH ?_;have aN:l.length≠0->l.flatMap eS≠[]:=λh h2=>by
   cases l with
   |nil=>exact h rfl
   |cons o l=>exact XY o (List.append_eq_nil_iff.1<|by rw[nj]at h2;exact h2).1
  refine dU (aJi H L l.length (l.flatMap eS) aN (λh=>by rw[iO h];rfl) iV) aK ?_
  rintro v H' ⟨rfl,B,rfl,bX⟩;simp only[go_sem];refine aW ?_;exact aV<|.of (by unfold xL;rw[aA U])
def JP(c:b8):Bool:=decide (1000<(c.path.length:Int))||decide (1000<(c.to.length:Int))||decide (5000<(c.data.length:Int))
def Dg(l:List b8)(n:Int):Bool:=l.all (λx=> !JP x)&&decide ((l.length:Int)<=n)
theorem YC(a b:eb):(decide (a.kind=b.kind)&&decide (a.path=b.path))=decide (a=b):=by
 obtain⟨_,_⟩:=a;obtain⟨_,_⟩:=b;rw[pf];simp
theorem Xa(aO bo:Bool)(l m:List eb)(H:ab):aM prog 125 [.sl aO (l.map c9),.sl bo<|m.map c9] H (.bool<|decide (l=m)):=by
 refine po λU _=>?_
 have hl:=oi U;rw[cv]at hl;refine aZ func125 ?_;repeat' first|(refine ae ?_;simp only[go_sem])|refine bt ?_|(refine bB ?_ ?_<;>intro h<;>try exact bA h)|fail
 ·exact bD<|.of (by rw[bN (λe=>by subst e;simp at h)])
 ·have hlen:l.length=m.length:=by simp at h;omega
  refine cE (ι:=Nat) (λi=>[(0,.sl aO<|l.map c9),(1,.sl bo<|m.map c9),(5,.int .i64 i)]) (λ_=>H) (λi=>i<=l.length/\l.take i=m.take i) (λi=>l.length-i) 0 ⟨bW _,rfl⟩ ?_ rfl ?_
  ·simp[go_sem]
  ·rintro i ⟨hi,he⟩;by_cases J:i<l.length
   ·have ad:=di c9 J;have aJ:=di c9<|show i<m.length by omega
    repeat' first|(refine ae ?_;simp only[go_sem,ad,aJ,c9])|refine bt ?_|(refine bB ?_ ?_<;>intro h<;>try exact bA h)|fail
    ·rw[YC]at h;have K:l[i]≠m[i]:=by simpa using h
     exact bD<|.of (by rw[bN (λe=>K (by subst e;rfl))])
    ·rw[YC]at h;have heq:l[i]=m[i]:=by simpa using h
     exact⟨i+1,⟨J,by rw[fj J,fj iV,he,heq]⟩,iV,by rw[bI];rfl⟩
   ·have O:i=l.length:=iV
    subst O;repeat' first|(refine ae ?_;simp only[go_sem])|refine bt ?_|(refine bB ?_ ?_<;>intro h<;>try exact bA h)|fail
    exact bD<|.of (by rw[cD (by rw[eG,hlen,eG]at he;exact he)])
theorem aJj(aO bo:Bool)(l m:List ag)(H:ab):aM prog 89 [.sl aO (l.map BT),.sl bo<|m.map BT] H (.bool<|decide (l=m)):=by
 refine po λU _=>?_
 have hl:=oi U;rw[cv]at hl;refine aZ func89 ?_;repeat' first|(refine ae ?_;simp only[go_sem])|refine bt ?_|(refine bB ?_ ?_<;>intro h<;>try exact bA h)|fail
 ·exact bD<|.of (by rw[bN (λe=>by subst e;simp at h)])
 ·have hlen:l.length=m.length:=by simp at h;omega
  refine cE (ι:=Nat) (λi=>[(0,.sl aO<|l.map BT),(1,.sl bo<|m.map BT),(5,.int .i64 i)]) (λ_=>H) (λi=>i<=l.length/\l.take i=m.take i) (λi=>l.length-i) 0 ⟨bW _,rfl⟩ ?_ rfl ?_
  ·simp[go_sem]
  ·rintro i ⟨hi,he⟩;by_cases J:i<l.length
   ·have ad:=di BT J;have aJ:=di BT<|show i<m.length by omega
    repeat' first|(refine ae ?_;simp only[go_sem,ad,aJ,BT])|refine bt ?_|(refine bB ?_ ?_<;>intro h<;>try exact bA h)|fail
    ·skip
     have K:l[i]≠m[i]:=by simpa using h
     exact bD<|.of (by rw[bN (λe=>K (by subst e;rfl))])
    ·skip
     have heq:l[i]=m[i]:=by simpa using h
     exact⟨i+1,⟨J,by rw[fj J,fj iV,he,heq]⟩,iV,by rw[bI];rfl⟩
   ·have O:i=l.length:=iV
    subst O;repeat' first|(refine ae ?_;simp only[go_sem])|refine bt ?_|(refine bB ?_ ?_<;>intro h<;>try exact bA h)|fail
    exact bD<|.of (by rw[cD (by rw[eG,hlen,eG]at he;exact he)])
theorem aJk(aO:Bool)(l:List b8)(n:Int)(H:ab):aM prog 32 [.sl aO (l.map c4),.int .i64 n] H (.bool<|Dg l n):=by
 refine po λO _=>?_
 have hl:=oi O;rw[cv]at hl;refine aZ func32 ?_;refine aW ?_;refine cE (ι:=Nat) (λi=>[(0,.sl aO<|l.map c4),(1,.int .i64 n),(5,.int .i64 i)]) (λ_=>H) (λi=>i<=l.length/\∀x∈l.take i,JP x=false) (λi=>l.length-i) 0 ⟨bW _,kk⟩ ?_ rfl ?_
 ·simp[go_sem]
 ·rintro i ⟨hi,he⟩;by_cases U:i<l.length
  ·have ad:=di c4 U;repeat' first|(refine ae ?_;simp only[go_sem,ad,c4])|refine bt ?_|(refine bB ?_ ?_<;>intro h<;>try exact bA h)|fail
   ·exact bD (.of (by
     have:Dg l n=false:=by
      unfold Dg;rw[Bool.and_eq_false_iff];left;rw[wB];intro q;have K:=gm.1 q l[i] (ga _);have T:JP l[i]=true:=h;rw[T]at K;cases K
     rw[this]))
   ·refine⟨i+1,⟨U,λx J=>?_⟩,iV,by rw[bI];rfl⟩
    rw[fj U,e4]at J;rcases J with J|J
    ·exact he x J
    ·simp at J;subst J;exact h
  ·have V:i=l.length:=iV
   subst V;repeat' first|(refine ae ?_;simp only[go_sem])|refine bt ?_|(refine bB ?_ ?_<;>intro h<;>try exact bA h)|fail
   refine bD<|.of ?_;rw[eG]at he;have:l.all (λx=> !JP x)=true:=gm.2 λx J=>by rw[he x J];rfl
   rw[Dg,this,sH]
theorem Xb(aO bo:Bool)(l m:List ag)(H:ab):aM prog 89 [.sl aO (l.map I.str),.sl bo<|m.map I.str] H (.bool<|decide (l=m)):=aJj aO bo l m H
def vk(f2 f3:Bool)(a:nn):I:=.agg [.int .i64 a.err,.str a.data,.sl f2<|a.names.map I.str,.int .i64 a.n,.sl f3<|a.events.map c9]
theorem aKW(a b:nn):(decide (a.names=b.names)&&decide (a.events=b.events)&&decide (a.err=b.err)&&decide (a.data=b.data)&&decide (a.n=b.n))=decide (a=b):=by
 obtain⟨_,_,_,_,_⟩:=a;obtain⟨_,_,_,_,_⟩:=b;rw[pf];simp;constructor<;>(intro h;simp_all)
theorem aMi(f2 f3 g2 g3:Bool)(a b:nn)(H:ab):aM prog 140 [vk f2 f3 a,vk g2 g3 b] H (.bool<|decide (a=b)):=by
 refine aZ func140 ?_;have h1:=Xb f2 g2 a.names b.names;have h2:=Xa f3 g3 a.events b.events;rw[<-aKW];refine bP vk.eq_1 ?_;refine aV<|.of (bU I.bool ?_);generalize decide (a.names=b.names)=J;generalize decide (a.events=b.events)=U;cases J<;>cases U<;>simp[Bool.and_assoc]
end Go.Proofs.YtnmamncmpklliaaGreatDoor
