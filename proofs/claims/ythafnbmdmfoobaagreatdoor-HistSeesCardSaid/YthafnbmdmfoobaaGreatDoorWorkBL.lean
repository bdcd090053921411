/- What the functions of this seat answer (38 of 40). No condition. -/
import Derived.Test.YthafnbmdmfoobaaGreatDoorWorkBJ
set_option linter.unusedSimpArgs false
set_option linter.unusedVariables false
set_option maxRecDepth 100000
set_option maxHeartbeats 16000000
namespace Go.Proofs.YthafnbmdmfoobaaGreatDoor
open Go.Srt
def u6:List cR:=[.free,.free,.free,.free,.free,.free,.free,.free,.pure 0,.pure 0,.free,.free,.pure 0,.pure 0,.pure 0,.eff [false,false,true,false,false],.pure 0,.eff [false,false]]
attribute [go_sem] u6
theorem M5{D:List a9}{k:Nat}(h:k<D.length):List.take 14 (List.drop (k * 14) (dG D))=rE D[k]:=by
 have e:D=D.take k++D[k]::D.drop (k+1):=by rw[<-eo h,jf]
 have h2:=tW (A:=D.take k) (x:=D[k]) (R:=D.drop (k+1)) (k:=k) (by rw[e8];omega)
 rw[<-e]at h2;exact h2
theorem aGe{lt:a9->a9->Bool}(hw:SWO lt){B:List a9}(bK:e9 lt B){x:a9}{h:Nat}(ah:h<B.length)(J:lt B[h] x=true)(k:Nat)(hk:k<=h):lt (B[k]'(by omega)) x=true:=by
 by_cases e:k=h
 ·subst e;exact J
 ·exact hw.Ph (bK.get (show k<h by omega) ah) J
theorem aGf{lt:a9->a9->Bool}(hw:SWO lt){B:List a9}(bK:e9 lt B){x:a9}{h:Nat}(ah:h<B.length)(J:lt B[h] x=false)(k:Nat)(hk:h<=k)(gD:k<B.length):lt B[k] x=false:=by
 by_cases e:k=h
 ·subst e;exact J
 ·exact hw.yz _ _ _ (bK.get (show h<k by omega) gD) J
theorem aE9{lt:a9->a9->Bool}(hw:SWO lt){B:List a9}(bK:e9 lt B){x:a9}{h:Nat}(ah:h<B.length)(J:lt x B[h]=false)(k:Nat)(hk:k<=h):lt x (B[k]'(by omega))=false:=by
 by_cases e:k=h
 ·subst e;exact J
 ·exact hw.yz _ _ _ J (bK.get (show k<h by omega) ah)
theorem aFa{lt:a9->a9->Bool}(hw:SWO lt){B:List a9}(bK:e9 lt B){x:a9}{h:Nat}(ah:h<B.length)(J:lt x B[h]=true)(k:Nat)(hk:h<=k)(gD:k<B.length):lt x B[k]=true:=by
 by_cases e:k=h
 ·subst e;exact J
 ·exact hw.O5 J (bK.get (show h<k by omega) gD)
theorem KI{B:List a9}{i:Nat}{p:a9->Prop}(hi:i<=B.length)(h:∀k (hk:k<i),p (B[k]'(by omega))):∀y∈B.take i,p y:=by
 intro y aG;obtain⟨k,hk,rfl⟩:=s5 aG;rw[e8]at hk;rw[List.getElem_take];exact h k (by omega)
theorem KJ{B:List a9}{i:Nat}{p:a9->Prop}(h:∀k (_:i<=k) (hk:k<B.length),p B[k]):∀y∈B.drop i,p y:=by
 intro y aG;obtain⟨k,hk,rfl⟩:=s5 aG;rw[gL]at hk;rw[List.getElem_drop];exact h _ (by omega) (by omega)
theorem aFb{X B Y D:List a9}{x:a9}{n:Nat}{a m b:Int}{lt:a9->a9->Bool}{c:a9->a9->Int}(hw:SWO lt)(al:∀x y,decide (c x y<0)=lt x y)
  (cD:D=X++x::(B++Y)) (bK:e9 lt B) (E2:0<B.length) (ag:n=D.length) (aD:a=X.length) (hm:m=(X.length+1:Nat)) (aa:b=(X.length+1+B.length:Nat)) (fn:Fn) (fs cs:List I) (an:xD Tryz.prog (.func fn fs cs) c) (H:ab) (aE v lc:Nat)
  (ah:ao H aE=.cells v (dG D)) (hl:n<=1000000000):
  c5 Tryz.prog 86 [.osl 14 aE v 0 n lc,.int .i64 a,.int .i64 m,.int .i64 b,.func fn fs cs] H
   (fun r H'=>r=.a0 []∧∃S,fm lt (x::B) S∧e9 lt S∧H'=ai H aE (.cells v (dG (X++(S++Y))))):=by
 refine eJ Tryz.func86 ?_;have fX:=fun b=>m2 ah trivial b
 have js:=nw H aE;have hlen:n=X.length+(1+(B.length+Y.length)):=by rw[ag,cD];simp only[bt,cm];omega
 have ca:IntKind.i64.wrap (m-a)=1:=by subst hm aD;rw[cB];omega
 obtain⟨M,kO⟩:∃M,M=X.length+1:=⟨_,rfl⟩;rw[<-kO]at hm aa;have NO:∀k (hk:k<B.length),D[M+k]'(by omega)=B[k]:=by
  intro k hk;have e:D=(X++[x])++(B++Y):=by rw[cD,cr];rfl
  have au:M=(X++[x]).length:=by rw[kO,bt];rfl
  subst e au;rw[Hl (by omega),Lb (by omega)]
  congr 1;omega
 have NC:List.take 14 (List.drop (X.length * 14) (dG D))=rE x:=by rw[cD];exact tW rfl
 have aKD:X.length * 14+14<=(dG D).length:=by rw[oa];omega
 subst hm aa aD;repeat' first|(refine ad ?_;simp only[go_sem,ca])|refine af ?_|fail
 refine b5 (ι:=Nat×Nat) (fun s=>[(0,.osl 14 aE v 0 n lc),(1,.int .i64 X.length),(4,.func fn fs cs),(10,.int .i64 (M+s.1:Nat)),(11,.int .i64 (M+s.2:Nat))]) (fun _=>H)
  (fun s=>s.1<=s.2∧s.2<=B.length∧(∀k (hk:k<s.1) (eb:k<B.length),lt B[k] x=true)∧(∀k (_:s.2<=k) (hk:k<B.length),lt B[k] x=false)) (fun s=>s.2-s.1) (0,B.length) ⟨bG _,bk _,fun k hk=>by omega,fun k h1 h2=>by omega⟩ ?_ rfl ?_
 ·simp[go_sem]
 ·rintro⟨i,j⟩ ⟨h1,h2,h3,h4⟩;simp only at h1 h2 h3 h4 ⊢;by_cases gp:i<j
  ·obtain⟨u,Of⟩:∃u,(M+i+(M+j)) / 2=M+u:=⟨(M+i+(M+j)) / 2-M,by omega⟩
   have z1:u<B.length:=by omega
   have sr:=Ei (i:=M+i) (j:=M+j) (n:=M+B.length) (by omega) (by omega) (by omega)
   rw[Of]at sr;obtain⟨K,b0⟩:∃K,K=M+u:=⟨_,rfl⟩;have zF:List.take 14 (List.drop (K * 14) (dG D))=rE B[u]:=by subst b0;rw[M5 (by omega),NO u z1]
   have aIS:K * 14+14<=(dG D).length:=by rw[oa];omega
   have bT:IntKind.i64.wrap ((K:Int)+1)=((M+(u+1):Nat):Int):=b9 (by omega) (by omega)
   rw[<-b0]at sr;have aH:decide (((M+i:Nat):Int)<((M+j:Nat):Int))=true:=b1;repeat' first|((first|refine mx [11,23] u6 ?_|refine ad ?_);simp only[go_sem,aH,sr,ah,zF,NC])|refine af ?_|fail
   (repeat'(with_reducible refine And.intro ?_ ?_))<;>try(first|omega|rfl)
   refine KO an ?_;simp only[go_sem,al];cases cV:lt B[u] x with
   |false=>
    repeat' first|(refine ad ?_;simp only[go_sem,cV,bT])|refine af ?_|fail
    exact⟨(i,u),⟨by simp only;omega,by simp only;omega,h3,fun k aQ aO=>aGf hw bK z1 cV k aQ aO⟩,by simp only;omega,rfl,by rw[b0]⟩
   |true=>
    repeat' first|(refine ad ?_;simp only[go_sem,cV,bT])|refine af ?_|fail
    exact⟨(u+1,j),⟨by simp only;omega,by simp only;omega,fun k aQ aO=>aGe hw bK z1 cV k (by omega),h4⟩,by simp only;omega,rfl,rfl⟩
  ·have hW:j=i:=by omega
   subst hW;have aH:decide (((M+j:Nat):Int)<((M+j:Nat):Int))=false:=cg;have bT:IntKind.i64.wrap (((M+j:Nat):Int)-1)=((X.length+j:Nat):Int):=b9 (by omega) (by omega)
   have iq:∀y∈B.take j,lt y x=true:=KI h2 fun k hk=>h3 k hk (by omega)
   have hT:∀y∈B.drop j,lt y x=false:=KJ h4;have nB:=jf j B;have cH:(B.take j).length=j:=by rw[e8];omega
   generalize B.take j=P at *;generalize B.drop j=R at *;repeat' first|(refine ad ?_;simp only[go_sem,aH])|refine af ?_|fail
   refine b5 (ι:=Nat) (fun t=>[(0,.osl 14 aE v 0 n lc),(10,.int .i64 (M+j:Nat)),(13,.int .i64 (X.length+t:Nat))])
    (fun t=>ai H aE (.cells v (dG ((X++P.take t)++x::(P.drop t++(R++Y)))))) (fun t=>t<=j) (fun t=>j-t) 0 (bG _) ?_ ?_ ?_
   ·simp[go_sem]
   ·rw[<-nB,cr]at cD;simp only[xr,List.drop_zero,b2];rw[<-cD];exact(oY ah trivial).symm
   ·intro t aj;by_cases Wv:t<j
    ·have ar:P.drop t=P[t]'(by omega)::P.drop (t+1):=eo (by omega)
     have au:P.take (t+1)=P.take t++[P[t]'(by omega)]:=eB (by omega)
     have iw:(P.drop (t+1)).length=j-(t+1):=by rw[gL,cH]
     have FP:(P.take t).length=t:=by rw[e8];omega
     have Vw:P.length+R.length=B.length:=by rw[<-nB,bt]
     rw[ar];generalize P[t]'(by omega)=y at *
     obtain⟨p,ae⟩:∃p,p=X.length+t:=⟨_,rfl⟩;obtain⟨q,aS⟩:∃q,q=X.length+t+1:=⟨_,rfl⟩;have dL:IntKind.i64.wrap ((p:Int)+1)=(q:Int):=b9 (by omega) (by omega)
     have kg:decide ((p:Int)<((X.length+j:Nat):Int))=true:=b1;have cu:(X++P.take t).length=p:=by rw[bt,FP,ae]
     have dC:∀z,((X++P.take t)++[z]).length=q:=fun z=>by rw[bt,cu,uv,ae,aS]
     have aZ:=tW (x:=x) (R:=y::(P.drop (t+1)++(R++Y))) cu;have a7:=tW (x:=y) (R:=P.drop (t+1)++(R++Y)) (dC x);have s1:=yF (x:=x) (y:=y) (R:=y::(P.drop (t+1)++(R++Y))) cu;have s2:=yF (x:=y) (y:=x) (R:=P.drop (t+1)++(R++Y)) (dC y);simp only[cr,gi,gK]at aZ a7 s1 s2;rw[<-ae];have Fw:∀z w,q * 14+14<=(dG (X++(P.take t++z::w::(P.drop (t+1)++(R++Y))))).length:=fun z w=>by rw[oa];simp only[bt,cm];omega
     have fe:∀z w,p * 14+14<=(dG (X++(P.take t++z::w::(P.drop (t+1)++(R++Y))))).length:=fun z w=>by rw[oa];simp only[bt,cm];omega
     have dq:=fe x y;have bZ:=Fw x y;have dO:=Fw y y;repeat' first|((first|refine mx [11,23] u6 ?_|refine ad ?_);simp only[go_sem,fX,js,bT,dL,kg,aZ,a7,s1,s2,wU,GM])|refine af ?_|fail
     (repeat'(with_reducible refine And.intro ?_ ?_))<;>try(first|omega|rfl)
     repeat' first|((first|refine mx [11,23] u6 ?_|refine ad ?_);simp only[go_sem,dL])|refine af ?_|fail
     refine⟨t+1,Wv,by omega,by rw[aS];rfl,?_⟩
     rw[au];simp only[cr,gi,gK]
    ·have CJ:t=j:=by omega
     have kg:decide (((X.length+t:Nat):Int)<((X.length+j:Nat):Int))=false:=cg;repeat' first|((first|refine mx [11,23] u6 ?_|refine ad ?_);simp only[go_sem,bT,kg])|refine af ?_|fail
     refine lS (vf _ _ _) _ ⟨rfl,P++x::R,?_,?_,?_⟩
     ·have h:=(fm.swap hw (A:=[x]) (B:=P) (fun a aD b aa=>by rw[dA]at aD;subst aD;exact iq b aa)).app (.refl (lt:=lt) R)
      rw[<-nB];simpa using h
     ·rw[<-nB]at bK;refine e9.app bK.left (qd.2 ⟨hT,bK.right⟩) fun y aG z a2=>?_
      rcases c7.1 a2 with rfl|a2
      ·exact hw.No _ _ (iq y aG)
      ·exact bK.EM y aG z a2
     ·rw[CJ,<-cH,eQ,l7];simp only[cr,gi,gK]
theorem aFc{X B Y D:List a9}{x:a9}{n:Nat}{a m b:Int}{lt:a9->a9->Bool}{c:a9->a9->Int}(hw:SWO lt)(al:∀x y,decide (c x y<0)=lt x y)
  (cD:D=X++(B++x::Y)) (bK:e9 lt B) (E2:1<B.length) (ag:n=D.length) (aD:a=X.length) (hm:m=(X.length+B.length:Nat)) (aa:b=(X.length+B.length+1:Nat)) (fn:Fn) (fs cs:List I) (an:xD Tryz.prog (.func fn fs cs) c) (H:ab) (aE v lc:Nat)
  (ah:ao H aE=.cells v (dG D)) (hl:n<=1000000000):
  c5 Tryz.prog 86 [.osl 14 aE v 0 n lc,.int .i64 a,.int .i64 m,.int .i64 b,.func fn fs cs] H
   (fun r H'=>r=.a0 []∧∃S,fm lt (B++[x]) S∧e9 lt S∧H'=ai H aE (.cells v (dG (X++(S++Y))))):=by
 refine eJ Tryz.func86 ?_;have fX:=fun b=>m2 ah trivial b
 have js:=nw H aE;have hlen:n=X.length+(B.length+(Y.length+1)):=by rw[ag,cD];simp only[bt,cm]
 have ca:IntKind.i64.wrap (m-a)=(B.length:Int):=by subst hm aD;exact b9 (by omega) (by omega)
 have eW:IntKind.i64.wrap (b-m)=1:=by subst hm aa;rw[cB];omega
 have cH:decide ((B.length:Int)=1)=false:=cg;obtain⟨M,kO⟩:∃M,M=X.length+B.length:=⟨_,rfl⟩;rw[<-kO]at hm aa;have NO:∀k (hk:k<B.length),D[X.length+k]'(by omega)=B[k]:=by
  intro k hk;subst cD;rw[Hl (by omega),Lb (by omega)]
  congr 1;omega
 have NC:List.take 14 (List.drop (M * 14) (dG D))=rE x:=by
  have e:D=(X++B)++x::Y:=by rw[cD,cr]
  rw[e];exact tW (by rw[bt,kO])
 have aKD:M * 14+14<=(dG D).length:=by rw[oa];omega
 subst hm aa aD;repeat' first|(refine ad ?_;simp only[go_sem,ca,eW,cH])|refine af ?_|fail
 refine b5 (ι:=Nat×Nat) (fun s=>[(0,.osl 14 aE v 0 n lc),(2,.int .i64 M),(4,.func fn fs cs),(14,.int .i64 (X.length+s.1:Nat)),(15,.int .i64 (X.length+s.2:Nat))]) (fun _=>H)
  (fun s=>s.1<=s.2∧s.2<=B.length∧(∀k (hk:k<s.1) (eb:k<B.length),lt x B[k]=false)∧(∀k (_:s.2<=k) (hk:k<B.length),lt x B[k]=true)) (fun s=>s.2-s.1) (0,B.length) ⟨bG _,bk _,fun k hk=>by omega,fun k h1 h2=>by omega⟩ ?_ rfl ?_
 ·simp[go_sem,kO]
 ·rintro⟨i,j⟩ ⟨h1,h2,h3,h4⟩;simp only at h1 h2 h3 h4 ⊢;by_cases gp:i<j
  ·obtain⟨u,Of⟩:∃u,(X.length+i+(X.length+j)) / 2=X.length+u:=⟨(X.length+i+(X.length+j)) / 2-X.length,by omega⟩
   have z1:u<B.length:=by omega
   have sr:=Ei (i:=X.length+i) (j:=X.length+j) (n:=X.length+B.length) (by omega) (by omega) (by omega)
   rw[Of]at sr;obtain⟨K,b0⟩:∃K,K=X.length+u:=⟨_,rfl⟩;have zF:List.take 14 (List.drop (K * 14) (dG D))=rE B[u]:=by subst b0;rw[M5 (by omega),NO u z1]
   have aIS:K * 14+14<=(dG D).length:=by rw[oa];omega
   have bT:IntKind.i64.wrap ((K:Int)+1)=((X.length+(u+1):Nat):Int):=b9 (by omega) (by omega)
   rw[<-b0]at sr;have aH:decide (((X.length+i:Nat):Int)<((X.length+j:Nat):Int))=true:=b1;repeat' first|((first|refine mx [11,23] u6 ?_|refine ad ?_);simp only[go_sem,aH,sr,ah,zF,NC])|refine af ?_|fail
   (repeat'(with_reducible refine And.intro ?_ ?_))<;>try(first|omega|rfl)
   refine KO an ?_;simp only[go_sem,al];cases cV:lt x B[u]with
   |true=>
    repeat' first|(refine ad ?_;simp only[go_sem,cV,bT])|refine af ?_|fail
    exact⟨(i,u),⟨by simp only;omega,by simp only;omega,h3,fun k aQ aO=>aFa hw bK z1 cV k aQ aO⟩,by simp only;omega,rfl,by rw[b0]⟩
   |false=>
    repeat' first|(refine ad ?_;simp only[go_sem,cV,bT])|refine af ?_|fail
    exact⟨(u+1,j),⟨by simp only;omega,by simp only;omega,fun k aQ aO=>aE9 hw bK z1 cV k (by omega),h4⟩,by simp only;omega,rfl,rfl⟩
  ·have hW:j=i:=by omega
   subst hW;have aH:decide (((X.length+j:Nat):Int)<((X.length+j:Nat):Int))=false:=cg;have iq:∀y∈B.take j,lt x y=false:=KI h2 fun k hk=>h3 k hk (by omega)
   have hT:∀y∈B.drop j,lt x y=true:=KJ h4;have nB:=jf j B;have cH:(B.take j).length=j:=by rw[e8];omega
   have cO:(B.drop j).length=B.length-j:=gL ..;generalize B.take j=P at *;generalize B.drop j=R at *;repeat' first|(refine ad ?_;simp only[go_sem,aH])|refine af ?_|fail
   refine b5 (ι:=Nat) (fun t=>[(0,.osl 14 aE v 0 n lc),(14,.int .i64 (X.length+j:Nat)),(17,.int .i64 (X.length+j+t:Nat))])
    (fun t=>ai H aE (.cells v (dG (((X++P)++R.take t)++x::(R.drop t++Y))))) (fun t=>t<=R.length) (fun t=>t) R.length (bk _) ?_ ?_ ?_
   ·simp[go_sem];omega
   ·rw[<-nB]at cD;rw[eQ,l7,gK];have e:X++P++R++x::Y=D:=by rw[cD];simp only[cr]
    rw[e];exact(oY ah trivial).symm
   ·intro t aj;by_cases Wv:0<t
    ·obtain⟨t,rfl⟩:∃t',t=t'+1:=⟨t-1,by omega⟩
     have ar:R.drop t=R[t]'(by omega)::R.drop (t+1):=eo (by omega)
     have au:R.take (t+1)=R.take t++[R[t]'(by omega)]:=eB (by omega)
     have FP:(R.take t).length=t:=by rw[e8];omega
     have iw:(R.drop (t+1)).length=R.length-(t+1):=gL ..;rw[au];generalize R[t]'(by omega)=y at *
     obtain⟨p,ae⟩:∃p,p=X.length+j+t:=⟨_,rfl⟩;obtain⟨q,aS⟩:∃q,q=X.length+j+(t+1):=⟨_,rfl⟩;have dL:IntKind.i64.wrap ((q:Int)-1)=(p:Int):=b9 (by omega) (by omega)
     have kg:decide (((X.length+j:Nat):Int)<(q:Int))=true:=b1;have cu:((X++P)++R.take t).length=p:=by rw[bt,bt,FP,cH,ae]
     have dC:∀z,(((X++P)++R.take t)++[z]).length=q:=fun z=>by rw[bt,cu,uv,ae,aS];omega
     have aZ:=tW (x:=y) (R:=x::(R.drop (t+1)++Y)) cu;have a7:=tW (x:=x) (R:=R.drop (t+1)++Y) (dC y);have s1:=yF (x:=x) (y:=y) (R:=R.drop (t+1)++Y) (dC y);have s2:=yF (x:=y) (y:=x) (R:=y::(R.drop (t+1)++Y)) cu;simp only[cr,gi,gK]at aZ a7 s1 s2;rw[<-aS];have Fw:∀z w,q * 14+14<=(dG (X++(P++(R.take t++z::w::(R.drop (t+1)++Y))))).length:=fun z w=>by rw[oa];simp only[bt,cm];omega
     have fe:∀z w,p * 14+14<=(dG (X++(P++(R.take t++z::w::(R.drop (t+1)++Y))))).length:=fun z w=>by rw[oa];simp only[bt,cm];omega
     have dq:=fe y x;have bZ:=Fw y x;have dO:=fe y y;repeat' first|((first|refine mx [11,23] u6 ?_|refine ad ?_);simp only[go_sem,fX,js,dL,kg,aZ,a7,s1,s2,wU,GM])|refine af ?_|fail
     (repeat'(with_reducible refine And.intro ?_ ?_))<;>try(first|omega|rfl)
     repeat' first|((first|refine mx [11,23] u6 ?_|refine ad ?_);simp only[go_sem,dL])|refine af ?_|fail
     refine⟨t,by omega,by omega,by rw[ae,vJ],?_⟩
     rw[ar];rfl
    ·have CJ:t=0:=by omega
     subst CJ;have kg:decide (((X.length+j:Nat):Int)<((X.length+j:Nat):Int))=false:=cg;rw[uz];repeat' first|((first|refine mx [11,23] u6 ?_|refine ad ?_);simp only[go_sem,kg])|refine af ?_|fail
     refine lS (vf _ _ _) _ ⟨rfl,P++x::R,?_,?_,?_⟩
     ·rw[<-nB];exact TH hw hT
     ·rw[<-nB]at bK;exact TG hw bK hT iq
     ·simp only[cr,gi,gK,xr,List.drop_zero]
def aG7(lt:a9->a9->Bool)(X A B Y:List a9)(H:ab)(aE v:Nat)(r:I)(H':ab):Prop:=
 r=.a0 []∧∃S,fm lt (A++B) S∧e9 lt S∧H'=ai H aE (.cells v (dG (X++(S++Y))))
theorem aAz{X E M cW:Nat}(h:X+E<=2 * cW+1)(q:cW<M)(ga:M<=E):X<=cW+M-E∧E<=cW+M∧cW+M<=cW+M-E+E∧cW+M-E<=cW∧cW+M-E+E=cW+M:=by omega
theorem TS{lt:a9->a9->Bool}{c:a9->a9->Int}(hw:SWO lt)(al:∀x y,decide (c x y<0)=lt x y)(fn:Fn)(fs cs:List I)(an:xD Tryz.prog (.func fn fs cs) c)(aE v lc n:Nat)(hl:n<=1000000000):
  ∀(k:Nat) {X A B Y D:List a9} {a m b:Int},A.length+B.length<=k->D=X++(A++(B++Y))->e9 lt A->e9 lt B->0<A.length->0<B.length->n=D.length->a=X.length->m=(X.length+A.length:Nat)->b=(X.length+A.length+B.length:Nat)->
   ∀(H:ab),ao H aE=.cells v (dG D)->
  c5 Tryz.prog 86 [.osl 14 aE v 0 n lc,.int .i64 a,.int .i64 m,.int .i64 b,.func fn fs cs] H (aG7 lt X A B Y H aE v):=by
 intro k;induction k with
 |zero=>intro X A B Y D a m b hk;omega
 |succ k ay=>
  intro X A B Y D a m b hk cD cf bK uT E2 ag aD hm aa H ah;by_cases me:A.length=1
  ·obtain⟨x,rfl⟩:=List.length_eq_one_iff.1 me;exact aFb (X:=X) (B:=B) (Y:=Y) (x:=x) hw al (by rw[cD];rfl) bK E2 ag aD (by rw[hm];rfl) (by rw[aa];rfl) fn fs cs an H aE v lc ah hl
  by_cases tn:B.length=1
  ·obtain⟨x,rfl⟩:=List.length_eq_one_iff.1 tn;exact aFc (X:=X) (B:=A) (Y:=Y) (x:=x) hw al (by rw[cD];rfl) cf (by omega) ag aD hm (by rw[aa];rfl) fn fs cs an H aE v lc ah hl
  refine eJ Tryz.func86 ?_;have fX:=fun b=>m2 ah trivial b
  have js:=nw H aE;have hlen:n=X.length+(A.length+(B.length+Y.length)):=by rw[ag,cD];simp only[bt]
  have ca:IntKind.i64.wrap (m-a)=(A.length:Int):=by subst hm aD;exact b9 (by omega) (by omega)
  have eW:IntKind.i64.wrap (b-m)=(B.length:Int):=by subst hm aa;exact b9 (by omega) (by omega)
  have cH:decide ((A.length:Int)=1)=false:=cg;have cO:decide ((B.length:Int)=1)=false:=cg;obtain⟨M,kO⟩:∃M,M=X.length+A.length:=⟨_,rfl⟩;obtain⟨E,ga⟩:∃E,E=X.length+A.length+B.length:=⟨_,rfl⟩;obtain⟨cW,aJ1⟩:∃cW,cW=(X.length+E) / 2:=⟨_,rfl⟩;rw[<-kO]at hm;rw[<-ga]at aa;have aII:∀k (hk:k<A.length),D[X.length+k]'(by omega)=A[k]:=by
   intro k hk;subst cD;rw[Hl (by omega),Lb (by omega)]
   congr 1;omega
  have aIJ:∀k (hk:k<B.length),D[M+k]'(by omega)=B[k]:=by
   intro k hk;subst cD;rw[Hl (by omega),Hl (by omega),Lb (by omega)]
   congr 1;omega
  have sr:=Ei (i:=X.length) (j:=E) (n:=E) (by omega) (by omega) (by omega)
  rw[<-aJ1]at sr;have bT:IntKind.i64.wrap ((cW:Int)+(M:Int))=((cW+M:Nat):Int):=b9 (by omega) (by omega)
  have gH:IntKind.i64.wrap (((cW+M:Nat):Int)-1)=((cW+M-1:Nat):Int):=b9 (by omega) (by omega)
  subst hm aa aD;have rp:2 * cW<=X.length+E:=by omega
  have aJW:X.length+E<=2 * cW+1:=by omega
  have aJX:M<=cW->cW+M<=X.length+E:=fun q=>by omega
  have aJY:cW<M->X.length<=cW+M-E∧E<=cW+M∧cW+M<=cW+M-E+E∧cW+M-E<=cW∧cW+M-E+E=cW+M:=fun q=>aAz aJW q (by omega)
  have aSl:M<=n:=by omega
  -- elements, by their places
  obtain⟨jm,N6⟩:∃jm:Nat->a9,∀k (hk:k<D.length),D[k]=jm k:=⟨fun k=>D.getD k aH0,fun k hk=>by simp only;rw[eP,c0 hk];rfl⟩
  have Jo:∀k (hk:k<A.length),A[k]=jm (X.length+k):=fun k hk=>by rw[<-aII k hk,N6]
  have Jp:∀k (hk:k<B.length),B[k]=jm (M+k):=fun k hk=>by rw[<-aIJ k hk,N6]
  have zF:∀k,k<n->List.take 14 (List.drop (k * 14) (dG D))=rE (jm k):=fun k hk=>by rw[M5 (by omega),N6]
  have wY:∀c d,X.length<=c->c<=d->d<M->lt (jm d) (jm c)=false:=by
   intro c d h1 h2 h3;by_cases e:c=d
   ·subst e;exact hw.CP _
   ·have q:=cf.get (i:=c-X.length) (j:=d-X.length) (by omega) (by omega)
    rw[Jo,Jo]at q;have ar:X.length+(d-X.length)=d:=by omega
    have au:X.length+(c-X.length)=c:=by omega
    rwa[ar,au]at q
  have Ay:∀c d,M<=c->c<=d->d<E->lt (jm d) (jm c)=false:=by
   intro c d h1 h2 h3;by_cases e:c=d
   ·subst e;exact hw.CP _
   ·have q:=bK.get (i:=c-M) (j:=d-M) (by omega) (by omega)
    rw[Jp,Jp]at q;have ar:M+(d-M)=d:=by omega
    have au:M+(c-M)=c:=by omega
    rwa[ar,au]at q
  repeat' first|(refine ad ?_;simp only[go_sem,ca,eW,cH,cO,sr,bT,gH])|refine bx ?_|fail
  refine ly rfl (fun h=>by simp at h) (fun _=>?_)
  repeat' first|(refine ad ?_;simp only[go_sem,ca,eW,cH,cO,sr,bT,gH])|refine bx ?_|fail
  refine ly rfl (fun h=>by simp at h) (fun _=>?_)
  repeat' first|(refine ad ?_;simp only[go_sem,ca,eW,cH,cO,sr,bT,gH])|refine bx ?_|fail
  refine BF (ι:=Nat×Nat) (fun s=>[(0,.osl 14 aE v 0 n lc),(1,.int .i64 X.length),(2,.int .i64 M),(3,.int .i64 E),(4,.func fn fs cs),(18,.int .i64 cW),(19,.int .i64 (cW+M:Nat)),(20,.int .i64 s.1),(21,.int .i64 s.2)]) (fun _=>H)
   (fun s=>X.length<=s.1∧cW+M<=s.1+E∧(s.1=X.length∨s.1+E=cW+M)∧s.1<=s.2∧s.2<=M∧s.2<=cW∧(s.2=M∨s.2=cW)) ?_ ?_
  ·refine ly rfl (fun h=>?_) (fun h=>?_)
   ·rw[hR]at h;have dL:IntKind.i64.wrap (((cW+M:Nat):Int)-(E:Int))=((cW+M-E:Nat):Int):=b9 (by omega) (by omega)
    repeat' first|(refine ad ?_;simp only[go_sem,dL])|refine af ?_|fail
    have lL:cW<M:=by omega
    have q:=aJY lL;exact⟨(cW+M-E,cW),⟨q.1,q.2.2.1,.inr q.2.2.2.2,q.2.2.2.1,Nat.le_of_lt lL,bk _,.inr rfl⟩,rfl,rfl⟩
   ·rw[nm]at h;repeat' first|(refine ad ?_;simp only[go_sem])|refine af ?_|fail
    have lL:M<=cW:=by omega
    exact⟨(X.length,M),⟨bk _,aJX lL,.inl rfl,by rw[kO];exact Nat.le_add_right _ _,bk _,lL,.inl rfl⟩,rfl,rfl⟩
  ·rintro⟨kk,a8⟩ ⟨cK,dc,ei,oy,yH,O8,aLi⟩;simp only at cK dc ei oy yH O8 aLi ⊢;have mono:∀c d,kk<=c->c<=d->d<a8->lt (jm (cW+M-1-c)) (jm c)=true->lt (jm (cW+M-1-d)) (jm d)=true:=by
    intro c d h1 h2 h3 h4;have aQ:=Ay (cW+M-1-d) (cW+M-1-c) (by omega) (by omega) (by omega)
    have aO:=wY c d (by omega) h2 (by omega)
    exact hw.O5 (hw.Ph aQ h4) aO
   repeat' first|(refine ad ?_;simp only[go_sem,gH])|refine bx ?_|fail
   refine jY (ι:=Nat) (fun i=>[(0,.osl 14 aE v 0 n lc),(1,.int .i64 X.length),(2,.int .i64 M),(3,.int .i64 E),(4,.func fn fs cs),(18,.int .i64 cW),(19,.int .i64 (cW+M:Nat)),(20,.int .i64 i)]) (fun _=>H)
    (fun i=>kk<=i∧i<=a8∧(∀c,kk<=c->c<i->lt (jm (cW+M-1-c)) (jm c)=false)∧(∀c,i<=c->c<a8->lt (jm (cW+M-1-c)) (jm c)=true)) ?_ ?_
   ·refine b5 (ι:=Nat×Nat) (fun s=>[(0,.osl 14 aE v 0 n lc),(1,.int .i64 X.length),(2,.int .i64 M),(3,.int .i64 E),(4,.func fn fs cs),(18,.int .i64 cW),(19,.int .i64 (cW+M:Nat)),(22,.int .i64 (cW+M-1:Nat)),(20,.int .i64 s.1),(21,.int .i64 s.2)]) (fun _=>H)
     (fun s=>kk<=s.1∧s.1<=s.2∧s.2<=a8∧(∀c,kk<=c->c<s.1->lt (jm (cW+M-1-c)) (jm c)=false)∧(∀c,s.2<=c->c<a8->lt (jm (cW+M-1-c)) (jm c)=true)) (fun s=>s.2-s.1) (kk,a8) ⟨bk _,oy,bk _,fun c h1 h2=>by simp only at h2;omega,fun c h1 h2=>by simp only at h1;omega⟩ ?_ rfl ?_
    ·simp[go_sem]
    ·rintro⟨i,j⟩ ⟨h1,h2,h3,h4,cz⟩;simp only at h1 h2 h3 h4 cz ⊢;by_cases gp:i<j
     ·obtain⟨u,hu⟩:∃u,(i+j) / 2=u:=⟨_,rfl⟩;have VW:=Ei (i:=i) (j:=j) (n:=j) (by omega) (by omega) (by omega)
      rw[hu]at VW;obtain⟨z,a2⟩:∃z,z=cW+M-1-u:=⟨_,rfl⟩;have hM:IntKind.i64.wrap (((cW+M-1:Nat):Int)-(u:Int))=(z:Int):=b9 (by omega) (by omega)
      have jt:IntKind.i64.wrap ((u:Int)+1)=((u+1:Nat):Int):=b9 (by omega) (by omega)
      have aH:decide ((i:Int)<(j:Int))=true:=b1;have aZ:=zF u (by omega)
      have a7:=zF z (by omega)
      have dq:u * 14+14<=(dG D).length:=by rw[oa];omega
      have bZ:z * 14+14<=(dG D).length:=by rw[oa];omega
      repeat' first|((first|refine mx [11,23] u6 ?_|refine ad ?_);simp only[go_sem,aH,VW,ah,hM,aZ,a7])|refine af ?_|fail
      (repeat'(with_reducible refine And.intro ?_ ?_))<;>try(first|omega|rfl)
      refine KO an ?_;simp only[go_sem,al];cases cV:lt (jm z) (jm u)with
      |true=>
       repeat' first|(refine ad ?_;simp only[go_sem,cV,jt])|refine af ?_|fail
       refine⟨(i,u),⟨h1,by simp only;omega,by simp only;omega,h4,fun c aQ aO=>mono u c (by omega) aQ aO (by rw[<-a2];exact cV)⟩,by simp only;omega,rfl,rfl⟩
      |false=>
       repeat' first|(refine ad ?_;simp only[go_sem,cV,jt])|refine af ?_|fail
       refine⟨(u+1,j),⟨by simp only;omega,by simp only;omega,h3,fun c aQ aO=>?_,cz⟩,by simp only;omega,rfl,rfl⟩
       cases bF:lt (jm (cW+M-1-c)) (jm c)with
       |false=>rfl
       |true=>
        have:=mono c u aQ (by simp only at aO;omega) (by omega) bF
        rw[<-a2,cV]at this;cases this
     ·have hW:j=i:=by omega
      subst hW;have aH:decide ((j:Int)<(j:Int))=false:=cg;repeat' first|(refine ad ?_;simp only[go_sem,aH])|refine af ?_|fail
      exact⟨j,⟨h1,h3,h4,cz⟩,rfl⟩
   ·rintro i ⟨t1,t2,t3,t4⟩
    -- the four pieces
    obtain⟨j7,NG⟩:∃j7,j7=A.take (i-X.length):=⟨_,rfl⟩;obtain⟨iN,NH⟩:∃iN,iN=A.drop (i-X.length):=⟨_,rfl⟩;obtain⟨iq,NK⟩:∃iq,iq=B.take (cW-i):=⟨_,rfl⟩;obtain⟨hT,NL⟩:∃hT,hT=B.drop (cW-i):=⟨_,rfl⟩;have NI:j7++iN=A:=by rw[NG,NH];exact jf _ _
    have nB:iq++hT=B:=by rw[NK,NL];exact jf _ _
    have aSR:j7.length=i-X.length:=by rw[NG,e8];omega
    have aSS:iN.length=M-i:=by rw[NH,gL];omega
    have aST:iq.length=cW-i:=by rw[NK,e8];omega
    have aSU:hT.length=E-(cW+M-i):=by rw[NL,gL];omega
    have aLY:∀x∈j7,∃k,X.length<=k∧k<i∧x=jm k:=by
     rw[NG];exact KI (by omega) fun k hk=>⟨X.length+k,by omega,by omega,Jo k (by omega)⟩
    have aLZ:∀x∈iN,∃k,i<=k∧k<M∧x=jm k:=by
     rw[NH];exact KJ fun k h1 hk=>⟨X.length+k,by omega,by omega,Jo k (by omega)⟩
    have aL0:∀x∈iq,∃k,M<=k∧k<cW+M-i∧x=jm k:=by
     rw[NK];exact KI (by omega) fun k hk=>⟨M+k,by omega,by omega,Jp k (by omega)⟩
    have aL1:∀x∈hT,∃k,cW+M-i<=k∧k<E∧x=jm k:=by
     rw[NL];exact KJ fun k h1 hk=>⟨M+k,by omega,by omega,Jp k (by omega)⟩
    have I3:∀a∈iN,∀b∈iq,lt b a=true:=by
     intro a aD b aa;obtain⟨c,cc,cI,rfl⟩:=aLZ a aD;obtain⟨d,d1,d2,rfl⟩:=aL0 b aa;have q:=t4 i (bk _) (by omega)
     have aQ:=Ay d (cW+M-1-i) d1 (by omega) (by omega)
     exact hw.O5 (hw.Ph aQ q) (wY i c (by omega) cc cI)
    have wu:∀a∈j7,∀b∈hT,lt b a=false:=by
     intro a aD b aa;obtain⟨c,cc,cI,rfl⟩:=aLY a aD;obtain⟨d,d1,d2,rfl⟩:=aL1 b aa;have q:=t3 (i-1) (by omega) (by omega)
     have aQ:=Ay (cW+M-1-(i-1)) d (by omega) (by omega) d2
     exact hw.yz _ _ _ (hw.yz _ _ _ aQ q) (wY c (i-1) cc (by omega) (by omega))
    have Cj:=cf;have oZ:=bK;rw[<-NI]at Cj;rw[<-nB]at oZ;obtain⟨zD,mh⟩:∃zD,zD=cW+M-i:=⟨_,rfl⟩;have JN:IntKind.i64.wrap (((cW+M:Nat):Int)-(i:Int))=(zD:Int):=b9 (by omega) (by omega)
    have pH:D=X++(j7++(iN++(iq++(hT++Y)))):=by rw[cD,<-NI,<-nB];simp only[cr]
    repeat' first|(refine ad ?_;simp only[go_sem,JN])|refine bx ?_|fail
    refine BF (ι:=Unit) (fun s=>[(0,.osl 14 aE v 0 n lc),(1,.int .i64 X.length),(3,.int .i64 E),(4,.func fn fs cs),(18,.int .i64 cW),(20,.int .i64 i),(24,.int .i64 zD)]) (fun _=>ai H aE (.cells v (dG (X++(j7++(iq++(iN++(hT++Y)))))))) (fun _=>True) ?_ ?_
    ·refine ly rfl (fun h=>?_) (fun h=>?_)
     ·rw[dD,hR,hR]at h;repeat' first|(refine ad ?_;simp only[go_sem])|refine af ?_|fail
      refine c6 (aHz (a:=(i:Int)) (m:=(M:Int)) (b:=(zD:Int)) (X:=X++j7) (U:=iN) (V:=iq) (Y:=hT++Y) (by rw[pH];simp only[cr]) ag (by rw[bt];omega) (by rw[bt];omega) (by rw[bt];omega) (by omega) (by omega) _ _ _ _ _ ah hl) (aA) ?_
      rintro r H' ⟨rfl,rfl⟩;simp only[go_sem];exact⟨(),by simp only[cr]⟩
     ·rw[Bool.and_eq_false_iff,nm,nm]at h;repeat' first|(refine ad ?_;simp only[go_sem])|refine af ?_|fail
      have e:X++(j7++(iq++(iN++(hT++Y))))=D:=by
       have:iN=[]∨iq=[]:=by
        rcases h with h|h
        ·exact .inl (jg (by omega))
        ·exact .inr (jg (by omega))
       rw[pH];rcases this with e|e<;>rw[e]<;>rfl
      rw[e];exact⟨(),(oY ah trivial).symm⟩
    ·intro _ _;repeat' first|(refine ad ?_;simp only[go_sem])|refine bx ?_|fail
     refine BF (ι:=List a9) (fun s=>[(0,.osl 14 aE v 0 n lc),(3,.int .i64 E),(4,.func fn fs cs),(18,.int .i64 cW),(24,.int .i64 zD)]) (fun C=>ai H aE (.cells v (dG (X++(C++(iN++(hT++Y))))))) (fun C=>fm lt (j7++iq) C∧e9 lt C) ?_ ?_
     ·refine ly rfl (fun h=>?_) (fun h=>?_)
      ·rw[dD,hR,hR]at h;repeat' first|(refine ad ?_;simp only[go_sem])|refine af ?_|fail
       refine c6 (ay (X:=X) (A:=j7) (B:=iq) (Y:=iN++(hT++Y)) (a:=(X.length:Int)) (m:=(i:Int)) (b:=(cW:Int)) (by omega) rfl Cj.left oZ.left (by omega) (by omega) (by simp only[bt];omega) rfl (by omega) (by omega) _ (fX _)) (aA) ?_
       rintro r H' ⟨rfl,C,cc,cI,rfl⟩;simp only[go_sem,js];exact⟨C,⟨cc,cI⟩,rfl⟩
      ·rw[Bool.and_eq_false_iff,nm,nm]at h;repeat' first|(refine ad ?_;simp only[go_sem])|refine af ?_|fail
       refine⟨j7++iq,⟨.refl _,?_⟩,by simp only[cr]⟩
       have:j7=[]∨iq=[]:=by
        rcases h with h|h
        ·exact .inl (jg (by omega))
        ·exact .inr (jg (by omega))
       rcases this with e|e<;>rw[e]
       ·exact oZ.left
       ·rw[b2];exact Cj.left
     ·rintro C ⟨cc,cI⟩;have sK:=cc.1;rw[bt]at sK;have fin:∀S,fm lt (iN++hT) S->e9 lt S->fm lt (A++B) (C++S)∧e9 lt (C++S):=by
       intro S s1 s2;refine⟨?_,aHe hw cI s2 cc s1 Cj.EM oZ.EM I3 wu⟩;rw[<-NI,<-nB];exact(aHd hw I3).trans (cc.app s1)
      repeat' first|(refine ad ?_;simp only[go_sem])|refine bx ?_|fail
      refine ly rfl (fun h=>?_) (fun h=>?_)
      ·rw[dD,hR,hR]at h;repeat' first|(refine ad ?_;simp only[go_sem])|refine af ?_|fail
       refine c6 (ay (X:=X++C) (A:=iN) (B:=hT) (Y:=Y) (a:=(cW:Int)) (m:=(zD:Int)) (b:=(E:Int)) (by omega) (by simp only[cr]) Cj.right oZ.right (by omega) (by omega) (by simp only[bt];omega) (by rw[bt];omega) (by rw[bt];omega) (by rw[bt];omega) _ (fX _)) (aA) ?_
       rintro r H' ⟨rfl,S,s1,s2,rfl⟩;simp only[go_sem,js];exact lS (vf _ _ _) _ ⟨rfl,C++S,(fin S s1 s2).1,(fin S s1 s2).2,by simp only[cr]⟩
      ·rw[Bool.and_eq_false_iff,nm,nm]at h;repeat' first|(refine ad ?_;simp only[go_sem])|refine af ?_|fail
       have hs:e9 lt (iN++hT):=by
        have:iN=[]∨hT=[]:=by
         rcases h with h|h
         ·exact .inl (jg (by omega))
         ·exact .inr (jg (by omega))
        rcases this with e|e<;>rw[e]
        ·exact oZ.right
        ·rw[b2];exact Cj.right
       exact lS (vf _ _ _) _ ⟨rfl,C++(iN++hT),(fin _ (.refl _) hs).1,(fin _ (.refl _) hs).2,by simp only[cr]⟩
end Go.Proofs.YthafnbmdmfoobaaGreatDoor
