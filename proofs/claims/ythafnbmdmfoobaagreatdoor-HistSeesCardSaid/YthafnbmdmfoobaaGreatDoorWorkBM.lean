/- What the functions of this seat answer (39 of 40). No condition. -/
import Derived.Test.YthafnbmdmfoobaaGreatDoorWorkBK
import Derived.Test.YthafnbmdmfoobaaGreatDoorWorkBL
set_option linter.unusedSimpArgs false
set_option linter.unusedVariables false
set_option maxRecDepth 100000
set_option maxHeartbeats 16000000
namespace Go.Proofs.YthafnbmdmfoobaaGreatDoor
section
open Go.Srt
def BJ(a b:a9):Bool:= !decide (b.end_=0)&&decide (b.end_<a.dJ)
def uo:List a9->Bool
 |[]=>true
 |a::l=>l.all (fun b=> !BJ a b)&&uo l
theorem MH:∀{l:List a9},Ut l->uo l=true
 |[],_=>rfl
 |a::l,h=>by
  obtain⟨h1,h2⟩:=qd.1 h;rw[uo,MH h2,Bool.and_true,gT];intro b aa;have:=h1 b aa;unfold BJ;simp;omega
theorem R7(f g b:Bool)(l:List a9)(hl:l.length<=1000000)(H:ab):aY Tryz.prog 16 [.sl b (l.map (je f g))] H (.bool (uo l)):=by
 refine bh Tryz.func16 ?_;repeat' first|(refine ad ?_;simp only[go_sem])|refine bx ?_|(refine bD ?_ ?_<;>intro h<;>try exact bB h)|fail
 refine b5 (ι:=Nat×ab) (fun s=>[(0,.sl b (l.map (je f g))),(3,.func (.func 35) [] []),(8,.sl b (l.map (je f g))),(9,.int .i64 l.length),(10,.int .i64 s.1)]) (fun s=>H++s.2) (fun s=>s.1<=l.length∧uo l=uo (l.drop s.1)) (fun s=>l.length-s.1) (0,[]) ⟨bG _,rfl⟩ ?_ (b2 _).symm ?_
 ·simp[go_sem]
 rintro⟨k,M⟩ ⟨hk,ax⟩;simp only at hk ax ⊢;obtain⟨G,aT⟩:∃G,H++M=G:=⟨_,rfl⟩;rw[aT];by_cases ak:k<l.length
 ·have cG:=dg (je f g) ak;have kz:=eo ak;rw[kz,uo]at ax;have Fg:(l.map (je f g)).drop (k+1)=(l.drop (k+1)).map (je f g):=y1.symm;have aH:decide ((k:Int)<(l.length:Int))=true:=b1;have hw:=dW ak (by omega)
  have J:((k+1:Nat):Int)<=(l.length:Int):=by omega
  generalize l[k]=a at *;simp only[je]at cG;repeat' first|(refine ad ?_;simp only[go_sem,cG,aH,ak,hw,Fg,J,j6])|refine bx ?_|(refine bD ?_ ?_<;>intro h<;>try exact bB h)|fail
  refine⟨⟨by omega,fun x J=>by(obtain⟨p,_,rfl⟩:=bP.1 J;rfl)⟩,?_⟩
  refine jY (ι:=ab) (fun _=>[(0,.sl b (l.map (je f g))),(3,.func (.func 35) [] []),(8,.sl b (l.map (je f g))),(9,.int .i64 l.length),(10,.int .i64 k)]) (fun N=>G++N) (fun _=>(l.drop (k+1)).all (fun b=> !BJ a b)=true) ?_ ?_
  ·obtain⟨ls,Fx⟩:∃ls,l.drop (k+1)=ls:=⟨_,rfl⟩;rw[Fx]at ax ⊢;have wE:ls.length<=1000000:=by rw[<-Fx,gL];omega
   obtain⟨dd,ek⟩:∃dd,G++[.cells 0 (je f g a).cells]=dd:=⟨_,rfl⟩;have cw:ao dd G.length=.cells 0 (je f g a).cells:=by rw[<-ek];simp only[go_sem]
   have aZ:=bz cw trivial;have kQ:=fun x=>aCu f g a x
   simp only[je,I.cells]at ek cw aZ kQ;rw[ek];refine Lx ?_;refine b5 (ι:=Nat×ab) (fun s=>[(0,.sl b (l.map (je f g))),(3,.func (.func 35) [] []),(5,.ref G.length 0 0),(8,.sl b (l.map (je f g))),(9,.int .i64 l.length),(10,.int .i64 k),(18,.sl b (ls.map (je f g))),(19,.int .i64 ls.length),(20,.int .i64 s.1)]) (fun s=>dd++s.2) (fun s=>s.1<=ls.length∧∀x∈ls.take s.1,BJ a x=false) (fun s=>ls.length-s.1) (0,[]) ⟨bG _,by simp⟩ ?_ (b2 _).symm ?_
   ·simp[go_sem]
   rintro⟨j,N⟩ ⟨aw,aa⟩;simp only at aw aa ⊢;obtain⟨cZ,fh⟩:∃cZ,dd++N=cZ:=⟨_,rfl⟩;have a7:=aZ N;rw[fh]at a7 ⊢;have ch:=bz a7 trivial;by_cases uX:j<ls.length
   ·have VT:=dg (je f g) uX;have Oq:decide ((j:Int)<(ls.length:Int))=true:=b1;have m8:=hv uX;have ry:=eB uX;generalize ls[j]=y at *;have aJp:=kQ y;have aJV:BJ a y=(!decide (y.end_=0)&&decide (y.end_<a.dJ)):=rfl;rw[<-aJV]at aJp;simp only[je]at VT;repeat' first|(refine ad ?_;simp only[go_sem,a7,ch,VT,Oq])|refine bx ?_|(refine bD ?_ ?_<;>intro h<;>try exact bB h)|fail
    ·have fi:ls.all (fun b=> !BJ a b)=false:=vC.2 fun q=>by
      have:=gT.1 q y m8;rw[h]at this;cases this
     rw[ax,fi];have ar:H++(M++[.cells 0 (je f g a).cells]++N)=cZ:=by rw[<-fh,<-ek,<-aT];simp only[je,I.cells,cr]
     exact xG ar (by simp only[go_sem]) (.refl _)
    ·refine⟨(j+1,N++[_]),⟨uX,fun x J=>?_⟩,by simp only;omega,bH _ (dW uX (by omega)),by rw[<-fh,cr]⟩
     rw[ry]at J;rcases eX.1 J with J|J
     ·exact aa x J
     ·rw[dA]at J;subst J;exact h
   ·have lB:j=ls.length:=by omega
    have Oq:decide ((j:Int)<(ls.length:Int))=false:=cg;rw[lB,eQ]at aa;repeat' first|(refine ad ?_;simp only[go_sem,Oq])|refine bx ?_|(refine bD ?_ ?_<;>intro h<;>try exact bB h)|fail
    exact⟨[.cells 0 (je f g a).cells]++N,gT.2 fun x J=>by rw[aa x J];rfl,by rw[<-fh,<-ek,cr];rfl⟩
  ·intro N hc;rw[hc,hG]at ax;repeat' first|(refine ad ?_;simp only[go_sem])|refine bx ?_|(refine bD ?_ ?_<;>intro h<;>try exact bB h)|fail
   exact⟨(k+1,M++N),⟨ak,ax⟩,by simp only;omega,bH _ hw,by rw[<-aT,cr]⟩
 ·have g3:k=l.length:=by omega
  have aH:decide ((k:Int)<(l.length:Int))=false:=cg;rw[g3,l7]at ax;repeat' first|(refine ad ?_;simp only[go_sem,aH])|refine bx ?_|(refine bD ?_ ?_<;>intro h<;>try exact bB h)|fail
  rw[ax];exact yK aT (by simp only[go_sem]) (.refl _)
theorem Me(b:Bool)(l:List a9)(hl:l.length<=1000000)(H:ab):aY Tryz.prog 16 [.sl b (l.map dQ)] H (.bool (uo l)):=R7 false false b l hl H
end
section
open Go.Srt
def D5(lt:a9->a9->Bool)(s:Nat)(kb:List (List a9)):Prop:=∀c∈kb,c.length=s∧e9 lt c
structure X0 (lt:a9->a9->Bool) (D:List a9) (n:Nat) (x:Nat×List (List a9)×List a9):Prop where
 s1:1<=x.1
 s2:x.1<=2 * n+20
 fs:fm lt D (x.2.1.flatten++x.2.2)
 Kh:D5 lt x.1 x.2.1
 yP:x.2.2.length<x.1
 ts:e9 lt x.2.2
structure X1 (lt:a9->a9->Bool) (D:List a9) (s:Nat) (T:List a9) (x:List (List a9)×List (List a9)):Prop where
 fs:fm lt D (x.1.flatten++(x.2.flatten++T))
 Kh:D5 lt (2 * s) x.1
 rc:D5 lt s x.2
theorem Z8{lt:a9->a9->Bool}{c:a9->a9->Int}(hw:SWO lt)(al:∀x y,decide (c x y<0)=lt x y)(fn:Fn)(fs cs:List I)(an:xD Tryz.prog (.func fn fs cs) c)(aE v lc n:Nat)(hl:n<=1000000000)(D:List a9)(ag:n=D.length)(H:ab)
  (ah:ao H aE=.cells v (dG D)):
  c5 Tryz.prog 57 [.osl 14 aE v 0 n lc,.int .i64 n,.func fn fs cs] H (fun r H'=>r=.a0 []∧∃S,fm lt D S∧e9 lt S∧H'=ai H aE (.cells v (dG S))):=by
 refine eJ Tryz.func57 ?_;have fX:=fun b=>m2 ah trivial b
 have js:=nw H aE;refine aT ?_;refine jY (ι:=List (List a9)×List a9) (fun x=>[(0,.osl 14 aE v 0 n lc),(1,.int .i64 n),(2,.func fn fs cs),(6,.int .i64 20),(7,.int .i64 x.1.flatten.length)]) (fun x=>ai H aE (.cells v (dG (x.1.flatten++x.2))))
  (fun x=>fm lt D (x.1.flatten++x.2)∧D5 lt 20 x.1∧x.2.length<20) ?_ ?_
 ·refine b5 (ι:=List (List a9)×List a9) (fun x=>[(0,.osl 14 aE v 0 n lc),(1,.int .i64 n),(2,.func fn fs cs),(6,.int .i64 20),(7,.int .i64 x.1.flatten.length),(8,.int .i64 (x.1.flatten.length+20:Nat))]) (fun x=>ai H aE (.cells v (dG (x.1.flatten++x.2))))
   (fun x=>fm lt D (x.1.flatten++x.2)∧D5 lt 20 x.1) (fun x=>x.2.length) ([],D) ⟨.refl _,fun _ h=>(by cases h)⟩ ?_ (oY ah trivial).symm ?_
  ·simp[go_sem]
  ·rintro⟨kb,R⟩ ⟨h1,h2⟩;simp only at h1 h2 ⊢;have hlen:=h1.1;rw[bt,<-ag]at hlen;by_cases aIC:R.length<20
   ·have aH:decide (((kb.flatten.length+20:Nat):Int)<=(n:Int))=false:=cg;repeat' first|(refine ad ?_;simp only[go_sem,aH])|refine af ?_|fail
    exact⟨(kb,R),⟨h1,h2,aIC⟩,rfl,rfl⟩
   ·have aH:decide (((kb.flatten.length+20:Nat):Int)<=(n:Int))=true:=b1;have WV:(R.take 20).length=20:=by rw[e8];omega
    have aSV:(R.drop 20).length=R.length-20:=gL ..;have bT:IntKind.i64.wrap (((kb.flatten.length+20:Nat):Int)+20)=((kb.flatten.length+20+20:Nat):Int):=b9 (by omega) (by omega)
    repeat' first|(refine ad ?_;simp only[go_sem,aH])|refine af ?_|fail
    refine c6 (Rw (X:=kb.flatten) (M:=R.take 20) (Y:=R.drop 20) (a:=(kb.flatten.length:Int)) (b:=((kb.flatten.length+20:Nat):Int)) hw al (by rw[jf]) (by rw[bt];exact hlen.symm) rfl (by rw[WV]) _ _ _ an _ _ _ _ (fX _) hl) (aA) ?_
    rintro r H' ⟨rfl,S,s1,s2,rfl⟩;simp only[go_sem,js];refine bW ?_;have O2:=s1.1;have e:(kb++[S]).flatten=kb.flatten++S:=by simp
    refine⟨(kb++[S],R.drop 20),⟨?_,?_⟩,by simp only;omega,?_,?_⟩
    ·simp only[e,cr];refine h1.trans ?_;have q:=(fm.refl (lt:=lt) kb.flatten).app (s1.app (.refl (R.drop 20)));rw[jf]at q;exact q
    ·intro x J;rcases eX.1 J with J|J
     ·exact h2 x J
     ·rw[dA]at J;subst J;exact⟨by rw[O2,WV],s2⟩
    ·simp only[e,bt];have:S.length=20:=by omega
     rw[this];exact⟨rfl,rfl⟩
    ·simp only[e,cr]
 ·rintro⟨kb,R⟩ ⟨h1,h2,h3⟩;simp only at h1 h2 h3 ⊢;have hlen:=h1.1;rw[bt,<-ag]at hlen;refine aT ?_;refine c6 (Rw (X:=kb.flatten) (M:=R) (Y:=[]) (a:=(kb.flatten.length:Int)) (b:=(n:Int)) hw al (by rw[b2]) (by rw[bt];exact hlen.symm) rfl (by rw[hlen]) _ _ _ an _ _ _ _ (fX _) hl) (aA) ?_
  rintro r H' ⟨rfl,S,s1,s2,rfl⟩;simp only[go_sem,js];refine aT ?_;refine b5 (ι:=Nat×List (List a9)×List a9) (fun x=>[(0,.osl 14 aE v 0 n lc),(1,.int .i64 n),(2,.func fn fs cs),(6,.int .i64 x.1)]) (fun x=>ai H aE (.cells v (dG (x.2.1.flatten++x.2.2))))
   (X0 lt D n) (fun x=>n-x.1) (20,kb,S) ⟨by simp only;omega,by simp only;omega,h1.trans ((fm.refl (lt:=lt) kb.flatten).app s1),h2,by have:=s1.1;simp only;omega,s2⟩ ?_ ?_ ?_
  ·simp[go_sem]
  ·rfl
  ·rintro⟨s,kb,T⟩ ⟨aZ,a7,ch,fc,tm,wj⟩;simp only at aZ a7 ch fc tm wj ⊢;have hlen:=ch.1;rw[bt,<-ag]at hlen;by_cases u4:s<n
   ·have aH:decide ((s:Int)<(n:Int))=true:=b1;have bT:IntKind.i64.wrap (2 * (s:Int))=((2 * s:Nat):Int):=b9 (by omega) (by omega)
    have JM:IntKind.i64.wrap ((s:Int) * 2)=((2 * s:Nat):Int):=b9 (by omega) (by omega)
    repeat' first|(refine ad ?_;simp only[go_sem,aH,bT])|refine af ?_|fail
    refine b5 (ι:=List (List a9)×List (List a9)) (fun x=>[(0,.osl 14 aE v 0 n lc),(1,.int .i64 n),(2,.func fn fs cs),(6,.int .i64 s),(7,.int .i64 x.1.flatten.length),(8,.int .i64 (x.1.flatten.length+2 * s:Nat))]) (fun x=>ai H aE (.cells v (dG (x.1.flatten++(x.2.flatten++T)))))
     (X1 lt D s T) (fun x=>x.2.length) ([],kb) ⟨ch,fun _ h=>(by cases h),fc⟩ ?_ rfl ?_
    ·simp[go_sem]
    ·rintro⟨ji,q5⟩ ⟨k1,k2,k3⟩;simp only at k1 k2 k3 ⊢;have F0:=k1.1;rw[bt,bt,<-ag]at F0;have dL:IntKind.i64.wrap ((ji.flatten.length:Int)+(s:Int))=((ji.flatten.length+s:Nat):Int):=b9 (by omega) (by omega)
     have gH:IntKind.i64.wrap (((ji.flatten.length+2 * s:Nat):Int)+((2 * s:Nat):Int))=((ji.flatten.length+2 * s+2 * s:Nat):Int):=b9 (by omega) (by omega)
     cases q5 with
     |nil=>
      have dP:([]:List (List a9)).flatten=[]:=rfl;rw[dP,ew]at F0;have ec:decide (((ji.flatten.length+2 * s:Nat):Int)<=(n:Int))=false:=cg;have kg:decide (((ji.flatten.length+s:Nat):Int)<(n:Int))=false:=cg;repeat' first|(refine ad ?_;simp only[go_sem,ec,dL,kg,JM])|refine af ?_|fail
      exact⟨(2 * s,ji,T),⟨by simp only;omega,by simp only;omega,k1,k2,by simp only;omega,wj⟩,by simp only;omega,rfl,rfl⟩
     |cons aU q5=>
      have f1:(aU::q5).flatten=aU++q5.flatten:=rfl;obtain⟨aQ,aO⟩:=k3 aU (by simp)
      rw[f1,bt]at F0;cases q5 with
      |nil=>
       have dP:([]:List (List a9)).flatten=[]:=rfl;rw[dP,ew]at F0;have ar:ji.flatten++([aU].flatten++T)=ji.flatten++(aU++T):=by simp
       have ec:decide (((ji.flatten.length+2 * s:Nat):Int)<=(n:Int))=false:=cg;by_cases o1:T.length=0
       ·have kg:decide (((ji.flatten.length+s:Nat):Int)<(n:Int))=false:=cg;have Vy:=jg o1;repeat' first|(refine ad ?_;simp only[go_sem,ec,dL,kg,JM])|refine af ?_|fail
        refine⟨(2 * s,ji,aU),⟨by simp only;omega,by simp only;omega,?_,k2,by simp only;omega,aO⟩,by simp only;omega,rfl,?_⟩
        ·simp only;rw[ar,Vy,b2]at k1;exact k1
        ·rw[ar,Vy,b2]
       ·have kg:decide (((ji.flatten.length+s:Nat):Int)<(n:Int))=true:=b1;rw[ar]at k1 ⊢;repeat' first|(refine ad ?_;simp only[go_sem,ec,dL,kg,JM])|refine af ?_|fail
        refine c6 (TS hw al _ _ _ an aE v lc n hl _ (X:=ji.flatten) (A:=aU) (B:=T) (Y:=[]) (a:=(ji.flatten.length:Int)) (m:=((ji.flatten.length+s:Nat):Int)) (b:=(n:Int)) (bk _) (by rw[b2]) aO wj (by omega) (by omega) (by rw[ag];exact k1.1.symm) rfl (by rw[aQ]) (by omega) _ (fX _)) (aA) ?_
        rintro r H' ⟨rfl,Bq,Gu,Pj,rfl⟩;simp only[go_sem,js];repeat' first|(refine ad ?_;simp only[go_sem,JM])|refine af ?_|fail
        have:=Gu.1;rw[bt]at this;refine⟨(2 * s,ji,Bq),⟨by simp only;omega,by simp only;omega,?_,k2,by simp only;omega,Pj⟩,by simp only;omega,rfl,by simp only[b2]⟩
        exact k1.trans ((fm.refl (lt:=lt) ji.flatten).app Gu)
      |cons a3 q5=>
       have f2:(a3::q5).flatten=a3++q5.flatten:=rfl;obtain⟨bF,c9⟩:=k3 a3 (by simp)
       rw[f2,bt]at F0;have ar:ji.flatten++((aU::a3::q5).flatten++T)=ji.flatten++(aU++(a3++(q5.flatten++T))):=by rw[f1,f2];simp only[cr]
       have ec:decide (((ji.flatten.length+2 * s:Nat):Int)<=(n:Int))=true:=b1;rw[ar]at k1 ⊢;repeat' first|(refine ad ?_;simp only[go_sem,ec,dL,bT,gH])|refine af ?_|fail
       refine c6 (TS hw al _ _ _ an aE v lc n hl _ (X:=ji.flatten) (A:=aU) (B:=a3) (Y:=q5.flatten++T) (a:=(ji.flatten.length:Int)) (m:=((ji.flatten.length+s:Nat):Int)) (b:=((ji.flatten.length+2 * s:Nat):Int)) (bk _) rfl aO c9 (by omega) (by omega) (by rw[ag];exact k1.1.symm) rfl (by rw[aQ]) (by omega) _ (fX _)) (aA) ?_
       rintro r H' ⟨rfl,Bq,Gu,Pj,rfl⟩;simp only[go_sem,js];refine bW ?_;have O2:=Gu.1;rw[bt]at O2;have e:(ji++[Bq]).flatten=ji.flatten++Bq:=by simp
       refine⟨(ji++[Bq],q5),⟨?_,?_,fun x J=>k3 x (by simp[J])⟩,by simp only[cm];omega,?_,?_⟩
       ·simp only[e,cr];have q:=(fm.refl (lt:=lt) ji.flatten).app (Gu.app (.refl (q5.flatten++T)));simp only[cr]at q;exact k1.trans q
       ·intro x J;rcases eX.1 J with J|J
        ·exact k2 x J
        ·rw[dA]at J;subst J;exact⟨by omega,Pj⟩
       ·simp only[e,bt];have:Bq.length=2 * s:=by omega
        rw[this];exact⟨rfl,bH _ (bH _ (by omega))⟩
       ·simp only[e,cr]
   ·have aH:decide ((s:Int)<(n:Int))=false:=cg;refine bW ?_;refine lS (vf _ _ _) _ ⟨rfl,_,ch,?_,rfl⟩;cases kb with
    |nil=>exact wj
    |cons p kb=>
     obtain⟨aQ,aO⟩:=fc p (by simp)
     have f1:(p::kb).flatten=p++kb.flatten:=rfl;rw[f1,bt]at hlen;have ar:=jg (show kb.flatten.length=0 by omega)
     have au:=jg (show T.length=0 by omega)
     rw[f1,ar,au,b2,b2];exact aO
theorem aCv{lt:a9->a9->Bool}{c:a9->a9->Int}(hw:SWO lt)(al:∀x y,decide (c x y<0)=lt x y)(fn:Fn)(fs cs:List I)(an:xD Tryz.prog (.func fn fs cs) c)(aE v lc n:Nat)(hl:n<=1000000000)(D:List a9)(ag:n=D.length)(H:ab)
  (ah:ao H aE=.cells v (dG D)):
  c5 Tryz.prog 30 [.osl 14 aE v 0 n lc,.func fn fs cs] H (fun r H'=>r=.a0 []∧∃S,fm lt D S∧e9 lt S∧H'=ai H aE (.cells v (dG S))):=by
 refine eJ Tryz.func30 ?_;repeat' first|(refine ad ?_;simp only[go_sem,ah])|refine af ?_|fail
 refine c6 (Z8 hw al _ _ _ an aE v lc n hl D ag H ah) (aA) ?_;rintro r H' ⟨rfl,S,s1,s2,rfl⟩;simp only[go_sem];exact lS (vf _ _ _) _ ⟨rfl,S,s1,s2,rfl⟩
end
end Go.Proofs.YthafnbmdmfoobaaGreatDoor
