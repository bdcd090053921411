/- What the functions of this seat answer (9 of 40). No condition. -/
import Derived.Test.YthafnbmdmfoobaaGreatDoorWorkAH
import Derived.Laws.Bits64
set_option linter.unusedSimpArgs false
set_option linter.unusedVariables false
set_option maxRecDepth 100000
set_option maxHeartbeats 16000000
namespace Go.Proofs.YthafnbmdmfoobaaGreatDoor
section
theorem ZG{i n:Nat}(h:i<n)(ag:n<=9223372036854775807):IntKind.i64.wrap ((i:Int)-1)=(i:Int)-1:=cB
theorem Ze(i:Nat):((i:Int)-1).toNat=i-1:=by omega
theorem dW{i n:Nat}(h:i<n)(ag:n<=9223372036854775807):IntKind.i64.wrap ((i:Int)+1)=((i+1:Nat):Int):=by rw[cB];rfl
theorem kY(b:Bool)(l:List aB)(H:ab):aY Tryz.prog 170 [.sl b (l.map aW)] H (.bool (cC l)):=by
 refine GS fun bl=>?_
 have hl:=lI bl;rw[cP]at hl;refine bh Tryz.func170 ?_;refine aT ?_;refine b5 (ι:=Nat×ab) (fun x=>[(0,.sl b (l.map aW)),(8,.sl b (l.map aW)),(9,.int .i64 l.length),(10,.int .i64 x.1)]) (fun x=>H++x.2) (fun x=>x.1<=l.length∧cC l=uI (xa l x.1) (l.drop x.1)) (fun x=>l.length-x.1) (0,[]) ⟨bG _,rfl⟩ ?_ (by simp) ?_
 ·simp[go_sem]
 ·rintro⟨i,L⟩ ⟨hi,he⟩;simp only at hi he ⊢;generalize aT:H++L=G;by_cases ak:i<l.length
  ·have ae:=dg aW ak;have aS:=dg aW (show i-1<l.length by omega)
   have hw:=ZG ak hl;have aj:=Ze i;rw[Z5 ak]at he;repeat' first|((first|refine du (v3 _) ?_|refine ad ?_);simp only[go_sem,ae,aS,hw,aj,aW])|refine bx ?_|(refine bD ?_ ?_<;>intro h<;>try exact bB h)|fail
   ·refine xG aT (by simp only[go_sem]) (.of ?_)
    have h2:(gm l[i].id&& !(decide ((0:Int)<(i:Int))&&decide (l[i].id<=l[i-1].id)))=false:=by rw[<-nk,Bool.not_and,Bool.not_not];exact h
    rw[he,h2];rfl
   ·have h2:(gm l[i].id&& !(decide ((0:Int)<(i:Int))&&decide (l[i].id<=l[i-1].id)))=true:=by rw[<-Bool.not_eq_false',Bool.not_and,Bool.not_not];exact h
    rw[h2,hG]at he;exact⟨(i+1,_),⟨ak,he⟩,by simp only;omega,bH _ (dW ak hl),aGJ aT⟩
  ·have cv:i=l.length:=by omega
   subst cv;repeat' first|(refine ad ?_;simp only[go_sem])|refine af ?_|fail
   refine yK aT (by simp only[go_sem]) (.of ?_)
   rw[he,l7];rfl
def sa(a b:Int):Int:=if a<b then-1 else if b<a then 1 else 0
theorem aHb(a:Int)(H:ab):aY Tryz.prog 58 [.int .i64 a] H (.bool false):=by
 refine bh Tryz.func58 ?_;refine aT ?_;exact bC (.of (by simp))
theorem T5(a b:Int)(H:ab):aY Tryz.prog 32 [.int .i64 a,.int .i64 b] H (.int .i64 (sa a b)):=by
 refine bh Tryz.func32 ?_;repeat' first|((first|refine du (aHb _) ?_|refine ad ?_);simp only[go_sem])|refine bx ?_|(refine bD ?_ ?_<;>intro h<;>try exact bB h)|fail
 all_goals(simp only[hR,nm]at *)
 ·exact bC (.of (by rw[sa,aF h]))
 ·exact bC (.of (by rw[sa,az (by assumption),aF h]))
 ·exact bC (.of (by rw[sa,az (by assumption),az h]))
theorem aFA(n:aB)(id:Int)(H:ab):aY Tryz.prog 199 [aW n,.int .i64 id] H (.int .i64 (sa n.id id)):=by
 refine bh Tryz.func199 ?_;simp only[aW];repeat' first|((first|refine du (T5 _ _) ?_|refine ad ?_);simp only[go_sem])|refine af ?_|fail
 exact bo (.refl _)
theorem Ei{i j n:Nat}(hi:i<=j)(aw:j<=n)(ag:n<=9223372036854775807):
  IntKind.i64.wrap ((IntKind.u64.wrap (IntKind.i64.wrap ((i:Int)+(j:Int)))).fdiv (2 ^ min 1 64))=(((i+j) / 2:Nat):Int):=by
 have ar:IntKind.u64.wrap (IntKind.i64.wrap ((i:Int)+(j:Int)))=(i:Int)+(j:Int):=by
  rw[IntKind.wrap_i64,IntKind.wrap_u64];omega
 have au:(2:Int) ^ min 1 64=2:=by decide
 rw[ar,au,Int.fdiv_eq_ediv_of_nonneg _ (by omega),cB]
 omega
theorem aHD(b:Bool)(l:List aB)(id:Int)(fn:Fn)(fs cs:List I)(hs:cC l=true)(H:ab)(an:∀n:aB,oK Tryz.prog (.func fn fs cs) [aW n,.int .i64 id] H (.int .i64 (sa n.id id))):
  aY Tryz.prog 198 [.sl b (l.map aW),.int .i64 id,.func fn fs cs] H (.a0 [.int .i64 (pos l id),.bool (hh l id)]):=by
 refine L2 fun bl _ _=>?_
 have hl:=lI bl;rw[cP]at hl;have Ow:=((yC l).1 hs).2;rw[xm]at Ow;simp only[aW]at an;refine bh Tryz.func198 ?_;refine aT ?_;refine b5 (ι:=Nat×Nat) (fun x=>[(0,.sl b (l.map aW)),(1,.int .i64 id),(2,.func fn fs cs),(8,.int .i64 l.length),(9,.int .i64 x.1),(10,.int .i64 x.2)]) (fun x=>H)
  (fun x=>x.1<=x.2∧x.2<=l.length∧(∀k (h:k<l.length),k<x.1->l[k].id<id)∧∀k (h:k<l.length),x.2<=k->¬l[k].id<id) (fun x=>x.2-x.1) (0,l.length) ⟨bG _,bk _,fun k _ h=>by simp at h,fun k h h2=>by simp at h2;omega⟩ ?_ rfl ?_
 ·simp[go_sem]
 ·rintro⟨i,j⟩ ⟨hi,aw,h1,h2⟩;simp only at hi aw h1 h2 ⊢;by_cases ak:i<j
  ·have hm:=Ei hi aw hl;have yj:(i+j) / 2<l.length:=by omega
   have ae:=dg aW yj;repeat' first|(refine ad ?_;simp only[go_sem,hm,ae,aW])|refine af ?_|fail
   refine AB (an _) ?_;simp only[go_sem,hm,ae,aW];repeat' first|refine bW ?_|(refine bD ?_ ?_<;>intro h<;>try exact bB h)|fail
   ·have al:l[(i+j) / 2].id<id:=by
     have dr:=mB h;unfold sa at dr;repeat' split at dr
     all_goals omega
    refine⟨((i+j) / 2+1,j),⟨by simp only;omega,aw,fun k hk eb=>?_,h2⟩,by simp only;omega,bH _ (dW yj hl),rfl⟩
    simp only at eb;rcases Bd k ((i+j) / 2)with z5|z5
    ·exact Int.lt_trans (Ow k _ hk yj z5) al
    ·obtain rfl:k=(i+j) / 2:=by omega
     exact al
   ·have al:¬l[(i+j) / 2].id<id:=by
     have dr:=of_decide_eq_false h;unfold sa at dr;repeat' split at dr
     all_goals omega
    refine⟨(i,(i+j) / 2),⟨by simp only;omega,by simp only;omega,h1,fun k hk eb=>?_⟩,by simp only;omega,rfl,rfl⟩
    simp only at eb;rcases Bd ((i+j) / 2) k with z5|z5
    ·have:=Ow _ k yj hk z5;omega
    ·obtain rfl:k=(i+j) / 2:=by omega
     exact al
  ·have cv:i=j:=by omega
   subst cv;have tL:=aFz aw (fun k hk=>h1 k (by omega) hk) (fun h=>h2 i h (bk _))
   by_cases gb:i<l.length
   ·have ae:=dg aW gb;repeat' first|(refine ad ?_;simp only[go_sem,ae,aW])|refine af ?_|fail
    have VP:=fun n=>(an n) []
    simp only[b2]at VP;refine⟨_,fun _=>VP _,?_⟩
    simp only[go_sem,ae,aW];refine bW ?_;refine bC (.of ?_);rw[AJ hs,tL,c0 gb];have ar:decide ((i:Int)<(l.length:Int))=true:=by simpa using gb
    have au:decide (sa l[i].id id=0)=decide (l[i].id=id):=by
     unfold sa;rcases Int.lt_trichotomy l[i].id id with q|q|q
     ·rw[aF q,b8 (show ¬l[i].id=id by omega)];rfl
     ·rw[az (by omega),az (by omega),cF q];rfl
     ·rw[az (by omega),aF q,b8 (show ¬l[i].id=id by omega)];rfl
    rw[ar,au];rfl
   ·refine bW ?_;have ar:decide ((i:Int)<(l.length:Int))=false:=by simpa using gb
    refine⟨.int .i64 1,fun aJ=>?_,?_⟩
    ·rw[ar]at aJ;cases aJ
    simp only[go_sem];refine aT ?_;refine bC (.of ?_);rw[AJ hs,tL,yW (by omega),ar];rfl
theorem HE(b:Bool)(l:List aB)(id:Int)(hs:cC l=true)(H:ab):aY Tryz.prog 175 [.sl b (l.map aW),.int .i64 id] H (.a0 [.int .i64 (pos l id),.bool (hh l id)]):=by
 refine bh Tryz.func175 ?_;have qq:=aHD b l id (.func 199) [] [] hs H fun n=>.mk (first:=[]) (cap:=[]) (fun L=>aFA n id (H++L)) (aA)
 repeat' first|((first|refine ea (qq) (aA) ?_|refine ep (qq) (aA) ?_|refine er (fun _=>qq) (aA) ?_|refine ad ?_);simp only[go_sem])|refine af ?_|fail
 exact bC (.refl _)
def WX(r:Option aB):I:=.a0 [aW (r.getD sS),.bool r.isSome]
theorem aFB(b:Bool)(l:List aB)(id:Int)(H:ab):aY Tryz.prog 130 [.sl b (l.map aW),.int .i64 id] H (WX (xN l id)):=by
 refine bh Tryz.func130 ?_;unfold xN;cases hs:cC l with
 |false=>
  repeat' first|((first|refine du (kY _ _) ?_|refine ad ?_);simp only[go_sem,hs])|refine af ?_|fail
  exact bo (.refl _)
 |true=>
  have iU:=HE b l id hs;cases ah:hh l id with
  |false=>
   repeat' first|((first|refine du (kY _ _) ?_|refine ad ?_);simp only[go_sem,hs,ah])|refine af ?_|fail
   rw[HS ah];exact bo (.refl _)
  |true=>
   have ak:=uc hs ah;have ae:=dg aW ak;rw[HB hs ah];repeat' first|((first|refine du (kY _ _) ?_|refine ad ?_);simp only[go_sem,hs,ah,ae,aW])|refine af ?_|fail
   exact bo (.refl _)
end
section
def XO:List cR:=[.pure 0,.pure 0,.pure 0,.pure 0,.pure 0,.pure 0,.free,.eff [false,false,false,false,false,false]]
attribute [go_sem] XO
theorem JT(l:List eH):∀e∈l.map de,e.cells.length=17:=fun e he=>by
 obtain⟨x,_,rfl⟩:=bP.1 he;rfl
theorem JS(l:List eH):(∀e∈l.map de,e.cells.length=17)=True:=bJ (JT l)
theorem XE(l:List eH):∀e∈l.map de,bO e:=fun e he=>by
 obtain⟨x,_,rfl⟩:=bP.1 he;first|exact(by simp only[go_sem])|(simp only[de];exact(by simp only[go_sem]))
theorem Rr(b:Bool)(l:List eH)(hl:l.length<=1073741824)(H:ab):aY Tryz.prog 67 [.sl b (l.map de)] H (.sl false (l.map de)):=by
 refine bh Tryz.func67 ?_;refine aT ?_;intro c al;cases c with
 |true=>
  have lZ:l=[]:=by
   cases l with
   |nil=>rfl
   |cons x l=>exact absurd (al (by simp)) (by decide)
  subst lZ;refine aT ?_;exact bC (.sl _ _)
 |false=>
  clear al;refine b0 @JS ?_;exact p3 (cs:=List.flatMap I.cells (List.map de l)) (es:=l.map de) (rest:=[]) (bk _) (by simp only[go_sem]) (b2 _).symm (by rw[cP]) (JT _) (XE _) rfl
theorem Xf(l:List aB):∀e∈l.map aW,e.cells.length=8:=fun e he=>by
 obtain⟨x,_,rfl⟩:=bP.1 he;rfl
theorem aMm(l:List aB):(∀e∈l.map aW,e.cells.length=8)=True:=bJ (Xf l)
theorem Yg(l:List aB):∀e∈l.map aW,bO e:=fun e he=>by
 obtain⟨x,_,rfl⟩:=bP.1 he;first|exact(by simp only[go_sem])|(simp only[aW];exact(by simp only[go_sem]))
theorem Qb(b:Bool)(l:List aB)(hl:l.length<=1073741824)(H:ab):aY Tryz.prog 68 [.sl b (l.map aW)] H (.sl false (l.map aW)):=by
 refine bh Tryz.func68 ?_;refine aT ?_;intro c al;cases c with
 |true=>
  have lZ:l=[]:=by
   cases l with
   |nil=>rfl
   |cons x l=>exact absurd (al (by simp)) (by decide)
  subst lZ;refine aT ?_;exact bC (.sl _ _)
 |false=>
  clear al;refine b0 @aMm ?_;exact p3 (cs:=List.flatMap I.cells (List.map aW l)) (es:=l.map aW) (rest:=[]) (bk _) (by simp only[go_sem]) (b2 _).symm (by rw[cP]) (Xf _) (Yg _) rfl
theorem Yv(b:Bool)(l:List eH)(fn:Fn)(fs cs:List I)(p:eH->Bool)(H:ab)(an:∀c,oK Tryz.prog (.func fn fs cs) [de c] H (.bool (p c))):
  aY Tryz.prog 208 [.sl b (l.map de),.func fn fs cs] H (.int .i64 (eg p l)):=by
 refine nz fun bl _=>?_
 have hl:=lI bl;rw[cP]at hl;simp only[de]at an;refine bh Tryz.func208 ?_;refine aT ?_;refine b5 (ι:=Nat) (fun i=>[(0,.sl b (l.map de)),(1,.func fn fs cs),(7,.int .i64 l.length),(8,.int .i64 i)]) (fun _=>H) (fun i=>i<=l.length∧∀k (hk:k<i) (eb:k<l.length),p l[k]=false) (fun i=>l.length-i) 0 ⟨bG _,fun k hk=>by omega⟩ ?_ rfl ?_
 ·simp[go_sem]
 ·rintro i ⟨hi,bX⟩;by_cases ak:i<l.length
  ·have ae:=dg de ak;repeat' first|(refine ad ?_;simp only[go_sem,ae,de])|refine af ?_|fail
   refine AB (an _) ?_;simp only[go_sem];repeat' first|refine aT ?_|(refine bD ?_ ?_<;>intro h<;>try exact bB h)|fail
   ·exact bC (.of (by rw[pN p l i ak (fun k hk=>bX k hk (by omega)) h]))
   ·refine⟨i+1,⟨ak,fun k hk eb=>?_⟩,by omega,by rw[cB];rfl⟩
    by_cases e:k=i
    ·subst e;exact h
    ·exact bX k (by omega) eb
  ·have cv:i=l.length:=by omega
   repeat' first|(refine ad ?_;simp only[go_sem])|refine af ?_|fail
   subst cv;exact bC (.of (by rw[pO p l fun k hk=>bX k hk hk]))
theorem aDZ(b:Bool)(l:List eH)(fn:Fn)(fs cs:List I)(p:eH->Bool)(H:ab)(an:∀c,oK Tryz.prog (.func fn fs cs) [de c] H (.bool (p c))):
  aY Tryz.prog 181 [.sl b (l.map de),.func fn fs cs] H (.bool (l.any p)):=by
 refine bh Tryz.func181 ?_;have J:=Yv b l fn fs cs p H an;repeat' first|((first|refine ea (J) (aA) ?_|refine ep (J) (aA) ?_|refine er (fun _=>J) (aA) ?_|refine ad ?_);simp only[go_sem])|refine af ?_|fail
 exact bC (.of (by rw[yx]))
theorem aD0(aV bm:Bool)(g:hy)(h1:g.entries.length<=1073741824)(h2:g.nodes.length<=1073741824)(H:ab):aY Tryz.prog 209 [p7 aV bm g] H (CX g):=by
 refine bh Tryz.func209 ?_;have kP:=Rr aV g.entries h1;have yb:=Qb bm g.nodes h2;simp only[p7];repeat' first|((first|refine mx [1] XO ?_|refine ad ?_);simp only[go_sem])|refine af ?_|fail
 exact bo (.refl _)
theorem aFC(e:eH)(a:jj)(H:ab)(i:Nat)(hi:ao H i=.cells 0 [.int .i64 a.c,.int .i64 a.r]):aY Tryz.prog 182 [de e,.ref i 0 0] H (.bool (decide (e.op.at_=a))):=by
 refine bh Tryz.func182 ?_;simp only[de];have hV:=fun L=>bQ hi trivial L
 refine bW ?_;exact bo (.of (by rw[Tq]))
theorem T6(aV bm:Bool)(g:hy)(a:jj)(H:ab):aY Tryz.prog 146 [p7 aV bm g,xd a] H (.bool (pe g.entries a)):=by
 refine bh Tryz.func146 ?_;have ah:=fun H i (hi:ao H i=.cells 0 [.int .i64 a.c,.int .i64 a.r])=>aDZ aV g.entries (.func 182) [] [.ref i 0 0] (fun e=>decide (e.op.at_=a)) H (fun e=>.mk (first:=[]) (fun L=>aFC e a (H++L) i (bQ hi trivial L)) (aA))
 simp only[p7,xd];repeat' first|((first|refine ea (ah _ _ (by simp only[go_sem])) (aA) ?_|refine ep (ah _ _ (by simp only[go_sem])) (aA) ?_|refine er (fun _=>ah _ _ (by simp only[go_sem])) (aA) ?_|refine ad ?_);simp only[go_sem])|refine af ?_|fail
 exact bo (.refl _)
theorem T7(a b:eH):(decide (a.op=b.op)&&((a.l6.oT==b.l6.oT)&&((a.l6.hh==b.l6.hh)&&decide (a.l6.b4=b.l6.b4))))=decide (a=b):=by
 obtain⟨_,_,_,_⟩:=a;obtain⟨_,_,_,_⟩:=b;rw[qh];simp
theorem aD1(aV bm iE ir:Bool)(g k:hy)(H:ab):aY Tryz.prog 36 [p7 aV bm g,p7 iE ir k] H (.bool (decide (g=k))):=by
 refine nz fun bl _=>?_
 have hl:=lI (Tm bl (.sl aV (g.entries.map de)) (by simp))
 rw[cP]at hl;refine bh Tryz.func36 ?_;simp only[p7];repeat' first|(refine ad ?_;simp only[go_sem])|refine bx ?_|(refine bD ?_ ?_<;>intro h<;>try exact bB h)|fail
 ·exact bo (.of (by rw[b8 (fun e=>by subst e;simp at h)]))
 ·have hlen:g.entries.length=k.entries.length:=by simp at h;omega
  refine b5 (ι:=Nat) (fun i=>[(2,.ref H.length 0 0),(3,.ref (H.length+1) 0 0),(5,.int .i64 i)]) (fun _=>H++[.cells 0 [.sl aV (g.entries.map de),.sl bm (g.nodes.map aW)],.cells 0 [.sl iE (k.entries.map de),.sl ir (k.nodes.map aW)]]) (fun i=>i<=g.entries.length∧g.entries.take i=k.entries.take i) (fun i=>g.entries.length-i) 0 ⟨bG _,rfl⟩ ?_ rfl ?_
  ·simp[go_sem]
  ·rintro i ⟨hi,he⟩;by_cases ak:i<g.entries.length
   ·have ae:=dg de ak;have aS:=dg de (show i<k.entries.length by omega)
    repeat' first|(refine ad ?_;simp only[go_sem,ae,aS,de])|refine bx ?_|(refine bD ?_ ?_<;>intro h<;>try exact bB h)|fail
    ·rw[T4,H6,T7]at h;have aP:g.entries[i]≠k.entries[i]:=by simpa using h
     exact bo (.of (by rw[b8 (fun e=>aP (by subst e;rfl))]))
    ·rw[T4,H6,T7]at h;have heq:g.entries[i]=k.entries[i]:=by simpa using h
     exact⟨i+1,⟨ak,by rw[eB ak,eB (by omega),he,heq]⟩,by omega,bH _ (dW ak hl)⟩
   ·have cv:i=g.entries.length:=by omega
    subst cv;repeat' first|((first|refine du (SB _ _ _ _) ?_|refine ad ?_);simp only[go_sem])|refine af ?_|fail
    refine bo (.of ?_);rw[eQ,hlen,eQ]at he;obtain⟨ge,aSh⟩:=g;obtain⟨aSQ,aKS⟩:=k;simp only at he;subst he;congr 1;rw[qh];simp
end
end Go.Proofs.YthafnbmdmfoobaaGreatDoor
