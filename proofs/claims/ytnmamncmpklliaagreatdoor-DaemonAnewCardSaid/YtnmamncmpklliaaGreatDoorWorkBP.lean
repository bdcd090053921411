/- What the functions of this seat answer (42 of 53). No condition. -/
import Derived.Test.YtnmamncmpklliaaGreatDoorWorkBF
import Derived.Test.YtnmamncmpklliaaGreatDoorWorkBO
set_option linter.unusedSimpArgs false
set_option linter.unusedVariables false
set_option maxRecDepth 100000
set_option maxHeartbeats 16000000
namespace Go.Proofs.YtnmamncmpklliaaGreatDoor
variable{p s t u:ag}{l:List bz}{n:Int}{k i a who:Nat}{Q:Nat->Prop}{d:ft}{w:bO}{x:bK}
open Go.Proofs.Tryz
theorem Pe(m:UInt8)(rest:ag):∀(cs:List ag) (i:Nat) (_:∀c∈cs,c.length<=14) (h:i<cs.length),(cs.flatMap (jd m)++rest).drop (16 * i)=jd m cs[i]++((cs.drop (i+1)).flatMap (jd m)++rest)
 |c::cs,0,_,_=>kk
 |c::cs,i+1,U,h=>by
  have hl:=To (m:=m)<|U c kk
  have K:=Pe m rest cs i (λx J=>U x (by simp[J]))<|by simpa using h
  rw[nj,dr,show 16 * (i+1)=16+16 * i by omega,<-sD,List.drop_left' hl,K]
  simp
theorem aHH(m:UInt8)(s:ag)(i:Nat):ti m s i=(decide ((s.drop (16 * i)).getD 0 0=m)&&decide ((s.drop (16 * i)).getD 15 0=m)):=by
 unfold ti;simp[et,zm]
theorem Yb{m:UInt8}{c:ag}(h:c.length<=14)(r:ag):(jd m c++r).getD 0 0=m/\(jd m c++r).getD 15 0=m:=by
 unfold jd;refine⟨kk,?_⟩
 rw[et,iN,show(15:Nat)=14+1 from rfl,tD,<-dr,dr<|c++cw (14-c.length),pX<|by simp[rV];omega]
 simp[rV,show 14-(c.length+(14-c.length))=0 by omega]
theorem aFX(m:UInt8)(C Y:ag):((jd m (C.take 14)++Y).drop 1).take 14=(C++cw 14).take 14:=by
 have J:(C.take 14++cw (14-(C.take 14).length)).length=14:=by simp[cw];omega
 have e:jd m (C.take 14)++Y=m::((C.take 14++cw (14-(C.take 14).length))++([m]++Y)):=by unfold jd;simp
 rw[e,List.drop_succ_cons,x4,List.take_left' J,List.take_append];congr 1;unfold cw;rw[List.take_replicate];congr 1;simp;omega
theorem aLw{p:Nat->Bool}{l:List Nat}{K:Nat}(bP:K<=l.length)(h:∀i (hi:i<K),p (l[i]'(by omega))=true):K<=(l.takeWhile p).length:=by
 by_cases J:(l.takeWhile p).length<K
 ·have h1:=(KG (p:=p) l).2 iV
  have h2:=h _ J;rw[h1]at h2;cases h2
 ·omega
def Lp(s:ag)(m:UInt8):Option (Int×ag):=(mW (sf s m)).bind fun(c,_)=>(xP c).bind λb=>(e9 b).bind fun(v,aO)=>(mW aO).map fun(p,_)=>(v,p)
theorem WI(s:ag)(n:Int):hz s n=if n<1\/1000000<n then none else(Lp s (pK n.toNat)).bind fun(_,p)=>if(gG n p).2=0/\qB (gG n p).1 s=true then some (p,(gG n p).1.length / 16)else none:=by
 unfold hz Lp;split
 ·rfl
 ·simp only[Option.bind_assoc,Option.bind_map,Option.map_eq_bind];rfl
theorem aFY(t:ag):xP (o3 t)=some t:=by
 have h4:(u9 (tI t)).length=4:=rfl;unfold xP o3;rw[bF,h4,aj iV,J6,x0,xZ,aA rfl]
theorem VY(n:Nat)(p:ag):∃X,o3 (ct n++gF p)=X/\l1 n p=gF X/\X.length=(ct n).length+(gF p).length+4:=⟨_,rfl,rfl,by unfold o3;simp[u9];omega⟩
theorem aEt{n:Nat}(af:n<=1000000)(ad:p.length<=40000)(rest:ag):∃Z,sf (hg n p++rest) (pK n)=l1 n p++Z:=by
 obtain⟨X,cS,J,QX⟩:=VY n p;have t1:=oQ (n:=n) iV
 have t2:=y5 (t:=p) iV
 have aXv:X.length<=50000:=iV
 have t3:=oQ (n:=X.length) iV
 unfold hg;obtain⟨B,U⟩:∃B,l1 n p=B:=⟨_,rfl⟩;rw[U]at J ⊢;have aNI:B.length=(ct X.length).length+X.length:=by rw[J];unfold gF;rw[bF]
 have ta:0<B.length:=iV
 obtain⟨m,hm⟩:∃m,pK n=m:=⟨_,rfl⟩;rw[hm];have O:=AL _ B<|bd _;have bP:=Fq _ B<|bd _;obtain⟨K,T⟩:∃K,(lY B).length=K:=⟨_,rfl⟩;have h7:((lY B).flatMap (jd m)).length=16 * K:=by rw[<-T];exact yx _ _ O
 obtain⟨s,hs⟩:∃s,(lY B).flatMap (jd m)++rest=s:=⟨_,rfl⟩;have I:∀i (h:i<K),s.drop (16 * i)=jd m ((lY B)[i]'(by omega))++(((lY B).drop (i+1)).flatMap (jd m)++rest):=λi h=>by rw[<-hs];exact Pe m rest _ i O iV
 have hlen:16 * K<=s.length:=by rw[<-hs,bF,h7];omega
 have vK:K<=jW m s:=by
  unfold jW;refine aLw (by rw[Bh];omega) λi hi=>?_
  rw[List.getElem_range,aHH,I i hi];obtain⟨a,b⟩:=Yb (m:=m) (O _ (ga (by omega:i<(lY B).length)))<|((lY B).drop (i+1)).flatMap (jd m)++rest
  rw[a,b];simp
 have z:∀i,i<K->qw s i=((B++cw 14).drop (14 * i)).take 14:=λi hi=>by
  have h1:=UH i B;have h2:14 * i<B.length:=iV
  rw[aA h2,da (by omega:i<(lY B).length)]at h1
  have h3:=qP h1;unfold qw;rw[<-sD,I i hi,h3,aFX,Gc iV]
 have dH:∀i,i<=K->rp s i=(B++cw 14).take (14 * i):=λi=>by
  induction i with
  |zero=>intro _;rfl
  |succ i aB=>
   intro h;rw[UO,aB iV,z i iV,show 14 * (i+1)=14 * i+14 by omega,List.take_add]
 have V:xQ m s=some B.length:=by
  unfold xQ;rw[aA iV,z 0 iV]
  rw[Nat.mul_zero,x4,J];unfold gF;rw[dr,List.take_append,iw (by omega:(ct X.length).length<=14),yZ _ iV]
  simp only[fZ];rw[aj iV]
  simp only[eK,bF,rV,e5];congr 1;omega
 refine⟨(cw 14).take<|14 * ((B.length+13) / 14)-B.length,?_⟩;rw[hs];unfold sf;rw[V];simp only;rw[aA iV,dH _ iV,List.take_append,iw iV]
theorem Om{n:Nat}(af:n<=1000000)(ad:p.length<=40000)(rest:ag):Lp (hg n p++rest) (pK n)=some ((n:Int),p):=by
 obtain⟨Z,J⟩:=aEt af ad rest;have t1:=oQ (n:=n) iV
 have t2:=y5 (t:=p) iV
 obtain⟨X,U,K,O⟩:=VY n p;unfold Lp;rw[J,K,I3 X Z iV]
 simp only[fZ];rw[<-U,aFY];simp only[fZ];rw[yZ n iV]
 simp only[fZ];have:=I3 p [] iV
 rw[cA]at this;rw[this];rfl
theorem FF(af:1<=n/\n<=1000000)(ad:p.length<=40000):gG n p=(hg n.toNat p,0):=by
 unfold gG;rw[aj iV]
theorem aFZ(p r:ag):qB p (p++r)=true:=by simp[qB]
theorem aHI(h:qB p s=true):∃r,s=p++r:=by
 unfold qB at h;simp only[cV,gU]at h;exact⟨s.drop p.length,by conv=>lhs;rw[<-pY p.length s];rw[h.2]⟩
theorem Jl(af:1<=n/\n<=1000000)(ad:p.length<=40000)(rest:ag):hz (hg n.toNat p++rest) n=some (p,(hg n.toNat p).length / 16):=by
 rw[WI,aj iV,Om iV ad]
 simp only[fZ];rw[FF af ad,aA ⟨rfl,aFZ _ _⟩]
theorem Ku(h:hz s n=some (p,k)):(1<=n/\n<=1000000)/\p.length<=40000/\∃r,s=hg n.toNat p++r/\k=(hg n.toNat p).length / 16:=by
 obtain⟨-, -,h1,h2,h3,h4⟩:=xr h;refine⟨⟨h1,h2⟩,h4,?_⟩;rw[WI,aj iV]at h
 obtain⟨⟨v,q⟩, -,h⟩:=ni.1 h;simp only at h;split at h
 ·rename_i J;cases h;rw[FF ⟨h1,h2⟩ h4]at J ⊢;obtain⟨r,U⟩:=aHI J.2;exact⟨r,U,rfl⟩
 ·cases h
theorem Af(af:1<=n/\n<=1000000)(ad:p.length<=40000):(hg n.toNat p).length=16 * ((hg n.toNat p).length / 16)/\1<=(hg n.toNat p).length / 16:=by
 have:=Va n p<|by rw[FF af ad]
 rwa[FF af ad]at this
theorem UB{n:Nat}(r:ag)(h:(hg n p).length≠0):(hg n p++r).getD 0 0=pK n:=by
 unfold hg at h ⊢;cases J:lY (l1 n p)with
 |nil=>rw[J]at h;simp at h
 |cons c cs=>rw[nj];unfold jd;simp
theorem aHJ(n:Nat):pK n≠0:=by
 unfold pK;intro h;have:=bU UInt8.toNat h;rw[DT iV]at this
 simp at this
theorem OI{q:ag}{J:Int}{k':Nat}(h:hz s n=some (p,k))(K:hz s J=some (q,k')):n=J:=by
 obtain⟨O,a2,r,av, -⟩:=Ku h;obtain⟨aO,bo,U,al, -⟩:=Ku K;have c1:=Af O a2;have c2:=Af aO bo;have m1:=UB (n:=n.toNat) (p:=p) r iV
 have m2:=UB (n:=J.toNat) (p:=q) U iV
 rw[<-av]at m1;rw[<-al,m1]at m2;have d1:=Om (n:=n.toNat) (p:=p) iV a2 r
 have d2:=Om (n:=J.toNat) (p:=q) iV bo U
 rw[<-av]at d1;rw[<-al,<-m2,d1]at d2;have:=bU Prod.fst<|qP d2;simp only at this;omega
theorem aHK{J:ag}(h:hz s n=some (p,k))(e:J.take (16 * k)=s.take (16 * k)):hz J n=some (p,k):=by
 obtain⟨U,a2,r,av,al⟩:=Ku h;have c1:=Af U a2;have h2:J.take (16 * k)=hg n.toNat p:=by rw[e,av,al,<-c1.1,x0]
 have h3:=Jl U a2<|J.drop (16 * k);rw[<-h2,pY,h2,<-al]at h3;exact h3
def u6(s t:ag):Prop:=s.length=t.length/\∀i,16 * i+16<=s.length->(t.drop (16 * i)).take 16=(s.drop (16 * i)).take 16\/t.getD (16 * i) 0=0
theorem US(h:hz s n=some (p,k))(hi:i<k):s.getD (16 * i) 0≠0:=by
 obtain⟨U,a2,r,av,al⟩:=Ku h;have c1:=Af U a2;have J:=AL _ (l1 n.toNat p)<|bd _;have K:(hg n.toNat p).length=16 * (lY (l1 n.toNat p)).length:=by unfold hg;exact yx _ _ J
 have:=Pe (pK n.toNat) r (lY (l1 n.toNat p)) i J iV
 have aw:s.getD (16 * i) 0=(s.drop (16 * i)).getD 0 0:=by simp[et]
 rw[aw,av];unfold hg;rw[this,(Yb (J _<|ga iV) _).1]
 exact aHJ _
theorem Nk{s t:ag}:∀(k:Nat),(∀i,i<k->(t.drop (16 * i)).take 16=(s.drop (16 * i)).take 16)->t.take (16 * k)=s.take (16 * k)
 |0,_=>kk
 |k+1,h=>by
  rw[show 16 * (k+1)=16 * k+16 by omega,List.take_add,List.take_add,Nk k λi hi=>h i iV,h k iV]
theorem u6.back(h:u6 s t)(ah:hz t n=some (p,k)):hz s n=some (p,k):=by
 have hk:=(xr ah).2.1;refine aHK ah<|Nk k λi hi=>?_
 rcases h.2 i (by have:=h.1;omega)with h|h
 ·exact h.symm
 ·exact absurd h<|US ah hi
theorem u6.no(h:u6 s t)(hs:hz s n=none):hz t n=none:=by
 cases ah:hz t n with
 |none=>rfl
 |some x=>rw[h.back (p:=x.1) (k:=x.2) ah]at hs;cases hs
theorem u6.trans{s t u:ag}(h:u6 s t)(k:u6 t u):u6 s u:=by
 refine⟨h.1.trans k.1,λi hi=>?_⟩
 rcases k.2 i (by have:=h.1;omega)with q|q
 ·rcases h.2 i hi with p|p
  ·exact .inl<|q.trans p
  ·right;have hu:u.getD (16 * i) 0=((u.drop (16 * i)).take 16).getD 0 0:=by simp[et,Dv]
   have ah:t.getD (16 * i) 0=((t.drop (16 * i)).take 16).getD 0 0:=by simp[et,Dv]
   rw[hu,q,<-ah,p]
 ·exact .inr q
def ie(t:ag)(i:Nat):ag:=(t.drop (16 * i)).take 16
def fK(t:ag)(a n:Nat):ag:=(t.drop (16 * a)).take<|16 * n
theorem GV{off:Nat}(h:off+s.length<=t.length)(j:Nat):(iD t off s)[j]?=if off<=j/\j<off+s.length then s[j-off]? else t[j]?:=by
 unfold iD;rw[iw (by omega:s.length<=t.length-off)]
 by_cases h1:j<off
 ·rw[iP (by rw[eK];omega),aj iV,List.getElem?_take_of_lt h1]
 ·rw[pX (by rw[eK];omega),eK,uX iV]
  by_cases h2:j<off+s.length
  ·rw[iP iV,aA ⟨iV,h2⟩]
  ·rw[pX iV,aj iV,zm]
   congr 1;omega
theorem vZ(t:ag)(i j:Nat):(ie t i)[j]?=if j<16 then t[16 * i+j]? else none:=by
 unfold ie;rw[Dv];split
 ·rw[zm]
 ·rfl
structure nV (Q:Nat->Prop) (t u:ag):Prop where
 len:u.length=t.length
 sec:∀i,16 * i+16<=t.length->ie u i=ie t i\/Q i/\u.getD (16 * i) 0=0
theorem nV.refl(Q:Nat->Prop)(t:ag):nV Q t t:=⟨rfl,λ_ _=>.inl rfl⟩
theorem FG(t:ag)(i:Nat):t.getD (16 * i) 0=(ie t i).getD 0 0:=by
 rw[et,et,vZ,aA l9,rJ]
theorem nV.trans{Q:Nat->Prop}{s t u:ag}(h:nV Q s t)(k:nV Q t u):nV Q s u:=by
 refine⟨k.len.trans h.len,λi hi=>?_⟩
 rcases k.sec i (by rw[h.len];exact hi)with q|q
 ·rcases h.sec i hi with p|p
  ·exact .inl<|q.trans p
  ·exact .inr ⟨p.1,by rw[FG,q,<-FG];exact p.2⟩
 ·exact .inr q
theorem nV.mono{R:Nat->Prop}(h:nV Q t u)(aJ:∀i,Q i->R i):nV R t u:=⟨h.len,λi hi=>(h.sec i hi).imp id λq=>⟨aJ i q.1,q.2⟩⟩
theorem AM{n:Nat}(h:i<n):ie (fK t a n) i=ie t (a+i):=by
 unfold fK ie;rw[List.drop_take,sD,Dr,show 16 * a+16 * i=16 * (a+i) by omega,uX iV]
theorem AN{n:Nat}(h:16 * (a+n)<=t.length):(fK t a n).length=16 * n:=by unfold fK;simp;omega
theorem nV.slice(h:nV Q t u){n:Nat}(hl:16 * (a+n)<=t.length):u6 (fK t a n) (fK u a n):=by
 have J:=AN hl;have U:=AN (t:=u) (a:=a) (n:=n)<|by rw[h.len];exact hl
 refine⟨iV,λi hi=>?_⟩
 have af:i<n:=iV
 have av:=AM (t:=t) (a:=a) af;have al:=AM (t:=u) (a:=a) af;rcases h.sec (a+i) iV with q|q
 ·left;unfold ie at av al q;rw[av,al,q]
 ·right;rw[FG,al,<-FG];exact q.2
theorem nV.lO(h:nV Q t u){n:Nat}(hl:16 * (a+n)<=t.length)(aJ:∀i,a<=i->i<a+n->¬Q i):fK u a n=fK t a n:=by
 have J:=AN hl;have U:=AN (t:=u) (a:=a) (n:=n)<|by rw[h.len];exact hl
 have:=Nk (s:=fK t a n) (t:=fK u a n) n λi hi=>by
  have av:=AM (t:=t) (a:=a) hi;have al:=AM (t:=u) (a:=a) hi;rcases h.sec (a+i) iV with q|q
  ·unfold ie at av al q;rw[av,al,q]
  ·exact absurd q.1<|aJ _ iV iV
 rwa[iw iV,iw iV]at this
theorem Yc(h:16 * a+16<=t.length)(hs:s.length<=16)(aw:s≠[]->s.getD 0 0=0)(o:Nat)(O:o+s.length<=16)(J:o=0\/t.getD (16 * a) 0=0):nV (· =a) t (iD t (16 * a+o) s):=by
 have U:=GV (t:=t) (s:=s) (off:=16 * a+o) iV
 refine⟨by rw[xw],λi hi=>?_⟩
 by_cases e:i=a
 ·subst e;by_cases af:s=[]
  ·left;apply x3
   intro j;rw[vZ,vZ];split
   ·rw[U,aj<|by rw[af];simp]
   ·rfl
  ·right;refine⟨rfl,?_⟩;have ad:=pe.2 af;rw[et,U];rcases J with rfl|J
   ·rw[aA iV]
    simpa[et]using aw af
   ·by_cases K:o=0
    ·subst K;rw[aA iV]
     simpa[et]using aw af
    ·rw[aj iV,<-et,J]
 ·left;apply x3
  intro j;rw[vZ,vZ];split
  ·rw[U,aj iV]
  ·rfl
theorem aF0(k:Nat):(cw 16).drop k=cw (16-k):=J4
theorem aF1(k:Nat):(cw 16).take k=cw (min k 16):=List.take_replicate
theorem Kv(n:Nat):(cw n).getD 0 0=0:=by unfold cw;cases n<;>rfl
def N3(Q:Nat->Prop)(n:Nat)(l:List gA):Prop:=∀p∈l,p.data=cw 16/\∃a:Nat,p.at_=a/\a<n/\Q a
theorem aLb{n:Nat}(hl:t.length=n * 16)(U:a<n)(pick:Nat):nV (· =a) t (AS pick t ⟨a,cw 16⟩):=by
 have J:(cw 8).length=8:=rfl;unfold AS;simp only[aF0,aF1,e5];have m2:=Yc (t:=t) (s:=cw 8) (a:=a) iV iV (λ_=>Kv 8) 0 iV<|.inl rfl
 split
 · -- the second half first
   have K:16 * a+16<=(iD t (16 * a+8) (cw 8)).length:=by rw[xw];omega
   have h1:=GV (t:=t) (s:=cw 8) (off:=16 * a+8) iV
   have h2:=GV (t:=iD t (16 * a+8) (cw 8)) (s:=cw 8) (off:=16 * a) iV
   rw[qR a 16];show nV _ _ (iD (iD t (16 * a+8) (cw 8)) (16 * a)<|cw 8);refine⟨by rw[xw,xw],λi hi=>?_⟩
   by_cases e:i=a
   ·subst e;right;refine⟨rfl,?_⟩;rw[et,h2,aA iV]
    simp[cw]
   ·left;apply x3
    intro j;rw[vZ,vZ];split
    ·rw[h2,aj iV,h1,aj iV]
    ·rfl
 ·split
  ·rw[qR a 16];exact m2
  ·exact .refl _ _
theorem YS{Q:Nat->Prop}{n:Nat}(cz:ag):∀(l:List gA) (i:Nat) (t:ag),N3 Q n l->t.length=n * 16->nV Q t (sb cz i l t)
 |[],_,_,_,_=>.refl _ _
 |p::l,i,t,J,hl=>by
  obtain⟨h1,a,h2,h3,h4⟩:=J p kk
  obtain⟨K,U⟩:=p;simp only at h1 h2;subst h1 h2;rw[sb];have m:=aLb hl h3<|Bb cz i;exact(m.mono λj e=>e▸h4).trans<|YS cz l (i+1) _ (λq aJ=>J q (by simp[aJ])) (by rw[m.len];exact hl)
theorem Yd(h:eY d):jr d 0 d.size.toNat=d.loose.foldl (λt p=>iD t (p.at_.toNat * 16) p.data) d.iU:=by
 obtain⟨h1,h2,h3,h4⟩:=h.size;unfold jr;rw[Nat.zero_mul,x4,iw iV]
 have:∀(l:List gA) (t:ag),(∀p∈l,0<=p.at_/\p.at_<d.size)->l.foldl (fun(t:ag) (p:gA)=>if((0:Nat):Int)<=p.at_/\p.at_<(0:Nat)+d.size.toNat then iD t ((p.at_.toNat-0) * 16) p.data else t) t=l.foldl (λt p=>iD t (p.at_.toNat * 16) p.data) t:=by
  intro l;induction l with
  |nil=>intros;rfl
  |cons p l J=>
   intro t ad;have:=ad p kk
   rw[mG,mG,aA iV,Nat.sub_zero]
   exact J _ λq aJ=>ad q<|by simp[aJ]
 exact this _ _ λp ad=>⟨(h4 p ad).1,(h4 p ad).2.1⟩
theorem Y2{Q:Nat->Prop}{n:Nat}:∀(l:List gA) (t:ag),N3 Q n l->t.length=n * 16->
  nV Q t (l.foldl (λt p=>iD t (p.at_.toNat * 16) p.data) t)/\∀i,i<n->(ie t i=cw 16\/∃p∈l,p.at_=i)->ie (l.foldl (λt p=>iD t (p.at_.toNat * 16) p.data) t) i=cw 16
 |[],t,_,_=>⟨.refl _ _,λi hi h=>by rcases h with h|⟨p,ad, -⟩;exact h;cases ad⟩
 |p::l,t,U,hl=>by
  obtain⟨h1,a,h2,h3,h4⟩:=U p kk
  obtain⟨V,K⟩:=p;simp only at h1 h2;subst h1 h2;rw[mG];simp only[e5,qR a 16];have O:(cw 16).length=16:=rfl;have m:=Yc (t:=t) (s:=cw 16) (a:=a) iV iV (λ_=>Kv 16) 0 iV<|.inl rfl
  have T:=GV (t:=t) (s:=cw 16) (off:=16 * a) iV
  rw[rJ]at m;obtain⟨i1,i2⟩:=Y2 l (iD t (16 * a) (cw 16)) (λq aJ=>U q (by simp[aJ]))<|by rw[xw];exact hl
  refine⟨(m.mono λj e=>e▸h4).trans i1,λi hi h=>i2 i hi ?_⟩
  by_cases e:i=a
  ·left;subst e;apply x3
   intro j;rw[vZ];split
   ·rw[T,aA iV,Nat.add_sub_cancel_left]
   ·rw[tA iV]
  ·rcases h with h|⟨p,ad,J⟩
   ·left;rcases m.sec i iV with q|q
    ·rw[q,h]
    ·exact absurd q.1 e
   ·rcases cU.1 ad with rfl|ad
    ·exact absurd (by simp only at J;omega) e
    ·exact .inr ⟨p,ad,J⟩
def iv(d:ft):bO×ag×List ag×Int:=
 let z:=d.size.toNat
 let x:=ks d 2
 if x.1=0 then(sQ,[],[],140)else
 let r:=pc (jr d (2 * bj z)<|z-2 * bj z) x.2.1
 let n:Int:=x.2.1+r.1.length
 let df:bO:={bw:=d,seq:=x.1,base:=x.2.1,next:=n,end_:=(2 * bj z+r.2:Nat),eo:=n-1,kept:=n-1,waits:=[],iy:=true,marked:=0,fg:=0,kQ:=0}
 let cP:=(gd df (2 * bj z+r.2) (cw<|(z-(2 * bj z+r.2)) * 16)).1
 ((gd cP (dT z<|x.1+1) (cw<|bj z * 16)).1,x.2.2,r.1,0)
theorem PD:∀(f:Nat) (s:ag) (n:Int),16 * (mL f s n).2<=s.length/\(mL f s n).1.length<=(mL f s n).2/\(∀p∈(mL f s n).1,p.length<=40000)/\(n<=1000001->n+(mL f s n).1.length<=1000001):=by
 intro f;induction f with
 |zero=>intro s n;simp[mL]
 |succ f U=>
  intro s n;rw[mL];cases ah:hz s n with
  |none=>simp
  |some q=>
   obtain⟨p,k⟩:=q;obtain⟨k1,k2,k3,k4,O,K⟩:=xr ah;obtain⟨h1,h2,h3,h4⟩:=U (s.drop (16 * k))<|n+1;simp only[fT]at h1;refine⟨by simp only;omega,by simp only[cg];omega,λx J=>?_,λ_=>by simp only[cg];have:=h4 iV;omega⟩
   rcases cU.1 J with rfl|J
   ·exact K
   ·exact h3 x J
theorem PE(h:eY w.bw)(a:Nat)(s:ag)(J:w.bw.loose.length+dg s<=1000000):eY (gd w a s).1.bw:=by
 unfold gd;split
 ·exact Pm h a s J
 ·exact h
theorem Le(d:ft):∀i,(ks d i).1<=200/\((ks d i).1≠0->1<=(ks d i).2.1/\(ks d i).2.1<=1000001)/\(ks d i).2.2.length<=40000
 |0=>by simp[ks]
 |i+1=>by
  have h:=Le d i;rw[ks];cases J:qz (pL d i) i with
  |none=>exact h
  |some y=>
   unfold qz at J;obtain⟨k,hk,U⟩:=List.exists_of_findSome?_eq_some J;have hk:=qO.1 hk;have:=aK0 U;unfold yg;simp only;split
   ·exact⟨iV,λ_=>⟨this.2.2.1,this.2.2.2.1⟩,this.2.2.2.2⟩
   ·exact h
def Sy:List cu:=[.free,.free,.free,.pure 0,.pure 0,.pure 0,.pure 0,.free,.free,.pure 0,.pure 0,.pure 0,.pure 0,.free,.pure 0,.pure 0,.pure 0,.eff [false,true,true,false,true,true,true,false,false,false,false],.pure 0,.pure 0,.pure 0,.eff [false,true,true,false,false,false,false,false]]
def Sz:List cu:=[.free,.pure 0,.pure 0,.pure 0,.free,.pure 0,.pure 0,.pure 0,.pure 0,.pure 0,.pure 0,.free,.pure 0,.pure 0,.pure 0,.pure 0,.free,.pure 0,.eff [false,true,true,true,true,true,true,false,true,true,true,false,true,true]]
def SA:List cu:=[.free,.pure 0,.pure 0,.pure 0,.pure 0,.pure 0,.free,.free,.pure 0,.pure 0,.pure 0,.pure 0,.pure 0,.eff [false,true,true,true,false,true,true,false,true,true]]
attribute [go_sem] Sy Sz SA
def Ql(x:bO×ag×List ag×Int):I:=.aQ [dN false false x.1,.str x.2.1,.sl false<|x.2.2.1.map I.str,.int .i64 x.2.2.2]
theorem aCh(f g b:Bool)(w:bO)(t:ag)(l:List ag)(e:Int):fv (.aQ [dN f g w,.str t,.sl b<|l.map I.str,.int .i64 e]) (Ql (w,t,l,e)):=
 .aQ _ _ rfl (c6 (Kx f g w)<|c6 (.refl _) (c6 (.sl _ _) (c6 (.refl _) kZ)))
theorem aMk(f:Bool)(hk:eY d)(hl:d.loose.length<=100000)(H:ab):aM prog 57 [fW f d] H (Ql<|iv d):=by
 refine aZ func57 ?_;have hsz:=hk.size;obtain⟨z,aT⟩:∃z:Nat,d.size=z:=⟨d.size.toNat,iV⟩
 have au:=F3 f hk;have aa:=aMD f hk;obtain⟨aO,bo,hG⟩:=Le d 2;unfold iv;rw[show d.size.toNat=z by omega]
 generalize ks d 2=X at *;obtain⟨q,bs,st⟩:=X;simp only at aa aO bo hG ⊢;unfold fW at *;by_cases aw:q=0
 ·subst aw;rw[aA rfl];repeat' first|(refine ae ?_;simp only[go_sem])|refine ao ?_|fail
  exact aV<|aCh true true true sQ [] [] 140
 ·have Q5:decide ((q:Int)=0)=false:=cQ;rw[aj aw];obtain⟨gW,mM⟩:=bo aw;have IC:bj z<=z / 4:=by unfold bj;omega
  have ai:=O3 z iV
  have O:=XQ f hk (2 * bj z:Nat) (z-2 * bj z:Nat) iV iV
  have RF:BN d (2 * bj z:Nat) (z-2 * bj z:Nat)=(jr d (2 * bj z) (z-2 * bj z),0):=by
   unfold BN;rw[aj iV,e5,e5]
  rw[RF]at O;have mu:=FE hk (2 * bj z) (z-2 * bj z) iV
  have fH:IntKind.i64.wrap (d.size-(2 * bj z:Nat))=((z-2 * bj z:Nat):Int):=by rw[bI];omega
  rw[<-aT]at ai;have AE:=aMC (jr d (2 * bj z) (z-2 * bj z)) bs iV iV
  obtain⟨a6,a8,bb,bf⟩:=PD (jr d (2 * bj z)<|z-2 * bj z).length (jr d (2 * bj z)<|z-2 * bj z) bs;have dC:=bf mM;rw[show mL (jr d (2 * bj z)<|z-2 * bj z).length (jr d (2 * bj z)<|z-2 * bj z) bs=pc (jr d (2 * bj z)<|z-2 * bj z) bs from rfl]at a6 a8 bb dC
  clear bf;generalize pc (jr d (2 * bj z)<|z-2 * bj z) bs=R at *;generalize jr d (2 * bj z) (z-2 * bj z)=S at *;obtain⟨rs,c⟩:=R;simp only at O AE a6 a8 bb dC ⊢;have dV:=Xs f d.loose iV
  unfold fW at O;have dI:IntKind.i64.wrap (bs+(rs.length:Int))=bs+(rs.length:Int):=bI;have xn:IntKind.i64.wrap (((2 * bj z:Nat):Int)+(c:Int))=((2 * bj z+c:Nat):Int):=by rw[bI];omega
  repeat' first|((first|refine cx (O _ _) ?_|refine cx (AE _) ?_|refine ae ?_);simp only[go_sem,Q5,fH,dI,xn])|refine ao ?_|fail
  obtain⟨v0,AI⟩:∃v0:bO,v0={bw:=d,seq:=q,base:=bs,next:=bs+rs.length,end_:=(2 * bj z+c:Nat),eo:=0,kept:=0,waits:=[],iy:=true,marked:=0,fg:=0,kQ:=0}:=⟨_,rfl⟩
  have K:=λH=>FR false true v0 H
  rw[AI]at K;refine dU (K _) aK ?_;rintro v H' ⟨rfl,rfl⟩;simp only[go_sem,im,NB];have RU:IntKind.i64.wrap (bs+(rs.length:Int)-1)=bs+(rs.length:Int)-1:=bI;have I:IntKind.i64.wrap (d.size-((2 * bj z+c:Nat):Int))=((z-(2 * bj z+c):Nat):Int):=by rw[bI];omega
  have aP1:=Py (z-(2 * bj z+c)) iV
  repeat' first|((first|refine mx [11] Sy ?_|refine mx [12] Sz ?_|refine mx [13] SA ?_|refine ae ?_);simp only[go_sem,RU,I])|refine ao ?_|fail
  obtain⟨U,T⟩:∃U:bO,U={bw:=d,seq:=q,base:=bs,next:=bs+rs.length,end_:=(2 * bj z+c:Nat),eo:=bs+rs.length-1,kept:=bs+rs.length-1,waits:=[],iy:=true,marked:=0,fg:=0,kQ:=0}:=⟨_,rfl⟩
  rw[<-T];have dY:eY U.bw:=by rw[T];exact hk
  have vJ:∀F w A B C,dD (H.length+3) F true w (H++[A,B,C,.cells 0<|im F true w (H.length+4),.cells 0 [.ref (H.length+3) 0 0]]):=λF w A B C=>⟨nb,nb⟩
  have qu:∀k,(cw k).length=k:=rV;have V:=λA B C=>F4 (vJ false U A B C) dY (2 * bj z+c) (cw ((z-(2 * bj z+c)) * 16)) (by rw[qu];omega) iV
  have ed:=PE dY (2 * bj z+c) (cw ((z-(2 * bj z+c)) * 16))<|by rw[T];simp only;unfold dg;rw[qu];omega
  obtain⟨d1,uj,gu⟩:=Js U (2 * bj z+c)<|cw ((z-(2 * bj z+c)) * 16);obtain⟨N2,QU⟩:∃N2,gd U (2 * bj z+c) (cw<|(z-(2 * bj z+c)) * 16)=N2:=⟨_,rfl⟩;rw[QU]at uj V ed ⊢;obtain⟨cP,av⟩:=N2;simp only at uj V ed ⊢;subst uj;subst T;simp only[im,hj,ite_self]at V;refine CV (V _ _ _) (by exact aK) ?_
  simp only[go_sem];have h7:=F5 z iV
  have J:=KF z (q+1) iV iV
  rw[<-aT]at h7 J;have aX1:=Py (bj z) iV
  have RV:IntKind.i64.wrap ((q:Int)+1)=((q+1:Nat):Int):=by rw[bI];omega
  repeat' first|((first|refine hY (J _ _) aK ?_|refine kf (J _ _) aK ?_|refine kg (λ_=>J _ _) aK ?_|refine mx [11] Sy ?_|refine mx [12] Sz ?_|refine mx [13] SA ?_|refine ae ?_);simp only[go_sem,RV])|((with_reducible refine And.intro ?_ ?_);focus (exact pj (J _ _) aK))|((with_reducible refine And.intro (And.intro ?_ ?_) ?_);focus (exact pj (J _ _) aK))|(exact pj (J _ _) aK)|refine ao ?_|fail
  have aAv:eY d1:=ed;have Z:=λA B C=>F4 (vJ false {bw:=d1,seq:=(q:Int),base:=bs,next:=bs+rs.length,end_:=(2 * bj z+c:Nat),eo:=bs+rs.length-1,kept:=bs+rs.length-1,waits:=[],iy:=true,marked:=0,fg:=0,kQ:=0} A B C) aAv (dT z (q+1)) (cw (bj z * 16)) (by rw[qu];omega)<|by unfold dT;split<;>omega
  obtain⟨d2,iz,gl⟩:=Js {bw:=d1,seq:=(q:Int),base:=bs,next:=bs+rs.length,end_:=(2 * bj z+c:Nat),eo:=bs+rs.length-1,kept:=bs+rs.length-1,waits:=[],iy:=true,marked:=0,fg:=0,kQ:=0} (dT z (q+1)) (cw<|bj z * 16)
  obtain⟨DK,ug⟩:∃DK,gd {bw:=d1,seq:=(q:Int),base:=bs,next:=bs+rs.length,end_:=(2 * bj z+c:Nat),eo:=bs+rs.length-1,kept:=bs+rs.length-1,waits:=[],iy:=true,marked:=0,fg:=0,kQ:=0} (dT z (q+1)) (cw<|bj z * 16)=DK:=⟨_,rfl⟩
  rw[ug]at iz Z ⊢;obtain⟨dE,al⟩:=DK;simp only at iz Z ⊢;subst iz;simp only[im,hj,ite_self]at Z;refine CV (Z _ _ _) (by exact aK) ?_
  simp only[go_sem];repeat' first|(refine ae ?_;simp only[go_sem])|refine ao ?_|fail
  exact aV<|aCh false true false {bw:=d2,seq:=(q:Int),base:=bs,next:=bs+rs.length,end_:=(2 * bj z+c:Nat),eo:=bs+rs.length-1,kept:=bs+rs.length-1,waits:=[],iy:=true,marked:=0,fg:=0,kQ:=0} st rs 0
def pU(w:bO)(o:aX):bO×Int:=
 if(qV [] o).2≠0 then(w,(qV [] o).2)else
 let a:=qy w (qV [] o).1
 if a.2.2≠0 then(w,a.2.2)else(a.1,0)
def pN(w:bO)(l:List aX):bO×Int:=
 let s:=xL l
 if s.2≠0 then(w,s.2)else
 let m:=rB w s.1
 if m.2≠0 then(w,m.2)else
 let p:=sx<|kv m.1
 if p.2≠0 then(w,p.2)else(p.1,0)
def o7(w:bO)(l:List aX):bO×Int:=
 let s:=oq w
 if s.2≠0 then pN w l else(kv s.1,0)
structure gn (w:bO):Prop where
 bM:n0 w.bw=true
 lo:w.bw.loose.length<=100000
 cl:w.iy=false->w.bw.loose=[]
 AR:w.marked=0
 uF:w.fg=0
 Sk:w.kQ=0
 tq:0<=w.seq/\w.seq<=201
 qE:1<=w.next/\w.next<=1000001
 uc:0<=w.end_/\w.end_<=65536
 sp:0<=w.eo/\w.eo<=1000000
 wt:(w.waits.length:Int)<w.next
 wl:∀p∈w.waits,p.length<=40000
theorem gn.wu(h:gn w):GF w:=
 ⟨⟨h.bM,by have:=h.lo;omega⟩,by have:=h.tq;omega,by have:=h.qE;omega,h.uc,by have:=h.wt;have:=h.qE;omega,by have:=h.sp;omega,λp ad=>by have:=h.wl p ad;omega,by rw[h.uF];omega⟩
theorem gn.append(h:gn w)(p:ag)(ad:p.length<=40000):gn (qy w p).1:=by
 unfold qy;split
 ·exact h
 ·rename_i J;have:=h.qE;have hw:IntKind.i64.wrap (w.next+1)=w.next+1:=bI;refine⟨h.bM,h.lo,h.cl,h.AR,h.uF,h.Sk,h.tq,⟨by simp only;omega,by simp only;omega⟩,h.uc,h.sp,?_,λq aJ=>?_⟩
  ·have:=h.wt;simp only[bF,cg,eg];omega
  ·rcases e4.1 aJ with aJ|aJ
   ·exact h.wl q aJ
   ·rw[dF.1 aJ];exact ad
theorem gn.put(h:gn w)(o:aX)(hs:hD o):gn (pU w o).1:=by
 unfold pU;split
 ·exact h
 ·simp only;split
  ·exact h
  ·rename_i h1 h2;by_cases J:40000<(qV [] o).1.length\/1000000<w.next
   ·unfold qy at h2;rw[aA J]at h2;simp at h2
   ·exact h.append (qV [] o).1 iV
theorem S3(h:gn w):(eB w).bw.loose=[]/\n0 (eB w).bw=true/\(eB w).bw.size=w.bw.size/\(eB w).iy=false:=by
 unfold eB;cases hd:w.iy with
 |true=>exact⟨rfl,(DN h.wu.bM).ok,rfl,rfl⟩
 |false=>exact⟨h.cl hd,h.bM,rfl,hd⟩
theorem Hq(w:bO)(hk:eY w.bw)(a:Nat)(s:ag):(gd w a s).1.bw.loose.length<=w.bw.loose.length+65536/\(w.bw.loose.length<=900000->eY (gd w a s).1.bw)/\(gd w a s).1={w with bw:=(gd w a s).1.bw}/\(gd w a s).1.bw.size=w.bw.size:=by
 have hsz:=hk.size;unfold gd;split
 ·rename_i he;unfold oZ at he ⊢;split at he
  ·simp at he
  split at he
  ·simp at he
  ·rename_i h1 h2;rw[aj h1,aj h2];have ad:(k5 (a:Int).toNat (ha s)).length=dg s:=by unfold k5 ha;simp
   refine⟨by simp only[bF,ad];omega,λhl=>?_,rfl,rfl⟩
   have:=Pm hk a s iV
   unfold oZ at this;rw[aj h1,aj h2]at this;exact this
 ·exact⟨Nat.le_add_right _ _,λ_=>hk,rfl,rfl⟩
theorem gn.lO(h:gn w)(hs:(oq w).2=0):gn (kv (oq w).1):=by
 have aT:=h.wu.bM.size;obtain⟨s1,s2,ld,FQ⟩:=S3 h;have sync:∀v:bO,eY v.bw->v.marked=0->v.fg=0->v.kQ=0->(0<=v.seq/\v.seq<=201)->(1<=v.next/\v.next<=1000001)->(0<=v.end_/\v.end_<=65536)->(0<=v.eo/\v.eo<=1000000)->(v.waits.length:Int)<v.next->(∀p∈v.waits,p.length<=40000)->gn (kv v):=λv hk m1 m2 m3 aP O T V Z I=>by
  unfold kv oh;rw[aj (by simpa using m1)]
  exact⟨(DN hk).ok,by simp[lM],λ_=>rfl,m1,m2,m3,aP,O,T,V,Z,I⟩
 unfold oq at hs ⊢;rw[aj (by simpa using h.AR)]at hs ⊢
 simp only at hs ⊢;split at hs
 ·rename_i e;exact absurd hs e
 rename_i av;split at hs
 ·simp at hs
 rename_i al;rw[aj av,aj al];split at hs
 ·rename_i U;rw[aA U];exact sync w h.wu.bM h.AR h.uF h.Sk h.tq h.qE h.uc h.sp h.wt h.wl
 rename_i U;rw[aj U];split at hs
 ·rename_i e;exact absurd hs e
 rename_i z;rw[aj z];have kM:eY (eB w).bw:=⟨s2,by rw[s1];simp⟩
 obtain⟨ca,K,ku,th⟩:=Hq (eB w) kM w.end_.toNat (oe (w.eo+1) w.waits).1;have K:=K<|by rw[s1];simp
 have J:∀f:bO->Int,(∀v d b,f {v with bw:=d,iy:=b}=f v)->f (eB w)=f w:=λf ax=>by unfold eB oh;split<;>first|exact ax _ _ _|rfl
 have g1:=J bO.marked λ_ _ _=>rfl
 have g2:=J bO.fg λ_ _ _=>rfl
 have g3:=J bO.kQ λ_ _ _=>rfl
 have g4:=J bO.seq λ_ _ _=>rfl
 have g5:=J bO.next λ_ _ _=>rfl
 have:=h.qE;have:=h.uc;rw[ku];exact sync _ K (by simp only;rw[g1];exact h.AR) (by simp only;rw[g2];exact h.uF) (by simp only;rw[g3];exact h.Sk) (by simp only;rw[g4];exact h.tq) (by simp only;rw[g5];exact h.qE)
  ⟨by simp only;omega,by simp only;omega⟩ ⟨by simp only;omega,by simp only;omega⟩ (by simp only[g5,eg];omega) (λp ad=>by cases ad)
theorem Jm(w:bO)(f:bO->Int)(J:∀(v:bO) (d:ft) (b:Bool),f {v with bw:=d,iy:=b}=f v):f (eB w)=f w:=by
 unfold eB oh;split
 ·exact J _ _ _
 ·rfl
structure Kc (w v:bO):Prop where
 bM:eY v.bw
 lo:v.bw.loose.length<=65536
 AR:v.marked=1
 uF:v.fg=w.next
 tq:v.seq=w.seq
 qE:v.next=w.next
 sp:v.eo=w.eo
 wt:v.waits=w.waits
 uc:v.end_=w.end_
 s2:w.seq<200
theorem gn.mark(h:gn w)(s:ag)(hm:(rB w s).2=0):Kc w (rB w s).1:=by
 obtain⟨s1,s2,I,z⟩:=S3 h;have O:eY (eB w).bw:=⟨s2,by rw[s1];simp⟩
 unfold rB at hm ⊢;rw[aj (by simpa using h.AR)]at hm ⊢
 split at hm
 ·simp at hm
 rename_i av;rw[aj av];split at hm
 ·simp at hm
 rename_i al;rw[aj al];simp only at hm ⊢;split at hm
 ·rename_i e;exact absurd hm e
 rename_i T;rw[aj T];split at hm
 ·simp at hm
 rename_i V;rw[aj V];split at hm
 ·rename_i e;exact absurd hm e
 rename_i Z;rw[aj Z];obtain⟨K,U,J,th⟩:=Hq (eB w) O (dT w.bw.size.toNat (w.seq+1).toNat) (gG (w.seq+1)<|hf w.next.toNat s).1;have U:=U<|by rw[s1];simp
 rw[s1]at K;have hw:(eB w).waits=w.waits:=by unfold eB;split<;>rfl
 refine⟨U,by simpa using K,rfl,rfl,?_,?_,?_,?_,?_,iV⟩
 ·rw[J];exact Jm w bO.seq λ_ _ _=>rfl
 ·rw[J];exact Jm w bO.next λ_ _ _=>rfl
 ·rw[J];exact Jm w bO.eo λ_ _ _=>rfl
 ·rw[J];exact hw
 ·rw[J];exact Jm w bO.end_ λ_ _ _=>rfl
theorem Kc.sync{v:bO}(h:gn w)(m:Kc w v):GF (kv v)/\gn (sx<|kv v).1/\(sx (kv v)).2=0:=by
 have hk:=DN m.bM;have af:=h.qE;have O:=h.wt;have hsz:=hk.size;have T:=h.sp;have V:=h.tq;have h2:=m.s2;have e:kv v={v with bw:=lM v.bw,iy:=false,marked:=2,kept:=max v.eo (v.fg-1)}:=by
  unfold kv oh;rw[aA (by rw[m.AR];decide)]
 have Z:bj (lM v.bw).size.toNat<=16384:=by unfold bj;omega
 obtain⟨U,J,K,I⟩:=Hq {v with bw:=lM v.bw,iy:=false,marked:=2,kept:=max v.eo<|v.fg-1,seq:=v.seq+1,base:=v.fg,end_:=(2 * bj (lM v.bw).size.toNat:Nat),eo:=max v.eo<|v.fg-1,waits:=v.waits.drop (min (max v.kQ 0) v.waits.length).toNat} hk (2 * bj (lM v.bw).size.toNat) (cw<|((lM v.bw).size.toNat-2 * bj (lM v.bw).size.toNat) * 16);have J:=J<|by simp[lM]
 rw[e];refine⟨⟨hk,by simp only[m.tq];omega,by simp only[m.qE];omega,?_,by simp only[m.wt];omega,by simp only[m.sp];omega,λp ad=>by rw[m.wt]at ad;have:=h.wl p ad;omega,by simp only[m.uF];omega⟩,?_,?_⟩
 ·simp only[m.uc];exact h.uc
 ·unfold sx;rw[aj (by simp[hk.ok])]
  simp only;rw[K];refine⟨J.ok,fr U<|show 0+65536<=100000 by omega,nofun,rfl,rfl,rfl,by simp only[m.tq];omega,by simp only[m.qE];omega,by simp only;omega,by simp only[m.sp,m.uF];omega,?_,λp ad=>h.wl p ?_⟩
  ·simp only[m.wt,m.qE,fT];omega
  ·rw[m.wt]at ad;exact sA ad
 ·unfold sx;rw[aj (by simp[hk.ok])]
theorem gn.vl(h:gn w)(l:List aX):gn (pN w l).1:=by
 unfold pN;simp only;split
 ·exact h
 split
 ·exact h
 rename_i av al;split
 ·exact h
 exact(Kc.sync h (h.mark _<|by simpa using al)).2.1
theorem gn.kept(h:gn w)(l:List aX):gn (o7 w l).1:=by
 unfold o7;simp only;split
 ·exact h.vl l
 ·rename_i e;exact h.lO<|by simpa using e
theorem gn.eo{w:bO}(h:gn w)(hs:(oq w).2=0):eY (oq w).1.bw/\IntKind.i64.wrap ((oq w).1.fg-1)=(oq w).1.fg-1:=by
 obtain⟨s1,s2,Z,I⟩:=S3 h;have U:IntKind.i64.wrap (w.fg-1)=w.fg-1:=by rw[h.uF];rfl
 unfold oq at hs ⊢;rw[aj (by simpa using h.AR)]at hs ⊢
 simp only at hs ⊢;split at hs
 ·rename_i e;exact absurd hs e
 rename_i av;rw[aj av];split at hs
 ·simp at hs
 rename_i al;rw[aj al];split at hs
 ·rename_i J;rw[aA J];exact⟨h.wu.bM,U⟩
 rename_i J;rw[aj J];split at hs
 ·rename_i e;exact absurd hs e
 rename_i K;rw[aj K];have O:eY (eB w).bw:=⟨s2,by rw[s1];simp⟩
 obtain⟨z,T,V,th⟩:=Hq (eB w) O w.end_.toNat (oe (w.eo+1) w.waits).1;refine⟨T (by rw[s1];simp),?_⟩
 have:(gd (eB w) w.end_.toNat (oe (w.eo+1) w.waits).1).1.fg=0:=by
  rw[V];exact(Jm w bO.fg λ_ _ _=>rfl).trans h.uF
 simp only[this];rfl
theorem Qe{o:aX}(h:b0 o=true):(eS o).length<=200:=by
 obtain⟨hk,h1,h2,h3,h4⟩:=O2 h;have O:=oQ (n:=o.at_.c.toNat) iV
 have T:=oQ (n:=o.at_.r.toNat) iV
 have V:=oQ (n:=o.kind.toNat) iV
 have Z:=oQ (n:=o.node.toNat) iV
 unfold b0 at h;simp only[cV]at h;have J:=h.2;unfold eS;simp only[bF];by_cases U:o.kind=1
 ·rw[aA U]at J ⊢;unfold tS at J;simp only[cV]at J;have af:=GQ J.1.2;have I:=oQ (n:=o.parent.toNat) (by have:=h4 U;omega)
  have K:=y5 (t:=o.name) iV
  rw[bF];omega
 ·rw[aj U]at J ⊢;unfold ve at J;simp only[cV,gU]at J;have af:=J.1.1.2;have K:=y5 (t:=o.data) iV
  omega
theorem aLx(o:aX):(qV [] o).1.length<=200:=by
 unfold qV;split
 ·rename_i h;exact Qe h
 ·simp
theorem Y4:∀(l:List aX),(∀o∈l,b0 o=true)->(l.flatMap eS).length<=200 * l.length
 |[],_=>kk
 |o::l,h=>by
  rw[nj,bF,cg];have:=Qe<|h o kk
  have:=Y4 l λx J=>h x<|by simp[J]
  omega
theorem aLy(c:b8)(ad:c.path.length<=1048576)(H:ab):
  aM prog 236 [c4 c] H (if fQ c=false/\hA c=true then .aQ [.sl false ((hB c).map I.str),.bool true]else .aQ [.sl true [],.bool false]):=by
 refine aZ func236 ?_;have hw:=PS c ad;have K:=Ns false (hB c) (by have:=Oh c;omega)
 unfold BV at hw;cases J:fQ c with
 |true=>
  rw[J,aA rfl]at hw;rw[aj (λh=>by cases h.1)]
  simp only[c4]at hw;repeat' first|(refine ae ?_;simp only[go_sem,c4])|refine ao ?_|fail
  exact aV<|.refl _
 |false=>
  rw[J,aj λh=>by cases h]at hw
  cases U:hA c with
  |true=>
   rw[U,aA rfl]at hw;rw[aA ⟨rfl,rfl⟩];simp only[c4]at hw;repeat' first|(refine ae ?_;simp only[go_sem,c4])|refine ao ?_|fail
   exact aV<|.refl _
  |false=>
   rw[U,aj λh=>by cases h]at hw
   rw[aj (λh=>by cases h.2)]
   simp only[c4]at hw;repeat' first|(refine ae ?_;simp only[go_sem,c4])|refine ao ?_|fail
   exact aV<|.refl _
theorem aRN(a b:bz):(decide (a.has=b.has)&&decide (a.ec=b.ec)&&(decide (a.call=b.call)&&decide (a.at_=b.at_)&&(a.done==b.done)&&(a.ended==b.ended)&&decide (a.upto=b.upto))&&decide (a.mm=b.mm)&&decide (a.mark=b.mark)&&decide (a.end_=b.end_))=decide (a=b):=by
 obtain⟨_,_,_,_,_,_,_,_,_,_⟩:=a;obtain⟨_,_,_,_,_,_,_,_,_,_⟩:=b;rw[pf];simp;constructor<;>(intro h;simp_all)
theorem aMO(a b:b8):(decide (a.kind=b.kind)&&(decide (a.path=b.path)&&(decide (a.to=b.to)&&(decide (a.data=b.data)&&decide (a.n=b.n)))))=decide (a=b):=by
 obtain⟨_,_,_,_,_⟩:=a;obtain⟨_,_,_,_,_⟩:=b;rw[pf];simp
theorem aLz(f1 f2 f3 g1 g2 g3:Bool)(a b:bz)(H:ab):aM prog 87 [hy f1 f2 f3 a,hy g1 g2 g3 b] H (.bool<|decide (a=b)):=by
 refine aZ func87 ?_;have h1:=aLu f1 g1 a.has b.has;have h2:=aMi f2 f3 g2 g3 a.ec b.ec;have h3:=aMO a.call b.call;simp only[vk]at h2;rw[<-aRN];repeat' first|(refine ae ?_;simp only[go_sem,hy,kz])|refine bt ?_|(refine bB ?_ ?_<;>intro h<;>try exact bA h)|fail
 refine aV<|.of (bU I.bool ?_);rw[<-h3]
structure oF (a b:bz):Prop where
 call:b.call=a.call
 mm:b.mm=a.mm
 ended:a.ended=true->b=a
 done:a.done=true->b.done=true/\b.mark=a.mark/\b.upto=a.upto/\(b.ec=a.ec\/a.call.kind=12/\b.ec={du with err:=120})
theorem oF.refl(a):oF a a:=⟨rfl,rfl,λ_=>rfl,λh=>⟨h,rfl,rfl,.inl rfl⟩⟩
theorem oF.alike{a b:bz}(h:nm a b)(he:a.ended=true->b=a):oF a b:=⟨h.1,h.2.2.2.2.2.1,he,λhd=>⟨h.2.1.trans hd,h.2.2.2.2.2.2.1,h.2.2.2.1,.inl h.2.2.2.2.1⟩⟩
def lW(l k:List bz):Prop:=k.length=l.length/\∀(i:Nat) t,l[i]?=some t->∃t',k[i]?=some t'/\oF t t'
theorem lW.refl(l):lW l l:=⟨rfl,λi t h=>⟨t,h,oF.refl t⟩⟩
theorem oF.trans{a b d:bz}(h:oF a b)(k:oF b d):oF a d:=by
 refine⟨k.call.trans h.call,k.mm.trans h.mm,λhe=>?_,λhd=>?_⟩
 ·have e:=h.ended he;subst e;exact k.ended he
 ·obtain⟨h1,h2,h3,h4⟩:=h.done hd;obtain⟨k1,k2,k3,k4⟩:=k.done h1;refine⟨k1,k2.trans h2,k3.trans h3,?_⟩;rcases k4 with k4|⟨k4,J⟩
  ·rcases h4 with h4|⟨h4,U⟩
   ·exact .inl<|k4.trans h4
   ·exact .inr ⟨h4,k4.trans U⟩
  ·exact .inr ⟨by rw[<-h.call];exact k4,J⟩
theorem lW.trans{a b d:List bz}(h:lW a b)(k:lW b d):lW a d:=⟨k.1.trans h.1,λi t ah=>by
 obtain⟨t1,h1,h2⟩:=h.2 i t ah;obtain⟨t2,k1,k2⟩:=k.2 i t1 h1;exact⟨t2,k1,h2.trans k2⟩⟩
theorem z6(l)(n)(f)(i:Nat):(hv l n f)[i]?=l[i]?.map λt=>if n=i then f t else t:=by
 unfold hv;split
 ·rw[wH];by_cases e:n.toNat=i
  ·have al:n=i:=iV
   rw[aA e,aA iV,e,et,da iV]
   simp[al]
  ·have al:¬n=i:=iV
   rw[aj e];simp[al]
 ·cases hi:l[i]? with
  |none=>rfl
  |some t=>
   have:=(cj.1 hi).1;have al:¬n=i:=iV
   simp[al]
theorem BC(l)(n)(f):(hv l n f).length=l.length:=by unfold hv;split<;>simp
theorem B9{f:bz->bz}(h:∀(i:Nat) t,n=i->l[i]?=some t->oF t (f t)):lW l (hv l n f):=by
 refine⟨BC _ _ _,λi t ah=>?_⟩
 rw[z6,ah];refine⟨_,rfl,?_⟩;split
 ·rename_i e;exact h i t e ah
 ·exact oF.refl t
theorem QF{t:bz}(f)(ah:l[who]?=some t)(h:oF t (f t)):lW l (hv l who f):=B9 λi u e hu=>kr
theorem ZQ(t)(k)(he:t.ended=false):oF t (dt t ⟨1,k⟩):=oF.alike (Zg t k) λh=>kr
theorem ZO{w:dx}(h:∀(i:Nat) t,w.aU=i->l[i]?=some t->t.ended=false):lW l (mf l w):=B9 λi t e ah=>ZQ t _<|h i t e ah
theorem ZP:∀(g:List dx) {l:List bz},(∀w∈g,∀(i:Nat) t,w.aU=(i:Int)->l[i]?=some t->t.ended=false)->lW l (g.foldl mf l)
 |[],l,_=>lW.refl l
 |w::g,l,h=>by
  have h1:=ZO<|h w kk
  refine h1.trans<|ZP g λv J i t e ah=>?_
  unfold mf at ah;rw[z6]at ah;obtain⟨u,hu,al⟩:=hC.1 ah;have:=h v (lU _ J) i u e hu;rw[<-al];split<;>exact this
structure DH (x y:bK):Prop where
 aC:lW x.aC y.aC
 kept:x.g.kept<=y.g.kept
 ops:x.ops<+:y.ops
theorem DH.refl(x):DH x x:=⟨lW.refl _,jP _,oz _⟩
theorem aLr(c:eP x)(who:Nat)(full)(K:iE x.g who=true):DH x (mw full who x):=by
 have U:∀w∈x.g.waits,∀(i:Nat) t,w.aU=i->x.aC[i]?=some t->t.done=true/\t.ended=false/\t.call.kind=12:=λw hw i t e ah=>by
  obtain⟨I,t',jz,h1,h2,h3,h4, -⟩:=c.oS w hw;have:I=i:=iV
  subst this;rw[ah]at h1;cases h1;exact⟨h2,h3,h4⟩
 obtain⟨O,T,V⟩:∃w∈x.g.waits,w.aU=who:=by
  unfold iE at K;obtain⟨w,h1,h2⟩:=List.any_eq_true.1 K;exact⟨w,h1,lT h2⟩
 have J:∀(t),t.ended=false->oF t (vj x.time t):=λt he=>⟨rfl,rfl,λh=>(by rw[he]at h;cases h),λh=>⟨h,rfl,rfl,.inl rfl⟩⟩
 unfold mw;cases full with
 |true=>
  rw[aA rfl];refine⟨?_,jP _,oz _⟩;refine lW.trans (B9 λi t e ah=>?_) (B9 (f:=λt=>{t with ended:=true,end_:=x.time}) λi t e ah=>?_)
  ·obtain⟨h1,h2,h3⟩:=U O T i t (by rw[V];exact e) ah
   exact⟨rfl,rfl,λh=>(by rw[h2]at h;cases h),λh=>⟨h,rfl,rfl,.inr ⟨h3,rfl⟩⟩⟩
  ·rw[z6]at ah;obtain⟨u,hu,al⟩:=hC.1 ah;obtain⟨h1,h2,h3⟩:=U O T i u (by rw[V];exact e) hu
   refine J t ?_;rw[<-al];split<;>exact h2
 |false=>
  rw[aj l9]
  refine⟨⟨Lb _ _ _,λj u Z=>?_⟩,?_,oz _⟩
  ·show ∃t',(List.foldl (my x.time) x.aC _)[j]?=some t'/\_;rw[Pq,Z];refine⟨_,rfl,?_⟩;split
   ·rename_i z;obtain⟨w,gQ,al⟩:=bJ.1 z;exact J u (U w (lV.1 gQ).1 j u al Z).2.1
   ·exact oF.refl u
  ·show x.g.kept<=max x.g.kept x.ops.length;omega
theorem Y5(hN:gV x.t x.aC.length (jj x.aC))(Z:∀w∈x.t.waits,∀(i:Nat) t,w.aU=i->x.aC[i]?=some t->t.ended=false)(I:∀(i:Nat) t,x.aC[i]?=some t->t.ended=true->t.done=true):
  ∀(k),k<=x.aC.length->lW x.aC ((List.range k).foldl (lR who) (x.t,x.aC)).2/\gV ((List.range k).foldl (lR who) (x.t,x.aC)).1 x.aC.length (jj ((List.range k).foldl (lR who) (x.t,x.aC)).2)/\(∀w∈((List.range k).foldl (lR who) (x.t,x.aC)).1.waits,w∈x.t.waits)/\∀(i:Nat) t',((List.range k).foldl (lR who) (x.t,x.aC)).2[i]?=some t'->∃t,x.aC[i]?=some t/\nm t t':=by
 intro k;induction k with
 |zero=>exact λ_=>⟨lW.refl _,hN,λw h=>h,λi t h=>⟨t,h,nm.refl t⟩⟩
 |succ k z=>
  intro hk;obtain⟨h1,h2,h3,h4⟩:=z iV
  rw[zp,u0];simp only[mG,Bj];generalize(List.range k).foldl (lR who) (x.t,x.aC)=s at *;have T:k<s.2.length:=by rw[h1.1];omega
  have K:=da T;unfold lR;rw[aBq,et,K,pW];split
  ·rename_i hl;simp only[cV]at hl;obtain⟨d1,d2,d3⟩:=h2.drop (i:=k) iV
   obtain⟨u,hu,V⟩:=h4 k _ K;have aN:s.2[k].ended=false:=by
    cases he:s.2[k].ended with
    |false=>rfl
    |true=>
     have:=I k u hu<|by rw[<-V.2.2.1];exact he
     have O:=hl.2;unfold jL at O;rw[V.2.1,this]at O;simp at O
   have jG:lW s.2 (hv s.2 k pR):=B9 λi t e ah=>by
    have:i=k:=iV
    subst this;rw[K]at ah;cases ah;exact⟨rfl,rfl,λh=>(by rw[aN]at h;cases h),λh=>⟨h,rfl,rfl,.inl rfl⟩⟩
   have J:∀(i) t',(hv s.2 k pR)[i]?=some t'->∃t,x.aC[i]?=some t/\nm t t':=λi t' h=>by
    rw[z6]at h;obtain⟨v,aG,e⟩:=hC.1 h;obtain⟨t,aP,U⟩:=h4 i v aG;refine⟨t,aP,?_⟩;rw[<-e];split
    ·exact U.trans ⟨rfl,rfl,rfl,rfl,rfl,rfl,rfl,rfl⟩
    ·exact U
   have RD:∀w∈(kH s.1 k).2,∃j:Nat,w.aU=j/\j<(hv s.2 k pR).length:=λw hw=>by
    obtain⟨j,aP,U, -⟩:=d2 w hw;exact⟨j,aP,by rw[BC,h1.1];exact U⟩
   obtain⟨g1,g2,g3⟩:=QH (kH s.1 k).2 (hv s.2 k pR) RD;refine⟨(h1.trans jG).trans<|ZP _ λw hw i t e ah=>?_,?_,λw hw=>h3 w (d3 w hw).1,λi t' h=>?_⟩
   ·obtain⟨j,aP,U,bH,cC, -⟩:=d2 w hw;obtain⟨v,RS,RT⟩:=J i t ah;rw[RT.2.2.1];exact Z w (h3 w cC) i v e RS
   ·rw[g2];have:jj (hv s.2 k pR)=kY (jj s.2) k []:=by
     rw[nK K,xY T];rfl
    rw[this];exact d1
   ·obtain⟨t1,c3,a2, -⟩:=g3 i t' h;obtain⟨t,aO,bo⟩:=J i t1 c3;exact⟨t,aO,bo.trans a2⟩
  ·exact⟨h1,h2,h3,h4⟩
theorem aMw(hN:gV x.t x.aC.length (jj x.aC))(J:∀w∈x.t.waits,∀(i:Nat) t,w.aU=i->x.aC[i]?=some t->t.ended=false)(U:∀(i:Nat) t,x.aC[i]?=some t->t.ended=true->t.done=true):lW x.aC (zT who x).aC:=(Y5 hN J U _ (bd _)).1
theorem Zc(c:eP x){t:bz}(ah:x.aC[who]?=some t)(r):
  gV (j1 who x r).t (j1 who x r).aC.length (jj (j1 who x r).aC)/\(∀w∈(j1 who x r).t.waits,∀(i:Nat) t,w.aU=i->(j1 who x r).aC[i]?=some t->t.ended=false)/\∀(i:Nat) t,(j1 who x r).aC[i]?=some t->t.ended=true->t.done=true:=by
 refine⟨?_,?_,?_⟩
 ·show gV x.t (hv x.aC who _).length (jj<|hv x.aC who _);rw[nK ah,kB,xY<|(cj.1 ah).1,Ti (l:=(Ew x r t).has)<|(pT ah).trans rfl];exact c.hN
 ·intro w hw i u h hu;have J:(hv x.aC who (Ew x r))[i]?=some u:=hu;rw[z6]at J;obtain⟨v,U,al⟩:=hC.1 J;have:=(zK c.hT.nodes.l0 (c.kA v<|ds U) (c.wt w hw i h v U)).1;rw[<-al];split
  ·exact this
  ·exact this
 ·intro i u h K;have J:(hv x.aC who (Ew x r))[i]?=some u:=h;rw[z6]at J;obtain⟨v,U,al⟩:=hC.1 J;rw[<-al]at K ⊢;split
  ·rfl
  ·rename_i O;rw[aj O]at K;exact((c.kA v (ds U)).ended K).1
theorem aLs(c:eP x){t:bz}(ah:x.aC[who]?=some t)(he:t.ended=false):DH x (nJ who t (ev x.m.log.nodes t) x):=by
 have hi:=(cj.1 ah).1;have K:∀{p:Prop},t.ended=true->p:=λh=>by rw[he]at h;cases h
 have T:∀(i:Nat) u,who=(i:Int)->x.aC[i]?=some u->u=t:=λi u e h=>by
  have:i=who:=iV
  subst this;rw[ah]at h;exact(qP h).symm
 have vD:=λw hw i u e hu=>by
  have af:=c.wt w hw i e u hu;exact(zK c.hT.nodes.l0 (c.kA u<|ds hu) af).1
 generalize hu:ev x.m.log.nodes t=u;obtain⟨a,k⟩:=u;unfold nJ;simp only;by_cases k1:a=1
 ·subst k1;rw[aA rfl];unfold xW;split
  ·exact⟨QF (λt=>dt t ⟨1,k⟩) ah<|ZQ t k he,jP _,oz _⟩
  ·exact⟨lW.refl _,jP _,oz _⟩
 rw[aj k1];by_cases k2:a=2
 ·subst k2;rw[aA rfl];have V:lW x.aC (hv x.aC who λt=>dt t ⟨2,k⟩):=B9 λi u e h=>by
   rw[T i u e h];obtain⟨-,a2,a3,a4,a5,yf,N4,N5,a9, -⟩:=Jh t k;exact oF.alike ⟨a2,a3,a4,a5,yf,N4,N5,a9⟩ K
  obtain⟨h1,h2,h3⟩:=XA (c.kA t<|ds ah) (by rw[<-pT ah];exact c.hN.uh who) hu
  obtain⟨-,aq⟩:=c.hN.free hi<|by rw[pT ah];exact h2
  unfold xX;cases ax:(fy x.t who k).2 with
  |none=>exact⟨V,jP _,oz _⟩
  |some j=>
   refine⟨V.trans<|ZO λi u e h=>?_,jP _,oz _⟩
   obtain⟨eW,Aa,cF,aN,yL⟩:=aq j ax;rw[z6]at h;obtain⟨v,aG,al⟩:=hC.1 h;have:=vD _ yL i v e aG;rw[<-al];split
   ·rw[(Jh v k).2.2.2.1];exact this
   ·exact this
 rw[aj k2];by_cases k3:a=3
 ·rw[aA k3];unfold yt;have hd:=by
   have J:=uz x.m.log.nodes t;rw[hu,k3]at J;generalize O:(⟨3,k⟩:eZ)=z at J;cases J with
   |none=>cases O
   |back=>cases O
   |wait=>cases O
   |leave=>cases O
   |plain hd=>exact hd
   |nO hd=>exact hd
   |walk _ hd=>exact hd
  have U:lW x.aC (j1 who x<|er x.m t.call).aC:=B9 λi u e h=>by
   rw[T i u e h];exact⟨rfl,rfl,K,λh=>by rw[hd]at h;cases h⟩
  have Z:x.ops<+:(j1 who x (er x.m t.call)).ops:=List.prefix_append _ _;split
  ·obtain⟨cq,cT,dP⟩:=Zc c ah<|er x.m t.call;exact⟨U.trans<|aMw cq cT dP,jP _,Z⟩
  ·exact⟨U,jP _,Z⟩
 rw[aj k3];by_cases k4:a=4
 ·rw[aA k4];unfold wY wx;split
  ·split
   ·exact⟨QF (λt=>{t with ended:=true,end_:=x.time}) ah ⟨rfl,rfl,K,λh=>⟨h,rfl,rfl,.inl rfl⟩⟩,jP _,oz _⟩
   ·exact DH.refl x
  ·split
   ·exact⟨lW.refl _,jP _,oz _⟩
   ·exact⟨lW.refl _,jP _,oz _⟩
 rw[aj k4];by_cases I:a=5
 ·rw[aA I];unfold zJ;exact⟨QF (λt=>{dt t ⟨5,0⟩with end_:=x.time}) ah ⟨rfl,rfl,K,λh=>⟨h,rfl,rfl,.inl rfl⟩⟩,jP _,oz _⟩
 ·rw[aj I];exact DH.refl x
theorem aMG(aO bo hG:Bool)(g:fC)(l:List aX)(U:Fit g l.length)(hl:∀o∈l,hD o)(H:ab):aM prog 38 [om aO bo g,.sl hG<|l.map bh] H (BX (eN g l)<|nW g l):=by
 refine aZ func38 ?_;have jF:=Yk aO bo g (by have:=U.len;omega) (by have:=U.nodes;omega)
 have hlen:l.length<=1000000:=by have:=U.nodes;omega
 simp only[om,CQ,BX]at jF ⊢;repeat' first|(refine ae ?_;simp only[go_sem])|refine bt ?_|(refine bB ?_ ?_<;>intro h<;>try exact bA h)|fail
 refine cE (ι:=Nat×ab) (λx=>[(4,.ref (H.length+1) 0 0),(6,.ref (H.length+2) 0 0),(7,.int .i64<|nW g (l.take x.1)),(13,.sl hG<|l.map bh),(14,.int .i64 l.length),(15,.int .i64 x.1)])
  (λx=>x.2) (λx=>x.1<=l.length/\ay x.2 (H.length+1)=.cells 0 [.sl true [],.sl true []]/\ay x.2 (H.length+2)=.cells 0 [.sl false ((eN g (l.take x.1)).entries.map dv),.sl false<|(eN g (l.take x.1)).nodes.map ba]/\∃M,x.2=H++M)
  (λx=>l.length-x.1) (0,_) ⟨bW _,nb,by simp only[go_sem];rfl,⟨_,rfl⟩⟩ ?_ rfl ?_
 ·simp[go_sem,nW]
 ·rintro⟨i,X⟩ ⟨hi,K,O,T⟩;simp only at hi K O T ⊢;have QU:H.length+1<X.length:=dk K trivial;have Z:H.length+2<X.length:=dk O trivial;have zg:=λM=>b3 O trivial M
  have bG:=λM b=>hX Z M b
  by_cases J:i<l.length
  ·have ad:=di bh J;have bg:decide ((i:Int)<(l.length:Int))=true:=cK;have h8:l.take (i+1)=l.take i++[l[i]]:=fj J;have ql:∀o∈l.take i,hD o:=λo aD=>hl o<|uZ aD
   have I:Fit (eN g<|l.take i) 1:=Fit.all (k:=1) (U.less<|by rw[eK];omega) ql
   have QZ:=YO false false (eN g<|l.take i) l[i] (hl _ (ga J)) I.ops (by have:=I.nodes;omega) (by have:=I.len;omega)
   have aW:eN g (l.take<|i+1)=fc (eN g<|l.take i) l[i]:=by rw[h8,aLI];rfl
   have V:nW g (l.take<|i+1)=nW g (l.take i)+(if nR (eN g<|l.take i) l[i]=0 then 0 else 1):=by rw[h8,aLJ];simp[nW]
   have z:=aL7 g<|l.take i;rw[eK]at z;have hw:IntKind.i64.wrap (nW g (l.take i)+1)=nW g (l.take i)+1:=bI;simp only[om,CQ,bh,BX]at QZ;repeat' first|(refine ae ?_;simp only[go_sem,ad,bh,bg,zg,bG,hw])|refine bt ?_|(refine bB ?_ ?_<;>intro h<;>try exact bA h)|fail
   ·have he:¬nR (eN g<|l.take i) l[i]=0:=by simpa using h
    rw[aj he]at V;exact⟨(i+1,_),⟨J,b3 ((ho iV _).trans K) trivial _,by simp only;rw[aW];exact b3 (b:=.cells 0 [.sl false ((fc (eN g<|l.take i) l[i]).entries.map dv),.sl false<|(fc (eN g (l.take i)) l[i]).nodes.map ba]) (yX Z _) trivial _,DL (mZ T iV _) _⟩,by simp only;omega,⟨by simp only;rw[V],bU _<|dA J iV⟩,rfl⟩
   ·have he:nR (eN g<|l.take i) l[i]=0:=by simpa using h
    rw[aA he]at V;exact⟨(i+1,_),⟨J,b3 ((ho iV _).trans K) trivial _,by simp only;rw[aW];exact b3 (b:=.cells 0 [.sl false ((fc (eN g<|l.take i) l[i]).entries.map dv),.sl false<|(fc (eN g (l.take i)) l[i]).nodes.map ba]) (yX Z _) trivial _,DL (mZ T iV _) _⟩,by simp only;omega,⟨by simp only;rw[V,Int.add_zero],bU _<|dA J iV⟩,rfl⟩
  ·have eV:i=l.length:=iV
   subst eV;have bg:decide ((l.length:Int)<(l.length:Int))=false:=kk
   have aCd:∀b,ay (ar X (H.length+1) b) (H.length+1)=b:=λb=>yX QU b
   rw[eG]at O ⊢;refine hH ?_;obtain⟨M2,QP⟩:=mZ T (i:=H.length+1) iV<|.cells 0 [.sl false ((eN g l).entries.map dv),.sl false ((eN g l).nodes.map ba)]
   exact⟨M2,_,QP,.cl _<|b6.cl nb _,rfl⟩
theorem aLA(l:List aX):∀e∈l.map bh,e.cells.length=7:=λe he=>by
 obtain⟨x,_,rfl⟩:=bJ.1 he;rfl
end Go.Proofs.YtnmamncmpklliaaGreatDoor
