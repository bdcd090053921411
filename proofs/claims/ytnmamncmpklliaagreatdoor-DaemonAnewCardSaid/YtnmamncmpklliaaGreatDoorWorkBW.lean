/- What the functions of this seat answer (49 of 53). No condition. -/
import Derived.Test.YtnmamncmpklliaaGreatDoorWorkBQ
import Derived.Test.YtnmamncmpklliaaGreatDoorWorkBV
set_option linter.unusedSimpArgs false
set_option linter.unusedVariables false
set_option maxRecDepth 100000
set_option maxHeartbeats 16000000
namespace Go.Proofs.YtnmamncmpklliaaGreatDoor
variable{d:ft}{b i k a m j:Nat}{s t u:ag}{x:bK}{y:Bool}{R:List ag}{w:bO}{L:List gA}{H G:ab}{who:Int}
open Go.Proofs.Tryz
theorem UU(w:bO):(eB w).bw.size=w.bw.size:=by unfold eB oh;split<;>rfl
theorem FI(w:bO)(a:Nat)(s:ag):(gd w a s).1.bw.size=w.bw.size/\(gd w a s).1={w with bw:=(gd w a s).1.bw}:=by
 unfold gd;split
 ·unfold oZ
  (repeat' split)<;>exact⟨rfl,rfl⟩
 ·exact⟨rfl,rfl⟩
theorem WU(w:bO):(kv w).bw.size=w.bw.size:=by unfold kv oh;split<;>rfl
theorem aHA(w:bO):(oq w).1.bw.size=w.bw.size:=by
 unfold oq
 (repeat' first|split|simp only)<;>first|rfl|exact((FI _ _ _).1.trans (UU w))
theorem aJI(w:bO)(s:ag):(rB w s).1.bw.size=w.bw.size:=by
 unfold rB
 (repeat' first|split|simp only)<;>first|rfl|exact((FI _ _ _).1.trans (UU w))
theorem aJJ(w:bO):(sx w).1.bw.size=w.bw.size:=by
 unfold sx;split
 ·rfl
 ·exact(FI _ _ _).1
theorem aKJ(w:bO)(o:aX):(pU w o).1.bw.size=w.bw.size:=by
 unfold pU qy
 (repeat' first|split|simp only)<;>rfl
theorem WV(w:bO)(l:List aX):(pN w l).1.bw.size=w.bw.size:=by
 unfold pN
 (repeat' first|split|simp only)<;>first|rfl|exact((aJJ _).trans ((WU _).trans (aJI _ _)))
theorem aJK(w:bO)(l:List aX):(o7 w l).1.bw.size=w.bw.size:=by
 unfold o7;simp only;split
 ·exact WV w l
 ·exact(WU _).trans<|aHA w
theorem UC(w:bO)(a:Nat)(s:ag):(gd w a s).1.bw.loose.length<=w.bw.loose.length+dg s:=by
 unfold gd;split
 ·unfold oZ;have ad:(k5 (a:Int).toNat (ha s)).length=dg s:=by unfold k5 ha;simp
  (repeat' split)<;>first|exact Nat.le_add_right _ _|(simp only[bF,ad];omega)
 ·exact Nat.le_add_right _ _
theorem aJL(hk:eY d)(hl:d.loose=[])(aw:(iv d).2.2.2=0):gn (iv d).1/\(iv d).1.bw.size=d.size:=by
 have hsz:=hk.size;obtain⟨aO,bo,hG⟩:=Le d 2;unfold iv at aw ⊢;simp only at aw ⊢;split at aw
 ·cases aw
 rename_i aJ;rw[aj aJ];obtain⟨gW,mM⟩:=bo aJ;obtain⟨I,z,bb,bf⟩:=PD (jr d (2 * bj d.size.toNat)<|d.size.toNat-2 * bj d.size.toNat).length (jr d (2 * bj d.size.toNat)<|d.size.toNat-2 * bj d.size.toNat) (ks d 2).2.1;have mu:=FE hk (2 * bj d.size.toNat) (d.size.toNat-2 * bj d.size.toNat)<|by unfold bj;omega
 have RH:bj d.size.toNat<=d.size.toNat / 4:=by unfold bj;omega
 have bf:=bf mM;unfold pc at *;generalize mL (jr d (2 * bj d.size.toNat)<|d.size.toNat-2 * bj d.size.toNat).length (jr d (2 * bj d.size.toNat)<|d.size.toNat-2 * bj d.size.toNat) (ks d 2).2.1=R at *;obtain⟨rs,c⟩:=R;generalize ks d 2=X at *;obtain⟨q,bs,st⟩:=X;generalize bj d.size.toNat=z4 at *;simp only at *;have K:∀k,dg (cw<|k * 16)=k:=λk=>by unfold dg;rw[rV];omega
 obtain⟨U,J⟩:∃U:bO,U={bw:=d,seq:=q,base:=bs,next:=bs+rs.length,end_:=(2 * z4+c:Nat),eo:=bs+rs.length-1,kept:=bs+rs.length-1,waits:=[],iy:=true,marked:=0,fg:=0,kQ:=0}:=⟨_,rfl⟩
 rw[<-J];obtain⟨s1,s2⟩:=FI U (2 * z4+c)<|cw ((d.size.toNat-(2 * z4+c)) * 16);have m1:=UC U (2 * z4+c)<|cw ((d.size.toNat-(2 * z4+c)) * 16);have k1:=PE (w:=U) (by rw[J];exact hk) (2 * z4+c) (cw ((d.size.toNat-(2 * z4+c)) * 16))<|by rw[J,K];simp only;rw[hl];simp;omega
 generalize(gd U (2 * z4+c) (cw<|(d.size.toNat-(2 * z4+c)) * 16)).1=O at *;have d0:U.bw=d:=by rw[J]
 rw[K,d0,hl]at m1;simp only[eg]at m1;obtain⟨t1,t2⟩:=FI O (dT d.size.toNat (q+1))<|cw (z4 * 16);have m2:=UC O (dT d.size.toNat (q+1))<|cw (z4 * 16);have k2:=PE k1 (dT d.size.toNat (q+1)) (cw (z4 * 16))<|by rw[K];omega
 generalize(gd O (dT d.size.toNat<|q+1) (cw<|z4 * 16)).1=T at *;rw[K]at m2;refine⟨?_,t1.trans<|s1.trans (by rw[d0])⟩
 have V:T={U with bw:=T.bw}:=by rw[t2,s2]
 have f:=fun{α:Type} (g:bO->α) (Z:∀w d,g {w with bw:=d}=g w)=>(show g T=g U by rw[V];exact Z _ _)
 refine⟨k2.ok,iV,λh=>?_,?_,?_,?_,?_,?_,?_,?_,?_,?_⟩
 ·rw[f bO.iy λ_ _=>rfl,J]at h;cases h
 ·rw[f bO.marked λ_ _=>rfl,J]
 ·rw[f bO.fg λ_ _=>rfl,J]
 ·rw[f bO.kQ λ_ _=>rfl,J]
 ·rw[f bO.seq λ_ _=>rfl,J];simp only;omega
 ·rw[f bO.next λ_ _=>rfl,J];simp only;omega
 ·rw[f bO.end_ λ_ _=>rfl,J];simp only;omega
 ·rw[f bO.eo λ_ _=>rfl,J];simp only;omega
 ·rw[f bO.waits λ_ _=>rfl,f bO.next λ_ _=>rfl,J];simp only[eg];omega
 ·rw[f bO.waits λ_ _=>rfl,J];intro p ad;cases ad
def lb:Nat->List ag->ag
 |_,[]=>[]
 |n,p::l=>hg n p++lb (n+1) l
theorem UD:∀(l m:List ag) (n:Nat),lb n (l++m)=lb n l++lb (n+l.length) m
 |[],m,n=>by simp[lb]
 |p::l,m,n=>by rw[iN,lb,lb,UD l m,dr,cg,tC,Nat.add_comm 1]
theorem N9:∀(l:List ag) (n:Nat),1<=n->n+l.length<=1000001->(∀p∈l,p.length<=40000)->(lb n l).length=16 * ((lb n l).length / 16)
 |[],n,_,_,_=>by simp[lb]
 |p::l,n,h1,h2,ad=>by
  rw[cg]at h2;have J:=N9 l (n+1) iV iV λq aJ=>ad q<|by simp[aJ]
  have:=Af (n:=(n:Int)) (p:=p) ⟨iV,iV⟩<|ad p kk
  rw[e5]at this;rw[lb,bF];omega
theorem UE:∀(l:List ag) (n:Nat) (Y:ag),1<=n->n+l.length<=1000001->(∀p∈l,p.length<=40000)->hz Y (n+l.length:Nat)=none->pc (lb n l++Y) n=(l,(lb n l).length / 16)
 |[],n,Y,_,_,_,J=>by simpa[lb]using Vb J
 |p::l,n,Y,h1,h2,ad,J=>by
  rw[cg]at h2 J;have U:=UE l (n+1) Y iV iV (λq aJ=>ad q (by simp[aJ]))<|by rwa[show n+1+l.length=n+(l.length+1) by omega]
  have hk:=Af (n:=(n:Int)) (p:=p) ⟨iV,iV⟩<|ad p kk
  have ah:=Jl (n:=(n:Int)) (p:=p) ⟨iV,iV⟩ (ad p kk)<|lb (n+1) l++Y
  have K:=N9 l (n+1) iV iV λq aJ=>ad q<|by simp[aJ]
  rw[e5]at hk ah;rw[lb,dr,Vc ah,<-hk.1,xZ];have e:((n:Int)+1)=((n+1:Nat):Int):=iV
  rw[e,U,bF];refine oB rfl ?_;simp only;omega
theorem aHB{q:Nat}{S r:ag}(aJ:1<=q/\q<=1000000)(J:1<=b/\b<=1000001)(hl:(hf b S).length<=40000):lf (hg q (hf b S)++r) q=some ((b:Int),S):=by
 have h:=Jl (n:=(q:Int)) (p:=hf b S) ⟨iV,iV⟩ hl r
 rw[e5]at h;have U:S.length<=40000:=by
  unfold hf gF at hl;simp only[bF]at hl;omega
 unfold lf;rw[h];simp only[fZ];unfold hf;rw[yZ _ iV]
 simp only[fZ];rw[aj iV]
 have:=I3 S [] iV
 rw[cA]at this;rw[this];rfl
theorem KB{x:ag}{q b:Int}(h:lf s q=some (b,x)):∃t k,hz s q=some (t,k)/\∀J,hz J q=some (t,k)->lf J q=some (b,x):=by
 unfold lf at h;obtain⟨⟨t,k⟩,h1,h2⟩:=ni.1 h;refine⟨t,k,h1,λJ hs=>?_⟩
 unfold lf;rw[hs];exact h2
theorem u6.Jr{q:Int}(h:u6 s t)(hs:lf s q=none):lf t q=none:=by
 cases ah:lf t q with
 |none=>rfl
 |some x=>
  obtain⟨u,k,h1,h2⟩:=KB (b:=x.1) (x:=x.2) ah;rw[h2 s (h.back h1)]at hs;cases hs
theorem aHC{q:Nat}{y:Int×ag}(aJ:1<=q/\q<=200)(hi:q % 2=i)(h:lf s q=some y)(h1:∀U:Nat,U≠q->lf s U=none):qz s i=some (q,y):=by
 have key:∀k,k<200->o4 s i k=if k+1=q then some (q,y)else none:=λk _=>by
  unfold o4;by_cases e:k+1=q
  ·rw[aA iV,aA e,e,h];rfl
  ·rw[aj e];split
   ·rw[h1 _ e];rfl
   ·rfl
 unfold qz;cases K:(List.range 200).findSome? (o4 s i)with
 |none=>
  have:=List.findSome?_eq_none_iff.1 K (q-1)<|qO.2 iV
  rw[key _ iV,aA iV]at this
  cases this
 |some x=>
  obtain⟨k,hk,J⟩:=List.exists_of_findSome?_eq_some K;rw[key _ (qO.1 hk)]at J;split at J
  ·exact J.symm▸rfl
  ·cases J
theorem aHD{q:Nat}(hi:q % 2≠i)(h1:∀U:Nat,q<U->lf s U=none):∀y,qz s i=some y->y.1<q:=λy h=>by
 unfold qz at h;obtain⟨k,hk,J⟩:=List.exists_of_findSome?_eq_some h;unfold o4 at J;split at J
 ·rename_i ad;obtain⟨z,K,rfl⟩:=hC.1 J;simp only;by_cases O:q<k+1
  ·rw[h1 _ O]at K;cases K
  ·have:q≠k+1:=λe=>by rw[e]at hi;exact hi ad
   omega
 ·cases J
theorem Nn(n q:Nat):dT n q=dT n (q % 2):=by unfold dT;simp
theorem aJM{q:Nat}{y:Int×ag}(aJ:1<=q/\q<=200)(h:qz (pL d<|q % 2) (q % 2)=some (q,y))(U:∀z,qz (pL d<|(q+1) % 2) ((q+1) % 2)=some z->z.1<q):ks d 2=(q,y):=by
 rw[ks,ks,ks];rcases Nat.mod_two_eq_zero_or_one q with e|e
 ·have av:(q+1) % 2=1:=iV
  rw[e]at h;rw[av]at U;rw[h];have aw:yg (0,0,[]) (some (q,y))=(q,y):=aA<|by simp only;omega
  rw[aw];cases K:qz (pL d 1) 1 with
  |none=>rfl
  |some z=>exact aj (by have:=U z K;simp only;omega)
 ·have av:(q+1) % 2=0:=iV
  rw[e]at h;rw[av]at U;rw[h];have J:(yg (0,0,[]) (qz (pL d 0) 0)).1<q:=by
   cases K:qz (pL d 0) 0 with
   |none=>show 0<q;omega
   |some z=>
    have:=U z K;unfold yg;simp only;split
    ·exact this
    ·simp only;omega
  exact aA J
theorem aFx(h:d.loose=[])(a n:Nat):jr d a n=fK d.iU a n:=by
 unfold jr fK;rw[h,qR a,qR n];rfl
theorem I8(t:ag)(a m k:Nat):fK t a (m+k)=fK t a m++fK t (a+m) k:=by
 unfold fK;rw[Nat.mul_add,List.take_add,sD,<-Nat.mul_add]
structure u5 (t:ag) (n q b k e:Nat) (R:List ag):Prop where
 lA:t.length=n * 16
 aP:1<=q/\q<=200
 aO:1<=b/\b<=k+1
 k2:k<=R.length
 ki:R.length<=1000000
 rA:∀p∈R,p.length<=40000
 uE:(hf b (R.take<|b-1).flatten).length<=40000
 av:2 * bj n+e<=n
 al:fK t (2 * bj n) e=lb b ((R.take k).drop (b-1))
 sl:∃r,fK t (dT n q) (bj n)=hg q (hf b (R.take<|b-1).flatten)++r
 ol:∀j5:Nat,q<j5->lf (fK t (dT n (q+1))<|bj n) j5=none
 qI:hz (fK t (2 * bj n+e)<|n-(2 * bj n+e)) (k+1:Nat)=none
theorem NM(n a:Nat):dT n a=0\/dT n a=bj n:=by unfold dT;split<;>simp
theorem Jo(n:Nat):4 * bj n<=n:=by unfold bj;omega
theorem WW{n q:Nat}(h1:dT n q<=i)(h2:i<dT n q+bj n):¬(dT n (q+1)<=i/\i<dT n (q+1)+bj n):=by
 unfold dT at *;rcases Nat.mod_two_eq_zero_or_one q with p|p
 ·rw[aA p]at h1 h2;rw[aj iV];omega
 ·rw[aj iV]at h1 h2;rw[aA iV];omega
def Sh(n q e:Nat)(i:Nat):Prop:=2 * bj n+e<=i\/dT n (q+1)<=i/\i<dT n (q+1)+bj n
theorem u5.mix{n q e:Nat}(h:u5 t n q b k e R)(hm:nV (Sh n q e) t u):u5 u n q b k e R:=by
 obtain⟨U,aP,aO,k2,ki,rA,uE,av,al,sl,ol,qI⟩:=h;have V:=Jo n;have J:=NM n;have c1:=hm.lO (a:=dT n q) (n:=bj n) (by rcases J q with p|p<;>omega) λi h1 h2 h=>h.elim (λh=>by rcases J q with p|p<;>omega) (WW h1 h2)
 have c2:=hm.slice (a:=dT n (q+1)) (n:=bj n)<|by rcases J (q+1)with p|p<;>omega
 have K:=hm.lO (a:=2 * bj n) (n:=e) iV λi h1 h2 h=>by unfold Sh at h;rcases J (q+1)with p|p<;>omega
 have O:=hm.slice (a:=2 * bj n+e) (n:=n-(2 * bj n+e)) iV
 exact⟨by rw[hm.len,U],aP,aO,k2,ki,rA,uE,av,by rw[K];exact al,by rw[c1];exact sl,λT h=>c2.Jr<|ol T h,O.no qI⟩
theorem u5.aMJ{n q e:Nat}(h:u5 u n q b k e R){sz:Int}(af:sz.toNat=n):
  ks ⟨sz,u,[]⟩ 2=(q,((b:Int),(R.take (b-1)).flatten))/\pc (jr ⟨sz,u,[]⟩ (2 * bj n)<|n-2 * bj n) b=((R.take k).drop (b-1),e):=by
 obtain⟨T,aP,aO,k2,ki,rA,uE,av,al,⟨r,K⟩,ol,qI⟩:=h;have Jr:=aHB (q:=q) (b:=b) (S:=(R.take (b-1)).flatten) (r:=r) ⟨iV,iV⟩ ⟨iV,iV⟩ uE
 rw[<-K]at Jr;have J:∀a m,jr ⟨sz,u,[]⟩ a m=fK u a m:=λa m=>aFx rfl a m
 refine⟨aJM aP ?_ ?_,?_⟩
 ·unfold pL;simp only[J,af];rw[<-Nn];refine aHC aP rfl Jr λU V=>?_
  cases ah:lf (fK u (dT n q)<|bj n) U with
  |none=>rfl
  |some x=>
   obtain⟨t1,k1,g1, -⟩:=KB (b:=x.1) (x:=x.2) ah;obtain⟨t2,k3,g2, -⟩:=KB Jr;have:=OI g1 g2;omega
 ·unfold pL;simp only[J,af];rw[<-Nn];exact aHD iV λU h=>ol U iV
 ·rw[J,show n-2 * bj n=e+(n-(2 * bj n+e)) by omega,I8,al]
  have hlen:((R.take k).drop (b-1)).length=k-(b-1):=by rw[fT,eK];omega
  have O:=UE ((R.take k).drop (b-1)) b (fK u (2 * bj n+e)<|n-(2 * bj n+e)) aO.1 iV (λp ad=>rA p<|uZ (sA ad)) (by
   rw[hlen,show b+(k-(b-1))=k+1 by omega];exact qI)
  rw[O];refine oB rfl ?_;simp only;have:=AN (t:=u) (a:=2 * bj n) (n:=e) iV
  rw[<-al,this];omega
theorem u5.aRS{n q e:Nat}(h:u5 u n q b k e R):u5 u n q b k e (R.take k):=by
 obtain⟨U,aP,aO,k2,ki,rA,uE,av,al,sl,ol,qI⟩:=h;have J:(R.take k).take (b-1)=R.take (b-1):=by rw[Dr,uX iV]
 have hl:(R.take k).length=k:=by rw[eK];omega
 exact⟨U,aP,aO,iV,iV,λp ad=>rA p<|uZ ad,by rw[J];exact uE,av,by rw[iw iV];exact al,by rw[J];exact sl,ol,qI⟩
structure ix (w:bO) (R:List ag) (n q b k e:Nat) (t:ag) (L:List gA) (y:Bool):Prop where
 eq:w=⟨⟨n,t,L⟩,q,b,(R.length+1:Nat),(2 * bj n+e:Nat),k,k,R.drop k,y,0,0,0⟩
 nH:u5 t n q b k e R
 n6:n<=65536
 Fs:L.length<=100000
 zero:y=false->L=[]/\∀i,2 * bj n+e<=i->i<n->ie t i=cw 16
 lo:N3 (Sh n q e) n L
 Hz:y=true->∀i,2 * bj n+e<=i->i<n->∃p∈L,p.at_=i
theorem ix.bM{n q e:Nat}(h:ix w R n q b k e t L y):eY w.bw:=by
 have:=h.nH.lA;have:=h.n6;rw[h.eq];refine⟨?_,fr h.Fs l9⟩
 unfold n0;simp only[cV,gU,gm];refine⟨iV,iV,iV,λp ad=>?_⟩
 obtain⟨h1,a,h2,h3, -⟩:=h.lo p ad;unfold tm;simp only[cV,gU];exact⟨iV,iV,by rw[h1];rfl⟩
theorem ix.rU{n q e:Nat}(h:ix w R n q b k e t L y)(cz:ag):∃u,pk w.bw cz=⟨n,u,[]⟩/\u5 u n q b k e (R.take k):=by
 refine⟨sb cz 0 L t,by rw[h.eq];rfl,(h.nH.mix ?_).aRS⟩
 exact YS cz L 0 t h.lo h.nH.lA
theorem aHE{p:ag}{n:Nat}(hl:t.length=n * 16)(K:a<n)(ad:p.length=16)(j:Nat):ie (iD t (a * 16) p) j=if j=a then p else ie t j:=by
 have U:=GV (t:=t) (s:=p) (off:=a * 16) iV
 apply x3
 intro i;split
 ·subst_vars
  rw[vZ];split
  ·rw[U,aA iV];congr 1;omega
  ·rw[tA iV]
 ·rw[vZ,vZ];split
  ·rw[U,aj iV]
  ·rfl
theorem Vr{t:ag}{n a:Nat}(f:Nat->ag)(hl:t.length=n * 16):∀m,a+m<=n->(∀i,i<m->(f i).length=16)->
  (((List.range m).map λi=>(⟨(a+i:Nat),f i⟩:gA)).foldl (λt p=>iD t (p.at_.toNat * 16) p.data) t).length=n * 16/\
  ∀j,ie (((List.range m).map λi=>(⟨(a+i:Nat),f i⟩:gA)).foldl (λt p=>iD t (p.at_.toNat * 16) p.data) t) j=if a<=j/\j<a+m then f (j-a)else ie t j
 |0,_,_=>⟨hl,λj=>by rw[aj iV];rfl⟩
 |m+1,h,J=>by
  obtain⟨i1,i2⟩:=Vr (a:=a) f hl m iV λi hi=>J i iV
  rw[zp,nQ,u0];obtain⟨u,hu⟩:∃u,List.foldl (fun(t:ag) (p:gA)=>iD t (p.at_.toNat * 16) p.data) t ((List.range m).map λi=>(⟨(a+i:Nat),f i⟩:gA))=u:=⟨_,rfl⟩
  rw[hu]at i1 i2 ⊢;simp only[dz,hj,mG,Bj,e5];refine⟨by rw[xw,i1],λj=>?_⟩
  rw[aHE i1 iV (J m iV) j,i2 j]
  by_cases e:j=a+m
  ·rw[aA e,aA iV,e,Nat.add_sub_cancel_left]
  ·rw[aj e];by_cases al:a<=j/\j<a+m
   ·rw[aA al,aA iV]
   ·rw[aj al,aj iV]
theorem Vs(hs:s.length=16 * m)(a:Nat):k5 a (ha s)=(List.range m).map λi=>(⟨(a+i:Nat),ie s i⟩:gA):=by
 have hm:dg s=m:=by unfold dg;omega
 unfold k5 ha;rw[cv,Bh,hm];refine List.map_congr_left λi hi=>?_
 have hi:=qO.1 hi;rw[et,mF,List.getElem?_range hi];simp only[wC,pW];unfold wW ie;rw[qR i 16,fT,show 16-(s.length-16 * i)=0 by omega]
 simp[cw]
theorem aHF{n:Nat}(h:t.length=16 * n)(hi:i<n):(ie t i).length=16:=by unfold ie;simp;omega
theorem aFy{n:Nat}(hs:s.length=16 * m)(h:a+m<=n):oZ ⟨n,t,L⟩ a s=(⟨n,t,L++k5 a (ha s)⟩,0):=by
 have hm:dg s=m:=by unfold dg;omega
 unfold oZ;rw[aj iV,aj<|by simp only[hm];omega]
 rfl
theorem FJ{n:Nat}(hd:w.bw=⟨n,t,L⟩)(hs:s.length=16 * m)(h:a+m<=n):gd w a s=({w with bw:=⟨n,t,L++k5 a (ha s)⟩},0):=by
 unfold gd;rw[hd,aFy hs h];rfl
theorem Ta{n:Nat}(hl:t.length=n * 16)(U:n<=65536)(hs:s.length=16 * m)(h:a+m<=n):
  ∃u,lM ⟨n,t,k5 a<|ha s⟩=⟨n,u,[]⟩/\u.length=n * 16/\∀j,ie u j=if a<=j/\j<a+m then ie s (j-a)else ie t j:=by
 have ad:=Vs hs a;have J:∀i,i<m->(ie s i).length=16:=λi hi=>aHF hs hi
 have hk:eY ⟨n,t,k5 a<|ha s⟩:=by
  refine⟨?_,by rw[ad];simp;omega⟩
  unfold n0;simp only[cV,gU,gm];refine⟨iV,iV,iV,λp aJ=>?_⟩
  rw[ad]at aJ;obtain⟨i,hi,rfl⟩:=bJ.1 aJ;have hi:=qO.1 hi;unfold tm;simp only[cV,gU];exact⟨iV,iV,J i hi⟩
 obtain⟨f1,f2⟩:=Vr (a:=a) (ie s) hl m h J;refine⟨_,?_,f1,f2⟩;have:=Yd hk;unfold lM;rw[this];simp only[ad]
theorem JT{n:Nat}(ah:16 * (a+n)<=t.length)(hu:16 * (b+n)<=u.length)(h:∀i,i<n->ie u (b+i)=ie t (a+i)):fK u b n=fK t a n:=by
 have J:=AN ah;have U:=AN hu;have:=Nk (s:=fK t a n) (t:=fK u b n) n λi hi=>by
  have av:=AM (t:=t) (a:=a) hi;have al:=AM (t:=u) (a:=b) hi;unfold ie at av al;have:=h i hi;unfold ie at this;rw[av,al,this]
 rwa[iw iV,iw iV]at this
theorem Ou(h:s.length=16 * m):fK s 0 m=s:=by
 unfold fK;rw[Nat.mul_zero,x4,iw iV]
theorem NN{n:Int}(h:s.getD 0 0=0):hz s n=none:=by
 cases ah:hz s n with
 |none=>rfl
 |some x=>
  have hk:=(xr (p:=x.1) (k:=x.2) ah).1;exact absurd h<|US (p:=x.1) (k:=x.2) (i:=0) ah iV
theorem aKK{q:Int}(h:hz s q=none):lf s q=none:=by unfold lf;rw[h];rfl
theorem Ov{n:Nat}(h:a<n->ie t a=cw 16)(hl:t.length=n * 16):(fK t a (n-a)).getD 0 0=0:=by
 by_cases J:a<n
 ·have:=h J;have e:=AM (t:=t) (a:=a) (n:=n-a) (i:=0) iV
  have aw:=FG (fK t a<|n-a) 0;rw[e,rJ,this]at aw;exact aw.trans<|Kv 16
 ·unfold fK;rw[show n-a=0 by omega,Nat.mul_zero,Du]
  rfl
theorem Vt:∀(l:List ag) (n:Nat),1<=n->n+l.length<=1000001->(∀p∈l,p.length<=40000)->oe n l=(lb n l,0)
 |[],n,_,_,_=>rfl
 |p::l,n,h1,h2,ad=>by
  rw[cg]at h2;have J:=Vt l (n+1) iV iV λq aJ=>ad q<|by simp[aJ]
  have e:((n:Int)+1)=((n+1:Nat):Int):=iV
  rw[oe,FF ⟨iV,iV⟩<|ad p kk,e,J,e5]
  rfl
theorem ix.append{n q e:Nat}(h:ix w R n q b k e t L y)(p:ag)(aw:(qy w p).2.2=0):ix (qy w p).1 (R++[p]) n q b k e t L y:=by
 obtain⟨he,⟨lA,aP,aO,k2,ki,rA,uE,av,al,sl,ol,qI⟩,n6,Fs,zero,lo,Hz⟩:=h;unfold qy at aw ⊢;split at aw
 ·simp at aw
 rename_i U;rw[aj U];rw[he]at U ⊢;simp only at U ⊢;have K:(R++[p]).take (b-1)=R.take (b-1):=NP iV
 have O:(R++[p]).take k=R.take k:=NP iV
 have T:(R++[p]).drop k=R.drop k++[p]:=Gc iV
 have hl:(R++[p]).length=R.length+1:=kk
 refine⟨?_,⟨lA,aP,aO,iV,iV,λx J=>?_,by rw[K];exact uE,av,by rw[O];exact al,by rw[K];exact sl,ol,qI⟩,n6,Fs,zero,lo,Hz⟩
 ·rw[T,hl,bI];congr 1
 ·rcases e4.1 J with J|J
  ·exact rA x J
  ·rw[dF.1 J];omega
theorem ix.settle{n q e:Nat}(h:ix w R n q b k e t L y):∃u,ix (eB w) R n q b k e u [] false:=by
 cases y with
 |false=>
  obtain⟨U,z2⟩:=h.zero rfl;subst U;refine⟨t,?_⟩;have:eB w=w:=by unfold eB;rw[h.eq];rfl
  rwa[this]
 |true=>
  have hk:=h.bM;have hs:=Yd hk;have J:=Y2 L t h.lo h.nH.lA;have hd:w.bw=⟨n,t,L⟩:=by rw[h.eq]
  rw[hd]at hs;simp only at hs;obtain⟨u,hu⟩:∃u,List.foldl (λt (p:gA)=>iD t (p.at_.toNat * 16) p.data) t L=u:=⟨_,rfl⟩
  rw[hu]at hs J;refine⟨u,?_,h.nH.mix J.1,h.n6,bW _,λ_=>⟨rfl,λi h1 h2=>J.2 i h2<|.inr (h.Hz rfl i h1 h2)⟩,λp ad=>(by cases ad),nofun⟩
  unfold eB oh lM;rw[hd];simp only[hs];rw[h.eq];rfl
def MT:List cu:=[.free,.free,.pure 0,.pure 0,.pure 0,.pure 0,.pure 0,.pure 0,.free,.pure 0,.pure 0,.pure 0,.pure 0,.free,.pure 0,.pure 0,.pure 0,.pure 0,.pure 0,.eff [false,true,false,false,false,false,false,false,false,false,false,false,false,false,false]]
def MU:List cu:=[.eff [],.free,.pure 1,.pure 1,.pure 1,.pure 1,.pure 0,.free,.free,.free,.free,.free]
attribute [go_sem] MT MU
def lz:List (I×I×Nat):=[(.int .i64 1,.func (.func 171) [] [],0),(.int .i64 2,.func (.func 172) [] [],1),(.int .i64 3,.func (.func 173) [] [],2),(.int .i64 4,.func (.func 174) [] [],3),(.int .i64 5,.func (.func 175) [] [],4)]
theorem FK(n:Nat):iH (.int .i64) (lz.take n):=by
 intro x J;have:=uZ J;simp only[lz,cU,lj,lk]at this;rcases this with rfl|rfl|rfl|rfl|rfl<;>trivial
theorem aHc(H:ab):dp prog 120 [] H (λv H'=>v=.map H.length/\H'=H++[.map lz 5]):=by
 refine tU func120 ?_;have av:hL (I.int .i64 1) (.func (.func 171) [] []) [] 0=lz.take 1:=rfl;have al:hL (I.int .i64 2) (.func (.func 172) [] []) (lz.take 1) 1=lz.take 2:=rfl;have K:hL (I.int .i64 3) (.func (.func 173) [] []) (lz.take 2) 2=lz.take 3:=rfl;have O:hL (I.int .i64 4) (.func (.func 174) [] []) (lz.take 3) 3=lz.take 4:=rfl;have T:hL (I.int .i64 5) (.func (.func 175) [] []) (lz.take 4) 4=lz:=rfl;have c1:q4 (I.int .i64 1) [] 0=1:=rfl;have c2:q4 (I.int .i64 2) (lz.take 1) 1=2:=rfl;have V:q4 (I.int .i64 3) (lz.take 2) 2=3:=rfl;have Z:q4 (I.int .i64 4) (lz.take 3) 3=4:=rfl;have z:q4 (I.int .i64 5) (lz.take 4) 4=5:=rfl;refine hH ?_;refine⟨FK 0,FK 1,FK 2,FK 3,FK 4,?_⟩;refine aW ?_;refine⟨_,[],_,(cA _).symm,kk,FA λb J=>?_,.cl _<|.map _ kk,rfl,rfl⟩
 rw[dF]at J;subst J;intro p ad;simp only[lz,cU,lj,lk]at ad;have U:∀(n:Nat) (f:FuncId),cM n (.func (.func f) [] []):=λn f=>.func _ _ _ (λ_ _ h=>by simp at h) λ_ _ h=>by simp at h
 rcases ad with rfl|rfl|rfl|rfl|rfl<;>exact⟨.int _ _,U _ _⟩
theorem aJN{n v lc:Nat}{cs:List I}(D:List bz)(af:n<=i)(J:ay H i=.cells v cs)(U:cs=aS aU D)(hk:D.length=k):cL n H (.osl 18 i v 0 k lc) (.sl false<|D.map aU):=
 q3 (es:=D.map aU) (rest:=[]) af J (U.trans (cA _).symm) (by rw[cv,hk]) (λe he=>by(obtain⟨x, -,rfl⟩:=bJ.1 he;rfl)) (λe he=>by(obtain⟨x, -,rfl⟩:=bJ.1 he;simp only[go_sem]))
theorem aKL{l:List bz}{t:bz}(h:l[k]?=some t):List.take 18 (List.drop (k * 18)<|aS aU l)=(aU t).cells:=by
 obtain⟨hk,e⟩:=cj.1 h;have:=Kn (enc:=aU) (s:=18) (λ_=>rfl) hk []
 rw[cA,e]at this;exact this
theorem aJO{v:eZ}(h:hn i j who v x G)(u:eZ):hn i j who u x (ar G i<|.cells 0 (e3 j who u x)):=⟨h.ne,dR h.ey _,bY h.bo (by have:=h.ne;omega) _⟩
theorem Vu{u:eZ}{y:bK}(J:hn i j who u x G)(af:y.aC.length=x.aC.length)(h1:H.length+1<i)(ad:∀k,k<H.length->ay G k=ay H k)(X:bE):
  ∃L z,ar (e2 G i j who u y) (H.length+1) X=H++L/\cL H.length (ar (e2 G i j who u y) (H.length+1) X) (kC (.sl false<|y.m.log.entries.map dv) (.sl false<|y.m.log.nodes.map ba) (.sl false<|y.m.cN.map gL) (.sl false<|y.m.cd.map dn) (.sl false<|y.t.held.map bx) (.sl false<|y.t.waits.map bx) (.sl false<|y.g.waits.map dy) (.osl 18 j 1 0 y.aC.length y.aC.length) (.sl false<|y.ops.map bh) y) z/\z=n1 y:=by
 have O:=J.ne;have T:=J.ey;have V:=J.fq;have U:=(J.put y).bo;obtain⟨L,K⟩:=NL (H:=H) (H':=ar (e2 G i j who u y) (H.length+1) X) (by rw[bc,AW];omega) λk hk=>by
  have:=ad k hk;unfold e2 ar;simp only[ay,et]at this ⊢;rw[gC iV,gC iV,gC iV]
  exact this
 refine⟨L,_,K,Ya false false false false false false false false y<|aJN y.aC iV (v:=1) (cs:=aS aU y.aC) ?_ rfl rfl,rfl⟩
 exact bY U iV _
theorem aHd{t:bz}(h:sO t)(k:Int):sO (dt t ⟨2,k⟩):=by
 obtain⟨av,al, -, -, -,J, -⟩:=Jh t k;obtain⟨h1,h2,h3⟩:=h;unfold sO;rw[av,al,J];exact⟨h1,fr (pd _ _) h2,h3⟩
theorem aJP{who:Nat}{u:eZ}{q:Nat}(U:hn i j who u x G)(b:jQ q x)(aJ:q<=100000){t:bz}(ah:x.aC[who]?=some t)(he:t.ended=false)(hu:ev x.m.log.nodes t=u):
  ∃(c:Nat) (f:FuncId),eD (.int .i64 u.kind) lz=some (c,.func (.func f) [] [])/\kF prog f=true/\sP prog f [] i j who u (nJ who t u x) G:=by
 have K:=OD x.m.log.nodes he;have J:=b.Qp aJ;rw[hu]at K;obtain⟨a,k⟩:=u;simp only at K;unfold nJ;simp only;rcases K with rfl|rfl|h|rfl|rfl
 ·rw[aA rfl];exact⟨_,_,rfl,aK,aIN U J ah rfl⟩
 ·rw[aj l9,aA rfl]
  exact⟨_,_,rfl,aK,aIO U J (tf J.qH λt _ h=>aHd h k) ah rfl⟩
 ·cases h;rw[aj l9,aj l9,aA rfl]
  have O:=(P2 b.ci.hT b.lh t.call).1;exact⟨_,_,rfl,aK,aKC U J b.ci.hT ah (b.ci.cs t<|ds ah) rfl (by have:=b.ci.ops;have:=b.ci.hT.cap;omega) ⟨fr O.nl l9,fr O.el l9⟩ λ_ _=>b.vl aJ ah⟩
 ·rw[aj l9,aj l9,aj l9,aA rfl]
  exact⟨_,_,rfl,aK,aIP U J ah⟩
 ·obtain⟨rfl, -⟩:=Wi hu;rw[aj l9,aj l9,aj l9,aj l9,aA rfl]
  exact⟨_,_,rfl,aK,aHr U J ah rfl⟩
theorem aJQ{q:Nat}(x:bK)(p:Int)(full:Bool)(b:jQ q x)(aJ:q<=100000)(H:ab):aM prog 70 [n1 x,.int .i64 p,.bool full] H (n1<|ig x p full):=by
 refine aZ func70 ?_;have af:=b.ci.n;have T:=Xo false false false false false false false false false x p iV
 unfold K8 at T;unfold ig;simp only[n1,hx,kC]at T ⊢;cases hw:uQ x p with
 |none=>
  rw[hw]at T;simp only at T;repeat' first|((first|refine mx [10] MT ?_|refine mx [11] MU ?_|refine ae ?_);simp only[go_sem])|refine ao ?_|fail
  exact aV<|.refl _
 |some who=>
  rw[hw]at T;simp only at T;repeat' first|((first|refine mx [10] MT ?_|refine mx [11] MU ?_|refine ae ?_);simp only[go_sem])|refine ao ?_|fail
  refine dU (UA false x.aC iV _) aK ?_
  rintro v H' ⟨rfl,rfl⟩;simp only[go_sem];obtain⟨t,ah,he,l5, -⟩:=Pl<|OE hw;have xo:=(cj.1 ah).1;repeat' first|(refine ae ?_;simp only[go_sem])|refine bt ?_|fail
  obtain⟨y,K⟩:∃y,wk x=y:=⟨_,rfl⟩;have O:y.aC=x.aC:=by rw[<-K];rfl
  have U:jQ q y:=by rw[<-K];exact b.tick
  obtain⟨G,aW⟩:∃G,H++[.cells 0 (n1 x).cells,.cells 0 (hx true true true true true true true true true qZ).cells,.cells 0<|e3 (H.length+3) who ⟨0,0⟩ (wk x),.cells 1<|aS aU x.aC]=G:=⟨_,rfl⟩;have J:hn (H.length+2) (H.length+3) who ⟨0,0⟩ y G:=⟨iV,by rw[<-aW,<-K];simp only[go_sem],by rw[<-aW,O];simp only[go_sem]⟩
  have ad:∀k,k<H.length->ay G k=ay H k:=λk hk=>by rw[<-aW];simp only[ay,et];rw[iP hk]
  have aT:ay G (H.length+1)=.cells 0 (hx true true true true true true true true true qZ).cells:=by rw[<-aW];simp only[go_sem]
  simp only[n1,hx,kC,I.cells,e3,wk,qZ,mz,ZS,FY,hj]at aW aT;rw[aW];refine uv rfl (λh=>?_) (λh=>?_)
  ·have aL:iE x.g who=true:=h;have gu:iE y.g who=true:=by rw[<-K];exact aL
   have mT:ue full who x=mw full who y:=by unfold ue;rw[aA aL,K]
   have q9:sP prog 118 [.bool full] (H.length+2) (H.length+3) who ⟨0,0⟩ (mw full who y) G:=by
    cases full with
    |true=>exact aHt J (U.Qp aJ)<|by rw[O];exact ah
    |false=>exact aHu J (U.Qp aJ) (by have:=U.ci.ops;have:=U.ci.hT.cap;omega)
   have Z:(mw full who y).aC.length=y.aC.length:=by
    have:=(aLr U.ci who full gu).aC.1;exact this
   rw[mT];obtain⟨z,IC⟩:∃z,mw full who y=z:=⟨_,rfl⟩;rw[IC]at q9 Z ⊢;repeat' first|(refine ae ?_;simp only[go_sem])|refine ao ?_|fail
   refine dU q9 aK ?_;rintro v H' ⟨rfl,rfl⟩;have c1:=(J.put z).aO;have c2:ay (e2 G (H.length+2) (H.length+3) who ⟨0,0⟩ z) (H.length+1)=_:=(bY (bY aT (show ¬H.length+3=H.length+1 by omega) _) (show ¬H.length+2=H.length+1 by omega) _)
   have iS:=λX=>dR (H:=e2 G (H.length+2) (H.length+3) who ⟨0,0⟩ z) (i:=H.length+1) (by have:=J.ey;rw[AW];omega)<|bE.cells 0 X
   simp only[e3]at c1;repeat' first|(refine ae ?_;simp only[go_sem,c1,c2,iS])|refine ao ?_|fail
   have he:=Vu J Z iV ad
   simp only[kC]at he;exact he _
  ·have aL:iE x.g who=false:=by cases e:iE x.g who with
    |false=>rfl
    |true=>rw[e]at h;cases h
   have hI:=b.ci.cs t<|ds ah;have mr:=aIT false false false false y.m.log.nodes t hI.path hI.to (by have:=U.ci.hT.nodes.len;omega)
   obtain⟨u,hu⟩:∃u,ev y.m.log.nodes t=u:=⟨_,rfl⟩;rw[hu]at mr;simp only[hy,kz,rC]at mr;have e1:=aKL (l:=y.aC)<|by rw[O];exact ah
   simp only[aU,I.cells]at e1;have hJ:=ej (enc:=aU) (s:=18) (λ_=>rfl) y.aC
   have gu:((0:Int)<=(who:Int)/\(who:Int)<(y.aC.length:Int))=True:=b5 ⟨iV,by rw[O];omega⟩
   have gl:(who * 18+18<=y.aC.length * 18)=True:=b5<|by rw[O];omega
   have br:=J.aO;have a6:=bC J.aO trivial;have a8:=J.bo;have ma:=bC J.bo trivial;have bb:=J.bb;have bf:=J.bf;have dC:=J.dC;have eF:=J.eF;simp only[e3]at br a6 dC eF;have bG:=uN J.ey J.fq J.ne;repeat' first|((first|refine mx [10] MT ?_|refine mx [11] MU ?_|refine ae ?_);simp only[go_sem,br,a6,a8,bb,bf,dC,eF,ma,bG,bc,e1,hJ,gu,gl])|refine ao ?_|fail
   obtain⟨V,eI⟩:∃V,ar G (H.length+2) (.cells 0<|e3 (H.length+3) who u y)=V:=⟨_,rfl⟩;have fN:=aJO J u;have vM:∀k,k<H.length->ay V k=ay H k:=λk hk=>by rw[<-ad k hk,<-eI];simp only[ay,ar,et];rw[gC iV]
   have Iz:=bY aT (show ¬H.length+2=H.length+1 by omega)<|.cells 0 (e3 (H.length+3) who u y)
   rw[eI]at fN Iz;simp only[e3]at eI;rw[eI];refine p6 (aHc _) aK ?_;have aP:=bC fN.aO trivial;have aR:=fN.aO;simp only[e3]at aP aR;simp only[go_sem,aP,aR];have jk:=fN.app [.map lz 5];obtain⟨c,sZ,k1,k2,k3⟩:=aJP jk U aJ (by rw[O];exact ah) he hu
   have aXF:iH (.int .i64) lz:=FK 5;have mT:ue full who x=nJ who t u y:=by
    unfold ue;rw[aj (by rw[aL];decide),K,et,ah,<-hu,<-K]
    rfl
   have Z:(nJ who t u y).aC.length=y.aC.length:=by
    rw[<-hu];exact(aLs U.ci (by rw[O];exact ah) he).aC.1
   rw[mT];obtain⟨z,IC⟩:∃z,nJ who t u y=z:=⟨_,rfl⟩;rw[IC]at k3 Z ⊢;have R2:=bC Iz trivial [.map lz 5];have yU:∀k,k<H.length->ay (V++[.map lz 5]) k=ay H k:=λk hk=>by
    rw[<-vM k hk];have:=fN.ey;simp only[ay,et];rw[iP iV]
   refine hH ?_;refine dU k3 k2 ?_;rintro v H' ⟨rfl,rfl⟩;have c1:=(jk.put z).aO;have c2:ay (e2 (V++[.map lz 5]) (H.length+2) (H.length+3) who u z) (H.length+1)=_:=(bY (bY R2 (show ¬H.length+3=H.length+1 by omega) _) (show ¬H.length+2=H.length+1 by omega) _)
   have iS:=λX=>dR (H:=e2 (V++[.map lz 5]) (H.length+2) (H.length+3) who u z) (i:=H.length+1) (by have:=jk.ey;rw[AW];omega)<|bE.cells 0 X
   simp only[e3]at c1;repeat' first|(refine ae ?_;simp only[go_sem,c1,c2,iS])|refine ao ?_|fail
   have he:=Vu jk Z iV yU
   simp only[kC]at he;exact he _
def rr:bO->List aX->bO
 |w,[]=>w
 |w,o::l=>if(pU w o).2=0 then rr (pU w o).1 l else w
def uO(d:dJ)(p:Int):dJ:=match uQ d.c p with
 |none=>d
 |some who=>
  if iE d.c.g who=true then{d with c:=ig d.c p<|!decide ((o7 d.w d.c.ops).2=0),w:=(o7 d.w d.c.ops).1}
  else⟨ig d.c p false,rr d.w<|(ig d.c p false).ops.drop (min (max d.uR 0) ((ig d.c p false).ops.length:Int)).toNat,(ig d.c p false).ops.length⟩
theorem aHe{o:aX}(h:(pU w o).2≠0):(pU w o).1=w:=by
 unfold pU at h ⊢;split
 ·rfl
 ·rename_i h1;rw[aj h1]at h;simp only at h ⊢;split
  ·rfl
  ·rename_i h2;rw[aj h2]at h;exact absurd rfl h
theorem gn.aBX:∀(l:List aX) {w:bO},gn w->(∀o∈l,hD o)->gn (rr w l)
 |[],_,h,_=>h
 |o::l,w,h,hs=>by
  rw[rr];split
  ·exact gn.aBX l (h.put o<|hs o kk) λx J=>hs x<|by simp[J]
  ·exact h
def w5(d:dJ):List I:=(cR d).cells
theorem WX{q:Nat}{d:dJ}{p:Int}(J:ay G i=.cells 0 (w5 d))(U:ay G j=.cells 0 [.int .i64 p])(b:jQ q d.c)(aJ:q<=100000)(full:Bool):
  dp prog 69 [.bool full,.ref i 0 0,.ref j 0 0] G (λv H'=>v=.aQ []/\H'=ar G i (.cells 0<|w5 {d with c:=ig d.c p full})):=by
 refine p3 func69 ?_;have hs:=aJQ d.c p full b aJ;simp only[n1,hx,kC]at hs;simp only[w5,en,I.cells]at J ⊢;generalize ig d.c p full=x at *;repeat' first|((first|refine cx (hs _ _) ?_|refine ae ?_);simp only[go_sem,J,U])|refine ao ?_|fail
theorem WY{q:Nat}(d:dJ)(p:Int)(b:jQ q d.c)(aJ:q<=100000)(hd:gn d.w)(hs:∀o∈d.c.ops,hD o)(af:d.c.ops.length<=1000000)(hl:(d.c.ops.flatMap eS).length<=1000000000)
  (qp:∀o∈(ig d.c p false).ops,hD o) (nB:(ig d.c p false).ops.length<=1000000) (H:ab):aM prog 33 [cR d,.int .i64 p] H (cR<|uO d p):=by
 refine aZ func33 ?_;have J:=Xo false false false false false false false false false d.c p (by have:=b.ci.n;omega)
 unfold K8 at J;unfold uO;simp only[hx,kC]at J;cases hw:uQ d.c p with
 |none=>
  rw[hw]at J;simp only at J;repeat' first|((first|refine cx (J _) ?_|refine ae ?_);simp only[go_sem,en])|refine ao ?_|fail
  exact aV<|.refl _
 |some who=>
  rw[hw]at J;simp only at J ⊢;cases aL:iE d.c.g who with
  |true=>
   rw[aL]at J;rw[aA rfl];repeat' first|((first|refine cx (J _) ?_|refine ae ?_);simp only[go_sem,en])|refine ao ?_|fail
   have aF:∀A B C,_:=λA B C=>aJa (i:=H.length+3) (f:=false) (g:=false) (w:=d.w) (G:=H++[A,B,C,.cells 0<|jN false false d.w]) nb hd false d.c.ops hs af hl
   have h1:∀C D (lA:Bool),_:=λC D lA=>WX (i:=H.length) (j:=H.length+1) (d:=d) (p:=p) (G:=H++[.cells 0 (w5 d),.cells 0 [.int .i64 p],C,D]) nb nb b aJ lA
   obtain⟨k,hk⟩:∃k,o7 d.w d.c.ops=k:=⟨_,rfl⟩;rw[hk]at aF ⊢;obtain⟨cP,av⟩:=k;simp only[jN,dN,I.cells,ite_self]at aF ⊢;simp only[w5,en,I.cells]at h1 ⊢;refine dU (aF _ _ _) aK ?_;rintro v H' ⟨rfl,rfl⟩;simp only[go_sem];refine qd (first:=[]) (cap:=[.ref H.length 0 0,.ref (H.length+1) 0 0]) (h1 _ _ _) aK ?_
   rintro v H' ⟨rfl,rfl⟩;simp only[go_sem];generalize ig d.c p (!decide (av=0))=x;refine aW ?_;exact aV<|.refl _
  |false=>
   rw[aL]at J;rw[aj nofun];repeat' first|((first|refine cx (J _) ?_|refine ae ?_);simp only[go_sem,en])|refine ao ?_|fail
   have h1:∀C D (lA:Bool),_:=λC D lA=>WX (i:=H.length) (j:=H.length+1) (d:=d) (p:=p) (G:=H++[.cells 0 (w5 d),.cells 0 [.int .i64 p],C,D]) nb nb b aJ lA
   simp only[w5,en,I.cells]at h1;refine qd (first:=[]) (cap:=[.ref H.length 0 0,.ref (H.length+1) 0 0]) (h1 _ _ _) aK ?_
   rintro v H' ⟨rfl,rfl⟩;simp only[go_sem];generalize ig d.c p false=x at *;obtain⟨k,hk⟩:∃k:Nat,min (max d.uR 0) (x.ops.length:Int)=k:=⟨(min (max d.uR 0) (x.ops.length:Int)).toNat,iV⟩
   have nA:k<=x.ops.length:=iV
   rw[hk,e5];have Ro:((0:Int)<=(k:Int))=True:=b5 iV
   have Ay:((k:Int)<=(x.ops.length:Int))=True:=b5 iV
   have aPR:(∀y:I,y∈x.ops.map bh->y.cells.length=7)=True:=b5 λy aH=>by obtain⟨z, -,rfl⟩:=bJ.1 aH;rfl
   obtain⟨l,V⟩:∃l,x.ops.drop k=l:=⟨_,rfl⟩;have EZ:l.length=x.ops.length-k:=by rw[<-V,fT]
   have Rs:(x.ops.map bh).drop k=l.map bh:=by rw[<-uY,V]
   have aPa:∀o∈l,hD o:=λo aD=>qp o<|sA (by rw[V];exact aD)
   rw[V];have bg:IntKind.i64.wrap ((x.ops.length:Int)-(k:Int))=(l.length:Int):=by rw[bI];omega
   obtain⟨K,ZW⟩:∃K:List I,K=w5 ⟨x,d.w,d.uR⟩:=⟨_,rfl⟩;obtain⟨O,ZX⟩:∃O:List I,O=(en true true true true true true true true true true true p8).cells:=⟨_,rfl⟩;repeat' first|(refine ae ?_;simp only[go_sem,hk,Ro,Ay,aPR,Rs,bg])|refine bt ?_|fail
   refine qD (ι:=bO×ab) (λs=>[(2,.ref H.length 0 0),(4,.ref (H.length+2) 0 0),(9,.ref (H.length+3) 0 0),(10,.sl false<|x.ops.map bh)]) (λs=>H++(.cells 0 K::.cells 0 [.int .i64 p]::.cells 0 O::.cells 0 (jN false false s.1)::s.2)) (λs=>s.1=rr d.w l) ?_ ?_
   ·refine cE (ι:=Nat×bO×ab) (λs=>[(2,.ref H.length 0 0),(4,.ref (H.length+2) 0 0),(9,.ref (H.length+3) 0 0),(10,.sl false<|x.ops.map bh),(57,.sl false<|l.map bh),(58,.int .i64 l.length),(59,.int .i64 s.1)]) (λs=>H++(.cells 0 K::.cells 0 [.int .i64 p]::.cells 0 O::.cells 0 (jN false false s.2.1)::s.2.2)) (λs=>s.1<=l.length/\gn s.2.1/\rr d.w l=rr s.2.1 (l.drop s.1)) (λs=>l.length-s.1) (0,d.w,[]) ⟨bW _,hd,kk⟩ ?_ (by rw[ZW,ZX];simp only[jN,dN,I.cells,w5,en];rfl) ?_
    ·simp[go_sem]
    rintro⟨m,w,L⟩ ⟨hm,Q8,U⟩;simp only at hm Q8 U ⊢;obtain⟨G,aW⟩:∃G,H++(.cells 0 K::.cells 0 [.int .i64 p]::.cells 0 O::.cells 0 (jN false false w)::L)=G:=⟨_,rfl⟩;by_cases T:m<l.length
    ·have ck:=di bh T;have jZ:=ij T;have iZ:=aPa _<|ga T;obtain⟨o,aD⟩:∃o,o=l[m]:=⟨_,rfl⟩;rw[<-aD]at ck iZ jZ;rw[jZ,rr]at U;have yN:decide ((m:Int)<(l.length:Int))=true:=cK;have uq:=dA T iV
     have w8:ay G (H.length+3)=.cells 0 (jN false false w):=by rw[<-aW];simp only[go_sem]
     have Z:=aLc (bC w8 trivial [.cells 0 (bh o).cells]) Q8 o iZ;have gs:=gN w8 trivial [.cells 0 (bh o).cells];have aNC:∀X,ar G (H.length+3) X=H++(.cells 0 K::.cells 0 [.int .i64 p]::.cells 0 O::X::L):=λX=>by rw[<-aW];simp only[go_sem]
     have Ci:=Q8.put o iZ;obtain⟨r,az⟩:∃r,pU w o=r:=⟨_,rfl⟩;rw[az]at Z U Ci;obtain⟨dE,al⟩:=r;simp only[ite_self,gs,aNC]at Z U Ci;rw[aW];simp only[bh]at ck Z;repeat' first|(refine ae ?_;simp only[go_sem,ck,yN,T])|refine ao ?_|fail
     refine dU Z aK ?_;rintro v H' ⟨rfl,rfl⟩;simp only[go_sem];by_cases he:al=0
     ·subst he;rw[aA rfl]at U;repeat' first|(refine ae ?_;simp only[go_sem,uq])|refine ao ?_|fail
      exact⟨(m+1,dE,L++[.cells 0 (bh o).cells]),⟨T,Ci,U⟩,by simp only;omega,rfl,rfl⟩
     ·have d2:decide (al=0)=false:=bN he;rw[aj he]at U;repeat' first|(refine ae ?_;simp only[go_sem,d2])|refine ao ?_|fail
      have dI:dE=w:=by have:=aHe (w:=w) (o:=o) (by rw[az];exact he);rw[az]at this;exact this
      exact⟨(dE,L++[.cells 0 (bh o).cells]),by rw[U,dI],rfl⟩
    ·have yN:decide ((m:Int)<(l.length:Int))=false:=cQ;obtain rfl:m=l.length:=iV
     rw[oy,rr]at U;repeat' first|(refine ae ?_;simp only[go_sem,yN])|refine ao ?_|fail
     exact⟨(w,L),U.symm,rfl⟩
   rintro⟨w,L⟩ rfl;generalize rr d.w l=w;rw[ZW,ZX];simp only[jN,dN,I.cells,w5,en];refine aW ?_;exact aV<|.refl _
theorem Vv(f1 f2 f3 f4 b:Bool)(m:c0)(ops:List aX)(ax:Fit m.log ops.length)(hl:ops.length<=100000)(z:∀o∈ops,hD o)(H:ab):
  aM prog 18 [ih f1 f2 f3 f4 m,.sl b<|ops.map bh] H (ih false false false false<|qF m ops):=by
 refine aZ func18 ?_;have hm:=aMG f1 f2 b m.log ops ax z;simp only[om,BX,CQ]at hm;refine bP (gP ih.eq_1 oo.eq_1) ?_;refine Kj H.length (.sl false ((eN m.log ops).entries.map dv)::.sl false ((eN m.log ops).nodes.map ba)::.int .i64 m.seen::.int .i64 m.rep::.sl false (m.cN.map gL)::.sl false (m.cd.map dn)::[.int .i64 m.next]) (v:=0)
  (cs:=.sl false ((eN m.log ops).entries.map dv)::.sl false ((eN m.log ops).nodes.map ba)::.int .i64 m.seen::.int .i64 m.rep::.sl f3 (m.cN.map gL)::.sl f4 (m.cd.map dn)::[.int .i64 m.next]) nb rfl (c6 (.refl _)<|c6 (.refl _) (c6 (.refl _) (c6 (.refl _) (c6 (.sl _ _) (c6 (.sl _ _) (c6 (.refl _) kZ)))))) ?_
 simp only[go_sem];obtain⟨T,ZU⟩:∃B:List I,B=[.sl true [],.sl true [],.int .i64 0,.int .i64 0,.sl true [],.sl true [],.int .i64 0]:=⟨_,rfl⟩;rw[<-ZU];obtain⟨g,aL⟩:∃g,g=eN m.log ops:=⟨_,rfl⟩;rw[<-aL];obtain⟨R,jh⟩:∃R,R=qF m ops:=⟨_,rfl⟩;rw[<-jh];obtain⟨U,qs⟩:∃U,U=ops.foldl (λn o=>if b0 o=true then lP n o.at_ else n) m.seen:=⟨_,rfl⟩
 have V:R={m with log:=g,seen:=U}:=by rw[jh,aL,qs];rfl
 refine cE (ι:=Nat×Int×ab) (λs=>[(2,.ref H.length 0 0),(4,.ref (H.length+1) 0 0),(15,.sl b<|ops.map bh),(16,.int .i64 ops.length),(17,.int .i64 s.1)])
  (λs=>H++(.cells 0 (ih false false false false {m with log:=g,seen:=s.2.1}).cells::.cells 0 T::s.2.2))
  (λs=>s.1<=ops.length/\U=(ops.drop s.1).foldl (λn o=>if b0 o=true then lP n o.at_ else n) s.2.1) (λs=>ops.length-s.1) (0,m.seen,[]) ⟨bW _,by simp[qs]⟩ ?_ ?_ ?_
 ·simp[go_sem]
 ·simp[ih,oo,I.cells]
 rintro⟨k,s,M⟩ ⟨hk,hs⟩;simp only at hk hs ⊢;obtain⟨G,aW⟩:∃G,H++(.cells 0 (ih false false false false {m with log:=g,seen:=s}).cells::.cells 0 T::M)=G:=⟨_,rfl⟩;by_cases J:k<ops.length
 ·rw[aW];have g0:ay G H.length=.cells 0 (ih false false false false {m with log:=g,seen:=s}).cells:=by rw[<-aW];simp only[go_sem]
  have g1:=bC g0 trivial;have g2:=gN g0 trivial;have gs:∀X,ar G H.length X=H++(X::.cells 0 T::M):=λX=>by rw[<-aW];simp only[go_sem]
  have K:=di bh J;have jZ:=ij J;rw[jZ,mG]at hs;have iZ:=z _<|ga J;obtain⟨o,Rz⟩:∃o,o=ops[k]:=⟨_,rfl⟩;rw[<-Rz]at K hs iZ;have Z:=Dd o iZ;have xk:=Wy s o.at_ true;simp only[bh]at K Z;have O:decide ((k:Int)<(ops.length:Int))=true:=cK;have hw:=dA J iV
  cases hO:b0 o with
  |true=>
   rw[hO]at Z;rw[hO,aA rfl]at hs;repeat' first|(refine ae ?_;simp only[go_sem,g0,g1,g2,ih,oo,K,O,J])|refine ao ?_|fail
   exact⟨(k+1,lP s o.at_,M++[.cells 0 (bh o).cells]),⟨J,hs⟩,by simp only;omega,bU _ hw,by rw[gs];simp[bh,I.cells]⟩
  |false=>
   rw[hO]at Z;rw[hO,aj kk]at hs
   repeat' first|(refine ae ?_;simp only[go_sem,g0,g1,g2,ih,oo,K,O,J])|refine ao ?_|fail
   exact⟨(k+1,s,M++[.cells 0 (bh o).cells]),⟨J,hs⟩,by simp only;omega,bU _ hw,by rw[<-aW];simp[bh,ih,oo,I.cells]⟩
 ·have kn:k=ops.length:=iV
  have O:decide ((k:Int)<(ops.length:Int))=false:=cQ;rw[kn,oy]at hs;repeat' first|(refine ae ?_;simp only[go_sem,ih,oo,O,ZU])|refine ao ?_|fail
  rw[V];exact aV<|.of (by rw[hs];rfl)
theorem aEv(l:List aE){t:bz}(h:(ev l t).kind=3):ev l t=⟨3,0⟩:=by
 cases he:t.ended with
 |true=>
  have:ev l t=⟨0,0⟩:=by unfold ev;rw[aA he]
  rw[this]at h;cases h
 |false=>
  rcases OD l he with q|q|q|q|q
  ·rw[q]at h;cases h
  ·rw[q]at h;cases h
  ·exact q
  ·rw[q]at h;cases h
  ·rw[q]at h;cases h
theorem aHf(x:bK)(p:Int)(full:Bool):(ig x p full).ops=x.ops\/∃(who:Nat) (t:bz),uQ x p=some who/\x.aC[who]?=some t/\ev x.m.log.nodes t=⟨3,0⟩/\(ig x p full).ops=x.ops++(er x.m t.call).2.2:=by
 unfold ig;cases ad:uQ x p with
 |none=>exact .inl rfl
 |some who=>
  obtain⟨t,ah, -⟩:=Pl<|OE ad;have U:x.aC.getD who (pb oO)=t:=by rw[et,ah];rfl
  simp only;unfold ue;rw[U];split
  ·refine .inl ?_;unfold mw;split<;>rfl
  unfold nJ;by_cases k1:(ev x.m.log.nodes t).kind=1
  ·rw[aA k1];refine .inl ?_;unfold xW;split<;>rfl
  rw[aj k1];by_cases k2:(ev x.m.log.nodes t).kind=2
  ·rw[aA k2];refine .inl ?_;unfold xX;split<;>rfl
  rw[aj k2];by_cases k3:(ev x.m.log.nodes t).kind=3
  ·rw[aA k3];refine .inr ⟨who,t,rfl,ah,aEv _ k3,?_⟩;unfold yt;split<;>rfl
  rw[aj k3];by_cases k4:(ev x.m.log.nodes t).kind=4
  ·rw[aA k4];refine .inl ?_;unfold wY;split<;>rfl
  rw[aj k4];by_cases J:(ev x.m.log.nodes t).kind=5
  ·rw[aA J];exact .inl rfl
  ·rw[aj J];exact .inl rfl
section
open Go.ChangeShapes Go.WideShapes Go.ChangeAt Go.RowKit
theorem aKM:pt prog 9=false:=n2
theorem KL{x:I}(h:∃ys,x=nI prog 9 ys/\kd prog 9 ys/\(pt prog 9=true\/ys.length=1)):∃n,x=.str n:=by
 obtain⟨ys,rfl,h,_⟩:=h;obtain⟨s,rfl,_⟩:=Hh underlying9 h;exact⟨s,by rw[nI,aj<|by rw[aKM];decide];rfl⟩
end
section
open Go.ChangeShapes Go.WideShapes Go.ChangeAt Go.RowKit
theorem aLF:pt prog 58=true:=n2
theorem aKN:rl prog 58=true:=n2
theorem aKO:pt prog 22=false:=n2
theorem aJR:rl prog 22=true:=n2
theorem aHg{ys:List I}(h:kd prog 58 ys):∃a,ys=(hM a).cells:=by
 obtain⟨Z,J,rfl,h1,U⟩:=zj<|Xt underlying58 aKN h;obtain⟨z,K,rfl,h2,O⟩:=zj U;obtain⟨pV,T,rfl,h3,bb⟩:=zj O;obtain⟨NI,V,rfl,h4,bf⟩:=zj bb;obtain rfl:=Yl bf;obtain⟨s,rfl,_⟩:=G8 underlying3 h1;obtain⟨c,rfl⟩:=aLQ h2;obtain⟨p,rfl,_⟩:=G8 underlying3 h3;obtain⟨f,rfl,_⟩:=Hh underlying9 h4;exact⟨⟨s,c,p,f⟩,rfl⟩
theorem aJS{J:List (List I)}(h:∀z∈J,kd prog 58 z):∃l,J.map (nI prog 58)=List.map hM l/\l.length=J.length:=by
 induction J with
 |nil=>exact⟨[],rfl,rfl⟩
 |cons z J U=>
  obtain⟨p,rfl⟩:=aHg<|h z kk
  obtain⟨l,h1,h2⟩:=U λz K=>h z<|by simp[K]
  refine⟨p::l,?_,by simp[h2]⟩
  rw[dz,dz,h1,nI,aA aLF];rfl
theorem No{x:I}(h:∃ys,x=nI prog 22 ys/\kd prog 22 ys/\(pt prog 22=true\/ys.length=1)):∃l,x=.sl false (List.map hM l)/\l.length<=maxLen:=by
 obtain⟨ys,rfl,h,_⟩:=h;obtain⟨U,rfl,hl,J⟩:=aGi underlying22 aJR h;obtain⟨l,h1,h2⟩:=aJS J;refine⟨l,?_,by rw[h2];exact hl⟩
 rw[nI,aj (by rw[aKO];decide),h1];rfl
end
end Go.Proofs.YtnmamncmpklliaaGreatDoor
