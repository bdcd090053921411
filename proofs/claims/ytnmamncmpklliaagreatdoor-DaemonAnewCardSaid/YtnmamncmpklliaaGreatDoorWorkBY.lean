/- What the functions of this seat answer (51 of 53). No condition. -/
import Derived.Test.YtnmamncmpklliaaGreatDoorWorkBX
set_option linter.unusedSimpArgs false
set_option linter.unusedVariables false
set_option maxRecDepth 100000
set_option maxHeartbeats 16000000
namespace Go.Proofs.YtnmamncmpklliaaGreatDoor
variable{n q b k e:Nat}{t:ag}{R:List ag}{L:List gA}{y:Bool}{d x:dJ}{l:List aX}
open Go.Proofs.Tryz
theorem aEx(h:t.length=n * 16):lM ⟨n,t,[]⟩=⟨n,t,[]⟩:=by
 unfold lM jr;simp only[Bj,e5,Nat.zero_mul,x4];rw[iw iV]
theorem ix.flush{w:bO}(h:ix w R n q b k e t L y):∃u,ix (oh w) R n q b k e u [] false:=by
 cases y with
 |false=>
  obtain⟨J,z2⟩:=h.zero rfl;subst J;refine⟨t,?_⟩;have:oh w=w:=by
   unfold oh;rw[h.eq];simp only[aEx h.nH.lA]
  rwa[this]
 |true=>
  obtain⟨u,hu⟩:=h.settle;refine⟨u,?_⟩;have:eB w=oh w:=by unfold eB;rw[aA (by rw[h.eq])]
  rwa[<-this]
theorem aC2(R:List ag)(h:b<=k)(hk:k<=R.length):(R.take k).drop b++R.drop k=R.drop b:=by
 conv=>rhs;rw[<-pY k R]
 rw[Gc (by rw[eK];omega)]
theorem ix.lO{w:bO}(h:ix w R n q b k e t L y)(aw:(oq w).2=0):
  ∃I u,ix (kv (oq w).1) R n q b R.length I u [] false:=by
 have aa:=h.nH.aO;have hk:=h.nH.k2;have mS:=h.nH.ki;have V:=h.nH.rA;have hlen:(R.drop k).length=R.length-k:=fT;have z:oe (w.eo+1) w.waits=(lb (k+1) (R.drop k),0):=by
  rw[h.eq];exact Vt (R.drop k) (k+1) iV iV λp ad=>V p<|sA ad
 have J:=N9 (R.drop k) (k+1) iV iV λp ad=>V p<|sA ad
 unfold oq at aw ⊢;rw[aj (by rw[h.eq];simp)]at aw ⊢
 simp only[z]at aw ⊢;rw[aj l9]at aw ⊢
 obtain⟨s,hs⟩:∃s,lb (k+1) (R.drop k)=s:=⟨_,rfl⟩;rw[hs]at aw J ⊢;obtain⟨m,hm⟩:∃m,s.length / 16=m:=⟨_,rfl⟩;rw[hm]at aw J ⊢;split at aw
 ·simp at aw
 rename_i av;rw[aj av];split at aw
 ·rename_i U;rw[aA U];have aT:R.drop k=[]:=by rw[h.eq]at U;exact U
  have oa:k=R.length:=by rw[aT]at hlen;simp at hlen;omega
  obtain⟨u,hu⟩:=h.flush;refine⟨e,u,?_⟩;have:kv w=oh w:=by
   unfold kv;simp only;rw[aj (by rw[h.eq];simp)]
   unfold oh;rw[h.eq]
  rw[this,<-oa];exact hu
 rename_i U;rw[aj U];obtain⟨u,hu⟩:=h.settle;obtain⟨he,⟨lA,aP,aO,k2,ki,rA,uE,f1,f2,sl,ol,qI⟩,n6,Fs,zero,lo,Hz⟩:=hu;have hd:(eB w).bw=⟨n,u,[]⟩:=by rw[he]
 have mR:w.end_.toNat=2 * bj n+e:=by rw[h.eq];rfl
 have Z:2 * bj n+e+m<=n:=by rw[h.eq]at av;simp only at av;omega
 have hw:=FJ (w:=eB w) (s:=s) hd J Z;rw[ju]at hw;rw[mR,hw,aj<|wE rfl];obtain⟨T,g1,g2,g3⟩:=Ta (t:=u) (s:=s) lA n6 J Z;have L0:=Jo n;have O:=NM n;have same:∀a K,(∀i,i<K->¬(2 * bj n+e<=a+i/\a+i<2 * bj n+e+m))->a+K<=n->fK T a K=fK u a K:=λa K aN hle=>JT iV iV λi hi=>by rw[g3,aj<|aN i hi]
 refine⟨e+m,T,?_,⟨g2,aP,⟨aO.1,iV⟩,bd _,ki,rA,uE,iV,?_,?_,?_,?_⟩,n6,Fs,λ_=>⟨rfl,λi h1 h2=>?_⟩,λp ad=>(by cases ad),nofun⟩
 ·unfold kv oh;simp only;rw[aj (by rw[he];simp),g1,he,h.eq]
  simp only[oy];congr 1
  ·omega
  ·omega
  ·omega
 ·rw[I8,same _ _ (λi hi=>iV) iV,f2,show fK T (2 * bj n+e) m=s from(JT (t:=s) (a:=0) iV iV λi hi=>by rw[g3,aA iV];congr 1;omega).trans<|Ou J,<-hs,
   iw (bd R.length)]
  have:=UD ((R.take k).drop (b-1)) (R.drop k) b;rw[aC2 R iV hk,show b+((R.take k).drop (b-1)).length=k+1 by rw[fT,eK];omega]at this
  exact this.symm
 ·rw[same _ _ (λi hi=>by rcases O q with p|p<;>omega) (by rcases O q with p|p<;>omega)]
  exact sl
 ·rw[same _ _ (λi hi=>by rcases O (q+1)with p|p<;>omega) (by rcases O (q+1)with p|p<;>omega)]
  exact ol
 ·refine NN<|Ov (λak=>?_) g2
  rw[g3,aj iV]
  exact(zero rfl).2 _ iV ak
 ·rw[g3,aj iV]
  exact(zero rfl).2 _ iV h2
theorem Ox{m:Nat}(a:Nat):k5 a (ha<|cw (m * 16))=(List.range m).map λi=>(⟨(a+i:Nat),cw 16⟩:gA):=by
 rw[Vs (m:=m) (by rw[rV];omega)]
 refine List.map_congr_left λi hi=>?_
 have hi:=qO.1 hi;congr 1;unfold ie cw;rw[J4,List.take_replicate];congr 1;omega
theorem ix.mark{w:bO}(h:ix w R n q b k e t L y)(aw:(rB w R.flatten).2=0):
  (sx (kv (rB w R.flatten).1)).2=0/\∃u eu,ix (sx<|kv (rB w R.flatten).1).1 R n (q+1) (R.length+1) R.length 0 u eu true:=by
 have aa:=h.nH.aO;have hk:=h.nH.k2;have mS:=h.nH.ki;have pG:=h.nH.rA;have aJ:=h.nH.aP;have mr:w.next.toNat=R.length+1:=by rw[h.eq];rfl
 have xm:w.seq=q:=by rw[h.eq]
 have hsz:w.bw.size.toNat=n:=by rw[h.eq];rfl
 unfold rB at aw ⊢;rw[aj (by rw[h.eq];simp)]at aw ⊢
 rw[mr,xm,hsz]at aw ⊢;split at aw
 ·simp at aw
 rename_i av;rw[aj av];split at aw
 ·simp at aw
 rename_i al;rw[aj al];have ad:gG ((q:Int)+1) (hf (R.length+1) R.flatten)=(hg (q+1) (hf (R.length+1) R.flatten),0):=by
  rw[FF ⟨iV,iV⟩ iV]
  congr 2
 have J:=(Af (n:=((q+1:Nat):Int)) (p:=hf (R.length+1) R.flatten) ⟨iV,iV⟩ iV).1
 rw[e5]at J;simp only[ad]at aw ⊢;rw[aj l9]at aw ⊢
 obtain⟨s,hs⟩:∃s,hg (q+1) (hf (R.length+1) R.flatten)=s:=⟨_,rfl⟩;rw[hs]at aw J ⊢;obtain⟨m,hm⟩:∃m,s.length / 16=m:=⟨_,rfl⟩;rw[hm]at aw J ⊢;split at aw
 ·simp at aw
 rename_i aY;rw[aj aY];obtain⟨u,hu⟩:=h.settle;obtain⟨he,⟨lA,aP,aO,k2,ki,rA,uE,f1,f2,⟨r,sl⟩,ol,qI⟩,n6,Fs,zero,lo,Hz⟩:=hu;have hd:(eB w).bw=⟨n,u,[]⟩:=by rw[he]
 have L0:=Jo n;have dY:=NM n;have ed:=dY<|q+1;have ee:=dY q;have Z:((q:Int)+1).toNat=q+1:=iV
 have HY:dT n (q+1)+m<=n:=iV
 have hw:=FJ (w:=eB w) (s:=s) hd J HY;rw[ju]at hw;rw[Z,hw,aj<|wE rfl];obtain⟨K,g1,g2,g3⟩:=Ta (t:=u) (s:=s) lA n6 J HY;have same:∀a O,(∀i,i<O->¬(dT n (q+1)<=a+i/\a+i<dT n (q+1)+m))->a+O<=n->fK K a O=fK u a O:=λa O aN hle=>JT iV iV λi hi=>by rw[g3,aj<|aN i hi]
 have hlen:(R.drop k).length=R.length-k:=fT;obtain⟨v,U⟩:∃v:bO,v=⟨⟨n,K,[]⟩,q,b,(R.length+1:Nat),(2 * bj n+e:Nat),k,R.length,R.drop k,false,2,(R.length+1:Nat),(R.length-k:Nat)⟩:=⟨_,rfl⟩;have vR:kv {(eB w)with bw:=⟨n,u,k5 (dT n (q+1))<|ha s⟩,marked:=1,fg:=w.next,kQ:=w.waits.length}=v:=by
  unfold kv oh;simp only;rw[aA l9,g1,he,h.eq,U]
  simp only[hlen];congr 1;omega
 rw[vR];have L2:n0 v.bw=true:=by
  rw[U];unfold n0;simp only[cV,gU,gm];exact⟨iV,iV,iV,λp ad=>(by cases ad)⟩
 unfold sx;rw[aj (by rw[L2,U];simp)]
 refine⟨rfl,K,k5 (2 * bj n)<|ha (cw ((n-2 * bj n) * 16)),?_⟩;have AJ:v.bw.size.toNat=n:=by rw[U];rfl
 simp only[AJ];rw[FJ (n:=n) (t:=K) (L:=[]) (m:=n-2 * bj n) (by rw[U]) (by rw[rV];omega) iV]
 rw[ju,U];have I:=Ox (m:=n-2 * bj n)<|2 * bj n;refine⟨?_,⟨g2,⟨iV,iV⟩,⟨iV,iV⟩,bd _,ki,rA,?_,iV,?_,?_,?_,?_⟩,n6,by rw[I];simp;omega,nofun,?_,λ_ i h1 h2=>?_⟩
 ·simp only[oy];congr 1
  ·omega
  ·rw[List.drop_eq_nil_iff];omega
 ·rw[J6,iw<|bd _];omega
 ·rw[iw (bd _),J6,oy];simp[fK,lb]
 ·rw[J6,iw<|bd _];refine⟨fK K (dT n (q+1)+m)<|bj n-m,?_⟩;rw[hs,show bj n=m+(bj n-m) by omega,I8]
  congr 1
  ·exact(JT (t:=s) (a:=0) iV iV λi hi=>by rw[g3,aA iV];congr 1;omega).trans<|Ou J
  ·congr 1;omega
 ·have h2:dT n (q+1+1)=dT n q:=by rw[Nn,Nn n q];congr 1;omega
  rw[h2,same _ _ (λi hi au=>WW (n:=n) (q:=q) (i:=dT n q+i) iV iV ⟨iV,iV⟩) iV,sl]
  intro j5 Ip;cases ah:lf (hg q (hf b (R.take<|b-1).flatten)++r) j5 with
  |none=>rfl
  |some x=>
   obtain⟨t1,k1,R8, -⟩:=KB (b:=x.1) (x:=x.2) ah;have T:=Jl (n:=(q:Int)) (p:=hf b (R.take<|b-1).flatten) ⟨iV,iV⟩ uE r
   rw[e5]at T;have:=OI R8 T;omega
 ·rw[rJ,same _ _ (λi hi=>iV) iV]
  cases V:(R.take k).drop (b-1)with
  |nil=>
   have ko:=AN (t:=u) (a:=2 * bj n) (n:=e) iV
   rw[f2,V]at ko;have lH:e=0:=by simp[lb]at ko;omega
   subst lH;exact NN<|Ov (λak=>(zero rfl).2 _ iV ak) lA
  |cons p l=>
   have dd:=bU List.length V;rw[fT,eK,cg]at dd;rw[show n-2 * bj n=e+(n-(2 * bj n+e)) by omega,I8,f2,V,lb,dr]
   have z:p∈R:=uZ<|sA (V▸List.mem_cons_self);generalize lb (b+1) l++fK u (2 * bj n+e) (n-(2 * bj n+e))=Y;have T:=Jl (n:=(b:Int)) (p:=p) ⟨iV,iV⟩ (rA p z) Y
   rw[e5]at T;cases ah:hz (hg b p++Y) ((R.length+1:Nat):Int)with
   |none=>rfl
   |some x=>
    have:=OI (p:=x.1) (k:=x.2) ah T;omega
 ·intro p ad;rw[I]at ad;obtain⟨i,hi,rfl⟩:=bJ.1 ad;have hi:=qO.1 hi;exact⟨rfl,2 * bj n+i,rfl,iV,.inl iV⟩
 ·rw[I];exact⟨_,bJ.2 ⟨i-2 * bj n,qO.2 iV,rfl⟩,by simp only;omega⟩
theorem W1:(hf 1 []).length<=40000:=by
 have h1:=oQ (n:=1) iV
 have h2:=y5 (t:=[]) kk
 unfold hf;rw[bF];simp only[eg]at h2;omega
theorem ix.new{s:Int}(h:(qL s).2=0):∃n u,ix (qL s).1 [] n 1 1 0 0 u [] false/\(qL s).1.bw.size=n:=by
 unfold qL at h ⊢;obtain⟨n,af⟩:∃n:Nat,min (max s 0) 65536=n:=⟨(min (max s 0) 65536).toNat,iV⟩
 have hd:pP s=⟨n,cw<|n * 16,[]⟩:=by unfold pP;rw[af];rfl
 have J:=(Af (n:=((1:Nat):Int)) (p:=hf 1 []) ⟨iV,iV⟩ W1)
 rw[e5]at J;have O:uM=hg 1 (hf 1 []):=rfl;rw[<-O]at J;simp only[hd,e5]at h ⊢;obtain⟨m,hm⟩:∃m,uM.length / 16=m:=⟨_,rfl⟩;rw[hm]at h J ⊢;split at h
 ·simp at h
 rename_i av;rw[aj av];have Z:=Jo n;have K:dT n 1=bj n:=rfl;have T:dT n (1+1)=0:=rfl;rw[K];have V:(cw (n * 16)).length=n * 16:=rV _;obtain⟨u,g1,g2,g3⟩:=Ta (n:=n) (a:=bj n) (m:=m) (t:=cw (n * 16)) (s:=uM) V iV J.1 iV
 rw[FJ (n:=n) (t:=cw<|n * 16) (L:=[]) (m:=m) rfl J.1 iV]
 simp only[ju];rw[g1];have U:∀i,i<n->ie (cw<|n * 16) i=cw 16:=λi hi=>by
  unfold ie cw;rw[J4,List.take_replicate];congr 1;omega
 refine⟨n,u,⟨rfl,⟨g2,⟨iV,iV⟩,⟨iV,iV⟩,bW _,kk,nofun,W1,iV,by simp[fK,lb],?_,?_,?_⟩,iV,bW _,λ_=>⟨rfl,λi h1 h2=>?_⟩,nofun,nofun⟩,rfl⟩
 ·refine⟨fK u (bj n+m)<|bj n-m,?_⟩;rw[K];have e:bj n=m+(bj n-m):=iV
  have al:fK u (bj n) (m+(bj n-m))=fK u (bj n) m++fK u (bj n+m) (bj n-m):=I8 _ _ _ _;rw[<-e]at al;rw[al];congr 1;exact(JT (t:=uM) (a:=0) iV iV λi hi=>by rw[g3,aA iV];congr 1;omega).trans<|Ou J.1
 ·intro I z;refine aKK<|NN ?_;have:=FG (fK u 0<|bj n) 0;rw[T];rw[show 16 * 0=0 from rfl]at this
  rw[this,AM iV,g3,aj iV,U _ iV]
  exact Kv 16
 ·refine NN<|Ov (λak=>?_) g2
  rw[g3,aj iV,U _ iV]
 ·rw[g3,aj iV,U _ h2]
theorem ix.open{u:ag}(h:u5 u n q b k e R)(hk:R.length=k)(U:n<=65536):
  ∃L,ix (iv ⟨n,u,[]⟩).1 R n q b k e u L true/\(iv ⟨n,u,[]⟩).2=((R.take (b-1)).flatten,R.drop<|b-1,0):=by
 obtain⟨K,J⟩:=h.aMJ (sz:=n) rfl;have aJ:=h.aP;have O:=h.aO;have he:=h.av;have T:=Jo n;have V:=NM n<|q+1;rw[iw iV]at J
 unfold iv;simp only[K,e5,J];rw[aj iV]
 rw[FJ (n:=n) (t:=u) (L:=[]) (m:=n-(2 * bj n+e)) (a:=2 * bj n+e) (s:=cw<|(n-(2 * bj n+e)) * 16) rfl (by rw[rV];omega) iV]
 simp only[ju];rw[FJ (n:=n) (t:=u) (m:=bj n) rfl (by rw[rV];omega) iV]
 rw[Ox,Ox];refine⟨((List.range (n-(2 * bj n+e))).map λi=>⟨(2 * bj n+e+i:Nat),cw 16⟩)++((List.range (bj n)).map λi=>⟨(dT n (q+1)+i:Nat),cw 16⟩),⟨?_,h,U,nX,nofun,?_,λ_ i h1 h2=>?_⟩,trivial⟩
 ·have:(R.drop (b-1)).length=k-(b-1):=by rw[fT];omega
  rw[this,List.drop_of_length_le (by omega:R.length<=k)]
  simp only;congr 1
  ·omega
  ·omega
  ·omega
 ·intro p ad;rcases e4.1 ad with ad|ad
  ·obtain⟨i,hi,rfl⟩:=bJ.1 ad;have hi:=qO.1 hi;exact⟨rfl,_,rfl,iV,.inl iV⟩
  ·obtain⟨i,hi,rfl⟩:=bJ.1 ad;have hi:=qO.1 hi;exact⟨rfl,_,rfl,iV,.inr ⟨iV,iV⟩⟩
 ·exact⟨_,e4.2<|.inl (bJ.2 ⟨i-(2 * bj n+e),qO.2 iV,rfl⟩),by simp only;omega⟩
theorem W2{o:aX}(h:b0 o=true)(r:ag):oj (eS o++r)=some (o,r):=by
 obtain⟨hk,h1,h2,h3,h4⟩:=O2 h;have J:=h;unfold b0 at J;simp only[cV]at J;have J:=J.2;obtain⟨⟨c,O⟩,k,de,p,CU,K⟩:=o;simp only at *;unfold oj eS;simp only[dr];rw[yZ _ iV]
 simp only[fZ];rw[yZ _ iV]
 simp only[fZ];rw[yZ _ iV]
 simp only[fZ];rw[yZ _ iV]
 simp only[fZ];rw[F7 h1.1,F7 h2.1,F7 (by omega:0<=k),F7 h3.1]
 by_cases U:k=1
 ·have h4:=h4 U;rw[aA U]at J;unfold tS at J;simp only[cV,gU]at J;have af:=GQ J.1.2;have hd:=J.2;subst hd;rw[aA U,aA U,dr,yZ _ iV]
  simp only[fZ];rw[I3 _ _ iV]
  simp only[fZ];rw[F7 h4.1,aA h]
 ·rw[aj U]at J;unfold ve at J;simp only[cV,gU]at J;have af:=J.1.1.2;have ad:=J.1.2;have hm:=J.2;subst ad hm;rw[aj U,aj U,I3 _ _ iV]
  simp only[fZ];rw[aA h]
theorem Vw:∀(l:List aX),(∀o∈l,b0 o=true)->iJ (l.map eS).flatten=some l
 |[],_=>rfl
 |o::l,h=>by
  have U:(((o::l).map eS).flatten)≠[]:=by
   rw[dz,List.flatten_cons];simp[XY]
  rw[Tu U,dz,List.flatten_cons,W2<|h o kk]
  simp only[fZ];rw[Vw l λx J=>h x<|by simp[J]]
  rfl
theorem Vx:∀(l:List aX),(∀o∈l,b0 o=true)->ow (l.map eS)=some l
 |[],_=>rfl
 |o::l,h=>by
  have:=W2 (h o kk) []
  rw[cA]at this;rw[dz,ow,this];simp only;rw[Vx l λx J=>h x<|by simp[J]]
  rfl
def oC(d:dJ)(n q k:Nat):Prop:=(∃b e t L y,ix d.w (d.c.ops.map eS) n q b k e t L y)/\d.uR=d.c.ops.length/\d.c.g.kept<=k/\d.w.bw.size=n
theorem oC.w(h:oC d n q k):d.w.kept=k/\d.w.seq=q/\d.w.next=d.c.ops.length+1/\k<=d.c.ops.length:=by
 obtain⟨⟨b,e,t,L,y,h⟩, -⟩:=h;have:=h.nH.k2;rw[cv]at this;refine⟨by rw[h.eq],by rw[h.eq],by rw[h.eq,cv];rfl,this⟩
theorem W3:∀(l:List aX) {w:bO} {R:List ag} {n q b k e:Nat} {t:ag} {L:List gA} {y:Bool},ix w R n q b k e t L y->(∀o∈l,b0 o=true)->R.length+l.length<=1000000->ix (rr w l) (R++l.map eS) n q b k e t L y
 |[],_,_,_,_,_,_,_,_,_,_,h,_,_=>by simpa[rr]using h
 |o::l,w,R,n,q,b,k,e,t,L,y,h,U,af=>by
  rw[cg]at af;have h1:=U o kk
  have h2:=Qe h1;have ad:qV [] o=(eS o,0):=by unfold qV;rw[aA h1];rfl
  have h3:(qy w (eS o)).2.2=0:=by
   unfold qy;rw[aj];rw[h.eq];simp only;omega
  have h4:pU w o=((qy w (eS o)).1,0):=by
   unfold pU;rw[ad];simp only;rw[aj (wE rfl),aj<|wE h3]
  rw[rr,h4];simp only;rw[aA trivial];have:=W3 l (h.append (eS o) h3) (λx J=>U x (by simp[J])) nX
  simpa using this
theorem oC.new{r s:Int}(h:(jK r s).2=0):∃n,oC (jK r s).1 n 1 0:=by
 unfold jK at h ⊢;split at h
 ·rename_i h1;rw[aA h1];split at h
  ·rename_i h2;rw[aA h2];obtain⟨n,u,h3,h4⟩:=ix.new h2;obtain⟨-,J⟩:=Ow (oB rfl h1:k7 r=((k7 r).1,0));have U:(k7 r).1.ops=[]:=by rw[J];rfl
   have K:(k7 r).1.g.kept=0:=by rw[J];rfl
   exact⟨n,⟨1,0,u,[],false,by simpa[U]using h3⟩,by simp[U],by simp[K],h4⟩
  ·rename_i h2;exact absurd h h2
 ·rename_i h1;exact absurd h h1
theorem aFC(x:bK)(c:b8):(pv x c).1.ops=x.ops/\(pv x c).1.g=x.g:=by unfold pv;split<;>exact⟨rfl,rfl⟩
theorem oC.start(h:oC d n q k)(c:b8):oC (lv d c).1 n q k:=by
 unfold lv;simp only;split
 ·exact h
 ·obtain⟨h1,h2,h3,h4⟩:=h;obtain⟨av,al⟩:=aFC d.c c;exact⟨by simpa only[av]using h1,by simpa only[av]using h2,by simpa only[al]using h3,h4⟩
theorem aFD(h:∀o∈l,b0 o=true):xL l=((l.map eS).flatten,0):=by
 unfold xL;rw[aA (gm.2 h),List.flatMap_def]
theorem W4{w:bO}(h:ix w (l.map eS) n q b k e t L y)(U:∀o∈l,b0 o=true):(pN w l).2≠0/\(pN w l).1=w\/
  (pN w l).2=0/\∃u J,ix (pN w l).1 (l.map eS) n (q+1) (l.length+1) l.length 0 u J true:=by
 unfold pN;rw[aFD U];simp only;rw[aj (wE rfl)];by_cases aw:(rB w (l.map eS).flatten).2=0
 ·obtain⟨h1,u,J,h2⟩:=h.mark aw;rw[aj (wE aw),aj<|wE h1];rw[cv]at h2;exact .inr ⟨rfl,u,J,h2⟩
 ·rw[aA aw];exact .inl ⟨aw,rfl⟩
theorem aJX{w:bO}(h:ix w (l.map eS) n q b k e t L y)(K:∀o∈l,b0 o=true):(o7 w l).2≠0/\(o7 w l).1=w\/
  (o7 w l).2=0/\∃O T J u U V,ix (o7 w l).1 (l.map eS) n O T l.length J u U V:=by
 unfold o7;simp only;split
 ·rcases W4 h K with h1|⟨h1,u,U,h2⟩
  ·exact .inl h1
  ·exact .inr ⟨h1,_,_,_,u,U,_,h2⟩
 ·rename_i h1;obtain⟨J,u,h2⟩:=h.lO<|Decidable.not_not.1 h1;rw[cv]at h2;exact .inr ⟨rfl,_,_,J,u,_,_,h2⟩
theorem aJY(who:Nat)(x:bK)(f:Bool):(mw f who x).g.kept=(if f=true then x.g.kept else max x.g.kept x.ops.length)/\(mw f who x).ops=x.ops:=by
 unfold mw;cases f<;>exact⟨rfl,rfl⟩
theorem aFE(g:nU)(n up:Int):(wx g n up).1.kept=g.kept:=by unfold wx;(repeat' split)<;>rfl
theorem aKQ(who:Nat)(t:bz)(u:eZ)(x:bK):(nJ who t u x).g.kept=x.g.kept:=by
 unfold nJ xW xX yt j1 wY zJ zT
 (repeat' split)<;>first|rfl|exact aFE _ _ _
theorem oC.step(h:oC d n q k)(Z:∀o∈d.c.ops,b0 o=true)(p:Int)(I:∀o∈(ig d.c p false).ops,b0 o=true)(af:(ig d.c p false).ops.length<=1000000):∃J k',oC (uO d p) n J k'/\k<=k'/\k'<=max k d.c.ops.length:=by
 obtain⟨⟨b,e,t,L,y,h1⟩,h2,h3,h4⟩:=h;have hk:=h1.nH.k2;rw[cv]at hk;unfold uO;split
 ·exact⟨q,k,⟨⟨b,e,t,L,y,h1⟩,h2,h3,h4⟩,bd _,Nat.le_max_left _ _⟩
 rename_i who ad;have T:∀f,ig d.c p f=ue f who d.c:=λf=>by unfold ig;rw[ad]
 split
 ·rename_i U;have K:∀f,ig d.c p f=mw f who (wk d.c):=λf=>by rw[T];unfold ue;rw[aA U]
  obtain⟨f,O⟩:∃f,(!decide ((o7 d.w d.c.ops).2=0))=f:=⟨_,rfl⟩;obtain⟨g1,g2⟩:=aJY who (wk d.c) f;rw[O,K];rcases aJX h1 Z with⟨av,al⟩|⟨av,J,z,jz,u,eu,TG,al⟩
  ·have:f=true:=by rw[<-O];simpa using av
   refine⟨q,k,⟨⟨b,e,t,L,y,?_⟩,?_,?_,?_⟩,bd _,Nat.le_max_left _ _⟩
   ·simp only[g2,al];exact h1
   ·simp only[g2];exact h2
   ·simp only[g1,this,dG];exact h3
   ·simp only[al];exact h4
  ·have:f=false:=by rw[<-O];simpa using av
   refine⟨J,d.c.ops.length,⟨⟨z,jz,u,eu,TG,?_⟩,?_,?_,?_⟩,hk,Nat.le_max_right _ _⟩
   ·simp only[g2];exact al
   ·simp only[g2];exact h2
   ·simp only[g1,this];show max d.c.g.kept (d.c.ops.length:Int)<=_;omega
   ·simp only[al.eq]
 ·rename_i U;have K:ig d.c p false=nJ who (d.c.aC.getD who<|pb oO) (ev d.c.m.log.nodes<|d.c.aC.getD who (pb oO)) (wk d.c):=by rw[T];unfold ue;rw[aj U]
  have ee:(ig d.c p false).g.kept=d.c.g.kept:=by rw[K,aKQ];rfl
  have ql:∃m,(ig d.c p false).ops=d.c.ops++m:=by
   rcases aHf d.c p false with h|⟨-,t, -, -, -,h⟩
   ·exact⟨[],by rw[h,cA]⟩
   ·exact⟨_,h⟩
  obtain⟨m,hm⟩:=ql;have hs:(min (max d.uR 0) ((ig d.c p false).ops.length:Int)).toNat=d.c.ops.length:=by
   rw[h2,hm,bF];omega
  rw[hs,hm,xZ];have V:=W3 m h1 (λo AB=>I o (by rw[hm];exact e4.2 (.inr AB)))<|by rw[hm,bF]at af;rw[cv];omega
  refine⟨q,k,⟨⟨b,e,t,L,y,?_⟩,?_,?_,?_⟩,bd _,Nat.le_max_left _ _⟩
  ·simp only[hm,nQ];exact V
  ·simp only[hm]
  ·simp only[ee];exact h3
  ·simp only[V.eq]
theorem oC.mark(h:oC d n q k)(J:∀o∈d.c.ops,b0 o=true):(mX d).2≠0/\(mX d).1=d\/
  (mX d).2=0/\oC (mX d).1 n (q+1) d.c.ops.length/\(mX d).1.c=d.c/\(mX d).1.w.waits=[]:=by
 obtain⟨⟨b,e,t,L,y,h1⟩,h2,h3,h4⟩:=h;have hk:=h1.nH.k2;rw[cv]at hk;unfold mX;simp only;rcases W4 h1 J with⟨av,al⟩|⟨av,u,U,al⟩
 ·rw[aA av];exact .inl ⟨av,rfl⟩
 ·rw[aj (wE av)];refine .inr ⟨rfl,⟨⟨_,_,u,U,_,al⟩,h2,?_,?_⟩,rfl,?_⟩
  ·simp only;omega
  ·simp only[al.eq]
  ·simp only[al.eq];rw[List.drop_eq_nil_iff,cv];exact bd _
theorem oC.rU{d:dJ}{n q k:Nat}(h:oC d n q k)(K:∀o∈d.c.ops,b0 o=true)(O:0<=d.c.m.rep/\d.c.m.rep<=63)(cz:ag):(lx d cz).2=0/\oC (lx d cz).1 n q k/\
  (lx d cz).1.c={qZ with m:=qF (j2 d.c.m.rep).1<|d.c.ops.take k,ops:=d.c.ops.take k,g:=⟨k,[]⟩}:=by
 obtain⟨⟨b,e,t,L,y,h1⟩,h2,h3,h4⟩:=h;have hk:=h1.nH.k2;have z:=h1.nH.aO;rw[cv]at hk;obtain⟨u,av,al⟩:=h1.rU cz;rw[<-rI]at al;have hlen:((d.c.ops.take k).map eS).length=k:=by rw[cv,eK];omega
 obtain⟨T,f1,f2⟩:=ix.open al hlen h1.n6;have J:∀o∈d.c.ops.take k,b0 o=true:=λo hm=>K o<|uZ hm
 obtain⟨ops,hO⟩:∃ops,d.c.ops.take k=ops:=⟨_,rfl⟩;have U:ops.length=k:=by rw[<-hO,eK];omega
 rw[hO]at f1 f2 J al ⊢;have g1:iJ ((ops.map eS).take (b-1)).flatten=some (ops.take<|b-1):=by
  rw[<-rI];exact Vw _ λo hm=>J o<|uZ hm
 have g2:ow ((ops.map eS).drop (b-1))=some (ops.drop<|b-1):=by
  rw[<-uY];exact Vx _ λo hm=>J o<|sA hm
 have V:k7 d.c.m.rep=({qZ with m:=(j2 d.c.m.rep).1},0):=by
  unfold k7 j2;rw[aA O,aA rfl]
 have Z:ru d.c.m.rep (pk d.w.bw cz)=(⟨{qZ with m:=qF (j2 d.c.m.rep).1 ops,ops:=ops,g:=⟨k,[]⟩},(iv ⟨n,u,[]⟩).1,k⟩,0):=by
  have I:iv ⟨n,u,[]⟩=((iv ⟨n,u,[]⟩).1,((ops.map eS).take (b-1)).flatten,(ops.map eS).drop<|b-1,0):=oB rfl f2;unfold ru;rw[av,V,I];simp only;rw[aj (wE rfl),aj<|wE rfl,g1];simp only;rw[g2];simp only[pY,U];rfl
 unfold lx;rw[Z];simp only;rw[aj (wE rfl)];refine⟨rfl,⟨⟨b,e,u,T,true,f1⟩,?_,?_,?_⟩,rfl⟩
 ·simp only[U]
 ·exact jP _
 ·simp only[f1.eq]
def sX(d:dJ)(o:Ord):dJ×Int:=
 if o.kind=1 then((lv d o.call).1,(lv d o.call).2.2)else if o.kind=2 then(uO d o.pick,0)else if o.kind=3 then mX d else if o.kind=4 then lx d o.cz else(d,0)
theorem G6(d:dJ)(o:Ord)(h:TV d o)(H:ab):aM prog 13 [cR d,hM o] H (.aQ [cR (sX d o).1,.int .i64 (sX d o).2]):=by
 refine aZ func13 ?_;unfold sX;by_cases k1:o.kind=1
 ·rw[aA k1];have hs:=NK d o.call (by have:=h.sV.ci.n;omega)
  generalize lv d o.call=x at *;simp only[c4]at hs;unfold cR at hs ⊢;simp only[en]at hs ⊢;repeat' first|(refine ae ?_;simp only[go_sem,hM,k1])|refine bt ?_|(refine bB ?_ ?_<;>intro h<;>try exact bA h)|fail
  exact aV<|.refl _
 rw[aj k1];by_cases k2:o.kind=2
 ·rw[aA k2];have hs:=WY d o.pick h.sV iV h.w h.ops h.n h.l h.aBN h.fh
  generalize uO d o.pick=x at *;unfold cR at hs ⊢;simp only[en]at hs ⊢;repeat' first|(refine ae ?_;simp only[go_sem,hM,k2])|refine bt ?_|(refine bB ?_ ?_<;>intro h<;>try exact bA h)|fail
  exact aV<|.refl _
 rw[aj k2];by_cases k3:o.kind=3
 ·rw[aA k3];have hs:=OJ d h.w h.ops h.n h.l;generalize mX d=x at *;unfold cR at hs ⊢;simp only[en]at hs ⊢;repeat' first|(refine ae ?_;simp only[go_sem,hM,k3])|refine bt ?_|(refine bB ?_ ?_<;>intro h<;>try exact bA h)|fail
  exact aV<|.refl _
 rw[aj k3];by_cases k4:o.kind=4
 ·rw[aA k4];have hs:=Di d h.w o.cz h.CX h.B3;generalize lx d o.cz=x at *;unfold cR at hs ⊢;simp only[en]at hs ⊢;repeat' first|(refine ae ?_;simp only[go_sem,hM,k4])|refine bt ?_|(refine bB ?_ ?_<;>intro h<;>try exact bA h)|fail
  exact aV<|.refl _
 rw[aj k4];unfold cR;simp only[en];repeat' first|(refine ae ?_;simp only[go_sem,hM,k1,k2,k3,k4])|refine bt ?_|(refine bB ?_ ?_<;>intro h<;>try exact bA h)|fail
 exact aV<|.refl _
theorem aKR{m:c0}(h:fk m)(c:b8):(er m c).1.rep=m.rep:=by
 have hs:=Kw h c;generalize er m c=r at hs ⊢;cases hs with
 |err e he=>rfl
 |put o hk af U J=>rfl
 |lO K a J h1 h2 h3 h4=>exact h3
 |merge l O T V=>simp only;split<;>rfl
theorem aKS(who:Nat)(t:bz)(u:eZ)(x:bK):(nJ who t u x).m=x.m\/(nJ who t u x).m=(er x.m t.call).1:=by
 unfold nJ xW xX yt j1 wY zJ zT
 (repeat' split)<;>first|exact .inl rfl|exact .inr rfl
theorem aHh{x:bK}(h:fk x.m)(p:Int)(f:Bool):(ig x p f).m.rep=x.m.rep:=by
 unfold ig;split
 ·rfl
 ·rename_i who _;unfold ue;split
  ·unfold mw;split<;>rfl
  ·rcases aKS who (x.aC.getD who<|pb oO) (ev x.m.log.nodes<|x.aC.getD who (pb oO)) (wk x)with e|e
   ·rw[e];rfl
   ·rw[e];exact aKR h _
structure eX (q:Nat) (r:Int) (d:dJ):Prop where
 fF:mH q d
 eH:∃n s k,oC d n s k
 rep:d.c.m.rep=r
theorem eX.ok{r:Int}(h:eX q r d):∀o∈d.c.ops,b0 o=true:=h.fF.b.op
theorem eX.new{r s:Int}(hs:s<=1000)(h:(jK r s).2=0):eX 0 r (jK r s).1:=by
 refine⟨aKP hs h,?_,?_⟩
 ·obtain⟨n,h1⟩:=oC.new h;exact⟨n,_,_,h1⟩
 ·unfold jK k7 j2 at h ⊢
  (repeat' split at h)<;>simp_all
  all_goals rfl
theorem eX.start{q:Nat}{r:Int}{d:dJ}(h:eX q r d){c:b8}(J:np c):eX q r (lv d c).1:=by
 obtain⟨n,s,k,U⟩:=h.eH;refine⟨h.fF.start J,⟨n,s,k,U.start c⟩,?_⟩;rw[<-h.rep];unfold lv pv
 (repeat' first|split|simp only)<;>rfl
theorem eX.step{q:Nat}{r:Int}{d:dJ}(h:eX q r d)(p:Int):eX (q+1) r (uO d p):=by
 obtain⟨n,s,k,U⟩:=h.eH;have J:=h.fF.b.step p false;obtain⟨K,k',h1, -⟩:=U.step h.ok p J.op<|fr J.ci.ops (by have:=J.ci.hT.cap;omega)
 refine⟨h.fF.step p,⟨n,K,k',h1⟩,?_⟩;rw[<-h.rep];unfold uO;split
 ·rfl
 ·split<;>exact aHh h.fF.b.ci.hT _ _
theorem eX.mark{q:Nat}{r:Int}{d:dJ}(h:eX q r d):eX q r (mX d).1:=by
 obtain⟨n,s,k,J⟩:=h.eH;refine⟨h.fF.mark,?_,?_⟩
 ·rcases J.mark h.ok with⟨-,e⟩|⟨-,h1, -⟩
  ·rw[e];exact⟨n,s,k,J⟩
  ·exact⟨_,_,_,h1⟩
 ·rcases J.mark h.ok with⟨-,e⟩|⟨-, -,e, -⟩
  ·rw[e];exact h.rep
  ·rw[e];exact h.rep
structure zv (d x:dJ) (k:Nat) (r:Int):Prop where
 kept:d.w.kept=k
 le:k<=d.c.ops.length
 c:x.c={qZ with m:=qF (j2 r).1<|d.c.ops.take k,ops:=d.c.ops.take k,g:=⟨k,[]⟩}
 sync:∀t∈d.c.aC,t.call.kind=12->t.ended=true->t.ec.err=0->t.upto<=k
 aBo:x.w.kept=k
 next:x.w.next=k+1
 seq:x.w.seq=d.w.seq
 uR:x.uR=k
theorem zv.len{r:Int}(h:zv d x k r):x.c.ops.length=k:=by
 have:=h.le;rw[h.c];simp only[eK];omega
theorem eX.rU{q:Nat}{r:Int}{d:dJ}(h:eX q r d)(cz:ag):(lx d cz).2=0/\eX q r (lx d cz).1/\∃k,zv d (lx d cz).1 k r:=by
 obtain⟨n,s,k,J⟩:=h.eH;obtain⟨h1,h2,h3⟩:=J.rU h.ok h.fF.b.ci.hT.rep cz;have hw:=J.w;have U:=h2.w;have hl:(lx d cz).1.c.ops.length=k:=by rw[h3];simp only[eK];omega
 rw[h.rep]at h3;refine⟨h1,⟨h.fF.rU cz,⟨n,s,k,h2⟩,?_⟩,k,hw.1,hw.2.2.2,h3,λt ah h4 K O=>?_,U.1,?_,?_,?_⟩
 ·rw[h3];show(j2 r).1.rep=r;have:=h.fF.b.ci.hT.rep;rw[h.rep]at this;unfold j2;rw[aA this]
 ·have:=h.fF.b.ci.A7 t ah h4 K O;have:=J.2.2.1;omega
 ·rw[U.2.2.1,hl]
 ·rw[U.2.1,hw.2.1]
 ·rw[h2.2.1,hl]
theorem eX.up{q J:Nat}{r:Int}{d:dJ}(h:eX q r d)(k:q<=J):eX J r d:=⟨h.fF.up k,h.eH,h.rep⟩
theorem eX.do{r:Int}(h:eX q r d){o:Ord}(J:np o.call):eX (q+1) r (sX d o).1:=by
 unfold sX
 (repeat' split)<;>first|exact(h.start J).up (oA _)|exact h.step _|exact h.mark.up (oA _)|exact(h.rU _).2.1.up (oA _)|exact h.up<|oA _
def zR(d:dJ)(l:List Ord):dJ:=l.foldl (λd o=>(sX d o).1) d
theorem I9{l:List Ord}{i:Nat}(h:i<l.length):zR d (l.take<|i+1)=(sX (zR d<|l.take i) l[i]).1:=by
 unfold zR;rw[fj h,u0];rfl
theorem eX.Ez{q:Nat}{r:Int}{d:dJ}(h:eX q r d){l:List Ord}(J:∀o∈l,np o.call):∀i,eX (q+i) r (zR d<|l.take i)
 |0=>h
 |i+1=>by
  by_cases hi:i<l.length
  ·rw[I9 hi];exact(eX.Ez h J i).do<|J _ (ga hi)
  ·rw[iw iV,<-iw (by omega:l.length<=i)]
   exact(eX.Ez h J i).up iV
theorem zv.again{y:dJ}{k':Nat}{r:Int}(h:zv d x k r)(J:zv x y k' r):y.c.m=x.c.m/\y.c.ops=x.c.ops/\y.w.seq=x.w.seq/\y.w.next=x.w.next:=by
 have e:k'=k:=by
  have h1:=h.aBo;have h2:=J.kept;omega
 subst e;have K:x.c.ops=d.c.ops.take k':=by rw[h.c]
 have O:x.c.ops.take k'=x.c.ops:=by rw[K,Dr,Nat.min_self]
 have U:=J.c;rw[O]at U;refine⟨?_,by rw[U],J.seq,by rw[J.next,h.next]⟩
 rw[U,h.c]
def A8(d:dJ):Nat->dJ
 |0=>d
 |n+1=>uO (A8 d n) 0
theorem eX.steps{q:Nat}{r:Int}{d:dJ}(h:eX q r d):∀n,eX (q+n) r (A8 d n)
 |0=>h
 |n+1=>(eX.steps h n).step 0
def rF(p:ag):b8:=⟨2,p,[],[],0⟩
def yr:b8:=⟨12,[],[],[],0⟩
def P3:dJ:=A8 (lv (lv (jK 1 60).1<|rF [47,97]).1 yr).1 7
def wX:dJ:=A8 (lv P3<|rF [47,98]).1 4
theorem aKT:(jK 1 60).2=0/\(lv (jK 1 60).1 (rF [47,97])).2=(0,0)/\wX.c.ops.length=2/\wX.uR=2/\wX.w.kept=1/\(mX wX).2=0/\(mX wX).1.w.kept=2/\(jK 64 60).2=20/\(jK 1 3).2=120/\(ru 1 ⟨0,[],[]⟩).2=140:=by decide+kernel
theorem Y6(p:ag)(ad:p.length<=100):np (rF p):=⟨by simp only[rF];omega,by simp[rF],by simp[rF]⟩
theorem aLG:∃(d0 d1 d2 d3 d4 d5 x y z Z fh o:dJ) (a2 bo a4 gW:Int),jK 1 60=(d0,0)/\lv d0 (rF [47,97])=(d1,0,0)/\lv d1 yr=(d2,a2,bo)/\A8 d2 7=d3/\lv d3 (rF [47,98])=(d4,a4,gW)/\A8 d4 4=d5/\
  lx d5 []=(x,0)/\mX d5=(y,0)/\lx y []=(z,0)/\jK 64 60=(Z,20)/\jK 1 3=(fh,120)/\ru 1 ⟨0,[],[]⟩=(o,140)/\eX 0 1 d0/\eX 0 1 d1/\eX 0 1 d2/\eX 7 1 d3/\eX 7 1 d4/\eX 11 1 d5/\eX 11 1 y/\
  d5.c.ops.length=2/\d5.uR=2/\d5.w.kept=1/\x.c.ops.length=1/\x.c.aC=[]/\x.c.g.kept=1/\z.c.ops.length=2:=by
 obtain⟨av,al,I,bu,b9,gH,mN,p9,yv,EA⟩:=aKT;have O:=eX.new (r:=1) (s:=60) l9 av
 have k1:=O.start<|Y6 [47,97] kk
 have k2:=k1.start (c:=yr) ⟨by simp[yr],by simp[yr],by simp[yr]⟩
 have k3:=k2.steps 7;have k4:=k3.start<|Y6 [47,98] kk
 have J:eX 11 1 wX:=k4.steps 4;have T:=J.mark;obtain⟨c1, -,sh,c2⟩:=J.rU [];obtain⟨iS, -,U,V⟩:=T.rU [];have ca:=c2.len;have cy:=V.len;have m1:=c2.kept;have m2:=V.kept;have oa:sh=1:=iV
 have K:U=2:=iV
 subst oa K;refine⟨(jK 1 60).1,(lv (jK 1 60).1 (rF [47,97])).1,(lv (lv (jK 1 60).1<|rF [47,97]).1 yr).1,P3,(lv P3 (rF [47,98])).1,wX,(lx wX []).1,(mX wX).1,(lx (mX wX).1 []).1,(jK 64 60).1,(jK 1 3).1,(ru 1 ⟨0,[],[]⟩).1,_,_,_,_,
  oB rfl av,oB rfl al,rfl,rfl,rfl,rfl,oB rfl c1,oB rfl gH,oB rfl iS,oB rfl p9,oB rfl yv,oB rfl EA,O,k1,k2,k3,k4,J,T,I,bu,b9,ca,by rw[c2.c];rfl,by rw[c2.c];rfl,cy⟩
theorem V9{r:Int}(h:eX q r d)(n:Nat)(aJ:q+n<=90000)(H:ab):aM prog 28 [cR d,.int .i64 n] H (cR<|A8 d n):=by
 refine aZ func28 ?_;obtain⟨D,K⟩:∃D:Nat->dJ,∀k,D k=A8 d k:=⟨_,λ_=>rfl⟩
 have O:∀k,k<n->∀H,aM prog 33 [cR (D k),.int .i64 0] H (cR<|D (k+1)):=λk hk H=>by
  have xb:=h.steps k;rw[<-K]at xb;have U:=xb.fF.do iV (o:=⟨2,oO,0,[]⟩) kk
  have:=WY (D k) 0 U.sV iV U.w U.ops U.n U.l U.aBN U.fh H
  rwa[show D (k+1)=uO (D k) 0 by rw[K,K];rfl]
 rw[<-K];have aw:D 0=d:=K 0;rw[<-aw];clear aw K h;obtain⟨Z,ny⟩:∃Z:List I,Z=(en true true true true true true true true true true true p8).cells:=⟨_,rfl⟩;unfold cR;simp only[en];repeat' first|(refine ae ?_;simp only[go_sem])|refine bt ?_|(refine bB ?_ ?_<;>intro h<;>try exact bA h)|fail
 refine cE (ι:=Nat) (λs=>[(1,.int .i64 n),(2,.ref H.length 0 0),(4,.ref (H.length+1) 0 0),(5,.int .i64 s)]) (λs=>H++[.cells 0 (cR<|D s).cells,.cells 0 Z]) (λs=>s<=n) (λs=>n-s) 0 (bW _) ?_ (by rw[ny];rfl) ?_
 ·simp[go_sem]
 intro k hk;obtain⟨x,J⟩:∃x,D k=x:=⟨_,rfl⟩;obtain⟨G,aW⟩:∃G,H++[.cells 0 (cR<|D k).cells,.cells 0 Z]=G:=⟨_,rfl⟩;rw[aW];rw[J]at aW;have g0:ay G H.length=.cells 0 (cR x).cells:=by rw[<-aW];simp only[go_sem]
 have g1:ay G (H.length+1)=.cells 0 Z:=by rw[<-aW];simp only[go_sem]
 have gs:∀X,ar G H.length X=H++[X,.cells 0 Z]:=λX=>by rw[<-aW];simp only[go_sem]
 by_cases T:k<n
 ·have V:decide ((k:Int)<(n:Int))=true:=cK;have O:=O k T;obtain⟨y,aH⟩:∃y,D (k+1)=y:=⟨_,rfl⟩;rw[J,aH]at O;unfold cR at O g0;simp only[en,I.cells]at O g0;repeat' first|(refine ae ?_;simp only[go_sem,V,T,g0,gs])|refine bt ?_|(refine bB ?_ ?_<;>intro h<;>try exact bA h)|fail
  exact⟨k+1,T,iV,bU _<|dA T iV,by rw[aH];unfold cR;simp only[en,I.cells]⟩
 ·have kn:k=n:=iV
  subst kn;have V:decide ((k:Int)<(k:Int))=false:=cQ;have z:∀X,ar G (H.length+1) X=H++[.cells 0 (cR x).cells,X]:=λX=>by rw[<-aW];simp only[go_sem]
  unfold cR at g0 z ⊢;rw[ny]at g1;simp only[en,I.cells]at g0 g1 z ⊢;rw[J];repeat' first|(refine ae ?_;simp only[go_sem,V,g0,g1,z])|refine bt ?_|(refine bB ?_ ?_<;>intro h<;>try exact bA h)|fail
  exact aV<|.refl _
theorem Nq(H:ab):aM prog 10 [] H (.bool true):=by
 obtain⟨d0,d1,d2,d3,d4,d5,x,y,z,eE,fh,o,a2,bo,a4,gW,cY,av,al,aY,bu,b9,gH,mN,p9,yv,EA,LK,sg,k1,k2,k3,k4,h9,o1,f1,f2,f3,f4,f5,f6,f7⟩:=aLG;have qH:∀{q r d},eX q r d->d.c.aC.length<=1000:=λh=>by have:=h.fF.b.ci.n;omega
 have h1:=Dh 1 60;have h2:=NK d0 (rF [47,97])<|qH sg;have h3:=NK d1 yr<|qH k1;have h4:=λH=>V9 k2 7 l9 H
 have K:=NK d3 (rF [47,98])<|qH k3;have O:=λH=>V9 k4 4 l9 H
 have J:=h9.fF.do l9 (o:=⟨2,oO,0,[]⟩) kk
 have U:=o1.fF.do l9 (o:=⟨2,oO,0,[]⟩) kk
 have T:=Di d5 J.w [] J.CX J.B3;have V:=OJ d5 J.w J.ops J.n J.l;have Z:=Di y U.w [] U.CX U.B3;have I:=Dh 64 60;have EH:=Dh 1 3;have EI:=WZ true 1 (d:=⟨0,[],[]⟩) ⟨l9,kk⟩ kk<|TA ⟨l9,kk⟩ l9
 rw[cY]at h1;rw[av]at h2;rw[al]at h3;rw[aY]at h4;rw[bu]at K;rw[b9]at O;rw[gH]at T;rw[mN]at V;rw[p9]at Z;rw[yv]at I;rw[EA]at EH;rw[LK]at EI;clear cY av al aY bu b9 gH mN p9 yv EA LK sg k1 k2 k3 k4 h9 o1 J U qH;refine aZ func10 ?_;have f1:(d5.c.ops.length:Int)=2:=iV
 have f4:(x.c.ops.length:Int)=1:=iV
 have f7:(z.c.ops.length:Int)=2:=iV
 unfold cR at h1 h2 h3 h4 K O T V Z I EH EI;simp only[en,rF,yr,c4,fW,hj,f2,f3,f5,f6]at h1 h2 h3 h4 K O T V Z I EH EI;repeat' first|(refine ae ?_;simp only[go_sem,f1,f2,f3,f4,f5,f6,f7])|refine bt ?_|(refine bB ?_ ?_<;>intro h<;>try exact bA h)|fail
 exact aV<|.of rfl
end Go.Proofs.YtnmamncmpklliaaGreatDoor
