/- What the functions of this seat answer (36 of 38). No condition. -/
import Derived.Test.YtennnelammaapaaGreatDoorWorkBI
set_option linter.unusedSimpArgs false
set_option linter.unusedVariables false
set_option maxRecDepth 100000
set_option maxHeartbeats 16000000
namespace Go.Proofs.YtennnelammaapaaGreatDoor
section
theorem aPv(n:Nat)(h0:0<n)(hn:n≤1048576)(H:AHeap):ACalls Tryz.prog 99 [.sl true [],.int .i64 n] H (fun v H'=>v=.osl 7 H.length 1 0 0 n∧∃cs,cs.length=n * 7∧H'=H++[.cells 1 cs]):=by
 refine aW Tryz.func99 ?_;have h1:decide ((n:Int)<0)=false:=dF;have h2:decide ((0:Int)<(n:Int))=true:=dT;have h3:IntKind.i64.wrap ((n:Int)-IntKind.i64.wrap 0)=n:=by rw[show IntKind.i64.wrap 0=0 from rfl,wI];omega
 have h4:(n * 72≤140737488355328)=True:=zAC (by omega)
 have h5:((0:Int)<(n:Int))=True:=zAC (by omega)
 have h6:IntKind.i64.wrap ((n:Int)-IntKind.i64.wrap (0-0))=n:=h3;repeat' first|(refine gS ?_;simp only[go_sem,h1,h2,h3,h4,h5,h6,zAI,zAv,Int.natCast_zero,zAN,Int.toNat_zero,List.take_nil])|refine gA ?_|(refine gD ?_ ?_<;>intro h<;>try exact aA h)|fail
 refine⟨_,?_,rfl⟩;simp[List.flatMap_replicate,AV.cells,List.length_flatten]
theorem aPw(H:AHeap):bH Tryz.prog 99 [.sl true [],.int .i64 0] H (.sl true []):=by
 refine fO Tryz.func99 ?_;have h1:decide ((0:Int)<0)=false:=rfl;have h3:IntKind.i64.wrap ((0:Int)-IntKind.i64.wrap 0)=0:=rfl;have h6:IntKind.i64.wrap ((0:Int)-IntKind.i64.wrap (0-0))=0:=rfl;repeat' first|(refine gS ?_;simp only[go_sem,h1,h3,h6,zAI,zAv,Int.natCast_zero])|refine gA ?_|(refine gD ?_ ?_<;>intro h<;>try exact aA h)|fail
 exact cL (.refl _)
theorem yO(l:List Opn):∀e∈l.map opA,e.cells.length=7:=fun e he=>by(obtain⟨x, -,rfl⟩:=zAm.1 he;rfl)
theorem aDo(l:List Opn):((l.map opA).flatMap AV.cells).all AV.one=true:=by
 induction l with
 |nil=>rfl
 |cons x l ih=>rw[zAw,zBd,List.all_append,ih];rfl
theorem aDp{n i v k lc:Nat}{H:AHeap}{cs:List AV}(D:List Opn)(hn:n≤i)(hh:hget H i=.cells v cs)(hc:cs=flA opA D)(hk:D.length=k):Frz n H (.osl 7 i v 0 k lc) (.sl false (D.map opA)):=
 iT (es:=D.map opA) (rest:=[]) hn hh (hc.trans (zAd _).symm) (by rw[zAn,hk]) (fun e he=>by(obtain⟨x, -,rfl⟩:=zAm.1 he;rfl)) (fun e he=>by(obtain⟨x, -,rfl⟩:=zAm.1 he;simp only[go_sem]))
theorem aIZ(f f1 f2:Bool)(l1 l2:List Opn)(h2:l1.length≤100000)(h3:l2.length≤100000)(H:AHeap):
  bH Tryz.prog 79 [.sl f [.sl f1 (l1.map opA),.sl f2 (l2.map opA)]] H (.sl false ((l1++l2).map opA)):=by
 refine fO Tryz.func79 ?_;obtain⟨n,hn⟩:∃n,l1.length+l2.length=n:=⟨_,rfl⟩;have hw1:IntKind.i64.wrap (0+(l1.length:Int))=(l1.length:Int):=by rw[wI];omega
 have hw2:IntKind.i64.wrap ((l1.length:Int)+(l2.length:Int))=(n:Int):=by rw[wI];omega
 have hd1:decide ((l1.length:Int)<0)=false:=dF;have hd2:decide ((n:Int)<0)=false:=dF;have hi1:IntKind.i64.wrap (0+1)=1:=rfl;have hi2:IntKind.i64.wrap (1+1)=2:=rfl;repeat' first|(refine gS ?_;simp only[go_sem])|refine gA ?_|(refine gD ?_ ?_<;>intro h<;>try exact aA h)|fail
 refine fD 3 ?_;unfold fZ;repeat' first|(refine gS ?_;simp only[go_sem,hw1,hd1,hi1,hw2,hd2,hi2,Int.reduceLT])|refine gA ?_|(refine gD ?_ ?_<;>intro h<;>try exact aA h)|fail
 have hf1:(List.flatMap AV.cells (l1.map opA)).length=l1.length * 7:=aU (enc:=opA) (s:=7) (fun _=>rfl) l1
 have hf2:(List.flatMap AV.cells (l2.map opA)).length=l2.length * 7:=aU (enc:=opA) (s:=7) (fun _=>rfl) l2
 by_cases hn0:n=0
 ·have e1:l1=[]:=zAE (by omega)
  have e2:l2=[]:=zAE (by omega)
  subst hn0 e1 e2;have hg:=aPw;repeat' first|(refine gS ?_;simp only[go_sem,Int.natCast_zero])|refine gA ?_|(refine gD ?_ ?_<;>intro h<;>try exact aA h)|fail
  refine fD 3 ?_;unfold fZ;repeat' first|(refine gS ?_;simp only[go_sem,hi1,hi2,Int.reduceLT,zAZ])|refine gA ?_|(refine gD ?_ ?_<;>intro h<;>try exact aA h)|fail
  exact⟨_,_,rfl,aDp (v:=2) (cs:=[]) [] (zAf _) (by simp only[go_sem]) rfl rfl,rfl⟩
 refine aR (aPv n (by omega) (by omega) H) (cO) (fun v H' hv=>?_)
 obtain⟨rfl,cs,hc,rfl⟩:=hv;have e0:((0:Nat)=n)=False:=zDo (by omega)
 by_cases z1:l1=[]
 ·subst z1;have hl2:l2.length=n:=by simpa using hn
  have g1:bG cs 0 (List.flatMap AV.cells (l2.map opA))=flA opA l2:=by
   have:=oY (A:=[]) (B:=[]) (X:=List.flatMap AV.cells (l2.map opA)) (C:=cs) (by rw[hf2,hc,hl2])
   simpa[flA]using this
  have q1:0≤cs.length:=zAo _;simp only[go_sem];repeat' first|(refine gS ?_;simp only[go_sem,e0])|refine gA ?_|(refine gD ?_ ?_<;>intro h<;>try exact aA h)|fail
  refine fD 3 ?_;unfold fZ;repeat' first|(refine gS ?_;simp only[go_sem,e0,hi1,hi2,Int.reduceLT,zAZ,zCu,List.all_nil,g1,hc])|refine gA ?_|(refine gD ?_ ?_<;>intro h<;>try exact aA h)|fail
  refine⟨⟨by omega,by omega,yO _,aDo _⟩,?_⟩
  repeat' first|(refine gS ?_;simp only[go_sem,hi2,Int.reduceLT])|refine gA ?_|(refine gD ?_ ?_<;>intro h<;>try exact aA h)|fail
  refine⟨_,_,rfl,aDp (v:=1) (cs:=flA opA l2) l2 (zAf _) (by simp only[go_sem]) rfl rfl,rfl⟩
 obtain⟨c1,c2,rfl,hc1,hc2⟩:∃c1 c2,cs=c1++c2∧c1.length=l1.length * 7∧c2.length=l2.length * 7:=⟨cs.take (l1.length * 7),cs.drop (l1.length * 7),by simp,by simp;omega,by simp;omega⟩
 simp only[go_sem];repeat' first|(refine gS ?_;simp only[go_sem,e0])|refine gA ?_|(refine gD ?_ ?_<;>intro h<;>try exact aA h)|fail
 refine fD 3 ?_;unfold fZ;repeat' first|(refine gS ?_;simp only[go_sem,e0,hi1,hi2,Int.reduceLT])|refine gA ?_|(refine gD ?_ ?_<;>intro h<;>try exact aA h)|fail
 have g1:bG (c1++c2) 0 (List.flatMap AV.cells (l1.map opA))=flA opA l1++c2:=by
  have:=oY (A:=[]) (B:=c2) (X:=List.flatMap AV.cells (l1.map opA)) (C:=c1) (by rw[hf1,hc1])
  simpa[flA]using this
 rw[g1];rw[zAa]at hc;refine⟨⟨by omega,by omega,yO _,aDo _⟩,?_⟩
 have hfl1:(flA opA l1).length=l1.length * 7:=hf1;by_cases z:l2=[]
 ·subst z;have e1:(l1.length=n)=True:=zAC (by simpa using hn)
  have e2:c2=[]:=zAE hc2;subst e2;have e3:l1.length * 72≤140737488355328:=by omega
  repeat' first|(refine gS ?_;simp only[go_sem,e1,hi1,hi2,Int.reduceLT,zAd,zAZ,zCu,zAv,zCC,e3,zAn,List.all_nil,hfl1])|refine gA ?_|(refine gD ?_ ?_<;>intro h<;>try exact aA h)|fail
  refine⟨_,_,rfl,aDp (v:=2) (cs:=flA opA l1) l1 (zAf _) (by simp only[go_sem]) rfl rfl,?_⟩
  first|rfl|rw[zAd]
 ·have zl:0<l2.length:=zBl.2 z;have e1:(l1.length=n)=False:=zDo (by omega)
  repeat' first|(refine gS ?_;simp only[go_sem,e1,hi1,hi2,Int.reduceLT,hfl1])|refine gA ?_|(refine gD ?_ ?_<;>intro h<;>try exact aA h)|fail
  have g2:bG (flA opA l1++c2) (l1.length * 7) (List.flatMap AV.cells (l2.map opA))=flA opA (l1++l2):=by
   have:=oY (A:=flA opA l1) (B:=[]) (X:=List.flatMap AV.cells (l2.map opA)) (C:=c2) (by rw[hf2,hc2])
   rw[hfl1]at this;rw[cB];simpa[flA]using this
  rw[g2];refine⟨⟨by omega,by omega,yO _,aDo _⟩,?_⟩
  repeat' first|(refine gS ?_;simp only[go_sem,hi2,Int.reduceLT])|refine gA ?_|(refine gD ?_ ?_<;>intro h<;>try exact aA h)|fail
  exact⟨_,_,rfl,aDp (v:=1) (cs:=flA opA (l1++l2)) (l1++l2) (zAf _) (by simp only[go_sem]) rfl (by rw[zAa]),rfl⟩
end
section
theorem aHB{l:List Thr}{k:Nat}{t:Thr}(h:l[k]?=some t):List.take 5 (List.drop (k * 18) (flA thr l))=(dS t.call).cells:=by
 obtain⟨hk,rfl⟩:=eT.1 h;have:=zAx (List.take 5) (iM (enc:=thr) (s:=18) (fun _=>rfl) hk)
 rw[List.take_take]at this;exact this
theorem aMd{l:List Thr}{k f:Nat}{t:Thr}{y:AV}(h:l[k]?=some t)(hf:(thr t).cells[f]?=some y):(flA thr l).getD (k * 18+f) .top=y:=by
 unfold flA;rw[zAh,kT (s:=18) (es:=l.map thr) (k:=k) (j:=f) (e:=thr t) (x:=y) (fun e he=>by(obtain⟨x, -,rfl⟩:=zAm.1 he;rfl)) (by rw[zAP,h];rfl) hf]
 rfl
def sN:List Pl:=[.pure 0,.pure 0,.pure 0,.pure 0,.pure 0,.free,.pure 0,.pure 0,.pure 0,.pure 0,.pure 0,.free,.pure 0,.pure 0,.pure 0,.pure 0,.eff [false,false,false,false,false,false,false,false,false,false,false,false,false,false]]
attribute [go_sem] sN
theorem aPx{b i j:Nat}{who k:Nat}{u:Trn}{x:Cor}{G:AHeap}(hb:SB i j who u x G)(hg:hget G b=.cells 0 [.ref i 0 0])(hl:x.ths.length≤40){t:Thr}(ht:x.ths[k]?=some t)(hp:t.call.path.length≤1048576):bH Tryz.prog 100 [.int .i64 k,.ref b 0 0] G (.bool (aEo who k t)):=by
 refine fO Tryz.func100 ?_;have r0:=hb.b1;have r2:=hb.b2;have hk:=(eT.1 ht).1;have hln:=aU (enc:=thr) (s:=18) (fun _=>rfl) x.ths
 have hca:=aHB ht;have hdn:=aMd (f:=7) ht rfl;have hnm:=aLA t.call hp;have hz1:((0:Int)≤(k:Int)∧(k:Int)<(x.ths.length:Int))=True:=zAC ⟨by omega,by omega⟩
 have hz2:(k * 18+5≤x.ths.length * 18)=True:=zAC (by omega)
 have hz3:(k * 18+7<x.ths.length * 18)=True:=zAC (by omega)
 have hv:(if turnsK t.call=false∧walksK t.call=true then AV.tup [.sl false ((wnames t.call).map AV.str),.bool true]else .tup [.sl true [],.bool false])=.tup [(if walksK t.call=true then .sl false ((wnames t.call).map AV.str)else .sl true []),.bool (walksK t.call)]:=by
  cases hw:walksK t.call with
  |true=>rw[zAl ⟨rW hw,rfl⟩];rfl
  |false=>rw[zAe (fun h=>by cases h.2)];rfl
 rw[hv]at hnm;obtain⟨N,hN⟩:∃N,(if walksK t.call=true then AV.sl false ((wnames t.call).map AV.str)else .sl true [])=N:=⟨_,rfl⟩
 rw[hN]at hnm;simp only[stC,dS,AV.cells]at r0 hca hnm;unfold aEo;repeat' first|(refine gS ?_;simp only[go_sem,r0,r2,hg,hln,hca,hdn,hz1,hz2,hz3])|refine gA ?_|(refine gD ?_ ?_<;>intro h<;>try exact aA h)|fail
 have hdc:decide ((k:Int)=(who:Int))=decide (k=who):=zCv.2 (by omega)
 exact cL (.of (by rw[hdc]))
def anewX(who:Nat)(x:Cor)(q:Nat):Cor:={x with t:=((List.range q).foldl (mS who) (x.t,x.ths)).1,ths:=((List.range q).foldl (mS who) (x.t,x.ths)).2}
theorem aGf{who q:Nat}{x:Cor}{t:Thr}(h:(anewX who x q).ths[q]?=some t):anewX who x (q+1)=(if aEo who q t=true then{anewX who x q with t:=(dropT (anewX who x q).t q).1,ths:=(dropT (anewX who x q).t q).2.foldl vY (mY (anewX who x q).ths q rI)}else anewX who x q):=by
 unfold anewX at *;rw[List.range_succ,zBF];simp only[zBy,zCt]at h ⊢;generalize(List.range q).foldl (mS who) (x.t,x.ths)=s at *;unfold mS;rw[zAh,h,zBh];split<;>rfl
def passX(x:Cor)(k p:Nat):Cor:={x with t:=(dropT x.t k).1,ths:=((dropT x.t k).2.take p).foldl vY (mY x.ths k rI)}
theorem aPy{i j:Nat}{who:Nat}{u:Trn}{x:Cor}{G:AHeap}(hb:SB i j who u x G)(n:Nat)(hn:x.ths.length=n)(hz:∀q,q≤n→CZ (anewX who x q)∧(anewX who x q).ths.length=n)(hp:∀q t,q<n→(anewX who x q).ths[q]?=some t→t.call.path.length≤1048576)
  (hz2:∀q p,q<n→∀t∈(passX (anewX who x q) q p).ths,ThS t) (hd:∀q,q<n→(dropT (anewX who x q).t q).2.length≤1000000):yN Tryz.prog 80 [] i j who u (aEp who x) G:=by
 refine aO Tryz.func80 ?_;have r0:=hb.b1;have r1:=aG hb.b1 trivial;have r2:=hb.b2;have r7:=aG hb.b2 trivial;have r3:=hb.r3;have r4:=hb.r4;have r5:=hb.r5;have r6:=hb.r6;simp only[stC]at r0 r1 r5 r6;have qs:=qT hb.lt1 hb.lt2 hb.ne;have h40:=(hz 0 (zAo _)).1.n;repeat' first|((first|refine mx [8] sN ?_|refine gS ?_);simp only[go_sem,r0,r1,r2,r3,r4,r5,r6,r7,qs,aC])|refine gA ?_|(refine gD ?_ ?_<;>intro h<;>try exact aA h)|fail
 have hx0:anewX who x 0=x:=rfl;rw[hn];refine aI (ι:=Nat×AHeap) (fun s=>[(1,.ref G.length 0 0),(2,.func (.func 100) [] [.ref G.length 0 0]),(14,.int .i64 n),(15,.int .i64 s.1)]) (fun s=>lP G i j who u (anewX who x s.1)++(.cells 0 [.ref i 0 0]::s.2)) (fun s=>s.1≤n) (fun s=>n-s.1) (0,[]) (zAo _) ?_ (by rw[hx0,hb.own]) ?_
 ·simp[go_sem]
 rintro⟨q,L⟩ hq;simp only at hq ⊢;by_cases hlt:q<n
 ·have hli:decide ((q:Int)<(n:Int))=true:=dT;have hw:IntKind.i64.wrap ((q:Int)+1)=((q+1:Nat):Int):=by rw[wrap_i64 (by have:=hz 0 (zAo _);have:=this.1.n;have:=(hz 0 (zAo _)).2;omega) (by have:=(hz 0 (zAo _)).1.n;have:=(hz 0 (zAo _)).2;omega)];rfl
  obtain⟨X,hX⟩:∃X,anewX who x q=X:=⟨_,rfl⟩;obtain⟨hzX,hlX⟩:=hz q hq;have hpX:=hp q;have hz2X:=hz2 q;have hdX:=hd q hlt;rw[hX]at hzX hlX hpX hz2X hdX;have h40X:=hzX.n;have hqX:q<X.ths.length:=by omega
  have ht:=zAb hqX;obtain⟨t,hte⟩:∃t,X.ths[q]=t:=⟨_,rfl⟩;rw[hte]at ht;have hbX:=(hb.put X).app (.cells 0 [.ref i 0 0]::L);have hgX:hget (lP G i j who u X++(.cells 0 [.ref i 0 0]::L)) G.length=.cells 0 [.ref i 0 0]:=iS (nX ..);have hlate:=aPx hbX hgX (by omega) ht (hpX t hlt ht)
  have hnext:=aGf (who:=who) (x:=x) (q:=q) (t:=t) (by rw[hX];exact ht)
  rw[hX]at hnext;rw[hX];repeat' first|(refine gS ?_;simp only[go_sem,hli])|refine gA ?_|(refine gD ?_ ?_<;>intro h<;>try exact aA h)|fail
  refine gR (first:=[]) (cap:=[.ref G.length 0 0]) hlate cO ?_
  rintro v H' ⟨rfl,rfl⟩;cases hlt2:aEo who q t with
  |false=>
   rw[hlt2,zAe (by decide)]at hnext
   simp only[go_sem];repeat' first|(refine gS ?_;simp only[go_sem])|refine gA ?_|(refine gD ?_ ?_<;>intro h<;>try exact aA h)|fail
   exact⟨(q+1,L),hlt,by simp only;omega,zAx _ hw,by simp only[hnext]⟩
  |true=>
   rw[hlt2,zAl rfl]at hnext;obtain⟨GX,hGX⟩:∃GX,lP G i j who u X++(.cells 0 [.ref i 0 0]::L)=GX:=⟨_,rfl⟩;rw[hGX]at hbX hgX ⊢;have hb0:=hb;have hb:=hbX;have r0:=hb.b1;have r1:=aG hb.b1 trivial;have r2:=hb.b2;have r7:=aG hb.b2 trivial;have r3:=hb.r3;have r4:=hb.r4;have r5:=hb.r5;have r6:=hb.r6;simp only[stC]at r0 r1 r5 r6;have qs:=qT hb.lt1 hb.lt2 hb.ne;have hln:=aU (enc:=thr) (s:=18) (fun _=>rfl) X.ths
   have hdr:=aL5 false false X.t q hzX.held hzX.waits;obtain⟨⟨t1,ps⟩,hr⟩:∃r,dropT X.t q=r:=⟨_,rfl⟩;rw[hr]at hdr hnext hdX;have hag:=aOL false false false t (hzX.th _ (zAp ht));have hat:=iM (enc:=thr) (s:=18) (fun _=>rfl) hqX
   rw[hte]at hat;have hst:=qF (enc:=thr) (s:=18) (fun _=>rfl) hqX (rI t)
   simp only[thr,pE,vS,mP,AV.cells]at hag hat hst hdr;have hg1:=aG hgX trivial;have hg2:∀X Y L,hget (aB (aB GX j X) i Y++L) G.length=.cells 0 [.ref i 0 0]:=fun X Y L=>aD (aH (aH hgX (by have:=hb0.lt2;omega) _) (by have:=hb0.lt1;omega) _) trivial L
   have hg3:∀Y L,hget (aB GX i Y++L) G.length=.cells 0 [.ref i 0 0]:=fun Y L=>aD (aH hgX (by have:=hb0.lt1;omega) _) trivial L
   have hz1:((0:Int)≤(q:Int)∧(q:Int)<(X.ths.length:Int))=True:=zAC ⟨by omega,by omega⟩
   simp only[go_sem];repeat' first|((first|refine mx [8] sN ?_|refine gS ?_);simp only[go_sem,r0,r1,r2,r3,r4,r5,r6,r7,qs,aC,hgX,hg1,hg2,hg3,hln,hat,hst,hz1])|refine gA ?_|(refine gD ?_ ?_<;>intro h<;>try exact aA h)|fail
   obtain⟨P,hP⟩:∃P:Nat→Cor,(fun p=>passX X q p)=P:=⟨_,rfl⟩
   have hPl:∀p,(P p).ths.length=X.ths.length:=fun p=>by
    rw[←hP];unfold passX;simp only;generalize List.take p (dropT X.t q).2=l;have:∀(l:List Hld) (k:List Thr),(l.foldl vY k).length=k.length:=fun l=>by
     induction l with
     |nil=>exact fun k=>rfl
     |cons w l ih=>intro k;rw[zBy,ih];exact aAA _ _ _
    rw[this,aAA]
   have hg4:∀Y L,hget (lP GX i j who u Y++L) G.length=.cells 0 [.ref i 0 0]:=fun Y L=>hg2 _ _ L
   have hPs:∀p,p<ps.length→P (p+1)={P p with ths:=vY (P p).ths ps[p]! }:=fun p hp=>by
    rw[←hP];unfold passX;simp only[hr];rw[zAk hp,zBF,getElem!_pos ps p hp];rfl
   refine aI (ι:=Nat×AHeap) (fun s=>[(1,.ref G.length 0 0),(2,.func (.func 100) [] [.ref G.length 0 0]),(14,.int .i64 n),(15,.int .i64 q),(53,.sl false (ps.map hdA)),(54,.int .i64 ps.length),(55,.int .i64 s.1)]) (fun s=>lP GX i j who u (P s.1)++(.cells 0 [.sl false (t1.held.map hdA),.sl false (t1.waits.map hdA)]::s.2)) (fun s=>s.1≤ps.length) (fun s=>ps.length-s.1) (0,[]) (zAo _) ?_ ?_ ?_
   ·simp[go_sem]
   ·rw[←hP];unfold lP stC passX;simp only[List.take_zero,zCt,hr,fY ht,zAG]
   rintro⟨p,L2⟩ hp;simp only at hp ⊢;by_cases hlp:p<ps.length
   ·have hli:decide ((p:Int)<(ps.length:Int))=true:=dT;have hgd:=aN hdA hlp;have hwp:IntKind.i64.wrap ((p:Int)+1)=((p+1:Nat):Int):=aS hlp (by simp only at hdX;omega)
    obtain⟨G3,hG3⟩:∃G3,lP GX i j who u (P p)++(.cells 0 [.sl false (t1.held.map hdA),.sl false (t1.waits.map hdA)]::L2)=G3:=⟨_,rfl⟩;have hb3:=(hb.put (P p)).app (.cells 0 [.sl false (t1.held.map hdA),.sl false (t1.waits.map hdA)]::L2);have hg5:=hg4 (P p) (.cells 0 [.sl false (t1.held.map hdA),.sl false (t1.waits.map hdA)]::L2);rw[hG3]at hb3 hg5 ⊢;have hg6:=aG hg5 trivial;repeat' first|(refine gS ?_;simp only[go_sem,hli,hgd,hdA,hg5,hg6])|refine gA ?_|(refine gD ?_ ?_<;>intro h<;>try exact aA h)|fail
    refine aR (aL8 (hb3.app _) (by rw[hPl];omega) ps[p] (by rw[←hP];exact hz2X p hlt)) cO ?_
    rintro v H' ⟨rfl,rfl⟩;rw[←hG3,zAr,zA0,hb.next];simp only[go_sem];repeat' first|(refine gS ?_;simp only[go_sem])|refine gA ?_|(refine gD ?_ ?_<;>intro h<;>try exact aA h)|fail
    refine⟨(p+1,L2++[.cells 0 [.int .i64 ps[p].lock,.int .i64 ps[p].thr]]),hlp,by simp only;omega,zAx _ hwp,?_⟩
    rw[hPs p hlp,getElem!_pos ps p hlp]
   ·have hpe:p=ps.length:=by omega
    subst hpe;have hli:decide ((ps.length:Int)<(ps.length:Int))=false:=by simp
    repeat' first|(refine gS ?_;simp only[go_sem,hli])|refine gA ?_|(refine gD ?_ ?_<;>intro h<;>try exact aA h)|fail
    have hPe:P ps.length=anewX who x (q+1):=by
     rw[hnext,←hP];unfold passX;simp only[hr,zAD]
    refine⟨(q+1,L++(.cells 0 [.sl false (t1.held.map hdA),.sl false (t1.waits.map hdA)]::L2)),hlt,by simp only;omega,zAx _ hw,?_⟩
    rw[hPe,←hGX,hb0.next,zAr];rfl
 ·have hqe:q=n:=by omega
  subst hqe;have hli:decide ((q:Int)<(q:Int))=false:=by simp
  repeat' first|(refine gS ?_;simp only[go_sem,hli])|refine gA ?_|(refine gD ?_ ?_<;>intro h<;>try exact aA h)|fail
  refine iP hb ?_;unfold anewX aEp;rw[hn]
structure AnewZ (who:Nat) (x:Cor):Prop where
 z:∀q,q≤x.ths.length→CZ (anewX who x q)∧(anewX who x q).ths.length=x.ths.length
 p:∀q t,q<x.ths.length→(anewX who x q).ths[q]?=some t→t.call.path.length≤1048576
 t:∀q p,q<x.ths.length→∀t∈(passX (anewX who x q) q p).ths,ThS t
 d:∀q,q<x.ths.length→(dropT (anewX who x q).t q).2.length≤1000000
end
end Go.Proofs.YtennnelammaapaaGreatDoor
