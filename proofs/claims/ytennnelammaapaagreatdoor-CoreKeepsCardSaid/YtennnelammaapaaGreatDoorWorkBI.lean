/- What the functions of this seat answer (35 of 38). No condition. -/
import Derived.Test.YtennnelammaapaaGreatDoorWorkBH
set_option linter.unusedSimpArgs false
set_option linter.unusedVariables false
set_option maxRecDepth 100000
set_option maxHeartbeats 16000000
namespace Go.Proofs.YtennnelammaapaaGreatDoor
section
structure CZ (x:Cor):Prop where
 n:x.ths.length≤40
 th:∀t∈x.ths,ThS t
 held:x.t.held.length≤1000000
 waits:x.t.waits.length≤1000000
 gw:x.g.waits.length≤1000000
theorem SB.next{i j:Nat}{who:Int}{u:Trn}{x:Cor}{G:AHeap}(h:SB i j who u x G)(x1 x2:Cor)(L:AHeap):lP (lP G i j who u x1++L) i j who u x2=lP G i j who u x2++L:=by rw[(h.put x1).happ,h.twice]
def sJ:List Pl:=[.free,.pure 0,.pure 0,.pure 0,.pure 0,.free,.pure 0,.pure 0,.pure 0,.free,.pure 0,.pure 0,.pure 0,.pure 0,.pure 0,.free,.free,.free,.eff [true,true,true,true,true,true,true,true,true,true,true,true],.eff [false,false,false,false,false,false,false,false,false,false,false,false],.free]
def sL:List Pl:=[.free,.pure 0,.pure 0,.pure 0,.pure 0,.free,.pure 0,.pure 0,.pure 0,.free,.pure 0,.pure 0,.pure 0,.pure 0,.pure 0,.free,.free,.free,.free,.eff [true,true,true,true,true,true,true,true,true,true,true,true],.eff [false,false,false,false,false,false,false,false,false,false,false,false],.free,.free]
def sM:List Pl:=[.free,.pure 0,.pure 0,.pure 0,.pure 0,.free,.pure 0,.pure 0,.pure 0,.free,.pure 0,.pure 0,.pure 0,.pure 0,.free,.pure 0,.pure 0,.pure 0,.pure 0,.pure 0,.pure 0,.pure 0,.free,.free,.free,.eff [true,true,true,true,true,true,true,true,true,true,true,true,true,true,true,true,true,true],.eff [false,false,false,false,false,false,false,false,false,false,false,false,false,false,false,false,false,false],.free]
def zY:List Pl:=[.free,.pure 0,.pure 0,.pure 0,.pure 0,.free,.pure 0,.pure 0,.pure 0,.free,.pure 0,.pure 0,.pure 0,.pure 0,.pure 0,.pure 0,.eff [false,true,false,false,false,false,false,false,false,false,false,false,false]]
attribute [go_sem] sJ sL sM zY
theorem aPr{i j:Nat}{who:Nat}{u:Trn}{x:Cor}{G:AHeap}(hb:SB i j who u x G)(hz:CZ x){t:Thr}(ht:x.ths[who]?=some t)(hu:u.kind=1):yN Tryz.prog 55 [] i j who u (vZ who u.lock x) G:=by
 refine aO Tryz.func55 ?_;have r0:=hb.b1;have r1:=aG hb.b1 trivial;have r2:=hb.b2;have r7:=aG hb.b2 trivial;have r3:=hb.r3;have r4:=hb.r4;have r5:=hb.r5;have r6:=hb.r6;simp only[stC]at r0 r1 r5 r6;have qs:=qT hb.lt1 hb.lt2 hb.ne;have hak:=aSW false false x.t who u.lock hz.held hz.waits;unfold vZ;obtain⟨⟨t1,b⟩,hr⟩:∃r,aBP x.t who u.lock=r:=⟨_,rfl⟩;rw[hr]at hak ⊢;simp only[mP,aIV]at hak;have h1:=hb.one (x':={x with t:=t1}) rfl
 simp only[stC]at h1;cases b with
 |false=>
  repeat' first|((first|refine mx [0] sJ ?_|refine gS ?_);simp only[go_sem,r0,r1,r2,r3,r4,r5,r6,r7,qs,aC,h1])|refine gA ?_|(refine gD ?_ ?_<;>intro h<;>try exact aA h)|fail
  exact iP hb rfl
 |true=>
  repeat' first|((first|refine mx [0] sJ ?_|refine gS ?_);simp only[go_sem,r0,r1,r2,r3,r4,r5,r6,r7,qs,aC,h1])|refine gA ?_|(refine gD ?_ ?_<;>intro h<;>try exact aA h)|fail
  refine aR (pA ((hb.put {x with t:=t1}).app _) hz.n ht (hz.th _ (zAp ht))) cO ?_
  rintro v H' ⟨rfl,rfl⟩;rw[hb.next];simp only[go_sem];repeat' first|(refine gS ?_;simp only[go_sem])|refine gA ?_|(refine gD ?_ ?_<;>intro h<;>try exact aA h)|fail
  obtain⟨uk,ul⟩:=u;simp only at hu;subst hu;exact iP hb rfl
theorem aPs{i j:Nat}{who:Nat}{u:Trn}{x:Cor}{G:AHeap}(hb:SB i j who u x G)(hz:CZ x)(hz2:∀t∈(mY x.ths who fun t=>afterT t u),ThS t){t:Thr}(ht:x.ths[who]?=some t)(hu:u.kind=2):yN Tryz.prog 56 [] i j who u (wA who u.lock x) G:=by
 refine aO Tryz.func56 ?_;have r0:=hb.b1;have r1:=aG hb.b1 trivial;have r2:=hb.b2;have r7:=aG hb.b2 trivial;have r3:=hb.r3;have r4:=hb.r4;have r5:=hb.r5;have r6:=hb.r6;simp only[stC]at r0 r1 r5 r6;have qs:=qT hb.lt1 hb.lt2 hb.ne;have hak:=aL0 false false x.t who u.lock hz.held hz.waits;unfold wA;obtain⟨⟨t1,b⟩,hr⟩:∃r,bX x.t who u.lock=r:=⟨_,rfl⟩;rw[hr]at hak ⊢;simp only[mP]at hak;have h1:=hb.one (x':={x with t:=t1}) rfl
 simp only[stC]at h1;obtain⟨uk,ul⟩:=u;simp only at hu;subst hu;cases b with
 |none=>
  simp only[zCw,zB4]at hak;repeat' first|((first|refine mx [0] sL ?_|refine gS ?_);simp only[go_sem,r0,r1,r2,r3,r4,r5,r6,r7,qs,aC,h1])|refine gA ?_|(refine gD ?_ ?_<;>intro h<;>try exact aA h)|fail
  refine aR (pA ((hb.put {x with t:=t1}).app _) hz.n ht (hz.th _ (zAp ht))) cO ?_
  rintro v H' ⟨rfl,rfl⟩;rw[hb.next];simp only[go_sem];repeat' first|(refine gS ?_;simp only[go_sem])|refine gA ?_|(refine gD ?_ ?_<;>intro h<;>try exact aA h)|fail
  exact iP hb rfl
 |some n=>
  simp only[zBh,zBW]at hak;repeat' first|((first|refine mx [0] sL ?_|refine gS ?_);simp only[go_sem,r0,r1,r2,r3,r4,r5,r6,r7,qs,aC,h1])|refine gA ?_|(refine gD ?_ ?_<;>intro h<;>try exact aA h)|fail
  refine aR (pA ((hb.put {x with t:=t1}).app _) hz.n ht (hz.th _ (zAp ht))) cO ?_
  rintro v H' ⟨rfl,rfl⟩;rw[hb.next];have q1:=(hb.put {x with t:=t1,ths:=mY x.ths who fun t=>afterT t ⟨2,ul⟩}).app [ABlk.cells 0 [.sl false (t1.held.map hdA),.sl false (t1.waits.map hdA)]]
  have q2:=q1.b1;have q3:=aG q2 trivial;simp only[stC]at q2 q3;simp only[go_sem];repeat' first|(refine gS ?_;simp only[go_sem,q2,q3])|refine gA ?_|(refine gD ?_ ?_<;>intro h<;>try exact aA h)|fail
  refine aR (aL8 q1 (by simp only[aAA];exact hz.n) ⟨ul,n⟩ hz2) cO ?_
  rintro v H' ⟨rfl,rfl⟩;rw[hb.next];simp only[go_sem];repeat' first|(refine gS ?_;simp only[go_sem])|refine gA ?_|(refine gD ?_ ?_<;>intro h<;>try exact aA h)|fail
  exact iP hb rfl
theorem aPt{i j:Nat}{who:Nat}{u:Trn}{x:Cor}{G:AHeap}(hb:SB i j who u x G)(hz:CZ x){t:Thr}(ht:x.ths[who]?=some t):yN Tryz.prog 58 [] i j who u (aBk who t x) G:=by
 refine aO Tryz.func58 ?_;have r0:=hb.b1;have r1:=aG hb.b1 trivial;have r2:=hb.b2;have r7:=aG hb.b2 trivial;have r3:=hb.r3;have r4:=hb.r4;have r5:=hb.r5;have r6:=hb.r6;simp only[stC]at r0 r1 r5 r6;have qs:=qT hb.lt1 hb.lt2 hb.ne;have hak:=aPp false x.g who t.upto hz.gw;have hln:=aU (enc:=thr) (s:=18) (fun _=>rfl) x.ths
 have hk:=(eT.1 ht).1;have hgv:(flA thr x.ths).getD (who * 18+9) .top=.int .i64 t.upto:=by
  unfold flA;rw[zAh,kT (s:=18) (es:=x.ths.map thr) (k:=who) (j:=9) (e:=thr t) (x:=.int .i64 t.upto) (fun e he=>by(obtain⟨x, -,rfl⟩:=zAm.1 he;rfl)) (by rw[zAP,ht];rfl) rfl]
  rfl
 have hz1:((0:Int)≤(who:Int)∧(who:Int)<(x.ths.length:Int))=True:=zAC ⟨by omega,by omega⟩
 have hz2:(who * 18+9<x.ths.length * 18)=True:=zAC (by omega)
 unfold aBk;obtain⟨⟨t1,b⟩,hr⟩:∃r,zJ x.g who t.upto=r:=⟨_,rfl⟩;rw[hr]at hak ⊢;simp only[gpA]at hak;have h1:=hb.one (x':={x with g:=t1}) rfl
 have h2:=fun L=>aD (hb.put {x with g:=t1}).b1 trivial L
 simp only[stC]at h1 h2;cases b with
 |false=>
  repeat' first|((first|refine mx [0] sM ?_|refine gS ?_);simp only[go_sem,r0,r1,r2,r3,r4,r5,r6,r7,qs,aC,h1,h2,hln,hgv,hz1,hz2])|refine gA ?_|(refine gD ?_ ?_<;>intro h<;>try exact aA h)|fail
  exact iP hb rfl
 |true=>
  repeat' first|((first|refine mx [0] sM ?_|refine gS ?_);simp only[go_sem,r0,r1,r2,r3,r4,r5,r6,r7,qs,aC,h1,h2,hln,hgv,hz1,hz2])|refine gA ?_|(refine gD ?_ ?_<;>intro h<;>try exact aA h)|fail
  have q1:=(hb.put {x with g:=t1}).app [ABlk.cells 0 [.int .i64 t1.kept,.sl false (t1.waits.map wtA)]]
  refine aR (aBy q1 hz.n who) cO ?_;rintro v H' ⟨rfl,rfl⟩;rw[hb.next];simp only[go_sem];repeat' first|(refine gS ?_;simp only[go_sem])|refine gA ?_|(refine gD ?_ ?_<;>intro h<;>try exact aA h)|fail
  exact iP hb rfl
theorem aL9{i j:Nat}{who:Nat}{u:Trn}{x:Cor}{G:AHeap}(hb:SB i j who u x G)(hz:CZ x){t:Thr}(ht:x.ths[who]?=some t)(hu:u=⟨5,0⟩):yN Tryz.prog 59 [] i j who u (aBl who x) G:=by
 subst hu;refine aO Tryz.func59 ?_;repeat' first|(refine gS ?_;simp only[go_sem])|refine gA ?_|(refine gD ?_ ?_<;>intro h<;>try exact aA h)|fail
 refine aR (pA hb hz.n ht (hz.th _ (zAp ht))) cO ?_;rintro v H' ⟨rfl,rfl⟩;have hk:=(eT.1 ht).1;unfold aBl;rw[fY ht,fY ht];have hb2:=hb.put {x with ths:=x.ths.set who (afterT t ⟨5,0⟩)}
 obtain⟨G2,hG2⟩:∃G2,lP G i j who ⟨5,0⟩ {x with ths:=x.ths.set who (afterT t ⟨5,0⟩)}=G2:=⟨_,rfl⟩;rw[hG2]at hb2 ⊢;have hln:(flA thr (x.ths.set who (afterT t ⟨5,0⟩))).length=x.ths.length * 18:=by rw[aU (enc:=thr) (s:=18) (fun _=>rfl),zAG]
 have p2:=nW (enc:=thr) (s:=18) (f:=12) (X:=[.int .i64 x.time]) (D:=x.ths.set who (afterT t ⟨5,0⟩)) (k:=who) (fun _=>rfl) (by rw[zAG];exact hk) (by simp) {afterT t ⟨5,0⟩with end_:=x.time} (by rw[zBj];rfl)
 rw[List.set_set]at p2;have hz1:((0:Int)≤(who:Int)∧(who:Int)<(x.ths.length:Int))=True:=zAC ⟨by omega,by omega⟩
 have hz2:(who * 18+13≤x.ths.length * 18)=True:=zAC (by omega)
 have r0:=hb2.b1;have r2:=hb2.b2;have r8:=fun v Y=>aX hb2.lt2 (.cells v Y)
 simp only[stC,zAG]at r0;simp only[go_sem];repeat' first|((first|refine mx [1] zY ?_|refine gS ?_);simp only[go_sem,r0,r2,r8,hln,p2,hz1,hz2])|refine gA ?_|(refine gD ?_ ?_<;>intro h<;>try exact aA h)|fail
 refine wQ hb ?_;rw[hb2.ths (l:=x.ths.set who {afterT t ⟨5,0⟩with end_:=x.time}) (by simp),←hG2,hb.twice]
end
section
def lE:List Pl:=[.pure 0,.pure 0,.pure 0,.pure 0,.pure 0,.pure 0,.pure 0,.eff [false,true,true,true,true,true,true],.free,.eff [true,true,true,true,true,true],.pure 0,.pure 0,.pure 0,.pure 0,.eff [false,true,true,true,false,false,false,false,false,false]]
def lF:List Pl:=[.pure 0,.pure 0,.pure 0,.pure 0,.pure 0,.pure 0,.pure 0,.pure 0,.pure 0,.free,.pure 0,.pure 0,.eff [false,true,false,false,false,false,false,false,false,false,false]]
def lG:List Pl:=[.pure 0,.pure 0,.pure 0,.pure 0,.pure 0,.eff [false,true,true,true,false]]
def lH:List Pl:=[.pure 0,.pure 0,.pure 0,.pure 0,.pure 0,.pure 0,.pure 0,.pure 0,.pure 0,.pure 0,.pure 0,.pure 0,.free,.free,.free,.eff [true,true,true,true,true,true,true,true,true,true,true,true],.eff [false,false,false,false,false,false,false,false,false,false,false,false],.free]
attribute [go_sem] lE lF lG lH
theorem aPu(l:List Wai)(p:Wai→Bool)(i v lc n:Nat)(hn:n=l.length)(hlc:n≤lc)(hl:n≤1073741824){fn:Fn}{fs cs:List AV}(Gd:AHeap→Prop)(hGd:∀G b,Gd G→Gd (aB G i b))(hGa:∀G L,Gd G→Gd (G++L))(H:AHeap)(hh:hget H i=.cells v (flA wtA l))
  (hf:∀x G,Gd G→ACall Tryz.prog (.func fn fs cs) [wtA x] G (fun r G'=>r=.bool (p x)∧G'=G)) (hg:Gd H):
  ACalls Tryz.prog 51 [.osl 2 i v 0 n lc,.func fn fs cs] H (fun r H'=>∃rest,r=.osl 2 i v 0 (l.filter (fun x=> !p x)).length lc∧H'=aB H i (.cells v (flA wtA (l.filter (fun x=> !p x))++rest))):=by
 refine aO Tryz.func51 ?_;have hidx:=aHA l p i v lc n hn hlc hl H hh (fun x=>hf x H hg)
 have hilt:=aV hh trivial;have hf':=hf;simp only[wtA]at hf';by_cases h1:cQ p l= -1
 ·rw[h1]at hidx;repeat' first|((first|refine aZ (hidx) (cO) ?_|refine bA (hidx) (cO) ?_|refine bB (fun _=>hidx) (cO) ?_|refine gS ?_);simp only[go_sem,hh,Int.reduceEq])|refine gA ?_|(refine gD ?_ ?_<;>intro h<;>try exact aA h)|fail
  refine⟨H,[],_,(zAd _).symm,rfl,fun k b hk=>.inl hk,.cl _ (.osl _ _ _ _ _ _ hilt),[],?_,?_⟩
  ·rw[eQ h1,hn]
  ·rw[eQ h1,zAd];exact(cI hh trivial).symm
 ·obtain⟨A,x,B,rfl,e2,e3,e4⟩:=mO h1;rw[e2]at hidx;have hA:n=A.length+(B.length+1):=by simp[hn]
  have hd:decide (((A.length:Nat):Int)= -1)=false:=dF;have hw:IntKind.i64.wrap ((A.length:Int)+1)=((A.length+1:Nat):Int):=by rw[wI];rfl
  repeat' first|((first|refine aZ (hidx) (cO) ?_|refine bA (hidx) (cO) ?_|refine bB (fun _=>hidx) (cO) ?_|refine gS ?_);simp only[go_sem,hh,hd,hw])|refine gA ?_|(refine gD ?_ ?_<;>intro h<;>try exact aA h)|fail
  generalize hL:A++x::B=L at *;refine aI (ι:=Nat×Nat×List Wai×AHeap) (fun s=>[(0,.osl 2 i v 0 n lc),(1,.func fn fs cs),(5,.int .i64 s.1),(6,.int .i64 s.2.1)])
   (fun s=>aB H i (.cells v (flA wtA s.2.2.1))++s.2.2.2) (fun s=>s.1<s.2.1∧s.2.1≤n∧s.2.2.1.length=n∧s.2.2.1.take s.1=(L.take s.2.1).filter (fun x=> !p x)∧s.2.2.1.drop s.2.1=L.drop s.2.1) (fun s=>n-s.2.1) (A.length,A.length+1,L,[])
   ⟨by simp,by simp only;omega,hn.symm,?_,rfl⟩ ?_ (by rw[zAd];exact(cI hh trivial).symm) ?_
  ·simp only;rw[←hL,zBA,show A++x::B=(A++[x])++B by simp,show A.length+1=(A++[x]).length by simp,zBA,zAY,e4];simp[e3]
  ·simp[go_sem]
  ·rintro⟨k,j,E,M⟩ ⟨w1,w2,w3,w4,w5⟩;simp only at w1 w2 w3 w4 w5 ⊢;obtain⟨G,hG⟩:∃G,aB H i (.cells v (flA wtA E))++M=G:=⟨_,rfl⟩;rw[hG];have g0:hget G i=.cells v (flA wtA E):=by rw[←hG];exact aD (b:=.cells v (flA wtA E)) (aX hilt _) trivial M
   have g1:=aG g0 trivial;have g2:=cC g0 trivial;have gg:Gd G:=by rw[←hG];exact hGa _ _ (hGd _ _ hg)
   have gs:∀X,aB G i X=aB H i X++M:=fun X=>by rw[←hG,bD (by rw[aC];exact hilt),bE]
   have hE:(flA wtA E).length=n * 2:=by rw[aU (s:=2) (fun _=>rfl),w3]
   by_cases hj:j<n
   ·have hli:decide ((j:Int)<(n:Int))=true:=dT;have hjL:j<L.length:=by omega
    have hEj:E[j]'(by omega)=L[j]:=by
     have a:=zAi (l:=E) (i:=j) (by omega)
     have b:=zAi hjL;rw[w5,b]at a;exact(zBn a).1.symm
    have hgy:=iM (enc:=wtA) (s:=2) (fun _=>rfl) (D:=E) (k:=j) (by omega)
    rw[hEj]at hgy;simp only[wtA,AV.cells]at hgy;have hw1:IntKind.i64.wrap ((j:Int)+1)=((j+1:Nat):Int):=by rw[wI];rfl
    have hw2:IntKind.i64.wrap ((k:Int)+1)=((k+1:Nat):Int):=by rw[wI];rfl
    have hset1:=qF (enc:=wtA) (s:=2) (fun _=>rfl) (D:=E) (k:=k) (by omega) L[j]
    simp only[wtA,AV.cells]at hset1;have etk:L.take (j+1)=L.take j++[L[j]]:=zAk hjL;repeat' first|(refine gS ?_;simp only[go_sem,g0,g1,hli,hE,hgy])|refine gA ?_|(refine gD ?_ ?_<;>intro h<;>try exact aA h)|fail
    refine iV (hf' L[j] _ (hGa _ _ gg)) ?_;cases hpj:p L[j]with
    |true=>
     simp only[go_sem];repeat' first|(refine gS ?_;simp only[go_sem])|refine gA ?_|(refine gD ?_ ?_<;>intro h<;>try exact aA h)|fail
     refine⟨(k,j+1,E,M++[.cells 0 (wtA L[j]).cells]),⟨by simp only;omega,by simp only;omega,w3,?_,?_⟩,by simp only;omega,⟨rfl,zAx _ hw1⟩,?_⟩
     ·simp only;rw[etk,zAY,←w4,zA5,zAe (by simp[hpj])];simp
     ·simp only;have a:=zAi (l:=E) (i:=j) (by omega)
      have b:=zAi hjL;rw[w5,b]at a;exact(zBn a).2.symm
     ·show G++[.cells 0 (wtA L[j]).cells]=_;rw[←hG,zAr]
    |false=>
     simp only[go_sem];repeat' first|(refine gS ?_;simp only[go_sem,g0,g1,g2,hE,hset1])|refine gA ?_|(refine gD ?_ ?_<;>intro h<;>try exact aA h)|fail
     refine⟨(k+1,j+1,E.set k L[j],M++[.cells 0 (wtA L[j]).cells]),⟨by simp only;omega,by simp only;omega,by simp only[zAG];exact w3,?_,?_⟩,by simp only;omega,⟨zAx _ hw2,zAx _ hw1⟩,?_⟩
     ·simp only;rw[etk,zAY,←w4,zA5,zAl (by simp[hpj]),zAk (by simp;omega),zBj,zCe (zAf _)]
      rfl
     ·simp only;rw[zCf (by omega)]
      have a:=zAi (l:=E) (i:=j) (by omega)
      have b:=zAi hjL;rw[w5,b]at a;exact(zBn a).2.symm
     ·show aB G i (.cells v (flA wtA (E.set k L[j])))++[.cells 0 (wtA L[j]).cells]=_;rw[gs,zAr]
   ·have hje:j=n:=by omega
    subst hje;have hli:decide ((j:Int)<(j:Int))=false:=by simp
    repeat' first|(refine gS ?_;simp only[go_sem,g0,g1,g2,hli,hE])|refine gA ?_|(refine gD ?_ ?_<;>intro h<;>try exact aA h)|fail
    rw[hn,zAD]at w4;obtain⟨F,hF⟩:∃F,F=L.filter (fun x=> !p x):=⟨_,rfl⟩
    rw[←hF]at w4 ⊢;have hk:k=F.length:=by rw[←w4,zAL];omega
    have hFl:=aU (enc:=wtA) (s:=2) (fun _=>rfl) F
    have hsp:∀Z:List AV,∃rest,bG (flA wtA E) (k * 2) Z=flA wtA F++rest∧∀m,(∀x∈Z,Cl m x)→∀x∈rest,Cl m x:=fun Z=>by
     have e:=cD (A:=flA wtA F) (B:=flA wtA (E.drop k)) (off:=k * 2) (X:=Z) (by rw[hFl,hk])
     rw[←cB,←w4,zAS]at e;rw[w4]at e;refine⟨Z++(flA wtA (E.drop k)).drop Z.length,e,fun m hz x hx=>?_⟩
     rcases zAy.1 hx with hx|hx
     ·exact hz x hx
     ·exact(eY (fun x=>by simp only[go_sem]) (E.drop k) x (zBq hx)).cl m
    obtain⟨rest,hr,hz⟩:=hsp (List.flatMap AV.cells (List.replicate (j-k) (.agg [.int .i64 0,.int .i64 0])));rw[hr,gs];have gM:∀c,hget (aB H i (.cells v c)++M) i=.cells v c:=fun c=>aD (b:=.cells v c) (aX hilt _) trivial M
    simp only[gM];refine⟨⟨trivial,by omega,by omega⟩,?_⟩
    repeat' first|(refine gS ?_;simp only[go_sem])|refine gA ?_|(refine gD ?_ ?_<;>intro h<;>try exact aA h)|fail
    refine⟨_,M,_,rfl,by rw[aC],dW ?_,.cl _ (.osl _ _ _ _ _ _ hilt),rest,by rw[hk],rfl⟩
    intro x hx;rcases zAy.1 hx with hx|hx
    ·exact(eY (fun x=>by simp only[go_sem]) F x hx).cl _
    ·refine hz _ (fun x hx=>?_) x hx
     rw[zBC]at hx;obtain⟨e,he,hx⟩:=hx;rw[zCj]at he;obtain⟨-,rfl⟩:=he;simp only[AV.cells,zAs,zAH,zBv]at hx;rcases hx with rfl|rfl<;>first|exact .int _ _|exact .bool _|exact .str _|exact(Pur.sl _ _ (fun _ h=>by cases h)).cl _
theorem aEJ{cs X Y:List AV}{off:Nat}(hl:X.length=Y.length)(ho:off+X.length≤cs.length)(h:∀(i:Nat) (x y:AV),X[i]?=some x→Y[i]?=some y→Sim x y):∀(i:Nat) (x y:AV),(bG cs off X)[i]?=some x→(bG cs off Y)[i]?=some y→Sim x y:=fun i x y hx hy=>by
 rw[aEZ ho]at hx;rw[aEZ (by rw[←hl];exact ho),←hl]at hy
 split at hx
 ·rename_i hi;rw[zAl hi]at hy;exact h _ x y hx hy
 ·rename_i hi;rw[zAe hi,hx]at hy;cases hy;exact .refl x
theorem aMa{b i:Nat}{cs:List AV}{n:Int}{G:AHeap}(h1:hget G b=.cells 0 [.ref i 0 0])(h2:hget G i=.cells 0 cs)(h3:cs.getD 14 .top=.int .i64 n)(h4:14<cs.length)(s:Wai):bH Tryz.prog 50 [wtA s,.ref b 0 0] G (.bool (decide (s.thr=n))):=by
 refine fO Tryz.func50 ?_;have g1:=aG h1 trivial;have g2:=aG h2 trivial;repeat' first|(refine gS ?_;simp only[go_sem,wtA,g1,g2,h3,h4])|refine gA ?_|(refine gD ?_ ?_<;>intro h<;>try exact aA h)|fail
 exact dY (.refl _)
theorem aMb{i j:Nat}{who:Nat}{u:Trn}{x:Cor}{G:AHeap}(hb:SB i j who u x G)(hz:CZ x){t:Thr}(ht:x.ths[who]?=some t):yN Tryz.prog 34 [.bool true] i j who u (mR true who x) G:=by
 refine aO Tryz.func34 ?_;have hk:=(eT.1 ht).1;have r0:=hb.b1;have r1:=aG hb.b1 trivial;have r2:=hb.b2;have r7:=aG hb.b2 trivial;have r3:=hb.r3;have r4:=hb.r4;have r5:=hb.r5;have r6:=hb.r6;simp only[stC]at r0 r1 r5 r6;have qs:=qT hb.lt1 hb.lt2 hb.ne;repeat' first|((first|refine mx [3] lE ?_|refine mx [4] lF ?_|refine mx [5] lG ?_|refine mx [6] lH ?_|refine gS ?_);simp only[go_sem,r0,r1,r2,r3,r4,r5,r6,r7,qs,aC])|refine gA ?_|(refine gD ?_ ?_<;>intro h<;>try exact aA h)|fail
 refine dX (aEI false x.g.waits (by have:=hz.gw;omega) _) (cO) ?_
 have hcl:=r0;have hi1:i<G.length:=hb.lt1;simp only[go_sem,r0,r1,r2,r3,r4,r5,r6,r7,qs,aC];repeat' first|(refine gS ?_;simp only[go_sem,r0,r1,r2,r3,r4,r5,r6,r7,qs,aC])|refine gA ?_|(refine gD ?_ ?_<;>intro h<;>try exact aA h)|fail
 refine dX ((aPu x.g.waits (fun w=>decide (w.thr=(who:Int))) (G.length+1) 1 x.g.waits.length x.g.waits.length rfl (zAf _) (by have:=hz.gw;omega) (fun G'=>hget G' G.length=.cells 0 [.ref i 0 0]∧hget G' i=.cells 0 (stC j who u x)) (fun G' b h=>⟨aH h.1 (by omega) b,aH h.2 (by omega) b⟩) (fun G' L h=>⟨aD h.1 trivial L,aD h.2 trivial L⟩) _
  (fn:=.func 50) (fs:=[]) (cs:=[.ref G.length 0 0]) (by simp only[go_sem]) (fun s G' hg=>Or.inl ⟨cO,aMa hg.1 hg.2 rfl (by simp[stC]) s⟩) ⟨by simp only[go_sem],aD hb.b1 trivial _⟩).trunc (by simp)) (cO) ?_
 obtain⟨W,hW⟩:∃W,W=x.g.waits.filter fun w=> !decide (w.thr=(who:Int)):=⟨_,rfl⟩
 rw[←hW];simp only[go_sem,r0,r1,r2,r3,r4,r5,r6,r7,qs,aC];refine aNS (v:=0) (vb:=1) (s:=2) (lc:=x.g.waits.length) (cs:=(stC j who u x).set 10 (.osl 2 (G.length+1) 1 0 (W.map wtA).length x.g.waits.length)) (bs:=flA wtA W) i (G.length+1) 10 (W.map wtA) [] (by omega) (by rw[zAn];simp only[go_sem,r0,r1,r2,r3,r4,r5,r6,r7,qs,aC];rfl) rfl (by simp only[go_sem,r0,r1,r2,r3,r4,r5,r6,r7,qs,aC]) (by decide) (zAd _).symm (fun e he=>by(obtain⟨x, -,rfl⟩:=zAm.1 he;rfl)) ?_
 have h1:=hb.one (x':={x with g:={x.g with waits:=W}}) rfl
 simp only[stC]at h1;simp only[stC,go_sem,r0,r1,r2,r3,r4,r5,r6,r7,qs,aC,h1];have hb1:=(hb.put {x with g:={x.g with waits:=W}}).app [.cells 0 [.ref i 0 0],.gone]
 have g0:hget (lP G i j who u {x with g:={x.g with waits:=W}}++[.cells 0 [.ref i 0 0],.gone]) G.length=.cells 0 [.ref i 0 0]:=by
  have:=nX G i j who u {x with g:={x.g with waits:=W}}
  rw[←this];exact eZ _ _
 obtain⟨G1,hG1⟩:∃G1,lP G i j who u {x with g:={x.g with waits:=W}}++[.cells 0 [.ref i 0 0],.gone]=G1:=⟨_,rfl⟩;rw[hG1]at hb1 g0 ⊢;have b1:=hb1.b1;have b2:=hb1.b2;have b3:=hb1.lt2;have hln:=aU (enc:=thr) (s:=18) (fun _=>rfl) x.ths
 have hi2:(who * 18+18≤x.ths.length * 18)=True:=zAC (by omega)
 have hz1:((0:Int)≤(who:Int)∧(who:Int)<(x.ths.length:Int))=True:=zAC ⟨by omega,by omega⟩
 simp only[stC]at b1 b2;have b8:=fun v Y=>aX b3 (.cells v Y)
 iterate 2 first|((first|refine mx [3] lE ?_|refine mx [4] lF ?_|refine mx [5] lG ?_|refine mx [6] lH ?_|refine gS ?_);simp only[go_sem,b1,b2,b8,g0,hln,hi2,hz1])|refine gA ?_|(refine gD ?_ ?_<;>intro h<;>try exact aA h)|fail
 have ht2:x.ths[who]=t:=(eT.1 ht).2;obtain⟨L2,hL2⟩:∃L2,x.ths.set who {t with ans:={an0 with err:=120}}=L2:=⟨_,rfl⟩;have hl2:L2.length=x.ths.length:=by rw[←hL2,zAG]
 have hput:=nW (enc:=thr) (s:=18) (f:=13) (X:=[.int .i64 120,.str [],.sl false [],.int .i64 0,.sl false []]) (fun _=>rfl) hk (by simp) {t with ans:={an0 with err:=120}} (by rw[ht2];rfl)
 rw[hL2]at hput;refine aCL (v:=1) (cs:=bG (flA thr x.ths) (who * 18+13) [.int .i64 120,.str [],.sl true [],.int .i64 0,.sl true []]) j (flA thr L2) (b8 _ _) ?_ ?_ ?_
 ·rw[←hput,aBH (by rw[hln];simp;omega),aBH (by rw[hln];simp;omega)]
 ·rw[←hput];exact aEJ rfl (by rw[hln];simp;omega) (aP (.refl _) (aP (.refl _) (aP (.sl _ _) (aP (.refl _) (aP (.sl _ _) dE)))))
 have hb2:=hb1.put {x with g:={x.g with waits:=W},ths:=L2}
 rw[bE,hb1.ths hl2];have g2:∀x2,hget (lP G1 i j who u x2) G.length=.cells 0 [.ref i 0 0]:=fun x2=>by
  unfold lP;exact aH (aH g0 (by have:=hb.lt2;omega) _) (by omega) _
 have c1:=hb2.b1;simp only[stC]at c1;repeat' first|((first|refine mx [3] lE ?_|refine mx [4] lF ?_|refine mx [5] lG ?_|refine mx [6] lH ?_|refine gS ?_);simp only[go_sem,c1,g2])|refine gA ?_|(refine gD ?_ ?_<;>intro h<;>try exact aA h)|fail
 refine dX (aBy hb2 (by rw[hl2];exact hz.n) who) cO ?_
 rw[hb1.twice];have c3:=(hb1.put {x with g:={x.g with waits:=W},ths:=kF x.time L2 who}).b1
 have hol:(kF x.time L2 who).length=x.ths.length:=by unfold kF;rw[aAA,hl2]
 simp only[stC,hol]at c3;simp only[go_sem,c3,g2];repeat' first|(refine gS ?_;simp only[go_sem,c3,g2])|refine gA ?_|(refine gD ?_ ?_<;>intro h<;>try exact aA h)|fail
 rw[←hG1,hb.next];refine iP hb ?_;unfold mR;rw[zAl rfl,fY ht,hL2,hW]
theorem aMc{i j:Nat}{who:Nat}{u:Trn}{x:Cor}{G:AHeap}(hb:SB i j who u x G)(hz:CZ x)(ho:x.ops.length≤1073741824):yN Tryz.prog 34 [.bool false] i j who u (mR false who x) G:=by
 refine aO Tryz.func34 ?_;have r0:=hb.b1;have r1:=aG hb.b1 trivial;have r2:=hb.b2;have r7:=aG hb.b2 trivial;have r3:=hb.r3;have r4:=hb.r4;have r5:=hb.r5;have r6:=hb.r6;simp only[stC]at r0 r1 r5 r6;have qs:=qT hb.lt1 hb.lt2 hb.ne;have hak:=aPq false x.g x.ops.length hz.gw;unfold mR;rw[zAe (by decide)]
 obtain⟨⟨t1,ns⟩,hr⟩:∃r,aC9 x.g x.ops.length=r:=⟨_,rfl⟩;have hnl:ns.length≤1000000:=by
  have:=zAx (fun r=>r.2.length) hr
  simp only[aC9,zAn]at this;rw[←this];exact zAO (zA2 ..) hz.gw
 rw[hr]at hak ⊢;simp only[gpA]at hak;have h1:=hb.one (x':={x with g:=t1}) rfl
 simp only[stC]at h1;repeat' first|((first|refine mx [3] lE ?_|refine mx [4] lF ?_|refine mx [5] lG ?_|refine mx [6] lH ?_|refine gS ?_);simp only[go_sem,r0,r1,r2,r3,r4,r5,r6,r7,qs,aC,h1])|refine gA ?_|(refine gD ?_ ?_<;>intro h<;>try exact aA h)|fail
 obtain⟨L0,hL0⟩:∃L0,[ABlk.cells 0 [.ref i 0 0],ABlk.cells 0 [.int .i64 t1.kept,.sl false (t1.waits.map wtA)]]=L0:=⟨_,rfl⟩;obtain⟨X,hX⟩:∃X:Nat→Cor,(fun q=>{x with g:=t1,ths:=(ns.take q).foldl (kF x.time) x.ths})=X:=⟨_,rfl⟩
 have hXl:∀q,(X q).ths.length=x.ths.length:=fun q=>by rw[←hX];exact aEB _ _ _
 have hXt:∀q,(X q).time=x.time:=fun q=>by rw[←hX]
 have g0:∀q,hget (lP G i j who u (X q)++L0) G.length=.cells 0 [.ref i 0 0]:=fun q=>by rw[←hL0];exact iS (nX ..)
 rw[hL0];refine aI (ι:=Nat) (fun s=>[(2,.ref G.length 0 0),(63,.sl false (ns.map bK)),(64,.int .i64 ns.length),(65,.int .i64 s)]) (fun s=>lP G i j who u (X s)++L0) (fun s=>s≤ns.length) (fun s=>ns.length-s) 0 (zAo _) ?_ (by rw[←hX];rfl) ?_
 ·simp[go_sem]
 rintro q hq;by_cases hlt:q<ns.length
 ·have hli:decide ((q:Int)<(ns.length:Int))=true:=dT;have hp:=aN bK hlt;have hw:=aS hlt (by omega)
  have g1:=g0 q;simp only[bK]at hp;repeat' first|(refine gS ?_;simp only[go_sem,hli,hp,g1])|refine gA ?_|(refine gD ?_ ?_<;>intro h<;>try exact aA h)|fail
  refine aR (aBy ((hb.put (X q)).app L0) (by rw[hXl];exact hz.n) ns[q]) cO ?_
  rintro v H' ⟨rfl,rfl⟩;rw[hb.next];simp only[go_sem];repeat' first|(refine gS ?_;simp only[go_sem])|refine gA ?_|(refine gD ?_ ?_<;>intro h<;>try exact aA h)|fail
  refine⟨q+1,hlt,by omega,zAx _ hw,?_⟩
  rw[hXt,←hX];simp only;rw[zAk hlt,zBF];rfl
 ·have hqe:q=ns.length:=by omega
  subst hqe;have hli:decide ((ns.length:Int)<(ns.length:Int))=false:=by simp
  repeat' first|(refine gS ?_;simp only[go_sem,hli])|refine gA ?_|(refine gD ?_ ?_<;>intro h<;>try exact aA h)|fail
  refine iP hb ?_;rw[←hX];simp only[zAD]
end
end Go.Proofs.YtennnelammaapaaGreatDoor
