/- What the functions of this seat answer (38 of 38). No condition. -/
import Derived.Test.YtennnelammaapaaGreatDoorWorkBK
set_option linter.unusedSimpArgs false
set_option linter.unusedVariables false
set_option maxRecDepth 100000
set_option maxHeartbeats 16000000
namespace Go.Proofs.YtennnelammaapaaGreatDoor
section
def nY:List Pl:=[.free,.free,.pure 0,.pure 0,.pure 0,.pure 0,.pure 0,.pure 0,.free,.pure 0,.pure 0,.pure 0,.pure 0,.free,.pure 0,.pure 0,.pure 0,.pure 0,.pure 0,.eff [false,true,false,false,false,false,false,false,false,false,false,false,false,false,false]]
def nZ:List Pl:=[.eff [],.free,.pure 1,.pure 1,.pure 1,.pure 1,.pure 0,.free,.free,.free,.free,.free]
attribute [go_sem] nY nZ
def gI:List (AV×AV×Nat):=[(.int .i64 1,.func (.func 55) [] [],0),(.int .i64 2,.func (.func 56) [] [],1),(.int .i64 3,.func (.func 57) [] [],2),(.int .i64 4,.func (.func 58) [] [],3),(.int .i64 5,.func (.func 59) [] [],4)]
theorem pB(n:Nat):keysIn (.int .i64) (gI.take n):=by
 intro x hx;have:=List.mem_of_mem_take hx;simp only[gI,zAs,zAH,zBv]at this;rcases this with rfl|rfl|rfl|rfl|rfl<;>trivial
theorem aMo(H:AHeap):ACalls Tryz.prog 36 [] H (fun v H'=>v=.map H.length∧H'=H++[.map gI 5]):=by
 refine aQ Tryz.func36 ?_;have e1:eO (AV.int .i64 1) (.func (.func 55) [] []) [] 0=gI.take 1:=rfl;have e2:eO (AV.int .i64 2) (.func (.func 56) [] []) (gI.take 1) 1=gI.take 2:=rfl;have e3:eO (AV.int .i64 3) (.func (.func 57) [] []) (gI.take 2) 2=gI.take 3:=rfl;have e4:eO (AV.int .i64 4) (.func (.func 58) [] []) (gI.take 3) 3=gI.take 4:=rfl;have e5:eO (AV.int .i64 5) (.func (.func 59) [] []) (gI.take 4) 4=gI:=rfl;have c1:fS (AV.int .i64 1) [] 0=1:=rfl;have c2:fS (AV.int .i64 2) (gI.take 1) 1=2:=rfl;have c3:fS (AV.int .i64 3) (gI.take 2) 2=3:=rfl;have c4:fS (AV.int .i64 4) (gI.take 3) 3=4:=rfl;have c5:fS (AV.int .i64 5) (gI.take 4) 4=5:=rfl;repeat' first|(refine gS ?_;simp only[go_sem,e1,e2,e3,e4,e5,c1,c2,c3,c4,c5])|refine gA ?_|(refine gD ?_ ?_<;>intro h<;>try exact aA h)|fail
 refine⟨pB 0,pB 1,pB 2,pB 3,pB 4,?_⟩;repeat' first|(refine gS ?_;simp only[go_sem])|refine gA ?_|(refine gD ?_ ?_<;>intro h<;>try exact aA h)|fail
 refine⟨_,[],_,(zAd _).symm,by simp,jU fun b hb=>?_,.cl _ (.map _ (by simp)),rfl,rfl⟩
 rw[zAq]at hb;subst hb;intro p hp;simp only[gI,zAs,zAH,zBv]at hp;have hf:∀(n:Nat) (f:FuncId),Cl n (.func (.func f) [] []):=fun n f=>.func _ _ _ (fun _ _ h=>by simp at h) (fun _ _ h=>by simp at h)
 rcases hp with rfl|rfl|rfl|rfl|rfl<;>exact⟨.int _ _,hf _ _⟩
theorem aPC{n i v k lc:Nat}{H:AHeap}{cs:List AV}(D:List Thr)(hn:n≤i)(hh:hget H i=.cells v cs)(hc:cs=flA thr D)(hk:D.length=k):Frz n H (.osl 18 i v 0 k lc) (.sl false (D.map thr)):=
 iT (es:=D.map thr) (rest:=[]) hn hh (hc.trans (zAd _).symm) (by rw[zAn,hk]) (fun e he=>by(obtain⟨x, -,rfl⟩:=zAm.1 he;rfl)) (fun e he=>by(obtain⟨x, -,rfl⟩:=zAm.1 he;simp only[go_sem]))
theorem aS7{l:List Thr}{k:Nat}{t:Thr}(h:l[k]?=some t):List.take 18 (List.drop (k * 18) (flA thr l))=(thr t).cells:=by
 obtain⟨hk,e⟩:=eT.1 h;have:=aAB (enc:=thr) (s:=18) (fun _=>rfl) hk []
 rw[zAd,e]at this;exact this
theorem aPD{i j:Nat}{who:Int}{v:Trn}{x:Cor}{G:AHeap}(h:SB i j who v x G)(u:Trn):SB i j who u x (aB G i (.cells 0 (stC j who u x))):=⟨h.ne,aX h.lt1 _,aH h.b2 (by have:=h.ne;omega) _⟩
theorem aCG{i j:Nat}{who:Int}{u:Trn}{x y:Cor}{G H:AHeap}(hb:SB i j who u x G)(hn:y.ths.length=x.ths.length)(h1:H.length+1<i)(hp:∀k,k<H.length→hget G k=hget H k)(X:ABlk):
  ∃L z,aB (lP G i j who u y) (H.length+1) X=H++L∧Frz H.length (aB (lP G i j who u y) (H.length+1) X) (kE (.sl false (y.m.log.entries.map iB)) (.sl false (y.m.log.nodes.map ndA)) (.sl false (y.m.snaps.map iG)) (.sl false (y.m.watches.map dJ)) (.sl false (y.t.held.map hdA)) (.sl false (y.t.waits.map hdA)) (.sl false (y.g.waits.map wtA)) (.osl 18 j 1 0 y.ths.length y.ths.length) (.sl false (y.ops.map opA)) y) z∧z=eM y:=by
 have hne:=hb.ne;have hlt:=hb.lt1;have hlt2:=hb.lt2;have hb2:=(hb.put y).b2;obtain⟨L,hL⟩:=wO (H:=H) (H':=aB (lP G i j who u y) (H.length+1) X) (by rw[aC,nX];omega) fun k hk=>by
  have:=hp k hk;unfold lP aB;simp only[hget,zAh]at this ⊢;rw[zAA (by omega),zAA (by omega),zAA (by omega)]
  exact this
 refine⟨L,_,hL,aL4 false false false false false false false false y (aPC y.ths (by omega) (v:=1) (cs:=flA thr y.ths) ?_ rfl rfl),rfl⟩
 exact aH hb2 (by omega) _
theorem aMp{t:Thr}(h:ThS t)(k:Int):ThS (afterT t ⟨2,k⟩):=by
 obtain⟨e1,e2, -, -, -,e3, -⟩:=kZ t k;obtain⟨h1,h2,h3⟩:=h;unfold ThS;rw[e1,e2,e3];exact⟨h1,zAO (zA2 _ _) h2,h3⟩
theorem aPE{i j:Nat}{who:Nat}{u:Trn}{x:Cor}{G:AHeap}{q:Nat}(hb:SB i j who u x G)(b:CB q x)(hq:q≤100000){t:Thr}(ht:x.ths[who]?=some t)(he:t.ended=false)(hu:nextT x.m.log.nodes t=u):
  ∃(c:Nat) (f:FuncId),keyAt (.int .i64 u.kind) gI=some (c,.func (.func f) [] [])∧dV Tryz.prog f=true∧yN Tryz.prog f [] i j who u (rT who t u x) G:=by
 have hf:=yB x.m.log.nodes he;have hz:=b.cz hq;rw[hu]at hf;obtain⟨a,k⟩:=u;simp only at hf;unfold rT;simp only;rcases hf with rfl|rfl|h|rfl|rfl
 ·rw[zAl rfl];exact⟨_,_,rfl,cO,aPr hb hz ht rfl⟩
 ·rw[zAe (by decide),zAl rfl]
  exact⟨_,_,rfl,cO,aPs hb hz (iI hz.th fun t _ h=>aMp h k) ht rfl⟩
 ·cases h;rw[zAe (by decide),zAe (by decide),zAl rfl]
  have ha:=aGg b.ci.mi t.call;exact⟨_,_,rfl,cO,aS5 hb hz b.ci.mi ht (b.ci.cs t (zAp ht)) rfl (by have:=b.ci.ops;have:=b.ci.mi.cap;omega) ⟨zAO ha.1 (by decide),zAO ha.2 (by decide)⟩ fun _ _=>b.anew hq ht⟩
 ·rw[zAe (by decide),zAe (by decide),zAe (by decide),zAl rfl]
  exact⟨_,_,rfl,cO,aPt hb hz ht⟩
 ·obtain⟨rfl, -⟩:=aBp hu;rw[zAe (by decide),zAe (by decide),zAe (by decide),zAe (by decide),zAl rfl]
  exact⟨_,_,rfl,cO,aL9 hb hz ht rfl⟩
theorem wR{q:Nat}(x:Cor)(p:Int)(full:Bool)(b:CB q x)(hq:q≤100000)(H:AHeap):bH Tryz.prog 18 [eM x,.int .i64 p,.bool full] H (eM (jL x p full)):=by
 refine fO Tryz.func18 ?_;have hn:=b.ci.n;have hpk:=aAy false false false false false false false false false x p (by omega)
 unfold uA at hpk;unfold jL;simp only[eM,iN,kE]at hpk ⊢;cases hw:kY x p with
 |none=>
  rw[hw]at hpk;simp only at hpk;repeat' first|((first|refine mx [10] nY ?_|refine mx [11] nZ ?_|refine gS ?_);simp only[go_sem])|refine gA ?_|(refine gD ?_ ?_<;>intro h<;>try exact aA h)|fail
  exact dY (.refl _)
 |some who=>
  rw[hw]at hpk;simp only at hpk;repeat' first|((first|refine mx [10] nY ?_|refine mx [11] nZ ?_|refine gS ?_);simp only[go_sem])|refine gA ?_|(refine gD ?_ ?_<;>intro h<;>try exact aA h)|fail
  refine aR (aBx false x.ths (by omega) _) cO ?_
  rintro v H' ⟨rfl,rfl⟩;simp only[go_sem];obtain⟨t,ht,he,hwt, -⟩:=aAz (tK hw);have hwl:=(eT.1 ht).1;repeat' first|(refine gS ?_;simp only[go_sem])|refine gA ?_|fail
  obtain⟨y,hy⟩:∃y,zL x=y:=⟨_,rfl⟩;have hyt:y.ths=x.ths:=by rw[←hy];rfl
  have hby:CB q y:=by rw[←hy];exact b.tick
  obtain⟨G,hG⟩:∃G,H++[.cells 0 (eM x).cells,.cells 0 (iN true true true true true true true true true co0).cells,.cells 0 (stC (H.length+3) who ⟨0,0⟩ (zL x)),.cells 1 (flA thr x.ths)]=G:=⟨_,rfl⟩;have hb:SB (H.length+2) (H.length+3) who ⟨0,0⟩ y G:=⟨by omega,by rw[←hG,←hy];simp only[go_sem],by rw[←hG,hyt];simp only[go_sem]⟩
  have hp:∀k,k<H.length→hget G k=hget H k:=fun k hk=>by rw[←hG];simp only[hget,zAh];rw[zAt hk]
  have hz:hget G (H.length+1)=.cells 0 (iN true true true true true true true true true co0).cells:=by rw[←hG];simp only[go_sem]
  simp only[eM,iN,kE,AV.cells,stC,zL,co0,md0,gp0,tb0,zAZ]at hG hz;rw[hG];refine eJ rfl (fun h=>?_) (fun h=>?_)
  ·have hg:oT x.g who=true:=h;have hz1:oT y.g who=true:=by rw[←hy];exact hg
   have hgo:goC full who x=mR full who y:=by unfold goC;rw[zAl hg,hy]
   have hkp:yN Tryz.prog 34 [.bool full] (H.length+2) (H.length+3) who ⟨0,0⟩ (mR full who y) G:=by
    cases full with
    |true=>exact aMb hb (hby.cz hq) (by rw[hyt];exact ht)
    |false=>exact aMc hb (hby.cz hq) (by have:=hby.ci.ops;have:=hby.ci.mi.cap;omega)
   have hzl:(mR full who y).ths.length=y.ths.length:=by
    have:=(aUD hby.ci who full hz1).ths.1;exact this
   rw[hgo];obtain⟨z,hzz⟩:∃z,mR full who y=z:=⟨_,rfl⟩;rw[hzz]at hkp hzl ⊢;repeat' first|(refine gS ?_;simp only[go_sem])|refine gA ?_|(refine gD ?_ ?_<;>intro h<;>try exact aA h)|fail
   refine aR hkp cO ?_;rintro v H' ⟨rfl,rfl⟩;have c1:=(hb.put z).b1;have c2:hget (lP G (H.length+2) (H.length+3) who ⟨0,0⟩ z) (H.length+1)=_:=(aH (aH hz (show ¬H.length+3=H.length+1 by omega) _) (show ¬H.length+2=H.length+1 by omega) _)
   have c3:=fun X=>aX (H:=lP G (H.length+2) (H.length+3) who ⟨0,0⟩ z) (i:=H.length+1) (by have:=hb.lt1;rw[nX];omega) (ABlk.cells 0 X)
   simp only[stC]at c1;repeat' first|(refine gS ?_;simp only[go_sem,c1,c2,c3])|refine gA ?_|(refine gD ?_ ?_<;>intro h<;>try exact aA h)|fail
   have he:=aCG hb hzl (by omega) hp
   simp only[kE]at he;exact he _
  ·have hg:oT x.g who=false:=by cases e:oT x.g who with
    |false=>rfl
    |true=>rw[e]at h;cases h
   have hcs:=b.ci.cs t (zAp ht);have hnx:=aOS false false false false y.m.log.nodes t hcs.path hcs.to (by have:=hby.ci.mi.nodes.len;omega)
   obtain⟨u,hu⟩:∃u,nextT y.m.log.nodes t=u:=⟨_,rfl⟩;rw[hu]at hnx;simp only[pE,vS,trA]at hnx;have hat:=aS7 (l:=y.ths) (by rw[hyt];exact ht)
   simp only[thr,AV.cells]at hat;have hln:=aU (enc:=thr) (s:=18) (fun _=>rfl) y.ths
   have hz1:((0:Int)≤(who:Int)∧(who:Int)<(y.ths.length:Int))=True:=zAC ⟨by omega,by rw[hyt];omega⟩
   have hz2:(who * 18+18≤y.ths.length * 18)=True:=zAC (by rw[hyt];omega)
   have r0:=hb.b1;have r1:=aG hb.b1 trivial;have r2:=hb.b2;have r7:=aG hb.b2 trivial;have r3:=hb.r3;have r4:=hb.r4;have r5:=hb.r5;have r6:=hb.r6;simp only[stC]at r0 r1 r5 r6;have qs:=qT hb.lt1 hb.lt2 hb.ne;repeat' first|((first|refine mx [10] nY ?_|refine mx [11] nZ ?_|refine gS ?_);simp only[go_sem,r0,r1,r2,r3,r4,r5,r6,r7,qs,aC,hat,hln,hz1,hz2])|refine gA ?_|(refine gD ?_ ?_<;>intro h<;>try exact aA h)|fail
   obtain⟨G1,hG1⟩:∃G1,aB G (H.length+2) (.cells 0 (stC (H.length+3) who u y))=G1:=⟨_,rfl⟩;have hb1:=aPD hb u;have hp1:∀k,k<H.length→hget G1 k=hget H k:=fun k hk=>by rw[←hp k hk,←hG1];simp only[hget,aB,zAh];rw[zAA (by omega)]
   have hz3:=aH hz (show ¬H.length+2=H.length+1 by omega) (.cells 0 (stC (H.length+3) who u y))
   rw[hG1]at hb1 hz3;simp only[stC]at hG1;rw[hG1];refine dX (aMo _) cO ?_;have q1:=aG hb1.b1 trivial;have q2:=hb1.b1;simp only[stC]at q1 q2;simp only[go_sem,q1,q2];have hb2:=hb1.app [.map gI 5];obtain⟨c,fid,k1,k2,k3⟩:=aPE hb2 hby hq (by rw[hyt];exact ht) he hu
   have hkin:keysIn (.int .i64) gI:=pB 5;have hgo:goC full who x=rT who t u y:=by
    unfold goC;rw[zAe (by rw[hg];decide),hy,zAh,ht,←hu,←hy]
    rfl
   have hzl:(rT who t u y).ths.length=y.ths.length:=by
    rw[←hu];exact(aUE hby.ci (by rw[hyt];exact ht) he).ths.1
   rw[hgo];obtain⟨z,hzz⟩:∃z,rT who t u y=z:=⟨_,rfl⟩;rw[hzz]at k3 hzl ⊢;have hz4:=aG hz3 trivial [.map gI 5];have hp2:∀k,k<H.length→hget (G1++[.map gI 5]) k=hget H k:=fun k hk=>by
    rw[←hp1 k hk];have:=hb1.lt1;simp only[hget,zAh];rw[zAt (by omega)]
   repeat' first|(refine gS ?_;simp only[go_sem,q1,q2,k1,hkin])|refine gA ?_|(refine gD ?_ ?_<;>intro h<;>try exact aA h)|fail
   refine aR k3 k2 ?_;rintro v H' ⟨rfl,rfl⟩;have c1:=(hb2.put z).b1;have c2:hget (lP (G1++[.map gI 5]) (H.length+2) (H.length+3) who u z) (H.length+1)=_:=(aH (aH hz4 (show ¬H.length+3=H.length+1 by omega) _) (show ¬H.length+2=H.length+1 by omega) _)
   have c3:=fun X=>aX (H:=lP (G1++[.map gI 5]) (H.length+2) (H.length+3) who u z) (i:=H.length+1) (by have:=hb2.lt1;rw[nX];omega) (ABlk.cells 0 X)
   simp only[stC]at c1;repeat' first|(refine gS ?_;simp only[go_sem,c1,c2,c3])|refine gA ?_|(refine gD ?_ ?_<;>intro h<;>try exact aA h)|fail
   have he:=aCG hb2 hzl (by omega) hp2
   simp only[kE]at he;exact he _
theorem aMq(x:Cor){l:List Int}{j:Nat}(h:j<l.length):aAf x (l.take (j+1))=jL (aAf x (l.take j)) l[j] false:=by
 unfold aAf;rw[zAk h,zBF];rfl
theorem aMr{q:Nat}(f:Bool)(x:Cor)(b:CB q x)(l:List Int)(hl:q+l.length≤100000)(H:AHeap):bH Tryz.prog 26 [eM x,.sl f (l.map bK)] H (eM (aAf x l)):=by
 refine fO Tryz.func26 ?_;repeat' first|(refine gS ?_;simp only[go_sem,eM,iN,kE])|refine gA ?_|(refine gD ?_ ?_<;>intro h<;>try exact aA h)|fail
 refine aI (ι:=Nat) (fun j=>[(2,.ref H.length 0 0),(4,.ref (H.length+1) 0 0),(7,.sl f (l.map bK)),(8,.int .i64 l.length),(9,.int .i64 j)]) (fun j=>H++[.cells 0 (eM (aAf x (l.take j))).cells,.cells 0 (iN true true true true true true true true true co0).cells])
  (fun j=>j≤l.length∧CB (q+j) (aAf x (l.take j))) (fun j=>l.length-j) 0 ⟨zAo _,b⟩ ?_ rfl ?_
 ·simp[go_sem]
 rintro j ⟨hj,hb⟩;obtain⟨y,hy⟩:∃y,aAf x (l.take j)=y:=⟨_,rfl⟩;rw[hy]at hb ⊢;by_cases hlt:j<l.length
 ·have hp:=aN bK hlt;have hli:decide ((j:Int)<(l.length:Int))=true:=dT;have hst:=wR y l[j] false hb (by omega)
  have hb2:=hb.step l[j] false;have e:=aMq x hlt;rw[hy]at e;rw[←e]at hst hb2;simp only[eM,iN,kE]at hst;repeat' first|(refine gS ?_;simp only[go_sem,hp,bK,hli,eM,iN,kE])|refine gA ?_|(refine gD ?_ ?_<;>intro h<;>try exact aA h)|fail
  exact⟨j+1,⟨hlt,hb2⟩,by omega,zAx _ (aS hlt (by omega)),rfl⟩
 ·have hje:j=l.length:=by omega
  subst hje;have hli:decide ((l.length:Int)<(l.length:Int))=false:=by simp
  rw[zAD]at hy;rw[hy];repeat' first|(refine gS ?_;simp only[go_sem,hli,eM,iN,kE])|refine gA ?_|(refine gD ?_ ?_<;>intro h<;>try exact aA h)|fail
  exact dY (.refl _)
end
section
structure Acn where
 start:Bool
 call:Cal
 pick:Int
 full:Bool
deriving DecidableEq,Inhabited
def qO(a:Acn):AV:=.agg [.bool a.start,.int .i64 a.call.kind,.str a.call.path,.str a.call.to,.str a.call.data,.int .i64 a.call.n,.int .i64 a.pick,.bool a.full]
@[go_sem] theorem aX4(x:Acn):Pur (qO x)=True:=by simp only[qO,go_sem]
def sQ(l:List Acn):Bool:=l.all (fun a=> !kB a.call)&&decide ((l.length:Int)≤200)
def doC(x:Cor)(a:Acn):Cor:=if a.start=true then(eC x a.call).1 else jL x a.pick a.full
theorem aBA{l:List Acn}(h:sQ l=true):(∀a∈l,CS a.call)∧l.length≤200:=by
 unfold sQ at h;simp only[zAu,zAF,zAJ,zA4]at h;exact⟨fun c hc=>aHz (h.1 c hc),by omega⟩
theorem CB.act{q:Nat}{x:Cor}(b:CB q x){a:Acn}(h:CS a.call):CB (q+1) (doC x a):=by
 unfold doC;split
 ·exact(b.start h).up (zBO q)
 ·exact b.step _ _
structure ActR (x y:Cor):Prop where
 len:x.ths.length≤y.ths.length
 ths:∀(i:Nat) t,x.ths[i]?=some t→∃t',y.ths[i]?=some t'∧Goes t t'
 kept:x.g.kept≤y.g.kept
 ops:x.ops<+:y.ops
theorem aHF{x:Cor}(c:CI x)(a:Acn):ActR x (doC x a):=by
 unfold doC;split
 ·unfold eC;split
  ·exact⟨zAf _,fun i t h=>⟨t,h,Goes.refl t⟩,zBY _,zBD _⟩
  ·refine⟨by simp,fun i t h=>⟨t,?_,Goes.refl t⟩,zBY _,zBD _⟩
   show(x.ths++_)[i]?=some t;rw[zAt (eT.1 h).1];exact h
 ·have h:=c.goes a.pick a.full;exact⟨by rw[h.ths.1];exact zAf _,h.ths.2,h.kept,h.ops⟩
theorem aGk{x:Cor}{a:Acn}(h:a.start=true)(i:Nat)(t:Thr)(ht:x.ths[i]?=some t):(doC x a).ths[i]?=some t:=by
 unfold doC;rw[zAl h];unfold eC;split
 ·exact ht
 ·show(x.ths++_)[i]?=some t;rw[zAt (eT.1 ht).1];exact ht
theorem wS(b1:Bool)(l:List Acn)(H:AHeap):bH Tryz.prog 11 [.sl b1 (l.map qO)] H (.bool (sQ l)):=by
 refine aAj fun hok=>?_
 have hl:=jQ hok;rw[zAn]at hl;refine fO Tryz.func11 ?_;repeat' first|(refine gS ?_;simp only[go_sem])|refine gA ?_|(refine gD ?_ ?_<;>intro h<;>try exact aA h)|fail
 refine aI (ι:=Nat) (fun i=>[(0,.sl b1 (l.map qO)),(3,.int .i64 i)]) (fun _=>H) (fun i=>i≤l.length∧∀a∈l.take i,kB a.call=false) (fun i=>l.length-i) 0 ⟨zAo _,by simp⟩ ?_ rfl ?_
 ·simp[go_sem]
 ·rintro i ⟨hi,he⟩;by_cases hlt:i<l.length
  ·have hp:=aN qO hlt;have hf:=aG7 true [l[i].call] 1;have hfe:qG [l[i].call] 1= !kB l[i].call:=by unfold qG;simp
   rw[hfe]at hf;simp only[zAw,zAZ,dS]at hf;have hli:decide ((i:Int)<(l.length:Int))=true:=dT;cases hlo:kB l[i].call with
   |true=>
    rw[hlo]at hf;repeat' first|(refine gS ?_;simp only[go_sem,hp,qO,hli])|refine gA ?_|(refine gD ?_ ?_<;>intro h<;>try exact aA h)|fail
    have:sQ l=false:=by
     unfold sQ;rw[Bool.and_eq_false_iff];left;rw[zB2];intro q;have q2:=zAJ.1 q l[i] (zAK _);rw[hlo]at q2;cases q2
    rw[this];exact cL (.refl _)
   |false=>
    rw[hlo]at hf;repeat' first|(refine gS ?_;simp only[go_sem,hp,qO,hli])|refine gA ?_|(refine gD ?_ ?_<;>intro h<;>try exact aA h)|fail
    refine⟨i+1,⟨hlt,fun x hx=>?_⟩,by omega,by rw[wI];rfl⟩
    rw[zAk hlt]at hx;rcases zAy.1 hx with hx|hx
    ·exact he x hx
    ·rw[zAq]at hx;subst hx;exact hlo
  ·have hie:i=l.length:=by omega
   subst hie;have hli:decide ((l.length:Int)<(l.length:Int))=false:=by simp
   repeat' first|(refine gS ?_;simp only[go_sem,hli])|refine gA ?_|(refine gD ?_ ?_<;>intro h<;>try exact aA h)|fail
   refine cL (.of (zAx AV.bool ?_));unfold sQ;rw[zAD]at he;have:l.all (fun a=> !kB a.call)=true:=zAJ.2 fun a ha=>by rw[he a ha];rfl
   rw[this,zAN]
theorem aBB{q:Nat}(x:Cor)(b:CB q x)(hq:q≤100000)(a:Acn)(H:AHeap):bH Tryz.prog 12 [eM x,qO a] H (eM (doC x a)):=by
 refine fO Tryz.func12 ?_;have hs:=sH false false false false false false false false false x a.call (by have:=b.ci.n;omega)
 have hp:=wR x a.pick a.full b hq;unfold doC;obtain⟨s,c,p,f⟩:=a;simp only at hs hp;cases s with
 |true=>
  rw[zAl rfl];simp only[eM,iN,kE,dS]at hs;repeat' first|(refine gS ?_;simp only[go_sem,qO,eM,iN,kE])|refine gA ?_|(refine gD ?_ ?_<;>intro h<;>try exact aA h)|fail
  exact dY (.refl _)
 |false=>
  rw[zAe (fun h=>by cases h)]
  simp only[eM,iN,kE]at hp;repeat' first|(refine gS ?_;simp only[go_sem,qO,eM,iN,kE])|refine gA ?_|(refine gD ?_ ?_<;>intro h<;>try exact aA h)|fail
  exact dY (.refl _)
theorem aPF(b:Bool)(l:List Int)(k:Int)(H:AHeap):bH Tryz.prog 25 [.sl b (l.map bK),.int .i64 k] H (.bool (decide (k∈l))):=by
 refine fP fun hok _=>?_
 have hl:=jQ hok;rw[zAn]at hl;refine fO Tryz.func25 ?_;repeat' first|(refine gS ?_;simp only[go_sem])|refine gA ?_|(refine gD ?_ ?_<;>intro h<;>try exact aA h)|fail
 refine aI (ι:=Nat) (fun i=>[(0,.sl b (l.map bK)),(1,.int .i64 k),(5,.int .i64 i)]) (fun _=>H) (fun i=>i≤l.length∧∀x∈l.take i,x≠k) (fun i=>l.length-i) 0 ⟨zAo _,by simp⟩ ?_ rfl ?_
 ·simp[go_sem]
 ·rintro i ⟨hi,he⟩;by_cases hlt:i<l.length
  ·have hp:=aN bK hlt;have hli:decide ((i:Int)<(l.length:Int))=true:=dT;by_cases hk:l[i]=k
   ·have hd:decide (l[i]=k)=true:=zAj hk;have hm:decide (k∈l)=true:=zAj (hk▸zAK hlt);repeat' first|(refine gS ?_;simp only[go_sem,hp,bK,hli,hd])|refine gA ?_|(refine gD ?_ ?_<;>intro h<;>try exact aA h)|fail
    rw[hm];exact cL (.refl _)
   ·have hd:decide (l[i]=k)=false:=zAg hk;repeat' first|(refine gS ?_;simp only[go_sem,hp,bK,hli,hd])|refine gA ?_|(refine gD ?_ ?_<;>intro h<;>try exact aA h)|fail
    refine⟨i+1,⟨hlt,fun x hx=>?_⟩,by omega,by rw[wI];rfl⟩
    rw[zAk hlt]at hx;rcases zAy.1 hx with hx|hx
    ·exact he x hx
    ·rw[zAq]at hx;subst hx;exact hk
  ·have hie:i=l.length:=by omega
   subst hie;have hli:decide ((l.length:Int)<(l.length:Int))=false:=by simp
   repeat' first|(refine gS ?_;simp only[go_sem,hli])|refine gA ?_|(refine gD ?_ ?_<;>intro h<;>try exact aA h)|fail
   rw[zAD]at he;have hm:decide (k∈l)=false:=zAg fun h=>he k h rfl
   rw[hm];exact cL (.refl _)
theorem aPG(b1 b2:Bool)(l m:List Int)(H:AHeap):bH Tryz.prog 27 [.sl b1 (l.map bK),.sl b2 (m.map bK)] H (.bool (decide (l=m))):=by
 refine fO Tryz.func27 ?_;have hn:=aGP b1 b2 l m;repeat' first|(refine gS ?_;simp only[go_sem])|refine gA ?_|(refine gD ?_ ?_<;>intro h<;>try exact aA h)|fail
 exact cL (.refl _)
end
section
open Go.ChangeShapes Go.WideShapes Go.ChangeAt Go.RowKit
theorem aWe:eP Tryz.prog 50=true:=by kernel_rfl
theorem aS8:kindB Tryz.prog 50=true:=by kernel_rfl
theorem aS9:eP Tryz.prog 22=false:=by kernel_rfl
theorem aPH:kindB Tryz.prog 22=true:=by kernel_rfl
theorem aMs{ys:List AV}(h:Sh Tryz.prog 50 ys):∃a:Acn,ys=(qO a).cells:=by
 obtain⟨y1,ys1,rfl,h1,r1⟩:=jS (aB7 Tryz.underlying50 aS8 h);obtain⟨y2,ys2,rfl,h2,r2⟩:=jS r1;obtain⟨y3,ys3,rfl,h3,r3⟩:=jS r2;obtain⟨y4,ys4,rfl,h4,r4⟩:=jS r3;obtain rfl:=aGI r4;obtain⟨s,rfl⟩:=aGH Tryz.underlying4 h1;obtain⟨c,rfl⟩:=aEa h2;obtain⟨p,rfl,_⟩:=aAU Tryz.underlying3 h3;obtain⟨f,rfl⟩:=aGH Tryz.underlying4 h4;exact⟨⟨s,c,p,f⟩,rfl⟩
theorem aPI{zs:List (List AV)}(h:∀z∈zs,Sh Tryz.prog 50 z):∃l:List Acn,zs.map (mkA Tryz.prog 50)=l.map qO∧l.length=zs.length:=by
 induction zs with
 |nil=>exact⟨[],rfl,rfl⟩
 |cons z zs ih=>
  obtain⟨p,rfl⟩:=aMs (h z (by simp))
  obtain⟨l,h1,h2⟩:=ih fun z hz=>h z (by simp[hz])
  refine⟨p::l,?_,by simp[h2]⟩
  rw[zAw,zAw,h1,mkA,zAl aWe];rfl
theorem wT{x:AV}(h:∃ys,x=mkA Tryz.prog 22 ys∧Sh Tryz.prog 22 ys∧(eP Tryz.prog 22=true∨ys.length=1)):∃l:List Acn,x=.sl false (l.map qO)∧l.length≤maxLen:=by
 obtain⟨ys,rfl,h,_⟩:=h;obtain⟨zs,rfl,hl,hz⟩:=aAV Tryz.underlying22 aPH h;obtain⟨l,h1,h2⟩:=aPI hz;refine⟨l,?_,by rw[h2];exact hl⟩
 rw[mkA,zAe (by rw[aS9];decide),h1];rfl
end
section
def awK(k:Int)(p:Txt):Cal:=⟨k,p,[],[],0⟩
def aI1:Cor:=(tP 1).1
def aI2:Cor:=(eC aI1 (awK 2 [47,97])).1
def aI3:Cor:=(eC aI2 (awK 12 [])).1
def aI4:Cor:=(eC aI3 (awK 12 [])).1
def uT:Cor:=aAf aI4 [0,0,0,0]
def wU:Cor:=aAf uT [0,0,1,1]
def aMt:Cor:=jL wU 0 false
def aDr:Cor:=jL wU 0 true
theorem aHG:tP 1=(aI1,0)∧tP 64=(co0,20)∧eC aI1 (awK 2 [47,97])=(aI2,0,0)∧eC aI2 (awK 12 [])=(aI3,1,0)∧eC aI3 (awK 12 [])=(aI4,2,0):=by decide+kernel
theorem aWf:uT.ths.length=3∧(uT.ths.getD 0 (th0 ca0)).ended=true∧(uT.ths.getD 0 (th0 ca0)).ans.err=0∧(uT.ths.getD 0 (th0 ca0)).mark=5∧(uT.ths.getD 0 (th0 ca0)).end_=7∧uT.ops.length=1:=by decide+kernel
theorem aWg:cW wU=[1]∧kY wU 0=some 1∧oT wU.g 1=true∧doneC aMt=true∧aMt.g.kept=1:=by decide+kernel
theorem aWh:aDr.ths.length=3∧(aDr.ths.getD 1 (th0 ca0)).ans.err=120∧doneC aDr=false:=by decide+kernel
theorem aGl(k:Int)(p:Txt)(h:p.length≤10):CS (awK k p):=⟨by show p.length≤_;omega,by simp[awK],by simp[awK]⟩
theorem CB.run{q:Nat}:∀(l:List Int) {q:Nat} {x:Cor},CB q x→CB (q+l.length) (aAf x l)
 |[],_,_,b=>b
 |p::l,q,x,b=>by
  have:=CB.run (q:=q) l (b.step p false);rw[zAc,Nat.add_comm l.length,←zCd];exact this
theorem aWi:CB 0 aI1∧CB 0 aI2∧CB 0 aI3∧CB 0 aI4∧CB 4 uT∧CB 8 wU:=by
 have h0:=uS aHG.1;have h1:=h0.start (aGl 2 [47,97] (by decide))
 have h2:=h1.start (aGl 12 [] (by decide))
 have h3:=h2.start (aGl 12 [] (by decide))
 have h4:=CB.run (q:=0) [0,0,0,0] h3;exact⟨h0,h1,h2,h3,h4,CB.run (q:=0) [0,0,1,1] h4⟩
theorem mB(H:AHeap):bH Tryz.prog 9 [] H (.bool true):=by
 refine fO Tryz.func9 ?_;obtain⟨n1,n2,n3,n4,n5⟩:=aHG;obtain⟨b0,b1,b2,b3,b4,b5⟩:=aWi;obtain⟨x1,x2,x3,x4,x5,x6⟩:=aWf;obtain⟨y1,y2,y3,y4,y5⟩:=aWg;obtain⟨z1,z2,z3⟩:=aWh;have h0:=sG 1;have h1:=sG 64;have h2:=sH false false false false false false false false false aI1 (awK 2 [47,97]) (by have:=b0.ci.n;omega)
 have h3:=sH false false false false false false false false false aI2 (awK 12 []) (by have:=b1.ci.n;omega)
 have h4:=sH false false false false false false false false false aI3 (awK 12 []) (by have:=b2.ci.n;omega)
 rw[n1]at h0;rw[n2]at h1;rw[n3]at h2;rw[n4]at h3;rw[n5]at h4;have h5:=aMr true aI4 b3 [0,0,0,0] (by decide)
 have h6:=aMr true uT b4 [0,0,1,1] (by decide)
 have e5:aAf aI4 [0,0,0,0]=uT:=rfl;have e6:aAf uT [0,0,1,1]=wU:=rfl;rw[e5]at h5;rw[e6]at h6;have h7:=aF7 false false false false false false false false false wU (by have:=b5.ci.n;omega)
 have h8:=aAy false false false false false false false false false wU 0 (by have:=b5.ci.n;omega)
 unfold uA at h8;rw[y2]at h8;rw[y1]at h7;have h9:=wR wU 0 false b5 (by decide)
 have h10:=wR wU 0 true b5 (by decide)
 have e9:jL wU 0 false=aMt:=rfl;have e10:jL wU 0 true=aDr:=rfl;rw[e9]at h9;rw[e10]at h10;have h11:=aAw false false false false false false false false false aMt;have h12:=aAw false false false false false false false false false aDr;rw[y4]at h11;rw[z3]at h12;have h13:=aPG false true [1] [1];have g0:=aN thr (show 0<uT.ths.length by omega)
 have g1:=aN thr (show 1<aDr.ths.length by omega)
 obtain⟨t0,ht0⟩:∃t,uT.ths.getD 0 (th0 ca0)=t:=⟨_,rfl⟩;obtain⟨t1,ht1⟩:∃t,aDr.ths.getD 1 (th0 ca0)=t:=⟨_,rfl⟩;have k0:uT.ths[0]'(by omega)=t0:=by rw[←ht0,zAh,zAb (by omega)];rfl
 have k1:aDr.ths[1]'(by omega)=t1:=by rw[←ht1,zAh,zAb (by omega)];rfl
 rw[k0]at g0;rw[k1]at g1;rw[ht0]at x2 x3 x4 x5;rw[ht1]at z2;simp only[thr,x2,x3,x4,x5]at g0;simp only[thr,z2]at g1;clear k0 k1 ht0 ht1 e5 e6 e9 e10 b0 b1 b2 b3 b4 b5 n1 n2 n3 n4 n5;generalize aI1=a0 at *;generalize aI2=a1 at *;generalize aI3=a2 at *;generalize aI4=a3 at *;generalize uT=a4 at *;generalize wU=a5 at *;generalize aMt=a6 at *;generalize aDr=a7 at *;have hc1:((1:Nat):Int)=1:=rfl;simp only[eM,iN,kE,dS,awK,zAw,zAZ,bK,hc1,y3,y5]at h0 h1 h2 h3 h4 h5 h6 h7 h8 h9 h10 h11 h12 h13;repeat' first|(refine gS ?_;simp only[go_sem,iN,kE,x1,z1,g0,g1,x6,y5])|refine gA ?_|(refine gD ?_ ?_<;>intro h<;>try exact aA h)|fail
 exact dY (.of (zAx AV.bool (by first|decide|simp)))
end
end Go.Proofs.YtennnelammaapaaGreatDoor
