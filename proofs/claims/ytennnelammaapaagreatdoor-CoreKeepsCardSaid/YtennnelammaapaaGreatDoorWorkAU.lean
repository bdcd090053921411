/- What the functions of this seat answer (21 of 38). No condition. -/
import Derived.Test.YtennnelammaapaaGreatDoorWorkAT
set_option linter.unusedSimpArgs false
set_option linter.unusedVariables false
set_option linter.unusedSectionVars false
set_option maxRecDepth 100000
set_option maxHeartbeats 16000000
namespace Go.Proofs.YtennnelammaapaaGreatDoor
section
def nR:List Pl:=[.pure 0,.pure 0,.pure 0,.free,.pure 0,.pure 0,.eff [false,false,false,false,false]]
attribute [go_sem] nR
theorem aOR(s y:AV)(f1 f2 f3:Bool)(t:Thr)(H:AHeap):bH Tryz.prog 264 [.agg [],s,pE f1 f2 f3 t] H (trA ⟨3,0⟩):=by
 refine fO Tryz.func264 ?_;unfold pE vS;repeat' first|(refine gS ?_;simp only[go_sem])|refine gA ?_|(refine gD ?_ ?_<;>intro h<;>try exact aA h)|fail
 exact dY (.refl _)
theorem aLx(b f1 f2 f3:Bool)(l:List Nd)(t:Thr)(hp:t.call.path.length≤1048576)(ht:t.call.to.length≤1048576)(hl:l.length≤1073741824)(H:AHeap):
  bH Tryz.prog 263 [dS t.call,.sl b (l.map ndA),pE f1 f2 f3 t] H (trA (turnN t.has (locksT l t.call))):=by
 refine fO Tryz.func263 ?_;have hlc:=aHj b l t.call hp ht hl;obtain⟨ks,hks⟩:∃ks,locksT l t.call=ks:=⟨_,rfl⟩;rw[hks]at hlc ⊢;have hkl:ks.length≤1000:=by
  rw[←hks];have:=qB l t.call;omega
 unfold pE vS;simp only[dS]at hlc ⊢;repeat' first|(refine gS ?_;simp only[go_sem])|refine gA ?_|(refine gD ?_ ?_<;>intro h<;>try exact aA h)|fail
 refine aI (ι:=Nat) (fun k=>[(5,.ref (H.length+1) 0 0),(6,.ref (H.length+2) 0 0),(11,.sl false (ks.map bK)),(12,.int .i64 ks.length),(13,.int .i64 k)]) (fun _=>H++[.cells 0 (dS t.call).cells,.cells 0 (pE f1 f2 f3 t).cells,.cells 0 [.int .i64 0,.int .i64 0]]) (fun k=>k≤ks.length∧turnN t.has ks=turnN t.has (ks.drop k)) (fun k=>ks.length-k) 0 ⟨zAo _,rfl⟩ ?_ rfl ?_
 ·simp[go_sem]
 ·rintro k ⟨hk,he⟩;by_cases hlt:k<ks.length
  ·have hg:=aN bK hlt;have hli:decide ((k:Int)<(ks.length:Int))=true:=dT;have hw:IntKind.i64.wrap ((k:Int)+1)=((k+1:Nat):Int):=by rw[wI];omega
   have hc:=vO f1 t.has ks[k];rw[aHi]at hc;rw[zAi hlt]at he;cases hh:t.has.contains ks[k]with
   |true=>
    rw[aFu hh]at he;rw[hh]at hc;repeat' first|(refine gS ?_;simp only[go_sem,hg,hli,dS,pE,vS,bK])|refine gA ?_|(refine gD ?_ ?_<;>intro h<;>try exact aA h)|fail
    first
     |exact⟨k+1,⟨hlt,he⟩,by omega,zAx _ hw⟩
     |exact⟨k+1,⟨hlt,he⟩,by omega,zAx _ hw,rfl⟩
   |false=>
    rw[aBc hh]at he;rw[hh]at hc;rw[he];repeat' first|(refine gS ?_;simp only[go_sem,hg,hli,dS,pE,vS,bK])|refine gA ?_|(refine gD ?_ ?_<;>intro h<;>try exact aA h)|fail
    exact dY (.refl _)
  ·have hke:k=ks.length:=by omega
   subst hke;have hli:decide ((ks.length:Int)<(ks.length:Int))=false:=by simp
   rw[zBp]at he;rw[he];repeat' first|(refine gS ?_;simp only[go_sem,hli,dS,pE,vS])|refine gA ?_|(refine gD ?_ ?_<;>intro h<;>try exact aA h)|fail
   exact dY (.refl _)
theorem aLy(b f1 f2 f3 f4:Bool)(l:List Nd)(names:List Txt)(t:Thr)(hl:l.length≤1073741824)(hn:names.length≤16)(H:AHeap):
  bH Tryz.prog 265 [.agg [.sl f4 (names.map AV.str)],.sl b (l.map ndA),pE f1 f2 f3 t] H (trA (vT l names t)):=by
 refine fO Tryz.func265 ?_;unfold pE vS;rcases hh:t.has with _|⟨here,_|⟨h2,hs⟩⟩
 ·rw[vT,hh];simp only[zAZ];repeat' first|(refine gS ?_;simp only[go_sem])|refine gA ?_|(refine gD ?_ ?_<;>intro h<;>try exact aA h)|fail
  exact dY (.refl _)
 ·have e1:decide (((1:Nat):Int)=0)=false:=rfl;have e2:((0:Int)<((1:Nat):Int))=True:=zAC (by omega)
  have e3:decide ((1:Int)<((1:Nat):Int))=false:=rfl;have hf:=vP b f4 l names hl;obtain⟨⟨d,e⟩,hde⟩:∃r,findN l names=r:=⟨_,rfl⟩;rw[vT,hh];simp only[hde]at hf ⊢;simp only[aA6]at hf;have hdir:=aA0 d;simp only[zAw,zAZ];by_cases h0:0≤t.at_
  ·have hz0:decide (0≤t.at_)=true:=zAj h0;rw[zAl h0];by_cases hlt:t.at_.toNat<names.length
   ·have hz1:decide (t.at_<(names.length:Int))=true:=dT;have hix:(0≤t.at_∧t.at_<(names.length:Int))=True:=zAC ⟨h0,by omega⟩
    have hg:=aN AV.str hlt;rw[zAb hlt];simp only[zA6];have hch:=aGX b l here names[t.at_.toNat] hl;cases hc:childN l here names[t.at_.toNat]with
    |none=>
     rw[hc]at hch;simp only[aA5,zCF,zCw,zB4]at hch ⊢;by_cases he0:e=0
     ·subst he0;cases hdd:dirI d with
      |false=>
       rw[hdd]at hdir;rw[zAe (by rintro⟨_,h,_⟩;cases h)]
       repeat' first|(refine gS ?_;simp only[go_sem,e1,e2,e3,bK,hz0,hz1,hix,hg,zA7])|refine gA ?_|(refine gD ?_ ?_<;>intro h<;>try exact aA h)|fail
       exact dY (.refl _)
      |true=>
       rw[hdd]at hdir;by_cases hdh:d=here
       ·rw[zAe (fun h=>h.2.2 hdh)]
        have hz:decide (d=here)=true:=zAj hdh;repeat' first|(refine gS ?_;simp only[go_sem,e1,e2,e3,bK,hz0,hz1,hix,hg,hz,zA7])|refine gA ?_|(refine gD ?_ ?_<;>intro h<;>try exact aA h)|fail
        exact dY (.refl _)
       ·rw[zAl ⟨rfl,rfl,hdh⟩];have hz:decide (d=here)=false:=zAg hdh;repeat' first|(refine gS ?_;simp only[go_sem,e1,e2,e3,bK,hz0,hz1,hix,hg,hz,zA7])|refine gA ?_|(refine gD ?_ ?_<;>intro h<;>try exact aA h)|fail
        exact dY (.refl _)
     ·rw[zAe (fun h=>he0 h.1)]
      have hez:decide (e=0)=false:=zAg he0;repeat' first|(refine gS ?_;simp only[go_sem,e1,e2,e3,bK,hz0,hz1,hix,hg,hez])|refine gA ?_|(refine gD ?_ ?_<;>intro h<;>try exact aA h)|fail
      exact dY (.refl _)
    |some n=>
     rw[hc]at hch;have hdn:=aA0 n.id;simp only[aA5,zCm,zBh,zBW]at hch ⊢;cases hdi:dirI n.id with
     |true=>
      rw[hdi]at hdn;rw[zAl rfl];repeat' first|(refine gS ?_;simp only[go_sem,e1,e2,e3,bK,hz0,hz1,hix,hg])|refine gA ?_|(refine gD ?_ ?_<;>intro h<;>try exact aA h)|fail
      exact dY (.refl _)
     |false=>
      rw[hdi]at hdn;rw[zAe (fun h=>by cases h)]
      by_cases he0:e=0
      ·subst he0;cases hdd:dirI d with
       |false=>
        rw[hdd]at hdir;rw[zAe (by rintro⟨_,h,_⟩;cases h)]
        repeat' first|(refine gS ?_;simp only[go_sem,e1,e2,e3,bK,hz0,hz1,hix,hg,zA7])|refine gA ?_|(refine gD ?_ ?_<;>intro h<;>try exact aA h)|fail
        exact dY (.refl _)
       |true=>
        rw[hdd]at hdir;by_cases hdh:d=here
        ·rw[zAe (fun h=>h.2.2 hdh)]
         have hz:decide (d=here)=true:=zAj hdh;repeat' first|(refine gS ?_;simp only[go_sem,e1,e2,e3,bK,hz0,hz1,hix,hg,hz,zA7])|refine gA ?_|(refine gD ?_ ?_<;>intro h<;>try exact aA h)|fail
         exact dY (.refl _)
        ·rw[zAl ⟨rfl,rfl,hdh⟩];have hz:decide (d=here)=false:=zAg hdh;repeat' first|(refine gS ?_;simp only[go_sem,e1,e2,e3,bK,hz0,hz1,hix,hg,hz,zA7])|refine gA ?_|(refine gD ?_ ?_<;>intro h<;>try exact aA h)|fail
         exact dY (.refl _)
      ·rw[zAe (fun h=>he0 h.1)]
       have hez:decide (e=0)=false:=zAg he0;repeat' first|(refine gS ?_;simp only[go_sem,e1,e2,e3,bK,hz0,hz1,hix,hg,hez])|refine gA ?_|(refine gD ?_ ?_<;>intro h<;>try exact aA h)|fail
       exact dY (.refl _)
   ·have hz1:decide (t.at_<(names.length:Int))=false:=dF;rw[zBt (by omega)]
    simp only[Option.bind_none];by_cases he0:e=0
    ·subst he0;cases hdd:dirI d with
     |false=>
      rw[hdd]at hdir;rw[zAe (by rintro⟨_,h,_⟩;cases h)]
      repeat' first|(refine gS ?_;simp only[go_sem,e1,e2,e3,bK,hz0,hz1,zA7])|refine gA ?_|(refine gD ?_ ?_<;>intro h<;>try exact aA h)|fail
      exact dY (.refl _)
     |true=>
      rw[hdd]at hdir;by_cases hdh:d=here
      ·rw[zAe (fun h=>h.2.2 hdh)]
       have hz:decide (d=here)=true:=zAj hdh;repeat' first|(refine gS ?_;simp only[go_sem,e1,e2,e3,bK,hz0,hz1,hz,zA7])|refine gA ?_|(refine gD ?_ ?_<;>intro h<;>try exact aA h)|fail
       exact dY (.refl _)
      ·rw[zAl ⟨rfl,rfl,hdh⟩];have hz:decide (d=here)=false:=zAg hdh;repeat' first|(refine gS ?_;simp only[go_sem,e1,e2,e3,bK,hz0,hz1,hz,zA7])|refine gA ?_|(refine gD ?_ ?_<;>intro h<;>try exact aA h)|fail
       exact dY (.refl _)
    ·rw[zAe (fun h=>he0 h.1)]
     have hez:decide (e=0)=false:=zAg he0;repeat' first|(refine gS ?_;simp only[go_sem,e1,e2,e3,bK,hz0,hz1,hez])|refine gA ?_|(refine gD ?_ ?_<;>intro h<;>try exact aA h)|fail
     exact dY (.refl _)
  ·have hz0:decide (0≤t.at_)=false:=zAg h0;rw[zAe h0];simp only[Option.bind_none];by_cases he0:e=0
   ·subst he0;cases hdd:dirI d with
    |false=>
     rw[hdd]at hdir;rw[zAe (by rintro⟨_,h,_⟩;cases h)]
     repeat' first|(refine gS ?_;simp only[go_sem,e1,e2,e3,bK,hz0,zA7])|refine gA ?_|(refine gD ?_ ?_<;>intro h<;>try exact aA h)|fail
     exact dY (.refl _)
    |true=>
     rw[hdd]at hdir;by_cases hdh:d=here
     ·rw[zAe (fun h=>h.2.2 hdh)]
      have hz:decide (d=here)=true:=zAj hdh;repeat' first|(refine gS ?_;simp only[go_sem,e1,e2,e3,bK,hz0,hz,zA7])|refine gA ?_|(refine gD ?_ ?_<;>intro h<;>try exact aA h)|fail
      exact dY (.refl _)
     ·rw[zAl ⟨rfl,rfl,hdh⟩];have hz:decide (d=here)=false:=zAg hdh;repeat' first|(refine gS ?_;simp only[go_sem,e1,e2,e3,bK,hz0,hz,zA7])|refine gA ?_|(refine gD ?_ ?_<;>intro h<;>try exact aA h)|fail
      exact dY (.refl _)
   ·rw[zAe (fun h=>he0 h.1)]
    have hez:decide (e=0)=false:=zAg he0;repeat' first|(refine gS ?_;simp only[go_sem,e1,e2,e3,bK,hz0,hez])|refine gA ?_|(refine gD ?_ ?_<;>intro h<;>try exact aA h)|fail
    exact dY (.refl _)
 ·rw[vT,hh];have e1:decide (((hs.length+2:Nat):Int)=0)=false:=dF;have e2:((0:Int)<((hs.length+2:Nat):Int))=True:=zAC (by omega)
  have e3:decide ((1:Int)<((hs.length+2:Nat):Int))=true:=dT;simp only[zAw];repeat' first|(refine gS ?_;simp only[go_sem,e1,e2,e3,bK])|refine gA ?_|(refine gD ?_ ?_<;>intro h<;>try exact aA h)|fail
  exact dY (.refl _)
theorem aOS(b f1 f2 f3:Bool)(l:List Nd)(t:Thr)(hp:t.call.path.length≤1048576)(ht:t.call.to.length≤1048576)(hl:l.length≤1073741824)(H:AHeap):
  bH Tryz.prog 35 [.sl b (l.map ndA),pE f1 f2 f3 t] H (trA (nextT l t)):=by
 refine fO Tryz.func35 ?_;unfold pE vS;unfold nextT;cases hen:t.ended with
 |true=>
  rw[zAl rfl];repeat' first|(refine gS ?_;simp only[go_sem])|refine gA ?_|(refine gD ?_ ?_<;>intro h<;>try exact aA h)|fail
  exact dY (.refl _)
 |false=>
  rw[zAe (fun h=>by cases h)]
  cases hdo:t.done with
  |true=>
   rw[zAl rfl];cases hha:t.has with
   |nil=>
    simp only[zAZ];by_cases hk:t.call.kind=12
    ·have e1:decide (t.call.kind=12)=true:=zAj hk;rw[zAl hk];repeat' first|(refine gS ?_;simp only[go_sem,e1])|refine gA ?_|(refine gD ?_ ?_<;>intro h<;>try exact aA h)|fail
     exact dY (.refl _)
    ·have e1:decide (t.call.kind=12)=false:=zAg hk;rw[zAe hk];repeat' first|(refine gS ?_;simp only[go_sem,e1])|refine gA ?_|(refine gD ?_ ?_<;>intro h<;>try exact aA h)|fail
     exact dY (.refl _)
   |cons k ks=>
    have e2:((0:Int)<((ks.length+1:Nat):Int))=True:=zAC (by omega)
    have e3:decide ((0:Int)<((ks.length+1:Nat):Int))=true:=dT;simp only[zAw];repeat' first|(refine gS ?_;simp only[go_sem,e2,e3,bK])|refine gA ?_|(refine gD ?_ ?_<;>intro h<;>try exact aA h)|fail
    exact dY (.refl _)
  |false=>
   rw[zAe (fun h=>by cases h)]
   have hw:=aG4 t.call hp;unfold aEj at hw;cases htu:turnsK t.call with
   |true=>
    rw[htu,zAl rfl]at hw;rw[zAl rfl];simp only[dS]at hw;have hn:=fun H=>aLx b f1 f2 f3 l t hp ht hl H
    unfold pE vS at hn;simp only[dS,hen,hdo,trA]at hn;repeat' first|((first|refine bU (hn _) (cO) ?_|refine bV (fun _=>hn _) (cO) ?_|refine bW (fun _=>hn _) (cO) ?_|refine mx [9] nR ?_|refine gS ?_);simp only[go_sem,trA])|refine gA ?_|(refine gD ?_ ?_<;>intro h<;>try exact aA h)|fail
    exact dY (.refl _)
   |false=>
    rw[htu,zAe (fun h=>by cases h)]at hw
    rw[zAe (fun h=>by cases h)]
    cases hwa:walksK t.call with
    |true=>
     rw[hwa,zAl rfl]at hw;rw[zAl rfl];simp only[dS]at hw;have hn:=fun H=>aLy b f1 f2 f3 false l (wnames t.call) t hl (pZ _) H
     unfold pE vS at hn;simp only[dS,hen,hdo,trA]at hn;repeat' first|((first|refine bU (hn _) (cO) ?_|refine bV (fun _=>hn _) (cO) ?_|refine bW (fun _=>hn _) (cO) ?_|refine mx [9] nR ?_|refine gS ?_);simp only[go_sem,trA])|refine gA ?_|(refine gD ?_ ?_<;>intro h<;>try exact aA h)|fail
     exact dY (.refl _)
    |false=>
     rw[hwa,zAe (fun h=>by cases h)]at hw
     rw[zAe (fun h=>by cases h)]
     simp only[dS]at hw;have hn:=fun H=>aOR (.sl b (l.map ndA)) .top f1 f2 f3 t H
     unfold pE vS at hn;simp only[dS,hen,hdo,trA]at hn;repeat' first|((first|refine bU (hn _) (cO) ?_|refine bV (fun _=>hn _) (cO) ?_|refine bW (fun _=>hn _) (cO) ?_|refine mx [9] nR ?_|refine gS ?_);simp only[go_sem,trA])|refine gA ?_|(refine gD ?_ ?_<;>intro h<;>try exact aA h)|fail
     exact dY (.refl _)
end
section
theorem aCz{H L:AHeap}{v:AV}(hp:Pur v)(R:AV→AHeap→Prop)(hR:R v H):
  ∃H1 M y,H++L=H1++M∧H1.length=H.length∧(∀(j:Nat) (c:ABlk),H1[j]?=some c→H[j]?=some c∨ClB H.length c)∧Frz H.length (H++L) v y∧R y H1:=
 ⟨H,L,v,rfl,rfl,fun _ _ h=>.inl h,.cl _ (hp.cl _),hR⟩
section
variable {lt:gJ→gJ→Bool} {c:gJ→gJ→Int} {fn:Fn} {fs cs:List AV}
def mU(s:Int):ABlk:=.cells 0 [.int .i64 s]
theorem aDg(n:Nat)(s:Int):ClB n (mU s):=fun x hx=>by simp at hx;subst hx;exact .int _ _
theorem aF1(hf:vX Tryz.prog (.func fn fs cs) c){d:Array gJ}{a b n lc blk v i:Nat}{s:Int}(hn:n=d.size)(ha:a<n)(hb:b<n)(H:AHeap)(hh:hget H blk=.cells v (dC d))(hi:hget H i=mU s):
  ACalls Tryz.prog 247 [.osl 1 blk v 0 n lc,.int .i64 a,.int .i64 b,.ref i 0 0,.func fn fs cs] H
   (fun r H'=>∃(x y:Nat) (s':Int),(x=a∧y=b∨x=b∧y=a)∧r=.tup [.int .i64 x,.int .i64 y]∧H'=aB H i (mU s')):=by
 refine aO Tryz.func247 ?_;have ga:=bI (d:=d) (show a<d.size by omega)
 have gb:=bI (d:=d) (show b<d.size by omega)
 unfold mU at hi;repeat' first|(refine gS ?_;simp only[go_sem,hh,hi,ga,gb,zAB,bR,←hn])|refine gA ?_|(refine gD ?_ ?_<;>intro h<;>try exact aA h)|fail
 refine cG hf ?_;simp only[go_sem];repeat' first|(refine gS ?_;simp only[go_sem,hh,hi])|refine gA ?_|(refine gD ?_ ?_<;>intro h<;>try exact aA h)|fail
 ·exact iA (aDg _ _) (by simp only[go_sem]) _ ⟨b,a,_,.inr ⟨rfl,rfl⟩,rfl,rfl⟩
 ·have:=iA (H:=H) (i:=i) (v:=.tup [.int .i64 a,.int .i64 b]) (aDg _ s) (by simp only[go_sem]) (fun r H'=>∃(x y:Nat) (s':Int),(x=a∧y=b∨x=b∧y=a)∧r=.tup [.int .i64 x,.int .i64 y]∧H'=aB H i (mU s')) ⟨a,b,s,.inl ⟨rfl,rfl⟩,rfl,rfl⟩
  rw[show aB H i (mU s)=H from nI hi trivial]at this
  exact this
theorem aF2(hf:vX Tryz.prog (.func fn fs cs) c){d:Array gJ}{a b e n lc blk v i:Nat}{s:Int}(hn:n=d.size)(ha:a<n)(hb:b<n)(he:e<n)(H:AHeap)(hh:hget H blk=.cells v (dC d))(hi:hget H i=mU s)(hne:i≠blk):
  ACalls Tryz.prog 246 [.osl 1 blk v 0 n lc,.int .i64 a,.int .i64 b,.int .i64 e,.ref i 0 0,.func fn fs cs] H
   (fun r H'=>∃(x:Nat) (s':Int),(x=a∨x=b∨x=e)∧r=.int .i64 x∧H'=aB H i (mU s')):=by
 refine aO Tryz.func246 ?_;have g1:=fun b=>aH hh hne b
 have g2:=fun b=>jY hi trivial b
 have g3:=gX H i;repeat' first|(refine gS ?_;simp only[go_sem])|refine gA ?_|(refine gD ?_ ?_<;>intro h<;>try exact aA h)|fail
 refine aR (aF1 hf hn ha hb _ hh hi) (cO) ?_;rintro r H' ⟨x1,y1,s1,h1,rfl,rfl⟩;simp only[go_sem];repeat' first|(refine gS ?_;simp only[go_sem])|refine gA ?_|(refine gD ?_ ?_<;>intro h<;>try exact aA h)|fail
 refine aR (aF1 hf hn (a:=y1) (b:=e) (by omega) he _ (g1 _) (g2 _)) (cO) ?_
 rintro r H' ⟨x2,y2,s2,h2,rfl,rfl⟩;simp only[go_sem,g3];repeat' first|(refine gS ?_;simp only[go_sem])|refine gA ?_|(refine gD ?_ ?_<;>intro h<;>try exact aA h)|fail
 refine aR (aF1 hf hn (a:=x1) (b:=x2) (by omega) (by omega) _ (g1 _) (g2 _)) (cO) ?_
 rintro r H' ⟨x3,y3,s3,h3,rfl,rfl⟩;simp only[go_sem,g3];repeat' first|(refine gS ?_;simp only[go_sem])|refine gA ?_|(refine gD ?_ ?_<;>intro h<;>try exact aA h)|fail
 exact iA (aDg _ _) (.int _ _) _ ⟨y3,s3,by omega,rfl,rfl⟩
theorem aDh(hf:vX Tryz.prog (.func fn fs cs) c){d:Array gJ}{a n lc blk v i:Nat}{s:Int}(hn:n=d.size)(hl:n≤1073741824)(ha:1≤a)(ha2:a+1<n)(H:AHeap)(hh:hget H blk=.cells v (dC d))(hi:hget H i=mU s)(hne:i≠blk):
  ACalls Tryz.prog 245 [.osl 1 blk v 0 n lc,.int .i64 a,.ref i 0 0,.func fn fs cs] H
   (fun r H'=>∃(x:Nat) (s':Int),(a≤x+1∧x≤a+1)∧r=.int .i64 x∧H'=aB H i (mU s')):=by
 refine aO Tryz.func245 ?_;have hw1:IntKind.i64.wrap ((a:Int)-1)=((a-1:Nat):Int):=aJ (by omega) (by omega)
 have hw2:IntKind.i64.wrap ((a:Int)+1)=((a+1:Nat):Int):=aJ (by omega) (by omega)
 repeat' first|(refine gS ?_;simp only[go_sem,hw1,hw2])|refine gA ?_|(refine gD ?_ ?_<;>intro h<;>try exact aA h)|fail
 refine aR (aF2 hf hn (a:=a-1) (b:=a) (e:=a+1) (by omega) (by omega) ha2 _ hh hi hne) (cO) ?_
 rintro r H' ⟨x,s',h,rfl,rfl⟩;simp only[go_sem];repeat' first|(refine gS ?_;simp only[go_sem])|refine gA ?_|(refine gD ?_ ?_<;>intro h<;>try exact aA h)|fail
 exact iA (aDg _ _) (.int _ _) _ ⟨x,s',by omega,rfl,rfl⟩
theorem aIN(hf:vX Tryz.prog (.func fn fs cs) c){d:Array gJ}{a b n lc blk v:Nat}(hn:n=d.size)(hl:n≤1073741824)(hb:b≤n)(hab:a+12<b)(H:AHeap)(hh:hget H blk=.cells v (dC d)):
  ACalls Tryz.prog 234 [.osl 1 blk v 0 n lc,.int .i64 a,.int .i64 b,.func fn fs cs] H
   (fun r H'=>∃(p:Nat) (h:Int),(a≤p∧p<b)∧r=.tup [.int .i64 p,.int .i64 h]∧H'=H):=by
 refine aO Tryz.func234 ?_;have hlt:=aV hh trivial;obtain⟨m,rfl⟩:∃m,b=a+m:=⟨b-a,by omega⟩
 have hw0:IntKind.i64.wrap (((a+m:Nat):Int)-(a:Int))=(m:Int):=aJ (by omega) (by omega)
 have hq:IntKind.i64.wrap ((m:Int).tdiv 4)=((m / 4:Nat):Int):=by rw[zBk (by omega)];exact aJ (by omega) (by omega)
 obtain⟨q,hq2⟩:∃q,m / 4=q:=⟨_,rfl⟩;rw[hq2]at hq;have hq3:3 * q≤m-3∧m≤4 * q+3:=by omega
 have hw1:IntKind.i64.wrap ((q:Int) * 1)=(q:Int):=aJ (by omega) (by omega)
 have hw2:IntKind.i64.wrap ((q:Int) * 2)=((q * 2:Nat):Int):=aJ (by omega) (by omega)
 have hw3:IntKind.i64.wrap ((q:Int) * 3)=((q * 3:Nat):Int):=aJ (by omega) (by omega)
 have hw4:IntKind.i64.wrap ((a:Int)+(q:Int))=((a+q:Nat):Int):=aJ (by omega) (by omega)
 have hw5:IntKind.i64.wrap ((a:Int)+((q * 2:Nat):Int))=((a+q * 2:Nat):Int):=aJ (by omega) (by omega)
 have hw6:IntKind.i64.wrap ((a:Int)+((q * 3:Nat):Int))=((a+q * 3:Nat):Int):=aJ (by omega) (by omega)
 have hli8:decide (8≤(m:Int))=true:=dT;have gH:∀s,hget (H++[mU s]) blk=.cells v (dC d):=fun s=>aD hh trivial _
 have gi:∀s,hget (H++[mU s]) H.length=mU s:=fun s=>eZ H _
 have gs:∀s t,aB (H++[mU s]) H.length (mU t)=H++[mU t]:=fun s t=>by simp[aB]
 have hne:H.length≠blk:=by omega
 by_cases h50:50≤m
 ·have hli50:decide (50≤(m:Int))=true:=dT;repeat' first|(refine gS ?_;simp only[go_sem,hw0,hq,hw1,hw2,hw3,hw4,hw5,hw6,hli8,hli50])|refine gA ?_|(refine gD ?_ ?_<;>intro h<;>try exact aA h)|fail
  refine aR (aDh hf hn hl (a:=a+q) (by omega) (by omega) (H++[mU 0]) (gH 0) (gi 0) hne) (cO) ?_
  rintro r H' ⟨x1,s1,h1,rfl,rfl⟩;rw[gs];simp only[go_sem];repeat' first|(refine gS ?_;simp only[go_sem,hw0,hq,hw1,hw2,hw3,hw4,hw5,hw6,hli8,hli50])|refine gA ?_|(refine gD ?_ ?_<;>intro h<;>try exact aA h)|fail
  refine aR (aDh hf hn hl (a:=a+q * 2) (by omega) (by omega) (H++[mU s1]) (gH _) (gi _) hne) (cO) ?_
  rintro r H' ⟨x2,s2,h2,rfl,rfl⟩;rw[gs];simp only[go_sem];repeat' first|(refine gS ?_;simp only[go_sem,hw0,hq,hw1,hw2,hw3,hw4,hw5,hw6,hli8,hli50])|refine gA ?_|(refine gD ?_ ?_<;>intro h<;>try exact aA h)|fail
  refine aR (aDh hf hn hl (a:=a+q * 3) (by omega) (by omega) (H++[mU s2]) (gH _) (gi _) hne) (cO) ?_
  rintro r H' ⟨x3,s3,h3,rfl,rfl⟩;rw[gs];simp only[go_sem];repeat' first|(refine gS ?_;simp only[go_sem,hw0,hq,hw1,hw2,hw3,hw4,hw5,hw6,hli8,hli50])|refine gA ?_|(refine gD ?_ ?_<;>intro h<;>try exact aA h)|fail
  refine aR (aF2 hf hn (a:=x1) (b:=x2) (e:=x3) (by omega) (by omega) (by omega) (H++[mU s3]) (gH _) (gi _) hne) (cO) ?_
  rintro r H' ⟨x,s,h,rfl,rfl⟩;rw[gs];unfold mU;simp only[go_sem];repeat' first|(refine gS ?_;simp only[go_sem])|refine gA ?_|(refine gD ?_ ?_<;>intro h<;>try exact aA h)|fail
  all_goals exact aCz (by simp only[go_sem]) _ ⟨x,_,by omega,rfl,rfl⟩
 ·have hli50:decide (50≤(m:Int))=false:=dF;repeat' first|(refine gS ?_;simp only[go_sem,hw0,hq,hw1,hw2,hw3,hw4,hw5,hw6,hli8,hli50])|refine gA ?_|(refine gD ?_ ?_<;>intro h<;>try exact aA h)|fail
  refine aR (aF2 hf hn (a:=a+q) (b:=a+q * 2) (e:=a+q * 3) (by omega) (by omega) (by omega) (H++[mU 0]) (gH _) (gi _) hne) (cO) ?_
  rintro r H' ⟨x,s,h,rfl,rfl⟩;rw[gs];unfold mU;simp only[go_sem];repeat' first|(refine gS ?_;simp only[go_sem])|refine gA ?_|(refine gD ?_ ?_<;>intro h<;>try exact aA h)|fail
  all_goals exact aCz (by simp only[go_sem]) _ ⟨x,_,by omega,rfl,rfl⟩
end
end
section
theorem aLz(b:Bool)(l:List Nd)(c:Cal)(hp:c.path.length≤1048576)(ht:c.to.length≤1048576)(hl:l.length≤1073741824)(H:AHeap):
  bH Tryz.prog 24 [.sl b (l.map ndA),dS c] H (if turnsK c=true then .tup [.sl false ((locksT l c).map bK),.bool true]else .tup [.sl true [],.bool false]):=by
 refine fO Tryz.func24 ?_;have hw:=aG4 c hp;have hlc:=aHj b l c hp ht hl;unfold aEj at hw;cases htu:turnsK c with
 |true=>
  rw[htu,zAl rfl]at hw;rw[zAl rfl];simp only[dS]at hw hlc;repeat' first|(refine gS ?_;simp only[go_sem,dS])|refine gA ?_|(refine gD ?_ ?_<;>intro h<;>try exact aA h)|fail
  exact dY (.refl _)
 |false=>
  rw[htu,zAe (fun h=>by cases h)]at hw
  rw[zAe (fun h=>by cases h)]
  cases hwa:walksK c with
  |true=>
   rw[hwa,zAl rfl]at hw;simp only[dS]at hw;repeat' first|(refine gS ?_;simp only[go_sem,dS])|refine gA ?_|(refine gD ?_ ?_<;>intro h<;>try exact aA h)|fail
   exact dY (.refl _)
  |false=>
   rw[hwa,zAe (fun h=>by cases h)]at hw
   simp only[dS]at hw;repeat' first|(refine gS ?_;simp only[go_sem,dS])|refine gA ?_|(refine gD ?_ ?_<;>intro h<;>try exact aA h)|fail
   exact dY (.refl _)
theorem aLA(c:Cal)(hp:c.path.length≤1048576)(H:AHeap):
  bH Tryz.prog 101 [dS c] H (if turnsK c=false∧walksK c=true then .tup [.sl false ((wnames c).map AV.str),.bool true]else .tup [.sl true [],.bool false]):=by
 refine fO Tryz.func101 ?_;have hw:=aG4 c hp;have hcl:=aBq false (wnames c) (by have:=pZ c;omega)
 unfold aEj at hw;cases htu:turnsK c with
 |true=>
  rw[htu,zAl rfl]at hw;rw[zAe (fun h=>by cases h.1)]
  simp only[dS]at hw;repeat' first|(refine gS ?_;simp only[go_sem,dS])|refine gA ?_|(refine gD ?_ ?_<;>intro h<;>try exact aA h)|fail
  exact dY (.refl _)
 |false=>
  rw[htu,zAe (fun h=>by cases h)]at hw
  cases hwa:walksK c with
  |true=>
   rw[hwa,zAl rfl]at hw;rw[zAl ⟨rfl,rfl⟩];simp only[dS]at hw;repeat' first|(refine gS ?_;simp only[go_sem,dS])|refine gA ?_|(refine gD ?_ ?_<;>intro h<;>try exact aA h)|fail
   exact dY (.refl _)
  |false=>
   rw[hwa,zAe (fun h=>by cases h)]at hw
   rw[zAe (fun h=>by cases h.2)]
   simp only[dS]at hw;repeat' first|(refine gS ?_;simp only[go_sem,dS])|refine gA ?_|(refine gD ?_ ?_<;>intro h<;>try exact aA h)|fail
   exact dY (.refl _)
end
section
theorem aK0q(a b:Thr):(decide (a.has=b.has)&&decide (a.ans=b.ans)&&(decide (a.call=b.call)&&decide (a.at_=b.at_)&&(a.done==b.done)&&(a.ended==b.ended)&&decide (a.upto=b.upto))&&decide (a.begin_=b.begin_)&&decide (a.mark=b.mark)&&decide (a.end_=b.end_))=decide (a=b):=by
 obtain⟨_,_,_,_,_,_,_,_,_,_⟩:=a;obtain⟨_,_,_,_,_,_,_,_,_,_⟩:=b;rw[zBo];simp;constructor<;>(intro h;simp_all)
theorem aSC(a b:Cal):(decide (a.kind=b.kind)&&(decide (a.path=b.path)&&(decide (a.to=b.to)&&(decide (a.data=b.data)&&decide (a.n=b.n)))))=decide (a=b):=by
 obtain⟨_,_,_,_,_⟩:=a;obtain⟨_,_,_,_,_⟩:=b;rw[zBo];simp
theorem aLB(f1 f2 f3 g1 g2 g3:Bool)(a b:Thr)(H:AHeap):bH Tryz.prog 22 [pE f1 f2 f3 a,pE g1 g2 g3 b] H (.bool (decide (a=b))):=by
 refine fO Tryz.func22 ?_;have h1:=aGP f1 g1 a.has b.has;have h2:=aG9 f2 f3 g2 g3 a.ans b.ans;have h3:=aSC a.call b.call;simp only[anA]at h2;rw[←aK0q];repeat' first|(refine gS ?_;simp only[go_sem,pE,vS])|refine gA ?_|(refine gD ?_ ?_<;>intro h<;>try exact aA h)|fail
 refine dY (.of (zAx AV.bool ?_));rw[←h3]
end
end Go.Proofs.YtennnelammaapaaGreatDoor
