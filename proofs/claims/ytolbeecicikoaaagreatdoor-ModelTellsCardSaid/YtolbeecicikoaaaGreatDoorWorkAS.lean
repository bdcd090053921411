/- The texts 19 of 53 beneath the rows of this seat (joined by program): the abstract machine, and what the functions answer. No condition. -/
import Derived.Test.YtolbeecicikoaaaGreatDoorWorkAH
import Derived.Test.YtolbeecicikoaaaGreatDoorWorkAJ
import Derived.Test.YtolbeecicikoaaaGreatDoorWorkAN
import Derived.Lib.MapLaws
set_option linter.unusedSimpArgs false
set_option linter.unusedVariables false
set_option linter.unusedSectionVars false
set_option maxRecDepth 100000
set_option maxHeartbeats 16000000
namespace Go.Proofs.YtolbeecicikoaaaGreatDoor
def bt(s:Txt)(pos k:Nat):Nat:=(s.getD (pos+k) 0).toNat
theorem tJ(s:Txt)(pos k:Nat):bt s pos k<256:=(s.getD (pos+k) 0).toNat_lt
def rU(b:Nat):Nat:=if b<128 then 1 else if 194≤b∧b<224 then 2 else if 224≤b∧b<240 then 3 else if 240≤b∧b<245 then 4 else 0
def tZ(n:Nat):Nat:=if n=1 then 0 else if n=2 then 128 else if n=3 then 2048 else 65536
def yX(n b:Nat):Nat:=if n=3 then b % 16 else if n=4 then b % 8 else b % 64
def jL(s:Txt)(pos n:Nat):Nat→Nat
 |0=>yX n (bt s pos 0)
 |i+1=>jL s pos n i * 64+bt s pos (i+1) % 64
def vR(s:Txt)(pos j:Nat):Bool:=decide (128≤bt s pos j)&&decide (bt s pos j<192)
def qQ(s:Txt)(pos:Nat):Nat→Bool
 |0=>true
 |i+1=>qQ s pos i&&vR s pos (i+1)
def aDV(n r:Nat):Bool:=decide (r<tZ n)||(decide (55296≤r)&&decide (r≤57343))||decide (1114111<r)
def fU(s:Txt)(pos:Nat):Nat×Nat:=
 if rU (bt s pos 0)=0∨s.length<pos+rU (bt s pos 0)then(0,0)
 else if rU (bt s pos 0)=1 then(bt s pos 0,1)
 else if qQ s pos (rU (bt s pos 0)-1)=true∧aDV (rU (bt s pos 0)) (jL s pos (rU (bt s pos 0)) (rU (bt s pos 0)-1))=false then(jL s pos (rU (bt s pos 0)) (rU (bt s pos 0)-1),rU (bt s pos 0))
 else(0,0)
theorem aKp(b:Nat):rU b≤4:=by
 unfold rU
 repeat' split
 all_goals decide
theorem aGB(s:Txt)(pos n i:Nat):jL s pos n i<64 ^ (i+1):=by
 induction i with
 |zero=>
  simp only[jL,yX]
  repeat' split
  all_goals omega
 |succ i ih=>
  rw[jL,Nat.pow_succ]
  have:bt s pos (i+1) % 64<64:=Nat.mod_lt _ (by decide)
  omega
theorem aDW(s:Txt)(pos:Nat):eU s pos=Lib.decodeN (s.length-pos) (bt s pos 0) (bt s pos 1) (bt s pos 2) (bt s pos 3):=by
 unfold eU
 rw[Lib.decode_N]
 rfl
theorem aHR{s:Txt}{pos:Nat}(hp:pos<s.length):(fU s pos).2=0∧eU s pos=(65533,1)∨(fU s pos).2≠0∧eU s pos=fU s pos:=by
 rw[aDW]
 have h0:=tJ s pos 0
 have h1:=tJ s pos 1
 have h2:=tJ s pos 2
 have h3:=tJ s pos 3
 unfold fU
 by_cases c1:bt s pos 0<128
 ·have e:rU (bt s pos 0)=1:=by unfold rU;rw[zAc c1]
  rw[e,zAb (by omega),zAc rfl]
  exact .inr ⟨by simp,by unfold Lib.decodeN;rw[zAc c1]⟩
 by_cases c2:194≤bt s pos 0∧bt s pos 0<224
 ·have e:rU (bt s pos 0)=2:=by unfold rU;rw[zAb c1,zAc c2]
  rw[e]
  have hL:tZ 2=128:=rfl
  have hH:∀b,yX 2 b=b % 64:=fun _=>rfl
  simp only[qQ,Nat.reduceSub,zBo,Nat.reduceAdd,jL,zAB,hH,vR,aDV,hL,zAl,zAr,zBw,zBk,zAC]
  unfold Lib.decodeN
  generalize bt s pos 0=b0 at *
  generalize bt s pos 1=b1 at *
  generalize bt s pos 2=b2 at *
  generalize bt s pos 3=b3 at *
  repeat' split
  all_goals first
   |(exfalso;omega)
   |exact .inl ⟨rfl,rfl⟩
   |exact .inr ⟨by simp,by simp;omega⟩
 by_cases c3:224≤bt s pos 0∧bt s pos 0<240
 ·have e:rU (bt s pos 0)=3:=by unfold rU;rw[zAb c1,zAb c2,zAc c3]
  rw[e]
  have hL:tZ 3=2048:=rfl
  have hH:∀b,yX 3 b=b % 16:=fun _=>rfl
  simp only[qQ,Nat.reduceSub,zBo,Nat.reduceAdd,jL,zAB,hH,vR,aDV,hL,zAl,zAr,zBw,zBk,zAC]
  unfold Lib.decodeN
  generalize bt s pos 0=b0 at *
  generalize bt s pos 1=b1 at *
  generalize bt s pos 2=b2 at *
  generalize bt s pos 3=b3 at *
  repeat' split
  all_goals first
   |(exfalso;omega)
   |exact .inl ⟨rfl,rfl⟩
   |exact .inr ⟨by simp,by simp;omega⟩
 by_cases c4:240≤bt s pos 0∧bt s pos 0<245
 ·have e:rU (bt s pos 0)=4:=by unfold rU;rw[zAb c1,zAb c2,zAb c3,zAc c4]
  rw[e]
  have hL:tZ 4=65536:=rfl
  have hH:∀b,yX 4 b=b % 8:=fun _=>rfl
  simp only[qQ,Nat.reduceSub,zBo,Nat.reduceAdd,jL,zAB,hH,vR,aDV,hL,zAl,zAr,zBw,zBk,zAC]
  unfold Lib.decodeN
  generalize bt s pos 0=b0 at *
  generalize bt s pos 1=b1 at *
  generalize bt s pos 2=b2 at *
  generalize bt s pos 3=b3 at *
  repeat' split
  all_goals first
   |(exfalso;omega)
   |exact .inl ⟨rfl,rfl⟩
   |exact .inr ⟨by simp,by simp;omega⟩
 ·have e:rU (bt s pos 0)=0:=by unfold rU;rw[zAb c1,zAb c2,zAb c3,zAb c4]
  rw[e,zAc (.inl rfl)]
  left
  refine⟨rfl,?_⟩
  unfold Lib.decodeN
  generalize bt s pos 0=b0 at *
  generalize bt s pos 1=b1 at *
  generalize bt s pos 2=b2 at *
  generalize bt s pos 3=b3 at *
  repeat' split
  all_goals first
   |(exfalso;omega)
   |rfl
theorem aHS{s:Txt}{pos:Nat}(h:(fU s pos).2=1):(fU s pos).1<128:=by
 unfold fU at h ⊢
 split at h
 ·cases h
 ·split at h
  ·rename_i h1 h2
   rw[zAb h1,zAc h2]
   unfold rU at h2
   repeat' split at h2
   all_goals first
    |assumption
    |omega
  ·split at h
   ·rename_i h1 h2 h3
    exact absurd h h2
   ·cases h
theorem aHT{s:Txt}{pos:Nat}(h:tE [239,191,189] (s.drop pos)=true):(fU s pos).2≠0:=by
 unfold tE at h
 simp only[zAm,zAE,zAH,zAl,zAr]at h
 obtain⟨h1,h2⟩:=h
 have g:∀k,k<3→s.getD (pos+k) 0=([239,191,189]:Txt).getD k 0:=by
  intro k hk
  rw[←h2,zAs,zAs,List.getElem?_take_of_lt (by omega),zCk]
 have b0:bt s pos 0=239:=by unfold bt;rw[g 0 (by omega)];rfl
 have b1:bt s pos 1=191:=by unfold bt;rw[g 1 (by omega)];rfl
 have b2:bt s pos 2=189:=by unfold bt;rw[g 2 (by omega)];rfl
 have e:rU 239=3:=rfl
 unfold fU
 rw[b0,e,zAb (by omega),zAb (by omega),zAc]
 ·simp
 ·simp only[qQ,Nat.reduceSub,zBo,Nat.reduceAdd,jL,vR,b0,b1,b2]
  decide
theorem aFe{s:Txt}{acc:List Int}{pos:Nat}(h:pos<s.length):pV s acc pos=if(fU s pos).2=0 then none else pV s (acc++[((fU s pos).1:Int)]) (pos+(fU s pos).2):=by
 rw[yR h]
 rcases aHR h with⟨h1,h2⟩|⟨h1,h2⟩
 ·rw[zAc h1,h2,zAb]
  rintro(q|q)
  ·simp at q
  ·exact aHT q h1
 ·rw[zAb h1,h2,zAc]
  by_cases hr:(fU s pos).1=65533
  ·right
   have hd:=Lib.decodeN_shape (s.length-pos) (bt s pos 0) (bt s pos 1) (bt s pos 2) (bt s pos 3)
   have e:=aDW s pos
   rw[h2]at e
   rw[←e]at hd
   have q0:=tJ s pos 0
   have q1:=tJ s pos 1
   have q2:=tJ s pos 2
   rcases hd with⟨c1,c2⟩|⟨c1,c2,c3,c4,c5⟩|⟨c1,c2,c3,c4,c5,c6,c7⟩|⟨c1,c2,c3,c4,c5,c6,c7,c8⟩|c1
   ·have:=zAp Prod.fst c2;simp only at this;omega
   ·have:=zAp Prod.fst c5;simp only at this;omega
   ·have:=zAp Prod.fst c7
    simp only at this
    have b0:bt s pos 0=239:=by omega
    have b1:bt s pos 1=191:=by omega
    have b2:bt s pos 2=189:=by omega
    have key:∀k v,bt s pos k=v→s.getD (pos+k) 0=UInt8.ofNat v:=fun k v hk=>by rw[←hk];simp[bt]
    have d0:=key 0 _ b0
    have d1:=key 1 _ b1
    have d2:=key 2 _ b2
    unfold tE
    simp only[zAm,zAE,zAH,zAl,zAr]
    refine⟨by omega,?_⟩
    rw[Lib.takeC _ (by rw[zAH];omega),Lib.getD_dropU,Lib.getD_dropU,Lib.getD_dropU,d0,d1,d2]
    rfl
   ·have:=zAp Prod.fst c8;simp only at this;omega
   ·have h3:=zAp Prod.snd c1
    have:=aHS h3
    omega
  ·left
   simp;omega
theorem aNx(b:Nat)(H:AHeap):bD Tryz.prog 193 [.int .u8 b] H (.int .i64 (rU b)):=by
 refine fO Tryz.func193 ?_
 unfold rU
 repeat' first|(refine gS ?_;simp only[go_sem])|refine gA ?_|(refine gD (fun h=>?_) (fun h=>?_)<;>try exact aA h)|fail
 all_goals(refine bL (.of (zAp (AV.int .i64) ?_));simp only[zAl,zBk,zAr,zAC]at *;(repeat' split)<;>omega)
theorem aKq(n:Nat)(H:AHeap):bD Tryz.prog 194 [.int .i64 n] H (.int .i64 (tZ n)):=by
 refine fO Tryz.func194 ?_
 unfold tZ
 repeat' first|(refine gS ?_;simp only[go_sem])|refine gA ?_|(refine gD (fun h=>?_) (fun h=>?_)<;>try exact aA h)|fail
 all_goals(refine bL (.of (zAp (AV.int .i64) ?_));simp only[zAl,zBk,zAr,zAC]at *;(repeat' split)<;>omega)
end Go.Proofs.YtolbeecicikoaaaGreatDoor
namespace Go.Proofs.YtolbeecicikoaaaGreatDoor
theorem nQ(a b:Nat):((a:Int)).tmod (b:Int)=((a % b:Nat):Int):=by
 rw[zBv (by omega)];push_cast;rfl
theorem aNy(s:Txt)(pos:Nat)(hp:pos<s.length)(hs:s.length≤1073741824)(H:AHeap):bD Tryz.prog 172 [.str s,.int .i64 pos] H (.tup [.int .i64 (fU s pos).1,.int .i64 (fU s pos).2]):=by
 refine fO Tryz.func172 ?_
 have hpi:decide ((pos:Int)<(s.length:Int))=true:=dT
 have hpl:((pos:Int)<(s.length:Int)):=by omega
 have hb0:(s.getD pos 0).toNat=bt s pos 0:=rfl
 have hsz:=aNx (bt s pos 0)
 have hz4:=aKp (bt s pos 0)
 have h256:=tJ s pos 0
 have hw0:IntKind.i64.wrap ((pos:Int)+(rU (bt s pos 0):Int))=((pos+rU (bt s pos 0):Nat):Int):=aI (by omega) (by omega)
 have hw1:IntKind.i64.wrap (bt s pos 0:Int)=(bt s pos 0:Int):=aI rfl (by omega)
 unfold fU
 generalize hn:rU (bt s pos 0)=n at *
 by_cases c0:n=0∨s.length<pos+n
 ·rw[zAc c0]
  by_cases c00:n=0
  ·have hli:decide ((n:Int)=0)=true:=dT
   repeat' first|(refine gS ?_;simp only[go_sem,hpl,hb0,hli,hw0])|refine gA ?_|(refine gD (fun h=>?_) (fun h=>?_)<;>try exact aA h)|fail
   exact bL (.refl _)
  ·have hli:decide ((n:Int)=0)=false:=dF
   have hli2:decide ((s.length:Int)<((pos+n:Nat):Int))=true:=dT
   repeat' first|(refine gS ?_;simp only[go_sem,hpl,hb0,hli,hli2,hw0])|refine gA ?_|(refine gD (fun h=>?_) (fun h=>?_)<;>try exact aA h)|fail
   exact bL (.refl _)
 ·rw[zAb c0]
  have hli:decide ((n:Int)=0)=false:=dF
  have hli2:decide ((s.length:Int)<((pos+n:Nat):Int))=false:=dF
  by_cases c1:n=1
  ·rw[zAc c1]
   have hli3:decide ((n:Int)=1)=true:=dT
   repeat' first|(refine gS ?_;simp only[go_sem,hpl,hb0,hli,hli2,hli3,hw0,hw1])|refine gA ?_|(refine gD (fun h=>?_) (fun h=>?_)<;>try exact aA h)|fail
   exact bL (.refl _)
  ·rw[zAb c1]
   have hli3:decide ((n:Int)=1)=false:=dF
   have t64:((bt s pos 0:Nat):Int).tmod 64=((bt s pos 0 % 64:Nat):Int):=nQ (bt s pos 0) 64
   have t16:((bt s pos 0:Nat):Int).tmod 16=((bt s pos 0 % 16:Nat):Int):=nQ (bt s pos 0) 16
   have t8:((bt s pos 0:Nat):Int).tmod 8=((bt s pos 0 % 8:Nat):Int):=nQ (bt s pos 0) 8
   repeat' first|(refine gS ?_;simp only[go_sem,hpl,hb0,hli,hli2,hli3,hw0,hw1])|refine gA ?_|fail
   refine iR rfl (fun h=>by simp at h) (fun _=>?_)
   repeat' first|(refine gS ?_;simp only[go_sem,hli3])|refine gA ?_|fail
   refine iR rfl (fun h=>by simp at h) (fun _=>?_)
   repeat' first|(refine gS ?_;simp only[go_sem,hpl,hb0,hw1,t64])|refine gA ?_|fail
   refine vJ (ι:=Unit) (fun _=>[(0,.str s),(1,.int .i64 pos),(6,.int .i64 n),(7,.int .i64 (if n=3 then bt s pos 0 % 16 else bt s pos 0 % 64:Nat))]) (fun _=>H) (fun _=>True) ?_ ?_
   ·refine iR rfl (fun h=>?_) (fun h=>?_)
    ·rw[zAr]at h
     repeat' first|(refine gS ?_;simp only[go_sem,hpl,hb0,hw1,t16])|refine gA ?_|(refine gD (fun h=>?_) (fun h=>?_)<;>try exact aA h)|fail
     rw[zAc (by omega)];exact⟨(),rfl⟩
    ·rw[zAC]at h
     repeat' first|(refine gS ?_;simp only[go_sem])|refine gA ?_|(refine gD (fun h=>?_) (fun h=>?_)<;>try exact aA h)|fail
     rw[zAb (by omega)];exact⟨(),rfl⟩
   intro _ _
   repeat' first|(refine gS ?_;simp only[go_sem])|refine gA ?_|fail
   refine vJ (ι:=Unit) (fun _=>[(0,.str s),(1,.int .i64 pos),(6,.int .i64 n),(7,.int .i64 (yX n (bt s pos 0):Nat))]) (fun _=>H) (fun _=>True) ?_ ?_
   ·refine iR rfl (fun h=>?_) (fun h=>?_)
    ·rw[zAr]at h
     repeat' first|(refine gS ?_;simp only[go_sem,hpl,hb0,hw1,t8])|refine gA ?_|(refine gD (fun h=>?_) (fun h=>?_)<;>try exact aA h)|fail
     rw[yX,zAb (by omega),zAc (by omega)];exact⟨(),rfl⟩
    ·rw[zAC]at h
     repeat' first|(refine gS ?_;simp only[go_sem])|refine gA ?_|(refine gD (fun h=>?_) (fun h=>?_)<;>try exact aA h)|fail
     refine⟨(),?_⟩
     unfold yX
     by_cases h3:n=3
     ·rw[zAc h3,zAc h3]
     ·rw[zAb h3,zAb h3,zAb (by omega)]
   intro _ _
   have hR:=aGB s pos n
   repeat' first|(refine gS ?_;simp only[go_sem])|refine gA ?_|fail
   refine aH (ι:=Nat) (fun i=>[(0,.str s),(1,.int .i64 pos),(6,.int .i64 n),(7,.int .i64 (jL s pos n i)),(8,.int .i64 (i+1:Nat))]) (fun _=>H) (fun i=>i+1≤n∧qQ s pos i=true) (fun i=>n-i) 0 ⟨by omega,rfl⟩ ?_ rfl ?_
   ·simp[go_sem,jL]
   ·rintro i ⟨hi,hco⟩
    have hRi:=hR i
    have hRl:64 ^ (i+1)≤16777216:=by
     rcases(show i=0∨i=1∨i=2∨i=3 by omega)with rfl|rfl|rfl|rfl<;>decide
    by_cases hlt:i+1<n
    ·have hlt2:decide (((i+1:Nat):Int)<(n:Int))=true:=dT
     obtain⟨q,hq⟩:∃q,q=pos+(i+1):=⟨_,rfl⟩
     have hw2:IntKind.i64.wrap ((pos:Int)+((i+1:Nat):Int))=(q:Int):=aI (by omega) (by omega)
     have hw3:IntKind.i64.wrap (((i+1:Nat):Int)+1)=((i+1+1:Nat):Int):=aI (by omega) (by omega)
     have hql:((q:Int)<(s.length:Int)):=by omega
     have hbi:(s.getD q 0).toNat=bt s pos (i+1):=by rw[hq];rfl
     have hb2:=tJ s pos (i+1)
     have hw4:IntKind.i64.wrap (bt s pos (i+1):Int)=(bt s pos (i+1):Int):=aI rfl (by omega)
     have t2:((bt s pos (i+1):Nat):Int).tmod 64=((bt s pos (i+1) % 64:Nat):Int):=nQ (bt s pos (i+1)) 64
     have hw5:IntKind.i64.wrap ((jL s pos n i:Int) * 64)=((jL s pos n i * 64:Nat):Int):=aI (by omega) (by omega)
     have hw6:IntKind.i64.wrap (((jL s pos n i * 64:Nat):Int)+((bt s pos (i+1) % 64:Nat):Int))=((jL s pos n (i+1):Nat):Int):=aI (by rw[jL];omega) (by rw[jL];omega)
     cases hcb:vR s pos (i+1)with
     |true=>
      unfold vR at hcb
      rw[zAl,zAr,zAr]at hcb
      have hc1:decide ((bt s pos (i+1):Int)<128)=false:=dF
      have hc2:decide ((192:Int)≤(bt s pos (i+1):Int))=false:=dF
      repeat' first|(refine gS ?_;simp only[go_sem,hlt2,hw2,hw3,hql,hbi,hw4,t2,hw5,hw6,hc1,hc2])|refine gA ?_|(refine gD (fun h=>?_) (fun h=>?_)<;>try exact aA h)|fail
      refine⟨i+1,⟨hlt,by rw[qQ,hco];unfold vR;rw[zAd hcb.1,zAd hcb.2];rfl⟩,by omega,rfl,rfl⟩
     |false=>
      have hno:¬(qQ s pos (n-1)=true∧aDV n (jL s pos n (n-1))=false):=by
       rintro⟨q1, -⟩
       have key:∀k,qQ s pos (i+1+k)=true→False:=by
        intro k
        induction k with
        |zero=>intro h;rw[Nat.add_zero,qQ,hcb,zCu]at h;cases h
        |succ k ih=>intro h;rw[←zCc,qQ,zAl]at h;exact ih h.1
       obtain⟨k,hk⟩:∃k,n-1=i+1+k:=⟨n-1-(i+1),by omega⟩
       rw[hk]at q1
       exact key k q1
      rw[zAb hno]
      unfold vR at hcb
      rw[zBk,zAC,zAC]at hcb
      by_cases h128:bt s pos (i+1)<128
      ·have hc1:decide ((bt s pos (i+1):Int)<128)=true:=dT
       repeat' first|(refine gS ?_;simp only[go_sem,hlt2,hw2,hw3,hql,hbi,hw4,t2,hw5,hw6,hc1])|refine gA ?_|(refine gD (fun h=>?_) (fun h=>?_)<;>try exact aA h)|fail
       exact bL (.refl _)
      ·have hc1:decide ((bt s pos (i+1):Int)<128)=false:=dF
       have hc2:decide ((192:Int)≤(bt s pos (i+1):Int))=true:=dT
       repeat' first|(refine gS ?_;simp only[go_sem,hlt2,hw2,hw3,hql,hbi,hw4,t2,hw5,hw6,hc1,hc2])|refine gA ?_|(refine gD (fun h=>?_) (fun h=>?_)<;>try exact aA h)|fail
       exact bL (.refl _)
    ·have hie:i=n-1:=by omega
     have hlt2:decide (((i+1:Nat):Int)<(n:Int))=false:=dF
     have hle:=aKq n
     rw[←hie]
     have hbad:aDV n (jL s pos n i)=(decide ((jL s pos n i:Int)<(tZ n:Int))||(decide ((55296:Int)≤(jL s pos n i:Int))&&decide ((jL s pos n i:Int)≤57343))||decide ((1114111:Int)<(jL s pos n i:Int))):=by
      unfold aDV
      simp only[Int.ofNat_lt]
      have e1:decide (55296≤jL s pos n i)=decide ((55296:Int)≤(jL s pos n i:Int)):=by rw[zCy];omega
      have e2:decide (jL s pos n i≤57343)=decide ((jL s pos n i:Int)≤57343):=by rw[zCy];omega
      have e3:decide (1114111<jL s pos n i)=decide ((1114111:Int)<(jL s pos n i:Int)):=by rw[zCy];omega
      rw[e1,e2,e3]
     cases hb:aDV n (jL s pos n i)with
     |true=>
      rw[zAb (by rintro⟨-,q⟩;cases q)]
      rw[hb]at hbad
      repeat' first|(refine gS ?_;simp only[go_sem,hlt2,←hbad])|refine gA ?_|(refine gD (fun h=>?_) (fun h=>?_)<;>try exact aA h)|fail
      exact bL (.refl _)
     |false=>
      rw[zAc ⟨hco,rfl⟩]
      rw[hb]at hbad
      repeat' first|(refine gS ?_;simp only[go_sem,hlt2,←hbad])|refine gA ?_|(refine gD (fun h=>?_) (fun h=>?_)<;>try exact aA h)|fail
      exact bL (.refl _)
def aAY(r:Option (List Int)):AV:=
 match r with
 |some l=>.tup [.sl false (l.map iY),.bool true]
 |none=>.tup [.sl false [],.bool false]
theorem aKr{s:Txt}{pos:Nat}(h:(fU s pos).2≠0):pos+(fU s pos).2≤s.length∧(fU s pos).1<16777216:=by
 have h4:=aKp (bt s pos 0)
 have hb:=tJ s pos 0
 have hr:=aGB s pos (rU (bt s pos 0)) (rU (bt s pos 0)-1)
 unfold fU at h ⊢
 split at h
 ·exact absurd rfl h
 ·rename_i h1
  rw[zAb h1]
  split at h
  ·rename_i h2
   rw[zAc h2];exact⟨by simp only;omega,by simp only;omega⟩
  ·rename_i h2
   rw[zAb h2]
   split at h
   ·rename_i h3
    rw[zAc h3]
    refine⟨by simp only;omega,?_⟩
    simp only
    have:64 ^ (rU (bt s pos 0)-1+1)≤16777216:=by
     rcases(show rU (bt s pos 0)=2∨rU (bt s pos 0)=3∨rU (bt s pos 0)=4 by omega)with e|e|e<;>rw[e]<;>decide
    omega
   ·exact absurd rfl h
theorem aKs(s:Txt)(hs:s.length≤1073741824)(H:AHeap):bD Tryz.prog 141 [.str s] H (aAY (kB s)):=by
 refine fO Tryz.func141 ?_
 repeat' first|(refine gS ?_;simp only[go_sem])|refine gA ?_|(refine gD (fun h=>?_) (fun h=>?_)<;>try exact aA h)|fail
 refine gI 4 1 rfl ?_
 refine aH (ι:=Nat×List Int) (fun x=>[(0,.str s),(4,.osl 1 H.length (x.2.length+1) 0 x.2.length x.2.length),(5,.int .i64 x.1)]) (fun x=>H++[.cells (x.2.length+1) (x.2.map iY)])
  (fun x=>pV s x.2 x.1=kB s∧x.2.length≤x.1∧x.1≤s.length) (fun x=>s.length-x.1) (0,[]) ⟨?_,zAh _,zAn _⟩ ?_ ?_ ?_
 ·show(eX s (s.length-0) 0).map _=_
  rw[kB,Nat.sub_zero]
  cases eX s s.length 0<;>simp
 ·simp[go_sem]
 ·simp
 ·rintro⟨pos,acc⟩ ⟨h1,h2,h3⟩
  simp only at h1 h2 h3 ⊢
  by_cases hlt:pos<s.length
  ·have hli:decide ((pos:Int)<(s.length:Int))=true:=dT
   have hst:=aFe (acc:=acc) hlt
   rw[h1]at hst
   have htk:=aNy s pos hlt hs
   by_cases hz:(fU s pos).2=0
   ·rw[zAc hz]at hst
    rw[hst]
    have hzz:decide (((fU s pos).2:Int)=0)=true:=dT
    repeat' first|(refine gS ?_;simp only[go_sem,hli,hzz])|refine gA ?_|(refine gD (fun h=>?_) (fun h=>?_)<;>try exact aA h)|fail
    exact dY (.tup _ _ rfl (aD (.sl _ _) (aD (.refl _) bJ)))
   ·rw[zAb hz]at hst
    obtain⟨hl1,hl2⟩:=aKr hz
    have hzz:decide (((fU s pos).2:Int)=0)=false:=dF
    have hw:IntKind.i64.wrap ((pos:Int)+((fU s pos).2:Int))=((pos+(fU s pos).2:Nat):Int):=aI (by omega) (by omega)
    generalize(fU s pos).2=k at *
    generalize(fU s pos).1=r at *
    repeat' first|(refine gS ?_;simp only[go_sem,hli,hzz,hw])|refine gA ?_|(refine gD (fun h=>?_) (fun h=>?_)<;>try exact aA h)|fail
    refine⟨⟨by omega,fun e he=>by rw[he];rfl,by omega⟩,?_⟩
    repeat' first|(refine gS ?_;simp only[go_sem,hw])|refine gA ?_|(refine gD (fun h=>?_) (fun h=>?_)<;>try exact aA h)|fail
    exact⟨(pos+k,acc++[(r:Int)]),⟨hst.symm,by simp only[zAe,zAX];omega,hl1⟩,by simp only;omega,⟨by simp only[zAe,zAX],rfl⟩,by simp only[zBa,zAe,zAX];rfl⟩
  ·have hli:decide ((pos:Int)<(s.length:Int))=false:=dF
   rw[←h1,aAD hlt]
   repeat' first|(refine gS ?_;simp only[go_sem,hli])|refine gA ?_|(refine gD (fun h=>?_) (fun h=>?_)<;>try exact aA h)|fail
   refine⟨_,_,rfl,?_,rfl⟩
   refine .tup _ _ rfl fun i x y hx hy=>?_
   match i,hx,hy with
   |0,hx,hy=>
    cases hx;cases hy
    exact iC (es:=acc.map iY) (rest:=[]) (zAh _) (by simp only[go_sem];rfl) (by rw[zAg,lD]) (zAj ..) (fun e he=>by obtain⟨x,_,rfl⟩:=zAi.1 he;rfl) (fun e he=>by obtain⟨x,_,rfl⟩:=zAi.1 he;exact(by simp only[go_sem]))
   |1,hx,hy=>cases hx;cases hy;exact .cl _ (.bool _)
   |i+2,hx,_=>simp at hx
theorem aCP(s:Txt)(hs:s.length≤1073741824)(H:AHeap):bD Tryz.prog 84 [.str s] H (.bool (dO s)):=by
 refine fO Tryz.func84 ?_
 have hall:=aKs s hs
 unfold dO
 cases hr:kB s with
 |none=>
  rw[hr]at hall
  simp only[aAY]at hall
  repeat' first|(refine gS ?_;simp only[go_sem])|refine gA ?_|(refine gD (fun h=>?_) (fun h=>?_)<;>try exact aA h)|fail
  exact bL (.refl _)
 |some l=>
  rw[hr]at hall
  simp only[aAY]at hall
  simp only
  repeat' first|(refine gS ?_;simp only[go_sem])|refine gA ?_|fail
  refine iR rfl (fun h=>?_) (fun h=>?_)
  ·rw[h]
   repeat' first|(refine gS ?_;simp only[go_sem])|refine gA ?_|(refine gD (fun h=>?_) (fun h=>?_)<;>try exact aA h)|fail
   exact bL (.refl _)
  rw[h]
  refine aCe ?_
  simp only[go_sem]
  repeat' first|(refine gS ?_;simp only[go_sem])|refine gA ?_|(refine gD (fun h=>?_) (fun h=>?_)<;>try exact aA h)|fail
  refine aH (ι:=Nat) (fun i=>[(3,.sl false (l.map iY)),(5,.int .i64 i)]) (fun _=>H) (fun i=>i≤l.length∧∀x∈l.take i,lC x=false) (fun i=>l.length-i) 0 ⟨zAn _,by simp⟩ ?_ rfl ?_
  ·simp[go_sem]
  ·rintro i ⟨hi,hall2⟩
   by_cases hlt:i<l.length
   ·have hpi:=aJ iY hlt
    have hli:decide ((i:Int)<(l.length:Int))=true:=dT
    have htk:l.take (i+1)=l.take i++[l[i]]:=zAa hlt
    have hmem:l[i]∈l:=zAF hlt
    have hbd:lC l[i]=(decide (l[i]<32)||decide (l[i]=47)||decide (l[i]=127)):=rfl
    have hsl:=wZ s s.length 0 l hr
    have hws:=aK hlt (show l.length≤9223372036854775807 by omega)
    generalize l[i]=c at *
    cases hb:lC c with
    |true=>
     rw[hb]at hbd
     have hany:l.any lC=true:=zBU.2 ⟨c,hmem,hb⟩
     repeat' first|(refine gS ?_;simp only[go_sem,hpi,hli,iY,←hbd])|refine gA ?_|(refine gD (fun h=>?_) (fun h=>?_)<;>try exact aA h)|fail
     rw[hany];exact bL (.refl _)
    |false=>
     rw[hb]at hbd
     repeat' first|(refine gS ?_;simp only[go_sem,hpi,hli,iY,←hbd])|refine gA ?_|(refine gD (fun h=>?_) (fun h=>?_)<;>try exact aA h)|fail
     refine⟨i+1,⟨hlt,fun x hx=>?_⟩,by omega,zAp _ hws⟩
     rw[htk,zAD]at hx
     rcases hx with hx|hx
     ·exact hall2 x hx
     ·rw[zAx]at hx;rw[hx,hb]
   ·have hie:i=l.length:=by omega
    subst hie
    have hli:decide ((l.length:Int)<(l.length:Int))=false:=by simp
    have hany:l.any lC=false:=by
     rw[zAq]at hall2
     rw[zBK];intro x hx;rw[hall2 x hx];decide
    repeat' first|(refine gS ?_;simp only[go_sem,hli])|refine gA ?_|(refine gD (fun h=>?_) (fun h=>?_)<;>try exact aA h)|fail
    rw[hany];exact bL (.refl _)
theorem vS(o:Opn)(hs:OpS o)(H:AHeap):bD Tryz.prog 38 [opA o] H (.bool (opOk o)):=by
 refine fO Tryz.func38 ?_
 have hnm:=aCP o.name hs.1
 simp only[opA]
 repeat' first|((first|refine gQ (uV _ _) ?_|refine gQ (aJA _) ?_|refine gQ (aCq _ _ _ _) ?_|refine gQ (tR _) ?_|refine gS ?_);simp only[go_sem])|refine gA ?_|(refine gD (fun h=>?_) (fun h=>?_)<;>try exact aA h)|fail
 all_goals(refine dY (.of (zAp AV.bool ?_));unfold opOk rJ uY lU)
 ·revert h
  cases zM o.at_.c o.at_.r<;>cases dQ o.node<;>cases iI o.at_.c o.at_.r (oA o.node) (oB o.node)<;>cases hop:dQ o.parent<;>cases iI o.at_.c o.at_.r (oA o.parent) (oB o.parent)<;>simp
  intro q q1 q2 q3 q4
  rw[q4]at hop;exact absurd hop (by decide)
 ·rename_i h1
  rw[zAr]at h
  simp only[h,zAU,zCe,zCm,zAB]
  revert h1
  cases zM o.at_.c o.at_.r<;>cases dQ o.node<;>cases iI o.at_.c o.at_.r (oA o.node) (oB o.node)<;>cases dQ o.parent<;>cases iI o.at_.c o.at_.r (oA o.parent) (oB o.parent)<;>simp
 ·rename_i h1
  rw[zAC]at h
  simp only[h,zA3,zB4,zBX]
  revert h1
  cases zM o.at_.c o.at_.r<;>cases dQ o.node<;>cases iI o.at_.c o.at_.r (oA o.node) (oB o.node)<;>cases dQ o.parent<;>cases iI o.at_.c o.at_.r (oA o.parent) (oB o.parent)<;>simp[Bool.and_assoc]
end Go.Proofs.YtolbeecicikoaaaGreatDoor
