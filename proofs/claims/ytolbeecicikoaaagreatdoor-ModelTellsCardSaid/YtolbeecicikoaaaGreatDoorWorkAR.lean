/- The texts 18 of 53 beneath the rows of this seat (joined by program): the abstract machine, and what the functions answer. No condition. -/
import Derived.Test.YtolbeecicikoaaaGreatDoorWorkAE
import Derived.Test.YtolbeecicikoaaaGreatDoorWorkAK
import Derived.Test.YtolbeecicikoaaaGreatDoorWorkAN
set_option linter.unusedSimpArgs false
set_option linter.unusedVariables false
set_option linter.unusedSectionVars false
set_option maxRecDepth 100000
set_option maxHeartbeats 16000000
namespace Go.Proofs.YtolbeecicikoaaaGreatDoor
theorem aGz{n:Int}{d:Nat}(h0:0≤n)(h1:n≤72057594037927935)(hd:d<128):nX .or .i64 (n * 128) (d:Int)=n * 128+d:=by
 obtain⟨m,rfl⟩:∃m:Nat,n=m:=⟨n.toNat,by omega⟩
 have e1:BitVec.ofInt 64 ((m:Int) * 128)=BitVec.ofNat 64 (m * 128):=by rw[show((m:Int) * 128)=((m * 128:Nat):Int) by omega];exact BitVec.ofInt_natCast ..
 have e2:BitVec.ofInt 64 (d:Int)=BitVec.ofNat 64 d:=BitVec.ofInt_natCast ..
 show IntKind.i64.wrap ((BitVec.ofInt 64 ((m:Int) * 128)|||BitVec.ofInt 64 (d:Int)).toNat:Int)=_
 rw[e1,e2,BitVec.toNat_or,BitVec.toNat_ofNat,BitVec.toNat_ofNat,Nat.mod_eq_of_lt (by omega),Nat.mod_eq_of_lt (by omega)]
 have e3:=Nat.shiftLeft_add_eq_or_of_lt (b:=d) (i:=7) (by omega) m
 rw[Nat.shiftLeft_eq]at e3
 rw[show m * 128=m * 2 ^ 7 by omega,←e3,wI]
 omega
theorem aKo{d:Nat}(h1:128≤d)(hd:d<256):nX .and .i64 (d:Int) 127=((d-128:Nat):Int):=by
 have e2:BitVec.ofInt 64 (d:Int)=BitVec.ofNat 64 d:=BitVec.ofInt_natCast ..
 have e1:BitVec.ofInt 64 (127:Int)=BitVec.ofNat 64 127:=rfl
 show IntKind.i64.wrap ((BitVec.ofInt 64 (d:Int)&&&BitVec.ofInt 64 (127:Int)).toNat:Int)=_
 rw[e1,e2,BitVec.toNat_and,BitVec.toNat_ofNat,BitVec.toNat_ofNat,Nat.mod_eq_of_lt (by omega),Nat.mod_eq_of_lt (by omega)]
 have e3:=Nat.and_two_pow_sub_one_eq_mod d 7
 rw[show 127=2 ^ 7-1 by omega,e3,wI]
 omega
theorem aHP:∀(b:Txt) (n:Int) (f:Bool) (m:Int) (r:Txt),qL n f b=some (m,r)→r.length<b.length:=by
 intro b
 induction b with
 |nil=>intro n f m r h;cases h
 |cons x b ih=>
  intro n f m r h
  rw[qL]at h
  split at h
  ·cases h
  ·split at h
   ·cases h;simp
   ·have:=ih _ _ _ _ h;rw[zAm];omega
theorem fT{b:Txt}{m:Int}{r:Txt}(h:cQ b=some (m,r)):r.length<b.length:=aHP _ _ _ _ _ h
theorem aHQ:∀(b:Txt) (n:Int) (f:Bool) (m:Int) (r:Txt),0≤n→qL n f b=some (m,r)→0≤m∧m≤9223372036854775807:=by
 intro b
 induction b with
 |nil=>intro n f m r _ h;cases h
 |cons x b ih=>
  intro n f m r h0 h
  have hx:=x.toNat_lt
  rw[qL]at h
  split at h
  ·cases h
  ·rename_i hc
   simp only[zBS,zAr,not_or]at hc
   split at h
   ·cases h;omega
   ·exact ih _ _ _ _ (by omega) h
def pF(b:Txt):AV:=match cQ b with
 |none=>.tup [.int .i64 0,.str [],.int .i64 40]
 |some (n,r)=>.tup [.int .i64 n,.str r,.int .i64 0]
def yW(b:Txt):AV:=match pB b with
 |none=>.tup [.str [],.str [],.int .i64 40]
 |some (t,r)=>.tup [.str t,.str r,.int .i64 0]
theorem aCN(b:Txt)(hb:b.length≤1073741824)(H:AHeap):bD Tryz.prog 210 [.str b] H (pF b):=by
 refine fO Tryz.func210 ?_
 repeat' first|(refine gS ?_;simp only[go_sem])|refine gA ?_|(refine gD (fun h=>?_) (fun h=>?_)<;>try exact aA h)|fail
 refine dB (ι:=Int×Nat) (fun s=>[(0,.str b),(2,.int .i64 0),(3,.str []),(4,.int .i64 0),(5,.int .i64 s.1),(6,.int .i64 s.2)]) (fun _=>H) (fun s=>s.2≤b.length∧(s.2=0∧cQ b=none∨0<s.2∧cQ b=some (s.1,b.drop s.2))) ?_ fun⟨n,k⟩ hk=>?_
 ·refine aH (ι:=Nat×Int) (fun s=>[(0,.str b),(2,.int .i64 0),(3,.str []),(4,.int .i64 0),(5,.int .i64 s.2),(6,.int .i64 0),(10,.int .i64 b.length),(11,.int .i64 s.1)]) (fun _=>H)
   (fun s=>s.1≤b.length∧0≤s.2∧cQ b=qL s.2 (decide (s.1=0)) (b.drop s.1)) (fun s=>b.length-s.1) (0,0) ⟨zAn _,zCP _,rfl⟩ ?_ rfl ?_
  ·simp[go_sem]
  rintro⟨i,n⟩ ⟨hi,hn,ht⟩
  simp only at hi hn ht ⊢
  by_cases hin:i<b.length
  ·have hdr:=zAk hin
   rw[hdr,qL]at ht
   have hx:=b[i].toNat_lt
   have hgd:b.getD i 0=b[i]:=by simp[hin]
   obtain⟨x,hxe⟩:∃x,x=b[i].toNat:=⟨_,rfl⟩
   rw[←hxe]at ht hx
   have hli:decide ((i:Int)<(b.length:Int))=true:=dT
   have hwx:IntKind.i64.wrap ((b[i].toNat:Nat):Int)=(x:Int):=by rw[←hxe];exact wI
   have hii:IntKind.i64.wrap ((i:Int)+1)=((i+1:Nat):Int):=aK hin (by omega)
   obtain⟨D1,hD1⟩:∃D,decide (i=0)=D:=⟨_,rfl⟩
   obtain⟨D2,hD2⟩:∃D,decide ((x:Int)=128)=D:=⟨_,rfl⟩
   obtain⟨D3,hD3⟩:∃D,decide (72057594037927935<n)=D:=⟨_,rfl⟩
   have hd1:decide ((i:Int)=0)=D1:=by rw[←hD1];exact zCy.2 (by omega)
   rw[hD1,hD2,hD3]at ht
   have stop:cQ b=none→∃y:Int×Nat,(y.2≤b.length∧(y.2=0∧cQ b=none∨0<y.2∧cQ b=some (y.1,b.drop y.2)))∧AV.int .i64 n=AV.int .i64 y.1∧AV.int .i64 0=AV.int .i64 y.2:=fun h=>⟨(n,0),⟨zAn _,.inl ⟨rfl,h⟩⟩,rfl,rfl⟩
   cases D3 with
   |true=>
    have hs:cQ b=none:=by rw[ht];cases D1<;>cases D2<;>rfl
    cases D1<;>cases D2
    all_goals
     repeat' first|(refine gS ?_;simp only[go_sem,hgd,hin,hli,hwx,hd1,hD2,hD3])|refine gA ?_|(refine gD (fun h=>?_) (fun h=>?_)<;>try exact aA h)|fail
     exact stop hs
   |false=>
    have hn7:n≤72057594037927935:=by have:=zBT hD3;omega
    have hsh:IntKind.i64.wrap (n * 2 ^ min 7 64)=n * 128:=by rw[show(2:Int) ^ min 7 64=128 by decide,wI]
    by_cases hst:D1=true∧D2=true
    ·obtain⟨rfl,rfl⟩:=hst
     repeat' first|(refine gS ?_;simp only[go_sem,hgd,hin,hli,hwx,hd1,hD2,hD3])|refine gA ?_|(refine gD (fun h=>?_) (fun h=>?_)<;>try exact aA h)|fail
     exact stop ht
    ·have ht2:cQ b=if(x:Int)<128 then some (n * 128+x,List.drop (i+1) b)else qL (n * 128+(x-128)) false (List.drop (i+1) b):=by
      rw[ht];cases D1<;>cases D2<;>first|rfl|exact absurd ⟨rfl,rfl⟩ hst
     by_cases h128:(x:Int)<128
     ·have hD4:decide ((x:Int)<128)=true:=zAd h128
      have hor:=aGz hn hn7 (d:=x) (by omega)
      rw[zAc h128]at ht2
      have fin:∃y:Int×Nat,(y.2≤b.length∧(y.2=0∧cQ b=none∨0<y.2∧cQ b=some (y.1,b.drop y.2)))∧AV.int .i64 (n * 128+x)=AV.int .i64 y.1∧AV.int .i64 ((i+1:Nat):Int)=AV.int .i64 y.2:=⟨(n * 128+x,i+1),⟨hin,.inr ⟨Nat.succ_pos _,ht2⟩⟩,rfl,rfl⟩
      cases D1<;>cases D2
      all_goals first
       |exact absurd ⟨rfl,rfl⟩ hst
       |((repeat' first|(refine gS ?_;simp only[go_sem,hgd,hin,hli,hwx,hd1,hD2,hD3,hD4,hsh,hor,hii])|refine gA ?_|(refine gD (fun h=>?_) (fun h=>?_)<;>try exact aA h)|fail);exact fin)
     ·have hD4:decide ((x:Int)<128)=false:=eT h128
      rw[zAb h128]at ht2
      have han:=aKo (d:=x) (by omega) (by omega)
      have hor:=aGz hn hn7 (d:=x-128) (by omega)
      have fin:∃y:Nat×Int,(y.1≤b.length∧0≤y.2∧cQ b=qL y.2 (decide (y.1=0)) (b.drop y.1))∧b.length-y.1<b.length-i∧AV.int .i64 (n * 128+((x-128:Nat):Int))=AV.int .i64 y.2∧AV.int .i64 ((i+1:Nat):Int)=AV.int .i64 y.1:=by
       refine⟨(i+1,n * 128+((x-128:Nat):Int)),⟨hin,by simp only;omega,?_⟩,by simp only;omega,rfl,rfl⟩
       rw[ht2]
       simp only[Nat.succ_ne_zero,zB4]
       rw[show((x-128:Nat):Int)=(x:Int)-128 by omega]
      cases D1<;>cases D2
      all_goals first
       |exact absurd ⟨rfl,rfl⟩ hst
       |((repeat' first|(refine gS ?_;simp only[go_sem,hgd,hin,hli,hwx,hd1,hD2,hD3,hD4,hsh,han,hor,hii])|refine gA ?_|(refine gD (fun h=>?_) (fun h=>?_)<;>try exact aA h)|fail);exact fin)
  ·have hie:i=b.length:=by omega
   subst hie
   rw[zA7,qL]at ht
   repeat' first|(refine gS ?_;simp only[go_sem,hin])|refine gA ?_|(refine gD (fun h=>?_) (fun h=>?_)<;>try exact aA h)|fail
   exact⟨(n,0),⟨zAn _,.inl ⟨rfl,ht⟩⟩,⟨rfl,rfl⟩⟩
 simp only at hk ⊢
 obtain⟨hkl,⟨rfl,ht⟩|⟨h0,ht⟩⟩:=hk
 ·unfold pF
  rw[ht]
  repeat' first|(refine gS ?_;simp only[go_sem])|refine gA ?_|(refine gD (fun h=>?_) (fun h=>?_)<;>try exact aA h)|fail
  exact bL (.refl _)
 ·unfold pF
  rw[ht]
  have hd:decide ((k:Int)=0)=false:=dF
  have hkb:(k≤b.length)=True:=zAI hkl
  repeat' first|(refine gS ?_;simp only[go_sem,hd,hkb])|refine gA ?_|(refine gD (fun h=>?_) (fun h=>?_)<;>try exact aA h)|fail
  exact bL (.refl _)
theorem aCO(b:Txt)(hb:b.length≤1073741824)(H:AHeap):bD Tryz.prog 187 [.str b] H (yW b):=by
 refine fO Tryz.func187 ?_
 have ht:=aCN b hb
 unfold pF at ht
 unfold yW pB
 cases hv:cQ b with
 |none=>
  simp only[hv]at ht
  repeat' first|(refine gS ?_;simp only[go_sem])|refine gA ?_|(refine gD (fun h=>?_) (fun h=>?_)<;>try exact aA h)|fail
  exact bL (.refl _)
 |some p=>
  obtain⟨n,r⟩:=p
  simp only[hv]at ht
  have hn:=aHQ _ _ _ _ _ (zCP 0) hv
  by_cases hlt:(r.length:Int)<n
  ·have hd:decide ((r.length:Int)<n)=true:=zAd hlt
   simp only[zAc hlt]
   repeat' first|(refine gS ?_;simp only[go_sem,hd])|refine gA ?_|(refine gD (fun h=>?_) (fun h=>?_)<;>try exact aA h)|fail
   exact bL (.refl _)
  ·have hd:decide ((r.length:Int)<n)=false:=eT hlt
   simp only[zAb hlt]
   obtain⟨k,rfl⟩:∃k:Nat,n=k:=⟨n.toNat,by omega⟩
   have hkr:(k≤r.length)=True:=zAI (by omega)
   repeat' first|(refine gS ?_;simp only[go_sem,hd,hkr])|refine gA ?_|(refine gD (fun h=>?_) (fun h=>?_)<;>try exact aA h)|fail
   exact bL (.refl _)
end Go.Proofs.YtolbeecicikoaaaGreatDoor
namespace Go.Proofs.YtolbeecicikoaaaGreatDoor
def sO(c:Cal):Bool:=decide (1000<(c.path.length:Int))||decide (1000<(c.to.length:Int))||decide (5000<(c.data.length:Int))
def tY(l:List Cal)(n:Int):Bool:=l.all (fun x=> !sO x)&&decide ((l.length:Int)≤n)
theorem aPi(a b:Evt):(decide (a.kind=b.kind)&&decide (a.path=b.path))=decide (a=b):=by
 obtain⟨_,_⟩:=a
 obtain⟨_,_⟩:=b
 rw[zA8];simp
theorem aGA(b1 b2:Bool)(l m:List Evt)(H:AHeap):bD Tryz.prog 34 [.sl b1 (l.map cY),.sl b2 (m.map cY)] H (.bool (decide (l=m))):=by
 refine eR fun hok _=>?_
 have hl:=jB hok
 rw[zAj]at hl
 refine fO Tryz.func34 ?_
 repeat' first|(refine gS ?_;simp only[go_sem])|refine gA ?_|(refine gD (fun h=>?_) (fun h=>?_)<;>try exact aA h)|fail
 ·exact bL (.of (by rw[eT (fun e=>by subst e;simp at h)]))
 ·have hlen:l.length=m.length:=by simp at h;omega
  refine aH (ι:=Nat) (fun i=>[(0,.sl b1 (l.map cY)),(1,.sl b2 (m.map cY)),(5,.int .i64 i)]) (fun _=>H) (fun i=>i≤l.length∧l.take i=m.take i) (fun i=>l.length-i) 0 ⟨zAn _,rfl⟩ ?_ rfl ?_
  ·simp[go_sem]
  ·rintro i ⟨hi,he⟩
   by_cases hlt:i<l.length
   ·have hp:=aJ cY hlt
    have hq:=aJ cY (show i<m.length by omega)
    repeat' first|(refine gS ?_;simp only[go_sem,hp,hq,cY])|refine gA ?_|(refine gD (fun h=>?_) (fun h=>?_)<;>try exact aA h)|fail
    ·rw[aPi]at h
     have hne:l[i]≠m[i]:=by simpa using h
     exact bL (.of (by rw[eT (fun e=>hne (by subst e;rfl))]))
    ·rw[aPi]at h
     have heq:l[i]=m[i]:=by simpa using h
     exact⟨i+1,⟨hlt,by rw[zAa hlt,zAa (by omega),he,heq]⟩,by omega,by rw[wI];rfl⟩
   ·have hi':i=l.length:=by omega
    subst hi'
    repeat' first|(refine gS ?_;simp only[go_sem])|refine gA ?_|(refine gD (fun h=>?_) (fun h=>?_)<;>try exact aA h)|fail
    exact bL (.of (by rw[zAd (by rw[zAq,hlen,zAq]at he;exact he)]))
theorem aNt(b1 b2:Bool)(l m:List Txt)(H:AHeap):bD Tryz.prog 33 [.sl b1 (l.map aE2),.sl b2 (m.map aE2)] H (.bool (decide (l=m))):=by
 refine eR fun hok _=>?_
 have hl:=jB hok
 rw[zAj]at hl
 refine fO Tryz.func33 ?_
 repeat' first|(refine gS ?_;simp only[go_sem])|refine gA ?_|(refine gD (fun h=>?_) (fun h=>?_)<;>try exact aA h)|fail
 ·exact bL (.of (by rw[eT (fun e=>by subst e;simp at h)]))
 ·have hlen:l.length=m.length:=by simp at h;omega
  refine aH (ι:=Nat) (fun i=>[(0,.sl b1 (l.map aE2)),(1,.sl b2 (m.map aE2)),(5,.int .i64 i)]) (fun _=>H) (fun i=>i≤l.length∧l.take i=m.take i) (fun i=>l.length-i) 0 ⟨zAn _,rfl⟩ ?_ rfl ?_
  ·simp[go_sem]
  ·rintro i ⟨hi,he⟩
   by_cases hlt:i<l.length
   ·have hp:=aJ aE2 hlt
    have hq:=aJ aE2 (show i<m.length by omega)
    repeat' first|(refine gS ?_;simp only[go_sem,hp,hq,aE2])|refine gA ?_|(refine gD (fun h=>?_) (fun h=>?_)<;>try exact aA h)|fail
    ·skip
     have hne:l[i]≠m[i]:=by simpa using h
     exact bL (.of (by rw[eT (fun e=>hne (by subst e;rfl))]))
    ·skip
     have heq:l[i]=m[i]:=by simpa using h
     exact⟨i+1,⟨hlt,by rw[zAa hlt,zAa (by omega),he,heq]⟩,by omega,by rw[wI];rfl⟩
   ·have hi':i=l.length:=by omega
    subst hi'
    repeat' first|(refine gS ?_;simp only[go_sem])|refine gA ?_|(refine gD (fun h=>?_) (fun h=>?_)<;>try exact aA h)|fail
    exact bL (.of (by rw[zAd (by rw[zAq,hlen,zAq]at he;exact he)]))
theorem aNu(b1:Bool)(l:List Cal)(n:Int)(H:AHeap):bD Tryz.prog 5 [.sl b1 (l.map fJ),.int .i64 n] H (.bool (tY l n)):=by
 refine eR fun hok _=>?_
 have hl:=jB hok
 rw[zAj]at hl
 refine fO Tryz.func5 ?_
 refine hG ?_
 refine aH (ι:=Nat) (fun i=>[(0,.sl b1 (l.map fJ)),(1,.int .i64 n),(5,.int .i64 i)]) (fun _=>H) (fun i=>i≤l.length∧∀x∈l.take i,sO x=false) (fun i=>l.length-i) 0 ⟨zAn _,by simp⟩ ?_ rfl ?_
 ·simp[go_sem]
 ·rintro i ⟨hi,he⟩
  by_cases hlt:i<l.length
  ·have hp:=aJ fJ hlt
   repeat' first|(refine gS ?_;simp only[go_sem,hp,fJ])|refine gA ?_|(refine gD (fun h=>?_) (fun h=>?_)<;>try exact aA h)|fail
   ·exact bL (.of (by
     have:tY l n=false:=by
      unfold tY
      rw[zBk]
      left
      rw[zB8]
      intro q
      have q2:=zAM.1 q l[i] (zAF _)
      have h':sO l[i]=true:=h
      rw[h']at q2;cases q2
     rw[this]))
   ·refine⟨i+1,⟨hlt,fun x hx=>?_⟩,by omega,by rw[wI];rfl⟩
    rw[zAa hlt,zAD]at hx
    rcases hx with hx|hx
    ·exact he x hx
    ·simp at hx;subst hx;exact h
  ·have hi':i=l.length:=by omega
   subst hi'
   repeat' first|(refine gS ?_;simp only[go_sem])|refine gA ?_|(refine gD (fun h=>?_) (fun h=>?_)<;>try exact aA h)|fail
   refine bL (.of ?_)
   rw[zAq]at he
   have:l.all (fun x=> !sO x)=true:=zAM.2 fun x hx=>by rw[he x hx];rfl
   rw[tY,this,zAB]
theorem aNv(b1 b2:Bool)(l m:List Txt)(H:AHeap):bD Tryz.prog 33 [.sl b1 (l.map AV.str),.sl b2 (m.map AV.str)] H (.bool (decide (l=m))):=aNt b1 b2 l m H
def jX(f2 f3:Bool)(a:Ans):AV:=.agg [.int .i64 a.err,.str a.data,.sl f2 (a.names.map AV.str),.int .i64 a.n,.sl f3 (a.events.map cY)]
@[go_sem] theorem aWf(f2 f3:Bool)(x:Ans):Pur (jX f2 f3 x)=True:=by simp only[jX,go_sem]
theorem aRg(a b:Ans):(decide (a.names=b.names)&&decide (a.events=b.events)&&decide (a.err=b.err)&&decide (a.data=b.data)&&decide (a.n=b.n))=decide (a=b):=by
 obtain⟨_,_,_,_,_⟩:=a
 obtain⟨_,_,_,_,_⟩:=b
 rw[zA8];simp;constructor<;>(intro h;simp_all)
theorem aNw(f2 f3 g2 g3:Bool)(a b:Ans)(H:AHeap):bD Tryz.prog 12 [jX f2 f3 a,jX g2 g3 b] H (.bool (decide (a=b))):=by
 refine fO Tryz.func12 ?_
 have h1:=aNv f2 g2 a.names b.names
 have h2:=aGA f3 g3 a.events b.events
 rw[←aRg]
 refine hK jX.eq_1 ?_
 refine dY (.of (zAp AV.bool ?_))
 generalize decide (a.names=b.names)=p1
 generalize decide (a.events=b.events)=p2
 cases p1<;>cases p2<;>simp[Bool.and_assoc]
end Go.Proofs.YtolbeecicikoaaaGreatDoor
