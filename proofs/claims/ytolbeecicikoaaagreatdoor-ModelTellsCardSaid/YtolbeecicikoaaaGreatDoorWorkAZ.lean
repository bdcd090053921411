/- The texts 26 of 53 beneath the rows of this seat (joined by program): the abstract machine, and what the functions answer. No condition. -/
import Derived.Test.YtolbeecicikoaaaGreatDoorWorkAN
import Derived.Test.YtolbeecicikoaaaGreatDoorWorkAR
import Derived.Test.YtolbeecicikoaaaGreatDoorWorkAS
set_option linter.unusedSimpArgs false
set_option linter.unusedVariables false
set_option linter.unusedSectionVars false
set_option maxRecDepth 100000
set_option maxHeartbeats 16000000
namespace Go.Proofs.YtolbeecicikoaaaGreatDoor
theorem aGJ{y:Nat}(h:y<256):IntKind.u8.wrap (y:Int)=(y:Int):=by simp[IntKind.wrap,IntKind.bits,IntKind.signed];omega
theorem aEb{n:Nat}(h:n<9223372036854775808):IntKind.i64.wrap ((n:Int).tdiv 128)=((n / 128:Nat):Int):=by
 rw[show((n:Int).tdiv 128)=((n / 128:Nat):Int)from by rw[zAY (by omega)];omega,wI]
theorem aNL:∀(k n:Nat),n≤k→n<9223372036854775808→∀H,bD Tryz.prog 211 [.int .i64 n] H (.str (aUi n)):=by
 have base:∀H,bD Tryz.prog 211 [.int .i64 ((0:Nat):Int)] H (.str (aUi 0)):=by
  intro H
  refine fO Tryz.func211 ?_
  rw[aVg]
  repeat' first|(refine gS ?_;simp only[go_sem])|refine gA ?_|(refine gD (fun h=>?_) (fun h=>?_)<;>try exact aA h)|fail
  exact bL (.refl _)
 intro k
 induction k with
 |zero=>intro n hn _ H;obtain rfl:n=0:=(by omega);exact base H
 |succ k ih=>
  intro n hn h63 H
  by_cases h0:n=0
  ·subst h0;exact base H
  ·refine fO Tryz.func211 ?_
   have hi:=ih (n / 128) (by omega) (by omega)
   have hz:decide ((n:Int)=0)=false:=dF
   have hq:=aEb h63
   have hm:(n:Int).tmod 128=((n % 128:Nat):Int):=nQ n 128
   have hw:IntKind.i64.wrap (((n % 128:Nat):Int)+128)=((n % 128+128:Nat):Int):=aI (by omega) (by omega)
   have hu:IntKind.u8.wrap ((n % 128+128:Nat):Int)=((n % 128+128:Nat):Int):=aGJ (by omega)
   have hhl:=aHO _ (n / 128) (zAh _)
   rw[aVh h0]
   repeat' first|(refine gS ?_;simp only[go_sem,hz,hq,hm,hw,hu,zB7,zAA,zBx])|refine gA ?_|(refine gD (fun h=>?_) (fun h=>?_)<;>try exact aA h)|fail
   exact bL (.refl _)
theorem aFw(n:Nat)(h63:n<9223372036854775808)(H:AHeap):bD Tryz.prog 190 [.int .i64 n] H (.str (aKi n)):=by
 refine fO Tryz.func190 ?_
 have hi:=aNL (n / 128) (n / 128) (zAh _) (by omega)
 have hq:=aEb h63
 have hm:(n:Int).tmod 128=((n % 128:Nat):Int):=nQ n 128
 have hu:IntKind.u8.wrap ((n % 128:Nat):Int)=((n % 128:Nat):Int):=aGJ (by omega)
 have hhl:=aHO _ (n / 128) (zAh _)
 unfold aKi
 repeat' first|(refine gS ?_;simp only[go_sem,hq,hm,hu,zB7,zAA,zBx])|refine gA ?_|(refine gD (fun h=>?_) (fun h=>?_)<;>try exact aA h)|fail
 exact bL (.refl _)
theorem aWh{i:Nat}(h:i≤8):128 ^ i≤72057594037927936:=zA2 (Nat.pow_le_pow_right (by omega) h) (by decide)
theorem aEc(b:Txt)(hb:b.length≤1073741824)(H:AHeap):bD Tryz.prog 163 [.str b] H (pF b):=by
 refine fO Tryz.func163 ?_
 repeat' first|(refine gS ?_;simp only[go_sem])|refine gA ?_|(refine gD (fun h=>?_) (fun h=>?_)<;>try exact aA h)|fail
 refine aH (ι:=Nat×Nat) (fun s=>[(0,.str b),(5,.int .i64 s.2),(6,.int .i64 s.1)]) (fun _=>H)
  (fun s=>s.1≤b.length∧s.1≤9∧s.2<128 ^ s.1∧(cQ b=none∨(s.1=0∨128 ^ (s.1-1)≤s.2)∧cQ b=qL s.2 (decide (s.1=0)) (b.drop s.1))) (fun s=>b.length-s.1) (0,0) ⟨zAn _,zAn _,by simp,.inr ⟨.inl rfl,rfl⟩⟩ ?_ rfl ?_
 ·simp[go_sem]
 rintro⟨i,n⟩ ⟨hi,h9,hn,ht⟩
 simp only at hi h9 hn ht ⊢
 by_cases hlt:i<b.length∧i<9
 ·obtain⟨hin,hi9⟩:=hlt
  have hli:decide ((i:Int)<(b.length:Int))=true:=dT
  have hl9:decide ((i:Int)<9)=true:=dT
  have hgd:b.getD i 0=b[i]:=by simp[hin]
  have hp8:=aWh (i:=i) (by omega)
  have hdr:=zAk hin
  have hu8:UInt8.ofNat b[i].toNat=b[i]:=UInt8.ofNat_toNat
  obtain⟨x,hxe⟩:∃x,x=b[i].toNat:=⟨_,rfl⟩
  have hx:x<256:=by rw[hxe];exact b[i].toNat_lt
  rw[hdr,aFa,←hxe]at ht
  have hwx:IntKind.i64.wrap (x:Int)=(x:Int):=wI
  have hmx:(x:Int).tmod 128=((x % 128:Nat):Int):=nQ x 128
  have hw1:IntKind.i64.wrap ((n:Int) * 128)=((n * 128:Nat):Int):=aI (by omega) (by omega)
  have hw2:IntKind.i64.wrap (((n * 128:Nat):Int)+((x % 128:Nat):Int))=((n * 128+x % 128:Nat):Int):=aI (by omega) (by omega)
  have hii:IntKind.i64.wrap ((i:Int)+1)=((i+1:Nat):Int):=aK hin (by omega)
  have hpw:(128:Nat) ^ (i+1)=128 ^ i * 128:=Nat.pow_succ ..
  have hbt:(b[i].toNat:Int)=(x:Int):=by rw[hxe]
  by_cases h128:x<128
  ·have hge:decide ((128:Int)≤(x:Int))=false:=dF
   have hone:=aFw (n * 128+x % 128) (by omega)
   have hsl:(i+1≤b.length)=True:=zAI hin
   by_cases he:aKi (n * 128+x % 128)=b.take (i+1)
   ·have hne:decide (aKi (n * 128+x % 128)=b.take (i+1))=true:=zAd he
    have hv:=aS6 (n:=n * 128+x % 128) (by omega) (b.drop (i+1))
    rw[he,zBl]at hv
    unfold pF
    rw[hv]
    repeat' first|(refine gS ?_;simp only[go_sem,hli,hl9,hgd,hin,hwx,hmx,hw1,hw2,hii,hbt,hge,hne,hsl])|refine gA ?_|(refine gD (fun h=>?_) (fun h=>?_)<;>try exact aA h)|fail
    exact bL (.refl _)
   ·have hne:decide (aKi (n * 128+x % 128)=b.take (i+1))=false:=eT he
    have hv:cQ b=none:=by
     rcases ht with ht|⟨-,ht⟩
     ·exact ht
     ·split at ht
      ·exact ht
      ·rw[zAc (by omega)]at ht
       obtain⟨-, -,h3⟩:=aFb ht
       exfalso;apply he
       have hm:((n:Int) * 128+(x:Int)).toNat=n * 128+x % 128:=by omega
       rw[hm]at h3
       have hlen:=zAp List.length h3
       rw[zAe,zAH]at hlen
       conv=>rhs;rw[h3]
       rw[List.take_append_of_le_length (by omega),zBh (by omega)]
    unfold pF
    rw[hv]
    repeat' first|(refine gS ?_;simp only[go_sem,hli,hl9,hgd,hin,hwx,hmx,hw1,hw2,hii,hbt,hge,hne,hsl])|refine gA ?_|(refine gD (fun h=>?_) (fun h=>?_)<;>try exact aA h)|fail
    exact bL (.refl _)
  ·have hge:decide ((128:Int)≤(x:Int))=true:=dT
   repeat' first|(refine gS ?_;simp only[go_sem,hli,hl9,hgd,hin,hwx,hmx,hw1,hw2,hii,hbt,hge])|refine gA ?_|(refine gD (fun h=>?_) (fun h=>?_)<;>try exact aA h)|fail
   refine⟨(i+1,n * 128+x % 128),⟨hin,by simp only;omega,by simp only[hpw];omega,?_⟩,by simp only;omega,⟨rfl,rfl⟩⟩
   simp only
   rcases ht with ht|⟨h0,ht⟩
   ·exact .inl ht
   ·split at ht
    ·exact .inl ht
    ·rename_i hc
     simp only[zBS,zAl,zAr,not_or,not_and]at hc
     rw[zAb (by omega)]at ht
     refine .inr ⟨.inr ?_,?_⟩
     ·rw[Nat.add_sub_cancel]
      rcases h0 with h0|h0
      ·subst h0
       have:=hc.1 rfl
       simp;omega
      ·cases i with
       |zero=>have:=hc.1 rfl;simp;omega
       |succ j=>
        rw[Nat.add_sub_cancel]at h0
        rw[Nat.pow_succ];omega
     ·rw[ht,show((n:Int) * 128+((x:Int)-128))=((n * 128+x % 128:Nat):Int) by omega]
      simp
 ·have hv:cQ b=none:=by
   rcases ht with ht|⟨h0,ht⟩
   ·exact ht
   ·rw[ht]
    by_cases hin:i<b.length
    ·have hi9:i=9:=by omega
     subst hi9
     rw[zAk hin,aFa,zAc]
     simp only[zBS,zAr]
     right
     rcases h0 with h0|h0
     ·cases h0
     ·have:(128:Nat) ^ (9-1)=72057594037927936:=by decide
      omega
    ·rw[zAN (by omega)];rfl
  unfold pF
  rw[hv]
  by_cases hin:i<b.length
  ·have hli:decide ((i:Int)<(b.length:Int))=true:=dT
   have hl9:decide ((i:Int)<9)=false:=dF
   repeat' first|(refine gS ?_;simp only[go_sem,hli,hl9])|refine gA ?_|(refine gD (fun h=>?_) (fun h=>?_)<;>try exact aA h)|fail
   exact bL (.refl _)
  ·have hli:decide ((i:Int)<(b.length:Int))=false:=dF
   repeat' first|(refine gS ?_;simp only[go_sem,hli])|refine gA ?_|(refine gD (fun h=>?_) (fun h=>?_)<;>try exact aA h)|fail
   exact bL (.refl _)
theorem aKX(b:Txt)(hb:b.length≤1073741824)(H:AHeap):bD Tryz.prog 164 [.str b] H (yW b):=by
 refine fO Tryz.func164 ?_
 have ht:=aEc b hb
 unfold yW pB
 unfold pF at ht
 cases hv:cQ b with
 |none=>
  rw[hv]at ht
  repeat' first|(refine gS ?_;simp only[go_sem])|refine gA ?_|(refine gD (fun h=>?_) (fun h=>?_)<;>try exact aA h)|fail
  exact bL (.refl _)
 |some p=>
  obtain⟨n,r⟩:=p
  rw[hv]at ht
  obtain⟨h0,h1,h2⟩:=aFb hv
  obtain⟨m,rfl⟩:∃m:Nat,n=(m:Int):=⟨n.toNat,by omega⟩
  simp only
  by_cases hl:(r.length:Int)<(m:Int)
  ·have hld:decide ((r.length:Int)<(m:Int))=true:=zAd hl
   rw[zAc hl]
   repeat' first|(refine gS ?_;simp only[go_sem,hld])|refine gA ?_|(refine gD (fun h=>?_) (fun h=>?_)<;>try exact aA h)|fail
   exact bL (.refl _)
  ·have hld:decide ((r.length:Int)<(m:Int))=false:=eT hl
   rw[zAb hl]
   have hk:(m≤r.length)=True:=zAI (by omega)
   repeat' first|(refine gS ?_;simp only[go_sem,hld,hk,zB7])|refine gA ?_|(refine gD (fun h=>?_) (fun h=>?_)<;>try exact aA h)|fail
   exact bL (.refl _)
theorem aGK(b t:Txt)(hb:b.length≤1152921504606846976)(ht:t.length≤1073741824)(H:AHeap):bD Tryz.prog 212 [.str b,.str t] H (.str (b++aPh t)):=by
 refine fO Tryz.func212 ?_
 have hone:=aFw t.length (by omega)
 have hol:=gY (n:=t.length) (by omega)
 unfold aPh
 repeat' first|(refine gS ?_;simp only[go_sem])|refine gA ?_|(refine gD (fun h=>?_) (fun h=>?_)<;>try exact aA h)|fail
 exact bL (.of (by simp only[zAu]))
theorem aB5(s:Txt):(bX s).length≤s.length:=by
 unfold bX
 split
 ·rename_i l h
  have:=wZ s _ 0 l h
  omega
 ·simp
theorem aGL(s:Txt)(hs:s.length≤1073741824)(H:AHeap):bD Tryz.prog 189 [.str s] H (.sl false ((bX s).map iY)):=by
 refine fO Tryz.func189 ?_
 have hal:=aKs s hs
 unfold bX
 cases hr:kB s with
 |some l=>
  rw[hr]at hal
  simp only[aAY]at hal
  repeat' first|(refine gS ?_;simp only[go_sem])|refine gA ?_|(refine gD (fun h=>?_) (fun h=>?_)<;>try exact aA h)|fail
  exact bL (.refl _)
 |none=>
  rw[hr]at hal
  simp only[aAY]at hal
  repeat' first|(refine gS ?_;simp only[go_sem])|refine gA ?_|(refine gD (fun h=>?_) (fun h=>?_)<;>try exact aA h)|fail
  refine gI 5 1 rfl ?_
  refine aH (ι:=Nat) (fun i=>[(0,.str s),(5,.osl 1 H.length (i+1) 0 i i),(6,.int .i64 i)]) (fun i=>H++[.cells (i+1) (((s.map fun b=>((b.toNat:Int)+1114112)).take i).map iY)]) (fun i=>i≤s.length) (fun i=>s.length-i) 0 (zAn _) ?_ ?_ ?_
  ·simp[go_sem]
  ·simp
  ·intro i hi
   have hln:(((s.map fun b=>((b.toNat:Int)+1114112)).take i).map iY).length=i:=by simp;omega
   have hln2:((s.map fun b=>((b.toNat:Int)+1114112)).take i).length=i:=by simp;omega
   by_cases hlt:i<s.length
   ·have hli:decide ((i:Int)<(s.length:Int))=true:=dT
    have hgd:s.getD i 0=s[i]:=by simp[hlt]
    have hx:=s[i].toNat_lt
    have hw1:IntKind.i64.wrap ((s[i].toNat:Nat):Int)=(s[i].toNat:Int):=wI
    have hw2:IntKind.i64.wrap (1114112+(s[i].toNat:Int))=(s[i].toNat:Int)+1114112:=by rw[wI];omega
    have htk:(s.map fun b=>((b.toNat:Int)+1114112)).take (i+1)=(s.map fun b=>((b.toNat:Int)+1114112)).take i++[(s[i].toNat:Int)+1114112]:=by
     rw[zAa (by simpa using hlt)];simp
    repeat' first|(refine gS ?_;simp only[go_sem,hli,hgd,hlt,hw1,hw2])|refine gA ?_|(refine gD (fun h=>?_) (fun h=>?_)<;>try exact aA h)|fail
    refine⟨⟨by omega,fun e he=>by rw[he];rfl,by omega⟩,?_⟩
    repeat' first|(refine gS ?_;simp only[go_sem,hw2])|refine gA ?_|(refine gD (fun h=>?_) (fun h=>?_)<;>try exact aA h)|fail
    exact⟨i+1,hlt,by omega,⟨rfl,zAp _ (aK hlt (by omega))⟩,by rw[htk,zBa];rfl⟩
   ·have hie:i=s.length:=by omega
    subst hie
    have hli:decide ((s.length:Int)<(s.length:Int))=false:=dF
    repeat' first|(refine gS ?_;simp only[go_sem,hli])|refine gA ?_|(refine gD (fun h=>?_) (fun h=>?_)<;>try exact aA h)|fail
    have htl:(s.map fun b=>((b.toNat:Int)+1114112)).take s.length=s.map fun b=>((b.toNat:Int)+1114112):=zBh (by simp)
    exact fN (es:=(s.map fun b=>((b.toNat:Int)+1114112)).map iY) (rest:=[]) (zAh _) (by simp only[go_sem];rfl) (by rw[zAg,lD,htl]) (by simp) (nH _) (fun e he=>by obtain⟨x,_,rfl⟩:=zAi.1 he;exact(by simp only[go_sem])) rfl
theorem aKY(a b:Txt)(ha:a.length≤1073741824)(hb:b.length≤1073741824)(H:AHeap):bD Tryz.prog 162 [.str a,.str b] H (.bool (kG a b)):=by
 refine fO Tryz.func162 ?_
 have hk1:=aGL a ha
 have hk2:=aGL b hb
 have l1:=aB5 a
 have l2:=aB5 b
 unfold kG
 generalize bX a=x at *
 generalize bX b=y at *
 repeat' first|(refine gS ?_;simp only[go_sem])|refine gA ?_|(refine gD (fun h=>?_) (fun h=>?_)<;>try exact aA h)|fail
 refine aH (ι:=Nat) (fun i=>[(5,.sl false (x.map iY)),(6,.sl false (y.map iY)),(7,.int .i64 i)]) (fun _=>H) (fun i=>i≤x.length∧i≤y.length∧fK x y=fK (x.drop i) (y.drop i)) (fun i=>x.length-i) 0 ⟨zAn _,zAn _,rfl⟩ ?_ rfl ?_
 ·simp[go_sem]
 rintro i ⟨h1,h2,hc⟩
 by_cases hx:i<x.length
 ·have hlx:decide ((i:Int)<(x.length:Int))=true:=dT
  by_cases hy:i<y.length
  ·have hly:decide ((i:Int)<(y.length:Int))=true:=dT
   have hp:=aJ iY hx
   have hq:=aJ iY hy
   rw[zAk hx,zAk hy,fK]at hc
   by_cases he:x[i]=y[i]
   ·have hed:decide (x[i]=y[i])=true:=zAd he
    rw[zAb (by omega),zAb (by omega)]at hc
    repeat' first|(refine gS ?_;simp only[go_sem,hlx,hly,hp,hq,hed,iY])|refine gA ?_|(refine gD (fun h=>?_) (fun h=>?_)<;>try exact aA h)|fail
    exact⟨i+1,⟨hx,hy,hc⟩,by omega,zAp _ (aK hx (by omega))⟩
   ·have hed:decide (x[i]=y[i])=false:=eT he
    have hr:decide (fK x y<0)=decide (x[i]<y[i]):=by
     rw[hc]
     by_cases hl:x[i]<y[i]
     ·rw[zAc hl];simp[hl]
     ·rw[zAb hl,zAc (by omega)];simp[hl]
    rw[hr]
    repeat' first|(refine gS ?_;simp only[go_sem,hlx,hly,hp,hq,hed,iY])|refine gA ?_|(refine gD (fun h=>?_) (fun h=>?_)<;>try exact aA h)|fail
    exact bL (.refl _)
  ·have hly:decide ((i:Int)<(y.length:Int))=false:=dF
   have hr:decide (fK x y<0)=decide ((x.length:Int)<(y.length:Int)):=by
    rw[hc,zAk hx,zAN (show y.length≤i by omega),fK,eT (by omega:¬(x.length:Int)<(y.length:Int))]
    rfl
   rw[hr]
   repeat' first|(refine gS ?_;simp only[go_sem,hlx,hly])|refine gA ?_|(refine gD (fun h=>?_) (fun h=>?_)<;>try exact aA h)|fail
   exact bL (.refl _)
 ·have hlx:decide ((i:Int)<(x.length:Int))=false:=dF
  have hr:decide (fK x y<0)=decide ((x.length:Int)<(y.length:Int)):=by
   rw[hc,zAN (show x.length≤i by omega)]
   by_cases hy:i<y.length
   ·rw[zAk hy,fK,zAd (by omega:(x.length:Int)<(y.length:Int))]
    rfl
   ·rw[zAN (show y.length≤i by omega),show fK [] []=0 from rfl,eT (by omega:¬(x.length:Int)<(y.length:Int))]
    rfl
  rw[hr]
  repeat' first|(refine gS ?_;simp only[go_sem,hlx])|refine gA ?_|(refine gD (fun h=>?_) (fun h=>?_)<;>try exact aA h)|fail
  exact bL (.refl _)
end Go.Proofs.YtolbeecicikoaaaGreatDoor
