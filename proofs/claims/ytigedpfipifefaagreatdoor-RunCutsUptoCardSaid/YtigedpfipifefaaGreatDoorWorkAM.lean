/- What the functions of this seat answer (13 of 40). No condition. -/
import Derived.Test.YtigedpfipifefaaGreatDoorWorkAL
set_option linter.unusedSimpArgs false
set_option linter.unusedVariables false
set_option maxRecDepth 100000
set_option maxHeartbeats 16000000
namespace Go.Proofs.YtigedpfipifefaaGreatDoor
theorem vH{n:Int}{d:Nat}(h0:0≤n)(h1:n≤72057594037927935)(hd:d<128):aY .or .i64 (n * 128) (d:Int)=n * 128+d:=by
 obtain⟨m,rfl⟩:∃m:Nat,n=m:=⟨n.toNat,by omega⟩
 have e1:BitVec.ofInt 64 ((m:Int) * 128)=BitVec.ofNat 64 (m * 128):=by rw[show((m:Int) * 128)=((m * 128:Nat):Int) by omega];exact zBA ..
 have e2:BitVec.ofInt 64 (d:Int)=BitVec.ofNat 64 d:=zBA ..;show IntKind.i64.wrap ((BitVec.ofInt 64 ((m:Int) * 128)|||BitVec.ofInt 64 (d:Int)).toNat:Int)=_
 rw[e1,e2,BitVec.toNat_or,zBv,zBv,zBm (by omega),zBm (by omega)]
 have e3:=Nat.shiftLeft_add_eq_or_of_lt (b:=d) (i:=7) (by omega) m
 rw[Nat.shiftLeft_eq]at e3;rw[show m * 128=m * 2 ^ 7 by omega,←e3,wI]
 omega
theorem aDT{d:Nat}(h1:128≤d)(hd:d<256):aY .and .i64 (d:Int) 127=((d-128:Nat):Int):=by
 have e2:BitVec.ofInt 64 (d:Int)=BitVec.ofNat 64 d:=zBA ..;have e1:BitVec.ofInt 64 (127:Int)=BitVec.ofNat 64 127:=rfl;show IntKind.i64.wrap ((BitVec.ofInt 64 (d:Int)&&&BitVec.ofInt 64 (127:Int)).toNat:Int)=_;rw[e1,e2,BitVec.toNat_and,zBv,zBv,zBm (by omega),zBm (by omega)]
 have e3:=Nat.and_two_pow_sub_one_eq_mod d 7;rw[show 127=2 ^ 7-1 by omega,e3,wI]
 omega
theorem aBU:∀(b:Txt) (n:Int) (f:Bool) (m:Int) (r:Txt),fP n f b=some (m,r)→r.length<b.length:=by
 intro b;induction b with
 |nil=>intro n f m r h;cases h
 |cons x b ih=>
  intro n f m r h;rw[fP]at h;split at h
  ·cases h
  ·split at h
   ·cases h;simp
   ·have:=ih _ _ _ _ h;rw[zAt];omega
theorem bR{b:Txt}{m:Int}{r:Txt}(h:bK b=some (m,r)):r.length<b.length:=aBU _ _ _ _ _ h
theorem tT:∀(b:Txt) (n:Int) (f:Bool) (m:Int) (r:Txt),0≤n→fP n f b=some (m,r)→0≤m∧m≤9223372036854775807:=by
 intro b;induction b with
 |nil=>intro n f m r _ h;cases h
 |cons x b ih=>
  intro n f m r h0 h;have hx:=x.toNat_lt;rw[fP]at h;split at h
  ·cases h
  ·rename_i hc;simp only[Bool.or_eq_true,zAz,not_or]at hc;split at h
   ·cases h;omega
   ·exact ih _ _ _ _ (by omega) h
def pD(b:Txt):AV:=match bK b with
 |none=>.tup [.int .i64 0,.str [],.int .i64 40]
 |some (n,r)=>.tup [.int .i64 n,.str r,.int .i64 0]
def xP(b:Txt):AV:=match eZ b with
 |none=>.tup [.str [],.str [],.int .i64 40]
 |some (t,r)=>.tup [.str t,.str r,.int .i64 0]
theorem nH(b:Txt)(hb:b.length≤1073741824)(H:AHeap):bJ Tryz.prog 38 [.str b] H (pD b):=by
 refine fO Tryz.func38 ?_;repeat' first|(refine gS ?_;simp only[go_sem])|refine hU ?_|fail
 refine dU (ι:=Int×Nat) (fun s=>[(0,.str b),(2,.int .i64 0),(3,.str []),(4,.int .i64 0),(5,.int .i64 s.1),(6,.int .i64 s.2)]) (fun _=>H) (fun s=>s.2≤b.length∧(s.2=0∧bK b=none∨0<s.2∧bK b=some (s.1,b.drop s.2))) ?_ fun⟨n,k⟩ hk=>?_
 ·refine aH (ι:=Nat×Int) (fun s=>[(0,.str b),(2,.int .i64 0),(3,.str []),(4,.int .i64 0),(5,.int .i64 s.2),(6,.int .i64 0),(10,.int .i64 b.length),(11,.int .i64 s.1)]) (fun _=>H)
   (fun s=>s.1≤b.length∧0≤s.2∧bK b=fP s.2 (decide (s.1=0)) (b.drop s.1)) (fun s=>b.length-s.1) (0,0) ⟨zAv _,Int.le_refl _,rfl⟩ ?_ rfl ?_
  ·simp[go_sem]
  rintro⟨i,n⟩ ⟨hi,hn,ht⟩;simp only at hi hn ht ⊢;by_cases hin:i<b.length
  ·have hdr:=zA4 hin;rw[hdr,fP]at ht;have hx:=b[i].toNat_lt;have hgd:b.getD i 0=b[i]:=by simp[hin]
   obtain⟨x,hxe⟩:∃x,x=b[i].toNat:=⟨_,rfl⟩;rw[←hxe]at ht hx;have hli:decide ((i:Int)<(b.length:Int))=true:=dT;have hwx:IntKind.i64.wrap ((b[i].toNat:Nat):Int)=(x:Int):=by rw[←hxe];exact wI
   have hii:IntKind.i64.wrap ((i:Int)+1)=((i+1:Nat):Int):=cA hin (by omega)
   obtain⟨D1,hD1⟩:∃D,decide (i=0)=D:=⟨_,rfl⟩;obtain⟨D2,hD2⟩:∃D,decide ((x:Int)=128)=D:=⟨_,rfl⟩;obtain⟨D3,hD3⟩:∃D,decide (72057594037927935<n)=D:=⟨_,rfl⟩;have hd1:decide ((i:Int)=0)=D1:=by rw[←hD1];exact decide_eq_decide.2 (by omega)
   rw[hD1,hD2,hD3]at ht;have stop:bK b=none→∃y:Int×Nat,(y.2≤b.length∧(y.2=0∧bK b=none∨0<y.2∧bK b=some (y.1,b.drop y.2)))∧AV.int .i64 n=AV.int .i64 y.1∧AV.int .i64 0=AV.int .i64 y.2:=fun h=>⟨(n,0),⟨zAv _,.inl ⟨rfl,h⟩⟩,rfl,rfl⟩
   cases D3 with
   |true=>
    have hs:bK b=none:=by rw[ht];cases D1<;>cases D2<;>rfl
    cases D1<;>cases D2;all_goals
     repeat' first|(refine gS ?_;simp only[go_sem,hgd,hin,hli,hwx,hd1,hD2,hD3])|refine hU ?_|fail
     exact stop hs
   |false=>
    have hn7:n≤72057594037927935:=by have:=of_decide_eq_false hD3;omega
    have hsh:IntKind.i64.wrap (n * 2 ^ min 7 64)=n * 128:=by rw[show(2:Int) ^ min 7 64=128 by decide,wI]
    by_cases hst:D1=true∧D2=true
    ·obtain⟨rfl,rfl⟩:=hst;repeat' first|(refine gS ?_;simp only[go_sem,hgd,hin,hli,hwx,hd1,hD2,hD3])|refine hU ?_|fail
     exact stop ht
    ·have ht2:bK b=if(x:Int)<128 then some (n * 128+x,List.drop (i+1) b)else fP (n * 128+(x-128)) false (List.drop (i+1) b):=by
      rw[ht];cases D1<;>cases D2<;>first|rfl|exact absurd ⟨rfl,rfl⟩ hst
     by_cases h128:(x:Int)<128
     ·have hD4:decide ((x:Int)<128)=true:=zAg h128;have hor:=vH hn hn7 (d:=x) (by omega)
      rw[zAp h128]at ht2;have fin:∃y:Int×Nat,(y.2≤b.length∧(y.2=0∧bK b=none∨0<y.2∧bK b=some (y.1,b.drop y.2)))∧AV.int .i64 (n * 128+x)=AV.int .i64 y.1∧AV.int .i64 ((i+1:Nat):Int)=AV.int .i64 y.2:=⟨(n * 128+x,i+1),⟨hin,.inr ⟨Nat.succ_pos _,ht2⟩⟩,rfl,rfl⟩;cases D1<;>cases D2;all_goals first
       |exact absurd ⟨rfl,rfl⟩ hst
       |((repeat' first|(refine gS ?_;simp only[go_sem,hgd,hin,hli,hwx,hd1,hD2,hD3,hD4,hsh,hor,hii])|refine hU ?_|fail);exact fin)
     ·have hD4:decide ((x:Int)<128)=false:=zAh h128;rw[zAk h128]at ht2;have han:=aDT (d:=x) (by omega) (by omega)
      have hor:=vH hn hn7 (d:=x-128) (by omega)
      have fin:∃y:Nat×Int,(y.1≤b.length∧0≤y.2∧bK b=fP y.2 (decide (y.1=0)) (b.drop y.1))∧b.length-y.1<b.length-i∧AV.int .i64 (n * 128+((x-128:Nat):Int))=AV.int .i64 y.2∧AV.int .i64 ((i+1:Nat):Int)=AV.int .i64 y.1:=by
       refine⟨(i+1,n * 128+((x-128:Nat):Int)),⟨hin,by simp only;omega,?_⟩,by simp only;omega,rfl,rfl⟩
       rw[ht2];simp only[Nat.succ_ne_zero,zBV];rw[show((x-128:Nat):Int)=(x:Int)-128 by omega]
      cases D1<;>cases D2;all_goals first
       |exact absurd ⟨rfl,rfl⟩ hst
       |((repeat' first|(refine gS ?_;simp only[go_sem,hgd,hin,hli,hwx,hd1,hD2,hD3,hD4,hsh,han,hor,hii])|refine hU ?_|fail);exact fin)
  ·have hie:i=b.length:=by omega
   subst hie;rw[List.drop_length,fP]at ht;repeat' first|(refine gS ?_;simp only[go_sem,hin])|refine hU ?_|fail
   exact⟨(n,0),⟨zAv _,.inl ⟨rfl,ht⟩⟩,⟨rfl,rfl⟩⟩
 simp only at hk ⊢;obtain⟨hkl,⟨rfl,ht⟩|⟨h0,ht⟩⟩:=hk
 ·unfold pD;rw[ht];repeat' first|(refine gS ?_;simp only[go_sem])|refine hU ?_|fail
  exact cU (.refl _)
 ·unfold pD;rw[ht];have hd:decide ((k:Int)=0)=false:=dF;have hkb:(k≤b.length)=True:=zBf hkl;repeat' first|(refine gS ?_;simp only[go_sem,hd,hkb])|refine hU ?_|fail
  exact cU (.refl _)
theorem vI(b:Txt)(hb:b.length≤1073741824)(H:AHeap):bJ Tryz.prog 40 [.str b] H (xP b):=by
 refine fO Tryz.func40 ?_;have ht:=nH b hb;unfold pD at ht;unfold xP eZ;cases hv:bK b with
 |none=>
  simp only[hv]at ht;repeat' first|(refine gS ?_;simp only[go_sem])|refine hU ?_|fail
  exact cU (.refl _)
 |some p=>
  obtain⟨n,r⟩:=p;simp only[hv]at ht;have hn:=tT _ _ _ _ _ (Int.le_refl 0) hv;by_cases hlt:(r.length:Int)<n
  ·have hd:decide ((r.length:Int)<n)=true:=zAg hlt;simp only[zAp hlt];repeat' first|(refine gS ?_;simp only[go_sem,hd])|refine hU ?_|fail
   exact cU (.refl _)
  ·have hd:decide ((r.length:Int)<n)=false:=zAh hlt;simp only[zAk hlt];obtain⟨k,rfl⟩:∃k:Nat,n=k:=⟨n.toNat,by omega⟩
   have hkr:(k≤r.length)=True:=zBf (by omega)
   repeat' first|(refine gS ?_;simp only[go_sem,hd,hkr])|refine hU ?_|fail
   exact cU (.refl _)
end Go.Proofs.YtigedpfipifefaaGreatDoor
