/- The texts 26 of 51 beneath the rows of this seat (joined by program): the abstract machine, and what the functions answer. No condition. -/
import Derived.Test.YthhdnjiodklmmaaGreatDoorWorkAE
import Derived.Test.YthhdnjiodklmmaaGreatDoorWorkAU
set_option linter.unusedSimpArgs false
set_option linter.unusedVariables false
set_option linter.unusedSectionVars false
/- vlq.Take and TakeText: what they answer. No condition but the length of the bytes. -/
namespace Go.Gw
open Go Go.Aw Go.Proofs.YthhdnjiodklmmaaGreatDoor
theorem aF2{n:Int}{d:Nat}(h0:0≤n)(h1:n≤72057594037927935)(hd:d<128):cX .or .i64 (n * 128) (d:Int)=n * 128+d:=by
 obtain⟨m,rfl⟩:∃m:Nat,n=m:=⟨n.toNat,by omega⟩
 have e1:BitVec.ofInt 64 ((m:Int) * 128)=BitVec.ofNat 64 (m * 128):=by rw[show((m:Int) * 128)=((m * 128:Nat):Int) by omega];exact BitVec.ofInt_natCast ..
 have e2:BitVec.ofInt 64 (d:Int)=BitVec.ofNat 64 d:=BitVec.ofInt_natCast ..
 show IntKind.i64.wrap ((BitVec.ofInt 64 ((m:Int) * 128)|||BitVec.ofInt 64 (d:Int)).toNat:Int)=_
 rw[e1,e2,BitVec.toNat_or,BitVec.toNat_ofNat,BitVec.toNat_ofNat,Nat.mod_eq_of_lt (by omega),Nat.mod_eq_of_lt (by omega)]
 have e3:=Nat.shiftLeft_add_eq_or_of_lt (b:=d) (i:=7) (by omega) m
 rw[Nat.shiftLeft_eq]at e3
 rw[show m * 128=m * 2 ^ 7 by omega,←e3,wrap_i64 (by omega) (by omega)]
 omega
theorem aJM{d:Nat}(h1:128≤d)(hd:d<256):cX .and .i64 (d:Int) 127=((d-128:Nat):Int):=by
 have e2:BitVec.ofInt 64 (d:Int)=BitVec.ofNat 64 d:=BitVec.ofInt_natCast ..
 have e1:BitVec.ofInt 64 (127:Int)=BitVec.ofNat 64 127:=rfl
 show IntKind.i64.wrap ((BitVec.ofInt 64 (d:Int)&&&BitVec.ofInt 64 (127:Int)).toNat:Int)=_
 rw[e1,e2,BitVec.toNat_and,BitVec.toNat_ofNat,BitVec.toNat_ofNat,Nat.mod_eq_of_lt (by omega),Nat.mod_eq_of_lt (by omega)]
 have e3:=Nat.and_two_pow_sub_one_eq_mod d 7
 rw[show 127=2 ^ 7-1 by omega,e3,wrap_i64 (by omega) (by omega)]
 omega
theorem aHn:∀(b:Txt) (n:Int) (f:Bool) (m:Int) (r:Txt),qN n f b=some (m,r)→r.length<b.length:=by
 intro b
 induction b with
 |nil=>intro n f m r h;cases h
 |cons x b ih=>
  intro n f m r h
  rw[qN]at h
  split at h
  ·cases h
  ·split at h
   ·cases h;simp
   ·have:=ih _ _ _ _ h;rw[List.length_cons];omega
theorem fU{b:Txt}{m:Int}{r:Txt}(h:dP b=some (m,r)):r.length<b.length:=aHn _ _ _ _ _ h
theorem aHo:∀(b:Txt) (n:Int) (f:Bool) (m:Int) (r:Txt),0≤n→qN n f b=some (m,r)→0≤m∧m≤9223372036854775807:=by
 intro b
 induction b with
 |nil=>intro n f m r _ h;cases h
 |cons x b ih=>
  intro n f m r h0 h
  have hx:=x.toNat_lt
  rw[qN]at h
  split at h
  ·cases h
  ·rename_i hc
   simp only[Bool.or_eq_true,decide_eq_true_eq,not_or]at hc
   split at h
   ·cases h;omega
   ·exact ih _ _ _ _ (by omega) h
def aAN(b:Txt):AV:=match dP b with
 |none=>.tup [.int .i64 0,.str [],.int .i64 40]
 |some (n,r)=>.tup [.int .i64 n,.str r,.int .i64 0]
def aDy(b:Txt):AV:=match qO b with
 |none=>.tup [.str [],.str [],.int .i64 40]
 |some (t,r)=>.tup [.str t,.str r,.int .i64 0]
end Go.Gw
namespace Go.Proofs.YthhdnjiodklmmaaGreatDoor
open Go Go.Aw Go.Gw
set_option linter.unusedSimpArgs false
set_option linter.unusedVariables false
set_option maxRecDepth 20000
set_option maxHeartbeats 4000000
theorem aCC(b:Txt)(hb:b.length≤1073741824)(H:AHeap):cJ Tryz.prog 234 [.str b] H (aAN b):=by
 refine aL Tryz.func234 rfl (Nat.le_of_ble_eq_true rfl) ?_
 repeat' first|(refine gS ?_;simp only[go_sem])|refine gA ?_|(refine gD (fun h=>?_) (fun h=>?_)<;>try exact aA h)|fail
 refine iC (ι:=Int×Nat) (fun s=>[(0,.str b),(2,.int .i64 0),(3,.str []),(4,.int .i64 0),(5,.int .i64 s.1),(6,.int .i64 s.2)]) (fun _=>H) (fun s=>s.2≤b.length∧(s.2=0∧dP b=none∨0<s.2∧dP b=some (s.1,b.drop s.2))) ?_ fun⟨n,k⟩ hk=>?_
 ·refine aP (ι:=Nat×Int) (fun s=>[(0,.str b),(2,.int .i64 0),(3,.str []),(4,.int .i64 0),(5,.int .i64 s.2),(6,.int .i64 0),(10,.int .i64 b.length),(11,.int .i64 s.1)]) (fun _=>H)
   (fun s=>s.1≤b.length∧0≤s.2∧dP b=qN s.2 (decide (s.1=0)) (b.drop s.1)) (fun s=>b.length-s.1) (0,0) ⟨Nat.zero_le _,Int.le_refl _,rfl⟩ ?_ rfl ?_
  ·simp[go_sem]
  rintro⟨i,n⟩ ⟨hi,hn,ht⟩
  simp only at hi hn ht ⊢
  by_cases hin:i<b.length
  ·have hdr:=List.drop_eq_getElem_cons hin
   rw[hdr,qN]at ht
   have hx:=b[i].toNat_lt
   have hgd:b.getD i 0=b[i]:=by simp[hin]
   obtain⟨x,hxe⟩:∃x,x=b[i].toNat:=⟨_,rfl⟩
   rw[←hxe]at ht hx
   have hli:decide ((i:Int)<(b.length:Int))=true:=decide_eq_true (by omega)
   have hwx:IntKind.i64.wrap ((b[i].toNat:Nat):Int)=(x:Int):=by rw[←hxe];exact wrap_i64 (by omega) (by omega)
   have hii:IntKind.i64.wrap ((i:Int)+1)=((i+1:Nat):Int):=bD hin (by omega)
   obtain⟨D1,hD1⟩:∃D,decide (i=0)=D:=⟨_,rfl⟩
   obtain⟨D2,hD2⟩:∃D,decide ((x:Int)=128)=D:=⟨_,rfl⟩
   obtain⟨D3,hD3⟩:∃D,decide (72057594037927935<n)=D:=⟨_,rfl⟩
   have hd1:decide ((i:Int)=0)=D1:=by rw[←hD1];exact decide_eq_decide.2 (by omega)
   rw[hD1,hD2,hD3]at ht
   have stop:dP b=none→∃y:Int×Nat,(y.2≤b.length∧(y.2=0∧dP b=none∨0<y.2∧dP b=some (y.1,b.drop y.2)))∧AV.int .i64 n=AV.int .i64 y.1∧AV.int .i64 0=AV.int .i64 y.2:=fun h=>⟨(n,0),⟨Nat.zero_le _,.inl ⟨rfl,h⟩⟩,rfl,rfl⟩
   cases D3 with
   |true=>
    have hs:dP b=none:=by rw[ht];cases D1<;>cases D2<;>rfl
    cases D1<;>cases D2
    all_goals
     repeat' first|(refine gS ?_;simp only[go_sem,hgd,hin,hli,hwx,hd1,hD2,hD3])|refine gA ?_|(refine gD (fun h=>?_) (fun h=>?_)<;>try exact aA h)|fail
     exact stop hs
   |false=>
    have hn7:n≤72057594037927935:=by have:=of_decide_eq_false hD3;omega
    have hsh:IntKind.i64.wrap (n * 2 ^ min 7 64)=n * 128:=by rw[show(2:Int) ^ min 7 64=128 by decide,wrap_i64 (by omega) (by omega)]
    by_cases hst:D1=true∧D2=true
    ·obtain⟨rfl,rfl⟩:=hst
     repeat' first|(refine gS ?_;simp only[go_sem,hgd,hin,hli,hwx,hd1,hD2,hD3])|refine gA ?_|(refine gD (fun h=>?_) (fun h=>?_)<;>try exact aA h)|fail
     exact stop ht
    ·have ht2:dP b=if(x:Int)<128 then some (n * 128+x,List.drop (i+1) b)else qN (n * 128+(x-128)) false (List.drop (i+1) b):=by
      rw[ht];cases D1<;>cases D2<;>first|rfl|exact absurd ⟨rfl,rfl⟩ hst
     by_cases h128:(x:Int)<128
     ·have hD4:decide ((x:Int)<128)=true:=decide_eq_true h128
      have hor:=aF2 hn hn7 (d:=x) (by omega)
      rw[if_pos h128]at ht2
      have fin:∃y:Int×Nat,(y.2≤b.length∧(y.2=0∧dP b=none∨0<y.2∧dP b=some (y.1,b.drop y.2)))∧AV.int .i64 (n * 128+x)=AV.int .i64 y.1∧AV.int .i64 ((i+1:Nat):Int)=AV.int .i64 y.2:=⟨(n * 128+x,i+1),⟨hin,.inr ⟨Nat.succ_pos _,ht2⟩⟩,rfl,rfl⟩
      cases D1<;>cases D2
      all_goals first
       |exact absurd ⟨rfl,rfl⟩ hst
       |((repeat' first|(refine gS ?_;simp only[go_sem,hgd,hin,hli,hwx,hd1,hD2,hD3,hD4,hsh,hor,hii])|refine gA ?_|(refine gD (fun h=>?_) (fun h=>?_)<;>try exact aA h)|fail);exact fin)
     ·have hD4:decide ((x:Int)<128)=false:=decide_eq_false h128
      rw[if_neg h128]at ht2
      have han:=aJM (d:=x) (by omega) (by omega)
      have hor:=aF2 hn hn7 (d:=x-128) (by omega)
      have fin:∃y:Nat×Int,(y.1≤b.length∧0≤y.2∧dP b=qN y.2 (decide (y.1=0)) (b.drop y.1))∧b.length-y.1<b.length-i∧AV.int .i64 (n * 128+((x-128:Nat):Int))=AV.int .i64 y.2∧AV.int .i64 ((i+1:Nat):Int)=AV.int .i64 y.1:=by
       refine⟨(i+1,n * 128+((x-128:Nat):Int)),⟨hin,by simp only;omega,?_⟩,by simp only;omega,rfl,rfl⟩
       rw[ht2]
       simp only[Nat.succ_ne_zero,decide_false]
       rw[show((x-128:Nat):Int)=(x:Int)-128 by omega]
      cases D1<;>cases D2
      all_goals first
       |exact absurd ⟨rfl,rfl⟩ hst
       |((repeat' first|(refine gS ?_;simp only[go_sem,hgd,hin,hli,hwx,hd1,hD2,hD3,hD4,hsh,han,hor,hii])|refine gA ?_|(refine gD (fun h=>?_) (fun h=>?_)<;>try exact aA h)|fail);exact fin)
  ·have hie:i=b.length:=by omega
   subst hie
   rw[List.drop_length,qN]at ht
   repeat' first|(refine gS ?_;simp only[go_sem,hin])|refine gA ?_|(refine gD (fun h=>?_) (fun h=>?_)<;>try exact aA h)|fail
   exact⟨(n,0),⟨Nat.zero_le _,.inl ⟨rfl,ht⟩⟩,⟨rfl,rfl⟩⟩
 simp only at hk ⊢
 obtain⟨hkl,⟨rfl,ht⟩|⟨h0,ht⟩⟩:=hk
 ·unfold aAN
  rw[ht]
  repeat' first|(refine gS ?_;simp only[go_sem])|refine gA ?_|(refine gD (fun h=>?_) (fun h=>?_)<;>try exact aA h)|fail
  exact aY (by simp only[go_sem]) (.refl _)
 ·unfold aAN
  rw[ht]
  have hd:decide ((k:Int)=0)=false:=decide_eq_false (by omega)
  have hkb:(k≤b.length)=True:=eq_true hkl
  repeat' first|(refine gS ?_;simp only[go_sem,hd,hkb])|refine gA ?_|(refine gD (fun h=>?_) (fun h=>?_)<;>try exact aA h)|fail
  exact aY (by simp only[go_sem]) (.refl _)
theorem aCD(b:Txt)(hb:b.length≤1073741824)(H:AHeap):cJ Tryz.prog 206 [.str b] H (aDy b):=by
 refine aL Tryz.func206 rfl (Nat.le_of_ble_eq_true rfl) ?_
 have ht:=aCC b hb
 unfold aAN at ht
 unfold aDy qO
 cases hv:dP b with
 |none=>
  simp only[hv]at ht
  have ct0:=ct ht dU;repeat' first|((first|refine gK ?_|refine gS ?_);simp only[go_sem])|refine gA ?_|(refine gD (fun h=>?_) (fun h=>?_)<;>try exact aA h)|fail
  exact aY (by simp only[go_sem]) (.refl _)
 |some p=>
  obtain⟨n,r⟩:=p
  simp only[hv]at ht
  have hn:=aHo _ _ _ _ _ (Int.le_refl 0) hv
  by_cases hlt:(r.length:Int)<n
  ·have hd:decide ((r.length:Int)<n)=true:=decide_eq_true hlt
   simp only[if_pos hlt]
   have ct0:=ct ht dU;repeat' first|((first|refine gK ?_|refine gS ?_);simp only[go_sem,hd])|refine gA ?_|(refine gD (fun h=>?_) (fun h=>?_)<;>try exact aA h)|fail
   exact aY (by simp only[go_sem]) (.refl _)
  ·have hd:decide ((r.length:Int)<n)=false:=decide_eq_false hlt
   simp only[if_neg hlt]
   obtain⟨k,rfl⟩:∃k:Nat,n=k:=⟨n.toNat,by omega⟩
   have hkr:(k≤r.length)=True:=eq_true (by omega)
   have ct0:=ct ht dU;repeat' first|((first|refine gK ?_|refine gS ?_);simp only[go_sem,hd,hkr])|refine gA ?_|(refine gD (fun h=>?_) (fun h=>?_)<;>try exact aA h)|fail
   exact aY (by simp only[go_sem]) (.refl _)
end Go.Proofs.YthhdnjiodklmmaaGreatDoor
