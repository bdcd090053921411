/- What the functions of this seat answer (12 of 53). No condition. -/
import Derived.Test.YtnmamncmpklliaaGreatDoorWorkAK
set_option linter.unusedSimpArgs false
set_option linter.unusedVariables false
set_option maxRecDepth 100000
set_option maxHeartbeats 16000000
namespace Go.Proofs.YtnmamncmpklliaaGreatDoor
variable{d:Nat}
open Go.Proofs.Tryz
theorem OO{n:Int}(aw:0<=n)(h1:n<=72057594037927935)(hd:d<128):na .or .i64 (n * 128) (d:Int)=n * 128+d:=by
 obtain⟨m,rfl⟩:∃m:Nat,n=m:=⟨n.toNat,iV⟩
 have av:BitVec.ofInt 64 ((m:Int) * 128)=BitVec.ofNat 64 (m * 128):=by rw[show((m:Int) * 128)=((m * 128:Nat):Int) by omega];exact J3 ..
 have al:BitVec.ofInt 64 (d:Int)=BitVec.ofNat 64 d:=J3 ..;show IntKind.i64.wrap ((BitVec.ofInt 64 ((m:Int) * 128)|||BitVec.ofInt 64 (d:Int)).toNat:Int)=_
 rw[av,al,BitVec.toNat_or,Gh,Gh,Ds iV,Ds iV]
 have J:=Nat.shiftLeft_add_eq_or_of_lt (b:=d) (i:=7) iV m
 rw[Nat.shiftLeft_eq]at J;rw[show m * 128=m * 2 ^ 7 by omega,<-J,bI]
 omega
theorem aF8(h1:128<=d)(hd:d<256):na .and .i64 (d:Int) 127=((d-128:Nat):Int):=by
 have al:BitVec.ofInt 64 (d:Int)=BitVec.ofNat 64 d:=J3 ..;have av:BitVec.ofInt 64 (127:Int)=BitVec.ofNat 64 127:=rfl;show IntKind.i64.wrap ((BitVec.ofInt 64 (d:Int)&&&BitVec.ofInt 64 (127:Int)).toNat:Int)=_;rw[av,al,BitVec.toNat_and,Gh,Gh,Ds iV,Ds iV]
 have J:=Nat.and_two_pow_sub_one_eq_mod d 7;rw[show 127=2 ^ 7-1 by omega,J,bI]
 omega
theorem aEO:∀(b:ag) (n:Int) (f:Bool) (m:Int) (r:ag),o2 n f b=some (m,r)->r.length<b.length:=by
 intro b;induction b with
 |nil=>intro n f m r h;cases h
 |cons x b J=>
  intro n f m r h;rw[o2]at h;split at h
  ·cases h
  ·split at h
   ·cases h;simp
   ·have:=J _ _ _ _ h;rw[cg];omega
theorem ml{b:ag}{m:Int}{r:ag}(h:e9 b=some (m,r)):r.length<b.length:=aEO _ _ _ _ _ h
theorem UX:∀(b:ag) (n:Int) (f:Bool) (m:Int) (r:ag),0<=n->o2 n f b=some (m,r)->0<=m/\m<=9223372036854775807:=by
 intro b;induction b with
 |nil=>intro n f m r _ h;cases h
 |cons x b U=>
  intro n f m r aw h;have J:=x.toNat_lt;rw[o2]at h;split at h
  ·cases h
  ·rename_i K;simp only[Bool.or_eq_true,gU,not_or]at K;split at h
   ·cases h;omega
   ·exact U _ _ _ _ iV h
def xM(b:ag):I:=match e9 b with
 |none=>.aQ [.int .i64 0,.str [],.int .i64 40]
 |some (n,r)=>.aQ [.int .i64 n,.str r,.int .i64 0]
def zC(b:ag):I:=match mW b with
 |none=>.aQ [.str [],.str [],.int .i64 40]
 |some (t,r)=>.aQ [.str t,.str r,.int .i64 0]
theorem FW(b:ag)(aa:b.length<=1073741824)(H:ab):aM prog 99 [.str b] H (xM b):=by
 refine aZ func99 ?_;repeat' first|(refine ae ?_;simp only[go_sem])|refine ao ?_|fail
 refine qD (ι:=Int×Nat) (λs=>[(0,.str b),(2,.int .i64 0),(3,.str []),(4,.int .i64 0),(5,.int .i64 s.1),(6,.int .i64 s.2)]) (λ_=>H) (λs=>s.2<=b.length/\(s.2=0/\e9 b=none\/0<s.2/\e9 b=some (s.1,b.drop s.2))) ?_ fun⟨n,k⟩ hk=>?_
 ·refine cE (ι:=Nat×Int) (λs=>[(0,.str b),(2,.int .i64 0),(3,.str []),(4,.int .i64 0),(5,.int .i64 s.2),(6,.int .i64 0),(10,.int .i64 b.length),(11,.int .i64 s.1)]) (λ_=>H)
   (λs=>s.1<=b.length/\0<=s.2/\e9 b=o2 s.2 (decide<|s.1=0) (b.drop s.1)) (λs=>b.length-s.1) (0,0) ⟨bW _,jP _,rfl⟩ ?_ rfl ?_
  ·simp[go_sem]
  rintro⟨i,n⟩ ⟨hi,af,ah⟩;simp only at hi af ah ⊢;by_cases U:i<b.length
  ·have jZ:=ij U;rw[jZ,o2]at ah;have J:=b[i].toNat_lt;have ck:b.getD i 0=b[i]:=by simp[U]
   obtain⟨x,V⟩:∃x,x=b[i].toNat:=⟨_,rfl⟩;rw[<-V]at ah J;have bg:decide ((i:Int)<(b.length:Int))=true:=cK;have My:IntKind.i64.wrap ((b[i].toNat:Nat):Int)=(x:Int):=by rw[<-V];exact bI
   have Z:IntKind.i64.wrap ((i:Int)+1)=((i+1:Nat):Int):=dA U iV
   obtain⟨K,Cc⟩:∃D,decide (i=0)=D:=⟨_,rfl⟩;obtain⟨O,z⟩:∃D,decide ((x:Int)=128)=D:=⟨_,rfl⟩;obtain⟨TU,T⟩:∃D,decide (72057594037927935<n)=D:=⟨_,rfl⟩;have uj:decide ((i:Int)=0)=K:=by rw[<-Cc];exact decide_eq_decide.2 iV
   rw[Cc,z,T]at ah;have stop:e9 b=none->∃y:Int×Nat,(y.2<=b.length/\(y.2=0/\e9 b=none\/0<y.2/\e9 b=some (y.1,b.drop y.2)))/\I.int .i64 n=I.int .i64 y.1/\I.int .i64 0=I.int .i64 y.2:=λh=>⟨(n,0),⟨bW _,.inl ⟨rfl,h⟩⟩,rfl,rfl⟩
   cases TU with
   |true=>
    have hs:e9 b=none:=by rw[ah];cases K<;>cases O<;>rfl
    cases K<;>cases O;all_goals
     repeat' first|(refine ae ?_;simp only[go_sem,ck,U,bg,My,uj,z,T])|refine ao ?_|fail
     exact stop hs
   |false=>
    have aAI:n<=72057594037927935:=by have:=of_decide_eq_false T;omega
    have xl:IntKind.i64.wrap (n * 2 ^ min 7 64)=n * 128:=by rw[show(2:Int) ^ min 7 64=128 by decide,bI]
    by_cases ai:K=true/\O=true
    ·obtain⟨rfl,rfl⟩:=ai;repeat' first|(refine ae ?_;simp only[go_sem,ck,U,bg,My,uj,z,T])|refine ao ?_|fail
     exact stop ah
    ·have rf:e9 b=if(x:Int)<128 then some (n * 128+x,List.drop (i+1) b)else o2 (n * 128+(x-128)) false (List.drop (i+1) b):=by
      rw[ah];cases K<;>cases O<;>first|rfl|exact absurd ⟨rfl,rfl⟩ ai
     by_cases LS:(x:Int)<128
     ·have HJ:decide ((x:Int)<128)=true:=cD LS;have Ik:=OO af aAI (d:=x) iV
      rw[aA LS]at rf;have fin:∃y:Int×Nat,(y.2<=b.length/\(y.2=0/\e9 b=none\/0<y.2/\e9 b=some (y.1,b.drop y.2)))/\I.int .i64 (n * 128+x)=I.int .i64 y.1/\I.int .i64 ((i+1:Nat):Int)=I.int .i64 y.2:=⟨(n * 128+x,i+1),⟨U,.inr ⟨Nat.succ_pos _,rf⟩⟩,rfl,rfl⟩;cases K<;>cases O;all_goals first
       |exact absurd ⟨rfl,rfl⟩ ai
       |((repeat' first|(refine ae ?_;simp only[go_sem,ck,U,bg,My,uj,z,T,HJ,xl,Ik,Z])|refine ao ?_|fail);exact fin)
     ·have HJ:decide ((x:Int)<128)=false:=bN LS;rw[aj LS]at rf;have yF:=aF8 (d:=x) iV iV
      have Ik:=OO af aAI (d:=x-128) iV
      have fin:∃y:Nat×Int,(y.1<=b.length/\0<=y.2/\e9 b=o2 y.2 (decide<|y.1=0) (b.drop y.1))/\b.length-y.1<b.length-i/\I.int .i64 (n * 128+((x-128:Nat):Int))=I.int .i64 y.2/\I.int .i64 ((i+1:Nat):Int)=I.int .i64 y.1:=by
       refine⟨(i+1,n * 128+((x-128:Nat):Int)),⟨U,by simp only;omega,?_⟩,by simp only;omega,rfl,rfl⟩
       rw[rf];simp only[Nat.succ_ne_zero,Ge];rw[show((x-128:Nat):Int)=(x:Int)-128 by omega]
      cases K<;>cases O;all_goals first
       |exact absurd ⟨rfl,rfl⟩ ai
       |((repeat' first|(refine ae ?_;simp only[go_sem,ck,U,bg,My,uj,z,T,HJ,xl,yF,Ik,Z])|refine ao ?_|fail);exact fin)
  ·have eV:i=b.length:=iV
   subst eV;rw[oy,o2]at ah;repeat' first|(refine ae ?_;simp only[go_sem,U])|refine ao ?_|fail
   exact⟨(n,0),⟨bW _,.inl ⟨rfl,ah⟩⟩,⟨rfl,rfl⟩⟩
 simp only at hk ⊢;obtain⟨nA,⟨rfl,ah⟩|⟨aw,ah⟩⟩:=hk
 ·unfold xM;rw[ah];repeat' first|(refine ae ?_;simp only[go_sem])|refine ao ?_|fail
  exact bD<|.refl _
 ·unfold xM;rw[ah];have hd:decide ((k:Int)=0)=false:=cQ;have aOX:(k<=b.length)=True:=b5 nA;repeat' first|(refine ae ?_;simp only[go_sem,hd,aOX])|refine ao ?_|fail
  exact bD<|.refl _
theorem FX(b:ag)(O:b.length<=1073741824)(H:ab):aM prog 101 [.str b] H (zC b):=by
 refine aZ func101 ?_;have ah:=FW b O;unfold xM at ah;unfold zC mW;cases U:e9 b with
 |none=>
  simp only[U]at ah;repeat' first|(refine ae ?_;simp only[go_sem])|refine ao ?_|fail
  exact bD<|.refl _
 |some p=>
  obtain⟨n,r⟩:=p;simp only[U]at ah;have af:=UX _ _ _ _ _ (jP 0) U;by_cases J:(r.length:Int)<n
  ·have hd:decide ((r.length:Int)<n)=true:=cD J;simp only[aA J];repeat' first|(refine ae ?_;simp only[go_sem,hd])|refine ao ?_|fail
   exact bD<|.refl _
  ·have hd:decide ((r.length:Int)<n)=false:=bN J;simp only[aj J];obtain⟨k,rfl⟩:∃k:Nat,n=k:=⟨n.toNat,iV⟩
   have K:(k<=r.length)=True:=b5 iV
   repeat' first|(refine ae ?_;simp only[go_sem,hd,K])|refine ao ?_|fail
   exact bD<|.refl _
end Go.Proofs.YtnmamncmpklliaaGreatDoor
