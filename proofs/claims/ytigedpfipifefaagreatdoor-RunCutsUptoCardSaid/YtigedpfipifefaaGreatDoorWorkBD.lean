/- What the functions of this seat answer (30 of 40). No condition. -/
import Derived.Test.YtigedpfipifefaaGreatDoorWorkBA
set_option linter.unusedSimpArgs false
set_option linter.unusedVariables false
set_option maxRecDepth 100000
set_option maxHeartbeats 16000000
namespace Go.Proofs.YtigedpfipifefaaGreatDoor
theorem aEf{H L:AHeap}{i:Nat}{b:ABlk}{v:AV}(hb:ClB H.length b)(hp:Pur v)(R:AV→AHeap→Prop)(hR:R v (aA H i b)):
  ∃H1 M y,aA H i b++L=H1++M∧H1.length=H.length∧(∀(j:Nat) (c:ABlk),H1[j]?=some c→H[j]?=some c∨ClB H.length c)∧Frz H.length (aA H i b++L) v y∧R y H1:=
 ⟨aA H i b,L,v,rfl,nD H i b,nE hb,.cl _ (hp.cl _),hR⟩
theorem uH{n:Nat}(h:n<18446744073709551616):IntKind.u64.wrap (n:Int)=(n:Int):=by
 simp[IntKind.wrap,IntKind.bits,IntKind.signed];omega
theorem aJM{x:Int}{y:Nat}(hy:y<18446744073709551616):∃n:Nat,aY .and .u64 x (y:Int)=(n:Int)∧n≤y:=by
 refine⟨(BitVec.ofInt 64 x&&&BitVec.ofInt 64 (y:Int)).toNat,?_,?_⟩
 ·exact uH (BitVec.isLt _)
 ·rw[BitVec.toNat_and];refine zA7 Nat.and_le_right ?_;simp;omega
def yI:List Pl:=[.free,.pure 0,.pure 0,.free,.pure 0,.pure 0,.free,.free,.pure 0,.eff [false,false,false,false,false]]
def rY:List Pl:=[.free,.free,.free,.free,.free,.free,.free,.free,.free,.free,.pure 0,.pure 0,.free,.free,.pure 0,.pure 0,.pure 0,.eff [false,false,true,false,false],.pure 0,.eff [false,false]]
attribute [go_sem] yI rY
def aMW(T:List UInt8):Bool:=(List.range 256).all fun z=>decide ((T.getD z 0).toNat≤8)&&(decide (z=0)||decide (2 ^ (T.getD z 0).toNat≤2 * z))
theorem aGy{T:List UInt8}(h:aMW T=true){z:Nat}(hz:z<256):(T.getD z 0).toNat≤8∧(1≤z→2 ^ (T.getD z 0).toNat≤2 * z):=by
 have:=zAx.1 h z (List.mem_range.2 hz);simp only[zAc,Bool.or_eq_true,zAz]at this;exact⟨this.1,fun h1=>this.2.resolve_left (by omega)⟩
theorem pY{H:AHeap}{T:List UInt8}{z s x:Nat}(hT:aMW T=true)(hz:z<256)(hs:s≤24)(hx:2 ^ s * z≤x)(h1:1≤x→1≤z):
  ∃H1 L y,H=H1++L∧H1.length=H.length∧(∀(i:Nat) (b:ABlk),H1[i]?=some b→H[i]?=some b∨ClB H.length b)∧Frz H.length H (AV.int .i64 (IntKind.i64.wrap ((s:Int)+IntKind.i64.wrap (((T.getD z 0).toNat:Nat):Int)))) y∧
   ∃L:Nat,y=.int .i64 L∧L≤32∧(1≤x→2 ^ L≤2 * x)∧H1=H:=by
 obtain⟨t1,t2⟩:=aGy hT hz;generalize(T.getD z 0).toNat=t at *;refine⟨H,[],_,(zAj _).symm,rfl,fun _ _ h=>.inl h,.cl _ (.int _ _),s+t,?_,by omega,fun hx1=>?_,rfl⟩
 ·rw[aB (n:=t) rfl (by omega),aB (n:=s+t) (by omega) (by omega)]
 ·have h2:=t2 (h1 hx1);calc 2 ^ (s+t)=2 ^ s * 2 ^ t:=Nat.pow_add ..
   _≤2 ^ s * (2 * z):=Nat.mul_le_mul_left _ h2
   _=2 * (2 ^ s * z):=by rw[Nat.mul_left_comm]
   _≤2 * x:=Nat.mul_le_mul_left _ hx
theorem aBi(x k:Nat):(x:Int).fdiv (2 ^ k)=((x / 2 ^ k:Nat):Int):=by
 rw[zBk _ (Int.pow_nonneg (by omega))]
 simp
theorem aGz(x:Nat)(hx:x≤1073741824)(H:AHeap):ACalls Tryz.prog 226 [.int .u64 x] H (fun r H'=>∃L:Nat,r=.int .i64 L∧L≤32∧(1≤x→2 ^ L≤2 * x)∧H'=H):=by
 refine aO Tryz.func226 ?_;have hli:decide ((4294967296:Int)≤(x:Int))=false:=dF;have s16:∀y:Nat,(y:Int).fdiv (2 ^ min 16 64)=((y / 65536:Nat):Int):=fun y=>aBi y 16
 have s8:∀y:Nat,(y:Int).fdiv (2 ^ min 8 64)=((y / 256:Nat):Int):=fun y=>aBi y 8
 have u8:∀y:Nat,y<256→IntKind.u8.wrap (y:Int)=(y:Int):=fun y hy=>by simp[IntKind.wrap,IntKind.bits,IntKind.signed];omega
 have w1:IntKind.i64.wrap (0+16)=((16:Nat):Int):=rfl;have w2:IntKind.i64.wrap (((16:Nat):Int)+8)=((24:Nat):Int):=rfl;have w3:IntKind.i64.wrap (0+8)=((8:Nat):Int):=rfl;have w4:IntKind.i64.wrap (16+8)=((24:Nat):Int):=rfl;by_cases h1:65536≤x
 ·have hli1:decide ((65536:Int)≤(x:Int))=true:=dT;by_cases h2:256≤x / 65536
  ·have hli2:decide ((256:Int)≤((x / 65536:Nat):Int))=true:=dT;have hu:=u8 (x / 65536 / 256) (by omega)
   repeat' first|(refine gS ?_;simp only[go_sem,hli,hli1,hli2,s16,s8,hu,w1,w2,w3,w4])|refine hU ?_|fail
   exact pY (s:=24) (z:=x / 65536 / 256) (by decide+kernel) (by omega) (by omega) (by omega) (by omega)
  ·have hli2:decide ((256:Int)≤((x / 65536:Nat):Int))=false:=dF;have hu:=u8 (x / 65536) (by omega)
   repeat' first|(refine gS ?_;simp only[go_sem,hli,hli1,hli2,s16,s8,hu,w1,w2,w3,w4])|refine hU ?_|fail
   exact pY (s:=16) (z:=x / 65536) (by decide+kernel) (by omega) (by omega) (by omega) (by omega)
 ·have hli1:decide ((65536:Int)≤(x:Int))=false:=dF;by_cases h2:256≤x
  ·have hli2:decide ((256:Int)≤(x:Int))=true:=dT;have hu:=u8 (x / 256) (by omega)
   repeat' first|(refine gS ?_;simp only[go_sem,hli,hli1,hli2,s16,s8,hu,w1,w2,w3,w4])|refine hU ?_|fail
   exact pY (s:=8) (z:=x / 256) (by decide+kernel) (by omega) (by omega) (by omega) (by omega)
  ·have hli2:decide ((256:Int)≤(x:Int))=false:=dF;have hu:=u8 x (by omega)
   repeat' first|(refine gS ?_;simp only[go_sem,hli,hli1,hli2,s16,s8,hu,w1,w2,w3,w4])|refine hU ?_|fail
   exact pY (s:=0) (z:=x) (by decide+kernel) (by omega) (by omega) (by omega) (by omega)
theorem aHO(x:Nat)(hx:x≤1073741824)(H:AHeap):ACalls Tryz.prog 183 [.int .u64 x] H (fun r H'=>∃L:Nat,r=.int .i64 L∧L≤32∧(1≤x→2 ^ L≤2 * x)∧H'=H):=by
 refine aO Tryz.func183 ?_;repeat' first|(refine gS ?_;simp only[go_sem])|refine hU ?_|fail
 refine aG (aGz x hx _) (cO) ?_;rintro r H' ⟨L,rfl,h1,h2,rfl⟩;simp only[go_sem];repeat' first|(refine gS ?_;simp only[go_sem])|refine hU ?_|fail
 exact⟨_,[],_,(zAj _).symm,rfl,fun _ _ h=>.inl h,.cl _ (.int _ _),L,rfl,h1,h2,rfl⟩
theorem aJN(x:Nat)(h1:1≤x)(hx:x≤1073741824)(H:AHeap):ACalls Tryz.prog 267 [.int .i64 x] H (fun r H'=>∃m:Nat,r=.int .u64 m∧1≤m∧m≤2 * x∧H'=H):=by
 refine aO Tryz.func267 ?_;have hw:IntKind.u64.wrap (x:Int)=(x:Int):=uH (by omega)
 repeat' first|(refine gS ?_;simp only[go_sem,hw])|refine hU ?_|fail
 refine aG (aHO x hx _) (cO) ?_;rintro r H' ⟨L,rfl,h2,h3,rfl⟩;have hp:=h3 h1;have hp1:1≤2 ^ L:=Nat.one_le_two_pow;have hw2:IntKind.u64.wrap (1 * 2 ^ min L 64)=((2 ^ L:Nat):Int):=by
  rw[Nat.min_eq_left (by omega),Int.one_mul]
  have:=uH (n:=2 ^ L) (by omega)
  simpa using this
 simp only[go_sem];repeat' first|(refine gS ?_;simp only[go_sem])|refine hU ?_|fail
 rw[hw2];exact⟨_,[],_,(zAj _).symm,rfl,fun _ _ h=>.inl h,.cl _ (.int _ _),2 ^ L,rfl,hp1,hp,rfl⟩
def rZ(s:Int):ABlk:=.cells 0 [.int .u64 s]
theorem aGA(n:Nat)(s:Int):ClB n (rZ s):=fun x hx=>by simp at hx;subst hx;exact .int _ _
theorem aMX(x:Int)(i:Nat)(H:AHeap)(hi:hget H i=.cells 0 [.int .u64 x]):ACalls Tryz.prog 268 [.ref i 0 0] H (fun r H'=>∃y:Int,r=.int .u64 y∧H'=aA H i (.cells 0 [.int .u64 y])):=by
 refine aO Tryz.func268 ?_;have g2:=fun b=>fK hi trivial b
 have g3:=eA H i;repeat' first|((first|refine mx [1,2,3] yI ?_|refine gS ?_);simp only[go_sem,hi,g2,g3])|refine hU ?_|fail
 exact eE (aGA _ _) (.int _ _) _ ⟨_,rfl,rfl⟩
theorem aEg{d:Array dV}{a b n lc blk v:Nat}(hn:n=d.size)(hl:n≤1073741824)(hb:b≤n)(hab:a+12<b)(F:AV)(H:AHeap)(hh:hget H blk=.cells v (dC d)):
  ACalls Tryz.prog 219 [.osl 1 blk v 0 n lc,.int .i64 a,.int .i64 b,F] H
   (fun r H'=>∃d',Sort.PermIn a b d d'∧r=.tup []∧H'=aA H blk (.cells v (dC d'))):=by
 refine aO Tryz.func219 ?_;have hlt:=bC hh trivial;obtain⟨m,rfl⟩:∃m,b=a+m:=⟨b-a,by omega⟩
 have hw0:IntKind.i64.wrap (((a+m:Nat):Int)-(a:Int))=(m:Int):=aB (by omega) (by omega)
 have hli8:decide (8≤(m:Int))=true:=dT;have hwu:IntKind.u64.wrap (m:Int)=(m:Int):=uH (by omega)
 have hq:IntKind.i64.wrap ((m:Int).tdiv 4)=((m / 4:Nat):Int):=by rw[zAI (by omega)];exact aB (by omega) (by omega)
 obtain⟨q,hq2⟩:∃q,m / 4=q:=⟨_,rfl⟩;rw[hq2]at hq;have hq3:3≤q∧4 * q≤m∧m≤4 * q+3:=by omega
 have hw2:IntKind.i64.wrap ((q:Int) * 2)=((q * 2:Nat):Int):=aB (by omega) (by omega)
 have hw5:IntKind.i64.wrap ((a:Int)+((q * 2:Nat):Int))=((a+q * 2:Nat):Int):=aB (by omega) (by omega)
 have hw6:IntKind.i64.wrap (((a+q * 2:Nat):Int)-1)=((a+q * 2-1:Nat):Int):=aB (by omega) (by omega)
 have hw7:IntKind.i64.wrap (((a+q * 2:Nat):Int)+1)=((a+q * 2+1:Nat):Int):=aB (by omega) (by omega)
 have hl0:∀X,(aA H blk X).length=H.length:=fun X=>nD H blk X
 have f1:∀cs s,hget (aA H blk (.cells v cs)++[rZ s]) blk=.cells v cs:=fun cs s=>aK (b:=.cells v cs) (fK hh trivial _) trivial _
 have f2:∀X s,hget (aA H blk X++[rZ s]) H.length=rZ s:=fun X s=>by rw[←hl0 X];exact fU _ _
 have f3:∀X Y s,aA (aA H blk X++[rZ s]) blk Y=aA H blk Y++[rZ s]:=fun X Y s=>by
  rw[bQ (by rw[hl0];exact hlt),eA]
 have f4:∀X s t,aA (aA H blk X++[rZ s]) H.length (rZ t)=aA H blk X++[rZ t]:=fun X s t=>by
  rw[←hl0 X];simp[aA]
 repeat' first|(refine gS ?_;simp only[go_sem,hw0,hli8,hwu])|refine hU ?_|fail
 refine aG (aJN m (by omega) (by omega) _) (cO) ?_
 rintro r H' ⟨M,rfl,hM1,hM2,rfl⟩;simp only[go_sem];have hwM:IntKind.u64.wrap ((M:Int)-1)=((M-1:Nat):Int):=by rw[show(M:Int)-1=((M-1:Nat):Int) by omega];exact uH (by omega)
 repeat' first|(refine gS ?_;simp only[go_sem,hq,hw2,hw5,hw6])|refine hU ?_|fail
 refine aH (ι:=Nat×Int×Array dV) (fun s=>[(0,.osl 1 blk v 0 n lc),(1,.int .i64 a),(8,.int .i64 m),(9,.ref H.length 0 0),(10,.int .u64 M),(11,.int .i64 s.1)]) (fun s=>aA H blk (.cells v (dC s.2.2))++[rZ s.2.1])
  (fun s=>a+q * 2-1≤s.1∧s.1≤a+q * 2+2∧s.2.2.size=n∧Sort.PermIn a (a+m) d s.2.2) (fun s=>a+q * 2+2-s.1) (a+q * 2-1,(m:Int),d) ⟨zAb _,by simp only;omega,hn.symm,Sort.permIn_refl _ _ _⟩ ?_ (by rw[iT hh trivial];rfl) ?_
 ·simp[go_sem]
 rintro⟨k,x,E⟩ ⟨h1,h2,h3,h4⟩;simp only at h1 h2 h3 h4 ⊢;by_cases hk:k≤a+q * 2+1
 ·have hli:decide ((k:Int)≤((a+q * 2+1:Nat):Int))=true:=dT;repeat' first|(refine gS ?_;simp only[go_sem,hq,hw2,hw5,hw7,hli])|refine hU ?_|fail
  refine aG (aMX x H.length _ (f2 _ x)) (cO) ?_;rintro r H' ⟨y,rfl,rfl⟩;rw[show(ABlk.cells 0 [AV.int .u64 y])=rZ y from rfl,f4]
  simp only[go_sem];obtain⟨o,ho1,ho2⟩:=aJM (x:=y) (y:=M-1) (by omega)
  have hwo:IntKind.i64.wrap (o:Int)=(o:Int):=aB rfl (by omega)
  have hk1:IntKind.i64.wrap ((k:Int)+1)=((k+1:Nat):Int):=aB (by omega) (by omega)
  have step:∀z,z<m→Sort.PermIn a (a+m) d (Sort.swp E k (a+z)):=fun z hz=>Sort.permIn_trans _ _ _ _ _ h4 (Sort.swp_permIn _ _ _ _ _ (by omega) (by omega) (by omega) (by omega) (by omega))
  have ek:=aP (d:=E) (show k<E.size by omega)
  by_cases hom:m≤o
  ·have hli2:decide ((m:Int)≤(o:Int))=true:=dT;have hwz:IntKind.i64.wrap ((o:Int)-(m:Int))=((o-m:Nat):Int):=aB (by omega) (by omega)
   have hwy:IntKind.i64.wrap ((a:Int)+((o-m:Nat):Int))=((a+(o-m):Nat):Int):=aB (by omega) (by omega)
   have ez:=aP (d:=E) (show a+(o-m)<E.size by omega)
   have hsw:=dH (d:=E) (show k<E.size by omega) (show a+(o-m)<E.size by omega)
   have sl:=fL E h3 (show k<n by omega)
   repeat' first|((first|refine mx [10] rY ?_|refine gS ?_);simp only[go_sem,hwM,ho1,hwo,hli2,hwz,hwy,f1,f3,ek,ez,hsw,sl,hk1,zAo,aU,h3])|refine hU ?_|fail
   exact⟨(k+1,y,Sort.swp E k (a+(o-m))),⟨by simp only;omega,by simp only;omega,by simp only[bP];exact h3,step _ (by omega)⟩,by simp only;omega,rfl,rfl⟩
  ·have hli2:decide ((m:Int)≤(o:Int))=false:=dF;have hwy:IntKind.i64.wrap ((a:Int)+(o:Int))=((a+o:Nat):Int):=aB (by omega) (by omega)
   have ez:=aP (d:=E) (show a+o<E.size by omega)
   have hsw:=dH (d:=E) (show k<E.size by omega) (show a+o<E.size by omega)
   have sl:=fL E h3 (show k<n by omega)
   repeat' first|((first|refine mx [10] rY ?_|refine gS ?_);simp only[go_sem,hwM,ho1,hwo,hli2,hwy,f1,f3,ek,ez,hsw,sl,hk1,zAo,aU,h3])|refine hU ?_|fail
   exact⟨(k+1,y,Sort.swp E k (a+o)),⟨by simp only;omega,by simp only;omega,by simp only[bP];exact h3,step _ (by omega)⟩,by simp only;omega,rfl,rfl⟩
 ·have hli:decide ((k:Int)≤((a+q * 2+1:Nat):Int))=false:=dF;repeat' first|(refine gS ?_;simp only[go_sem,hq,hw2,hw5,hw7,hli])|refine hU ?_|fail
  exact aEf (dL _ _ _) (by simp only[go_sem]) _ ⟨E,h4,rfl,rfl⟩
end Go.Proofs.YtigedpfipifefaaGreatDoor
