/- What the functions of this seat answer (23 of 38). No condition. -/
import Derived.Test.YtennnelammaapaaGreatDoorWorkAU
set_option linter.unusedSimpArgs false
set_option linter.unusedVariables false
set_option linter.unusedSectionVars false
set_option maxRecDepth 100000
set_option maxHeartbeats 16000000
namespace Go.Proofs.YtennnelammaapaaGreatDoor
section
theorem aLF{H L:AHeap}{i:Nat}{b:ABlk}{v:AV}(hb:ClB H.length b)(hp:Pur v)(R:AV→AHeap→Prop)(hR:R v (aB H i b)):
  ∃H1 M y,aB H i b++L=H1++M∧H1.length=H.length∧(∀(j:Nat) (c:ABlk),H1[j]?=some c→H[j]?=some c∨ClB H.length c)∧Frz H.length (aB H i b++L) v y∧R y H1:=
 ⟨aB H i b,L,v,rfl,cJ H i b,pY hb,.cl _ (hp.cl _),hR⟩
theorem aCB{n:Nat}(h:n<18446744073709551616):IntKind.u64.wrap (n:Int)=(n:Int):=by
 simp[IntKind.wrap,IntKind.bits,IntKind.signed];omega
theorem aSF{x:Int}{y:Nat}(hy:y<18446744073709551616):∃n:Nat,nA .and .u64 x (y:Int)=(n:Int)∧n≤y:=by
 refine⟨(BitVec.ofInt 64 x&&&BitVec.ofInt 64 (y:Int)).toNat,?_,?_⟩
 ·exact aCB (BitVec.isLt _)
 ·rw[BitVec.toNat_and];refine zAO Nat.and_le_right ?_;simp;omega
def aEz:List Pl:=[.free,.pure 0,.pure 0,.free,.pure 0,.pure 0,.free,.free,.pure 0,.eff [false,false,false,false,false]]
def aBs:List Pl:=[.free,.free,.free,.free,.free,.free,.free,.free,.free,.free,.pure 0,.pure 0,.free,.free,.pure 0,.pure 0,.pure 0,.eff [false,false,true,false,false],.pure 0,.eff [false,false]]
attribute [go_sem] aEz aBs
def aVU(T:List UInt8):Bool:=(List.range 256).all fun z=>decide ((T.getD z 0).toNat≤8)&&(decide (z=0)||decide (2 ^ (T.getD z 0).toNat≤2 * z))
theorem aOU{T:List UInt8}(h:aVU T=true){z:Nat}(hz:z<256):(T.getD z 0).toNat≤8∧(1≤z→2 ^ (T.getD z 0).toNat≤2 * z):=by
 have:=zAJ.1 h z (List.mem_range.2 hz);simp only[zAu,zB9,zAF]at this;exact⟨this.1,fun h1=>this.2.resolve_left (by omega)⟩
theorem aAx{H:AHeap}{T:List UInt8}{z s x:Nat}(hT:aVU T=true)(hz:z<256)(hs:s≤24)(hx:2 ^ s * z≤x)(h1:1≤x→1≤z):
  ∃H1 L y,H=H1++L∧H1.length=H.length∧(∀(i:Nat) (b:ABlk),H1[i]?=some b→H[i]?=some b∨ClB H.length b)∧Frz H.length H (AV.int .i64 (IntKind.i64.wrap ((s:Int)+IntKind.i64.wrap (((T.getD z 0).toNat:Nat):Int)))) y∧
   ∃L:Nat,y=.int .i64 L∧L≤32∧(1≤x→2 ^ L≤2 * x)∧H1=H:=by
 obtain⟨t1,t2⟩:=aOU hT hz;generalize(T.getD z 0).toNat=t at *;refine⟨H,[],_,(zAd _).symm,rfl,fun _ _ h=>.inl h,.cl _ (.int _ _),s+t,?_,by omega,fun hx1=>?_,rfl⟩
 ·rw[aJ (n:=t) rfl (by omega),aJ (n:=s+t) (by omega) (by omega)]
 ·have h2:=t2 (h1 hx1);calc 2 ^ (s+t)=2 ^ s * 2 ^ t:=Nat.pow_add ..
   _≤2 ^ s * (2 * z):=Nat.mul_le_mul_left _ h2
   _=2 * (2 ^ s * z):=by rw[Nat.mul_left_comm]
   _≤2 * x:=Nat.mul_le_mul_left _ hx
theorem aHk(x k:Nat):(x:Int).fdiv (2 ^ k)=((x / 2 ^ k:Nat):Int):=by
 rw[Int.fdiv_eq_ediv_of_nonneg _ (Int.pow_nonneg (by omega))]
 simp
theorem aOV(x:Nat)(hx:x≤1073741824)(H:AHeap):ACalls Tryz.prog 240 [.int .u64 x] H (fun r H'=>∃L:Nat,r=.int .i64 L∧L≤32∧(1≤x→2 ^ L≤2 * x)∧H'=H):=by
 refine aO Tryz.func240 ?_;have hli:decide ((4294967296:Int)≤(x:Int))=false:=dF;have s16:∀y:Nat,(y:Int).fdiv (2 ^ min 16 64)=((y / 65536:Nat):Int):=fun y=>aHk y 16
 have s8:∀y:Nat,(y:Int).fdiv (2 ^ min 8 64)=((y / 256:Nat):Int):=fun y=>aHk y 8
 have u8:∀y:Nat,y<256→IntKind.u8.wrap (y:Int)=(y:Int):=fun y hy=>by simp[IntKind.wrap,IntKind.bits,IntKind.signed];omega
 have w1:IntKind.i64.wrap (0+16)=((16:Nat):Int):=rfl;have w2:IntKind.i64.wrap (((16:Nat):Int)+8)=((24:Nat):Int):=rfl;have w3:IntKind.i64.wrap (0+8)=((8:Nat):Int):=rfl;have w4:IntKind.i64.wrap (16+8)=((24:Nat):Int):=rfl;by_cases h1:65536≤x
 ·have hli1:decide ((65536:Int)≤(x:Int))=true:=dT;by_cases h2:256≤x / 65536
  ·have hli2:decide ((256:Int)≤((x / 65536:Nat):Int))=true:=dT;have hu:=u8 (x / 65536 / 256) (by omega)
   repeat' first|(refine gS ?_;simp only[go_sem,hli,hli1,hli2,s16,s8,hu,w1,w2,w3,w4])|refine gA ?_|(refine gD ?_ ?_<;>intro h<;>try exact aA h)|fail
   exact aAx (s:=24) (z:=x / 65536 / 256) (by decide+kernel) (by omega) (by omega) (by omega) (by omega)
  ·have hli2:decide ((256:Int)≤((x / 65536:Nat):Int))=false:=dF;have hu:=u8 (x / 65536) (by omega)
   repeat' first|(refine gS ?_;simp only[go_sem,hli,hli1,hli2,s16,s8,hu,w1,w2,w3,w4])|refine gA ?_|(refine gD ?_ ?_<;>intro h<;>try exact aA h)|fail
   exact aAx (s:=16) (z:=x / 65536) (by decide+kernel) (by omega) (by omega) (by omega) (by omega)
 ·have hli1:decide ((65536:Int)≤(x:Int))=false:=dF;by_cases h2:256≤x
  ·have hli2:decide ((256:Int)≤(x:Int))=true:=dT;have hu:=u8 (x / 256) (by omega)
   repeat' first|(refine gS ?_;simp only[go_sem,hli,hli1,hli2,s16,s8,hu,w1,w2,w3,w4])|refine gA ?_|(refine gD ?_ ?_<;>intro h<;>try exact aA h)|fail
   exact aAx (s:=8) (z:=x / 256) (by decide+kernel) (by omega) (by omega) (by omega) (by omega)
  ·have hli2:decide ((256:Int)≤(x:Int))=false:=dF;have hu:=u8 x (by omega)
   repeat' first|(refine gS ?_;simp only[go_sem,hli,hli1,hli2,s16,s8,hu,w1,w2,w3,w4])|refine gA ?_|(refine gD ?_ ?_<;>intro h<;>try exact aA h)|fail
   exact aAx (s:=0) (z:=x) (by decide+kernel) (by omega) (by omega) (by omega) (by omega)
theorem aQF(x:Nat)(hx:x≤1073741824)(H:AHeap):ACalls Tryz.prog 229 [.int .u64 x] H (fun r H'=>∃L:Nat,r=.int .i64 L∧L≤32∧(1≤x→2 ^ L≤2 * x)∧H'=H):=by
 refine aO Tryz.func229 ?_;repeat' first|(refine gS ?_;simp only[go_sem])|refine gA ?_|(refine gD ?_ ?_<;>intro h<;>try exact aA h)|fail
 refine aR (aOV x hx _) (cO) ?_;rintro r H' ⟨L,rfl,h1,h2,rfl⟩;simp only[go_sem];repeat' first|(refine gS ?_;simp only[go_sem])|refine gA ?_|(refine gD ?_ ?_<;>intro h<;>try exact aA h)|fail
 exact⟨_,[],_,(zAd _).symm,rfl,fun _ _ h=>.inl h,.cl _ (.int _ _),L,rfl,h1,h2,rfl⟩
theorem aSG(x:Nat)(h1:1≤x)(hx:x≤1073741824)(H:AHeap):ACalls Tryz.prog 243 [.int .i64 x] H (fun r H'=>∃m:Nat,r=.int .u64 m∧1≤m∧m≤2 * x∧H'=H):=by
 refine aO Tryz.func243 ?_;have hw:IntKind.u64.wrap (x:Int)=(x:Int):=aCB (by omega)
 repeat' first|(refine gS ?_;simp only[go_sem,hw])|refine gA ?_|(refine gD ?_ ?_<;>intro h<;>try exact aA h)|fail
 refine aR (aQF x hx _) (cO) ?_;rintro r H' ⟨L,rfl,h2,h3,rfl⟩;have hp:=h3 h1;have hp1:1≤2 ^ L:=Nat.one_le_two_pow;have hw2:IntKind.u64.wrap (1 * 2 ^ min L 64)=((2 ^ L:Nat):Int):=by
  rw[zCb (by omega),Int.one_mul]
  have:=aCB (n:=2 ^ L) (by omega)
  simpa using this
 simp only[go_sem];repeat' first|(refine gS ?_;simp only[go_sem])|refine gA ?_|(refine gD ?_ ?_<;>intro h<;>try exact aA h)|fail
 rw[hw2];exact⟨_,[],_,(zAd _).symm,rfl,fun _ _ h=>.inl h,.cl _ (.int _ _),2 ^ L,rfl,hp1,hp,rfl⟩
def aBt(s:Int):ABlk:=.cells 0 [.int .u64 s]
theorem aOW(n:Nat)(s:Int):ClB n (aBt s):=fun x hx=>by simp at hx;subst hx;exact .int _ _
theorem aVV(x:Int)(i:Nat)(H:AHeap)(hi:hget H i=.cells 0 [.int .u64 x]):ACalls Tryz.prog 244 [.ref i 0 0] H (fun r H'=>∃y:Int,r=.int .u64 y∧H'=aB H i (.cells 0 [.int .u64 y])):=by
 refine aO Tryz.func244 ?_;have g2:=fun b=>jY hi trivial b
 have g3:=gX H i;repeat' first|((first|refine mx [1,2,3] aEz ?_|refine gS ?_);simp only[go_sem,hi,g2,g3])|refine gA ?_|(refine gD ?_ ?_<;>intro h<;>try exact aA h)|fail
 exact iA (aOW _ _) (.int _ _) _ ⟨_,rfl,rfl⟩
theorem aLG{d:Array gJ}{a b n lc blk v:Nat}(hn:n=d.size)(hl:n≤1073741824)(hb:b≤n)(hab:a+12<b)(F:AV)(H:AHeap)(hh:hget H blk=.cells v (dC d)):
  ACalls Tryz.prog 233 [.osl 1 blk v 0 n lc,.int .i64 a,.int .i64 b,F] H
   (fun r H'=>∃d',Sort.PermIn a b d d'∧r=.tup []∧H'=aB H blk (.cells v (dC d'))):=by
 refine aO Tryz.func233 ?_;have hlt:=aV hh trivial;obtain⟨m,rfl⟩:∃m,b=a+m:=⟨b-a,by omega⟩
 have hw0:IntKind.i64.wrap (((a+m:Nat):Int)-(a:Int))=(m:Int):=aJ (by omega) (by omega)
 have hli8:decide (8≤(m:Int))=true:=dT;have hwu:IntKind.u64.wrap (m:Int)=(m:Int):=aCB (by omega)
 have hq:IntKind.i64.wrap ((m:Int).tdiv 4)=((m / 4:Nat):Int):=by rw[zBk (by omega)];exact aJ (by omega) (by omega)
 obtain⟨q,hq2⟩:∃q,m / 4=q:=⟨_,rfl⟩;rw[hq2]at hq;have hq3:3≤q∧4 * q≤m∧m≤4 * q+3:=by omega
 have hw2:IntKind.i64.wrap ((q:Int) * 2)=((q * 2:Nat):Int):=aJ (by omega) (by omega)
 have hw5:IntKind.i64.wrap ((a:Int)+((q * 2:Nat):Int))=((a+q * 2:Nat):Int):=aJ (by omega) (by omega)
 have hw6:IntKind.i64.wrap (((a+q * 2:Nat):Int)-1)=((a+q * 2-1:Nat):Int):=aJ (by omega) (by omega)
 have hw7:IntKind.i64.wrap (((a+q * 2:Nat):Int)+1)=((a+q * 2+1:Nat):Int):=aJ (by omega) (by omega)
 have hl0:∀X,(aB H blk X).length=H.length:=fun X=>cJ H blk X
 have f1:∀cs s,hget (aB H blk (.cells v cs)++[aBt s]) blk=.cells v cs:=fun cs s=>aD (b:=.cells v cs) (jY hh trivial _) trivial _
 have f2:∀X s,hget (aB H blk X++[aBt s]) H.length=aBt s:=fun X s=>by rw[←hl0 X];exact eZ _ _
 have f3:∀X Y s,aB (aB H blk X++[aBt s]) blk Y=aB H blk Y++[aBt s]:=fun X Y s=>by
  rw[bD (by rw[hl0];exact hlt),gX]
 have f4:∀X s t,aB (aB H blk X++[aBt s]) H.length (aBt t)=aB H blk X++[aBt t]:=fun X s t=>by
  rw[←hl0 X];simp[aB]
 repeat' first|(refine gS ?_;simp only[go_sem,hw0,hli8,hwu])|refine gA ?_|(refine gD ?_ ?_<;>intro h<;>try exact aA h)|fail
 refine aR (aSG m (by omega) (by omega) _) (cO) ?_
 rintro r H' ⟨M,rfl,hM1,hM2,rfl⟩;simp only[go_sem];have hwM:IntKind.u64.wrap ((M:Int)-1)=((M-1:Nat):Int):=by rw[show(M:Int)-1=((M-1:Nat):Int) by omega];exact aCB (by omega)
 repeat' first|(refine gS ?_;simp only[go_sem,hq,hw2,hw5,hw6])|refine gA ?_|(refine gD ?_ ?_<;>intro h<;>try exact aA h)|fail
 refine aI (ι:=Nat×Int×Array gJ) (fun s=>[(0,.osl 1 blk v 0 n lc),(1,.int .i64 a),(8,.int .i64 m),(9,.ref H.length 0 0),(10,.int .u64 M),(11,.int .i64 s.1)]) (fun s=>aB H blk (.cells v (dC s.2.2))++[aBt s.2.1])
  (fun s=>a+q * 2-1≤s.1∧s.1≤a+q * 2+2∧s.2.2.size=n∧Sort.PermIn a (a+m) d s.2.2) (fun s=>a+q * 2+2-s.1) (a+q * 2-1,(m:Int),d) ⟨zAf _,by simp only;omega,hn.symm,Sort.permIn_refl _ _ _⟩ ?_ (by rw[nI hh trivial];rfl) ?_
 ·simp[go_sem]
 rintro⟨k,x,E⟩ ⟨h1,h2,h3,h4⟩;simp only at h1 h2 h3 h4 ⊢;by_cases hk:k≤a+q * 2+1
 ·have hli:decide ((k:Int)≤((a+q * 2+1:Nat):Int))=true:=dT;repeat' first|(refine gS ?_;simp only[go_sem,hq,hw2,hw5,hw7,hli])|refine gA ?_|(refine gD ?_ ?_<;>intro h<;>try exact aA h)|fail
  refine aR (aVV x H.length _ (f2 _ x)) (cO) ?_;rintro r H' ⟨y,rfl,rfl⟩;rw[show(ABlk.cells 0 [AV.int .u64 y])=aBt y from rfl,f4]
  simp only[go_sem];obtain⟨o,ho1,ho2⟩:=aSF (x:=y) (y:=M-1) (by omega)
  have hwo:IntKind.i64.wrap (o:Int)=(o:Int):=aJ rfl (by omega)
  have hk1:IntKind.i64.wrap ((k:Int)+1)=((k+1:Nat):Int):=aJ (by omega) (by omega)
  have step:∀z,z<m→Sort.PermIn a (a+m) d (Sort.swp E k (a+z)):=fun z hz=>Sort.permIn_trans _ _ _ _ _ h4 (Sort.swp_permIn _ _ _ _ _ (by omega) (by omega) (by omega) (by omega) (by omega))
  have ek:=bI (d:=E) (show k<E.size by omega)
  by_cases hom:m≤o
  ·have hli2:decide ((m:Int)≤(o:Int))=true:=dT;have hwz:IntKind.i64.wrap ((o:Int)-(m:Int))=((o-m:Nat):Int):=aJ (by omega) (by omega)
   have hwy:IntKind.i64.wrap ((a:Int)+((o-m:Nat):Int))=((a+(o-m):Nat):Int):=aJ (by omega) (by omega)
   have ez:=bI (d:=E) (show a+(o-m)<E.size by omega)
   have hsw:=fH (d:=E) (show k<E.size by omega) (show a+(o-m)<E.size by omega)
   have sl:=kA E h3 (show k<n by omega)
   repeat' first|((first|refine mx [10] aBs ?_|refine gS ?_);simp only[go_sem,hwM,ho1,hwo,hli2,hwz,hwy,f1,f3,ek,ez,hsw,sl,hk1,zAB,bR,h3])|refine gA ?_|(refine gD ?_ ?_<;>intro h<;>try exact aA h)|fail
   exact⟨(k+1,y,Sort.swp E k (a+(o-m))),⟨by simp only;omega,by simp only;omega,by simp only[cT];exact h3,step _ (by omega)⟩,by simp only;omega,rfl,rfl⟩
  ·have hli2:decide ((m:Int)≤(o:Int))=false:=dF;have hwy:IntKind.i64.wrap ((a:Int)+(o:Int))=((a+o:Nat):Int):=aJ (by omega) (by omega)
   have ez:=bI (d:=E) (show a+o<E.size by omega)
   have hsw:=fH (d:=E) (show k<E.size by omega) (show a+o<E.size by omega)
   have sl:=kA E h3 (show k<n by omega)
   repeat' first|((first|refine mx [10] aBs ?_|refine gS ?_);simp only[go_sem,hwM,ho1,hwo,hli2,hwy,f1,f3,ek,ez,hsw,sl,hk1,zAB,bR,h3])|refine gA ?_|(refine gD ?_ ?_<;>intro h<;>try exact aA h)|fail
   exact⟨(k+1,y,Sort.swp E k (a+o)),⟨by simp only;omega,by simp only;omega,by simp only[cT];exact h3,step _ (by omega)⟩,by simp only;omega,rfl,rfl⟩
 ·have hli:decide ((k:Int)≤((a+q * 2+1:Nat):Int))=false:=dF;repeat' first|(refine gS ?_;simp only[go_sem,hq,hw2,hw5,hw7,hli])|refine gA ?_|(refine gD ?_ ?_<;>intro h<;>try exact aA h)|fail
  exact aLF (fR _ _ _) (by simp only[go_sem]) _ ⟨E,h4,rfl,rfl⟩
end
section
section
variable {lt:gJ→gJ→Bool} {c:gJ→gJ→Int} {fn:Fn} {fs cs:List AV}
theorem aSH(hw:Sort.SWO lt)(hc:∀x y,decide (c x y<0)=lt x y)(hf:vX Tryz.prog (.func fn fs cs) c):∀(k:Nat) {d:Array gJ} {a b n lc blk v:Nat} {lim:Int},b-a≤k→n=d.size→n≤1073741824→b≤n→a≤b→(0≤lim∧lim≤1073741824)→Sort.Below lt a b d→
  ∀(H:AHeap),hget H blk=.cells v (dC d)→ACalls Tryz.prog 228 [.osl 1 blk v 0 n lc,.int .i64 a,.int .i64 b,.int .i64 lim,.func fn fs cs] H
   (fun r H'=>∃d',Sort.PermIn a b d d'∧Sort.SortedIn lt a b d'∧r=.tup []∧H'=aB H blk (.cells v (dC d'))):=by
 intro k;induction k with
 |zero=>
  intro d a b n lc blk v lim hk hn hl hb hab hlim hB H hh;refine aO Tryz.func228 ?_;have hw0:IntKind.i64.wrap ((b:Int)-(a:Int))=((b-a:Nat):Int):=aJ (by omega) (by omega)
  have hli:decide (((b-a:Nat):Int)≤12)=true:=dT;repeat' first|(refine gS ?_;simp only[go_sem])|refine gA ?_|(refine gD ?_ ?_<;>intro h<;>try exact aA h)|fail
  refine aI (ι:=Unit) (fun _=>[(0,.osl 1 blk v 0 n lc),(1,.int .i64 a),(2,.int .i64 b),(3,.int .i64 lim),(4,.func fn fs cs)]) (fun _=>H) (fun _=>True) (fun _=>0) () trivial ?_ rfl ?_
  ·simp[go_sem]
  rintro _ _;repeat' first|(refine gS ?_;simp only[go_sem,hw0,hli])|refine gA ?_|(refine gD ?_ ?_<;>intro h<;>try exact aA h)|fail
  refine aR (aKY hc hf hn hl hb hab H hh) (cO) ?_;rintro r H' ⟨rfl,rfl⟩;simp only[go_sem];repeat' first|(refine gS ?_;simp only[go_sem])|refine gA ?_|(refine gD ?_ ?_<;>intro h<;>try exact aA h)|fail
  obtain⟨s1,s2⟩:=Sort.insertionSort_holds hw d a b hab (by omega)
  exact iX (fR _ _ _) _ ⟨_,s1,s2,rfl,rfl⟩
 |succ k ih=>
  intro d a0 b0 n lc blk v lim0 hk hn hl hb0 hab0 hlim0 hB0 H hh;refine aO Tryz.func228 ?_;have hg:=fun b=>jY hh trivial b
  have hs:=gX H blk;repeat' first|(refine gS ?_;simp only[go_sem])|refine gA ?_|(refine gD ?_ ?_<;>intro h<;>try exact aA h)|fail
  refine aI (ι:=Nat×Nat×Int×Bool×Bool×Array gJ) (fun s=>[(0,.osl 1 blk v 0 n lc),(1,.int .i64 s.1),(2,.int .i64 s.2.1),(3,.int .i64 s.2.2.1),(4,.func fn fs cs),(10,.bool s.2.2.2.1),(11,.bool s.2.2.2.2.1)]) (fun s=>aB H blk (.cells v (dC s.2.2.2.2.2)))
   (fun s=>(a0≤s.1∧s.1≤s.2.1∧s.2.1≤b0)∧s.2.2.2.2.2.size=n∧(0≤s.2.2.1∧s.2.2.1≤1073741824)∧Sort.Below lt s.1 s.2.1 s.2.2.2.2.2∧∀R,Sort.PermIn s.1 s.2.1 s.2.2.2.2.2 R→Sort.SortedIn lt s.1 s.2.1 R→Sort.PermIn a0 b0 d R∧Sort.SortedIn lt a0 b0 R)
   (fun s=>s.2.1-s.1) (a0,b0,lim0,true,true,d) ⟨⟨zAf _,hab0,zAf _⟩,hn.symm,hlim0,hB0,fun R h1 h2=>⟨h1,h2⟩⟩ ?_ (nI hh trivial).symm ?_
  ·simp[go_sem]
  rintro⟨a,b,lim,wb,wp,E⟩ ⟨⟨p1,p2,p3⟩,hE,hlim,hB,hfin⟩;simp only at p1 p2 p3 hE hlim hB hfin ⊢;have hw0:IntKind.i64.wrap ((b:Int)-(a:Int))=((b-a:Nat):Int):=aJ (by omega) (by omega)
  by_cases c0:b-a≤12
  ·have hli:decide (((b-a:Nat):Int)≤12)=true:=dT;repeat' first|(refine gS ?_;simp only[go_sem,hw0,hli])|refine gA ?_|(refine gD ?_ ?_<;>intro h<;>try exact aA h)|fail
   refine aR (aKY hc hf hE.symm hl (by omega) p2 _ (hg _)) (cO) ?_
   rintro r H' ⟨rfl,rfl⟩;simp only[go_sem,hs];repeat' first|(refine gS ?_;simp only[go_sem])|refine gA ?_|(refine gD ?_ ?_<;>intro h<;>try exact aA h)|fail
   obtain⟨s1,s2⟩:=Sort.insertionSort_holds hw E a b p2 (by omega)
   obtain⟨t1,t2⟩:=hfin _ s1 s2;exact iX (fR _ _ _) _ ⟨_,t1,t2,rfl,rfl⟩
  have hli:decide (((b-a:Nat):Int)≤12)=false:=dF;by_cases c1:lim=0
  ·have hli1:decide (lim=0)=true:=zAj c1;repeat' first|(refine gS ?_;simp only[go_sem,hw0,hli,hli1])|refine gA ?_|(refine gD ?_ ?_<;>intro h<;>try exact aA h)|fail
   refine aR (aOw hc hf hE.symm hl (by omega) (by omega) _ (hg _)) (cO) ?_
   rintro r H' ⟨rfl,rfl⟩;simp only[go_sem,hs];repeat' first|(refine gS ?_;simp only[go_sem])|refine gA ?_|(refine gD ?_ ?_<;>intro h<;>try exact aA h)|fail
   obtain⟨s1,s2⟩:=Sort.heapSort_holds hw E a b p2 (by omega)
   obtain⟨t1,t2⟩:=hfin _ s1 s2;exact iX (fR _ _ _) _ ⟨_,t1,t2,rfl,rfl⟩
  have hli1:decide (lim=0)=false:=zAg c1;repeat' first|(refine gS ?_;simp only[go_sem,hw0,hli,hli1])|refine gA ?_|fail
  refine eJ rfl (fun h=>by cases h) (fun _=>?_)
  repeat' first|(refine gS ?_;simp only[go_sem,hw0,hli,hli1])|refine gA ?_|fail
  refine eJ rfl (fun h=>by cases h) (fun _=>?_)
  repeat' first|(refine gS ?_;simp only[go_sem,hw0,hli,hli1])|refine gA ?_|fail
  refine aCV (ι:=Int×Array gJ) (fun s=>[(0,.osl 1 blk v 0 n lc),(1,.int .i64 a),(2,.int .i64 b),(4,.func fn fs cs),(10,.bool wb),(11,.bool wp),(12,.int .i64 (b-a:Nat)),(3,.int .i64 s.1)]) (fun s=>aB H blk (.cells v (dC s.2))) (fun s=>(0≤s.1∧s.1≤1073741824)∧Sort.PermIn a b E s.2) ?_ ?_
  ·cases wb with
   |true=>
    repeat' first|(refine gS ?_;simp only[go_sem])|refine gA ?_|(refine gD ?_ ?_<;>intro h<;>try exact aA h)|fail
    exact⟨(lim,E),⟨hlim,Sort.permIn_refl _ _ _⟩,rfl,rfl⟩
   |false=>
    have hwl:IntKind.i64.wrap (lim-1)=lim-1:=wI;repeat' first|(refine gS ?_;simp only[go_sem])|refine gA ?_|(refine gD ?_ ?_<;>intro h<;>try exact aA h)|fail
    refine aR (aLG hE.symm hl (by omega) (by omega) _ _ (hg _)) (cO) ?_
    rintro r H' ⟨E1,q1,rfl,rfl⟩;simp only[go_sem,hs];repeat' first|(refine gS ?_;simp only[go_sem,hwl])|refine gA ?_|(refine gD ?_ ?_<;>intro h<;>try exact aA h)|fail
    exact⟨(lim-1,E1),⟨⟨by simp only;omega,by simp only;omega⟩,q1⟩,rfl,rfl⟩
  clear hli1 c1 hlim;rintro⟨lim,E1⟩ ⟨hlim,q1⟩;simp only at hlim q1 ⊢;have hE1:E1.size=n:=by rw[q1.1];exact hE
  repeat' first|(refine gS ?_;simp only[go_sem])|refine gA ?_|fail
  refine aR (aIN hf hE1.symm hl (by omega) (by omega) _ (hg _)) (cO) ?_
  rintro r H' ⟨pv,hint,⟨v1,v2⟩,rfl,rfl⟩;simp only[go_sem];repeat' first|(refine gS ?_;simp only[go_sem])|refine gA ?_|fail
  refine aCV (ι:=Nat×Int×Array gJ) (fun s=>[(0,.osl 1 blk v 0 n lc),(1,.int .i64 a),(2,.int .i64 b),(4,.func fn fs cs),(10,.bool wb),(11,.bool wp),(12,.int .i64 (b-a:Nat)),(3,.int .i64 lim),(13,.int .i64 s.1),(14,.int .i64 s.2.1)]) (fun s=>aB H blk (.cells v (dC s.2.2))) (fun s=>(a≤s.1∧s.1<b)∧Sort.PermIn a b E1 s.2.2) ?_ ?_
  ·have hw1:IntKind.i64.wrap ((b:Int)-1)=((b-1:Nat):Int):=aJ (by omega) (by omega)
   have hw2:IntKind.i64.wrap ((pv:Int)-(a:Int))=((pv-a:Nat):Int):=aJ (by omega) (by omega)
   have hw3:IntKind.i64.wrap (((b-1:Nat):Int)-((pv-a:Nat):Int))=((b-1-(pv-a):Nat):Int):=aJ (by omega) (by omega)
   by_cases hh2:hint=2
   ·have hlh:decide (hint=2)=true:=zAj hh2;repeat' first|(refine gS ?_;simp only[go_sem,hlh])|refine gA ?_|(refine gD ?_ ?_<;>intro h<;>try exact aA h)|fail
    refine aR (aSp hE1.symm hl (by omega) (by omega) _ _ (hg _)) (cO) ?_
    rintro r H' ⟨rfl,rfl⟩;simp only[go_sem,hs];repeat' first|(refine gS ?_;simp only[go_sem,hw1,hw2,hw3])|refine gA ?_|(refine gD ?_ ?_<;>intro h<;>try exact aA h)|fail
    exact⟨(b-1-(pv-a),1,Sort.reverseRange E1 a b),⟨⟨by simp only;omega,by simp only;omega⟩,Sort.reverseRange_holds E1 a b p2 (by omega)⟩,⟨rfl,rfl⟩,rfl⟩
   ·have hlh:decide (hint=2)=false:=zAg hh2;repeat' first|(refine gS ?_;simp only[go_sem,hlh])|refine gA ?_|(refine gD ?_ ?_<;>intro h<;>try exact aA h)|fail
    exact⟨(pv,hint,E1),⟨⟨v1,v2⟩,Sort.permIn_refl _ _ _⟩,⟨rfl,rfl⟩,rfl⟩
  clear v1 v2;rintro⟨pv,hint,E2⟩ ⟨⟨v1,v2⟩,q2⟩;simp only at v1 v2 q2 ⊢;have hE2:E2.size=n:=by rw[q2.1];exact hE1
  have q12:=Sort.permIn_trans _ _ _ _ _ q1 q2;have hB2:=hB.perm (by omega) q12
  repeat' first|(refine gS ?_;simp only[go_sem])|refine gA ?_|fail
  refine aCV (ι:=Array gJ) (fun s=>[(0,.osl 1 blk v 0 n lc),(1,.int .i64 a),(2,.int .i64 b),(4,.func fn fs cs),(10,.bool wb),(11,.bool wp),(12,.int .i64 (b-a:Nat)),(3,.int .i64 lim),(13,.int .i64 pv)]) (fun s=>aB H blk (.cells v (dC s))) (fun s=>Sort.PermIn a b E2 s) ?_ ?_
  ·repeat' first|(refine gS ?_;simp only[go_sem])|refine gA ?_|(refine gD ?_ ?_<;>intro h<;>try exact aA h)|fail
   ·refine aR (aOQ hc hf hE2.symm hl (by omega) (by omega) _ (hg _)) (cO) ?_
    rintro r H' ⟨rfl,rfl⟩;simp only[go_sem,hs];obtain⟨s1,s2⟩:=Sort.partialInsertionSort_holds hw E2 a b (by omega) (by omega) hB2
    repeat' first|(refine gS ?_;simp only[go_sem])|refine gA ?_|(refine gD ?_ ?_<;>intro h<;>try exact aA h)|fail
    ·obtain⟨t1,t2⟩:=hfin _ (Sort.permIn_trans _ _ _ _ _ q12 s1) (s2 (by assumption))
     exact iX (fR _ _ _) _ ⟨_,t1,t2,rfl,rfl⟩
    ·exact⟨_,s1,rfl⟩
   ·exact⟨E2,Sort.permIn_refl _ _ _,rfl⟩
  rintro E3 q3;have hE3:E3.size=n:=by rw[q3.1];exact hE2
  have q13:=Sort.permIn_trans _ _ _ _ _ q12 q3;have hB3:=hB.perm (by omega) q13
  have gp:=bI (d:=E3) (show pv<E3.size by omega)
  refine xR (ι:=Unit) (fun _=>[(0,.osl 1 blk v 0 n lc),(1,.int .i64 a),(2,.int .i64 b),(3,.int .i64 lim),(4,.func fn fs cs),(10,.bool wb),(11,.bool wp),(12,.int .i64 (b-a:Nat)),(13,.int .i64 pv)]) (fun _=>aB H blk (.cells v (dC E3))) (fun _=>True) ?_ ?_
  ·by_cases ha:0<a
   ·have hla:decide ((0:Int)<(a:Int))=true:=dT;have hw1:IntKind.i64.wrap ((a:Int)-1)=((a-1:Nat):Int):=aJ (by omega) (by omega)
    have ga:=bI (d:=E3) (show a-1<E3.size by omega)
    repeat' first|(refine gS ?_;simp only[go_sem,hla,hw1,hg,hs,ga,gp,zAB,bR,hE3])|refine gA ?_|(refine gD ?_ ?_<;>intro h<;>try exact aA h)|fail
    refine cG hf ?_;simp only[go_sem,hc];cases hxy:lt E3[a-1]! E3[pv]! with
    |true=>
     repeat' first|(refine gS ?_;simp only[go_sem,hxy])|refine gA ?_|(refine gD ?_ ?_<;>intro h<;>try exact aA h)|fail
     exact⟨(),trivial⟩
    |false=>
     repeat' first|(refine gS ?_;simp only[go_sem,hxy])|refine gA ?_|(refine gD ?_ ?_<;>intro h<;>try exact aA h)|fail
     refine aR (aIL hc hf hE3.symm hl (by omega) v1 v2 _ (hg _)) (cO) ?_
     rintro r H' ⟨rfl,rfl⟩;simp only[go_sem,hs];obtain⟨⟨mid,E4⟩,hpe⟩:∃x,Sort.partitionEqual lt E3 a b pv=x:=⟨_,rfl⟩;obtain⟨m1,m2,m3,m4,m5⟩:=Sort.round_eq hw (Sort.partitionEqual_holds lt) ha v1 v2 (by omega) hB3 hxy hpe
     rw[hpe];repeat' first|(refine gS ?_;simp only[go_sem])|refine gA ?_|(refine gD ?_ ?_<;>intro h<;>try exact aA h)|fail
     exact⟨(mid,b,lim,wb,wp,E4),⟨⟨by simp only;omega,m2,p3⟩,by simp only;rw[m3];exact hE3,hlim,m4,fun R r1 r2=>by
      obtain⟨u1,u2⟩:=m5 R r1 r2;exact hfin R (Sort.permIn_trans _ _ _ _ _ q13 u1) u2⟩,by simp only;omega,⟨rfl,rfl,rfl,rfl,rfl⟩,rfl⟩
   ·have hla:decide ((0:Int)<(a:Int))=false:=dF;repeat' first|(refine gS ?_;simp only[go_sem,hla,hg,hs,gp,zAB,bR,hE3])|refine gA ?_|(refine gD ?_ ?_<;>intro h<;>try exact aA h)|fail
    exact⟨(),trivial⟩
  rintro _ _;obtain⟨⟨mid,ap,E4⟩,hpt⟩:∃x,Sort.partition lt E3 a b pv=x:=⟨_,rfl⟩;obtain⟨m1,m2,m3,m4,m5,m6,m7⟩:=Sort.round_part hw (Sort.partition_holds lt) v1 v2 (by omega) hB3 hpt
  have hE4:E4.size=n:=by rw[m3];exact hE3
  repeat' first|(refine gS ?_;simp only[go_sem])|refine gA ?_|(refine gD ?_ ?_<;>intro h<;>try exact aA h)|fail
  refine aR (aOO hc hf hE3.symm hl (by omega) v1 v2 _ (hg _)) (cO) ?_
  rintro r H' ⟨rfl,rfl⟩;simp only[go_sem,hs,hpt];have hw1:IntKind.i64.wrap ((mid:Int)-(a:Int))=((mid-a:Nat):Int):=aJ (by omega) (by omega)
  have hw2:IntKind.i64.wrap ((b:Int)-(mid:Int))=((b-mid:Nat):Int):=aJ (by omega) (by omega)
  have hw3:IntKind.i64.wrap ((mid:Int)+1)=((mid+1:Nat):Int):=aJ (by omega) (by omega)
  by_cases hlr:mid-a<b-mid
  ·have hll:decide (((mid-a:Nat):Int)<((b-mid:Nat):Int))=true:=dT;repeat' first|(refine gS ?_;simp only[go_sem,hw1,hw2,hll])|refine gA ?_|(refine gD ?_ ?_<;>intro h<;>try exact aA h)|fail
   refine aR (ih (d:=E4) (a:=a) (b:=mid) (by omega) hE4.symm hl (by omega) m1 hlim m4 _ (hg _)) (cO) ?_
   rintro r H' ⟨E5,x1,x2,rfl,rfl⟩;obtain⟨y1,y2⟩:=m6 E5 x1 x2;simp only[go_sem,hs];repeat' first|(refine gS ?_;simp only[go_sem,hw3])|refine gA ?_|(refine gD ?_ ?_<;>intro h<;>try exact aA h)|fail
   exact⟨(mid+1,b,lim,_,ap,E5),⟨⟨by simp only;omega,by simp only;omega,p3⟩,by simp only;rw[x1.1];exact hE4,hlim,y1,fun R r1 r2=>by
    obtain⟨u1,u2⟩:=y2 R r1 r2;exact hfin R (Sort.permIn_trans _ _ _ _ _ q13 u1) u2⟩,by simp only;omega,⟨rfl,rfl,rfl,rfl,rfl⟩,rfl⟩
  ·have hll:decide (((mid-a:Nat):Int)<((b-mid:Nat):Int))=false:=dF;repeat' first|(refine gS ?_;simp only[go_sem,hw1,hw2,hll,hw3])|refine gA ?_|(refine gD ?_ ?_<;>intro h<;>try exact aA h)|fail
   refine aR (ih (d:=E4) (a:=mid+1) (b:=b) (by omega) hE4.symm hl (by omega) (by omega) hlim m5 _ (hg _)) (cO) ?_
   rintro r H' ⟨E5,x1,x2,rfl,rfl⟩;obtain⟨y1,y2⟩:=m7 E5 x1 x2;simp only[go_sem,hs];repeat' first|(refine gS ?_;simp only[go_sem])|refine gA ?_|(refine gD ?_ ?_<;>intro h<;>try exact aA h)|fail
   exact⟨(a,mid,lim,_,ap,E5),⟨⟨p1,m1,by simp only;omega⟩,by simp only;rw[x1.1];exact hE4,hlim,y1,fun R r1 r2=>by
    obtain⟨u1,u2⟩:=y2 R r1 r2;exact hfin R (Sort.permIn_trans _ _ _ _ _ q13 u1) u2⟩,by simp only;omega,⟨rfl,rfl,rfl,rfl,rfl⟩,rfl⟩
theorem aWQ(hw:Sort.SWO lt)(hc:∀x y,decide (c x y<0)=lt x y)(hf:vX Tryz.prog (.func fn fs cs) c){d:Array gJ}{n lc blk v:Nat}(hn:n=d.size)(hl:n≤1073741824)(H:AHeap)(hh:hget H blk=.cells v (dC d)):
  ACalls Tryz.prog 217 [.osl 1 blk v 0 n lc,.func fn fs cs] H
   (fun r H'=>∃d',Sort.PermIn 0 n d d'∧Sort.SortedIn lt 0 n d'∧r=.tup []∧H'=aB H blk (.cells v (dC d'))):=by
 refine aO Tryz.func217 ?_;have hwu:IntKind.u64.wrap (n:Int)=(n:Int):=aCB (by omega)
 repeat' first|(refine gS ?_;simp only[go_sem,hh,hwu])|refine gA ?_|(refine gD ?_ ?_<;>intro h<;>try exact aA h)|fail
 refine aR (aQF n (by omega) _) (cO) ?_
 rintro r H' ⟨L,rfl,h1, -,rfl⟩;simp only[go_sem];refine aR (aSH hw hc hf n (d:=d) (a:=0) (b:=n) (by omega) hn hl (zAf _) (zAo _) (lim:=(L:Int)) (by omega) (.inl rfl) _ hh) (cO) ?_
 rintro r H' ⟨d',s1,s2,rfl,rfl⟩;simp only[go_sem];repeat' first|(refine gS ?_;simp only[go_sem])|refine gA ?_|(refine gD ?_ ?_<;>intro h<;>try exact aA h)|fail
 exact iX (fR _ _ _) _ ⟨_,s1,s2,rfl,rfl⟩
end
end
end Go.Proofs.YtennnelammaapaaGreatDoor
