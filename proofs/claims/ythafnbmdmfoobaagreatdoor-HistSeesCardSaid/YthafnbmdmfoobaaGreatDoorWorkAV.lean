/- What the functions of this seat answer (22 of 40). No condition. -/
import Derived.Test.YthafnbmdmfoobaaGreatDoorWorkAU
set_option linter.unusedSimpArgs false
set_option linter.unusedVariables false
set_option linter.unusedSectionVars false
set_option maxRecDepth 100000
set_option maxHeartbeats 16000000
namespace Go.Proofs.YthafnbmdmfoobaaGreatDoor
section
theorem aBS{H L:ab}{i:Nat}{b:bu}{v:I}(aa:dp H.length b)(ae:bO v)(R:I->ab->Prop)(e2:R v (ai H i b)):
  ∃H1 M y,ai H i b++L=H1++M∧H1.length=H.length∧(∀(j:Nat) (c:bu),H1[j]?=some c->H[j]?=some c∨dp H.length c)∧cQ H.length (ai H i b++L) v y∧R y H1:=
 ⟨ai H i b,L,v,rfl,lR H i b,AN aa,.cl _ (ae.cl _),e2⟩
theorem BG{n:Nat}(h:n<18446744073709551616):IntKind.u64.wrap (n:Int)=(n:Int):=by
 simp[IntKind.wrap,IntKind.bits,IntKind.signed];omega
theorem aGn{x:Int}{y:Nat}(aG:y<18446744073709551616):∃n:Nat,qG .and .u64 x (y:Int)=(n:Int)∧n<=y:=by
 refine⟨(BitVec.ofInt 64 x&&&BitVec.ofInt 64 (y:Int)).toNat,?_,?_⟩
 ·exact BG (BitVec.isLt _)
 ·rw[BitVec.toNat_and];refine gU Nat.and_le_right ?_;simp;omega
def Se:List cR:=[.free,.pure 0,.pure 0,.free,.pure 0,.pure 0,.free,.free,.pure 0,.eff [false,false,false,false,false]]
def Lp:List cR:=[.free,.free,.free,.free,.free,.free,.free,.free,.free,.free,.pure 0,.pure 0,.free,.free,.pure 0,.pure 0,.pure 0,.eff [false,false,true,false,false],.pure 0,.eff [false,false]]
attribute [go_sem] Se Lp
def UH(T:List UInt8):Bool:=(List.range 256).all fun z=>decide ((T.getD z 0).toNat<=8)&&(decide (z=0)||decide (2 ^ (T.getD z 0).toNat<=2 * z))
theorem aDp{T:List UInt8}(h:UH T=true){z:Nat}(a2:z<256):(T.getD z 0).toNat<=8∧(1<=z->2 ^ (T.getD z 0).toNat<=2 * z):=by
 have:=gT.1 h z (xk.2 a2);simp only[dD,xq,hR]at this;exact⟨this.1,fun h1=>this.2.resolve_left (by omega)⟩
theorem HJ{H:ab}{T:List UInt8}{z s x:Nat}(o1:UH T=true)(a2:z<256)(hs:s<=24)(J:2 ^ s * z<=x)(h1:1<=x->1<=z):
  ∃H1 L y,H=H1++L∧H1.length=H.length∧(∀(i:Nat) (b:bu),H1[i]?=some b->H[i]?=some b∨dp H.length b)∧cQ H.length H (I.int .i64 (IntKind.i64.wrap ((s:Int)+IntKind.i64.wrap (((T.getD z 0).toNat:Nat):Int)))) y∧
   ∃L:Nat,y=.int .i64 L∧L<=32∧(1<=x->2 ^ L<=2 * x)∧H1=H:=by
 obtain⟨t1,t2⟩:=aDp o1 a2;generalize(T.getD z 0).toNat=t at *;refine⟨H,[],_,(b2 _).symm,rfl,fun _ _ h=>.inl h,.cl _ (.int _ _),s+t,?_,by omega,fun kU=>?_,rfl⟩
 ·rw[b9 (n:=t) rfl (by omega),b9 (n:=s+t) (by omega) (by omega)]
 ·have h2:=t2 (h1 kU);calc 2 ^ (s+t)=2 ^ s * 2 ^ t:=Nat.pow_add ..
   _<=2 ^ s * (2 * z):=Nat.mul_le_mul_left _ h2
   _=2 * (2 ^ s * z):=by rw[Nat.mul_left_comm]
   _<=2 * x:=Nat.mul_le_mul_left _ J
theorem Su(x k:Nat):(x:Int).fdiv (2 ^ k)=((x / 2 ^ k:Nat):Int):=by
 rw[Int.fdiv_eq_ediv_of_nonneg _ (Int.pow_nonneg (by omega))]
 simp
theorem aDq(x:Nat)(J:x<=1073741824)(H:ab):c5 Tryz.prog 250 [.int .u64 x] H (fun r H'=>∃L:Nat,r=.int .i64 L∧L<=32∧(1<=x->2 ^ L<=2 * x)∧H'=H):=by
 refine eJ Tryz.func250 ?_;have aH:decide ((4294967296:Int)<=(x:Int))=false:=cg;have Kt:∀y:Nat,(y:Int).fdiv (2 ^ min 16 64)=((y / 65536:Nat):Int):=fun y=>Su y 16
 have Ku:∀y:Nat,(y:Int).fdiv (2 ^ min 8 64)=((y / 256:Nat):Int):=fun y=>Su y 8
 have u8:∀y:Nat,y<256->IntKind.u8.wrap (y:Int)=(y:Int):=fun y aG=>by simp[IntKind.wrap,IntKind.bits,IntKind.signed];omega
 have c4:IntKind.i64.wrap (0+16)=((16:Nat):Int):=rfl;have dm:IntKind.i64.wrap (((16:Nat):Int)+8)=((24:Nat):Int):=rfl;have ee:IntKind.i64.wrap (0+8)=((8:Nat):Int):=rfl;have dH:IntKind.i64.wrap (16+8)=((24:Nat):Int):=rfl;by_cases h1:65536<=x
 ·have oe:decide ((65536:Int)<=(x:Int))=true:=b1;by_cases h2:256<=x / 65536
  ·have ec:decide ((256:Int)<=((x / 65536:Nat):Int))=true:=b1;have hu:=u8 (x / 65536 / 256) (by omega)
   repeat' first|(refine ad ?_;simp only[go_sem,aH,oe,ec,Kt,Ku,hu,c4,dm,ee,dH])|refine af ?_|fail
   exact HJ (s:=24) (z:=x / 65536 / 256) (by decide+kernel) (by omega) (by omega) (by omega) (by omega)
  ·have ec:decide ((256:Int)<=((x / 65536:Nat):Int))=false:=cg;have hu:=u8 (x / 65536) (by omega)
   repeat' first|(refine ad ?_;simp only[go_sem,aH,oe,ec,Kt,Ku,hu,c4,dm,ee,dH])|refine af ?_|fail
   exact HJ (s:=16) (z:=x / 65536) (by decide+kernel) (by omega) (by omega) (by omega) (by omega)
 ·have oe:decide ((65536:Int)<=(x:Int))=false:=cg;by_cases h2:256<=x
  ·have ec:decide ((256:Int)<=(x:Int))=true:=b1;have hu:=u8 (x / 256) (by omega)
   repeat' first|(refine ad ?_;simp only[go_sem,aH,oe,ec,Kt,Ku,hu,c4,dm,ee,dH])|refine af ?_|fail
   exact HJ (s:=8) (z:=x / 256) (by decide+kernel) (by omega) (by omega) (by omega) (by omega)
  ·have ec:decide ((256:Int)<=(x:Int))=false:=cg;have hu:=u8 x (by omega)
   repeat' first|(refine ad ?_;simp only[go_sem,aH,oe,ec,Kt,Ku,hu,c4,dm,ee,dH])|refine af ?_|fail
   exact HJ (s:=0) (z:=x) (by decide+kernel) (by omega) (by omega) (by omega) (by omega)
theorem Un(x:Nat)(J:x<=1073741824)(H:ab):c5 Tryz.prog 237 [.int .u64 x] H (fun r H'=>∃L:Nat,r=.int .i64 L∧L<=32∧(1<=x->2 ^ L<=2 * x)∧H'=H):=by
 refine eJ Tryz.func237 ?_;repeat' first|(refine ad ?_;simp only[go_sem])|refine af ?_|fail
 refine c6 (aDq x J _) (aA) ?_;rintro r H' ⟨L,rfl,h1,h2,rfl⟩;simp only[go_sem];repeat' first|(refine ad ?_;simp only[go_sem])|refine af ?_|fail
 exact⟨_,[],_,(b2 _).symm,rfl,fun _ _ h=>.inl h,.cl _ (.int _ _),L,rfl,h1,h2,rfl⟩
theorem aGo(x:Nat)(h1:1<=x)(J:x<=1073741824)(H:ab):c5 Tryz.prog 253 [.int .i64 x] H (fun r H'=>∃m:Nat,r=.int .u64 m∧1<=m∧m<=2 * x∧H'=H):=by
 refine eJ Tryz.func253 ?_;have hw:IntKind.u64.wrap (x:Int)=(x:Int):=BG (by omega)
 repeat' first|(refine ad ?_;simp only[go_sem,hw])|refine af ?_|fail
 refine c6 (Un x J _) (aA) ?_;rintro r H' ⟨L,rfl,h2,h3,rfl⟩;have ae:=h3 h1;have sA:1<=2 ^ L:=Nat.one_le_two_pow;have bT:IntKind.u64.wrap (1 * 2 ^ min L 64)=((2 ^ L:Nat):Int):=by
  rw[uu (by omega),Int.one_mul]
  have:=BG (n:=2 ^ L) (by omega)
  simpa using this
 simp only[go_sem];repeat' first|(refine ad ?_;simp only[go_sem])|refine af ?_|fail
 rw[bT];exact⟨_,[],_,(b2 _).symm,rfl,fun _ _ h=>.inl h,.cl _ (.int _ _),2 ^ L,rfl,sA,ae,rfl⟩
def s9(s:Int):bu:=.cells 0 [.int .u64 s]
theorem aDr(n:Nat)(s:Int):dp n (s9 s):=fun x J=>by simp at J;subst J;exact .int _ _
theorem aGS(x:Int)(i:Nat)(H:ab)(hi:ao H i=.cells 0 [.int .u64 x]):c5 Tryz.prog 254 [.ref i 0 0] H (fun r H'=>∃y:Int,r=.int .u64 y∧H'=ai H i (.cells 0 [.int .u64 y])):=by
 refine eJ Tryz.func254 ?_;have a7:=fun b=>m2 hi trivial b
 have ch:=nw H i;repeat' first|((first|refine mx [1,2,3] Se ?_|refine ad ?_);simp only[go_sem,hi,a7,ch])|refine af ?_|fail
 exact tT (aDr _ _) (.int _ _) _ ⟨_,rfl,rfl⟩
theorem aBT{d:Array dB}{a b n lc aE v:Nat}(ag:n=d.size)(hl:n<=1073741824)(aa:b<=n)(c3:a+12<b)(F:I)(H:ab)(ah:ao H aE=.cells v (dx d)):
  c5 Tryz.prog 243 [.osl 1 aE v 0 n lc,.int .i64 a,.int .i64 b,F] H
   (fun r H'=>∃d',Sort.PermIn a b d d'∧r=.a0 []∧H'=ai H aE (.cells v (dx d'))):=by
 refine eJ Tryz.func243 ?_;have ak:=c8 ah trivial;obtain⟨m,rfl⟩:∃m,b=a+m:=⟨b-a,by omega⟩
 have eW:IntKind.i64.wrap (((a+m:Nat):Int)-(a:Int))=(m:Int):=b9 (by omega) (by omega)
 have z7:decide (8<=(m:Int))=true:=b1;have OP:IntKind.u64.wrap (m:Int)=(m:Int):=BG (by omega)
 have aS:IntKind.i64.wrap ((m:Int).tdiv 4)=((m / 4:Nat):Int):=by rw[Bb (by omega)];exact b9 (by omega) (by omega)
 obtain⟨q,iK⟩:∃q,m / 4=q:=⟨_,rfl⟩;rw[iK]at aS;have aKj:3<=q∧4 * q<=m∧m<=4 * q+3:=by omega
 have bT:IntKind.i64.wrap ((q:Int) * 2)=((q * 2:Nat):Int):=b9 (by omega) (by omega)
 have hM:IntKind.i64.wrap ((a:Int)+((q * 2:Nat):Int))=((a+q * 2:Nat):Int):=b9 (by omega) (by omega)
 have jt:IntKind.i64.wrap (((a+q * 2:Nat):Int)-1)=((a+q * 2-1:Nat):Int):=b9 (by omega) (by omega)
 have JN:IntKind.i64.wrap (((a+q * 2:Nat):Int)+1)=((a+q * 2+1:Nat):Int):=b9 (by omega) (by omega)
 have lF:∀X,(ai H aE X).length=H.length:=fun X=>lR H aE X
 have f1:∀cs s,ao (ai H aE (.cells v cs)++[s9 s]) aE=.cells v cs:=fun cs s=>bQ (b:=.cells v cs) (m2 ah trivial _) trivial _
 have f2:∀X s,ao (ai H aE X++[s9 s]) H.length=s9 s:=fun X s=>by rw[<-lF X];exact rf _ _
 have f3:∀X Y s,ai (ai H aE X++[s9 s]) aE Y=ai H aE Y++[s9 s]:=fun X Y s=>by
  rw[gW (by rw[lF];exact ak),nw]
 have f4:∀X s t,ai (ai H aE X++[s9 s]) H.length (s9 t)=ai H aE X++[s9 t]:=fun X s t=>by
  rw[<-lF X];simp[ai]
 repeat' first|(refine ad ?_;simp only[go_sem,eW,z7,OP])|refine af ?_|fail
 refine c6 (aGo m (by omega) (by omega) _) (aA) ?_
 rintro r H' ⟨M,rfl,Fa,Vv,rfl⟩;simp only[go_sem];have WA:IntKind.u64.wrap ((M:Int)-1)=((M-1:Nat):Int):=by rw[show(M:Int)-1=((M-1:Nat):Int) by omega];exact BG (by omega)
 repeat' first|(refine ad ?_;simp only[go_sem,aS,bT,hM,jt])|refine af ?_|fail
 refine b5 (ι:=Nat×Int×Array dB) (fun s=>[(0,.osl 1 aE v 0 n lc),(1,.int .i64 a),(8,.int .i64 m),(9,.ref H.length 0 0),(10,.int .u64 M),(11,.int .i64 s.1)]) (fun s=>ai H aE (.cells v (dx s.2.2))++[s9 s.2.1])
  (fun s=>a+q * 2-1<=s.1∧s.1<=a+q * 2+2∧s.2.2.size=n∧Sort.PermIn a (a+m) d s.2.2) (fun s=>a+q * 2+2-s.1) (a+q * 2-1,(m:Int),d) ⟨bk _,by simp only;omega,ag.symm,Sort.permIn_refl _ _ _⟩ ?_ (by rw[oY ah trivial];rfl) ?_
 ·simp[go_sem]
 rintro⟨k,x,E⟩ ⟨h1,h2,h3,h4⟩;simp only at h1 h2 h3 h4 ⊢;by_cases hk:k<=a+q * 2+1
 ·have aH:decide ((k:Int)<=((a+q * 2+1:Nat):Int))=true:=b1;repeat' first|(refine ad ?_;simp only[go_sem,aS,bT,hM,JN,aH])|refine af ?_|fail
  refine c6 (aGS x H.length _ (f2 _ x)) (aA) ?_;rintro r H' ⟨y,rfl,rfl⟩;rw[show(bu.cells 0 [I.int .u64 y])=s9 y from rfl,f4]
  simp only[go_sem];obtain⟨o,FA,CG⟩:=aGn (x:=y) (y:=M-1) (by omega)
  have WG:IntKind.i64.wrap (o:Int)=(o:Int):=b9 rfl (by omega)
  have hX:IntKind.i64.wrap ((k:Int)+1)=((k+1:Nat):Int):=b9 (by omega) (by omega)
  have step:∀z,z<m->Sort.PermIn a (a+m) d (Sort.swp E k (a+z)):=fun z a2=>Sort.permIn_trans _ _ _ _ _ h4 (Sort.swp_permIn _ _ _ _ _ (by omega) (by omega) (by omega) (by omega) (by omega))
  have U5:=eU (d:=E) (show k<E.size by omega)
  by_cases JD:m<=o
  ·have ec:decide ((m:Int)<=(o:Int))=true:=b1;have FT:IntKind.i64.wrap ((o:Int)-(m:Int))=((o-m:Nat):Int):=b9 (by omega) (by omega)
   have OQ:IntKind.i64.wrap ((a:Int)+((o-m:Nat):Int))=((a+(o-m):Nat):Int):=b9 (by omega) (by omega)
   have Nv:=eU (d:=E) (show a+(o-m)<E.size by omega)
   have gd:=mH (d:=E) (show k<E.size by omega) (show a+(o-m)<E.size by omega)
   have sl:=nf E h3 (show k<n by omega)
   repeat' first|((first|refine mx [10] Lp ?_|refine ad ?_);simp only[go_sem,WA,FA,WG,ec,FT,OQ,f1,f3,U5,Nv,gd,sl,hX,eE,fF,h3])|refine af ?_|fail
   exact⟨(k+1,y,Sort.swp E k (a+(o-m))),⟨by simp only;omega,by simp only;omega,by simp only[m1];exact h3,step _ (by omega)⟩,by simp only;omega,rfl,rfl⟩
  ·have ec:decide ((m:Int)<=(o:Int))=false:=cg;have OQ:IntKind.i64.wrap ((a:Int)+(o:Int))=((a+o:Nat):Int):=b9 (by omega) (by omega)
   have Nv:=eU (d:=E) (show a+o<E.size by omega)
   have gd:=mH (d:=E) (show k<E.size by omega) (show a+o<E.size by omega)
   have sl:=nf E h3 (show k<n by omega)
   repeat' first|((first|refine mx [10] Lp ?_|refine ad ?_);simp only[go_sem,WA,FA,WG,ec,OQ,f1,f3,U5,Nv,gd,sl,hX,eE,fF,h3])|refine af ?_|fail
   exact⟨(k+1,y,Sort.swp E k (a+o)),⟨by simp only;omega,by simp only;omega,by simp only[m1];exact h3,step _ (by omega)⟩,by simp only;omega,rfl,rfl⟩
 ·have aH:decide ((k:Int)<=((a+q * 2+1:Nat):Int))=false:=cg;repeat' first|(refine ad ?_;simp only[go_sem,aS,bT,hM,JN,aH])|refine af ?_|fail
  exact aBS (m4 _ _ _) (by simp only[go_sem]) _ ⟨E,h4,rfl,rfl⟩
end
section
section
variable {lt:dB->dB->Bool} {c:dB->dB->Int} {fn:Fn} {fs cs:List I}
theorem aGp(hw:Sort.SWO lt)(al:∀x y,decide (c x y<0)=lt x y)(an:qX Tryz.prog (.func fn fs cs) c):∀(k:Nat) {d:Array dB} {a b n lc aE v:Nat} {lim:Int},b-a<=k->n=d.size->n<=1073741824->b<=n->a<=b->(0<=lim∧lim<=1073741824)->Sort.Below lt a b d->
  ∀(H:ab),ao H aE=.cells v (dx d)->c5 Tryz.prog 236 [.osl 1 aE v 0 n lc,.int .i64 a,.int .i64 b,.int .i64 lim,.func fn fs cs] H
   (fun r H'=>∃d',Sort.PermIn a b d d'∧Sort.SortedIn lt a b d'∧r=.a0 []∧H'=ai H aE (.cells v (dx d'))):=by
 intro k;induction k with
 |zero=>
  intro d a b n lc aE v lim hk ag hl aa c3 tH bK H ah;refine eJ Tryz.func236 ?_;have eW:IntKind.i64.wrap ((b:Int)-(a:Int))=((b-a:Nat):Int):=b9 (by omega) (by omega)
  have aH:decide (((b-a:Nat):Int)<=12)=true:=b1;repeat' first|(refine ad ?_;simp only[go_sem])|refine af ?_|fail
  refine b5 (ι:=Unit) (fun _=>[(0,.osl 1 aE v 0 n lc),(1,.int .i64 a),(2,.int .i64 b),(3,.int .i64 lim),(4,.func fn fs cs)]) (fun _=>H) (fun _=>True) (fun _=>0) () trivial ?_ rfl ?_
  ·simp[go_sem]
  rintro _ _;repeat' first|(refine ad ?_;simp only[go_sem,eW,aH])|refine af ?_|fail
  refine c6 (Ty al an ag hl aa c3 H ah) (aA) ?_;rintro r H' ⟨rfl,rfl⟩;simp only[go_sem];repeat' first|(refine ad ?_;simp only[go_sem])|refine af ?_|fail
  obtain⟨s1,s2⟩:=Sort.insertionSort_holds hw d a b c3 (by omega)
  exact lS (m4 _ _ _) _ ⟨_,s1,s2,rfl,rfl⟩
 |succ k ay=>
  intro d n5 eT n lc aE v aKZ hk ag hl iG aI3 aJS E2 H ah;refine eJ Tryz.func236 ?_;have aJ:=fun b=>m2 ah trivial b
  have hs:=nw H aE;repeat' first|(refine ad ?_;simp only[go_sem])|refine af ?_|fail
  refine b5 (ι:=Nat×Nat×Int×Bool×Bool×Array dB) (fun s=>[(0,.osl 1 aE v 0 n lc),(1,.int .i64 s.1),(2,.int .i64 s.2.1),(3,.int .i64 s.2.2.1),(4,.func fn fs cs),(10,.bool s.2.2.2.1),(11,.bool s.2.2.2.2.1)]) (fun s=>ai H aE (.cells v (dx s.2.2.2.2.2)))
   (fun s=>(n5<=s.1∧s.1<=s.2.1∧s.2.1<=eT)∧s.2.2.2.2.2.size=n∧(0<=s.2.2.1∧s.2.2.1<=1073741824)∧Sort.Below lt s.1 s.2.1 s.2.2.2.2.2∧∀R,Sort.PermIn s.1 s.2.1 s.2.2.2.2.2 R->Sort.SortedIn lt s.1 s.2.1 R->Sort.PermIn n5 eT d R∧Sort.SortedIn lt n5 eT R)
   (fun s=>s.2.1-s.1) (n5,eT,aKZ,true,true,d) ⟨⟨bk _,aI3,bk _⟩,ag.symm,aJS,E2,fun R h1 h2=>⟨h1,h2⟩⟩ ?_ (oY ah trivial).symm ?_
  ·simp[go_sem]
  rintro⟨a,b,lim,yS,wp,E⟩ ⟨⟨cK,dc,ei⟩,ga,tH,bK,oc⟩;simp only at cK dc ei ga tH bK oc ⊢;have eW:IntKind.i64.wrap ((b:Int)-(a:Int))=((b-a:Nat):Int):=b9 (by omega) (by omega)
  by_cases fG:b-a<=12
  ·have aH:decide (((b-a:Nat):Int)<=12)=true:=b1;repeat' first|(refine ad ?_;simp only[go_sem,eW,aH])|refine af ?_|fail
   refine c6 (Ty al an ga.symm hl (by omega) dc _ (aJ _)) (aA) ?_
   rintro r H' ⟨rfl,rfl⟩;simp only[go_sem,hs];repeat' first|(refine ad ?_;simp only[go_sem])|refine af ?_|fail
   obtain⟨s1,s2⟩:=Sort.insertionSort_holds hw E a b dc (by omega)
   obtain⟨t1,t2⟩:=oc _ s1 s2;exact lS (m4 _ _ _) _ ⟨_,t1,t2,rfl,rfl⟩
  have aH:decide (((b-a:Nat):Int)<=12)=false:=cg;by_cases cc:lim=0
  ·have oe:decide (lim=0)=true:=cF cc;repeat' first|(refine ad ?_;simp only[go_sem,eW,aH,oe])|refine af ?_|fail
   refine c6 (aDB al an ga.symm hl (by omega) (by omega) _ (aJ _)) (aA) ?_
   rintro r H' ⟨rfl,rfl⟩;simp only[go_sem,hs];repeat' first|(refine ad ?_;simp only[go_sem])|refine af ?_|fail
   obtain⟨s1,s2⟩:=Sort.heapSort_holds hw E a b dc (by omega)
   obtain⟨t1,t2⟩:=oc _ s1 s2;exact lS (m4 _ _ _) _ ⟨_,t1,t2,rfl,rfl⟩
  have oe:decide (lim=0)=false:=b8 cc;repeat' first|(refine ad ?_;simp only[go_sem,eW,aH,oe])|refine bx ?_|fail
  refine ly rfl (fun h=>by cases h) (fun _=>?_)
  repeat' first|(refine ad ?_;simp only[go_sem,eW,aH,oe])|refine bx ?_|fail
  refine ly rfl (fun h=>by cases h) (fun _=>?_)
  repeat' first|(refine ad ?_;simp only[go_sem,eW,aH,oe])|refine bx ?_|fail
  refine BF (ι:=Int×Array dB) (fun s=>[(0,.osl 1 aE v 0 n lc),(1,.int .i64 a),(2,.int .i64 b),(4,.func fn fs cs),(10,.bool yS),(11,.bool wp),(12,.int .i64 (b-a:Nat)),(3,.int .i64 s.1)]) (fun s=>ai H aE (.cells v (dx s.2))) (fun s=>(0<=s.1∧s.1<=1073741824)∧Sort.PermIn a b E s.2) ?_ ?_
  ·cases yS with
   |true=>
    repeat' first|(refine ad ?_;simp only[go_sem])|refine af ?_|fail
    exact⟨(lim,E),⟨tH,Sort.permIn_refl _ _ _⟩,rfl,rfl⟩
   |false=>
    have tR:IntKind.i64.wrap (lim-1)=lim-1:=cB;repeat' first|(refine ad ?_;simp only[go_sem])|refine af ?_|fail
    refine c6 (aBT ga.symm hl (by omega) (by omega) _ _ (aJ _)) (aA) ?_
    rintro r H' ⟨px,aQ,rfl,rfl⟩;simp only[go_sem,hs];repeat' first|(refine ad ?_;simp only[go_sem,tR])|refine af ?_|fail
    exact⟨(lim-1,px),⟨⟨by simp only;omega,by simp only;omega⟩,aQ⟩,rfl,rfl⟩
  clear oe cc tH;rintro⟨lim,px⟩ ⟨tH,aQ⟩;simp only at tH aQ ⊢;have x6:px.size=n:=by rw[aQ.1];exact ga
  repeat' first|(refine ad ?_;simp only[go_sem])|refine bx ?_|fail
  refine c6 (aAe an x6.symm hl (by omega) (by omega) _ (aJ _)) (aA) ?_
  rintro r H' ⟨rL,hint,⟨v1,v2⟩,rfl,rfl⟩;simp only[go_sem];repeat' first|(refine ad ?_;simp only[go_sem])|refine bx ?_|fail
  refine BF (ι:=Nat×Int×Array dB) (fun s=>[(0,.osl 1 aE v 0 n lc),(1,.int .i64 a),(2,.int .i64 b),(4,.func fn fs cs),(10,.bool yS),(11,.bool wp),(12,.int .i64 (b-a:Nat)),(3,.int .i64 lim),(13,.int .i64 s.1),(14,.int .i64 s.2.1)]) (fun s=>ai H aE (.cells v (dx s.2.2))) (fun s=>(a<=s.1∧s.1<b)∧Sort.PermIn a b px s.2.2) ?_ ?_
  ·have ca:IntKind.i64.wrap ((b:Int)-1)=((b-1:Nat):Int):=b9 (by omega) (by omega)
   have bT:IntKind.i64.wrap ((rL:Int)-(a:Int))=((rL-a:Nat):Int):=b9 (by omega) (by omega)
   have dL:IntKind.i64.wrap (((b-1:Nat):Int)-((rL-a:Nat):Int))=((b-1-(rL-a):Nat):Int):=b9 (by omega) (by omega)
   by_cases Jr:hint=2
   ·have Oo:decide (hint=2)=true:=cF Jr;repeat' first|(refine ad ?_;simp only[go_sem,Oo])|refine af ?_|fail
    refine c6 (aFm x6.symm hl (by omega) (by omega) _ _ (aJ _)) (aA) ?_
    rintro r H' ⟨rfl,rfl⟩;simp only[go_sem,hs];repeat' first|(refine ad ?_;simp only[go_sem,ca,bT,dL])|refine af ?_|fail
    exact⟨(b-1-(rL-a),1,Sort.reverseRange px a b),⟨⟨by simp only;omega,by simp only;omega⟩,Sort.reverseRange_holds px a b dc (by omega)⟩,⟨rfl,rfl⟩,rfl⟩
   ·have Oo:decide (hint=2)=false:=b8 Jr;repeat' first|(refine ad ?_;simp only[go_sem,Oo])|refine af ?_|fail
    exact⟨(rL,hint,px),⟨⟨v1,v2⟩,Sort.permIn_refl _ _ _⟩,⟨rfl,rfl⟩,rfl⟩
  clear v1 v2;rintro⟨rL,hint,jU⟩ ⟨⟨v1,v2⟩,aO⟩;simp only at v1 v2 aO ⊢;have E4:jU.size=n:=by rw[aO.1];exact x6
  have Pc:=Sort.permIn_trans _ _ _ _ _ aQ aO;have I4:=bK.perm (by omega) Pc
  repeat' first|(refine ad ?_;simp only[go_sem])|refine bx ?_|fail
  refine BF (ι:=Array dB) (fun s=>[(0,.osl 1 aE v 0 n lc),(1,.int .i64 a),(2,.int .i64 b),(4,.func fn fs cs),(10,.bool yS),(11,.bool wp),(12,.int .i64 (b-a:Nat)),(3,.int .i64 lim),(13,.int .i64 rL)]) (fun s=>ai H aE (.cells v (dx s))) (fun s=>Sort.PermIn a b jU s) ?_ ?_
  ·repeat' first|(refine ad ?_;simp only[go_sem])|refine bx ?_|(refine bD ?_ ?_<;>intro h<;>try exact bB h)|fail
   ·refine c6 (aDl al an E4.symm hl (by omega) (by omega) _ (aJ _)) (aA) ?_
    rintro r H' ⟨rfl,rfl⟩;simp only[go_sem,hs];obtain⟨s1,s2⟩:=Sort.partialInsertionSort_holds hw jU a b (by omega) (by omega) I4
    repeat' first|(refine ad ?_;simp only[go_sem])|refine bx ?_|(refine bD ?_ ?_<;>intro h<;>try exact bB h)|fail
    ·obtain⟨t1,t2⟩:=oc _ (Sort.permIn_trans _ _ _ _ _ Pc s1) (s2 (by assumption))
     exact lS (m4 _ _ _) _ ⟨_,t1,t2,rfl,rfl⟩
    ·exact⟨_,s1,rfl⟩
   ·exact⟨jU,Sort.permIn_refl _ _ _,rfl⟩
  rintro lh bF;have Cl:lh.size=n:=by rw[bF.1];exact E4
  have Kj:=Sort.permIn_trans _ _ _ _ _ Pc bF;have I5:=bK.perm (by omega) Kj
  have qo:=eU (d:=lh) (show rL<lh.size by omega)
  refine vr (ι:=Unit) (fun _=>[(0,.osl 1 aE v 0 n lc),(1,.int .i64 a),(2,.int .i64 b),(3,.int .i64 lim),(4,.func fn fs cs),(10,.bool yS),(11,.bool wp),(12,.int .i64 (b-a:Nat)),(13,.int .i64 rL)]) (fun _=>ai H aE (.cells v (dx lh))) (fun _=>True) ?_ ?_
  ·by_cases aD:0<a
   ·have Fu:decide ((0:Int)<(a:Int))=true:=b1;have ca:IntKind.i64.wrap ((a:Int)-1)=((a-1:Nat):Int):=b9 (by omega) (by omega)
    have nA:=eU (d:=lh) (show a-1<lh.size by omega)
    repeat' first|(refine ad ?_;simp only[go_sem,Fu,ca,aJ,hs,nA,qo,eE,fF,Cl])|refine af ?_|fail
    refine n8 an ?_;simp only[go_sem,al];cases cV:lt lh[a-1]! lh[rL]! with
    |true=>
     repeat' first|(refine ad ?_;simp only[go_sem,cV])|refine af ?_|fail
     exact⟨(),trivial⟩
    |false=>
     repeat' first|(refine ad ?_;simp only[go_sem,cV])|refine af ?_|fail
     refine c6 (aAc al an Cl.symm hl (by omega) v1 v2 _ (aJ _)) (aA) ?_
     rintro r H' ⟨rfl,rfl⟩;simp only[go_sem,hs];obtain⟨⟨cW,D2⟩,tK⟩:∃x,Sort.partitionEqual lt lh a b rL=x:=⟨_,rfl⟩;obtain⟨l1,k0,tX,Gb,C0⟩:=Sort.round_eq hw (Sort.partitionEqual_holds lt) aD v1 v2 (by omega) I5 cV tK
     rw[tK];repeat' first|(refine ad ?_;simp only[go_sem])|refine af ?_|fail
     exact⟨(cW,b,lim,yS,wp,D2),⟨⟨by simp only;omega,k0,ei⟩,by simp only;rw[tX];exact Cl,tH,Gb,fun R aU a3=>by
      obtain⟨pk,qO⟩:=C0 R aU a3;exact oc R (Sort.permIn_trans _ _ _ _ _ Kj pk) qO⟩,by simp only;omega,⟨rfl,rfl,rfl,rfl,rfl⟩,rfl⟩
   ·have Fu:decide ((0:Int)<(a:Int))=false:=cg;repeat' first|(refine ad ?_;simp only[go_sem,Fu,aJ,hs,qo,eE,fF,Cl])|refine af ?_|fail
    exact⟨(),trivial⟩
  rintro _ _;obtain⟨⟨cW,ap,D2⟩,wH⟩:∃x,Sort.partition lt lh a b rL=x:=⟨_,rfl⟩;obtain⟨l1,k0,tX,Gb,C0,aK1,aK2⟩:=Sort.round_part hw (Sort.partition_holds lt) v1 v2 (by omega) I5 wH
  have I7:D2.size=n:=by rw[tX];exact Cl
  repeat' first|(refine ad ?_;simp only[go_sem])|refine af ?_|fail
  refine c6 (aDQ al an Cl.symm hl (by omega) v1 v2 _ (aJ _)) (aA) ?_
  rintro r H' ⟨rfl,rfl⟩;simp only[go_sem,hs,wH];have ca:IntKind.i64.wrap ((cW:Int)-(a:Int))=((cW-a:Nat):Int):=b9 (by omega) (by omega)
  have bT:IntKind.i64.wrap ((b:Int)-(cW:Int))=((b-cW:Nat):Int):=b9 (by omega) (by omega)
  have dL:IntKind.i64.wrap ((cW:Int)+1)=((cW+1:Nat):Int):=b9 (by omega) (by omega)
  by_cases aJU:cW-a<b-cW
  ·have wE:decide (((cW-a:Nat):Int)<((b-cW:Nat):Int))=true:=b1;repeat' first|(refine ad ?_;simp only[go_sem,ca,bT,wE])|refine af ?_|fail
   refine c6 (ay (d:=D2) (a:=a) (b:=cW) (by omega) I7.symm hl (by omega) l1 tH Gb _ (aJ _)) (aA) ?_
   rintro r H' ⟨D3,fr,dZ,rfl,rfl⟩;obtain⟨nV,oH⟩:=aK1 D3 fr dZ;simp only[go_sem,hs];repeat' first|(refine ad ?_;simp only[go_sem,dL])|refine af ?_|fail
   exact⟨(cW+1,b,lim,_,ap,D3),⟨⟨by simp only;omega,by simp only;omega,ei⟩,by simp only;rw[fr.1];exact I7,tH,nV,fun R aU a3=>by
    obtain⟨pk,qO⟩:=oH R aU a3;exact oc R (Sort.permIn_trans _ _ _ _ _ Kj pk) qO⟩,by simp only;omega,⟨rfl,rfl,rfl,rfl,rfl⟩,rfl⟩
  ·have wE:decide (((cW-a:Nat):Int)<((b-cW:Nat):Int))=false:=cg;repeat' first|(refine ad ?_;simp only[go_sem,ca,bT,wE,dL])|refine af ?_|fail
   refine c6 (ay (d:=D2) (a:=cW+1) (b:=b) (by omega) I7.symm hl (by omega) (by omega) tH C0 _ (aJ _)) (aA) ?_
   rintro r H' ⟨D3,fr,dZ,rfl,rfl⟩;obtain⟨nV,oH⟩:=aK2 D3 fr dZ;simp only[go_sem,hs];repeat' first|(refine ad ?_;simp only[go_sem])|refine af ?_|fail
   exact⟨(a,cW,lim,_,ap,D3),⟨⟨cK,l1,by simp only;omega⟩,by simp only;rw[fr.1];exact I7,tH,nV,fun R aU a3=>by
    obtain⟨pk,qO⟩:=oH R aU a3;exact oc R (Sort.permIn_trans _ _ _ _ _ Kj pk) qO⟩,by simp only;omega,⟨rfl,rfl,rfl,rfl,rfl⟩,rfl⟩
theorem aHs(hw:Sort.SWO lt)(al:∀x y,decide (c x y<0)=lt x y)(an:qX Tryz.prog (.func fn fs cs) c){d:Array dB}{n lc aE v:Nat}(ag:n=d.size)(hl:n<=1073741824)(H:ab)(ah:ao H aE=.cells v (dx d)):
  c5 Tryz.prog 221 [.osl 1 aE v 0 n lc,.func fn fs cs] H
   (fun r H'=>∃d',Sort.PermIn 0 n d d'∧Sort.SortedIn lt 0 n d'∧r=.a0 []∧H'=ai H aE (.cells v (dx d'))):=by
 refine eJ Tryz.func221 ?_;have OP:IntKind.u64.wrap (n:Int)=(n:Int):=BG (by omega)
 repeat' first|(refine ad ?_;simp only[go_sem,ah,OP])|refine af ?_|fail
 refine c6 (Un n (by omega) _) (aA) ?_
 rintro r H' ⟨L,rfl,h1, -,rfl⟩;simp only[go_sem];refine c6 (aGp hw al an n (d:=d) (a:=0) (b:=n) (by omega) ag hl (bk _) (bG _) (lim:=(L:Int)) (by omega) (.inl rfl) _ ah) (aA) ?_
 rintro r H' ⟨d',s1,s2,rfl,rfl⟩;simp only[go_sem];repeat' first|(refine ad ?_;simp only[go_sem])|refine af ?_|fail
 exact lS (m4 _ _ _) _ ⟨_,s1,s2,rfl,rfl⟩
end
end
end Go.Proofs.YthafnbmdmfoobaaGreatDoor
