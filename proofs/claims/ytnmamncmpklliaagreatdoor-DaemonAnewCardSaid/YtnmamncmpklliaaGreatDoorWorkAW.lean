/- What the functions of this seat answer (23 of 53). No condition. -/
import Derived.Test.YtnmamncmpklliaaGreatDoorWorkAR
import Derived.Test.YtnmamncmpklliaaGreatDoorWorkAU
import Derived.Test.YtnmamncmpklliaaGreatDoorWorkAV
set_option linter.unusedSimpArgs false
set_option linter.unusedVariables false
set_option linter.unusedSectionVars false
set_option maxRecDepth 100000
set_option maxHeartbeats 16000000
namespace Go.Proofs.YtnmamncmpklliaaGreatDoor
variable{H G:ab}{n j v lc i:Nat}{m:c0}{p:ag}{f g:Bool}{d x:Int}{w:bO}{t:bz}{l ia:List aE}{o:aX}{names:List ag}{bk:List Int}{ops:List aX}
open Go.Proofs.Tryz
theorem aDh:∀(k m:Nat) (b:ag),b.length<=k->b.length<=m->xy k b=xy m b:=by
 intro k;induction k with
 |zero=>intro m b h _;rw[iO (by omega:b.length=0)];cases m<;>rfl
 |succ k J=>
  intro m b h hm;cases m with
  |zero=>rw[iO (by omega:b.length=0)];rfl
  |succ m=>
   rw[xy,xy];split
   ·rfl
   ·rename_i U;have:=pe.2 U;rw[J m (b.drop 14) nX nX]
theorem Ng{b:ag}(h:b≠[]):lY b=b.take 14::lY (b.drop 14):=by
 have:=pe.2 h;unfold lY;obtain⟨k,hk⟩:∃k,b.length=k+1:=⟨b.length-1,iV⟩
 rw[hk,xy,aj h,aDh k (b.drop 14).length (b.drop 14) nX<|bd _]
theorem AL:∀(n:Nat) (b:ag),b.length<=n->∀p∈lY b,p.length<=14:=by
 intro n;induction n with
 |zero=>intro b h p ad;rw[iO (by omega:b.length=0)]at ad;cases ad
 |succ n U=>
  intro b h p ad;by_cases J:b=[]
  ·subst J;cases ad
  ·have:=pe.2 J;rw[Ng J]at ad;rcases cU.1 ad with rfl|ad
   ·simp;omega
   ·exact U _ nX p ad
theorem U3{M N:ab}(h:∀(k:Nat) (b:bE),M[k]?=some b->N[k]?=some b\/ep n b)(j:Nat)(b:bE)(J:(H++M)[j]?=some b):(H++N)[j]?=some b\/ep n b:=by
 by_cases U:j<H.length
 ·rw[iP U]at J ⊢;exact .inl J
 ·rw[pX iV]at J ⊢;exact h _ _ J
theorem UH:∀(i:Nat) (b:ag),(lY b)[i]?=if 14 * i<b.length then some ((b.drop (14 * i)).take 14)else none:=by
 intro i;induction i with
 |zero=>
  intro b;by_cases J:b=[]
  ·subst J;rfl
  ·have:=pe.2 J;rw[Ng J,aA iV];rfl
 |succ i U=>
  intro b;by_cases J:b=[]
  ·subst J;rfl
  ·rw[Ng J,tD,U,sD,fT,show 14+14 * i=14 * (i+1) by omega]
   by_cases h:14 * (i+1)<b.length
   ·rw[aA h,aA iV]
   ·rw[aj h,aj iV]
theorem Fq:∀(n:Nat) (b:ag),b.length<=n->(lY b).length=(b.length+13) / 14:=by
 intro n;induction n with
 |zero=>intro b h;rw[iO (by omega:b.length=0)];rfl
 |succ n U=>
  intro b h;by_cases J:b=[]
  ·subst J;rfl
  ·have:=pe.2 J;rw[Ng J,cg,U _ nX,fT]
   omega
theorem To{m:UInt8}(h:p.length<=14):(jd m p).length=16:=by unfold jd cw;simp;omega
theorem yx(m:UInt8):∀(l:List ag),(∀p∈l,p.length<=14)->(l.flatMap (jd m)).length=16 * l.length
 |[],_=>rfl
 |p::l,h=>by
  rw[nj,bF,To<|h p kk,yx m l λq aJ=>h q (by simp[aJ]),cg]
  omega
theorem aDi(m:UInt8)(h:p.length<=14):dq [.int .u8 m.toNat,.int .u8 0,.int .u8 0,.int .u8 0,.int .u8 0,.int .u8 0,.int .u8 0,.int .u8 0,.int .u8 0,.int .u8 0,.int .u8 0,.int .u8 0,.int .u8 0,.int .u8 0,.int .u8 0,.int .u8 m.toNat] 1 (ch p)=ch (jd m p):=by
 unfold dq jd ch;simp only[dz,nQ,hj];rw[show ∀(a:I) (l:List I),List.take 1 (a::l)=[a]from λ_ _=>rfl,cv]
 show _::([]++_++_)=_;congr 1;rw[ju];congr 1;rw[show ∀(a:I) (l:List I),List.drop (1+p.length) (a::l)=l.drop p.length from λa l=>by rw[Nat.add_comm];rfl]
 rw[show([.int .u8 0,.int .u8 0,.int .u8 0,.int .u8 0,.int .u8 0,.int .u8 0,.int .u8 0,.int .u8 0,.int .u8 0,.int .u8 0,.int .u8 0,.int .u8 0,.int .u8 0,.int .u8 0,I.int .u8 m.toNat]:List I)=(cw 14).map (λb=>I.int .u8 b.toNat)++[I.int .u8 m.toNat]from rfl,Gc<|by rw[cv,rV];exact h]
 congr 1;unfold cw;rw[List.map_replicate,List.map_replicate,J4]
def U4:List cu:=[.pure 0,.pure 0,.pure 0,.pure 0,.pure 0,.eff [false,false,true,false,false],.pure 0,.eff [false,false]]
def U5:List cu:=[.pure 0,.pure 0,.eff [false,false],.eff []]
attribute [go_sem] U4 U5
theorem Xc(n:Nat)(af:n<=1000000)(H:ab):aM prog 112 [.int .i64 n] H (.int .u8 (pK n).toNat):=by
 refine aZ func112 ?_;repeat' first|(refine ae ?_;simp only[go_sem])|refine ao ?_|fail
 exact bD (.of (by
  have h1:((n:Int)).tmod 250=((n % 250:Nat):Int):=by rw[Bf iV];omega
  rw[h1,bI];unfold pK;rw[DT iV]
  simp[IntKind.wrap,IntKind.signed,IntKind.bits];omega))
theorem aE4{y:Nat}{cs:List I}(J:Nat->ab->Prop)(af:n<=1073741824)(V:n<=lc)(hl:∀i G,J i G->ay G j=.cells v cs)
  (K:∀i G,14 * i<n->J i G->sJ prog y [.osl 1 j v (14 * i) (min 14<|n-14 * i) (min 14<|n-14 * i)] G (λw U=>w=.bool true/\J (i+1) U)) (H:ab) (aw:J 0 H):
  dp prog 158 [.func (.yield y) [] [],.cptr [.osl 1 j v 0 n lc]] H (λ_ H'=>J ((n+13) / 14) H'):=by
 refine p3 func158 ?_;refine aW ?_;refine cE (ι:=Nat×ab) (λs=>[(0,.func (.yield y) [] []),(1,.cptr [.osl 1 j v 0 n lc]),(3,.int .i64 (14 * s.1:Nat))]) (λs=>s.2) (λs=>s.1<=(n+13) / 14/\J s.1 s.2) (λs=>n-s.1) (0,H) ⟨bW _,aw⟩ ?_ rfl ?_
 ·simp[go_sem]
 rintro⟨i,G⟩ ⟨hi,gP⟩;simp only at hi gP ⊢;have g0:=hl i G gP;by_cases O:14 * i<n
 ·have hd:decide (((14 * i:Nat):Int)<(n:Int))=true:=cK;have hw:IntKind.i64.wrap (((14 * i:Nat):Int)+14)=((14 * (i+1):Nat):Int):=by rw[bI];omega
  have hm:min ((14 * (i+1):Nat):Int) (n:Int)=((14 * i+min 14 (n-14 * i):Nat):Int):=iV
  repeat' first|(refine ae ?_;simp only[go_sem,hd,hw,hm,g0,me,Nat.add_sub_cancel_left])|refine ao ?_|fail
  refine Km (K i G O gP) ?_;rintro w U ⟨rfl,T⟩;simp only[go_sem];refine hH ?_;exact⟨(i+1,U),⟨iV,T⟩,by simp only;omega,rfl,rfl⟩
 ·have hd:decide (((14 * i:Nat):Int)<(n:Int))=false:=cQ;refine hH ?_;rw[show(n+13) / 14=i by omega]
  exact gP
theorem aED(J:j<H.length):aM prog 111 [.osl 1 j v 0 n lc] H (.func (.func 158) [] [.cptr [.osl 1 j v 0 n lc]]):=by
 refine aZ func111 ?_;refine aW ?_;refine⟨_,_,rfl,?_,rfl⟩;refine .func _ _ _ _ _ rfl rfl fw<|dj (Dj (bd _) nb ?_) fw
 simp only[dF,forall_eq];exact .osl _ _ _ _ _ _ J
theorem Ks(n:Int)(p:ag)(ad:p.length<=1073741824)(H:ab):aM prog 62 [.int .i64 n,.str p] H (.aQ [.str (gG n p).1,.int .i64 (gG n p).2]):=by
 refine aZ func62 ?_;unfold gG;by_cases Aq:n<1\/1000000<n\/40000<p.length
 ·have au:(decide (n<1)||decide (1000000<n)||decide ((40000:Int)<(p.length:Int)))=true:=nX
  rw[aA Aq];refine hH ?_;all_goals first|exact aV (.refl _)|(exfalso;simp at h;omega)
 rw[aj Aq];obtain⟨m,rfl⟩:∃m:Nat,n=m:=⟨n.toNat,iV⟩
 have au:(decide ((m:Int)<1)||decide ((1000000:Int)<(m:Int))||decide ((40000:Int)<(p.length:Int)))=false:=nX
 have yD:=oQ (n:=m) iV
 have h1:∀H,aM prog 49 [.str [],.sl true [.int .i64 m]] H (.aQ [.str (ct m),.int .i64 0]):=λH=>by simpa using Kp [] m true iV kk H
 have h2:=GJ (ct m) p iV iV iV
 have c8:=y5 (t:=p) iV
 have h3:=aKV (ct m++gF p)<|by rw[bF];omega
 have l4:(o3 (ct m++gF p)).length<=40022:=by unfold o3;rw[bF,bF];have:(u9 (tI<|ct m++gF p)).length=4:=rfl;omega
 have h4:∀H,aM prog 24 [.str [],.str<|o3 (ct m++gF p)] H (.str<|l1 m p):=λH=>by simpa[l1]using GJ [] (o3 (ct m++gF p)) kk iV nX H
 have aO3:(l1 m p).length<=40031:=by have:=y5 (t:=o3<|ct m++gF p) iV;unfold l1;omega
 have vK:=Xc m iV
 rw[e5];unfold hg;generalize o3 (ct m++gF p)=S at *;generalize l1 m p=B at *;generalize pK m=mk at *;refine hH ?_;refine hY (aED kk) aK ?_
 simp only[go_sem];refine aW ?_;refine AX (v:=0) (cs:=[.sl true []]) (H.length+2) 0 1 nb rfl ?_
 simp only[go_sem];refine G7 [(2,.ref H.length 0 0),(9,.ref (H.length+2) 0 0),(36,.func (.func 158) [] [.cptr [.osl 1 (H.length+1) 1 0 B.length B.length]])] (by simp[go_sem]) ?_
 refine Jc rfl aK λy dD lD=>?_
 obtain⟨O,hO⟩:∃O:Nat->ag,∀i,O i=((lY B).take i).flatMap (jd mk):=⟨_,λ_=>rfl⟩
 let T:Nat->ab->Prop:=λi G=>G=H++[.cells 0 [.int .i64 m],.cells 1<|ch B,.cells 0 [.osl 1 (H.length+3) (i+1) 0 (16 * i) (16 * i)],.cells (i+1)<|ch (O i),dD]
 refine(aE4 (cs:=ch B) T iV (bd _) (λi G e=>by rw[e];simp only[go_sem]) (λi G hi e=>?_) _ (by simp[T,hO,ch])).mono λ_ G e=>?_
 ·simp only[T]at e;have hk:=UH i B;rw[aA hi]at hk;obtain⟨U,V⟩:∃U,U=(B.drop (14 * i)).take 14:=⟨_,rfl⟩;have QR:U.length=min 14 (B.length-14 * i):=by rw[V,eK,fT]
  have Z:O (i+1)=O i++jd mk U:=by rw[hO,hO,Gi,hk,<-V,tE];simp
  have I:(O i).length=16 * i:=by
   rw[hO,yx mk _ λp ad=>AL _ B (bd _) p<|uZ ad,eK,Fq _ B<|bd _]
   omega
  have h8:List.take (min 14 (B.length-14 * i) * 1) (List.drop (14 * i)<|ch B)=ch U:=by
   unfold ch;rw[<-uY,<-rI,me,V];congr 1;rw[List.take_eq_take_iff,fT];omega
  have aXt:min 14 (B.length-14 * i)<=14/\14 * i+min 14 (B.length-14 * i)<=B.length:=iV
  have r8:=aDi mk (p:=U) iV
  have z:=To (m:=mk) (p:=U) iV
  have aPG:List.take 16 (ch<|jd mk U)=ch (jd mk U):=iw<|by rw[q0];omega
  have aAA:(H++[bE.cells 0 [.int .i64 m],.cells 1<|ch B,.cells 0 [.osl 1 (H.length+3) 1 0 0 0],.cells 1 []]).length=H.length+4:=kk
  refine JV (i:=H.length+4) (by rw[e];simp only[go_sem]) lD rfl rfl rfl rfl λjv fin Cb xf gK iX=>?_
  simp only[wR];refine ud rfl ?_;rw[e];generalize min 14 (B.length-14 * i)=K at *;simp only[go_sem];generalize jd mk U=Sx at *;generalize O i=Oi at *;have jD:((16 * i+16) * 1<=140737488355328)=True:=b5 iV
  repeat' first|((first|refine mx [9] U4 ?_|refine mx [11] U5 ?_|refine ae ?_);simp only[go_sem,h8,r8,z,aPG,I,QR,jD])|refine ao ?_|fail
  refine⟨?_,H++[.cells 0 [.int .i64 m],.cells 1<|ch B,.cells 0 [.osl 1 (H.length+3) (i+2) 0 (16 * i+16) (16 * i+16)],.cells (i+2)<|ch Oi++ch Sx,jv],[.cells 0 (ch Sx)],?_,?_,?_,rfl,?_⟩
  ·simp only[go_sem]
  ·simp
  ·simp
  ·exact U3 λk b hk=>match k,hk with
    |0,h=>.inl h
    |1,h=>.inl h
    |2,h=>.inr (by cases h;intro x J;rw[dF.1 J];exact .osl _ _ _ _ _ _ kk)
    |3,h=>.inr (by cases h;rw[<-zI];exact Yz _ _ _)
    |4,h=>.inl h
    |(k+5),h=>by cases h
  ·rw[gK];simp only[T,go_sem,Z,zI,Nat.mul_add]
 ·simp only[T]at e;have dV:=Fq _ B<|bd _;rw[hO,<-dV,eG]at e;have z:=yx mk (lY B)<|AL _ B (bd _);generalize(lY B).flatMap (jd mk)=W at *;rw[<-z]at e;rw[show(H++[bE.cells 0 [.int .i64 m],.cells 1<|ch B,.cells 0 [.osl 1 (H.length+3) 1 0 0 0],.cells 1 []]).length=H.length+4 by simp]
  refine .inl ⟨.ready,kk,by rw[e];simp only[go_sem];exact lD,λX=>?_⟩
  rw[e];simp only[go_sem];repeat' first|(refine ae ?_;simp only[go_sem])|refine ao ?_|fail
  exact aV<|.refl _
theorem CV{P:Program}{f:FuncId}{first args cap:List I}{H1:ab}{v:I}{K:I->ab->Prop}(h:dp P f (first++args++cap) H (λx H'=>x=v/\H'=H1))(ok:kF P f=true)(hk:K v H1):DZ P true (.func (.func f) first cap) args H K:=
 ⟨v,H1,λ_=>Or.inl ⟨ok,h⟩,λh=>by(cases h),hk⟩
theorem Xd(n:Int):eY (pP n):=by
 refine⟨?_,by simp[pP]⟩
 obtain⟨z,J⟩:∃z:Nat,min (max n 0) 65536=(z:Int):=⟨(min (max n 0) 65536).toNat,iV⟩
 unfold n0 pP;rw[J];simp[cw];omega
theorem Pm{d:ft}(h:eY d)(a:Nat)(s:ag)(ax:d.loose.length+dg s<=1000000):eY (oZ d a s).1:=by
 unfold oZ;split
 ·exact h
 split
 ·exact h
 ·have hs:=h.size;refine⟨?_,by simp only[bF];unfold k5 ha;simpa using ax⟩
  unfold n0;simp only[cV,gU,List.all_append];have:=h.ok;unfold n0 at this;simp only[cV,gU]at this;refine⟨this.1,this.2.1,this.2.2.1,this.2.2.2,?_⟩;rw[gm];intro p ad;unfold k5 at ad;obtain⟨i,hi,rfl⟩:=bJ.1 ad;have hi:=qO.1 hi;have U:(ha s).length=dg s:=by unfold ha;simp
  have J:((ha s).getD i []).length=16:=by rw[et,da hi];unfold ha;simp[wW];simp[cw];omega
  unfold tm;simp only[cV,gU];rename_i h1 h2;refine⟨iV,iV,J⟩
def gd(w:bO)(a:Nat)(s:ag):bO×Int:=if(oZ w.bw a s).2=0 then({w with bw:=(oZ w.bw a s).1},0)else(w,(oZ w.bw a s).2)
def uM:ag:=hg 1<|hf 1 []
def qL(size:Int):bO×Int:=
 let n:=(pP size).size.toNat
 let w:=(gd {sQ with bw:=pP size,seq:=1,base:=1,next:=1,end_:=(2 * bj n:Nat)} (dT n 1) uM).1
 if bj n<uM.length / 16 then(sQ,120)else({w with bw:=lM w.bw,iy:=false},0)
def NB(f g:Bool)(w:bO):List I:=[.int .i64 w.bw.size,.str w.bw.iU,.sl f<|w.bw.loose.map eO,.int .i64 w.seq,.int .i64 w.base,.int .i64 w.next,.int .i64 w.end_,.int .i64 w.eo,.int .i64 w.kept,.sl g<|w.waits.map I.str,.bool w.iy,.int .i64 w.marked,.int .i64 w.fg,.int .i64 w.kQ]
def im(f g:Bool)(w:bO)(j:Nat):List I:=[.int .i64 w.bw.size,.str w.bw.iU,.sl f<|w.bw.loose.map eO,.int .i64 w.seq,.int .i64 w.base,.int .i64 w.next,.int .i64 w.end_,.int .i64 w.eo,.int .i64 w.kept,.sl g<|w.waits.map I.str,.bool w.iy,.int .i64 w.marked,.int .i64 w.fg,.int .i64 w.kQ,
 .func (.func 113) [] [.ref j 0 0]]
structure dD (i:Nat) (f g:Bool) (w:bO) (G:ab):Prop where
 aO:ay G i=.cells 0 (im f g w<|i+1)
 bo:ay G (i+1)=.cells 0 [.ref i 0 0]
def Tp:List cu:=[.pure 0,.pure 0,.pure 0,.pure 0,.free,.eff [false,true,true,true],.free]
def Tq:List cu:=[.free,.pure 0,.pure 0,.pure 0,.pure 0,.pure 0,.free,.pure 0,.pure 0,.pure 0,.pure 0,.pure 0,.free,.eff [false,true,true,true,true,true,true,false,true,true]]
attribute [go_sem] Tp Tq
theorem FR(f g:Bool)(w:bO)(H:ab):dp prog 64 [dN f g w] H (λv H'=>v=.ref (H.length+1) 0 0/\H'=H++[.cells 0 (NB f g w),.cells 0<|im f g w (H.length+2),.cells 0 [.ref (H.length+1) 0 0]]):=by
 refine p3 func64 ?_;refine bP dN.eq_1 ?_;rfl
theorem aLS(U:j<n)(f g:Bool)(w:bO):ep n (.cells 0<|im f g w j):=λx J=>by
 simp only[im,cU,lj,lk]at J;rcases J with rfl|rfl|rfl|rfl|rfl|rfl|rfl|rfl|rfl|rfl|rfl|rfl|rfl|rfl|rfl;all_goals first|exact .int _ _|exact .str _|exact .bool _|exact WE kk (λx J=>by rw[dF.1 J];exact .ref _ _ _ U)|exact(b6.sl _ _ λx J=>by obtain⟨y, -,rfl⟩:=bJ.1 J;simp only[go_sem]).cl _
theorem OB(J:dD i f g w G)(hk:eY w.bw):dp prog 67 [.ref i 0 0] G (λv H'=>v=.aQ []/\H'=ar G i (.cells 0<|im true g {w with bw:=lM w.bw,iy:=false} (i+1))):=by
 refine p3 func67 ?_;have g0:=J.aO;have hi:=dk g0 trivial;have s1:=λv X=>dR hi<|.cells v X
 have s2:=jS G i;have ax:=aHb f hk;unfold im at g0;unfold fW at ax;refine hH ?_;rfl
theorem F4(J:dD i f g w G)(hk:eY w.bw)(a:Nat)(s:ag)(hs:s.length<=1073741824)(U:a<=1000000):
  dp prog 113 [.int .i64 a,.str s,.ref (i+1) 0 0] G (λv H'=>v=.int .i64 (gd w a s).2/\H'=ar G i (.cells 0<|im (if(gd w a s).2=0 then false else f) g (gd w a s).1 (i+1))):=by
 refine jw func113 ?_;have g0:=J.aO;have g2:=J.bo;have hi:=dk g0 trivial;have K:=dk g2 trivial;have g1:=bC g0 trivial;have g3:=bC g2 trivial;have g4:=gN g0 trivial;have hw:=aE0 f hk a s hs U;have O:=aLS K;unfold im at g0 g1;unfold fW at hw;unfold gd;by_cases he:(oZ w.bw a s).2=0
 ·rw[aA he,aA rfl];rw[he]at hw;refine hH ?_;exact⟨_,_,_,rfl,bc _ _ _,pn<|O false g {w with bw:=(oZ w.bw a s).1},.cl _<|.int _ _,rfl,rfl⟩
 ·rw[aj he,aj he];have hd:decide ((oZ w.bw a s).2=0)=false:=bN he;refine hH ?_;exact⟨G,_,_,rfl,rfl,λ_ _ h=>.inl h,.cl _<|.int _ _,rfl,(lr J.aO trivial).symm⟩
theorem F5(n:Nat)(af:n<=1000000)(H:ab):aM prog 63 [.int .i64 n] H (.int .i64<|bj n):=by
 refine aZ func63 ?_;repeat' first|(refine ae ?_;simp only[go_sem])|refine ao ?_|fail
 exact bD<|.of (by rw[zk iV,bI];rfl)
theorem KF(n q:Nat)(af:n<=1000000)(aJ:q<=1000000)(H:ab):aM prog 66 [.int .i64 n,.int .i64 q] H (.int .i64<|dT n q):=by
 refine aZ func66 ?_;have J:=F5 n af;have h1:((q:Int)).tmod 2=((q % 2:Nat):Int):=by rw[Bf iV];omega
 have hw:IntKind.i64.wrap ((q % 2:Nat):Int)=((q % 2:Nat):Int):=bI;unfold dT;by_cases h:q % 2=0
 ·rw[h]at h1 hw;rw[aA h];refine hH ?_;exact bD<|.of rfl
 ·have hd:decide (((q % 2:Nat):Int)=0)=false:=cQ;rw[aj h];refine hH ?_;exact bD<|.of rfl
theorem O3(n:Nat)(af:n<=1000000)(H:ab):aM prog 65 [.int .i64 n] H (.int .i64 (2 * bj n:Nat)):=by
 refine aZ func65 ?_;have J:=F5 n af;have hw:IntKind.i64.wrap (2 * (bj n:Int))=((2 * bj n:Nat):Int):=by unfold bj;rw[bI];omega
 refine hH ?_;exact bD<|.of rfl
theorem Xe(n:Nat)(af:n<=1000000000)(s:ag)(hs:s.length<=1073741824)(H:ab):aM prog 61 [.int .i64 n,.str s] H (if 40000<(hf n s).length then .aQ [.str [],.int .i64 130]else .aQ [.str (hf n s),.int .i64 0]):=by
 refine aZ func61 ?_;have J:=oQ (n:=n) iV
 have h1:∀H,aM prog 49 [.str [],.sl true [.int .i64 n]] H (.aQ [.str (ct n),.int .i64 0]):=λH=>by simpa using Kp [] n true iV kk H
 have h2:∀H,aM prog 24 [.str (ct n),.str s] H (.str<|hf n s):=GJ (ct n) s iV iV iV
 generalize hf n s=T at *;by_cases au:40000<T.length
 ·have hd:decide ((40000:Int)<(T.length:Int))=true:=cK;rw[aA au];refine hH ?_;exact bD<|.of rfl
 ·have hd:decide ((40000:Int)<(T.length:Int))=false:=cQ;rw[aj au];refine hH ?_;exact bD<|.of rfl
theorem aEE:uM.length=16:=by
 unfold uM hg;rw[yx _ _ (AL _ _<|bd _),Fq _ _<|bd _];have h1:ct 1=[1]:=by simp[ct,kP]
 have aw:gF []=[0]:=by simp[gF,ct,kP]
 have h2:(hf 1 [])=[1,0]:=by unfold hf;rw[h1,aw];rfl
 have h3:ct 2=[2]:=by simp[ct,kP]
 have h4:(o3 (ct 1++gF [1,0])).length=8:=by unfold o3 gF;rw[h1,show List.length ([1,0]:ag)=2 from rfl,h3];rfl
 have J:ct 8=[8]:=by simp[ct,kP]
 have U:(l1 1 (hf 1 [])).length=9:=by
  rw[h2];unfold l1;rw[show ∀t:ag,gF t=ct t.length++t from λ_=>rfl,bF,h4,J];rfl
 rw[U]
theorem pq(f g:Bool)(w:bO)(e:Int):fv (.aQ [dN f g w,.int .i64 e]) (.aQ [dN false false w,.int .i64 e]):=by
 refine .aQ _ _ rfl<|c6 ?_ (c6 (.refl _) kZ);refine .agg _ _ rfl ?_;repeat' first|exact kZ|refine c6 ?_ ?_|exact .refl _|exact .sl _ _
theorem aKX(n:Int)(H:ab):aM prog 31 [.int .i64 n] H (.aQ [dN false false (qL n).1,.int .i64 (qL n).2]):=by
 refine aZ func31 ?_;have hk:=Xd n;have hd:=aJ5 n;have ko:(pP n).loose=[]:=rfl;unfold qL;generalize pP n=d at *;obtain⟨k1,k2,k3,k4⟩:=hk.size;obtain⟨z,aT⟩:∃z:Nat,d.size=z:=⟨d.size.toNat,iV⟩
 rw[show d.size.toNat=z by omega]
 have vL:∀H,aM prog 61 [.int .i64 1,.str []] H (.aQ [.str (hf 1 []),.int .i64 0]):=λH=>by
  have:=Xe 1 iV [] kk H
  rwa[aj (by unfold hf;simp[ct,kP,gF])]at this
 have hb:∀H,aM prog 62 [.int .i64 1,.str<|hf 1 []] H (.aQ [.str uM,.int .i64 0]):=λH=>by
  have:=Ks 1 (hf 1 []) (by unfold hf;simp[ct,kP,gF]) H
  unfold gG at this;rwa[aj (by unfold hf;simp[ct,kP,gF])]at this
 have U:=aEE;have hsz:=F5 z iV
 have ai:=O3 z iV
 have oY:=KF z 1 iV iV
 have fH:IntKind.i64.wrap (((16:Nat):Int).tdiv 16)=1:=rfl;generalize uM=GA at *;rw[<-aT]at hsz ai oY;unfold fW at hd;by_cases Av:bj z<1
 ·have V:decide ((bj z:Int)<1)=true:=cK;rw[U];rw[aA iV]
  repeat' first|(refine ae ?_;simp only[go_sem,U,fH,V])|refine ao ?_|fail
  exact aV<|pq true true sQ 120
 ·have V:decide ((bj z:Int)<1)=false:=cQ;rw[U];rw[aj iV]
  repeat' first|((first|refine mx [6] Tp ?_|refine mx [7] Tq ?_|refine ae ?_);simp only[go_sem,U,fH,V])|refine ao ?_|fail
  obtain⟨J,K⟩:∃J:bO,J={sQ with bw:=d,seq:=1,base:=1,next:=1,end_:=(2 * bj z:Nat)}:=⟨_,rfl⟩
  have Mu:I.agg [.int .i64 d.size,.str d.iU,.sl true<|d.loose.map eO,.int .i64 1,.int .i64 1,.int .i64 1,.int .i64 (2 * bj z:Nat),.int .i64 0,.int .i64 0,.sl true [],.bool false,.int .i64 0,.int .i64 0,.int .i64 0]=dN true true J:=by rw[K];rfl
  rw[<-K,Mu];have Z:eY J.bw:=by rw[K];exact hk
  refine p6 (FR true true J _) aK ?_;simp only[go_sem];have RJ:J.seq=1:=by rw[K]
  have aXT:∀H,aM prog 66 [.int .i64 d.size,.int .i64 1] H (.int .i64<|dT z 1):=oY;have aPF:dT z 1<=1000000:=by have:dT z 1=z / 4:=rfl;omega
  repeat' first|((first|refine mx [6] Tp ?_|refine mx [7] Tq ?_|refine ae ?_);simp only[go_sem,im,RJ])|refine ao ?_|fail
  have vJ:∀A B C,dD (H.length+3) true true J (H++[A,B,C,.cells 0<|im true true J (H.length+4),.cells 0 [.ref (H.length+3) 0 0]]):=λA B C=>⟨nb,nb⟩
  have te:=λA B C=>F4 (vJ A B C) Z (dT z 1) GA iV aPF
  simp only[im,RJ]at te;refine CV (te _ _ _) aK ?_;have RP:(gd J (dT z 1) GA).1.seq=1:=by unfold gd;split<;>exact RJ
  have aO2:eY (gd J (dT z 1) GA).1.bw:=by
   unfold gd;have Ie:dg GA=1:=by unfold dg;rw[U]
   split
   ·exact Pm Z _ _<|by rw[Ie,K,show({sQ with bw:=d,seq:=1,base:=1,next:=1,end_:=(2 * bj z:Nat)}:bO).bw.loose=[]from ko];decide
   ·exact Z
  simp only[go_sem,RP];refine aW ?_;generalize(gd J (dT z 1) GA).1=T at *;have aO7:∀f A B C,dD (H.length+3) f true T (H++[A,B,C,.cells 0<|im f true T (H.length+4),.cells 0 [.ref (H.length+3) 0 0]]):=λf A B C=>⟨nb,nb⟩
  have dH:=λf A B C=>OB (aO7 f A B C) aO2
  simp only[im,RP]at dH;refine dU (dH _ _ _ _) aK ?_;rintro v H' ⟨rfl,rfl⟩;simp only[go_sem];refine aW ?_;have O:=pq true true {T with bw:=lM T.bw,iy:=false} 0
  simp only[dN,RP]at O ⊢;exact aV O
def qy(w:bO)(p:ag):bO×Int×Int:=
 if 40000<p.length\/1000000<w.next then(w,0,130)else({w with waits:=w.waits++[p],next:=IntKind.i64.wrap (w.next+1)},w.next,0)
def oe(n:Int):List ag->ag×Int
 |[]=>([],0)
 |p::l=>if(gG n p).2=0 then((gG n p).1++(oe (n+1) l).1,(oe (n+1) l).2)else([],(gG n p).2)
def oh(w:bO):bO:={w with bw:=lM w.bw,iy:=false}
def eB(w:bO):bO:=if w.iy=true then oh w else w
def oq(w:bO):bO×Int:=
 if w.marked≠0 then(w,140)else
 let s:=oe (w.eo+1) w.waits
 if s.2≠0 then(w,s.2)else
 if w.bw.size-w.end_<((s.1.length / 16:Nat):Int)then(w,120)else
 if w.waits=[]then(w,0)else
 let x:=gd (eB w) w.end_.toNat s.1
 if x.2≠0 then(w,x.2)else({x.1 with end_:=w.end_+(s.1.length / 16:Nat),eo:=w.next-1,waits:=[]},0)
def kv(w:bO):bO:=
 let x:=oh w
 if w.marked≠0 then{x with marked:=2,kept:=max w.eo (w.fg-1)}else{x with kept:=w.eo}
def rB(w:bO)(state:ag):bO×Int:=
 if w.marked≠0 then(w,140)else
 if 200<=w.seq then(w,193)else
 if 40000<(hf w.next.toNat state).length then(w,130)else
 let s:=gG (w.seq+1)<|hf w.next.toNat state
 if s.2≠0 then(w,s.2)else
 if bj w.bw.size.toNat<s.1.length / 16 then(w,120)else
 let x:=gd (eB w) (dT w.bw.size.toNat (w.seq+1).toNat) s.1
 if x.2≠0 then(w,x.2)else({x.1 with marked:=1,fg:=w.next,kQ:=w.waits.length},0)
def sx(w:bO):bO×Int:=
 if w.marked≠2\/n0 w.bw=false then(w,140)else
 let a:=2 * bj w.bw.size.toNat
 let y:={w with seq:=w.seq+1,base:=w.fg,end_:=(a:Nat),eo:=max w.eo<|w.fg-1,waits:=w.waits.drop (min (max w.kQ 0) w.waits.length).toNat}
 ({(gd y a (cw<|(w.bw.size.toNat-a) * 16)).1 with iy:=true,marked:=0,fg:=0,kQ:=0},0)
def UI:List cu:=[.free,.free,.pure 0,.pure 0,.pure 0,.pure 0,.free,.pure 0,.pure 0,.pure 0,.pure 0,.free,.pure 0,.pure 0,.pure 0,.pure 0,.eff [false,true,true,false,false,false,false,false,false,false,false,false]]
attribute [go_sem] UI
theorem Kx(f g:Bool)(w:bO):fv (dN f g w) (dN false false w):=by
 refine .agg _ _ rfl ?_;repeat' first|exact kZ|refine c6 ?_ ?_|exact .refl _|exact .sl _ _
theorem aGE(f g:Bool)(w:bO)(n e:Int):fv (.aQ [dN f g w,.int .i64 n,.int .i64 e]) (.aQ [dN false false w,.int .i64 n,.int .i64 e]):=
 .aQ _ _ rfl (c6 (Kx f g w)<|c6 (.refl _) (c6 (.refl _) kZ))
theorem aJl(w:bO){s t:I}(hs:fv s (.sl false<|w.bw.loose.map eO):=by exact .sl _ _)(h:cL n H t (.sl false<|w.waits.map I.str))(ad:b6 s:=by simp only[go_sem]):
  cL n H (.agg [.int .i64 w.bw.size,.str w.bw.iU,s,.int .i64 w.seq,.int .i64 w.base,.int .i64 w.next,.int .i64 w.end_,.int .i64 w.eo,.int .i64 w.kept,t,.bool w.iy,.int .i64 w.marked,.int .i64 w.fg,.int .i64 w.kQ]) (dN false false w):=by
 refine .agg _ _ rfl ?_;repeat' first|exact fw|refine dj ?_ ?_|exact .cl _ (.int _ _)|exact .cl _ (.bool _)|exact .cl _ (.str _)|exact h|exact fv.yA hs ad
theorem Py(n:Nat)(af:n<=1000000)(H:ab):aM prog 108 [.int .i64 n] H (.str<|cw (n * 16)):=by
 refine aZ func108 ?_;have hw:IntKind.i64.wrap ((n:Int) * 16)=((n * 16:Nat):Int):=by rw[bI];omega
 refine hH ?_;exact aV<|.refl _
theorem U6(J:dD i f g w G)(hk:eY w.bw):
  dp prog 136 [.ref i 0 0] G (λv H'=>v=.aQ []/\H'=ar G i (.cells 0<|im (f||w.iy) g (eB w) (i+1))):=by
 refine p3 func136 ?_;have g0:=J.aO;have ax:=OB J hk;unfold eB;cases hd:w.iy with
 |false=>
  have U:=lr J.aO trivial;unfold im at g0;repeat' first|(refine ae ?_;simp only[go_sem,g0,hd])|refine ao ?_|fail
  exact U.symm
 |true=>
  unfold im at g0;refine hH ?_;refine dU ax aK ?_;rintro v H' ⟨rfl,rfl⟩;simp only[go_sem];repeat' first|(refine ae ?_;simp only[go_sem])|refine ao ?_|fail
  rfl
theorem aEF(f g:Bool)(w:bO)(p:ag)(af:w.waits.length<=1000000)(ad:p.length<=1073741824)(H:ab):
  aM prog 123 [dN f g w,.str p] H (.aQ [dN false false (qy w p).1,.int .i64 (qy w p).2.1,.int .i64 (qy w p).2.2]):=by
 refine aZ func123 ?_;unfold qy;by_cases U:40000<p.length\/1000000<w.next
 ·have au:(decide ((40000:Int)<(p.length:Int))||decide (1000000<w.next))=true:=nX
  rw[aA U];refine bP dN.eq_1 ?_;exact aV<|aGE f g w 0 130
 ·have au:(decide ((40000:Int)<(p.length:Int))||decide (1000000<w.next))=false:=nX
  rw[aj U];have ah:List.take w.waits.length (w.waits.map I.str)=w.waits.map I.str:=iw kk
  have J:(∀x:I,x∈w.waits.map I.str->x.cells.length=1)=True:=b5 λx J=>by obtain⟨y, -,rfl⟩:=bJ.1 J;rfl
  have he:(∀e:I,e=I.str p->e.cells.length=1)=True:=b5 λe h=>by rw[h];rfl
  have K:((w.waits.length+1) * 16<=140737488355328)=True:=b5 iV
  refine bP dN.eq_1 ?_;refine⟨_,.aQ [dN false false {w with waits:=w.waits++[p],next:=IntKind.i64.wrap (w.next+1)},.int .i64 w.next,.int .i64 0],rfl,.aQ _ _ rfl<|dj (aJl {w with waits:=w.waits++[p],next:=IntKind.i64.wrap (w.next+1)} (s:=.sl f (w.bw.loose.map eO)) (.sl _ _) ?_ nb) (dj (.cl _ (.int _ _)) (dj (.cl _ (.int _ _)) fw)),rfl⟩
  refine q3 (es:=(w.waits++[p]).map I.str) (rest:=[]) iV (by simp only[go_sem];rfl) (by simp;rfl) kk (λe he=>by obtain⟨y, -,rfl⟩:=bJ.1 he;rfl) (λe he=>by obtain⟨y, -,rfl⟩:=bJ.1 he;simp only[go_sem])
theorem Xf(f g:Bool)(w:bO)(hk:eY w.bw)(J:IntKind.i64.wrap (w.fg-1)=w.fg-1)(H:ab):aM prog 84 [dN f g w] H (dN false false<|kv w):=by
 refine aZ func84 ?_;refine bP dN.eq_1 ?_;refine dU (FR f g w _) aK ?_;rintro v H' ⟨rfl,rfl⟩;simp only[go_sem];refine aW ?_;have U:∀A B C,dD (H.length+3) f g w (H++[A,B,C,.cells 0<|im f g w (H.length+4),.cells 0 [.ref (H.length+3) 0 0]]):=λA B C=>⟨nb,nb⟩
 refine dU (OB (U _ _ _) hk) aK ?_;rintro v H' ⟨rfl,rfl⟩;simp only[go_sem,im];repeat' first|((first|refine mx [6] UI ?_|refine ae ?_);simp only[go_sem])|refine bt ?_|(refine bB ?_ ?_<;>intro h<;>try exact bA h)|fail
 ·have hm:¬w.marked=0:=by simpa using h
  unfold kv;rw[aA hm];have hd:IntKind.i64.wrap (w.fg-1)=w.fg-1:=J;rw[hd];exact aV<|Kx true g {oh w with marked:=2,kept:=max w.eo (w.fg-1)}
 ·have hm:w.marked=0:=by simpa using h
  unfold kv;rw[aj (by simpa using hm)]
  exact aV<|Kx true g {oh w with kept:=w.eo}
def jy(l:List aE)(dir:Int)(s:ag):Option Int:=(fx l dir s).map (·.id)
theorem Nh(l:List aE)(a:Int)(s:ag)(J:List ag):iG l a (s::J)=if dm a=true then(match jy l a s with|some i=>iG l i J|none=>(0,80))else(0,81):=by
 grind [iG,jy,fx]
theorem TP{A B:List aE}{x:aE}{dir:Int}(h:x.parent≠dir):fz (A++x::B) dir=fz (A++B) dir:=by
 have:pI dir x=false:=by unfold pI;rw[bN h];rfl
 simp[fz,mi,this]
theorem aD9(ax:mg l)(O:refused l o=false)(hk:o.kind=1){h:Int}(h1:h≠o.parent)(h2:∀n,fe l o.node=some n->n.parent≠h)(s):fx (dX l o) h s=fx l h s:=by
 unfold fx;rw[(KV _ _)];congr 2;rw[wO O];have ad:(je l o).parent≠h:=by grind [Li]
 have U:=C1 l o;obtain⟨A,B,K,Z,T,V,⟨e,I⟩|⟨n,af,e, -⟩⟩:=KK ax.cp o.node
 ·rw[rP,nc,U,<-T,<-V,dr,J1,TP ad,<-e]
 ·obtain⟨x,J⟩:∃x,je l o=x:=⟨_,rfl⟩;rw[J]at U ad ⊢;rw[e,Pc (by rw[U];exact K) kr,TP ad,TP<|h2 n (by rw[e];exact DM K af)]
theorem T4(ax:mg l)(hk:o.kind=2)(U:b0 o=true)(K:∃n∈l,n.id=o.node)(h)(s):jy (dX l o) h s=jy l h s:=by
 obtain⟨J, -⟩:=Wc ax hk U K;unfold jy;rw[J,aLg (λn=>(NR _ n).2.1) (λn=>(NR _ n).2.2.1) (λn=>(NR _ n).2.2.2) _ (by rw[<-J,KV]),Option.map_map]
 congr 1;funext n;exact(NR o n).1
theorem aJm(h:uW l names t=⟨3,0⟩):∃here,t.has=[here]/\((fp l names).2=0->dm (fp l names).1=true->(fp l names).1=here):=by
 unfold uW at h;grind
theorem Xg{has:List Int}:∀{bM:List Int},nP has bM=⟨3,0⟩->∀k∈bM,k∈has
 |[],_,k,h=>kr
 |a::bM,h,k,hk=>by
  unfold nP at h;split at h
  ·rename_i J;rcases cU.1 hk with rfl|hk
   ·simpa using J
   ·exact Xg h k hk
  ·cases h
theorem PL(hd:t.done=false)(h:ev l t=⟨3,0⟩):
  (fQ t.call=true->∀k∈iq l t.call,k∈t.has)/\(fQ t.call=false->hA t.call=true->∃here,t.has=[here]/\((fp l (hB t.call)).2=0->dm (fp l<|hB t.call).1=true->(fp l (hB t.call)).1=here)):=by
 unfold ev at h;split at h
 ·cases h
 rw[aj kr]at h
 refine⟨λah=>?_,λah hw=>?_⟩
 ·rw[aA ah]at h;exact Xg h
 ·rw[aj kr,aA hw]at h;exact aJm h
theorem O4{J:List ag}{s:ag}(af:gB p=some (J++[s]))(ax:fp l J=(d,0))(hd:dm d=true):gp l p=some d:=by
 grind [gp,List.dropLast_concat,List,Int,gB,fp,dm]
theorem aGF:d∈jJ bk (some d):=by unfold jJ;simp;split<;>simp_all
theorem aGG:∀x∈bk,∀o,x∈jJ bk o:=λx J o=>by
 ·unfold jJ;split
  ·split<;>simp_all
  ·exact J
theorem TQ{c:b8}(ad:p∈nu c)(h:gp l p=some d):d∈iq l c:=by
 have key:∀(ps:List ag) (bk:List Int),(d∈bk\/p∈ps)->d∈ps.foldl (λbk p=>jJ bk<|gp l p) bk:=by
  intro ps;induction ps with
  |nil=>intro bk h;simpa using h
  |cons q ps U=>
   intro bk J;refine U _ ?_;rcases J with J|J
   ·exact .inl<|aGG _ J _
   ·grind [cU,aGF]
 exact lU _<|(SQ l (ze l c)).mem_iff.2 (key _ _ (.inr ad))
theorem O5(ax:mg l){id:Int}(ad:p≠[47])(h:fi l p=(id,0)):∃J s d n,gB p=some (J++[s])/\fp l J=(d,0)/\dm d=true/\fx l d s=some n/\n.id=id/\n.parent=d/\fe l id=some n:=by
 unfold fi at h;cases af:gB p with
 |none=>rw[af]at h;cases h
 |some J=>
  rw[af]at h;rcases List.eq_nil_or_concat J with rfl|⟨xs,s,rfl⟩
  ·exact absurd (aDs af) ad
  ·simp only at h;unfold fp at h;rw[List.concat_eq_append,aLP]at h;split at h
   ·rename_i aw;obtain⟨d,hd⟩:∃d,iG l 0 xs=(d,0):=⟨_,oB rfl aw⟩;rw[hd]at h;simp[iG]at h;split at h
    ·rename_i U;split at h
     ·rename_i n au;obtain⟨h1,h2,h3⟩:=FC au;refine⟨xs,s,d,n,kk,hd,U,au,(Prod.mk.inj h).1,h3,?_⟩
      rw[<-(Prod.mk.inj h).1];exact KW ax.cp h2
     ·cases h
    ·cases h
   ·rename_i aw;rw[h]at aw;exact absurd rfl aw
inductive zr (l:List aE) (t:bz) (ia:List aE):List aX->Prop
 |none (h:ia=l):zr l t ia []
 |born (o:aX) (n:aE) (hk:o.kind=1) (ad:o.parent∈t.has) (af:∀x∈l,x.id<o.node/\x.parent≠o.node) (ah:fQ t.call=false) (hl:ia=l++[n]) (hi:n.id=o.node) (aJ:n.parent=o.parent) (aN:o.parent≠o.node) (aw:fx l o.parent n.name=Option.none) (au:fx (l++[n]) n.parent n.name=some n) (hd:dm o.parent=true):zr l t ia [o]
 |wrote (o:aX) (hk:o.kind=2) (aD:b0 o=true) (n:aE) (af:fe l o.node=some n) (ad:n.parent∈t.has) (ah:fQ t.call=false) (hl:ia=dX l o):zr l t ia [o]
 |fJ (o:aX) (hk:o.kind=1) (n:aE) (af:fe l o.node=some n) (ad:n.parent∈t.has) (aJ:o.parent=2\/o.parent∈t.has) (ah:fQ t.call=true) (h1:(1:Int)∈t.has) (az:refused l o=false) (hl:ia=dX l o):zr l t ia [o]
theorem aLh(h:fk m)(hd:t.done=false)(h3:ev m.log.nodes t=⟨3,0⟩)(hk:t.call.kind≠13\/(er m t.call).2.1.err≠0):zr m.log.nodes t (er m t.call).1.log.nodes (er m t.call).2.2:=by
 by_cases he:(er m t.call).2.1.err=0
 ·obtain⟨au,hw⟩:=Zb he;have hk:t.call.kind≠13:=hk.resolve_right λh=>h he
  obtain⟨Z,Mm⟩:=PL hd h3;have T:=h.nodes.l0;by_cases k1:t.call.kind=1\/t.call.kind=2
  ·have ah:fQ t.call=false:=by unfold fQ;rw[cQ,cQ,cQ];rfl
   have jH:hA t.call=true:=by unfold hA;rcases k1 with e|e<;>rw[e]<;>rfl
   obtain⟨dir,s,k⟩:=aMH h k1 he;obtain⟨here,an,J⟩:=Mm ah jH;obtain⟨I,af,ax,eC⟩:=OG k.aMr;have dI:hB t.call=I:=by unfold hB;rw[af];simp only;rw[aj iV,List.dropLast_concat]
   rw[dI,ax]at J;have e:=J rfl eC;rw[k.aM3];refine .born _ (w3 m t.call dir s) rfl ?_ (λx J=>?_) ah k.nodes rfl rfl k.ne k.none_ k.child eC
   ·show dir∈t.has;rw[an];exact dF.2 e
   ·refine⟨?_,(k.new x J).2⟩;have ad:=((zd _).1 k.aMR).2;rw[List.pairwise_append]at ad;exact ad.2.2 x J _<|dF.2 rfl
  by_cases k3:t.call.kind=3
  ·have ah:fQ t.call=false:=by unfold fQ;rw[k3];rfl
   have jH:hA t.call=true:=by unfold hA;rw[k3];rfl
   obtain⟨here,an,J⟩:=Mm ah jH;have K:js t.call ⟨m,du,[]⟩=zE t.call ⟨m,du,[]⟩:=by unfold js;rw[aj iV,aA k3]
   rw[K]at hw;rcases PR (c:=t.call) (d:=⟨m,du,[]⟩) h (Qa au k3)with⟨e,he,av⟩|⟨id,av,al,aY,U,O⟩
   ·rw[av]at hw;exact absurd hw he
   simp only at av aY U O;have Io:t.call.path≠[47]:=λe=>by
    rw[e]at av;have:fi m.log.nodes [47]=(0,0):=rfl;rw[this]at av;cases av;cases al
   obtain⟨I,s,d,n,aP,z,bH,cC,ez,ky,wh⟩:=O5 T Io av;have dI:hB t.call=I:=by unfold hB;rw[aP];simp only;rw[aj iV,List.dropLast_concat]
   rw[dI,z]at J;have e:=J rfl bH;have gr:er m t.call=(Jq m (we m<|Ho m t.call id),du,[Ho m t.call id]):=by
    unfold er;rw[aj (by rw[au];simp),K,O]
    rfl
   rw[gr];exact .wrote _ rfl U n wh (by rw[an,ky,<-e];exact dF.2 rfl) ah<|GW h aY U rfl
  have yR:∀{id dir:Int} {s:ag},(gv m).2=0->b0 (sR m id dir s)=true->js t.call ⟨m,du,[]⟩=B5 ⟨m,du,[]⟩ (sR m id dir s)->er m t.call=(Jq m (we m<|sR m id dir s),du,[sR m id dir s]):=λ_ _ e=>by
   unfold er;rw[aj (by rw[au];simp),e]
   rfl
  by_cases h9:t.call.kind=5
  ·have ah:fQ t.call=true:=by unfold fQ;rw[h9];rfl
   have K:js t.call ⟨m,du,[]⟩=zP t.call ⟨m,du,[]⟩:=by unfold js;rw[aj iV,aj iV,aj iV,aA h9]
   rw[K]at hw;rcases PV (c:=t.call) (d:=⟨m,du,[]⟩) h with⟨e,he,av⟩|⟨id,dir,s,cq,cT,av,al,aY,eE,fh,V,U,O⟩
   ·rw[av]at hw;exact absurd hw he
   simp only at av al aY fh V U O;obtain⟨I,j6,d,n,aP,z,bH,cC,ez,ky,wh⟩:=O5 T cq av;obtain⟨aYa,a6,a8,bb⟩:=OG al;have qn:nu t.call=[t.call.path,t.call.to]:=by unfold nu;rw[aA h9]
   rw[yR V U (by rw[K,O])]
   refine .fJ _ rfl n wh ?_ (.inr ?_) ah (Z ah _<|by simp[iq]) ?_ (GW h V U rfl)
   ·rw[ky];exact Z ah _<|TQ (by rw[qn];simp) (O4 aP z bH)
   ·exact Z ah _<|TQ (p:=t.call.to) (by rw[qn];simp) (O4 a6 a8 bb)
   ·unfold refused;rw[T.cp,U];have jG:og m.log.nodes dir=gZ m.log.nodes dir:=aA T.cp;rw[jG]at fh;have:uP m.log.nodes (sR m id dir s)=false:=by
     unfold uP;show(decide (dir=id)||_)=false
     rw[bN eE,Bool.false_or];rw[List.any_eq_false];intro x J e;have al:x=id:=lT e;rw[al]at J;have J:id∈gZ m.log.nodes dir:=J;have:(gZ m.log.nodes dir).contains id=true:=by simpa using J
     rw[this]at fh;cases fh
    rw[this];rfl
  by_cases o1:t.call.kind=6
  ·have ah:fQ t.call=true:=by unfold fQ;rw[o1];rfl
   have K:js t.call ⟨m,du,[]⟩=Bd t.call ⟨m,du,[]⟩:=by unfold js;rw[aj iV,aj iV,aj iV,aj iV,aA o1]
   rw[K]at hw;rcases PK (c:=t.call) (d:=⟨m,du,[]⟩) h with⟨e,he,av⟩|⟨id,s,cq,av, -,V,U,O⟩
   ·rw[av]at hw;exact absurd hw he
   simp only at av V U O;obtain⟨I,j6,d,n,aP,z,bH,cC,ez,ky,wh⟩:=O5 T cq av;have qn:nu t.call=[t.call.path]:=by unfold nu;rw[aj iV,aA o1]
   rw[yR V U (by rw[K,O])]
   refine .fJ _ rfl n wh ?_ (.inl rfl) ah (Z ah _<|by simp[iq]) ?_ (GW h V U rfl)
   ·rw[ky];exact Z ah _<|TQ (by rw[qn];simp) (O4 aP z bH)
   ·have iB:=PU U;unfold refused;rw[T.cp,U];have h2:gZ m.log.nodes 2=[]:=by
     unfold gZ;cases m.log.nodes.length with
     |zero=>rfl
     |succ k=>
      have:fe m.log.nodes 2=none:=by
       unfold fe;rw[wF];intro x J e;have al:x.id=2:=by simpa using e
       have:=BP T J;rw[al]at this;cases this
      unfold ll;rw[this]
    have:uP m.log.nodes (sR m id 2 s)=false:=by
     unfold uP;show(decide ((2:Int)=id)||(gZ m.log.nodes 2).any _)=false
     rw[h2,bN (λe=>by have:=iB.2.2.2.2.2.2.1;rw[show(sR m id 2 s).node=id from rfl,<-e]at this;cases this)]
     rfl
    rw[this];rfl
  ·have hs:=Kw h t.call;generalize er m t.call=r at hs he ⊢;cases hs with
   |err e vB=>exact .none rfl
   |put o ff=>omega
   |lO ir a aF h1=>rw[h1];exact .none rfl
   |merge l ff=>exact absurd ff hk
 ·have hs:=Kw h t.call;generalize er m t.call=r at hs he hk ⊢;cases hs with
  |err e vB=>exact .none rfl
  |put o ff=>exact absurd rfl he
  |lO ir a aF=>exact absurd aF he
  |merge l ff=>exact absurd rfl he
theorem aLi(ax:mg l)(fU:mg ia)(h:zr l t ia ops)(h1:d∉t.has)(h2:d≠2)(s:ag):jy ia d s=jy l d s:=by
 cases h with
 |none h=>rw[h]
 |born o n hk ad af ah hl hi aJ aN aw au hd=>
  rw[hl]at fU ⊢;unfold jy;rw[OF fU.cp ax.cp (λe=>h1<|by rw[<-e.1,aJ];exact ad)]
 |wrote o hk J n af ad ah hl=>
  rw[hl];exact T4 ax hk J ⟨n,(BI af).1,(BI af).2⟩ d s
 |fJ o hk n af ad aJ ah K U hl=>
  rw[hl];unfold jy;rw[aD9 ax U hk (λe=>by rcases aJ with q|q;exact h2<|e.trans q;exact h1<|e▸q) (λm hm e=>by rw[af]at hm;cases hm;exact h1<|e▸ad)]
section
variable {l:List aE} {n:aE} (ax:mg l) (fU:mg (l++[n])) (af:∀x∈l,x.id<n.id/\x.parent≠n.id) (aN:n.parent≠n.id) (aw:fx l n.parent n.name=none) (au:fx (l++[n]) n.parent n.name=some n)
include ax fU aw in
theorem aEG(h:iG l x names=(d,0)):iG (l++[n]) x names=(d,0):=
 aLf (λy s m hm=>⟨m,by rw[OF fU.cp ax.cp (λe=>by rw[<-e.1,<-e.2,aw]at hm;cases hm)];exact hm,rfl⟩) names x d h
include ax fU af aN au in
theorem U7:∀(names:List ag) {x d:Int},x≠n.id->iG (l++[n]) x names=(d,0)->iG l x names=(d,0)\/d=n.id
 |[],x,d,_,h=>.inl h
 |s::names,x,d,J,h=>by
  rw[Nh]at h ⊢;split at h
  ·rename_i T;rw[aA T];by_cases K:n.parent=x/\n.name=s
   ·cases aJ:jy (l++[n]) x s with
    |none=>rw[aJ]at h;cases h
    |some i=>
     rw[aJ]at h;simp only at h;have hi:i=n.id:=by unfold jy at aJ;rw[<-K.1,<-K.2,au]at aJ;exact(qP aJ).symm
     subst hi;right;cases names with
     |nil=>exact(Prod.mk.inj h).1.symm
     |cons s2 Z=>
      rw[Nh]at h;split at h
      ·cases O:jy (l++[n]) n.id s2 with
       |none=>rw[O]at h;cases h
       |some j=>
        unfold jy at O;obtain⟨z,V, -⟩:=hC.1 O;obtain⟨-,U,z2⟩:=FC V;rcases e4.1 U with U|U
        ·exact absurd z2 (af _ U).2
        ·rw[dF]at U;subst U;exact absurd z2 aN
      ·cases h
   ·have e:jy (l++[n]) x s=jy l x s:=by unfold jy;rw[OF fU.cp ax.cp K]
    rw[e]at h;cases aJ:jy l x s with
    |none=>rw[aJ]at h;cases h
    |some i=>
     rw[aJ]at h;simp only at h ⊢;refine U7 names ?_ h;unfold jy at aJ;obtain⟨m,hm,rfl⟩:=hC.1 aJ;have:=(af m (FC hm).2.1).1;omega
  ·cases h
include ax af in
theorem aGH(J:x≠n.id):par (l++[n]) x=par l x:=by
 unfold par;have:fe (l++[n]) x=fe l x:=by
  unfold fe;rw[List.find?_append];cases List.find? (λn=>decide<|n.id=x) l with
  |some m=>rfl
  |none=>(simp;exact λe=>J e.symm)
 rw[this]
include ax fU af in
theorem Tr(J:x≠n.id):og (l++[n]) x=og l x/\n.id∉og l x:=by
 have U:∀y,y≠n.id->∀p,par l y=some p->p≠n.id:=λy _ p ad e=>by
  unfold par at ad;split at ad
  ·cases ad
  ·rename_i m hm;split at ad
   ·cases ad
   ·cases ad;exact(af m (BI hm).1).2 e
 unfold og;rw[aA ax.cp,aA fU.cp];refine⟨?_,λh=>YV (C:=λy=>y≠n.id) U _ x J _ h rfl⟩
 have h1:=Wj (l:=l) (a:=l++[n]) (C:=λy=>y≠n.id) U (λy K=>aGH ax af K) (l++[n]).length x J
 have h2:=F0 ax.wf (k:=(l++[n]).length) kk x
 unfold gZ at h2 ⊢;rw[h1,h2]
include ax fU af aN aw au in
theorem aGI(p:ag):(∀d,gp l p=some d->gp (l++[n]) p=some d)/\(∀d,gp (l++[n]) p=some d->gp l p=some d\/d=n.id):=by
 unfold gp;cases gB p with
 |none=>exact⟨λ_ h=>(by cases h),λ_ h=>(by cases h)⟩
 |some U=>
  cases U with
  |nil=>exact⟨λ_ h=>(by cases h),λ_ h=>(by cases h)⟩
  |cons x xs=>
   simp only;refine⟨λd h=>?_,λd h=>?_⟩
   ·split at h
    ·rename_i J;cases h;have e:fp l (x::xs).dropLast=((fp l (x::xs).dropLast).1,0):=oB rfl J.1;have:=aEG ax fU aw e;unfold fp at this ⊢;rw[this,aA ⟨rfl,J.2⟩]
    ·cases h
   ·split at h
    ·rename_i J;cases h;have e:iG (l++[n]) 0 (x::xs).dropLast=((fp (l++[n]) (x::xs).dropLast).1,0):=oB rfl J.1;have K:(0:Int)≠n.id:=λe=>by
      have:=BP fU (n:=n) kk
      rw[<-e]at this;cases this
     rcases U7 ax fU af aN au _ K e with q|q
     ·left;unfold fp at q J ⊢;rw[q,aA ⟨rfl,by simpa using J.2⟩]
     ·exact .inr q
    ·cases h
include ax fU af aN aw au in
theorem aEa(c:b8):iq l c<+:iq (l++[n]) c:=by
 have hd:=λp=>aGI ax fU af aN aw au p
 have K:∀p d,gp l p=some d->d<n.id:=λp d h=>by
  unfold gp at h;split at h
  ·split at h
   ·rename_i x xs _ Z;cases h;rcases P9 (l:=l) (names:=(x::xs).dropLast) (d:=(fp l (x::xs).dropLast).1) (oB rfl Z.1)with⟨-,e⟩|⟨m,hm,e⟩
    ·rw[e];have:=BP fU (n:=n) kk
     have:=(Bg.1 this).1;omega
    ·rw[<-e];exact(af m hm).1
   ·cases h
  ·cases h
 have T:∀{a b:Int},a≠n.id->oR (l++[n]) b a=oR l b a:=λJ=>by
  unfold oR;rw[(Tr ax fU af J).1]
 have V:∀{a:Int},a≠n.id->oR (l++[n]) n.id a=false:=λJ=>by
  unfold oR;rw[(Tr ax fU af J).1];have:=(Tr ax fU af J).2;simpa using this
 unfold iq ze nu;refine(List.prefix_cons_inj 1).2 ?_;have one:∀p,n3 l ([p].foldl (λbk p=>jJ bk<|gp l p) [])<+:n3 (l++[n]) ([p].foldl (λbk p=>jJ bk<|gp (l++[n]) p) []):=λp=>by
  simp only[mG,Bj];cases h:gp l p with
  |none=>exact List.nil_prefix
  |some d=>rw[(hd p).1 d h];exact oz _
 split
 ·simp only[mG,Bj];cases J:gp l c.path with
  |some a=>
   rw[(hd _).1 a J];cases U:gp l c.to with
   |some b=>
    rw[(hd _).1 b U];have h1:=K _ _ J;have h2:=K _ _ U;have h3:=T (a:=a) (b:=b) iV
    have h4:=T (a:=b) (b:=a) iV
    simp only[jJ,List.contains_nil,mE,gz,ju];split
    ·exact oz _
    ·simp only[iN,ju,n3,h3,h4];exact oz _
   |none=>
    cases I:gp (l++[n]) c.to with
    |none=>exact oz _
    |some z=>
     rcases(hd _).2 z I with q|q
     ·rw[U]at q;cases q
     ·have h1:=K _ _ J;subst q;have h3:=V (a:=a) iV
      have h4:¬n.id<a:=iV
      have O:¬n.id=a:=iV
      simp[jJ,n3,h3,h4,O]
  |none=>
   cases U:gp l c.to with
   |none=>simp[jJ,n3]
   |some b=>
    rw[(hd _).1 b U];have h1:=K _ _ U;cases s5:gp (l++[n]) c.path with
    |none=>exact oz _
    |some gM=>
     rcases(hd _).2 gM s5 with q|q
     ·rw[J]at q;cases q
     ·subst q;have h3:=V (a:=b) iV
      have O:¬b=n.id:=iV
      simp[jJ,n3,h3,h1,O]
 ·split
  ·exact one _
  ·exact oz _
end
theorem aDM(ax:mg l)(hk:o.kind=2)(U:b0 o=true)(K:∃n∈l,n.id=o.node)(c:b8):iq (dX l o) c=iq l c:=by
 have T:=T4 ax hk U K;obtain⟨V,Z⟩:=Wc ax hk U K;have ad:∀(J:List ag) (x:Int),iG (dX l o) x J=iG l x J:=by
  intro J;induction J with
  |nil=>intro x;rfl
  |cons s J I=>
   intro x;rw[Nh,Nh,T];cases jy l x s with
   |none=>rfl
   |some i=>simp only[I]
 have hd:∀p,gp (dX l o) p=gp l p:=λp=>by
  unfold gp fp;simp only[ad]
 have O:∀a b,oR (dX l o) a b=oR l a b:=λa b=>by
  unfold oR og;rw[KV,aA ax.cp,aA ax.cp];have e:(dX l o).length=l.length:=by rw[V,cv]
  have:=Wj (l:=l) (a:=dX l o) (C:=λ_=>True) (λ_ _ _ _=>trivial) (λy _=>YW ax.cp Z hk y) l.length b trivial
  unfold gZ;rw[e,this]
 have hO:∀bk,n3 (dX l o) bk=n3 l bk:=λbk=>by
  unfold n3;split
  ·rw[O,O]
  ·rfl
 unfold iq ze;rw[hO];simp only[hd]
theorem aLj(ax:mg l)(fU:mg ia)(h:zr l t ia ops)(ah:fQ t.call=false)(c:b8):iq l c<+:iq ia c:=by
 cases h with
 |none h=>rw[h];exact oz _
 |born o n hk ad af ah hl hi aJ aN aw au hd=>
  rw[hl]at fU ⊢;exact aEa ax fU (λx J=>by rw[hi];exact af x J) (by rw[hi,aJ];exact aN) (by rw[aJ];exact aw) au c
 |wrote o hk K n af ad ah hl=>
  rw[hl,aDM ax hk K ⟨n,(BI af).1,(BI af).2⟩];exact oz _
 |fJ o hk n af ad aJ U=>rw[ah]at U;cases U
theorem P5(h:fk m)(c:b8):(er m c).1.log.entries.length=m.log.entries.length+(er m c).2.2.length:=by
 have hs:=Kw h c;generalize er m c=r at hs ⊢;cases hs with
 |err e he=>rfl
 |put o hk af U K=>
  have hl:=(z1 af).2.2.2.2.2;have O:∀x∈dK m.log,x.at_≠o.at_:=λx J e=>by have:=h.tY x J;rw[e,K]at this;simp only at this;omega
  show(fc m.log o).entries.length=_;rw[<-Hj,Qd h.n4 U O hl,Pd,Hj];rfl
 |lO Z a K h1 h2 h3 h4=>simp only[h1];rfl
 |merge l hk T au=>
  obtain⟨f1,f2⟩:=aLO m.log l [] .nil (λo U=>by cases U)
  have V:∀o∈gq m.log [] l,b0 o=true:=λo J=>by
   rcases K9 _ _ _ o J with h|h
   ·cases h
   ·exact DR T o h
  have a2:=(aMg (gq m.log [] l) h.n4 V f1 f2 au).2;have:(CS m l).log.entries.length=m.log.entries.length+(gq m.log [] l).length:=a2;simp only;split
  ·exact this
  ·exact this
def wb(o:Ord):Bool:=Dg [o.call] 1&& !decide ((1000:Int)<(o.cz.length:Int))
def sy(l:List Ord)(n:Int):Bool:=l.all wb&&decide ((l.length:Int)<=n)
theorem Kt(aO:Bool)(l:List Ord)(n:Int)(H:ab):aM prog 12 [.sl aO (l.map hM),.int .i64 n] H (.bool<|sy l n):=by
 refine po λO _=>?_
 have hl:=oi O;rw[cv]at hl;refine aZ func12 ?_;refine aW ?_;refine cE (ι:=Nat) (λi=>[(0,.sl aO<|l.map hM),(1,.int .i64 n),(5,.int .i64 i)]) (λ_=>H) (λi=>i<=l.length/\∀x∈l.take i,wb x=true) (λi=>l.length-i) 0 ⟨bW _,kk⟩ ?_ rfl ?_
 ·simp[go_sem]
 ·rintro i ⟨hi,he⟩;by_cases U:i<l.length
  ·have ad:=di hM U;have ax:=aJk true [l[i].call] 1;simp only[dz,hj,c4]at ax;repeat' first|(refine ae ?_;simp only[go_sem,ad,hM])|refine bt ?_|(refine bB ?_ ?_<;>intro h<;>try exact bA h)|fail
   ·exact bD (.of (by
     have T:wb l[i]=false:=by
      rw[wB];intro q;unfold wb at q;rw[cV]at q;rw[q.1]at h;simp_all
     have:sy l n=false:=by
      unfold sy;rw[Bool.and_eq_false_iff];left;rw[wB];intro q;have K:=gm.1 q l[i] (ga _);rw[T]at K;cases K
     rw[this]))
   ·refine⟨i+1,⟨U,λx J=>?_⟩,iV,by rw[bI];rfl⟩
    rw[fj U,e4]at J;rcases J with J|J
    ·exact he x J
    ·simp at J;subst J;unfold wb;revert h;cases Dg [l[i].call] 1<;>simp
  ·have V:i=l.length:=iV
   subst V;refine hH ?_;exact bD (.of (by
    have:l.all wb=true:=gm.2<|by simpa using he
    rw[sy,this,sH]))
end Go.Proofs.YtnmamncmpklliaaGreatDoor
