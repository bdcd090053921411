/- What the functions of this seat answer (15 of 53). No condition. -/
import Derived.Test.YtnmamncmpklliaaGreatDoorWorkAL
import Derived.Test.YtnmamncmpklliaaGreatDoorWorkAM
import Derived.Lib.Builder
import Derived.Lib.UnsafeStr
import Derived.Lib.Walk
import Derived.WalkKit
import Derived.Laws.Externs
import Derived.Shelf.RegionOpenPlain
set_option linter.unusedSimpArgs false
set_option linter.unusedVariables false
set_option linter.unusedSectionVars false
set_option maxRecDepth 100000
set_option maxHeartbeats 16000000
namespace Go.Proofs.YtnmamncmpklliaaGreatDoor
variable{n d j i k:Nat}{c:Ctx}{H:ab}{B:bE}{e ty T Y:TypeId}{cs:List I}{p x:I}{t s:List UInt8}{v:Value}{o:aX}{w:World}{l:List aE}{r:Int->Nat}{C:Int->Prop}
open Go.Proofs.Tryz
def kP(n:Nat):ag:=if n=0 then[]else kP (n / 128)++[UInt8.ofNat (n % 128+128)]
termination_by n
decreasing_by omega
def ct(n:Nat):ag:=kP (n / 128)++[UInt8.ofNat (n % 128)]
def gF(t:ag):ag:=ct t.length++t
theorem DT(h:n<256):(UInt8.ofNat n).toNat=n:=by rw[UInt8.toNat_ofNat'];exact Ds h
theorem aEQ(m:Nat):∀(_:m<=72057594037927935) (y:ag),o2 0 true (kP m++y)=if m=0 then o2 0 true y else o2 m false y:=by
 induction m using Nat.strongRecOn with
 |ind m U=>
  intro hm y;unfold kP;by_cases aw:m=0
  ·rw[aA aw,aA aw];rfl
  ·rw[aj aw,aj aw,dr,U (m / 128) iV iV,J1]
   have J:=DT (n:=m % 128+128) iV
   by_cases h1:m / 128=0
   ·rw[aA h1,o2,J,aj nX,aj iV,show(0:Int) * 128+(((m % 128+128:Nat):Int)-128)=(m:Int) by omega]
   ·rw[aj h1,o2,J,aj nX,aj iV,show((m / 128:Nat):Int) * 128+(((m % 128+128:Nat):Int)-128)=(m:Int) by omega]
theorem yZ(n:Nat)(af:n<=9223372036854775807)(y:ag):e9 (ct n++y)=some ((n:Int),y):=by
 unfold e9 ct;rw[dr,aEQ _ iV,J1]
 have J:=DT (n:=n % 128) iV
 by_cases h1:n / 128=0
 ·rw[aA h1,o2,J,aj nX,aA iV,show(0:Int) * 128+((n % 128:Nat):Int)=(n:Int) by omega]
 ·rw[aj h1,o2,J,aj nX,aA iV,show((n / 128:Nat):Int) * 128+((n % 128:Nat):Int)=(n:Int) by omega]
theorem I3(t y:ag)(h:t.length<=9223372036854775807):mW (gF t++y)=some (t,y):=by
 unfold mW gF;rw[dr,yZ _ h];simp only[bF];rw[aj iV,e5,x0,xZ]
structure aCN (c:b8):Prop where
 path:c.path.length<=9223372036854775807
 to:c.to.length<=9223372036854775807
 data:c.data.length<=9223372036854775807
 n:c.n<=9223372036854775807
structure Ord where
 kind:Int
 call:b8
 pick:Int
 cz:ag
deriving DecidableEq,Inhabited
def hM(o:Ord):I:=.agg [.int .i64 o.kind,.int .i64 o.call.kind,.str o.call.path,.str o.call.to,.str o.call.data,.int .i64 o.call.n,.int .i64 o.pick,.str o.cz]
@[go_sem] theorem aWe(x:Ord):b6 (hM x)=True:=by simp only[hM,go_sem]
structure aSm (o:Ord):Prop where
 call:aCN o.call
 pick:o.pick<=9223372036854775807
 cz:o.cz.length<=9223372036854775807
def gX(n:Nat):Nat:=(ct n).length
def zN(n i:Nat):UInt8:=UInt8.ofNat<|n / 128 ^ (gX n-1-i) % 128+if i<gX n-1 then 128 else 0
theorem aG3(n:Nat):(kP n).length=if n=0 then 0 else gX n:=by
 unfold gX ct;rw[kP];split
 ·rfl
 ·simp
theorem ND(n:Nat):gX n=if n<=127 then 1 else gX (n / 128)+1:=by
 unfold gX ct;simp only[bF,List.length_singleton];rw[aG3];by_cases h:n<=127
 ·rw[aA h,aA iV]
 ·rw[aj h,aj iV]
  unfold gX ct;simp
theorem UZ(n:Nat):1<=gX n:=by unfold gX ct;simp
theorem aG4(n:Nat):∀i,i<(kP n).length->(kP n)[i]?=some (UInt8.ofNat<|n / 128 ^ ((kP n).length-1-i) % 128+128):=by
 induction n using Nat.strongRecOn with
 |ind n J=>
  intro i hi;unfold kP at hi ⊢;by_cases aw:n=0
  ·rw[aA aw]at hi;simp at hi
  ·rw[aj aw]at hi ⊢;simp only[bF,List.length_singleton]at hi ⊢;by_cases h:i<(kP (n / 128)).length
   ·rw[iP h,J (n / 128) iV i h]
    rw[Nat.div_div_eq_div_mul,show(kP (n / 128)).length+1-1-i=(kP (n / 128)).length-1-i+1 by omega,Nat.pow_succ,qR 128]
   ·have U:i=(kP (n / 128)).length:=iV
    subst U;simp
theorem aG5(n i:Nat)(hi:i<gX n):(ct n)[i]?=some (zN n i):=by
 unfold zN;have hl:gX n=(kP (n / 128)).length+1:=by unfold gX ct;simp
 unfold ct;by_cases h:i<(kP (n / 128)).length
 ·rw[iP h,aG4 _ _ h,aA iV,Nat.div_div_eq_div_mul,hl,show(kP (n / 128)).length+1-1-i=(kP (n / 128)).length-1-i+1 by omega,Nat.pow_succ,qR 128]
 ·have J:i=(kP (n / 128)).length:=iV
  subst J;rw[aj iV,hl]
  simp
theorem aER(n i:Nat)(hi:i<gX n):(ct n).take (i+1)=(ct n).take i++[zN n i]:=by
 have:=aG5 n i hi;rw[Gi,this];rfl
theorem I4(n:Nat)(h:n<=9223372036854775807):gX n<=9:=by
 have key:∀k n,n<128 ^ (k+1)->gX n<=k+1:=by
  intro k;induction k with
  |zero=>intro n af;rw[ND,aA iV];exact bd _
  |succ k J=>
   intro n af;rw[ND];split
   ·omega
   ·have:=J (n / 128)<|by rw[Nat.pow_succ]at af;omega
    omega
 exact key 8 n iV
theorem aDo{m:Nat}(h:m<=9223372036854775807):na .and .i64 (m:Int) 127=((m % 128:Nat):Int):=by
 have al:BitVec.ofInt 64 (m:Int)=BitVec.ofNat 64 m:=J3 ..;have av:BitVec.ofInt 64 (127:Int)=BitVec.ofNat 64 127:=rfl;show IntKind.i64.wrap ((BitVec.ofInt 64 (m:Int)&&&BitVec.ofInt 64 (127:Int)).toNat:Int)=_;rw[av,al,BitVec.toNat_and,Gh,Gh,Ds iV,Ds iV]
 have J:=Nat.and_two_pow_sub_one_eq_mod m 7;rw[show 127=2 ^ 7-1 by omega,J,bI]
theorem aDZ(h:d<128):na .or .i64 (d:Int) 128=((d+128:Nat):Int):=by
 have:=OO (n:=1) (d:=d) iV iV h
 have al:BitVec.ofInt 64 (d:Int)=BitVec.ofNat 64 d:=J3 ..;have av:BitVec.ofInt 64 (128:Int)=BitVec.ofNat 64 128:=rfl;show IntKind.i64.wrap ((BitVec.ofInt 64 (d:Int)|||BitVec.ofInt 64 (128:Int)).toNat:Int)=_
 change IntKind.i64.wrap ((BitVec.ofInt 64 (1 * 128:Int)|||BitVec.ofInt 64 (d:Int)).toNat:Int)=_ at this
 rw[show(1 * 128:Int)=128 by omega,av,al,BitVec.or_comm]at this
 rw[av,al,this];omega
theorem Wn(U:j<=9):((n:Int)).fdiv (2 ^ min ((7 * (j:Int)).toNat) 64)=((n / 128 ^ j:Nat):Int):=by
 have J:j=0\/j=1\/j=2\/j=3\/j=4\/j=5\/j=6\/j=7\/j=8\/j=9:=iV
 rcases J with rfl|rfl|rfl|rfl|rfl|rfl|rfl|rfl|rfl|rfl;all_goals
  rw[Int.fdiv_eq_ediv_of_nonneg _ l9]
  simp
theorem Wo(t:ag)(x:UInt8):ch (t++[x])=ch t++[.int .u8 x.toNat]:=by simp[ch]
def ED(e:Int):nn:={du with err:=e}
def er(m:c0)(c:b8):c0×nn×List aX:=
 if rT c=false then(m,ED 180,[])else
 if(js c ⟨m,du,[]⟩).1=0 then
  (if(js c ⟨m,du,[]⟩).2.ops=[]then((js c ⟨m,du,[]⟩).2.m,(js c ⟨m,du,[]⟩).2.a,[])
  else((zF m.log.nodes (js c ⟨m,du,[]⟩).2).m,(js c ⟨m,du,[]⟩).2.a,(js c ⟨m,du,[]⟩).2.ops))
 else(m,ED (js c ⟨m,du,[]⟩).1,[])
def j2(r:Int):c0×Int:=if 0<=r/\r<=63 then({mz with rep:=r,next:=1},0)else(mz,20)
def qF(m:c0)(l:List aX):c0:={m with log:=eN m.log l,seen:=l.foldl (λn o=>if b0 o=true then lP n o.at_ else n) m.seen}
section
open Go.RowKit
variable {P:Program}
theorem bp.as(U:bp c H){B':bE}(hi:H[i]?=some B)(hl:B.live)(Z:fL c i B'):bp c (ar H i B'):=by
 have get:∀{j:Nat} {b:bE},(ar H i B')[j]?=some b->b.live->∃x,H[j]?=some x/\x.live:=fun{j b} h K=>by
  unfold ar at h;by_cases e:j=i
  ·subst e;exact⟨B,hi,hl⟩
  ·rw[gC iV]at h;exact⟨b,h,K⟩
 refine⟨U.jX,by simp[ar,U.n],U.lt,λj k b cB J hk K I eH z he=>?_,λk hk=>⟨(U.st k hk).1,λj b J K hd=>?_⟩,λj b J=>?_⟩
 ·obtain⟨x,O,V⟩:=get J K;obtain⟨y,wy,wz⟩:=get hk I;exact U.inj j k x y O wy V wz eH z he
 ·obtain⟨x,O,V⟩:=get J K;exact(U.st k hk).2 j x O V hd
 ·by_cases h:j=i
  ·subst h;simp[ar,((cj.1 hi).1)]at J;subst J;exact Z
  ·simp[ar]at J;rw[gC iV]at J
   exact U.rep j b J
theorem fL.un(h:fL c i (.c5 e k cs)):fL c i (.cells k cs):=by
 cases h with
 |c5 _ _ _ vs J hd U hl O K=>exact .cells k cs vs e (0,0) J hd U hl (.inr<|bd _) K
 |pQ _ _ J hd=>exact .void k J hd
theorem fL.aRl(U:c.a1 i=k)(hk:k≠0)(h:fL c i (.c5 e k cs)):fL (c.iK i) i (.c5 e (k+1) cs):=by
 cases h with
 |c5 _ _ _ vs K J bb bf dC eF=>exact .c5 e _ _ vs (by simp[Ctx.iK,U]) J bb bf ⟨iV,dC.2⟩ λj y u h1 h2=>(eF j y u h1 h2).mono (Ext.iK c _)
 |pQ _ _ K J=>exact .pQ e _ (by simp[Ctx.iK,U]) J
theorem fL.aCn(h:fL c i (.c5 e k cs))(hd:c.cO i=false):∃vs,c.w.heap[c.bl i]?=some (.cells vs e (0,0))/\cs.length<=vs.size/\((k=0->vs.size=cs.length)/\(cs.head?=some .dO->vs[1]?=some (.slice none 0 0)))/\∀(j:Nat) (x) (v),cs[j]?=some x->vs[j]?=some v->aI c x v:=by
 cases h with
 |c5 _ _ _ vs U J bb bf dC eF=>exact⟨vs,bb,bf,dC,eF⟩
 |pQ _ _ U J=>rw[hd]at J;cases J
theorem fL.Tb(h:fL c i (.c5 e k cs)):c.a1 i=k:=by
 cases h<;>assumption
theorem Zl{p:Prop}(t)(h:(ch t).head?=some .dO):p:=by
 cases t<;>cases h
theorem aMc{ts tx:TypeId}{vb:Value}(K:bp c H)(O:H[j]?=some (.c5 e k<|ch t))(hk:k≠0)(aG:aI c (.osl 1 j k 0 t.length t.length) vb)(hu:P.underlying ts=some (.slice e))(bn:o5 P e=true)(kp:xJ P tx=true)
  (h1:P.cellsOf e=1) (h2:P.bytesOf e=1) (hl:t.length+s.length<=140737488355328):
  mj P (Builtin.append_ #[ts,tx] ty #[vb,.string ⟨s.toArray⟩]) c (.osl 1 j (k+1) 0 (t.length+s.length)<|t.length+s.length) (ar H j<|.c5 e (k+1) (ch (t++s))):=by
 have J:∀c,aI c (.str s) (.string ⟨s.toArray⟩):=λc=>.str s iV
 have V:=(cj.1 O).1;have hi:j<c.n:=by rw[K.n];exact V
 have r7:=K.rep j _ O;have Z:=K.as O trivial r7.un;have Md:ay (ar H j<|.cells k (ch t)) j=.cells k (ch t):=by simp[ay,ar,V]
 have U:=Z.qN Md;have r9:∀H,tr (.str s) (P.cellsOf e) H:=λ_=>h1
 obtain⟨aP,aR,us,bH,cC,ez⟩:=tj (P:=P) K (J c)<|r9 H;have r8:∀H,e8 (.str s) H=ch s:=λ_=>rfl
 have mu:fa (.str s)=s.length:=rfl;rw[r8]at aR cC ez;rw[mu]at aP aR bH;have qe:=q0 t;have h7:=q0 s;have fN:(t.length+s.length) * P.bytesOf e<=140737488355328:=by rw[h2];omega
 have l2:P.bytesOf e≠0:=iV
 obtain⟨base,cap,rfl,g2,HD,g3,g4⟩:=aG.l8 U;by_cases qo:t.length+s.length<=cap
 · -- it fits
   by_cases nD:s=[]
   ·subst nD;have pH:=tF<|by rw[cC];rfl
    have hr:=zY (ty:=ty) (base:=base) hu bn kp aP qo bH (λa _=>by rw[pH];simp[storeCells]) λ_=>rfl
    obtain⟨I,z⟩:=K.SN (B':=.c5 e (k+1) (ch (t++[]))) O hk U<|by rw[cA];exact r7.aRl U hk
    refine⟨c.iK j,_,hr,z,I,?_⟩;exact .osl _ _ _ _ _ _ _ hi (by simp[Ctx.iK,U]) rfl iV (λ_ hd=>by obtain⟨av,al⟩:=g3 hd;exact⟨by simpa using av,by simpa using av,base,by simp[av,al]⟩)
     (λ_ hd=>by obtain⟨cq,m,cT,dP⟩:=g4 hd;exact⟨base,cap,m,rfl,bd _,by simpa using qo,cq,by simpa[Ctx.iK]using cT,dP⟩)
   ·have ta:=pe.2 nD;cases hd:c.cO j with
    |true=>have:=g3 hd;omega
    |false=>
     obtain⟨cq,m,cT,dP⟩:=g4 hd;obtain⟨mD,ew,pB, -,az⟩:=r7.aCn hd;have hm:=by simp[bsize,ew]at cT;exact cT
     have n7:=cq.resolve_left iV
     subst n7;have Ct:∀u∈us.toList,u.oneCell'=true:=by
      intro u kq;obtain⟨k,ed,ee⟩:=List.getElem_of_mem kq;simp only[Array.length_toList]at ed;have aH:(ch s)[k]?=some ((ch s)[k]'(by omega)):=da iV
      exact(ez k _ u aH (by rw[<-ee];simp)).one<|gm.1 (Yx s) _ (ga _)
     have RQ:=SP (P:=P) (w:=c.w) (b:=c.bl j) (off:=t.length * P.cellsOf e) us.toList ew (by simp;rw[cC,h1];omega) (.inr<|bd _) Ct
     have hr:=zY (P:=P) (ty:=ty) (base:=some ⟨c.bl j,0,none⟩) (len:=t.length) (cap:=cap) hu bn kp aP qo bH (λa aF=>by cases aF;rw[p0,j9];exact RQ) λh=>by cases h
     obtain⟨yP,he⟩:=sF.1 ew;have AJ:(lp mD (t.length * P.cellsOf e) us.toList).size=mD.size:=zL _ _ _;have R0:=K.Ex O trivial (by rw[U];exact hk) (World.putCells c.w (c.bl j) (lp mD (t.length * P.cellsOf e) us.toList) e (0,0)) (c.bl j) (by simp[World.putCells]) (.inr ⟨rfl,hd⟩) (λb _ aN=>yH aN) rfl rfl rfl
     obtain⟨I,z⟩:=K.bump (B':=.c5 e (k+1)<|ch (t++s)) O trivial (by rw[U];exact hk) (World.putCells c.w (c.bl j) (lp mD (t.length * P.cellsOf e) us.toList) e (0,0)) (c.bl j) (by simp[World.putCells]) (by simpa[World.putCells]using yP) (.inr ⟨rfl,hd⟩)
      (λb _ aN=>yH aN) rfl rfl rfl (by
       refine .c5 e _ _ (lp mD (t.length * P.cellsOf e) us.toList) (by simp[Ctx.bump,U]) (by simp[Ctx.bump]) (by simp only[Ctx.bump,dG];exact vC yP) (by rw[AJ,q0,bF];omega) ⟨iV,Zl _⟩ λj y u i1 i2=>?_
       refine aI.mono (c:=c) R0 ?_;rw[GY _ _ _ (ch s).length (by simpa using cC) (by rw[h1];omega)]at i2
       rw[zI]at i1;by_cases O:j<(ch t).length
       ·rw[iP O]at i1;rw[aj (by rw[h1];omega)]at i2
        exact az _ _ _ i1 i2
       ·rw[pX iV]at i1
        have gi:=(cj.1 i1).1;rw[aA (by rw[h1];omega)]at i2
        exact ez _ _ _ i1<|by rw[h1,me,<-qe]at i2;simpa using i2)
     refine⟨c.bump j _ _,_,hr,z,I,?_⟩;exact .osl _ _ _ _ _ _ _ hi (by simp[Ctx.bump,U]) rfl iV (λ_ gJ=>by simp[Ctx.bump]at gJ) λ_ _=>⟨_,cap,m,rfl,bd _,qo,.inr (by simp[Ctx.bump]),by rw[<-hm,<-AJ];exact Lu (by simp only[Ctx.bump,dG];exact vC yP),dP⟩
 · -- a new array
   have RN:tr (.osl 1 j k 0 t.length t.length) (P.cellsOf e) (ar H j<|.cells k (ch t)):=by
    refine⟨h1.symm,by simp[nh,Md],?_⟩
    simp only[Md];omega
   obtain⟨-,cT,xH,dP,mA,xI⟩:=tj (P:=P) Z.draw (aG.mono<|Ext.draw c) RN;obtain⟨-, -,xT,bb,bf,dC⟩:=tj (P:=P) K.draw (J c.draw)<|r9 H;obtain⟨kR,rest,k1,k2,k3⟩:=Pk (P:=P) (ty:=ty) (w:=c.w) hu bn kp aP rfl iV fN l2 dP bb
   have hold:e8 (.osl 1 j k 0 t.length t.length) (ar H j<|.cells k (ch t))=ch t:=by
    simp only[e8,Md,x4,me];rw[<-qe,eG]
   rw[hold]at mA xI;rw[r8]at bf dC;have R0:=K.draw.Ex O trivial (by simpa[Ctx.draw,U]using hk) (World.alloc {c.w with drawn:=c.w.drawn+1} (.cells (xH++xT++rest) e)) c.w.heap.size (by simp[Ctx.draw]) (.inl<|by simp[Ctx.draw]) (λb V _=>uA<|by simpa[Ctx.draw]using V) rfl rfl rfl
   obtain⟨I,z⟩:=K.draw.bump (B':=.c5 e (k+1)<|ch (t++s)) O trivial (by simpa[Ctx.draw,U]using hk) (World.alloc {c.w with drawn:=c.w.drawn+1} (.cells (xH++xT++rest) e)) c.w.heap.size (by simp[Ctx.draw]) kk (.inl<|by simp[Ctx.draw])
    (λb V _=>uA<|by simpa[Ctx.draw]using V) rfl rfl rfl (by
     rw[zI];refine .c5 e _ _ _ (by simp[Ctx.bump,Ctx.draw,U]) (by simp[Ctx.bump]) (by simp only[Ctx.bump,dG];exact mo _ _) ?_ ⟨iV,λh=>Zl _<|by rw[zI];exact h⟩ (λj y u hi hu=>?_)
     ·simp only[bF,Array.size_append];omega
     ·exact(PO mA xI bf dC j y u hi hu).mono R0)
   refine⟨c.draw.bump j _ _,_,k3,z,(Ext.draw c).trans I,?_⟩;refine .osl _ _ _ _ _ _ _ hi (by simp[Ctx.bump,Ctx.draw,U]) rfl iV (λ_ hd=>by simp[Ctx.bump]at hd) λ_ _=>?_
   refine⟨_,kR,(xH++xT++rest).size,rfl,bd _,k1,.inr (by simp[Ctx.bump]),?_,?_⟩
   ·exact Lu<|by simp only[Ctx.bump,dG];exact mo _ _
   ·simp only[Array.size_append];rw[mA,bf,k2,h1];omega
theorem bp.two(U:bp c H)(hi:H[i]?=some (.c5 T 0 [p,x])):
  c.a1 i=0/\c.cO i=false/\∃J bv,c.w.heap[c.bl i]?=some (.cells #[J,bv] T (0,0))/\aI c p J/\aI c x bv/\(p=.dO->bv=.slice none 0 0):=by
 cases U.rep i _ hi with
 |c5 _ _ _ vs K O bb bf dC eF=>
  obtain⟨l⟩:=vs
  match l,(dC.1 rfl)with
  |[a,b],_=>exact⟨K,O,a,b,bb,eF 0 _ _ rfl rfl,eF 1 _ _ rfl rfl,λh=>kr⟩
theorem bp.aCr{O x':I}{U bv:Value}(V:bp c H)(hi:H[i]?=some (.c5 T 0 [p,x]))(h1:aI c O U)(h2:aI c x' bv)(af:O=.dO->bv=.slice none 0 0):
  Ext c {c with w:=World.putCells c.w (c.bl i) #[U,bv] T (0,0)}/\bp {c with w:=World.putCells c.w (c.bl i) #[U,bv] T (0,0)} (ar H i (.c5 T 0 [O,x'])):=by
 obtain⟨av,al,u,v,Z, -⟩:=V.two hi;obtain⟨K,he⟩:=sF.1 Z;have J:=(V.update hi trivial al (World.putCells c.w (c.bl i) #[U,bv] T (0,0)) (by simp[World.putCells]) (λb z=>yH z) (by simp[bsize,vC K,Z]) rfl rfl rfl (B':=.c5 T 0 [.top,.top])
  (.c5 T 0 _ #[U,bv] av al (vC K) kk ⟨kk,kk⟩ (λj y w q r=>by match j,q with|0,q=>cases q;exact .top _|1,q=>cases q;exact .top _))).1
 exact V.update hi trivial al (World.putCells c.w (c.bl i) #[U,bv] T (0,0)) (by simp[World.putCells]) (λb z=>yH z) (by simp[bsize,vC K,Z]) rfl rfl rfl
  (.c5 T 0 _ #[U,bv] av al (vC K) kk ⟨kk,λh=>oE⟩ (λj y w q r=>by match j,q,r with|0,q,r=>cases q;cases r;exact h1.mono J|1,q,r=>cases q;cases r;exact h2.mono J))
theorem FO(h:aI c (.ref i 0 0) v)(J:c.a1 i=0):v=.pointer (some ⟨c.bl i,0,none⟩):=by
 cases h with
 |ref _ _ _ _ _ _ _ h=>exact(h J).2
theorem aRq(hi:i<c.n)(J:c.a1 i=0)(hd:c.cO i=false):aI c (.ref i 0 0) (.pointer<|some ⟨c.bl i,0,none⟩):=.ref _ _ _ _ hi (bW _) rfl λ_=>⟨hd,rfl⟩
theorem aR3{ops:Array Oper}{rest:List Oper}{o:Oper}{a:Act}{w':World}{Q:Exit->Act->World->Prop}(O:o.guard=none)(sl x)(t u)(V:o.op=.call {callee:=.builtin .append,args:= #[sl,x],argTypes:= #[t,u]}){y U:Value}
  (hs:a.eval sl=v) (J:a.eval x=y) (Z:(Builtin.append_ #[t,u] o.type #[v,y]).run P w=.ok U w') (h:wpList P ops Q rest (a.put o.dst U) w'):wpList P ops Q (o::rest) a w:=by
 refine wpList_plain O λK bP=>?_
 unfold Oper.wp execOp;simp[V,resolve,invoke,builtin,hs,J,Z];exact bP _ _ h
theorem Q9{g b:Nat}(h:b≠g):(w.freeze ⟨g,0,none⟩ n).heap[b]?=w.heap[b]?:=by
 unfold World.freeze;split
 ·rfl
 ·simp[Array.getElem?_modify,ka h]
theorem bp.freeze{c:Ctx}{H:ab}(U:bp c H)(g n)(h1:¬c.hh g)(h2:∀i,i<c.n->c.cO i=false->c.bl i≠g):
  Ext c {c with w:=c.w.freeze ⟨g,0,none⟩ n}/\bp {c with w:=c.w.freeze ⟨g,0,none⟩ n} H:=by
 have hsz:(c.w.freeze ⟨g,0,none⟩ n).heap.size=c.w.heap.size:=by unfold World.freeze;split<;>simp
 have J:Ext c {c with w:=c.w.freeze ⟨g,0,none⟩ n}:=by
  refine⟨bd _,kr,λb O=>⟨O,Q9 λe=>h1<|e▸O⟩,λ_ _=>bd _,λj K _=>⟨rfl,rfl,λhd=>?_⟩,?_,?_,?_,rfl⟩
  ·simp only[bsize];rw[Q9 (h2 j K hd)]
  all_goals(simp[World.freeze];split<;>first|rfl|exact⟨rfl,bd _⟩)
 refine⟨J,⟨U.jX.mono J,U.n,λj K hd=>by simpa[hsz]using U.lt j K hd,U.inj,λk hk=>⟨by simpa[hsz]using(U.st k hk).1,(U.st k hk).2⟩,λj b K=>?_⟩⟩
 have V:j<c.n:=by rw[U.n];exact(cj.1 K).1
 exact(U.rep j b K).mono J V (λ_ _ h=>h) rfl λhd=>Q9 (h2 j V hd)
theorem fL.alive(h:fL c i B)(hd:c.cO i=false):B.live:=by
 cases h with
 |gone h=>rw[hd]at h;cases h
 |_=>trivial
theorem bp.frozen(U:bp c H)(O:H[j]?=some B)(hl:B.live)(hk:c.a1 j≠0)(hd:c.cO j=false)(n):
  ∃c',c'.w=c.w.freeze ⟨c.bl j,0,none⟩ n/\Ext c c'/\bp c' (ar H j .gone):=by
 have hs:=U.aCm False O hl hk;obtain⟨J,Z⟩:=hs.freeze (c.bl j) n (λh=>by
  rcases h with h|h
  ·exact(U.st _ h).2 j B O hl hd rfl
  ·exact h.1) (λi hi K e=>by
  simp only[Ctx.stop]at hi K e;by_cases h:i=j
  ·simp[h]at K
  ·rw[aj h]at K;have V:=da<|by rw[<-U.n];exact hi
   exact h<|U.inj i j _ B V O ((U.rep i _ V).alive K) hl K hd e)
 exact⟨_,rfl,(Ext.stop c j False).trans J,Z⟩
theorem aMI(K:bp c H)(z:(P.info? T).bind (·.zero)=some (.agg #[.pointer none,.slice none 0 0])):
  mj P (Instr.alloc T true<|.tuple #[]) c (.ref H.length 0 0) (H++[.c5 T 0 [.dO,.osl 1 (H.length+1) 1 0 0 0],.c5 Y 1 []]):=by
 obtain⟨i,hi,O⟩:=ni.1 z;have af:=K.n;have V:=K.push (.cells #[.pointer none,.slice none 0 0] T) (B:=.c5 T 0 [.dO,.top]) 0 (by
  refine .c5 T _ _ #[.pointer none,.slice none 0 0] (by simp[Ctx.push]) (by simp[Ctx.push]) (by simp only[Ctx.push,dG];exact mo _ _) kk ⟨λ_=>rfl,λ_=>rfl⟩ (λj y u h1 h2=>?_)
  match j,h1,h2 with
  |0,h1,h2=>cases h1;cases h2;exact .dO
  |1,h1,h2=>cases h1;exact .top _)
 have Z:=Ext.push K<|.cells #[.pointer none,.slice none 0 0] T;generalize U:c.push (.cells #[.pointer none,.slice none 0 0] T)=c1 at V Z;have J:c1.n=H.length+1:=by rw[V.n];simp
 have qp:=V.void;have E8:=qp.as (i:=H.length+1) (B:=.cells 1 []) kk trivial<|.pQ Y 1 (by simp[Ctx.void,J]) (by simp[Ctx.void,J])
 have I:=E8.as (i:=H.length) (B:=.c5 T 0 [.dO,.top]) (B':=.c5 T 0 [.dO,.osl 1 (H.length+1) 1 0 0 0]) (by simp[ar]) trivial (by
  refine .c5 T _ _ #[.pointer none,.slice none 0 0] (by simp[Ctx.void,<-U,Ctx.push,af]) (by simp[Ctx.void,<-U,Ctx.push,af]) (by simp only[Ctx.void,<-U,Ctx.push,af,dG];exact mo _ _) kk ⟨λ_=>rfl,λ_=>rfl⟩ (λj y u h1 h2=>?_)
  match j,h1,h2 with
  |0,h1,h2=>cases h1;cases h2;exact .dO
  |1,h1,h2=>cases h1;cases h2;exact .osl _ _ _ _ _ _ _ (by simp[Ctx.void,J]) (by simp[Ctx.void,J]) rfl kk (λ_ _=>⟨rfl,rfl,none,rfl⟩) λ_ hd=>by simp[Ctx.void,J]at hd)
 have hH:ar (ar (H++[.c5 T 0 [.dO,.top]]++[.cells 1 []]) (H.length+1)<|.c5 Y 1 []) H.length (.c5 T 0 [.dO,.osl 1 (H.length+1) 1 0 0 0])=H++[.c5 T 0 [.dO,.osl 1 (H.length+1) 1 0 0 0],.c5 Y 1 []]:=by
  simp[ar]
 rw[hH]at I;refine⟨c1.void,.pointer<|some ⟨c.w.heap.size,0,none⟩,?_,I,Z.trans<|Ext.void c1,?_⟩
 ·subst U;simp[Instr.alloc,zeroValue,typeInfo,hi,O,newVar,newRow,Ctx.push,Ctx.void];rfl
 ·exact .ref _ _ _ _ (by simp[Ctx.void,J];omega) (bW _) rfl λ_=>by simp[Ctx.void,<-U,Ctx.push,af]
theorem YP{N id:Nat}{pos:String}{Q:cX}{α:a7}(U:(P.info? T).bind (·.zero)=some (.agg #[.pointer none,.slice none 0 0]))(hd:LC N (some d)=true)
  (h:Q .normal ((d,.ref H.length 0 0)::α) (H++[.c5 T 0 [.dO,.osl 1 (H.length+1) 1 0 0 0],.c5 Y 1 []])):cI P N (.region id #[⟨some d,.alloc T,ty,pos, #[],none⟩] false) Q α H:=by
 intro r c a _ hs J;refine wpIn_region ?_;have K:dQ P N #[⟨some d,.alloc T,ty,pos, #[],none⟩] H ⟨some d,.alloc T,ty,pos, #[],none⟩ α (λx H'=>x=.ref H.length 0 0/\H'=H++[.c5 T 0 [.dO,.osl 1 (H.length+1) 1 0 0 0],.c5 Y 1 []]):=
  dQ.ot rfl (aM4 (λr _=>by cases r<;>rfl) (λ_=>Instr.alloc T true<|.tuple #[]) (λ_=>rfl) λc a O _=>aMI O U)
 have:=K r c a (wpOpsIn (wf r) 0 P #[⟨some d,.alloc T,ty,pos, #[],none⟩] (wS N c Q) []) (wS N c Q) hs J.size (λt _=>J.rep t) λc' x v H' h1 h2 h3 ⟨h4,V⟩=>
  ⟨c',_,H',rfl,h1,h2,(J.mono h2).put hd h3,by subst h4;subst V;exact h⟩
 show wpOpsIn (wf r) 0 P _ (wS N c Q) _ a c.w;simpa[List.range_eq_range',List.range'_succ,wpOpsIn,Region.wanted]using this
end
section
open Go.RowKit
abbrev ov:TypeId:=267
abbrev uS:TypeId:=5
theorem aMU(b:Nat)(w:World)(aw:w.cell? ⟨b,0,none⟩=some (.pointer<|some ⟨b,0,none⟩)):
  Calls prog 184 #[.pointer (some ⟨b,0,none⟩)] w λe w'=>e=.returned (.tuple #[])/\w'=w:=by
 obtain⟨j,J,_⟩:=hC.1<|show(prog.info? ov).map (·.size)=some 2 by kernel_rfl
 go_enter func184,ntmps184
 go_wp2
 rw[Lib.run_neq_ptr_same w _ (underlying265) J]
 go_wp2
 go_end0
 exact⟨rfl,rfl⟩
theorem aMT(b:Nat)(w:World)(aw:w.cell? ⟨b,0,none⟩=some (.pointer none))(U:w.shape? b=some (ov,2))(O:w.frozen? ⟨b,0,none⟩=false):
  Calls prog 184 #[.pointer (some ⟨b,0,none⟩)] w λe w'=>e=.returned (.tuple #[])/\w'=w.setCell ⟨b,0,none⟩ (.pointer (some ⟨b,0,none⟩)):=by
 obtain⟨j,K,J⟩:=hC.1<|show(prog.info? ov).map (·.size)=some 2 by kernel_rfl
 go_enter func184,ntmps184
 go_wp2
 rw[Lib.run_to_unsafe w ⟨b,0,none⟩ underlying265 underlying373 K (by rw[J];decide) U (Nat.zero_lt_succ 1)]
 simp only[Result.andThen];rw[Oper.upon_value]
 go_wp2
 rw[run_callFunc_extern func215 n2 n2 n2 (e:=Extern.AbiNoEscape.same) n2]
 rw[Lib.run_noEscape];simp only[Result.andThen];rw[Oper.upon_value]
 go_wp2
 rw[Lib.run_from_unsafe w ⟨b,0,none⟩ underlying373 underlying265 K U n2]
 simp only[Result.andThen];rw[Oper.upon_value]
 go_wp2
 go_end0
 exact⟨rfl,rfl⟩
theorem aMS(hi:H[i]?=some (.c5 ov 0 [p,x]))(ad:p=.dO\/p=.ref i 0 0):
  dp prog 184 [.ref i 0 0] H (λv H'=>v=.aQ []/\H'=ar H i (.c5 ov 0 [.ref i 0 0,x])):=by
 intro c vs hs ⟨hsz,K⟩;obtain⟨av,al,z,bv,U,h1,h2, -⟩:=hs.two hi;obtain⟨l⟩:=vs
 match l,hsz with
 |[a],_=>
  obtain rfl:=FO (K 0 _ _ rfl rfl) av;have O:i<c.n:=by rw[hs.n];exact(cj.1 hi).1
  have V:=aRq O av al;obtain⟨J,Z⟩:=hs.aCr hi V h2 nofun;refine Calls.mono (R:=λe w'=>e=.returned (.tuple #[])/\w'=World.putCells c.w (c.bl i) #[.pointer (some ⟨c.bl i,0,none⟩),bv] ov (0,0)) ?_ λe w' ⟨aP,I⟩=>⟨_,.aQ [],_,_,aP,I.symm,Z,J,.aQ _ _ rfl (λi y w q=>by simp at q),rfl,rfl⟩
  rcases ad with rfl|rfl
  ·cases h1;refine(aMT (c.bl i) c.w (by rw[Lib.cell_of_heap U];rfl) (by simp[World.shape?,U]) (Lib.frozen_of_heap U 0)).mono ?_
   rintro e w' ⟨rfl,rfl⟩;exact⟨rfl,S1 U _⟩
  ·obtain rfl:=FO h1 av;refine(aMU (c.bl i) c.w (by rw[Lib.cell_of_heap U];rfl)).mono ?_
   rintro e w' ⟨rfl,rfl⟩;exact⟨rfl,(aBU U).symm⟩
theorem aMA(hi:H[i]?=some (.c5 ov 0 [p,.osl 1 j (k+1) 0 t.length t.length]))(ad:p=.dO\/p=.ref i 0 0)(U:H[j]?=some (.c5 uS (k+1)<|ch t))(hl:t.length+s.length<=140737488355328):
  dp prog 134 [.ref i 0 0,.str s] H (λv H'=>v=.aQ [.int .i64 s.length,.nilIface]/\H'=ar (ar H j<|.c5 uS (k+2) (ch (t++s))) i (.c5 ov 0 [.ref i 0 0,.osl 1 j (k+2) 0 (t.length+s.length)<|t.length+s.length])):=by
 intro c vs hs ⟨hsz,O⟩;have V:j≠i:=λe=>by subst e;rw[hi]at U;cases U
 obtain⟨l⟩:=vs
 match l,hsz with
 |[a,b],_=>
  obtain⟨av,al, -⟩:=hs.two hi;obtain rfl:=FO (O 0 _ _ rfl rfl) av;have kN:=O 1 _ _ rfl rfl;cases kN with
  |str _ h7=>
  have lF:=aMS hi ad c #[.pointer (some ⟨c.bl i,0,none⟩)] hs ⟨rfl,λq y w h1 h2=>by match q,h1,h2 with|0,h1,h2=>cases h1;cases h2;exact O 0 _ _ rfl rfl⟩
  go_enter func134,ntmps134
  go_wp2_with (go_at_call 184;refine lF.mono ?_)
  rintro e cP c1 fY v1 rfl rfl H1 Z mV E6 rfl rfl;have I:i<H.length:=(cj.1 hi).1;have iA:(ar H i (.c5 ov 0 [.ref i 0 0,.osl 1 j (k+1) 0 t.length t.length]))[i]?=some (.c5 ov 0 [.ref i 0 0,.osl 1 j (k+1) 0 t.length t.length]):=by simp[ar,I]
  have z:(ar H i (.c5 ov 0 [.ref i 0 0,.osl 1 j (k+1) 0 t.length t.length]))[j]?=some (.c5 uS (k+1)<|ch t):=by rw[ar,gC<|ka V];exact U
  obtain⟨f1,f2,ry,bv,aa,h1,h2, -⟩:=Z.two iA;have vy:=(mV.bl i (by rw[hs.n];exact I) (f1.trans av.symm)).1
  rw[vy]at aa;have Qn:=Lib.cell_of_heap aa 1;obtain⟨c2,dM,hr,qp,qt,pF⟩:=aMc (P:=prog) (ts:=117) (tx:=9) (ty:=117) Z z iV h2 underlying117 n2 n2 n2 n2 hl
  have hS:(ar (ar H i<|.c5 ov 0 [.ref i 0 0,.osl 1 j (k+1) 0 t.length t.length]) j (.c5 uS (k+1+1)<|ch (t++s)))[i]?=some (.c5 ov 0 [.ref i 0 0,.osl 1 j (k+1) 0 t.length t.length]):=by rw[ar,gC V];exact iA
  obtain⟨g1,g2,aYg,aW8,K,k1,k2, -⟩:=qp.two hS;have J:=(qt.bl i (by rw[Z.n];simpa[ar]using I) (g1.trans f1.symm)).1
  rw[J,vy]at K;have aMP:=Lib.cell_of_heap K 1;have aXf:=Lib.frozen_of_heap K 1;simp only[List.getElem?_toArray,tD,List.getElem?_cons_zero]at Qn aMP;have H7:(ar (ar H i<|.c5 ov 0 [.ref i 0 0,.osl 1 j (k+1) 0 t.length t.length]) j (.c5 uS (k+1+1)<|ch (t++s)))[j]?=some (.c5 uS (k+1+1)<|ch (t++s)):=by
   have:=(cj.1 U).1;simp[ar,this]
  obtain⟨base,cap,rfl, -⟩:=pF.l8 (qp.rep j _ H7).Tb
  go_wp2_with (at_builtin;refine aR3 rfl _ _ _ _ rfl rfl rfl hr ?_)
  go_ret2
  obtain⟨Fe,E8⟩:=qp.aCr hS k1 pF nofun;rw[J,vy]at Fe E8;refine⟨_,_,_,_,rfl,(S1 (off:=1) K (.slice base (t.length+s.length) cap)).symm,E8,(mV.trans qt).trans Fe,.aQ [.int .i64 s.length,.nilIface] _ rfl (λq y w h1 h2=>?_),rfl,?_⟩
  ·match q,h1,h2 with
   |0,h1,h2=>cases h1;cases h2;exact .int _ _<|by unfold l6 IntKind.min IntKind.max;simp[IntKind.bits,IntKind.signed];omega
   |1,h1,h2=>cases h1;cases h2;exact .nilIface
  ·show((H.set i _).set j _).set i _=(H.set j _).set i _;rw[List.set_comm _ _ V.symm,List.set_set]
theorem aMB(hi:H[i]?=some (.c5 ov 0 [p,.osl 1 j k 0 n n]))(J:H[j]?=some (.c5 e k cs))(af:n<=1000000000000):aM prog 176 [.ref i 0 0] H (.int .i64 n):=by
 intro c vs hs ⟨hsz,U⟩;obtain⟨l⟩:=vs
 match l,hsz with
 |[a],_=>
  obtain⟨f1,f2,V,bv,K,h1,h2, -⟩:=hs.two hi;obtain rfl:=FO (U 0 _ _ rfl rfl) f1;have O:=Lib.cell_of_heap K 1;simp only[List.getElem?_toArray,tD,List.getElem?_cons_zero]at O;obtain⟨base,cap,rfl, -⟩:=h2.l8 (hs.rep j _ J).Tb
  go_enter func176,ntmps176
  go_wp2
  go_ret
  exact⟨c,_,_,H,rfl,rfl,hs,Ext.refl c,.int .i64 n (by unfold l6 IntKind.min IntKind.max;simp[IntKind.bits,IntKind.signed];omega),rfl,rfl⟩
theorem aMd(hi:H[i]?=some (.c5 ov 0 [.dO,x])):aM prog 135 [.ref i 0 0] H (.str []):=by
 intro c vs hs ⟨hsz,J⟩;obtain⟨l⟩:=vs
 match l,hsz with
 |[a],_=>
  obtain⟨f1,f2,V,bv,U,h1,h2,h3⟩:=hs.two hi;obtain rfl:=FO (J 0 _ _ rfl rfl) f1;obtain rfl:=h3 rfl;have c1:c.w.drew.cell? ⟨c.bl i,1,none⟩=some (.slice none 0 0):=by
   rw[Lib.cell_of_heap (show c.w.drew.heap[c.bl i]?=_ from U)];rfl
  have K:∀W,(Builtin.unsafeString_ #[332,3] 9 #[.pointer none,.int .i64 0]).run prog W=.ok (.string .empty) W:=λW=>Lib.run_unsafeString_none W _ _ _ none
  have O:∀W,(Builtin.unsafeSliceData_ #[117] 332 #[.slice none 0 0]).run prog W=.ok (.pointer none) W:=λ_=>rfl
  have mixed:=uJ
  go_enter func135,ntmps135
  go_wp2
  go_region_o
  all_goals(go_wp2;go_ret;exact⟨c.draw,_,_,H,rfl,rfl,hs.draw,Ext.draw c,.str [] (bW _),rfl,rfl⟩)
theorem YQ(hi:H[i]?=some (.c5 ov 0 [p,.osl 1 j k 0 t.length t.length]))(U:H[j]?=some (.c5 uS k<|ch t))(hk:k≠0)(ah:t≠[])(af:t.length<=1000000000000):
  dp prog 135 [.ref i 0 0] H (λv H'=>v=.str t/\H'=ar H j .gone):=by
 intro c vs hs ⟨hsz,z⟩;have qh:j≠i:=λe=>by subst e;rw[hi]at U;cases U
 obtain⟨l⟩:=vs
 match l,hsz with
 |[a],_=>
  obtain⟨f1,f2,ry,bv,aa,h1,h2,h3⟩:=hs.two hi;obtain rfl:=FO (z 0 _ _ rfl rfl) f1;have O:=(hs.rep j _ U).Tb;have ko:t.length≠0:=by simpa using ah
  obtain⟨base,cap,rfl,aP,aR,bH,cC⟩:=h2.l8 O;cases hd:c.cO j with
  |true=>have:=(bH hd).1;omega
  |false=>
   obtain⟨cq,m,cT,dP⟩:=cC hd;obtain rfl:=cq.resolve_left iV
   obtain⟨K,V,Z, -,Cv⟩:=(hs.rep j _ U).aCn hd;rw[q0]at Z;have c1:c.w.drew.cell? ⟨c.bl i,1,none⟩=some (.slice (some ⟨c.bl j,0,none⟩) t.length cap):=by
    rw[Lib.cell_of_heap (show c.w.drew.heap[c.bl i]?=_ from aa)];rfl
   have aN7:(Builtin.unsafeSliceData_ #[117] 332 #[.slice (some ⟨c.bl j,0,none⟩) t.length cap]).run prog c.w.drew=.ok (.pointer<|some ⟨c.bl j,0,none⟩) c.w.drew:=
    Lib.run_unsafeSliceData_row _ _ _ _ _ _ iV
   have aOa:(Builtin.unsafeString_ #[332,3] 9 #[.pointer (some ⟨c.bl j,0,none⟩),.int .i64 t.length]).run prog c.w.drew=.ok (.string ⟨t.toArray⟩) (c.w.drew.freeze ⟨c.bl j,0,none⟩ t.length):=by
    refine Lib.run_unsafeString_row c.w.drew 332 3 9 uS underlying332 n2 (c.bl j) K.size (by simp[World.shape?,show c.w.drew.heap[c.bl j]?=_ from V]) t ah Z iV λq x J=>?_
    have ak:=(cj.1 J).1;rw[p0,AY<|show c.w.drew.heap[c.bl j]?=_ from V,j9]
    have I:K[q]?=some (K[q]'(by omega)):=mc iV
    have aH:(ch t)[q]?=some (.int .u8 x.toNat):=by simp[ch,J]
    have:=Cv q _ _ aH I;rw[I];generalize K[q]'(by omega)=u at this
    cases this;rfl
   obtain⟨c',jz,fP,gj⟩:=hs.draw.frozen U trivial (by simpa[Ctx.draw,O]using hk) hd t.length
   have mixed:=uJ
   go_enter func135,ntmps135
   go_wp2
   go_region_o
   all_goals(go_wp2;go_ret;exact⟨c',_,_,_,rfl,jz,gj,(Ext.draw c).trans fP,.str t iV,rfl,rfl⟩)
end
theorem Qq(h:refused l o=true):dX l o=l/\kh l o=P8:=by rw[dX,kh,aA h,aA h];exact⟨rfl,rfl⟩
theorem aRo(h:cp l=false):refused l o=true:=by simp[refused,h]
theorem KV(l:List aE)(o:aX):cp (dX l o)=cp l:=by
 cases J:cp l with
 |true=>exact PZ o J
 |false=>rw[(Qq (o:=o) (aRo J)).1,J]
theorem ZD(hs:cp l=true)(n:aE)(id:Int):fe (rP l n) id=if id=n.id then some n else fe l id:=by
 obtain⟨A,B,K,Z,O,V,h⟩:=KK hs n.id;rw[PY n O V];by_cases U:id=n.id
 ·rw[aA U];exact DM (λx J=>by rw[U];exact K x J) U.symm
 ·rw[aj U];have key:∀m:aE,m.id=n.id->fe (A++m::B) id=fe (A++B) id:=by
   intro m hm;unfold fe;rw[List.find?_append,List.find?_append,List.find?_cons,bN<|by rw[hm];exact λe=>U e.symm]
  rcases h with⟨h,_⟩|⟨m,hm,h,_⟩
  ·conv=>rhs;rw[h]
   exact key n rfl
  ·conv=>rhs;rw[h]
   rw[key m hm];exact key n rfl
theorem Li(hk:o.kind=1):je l o=⟨(pM l o).id,o.parent,o.name,o.at_,((fe l o.node).getD uI).data,((fe l o.node).getD uI).wrote⟩:=by
 unfold je pM;rw[aA hk];cases fe l o.node<;>rfl
theorem aBD(hk:o.kind=2):je l o=⟨(pM l o).id,if(fe l o.node).isSome=true then((fe l o.node).getD uI).parent else-1,((fe l o.node).getD uI).name,((fe l o.node).getD uI).fJ,o.data,o.at_⟩:=by
 unfold je pM;rw[aj iV]
 cases fe l o.node<;>rfl
def par(l:List aE)(id:Int):Option Int:=match fe l id with|none=>none|some n=>if n.parent= -1 then none else some n.parent
theorem qT(l:List aE)(k:Nat)(id:Int):ll l (k+1) id=match par l id with|none=>[]|some p=>p::ll l k p:=by
 grind [ll,par,fe,id]
theorem aMm(l:List aE)(k j:Nat)(id:Int):ll l k id=(ll l (k+j) id).take k:=by
 induction k generalizing id with
 |zero=>rfl
 |succ k J=>
  rw[Nat.succ_add,qT,qT];grind
def ln(l:List aE):Prop:=∃r:Int->Nat,∀x p,par l x=some p->r p<r x
def A6(l:List aE):Nat->Int->List Int
 |0,_=>[]
 |k+1,id=>match par l id with|none=>[]|some p=>id::A6 l k p
theorem aRI(l:List aE)(k:Nat)(id:Int):(A6 l k id).length=(ll l k id).length:=by
 induction k generalizing id with
 |zero=>rfl
 |succ k J=>
  rw[qT,A6];grind
theorem aRJ(l:List aE)(k:Nat)(id:Int):∀x∈A6 l k id,x∈l.map aE.id:=by
 induction k generalizing id<;>grind [id,A6,par,cU,fe,sC,bJ]
theorem aRK(U:∀x p,par l x=some p->r p<r x)(k:Nat)(id:Int):(∀x∈A6 l k id,r x<=r id)/\(A6 l k id).Nodup:=by
 induction k generalizing id with
 |zero=>exact⟨λx J=>(by cases J),List.nodup_nil⟩
 |succ k K=>
  rw[A6];grind
theorem aMp(U:∀x p,par l x=some p->r p<r x)(k:Nat)(id:Int):∀x∈ll l k id,r x<r id:=by
 induction k generalizing id with
 |zero=>intro x J;cases J
 |succ k K=>
  intro x J;rw[qT]at J;grind
theorem aBQ{xs ys:List Int}(af:xs.Nodup)(hs:∀x∈xs,x∈ys):xs.length<=ys.length:=by
 induction xs generalizing ys with
 |nil=>exact bW _
 |cons x xs U=>
  have J:=hs x kk
  have h:=U (ys:=ys.erase x) (u1.1 af).2 (λz K=>by
   grind)
  grind
theorem P7(h:ln l)(k:Nat)(id:Int):(ll l k id).length<=l.length:=by
 obtain⟨r,J⟩:=h;have:=aBQ (aRK J k id).2<|aRJ l k id;rwa[aRI,cv]at this
theorem F0(h:ln l)(hk:l.length<=k)(id:Int):ll l k id=gZ l id:=by
 obtain⟨j,rfl⟩:∃j,k=l.length+j:=⟨k-l.length,iV⟩
 rw[gZ,aMm l l.length j id,iw<|P7 h _ _]
theorem aMq(l:List aE)(k:Nat)(id:Int):∀y∈id::ll l k id,∀p,par l y=some p->p∈ll l (k+1) id:=by
 induction k generalizing id with
 |zero=>
  intro y J p ad;simp only[ll,cU,lj,lk]at J;subst J;rw[qT,ad];simp
 |succ k U=>
  intro y J p ad;rcases cU.1 J with rfl|J
  ·rw[qT,ad];simp
  ·rw[qT]at J;rw[qT];cases aJ:par l id with
   |none=>rw[aJ]at J;cases J
   |some q=>
    grind
theorem Qf(h:ln l)(id:Int):∀y∈id::gZ l id,∀p,par l y=some p->p∈gZ l id:=by
 intro y J p ad;have:=aMq l l.length id y J p ad;rwa[F0 h (oA _)]at this
theorem YV(U:∀y,C y->∀p,par l y=some p->C p)(k:Nat)(id:Int)(hi:C id):∀x∈ll l k id,C x:=by
 induction k generalizing id with
 |zero=>intro x J;cases J
 |succ k K=>
  intro x J;rw[qT]at J;grind
theorem aMo(h:ln l)(id:Int):id∉gZ l id:=by
 obtain⟨r,U⟩:=h;intro J;have:=aMp U _ _ _ J;omega
theorem Wj{a:List aE}(J:∀y,C y->∀p,par l y=some p->C p)(he:∀y,C y->par a y=par l y)(k:Nat)(id:Int)(hi:C id):ll a k id=ll l k id:=by
 induction k generalizing id with
 |zero=>rfl
 |succ k U=>
  rw[qT,qT,he id hi];grind
theorem YW(hs:cp l=true)(J:refused l o=false)(hk:o.kind=2)(x:Int):par (dX l o) x=par l x:=by
 grind [par,wO,ZD,C1,aBD,fe]
theorem aQZ(hs:cp l=true)(J:refused l o=false)(hk:o.kind=1)(ad:o.parent≠ -1)(x:Int):par (dX l o) x=if x=o.node then some o.parent else par l x:=by
 grind [par,wO,ZD,C1,Li]
theorem Sq(h:b0 o=true):o.kind=1\/o.kind=2:=by
 unfold b0 at h;simp only[cV,Bool.or_eq_true,gU]at h;exact h.1.1.1
theorem PI{n:Int}(h:dm n=true):n≠ -1:=by
 intro e;subst e;revert h;decide
theorem aBL(h:b0 o=true)(hk:o.kind=1):dm o.parent=true:=by
 grind [b0,tS]
theorem aB4(h:refused l o=false):cp l=true/\b0 o=true/\(o.kind=1->uP l o=false):=by
 unfold refused at h;grind
theorem aQw(h:uP l o=false):o.node∉o.parent::gZ l o.parent:=by
 grind [uP,Bool.or_eq_false_iff,wG,List.any_eq_false,cU]
theorem aR2(o:aX)(hs:cp l=true)(h:ln l):ln (dX l o):=by
 cases U:refused l o with
 |true=>rw[(Qq U).1];exact h
 |false=>
  obtain⟨-,K,z⟩:=aB4 U;rcases Sq K with hk|hk
  ·have cH:=aQw<|z hk;have vN:=aQZ hs U hk<|PI (aBL K hk);obtain⟨r,O⟩:=id h;have aXC:∀x p,x≠o.node->par l x=some p->(o.node∈x::gZ l x↔o.node∈p::gZ l p):=by
    intro x p J ad;have V:=Qf h x;have Z:p∈gZ l x:=V x kk p ad
    constructor
    ·intro hm;rcases cU.1 hm with e|hm
     ·exact absurd e.symm J
     ·have I:o.node∈ll l (l.length+1) x:=by rw[F0 h (oA _)];exact hm
      rw[qT,ad]at I;exact I
    ·intro hm;refine lU _ ?_;rcases cU.1 hm with e|hm
     ·rw[e];exact Z
     ·exact YV (C:=λy=>y∈gZ l x) (λy aH q aJ=>V y (lU _ aH) q aJ) _ p Z _ hm
   refine⟨λx=>if o.node∈x::gZ l x then r x+r o.parent+1 else r x,λx p aXZ=>?_⟩
   grind
  ·obtain⟨r,O⟩:=h;exact⟨r,λx p ad=>O x p<|by rw[YW hs U hk]at ad;exact ad⟩
structure mg (l:List aE):Prop where
 cp:cp l=true
 wf:ln l
 dir:∀n∈l,n.parent= -1\/dm n.parent=true
theorem aNr:mg []:=⟨rfl,⟨λ_=>0,λx p h=>by cases h⟩,λn h=>by cases h⟩
theorem aBW{n x:aE}(h:x∈rP l n):x=n\/x∈l:=by
 grind [rP,nc,dr,e4]
theorem aNp(o:aX)(h:mg l):mg (dX l o):=by
 refine⟨PZ o h.cp,aR2 o h.cp h.wf,?_⟩;cases J:refused l o with
 |true=>rw[(Qq J).1];exact h.dir
 |false=>
  obtain⟨-,U, -⟩:=aB4 J;intro n af;rw[wO J]at af;rcases aBW af with rfl|af
  ·rcases Sq U with hk|hk
   ·rw[Li hk];exact .inr<|aBL U hk
   ·rw[aBD hk];simp only;cases K:fe l o.node with
    |none=>exact .inl rfl
    |some m=>exact h.dir m<|sC K
  ·exact h.dir n af
theorem aNq(s:List aX)(h:mg l):mg (s.foldl dX l):=by
 induction s generalizing l with
 |nil=>exact h
 |cons o s J=>exact J<|aNp o h
theorem KW(hs:cp l=true){n:aE}(af:n∈l):fe l n.id=some n:=by
 have ad:=((zd l).1 hs).2;cases h:fe l n.id with
 |none=>
  have:=wF.1 h n af;simp at this
 |some m=>
  have h1:=sC h;have h2:m.id=n.id:=by have:=List.find?_some h;simpa using this
  obtain⟨i,hi,rfl⟩:=List.getElem_of_mem h1;obtain⟨j,J,rfl⟩:=List.getElem_of_mem af;rcases Nat.lt_trichotomy i j with q|q|q
  ·have:=List.pairwise_iff_getElem.1 ad i j hi J q;omega
  ·subst q;rfl
  ·have:=List.pairwise_iff_getElem.1 ad j i J hi q;omega
end Go.Proofs.YtnmamncmpklliaaGreatDoor
