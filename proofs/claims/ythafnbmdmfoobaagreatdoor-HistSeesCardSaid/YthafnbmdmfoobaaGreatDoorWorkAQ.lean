/- What the functions of this seat answer (17 of 40). No condition. -/
import Derived.Test.YthafnbmdmfoobaaGreatDoorWorkAM
import Derived.Test.YthafnbmdmfoobaaGreatDoorWorkAO
set_option linter.unusedSimpArgs false
set_option linter.unusedVariables false
set_option linter.unusedSectionVars false
set_option maxRecDepth 100000
set_option maxHeartbeats 16000000
namespace Go.Proofs.YthafnbmdmfoobaaGreatDoor
section
theorem mq{G:ab}{i j n:Nat}(h1:i<G.length)(h2:j<G.length)(aP:i<j)(ag:G.length=n):
  (∀L X,ai (G++L) i X=ai G i X++L)∧(∀L X,ai (G++L) j X=ai G j X++L)∧(∀v X,ao (ai G i (.cells v X)) i=.cells v X)∧(∀v X L,ao (ai G i (.cells v X)++L) i=.cells v X)∧(∀X Y,ai (ai G i X) i Y=ai G i Y)∧
  (∀X Y L,ai (ai G i X++L) i Y=ai G i Y++L)∧(∀X Y,ai (ai G i X) j Y=ai (ai G j Y) i X)∧(∀X Y L,ai (ai G i X++L) j Y=ai (ai G j Y) i X++L)∧(∀v X Y L,ao (ai (ai G j Y) i (.cells v X)++L) i=.cells v X)∧
  (∀X v Y L,ao (ai (ai G j (.cells v Y)) i X++L) j=.cells v Y)∧(∀X Y Z L,ai (ai (ai G j Y) i X++L) i Z=ai (ai G j Y) i Z++L)∧(∀X Y Z L,ai (ai (ai G j Y) i X++L) j Z=ai (ai G j Z) i X++L)∧
  (∀X L,ao (ai G i X++L) n=L.getD 0 .gone)∧(∀X L k,ao (ai G i X++L) (n+k)=L.getD k .gone)∧(∀X Y L,ao (ai (ai G j Y) i X++L) n=L.getD 0 .gone)∧(∀X Y L k,ao (ai (ai G j Y) i X++L) (n+k)=L.getD k .gone)∧
  (∀X Y L,ai (ai G i X++L) n Y=ai G i X++L.set 0 Y)∧(∀X Y L k,ai (ai G i X++L) (n+k) Y=ai G i X++L.set k Y)∧(∀v Y L,ao (ai G j (.cells v Y)++L) j=.cells v Y)∧(∀X Y L,ai (ai G j Y++L) i X=ai (ai G j Y) i X++L)∧
  (∀L,ao (G++L) n=L.getD 0 .gone)∧(∀L k,ao (G++L) (n+k)=L.getD k .gone)∧(∀Y L,ai (G++L) n Y=G++L.set 0 Y)∧(∀Y L k,ai (G++L) (n+k) Y=G++L.set k Y):=by
 subst ag;have fK:∀X,(ai G i X).length=G.length:=fun X=>aX _ _ _
 have g7:∀X Y,(ai (ai G j Y) i X).length=G.length:=fun X Y=>by rw[aX,aX]
 have kG:∀Y,(ai G j Y).length=G.length:=fun X=>aX _ _ _
 have ne:j≠i:=by omega
 refine⟨fun L X=>gW h1 L X,fun L X=>gW h2 L X,fun v X=>dT h1 _,fun v X L=>bQ (b:=.cells v X) (dT h1 _) trivial L,fun X Y=>iQ _ _ _ _,fun X Y L=>?_,fun X Y=>?_,fun X Y L=>?_,fun v X Y L=>?_,fun X v Y L=>?_,fun X Y Z L=>?_,fun X Y Z L=>?_,
  fun X L=>rB (fK X),fun X L k=>?_,fun X Y L=>rB (g7 X Y),fun X Y L k=>?_,fun X Y L=>Lu (fK X) Y,fun X Y L k=>G9 (fK X) Y,fun v Y L=>bQ (b:=.cells v Y) (dT h2 _) trivial L,fun X Y L=>gW (by rw[kG];exact h1) L X,
  fun L=>rf _ _,fun L k=>Dl _ _ _,fun Y L=>Rd _ _ _,fun Y L k=>Ly _ _ _ _⟩
 ·rw[gW (by rw[fK];exact h1),iQ]
 ·rw[tj _ _ _ (by omega)]
 ·rw[gW (by rw[fK];exact h2),tj _ _ _ (by omega)]
 ·exact bQ (b:=.cells v X) (dT (by rw[kG];exact h1) _) trivial L
 ·exact bQ (b:=.cells v Y) (bM (dT h2 _) (by omega) _) trivial L
 ·rw[gW (by rw[g7];exact h1),iQ]
 ·rw[gW (by rw[g7];exact h2),tj (ai G j Y) _ _ (by omega),iQ]
 ·rw[<-fK X];exact Dl _ _ _
 ·rw[<-g7 X Y];exact Dl _ _ _
theorem aRY(k:Nat)(l:List bf):∀x∈aI bY l,cX k x:=fun x J=>(oX (fun x=>by simp only[go_sem]) l x J).cl k
def fv(j:Nat)(c:b3)(d:cS):List I:=
 [.sl false (d.m.log.entries.map de),.sl false (d.m.log.nodes.map aW),.int .i64 d.m.seen,.int .i64 d.m.rep,.sl false (d.m.cj.map cU),.sl false (d.m.bN.map bU),.int .i64 d.m.next,
  .int .i64 d.a.err,.str d.a.data,.sl false (d.a.names.map I.str),.int .i64 d.a.n,.sl false (d.a.events.map ct),
  .int .i64 c.kind,.str c.path,.str c.to,.str c.data,.int .i64 c.n,.osl 7 j (d.ops.length+1) 0 d.ops.length d.ops.length]
structure gv (i j:Nat) (c:b3) (d:cS) (G:ab):Prop where
 ne:i<j
 aV:ao G i=.cells 0 (fv j c d)
 bm:ao G j=.cells (d.ops.length+1) (aI bY d.ops)
def gg(G:ab)(i j:Nat)(c:b3)(d:cS):ab:=ai (ai G j (.cells (d.ops.length+1) (aI bY d.ops))) i (.cells 0 (fv j c d))
theorem Hd(G:ab)(i j:Nat)(c:b3)(d:cS):(gg G i j c d).length=G.length:=by unfold gg;rw[aX,aX]
section
variable {i j:Nat} {c:b3} {d:cS} {G:ab} (h:gv i j c d G)
include h
theorem gv.e3:i<G.length:=c8 h.aV trivial
theorem gv.fR:j<G.length:=c8 h.bm trivial
theorem gv.own:gg G i j c d=G:=by unfold gg;rw[kr h.bm trivial,kr h.aV trivial]
theorem gv.app(L:ab):gv i j c d (G++L):=⟨h.ne,bQ h.aV trivial L,bQ h.bm trivial L⟩
theorem gv.Cr(d':cS)(L:ab):gg (G++L) i j c d'=gg G i j c d'++L:=by
 unfold gg;rw[gW h.fR,gW (by rw[aX];exact h.e3)]
theorem gv.put(d':cS):gv i j c d' (gg G i j c d'):=by
 have aP:¬j=i:=by have:=h.ne;omega
 refine⟨h.ne,dT (by rw[aX];exact h.e3) _,?_⟩
 unfold gg;rw[tj _ _ _ aP];exact dT (by rw[aX];exact h.fR) _
theorem gv.AW(d1 d2:cS):gg (gg G i j c d1) i j c d2=gg G i j c d2:=by
 have aP:¬j=i:=by have:=h.ne;omega
 unfold gg;rw[tj (ai G j _) _ _ (fun e=>aP e.symm),iQ,iQ]
theorem gv.a1:∀X L,ao (ai G i X++L) j=.cells (d.ops.length+1) (aI bY d.ops):=fun X L=>bQ (bM h.bm (by have:=h.ne;omega) X) trivial L
theorem gv.a4:∀X,ao (ai G i X) j=.cells (d.ops.length+1) (aI bY d.ops):=fun X=>bM h.bm (by have:=h.ne;omega) X
theorem gv.one{d':cS}(aN:d'.ops=d.ops):ai G i (.cells 0 (fv j c d'))=gg G i j c d':=by
 unfold gg;rw[aN,kr h.bm trivial]
end
theorem DU(k:Nat)(b:Bool)(l:List aB):cX k (.sl b (l.map aW)):=(bO.sl b _ fun x J=>by obtain⟨y, -,rfl⟩:=bP.1 J;simp only[go_sem]).cl k
theorem DV(k:Nat)(b:Bool)(l:List eH):cX k (.sl b (l.map de)):=(bO.sl b _ fun x J=>by obtain⟨y, -,rfl⟩:=bP.1 J;simp only[go_sem]).cl k
theorem DW(k:Nat)(b:Bool)(l:List n4):cX k (.sl b (l.map cU)):=(bO.sl b _ fun x J=>by obtain⟨y, -,rfl⟩:=bP.1 J;simp only[go_sem]).cl k
theorem DX(k:Nat)(b:Bool)(l:List jV):cX k (.sl b (l.map bU)):=(bO.sl b _ fun x J=>by obtain⟨y, -,rfl⟩:=bP.1 J;simp only[go_sem]).cl k
theorem DY(k:Nat)(b:Bool)(l:List aM):cX k (.sl b (l.map I.str)):=(bO.sl b _ fun x J=>by obtain⟨y, -,rfl⟩:=bP.1 J;exact .str _).cl k
theorem DZ(k:Nat)(b:Bool)(l:List dS):cX k (.sl b (l.map ct)):=(bO.sl b _ fun x J=>by obtain⟨y, -,rfl⟩:=bP.1 J;simp only[ct,go_sem]).cl k
theorem aHm{n j:Nat}(aw:j<n)(c:b3)(d:cS):dp n (.cells 0 (fv j c d)):=fun x J=>by
 simp only[fv,c7,jB,jD]at J;rcases J with rfl|rfl|rfl|rfl|rfl|rfl|rfl|rfl|rfl|rfl|rfl|rfl|rfl|rfl|rfl|rfl|rfl|rfl;all_goals first|exact .int _ _|exact .str _|exact DV _ _ _|exact DU _ _ _|exact DW _ _ _|exact DX _ _ _|exact DY _ _ _|exact DZ _ _ _|exact .osl _ _ _ _ _ _ aw
theorem sQ{i j:Nat}{c:b3}{d d':cS}{G A L:ab}(h:gv i j c d G){e:Int}{v:I}(aL:v=.int .i64 e)(cf:A=gg G i j c d'):
  ∃H1 gk y,A++L=H1++gk∧H1.length=G.length∧(∀(k:Nat) (b:bu),H1[k]?=some b->G[k]?=some b∨dp G.length b)∧cQ G.length (A++L) v y∧(y=.int .i64 e∧H1=gg G i j c d'):=by
 subst aL;subst cf;refine⟨_,L,_,rfl,Hd _ _ _ _ _,fun k b hk=>?_,.cl _ (.int _ _),rfl,rfl⟩
 unfold gg at hk;rcases pI (aHm h.fR c d') k b hk with hk|hk
 ·exact pI (yN (enc:=bY) (fun x=>by simp only[go_sem]) G.length (d'.ops.length+1) d'.ops) k b hk
 ·exact .inr hk
theorem jG{i j:Nat}{c:b3}{d d':cS}{G A:ab}(h:gv i j c d G){e:Int}{v:I}(aL:v=.int .i64 e)(cf:A=gg G i j c d'):
  ∃H1 gk y,A=H1++gk∧H1.length=G.length∧(∀(k:Nat) (b:bu),H1[k]?=some b->G[k]?=some b∨dp G.length b)∧cQ G.length A v y∧(y=.int .i64 e∧H1=gg G i j c d'):=by
 have:=sQ (L:=[]) h aL cf;rwa[b2]at this
def qZ(P:Program)(f:FuncId)(i j:Nat)(c:b3)(r:Int×cS)(G:ab):Prop:=c5 P f [.ref i 0 0] G (fun v H'=>v=.int .i64 r.1∧H'=gg G i j c r.2)
def Eb(o:Option (List aB)):I:=match o with
 |none=>.a0 [.sl true [],.int .i64 191]
 |some l=>.a0 [.sl false (l.map aW),.int .i64 0]
def BQ(r:Int×aM×Int):I:=.a0 [.int .i64 r.1,.str r.2.1,.int .i64 r.2.2]
structure np (m:cb):Prop where
 nodes:m.log.nodes.length<=1000000
 db:m.log.entries.length<=1000000
 ops:∀e∈m.log.entries,pz e.op
 cj:m.cj.length<=1000000
 bN:m.bN.length<=1000000
 snap:∀s∈m.cj,s.nodes.length<=1000000
 bV:∀w∈m.bN,w.bV.length<=1000000
end
section
def Kp:List cR:=[.free,.pure 0,.pure 0,.pure 0,.pure 0,.free,.pure 0,.pure 0,.pure 0,.pure 0,.pure 0,.free,.free,.free,.eff [true,true,true,true,true,true,true,true,true],.eff [false,false,false,false,false,false,false,false,false],.free]
def PU:List cR:=[.free,.pure 0,.pure 0,.pure 0,.pure 0,.pure 0,.pure 0,.free,.free,.free,.eff [true,true,true,true,true,true],.eff [false,false,false,false,false,false],.free]
def PV:List cR:=[.free,.free,.pure 0,.pure 0,.pure 0,.pure 0,.free,.eff [true,false,true,true],.pure 0,.pure 0,.eff [false,true,false,false,false]]
attribute [go_sem] Kp PU PV
theorem BR(b:Bool)(l:List aB)(p:aM)(hl:l.length<=1073741824)(ae:p.length<=1048576)(H:ab):aY Tryz.prog 127 [.sl b (l.map aW),.str p] H (sT (fL l p)):=by
 refine bh Tryz.func127 ?_;have hs:=DQ p ae;unfold fL;cases ag:gl p with
 |none=>
  simp only[kV,ag]at hs;repeat' first|(refine ad ?_;simp only[go_sem])|refine af ?_|fail
  exact bC (.refl _)
 |some b7=>
  simp only[kV,ag]at hs;have an:=G8 b (decide (p=[47])) l b7 hl;simp only[sT]at an;repeat' first|(refine ad ?_;simp only[go_sem])|refine af ?_|fail
  exact bC (.refl _)
theorem Ul(b:Bool)(l:List aB)(p:aM)(hl:l.length<=1073741824)(ae:p.length<=1048576)(H:ab):aY Tryz.prog 122 [.sl b (l.map aW),.str p] H (BQ (jF l p)):=by
 refine bh Tryz.func122 ?_;have hs:=DQ p ae;unfold jF;cases ag:gl p with
 |none=>
  simp only[kV,ag]at hs;repeat' first|(refine ad ?_;simp only[go_sem])|refine af ?_|fail
  exact bC (.refl _)
 |some b7=>
  simp only[kV,ag]at hs;cases b7 with
  |nil=>
   repeat' first|(refine ad ?_;simp only[go_sem])|refine af ?_|fail
   exact bC (.refl _)
  |cons x xs=>
   have hlen:=F5 ag;rw[cm]at hlen;have hw:IntKind.i64.wrap (((xs.length+1:Nat):Int)-1)=(xs.length:Int):=by rw[cB];omega
   have aa:((0:Int)<=(xs.length:Int)∧(xs.length:Int)<=((xs.length+1:Nat):Int))=True:=bJ (by omega)
   have hd:decide (((xs.length+1:Nat):Int)=0)=false:=cg;have cG:(I.str x::xs.map I.str).getD xs.length .top=.str ((x::xs).getLast (by simp)):=by
    rw[<-dn (f:=I.str),dg I.str (by simp),List.getLast_eq_getElem];simp
   have ak:xs.length<xs.length+1:=nW _;have aj:List.take xs.length (I.str x::xs.map I.str)=((x::xs).dropLast).map I.str:=by
    rw[<-dn (f:=I.str),<-rX,DE];rfl
   obtain⟨⟨dir,e⟩,ax⟩:∃r,fg l (x::xs).dropLast=r:=⟨_,rfl⟩;have an:=fun f=>G8 b f l (x::xs).dropLast hl
   simp only[sT,ax]at an;have jr:=sX dir;by_cases he:e=0
   ·subst he;simp only[dI];cases fl:dy dir with
    |true=>
     rw[fl]at jr;repeat' first|((first|refine du (an _) ?_|refine ad ?_);simp only[go_sem,hw,aa,hd,cG,ak,aj])|refine af ?_|fail
     exact bC (.of (by simp[BQ,ax,fl]))
    |false=>
     rw[fl]at jr;repeat' first|((first|refine du (an _) ?_|refine ad ?_);simp only[go_sem,hw,aa,hd,cG,ak,aj])|refine af ?_|fail
     exact bC (.of (by simp[BQ,ax,fl]))
   ·have tA:decide (e=0)=false:=b8 he;simp only[az he];repeat' first|((first|refine du (an _) ?_|refine ad ?_);simp only[go_sem,hw,aa,hd,cG,ak,aj,tA])|refine af ?_|fail
    exact bC (.of (by simp[BQ,ax,he]))
theorem Sr(m:cb)(n:Int)(i:Nat)(cs:List I)(hm:m.cj.length<=1000000)(H:ab)(ah:ao H i=.cells 0 (.sl false (m.log.entries.map de)::.sl false (m.log.nodes.map aW)::.int .i64 m.seen::.int .i64 m.rep::.sl false (m.cj.map cU)::cs)):
  aY Tryz.prog 129 [.ref i 0 0,.int .i64 n] H (Eb (pa m n)):=by
 refine bh Tryz.func129 ?_;unfold pa;by_cases aC:n=0
 ·have hd:decide (n=0)=true:=cF aC;rw[aF aC];repeat' first|(refine ad ?_;simp only[go_sem,ah,hd])|refine af ?_|fail
  exact bC (.refl _)
 have hd:decide (n=0)=false:=b8 aC;rw[az aC];have h1:=bz ah trivial;repeat' first|(refine ad ?_;simp only[go_sem,ah,hd])|refine af ?_|fail
 refine b5 (ι:=Nat×ab) (fun s=>[(1,.int .i64 n),(20,.sl false (m.cj.map cU)),(21,.int .i64 m.cj.length),(22,.int .i64 s.1)]) (fun s=>H++s.2) (fun s=>s.1<=m.cj.length∧∀q (hk:q<s.1) (eb:q<m.cj.length),decide (m.cj[q].n=n)=false) (fun s=>m.cj.length-s.1) (0,[]) ⟨bG _,fun q hk=>by simp only at hk;omega⟩ ?_ (b2 _).symm ?_
 ·simp[go_sem]
 rintro⟨k,L⟩ ⟨hk,bX⟩;simp only at hk bX ⊢;generalize aT:H++L=G;by_cases ak:k<m.cj.length
 ·have ae:=dg cU ak;repeat' first|(refine ad ?_;simp only[go_sem,ae,cU,ak])|refine bx ?_|(refine bD ?_ ?_<;>intro h<;>try exact bB h)|fail
  ·have an:m.cj.find? (fun s=>decide (s.n=n))=some m.cj[k]:=by
    rw[List.find?_eq_some_iff_getElem];exact⟨by assumption,k,ak,rfl,fun q aS=>by rw[bX q aS (by omega)];rfl⟩
   rw[an];exact xG aT (by simp only[go_sem]) (.refl _)
  ·refine⟨(k+1,L++[.cells 0 (cU m.cj[k]).cells]),⟨ak,fun q aS iK=>?_⟩,by simp only;omega,bH _ (dW ak (by omega)),?_⟩
   ·by_cases e:q=k
    ·subst e;simpa using h
    ·have:=bX q (by simp only at aS;omega) iK;simpa using this
   ·show G++[.cells 0 (cU m.cj[k]).cells]=_;rw[<-aT,cr]
 ·have g3:k=m.cj.length:=by omega
  have an:m.cj.find? (fun s=>decide (s.n=n))=none:=by
   rw[ux];intro s hs;obtain⟨q,aS,rfl⟩:=List.mem_iff_getElem.1 hs;rw[bX q (by omega) aS];simp
  rw[an];repeat' first|(refine ad ?_;simp only[go_sem,ak])|refine af ?_|fail
  exact yK aT (by simp only[go_sem]) (.refl _)
theorem LK(j:Nat)(c:b3)(d:cS)(i:Nat)(hm:d.m.log.entries.length<=1000000)(H:ab)(ah:ao H i=.cells 0 (fv j c d)):
  aY Tryz.prog 124 [.ref i 0 0] H (.a0 [xd (g8 d.m).1,.int .i64 (g8 d.m).2]):=by
 refine bh Tryz.func124 ?_;have h1:=bz ah trivial;have ag:=aFM d.m.seen d.m.rep;simp only[fv]at ah h1;unfold g8;unfold MT at ag;cases aN:vk d.m.seen d.m.rep with
 |false=>
  rw[aN,az (by simp)]at ag
  rw[aF rfl];repeat' first|((first|refine mx [1] Kp ?_|refine ad ?_);simp only[go_sem,ah,h1])|refine af ?_|fail
  exact bo (.refl _)
 |true=>
  rw[aN,aF rfl]at ag;rw[az (by simp)]
  by_cases hl:(200:Int)<=(d.m.log.entries.length:Int)
  ·have hd:decide ((200:Int)<=(d.m.log.entries.length:Int))=true:=cF hl;rw[aF hl];repeat' first|((first|refine mx [1] Kp ?_|refine ad ?_);simp only[go_sem,ah,h1,hd])|refine af ?_|fail
   exact bo (.refl _)
  ·have hd:decide ((200:Int)<=(d.m.log.entries.length:Int))=false:=b8 hl;rw[az hl];repeat' first|((first|refine mx [1] Kp ?_|refine ad ?_);simp only[go_sem,ah,h1,hd])|refine af ?_|fail
   exact bo (.refl _)
theorem TQ{i j:Nat}{c:b3}{d:cS}{G:ab}(aa:gv i j c d G)(hs:np d.m){o:bf}(aN:pz o)(hl:d.ops.length<=1000000):
  c5 Tryz.prog 148 [.ref i 0 0,bY o] G (fun v H'=>v=.int .i64 (oD d o).1∧H'=gg G i j c (oD d o).2):=by
 refine eJ Tryz.func148 ?_;have hm:=aFH false false d.m.log o aN hs.ops hs.nodes hs.db;have a8:=aa.aV;have aU:=bz aa.aV trivial;have a3:=bz aa.bm trivial;have aP:=aa.ne;have cH:=aa.e3;have cO:=aa.fR;have a1:=aa.a1;have a4:=aa.a4;have bL:=aX G i;simp only[fv]at a8 aU;have bq:=mq cH cO aP rfl;simp only[Nh,CX,p7,bY]at hm;unfold oD;by_cases he:r0 d.m.log o=0
 ·rw[aF he];rw[he]at hm;have jN:(∀e,e=I.agg [.int .i64 o.at_.c,.int .i64 o.at_.r,.int .i64 o.kind,.int .i64 o.node,.int .i64 o.parent,.str o.name,.str o.data]->e.cells.length=7)=True:=bJ (fun e he=>by rw[he];rfl)
  have kT:((d.ops.length+1) * 72<=140737488355328)=True:=bJ (by omega)
  have eu:=dE (enc:=bY) (s:=7) (fun _=>rfl) d.ops
  repeat' first|((first|refine mx [1] PU ?_|refine mx [5] PV ?_|refine ad ?_);simp only[go_sem,bY,a8,aU,a3,a1,a4,bL,bq,aX,jN,kT,eu])|refine af ?_|fail
  refine sQ aa rfl ?_;unfold gg fv;simp[iu,pK,Hc,bY,I.cells]
 ·have hd:decide (r0 d.m.log o=0)=false:=b8 he;rw[az he];repeat' first|((first|refine mx [1] PU ?_|refine mx [5] PV ?_|refine ad ?_);simp only[go_sem,bY,a8,aU,a3,a1,a4,bL,bq,aX,hd])|refine af ?_|fail
  exact sQ aa rfl aa.own.symm
theorem HI{i j:Nat}{c:b3}{d:cS}{G:ab}(aa:gv i j c d G)(hs:np d.m){o:bf}(aN:pz o)(hl:d.ops.length<=1000000):
  c5 Tryz.prog 126 [.ref i 0 0,bY o] G (fun v H'=>v=.int .i64 (ta d o).1∧H'=gg G i j c (ta d o).2):=by
 refine eJ Tryz.func126 ?_;have a8:=aa.aV;have aU:=bz aa.aV trivial;have a3:=bz aa.bm trivial;have aP:=aa.ne;have cH:=aa.e3;have cO:=aa.fR;have a1:=aa.a1;have a4:=aa.a4;have bL:=aX G i;simp only[fv]at a8 aU;have bq:=mq cH cO aP rfl;unfold ta;obtain⟨s,e,ag⟩:∃s e,g8 d.m=(s,e):=⟨_,_,rfl⟩;simp only[ag];have mL:=fun L=>LK j c d i (by have:=hs.db;omega) (G++L) (aa.app L).aV
 simp only[ag,xd]at mL;by_cases he:e=0
 ·subst he;rw[aF rfl];repeat' first|((first|refine ea (mL _) (aA) ?_|refine ep (mL _) (aA) ?_|refine er (fun _=>mL _) (aA) ?_|refine ad ?_);simp only[go_sem,bY])|refine af ?_|fail
  obtain⟨L,hU⟩:∃L:ab,L=[.cells 0 [.int .i64 s.c,.int .i64 s.r,.int .i64 o.kind,.int .i64 o.node,.int .i64 o.parent,.str o.name,.str o.data],.cells 0 [.int .i64 s.c,.int .i64 s.r]]:=⟨_,rfl⟩;rw[<-hU];refine c6 (TQ (aa.app L) hs (o:={o with at_:=s}) aN hl) (aA) ?_
  rintro v H' ⟨rfl,rfl⟩;rw[aa.Cr];obtain⟨⟨x,d1⟩,ax⟩:∃r,oD d {o with at_:=s}=r:=⟨_,rfl⟩
  rw[ax];simp only;obtain⟨dd,ek⟩:∃dd,gg G i j c d1=dd:=⟨_,rfl⟩;have gB:gv i j c d1 dd:=ek▸aa.put d1;have E6:dd.length=G.length:=by rw[<-ek,Hd]
  have tO:∀d2,gg dd i j c d2=gg G i j c d2:=fun d2=>by rw[<-ek,aa.AW]
  rw[ek,hU];have a8:=gB.aV;have aU:=bz gB.aV trivial;have a3:=bz gB.bm trivial;have aP:=gB.ne;have cH:=gB.e3;have cO:=gB.fR;have a1:=gB.a1;have a4:=gB.a4;have bL:=E6;simp only[fv]at a8 aU;have bq:=mq cH cO aP E6;simp only[go_sem];by_cases J:x=0
  ·subst J;rw[aF rfl];repeat' first|(refine ad ?_;simp only[go_sem,a8,aU,a3,a1,a4,bL,bq,aX])|refine af ?_|fail
   refine sQ aa rfl ?_;rw[<-tO];exact gB.one (d':={d1 with m:={d1.m with seen:=s.c}}) rfl
  ·have hd:decide (x=0)=false:=b8 J;rw[az J];repeat' first|(refine ad ?_;simp only[go_sem,a8,aU,a3,a1,a4,bL,bq,aX,hd])|refine af ?_|fail
   exact sQ aa rfl ek.symm
 ·rw[az he];have hd:decide (e=0)=false:=b8 he;repeat' first|((first|refine ea (mL _) (aA) ?_|refine ep (mL _) (aA) ?_|refine er (fun _=>mL _) (aA) ?_|refine ad ?_);simp only[go_sem,bY,hd])|refine af ?_|fail
  exact sQ aa rfl aa.own.symm
end
end Go.Proofs.YthafnbmdmfoobaaGreatDoor
