/- What the functions of this seat answer (11 of 53). No condition. -/
import Derived.Test.YtnmamncmpklliaaGreatDoorWorkAJ
import Derived.Lib.MapLaws
import Derived.Sort.AssemblyPlain
import Derived.Shelf.SlSortCmp.Whole1
set_option linter.unusedSimpArgs false
set_option linter.unusedVariables false
set_option linter.unusedSectionVars false
set_option maxRecDepth 100000
set_option maxHeartbeats 16000000
namespace Go.Proofs.YtnmamncmpklliaaGreatDoor
variable{a b:List Int}{c:Ctx}{l A B:List aE}{k i v lc bl:Nat}{o:aX}{n m:aE}{id:Int}{H:ab}{f:FuncId}{P:Program}{F:Func}
open Go.Proofs.Tryz
def il:List Int->List Int->Int
 |[],[]=>0
 |[],(_::_)=> -1
 |_::_,[]=>1
 |x::xs,y::ys=>if x<y then-1 else if y<x then 1 else il xs ys
def hQ(s:ag):List Int:=match tp s with
 |some l=>l
 |none=>s.map λb=>((b.toNat:Int)+1114112)
def lQ(a b:ag):Bool:=decide<|il (hQ a) (hQ b)<0
theorem IY(a b:List Int):il a b= -1\/il a b=0\/il a b=1:=by
 induction a generalizing b<;>grind [il,List,Int]
theorem ON(h:il a b=0):a=b:=by
 induction a generalizing b with
 |nil=>grind [il,List,Int]
 |cons x a J=>
  cases b with
  |nil=>simp[il]at h
  |cons y b=>
   grind [il]
theorem aFs(a:List Int):il a a=0:=by
 induction a with
 |nil=>rfl
 |cons x a J=>rw[il,aj iV,aj iV,J]
theorem Nd(a b:List Int):il b a= -il a b:=by
 induction a generalizing b<;>grind [il,List,Int]
theorem Uw{c:List Int}(h:il a b= -1)(k:il b c= -1):il a c= -1:=by
 induction a generalizing b c with
 |nil=>
  grind [il,List,Int]
 |cons x a J=>
  cases b with
  |nil=>simp[il]at h
  |cons y b=>
   cases c with
   |nil=>simp[il]at k
   |cons z c=>
    rw[il]at h k ⊢;grind
theorem Tl(s:ag)(pos:Nat):jB s pos=Lib.decodeL (s.drop pos):=(Lib.decodeL_drop ⟨s.toArray⟩ pos).symm
theorem aLY{l:ag}(h:qB [239,191,189] l=true):Lib.decodeL l=(65533,3):=by
 unfold qB at h;simp only[cV,gU]at h;obtain⟨h1,h2⟩:=h
 match l,h1,h2 with
 |a::b::c::r,h1,h2=>
  simp only[cg,eg,List.take_succ_cons,Du,List.cons.injEq,and_true]at h2;obtain⟨rfl,rfl,rfl⟩:=h2;simp[cg,Lib.decodeL_N,Lib.decodeN,]
theorem aDf(s:ag):∀(k pos:Nat) (l:List Int),pr s k pos=some l->s.drop pos=l.flatMap Lib.encodeRune/\∀x∈l,x<=1114111:=by
 intro k;induction k with
 |zero=>
  simp[pr,]
 |succ k V=>
  intro pos l h;unfold pr at h;split at h
  ·rename_i z;split at h
   ·rename_i U;cases K:pr s k (pos+(jB s pos).2)with
    |none=>rw[K]at h;cases h
    |some r=>
     rw[K,wC]at h;obtain⟨av,al⟩:=V _ _ K;cases h;have Z:s.drop pos≠[]:=by rw[Ne,List.drop_eq_nil_iff];omega
     have I:¬((Lib.decodeL (s.drop pos)).1=65533/\(Lib.decodeL (s.drop pos)).2=1):=by
      rintro⟨aP,O⟩;rcases U with U|U
      ·rw[Tl,aP]at U;simp at U
      ·rw[aLY U]at O;cases O
     have T:=Lib.encode_decode _ Z I;rw[<-Tl]at T;refine⟨?_,λx J=>?_⟩
     ·rw[nj,T,<-av,<-sD,pY]
     ·rcases cU.1 J with rfl|J
      ·have:=Lib.decodeL_rune<|s.drop pos;rw[<-Tl]at this;omega
      ·exact al x J
   ·cases h
  simp_all
theorem M4{s:ag}{l:List Int}(h:tp s=some l):s=l.flatMap Lib.encodeRune/\∀x∈l,x<=1114111:=aDf s _ 0 l h
theorem aDX{a b:ag}(h:hQ a=hQ b):a=b:=by
 have K:∀{s:ag} {l:List Int},tp s=none->(∀x∈l,x<=1114111)->(s.map λb=>((b.toNat:Int)+1114112))≠l:=by
  intro s l hs hl he;cases s with
  |nil=>cases hs
  |cons c s=>
   have:=hl ((c.toNat:Int)+1114112)<|by rw[<-he];simp
   omega
 unfold hQ at h;cases U:tp a with
 |some l=>
  obtain⟨av,al⟩:=M4 U;cases J:tp b with
  |some m=>
   rw[U,J]at h;rw[av,(M4 J).1];exact bU _ h
  |none=>
   grind
 |none=>
  cases J:tp b with
  |some m=>
   rw[U,J]at h;exact absurd h<|K U (M4 J).2
  |none=>
   rw[U,J]at h;simp only at h;refine(List.map_inj_right λx y O=>?_).1 h
   have:x.toNat=y.toNat:=iV
   exact UInt8.toNat_inj.1 this
theorem D0:Sort.SWO lQ where
 irrefl:=λx=>by simp[lQ,aFs]
 trans:=λx y z h k=>by
  unfold lQ at *;rw[gU]at *;have h1:=IY (hQ x)<|hQ y;have h2:=IY (hQ y)<|hQ z;rw[Uw (show il (hQ x) (hQ y)= -1 by omega) (show il (hQ y) (hQ z)= -1 by omega)]
  omega
 ntrans:=λx y z h k=>by
  unfold lQ at *;rw[wG]at *;intro q;have h1:=IY (hQ x)<|hQ y;have h2:=IY (hQ y)<|hQ z;have h3:=IY (hQ x)<|hQ z;have J:=Nd (hQ x)<|hQ y;have a2:=Nd (hQ y)<|hQ z;rcases h1 with h1|h1|h1
  ·omega
  ·rw[ON h1]at q;omega
  ·rcases h2 with h2|h2|h2
   ·omega
   ·rw[<-ON h2]at q;omega
   ·have:=Uw (show il (hQ z) (hQ y)= -1 by omega)<|show il (hQ y) (hQ x)= -1 by omega
    have a3:=Nd (hQ x)<|hQ z;omega
theorem aEK{x y:ag}(h:lQ x y=false)(k:lQ y x=false):x=y:=by
 unfold lQ at *;rw[wG]at *;have:=Nd (hQ x)<|hQ y;exact aDX<|ON iV
def qU(l:List ag):List ag:=l.mergeSort λx y=> !lQ y x
theorem aKg(a b c:ag):(!lQ b a)=true->(!lQ c b)=true->(!lQ c a)=true:=by
 simp only[sB];exact λh k=>D0.ntrans c b a k h
theorem aIs(a b:ag):((!lQ b a)||(!lQ a b))=true:=by
 cases h:lQ b a with
 |false=>rfl
 |true=>
  cases k:lQ a b with
  |false=>rfl
  |true=>have:=D0.trans _ _ _ h k;rw[D0.irrefl]at this;cases this
theorem Fw(l:List ag):(qU l).Perm l:=List.mergeSort_perm ..
theorem aDg(l:List ag):(qU l).Pairwise λx y=>(!lQ y x)=true:=List.pairwise_mergeSort aKg aIs l
theorem aKh{a l:List ag}(hs:a.Pairwise λx y=>(!lQ y x)=true)(ad:a.Perm l):a=qU l:=
 List.Perm.eq_of_pairwise (λx y _ _ h k=>aEK (by simpa using k)<|by simpa using h) hs (aDg l) (ad.trans (Fw l).symm)
structure eQ where
 path:ag
 id:Int
 data:ag
deriving DecidableEq,Inhabited
def dL(x:eQ):I:=.agg [.str x.path,.int .i64 x.id,.str x.data]
@[go_sem] theorem aWa(x:eQ):b6 (dL x)=True:=by simp only[dL,go_sem]
def yh(l:List aE)(dir:Int):List ag:=if cp l=true then qU ((fz l dir).map (·.1))else[]
def zZ(l:List aE)(dir:Int):List Int:=dir::og l dir
def xG(l:List aE)(out:List Int):Nat->Int->ag->List eQ
 |0,_,_=>[]
 |k+1,dir,path=>(qU (((fz l dir).filter λp=> !out.contains p.2.id).map (·.1))).flatMap λs=>match ht s (fz l dir)with
  |some n=>⟨path++(47::s),n.id,n.data⟩::(if dm n.id=true then xG l out k n.id (path++(47::s))else[])
  |none=>[]
def mO(l:List aE)(dir:Int):List eQ:=if cp l=true then xG l (zZ l dir) (l.length+1) dir []else[]
def y0(p:ag)(l:List eQ):Option eQ:=l.reverse.find? λx=>decide<|x.path=p
def ke(is:List eQ)(t:eQ):Bool:=match y0 t.path is with|some n=> !decide (n.id=t.id)|none=>true
def ph(b1:List eQ)(t:eQ):Bool:=match y0 t.path b1 with|some o=>decide (o.id=t.id)&& !decide (o.data=t.data)|none=>false
def u7(b1 is:List eQ):List eb:=
 ((b1.reverse.filter (ke is)).map λt=>⟨1,t.path⟩)++((is.filter (ke b1)).map λt=>⟨2,t.path⟩)++((is.filter (ph b1)).map λt=>⟨3,t.path⟩)
def oI(e:List eb)(over:Bool)(l:List eb):List eb×Bool:=
 if over=true then(e,true)else if 8-e.length<l.length then(e++l.take (8-e.length)++[⟨9,[]⟩],true)else(e++l,false)
structure Bw where
 n:Int
 nodes:List aE
deriving DecidableEq,Inhabited
structure oH where
 n:Int
 dir:Int
 bV:List eb
 over:Bool
deriving DecidableEq,Inhabited
structure c0 where
 log:fC
 seen:Int
 rep:Int
 cN:List Bw
 cd:List oH
 next:Int
deriving DecidableEq,Inhabited
def gL(s:Bw):I:=.agg [.int .i64 s.n,.sl false<|s.nodes.map ba]
def dn(w:oH):I:=.agg [.int .i64 w.n,.int .i64 w.dir,.sl false<|w.bV.map c9,.bool w.over]
def oo(e n s w:I)(m:c0):I:=.agg [e,n,.int .i64 m.seen,.int .i64 m.rep,s,w,.int .i64 m.next]
def ih(f1 f2 f3 f4:Bool)(m:c0):I:=oo (.sl f1<|m.log.entries.map dv) (.sl f2<|m.log.nodes.map ba) (.sl f3<|m.cN.map gL) (.sl f4<|m.cd.map dn) m
@[go_sem] theorem aWb(x:Bw):b6 (gL x)=True:=by simp only[gL,go_sem]
@[go_sem] theorem aWc(x:oH):b6 (dn x)=True:=by simp only[dn,go_sem]
@[go_sem] theorem aWd(f1 f2 f3 f4:Bool)(x:c0):b6 (ih f1 f2 f3 f4 x)=True:=by simp only[ih,oo,go_sem]
def mz:c0:=⟨⟨[],[]⟩,0,0,[],[],0⟩
def o0(a b:Int)(d:Bool):Int:=if o8 a b=true then 128 * a+2 * b+(if d then 1 else 0)else-1
def xK(a b:Int):Bool:=decide (0<=a)&&decide (a<1048576)&&decide (0<=b)&&decide (b<=63)
theorem Jx{a b:Int}:xK a b=true↔0<=a/\a<1048576/\0<=b/\b<=63:=by
 simp[xK,and_assoc]
def lP(n:Int)(s:kX):Int:=if o8 s.c s.r=true then max n s.c else n
def o2(n:Int)(first:Bool):ag->Option (Int×ag)
 |[]=>none
 |x::r=>if(first&&decide ((x.toNat:Int)=128)||decide (72057594037927935<n))=true then none
  else if(x.toNat:Int)<128 then some (n * 128+x.toNat,r)else o2 (n * 128+((x.toNat:Int)-128)) false r
def e9(b:ag):Option (Int×ag):=o2 0 true b
def mW(b:ag):Option (ag×ag):=match e9 b with
 |none=>none
 |some (n,r)=>if(r.length:Int)<n then none else some (r.take n.toNat,r.drop n.toNat)
def oj(b:ag):Option (aX×ag):=
 (e9 b).bind fun(c,aO)=>(e9 aO).bind fun(r,bo)=>(e9 bo).bind fun(k,hG)=>(e9 hG).bind fun(de,gW)=>
  if k=1 then(e9 gW).bind fun(p,mM)=>(mW mM).bind fun(t,p4)=>if b0 ⟨⟨c,r⟩,k,de,p,t,[]⟩=true then some (⟨⟨c,r⟩,k,de,p,t,[]⟩,p4)else none
  else(mW gW).bind fun(t,p4)=>if b0 ⟨⟨c,r⟩,k,de,0,[],t⟩=true then some (⟨⟨c,r⟩,k,de,0,[],t⟩,p4)else none
def o6:Nat->ag->Option (List aX)
 |0,b=>if b=[]then some []else none
 |k+1,b=>if b=[]then some []else(oj b).bind fun(o,r)=>(o6 k r).map (o::·)
def iJ(b:ag):Option (List aX):=o6 b.length b
structure cn where
 m:c0
 a:nn
 ops:List aX
deriving DecidableEq,Inhabited
def gv(m:c0):kX×Int:=if xK m.seen m.rep=false then(nN,20)else if(200:Int)<=(m.log.entries.length:Int)then(nN,193)else(⟨m.seen+1,m.rep⟩,0)
def ox(d:cn)(o:aX):Int×cn:=if nR d.m.log o=0 then(0,{d with m:={d.m with log:=fc d.m.log o},ops:=d.ops++[o]})else(nR d.m.log o,d)
def sS(d:cn)(o:aX):Int×cn:=
 if(gv d.m).2=0 then
  (if(ox d {o with at_:=(gv d.m).1}).1=0 then(0,{(ox d {o with at_:=(gv d.m).1}).2 with m:={(ox d {o with at_:=(gv d.m).1}).2.m with seen:=(gv d.m).1.c}})
  else ox d {o with at_:=(gv d.m).1})
 else((gv d.m).2,d)
def qv(m:c0)(h:Int):Option (List aE):=if h=0 then some m.log.nodes else(m.cN.find? λs=>decide<|s.n=h).map (·.nodes)
def fi(l:List aE)(p:ag):Int×Int:=match gB p with
 |none=>(0,10)
 |some cb=>fp l cb
def iQ(l:List aE)(p:ag):Int×ag×Int:=match gB p with
 |none=>(0,[],10)
 |some []=>(0,[],194)
 |some (x::xs)=>if(fp l (x::xs).dropLast).2=0 then(if dm (fp l (x::xs).dropLast).1=true then((fp l (x::xs).dropLast).1,(x::xs).getLast kk,0)else(0,[],81))else(0,[],(fp l (x::xs).dropLast).2)
def zW(c:b8)(d:cn):Int×cn:=
 if c.path=[47]then(194,d)else
 if(iQ d.m.log.nodes c.path).2.2=0 then
  (if(fx d.m.log.nodes (iQ d.m.log.nodes c.path).1 (iQ d.m.log.nodes c.path).2.1).isSome=true then(190,d)else
   if(gv d.m).2=0 then sS d ⟨nN,1,o0 (gv d.m).1.c (gv d.m).1.r<|decide (c.kind=1),(iQ d.m.log.nodes c.path).1,(iQ d.m.log.nodes c.path).2.1,[]⟩else((gv d.m).2,d))
 else((iQ d.m.log.nodes c.path).2.2,d)
def zE(c:b8)(d:cn):Int×cn:=
 if(fi d.m.log.nodes c.path).2=0 then(if dm (fi d.m.log.nodes c.path).1=true then(82,d)else sS d ⟨nN,2,(fi d.m.log.nodes c.path).1,0,[],c.data⟩)
 else((fi d.m.log.nodes c.path).2,d)
def D4(c:b8)(d:cn):Int×cn:=match qv d.m c.n with
 |none=>(191,d)
 |some l=>if(fi l c.path).2=0 then(if dm (fi l c.path).1=true then(82,d)else(0,{d with a:={d.a with data:=((zB l (fi l c.path).1).getD uI).data}}))else((fi l c.path).2,d)
def Ft(c:b8)(d:cn):Int×cn:=match qv d.m c.n with
 |none=>(191,d)
 |some l=>if(fi l c.path).2=0 then(if dm (fi l c.path).1=true then(0,{d with a:={d.a with names:=yh l (fi l c.path).1}})else(81,d))else((fi l c.path).2,d)
def zP(c:b8)(d:cn):Int×cn:=
 if c.path=[47]\/c.to=[47]then(194,d)else
 if(fi d.m.log.nodes c.path).2=0 then
  (if(iQ d.m.log.nodes c.to).2.2=0 then
   (if(fx d.m.log.nodes (iQ d.m.log.nodes c.to).1 (iQ d.m.log.nodes c.to).2.1).isSome=true then(190,d)else
    if(iQ d.m.log.nodes c.to).1=(fi d.m.log.nodes c.path).1\/(og d.m.log.nodes (iQ d.m.log.nodes c.to).1).contains (fi d.m.log.nodes c.path).1=true then(192,d)
    else sS d ⟨nN,1,(fi d.m.log.nodes c.path).1,(iQ d.m.log.nodes c.to).1,(iQ d.m.log.nodes c.to).2.1,[]⟩)
  else((iQ d.m.log.nodes c.to).2.2,d))
 else((fi d.m.log.nodes c.path).2,d)
def Bd(c:b8)(d:cn):Int×cn:=
 if c.path=[47]then(194,d)else
 if(fi d.m.log.nodes c.path).2=0 then
  (match gB c.path with
  |some (x::xs)=>sS d ⟨nN,1,(fi d.m.log.nodes c.path).1,2,(x::xs).getLast kk,[]⟩
  |_=>(194,d))
 else((fi d.m.log.nodes c.path).2,d)
def D5(d:cn):Int×cn:=
 if(8:Int)<=(d.m.cN.length:Int)then(193,d)else(0,{d with a:={d.a with n:=d.m.next},m:={d.m with cN:=d.m.cN++[⟨d.m.next,d.m.log.nodes⟩],next:=IntKind.i64.wrap (d.m.next+1)}})
def D6(c:b8)(d:cn):Int×cn:=
 if(!(d.m.cN.any λs=>decide<|s.n=c.n)&& !(d.m.cd.any λw=>decide<|w.n=c.n))=true then(191,d)
 else(0,{d with m:={d.m with cN:=d.m.cN.filter λs=> !decide (s.n=c.n),cd:=d.m.cd.filter (λw=> !decide (w.n=c.n))}})
def D1(c:b8)(d:cn):Int×cn:=
 if(fi d.m.log.nodes c.path).2=0 then
  (if dm (fi d.m.log.nodes c.path).1=true then
   (if(8:Int)<=(d.m.cd.length:Int)then(193,d)else(0,{d with a:={d.a with n:=d.m.next},m:={d.m with cd:=d.m.cd++[⟨d.m.next,(fi d.m.log.nodes c.path).1,[],false⟩],next:=IntKind.i64.wrap (d.m.next+1)}}))
  else(81,d))
 else((fi d.m.log.nodes c.path).2,d)
def wj(n:Int):List oH->List oH
 |[]=>[]
 |w::l=>if w.n=n then{w with bV:=[]}::l else w::wj n l
def D7(c:b8)(d:cn):Int×cn:=match d.m.cd.find? λw=>decide (w.n=c.n)with
 |none=>(191,d)
 |some w=>(0,{d with a:={d.a with events:=w.bV},m:={d.m with cd:=wj c.n d.m.cd}})
def gq(g:fC):List aX->List aX->List aX
 |acc,[]=>acc
 |acc,o::l=>gq g (if(!rv g.entries o.at_&& !(acc.any λf=>decide<|f.at_=o.at_))=true then acc++[o]else acc) l
def mY(d:cn):List aX->Int×cn
 |[]=>(0,d)
 |o::l=>if(ox d o).1=0 then mY (ox d o).2 l else ox d o
def BH(c:b8)(d:cn):Int×cn:=match iJ c.data with
 |none=>(50,d)
 |some l=>
  if(200:Int)<(d.m.log.entries.length:Int)+((gq d.m.log [] l).length:Int)then(193,d)else
  if(mY d (gq d.m.log [] l)).1=0 then
   (0,{(mY d (gq d.m.log [] l)).2 with a:={(mY d (gq d.m.log [] l)).2.a with n:=(gq d.m.log [] l).length},m:={(mY d (gq d.m.log [] l)).2.m with seen:=l.foldl (λn o=>lP n o.at_) d.m.seen}})
  else mY d (gq d.m.log [] l)
def js(c:b8)(d:cn):Int×cn:=
 if c.kind=1\/c.kind=2 then zW c d else if c.kind=3 then zE c d else if c.kind=4 then D4 c d else if c.kind=5 then zP c d else if c.kind=6 then Bd c d
 else if c.kind=7 then Ft c d else if c.kind=8 then D5 d else if c.kind=9 then D6 c d else if c.kind=10 then D1 c d else if c.kind=11 then D7 c d
 else if c.kind=12 then(0,d)else BH c d
def PQ(b1 is:List aE)(w:oH):oH:={w with bV:=(oI w.bV w.over (u7 (mO b1 w.dir)<|mO is w.dir)).1,over:=(oI w.bV w.over (u7 (mO b1 w.dir)<|mO is w.dir)).2}
def zF(b1:List aE)(d:cn):cn:={d with m:={d.m with cd:=d.m.cd.map (PQ b1 d.m.log.nodes)}}
theorem aLZ(a b:Int)(d:Bool)(H:ab):aM prog 298 [.agg [.int .i64 a,.int .i64 b],.bool d] H (.int .i64<|o0 a b d):=by
 refine aZ func298 ?_;have J:=CZ a b;unfold o0;cases hk:o8 a b with
 |false=>
  rw[hk]at J;repeat' first|(refine ae ?_;simp only[go_sem])|refine ao ?_|fail
  exact aV<|.refl _
 |true=>
  rw[hk]at J;have h:=vf.1 hk;have U:IntKind.i64.wrap (128 * a)=128 * a:=bI;have K:IntKind.i64.wrap (2 * b)=2 * b:=bI;have O:IntKind.i64.wrap (128 * a+2 * b)=128 * a+2 * b:=bI;have T:IntKind.i64.wrap (128 * a+2 * b+1)=128 * a+2 * b+1:=bI;cases d with
  |true=>
   refine hH ?_;exact aV<|.refl _
  |false=>
   refine hH ?_;exact aV<|.of kk
def Ps(a b:Int):I:=if xK a b=true then .aQ [.agg [.int .i64 (a+1),.int .i64 b],.int .i64 0]else .aQ [.agg [.int .i64 0,.int .i64 0],.int .i64 20]
theorem aKi(a b:Int)(H:ab):aM prog 328 [.int .i64 a,.int .i64 b] H (Ps a b):=by
 refine aZ func328 ?_;unfold Ps;by_cases h1:a<0
 ·have af:xK a b=false:=by rw[<-x2,Jx];omega
  have d1:decide (a<0)=true:=cD h1;rw[af];refine hH ?_;exact aV<|.refl _
 have d1:decide (a<0)=false:=bN h1;by_cases h2:1048576<=a
 ·have af:xK a b=false:=by rw[<-x2,Jx];omega
  have d2:decide (1048576<=a)=true:=cD h2;rw[af];refine hH ?_;exact aV<|.refl _
 have d2:decide (1048576<=a)=false:=bN h2;have hw:IntKind.i64.wrap (a+1)=a+1:=bI;have J:=CZ (a+1) b;cases hk:o8 (a+1) b with
 |false=>
  have af:xK a b=false:=by rw[<-x2,Jx];rw[<-x2,vf]at hk;omega
  rw[hk]at J;rw[af];refine hH ?_;exact aV<|.refl _
 |true=>
  have af:xK a b=true:=by rw[Jx];rw[vf]at hk;omega
  rw[hk]at J;rw[af];refine hH ?_;exact aV<|.refl _
theorem Wy(n:Int)(s:kX)(f:Bool)(H:ab):aM prog 40 [.int .i64 n,.sl f [.agg [.int .i64 s.c,.int .i64 s.r]]] H (.int .i64<|lP n s):=by
 refine aZ func40 ?_;obtain⟨a,b⟩:=s;have hw:IntKind.i64.wrap (0+1)=1:=rfl;refine aW ?_;refine sW 2 ?_;unfold qc;repeat' first|(refine ae ?_;simp only[go_sem])|refine ao ?_|fail
 have J:=CZ a b;cases hk:o8 a b with
 |false=>
  rw[hk]at J;repeat' first|(refine ae ?_;simp only[go_sem,hw])|refine ao ?_|fail
  exact aV<|.of (by unfold lP;rw[hk];rfl)
 |true=>
  rw[hk]at J;repeat' first|(refine ae ?_;simp only[go_sem,hw])|refine ao ?_|fail
  exact aV<|.of (by unfold lP;rw[hk];rfl)
theorem VJ(l:List aX)(es:List fu)(n:List aE):(fb l es n).1.map fu.op=es.map fu.op++l:=by
 induction l generalizing es n with
 |nil=>simp[fb]
 |cons o l J=>unfold fb;rw[J];simp
def Pt(g:fC)(o:aX):Nat:=g.entries.length-(iT o.at_ g.entries.reverse g.nodes).1
theorem aGq(g:fC)(o:aX):dK (fc g o)=if b0 o=false\/rv g.entries o.at_=true\/(200:Int)<=(g.entries.length:Int)then dK g
  else(dK g).take (Pt g o)++o::(dK g).drop (Pt g o):=by
 unfold fc dK;by_cases h1:b0 o=false
 ·rw[aA h1,aA<|.inl h1]
 ·by_cases h2:rv g.entries o.at_=true
  ·rw[aj h1,aA h2,aA<|.inr (.inl h2)]
  ·by_cases h3:(200:Int)<=(g.entries.length:Int)
   ·rw[aj h1,aj h2,aA h3,aA<|.inr (.inr h3)]
   ·rw[aj h1,aj h2,aj h3,aj (by rintro(h|h|h)<;>contradiction),VJ]
    simp only[Pt,rI,uY]
theorem DO(g:fC)(o:aX):(fc g o).entries.length<=g.entries.length+1/\((fc g o).entries.length<=200\/(fc g o).entries.length=g.entries.length)/\(g.entries.length<=200->(fc g o).nodes.length<=g.nodes.length+401):=by
 unfold fc;split
 ·exact⟨iV,.inr rfl,λ_=>iV⟩
 ·split
  ·exact⟨iV,.inr rfl,λ_=>iV⟩
  ·split
   ·exact⟨iV,.inr rfl,λ_=>iV⟩
   ·have h1:=aGf o.at_ g.entries.reverse g.nodes;have h2:=aFl o.at_ g.entries.reverse g.nodes;have h3:=VF (o::(g.entries.drop (g.entries.length-(iT o.at_ g.entries.reverse g.nodes).1)).map fu.op) (g.entries.take<|g.entries.length-(iT o.at_ g.entries.reverse g.nodes).1) (iT o.at_ g.entries.reverse g.nodes).2;rw[List.length_reverse]at h1 h2;simp only[cg,cv,fT,eK]at h3;refine⟨by simp only;omega,.inl (by simp only;omega),λh=>by simp only;omega⟩
theorem VK(g:fC)(o:aX)(P:aX->Prop)(h:∀e∈g.entries,P e.op)(K:P o):∀e∈(fc g o).entries,P e.op:=by
 intro e he;have h1:e.op∈dK (fc g o):=List.mem_map_of_mem he;rw[aGq]at h1;have U:∀x∈dK g,P x:=λx J=>by obtain⟨O,T,rfl⟩:=bJ.1 J;exact h O T
 split at h1
 ·exact U _ h1
 ·rw[e4,cU]at h1;rcases h1 with h1|h1|h1
  ·exact U _<|uZ h1
  ·rw[h1];exact K
  ·exact U _<|sA h1
structure Fit (g:fC) (k:Nat):Prop where
 ops:∀e∈g.entries,hD e.op
 len:g.entries.length<=200
 nodes:g.nodes.length+401 * k<=1000000
theorem Fit.add{g:fC}(h:Fit g (k+1))(J:hD o):Fit (fc g o) k:=by
 have h1:=DO g o;have h2:=h.len;have h3:=h.nodes;refine⟨VK g o hD h.ops J,by rcases h1.2.1 with q|q<;>omega,?_⟩
 have:=h1.2.2 h2;omega
theorem Fit.all{g:fC}{l:List aX}(h:Fit g (l.length+k))(hl:∀o∈l,hD o):Fit (eN g l) k:=by
 induction l generalizing g with
 |nil=>exact⟨h.ops,h.len,by have:=h.nodes;simp at this;exact this⟩
 |cons o l U=>
  exact U (Fit.add ⟨h.ops,h.len,by have:=h.nodes;simp at this;omega⟩<|hl o kk) λx J=>hl x<|by simp[J]
theorem Fit.less{g:fC}{j:Nat}(h:Fit g k)(J:j<=k):Fit g j:=⟨h.ops,h.len,by have:=h.nodes;omega⟩
theorem aLI(g:fC)(a b:List aX):eN g (a++b)=eN (eN g a) b:=by
 induction a generalizing g with
 |nil=>rfl
 |cons o a J=>exact J _
theorem aLJ(g:fC)(a b:List aX):nW g (a++b)=nW g a+nW (eN g a) b:=by
 induction a generalizing g with
 |nil=>simp[nW,eN]
 |cons o a J=>rw[iN,nW,nW,eN,J];omega
theorem aL7(g:fC)(l:List aX):0<=nW g l/\nW g l<=l.length:=by
 induction l generalizing g with
 |nil=>simp[nW]
 |cons o l J=>have:=J<|fc g o;unfold nW;simp only[cg];split<;>omega
def aLK:Option Value->FrameMode
 |none=>.returning
 |some v=>.panicking [{v:=v,recovered:=false}]
def zq(P:Program)(g:FuncId)(args:List I)(H:ab)(u:Option Value)(R:ab->Prop):Prop:=
 ∀(c:Ctx) (vs:Array Value),bp c H->sN c args vs->
  CallsDIn Fence.wide 0 P g vs (aLK u) c.w (λe wo w'=>∃c' v H',e=.returned v/\settle wo=.returning/\c'.w=w'/\bp c' H'/\Ext c c'/\R H')
theorem zq.mono{g:FuncId}{args:List I}{H:ab}{u:Option Value}{R R':ab->Prop}(h:zq P g args H u R)(J:∀H,R H->R' H):zq P g args H u R':=
 λc vs hs U=>(h c vs hs U).mono λ_ _ _ ⟨c',v,H',av,al,K,O,T,V⟩=>⟨c',v,H',av,al,K,O,T,J _ V⟩
def PX(P:Program)(g:FuncId)(cs:List I)(rs:List ResultVar)(R:I->ab->Prop):cX
 |.normal,α,H=>zq P g cs H none λH'=>uu P α H' rs/\R (tQ (rs.map λr=>(pO P α H' r).v)) H'
 |.ret,α,H=>zq P g cs H none λH'=>uu P α H' rs/\R (tQ (rs.map λr=>(pO P α H' r).v)) H'
 |.panic nZ,α,H=>∃v,nZ=[{v:=v,recovered:=false}]/\zq P g cs H (some v) (λH'=>uu P α H' rs/\R (tQ<|rs.map λr=>(pO P α H' r).v) H')
 |_,_,_=>False
section
variable (g:FuncId) (cs:List I) (rs:List ResultVar) (R:I->ab->Prop) (α:a7) (H:ab)
@[go_sem] theorem aV7:PX P g cs rs R .ret α H=zq P g cs H none (λH'=>uu P α H' rs/\R (tQ<|rs.map λr=>(pO P α H' r).v) H'):=rfl
@[go_sem] theorem aT7(v:Value):PX P g cs rs R (.panic [{v:=v,recovered:=false}]) α H=zq P g cs H (some v) (λH'=>uu P α H' rs/\R (tQ<|rs.map λr=>(pO P α H' r).v) H'):=by simp[PX]
end
def Pu(P:Program)(rs:List ResultVar)(X:Value->ab->Prop)(R:I->ab->Prop):cX
 |.panic nZ,_,H=>∃v,nZ=[{v:=v,recovered:=false}]/\X v H
 |.normal,α,H=>qJ P rs R .normal α H
 |.ret,α,H=>qJ P rs R .ret α H
 |_,_,_=>False
section
variable (rs:List ResultVar) (X:Value->ab->Prop) (R:I->ab->Prop) (α:a7) (H:ab)
@[go_sem] theorem aUR:Pu P rs X R .ret α H=qJ P rs R .ret α H:=rfl
@[go_sem] theorem aT5(v:Value):Pu P rs X R (.panic [{v:=v,recovered:=false}]) α H=X v H:=by simp[Pu]
end
def rP(l:List aE)(n:aE):List aE:=nc l (pos l n.id) (upto l n.id) [n]
def Y7(l:List aE)(id:Int):List aE:=nc l (pos l id) (upto l id) []
theorem C1(l)(o):(je l o).id=o.node:=by
 have h:(pM l o).id=o.node:=by
  unfold pM;split
  ·rename_i n af;have:=List.find?_some af;simpa using this
  ·rfl
 unfold je;split<;>exact h
theorem wO(h:refused l o=false):dX l o=rP l (je l o):=by
 rw[dX,aj kr,rP,C1]
theorem VL(l:List aE)(id:Int)(x:aE)(J:x∈l.take (pos l id)):x.id<id:=by
 induction l<;>grind [pos,cU]
theorem VM(hs:cp l=true)(id)(x)(J:x∈l.drop (upto l id)):id<x.id:=by
 have ad:=((zd l).1 hs).2;rw[List.pairwise_iff_getElem]at ad;obtain⟨i,hi,rfl⟩:=List.getElem_of_mem J;rw[fT]at hi;rw[List.getElem_drop];have O:∀k (hk),pos l id<=k->¬l[k].id<id:=by
  intro k hk hle U;have key:∀(l),(∀(i j) (T) (V:j<l.length),i<j->l[i].id<l[j].id)->∀k (hk),pos l id<=k->¬l[k].id<id:=by
   intro l;induction l with
   |nil=>intro _ k hk;simp at hk
   |cons n l Z=>
    intro ad k hk hle U;unfold pos at hle;split at hle
    ·cases k with
     |zero=>omega
     |succ k=>
      refine Z (λi j hi I qh=>?_) k (by simpa using hk) iV<|by simpa using U
      have:=ad (i+1) (j+1) (by simpa using hi) (by simpa using I) iV
      simpa using this
    ·rename_i af;cases k with
     |zero=>simp at U;omega
     |succ k=>
      have:=ad 0 (k+1) kk hk iV
      simp at this U;omega
  exact key l ad k hk hle U
 unfold upto at hi ⊢;split
 ·rename_i K;have U:=v8 hs K;have he:=by
   rw[C0 hs,da U]at K;simpa using K
  rw[aA K]at hi;have:=ad (pos l id) (pos l id+1+i) U iV iV
  omega
 ·rename_i K;rw[aj K]at hi;have h1:=O (pos l id+i) iV iV
  have h2:l[pos l id+i].id≠id:=by
   intro e;by_cases z:i=0
   ·subst z;apply K
    rw[C0 hs,da iV]
    simpa using e
   ·have h3:=ad (pos l id) (pos l id+i) iV iV iV
    have h4:=O (pos l id) iV<|bd _
    omega
  omega
theorem Wz(hs:cp l=true)(af:fV n.id=true):cp (rP l n)=true:=by
 have h:=(zd l).1 hs;rw[zd];have ah:=VL l n.id;have hd:=VM hs n.id;unfold rP nc;grind
theorem WA(J:∀x∈A,x.id<id)(af:n.id=id):pos (A++n::B) id=A.length:=by
 induction A<;>simp_all[pos,]
theorem aL8(U:∀x∈A,x.id<id)(K:∀x∈B,id<x.id):pos (A++B) id=A.length:=by
 induction A with
 |nil=>
  cases B with
  |nil=>rfl
  |cons b B=>have:=K b kk;rw[ju,pos,aj iV];rfl
 |cons a A O=>
  rw[iN,pos,aA<|U a kk,O λx J=>U x kr];rfl
theorem DM(J:∀x∈A,x.id<id)(af:n.id=id):fe (A++n::B) id=some n:=by
 unfold fe;grind
theorem KK(hs:cp l=true)(id):∃A B,(∀x∈A,x.id<id)/\(∀x∈B,id<x.id)/\A=l.take (pos l id)/\B=l.drop (upto l id)/\(l=A++B/\hq l id=false\/∃n,n.id=id/\l=A++n::B/\hq l id=true):=by
 refine⟨_,_,VL l id,VM hs id,rfl,rfl,?_⟩;cases J:hq l id with
 |false=>
  unfold upto;simp_all
 |true=>
  right;have U:=v8 hs J;have he:=by
   have:=J;rw[C0 hs,da U]at this;simpa using this
  refine⟨l[pos l id],he,?_,rfl⟩;unfold upto;rw[aA J,<-ij U,pY]
theorem PY(n)(J:A=l.take (pos l n.id))(U:B=l.drop (upto l n.id)):rP l n=A++n::B:=by
 rw[rP,nc,J,U,dr];rfl
theorem Pc(J:∀x∈A,x.id<n.id)(hm:m.id=n.id):rP (A++m::B) n=A++n::B:=by
 rw[rP,nc,upto,aA (by rw[hq,DM J hm];rfl),(WA J hm),List.take_left']
 ·simp_all
 ·rfl
theorem aIt(J:∀x∈A,x.id<id)(hm:m.id=id):Y7 (A++m::B) id=A++B:=by
 rw[Y7,nc,upto,aA (by rw[hq,DM J hm];rfl),(WA J hm),List.take_left']
 ·simp_all
 ·rfl
theorem aIu(o:aX)(hs:cp l=true):tl (dX l o) o (kh l o)=l:=by
 cases J:refused l o with
 |true=>
  rw[dX,aA J,kh,aA J,tl,aA<|by simp[P8]]
 |false=>
  have K:b0 o=true:=by
   grind [b0,refused]
  have V:fV o.node=true:=by
   unfold b0 tS ve at K;split at K<;>simp at K<;>simp[K]
  have U:=C1 l o;have I:cp (dX l o)=true:=by rw[wO J];exact Wz hs<|by rw[U];exact V
  rw[kh,aj (by rw[J];decide),tl,aj<|by rw[I];simp]
  obtain⟨A,B,O,bX,z,EC,HS⟩:=KK hs o.node;have hd:dX l o=A++je l o::B:=by
   rw[wO J];exact PY _ (by rw[U];exact z)<|by rw[U];exact EC
  rcases HS with⟨hl,T⟩|⟨n,af,hl,T⟩
  ·rw[aj (by rw[T];simp)]
   have:=aIt (B:=B) O U;rw[hd];exact this.trans hl.symm
  ·have Z:fe l o.node=some n:=by rw[hl];exact DM O af
   rw[aA (by rw[T,Z,V];simpa using af),Z,pW]
   have:=Pc (m:=je l o) (B:=B) (by rw[af];exact O)<|by rw[af,U]
   rw[hd];have h2:rP (A++je l o::B) n=nc (A++je l o::B) (pos (A++je l o::B) o.node) (upto (A++je l o::B) o.node) [n]:=by rw[rP,af]
   rw[<-h2,this,<-hl]
theorem PZ(o:aX)(hs:cp l=true):cp (dX l o)=true:=by
 cases J:refused l o with
 |true=>rw[dX,aA J];exact hs
 |false=>
  have K:b0 o=true:=by
   grind [b0,refused]
  have U:fV o.node=true:=by
   grind [b0,tS,ve]
  rw[wO J];exact Wz hs<|by rw[C1];exact U
theorem Ki{a b:kX}:lK a b=true↔a.c<b.c\/(a.c=b.c/\a.r<b.r):=G9
theorem aL9{a b:kX}:lK a b=false↔¬(a.c<b.c\/(a.c=b.c/\a.r<b.r)):=by rw[<-Ki,x2]
theorem aIv{a b:kX}(h1:a.c=b.c)(h2:a.r=b.r):a=b:=by cases a;simp_all
theorem aEL(a b):lK a b=true\/a=b\/lK b a=true:=by
 rw[Ki,Ki];by_cases h:a=b
 ·exact .inr<|.inl h
 ·have:¬(a.c=b.c/\a.r=b.r):=λq=>h<|aIv q.1 q.2
  omega
theorem aDm{a b c:kX}(h:lK a b=true)(k:lK b c=true):lK a c=true:=by
 rw[Ki]at *;omega
def gR(l:List aX):fC:=⟨(fb l [] []).1,(fb l [] []).2⟩
abbrev zz(l:List aX):Prop:=l.Pairwise λx y=>lK x.at_ y.at_=true
theorem VA(a b:List aX)(es:List fu)(n:List aE):fb (a++b) es n=fb b (fb a es n).1 (fb a es n).2:=by
 induction a generalizing es n<;>grind [iN,fb]
theorem aGr(l)(es)(n):fb l es n=(es++(fb l [] n).1,(fb l [] n).2):=by
 induction l generalizing es n with
 |nil=>simp[fb]
 |cons o l J=>
  show fb l (es++[⟨o,kh n o⟩]) (dX n o)=(es++(fb l ([]++[⟨o,kh n o⟩]) (dX n o)).1,(fb l ([]++[⟨o,kh n o⟩]) (dX n o)).2);grind
theorem aF4(l)(es){n:List aE}(h:cp n=true):cp (fb l es n).2=true:=by
 induction l generalizing es n with
 |nil=>exact h
 |cons o l J=>exact J _<|PZ o h
theorem aEM(l):cp (gR l).nodes=true:=aF4 l [] rfl
theorem yz(l:List aX):dK (gR l)=l:=by rw[dK,gR,VJ];rfl
theorem aF5(a)(pre)(r:List aX)(h:∀x∈r,lK a x.at_=true):
  iT a (gR<|pre++r.reverse).entries.reverse (gR<|pre++r.reverse).nodes=((iT a (gR pre).entries.reverse (gR pre).nodes).1+r.length,(iT a (gR pre).entries.reverse (gR pre).nodes).2):=by
 induction r with
 |nil=>simp
 |cons x r J=>
  have e:pre++(x::r).reverse=(pre++r.reverse)++[x]:=kk
  have al:gR ((pre++r.reverse)++[x])=⟨(gR (pre++r.reverse)).entries++[⟨x,kh (gR<|pre++r.reverse).nodes x⟩],dX (gR<|pre++r.reverse).nodes x⟩:=by
   rw[gR,Vo];rfl
  rw[e,al];simp[List.reverse_nil,ju,iN];rw[iT,aA<|h x kk,aIu x<|aEM _,(J λy U=>h y<|by simp[U])]
  simp[tC]
theorem aEN(a)(pre)(h:∀x∈pre,lK a x.at_=false)(n):(iT a (gR pre).entries.reverse n).1=0/\(iT a (gR pre).entries.reverse n).2=n:=by
 cases J:(gR pre).entries.reverse with
 |nil=>exact⟨rfl,rfl⟩
 |cons e r=>
  have h1:e.op∈dK (gR pre):=List.mem_map_of_mem oE
  rw[yz]at h1;rw[iT,aj kr]
  exact⟨rfl,rfl⟩
def k9(o:aX)(l:List aX):List aX:=l.takeWhile λx=> !lK o.at_ x.at_
def qM(o:aX)(l:List aX):List aX:=l.dropWhile λx=> !lK o.at_ x.at_
def tT(o:aX)(l:List aX):List aX:=k9 o l++o::qM o l
theorem y6(o)(l):k9 o l++qM o l=l:=List.takeWhile_append_dropWhile
theorem XB(o:aX)(l:List aX):∀x∈k9 o l,lK o.at_ x.at_=false:=by
 intro x J;unfold k9 at J;induction l with
 |nil=>simp at J
 |cons y l U=>
  grind [List.takeWhile_cons,cU]
theorem XC{l:List aX}(h:zz l):∀x∈qM o l,lK o.at_ x.at_=true:=by
 intro x J;unfold qM at J;induction l with
 |nil=>simp at J
 |cons y l K=>
  rw[zz,List.pairwise_cons]at h;rw[List.dropWhile_cons]at J;split at J
  ·exact K h.2 J
  ·rename_i U;have U:=by simpa using U
   rw[cU]at J;rcases J with rfl|J
   ·exact U
   ·exact aDm U<|h.1 x J
theorem aIw{l:List aX}(hs:zz l)(o:aX)(h1:b0 o=true)(h2:rv (gR l).entries o.at_=false)(h3:(l.length:Int)<200):fc (gR l) o=gR (tT o l):=by
 have hlen:=by
  have:=bU List.length<|yz l;rwa[dK,cv]at this
 have hu:=aF5 o.at_ (k9 o l) (qM o l).reverse λx J=>XC hs x (List.mem_reverse.1 J)
 rw[List.reverse_reverse,y6]at hu;have af:=aEN o.at_ (k9 o l) (XB o l) (gR<|k9 o l).nodes;have U:iT o.at_ (gR l).entries.reverse (gR l).nodes=((qM o l).length,(gR (k9 o l)).nodes):=by
  rw[hu,af.2,af.1];simp
 have V:l.length=(k9 o l).length+(qM o l).length:=by
  have:=bU List.length<|y6 o l;grind
 have he:(gR l).entries=(gR (k9 o l)).entries++(fb (qM o l) [] (gR (k9 o l)).nodes).1:=by
  have e:=bU (λx=>(gR x).entries) (y6 o l).symm
  rw[e,gR,VA,aGr<|qM o l];rfl
 have K:=by
  have:=bU List.length<|yz (k9 o l);rwa[dK,cv]at this
 rw[fc,aj (by rw[h1];decide),aj (by rw[h2];decide),aj iV,U]
 simp only;have av:(gR l).entries.length-(qM o l).length=(k9 o l).length:=iV
 have al:(gR l).entries.take (k9 o l).length=(gR (k9 o l)).entries:=by rw[he,<-K,List.take_left'];rfl
 have O:((gR l).entries.drop (k9 o l).length).map fu.op=qM o l:=by
  rw[uY];have:=yz l;rw[dK]at this;rw[this];exact(bU (List.drop (k9 o l).length) (y6 o l).symm).trans<|List.drop_left' rfl
 rw[av,al,O,tT];have T:gR (k9 o l++o::qM o l)=⟨(fb (o::qM o l) (fb (k9 o l) [] []).1 (fb (k9 o l) [] []).2).1,(fb (o::qM o l) (fb (k9 o l) [] []).1 (fb (k9 o l) [] []).2).2⟩:=by
  rw[gR,VA]
 rw[T];rfl
theorem Bz{x:aX}{l:List aX}:x∈tT o l↔x=o\/x∈l:=by
 rw[tT];have:x∈l↔x∈k9 o l\/x∈qM o l:=by rw[<-e4,y6]
 grind
theorem Pd(o)(l):(tT o l).length=l.length+1:=by
 have:=bU List.length<|y6 o l;rw[bF]at this;rw[tT,bF,cg];omega
theorem aIx{l:List aX}(hs:zz l)(af:∀x∈l,x.at_≠o.at_):zz (tT o l):=by
 have aw:=hs;rw[<-y6 o l]at aw;rw[zz,List.pairwise_append]at aw;rw[tT,zz,List.pairwise_append,List.pairwise_cons];have ad:∀x∈k9 o l,lK x.at_ o.at_=true:=λx J=>by
  have U:=XB o l x J;rcases aEL o.at_ x.at_ with q|q|q
  ·rw[q]at U;cases U
  ·exact absurd q.symm<|af x (by rw[<-y6 o l];simp[J])
  ·exact q
 refine⟨aw.1,⟨XC hs,aw.2.1⟩,λa K b O=>?_⟩
 grind
theorem UW(l:List aX)(a:kX):rv (gR l).entries a=l.any λo=>decide (o.at_=a):=by rw[J,yz]
 where J {g:fC} {a:kX}:rv g.entries a=(dK g).any λo=>decide (o.at_=a):=by rw[rv,dK,List.any_map];rfl
structure Good (g:fC):Prop where
 log:g=gR (dK g)
 aCl:zz (dK g)
 ok:∀o∈dK g,b0 o=true
theorem aLL:Good ⟨[],[]⟩:=⟨rfl,by simp[dK],by simp[dK]⟩
theorem BJ{g:fC}(h:Good g)(o):Good (fc g o)/\(dK (fc g o)=dK g/\fc g o=g/\(b0 o=false\/(∃x∈dK g,x.at_=o.at_)\/200<=(dK g).length)\/dK (fc g o)=tT o (dK g)/\b0 o=true/\(∀x∈dK g,x.at_≠o.at_)):=by
 have hlen:(dK g).length=g.entries.length:=cv ..;by_cases h1:b0 o=true
 ·by_cases h2:rv g.entries o.at_=true
  ·have e:fc g o=g:=by rw[fc,aj (by rw[h1];decide),aA h2]
   rw[e];refine⟨h,.inl ⟨rfl,rfl,.inr<|.inl ?_⟩⟩;rw[h.log,UW]at h2;grind
  ·by_cases h3:200<=(g.entries.length:Int)
   ·have e:fc g o=g:=by rw[fc,aj (by rw[h1];decide),aj h2,aA h3]
    rw[e];exact⟨h,.inl ⟨rfl,rfl,.inr<|.inr iV⟩⟩
   ·have U:∀x∈dK g,x.at_≠o.at_:=by
     intro x J e;apply h2
     rw[h.log,UW];exact List.any_eq_true.2 ⟨x,J,by simpa using e⟩
    have e:=aIw h.aCl o h1 (by rw[<-h.log];simpa using h2) iV
    rw[<-h.log]at e;rw[e,yz];exact⟨⟨by rw[yz],by rw[yz];exact aIx h.aCl U,by rw[yz];intro x J;rcases Bz.1 J with rfl|J;exact h1;exact h.ok x J⟩,.inr ⟨rfl,h1,U⟩⟩
 ·have h1:=by simpa using h1
  have e:fc g o=g:=by rw[fc,aA h1]
  rw[e];exact⟨h,.inl ⟨rfl,rfl,.inl h1⟩⟩
theorem XD{g:fC}(h:Good g)(l):Good (eN g l):=by
 induction l generalizing g with
 |nil=>exact h
 |cons o l J=>exact J (BJ h o).1
theorem Ym{g:fC}(K:Good g)(l):(∀x∈dK (eN g l),x∈dK g\/x∈l/\b0 x=true)/\(∀x∈dK g,x∈dK (eN g l))/\(dK (eN g l)).length<=(dK g).length+l.length/\
  ((dK g).length+l.length<=200->∀x∈l,b0 x=true->∃y∈dK (eN g l),y.at_=x.at_):=by
 induction l generalizing g with
 |nil=>grind [Good,List,aX,dK,eN,b0]
 |cons o l O=>
  obtain⟨h1,h2⟩:=BJ K o;obtain⟨i1,i2,i3,i4⟩:=O h1;show(∀x∈dK (eN (fc g o) l),_)/\(∀x∈dK g,x∈dK (eN (fc g o) l))/\(dK (eN (fc g o) l)).length<=_/\(_->∀x∈o::l,_->∃y∈dK (eN (fc g o) l),_);rcases h2 with⟨av,al,T⟩|⟨av,al,T⟩
  ·grind
  ·rw[av]at i1 i2 i3 i4;rw[Pd]at i3 i4;refine⟨λx J=>?_,λx J=>i2 x<|Bz.2 (.inr J),by simp only[cg];omega,λhle x J U=>?_⟩
   ·rcases i1 x J with q|q
    ·rcases Bz.1 q with rfl|q
     ·exact .inr ⟨kk,al⟩
     ·exact .inl q
    ·exact .inr ⟨lU _ q.1,q.2⟩
   ·simp only[cg]at hle;rw[cU]at J;rcases J with rfl|J
    ·exact⟨x,i2 x<|Bz.2 (.inl rfl),rfl⟩
    ·exact i4 iV x J U
def SI(o:aX)(out:List aX):Nat:=out.length-(out.reverse.takeWhile λx=>lK o.at_ x.at_).length
theorem aHT{α:Type}(p)(a b:List α)(h:∀x∈a,p x=true)(J:∀x∈b,p x=false):(a++b).takeWhile p=a:=by
 induction a with
 |nil=>
  cases b with
  |nil=>rfl
  |cons x b=>simp[J x (_)]
 |cons x a U=>
  simp_all
section
abbrev kW:={s:ag // s.length<=1073741824}
instance:Inhabited kW:=⟨⟨[],kk⟩⟩
def p7(d:Array kW):List I:=d.toList.map λx=>I.str x.1
theorem KR(d:Array kW):(p7 d).length=d.size:=by simp[p7]
def wm(x:kW):Value:=.string ⟨x.1.toArray⟩
open Go.Sort Go.Shelf Go.Proofs
variable {P:Program}
theorem bp.more(U:bp c H)(w':World)(hs:c.w.heap.size<=w'.heap.size)(O:∀b,b<c.w.heap.size->w'.heap[b]?=c.w.heap[b]?)(Z:w'.os=c.w.os)(ah:w'.tape=c.w.tape)(hd:c.w.drawn<=w'.drawn)(hu:w'.output=c.w.output):
  Ext c {c with w:=w'}/\bp {c with w:=w'} H:=by
 have J:Ext c {c with w:=w'}:=⟨bd _,hs,λb T=>⟨T,O b (U.st b T).1⟩,λ_ _=>bd _,λi hi _=>⟨rfl,rfl,λK=>by simp only[bsize];rw[O _ (U.lt i hi K)]⟩,Z,⟨ah,hd⟩,hu,rfl⟩
 refine⟨J,U.jX.mono J,U.n,λi hi K=>tB (U.lt i hi K) hs,U.inj,λk hk=>⟨tB (U.st k hk).1 hs,(U.st k hk).2⟩,λi b hi=>?_⟩
 have V:i<c.n:=by rw[U.n];exact(cj.1 hi).1
 exact(U.rep i b hi).mono J V (λ_ _ h=>h) rfl λK=>O _<|U.lt i V K
theorem Ext.grown{c':Ctx}(J:Ext c c')(U:∀b,b<c.w.heap.size->c.hh b):∃q os,c'.w=grow (c.w.drewN q) os:=by
 refine⟨c'.w.drawn-c.w.drawn,c'.w.heap.extract c.w.heap.size c'.w.heap.size,?_⟩;have h1:=J.os;have h2:=J.tape;have h3:=J.output;have h4:c'.w.heap=c.w.heap++c'.w.heap.extract c.w.heap.size c'.w.heap.size:=by
  apply Array.ext_getElem?
  intro k;rw[Array.getElem?_append];split
  ·rename_i h;exact(J.st k (U k h)).2
  ·rename_i h;rw[Array.getElem?_extract];have:=J.size;by_cases hk:k<c'.w.heap.size
   ·rw[aA iV];congr 1;omega
   ·rw[aj iV,JW iV]
 obtain⟨h2,K⟩:=h2;generalize c'.w=w' at *;obtain⟨ad,V,O,os,T⟩:=w';simp only at h1 h2 h3 h4 K ⊢;subst h1 h2 h3;simp only[grow,World.drewN];rw[<-h4];congr 1;omega
theorem aF6{g:Nat}{O:kW->kW->Int}(V:∀(a b:kW) (H:ab),aM P g [.str a.1,.str b.1] H (.int .i64<|O a b))(U:bp c H){B:Nat}(Z:¬c.hh B)(ak:B<c.w.heap.size)(n:Nat):
  CmpLays1 P g #[] wm O B 0 n c.w:=λm os I _ x y=>by
 obtain⟨W,K⟩:∃W,sortWorld wm c.w B 0 m I os=W:=⟨_,rfl⟩;have hsz:c.w.heap.size<=W.heap.size:=by rw[<-K];simp[sortWorld,grow,putRow,mapBlock,Sort.ahead]
 rw[K];have z:∀a:Addr,c.hh a.block->W.cell? a=c.w.cell? a:=λa T=>by
  have aN:a.block≠B:=λe=>Z<|e▸T
  rw[<-K];unfold sortWorld;rw[cell?_grow _ _ _ (by simpa[putRow,mapBlock,Sort.ahead]using(U.st _ T).1),cell?_putRow_other _ _ _ _ _ _<|.inl aN]
  rfl
 have aw:bp (⟨W,0,c.bl,c.a1,c.cO,λb=>b<W.heap.size,c.base⟩:Ctx) []:=
  ⟨λp ad=>⟨tB (U.st _ (U.jX p ad).1).1 hsz,λj v aq=>(z _ (U.jX p ad).1).trans<|(U.jX p ad).2 j v aq⟩,rfl,λi hi=>absurd hi<|Nat.not_lt_zero i,λi j b cB h=>by simp at h,λk hk=>⟨hk,λi b h=>by simp at h⟩,λi b h=>by simp at h⟩
 refine(V x y [] _ #[wm x,wm y] aw ⟨rfl,λi a v h1 h2=>?_⟩).mono ?_
 ·match i with
  |0=>simp at h1 h2;subst h1 h2;exact .str _ (by have:=x.2;omega)
  |1=>simp at h1 h2;subst h1 h2;exact .str _ (by have:=y.2;omega)
  |i+2=>simp at h1
 ·rintro e w' ⟨c',v,u,H',rfl,rfl, -,J,az,rfl, -⟩;rw[az.iF];exact⟨rfl,J.grown λb aa=>aa⟩
theorem fL.texts{d:Array kW}(h:fL c i (.cells v<|p7 d))(af:d.size≠0):c.a1 i=v/\c.cO i=false/\∃vs e J,c.w.heap[c.bl i]?=some (.cells vs e J)/\d.size<=vs.size/\(vs.size<=J.1\/J.2<=J.1)/\Holds wm c.w (c.bl i) 0 d:=by
 have hl:=KR d;obtain⟨cs,K⟩:∃cs,cs=p7 d:=⟨_,rfl⟩;rw[<-K]at h hl;cases h with
 |void _ O hd=>simp at hl;omega
 |cells _ _ vs e J O hd U hs V Z=>
  refine⟨O,hd,vs,e,J,U,iV,V,λj T=>⟨?_,?_⟩⟩
  ·have h1:vs[j]?=some vs[j]:=mc iV
   have h2:=Z j (.str d[j].1) vs[j] (by rw[K];simp[p7,T]) h1
   simp only[World.cell?,U,j9];rw[h1,h2.ng];simp[wm,T]
  ·simp only[World.frozen?,U,j9];simp;omega
theorem fL.put{d d':Array kW}(K:c.a1 i=v)(hd:c.cO i=false){vs:Array Value}{e:TypeId}{J:Nat×Nat}(O:c.w.heap[c.bl i]?=some (.cells vs e J))(hs:d'.size<=vs.size)(T:vs.size<=J.1\/J.2<=J.1):
  fL {c with w:=putRow wm c.w (c.bl i) 0 d'} i (.cells v<|p7 d'):=by
 refine .cells v _ (putCells wm 0 d' vs) e J K hd ?_ (by rw[KR];simpa[putCells]using hs) (by simpa[putCells]using T) λj x u h1 h2=>?_
 ·simp[putRow,mapBlock,Array.getElem?_modify,O,onCells]
 ·have U:j<d'.size:=by have:=(cj.1 h1).1;rwa[KR]at this
  simp[p7,U]at h1;subst h1;simp[putCells,U,show j<vs.size by omega]at h2
  subst h2;exact .str _ (by have:=d'[j].2;omega)
theorem aKj{g:Nat}{f:Nat}{K:kW->kW->Int}{lt:kW->kW->Bool}(hw:SWO lt)(au:∀x y,decide (K x y<0)=lt x y)(ok:kF P g=true)(ax:∀(a b:kW) (H:ab),aM P g [.str a.1,.str b.1] H (.int .i64<|K a b))
  {ρ:Ren} (L:SlLaysF.n6 P ρ) (yI:ρ.f 6=f) {d:Array kW} {n:Nat} (af:n=d.size) (hl:n<=1073741824) (h1:n≠0) (H:ab) (an:ay H i=.cells v (p7 d)):
  dp P f [.osl 1 i v 0 n lc,.func (.func g) [] []] H (λr H'=>∃d',PermIn 0 n d d'/\SortedIn lt 0 n d'/\r=.aQ []/\H'=ar H i (.cells v<|p7 d')):=λc vs J aF=>by
 have hi:=kG an trivial;have bL:i<c.n:=by rw[J.n];exact(cj.1 hi).1
 obtain⟨V,hd,rs,e,bT,U,hs,lI,hH⟩:=(J.rep i _ hi).texts iV
 have Z:=J.lt i bL hd;have O:¬c.hh (c.bl i):=λh=>(J.st _ h).2 i _ hi trivial hd rfl
 obtain⟨hsz,I⟩:=aF;have br:=I 0 _ vs[0]! rfl (by simp[hsz])
 have a6:=I 1 _ vs[1]! rfl (by simp[hsz])
 obtain⟨base,cap,cY,g1,g2, -,g4⟩:=br.l8 V;obtain⟨g5,m,g6,g7⟩:=g4 hd;obtain rfl:base=some ⟨c.bl i,0,none⟩:=g5.resolve_left iV
 have av:vs[1]! =.func (.func g) #[] #[]:=by
  generalize vs[1]! =u at *;cases a6 with
  |func _ _ _ so wq h1 h2=>rw[tF h1,tF h2]
 obtain rfl:vs= #[.slice (some ⟨c.bl i,0,none⟩) d.size cap,.func (.func g) #[] #[]]:=by
  apply Array.ext
  ·exact hsz
  ·intro k hk ff;have ee:k<2:=ff
   match k with
   |0=>simpa[hk,af]using cY
   |1=>simpa[hk]using av
 have z:ltOf K=lt:=by funext x y;exact au x y
 have T:=aF6 ax J O Z d.size;rw[<-yI];refine(Any.slices_SortFunc L wm (λ_=>rfl) K (z▸hw) g #[] (c.bl i) 0 cap d c.w (MA ok) T hH Z iV).mono ?_
 rintro _ w' ⟨rfl,d',q,os,ad,yV,rfl⟩;rw[z]at yV;have aXS:d'.size=d.size:=ad.1;obtain⟨fY,s1⟩:=J.more (Sort.ahead c.w q) (bd _) (λ_ _=>rfl) rfl rfl (Nat.le_add_right _ _) rfl
 obtain⟨dW,s2⟩:=s1.update (B':=.cells v (p7 d')) hi trivial hd (putRow wm (Sort.ahead c.w q) (c.bl i) 0 d') kk (λb U=>by simp[putRow,mapBlock,Array.getElem?_modify,ka U]) (by simp[bsize,putRow,mapBlock,Array.getElem?_modify,U,onCells,putCells]) rfl rfl rfl<|fL.put (c:={c with w:=Sort.ahead c.w q}) (d:=d) V hd U iV lI
 obtain⟨gy,ld⟩:=s2.more (grow (putRow wm (Sort.ahead c.w q) (c.bl i) 0 d') os) kk (λb U=>heap_grow_old _ _ U) rfl rfl (bd _) rfl
 exact⟨_,.aQ [],.tuple #[],_,rfl,rfl,ld,(fY.trans dW).trans gy,.aQ _ _ rfl λ_ _ _ h=>by simp at h,d',by rw[af];exact ad,by rw[af];exact yV,rfl,rfl⟩
end
section
theorem VB{N:Nat}{body:Code}{Q:cX}{α:a7}(h:cI P N body (G2 (λ_:Unit=>α) (λ_=>H) (λ_=>True) (λ_=>0) () Q) α H):cI P N (.loop body) Q α H:=
 Yh (ι:=Unit) (λ_=>α) (λ_=>H) (λ_=>True) (λ_=>0) () trivial (λ_=>.inr rfl) rfl λ_ _=>GH h λe J H' h=>by
  cases e<;>first
   |exact h
   |(obtain⟨y,h1,h2,h3,h4⟩:=h;exact absurd h2<|Nat.lt_irrefl _)
open Go.Shelf
theorem se{B:Func}(h:P.funcs[f]?=some F)(af:(F.name== "runtime.NumGoroutine")=false:=by decide)(e:F={B with name:=F.name}:=by kernel_rfl):Bears P f B:=⟨F.name,af,h.trans<|bU some e⟩
theorem GI{B:Func}(h:P.funcs[f]?=some F)(e:F=B:=by kernel_rfl):P.funcs[f]?=some B:=h.trans<|bU some e
def aL0:Ren:=⟨fun|6=>188|14=>220|15=>221|20=>244|21=>245|22=>246|23=>247|24=>248|25=>249|26=>250|27=>251|28=>252|29=>253|46=>287|47=>288|48=>289|49=>290|50=>291|57=>326|n=>n,fun|0=>0|3=>3|4=>4|5=>5|9=>9|22=>45|24=>9|25=>292|39=>282|45=>410|46=>411|50=>134|53=>306|55=>418|66=>433|70=>224|76=>473|77=>474|n=>n,λn=>n⟩
theorem aL1:SlLaysF.n6 prog aL0 where
 mixed:=uJ
 f6:=se func188
 f14:=se func220
 f15:=GI func221
 f20:=se func244
 f21:=se func245
 f22:=se func246
 f23:=se func247
 f24:=se func248
 f25:=se func249
 f26:=se func250
 f27:=se func251
 f28:=GI func252
 f29:=GI func253
 f46:=se func287
 f47:=GI func288
 f48:=GI func289
 f49:=se func290
 f50:=se func291
 f57:=se func326
 t0:=underlying0
 a0:=isAgg0
 z0:=sizeOf0
 v0:=zeroValue0
 t3:=underlying3
 a3:=isAgg3
 z3:=sizeOf3
 v3:=zeroValue3
 t4:=underlying4
 a4:=isAgg4
 z4:=sizeOf4
 v4:=zeroValue4
 t5:=underlying5
 a5:=isAgg5
 z5:=sizeOf5
 v5:=zeroValue5
 t9:=underlying9
 a9:=isAgg9
 z9:=sizeOf9
 v9:=zeroValue9
 t22:=underlying45
 a22:=isAgg45
 z22:=sizeOf45
 v22:=zeroValue45
 a24:=isAgg9
 z24:=sizeOf9
 t25:=underlying292
 a25:=isAgg292
 z25:=sizeOf292
 v25:=zeroValue292
 t39:=underlying282
 a39:=isAgg282
 z39:=sizeOf282
 v39:=zeroValue282
 t45:=underlying410
 a45:=isAgg410
 z45:=sizeOf410
 v45:=zeroValue410
 t46:=underlying411
 a46:=isAgg411
 z46:=sizeOf411
 v46:=zeroValue411
 t50:=underlying134
 a50:=isAgg134
 z50:=sizeOf134
 v50:=zeroValue134
 t53:=underlying306
 a53:=isAgg306
 z53:=sizeOf306
 v53:=zeroValue306
 t55:=underlying418
 a55:=isAgg418
 z55:=sizeOf418
 v55:=zeroValue418
 t66:=underlying433
 a66:=isAgg433
 z66:=sizeOf433
 v66:=zeroValue433
 t70:=underlying224
 a70:=isAgg224
 z70:=sizeOf224
 v70:=zeroValue224
 t76:=underlying473
 a76:=isAgg473
 z76:=sizeOf473
 v76:=zeroValue473
 t77:=underlying474
 a77:=isAgg474
 z77:=sizeOf474
 v77:=zeroValue474
theorem aKk(H:ab):aM prog 221 [.int .u64 0] H (.int .i64 0):=by
 have h:∀H,aM prog 253 [.int .u64 0] H (.int .i64 0):=λH=>by
  refine aZ func253 ?_;have h0:kI (.string Lib.len8tab)=.str Lib.len8tab.data.toList:=aEf _<|by decide+kernel
  have J:Lib.len8tab.data.toList.length=256:=by decide+kernel
  have aW:Lib.len8tab.data.toList.getD 0 0=0:=by decide+kernel
  have hu:IntKind.u8.wrap 0=0:=rfl;repeat' first|(refine ae ?_;simp only[go_sem,h0,J,aW,hu])|refine bt ?_|(refine bB ?_ ?_<;>intro h<;>try exact bA h)|fail
  exact bD<|.of rfl
 refine aZ func221 ?_;repeat' first|(refine ae ?_;simp only[go_sem])|refine bt ?_|(refine bB ?_ ?_<;>intro h<;>try exact bA h)|fail
 exact bD<|.of rfl
theorem aIy{cs:List I}(F:I)(H:ab)(U:ay H bl=.cells v cs):aM prog 188 [.osl 1 bl v 0 0 lc,F] H (.aQ []):=by
 have h1:∀H,aM prog 244 [.osl 1 bl v 0 0 lc,.int .i64 0,.int .i64 0,F] H (.aQ []):=λH=>by
  refine aZ func244 ?_;repeat' first|(refine ae ?_;simp only[go_sem])|refine bt ?_|(refine bB ?_ ?_<;>intro h<;>try exact bA h)|fail
  refine VB ?_;have J:decide (IntKind.i64.wrap (0+1)<0)=false:=l9
  repeat' first|(refine ae ?_;simp only[go_sem,J])|refine bt ?_|(refine bB ?_ ?_<;>intro h<;>try exact bA h)|fail
  exact bD<|.of rfl
 have h2:∀H,aM prog 220 [.osl 1 bl v 0 0 lc,.int .i64 0,.int .i64 0,.int .i64 0,F] H (.aQ []):=λH=>by
  refine aZ func220 ?_;repeat' first|(refine ae ?_;simp only[go_sem])|refine bt ?_|(refine bB ?_ ?_<;>intro h<;>try exact bA h)|fail
  refine VB ?_;have J:decide (IntKind.i64.wrap (0-0)<=12)=true:=l9
  repeat' first|(refine ae ?_;simp only[go_sem,J])|refine bt ?_|(refine bB ?_ ?_<;>intro h<;>try exact bA h)|fail
  exact bD<|.of rfl
 refine aZ func188 ?_;have h3:=aKk;repeat' first|(refine ae ?_;simp only[go_sem,U])|refine bt ?_|(refine bB ?_ ?_<;>intro h<;>try exact bA h)|fail
 exact bD<|.of rfl
theorem aMa{lt:kW->kW->Bool}{c:kW->kW->Int}{g:FuncId}(hw:Sort.SWO lt)(U:∀x y,decide (c x y<0)=lt x y)(K:∀(a b:kW) (H:ab),aM prog g [.str a.1,.str b.1] H (.int .i64<|c a b))(ok:kF prog g=true)
  {d:Array kW} {n:Nat} (af:n=d.size) (hl:n<=1073741824) (H:ab) (J:ay H bl=.cells v (p7 d)):
  dp prog 188 [.osl 1 bl v 0 n lc,.func (.func g) [] []] H (λr H'=>∃d',Sort.PermIn 0 n d d'/\Sort.SortedIn lt 0 n d'/\r=.aQ []/\H'=ar H bl (.cells v<|p7 d')):=by
 by_cases h:n=0
 ·subst h;refine(aIy _ H J).mono ?_;rintro r H' ⟨rfl,rfl⟩;exact⟨d,⟨rfl,λ_ _=>rfl,.refl _⟩,λi j h1 h2 h3=>iV,rfl,(lr J trivial).symm⟩
 ·exact aKj hw U ok K aL1 rfl af hl h H J
end
def Lm(a b:ag):Int:=if lQ a b=true then-1 else if lQ b a=true then 1 else 0
theorem aMb(a b:ag):decide (Lm a b<0)=lQ a b:=by
 unfold Lm;cases h:lQ a b with
 |true=>rfl
 |false=>
  rw[aj kk]
  split<;>rfl
theorem aF7(a:Int)(H:ab):aM prog 254 [.int .i32 a] H (.bool false):=by
 refine aZ func254 ?_;have aw:decide (a=a)=true:=cD rfl;repeat' first|(refine ae ?_;simp only[go_sem,aw])|refine ao ?_|fail
 exact bD<|.of kk
def zM(a b:Int):Int:=if a<b then-1 else if b<a then 1 else 0
theorem aKl(a b:Int)(H:ab):aM prog 222 [.int .i32 a,.int .i32 b] H (.int .i64<|zM a b):=by
 refine aZ func222 ?_;unfold zM;repeat' first|((first|refine cx (aF7 _) ?_|refine ae ?_);simp only[go_sem])|refine bt ?_|(refine bB ?_ ?_<;>intro h<;>try exact bA h)|fail
 all_goals exact bD<|.of (bU _ (by simp only[gU,wG]at *;(repeat' split)<;>omega))
def KC(s:ag)(k:Nat):bE:=.cells 1<|((s.take k).map λb=>I.int .i32 ((b.toNat:Int)+1114112))++List.replicate (s.length-k) (I.int .i32 0)
theorem Wk(s:ag)(hs:s.length<=1073741824)(H:ab):aM prog 191 [.str s] H (.sl false<|(hQ s).map j8):=by
 refine aZ func191 ?_;have J:=Wp s hs;unfold hQ;cases O:tp s with
 |some l=>
  rw[O]at J;simp only[GM]at J;repeat' first|(refine ae ?_;simp only[go_sem])|refine ao ?_|fail
  exact BG (.sl _ _ λe he=>by obtain⟨x,_,rfl⟩:=bJ.1 he;exact .int _ _)<|.refl _
 |none=>
  rw[O]at J;simp only[GM]at J;repeat' first|(refine ae ?_;simp only[go_sem])|refine ao ?_|fail
  refine cE (ι:=Nat) (λk=>[(0,.str s),(3,.osl 1 H.length 1 0 k s.length),(17,.int .i64 s.length),(18,.int .i64 k)]) (λk=>H++[KC s k]) (λk=>k<=s.length) (λk=>s.length-k) 0 (bW _) ?_ (by simp[KC,Od]) ?_
  ·simp[go_sem]
  intro k hk;by_cases U:k<s.length
  ·have K:decide ((k:Int)<(s.length:Int))=true:=cK;have V:s.getD k 0=s[k]:=by simp[et,U]
   have aa:=s[k].toNat_lt;have Z:IntKind.i32.wrap ((s[k].toNat:Nat):Int)=((s[k].toNat:Nat):Int):=by simp[IntKind.wrap,IntKind.bits,IntKind.signed];omega
   have z:IntKind.i32.wrap (1114111+((s[k].toNat:Nat):Int))=1114111+((s[k].toNat:Nat):Int):=by simp[IntKind.wrap,IntKind.bits,IntKind.signed];omega
   have xn:IntKind.i32.wrap (1114111+((s[k].toNat:Nat):Int)+1)=((s[k].toNat:Nat):Int)+1114112:=by simp[IntKind.wrap,IntKind.bits,IntKind.signed];omega
   have RU:IntKind.i64.wrap ((k:Int)+1)=((k+1:Nat):Int):=aGm iV iV
   have aN:(k=s.length)=False:=x5 iV
   obtain⟨m,hm⟩:∃m,s.length-k=m+1:=⟨s.length-k-1,iV⟩
   have qj:s.length-(k+1)=m:=iV
   have T:=MY ((s.take k).map λb=>I.int .i32 ((b.toNat:Int)+1114112)) m (.int .i32 0)<|.int .i32 ((s[k].toNat:Int)+1114112)
   rw[cv,eK,uX hk]at T;have aJ:(∀e,e=I.int .i32 ((s[k].toNat:Int)+1114112)->e.cells.length=1)=True:=b5 λe he=>by rw[he];rfl
   unfold KC;rw[hm];repeat' first|(refine ae ?_;simp only[go_sem,K,V,Z,z,xn,RU,aN,aJ,me,T])|refine ao ?_|fail
   exact⟨k+1,U,iV,⟨rfl,rfl⟩,by rw[qj,fj U,nQ,dr];rfl⟩
  ·have kn:k=s.length:=iV
   subst kn;have K:decide ((s.length:Int)<(s.length:Int))=false:=kk
   unfold KC;repeat' first|(refine ae ?_;simp only[go_sem,K])|refine ao ?_|fail
   rw[eG];exact uH (es:=(s.map λb=>((b.toNat:Int)+1114112)).map j8) (rest:=List.replicate (s.length-s.length)<|I.int .i32 0) (bd _) (by simp only[go_sem];rfl) (by rw[Nat.sub_self,List.replicate_zero];congr 1;rw[sG,Gf];exact List.map_eq_flatMap ..) kk (λe he=>by obtain⟨c,_,rfl⟩:=bJ.1 he;rfl) (λe he=>by obtain⟨c,_,rfl⟩:=bJ.1 he;exact .int _ _) rfl
theorem aIz(aO bo:Bool)(l m:List Int)(H:ab):aM prog 190 [.sl aO (l.map j8),.sl bo<|m.map j8] H (.int .i64<|il l m):=by
 refine po λZ _=>?_
 have hl:=oi Z;rw[cv]at hl;refine aZ func190 ?_;obtain⟨X,V⟩:∃X,il l m=X:=⟨_,rfl⟩;rw[V];repeat' first|(refine ae ?_;simp only[go_sem])|refine ao ?_|fail
 refine cE (ι:=Nat) (λk=>[(0,.sl aO<|l.map j8),(1,.sl bo<|m.map j8),(9,.sl aO<|l.map j8),(10,.int .i64 l.length),(11,.int .i64 k)]) (λ_=>H) (λk=>k<=l.length/\k<=m.length/\il (l.drop k) (m.drop k)=X) (λk=>l.length-k) 0 ⟨bW _,bW _,by simpa using V⟩ ?_ rfl ?_
 ·simp[go_sem]
 rintro k ⟨h1,h2,h3⟩;by_cases O:k<l.length
 ·have U:decide ((k:Int)<(l.length:Int))=true:=cK;have ad:=di j8 O;have hw:IntKind.i64.wrap ((k:Int)+1)=((k+1:Nat):Int):=by rw[bI];rfl
  rw[ij O]at h3;by_cases hm:k<m.length
  ·have J:decide ((m.length:Int)<=(k:Int))=false:=cQ;have aJ:=di j8 hm;have I:=aKl l[k] m[k];rw[ij hm,il]at h3;by_cases K:zM l[k] m[k]=0
   ·have T:decide (zM l[k] m[k]=0)=true:=cD K;have:¬l[k]<m[k]/\¬m[k]<l[k]:=by unfold zM at K;(repeat' split at K)<;>omega
    rw[aj this.1,aj this.2]at h3;repeat' first|(refine ae ?_;simp only[go_sem,U,J,ad,aJ,T,hw,j8])|refine ao ?_|fail
    exact⟨k+1,⟨O,hm,h3⟩,iV,rfl⟩
   ·have T:decide (zM l[k] m[k]=0)=false:=bN K;have:zM l[k] m[k]=X:=by rw[<-h3];unfold zM at K ⊢;(repeat' split)<;>first|rfl|omega
    repeat' first|(refine ae ?_;simp only[go_sem,U,J,ad,aJ,T,j8])|refine ao ?_|fail
    exact bD<|.of (by rw[this])
  ·have J:decide ((m.length:Int)<=(k:Int))=true:=cK;rw[show m.drop k=[]from JX iV,il]at h3
   repeat' first|(refine ae ?_;simp only[go_sem,U,J,ad,j8])|refine ao ?_|fail
   exact bD<|.of (by rw[<-h3])
 ·have U:decide ((k:Int)<(l.length:Int))=false:=cQ;rw[show l.drop k=[]from JX iV]at h3
  by_cases hm:l.length<m.length
  ·have J:decide ((l.length:Int)<(m.length:Int))=true:=cK;rw[ij (show k<m.length by omega),il]at h3
   repeat' first|(refine ae ?_;simp only[go_sem,U,J])|refine ao ?_|fail
   exact bD<|.of (by rw[<-h3])
  ·have J:decide ((l.length:Int)<(m.length:Int))=false:=cQ;rw[show m.drop k=[]from JX iV,il]at h3
   repeat' first|(refine ae ?_;simp only[go_sem,U,J])|refine ao ?_|fail
   exact bD<|.of (by rw[<-h3])
theorem Wl(a b:ag)(J:a.length<=1073741824)(U:b.length<=1073741824)(H:ab):aM prog 150 [.str a,.str b] H (.bool<|lQ a b):=by
 refine aZ func150 ?_;have h1:=Wk a J;have h2:=Wk b U;have h3:=aIz false false (hQ a)<|hQ b;repeat' first|(refine ae ?_;simp only[go_sem])|refine ao ?_|fail
 exact bD<|.refl _
theorem aLk(a b:ag)(J:a.length<=1073741824)(U:b.length<=1073741824)(H:ab):aM prog 149 [.str a,.str b] H (.int .i64<|Lm a b):=by
 refine aZ func149 ?_;have h1:=Wl a b J U;have h2:=Wl b a U J;unfold Lm;repeat' first|(refine ae ?_;simp only[go_sem])|refine bt ?_|(refine bB ?_ ?_<;>intro h<;>try exact bA h)|fail
 all_goals exact bD<|.of oE
end Go.Proofs.YtnmamncmpklliaaGreatDoor
