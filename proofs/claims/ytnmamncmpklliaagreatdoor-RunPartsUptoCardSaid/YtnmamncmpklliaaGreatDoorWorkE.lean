/- What functions answer. No condition. -/
import Derived.Test.YtnmamncmpklliaaGreatDoorWorkD
import Derived.Lib.MapLaws
import Derived.Sort.AssemblyPlain
import Derived.Shelf.SlSortCmp.Whole1
set_option linter.unusedSimpArgs false
set_option linter.unusedVariables false
set_option linter.unusedSectionVars false
set_option maxRecDepth 100000
set_option maxHeartbeats 16000000
namespace Go.Proofs.YtnmamncmpklliaaGreatDoor
variable{a b:List Int}{c:Ctx}{g:hq}{k i v:Nat}{H:ab}
open Go.Proofs.Tryz
def iF:List Int->List Int->Int
 |[],[]=>0
 |[],(_::_)=> -1
 |_::_,[]=>1
 |x::xs,y::ys=>if x<y then-1 else if y<x then 1 else iF xs ys
def hT(s:al):List Int:=match tA s with
 |some l=>l
 |none=>s.map λb=>((b.toNat:Int)+1114112)
def lR(a b:al):Bool:=decide<|iF (hT a) (hT b)<0
theorem JU(a b:List Int):iF a b= -1\/iF a b=0\/iF a b=1:=by induction a generalizing b<;>grind [iF,List,Int]
theorem Pz(h:iF a b=0):a=b:=by
 induction a generalizing b with
 |nil=>grind [iF,List,Int]
 |cons x a J=>
  cases b with
  |nil=>simp[iF]at h
  |cons y b=>grind [iF]
theorem aGm(a):iF a a=0:=by
 induction a with
 |nil=>rfl
 |cons x a J=>rw[iF,ar gf,ar gf,J]
theorem NX(a b):iF b a= -iF a b:=by induction a generalizing b<;>grind [iF,List,Int]
theorem Ve{c:List Int}(h:iF a b= -1)(k:iF b c= -1):iF a c= -1:=by
 induction a generalizing b c with
 |nil=>grind [iF,List,Int]
 |cons x a J=>
  cases b with
  |nil=>simp[iF]at h
  |cons y b=>
   cases c with
   |nil=>simp[iF]at k
   |cons z c=>rw[iF]at h k ⊢;grind
theorem TX(s:al)(pos):jK s pos=Lib.decodeL (s.drop pos):=(Lib.decodeL_drop ⟨s.toArray⟩ pos).symm
theorem aMs{l:al}(h:wF [239,191,189] l=true):Lib.decodeL l=(65533,3):=by
 unfold wF at h;simp only[dp,iK]at h;obtain⟨h1,h2⟩:=h
 match l,h1,h2 with
 |a::b::c::r,h1,h2=>obtain⟨rfl,rfl,rfl⟩:=h2;simp[Lib.decodeL_N,Lib.decodeN,]
theorem aD8(s):∀(k pos) (l),mX s k pos=some l->s.drop pos=l.flatMap Lib.encodeRune/\∀x∈l,x<=1114111:=by
 intro k;induction k with
 |zero=>simp[mX,]
 |succ k T=>
  intro pos l h;unfold mX at h;split at h
  ·rename_i av;split at h
   ·rename_i U;cases K:mX s k (pos+(jK s pos).2)with
    |none=>rw[K]at h;cases h
    |some r=>
     rw[K,vj]at h;obtain⟨ax,V⟩:=T _ _ K;cases h;have Z:s.drop pos≠[]:=by rw[Ne,List.drop_eq_nil_iff];omega
     have I:¬((Lib.decodeL (s.drop pos)).1=65533/\(Lib.decodeL (s.drop pos)).2=1):=by
      rintro⟨z,O⟩;rcases U with U|U
      ·rw[TX,z]at U;simp at U
      ·rw[aMs U]at O;cases O
     have S:=Lib.encode_decode _ Z I;rw[<-TX]at S;refine⟨?_,λx J=>?_⟩
     ·rw[nj,S,<-ax,<-ym,sF]
     ·rcases db.1 J with rfl|J
      ·have:=Lib.decodeL_rune<|s.drop pos;rw[<-TX]at this;omega
      ·exact V x J
   ·cases h
  simp_all
theorem NR{s:al}{l:List Int}(h:tA s=some l):s=l.flatMap Lib.encodeRune/\∀x∈l,x<=1114111:=aD8 s _ 0 l h
theorem aE9{a b:al}(h:hT a=hT b):a=b:=by
 have K:∀{s:al} {l:List Int},tA s=none->(∀x∈l,x<=1114111)->(s.map λb=>((b.toNat:Int)+1114112))≠l:=by
  intro s l hs hl he;cases s with
  |nil=>cases hs
  |cons c s=>
   have:=hl (c.toNat+1114112)<|by rw[<-he];simp
   omega
 unfold hT at h;cases U:tA a with
 |some l=>
  obtain⟨ax,O⟩:=NR U;cases J:tA b with
  |some m=>rw[U,J]at h;rw[ax,(NR J).1];exact b7 _ h
  |none=>grind
 |none=>
  cases J:tA b with
  |some m=>rw[U,J]at h;exact absurd h<|K U (NR J).2
  |none=>rw[U,J]at h;simp only at h;refine(List.map_inj_right λx y S=>?_).1 h;have:x.toNat=y.toNat:=gf;exact UInt8.toNat_inj.1 this
theorem Eu:Sort.SWO lR where
 irrefl:=λx=>by simp[lR,aGm]
 trans:=λx y z h k=>by
  unfold lR at *;rw[iK]at *;have h1:=JU (hT x)<|hT y;have h2:=JU (hT y)<|hT z;rw[Ve (show iF (hT x) (hT y)= -1 by omega) (show iF (hT y) (hT z)= -1 by omega)]
  omega
 ntrans:=λx y z h k=>by
  unfold lR at *;rw[wY]at *;intro q;have h1:=JU (hT x)<|hT y;have h2:=JU (hT y)<|hT z;have h3:=JU (hT x)<|hT z;have J:=NX (hT x)<|hT y;have a2:=NX (hT y)<|hT z;rcases h1 with h1|h1|h1
  ·omega
  ·rw[Pz h1]at q;omega
  ·rcases h2 with h2|h2|h2
   ·omega
   ·rw[<-Pz h2]at q;omega
   ·have:=Ve (show iF (hT z) (hT y)= -1 by omega)<|show iF (hT y) (hT x)= -1 by omega
    have a3:=NX (hT x)<|hT z;omega
theorem aGn{x y:al}(h:lR x y=false)(k:lR y x=false):x=y:=by unfold lR at *;rw[wY]at *;have:=NX (hT x)<|hT y;exact aE9<|Pz gf
def qH(l:List al):List al:=l.mergeSort λx y=> !lR y x
theorem aK5(a b c):(!lR b a)=true->(!lR c b)=true->(!lR c a)=true:=by simp;exact λh k=>Eu.ntrans c b a k h
theorem aJt(a b):((!lR b a)||(!lR a b))=true:=by
 cases h:lR b a with
 |false=>rfl
 |true=>
  cases k:lR a b with
  |false=>rfl
  |true=>have:=Eu.trans _ _ _ h k;rw[Eu.irrefl]at this;cases this
theorem Gx(l):(qH l).Perm l:=List.mergeSort_perm ..
theorem aD9(l):(qH l).Pairwise λx y=>(!lR y x)=true:=List.pairwise_mergeSort aK5 aJt l
theorem aK6{a l:List al}(hs:a.Pairwise λx y=>(!lR y x)=true)(ad:a.Perm l):a=qH l:=
 List.Perm.eq_of_pairwise (λx y _ _ h k=>aGn j9 j9) hs (aD9 l) (ad.trans (Gx l).symm)
structure eS where
 path:al
 id:Int
 data:al
deriving DecidableEq,Inhabited
def dM(x:eS):I:=.agg [.str x.path,.int .i64 x.id,.str x.data]
@[go_sem] theorem aWU(x:eS):b9 (dM x)=True:=by simp[dM,go_sem]
def yD(l:List aH)(dir:Int):List al:=if cG l=true then qH ((fA l dir).map (·.1))else[]
def Ao(l:List aH)(dir:Int):List Int:=dir::n4 l dir
def Br(l:List aH)(out:List Int):Nat->Int->al->List eS
 |0,_,_=>[]
 |k+1,dir,path=>(qH (((fA l dir).filter λp=> !out.contains p.2.id).map (·.1))).flatMap λs=>match hA s (fA l dir)with
  |some n=>⟨path++(47::s),n.id,n.data⟩::(if dv n.id=true then Br l out k n.id (path++(47::s))else[])
  |none=>[]
def jz(l:List aH)(dir:Int):List eS:=if cG l=true then Br l (Ao l dir) (l.length+1) dir []else[]
def zh(p:al)(l:List eS):Option eS:=l.reverse.find? λx=>decide<|x.path=p
def ke(is:List eS)(t:eS):Bool:=match zh t.path is with|some n=> !decide (n.id=t.id)|none=>true
def o6(b5:List eS)(t:eS):Bool:=match zh t.path b5 with|some o=>decide (o.id=t.id)&& !decide (o.data=t.data)|none=>false
def xj(b5 is:List eS):List e7:=
 ((b5.reverse.filter (ke is)).map λt=>⟨1,t.path⟩)++((is.filter (ke b5)).map λt=>⟨2,t.path⟩)++((is.filter (o6 b5)).map λt=>⟨3,t.path⟩)
def ox(e:List e7)(over:Bool)(l:List e7):List e7×Bool:=
 if over=true then(e,true)else if 8-e.length<l.length then(e++l.take (8-e.length)++[⟨9,[]⟩],true)else(e++l,false)
structure Ec where
 n:Int
 nodes:List aH
deriving DecidableEq,Inhabited
structure o5 where
 n:Int
 dir:Int
 b2:List e7
 over:Bool
deriving DecidableEq,Inhabited
structure di where
 log:hq
 seen:Int
 rep:Int
 dh:List Ec
 cq:List o5
 next:Int
deriving DecidableEq,Inhabited
def jj(s:Ec):I:=.agg [.int .i64 s.n,.sl false<|s.nodes.map bj]
def dY(w:o5):I:=.agg [.int .i64 w.n,.int .i64 w.dir,.sl false<|w.b2.map dt,.bool w.over]
def tr(e n s w:I)(m:di):I:=.agg [e,n,.int .i64 m.seen,.int .i64 m.rep,s,w,.int .i64 m.next]
def lf(f1 f2 f3 f4:Bool)(m:di):I:=tr (.sl f1<|m.log.entries.map dT) (.sl f2<|m.log.nodes.map bj) (.sl f3<|m.dh.map jj) (.sl f4<|m.cq.map dY) m
@[go_sem] theorem aWV(x:Ec):b9 (jj x)=True:=by simp only[jj,go_sem]
@[go_sem] theorem aWW(x:o5):b9 (dY x)=True:=by simp only[dY,go_sem]
@[go_sem] theorem aWX(f1 f2 f3 f4:Bool)(x:di):b9 (lf f1 f2 f3 f4 x)=True:=by simp only[lf,tr,go_sem]
def xW:di:=⟨⟨[],[]⟩,0,0,[],[],0⟩
def oQ(a b:Int)(d:Bool):Int:=if pC a b=true then 128 * a+2 * b+(if d then 1 else 0)else-1
def x9(a b:Int):Bool:=decide (0<=a)&&decide (a<1048576)&&decide (0<=b)&&decide (b<=63)
theorem KA{a b:Int}:x9 a b=true↔0<=a/\a<1048576/\0<=b/\b<=63:=by simp[x9,and_assoc]
def mK(n:Int)(s:lu):Int:=if pC s.c s.r=true then max n s.c else n
def oS(n:Int)(first:Bool):al->Option (Int×al)
 |[]=>none
 |x::r=>if(first&&decide ((x.toNat:Int)=128)||decide (72057594037927935<n))=true then none
  else if(x.toNat:Int)<128 then some (n * 128+x.toNat,r)else oS (n * 128+((x.toNat:Int)-128)) false r
def dS(b:al):Option (Int×al):=oS 0 true b
def ix(b:al):Option (al×al):=match dS b with
 |none=>none
 |some (n,r)=>if(r.length:Int)<n then none else some (r.take n.toNat,r.drop n.toNat)
def pB(b:al):Option (bk×al):=
 (dS b).bind fun(c,aW)=>(dS aW).bind fun(r,bA)=>(dS bA).bind fun(k,iv)=>(dS iv).bind fun(dg,iO)=>
  if k=1 then(dS iO).bind fun(p,mr)=>(ix mr).bind fun(t,pO)=>if cp ⟨⟨c,r⟩,k,dg,p,t,[]⟩=true then some (⟨⟨c,r⟩,k,dg,p,t,[]⟩,pO)else none
  else(ix iO).bind fun(t,pO)=>if cp ⟨⟨c,r⟩,k,dg,0,[],t⟩=true then some (⟨⟨c,r⟩,k,dg,0,[],t⟩,pO)else none
def oW:Nat->al->Option (List bk)
 |0,b=>if b=[]then some []else none
 |k+1,b=>if b=[]then some []else(pB b).bind fun(o,r)=>(oW k r).map (o::·)
def jC(b:al):Option (List bk):=oW b.length b
structure cB where
 m:di
 a:om
 ops:List bk
deriving DecidableEq,Inhabited
def gJ(m:di):lu×Int:=if x9 m.seen m.rep=false then(nD,20)else if(200:Int)<=(m.log.entries.length:Int)then(nD,193)else(⟨m.seen+1,m.rep⟩,0)
def oj(d:cB)(o:bk):Int×cB:=if nG d.m.log o=0 then(0,{d with m:={d.m with log:=fo d.m.log o},ops:=d.ops++[o]})else(nG d.m.log o,d)
def sR(d:cB)(o:bk):Int×cB:=
 if(gJ d.m).2=0 then
  (if(oj d {o with at_:=(gJ d.m).1}).1=0 then(0,{(oj d {o with at_:=(gJ d.m).1}).2 with m:={(oj d {o with at_:=(gJ d.m).1}).2.m with seen:=(gJ d.m).1.c}})
  else oj d {o with at_:=(gJ d.m).1})
 else((gJ d.m).2,d)
def qe(m:di)(h:Int):Option (List aH):=if h=0 then some m.log.nodes else(m.dh.find? λs=>decide<|s.n=h).map (·.nodes)
def ft(l:List aH)(p:al):Int×Int:=match gD p with
 |none=>(0,10)
 |some ca=>fp l ca
def jn(l:List aH)(p:al):Int×al×Int:=match gD p with
 |none=>(0,[],10)
 |some []=>(0,[],194)
 |some (x::xs)=>if(fp l (x::xs).dropLast).2=0 then(if dv (fp l (x::xs).dropLast).1=true then((fp l (x::xs).dropLast).1,(x::xs).getLast hW,0)else(0,[],81))else(0,[],(fp l (x::xs).dropLast).2)
def Am(c:cg)(d:cB):Int×cB:=
 if c.path=[47]then(194,d)else
 if(jn d.m.log.nodes c.path).2.2=0 then
  (if(fz d.m.log.nodes (jn d.m.log.nodes c.path).1 (jn d.m.log.nodes c.path).2.1).isSome=true then(190,d)else
   if(gJ d.m).2=0 then sR d ⟨nD,1,oQ (gJ d.m).1.c (gJ d.m).1.r<|decide (c.kind=1),(jn d.m.log.nodes c.path).1,(jn d.m.log.nodes c.path).2.1,[]⟩else((gJ d.m).2,d))
 else((jn d.m.log.nodes c.path).2.2,d)
def Aa(c:cg)(d:cB):Int×cB:=
 if(ft d.m.log.nodes c.path).2=0 then(if dv (ft d.m.log.nodes c.path).1=true then(82,d)else sR d ⟨nD,2,(ft d.m.log.nodes c.path).1,0,[],c.data⟩)
 else((ft d.m.log.nodes c.path).2,d)
def EA(c:cg)(d:cB):Int×cB:=match qe d.m c.n with
 |none=>(191,d)
 |some l=>if(ft l c.path).2=0 then(if dv (ft l c.path).1=true then(82,d)else(0,{d with a:={d.a with data:=((z6 l (ft l c.path).1).getD uU).data}}))else((ft l c.path).2,d)
def Gl(c:cg)(d:cB):Int×cB:=match qe d.m c.n with
 |none=>(191,d)
 |some l=>if(ft l c.path).2=0 then(if dv (ft l c.path).1=true then(0,{d with a:={d.a with names:=yD l (ft l c.path).1}})else(81,d))else((ft l c.path).2,d)
def Ad(c:cg)(d:cB):Int×cB:=
 if c.path=[47]\/c.to=[47]then(194,d)else
 if(ft d.m.log.nodes c.path).2=0 then
  (if(jn d.m.log.nodes c.to).2.2=0 then
   (if(fz d.m.log.nodes (jn d.m.log.nodes c.to).1 (jn d.m.log.nodes c.to).2.1).isSome=true then(190,d)else
    if(jn d.m.log.nodes c.to).1=(ft d.m.log.nodes c.path).1\/(n4 d.m.log.nodes (jn d.m.log.nodes c.to).1).contains (ft d.m.log.nodes c.path).1=true then(192,d)
    else sR d ⟨nD,1,(ft d.m.log.nodes c.path).1,(jn d.m.log.nodes c.to).1,(jn d.m.log.nodes c.to).2.1,[]⟩)
  else((jn d.m.log.nodes c.to).2.2,d))
 else((ft d.m.log.nodes c.path).2,d)
def BA(c:cg)(d:cB):Int×cB:=
 if c.path=[47]then(194,d)else
 if(ft d.m.log.nodes c.path).2=0 then
  (match gD c.path with
  |some (x::xs)=>sR d ⟨nD,1,(ft d.m.log.nodes c.path).1,2,(x::xs).getLast hW,[]⟩
  |_=>(194,d))
 else((ft d.m.log.nodes c.path).2,d)
def ET(d:cB):Int×cB:=
 if(8:Int)<=(d.m.dh.length:Int)then(193,d)else(0,{d with a:={d.a with n:=d.m.next},m:={d.m with dh:=d.m.dh++[⟨d.m.next,d.m.log.nodes⟩],next:=IntKind.i64.wrap (d.m.next+1)}})
def EU(c:cg)(d:cB):Int×cB:=
 if(!(d.m.dh.any λs=>decide<|s.n=c.n)&& !(d.m.cq.any λw=>decide<|w.n=c.n))=true then(191,d)
 else(0,{d with m:={d.m with dh:=d.m.dh.filter λs=> !decide (s.n=c.n),cq:=d.m.cq.filter (λw=> !decide (w.n=c.n))}})
def EK(c:cg)(d:cB):Int×cB:=
 if(ft d.m.log.nodes c.path).2=0 then
  (if dv (ft d.m.log.nodes c.path).1=true then
   (if(8:Int)<=(d.m.cq.length:Int)then(193,d)else(0,{d with a:={d.a with n:=d.m.next},m:={d.m with cq:=d.m.cq++[⟨d.m.next,(ft d.m.log.nodes c.path).1,[],false⟩],next:=IntKind.i64.wrap (d.m.next+1)}}))
  else(81,d))
 else((ft d.m.log.nodes c.path).2,d)
def vy(n:Int):List o5->List o5
 |[]=>[]
 |w::l=>if w.n=n then{w with b2:=[]}::l else w::vy n l
def EV(c:cg)(d:cB):Int×cB:=match d.m.cq.find? λw=>decide (w.n=c.n)with
 |none=>(191,d)
 |some w=>(0,{d with a:={d.a with events:=w.b2},m:={d.m with cq:=vy c.n d.m.cq}})
def gw(g:hq):List bk->List bk->List bk
 |acc,[]=>acc
 |acc,o::l=>gw g (if(!rq g.entries o.at_&& !(acc.any λf=>decide<|f.at_=o.at_))=true then acc++[o]else acc) l
def mR(d:cB):List bk->Int×cB
 |[]=>(0,d)
 |o::l=>if(oj d o).1=0 then mR (oj d o).2 l else oj d o
def Cj(c:cg)(d:cB):Int×cB:=match jC c.data with
 |none=>(50,d)
 |some l=>
  if(200:Int)<(d.m.log.entries.length:Int)+((gw d.m.log [] l).length:Int)then(193,d)else
  if(mR d (gw d.m.log [] l)).1=0 then
   (0,{(mR d (gw d.m.log [] l)).2 with a:={(mR d (gw d.m.log [] l)).2.a with n:=(gw d.m.log [] l).length},m:={(mR d (gw d.m.log [] l)).2.m with seen:=l.foldl (λn o=>mK n o.at_) d.m.seen}})
  else mR d (gw d.m.log [] l)
def jD(c:cg)(d:cB):Int×cB:=
 if c.kind=1\/c.kind=2 then Am c d else if c.kind=3 then Aa c d else if c.kind=4 then EA c d else if c.kind=5 then Ad c d else if c.kind=6 then BA c d
 else if c.kind=7 then Gl c d else if c.kind=8 then ET d else if c.kind=9 then EU c d else if c.kind=10 then EK c d else if c.kind=11 then EV c d
 else if c.kind=12 then(0,d)else Cj c d
def QK(b5 is:List aH)(w:o5):o5:={w with b2:=(ox w.b2 w.over (xj (jz b5 w.dir)<|jz is w.dir)).1,over:=(ox w.b2 w.over (xj (jz b5 w.dir)<|jz is w.dir)).2}
def Ap(b5:List aH)(d:cB):cB:={d with m:={d.m with cq:=d.m.cq.map (QK b5 d.m.log.nodes)}}
theorem PA{n:Int}{d:Nat}(ay:0<=n)(h1:n<=72057594037927935)(hd:d<128):eg .or .i64 (n * 128) (d:Int)=n * 128+d:=by
 obtain⟨m,rfl⟩:∃m:Nat,n=m:=⟨n.toNat,gf⟩;have ax:BitVec.ofInt 64 ((m:Int) * 128)=BitVec.ofNat 64 (m * 128):=by rw[show((m:Int) * 128)=((m * 128:Nat):Int) by omega];exact KT ..
 have J:BitVec.ofInt 64 (d:Int)=BitVec.ofNat 64 d:=KT ..;show IntKind.i64.wrap ((BitVec.ofInt 64 ((m:Int) * 128)|||BitVec.ofInt 64 (d:Int)).toNat:Int)=_
 rw[ax,J,BitVec.toNat_or,Ha,Ha,Hk gf,Hk gf];have aU:=Nat.shiftLeft_add_eq_or_of_lt (b:=d) (i:=7) gf m;rw[Nat.shiftLeft_eq]at aU;rw[show m * 128=m * 2 ^ 7 by omega,<-aU,bS]
 omega
theorem aG8{d:Nat}(h1:128<=d)(hd:d<256):eg .and .i64 (d:Int) 127=((d-128:Nat):Int):=by
 have J:BitVec.ofInt 64 (d:Int)=BitVec.ofNat 64 d:=KT ..;have ax:BitVec.ofInt 64 (127:Int)=BitVec.ofNat 64 127:=rfl;show IntKind.i64.wrap ((BitVec.ofInt 64 (d:Int)&&&BitVec.ofInt 64 (127:Int)).toNat:Int)=_;rw[ax,J,BitVec.toNat_and,Ha,Ha,Hk gf,Hk gf];have aU:=Nat.and_two_pow_sub_one_eq_mod d 7;rw[show 127=2 ^ 7-1 by omega,aU,bS]
 omega
theorem aGo:∀(b:al) (n:Int) (f:Bool) (m:Int) (r:al),oS n f b=some (m,r)->r.length<b.length:=by
 intro b;induction b with
 |nil=>intro n f m r h;cases h
 |cons x b J=>
  intro n f m r h;rw[oS]at h;split at h
  ·cases h
  ·split at h
   ·cases h;simp
   ·have:=J _ _ _ _ h;rw[cd];omega
theorem hg{b:al}{m:Int}{r:al}(h:dS b=some (m,r)):r.length<b.length:=aGo _ _ _ _ _ h
theorem Up:∀(b:al) (n:Int) (f:Bool) (m:Int) (r:al),0<=n->oS n f b=some (m,r)->0<=m/\m<=9223372036854775807:=by
 intro b;induction b with
 |nil=>intro n f m r _ h;cases h
 |cons x b U=>
  intro n f m r ay h;have J:=x.toNat_lt;rw[oS]at h;split at h
  ·cases h
  ·rename_i K;simp only[Bool.or_eq_true,iK,not_or]at K;split at h
   ·cases h;omega
   ·exact U _ _ _ _ gf h
def sd(b:al):I:=match dS b with
 |none=>.aN [.int .i64 0,.str [],.int .i64 40]
 |some (n,r)=>.aN [.int .i64 n,.str r,.int .i64 0]
def wG(b:al):I:=match ix b with
 |none=>.aN [.str [],.str [],.int .i64 40]
 |some (t,r)=>.aN [.str t,.str r,.int .i64 0]
theorem xR(b:al)(aa:b.length<=1073741824)(H:ab):aO prog 99 [.str b] H (sd b):=by
 refine bg func99 ?_;repeat' first|(refine ae ?_;simp only[go_sem])|refine ai ?_|fail
 refine n8 (ι:=Int×Nat) (λs=>[(0,.str b),(2,.int .i64 0),(3,.str []),(4,.int .i64 0),(5,.int .i64 s.1),(6,.int .i64 s.2)]) (λ_=>H) (λs=>s.2<=b.length/\(s.2=0/\dS b=none\/0<s.2/\dS b=some (s.1,b.drop s.2))) ?_ fun⟨n,k⟩ hk=>?_
 ·refine c7 (ι:=Nat×Int) (λs=>[(0,.str b),(2,.int .i64 0),(3,.str []),(4,.int .i64 0),(5,.int .i64 s.2),(6,.int .i64 0),(10,.int .i64 b.length),(11,.int .i64 s.1)]) (λ_=>H)
   (λs=>s.1<=b.length/\0<=s.2/\dS b=oS s.2 (decide<|s.1=0) (b.drop s.1)) (λs=>b.length-s.1) (0,0) ⟨cb _,jU _,rfl⟩ ?_ rfl ?_
  ·simp[go_sem]
  rintro⟨i,n⟩ ⟨hi,af,ag⟩;simp only at hi af ag ⊢;by_cases U:i<b.length
  ·have ju:=ir U;rw[ju,oS]at ag;have J:=b[i].toNat_lt;have cA:b.getD i 0=b[i]:=by simp[U]
   obtain⟨x,T⟩:∃x,x=b[i].toNat:=⟨_,rfl⟩;rw[<-T]at ag J;have bl:decide ((i:Int)<(b.length:Int))=true:=cS;have Ni:IntKind.i64.wrap ((b[i].toNat:Nat):Int)=(x:Int):=by rw[<-T];exact bS
   have V:IntKind.i64.wrap ((i:Int)+1)=((i+1:Nat):Int):=eb U gf;obtain⟨K,yV⟩:∃D,decide (i=0)=D:=⟨_,rfl⟩;obtain⟨O,Z⟩:∃D,decide ((x:Int)=128)=D:=⟨_,rfl⟩;obtain⟨UB,S⟩:∃D,decide (72057594037927935<n)=D:=⟨_,rfl⟩;have rY:decide ((i:Int)=0)=K:=by rw[<-yV];exact decide_eq_decide.2 gf
   rw[yV,Z,S]at ag;have stop:dS b=none->∃y:Int×Nat,(y.2<=b.length/\(y.2=0/\dS b=none\/0<y.2/\dS b=some (y.1,b.drop y.2)))/\I.int .i64 n=I.int .i64 y.1/\I.int .i64 0=I.int .i64 y.2:=λh=>⟨(n,0),⟨cb _,.inl ⟨rfl,h⟩⟩,rfl,rfl⟩;cases UB with
   |true=>
    have hs:dS b=none:=by rw[ag];cases K<;>cases O<;>rfl
    cases K<;>cases O;all_goals
     repeat' first|(refine ae ?_;simp only[go_sem,cA,U,bl,Ni,rY,Z,S])|refine ai ?_|fail
     exact stop hs
   |false=>
    have z:n<=72057594037927935:=oC<|of_decide_eq_false S
    have uG:IntKind.i64.wrap (n * 2 ^ min 7 64)=n * 128:=by rw[show(2:Int) ^ min 7 64=128 by decide,bS]
    by_cases aj:K=true/\O=true
    ·obtain⟨rfl,rfl⟩:=aj;repeat' first|(refine ae ?_;simp only[go_sem,cA,U,bl,Ni,rY,Z,S])|refine ai ?_|fail
     exact stop ag
    ·have n2:dS b=if(x:Int)<128 then some (n * 128+x,List.drop (i+1) b)else oS (n * 128+(x-128)) false (List.drop (i+1) b):=by
      rw[ag];cases K<;>cases O<;>first|rfl|exact absurd ⟨rfl,rfl⟩ aj
     by_cases MA:(x:Int)<128
     ·have IT:decide ((x:Int)<128)=true:=dr MA;have Jk:=PA af z (d:=x) gf;rw[aC MA]at n2;have fin:∃y:Int×Nat,(y.2<=b.length/\(y.2=0/\dS b=none\/0<y.2/\dS b=some (y.1,b.drop y.2)))/\I.int .i64 (n * 128+x)=I.int .i64 y.1/\I.int .i64 ((i+1:Nat):Int)=I.int .i64 y.2:=⟨(n * 128+x,i+1),⟨U,.inr ⟨Nat.succ_pos _,n2⟩⟩,rfl,rfl⟩;cases K<;>cases O;all_goals first
       |exact absurd ⟨rfl,rfl⟩ aj
       |((repeat' first|(refine ae ?_;simp only[go_sem,cA,U,bl,Ni,rY,Z,S,IT,uG,Jk,V])|refine ai ?_|fail);exact fin)
     ·have IT:decide ((x:Int)<128)=false:=b0 MA;rw[ar MA]at n2;have yZ:=aG8 (d:=x) gf gf;have Jk:=PA af z (d:=x-128) gf;have fin:∃y:Nat×Int,(y.1<=b.length/\0<=y.2/\dS b=oS y.2 (decide<|y.1=0) (b.drop y.1))/\b.length-y.1<b.length-i/\I.int .i64 (n * 128+((x-128:Nat):Int))=I.int .i64 y.2/\I.int .i64 ((i+1:Nat):Int)=I.int .i64 y.1:=by
       refine⟨(i+1,n * 128+((x-128:Nat):Int)),⟨U,by simp only;omega,?_⟩,by simp only;omega,rfl,rfl⟩
       rw[n2];simp only[Nat.succ_ne_zero,Hh];rw[show((x-128:Nat):Int)=(x:Int)-128 by omega]
      cases K<;>cases O;all_goals first
       |exact absurd ⟨rfl,rfl⟩ aj
       |((repeat' first|(refine ae ?_;simp only[go_sem,cA,U,bl,Ni,rY,Z,S,IT,uG,yZ,Jk,V])|refine ai ?_|fail);exact fin)
  ·have eI:i=b.length:=gf;subst eI;rw[qD,oS]at ag;repeat' first|(refine ae ?_;simp only[go_sem,U])|refine ai ?_|fail
   exact⟨(n,0),⟨cb _,.inl ⟨rfl,ag⟩⟩,⟨rfl,rfl⟩⟩
 simp only at hk ⊢;obtain⟨nW,⟨rfl,ag⟩|⟨ay,ag⟩⟩:=hk
 ·unfold sd;rw[ag];repeat' first|(refine ae ?_;simp only[go_sem])|refine ai ?_|fail
  exact bJ<|.refl _
 ·unfold sd;rw[ag];have hd:decide ((k:Int)=0)=false:=dA;have aPI:(k<=b.length)=True:=b1 nW;repeat' first|(refine ae ?_;simp only[go_sem,hd,aPI])|refine ai ?_|fail
  exact bJ<|.refl _
theorem zj(b:al)(O:b.length<=1073741824)(H:ab):aO prog 101 [.str b] H (wG b):=by
 refine bg func101 ?_;have ag:=xR b O;unfold sd at ag;unfold wG ix;cases U:dS b with
 |none=>
  simp only[U]at ag;repeat' first|(refine ae ?_;simp only[go_sem])|refine ai ?_|fail
  exact bJ<|.refl _
 |some p=>
  obtain⟨n,r⟩:=p;simp only[U]at ag;have af:=Up _ _ _ _ _ (jU 0) U;by_cases J:(r.length:Int)<n
  ·have hd:decide ((r.length:Int)<n)=true:=dr J;simp only[aC J];repeat' first|(refine ae ?_;simp only[go_sem,hd])|refine ai ?_|fail
   exact bJ<|.refl _
  ·have hd:decide ((r.length:Int)<n)=false:=b0 J;simp only[ar J];obtain⟨k,rfl⟩:∃k:Nat,n=k:=⟨n.toNat,gf⟩;have K:(k<=r.length)=True:=b1 gf;repeat' first|(refine ae ?_;simp only[go_sem,hd,K])|refine ai ?_|fail
   exact bJ<|.refl _
def py(k:Int):Option Int:=if k=1\/k=2\/k=6\/k=10 then some 1 else if k=3 then some 5 else if k=4\/k=7 then some 9 else if k=5 then some 3 else if k=9\/k=11 then some 8 else if k=13 then some 4 else if k=8\/k=12 then some 0 else none
def yb(s:al):Bool:=(gD s).isSome
def ng(p part:Int)(r e:Bool):Bool:=if eg .and .i64 p part=0 then e else r
def kY(c:cg):Bool:=match py c.kind with
 |none=>false
 |some p=>ng p 1 (yb c.path) (decide<|c.path=[])&&(ng p 2 (yb c.to) (decide<|c.to=[])&&(ng p 4 (decide<|(c.data.length:Int)<=if c.kind=13 then 4000 else 64) (decide<|c.data=[])&&ng p 8 (decide<|0<=c.n) (decide<|c.n=0)))
theorem aJu(k:Int):k=1\/k=2\/k=6\/k=10\/k=3\/k=4\/k=7\/k=5\/k=9\/k=11\/k=13\/k=8\/k=12\/
  ((k=1)=False/\(k=2)=False/\(k=6)=False/\(k=10)=False/\(k=3)=False/\(k=4)=False/\(k=7)=False/\(k=5)=False/\(k=9)=False/\(k=11)=False/\(k=13)=False/\(k=8)=False/\(k=12)=False):=by
 simp only[eq_iff_iff,iff_false];omega
theorem PS(k:Int)(H:ab):aO prog 141 [.int .i64 k] H (.aN [.int .i64 ((py k).getD 0),.bool (py k).isSome]):=by
 refine bg func141 ?_;rcases aJu k with rfl|rfl|rfl|rfl|rfl|rfl|rfl|rfl|rfl|rfl|rfl|rfl|rfl|⟨h1,h2,h3,h4,O,S,T,V,Z,J,U,K,I⟩;iterate 13 focus ((repeat' first|(refine ae ?_;simp only[go_sem,Int.reduceEq])|refine ai ?_|fail);exact bJ<|.refl _)
 have z:∀m:Int,(k=m)=False->decide (k=m)=false:=λm h=>by simp[h]
 have lp:=z 1 h1;have z2:=z 2 h2;have z3:=z 6 h3;have z4:=z 10 h4;have z5:=z 3 O;have aZl:=z 4 S;have aZm:=z 7 T;have aZn:=z 5 V;have z9:=z 9 Z;have aZi:=z 11 J;have aZj:=z 13 U;have z12:=z 8 K;have aZk:=z 12 I;refine hH ?_;exact bJ<|.of (by simp[py,h1,h2,h3,h4,O,S,T,V,Z,J,U,K,I])
theorem Xj(s:al)(hs:s.length<=1048576)(H:ab):aO prog 143 [.str s] H (.bool<|yb s):=by
 refine bg func143 ?_;have h:=Hm s hs;unfold lB at h;unfold yb;cases af:gD s with
 |none=>
  simp only[af]at h;repeat' first|(refine ae ?_;simp only[go_sem,Int.reduceEq])|refine ai ?_|fail
  exact bJ<|.refl _
 |some l=>simp only[af]at h;refine hH ?_;exact bJ<|.refl _
theorem KB(p part:Int)(r e:Bool)(i:Nat)(G:ab)(U:az G i=.cells 0 [.int .i64 p]):aO prog 142 [.int .i64 part,.bool r,.bool e,.ref i 0 0] G (.bool<|ng p part r e):=by
 refine bg func142 ?_;unfold ng;by_cases h:eg .and .i64 p part=0
 ·rw[aC h];have J:decide (eg .and .i64 p part=0)=true:=dr h;refine hH ?_;exact bJ<|.refl _
 ·rw[ar h];have J:decide (eg .and .i64 p part=0)=false:=b0 h;refine hH ?_;exact bJ<|.refl _
theorem Ld(c:cg)(ad:c.path.length<=1048576)(ag:c.to.length<=1048576)(H:ab):aO prog 90 [cy c] H (.bool<|kY c):=by
 refine bg func90 ?_;have S:=PS c.kind;have h1:=Xj c.path ad;have h2:=Xj c.to ag;unfold kY;cases hk:py c.kind with
 |none=>simp only[hk,DO,DP]at S ⊢;refine bL cy.eq_1 ?_;exact aX<|.refl _
 |some p=>
  simp only[hk,o0,wX]at S ⊢;have f1:=KB p 1 (yb c.path) (decide (c.path=[])) (H.length+1) (H++[.cells 0 [.int .i64 c.kind,.str c.path,.str c.to,.str c.data,.int .i64 c.n],.cells 0 [.int .i64 p]]) mZ;have f2:=KB p 2 (yb c.to) (decide (c.to=[])) (H.length+1) (H++[.cells 0 [.int .i64 c.kind,.str c.path,.str c.to,.str c.data,.int .i64 c.n],.cells 0 [.int .i64 p]]) mZ;have f4:=KB p 8 (decide (0<=c.n)) (decide (c.n=0)) (H.length+1) (H++[.cells 0 [.int .i64 c.kind,.str c.path,.str c.to,.str c.data,.int .i64 c.n],.cells 0 [.int .i64 p]]) mZ;by_cases J:c.kind=13
  ·have hd:decide (c.kind=13)=true:=dr J;rw[aC J];have f3:=KB p 4 (decide ((c.data.length:Int)<=4000)) (decide (c.data=[])) (H.length+1) (H++[.cells 0 [.int .i64 c.kind,.str c.path,.str c.to,.str c.data,.int .i64 c.n],.cells 0 [.int .i64 p]]) mZ;generalize ng p 1 (yb c.path) (decide<|c.path=[])=U at *;generalize ng p 2 (yb c.to) (decide<|c.to=[])=K at *;generalize ng p 4 (decide<|(c.data.length:Int)<=4000) (decide<|c.data=[])=O at *;generalize ng p 8 (decide<|0<=c.n) (decide<|c.n=0)=T at *;cases U<;>cases K<;>cases O;all_goals(repeat' first|((first|refine AE f1 ?_|refine AE f2 ?_|refine AE f3 ?_|refine AE f4 ?_|refine ae ?_);simp only[go_sem,cy,hd])|refine ai ?_|fail)
   all_goals exact aX<|.refl _
  ·have hd:decide (c.kind=13)=false:=b0 J;rw[ar J];have f3:=KB p 4 (decide ((c.data.length:Int)<=64)) (decide (c.data=[])) (H.length+1) (H++[.cells 0 [.int .i64 c.kind,.str c.path,.str c.to,.str c.data,.int .i64 c.n],.cells 0 [.int .i64 p]]) mZ;generalize ng p 1 (yb c.path) (decide<|c.path=[])=U at *;generalize ng p 2 (yb c.to) (decide<|c.to=[])=K at *;generalize ng p 4 (decide<|(c.data.length:Int)<=64) (decide<|c.data=[])=O at *;generalize ng p 8 (decide<|0<=c.n) (decide<|c.n=0)=T at *;cases U<;>cases K<;>cases O;all_goals(repeat' first|((first|refine AE f1 ?_|refine AE f2 ?_|refine AE f3 ?_|refine AE f4 ?_|refine ae ?_);simp only[go_sem,cy,hd])|refine ai ?_|fail)
   all_goals exact aX<|.refl _
theorem aMt(a b:Int)(d:Bool)(H:ab):aO prog 298 [.agg [.int .i64 a,.int .i64 b],.bool d] H (.int .i64<|oQ a b d):=by
 refine bg func298 ?_;have J:=Du a b;unfold oQ;cases hk:pC a b with
 |false=>
  rw[hk]at J;repeat' first|(refine ae ?_;simp only[go_sem])|refine ai ?_|fail
  exact aX<|.refl _
 |true=>
  rw[hk]at J;have h:=vz.1 hk;have U:IntKind.i64.wrap (128 * a)=128 * a:=bS;have K:IntKind.i64.wrap (2 * b)=2 * b:=bS;have O:IntKind.i64.wrap (128 * a+2 * b)=128 * a+2 * b:=bS;have S:IntKind.i64.wrap (128 * a+2 * b+1)=128 * a+2 * b+1:=bS;cases d with
  |true=>refine hH ?_;exact aX<|.refl _
  |false=>refine hH ?_;exact aX<|.of hW
def Qc(a b:Int):I:=if x9 a b=true then .aN [.agg [.int .i64 (a+1),.int .i64 b],.int .i64 0]else .aN [.agg [.int .i64 0,.int .i64 0],.int .i64 20]
theorem aK7(a b:Int)(H:ab):aO prog 328 [.int .i64 a,.int .i64 b] H (Qc a b):=by
 refine bg func328 ?_;unfold Qc;by_cases h1:a<0
 ·have af:x9 a b=false:=by rw[<-yq,KA];omega
  have d1:decide (a<0)=true:=dr h1;rw[af];refine hH ?_;exact aX<|.refl _
 have d1:decide (a<0)=false:=b0 h1;by_cases h2:1048576<=a
 ·have af:x9 a b=false:=by rw[<-yq,KA];omega
  have d2:decide (1048576<=a)=true:=dr h2;rw[af];refine hH ?_;exact aX<|.refl _
 have d2:decide (1048576<=a)=false:=b0 h2;have hw:IntKind.i64.wrap (a+1)=a+1:=bS;have J:=Du (a+1) b;cases hk:pC (a+1) b with
 |false=>
  have af:x9 a b=false:=by rw[<-yq,KA];rw[<-yq,vz]at hk;omega
  rw[hk]at J;rw[af];refine hH ?_;exact aX<|.refl _
 |true=>
  have af:x9 a b=true:=by rw[KA];rw[vz]at hk;omega
  rw[hk]at J;rw[af];refine hH ?_;exact aX<|.refl _
theorem Y2(n:Int)(s:lu)(f:Bool)(H:ab):aO prog 40 [.int .i64 n,.sl f [.agg [.int .i64 s.c,.int .i64 s.r]]] H (.int .i64<|mK n s):=by
 refine bg func40 ?_;obtain⟨a,b⟩:=s;have hw:IntKind.i64.wrap (0+1)=1:=rfl;refine a7 ?_;refine sX 2 ?_;unfold pS;repeat' first|(refine ae ?_;simp only[go_sem])|refine ai ?_|fail
 have J:=Du a b;cases hk:pC a b with
 |false=>
  rw[hk]at J;repeat' first|(refine ae ?_;simp only[go_sem,hw])|refine ai ?_|fail
  exact aX<|.of (by unfold mK;rw[hk];rfl)
 |true=>
  rw[hk]at J;repeat' first|(refine ae ?_;simp only[go_sem,hw])|refine ai ?_|fail
  exact aX<|.of (by unfold mK;rw[hk];rfl)
theorem Wu(l)(es)(n):(fh l es n).1.map gr.op=es.map gr.op++l:=by
 induction l generalizing es n with
 |nil=>simp[fh]
 |cons o l J=>unfold fh;rw[J];simp
def Qd(g:hq)(o:bk):Nat:=g.entries.length-(je o.at_ g.entries.reverse g.nodes).1
theorem aG9(g:hq)(o:bk):dU (fo g o)=if cp o=false\/rq g.entries o.at_=true\/(200:Int)<=(g.entries.length:Int)then dU g
  else(dU g).take (Qd g o)++o::(dU g).drop (Qd g o):=by
 unfold fo dU;by_cases h1:cp o=false
 ·rw[aC h1,aC<|.inl h1]
 ·by_cases h2:rq g.entries o.at_=true
  ·rw[ar h1,aC h2,aC<|.inr (.inl h2)]
  ·by_cases h3:200<=(g.entries.length:Int)
   ·rw[ar h1,ar h2,aC h3,aC<|.inr (.inr h3)]
   ·rw[ar h1,ar h2,ar h3,ar j9,Wu];simp[Qd]
theorem Ex(g)(o):(fo g o).entries.length<=g.entries.length+1/\((fo g o).entries.length<=200\/(fo g o).entries.length=g.entries.length)/\(g.entries.length<=200->(fo g o).nodes.length<=g.nodes.length+401):=by
 unfold fo;split
 ·exact⟨gf,.inr rfl,λ_=>gf⟩
 ·split
  ·exact⟨gf,.inr rfl,λ_=>gf⟩
  ·split
   ·exact⟨gf,.inr rfl,λ_=>gf⟩
   ·have h2:=aGf o.at_ g.entries.reverse g.nodes;have h3:=WM (o::(g.entries.drop (g.entries.length-(je o.at_ g.entries.reverse g.nodes).1)).map gr.op) (g.entries.take<|g.entries.length-(je o.at_ g.entries.reverse g.nodes).1) (je o.at_ g.entries.reverse g.nodes).2;simp only[cd,dq,hp,gK]at h3;refine⟨j9,.inl (by simp only;omega),λh=>j9⟩
theorem Ym(g)(o)(P:bk->Prop)(h:∀e∈g.entries,P e.op)(K:P o):∀e∈(fo g o).entries,P e.op:=by
 intro e he;have h1:e.op∈dU (fo g o):=BF he;rw[aG9]at h1;have U:∀x∈dU g,P x:=λx J=>by obtain⟨O,S,rfl⟩:=bP.1 J;exact h O S
 split at h1
 ·exact U _ h1
 ·rw[fH,db]at h1;rcases h1 with h1|h1|h1
  ·exact U _<|yp h1
  ·rw[h1];exact K
  ·exact U _<|zJ h1
structure Fit (g:hq) (k:Nat):Prop where
 ops:∀e∈g.entries,hR e.op
 len:g.entries.length<=200
 nodes:g.nodes.length+401 * k<=1000000
theorem Fit.add(h:Fit g (k+1)){o:bk}(J:hR o):Fit (fo g o) k:=by have h1:=Ex g o;have h2:=h.len;have h3:=h.nodes;refine⟨Ym g o hR h.ops J,gf,?_⟩;omega
theorem Fit.all{l:List bk}(h:Fit g (l.length+k))(hl:∀o∈l,hR o):Fit (eX g l) k:=by
 induction l generalizing g with
 |nil=>exact⟨h.ops,h.len,by have:=h.nodes;simp at this;exact this⟩
 |cons o l U=>exact U (Fit.add ⟨h.ops,h.len,by have:=h.nodes;simp at this;omega⟩<|hl o hW) λx J=>hl x j9
theorem Fit.less{j:Nat}(h:Fit g k)(J:j<=k):Fit g j:=⟨h.ops,h.len,oC h.nodes⟩
theorem Fit.nil(k)(h:k<=2000):Fit ⟨[],[]⟩ k:=⟨hW,hW,j9⟩
theorem aHa(g)(a b):eX g (a++b)=eX (eX g a) b:=by
 induction a generalizing g with
 |nil=>rfl
 |cons o a J=>exact J _
theorem aHb(g:hq)(a b:List bk):oc g (a++b)=oc g a+oc (eX g a) b:=by
 induction a generalizing g with
 |nil=>simp[oc,eX]
 |cons o a J=>rw[mf,oc,oc,eX,J];omega
theorem aJv(g)(l):0<=oc g l/\oc g l<=l.length:=by
 induction l generalizing g with
 |nil=>simp[oc]
 |cons o l J=>have:=J<|fo g o;unfold oc;simp;split<;>omega
section
abbrev kV:={s:al // s.length<=1073741824}
instance:Inhabited kV:=⟨⟨[],hW⟩⟩
def pQ(d:Array kV):List I:=d.toList.map λx=>I.str x.1
theorem LC(d:Array kV):(pQ d).length=d.size:=by simp[pQ]
def wI(x:kV):Value:=.string ⟨x.1.toArray⟩
open Go.Sort Go.Shelf Go.Proofs
variable {P:Program}
theorem bm.more(U:bm c H)(w':World)(hs:c.w.heap.size<=w'.heap.size)(O:∀b,b<c.w.heap.size->w'.heap[b]?=c.w.heap[b]?)(V:w'.os=c.w.os)(ag:w'.tape=c.w.tape)(hd:c.w.drawn<=w'.drawn)(hu:w'.output=c.w.output):
  Ext c {c with w:=w'}/\bm {c with w:=w'} H:=by
 have J:Ext c {c with w:=w'}:=⟨bh _,hs,λb S=>⟨S,O b (U.st b S).1⟩,λ_ _=>bh _,λi hi _=>⟨rfl,rfl,λK=>by simp only[bsize];rw[O _ (U.lt i hi K)]⟩,V,⟨ag,hd⟩,hu,rfl⟩
 refine⟨J,U.j0.mono J,U.n,λi hi K=>tI (U.lt i hi K) hs,U.inj,λk hk=>⟨tI (U.st k hk).1 hs,(U.st k hk).2⟩,λi b hi=>?_⟩;have T:i<c.n:=by rw[U.n];exact(cu.1 hi).1
 exact(U.rep i b hi).mono J T (λ_ _ h=>h) rfl λK=>O _<|U.lt i T K
theorem Ext.grown{c':Ctx}(J:Ext c c')(U:∀b,b<c.w.heap.size->c.hb b):∃q os,c'.w=grow (c.w.drewN q) os:=by
 refine⟨c'.w.drawn-c.w.drawn,c'.w.heap.extract c.w.heap.size c'.w.heap.size,?_⟩;have h1:=J.os;have h2:=J.tape;have h3:=J.output;have h4:c'.w.heap=c.w.heap++c'.w.heap.extract c.w.heap.size c'.w.heap.size:=by
  apply Array.ext_getElem?
  intro k;rw[Array.getElem?_append];split
  ·rename_i h;exact(J.st k (U k h)).2
  ·rename_i h;rw[Array.getElem?_extract];have:=J.size;by_cases hk:k<c'.w.heap.size
   ·rw[aC gf];congr 1;omega
   ·rw[ar gf,KN gf]
 obtain⟨h2,K⟩:=h2;generalize c'.w=w' at *;obtain⟨ad,T,O,os,S⟩:=w';simp only at h1 h2 h3 h4 K ⊢;subst h1 h2 h3;simp only[grow,World.drewN];rw[<-h4];congr 1;omega
theorem aHc{g:Nat}{O:kV->kV->Int}(T:∀(a b:kV) (H:ab),aO P g [.str a.1,.str b.1] H (.int .i64<|O a b))(U:bm c H){B:Nat}(V:¬c.hb B)(av:B<c.w.heap.size)(n:Nat):
  CmpLays1 P g #[] wI O B 0 n c.w:=λm os Z _ x y=>by
 obtain⟨W,K⟩:∃W,sortWorld wI c.w B 0 m Z os=W:=⟨_,rfl⟩;have hsz:c.w.heap.size<=W.heap.size:=by rw[<-K];simp[sortWorld,grow,putRow,mapBlock,Sort.ahead]
 rw[K];have I:∀a:Addr,c.hb a.block->W.cell? a=c.w.cell? a:=λa S=>by
  have z:a.block≠B:=λe=>V<|e▸S
  rw[<-K];unfold sortWorld;rw[cell?_grow _ _ _ (by simpa[putRow,mapBlock,Sort.ahead]using(U.st _ S).1),cell?_putRow_other _ _ _ _ _ _<|.inl z]
  rfl
 have ay:bm (⟨W,0,c.bo,c.ba,c.c0,λb=>b<W.heap.size,c.base⟩:Ctx) []:=
  ⟨λp ad=>⟨tI (U.st _ (U.j0 p ad).1).1 hsz,λj v au=>(I _ (U.j0 p ad).1).trans<|(U.j0 p ad).2 j v au⟩,rfl,λi hi=>absurd hi<|Nat.not_lt_zero i,λi j b cR h=>by simp at h,λk hk=>⟨hk,λi b h=>by simp at h⟩,λi b h=>by simp at h⟩
 refine(T x y [] _ #[wI x,wI y] ay ⟨rfl,λi a v h1 h2=>?_⟩).mono ?_
 ·match i with
  |0=>simp at h1 h2;subst h1 h2;exact .str _ (oC x.2)
  |1=>simp at h1 h2;subst h1 h2;exact .str _ (oC y.2)
  |i+2=>simp at h1
 ·rintro e w' ⟨c',v,u,H',rfl,rfl, -,J,aw,rfl, -⟩;rw[aw.iD];exact⟨rfl,J.grown λb aa=>aa⟩
theorem fR.texts{d:Array kV}(h:fR c i (.cells v<|pQ d))(af:d.size≠0):c.ba i=v/\c.c0 i=false/\∃vs e J,c.w.heap[c.bo i]?=some (.cells vs e J)/\d.size<=vs.size/\(vs.size<=J.1\/J.2<=J.1)/\Holds wI c.w (c.bo i) 0 d:=by
 have hl:=LC d;obtain⟨cs,K⟩:∃cs,cs=pQ d:=⟨_,rfl⟩;rw[<-K]at h hl;cases h with
 |void _ O hd=>simp at hl;omega
 |cells _ _ vs e J O hd U hs T V=>
  refine⟨O,hd,vs,e,J,U,gf,T,λj S=>⟨?_,?_⟩⟩
  ·have h1:vs[j]?=some vs[j]:=lq gf;have h2:=V j (.str d[j].1) vs[j] (by rw[K];simp[pQ,S]) h1
   simp only[World.cell?,U,lr];rw[h1,h2.nh];simp[wI,S]
  ·simp only[World.frozen?,U,lr];simp;omega
theorem fR.put{d d':Array kV}(K:c.ba i=v)(hd:c.c0 i=false){vs:Array Value}{e:TypeId}{J:Nat×Nat}(O:c.w.heap[c.bo i]?=some (.cells vs e J))(hs:d'.size<=vs.size)(S:vs.size<=J.1\/J.2<=J.1):
  fR {c with w:=putRow wI c.w (c.bo i) 0 d'} i (.cells v<|pQ d'):=by
 refine .cells v _ (putCells wI 0 d' vs) e J K hd ?_ (by rw[LC];simpa[putCells]using hs) (by simpa[putCells]using S) λj x u h1 h2=>?_
 ·simp[putRow,mapBlock,Array.getElem?_modify,O,onCells]
 ·have U:j<d'.size:=by have:=(cu.1 h1).1;rwa[LC]at this
  simp[pQ,U]at h1;subst h1;simp[putCells,U,show j<vs.size by omega]at h2
  subst h2;exact .str _ (oC<|d'[j].2)
theorem aMu{g:Nat}{f:Nat}{K:kV->kV->Int}{lt:kV->kV->Bool}(hw:SWO lt)(ao:∀x y,decide (K x y<0)=lt x y)(ok:jr P g=true)(aA:∀(a b:kV) (H:ab),aO P g [.str a.1,.str b.1] H (.int .i64<|K a b))
  {ρ:Ren} (L:SlLaysF.n6 P ρ) (y2:ρ.f 6=f) {d:Array kV} {n lc:Nat} (af:n=d.size) (hl:n<=1073741824) (h1:n≠0) (H:ab) (ak:az H i=.cells v (pQ d)):
  cV P f [.osl 1 i v 0 n lc,.func (.func g) [] []] H (λr H'=>∃d',PermIn 0 n d d'/\SortedIn lt 0 n d'/\r=.aN []/\H'=an H i (.cells v<|pQ d')):=λc vs J aG=>by
 have hi:=kD ak trivial;have bK:i<c.n:=by rw[J.n];exact(cu.1 hi).1
 obtain⟨T,hd,rs,e,bH,U,hs,lI,hH⟩:=(J.rep i _ hi).texts gf;have V:=J.lt i bK hd;have O:¬c.hb (c.bo i):=λh=>(J.st _ h).2 i _ hi trivial hd rfl;obtain⟨hsz,Z⟩:=aG;have bd:=Z 0 _ vs[0]! rfl (by simp[hsz])
 have aS:=Z 1 _ vs[1]! rfl (by simp[hsz])
 obtain⟨base,cap,cW,g1,g2, -,g4⟩:=bd.l9 T;obtain⟨g5,m,g6,g7⟩:=g4 hd;obtain rfl:base=some ⟨c.bo i,0,none⟩:=g5.resolve_left gf;have ax:vs[1]! =.func (.func g) #[] #[]:=by
  generalize vs[1]! =u at *;cases aS with
  |func _ _ _ rv wM h1 h2=>rw[tJ h1,tJ h2]
 obtain rfl:vs= #[.slice (some ⟨c.bo i,0,none⟩) d.size cap,.func (.func g) #[] #[]]:=by
  apply Array.ext
  ·exact hsz
  ·intro k hk eO;have ew:k<2:=eO
   match k with
   |0=>simpa[hk,af]using cW
   |1=>simpa[hk]using ax
 have I:ltOf K=lt:=by funext x y;exact ao x y
 have S:=aHc aA J O V d.size;rw[<-y2];refine(Any.slices_SortFunc L wI (λ_=>rfl) K (I▸hw) g #[] (c.bo i) 0 cap d c.w (Fp ok) S hH V gf).mono ?_;rintro _ w' ⟨rfl,d',q,os,ad,z,rfl⟩;rw[I]at z;have aYG:d'.size=d.size:=ad.1;obtain⟨eQ,s1⟩:=J.more (Sort.ahead c.w q) (bh _) (λ_ _=>rfl) rfl rfl (Nat.le_add_right _ _) rfl;obtain⟨dV,s2⟩:=s1.update (B':=.cells v (pQ d')) hi trivial hd (putRow wI (Sort.ahead c.w q) (c.bo i) 0 d') hW (λb U=>by simp[putRow,mapBlock,Array.getElem?_modify,ka U]) (by simp[bsize,putRow,mapBlock,Array.getElem?_modify,U,onCells,putCells]) rfl rfl rfl<|fR.put (c:={c with w:=Sort.ahead c.w q}) (d:=d) T hd U gf lI
 obtain⟨gn,mb⟩:=s2.more (grow (putRow wI (Sort.ahead c.w q) (c.bo i) 0 d') os) hW (λb U=>heap_grow_old _ _ U) rfl rfl (bh _) rfl;exact⟨_,.aN [],.tuple #[],_,rfl,rfl,mb,(eQ.trans dV).trans gn,.aN _ _ rfl λ_ _ _ h=>by simp at h,d',by rw[af];exact ad,by rw[af];exact z,rfl,rfl⟩
end
def KC(c:cg):Bool:=decide (1000<(c.path.length:Int))||decide (1000<(c.to.length:Int))||decide (5000<(c.data.length:Int))
def DL(l:List cg)(n:Int):Bool:=l.all (λx=> !KC x)&&decide ((l.length:Int)<=n)
theorem aJw(aW:Bool)(l:List cg)(n:Int)(H:ab):aO prog 32 [.sl aW (l.map cy),.int .i64 n] H (.bool<|DL l n):=by
 refine xX λO _=>?_;have hl:=wO O;rw[dq]at hl;refine bg func32 ?_;refine a7 ?_;refine c7 (ι:=Nat) (λi=>[(0,.sl aW<|l.map cy),(1,.int .i64 n),(5,.int .i64 i)]) (λ_=>H) (λi=>i<=l.length/\∀x∈l.take i,KC x=false) (λi=>l.length-i) 0 ⟨cb _,hW⟩ ?_ rfl ?_
 ·simp[go_sem]
 ·rintro i ⟨hi,he⟩;by_cases U:i<l.length
  ·have ad:=ek cy U;repeat' first|(refine ae ?_;simp only[go_sem,ad,cy])|refine bp ?_|(refine bz ?_ ?_<;>intro h<;>try exact bx h)|fail
   ·exact bJ (.of (by
     have:DL l n=false:=by unfold DL;rw[Bool.and_eq_false_iff];left;rw[wV];intro q;have K:=fu.1 q l[i] (fQ _);have S:KC l[i]=true:=h;rw[S]at K;cases K
     rw[this]))
   ·refine⟨i+1,⟨U,λx J=>?_⟩,gf,by rw[bS];rfl⟩
    rw[hc U,fH]at J;rcases J with J|J
    ·exact he x J
    ·simp at J;subst J;exact h
  ·have T:i=l.length:=gf;subst T;repeat' first|(refine ae ?_;simp only[go_sem])|refine bp ?_|(refine bz ?_ ?_<;>intro h<;>try exact bx h)|fail
   refine bJ<|.of ?_;rw[fe]at he;have:l.all (λx=> !KC x)=true:=fu.2 λx J=>by rw[he x J];rfl
   rw[DL,this,vk]
def Cl(f2 f3:Bool)(a:om):I:=.agg [.int .i64 a.err,.str a.data,.sl f2<|a.names.map I.str,.int .i64 a.n,.sl f3<|a.events.map dt]
theorem aK8(aW bA iv:Bool)(g:hq)(l:List bk)(U:Fit g l.length)(hl:∀o∈l,hR o)(H:ab):aO prog 38 [rj aW bA g,.sl iv<|l.map bt] H (Cf (eX g l)<|oc g l):=by
 refine bg func38 ?_;have n1:=Xi aW bA g (oC U.len) (oC U.nodes);have hlen:l.length<=1000000:=oC U.nodes;simp only[rj,Dl,Cf]at n1 ⊢;repeat' first|(refine ae ?_;simp only[go_sem])|refine bp ?_|(refine bz ?_ ?_<;>intro h<;>try exact bx h)|fail
 refine c7 (ι:=Nat×ab) (λx=>[(4,.ref (H.length+1) 0 0),(6,.ref (H.length+2) 0 0),(7,.int .i64<|oc g (l.take x.1)),(13,.sl iv<|l.map bt),(14,.int .i64 l.length),(15,.int .i64 x.1)])
  (λx=>x.2) (λx=>x.1<=l.length/\az x.2 (H.length+1)=.cells 0 [.sl true [],.sl true []]/\az x.2 (H.length+2)=.cells 0 [.sl false ((eX g (l.take x.1)).entries.map dT),.sl false<|(eX g (l.take x.1)).nodes.map bj]/\∃M,x.2=H++M)
  (λx=>l.length-x.1) (0,_) ⟨cb _,mZ,by simp only[go_sem];rfl,⟨_,rfl⟩⟩ ?_ rfl ?_
 ·simp[go_sem,oc]
 ·rintro⟨i,X⟩ ⟨hi,K,O,S⟩;simp only at hi K O S ⊢;have Rz:H.length+1<X.length:=cZ K trivial;have V:H.length+2<X.length:=cZ O trivial;have zu:=λM=>bX O trivial M;have bI:=λM b=>gU V M b;by_cases J:i<l.length
  ·have ad:=ek bt J;have z:decide ((i:Int)<(l.length:Int))=true:=cS;have ik:l.take (i+1)=l.take i++[l[i]]:=hc J;have nY:∀o∈l.take i,hR o:=λo aD=>hl o<|yp aD
   have Z:Fit (eX g<|l.take i) 1:=Fit.all (k:=1) (U.less<|by rw[gK];omega) nY
   have RD:=Yw false false (eX g<|l.take i) l[i] (hl _ (fQ J)) Z.ops (oC Z.nodes) (oC Z.len)
   have a7:eX g (l.take<|i+1)=fo (eX g<|l.take i) l[i]:=by rw[ik,aHa];rfl
   have T:oc g (l.take<|i+1)=oc g (l.take i)+(if nG (eX g<|l.take i) l[i]=0 then 0 else 1):=by rw[ik,aHb];simp[oc]
   have I:=aJv g<|l.take i;rw[gK]at I;have hw:IntKind.i64.wrap (oc g (l.take i)+1)=oc g (l.take i)+1:=bS;simp only[rj,Dl,bt,Cf]at RD;repeat' first|(refine ae ?_;simp only[go_sem,ad,bt,z,zu,bI,hw])|refine bp ?_|(refine bz ?_ ?_<;>intro h<;>try exact bx h)|fail
   ·have he:¬nG (eX g<|l.take i) l[i]=0:=oq h
    rw[ar he]at T;exact⟨(i+1,_),⟨J,bX ((ht gf _).trans K) trivial _,by simp only;rw[a7];exact bX (b:=.cells 0 [.sl false ((fo (eX g<|l.take i) l[i]).entries.map dT),.sl false<|(fo (eX g (l.take i)) l[i]).nodes.map bj]) (yQ V _) trivial _,GU (lz S gf _) _⟩,by simp only;omega,⟨by simp only;rw[T],b7 _<|eb J gf⟩,rfl⟩
   ·have he:nG (eX g<|l.take i) l[i]=0:=oq h
    rw[aC he]at T;exact⟨(i+1,_),⟨J,bX ((ht gf _).trans K) trivial _,by simp only;rw[a7];exact bX (b:=.cells 0 [.sl false ((fo (eX g<|l.take i) l[i]).entries.map dT),.sl false<|(fo (eX g (l.take i)) l[i]).nodes.map bj]) (yQ V _) trivial _,GU (lz S gf _) _⟩,by simp only;omega,⟨by simp only;rw[T,Int.add_zero],b7 _<|eb J gf⟩,rfl⟩
  ·have eI:i=l.length:=gf;subst eI;have z:decide ((l.length:Int)<(l.length:Int))=false:=hW;have aC6:∀b,az (an X (H.length+1) b) (H.length+1)=b:=λb=>yQ Rz b;rw[fe]at O ⊢;refine hH ?_;obtain⟨M2,Rr⟩:=lz S (i:=H.length+1) gf<|.cells 0 [.sl false ((eX g l).entries.map dT),.sl false ((eX g l).nodes.map bj)]
   exact⟨M2,_,Rr,.cl _<|b9.cl mZ _,rfl⟩
theorem aHd(l:List bk):∀e∈l.map bt,e.cells.length=7:=λe he=>by obtain⟨x,_,rfl⟩:=bP.1 he;rfl
end Go.Proofs.YtnmamncmpklliaaGreatDoor
