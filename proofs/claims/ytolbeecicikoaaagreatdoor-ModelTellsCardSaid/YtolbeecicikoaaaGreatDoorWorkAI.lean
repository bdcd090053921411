/- The texts 9 of 53 beneath the rows of this seat (joined by program): the abstract machine, and what the functions answer. No condition. -/
import Derived.Test.YtolbeecicikoaaaGreatDoorWorkAD
import Derived.Test.YtolbeecicikoaaaGreatDoorWorkAH
set_option linter.unusedSimpArgs false
set_option linter.unusedVariables false
set_option linter.unusedSectionVars false
set_option maxRecDepth 100000
set_option maxHeartbeats 16000000
namespace Go.Proofs.YtolbeecicikoaaaGreatDoor
def aAF:Option Int→List Nd→Bool
 |_,[]=>true
 |p,n::l=>(dQ n.id&&(match p with|none=>true|some q=>decide (q<n.id)))&&aAF (some n.id) l
def chk(l:List Nd):Bool:=aAF none l
def oP(l:List Nd)(i:Nat):Option Int:=if i=0 then none else(l[i-1]?).map (·.id)
theorem aBN{l:List Nd}{i:Nat}(h:i<l.length):aAF (oP l i) (l.drop i)=
  ((dQ l[i].id&& !(decide ((0:Int)<(i:Int))&&decide (l[i].id≤(l[i-1]'(by omega)).id)))&&aAF (oP l (i+1)) (l.drop (i+1))):=by
 rw[zAk h,show aAF (oP l i) (l[i]::l.drop (i+1))=((dQ l[i].id&&(match oP l i with|none=>true|some q=>decide (q<l[i].id)))&&aAF (some l[i].id) (l.drop (i+1)))from by cases oP l i<;>rfl]
 have e:oP l (i+1)=some l[i].id:=by
  simp[oP,zAo h]
 rw[e]
 congr 2
 unfold oP
 grind
def aGg(p:Option Int)(l:List Nd):Prop:=match p with|none=>True|some q=>∀x∈l,q<x.id
theorem aJG(p:Option Int)(l:List Nd):aAF p l=true↔(∀x∈l,dQ x.id=true)∧l.Pairwise (fun a b=>a.id<b.id)∧aGg p l:=by
 induction l generalizing p with
 |nil=>cases p<;>simp[aAF,aGg]
 |cons n l ih=>
  grind [aAF,zBj,aGg,zAv,Option,Int,List,dQ]
theorem oG(l:List Nd):chk l=true↔(∀x∈l,dQ x.id=true)∧l.Pairwise (fun a b=>a.id<b.id):=by
 unfold chk;rw[aJG];simp[aGg]
def pos:List Nd→Int→Nat
 |[],_=>0
 |n::l,id=>if n.id<id then pos l id+1 else 0
def lZ(l:List Nd)(id:Int):Option Nd:=l.find? (fun n=>decide (n.id=id))
def had(l:List Nd)(id:Int):Bool:=(lZ l id).isSome
theorem aQT(l:List Nd)(id:Int):pos l id≤l.length:=by
 induction l with
 |nil=>exact zAh _
 |cons n l ih=>unfold pos;split<;>simp<;>omega
theorem aQU{l:List Nd}{id:Int}{i:Nat}(hi:i≤l.length)(h1:∀k (hk:k<i),(l[k]'(by omega)).id<id)(h2:∀(h:i<l.length),¬l[i].id<id):pos l id=i:=by
 induction l generalizing i with
 |nil=>simp at hi;subst hi;rfl
 |cons n l ih=>
  unfold pos
  cases i with
  |zero=>grind
  |succ i=>
   have:=h1 0 (by omega)
   simp at this
   rw[zAc this,ih (i:=i) (by simpa using hi) (fun k hk=>by grind) (fun h=>by have:=h2 (by simpa using h);simpa using this)]
theorem aGh{l:List Nd}{id:Int}(hs:chk l=true):lZ l id=match l[pos l id]? with|some n=>if n.id=id then some n else none|none=>none:=by
 have hp:=((oG l).1 hs).2
 clear hs
 induction l with
 |nil=>rfl
 |cons n l ih=>
  rw[zBj]at hp
  unfold lZ pos
  rw[zCn]
  by_cases h:n.id<id
  ·rw[zAc h,dF]
   simp only[zBW]
   exact ih hp.2
  ·grind
theorem pW{l:List Nd}{id:Int}(hs:chk l=true):had l id=(match l[pos l id]? with|some n=>decide (n.id=id)|none=>false):=by
 rw[had,aGh hs]
 split
 ·split<;>simp_all
 ·rfl
theorem nF{l:List Nd}{id:Int}(hs:chk l=true)(h:had l id=true):pos l id<l.length:=by
 rw[pW hs]at h
 split at h
 ·rename_i n hn;exact(zAf.1 hn).1
 ·cases h
theorem zU{l:List Nd}{id:Int}(hs:chk l=true)(h:had l id=true):lZ l id=some (l[pos l id]'(nF hs h)):=by
 have hlt:=nF hs h
 rw[pW hs,zAo hlt]at h
 rw[aGh hs,zAo hlt]
 grind
theorem aCt{l:List Nd}{id:Int}(h:had l id=false):lZ l id=none:=by
 unfold had at h;cases hf:lZ l id<;>simp_all
def cL(l:List Nd):Nat→Int→List Int
 |0,_=>[]
 |k+1,id=>match lZ l id with
  |none=>[]
  |some n=>if n.parent= -1 then[]else n.parent::cL l k n.parent
def bR(l:List Nd)(id:Int):List Int:=cL l l.length id
def eO(l:List Nd)(id:Int):List Int:=if chk l=true then bR l id else[]
theorem aAG(l:List Nd)(k:Nat)(id:Int):(cL l k id).length≤k:=by
 induction k generalizing id<;>grind [id,cL]
def findI(l:List Nd)(id:Int):Option Nd:=if chk l=true then lZ l id else none
def mH(l:List Nd)(i j:Nat)(xs:List Nd):List Nd:=l.take i++xs++l.drop j
def nG(l:List Nd)(o:Opn):Bool:=decide (o.parent=o.node)||(bR l o.parent).any (fun x=>decide (x=o.node))
def bB(l:List Nd)(o:Opn):Bool:= !chk l|| !opOk o||(decide (o.kind=1)&&nG l o)
def dI(l:List Nd)(o:Opn):Nd:=match lZ l o.node with|some n=>n|none=>{nd0 with id:=o.node,parent:= -1}
def bM(l:List Nd)(o:Opn):Nd:=
 if o.kind=1 then{dI l o with parent:=o.parent,name:=o.name,moved:=o.at_}else{dI l o with data:=o.data,wrote:=o.at_}
def upto(l:List Nd)(id:Int):Nat:=if had l id=true then pos l id+1 else pos l id
def jQ(l:List Nd)(o:Opn):List Nd:=if bB l o=true then l else mH l (pos l o.node) (upto l o.node) [bM l o]
def qW(l:List Nd)(o:Opn):Und:=if bB l o=true then aQD else⟨true,had l o.node,(lZ l o.node).getD nd0⟩
def oW(l:List Nd)(o:Opn)(u:Und):List Nd:=
 if(!chk l|| !u.did)=true then l
 else if(dQ o.node&&u.had&&decide (u.was.id=o.node))=true then mH l (pos l o.node) (upto l o.node) [u.was]
 else mH l (pos l o.node) (upto l o.node) []
theorem zV(l:List Nd)(id:Int)(hs:chk l=true):pos l id≤upto l id∧upto l id≤l.length:=by
 have:=aQT l id
 unfold upto
 split
 ·rename_i h;have:=nF hs h;omega
 ·omega
theorem vA(l:List Nd)(i j:Nat)(xs:List Nd)(h:i≤j)(hj:j≤l.length):(mH l i j xs).length+j=i+xs.length+l.length:=by
 simp[mH];omega
end Go.Proofs.YtolbeecicikoaaaGreatDoor
namespace Go.Proofs.YtolbeecicikoaaaGreatDoor
def zN(dir:Int)(n:Nd):Bool:=decide (n.parent=dir)&&zM n.moved.c n.moved.r
def bT(s:Txt):List (Txt×Nd)→Option Nd
 |[]=>none
 |(k,n)::m=>if k=s then some n else bT s m
def gL(s:Txt)(n:Nd):List (Txt×Nd)→List (Txt×Nd)
 |[]=>[(s,n)]
 |(k,x)::m=>if k=s then(s,n)::m else(k,x)::gL s n m
def rL(m:List (Txt×Nd))(n:Nd):List (Txt×Nd):=match bT n.name m with
 |none=>gL n.name n m
 |some o=>if iI n.moved.c n.moved.r o.moved.c o.moved.r=true then m else gL n.name n m
def lV(dir:Int)(m:List (Txt×Nd))(n:Nd):List (Txt×Nd):=if zN dir n=true then rL m n else m
def cG(l:List Nd)(dir:Int):List (Txt×Nd):=l.foldl (lV dir) []
def childN(l:List Nd)(dir:Int)(s:Txt):Option Nd:=if chk l=true then bT s (cG l dir)else none
def kC(l:List Nd):Int→List Txt→Int×Int
 |at_,[]=>(at_,0)
 |at_,s::names=>if dirI at_=true then(match childN l at_ s with|some n=>kC l n.id names|none=>(0,80))else(0,81)
def fQ(l:List Nd)(names:List Txt):Int×Int:=kC l 0 names
def pX:Nat→List (Txt×Nd)→List (AV×AV×Nat)
 |_,[]=>[]
 |b,p::m=>(.str p.1,ndA p.2,b)::pX (b+1) m
theorem aDA(b:Nat)(m:List (Txt×Nd)):keysIn .string (pX b m):=by
 induction m generalizing b with
 |nil=>exact fun p hp=>by simp[pX]at hp
 |cons p m ih=>
  intro q hq
  rcases zAv.1 hq with rfl|hq
  ·rfl
  ·exact ih _ q hq
theorem aVc(b:Nat)(m:List (Txt×Nd)):(pX b m).length=m.length:=by
 induction m generalizing b with
 |nil=>rfl
 |cons p m ih=>simp[pX,ih]
theorem aJH(b:Nat)(m:List (Txt×Nd))(s:Txt):(bT s m=none∧keyAt (.str s) (pX b m)=none)∨∃n j,bT s m=some n∧keyAt (.str s) (pX b m)=some (j,ndA n):=by
 induction m generalizing b with
 |nil=>exact .inl ⟨rfl,rfl⟩
 |cons p m ih=>
  obtain⟨k,n⟩:=p
  by_cases h:k=s
  ·subst h;exact .inr ⟨n,0,by simp[bT],by simp[pX,keyAt,mX]⟩
  ·have h':mX (.str s) (.str k)=false:=by simp[mX];exact fun e=>h e.symm
   rcases ih (b+1)with⟨h1,h2⟩|⟨x,j,h1,h2⟩
   ·exact .inl ⟨by simp[bT,h,h1],by simp[pX,keyAt,h',h2]⟩
   ·exact .inr ⟨x,j+1,by simp[bT,h,h1],by simp[pX,keyAt,h',h2]⟩
theorem yS{x y v w:AV}{b clock:Nat}{es:List (AV×AV×Nat)}(h:mX x y=false):iX x v ((y,w,b)::es) clock=(y,w,b)::iX x v es clock:=by
 simp only[iX,keyAt,h,zCj]
 cases keyAt x es with
 |none=>rfl
 |some p=>rfl
theorem aBm{x y w:AV}{b clock:Nat}{es:List (AV×AV×Nat)}(h:mX x y=false):mY x ((y,w,b)::es) clock=mY x es clock:=by
 simp only[mY,keyAt,h,zCj]
 cases keyAt x es<;>rfl
theorem aMZ(b:Nat)(m:List (Txt×Nd))(s:Txt)(n:Nd):iX (.str s) (ndA n) (pX b m) (b+m.length)=pX b (gL s n m)∧mY (.str s) (pX b m) (b+m.length)=b+(gL s n m).length:=by
 induction m generalizing b with
 |nil=>exact⟨rfl,rfl⟩
 |cons p m ih=>
  obtain⟨k,x⟩:=p
  by_cases h:k=s
  ·subst h;exact⟨by simp[pX,iX,keyAt,mX,gL],by simp[pX,mY,keyAt,mX,gL]⟩
  ·have h':mX (.str s) (.str k)=false:=by simp[mX];exact fun e=>h e.symm
   obtain⟨h1,h2⟩:=ih (b+1)
   have e:b+((k,x)::m).length=b+1+m.length:=by simp;omega
   rw[e]
   simp only[pX,gL,zAb h]
   rw[yS h',aBm h',h1,h2]
   exact⟨rfl,by simp;omega⟩
theorem aJI(m:List (Txt×Nd))(s:Txt)(n:Nd):ABlk.map (iX (.str s) (ndA n) (pX 0 m) m.length) (mY (.str s) (pX 0 m) m.length)=.map (pX 0 (gL s n m)) (gL s n m).length:=by
 have:=aMZ 0 m s n
 rw[zBo,zBo]at this
 rw[this.1,this.2]
theorem aT7(k:Nat)(n:Nd):Cl k (ndA n):=(Pur.agg _ fun x hx=>by
 simp only[zAv,zAS,zBY]at hx
 rcases hx with rfl|rfl|rfl|rfl|rfl|rfl|rfl|rfl<;>first|exact .int _ _|exact .str _).cl k
theorem aJJ(k b:Nat)(m:List (Txt×Nd)):∀p∈pX b m,Cl k p.1∧Cl k p.2.1:=by
 induction m generalizing b with
 |nil=>exact fun p hp=>by simp[pX]at hp
 |cons q m ih=>
  intro p hp
  rcases zAv.1 hp with rfl|hp
  ·exact⟨.str _,aT7 k _⟩
  ·exact ih _ p hp
end Go.Proofs.YtolbeecicikoaaaGreatDoor
namespace Go.Proofs.YtolbeecicikoaaaGreatDoor
@[go_sem] theorem aL6{P:Program}(ts tx:TypeId)(f g:Bool)(es r:List AV)(e:AV)(H:AHeap):uM P ts tx (.sl f es) (.sl g (e::r)) H=mD P ts tx (.sl f es) (.sl g (e::r)) H:=by
 cases es with
 |nil=>rfl
 |cons a es=>simp[uM,eD]
def dD(a b:Stm):Bool:=iI a.c a.r b.c b.r
def fA(l:List Ent)(a:Stm):Bool:=l.any fun e=>decide (e.op.at_=a)
def eP(a:Stm):List Ent→List Nd→Nat×List Nd
 |[],n=>(0,n)
 |e::r,n=>if dD a e.op.at_=true then((eP a r (oW n e.op e.undo)).1+1,(eP a r (oW n e.op e.undo)).2)else(0,n)
def cN:List Opn→List Ent→List Nd→List Ent×List Nd
 |[],es,n=>(es,n)
 |o::os,es,n=>cN os (es++[⟨o,qW n o⟩]) (jQ n o)
def dU(g:Lg)(o:Opn):Lg:=
 if opOk o=false then g else if fA g.entries o.at_=true then g else if(200:Int)≤(g.entries.length:Int)then g
 else
  ⟨(cN (o::(g.entries.drop (g.entries.length-(eP o.at_ g.entries.reverse g.nodes).1)).map Ent.op) (g.entries.take (g.entries.length-(eP o.at_ g.entries.reverse g.nodes).1)) (eP o.at_ g.entries.reverse g.nodes).2).1,
    (cN (o::(g.entries.drop (g.entries.length-(eP o.at_ g.entries.reverse g.nodes).1)).map Ent.op) (g.entries.take (g.entries.length-(eP o.at_ g.entries.reverse g.nodes).1)) (eP o.at_ g.entries.reverse g.nodes).2).2⟩
def oQ(g:Lg)(o:Opn):Int:=
 if opOk o=false then 50 else if fA g.entries o.at_=true then 0 else if(200:Int)≤(g.entries.length:Int)then 193 else 0
def eQ:Lg→List Opn→Lg
 |g,[]=>g
 |g,o::os=>eQ (dU g o) os
def aAH:Lg→List Opn→Int
 |_,[]=>0
 |g,o::os=>(if oQ g o=0 then 0 else 1)+aAH (dU g o) os
def opsG(g:Lg):List Opn:=g.entries.map Ent.op
theorem aJK(a:Stm)(l:List Ent)(n:List Nd):(eP a l n).1≤l.length:=by
 induction l generalizing n with
 |nil=>simp[eP]
 |cons e l ih=>unfold eP;split<;>simp;exact ih _
theorem aBO(l:List Nd)(o:Opn)(u:Und):(oW l o u).length≤l.length+1:=by
 unfold oW
 split
 ·omega
 ·rename_i h
  have hc:chk l=true:=by
   cases hc:chk l with
   |true=>rfl
   |false=>simp[hc]at h
  have:=zV l o.node hc
  split
  ·have:=vA l (pos l o.node) (upto l o.node) [u.was] (by omega) (by omega);simp at this;omega
  ·have:=vA l (pos l o.node) (upto l o.node) [] (by omega) (by omega);simp at this;omega
theorem aCu(l:List Nd)(o:Opn):(jQ l o).length≤l.length+1:=by
 unfold jQ
 split
 ·omega
 ·rename_i h
  have hc:chk l=true:=by
   cases hc:chk l with
   |true=>rfl
   |false=>simp[bB,hc]at h
  have:=zV l o.node hc
  have:=vA l (pos l o.node) (upto l o.node) [bM l o] (by omega) (by omega);simp at this;omega
theorem aHy(a:Stm)(l:List Ent)(n:List Nd):(eP a l n).2.length≤n.length+l.length:=by
 induction l generalizing n with
 |nil=>simp[eP]
 |cons e l ih=>
  unfold eP
  split
  ·have:=ih (oW n e.op e.undo)
   have:=aBO n e.op e.undo
   simp;omega
  ·simp
theorem aAI(l:List Opn)(es:List Ent)(n:List Nd):(cN l es n).2.length≤n.length+l.length∧(cN l es n).1.length=es.length+l.length:=by
 induction l generalizing es n with
 |nil=>simp[cN]
 |cons o l ih=>
  unfold cN
  have:=ih (es++[⟨o,qW n o⟩]) (jQ n o)
  have:=aCu n o
  simp at *;omega
theorem xB(l:List Opn)(o:Opn)(es:List Ent)(n:List Nd):cN (l++[o]) es n=((cN l es n).1++[⟨o,qW (cN l es n).2 o⟩],jQ (cN l es n).2 o):=by
 induction l generalizing es n with
 |nil=>rfl
 |cons x l ih=>rw[zA1,cN,ih,cN]
end Go.Proofs.YtolbeecicikoaaaGreatDoor
namespace Go.Proofs.YtolbeecicikoaaaGreatDoor
theorem aDB(l:List Opn)(es:List Ent)(n:List Nd):(cN l es n).1.map Ent.op=es.map Ent.op++l:=by
 induction l generalizing es n with
 |nil=>simp[cN]
 |cons o l ih=>unfold cN;rw[ih];simp
def aJL(g:Lg)(o:Opn):Nat:=g.entries.length-(eP o.at_ g.entries.reverse g.nodes).1
theorem aJM(g:Lg)(o:Opn):opsG (dU g o)=if opOk o=false∨fA g.entries o.at_=true∨(200:Int)≤(g.entries.length:Int)then opsG g
  else(opsG g).take (aJL g o)++o::(opsG g).drop (aJL g o):=by
 unfold dU opsG
 by_cases h1:opOk o=false
 ·rw[zAc h1,zAc (.inl h1)]
 ·by_cases h2:fA g.entries o.at_=true
  ·rw[zAb h1,zAc h2,zAc (.inr (.inl h2))]
  ·by_cases h3:(200:Int)≤(g.entries.length:Int)
   ·rw[zAb h1,zAb h2,zAc h3,zAc (.inr (.inr h3))]
   ·rw[zAb h1,zAb h2,zAb h3,zAb (by rintro(h|h|h)<;>contradiction),aDB]
    simp only[aJL,zBN,zCh]
theorem oX(g:Lg)(o:Opn):(dU g o).entries.length≤g.entries.length+1∧((dU g o).entries.length≤200∨(dU g o).entries.length=g.entries.length)∧(g.entries.length≤200→(dU g o).nodes.length≤g.nodes.length+401):=by
 unfold dU
 split
 ·exact⟨by omega,.inr rfl,fun _=>by omega⟩
 ·split
  ·exact⟨by omega,.inr rfl,fun _=>by omega⟩
  ·split
   ·exact⟨by omega,.inr rfl,fun _=>by omega⟩
   ·have h1:=aJK o.at_ g.entries.reverse g.nodes
    have h2:=aHy o.at_ g.entries.reverse g.nodes
    have h3:=aAI (o::(g.entries.drop (g.entries.length-(eP o.at_ g.entries.reverse g.nodes).1)).map Ent.op) (g.entries.take (g.entries.length-(eP o.at_ g.entries.reverse g.nodes).1)) (eP o.at_ g.entries.reverse g.nodes).2
    rw[zA9]at h1 h2
    simp only[zAm,zAj,zAH,zAy]at h3
    refine⟨by simp only;omega,.inl (by simp only;omega),fun h=>by simp only;omega⟩
theorem aDC(g:Lg)(o:Opn)(P:Opn→Prop)(h:∀e∈g.entries,P e.op)(ho:P o):∀e∈(dU g o).entries,P e.op:=by
 intro e he
 have h1:e.op∈opsG (dU g o):=zCg he
 rw[aJM]at h1
 have hg:∀x∈opsG g,P x:=fun x hx=>by obtain⟨e',he',rfl⟩:=zAi.1 hx;exact h e' he'
 split at h1
 ·exact hg _ h1
 ·rw[zAD,zAv]at h1
  rcases h1 with h1|h1|h1
  ·exact hg _ (List.mem_of_mem_take h1)
  ·rw[h1];exact ho
  ·exact hg _ (zCs h1)
structure Fit (g:Lg) (k:Nat):Prop where
 ops:∀e∈g.entries,OpS e.op
 len:g.entries.length≤200
 nodes:g.nodes.length+401 * k≤1000000
theorem Fit.add{g:Lg}{k:Nat}(h:Fit g (k+1)){o:Opn}(ho:OpS o):Fit (dU g o) k:=by
 have h1:=oX g o
 have h2:=h.len
 have h3:=h.nodes
 refine⟨aDC g o OpS h.ops ho,by rcases h1.2.1 with q|q<;>omega,?_⟩
 have:=h1.2.2 h2
 omega
theorem Fit.all{g:Lg}{l:List Opn}{k:Nat}(h:Fit g (l.length+k))(hl:∀o∈l,OpS o):Fit (eQ g l) k:=by
 induction l generalizing g with
 |nil=>exact⟨h.ops,h.len,by have:=h.nodes;simp at this;exact this⟩
 |cons o l ih=>
  exact ih (Fit.add ⟨h.ops,h.len,by have:=h.nodes;simp at this;omega⟩ (hl o (by simp))) fun x hx=>hl x (by simp[hx])
theorem Fit.less{g:Lg}{k j:Nat}(h:Fit g k)(hj:j≤k):Fit g j:=⟨h.ops,h.len,by have:=h.nodes;omega⟩
theorem Fit.nil(k:Nat)(h:k≤2000):Fit ⟨[],[]⟩ k:=⟨by simp,by simp,by simp;omega⟩
theorem aJN(g:Lg)(a b:List Opn):eQ g (a++b)=eQ (eQ g a) b:=by
 induction a generalizing g with
 |nil=>rfl
 |cons o a ih=>exact ih _
theorem aT8(g:Lg)(a b:List Opn):aAH g (a++b)=aAH g a+aAH (eQ g a) b:=by
 induction a generalizing g with
 |nil=>simp[aAH,eQ]
 |cons o a ih=>rw[zA1,aAH,aAH,eQ,ih];omega
theorem aVd(g:Lg)(l:List Opn):0≤aAH g l∧aAH g l≤l.length:=by
 induction l generalizing g with
 |nil=>simp[aAH]
 |cons o l ih=>have:=ih (dU g o);unfold aAH;simp only[zAm];split<;>omega
end Go.Proofs.YtolbeecicikoaaaGreatDoor
namespace Go.Proofs.YtolbeecicikoaaaGreatDoor
theorem aJO{s:Txt}{n:Nd}{m:List (Txt×Nd)}{p:Txt×Nd}(h:p∈gL s n m):p.2=n∨p∈m:=by
 induction m with
 |nil=>simp[gL]at h;left;rw[h]
 |cons q m ih=>
  obtain⟨k,x⟩:=q
  unfold gL at h
  split at h
  ·rcases zAv.1 h with rfl|h
   ·exact .inl rfl
   ·exact .inr (zAP _ h)
  ·rcases zAv.1 h with rfl|h
   ·exact .inr (by simp)
   ·rcases ih h with h|h
    ·exact .inl h
    ·exact .inr (zAP _ h)
theorem aHz{s:Txt}{n:Nd}{m:List (Txt×Nd)}(h:bT s m=some n):∃p∈m,p.2=n:=by
 induction m with
 |nil=>cases h
 |cons q m ih=>
  obtain⟨k,x⟩:=q
  unfold bT at h
  split at h
  ·exact⟨(k,x),by simp,by simpa using h⟩
  ·obtain⟨p,hp,e⟩:=ih h;exact⟨p,zAP _ hp,e⟩
theorem aBP(l:List Nd)(dir:Int):∀p∈cG l dir,p.2∈l∧zN dir p.2=true:=by
 suffices h:∀(k l:List Nd) (m:List (Txt×Nd)),(∀p∈m,p.2∈l∧zN dir p.2=true)→(∀n∈k,n∈l)→∀p∈k.foldl (lV dir) m,p.2∈l∧zN dir p.2=true from h l l [] (fun p hp=>by cases hp) (fun n hn=>hn)
 intro k
 induction k with
 |nil=>intro l m hm _;exact hm
 |cons x k ih=>
  intro l m hm hk
  refine ih l (lV dir m x) (fun p hp=>?_) (fun n hn=>hk n (zAP _ hn))
  unfold lV at hp
  split at hp
  ·rename_i hx
   unfold rL at hp
   have hs:∀p∈gL x.name x m,p.2∈l∧zN dir p.2=true:=fun p hp=>by
    rcases aJO hp with e|h
    ·rw[e];exact⟨hk x (by simp),hx⟩
    ·exact hm p h
   split at hp
   ·exact hs p hp
   ·split at hp
    ·exact hm p hp
    ·exact hs p hp
  ·exact hm p hp
theorem aHA{l:List Nd}{dir:Int}{s:Txt}{n:Nd}(h:childN l dir s=some n):chk l=true∧n∈l∧n.parent=dir:=by
 unfold childN at h
 split at h
 ·rename_i hc
  obtain⟨p,hp,e⟩:=aHz h
  obtain⟨h1,h2⟩:=aBP l dir p hp
  rw[e]at h1 h2
  unfold zN at h2
  rw[zAl,zAr]at h2
  exact⟨hc,h1,h2.1⟩
 ·cases h
end Go.Proofs.YtolbeecicikoaaaGreatDoor
namespace Go.Proofs.YtolbeecicikoaaaGreatDoor
def xC(l:List Nd)(n:Nd):List Nd:=mH l (pos l n.id) (upto l n.id) [n]
def aT9(l:List Nd)(id:Int):List Nd:=mH l (pos l id) (upto l id) []
theorem gN(l:List Nd)(o:Opn):(bM l o).id=o.node:=by
 have h:(dI l o).id=o.node:=by
  unfold dI
  split
  ·rename_i n hn
   have:=zCG hn
   simpa using this
  ·rfl
 unfold bM;split<;>exact h
theorem kD{l:List Nd}{o:Opn}(h:bB l o=false):jQ l o=xC l (bM l o):=by
 rw[jQ,zAb (by rw[h];decide),xC,gN]
theorem aDD(l:List Nd)(id:Int)(x:Nd)(hx:x∈l.take (pos l id)):x.id<id:=by
 induction l<;>grind [pos,zCf,zAv]
theorem aDE{l:List Nd}(hs:chk l=true)(id:Int)(x:Nd)(hx:x∈l.drop (upto l id)):id<x.id:=by
 have hp:=((oG l).1 hs).2
 rw[zBn]at hp
 obtain⟨i,hi,rfl⟩:=zB1 hx
 rw[zAH]at hi
 rw[List.getElem_drop]
 have hpos:∀k (hk:k<l.length),pos l id≤k→¬l[k].id<id:=by
  intro k hk hle hlt
  have key:∀(l:List Nd),(∀(i j:Nat) (_hi:i<l.length) (_hj:j<l.length),i<j→l[i].id<l[j].id)→∀k (hk:k<l.length),pos l id≤k→¬l[k].id<id:=by
   intro l
   induction l with
   |nil=>intro _ k hk;simp at hk
   |cons n l ih=>
    intro hp k hk hle hlt
    unfold pos at hle
    split at hle
    ·cases k with
     |zero=>omega
     |succ k=>
      refine ih (fun i j hi hj hij=>?_) k (by simpa using hk) (by omega) (by simpa using hlt)
      have:=hp (i+1) (j+1) (by simpa using hi) (by simpa using hj) (by omega)
      simpa using this
    ·rename_i hn
     cases k with
     |zero=>simp at hlt;omega
     |succ k=>
      have:=hp 0 (k+1) (by simp) hk (by omega)
      simp at this hlt;omega
  exact key l hp k hk hle hlt
 unfold upto at hi ⊢
 split
 ·rename_i hh
  have hlt:=nF hs hh
  have he:l[pos l id].id=id:=by
   rw[pW hs,zAo hlt]at hh;simpa using hh
  rw[zAc hh]at hi
  have:=hp (pos l id) (pos l id+1+i) hlt (by omega) (by omega)
  omega
 ·rename_i hh
  rw[zAb hh]at hi
  have h1:=hpos (pos l id+i) (by omega) (by omega)
  have h2:l[pos l id+i].id≠id:=by
   intro e
   by_cases hi0:i=0
   ·subst hi0
    apply hh
    rw[pW hs,zAo (by omega)]
    simpa using e
   ·have h3:=hp (pos l id) (pos l id+i) (by omega) (by omega) (by omega)
    have h4:=hpos (pos l id) (by omega) (zAh _)
    omega
  omega
theorem aGi{l:List Nd}(hs:chk l=true){n:Nd}(hn:dQ n.id=true):chk (xC l n)=true:=by
 have h:=(oG l).1 hs
 rw[oG]
 have ht:∀x∈l.take (pos l n.id),x.id<n.id:=aDD l n.id
 have hd:∀x∈l.drop (upto l n.id),n.id<x.id:=aDE hs n.id
 unfold xC mH
 grind
theorem aGj{A B:List Nd}{n:Nd}{id:Int}(hA:∀x∈A,x.id<id)(hn:n.id=id):pos (A++n::B) id=A.length:=by
 induction A<;>simp_all[pos,zA1,]
theorem aM0{A B:List Nd}{id:Int}(hA:∀x∈A,x.id<id)(hB:∀x∈B,id<x.id):pos (A++B) id=A.length:=by
 induction A with
 |nil=>
  cases B with
  |nil=>rfl
  |cons b B=>have:=hB b (by simp);rw[zAG,pos,zAb (by omega)];rfl
 |cons a A ih=>
  rw[zA1,pos,zAc (hA a (by simp)),ih fun x hx=>hA x (by simp[hx])];rfl
theorem vB{A B:List Nd}{n:Nd}{id:Int}(hA:∀x∈A,x.id<id)(hn:n.id=id):lZ (A++n::B) id=some n:=by
 unfold lZ
 grind
theorem vC{l:List Nd}(hs:chk l=true)(id:Int):∃A B,(∀x∈A,x.id<id)∧(∀x∈B,id<x.id)∧A=l.take (pos l id)∧B=l.drop (upto l id)∧(l=A++B∧had l id=false∨∃n,n.id=id∧l=A++n::B∧had l id=true):=by
 refine⟨_,_,aDD l id,aDE hs id,rfl,rfl,?_⟩
 cases hh:had l id with
 |false=>
  left
  unfold upto
  simp_all
 |true=>
  right
  have hlt:=nF hs hh
  have he:l[pos l id].id=id:=by
   have:=hh
   rw[pW hs,zAo hlt]at this;simpa using this
  refine⟨l[pos l id],he,?_,rfl⟩
  unfold upto
  rw[zAc hh,←zAk hlt,zBl]
theorem aEY{l:List Nd}(n:Nd){A B:List Nd}(hA:A=l.take (pos l n.id))(hB:B=l.drop (upto l n.id)):xC l n=A++n::B:=by
 rw[xC,mH,hA,hB,zAu];rfl
theorem aGk{A B:List Nd}{n m:Nd}(hA:∀x∈A,x.id<n.id)(hm:m.id=n.id):xC (A++m::B) n=A++n::B:=by
 have hp:pos (A++m::B) n.id=A.length:=aGj hA hm
 have hh:had (A++m::B) n.id=true:=by rw[had,vB hA hm];rfl
 rw[xC,mH,upto,zAc hh,hp,zCH,show A.length+1=A.length+1 from rfl,zAu]
 ·simp_all
 ·rfl
theorem aM1{A B:List Nd}{m:Nd}{id:Int}(hA:∀x∈A,x.id<id)(hm:m.id=id):aT9 (A++m::B) id=A++B:=by
 have hp:pos (A++m::B) id=A.length:=aGj hA hm
 have hh:had (A++m::B) id=true:=by rw[had,vB hA hm];rfl
 rw[aT9,mH,upto,zAc hh,hp,zCH,zAg]
 ·simp_all
 ·rfl
theorem aM2{l:List Nd}(o:Opn)(hs:chk l=true):oW (jQ l o) o (qW l o)=l:=by
 cases hr:bB l o with
 |true=>
  rw[jQ,zAc hr,qW,zAc hr,oW,zAc (by simp[aQD])]
 |false=>
  have hok:opOk o=true:=by
   grind [opOk,bB]
  have hof:dQ o.node=true:=by
   unfold opOk rJ uY at hok
   split at hok<;>simp at hok<;>simp[hok]
  have hid:=gN l o
  have hc:chk (jQ l o)=true:=by rw[kD hr];exact aGi hs (by rw[hid];exact hof)
  rw[qW,zAb (by rw[hr];decide),oW,zAb (by rw[hc];simp)]
  obtain⟨A,B,hA,hB,eA,eB,hcase⟩:=vC hs o.node
  have hd:jQ l o=A++bM l o::B:=by
   rw[kD hr]
   exact aEY _ (by rw[hid];exact eA) (by rw[hid];exact eB)
  rcases hcase with⟨hl,hh⟩|⟨n,hn,hl,hh⟩
  ·rw[zAb (by rw[hh];simp)]
   have:=aM1 (B:=B) hA hid
   rw[hd]
   exact this.trans hl.symm
  ·have hf:lZ l o.node=some n:=by rw[hl];exact vB hA hn
   rw[zAc (by rw[hh,hf,hof];simpa using hn),hf,zBs]
   have:=aGk (n:=n) (m:=bM l o) (B:=B) (by rw[hn];exact hA) (by rw[hn,hid])
   rw[hd]
   have h2:xC (A++bM l o::B) n=mH (A++bM l o::B) (pos (A++bM l o::B) o.node) (upto (A++bM l o::B) o.node) [n]:=by rw[xC,hn]
   rw[←h2,this,←hl]
theorem aEZ{l:List Nd}(o:Opn)(hs:chk l=true):chk (jQ l o)=true:=by
 cases hr:bB l o with
 |true=>rw[jQ,zAc hr];exact hs
 |false=>
  have hok:opOk o=true:=by
   grind [opOk,bB]
  have hof:dQ o.node=true:=by
   grind [opOk,rJ,uY]
  rw[kD hr];exact aGi hs (by rw[gN];exact hof)
end Go.Proofs.YtolbeecicikoaaaGreatDoor
namespace Go.Proofs.YtolbeecicikoaaaGreatDoor
theorem vD{a b:Stm}:dD a b=true↔a.c<b.c∨(a.c=b.c∧a.r<b.r):=uW
theorem aCv{a b:Stm}:dD a b=false↔¬(a.c<b.c∨(a.c=b.c∧a.r<b.r)):=by rw[←vD,zBr]
theorem aGl{a b:Stm}(h1:a.c=b.c)(h2:a.r=b.r):a=b:=by cases a;cases b;simp_all
theorem aHB(a b:Stm):dD a b=true∨a=b∨dD b a=true:=by
 rw[vD,vD]
 by_cases h:a=b
 ·exact .inr (.inl h)
 ·have:¬(a.c=b.c∧a.r=b.r):=fun q=>h (aGl q.1 q.2)
  omega
theorem aDF{a b c:Stm}(h:dD a b=true)(k:dD b c=true):dD a c=true:=by
 rw[vD]at *;omega
theorem aBQ(a:Stm):dD a a=false:=by rw[aCv];omega
def logOf(l:List Opn):Lg:=⟨(cN l [] []).1,(cN l [] []).2⟩
abbrev Srt(l:List Opn):Prop:=l.Pairwise fun x y=>dD x.at_ y.at_=true
theorem aDG(a b:List Opn)(es:List Ent)(n:List Nd):cN (a++b) es n=cN b (cN a es n).1 (cN a es n).2:=by
 induction a generalizing es n<;>grind [zA1,cN]
theorem aJP(l:List Opn)(es:List Ent)(n:List Nd):cN l es n=(es++(cN l [] n).1,(cN l [] n).2):=by
 induction l generalizing es n with
 |nil=>simp[cN]
 |cons o l ih=>
  show cN l (es++[⟨o,qW n o⟩]) (jQ n o)=(es++(cN l ([]++[⟨o,qW n o⟩]) (jQ n o)).1,(cN l ([]++[⟨o,qW n o⟩]) (jQ n o)).2)
  grind
theorem aJQ(l:List Opn)(es:List Ent){n:List Nd}(h:chk n=true):chk (cN l es n).2=true:=by
 induction l generalizing es n with
 |nil=>exact h
 |cons o l ih=>exact ih _ (aEZ o h)
theorem aHC(l:List Opn):chk (logOf l).nodes=true:=aJQ l [] rfl
theorem gO(l:List Opn):opsG (logOf l)=l:=by rw[opsG,logOf,aDB];rfl
theorem aJR(a:Stm)(pre:List Opn)(r:List Opn)(h:∀x∈r,dD a x.at_=true):
  eP a (logOf (pre++r.reverse)).entries.reverse (logOf (pre++r.reverse)).nodes=((eP a (logOf pre).entries.reverse (logOf pre).nodes).1+r.length,(eP a (logOf pre).entries.reverse (logOf pre).nodes).2):=by
 induction r with
 |nil=>simp
 |cons x r ih=>
  have h2:=ih fun y hy=>h y (by simp[hy])
  have e:pre++(x::r).reverse=(pre++r.reverse)++[x]:=by simp
  have e2:logOf ((pre++r.reverse)++[x])=⟨(logOf (pre++r.reverse)).entries++[⟨x,qW (logOf (pre++r.reverse)).nodes x⟩],jQ (logOf (pre++r.reverse)).nodes x⟩:=by
   rw[logOf,xB];rfl
  rw[e,e2]
  simp only[List.reverse_append,List.reverse_cons,List.reverse_nil,zAG,zA1]
  rw[eP,zAc (h x (by simp)),aM2 x (aHC _),h2]
  simp[zCc]
theorem aHD(a:Stm)(pre:List Opn)(h:∀x∈pre,dD a x.at_=false)(n:List Nd):(eP a (logOf pre).entries.reverse n).1=0∧(eP a (logOf pre).entries.reverse n).2=n:=by
 cases hr:(logOf pre).entries.reverse with
 |nil=>exact⟨rfl,rfl⟩
 |cons e r=>
  have he:e∈(logOf pre).entries:=by rw[←zCx,hr];simp
  have h1:e.op∈opsG (logOf pre):=zCg he
  rw[gO]at h1
  rw[eP,zAb (by rw[h _ h1];decide)]
  exact⟨rfl,rfl⟩
def dV(o:Opn)(l:List Opn):List Opn:=l.takeWhile fun x=> !dD o.at_ x.at_
def nV(o:Opn)(l:List Opn):List Opn:=l.dropWhile fun x=> !dD o.at_ x.at_
def tU(o:Opn)(l:List Opn):List Opn:=dV o l++o::nV o l
theorem kE(o:Opn)(l:List Opn):dV o l++nV o l=l:=List.takeWhile_append_dropWhile
theorem aCw(o:Opn)(l:List Opn):∀x∈dV o l,dD o.at_ x.at_=false:=by
 intro x hx
 unfold dV at hx
 induction l with
 |nil=>simp at hx
 |cons y l ih=>
  grind [zBq,zAv]
theorem aCx{o:Opn}{l:List Opn}(h:Srt l):∀x∈nV o l,dD o.at_ x.at_=true:=by
 intro x hx
 unfold nV at hx
 induction l with
 |nil=>simp at hx
 |cons y l ih=>
  rw[Srt,zBj]at h
  rw[List.dropWhile_cons]at hx
  split at hx
  ·exact ih h.2 hx
  ·rename_i hy
   have hy:dD o.at_ y.at_=true:=by simpa using hy
   rw[zAv]at hx
   rcases hx with rfl|hx
   ·exact hy
   ·exact aDF hy (h.1 x hx)
theorem aGm{l:List Opn}(hs:Srt l)(o:Opn)(h1:opOk o=true)(h2:fA (logOf l).entries o.at_=false)(h3:(l.length:Int)<200):dU (logOf l) o=logOf (tU o l):=by
 have hlen:(logOf l).entries.length=l.length:=by
  have:=zAp List.length (gO l);rwa[opsG,zAj]at this
 have hu:=aJR o.at_ (dV o l) (nV o l).reverse (fun x hx=>aCx hs x (zCx.1 hx))
 rw[List.reverse_reverse,kE]at hu
 have hn:=aHD o.at_ (dV o l) (aCw o l) (logOf (dV o l)).nodes
 have hu2:eP o.at_ (logOf l).entries.reverse (logOf l).nodes=((nV o l).length,(logOf (dV o l)).nodes):=by
  rw[hu,hn.2,hn.1];simp
 have hll:l.length=(dV o l).length+(nV o l).length:=by
  have:=zAp List.length (kE o l);grind
 have he:(logOf l).entries=(logOf (dV o l)).entries++(cN (nV o l) [] (logOf (dV o l)).nodes).1:=by
  have e:(logOf l).entries=(logOf (dV o l++nV o l)).entries:=zAp (fun x=>(logOf x).entries) (kE o l).symm
  rw[e,logOf,aDG,aJP (nV o l)];rfl
 have hpl:(logOf (dV o l)).entries.length=(dV o l).length:=by
  have:=zAp List.length (gO (dV o l));rwa[opsG,zAj]at this
 rw[dU,zAb (by rw[h1];decide),zAb (by rw[h2];decide),zAb (by omega),hu2]
 simp only
 have e1:(logOf l).entries.length-(nV o l).length=(dV o l).length:=by omega
 have e2:(logOf l).entries.take (dV o l).length=(logOf (dV o l)).entries:=by rw[he,←hpl,zCH];rfl
 have e3:((logOf l).entries.drop (dV o l).length).map Ent.op=nV o l:=by
  rw[zCh]
  have:=gO l
  rw[opsG]at this
  rw[this]
  exact(zAp (List.drop (dV o l).length) (kE o l).symm).trans (List.drop_left' rfl)
 rw[e1,e2,e3,tU]
 have e4:logOf (dV o l++o::nV o l)=⟨(cN (o::nV o l) (cN (dV o l) [] []).1 (cN (dV o l) [] []).2).1,(cN (o::nV o l) (cN (dV o l) [] []).1 (cN (dV o l) [] []).2).2⟩:=by
  rw[logOf,aDG]
 rw[e4]
 rfl
theorem vE{o x:Opn}{l:List Opn}:x∈tU o l↔x=o∨x∈l:=by
 rw[tU,zAD,zAv]
 have:x∈l↔x∈dV o l∨x∈nV o l:=by rw[←zAD,kE]
 grind
theorem aM3(o:Opn)(l:List Opn):(tU o l).length=l.length+1:=by
 have:=zAp List.length (kE o l)
 rw[zAe]at this
 rw[tU,zAe,zAm];omega
theorem aM4{o:Opn}{l:List Opn}(hs:Srt l)(hn:∀x∈l,x.at_≠o.at_):Srt (tU o l):=by
 have h0:=hs
 rw[←kE o l]at h0
 rw[Srt,zBp]at h0
 rw[tU,Srt,zBp,zBj]
 have hp:∀x∈dV o l,dD x.at_ o.at_=true:=fun x hx=>by
  have hx1:=aCw o l x hx
  rcases aHB o.at_ x.at_ with q|q|q
  ·rw[q]at hx1;cases hx1
  ·exact absurd q.symm (hn x (by rw[←kE o l];simp[hx]))
  ·exact q
 refine⟨h0.1,⟨aCx hs,h0.2.1⟩,fun a ha b hb=>?_⟩
 grind
theorem xD(l:List Opn)(a:Stm):fA (logOf l).entries a=l.any fun o=>decide (o.at_=a):=by rw[hasAt_ops',gO]
 where hasAt_ops' {g:Lg} {a:Stm}:fA g.entries a=(opsG g).any fun o=>decide (o.at_=a):=by rw[fA,opsG,List.any_map];rfl
structure Good (g:Lg):Prop where
 log:g=logOf (opsG g)
 srt:Srt (opsG g)
 ok:∀o∈opsG g,opOk o=true
theorem aJS:Good ⟨[],[]⟩:=⟨rfl,by simp[opsG],by simp[opsG]⟩
theorem oY{g:Lg}(h:Good g)(o:Opn):Good (dU g o)∧(opsG (dU g o)=opsG g∧dU g o=g∧(opOk o=false∨(∃x∈opsG g,x.at_=o.at_)∨200≤(opsG g).length)∨opsG (dU g o)=tU o (opsG g)∧opOk o=true∧(∀x∈opsG g,x.at_≠o.at_)):=by
 have hlen:(opsG g).length=g.entries.length:=zAj ..
 by_cases h1:opOk o=true
 ·by_cases h2:fA g.entries o.at_=true
  ·have e:dU g o=g:=by rw[dU,zAb (by rw[h1];decide),zAc h2]
   rw[e]
   refine⟨h,.inl ⟨rfl,rfl,.inr (.inl ?_)⟩⟩
   rw[h.log,xD]at h2
   grind
  ·by_cases h3:(200:Int)≤(g.entries.length:Int)
   ·have e:dU g o=g:=by rw[dU,zAb (by rw[h1];decide),zAb h2,zAc h3]
    rw[e]
    exact⟨h,.inl ⟨rfl,rfl,.inr (.inr (by omega))⟩⟩
   ·have hno:∀x∈opsG g,x.at_≠o.at_:=by
     intro x hx e
     apply h2
     rw[h.log,xD]
     exact zBU.2 ⟨x,hx,by simpa using e⟩
    have h2':fA (logOf (opsG g)).entries o.at_=false:=by rw[←h.log];simpa using h2
    have e:=aGm h.srt o h1 h2' (by omega)
    rw[←h.log]at e
    rw[e,gO]
    exact⟨⟨by rw[gO],by rw[gO];exact aM4 h.srt hno,by rw[gO];intro x hx;rcases vE.1 hx with rfl|hx;exact h1;exact h.ok x hx⟩,.inr ⟨rfl,h1,hno⟩⟩
 ·have h1:opOk o=false:=by simpa using h1
  have e:dU g o=g:=by rw[dU,zAc h1]
  rw[e]
  exact⟨h,.inl ⟨rfl,rfl,.inl h1⟩⟩
theorem vF{g:Lg}(h:Good g)(l:List Opn):Good (eQ g l):=by
 induction l generalizing g with
 |nil=>exact h
 |cons o l ih=>exact ih (oY h o).1
theorem aM5{g:Lg}(hg:Good g)(l:List Opn):(∀x∈opsG (eQ g l),x∈opsG g∨x∈l∧opOk x=true)∧(∀x∈opsG g,x∈opsG (eQ g l))∧(opsG (eQ g l)).length≤(opsG g).length+l.length∧
  ((opsG g).length+l.length≤200→∀x∈l,opOk x=true→∃y∈opsG (eQ g l),y.at_=x.at_):=by
 induction l generalizing g with
 |nil=>grind [Good,List,Opn,opsG,eQ,opOk]
 |cons o l ih=>
  obtain⟨h1,h2⟩:=oY hg o
  obtain⟨i1,i2,i3,i4⟩:=ih h1
  show(∀x∈opsG (eQ (dU g o) l),_)∧(∀x∈opsG g,x∈opsG (eQ (dU g o) l))∧(opsG (eQ (dU g o) l)).length≤_∧(_→∀x∈o::l,_→∃y∈opsG (eQ (dU g o) l),_)
  rcases h2 with⟨e1,e2,e3⟩|⟨e1,e2,e3⟩
  ·grind
  ·rw[e1]at i1 i2 i3 i4
   rw[aM3]at i3 i4
   refine⟨fun x hx=>?_,fun x hx=>i2 x (vE.2 (.inr hx)),by simp only[zAm];omega,fun hle x hx hxo=>?_⟩
   ·rcases i1 x hx with q|q
    ·rcases vE.1 q with rfl|q
     ·exact .inr ⟨by simp,e2⟩
     ·exact .inl q
    ·exact .inr ⟨zAP _ q.1,q.2⟩
   ·simp only[zAm]at hle
    rw[zAv]at hx
    rcases hx with rfl|hx
    ·exact⟨x,i2 x (vE.2 (.inl rfl)),rfl⟩
    ·exact i4 (by omega) x hx hxo
end Go.Proofs.YtolbeecicikoaaaGreatDoor
namespace Go.Proofs.YtolbeecicikoaaaGreatDoor
def rK(o:Opn)(out:List Opn):Nat:=out.length-(out.reverse.takeWhile fun x=>dD o.at_ x.at_).length
def qU(out:List Opn)(o:Opn):List Opn:=
 if(!opOk o||(decide (0<rK o out)&&decide ((out.getD (rK o out-1) op0).at_=o.at_)))=true then out
 else out.take (rK o out)++o::out.drop (rK o out)
def lJ(l:List Opn):List Opn:=l.foldl qU []
theorem aAJ(l:List Opn)(o:Opn):lJ (l++[o])=qU (lJ l) o:=by simp[lJ]
theorem tF{α:Type}(p:α→Bool)(a b:List α)(h:∀x∈a,p x=true)(hb:∀x∈b,p x=false):(a++b).takeWhile p=a:=by
 induction a with
 |nil=>
  cases b with
  |nil=>rfl
  |cons x b=>simp[hb x (by simp)]
 |cons x a ih=>
  simp_all
theorem aQV{o:Opn}{l:List Opn}(hs:Srt l):rK o l=(dV o l).length:=by
 have h1:=kE o l
 have h2:l.reverse.takeWhile (fun x=>dD o.at_ x.at_)=(nV o l).reverse:=by
  conv=>lhs;rw[←h1]
  rw[List.reverse_append]
  exact tF _ _ _ (fun x hx=>aCx hs x (zCx.1 hx)) (fun x hx=>aCw o l x (zCx.1 hx))
 have h3:=zAp List.length h1
 rw[zAe]at h3
 rw[rK,h2,zA9];omega
theorem aDH{o:Opn}{l:List Opn}(hs:Srt l):qU l o=if opOk o=false∨(∃x∈l,x.at_=o.at_)then l else tU o l:=by
 have hk:=aQV (o:=o) hs
 have hps:=kE o l
 have key:(decide (0<rK o l)&&decide ((l.getD (rK o l-1) op0).at_=o.at_))=true↔∃x∈l,x.at_=o.at_:=by
  rw[zAl,zAr,zAr,hk]
  constructor
  ·grind
  ·rintro⟨x,hx,he⟩
   have hxp:x∈dV o l:=by
    rw[←hps,zAD]at hx
    rcases hx with hx|hx
    ·exact hx
    ·have:=aCx hs x hx
     rw[he,aBQ]at this;cases this
   have hp:0<(dV o l).length:=List.length_pos_of_mem hxp
   refine⟨hp,?_⟩
   have hsp:Srt (dV o l):=by
    have h0:=hs
    rw[←hps,Srt,zBp]at h0
    exact h0.1
   have e:l.getD ((dV o l).length-1) op0=(dV o l)[(dV o l).length-1]'(by omega):=by
    have e0:l.getD ((dV o l).length-1) op0=(dV o l++nV o l).getD ((dV o l).length-1) op0:=zAp (fun x=>List.getD x ((dV o l).length-1) op0) hps.symm
    rw[e0,zAs,zAt (by omega),zAo (by omega)];rfl
   rw[e]
   obtain⟨i,hi,rfl⟩:=zB1 hxp
   by_cases hil:i=(dV o l).length-1
   ·subst hil;exact he
   ·have h1:=zBn.1 hsp i ((dV o l).length-1) hi (by omega) (by omega)
    rw[he]at h1
    have h2:=aCw o l _ (zAF (show(dV o l).length-1<(dV o l).length by omega))
    rw[h1]at h2;cases h2
 unfold qU
 by_cases h1:opOk o=false
 ·rw[zAc (by rw[h1];rfl),zAc (.inl h1)]
 ·have h1':opOk o=true:=by simpa using h1
  by_cases h2:∃x∈l,x.at_=o.at_
  ·rw[zAc (by rw[key.2 h2];simp),zAc (.inr h2)]
  ·have h2':(decide (0<rK o l)&&decide ((l.getD (rK o l-1) op0).at_=o.at_))=false:=by
    rw[zB8];exact fun q=>h2 (key.1 q)
   rw[zAb (by rw[h1',h2'];simp),zAb (by rintro(q|q);exact h1 q;exact h2 q),hk,tU]
   have e1:l.take (dV o l).length=dV o l:=(zAp (List.take (dV o l).length) hps.symm).trans (zCH rfl)
   have e2:l.drop (dV o l).length=nV o l:=(zAp (List.drop (dV o l).length) hps.symm).trans (List.drop_left' rfl)
   rw[e1,e2]
theorem aJT{l:List Opn}(hs:Srt l)(ho:∀o∈l,opOk o=true):lJ l=l:=by
 suffices h:∀(l acc:List Opn),Srt (acc++l)→(∀o∈l,opOk o=true)→l.foldl qU acc=acc++l from by have:=h l [] (by simpa using hs) ho;rw[zAG]at this;exact this
 intro l
 induction l with
 |nil=>intro acc _ _;simp
 |cons o l ih=>
  intro acc h1 h2
  have h3:=h1
  rw[Srt,zBp]at h3
  obtain⟨g1,g2,g3⟩:=h3
  have hless:∀x∈acc,dD x.at_ o.at_=true:=fun x hx=>g3 x hx o (by simp)
  have hno:¬(opOk o=false∨∃x∈acc,x.at_=o.at_):=by
   rintro(q|⟨x,hx,e⟩)
   ·rw[h2 o (by simp)]at q;cases q
   ·have:=hless x hx;rw[e,aBQ]at this;cases this
  have hpre:∀a:List Opn,(∀x∈a,dD x.at_ o.at_=true)→dV o a=a∧nV o a=[]:=by
   intro a ha
   unfold dV nV
   induction a with
   |nil=>exact⟨rfl,rfl⟩
   |cons y a iha=>
    have hy:dD o.at_ y.at_=false:=by
     have:=vD.1 (ha y (by simp));rw[aCv];omega
    have:=iha fun x hx=>ha x (by simp[hx])
    rw[zBq,List.dropWhile_cons]
    simp only[hy,zBb,zAU]
    exact⟨by rw[this.1],this.2⟩
  have e:qU acc o=acc++[o]:=by
   rw[aDH g1,zAb hno,tU,(hpre acc hless).1,(hpre acc hless).2]
  grind
def aAK(g:Lg)(o:Opn):Lg:=if opOk o=false then g else if fA g.entries o.at_=true then g else if(200:Int)≤(g.entries.length:Int)then g else logOf (lJ (opsG g++[o]))
theorem aDI{g:Lg}(h:Good g)(o:Opn):aAK g o=dU g o:=by
 unfold aAK
 by_cases h1:opOk o=false
 ·rw[zAc h1,dU,zAc h1]
 ·by_cases h2:fA g.entries o.at_=true
  ·grind [dU]
  ·by_cases h3:(200:Int)≤(g.entries.length:Int)
   ·rw[zAb h1,zAb h2,zAc h3,dU,zAb h1,zAb h2,zAc h3]
   ·rw[zAb h1,zAb h2,zAb h3,aAJ,aJT h.srt h.ok,aDH h.srt]
    have hno:¬(opOk o=false∨∃x∈opsG g,x.at_=o.at_):=by
     rintro(q|⟨x,hx,e⟩)
     ·exact h1 q
     ·apply h2
      rw[h.log,xD]
      exact zBU.2 ⟨x,hx,by simpa using e⟩
    rw[zAb hno]
    have e:=aGm h.srt o (by simpa using h1) (by rw[←h.log];simpa using h2) (by rw[opsG,zAj];omega)
    rw[←h.log]at e
    exact e.symm
end Go.Proofs.YtolbeecicikoaaaGreatDoor
