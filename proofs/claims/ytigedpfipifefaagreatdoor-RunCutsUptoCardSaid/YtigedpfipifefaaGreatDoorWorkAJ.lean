/- What the functions of this seat answer (10 of 40). No condition. -/
import Derived.Test.YtigedpfipifefaaGreatDoorWorkAH
set_option linter.unusedSimpArgs false
set_option linter.unusedVariables false
set_option maxRecDepth 100000
set_option maxHeartbeats 16000000
namespace Go.Proofs.YtigedpfipifefaaGreatDoor
section
def sK:Option Int→List Nd→Bool
 |_,[]=>true
 |p,n::l=>(iC n.id&&(match p with|none=>true|some q=>decide (q<n.id)))&&sK (some n.id) l
def chk(l:List Nd):Bool:=sK none l
def jY(l:List Nd)(i:Nat):Option Int:=if i=0 then none else(l[i-1]?).map (·.id)
theorem aBK{l:List Nd}{i:Nat}(h:i<l.length):sK (jY l i) (l.drop i)=
  ((iC l[i].id&& !(decide ((0:Int)<(i:Int))&&decide (l[i].id≤(l[i-1]'(by omega)).id)))&&sK (jY l (i+1)) (l.drop (i+1))):=by
 rw[zA4 h,show sK (jY l i) (l[i]::l.drop (i+1))=((iC l[i].id&&(match jY l i with|none=>true|some q=>decide (q<l[i].id)))&&sK (some l[i].id) (l.drop (i+1)))from by cases jY l i<;>rfl]
 have e:jY l (i+1)=some l[i].id:=by
  simp[jY,zAd h]
 rw[e];congr 2;unfold jY;grind
def aA0(p:Option Int)(l:List Nd):Prop:=match p with|none=>True|some q=>∀x∈l,q<x.id
theorem aDy(p:Option Int)(l:List Nd):sK p l=true↔(∀x∈l,iC x.id=true)∧l.Pairwise (fun a b=>a.id<b.id)∧aA0 p l:=by
 induction l generalizing p with
 |nil=>cases p<;>simp[sK,aA0]
 |cons n l ih=>
  grind [sK,List.pairwise_cons,aA0,zAC,Option,Int,List,iC]
theorem uX(l:List Nd):chk l=true↔(∀x∈l,iC x.id=true)∧l.Pairwise (fun a b=>a.id<b.id):=by
 unfold chk;rw[aDy];simp[aA0]
def pos:List Nd→Int→Nat
 |[],_=>0
 |n::l,id=>if n.id<id then pos l id+1 else 0
def wY(l:List Nd)(id:Int):Option Nd:=l.find? (fun n=>decide (n.id=id))
def had(l:List Nd)(id:Int):Bool:=(wY l id).isSome
theorem aI9{l:List Nd}{id:Int}{i:Nat}(hi:i≤l.length)(h1:∀k (hk:k<i),(l[k]'(by omega)).id<id)(h2:∀(h:i<l.length),¬l[i].id<id):pos l id=i:=by
 induction l generalizing i with
 |nil=>simp at hi;subst hi;rfl
 |cons n l ih=>
  unfold pos;cases i with
  |zero=>grind
  |succ i=>
   have:=h1 0 (by omega)
   simp at this;rw[zAp this,ih (i:=i) (by simpa using hi) (fun k hk=>by grind) (fun h=>by have:=h2 (by simpa using h);simpa using this)]
theorem aA1{l:List Nd}{id:Int}(hs:chk l=true):wY l id=match l[pos l id]? with|some n=>if n.id=id then some n else none|none=>none:=by
 have hp:=((uX l).1 hs).2;clear hs;induction l with
 |nil=>rfl
 |cons n l ih=>
  rw[List.pairwise_cons]at hp;unfold wY pos;rw[List.find?_cons];by_cases h:n.id<id
  ·rw[zAp h,dF];simp only[zA1];exact ih hp.2
  ·grind
theorem pU{l:List Nd}{id:Int}(hs:chk l=true):had l id=(match l[pos l id]? with|some n=>decide (n.id=id)|none=>false):=by
 rw[had,aA1 hs];split
 ·split<;>simp_all
 ·rfl
theorem zV{l:List Nd}{id:Int}(hs:chk l=true)(h:had l id=true):pos l id<l.length:=by
 rw[pU hs]at h;split at h
 ·rename_i n hn;exact(eT.1 hn).1
 ·cases h
theorem aF5{l:List Nd}{id:Int}(hs:chk l=true)(h:had l id=true):wY l id=some (l[pos l id]'(zV hs h)):=by
 have hlt:=zV hs h;rw[pU hs,zAd hlt]at h;rw[aA1 hs,zAd hlt];grind
theorem aJa{l:List Nd}{id:Int}(h:had l id=false):wY l id=none:=by
 unfold had at h;cases hf:wY l id<;>simp_all
def dZ(l:List Nd):Nat→Int→List Int
 |0,_=>[]
 |k+1,id=>match wY l id with
  |none=>[]
  |some n=>if n.parent= -1 then[]else n.parent::dZ l k n.parent
def dK(l:List Nd)(id:Int):List Int:=dZ l l.length id
def uY(l:List Nd)(id:Int):List Int:=if chk l=true then dK l id else[]
def aMq(l:List Nd)(id:Int):Option Nd:=if chk l=true then wY l id else none
def aJb(l:List Nd)(i j:Nat)(xs:List Nd):List Nd:=l.take i++xs++l.drop j
def aJc(l:List Nd)(o:Opn):Bool:=decide (o.parent=o.node)||(dK l o.parent).any (fun x=>decide (x=o.node))
def aA2(l:List Nd)(o:Opn):Bool:= !chk l|| !aDt o||(decide (o.kind=1)&&aJc l o)
def aA3(l:List Nd)(o:Opn):Nd:=match wY l o.node with|some n=>n|none=>{nd0 with id:=o.node,parent:= -1}
def aF6(l:List Nd)(o:Opn):Nd:=
 if o.kind=1 then{aA3 l o with parent:=o.parent,name:=o.name,moved:=o.at_}else{aA3 l o with data:=o.data,wrote:=o.at_}
def upto(l:List Nd)(id:Int):Nat:=if had l id=true then pos l id+1 else pos l id
def doL(l:List Nd)(o:Opn):List Nd:=if aA2 l o=true then l else aJb l (pos l o.node) (upto l o.node) [aF6 l o]
def doU(l:List Nd)(o:Opn):Und:=if aA2 l o=true then aOd else⟨true,had l o.node,(wY l o.node).getD nd0⟩
def aHy(l:List Nd)(o:Opn)(u:Und):List Nd:=
 if(!chk l|| !u.did)=true then l
 else if(iC o.node&&u.had&&decide (u.was.id=o.node))=true then aJb l (pos l o.node) (upto l o.node) [u.was]
 else aJb l (pos l o.node) (upto l o.node) []
end
section
def inD(dir:Int)(n:Nd):Bool:=decide (n.parent=dir)&&okI n.moved.c n.moved.r
def fN(s:Txt):List (Txt×Nd)→Option Nd
 |[]=>none
 |(k,n)::m=>if k=s then some n else fN s m
def iI(s:Txt)(n:Nd):List (Txt×Nd)→List (Txt×Nd)
 |[]=>[(s,n)]
 |(k,x)::m=>if k=s then(s,n)::m else(k,x)::iI s n m
def wZ(m:List (Txt×Nd))(n:Nd):List (Txt×Nd):=match fN n.name m with
 |none=>iI n.name n m
 |some o=>if rD n.moved.c n.moved.r o.moved.c o.moved.r=true then m else iI n.name n m
def rG(dir:Int)(m:List (Txt×Nd))(n:Nd):List (Txt×Nd):=if inD dir n=true then wZ m n else m
def dO(l:List Nd)(dir:Int):List (Txt×Nd):=l.foldl (rG dir) []
def childN(l:List Nd)(dir:Int)(s:Txt):Option Nd:=if chk l=true then fN s (dO l dir)else none
def aHz(l:List Nd):Int→List Txt→Int×Int
 |at_,[]=>(at_,0)
 |at_,s::names=>if dirI at_=true then(match childN l at_ s with|some n=>aHz l n.id names|none=>(0,80))else(0,81)
def xA(l:List Nd)(names:List Txt):Int×Int:=aHz l 0 names
def kF:Nat→List (Txt×Nd)→List (AV×AV×Nat)
 |_,[]=>[]
 |b,p::m=>(.str p.1,ndA p.2,b)::kF (b+1) m
theorem aDA(b:Nat)(m:List (Txt×Nd)):keysIn .string (kF b m):=by
 induction m generalizing b with
 |nil=>exact fun p hp=>by simp[kF]at hp
 |cons p m ih=>
  intro q hq;rcases zAC.1 hq with rfl|hq
  ·rfl
  ·exact ih _ q hq
theorem aNy(b:Nat)(m:List (Txt×Nd)):(kF b m).length=m.length:=by
 induction m generalizing b with
 |nil=>rfl
 |cons p m ih=>simp[kF,ih]
theorem aJd(b:Nat)(m:List (Txt×Nd))(s:Txt):(fN s m=none∧keyAt (.str s) (kF b m)=none)∨∃n j,fN s m=some n∧keyAt (.str s) (kF b m)=some (j,ndA n):=by
 induction m generalizing b with
 |nil=>exact .inl ⟨rfl,rfl⟩
 |cons p m ih=>
  obtain⟨k,n⟩:=p;by_cases h:k=s
  ·subst h;exact .inr ⟨n,0,by simp[fN],by simp[kF,keyAt,oT]⟩
  ·have h':oT (.str s) (.str k)=false:=by simp[oT];exact fun e=>h e.symm
   rcases ih (b+1)with⟨h1,h2⟩|⟨x,j,h1,h2⟩
   ·exact .inl ⟨by simp[fN,h,h1],by simp[kF,keyAt,h',h2]⟩
   ·exact .inr ⟨x,j+1,by simp[fN,h,h1],by simp[kF,keyAt,h',h2]⟩
theorem xB{x y v w:AV}{b clock:Nat}{es:List (AV×AV×Nat)}(h:oT x y=false):nS x v ((y,w,b)::es) clock=(y,w,b)::nS x v es clock:=by
 simp only[nS,keyAt,h,zCc];cases keyAt x es with
 |none=>rfl
 |some p=>rfl
theorem sL{x y w:AV}{b clock:Nat}{es:List (AV×AV×Nat)}(h:oT x y=false):jD x ((y,w,b)::es) clock=jD x es clock:=by
 simp only[jD,keyAt,h,zCc];cases keyAt x es<;>rfl
theorem aF7(b:Nat)(m:List (Txt×Nd))(s:Txt)(n:Nd):nS (.str s) (ndA n) (kF b m) (b+m.length)=kF b (iI s n m)∧jD (.str s) (kF b m) (b+m.length)=b+(iI s n m).length:=by
 induction m generalizing b with
 |nil=>exact⟨rfl,rfl⟩
 |cons p m ih=>
  obtain⟨k,x⟩:=p;by_cases h:k=s
  ·subst h;exact⟨by simp[kF,nS,keyAt,oT,iI],by simp[kF,jD,keyAt,oT,iI]⟩
  ·have h':oT (.str s) (.str k)=false:=by simp[oT];exact fun e=>h e.symm
   obtain⟨h1,h2⟩:=ih (b+1);have e:b+((k,x)::m).length=b+1+m.length:=by simp;omega
   rw[e];simp only[kF,iI,zAk h];rw[xB h',sL h',h1,h2];exact⟨rfl,by simp;omega⟩
theorem aDB(m:List (Txt×Nd))(s:Txt)(n:Nd):ABlk.map (nS (.str s) (ndA n) (kF 0 m) m.length) (jD (.str s) (kF 0 m) m.length)=.map (kF 0 (iI s n m)) (iI s n m).length:=by
 have:=aF7 0 m s n;rw[zBn,zBn]at this;rw[this.1,this.2]
theorem aMr(k:Nat)(n:Nd):Cl k (ndA n):=(Pur.agg _ fun x hx=>by
 simp only[zAC,zBl,or_false]at hx;rcases hx with rfl|rfl|rfl|rfl|rfl|rfl|rfl|rfl<;>first|exact .int _ _|exact .str _).cl k
theorem aDC(k b:Nat)(m:List (Txt×Nd)):∀p∈kF b m,Cl k p.1∧Cl k p.2.1:=by
 induction m generalizing b with
 |nil=>exact fun p hp=>by simp[kF]at hp
 |cons q m ih=>
  intro p hp;rcases zAC.1 hp with rfl|hp
  ·exact⟨.str _,aMr k _⟩
  ·exact ih _ p hp
end
section
@[go_sem] theorem aEY{P:Program}(ts tx:TypeId)(f g:Bool)(es r:List AV)(e:AV)(H:AHeap):mS P ts tx (.sl f es) (.sl g (e::r)) H=gP P ts tx (.sl f es) (.sl g (e::r)) H:=by
 cases es with
 |nil=>rfl
 |cons a es=>simp[mS,cE]
def aMs(a b:Stm):Bool:=rD a.c a.r b.c b.r
def aDD(l:List Ent)(a:Stm):Bool:=l.any fun e=>decide (e.op.at_=a)
def pA(a:Stm):List Ent→List Nd→Nat×List Nd
 |[],n=>(0,n)
 |e::r,n=>if aMs a e.op.at_=true then((pA a r (aHy n e.op e.undo)).1+1,(pA a r (aHy n e.op e.undo)).2)else(0,n)
def aJe:List Opn→List Ent→List Nd→List Ent×List Nd
 |[],es,n=>(es,n)
 |o::os,es,n=>aJe os (es++[⟨o,doU n o⟩]) (doL n o)
def aMt(g:Lg)(o:Opn):Lg:=
 if aDt o=false then g else if aDD g.entries o.at_=true then g else if(200:Int)≤(g.entries.length:Int)then g
 else
  ⟨(aJe (o::(g.entries.drop (g.entries.length-(pA o.at_ g.entries.reverse g.nodes).1)).map Ent.op) (g.entries.take (g.entries.length-(pA o.at_ g.entries.reverse g.nodes).1)) (pA o.at_ g.entries.reverse g.nodes).2).1,
    (aJe (o::(g.entries.drop (g.entries.length-(pA o.at_ g.entries.reverse g.nodes).1)).map Ent.op) (g.entries.take (g.entries.length-(pA o.at_ g.entries.reverse g.nodes).1)) (pA o.at_ g.entries.reverse g.nodes).2).2⟩
def aMu(g:Lg)(o:Opn):Int:=
 if aDt o=false then 50 else if aDD g.entries o.at_=true then 0 else if(200:Int)≤(g.entries.length:Int)then 193 else 0
end
section
theorem aDE{s:Txt}{n:Nd}{m:List (Txt×Nd)}{p:Txt×Nd}(h:p∈iI s n m):p.2=n∨p∈m:=by
 induction m with
 |nil=>simp[iI]at h;left;rw[h]
 |cons q m ih=>
  obtain⟨k,x⟩:=q;unfold iI at h;split at h
  ·rcases zAC.1 h with rfl|h
   ·exact .inl rfl
   ·exact .inr (zBO _ h)
  ·rcases zAC.1 h with rfl|h
   ·exact .inr (by simp)
   ·rcases ih h with h|h
    ·exact .inl h
    ·exact .inr (zBO _ h)
theorem aBL(l:List Nd)(dir:Int):∀p∈dO l dir,p.2∈l∧inD dir p.2=true:=by
 suffices h:∀(k l:List Nd) (m:List (Txt×Nd)),(∀p∈m,p.2∈l∧inD dir p.2=true)→(∀n∈k,n∈l)→∀p∈k.foldl (rG dir) m,p.2∈l∧inD dir p.2=true from h l l [] (fun p hp=>by cases hp) (fun n hn=>hn)
 intro k;induction k with
 |nil=>intro l m hm _;exact hm
 |cons x k ih=>
  intro l m hm hk;refine ih l (rG dir m x) (fun p hp=>?_) (fun n hn=>hk n (zBO _ hn))
  unfold rG at hp;split at hp
  ·rename_i hx;unfold wZ at hp;have hs:∀p∈iI x.name x m,p.2∈l∧inD dir p.2=true:=fun p hp=>by
    rcases aDE hp with e|h
    ·rw[e];exact⟨hk x (by simp),hx⟩
    ·exact hm p h
   split at hp
   ·exact hs p hp
   ·split at hp
    ·exact hm p hp
    ·exact hs p hp
  ·exact hm p hp
end
end Go.Proofs.YtigedpfipifefaaGreatDoor
