/- The texts 9 of 51 beneath the rows of this seat (joined by program): the abstract machine, and what the functions answer. No condition. -/
import Derived.Test.YthhdnjiodklmmaaGreatDoorWorkAE
import Derived.Test.YthhdnjiodklmmaaGreatDoorWorkAG
set_option linter.unusedSimpArgs false
set_option linter.unusedVariables false
set_option linter.unusedSectionVars false
/- Two lists held against each other; short lists. No condition. -/
namespace Go.Gw
end Go.Gw
namespace Go.Proofs.YthhdnjiodklmmaaGreatDoor
open Go Go.Aw Go.Gw
set_option linter.unusedSimpArgs false
set_option maxRecDepth 20000
theorem aFK(a b:Nd):(decide (a.id=b.id)&&(decide (a.parent=b.parent)&&(decide (a.name=b.name)&&(decide (a.moved.c=b.moved.c)&&decide (a.moved.r=b.moved.r)&&(decide (a.data=b.data)&&(decide (a.wrote.c=b.wrote.c)&&decide (a.wrote.r=b.wrote.r)))))))=decide (a=b):=by
 obtain⟨_,_,_,⟨_,_⟩,_,⟨_,_⟩⟩:=a
 obtain⟨_,_,_,⟨_,_⟩,_,⟨_,_⟩⟩:=b
 rw[Bool.eq_iff_iff];simp[and_assoc]
theorem aNS(a b:Opn):(decide (a.at_.c=b.at_.c)&&decide (a.at_.r=b.at_.r)&&(decide (a.kind=b.kind)&&(decide (a.node=b.node)&&(decide (a.parent=b.parent)&&(decide (a.name=b.name)&&decide (a.data=b.data))))))=decide (a=b):=by
 obtain⟨⟨_,_⟩,_,_,_,_,_⟩:=a
 obtain⟨⟨_,_⟩,_,_,_,_,_⟩:=b
 rw[Bool.eq_iff_iff];simp[and_assoc]
theorem yP(b1 b2:Bool)(l m:List Nd)(H:AHeap):cJ Tryz.prog 59 [.sl b1 (l.map ndA),.sl b2 (m.map ndA)] H (.bool (decide (l=m))):=by
 refine gI fun hok _=>?_
 have hl:=lK hok
 rw[List.length_map]at hl
 refine aL Tryz.func59 rfl (Nat.le_of_ble_eq_true rfl) ?_
 repeat' first|(refine gS ?_;simp only[go_sem])|refine gA ?_|(refine gD (fun h=>?_) (fun h=>?_)<;>try exact aA h)|fail
 ·exact aY (by simp only[go_sem]) (.of (by rw[decide_eq_false (fun e=>by subst e;simp at h)]))
 ·have hlen:l.length=m.length:=by simp at h;omega
  refine aP (ι:=Nat) (fun i=>[(0,.sl b1 (l.map ndA)),(1,.sl b2 (m.map ndA)),(5,.int .i64 i)]) (fun _=>H) (fun i=>i≤l.length∧l.take i=m.take i) (fun i=>l.length-i) 0 ⟨Nat.zero_le _,rfl⟩ ?_ rfl ?_
  ·simp[go_sem]
  ·rintro i ⟨hi,he⟩
   by_cases hlt:i<l.length
   ·have hp:=bA ndA hlt
    have hq:=bA ndA (show i<m.length by omega)
    repeat' first|(refine gS ?_;simp only[go_sem,hp,hq,ndA])|refine gA ?_|(refine gD (fun h=>?_) (fun h=>?_)<;>try exact aA h)|fail
    ·rw[aFK]at h
     have hne:l[i]≠m[i]:=by simpa using h
     exact aY (by simp only[go_sem]) (.of (by rw[decide_eq_false (fun e=>hne (by subst e;rfl))]))
    ·rw[aFK]at h
     have heq:l[i]=m[i]:=by simpa using h
     exact⟨i+1,⟨hlt,by rw[List.take_succ_eq_append_getElem hlt,List.take_succ_eq_append_getElem (by omega),he,heq]⟩,by omega,by rw[wrap_i64 (by omega) (by omega)];rfl⟩
   ·have hi':i=l.length:=by omega
    subst hi'
    repeat' first|(refine gS ?_;simp only[go_sem])|refine gA ?_|(refine gD (fun h=>?_) (fun h=>?_)<;>try exact aA h)|fail
    exact aY (by simp only[go_sem]) (.of (by rw[decide_eq_true (by rw[List.take_length,hlen,List.take_length]at he;exact he)]))
end Go.Proofs.YthhdnjiodklmmaaGreatDoor
/- Nodes, in plain Lean: whether they may be, places, what is above, what is done, and taken back. No condition. -/
namespace Go.Gw
open Go Go.Aw Go.Proofs.YthhdnjiodklmmaaGreatDoor
def aBc:Option Int→List Nd→Bool
 |_,[]=>true
 |p,n::l=>(fV n.id&&(match p with|none=>true|some q=>decide (q<n.id)))&&aBc (some n.id) l
def chk(l:List Nd):Bool:=aBc none l
def oX(l:List Nd)(i:Nat):Option Int:=if i=0 then none else(l[i-1]?).map (·.id)
theorem aG2{l:List Nd}{i:Nat}(h:i<l.length):aBc (oX l i) (l.drop i)=
  ((fV l[i].id&& !(decide ((0:Int)<(i:Int))&&decide (l[i].id≤(l[i-1]'(by omega)).id)))&&aBc (oX l (i+1)) (l.drop (i+1))):=by
 rw[List.drop_eq_getElem_cons h,show aBc (oX l i) (l[i]::l.drop (i+1))=((fV l[i].id&&(match oX l i with|none=>true|some q=>decide (q<l[i].id)))&&aBc (some l[i].id) (l.drop (i+1)))from by cases oX l i<;>rfl]
 have e:oX l (i+1)=some l[i].id:=by
  simp[oX,List.getElem?_eq_getElem h]
 rw[e]
 congr 2
 unfold oX
 by_cases h0:i=0
 ·subst h0;simp
 ·rw[if_neg h0,List.getElem?_eq_getElem (show i-1<l.length by omega)]
  simp only[Option.map_some]
  rw[Bool.eq_iff_iff]
  simp
  omega
def aDe(p:Option Int)(l:List Nd):Prop:=match p with|none=>True|some q=>∀x∈l,q<x.id
theorem aI2(p:Option Int)(l:List Nd):aBc p l=true↔(∀x∈l,fV x.id=true)∧l.Pairwise (fun a b=>a.id<b.id)∧aDe p l:=by
 induction l generalizing p with
 |nil=>cases p<;>simp[aBc,aDe]
 |cons n l ih=>
  unfold aBc
  rw[Bool.and_eq_true,Bool.and_eq_true,ih,List.pairwise_cons]
  cases p with
  |none=>simp only[aDe,List.mem_cons,forall_eq_or_imp];exact⟨fun⟨⟨h1,_⟩,h2,h3,h4⟩=>⟨⟨h1,h2⟩,⟨h4,h3⟩,trivial⟩,fun⟨⟨h1,h2⟩,⟨h4,h3⟩,_⟩=>⟨⟨h1,trivial⟩,h2,h3,h4⟩⟩
  |some q=>
   simp only[aDe,List.mem_cons,forall_eq_or_imp,decide_eq_true_eq]
   exact⟨fun⟨⟨h1,h0⟩,h2,h3,h4⟩=>⟨⟨h1,h2⟩,⟨h4,h3⟩,h0,fun x hx=>Int.lt_trans h0 (h4 x hx)⟩,fun⟨⟨h1,h2⟩,⟨h4,h3⟩,h0,_⟩=>⟨⟨h1,h0⟩,h2,h3,h4⟩⟩
theorem oY(l:List Nd):chk l=true↔(∀x∈l,fV x.id=true)∧l.Pairwise (fun a b=>a.id<b.id):=by
 unfold chk;rw[aI2];simp[aDe]
def pos:List Nd→Int→Nat
 |[],_=>0
 |n::l,id=>if n.id<id then pos l id+1 else 0
def oL(l:List Nd)(id:Int):Option Nd:=l.find? (fun n=>decide (n.id=id))
def had(l:List Nd)(id:Int):Bool:=(oL l id).isSome
theorem aQh(l:List Nd)(id:Int):pos l id≤l.length:=by
 induction l with
 |nil=>exact Nat.le_refl _
 |cons n l ih=>unfold pos;split<;>simp<;>omega
theorem aQi{l:List Nd}{id:Int}{i:Nat}(hi:i≤l.length)(h1:∀k (hk:k<i),(l[k]'(by omega)).id<id)(h2:∀(h:i<l.length),¬l[i].id<id):pos l id=i:=by
 induction l generalizing i with
 |nil=>simp at hi;subst hi;rfl
 |cons n l ih=>
  unfold pos
  cases i with
  |zero=>have:=h2 (by simp);simp at this;rw[if_neg (by omega)]
  |succ i=>
   have:=h1 0 (by omega)
   simp at this
   rw[if_pos this,ih (i:=i) (by simpa using hi) (fun k hk=>by have:=h1 (k+1) (by omega);simpa using this) (fun h=>by have:=h2 (by simpa using h);simpa using this)]
theorem aFL{l:List Nd}{id:Int}(hs:chk l=true):oL l id=match l[pos l id]? with|some n=>if n.id=id then some n else none|none=>none:=by
 have hp:=((oY l).1 hs).2
 clear hs
 induction l with
 |nil=>rfl
 |cons n l ih=>
  rw[List.pairwise_cons]at hp
  unfold oL pos
  rw[List.find?_cons]
  by_cases h:n.id<id
  ·rw[if_pos h,decide_eq_false (by omega)]
   simp only[List.getElem?_cons_succ]
   exact ih hp.2
  ·rw[if_neg h]
   simp only[List.getElem?_cons_zero]
   by_cases h2:n.id=id
   ·rw[if_pos h2,decide_eq_true h2]
   ·rw[if_neg h2,decide_eq_false h2]
    simp only
    rw[List.find?_eq_none]
    intro x hx
    have:=hp.1 x hx
    simp;omega
theorem oZ{l:List Nd}{id:Int}(hs:chk l=true):had l id=(match l[pos l id]? with|some n=>decide (n.id=id)|none=>false):=by
 rw[had,aFL hs]
 split
 ·split<;>simp_all
 ·rfl
theorem mG{l:List Nd}{id:Int}(hs:chk l=true)(h:had l id=true):pos l id<l.length:=by
 rw[oZ hs]at h
 split at h
 ·rename_i n hn;exact(List.getElem?_eq_some_iff.1 hn).1
 ·cases h
theorem yQ{l:List Nd}{id:Int}(hs:chk l=true)(h:had l id=true):oL l id=some (l[pos l id]'(mG hs h)):=by
 have hlt:=mG hs h
 rw[oZ hs,List.getElem?_eq_getElem hlt]at h
 rw[aFL hs,List.getElem?_eq_getElem hlt]
 simp only[decide_eq_true_eq]at h ⊢
 rw[if_pos h]
theorem aCi{l:List Nd}{id:Int}(h:had l id=false):oL l id=none:=by
 unfold had at h;cases hf:oL l id<;>simp_all
def fF(l:List Nd):Nat→Int→List Int
 |0,_=>[]
 |k+1,id=>match oL l id with
  |none=>[]
  |some n=>if n.parent= -1 then[]else n.parent::fF l k n.parent
def dX(l:List Nd)(id:Int):List Int:=fF l l.length id
def nM(l:List Nd)(id:Int):List Int:=if chk l=true then dX l id else[]
def findI(l:List Nd)(id:Int):Option Nd:=if chk l=true then oL l id else none
def nZ(l:List Nd)(i j:Nat)(xs:List Nd):List Nd:=l.take i++xs++l.drop j
def qB(l:List Nd)(o:Opn):Bool:=decide (o.parent=o.node)||(dX l o.parent).any (fun x=>decide (x=o.node))
def bW(l:List Nd)(o:Opn):Bool:= !chk l|| !opOk o||(decide (o.kind=1)&&qB l o)
def eQ(l:List Nd)(o:Opn):Nd:=match oL l o.node with|some n=>n|none=>{nd0 with id:=o.node,parent:= -1}
def cG(l:List Nd)(o:Opn):Nd:=
 if o.kind=1 then{eQ l o with parent:=o.parent,name:=o.name,moved:=o.at_}else{eQ l o with data:=o.data,wrote:=o.at_}
def upto(l:List Nd)(id:Int):Nat:=if had l id=true then pos l id+1 else pos l id
def kY(l:List Nd)(o:Opn):List Nd:=if bW l o=true then l else nZ l (pos l o.node) (upto l o.node) [cG l o]
def uK(l:List Nd)(o:Opn):Und:=if bW l o=true then aPg else⟨true,had l o.node,(oL l o.node).getD nd0⟩
def oD(l:List Nd)(o:Opn)(u:Und):List Nd:=
 if(!chk l|| !u.did)=true then l
 else if(fV o.node&&u.had&&decide (u.was.id=o.node))=true then nZ l (pos l o.node) (upto l o.node) [u.was]
 else nZ l (pos l o.node) (upto l o.node) []
theorem yR(l:List Nd)(id:Int)(hs:chk l=true):pos l id≤upto l id∧upto l id≤l.length:=by
 have:=aQh l id
 unfold upto
 split
 ·rename_i h;have:=mG hs h;omega
 ·omega
theorem uL(l:List Nd)(i j:Nat)(xs:List Nd)(h:i≤j)(hj:j≤l.length):(nZ l i j xs).length+j=i+xs.length+l.length:=by
 simp[nZ];omega
end Go.Gw
/- What is seen in a directory, in plain Lean, and maps of names ars blocks of the abstract heap. No condition. -/
namespace Go.Gw
open Go Go.Aw Go.Proofs.YthhdnjiodklmmaaGreatDoor
def inD(dir:Int)(n:Nd):Bool:=decide (n.parent=dir)&&okI n.moved.c n.moved.r
def dI(s:Txt):List (Txt×Nd)→Option Nd
 |[]=>none
 |(k,n)::m=>if k=s then some n else dI s m
def hS(s:Txt)(n:Nd):List (Txt×Nd)→List (Txt×Nd)
 |[]=>[(s,n)]
 |(k,x)::m=>if k=s then(s,n)::m else(k,x)::hS s n m
def uM(m:List (Txt×Nd))(n:Nd):List (Txt×Nd):=match dI n.name m with
 |none=>hS n.name n m
 |some o=>if xN n.moved.c n.moved.r o.moved.c o.moved.r=true then m else hS n.name n m
def mS(dir:Int)(m:List (Txt×Nd))(n:Nd):List (Txt×Nd):=if inD dir n=true then uM m n else m
def dE(l:List Nd)(dir:Int):List (Txt×Nd):=l.foldl (mS dir) []
def childN(l:List Nd)(dir:Int)(s:Txt):Option Nd:=if chk l=true then dI s (dE l dir)else none
def jW(l:List Nd):Int→List Txt→Int×Int
 |at_,[]=>(at_,0)
 |at_,s::names=>if dirI at_=true then(match childN l at_ s with|some n=>jW l n.id names|none=>(0,80))else(0,81)
def jX(l:List Nd)(names:List Txt):Int×Int:=jW l 0 names
def mT:Nat→List (Txt×Nd)→List (AV×AV×Nat)
 |_,[]=>[]
 |b,p::m=>(.str p.1,ndA p.2,b)::mT (b+1) m
theorem aAw(b:Nat)(m:List (Txt×Nd)):keysIn .string (mT b m):=by
 induction m generalizing b with
 |nil=>exact fun p hp=>by simp[mT]at hp
 |cons p m ih=>
  intro q hq
  rcases List.mem_cons.1 hq with rfl|hq
  ·rfl
  ·exact ih _ q hq
theorem aU6(b:Nat)(m:List (Txt×Nd)):(mT b m).length=m.length:=by
 induction m generalizing b with
 |nil=>rfl
 |cons p m ih=>simp[mT,ih]
theorem aI3(b:Nat)(m:List (Txt×Nd))(s:Txt):(dI s m=none∧keyAt (.str s) (mT b m)=none)∨∃n j,dI s m=some n∧keyAt (.str s) (mT b m)=some (j,ndA n):=by
 induction m generalizing b with
 |nil=>exact .inl ⟨rfl,rfl⟩
 |cons p m ih=>
  obtain⟨k,n⟩:=p
  by_cases h:k=s
  ·subst h;exact .inr ⟨n,0,by simp[dI],by simp[mT,keyAt,iG]⟩
  ·have h':iG (.str s) (.str k)=false:=by simp[iG];exact fun e=>h e.symm
   rcases ih (b+1)with⟨h1,h2⟩|⟨x,j,h1,h2⟩
   ·exact .inl ⟨by simp[dI,h,h1],by simp[mT,keyAt,h',h2]⟩
   ·exact .inr ⟨x,j+1,by simp[dI,h,h1],by simp[mT,keyAt,h',h2]⟩
theorem qC{x y v w:AV}{b clock:Nat}{es:List (AV×AV×Nat)}(h:iG x y=false):dR x v ((y,w,b)::es) clock=(y,w,b)::dR x v es clock:=by
 simp only[dR,keyAt,h,cond_false]
 cases keyAt x es with
 |none=>rfl
 |some p=>rfl
theorem aBd{x y w:AV}{b clock:Nat}{es:List (AV×AV×Nat)}(h:iG x y=false):lW x ((y,w,b)::es) clock=lW x es clock:=by
 simp only[lW,keyAt,h,cond_false]
 cases keyAt x es<;>rfl
theorem aLU(b:Nat)(m:List (Txt×Nd))(s:Txt)(n:Nd):dR (.str s) (ndA n) (mT b m) (b+m.length)=mT b (hS s n m)∧lW (.str s) (mT b m) (b+m.length)=b+(hS s n m).length:=by
 induction m generalizing b with
 |nil=>exact⟨rfl,rfl⟩
 |cons p m ih=>
  obtain⟨k,x⟩:=p
  by_cases h:k=s
  ·subst h;exact⟨by simp[mT,dR,keyAt,iG,hS],by simp[mT,lW,keyAt,iG,hS]⟩
  ·have h':iG (.str s) (.str k)=false:=by simp[iG];exact fun e=>h e.symm
   obtain⟨h1,h2⟩:=ih (b+1)
   have e:b+((k,x)::m).length=b+1+m.length:=by simp;omega
   rw[e]
   simp only[mT,hS,if_neg h]
   rw[qC h',aBd h',h1,h2]
   exact⟨rfl,by simp;omega⟩
theorem aI4(m:List (Txt×Nd))(s:Txt)(n:Nd):ABlk.map (dR (.str s) (ndA n) (mT 0 m) m.length) (lW (.str s) (mT 0 m) m.length)=.map (mT 0 (hS s n m)) (hS s n m).length:=by
 have:=aLU 0 m s n
 rw[Nat.zero_add,Nat.zero_add]at this
 rw[this.1,this.2]
theorem aUc(k:Nat)(n:Nd):Cl k (ndA n):=(Pur.agg _ fun x hx=>by
 simp only[List.mem_cons,List.not_mem_nil,or_false]at hx
 rcases hx with rfl|rfl|rfl|rfl|rfl|rfl|rfl|rfl<;>first|exact .int _ _|exact .str _).cl k
theorem aI5(k b:Nat)(m:List (Txt×Nd)):∀p∈mT b m,Cl k p.1∧Cl k p.2.1:=by
 induction m generalizing b with
 |nil=>exact fun p hp=>by simp[mT]at hp
 |cons q m ih=>
  intro p hp
  rcases List.mem_cons.1 hp with rfl|hp
  ·exact⟨.str _,aUc k _⟩
  ·exact ih _ p hp
end Go.Gw
/- Logs, in plain Lean: an operation is added. No condition. -/
namespace Go.Aw
open Go
@[go_sem] theorem aK2{P:Program}(ts tx:TypeId)(f g:Bool)(es r:List AV)(e:AV)(H:AHeap):tY P ts tx (.sl f es) (.sl g (e::r)) H=lL P ts tx (.sl f es) (.sl g (e::r)) H:=by
 cases es with
 |nil=>rfl
 |cons a es=>simp[tY,eP]
end Go.Aw
namespace Go.Gw
open Go Go.Aw Go.Proofs.YthhdnjiodklmmaaGreatDoor
def fY(a b:Stm):Bool:=xN a.c a.r b.c b.r
def jY(l:List Ent)(a:Stm):Bool:=l.any fun e=>decide (e.op.at_=a)
def fC(a:Stm):List Ent→List Nd→Nat×List Nd
 |[],n=>(0,n)
 |e::r,n=>if fY a e.op.at_=true then((fC a r (oD n e.op e.undo)).1+1,(fC a r (oD n e.op e.undo)).2)else(0,n)
def eJ:List Opn→List Ent→List Nd→List Ent×List Nd
 |[],es,n=>(es,n)
 |o::os,es,n=>eJ os (es++[⟨o,uK n o⟩]) (kY n o)
def eK(g:Lg)(o:Opn):Lg:=
 if opOk o=false then g else if jY g.entries o.at_=true then g else if(200:Int)≤(g.entries.length:Int)then g
 else
  ⟨(eJ (o::(g.entries.drop (g.entries.length-(fC o.at_ g.entries.reverse g.nodes).1)).map Ent.op) (g.entries.take (g.entries.length-(fC o.at_ g.entries.reverse g.nodes).1)) (fC o.at_ g.entries.reverse g.nodes).2).1,
    (eJ (o::(g.entries.drop (g.entries.length-(fC o.at_ g.entries.reverse g.nodes).1)).map Ent.op) (g.entries.take (g.entries.length-(fC o.at_ g.entries.reverse g.nodes).1)) (fC o.at_ g.entries.reverse g.nodes).2).2⟩
def qD(g:Lg)(o:Opn):Int:=
 if opOk o=false then 50 else if jY g.entries o.at_=true then 0 else if(200:Int)≤(g.entries.length:Int)then 193 else 0
def dO:Lg→List Opn→Lg
 |g,[]=>g
 |g,o::os=>dO (eK g o) os
def pA:Lg→List Opn→Int
 |_,[]=>0
 |g,o::os=>(if qD g o=0 then 0 else 1)+pA (eK g o) os
def opsG(g:Lg):List Opn:=g.entries.map Ent.op
theorem aI6(a:Stm)(l:List Ent)(n:List Nd):(fC a l n).1≤l.length:=by
 induction l generalizing n with
 |nil=>simp[fC]
 |cons e l ih=>unfold fC;split<;>simp;exact ih _
theorem aBK(l:List Nd)(o:Opn)(u:Und):(oD l o u).length≤l.length+1:=by
 unfold oD
 split
 ·omega
 ·rename_i h
  have hc:chk l=true:=by
   cases hc:chk l with
   |true=>rfl
   |false=>simp[hc]at h
  have:=yR l o.node hc
  split
  ·have:=uL l (pos l o.node) (upto l o.node) [u.was] (by omega) (by omega);simp at this;omega
  ·have:=uL l (pos l o.node) (upto l o.node) [] (by omega) (by omega);simp at this;omega
theorem aCj(l:List Nd)(o:Opn):(kY l o).length≤l.length+1:=by
 unfold kY
 split
 ·omega
 ·rename_i h
  have hc:chk l=true:=by
   cases hc:chk l with
   |true=>rfl
   |false=>simp[bW,hc]at h
  have:=yR l o.node hc
  have:=uL l (pos l o.node) (upto l o.node) [cG l o] (by omega) (by omega);simp at this;omega
theorem aG3(a:Stm)(l:List Ent)(n:List Nd):(fC a l n).2.length≤n.length+l.length:=by
 induction l generalizing n with
 |nil=>simp[fC]
 |cons e l ih=>
  unfold fC
  split
  ·have:=ih (oD n e.op e.undo)
   have:=aBK n e.op e.undo
   simp;omega
  ·simp
theorem aDf(l:List Opn)(es:List Ent)(n:List Nd):(eJ l es n).2.length≤n.length+l.length∧(eJ l es n).1.length=es.length+l.length:=by
 induction l generalizing es n with
 |nil=>simp[eJ]
 |cons o l ih=>
  unfold eJ
  have:=ih (es++[⟨o,uK n o⟩]) (kY n o)
  have:=aCj n o
  simp at *;omega
theorem aBL(l:List Opn)(o:Opn)(es:List Ent)(n:List Nd):eJ (l++[o]) es n=((eJ l es n).1++[⟨o,uK (eJ l es n).2 o⟩],kY (eJ l es n).2 o):=by
 induction l generalizing es n with
 |nil=>rfl
 |cons x l ih=>rw[List.cons_append,eJ,ih,eJ]
end Go.Gw
/- Logs, in plain Lean: sizes, and which operations there are. No condition. -/
namespace Go.Gw
open Go Go.Aw Go.Proofs.YthhdnjiodklmmaaGreatDoor
theorem aDg(l:List Opn)(es:List Ent)(n:List Nd):(eJ l es n).1.map Ent.op=es.map Ent.op++l:=by
 induction l generalizing es n with
 |nil=>simp[eJ]
 |cons o l ih=>unfold eJ;rw[ih];simp
def aI7(g:Lg)(o:Opn):Nat:=g.entries.length-(fC o.at_ g.entries.reverse g.nodes).1
theorem aI8(g:Lg)(o:Opn):opsG (eK g o)=if opOk o=false∨jY g.entries o.at_=true∨(200:Int)≤(g.entries.length:Int)then opsG g
  else(opsG g).take (aI7 g o)++o::(opsG g).drop (aI7 g o):=by
 unfold eK opsG
 by_cases h1:opOk o=false
 ·rw[if_pos h1,if_pos (.inl h1)]
 ·by_cases h2:jY g.entries o.at_=true
  ·rw[if_neg h1,if_pos h2,if_pos (.inr (.inl h2))]
  ·by_cases h3:(200:Int)≤(g.entries.length:Int)
   ·rw[if_neg h1,if_neg h2,if_pos h3,if_pos (.inr (.inr h3))]
   ·rw[if_neg h1,if_neg h2,if_neg h3,if_neg (by rintro(h|h|h)<;>contradiction),aDg]
    simp only[aI7,List.map_take,List.map_drop]
theorem qE(g:Lg)(o:Opn):(eK g o).entries.length≤g.entries.length+1∧((eK g o).entries.length≤200∨(eK g o).entries.length=g.entries.length)∧(g.entries.length≤200→(eK g o).nodes.length≤g.nodes.length+401):=by
 unfold eK
 split
 ·exact⟨by omega,.inr rfl,fun _=>by omega⟩
 ·split
  ·exact⟨by omega,.inr rfl,fun _=>by omega⟩
  ·split
   ·exact⟨by omega,.inr rfl,fun _=>by omega⟩
   ·have h1:=aI6 o.at_ g.entries.reverse g.nodes
    have h2:=aG3 o.at_ g.entries.reverse g.nodes
    have h3:=aDf (o::(g.entries.drop (g.entries.length-(fC o.at_ g.entries.reverse g.nodes).1)).map Ent.op) (g.entries.take (g.entries.length-(fC o.at_ g.entries.reverse g.nodes).1)) (fC o.at_ g.entries.reverse g.nodes).2
    rw[List.length_reverse]at h1 h2
    simp only[List.length_cons,List.length_map,List.length_drop,List.length_take]at h3
    refine⟨by simp only;omega,.inl (by simp only;omega),fun h=>by simp only;omega⟩
theorem aDh(g:Lg)(o:Opn)(P:Opn→Prop)(h:∀e∈g.entries,P e.op)(ho:P o):∀e∈(eK g o).entries,P e.op:=by
 intro e he
 have h1:e.op∈opsG (eK g o):=List.mem_map_of_mem he
 rw[aI8]at h1
 have hg:∀x∈opsG g,P x:=fun x hx=>by obtain⟨e',he',rfl⟩:=List.mem_map.1 hx;exact h e' he'
 split at h1
 ·exact hg _ h1
 ·rw[List.mem_append,List.mem_cons]at h1
  rcases h1 with h1|h1|h1
  ·exact hg _ (List.mem_of_mem_take h1)
  ·rw[h1];exact ho
  ·exact hg _ (List.mem_of_mem_drop h1)
structure Fit (g:Lg) (k:Nat):Prop where
 ops:∀e∈g.entries,OpS e.op
 len:g.entries.length≤200
 nodes:g.nodes.length+401 * k≤1000000
theorem Fit.add{g:Lg}{k:Nat}(h:Fit g (k+1)){o:Opn}(ho:OpS o):Fit (eK g o) k:=by
 have h1:=qE g o
 have h2:=h.len
 have h3:=h.nodes
 refine⟨aDh g o OpS h.ops ho,by rcases h1.2.1 with q|q<;>omega,?_⟩
 have:=h1.2.2 h2
 omega
theorem Fit.all{g:Lg}{l:List Opn}{k:Nat}(h:Fit g (l.length+k))(hl:∀o∈l,OpS o):Fit (dO g l) k:=by
 induction l generalizing g with
 |nil=>exact⟨h.ops,h.len,by have:=h.nodes;simp at this;exact this⟩
 |cons o l ih=>
  exact ih (Fit.add ⟨h.ops,h.len,by have:=h.nodes;simp at this;omega⟩ (hl o (by simp))) fun x hx=>hl x (by simp[hx])
theorem Fit.less{g:Lg}{k j:Nat}(h:Fit g k)(hj:j≤k):Fit g j:=⟨h.ops,h.len,by have:=h.nodes;omega⟩
theorem Fit.nil(k:Nat)(h:k≤2000):Fit ⟨[],[]⟩ k:=⟨by simp,by simp,by simp;omega⟩
theorem aI9(g:Lg)(a b:List Opn):dO g (a++b)=dO (dO g a) b:=by
 induction a generalizing g with
 |nil=>rfl
 |cons o a ih=>exact ih _
theorem aJa(g:Lg)(a b:List Opn):pA g (a++b)=pA g a+pA (dO g a) b:=by
 induction a generalizing g with
 |nil=>simp[pA,dO]
 |cons o a ih=>rw[List.cons_append,pA,pA,dO,ih];omega
theorem aLV(g:Lg)(l:List Opn):0≤pA g l∧pA g l≤l.length:=by
 induction l generalizing g with
 |nil=>simp[pA]
 |cons o l ih=>have:=ih (eK g o);unfold pA;simp only[List.length_cons];split<;>omega
end Go.Gw
/- What is seen in a directory is of the nodes, in plain Lean. No condition. -/
namespace Go.Gw
open Go Go.Aw Go.Proofs.YthhdnjiodklmmaaGreatDoor
theorem aJb{s:Txt}{n:Nd}{m:List (Txt×Nd)}{p:Txt×Nd}(h:p∈hS s n m):p.2=n∨p∈m:=by
 induction m with
 |nil=>simp[hS]at h;left;rw[h]
 |cons q m ih=>
  obtain⟨k,x⟩:=q
  unfold hS at h
  split at h
  ·rcases List.mem_cons.1 h with rfl|h
   ·exact .inl rfl
   ·exact .inr (List.mem_cons_of_mem _ h)
  ·rcases List.mem_cons.1 h with rfl|h
   ·exact .inr (by simp)
   ·rcases ih h with h|h
    ·exact .inl h
    ·exact .inr (List.mem_cons_of_mem _ h)
theorem aG4{s:Txt}{n:Nd}{m:List (Txt×Nd)}(h:dI s m=some n):∃p∈m,p.2=n:=by
 induction m with
 |nil=>cases h
 |cons q m ih=>
  obtain⟨k,x⟩:=q
  unfold dI at h
  split at h
  ·exact⟨(k,x),by simp,by simpa using h⟩
  ·obtain⟨p,hp,e⟩:=ih h;exact⟨p,List.mem_cons_of_mem _ hp,e⟩
theorem aBM(l:List Nd)(dir:Int):∀p∈dE l dir,p.2∈l∧inD dir p.2=true:=by
 suffices h:∀(k l:List Nd) (m:List (Txt×Nd)),(∀p∈m,p.2∈l∧inD dir p.2=true)→(∀n∈k,n∈l)→∀p∈k.foldl (mS dir) m,p.2∈l∧inD dir p.2=true from h l l [] (fun p hp=>by cases hp) (fun n hn=>hn)
 intro k
 induction k with
 |nil=>intro l m hm _;exact hm
 |cons x k ih=>
  intro l m hm hk
  refine ih l (mS dir m x) (fun p hp=>?_) (fun n hn=>hk n (List.mem_cons_of_mem _ hn))
  unfold mS at hp
  split at hp
  ·rename_i hx
   unfold uM at hp
   have hs:∀p∈hS x.name x m,p.2∈l∧inD dir p.2=true:=fun p hp=>by
    rcases aJb hp with e|h
    ·rw[e];exact⟨hk x (by simp),hx⟩
    ·exact hm p h
   split at hp
   ·exact hs p hp
   ·split at hp
    ·exact hm p hp
    ·exact hs p hp
  ·exact hm p hp
theorem aG5{l:List Nd}{dir:Int}{s:Txt}{n:Nd}(h:childN l dir s=some n):chk l=true∧n∈l∧n.parent=dir:=by
 unfold childN at h
 split at h
 ·rename_i hc
  obtain⟨p,hp,e⟩:=aG4 h
  obtain⟨h1,h2⟩:=aBM l dir p hp
  rw[e]at h1 h2
  unfold inD at h2
  rw[Bool.and_eq_true,decide_eq_true_eq]at h2
  exact⟨hc,h1,h2.1⟩
 ·cases h
end Go.Gw
/- What is done, and taken back, leaves nodes ars they were; nodes that may be stay so. No condition. -/
namespace Go.Gw
open Go Go.Aw Go.Proofs.YthhdnjiodklmmaaGreatDoor
def wL(l:List Nd)(n:Nd):List Nd:=nZ l (pos l n.id) (upto l n.id) [n]
def aUd(l:List Nd)(id:Int):List Nd:=nZ l (pos l id) (upto l id) []
theorem jJ(l:List Nd)(o:Opn):(cG l o).id=o.node:=by
 have h:(eQ l o).id=o.node:=by
  unfold eQ
  split
  ·rename_i n hn
   have:=List.find?_some hn
   simpa using this
  ·rfl
 unfold cG;split<;>exact h
theorem jZ{l:List Nd}{o:Opn}(h:bW l o=false):kY l o=wL l (cG l o):=by
 rw[kY,if_neg (by rw[h];decide),wL,jJ]
theorem aDi(l:List Nd)(id:Int)(x:Nd)(hx:x∈l.take (pos l id)):x.id<id:=by
 induction l with
 |nil=>simp at hx
 |cons n l ih=>
  unfold pos at hx
  split at hx
  ·rename_i h
   rw[List.take_succ_cons,List.mem_cons]at hx
   rcases hx with rfl|hx
   ·exact h
   ·exact ih hx
  ·simp at hx
theorem aDj{l:List Nd}(hs:chk l=true)(id:Int)(x:Nd)(hx:x∈l.drop (upto l id)):id<x.id:=by
 have hp:=((oY l).1 hs).2
 rw[List.pairwise_iff_getElem]at hp
 obtain⟨i,hi,rfl⟩:=List.getElem_of_mem hx
 rw[List.length_drop]at hi
 rw[List.getElem_drop]
 have hpos:∀k (hk:k<l.length),pos l id≤k→¬l[k].id<id:=by
  intro k hk hle hlt
  have key:∀(l:List Nd),(∀(i j:Nat) (_hi:i<l.length) (_hj:j<l.length),i<j→l[i].id<l[j].id)→∀k (hk:k<l.length),pos l id≤k→¬l[k].id<id:=by
   intro l
   induction l with
   |nil=>intro _ k hk;simp at hk
   |cons n l ih=>
    intro hp k hk hle hlt
    unfold pos at hle
    split at hle
    ·cases k with
     |zero=>omega
     |succ k=>
      refine ih (fun i j hi hj hij=>?_) k (by simpa using hk) (by omega) (by simpa using hlt)
      have:=hp (i+1) (j+1) (by simpa using hi) (by simpa using hj) (by omega)
      simpa using this
    ·rename_i hn
     cases k with
     |zero=>simp at hlt;omega
     |succ k=>
      have:=hp 0 (k+1) (by simp) hk (by omega)
      simp at this hlt;omega
  exact key l hp k hk hle hlt
 unfold upto at hi ⊢
 split
 ·rename_i hh
  have hlt:=mG hs hh
  have he:l[pos l id].id=id:=by
   rw[oZ hs,List.getElem?_eq_getElem hlt]at hh;simpa using hh
  rw[if_pos hh]at hi
  have:=hp (pos l id) (pos l id+1+i) hlt (by omega) (by omega)
  omega
 ·rename_i hh
  rw[if_neg hh]at hi
  have h1:=hpos (pos l id+i) (by omega) (by omega)
  have h2:l[pos l id+i].id≠id:=by
   intro e
   by_cases hi0:i=0
   ·subst hi0
    apply hh
    rw[oZ hs,List.getElem?_eq_getElem (by omega)]
    simpa using e
   ·have h3:=hp (pos l id) (pos l id+i) (by omega) (by omega) (by omega)
    have h4:=hpos (pos l id) (by omega) (Nat.le_refl _)
    omega
  omega
theorem aFM{l:List Nd}(hs:chk l=true){n:Nd}(hn:fV n.id=true):chk (wL l n)=true:=by
 have h:=(oY l).1 hs
 rw[oY]
 have ht:∀x∈l.take (pos l n.id),x.id<n.id:=aDi l n.id
 have hd:∀x∈l.drop (upto l n.id),n.id<x.id:=aDj hs n.id
 unfold wL nZ
 refine⟨fun x hx=>?_,?_⟩
 ·rw[List.mem_append,List.mem_append,List.mem_singleton]at hx
  rcases hx with(hx|rfl)|hx
  ·exact h.1 x (List.mem_of_mem_take hx)
  ·exact hn
  ·exact h.1 x (List.mem_of_mem_drop hx)
 ·rw[List.pairwise_append,List.pairwise_append]
  refine⟨⟨h.2.sublist (List.take_sublist _ _),List.pairwise_singleton _ _,fun a ha b hb=>by rw[List.mem_singleton]at hb;subst hb;exact ht a ha⟩,h.2.sublist (List.drop_sublist _ _),fun a ha b hb=>?_⟩
  rw[List.mem_append,List.mem_singleton]at ha
  rcases ha with ha|rfl
  ·exact Int.lt_trans (ht a ha) (hd b hb)
  ·exact hd b hb
theorem aFN{A B:List Nd}{n:Nd}{id:Int}(hA:∀x∈A,x.id<id)(hn:n.id=id):pos (A++n::B) id=A.length:=by
 induction A with
 |nil=>simp[pos,hn]
 |cons a A ih=>
  rw[List.cons_append,pos,if_pos (hA a (by simp)),ih fun x hx=>hA x (by simp[hx])];rfl
theorem aLW{A B:List Nd}{id:Int}(hA:∀x∈A,x.id<id)(hB:∀x∈B,id<x.id):pos (A++B) id=A.length:=by
 induction A with
 |nil=>
  cases B with
  |nil=>rfl
  |cons b B=>have:=hB b (by simp);rw[List.nil_append,pos,if_neg (by omega)];rfl
 |cons a A ih=>
  rw[List.cons_append,pos,if_pos (hA a (by simp)),ih fun x hx=>hA x (by simp[hx])];rfl
theorem uN{A B:List Nd}{n:Nd}{id:Int}(hA:∀x∈A,x.id<id)(hn:n.id=id):oL (A++n::B) id=some n:=by
 unfold oL
 rw[List.find?_append,List.find?_cons,decide_eq_true hn]
 have:A.find? (fun n=>decide (n.id=id))=none:=by
  rw[List.find?_eq_none];intro x hx;have:=hA x hx;simp;omega
 rw[this];rfl
theorem aAx{l:List Nd}(hs:chk l=true)(id:Int):∃A B,(∀x∈A,x.id<id)∧(∀x∈B,id<x.id)∧A=l.take (pos l id)∧B=l.drop (upto l id)∧(l=A++B∧had l id=false∨∃n,n.id=id∧l=A++n::B∧had l id=true):=by
 refine⟨_,_,aDi l id,aDj hs id,rfl,rfl,?_⟩
 cases hh:had l id with
 |false=>
  left
  unfold upto
  rw[hh]
  exact⟨(List.take_append_drop _ _).symm,rfl⟩
 |true=>
  right
  have hlt:=mG hs hh
  have he:l[pos l id].id=id:=by
   have:=hh
   rw[oZ hs,List.getElem?_eq_getElem hlt]at this;simpa using this
  refine⟨l[pos l id],he,?_,rfl⟩
  unfold upto
  rw[if_pos hh,←List.drop_eq_getElem_cons hlt,List.take_append_drop]
theorem aEM{l:List Nd}(n:Nd){A B:List Nd}(hA:A=l.take (pos l n.id))(hB:B=l.drop (upto l n.id)):wL l n=A++n::B:=by
 rw[wL,nZ,hA,hB,List.append_assoc];rfl
theorem aFO{A B:List Nd}{n m:Nd}(hA:∀x∈A,x.id<n.id)(hm:m.id=n.id):wL (A++m::B) n=A++n::B:=by
 have hp:pos (A++m::B) n.id=A.length:=aFN hA hm
 have hh:had (A++m::B) n.id=true:=by rw[had,uN hA hm];rfl
 rw[wL,nZ,upto,if_pos hh,hp,List.take_left',show A.length+1=A.length+1 from rfl,List.append_assoc]
 ·congr 1
  rw[List.drop_append,List.drop_of_length_le (by omega)];simp
 ·rfl
theorem aLX{A B:List Nd}{m:Nd}{id:Int}(hA:∀x∈A,x.id<id)(hm:m.id=id):aUd (A++m::B) id=A++B:=by
 have hp:pos (A++m::B) id=A.length:=aFN hA hm
 have hh:had (A++m::B) id=true:=by rw[had,uN hA hm];rfl
 rw[aUd,nZ,upto,if_pos hh,hp,List.take_left',List.append_nil]
 ·congr 1
  rw[List.drop_append,List.drop_of_length_le (by omega)];simp
 ·rfl
theorem aLY{l:List Nd}(o:Opn)(hs:chk l=true):oD (kY l o) o (uK l o)=l:=by
 cases hr:bW l o with
 |true=>
  rw[kY,if_pos hr,uK,if_pos hr,oD,if_pos (by simp[aPg])]
 |false=>
  have hok:opOk o=true:=by
   cases ho:opOk o with
   |true=>rfl
   |false=>simp[bW,ho]at hr
  have hof:fV o.node=true:=by
   unfold opOk rZ xO at hok
   split at hok<;>simp at hok<;>simp[hok]
  have hid:=jJ l o
  have hc:chk (kY l o)=true:=by rw[jZ hr];exact aFM hs (by rw[hid];exact hof)
  rw[uK,if_neg (by rw[hr];decide),oD,if_neg (by rw[hc];simp)]
  obtain⟨A,B,hA,hB,eA,eB,hcase⟩:=aAx hs o.node
  have hd:kY l o=A++cG l o::B:=by
   rw[jZ hr]
   exact aEM _ (by rw[hid];exact eA) (by rw[hid];exact eB)
  rcases hcase with⟨hl,hh⟩|⟨n,hn,hl,hh⟩
  ·rw[if_neg (by rw[hh];simp)]
   have:=aLX (B:=B) hA hid
   rw[hd]
   exact this.trans hl.symm
  ·have hf:oL l o.node=some n:=by rw[hl];exact uN hA hn
   rw[if_pos (by rw[hh,hf,hof];simpa using hn),hf,Option.getD_some]
   have:=aFO (n:=n) (m:=cG l o) (B:=B) (by rw[hn];exact hA) (by rw[hn,hid])
   rw[hd]
   have h2:wL (A++cG l o::B) n=nZ (A++cG l o::B) (pos (A++cG l o::B) o.node) (upto (A++cG l o::B) o.node) [n]:=by rw[wL,hn]
   rw[←h2,this,←hl]
theorem aEN{l:List Nd}(o:Opn)(hs:chk l=true):chk (kY l o)=true:=by
 cases hr:bW l o with
 |true=>rw[kY,if_pos hr];exact hs
 |false=>
  have hok:opOk o=true:=by
   cases ho:opOk o with
   |true=>rfl
   |false=>simp[bW,ho]at hr
  have hof:fV o.node=true:=by
   unfold opOk rZ xO at hok
   split at hok<;>simp at hok<;>simp[hok]
  rw[jZ hr];exact aFM hs (by rw[jJ];exact hof)
end Go.Gw
/- Logs are what their operations make, in order. No condition. -/
namespace Go.Gw
open Go Go.Aw Go.Proofs.YthhdnjiodklmmaaGreatDoor
theorem yS{a b:Stm}:fY a b=true↔a.c<b.c∨(a.c=b.c∧a.r<b.r):=uG
theorem aFP{a b:Stm}:fY a b=false↔¬(a.c<b.c∨(a.c=b.c∧a.r<b.r)):=by rw[←yS,Bool.not_eq_true]
theorem aLZ{a b:Stm}(h1:a.c=b.c)(h2:a.r=b.r):a=b:=by cases a;cases b;simp_all
theorem aG6(a b:Stm):fY a b=true∨a=b∨fY b a=true:=by
 rw[yS,yS]
 by_cases h:a=b
 ·exact .inr (.inl h)
 ·have:¬(a.c=b.c∧a.r=b.r):=fun q=>h (aLZ q.1 q.2)
  omega
theorem xP{a b c:Stm}(h:fY a b=true)(k:fY b c=true):fY a c=true:=by
 rw[yS]at *;omega
theorem oE(a:Stm):fY a a=false:=by rw[aFP];omega
def logOf(l:List Opn):Lg:=⟨(eJ l [] []).1,(eJ l [] []).2⟩
abbrev Srt(l:List Opn):Prop:=l.Pairwise fun x y=>fY x.at_ y.at_=true
theorem aDk(a b:List Opn)(es:List Ent)(n:List Nd):eJ (a++b) es n=eJ b (eJ a es n).1 (eJ a es n).2:=by
 induction a generalizing es n with
 |nil=>rfl
 |cons o a ih=>rw[List.cons_append,eJ,ih,eJ]
theorem aJc(l:List Opn)(es:List Ent)(n:List Nd):eJ l es n=(es++(eJ l [] n).1,(eJ l [] n).2):=by
 induction l generalizing es n with
 |nil=>simp[eJ]
 |cons o l ih=>
  show eJ l (es++[⟨o,uK n o⟩]) (kY n o)=(es++(eJ l ([]++[⟨o,uK n o⟩]) (kY n o)).1,(eJ l ([]++[⟨o,uK n o⟩]) (kY n o)).2)
  rw[ih (es++[Ent.mk o (uK n o)]),ih ([]++[Ent.mk o (uK n o)])]
  simp
theorem aJd(l:List Opn)(es:List Ent){n:List Nd}(h:chk n=true):chk (eJ l es n).2=true:=by
 induction l generalizing es n with
 |nil=>exact h
 |cons o l ih=>exact ih _ (aEN o h)
theorem aG7(l:List Opn):chk (logOf l).nodes=true:=aJd l [] rfl
theorem gR(l:List Opn):opsG (logOf l)=l:=by rw[opsG,logOf,aDg];rfl
theorem aJe(a:Stm)(pre:List Opn)(r:List Opn)(h:∀x∈r,fY a x.at_=true):
  fC a (logOf (pre++r.reverse)).entries.reverse (logOf (pre++r.reverse)).nodes=((fC a (logOf pre).entries.reverse (logOf pre).nodes).1+r.length,(fC a (logOf pre).entries.reverse (logOf pre).nodes).2):=by
 induction r with
 |nil=>simp
 |cons x r ih=>
  have h2:=ih fun y hy=>h y (by simp[hy])
  have e:pre++(x::r).reverse=(pre++r.reverse)++[x]:=by simp
  have e2:logOf ((pre++r.reverse)++[x])=⟨(logOf (pre++r.reverse)).entries++[⟨x,uK (logOf (pre++r.reverse)).nodes x⟩],kY (logOf (pre++r.reverse)).nodes x⟩:=by
   rw[logOf,aBL];rfl
  rw[e,e2]
  simp only[List.reverse_append,List.reverse_cons,List.reverse_nil,List.nil_append,List.cons_append]
  rw[fC,if_pos (h x (by simp)),aLY x (aG7 _),h2]
  simp[Nat.add_assoc]
theorem aG8(a:Stm)(pre:List Opn)(h:∀x∈pre,fY a x.at_=false)(n:List Nd):(fC a (logOf pre).entries.reverse n).1=0∧(fC a (logOf pre).entries.reverse n).2=n:=by
 cases hr:(logOf pre).entries.reverse with
 |nil=>exact⟨rfl,rfl⟩
 |cons e r=>
  have he:e∈(logOf pre).entries:=by rw[←List.mem_reverse,hr];simp
  have h1:e.op∈opsG (logOf pre):=List.mem_map_of_mem he
  rw[gR]at h1
  rw[fC,if_neg (by rw[h _ h1];decide)]
  exact⟨rfl,rfl⟩
def kD(o:Opn)(l:List Opn):List Opn:=l.takeWhile fun x=> !fY o.at_ x.at_
def qF(o:Opn)(l:List Opn):List Opn:=l.dropWhile fun x=> !fY o.at_ x.at_
def yI(o:Opn)(l:List Opn):List Opn:=kD o l++o::qF o l
theorem lN(o:Opn)(l:List Opn):kD o l++qF o l=l:=List.takeWhile_append_dropWhile
theorem aJf(o:Opn)(l:List Opn):∀x∈kD o l,fY o.at_ x.at_=false:=by
 intro x hx
 unfold kD at hx
 induction l with
 |nil=>simp at hx
 |cons y l ih=>
  rw[List.takeWhile_cons]at hx
  split at hx
  ·rename_i hy
   rw[List.mem_cons]at hx
   rcases hx with rfl|hx
   ·simpa using hy
   ·exact ih hx
  ·simp at hx
theorem aJg{o:Opn}{l:List Opn}(h:Srt l):∀x∈qF o l,fY o.at_ x.at_=true:=by
 intro x hx
 unfold qF at hx
 induction l with
 |nil=>simp at hx
 |cons y l ih=>
  rw[Srt,List.pairwise_cons]at h
  rw[List.dropWhile_cons]at hx
  split at hx
  ·exact ih h.2 hx
  ·rename_i hy
   have hy:fY o.at_ y.at_=true:=by simpa using hy
   rw[List.mem_cons]at hx
   rcases hx with rfl|hx
   ·exact hy
   ·exact xP hy (h.1 x hx)
theorem aL0{l:List Opn}(hs:Srt l)(o:Opn)(h1:opOk o=true)(h2:jY (logOf l).entries o.at_=false)(h3:(l.length:Int)<200):eK (logOf l) o=logOf (yI o l):=by
 have hlen:(logOf l).entries.length=l.length:=by
  have:=congrArg List.length (gR l);rwa[opsG,List.length_map]at this
 have hu:=aJe o.at_ (kD o l) (qF o l).reverse (fun x hx=>aJg hs x (List.mem_reverse.1 hx))
 rw[List.reverse_reverse,lN]at hu
 have hn:=aG8 o.at_ (kD o l) (aJf o l) (logOf (kD o l)).nodes
 have hu2:fC o.at_ (logOf l).entries.reverse (logOf l).nodes=((qF o l).length,(logOf (kD o l)).nodes):=by
  rw[hu,hn.2,hn.1];simp
 have hll:l.length=(kD o l).length+(qF o l).length:=by
  have:=congrArg List.length (lN o l);rw[List.length_append]at this;exact this.symm
 have he:(logOf l).entries=(logOf (kD o l)).entries++(eJ (qF o l) [] (logOf (kD o l)).nodes).1:=by
  have e:(logOf l).entries=(logOf (kD o l++qF o l)).entries:=congrArg (fun x=>(logOf x).entries) (lN o l).symm
  rw[e,logOf,aDk,aJc (qF o l)];rfl
 have hpl:(logOf (kD o l)).entries.length=(kD o l).length:=by
  have:=congrArg List.length (gR (kD o l));rwa[opsG,List.length_map]at this
 rw[eK,if_neg (by rw[h1];decide),if_neg (by rw[h2];decide),if_neg (by omega),hu2]
 simp only
 have e1:(logOf l).entries.length-(qF o l).length=(kD o l).length:=by omega
 have e2:(logOf l).entries.take (kD o l).length=(logOf (kD o l)).entries:=by rw[he,←hpl,List.take_left'];rfl
 have e3:((logOf l).entries.drop (kD o l).length).map Ent.op=qF o l:=by
  rw[List.map_drop]
  have:=gR l
  rw[opsG]at this
  rw[this]
  exact(congrArg (List.drop (kD o l).length) (lN o l).symm).trans (List.drop_left' rfl)
 rw[e1,e2,e3,yI]
 have e4:logOf (kD o l++o::qF o l)=⟨(eJ (o::qF o l) (eJ (kD o l) [] []).1 (eJ (kD o l) [] []).2).1,(eJ (o::qF o l) (eJ (kD o l) [] []).1 (eJ (kD o l) [] []).2).2⟩:=by
  rw[logOf,aDk]
 rw[e4]
 rfl
theorem nD{o x:Opn}{l:List Opn}:x∈yI o l↔x=o∨x∈l:=by
 rw[yI,List.mem_append,List.mem_cons]
 have:x∈l↔x∈kD o l∨x∈qF o l:=by rw[←List.mem_append,lN]
 rw[this]
 constructor
 ·rintro(h|h|h)
  ·exact .inr (.inl h)
  ·exact .inl h
  ·exact .inr (.inr h)
 ·rintro(h|h|h)
  ·exact .inr (.inl h)
  ·exact .inl h
  ·exact .inr (.inr h)
theorem yT(o:Opn)(l:List Opn):(yI o l).length=l.length+1:=by
 have:=congrArg List.length (lN o l)
 rw[List.length_append]at this
 rw[yI,List.length_append,List.length_cons];omega
theorem aL1{o:Opn}{l:List Opn}(hs:Srt l)(hn:∀x∈l,x.at_≠o.at_):Srt (yI o l):=by
 have h0:=hs
 rw[←lN o l]at h0
 rw[Srt,List.pairwise_append]at h0
 rw[yI,Srt,List.pairwise_append,List.pairwise_cons]
 have hp:∀x∈kD o l,fY x.at_ o.at_=true:=fun x hx=>by
  have hx1:=aJf o l x hx
  rcases aG6 o.at_ x.at_ with q|q|q
  ·rw[q]at hx1;cases hx1
  ·exact absurd q.symm (hn x (by rw[←lN o l];simp[hx]))
  ·exact q
 refine⟨h0.1,⟨aJg hs,h0.2.1⟩,fun a ha b hb=>?_⟩
 rw[List.mem_cons]at hb
 rcases hb with rfl|hb
 ·exact hp a ha
 ·exact h0.2.2 a ha b hb
theorem aBN(l:List Opn)(a:Stm):jY (logOf l).entries a=l.any fun o=>decide (o.at_=a):=by rw[hasAt_ops',gR]
 where hasAt_ops' {g:Lg} {a:Stm}:jY g.entries a=(opsG g).any fun o=>decide (o.at_=a):=by rw[jY,opsG,List.any_map];rfl
structure Good (g:Lg):Prop where
 log:g=logOf (opsG g)
 srt:Srt (opsG g)
 ok:∀o∈opsG g,opOk o=true
theorem aJh:Good ⟨[],[]⟩:=⟨rfl,by simp[opsG],by simp[opsG]⟩
theorem mH{g:Lg}(h:Good g)(o:Opn):Good (eK g o)∧(opsG (eK g o)=opsG g∧eK g o=g∧(opOk o=false∨(∃x∈opsG g,x.at_=o.at_)∨200≤(opsG g).length)∨opsG (eK g o)=yI o (opsG g)∧opOk o=true∧(∀x∈opsG g,x.at_≠o.at_)):=by
 have hlen:(opsG g).length=g.entries.length:=List.length_map ..
 by_cases h1:opOk o=true
 ·by_cases h2:jY g.entries o.at_=true
  ·have e:eK g o=g:=by rw[eK,if_neg (by rw[h1];decide),if_pos h2]
   rw[e]
   refine⟨h,.inl ⟨rfl,rfl,.inr (.inl ?_)⟩⟩
   rw[h.log,aBN]at h2
   obtain⟨x,hx,hx2⟩:=List.any_eq_true.1 h2
   exact⟨x,hx,of_decide_eq_true hx2⟩
  ·by_cases h3:(200:Int)≤(g.entries.length:Int)
   ·have e:eK g o=g:=by rw[eK,if_neg (by rw[h1];decide),if_neg h2,if_pos h3]
    rw[e]
    exact⟨h,.inl ⟨rfl,rfl,.inr (.inr (by omega))⟩⟩
   ·have hno:∀x∈opsG g,x.at_≠o.at_:=by
     intro x hx e
     apply h2
     rw[h.log,aBN]
     exact List.any_eq_true.2 ⟨x,hx,by simpa using e⟩
    have h2':jY (logOf (opsG g)).entries o.at_=false:=by rw[←h.log];simpa using h2
    have e:=aL0 h.srt o h1 h2' (by omega)
    rw[←h.log]at e
    rw[e,gR]
    exact⟨⟨by rw[gR],by rw[gR];exact aL1 h.srt hno,by rw[gR];intro x hx;rcases nD.1 hx with rfl|hx;exact h1;exact h.ok x hx⟩,.inr ⟨rfl,h1,hno⟩⟩
 ·have h1:opOk o=false:=by simpa using h1
  have e:eK g o=g:=by rw[eK,if_pos h1]
  rw[e]
  exact⟨h,.inl ⟨rfl,rfl,.inl h1⟩⟩
theorem qG{g:Lg}(h:Good g)(l:List Opn):Good (dO g l):=by
 induction l generalizing g with
 |nil=>exact h
 |cons o l ih=>exact ih (mH h o).1
theorem aL2{a b:List Opn}(ha:Srt a)(hb:Srt b)(h:∀x,x∈a↔x∈b):a=b:=by
 induction a generalizing b with
 |nil=>
  cases b with
  |nil=>rfl
  |cons y b=>have:=(h y).2 (by simp);simp at this
 |cons x a ih=>
  cases b with
  |nil=>have:=(h x).1 (by simp);simp at this
  |cons y b=>
   rw[Srt,List.pairwise_cons]at ha hb
   have hxy:x=y:=by
    have h1:=(h x).1 (by simp)
    have h2:=(h y).2 (by simp)
    rw[List.mem_cons]at h1 h2
    rcases h1 with h1|h1
    ·exact h1
    ·rcases h2 with h2|h2
     ·exact h2.symm
     ·have h3:=xP (ha.1 y h2) (hb.1 x h1)
      rw[oE]at h3;cases h3
   subst hxy
   congr 1
   refine ih ha.2 hb.2 fun z=>?_
   have hz:=h z
   simp only[List.mem_cons]at hz
   constructor
   ·intro hza
    rcases hz.1 (.inr hza)with q|q
    ·subst q;have:=ha.1 z hza;rw[oE]at this;cases this
    ·exact q
   ·intro hzb
    rcases hz.2 (.inr hzb)with q|q
    ·subst q;have:=hb.1 z hzb;rw[oE]at this;cases this
    ·exact q
theorem aDl{g k:Lg}(hg:Good g)(hk:Good k)(h:∀x,x∈opsG g↔x∈opsG k):g=k:=by
 rw[hg.log,hk.log,aL2 hg.srt hk.srt h]
theorem aL3{g:Lg}(hg:Good g)(l:List Opn):(∀x∈opsG (dO g l),x∈opsG g∨x∈l∧opOk x=true)∧(∀x∈opsG g,x∈opsG (dO g l))∧(opsG (dO g l)).length≤(opsG g).length+l.length∧
  ((opsG g).length+l.length≤200→∀x∈l,opOk x=true→∃y∈opsG (dO g l),y.at_=x.at_):=by
 induction l generalizing g with
 |nil=>exact⟨fun x hx=>.inl hx,fun x hx=>hx,Nat.le_refl _,fun _ x hx=>by simp at hx⟩
 |cons o l ih=>
  obtain⟨h1,h2⟩:=mH hg o
  obtain⟨i1,i2,i3,i4⟩:=ih h1
  show(∀x∈opsG (dO (eK g o) l),_)∧(∀x∈opsG g,x∈opsG (dO (eK g o) l))∧(opsG (dO (eK g o) l)).length≤_∧(_→∀x∈o::l,_→∃y∈opsG (dO (eK g o) l),_)
  rcases h2 with⟨e1,e2,e3⟩|⟨e1,e2,e3⟩
  ·rw[e1]at i1 i2 i3 i4
   refine⟨fun x hx=>?_,i2,by simp only[List.length_cons];omega,fun hle x hx hxo=>?_⟩
   ·rcases i1 x hx with q|q
    ·exact .inl q
    ·exact .inr ⟨List.mem_cons_of_mem _ q.1,q.2⟩
   ·simp only[List.length_cons]at hle
    rw[List.mem_cons]at hx
    rcases hx with rfl|hx
    ·rcases e3 with e3|⟨y,hy,he⟩|e3
     ·rw[hxo]at e3;cases e3
     ·exact⟨y,i2 y hy,he⟩
     ·omega
    ·exact i4 (by omega) x hx hxo
  ·rw[e1]at i1 i2 i3 i4
   rw[yT]at i3 i4
   refine⟨fun x hx=>?_,fun x hx=>i2 x (nD.2 (.inr hx)),by simp only[List.length_cons];omega,fun hle x hx hxo=>?_⟩
   ·rcases i1 x hx with q|q
    ·rcases nD.1 q with rfl|q
     ·exact .inr ⟨by simp,e2⟩
     ·exact .inl q
    ·exact .inr ⟨List.mem_cons_of_mem _ q.1,q.2⟩
   ·simp only[List.length_cons]at hle
    rw[List.mem_cons]at hx
    rcases hx with rfl|hx
    ·exact⟨x,i2 x (nD.2 (.inl rfl)),rfl⟩
    ·exact i4 (by omega) x hx hxo
end Go.Gw
/- The document's sorting, in plain Lean: one behind the other, each at its place. No condition. -/
namespace Go.Gw
open Go Go.Aw Go.Proofs.YthhdnjiodklmmaaGreatDoor
def rK(o:Opn)(out:List Opn):Nat:=out.length-(out.reverse.takeWhile fun x=>fY o.at_ x.at_).length
theorem aBe{α:Type}(p:α→Bool)(a b:List α)(h:∀x∈a,p x=true)(hb:∀x∈b,p x=false):(a++b).takeWhile p=a:=by
 induction a with
 |nil=>
  cases b with
  |nil=>rfl
  |cons x b=>simp[hb x (by simp)]
 |cons x a ih=>
  rw[List.cons_append,List.takeWhile_cons,if_pos (h x (by simp)),ih fun y hy=>h y (by simp[hy])]
end Go.Gw
