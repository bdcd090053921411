/- What the functions of this seat answer (8 of 40). No condition. -/
import Derived.Test.YthafnbmdmfoobaaGreatDoorWorkAG
set_option linter.unusedSimpArgs false
set_option linter.unusedVariables false
set_option maxRecDepth 100000
set_option maxHeartbeats 16000000
namespace Go.Proofs.YthafnbmdmfoobaaGreatDoor
section
theorem H6(a b:aB):(decide (a.id=b.id)&&(decide (a.parent=b.parent)&&(decide (a.name=b.name)&&(decide (a.fB.c=b.fB.c)&&decide (a.fB.r=b.fB.r)&&(decide (a.data=b.data)&&(decide (a.wrote.c=b.wrote.c)&&decide (a.wrote.r=b.wrote.r)))))))=decide (a=b):=by
 obtain⟨_,_,_,⟨_,_⟩,_,⟨_,_⟩⟩:=a;obtain⟨_,_,_,⟨_,_⟩,_,⟨_,_⟩⟩:=b;rw[qh];simp[and_assoc]
theorem T4(a b:bf):(decide (a.at_.c=b.at_.c)&&decide (a.at_.r=b.at_.r)&&(decide (a.kind=b.kind)&&(decide (a.node=b.node)&&(decide (a.parent=b.parent)&&(decide (a.name=b.name)&&decide (a.data=b.data))))))=decide (a=b):=by
 obtain⟨⟨_,_⟩,_,_,_,_,_⟩:=a;obtain⟨⟨_,_⟩,_,_,_,_,_⟩:=b;rw[qh];simp[and_assoc]
theorem SB(aV bm:Bool)(l m:List aB)(H:ab):aY Tryz.prog 65 [.sl aV (l.map aW),.sl bm (m.map aW)] H (.bool (decide (l=m))):=by
 refine nz fun bl _=>?_
 have hl:=lI bl;rw[cP]at hl;refine bh Tryz.func65 ?_;repeat' first|(refine ad ?_;simp only[go_sem])|refine bx ?_|(refine bD ?_ ?_<;>intro h<;>try exact bB h)|fail
 ·exact bC (.of (by rw[b8 (fun e=>by subst e;simp at h)]))
 ·have hlen:l.length=m.length:=by simp at h;omega
  refine b5 (ι:=Nat) (fun i=>[(0,.sl aV (l.map aW)),(1,.sl bm (m.map aW)),(5,.int .i64 i)]) (fun _=>H) (fun i=>i<=l.length∧l.take i=m.take i) (fun i=>l.length-i) 0 ⟨bG _,rfl⟩ ?_ rfl ?_
  ·simp[go_sem]
  ·rintro i ⟨hi,he⟩;by_cases ak:i<l.length
   ·have ae:=dg aW ak;have aS:=dg aW (show i<m.length by omega)
    repeat' first|(refine ad ?_;simp only[go_sem,ae,aS,aW])|refine bx ?_|(refine bD ?_ ?_<;>intro h<;>try exact bB h)|fail
    ·rw[H6]at h;have aP:l[i]≠m[i]:=by simpa using h
     exact bC (.of (by rw[b8 (fun e=>aP (by subst e;rfl))]))
    ·rw[H6]at h;have heq:l[i]=m[i]:=by simpa using h
     exact⟨i+1,⟨ak,by rw[eB ak,eB (by omega),he,heq]⟩,by omega,by rw[cB];rfl⟩
   ·have cv:i=l.length:=by omega
    subst cv;repeat' first|(refine ad ?_;simp only[go_sem])|refine bx ?_|(refine bD ?_ ?_<;>intro h<;>try exact bB h)|fail
    exact bC (.of (by rw[cF (by rw[eQ,hlen,eQ]at he;exact he)]))
end
section
def uI:Option Int->List aB->Bool
 |_,[]=>true
 |p,n::l=>(gm n.id&&(match p with|none=>true|some q=>decide (q<n.id)))&&uI (some n.id) l
def cC(l:List aB):Bool:=uI none l
def xa(l:List aB)(i:Nat):Option Int:=if i=0 then none else(l[i-1]?).map (·.id)
theorem Z5{l:List aB}{i:Nat}(h:i<l.length):uI (xa l i) (l.drop i)=
  ((gm l[i].id&& !(decide ((0:Int)<(i:Int))&&decide (l[i].id<=(l[i-1]'(by omega)).id)))&&uI (xa l (i+1)) (l.drop (i+1))):=by
 rw[eo h,show uI (xa l i) (l[i]::l.drop (i+1))=((gm l[i].id&&(match xa l i with|none=>true|some q=>decide (q<l[i].id)))&&uI (some l[i].id) (l.drop (i+1)))from by cases xa l i<;>rfl]
 have e:xa l (i+1)=some l[i].id:=by
  simp[xa,c0 h]
 rw[e];congr 2;unfold xa;grind
def H7(p:Option Int)(l:List aB):Prop:=match p with|none=>True|some q=>∀x∈l,q<x.id
theorem aAX(p:Option Int)(l:List aB):uI p l=true↔(∀x∈l,gm x.id=true)∧l.Pairwise (fun a b=>a.id<b.id)∧H7 p l:=by
 induction l generalizing p with
 |nil=>cases p<;>simp[uI,H7]
 |cons n l ay=>
  grind [uI,qd,H7,c7,Option,Int,List,gm]
theorem yC(l:List aB):cC l=true↔(∀x∈l,gm x.id=true)∧l.Pairwise (fun a b=>a.id<b.id):=by
 unfold cC;rw[aAX];simp[H7]
def pos:List aB->Int->Nat
 |[],_=>0
 |n::l,id=>if n.id<id then pos l id+1 else 0
def e1(l:List aB)(id:Int):Option aB:=l.find? (fun n=>decide (n.id=id))
def hh(l:List aB)(id:Int):Bool:=(e1 l id).isSome
theorem aFy(l:List aB)(id:Int):pos l id<=l.length:=by
 induction l with
 |nil=>exact bk _
 |cons n l ay=>unfold pos;split<;>simp<;>omega
theorem aFz{l:List aB}{id:Int}{i:Nat}(hi:i<=l.length)(h1:∀k (hk:k<i),(l[k]'(by omega)).id<id)(h2:∀(h:i<l.length),¬l[i].id<id):pos l id=i:=by
 induction l generalizing i with
 |nil=>simp at hi;subst hi;rfl
 |cons n l ay=>
  unfold pos;cases i with
  |zero=>grind
  |succ i=>
   have:=h1 0 (by omega)
   simp at this;rw[aF this,ay (i:=i) (by simpa using hi) (fun k hk=>by grind) (fun h=>by have:=h2 (by simpa using h);simpa using this)]
theorem SC{l:List aB}{id:Int}(hs:cC l=true):e1 l id=match l[pos l id]? with|some n=>if n.id=id then some n else none|none=>none:=by
 have ae:=((yC l).1 hs).2;clear hs;induction l with
 |nil=>rfl
 |cons n l ay=>
  rw[qd]at ae;unfold e1 pos;rw[List.find?_cons];by_cases h:n.id<id
  ·rw[aF h,cg];simp only[vz];exact ay ae.2
  ·grind
theorem AJ{l:List aB}{id:Int}(hs:cC l=true):hh l id=(match l[pos l id]? with|some n=>decide (n.id=id)|none=>false):=by
 rw[hh,SC hs];split
 ·split<;>simp_all
 ·rfl
theorem uc{l:List aB}{id:Int}(hs:cC l=true)(h:hh l id=true):pos l id<l.length:=by
 rw[AJ hs]at h;split at h
 ·rename_i n ag;exact(cA.1 ag).1
 ·cases h
theorem HB{l:List aB}{id:Int}(hs:cC l=true)(h:hh l id=true):e1 l id=some (l[pos l id]'(uc hs h)):=by
 have ak:=uc hs h;rw[AJ hs,c0 ak]at h;rw[SC hs,c0 ak];grind
theorem HS{l:List aB}{id:Int}(h:hh l id=false):e1 l id=none:=by
 unfold hh at h;cases an:e1 l id<;>simp_all
def kt(l:List aB):Nat->Int->List Int
 |0,_=>[]
 |k+1,id=>match e1 l id with
  |none=>[]
  |some n=>if n.parent= -1 then[]else n.parent::kt l k n.parent
def g0(l:List aB)(id:Int):List Int:=kt l l.length id
def nb(l:List aB)(id:Int):List Int:=if cC l=true then g0 l id else[]
def xN(l:List aB)(id:Int):Option aB:=if cC l=true then e1 l id else none
def mv(l:List aB)(i j:Nat)(xs:List aB):List aB:=l.take i++xs++l.drop j
def sP(l:List aB)(o:bf):Bool:=decide (o.parent=o.node)||(g0 l o.parent).any (fun x=>decide (x=o.node))
def refused(l:List aB)(o:bf):Bool:= !cC l|| !dk o||(decide (o.kind=1)&&sP l o)
def n9(l:List aB)(o:bf):aB:=match e1 l o.node with|some n=>n|none=>{sS with id:=o.node,parent:= -1}
def iR(l:List aB)(o:bf):aB:=
 if o.kind=1 then{n9 l o with parent:=o.parent,name:=o.name,fB:=o.at_}else{n9 l o with data:=o.data,wrote:=o.at_}
def upto(l:List aB)(id:Int):Nat:=if hh l id=true then pos l id+1 else pos l id
def ed(l:List aB)(o:bf):List aB:=if refused l o=true then l else mv l (pos l o.node) (upto l o.node) [iR l o]
def j5(l:List aB)(o:bf):xB:=if refused l o=true then Ni else⟨true,hh l o.node,(e1 l o.node).getD sS⟩
def rJ(l:List aB)(o:bf)(u:xB):List aB:=
 if(!cC l|| !u.oT)=true then l
 else if(gm o.node&&u.hh&&decide (u.b4.id=o.node))=true then mv l (pos l o.node) (upto l o.node) [u.b4]
 else mv l (pos l o.node) (upto l o.node) []
theorem HC(l:List aB)(id:Int)(hs:cC l=true):pos l id<=upto l id∧upto l id<=l.length:=by
 have:=aFy l id;unfold upto;split
 ·rename_i h;have:=uc hs h;omega
 ·omega
theorem KR(l:List aB)(i j:Nat)(xs:List aB)(h:i<=j)(aw:j<=l.length):(mv l i j xs).length+j=i+xs.length+l.length:=by
 simp[mv];omega
end
section
def oo(dir:Int)(n:aB):Bool:=decide (n.parent=dir)&&ox n.fB.c n.fB.r
def hA(s:aM):List (aM×aB)->Option aB
 |[]=>none
 |(k,n)::m=>if k=s then some n else hA s m
def hO(s:aM)(n:aB):List (aM×aB)->List (aM×aB)
 |[]=>[(s,n)]
 |(k,x)::m=>if k=s then(s,n)::m else(k,x)::hO s n m
def q0(m:List (aM×aB))(n:aB):List (aM×aB):=match hA n.name m with
 |none=>hO n.name n m
 |some o=>if xH n.fB.c n.fB.r o.fB.c o.fB.r=true then m else hO n.name n m
def l4(dir:Int)(m:List (aM×aB))(n:aB):List (aM×aB):=if oo dir n=true then q0 m n else m
def fu(l:List aB)(dir:Int):List (aM×aB):=l.foldl (l4 dir) []
def fp(l:List aB)(dir:Int)(s:aM):Option aB:=if cC l=true then hA s (fu l dir)else none
def jo(l:List aB):Int->List aM->Int×Int
 |at_,[]=>(at_,0)
 |at_,s::names=>if dy at_=true then(match fp l at_ s with|some n=>jo l n.id names|none=>(0,80))else(0,81)
def fg(l:List aB)(names:List aM):Int×Int:=jo l 0 names
def fO:Nat->List (aM×aB)->List (I×I×Nat)
 |_,[]=>[]
 |b,p::m=>(.str p.1,aW p.2,b)::fO (b+1) m
theorem L4(b:Nat)(m:List (aM×aB)):iy .string (fO b m):=by
 induction m generalizing b with
 |nil=>exact fun p ae=>by simp[fO]at ae
 |cons p m ay=>
  intro q aS;rcases c7.1 aS with rfl|aS
  ·rfl
  ·exact ay _ q aS
theorem UR(b:Nat)(m:List (aM×aB)):(fO b m).length=m.length:=by
 induction m generalizing b with
 |nil=>rfl
 |cons p m ay=>simp[fO,ay]
theorem Tl(b:Nat)(m:List (aM×aB))(s:aM):(hA s m=none∧eL (.str s) (fO b m)=none)∨∃n j,hA s m=some n∧eL (.str s) (fO b m)=some (j,aW n):=by
 induction m generalizing b with
 |nil=>exact .inl ⟨rfl,rfl⟩
 |cons p m ay=>
  obtain⟨k,n⟩:=p;by_cases h:k=s
  ·subst h;exact .inr ⟨n,0,by simp[hA],by simp[fO,eL,iA]⟩
  ·have dr:iA (.str s) (.str k)=false:=by simp[iA];exact fun e=>h e.symm
   rcases ay (b+1)with⟨h1,h2⟩|⟨x,j,h1,h2⟩
   ·exact .inl ⟨by simp[hA,h,h1],by simp[fO,eL,dr,h2]⟩
   ·exact .inr ⟨x,j+1,by simp[hA,h,h1],by simp[fO,eL,dr,h2]⟩
theorem Ll{x y v w:I}{b clock:Nat}{es:List (I×I×Nat)}(h:iA x y=false):hB x v ((y,w,b)::es) clock=(y,w,b)::hB x v es clock:=by
 simp only[hB,eL,h,qi];cases eL x es with
 |none=>rfl
 |some p=>rfl
theorem Ye{x y w:I}{b clock:Nat}{es:List (I×I×Nat)}(h:iA x y=false):pQ x ((y,w,b)::es) clock=pQ x es clock:=by
 simp only[pQ,eL,h,qi];cases eL x es<;>rfl
theorem aC5(b:Nat)(m:List (aM×aB))(s:aM)(n:aB):hB (.str s) (aW n) (fO b m) (b+m.length)=fO b (hO s n m)∧pQ (.str s) (fO b m) (b+m.length)=b+(hO s n m).length:=by
 induction m generalizing b with
 |nil=>exact⟨rfl,rfl⟩
 |cons p m ay=>
  obtain⟨k,x⟩:=p;by_cases h:k=s
  ·subst h;exact⟨by simp[fO,hB,eL,iA,hO],by simp[fO,pQ,eL,iA,hO]⟩
  ·have dr:iA (.str s) (.str k)=false:=by simp[iA];exact fun e=>h e.symm
   obtain⟨h1,h2⟩:=ay (b+1);have e:b+((k,x)::m).length=b+1+m.length:=by simp;omega
   rw[e];simp only[fO,hO,az h];rw[Ll dr,Ye dr,h1,h2];exact⟨rfl,by simp;omega⟩
theorem aBw(m:List (aM×aB))(s:aM)(n:aB):bu.map (hB (.str s) (aW n) (fO 0 m) m.length) (pQ (.str s) (fO 0 m) m.length)=.map (fO 0 (hO s n m)) (hO s n m).length:=by
 have:=aC5 0 m s n;rw[mC,mC]at this;rw[this.1,this.2]
theorem aHa(k:Nat)(n:aB):cX k (aW n):=(bO.agg _ fun x J=>by
 simp only[c7,jB,jD]at J;rcases J with rfl|rfl|rfl|rfl|rfl|rfl|rfl|rfl<;>first|exact .int _ _|exact .str _).cl k
theorem TC(k b:Nat)(m:List (aM×aB)):∀p∈fO b m,cX k p.1∧cX k p.2.1:=by
 induction m generalizing b with
 |nil=>exact fun p ae=>by simp[fO]at ae
 |cons q m ay=>
  intro p ae;rcases c7.1 ae with rfl|ae
  ·exact⟨.str _,aHa k _⟩
  ·exact ay _ p ae
end
section
@[go_sem] theorem aNx{P:Program}(ts eO:TypeId)(f g:Bool)(es r:List I)(e:I)(H:ab):vv P ts eO (.sl f es) (.sl g (e::r)) H=tY P ts eO (.sl f es) (.sl g (e::r)) H:=by
 cases es with
 |nil=>rfl
 |cons a es=>simp[vv,fa]
def hf(a b:jj):Bool:=xH a.c a.r b.c b.r
def pe(l:List eH)(a:jj):Bool:=l.any fun e=>decide (e.op.at_=a)
def iF(a:jj):List eH->List aB->Nat×List aB
 |[],n=>(0,n)
 |e::r,n=>if hf a e.op.at_=true then((iF a r (rJ n e.op e.l6)).1+1,(iF a r (rJ n e.op e.l6)).2)else(0,n)
def fb:List bf->List eH->List aB->List eH×List aB
 |[],es,n=>(es,n)
 |o::os,es,n=>fb os (es++[⟨o,j5 n o⟩]) (ed n o)
def gA(g:hy)(o:bf):hy:=
 if dk o=false then g else if pe g.entries o.at_=true then g else if(200:Int)<=(g.entries.length:Int)then g
 else
  ⟨(fb (o::(g.entries.drop (g.entries.length-(iF o.at_ g.entries.reverse g.nodes).1)).map eH.op) (g.entries.take (g.entries.length-(iF o.at_ g.entries.reverse g.nodes).1)) (iF o.at_ g.entries.reverse g.nodes).2).1,
    (fb (o::(g.entries.drop (g.entries.length-(iF o.at_ g.entries.reverse g.nodes).1)).map eH.op) (g.entries.take (g.entries.length-(iF o.at_ g.entries.reverse g.nodes).1)) (iF o.at_ g.entries.reverse g.nodes).2).2⟩
def r0(g:hy)(o:bf):Int:=
 if dk o=false then 50 else if pe g.entries o.at_=true then 0 else if(200:Int)<=(g.entries.length:Int)then 193 else 0
def l2:hy->List bf->hy
 |g,[]=>g
 |g,o::os=>l2 (gA g o) os
def dN(g:hy):List bf:=g.entries.map eH.op
theorem aBx(a:jj)(l:List eH)(n:List aB):(iF a l n).1<=l.length:=by
 induction l generalizing n with
 |nil=>simp[iF]
 |cons e l ay=>unfold iF;split<;>simp;exact ay _
theorem Ro(l:List aB)(o:bf)(u:xB):(rJ l o u).length<=l.length+1:=by
 unfold rJ;split
 ·omega
 ·rename_i h;have al:cC l=true:=by
   cases al:cC l with
   |true=>rfl
   |false=>simp[al]at h
  have:=HC l o.node al;split
  ·have:=KR l (pos l o.node) (upto l o.node) [u.b4] (by omega) (by omega);simp at this;omega
  ·have:=KR l (pos l o.node) (upto l o.node) [] (by omega) (by omega);simp at this;omega
theorem LQ(l:List aB)(o:bf):(ed l o).length<=l.length+1:=by
 unfold ed;split
 ·omega
 ·rename_i h;have al:cC l=true:=by
   cases al:cC l with
   |true=>rfl
   |false=>simp[refused,al]at h
  have:=HC l o.node al;have:=KR l (pos l o.node) (upto l o.node) [iR l o] (by omega) (by omega);simp at this;omega
theorem ZB(a:jj)(l:List eH)(n:List aB):(iF a l n).2.length<=n.length+l.length:=by
 induction l generalizing n with
 |nil=>simp[iF]
 |cons e l ay=>
  unfold iF;split
  ·have:=ay (rJ n e.op e.l6);have:=Ro n e.op e.l6;simp;omega
  ·simp
theorem RU(l:List bf)(es:List eH)(n:List aB):(fb l es n).2.length<=n.length+l.length∧(fb l es n).1.length=es.length+l.length:=by
 induction l generalizing es n with
 |nil=>simp[fb]
 |cons o l ay=>
  unfold fb;have:=ay (es++[⟨o,j5 n o⟩]) (ed n o);have:=LQ n o;simp at *;omega
theorem Rp(l:List bf)(o:bf)(es:List eH)(n:List aB):fb (l++[o]) es n=((fb l es n).1++[⟨o,j5 (fb l es n).2 o⟩],ed (fb l es n).2 o):=by
 induction l generalizing es n with
 |nil=>rfl
 |cons x l ay=>rw[gi,fb,ay,fb]
end
section
theorem RV(l:List bf)(es:List eH)(n:List aB):(fb l es n).1.map eH.op=es.map eH.op++l:=by
 induction l generalizing es n with
 |nil=>simp[fb]
 |cons o l ay=>unfold fb;rw[ay];simp
def MW(g:hy)(o:bf):Nat:=g.entries.length-(iF o.at_ g.entries.reverse g.nodes).1
theorem aBy(g:hy)(o:bf):dN (gA g o)=if dk o=false∨pe g.entries o.at_=true∨(200:Int)<=(g.entries.length:Int)then dN g
  else(dN g).take (MW g o)++o::(dN g).drop (MW g o):=by
 unfold gA dN;by_cases h1:dk o=false
 ·rw[aF h1,aF (.inl h1)]
 ·by_cases h2:pe g.entries o.at_=true
  ·rw[az h1,aF h2,aF (.inr (.inl h2))]
  ·by_cases h3:(200:Int)<=(g.entries.length:Int)
   ·rw[az h1,az h2,aF h3,aF (.inr (.inr h3))]
   ·rw[az h1,az h2,az h3,az (by rintro(h|h|h)<;>contradiction),RV]
    simp only[MW,rX,y1]
theorem KS(g:hy)(o:bf):(gA g o).entries.length<=g.entries.length+1∧((gA g o).entries.length<=200∨(gA g o).entries.length=g.entries.length)∧(g.entries.length<=200->(gA g o).nodes.length<=g.nodes.length+401):=by
 unfold gA;split
 ·exact⟨by omega,.inr rfl,fun _=>by omega⟩
 ·split
  ·exact⟨by omega,.inr rfl,fun _=>by omega⟩
  ·split
   ·exact⟨by omega,.inr rfl,fun _=>by omega⟩
   ·have h1:=aBx o.at_ g.entries.reverse g.nodes;have h2:=ZB o.at_ g.entries.reverse g.nodes;have h3:=RU (o::(g.entries.drop (g.entries.length-(iF o.at_ g.entries.reverse g.nodes).1)).map eH.op) (g.entries.take (g.entries.length-(iF o.at_ g.entries.reverse g.nodes).1)) (iF o.at_ g.entries.reverse g.nodes).2;rw[List.length_reverse]at h1 h2;simp only[cm,cP,gL,e8]at h3;refine⟨by simp only;omega,.inl (by simp only;omega),fun h=>by simp only;omega⟩
theorem aBz(g:hy)(o:bf)(P:bf->Prop)(h:∀e∈g.entries,P e.op)(aN:P o):∀e∈(gA g o).entries,P e.op:=by
 intro e he;have h1:e.op∈dN (gA g o):=List.mem_map_of_mem he;rw[aBy]at h1;have aJ:∀x∈dN g,P x:=fun x J=>by obtain⟨ku,tA,rfl⟩:=bP.1 J;exact h ku tA
 split at h1
 ·exact aJ _ h1
 ·rw[eX,c7]at h1;rcases h1 with h1|h1|h1
  ·exact aJ _ (List.mem_of_mem_take h1)
  ·rw[h1];exact aN
  ·exact aJ _ (vG h1)
end
section
theorem aBA{s:aM}{n:aB}{m:List (aM×aB)}{p:aM×aB}(h:p∈hO s n m):p.2=n∨p∈m:=by
 induction m with
 |nil=>simp[hO]at h;left;rw[h]
 |cons q m ay=>
  obtain⟨k,x⟩:=q;unfold hO at h;split at h
  ·rcases c7.1 h with rfl|h
   ·exact .inl rfl
   ·exact .inr (lf _ h)
  ·rcases c7.1 h with rfl|h
   ·exact .inr (by simp)
   ·rcases ay h with h|h
    ·exact .inl h
    ·exact .inr (lf _ h)
theorem ZC{s:aM}{n:aB}{m:List (aM×aB)}(h:hA s m=some n):∃p∈m,p.2=n:=by
 induction m with
 |nil=>cases h
 |cons q m ay=>
  obtain⟨k,x⟩:=q;unfold hA at h;split at h
  ·exact⟨(k,x),by simp,by simpa using h⟩
  ·obtain⟨p,ae,e⟩:=ay h;exact⟨p,lf _ ae,e⟩
theorem LB(l:List aB)(dir:Int):∀p∈fu l dir,p.2∈l∧oo dir p.2=true:=by
 suffices h:∀(k l:List aB) (m:List (aM×aB)),(∀p∈m,p.2∈l∧oo dir p.2=true)->(∀n∈k,n∈l)->∀p∈k.foldl (l4 dir) m,p.2∈l∧oo dir p.2=true from h l l [] (fun p ae=>by cases ae) (fun n ag=>ag)
 intro k;induction k with
 |nil=>intro l m hm _;exact hm
 |cons x k ay=>
  intro l m hm hk;refine ay l (l4 dir m x) (fun p ae=>?_) (fun n ag=>hk n (lf _ ag))
  unfold l4 at ae;split at ae
  ·rename_i J;unfold q0 at ae;have hs:∀p∈hO x.name x m,p.2∈l∧oo dir p.2=true:=fun p ae=>by
    rcases aBA ae with e|h
    ·rw[e];exact⟨hk x (by simp),J⟩
    ·exact hm p h
   split at ae
   ·exact hs p ae
   ·split at ae
    ·exact hm p ae
    ·exact hs p ae
  ·exact hm p ae
theorem Da{l:List aB}{dir:Int}{s:aM}{n:aB}(h:fp l dir s=some n):cC l=true∧n∈l∧n.parent=dir:=by
 unfold fp at h;split at h
 ·rename_i al;obtain⟨p,ae,e⟩:=ZC h;obtain⟨h1,h2⟩:=LB l dir p ae;rw[e]at h1 h2;unfold oo at h2;rw[dD,hR]at h2;exact⟨al,h1,h2.1⟩
 ·cases h
end
section
def qV(l:List aB)(n:aB):List aB:=mv l (pos l n.id) (upto l n.id) [n]
def UM(l:List aB)(id:Int):List aB:=mv l (pos l id) (upto l id) []
theorem Au(l:List aB)(o:bf):(iR l o).id=o.node:=by
 have h:(n9 l o).id=o.node:=by
  unfold n9;split
  ·rename_i n ag;have:=yY ag;simpa using this
  ·rfl
 unfold iR;split<;>exact h
theorem u9{l:List aB}{o:bf}(h:refused l o=false):ed l o=qV l (iR l o):=by
 rw[ed,az (by rw[h];decide),qV,Au]
theorem RW(l:List aB)(id:Int)(x:aB)(J:x∈l.take (pos l id)):x.id<id:=by
 induction l<;>grind [pos,c7]
theorem RX{l:List aB}(hs:cC l=true)(id:Int)(x:aB)(J:x∈l.drop (upto l id)):id<x.id:=by
 have ae:=((yC l).1 hs).2;rw[xm]at ae;obtain⟨i,hi,rfl⟩:=s5 J;rw[gL]at hi;rw[List.getElem_drop];have tL:∀k (hk:k<l.length),pos l id<=k->¬l[k].id<id:=by
  intro k hk hle ak;have key:∀(l:List aB),(∀(i j:Nat) (aMt:i<l.length) (aMu:j<l.length),i<j->l[i].id<l[j].id)->∀k (hk:k<l.length),pos l id<=k->¬l[k].id<id:=by
   intro l;induction l with
   |nil=>intro _ k hk;simp at hk
   |cons n l ay=>
    intro ae k hk hle ak;unfold pos at hle;split at hle
    ·cases k with
     |zero=>omega
     |succ k=>
      refine ay (fun i j hi aw gp=>?_) k (by simpa using hk) (by omega) (by simpa using ak)
      have:=ae (i+1) (j+1) (by simpa using hi) (by simpa using aw) (by omega)
      simpa using this
    ·rename_i ag;cases k with
     |zero=>simp at ak;omega
     |succ k=>
      have:=ae 0 (k+1) (by simp) hk (by omega)
      simp at this ak;omega
  exact key l ae k hk hle ak
 unfold upto at hi ⊢;split
 ·rename_i ah;have ak:=uc hs ah;have he:l[pos l id].id=id:=by
   rw[AJ hs,c0 ak]at ah;simpa using ah
  rw[aF ah]at hi;have:=ae (pos l id) (pos l id+1+i) ak (by omega) (by omega)
  omega
 ·rename_i ah;rw[az ah]at hi;have h1:=tL (pos l id+i) (by omega) (by omega)
  have h2:l[pos l id+i].id≠id:=by
   intro e;by_cases aJw:i=0
   ·subst aJw;apply ah
    rw[AJ hs,c0 (by omega)]
    simpa using e
   ·have h3:=ae (pos l id) (pos l id+i) (by omega) (by omega) (by omega)
    have h4:=tL (pos l id) (by omega) (bk _)
    omega
  omega
theorem SD{l:List aB}(hs:cC l=true){n:aB}(ag:gm n.id=true):cC (qV l n)=true:=by
 have h:=(yC l).1 hs;rw[yC];have aj:∀x∈l.take (pos l n.id),x.id<n.id:=RW l n.id;have hd:∀x∈l.drop (upto l n.id),n.id<x.id:=RX hs n.id;unfold qV mv;grind
theorem SE{A B:List aB}{n:aB}{id:Int}(cf:∀x∈A,x.id<id)(ag:n.id=id):pos (A++n::B) id=A.length:=by
 induction A<;>simp_all[pos,gi,]
theorem aDR{A B:List aB}{id:Int}(cf:∀x∈A,x.id<id)(bK:∀x∈B,id<x.id):pos (A++B) id=A.length:=by
 induction A with
 |nil=>
  cases B with
  |nil=>rfl
  |cons b B=>have:=bK b (by simp);rw[gK,pos,az (by omega)];rfl
 |cons a A ay=>
  rw[gi,pos,aF (cf a (by simp)),ay fun x J=>cf x (by simp[J])];rfl
theorem Dr{A B:List aB}{n:aB}{id:Int}(cf:∀x∈A,x.id<id)(ag:n.id=id):e1 (A++n::B) id=some n:=by
 unfold e1;grind
theorem KU{l:List aB}(hs:cC l=true)(id:Int):∃A B,(∀x∈A,x.id<id)∧(∀x∈B,id<x.id)∧A=l.take (pos l id)∧B=l.drop (upto l id)∧(l=A++B∧hh l id=false∨∃n,n.id=id∧l=A++n::B∧hh l id=true):=by
 refine⟨_,_,RW l id,RX hs id,rfl,rfl,?_⟩;cases ah:hh l id with
 |false=>
  left;unfold upto;simp_all
 |true=>
  right;have ak:=uc hs ah;have he:l[pos l id].id=id:=by
   have:=ah;rw[AJ hs,c0 ak]at this;simpa using this
  refine⟨l[pos l id],he,?_,rfl⟩;unfold upto;rw[aF ah,<-eo ak,jf]
theorem MA{l:List aB}(n:aB){A B:List aB}(cf:A=l.take (pos l n.id))(bK:B=l.drop (upto l n.id)):qV l n=A++n::B:=by
 rw[qV,mv,cf,bK,cr];rfl
theorem LR{A B:List aB}{n m:aB}(cf:∀x∈A,x.id<n.id)(hm:m.id=n.id):qV (A++m::B) n=A++n::B:=by
 have ae:pos (A++m::B) n.id=A.length:=SE cf hm;have ah:hh (A++m::B) n.id=true:=by rw[hh,Dr cf hm];rfl
 rw[qV,mv,upto,aF ah,ae,List.take_left',show A.length+1=A.length+1 from rfl,cr]
 ·simp_all
 ·rfl
theorem aDS{A B:List aB}{m:aB}{id:Int}(cf:∀x∈A,x.id<id)(hm:m.id=id):UM (A++m::B) id=A++B:=by
 have ae:pos (A++m::B) id=A.length:=SE cf hm;have ah:hh (A++m::B) id=true:=by rw[hh,Dr cf hm];rfl
 rw[UM,mv,upto,aF ah,ae,List.take_left',b2]
 ·simp_all
 ·rfl
theorem aDT{l:List aB}(o:bf)(hs:cC l=true):rJ (ed l o) o (j5 l o)=l:=by
 cases ax:refused l o with
 |true=>
  rw[ed,aF ax,j5,aF ax,rJ,aF (by simp[Ni])]
 |false=>
  have bl:dk o=true:=by
   grind [dk,refused]
  have tI:gm o.node=true:=by
   unfold dk xg xI at bl;split at bl<;>simp at bl<;>simp[bl]
  have ia:=Au l o;have al:cC (ed l o)=true:=by rw[u9 ax];exact SD hs (by rw[ia];exact tI)
  rw[j5,az (by rw[ax];decide),rJ,az (by rw[al];simp)]
  obtain⟨A,B,cf,bK,Cd,Ce,aI9⟩:=KU hs o.node;have hd:ed l o=A++iR l o::B:=by
   rw[u9 ax];exact MA _ (by rw[ia];exact Cd) (by rw[ia];exact Ce)
  rcases aI9 with⟨hl,ah⟩|⟨n,ag,hl,ah⟩
  ·rw[az (by rw[ah];simp)]
   have:=aDS (B:=B) cf ia;rw[hd];exact this.trans hl.symm
  ·have an:e1 l o.node=some n:=by rw[hl];exact Dr cf ag
   rw[aF (by rw[ah,an,tI];simpa using ag),an,oJ]
   have:=LR (n:=n) (m:=iR l o) (B:=B) (by rw[ag];exact cf) (by rw[ag,ia])
   rw[hd];have h2:qV (A++iR l o::B) n=mv (A++iR l o::B) (pos (A++iR l o::B) o.node) (upto (A++iR l o::B) o.node) [n]:=by rw[qV,ag]
   rw[<-h2,this,<-hl]
theorem MB{l:List aB}(o:bf)(hs:cC l=true):cC (ed l o)=true:=by
 cases ax:refused l o with
 |true=>rw[ed,aF ax];exact hs
 |false=>
  have bl:dk o=true:=by
   grind [dk,refused]
  have tI:gm o.node=true:=by
   grind [dk,xg,xI]
  rw[u9 ax];exact SD hs (by rw[Au];exact tI)
end
section
theorem HD{a b:jj}:hf a b=true↔a.c<b.c∨(a.c=b.c∧a.r<b.r):=GV
theorem aDU{a b:jj}:hf a b=false↔¬(a.c<b.c∨(a.c=b.c∧a.r<b.r)):=by rw[<-HD,vB]
theorem aDV{a b:jj}(h1:a.c=b.c)(h2:a.r=b.r):a=b:=by cases a;cases b;simp_all
theorem ZD(a b:jj):hf a b=true∨a=b∨hf b a=true:=by
 rw[HD,HD];by_cases h:a=b
 ·exact .inr (.inl h)
 ·have:¬(a.c=b.c∧a.r=b.r):=fun q=>h (aDV q.1 q.2)
  omega
theorem Yu{a b c:jj}(h:hf a b=true)(k:hf b c=true):hf a c=true:=by
 rw[HD]at *;omega
def fJ(l:List bf):hy:=⟨(fb l [] []).1,(fb l [] []).2⟩
abbrev xA(l:List bf):Prop:=l.Pairwise fun x y=>hf x.at_ y.at_=true
theorem RY(a b:List bf)(es:List eH)(n:List aB):fb (a++b) es n=fb b (fb a es n).1 (fb a es n).2:=by
 induction a generalizing es n<;>grind [gi,fb]
theorem aBB(l:List bf)(es:List eH)(n:List aB):fb l es n=(es++(fb l [] n).1,(fb l [] n).2):=by
 induction l generalizing es n with
 |nil=>simp[fb]
 |cons o l ay=>
  show fb l (es++[⟨o,j5 n o⟩]) (ed n o)=(es++(fb l ([]++[⟨o,j5 n o⟩]) (ed n o)).1,(fb l ([]++[⟨o,j5 n o⟩]) (ed n o)).2);grind
theorem aBC(l:List bf)(es:List eH){n:List aB}(h:cC n=true):cC (fb l es n).2=true:=by
 induction l generalizing es n with
 |nil=>exact h
 |cons o l ay=>exact ay _ (MB o h)
theorem ZE(l:List bf):cC (fJ l).nodes=true:=aBC l [] rfl
theorem wm(l:List bf):dN (fJ l)=l:=by rw[dN,fJ,RV];rfl
theorem aBD(a:jj)(pre:List bf)(r:List bf)(h:∀x∈r,hf a x.at_=true):
  iF a (fJ (pre++r.reverse)).entries.reverse (fJ (pre++r.reverse)).nodes=((iF a (fJ pre).entries.reverse (fJ pre).nodes).1+r.length,(iF a (fJ pre).entries.reverse (fJ pre).nodes).2):=by
 induction r with
 |nil=>simp
 |cons x r ay=>
  have h2:=ay fun y aG=>h y (by simp[aG])
  have e:pre++(x::r).reverse=(pre++r.reverse)++[x]:=by simp
  have au:fJ ((pre++r.reverse)++[x])=⟨(fJ (pre++r.reverse)).entries++[⟨x,j5 (fJ (pre++r.reverse)).nodes x⟩],ed (fJ (pre++r.reverse)).nodes x⟩:=by
   rw[fJ,Rp];rfl
  rw[e,au];simp only[List.reverse_append,List.reverse_cons,List.reverse_nil,gK,gi];rw[iF,aF (h x (by simp)),aDT x (ZE _),h2]
  simp[vJ]
theorem ZF(a:jj)(pre:List bf)(h:∀x∈pre,hf a x.at_=false)(n:List aB):(iF a (fJ pre).entries.reverse n).1=0∧(iF a (fJ pre).entries.reverse n).2=n:=by
 cases ax:(fJ pre).entries.reverse with
 |nil=>exact⟨rfl,rfl⟩
 |cons e r=>
  have he:e∈(fJ pre).entries:=by rw[<-List.mem_reverse,ax];simp
  have h1:e.op∈dN (fJ pre):=List.mem_map_of_mem he;rw[wm]at h1;rw[iF,az (by rw[h _ h1];decide)]
  exact⟨rfl,rfl⟩
def jP(o:bf)(l:List bf):List bf:=l.takeWhile fun x=> !hf o.at_ x.at_
def oC(o:bf)(l:List bf):List bf:=l.dropWhile fun x=> !hf o.at_ x.at_
def r9(o:bf)(l:List bf):List bf:=jP o l++o::oC o l
theorem w2(o:bf)(l:List bf):jP o l++oC o l=l:=List.takeWhile_append_dropWhile
theorem TD(o:bf)(l:List bf):∀x∈jP o l,hf o.at_ x.at_=false:=by
 intro x J;unfold jP at J;induction l with
 |nil=>simp at J
 |cons y l ay=>
  grind [List.takeWhile_cons,c7]
theorem TE{o:bf}{l:List bf}(h:xA l):∀x∈oC o l,hf o.at_ x.at_=true:=by
 intro x J;unfold oC at J;induction l with
 |nil=>simp at J
 |cons y l ay=>
  rw[xA,qd]at h;rw[List.dropWhile_cons]at J;split at J
  ·exact ay h.2 J
  ·rename_i aG;have aG:hf o.at_ y.at_=true:=by simpa using aG
   rw[c7]at J;rcases J with rfl|J
   ·exact aG
   ·exact Yu aG (h.1 x J)
theorem aDW{l:List bf}(hs:xA l)(o:bf)(h1:dk o=true)(h2:pe (fJ l).entries o.at_=false)(h3:(l.length:Int)<200):gA (fJ l) o=fJ (r9 o l):=by
 have hlen:(fJ l).entries.length=l.length:=by
  have:=bH List.length (wm l);rwa[dN,cP]at this
 have hu:=aBD o.at_ (jP o l) (oC o l).reverse (fun x J=>TE hs x (List.mem_reverse.1 J))
 rw[List.reverse_reverse,w2]at hu;have ag:=ZF o.at_ (jP o l) (TD o l) (fJ (jP o l)).nodes;have aKw:iF o.at_ (fJ l).entries.reverse (fJ l).nodes=((oC o l).length,(fJ (jP o l)).nodes):=by
  rw[hu,ag.2,ag.1];simp
 have wE:l.length=(jP o l).length+(oC o l).length:=by
  have:=bH List.length (w2 o l);grind
 have he:(fJ l).entries=(fJ (jP o l)).entries++(fb (oC o l) [] (fJ (jP o l)).nodes).1:=by
  have e:(fJ l).entries=(fJ (jP o l++oC o l)).entries:=bH (fun x=>(fJ x).entries) (w2 o l).symm
  rw[e,fJ,RY,aBB (oC o l)];rfl
 have iU:(fJ (jP o l)).entries.length=(jP o l).length:=by
  have:=bH List.length (wm (jP o l));rwa[dN,cP]at this
 rw[gA,az (by rw[h1];decide),az (by rw[h2];decide),az (by omega),aKw]
 simp only;have ar:(fJ l).entries.length-(oC o l).length=(jP o l).length:=by omega
 have au:(fJ l).entries.take (jP o l).length=(fJ (jP o l)).entries:=by rw[he,<-iU,List.take_left'];rfl
 have bd:((fJ l).entries.drop (jP o l).length).map eH.op=oC o l:=by
  rw[y1];have:=wm l;rw[dN]at this;rw[this];exact(bH (List.drop (jP o l).length) (w2 o l).symm).trans (List.drop_left' rfl)
 rw[ar,au,bd,r9];have bE:fJ (jP o l++o::oC o l)=⟨(fb (o::oC o l) (fb (jP o l) [] []).1 (fb (jP o l) [] []).2).1,(fb (o::oC o l) (fb (jP o l) [] []).1 (fb (jP o l) [] []).2).2⟩:=by
  rw[fJ,RY]
 rw[bE];rfl
theorem AK{o x:bf}{l:List bf}:x∈r9 o l↔x=o∨x∈l:=by
 rw[r9,eX,c7];have:x∈l↔x∈jP o l∨x∈oC o l:=by rw[<-eX,w2]
 grind
theorem LS(o:bf)(l:List bf):(r9 o l).length=l.length+1:=by
 have:=bH List.length (w2 o l);rw[bt]at this;rw[r9,bt,cm];omega
theorem aDX{o:bf}{l:List bf}(hs:xA l)(ag:∀x∈l,x.at_≠o.at_):xA (r9 o l):=by
 have aC:=hs;rw[<-w2 o l]at aC;rw[xA,uw]at aC;rw[r9,xA,uw,qd];have ae:∀x∈jP o l,hf x.at_ o.at_=true:=fun x J=>by
  have kU:=TD o l x J;rcases ZD o.at_ x.at_ with q|q|q
  ·rw[q]at kU;cases kU
  ·exact absurd q.symm (ag x (by rw[<-w2 o l];simp[J]))
  ·exact q
 refine⟨aC.1,⟨TE hs,aC.2.1⟩,fun a aD b aa=>?_⟩
 grind
theorem Rq(l:List bf)(a:jj):pe (fJ l).entries a=l.any fun o=>decide (o.at_=a):=by rw[hasAt_ops',wm]
 where hasAt_ops' {g:hy} {a:jj}:pe g.entries a=(dN g).any fun o=>decide (o.at_=a):=by rw[pe,dN,List.any_map];rfl
structure Good (g:hy):Prop where
 log:g=fJ (dN g)
 Xw:xA (dN g)
 ok:∀o∈dN g,dk o=true
theorem aBE:Good ⟨[],[]⟩:=⟨rfl,by simp[dN],by simp[dN]⟩
theorem AD{g:hy}(h:Good g)(o:bf):Good (gA g o)∧(dN (gA g o)=dN g∧gA g o=g∧(dk o=false∨(∃x∈dN g,x.at_=o.at_)∨200<=(dN g).length)∨dN (gA g o)=r9 o (dN g)∧dk o=true∧(∀x∈dN g,x.at_≠o.at_)):=by
 have hlen:(dN g).length=g.entries.length:=cP ..;by_cases h1:dk o=true
 ·by_cases h2:pe g.entries o.at_=true
  ·have e:gA g o=g:=by rw[gA,az (by rw[h1];decide),aF h2]
   rw[e];refine⟨h,.inl ⟨rfl,rfl,.inr (.inl ?_)⟩⟩;rw[h.log,Rq]at h2;grind
  ·by_cases h3:(200:Int)<=(g.entries.length:Int)
   ·have e:gA g o=g:=by rw[gA,az (by rw[h1];decide),az h2,aF h3]
    rw[e];exact⟨h,.inl ⟨rfl,rfl,.inr (.inr (by omega))⟩⟩
   ·have bX:∀x∈dN g,x.at_≠o.at_:=by
     intro x J e;apply h2
     rw[h.log,Rq];exact List.any_eq_true.2 ⟨x,J,by simpa using e⟩
    have Ci:pe (fJ (dN g)).entries o.at_=false:=by rw[<-h.log];simpa using h2
    have e:=aDW h.Xw o h1 Ci (by omega)
    rw[<-h.log]at e;rw[e,wm];exact⟨⟨by rw[wm],by rw[wm];exact aDX h.Xw bX,by rw[wm];intro x J;rcases AK.1 J with rfl|J;exact h1;exact h.ok x J⟩,.inr ⟨rfl,h1,bX⟩⟩
 ·have h1:dk o=false:=by simpa using h1
  have e:gA g o=g:=by rw[gA,aF h1]
  rw[e];exact⟨h,.inl ⟨rfl,rfl,.inl h1⟩⟩
theorem aBF{g:hy}(h:Good g)(l:List bf):Good (l2 g l):=by
 induction l generalizing g with
 |nil=>exact h
 |cons o l ay=>exact ay (AD h o).1
theorem aDY{g:hy}(aJ:Good g)(l:List bf):(∀x∈dN (l2 g l),x∈dN g∨x∈l∧dk x=true)∧(∀x∈dN g,x∈dN (l2 g l))∧(dN (l2 g l)).length<=(dN g).length+l.length∧
  ((dN g).length+l.length<=200->∀x∈l,dk x=true->∃y∈dN (l2 g l),y.at_=x.at_):=by
 induction l generalizing g with
 |nil=>grind [Good,List,bf,dN,l2,dk]
 |cons o l ay=>
  obtain⟨h1,h2⟩:=AD aJ o;obtain⟨i1,i2,i3,i4⟩:=ay h1;show(∀x∈dN (l2 (gA g o) l),_)∧(∀x∈dN g,x∈dN (l2 (gA g o) l))∧(dN (l2 (gA g o) l)).length<=_∧(_->∀x∈o::l,_->∃y∈dN (l2 (gA g o) l),_);rcases h2 with⟨ar,au,bd⟩|⟨ar,au,bd⟩
  ·grind
  ·rw[ar]at i1 i2 i3 i4;rw[LS]at i3 i4;refine⟨fun x J=>?_,fun x J=>i2 x (AK.2 (.inr J)),by simp only[cm];omega,fun hle x J aKE=>?_⟩
   ·rcases i1 x J with q|q
    ·rcases AK.1 q with rfl|q
     ·exact .inr ⟨by simp,au⟩
     ·exact .inl q
    ·exact .inr ⟨lf _ q.1,q.2⟩
   ·simp only[cm]at hle;rw[c7]at J;rcases J with rfl|J
    ·exact⟨x,i2 x (AK.2 (.inl rfl)),rfl⟩
    ·exact i4 (by omega) x J aKE
end
section
def Pf(o:bf)(out:List bf):Nat:=out.length-(out.reverse.takeWhile fun x=>hf o.at_ x.at_).length
theorem Yf{α:Type}(p:α->Bool)(a b:List α)(h:∀x∈a,p x=true)(aa:∀x∈b,p x=false):(a++b).takeWhile p=a:=by
 induction a with
 |nil=>
  cases b with
  |nil=>rfl
  |cons x b=>simp[aa x (by simp)]
 |cons x a ay=>
  simp_all
end
end Go.Proofs.YthafnbmdmfoobaaGreatDoor
