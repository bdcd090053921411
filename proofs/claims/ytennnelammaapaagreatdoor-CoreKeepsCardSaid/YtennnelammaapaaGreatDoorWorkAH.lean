/- What the functions of this seat answer (8 of 38). No condition. -/
import Derived.Test.YtennnelammaapaaGreatDoorWorkAG
set_option linter.unusedSimpArgs false
set_option linter.unusedVariables false
set_option maxRecDepth 100000
set_option maxHeartbeats 16000000
namespace Go.Proofs.YtennnelammaapaaGreatDoor
section
theorem aGP(b1 b2:Bool)(l m:List Int)(H:AHeap):bH Tryz.prog 42 [.sl b1 (l.map bK),.sl b2 (m.map bK)] H (.bool (decide (l=m))):=by
 refine fP fun hok _=>?_
 have hl:=jQ hok;rw[zAn]at hl;refine fO Tryz.func42 ?_;repeat' first|(refine gS ?_;simp only[go_sem])|refine gA ?_|(refine gD ?_ ?_<;>intro h<;>try exact aA h)|fail
 ·exact cL (.of (by rw[zAg (fun e=>by subst e;simp at h)]))
 ·have hlen:l.length=m.length:=by simp at h;omega
  refine aI (ι:=Nat) (fun i=>[(0,.sl b1 (l.map bK)),(1,.sl b2 (m.map bK)),(5,.int .i64 i)]) (fun _=>H) (fun i=>i≤l.length∧l.take i=m.take i) (fun i=>l.length-i) 0 ⟨zAo _,rfl⟩ ?_ rfl ?_
  ·simp[go_sem]
  ·rintro i ⟨hi,he⟩;by_cases hlt:i<l.length
   ·have hp:=aN bK hlt;have hq:=aN bK (show i<m.length by omega)
    repeat' first|(refine gS ?_;simp only[go_sem,hp,hq,bK])|refine gA ?_|(refine gD ?_ ?_<;>intro h<;>try exact aA h)|fail
    ·skip
     have hne:l[i]≠m[i]:=by simpa using h
     exact cL (.of (by rw[zAg (fun e=>hne (by subst e;rfl))]))
    ·skip
     have heq:l[i]=m[i]:=by simpa using h
     exact⟨i+1,⟨hlt,by rw[zAk hlt,zAk (by omega),he,heq]⟩,by omega,by rw[wI];rfl⟩
   ·have hi':i=l.length:=by omega
    subst hi';repeat' first|(refine gS ?_;simp only[go_sem])|refine gA ?_|(refine gD ?_ ?_<;>intro h<;>try exact aA h)|fail
    exact cL (.of (by rw[zAj (by rw[zAD,hlen,zAD]at he;exact he)]))
end
section
def aBJ:Option Int→List Nd→Bool
 |_,[]=>true
 |p,n::l=>(fE n.id&&(match p with|none=>true|some q=>decide (q<n.id)))&&aBJ (some n.id) l
def chk(l:List Nd):Bool:=aBJ none l
def pS(l:List Nd)(i:Nat):Option Int:=if i=0 then none else(l[i-1]?).map (·.id)
theorem aIb{l:List Nd}{i:Nat}(h:i<l.length):aBJ (pS l i) (l.drop i)=
  ((fE l[i].id&& !(decide ((0:Int)<(i:Int))&&decide (l[i].id≤(l[i-1]'(by omega)).id)))&&aBJ (pS l (i+1)) (l.drop (i+1))):=by
 rw[zAi h,show aBJ (pS l i) (l[i]::l.drop (i+1))=((fE l[i].id&&(match pS l i with|none=>true|some q=>decide (q<l[i].id)))&&aBJ (some l[i].id) (l.drop (i+1)))from by cases pS l i<;>rfl]
 have e:pS l (i+1)=some l[i].id:=by
  simp[pS,zAb h]
 rw[e];congr 2;unfold pS;grind
def aGQ(p:Option Int)(l:List Nd):Prop:=match p with|none=>True|some q=>∀x∈l,q<x.id
theorem aKf(p:Option Int)(l:List Nd):aBJ p l=true↔(∀x∈l,fE x.id=true)∧l.Pairwise (fun a b=>a.id<b.id)∧aGQ p l:=by
 induction l generalizing p with
 |nil=>cases p<;>simp[aBJ,aGQ]
 |cons n l ih=>
  grind [aBJ,zBw,aGQ,zAs,Option,Int,List,fE]
theorem nH(l:List Nd):chk l=true↔(∀x∈l,fE x.id=true)∧l.Pairwise (fun a b=>a.id<b.id):=by
 unfold chk;rw[aKf];simp[aGQ]
def pos:List Nd→Int→Nat
 |[],_=>0
 |n::l,id=>if n.id<id then pos l id+1 else 0
def fnd(l:List Nd)(id:Int):Option Nd:=l.find? (fun n=>decide (n.id=id))
def had(l:List Nd)(id:Int):Bool:=(fnd l id).isSome
theorem aR3(l:List Nd)(id:Int):pos l id≤l.length:=by
 induction l with
 |nil=>exact zAf _
 |cons n l ih=>unfold pos;split<;>simp<;>omega
theorem aR4{l:List Nd}{id:Int}{i:Nat}(hi:i≤l.length)(h1:∀k (hk:k<i),(l[k]'(by omega)).id<id)(h2:∀(h:i<l.length),¬l[i].id<id):pos l id=i:=by
 induction l generalizing i with
 |nil=>simp at hi;subst hi;rfl
 |cons n l ih=>
  unfold pos;cases i with
  |zero=>grind
  |succ i=>
   have:=h1 0 (by omega)
   simp at this;rw[zAl this,ih (i:=i) (by simpa using hi) (fun k hk=>by grind) (fun h=>by have:=h2 (by simpa using h);simpa using this)]
theorem aGR{l:List Nd}{id:Int}(hs:chk l=true):fnd l id=match l[pos l id]? with|some n=>if n.id=id then some n else none|none=>none:=by
 have hp:=((nH l).1 hs).2;clear hs;induction l with
 |nil=>rfl
 |cons n l ih=>
  rw[zBw]at hp;unfold fnd pos;rw[List.find?_cons];by_cases h:n.id<id
  ·rw[zAl h,dF];simp only[zB0];exact ih hp.2
  ·grind
theorem pU{l:List Nd}{id:Int}(hs:chk l=true):had l id=(match l[pos l id]? with|some n=>decide (n.id=id)|none=>false):=by
 rw[had,aGR hs];split
 ·split<;>simp_all
 ·rfl
theorem mJ{l:List Nd}{id:Int}(hs:chk l=true)(h:had l id=true):pos l id<l.length:=by
 rw[pU hs]at h;split at h
 ·rename_i n hn;exact(eT.1 hn).1
 ·cases h
theorem aAn{l:List Nd}{id:Int}(hs:chk l=true)(h:had l id=true):fnd l id=some (l[pos l id]'(mJ hs h)):=by
 have hlt:=mJ hs h;rw[pU hs,zAb hlt]at h;rw[aGR hs,zAb hlt];grind
theorem aCR{l:List Nd}{id:Int}(h:had l id=false):fnd l id=none:=by
 unfold had at h;cases hf:fnd l id<;>simp_all
def dI(l:List Nd):Nat→Int→List Int
 |0,_=>[]
 |k+1,id=>match fnd l id with
  |none=>[]
  |some n=>if n.parent= -1 then[]else n.parent::dI l k n.parent
def cN(l:List Nd)(id:Int):List Int:=dI l l.length id
def kM(l:List Nd)(id:Int):List Int:=if chk l=true then cN l id else[]
def findI(l:List Nd)(id:Int):Option Nd:=if chk l=true then fnd l id else none
def oI(l:List Nd)(i j:Nat)(xs:List Nd):List Nd:=l.take i++xs++l.drop j
def lL(l:List Nd)(o:Opn):Bool:=decide (o.parent=o.node)||(cN l o.parent).any (fun x=>decide (x=o.node))
def refused(l:List Nd)(o:Opn):Bool:= !chk l|| !opOk o||(decide (o.kind=1)&&lL l o)
def eK(l:List Nd)(o:Opn):Nd:=match fnd l o.node with|some n=>n|none=>{nd0 with id:=o.node,parent:= -1}
def cA(l:List Nd)(o:Opn):Nd:=
 if o.kind=1 then{eK l o with parent:=o.parent,name:=o.name,moved:=o.at_}else{eK l o with data:=o.data,wrote:=o.at_}
def upto(l:List Nd)(id:Int):Nat:=if had l id=true then pos l id+1 else pos l id
def doL(l:List Nd)(o:Opn):List Nd:=if refused l o=true then l else oI l (pos l o.node) (upto l o.node) [cA l o]
def xN(l:List Nd)(o:Opn):Und:=if refused l o=true then aRR else⟨true,had l o.node,(fnd l o.node).getD nd0⟩
def oQ(l:List Nd)(o:Opn)(u:Und):List Nd:=
 if(!chk l|| !u.did)=true then l
 else if(fE o.node&&u.had&&decide (u.was.id=o.node))=true then oI l (pos l o.node) (upto l o.node) [u.was]
 else oI l (pos l o.node) (upto l o.node) []
theorem aAo(l:List Nd)(id:Int)(hs:chk l=true):pos l id≤upto l id∧upto l id≤l.length:=by
 have:=aR3 l id;unfold upto;split
 ·rename_i h;have:=mJ hs h;omega
 ·omega
theorem vJ(l:List Nd)(i j:Nat)(xs:List Nd)(h:i≤j)(hj:j≤l.length):(oI l i j xs).length+j=i+xs.length+l.length:=by
 simp[oI];omega
end
section
def inD(dir:Int)(n:Nd):Bool:=decide (n.parent=dir)&&okI n.moved.c n.moved.r
def dB(s:Txt):List (Txt×Nd)→Option Nd
 |[]=>none
 |(k,n)::m=>if k=s then some n else dB s m
def iR(s:Txt)(n:Nd):List (Txt×Nd)→List (Txt×Nd)
 |[]=>[(s,n)]
 |(k,x)::m=>if k=s then(s,n)::m else(k,x)::iR s n m
def xO(m:List (Txt×Nd))(n:Nd):List (Txt×Nd):=match dB n.name m with
 |none=>iR n.name n m
 |some o=>if zC n.moved.c n.moved.r o.moved.c o.moved.r=true then m else iR n.name n m
def qV(dir:Int)(m:List (Txt×Nd))(n:Nd):List (Txt×Nd):=if inD dir n=true then xO m n else m
def dD(l:List Nd)(dir:Int):List (Txt×Nd):=l.foldl (qV dir) []
def childN(l:List Nd)(dir:Int)(s:Txt):Option Nd:=if chk l=true then dB s (dD l dir)else none
def dH(l:List Nd):Int→List Txt→Int×Int
 |at_,[]=>(at_,0)
 |at_,s::names=>if dirI at_=true then(match childN l at_ s with|some n=>dH l n.id names|none=>(0,80))else(0,81)
def findN(l:List Nd)(names:List Txt):Int×Int:=dH l 0 names
def pV:Nat→List (Txt×Nd)→List (AV×AV×Nat)
 |_,[]=>[]
 |b,p::m=>(.str p.1,ndA p.2,b)::pV (b+1) m
theorem aDW(b:Nat)(m:List (Txt×Nd)):keysIn .string (pV b m):=by
 induction m generalizing b with
 |nil=>exact fun p hp=>by simp[pV]at hp
 |cons p m ih=>
  intro q hq;rcases zAs.1 hq with rfl|hq
  ·rfl
  ·exact ih _ q hq
theorem aWK(b:Nat)(m:List (Txt×Nd)):(pV b m).length=m.length:=by
 induction m generalizing b with
 |nil=>rfl
 |cons p m ih=>simp[pV,ih]
theorem aKg(b:Nat)(m:List (Txt×Nd))(s:Txt):(dB s m=none∧keyAt (.str s) (pV b m)=none)∨∃n j,dB s m=some n∧keyAt (.str s) (pV b m)=some (j,ndA n):=by
 induction m generalizing b with
 |nil=>exact .inl ⟨rfl,rfl⟩
 |cons p m ih=>
  obtain⟨k,n⟩:=p;by_cases h:k=s
  ·subst h;exact .inr ⟨n,0,by simp[dB],by simp[pV,keyAt,mF]⟩
  ·have h':mF (.str s) (.str k)=false:=by simp[mF];exact fun e=>h e.symm
   rcases ih (b+1)with⟨h1,h2⟩|⟨x,j,h1,h2⟩
   ·exact .inl ⟨by simp[dB,h,h1],by simp[pV,keyAt,h',h2]⟩
   ·exact .inr ⟨x,j+1,by simp[dB,h,h1],by simp[pV,keyAt,h',h2]⟩
theorem zE{x y v w:AV}{b clock:Nat}{es:List (AV×AV×Nat)}(h:mF x y=false):eO x v ((y,w,b)::es) clock=(y,w,b)::eO x v es clock:=by
 simp only[eO,keyAt,h,zCn];cases keyAt x es with
 |none=>rfl
 |some p=>rfl
theorem aBK{x y w:AV}{b clock:Nat}{es:List (AV×AV×Nat)}(h:mF x y=false):fS x ((y,w,b)::es) clock=fS x es clock:=by
 simp only[fS,keyAt,h,zCn];cases keyAt x es<;>rfl
theorem aNW(b:Nat)(m:List (Txt×Nd))(s:Txt)(n:Nd):eO (.str s) (ndA n) (pV b m) (b+m.length)=pV b (iR s n m)∧fS (.str s) (pV b m) (b+m.length)=b+(iR s n m).length:=by
 induction m generalizing b with
 |nil=>exact⟨rfl,rfl⟩
 |cons p m ih=>
  obtain⟨k,x⟩:=p;by_cases h:k=s
  ·subst h;exact⟨by simp[pV,eO,keyAt,mF,iR],by simp[pV,fS,keyAt,mF,iR]⟩
  ·have h':mF (.str s) (.str k)=false:=by simp[mF];exact fun e=>h e.symm
   obtain⟨h1,h2⟩:=ih (b+1);have e:b+((k,x)::m).length=b+1+m.length:=by simp;omega
   rw[e];simp only[pV,iR,zAe h];rw[zE h',aBK h',h1,h2];exact⟨rfl,by simp;omega⟩
theorem aKh(m:List (Txt×Nd))(s:Txt)(n:Nd):ABlk.map (eO (.str s) (ndA n) (pV 0 m) m.length) (fS (.str s) (pV 0 m) m.length)=.map (pV 0 (iR s n m)) (iR s n m).length:=by
 have:=aNW 0 m s n;rw[zBK,zBK]at this;rw[this.1,this.2]
theorem aVA(k:Nat)(n:Nd):Cl k (ndA n):=(Pur.agg _ fun x hx=>by
 simp only[zAs,zAH,zBv]at hx;rcases hx with rfl|rfl|rfl|rfl|rfl|rfl|rfl|rfl<;>first|exact .int _ _|exact .str _).cl k
theorem aKi(k b:Nat)(m:List (Txt×Nd)):∀p∈pV b m,Cl k p.1∧Cl k p.2.1:=by
 induction m generalizing b with
 |nil=>exact fun p hp=>by simp[pV]at hp
 |cons q m ih=>
  intro p hp;rcases zAs.1 hp with rfl|hp
  ·exact⟨.str _,aVA k _⟩
  ·exact ih _ p hp
end
section
@[go_sem] theorem aM1{P:Program}(ts tx:TypeId)(f g:Bool)(es r:List AV)(e:AV)(H:AHeap):uY P ts tx (.sl f es) (.sl g (e::r)) H=lQ P ts tx (.sl f es) (.sl g (e::r)) H:=by
 cases es with
 |nil=>rfl
 |cons a es=>simp[uY,dN]
def fU(a b:Stm):Bool:=zC a.c a.r b.c b.r
def lO(l:List Ent)(a:Stm):Bool:=l.any fun e=>decide (e.op.at_=a)
def dZ(a:Stm):List Ent→List Nd→Nat×List Nd
 |[],n=>(0,n)
 |e::r,n=>if fU a e.op.at_=true then((dZ a r (oQ n e.op e.undo)).1+1,(dZ a r (oQ n e.op e.undo)).2)else(0,n)
def dO:List Opn→List Ent→List Nd→List Ent×List Nd
 |[],es,n=>(es,n)
 |o::os,es,n=>dO os (es++[⟨o,xN n o⟩]) (doL n o)
def fJ(g:Lg)(o:Opn):Lg:=
 if opOk o=false then g else if lO g.entries o.at_=true then g else if(200:Int)≤(g.entries.length:Int)then g
 else
  ⟨(dO (o::(g.entries.drop (g.entries.length-(dZ o.at_ g.entries.reverse g.nodes).1)).map Ent.op) (g.entries.take (g.entries.length-(dZ o.at_ g.entries.reverse g.nodes).1)) (dZ o.at_ g.entries.reverse g.nodes).2).1,
    (dO (o::(g.entries.drop (g.entries.length-(dZ o.at_ g.entries.reverse g.nodes).1)).map Ent.op) (g.entries.take (g.entries.length-(dZ o.at_ g.entries.reverse g.nodes).1)) (dZ o.at_ g.entries.reverse g.nodes).2).2⟩
def xP(g:Lg)(o:Opn):Int:=
 if opOk o=false then 50 else if lO g.entries o.at_=true then 0 else if(200:Int)≤(g.entries.length:Int)then 193 else 0
def mX:Lg→List Opn→Lg
 |g,[]=>g
 |g,o::os=>mX (fJ g o) os
def opsG(g:Lg):List Opn:=g.entries.map Ent.op
theorem aKj(a:Stm)(l:List Ent)(n:List Nd):(dZ a l n).1≤l.length:=by
 induction l generalizing n with
 |nil=>simp[dZ]
 |cons e l ih=>unfold dZ;split<;>simp;exact ih _
theorem aCf(l:List Nd)(o:Opn)(u:Und):(oQ l o u).length≤l.length+1:=by
 unfold oQ;split
 ·omega
 ·rename_i h;have hc:chk l=true:=by
   cases hc:chk l with
   |true=>rfl
   |false=>simp[hc]at h
  have:=aAo l o.node hc;split
  ·have:=vJ l (pos l o.node) (upto l o.node) [u.was] (by omega) (by omega);simp at this;omega
  ·have:=vJ l (pos l o.node) (upto l o.node) [] (by omega) (by omega);simp at this;omega
theorem aCS(l:List Nd)(o:Opn):(doL l o).length≤l.length+1:=by
 unfold doL;split
 ·omega
 ·rename_i h;have hc:chk l=true:=by
   cases hc:chk l with
   |true=>rfl
   |false=>simp[refused,hc]at h
  have:=aAo l o.node hc;have:=vJ l (pos l o.node) (upto l o.node) [cA l o] (by omega) (by omega);simp at this;omega
theorem aIc(a:Stm)(l:List Ent)(n:List Nd):(dZ a l n).2.length≤n.length+l.length:=by
 induction l generalizing n with
 |nil=>simp[dZ]
 |cons e l ih=>
  unfold dZ;split
  ·have:=ih (oQ n e.op e.undo);have:=aCf n e.op e.undo;simp;omega
  ·simp
theorem aDX(l:List Opn)(es:List Ent)(n:List Nd):(dO l es n).2.length≤n.length+l.length∧(dO l es n).1.length=es.length+l.length:=by
 induction l generalizing es n with
 |nil=>simp[dO]
 |cons o l ih=>
  unfold dO;have:=ih (es++[⟨o,xN n o⟩]) (doL n o);have:=aCS n o;simp at *;omega
theorem aCg(l:List Opn)(o:Opn)(es:List Ent)(n:List Nd):dO (l++[o]) es n=((dO l es n).1++[⟨o,xN (dO l es n).2 o⟩],doL (dO l es n).2 o):=by
 induction l generalizing es n with
 |nil=>rfl
 |cons x l ih=>rw[zA0,dO,ih,dO]
end
section
theorem aDY(l:List Opn)(es:List Ent)(n:List Nd):(dO l es n).1.map Ent.op=es.map Ent.op++l:=by
 induction l generalizing es n with
 |nil=>simp[dO]
 |cons o l ih=>unfold dO;rw[ih];simp
def aKk(g:Lg)(o:Opn):Nat:=g.entries.length-(dZ o.at_ g.entries.reverse g.nodes).1
theorem aKl(g:Lg)(o:Opn):opsG (fJ g o)=if opOk o=false∨lO g.entries o.at_=true∨(200:Int)≤(g.entries.length:Int)then opsG g
  else(opsG g).take (aKk g o)++o::(opsG g).drop (aKk g o):=by
 unfold fJ opsG;by_cases h1:opOk o=false
 ·rw[zAl h1,zAl (.inl h1)]
 ·by_cases h2:lO g.entries o.at_=true
  ·rw[zAe h1,zAl h2,zAl (.inr (.inl h2))]
  ·by_cases h3:(200:Int)≤(g.entries.length:Int)
   ·rw[zAe h1,zAe h2,zAl h3,zAl (.inr (.inr h3))]
   ·rw[zAe h1,zAe h2,zAe h3,zAe (by rintro(h|h|h)<;>contradiction),aDY]
    simp only[aKk,zBG,zCI]
theorem vK(g:Lg)(o:Opn):(fJ g o).entries.length≤g.entries.length+1∧((fJ g o).entries.length≤200∨(fJ g o).entries.length=g.entries.length)∧(g.entries.length≤200→(fJ g o).nodes.length≤g.nodes.length+401):=by
 unfold fJ;split
 ·exact⟨by omega,.inr rfl,fun _=>by omega⟩
 ·split
  ·exact⟨by omega,.inr rfl,fun _=>by omega⟩
  ·split
   ·exact⟨by omega,.inr rfl,fun _=>by omega⟩
   ·have h1:=aKj o.at_ g.entries.reverse g.nodes;have h2:=aIc o.at_ g.entries.reverse g.nodes;have h3:=aDX (o::(g.entries.drop (g.entries.length-(dZ o.at_ g.entries.reverse g.nodes).1)).map Ent.op) (g.entries.take (g.entries.length-(dZ o.at_ g.entries.reverse g.nodes).1)) (dZ o.at_ g.entries.reverse g.nodes).2;rw[List.length_reverse]at h1 h2;simp only[zAc,zAn,zAX,zAL]at h3;refine⟨by simp only;omega,.inl (by simp only;omega),fun h=>by simp only;omega⟩
theorem aKm(g:Lg)(o:Opn)(P:Opn→Prop)(h:∀e∈g.entries,P e.op)(ho:P o):∀e∈(fJ g o).entries,P e.op:=by
 intro e he;have h1:e.op∈opsG (fJ g o):=List.mem_map_of_mem he;rw[aKl]at h1;have hg:∀x∈opsG g,P x:=fun x hx=>by obtain⟨e',he',rfl⟩:=zAm.1 hx;exact h e' he'
 split at h1
 ·exact hg _ h1
 ·rw[zAy,zAs]at h1;rcases h1 with h1|h1|h1
  ·exact hg _ (List.mem_of_mem_take h1)
  ·rw[h1];exact ho
  ·exact hg _ (zBq h1)
end
section
theorem aKn{s:Txt}{n:Nd}{m:List (Txt×Nd)}{p:Txt×Nd}(h:p∈iR s n m):p.2=n∨p∈m:=by
 induction m with
 |nil=>simp[iR]at h;left;rw[h]
 |cons q m ih=>
  obtain⟨k,x⟩:=q;unfold iR at h;split at h
  ·rcases zAs.1 h with rfl|h
   ·exact .inl rfl
   ·exact .inr (zAR _ h)
  ·rcases zAs.1 h with rfl|h
   ·exact .inr (by simp)
   ·rcases ih h with h|h
    ·exact .inl h
    ·exact .inr (zAR _ h)
theorem aId{s:Txt}{n:Nd}{m:List (Txt×Nd)}(h:dB s m=some n):∃p∈m,p.2=n:=by
 induction m with
 |nil=>cases h
 |cons q m ih=>
  obtain⟨k,x⟩:=q;unfold dB at h;split at h
  ·exact⟨(k,x),by simp,by simpa using h⟩
  ·obtain⟨p,hp,e⟩:=ih h;exact⟨p,zAR _ hp,e⟩
theorem aCh(l:List Nd)(dir:Int):∀p∈dD l dir,p.2∈l∧inD dir p.2=true:=by
 suffices h:∀(k l:List Nd) (m:List (Txt×Nd)),(∀p∈m,p.2∈l∧inD dir p.2=true)→(∀n∈k,n∈l)→∀p∈k.foldl (qV dir) m,p.2∈l∧inD dir p.2=true from h l l [] (fun p hp=>by cases hp) (fun n hn=>hn)
 intro k;induction k with
 |nil=>intro l m hm _;exact hm
 |cons x k ih=>
  intro l m hm hk;refine ih l (qV dir m x) (fun p hp=>?_) (fun n hn=>hk n (zAR _ hn))
  unfold qV at hp;split at hp
  ·rename_i hx;unfold xO at hp;have hs:∀p∈iR x.name x m,p.2∈l∧inD dir p.2=true:=fun p hp=>by
    rcases aKn hp with e|h
    ·rw[e];exact⟨hk x (by simp),hx⟩
    ·exact hm p h
   split at hp
   ·exact hs p hp
   ·split at hp
    ·exact hm p hp
    ·exact hs p hp
  ·exact hm p hp
theorem oR{l:List Nd}{dir:Int}{s:Txt}{n:Nd}(h:childN l dir s=some n):chk l=true∧n∈l∧n.parent=dir:=by
 unfold childN at h;split at h
 ·rename_i hc;obtain⟨p,hp,e⟩:=aId h;obtain⟨h1,h2⟩:=aCh l dir p hp;rw[e]at h1 h2;unfold inD at h2;rw[zAu,zAF]at h2;exact⟨hc,h1,h2.1⟩
 ·cases h
end
section
def vL(l:List Nd)(n:Nd):List Nd:=oI l (pos l n.id) (upto l n.id) [n]
def aVB(l:List Nd)(id:Int):List Nd:=oI l (pos l id) (upto l id) []
theorem jC(l:List Nd)(o:Opn):(cA l o).id=o.node:=by
 have h:(eK l o).id=o.node:=by
  unfold eK;split
  ·rename_i n hn;have:=zBz hn;simpa using this
  ·rfl
 unfold cA;split<;>exact h
theorem kP{l:List Nd}{o:Opn}(h:refused l o=false):doL l o=vL l (cA l o):=by
 rw[doL,zAe (by rw[h];decide),vL,jC]
theorem aDZ(l:List Nd)(id:Int)(x:Nd)(hx:x∈l.take (pos l id)):x.id<id:=by
 induction l<;>grind [pos,zAs]
theorem aD0{l:List Nd}(hs:chk l=true)(id:Int)(x:Nd)(hx:x∈l.drop (upto l id)):id<x.id:=by
 have hp:=((nH l).1 hs).2;rw[zBR]at hp;obtain⟨i,hi,rfl⟩:=List.getElem_of_mem hx;rw[zAX]at hi;rw[List.getElem_drop];have hpos:∀k (hk:k<l.length),pos l id≤k→¬l[k].id<id:=by
  intro k hk hle hlt;have key:∀(l:List Nd),(∀(i j:Nat) (_hi:i<l.length) (_hj:j<l.length),i<j→l[i].id<l[j].id)→∀k (hk:k<l.length),pos l id≤k→¬l[k].id<id:=by
   intro l;induction l with
   |nil=>intro _ k hk;simp at hk
   |cons n l ih=>
    intro hp k hk hle hlt;unfold pos at hle;split at hle
    ·cases k with
     |zero=>omega
     |succ k=>
      refine ih (fun i j hi hj hij=>?_) k (by simpa using hk) (by omega) (by simpa using hlt)
      have:=hp (i+1) (j+1) (by simpa using hi) (by simpa using hj) (by omega)
      simpa using this
    ·rename_i hn;cases k with
     |zero=>simp at hlt;omega
     |succ k=>
      have:=hp 0 (k+1) (by simp) hk (by omega)
      simp at this hlt;omega
  exact key l hp k hk hle hlt
 unfold upto at hi ⊢;split
 ·rename_i hh;have hlt:=mJ hs hh;have he:l[pos l id].id=id:=by
   rw[pU hs,zAb hlt]at hh;simpa using hh
  rw[zAl hh]at hi;have:=hp (pos l id) (pos l id+1+i) hlt (by omega) (by omega)
  omega
 ·rename_i hh;rw[zAe hh]at hi;have h1:=hpos (pos l id+i) (by omega) (by omega)
  have h2:l[pos l id+i].id≠id:=by
   intro e;by_cases hi0:i=0
   ·subst hi0;apply hh
    rw[pU hs,zAb (by omega)]
    simpa using e
   ·have h3:=hp (pos l id) (pos l id+i) (by omega) (by omega) (by omega)
    have h4:=hpos (pos l id) (by omega) (zAf _)
    omega
  omega
theorem aGS{l:List Nd}(hs:chk l=true){n:Nd}(hn:fE n.id=true):chk (vL l n)=true:=by
 have h:=(nH l).1 hs;rw[nH];have ht:∀x∈l.take (pos l n.id),x.id<n.id:=aDZ l n.id;have hd:∀x∈l.drop (upto l n.id),n.id<x.id:=aD0 hs n.id;unfold vL oI;grind
theorem aGT{A B:List Nd}{n:Nd}{id:Int}(hA:∀x∈A,x.id<id)(hn:n.id=id):pos (A++n::B) id=A.length:=by
 induction A<;>simp_all[pos,zA0,]
theorem aNX{A B:List Nd}{id:Int}(hA:∀x∈A,x.id<id)(hB:∀x∈B,id<x.id):pos (A++B) id=A.length:=by
 induction A with
 |nil=>
  cases B with
  |nil=>rfl
  |cons b B=>have:=hB b (by simp);rw[zAW,pos,zAe (by omega)];rfl
 |cons a A ih=>
  rw[zA0,pos,zAl (hA a (by simp)),ih fun x hx=>hA x (by simp[hx])];rfl
theorem sY{A B:List Nd}{n:Nd}{id:Int}(hA:∀x∈A,x.id<id)(hn:n.id=id):fnd (A++n::B) id=some n:=by
 unfold fnd;grind
theorem vM{l:List Nd}(hs:chk l=true)(id:Int):∃A B,(∀x∈A,x.id<id)∧(∀x∈B,id<x.id)∧A=l.take (pos l id)∧B=l.drop (upto l id)∧(l=A++B∧had l id=false∨∃n,n.id=id∧l=A++n::B∧had l id=true):=by
 refine⟨_,_,aDZ l id,aD0 hs id,rfl,rfl,?_⟩;cases hh:had l id with
 |false=>
  left;unfold upto;simp_all
 |true=>
  right;have hlt:=mJ hs hh;have he:l[pos l id].id=id:=by
   have:=hh;rw[pU hs,zAb hlt]at this;simpa using this
  refine⟨l[pos l id],he,?_,rfl⟩;unfold upto;rw[zAl hh,←zAi hlt,zAS]
theorem aFn{l:List Nd}(n:Nd){A B:List Nd}(hA:A=l.take (pos l n.id))(hB:B=l.drop (upto l n.id)):vL l n=A++n::B:=by
 rw[vL,oI,hA,hB,zAr];rfl
theorem aCT{A B:List Nd}{n m:Nd}(hA:∀x∈A,x.id<n.id)(hm:m.id=n.id):vL (A++m::B) n=A++n::B:=by
 have hp:pos (A++m::B) n.id=A.length:=aGT hA hm;have hh:had (A++m::B) n.id=true:=by rw[had,sY hA hm];rfl
 rw[vL,oI,upto,zAl hh,hp,List.take_left',show A.length+1=A.length+1 from rfl,zAr]
 ·simp_all
 ·rfl
theorem aNY{A B:List Nd}{m:Nd}{id:Int}(hA:∀x∈A,x.id<id)(hm:m.id=id):aVB (A++m::B) id=A++B:=by
 have hp:pos (A++m::B) id=A.length:=aGT hA hm;have hh:had (A++m::B) id=true:=by rw[had,sY hA hm];rfl
 rw[aVB,oI,upto,zAl hh,hp,List.take_left',zAd]
 ·simp_all
 ·rfl
theorem aNZ{l:List Nd}(o:Opn)(hs:chk l=true):oQ (doL l o) o (xN l o)=l:=by
 cases hr:refused l o with
 |true=>
  rw[doL,zAl hr,xN,zAl hr,oQ,zAl (by simp[aRR])]
 |false=>
  have hok:opOk o=true:=by
   grind [opOk,refused]
  have hof:fE o.node=true:=by
   unfold opOk vI zD at hok;split at hok<;>simp at hok<;>simp[hok]
  have hid:=jC l o;have hc:chk (doL l o)=true:=by rw[kP hr];exact aGS hs (by rw[hid];exact hof)
  rw[xN,zAe (by rw[hr];decide),oQ,zAe (by rw[hc];simp)]
  obtain⟨A,B,hA,hB,eA,eB,hcase⟩:=vM hs o.node;have hd:doL l o=A++cA l o::B:=by
   rw[kP hr];exact aFn _ (by rw[hid];exact eA) (by rw[hid];exact eB)
  rcases hcase with⟨hl,hh⟩|⟨n,hn,hl,hh⟩
  ·rw[zAe (by rw[hh];simp)]
   have:=aNY (B:=B) hA hid;rw[hd];exact this.trans hl.symm
  ·have hf:fnd l o.node=some n:=by rw[hl];exact sY hA hn
   rw[zAl (by rw[hh,hf,hof];simpa using hn),hf,zBh]
   have:=aCT (n:=n) (m:=cA l o) (B:=B) (by rw[hn];exact hA) (by rw[hn,hid])
   rw[hd];have h2:vL (A++cA l o::B) n=oI (A++cA l o::B) (pos (A++cA l o::B) o.node) (upto (A++cA l o::B) o.node) [n]:=by rw[vL,hn]
   rw[←h2,this,←hl]
theorem aFo{l:List Nd}(o:Opn)(hs:chk l=true):chk (doL l o)=true:=by
 cases hr:refused l o with
 |true=>rw[doL,zAl hr];exact hs
 |false=>
  have hok:opOk o=true:=by
   grind [opOk,refused]
  have hof:fE o.node=true:=by
   grind [opOk,vI,zD]
  rw[kP hr];exact aGS hs (by rw[jC];exact hof)
end
section
theorem aAp{a b:Stm}:fU a b=true↔a.c<b.c∨(a.c=b.c∧a.r<b.r):=vF
theorem aN0{a b:Stm}:fU a b=false↔¬(a.c<b.c∨(a.c=b.c∧a.r<b.r)):=by rw[←aAp,zBB]
theorem aN1{a b:Stm}(h1:a.c=b.c)(h2:a.r=b.r):a=b:=by cases a;cases b;simp_all
theorem aIe(a b:Stm):fU a b=true∨a=b∨fU b a=true:=by
 rw[aAp,aAp];by_cases h:a=b
 ·exact .inr (.inl h)
 ·have:¬(a.c=b.c∧a.r=b.r):=fun q=>h (aN1 q.1 q.2)
  omega
theorem aD1{a b c:Stm}(h:fU a b=true)(k:fU b c=true):fU a c=true:=by
 rw[aAp]at *;omega
def logOf(l:List Opn):Lg:=⟨(dO l [] []).1,(dO l [] []).2⟩
abbrev Srt(l:List Opn):Prop:=l.Pairwise fun x y=>fU x.at_ y.at_=true
theorem aD2(a b:List Opn)(es:List Ent)(n:List Nd):dO (a++b) es n=dO b (dO a es n).1 (dO a es n).2:=by
 induction a generalizing es n<;>grind [zA0,dO]
theorem aKo(l:List Opn)(es:List Ent)(n:List Nd):dO l es n=(es++(dO l [] n).1,(dO l [] n).2):=by
 induction l generalizing es n with
 |nil=>simp[dO]
 |cons o l ih=>
  show dO l (es++[⟨o,xN n o⟩]) (doL n o)=(es++(dO l ([]++[⟨o,xN n o⟩]) (doL n o)).1,(dO l ([]++[⟨o,xN n o⟩]) (doL n o)).2);grind
theorem aKp(l:List Opn)(es:List Ent){n:List Nd}(h:chk n=true):chk (dO l es n).2=true:=by
 induction l generalizing es n with
 |nil=>exact h
 |cons o l ih=>exact ih _ (aFo o h)
theorem aIf(l:List Opn):chk (logOf l).nodes=true:=aKp l [] rfl
theorem fQ(l:List Opn):opsG (logOf l)=l:=by rw[opsG,logOf,aDY];rfl
theorem aKq(a:Stm)(pre:List Opn)(r:List Opn)(h:∀x∈r,fU a x.at_=true):
  dZ a (logOf (pre++r.reverse)).entries.reverse (logOf (pre++r.reverse)).nodes=((dZ a (logOf pre).entries.reverse (logOf pre).nodes).1+r.length,(dZ a (logOf pre).entries.reverse (logOf pre).nodes).2):=by
 induction r with
 |nil=>simp
 |cons x r ih=>
  have h2:=ih fun y hy=>h y (by simp[hy])
  have e:pre++(x::r).reverse=(pre++r.reverse)++[x]:=by simp
  have e2:logOf ((pre++r.reverse)++[x])=⟨(logOf (pre++r.reverse)).entries++[⟨x,xN (logOf (pre++r.reverse)).nodes x⟩],doL (logOf (pre++r.reverse)).nodes x⟩:=by
   rw[logOf,aCg];rfl
  rw[e,e2];simp only[List.reverse_append,List.reverse_cons,List.reverse_nil,zAW,zA0];rw[dZ,zAl (h x (by simp)),aNZ x (aIf _),h2]
  simp[zCd]
theorem aIg(a:Stm)(pre:List Opn)(h:∀x∈pre,fU a x.at_=false)(n:List Nd):(dZ a (logOf pre).entries.reverse n).1=0∧(dZ a (logOf pre).entries.reverse n).2=n:=by
 cases hr:(logOf pre).entries.reverse with
 |nil=>exact⟨rfl,rfl⟩
 |cons e r=>
  have he:e∈(logOf pre).entries:=by rw[←List.mem_reverse,hr];simp
  have h1:e.op∈opsG (logOf pre):=List.mem_map_of_mem he;rw[fQ]at h1;rw[dZ,zAe (by rw[h _ h1];decide)]
  exact⟨rfl,rfl⟩
def kD(o:Opn)(l:List Opn):List Opn:=l.takeWhile fun x=> !fU o.at_ x.at_
def rH(o:Opn)(l:List Opn):List Opn:=l.dropWhile fun x=> !fU o.at_ x.at_
def aAd(o:Opn)(l:List Opn):List Opn:=kD o l++o::rH o l
theorem lS(o:Opn)(l:List Opn):kD o l++rH o l=l:=List.takeWhile_append_dropWhile
theorem aKr(o:Opn)(l:List Opn):∀x∈kD o l,fU o.at_ x.at_=false:=by
 intro x hx;unfold kD at hx;induction l with
 |nil=>simp at hx
 |cons y l ih=>
  grind [List.takeWhile_cons,zAs]
theorem aKs{o:Opn}{l:List Opn}(h:Srt l):∀x∈rH o l,fU o.at_ x.at_=true:=by
 intro x hx;unfold rH at hx;induction l with
 |nil=>simp at hx
 |cons y l ih=>
  rw[Srt,zBw]at h;rw[List.dropWhile_cons]at hx;split at hx
  ·exact ih h.2 hx
  ·rename_i hy;have hy:fU o.at_ y.at_=true:=by simpa using hy
   rw[zAs]at hx;rcases hx with rfl|hx
   ·exact hy
   ·exact aD1 hy (h.1 x hx)
theorem aN2{l:List Opn}(hs:Srt l)(o:Opn)(h1:opOk o=true)(h2:lO (logOf l).entries o.at_=false)(h3:(l.length:Int)<200):fJ (logOf l) o=logOf (aAd o l):=by
 have hlen:(logOf l).entries.length=l.length:=by
  have:=zAx List.length (fQ l);rwa[opsG,zAn]at this
 have hu:=aKq o.at_ (kD o l) (rH o l).reverse (fun x hx=>aKs hs x (List.mem_reverse.1 hx))
 rw[List.reverse_reverse,lS]at hu;have hn:=aIg o.at_ (kD o l) (aKr o l) (logOf (kD o l)).nodes;have hu2:dZ o.at_ (logOf l).entries.reverse (logOf l).nodes=((rH o l).length,(logOf (kD o l)).nodes):=by
  rw[hu,hn.2,hn.1];simp
 have hll:l.length=(kD o l).length+(rH o l).length:=by
  have:=zAx List.length (lS o l);grind
 have he:(logOf l).entries=(logOf (kD o l)).entries++(dO (rH o l) [] (logOf (kD o l)).nodes).1:=by
  have e:(logOf l).entries=(logOf (kD o l++rH o l)).entries:=zAx (fun x=>(logOf x).entries) (lS o l).symm
  rw[e,logOf,aD2,aKo (rH o l)];rfl
 have hpl:(logOf (kD o l)).entries.length=(kD o l).length:=by
  have:=zAx List.length (fQ (kD o l));rwa[opsG,zAn]at this
 rw[fJ,zAe (by rw[h1];decide),zAe (by rw[h2];decide),zAe (by omega),hu2]
 simp only;have e1:(logOf l).entries.length-(rH o l).length=(kD o l).length:=by omega
 have e2:(logOf l).entries.take (kD o l).length=(logOf (kD o l)).entries:=by rw[he,←hpl,List.take_left'];rfl
 have e3:((logOf l).entries.drop (kD o l).length).map Ent.op=rH o l:=by
  rw[zCI];have:=fQ l;rw[opsG]at this;rw[this];exact(zAx (List.drop (kD o l).length) (lS o l).symm).trans (List.drop_left' rfl)
 rw[e1,e2,e3,aAd];have e4:logOf (kD o l++o::rH o l)=⟨(dO (o::rH o l) (dO (kD o l) [] []).1 (dO (kD o l) [] []).2).1,(dO (o::rH o l) (dO (kD o l) [] []).1 (dO (kD o l) [] []).2).2⟩:=by
  rw[logOf,aD2]
 rw[e4];rfl
theorem pW{o x:Opn}{l:List Opn}:x∈aAd o l↔x=o∨x∈l:=by
 rw[aAd,zAy,zAs];have:x∈l↔x∈kD o l∨x∈rH o l:=by rw[←zAy,lS]
 grind
theorem aCU(o:Opn)(l:List Opn):(aAd o l).length=l.length+1:=by
 have:=zAx List.length (lS o l);rw[zAa]at this;rw[aAd,zAa,zAc];omega
theorem aN3{o:Opn}{l:List Opn}(hs:Srt l)(hn:∀x∈l,x.at_≠o.at_):Srt (aAd o l):=by
 have h0:=hs;rw[←lS o l]at h0;rw[Srt,zBZ]at h0;rw[aAd,Srt,zBZ,zBw];have hp:∀x∈kD o l,fU x.at_ o.at_=true:=fun x hx=>by
  have hx1:=aKr o l x hx;rcases aIe o.at_ x.at_ with q|q|q
  ·rw[q]at hx1;cases hx1
  ·exact absurd q.symm (hn x (by rw[←lS o l];simp[hx]))
  ·exact q
 refine⟨h0.1,⟨aKs hs,h0.2.1⟩,fun a ha b hb=>?_⟩
 grind
theorem aCi(l:List Opn)(a:Stm):lO (logOf l).entries a=l.any fun o=>decide (o.at_=a):=by rw[hasAt_ops',fQ]
 where hasAt_ops' {g:Lg} {a:Stm}:lO g.entries a=(opsG g).any fun o=>decide (o.at_=a):=by rw[lO,opsG,List.any_map];rfl
structure Good (g:Lg):Prop where
 log:g=logOf (opsG g)
 srt:Srt (opsG g)
 ok:∀o∈opsG g,opOk o=true
theorem aKt:Good ⟨[],[]⟩:=⟨rfl,by simp[opsG],by simp[opsG]⟩
theorem mK{g:Lg}(h:Good g)(o:Opn):Good (fJ g o)∧(opsG (fJ g o)=opsG g∧fJ g o=g∧(opOk o=false∨(∃x∈opsG g,x.at_=o.at_)∨200≤(opsG g).length)∨opsG (fJ g o)=aAd o (opsG g)∧opOk o=true∧(∀x∈opsG g,x.at_≠o.at_)):=by
 have hlen:(opsG g).length=g.entries.length:=zAn ..;by_cases h1:opOk o=true
 ·by_cases h2:lO g.entries o.at_=true
  ·have e:fJ g o=g:=by rw[fJ,zAe (by rw[h1];decide),zAl h2]
   rw[e];refine⟨h,.inl ⟨rfl,rfl,.inr (.inl ?_)⟩⟩;rw[h.log,aCi]at h2;grind
  ·by_cases h3:(200:Int)≤(g.entries.length:Int)
   ·have e:fJ g o=g:=by rw[fJ,zAe (by rw[h1];decide),zAe h2,zAl h3]
    rw[e];exact⟨h,.inl ⟨rfl,rfl,.inr (.inr (by omega))⟩⟩
   ·have hno:∀x∈opsG g,x.at_≠o.at_:=by
     intro x hx e;apply h2
     rw[h.log,aCi];exact zBX.2 ⟨x,hx,by simpa using e⟩
    have h2':lO (logOf (opsG g)).entries o.at_=false:=by rw[←h.log];simpa using h2
    have e:=aN2 h.srt o h1 h2' (by omega)
    rw[←h.log]at e;rw[e,fQ];exact⟨⟨by rw[fQ],by rw[fQ];exact aN3 h.srt hno,by rw[fQ];intro x hx;rcases pW.1 hx with rfl|hx;exact h1;exact h.ok x hx⟩,.inr ⟨rfl,h1,hno⟩⟩
 ·have h1:opOk o=false:=by simpa using h1
  have e:fJ g o=g:=by rw[fJ,zAl h1]
  rw[e];exact⟨h,.inl ⟨rfl,rfl,.inl h1⟩⟩
theorem aKu{g:Lg}(h:Good g)(l:List Opn):Good (mX g l):=by
 induction l generalizing g with
 |nil=>exact h
 |cons o l ih=>exact ih (mK h o).1
theorem aN4{g:Lg}(hg:Good g)(l:List Opn):(∀x∈opsG (mX g l),x∈opsG g∨x∈l∧opOk x=true)∧(∀x∈opsG g,x∈opsG (mX g l))∧(opsG (mX g l)).length≤(opsG g).length+l.length∧
  ((opsG g).length+l.length≤200→∀x∈l,opOk x=true→∃y∈opsG (mX g l),y.at_=x.at_):=by
 induction l generalizing g with
 |nil=>grind [Good,List,Opn,opsG,mX,opOk]
 |cons o l ih=>
  obtain⟨h1,h2⟩:=mK hg o;obtain⟨i1,i2,i3,i4⟩:=ih h1;show(∀x∈opsG (mX (fJ g o) l),_)∧(∀x∈opsG g,x∈opsG (mX (fJ g o) l))∧(opsG (mX (fJ g o) l)).length≤_∧(_→∀x∈o::l,_→∃y∈opsG (mX (fJ g o) l),_);rcases h2 with⟨e1,e2,e3⟩|⟨e1,e2,e3⟩
  ·grind
  ·rw[e1]at i1 i2 i3 i4;rw[aCU]at i3 i4;refine⟨fun x hx=>?_,fun x hx=>i2 x (pW.2 (.inr hx)),by simp only[zAc];omega,fun hle x hx hxo=>?_⟩
   ·rcases i1 x hx with q|q
    ·rcases pW.1 q with rfl|q
     ·exact .inr ⟨by simp,e2⟩
     ·exact .inl q
    ·exact .inr ⟨zAR _ q.1,q.2⟩
   ·simp only[zAc]at hle;rw[zAs]at hx;rcases hx with rfl|hx
    ·exact⟨x,i2 x (pW.2 (.inl rfl)),rfl⟩
    ·exact i4 (by omega) x hx hxo
end
section
def rK(o:Opn)(out:List Opn):Nat:=out.length-(out.reverse.takeWhile fun x=>fU o.at_ x.at_).length
theorem aBL{α:Type}(p:α→Bool)(a b:List α)(h:∀x∈a,p x=true)(hb:∀x∈b,p x=false):(a++b).takeWhile p=a:=by
 induction a with
 |nil=>
  cases b with
  |nil=>rfl
  |cons x b=>simp[hb x (by simp)]
 |cons x a ih=>
  simp_all
end
end Go.Proofs.YtennnelammaapaaGreatDoor
