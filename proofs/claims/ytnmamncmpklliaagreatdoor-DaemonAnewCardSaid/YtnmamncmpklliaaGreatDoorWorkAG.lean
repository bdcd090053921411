/- What the functions of this seat answer (7 of 53). No condition. -/
import Derived.Test.YtnmamncmpklliaaGreatDoorWorkAF
import Derived.Laws.Bits64
set_option linter.unusedSimpArgs false
set_option linter.unusedVariables false
set_option maxRecDepth 100000
set_option maxHeartbeats 16000000
namespace Go.Proofs.YtnmamncmpklliaaGreatDoor
variable{l:List aE}{i n:Nat}{id:Int}
open Go.Proofs.Tryz
theorem KX(a b:aE):(decide (a.id=b.id)&&(decide (a.parent=b.parent)&&(decide (a.name=b.name)&&(decide (a.fJ.c=b.fJ.c)&&decide (a.fJ.r=b.fJ.r)&&(decide (a.data=b.data)&&(decide (a.wrote.c=b.wrote.c)&&decide (a.wrote.r=b.wrote.r)))))))=decide (a=b):=by
 obtain⟨_,_,_,⟨_,_⟩,_,⟨_,_⟩⟩:=a;obtain⟨_,_,_,⟨_,_⟩,_,⟨_,_⟩⟩:=b;rw[pf];simp[and_assoc]
theorem KY(a b:aX):(decide (a.at_.c=b.at_.c)&&decide (a.at_.r=b.at_.r)&&(decide (a.kind=b.kind)&&(decide (a.node=b.node)&&(decide (a.parent=b.parent)&&(decide (a.name=b.name)&&decide (a.data=b.data))))))=decide (a=b):=by
 obtain⟨⟨_,_⟩,_,_,_,_,_⟩:=a;obtain⟨⟨_,_⟩,_,_,_,_,_⟩:=b;rw[pf];simp[and_assoc]
theorem Wq(aO bo:Bool)(l m:List aE)(H:ab):aM prog 74 [.sl aO (l.map ba),.sl bo<|m.map ba] H (.bool<|decide (l=m)):=by
 refine po λU _=>?_
 have hl:=oi U;rw[cv]at hl;refine aZ func74 ?_;repeat' first|(refine ae ?_;simp only[go_sem])|refine bt ?_|(refine bB ?_ ?_<;>intro h<;>try exact bA h)|fail
 ·exact bD<|.of (by rw[bN (λe=>by subst e;simp at h)])
 ·have hlen:l.length=m.length:=by simp at h;omega
  refine cE (ι:=Nat) (λi=>[(0,.sl aO<|l.map ba),(1,.sl bo<|m.map ba),(5,.int .i64 i)]) (λ_=>H) (λi=>i<=l.length/\l.take i=m.take i) (λi=>l.length-i) 0 ⟨bW _,rfl⟩ ?_ rfl ?_
  ·simp[go_sem]
  ·rintro i ⟨hi,he⟩;by_cases J:i<l.length
   ·have ad:=di ba J;have aJ:=di ba<|show i<m.length by omega
    repeat' first|(refine ae ?_;simp only[go_sem,ad,aJ,ba])|refine bt ?_|(refine bB ?_ ?_<;>intro h<;>try exact bA h)|fail
    ·rw[KX]at h;have K:l[i]≠m[i]:=by simpa using h
     exact bD<|.of (by rw[bN (λe=>K (by subst e;rfl))])
    ·rw[KX]at h;have heq:l[i]=m[i]:=by simpa using h
     exact⟨i+1,⟨J,by rw[fj J,fj iV,he,heq]⟩,iV,by rw[bI];rfl⟩
   ·have O:i=l.length:=iV
    subst O;repeat' first|(refine ae ?_;simp only[go_sem])|refine bt ?_|(refine bB ?_ ?_<;>intro h<;>try exact bA h)|fail
    exact bD<|.of (by rw[cD (by rw[eG,hlen,eG]at he;exact he)])
theorem Kd(aO bo:Bool)(l m:List aX)(H:ab):aM prog 14 [.sl aO (l.map bh),.sl bo<|m.map bh] H (.bool<|decide (l=m)):=by
 refine po λU _=>?_
 have hl:=oi U;rw[cv]at hl;refine aZ func14 ?_;repeat' first|(refine ae ?_;simp only[go_sem])|refine bt ?_|(refine bB ?_ ?_<;>intro h<;>try exact bA h)|fail
 ·exact bD<|.of (by rw[bN (λe=>by subst e;simp at h)])
 ·have hlen:l.length=m.length:=by simp at h;omega
  refine cE (ι:=Nat) (λi=>[(0,.sl aO<|l.map bh),(1,.sl bo<|m.map bh),(5,.int .i64 i)]) (λ_=>H) (λi=>i<=l.length/\l.take i=m.take i) (λi=>l.length-i) 0 ⟨bW _,rfl⟩ ?_ rfl ?_
  ·simp[go_sem]
  ·rintro i ⟨hi,he⟩;by_cases J:i<l.length
   ·have ad:=di bh J;have aJ:=di bh<|show i<m.length by omega
    repeat' first|(refine ae ?_;simp only[go_sem,ad,aJ,bh])|refine bt ?_|(refine bB ?_ ?_<;>intro h<;>try exact bA h)|fail
    ·rw[KY]at h;have K:l[i]≠m[i]:=by simpa using h
     exact bD<|.of (by rw[bN (λe=>K (by subst e;rfl))])
    ·rw[KY]at h;have heq:l[i]=m[i]:=by simpa using h
     exact⟨i+1,⟨J,by rw[fj J,fj iV,he,heq]⟩,iV,by rw[bI];rfl⟩
   ·have O:i=l.length:=iV
    subst O;repeat' first|(refine ae ?_;simp only[go_sem])|refine bt ?_|(refine bB ?_ ?_<;>intro h<;>try exact bA h)|fail
    exact bD<|.of (by rw[cD (by rw[eG,hlen,eG]at he;exact he)])
theorem aLu(aO bo:Bool)(l m:List Int)(H:ab):aM prog 139 [.sl aO (l.map bq),.sl bo<|m.map bq] H (.bool<|decide (l=m)):=by
 refine po λU _=>?_
 have hl:=oi U;rw[cv]at hl;refine aZ func139 ?_;repeat' first|(refine ae ?_;simp only[go_sem])|refine bt ?_|(refine bB ?_ ?_<;>intro h<;>try exact bA h)|fail
 ·exact bD<|.of (by rw[bN (λe=>by subst e;simp at h)])
 ·have hlen:l.length=m.length:=by simp at h;omega
  refine cE (ι:=Nat) (λi=>[(0,.sl aO<|l.map bq),(1,.sl bo<|m.map bq),(5,.int .i64 i)]) (λ_=>H) (λi=>i<=l.length/\l.take i=m.take i) (λi=>l.length-i) 0 ⟨bW _,rfl⟩ ?_ rfl ?_
  ·simp[go_sem]
  ·rintro i ⟨hi,he⟩;by_cases J:i<l.length
   ·have ad:=di bq J;have aJ:=di bq<|show i<m.length by omega
    repeat' first|(refine ae ?_;simp only[go_sem,ad,aJ,bq])|refine bt ?_|(refine bB ?_ ?_<;>intro h<;>try exact bA h)|fail
    ·skip
     have K:l[i]≠m[i]:=by simpa using h
     exact bD<|.of (by rw[bN (λe=>K (by subst e;rfl))])
    ·skip
     have heq:l[i]=m[i]:=by simpa using h
     exact⟨i+1,⟨J,by rw[fj J,fj iV,he,heq]⟩,iV,by rw[bI];rfl⟩
   ·have O:i=l.length:=iV
    subst O;repeat' first|(refine ae ?_;simp only[go_sem])|refine bt ?_|(refine bB ?_ ?_<;>intro h<;>try exact bA h)|fail
    exact bD<|.of (by rw[cD (by rw[eG,hlen,eG]at he;exact he)])
def wT:Option Int->List aE->Bool
 |_,[]=>true
 |p,n::l=>(fV n.id&&(match p with|none=>true|some q=>decide<|q<n.id))&&wT (some n.id) l
def cp(l:List aE):Bool:=wT none l
def zc(l:List aE)(i:Nat):Option Int:=if i=0 then none else(l[i-1]?).map (·.id)
theorem aFg(h:i<l.length):wT (zc l i) (l.drop i)=
  ((fV l[i].id&& !(decide ((0:Int)<(i:Int))&&decide (l[i].id<=(l[i-1]'(by omega)).id)))&&wT (zc l<|i+1) (l.drop<|i+1)):=by
 rw[ij h,show wT (zc l i) (l[i]::l.drop (i+1))=((fV l[i].id&&(match zc l i with|none=>true|some q=>decide<|q<l[i].id))&&wT (some l[i].id) (l.drop<|i+1))from by cases zc l i<;>rfl]
 have e:zc l (i+1)=some l[i].id:=by
  simp[zc,da h]
 rw[e];congr 2;unfold zc;grind
def KZ(p:Option Int)(l:List aE):Prop:=match p with|none=>True|some q=>∀x∈l,q<x.id
theorem aGu(p:Option Int)(l:List aE):wT p l=true↔(∀x∈l,fV x.id=true)/\l.Pairwise (λa b=>a.id<b.id)/\KZ p l:=by
 induction l generalizing p with
 |nil=>cases p<;>simp[wT,KZ]
 |cons n l J=>
  grind [wT,List.pairwise_cons,KZ,cU,Option,Int,List,fV]
theorem zd(l:List aE):cp l=true↔(∀x∈l,fV x.id=true)/\l.Pairwise (λa b=>a.id<b.id):=by
 unfold cp;rw[aGu];simp[KZ]
def pos:List aE->Int->Nat
 |[],_=>0
 |n::l,id=>if n.id<id then pos l id+1 else 0
def fe(l:List aE)(id:Int):Option aE:=l.find? λn=>decide (n.id=id)
def hq(l:List aE)(id:Int):Bool:=(fe l id).isSome
theorem aKw(l:List aE)(id:Int):pos l id<=l.length:=by
 induction l with
 |nil=>exact bd _
 |cons n l J=>unfold pos;split<;>simp<;>omega
theorem aKx(hi:i<=l.length)(h1:∀k (hk:k<i),(l[k]'(by omega)).id<id)(h2:∀(h:i<l.length),¬l[i].id<id):pos l id=i:=by
 induction l generalizing i with
 |nil=>simp at hi;subst hi;rfl
 |cons n l J=>
  unfold pos;cases i with
  |zero=>grind
  |succ i=>
   have:=h1 0 iV
   simp at this;rw[aA this,J (i:=i) (by simpa using hi) (λk hk=>kr) (λh=>by have:=h2 (by simpa using h);simpa using this)]
theorem Wr(hs:cp l=true):fe l id=match l[pos l id]? with|some n=>if n.id=id then some n else none|none=>none:=by
 have ad:=((zd l).1 hs).2;clear hs;induction l with
 |nil=>rfl
 |cons n l J=>
  rw[List.pairwise_cons]at ad;unfold fe pos;rw[List.find?_cons];by_cases h:n.id<id
  ·rw[aA h,cQ];simp only[tD];exact J ad.2
  ·grind
theorem C0(hs:cp l=true):hq l id=(match l[pos l id]? with|some n=>decide (n.id=id)|none=>false):=by
 rw[hq,Wr hs];split
 ·split<;>simp_all
 ·rfl
theorem v8(hs:cp l=true)(h:hq l id=true):pos l id<l.length:=by
 rw[C0 hs]at h;split at h
 ·rename_i n af;exact(cj.1 af).1
 ·cases h
theorem Ke(hs:cp l=true)(h:hq l id=true):fe l id=some (l[pos l id]'(v8 hs h)):=by
 have J:=v8 hs h;rw[C0 hs,da J]at h;rw[Wr hs,da J];grind
theorem KJ(h:hq l id=false):fe l id=none:=by
 unfold hq at h;cases J:fe l id<;>simp_all
def ll(l:List aE):Nat->Int->List Int
 |0,_=>[]
 |k+1,id=>match fe l id with
  |none=>[]
  |some n=>if n.parent= -1 then[]else n.parent::ll l k n.parent
def gZ(l:List aE)(id:Int):List Int:=ll l l.length id
def og(l:List aE)(id:Int):List Int:=if cp l=true then gZ l id else[]
def zB(l:List aE)(id:Int):Option aE:=if cp l=true then fe l id else none
def nc(l:List aE)(i j:Nat)(xs:List aE):List aE:=l.take i++xs++l.drop j
def uP(l:List aE)(o:aX):Bool:=decide (o.parent=o.node)||(gZ l o.parent).any (λx=>decide<|x=o.node)
def refused(l:List aE)(o:aX):Bool:= !cp l|| !b0 o||(decide (o.kind=1)&&uP l o)
def pM(l:List aE)(o:aX):aE:=match fe l o.node with|some n=>n|none=>{uI with id:=o.node,parent:= -1}
def je(l:List aE)(o:aX):aE:=
 if o.kind=1 then{pM l o with parent:=o.parent,name:=o.name,fJ:=o.at_}else{pM l o with data:=o.data,wrote:=o.at_}
def upto(l:List aE)(id:Int):Nat:=if hq l id=true then pos l id+1 else pos l id
def dX(l:List aE)(o:aX):List aE:=if refused l o=true then l else nc l (pos l o.node) (upto l o.node) [je l o]
def kh(l:List aE)(o:aX):Bx:=if refused l o=true then P8 else⟨true,hq l o.node,(fe l o.node).getD uI⟩
def tl(l:List aE)(o:aX)(u:Bx):List aE:=
 if(!cp l|| !u.rW)=true then l
 else if(fV o.node&&u.hq&&decide (u.b1.id=o.node))=true then nc l (pos l o.node) (upto l o.node) [u.b1]
 else nc l (pos l o.node) (upto l o.node) []
theorem Kf(l:List aE)(id:Int)(hs:cp l=true):pos l id<=upto l id/\upto l id<=l.length:=by
 have:=aKw l id;unfold upto;split
 ·rename_i h;have:=v8 hs h;omega
 ·omega
theorem Ny(l:List aE)(i j:Nat)(xs:List aE)(h:i<=j)(J:j<=l.length):(nc l i j xs).length+j=i+xs.length+l.length:=by
 simp[nc];omega
theorem aFh(h:i<n)(af:n<=9223372036854775807):IntKind.i64.wrap ((i:Int)-1)=(i:Int)-1:=bI
theorem aEj(i:Nat):((i:Int)-1).toNat=i-1:=iV
theorem dA(h:i<n)(af:n<=9223372036854775807):IntKind.i64.wrap ((i:Int)+1)=((i+1:Nat):Int):=by rw[bI];rfl
theorem lN(b:Bool)(l:List aE)(H:ab):aM prog 93 [.sl b (l.map ba)] H (.bool<|cp l):=by
 refine OU λU=>?_
 have hl:=oi U;rw[cv]at hl;refine aZ func93 ?_;refine aW ?_;refine cE (ι:=Nat×ab) (λx=>[(0,.sl b<|l.map ba),(8,.sl b<|l.map ba),(9,.int .i64 l.length),(10,.int .i64 x.1)]) (λx=>H++x.2) (λx=>x.1<=l.length/\cp l=wT (zc l x.1) (l.drop x.1)) (λx=>l.length-x.1) (0,[]) ⟨bW _,rfl⟩ ?_ kk ?_
 ·simp[go_sem]
 ·rintro⟨i,L⟩ ⟨hi,he⟩;simp only at hi he ⊢;generalize aW:H++L=G;by_cases J:i<l.length
  ·have ad:=di ba J;have aJ:=di ba<|show i-1<l.length by omega
   have hw:=aFh J hl;have ah:=aEj i;rw[aFg J]at he;repeat' first|((first|refine cx (yo _) ?_|refine ae ?_);simp only[go_sem,ad,aJ,hw,ah,ba])|refine bt ?_|(refine bB ?_ ?_<;>intro h<;>try exact bA h)|fail
   ·refine BB aW nb<|.of ?_
    have h2:(fV l[i].id&& !(decide ((0:Int)<(i:Int))&&decide (l[i].id<=l[i-1].id)))=false:=by rw[<-sB,Bool.not_and,Bool.not_not];exact h
    rw[he,h2];rfl
   ·have h2:(fV l[i].id&& !(decide ((0:Int)<(i:Int))&&decide (l[i].id<=l[i-1].id)))=true:=by rw[<-Bool.not_eq_false',Bool.not_and,Bool.not_not];exact h
    rw[h2,sH]at he;exact⟨(i+1,_),⟨J,he⟩,by simp only;omega,bU _<|dA J hl,aLp aW⟩
  ·have K:i=l.length:=iV
   subst K;repeat' first|(refine ae ?_;simp only[go_sem])|refine ao ?_|fail
   refine KI aW nb<|.of ?_
   rw[he,oy];rfl
def wU(a b:Int):Int:=if a<b then-1 else if b<a then 1 else 0
theorem aLl(a:Int)(H:ab):aM prog 240 [.int .i64 a] H (.bool false):=by
 refine aZ func240 ?_;refine aW ?_;exact bD<|.of kk
theorem aLm(a b:Int)(H:ab):aM prog 213 [.int .i64 a,.int .i64 b] H (.int .i64<|wU a b):=by
 refine aZ func213 ?_;repeat' first|((first|refine cx (aLl _) ?_|refine ae ?_);simp only[go_sem])|refine bt ?_|(refine bB ?_ ?_<;>intro h<;>try exact bA h)|fail
 all_goals(simp only[gU,wG]at *)
 ·exact bD<|.of (by rw[wU,aA h])
 ·exact bD<|.of (by rw[wU,aj (by assumption),aA h])
 ·exact bD<|.of (by rw[wU,aj (by assumption),aj h])
theorem aKy(n:aE)(id:Int)(H:ab):aM prog 212 [ba n,.int .i64 id] H (.int .i64<|wU n.id id):=by
 refine aZ func212 ?_;simp only[ba];repeat' first|((first|refine cx (aLm _ _) ?_|refine ae ?_);simp only[go_sem])|refine ao ?_|fail
 exact aV<|.refl _
theorem aKz{j:Nat}(hi:i<=j)(J:j<=n)(af:n<=9223372036854775807):
  IntKind.i64.wrap ((IntKind.u64.wrap (IntKind.i64.wrap<|(i:Int)+(j:Int))).fdiv (2 ^ min 1 64))=(((i+j) / 2:Nat):Int):=by
 have av:IntKind.u64.wrap (IntKind.i64.wrap<|(i:Int)+(j:Int))=(i:Int)+(j:Int):=by
  rw[IntKind.wrap_i64,IntKind.wrap_u64];omega
 have al:(2:Int) ^ min 1 64=2:=l9
 rw[av,al,Int.fdiv_eq_ediv_of_nonneg _ iV,bI]
 omega
theorem aL4(b:Bool)(l:List aE)(id:Int)(fn:Fn)(fs cs:List I)(hs:cp l=true)(H:ab)(z:∀n:aE,x6 prog (.func fn fs cs) [ba n,.int .i64 id] H (.int .i64<|wU n.id id)):
  aM prog 211 [.sl b (l.map ba),.int .i64 id,.func fn fs cs] H (.aQ [.int .i64 (pos l id),.bool<|hq l id]):=by
 refine OV λbn _ _=>?_
 have hl:=oi bn;rw[cv]at hl;have RA:=((zd l).1 hs).2;rw[List.pairwise_iff_getElem]at RA;simp only[ba]at z;refine aZ func211 ?_;refine aW ?_;refine cE (ι:=Nat×Nat) (λx=>[(0,.sl b<|l.map ba),(1,.int .i64 id),(2,.func fn fs cs),(8,.int .i64 l.length),(9,.int .i64 x.1),(10,.int .i64 x.2)]) (λx=>H)
  (λx=>x.1<=x.2/\x.2<=l.length/\(∀k (h:k<l.length),k<x.1->l[k].id<id)/\∀k (h:k<l.length),x.2<=k->¬l[k].id<id) (λx=>x.2-x.1) (0,l.length) ⟨bW _,bd _,λk _ h=>by simp at h,λk h h2=>by simp at h2;omega⟩ ?_ rfl ?_
 ·simp[go_sem]
 ·rintro⟨i,j⟩ ⟨hi,O,h1,h2⟩;simp only at hi O h1 h2 ⊢;by_cases ak:i<j
  ·have hm:=aKz hi O hl;have T:(i+j) / 2<l.length:=iV
   have ad:=di ba T;repeat' first|(refine ae ?_;simp only[go_sem,hm,ad,ba])|refine ao ?_|fail
   refine Oa (z _) ?_;simp only[go_sem,hm,ad,ba];repeat' first|refine hH ?_|(refine bB ?_ ?_<;>intro h<;>try exact bA h)|fail
   ·have V:l[(i+j) / 2].id<id:=by
     have J:=lT h;unfold wU at J;repeat' split at J
     all_goals omega
    refine⟨((i+j) / 2+1,j),⟨by simp only;omega,O,λk hk ee=>?_,h2⟩,by simp only;omega,bU _<|dA T hl,rfl⟩
    simp only at ee;rcases Bk k ((i+j) / 2)with U|U
    ·exact Int.lt_trans (RA k _ hk T U) V
    ·obtain rfl:k=(i+j) / 2:=iV
     exact V
   ·have V:¬l[(i+j) / 2].id<id:=by
     have J:=of_decide_eq_false h;unfold wU at J;repeat' split at J
     all_goals omega
    refine⟨(i,(i+j) / 2),⟨by simp only;omega,by simp only;omega,h1,λk hk ee=>?_⟩,by simp only;omega,rfl,rfl⟩
    simp only at ee;rcases Bk ((i+j) / 2) k with U|U
    ·have:=RA _ k T hk U;omega
    ·obtain rfl:k=(i+j) / 2:=iV
     exact V
  ·have cF:i=j:=iV
   subst cF;have ta:=aKx O (λk hk=>h1 k iV hk) λh=>h2 i h (bd _)
   by_cases Z:i<l.length
   ·have ad:=di ba Z;repeat' first|(refine ae ?_;simp only[go_sem,ad,ba])|refine ao ?_|fail
    have K:=λn=>(z n) []
    simp only[cA]at K;refine⟨_,λ_=>K _,?_⟩
    simp only[go_sem,ad,ba];refine hH ?_;refine bD<|.of ?_;rw[C0 hs,ta,da Z];have av:decide ((i:Int)<(l.length:Int))=true:=by simpa using Z
    have al:decide (wU l[i].id id=0)=decide (l[i].id=id):=by
     unfold wU;rcases Int.lt_trichotomy l[i].id id with q|q|q
     ·rw[aA q,bN<|show ¬l[i].id=id by omega];rfl
     ·rw[aj iV,aj iV,cD q];rfl
     ·rw[aj iV,aA q,bN<|show ¬l[i].id=id by omega];rfl
    rw[av,al];rfl
   ·refine hH ?_;have av:decide ((i:Int)<(l.length:Int))=false:=by simpa using Z
    refine⟨.int .i64 1,λaL=>?_,?_⟩
    ·rw[av]at aL;cases aL
    simp only[go_sem];refine aW ?_;refine bD<|.of ?_;rw[C0 hs,ta,tA iV,av];rfl
theorem Kg(b:Bool)(l:List aE)(id:Int)(hs:cp l=true)(H:ab):aM prog 180 [.sl b (l.map ba),.int .i64 id] H (.aQ [.int .i64 (pos l id),.bool<|hq l id]):=by
 refine aZ func180 ?_;have J:=aL4 b l id (.func 212) [] [] hs H λn=>.mk (first:=[]) (cap:=[]) (λL=>aKy n id<|H++L) aK
 repeat' first|((first|refine jg J ?_|refine ae ?_);simp only[go_sem])|refine ao ?_|fail
 exact bD<|.refl _
def aBx(r:Option aE):I:=.aQ [ba (r.getD uI),.bool r.isSome]
theorem aKA(b:Bool)(l:List aE)(id:Int)(H:ab):aM prog 302 [.sl b (l.map ba),.int .i64 id] H (aBx<|zB l id):=by
 refine aZ func302 ?_;unfold zB;cases hs:cp l with
 |false=>
  repeat' first|((first|refine cx (lN _ _) ?_|refine ae ?_);simp only[go_sem,hs])|refine ao ?_|fail
  exact aV<|.refl _
 |true=>
  have K:=Kg b l id hs;cases J:hq l id with
  |false=>
   repeat' first|((first|refine cx (lN _ _) ?_|refine ae ?_);simp only[go_sem,hs,J])|refine ao ?_|fail
   rw[KJ J];exact aV<|.refl _
  |true=>
   have U:=v8 hs J;have ad:=di ba U;rw[Ke hs J];repeat' first|((first|refine cx (lN _ _) ?_|refine ae ?_);simp only[go_sem,hs,J,ad,ba])|refine ao ?_|fail
   exact aV<|.refl _
def Um:List cu:=[.free,.free,.pure 0,.free,.free,.pure 0,.eff [false,false]]
attribute [go_sem] Um
theorem aGv(b:Bool)(l:List Int)(v:Int)(H:ab):
  aM prog 214 [.sl b (l.map bq),.int .i64 v] H (.int .i64<|eT (λx=>decide (v=x)) l):=by
 refine po λO _=>?_
 have hl:=oi O;rw[cv]at hl;refine aZ func214 ?_;refine aW ?_;refine cE (ι:=Nat) (λi=>[(0,.sl b<|l.map bq),(1,.int .i64 v),(7,.int .i64 l.length),(8,.int .i64 i)]) (λ_=>H) (λi=>i<=l.length/\∀k (hk:k<i) (K:k<l.length),decide (v=l[k])=false) (λi=>l.length-i) 0 ⟨bW _,λk hk=>iV⟩ ?_ rfl ?_
 ·simp[go_sem]
 ·rintro i ⟨hi,J⟩;by_cases U:i<l.length
  ·have ad:=di bq U;repeat' first|(refine ae ?_;simp only[go_sem,ad,bq])|refine bt ?_|(refine bB ?_ ?_<;>intro h<;>try exact bA h)|fail
   ·exact bD<|.of (by rw[FU (λx=>decide (v=x)) l i U (λk hk=>J k hk iV) h])
   ·refine⟨i+1,⟨U,λk hk K=>?_⟩,iV,by rw[bI];rfl⟩
    by_cases e:k=i
    ·subst e;simpa using h
    ·simpa using J k iV K
  ·have T:i=l.length:=iV
   repeat' first|(refine ae ?_;simp only[go_sem])|refine bt ?_|(refine bB ?_ ?_<;>intro h<;>try exact bA h)|fail
   subst T;exact bD<|.of (by rw[FV (λx=>decide (v=x)) l λk hk=>J k hk hk])
theorem Jg(b:Bool)(l:List Int)(v:Int)(H:ab):
  aM prog 183 [.sl b (l.map bq),.int .i64 v] H (.bool<|l.any λx=>decide (x=v)):=by
 refine aZ func183 ?_;repeat' first|((first|refine cx (aGv _ _ _) ?_|refine ae ?_);simp only[go_sem])|refine bt ?_|(refine bB ?_ ?_<;>intro h<;>try exact bA h)|fail
 refine bD<|.of ?_;rw[Jf];congr 2;funext x;exact decide_eq_decide.2 ⟨Eq.symm,Eq.symm⟩
theorem xx(l:List Int):(l.map bq).flatMap I.cells=l.map bq:=by
 induction l with
 |nil=>rfl
 |cons x l J=>rw[dz,nj,J];rfl
theorem AP(l:List Int):∀e∈l.map bq,e.cells.length=1:=λe he=>by
 obtain⟨x,_,rfl⟩:=bJ.1 he;rfl
theorem Ws(b:Bool)(l:List aE)(id:Int)(hs:cp l=true)(hl:l.length<=1073741824)(H:ab):aM prog 145 [.sl b (l.map ba),.int .i64 id] H (.sl false<|(gZ l id).map bq):=by
 refine aZ func145 ?_;have K:=λid=>Kg b l id hs
 refine aW ?_;refine y2 5 1 nb ?_
 refine cE (ι:=List Int×Int) (λx=>[(0,.sl b<|l.map ba),(1,.int .i64 x.2),(5,.osl 1 H.length (x.1.length+1) 0 x.1.length x.1.length)]) (λx=>H++[.cells (x.1.length+1) (x.1.map bq)])
  (λx=>x.1.length<=l.length/\x.1++ll l (l.length-x.1.length) x.2=gZ l id) (λx=>l.length-x.1.length) ([],id) ⟨bW _,rfl⟩ ?_ rfl ?_
 ·simp[go_sem]
 ·rintro⟨acc,U⟩ ⟨af,he⟩;simp only at af he ⊢;by_cases V:acc.length<l.length
  ·obtain⟨m,hm⟩:∃m,l.length-acc.length=m+1:=⟨l.length-acc.length-1,iV⟩
   rw[hm,ll]at he;cases J:hq l U with
   |false=>
    rw[KJ J]at he;repeat' first|((first|refine cx (K _) ?_|refine ae ?_);simp only[go_sem,J])|refine bt ?_|(refine bB ?_ ?_<;>intro h<;>try exact bA h)|fail
    exact uH (cs:=acc.map bq) (es:=acc.map bq) (rest:=[]) (bd _) nb (by rw[xx,cA]) kk (AP acc) (λe he=>by obtain⟨c,_,rfl⟩:=bJ.1 he;exact .int _ _)<|by rw[<-he];simp
   |true=>
    have O:=v8 hs J;have ad:=di ba O;rw[Ke hs J]at he;simp only at he;repeat' first|((first|refine cx (K _) ?_|refine ae ?_);simp only[go_sem,J,ad,ba])|refine bt ?_|(refine bB ?_ ?_<;>intro h<;>try exact bA h)|fail
    ·rw[aA (lT h)]at he;exact uH (cs:=acc.map bq) (es:=acc.map bq) (rest:=[]) (bd _) nb (by rw[xx,cA]) kk (AP acc) (λe he=>by obtain⟨c,_,rfl⟩:=bJ.1 he;exact .int _ _)<|by rw[<-he];simp
    ·rw[aj (of_decide_eq_false h)]at he;exact⟨⟨iV,λe he=>by rw[he];rfl,iV⟩,(acc++[l[pos l U].parent],l[pos l U].parent),⟨nX,by rw[<-he];simp[show l.length-(acc.length+1)=m by omega]⟩,nX,⟨rfl,kk⟩,by simp[bq]⟩
  ·refine hH ?_;have T:l.length-acc.length=0:=iV
   rw[T]at he;exact uH (cs:=acc.map bq) (es:=acc.map bq) (rest:=[]) (bd _) nb (by rw[xx,cA]) kk (AP acc) (λe he=>by obtain⟨c,_,rfl⟩:=bJ.1 he;exact .int _ _)<|by rw[<-he];simp[ll]
theorem OY(b:Bool)(l:List aE)(id:Int)(hl:l.length<=1073741824)(H:ab):aM prog 94 [.sl b (l.map ba),.int .i64 id] H (.sl false<|(og l id).map bq):=by
 refine aZ func94 ?_;unfold og;cases hs:cp l with
 |false=>
  repeat' first|((first|refine cx (lN _ _) ?_|refine ae ?_);simp only[go_sem,hs])|refine bt ?_|(refine bB ?_ ?_<;>intro h<;>try exact bA h)|fail
  exact bD<|.sl _ _
 |true=>
  have J:=Ws b l id hs hl;repeat' first|((first|refine cx (lN _ _) ?_|refine ae ?_);simp only[go_sem,hs])|refine bt ?_|(refine bB ?_ ?_<;>intro h<;>try exact bA h)|fail
  exact bD<|.refl _
theorem Wt(l:List aE):(l.map ba).flatMap I.cells=l.flatMap λn=>(ba n).cells:=by
 rw[Gf]
theorem aDq(l:List aE):(l.flatMap λn=>(ba n).cells).length=l.length * 8:=by
 induction l with
 |nil=>rfl
 |cons x l J=>rw[nj,bF,J];simp[ba,I.cells];omega
theorem VC(l:List aE):∀e∈l.map ba,e.cells.length=8:=λe he=>by
 obtain⟨x,_,rfl⟩:=bJ.1 he;rfl
theorem aFi(l:List aE):(∀e∈l.map ba,e.cells.length=8)=True:=b5<|VC l
theorem aKB(l:List aE):(l.flatMap λn=>(ba n).cells).all I.one=true:=by
 rw[gm];intro x J;obtain⟨n,_,af⟩:=u2.1 J;simp only[ba,I.cells,cU,lj,lk]at af;rcases af with rfl|rfl|rfl|rfl|rfl|rfl|rfl|rfl<;>rfl
theorem XN(l:List aE):∀e∈l.map ba,b6 e:=λe he=>by
 obtain⟨x,_,rfl⟩:=bJ.1 he;exact nb
theorem rS{A B X:List I}{off:Nat}(h:A.length=off):dq (A++B) off X=A++(X++B.drop X.length):=by
 subst h;simp[dq,List.drop_append]
def xC:I:=.agg [.int .i64 0,.int .i64 0,.str [],.int .i64 0,.int .i64 0,.str [],.int .i64 0,.int .i64 0]
theorem SF(l:List aE):(List.flatMap I.cells (l.map ba)).length=l.length * 8:=by rw[Wt,aDq]
theorem aIm(l:List aE):(List.flatMap I.cells (l.map ba)).all I.one=true:=by rw[Wt];exact aKB l
theorem aGw(n:Nat):(List.flatMap I.cells (List.replicate n xC)).length=n * 8:=by
 induction n with
 |zero=>rfl
 |succ n J=>rw[zo,nj,bF,J];simp[xC,I.cells];omega
theorem Pw(aO bo:Bool)(l xs:List aE)(i j:Nat)(V:i<=j)(Z:j<=l.length)(hl:l.length+xs.length<=1073741824)(H:ab):
  aM prog 181 [.sl aO (l.map ba),.int .i64 i,.int .i64 j,.sl bo<|xs.map ba] H (.sl false<|(nc l i j xs).map ba):=by
 refine aZ func181 ?_;have av:IntKind.i64.wrap (IntKind.i64.wrap (((i+xs.length:Nat):Int)+(l.length:Int))-(j:Int))=((i+xs.length+(l.length-j):Nat):Int):=by
  rw[wrap_i64 (n:=((i+xs.length:Nat):Int)+l.length) iV iV,bI];omega
 have t1:List.take i (List.map ba l)=List.map ba (l.take i):=rI.symm;have t2:List.drop j (List.map ba l)=List.map ba (l.drop j):=uY.symm;have O:(l.take i).length=i:=List.length_take_of_le iV
 have fh:(l.drop j).length=l.length-j:=fT;have al:IntKind.i64.wrap ((i:Int)+(xs.length:Int))=((i+xs.length:Nat):Int):=bI;have z:xC=.agg [.int .i64 0,.int .i64 0,.str [],.int .i64 0,.int .i64 0,.str [],.int .i64 0,.int .i64 0]:=rfl;have J:=SF<|l.take i;have U:=SF xs;have K:=SF<|l.drop j;have T:=aGw<|i+(xs.length+(l.length-j));rw[O]at J;rw[fh]at K;have s1:dq (List.flatMap I.cells<|List.replicate (i+(xs.length+(l.length-j))) xC) 0 (List.flatMap I.cells<|List.map ba (l.take i))=
   List.flatMap I.cells (List.map ba<|l.take i)++(List.flatMap I.cells (List.replicate (i+(xs.length+(l.length-j))) xC)).drop (i * 8):=by
  have:=rS (A:=[]) (B:=List.flatMap I.cells<|List.replicate (i+(xs.length+(l.length-j))) xC) (X:=List.flatMap I.cells<|List.map ba (l.take i)) (off:=0) rfl;rw[J]at this;exact this
 have s2:dq (List.flatMap I.cells (List.map ba<|l.take i)++(List.flatMap I.cells (List.replicate (i+(xs.length+(l.length-j))) xC)).drop (i * 8)) (i * 8) (List.flatMap I.cells<|List.map ba xs)=
   List.flatMap I.cells (List.map ba<|l.take i)++(List.flatMap I.cells (List.map ba xs)++(List.flatMap I.cells (List.replicate (i+(xs.length+(l.length-j))) xC)).drop (i * 8+xs.length * 8)):=by
  rw[rS J,U,sD]
 have ld:dq (List.flatMap I.cells (List.map ba<|l.take i)++(List.flatMap I.cells (List.map ba xs)++(List.flatMap I.cells (List.replicate (i+(xs.length+(l.length-j))) xC)).drop (i * 8+xs.length * 8))) ((i+xs.length) * 8) (List.flatMap I.cells<|List.map ba (l.drop j))=
   List.flatMap I.cells (List.map ba<|nc l i j xs):=by
  rw[<-dr,rS (by rw[bF,J,U];omega),K,sD,show List.drop (i * 8+xs.length * 8+(l.length-j) * 8) (List.flatMap I.cells<|List.replicate (i+(xs.length+(l.length-j))) xC)=[]from List.drop_of_length_le<|by rw[T];omega]
  simp[nc,dr]
 repeat' first|((first|refine mx [4] Um ?_|refine ae ?_);simp only[go_sem,av,al,t1,t2,O,fh,<-z,s1,s2,ld,J,U,K,T,aIm,aFi,fT])|refine bt ?_|(refine bB ?_ ?_<;>intro h<;>try exact bA h)|fail
 have hlen:=Ny l i j xs V Z;exact uH (cs:=List.flatMap I.cells<|List.map ba (nc l i j xs)) (es:=(nc l i j xs).map ba) (rest:=[]) (bd _) nb (cA _).symm (by rw[cv];omega) (VC _) (XN _) rfl
theorem Wu(b:Bool)(l:List aE)(hl:l.length<=1000000000)(H:ab):aM prog 179 [.sl b (l.map ba)] H (.sl false<|l.map ba):=by
 refine aZ func179 ?_;have J:=Pw b true l [] l.length l.length (bd _) (bd _) nX H
 have e:nc l l.length l.length []=l:=by simp[nc]
 rw[e]at J;repeat' first|((first|refine jg J ?_|refine ae ?_);simp only[go_sem])|refine bt ?_|(refine bB ?_ ?_<;>intro h<;>try exact bA h)|fail
 exact bD<|.refl _
end Go.Proofs.YtnmamncmpklliaaGreatDoor
