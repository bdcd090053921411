/- What the functions of this seat answer (9 of 53). No condition. -/
import Derived.Test.YtnmamncmpklliaaGreatDoorWorkAG
import Derived.Lib.Bytealg
import Derived.Laws.Externs
import Derived.RecoverIn
import Derived.WalkKit
import Derived.ProofKit
import Derived.OpenShut
import Derived.ShutString
import Derived.ChangeOld
import Derived.Below
import Derived.Carry
import Derived.Lib.LaidTab
import Derived.MakeChecks
set_option linter.unusedSimpArgs false
set_option linter.unusedVariables false
set_option linter.unusedSectionVars false
set_option maxRecDepth 100000
set_option maxHeartbeats 16000000
namespace Go.Proofs.YtnmamncmpklliaaGreatDoor
variable{y:I}{v:Value}{clock i N n gb:Nat}{es:List (I×I×Nat)}{args cs bk ys xs:List I}{H H1:ab}{c:Ctx}{vs:List Value}{fn F:Func}{α:Type}{code:Code}{Q:cX}{R:I->ab->Prop}{p:List MemPlace}{r:Reach}{P:Program}
open Go.Proofs.Tryz
def pI(dir:Int)(n:aE):Bool:=decide (n.parent=dir)&&o8 n.fJ.c n.fJ.r
def ht(s:ag):List (ag×aE)->Option aE
 |[]=>none
 |(k,n)::m=>if k=s then some n else ht s m
def hU(s:ag)(n:aE):List (ag×aE)->List (ag×aE)
 |[]=>[(s,n)]
 |(k,x)::m=>if k=s then(s,n)::m else(k,x)::hU s n m
def rQ(m:List (ag×aE))(n:aE):List (ag×aE):=match ht n.name m with
 |none=>hU n.name n m
 |some o=>if zG n.fJ.c n.fJ.r o.fJ.c o.fJ.r=true then m else hU n.name n m
def mi(dir:Int)(m:List (ag×aE))(n:aE):List (ag×aE):=if pI dir n=true then rQ m n else m
def fz(l:List aE)(dir:Int):List (ag×aE):=l.foldl (mi dir) []
def fx(l:List aE)(dir:Int)(s:ag):Option aE:=if cp l=true then ht s (fz l dir)else none
def iG(l:List aE):Int->List ag->Int×Int
 |at_,[]=>(at_,0)
 |at_,s::names=>if dm at_=true then(match fx l at_ s with|some n=>iG l n.id names|none=>(0,80))else(0,81)
def fp(l:List aE)(names:List ag):Int×Int:=iG l 0 names
def fR:Nat->List (ag×aE)->List (I×I×Nat)
 |_,[]=>[]
 |b,p::m=>(.str p.1,ba p.2,b)::fR (b+1) m
theorem OZ(b:Nat)(m:List (ag×aE)):iH .string (fR b m):=by
 induction m generalizing b with
 |nil=>exact λp ad=>by simp[fR]at ad
 |cons p m J=>
  intro q aJ;rcases cU.1 aJ with rfl|aJ
  ·rfl
  ·exact J _ q aJ
theorem Za(b:Nat)(m:List (ag×aE)):(fR b m).length=m.length:=by
 induction m generalizing b with
 |nil=>rfl
 |cons p m J=>simp[fR,J]
theorem XO(b:Nat)(m:List (ag×aE))(s:ag):(ht s m=none/\eD (.str s) (fR b m)=none)\/∃n j,ht s m=some n/\eD (.str s) (fR b m)=some (j,ba n):=by
 induction m generalizing b with
 |nil=>exact .inl ⟨rfl,rfl⟩
 |cons p m U=>
  obtain⟨k,n⟩:=p;by_cases h:k=s
  ·subst h;exact .inr ⟨n,0,by simp[ht],by simp[fR,eD,iM]⟩
  ·have J:iM (.str s) (.str k)=false:=by simp[iM];exact λe=>h e.symm
   rcases U (b+1)with⟨h1,h2⟩|⟨x,j,h1,h2⟩
   ·exact .inl ⟨by simp[ht,h,h1],by simp[fR,eD,J,h2]⟩
   ·exact .inr ⟨x,j+1,by simp[ht,h,h1],by simp[fR,eD,J,h2]⟩
theorem O0{x v w:I}{b:Nat}(h:iM x y=false):hL x v ((y,w,b)::es) clock=(y,w,b)::hL x v es clock:=by
 simp only[hL,eD,h,sI];cases eD x es with
 |none=>rfl
 |some p=>rfl
theorem aC1{x w:I}{b:Nat}(h:iM x y=false):q4 x ((y,w,b)::es) clock=q4 x es clock:=by
 simp only[q4,eD,h,sI];cases eD x es<;>rfl
theorem aIo(b:Nat)(m:List (ag×aE))(s:ag)(n:aE):hL (.str s) (ba n) (fR b m) (b+m.length)=fR b (hU s n m)/\q4 (.str s) (fR b m) (b+m.length)=b+(hU s n m).length:=by
 induction m generalizing b with
 |nil=>exact⟨rfl,rfl⟩
 |cons p m U=>
  obtain⟨k,x⟩:=p;by_cases h:k=s
  ·subst h;exact⟨by simp[fR,hL,eD,iM,hU],by simp[fR,q4,eD,iM,hU]⟩
  ·have J:iM (.str s) (.str k)=false:=by simp[iM];exact λe=>h e.symm
   obtain⟨h1,h2⟩:=U<|b+1;have e:b+((k,x)::m).length=b+1+m.length:=nX
   rw[e];simp only[fR,hU,aj h];rw[O0 J,aC1 J,h1,h2];exact⟨rfl,nX⟩
theorem aGa(m:List (ag×aE))(s:ag)(n:aE):bE.map (hL (.str s) (ba n) (fR 0 m) m.length) (q4 (.str s) (fR 0 m) m.length)=.map (fR 0<|hU s n m) (hU s n m).length:=by
 have:=aIo 0 m s n;rw[j9,j9]at this;rw[this.1,this.2]
theorem aLn(k:Nat)(n:aE):cM k (ba n):=(b6.agg _ λx J=>by
 simp only[cU,lj,lk]at J;rcases J with rfl|rfl|rfl|rfl|rfl|rfl|rfl|rfl<;>first|exact .int _ _|exact .str _).cl k
theorem XE(k b:Nat)(m:List (ag×aE)):∀p∈fR b m,cM k p.1/\cM k p.2.1:=by
 induction m generalizing b with
 |nil=>exact λp ad=>by simp[fR]at ad
 |cons q m J=>
  intro p ad;rcases cU.1 ad with rfl|ad
  ·exact⟨.str _,aLn k _⟩
  ·exact J _ p ad
def DE(P:Program)(f:FuncId)(args:List I)(H:ab)(x:I):Prop:=Dz P f args H λv H'=>v=x/\H'=H
theorem Vl{f:FuncId}{x:I}{k:I->ab->Prop}(h:DE P f args H x)(hk:k x H):qA P (.func (.func f) [] []) args H k:=
 Or.inr (by
  simp only[ju,cA];exact h.mono λy H' ⟨av,al⟩=>by subst av;subst al;exact hk)
theorem Vm{g:Bool}{f:FuncId}{x:I}{K:I->Prop}(h:DE P f args H x)(hk:K x):tk P g (.func (.func f) [] []) args H K:=
 ⟨x,λ_=>Or.inr (by
  simp only[ju,cA];exact h),hk⟩
theorem Wv{x:I}{vs:Array Value}(h:sN c [x,y] vs):∃u v,vs= #[u,v]/\aI c x u/\aI c y v:=by
 obtain⟨hl,J⟩:=h;obtain⟨l⟩:=vs
 match l,hl,J with
 |[u,v],_,J=>exact⟨u,v,rfl,J 0 _ _ rfl rfl,J 1 _ _ rfl rfl⟩
theorem aDl(l:List UInt8)(c:UInt8):Lib.indexByte l c<(l.length:Int)\/l=[]:=by
 induction l with
 |nil=>exact .inr rfl
 |cons b l J=>
  refine .inl ?_;rw[Lib.indexByte,cg];split
  ·omega
  ·split
   ·omega
   ·rcases J with h|h
    ·omega
    ·subst h;rename_i h1;exact absurd rfl h1
theorem aJ8{f:FuncId}(J:P.funcs[f]?=some fn)(h1:(fn.name== "runtime.NumGoroutine")=false)(h2:fn.body.isNone=true)(h3:Extern.findNext fn=none)(h4:Extern.find fn=some Extern.BytealgCount.count)
  (s:List UInt8) (b:Int) (H:ab):DE P f [.str s,.int .u8 b] H (.int .i64<|Lib.countByte s b.toNat.toUInt8):=by
 intro c vs O U;obtain⟨u,v,rfl,hu,K⟩:=Wv U;cases hu with
 |str _ hs=>
  cases K with
  |int _ _ T=>
   refine⟨_,_,?_,.int .i64 (Lib.countByte s b.toNat.toUInt8:Nat) ?_,rfl,rfl⟩
   ·rw[run_callFunc_extern J h1 h2 h3 h4,Lib.run_countString];rfl
   ·have:Lib.countByte s b.toNat.toUInt8<=s.length:=List.count_le_length;exact⟨by show(-9223372036854775808:Int)<=_;omega,by show _<=(9223372036854775807:Int);omega⟩
theorem aJ9{f:FuncId}(J:P.funcs[f]?=some fn)(h1:(fn.name== "runtime.NumGoroutine")=false)(h2:fn.body.isNone=true)(h3:Extern.findNext fn=none)(h4:Extern.find fn=some Extern.BytealgIndexByte.indexByte)
  (s:List UInt8) (b:Int) (H:ab):DE P f [.str s,.int .u8 b] H (.int .i64<|Lib.indexByte s b.toNat.toUInt8):=by
 intro c vs T U;obtain⟨u,v,rfl,hu,K⟩:=Wv U;cases hu with
 |str _ hs=>
  cases K with
  |int _ _ V=>
   refine⟨_,_,?_,.int .i64 (Lib.indexByte s b.toNat.toUInt8) ?_,rfl,rfl⟩
   ·rw[run_callFunc_extern J h1 h2 h3 h4,Lib.run_indexByteString];rfl
   ·have Z:=Lib.indexByte_ge s b.toNat.toUInt8;have O:=aDl s b.toNat.toUInt8;refine⟨by show(-9223372036854775808:Int)<=_;omega,by show _<=(9223372036854775807:Int);rcases O with h|h;omega;subst h;show(-1:Int)<=_;omega⟩
theorem Ww(b:UInt8):b.toNat.toUInt8=b:=kk
theorem VD(s:List UInt8)(b:Int)(H:ab):DE prog 323 [.str s,.int .u8 b] H (.int .i64<|Lib.countByte s b.toNat.toUInt8):=
 aJ8 func323 n2 n2 n2 n2 s b H
theorem VE(s:List UInt8)(b:Int)(H:ab):DE prog 337 [.str s,.int .u8 b] H (.int .i64<|Lib.indexByte s b.toNat.toUInt8):=
 aJ9 func337 n2 n2 n2 n2 s b H
theorem aGb(s:List UInt8)(b:UInt8)(H:ab):aM prog 283 [.str s,.str [b]] H (.int .i64<|Lib.countByte s b):=by
 refine aZ func283 ?_;repeat' first|((first|refine Vl (VD _ _ _) ?_|refine Vm (VD _ _ _) ?_|refine ae ?_);simp only[go_sem])|refine bt ?_|(refine bB ?_ ?_<;>intro h<;>try exact bA h)|fail
 rw[Ww];exact bD<|.refl _
theorem aFj(s:List UInt8)(b:UInt8)(H:ab):aM prog 333 [.str s,.int .u8 b.toNat] H (.int .i64<|Lib.indexByte s b):=by
 refine aZ func333 ?_;repeat' first|((first|refine Vl (VE _ _ _) ?_|refine Vm (VE _ _ _) ?_|refine ae ?_);simp only[go_sem])|refine bt ?_|(refine bB ?_ ?_<;>intro h<;>try exact bA h)|fail
 rw[Ww];exact bD<|.refl _
theorem aFk(s:List UInt8)(b:UInt8)(H:ab):aM prog 324 [.str s,.str [b]] H (.int .i64<|Lib.indexByte s b):=by
 refine aZ func324 ?_;repeat' first|((first|refine cx (aFj _ _) ?_|refine ae ?_);simp only[go_sem])|refine bt ?_|(refine bB ?_ ?_<;>intro h<;>try exact bA h)|fail
 ·have e:[b]=s:=by simpa using h
  subst e;refine bD<|.of ?_;rw[Lib.indexByte,aA kk]
 ·exact bD<|.refl _
theorem aGc(s:List UInt8)(b:UInt8)(H:ab):aM prog 284 [.str s,.str [b]] H (.int .i64<|Lib.indexByte s b):=by
 refine aZ func284 ?_;repeat' first|((first|refine cx (aFk _ _) ?_|refine ae ?_);simp only[go_sem])|refine bt ?_|(refine bB ?_ ?_<;>intro h<;>try exact bA h)|fail
 exact bD<|.refl _
def wV(s:List UInt8)(b:UInt8):I:=match s with
 |[]=>.aQ [.str [],.bool false]
 |c::l=>if c=b then .aQ [.str l,.bool true]else .aQ [.str (c::l),.bool false]
theorem aGd(s:List UInt8)(b:UInt8)(H:ab):aM prog 225 [.str s,.str [b]] H (.bool<|decide (s.head?=some b)):=by
 refine aZ func225 ?_;cases s with
 |nil=>
  repeat' first|(refine ae ?_;simp only[go_sem])|refine bt ?_|(refine bB ?_ ?_<;>intro h<;>try exact bA h)|fail
  exact bD<|.refl _
 |cons c l=>
  repeat' first|(refine ae ?_;simp only[go_sem])|refine bt ?_|(refine bB ?_ ?_<;>intro h<;>try exact bA h)|fail
  have av:decide ((1:Int)<=((l.length+1:Nat):Int))=true:=cK;have al:decide ([c]=[b])=decide ((c::l).head?=some b):=kk
  refine bD<|.of ?_;rw[<-al];exact bU I.bool<|by rw[show((1:Nat):Int)=(1:Int)from rfl,av,sH]
theorem aGe(s:List UInt8)(b:UInt8)(H:ab):aM prog 241 [.str s,.str [b]] H (wV s b):=by
 refine aZ func241 ?_;have ad:=aGd s b;cases s with
 |nil=>
  repeat' first|(refine ae ?_;simp only[go_sem])|refine bt ?_|(refine bB ?_ ?_<;>intro h<;>try exact bA h)|fail
  exact bD<|.refl _
 |cons c l=>
  by_cases h:c=b
  ·rw[cD (by rw[h];rfl)]at ad
   rw[wV,aA h];repeat' first|(refine ae ?_;simp only[go_sem])|refine bt ?_|(refine bB ?_ ?_<;>intro h<;>try exact bA h)|fail
   exact bD<|.refl _
  ·rw[bN (by simp[h])]at ad
   rw[wV,aj h];repeat' first|(refine ae ?_;simp only[go_sem])|refine bt ?_|(refine bB ?_ ?_<;>intro h<;>try exact bA h)|fail
   exact bD<|.refl _
theorem aKa(s:List UInt8)(b:UInt8)(H:ab):aM prog 216 [.str s,.str [b]] H (wV s b):=by
 refine aZ func216 ?_;have ad:=aGe s b;cases s with
 |nil=>
  simp only[wV]at ad ⊢;repeat' first|(refine ae ?_;simp only[go_sem])|refine bt ?_|(refine bB ?_ ?_<;>intro h<;>try exact bA h)|fail
  exact bD<|.refl _
 |cons c l=>
  by_cases h:c=b
  ·simp only[wV,aA h]at ad ⊢;repeat' first|(refine ae ?_;simp only[go_sem])|refine bt ?_|(refine bB ?_ ?_<;>intro h<;>try exact bA h)|fail
   exact bD<|.refl _
  ·simp only[wV,aj h]at ad ⊢;repeat' first|(refine ae ?_;simp only[go_sem])|refine bt ?_|(refine bB ?_ ?_<;>intro h<;>try exact bA h)|fail
   exact bD<|.refl _
@[go_sem] theorem aSG{P:Program}(ts tx:TypeId)(f g:Bool)(es r:List I)(e:I)(H:ab):yj P ts tx (.sl f es) (.sl g (e::r)) H=xB P ts tx (.sl f es) (.sl g (e::r)) H:=by
 cases es with
 |nil=>rfl
 |cons a es=>simp[yj,fa]
def lK(a b:kX):Bool:=zG a.c a.r b.c b.r
def rv(l:List fu)(a:kX):Bool:=l.any λe=>decide<|e.op.at_=a
def iT(a:kX):List fu->List aE->Nat×List aE
 |[],n=>(0,n)
 |e::r,n=>if lK a e.op.at_=true then((iT a r (tl n e.op e.mC)).1+1,(iT a r (tl n e.op e.mC)).2)else(0,n)
def fb:List aX->List fu->List aE->List fu×List aE
 |[],es,n=>(es,n)
 |o::os,es,n=>fb os (es++[⟨o,kh n o⟩])<|dX n o
def fc(g:fC)(o:aX):fC:=
 if b0 o=false then g else if rv g.entries o.at_=true then g else if(200:Int)<=(g.entries.length:Int)then g
 else
  ⟨(fb (o::(g.entries.drop (g.entries.length-(iT o.at_ g.entries.reverse g.nodes).1)).map fu.op) (g.entries.take<|g.entries.length-(iT o.at_ g.entries.reverse g.nodes).1) (iT o.at_ g.entries.reverse g.nodes).2).1,
    (fb (o::(g.entries.drop (g.entries.length-(iT o.at_ g.entries.reverse g.nodes).1)).map fu.op) (g.entries.take<|g.entries.length-(iT o.at_ g.entries.reverse g.nodes).1) (iT o.at_ g.entries.reverse g.nodes).2).2⟩
def nR(g:fC)(o:aX):Int:=
 if b0 o=false then 50 else if rv g.entries o.at_=true then 0 else if(200:Int)<=(g.entries.length:Int)then 193 else 0
def eN:fC->List aX->fC
 |g,[]=>g
 |g,o::os=>eN (fc g o) os
def nW:fC->List aX->Int
 |_,[]=>0
 |g,o::os=>(if nR g o=0 then 0 else 1)+nW (fc g o) os
def dK(g:fC):List aX:=g.entries.map fu.op
theorem aGf(a:kX)(l:List fu)(n:List aE):(iT a l n).1<=l.length:=by
 induction l generalizing n with
 |nil=>simp[iT]
 |cons e l J=>unfold iT;split<;>simp;exact J _
theorem Vn(l:List aE)(o:aX)(u:Bx):(tl l o u).length<=l.length+1:=by
 unfold tl;split
 ·omega
 ·rename_i h;have J:cp l=true:=by
   cases J:cp l with
   |true=>rfl
   |false=>simp[J]at h
  have:=Kf l o.node J;split
  ·have:=Ny l (pos l o.node) (upto l o.node) [u.b1] iV iV;simp at this;omega
  ·have:=Ny l (pos l o.node) (upto l o.node) [] iV iV;simp at this;omega
theorem Pb(l:List aE)(o:aX):(dX l o).length<=l.length+1:=by
 unfold dX;split
 ·omega
 ·rename_i h;have J:cp l=true:=by
   cases J:cp l with
   |true=>rfl
   |false=>simp[refused,J]at h
  have:=Kf l o.node J;have:=Ny l (pos l o.node) (upto l o.node) [je l o] iV iV;simp at this;omega
theorem aFl(a:kX)(l:List fu)(n:List aE):(iT a l n).2.length<=n.length+l.length:=by
 induction l generalizing n with
 |nil=>simp[iT]
 |cons e l J=>
  unfold iT;split
  ·have:=J<|tl n e.op e.mC;have:=Vn n e.op e.mC;simp;omega
  ·simp
theorem VF(l:List aX)(es:List fu)(n:List aE):(fb l es n).2.length<=n.length+l.length/\(fb l es n).1.length=es.length+l.length:=by
 induction l generalizing es n with
 |nil=>simp[fb]
 |cons o l J=>
  unfold fb;have:=J (es++[⟨o,kh n o⟩])<|dX n o;have:=Pb n o;simp at *;omega
theorem Vo(l:List aX)(o:aX)(es:List fu)(n:List aE):fb (l++[o]) es n=((fb l es n).1++[⟨o,kh (fb l es n).2 o⟩],dX (fb l es n).2 o):=by
 induction l generalizing es n with
 |nil=>rfl
 |cons x l J=>rw[iN,fb,J,fb]
structure nT {α:Type} (E:α->I) (s:Nat):Prop where
 e:∀x,E x=.agg (E x).cells
 n:∀x,(E x).cells.length=s
 p:∀x,b6<|E x
 o:∀x,(E x).cells.all I.one=true
theorem nT.t{E:α->I}{s:Nat}(h:nT E s)(x:α):I.agg ((E x).cells.take s)=E x:=by
 rw[<-h.n x,eG,<-h.e]
def De(P:Program)(f:FuncId){α:Type}(E:α->I):Prop:=∀(b:Bool) (l:List α),l.length<=1073741824->∀H,aM P f [.sl b (l.map E)] H (.sl false<|l.map E)
def yp(P:Program)(f:FuncId){α:Type}(E:α->I):Prop:=∀(b:Bool) (l:List α) (fn:Fn) (fs cs:List I) (p:α->Bool) (H:ab),(∀c,x6 P (.func fn fs cs) [E c] H (.bool<|p c))->aM P f [.sl b (l.map E),.func fn fs cs] H (.int .i64<|eT p l)
def Ec(P:Program)(f:FuncId){α:Type}(E:α->I):Prop:=∀(b:Bool) (l:List α) (fn:Fn) (fs cs:List I) (p:α->Bool) (H:ab),(∀c,x6 P (.func fn fs cs) [E c] H (.bool<|p c))->aM P f [.sl b (l.map E),.func fn fs cs] H (.bool<|l.any p)
theorem TM{E:α->I}{s:Nat}(h:∀x,(E x).cells.length=s)(l:List α):∀e∈l.map E,e.cells.length=s:=λe he=>by
 obtain⟨x,_,rfl⟩:=bJ.1 he;exact h x
theorem Kh{E:α->I}(h:∀x,b6<|E x)(l:List α):∀e∈l.map E,b6 e:=λe he=>by
 obtain⟨x,_,rfl⟩:=bJ.1 he;exact h x
theorem GN{P:Program}{f:FuncId}{E:α->I}(s:Nat)(func:P.funcs[f]?=some F)(af:∀x,(E x).cells.length=s:=by exact λ_=>rfl)(ad:∀x,b6 (E x):=by exact λ_=>nb)
  (t:∀E:α->I,P.funcs[f]?=some F->(∀l:List α,(∀e∈l.map E,e.cells.length=s)=True)->(∀l:List α,∀e∈l.map E,b6 e)->De P f E:=by
   intro E func J K b l hl H;refine aZ func ?_;repeat' first|(refine ae ?_;simp only[go_sem])|refine bt ?_|(refine bB ?_ ?_<;>intro h<;>try exact bA h)|fail
   intro c U;cases c with
   |true=>
    have O:l=[]:=by
     cases l with
     |nil=>rfl
     |cons x l=>exact absurd (U kk) l9
    subst O;repeat' first|(refine ae ?_;simp only[go_sem])|refine bt ?_|(refine bB ?_ ?_<;>intro h<;>try exact bA h)|fail
    exact bD<|.sl _ _
   |false=>
    clear U;repeat' first|(refine ae ?_;simp only[go_sem,J])|refine bt ?_|(refine bB ?_ ?_<;>intro h<;>try exact bA h)|fail
    exact uH (cs:=List.flatMap I.cells<|List.map E l) (es:=l.map E) (rest:=[]) (bd _) nb (cA _).symm (by rw[cv]) (of_eq_true<|J _) (K _) rfl):De P f E:=
 t E func (λl=>b5<|TM af l) (Kh ad)
theorem Hg{P:Program}{f:FuncId}{E:α->I}(s:Nat)(func:P.funcs[f]?=some F)(h:nT E s:=by exact⟨λ_=>rfl,λ_=>rfl,λ_=>nb,λ_=>rfl⟩)
  (t:∀E:α->I,P.funcs[f]?=some F->nT E s->yp P f E:=by
   intro E func K b l fn fs cs p H T;refine po λV _=>?_
   have hl:=oi V;rw[cv]at hl;have ah:=K.t;have af:=K.n;refine aZ func ?_;repeat' first|(refine ae ?_;simp only[go_sem])|refine bt ?_|(refine bB ?_ ?_<;>intro h<;>try exact bA h)|fail
   refine cE (ι:=Nat) (λi=>[(0,.sl b<|l.map E),(1,.func fn fs cs),(7,.int .i64 l.length),(8,.int .i64 i)]) (λ_=>H) (λi=>i<=l.length/\∀k (hk:k<i) (O:k<l.length),p l[k]=false) (λi=>l.length-i) 0 ⟨bW _,λk hk=>iV⟩ ?_ rfl ?_
   ·simp[go_sem]
   ·rintro i ⟨hi,J⟩;by_cases U:i<l.length
    ·have ad:=di E U;repeat' first|(refine ae ?_;simp only[go_sem,ad,af,ah])|refine bt ?_|(refine bB ?_ ?_<;>intro h<;>try exact bA h)|fail
     refine Oa (T _) ?_;simp only[go_sem];repeat' first|(refine ae ?_;simp only[go_sem])|refine bt ?_|(refine bB ?_ ?_<;>intro h<;>try exact bA h)|fail
     ·exact bD<|.of (by rw[FU p l i U (λk hk=>J k hk iV) h])
     ·refine⟨i+1,⟨U,λk hk O=>?_⟩,iV,by rw[bI];rfl⟩
      by_cases e:k=i
      ·subst e;exact h
      ·exact J k iV O
    ·have Z:i=l.length:=iV
     repeat' first|(refine ae ?_;simp only[go_sem])|refine bt ?_|(refine bB ?_ ?_<;>intro h<;>try exact bA h)|fail
     subst Z;exact bD<|.of (by rw[FV p l λk hk=>J k hk hk])):yp P f E:=t E func h
theorem Lk{P:Program}{f:FuncId}{E:α->I}{g:FuncId}(func:P.funcs[f]?=some F)(J:yp P g E)
  (t:∀E:α->I,P.funcs[f]?=some F->yp P g E->Ec P f E:=by
   intro E func hi b l fn fs cs p H U;have J:=hi b l fn fs cs p H U;refine aZ func ?_;repeat' first|((first|refine jg J ?_|refine ae ?_);simp only[go_sem])|refine bt ?_|(refine bB ?_ ?_<;>intro h<;>try exact bA h)|fail
   exact bD<|.of (by rw[Jf])):Ec P f E:=t E func J
def aCC:List cu:=[.pure 0,.pure 0,.pure 0,.pure 0,.pure 0,.pure 0,.free,.eff [false,false,false,false,false,false]]
attribute [go_sem] aCC
theorem aFm:De prog 126 dv:=GN 17 func126
theorem Vp:De prog 127 ba:=GN 8 func127
theorem Oe(l:List fu):∀e∈l.map dv,e.cells.length=17:=TM (E:=dv) (λ_=>rfl) l
theorem TN(l:List fu):(∀e∈l.map dv,e.cells.length=17)=True:=b5<|Oe l
theorem aDr:yp prog 210 dv:=Hg 17 func210
theorem aIp:Ec prog 177 dv:=Lk func177 aDr
theorem Yk(aO bo:Bool)(g:fC)(h1:g.entries.length<=1073741824)(h2:g.nodes.length<=1073741824)(H:ab):aM prog 76 [om aO bo g] H (CQ g):=by
 refine aZ func76 ?_;have J:=aFm aO g.entries h1;have U:=Vp bo g.nodes h2;simp only[om];repeat' first|((first|refine mx [1] aCC ?_|refine ae ?_);simp only[go_sem])|refine ao ?_|fail
 exact aV<|.refl _
theorem aKb(e:fu)(a:kX)(H:ab)(i:Nat)(hi:ay H i=.cells 0 [.int .i64 a.c,.int .i64 a.r]):aM prog 178 [dv e,.ref i 0 0] H (.bool<|decide (e.op.at_=a)):=by
 refine aZ func178 ?_;simp only[dv];have J:=λL=>b3 hi trivial L
 refine hH ?_;exact aV<|.of (by rw[XL])
theorem Yr(aO bo:Bool)(g:fC)(a:kX)(H:ab):aM prog 128 [om aO bo g,C6 a] H (.bool<|rv g.entries a):=by
 refine aZ func128 ?_;have J:=λH i (hi:ay H i=.cells 0 [.int .i64 a.c,.int .i64 a.r])=>aIp aO g.entries (.func 178) [] [.ref i 0 0] (λe=>decide<|e.op.at_=a) H (λe=>.mk (first:=[]) (λL=>aKb e a (H++L) i<|b3 hi trivial L) aK)
 simp only[om,C6];repeat' first|((first|refine hY (J _ _ nb) aK ?_|refine kf (J _ _ nb) aK ?_|refine kg (λ_=>J _ _ nb) aK ?_|refine ae ?_);simp only[go_sem])|refine ao ?_|fail
 exact aV<|.refl _
theorem Ys(a b:fu):(decide (a.op=b.op)&&((a.mC.rW==b.mC.rW)&&((a.mC.hq==b.mC.hq)&&decide (a.mC.b1=b.mC.b1))))=decide (a=b):=by
 obtain⟨_,_,_,_⟩:=a;obtain⟨_,_,_,_⟩:=b;rw[pf];simp
theorem aIq(aO bo hG gW:Bool)(g k:fC)(H:ab):aM prog 35 [om aO bo g,om hG gW k] H (.bool<|decide (g=k)):=by
 refine po λU _=>?_
 have hl:=oi<|XH U (.sl aO (g.entries.map dv)) kk
 rw[cv]at hl;refine aZ func35 ?_;simp only[om];repeat' first|(refine ae ?_;simp only[go_sem])|refine bt ?_|(refine bB ?_ ?_<;>intro h<;>try exact bA h)|fail
 ·exact aV<|.of (by rw[bN (λe=>by subst e;simp at h)])
 ·have hlen:g.entries.length=k.entries.length:=by simp at h;omega
  refine cE (ι:=Nat) (λi=>[(2,.ref H.length 0 0),(3,.ref (H.length+1) 0 0),(5,.int .i64 i)]) (λ_=>H++[.cells 0 [.sl aO (g.entries.map dv),.sl bo<|g.nodes.map ba],.cells 0 [.sl hG (k.entries.map dv),.sl gW<|k.nodes.map ba]]) (λi=>i<=g.entries.length/\g.entries.take i=k.entries.take i) (λi=>g.entries.length-i) 0 ⟨bW _,rfl⟩ ?_ rfl ?_
  ·simp[go_sem]
  ·rintro i ⟨hi,he⟩;by_cases J:i<g.entries.length
   ·have ad:=di dv J;have aJ:=di dv<|show i<k.entries.length by omega
    repeat' first|(refine ae ?_;simp only[go_sem,ad,aJ,dv])|refine bt ?_|(refine bB ?_ ?_<;>intro h<;>try exact bA h)|fail
    ·rw[KY,KX,Ys]at h;have K:g.entries[i]≠k.entries[i]:=by simpa using h
     exact aV<|.of (by rw[bN (λe=>K (by subst e;rfl))])
    ·rw[KY,KX,Ys]at h;have heq:g.entries[i]=k.entries[i]:=by simpa using h
     exact⟨i+1,⟨J,by rw[fj J,fj iV,he,heq]⟩,iV,bU _<|dA J hl⟩
   ·have O:i=g.entries.length:=iV
    subst O;repeat' first|((first|refine cx (Wq _ _ _ _) ?_|refine ae ?_);simp only[go_sem])|refine ao ?_|fail
    refine aV<|.of ?_;rw[eG,hlen,eG]at he;obtain⟨ge,T⟩:=g;obtain⟨V,Z⟩:=k;simp only at he;subst he;congr 1;rw[pf];simp
theorem aKc(b:Bool)(l:List aE)(o:aX)(u:Bx)(hl:l.length<=1000000000)(H:ab):aM prog 130 [.sl b (l.map ba),bh o,xS u] H (.sl false<|(tl l o u).map ba):=by
 refine aZ func130 ?_;have z:=Wu b l hl;simp only[bh,xS];cases J:cp l with
 |false=>
  have T:(!cp l|| !u.rW)=true:=by simp[J]
  rw[tl,aA T];repeat' first|((first|refine cx (lN _ _) ?_|refine ae ?_);simp only[go_sem,J])|refine ao ?_|fail
  exact aV<|.refl _
 |true=>
  cases hd:u.rW with
  |false=>
   have T:(!cp l|| !u.rW)=true:=by simp[hd]
   rw[tl,aA T];repeat' first|((first|refine cx (lN _ _) ?_|refine ae ?_);simp only[go_sem,J,hd])|refine ao ?_|fail
   exact aV<|.refl _
  |true=>
   have T:¬(!cp l|| !u.rW)=true:=by simp[J,hd]
   have ek:=Kg b l o.node J;have I:=Pw b true l;have V:=Kf l o.node J;rw[tl,aj T];cases aJ:(fV o.node&&u.hq&&decide (u.b1.id=o.node))with
   |true=>
    rw[aA rfl];have K:=I [u.b1] (pos l o.node) (upto l o.node) V.1 V.2 nX
    simp only[dz,hj,ba]at K;cases U:hq l o.node with
    |true=>
     have Z:=v8 J U;have hw:=dA Z<|show l.length<=9223372036854775807 by omega
     have O:upto l o.node=pos l o.node+1:=by rw[upto,aA U]
     rw[O]at K ⊢;repeat' first|((first|refine cx (lN _ _) ?_|refine cx (yo _) ?_|refine ae ?_);simp only[go_sem,J,hd,U,hw,aJ])|refine ao ?_|fail
     exact aV<|.refl _
    |false=>
     have O:upto l o.node=pos l o.node:=by rw[upto,aj<|by rw[U];decide]
     rw[O]at K ⊢;repeat' first|((first|refine cx (lN _ _) ?_|refine cx (yo _) ?_|refine ae ?_);simp only[go_sem,J,hd,U,aJ])|refine ao ?_|fail
     exact aV<|.refl _
   |false=>
    rw[aj l9]
    have K:=I [] (pos l o.node) (upto l o.node) V.1 V.2 nX
    simp only[hj]at K;cases U:hq l o.node with
    |true=>
     have Z:=v8 J U;have hw:=dA Z<|show l.length<=9223372036854775807 by omega
     have O:upto l o.node=pos l o.node+1:=by rw[upto,aA U]
     rw[O]at K ⊢;repeat' first|((first|refine cx (lN _ _) ?_|refine cx (yo _) ?_|refine ae ?_);simp only[go_sem,J,hd,U,hw,aJ])|refine ao ?_|fail
     exact aV<|.refl _
    |false=>
     have O:upto l o.node=pos l o.node:=by rw[upto,aj<|by rw[U];decide]
     rw[O]at K ⊢;repeat' first|((first|refine cx (lN _ _) ?_|refine cx (yo _) ?_|refine ae ?_);simp only[go_sem,J,hd,U,aJ])|refine ao ?_|fail
     exact aV<|.refl _
theorem bp.SB(U:bp c H){v:Nat}(V:ay H i=.cells v cs)(Z:fL c i (.cells v bk)):bp c (ar H i<|.cells v bk):=by
 have ay:∀{j:Nat} {b:bE},(ar H i (.cells v bk))[j]?=some b->(j=i/\b=.cells v bk)\/(j≠i/\H[j]?=some b):=by
  intro j b J;by_cases e:j=i
  ·grind [ar,rH]
  ·rw[ar,gC λq=>e q.symm]at J
   exact .inr ⟨e,J⟩
 have O:∀{j:Nat} {b:bE},(ar H i (.cells v bk))[j]?=some b->b.live->∃T,H[j]?=some T/\T.live:=by
  intro j b J K;rcases ay J with⟨rfl,rfl⟩|⟨_,h⟩
  ·exact⟨_,(kG V trivial),trivial⟩
  ·exact⟨_,h,K⟩
 refine⟨U.jX,by simp[ar,U.n],U.lt,λj k b T J hk K I eH z he=>?_,λk hk=>?_,λj b J=>?_⟩
 ·obtain⟨aO,g1,g2⟩:=O J K;obtain⟨bo,g3,g4⟩:=O hk I;exact U.inj j k aO bo g1 g3 g2 g4 eH z he
 ·obtain⟨h1,h2⟩:=U.st k hk;refine⟨h1,λj b J K eH=>?_⟩
  obtain⟨aO,g1,g2⟩:=O J K;exact h2 j aO g1 g2 eH
 ·rcases ay J with⟨rfl,rfl⟩|⟨_,h⟩
  ·exact Z
  ·exact U.rep j b h
theorem fL.aBv{c':Ctx}{v:Nat}(K:fL c i (.cells v cs))(h1:c'.a1 i=c.a1 i)(h2:c'.cO i=c.cO i)(h3:c'.bl i=c.bl i)(h4:c'.w=c.w)(hl:cs.length=bk.length)
  (hs:∀(i:Nat) (x y),cs[i]?=some x->bk[i]?=some y->∀v,aI c x v->aI c' y v):fL c' i (.cells v bk):=by
 cases K with
 |cells _ _ vs e O aP T I z V Z=>
  refine .cells _ _ vs e O kr kr kr iV V λm y u U hu=>?_
  have gi:=(cj.1 U).1;have J:cs[m]?=some (cs[m]'(_)):=da iV
  exact hs m _ y J U u<|Z m _ u J hu
 |void _ aP T=>
  have:=iO<|by simpa using hl.symm
  subst this;exact .void _ iV kr
theorem bp.aRE(J:bp c H){v:Nat}(U:ay H i=.cells v cs)(hl:cs.length=bk.length)(hs:∀(i:Nat) (x y),cs[i]?=some x->bk[i]?=some y->∀v,aI c x v->aI c y v):bp c (ar H i<|.cells v bk):=
 J.SB U ((J.rep i _ (kG U trivial)).aBv rfl rfl rfl rfl hl hs)
theorem aIr{α:a7}(i b p:Nat){v vb s lc:Nat}{bs:List I}(es rest:List I)(Z:b≠i)(z:ay H i=.cells v cs)(ad:cs[p]?=some (.osl s b vb 0 es.length lc))(aa:ay H b=.cells vb bs)(aG:vb≠0)
  (hI:bs=es.flatMap I.cells++rest) (hs:∀e∈es,e.cells.length=s) (h:cI P N code Q α (ar (ar H b .gone) i<|.cells v (cs.set p (.sl false es)))):cI P N code Q α H:=by
 intro r c a K O T;have J:=Ext.stop c b;have Ml:¬i=b:=λe=>Z e.symm
 refine wpIn_mono (h r (c.stop b) a K ((O.stop aa aG).SB (bY z Z .gone) ((O.rep i _ (kG z trivial)).aBv (by simp[Ctx.stop,Ml]) (by simp[Ctx.stop,Ml]) rfl rfl kk λk x y V U u K=>?_)) ⟨T.size,T.defers.mono J,λt=>(T.rep t).mono J⟩)
  λ_ _ _ ⟨c',cG,H',av,al,aY,bu,b9⟩=>⟨c',cG,H',av,al,J.trans aY,bu,b9⟩
 by_cases e:k=p
 ·subst e;rw[rH (cj.1 ad).1]at U;cases U;rw[ad]at V;cases V;exact VR O aa rest hI hs K
 ·rw[gC (λq=>e q.symm)]at U
  rw[V]at U;cases U;exact K.mono J
theorem fL.pre{v:Nat}{rest:List I}(K:fL c i (.cells v<|cs++rest)):fL c i (.cells v cs):=by
 generalize J:cs++rest=xs at K;cases K with
 |cells _ _ vs e O aP U T z V Z=>
  refine .cells _ _ vs e O aP U T kr V λm y u aH hu=>Z m y u ?_ hu
  grind
 |void _ aP U=>
  have:=(List.append_eq_nil_iff.1 J).1;subst this;exact .void _ aP U
theorem dp.Td{f:FuncId}{v:Nat}{x:I}(hi:i<H.length)(h:dp P f args H (λr H'=>∃rest,r=x/\H'=ar H i (.cells v<|cs++rest))):dp P f args H (λr H'=>r=x/\H'=ar H i (.cells v cs)):=by
 intro c vs hs O;refine(h c vs hs O).mono λe w' ⟨c',y,val,H',av,al,J,T,V,rest,Z,U⟩=>⟨c',y,val,ar H' i<|.cells v cs,av,al,?_,T,V,Z,by rw[U,jS]⟩
 have K:ay H' i=.cells v (cs++rest):=by rw[U];exact dR hi _
 exact J.SB K (J.rep i _<|kG K trivial).pre
theorem p6{f:FuncId}{v:I}{K:I->ab->Prop}(h:dp P f args H (λx H'=>x=v/\H'=H1))(ok:kF P f=true)(hk:K v H1):DZ P true (.func (.func f) [] []) args H K:=
 ⟨v,H1,λ_=>Or.inl ⟨ok,kr⟩,λh=>kr,hk⟩
def BS(n:Nat)(G A H1:ab)(H:ab):Prop:=∀(k:Nat) (a b:bE),A[k]?=some a->H1[k]?=some b->(a=b/\(H[k]?=some b\/ep n b))\/∃a1 cs bk,a=.cells a1 cs/\b=.cells a1 bk/\cs.length=bk.length/\∀(m:Nat) (x y:I),cs[m]?=some x->bk[m]?=some y->cL n G x y
theorem bp.oP{A L:ab}(af:n=A.length)(T:bp c (A++L))(hl:H1.length=A.length)(dV:∀(i:Nat) (b:bE),H[i]?=some b->ep n b)(Z:BS n (A++L) A H1 H):bp (c.drop n) H1:=by
 have get:∀{i:Nat} {b:bE},H1[i]?=some b->∃a,A[i]?=some a/\(A++L)[i]?=some a/\(b.live->a.live):=by
  intro i b hi;have h1:=(cj.1 hi).1;have aF:A[i]?=some (A[i]'(by omega)):=da iV
  refine⟨_,aF,kr,λV=>?_⟩
  rcases Z i _ b aF hi with⟨e, -⟩|⟨a1,cs,bk,av, -⟩
  ·rw[e];exact V
  ·rw[av];trivial
 refine⟨T.jX.drop n,by rw[hl];exact af,λi hi hd=>?_,λi j b cB hi I V ew fF eH he=>?_,λk hk=>?_,λi b hi=>?_⟩
 ·have cF:i<n:=hi;exact T.lt i (by rw[T.n];simp;omega) hd
 ·obtain⟨a, -,a2,a3⟩:=get hi;obtain⟨gM, -,aCU,aCV⟩:=get I;exact T.inj i j a gM a2 aCU (a3 V) (aCV ew) fF eH he
 ·have hJ:=T.n;rw[bF]at hJ;rcases hk with hk|⟨i,h1,h2,h3,rfl⟩
  ·obtain⟨aP,aR⟩:=T.st k hk;refine⟨aP,λj b I V hd=>?_⟩
   obtain⟨a, -,a2,a3⟩:=get I;exact aR j a a2 (a3 V) hd
  ·refine⟨T.lt i h2 h3,λj b I V hd e=>?_⟩
   obtain⟨a,c3,a2,a3⟩:=get I;have nz:=(cj.1 c3).1;have ak:i<(A++L).length:=by rw[bF];omega
   have hi:=da ak;by_cases yM:((A++L)[i]).live
   ·have:=T.inj j i a _ a2 hi (a3 V) yM hd h3 e;omega
   ·have O:=T.rep i _ hi;generalize(A++L)[i]=bi at O yM;cases O with
    |gone gJ=>rw[h3]at gJ;cases gJ
    |_=>exact yM trivial
 ·obtain⟨a,c3,a2, -⟩:=get hi;have h1:=T.rep i a a2;rcases Z i a b c3 hi with⟨e,V⟩|⟨a1,cs,bk,av,al,aY,bu⟩
  ·subst e;have h2:=V.elim (dV i a) id;cases h1 with
   |cells a1 cs vs e bT U hd K hl Z O=>exact .cells a1 cs vs e bT U hd K hl Z λj x v J z=>(O j x v J z).drop<|h2 x (ds J)
   |void a1 U hd=>exact .void a1 U hd
   |c5 t a1 cs vs U hd K hl aT O=>exact .c5 t a1 cs vs U hd K hl aT λj x v J z=>(O j x v J z).drop<|h2 x (ds J)
   |pQ t a1 U hd=>exact .pQ t a1 U hd
   |map es clock cZ U hd K hl O=>exact .map es clock cZ U hd K hl λj p e ad he=>let⟨g1,g2,g3⟩:=O j p e ad he;let⟨aP,aR⟩:=h2 p<|ds ad;⟨g1.drop aP,g2.drop aR,g3⟩
   |iI m since seen kU U hd hm yR E0 K=>exact .iI m since seen kU U hd h2 yR E0 K
   |mB s pos U hd K h7=>exact .mB s pos U hd K h7
   |loop l α N st ic ps ns dS fn D ts U hd hl K eU O=>exact .loop l α N st ic ps ns dS fn D ts U hd hl K eU λt=>(O t).drop<|h2 t
   |gone hd=>exact .gone hd
  ·subst av;subst al;cases h1 with
   |cells _ _ vs e bT U hd K hl Z O=>
    refine .cells a1 bk vs e bT U hd K iV Z λj y v aH z=>?_
    have ak:=(cj.1 aH).1;have J:cs[j]?=some (cs[j]'(by omega)):=da iV
    exact(bu j _ y J aH).sound T<|O j _ v J z
   |void _ U hd=>
    have:=iO<|by simpa using aY.symm
    subst this;exact .void a1 U hd
theorem aEk{f:FuncId}(U:P.funcs[f]?=some fn)(K:fn.body=some code)(af:args.length<=fn.ntmps)
  (h:cI P fn.ntmps code (qJ P fn.results.toList λv H'=>∃A L H1 y,H'=A++L/\A.length=H.length/\H1.length=H.length/\BS H.length H' A H1 H/\cL H.length H' v y/\R y H1) (qb 0 args) H):dp P f args H R:=by
 intro c vs hs O;refine(ID U K af h c vs hs O).mono λe w' ⟨c',x,v,H',av,al,J,T,V,A,L,H1,y,Z,I,p9,z,EA,LK⟩=>?_
 subst Z;refine⟨c'.drop c.n,y,v,H1,av,al,bp.oP (by rw[hs.n,I]) J kr (λi b hi=>hs.Hu hi) (by rw[hs.n];exact z),T.drop,?_,LK⟩
 have:=EA.sound J V;rwa[<-hs.n]at this
theorem GZ{P:Program}{f:FuncId}(J:P.funcs[f]?=some fn)
  (h:cI P fn.ntmps code (qJ P fn.results.toList λv H'=>∃A L H1 y,H'=A++L/\A.length=H.length/\H1.length=H.length/\BS H.length H' A H1 H/\cL H.length H' v y/\R y H1) (qb 0 args) H) (U:fn.body=some code:=by rfl) (af:args.length<=fn.ntmps:=by exact Gg rfl):dp P f args H R:=aEk J U af h
theorem aGg(J:bp c H)(s)(h:aI c.void (.sl true []) v):aI c.void (.osl s H.length 1 0 0 0) v:=by
 cases h with
 |sl _ _ base len cap K vs h1 h2 h3 h4 O T V=>
  have U:=h3 rfl;subst h1;subst U;exact .osl _ _ _ _ _ _ _ (by simp[Ctx.void,J.n]) (by simp[Ctx.void,J.n]) rfl iV (λ_ _=>⟨rfl,rfl,base,rfl⟩) λ_ hd=>by simp[Ctx.void,J.n]at hd
theorem AX{α:a7}(i j s:Nat){v:Nat}(I:ay H i=.cells v cs)(T:cs[j]?=some (.sl true []))
  (h:cI P N code Q α (ar (H++[.cells 1 []]) i<|.cells v (cs.set j (.osl s H.length 1 0 0 0)))):cI P N code Q α H:=by
 intro r c a U V K;have O:=Ext.void c;refine wpIn_mono (h r c.void a U (V.void.aRE (b3 I trivial [.cells 1 []]) kk λk x y J Z v U=>?_) ⟨K.size,K.defers.mono O,λu=>(K.rep u).mono O⟩) λ_ _ _ ⟨c',z,H',av,al,aY,bu,b9⟩=>⟨c',z,H',av,al,O.trans aY,bu,b9⟩
 by_cases e:k=j
 ·subst e;rw[rH (cj.1 T).1]at Z;cases Z;rw[T]at J;cases J;exact aGg V s U
 ·grind
def NT(P:Program)(f:FuncId)(args:List I)(H:ab)(X:Value->ab->Prop):Prop:=
 ∀(c:Ctx) (vs:Array Value),bp c H->sN c args vs->
  Calls P f vs c.w (λe w'=>∃c' v H',e=.panicked [{v:=v,recovered:=false}]/\c'.w=w'/\bp c' H'/\Ext c c'/\X v H')
theorem NT.mono{f:FuncId}{args:List I}{H:ab}{X Y:Value->ab->Prop}(h:NT P f args H X)(k:∀v H',X v H'->Y v H'):NT P f args H Y:=
 λc vs hs J=>(h c vs hs J).mono λ_ _ ⟨c',v,H',a,b,d,e,f⟩=>⟨c',v,H',a,b,d,e,k v H' f⟩
def YY(X:Value->ab->Prop):cX
 |.panic nZ,_,H=>∃v,nZ=[{v:=v,recovered:=false}]/\X v H
 |_,_,_=>False
section
variable (X:Value->ab->Prop) (α:a7) (H:ab)
variable (Q:cX) (N:Nat) (y:Code) (nZ:List PanicEntry)
@[go_sem] theorem aTh:wP P N y Q (.panic nZ) α H=Q (.panic nZ) α H:=rfl
@[go_sem] theorem aT6(v:Value):YY X (.panic [{v:=v,recovered:=false}]) α H=X v H:=by simp[YY]
end
def Pr{ι:Type}(l:Nat)(F:ι->a7)(e6:ι->ab)(pre:ι->Prop)(Q:cX):cX
 |.goto ia,α,H=>ia=l/\∃y,pre y/\yn (F y) α/\H=e6 y
 |e,α,H=>Q e α H
def Yt{ι:Type}(l:Nat)(F:ι->a7)(e6:ι->ab)(pre:ι->Prop)(m:ι->Nat)(x:ι)(Q:cX):cX:=Pr l F e6 (λy=>pre y/\m y<m x) Q
section
variable {ι:Type} (l:Nat) (F:ι->a7) (e6:ι->ab) (pre:ι->Prop) (m:ι->Nat) (x:ι) (Q:cX) (α:a7) (H:ab)
@[go_sem] theorem aUP:Pr l F e6 pre Q .ret α H=Q .ret α H:=rfl
attribute [go_sem] Yt
end
theorem Wx{l:Nat}{α:a7}(h:Q (.goto l) α H):cI P N (.goto l) Q α H:=
 λ_ c _ _ hs J=>wpIn_goto ⟨c,α,H,rfl,hs,Ext.refl c,J,h⟩
theorem aCX{rest:Code}{α:a7}{ι:Type}(l:Nat)(F:ι->a7)(e6:ι->ab)(pre:ι->Prop)(m:ι->Nat)(ax:findLabel code l=some rest)(dH:tV rest=true)
  (first:cI P N code (Pr l F e6 pre Q) α H) (pass:∀x,pre x->cI P N rest (Yt l F e6 pre m x Q) (F x) (e6 x)):cI P N (.scope code) Q α H:=by
 intro r c a az hs aF b k cs AF aa qo;have aL:gotoIn l (.inScope code::k)=some (.code rest::.inScope code::k):=by simp[gotoIn,ax]
 have I:step P (lone (b.atR a (.code (.scope code)::k)) cs c.w)=.next (lone (b.atR a (.code code::.inScope code::k)) cs c.w):=step_lone_go<|rfl;have s1:∀(a) (w),step P (lone (b.atR a (.inScope code::k)) cs w)=.next (lone (b.atR a k) cs w):=λa w=>step_lone_go<|rfl
 have key:∀n x (c₁) (a),m x=n->pre x->bp c₁ (e6 x)->Ext c c₁->kD c₁ N (F x) a->
   ∃e gM w',wS N c Q e gM w'/\ArrivesIn (Machine.fenced P<|wf r) P (lone (b.atR a (.code rest::.inScope code::k)) cs c₁.w) b k cs e gM w':=by
  intro n;induction n using Nat.strongRecOn with
  |_ n aB=>
   intro x c₁ a af J hs z aF;obtain⟨e,K,pS,⟨c₂,V,Z,av,al,O,T,aJ⟩,U⟩:=pass x J r c₁ a (.inr dH) hs aF b (.inScope code::k) cs AF aa qo;subst av;cases e with
   |normal=>exact⟨.normal,K,c₂.w,⟨c₂,V,Z,rfl,al,z.trans O,T,aJ⟩,StepsIn.trans U<|.one (fenced_calm aa qo rfl) (s1 _ _)⟩
   |exit id=>exact⟨.exit id,K,c₂.w,⟨c₂,V,Z,rfl,al,z.trans O,T,aJ⟩,λk' hk=>U.1 k' (by simp[exitTo,hk]),λh6 hk=>U.2 h6<|by simp[exitTo,hk]⟩
   |goto ia=>
    obtain⟨rfl,y,⟨aH,ak⟩,AG,rfl⟩:=aJ;obtain⟨HA,Qi,TF,Iq,HQ⟩:=aB _ iV y c₂ K rfl aH al (z.trans O)<|T.weaken (s4 AG)
    exact⟨HA,Qi,TF,Iq,.of_steps (U.1 _ aL) HQ⟩
   |ret=>exact⟨_,K,c₂.w,⟨c₂,V,Z,rfl,al,z.trans O,T,aJ⟩,U⟩
   |panic nZ=>exact⟨_,K,c₂.w,⟨c₂,V,Z,rfl,al,z.trans O,T,aJ⟩,U⟩
   |outgrown=>exact⟨_,K,c₂.w,⟨c₂,V,Z,rfl,al,z.trans O,T,aJ⟩,U⟩
 have aw:(lone (b.atR a (.code (.scope code)::k)) cs c.w).fenced P (wf r):=fenced_calm aa qo rfl;obtain⟨e,K,pS,⟨c₂,V,Z,av,al,O,T,aJ⟩,U⟩:=first r c a (az.imp_right λh=>h) hs aF b (.inScope code::k) cs AF aa qo
 subst av;cases e with
 |normal=>exact⟨.normal,K,c₂.w,⟨c₂,V,Z,rfl,al,O,T,aJ⟩,.head aw I<|StepsIn.trans U (.one (fenced_calm aa qo rfl) (s1 _ _))⟩
 |exit id=>exact⟨.exit id,K,c₂.w,⟨c₂,V,Z,rfl,al,O,T,aJ⟩,λk' hk=>.head aw I<|U.1 k' (by simp[exitTo,hk]),λh6 hk=>let⟨k₁,h1,h2⟩:=U.2 h6 (by simp[exitTo,hk]);⟨k₁,h1,.head aw I h2⟩⟩
 |goto ia=>
  obtain⟨rfl,y,aH,AG,rfl⟩:=aJ;obtain⟨HA,Qi,TF,Iq,HQ⟩:=key _ y c₂ K rfl aH al O<|T.weaken (s4 AG);exact⟨HA,Qi,TF,Iq,.of_steps (.one aw I)<|.of_steps (U.1 _ aL) HQ⟩
 |ret=>exact⟨_,K,c₂.w,⟨c₂,V,Z,rfl,al,O,T,aJ⟩,.of_steps (.one aw I) U⟩
 |panic nZ=>exact⟨_,K,c₂.w,⟨c₂,V,Z,rfl,al,O,T,aJ⟩,.of_steps (.one aw I) U⟩
 |outgrown=>exact⟨_,K,c₂.w,⟨c₂,V,Z,rfl,al,O,T,aJ⟩,.of_steps (.one aw I) U⟩
theorem aGh{s:ag}{n:aE}{m:List (ag×aE)}{p:ag×aE}(h:p∈hU s n m):p.2=n\/p∈m:=by
 induction m with
 |nil=>simp[hU]at h;left;rw[h]
 |cons q m J=>
  obtain⟨k,x⟩:=q;unfold hU at h;split at h
  ·rcases cU.1 h with rfl|h
   ·exact .inl rfl
   ·exact .inr<|lU _ h
  ·rcases cU.1 h with rfl|h
   ·exact .inr kk
   ·rcases J h with h|h
    ·exact .inl h
    ·exact .inr<|lU _ h
theorem aFn{s:ag}{n:aE}{m:List (ag×aE)}(h:ht s m=some n):∃p∈m,p.2=n:=by
 induction m with
 |nil=>cases h
 |cons q m J=>
  obtain⟨k,x⟩:=q;unfold ht at h;split at h
  ·exact⟨(k,x),kk,by simpa using h⟩
  ·obtain⟨p,ad,e⟩:=J h;exact⟨p,lU _ ad,e⟩
theorem Jp(l:List aE)(dir:Int):∀p∈fz l dir,p.2∈l/\pI dir p.2=true:=by
 suffices h:∀(k l:List aE) (m:List (ag×aE)),(∀p∈m,p.2∈l/\pI dir p.2=true)->(∀n∈k,n∈l)->∀p∈k.foldl (mi dir) m,p.2∈l/\pI dir p.2=true from h l l [] (λp ad=>by cases ad) (λn af=>af)
 intro k;induction k with
 |nil=>intro l m hm _;exact hm
 |cons x k U=>
  intro l m hm hk;refine U l (mi dir m x) (λp ad=>?_) λn af=>hk n (lU _ af)
  unfold mi at ad;split at ad
  ·rename_i J;unfold rQ at ad;have hs:∀p∈hU x.name x m,p.2∈l/\pI dir p.2=true:=λp ad=>by
    rcases aGh ad with e|h
    ·rw[e];exact⟨hk x kk,J⟩
    ·exact hm p h
   split at ad
   ·exact hs p ad
   ·split at ad
    ·exact hm p ad
    ·exact hs p ad
  ·exact hm p ad
theorem FC{l:List aE}{dir:Int}{s:ag}{n:aE}(h:fx l dir s=some n):cp l=true/\n∈l/\n.parent=dir:=by
 unfold fx at h;split at h
 ·rename_i J;obtain⟨p,ad,e⟩:=aFn h;obtain⟨h1,h2⟩:=Jp l dir p ad;rw[e]at h1 h2;unfold pI at h2;rw[cV,gU]at h2;exact⟨J,h1,h2.1⟩
 ·cases h
section
open Go.ChangeShapes Go.WideShapes Go.ChangeAt Go.RowKit
variable {P:Program}
def pt(P:Program)(t:TypeId):Bool:=
 match P.underlying t with
 |some (.struct _)|some (.array _ _)=>true
 |_=>false
def nI(P:Program)(t:TypeId)(ys:List I):I:=if pt P t=true then .agg ys else ys.headD .top
def Ll(P:Program):Nat->List Field->Bool
 |_,[]=>true
 |off,f::fs=>(f.offset==off)&&Ll P (off+P.cellsOf f.type) fs
def wa(P:Program):Nat->List Field->Nat
 |off,[]=>off
 |off,f::fs=>wa P (off+P.cellsOf f.type) fs
def rl(P:Program)(t:TypeId):Bool:=
 match P.underlying t with
 |some .bool|some (.int _)|some .string=>true
 |some (.slice e)=>(P.cellsOf e !=0)&&(pt P e||(P.cellsOf e==1))
 |some (.struct fs)=>Ll P 0 fs.toList&&(wa P 0 fs.toList==P.cellsOf t)
 |_=>false
mutual
inductive kd (P:Program):TypeId->List I->Prop
 |bool (t:TypeId) (b:Bool) (h:P.underlying t=some .bool):kd P t [.bool b]
 |int (t:TypeId) (k:IntKind) (n:Int) (h:P.underlying t=some (.int k)) (hw:(Lit.int k n).wf=true):kd P t [.int k n]
 |str (t:TypeId) (s:List UInt8) (h:P.underlying t=some .string) (hl:s.length<=maxLen):kd P t [.str s]
 |slice (t e:TypeId) (nk:List (List I)) (h:P.underlying t=some (.slice e)) (hl:nk.length<=maxLen) (aT:∀z∈nk,kd P e z) (au:∀z∈nk,z.length=P.cellsOf e):kd P t [.sl false (nk.map<|nI P e)]
 |struct (t:TypeId) (fs:Array Field) (ys:List I) (h:P.underlying t=some (.struct fs)) (ax:yb P fs.toList ys):kd P t ys
 |other (t:TypeId) (ys:List I) (h:rl P t=false) (aH:∀y∈ys,y=.top):kd P t ys
inductive yb (P:Program):List Field->List I->Prop
 |nil:yb P [] []
 |cons (f:Field) (fs:List Field) (z ys:List I) (h:kd P f.type z) (hs:yb P fs ys):yb P (f::fs) (z++ys)
end
theorem G8{t:TypeId}{k:IntKind}(ah:P.underlying t=some (.int k))(h:kd P t ys):∃n,ys=[.int k n]/\(Lit.int k n).wf=true:=by
 cases h with
 |bool _ _ h=>rw[ah]at h;cases h
 |int _ _ n h hw=>grind
 |str _ _ h=>rw[ah]at h;cases h
 |slice _ _ _ h=>rw[ah]at h;cases h
 |struct _ _ _ h=>rw[ah]at h;cases h
 |other _ _ h _=>rw[rl,ah]at h;cases h
theorem Hh{t:TypeId}(ah:P.underlying t=some .string)(h:kd P t ys):∃s,ys=[.str s]/\s.length<=maxLen:=by
 cases h with
 |bool _ _ h=>rw[ah]at h;cases h
 |int _ _ _ h=>rw[ah]at h;cases h
 |str _ s _ hl=>exact⟨s,rfl,hl⟩
 |slice _ _ _ h=>rw[ah]at h;cases h
 |struct _ _ _ h=>rw[ah]at h;cases h
 |other _ _ h _=>rw[rl,ah]at h;cases h
theorem aGi{t e:TypeId}(ah:P.underlying t=some (.slice e))(hk:rl P t=true)(h:kd P t ys):
  ∃J:List (List I),ys=[.sl false (J.map<|nI P e)]/\J.length<=maxLen/\∀z∈J,kd P e z:=by
 cases h with
 |bool _ _ h=>rw[ah]at h;cases h
 |int _ _ _ h=>rw[ah]at h;cases h
 |str _ _ h=>rw[ah]at h;cases h
 |slice _ _ J h hl U=>grind
 |struct _ _ _ h=>rw[ah]at h;cases h
 |other _ _ h _=>rw[hk]at h;cases h
theorem Xt{t:TypeId}{fs:Array Field}(ah:P.underlying t=some (.struct fs))(hk:rl P t=true)(h:kd P t ys):yb P fs.toList ys:=by
 cases h with
 |bool _ _ h=>rw[ah]at h;cases h
 |int _ _ _ h=>rw[ah]at h;cases h
 |str _ _ h=>rw[ah]at h;cases h
 |slice _ _ _ h=>rw[ah]at h;cases h
 |struct _ _ _ h J=>rw[ah]at h;cases h;exact J
 |other _ _ h=>rw[hk]at h;cases h
theorem Yl(h:yb P [] ys):ys=[]:=by cases h;rfl
theorem zj{f:Field}{fs:List Field}(h:yb P (f::fs) ys):∃z J,ys=z++J/\kd P f.type z/\yb P fs J:=by
 cases h with
 |cons _ _ z J h hs=>exact⟨z,J,rfl,h,hs⟩
def qK(c:Ctx)(ys:List I)(cs:List Value):Prop:=ys.length=cs.length/\∀(i:Nat) (y:I) (v:Value),ys[i]?=some y->cs[i]?=some v->aI c y v
theorem FD(h:aI c y v):qK c [y] [v]:=by
 refine⟨rfl,λi x u J hu=>?_⟩
 cases i with
 |zero=>simp at J hu;subst J;subst hu;exact h
 |succ i=>simp at J
theorem aGj(cs):qK c (cs.map λ_=>.top) cs:=by
 refine⟨kk,λi x u J _=>?_⟩
 rw[mF]at J;obtain⟨_,_,rfl⟩:=hC.1 J;exact .top _
theorem VG{y z:List I}{a b:List Value}(h:qK c y a)(k:qK c z b):qK c (y++z) (a++b):=by
 refine⟨by simp[h.1,k.1],λi x u J hu=>?_⟩
 by_cases hi:i<y.length
 ·rw[iP hi]at J;rw[iP (by rw[<-h.1];exact hi)]at hu
  exact h.2 i x u J hu
 ·rw[pX iV]at J
  rw[pX (by rw[<-h.1];omega),<-h.1]at hu
  exact k.2 _ x u J hu
theorem aEl{w:World}{a:Addr}(h:w.cell? a=some v):a.block<w.heap.size:=by
 unfold World.cell? at h;grind
section
variable {H:Type} {enc:TypeId×Value->H} {W:World} {base:Nat} {sp:Nat->Bool} {held:Bool}
theorem aKd{k:IntKind}{n:Int}(h:(Lit.int k n).wf=true):l6 k n:=by
 have h2:(decide (k.min<=n)&&decide (n<=k.max))=true:=h;simpa[l6]using h2
inductive mI (n:Nat):I->Prop
 |int (k m):mI n (.int k m)
 |bool (b):mI n (.bool b)
 |str (s) (h:s.length<=n):mI n (.str s)
 |agg (cs:List I) (h:∀x∈cs,mI n x):mI n (.agg cs)
 |sl (f) (es:List I) (hl:es.length<=n) (h:∀x∈es,mI n x):mI n (.sl f es)
 |top:mI n .top
theorem mI.mono{m:Nat}{x:I}(h:mI n x)(hm:n<=m):mI m x:=by
 induction h with
 |int=>exact .int _ _
 |bool=>exact .bool _
 |str s h=>exact .str s<|fr h hm
 |agg cs _ J=>exact .agg cs J
 |sl f es hl _ J=>exact .sl f es (fr hl hm) J
 |top=>exact .top
theorem mI.mk{P:Program}{t:TypeId}(h:∀y∈ys,mI n y):mI n (nI P t ys):=by
 unfold nI;split
 ·exact .agg ys h
 ·cases ys with
  |nil=>exact .top
  |cons y ys=>exact h y kk
mutual
def nF{H:Type}:DataW H->Nat
 |.lit (.string bytes)=>bytes.length+1
 |.lit _=>1
 |.nil=>1
 |.ptr d=>nF d+1
 |.slice elems spare=>AQ elems+AQ spare+1
 |.agg parts=>AQ parts+1
 |.iface _ d=>nF d+1
 |.map entries=>aCD entries+1
 |.held _=>1
def AQ{H:Type}:List (DataW H)->Nat
 |[]=>0
 |d::r=>nF d+AQ r
def aCD{H:Type}:List (Lit×DataW H)->Nat
 |[]=>0
 |x::r=>aEm x+aCD r
def aEm{H:Type}:Lit×DataW H->Nat
 |(.string bytes,d)=>bytes.length+nF d+1
 |(_,d)=>nF d+1
end
theorem aFo{H:Type}(d:DataW H):1<=nF d:=by
 cases d with
 |lit l=>cases l<;>simp[nF]
 |_=>simp[nF]
theorem aFp{H:Type}(l:List (DataW H)):l.length<=AQ l:=by
 induction l with
 |nil=>simp
 |cons x r J=>have:=aFo x;simp[AQ];omega
theorem Vq{H:Type}{d:DataW H}{l:List (DataW H)}(h:d∈l):nF d<=AQ l:=by
 induction l<;>grind [AQ]
theorem aGk(hw:c.w=W)(ai:∀b,b<W.heap.size->c.hh b):∀(fuel:Nat) (t:TypeId) (cs:List Value) (x:DataW H×List MemPlace),DataW.trod enc P W base sp held fuel t cs=some x->
  ∃ys,kd P t ys/\qK c ys cs/\∀y∈ys,mI (nF x.1) y:=by
 intro fuel;induction fuel with
 |zero=>intro t cs x h;simp[DataW.trod]at h
 |succ fuel aB=>
  intro t cs x h;cases hk:rl P t with
  |false=>exact⟨_,.other t _ hk kk,aGj cs,λy U=>by simp at U;rw[<-U.2];exact .top⟩
  |true=>
   have ff:=hk;unfold rl at hk;split at hk
   ·rename_i hu;obtain⟨b,rfl, -⟩:=DataW.trod_bool hu h;exact⟨_,.bool t b hu,FD<|.bool b,λy U=>by simp at U;subst U;exact .bool _⟩
   ·rename_i k hu;obtain⟨n,rfl, -,Mu⟩:=DataW.trod_int hu h;exact⟨_,.int t k n hu Mu,FD<|.int k n (aKd Mu),λy U=>by simp at U;subst U;exact .int _ _⟩
   ·rename_i hu;obtain⟨s,rfl,J,hl⟩:=DataW.trod_string hu h;refine⟨_,.str t s.data.toList hu (by simpa using hl),FD ?_,λy U=>by simp at U;subst U;exact .str _<|by rw[J];simp[nF]⟩
    have:=aI.str (c:=c) s.data.toList<|by simpa[maxLen]using hl
    simpa using this
   ·rename_i e hu;rw[cV]at hk;have he:=by simpa using hk.1
    have s7:=by simpa using hk.2
    rcases DataW.trod_slice hu h with⟨rfl, -⟩|⟨a,len,cap,elems,rest,n,af,rfl,J,aa,hl,hm,hlen,L4, -, -⟩
    ·refine⟨[.sl false (([]).map (nI P e))],.slice t e [] hu (bW _) kk kk,FD ?_,λy U=>by simp at U;subst U;exact .sl _ _ (bW _) kk⟩
     exact .sl false [] none 0 0 0 (λ_ _=>undef) rfl (bd _) (λh=>by cases h) (λh=>absurd rfl h) kk kk iV
    ·obtain rfl:fuel=n:=iV
     have each:∀i,i<len->∃(us:List Value) (ys:List I),us.length=P.cellsOf e/\(∀j,j<P.cellsOf e->W.cell? (a.add (i * P.cellsOf e+j))=us[j]?)/\kd P e ys/\qK c ys us/\∀y∈ys,mI (nF x.1) y:=by
      intro i hi;have h1:=L4 i hi;rw[da iV,ni]at h1
      obtain⟨us,pH,aPH⟩:=h1;obtain⟨_,g2,g3⟩:=World.cells?_some pH;obtain⟨ys,k1,k2,k3⟩:=aB e us _ aPH;refine⟨us,ys,g2,λj O=>?_,k1,k2,λy U=>(k3 y U).mono ?_⟩
      case refine_2=>
       have:=Vq<|List.mem_map_of_mem (f:=(·.1)) (ga (show i<elems.length by omega))
       rw[J];simp only[nF];omega
      rw[<-g3 j O,_root_.Go.Addr.add_add]
     let f:=λi=>if hi:i<len then(each i hi).choose_spec.choose else[]
     let g:=λi=>if hi:i<len then(each i hi).choose else[]
     have T:∀i,i<len->(g i).length=P.cellsOf e/\(∀j,j<P.cellsOf e->W.cell? (a.add (i * P.cellsOf e+j))=(g i)[j]?)/\kd P e (f i)/\qK c (f i) (g i)/\∀y∈f i,mI (nF x.1) y:=by
      intro i hi;have:=(each i hi).choose_spec.choose_spec;simp only[f,g,hi,dif_pos];exact this
     have RM:∀i,i<len->(f i).length=P.cellsOf e:=λi hi=>by
      obtain⟨aP,_,_,Z,_⟩:=T i hi;rw[Z.1,aP]
     have V:∀i,i<len->(nI P e (f i)).cells=f i:=by
      intro i hi;unfold nI;by_cases aF:pt P e=true
      ·rw[aA aF];rfl
      ·rw[aj aF];have hs:=(T i hi).2.2.1;have cH:∀fs,P.underlying e≠some (.struct fs):=λfs q=>aF<|by rw[pt,q]
       have ra:=(RM i hi).trans<|s7.resolve_left aF;generalize f i=z at hs ra ⊢;cases hs with
       |bool=>rfl
       |int=>rfl
       |str=>rfl
       |slice=>rfl
       |struct _ fs _ q=>exact absurd q<|cH fs
       |other _ _ _ q=>
        match z,ra with
        |[y],_=>rw[q y kk];rfl
     refine⟨[.sl false (((List.range len).map f).map (nI P e))],.slice t e _ hu nX ?_ ?_,FD ?_,λy U=>?_⟩
     rotate_right
     ·simp at U;subst U;refine .sl _ _ ?_ λz K=>?_
      ·have:=aFp<|elems.map (·.1);rw[cv]at this;rw[J];simp only[nF,cv,Bh];omega
      ·simp only[bJ,qO,Function.comp]at K;obtain⟨i,hi,rfl⟩:=K;exact .mk (T i hi).2.2.2.2
     ·intro z K;obtain⟨i,hi,rfl⟩:=bJ.1 K;exact(T i (by simpa using hi)).2.2.1
     ·intro z K;obtain⟨i,hi,rfl⟩:=bJ.1 K;exact RM i<|by simpa using hi
     ·refine .sl false _ (some a) len cap (P.cellsOf e) (λk j=>(g k).getD j undef) kk hl (λh=>by cases h) (λaN=>?_) ?_ ?_ (by have:=hm;simp only[maxLen]at this;omega)
      ·have aO8:0<len:=by
        rcases Nat.eq_zero_or_pos len with aw|aw
        ·subst aw;simp at aN
        ·exact aw
       have px:∀k j,k<len->j<P.cellsOf e->W.cell? (a.add (k * P.cellsOf e+j))=some ((g k).getD j undef):=by
        intro k j hk O;obtain⟨aP,aR,_,_⟩:=T k hk;rw[aR j O,et,da iV];rfl
       have LR:=px 0 0 aO8 iV
       refine⟨a,rfl,?_,ai _ ?_,λk j hk O=>?_⟩
       ·have:=World.cell?_spot LR;simpa[Addr.add]using this
       ·have:=aEl LR;rwa[Addr.Ev]at this
       ·rw[hw];exact px k j (by simpa using hk) O
      ·intro z K;simp only[sG,bJ,qO,Function.comp]at K;obtain⟨i,hi,rfl⟩:=K;rw[V i hi,RM i hi]
      ·intro k z j y K U;have hk:=by
        have:=(cj.1 K).1;simpa using this
       have:=by
        simp only[sG,mF,List.getElem?_range hk,wC,Function.comp,Option.some.injEq]at K;exact K.symm
       subst this;rw[V k hk]at U;obtain⟨aP,_,_,Z,_⟩:=T k hk;have O:=(cj.1 U).1;refine Z.2 j y _ U ?_;rw[et,da<|by rw[<-Z.1];exact O];rfl
   ·rename_i fs hu;rw[cV,rK]at hk;obtain⟨xs,n,af,J,dV,AK,ET⟩:=DataW.trod_struct hu h;obtain rfl:fuel=n:=iV
    have each:∀f∈fs.toList,∃ys,kd P f.type ys/\qK c ys ((cs.drop f.offset).take (P.cellsOf f.type))/\∀y∈ys,mI (nF x.1) y:=by
     intro f ax;obtain⟨i,hi⟩:=List.getElem?_of_mem ax;have cF:fs[i]?=some f:=by simpa using hi
     have ak:i<fs.size:=(sF.1 cF).1;have:=ET i f cF;rw[da iV]at this
     obtain⟨ys,k1,k2,k3⟩:=aB _ _ _ this;refine⟨ys,k1,k2,λy U=>(k3 y U).mono ?_⟩
     have:=Vq<|List.mem_map_of_mem (f:=(·.1)) (ga (show i<xs.length by omega))
     rw[J];simp only[nF];omega
    have key:∀(l:List Field) (off:Nat),Ll P off l=true->wa P off l<=cs.length->(∀f∈l,∃ys,kd P f.type ys/\qK c ys ((cs.drop f.offset).take (P.cellsOf f.type))/\∀y∈ys,mI (nF x.1) y)->
      off<=wa P off l/\∃ys,yb P l ys/\qK c ys ((cs.drop off).take (wa P off l-off))/\∀y∈ys,mI (nF x.1) y:=by
     intro l;induction l with
     |nil=>intro off _ _ _;exact⟨bd _,[],.nil,by simp[wa,qK],λy U=>by cases U⟩
     |cons f l aP4=>
      intro off h1 h2 h3;rw[Ll,cV,rK]at h1;rw[wa]at h2 ⊢;obtain⟨wg,ys,aP,aR,bH⟩:=aP4 _ h1.2 h2 λg aL=>h3 g (by simp[aL])
      obtain⟨z,a6,a8,bb⟩:=h3 f kk
      refine⟨iV,z++ys,.cons f l z ys a6 aP,?_,λy U=>(e4.1 U).elim (bb y)<|bH y⟩
      have e:(cs.drop off).take (wa P (off+P.cellsOf f.type) l-off)=(cs.drop f.offset).take (P.cellsOf f.type)++(cs.drop (off+P.cellsOf f.type)).take (wa P (off+P.cellsOf f.type) l-(off+P.cellsOf f.type)):=by
       rw[h1.1,<-sD,show wa P (off+P.cellsOf f.type) l-off=P.cellsOf f.type+(wa P (off+P.cellsOf f.type) l-(off+P.cellsOf f.type)) by omega,List.take_add]
      rw[e];exact VG a8 aR
    obtain⟨_,ys,k1,k2,k3⟩:=key fs.toList 0 hk.1 iV each
    refine⟨ys,.struct t fs ys hu k1,?_,k3⟩;rw[x4,Nat.sub_zero,hk.2,<-dV,eG]at k2;exact k2
   ·cases hk
def tH(W:World):Ctx:={w:=W,n:=0,bl:=λ_=>0,a1:=λ_=>0,cO:=λ_=>false,hh:=λb=>b<W.heap.size,base:=(0,[])}
theorem aL5(W)(hl:Laid (tH W):=by first|assumption|exact λ_ h=>nomatch h):bp (tH W) [] where
 jX:=hl
 n:=rfl
 lt:=λi hi=>absurd hi<|Nat.not_lt_zero i
 inj:=λi j b J hi=>kk
 st:=λk hk=>⟨hk,λi b hi=>kr⟩
 rep:=λi b hi=>kr
theorem aEn{t:TypeId}(hk:rl P t=true)(U:pt P t=false)(J:Value.okWide P W r gb t v):v.cells= #[v]:=by
 unfold rl at hk;split at hk
 ·rename_i hu;obtain⟨b,rfl⟩:=okWide_bool hu J;rfl
 ·rename_i k hu;obtain⟨n,rfl⟩:=okWide_int hu J;rfl
 ·rename_i hu;obtain⟨s,rfl⟩:=okWide_string hu J;rfl
 ·rename_i e hu;obtain⟨a,l,c,rfl⟩:=okWide_slice hu J;rfl
 ·grind [pt]
 ·cases hk
theorem aGl{t:TypeId}{d:DataW H}(hk:rl P t=true)(U:Value.okWide P W r gb t v)(h:DataW.Trod enc P W base sp held t v d p):
  ∃x,(∃ys,x=nI P t ys/\kd P t ys/\(pt P t=true\/ys.length=1))/\aI (tH W) x v/\mI (nF d) x:=by
 obtain⟨fuel,K⟩:=h;obtain⟨ys,h1,h2,h3⟩:=aGk (c:=tH W) rfl (λb O=>O) fuel t _ _ K
 cases J:pt P t with
 |true=>
  refine⟨_,⟨ys,rfl,h1,.inl rfl⟩,?_,.mk h3⟩;have:∃cs,v=.agg cs:=by
   grind [pt,rl,okWide_struct]
  obtain⟨cs,rfl⟩:=this;rw[nI,aA J];exact .agg ys cs (by simpa[Value.cells]using h2.1.symm) λi y u T hu=>h2.2 i y u T<|by simpa[Value.cells]using hu
 |false=>
  rw[(aEn hk J U)]at h2;have hl:=by simpa using h2.1
  refine⟨_,⟨ys,rfl,h1,.inr hl⟩,?_,.mk h3⟩
  match ys,hl with
  |[y],_=>
   rw[nI,aj kr]
   exact h2.2 0 y v rfl rfl
theorem uw{t:TypeId}{d:DataW H}(hk:rl P t=true)(J:Value.okWide P W r gb t v)(h:DataW.Trod enc P W base sp held t v d p):
  ∃x,(∃ys,x=nI P t ys/\kd P t ys/\(pt P t=true\/ys.length=1))/\aI (tH W) x v:=by
 obtain⟨x,h1,h2,_⟩:=aGl hk J h;exact⟨x,h1,h2⟩
theorem MZ{f:FuncId}{args:Array Value}(h:aM P f xs [] (.bool true))(K:sN (tH W) xs args)(hl:Laid (tH W):=by first|assumption|exact λ_ h=>nomatch h):Calls P f args W λe U=>e=.returned (.bool true)/\Below W.heap.size W U:=
 (h (tH W) args (aL5 W hl) K).mono λe U ⟨c',x,v,H',av,al,_,J,O,T,_⟩=>by
  subst T;refine⟨by rw[av,O.sT],?_⟩
  subst al;exact⟨J.os,J.tape.1,J.output,J.size,λk hk=>(J.st k hk).2⟩
theorem Nb(h:qK c xs vs):sN c xs vs.toArray:=
 ⟨by simp[h.1],λi x v J U=>h.2 i x v J kr⟩
theorem ua{x:I}(h:aI c x v)(hs:qK c xs vs):qK c (x::xs) (v::vs):=VG (FD h) hs
theorem Nz:qK c [] []:=⟨rfl,λi x v J=>kk⟩
end
end
theorem K0{W:World}{rest:List (String×DataW Unit)}(h:laidMet prog (("gunwale/sums.steps",Lib.tabData .u32 [0,79764919])::rest) W):Laid (tH W):=by
 have J:prog.globalNamed "gunwale/sums.steps" =some 0:=n2
 have ah:Lib.TabIs prog W "gunwale/sums.steps" .u32 [0,79764919]:=Lib.tabIs_of_head (t:=385) (e:=306) (n:=2) J n2 underlying385 underlying306 n2 n2 h
 have aw:=ah.cell J 0 l9
 have h1:=ah.cell J 1 l9
 intro p ad;obtain rfl:=dF.1 ad;refine⟨?_,λj x U=>?_⟩
 ·show 0<W.heap.size;by_cases K:0<W.heap.size
  ·exact K
  ·simp[World.cell?,JW<|Nat.le_of_not_lt K]at aw
 ·match j with
  |0=>cases U;exact aw
  |1=>cases U;exact h1
  |j+2=>simp at U
end Go.Proofs.YtnmamncmpklliaaGreatDoor
