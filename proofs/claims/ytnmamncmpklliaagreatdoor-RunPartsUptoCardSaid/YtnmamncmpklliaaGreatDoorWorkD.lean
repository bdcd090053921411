/- What functions answer. No condition. -/
import Derived.Test.YtnmamncmpklliaaGreatDoorWorkC
import Derived.Lib.Bytealg
import Derived.Laws.Externs
import Derived.WalkKit
import Derived.ProofKit
import Derived.OpenShut
import Derived.ShutString
import Derived.ChangeOld
import Derived.Below
import Derived.Carry
import Derived.Lib.LaidTab
import Derived.MakeChecks
set_option linter.unusedSimpArgs false
set_option linter.unusedVariables false
set_option linter.unusedSectionVars false
set_option maxRecDepth 100000
set_option maxHeartbeats 16000000
namespace Go.Proofs.YtnmamncmpklliaaGreatDoor
variable{y code:Code}{v:Value}{clock i n N fL:Nat}{es:List (I×I×Nat)}{args cs br ys xs:List I}{H G L X H1:ab}{c:Ctx}{vs:List Value}{fn F:Func}{α ι:Type}{Q:c3}{l:List UInt8}{p:List MemPlace}{has bO:List Int}{R:I->ab->Prop}{r:Reach}{P:Program}
open Go.Proofs.Tryz
def px(dir:Int)(n:aH):Bool:=decide (n.parent=dir)&&pC n.gx.c n.gx.r
def hA(s:al):List (al×aH)->Option aH
 |[]=>none
 |(k,n)::m=>if k=s then some n else hA s m
def h0(s:al)(n:aH):List (al×aH)->List (al×aH)
 |[]=>[(s,n)]
 |(k,x)::m=>if k=s then(s,n)::m else(k,x)::h0 s n m
def rM(m:List (al×aH))(n:aH):List (al×aH):=match hA n.name m with
 |none=>h0 n.name n m
 |some o=>if z8 n.gx.c n.gx.r o.gx.c o.gx.r=true then m else h0 n.name n m
def mo(dir:Int)(m:List (al×aH))(n:aH):List (al×aH):=if px dir n=true then rM m n else m
def fA(l:List aH)(dir:Int):List (al×aH):=l.foldl (mo dir) []
def fz(l:List aH)(dir:Int)(s:al):Option aH:=if cG l=true then hA s (fA l dir)else none
def iU(l:List aH):Int->List al->Int×Int
 |at_,[]=>(at_,0)
 |at_,s::names=>if dv at_=true then(match fz l at_ s with|some n=>iU l n.id names|none=>(0,80))else(0,81)
def fp(l:List aH)(names:List al):Int×Int:=iU l 0 names
def fY:Nat->List (al×aH)->List (I×I×Nat)
 |_,[]=>[]
 |b,p::m=>(.str p.1,bj p.2,b)::fY (b+1) m
theorem OT(b:Nat)(m:List (al×aH)):iV .string (fY b m):=by
 induction m generalizing b with
 |nil=>exact λp ad=>by simp[fY]at ad
 |cons p m J=>
  intro q aM;rcases db.1 aM with rfl|aM
  ·rfl
  ·exact J _ q aM
theorem ZO(b)(m):(fY b m).length=m.length:=by
 induction m generalizing b with
 |nil=>rfl
 |cons p m J=>simp[fY,J]
theorem Yu(b:Nat)(m:List (al×aH))(s:al):(hA s m=none/\eJ (.str s) (fY b m)=none)\/∃n j,hA s m=some n/\eJ (.str s) (fY b m)=some (j,bj n):=by
 induction m generalizing b with
 |nil=>exact .inl ⟨rfl,rfl⟩
 |cons p m U=>
  obtain⟨k,n⟩:=p;by_cases h:k=s
  ·subst h;exact .inr ⟨n,0,by simp[hA],by simp[fY,eJ,iW]⟩
  ·have J:iW (.str s) (.str k)=false:=by simp[iW];exact λe=>h e.symm
   rcases U (b+1)with⟨h1,h2⟩|⟨x,j,h1,h2⟩
   ·exact .inl ⟨by simp[hA,h,h1],by simp[fY,eJ,J,h2]⟩
   ·exact .inr ⟨x,j+1,by simp[hA,h,h1],by simp[fY,eJ,J,h2]⟩
theorem OP{x y v w:I}{b:Nat}(h:iW x y=false):hG x v ((y,w,b)::es) clock=(y,w,b)::hG x v es clock:=by
 simp[hG,eJ,h];cases eJ x es with
 |none=>rfl
 |some p=>rfl
theorem aDW{x y w:I}{b:Nat}(h:iW x y=false):qS x ((y,w,b)::es) clock=qS x es clock:=by simp[qS,eJ,h];cases eJ x es<;>rfl
theorem aJo(b:Nat)(m:List (al×aH))(s:al)(n:aH):hG (.str s) (bj n) (fY b m) (b+m.length)=fY b (h0 s n m)/\qS (.str s) (fY b m) (b+m.length)=b+(h0 s n m).length:=by
 induction m generalizing b with
 |nil=>exact⟨rfl,rfl⟩
 |cons p m U=>
  obtain⟨k,x⟩:=p;by_cases h:k=s
  ·subst h;exact⟨by simp[fY,hG,eJ,iW,h0],by simp[fY,qS,eJ,iW,h0]⟩
  ·have J:iW (.str s) (.str k)=false:=by simp[iW];exact λe=>h e.symm
   obtain⟨h1,h2⟩:=U<|b+1;have e:b+((k,x)::m).length=b+1+m.length:=j9;rw[e];simp only[fY,h0,ar h];rw[OP J,aDW J,h1,h2];exact⟨rfl,nc⟩
theorem aHm(m)(s:al)(n):bD.map (hG (.str s) (bj n) (fY 0 m) m.length) (qS (.str s) (fY 0 m) m.length)=.map (fY 0<|h0 s n m) (h0 s n m).length:=by have:=aJo 0 m s n;rw[lr,lr]at this;rw[this.1,this.2]
theorem aLN(k)(n):cN k (bj n):=(b9.agg _ λx J=>by simp at J;rcases J with rfl|rfl|rfl|rfl|rfl|rfl|rfl|rfl<;>first|exact .int _ _|exact .str _).cl k
theorem Yv(k b)(m):∀p∈fY b m,cN k p.1/\cN k p.2.1:=by
 induction m generalizing b with
 |nil=>exact λp ad=>by simp[fY]at ad
 |cons q m J=>
  intro p ad;rcases db.1 ad with rfl|ad
  ·exact⟨.str _,aLN k _⟩
  ·exact J _ p ad
def D5(P:Program)(f:FuncId)(args:List I)(H:ab)(x:I):Prop:=D0 P f args H λv H'=>v=x/\H'=H
theorem Vq{f:FuncId}{x:I}{k:I->ab->Prop}(h:D5 P f args H x)(hk:k x H):oR P (.func (.func f) [] []) args H k:=
 Or.inr (by
  simp only[jb,cE];exact h.mono λy H' ⟨ax,J⟩=>by subst ax;subst J;exact hk)
theorem V5{g:Bool}{f:FuncId}{x:I}{K:I->Prop}(h:D5 P f args H x)(hk:K x):tu P g (.func (.func f) [] []) args H K:=
 ⟨x,λ_=>Or.inr (by
  simp only[jb,cE];exact h),hk⟩
theorem Xw{x y:I}{vs:Array Value}(h:qG c [x,y] vs):∃u v,vs= #[u,v]/\aK c x u/\aK c y v:=by
 obtain⟨hl,J⟩:=h;obtain⟨l⟩:=vs
 match l,hl,J with
 |[u,v],_,J=>exact⟨u,v,rfl,J 0 _ _ rfl rfl,J 1 _ _ rfl rfl⟩
theorem aD7(l:List UInt8)(c:UInt8):Lib.indexByte l c<(l.length:Int)\/l=[]:=by
 induction l with
 |nil=>exact .inr rfl
 |cons b l J=>
  refine .inl ?_;rw[Lib.indexByte,cd];split
  ·omega
  ·split
   ·omega
   ·rcases J with h|h
    ·omega
    ·subst h;rename_i h1;exact absurd rfl h1
theorem aKr{f:FuncId}(J:P.funcs[f]?=some fn)(h1:(fn.name== "runtime.NumGoroutine")=false)(h2:fn.body.isNone=true)(h3:Extern.findNext fn=none)(h4:Extern.find fn=some Extern.BytealgCount.count)
  (s:List UInt8) (b:Int) (H:ab):D5 P f [.str s,.int .u8 b] H (.int .i64<|Lib.countByte s b.toNat.toUInt8):=by
 intro c vs O U;obtain⟨u,v,rfl,hu,K⟩:=Xw U;cases hu with
 |str _ hs=>
  cases K with
  |int _ _ S=>
   refine⟨_,_,?_,.int .i64 (Lib.countByte s b.toNat.toUInt8:Nat) ?_,rfl,rfl⟩
   ·rw[run_callFunc_extern J h1 h2 h3 h4,Lib.run_countString];rfl
   ·have:Lib.countByte s b.toNat.toUInt8<=s.length:=List.count_le_length;exact⟨by show(-9223372036854775808:Int)<=_;omega,by show _<=(9223372036854775807:Int);omega⟩
theorem aKs{f:FuncId}(J:P.funcs[f]?=some fn)(h1:(fn.name== "runtime.NumGoroutine")=false)(h2:fn.body.isNone=true)(h3:Extern.findNext fn=none)(h4:Extern.find fn=some Extern.BytealgIndexByte.indexByte)
  (s:List UInt8) (b:Int) (H:ab):D5 P f [.str s,.int .u8 b] H (.int .i64<|Lib.indexByte s b.toNat.toUInt8):=by
 intro c vs S U;obtain⟨u,v,rfl,hu,K⟩:=Xw U;cases hu with
 |str _ hs=>
  cases K with
  |int _ _ T=>
   refine⟨_,_,?_,.int .i64 (Lib.indexByte s b.toNat.toUInt8) ?_,rfl,rfl⟩
   ·rw[run_callFunc_extern J h1 h2 h3 h4,Lib.run_indexByteString];rfl
   ·have V:=Lib.indexByte_ge s b.toNat.toUInt8;have O:=aD7 s b.toNat.toUInt8;refine⟨by show(-9223372036854775808:Int)<=_;omega,by show _<=(9223372036854775807:Int);rcases O with h|h;omega;subst h;show(-1:Int)<=_;omega⟩
theorem Xx(b:UInt8):b.toNat.toUInt8=b:=hW
theorem WK(s:List UInt8)(b:Int)(H:ab):D5 prog 323 [.str s,.int .u8 b] H (.int .i64<|Lib.countByte s b.toNat.toUInt8):=
 aKr func323 ma ma ma ma s b H
theorem WL(s:List UInt8)(b:Int)(H:ab):D5 prog 337 [.str s,.int .u8 b] H (.int .i64<|Lib.indexByte s b.toNat.toUInt8):=
 aKs func337 ma ma ma ma s b H
theorem aHn(s:List UInt8)(b:UInt8)(H:ab):aO prog 283 [.str s,.str [b]] H (.int .i64<|Lib.countByte s b):=by
 refine bg func283 ?_;repeat' first|((first|refine Vq (WK _ _ _) ?_|refine V5 (WK _ _ _) ?_|refine ae ?_);simp only[go_sem])|refine bp ?_|(refine bz ?_ ?_<;>intro h<;>try exact bx h)|fail
 rw[Xx];exact bJ<|.refl _
theorem aGd(s:List UInt8)(b:UInt8)(H:ab):aO prog 333 [.str s,.int .u8 b.toNat] H (.int .i64<|Lib.indexByte s b):=by
 refine bg func333 ?_;repeat' first|((first|refine Vq (WL _ _ _) ?_|refine V5 (WL _ _ _) ?_|refine ae ?_);simp only[go_sem])|refine bp ?_|(refine bz ?_ ?_<;>intro h<;>try exact bx h)|fail
 rw[Xx];exact bJ<|.refl _
theorem aGe(s:List UInt8)(b:UInt8)(H:ab):aO prog 324 [.str s,.str [b]] H (.int .i64<|Lib.indexByte s b):=by
 refine bg func324 ?_;repeat' first|((first|refine cI (aGd _ _) ?_|refine ae ?_);simp only[go_sem])|refine bp ?_|(refine bz ?_ ?_<;>intro h<;>try exact bx h)|fail
 ·have e:[b]=s:=oq h;subst e;refine bJ<|.of ?_;rw[Lib.indexByte,aC hW]
 ·exact bJ<|.refl _
theorem aHo(s:List UInt8)(b:UInt8)(H:ab):aO prog 284 [.str s,.str [b]] H (.int .i64<|Lib.indexByte s b):=by
 refine bg func284 ?_;repeat' first|((first|refine cI (aGe _ _) ?_|refine ae ?_);simp only[go_sem])|refine bp ?_|(refine bz ?_ ?_<;>intro h<;>try exact bx h)|fail
 exact bJ<|.refl _
def xc(s:List UInt8)(b:UInt8):I:=match s with
 |[]=>.aN [.str [],.bool false]
 |c::l=>if c=b then .aN [.str l,.bool true]else .aN [.str (c::l),.bool false]
theorem aHp(s:List UInt8)(b:UInt8)(H:ab):aO prog 225 [.str s,.str [b]] H (.bool<|decide (s.head?=some b)):=by
 refine bg func225 ?_;cases s with
 |nil=>
  repeat' first|(refine ae ?_;simp only[go_sem])|refine bp ?_|(refine bz ?_ ?_<;>intro h<;>try exact bx h)|fail
  exact bJ<|.refl _
 |cons c l=>
  repeat' first|(refine ae ?_;simp only[go_sem])|refine bp ?_|(refine bz ?_ ?_<;>intro h<;>try exact bx h)|fail
  have ax:decide ((1:Int)<=((l.length+1:Nat):Int))=true:=cS;have J:decide ([c]=[b])=decide ((c::l).head?=some b):=hW;refine bJ<|.of ?_;rw[<-J];exact b7 I.bool<|by rw[show((1:Nat):Int)=(1:Int)from rfl,ax,vk]
theorem aHq(s:List UInt8)(b:UInt8)(H:ab):aO prog 241 [.str s,.str [b]] H (xc s b):=by
 refine bg func241 ?_;have ad:=aHp s b;cases s with
 |nil=>
  repeat' first|(refine ae ?_;simp only[go_sem])|refine bp ?_|(refine bz ?_ ?_<;>intro h<;>try exact bx h)|fail
  exact bJ<|.refl _
 |cons c l=>
  by_cases h:c=b
  ·rw[dr (by rw[h];rfl)]at ad
   rw[xc,aC h];repeat' first|(refine ae ?_;simp only[go_sem])|refine bp ?_|(refine bz ?_ ?_<;>intro h<;>try exact bx h)|fail
   exact bJ<|.refl _
  ·rw[b0 (by simp[h])]at ad
   rw[xc,ar h];repeat' first|(refine ae ?_;simp only[go_sem])|refine bp ?_|(refine bz ?_ ?_<;>intro h<;>try exact bx h)|fail
   exact bJ<|.refl _
theorem aKt(s:List UInt8)(b:UInt8)(H:ab):aO prog 216 [.str s,.str [b]] H (xc s b):=by
 refine bg func216 ?_;have ad:=aHq s b;cases s with
 |nil=>
  simp only[xc]at ad ⊢;repeat' first|(refine ae ?_;simp only[go_sem])|refine bp ?_|(refine bz ?_ ?_<;>intro h<;>try exact bx h)|fail
  exact bJ<|.refl _
 |cons c l=>
  by_cases h:c=b
  ·simp only[xc,aC h]at ad ⊢;repeat' first|(refine ae ?_;simp only[go_sem])|refine bp ?_|(refine bz ?_ ?_<;>intro h<;>try exact bx h)|fail
   exact bJ<|.refl _
  ·simp only[xc,ar h]at ad ⊢;repeat' first|(refine ae ?_;simp only[go_sem])|refine bp ?_|(refine bz ?_ ?_<;>intro h<;>try exact bx h)|fail
   exact bJ<|.refl _
@[go_sem] theorem aTX{P:Program}(ts tx:TypeId)(f g:Bool)(es r:List I)(e:I)(H:ab):yF P ts tx (.sl f es) (.sl g (e::r)) H=xi P ts tx (.sl f es) (.sl g (e::r)) H:=by
 cases es with
 |nil=>rfl
 |cons a es=>simp[yF,fg]
def lN(a b:lu):Bool:=z8 a.c a.r b.c b.r
def rq(l:List gr)(a:lu):Bool:=l.any λe=>decide<|e.op.at_=a
def je(a:lu):List gr->List aH->Nat×List aH
 |[],n=>(0,n)
 |e::r,n=>if lN a e.op.at_=true then((je a r (tv n e.op e.qu)).1+1,(je a r (tv n e.op e.qu)).2)else(0,n)
def fh:List bk->List gr->List aH->List gr×List aH
 |[],es,n=>(es,n)
 |o::os,es,n=>fh os (es++[⟨o,ku n o⟩])<|eo n o
def fo(g:hq)(o:bk):hq:=
 if cp o=false then g else if rq g.entries o.at_=true then g else if(200:Int)<=(g.entries.length:Int)then g
 else
  ⟨(fh (o::(g.entries.drop (g.entries.length-(je o.at_ g.entries.reverse g.nodes).1)).map gr.op) (g.entries.take<|g.entries.length-(je o.at_ g.entries.reverse g.nodes).1) (je o.at_ g.entries.reverse g.nodes).2).1,
    (fh (o::(g.entries.drop (g.entries.length-(je o.at_ g.entries.reverse g.nodes).1)).map gr.op) (g.entries.take<|g.entries.length-(je o.at_ g.entries.reverse g.nodes).1) (je o.at_ g.entries.reverse g.nodes).2).2⟩
def nG(g:hq)(o:bk):Int:=
 if cp o=false then 50 else if rq g.entries o.at_=true then 0 else if(200:Int)<=(g.entries.length:Int)then 193 else 0
def eX:hq->List bk->hq
 |g,[]=>g
 |g,o::os=>eX (fo g o) os
def oc:hq->List bk->Int
 |_,[]=>0
 |g,o::os=>(if nG g o=0 then 0 else 1)+oc (fo g o) os
def dU(g:hq):List bk:=g.entries.map gr.op
theorem aWj(a:lu)(l:List gr)(n:List aH):(je a l n).1<=l.length:=by
 induction l generalizing n with
 |nil=>simp[je]
 |cons e l J=>unfold je;split<;>simp;exact J _
theorem V6(l)(o)(u):(tv l o u).length<=l.length+1:=by
 unfold tv;split
 ·omega
 ·have:=K7 l o.node j9;split
  ·have:=Om l (pos l o.node) (upto l o.node) [u.b5] gf gf;simp at this;omega
  ·have:=Om l (pos l o.node) (upto l o.node) [] gf gf;simp at this;omega
theorem PT(l:List aH)(o:bk):(eo l o).length<=l.length+1:=by
 unfold eo;split
 ·omega
 ·rename_i h;have J:cG l=true:=by
   cases J:cG l with
   |true=>rfl
   |false=>simp[refused,J]at h
  have:=K7 l o.node J;have:=Om l (pos l o.node) (upto l o.node) [jI l o] gf gf;simp at this;omega
theorem aGf(a)(l)(n):(je a l n).2.length<=n.length+l.length:=by
 induction l generalizing n with
 |nil=>simp[je]
 |cons e l J=>
  unfold je;split
  ·have:=J<|tv n e.op e.qu;have:=V6 n e.op e.qu;simp;omega
  ·simp
theorem WM(l:List bk)(es:List gr)(n:List aH):(fh l es n).2.length<=n.length+l.length/\(fh l es n).1.length=es.length+l.length:=by
 induction l generalizing es n with
 |nil=>simp[fh]
 |cons o l J=>unfold fh;have:=J (es++[⟨o,ku n o⟩])<|eo n o;have:=PT n o;simp at *;omega
theorem V7(l)(o)(es)(n):fh (l++[o]) es n=((fh l es n).1++[⟨o,ku (fh l es n).2 o⟩],eo (fh l es n).2 o):=by
 induction l generalizing es n with
 |nil=>rfl
 |cons x l J=>rw[mf,fh,J,fh]
structure nJ {α:Type} (E:α->I) (s:Nat):Prop where
 e:∀x,E x=.agg (E x).cells
 n:∀x,(E x).cells.length=s
 p:∀x,b9<|E x
 o:∀x,(E x).cells.all I.one=true
theorem nJ.t{E:α->I}{s:Nat}(h:nJ E s)(x:α):I.agg ((E x).cells.take s)=E x:=by rw[<-h.n x,fe,<-h.e]
def DK(P:Program)(f:FuncId){α:Type}(E:α->I):Prop:=∀(b:Bool) (l:List α),l.length<=1073741824->∀H,aO P f [.sl b (l.map E)] H (.sl false<|l.map E)
def yI(P:Program)(f:FuncId){α:Type}(E:α->I):Prop:=∀(b:Bool) (l:List α) (fn:Fn) (fs cs:List I) (p:α->Bool) (H:ab),(∀c,yu P (.func fn fs cs) [E c] H (.bool<|p c))->aO P f [.sl b (l.map E),.func fn fs cs] H (.int .i64<|e3 p l)
def EF(P:Program)(f:FuncId){α:Type}(E:α->I):Prop:=∀(b:Bool) (l:List α) (fn:Fn) (fs cs:List I) (p:α->Bool) (H:ab),(∀c,yu P (.func fn fs cs) [E c] H (.bool<|p c))->aO P f [.sl b (l.map E),.func fn fs cs] H (.bool<|l.any p)
theorem Um{E:α->I}{s:Nat}(h:∀x,(E x).cells.length=s)(l:List α):∀e∈l.map E,e.cells.length=s:=λe he=>by obtain⟨x,_,rfl⟩:=bP.1 he;exact h x
theorem K9{E:α->I}(h:∀x,b9<|E x)(l:List α):∀e∈l.map E,b9 e:=λe he=>by obtain⟨x,_,rfl⟩:=bP.1 he;exact h x
theorem HI{P:Program}{f:FuncId}{E:α->I}(s:Nat)(func:P.funcs[f]?=some F)(af:∀x,(E x).cells.length=s:=by exact λ_=>rfl)(ad:∀x,b9 (E x):=by exact λ_=>mZ)
  (t:∀E:α->I,P.funcs[f]?=some F->(∀l:List α,(∀e∈l.map E,e.cells.length=s)=True)->(∀l:List α,∀e∈l.map E,b9 e)->DK P f E:=by
   intro E func J K b l hl H;refine bg func ?_;repeat' first|(refine ae ?_;simp only[go_sem])|refine bp ?_|(refine bz ?_ ?_<;>intro h<;>try exact bx h)|fail
   intro c U;cases c with
   |true=>
    have O:l=[]:=by
     cases l with
     |nil=>rfl
     |cons x l=>exact absurd (U hW) ko
    subst O;repeat' first|(refine ae ?_;simp only[go_sem])|refine bp ?_|(refine bz ?_ ?_<;>intro h<;>try exact bx h)|fail
    exact bJ<|.sl _ _
   |false=>
    clear U;repeat' first|(refine ae ?_;simp only[go_sem,J])|refine bp ?_|(refine bz ?_ ?_<;>intro h<;>try exact bx h)|fail
    exact uV (cs:=List.flatMap I.cells<|List.map E l) (es:=l.map E) (rest:=[]) (bh _) mZ (cE _).symm (by rw[dq]) (of_eq_true<|J _) (K _) rfl):DK P f E:=
 t E func (λl=>b1<|Um af l) (K9 ad)
theorem Ij{P:Program}{f:FuncId}{E:α->I}(s:Nat)(func:P.funcs[f]?=some F)(h:nJ E s:=by exact⟨λ_=>rfl,λ_=>rfl,λ_=>mZ,λ_=>rfl⟩)
  (t:∀E:α->I,P.funcs[f]?=some F->nJ E s->yI P f E:=by
   intro E func K b l fn fs cs p H S;refine xX λT _=>?_;have hl:=wO T;rw[dq]at hl;have ag:=K.t;have af:=K.n;refine bg func ?_;repeat' first|(refine ae ?_;simp only[go_sem])|refine bp ?_|(refine bz ?_ ?_<;>intro h<;>try exact bx h)|fail
   refine c7 (ι:=Nat) (λi=>[(0,.sl b<|l.map E),(1,.func fn fs cs),(7,.int .i64 l.length),(8,.int .i64 i)]) (λ_=>H) (λi=>i<=l.length/\∀k (hk:k<i) (O:k<l.length),p l[k]=false) (λi=>l.length-i) 0 ⟨cb _,λk hk=>gf⟩ ?_ rfl ?_
   ·simp[go_sem]
   ·rintro i ⟨hi,J⟩;by_cases U:i<l.length
    ·have ad:=ek E U;repeat' first|(refine ae ?_;simp only[go_sem,ad,af,ag])|refine bp ?_|(refine bz ?_ ?_<;>intro h<;>try exact bx h)|fail
     refine OY (S _) ?_;simp only[go_sem];repeat' first|(refine ae ?_;simp only[go_sem])|refine bp ?_|(refine bz ?_ ?_<;>intro h<;>try exact bx h)|fail
     ·exact bJ<|.of (by rw[G2 p l i U (λk hk=>J k hk gf) h])
     ·refine⟨i+1,⟨U,λk hk O=>?_⟩,gf,by rw[bS];rfl⟩
      by_cases e:k=i
      ·subst e;exact h
      ·exact J k gf O
    ·have V:i=l.length:=gf;repeat' first|(refine ae ?_;simp only[go_sem])|refine bp ?_|(refine bz ?_ ?_<;>intro h<;>try exact bx h)|fail
     subst V;exact bJ<|.of (by rw[G3 p l λk hk=>J k hk hk])):yI P f E:=t E func h
theorem LZ{P:Program}{f:FuncId}{E:α->I}{g:FuncId}(func:P.funcs[f]?=some F)(J:yI P g E)
  (t:∀E:α->I,P.funcs[f]?=some F->yI P g E->EF P f E:=by
   intro E func hi b l fn fs cs p H U;have J:=hi b l fn fs cs p H U;refine bg func ?_;repeat' first|((first|refine hI J ?_|refine ae ?_);simp only[go_sem])|refine bp ?_|(refine bz ?_ ?_<;>intro h<;>try exact bx h)|fail
   exact bJ<|.of (by rw[HH])):EF P f E:=t E func J
def aDz:List cK:=[.ah 0,.ah 0,.ah 0,.ah 0,.ah 0,.ah 0,.aQ,.bW []]
attribute [go_sem] aDz
theorem aGg:DK prog 126 dT:=HI 17 func126
theorem Ye:DK prog 127 bj:=HI 8 func127
theorem OU(l:List gr):∀e∈l.map dT,e.cells.length=17:=Um (E:=dT) (λ_=>rfl) l
theorem Un(l:List gr):(∀e∈l.map dT,e.cells.length=17)=True:=b1<|OU l
theorem aEn:yI prog 210 dT:=Ij 17 func210
theorem aJp:EF prog 177 dT:=LZ func177 aEn
theorem Xi(aW bA:Bool)(g:hq)(h1:g.entries.length<=1073741824)(h2:g.nodes.length<=1073741824)(H:ab):aO prog 76 [rj aW bA g] H (Dl g):=by
 refine bg func76 ?_;have J:=aGg aW g.entries h1;have U:=Ye bA g.nodes h2;simp only[rj];repeat' first|((first|refine mx [1] aDz ?_|refine ae ?_);simp only[go_sem])|refine ai ?_|fail
 exact aX<|.refl _
theorem aKu(e:gr)(a:lu)(H:ab)(i:Nat)(hi:az H i=.cells 0 [.int .i64 a.c,.int .i64 a.r]):aO prog 178 [dT e,.ref i 0 0] H (.bool<|decide (e.op.at_=a)):=by refine bg func178 ?_;simp only[dT];have J:=λL=>bX hi trivial L;refine hH ?_;exact aX<|.of (by rw[Zn])
theorem ZG(aW bA:Bool)(g:hq)(a:lu)(H:ab):aO prog 128 [rj aW bA g,DC a] H (.bool<|rq g.entries a):=by
 refine bg func128 ?_;have J:=λH i (hi:az H i=.cells 0 [.int .i64 a.c,.int .i64 a.r])=>aJp aW g.entries (.func 178) [] [.ref i 0 0] (λe=>decide<|e.op.at_=a) H (λe=>.mk (first:=[]) (λL=>aKu e a (H++L) i<|bX hi trivial L) aI)
 simp only[rj,DC];repeat' first|((first|refine ia (J _ _ mZ) aI ?_|refine kg (J _ _ mZ) aI ?_|refine kh (λ_=>J _ _ mZ) aI ?_|refine ae ?_);simp only[go_sem])|refine ai ?_|fail
 exact aX<|.refl _
def Az:List cK:=[.ah 0,.ah 0,.ah 0,.ah 0,.ah 0,.ah 0,.ah 0,.bW [false,true,true,true,true],.ah 0,.bW [false,true,true],.ah 0,.bW []]
def AA:List cK:=[.ah 0,.ah 0,.ah 0,.ah 0,.ah 0,.bW [false,true,true],.ah 0,.bW []]
def AB:List cK:=[.ah 0,.aQ,.aQ,.ah 0,.aQ,.ah 0,.ah 0,.aQ,.bW []]
attribute [go_sem] Az AA AB
theorem aJq(l:List aH)(o:bk)(hs:cG l=true)(hl:l.length<=1000000000)(H:ab)(i j:Nat)(b:Bool)
  (hi:az H i=.cells 0 [.int .i64 o.at_.c,.int .i64 o.at_.r,.int .i64 o.kind,.int .i64 o.node,.int .i64 o.parent,.str o.name,.str o.data]) (J:az H j=.cells 0 [.sl b (l.map bj)]):
  aO prog 182 [.ref i 0 0,.ref j 0 0] H (.bool<|uT l o):=by
 refine bg func182 ?_;have U:=Xt b l o.parent hs gf H;repeat' first|((first|refine hI U ?_|refine cI (Ka _ _ _) ?_|refine ae ?_);simp only[go_sem,hi,J])|refine ai ?_|fail
 refine bJ<|.of ?_;rw[uT]
theorem ZH(b:Bool)(l:List aH)(o:bk)(hs:hR o)(hl:l.length<=1000000000)(H:ab):aO prog 132 [.sl b (l.map bj),bt o] H (.aN [.sl false ((eo l o).map bj),yd<|ku l o]):=by
 refine bg func132 ?_;have bq:=DJ o hs;have n1:=Xv b l hl;simp only[bt]at bq ⊢;cases J:cG l with
 |false=>
  have T:refused l o=true:=by simp[refused,J]
  rw[eo,aC T,ku,aC T];repeat' first|((first|refine cI (lP _ _) ?_|refine mx [15] Az ?_|refine mx [16] AA ?_|refine mx [17] AB ?_|refine ae ?_);simp only[go_sem,J])|refine ai ?_|fail
  exact aX<|.refl _
 |true=>
  cases K:cp o with
  |false=>
   have T:refused l o=true:=by simp[refused,K]
   rw[eo,aC T,ku,aC T];repeat' first|((first|refine cI (lP _ _) ?_|refine mx [15] Az ?_|refine mx [16] AA ?_|refine mx [17] AB ?_|refine ae ?_);simp only[go_sem,J,K])|refine ai ?_|fail
   exact aX<|.refl _
  |true=>
   have dL:=K8 b l o.node J;have xF:=Qg b true l;have V:=K7 l o.node J;have z:=λH i j hi au=>aJq l o J hl H i j b hi au;by_cases hk:o.kind=1
   ·have O:decide (o.kind=1)=true:=dr hk;cases S:uT l o with
    |true=>
     have T:refused l o=true:=by simp[refused,hk,S]
     rw[eo,aC T,ku,aC T];repeat' first|((first|refine cI (lP _ _) ?_|refine oz (z _ _ _ (by simp only[go_sem,J,K,O,S])<|by simp only[go_sem,J,K,O,S]) aI ?_|refine oA (λ_=>z _ _ _ (by simp only[go_sem,J,K,O,S])<|by simp only[go_sem,J,K,O,S]) aI ?_|refine oB (λ_=>z _ _ _ (by simp only[go_sem,J,K,O,S])<|by simp only[go_sem,J,K,O,S]) aI ?_|refine mx [15] Az ?_|refine mx [16] AA ?_|refine mx [17] AB ?_|refine ae ?_);simp only[go_sem,J,K,O,S])|refine ai ?_|fail
     exact aX<|.refl _
    |false=>
     have T:¬refused l o=true:=by simp[refused,J,K,S]
     cases U:iR l o.node with
     |true=>
      have av:=x3 J U;have ad:=ek bj av;have hw:=eb av<|show l.length<=9223372036854775807 by omega
      have Z:=K6 J U;have e:jI l o=⟨l[pos l o.node].id,o.parent,o.name,o.at_,l[pos l o.node].data,l[pos l o.node].wrote⟩:=by unfold jI qd;rw[aC hk,Z]
      have I:upto l o.node=pos l o.node+1:=by rw[upto,aC U]
      rw[I]at V;have cM:=xF [⟨l[pos l o.node].id,o.parent,o.name,o.at_,l[pos l o.node].data,l[pos l o.node].wrote⟩] (pos l o.node) (pos l o.node+1) V.1 V.2 nc;simp only[dO,jm,bj]at cM;rw[eo,ar T,ku,ar T,e,I,Z];repeat' first|((first|refine cI (lP _ _) ?_|refine oz (z _ _ _ (by simp only[go_sem,J,K,O,U,S,ad,hw,bj])<|by simp only[go_sem,J,K,O,U,S,ad,hw,bj]) aI ?_|refine oA (λ_=>z _ _ _ (by simp only[go_sem,J,K,O,U,S,ad,hw,bj])<|by simp only[go_sem,J,K,O,U,S,ad,hw,bj]) aI ?_|refine oB (λ_=>z _ _ _ (by simp only[go_sem,J,K,O,U,S,ad,hw,bj])<|by simp only[go_sem,J,K,O,U,S,ad,hw,bj]) aI ?_|refine mx [15] Az ?_|refine mx [16] AA ?_|refine mx [17] AB ?_|refine ae ?_);simp only[go_sem,J,K,O,U,S,ad,hw,bj])|refine ai ?_|fail
      exact aX<|.of (by simp only[yd,U];rfl)
     |false=>
      have Z:=Lv U;have e:jI l o=⟨o.node,o.parent,o.name,o.at_,[],nD⟩:=by unfold jI qd;rw[aC hk,Z];rfl
      have I:upto l o.node=pos l o.node:=by rw[upto,ar<|by rw[U];decide]
      rw[I]at V;have cM:=xF [⟨o.node,o.parent,o.name,o.at_,[],nD⟩] (pos l o.node) (pos l o.node) V.1 V.2 nc;simp only[dO,jm,bj]at cM;rw[eo,ar T,ku,ar T,e,I,Z];repeat' first|((first|refine cI (lP _ _) ?_|refine oz (z _ _ _ (by simp only[go_sem,J,K,O,U,S])<|by simp only[go_sem,J,K,O,U,S]) aI ?_|refine oA (λ_=>z _ _ _ (by simp only[go_sem,J,K,O,U,S])<|by simp only[go_sem,J,K,O,U,S]) aI ?_|refine oB (λ_=>z _ _ _ (by simp only[go_sem,J,K,O,U,S])<|by simp only[go_sem,J,K,O,U,S]) aI ?_|refine mx [15] Az ?_|refine mx [16] AA ?_|refine mx [17] AB ?_|refine ae ?_);simp only[go_sem,J,K,O,U,S])|refine ai ?_|fail
      exact aX<|.of (by simp only[yd,U];rfl)
   ·have O:decide (o.kind=1)=false:=b0 hk;have T:¬refused l o=true:=by simp[refused,J,K,hk]
    cases U:iR l o.node with
    |true=>
     have av:=x3 J U;have ad:=ek bj av;have hw:=eb av<|show l.length<=9223372036854775807 by omega
     have Z:=K6 J U;have e:jI l o=⟨l[pos l o.node].id,l[pos l o.node].parent,l[pos l o.node].name,l[pos l o.node].gx,o.data,o.at_⟩:=by unfold jI qd;rw[ar hk,Z]
     have I:upto l o.node=pos l o.node+1:=by rw[upto,aC U]
     rw[I]at V;have cM:=xF [⟨l[pos l o.node].id,l[pos l o.node].parent,l[pos l o.node].name,l[pos l o.node].gx,o.data,o.at_⟩] (pos l o.node) (pos l o.node+1) V.1 V.2 nc;simp only[dO,jm,bj]at cM;rw[eo,ar T,ku,ar T,e,I,Z];repeat' first|((first|refine cI (lP _ _) ?_|refine mx [15] Az ?_|refine mx [16] AA ?_|refine mx [17] AB ?_|refine ae ?_);simp only[go_sem,J,K,O,U,ad,hw,bj])|refine ai ?_|fail
     exact aX<|.of (by simp only[yd,U];rfl)
    |false=>
     have Z:=Lv U;have e:jI l o=⟨o.node, -1,[],nD,o.data,o.at_⟩:=by unfold jI qd;rw[ar hk,Z];rfl
     have I:upto l o.node=pos l o.node:=by rw[upto,ar<|by rw[U];decide]
     rw[I]at V;have cM:=xF [⟨o.node, -1,[],nD,o.data,o.at_⟩] (pos l o.node) (pos l o.node) V.1 V.2 nc;simp only[dO,jm,bj]at cM;rw[eo,ar T,ku,ar T,e,I,Z];repeat' first|((first|refine cI (lP _ _) ?_|refine mx [15] Az ?_|refine mx [16] AA ?_|refine mx [17] AB ?_|refine ae ?_);simp only[go_sem,J,K,O,U])|refine ai ?_|fail
     exact aX<|.of (by simp only[yd,U];rfl)
theorem aKv(b:Bool)(l:List aH)(o:bk)(u:Ee)(hl:l.length<=1000000000)(H:ab):aO prog 130 [.sl b (l.map bj),bt o,yd u] H (.sl false<|(tv l o u).map bj):=by
 refine bg func130 ?_;have I:=Xv b l hl;simp only[bt,yd];cases J:cG l with
 |false=>
  have S:(!cG l|| !u.um)=true:=by simp[J]
  rw[tv,aC S];repeat' first|((first|refine cI (lP _ _) ?_|refine ae ?_);simp only[go_sem,J])|refine ai ?_|fail
  exact aX<|.refl _
 |true=>
  cases hd:u.um with
  |false=>
   have S:(!cG l|| !u.um)=true:=by simp[hd]
   rw[tv,aC S];repeat' first|((first|refine cI (lP _ _) ?_|refine ae ?_);simp only[go_sem,J,hd])|refine ai ?_|fail
   exact aX<|.refl _
  |true=>
   have S:¬(!cG l|| !u.um)=true:=by simp[J,hd]
   have z:=K8 b l o.node J;have Z:=Qg b true l;have T:=K7 l o.node J;rw[tv,ar S];cases aM:(gd o.node&&u.iR&&decide (u.b5.id=o.node))with
   |true=>
    rw[aC rfl];have K:=Z [u.b5] (pos l o.node) (upto l o.node) T.1 T.2 nc;simp only[dO,jm,bj]at K;cases U:iR l o.node with
    |true=>
     have V:=x3 J U;have hw:=eb V<|show l.length<=9223372036854775807 by omega
     have O:upto l o.node=pos l o.node+1:=by rw[upto,aC U]
     rw[O]at K ⊢;repeat' first|((first|refine cI (lP _ _) ?_|refine cI (yH _) ?_|refine ae ?_);simp only[go_sem,J,hd,U,hw,aM])|refine ai ?_|fail
     exact aX<|.refl _
    |false=>
     have O:upto l o.node=pos l o.node:=by rw[upto,ar<|by rw[U];decide]
     rw[O]at K ⊢;repeat' first|((first|refine cI (lP _ _) ?_|refine cI (yH _) ?_|refine ae ?_);simp only[go_sem,J,hd,U,aM])|refine ai ?_|fail
     exact aX<|.refl _
   |false=>
    rw[ar ko];have K:=Z [] (pos l o.node) (upto l o.node) T.1 T.2 nc;simp only[jm]at K;cases U:iR l o.node with
    |true=>
     have V:=x3 J U;have hw:=eb V<|show l.length<=9223372036854775807 by omega
     have O:upto l o.node=pos l o.node+1:=by rw[upto,aC U]
     rw[O]at K ⊢;repeat' first|((first|refine cI (lP _ _) ?_|refine cI (yH _) ?_|refine ae ?_);simp only[go_sem,J,hd,U,hw,aM])|refine ai ?_|fail
     exact aX<|.refl _
    |false=>
     have O:upto l o.node=pos l o.node:=by rw[upto,ar<|by rw[U];decide]
     rw[O]at K ⊢;repeat' first|((first|refine cI (lP _ _) ?_|refine cI (yH _) ?_|refine ae ?_);simp only[go_sem,J,hd,U,aM])|refine ai ?_|fail
     exact aX<|.refl _
theorem oE(H:ab)(i:Nat)(b:bD):(an H i b).length=H.length:=by simp[an]
theorem ht{j:Nat}(h:i≠j)(b:bD):az (an H i b) j=az H j:=by simp only[az,an,gg];rw[gS h]
theorem yQ(h:i<H.length)(b:bD):az (an H i b) i=b:=by simp only[az,an,gg];rw[rB h];rfl
theorem zy{k:Nat}(h:G.length=n):az (G++L) (n+k)=L.getD k .gone:=by subst h;exact Bn _ _ _
theorem tl(h:G.length=n):az (G++L) n=L.getD 0 .gone:=by subst h;exact uP _ _
theorem GS{k:Nat}(h:G.length=n)(b:bD):an (G++L) (n+k) b=G++L.set k b:=by subst h;exact Ll _ _ _ _
theorem On(h:G.length=n)(b:bD):an (G++L) n b=G++L.set 0 b:=by subst h;exact O0 _ _ _
theorem Wr(es:List gr)(e:gr):((es++[e]).map dT).flatMap I.cells=(es.map dT).flatMap I.cells++(dT e).cells:=by rw[qz,qx];simp
theorem aKw(b:Bool)(es:List gr)(n:List aH)(o:bk)(hs:hR o)(hl:n.length<=1000000000)(he:es.length<=1000000)(H:ab)(i j:Nat)(K:i≠j)
  (hi:az H i=.cells 0 [.sl b (n.map bj)]) (U:az H j=.cells 0 [.sl true (es.map dT)]):
  cV prog 131 [bt o,.ref i 0 0,.ref j 0 0] H (λx H'=>x=.aN []/\
   ∃fL aW,H'=an (an H i<|.cells 0 [.sl false ((eo n o).map bj)]) j (.cells 0 [.osl 17 (H.length+2) 1 0 (es.length+1) (es.length+1)])++([fL,aW,.cells 1<|((es++[(⟨o,ku n o⟩:gr)]).map dT).flatMap I.cells]:ab)):=by
 refine mS func131 ?_;have O:=ZH b n o hs hl;have S:=λL=>bX hi trivial L;have T:i<H.length:=cZ hi trivial;have V:j<H.length:=cZ U trivial;have f1:=λL b=>gU T L b;have f2:=λb=>oE H i b;have f3:∀L b k,az (an H i b++L) (H.length+k)=L.getD k .gone:=λL b k=>zy<|oE H i b
 have f30:∀L b,az (an H i b++L) H.length=L.getD 0 .gone:=λL b=>tl<|oE H i b
 have f4:∀L b k J,an (an H i b++L) (H.length+k) J=an H i b++L.set k J:=λL b k J=>GS (oE H i b) J;have f5:∀L b,az (an H i b++L) j=.cells 0 [.sl true (es.map dT)]:=λL b=>bX ((ht K b).trans U) trivial L;have f6:∀L b J,an (an H i b++L) j J=an (an H i b) j J++L:=λL b J=>gU (by rw[oE];exact V) L J
 have Z:=Wr es ⟨o,ku n o⟩;have z:=Un es;simp only[bt,yd]at O ⊢;repeat' first|(refine ae ?_;simp only[go_sem,hi,U,S,f1,f2,f3,f30,f4,f5,f6,z])|refine bp ?_|(refine bz ?_ ?_<;>intro h<;>try exact bx h)|fail
 rw[Z];exact⟨⟨.inr trivial,λe he=>by rw[he];rfl,gf⟩,_,_,rfl⟩
theorem aKx(b:Bool)(es:List gr)(n:List aH)(o:bk)(hs:hR o)(hl:n.length<=1000000000)(he:es.length<=1000000)(H:ab)(i j k v:Nat)(S:i≠j)(O:i≠k)(T:j≠k)(V:v≠0)
  (hi:az H i=.cells 0 [.sl b (n.map bj)]) (U:az H j=.cells 0 [.osl 17 k v 0 es.length es.length]) (hk:az H k=.cells v ((es.map dT).flatMap I.cells)):
  cV prog 131 [bt o,.ref i 0 0,.ref j 0 0] H (λx H'=>x=.aN []/\
   ∃fL aW,H'=an (an (an H i (.cells 0 [.sl false ((eo n o).map bj)])) k<|.cells (v+1) (((es++[(⟨o,ku n o⟩:gr)]).map dT).flatMap I.cells)) j (.cells 0 [.osl 17 k (v+1) 0 (es.length+1) (es.length+1)])++([fL,aW]:ab)):=by
 refine mS func131 ?_;have Z:=ZH b n o hs hl;have z:=λL=>bX hi trivial L;have RW:i<H.length:=cZ hi trivial;have RZ:j<H.length:=cZ U trivial;have CM:k<H.length:=cZ hk trivial;have f1:=λL b=>gU RW L b;have f2:=λb=>oE H i b;have f3:∀L b k,az (an H i b++L) (H.length+k)=L.getD k .gone:=λL b k=>zy<|oE H i b
 have f30:∀L b,az (an H i b++L) H.length=L.getD 0 .gone:=λL b=>tl<|oE H i b
 have f4:∀L b k J,an (an H i b++L) (H.length+k) J=an H i b++L.set k J:=λL b k J=>GS (oE H i b) J;have f5:∀L b,az (an H i b++L) j=.cells 0 [.osl 17 k v 0 es.length es.length]:=λL b=>bX ((ht S b).trans U) trivial L;have f6:∀L b,az (an H i b++L) k=.cells v ((es.map dT).flatMap I.cells):=λL b=>bX ((ht O b).trans hk) trivial L;have f7:∀L b J,an (an H i b++L) k J=an (an H i b) k J++L:=λL b J=>gU (by rw[oE];exact CM) L J
 have f8:∀L b J K,an (an (an H i b) k J++L) j K=an (an (an H i b) k J) j K++L:=λL b J K=>gU (by rw[oE,oE];exact RZ) L K
 have f9:∀L b J,az (an (an H i b) k J++L) j=.cells 0 [.osl 17 k v 0 es.length es.length]:=λL b J=>bX ((ht T.symm J).trans ((ht S b).trans U)) trivial L;have Ra:=Wr es ⟨o,ku n o⟩;have eG:=Un es;have eh:(List.flatMap I.cells (es.map dT)).length=es.length * 17:=(J9 (OU es)).trans<|by rw[dq]
 simp only[bt,yd]at Z ⊢;repeat' first|(refine ae ?_;simp only[go_sem,hi,U,z,f1,f2,f3,f30,f4,f5,f6,f7,f8,f9,eG,eh,V])|refine bp ?_|(refine bz ?_ ?_<;>intro h<;>try exact bx h)|fail
 rw[Ra];exact⟨⟨λe he=>by rw[he];rfl,gf⟩,_,_,rfl⟩
def xd{ι:Type}(F:ι->a8)(eW:ι->ab)(pre:ι->Prop)(Q:c3):c3
 |.normal,α,H=>∃y,pre y/\yG (F y) α/\H=eW y
 |e,α,H=>Q e α H
section
variable {ι:Type} (F:ι->a8) (eW:ι->ab) (pre:ι->Prop) (Q:c3) (α:a8) (H:ab)
@[go_sem] theorem aUo:xd F eW pre Q .normal α H=∃y,pre y/\yG (F y) α/\H=eW y:=rfl
@[go_sem] theorem aWd(i:Nat):xd F eW pre Q (.exit i) α H=Q (.exit i) α H:=rfl
@[go_sem] theorem aWk:xd F eW pre Q .ret α H=Q .ret α H:=rfl
end
theorem Al{x:Code}{α:a8}(F:ι->a8)(eW:ι->ab)(pre:ι->Prop)(h1:cF P N x (xd F eW pre Q) α H)(h2:∀i,pre i->cF P N y Q (F i) (eW i)):cF P N (.seq x y) Q α H:=by
 refine HR<|Bv h1 λe J H' h=>?_
 cases e with
 |normal=>obtain⟨i,ad,hs,rfl⟩:=h;exact Ke (h2 i ad)<|xu hs
 |_=>exact h
theorem n8{id:Nat}{x:Code}{α:a8}(F:ι->a8)(eW:ι->ab)(pre:ι->Prop)(h1:cF P N x (ri id<|xd F eW pre Q) α H)(h2:∀i,pre i->cF P N y Q (F i) (eW i)):cF P N x (ri id<|wN P N y Q) α H:=by
 refine Bv h1 λe J H' h=>?_;have key:xd F eW pre Q .normal J H'->wN P N y Q .normal J H':=fun⟨i,ad,hs,hH⟩=>by subst hH;exact Ke (h2 i ad)<|xu hs
 cases e with
 |normal=>exact key h
 |exit i=>
  simp only[ri]at h ⊢;by_cases hi:i==id
  ·rw[hi,tM]at h ⊢;exact key h
  ·have U:(i==id)=false:=oq hi;rw[U,vn]at h ⊢;exact h
 |_=>exact h
def Ga:List cK:=[.ah 0,.ah 0,.ah 0,.ah 0,.ah 0,.bW [true,true,true,true,true],.bW [true,true,true],.aQ]
attribute [go_sem] Ga
def Kx(o:bk):List I:=[.int .i64 o.at_.c,.int .i64 o.at_.r,.int .i64 o.kind,.int .i64 o.node,.int .i64 o.parent,.str o.name,.str o.data]
def Cf(g:hq)(e:Int):I:=.aN [Dl g,.int .i64 e]
def aMy(l:List gr):Prop:=∀e∈l,hR e.op
theorem Ws:∀(i:Nat) (x y:I),([]:List I)[i]?=some x->([]:List I)[i]?=some y->cJ n H x y:=λ_ _ _ h=>by simp at h
theorem NW{a b:I}(h:cJ n H a b)(hs:∀(i:Nat) (x y:I),cs[i]?=some x->br[i]?=some y->cJ n H x y):∀(i:Nat) (x y:I),(a::cs)[i]?=some x->(b::br)[i]?=some y->cJ n H x y
 |0,x,y,J,U=>by simp at J U;subst J;subst U;exact h
 |i+1,x,y,J,U=>hs i x y (oq J)<|oq U
theorem Zk{M:ab}(a7:H++(M++L)=G):G++X=H++(M++(L++X)):=by rw[<-a7];simp only[c6]
theorem lz(h:∃M,X=H++M)(hi:H.length<=i)(b:bD):∃M,an X i b=H++M:=by obtain⟨M,rfl⟩:=h;obtain⟨k,rfl⟩:∃k,i=H.length+k:=⟨i-H.length,gf⟩;exact⟨M.set k b,Ll _ _ _ _⟩
theorem GU(h:∃M,X=H++M)(L:ab):∃M,X++L=H++M:=by obtain⟨M,rfl⟩:=h;exact⟨M++L,c6 ..⟩
theorem Yw(aW bA:Bool)(g:hq)(o:bk)(hs:hR o)(s9:aMy g.entries)(h2:g.nodes.length<=1000000)(h1:g.entries.length<=1000000)(H:ab):aO prog 77 [rj aW bA g,bt o] H (Cf (fo g o)<|nG g o):=by
 have bq:=DJ o hs;have n1:=Xi aW bA g gf gf;have vX:=ZG aW bA g o.at_;refine bg func77 ?_;have iy:=nB [(7,Ga)];simp only[bt,Dl,rj,DC,Cf]at bq n1 vX ⊢;cases U:cp o with
 |false=>rw[fo,aC U,nG,aC U];refine hH ?_;exact aX<|.refl _
 |true=>
  cases Z:rq g.entries o.at_ with
  |true=>
   rw[fo,ar (by rw[U];decide),aC Z,nG,ar (by rw[U];decide),aC Z]
   refine hH ?_;exact aX<|.refl _
  |false=>
   by_cases hm:(200:Int)<=(g.entries.length:Int)
   ·rw[fo,ar (by rw[U];decide),ar (by rw[Z];decide),aC hm,nG,ar (by rw[U];decide),ar (by rw[Z];decide),aC hm]
    refine hH ?_;exact aX<|.refl _
   ·rw[fo,ar (by rw[U];decide),ar (by rw[Z];decide),ar hm,nG,ar (by rw[U];decide),ar (by rw[Z];decide),ar hm]
    refine hH ?_;have vO:=λl e u hl=>aKv false l e u hl;simp only[bt,yd]at vO;refine Lu (H.length+3) [.sl false (g.nodes.map bj)] (v:=0) (cs:=[.sl bA (g.nodes.map bj)]) mZ rfl (de (.sl _ _) kZ) ?_;simp only[go_sem];refine n8 (ι:=Nat×List aH×ab)
     (λx=>[(2,.ref H.length 0 0),(3,.ref (H.length+1) 0 0),(4,.ref (H.length+2) 0 0),(6,.ref (H.length+3) 0 0),(7,.int .i64 ((g.entries.length-x.1:Nat):Int))])
     (λx=>H++([.cells 0 [.sl aW (g.entries.map dT),.sl bA<|g.nodes.map bj],.cells 0<|Kx o,.cells 0 [.sl true [],.sl true []],.cells 0 [.sl false (x.2.1.map bj)]]++x.2.2))
     (λx=>x.1<=g.entries.length/\x.2.1.length<=g.nodes.length+x.1/\je o.at_ g.entries.reverse g.nodes=(x.1,x.2.1)) ?_ ?_
    ·refine c7 (ι:=Nat×List aH×ab)
      (λx=>[(2,.ref H.length 0 0),(3,.ref (H.length+1) 0 0),(4,.ref (H.length+2) 0 0),(6,.ref (H.length+3) 0 0),(7,.int .i64 ((g.entries.length-x.1:Nat):Int)),(41,.int .i64 g.entries.length),(42,.int .i64 x.1)])
      (λx=>H++([.cells 0 [.sl aW (g.entries.map dT),.sl bA<|g.nodes.map bj],.cells 0<|Kx o,.cells 0 [.sl true [],.sl true []],.cells 0 [.sl false (x.2.1.map bj)]]++x.2.2))
      (λx=>x.1<=g.entries.length/\x.2.1.length<=g.nodes.length+x.1/\je o.at_ g.entries.reverse g.nodes=(x.1+(je o.at_ (g.entries.reverse.drop x.1) x.2.1).1,(je o.at_ (g.entries.reverse.drop x.1) x.2.1).2)) (λx=>g.entries.length-x.1) (0,g.nodes,[]) ⟨cb _,bh _,hW⟩ ?_ (by simp[Kx]) ?_
     ·simp[go_sem]
     ·rintro⟨i,n,L⟩ ⟨hi,af,he⟩;simp only[Kx]at hi af he ⊢;generalize a7:H++([bD.cells 0 [I.sl aW (g.entries.map dT),.sl bA<|g.nodes.map bj],.cells 0 [.int .i64 o.at_.c,.int .i64 o.at_.r,.int .i64 o.kind,.int .i64 o.node,.int .i64 o.parent,.str o.name,.str o.data],.cells 0 [.sl true [],.sl true []],.cells 0 [.sl false (n.map bj)]]++L)=G;have MX:H.length+3<G.length:=by rw[<-a7];simp
      have z:az G H.length=.cells 0 [I.sl aW (g.entries.map dT),.sl bA<|g.nodes.map bj]:=by rw[<-a7];simp only[go_sem]
      have aL:az G (H.length+1)=.cells 0 [.int .i64 o.at_.c,.int .i64 o.at_.r,.int .i64 o.kind,.int .i64 o.node,.int .i64 o.parent,.str o.name,.str o.data]:=by rw[<-a7];simp only[go_sem]
      have S:az G (H.length+3)=.cells 0 [.sl false (n.map bj)]:=by rw[<-a7];simp only[go_sem]
      have NG:=λM=>bX z trivial M;have Tl:=λM=>bX aL trivial M;have Tm:=λM=>bX S trivial M;have bI:=λM b=>gU MX M b;have aR0:∀b,an G (H.length+3) b=H++([bD.cells 0 [I.sl aW (g.entries.map dT),.sl bA<|g.nodes.map bj],.cells 0 [.int .i64 o.at_.c,.int .i64 o.at_.r,.int .i64 o.kind,.int .i64 o.node,.int .i64 o.parent,.str o.name,.str o.data],.cells 0 [.sl true [],.sl true []],b]++L):=λb=>by rw[<-a7];simp only[go_sem]
      by_cases J:i<g.entries.length
      ·have p0:g.entries.length-1-i<g.entries.length:=gf;have ad:=ek dT p0;have ax:IntKind.i64.wrap (IntKind.i64.wrap ((g.entries.length:Int)-1)-(i:Int))=((g.entries.length-1-i:Nat):Int):=by
        rw[wrap_i64 (n:=(g.entries.length:Int)-1) gf gf,bS];omega
       have ju:g.entries.reverse.drop i=g.entries[g.entries.length-1-i]::g.entries.reverse.drop (i+1):=by rw[ir (oq J)];congr 1;rw[List.getElem_reverse]
       rw[ju,je]at he;repeat' first|((first|refine cI (PQ _ _ _ _) ?_|refine ia (vO _ _ _ (by first|assumption|decide|omega|(simp_all;done)|(simp_all;omega)) _) aI ?_|refine kg (vO _ _ _ (by first|assumption|decide|omega|(simp_all;done)|(simp_all;omega)) _) aI ?_|refine kh (λ_=>vO _ _ _ (by first|assumption|decide|omega|(simp_all;done)|(simp_all;omega)) _) aI ?_|refine mx [7] Ga ?_|refine ae ?_);simp only[go_sem,ad,dT,ax,z,aL,S,NG,Tl,Tm,bI])|refine bp ?_|(refine bz ?_ ?_<;>intro h<;>try exact bx h)|fail
       ·have lL:¬lN o.at_ g.entries[g.entries.length-1-i].op.at_=true:=by
         rw[yq];unfold lN;simpa using h
        rw[ar lL]at he;exact⟨(i,n,L++[_]),⟨hi,af,by rw[he];rfl⟩,rfl,Zk a7⟩
       ·have lL:lN o.at_ g.entries[g.entries.length-1-i].op.at_=true:=by unfold lN;simpa using h
        rw[aC lL]at he;have pW:=V6 n g.entries[g.entries.length-1-i].op g.entries[g.entries.length-1-i].qu;refine⟨(i+1,tv n g.entries[g.entries.length-1-i].op g.entries[g.entries.length-1-i].qu,L++[_]),⟨J,by simp only;omega,by rw[he];simp only[DS,and_true];omega⟩,by simp only;omega,⟨b7 _ ?_,b7 _<|eb J gf⟩,Zk (aR0 _).symm⟩
        simp only;rw[bS];omega
      ·repeat' first|((first|refine mx [7] Ga ?_|refine ae ?_);simp only[go_sem,z,aL,S,J])|refine ai ?_|fail
       have MU:i=g.entries.length:=gf;have RH:g.entries.reverse.drop i=[]:=List.drop_of_length_le nc;rw[RH]at he;exact⟨(i,n,L),⟨hi,af,by rw[he];rfl⟩,rfl,by rw[<-a7];simp only[go_sem]⟩
    ·rintro⟨c,n,L⟩ ⟨ao,af,he⟩;simp only[Kx]at ao af he ⊢;rw[he];simp only;generalize a7:H++([bD.cells 0 [I.sl aW (g.entries.map dT),.sl bA<|g.nodes.map bj],.cells 0 [.int .i64 o.at_.c,.int .i64 o.at_.r,.int .i64 o.kind,.int .i64 o.node,.int .i64 o.parent,.str o.name,.str o.data],.cells 0 [.sl true [],.sl true []],.cells 0 [.sl false (n.map bj)]]++L)=G;have MX:H.length+3<G.length:=by rw[<-a7];simp
     have aBM:∃M,G=H++M:=⟨_,a7.symm⟩;have z:az G H.length=.cells 0 [I.sl aW (g.entries.map dT),.sl bA<|g.nodes.map bj]:=by rw[<-a7];simp only[go_sem]
     have aL:az G (H.length+1)=.cells 0 [.int .i64 o.at_.c,.int .i64 o.at_.r,.int .i64 o.kind,.int .i64 o.node,.int .i64 o.parent,.str o.name,.str o.data]:=by rw[<-a7];simp only[go_sem]
     have aR:az G (H.length+2)=.cells 0 [.sl true [],.sl true []]:=by rw[<-a7];simp only[go_sem]
     have S:az G (H.length+3)=.cells 0 [.sl false (n.map bj)]:=by rw[<-a7];simp only[go_sem]
     have NG:=λM=>bX z trivial M;have Tl:=λM=>bX aL trivial M;have Tm:=λM=>bX S trivial M;have t1:List.take (g.entries.length-c) (List.map dT g.entries)=List.map dT (g.entries.take<|g.entries.length-c):=vl.symm;have t2:List.drop (g.entries.length-c) (List.map dT g.entries)=List.map dT (g.entries.drop<|g.entries.length-c):=yk.symm;have RC:=aKw false (g.entries.take (g.entries.length-c)) n o hs gf nc (G++[.cells 0 [.sl true ((g.entries.take (g.entries.length-c)).map dT)]]) (H.length+3) G.length gf (bX S trivial _)<|uP _ _
     simp only[bt]at RC;refine hH ?_;refine pT RC aI ?_;rintro x H' ⟨rfl,e2,c1,K⟩;simp only[go_sem];have cM:(G++[bD.cells 0 [I.sl true ((g.entries.take (g.entries.length-c)).map dT)]]).length=G.length+1:=hW;have iS:=PT n o;have eV:(g.entries.take (g.entries.length-c)).length=g.entries.length-c:=by rw[gK];omega
     rw[cM,eV]at K;have bd:az H' H.length=.cells 0 [I.sl aW (g.entries.map dT),.sl bA<|g.nodes.map bj]:=by rw[K];exact bX ((ht gf _).trans ((ht gf _).trans (NG _))) trivial _
     have aY:az H' (H.length+2)=.cells 0 [.sl true [],.sl true []]:=by rw[K];exact bX ((ht gf _).trans ((ht gf _).trans (bX aR trivial _))) trivial _
     have a6:az H' (H.length+3)=.cells 0 [.sl false ((eo n o).map bj)]:=by rw[K];exact bX (b:=.cells 0 [.sl false ((eo n o).map bj)]) ((ht gf _).trans (yQ (by rw[cM];omega) _)) trivial _
     have aCU:az H' G.length=.cells 0 [.osl 17 (G.length+3) 1 0 (g.entries.length-c+1) (g.entries.length-c+1)]:=by rw[K];exact bX (b:=.cells 0 [.osl 17 (G.length+3) 1 0 (g.entries.length-c+1) (g.entries.length-c+1)]) (yQ (by rw[oE,cM];omega) _) trivial _
     have Tp:az H' (G.length+3)=.cells 1 (((g.entries.take (g.entries.length-c)++[(⟨o,ku n o⟩:gr)]).map dT).flatMap I.cells):=by rw[K];exact zy (n:=G.length+1) (k:=2)<|by rw[oE,oE,cM]
     have GO:∃M,H'=H++M:=by rw[K];exact GU (lz (lz (GU aBM _) gf _) gf _) _
     have aOz:H.length+3<G.length:=MX;generalize G.length=B at bd aY a6 aCU Tp aOz ⊢;clear K a7 aBM z aL aR S NG Tl Tm RC cM MX;refine bL @Un ?_;clear bq n1 vX vO he;refine c7 (ι:=Nat×ab) (λx=>[(4,.ref (H.length+2) 0 0),(6,.ref (H.length+3) 0 0),(10,.ref B 0 0),(11,.func (.func 131) [] [.ref (H.length+3) 0 0,.ref B 0 0]),(83,.sl aW<|(g.entries.drop (g.entries.length-c)).map dT),(84,.int .i64 ((g.entries.drop (g.entries.length-c)).length:Int)),(85,.int .i64 x.1)])
      (λx=>x.2)
      (λx=>x.1<=(g.entries.drop (g.entries.length-c)).length/\az x.2 (H.length+2)=.cells 0 [.sl true [],.sl true []]/\
       az x.2 (H.length+3)=.cells 0 [.sl false ((fh (o::((g.entries.drop (g.entries.length-c)).take x.1).map gr.op) (g.entries.take<|g.entries.length-c) n).2.map bj)]/\
       az x.2 B=.cells 0 [.osl 17 (B+3) (x.1+1) 0 (fh (o::((g.entries.drop (g.entries.length-c)).take x.1).map gr.op) (g.entries.take<|g.entries.length-c) n).1.length (fh (o::((g.entries.drop (g.entries.length-c)).take x.1).map gr.op) (g.entries.take<|g.entries.length-c) n).1.length]/\
       az x.2 (B+3)=.cells (x.1+1) (((fh (o::((g.entries.drop (g.entries.length-c)).take x.1).map gr.op) (g.entries.take<|g.entries.length-c) n).1.map dT).flatMap I.cells)/\∃M,x.2=H++M) (λx=>(g.entries.drop (g.entries.length-c)).length-x.1) (0,H')
      ⟨cb _,aY,by simpa[fh]using a6,by simpa[fh,eV]using aCU,by simpa[fh]using Tp,GO⟩ ?_ rfl ?_
     ·simp[go_sem]
     ·rintro⟨m,X⟩ ⟨CQ,s2,T,V,O,TA⟩;simp only at CQ s2 T V O TA ⊢;have te:=WM (o::((g.entries.drop (g.entries.length-c)).take m).map gr.op) (g.entries.take<|g.entries.length-c) n;have aYq:(g.entries.drop (g.entries.length-c)).length<=g.entries.length:=by rw[hp];omega
      have FY:((o::((g.entries.drop (g.entries.length-c)).take m).map gr.op)).length=m+1:=by simp;rw[hp]at CQ;omega
      rw[FY,eV]at te;by_cases J:m<(g.entries.drop (g.entries.length-c)).length
      ·have ad:=ek dT J;have pk:(g.entries.drop (g.entries.length-c))[m]∈g.entries:=zJ<|fQ J;have nY:=s9 _ pk;have mB:=V7 (o::((g.entries.drop (g.entries.length-c)).take m).map gr.op) (g.entries.drop<|g.entries.length-c)[m].op (g.entries.take<|g.entries.length-c) n;have ik:(o::((g.entries.drop (g.entries.length-c)).take m).map gr.op)++[(g.entries.drop (g.entries.length-c))[m].op]=o::((g.entries.drop (g.entries.length-c)).take (m+1)).map gr.op:=by
        rw[hc J,qz];rfl
       rw[ik]at mB;generalize eY:fh (o::((g.entries.drop (g.entries.length-c)).take m).map gr.op) (g.entries.take<|g.entries.length-c) n=R at T V O te mB;have dk:H.length+3<X.length:=cZ T trivial;have cf:B<X.length:=cZ V trivial;have bL:B+3<X.length:=cZ O trivial;have aC4:=λM=>bX T trivial M
       have aC5:=λM=>bX V trivial M;have MH:=λE=>aKx false R.1 R.2 (g.entries.drop<|g.entries.length-c)[m].op nY gf gf (X++[E]) (H.length+3) B (B+3) (m+1) gf gf gf gf (aC4 _) (aC5 _) (bX O trivial _)
       simp only[bt]at MH;have R7:decide ((m:Int)<((g.entries.drop (g.entries.length-c)).length:Int))=true:=cS;repeat' first|((first|refine mx [7] Ga ?_|refine ae ?_);simp only[go_sem,ad,dT,aC4,aC5,R7])|refine ai ?_|fail
       refine pT (MH _) aI ?_;rintro x BN ⟨rfl,d0,d1,IV⟩;simp only[go_sem];refine a7 ?_;have cH:(X++[bD.cells 0 (dT (g.entries.drop<|g.entries.length-c)[m]).cells]).length=X.length+1:=hW
       refine⟨(m+1,BN),⟨J,?_,?_,?_,?_,?_⟩,by simp only;omega,b7 _<|eb J gf,rfl⟩
       ·simp only;rw[IV];exact bX ((ht gf _).trans ((ht gf _).trans ((ht gf _).trans (bX s2 trivial _)))) trivial _
       ·simp only;rw[IV,mB];refine bX (b:=.cells 0 [.sl false ((eo R.2 (g.entries.drop<|g.entries.length-c)[m].op).map bj)]) ((ht gf _).trans ((ht gf _).trans (yQ ?_ _))) trivial _
        rw[bw];omega
       ·simp only;rw[IV,mB];have aa:=yQ (H:=an (an (X++[bD.cells 0 (dT (g.entries.drop (g.entries.length-c))[m]).cells]) (H.length+3) (.cells 0 [.sl false ((eo R.2 (g.entries.drop (g.entries.length-c))[m].op).map bj)])) (B+3) (.cells (m+1+1) (((R.1++[(⟨(g.entries.drop (g.entries.length-c))[m].op,ku R.2 (g.entries.drop (g.entries.length-c))[m].op⟩:gr)]).map dT).flatMap I.cells))) (i:=B) (by rw[oE,oE,cH];omega)<|.cells 0 [.osl 17 (B+3) (m+1+1) 0 (R.1.length+1) (R.1.length+1)]
        refine(bX aa trivial _).trans ?_;rw[bw];rfl
       ·simp only;rw[IV,mB];refine bX (b:=.cells (m+1+1)<|((R.1++[(⟨(g.entries.drop (g.entries.length-c))[m].op,ku R.2 (g.entries.drop (g.entries.length-c))[m].op⟩:gr)]).map dT).flatMap I.cells) ((ht gf _).trans (yQ ?_ _)) trivial _
        rw[oE,bw];omega
       ·simp only;rw[IV];exact GU (lz (lz (lz (GU TA _) gf _) gf _) gf _) _
      ·have aPX:m=(g.entries.drop (g.entries.length-c)).length:=gf;subst aPX;rw[fe]at T V O te;have R7:decide (((g.entries.drop (g.entries.length-c)).length:Int)<((g.entries.drop (g.entries.length-c)).length:Int))=false:=hW;obtain⟨M,pa⟩:=TA;have aOl:H.length+2<X.length:=cZ s2 trivial;have aY6:=O;generalize Fw:(fh (o::(g.entries.drop (g.entries.length-c)).map gr.op) (g.entries.take<|g.entries.length-c) n)=R at T V O te ⊢;have aC6:∀b,az (an X (H.length+2) b) (H.length+2)=b:=λb=>yQ aOl b;repeat' first|((first|refine mx [7] Ga ?_|refine ae ?_);simp only[go_sem,s2,T,V,R7,aC6])|refine ai ?_|fail
       obtain⟨M2,Rr⟩:=lz ⟨M,pa⟩ (i:=H.length+2) gf<|.cells 0 [.osl 17 (B+3) ((g.entries.drop (g.entries.length-c)).length+1) 0 R.1.length R.1.length,.sl false (R.2.map bj)];refine⟨M2,_,Rr,?_,rfl⟩;refine .aN _ _ rfl<|NW (.agg _ _ rfl (NW ?_ (NW (.cl _ (b9.cl mZ _)) Ws))) (NW (.cl _ (.int _ _)) Ws)
       exact q8 (es:=R.1.map dT) (rest:=[]) gf ((ht gf _).trans O) (cE _).symm (by rw[dq]) (OU _)<|K9 (λ_=>mZ) _
namespace Go.Srt
section
variable {α:Type} (lt:α->α->Bool)
structure SWO:Prop where
 aYP:∀a,lt a a=false
 aYV:∀a b c,lt a b=false->lt b c=false->lt a c=false
 aXd:∀a b,lt a b=true->lt b a=false
def eqv(k x:α):Bool:= !lt k x&& !lt x k
def UG(l:List α):Prop:=l.Pairwise λa b=>lt b a=false
def KX(xs ys:List α):Prop:=ys.length=xs.length/\∀k,ys.filter (eqv lt k)=xs.filter (eqv lt k)
variable {lt}
theorem KX.trans{a b c:List α}(h:KX lt a b)(k:KX lt b c):KX lt a c:=⟨k.1.trans h.1,λx=>(k.2 x).trans<|h.2 x⟩
theorem UG.nil:UG lt ([]:List α):=List.Pairwise.nil
end
end Go.Srt
section
def uv(D:List bk):List I:=(D.map bt).flatMap I.cells
where
 aY2 (l:List bk):∀e∈l.map bt,b9 e:=λe he=>by obtain⟨x,_,rfl⟩:=bP.1 he;exact mZ
theorem LD{b:bD}(U:ed n b):∀(j:Nat) (c:bD),(an H i b)[j]?=some c->H[j]?=some c\/ed n c:=by
 intro j c J;by_cases e:i=j
 ·subst e;unfold an at J;by_cases hl:i<H.length
  ·rw[rB hl]at J;cases J;exact .inr U
  ·rw[wW (by rw[kx];omega)]at J;cases J
 ·unfold an at J;rw[gS e]at J;exact .inl J
theorem aLO{m:Int}(h:(n:Int)=m)(af:n<=9223372036854775807):IntKind.i64.wrap m=(n:Int):=by subst h;exact bS
theorem Ky{P:Program}{x:Code}{α:a8}(F:ι->a8)(eW:ι->ab)(pre:ι->Prop)(h1:cF P N x (xd F eW pre Q) α H)(h2:∀i,pre i->cF P N y Q (F i) (eW i)):cF P N x (wN P N y Q) α H:=by
 refine Bv h1 λe J H' h=>?_;cases e with
 |normal=>obtain⟨i,ad,hs,rfl⟩:=h;exact Ke (h2 i ad)<|xu hs
 |_=>exact h
open Go.Srt
end
def jY(b:UInt8):List UInt8->List (List UInt8)
 |[]=>[[]]
 |c::l=>match jY b l with
  |[]=>[[]]
  |h::t=>if c=b then[]::h::t else(c::h)::t
theorem OA(b:UInt8)(l:List UInt8):jY b l≠[]:=by
 cases l with
 |nil=>simp[jY]
 |cons c l=>rw[jY];split;simp;split<;>simp
theorem Va{b:UInt8}(h:Lib.indexByte l b<0):jY b l=[l]/\Lib.countByte l b=0:=by
 induction l with
 |nil=>exact⟨rfl,rfl⟩
 |cons c l U=>
  rw[Lib.indexByte]at h;split at h
  ·omega
  ·rename_i h1;have h2:Lib.indexByte l b<0:=by
    have:=Lib.indexByte_ge l b;split at h
    ·rename_i h3;have:Lib.indexByte l b= -1:=oq h3;omega
    ·omega
   obtain⟨ax,J⟩:=U h2;have h3:¬c=b:=oq h1;refine⟨by rw[jY,ax];simp[h3],?_⟩
   unfold Lib.countByte at J ⊢;rw[List.count_cons,J];simp[h3]
theorem Vb{b:UInt8}{k:Nat}(h:Lib.indexByte l b=k):k<l.length/\jY b l=l.take k::jY b (l.drop<|k+1)/\Lib.countByte l b=Lib.countByte (l.drop<|k+1) b+1:=by
 induction l generalizing k with
 |nil=>rw[Lib.indexByte]at h;omega
 |cons c l J=>
  rw[Lib.indexByte]at h;split at h
  ·rename_i h1;have h1:c=b:=oq h1;have hk:k=0:=gf;subst hk;subst h1;refine⟨hW,?_,?_⟩
   ·rw[jY];cases hs:jY c l with
    |nil=>exact absurd hs<|OA c l
    |cons x t=>simp[hs]
   ·unfold Lib.countByte;simp
  ·rename_i h1;have h3:¬c=b:=oq h1;split at h
   ·omega
   ·obtain⟨j,rfl⟩:∃j,k=j+1:=⟨k-1,by
     rename_i h4;have:=Lib.indexByte_ge l b;have K:¬Lib.indexByte l b= -1:=oq h4;omega⟩
    obtain⟨U,a2,a3⟩:=J (k:=j) gf;refine⟨oq U,?_,?_⟩
    ·rw[jY,a2];simp[h3]
    ·unfold Lib.countByte at a3 ⊢;rw[List.count_cons,a3];simp[h3]
theorem aE2{b:UInt8}(h:Lib.countByte l b=0):jY b l=[l]:=by
 rcases Int.lt_or_le (Lib.indexByte l b) 0 with h1|h1
 ·exact(Va h1).1
 ·have:=(Vb (b:=b) (l:=l) (k:=(Lib.indexByte l b).toNat) gf).2.2;omega
theorem aGh{b:UInt8}(h:0<Lib.countByte l b):∃k:Nat,Lib.indexByte l b=k:=by
 rcases Int.lt_or_le (Lib.indexByte l b) 0 with h1|h1
 ·have:=(Va h1).2;omega
 ·exact⟨(Lib.indexByte l b).toNat,gf⟩
theorem Vc(A B:List I)(y x:I)(h:A.length=n):du (A++y::B) (n * 1) [x]=A++x::B:=by subst h;rw[mi];simp[du]
theorem aG1(s:List UInt8)(b:UInt8)(hs:s.length<=1048576)(H:ab):aO prog 242 [.str s,.str [b],.int .i64 0,.int .i64<|-1] H (.sl false<|(jY b s).map I.str):=by
 refine bg func242 ?_;have O:Lib.countByte s b<=s.length:=List.count_le_length;have S:=aHn s b;generalize hm:Lib.countByte s b=m at *;have c5:IntKind.i64.wrap ((m:Int)+1)=((m+1:Nat):Int):=by rw[bS];rfl
 have cY:IntKind.i64.wrap ((s.length:Int)+1)=((s.length+1:Nat):Int):=by rw[bS];rfl
 have gy:min ((m+1:Nat):Int) ((s.length+1:Nat):Int)=((m+1:Nat):Int):=gf;have gz:IntKind.i64.wrap (((m+1:Nat):Int)-1)=(m:Int):=by rw[bS];omega
 have e5:(((m+1:Nat):Int)).toNat=m+1:=h5 _;have cW:List.flatMap I.cells (List.replicate (m+1)<|I.str [])=List.replicate (m+1) (I.str []):=by rw[List.flatMap_replicate];simp[I.cells]
 have T:∀l:List (List UInt8),(l.map I.str).flatMap I.cells=l.map I.str:=λl=>by rw[List.flatMap_map];induction l with|nil=>rfl|cons x l V=>rw[nj,dO,V];rfl
 refine hH ?_;refine c7 (ι:=Nat×List (List UInt8)×List UInt8) (λx=>[(0,.str x.2.2),(1,.str [b]),(2,.int .i64 0),(3,.int .i64 m),(9,.osl 1 H.length 1 0 (m+1)<|m+1),(10,.int .i64 x.1)])
  (λx=>H++[.cells 1 (x.2.1.map I.str++List.replicate (m+1-x.1) (.str []))])
  (λx=>x.1<=m/\x.2.1.length=x.1/\jY b s=x.2.1++jY b x.2.2/\Lib.countByte x.2.2 b+x.1=m/\x.2.2.length<=s.length) (λx=>m-x.1) (0,[],s) ⟨cb _,rfl,rfl,hm,bh _⟩ ?_ hW ?_
 ·simp[go_sem]
 ·rintro⟨i,pre,r⟩ ⟨hi,hl,J,Z,z⟩;simp only at hi hl J Z z ⊢;by_cases K:i<m
  ·obtain⟨k,hk⟩:=aGh (b:=b) (l:=r) gf;obtain⟨k1,k2,k3⟩:=Vb hk;have p0:=aHo r b;rw[hk]at p0;have U:decide ((i:Int)<(m:Int))=true:=cS;have pf:decide ((k:Int)<0)=false:=dA;have eQ:IntKind.i64.wrap ((k:Int)+0)=(k:Int):=by rw[bS];omega
   have dV:IntKind.i64.wrap ((k:Int)+1)=((k+1:Nat):Int):=by rw[bS];rfl
   repeat' first|(refine ae ?_;simp only[go_sem,U,pf,eQ,dV])|refine bp ?_|(refine bz ?_ ?_<;>intro h<;>try exact bx h)|fail
   have gn:(IntKind.i64.wrap ((k:Int)+((1:Nat):Int))).toNat=k+1:=by rw[bS];omega
   refine⟨(i+1,pre++[r.take k],r.drop<|k+1),⟨K,by simp[hl],by rw[J,k2];simp,by simp only;omega,by simp only[hp];omega⟩,by simp only;omega,⟨by rw[gn],b7 _<|eb K gf⟩,?_⟩
   have ax:m+1-i=(m-i)+1:=gf;have aq:m+1-(i+1)=m-i:=gf;simp only[ax,aq,zH];rw[Vc _ _ _ _ (by rw[dq];exact hl)]
   simp
  ·have eI:i=m:=gf;subst eI;have U:decide ((i:Int)<(i:Int))=false:=hW;repeat' first|(refine ae ?_;simp only[go_sem,U])|refine bp ?_|(refine bz ?_ ?_<;>intro h<;>try exact bx h)|fail
   have ax:i+1-i=1:=gf;have aU:(IntKind.i64.wrap ((i:Int)+1)).toNat=i+1:=by rw[bS];omega
   have bf:jY b s=pre++[r]:=by rw[J,aE2 (b:=b) (l:=r) gf]
   simp only[ax,aU,zH,List.replicate_zero];rw[Vc _ _ _ _ (by rw[dq];exact hl)]
   have b8:pre.map I.str++[I.str r]=(jY b s).map I.str:=by rw[bf];simp
   rw[b8];exact uV (cs:=(jY b s).map I.str) (es:=(jY b s).map I.str) (rest:=[]) gf mZ (by rw[T,cE]) (by rw[dq,bf];simp[hl]) (λe he=>by obtain⟨x,_,rfl⟩:=bP.1 he;rfl) (λe he=>by obtain⟨x,_,rfl⟩:=bP.1 he;exact mZ) rfl
theorem aGi{b:UInt8}:∀x∈jY b l,x.length<=l.length:=by
 induction l with
 |nil=>intro x J;simp[jY]at J;simp[J]
 |cons c l U=>
  intro x J;rw[jY]at J;cases hs:jY b l with
  |nil=>exact absurd hs<|OA b l
  |cons y t=>
   rw[hs]at U;simp only[hs]at J;rw[cd];by_cases h:c=b
   ·rw[aC h]at J;rcases db.1 J with q|q
    ·rw[q];simp
    ·have:=U x q;omega
   ·rw[ar h]at J;rcases db.1 J with q|q
    ·have:=U y hW;rw[q,cd];omega
    ·have:=U x (by simp[q]);omega
def yL(l:List al):Bool:=decide ((l.length:Int)<=16)&&l.all sn
def gD(p:al):Option (List al):=
 if p=[47]then some []else match p with
 |[]=>none
 |c::l=>if c=47 then(if yL (jY 47 l)=true then some (jY 47 l)else none)else none
theorem aG2(s:List UInt8)(b:UInt8)(hs:s.length<=1048576)(H:ab):aO prog 217 [.str s,.str [b]] H (.sl false<|(jY b s).map I.str):=by
 refine bg func217 ?_;have J:=aG1 s b hs;repeat' first|(refine ae ?_;simp only[go_sem])|refine bp ?_|(refine bz ?_ ?_<;>intro h<;>try exact bx h)|fail
 exact bJ<|.refl _
theorem aLP(f:Bool)(l:List al)(hl:∀x∈l,x.length<=1048576)(H:ab):aO prog 218 [.sl f (l.map I.str)] H (.bool<|yL l):=by
 refine bg func218 ?_;by_cases S:(l.length:Int)<=16
 ·have hd:decide ((16:Int)<(l.length:Int))=false:=dA;have K:yL l=l.all sn:=by rw[yL,dr S,vk]
  rw[K];refine hH ?_;refine c7 (ι:=Nat) (λi=>[(8,.sl f<|l.map I.str),(9,.int .i64 l.length),(10,.int .i64 i)]) (λ_=>H) (λi=>i<=l.length/\∀x∈l.take i,sn x=true) (λi=>l.length-i) 0 ⟨cb _,hW⟩ ?_ rfl ?_
  ·simp[go_sem]
  ·rintro i ⟨hi,T⟩;by_cases U:i<l.length
   ·have ad:=ek I.str U;have V:decide ((i:Int)<(l.length:Int))=true:=cS;have af:=Ol l[i] (oC<|hl _<|fQ U)
    cases hk:sn l[i]with
    |false=>
     rw[hk]at af;have O:l.all sn=false:=by rw[List.all_eq_false];exact⟨l[i],fQ U,by rw[hk];decide⟩
     rw[O];refine hH ?_;exact bJ<|.refl _
    |true=>
     rw[hk]at af;refine hH ?_;refine⟨i+1,⟨U,λx J=>?_⟩,gf,b7 _<|eb U gf⟩
     rw[hc U,fH,dH]at J;rcases J with q|q
     ·exact T x q
     ·rw[q];exact hk
   ·have Z:i=l.length:=gf;subst Z;have V:decide ((l.length:Int)<(l.length:Int))=false:=hW;have O:l.all sn=true:=fu.2<|by rwa[fe]at T
    rw[O];refine hH ?_;exact bJ<|.refl _
 ·have hd:decide ((16:Int)<(l.length:Int))=true:=cS;have K:yL l=false:=by rw[yL,b0 S,Bool.false_and]
  rw[K];refine hH ?_;exact bJ<|.refl _
def lB(p:al):I:=match gD p with
 |none=>.aN [.sl true [],.int .i64 10]
 |some l=>.aN [.sl (decide<|p=[47]) (l.map I.str),.int .i64 0]
theorem Hm(p:al)(hs:p.length<=1048576)(H:ab):aO prog 185 [.str p] H (lB p):=by
 refine bg func185 ?_;have U:=aKt p 47;by_cases h1:p=[47]
 ·have hd:decide (p=[47])=true:=dr h1;simp only[lB,gD,aC h1,hd];refine hH ?_;exact bJ<|.refl _
 ·have hd:decide (p=[47])=false:=b0 h1;simp only[lB,gD,ar h1,hd];cases p with
  |nil=>simp only[xc]at U;refine hH ?_;exact bJ<|.refl _
  |cons c l=>
   rw[cd]at hs;by_cases h2:c=47
   ·simp only[xc,aC h2]at U ⊢;have S:=aG2 l 47 gf;have K:=aLP false (jY 47 l) (λx J=>oC<|aGi x J)
    cases O:yL (jY 47 l)with
    |false=>
     rw[O]at K;repeat' first|(refine ae ?_;simp only[go_sem,hd])|refine bp ?_|(refine bz ?_ ?_<;>intro h<;>try exact bx h)|fail
     exact bJ<|.refl _
    |true=>
     rw[O]at K;repeat' first|(refine ae ?_;simp only[go_sem,hd])|refine bp ?_|(refine bz ?_ ?_<;>intro h<;>try exact bx h)|fail
     exact bJ<|.refl _
   ·simp only[xc,ar h2]at U ⊢;refine hH ?_;exact bJ<|.refl _
structure cg where
 kind:Int
 path:al
 to:al
 data:al
 n:Int
deriving DecidableEq,Inhabited
structure e7 where
 kind:Int
 path:al
deriving DecidableEq,Inhabited
structure om where
 err:Int
 data:al
 names:List al
 n:Int
 events:List e7
deriving DecidableEq,Inhabited
structure bF where
 call:cg
 has:List Int
 at_:Int
 done:Bool
 ended:Bool
 upto:Int
 mU:Int
 mark:Int
 end_:Int
 bZ:om
deriving DecidableEq,Inhabited
structure fk where
 kind:Int
 lock:Int
deriving DecidableEq,Inhabited
def cy(c:cg):I:=.agg [.int .i64 c.kind,.str c.path,.str c.to,.str c.data,.int .i64 c.n]
def dt(e:e7):I:=.agg [.int .i64 e.kind,.str e.path]
def ru(t:fk):I:=.agg [.int .i64 t.kind,.int .i64 t.lock]
def kT(h n e:I)(t:bF):I:=.agg [.int .i64 t.call.kind,.str t.call.path,.str t.call.to,.str t.call.data,.int .i64 t.call.n,h,.int .i64 t.at_,.bool t.done,.bool t.ended,.int .i64 t.upto,.int .i64 t.mU,.int .i64 t.mark,.int .i64 t.end_,
 .int .i64 t.bZ.err,.str t.bZ.data,n,.int .i64 t.bZ.n,e]
def iJ(f1 f2 f3:Bool)(t:bF):I:=kT (.sl f1<|t.has.map bu) (.sl f2<|t.bZ.names.map I.str) (.sl f3<|t.bZ.events.map dt) t
@[go_sem] theorem aXb(x:e7):b9 (dt x)=True:=by simp[dt,go_sem]
def eK:cg:=⟨0,[],[],[],0⟩
def dD:om:=⟨0,[],[],0,[]⟩
def so(c:cg):bF:=⟨c,[],0,false,false,0,0,0,0,dD⟩
def hB(c:cg):Bool:=decide (c.kind=1)||decide (c.kind=2)||decide (c.kind=3)||decide (c.kind=10)||(decide (c.kind=4)||decide (c.kind=7))&&decide (c.n=0)
def fZ(c:cg):Bool:=decide (c.kind=5)||decide (c.kind=6)||decide (c.kind=13)
def hQ(c:cg):List al:=match gD c.path with
 |none=>[]
 |some l=>if c.kind=7\/c.kind=10 then l else l.dropLast
theorem JI{p:al}{l:List al}(h:gD p=some l):l.length<=16:=by
 unfold gD at h;split at h
 ·cases h;simp
 ·split at h
  ·cases h
  ·split at h
   ·split at h
    ·rename_i J;cases h;simp[yL]at J;omega
    ·cases h
   ·cases h
def gv(l:List aH)(p:al):Option Int:=match gD p with
 |some (x::xs)=>if(fp l (x::xs).dropLast).2=0/\dv (fp l (x::xs).dropLast).1=true then some (fp l (x::xs).dropLast).1 else none
 |_=>none
def jQ(br:List Int)(o:Option Int):List Int:=match o with
 |some d=>if br.contains d=true then br else br++[d]
 |none=>br
def nt(c:cg):List al:=if c.kind=5 then[c.path,c.to]else if c.kind=6 then[c.path]else[]
def zr(l:List aH)(c:cg):List Int:=(nt c).foldl (λbr p=>jQ br<|gv l p) []
def oH(l:List aH)(a b:Int):Bool:=(n4 l b).contains a
def nQ(l:List aH)(br:List Int):List Int:=match br with
 |[a,b]=>if(!oH l a b&&(oH l b a||decide (b<a)))=true then[b,a]else[a,b]
 |br=>br
def iH(l:List aH)(c:cg):List Int:=1::nQ l (zr l c)
def nF(has:List Int):List Int->fk
 |[]=>⟨3,0⟩
 |k::bO=>if has.contains k=true then nF has bO else⟨1,k⟩
def vd(l:List aH)(names:List al)(t:bF):fk:=match t.has with
 |[]=>⟨1,0⟩
 |_::_::_=>⟨2,t.has.headD 0⟩
 |[here]=>
  match(if 0<=t.at_ then names[t.at_.toNat]? else none).bind (fz l here)with
  |some n=>if dv n.id=true then⟨1,n.id⟩else if(fp l names).2=0/\dv (fp l names).1=true/\(fp l names).1≠here then⟨2,here⟩else⟨3,0⟩
  |none=>if(fp l names).2=0/\dv (fp l names).1=true/\(fp l names).1≠here then⟨2,here⟩else⟨3,0⟩
def fX(l:List aH)(t:bF):fk:=
 if t.ended=true then⟨0,0⟩else if t.done=true then(match t.has with|k::_=>⟨2,k⟩|[]=>if t.call.kind=12 then⟨4,0⟩else⟨5,0⟩)
 else if fZ t.call=true then nF t.has (iH l t.call)else if hB t.call=true then vd l (hQ t.call) t else⟨3,0⟩
def dE(t:bF)(u:fk):bF:=
 if u.kind=1 then{t with at_:=if t.has.length=1/\hB t.call=true then IntKind.i64.wrap (t.at_+1)else t.at_,has:=t.has++[u.lock]}
 else if u.kind=2 then{t with has:=t.has.filter λk=> !decide (k=u.lock),at_:=if t.has.filter (λk=> !decide (k=u.lock))=[]/\t.done=false/\hB t.call=true then 0 else t.at_}
 else if u.kind=3 then{t with done:=true}else if u.kind=5 then{t with ended:=true}else t
def pz(t:bF):bF:={t with has:=[],at_:=0}
theorem Vd{k:Int}(h:has.contains k=true):nF has (k::bO)=nF has bO:=by rw[nF,aC h]
theorem OV{k:Int}(h:has.contains k=false):nF has (k::bO)=⟨1,k⟩:=by rw[nF,ar j9]
theorem OW(c):(hQ c).length<=16:=by
 unfold hQ;split
 ·simp
 ·rename_i l h;have:=JI h;split
  ·exact this
  ·rw[List.length_dropLast];omega
theorem aEd{p:al}(af:gD p=some []):p=[47]:=by
 by_cases ad:p=[47]
 ·exact ad
 ·unfold gD at af;rw[ar ad]at af;split at af
  ·cases af
  ·split at af
   ·split at af
    ·exact absurd (tH af)<|OA _ _
    ·cases af
   ·cases af
theorem aG3(br)(o):(jQ br o).length<=br.length+1:=by
 unfold jQ;split
 ·split
  ·omega
  ·simp
 ·omega
theorem aE3(l:List aH)(c:cg):(zr l c).length<=2:=by
 have h:∀(ps:List al) (br),(ps.foldl (λbr p=>jQ br<|gv l p) br).length<=br.length+ps.length:=by
  intro ps;induction ps with
  |nil=>simp
  |cons p ps J=>intro br;have:=J<|jQ br (gv l p);have:=aG3 br<|gv l p;simp;omega
 have h1:=h (nt c) [];have h2:(nt c).length<=2:=by rw[nt];split<;>(try split)<;>simp
 rw[zr];simp at h1;omega
theorem aE4(l)(br):(nQ l br).length=br.length:=by
 unfold nQ;split
 ·split<;>rfl
 ·rfl
theorem aE5(l:List aH)(c:cg):(iH l c).length<=3:=by have:=aE3 l c;rw[iH,cd,aE4];omega
theorem bm.Tj(U:bm c H){v:Nat}(V:az H i=.cells v cs)(Z:fR c i (.cells v br)):bm c (an H i<|.cells v br):=by
 have az:∀{j:Nat} {b:bD},(an H i (.cells v br))[j]?=some b->(j=i/\b=.cells v br)\/(j≠i/\H[j]?=some b):=by
  intro j b J;by_cases e:j=i
  ·grind [an,rB]
  ·rw[an,gS λq=>e q.symm]at J;exact .inr ⟨e,J⟩
 have O:∀{j:Nat} {b:bD},(an H i (.cells v br))[j]?=some b->b.live->∃S,H[j]?=some S/\S.live:=by
  intro j b J K;rcases az J with⟨rfl,rfl⟩|⟨_,h⟩
  ·exact⟨_,(kD V trivial),trivial⟩
  ·exact⟨_,h,K⟩
 refine⟨U.j0,by simp[an,U.n],U.lt,λj k b S J hk K I T z he=>?_,λk hk=>?_,λj b J=>?_⟩
 ·obtain⟨aW,g1,g2⟩:=O J K;obtain⟨bA,g3,g4⟩:=O hk I;exact U.inj j k aW bA g1 g3 g2 g4 T z he
 ·obtain⟨h1,h2⟩:=U.st k hk;refine⟨h1,λj b J K T=>?_⟩;obtain⟨aW,g1,g2⟩:=O J K;exact h2 j aW g1 g2 T
 ·rcases az J with⟨rfl,rfl⟩|⟨_,h⟩
  ·exact Z
  ·exact U.rep j b h
theorem fR.aCo{c':Ctx}{v:Nat}(K:fR c i (.cells v cs))(h1:c'.ba i=c.ba i)(h2:c'.c0 i=c.c0 i)(h3:c'.bo i=c.bo i)(h4:c'.w=c.w)(hl:cs.length=br.length)
  (hs:∀(i:Nat) (x y),cs[i]?=some x->br[i]?=some y->∀v,aK c x v->aK c' y v):fR c' i (.cells v br):=by
 cases K with
 |cells _ _ vs e O S T I z V Z=>refine .cells _ _ vs e O j9 j9 j9 gf V λm y u U hu=>?_;have gP:=(cu.1 U).1;have J:cs[m]?=some (cs[m]'(_)):=dn gf;exact hs m _ y J U u<|Z m _ u J hu
 |void _ S T=>
  have:=iL<|oq hl.symm
  subst this;exact .void _ gf j9
theorem bm.aSp(J:bm c H){v:Nat}(U:az H i=.cells v cs)(hl:cs.length=br.length)(hs:∀(i:Nat) (x y),cs[i]?=some x->br[i]?=some y->∀v,aK c x v->aK c y v):bm c (an H i<|.cells v br):=
 J.Tj U ((J.rep i _ (kD U trivial)).aCo rfl rfl rfl rfl hl hs)
theorem aJr{α:a8}(i b p:Nat){v vb s lc:Nat}{bs:List I}(es rest:List I)(V:b≠i)(Z:az H i=.cells v cs)(ad:cs[p]?=some (.osl s b vb 0 es.length lc))(z:az H b=.cells vb bs)(aF:vb≠0)
  (hn:bs=es.flatMap I.cells++rest) (hs:∀e∈es,e.cells.length=s) (h:cF P N code Q α (an (an H b .gone) i<|.cells v (cs.set p (.sl false es)))):cF P N code Q α H:=by
 intro r c a K O S;have J:=Ext.stop c b;have M3:¬i=b:=λe=>V e.symm;refine wpIn_mono (h r (c.stop b) a K ((O.stop z aF).Tj (bN Z V .gone) ((O.rep i _ (kD Z trivial)).aCo (by simp[Ctx.stop,M3]) (by simp[Ctx.stop,M3]) rfl rfl hW λk x y T U u K=>?_)) ⟨S.size,S.defers.mono J,λt=>(S.rep t).mono J⟩)
  λ_ _ _ ⟨c',ct,H',ax,aq,aU,bf,b8⟩=>⟨c',ct,H',ax,aq,J.trans aU,bf,b8⟩
 by_cases e:k=p
 ·subst e;rw[rB (cu.1 ad).1]at U;cases U;rw[ad]at T;cases T;exact WG O z rest hn hs K
 ·rw[gS (λq=>e q.symm)]at U;rw[T]at U;cases U;exact K.mono J
theorem fR.pre{v:Nat}{rest:List I}(O:fR c i (.cells v<|cs++rest)):fR c i (.cells v cs):=by
 generalize J:cs++rest=xs at O;cases O with
 |cells _ _ vs e S U K T z V Z=>refine .cells _ _ vs e S U K T j9 V λm y u aJ hu=>Z m y u ?_ hu;grind
 |void _ U K=>have:=(List.append_eq_nil_iff.1 J).1;subst this;exact .void _ U K
theorem cV.TP{f:FuncId}{v:Nat}{x:I}(hi:i<H.length)(h:cV P f args H (λr H'=>∃rest,r=x/\H'=an H i (.cells v<|cs++rest))):cV P f args H (λr H'=>r=x/\H'=an H i (.cells v cs)):=by
 intro c vs hs K;refine(h c vs hs K).mono λe w' ⟨c',y,val,H',ax,O,aU,bf,S,rest,T,J⟩=>⟨c',y,val,an H' i<|.cells v cs,ax,O,?_,bf,S,T,by rw[J,jd]⟩
 have U:az H' i=.cells v (cs++rest):=by rw[J];exact dK hi _
 exact aU.Tj U (aU.rep i _<|kD U trivial).pre
theorem qj{f:FuncId}{v:I}{K:I->ab->Prop}(h:cV P f args H (λx H'=>x=v/\H'=H1))(ok:jr P f=true)(hk:K v H1):Ek P true (.func (.func f) [] []) args H K:=
 ⟨v,H1,λ_=>Or.inl ⟨ok,j9⟩,λh=>j9,hk⟩
def Ck(n:Nat)(G A H1:ab)(H:ab):Prop:=∀(k:Nat) (a b:bD),A[k]?=some a->H1[k]?=some b->(a=b/\(H[k]?=some b\/ed n b))\/∃ba cs br,a=.cells ba cs/\b=.cells ba br/\cs.length=br.length/\∀(m:Nat) (x y:I),cs[m]?=some x->br[m]?=some y->cJ n G x y
theorem bm.oF{A:ab}(af:n=A.length)(S:bm c (A++L))(hl:H1.length=A.length)(eG:∀(i:Nat) (b:bD),H[i]?=some b->ed n b)(V:Ck n (A++L) A H1 H):bm (c.drop n) H1:=by
 have get:∀{i:Nat} {b:bD},H1[i]?=some b->∃a,A[i]?=some a/\(A++L)[i]?=some a/\(b.live->a.live):=by
  intro i b hi;have h1:=(cu.1 hi).1;have aG:A[i]?=some (A[i]'(by omega)):=dn gf
  refine⟨_,aG,j9,λT=>?_⟩;rcases V i _ b aG hi with⟨e, -⟩|⟨ba,cs,br,ax, -⟩
  ·rw[e];exact T
  ·rw[ax];trivial
 refine⟨S.j0.drop n,by rw[hl];exact af,λi hi hd=>?_,λi j b cR hi Z T eC sY fB he=>?_,λk hk=>?_,λi b hi=>?_⟩
 ·have dB:i<n:=hi;exact S.lt i (by rw[S.n];simp;omega) hd
 ·obtain⟨a, -,a2,a3⟩:=get hi;obtain⟨cQ, -,z,aDP⟩:=get Z;exact S.inj i j a cQ a2 z (a3 T) (aDP eC) sY fB he
 ·have ig:=S.n;rw[bw]at ig;rcases hk with hk|⟨i,h1,h2,h3,rfl⟩
  ·obtain⟨aL,aR⟩:=S.st k hk;refine⟨aL,λj b Z T hd=>?_⟩;obtain⟨a, -,a2,a3⟩:=get Z;exact aR j a a2 (a3 T) hd
  ·refine⟨S.lt i h2 h3,λj b Z T hd e=>?_⟩;obtain⟨a,cx,a2,a3⟩:=get Z;have nu:=(cu.1 cx).1;have av:i<(A++L).length:=by rw[bw];omega
   have hi:=dn av;by_cases y5:((A++L)[i]).live
   ·have:=S.inj j i a _ a2 hi (a3 T) y5 hd h3 e;omega
   ·have O:=S.rep i _ hi;generalize(A++L)[i]=bi at O y5;cases O with
    |gone gN=>rw[h3]at gN;cases gN
    |_=>exact y5 trivial
 ·obtain⟨a,cx,a2, -⟩:=get hi;have h1:=S.rep i a a2;rcases V i a b cx hi with⟨e,T⟩|⟨ba,cs,br,ax,aq,aU,bf⟩
  ·subst e;have h2:=T.elim (eG i a) id;cases h1 with
   |cells ba cs vs e bH U hd K hl V O=>exact .cells ba cs vs e bH U hd K hl V λj x v J I=>(O j x v J I).drop<|h2 x (dy J)
   |void ba U hd=>exact .void ba U hd
   |dc t ba cs vs U hd K hl a1 O=>exact .dc t ba cs vs U hd K hl a1 λj x v J I=>(O j x v J I).drop<|h2 x (dy J)
   |pE t ba U hd=>exact .pE t ba U hd
   |map es clock c8 U hd K hl O=>exact .map es clock c8 U hd K hl λj p e ad he=>let⟨g1,g2,g3⟩:=O j p e ad he;let⟨aL,aR⟩:=h2 p<|dy ad;⟨g1.drop aL,g2.drop aR,g3⟩
   |iY m since seen kS U hd hm y9 FK K=>exact .iY m since seen kS U hd h2 y9 FK K
   |mI s pos U hd K ij=>exact .mI s pos U hd K ij
   |loop l α N st iq ps nr ec fn D ts U hd hl K eu O=>exact .loop l α N st iq ps nr ec fn D ts U hd hl K eu λt=>(O t).drop<|h2 t
   |gone hd=>exact .gone hd
  ·subst ax;subst aq;cases h1 with
   |cells _ _ vs e bH U hd K hl V O=>
    refine .cells ba br vs e bH U hd K gf V λj y v aJ I=>?_;have av:=(cu.1 aJ).1;have J:cs[j]?=some (cs[j]'(by omega)):=dn gf
    exact(bf j _ y J aJ).sound S<|O j _ v J I
   |void _ U hd=>
    have:=iL<|oq aU.symm
    subst this;exact .void ba U hd
theorem aE6{f:FuncId}(K:P.funcs[f]?=some fn)(O:fn.body=some code)(af:args.length<=fn.ntmps)
  (h:cF P fn.ntmps code (qp P fn.results.toList λv H'=>∃A L H1 y,H'=A++L/\A.length=H.length/\H1.length=H.length/\Ck H.length H' A H1 H/\cJ H.length H' v y/\R y H1) (mV 0 args) H):cV P f args H R:=by
 intro c vs hs S;refine(F9 K O af h c vs hs S).mono λe w' ⟨c',x,v,H',ax,T,aU,bf,V,A,L,H1,y,Z,I,hF,z,J,U⟩=>?_;subst Z;refine⟨c'.drop c.n,y,v,H1,ax,T,bm.oF (by rw[hs.n,I]) aU j9 (λi b hi=>hs.Fg hi) (by rw[hs.n];exact z),bf.drop,?_,U⟩
 have:=J.sound aU V;rwa[<-hs.n]at this
theorem HV{P:Program}{f:FuncId}(J:P.funcs[f]?=some fn)
  (h:cF P fn.ntmps code (qp P fn.results.toList λv H'=>∃A L H1 y,H'=A++L/\A.length=H.length/\H1.length=H.length/\Ck H.length H' A H1 H/\cJ H.length H' v y/\R y H1) (mV 0 args) H) (U:fn.body=some code:=by rfl) (af:args.length<=fn.ntmps:=by exact ve rfl):cV P f args H R:=aE6 J U af h
theorem aG4(J:bm c H)(s)(h:aK c.void (.sl true []) v):aK c.void (.osl s H.length 1 0 0 0) v:=by
 cases h with
 |sl _ _ base len cap K vs h1 h2 h3 h4 O S T=>have U:=h3 rfl;subst h1;subst U;exact .osl _ _ _ _ _ _ _ (by simp[Ctx.void,J.n]) (by simp[Ctx.void,J.n]) rfl gf (λ_ _=>⟨rfl,rfl,base,rfl⟩) λ_ hd=>by simp[Ctx.void,J.n]at hd
theorem uM{α:a8}(i j s:Nat){v:Nat}(Z:az H i=.cells v cs)(S:cs[j]?=some (.sl true []))
  (h:cF P N code Q α (an (H++[.cells 1 []]) i<|.cells v (cs.set j (.osl s H.length 1 0 0 0)))):cF P N code Q α H:=by
 intro r c a U T K;have O:=Ext.void c;refine wpIn_mono (h r c.void a U (T.void.aSp (bX Z trivial [.cells 1 []]) hW λk x y J V v U=>?_) ⟨K.size,K.defers.mono O,λu=>(K.rep u).mono O⟩) λ_ _ _ ⟨c',I,H',ax,z,aU,bf,b8⟩=>⟨c',I,H',ax,z,O.trans aU,bf,b8⟩;by_cases e:k=j
 ·subst e;rw[rB (cu.1 S).1]at V;cases V;rw[S]at J;cases J;exact aG4 T s U
 ·grind
theorem aG5{s:al}{n:aH}{m:List (al×aH)}{p:al×aH}(h:p∈h0 s n m):p.2=n\/p∈m:=by
 induction m with
 |nil=>simp[h0]at h;left;rw[h]
 |cons q m J=>
  unfold h0 at h;split at h
  ·rcases db.1 h with rfl|h
   ·exact .inl rfl
   ·exact .inr<|lU _ h
  ·rcases db.1 h with rfl|h
   ·exact .inr hW
   ·rcases J h with h|h
    ·exact .inl h
    ·exact .inr<|lU _ h
theorem aGj{s:al}{n:aH}{m:List (al×aH)}(h:hA s m=some n):∃p∈m,p.2=n:=by
 induction m with
 |nil=>cases h
 |cons q m J=>
  obtain⟨k,x⟩:=q;unfold hA at h;split at h
  ·exact⟨(k,x),hW,j9⟩
  ·obtain⟨p,ad,e⟩:=J h;exact⟨p,lU _ ad,e⟩
theorem Kf(l)(dir):∀p∈fA l dir,p.2∈l/\px dir p.2=true:=by
 suffices h:∀(k l:List aH) (m),(∀p∈m,p.2∈l/\px dir p.2=true)->(∀n∈k,n∈l)->∀p∈k.foldl (mo dir) m,p.2∈l/\px dir p.2=true from h l l [] (λp ad=>j9) (λn af=>af)
 intro k;induction k with
 |nil=>intro l m hm _;exact hm
 |cons x k U=>
  intro l m hm hk;refine U l (mo dir m x) (λp ad=>?_) λn af=>hk n (lU _ af);unfold mo at ad;split at ad
  ·rename_i J;unfold rM at ad;have hs:∀p∈h0 x.name x m,p.2∈l/\px dir p.2=true:=λp ad=>by
    rcases aG5 ad with e|h
    ·rw[e];exact⟨hk x hW,J⟩
    ·exact hm p h
   split at ad
   ·exact hs p ad
   ·split at ad
    ·exact hm p ad
    ·exact hs p ad
  ·exact hm p ad
theorem GB{l:List aH}{dir:Int}{s:al}{n:aH}(h:fz l dir s=some n):cG l=true/\n∈l/\n.parent=dir:=by
 unfold fz at h;split at h
 ·rename_i J;obtain⟨p,ad,e⟩:=aGj h;obtain⟨h1,h2⟩:=Kf l dir p ad;rw[e]at h1 h2;unfold px at h2;rw[dp,iK]at h2;exact⟨J,h1,h2.1⟩
 ·cases h
section
open Go.ChangeShapes Go.WideShapes Go.ChangeAt Go.RowKit
variable {P:Program}
def n5(P:Program)(t:TypeId):Bool:=
 match P.underlying t with
 |some (.struct _)|some (.array _ _)=>true
 |_=>false
def mF(P:Program)(t:TypeId)(ys:List I):I:=if n5 P t=true then .agg ys else ys.headD .top
def L0(P:Program):Nat->List Field->Bool
 |_,[]=>true
 |off,f::fs=>(f.offset==off)&&L0 P (off+P.cellsOf f.type) fs
def wv(P:Program):Nat->List Field->Nat
 |off,[]=>off
 |off,f::fs=>wv P (off+P.cellsOf f.type) fs
def rh(P:Program)(t:TypeId):Bool:=
 match P.underlying t with
 |some .bool|some (.int _)|some .string=>true
 |some (.slice e)=>(P.cellsOf e !=0)&&(n5 P e||(P.cellsOf e==1))
 |some (.struct fs)=>L0 P 0 fs.toList&&(wv P 0 fs.toList==P.cellsOf t)
 |_=>false
mutual
inductive jW (P:Program):TypeId->List I->Prop
 |bool (t:TypeId) (b:Bool) (h:P.underlying t=some .bool):jW P t [.bool b]
 |int (t:TypeId) (k:IntKind) (n:Int) (h:P.underlying t=some (.int k)) (hw:(Lit.int k n).wf=true):jW P t [.int k n]
 |str (t:TypeId) (s:List UInt8) (h:P.underlying t=some .string) (hl:s.length<=maxLen):jW P t [.str s]
 |slice (t e:TypeId) (nm:List (List I)) (h:P.underlying t=some (.slice e)) (hl:nm.length<=maxLen) (a1:∀z∈nm,jW P e z) (ao:∀z∈nm,z.length=P.cellsOf e):jW P t [.sl false (nm.map<|mF P e)]
 |struct (t:TypeId) (fs:Array Field) (ys:List I) (h:P.underlying t=some (.struct fs)) (aA:yy P fs.toList ys):jW P t ys
 |other (t:TypeId) (ys:List I) (h:rh P t=false) (aJ:∀y∈ys,y=.top):jW P t ys
inductive yy (P:Program):List Field->List I->Prop
 |nil:yy P [] []
 |cons (f:Field) (fs:List Field) (z ys:List I) (h:jW P f.type z) (hs:yy P fs ys):yy P (f::fs) (z++ys)
end
theorem EJ{t:TypeId}{k:IntKind}(ag:P.underlying t=some (.int k))(h:jW P t ys):∃n,ys=[.int k n]/\(Lit.int k n).wf=true:=by
 cases h with
 |bool _ _ h=>rw[ag]at h;cases h
 |int _ _ n h hw=>grind
 |str _ _ h=>rw[ag]at h;cases h
 |slice _ _ _ h=>rw[ag]at h;cases h
 |struct _ _ _ h=>rw[ag]at h;cases h
 |other _ _ h _=>rw[rh,ag]at h;cases h
theorem Iv{t:TypeId}(ag:P.underlying t=some .string)(h:jW P t ys):∃s,ys=[.str s]/\s.length<=maxLen:=by
 cases h with
 |bool _ _ h=>rw[ag]at h;cases h
 |int _ _ _ h=>rw[ag]at h;cases h
 |str _ s _ hl=>exact⟨s,rfl,hl⟩
 |slice _ _ _ h=>rw[ag]at h;cases h
 |struct _ _ _ h=>rw[ag]at h;cases h
 |other _ _ h _=>rw[rh,ag]at h;cases h
theorem aLQ{t e:TypeId}(ag:P.underlying t=some (.slice e))(hk:rh P t=true)(h:jW P t ys):
  ∃J:List (List I),ys=[.sl false (J.map<|mF P e)]/\J.length<=maxLen/\∀z∈J,jW P e z:=by
 cases h with
 |bool _ _ h=>rw[ag]at h;cases h
 |int _ _ _ h=>rw[ag]at h;cases h
 |str _ _ h=>rw[ag]at h;cases h
 |slice _ _ J h hl U=>grind
 |struct _ _ _ h=>rw[ag]at h;cases h
 |other _ _ h _=>rw[hk]at h;cases h
theorem ZB{t:TypeId}{fs:Array Field}(ag:P.underlying t=some (.struct fs))(hk:rh P t=true)(h:jW P t ys):yy P fs.toList ys:=by
 cases h with
 |bool _ _ h=>rw[ag]at h;cases h
 |int _ _ _ h=>rw[ag]at h;cases h
 |str _ _ h=>rw[ag]at h;cases h
 |slice _ _ _ h=>rw[ag]at h;cases h
 |struct _ _ _ h J=>rw[ag]at h;cases h;exact J
 |other _ _ h=>rw[hk]at h;cases h
theorem ZP(h:yy P [] ys):ys=[]:=by cases h;rfl
theorem yN{f:Field}{fs:List Field}(h:yy P (f::fs) ys):∃z J,ys=z++J/\jW P f.type z/\yy P fs J:=by
 cases h with
 |cons _ _ z J h hs=>exact⟨z,J,rfl,h,hs⟩
def qq(c:Ctx)(ys:List I)(cs:List Value):Prop:=ys.length=cs.length/\∀(i:Nat) (y:I) (v:Value),ys[i]?=some y->cs[i]?=some v->aK c y v
theorem GC{y:I}(h:aK c y v):qq c [y] [v]:=by
 refine⟨rfl,λi x u J hu=>?_⟩;cases i with
 |zero=>simp at J hu;subst J;subst hu;exact h
 |succ i=>simp at J
theorem aG6(cs):qq c (cs.map λ_=>.top) cs:=by refine⟨hW,λi x u J _=>?_⟩;rw[nk]at J;obtain⟨_,_,rfl⟩:=gA.1 J;exact .top _
theorem Wt{y z:List I}{a b:List Value}(h:qq c y a)(k:qq c z b):qq c (y++z) (a++b):=by
 refine⟨by simp[h.1,k.1],λi x u J hu=>?_⟩
 by_cases hi:i<y.length
 ·rw[jc hi]at J;rw[jc (by rw[<-h.1];exact hi)]at hu
  exact h.2 i x u J hu
 ·rw[pH gf]at J;rw[pH (by rw[<-h.1];omega),<-h.1]at hu
  exact k.2 _ x u J hu
theorem aE7{w:World}{a:Addr}(h:w.cell? a=some v):a.block<w.heap.size:=by unfold World.cell? at h;grind
section
variable {H:Type} {enc:TypeId×Value->H} {W:World} {base:Nat} {sp:Nat->Bool} {held:Bool}
theorem aK4{k:IntKind}{n:Int}(h:(Lit.int k n).wf=true):l6 k n:=by have h2:(decide (k.min<=n)&&decide (n<=k.max))=true:=h;simpa[l6]using h2
inductive h8 (n:Nat):I->Prop
 |int (k m):h8 n (.int k m)
 |bool (b):h8 n (.bool b)
 |str (s) (h:s.length<=n):h8 n (.str s)
 |agg (cs:List I) (h:∀x∈cs,h8 n x):h8 n (.agg cs)
 |sl (f) (es:List I) (hl:es.length<=n) (h:∀x∈es,h8 n x):h8 n (.sl f es)
 |top:h8 n .top
theorem h8.mono{m:Nat}{x:I}(h:h8 n x)(hm:n<=m):h8 m x:=by
 induction h with
 |int=>exact .int _ _
 |bool=>exact .bool _
 |str s h=>exact .str s<|e1 h hm
 |agg cs _ J=>exact .agg cs J
 |sl f es hl _ J=>exact .sl f es (e1 hl hm) J
 |top=>exact .top
theorem h8.mk{P:Program}{t:TypeId}(h:∀y∈ys,h8 n y):h8 n (mF P t ys):=by
 unfold mF;split
 ·exact .agg ys h
 ·cases ys with
  |nil=>exact .top
  |cons y ys=>exact h y hW
mutual
def iE{H:Type}:DataW H->Nat
 |.lit (.string bytes)=>bytes.length+1
 |.lit _=>1
 |.nil=>1
 |.ptr d=>iE d+1
 |.slice elems spare=>wo elems+wo spare+1
 |.agg parts=>wo parts+1
 |.iface _ d=>iE d+1
 |.map entries=>Kz entries+1
 |.held _=>1
def wo{H:Type}:List (DataW H)->Nat
 |[]=>0
 |d::r=>iE d+wo r
def Kz{H:Type}:List (Lit×DataW H)->Nat
 |[]=>0
 |x::r=>LB x+Kz r
def LB{H:Type}:Lit×DataW H->Nat
 |(.string bytes,d)=>bytes.length+iE d+1
 |(_,d)=>iE d+1
end
theorem aGk{H:Type}(d:DataW H):1<=iE d:=by
 cases d with
 |lit l=>cases l<;>simp[iE]
 |_=>simp[iE]
theorem aGl{H:Type}(l:List (DataW H)):l.length<=wo l:=by
 induction l with
 |nil=>simp
 |cons x r J=>have:=aGk x;simp[wo];omega
theorem V8{H:Type}{d:DataW H}{l:List (DataW H)}(h:d∈l):iE d<=wo l:=by induction l<;>grind [wo]
theorem aG7(hw:c.w=W)(aj:∀b,b<W.heap.size->c.hb b):∀(fuel:Nat) (t:TypeId) (cs:List Value) (x:DataW H×List MemPlace),DataW.trod enc P W base sp held fuel t cs=some x->
  ∃ys,jW P t ys/\qq c ys cs/\∀y∈ys,h8 (iE x.1) y:=by
 intro fuel;induction fuel with
 |zero=>intro t cs x h;simp[DataW.trod]at h
 |succ fuel aB=>
  intro t cs x h;cases hk:rh P t with
  |false=>exact⟨_,.other t _ hk hW,aG6 cs,λy U=>by simp at U;rw[<-U.2];exact .top⟩
  |true=>
   have eO:=hk;unfold rh at hk;split at hk
   ·rename_i hu;obtain⟨b,rfl, -⟩:=DataW.trod_bool hu h;exact⟨_,.bool t b hu,GC<|.bool b,λy U=>by simp at U;subst U;exact .bool _⟩
   ·rename_i k hu;obtain⟨n,rfl, -,Nd⟩:=DataW.trod_int hu h;exact⟨_,.int t k n hu Nd,GC<|.int k n (aK4 Nd),λy U=>by simp at U;subst U;exact .int _ _⟩
   ·rename_i hu;obtain⟨s,rfl,J,hl⟩:=DataW.trod_string hu h;refine⟨_,.str t s.data.toList hu (oq hl),GC ?_,λy U=>by simp at U;subst U;exact .str _<|by rw[J];simp[iE]⟩
    have:=aK.str (c:=c) s.data.toList<|by simpa[maxLen]using hl
    simpa using this
   ·rename_i e hu;rw[dp]at hk;have he:=oq hk.1;have s7:=oq hk.2;rcases DataW.trod_slice hu h with⟨rfl, -⟩|⟨a,len,cap,elems,rest,n,af,rfl,J,aa,hl,hm,hlen,MM, -, -⟩
    ·refine⟨[.sl false (([]).map (mF P e))],.slice t e [] hu (cb _) hW hW,GC ?_,λy U=>by simp at U;subst U;exact .sl _ _ (cb _) hW⟩
     exact .sl false [] none 0 0 0 (λ_ _=>undef) rfl (bh _) (λh=>p2 h) (λh=>absurd rfl h) hW hW gf
    ·obtain rfl:fuel=n:=gf;have each:∀i,i<len->∃(us:List Value) (ys:List I),us.length=P.cellsOf e/\(∀j,j<P.cellsOf e->W.cell? (a.add (i * P.cellsOf e+j))=us[j]?)/\jW P e ys/\qq c ys us/\∀y∈ys,h8 (iE x.1) y:=by
      intro i hi;have h1:=MM i hi;rw[dn gf,kv]at h1;obtain⟨us,pv,aQo⟩:=h1;obtain⟨_,g2,g3⟩:=World.cells?_some pv;obtain⟨ys,k1,k2,k3⟩:=aB e us _ aQo;refine⟨us,ys,g2,λj O=>?_,k1,k2,λy U=>(k3 y U).mono ?_⟩;case refine_2=>
       have:=V8<|BF (f:=(·.1)) (fQ (show i<elems.length by omega))
       rw[J];simp only[iE];omega
      rw[<-g3 j O,_root_.Go.Addr.add_add]
     let f:=λi=>if hi:i<len then(each i hi).choose_spec.choose else[]
     let g:=λi=>if hi:i<len then(each i hi).choose else[]
     have S:∀i,i<len->(g i).length=P.cellsOf e/\(∀j,j<P.cellsOf e->W.cell? (a.add (i * P.cellsOf e+j))=(g i)[j]?)/\jW P e (f i)/\qq c (f i) (g i)/\∀y∈f i,h8 (iE x.1) y:=by intro i hi;have:=(each i hi).choose_spec.choose_spec;simp only[f,g,hi,dif_pos];exact this
     have St:∀i,i<len->(f i).length=P.cellsOf e:=λi hi=>by obtain⟨T,_,_,Z,_⟩:=S i hi;rw[Z.1,T]
     have V:∀i,i<len->(mF P e (f i)).cells=f i:=by
      intro i hi;unfold mF;by_cases aG:n5 P e=true
      ·rw[aC aG];rfl
      ·rw[ar aG];have hs:=(S i hi).2.2.1;have c9:∀fs,P.underlying e≠some (.struct fs):=λfs q=>aG<|by rw[n5,q]
       have q2:=(St i hi).trans<|s7.resolve_left aG;generalize f i=z at hs q2 ⊢;cases hs with
       |bool=>rfl
       |int=>rfl
       |str=>rfl
       |slice=>rfl
       |struct _ fs _ q=>exact absurd q<|c9 fs
       |other _ _ _ q=>
        match z,q2 with
        |[y],_=>rw[q y hW];rfl
     refine⟨[.sl false (((List.range len).map f).map (mF P e))],.slice t e _ hu nc ?_ ?_,GC ?_,λy U=>?_⟩
     rotate_right
     ·simp at U;subst U;refine .sl _ _ ?_ λz K=>?_
      ·have:=aGl<|elems.map (·.1);rw[dq]at this;rw[J];simp only[iE,dq,Hi];omega
      ·simp only[bP,Hf,Function.comp]at K;obtain⟨i,hi,rfl⟩:=K;exact .mk (S i hi).2.2.2.2
     ·intro z K;obtain⟨i,hi,rfl⟩:=bP.1 K;exact(S i (oq hi)).2.2.1
     ·intro z K;obtain⟨i,hi,rfl⟩:=bP.1 K;exact St i<|oq hi
     ·refine .sl false _ (some a) len cap (P.cellsOf e) (λk j=>(g k).getD j undef) hW hl (λh=>p2 h) (λaT=>?_) ?_ ?_ (by have:=hm;simp only[maxLen]at this;omega)
      ·have aPT:0<len:=by
        rcases Nat.eq_zero_or_pos len with ay|ay
        ·subst ay;simp at aT
        ·exact ay
       have pc:∀k j,k<len->j<P.cellsOf e->W.cell? (a.add (k * P.cellsOf e+j))=some ((g k).getD j undef):=by intro k j hk O;obtain⟨T,aR,_,_⟩:=S k hk;rw[aR j O,gg,dn gf];rfl
       have Mz:=pc 0 0 aPT gf;refine⟨a,rfl,?_,aj _ ?_,λk j hk O=>?_⟩
       ·have:=World.cell?_spot Mz;simpa[Addr.add]using this
       ·have:=aE7 Mz;rwa[Addr.Fb]at this
       ·rw[hw];exact pc k j (oq hk) O
      ·intro z K;simp only[sH,bP,Hf,Function.comp]at K;obtain⟨i,hi,rfl⟩:=K;rw[V i hi,St i hi]
      ·intro k z j y K U;have hk:=by
        have:=(cu.1 K).1;simpa using this
       have:=by simp only[sH,nk,List.getElem?_range hk,vj,Function.comp,Option.some.injEq]at K;exact K.symm
       subst this;rw[V k hk]at U;obtain⟨T,_,_,Z,_⟩:=S k hk;have O:=(cu.1 U).1;refine Z.2 j y _ U ?_;rw[gg,dn<|by rw[<-Z.1];exact O];rfl
   ·rename_i fs hu;rw[dp,rD]at hk;obtain⟨xs,n,af,J,eG,A6,FD⟩:=DataW.trod_struct hu h;obtain rfl:fuel=n:=gf;have each:∀f∈fs.toList,∃ys,jW P f.type ys/\qq c ys ((cs.drop f.offset).take (P.cellsOf f.type))/\∀y∈ys,h8 (iE x.1) y:=by
     intro f aA;obtain⟨i,hi⟩:=List.getElem?_of_mem aA;have dB:fs[i]?=some f:=oq hi;have av:i<fs.size:=(qA.1 dB).1;have:=FD i f dB;rw[dn gf]at this;obtain⟨ys,k1,k2,k3⟩:=aB _ _ _ this;refine⟨ys,k1,k2,λy U=>(k3 y U).mono ?_⟩;have:=V8<|BF (f:=(·.1)) (fQ (show i<xs.length by omega))
     rw[J];simp only[iE];omega
    have key:∀(l:List Field) (off:Nat),L0 P off l=true->wv P off l<=cs.length->(∀f∈l,∃ys,jW P f.type ys/\qq c ys ((cs.drop f.offset).take (P.cellsOf f.type))/\∀y∈ys,h8 (iE x.1) y)->
      off<=wv P off l/\∃ys,yy P l ys/\qq c ys ((cs.drop off).take (wv P off l-off))/\∀y∈ys,h8 (iE x.1) y:=by
     intro l;induction l with
     |nil=>intro off _ _ _;exact⟨bh _,[],.nil,by simp[wv,qq],λy U=>p2 U⟩
     |cons f l aQO=>
      intro off h1 h2 h3;rw[L0,dp,rD]at h1;rw[wv]at h2 ⊢;obtain⟨qk,ys,T,aR,bC⟩:=aQO _ h1.2 h2 λg aP=>h3 g (by simp[aP])
      obtain⟨z,aS,aY,a6⟩:=h3 f hW;refine⟨gf,z++ys,.cons f l z ys aS T,?_,λy U=>(fH.1 U).elim (a6 y)<|bC y⟩
      have e:(cs.drop off).take (wv P (off+P.cellsOf f.type) l-off)=(cs.drop f.offset).take (P.cellsOf f.type)++(cs.drop (off+P.cellsOf f.type)).take (wv P (off+P.cellsOf f.type) l-(off+P.cellsOf f.type)):=by rw[h1.1,<-ym,show wv P (off+P.cellsOf f.type) l-off=P.cellsOf f.type+(wv P (off+P.cellsOf f.type) l-(off+P.cellsOf f.type)) by omega,List.take_add]
      rw[e];exact Wt aY aR
    obtain⟨_,ys,k1,k2,k3⟩:=key fs.toList 0 hk.1 gf each;refine⟨ys,.struct t fs ys hu k1,?_,k3⟩;rw[List.drop_zero,Nat.sub_zero,hk.2,<-eG,fe]at k2;exact k2
   ·cases hk
def tZ(W:World):Ctx:={w:=W,n:=0,bo:=λ_=>0,ba:=λ_=>0,c0:=λ_=>false,hb:=λb=>b<W.heap.size,base:=(0,[])}
theorem aMr(W)(hl:Laid (tZ W):=by first|assumption|exact λ_ h=>nomatch h):bm (tZ W) [] where
 j0:=hl
 n:=rfl
 lt:=λi hi=>absurd hi<|Nat.not_lt_zero i
 inj:=λi j b J hi=>hW
 st:=λk hk=>⟨hk,λi b hi=>j9⟩
 rep:=λi b hi=>j9
theorem aE8{t:TypeId}(hk:rh P t=true)(U:n5 P t=false)(J:Value.okWide P W r fL t v):v.cells= #[v]:=by
 unfold rh at hk;split at hk
 ·rename_i hu;obtain⟨b,rfl⟩:=okWide_bool hu J;rfl
 ·rename_i k hu;obtain⟨n,rfl⟩:=okWide_int hu J;rfl
 ·rename_i hu;obtain⟨s,rfl⟩:=okWide_string hu J;rfl
 ·rename_i e hu;obtain⟨a,l,c,rfl⟩:=okWide_slice hu J;rfl
 ·grind [n5]
 ·cases hk
theorem GD{t:TypeId}{d:DataW H}(hk:rh P t=true)(U:Value.okWide P W r fL t v)(h:DataW.Trod enc P W base sp held t v d p):
  ∃x,(∃ys,x=mF P t ys/\jW P t ys/\(n5 P t=true\/ys.length=1))/\aK (tZ W) x v/\h8 (iE d) x:=by
 obtain⟨fuel,K⟩:=h;obtain⟨ys,h1,h2,h3⟩:=aG7 (c:=tZ W) rfl (λb O=>O) fuel t _ _ K;cases J:n5 P t with
 |true=>
  refine⟨_,⟨ys,rfl,h1,.inl rfl⟩,?_,.mk h3⟩;have:∃cs,v=.agg cs:=by grind [n5,rh,okWide_struct]
  obtain⟨cs,rfl⟩:=this;rw[mF,aC J];exact .agg ys cs (by simpa[Value.cells]using h2.1.symm) λi y u S hu=>h2.2 i y u S<|by simpa[Value.cells]using hu
 |false=>
  rw[(aE8 hk J U)]at h2;have hl:=oq h2.1;refine⟨_,⟨ys,rfl,h1,.inr hl⟩,?_,.mk h3⟩
  match ys,hl with
  |[y],_=>rw[mF,ar j9];exact h2.2 0 y v rfl rfl
theorem aJs{t:TypeId}{d:DataW H}(hk:rh P t=true)(J:Value.okWide P W r fL t v)(h:DataW.Trod enc P W base sp held t v d p):
  ∃x,(∃ys,x=mF P t ys/\jW P t ys/\(n5 P t=true\/ys.length=1))/\aK (tZ W) x v:=by
 obtain⟨x,h1,h2,_⟩:=GD hk J h;exact⟨x,h1,h2⟩
theorem TW{f:FuncId}{args:Array Value}(h:aO P f xs [] (.bool true))(U:qG (tZ W) xs args)(hl:Laid (tZ W):=by first|assumption|exact λ_ h=>nomatch h):Calls P f args W λe J=>e=.returned (.bool true)/\Below W.heap.size W J:=
 (h (tZ W) args (aMr W hl) U).mono λe J ⟨c',x,v,H',ax,K,_,bf,O,S,_⟩=>by
  subst S;refine⟨by rw[ax,O.sT],?_⟩
  subst K;exact⟨bf.os,bf.tape.1,bf.output,bf.size,λk hk=>(bf.st k hk).2⟩
theorem Uo(h:qq c xs vs):qG c xs vs.toArray:=
 ⟨by simp[h.1],λi x v J U=>h.2 i x v J j9⟩
theorem Gp{x:I}(h:aK c x v)(hs:qq c xs vs):qq c (x::xs) (v::vs):=Wt (GC h) hs
theorem OX:qq c [] []:=⟨rfl,λi x v J=>hW⟩
end
end
theorem Qb{W:World}{rest:List (String×DataW Unit)}(h:laidMet prog (("gunwale/sums.steps",Lib.tabData .u32 [0,79764919])::rest) W):Laid (tZ W):=by
 have J:prog.globalNamed "gunwale/sums.steps" =some 0:=ma;have ag:Lib.TabIs prog W "gunwale/sums.steps" .u32 [0,79764919]:=Lib.tabIs_of_head (t:=385) (e:=306) (n:=2) J ma underlying385 underlying306 ma ma h;have ay:=ag.cell J 0 ko;have h1:=ag.cell J 1 ko;intro p ad;obtain rfl:=dH.1 ad;refine⟨?_,λj x U=>?_⟩
 ·show 0<W.heap.size;by_cases K:0<W.heap.size
  ·exact K
  ·simp[World.cell?,KN<|Nat.le_of_not_lt K]at ay
 ·match j with
  |0=>cases U;exact ay
  |1=>cases U;exact h1
  |j+2=>simp at U
end Go.Proofs.YtnmamncmpklliaaGreatDoor
