/- What the functions of this seat answer (5 of 53). No condition. -/
import Derived.Test.YtnmamncmpklliaaGreatDoorWorkAD
import Derived.Scope
import Derived.KernelRfl
import Derived.RangeFuncIn
import Derived.LoopNIn
import Derived.Test.YtnmamncmpklliaaGreatDoorChecked
set_option linter.unusedSimpArgs false
set_option linter.unusedVariables false
set_option linter.unusedSectionVars false
set_option maxRecDepth 100000
set_option maxHeartbeats 16000000
namespace Go.Proofs.YtnmamncmpklliaaGreatDoor
variable{α:a7}{c:Ctx}{v w N i lc id j:Nat}{cs es args first cap bk rest:List I}{H L G M:ab}{R:I->ab->Prop}{a d:I}{Q:cX}{g:Bool}{K X W:I->Prop}{y code z hF dS:Code}{fn:Func}{A B C p q r:Prop}{bR:List ab}{P:Program}{ops:Array Oper}{ps:Array Tmp}
open Go.Proofs.Tryz
inductive Ok:I->Prop
 |int (k:IntKind) (n:Int) (h:l6 k n):Ok (.int k n)
 |bool (b:Bool):Ok (.bool b)
 |str (s:List UInt8) (h:s.length<=9223372036854775807):Ok (.str s)
 |agg (cs:List I) (h:∀x∈cs,Ok x):Ok (.agg cs)
 |aQ (cs:List I) (h:∀x∈cs,Ok x):Ok (.aQ cs)
 |sl (f:Bool) (es:List I) (hl:es.length<=9223372036854775807) (h:∀e∈es,∀x∈e.cells,Ok x):Ok (.sl f es)
 |cptr (cs:List I):Ok (.cptr cs)
 |ref (i v off:Nat):Ok (.ref i v off)
 |osl (s i v off len lc:Nat) (h:lc<=9223372036854775807):Ok (.osl s i v off len lc)
 |dO:Ok .dO
 |map (i:Nat):Ok (.map i)
 |iu:Ok .iu
 |iter (i:Nat):Ok (.iter i)
 |func (fn:Fn) (fs cs:List I):Ok (.func fn fs cs)
 |ea:Ok .ea
 |iface (t:TypeId) (x:I) (h:Ok x):Ok (.iface t x)
 |nilIface:Ok .nilIface
 |opt (g:Bool) (x:I) (h:g=true->Ok x):Ok (.opt g x)
 |top:Ok .top
theorem y1{α:Type}{l:List α}{x:α}(h:x∈l):∃i:Nat,l[i]?=some x:=by
 obtain⟨i,hi,he⟩:=List.getElem_of_mem h;exact⟨i,by rw[da hi,he]⟩
theorem aI.ok{x:I}{v:Value}(h:aI c x v):Ok x:=by
 induction h with
 |int k n h=>exact .int k n h
 |bool b=>exact .bool b
 |str s h=>exact .str s h
 |agg cs vs hl _ U=>exact .agg cs λx J=>let⟨i,hi⟩:=y1 J;let⟨v,O⟩:=CJ hl hi;U i x v hi O
 |aQ cs vs hl _ U=>exact .aQ cs λx J=>let⟨i,hi⟩:=y1 J;let⟨v,O⟩:=CJ hl hi;U i x v hi O
 |sl full es base len cap s vs hlen _ _ _ _ _ V U=>exact .sl full es iV λe he x J=>let⟨k,hk⟩:=y1 he;let⟨j,T⟩:=y1 J;U k e j x hk T
 |cptr cs=>exact .cptr cs
 |ref i v off=>exact .ref i v off
 |osl s i v off len lc val _ _ _ h=>exact .osl s i v off len lc h
 |dO=>exact .dO
 |map i=>exact .map i
 |iu=>exact .iu
 |iter i=>exact .iter i
 |func fn fs cs=>exact .func fn fs cs
 |ea=>exact .ea
 |iface t x _ _ U=>exact .iface t x U
 |nilIface=>exact .nilIface
 |opt g x _ _ _ U=>exact .opt g x U
 |top=>exact .top
theorem GK{k:IntKind}{n:Int}(h:Ok (.int k n)):l6 k n:=by cases h;assumption
theorem aKq{n:Int}(h:Ok (.int .i64 n)): -9223372036854775808<=n/\n<=9223372036854775807:=rR.1<|GK h
theorem aKr{s:List UInt8}(h:Ok (.str s)):s.length<=9223372036854775807:=by cases h;assumption
theorem XH(h:Ok (.agg cs)):∀x∈cs,Ok x:=by cases h;assumption
theorem oi{f:Bool}(h:Ok (.sl f es)):es.length<=9223372036854775807:=by cases h;assumption
theorem sN.ok{c:Ctx}{xs:List I}{vs:Array Value}(h:sN c xs vs):∀x∈xs,Ok x:=λx J=>
 let⟨i,hi⟩:=y1 J
 let⟨v,U⟩:=CJ h.1 hi
 (h.2 i x v hi U).ok
theorem aFb{f:FuncId}(h:(∀x∈args,Ok x)->dp P f args H R):dp P f args H R:=
 λc vs hs J=>h J.ok c vs hs J
theorem KH{f:FuncId}{x:I}(h:(∀x∈args,Ok x)->aM P f args H x):aM P f args H x:=aFb h
theorem OU{f:FuncId}{x:I}(h:Ok a->aM P f [a] H x):aM P f [a] H x:=KH λk=>h<|k _ kk
theorem po{f:FuncId}{b:I}{x:I}(h:Ok a->Ok b->aM P f [a,b] H x):aM P f [a,b] H x:=KH λk=>h (k _ kk)<|k _ kk
theorem OV{f:FuncId}{b:I}{x:I}(h:Ok a->Ok b->Ok d->aM P f [a,b,d] H x):aM P f [a,b,d] H x:=KH λk=>h (k _ kk) (k _ kk)<|k _ kk
theorem aID{f:FuncId}{b e:I}{x:I}(h:Ok a->Ok b->Ok d->Ok e->aM P f [a,b,d,e] H x):aM P f [a,b,d,e] H x:=KH λk=>h (k _ kk) (k _ kk) (k _ kk)<|k _ kk
def XI(Q:cX):cX
 |.goto _,_,_=>False
 |e,α,H=>Q e α H
section
variable (Q:cX) (α:a7) (H:ab)
@[go_sem] theorem aUg:XI Q .ret α H=Q .ret α H:=rfl
end
theorem aEh{F:Fence}{n:Nat}{c:Code}{Q:Exit->Act->World->Prop}{a:Act}{w:World}(h:c.wpIn F n P (Exit.noGoto Q) a w):(Code.scope c).wpIn F n P Q a w:=by
 intro b k cs I V Z;have aw:(lone (b.atR a (.code (.scope c)::k)) cs w).fenced P F:=fenced_calm V Z rfl;have O:step P (lone (b.atR a (.code (.scope c)::k)) cs w)=.next (lone (b.atR a (.code c::.inScope c::k)) cs w):=step_lone_go<|by simp[stepG,stepG.exec,Frame.atR]
 obtain⟨e,J,U,aJ,T⟩:=h b (.inScope c::k) cs I V Z;have s1:step P (lone (b.atR J (.inScope c::k)) cs U)=.next (lone (b.atR J k) cs U):=step_lone_go<|by simp[stepG,stepG.exec,Frame.atR]
 cases e with
 |normal=>exact⟨.normal,J,U,aJ,.head aw O<|StepsIn.trans T (.one (fenced_calm V Z rfl) s1)⟩
 |exit id=>exact⟨.exit id,J,U,aJ,λk' hk=>.head aw O<|T.1 k' (by simp[exitTo,hk]),λh6 hk=>let⟨k₁,h1,h2⟩:=T.2 h6 (by simp[exitTo,hk]);⟨k₁,h1,.head aw O h2⟩⟩
 |goto l=>exact aJ.elim
 |ret=>exact⟨_,J,U,aJ,.of_steps (.one aw O) T⟩
 |panic nZ=>exact⟨_,J,U,aJ,.of_steps (.one aw O) T⟩
 |outgrown=>exact⟨_,J,U,aJ,.of_steps (.one aw O) T⟩
theorem VT{x:Code}(h:cI P N x (XI Q) α H):cI P N (.scope x) Q α H:=by
 intro r c a U hs O;refine aEh<|wpIn_mono (h r c a U hs O) λe I w' ⟨c',T,H',av,al,V,Z,J⟩=>?_
 cases e with
 |goto l=>exact J.elim
 |_=>exact⟨c',T,H',av,al,V,Z,J⟩
theorem oK{f:FuncId}{x:I}{k:I->ab->Prop}(h:aM P f (first++args++cap) H x)(ok:kF P f=true)(hk:k x H):qA P (.func (.func f) first cap) args H k:=
 Or.inl ⟨ok,h.mono λy H' ⟨av,al⟩=>by subst av;subst al;exact hk⟩
theorem qd{f:FuncId}{k:I->ab->Prop}(h:dp P f (first++args++cap) H R)(ok:kF P f=true)(hk:∀x H',R x H'->k x H'):qA P (.func (.func f) first cap) args H k:=
 Or.inl ⟨ok,h.mono hk⟩
theorem oL{f:FuncId}{x:I}(h:g=true->aM P f (first++args++cap) H x)(ok:kF P f=true)(hk:K x):tk P g (.func (.func f) first cap) args H K:=
 ⟨x,λJ=>Or.inl ⟨ok,h J⟩,hk⟩
theorem SM{f:I}(v:I)(hk:K v):tk P false f args H K:=⟨v,(λh=>by cases h),hk⟩
def x6(P:Program)(f:I)(args:List I)(H:ab)(x:I):Prop:=∀L,kb P f args (H++L) λv H'=>v=x/\H'=H++L
theorem x6.mk{f:FuncId}{x:I}(h:∀L,aM P f (first++args++cap) (H++L) x)(ok:kF P f=true):x6 P (.func (.func f) first cap) args H x:=
 λL=>Or.inl ⟨ok,h L⟩
theorem aIE{f:I}{x:I}{k:I->ab->Prop}(h:x6 P f args H x)(hk:k x (H++L)):qA P f args (H++L) k:=by
 exact(h L).mono λy H' ⟨av,al⟩=>by subst av;subst al;exact hk
theorem Oa{f:I}{x:I}{k:I->ab->Prop}(h:x6 P f args H x)(hk:k x H):qA P f args H k:=by
 have h1:=aIE (L:=[]) (k:=k) h<|by rw[cA];exact hk
 rwa[cA]at h1
theorem b3{b:bE}(h:ay H i=b)(J:b.live)(L:ab):ay (H++L) i=b:=by
 have U:=dk h J;have h1:=kG h J;simp only[ay,et];rw[iP U,h1];rfl
theorem hX(h:i<H.length)(L:ab)(b:bE):ar (H++L) i b=ar H i b++L:=by
 unfold ar;rw[List.set_append_left _ _ h]
inductive fv:I->I->Prop
 |refl (x:I):fv x x
 |sl (f:Bool) (es:List I):fv (.sl f es) (.sl false es)
 |agg (cs bk:List I) (hl:cs.length=bk.length) (h:∀(i:Nat) (x y:I),cs[i]?=some x->bk[i]?=some y->fv x y):fv (.agg cs) (.agg bk)
 |aQ (cs bk:List I) (hl:cs.length=bk.length) (h:∀(i:Nat) (x y:I),cs[i]?=some x->bk[i]?=some y->fv x y):fv (.aQ cs) (.aQ bk)
 |iface (t:TypeId) (x y:I) (h:fv x y):fv (.iface t x) (.iface t y)
 |top (x:I):fv x .top
theorem fv.of{x y:I}(h:x=y):fv x y:=h▸.refl x
theorem kZ:∀(i:Nat) (x y),([])[i]?=some x->([])[i]?=some y->fv x y:=λ_ _ _ h=>kk
theorem c6{b:I}(h:fv a b)(hs:∀(i:Nat) (x y:I),cs[i]?=some x->bk[i]?=some y->fv x y):∀(i:Nat) (x y:I),(a::cs)[i]?=some x->(b::bk)[i]?=some y->fv x y
 |0,x,y,J,U=>kr
 |i+1,x,y,J,U=>hs i x y kr kr
theorem aI.aRC{x y:I}(h:fv x y):∀{v:Value},aI c x v->aI c y v:=by
 induction h with
 |refl x=>exact λh=>h
 |sl f es=>intro v U;cases U with|sl _ _ base len cap s vs h1 h2 h3 h4 V Z nv=>exact .sl false es base len cap s vs h1 h2 (λh=>kr) h4 V Z nv
 |agg cs bk hl _ O=>
  intro v U;cases U with
  |agg _ vs h1 h2=>
   refine .agg bk vs iV λi y u T hu=>?_
   grind
 |aQ cs bk hl _ O=>
  intro v U;cases U with
  |aQ _ vs h1 h2=>
   refine .aQ bk vs iV λi y u T hu=>?_
   have ak:=(cj.1 T).1;have J:cs[i]?=some (cs[i]'(_)):=da iV
   exact O i _ y J T<|h2 i _ u J hu
 |iface t x y _ O=>
  intro v U;cases U with
  |iface _ _ dM aG=>exact .iface t y dM<|O aG
 |top x=>exact λ_=>.top _
theorem bp.aRD(O:bp c H)(an:ay H i=.cells v cs)(hl:cs.length=bk.length)(hs:∀(i:Nat) (x y),cs[i]?=some x->bk[i]?=some y->fv x y):bp c (ar H i<|.cells v bk):=by
 have hi:=kG an trivial;have ay:∀{j:Nat} {b:bE},(ar H i (.cells v bk))[j]?=some b->(j=i/\b=.cells v bk)\/(j≠i/\H[j]?=some b):=by
  intro j b U;by_cases e:j=i
  ·grind [ar,rH]
  ·rw[ar,gC λq=>e q.symm]at U
   exact .inr ⟨e,U⟩
 have V:∀{j:Nat} {b:bE},(ar H i (.cells v bk))[j]?=some b->b.live->∃Z,H[j]?=some Z/\Z.live:=by
  intro j b U T;rcases ay U with⟨rfl,rfl⟩|⟨_,h⟩
  ·exact⟨_,hi,trivial⟩
  ·exact⟨_,h,T⟩
 refine⟨O.jX,by simp[ar,O.n],O.lt,λj k b Z U hk T ew eH gf he=>?_,λk hk=>?_,λj b U=>?_⟩
 ·obtain⟨aO,g1,g2⟩:=V U T;obtain⟨bo,g3,g4⟩:=V hk ew;exact O.inj j k aO bo g1 g3 g2 g4 eH gf he
 ·obtain⟨h1,h2⟩:=O.st k hk;refine⟨h1,λj b U T eH=>?_⟩
  obtain⟨aO,g1,g2⟩:=V U T;exact h2 j aO g1 g2 eH
 ·rcases ay U with⟨rfl,rfl⟩|⟨_,h⟩
  ·cases(O.rep j _ hi)with
   |cells _ _ vs e bT aP I bH cC ez ky=>
    refine .cells _ _ vs e bT aP I bH iV ez λm y u aH hu=>?_
    have gi:=(cj.1 aH).1;have J:cs[m]?=some (cs[m]'(by omega)):=da iV
    exact(ky m _ u J hu).aRC<|hs m _ y J aH
   |void _ aP I=>
    have:=iO<|by simpa using hl.symm
    subst this;exact .void _ aP I
  ·exact O.rep j b h
theorem Kj(i)(bk)(J:ay H i=.cells v cs)(hl:cs.length=bk.length)(hs:∀(i:Nat) (x y),cs[i]?=some x->bk[i]?=some y->fv x y)(h:cI P N code Q α (ar H i<|.cells v bk)):cI P N code Q α H:=
 λr c a U O T=>h r c a U (O.aRD J hl hs) T
theorem y2(t s:Nat)(J:look α t=.sl true [])(h:cI P N code Q ((t,.osl s H.length 1 0 0 0)::α) (H++[.cells 1 []])):cI P N code Q α H:=by
 intro r c a U O T;have V:=Ext.void c;refine wpIn_mono (h r c.void a U O.void ⟨T.size,T.defers.mono V,λu=>?_⟩) λ_ _ _ ⟨c',Z,H',av,al,I,bu,b9⟩=>⟨c',Z,H',av,al,V.trans I,bu,b9⟩
 rw[look];by_cases e:t=u
 ·subst e;rw[beq_self_eq_true,tG];have U:=T.rep t;rw[J]at U;generalize a.tmps.getD t undef=val at U;cases U with
  |sl _ _ base len cap j6 vs h1 h2 h3 h4 b4 db nv=>
   have mq:=h3 rfl;subst h1;subst mq;exact .osl _ _ _ _ _ _ _ (by simp[Ctx.void,O.n]) (by simp[Ctx.void,O.n]) rfl iV (λ_ _=>⟨rfl,rfl,base,rfl⟩) λ_ hd=>by simp[Ctx.void,O.n]at hd
 ·have aa:(t==u)=false:=by simpa using e
  rw[aa];exact(T.rep u).mono V
inductive b6:I->Prop
 |int (k n):b6 (.int k n)
 |bool (b):b6 (.bool b)
 |str (s):b6 (.str s)
 |agg (cs:List I) (h:∀x∈cs,b6 x):b6 (.agg cs)
 |aQ (cs:List I) (h:∀x∈cs,b6 x):b6 (.aQ cs)
 |sl (f) (es:List I) (h:∀x∈es,b6 x):b6 (.sl f es)
 |dO:b6 .dO
 |iu:b6 .iu
 |ea:b6 .ea
 |iface (t x) (h:b6 x):b6 (.iface t x)
 |nilIface:b6 .nilIface
 |top:b6 .top
theorem b6.cells{x:I}(h:b6 x):∀y∈x.cells,b6 y:=by
 grind [I.cells,dF,b6]
theorem b6.cl{x:I}(h:b6 x)(n):cM n x:=by
 induction h with
 |int k m=>exact .int k m
 |bool b=>exact .bool b
 |str s=>exact .str s
 |agg cs _ U=>exact .agg cs λi x J=>U x<|ds J
 |aQ cs _ U=>exact .aQ cs λi x J=>U x<|ds J
 |sl f es _ U=>
  refine .sl f es λk e j x hk T=>?_
  have key:∀e,cM n e->∀x∈e.cells,cM n x:=by
   intro e he x J;cases e with
   |agg cs=>cases he with|agg _ O=>obtain⟨i,hi⟩:=y1 J;exact O i x hi
   |_=>simp[I.cells]at J;subst J;exact he
  grind
 |dO=>exact .dO
 |iu=>exact .iu
 |ea=>exact .ea
 |iface t x _ U=>exact .iface t x U
 |nilIface=>exact .nilIface
 |top=>exact .top
section
variable (k:IntKind) (n:Int) (b f:Bool) (s:List UInt8) (cs:List I) (t:TypeId) (x:I)
def BR(l:List I):Prop:=∀x∈l,b6 x
section
variable {α:Type}
@[go_sem] theorem aWg(k)(n):b6 (.int k n)=True:=b5<|.int k n
@[go_sem] theorem aVW(b):b6 (.bool b)=True:=b5<|.bool b
@[go_sem] theorem aWh(s):b6 (.str s)=True:=b5<|.str s
@[go_sem] theorem aVX:b6 .nilIface=True:=b5 .nilIface
@[go_sem] theorem aWi(cs):b6 (.agg cs)=BR cs:=propext ⟨λh=>by cases h;assumption,.agg cs⟩
@[go_sem] theorem aWj(cs):b6 (.aQ cs)=BR cs:=propext ⟨λh=>by cases h;assumption,.aQ cs⟩
@[go_sem] theorem aWy(f)(cs):b6 (.sl f cs)=BR cs:=propext ⟨λh=>by cases h;assumption,.sl f cs⟩
@[go_sem] theorem aVC(t)(x):b6 (.iface t x)=b6 x:=propext ⟨λh=>by cases h;assumption,.iface t x⟩
@[go_sem] theorem aVY:BR []=True:=b5 λ_ h=>kr
@[go_sem] theorem aVD(x)(l):BR (x::l)=(b6 x/\BR l):=propext List.forall_mem_cons
@[go_sem] theorem aVZ(f)(l:List α)(h:∀x,b6<|f x):BR (l.map f)=True:=b5 λx J=>kr
end
end
theorem fv.yA{n:Nat}{x y:I}(h:fv x y):b6 x->cL n H x y:=by
 induction h with
 |refl x=>exact λad=>.cl x<|ad.cl n
 |sl f es=>exact λad=>.Jn f es<|ad.cl n
 |agg cs bk hl _ U=>exact λad=>.agg cs bk hl λi x y J O=>U i x y J O (by cases ad with|agg _ h=>exact h x<|ds J)
 |aQ cs bk hl _ U=>exact λad=>.aQ cs bk hl λi x y J O=>U i x y J O (by cases ad with|aQ _ h=>exact h x<|ds J)
 |iface t x y _ U=>exact λad=>.iface t x y<|U (by cases ad with|iface _ _ h=>exact h)
 |top x=>exact λ_=>.any x
theorem done{n:Nat}{v x:I}(ad:b6 v)(hs:fv v x):∃J y,H++L=H++J/\cL n (H++L) v y/\y=x:=⟨L,x,rfl,hs.yA ad,rfl⟩
theorem BG{n:Nat}{v x:I}(ad:b6 v)(hs:fv v x):∃J y,H=H++J/\cL n H v y/\y=x:=⟨[],x,(cA H).symm,hs.yA ad,rfl⟩
theorem BB{n:Nat}{v x:I}(aW:H++L=G)(ad:b6 v)(hs:fv v x):∃J y,G++M=H++J/\cL n (G++M) v y/\y=x:=⟨L++M,x,kr,hs.yA ad,rfl⟩
theorem KI{n:Nat}{v x:I}(aW:H++L=G)(ad:b6 v)(hs:fv v x):∃J y,G=H++J/\cL n G v y/\y=x:=⟨L,x,aW.symm,hs.yA ad,rfl⟩
theorem aLp(aW:H++L=G):G++M=H++(L++M):=kr
theorem q3{n:Nat}{s k:Nat}(af:n<=i)(O:ay H i=.cells v cs)(T:cs=es.flatMap I.cells++rest)(hk:es.length=k)(hs:∀e∈es,e.cells.length=s)(ad:∀e∈es,b6 e):
  cL n H (.osl s i v 0 k lc) (.sl false es):=by
 have V:=Je hs;refine .osl s i v 0 k lc cs es af O hk kr hs λk j e x y he U J=>?_
 have h1:=AO hs he U;rw[j9,T,iP<|(cj.1 h1).1,h1]at J;cases J;exact .cl _<|(b6.cells (ad e (ds he)) _ (ds U)).cl n
theorem uH{s k:Nat}{x:I}(af:H.length<=i)(U:ay (H++L) i=.cells v cs)(O:cs=es.flatMap I.cells++rest)(hk:es.length=k)(hs:∀e∈es,e.cells.length=s)(ad:∀e∈es,b6 e)(J:x=.sl false es):
  ∃T y,H++L=H++T/\cL H.length (H++L) (.osl s i v 0 k lc) y/\y=x:=⟨L,x,rfl,by rw[J];exact q3 af U O hk hs ad,rfl⟩
def ep(n:Nat):bE->Prop
 |.cells _ cs|.c5 _ _ cs=>∀x∈cs,cM n x
 |.map es _=>∀p∈es,cM n p.1/\cM n p.2.1
 |.iI m _ _ _=>m<n
 |.loop _ α _ _ _ _ _ _=>∀t,cM n<|look α t
 |_=>True
theorem bp.Hu(h:bp c H){b:bE}(hi:H[i]?=some b):ep c.n b:=by
 cases h.rep i b hi with
 |cells a1 cs vs e V _ _ _ hl _ U=>exact λx J=>let⟨j,O⟩:=y1 J;(U j x _ O (mc kr)).cl
 |void|pQ=>exact λx J=>oE
 |c5 _ a1 cs vs _ _ _ hl _ U=>exact λx J=>let⟨j,O⟩:=y1 J;(U j x _ O (mc kr)).cl
 |map es clock cZ _ _ _ hl U=>exact λp ad=>let⟨j,O⟩:=y1 ad;let⟨aP,T,_⟩:=U j p _ O (mc (by have:=(cj.1 O).1;omega));⟨aP.cl,T.cl⟩
 |iI m _ _ _ _ _ hm=>exact hm
 |mB=>trivial
 |loop _ _ _ _ _ _ _ _ _ _ _ _ _ _ _ _ U=>exact λt=>(U t).cl
 |gone=>trivial
theorem bp.Hy{n:Nat}(af:n=H.length)(T:bp c (H++L))(dV:∀(i:Nat) (b:bE),H[i]?=some b->ep n b):bp (c.drop n) H where
 jX:=T.jX.drop n
 n:=af
 lt:=λi hi hd=>by
  have cF:i<n:=hi;exact T.lt i (by rw[T.n];simp;omega) hd
 inj:=λi j b cB hi Z I ew fF eH he=>by
  have h1:=(cj.1 hi).1;have h2:=(cj.1 Z).1;exact T.inj i j b cB kr kr I ew fF eH he
 st:=λk hk=>by
  have hJ:=T.n;rw[bF]at hJ;rcases hk with hk|⟨i,h1,h2,h3,rfl⟩
  ·obtain⟨aP,aR⟩:=T.st k hk;exact⟨aP,λj b Z I hd=>aR j b (by rw[iP (cj.1 Z).1];exact Z) I hd⟩
  ·refine⟨T.lt i h2 h3,λj b Z I hd e=>?_⟩
   have nz:=(cj.1 Z).1;have ak:i<(H++L).length:=by rw[bF];omega
   have hi:=da ak;by_cases yM:((H++L)[i]).live
   ·have:=T.inj j i b _ kr hi I yM hd h3 e
    omega
   ·have V:=T.rep i _ hi;generalize(H++L)[i]=bi at V yM;cases V with
    |gone gJ=>rw[h3]at gJ;cases gJ
    |_=>exact yM trivial
 rep:=λi b hi=>by
  have cF:=(cj.1 hi).1;have h1:=T.rep i b<|by rw[iP cF];exact hi
  have h2:=dV i b hi;cases h1 with
  |cells a1 cs vs e bT U hd O hl ax V=>exact .cells a1 cs vs e bT U hd O hl ax λj x v J kO=>(V j x v J kO).drop<|h2 x (ds J)
  |void a1 U hd=>exact .void a1 U hd
  |c5 t a1 cs vs U hd O hl aT V=>exact .c5 t a1 cs vs U hd O hl aT λj x v J kO=>(V j x v J kO).drop<|h2 x (ds J)
  |pQ t a1 U hd=>exact .pQ t a1 U hd
  |map es clock cZ U hd O hl V=>exact .map es clock cZ U hd O hl λj p e ad he=>let⟨g1,g2,g3⟩:=V j p e ad he;let⟨aP,aR⟩:=h2 p<|ds ad;⟨g1.drop aP,g2.drop aR,g3⟩
  |iI m since seen kU U hd hm yR E0 O=>exact .iI m since seen kU U hd h2 yR E0 O
  |mB s pos U hd O h7=>exact .mB s pos U hd O h7
  |loop l α N st ic ps ns dS fn D ts U hd hl O eU V=>exact .loop l α N st ic ps ns dS fn D ts U hd hl O eU λt=>(V t).drop<|h2 t
  |gone hd=>exact .gone hd
theorem aFc{f:FuncId}(U:P.funcs[f]?=some fn)(O:fn.body=some code)(af:args.length<=fn.ntmps)
  (h:cI P fn.ntmps code (qJ P fn.results.toList λv H'=>∃H1 L y,H'=H1++L/\H1.length=H.length/\(∀(i:Nat) (b:bE),H1[i]?=some b->H[i]?=some b\/ep H.length b)/\cL H.length H' v y/\R y H1) (qb 0 args) H):dp P f args H R:=by
 intro c vs hs T;refine(ID U O af h c vs hs T).mono λe w' ⟨c',x,v,H',av,al,J,V,Z,H1,L,y,I,LL,Qt,mN,p9⟩=>?_
 subst I;refine⟨c'.drop c.n,y,v,H1,av,al,bp.Hy (by rw[hs.n,LL]) J λi b hi=>?_,V.drop,?_,p9⟩
 ·rcases Qt i b hi with h|h
  ·exact hs.Hu h
  ·rw[hs.n];exact h
 ·have:=mN.sound J Z;rwa[<-hs.n]at this
theorem cM.mono{n m:Nat}(h:n<=m){x:I}(k:cM n x):cM m x:=by
 induction k with
 |int k n=>exact .int k n
 |bool b=>exact .bool b
 |str s=>exact .str s
 |agg cs _ J=>exact .agg cs J
 |aQ cs _ J=>exact .aQ cs J
 |sl f es _ J=>exact .sl f es J
 |cptr cs _ J=>exact .cptr cs J
 |ref i v off q=>exact .ref i v off iV
 |osl s i v off len lc q=>exact .osl s i v off len lc iV
 |dO=>exact .dO
 |map i q=>exact .map i iV
 |iu=>exact .iu
 |iter i q=>exact .iter i iV
 |func fn fs cs _ _ U O=>exact .func fn fs cs U O
 |ea=>exact .ea
 |iface t x _ J=>exact .iface t x J
 |nilIface=>exact .nilIface
 |opt g x _ J=>exact .opt g x J
 |top=>exact .top
theorem ep.mono{n m:Nat}(h:n<=m){b:bE}(k:ep n b):ep m b:=by
 cases b with
 |cells v cs=>exact λx J=>(k x J).mono h
 |c5=>exact λx J=>(k x J).mono h
 |map es cl=>exact λp ad=>⟨(k p ad).1.mono h,(k p ad).2.mono h⟩
 |iI=>exact tB k h
 |loop=>exact λt=>(k t).mono h
 |mB=>trivial
 |gone=>trivial
theorem Ext.Zt{c':Ctx}(h:Ext c c'){n:Nat}(af:c.n<=n):Ext c (c'.drop n):=
 ⟨af,h.size,λb J=>⟨.inl (h.st b J).1,(h.st b J).2⟩,h.a1,h.bl,h.os,h.tape,h.output,h.base⟩
theorem aDy{f:FuncId}(O:P.funcs[f]?=some fn)(T:fn.body=some code)(af:args.length<=fn.ntmps)
  (h:cI P fn.ntmps code (qJ P fn.results.toList λv H'=>∃H1 L y,H'=H1++L/\H.length<=H1.length/\(∀(i:Nat) (b:bE),H1[i]?=some b->H[i]?=some b\/ep H1.length b)/\cL H1.length H' v y/\R y H1) (qb 0 args) H):dp P f args H R:=by
 intro c vs hs V;refine(ID O T af h c vs hs V).mono λe w' ⟨c',x,v,H',av,al,J,Z,I,H1,L,y,gH,U,Qt,mN,p9⟩=>?_
 subst gH;refine⟨c'.drop H1.length,y,v,H1,av,al,bp.Hy rfl J λi b hi=>?_,Z.Zt (by rw[hs.n];exact U),mN.sound J I,p9⟩
 rcases Qt i b hi with h|h
 ·exact(hs.Hu h).mono<|by rw[hs.n];exact U
 ·exact h
theorem aNf{b:I}:(∃v,(A/\B/\v=b)/\X v)=(A/\B/\X b):=
 propext ⟨fun⟨_,⟨h1,h2,e⟩,x⟩=>⟨h1,h2,e▸x⟩,fun⟨h1,h2,x⟩=>⟨b,⟨h1,h2,rfl⟩,x⟩⟩
theorem aNg{b:I}:(∃v,(A/\B/\C/\v=b)/\X v)=(A/\B/\C/\X b):=
 propext ⟨fun⟨_,⟨h1,h2,h3,e⟩,x⟩=>⟨h1,h2,h3,e▸x⟩,fun⟨h1,h2,h3,x⟩=>⟨b,⟨h1,h2,h3,rfl⟩,x⟩⟩
theorem aNh{b:I}:(∃v,(A/\B/\v=b)/\W v/\X v)=(A/\B/\W b/\X b):=
 propext ⟨fun⟨_,⟨h1,h2,e⟩,y,x⟩=>⟨h1,h2,e▸y,e▸x⟩,fun⟨h1,h2,y,x⟩=>⟨b,⟨h1,h2,rfl⟩,y,x⟩⟩
theorem aNi{b:I}:(∃v,(A/\B/\C/\v=b)/\W v/\X v)=(A/\B/\C/\W b/\X b):=
 propext ⟨fun⟨_,⟨h1,h2,h3,e⟩,y,x⟩=>⟨h1,h2,h3,e▸y,e▸x⟩,fun⟨h1,h2,h3,y,x⟩=>⟨b,⟨h1,h2,h3,rfl⟩,y,x⟩⟩
theorem ZB{b:I}{W:ab->Prop}{X:I->ab->Prop}:(∃v H1,(A/\v=b/\H1=G)/\W H1/\X v H1)=(A/\W G/\X b G):=
 propext ⟨fun⟨_,_,⟨h1,e,J⟩,y,x⟩=>kr,fun⟨h1,y,x⟩=>⟨b,G,⟨h1,rfl,rfl⟩,y,x⟩⟩
attribute [go_sem] tz pJ va
def DZ(P:Program)(g:Bool)(f:I)(xs:List I)(H:ab)(K:I->ab->Prop):Prop:=
 ∃v H1,(g=true->kb P f xs H (λdM H'=>dM=v/\H'=H1))/\(g=false->H1=H)/\K v H1
def v7(P:Program)(g:Bool)(f:I)(xs:List I)(v:I):ab->Prop:=λh=>g=true->kb P f xs h (λdM H'=>dM=v/\H'=h)
def G3(P:Program)(g:Bool)(f:I)(xs:List I)(H:ab)(w:Nat)(bR:List ab)(K:I->Prop):Prop:=∃v,v7 P g f xs v H/\va w bR (v7 P g f xs v)/\K v
section
variable (all os:List Oper) (pp:List cu) (w k:Nat) (fs:List Bool) (α:a7) (H:ab) (bR:List ab) (cf:hZ) (ef:a7->ab->Prop) (dst:Option Tmp) (ty:TypeId) (pos:String) (after:Array Edge)
def O8(P:Program)(all:List Oper)(pp:List cu)(os:List Oper)(k:Nat)(dst:Option Tmp)(α:a7)(H:ab)(bR:List ab)(cf:hZ)(ef:a7->ab->Prop)(f:I)(xs:List I):I->Prop:=
 λv=>e0 P all pp os (k+1) (cJ dst v α) H bR ((k,v7 P true f xs v)::cf) ef
def aKs(P:Program)(all:List Oper)(pp:List cu)(os:List Oper)(k:Nat)(dst:Option Tmp)(g:Bool)(α:a7)(H:ab)(bR:List ab)(cf:hZ)(ef:a7->ab->Prop)(f:I)(xs:List I):I->Prop:=
 λv=>e0 P all pp os (k+1) (cJ dst (.opt g v) α) H bR ((k,v7 P g f xs v)::cf) ef
@[go_sem] theorem aX9:e0 P all [] [] k α H bR cf ef=ef α H:=rfl
@[go_sem] theorem aVE(f)(xs)(ts):e0 P all (.pure w::pp) (⟨dst,.call ⟨.value f,xs,ts⟩,ty,pos,after,none⟩::os) k α H bR cf ef=
  G3 P true (bm α f) (xs.toList.map<|bm α) H w bR (O8 P all pp os k dst α H bR cf ef (bm α f)<|xs.toList.map (bm α)):=by
 have e:∀v,(λh=>nL P all h ⟨dst,.call ⟨.value f,xs,ts⟩,ty,pos,after,none⟩ α v)=v7 P true (bm α f) (xs.toList.map<|bm α) v:=λv=>funext λh=>propext ⟨λk _=>k,λk=>k rfl⟩
 show(∃v,(λh=>nL P all h ⟨dst,.call ⟨.value f,xs,ts⟩,ty,pos,after,none⟩ α v) H/\va w bR (λh=>nL P all h ⟨dst,.call ⟨.value f,xs,ts⟩,ty,pos,after,none⟩ α v)/\e0 P all pp os (k+1) (cJ dst v α) H bR ((k,λh=>nL P all h ⟨dst,.call ⟨.value f,xs,ts⟩,ty,pos,after,none⟩ α v)::cf) ef)=_
 simp[e,(λv=>congrFun (e v) H)];rfl
@[go_sem] theorem aUI(r)(m)(xs)(ts):e0 P all (.pure w::pp) (⟨dst,.call ⟨.invoke r m,xs,ts⟩,ty,pos,after,none⟩::os) k α H bR cf ef=
  G3 P true (sY P m<|bm α r) (xs.toList.map<|bm α) H w bR (O8 P all pp os k dst α H bR cf ef (sY P m (bm α r))<|xs.toList.map (bm α)):=by
 have e:∀v,(λh=>nL P all h ⟨dst,.call ⟨.invoke r m,xs,ts⟩,ty,pos,after,none⟩ α v)=v7 P true (sY P m<|bm α r) (xs.toList.map<|bm α) v:=λv=>funext λh=>propext ⟨λk _=>k,λk=>k rfl⟩
 show(∃v,(λh=>nL P all h ⟨dst,.call ⟨.invoke r m,xs,ts⟩,ty,pos,after,none⟩ α v) H/\va w bR (λh=>nL P all h ⟨dst,.call ⟨.invoke r m,xs,ts⟩,ty,pos,after,none⟩ α v)/\e0 P all pp os (k+1) (cJ dst v α) H bR ((k,λh=>nL P all h ⟨dst,.call ⟨.invoke r m,xs,ts⟩,ty,pos,after,none⟩ α v)::cf) ef)=_
 simp[e,(λv=>congrFun (e v) H)];rfl
def XJ(P:Program)(all:List Oper)(pp:List cu)(os:List Oper)(k:Nat)(fs:List Bool)(dst:Option Tmp)(g:Bool)(α:a7)(H:ab)(bR:List ab)(cf:hZ)(ef:a7->ab->Prop):I->ab->Prop:=
 λv H1=>tz fs cf H1/\e0 P all pp os (k+1) (cJ dst (.opt g v) α) H1 (H::bR) (pJ fs cf) ef
def XK(P:Program)(all:List Oper)(pp:List cu)(os:List Oper)(k:Nat)(fs:List Bool)(dst:Option Tmp)(α:a7)(H:ab)(bR:List ab)(cf:hZ)(ef:a7->ab->Prop):I->ab->Prop:=
 λv H1=>tz fs cf H1/\e0 P all pp os (k+1) (cJ dst v α) H1 (H::bR) (pJ fs cf) ef
@[go_sem] theorem aVF(f:Operand)(xs:Array Operand)(ts:Array TypeId):e0 P all (.eff fs::pp) (⟨dst,.call ⟨.value f,xs,ts⟩,ty,pos,after,none⟩::os) k α H bR cf ef=
  DZ P true (bm α f) (xs.toList.map<|bm α) H (XK P all pp os k fs dst α H bR cf ef):=
 propext ⟨fun⟨v,H1,h1,h2⟩=>⟨v,H1,λ_=>h1,λh=>kr,h2⟩,fun⟨v,H1,h1,_,h2⟩=>⟨v,H1,h1 rfl,h2⟩⟩
@[go_sem] theorem aUJ(f:Operand)(xs:Array Operand)(ts:Array TypeId)(j:Nat)(df:Bool):e0 P all (.eff fs::pp) (⟨dst,.call ⟨.value f,xs,ts⟩,ty,pos,after,some (j,df)⟩::os) k α H bR cf ef=
  (iL (bS α<|bQ all j)/\lu (cm (bS α<|bQ all j) df) α (f::xs.toList)/\
   DZ P (cm (bS α<|bQ all j) df) (dB α f) (xs.toList.map<|dB α) H (XJ P all pp os k fs dst (cm (bS α<|bQ all j) df) α H bR cf ef)):=
 propext ⟨fun⟨_,H1,⟨h1,h2,u,h3,h4,rfl⟩,J⟩=>⟨h1,h2,u,H1,h3,h4,J⟩,fun⟨h1,h2,u,H1,h3,h4,J⟩=>⟨_,H1,⟨h1,h2,u,h3,h4,rfl⟩,J⟩⟩
@[go_sem] theorem aV0(x y z:Operand):e0 P all (.free::pp) (⟨dst,.pick x y z,ty,pos,after,none⟩::os) k α H bR cf ef=
  ((kJ true (bm α x) (bm α y) (bm α z)).s/\e0 P all pp os (k+1) (cJ dst (kJ true (bm α x) (bm α y)<|bm α z).v α) H bR cf ef):=
 propext ⟨fun⟨_,⟨h1,e⟩,x⟩=>⟨h1,e▸x⟩,fun⟨h1,x⟩=>⟨_,⟨h1,rfl⟩,x⟩⟩
def aL3(g:Bool)(v:I):I:=.opt g v
attribute [go_sem] aL3
section
variable (op:Op) (h:l7 op=true) (j:Nat) (df:Bool) (v:I)
include h
theorem Ur:nL P all H ⟨dst,op,ty,pos,after,none⟩ α v=((cr P op (bm α) H).s/\(cr P op (bm α) H).H=H/\v=(cr P op (bm α) H).v):=by
 cases op<;>first|rfl|(cases h)|skip
 rename_i c;obtain⟨ce,xs,ts⟩:=c;cases ce<;>first|rfl|cases h
theorem Ul:nL P all H ⟨dst,op,ty,pos,after,some (j,df)⟩ α v=(iL (bS α<|bQ all j)/\lu (cm (bS α<|bQ all j) df) α (ou op)/\((cm (bS α<|bQ all j) df)=true->(cr P op (dB α) H).s/\(cr P op (dB α) H).H=H)/\v=.opt (cm (bS α<|bQ all j) df) (cr P op (dB α) H).v):=by
 cases op<;>first|rfl|(cases h)|skip
 rename_i c;obtain⟨ce,xs,ts⟩:=c;cases ce<;>first|rfl|cases h
@[go_sem] theorem aWk:e0 P all (.free::pp) (⟨dst,op,ty,pos,after,none⟩::os) k α H bR cf ef=
  ((cr P op (bm α) H).s/\(cr P op (bm α) H).H=H/\e0 P all pp os (k+1) (cJ dst (cr P op (bm α) H).v α) H bR cf ef):=by
 simp only[e0,Ur (h:=h)];exact aNf
@[go_sem] theorem aV1:e0 P all (.free::pp) (⟨dst,op,ty,pos,after,some (j,df)⟩::os) k α H bR cf ef=
  (iL (bS α<|bQ all j)/\lu (cm (bS α<|bQ all j) df) α (ou op)/\((cm (bS α<|bQ all j) df)=true->(cr P op (dB α) H).s/\(cr P op (dB α) H).H=H)/\e0 P all pp os (k+1) (cJ dst (.opt (cm (bS α<|bQ all j) df) (cr P op (dB α) H).v) α) H bR cf ef):=by
 simp only[e0,Ul (h:=h)];exact aNg
@[go_sem] theorem aWl:e0 P all (.pure w::pp) (⟨dst,op,ty,pos,after,none⟩::os) k α H bR cf ef=
  ((cr P op (bm α) H).s/\(cr P op (bm α) H).H=H/\va w bR (λh=>(cr P op (bm α) h).s/\(cr P op (bm α) h).H=h/\(cr P op (bm α) H).v=(cr P op (bm α) h).v)/\
    e0 P all pp os (k+1) (cJ dst (cr P op (bm α) H).v α) H bR ((k,λh=>(cr P op (bm α) h).s/\(cr P op (bm α) h).H=h/\(cr P op (bm α) H).v=(cr P op (bm α) h).v)::cf) ef):=by
 simp only[e0,Ur (h:=h)];exact aNh
@[go_sem] theorem aV2:e0 P all (.pure w::pp) (⟨dst,op,ty,pos,after,some (j,df)⟩::os) k α H bR cf ef=
  (iL (bS α<|bQ all j)/\lu (cm (bS α<|bQ all j) df) α (ou op)/\((cm (bS α<|bQ all j) df)=true->(cr P op (dB α) H).s/\(cr P op (dB α) H).H=H)/\
   va w bR (λh=>iL (bS α<|bQ all j)/\lu (cm (bS α<|bQ all j) df) α (ou op)/\((cm (bS α<|bQ all j) df)=true->(cr P op (dB α) h).s/\(cr P op (dB α) h).H=h)/\I.opt (cm (bS α<|bQ all j) df) (cr P op (dB α) H).v=.opt (cm (bS α<|bQ all j) df) (cr P op (dB α) h).v)/\
   e0 P all pp os (k+1) (cJ dst (.opt (cm (bS α<|bQ all j) df) (cr P op (dB α) H).v) α) H bR ((k,λh=>iL (bS α<|bQ all j)/\lu (cm (bS α<|bQ all j) df) α (ou op)/\((cm (bS α<|bQ all j) df)=true->(cr P op (dB α) h).s/\(cr P op (dB α) h).H=h)/\I.opt (cm (bS α<|bQ all j) df) (cr P op (dB α) H).v=.opt (cm (bS α<|bQ all j) df) (cr P op (dB α) h).v)::cf) ef):=by
 simp only[e0,Ul (h:=h)];exact aNi
theorem aGs(H1):Ln P all ⟨dst,op,ty,pos,after,none⟩ α H v H1=((cr P op (bm α) H).s/\v=(cr P op (bm α) H).v/\H1=(cr P op (bm α) H).H):=by
 cases op<;>first|rfl|(done)|skip
 rename_i c;obtain⟨ce,xs,ts⟩:=c;cases ce<;>first|rfl|cases h
@[go_sem] theorem aWm:e0 P all (.eff fs::pp) (⟨dst,op,ty,pos,after,none⟩::os) k α H bR cf ef=
  ((cr P op (bm α) H).s/\tz fs cf (cr P op (bm α) H).H/\e0 P all pp os (k+1) (cJ dst (cr P op (bm α) H).v α) (cr P op (bm α) H).H (H::bR) (pJ fs cf) ef):=by
 simp only[e0,aGs (h:=h)];exact ZB
end
end
@[go_sem] theorem aUK(all os)(pp)(k)(fs)(dst)(g)(α)(H)(bR)(cf)(ef)(v)(H1):
  XJ P all pp os k fs dst g α H bR cf ef v H1=(tz fs cf H1/\e0 P all pp os (k+1) (cJ dst (.opt g v) α) H1 (H::bR) (pJ fs cf) ef):=rfl
@[go_sem] theorem aUL(all os)(pp)(k)(fs)(dst)(α)(H)(bR)(cf)(ef)(v)(H1):
  XK P all pp os k fs dst α H bR cf ef v H1=(tz fs cf H1/\e0 P all pp os (k+1) (cJ dst v α) H1 (H::bR) (pJ fs cf) ef):=rfl
theorem Vj{f:FuncId}{x:I}{h:ab}(J:∀h,aM P f args h x)(ok:kF P f=true):v7 P g (.func (.func f) [] []) args x h:=
 λ_=>Or.inl ⟨ok,by simp;exact J h⟩
theorem oM{f:FuncId}{x:I}(U:∀h,aM P f (first++args++cap) h x)(ok:kF P f=true)(hk:K x):G3 P g (.func (.func f) first cap) args H w bR K:=by
 have J:∀h,v7 P g (.func (.func f) first cap) args x h:=λh _=>Or.inl ⟨ok,U h⟩
 refine⟨x,J H,?_,hk⟩;have:∀(w) (hs),va w hs (v7 P g (.func (.func f) first cap) args x):=by
  intro w;induction w with
  |zero=>intro hs;trivial
  |succ w O=>intro hs;cases hs with
   |nil=>trivial
   |cons h hs=>exact⟨J h,O hs⟩
 exact this w bR
theorem kg{f:FuncId}{x:I}(J:∀h,aM P f args h x)(ok:kF P f=true)(hk:K x):G3 P g (.func (.func f) [] []) args H w bR K:=by
 refine⟨x,Vj J ok,?_,hk⟩;have:∀(w) (hs),va w hs (v7 P g (.func (.func f) [] []) args x):=by
  intro w;induction w with
  |zero=>intro hs;trivial
  |succ w U=>intro hs;cases hs with
   |nil=>trivial
   |cons h hs=>exact⟨Vj J ok,U hs⟩
 exact this w bR
attribute [go_sem] K2 Pv XF XG O8 aKs Yw TypeDesc.isAgg Option.isSome_some Option.isSome_none Bool.false_eq_true Bool.true_eq_false not_true_eq_false not_false_eq_true true_and and_true and_self List.getElem?_toArray List.getElem?_cons_zero List.getElem?_cons_succ List.getElem?_nil List.length_map List.append_eq List.range_zero List.cons_append List.nil_append Nat.one_ne_zero implies_true
attribute [go_sem] Nat.reduceEqDiff Nat.reduceAdd Nat.reduceSub Nat.reduceMul Nat.reduceLeDiff Nat.reduceLT Nat.reduceBEq Int.reduceNeg Int.reduceLE Int.reduceLT Int.reduceToNat String.reduceEq
attribute [go_sem ↓] reduceIte
section
variable {P:Program} {f:FuncId} {args:List I} {x:I} {H:ab}
theorem LG{k:I->ab->Prop}(h:∀H,aM P f args H x)(ok:kF P f=true)(hk:k x H):qA P (.func (.func f) [] []) args H k:=hY (h H) ok hk
theorem LI{k:I->Prop}(h:∀H,aM P f args H x)(ok:kF P f=true)(hk:k x):tk P g (.func (.func f) [] []) args H k:=kf (h H) ok hk
theorem LH{k:I->Prop}(h:∀H,aM P f args H x)(ok:kF P f=true)(hk:k x):G3 P g (.func (.func f) [] []) args H w bR k:=kg (λH=>h H) ok hk
theorem pj(h:aM P f args H x)(ok:kF P f=true):v7 P g (.func (.func f) [] []) args x H:=
 λ_=>Or.inl ⟨ok,by simp only[ju,cA];exact h⟩
end
def aP7:Code->Bool
 |.skip|.ret|.exit _|.label _=>true
 |_=>false
def Hi:Code->Exit
 |.ret=>.ret
 |.exit i=>.exit i
 |_=>.normal
theorem OH{c:Code}(J:aP7 c=true)(h:Q (Hi c) α H):cI P N c Q α H:=by
 cases c<;>first
  |exact Pj h
  |exact aL2 h
  |exact aLH h
  |exact aLt h
  |cases J
@[go_sem] theorem aUM:Hi .skip=.normal:=rfl
@[go_sem] theorem aVi:Hi .ret=.ret:=rfl
@[go_sem] theorem aUN(i:Nat):Hi (.exit i)=.exit i:=rfl
@[go_sem] theorem aUh(i:Nat):Hi (.label i)=.normal:=rfl
section
variable {P:Program} {f:FuncId} {fn:Func} {code:Code} {args:List I} {H:ab} {x:I} {R:I->ab->Prop}
theorem aZ(J:P.funcs[f]?=some fn)(h:cI P fn.ntmps code (qJ P fn.results.toList λv H'=>∃L y,H'=H++L/\cL H.length H' v y/\y=x) (qb 0 args) H)(U:fn.body=some code:=by rfl)(af:args.length<=fn.ntmps:=by exact Gg rfl):aM P f args H x:=aKo J U af h
theorem jw(J:P.funcs[f]?=some fn)(h:cI P fn.ntmps code (qJ P fn.results.toList λv H'=>∃H1 L y,H'=H1++L/\H1.length=H.length/\(∀(i:Nat) (b:bE),H1[i]?=some b->H[i]?=some b\/ep H.length b)/\cL H.length H' v y/\R y H1) (qb 0 args) H)(U:fn.body=some code:=by rfl)(af:args.length<=fn.ntmps:=by exact Gg rfl):dp P f args H R:=aFc J U af h
theorem tU(J:P.funcs[f]?=some fn)(h:cI P fn.ntmps code (qJ P fn.results.toList λv H'=>∃H1 L y,H'=H1++L/\H.length<=H1.length/\(∀(i:Nat) (b:bE),H1[i]?=some b->H[i]?=some b\/ep H1.length b)/\cL H1.length H' v y/\R y H1) (qb 0 args) H)(U:fn.body=some code:=by rfl)(af:args.length<=fn.ntmps:=by exact Gg rfl):dp P f args H R:=aDy J U af h
theorem p3(J:P.funcs[f]?=some fn)(h:cI P fn.ntmps code (qJ P fn.results.toList R) (qb 0 args) H)(U:fn.body=some code:=by rfl)(af:args.length<=fn.ntmps:=by exact Gg rfl):dp P f args H R:=ID J U af h
end
theorem aV{n:Nat}{v x:I}(hs:fv v x)(ad:b6 v:=by simp only[go_sem]):∃J y,H++L=H++J/\cL n (H++L) v y/\y=x:=done ad hs
theorem bD{n:Nat}{v x:I}(hs:fv v x)(ad:b6 v:=by simp only[go_sem]):∃J y,H=H++J/\cL n H v y/\y=x:=BG ad hs
theorem cK[Decidable p](h:p:=by omega):decide p=true:=cD h
theorem cQ[Decidable p](h:¬p:=by omega):decide p=false:=bN h
theorem bI{n:Int}(h1: -9223372036854775808<=n:=by omega)(h2:n<=9223372036854775807:=by omega):IntKind.i64.wrap n=n:=wrap_i64 h1 h2
theorem cx{c:Prop}(h:c)(k:q)(t:c->q->p:=by first|exact λh k=>LG h aK k|exact λh k=>LI h aK k|exact λh k=>LH h aK k):p:=t h k
theorem jg{c:Prop}(h:c)(k:q)(t:c->q->p:=by first|exact λh k=>hY h aK k|exact λh k=>kf h aK k|exact λh k=>kg (λ_=>h) aK k):p:=t h k
theorem Ag{c:Prop}(h:c)(k:q)(t:c->q->p:=by first|exact λh k=>oK h aK k|exact λh k=>oL (λ_=>h) aK k|exact λh k=>oM (λ_=>h) aK k):p:=t h k
theorem ae(k:q)(t:q->p:=by first|exact λk=>SM (.bool false) k|exact λk=>ud rfl k|exact λk=>Sj uJ rfl n2 k|exact λk=>OH rfl k|exact λk=>LG (by assumption) aK k|exact λk=>LI (by assumption) aK k|exact λk=>LH (by assumption) aK k):p:=t k
theorem ZF{g:Prop}(k:q)(e:(p/\q)=g:=by with_reducible rfl)(t:p:=by first|exact pj ((by assumption:∀H,aM _ _ _ H _) _) aK|omega|(intros;simp_all;done)|(simp;omega)):g:=e▸⟨t,k⟩
theorem ZG{g:Prop}(k:q/\r)(e:((p/\q)/\r)=g:=by with_reducible rfl)(t:p:=by exact pj ((by assumption:∀H,aM _ _ _ H _) _) aK):g:=e▸⟨⟨t,k.1⟩,k.2⟩
theorem bt(k:q)(t:q->p:=by first|exact λk=>WB k|exact λk=>WC k|exact λk=>GX k|exact λk=>Xx k|exact λk=>VT k|exact λk=>ZF k|exact λk=>ZG k):p:=t k
theorem bB{x:Operand}{b:Bool}(h1:b=true->cI P N y Q α H)(h2:b=false->cI P N z Q α H)(J:bm α x=.bool b:=by exact rfl):cI P N (.cond x y z) Q α H:=uv J h1 h2
theorem QD(h:q->r)(t:r->p:=by first|exact λk=>SM (.bool false) k|exact λk=>ud rfl k|exact λk=>Sj uJ rfl n2 k|exact λk=>OH rfl k|exact λk=>LG (by assumption) aK k|exact λk=>LI (by assumption) aK k|exact λk=>LH (by assumption) aK k):q->p:=λk=>t<|h k
theorem QE(h:q->r)(t:r->p:=by first|exact λk=>WB k|exact λk=>WC k|exact λk=>GX k|exact λk=>Xx k|exact λk=>VT k|exact λk=>ZF k|exact λk=>ZG k):q->p:=λk=>t<|h k
theorem aXl(k:q)(t:q->p:=by(repeat' first|(refine QD ?_;simp only[go_sem])|refine QE ?_|fail);exact λk=>k):p:=t k
theorem aXm(k:q)(t:q->p:=by(repeat' first|(refine QD ?_;simp only[go_sem, *])|refine QE ?_|fail);exact λk=>k):p:=t k
theorem aXn{c:Prop}(e:c)(k:q)(t:c->q->p:=by intro e;(repeat' first|(refine QD ?_;simp only[go_sem, *])|refine QE ?_|fail);exact λk=>k):p:=t e k
theorem bA{a b:Bool}(h:a=b)(t:a=b->False:=by intro h;first|(simp at h;done)|(simp at h;omega)):p:=(t h).elim
theorem mx(ids:List Nat)(J:List cu)(h:e0 P ops.toList J ops.toList 0 α H [] [] (λU H'=>Q .normal U H'))(hi:ids.contains id=true:=by rfl)(hm:P.follows .mixedOrders=true:=by exact uJ)(hd:za N ops=true:=by rfl)
  (O:Region.lexB .any ops=true:=by kernel_rfl) (ad:(xF ops ops.toList J 0 [] []&&ri ops (mn J 0))=true:=by kernel_rfl):cI P N (.region id ops true) Q α H:=aCw J hm hd O ad h
abbrev ag:=List UInt8
structure kX where
 c:Int
 r:Int
deriving DecidableEq,Inhabited
structure aX where
 at_:kX
 kind:Int
 node:Int
 parent:Int
 name:ag
 data:ag
deriving DecidableEq,Inhabited
structure aE where
 id:Int
 parent:Int
 name:ag
 fJ:kX
 data:ag
 wrote:kX
deriving DecidableEq,Inhabited
structure Bx where
 rW:Bool
 hq:Bool
 b1:aE
deriving DecidableEq,Inhabited
structure fu where
 op:aX
 mC:Bx
deriving DecidableEq,Inhabited
structure fC where
 entries:List fu
 nodes:List aE
deriving DecidableEq,Inhabited
def nN:kX:=⟨0,0⟩
def uI:aE:=⟨0,0,[],nN,[],nN⟩
def P8:Bx:=⟨false,false,uI⟩
def aQV:aX:=⟨nN,0,0,0,[],[]⟩
def C6(s:kX):I:=.agg [.int .i64 s.c,.int .i64 s.r]
def bh(o:aX):I:=.agg [.int .i64 o.at_.c,.int .i64 o.at_.r,.int .i64 o.kind,.int .i64 o.node,.int .i64 o.parent,.str o.name,.str o.data]
def ba(n:aE):I:=.agg [.int .i64 n.id,.int .i64 n.parent,.str n.name,.int .i64 n.fJ.c,.int .i64 n.fJ.r,.str n.data,.int .i64 n.wrote.c,.int .i64 n.wrote.r]
def xS(u:Bx):I:=.agg [.bool u.rW,.bool u.hq,.int .i64 u.b1.id,.int .i64 u.b1.parent,.str u.b1.name,.int .i64 u.b1.fJ.c,.int .i64 u.b1.fJ.r,.str u.b1.data,.int .i64 u.b1.wrote.c,.int .i64 u.b1.wrote.r]
def dv(e:fu):I:=.agg [.int .i64 e.op.at_.c,.int .i64 e.op.at_.r,.int .i64 e.op.kind,.int .i64 e.op.node,.int .i64 e.op.parent,.str e.op.name,.str e.op.data,
 .bool e.mC.rW,.bool e.mC.hq,.int .i64 e.mC.b1.id,.int .i64 e.mC.b1.parent,.str e.mC.b1.name,.int .i64 e.mC.b1.fJ.c,.int .i64 e.mC.b1.fJ.r,.str e.mC.b1.data,.int .i64 e.mC.b1.wrote.c,.int .i64 e.mC.b1.wrote.r]
def bq(n:Int):I:=.int .i64 n
def om(f1 f2:Bool)(g:fC):I:=.agg [.sl f1 (g.entries.map dv),.sl f2<|g.nodes.map ba]
def CQ(g:fC):I:=om false false g
@[go_sem] theorem aWn(x:aX):b6 (bh x)=True:=by simp only[bh,go_sem]
@[go_sem] theorem aWo(x:aE):b6 (ba x)=True:=by simp only[ba,go_sem]
@[go_sem] theorem aWp(x:fu):b6 (dv x)=True:=by simp only[dv,go_sem]
@[go_sem] theorem aWq(x:Int):b6 (bq x)=True:=by simp only[bq,go_sem]
@[go_sem] theorem aWr(f1 f2:Bool)(x:fC):b6 (om f1 f2 x)=True:=by simp only[om,go_sem]
theorem di{α:Type}(g:α->I){l:List α}(h:i<l.length):(l.map g).getD i .top=g l[i]:=by
 rw[et,mF,da h];rfl
theorem XL(a b:kX):(decide (a.c=b.c)&&decide (a.r=b.r))=decide (a=b):=by
 cases a;cases b;rw[pf];simp
def Yp(_:List (Nat×List cu)):Prop:=True
theorem o9(l:List (Nat×List cu)):Yp l:=trivial
theorem aQG{l:List (Nat×List cu)}{J:List cu}(_:Yp l)(h:e0 P ops.toList J ops.toList 0 α H [] [] (λU H'=>Q .normal U H'))(_:l.lookup id=some J:=by rfl)(hm:P.follows .mixedOrders=true:=by exact uJ)(hd:za N ops=true:=by rfl)
  (O:Region.lexB .any ops=true:=by kernel_rfl) (ad:(xF ops ops.toList J 0 [] []&&ri ops (mn J 0))=true:=by kernel_rfl):cI P N (.region id ops true) Q α H:=aCw J hm hd O ad h
theorem aNt{x:Operand}{b:Bool}(k:cI P N y Q α H)(J:bm α x=.bool b:=by exact rfl)(t:b=false->False:=by intro h;first|(simp at h;done)|(simp at h;omega)):cI P N (.cond x y z) Q α H:=uv J (λ_=>k) λh=>(t h).elim
theorem aNu{x:Operand}{b:Bool}(k:cI P N z Q α H)(J:bm α x=.bool b:=by exact rfl)(t:b=true->False:=by intro h;first|(simp at h;done)|(simp at h;omega)):cI P N (.cond x y z) Q α H:=uv J (λh=>(t h).elim) λ_=>k
theorem h0(k:q)(t:q->p:=by first|exact λk=>SM (.bool false) k|exact λk=>aQG (by assumption) k|exact λk=>ud rfl k|exact λk=>Sj uJ rfl n2 k|exact λk=>OH rfl k|exact λk=>LG (by assumption) aK k|exact λk=>LI (by assumption) aK k|exact λk=>LH (by assumption) aK k):p:=t k
theorem ao(k:q)(t:q->p:=by first|exact λk=>bt k|exact λk=>aNt k|exact λk=>aNu k|fail):p:=t k
theorem aW(k:q)(t:q->p:=by intro k;(first|(refine h0 ?_;simp only[go_sem])|refine ao ?_|fail);(repeat' first|(refine h0 ?_;simp only[go_sem])|refine ao ?_|fail);exact k):p:=t k
structure Hid (q:Prop):Prop where
 get:q
theorem hH(k:q)(t:Hid q->p:=by intro k;(first|(refine h0 ?_;simp only[go_sem,qQ,Ge, *])|refine ao ?_|fail);(repeat' first|(refine h0 ?_;simp only[go_sem,qQ,Ge, *])|refine ao ?_|fail);exact k.get):p:=t ⟨k⟩
theorem bP{c:Prop}(e:c)(k:q)(t:c->Hid q->p:=by intro e;intro k;(first|(refine h0 ?_;simp only[go_sem,qQ,Ge, *])|refine ao ?_|fail);(repeat' first|(refine h0 ?_;simp only[go_sem,qQ,Ge, *])|refine ao ?_|fail);exact k.get):p:=t e ⟨k⟩
theorem gP{a b:Prop}(h:a)(k:b):a/\b:=⟨h,k⟩
def wR:List Nat->List I->a7->a7
 |p::ps,v::vs,α=>wR ps vs ((p,v)::α)
 |_,_,α=>α
theorem Vk{c:Ctx}{N:Nat}:∀(ps:List Nat) (us:List Value) (vs:List I) (α:a7) (ts:Array Value),us.length=vs.length->ps.length=vs.length->(∀p∈ps,p<N)->ts.size=N->
  (∀(i:Nat) (x:I) (v:Value),vs[i]?=some x->us[i]?=some v->aI c x v)->(∀t,aI c (look α t)<|ts.getD t undef)->
  ((ps.zip us).foldl (λtmps (t,a)=>tmps.setIfInBounds t a) ts).size=N/\∀t,aI c (look (wR ps vs α) t)<|((ps.zip us).foldl (λtmps (t,a)=>tmps.setIfInBounds t a) ts).getD t undef
 |[],us,vs,α,ts,_,_,_,J,_,h=>by exact⟨J,by cases vs<;>exact h⟩
 |p::ps,[],vs,α,ts,h1,h2,_,_,_,_=>by simp at h1 h2;omega
 |p::ps,u::us,[],α,ts,h1,_,_,_,_,_=>by simp at h1
 |p::ps,u::us,v::vs,α,ts,h1,h2,ad,J,U,h=>by
  simp only[List.zip_cons_cons,mG,wR];refine Vk ps us vs ((p,v)::α) (ts.setIfInBounds p u) (by simpa using h1) (by simpa using h2) (λq aJ=>ad q<|by simp[aJ]) (by simpa using J) (λi x w a b=>U (i+1) x w (by simpa using a)<|by simpa using b) λt=>?_
  have T:p<ts.size:=oE
  simp only[look];by_cases O:p=t
  ·subst O;have:=U 0 v u rfl rfl;simpa[T]using this
  ·have V:(p==t)=false:=by simp[O]
   rw[V,sI];simp_all
def wi(i:Nat)(dD:bE)(fin:Bool->Option Code->bE)(eL:ab)(R:I->ab->Prop)(go:Bool)(ic:Option Code)(H:ab):Prop:=
 ay H i=dD/\∃H1 L,H=H1++L/\H1.length=eL.length/\(∀(j:Nat) (b:bE),H1[j]?=some b->eL[j]?=some b\/ep eL.length b)/\R (.bool go) (ar H1 i<|fin go ic)
def GL(i:Nat)(dD:bE)(fin:Bool->Option Code->bE)(eL:ab)(R:I->ab->Prop):cX
 |.normal,_,H=>wi i dD fin eL R true none H
 |.ret,_,H=>wi i dD fin eL R false (some .ret) H
 |.exit id,_,H=>wi i dD fin eL R false (some<|.exit id) H
 |_,_,_=>False
def OW(P:Program)(N i:Nat)(dS:Code)(ya dD:bE)(fin:Bool->Option Code->bE)(eL:ab)(R:I->ab->Prop):cX
 |.normal,β,H=>ay H i=ya/\cI P N dS (GL i dD fin (ar eL i dD) R) β (ar H i dD)
 |_,_,_=>False
section
variable (N i:Nat) (dS:Code) (ya dD:bE) (fin:Bool->Option Code->bE) (eL:ab) (R:I->ab->Prop) (β:a7) (H:ab)
@[go_sem] theorem aSQ:GL i dD fin eL R .normal β H=wi i dD fin eL R true none H:=rfl
@[go_sem] theorem aTg(id):GL i dD fin eL R (.exit id) β H=wi i dD fin eL R false (some<|.exit id) H:=rfl
@[go_sem] theorem aSB:OW P N i dS ya dD fin eL R .normal β H=(ay H i=ya/\cI P N dS (GL i dD fin (ar eL i dD) R) β (ar H i dD)):=rfl
end
theorem bp.loop{c:Ctx}{H:ab}(h:bp c H){i l N:Nat}{α:a7}{st:LoopState}{J:Option Code}{ps:Array Tmp}{hF dS:Code}(U:ay H i=.loop l α N st J ps hF dS):
  i<c.n/\c.a1 i=0/\c.cO i=false/\c.bl i=l/\∃fn D ts,c.w.heap[l]?=some (.loop {state:=st,pending:=J,fn:=fn,tmps:=ts,params:=ps,assign:=hF,body:=dS,defers:=D})/\ts.size=N/\∀t,aI c (look α t) (ts.getD t undef):=by
 refine⟨by rw[h.n];exact dk U trivial,?_⟩
 cases h.rep i _ (kG U trivial)with
 |loop _ _ _ _ _ _ _ _ fn D ts O hd hl T V Z=>grind
theorem Ob(h:bp c H){l:Nat}{st:LoopState}{Z:Option Code}(I:ay H i=.loop l α N st Z ps hF dS)(U)(O){fn D:Nat}{ts:Array Value}
  (aa:c.w.heap[l]?=some (.loop {state:=st,pending:=Z,fn:=fn,tmps:=ts,params:=ps,assign:=hF,body:=dS,defers:=D})):
  Ext c {c with w:=c.w.putObj l (.loop {state:=U,pending:=O,fn:=fn,tmps:=ts,params:=ps,assign:=hF,body:=dS,defers:=D})}/\
  bp {c with w:=c.w.putObj l (.loop {state:=U,pending:=O,fn:=fn,tmps:=ts,params:=ps,assign:=hF,body:=dS,defers:=D})} (ar H i (.loop l α N U O ps hF dS)):=by
 obtain⟨bL,aG,hd,hl,aXg,TT,aYl,T,eU,az⟩:=h.loop I;rw[aa]at T;cases T;have jo:=kG I trivial;let o:Obj:=.loop {state:=U,pending:=O,fn:=fn,tmps:=ts,params:=ps,assign:=hF,body:=dS,defers:=D}
 have qq:(c.w.putObj l o).heap[c.bl i]?=some o:=by grind [World.putObj_heap_same]
 have V:∀b,b≠c.bl i->(c.w.putObj l o).heap[b]?=c.w.heap[b]?:=λb aN=>World.putObj_heap_other kr
 have q5:bsize (c.w.putObj l o) (c.bl i)=bsize c.w (c.bl i):=by
  unfold bsize;rw[qq,hl,aa]
 have J:Ext c {c with w:=c.w.putObj l o}:=by
  refine⟨bd _,kk,λb T=>⟨T,V b λe=>(h.st b T).2 i _ jo trivial hd e.symm⟩,λ_ _=>bd _,λj aq _=>⟨rfl,rfl,λ_=>?_⟩,rfl,⟨rfl,bd _⟩,rfl,rfl⟩
  by_cases e:c.bl j=c.bl i
  ·simp only[e];exact q5
  ·simp only[bsize];rw[V _ e]
 exact h.update jo trivial hd (c.w.putObj l o) kk V q5 rfl rfl rfl<|.loop l α N U O ps hF dS fn D ts aG hd hl qq eU λt=>(az t).mono J
theorem JV{l:Nat}{vs:List I}{ya:bE}(Z:ay H i=ya)(QO:ya=.loop l α N .ready none ps hF dS)(qn:ps.size=vs.length)(aPu:(ps.toList.all λp=>Nat.blt p N)=true)
  (aOx:tV hF=true) (aOy:tV dS=true) (h:∀(dD:bE) (fin:Bool->Option Code->bE),dD=.loop l α N .busy none ps hF dS->dD.live->(fin true none=ya)->(∀go U,fin go U=.loop l α N (bif go then .ready else .done) U ps hF dS)->
   cI P N hF (OW P N i dS ya dD fin H R) (wR ps.toList vs α) H):sJ P l vs H R:=by
 have V:=Z.trans QO;replace h:=h _ (λgo U=>.loop l α N (bif go then .ready else .done) U ps hF dS) rfl trivial QO.symm λ_ _=>rfl
 intro c us O ⟨Fc,aPK⟩;obtain⟨bL,aG,hd,hl,fn,D,ts,aa,eU,az⟩:=O.loop V;refine⟨fn,_,hF,dS,run_yield aa nX,roundIn_of_wpIn trivial ?_⟩
 obtain⟨hsz,r7⟩:=Vk ps.toList us.toList vs α ts (by simpa using Fc) (by simpa using qn) (λp ad=>by have:=gm.1 aPu p ad;simpa[Nat.blt_eq]using this) eU (λi x v a b=>aPK i x v a<|by simpa using b) az
 have aOz:(ps.zip us).foldl (λtmps (t,a)=>tmps.setIfInBounds t a) ts=(ps.toList.zip us.toList).foldl (λtmps (t,a)=>tmps.setIfInBounds t a) ts:=by
  rw[<-Array.foldl_toList,Array.toList_zip]
 rw[<-aOz]at hsz r7;have au:bp (c.nM (c.w.heap.size,[])) H:=O.nM _;have aF:kD (c.nM (c.w.heap.size,[])) N (wR ps.toList vs α) {tmps:=(ps.zip us).foldl (λtmps (t,a)=>tmps.setIfInBounds t a) ts,defers:=[]}:=
  ⟨hsz,⟨bd _,[],rfl,kk,kk⟩,λt=>(r7 t).nM _⟩
 refine wpIn_mono (h (some l) (c.nM (c.w.heap.size,[])) _ (.inr aOx) au aF) λe jc pS ⟨c1,β,H1,av,al,aY,bu,b9⟩=>?_
 cases e<;>simp only[OW]at b9<;>try exact b9.elim
 obtain⟨H2,aOh⟩:=b9;rw[QO]at H2;subst av;obtain⟨_,_,_,_,aXh,zu,aYm,fN, -, -⟩:=al.loop H2;obtain⟨fY,s1⟩:=Ob al H2 .busy none fN;refine⟨_,run_beginRound fN rfl,?_⟩;refine wpIn_mono (aOh (some l) _ jc (.inr aOy) s1<|bu.mono fY) λe Zj aCF ⟨c2,Gr,Br,g1,g2,g3,g4,g5⟩=>?_
 have key:∀(jump),wi i (.loop l α N .busy none ps hF dS) (λgo U=>.loop l α N (bif go then .ready else .done) U ps hF dS) (ar H i<|.loop l α N .busy none ps hF dS) R jump.isNone jump Br->
   ∃v w',(Instr.endRound l jump).run P c2.w=.ok v w'/\∃c' x u H',Ending.returned v=.returned u/\c'.w=w'/\bp c' H'/\Ext c c'/\aI c' x u/\R x H':=by
  rintro jump ⟨aOF,Ka,L,rfl,hlen,dV,jh⟩;have hlen:=by simpa[ar]using hlen
  have aO9:(ar H i (.loop l α N .busy none ps hF dS)).length=H.length:=by simp[ar]
  have aR6:=(aY.trans fY).trans g3;have q6:=au.n;have xf:=by
   have:=O.Hu<|kG V trivial;rw[O.n]at this;exact this
  have T:=bp.Hy hlen.symm g2 λj b aq=>by
   rcases dV j b aq with q|q
   ·by_cases km:j=i
    ·subst km;rw[ar,rH<|dk V trivial]at q;cases q;exact xf
    ·rw[ar,gC λe=>km e.symm]at q
     have:=O.Hu q;rwa[O.n]at this
   ·rwa[aO9]at q
  have vG:=by
   have ak:i<Ka.length:=by rw[hlen];exact dk V trivial
   simpa[ay,et,iP ak]using aOF
  obtain⟨_,_,_,_,aXi,Bm,aYn,jk, -, -⟩:=T.loop vG;obtain⟨dW,s2⟩:=Ob T vG (if jump.isNone then .ready else .done) jump jk
  have aAZ:(if jump.isNone=true then LoopState.ready else LoopState.done)=bif jump.isNone then .ready else .done:=by cases jump<;>rfl
  have J:=(aR6.Zt (by rw[q6];exact bd _)).trans dW
  refine⟨_,_,run_endRound jump jk,({c2.drop H.length with w:=_}).nM c.base,.bool jump.isNone,_,_,rfl,rfl,s2.nM _,?_,.bool _,aAZ▸jh⟩
  exact⟨J.n,J.size,J.st,J.a1,J.bl,J.os,J.tape,J.output,rfl⟩
 subst g1;cases e<;>simp only[GL]at g5<;>try exact g5.elim
 ·exact key none g5
 ·exact key (some<|.exit _) g5
 ·exact key (some .ret) g5
def aIF(i l:Nat)(α:a7)(N:Nat)(ps:Array Tmp)(hF dS:Code)(Q:cX)(H:ab):Prop:=
 (∃st,st≠.busy/\ay H i=.loop l α N st none ps hF dS/\∀X,Q .normal α<|ar H i X)\/
 (ay H i=.loop l α N .done (some .ret) ps hF dS/\∀X,Q .ret α<|ar H i X)\/
 (∃id,ay H i=.loop l α N .done (some<|.exit id) ps hF dS/\∀X,Q (.exit id) α<|ar H i X)
theorem Jc{g:Operand}{T:Nat}{Sf:List I}(aL:bm α g=.func (.func T) [] Sf)(bn:kF P T=true)
  (h:∀l dD,dD=bE.loop l α N .ready none ps hF dS->dp P T (.func (.yield l) [] []::Sf) (H++[dD]) (λ_ H'=>aIF H.length l α N ps hF dS Q H')):cI P N (.rangeFunc g ps hF dS) Q α H:=by
 intro r c a az ai aF;have aPB:=az.resolve_right<|by simp[tV]
 subst aPB;refine wpIn_rangeFunc λfn _=>?_
 have oV:=YJ aF g;rw[aL]at oV;generalize Ck:a.eval g=vg at oV;cases oV with
 |func _ _ _ v1 v2 dd c8 E6 pF=>
  obtain rfl:=tF dd;let V:Obj:=.loop {state:=.ready,pending:=none,fn:=fn,tmps:=a.tmps,params:=ps,assign:=hF,body:=dS,defers:=c.w.heap.size}
  let c1:=c.fix<|.deferred (some [])
  have s1:bp c1 H:=ai.fix _;have Z:Ext c c1:=Ext.fix ai _;have aPE:c1.w.heap.size=c.w.heap.size+1:=by simp[c1,Ctx.fix]
  have c3:=aF.mono Z;let c2:=c1.push V
  have U:Ext c1 c2:=Ext.push s1 _ 0;have s2:bp c2 (H++[.loop c1.w.heap.size α N .ready none ps hF dS]):=by
   refine s1.push V 0<|.loop _ α N .ready none ps hF dS fn c.w.heap.size a.tmps (by simp[Ctx.push]) (by simp[Ctx.push]) (by simp[Ctx.push]) ?_ c3.size λt=>(c3.rep t).mono U
   simp only[Ctx.push,dG];exact mo _ _
  have rY:=by
   have h1:c1.w.heap[c.w.heap.size]?=some (.deferred<|some []):=mo _ _;exact((U.st _ (.inr rfl)).2).trans h1
  have fA:sN c2 (.func (.yield c1.w.heap.size) [] []::Sf) (#[.func (.yield c1.w.heap.size) #[] #[]]++v2):=by
   refine⟨by simp[c8];omega,λj x v g1 g2=>?_⟩
   cases j with
   |zero=>
    rw[Bi kk]at g2
    cases g1;cases g2;exact .func _ [] [] _ _ rfl rfl kk kk
   |succ j=>
    rw[JY kk]at g2
    rw[tD]at g1;exact((pF j x v g1 (by simpa using g2)).mono Z).mono U
  have aOj:=h c1.w.heap.size _ rfl c2 _ s2 fA;refine⟨c1.w.heap.size,[{target:=.collected c.w.heap.size,args:= #[]}],c2.w,{target:=.fn (.func T) v2,args:= #[.func (.yield c1.w.heap.size) #[] #[]]},c2.w,T, #[.func (.yield c1.w.heap.size) #[] #[]]++v2,c2.w,?_,?_,λ_ _=>trivial,?_,λh=>(by cases h),?_⟩
  ·have:=run_enterLoop_outer (P:=P) (w:=c.w) fn a.tmps ps hF dS;rw[aPE];exact this
  ·simp only[resolve,Ck];simp[go_sem,Deferred.ofValue]
  ·simp[invoke,go_sem];simpa using MA bn _ _
  ·refine(callsIn_wide).2<|aOj.mono ?_;rintro e fX ⟨iS,x,v,Ka,rfl,rfl,ld,gy, -,aa⟩;have a3:kD iS N α {a with defers:=[{target:=.collected c.w.heap.size,args:= #[]}]++a.defers}:=by
    have m:=((aF.mono Z).mono U).mono gy;obtain⟨m0,nS,e,af,cc⟩:=m.defers;obtain⟨ja,Gz,jz,Cs,ZV⟩:=aF.defers;have n7:=(gy.base.trans U.base).trans Z.base;have aOJ:nS=Gz:=by
     have:=List.append_cancel_right<|(n7▸e).symm.trans jz;clear cc ZV af Cs e jz m;induction nS generalizing Gz with
     |nil=>cases Gz with
      |nil=>rfl
      |cons _ _=>simp at this
     |cons d nS aB=>cases Gz with
      |nil=>simp at this
      |cons d' Gz=>simp at this;rw[this.1,aB _<|by simpa using this.2]
    subst aOJ;refine⟨m.size,⟨m0,c.w.heap.size::nS,by simp[e],u1.2 ⟨λhm=>?_,af⟩,λD hm=>?_⟩,m.rep⟩
    ·have:=(sF.1 (ZV _ hm).2.2).1;omega
    ·rcases cU.1 hm with rfl|hm
     ·exact⟨by rw[n7];exact ja,(gy.st _ (U.st _<|.inr rfl).1).1,((gy.st _ (U.st _<|.inr rfl).1).2).trans rY⟩
     ·exact cc D hm
   have done:∀(st) (ic),st≠.busy->ay Ka H.length=.loop c1.w.heap.size α N st ic ps hF dS->
     ∃J,(Instr.endLoop c1.w.heap.size).run P iS.w=.ok ic J.w/\bp J (ar Ka H.length<|.loop c1.w.heap.size α N .exhausted ic ps hF dS)/\Ext c J/\kD J N α {a with defers:=[{target:=.collected c.w.heap.size,args:= #[]}]++a.defers}:=by
    intro st ic vx O;obtain⟨_,_,_,_,aXj,TU,aYo,aAh, -, -⟩:=ld.loop O;obtain⟨xV,FQ⟩:=Ob ld O .exhausted ic aAh;exact⟨_,run_endLoop aAh vx,FQ,((Z.trans U).trans gy).trans xV,a3.mono xV⟩
   rcases aa with⟨st,aOi,O,aJ⟩|⟨O,aJ⟩|⟨id,O,aJ⟩
   ·obtain⟨J,aP,aR,bH,cC⟩:=done st none aOi O;exact⟨none,J.w,aP,J,α,_,rfl,aR,bH,cC,aJ _⟩
   ·obtain⟨J,aP,aR,bH,cC⟩:=done .done _ kk O
    exact⟨some .ret,J.w,aP,wpIn_ret ⟨J,α,_,rfl,aR,bH,cC,aJ _⟩⟩
   ·obtain⟨J,aP,aR,bH,cC⟩:=done .done _ kk O
    exact⟨some<|.exit id,J.w,aP,wpIn_exit ⟨J,α,_,rfl,aR,bH,cC,aJ _⟩⟩
theorem Km{l:Nat}{K:I->ab->Prop}(h:sJ P l args H R)(hk:∀v H',R v H'->K v H'):qA P (.func (.yield l) [] []) args H K:=h.mono hk
theorem G7(β)(hs:yn β α)(h:cI P N code Q β H):cI P N code Q α H:=NO h<|s4 hs
theorem Dj{n:Nat}(af:n<=i)(O:ay H i=.cells v cs)(T:∀x∈cs,cM n x):cL n H (.ref i v 0) (.cptr cs):=
 .ref i v 0 cs cs af O iV λj x y J U=>by
  rw[j9,U]at J;cases J;exact .cl _<|T _ (ds U)
theorem dj{n:Nat}{b:I}(h:cL n H a b)(hs:∀(i:Nat) (x y:I),cs[i]?=some x->bk[i]?=some y->cL n H x y):∀(i:Nat) (x y:I),(a::cs)[i]?=some x->(b::bk)[i]?=some y->cL n H x y
 |0,x,y,J,U=>kr
 |i+1,x,y,J,U=>hs i x y kr kr
theorem fw{n:Nat}:∀(i:Nat) (x y),([])[i]?=some x->([])[i]?=some y->cL n H x y:=λ_ _ _ h=>kk
theorem bC{b:bE}(h:ay G i=b)(J:b.live):∀L,ay (G++L) i=b:=λL=>b3 h J L
theorem gN{b:bE}(h:ay G i=b)(J:b.live):∀L c,ar (G++L) i c=ar G i c++L:=λL c=>hX (dk h J) L c
theorem bc(H)(i)(b):(ar H i b).length=H.length:=by simp[ar]
theorem bY{x:bE}(h:ay H j=x)(af:i≠j)(b):ay (ar H i b) j=x:=by
 rw[<-h];simp[ay,ar,gC af]
theorem dR(h:i<H.length)(b):ay (ar H i b) i=b:=by
 simp[ay,ar,h]
theorem pn{n:Nat}{b:bE}(J:ep n b):∀(j:Nat) (c),(ar H i b)[j]?=some c->H[j]?=some c\/ep n c:=λj c h=>by
 by_cases e:i=j
 ·by_cases U:i<H.length
  ·grind [ar,rH]
  ·rw[ar,tA kr]at h;cases h
 ·grind [ar,gC]
theorem jS(H)(i)(b c):ar (ar H i b) i c=ar H i c:=by simp[ar]
theorem ub(H)(b c)(h:i≠j):ar (ar H i b) j c=ar (ar H j c) i b:=by exact List.set_comm _ _ h
theorem lr{b:bE}(h:ay H i=b)(J:b.live):ar H i b=H:=YR<|kG h J
def K3(K:a7->ab->Prop)(Q:cX):cX
 |.normal,α,H=>K α H
 |e,α,H=>Q e α H
def qc(P:Program)(N:Nat)(body:Code)(Q:cX):Nat->a7->ab->Prop
 |0,_,_=>False
 |m+1,α,H=>cI P N body (K3 (qc P N body Q m) Q) α H
section
variable (K:a7->ab->Prop) (Q:cX) (α:a7) (H:ab)
@[go_sem] theorem aTe:K3 K Q .normal α H=K α H:=rfl
@[go_sem] theorem aUO:K3 K Q .ret α H=Q .ret α H:=rfl
@[go_sem] theorem aUi(i):K3 K Q (.exit i) α H=Q (.exit i) α H:=rfl
end
theorem sW{body:Code}(m:Nat)(h:qc P N body Q m α H):cI P N (.loop body) Q α H:=by
 intro r c a az hs Z;refine wpIn_loop_rounds m ?_;have key:∀m α H c' a,qc P N body Q m α H->bp c' H->Ext c c'->kD c' N α a->Code.roundsIn (wf r) 0 P body (λe I w'=>∃c' U H',c'.w=w'/\bp c' H'/\Ext c c'/\kD c' N U I/\Q e U H') m a c'.w:=by
  intro m;induction m with
  |zero=>intro α H c' a h;exact h.elim
  |succ m aB=>
   intro α H c' a h hs J Z;refine wpIn_mono (h r c' a az hs Z) λe I w' ⟨c2,U,H',av,al,O,T,V⟩=>?_
   subst av;cases e with
   |normal=>exact aB _ _ _ _ V al (J.trans O) T
   |exit id=>exact⟨c2,U,H',rfl,al,J.trans O,T,V⟩
   |goto l=>exact⟨c2,U,H',rfl,al,J.trans O,T,V⟩
   |ret=>exact⟨c2,U,H',rfl,al,J.trans O,T,V⟩
   |panic nZ=>exact⟨c2,U,H',rfl,al,J.trans O,T,V⟩
   |outgrown=>exact⟨c2,U,H',rfl,al,J.trans O,T,V⟩
 exact key m α H c a h hs (Ext.refl c) Z
theorem all_nil{α:Type}{p:α->Prop}:∀x∈([]),p x:=λ_ h=>kr
theorem all_cons{α:Type}{p:α->Prop}{a:α}{l:List α}(h:p a)(hs:∀x∈l,p x):∀x∈a::l,p x:=List.forall_mem_cons.2 ⟨h,hs⟩
theorem aFd{n:Nat}(h:∀x∈cs,cM n x):ep n (.cells v cs):=h
theorem aKt{n:Nat}(h:∀x∈cs,cM n x):cM n (.agg cs):=.agg _ λ_ x J=>h x<|ds J
theorem aKu{n:Nat}(h:∀x∈cs,cM n x):cM n (.aQ cs):=.aQ _ λ_ x J=>h x<|ds J
theorem WE{n:Nat}{f:Fn}{fs:List I}(h1:∀x∈fs,cM n x)(h2:∀x∈cs,cM n x):cM n (.func f fs cs):=.func _ _ _ (λ_ x J=>h1 x (ds J)) λ_ x J=>h2 x (ds J)
theorem aIG{n:Nat}(h:∀x∈cs,cM n x):cM n (.cptr cs):=.cptr _ λ_ x J=>h x<|ds J
theorem FA{n:Nat}(h:∀b∈M,ep n b):∀(i:Nat) (b),(H++M)[i]?=some b->H[i]?=some b\/ep n b:=λi b hi=>kr
theorem Kk{f:I}{x:I}{k:I->ab->Prop}(h:kb P f args H (λr G=>r=x/\G=H))(hk:k x H):qA P f args H k:=
 h.mono λ_ _ ⟨av,al⟩=>kr
def Lj(p:Nat->Bool):Nat->Bool
 |0=>true
 |n+1=>p n&&Lj p n
theorem WG{p:Nat->Bool}:∀{n:Nat},Lj p n=true->∀f<n,p f=true
 |n+1,h,f,J=>by
  simp only[Lj,cV]at h;by_cases e:f=n
  ·exact e▸h.1
  ·exact WG h.2 f iV
@[go_sem] theorem uJ:prog.follows .mixedOrders=true:=n2
abbrev GD(t c b:Nat)(z:I):Prop:=prog.cellsOf t=c/\prog.bytesOf t=b/\o5 prog t=true/\eM prog t=z
abbrev ei(t:Nat):Prop:=xJ prog t=true
abbrev eA(t:Nat):Prop:=yY prog t=true
abbrev rO(t c b:Nat)(z:I):Prop:=GD t c b z/\eA t
abbrev eh(t c b:Nat)(z:I):Prop:=rO t c b z/\ei t
abbrev aCT(t:Nat):Prop:=SJ prog t=true
abbrev aCS(t:Nat):Prop:=prog.stoodInHeld t=false
abbrev aCR(t:Nat):Prop:=prog.eqGuardType prog.depth t=false
abbrev N1(t c b:Nat)(z:I):Prop:=eh t c b z/\aCT t/\aCR t
abbrev fD(t c b:Nat)(z:I):Prop:=N1 t c b z/\aCS t
abbrev mh(t c b:Nat)(z:I):Prop:=eh t c b z/\Hc prog t=true
@[go_sem] theorem aWY:(prog.cellsOf 0=1/\prog.bytesOf 0=0/\ei 0/\eA 0)/\(eh 1 1 8 (.ea))/\(rO 2 1 8 (.int .i64 0))/\(rO 3 1 8 (.int .i64 0))/\(eh 4 1 1 (.bool false))/\(rO 5 1 1 (.int .u8 0)):=by repeat' first|apply And.intro|(show _=_;kernel_rfl)
@[go_sem] theorem aWZ:(rO 6 1 1 (.int .u8 0))/\(fD 7 4 24 (.agg [.int .i64 0,.int .i64 0,.bool false,.int .u8 0]))/\(eh 9 1 16 (.str []))/\(rO 12 1 8 (.int .u64 0))/\(N1 13 2 24 (.agg [.str [],.int .u64 0]))/\(N1 14 2 24 (.agg [.str [],.int .u64 0])):=by repeat' first|apply And.intro|(show _=_;kernel_rfl)
@[go_sem] theorem aW0:(GD 20 1 16 (.nilIface)/\ei 20/\tP prog 20=true)/\(rO 21 1 4 (.int .i32 0))/\(mh 22 1 24 (.sl true []))/\(eh 23 1 8 (.ea))/\(mh 24 1 24 (.sl true []))/\(mh 25 1 24 (.sl true [])):=by repeat' first|apply And.intro|(show _=_;kernel_rfl)
@[go_sem] theorem aW1:(fD 27 2 48 (.agg [.sl true [],.sl true []]))/\(mh 28 1 24 (.sl true []))/\(mh 29 1 24 (.sl true []))/\(fD 31 7 120 (.agg [.sl true [],.sl true [],.int .i64 0,.int .i64 0,.sl true [],.sl true [],.int .i64 0]))/\(mh 32 1 24 (.sl true []))/\(fD 34 2 48 (.agg [.sl true [],.sl true []])):=by repeat' first|apply And.intro|(show _=_;kernel_rfl)
@[go_sem] theorem aW2:(mh 35 1 24 (.sl true []))/\(fD 37 2 32 (.agg [.int .i64 0,.sl true []]))/\(mh 38 1 24 (.sl true []))/\(mh 39 1 24 (.sl true []))/\(fD 41 14 256 (.agg [.sl true [],.sl true [],.int .i64 0,.int .i64 0,.sl true [],.sl true [],.int .i64 0,.sl true [],.sl true [],.int .i64 0,.sl true [],.sl true [],.int .i64 0,.sl true []]))/\(mh 42 1 24 (.sl true [])):=by repeat' first|apply And.intro|(show _=_;kernel_rfl)
@[go_sem] theorem aW3:(fD 44 3 48 (.agg [.int .i64 0,.str [],.sl true []]))/\(mh 45 1 24 (.sl true []))/\(fD 47 14 152 (.agg [.int .i64 0,.str [],.sl true [],.int .i64 0,.int .i64 0,.int .i64 0,.int .i64 0,.int .i64 0,.int .i64 0,.sl true [],.bool false,.int .i64 0,.int .i64 0,.int .i64 0]))/\(fD 49 29 416 (.agg [.sl true [],.sl true [],.int .i64 0,.int .i64 0,.sl true [],.sl true [],.int .i64 0,.sl true [],.sl true [],.int .i64 0,.sl true [],.sl true [],.int .i64 0,.sl true [],.int .i64 0,.str [],.sl true [],.int .i64 0,.int .i64 0,.int .i64 0,.int .i64 0,.int .i64 0,.int .i64 0,.sl true [],.bool false,.int .i64 0,.int .i64 0,.int .i64 0,.int .i64 0]))/\(rO 50 1 8 (.int .i64 0))/\(prog.cellsOf 51=1/\prog.bytesOf 51=0/\ei 51/\eA 51):=by repeat' first|apply And.intro|(show _=_;kernel_rfl)
@[go_sem] theorem aW4:(fD 56 5 64 (.agg [.int .i64 0,.str [],.str [],.str [],.int .i64 0]))/\(fD 58 8 96 (.agg [.int .i64 0,.int .i64 0,.str [],.str [],.str [],.int .i64 0,.int .i64 0,.str []]))/\(mh 59 1 24 (.sl true []))/\(mh 60 1 24 (.sl true []))/\(fD 62 5 80 (.agg [.int .i64 0,.str [],.sl true [],.int .i64 0,.sl true []]))/\(fD 64 18 216 (.agg [.int .i64 0,.str [],.str [],.str [],.int .i64 0,.sl true [],.int .i64 0,.bool false,.bool false,.int .i64 0,.int .i64 0,.int .i64 0,.int .i64 0,.int .i64 0,.str [],.sl true [],.int .i64 0,.sl true []])):=by repeat' first|apply And.intro|(show _=_;kernel_rfl)
@[go_sem] theorem aW5:(prog.cellsOf 67=1/\prog.bytesOf 67=0/\ei 67/\eA 67)/\(rO 76 1 2 (.int .u16 0))/\(prog.cellsOf 77=1/\prog.bytesOf 77=0/\ei 77/\eA 77)/\(prog.cellsOf 84=1/\prog.bytesOf 84=0/\ei 84/\eA 84)/\(eh 86 1 8 (.ea))/\(prog.cellsOf 87=1/\prog.bytesOf 87=0/\ei 87/\eA 87):=by repeat' first|apply And.intro|(show _=_;kernel_rfl)
@[go_sem] theorem aW6:(prog.cellsOf 91=1/\prog.bytesOf 91=0/\ei 91/\eA 91)/\(prog.cellsOf 93=1/\prog.bytesOf 93=0/\ei 93/\eA 93)/\(mh 96 1 24 (.sl true []))/\(fD 98 2 16 (.agg [.int .i64 0,.int .i64 0]))/\(fD 100 7 72 (.agg [.int .i64 0,.int .i64 0,.int .i64 0,.int .i64 0,.int .i64 0,.str [],.str []]))/\(eh 101 1 8 (.dO)):=by repeat' first|apply And.intro|(show _=_;kernel_rfl)
@[go_sem] theorem aW7:(fD 103 14 152 (.agg [.int .i64 0,.str [],.sl true [],.int .i64 0,.int .i64 0,.int .i64 0,.int .i64 0,.int .i64 0,.int .i64 0,.sl true [],.bool false,.int .i64 0,.int .i64 0,.int .i64 0]))/\(prog.cellsOf 108=1/\prog.bytesOf 108=0/\ei 108/\eA 108)/\(eh 110 1 8 (.ea))/\(mh 117 1 24 (.sl true []))/\(fD 119 1 24 (.agg [.sl true []]))/\(mh 126 1 24 (.sl true [])):=by repeat' first|apply And.intro|(show _=_;kernel_rfl)
@[go_sem] theorem aWz:(fD 129 3 40 (.agg [.str [],.int .i64 0,.str []]))/\(eh 130 1 8 (.ea))/\(eh 131 1 8 (.dO))/\(fD 133 2 40 (.agg [.sl true [],.str []]))/\(prog.cellsOf 134=1/\prog.bytesOf 134=0/\ei 134/\eA 134)/\(prog.cellsOf 136=1/\prog.bytesOf 136=0/\ei 136/\eA 136):=by repeat' first|apply And.intro|(show _=_;kernel_rfl)
@[go_sem] theorem aWA:(prog.cellsOf 138=1/\prog.bytesOf 138=0/\ei 138/\eA 138)/\(prog.cellsOf 140=1/\prog.bytesOf 140=0/\ei 140/\eA 140)/\(prog.cellsOf 142=1/\prog.bytesOf 142=0/\ei 142/\eA 142)/\(prog.cellsOf 144=1/\prog.bytesOf 144=0/\ei 144/\eA 144)/\(eh 149 1 8 (.dO))/\(eh 151 1 8 (.ea)):=by repeat' first|apply And.intro|(show _=_;kernel_rfl)
@[go_sem] theorem aWB:(fD 153 15 160 (.agg [.int .i64 0,.str [],.sl true [],.int .i64 0,.int .i64 0,.int .i64 0,.int .i64 0,.int .i64 0,.int .i64 0,.sl true [],.bool false,.int .i64 0,.int .i64 0,.int .i64 0,.ea]))/\(prog.cellsOf 155=1/\prog.bytesOf 155=0/\ei 155/\eA 155)/\(eh 158 1 8 (.ea))/\(fD 162 8 80 (.agg [.int .i64 0,.int .i64 0,.str [],.int .i64 0,.int .i64 0,.str [],.int .i64 0,.int .i64 0]))/\(fD 164 10 88 (.agg [.bool false,.bool false,.int .i64 0,.int .i64 0,.str [],.int .i64 0,.int .i64 0,.str [],.int .i64 0,.int .i64 0]))/\(fD 166 17 160 (.agg [.int .i64 0,.int .i64 0,.int .i64 0,.int .i64 0,.int .i64 0,.str [],.str [],.bool false,.bool false,.int .i64 0,.int .i64 0,.str [],.int .i64 0,.int .i64 0,.str [],.int .i64 0,.int .i64 0])):=by repeat' first|apply And.intro|(show _=_;kernel_rfl)
@[go_sem] theorem aWC:(fD 169 2 32 (.agg [.int .i64 0,.sl true []]))/\(fD 172 2 32 (.agg [.sl true [],.bool false]))/\(fD 174 4 48 (.agg [.int .i64 0,.int .i64 0,.sl true [],.bool false]))/\(prog.cellsOf 176=1/\prog.bytesOf 176=0/\ei 176/\eA 176)/\(GD 179 1 16 (.nilIface)/\ei 179/\tP prog 179=true)/\(mh 183 1 24 (.sl true [])):=by repeat' first|apply And.intro|(show _=_;kernel_rfl)
@[go_sem] theorem aWD:(eh 194 1 8 (.dO))/\(fD 196 2 24 (.agg [.int .i64 0,.str []]))/\(eh 198 1 8 (.iu)/\qW prog 198=some ((.int .i64),4)/\qX prog 198=(.int .i64)/\w1 prog 198=4)/\(eh 200 1 8 (.ea))/\(eh 201 1 8 (.iu)/\qW prog 201=some (.string,162)/\qX prog 201=.string/\w1 prog 201=162)/\(eh 204 1 8 (.ea)):=by repeat' first|apply And.intro|(show _=_;kernel_rfl)
@[go_sem] theorem aWE:(prog.cellsOf 205=1/\prog.bytesOf 205=0/\ei 205/\eA 205)/\(prog.cellsOf 207=1/\prog.bytesOf 207=0/\ei 207/\eA 207)/\(prog.cellsOf 209=1/\prog.bytesOf 209=0/\ei 209/\eA 209)/\(prog.cellsOf 213=1/\prog.bytesOf 213=0/\ei 213/\eA 213)/\(prog.cellsOf 216=1/\prog.bytesOf 216=0/\ei 216/\eA 216)/\(fD 220 2 24 (.agg [.int .i64 0,.str []])):=by repeat' first|apply And.intro|(show _=_;kernel_rfl)
@[go_sem] theorem aWF:(prog.cellsOf 222=1/\prog.bytesOf 222=0/\ei 222/\eA 222)/\(eh 224 1 8 (.dO))/\(eh 225 1 8 (.dO))/\(fD 227 7 72 (.agg [.int .i64 0,.int .i64 0,.int .i64 0,.int .i64 0,.int .i64 0,.str [],.str []]))/\(prog.cellsOf 228=1/\prog.bytesOf 228=0/\ei 228/\eA 228)/\(eh 230 1 8 (.ea)):=by repeat' first|apply And.intro|(show _=_;kernel_rfl)
@[go_sem] theorem aWG:(eh 231 1 8 (.ea))/\(fD 233 16 16 (.agg [.int .u8 0,.int .u8 0,.int .u8 0,.int .u8 0,.int .u8 0,.int .u8 0,.int .u8 0,.int .u8 0,.int .u8 0,.int .u8 0,.int .u8 0,.int .u8 0,.int .u8 0,.int .u8 0,.int .u8 0,.int .u8 0]))/\(prog.cellsOf 235=1/\prog.bytesOf 235=0/\ei 235/\eA 235)/\(eh 240 1 8 (.dO))/\(fD 242 2 16 (.agg [.int .i64 0,.int .i64 0]))/\(fD 244 17 280 (.agg [.sl true [],.sl true [],.int .i64 0,.int .i64 0,.sl true [],.sl true [],.int .i64 0,.sl true [],.sl true [],.int .i64 0,.sl true [],.sl true [],.int .i64 0,.sl true [],.int .i64 0,.int .i64 0,.int .i64 0])):=by repeat' first|apply And.intro|(show _=_;kernel_rfl)
@[go_sem] theorem aWH:(eh 246 1 8 (.ea))/\(prog.cellsOf 247=1/\prog.bytesOf 247=0/\ei 247/\eA 247)/\(eh 248 1 8 (.iu)/\qW prog 248=some ((.int .i64),246)/\qX prog 248=(.int .i64)/\w1 prog 248=246)/\(prog.cellsOf 251=1/\prog.bytesOf 251=0/\ei 251/\eA 251)/\(prog.cellsOf 259=1/\prog.bytesOf 259=0/\ei 259/\eA 259)/\(eh 261 1 8 (.ea)):=by repeat' first|apply And.intro|(show _=_;kernel_rfl)
@[go_sem] theorem aWI:(fD 262 7 72 (.agg [.int .i64 0,.int .i64 0,.int .i64 0,.int .i64 0,.int .i64 0,.str [],.str []]))/\(prog.cellsOf 263=1/\prog.bytesOf 263=0/\ei 263/\eA 263)/\(eh 265 1 8 (.dO))/\(fD 267 2 32 (.agg [.dO,.sl true []]))/\(GD 269 1 16 (.nilIface)/\ei 269/\tP prog 269=true)/\(prog.cellsOf 270=1/\prog.bytesOf 270=0/\ei 270/\eA 270):=by repeat' first|apply And.intro|(show _=_;kernel_rfl)
@[go_sem] theorem aWJ:(fD 276 2 16 (.agg [.int .i64 0,.int .i64 0]))/\(eh 280 1 8 (.ea))/\(rO 282 1 8 (.int .u64 0))/\(eh 283 1 8 (.ea))/\(eh 284 1 8 (.ea))/\(prog.cellsOf 286=1/\prog.bytesOf 286=0/\ei 286/\eA 286):=by repeat' first|apply And.intro|(show _=_;kernel_rfl)
@[go_sem] theorem aWK:(eh 288 1 8 (.ea))/\(eh 289 1 8 (.ea))/\(eh 292 1 8 (.ea))/\(fD 294 1 8 (.agg [.int .i64 0]))/\(prog.cellsOf 295=1/\prog.bytesOf 295=0/\ei 295/\eA 295)/\(fD 297 1 16 (.agg [.str []])):=by repeat' first|apply And.intro|(show _=_;kernel_rfl)
@[go_sem] theorem aWL:(prog.cellsOf 299=1/\prog.bytesOf 299=0/\ei 299/\eA 299)/\(prog.cellsOf 302=1/\prog.bytesOf 302=0/\ei 302/\eA 302)/\(mh 304 1 24 (.sl true []))/\(rO 306 1 4 (.int .u32 0))/\(eh 308 1 8 (.ea))/\(mh 310 1 24 (.sl true [])):=by repeat' first|apply And.intro|(show _=_;kernel_rfl)
@[go_sem] theorem aWM:(fD 312 16 16 (.agg [.int .u8 0,.int .u8 0,.int .u8 0,.int .u8 0,.int .u8 0,.int .u8 0,.int .u8 0,.int .u8 0,.int .u8 0,.int .u8 0,.int .u8 0,.int .u8 0,.int .u8 0,.int .u8 0,.int .u8 0,.int .u8 0]))/\(prog.cellsOf 314=1/\prog.bytesOf 314=0/\ei 314/\eA 314)/\(eh 317 1 8 (.ea))/\(prog.cellsOf 321=1/\prog.bytesOf 321=0/\ei 321/\eA 321)/\(GD 324 1 16 (.nilIface)/\ei 324/\tP prog 324=true)/\(eh 326 1 8 (.ea)):=by repeat' first|apply And.intro|(show _=_;kernel_rfl)
@[go_sem] theorem aWN:(eh 328 1 8 (.ea))/\(eh 332 1 8 (.dO))/\(fD 334 2 16 (.agg [.int .i64 0,.int .i64 0]))/\(prog.cellsOf 335=1/\prog.bytesOf 335=0/\ei 335/\eA 335)/\(eh 337 1 8 (.ea))/\(mh 341 1 24 (.sl true [])):=by repeat' first|apply And.intro|(show _=_;kernel_rfl)
@[go_sem] theorem aWO:(eh 343 1 8 (.dO))/\(eh 348 1 8 (.ea))/\(fD 350 2 48 (.agg [.sl true [],.sl true []]))/\(eh 351 1 8 (.ea))/\(fD 353 0 0 (.agg []))/\(fD 355 1 24 (.agg [.sl true []])):=by repeat' first|apply And.intro|(show _=_;kernel_rfl)
@[go_sem] theorem aWP:(fD 357 5 64 (.agg [.int .i64 0,.str [],.str [],.str [],.int .i64 0]))/\(prog.cellsOf 358=1/\prog.bytesOf 358=0/\ei 358/\eA 358)/\(prog.cellsOf 360=1/\prog.bytesOf 360=0/\ei 360/\eA 360)/\(eh 363 1 8 (.dO))/\(prog.cellsOf 364=1/\prog.bytesOf 364=0/\ei 364/\eA 364)/\(prog.cellsOf 367=1/\prog.bytesOf 367=0/\ei 367/\eA 367):=by repeat' first|apply And.intro|(show _=_;kernel_rfl)
@[go_sem] theorem aWQ:(eh 371 1 8 (.ea))/\(eh 373 1 8 (.dO))/\(prog.cellsOf 382=1/\prog.bytesOf 382=0/\ei 382/\eA 382)/\(fD 385 2 8 (.agg [.int .u32 0,.int .u32 0]))/\(eh 386 1 8 (.dO))/\(fD 389 2 48 (.agg [.sl true [],.sl true []])):=by repeat' first|apply And.intro|(show _=_;kernel_rfl)
@[go_sem] theorem aWR:(eh 392 1 8 (.ea))/\(eh 393 1 8 (.dO))/\(fD 395 18 288 (.agg [.sl true [],.sl true [],.int .i64 0,.int .i64 0,.sl true [],.sl true [],.int .i64 0,.int .i64 0,.str [],.sl true [],.int .i64 0,.sl true [],.int .i64 0,.str [],.str [],.str [],.int .i64 0,.sl true []]))/\(eh 396 1 8 (.ea))/\(prog.cellsOf 397=1/\prog.bytesOf 397=0/\ei 397/\eA 397)/\(eh 398 1 8 (.iu)/\qW prog 398=some ((.int .i64),396)/\qX prog 398=(.int .i64)/\w1 prog 398=396):=by repeat' first|apply And.intro|(show _=_;kernel_rfl)
@[go_sem] theorem aWS:(mh 401 1 24 (.sl true []))/\(prog.cellsOf 403=1/\prog.bytesOf 403=0/\ei 403/\eA 403)/\(prog.cellsOf 405=1/\prog.bytesOf 405=0/\ei 405/\eA 405)/\(rO 410 1 8 (.int .i64 0))/\(prog.cellsOf 411=1/\prog.bytesOf 411=0/\ei 411/\eA 411)/\(rO 418 1 8 (.int .u64 0)):=by repeat' first|apply And.intro|(show _=_;kernel_rfl)
@[go_sem] theorem aWu:(eh 419 1 8 (.ea))/\(eh 426 1 8 (.dO))/\(prog.cellsOf 429=1/\prog.bytesOf 429=0/\ei 429/\eA 429)/\(rO 433 1 8 (.int .u64 0))/\(prog.cellsOf 443=1/\prog.bytesOf 443=0/\ei 443/\eA 443)/\(prog.cellsOf 446=1/\prog.bytesOf 446=0/\ei 446/\eA 446):=by repeat' first|apply And.intro|(show _=_;kernel_rfl)
@[go_sem] theorem aWv:(prog.cellsOf 448=1/\prog.bytesOf 448=0/\ei 448/\eA 448)/\(eh 453 1 8 (.ea))/\(eh 454 1 8 (.ea))/\(prog.cellsOf 460=1/\prog.bytesOf 460=0/\ei 460/\eA 460)/\(eh 464 1 8 (.iu)/\qW prog 464=some (.string,129)/\qX prog 464=.string/\w1 prog 464=129)/\(eh 465 1 8 (.ea)):=by repeat' first|apply And.intro|(show _=_;kernel_rfl)
@[go_sem] theorem aWw:(eh 466 1 8 (.ea))/\(prog.cellsOf 468=1/\prog.bytesOf 468=0/\ei 468/\eA 468)/\(prog.cellsOf 469=1/\prog.bytesOf 469=0/\ei 469/\eA 469)/\(eh 473 1 8 (.dO))/\(prog.cellsOf 474=1/\prog.bytesOf 474=0/\ei 474/\eA 474)/\(mh 480 1 24 (.sl true [])):=by repeat' first|apply And.intro|(show _=_;kernel_rfl)
@[go_sem] theorem aSR:vX prog 227 "gunwale/op.fits" =some 354:=n2
@[go_sem] theorem aSS:vX prog 227 "gunwale/op.tail" =some 355:=n2
@[go_sem] theorem aST:vX prog 262 "gunwale/op.fits" =some 356:=n2
@[go_sem] theorem aSU:vX prog 262 "gunwale/op.tail" =some 357:=n2
@[go_sem] theorem aSD:vX prog 353 "gunwale/plan.next" =some 359:=n2
@[go_sem] theorem aSE:vX prog 355 "gunwale/plan.next" =some 360:=n2
@[go_sem] theorem aSF:vX prog 357 "gunwale/plan.next" =some 361:=n2
def okF(f:Nat):Bool:=decide (f<374)&& !(([0,1,215,323,334,337,339,340,341,342,343,344,345,346,347,348,349,350,351,352,353,358,367,368,369,370,371,372]:List Nat).contains f)
theorem aQS:Lj (λf=> !okF f||kF prog f) 374=true:=n2
theorem aK{f:Nat}(h:okF f=true:=by rfl):kF prog f=true:=by
 have h1:=WG aQS f (by simp only[okF,cV]at h;exact lT h.1)
 simp only[h,Bool.not_true,Bool.false_or]at h1;exact h1
attribute [go_sem] underlying3 underlying4 underlying5 underlying9 underlying21 underlying22 underlying24 underlying25 underlying27 underlying28 underlying29 underlying31 underlying32 underlying34 underlying35 underlying37 underlying38 underlying39 underlying41 underlying42 underlying44 underlying45 underlying47 underlying49 underlying50 underlying56 underlying58 underlying59 underlying60 underlying62 underlying64 underlying76 underlying96 underlying98 underlying100 underlying103 underlying117 underlying119 underlying126 underlying129 underlying133 underlying149 underlying151 underlying153 underlying162 underlying164 underlying166 underlying169 underlying172 underlying174 underlying183 underlying196 underlying198 underlying200 underlying201 underlying220 underlying224 underlying227 underlying233 underlying240 underlying242 underlying244 underlying262 underlying276 underlying282 underlying294 underlying297 underlying304 underlying306 underlying310 underlying312 underlying334 underlying341 underlying350 underlying353 underlying355 underlying357 underlying385 underlying389 underlying393 underlying395 underlying401 underlying418 underlying464 underlying480 underlying504 ntmps3 results3 ntmps4 results4 ntmps5 results5 ntmps6 results6 ntmps7 results7 ntmps8 results8 ntmps9 results9 ntmps10 results10 ntmps11 results11 ntmps12 results12 ntmps13 results13 ntmps14 results14 ntmps15 results15 ntmps16 results16 ntmps17 results17 ntmps18 results18 ntmps19 results19 ntmps20 results20 ntmps21 results21 ntmps22 results22 ntmps23 results23 ntmps24 results24 ntmps25 results25 ntmps26 results26 ntmps27 results27 ntmps28 results28 ntmps29 results29 ntmps30 results30 ntmps31 results31 ntmps32 results32 ntmps33 results33 ntmps34 results34 ntmps35 results35 ntmps36 results36 ntmps37 results37 ntmps38 results38 ntmps39 results39 ntmps40 results40 ntmps41 results41 ntmps42 results42 ntmps43 results43 ntmps44 results44 ntmps45 results45 ntmps46 results46 ntmps47 results47 results48 ntmps49 results49 ntmps50 results50 ntmps51 results51 ntmps52 results52 ntmps53 results53 ntmps54 results54 ntmps55 results55 ntmps56 results56 ntmps57 results57 ntmps58 results58 ntmps59 results59 ntmps60 results60 ntmps61 results61 ntmps62 results62 ntmps63 results63 ntmps64 results64 ntmps65 results65 ntmps66 results66 ntmps67 results67 ntmps68 results68 results69 ntmps70 results70 ntmps71 results71 ntmps72 results72 ntmps73 results73 ntmps74 results74 ntmps75 results75 ntmps76 results76 ntmps77 results77 ntmps78 results78 ntmps79 results79 ntmps80 results80 ntmps81 results81 ntmps82 results82 ntmps83 results83 ntmps84 results84 ntmps85 results85 ntmps86 results86 ntmps87 results87 ntmps88 results88 ntmps89 results89 ntmps90 results90 ntmps91 results91 ntmps92 results92 ntmps93 results93 ntmps94 results94 ntmps95 results95 ntmps96 results96 ntmps97 results97 ntmps98 results98 ntmps99 results99 ntmps100 results100 ntmps101 results101 ntmps102 results102 ntmps103 results103 ntmps104 results104 ntmps105 results105 ntmps106 results106 ntmps107 results107 ntmps108 results108 ntmps109 results109 ntmps110 results110 ntmps111 results111 ntmps112 results112 ntmps113 results113 ntmps114 results114 ntmps115 results115 ntmps116 results116 ntmps117 results117 ntmps118 results118 ntmps119 results119 ntmps120 results120 ntmps121 results121 ntmps122 results122 ntmps123 results123 ntmps124 results124 ntmps125 results125 ntmps126 results126 ntmps127 results127 ntmps128 results128 ntmps129 results129 ntmps130 results130 ntmps131 results131 ntmps132 results132 ntmps133 results133 ntmps134 ntmps135 ntmps136 results136 ntmps137 results137 ntmps138 results138 ntmps139 results139 ntmps140 results140 ntmps141 results141 ntmps142 results142 ntmps143 results143 ntmps144 results144 ntmps145 results145 ntmps146 results146 ntmps147 results147 ntmps148 results148 ntmps149 results149 ntmps150 results150 ntmps151 ntmps152 results152 ntmps153 results153 ntmps154 results154 ntmps155 results155 ntmps156 results156 ntmps157 results157 ntmps158 results158 ntmps159 results159 ntmps160 results160 ntmps161 results161 ntmps162 results162 ntmps163 results163 ntmps164 results164 ntmps165 results165 ntmps166 results166 ntmps167 results167 ntmps168 results168 ntmps169 results169 ntmps170 results170 ntmps171 results171 ntmps172 results172 ntmps173 results173 ntmps174 results174 ntmps175 results175 ntmps176 ntmps177 results177 ntmps178 results178 ntmps179 results179 ntmps180 results180 ntmps181 results181 ntmps182 results182 ntmps183 results183 ntmps184 ntmps185 results185 ntmps186 results186 ntmps187 results187 ntmps188 results188 ntmps189 results189 ntmps190 results190 ntmps191 results191 ntmps192 results192 ntmps193 results193 ntmps194 results194 ntmps195 results195 ntmps196 results196 ntmps197 results197 ntmps198 results198 ntmps199 results199 ntmps200 results200 ntmps201 results201 ntmps202 results202 results203 ntmps204 results204 ntmps205 results205 ntmps206 results206 ntmps207 results207 ntmps208 results208 ntmps209 results209 ntmps210 results210 ntmps211 results211 ntmps212 results212 ntmps213 results213 ntmps214 results214 ntmps216 results216 ntmps217 results217 ntmps218 results218 ntmps219 results219 ntmps220 results220 ntmps221 results221 ntmps222 results222 ntmps223 results223 ntmps224 results224 ntmps225 results225 ntmps226 results226 ntmps227 results227 ntmps228 results228 ntmps229 results229 ntmps230 results230 ntmps231 results231 ntmps232 results232 ntmps233 results233 ntmps234 results234 ntmps235 results235 ntmps236 results236 ntmps237 results237 ntmps238 results238 ntmps239 results239 ntmps240 results240 ntmps241 results241 ntmps242 results242 ntmps243 results243 ntmps244 results244 ntmps253 results253 ntmps254 results254 ntmps255 results255 ntmps256 results256 ntmps257 results257 ntmps258 results258 ntmps259 results259 ntmps260 results260 ntmps261 results261 ntmps262 results262 ntmps263 results263 ntmps264 results264 ntmps265 results265 ntmps266 results266 ntmps267 results267 ntmps268 results268 ntmps269 results269 ntmps270 results270 ntmps271 results271 ntmps272 results272 ntmps273 results273 ntmps274 results274 ntmps275 results275 ntmps276 results276 ntmps277 results277 ntmps278 results278 ntmps279 results279 ntmps280 results280 ntmps281 results281 ntmps283 results283 ntmps284 results284 ntmps285 results285 ntmps286 results286 ntmps292 results292 ntmps293 results293 ntmps294 results294 ntmps295 results295 ntmps296 results296 ntmps297 results297 ntmps298 results298 ntmps299 results299 ntmps300 results300 ntmps301 results301 ntmps302 results302 ntmps303 results303 ntmps304 results304 ntmps305 results305 ntmps306 results306 ntmps307 results307 ntmps308 results308 ntmps309 results309 ntmps310 results310 ntmps311 results311 ntmps312 results312 ntmps313 results313 ntmps314 results314 ntmps315 results315 ntmps316 results316 ntmps317 results317 ntmps318 results318 results319 ntmps320 results320 ntmps324 results324 ntmps325 results325 ntmps327 results327 ntmps328 results328 ntmps329 results329 ntmps330 results330 ntmps331 results331 ntmps333 results333 ntmps354 results354 ntmps355 results355 ntmps356 results356 ntmps357 results357 ntmps359 results359 ntmps360 results360 ntmps361 results361 ntmps362 results362 ntmps363 results363 ntmps364 results364 ntmps365 results365 ntmps366 results366
def o8(a b:Int):Bool:=decide (1<=a)&&decide (a<=1048576)&&decide (0<=b)&&decide (b<=63)
theorem vf{a b:Int}:o8 a b=true↔1<=a/\a<=1048576/\0<=b/\b<=63:=by
 simp[o8,and_assoc]
theorem CZ(a b:Int)(H:ab):aM prog 79 [.agg [.int .i64 a,.int .i64 b]] H (.bool<|o8 a b):=by
 refine aZ func79 ?_;refine aW ?_;exact⟨_,_,rfl,.cl _<|.bool _,rfl⟩
def zG(a b c d:Int):Bool:=decide (a<c)||(decide (a=c)&&decide (b<d))
theorem G9{a b c d:Int}:zG a b c d=true↔(a<c\/(a=c/\b<d)):=by
 simp[zG]
theorem O9(a b c d:Int)(H:ab):aM prog 129 [.agg [.int .i64 a,.int .i64 b],.agg [.int .i64 c,.int .i64 d]] H (.bool<|zG a b c d):=by
 refine aZ func129 ?_;repeat' first|(refine ae ?_;simp only[go_sem])|refine bt ?_|(refine bB ?_ ?_<;>intro h<;>try exact bA h)|fail
 all_goals refine⟨_,_,rfl,.cl _<|.bool _,bU I.bool ?_⟩
 all_goals(rw[pf,G9];simp at *;omega)
def fV(n:Int):Bool:=decide (128<=n)&&decide (n<134217856)
theorem Bg{n:Int}:fV n=true↔128<=n/\n<134217856:=by simp[fV]
theorem XM{n:Int}:fV n=false↔¬(128<=n/\n<134217856):=by rw[<-Bg,x2]
def j3(n:Int):Int:=if fV n=true then n / 128 else 0
def y7(n:Int):Int:=if fV n=true then n % 128 / 2 else 0
def xD(n:Int):Bool:=fV n&&decide (n % 2=1)
theorem yo(n:Int)(H:ab):aM prog 133 [.int .i64 n] H (.aQ [.agg [.int .i64 (j3 n),.int .i64<|y7 n],.bool<|xD n,.bool<|fV n]):=by
 refine OU λU=>?_
 have af:=(aKq U).2;refine aZ func133 ?_;repeat' first|((first|refine cx (CZ _ _) ?_|refine ae ?_);simp only[go_sem])|refine bt ?_|(refine bB ?_ ?_<;>intro h<;>try exact bA h)|fail
 all_goals refine Th (k:=3) rfl ?_
 ·have e:fV n=false:=XM.2 (by simp at h;omega)
  simp[j3,y7,xD,e]
 ·rename_i aw;simp at aw;rw[zk iV,Bf iV,zk iV,bI,bI]at h
  have J:¬o8 (n / 128) (n % 128 / 2)=true:=by simpa using h
  rw[vf]at J;have e:fV n=false:=XM.2 iV
  simp[j3,y7,xD,e]
 ·rename_i aw;simp at aw;rw[zk iV,Bf iV,zk iV,bI,bI]at h ⊢
  rw[Bf iV]
  have J:o8 (n / 128) (n % 128 / 2)=true:=by simpa using h
  rw[vf]at J;have e:fV n=true:=Bg.2 iV
  simp[j3,y7,xD,e]
def dm(n:Int):Bool:=decide (n=0)||decide (n=2)||(fV n&& !xD n)
theorem uV(n:Int)(H:ab):aM prog 98 [.int .i64 n] H (.bool<|dm n):=by
 refine aZ func98 ?_;repeat' first|((first|refine cx (yo _) ?_|refine ae ?_);simp only[go_sem])|refine bt ?_|(refine bB ?_ ?_<;>intro h<;>try exact bA h)|fail
 ·exact aDx (k:=3) rfl<|by simp only[dm,h];rfl
 ·exact Th (k:=3) rfl<|by simp only[dm,h];rfl
def vi(a b n:Int):Bool:=fV n&&zG a b (j3 n) (y7 n)
theorem OX(a b n:Int)(H:ab):aM prog 80 [.agg [.int .i64 a,.int .i64 b],.int .i64 n] H (.bool<|vi a b n):=by
 refine aZ func80 ?_;repeat' first|((first|refine cx (yo _) ?_|refine cx (O9 _ _ _ _) ?_|refine ae ?_);simp only[go_sem])|refine ao ?_|fail
 exact Th (k:=3) rfl rfl
theorem Oc(o:aX)(H:ab):aM prog 78 [bh o] H (if o.kind=1 then .iface 227 (bh o)else if o.kind=2 then .iface 262 (bh o)else .nilIface):=by
 refine aZ func78 ?_;simp only[bh];repeat' first|(refine ae ?_;simp only[go_sem])|refine bt ?_|(refine bB ?_ ?_<;>intro h<;>try exact bA h)|fail
 all_goals(simp only[gU,wG]at *)
 ·simp only[h,dG];exact aV<|.refl _
 ·simp only[*,dG,gz];exact aV<|.refl _
 ·simp only[*,dG,gz];exact aV<|.refl _
end Go.Proofs.YtnmamncmpklliaaGreatDoor
