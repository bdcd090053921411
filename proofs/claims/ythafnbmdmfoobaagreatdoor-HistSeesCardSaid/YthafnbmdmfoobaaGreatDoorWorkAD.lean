/- What the functions of this seat answer (4 of 40). No condition. -/
import Derived.Test.YthafnbmdmfoobaaGreatDoorWorkAC
import Derived.Scope
import Derived.KernelRfl
import Derived.WalkKit
import Derived.ProofKit
import Derived.OpenShut
import Derived.ShutString
import Derived.ChangeOld
import Derived.Below
import Derived.Carry
import Derived.RangeFuncIn
import Derived.LoopNIn
set_option linter.unusedSimpArgs false
set_option linter.unusedVariables false
set_option linter.unusedSectionVars false
set_option maxRecDepth 100000
set_option maxHeartbeats 16000000
namespace Go.Proofs.YthafnbmdmfoobaaGreatDoor
section
variable {P:Program}
inductive Ok:I->Prop
 |int (k:IntKind) (n:Int) (h:mn k n):Ok (.int k n)
 |bool (b:Bool):Ok (.bool b)
 |str (s:List UInt8) (h:s.length<=9223372036854775807):Ok (.str s)
 |agg (cs:List I) (h:∀x∈cs,Ok x):Ok (.agg cs)
 |a0 (cs:List I) (h:∀x∈cs,Ok x):Ok (.a0 cs)
 |sl (f:Bool) (es:List I) (hl:es.length<=9223372036854775807) (h:∀e∈es,∀x∈e.cells,Ok x):Ok (.sl f es)
 |cptr (cs:List I):Ok (.cptr cs)
 |ref (i v off:Nat):Ok (.ref i v off)
 |osl (s i v off len lc:Nat) (h:lc<=9223372036854775807):Ok (.osl s i v off len lc)
 |hp:Ok .hp
 |map (i:Nat):Ok (.map i)
 |hQ:Ok .hQ
 |iter (i:Nat):Ok (.iter i)
 |func (fn:Fn) (fs cs:List I):Ok (.func fn fs cs)
 |en:Ok .en
 |iface (t:TypeId) (x:I) (h:Ok x):Ok (.iface t x)
 |nilIface:Ok .nilIface
 |opt (g:Bool) (x:I) (h:g=true->Ok x):Ok (.opt g x)
 |top:Ok .top
theorem yB{α:Type}{l:List α}{x:α}(h:x∈l):∃i:Nat,l[i]?=some x:=by
 obtain⟨i,hi,he⟩:=s5 h;exact⟨i,by rw[c0 hi,he]⟩
theorem aK.ok{c:Ctx}{x:I}{v:Value}(h:aK c x v):Ok x:=by
 induction h with
 |int k n h=>exact .int k n h
 |bool b=>exact .bool b
 |str s h=>exact .str s h
 |agg cs vs hl _ ay=>exact .agg cs fun x J=>let⟨i,hi⟩:=yB J;let⟨v,aL⟩:=As hl hi;ay i x v hi aL
 |a0 cs vs hl _ ay=>exact .a0 cs fun x J=>let⟨i,hi⟩:=yB J;let⟨v,aL⟩:=As hl hi;ay i x v hi aL
 |sl full es base len cap s vs hlen _ _ _ _ _ pU ay=>exact .sl full es (by omega) fun e he x J=>let⟨k,hk⟩:=yB he;let⟨j,aw⟩:=yB J;ay k e j x hk aw
 |cptr cs=>exact .cptr cs
 |ref i v off=>exact .ref i v off
 |osl s i v off len lc val _ _ _ h=>exact .osl s i v off len lc h
 |hp=>exact .hp
 |map i=>exact .map i
 |hQ=>exact .hQ
 |iter i=>exact .iter i
 |func fn fs cs=>exact .func fn fs cs
 |en=>exact .en
 |iface t x _ _ ay=>exact .iface t x ay
 |nilIface=>exact .nilIface
 |opt g x _ _ _ ay=>exact .opt g x ay
 |top=>exact .top
theorem Mh{k:IntKind}{n:Int}(h:Ok (.int k n)):mn k n:=by cases h;assumption
theorem aFR{n:Int}(h:Ok (.int .i64 n)): -9223372036854775808<=n∧n<=9223372036854775807:=oM.1 (Mh h)
theorem Ub{n:Int}(h:Ok (.int .u8 n)):0<=n∧n<=255:=H2.1 (Mh h)
theorem Tm{cs:List I}(h:Ok (.agg cs)):∀x∈cs,Ok x:=by cases h;assumption
theorem lI{f:Bool}{es:List I}(h:Ok (.sl f es)):es.length<=9223372036854775807:=by cases h;assumption
theorem r4.ok{c:Ctx}{xs:List I}{vs:Array Value}(h:r4 c xs vs):∀x∈xs,Ok x:=fun x J=>
 let⟨i,hi⟩:=yB J
 let⟨v,aL⟩:=As h.1 hi
 (h.2 i x v hi aL).ok
theorem ZV{f:FuncId}{args:List I}{H:ab}{R:I->ab->Prop}(h:(∀x∈args,Ok x)->c5 P f args H R):c5 P f args H R:=
 fun c vs hs aD=>h aD.ok c vs hs aD
theorem Mi{f:FuncId}{args:List I}{H:ab}{x:I}(h:(∀x∈args,Ok x)->aY P f args H x):aY P f args H x:=ZV h
theorem GS{f:FuncId}{a:I}{H:ab}{x:I}(h:Ok a->aY P f [a] H x):aY P f [a] H x:=Mi fun k=>h (k _ (by simp))
theorem nz{f:FuncId}{a b:I}{H:ab}{x:I}(h:Ok a->Ok b->aY P f [a,b] H x):aY P f [a,b] H x:=Mi fun k=>h (k _ (by simp)) (k _ (by simp))
theorem L2{f:FuncId}{a b d:I}{H:ab}{x:I}(h:Ok a->Ok b->Ok d->aY P f [a,b,d] H x):aY P f [a,b,d] H x:=Mi fun k=>h (k _ (by simp)) (k _ (by simp)) (k _ (by simp))
def HR(Q:dU):dU
 |.goto _,_,_=>False
 |e,α,H=>Q e α H
section
variable (Q:dU) (α:a5) (H:ab)
@[go_sem] theorem aMT:HR Q .normal α H=Q .normal α H:=rfl
@[go_sem] theorem aOS:HR Q .ret α H=Q .ret α H:=rfl
@[go_sem] theorem aNS(i:Nat):HR Q (.exit i) α H=Q (.exit i) α H:=rfl
end
theorem YB{F:Fence}{n:Nat}{c:Code}{Q:Exit->Act->World->Prop}{a:Act}{w:World}(h:c.wpIn F n P (Exit.noGoto Q) a w):(Code.scope c).wpIn F n P Q a w:=by
 intro b k cs OE aa ax;have aC:(lone (b.atR a (.code (.scope c)::k)) cs w).fenced P F:=fenced_calm aa ax rfl;have kk:step P (lone (b.atR a (.code (.scope c)::k)) cs w)=.next (lone (b.atR a (.code c::.inScope c::k)) cs w):=step_lone_go (by simp[stepG,stepG.exec,Frame.atR])
 obtain⟨e,oP,qc,aS,pR⟩:=h b (.inScope c::k) cs OE aa ax;have s1:step P (lone (b.atR oP (.inScope c::k)) cs qc)=.next (lone (b.atR oP k) cs qc):=step_lone_go (by simp[stepG,stepG.exec,Frame.atR])
 cases e with
 |normal=>exact⟨.normal,oP,qc,aS,.head aC kk (StepsIn.trans pR (.one (fenced_calm aa ax rfl) s1))⟩
 |exit id=>exact⟨.exit id,oP,qc,aS,fun k' hk=>.head aC kk (pR.1 k' (by simp[exitTo,hk])),fun ib hk=>let⟨k₁,h1,h2⟩:=pR.2 ib (by simp[exitTo,hk]);⟨k₁,h1,.head aC kk h2⟩⟩
 |goto l=>exact aS.elim
 |ret=>exact⟨_,oP,qc,aS,.of_steps (.one aC kk) pR⟩
 |panic EK=>exact⟨_,oP,qc,aS,.of_steps (.one aC kk) pR⟩
 |outgrown=>exact⟨_,oP,qc,aS,.of_steps (.one aC kk) pR⟩
theorem RO{N:Nat}{x:Code}{Q:dU}{α:a5}{H:ab}(h:di P N x (HR Q) α H):di P N (.scope x) Q α H:=by
 intro r c a ax hs aD;refine YB (wpIn_mono (h r c a ax hs aD) fun e gx w' ⟨c',c1,H',ar,au,bd,bE,cE⟩=>?_)
 cases e with
 |goto l=>exact cE.elim
 |_=>exact⟨c',c1,H',ar,au,bd,bE,cE⟩
theorem lp{f:FuncId}{first args cap:List I}{H:ab}{x:I}{k:I->ab->Prop}(h:aY P f (first++args++cap) H x)(ok:lx P f=true)(hk:k x H):pd P (.func (.func f) first cap) args H k:=
 Or.inl ⟨ok,h.mono fun y H' ⟨ar,au⟩=>by subst ar;subst au;exact hk⟩
theorem qy{f:FuncId}{first args cap:List I}{H:ab}{R:I->ab->Prop}{k:I->ab->Prop}(h:c5 P f (first++args++cap) H R)(ok:lx P f=true)(hk:∀x H',R x H'->k x H'):pd P (.func (.func f) first cap) args H k:=
 Or.inl ⟨ok,h.mono hk⟩
theorem lq{g:Bool}{f:FuncId}{first args cap:List I}{H:ab}{x:I}{K:I->Prop}(h:g=true->aY P f (first++args++cap) H x)(ok:lx P f=true)(hk:K x):ou P g (.func (.func f) first cap) args H K:=
 ⟨x,fun aJ=>Or.inl ⟨ok,h aJ⟩,hk⟩
theorem Pn{f:I}{args:List I}{H:ab}{K:I->Prop}(v:I)(hk:K v):ou P false f args H K:=⟨v,(fun h=>by cases h),hk⟩
def oK(P:Program)(f:I)(args:List I)(H:ab)(x:I):Prop:=∀L,h6 P f args (H++L) (fun v H'=>v=x∧H'=H++L)
theorem oK.mk{f:FuncId}{first args cap:List I}{H:ab}{x:I}(h:∀L,aY P f (first++args++cap) (H++L) x)(ok:lx P f=true):oK P (.func (.func f) first cap) args H x:=
 fun L=>Or.inl ⟨ok,h L⟩
theorem aC6{f:I}{args:List I}{H L:ab}{x:I}{k:I->ab->Prop}(h:oK P f args H x)(hk:k x (H++L)):pd P f args (H++L) k:=by
 exact(h L).mono fun y H' ⟨ar,au⟩=>by subst ar;subst au;exact hk
theorem AB{f:I}{args:List I}{H:ab}{x:I}{k:I->ab->Prop}(h:oK P f args H x)(hk:k x H):pd P f args H k:=by
 have h1:=aC6 (L:=[]) (k:=k) h (by rw[b2];exact hk)
 rwa[b2]at h1
theorem bQ{H:ab}{i:Nat}{b:bu}(h:ao H i=b)(aa:b.live)(L:ab):ao (H++L) i=b:=by
 have ak:=c8 h aa;have h1:=kd h aa;simp only[ao,eP];rw[iC ak,h1];rfl
theorem gW{H:ab}{i:Nat}(h:i<H.length)(L:ab)(b:bu):ai (H++L) i b=ai H i b++L:=by
 unfold ai;rw[List.set_append_left _ _ h]
end
section
variable {P:Program}
inductive fY:I->I->Prop
 |refl (x:I):fY x x
 |sl (f:Bool) (es:List I):fY (.sl f es) (.sl false es)
 |agg (cs bc:List I) (hl:cs.length=bc.length) (h:∀(i:Nat) (x y:I),cs[i]?=some x->bc[i]?=some y->fY x y):fY (.agg cs) (.agg bc)
 |a0 (cs bc:List I) (hl:cs.length=bc.length) (h:∀(i:Nat) (x y:I),cs[i]?=some x->bc[i]?=some y->fY x y):fY (.a0 cs) (.a0 bc)
 |iface (t:TypeId) (x y:I) (h:fY x y):fY (.iface t x) (.iface t y)
 |top (x:I):fY x .top
theorem fY.of{x y:I}(h:x=y):fY x y:=h▸.refl x
theorem mF:∀(i:Nat) (x y:I),([]:List I)[i]?=some x->([]:List I)[i]?=some y->fY x y:=fun _ _ _ h=>by simp at h
theorem dh{a b:I}{cs bc:List I}(h:fY a b)(hs:∀(i:Nat) (x y:I),cs[i]?=some x->bc[i]?=some y->fY x y):∀(i:Nat) (x y:I),(a::cs)[i]?=some x->(b::bc)[i]?=some y->fY x y
 |0,x,y,J,aG=>by grind
 |i+1,x,y,J,aG=>hs i x y (by simpa using J) (by simpa using aG)
theorem aK.aLL{c:Ctx}{x y:I}(h:fY x y):∀{v:Value},aK c x v->aK c y v:=by
 induction h with
 |refl x=>exact fun h=>h
 |sl f es=>intro v ax;cases ax with|sl _ _ base len cap s vs h1 h2 h3 h4 cz eK lz=>exact .sl false es base len cap s vs h1 h2 (fun h=>by cases h) h4 cz eK lz
 |agg cs bc hl _ ay=>
  intro v ax;cases ax with
  |agg _ vs h1 h2=>
   refine .agg bc vs (by omega) fun i y u aG hu=>?_
   grind
 |a0 cs bc hl _ ay=>
  intro v ax;cases ax with
  |a0 _ vs h1 h2=>
   refine .a0 bc vs (by omega) fun i y u aG hu=>?_
   have ak:=(cA.1 aG).1;have J:cs[i]?=some (cs[i]'(by omega)):=c0 (by omega)
   exact ay i _ y J aG (h2 i _ u J hu)
 |iface t x y _ ay=>
  intro v ax;cases ax with
  |iface _ _ ev aL=>exact .iface t y ev (ay aL)
 |top x=>exact fun _=>.top _
theorem bA.aLM{c:Ctx}{H:ab}(av:bA c H){i v:Nat}{cs bc:List I}(ah:ao H i=.cells v cs)(hl:cs.length=bc.length)(hs:∀(i:Nat) (x y:I),cs[i]?=some x->bc[i]?=some y->fY x y):bA c (ai H i (.cells v bc)):=by
 have hi:=kd ah trivial;have ak:=c8 ah trivial;have ao:∀{j:Nat} {b:bu},(ai H i (.cells v bc))[j]?=some b->(j=i∧b=.cells v bc)∨(j≠i∧H[j]?=some b):=by
  intro j b aw;by_cases e:j=i
  ·grind [ai,oI]
  ·rw[ai,gS (fun q=>e q.symm)]at aw
   exact .inr ⟨e,aw⟩
 have zZ:∀{j:Nat} {b:bu},(ai H i (.cells v bc))[j]?=some b->b.live->∃cN:bu,H[j]?=some cN∧cN.live:=by
  intro j b aw aa;rcases ao aw with⟨rfl,rfl⟩|⟨_,h⟩
  ·exact⟨_,hi,trivial⟩
  ·exact⟨_,h,aa⟩
 refine⟨by simp[ai,av.n],av.lt,fun j k b cN aw hk aa fQ fH g1 he=>?_,fun k hk=>?_,fun j b aw=>?_⟩
 ·obtain⟨aV,aZ,a7⟩:=zZ aw aa;obtain⟨bm,ch,fc⟩:=zZ hk fQ;exact av.inj j k aV bm aZ ch a7 fc fH g1 he
 ·obtain⟨h1,h2⟩:=av.st k hk;refine⟨h1,fun j b aw aa fH=>?_⟩
  obtain⟨aV,aZ,a7⟩:=zZ aw aa;exact h2 j aV aZ a7 fH
 ·rcases ao aw with⟨rfl,rfl⟩|⟨_,h⟩
  ·have ax:=av.rep j _ hi;cases ax with
   |cells _ _ vs e cd aQ aO bF c9 eA j3=>
    refine .cells _ _ vs e cd aQ aO bF (by omega) eA fun m y u aG hu=>?_
    have gb:=(cA.1 aG).1;have J:cs[m]?=some (cs[m]'(by omega)):=c0 (by omega)
    exact(j3 m _ u J hu).aLL (hs m _ y J aG)
   |void _ aQ aO=>
    have:bc=[]:=jg (by simpa using hl.symm)
    subst this;exact .void _ aQ aO
  ·exact av.rep j b h
theorem Dq{N:Nat}{code:Code}{Q:dU}{α:a5}{H:ab}(i:Nat){v:Nat}{cs:List I}(bc:List I)(ah:ao H i=.cells v cs)(hl:cs.length=bc.length)(hs:∀(i:Nat) (x y:I),cs[i]?=some x->bc[i]?=some y->fY x y)(h:di P N code Q α (ai H i (.cells v bc))):di P N code Q α H:=
 fun r c a ax av aD=>h r c a ax (av.aLM ah hl hs) aD
theorem sF{N:Nat}{code:Code}{Q:dU}{α:a5}{H:ab}(t s:Nat)(J:look α t=.sl true [])(h:di P N code Q ((t,.osl s H.length 1 0 0 0)::α) (H++[.cells 1 []])):di P N code Q α H:=by
 intro r c a ax av aD;have aL:=Ext.void c;refine wpIn_mono (h r c.void a ax av.void ⟨aD.size,aD.defers.mono aL,fun u=>?_⟩) fun _ _ _ ⟨c',c1,H',ar,au,bd,bE,cE⟩=>⟨c',c1,H',ar,au,aL.trans bd,bE,cE⟩
 rw[look];by_cases e:t=u
 ·subst e;rw[beq_self_eq_true,cond_true];have ax:=aD.rep t;rw[J]at ax;generalize a.tmps.getD t undef=val at ax;cases ax with
  |sl _ _ base len cap qN vs h1 h2 h3 h4 cz eK lz=>
   have mf:=h3 rfl;simp at h1;subst h1;subst mf;exact .osl _ _ _ _ _ _ _ (by simp[Ctx.void,av.n]) (by simp[Ctx.void,av.n]) rfl (by omega) (fun _ _=>⟨rfl,rfl,base,rfl⟩) (fun _ hd=>by simp[Ctx.void,av.n]at hd)
 ·have aa:(t==u)=false:=by simpa using e
  rw[aa,qi];exact(aD.rep u).mono aL
inductive bO:I->Prop
 |int (k n):bO (.int k n)
 |bool (b):bO (.bool b)
 |str (s):bO (.str s)
 |agg (cs:List I) (h:∀x∈cs,bO x):bO (.agg cs)
 |a0 (cs:List I) (h:∀x∈cs,bO x):bO (.a0 cs)
 |sl (f) (es:List I) (h:∀x∈es,bO x):bO (.sl f es)
 |hp:bO .hp
 |hQ:bO .hQ
 |en:bO .en
 |iface (t x) (h:bO x):bO (.iface t x)
 |nilIface:bO .nilIface
 |top:bO .top
theorem bO.cells{x:I}(h:bO x):∀y∈x.cells,bO y:=by
 grind [I.cells,dA,bO]
theorem bO.cl{x:I}(h:bO x)(n:Nat):cX n x:=by
 induction h with
 |int k m=>exact .int k m
 |bool b=>exact .bool b
 |str s=>exact .str s
 |agg cs _ ay=>exact .agg cs fun i x J=>ay x (df J)
 |a0 cs _ ay=>exact .a0 cs fun i x J=>ay x (df J)
 |sl f es _ ay=>
  refine .sl f es fun k e j x hk aw=>?_
  have h1:=ay e (df hk);have key:∀e:I,cX n e->∀x∈e.cells,cX n x:=by
   intro e he x J;cases e with
   |agg cs=>cases he with|agg _ ah=>obtain⟨i,hi⟩:=yB J;exact ah i x hi
   |_=>simp only[I.cells,dA]at J;subst J;exact he
  grind
 |hp=>exact .hp
 |hQ=>exact .hQ
 |en=>exact .en
 |iface t x _ ay=>exact .iface t x ay
 |nilIface=>exact .nilIface
 |top=>exact .top
section
variable (k:IntKind) (n:Int) (b f:Bool) (s:List UInt8) (cs:List I) (t:TypeId) (x:I)
def zm(l:List I):Prop:=∀x∈l,bO x
section
variable {α:Type}
@[go_sem] theorem aQ6(k:IntKind)(n:Int):bO (.int k n)=True:=bJ (.int k n)
@[go_sem] theorem aQM(b:Bool):bO (.bool b)=True:=bJ (.bool b)
@[go_sem] theorem aQ7(s:List UInt8):bO (.str s)=True:=bJ (.str s)
@[go_sem] theorem aRb:bO .nilIface=True:=bJ .nilIface
@[go_sem] theorem aRc:bO .hp=True:=bJ .hp
@[go_sem] theorem aRd:bO .hQ=True:=bJ .hQ
@[go_sem] theorem aRe:bO .en=True:=bJ .en
@[go_sem] theorem aQ8(cs:List I):bO (.agg cs)=zm cs:=propext ⟨fun h=>by cases h;assumption,.agg cs⟩
@[go_sem] theorem aQ9(cs:List I):bO (.a0 cs)=zm cs:=propext ⟨fun h=>by cases h;assumption,.a0 cs⟩
@[go_sem] theorem aRy(f:Bool)(cs:List I):bO (.sl f cs)=zm cs:=propext ⟨fun h=>by cases h;assumption,.sl f cs⟩
@[go_sem] theorem aP7(t:TypeId)(x:I):bO (.iface t x)=bO x:=propext ⟨fun h=>by cases h;assumption,.iface t x⟩
@[go_sem] theorem aRf:zm []=True:=bJ fun _ h=>by cases h
@[go_sem] theorem aP8(x:I)(l:List I):zm (x::l)=(bO x∧zm l):=propext List.forall_mem_cons
@[go_sem] theorem aRg(f:α->I)(l:List α)(h:∀x,bO (f x)):zm (l.map f)=True:=bJ fun x J=>by obtain⟨y,_,rfl⟩:=bP.1 J;exact h y
end
end
theorem fY.uR{n:Nat}{H:ab}{x y:I}(h:fY x y):bO x->cQ n H x y:=by
 induction h with
 |refl x=>exact fun ae=>.cl x (ae.cl n)
 |sl f es=>exact fun ae=>.GC f es (ae.cl n)
 |agg cs bc hl _ ay=>exact fun ae=>.agg cs bc hl fun i x y J aG=>ay i x y J aG (by cases ae with|agg _ h=>exact h x (df J))
 |a0 cs bc hl _ ay=>exact fun ae=>.a0 cs bc hl fun i x y J aG=>ay i x y J aG (by cases ae with|a0 _ h=>exact h x (df J))
 |iface t x y _ ay=>exact fun ae=>.iface t x y (ay (by cases ae with|iface _ _ h=>exact h))
 |top x=>exact fun _=>.any x
theorem done{n:Nat}{H L:ab}{v x:I}(ae:bO v)(hs:fY v x):∃gk y,H++L=H++gk∧cQ n (H++L) v y∧y=x:=⟨L,x,rfl,hs.uR ae,rfl⟩
theorem zk{n:Nat}{H:ab}{v x:I}(ae:bO v)(hs:fY v x):∃gk y,H=H++gk∧cQ n H v y∧y=x:=⟨[],x,(b2 H).symm,hs.uR ae,rfl⟩
theorem xG{n:Nat}{H L G M:ab}{v x:I}(aT:H++L=G)(ae:bO v)(hs:fY v x):∃gk y,G++M=H++gk∧cQ n (G++M) v y∧y=x:=⟨L++M,x,by rw[<-aT,cr],hs.uR ae,rfl⟩
theorem yK{n:Nat}{H L G:ab}{v x:I}(aT:H++L=G)(ae:bO v)(hs:fY v x):∃gk y,G=H++gk∧cQ n G v y∧y=x:=⟨L,x,aT.symm,hs.uR ae,rfl⟩
theorem aGJ{H L G M:ab}(aT:H++L=G):G++M=H++(L++M):=by rw[<-aT,cr]
theorem sG{n:Nat}{H:ab}{i v s k lc:Nat}{cs es rest:List I}(ag:n<=i)(ah:ao H i=.cells v cs)(fk:cs=es.flatMap I.cells++rest)(hk:es.length=k)(hs:∀e∈es,e.cells.length=s)(ae:∀e∈es,bO e):
  cQ n H (.osl s i v 0 k lc) (.sl false es):=by
 have an:=Gv hs;refine .osl s i v 0 k lc cs es ag ah hk (by grind) hs fun k j e x y he aG J=>?_
 have h1:=yw hs he aG;have ak:=(cA.1 h1).1;rw[mC,fk,iC ak,h1]at J;cases J;exact .cl _ ((bO.cells (ae e (df he)) _ (df aG)).cl n)
theorem p3{H L:ab}{i v s k lc:Nat}{cs es rest:List I}{x:I}(ag:H.length<=i)(ah:ao (H++L) i=.cells v cs)(fk:cs=es.flatMap I.cells++rest)(hk:es.length=k)(hs:∀e∈es,e.cells.length=s)(ae:∀e∈es,bO e)(J:x=.sl false es):
  ∃gk y,H++L=H++gk∧cQ H.length (H++L) (.osl s i v 0 k lc) y∧y=x:=⟨L,x,rfl,by rw[J];exact sG ag ah fk hk hs ae,rfl⟩
def dp(n:Nat):bu->Prop
 |.cells _ cs=>∀x∈cs,cX n x
 |.map es _=>∀p∈es,cX n p.1∧cX n p.2.1
 |.h0 m _ _ _=>m<n
 |.loop _ α _ _ _ _ _ _=>∀t,cX n (look α t)
 |_=>True
theorem bA.EL{c:Ctx}{H:ab}(h:bA c H){i:Nat}{b:bu}(hi:H[i]?=some b):dp c.n b:=by
 cases h.rep i b hi with
 |cells bg cs vs e cd _ _ _ hl _ ax=>exact fun x J=>let⟨j,aw⟩:=yB J;(ax j x _ aw (mY (by grind))).cl
 |void=>exact fun x J=>by simp at J
 |map es clock db _ _ _ hl ax=>exact fun p ae=>let⟨j,aw⟩:=yB ae;let⟨aQ,aO,_⟩:=ax j p _ aw (mY (by have:=(cA.1 aw).1;omega));⟨aQ.cl,aO.cl⟩
 |h0 m _ _ _ _ _ hm=>exact hm
 |k8=>trivial
 |loop _ _ _ _ _ _ _ _ _ _ _ _ _ _ _ _ ax=>exact fun t=>(ax t).cl
 |gone=>trivial
theorem bA.ER{c:Ctx}{n:Nat}{H L:ab}(ag:n=H.length)(av:bA c (H++L))(eM:∀(i:Nat) (b:bu),H[i]?=some b->dp n b):bA (c.drop n) H where
 n:=ag
 lt:=fun i hi hd=>by
  have cv:i<n:=hi;exact av.lt i (by rw[av.n];simp;omega) hd
 inj:=fun i j b cN hi aw aa fQ re fH he=>by
  have h1:=(cA.1 hi).1;have h2:=(cA.1 aw).1;exact av.inj i j b cN (by grind) (by grind) aa fQ re fH he
 st:=fun k hk=>by
  have g4:=av.n;rw[bt]at g4;rcases hk with hk|⟨i,h1,h2,h3,rfl⟩
  ·obtain⟨aQ,aO⟩:=av.st k hk;exact⟨aQ,fun j b aw aa hd=>aO j b (by rw[iC (cA.1 aw).1];exact aw) aa hd⟩
  ·refine⟨av.lt i h2 h3,fun j b aw aa hd e=>?_⟩
   have mi:=(cA.1 aw).1;have ak:i<(H++L).length:=by rw[bt];omega
   have hi:(H++L)[i]?=some (H++L)[i]:=c0 ak;by_cases wD:((H++L)[i]).live
   ·have:=av.inj j i b _ (by rw[iC mi];exact aw) hi aa wD hd h3 e
    omega
   ·have ax:=av.rep i _ hi;generalize(H++L)[i]=bi at ax wD;cases ax with
    |gone hn=>rw[h3]at hn;cases hn
    |_=>exact wD trivial
 rep:=fun i b hi=>by
  have cv:=(cA.1 hi).1;have h1:=av.rep i b (by rw[iC cv];exact hi)
  have h2:=eM i b hi;cases h1 with
  |cells bg cs vs e cd aL hd ah hl an ax=>exact .cells bg cs vs e cd aL hd ah hl an fun j x v J nK=>(ax j x v J nK).drop (h2 x (df J))
  |void bg aL hd=>exact .void bg aL hd
  |map es clock db aL hd ah hl ax=>exact .map es clock db aL hd ah hl fun j p e ae he=>let⟨aZ,a7,ch⟩:=ax j p e ae he;let⟨aQ,aO⟩:=h2 p (df ae);⟨aZ.drop aQ,a7.drop aO,ch⟩
  |h0 m since seen kl aL hd hm wG CD ah=>exact .h0 m since seen kl aL hd h2 wG CD ah
  |k8 s pos aL hd ah pY=>exact .k8 s pos aL hd ah pY
  |loop l α N st h5 ps mE dX fn D ts aL hd hl ah hc ax=>exact .loop l α N st h5 ps mE dX fn D ts aL hd hl ah hc fun t=>(ax t).drop (h2 t)
  |gone hd=>exact .gone hd
theorem ZW{f:FuncId}{fn:Func}{code:Code}{args:List I}{H:ab}{R:I->ab->Prop}(an:P.funcs[f]?=some fn)(aa:fn.body=some code)(ag:args.length<=fn.ntmps)
  (h:di P fn.ntmps code (rS P fn.results.toList fun v H'=>∃H1 L y,H'=H1++L∧H1.length=H.length∧(∀(i:Nat) (b:bu),H1[i]?=some b->H[i]?=some b∨dp H.length b)∧cQ H.length H' v y∧R y H1) (oW 0 args) H):c5 P f args H R:=by
 intro c vs hs aD;refine(FZ an aa ag h c vs hs aD).mono fun e w' ⟨c',x,v,H',ar,au,bd,bE,cE,H1,L,y,h8,IQ,Nr,ny,sh⟩=>?_
 subst h8;refine⟨c'.drop c.n,y,v,H1,ar,au,bA.ER (by rw[hs.n,IQ]) bd (fun i b hi=>?_),bE.drop,?_,sh⟩
 ·rcases Nr i b hi with h|h
  ·exact hs.EL h
  ·rw[hs.n];exact h
 ·have:=ny.sound bd cE;rwa[<-hs.n]at this
theorem cX.mono{n m:Nat}(h:n<=m){x:I}(k:cX n x):cX m x:=by
 induction k with
 |int k n=>exact .int k n
 |bool b=>exact .bool b
 |str s=>exact .str s
 |agg cs _ ay=>exact .agg cs ay
 |a0 cs _ ay=>exact .a0 cs ay
 |sl f es _ ay=>exact .sl f es ay
 |cptr cs _ ay=>exact .cptr cs ay
 |ref i v off q=>exact .ref i v off (by omega)
 |osl s i v off len lc q=>exact .osl s i v off len lc (by omega)
 |hp=>exact .hp
 |map i q=>exact .map i (by omega)
 |hQ=>exact .hQ
 |iter i q=>exact .iter i (by omega)
 |func fn fs cs _ _ tU sD=>exact .func fn fs cs tU sD
 |en=>exact .en
 |iface t x _ ay=>exact .iface t x ay
 |nilIface=>exact .nilIface
 |opt g x _ ay=>exact .opt g x ay
 |top=>exact .top
theorem dp.mono{n m:Nat}(h:n<=m){b:bu}(k:dp n b):dp m b:=by
 cases b with
 |cells v cs=>exact fun x J=>(k x J).mono h
 |map es cl=>exact fun p ae=>⟨(k p ae).1.mono h,(k p ae).2.mono h⟩
 |h0=>exact vH k h
 |loop=>exact fun t=>(k t).mono h
 |k8=>trivial
 |gone=>trivial
theorem Ext.U1{c c':Ctx}(h:Ext c c'){n:Nat}(ag:c.n<=n):Ext c (c'.drop n):=
 ⟨ag,h.size,fun b aa=>⟨.inl (h.st b aa).1,(h.st b aa).2⟩,h.bg,h.aE,h.os,h.tape,h.output,h.base⟩
theorem Yr{f:FuncId}{fn:Func}{code:Code}{args:List I}{H:ab}{R:I->ab->Prop}(an:P.funcs[f]?=some fn)(aa:fn.body=some code)(ag:args.length<=fn.ntmps)
  (h:di P fn.ntmps code (rS P fn.results.toList fun v H'=>∃H1 L y,H'=H1++L∧H.length<=H1.length∧(∀(i:Nat) (b:bu),H1[i]?=some b->H[i]?=some b∨dp H1.length b)∧cQ H1.length H' v y∧R y H1) (oW 0 args) H):c5 P f args H R:=by
 intro c vs hs aD;refine(FZ an aa ag h c vs hs aD).mono fun e w' ⟨c',x,v,H',ar,au,bd,bE,cE,H1,L,y,h8,IQ,Nr,ny,sh⟩=>?_
 subst h8;refine⟨c'.drop H1.length,y,v,H1,ar,au,bA.ER rfl bd (fun i b hi=>?_),bE.U1 (by rw[hs.n];exact IQ),ny.sound bd cE,sh⟩
 rcases Nr i b hi with h|h
 ·exact(hs.EL h).mono (by rw[hs.n];exact IQ)
 ·exact h
end
section
variable {P:Program}
section before
variable (ops:Array Oper)
def mD(listed:Array Bool):Prop:=∀q o,listed.getD q false=true->ops[q]?=some o->∀e∈o.after,Region.binds .any e=true->listed.getD e.on false=true
def ql(i q:Nat):Prop:=∀listed,mD ops listed->listed.getD q false=true->listed.getD i false=true
def pv(i j:Nat):Prop:=∀listed,mD ops listed->j∈Region.ready .any ops listed->listed.getD i false=true
def qS(i j:Nat):Bool:=
 match ops[j]? with
 |some o=>o.after.any fun e=>Region.binds .any e&&e.on==i
 |none=>false
variable {ops}
theorem Rf{i j:Nat}(h:qS ops i j=true):∃o e,ops[j]?=some o∧e∈o.after∧Region.binds .any e=true∧e.on=i:=by
 grind [qS,Array.any_eq_true']
theorem ql.refl(i:Nat):ql ops i i:=fun _ _ h=>h
theorem ql.trans{i j k:Nat}(h:ql ops i j)(dr:ql ops j k):ql ops i k:=fun l al hk=>h l al (dr l al hk)
theorem ql.dir{i j:Nat}(h:qS ops i j=true):ql ops i j:=fun l al aw=>by
 obtain⟨o,e,aN,he,aa,rfl⟩:=Rf h;exact al j o aw aN e he aa
theorem pv.dir{i q j:Nat}(h:qS ops q j=true)(hl:ql ops i q):pv ops i j:=fun l al aw=>by
 obtain⟨o,e,aN,he,aa,rfl⟩:=Rf h;obtain⟨_,yA,og,fi⟩:=mem_ready.1 aw;rw[aN]at og;cases og;exact hl l al (fi e he aa)
theorem mD.set{listed:Array Bool}{j:Nat}(al:mD ops listed)(aw:j∈Region.ready .any ops listed):mD ops (listed.setIfInBounds j true):=by
 intro q o aS aN e he aa;by_cases Wm:j=q
 ·subst Wm;obtain⟨_,yA,og,fi⟩:=mem_ready.1 aw;rw[aN]at og;cases og;exact getD_set_true (fi e he aa)
 ·rw[getD_set_ne false Wm]at aS;exact getD_set_true (al q o aS aN e he aa)
theorem AH{i j:Nat}{listed:Array Bool}(al:mD ops listed)(hi:i∈Region.ready .any ops listed)(aw:j∈Region.ready .any ops listed):¬pv ops i j:=fun h=>by
 grind [mem_ready,Bd,Array.getElem?_eq_none,Nat,Array,Bool,mD,Region.ready,pv]
end before
section tree
variable (P) (N:Nat) (ops:Array Oper) (eff:Nat->Bool)
abbrev rT:=List (Nat×ab)
abbrev g2:=List (Nat×(ab->Prop))
def fE(o:Oper)(α:a5)(v:I)(h dr:ab):Prop:=ef P N ops h o α (fun ev H'=>ev=v∧H'=dr)
def rO(i:Nat)(K:a5->ab->rT->g2->Prop)(α:a5)(H:ab)(bI:rT)(b6:g2):Prop:=
 match ops[i]? with
 |none=>K α H bI b6
 |some o=>
  if eff i=true then ∃v H1,fE P N ops o α v H H1∧(∀p∈b6,¬pv ops p.1 i->p.2 H1)∧K (cY o.dst v α) H1 ((i,H)::bI) b6
  else ∃v,fE P N ops o α v H H∧(∀e∈bI,¬pv ops e.1 i->fE P N ops o α v e.2 e.2)∧K (cY o.dst v α) H bI ((i,fun h=>fE P N ops o α v h h)::b6)
def rU(K:a5->ab->Prop):Nat->Array Bool->a5->ab->rT->g2->Prop
 |0,listed,α,H,_,_=>Region.ready .any ops listed=[]∧K α H
 |fuel+1,listed,α,H,bI,b6=>(Region.ready .any ops listed=[]->K α H)∧∀i∈Region.ready .any ops listed,rO P N ops eff i (rU K fuel (listed.setIfInBounds i true)) α H bI b6
variable {P} {N} {ops} {eff}
theorem fE.alike{o:Oper}{α β:a5}{v:I}{h dr:ab}(c3:Alike α β)(k:fE P N ops o α v h dr):fE P N ops o β v h dr:=ef.alike c3 k
theorem fE.put{gP jx:Oper}{α:a5}{v u:I}{h dr:ab}(k:fE P N ops gP α v h dr)(sm:∀d,jx.dst=some d->d∉gP.looksAt ops):fE P N ops gP (cY jx.dst u α) v h dr:=
 fun r c a next Q h1 h2 h3 hk=>k r c a next Q h1 h2 (fun t aj=>by
  have:=h3 t aj;rwa[J8 fun x J e=>sm x J (e▸aj)]at this) hk
theorem fE.yQ{gP jx:Oper}{α:a5}{v u:I}{h dr:ab}(k:fE P N ops gP (cY jx.dst u α) v h dr)(sm:∀d,jx.dst=some d->d∉gP.looksAt ops):fE P N ops gP α v h dr:=
 fun r c a next Q h1 h2 h3 hk=>k r c a next Q h1 h2 (fun t aj=>by
  rw[J8 fun x J e=>sm x J (e▸aj)]
  exact h3 t aj) hk
def xz(p q:g2):Prop:=∀x∈q,∃y∈p,y.1=x.1∧∀h,y.2 h->x.2 h
theorem xz.refl(p:g2):xz p p:=fun x J=>⟨x,J,rfl,fun _ h=>h⟩
theorem xz.cons{p q:g2}{i:Nat}{uB Hs:ab->Prop}(h:∀x,uB x->Hs x)(aKf:xz p q):xz ((i,uB)::p) ((i,Hs)::q):=by
 intro x J;cases J with
 |head=>exact⟨_,.head _,rfl,h⟩
 |tail _ J=>obtain⟨y,aG,h1,h2⟩:=aKf x J;exact⟨y,.tail _ aG,h1,h2⟩
theorem xz.swap{p:g2}{i j:Nat}{uB XS Hs XT:ab->Prop}(h:∀x,uB x->XS x)(k:∀x,Hs x->XT x):xz ((j,Hs)::(i,uB)::p) ((i,XS)::(j,XT)::p):=by
 intro x J;cases J with
 |head=>simp_all
 |tail _ J=>
  cases J with
  |head=>exact⟨_,.head _,rfl,k⟩
  |tail _ J=>exact⟨x,.tail _ (.tail _ J),rfl,fun _ h=>h⟩
theorem Ax{K:a5->ab->Prop}(b0:∀α β H,Alike α β->K α H->K β H):∀(n:Nat) (listed:Array Bool) (α β:a5) (H:ab) (bI:rT) (b6 Db:g2),Alike α β->xz b6 Db->
  rU P N ops eff K n listed α H bI b6->rU P N ops eff K n listed β H bI Db
 |0,_,_,_,_,_,_,_,c3,_,h=>⟨h.1,b0 _ _ _ c3 h.2⟩
 |n+1,listed,α,β,H,bI,b6,Db,c3,ae,h=>by
  refine⟨fun aC=>b0 _ _ _ c3 (h.1 aC),fun i hi=>?_⟩
  have:=h.2 i hi;unfold rO at this ⊢;split
  ·rename_i aN;simp only[aN]at this;exact Ax b0 n _ _ _ _ _ _ _ c3 ae this
  ·rename_i o aN;simp only[aN]at this;split
   ·rename_i he;rw[aF he]at this;obtain⟨v,H1,h1,h2,h3⟩:=this;refine⟨v,H1,h1.alike c3,fun p hY aa=>?_,Ax b0 n _ _ _ _ _ _ _ (c3.put _ _) ae h3⟩
    obtain⟨y,aG,ar,au⟩:=ae p hY;exact au _ (h2 y aG (by rw[ar];exact aa))
   ·rename_i he;rw[az he]at this;obtain⟨v,h1,h2,h3⟩:=this;exact⟨v,h1.alike c3,fun e qs aa=>(h2 e qs aa).alike c3,Ax b0 n _ _ _ _ _ _ _ (c3.put _ _) (.cons (fun _ h=>h.alike c3) ae) h3⟩
def Head(P:Program)(N:Nat)(ops:Array Oper)(eff:Nat->Bool)(i:Nat)(gP:Oper)(v:I)(H1:ab)(α:a5)(H:ab)(bI:rT)(b6:g2):Prop:=
 fE P N ops gP α v H H1∧(eff i=true->∀p∈b6,¬pv ops p.1 i->p.2 H1)∧(eff i=false->H1=H∧∀e∈bI,¬pv ops e.1 i->fE P N ops gP α v e.2 e.2)
theorem Head.rO{K:a5->ab->rT->g2->Prop}{i:Nat}{gP:Oper}{v:I}{H1:ab}{α:a5}{H:ab}{bI:rT}{b6:g2}(hi:ops[i]?=some gP)(h:Head P N ops eff i gP v H1 α H bI b6)
  (hk:K (cY gP.dst v α) H1 (if eff i=true then(i,H)::bI else bI) (if eff i=true then b6 else(i,fun h=>fE P N ops gP α v h h)::b6)):rO P N ops eff i K α H bI b6:=by
 unfold Go.Proofs.YthafnbmdmfoobaaGreatDoor.rO;simp only[hi];cases he:eff i with
 |true=>
  grind [Nat,Oper,Head,cY]
 |false=>
  rw[he]at hk;obtain⟨ar,au⟩:=h.2.2 he;subst ar;rw[az (by simp)]
  exact⟨v,h.1,au,hk⟩
theorem Kk{K:a5->ab->Prop}(b0:∀α β H,Alike α β->K α H->K β H){i:Nat}{gP:Oper}{v:I}(hi:ops[i]?=some gP)(tp:eff i=true->∀j,eff j=true->j≠i->∀listed,mD ops listed->i∈Region.ready .any ops listed->j∈Region.ready .any ops listed->False):
  ∀(fuel:Nat) (listed:Array Bool) (α:a5) (H H1:ab) (bI:rT) (b6:g2),mD ops listed->
   (∀j jx,ops[j]?=some jx->j≠i->listed.getD j true=false->(∀e∈jx.after,Region.binds .any e=true->e.on≠i)->gP.apart ops jx=true)->
   i∈Region.ready .any ops listed->Head P N ops eff i gP v H1 α H bI b6->
   rU P N ops eff K fuel (listed.setIfInBounds i true) (cY gP.dst v α) H1 (if eff i=true then(i,H)::bI else bI) (if eff i=true then b6 else(i,fun h=>fE P N ops gP α v h h)::b6)->
   rU P N ops eff K (fuel+1) listed α H bI b6:=by
 intro fuel;induction fuel with
 |zero=>
  intro listed α H H1 bI b6 _ _ ax aG ah;refine⟨fun h=>(by rw[h]at ax;cases ax),fun j aw=>?_⟩
  by_cases hW:j=i
  ·subst hW;exact aG.rO hi ah
  ·have:=ready_mono aw hW;rw[ah.1]at this;cases this
 |succ fuel ay=>
  intro listed α H H1 bI b6 eM Fj ax aG ah;refine⟨fun h=>(by rw[h]at ax;cases ax),fun j aw=>?_⟩
  by_cases hW:j=i
  ·subst hW;exact aG.rO hi ah
  ·have h1:=ah.2 j (ready_mono aw hW);obtain⟨Fs,jx,FB,fi⟩:=mem_ready.1 aw;have V8:¬pv ops i j:=AH eM ax aw;have ru:∀e∈jx.after,Region.binds .any e=true->e.on≠i:=fun e he aa heq=>by
    have h1:=fi e he aa;have aC:=(mem_ready.1 ax).1;rw[heq]at h1;rcases Bd i listed.size with dr|dr
    ·simp[dr]at aC h1;rw[aC]at h1;cases h1
    ·simp[Array.getElem?_eq_none dr]at h1
   obtain⟨cK,dc,ei⟩:=Oper.apart_spec (Fj j jx FB hW Fs ru);have N2:=eM.set aw;have Fk:∀k ok,ops[k]?=some ok->k≠i->(listed.setIfInBounds j true).getD k true=false->
     (∀e∈ok.after,Region.binds .any e=true->e.on≠i)->gP.apart ops ok=true:=fun k ok hk qt FQ bX=>by
    refine Fj k ok hk qt ?_ bX;by_cases z4:j=k
    ·subst z4;exact Fs
    ·rw[getD_set_ne true z4]at FQ;exact FQ
   have ib:=ready_mono ax (kn hW);have aSq:=DI (xs:=listed) true true (kn hW);unfold Go.Proofs.YthafnbmdmfoobaaGreatDoor.rO at h1 ⊢;simp only[FB]at h1 ⊢;cases zX:eff j with
   |true=>
    rw[zX,aF rfl]at h1;rw[aF rfl];obtain⟨u,y6,CN,lH,lD⟩:=h1;cases o3:eff i with
    |true=>exact(tp o3 j zX hW listed eM ax aw).elim
    |false=>
     obtain⟨ar,au⟩:=aG.2.2 o3;subst ar;simp only[o3,ht,eF]at lH lD;have aKG:=lH (i,fun h=>fE P N ops gP α v h h) (.head _) V8
     refine⟨u,y6,CN.yQ cK,fun p ae aa=>lH p (.tail _ ae) aa,?_⟩
     refine ay (listed.setIfInBounds j true) (cY jx.dst u α) y6 y6 ((j,H1)::bI) b6 N2 Fk ib ⟨fE.put aKG ei,fun h=>(by rw[o3]at h;cases h),fun _=>⟨rfl,fun e he aa=>?_⟩⟩ ?_
     ·cases he with
      |head=>exact aG.1.put ei
      |tail _ he=>exact(au e he aa).put ei
     ·simp only[o3,ht,eF];rw[DI _ _ hW];exact Ax b0 _ _ _ _ _ _ _ _ (FY dc) (.cons (fun _ h=>h.put ei) (.refl _)) lD
   |false=>
    rw[zX,az (by simp)]at h1
    rw[az (by simp)]
    obtain⟨u,CN,Fo,lD⟩:=h1;cases o3:eff i with
    |true=>
     simp only[o3,dI]at Fo lD;have aKH:fE P N ops jx α u H H:=(Fo (i,H) (.head _) V8).yQ cK;refine⟨u,aKH,fun e he aa=>(Fo e (.tail _ he) aa).yQ cK,?_⟩
     refine ay (listed.setIfInBounds j true) (cY jx.dst u α) H H1 bI _ N2 Fk ib ⟨aG.1.put ei,fun _ p ae aa=>?_,fun h=>(by rw[o3]at h;cases h)⟩ ?_
     ·cases ae with
      |head=>exact CN.yQ cK
      |tail _ ae=>exact aG.2.1 o3 p ae aa
     ·simp only[o3,dI];rw[DI _ _ hW];exact Ax b0 _ _ _ _ _ _ _ _ (FY dc) (.cons (fun _ h=>h.yQ cK) (.refl _)) lD
    |false=>
     obtain⟨ar,au⟩:=aG.2.2 o3;subst ar;simp only[o3,ht,eF]at Fo lD;refine⟨u,CN.yQ cK,fun e he aa=>(Fo e he aa).yQ cK,?_⟩
     refine ay (listed.setIfInBounds j true) (cY jx.dst u α) H1 H1 bI _ N2 Fk ib ⟨aG.1.put ei,fun h=>(by rw[o3]at h;cases h),fun _=>⟨rfl,fun e he aa=>(au e he aa).put ei⟩⟩ ?_
     simp only[o3,ht,eF];rw[DI _ _ hW];exact Ax b0 _ _ _ _ _ _ _ _ (FY dc) (.swap (fun _ h=>h.put ei) (fun _ h=>h.yQ cK)) lD
def Ew(P:Program)(N:Nat)(ops:Array Oper)(eff:Nat->Bool)(K:a5->ab->Prop):List Oper->Nat->a5->ab->rT->g2->Prop
 |[],_,α,H,_,_=>K α H
 |o::os,k,α,H,bI,b6=>∃v H1,Head P N ops eff k o v H1 α H bI b6∧
   Ew P N ops eff K os (k+1) (cY o.dst v α) H1 (if eff k=true then(k,H)::bI else bI) (if eff k=true then b6 else(k,fun h=>fE P N ops o α v h h)::b6)
theorem RP{K:a5->ab->Prop}(b0:∀α β H,Alike α β->K α H->K β H)(tp:∀i j,eff i=true->eff j=true->j≠i->∀listed,mD ops listed->i∈Region.ready .any ops listed->j∈Region.ready .any ops listed->False):
  ∀(l:List Oper) (k:Nat) (listed:Array Bool) (α:a5) (H:ab) (bI:rT) (b6:g2),(∀j,l[j]?=ops[k+j]?)->mD ops listed->
  Region.lexFrom .any ops l.length k listed=true->Ew P N ops eff K l k α H bI b6->rU P N ops eff K l.length listed α H bI b6
 |[],_,_,_,_,_,_,_,_,bK,h=>⟨by simpa[Region.lexFrom]using bK,h⟩
 |o::l,k,listed,α,H,bI,b6,hl,al,bK,h=>by
  have aC:ops[k]?=some o:=by simpa using(hl 0).symm
  simp only[cm,Region.lexFrom,dD]at bK;obtain⟨⟨ax,an⟩,oZ⟩:=bK;obtain⟨v,H1,aG,hk⟩:=h;have ib:k∈Region.ready .any ops listed:=by simpa using ax
  exact Kk b0 aC (fun he j aw aP=>tp k j he aw aP) l.length listed α H H1 bI b6 al (Region.free_spec aC an) ib aG
   (RP b0 tp l (k+1) _ _ _ _ _ (fun j=>by have:=hl (j+1);grind) (al.set ib) oZ hk)
theorem JV{r:Option Nat}{Q:Exit->Act->World->Prop}{K:a5->ab->Prop}(hd:w8 N ops=true)(mG:Ctx)(b0:∀α H c a,K α H->bA c H->Ext mG c->ko c N α a->Q .normal a c.w):
  ∀(n:Nat) (listed:Array Bool) (α:a5) (H:ab) (bI:rT) (b6:g2) (c:Ctx) (a:Act),bA c H->Ext mG c->ko c N α a->rU P N ops eff K n listed α H bI b6->wpAnyIn (wf r) 0 P .any ops Q n listed a c.w
 |0,_,_,_,_,_,_,_,hs,J,aD,h=>⟨h.1,b0 _ _ _ _ h.2 hs J aD⟩
 |n+1,listed,α,H,bI,b6,c,a,hs,J,aD,h=>by
  refine⟨fun aC=>b0 _ _ _ _ (h.1 aC) hs J aD,fun i hi=>?_⟩
  have h1:=h.2 i hi;unfold rO at h1;unfold wpOpIn;split
  ·rename_i aN;simp only[aN]at h1;exact JV hd mG b0 n _ _ _ _ _ _ _ hs J aD h1
  ·rename_i o aN;simp only[aN]at h1;have j0:BC N o.dst=true:=gT.1 hd o (by rw[K8];exact xo aN)
   have go:∀v H1 z2 Db,fE P N ops o α v H H1->rU P N ops eff K n (listed.setIfInBounds i true) (cY o.dst v α) H1 z2 Db->
     if Region.wanted o (yielded ops a.tmps)then o.wpIn (wf r) 0 P a c.w (wpAnyIn (wf r) 0 P .any ops Q n (listed.setIfInBounds i true)) Q else(∀f,o.about P c.w a.eval=some f->(wf r).fn f)∧wpAnyIn (wf r) 0 P .any ops Q n (listed.setIfInBounds i true) (a.put o.dst undef) c.w:=by
    intro v H1 z2 Db aG hk;have:=aG r c a (wpAnyIn (wf r) 0 P .any ops Q n (listed.setIfInBounds i true)) Q hs aD.size (fun t _=>aD.rep t) fun c' x ev H' aZ a7 ch fc=>by
     obtain⟨ar,au⟩:=fc;rw[au]at aZ;rw[ar]at ch;exact JV hd mG b0 n _ _ _ _ _ _ _ aZ (J.trans a7) ((aD.mono a7).put j0 ch) hk
    by_cases hw:Region.wanted o (yielded ops a.tmps)=true
    ·rw[aF hw]at this ⊢;exact this
    ·rw[az hw]at this ⊢;exact⟨fun _ _=>trivial,this⟩
   grind
end tree
section aXL
variable {ops:Array Oper}
def p4(ops:Array Oper):List Nat->Bool
 |a::b::l=>qS ops a b&&p4 ops (b::l)
 |_=>true
theorem C3:∀{a:Nat} {l:List Nat},p4 ops (a::l)=true->∀j∈l,pv ops a j∧ql ops a j
 |a,[],_,j,aw=>by cases aw
 |a,b::l,h,j,aw=>by
  rw[p4,dD]at h;cases aw with
  |head=>exact⟨.dir h.1 (.refl _),.dir h.1⟩
  |tail _ aw=>
   obtain⟨_,h2⟩:=C3 h.2 j aw;have key:∀{b:Nat} {l:List Nat},p4 ops (b::l)=true->∀x,ql ops x b->∀j∈l,pv ops x j:=by
    intro b l;induction l generalizing b with
    |nil=>intro _ x _ j aw;cases aw
    |cons c l ay=>
     intro h x J j aw;rw[p4,dD]at h;cases aw with
     |head=>exact .dir h.1 J
     |tail _ aw=>exact ay h.2 x (J.trans (.dir h.1)) j aw
   exact⟨key h.2 a (.dir h.1) j aw,(ql.dir h.1).trans h2⟩
theorem Q7{a:Nat}{l:List Nat}(h:p4 ops (a::l)=true):p4 ops l=true:=by
 cases l with
 |nil=>rfl
 |cons b l=>rw[p4,dD]at h;exact h.2
theorem Lq:∀{l:List Nat},p4 ops l=true->∀i j,i∈l->j∈l->j≠i->pv ops i j∨pv ops j i
 |[],_,i,_,hi,_,_=>by cases hi
 |a::l,h,i,j,hi,aw,aP=>by
  cases hi with
  |head=>
   cases aw with
   |head=>exact absurd rfl aP
   |tail _ aw=>exact .inl (C3 h j aw).1
  |tail _ hi=>
   cases aw with
   |head=>exact .inr (C3 h i hi).1
   |tail _ aw=>exact Lq (Q7 h) i j hi aw aP
end aXL
inductive cR where
 |free
 |pure (w:Nat)
 |eff (fs:List Bool)
def vi:Op->Bool
 |.move _|.assign _|.build _ _|.buildSlice _ _ _|.binOp _ _ _ _ _|.unOp _ _ _|.convert _ _ _|.makeInterface _ _|.makeFunc _ _ _|.field _ _ _|.typeAssert _ _ _ _|.extract _ _|.pick _ _ _=>true
 |_=>false
def kj(P:Program)(all:List Oper)(h:ab)(o:Oper)(α:a5)(v:I):Prop:=
 match o with
 |⟨_,op,_,_,_,guard⟩=>
  match guard,op with
  |none,.pick x y z=>(jL true (bb α x) (bb α y) (bb α z)).s∧v=(jL true (bb α x) (bb α y) (bb α z)).v
  |none,.call ⟨.value f,xs,_⟩=>h6 P (bb α f) (xs.toList.map (bb α)) h (fun ev H'=>ev=v∧H'=h)
  |none,.call ⟨.invoke r m,xs,_⟩=>h6 P (oS P m (bb α r)) (xs.toList.map (bb α)) h (fun ev H'=>ev=v∧H'=h)
  |none,op=>(cn P op (bb α) h).s∧(cn P op (bb α) h).H=h∧v=(cn P op (bb α) h).v
  |some (j,want),.pick x y z=>
   hq (bw α (br all j))∧((bR (bw α (br all j)) want)=true->(jL (bR (bw α (br all j)) want) (bb α x) (bb α y) (bb α z)).s)∧
    v=.opt (bR (bw α (br all j)) want) (jL (bR (bw α (br all j)) want) (bb α x) (bb α y) (bb α z)).v
  |some (j,want),.call ⟨.value f,xs,_⟩=>
   hq (bw α (br all j))∧jJ (bR (bw α (br all j)) want) α (f::xs.toList)∧
    ∃u,(bR (bw α (br all j)) want=true->h6 P (cT α f) (xs.toList.map (cT α)) h (fun ev H'=>ev=u∧H'=h))∧v=.opt (bR (bw α (br all j)) want) u
  |some (j,want),op=>
   hq (bw α (br all j))∧jJ (bR (bw α (br all j)) want) α op.operands.toList∧((bR (bw α (br all j)) want)=true->(cn P op (cT α) h).s∧(cn P op (cT α) h).H=h)∧
    v=.opt (bR (bw α (br all j)) want) (cn P op (cT α) h).v
theorem kj.fE{N:Nat}{ops:Array Oper}{o:Oper}{α:a5}{h:ab}{v:I}(k:kj P ops.toList h o α v):fE P N ops o α v h h:=by
 obtain⟨dst,op,ty,pos,after,guard⟩:=o;dsimp only[kj]at k;split at k
 ·obtain⟨h1,rfl⟩:=k;exact ef.nO rfl (CV (o:=⟨dst,.pick _ _ _,ty,pos,after,none⟩) (ρ:=bb α) (H:=h) rfl rfl h1)
 ·exact ef.nO rfl (wP rfl k)
 ·exact ef.nO rfl (CU rfl k)
 ·obtain⟨h1,h2,rfl⟩:=k;exact(ef.nO rfl (wh h1)).mono fun v H' ⟨ar,au⟩=>⟨ar,au.trans h2⟩
 ·rename_i j want x y z;obtain⟨h1,h2,rfl⟩:=k;exact ef.ue (o:=⟨dst,.pick x y z,ty,pos,after,some (j,want)⟩) rfl h1 (bb α) (fun c a _ hl x J=>oV fun t aj=>hl t (oR (by subst aj;exact J)))
   (fun aJ=>CV (g:=bR (bw α (br ops.toList j)) want) rfl aJ (h2 aJ))
 ·rename_i j want f xs ts;obtain⟨h1,h2,u,h3,rfl⟩:=k;exact ef.ue (o:=⟨dst,.call ⟨.value f,xs,ts⟩,ty,pos,after,some (j,want)⟩) rfl h1 (cT α) (fun c a aJ hl x J=>si (oV fun t aj=>hl t (oR (by subst aj;exact J))) (rb h2 x (by simpa[Op.operands,Call.operands]using J)) aJ)
   (fun aJ=>wP rfl (h3 aJ))
 ·rename_i j want W3 _ _;obtain⟨h1,h2,h3,rfl⟩:=k;exact ef.ue (v:=(cn P op (cT α) h).v) rfl h1 (cT α) (fun c a aJ hl x J=>si (oV fun t aj=>hl t (oR (by subst aj;exact J))) (rb h2 x J) aJ)
   (fun aJ=>(wh (h3 aJ).1).mono fun v H' ⟨ar,au⟩=>⟨ar,au.trans (h3 aJ).2⟩)
theorem QR{op:Op}(an:vi op=true)(ρ:Operand->I)(h dr:ab):(cn P op ρ dr).s=(cn P op ρ h).s∧(cn P op ρ dr).v=(cn P op ρ h).v∧(cn P op ρ dr).H=dr:=by
 cases op<;>first|(simp[vi]at an;done)|exact⟨rfl,rfl,rfl⟩|skip
 all_goals simp[cn]
theorem F4{all:List Oper}{h dr:ab}{o:Oper}{α:a5}{v:I}(an:vi o.op=true)(k:kj P all h o α v):kj P all dr o α v:=by
 obtain⟨dst,op,ty,pos,after,guard⟩:=o;have an:vi op=true:=an;dsimp only[kj]at k ⊢;split at k
 ·exact k
 ·simp[vi]at an
 ·simp[vi]at an
 ·rename_i W3 ae al _;obtain⟨ar,au,bd⟩:=QR (P:=P) an (bb α) h dr;grind
 ·exact k
 ·simp[vi]at an
 ·rename_i j want ae al;obtain⟨ar,au,bd⟩:=QR (P:=P) an (cT α) h dr;rw[<-ar,<-au]at k;exact⟨k.1,k.2.1,fun aJ=>⟨(k.2.2.1 aJ).1,bd⟩,k.2.2.2⟩
def qT:List Bool->g2->ab->Prop
 |true::fs,p::ps,h=>p.2 h∧qT fs ps h
 |false::fs,_::ps,h=>qT fs ps h
 |_,_,_=>True
def mO{α:Type}:List Bool->List α->List α
 |true::fs,p::ps=>p::mO fs ps
 |false::fs,_::ps=>mO fs ps
 |_,_=>[]
def r8:Nat->List ab->(ab->Prop)->Prop
 |n+1,h::hs,uB=>uB h∧r8 n hs uB
 |_,_,_=>True
def UA(P:Program)(all:List Oper)(o:Oper)(α:a5)(H:ab):Prop:=
 match o.guard with
 |none=>(cn P o.op (bb α) H).s
 |some (j,want)=>hq (bw α (br all j))∧jJ (bR (bw α (br all j)) want) α o.op.operands.toList∧(bR (bw α (br all j)) want=true->(cn P o.op (cT α) H).s)
def UB(P:Program)(all:List Oper)(o:Oper)(α:a5)(H:ab):I:=
 match o.guard with
 |none=>(cn P o.op (bb α) H).v
 |some (j,want)=>.opt (bR (bw α (br all j)) want) (cn P o.op (cT α) H).v
def UC(P:Program)(all:List Oper)(o:Oper)(α:a5)(H:ab):ab:=
 match o.guard with
 |none=>(cn P o.op (bb α) H).H
 |some (j,want)=>bif bR (bw α (br all j)) want then(cn P o.op (cT α) H).H else H
theorem ef.W0{N:Nat}{ops:Array Oper}{H H1:ab}{o:Oper}{α:a5}{v:I}{j:Nat}{want:Bool}(aJ:o.guard=some (j,want))(bl:hq (bw α (br ops.toList j)))
  (ρ:Operand->I) (hρ:∀(c:Ctx) (a:Act),bR (bw α (br ops.toList j)) want=true->(∀t∈o.looksAt ops,aK c (look α t) (a.tmps.getD t undef))->∀x∈o.op.operands.toList,aK c (ρ x) (a.eval x))
  (h:bR (bw α (br ops.toList j)) want=true->pw P o ρ H (fun ev H'=>ev=v∧H'=H1)):
  ef P N ops H o α (fun ev H'=>ev=.opt (bR (bw α (br ops.toList j)) want) v∧H'=bif bR (bw α (br ops.toList j)) want then H1 else H):=by
 intro r c a next Q hs hsz hl hk
 rw[Pm aJ hl bl];cases mJ:bR (bw α (br ops.toList j)) want with
 |true=>
  simp only[dI];rw[mJ]at hk;refine h mJ r c a next Q hs (hρ c a mJ hl) fun c' x ev H' h1 h2 h3 h4=>?_
  obtain⟨rfl,rfl⟩:=h4;exact hk c' _ ev _ h1 h2 (.opt _ _ _ (fun _=>h3) (fun h=>by cases h)) ⟨rfl,rfl⟩
 |false=>
  simp only[ht,eF];rw[mJ]at hk;exact hk c _ undef H hs (Ext.refl c) (.opt _ _ _ (fun h=>by cases h) (fun _=>rfl)) ⟨rfl,rfl⟩
theorem aC7{N:Nat}{ops:Array Oper}{o:Oper}{α:a5}{H:ab}(h:UA P ops.toList o α H):fE P N ops o α (UB P ops.toList o α H) H (UC P ops.toList o α H):=by
 obtain⟨dst,op,ty,pos,after,guard⟩:=o;cases guard with
 |none=>exact ef.nO rfl (wh (o:=⟨dst,op,ty,pos,after,none⟩) h)
 |some g=>
  obtain⟨j,want⟩:=g;obtain⟨h1,h2,h3⟩:=h;exact ef.W0 (o:=⟨dst,op,ty,pos,after,some (j,want)⟩) (v:=(cn P op (cT α) H).v) (H1:=(cn P op (cT α) H).H) rfl h1 (cT α)
   (fun c a aJ hl x J=>si (oV fun t aj=>hl t (oR (by subst aj;exact J))) (rb h2 x J) aJ)
   (fun aJ=>wh (h3 aJ))
def Ep(P:Program)(all:List Oper)(o:Oper)(α:a5)(H:ab)(v:I)(H1:ab):Prop:=
 match o with
 |⟨_,.call ⟨.value f,xs,_⟩,_,_,_,none⟩=>h6 P (bb α f) (xs.toList.map (bb α)) H (fun ev H'=>ev=v∧H'=H1)
 |⟨_,.call ⟨.value f,xs,_⟩,_,_,_,some (j,want)⟩=>hq (bw α (br all j))∧jJ (bR (bw α (br all j)) want) α (f::xs.toList)∧
   ∃u,(bR (bw α (br all j)) want=true->h6 P (cT α f) (xs.toList.map (cT α)) H (fun ev H'=>ev=u∧H'=H1))∧(bR (bw α (br all j)) want=false->H1=H)∧v=.opt (bR (bw α (br all j)) want) u
 |o=>UA P all o α H∧v=UB P all o α H∧H1=UC P all o α H
theorem SV{N:Nat}{ops:Array Oper}{o:Oper}{α:a5}{H H1:ab}{v:I}(h:Ep P ops.toList o α H v H1):fE P N ops o α v H H1:=by
 unfold Ep at h;split at h
 ·exact ef.nO rfl (wP rfl h)
 ·rename_i dst f xs ts ty pos after j want;obtain⟨h1,h2,u,h3,h4,rfl⟩:=h;refine ef.mono (ef.W0 (o:=⟨dst,.call ⟨.value f,xs,ts⟩,ty,pos,after,some (j,want)⟩) (H1:=H1) rfl h1 (cT α) (fun c a aJ hl x J=>si (oV fun t aj=>hl t (oR (by subst aj;exact J))) (rb h2 x (by simpa[Op.operands,Call.operands]using J)) aJ)
   (fun aJ=>wP rfl (h3 aJ))) fun ev H' ⟨ar,au⟩=>⟨ar,au.trans ?_⟩
  grind
 ·obtain⟨h1,rfl,rfl⟩:=h;exact aC7 h1
def et(P:Program)(all:List Oper):List cR->List Oper->Nat->a5->ab->List ab->g2->(a5->ab->Prop)->Prop
 |[],[],_,α,H,_,_,dM=>dM α H
 |.free::ps,o::os,k,α,H,bI,b6,dM=>∃v,kj P all H o α v∧et P all ps os (k+1) (cY o.dst v α) H bI b6 dM
 |.pure w::ps,o::os,k,α,H,bI,b6,dM=>∃v,kj P all H o α v∧r8 w bI (fun h=>kj P all h o α v)∧
   et P all ps os (k+1) (cY o.dst v α) H bI ((k,fun h=>kj P all h o α v)::b6) dM
 |.eff fs::ps,o::os,k,α,H,bI,b6,dM=>∃v H1,Ep P all o α H v H1∧qT fs b6 H1∧
   et P all ps os (k+1) (cY o.dst v α) H1 (H::bI) (mO fs b6) dM
 |_,_,_,_,_,_,_,_=>False
def vj(ops:Array Oper):List Oper->List cR->Nat->List Nat->List Nat->Bool
 |[],[],_,_,_=>true
 |o::os,.free::ps,k,fw,b6=>vi o.op&&vj ops os ps (k+1) fw b6
 |_::os,.pure w::ps,k,fw,b6=>(match fw[w]? with|some e=>qS ops e k|none=>true)&&vj ops os ps (k+1) fw (k::b6)
 |_::os,.eff fs::ps,k,fw,b6=>(match fw with|e::_=>qS ops e k|[]=>true)&&(fs.length==b6.length)&&(fs.zip b6).all (fun x=>x.1||qS ops x.2 k)&&vj ops os ps (k+1) (k::fw) (mO fs b6)
 |_,_,_,_,_=>false
def lT:List cR->Nat->List Nat
 |[],_=>[]
 |.eff _::ps,k=>k::lT ps (k+1)
 |_::ps,k=>lT ps (k+1)
theorem At:∀(pl:List cR) (k i:Nat),i∈lT pl k->k<=i
 |[],_,_,h=>by cases h
 |.eff _::ps,k,i,h=>by
  cases h with
  |head=>exact bk _
  |tail _ h=>exact gU (pq _) (At ps (k+1) i h)
 |.free::ps,k,i,h=>gU (pq _) (At ps (k+1) i h)
 |.pure _::ps,k,i,h=>gU (pq _) (At ps (k+1) i h)
theorem Rg{uB:ab->Prop}:∀{w:Nat} {hs:List ab},r8 w hs uB->∀i h,i<w->hs[i]?=some h->uB h
 |0,_,_,_,_,hi,_=>absurd hi (Nat.not_lt_zero _)
 |w+1,[],_,i,h,_,ah=>by simp at ah
 |w+1,g::hs,k,0,h,_,ah=>by simp at ah;subst ah;exact k.1
 |w+1,g::hs,k,i+1,h,hi,ah=>Rg k.2 i h (Nat.lt_of_succ_lt_succ hi) (by simpa using ah)
def Bm(ops:Array Oper):List Nat->Prop
 |a::b::l=>qS ops b a=true∧Bm ops (b::l)
 |_=>True
theorem Bm.tail{ops:Array Oper}{a:Nat}{l:List Nat}(h:Bm ops (a::l)):Bm ops l:=by
 cases l with
 |nil=>trivial
 |cons b l=>exact h.2
theorem P4{ops:Array Oper}:∀{l:List Nat},Bm ops l->∀(p q a b:Nat),p<=q->l[p]?=some a->l[q]?=some b->ql ops b a
 |[],_,p,_,_,_,_,h,_=>by simp at h
 |x::l,an,0,0,a,b,_,h1,h2=>by simp at h1 h2;subst h1;subst h2;exact .refl _
 |x::l,an,p+1,0,_,_,h,_,_=>absurd h (Nat.not_succ_le_zero p)
 |x::l,an,p+1,q+1,a,b,h,h1,h2=>P4 an.tail p q a b (Nat.le_of_succ_le_succ h) (by simpa using h1) (by simpa using h2)
 |x::l,an,0,q+1,a,b,_,h1,h2=>by
  simp at h1;subst h1;cases l with
  |nil=>simp at h2
  |cons y l=>exact(P4 an.tail 0 q y b (bG _) (by simp) (by simpa using h2)).trans (.dir an.1)
theorem P5{ops:Array Oper}{k:Nat}{h:ab}:∀{fs:List Bool} {ps:g2},qT fs ps h->fs.length=ps.length->(∀x∈fs.zip (ps.map (·.1)),(x.1||qS ops x.2 k)=true)->
  ∀p∈ps,p.2 h∨qS ops p.1 k=true
 |[],[],_,_,_,p,ae=>by cases ae
 |true::fs,q::ps,aD,hl,a2,p,ae=>by
  cases ae with
  |head=>exact .inl aD.1
  |tail _ ae=>exact P5 aD.2 (by simpa using hl) (fun x J=>a2 x (by simp_all)) p ae
 |false::fs,q::ps,aD,hl,a2,p,ae=>by
  cases ae with
  |head=>simp_all
  |tail _ ae=>exact P5 (show qT fs ps h from aD) (by simpa using hl) (fun x J=>a2 x (by simp only[dn,List.zip_cons_cons];exact .tail _ J)) p ae
 |[],_::_,_,hl,_,_,_=>by simp at hl
 |_::_,[],_,hl,_,_,_=>by simp at hl
theorem P6{β:Type}(f:(Nat×(ab->Prop))->β):∀(fs:List Bool) (ps:g2),(mO fs ps).map f=mO fs (ps.map f)
 |[],ps=>by cases ps<;>rfl
 |true::fs,[]=>rfl
 |false::fs,[]=>rfl
 |true::fs,p::ps=>by simp[mO,P6 f fs ps]
 |false::fs,p::ps=>by simp[mO,P6 f fs ps]
theorem PJ{ops:Array Oper}{k:Nat}:∀{fs:List Bool} {ps:g2},fs.length=ps.length->(∀x∈fs.zip (ps.map (·.1)),(x.1||qS ops x.2 k)=true)->∀p∈ps,p∈mO fs ps∨qS ops p.1 k=true
 |[],[],_,_,p,ae=>by cases ae
 |true::fs,q::ps,hl,a2,p,ae=>by
  cases ae with
  |head=>exact .inl (.head _)
  |tail _ ae=>exact(PJ (by simpa using hl) (fun x J=>a2 x (by simp_all)) p ae).imp (.tail _) id
 |false::fs,q::ps,hl,a2,p,ae=>by
  cases ae with
  |head=>simp_all
  |tail _ ae=>exact(PJ (by simpa using hl) (fun x J=>a2 x (by simp only[dn,List.zip_cons_cons];exact .tail _ J)) p ae).imp id id
 |[],_::_,hl,_,_,_=>by simp at hl
 |_::_,[],hl,_,_,_=>by simp at hl
def aFS(ops:Array Oper)(fw:List Nat)(k9 sp:g2):Prop:=
 ∀p∈k9,(∃e l,fw=e::l∧ql ops p.1 e)∨(∀h,p.2 h)∨∃q∈sp,q.1=p.1∧∀h,q.2 h->p.2 h
theorem J9{N:Nat}{ops:Array Oper}{plan:List cR}{K:a5->ab->Prop}(hc:True):
  ∀(os:List Oper) (pl:List cR) (k:Nat) (α:a5) (H:ab) (fw:List Nat) (bI:List ab) (k9 sp:g2),vj ops os pl k fw (sp.map (·.1))=true->
   (∀i,k<=i->(i∈lT plan 0↔i∈lT pl k))->fw.length=bI.length->Bm ops fw->aFS ops fw k9 sp->
   et P ops.toList pl os k α H bI sp K->Ew P N ops (fun i=>(lT plan 0).contains i) K os k α H (fw.zip bI) k9
 |[],[],_,_,_,_,_,_,_,_,_,_,_,_,h=>h
 |o::os,.free::pl,k,α,H,fw,bI,k9,sp,ae,he,hl,an,hpo,h=>by
  rw[vj,dD]at ae;obtain⟨v,h1,h2⟩:=h;have aP:(lT plan 0).contains k=false:=by
   rw[<-vB,A6,he k (bk _)];intro hm;have:=At pl (k+1) k hm;omega
  refine⟨v,H,⟨h1.fE,fun q=>Bool.noConfusion (aP.symm.trans q),fun _=>⟨rfl,fun e _ _=>(F4 ae.1 h1).fE⟩⟩,?_⟩
  simp only[aP,ht,eF];refine J9 hc os pl (k+1) _ H fw bI _ sp ae.2 (fun i hi=>he i (by omega)) hl an ?_ h2
  intro p hY;cases hY with
  |head=>exact .inr (.inl fun h=>(F4 ae.1 h1).fE)
  |tail _ hY=>exact hpo p hY
 |o::os,.pure w::pl,k,α,H,fw,bI,k9,sp,ae,he,hl,an,hpo,h=>by
  rw[vj,dD]at ae;obtain⟨v,h1,h2,h3⟩:=h;have aP:(lT plan 0).contains k=false:=by
   rw[<-vB,A6,he k (bk _)];intro hm;have:=At pl (k+1) k hm;omega
  refine⟨v,H,⟨h1.fE,fun q=>Bool.noConfusion (aP.symm.trans q),fun _=>⟨rfl,fun e qs aa=>?_⟩⟩,?_⟩
  ·obtain⟨i,hi⟩:=List.getElem?_of_mem qs;rw[List.getElem?_zip_eq_some]at hi;by_cases hw:i<w
   ·exact(Rg h2 i e.2 hw hi.2).fE
   ·have hle:i<fw.length:=(cA.1 hi.1).1;have tR:fw[w]?=some (fw[w]'(by omega)):=c0 (by omega)
    rw[tR]at ae;exact absurd (.dir ae.1 (P4 an w i _ _ (by omega) tR hi.1)) aa
  ·simp only[aP,ht,eF];refine J9 hc os pl (k+1) _ H fw bI _ _ (by simpa using ae.2) (fun i hi=>he i (by omega)) hl an ?_ h3
   intro p hY;cases hY with
   |head=>exact .inr (.inr ⟨_,.head _,rfl,fun h ah=>ah.fE⟩)
   |tail _ hY=>
    rcases hpo p hY with q|q|⟨q,aS,aQ,aO⟩
    ·exact .inl q
    ·exact .inr (.inl q)
    ·exact .inr (.inr ⟨q,.tail _ aS,aQ,aO⟩)
 |o::os,.eff fs::pl,k,α,H,fw,bI,k9,sp,ae,he,hl,an,hpo,h=>by
  simp only[vj,dD]at ae;obtain⟨⟨⟨iH,eu⟩,a2⟩,OD⟩:=ae;obtain⟨v,H1,h1,h2,h3⟩:=h;have qs:(lT plan 0).contains k=true:=by
   rw[A6,he k (bk _)];exact .head _
  have VR:fs.length=sp.length:=by simpa using eu
  have WK:∀x∈fs.zip (sp.map (·.1)),(x.1||qS ops x.2 k)=true:=gT.1 a2
  refine⟨_,_,⟨SV h1,fun _ p hY aa=>?_,fun q=>Bool.noConfusion (qs.symm.trans q)⟩,?_⟩
  ·rcases hpo p hY with⟨e,l,tA,q⟩|q|⟨q,aS,aQ,aO⟩
   ·rw[tA]at iH;exact absurd (.dir iH q) aa
   ·exact q _
   ·rcases P5 h2 VR WK q aS with r|r
    ·exact aO _ r
    ·rw[aQ]at r;exact absurd (.dir r (.refl _)) aa
  ·simp only[qs,dI];refine J9 hc os pl (k+1) _ _ (k::fw) (H::bI) k9 _ (by rw[P6];exact OD) (fun i hi=>?_) (by simp[hl]) ?_ ?_ h3
   ·rw[he i (by omega)]
    constructor
    ·intro hm;cases hm with
     |head=>omega
     |tail _ hm=>exact hm
    ·exact .tail _
   ·cases fw with
    |nil=>trivial
    |cons e l=>exact⟨iH,an⟩
   ·intro p hY;rcases hpo p hY with⟨e,l,tA,q⟩|q|⟨q,aS,aQ,aO⟩
    ·rw[tA]at iH;exact .inl ⟨k,fw,rfl,q.trans (.dir iH)⟩
    ·exact .inr (.inl q)
    ·rcases PJ VR WK q aS with r|r
     ·exact .inr (.inr ⟨q,r,aQ,aO⟩)
     ·rw[aQ]at r;exact .inl ⟨k,fw,rfl,.dir r⟩
theorem QX{all:List Oper}{k k':a5->ab->Prop}(hk:∀α H,k α H->k' α H)(pl:List cR):∀(l:List Oper) (n:Nat) (α:a5) (H:ab) (bI:List ab) (b6:g2),et P all pl l n α H bI b6 k->et P all pl l n α H bI b6 k':=by
 induction pl with
 |nil=>
  grind [List,Oper,Nat,et]
 |cons p ps ay=>
  intro l n α H bI b6 h;cases l with
  |nil=>cases p<;>exact h
  |cons o os=>
   cases p with
   |free=>grind [List,Oper,Nat,et]
   |pure w=>obtain⟨v,h1,h2,h3⟩:=h;grind [List,Oper,Nat,et]
   |eff fs=>obtain⟨v,H1,h1,h2,h3⟩:=h;exact⟨v,H1,h1,h2,ay _ _ _ _ _ _ h3⟩
theorem XD{N id:Nat}{ops:Array Oper}{Q:dU}{α:a5}{H:ab}(plan:List cR)(hm:P.follows .mixedOrders=true)(hd:w8 N ops=true)(bK:Region.lexB .any ops=true)
  (ae:(vj ops ops.toList plan 0 [] []&&p4 ops (lT plan 0))=true) (h:et P ops.toList plan ops.toList 0 α H [] [] (fun c1 H'=>Q .normal c1 H')):di P N (.region id ops true) Q α H:=by
 intro r c a _ hs aD;simp only[Region.lexB,dD]at bK ae;refine wpIn_region_any hm ?_;have h1:=QX (k':=fun c1 H'=>∃β,Alike c1 β∧Q .normal β H') (fun c1 H' aS=>⟨c1,fun _=>rfl,aS⟩) _ _ _ _ _ _ _ h
 have h2:=J9 (P:=P) (N:=N) (ops:=ops) (plan:=plan) trivial ops.toList plan 0 α H [] [] [] [] ae.1 (fun _ _=>Iff.rfl) rfl trivial (fun p ae=>by cases ae) h1
 have tp:∀i j,(lT plan 0).contains i=true->(lT plan 0).contains j=true->j≠i->∀listed,mD ops listed->i∈Region.ready .any ops listed->j∈Region.ready .any ops listed->False:=by
  intro i j hi aw aP listed al h1 h2;rcases Lq ae.2 i j (A6.1 hi) (A6.1 aw) aP with q|q
  ·exact AH al h1 h2 q
  ·exact AH al h2 h1 q
 have wB:mD ops (Array.replicate ops.size false):=by
  intro q o aS;rw[Hk]at aS;grind
 have h3:=RP (fun α β H c3 ⟨D0,aJ,aS⟩=>⟨D0,fun t=>(c3 t).symm.trans (aJ t),aS⟩) tp ops.toList 0 (Array.replicate ops.size false) α H _ _ (by simp) wB (by simpa using bK.2) h2
 have h4:=JV (r:=r) (P:=P) (Q:=By N c Q) hd c (fun c1 H' c' gx ⟨β,c3,aS⟩ ic ho rj=>⟨c',β,H',rfl,ic,ho,rj.weaken fun t=>.inr (c3 t).symm,aS⟩)
  ops.toList.length (Array.replicate ops.size false) α H _ _ c.draw a hs.draw (Ext.draw c) (aD.mono (Ext.draw c)) h3
 rw[Array.length_toList]at h4;exact h4
end
section
variable {P:Program}
theorem aIi{A B:Prop}{b:I}{X:I->Prop}:(∃v,(A∧B∧v=b)∧X v)=(A∧B∧X b):=
 propext ⟨fun⟨_,⟨h1,h2,e⟩,x⟩=>⟨h1,h2,e▸x⟩,fun⟨h1,h2,x⟩=>⟨b,⟨h1,h2,rfl⟩,x⟩⟩
theorem aIj{A B C:Prop}{b:I}{X:I->Prop}:(∃v,(A∧B∧C∧v=b)∧X v)=(A∧B∧C∧X b):=
 propext ⟨fun⟨_,⟨h1,h2,h3,e⟩,x⟩=>⟨h1,h2,h3,e▸x⟩,fun⟨h1,h2,h3,x⟩=>⟨b,⟨h1,h2,h3,rfl⟩,x⟩⟩
theorem aIk{A B:Prop}{b:I}{W X:I->Prop}:(∃v,(A∧B∧v=b)∧W v∧X v)=(A∧B∧W b∧X b):=
 propext ⟨fun⟨_,⟨h1,h2,e⟩,y,x⟩=>⟨h1,h2,e▸y,e▸x⟩,fun⟨h1,h2,y,x⟩=>⟨b,⟨h1,h2,rfl⟩,y,x⟩⟩
theorem aIl{A B C:Prop}{b:I}{W X:I->Prop}:(∃v,(A∧B∧C∧v=b)∧W v∧X v)=(A∧B∧C∧W b∧X b):=
 propext ⟨fun⟨_,⟨h1,h2,h3,e⟩,y,x⟩=>⟨h1,h2,h3,e▸y,e▸x⟩,fun⟨h1,h2,h3,y,x⟩=>⟨b,⟨h1,h2,h3,rfl⟩,y,x⟩⟩
theorem Nu{A:Prop}{b:I}{G:ab}{W:ab->Prop}{X:I->ab->Prop}:(∃v H1,(A∧v=b∧H1=G)∧W H1∧X v H1)=(A∧W G∧X b G):=
 propext ⟨fun⟨_,_,⟨h1,e,ku⟩,y,x⟩=>by subst e;subst ku;exact⟨h1,y,x⟩,fun⟨h1,y,x⟩=>⟨b,G,⟨h1,rfl,rfl⟩,y,x⟩⟩
attribute [go_sem] qT mO r8
def MP(P:Program)(g:Bool)(f:I)(xs:List I)(H:ab)(K:I->ab->Prop):Prop:=
 ∃v H1,(g=true->h6 P f xs H (fun ev H'=>ev=v∧H'=H1))∧(g=false->H1=H)∧K v H1
def p5(P:Program)(g:Bool)(f:I)(xs:List I)(v:I):ab->Prop:=fun h=>g=true->h6 P f xs h (fun ev H'=>ev=v∧H'=h)
def Bz(P:Program)(g:Bool)(f:I)(xs:List I)(H:ab)(w:Nat)(bI:List ab)(K:I->Prop):Prop:=∃v,p5 P g f xs v H∧r8 w bI (p5 P g f xs v)∧K v
section
variable (all os:List Oper) (pp:List cR) (w k:Nat) (fs:List Bool) (α:a5) (H:ab) (bI:List ab) (b6:g2) (dM:a5->ab->Prop) (dst:Option Tmp) (ty:TypeId) (pos:String) (after:Array Edge)
def Mj(P:Program)(all:List Oper)(pp:List cR)(os:List Oper)(k:Nat)(dst:Option Tmp)(α:a5)(H:ab)(bI:List ab)(b6:g2)(dM:a5->ab->Prop)(f:I)(xs:List I):I->Prop:=
 fun v=>et P all pp os (k+1) (cY dst v α) H bI ((k,p5 P true f xs v)::b6) dM
def Tn(P:Program)(all:List Oper)(pp:List cR)(os:List Oper)(k:Nat)(dst:Option Tmp)(g:Bool)(α:a5)(H:ab)(bI:List ab)(b6:g2)(dM:a5->ab->Prop)(f:I)(xs:List I):I->Prop:=
 fun v=>et P all pp os (k+1) (cY dst (.opt g v) α) H bI ((k,p5 P g f xs v)::b6) dM
@[go_sem] theorem aSX:et P all [] [] k α H bI b6 dM=dM α H:=rfl
@[go_sem] theorem aQO(f:Operand)(xs:Array Operand)(ts:Array TypeId):et P all (.pure w::pp) (⟨dst,.call ⟨.value f,xs,ts⟩,ty,pos,after,none⟩::os) k α H bI b6 dM=
  Bz P true (bb α f) (xs.toList.map (bb α)) H w bI (Mj P all pp os k dst α H bI b6 dM (bb α f) (xs.toList.map (bb α))):=by
 have e:∀v,(fun h=>kj P all h ⟨dst,.call ⟨.value f,xs,ts⟩,ty,pos,after,none⟩ α v)=p5 P true (bb α f) (xs.toList.map (bb α)) v:=fun v=>funext fun h=>propext ⟨fun k _=>k,fun k=>k rfl⟩
 show(∃v,(fun h=>kj P all h ⟨dst,.call ⟨.value f,xs,ts⟩,ty,pos,after,none⟩ α v) H∧r8 w bI (fun h=>kj P all h ⟨dst,.call ⟨.value f,xs,ts⟩,ty,pos,after,none⟩ α v)∧et P all pp os (k+1) (cY dst v α) H bI ((k,fun h=>kj P all h ⟨dst,.call ⟨.value f,xs,ts⟩,ty,pos,after,none⟩ α v)::b6) dM)=_
 have ku:∀v,kj P all H ⟨dst,.call ⟨.value f,xs,ts⟩,ty,pos,after,none⟩ α v=p5 P true (bb α f) (xs.toList.map (bb α)) v H:=fun v=>congrFun (e v) H
 simp only[e,ku];rfl
@[go_sem] theorem aPz(r:Operand)(m:String)(xs:Array Operand)(ts:Array TypeId):et P all (.pure w::pp) (⟨dst,.call ⟨.invoke r m,xs,ts⟩,ty,pos,after,none⟩::os) k α H bI b6 dM=
  Bz P true (oS P m (bb α r)) (xs.toList.map (bb α)) H w bI (Mj P all pp os k dst α H bI b6 dM (oS P m (bb α r)) (xs.toList.map (bb α))):=by
 have e:∀v,(fun h=>kj P all h ⟨dst,.call ⟨.invoke r m,xs,ts⟩,ty,pos,after,none⟩ α v)=p5 P true (oS P m (bb α r)) (xs.toList.map (bb α)) v:=fun v=>funext fun h=>propext ⟨fun k _=>k,fun k=>k rfl⟩
 show(∃v,(fun h=>kj P all h ⟨dst,.call ⟨.invoke r m,xs,ts⟩,ty,pos,after,none⟩ α v) H∧r8 w bI (fun h=>kj P all h ⟨dst,.call ⟨.invoke r m,xs,ts⟩,ty,pos,after,none⟩ α v)∧et P all pp os (k+1) (cY dst v α) H bI ((k,fun h=>kj P all h ⟨dst,.call ⟨.invoke r m,xs,ts⟩,ty,pos,after,none⟩ α v)::b6) dM)=_
 have ku:∀v,kj P all H ⟨dst,.call ⟨.invoke r m,xs,ts⟩,ty,pos,after,none⟩ α v=p5 P true (oS P m (bb α r)) (xs.toList.map (bb α)) v H:=fun v=>congrFun (e v) H
 simp only[e,ku];rfl
@[go_sem] theorem aPA(f:Operand)(xs:Array Operand)(ts:Array TypeId)(j:Nat)(ds:Bool):et P all (.pure w::pp) (⟨dst,.call ⟨.value f,xs,ts⟩,ty,pos,after,some (j,ds)⟩::os) k α H bI b6 dM=
  (hq (bw α (br all j))∧jJ (bR (bw α (br all j)) ds) α (f::xs.toList)∧
   Bz P (bR (bw α (br all j)) ds) (cT α f) (xs.toList.map (cT α)) H w bI (Tn P all pp os k dst (bR (bw α (br all j)) ds) α H bI b6 dM (cT α f) (xs.toList.map (cT α)))):=by
 refine propext ⟨?_,?_⟩
 ·rintro⟨v,⟨h1,h2,u,h3,rfl⟩,h4,cz⟩;have e:(fun h=>kj P all h ⟨dst,.call ⟨.value f,xs,ts⟩,ty,pos,after,some (j,ds)⟩ α (.opt (bR (bw α (br all j)) ds) u))=p5 P (bR (bw α (br all j)) ds) (cT α f) (xs.toList.map (cT α)) u:=
   funext fun h=>propext ⟨fun⟨_,_,ur,k1,k2⟩=>by cases k2;exact k1,fun k1=>⟨h1,h2,u,k1,rfl⟩⟩
  rw[e]at h4 cz;exact⟨h1,h2,u,h3,h4,cz⟩
 ·rintro⟨h1,h2,u,h3,h4,cz⟩;have e:(fun h=>kj P all h ⟨dst,.call ⟨.value f,xs,ts⟩,ty,pos,after,some (j,ds)⟩ α (.opt (bR (bw α (br all j)) ds) u))=p5 P (bR (bw α (br all j)) ds) (cT α f) (xs.toList.map (cT α)) u:=
   funext fun h=>propext ⟨fun⟨_,_,ur,k1,k2⟩=>by cases k2;exact k1,fun k1=>⟨h1,h2,u,k1,rfl⟩⟩
  refine⟨_,⟨h1,h2,u,h3,rfl⟩,?_,?_⟩
  ·show r8 w bI (fun h=>kj P all h ⟨dst,.call ⟨.value f,xs,ts⟩,ty,pos,after,some (j,ds)⟩ α (.opt (bR (bw α (br all j)) ds) u))
   rw[e];exact h4
  ·show et P all pp os (k+1) _ H bI ((k,fun h=>kj P all h ⟨dst,.call ⟨.value f,xs,ts⟩,ty,pos,after,some (j,ds)⟩ α (.opt (bR (bw α (br all j)) ds) u))::b6) dM
   rw[e];exact cz
def To(P:Program)(all:List Oper)(pp:List cR)(os:List Oper)(k:Nat)(fs:List Bool)(dst:Option Tmp)(g:Bool)(α:a5)(H:ab)(bI:List ab)(b6:g2)(dM:a5->ab->Prop):I->ab->Prop:=
 fun v H1=>qT fs b6 H1∧et P all pp os (k+1) (cY dst (.opt g v) α) H1 (H::bI) (mO fs b6) dM
def Tp(P:Program)(all:List Oper)(pp:List cR)(os:List Oper)(k:Nat)(fs:List Bool)(dst:Option Tmp)(α:a5)(H:ab)(bI:List ab)(b6:g2)(dM:a5->ab->Prop):I->ab->Prop:=
 fun v H1=>qT fs b6 H1∧et P all pp os (k+1) (cY dst v α) H1 (H::bI) (mO fs b6) dM
@[go_sem] theorem aQP(f:Operand)(xs:Array Operand)(ts:Array TypeId):et P all (.eff fs::pp) (⟨dst,.call ⟨.value f,xs,ts⟩,ty,pos,after,none⟩::os) k α H bI b6 dM=
  MP P true (bb α f) (xs.toList.map (bb α)) H (Tp P all pp os k fs dst α H bI b6 dM):=
 propext ⟨fun⟨v,H1,h1,h2⟩=>⟨v,H1,fun _=>h1,fun h=>(by cases h),h2⟩,fun⟨v,H1,h1,_,h2⟩=>⟨v,H1,h1 rfl,h2⟩⟩
@[go_sem] theorem aPB(f:Operand)(xs:Array Operand)(ts:Array TypeId)(j:Nat)(ds:Bool):et P all (.eff fs::pp) (⟨dst,.call ⟨.value f,xs,ts⟩,ty,pos,after,some (j,ds)⟩::os) k α H bI b6 dM=
  (hq (bw α (br all j))∧jJ (bR (bw α (br all j)) ds) α (f::xs.toList)∧
   MP P (bR (bw α (br all j)) ds) (cT α f) (xs.toList.map (cT α)) H (To P all pp os k fs dst (bR (bw α (br all j)) ds) α H bI b6 dM)):=
 propext ⟨fun⟨_,H1,⟨h1,h2,u,h3,h4,rfl⟩,cz⟩=>⟨h1,h2,u,H1,h3,h4,cz⟩,fun⟨h1,h2,u,H1,h3,h4,cz⟩=>⟨_,H1,⟨h1,h2,u,h3,h4,rfl⟩,cz⟩⟩
@[go_sem] theorem aRh(x y z:Operand):et P all (.free::pp) (⟨dst,.pick x y z,ty,pos,after,none⟩::os) k α H bI b6 dM=
  ((jL true (bb α x) (bb α y) (bb α z)).s∧et P all pp os (k+1) (cY dst (jL true (bb α x) (bb α y) (bb α z)).v α) H bI b6 dM):=
 propext ⟨fun⟨_,⟨h1,e⟩,x⟩=>⟨h1,e▸x⟩,fun⟨h1,x⟩=>⟨_,⟨h1,rfl⟩,x⟩⟩
@[go_sem] theorem aQQ(x y z:Operand)(j:Nat)(ds:Bool):et P all (.free::pp) (⟨dst,.pick x y z,ty,pos,after,some (j,ds)⟩::os) k α H bI b6 dM=
  (hq (bw α (br all j))∧((bR (bw α (br all j)) ds)=true->(jL (bR (bw α (br all j)) ds) (bb α x) (bb α y) (bb α z)).s)∧
    et P all pp os (k+1) (cY dst (.opt (bR (bw α (br all j)) ds) (jL (bR (bw α (br all j)) ds) (bb α x) (bb α y) (bb α z)).v) α) H bI b6 dM):=
 propext ⟨fun⟨_,⟨h1,h2,e⟩,x⟩=>⟨h1,h2,e▸x⟩,fun⟨h1,h2,x⟩=>⟨_,⟨h1,h2,rfl⟩,x⟩⟩
def aHp(g:Bool)(v:I):I:=.opt g v
attribute [go_sem] aHp
section
variable (op:Op) (h:hZ op=true) (j:Nat) (ds:Bool) (v:I)
include h
theorem QY:kj P all H ⟨dst,op,ty,pos,after,none⟩ α v=((cn P op (bb α) H).s∧(cn P op (bb α) H).H=H∧v=(cn P op (bb α) H).v):=by
 cases op<;>first|rfl|(cases h;done)|skip
 rename_i c;obtain⟨ce,xs,ts⟩:=c;cases ce<;>first|rfl|cases h
theorem QS:kj P all H ⟨dst,op,ty,pos,after,some (j,ds)⟩ α v=(hq (bw α (br all j))∧jJ (bR (bw α (br all j)) ds) α (gQ op)∧((bR (bw α (br all j)) ds)=true->(cn P op (cT α) H).s∧(cn P op (cT α) H).H=H)∧v=.opt (bR (bw α (br all j)) ds) (cn P op (cT α) H).v):=by
 cases op<;>first|rfl|(cases h;done)|skip
 rename_i c;obtain⟨ce,xs,ts⟩:=c;cases ce<;>first|rfl|cases h
@[go_sem] theorem aRa:et P all (.free::pp) (⟨dst,op,ty,pos,after,none⟩::os) k α H bI b6 dM=
  ((cn P op (bb α) H).s∧(cn P op (bb α) H).H=H∧et P all pp os (k+1) (cY dst (cn P op (bb α) H).v α) H bI b6 dM):=by
 simp only[et,QY (h:=h)];exact aIi
@[go_sem] theorem aRi:et P all (.free::pp) (⟨dst,op,ty,pos,after,some (j,ds)⟩::os) k α H bI b6 dM=
  (hq (bw α (br all j))∧jJ (bR (bw α (br all j)) ds) α (gQ op)∧((bR (bw α (br all j)) ds)=true->(cn P op (cT α) H).s∧(cn P op (cT α) H).H=H)∧et P all pp os (k+1) (cY dst (.opt (bR (bw α (br all j)) ds) (cn P op (cT α) H).v) α) H bI b6 dM):=by
 simp only[et,QS (h:=h)];exact aIj
@[go_sem] theorem aQU:et P all (.pure w::pp) (⟨dst,op,ty,pos,after,none⟩::os) k α H bI b6 dM=
  ((cn P op (bb α) H).s∧(cn P op (bb α) H).H=H∧r8 w bI (fun h=>(cn P op (bb α) h).s∧(cn P op (bb α) h).H=h∧(cn P op (bb α) H).v=(cn P op (bb α) h).v)∧
    et P all pp os (k+1) (cY dst (cn P op (bb α) H).v α) H bI ((k,fun h=>(cn P op (bb α) h).s∧(cn P op (bb α) h).H=h∧(cn P op (bb α) H).v=(cn P op (bb α) h).v)::b6) dM):=by
 simp only[et,QY (h:=h)];exact aIk
@[go_sem] theorem aRj:et P all (.pure w::pp) (⟨dst,op,ty,pos,after,some (j,ds)⟩::os) k α H bI b6 dM=
  (hq (bw α (br all j))∧jJ (bR (bw α (br all j)) ds) α (gQ op)∧((bR (bw α (br all j)) ds)=true->(cn P op (cT α) H).s∧(cn P op (cT α) H).H=H)∧
   r8 w bI (fun h=>hq (bw α (br all j))∧jJ (bR (bw α (br all j)) ds) α (gQ op)∧((bR (bw α (br all j)) ds)=true->(cn P op (cT α) h).s∧(cn P op (cT α) h).H=h)∧I.opt (bR (bw α (br all j)) ds) (cn P op (cT α) H).v=.opt (bR (bw α (br all j)) ds) (cn P op (cT α) h).v)∧
   et P all pp os (k+1) (cY dst (.opt (bR (bw α (br all j)) ds) (cn P op (cT α) H).v) α) H bI ((k,fun h=>hq (bw α (br all j))∧jJ (bR (bw α (br all j)) ds) α (gQ op)∧((bR (bw α (br all j)) ds)=true->(cn P op (cT α) h).s∧(cn P op (cT α) h).H=h)∧I.opt (bR (bw α (br all j)) ds) (cn P op (cT α) H).v=.opt (bR (bw α (br all j)) ds) (cn P op (cT α) h).v)::b6) dM):=by
 simp only[et,QS (h:=h)];exact aIl
theorem aAY(H1:ab):Ep P all ⟨dst,op,ty,pos,after,none⟩ α H v H1=((cn P op (bb α) H).s∧v=(cn P op (bb α) H).v∧H1=(cn P op (bb α) H).H):=by
 cases op<;>first|rfl|(cases h;done)|skip
 rename_i c;obtain⟨ce,xs,ts⟩:=c;cases ce<;>first|rfl|cases h
theorem ZX(H1:ab):Ep P all ⟨dst,op,ty,pos,after,some (j,ds)⟩ α H v H1=((hq (bw α (br all j))∧jJ (bR (bw α (br all j)) ds) α (gQ op)∧((bR (bw α (br all j)) ds)=true->(cn P op (cT α) H).s))∧v=.opt (bR (bw α (br all j)) ds) (cn P op (cT α) H).v∧H1=(bif (bR (bw α (br all j)) ds)then(cn P op (cT α) H).H else H)):=by
 cases op<;>first|rfl|(cases h;done)|skip
 rename_i c;obtain⟨ce,xs,ts⟩:=c;cases ce<;>first|rfl|cases h
@[go_sem] theorem aQV:et P all (.eff fs::pp) (⟨dst,op,ty,pos,after,none⟩::os) k α H bI b6 dM=
  ((cn P op (bb α) H).s∧qT fs b6 (cn P op (bb α) H).H∧et P all pp os (k+1) (cY dst (cn P op (bb α) H).v α) (cn P op (bb α) H).H (H::bI) (mO fs b6) dM):=by
 simp only[et,aAY (h:=h)];exact Nu (X:=fun v H1=>et P all pp os (k+1) (cY dst v α) H1 (H::bI) (mO fs b6) dM)
@[go_sem] theorem aRk:et P all (.eff fs::pp) (⟨dst,op,ty,pos,after,some (j,ds)⟩::os) k α H bI b6 dM=
  ((hq (bw α (br all j))∧jJ (bR (bw α (br all j)) ds) α (gQ op)∧((bR (bw α (br all j)) ds)=true->(cn P op (cT α) H).s))∧qT fs b6 (bif (bR (bw α (br all j)) ds)then(cn P op (cT α) H).H else H)∧
    et P all pp os (k+1) (cY dst (.opt (bR (bw α (br all j)) ds) (cn P op (cT α) H).v) α) (bif (bR (bw α (br all j)) ds)then(cn P op (cT α) H).H else H) (H::bI) (mO fs b6) dM):=by
 simp only[et,ZX (h:=h)];exact Nu (X:=fun v H1=>et P all pp os (k+1) (cY dst v α) H1 (H::bI) (mO fs b6) dM)
end
end
@[go_sem] theorem aPC(all os:List Oper)(pp:List cR)(k:Nat)(fs:List Bool)(dst:Option Tmp)(g:Bool)(α:a5)(H:ab)(bI:List ab)(b6:g2)(dM:a5->ab->Prop)(v:I)(H1:ab):
  To P all pp os k fs dst g α H bI b6 dM v H1=(qT fs b6 H1∧et P all pp os (k+1) (cY dst (.opt g v) α) H1 (H::bI) (mO fs b6) dM):=rfl
@[go_sem] theorem aO8(all os:List Oper)(pp:List cR)(k:Nat)(fs:List Bool)(dst:Option Tmp)(α:a5)(H:ab)(bI:List ab)(b6:g2)(dM:a5->ab->Prop)(v:I)(H1:ab):
  Tp P all pp os k fs dst α H bI b6 dM v H1=(qT fs b6 H1∧et P all pp os (k+1) (cY dst v α) H1 (H::bI) (mO fs b6) dM):=rfl
theorem Rh{g:Bool}{f:FuncId}{args:List I}{x:I}{h:ab}(an:∀h,aY P f args h x)(ok:lx P f=true):p5 P g (.func (.func f) [] []) args x h:=
 fun _=>Or.inl ⟨ok,by simp only[gK,b2];exact an h⟩
theorem lr{g:Bool}{f:FuncId}{first args cap:List I}{H:ab}{x:I}{w:Nat}{bI:List ab}{K:I->Prop}(an:∀h,aY P f (first++args++cap) h x)(ok:lx P f=true)(hk:K x):Bz P g (.func (.func f) first cap) args H w bI K:=by
 have al:∀h,p5 P g (.func (.func f) first cap) args x h:=fun h _=>Or.inl ⟨ok,an h⟩
 refine⟨x,al H,?_,hk⟩;have:∀(w:Nat) (hs:List ab),r8 w hs (p5 P g (.func (.func f) first cap) args x):=by
  intro w;induction w with
  |zero=>intro hs;trivial
  |succ w ay=>intro hs;cases hs with
   |nil=>trivial
   |cons h hs=>exact⟨al h,ay hs⟩
 exact this w bI
theorem er{g:Bool}{f:FuncId}{args:List I}{H:ab}{x:I}{w:Nat}{bI:List ab}{K:I->Prop}(an:∀h,aY P f args h x)(ok:lx P f=true)(hk:K x):Bz P g (.func (.func f) [] []) args H w bI K:=by
 refine⟨x,Rh an ok,?_,hk⟩;have:∀(w:Nat) (hs:List ab),r8 w hs (p5 P g (.func (.func f) [] []) args x):=by
  intro w;induction w with
  |zero=>intro hs;trivial
  |succ w ay=>intro hs;cases hs with
   |nil=>trivial
   |cons h hs=>exact⟨Rh an ok,ay hs⟩
 exact this w bI
end
section
attribute [go_sem] Ic MO Mk Mg Mj Tn Ua TypeDesc.isAgg Option.isSome_some Option.isSome_none Bool.false_eq_true Bool.true_eq_false not_true_eq_false not_false_eq_true true_and and_true and_self List.getElem?_toArray List.getElem?_cons_zero List.getElem?_cons_succ List.getElem?_nil List.length_map List.append_eq List.range_zero List.cons_append List.nil_append Nat.one_ne_zero implies_true
attribute [go_sem] Nat.reduceEqDiff Nat.reduceAdd Nat.reduceSub Nat.reduceMul Nat.reduceLeDiff Nat.reduceLT Nat.reduceBEq Int.reduceNeg Int.reduceLE Int.reduceLT Int.reduceToNat String.reduceEq
attribute [go_sem ↓] reduceIte
section
variable {P:Program} {f:FuncId} {args:List I} {x:I} {H:ab}
theorem IJ{k:I->ab->Prop}(h:∀H,aY P f args H x)(ok:lx P f=true)(hk:k x H):pd P (.func (.func f) [] []) args H k:=ea (h H) ok hk
theorem IL{g:Bool}{k:I->Prop}(h:∀H,aY P f args H x)(ok:lx P f=true)(hk:k x):ou P g (.func (.func f) [] []) args H k:=ep (h H) ok hk
theorem IK{g:Bool}{w:Nat}{bI:List ab}{k:I->Prop}(h:∀H,aY P f args H x)(ok:lx P f=true)(hk:k x):Bz P g (.func (.func f) [] []) args H w bI k:=er (fun H=>h H) ok hk
theorem Ri{g:Bool}(h:aY P f args H x)(ok:lx P f=true):p5 P g (.func (.func f) [] []) args x H:=
 fun _=>Or.inl ⟨ok,by simp only[gK,b2];exact h⟩
end
def aKN:Code->Bool
 |.skip|.ret|.exit _|.label _=>true
 |_=>false
def Er:Code->Exit
 |.ret=>.ret
 |.exit i=>.exit i
 |_=>.normal
theorem L3{P:Program}{N:Nat}{c:Code}{Q:dU}{α:a5}{H:ab}(al:aKN c=true)(h:Q (Er c) α H):di P N c Q α H:=by
 cases c<;>first
  |exact SR h
  |exact aFj h
  |exact aC9 h
  |exact aA3 h
  |cases al
@[go_sem] theorem aO9:Er .skip=.normal:=rfl
@[go_sem] theorem aQR:Er .ret=.ret:=rfl
@[go_sem] theorem aPa(i:Nat):Er (.exit i)=.exit i:=rfl
@[go_sem] theorem aOT(i:Nat):Er (.label i)=.normal:=rfl
section
variable {P:Program} {f:FuncId} {fn:Func} {code:Code} {args:List I} {H:ab} {x:I} {R:I->ab->Prop}
theorem bh(an:P.funcs[f]?=some fn)(h:di P fn.ntmps code (rS P fn.results.toList fun v H'=>∃L y,H'=H++L∧cQ H.length H' v y∧y=x) (oW 0 args) H)(aa:fn.body=some code:=by rfl)(ag:args.length<=fn.ntmps:=by exact DJ rfl):aY P f args H x:=aFQ an aa ag h
theorem eJ(an:P.funcs[f]?=some fn)(h:di P fn.ntmps code (rS P fn.results.toList fun v H'=>∃H1 L y,H'=H1++L∧H1.length=H.length∧(∀(i:Nat) (b:bu),H1[i]?=some b->H[i]?=some b∨dp H.length b)∧cQ H.length H' v y∧R y H1) (oW 0 args) H)(aa:fn.body=some code:=by rfl)(ag:args.length<=fn.ntmps:=by exact DJ rfl):c5 P f args H R:=ZW an aa ag h
theorem pD(an:P.funcs[f]?=some fn)(h:di P fn.ntmps code (rS P fn.results.toList fun v H'=>∃H1 L y,H'=H1++L∧H.length<=H1.length∧(∀(i:Nat) (b:bu),H1[i]?=some b->H[i]?=some b∨dp H1.length b)∧cQ H1.length H' v y∧R y H1) (oW 0 args) H)(aa:fn.body=some code:=by rfl)(ag:args.length<=fn.ntmps:=by exact DJ rfl):c5 P f args H R:=Yr an aa ag h
theorem uM(an:P.funcs[f]?=some fn)(h:di P fn.ntmps code (rS P fn.results.toList R) (oW 0 args) H)(aa:fn.body=some code:=by rfl)(ag:args.length<=fn.ntmps:=by exact DJ rfl):c5 P f args H R:=FZ an aa ag h
end
theorem bo{n:Nat}{H L:ab}{v x:I}(hs:fY v x)(ae:bO v:=by simp only[go_sem]):∃gk y,H++L=H++gk∧cQ n (H++L) v y∧y=x:=done ae hs
theorem bC{n:Nat}{H:ab}{v x:I}(hs:fY v x)(ae:bO v:=by simp only[go_sem]):∃gk y,H=H++gk∧cQ n H v y∧y=x:=zk ae hs
theorem b1{p:Prop}[Decidable p](h:p:=by omega):decide p=true:=cF h
theorem cg{p:Prop}[Decidable p](h:¬p:=by omega):decide p=false:=b8 h
theorem cB{n:Int}(h1: -9223372036854775808<=n:=by omega)(h2:n<=9223372036854775807:=by omega):IntKind.i64.wrap n=n:=wrap_i64 h1 h2
theorem du{p q c:Prop}(h:c)(k:q)(t:c->q->p:=by first|exact fun h k=>IJ h aA k|exact fun h k=>IL h aA k|exact fun h k=>IK h aA k):p:=t h k
theorem ad{p q:Prop}(k:q)(t:q->p:=by first|exact fun k=>Pn (.bool false) k|exact fun k=>qn rfl k|exact fun k=>O6 w9 rfl (by kernel_rfl) k|exact fun k=>L3 rfl k|exact fun k=>IJ (by assumption) aA k|exact fun k=>IL (by assumption) aA k|exact fun k=>IK (by assumption) aA k):p:=t k
theorem Vb{p q g:Prop}(k:q)(e:(p∧q)=g:=by with_reducible rfl)(t:p:=by first|exact Ri ((by assumption:∀H,aY _ _ _ H _) _) aA|omega|(intros;simp_all;done)|(simp;omega)):g:=e▸⟨t,k⟩
theorem Vc{p q r g:Prop}(k:q∧r)(e:((p∧q)∧r)=g:=by with_reducible rfl)(t:p:=by exact Ri ((by assumption:∀H,aY _ _ _ H _) _) aA):g:=e▸⟨⟨t,k.1⟩,k.2⟩
theorem bx{p q:Prop}(k:q)(t:q->p:=by first|exact fun k=>SS k|exact fun k=>SU k|exact fun k=>w6 k|exact fun k=>Lx k|exact fun k=>RO k|exact fun k=>Vb k|exact fun k=>Vc k):p:=t k
theorem bD{P:Program}{N:Nat}{x:Operand}{y z:Code}{b:Bool}{Q:dU}{α:a5}{H:ab}(h1:b=true->di P N y Q α H)(h2:b=false->di P N z Q α H)(J:bb α x=.bool b:=by exact rfl):di P N (.cond x y z) Q α H:=ly J h1 h2
theorem Nx{p r q:Prop}(h:q->r)(t:r->p:=by first|exact fun k=>Pn (.bool false) k|exact fun k=>qn rfl k|exact fun k=>O6 w9 rfl (by kernel_rfl) k|exact fun k=>L3 rfl k|exact fun k=>IJ (by assumption) aA k|exact fun k=>IL (by assumption) aA k|exact fun k=>IK (by assumption) aA k):q->p:=fun k=>t (h k)
theorem Ny{p r q:Prop}(h:q->r)(t:r->p:=by first|exact fun k=>SS k|exact fun k=>SU k|exact fun k=>w6 k|exact fun k=>Lx k|exact fun k=>RO k|exact fun k=>Vb k|exact fun k=>Vc k):q->p:=fun k=>t (h k)
theorem aSg{p q:Prop}(k:q)(t:q->p:=by(repeat' first|(refine Nx ?_;simp only[go_sem])|refine Ny ?_|fail);exact fun k=>k):p:=t k
theorem Cg{p q:Prop}(k:q)(t:q->p:=by(repeat' first|(refine Nx ?_;simp only[go_sem, *])|refine Ny ?_|fail);exact fun k=>k):p:=t k
theorem zF{c p q:Prop}(e:c)(k:q)(t:c->q->p:=by intro e;(repeat' first|(refine Nx ?_;simp only[go_sem, *])|refine Ny ?_|fail);exact fun k=>k):p:=t e k
theorem bB{a b:Bool}{p:Prop}(h:a=b)(t:a=b->False:=by intro h;first|(simp at h;done)|(simp at h;omega)):p:=(t h).elim
theorem mx{P:Program}{N id:Nat}{ops:Array Oper}{Q:dU}{α:a5}{H:ab}(ids:List Nat)(plan:List cR)(h:et P ops.toList plan ops.toList 0 α H [] [] (fun c1 H'=>Q .normal c1 H'))(hi:ids.contains id=true:=by rfl)(hm:P.follows .mixedOrders=true:=by exact w9)(hd:w8 N ops=true:=by rfl)
  (bK:Region.lexB .any ops=true:=by kernel_rfl) (ae:(vj ops ops.toList plan 0 [] []&&p4 ops (lT plan 0))=true:=by kernel_rfl):di P N (.region id ops true) Q α H:=XD plan hm hd bK ae h
end
section
abbrev aM:=List UInt8
structure jj where
 c:Int
 r:Int
deriving DecidableEq,Inhabited
structure bf where
 at_:jj
 kind:Int
 node:Int
 parent:Int
 name:aM
 data:aM
deriving DecidableEq,Inhabited
structure aB where
 id:Int
 parent:Int
 name:aM
 fB:jj
 data:aM
 wrote:jj
deriving DecidableEq,Inhabited
structure xB where
 oT:Bool
 hh:Bool
 b4:aB
deriving DecidableEq,Inhabited
structure eH where
 op:bf
 l6:xB
deriving DecidableEq,Inhabited
structure hy where
 entries:List eH
 nodes:List aB
deriving DecidableEq,Inhabited
def mV:jj:=⟨0,0⟩
def sS:aB:=⟨0,0,[],mV,[],mV⟩
def Ni:xB:=⟨false,false,sS⟩
def aLf:bf:=⟨mV,0,0,0,[],[]⟩
def xd(s:jj):I:=.agg [.int .i64 s.c,.int .i64 s.r]
def bY(o:bf):I:=.agg [.int .i64 o.at_.c,.int .i64 o.at_.r,.int .i64 o.kind,.int .i64 o.node,.int .i64 o.parent,.str o.name,.str o.data]
def aW(n:aB):I:=.agg [.int .i64 n.id,.int .i64 n.parent,.str n.name,.int .i64 n.fB.c,.int .i64 n.fB.r,.str n.data,.int .i64 n.wrote.c,.int .i64 n.wrote.r]
def sY(u:xB):I:=.agg [.bool u.oT,.bool u.hh,.int .i64 u.b4.id,.int .i64 u.b4.parent,.str u.b4.name,.int .i64 u.b4.fB.c,.int .i64 u.b4.fB.r,.str u.b4.data,.int .i64 u.b4.wrote.c,.int .i64 u.b4.wrote.r]
def de(e:eH):I:=.agg [.int .i64 e.op.at_.c,.int .i64 e.op.at_.r,.int .i64 e.op.kind,.int .i64 e.op.node,.int .i64 e.op.parent,.str e.op.name,.str e.op.data,
 .bool e.l6.oT,.bool e.l6.hh,.int .i64 e.l6.b4.id,.int .i64 e.l6.b4.parent,.str e.l6.b4.name,.int .i64 e.l6.b4.fB.c,.int .i64 e.l6.b4.fB.r,.str e.l6.b4.data,.int .i64 e.l6.b4.wrote.c,.int .i64 e.l6.b4.wrote.r]
def bj(n:Int):I:=.int .i64 n
def p7(f1 f2:Bool)(g:hy):I:=.agg [.sl f1 (g.entries.map de),.sl f2 (g.nodes.map aW)]
def CX(g:hy):I:=p7 false false g
@[go_sem] theorem aQW(x:jj):bO (xd x)=True:=by simp only[xd,go_sem]
@[go_sem] theorem aQX(x:bf):bO (bY x)=True:=by simp only[bY,go_sem]
@[go_sem] theorem aQY(x:aB):bO (aW x)=True:=by simp only[aW,go_sem]
@[go_sem] theorem aQZ(x:xB):bO (sY x)=True:=by simp only[sY,go_sem]
@[go_sem] theorem aQ0(x:eH):bO (de x)=True:=by simp only[de,go_sem]
@[go_sem] theorem aQ1(x:Int):bO (bj x)=True:=by simp only[bj,go_sem]
@[go_sem] theorem aQ2(f1 f2:Bool)(x:hy):bO (p7 f1 f2 x)=True:=by simp only[p7,go_sem]
@[go_sem] theorem aQ3(x:hy):bO (CX x)=True:=by simp only[CX,go_sem]
theorem dg{α:Type}(g:α->I){l:List α}{i:Nat}(h:i<l.length):(l.map g).getD i .top=g l[i]:=by
 rw[eP,nj,c0 h];rfl
theorem Tq(a b:jj):(decide (a.c=b.c)&&decide (a.r=b.r))=decide (a=b):=by
 cases a;cases b;rw[qh];simp
end
section
open Go.ChangeShapes Go.WideShapes Go.ChangeAt Go.RowKit
variable {P:Program}
def ke(P:Program)(t:TypeId):Bool:=
 match P.underlying t with
 |some (.struct _)|some (.array _ _)=>true
 |_=>false
def ik(P:Program)(t:TypeId)(ys:List I):I:=if ke P t=true then .agg ys else ys.headD .top
def Iq(P:Program):Nat->List Field->Bool
 |_,[]=>true
 |off,f::fs=>(f.offset==off)&&Iq P (off+P.cellsOf f.type) fs
def ua(P:Program):Nat->List Field->Nat
 |off,[]=>off
 |off,f::fs=>ua P (off+P.cellsOf f.type) fs
def lJ(P:Program)(t:TypeId):Bool:=
 match P.underlying t with
 |some .bool|some (.int _)|some .string=>true
 |some (.slice e)=>(P.cellsOf e !=0)&&(ke P e||(P.cellsOf e==1))
 |some (.struct fs)=>Iq P 0 fs.toList&&(ua P 0 fs.toList==P.cellsOf t)
 |_=>false
mutual
inductive gM (P:Program):TypeId->List I->Prop
 |bool (t:TypeId) (b:Bool) (h:P.underlying t=some .bool):gM P t [.bool b]
 |int (t:TypeId) (k:IntKind) (n:Int) (h:P.underlying t=some (.int k)) (hw:(Lit.int k n).wf=true):gM P t [.int k n]
 |str (t:TypeId) (s:List UInt8) (h:P.underlying t=some .string) (hl:s.length<=maxLen):gM P t [.str s]
 |slice (t e:TypeId) (ft:List (List I)) (h:P.underlying t=some (.slice e)) (hl:ft.length<=maxLen) (a2:∀z∈ft,gM P e z) (al:∀z∈ft,z.length=P.cellsOf e):gM P t [.sl false (ft.map (ik P e))]
 |struct (t:TypeId) (fs:Array Field) (ys:List I) (h:P.underlying t=some (.struct fs)) (an:vQ P fs.toList ys):gM P t ys
 |other (t:TypeId) (ys:List I) (h:lJ P t=false) (aG:∀y∈ys,y=.top):gM P t ys
inductive vQ (P:Program):List Field->List I->Prop
 |nil:vQ P [] []
 |cons (f:Field) (fs:List Field) (z ys:List I) (h:gM P f.type z) (hs:vQ P fs ys):vQ P (f::fs) (z++ys)
end
theorem SW{t:TypeId}{ys:List I}(aj:P.underlying t=some .bool)(h:gM P t ys):∃b,ys=[.bool b]:=by
 cases h with
 |bool _ b=>exact⟨b,rfl⟩
 |int _ _ _ h=>rw[aj]at h;cases h
 |str _ _ h=>rw[aj]at h;cases h
 |slice _ _ _ h=>rw[aj]at h;cases h
 |struct _ _ _ h=>rw[aj]at h;cases h
 |other _ _ h _=>rw[lJ,aj]at h;cases h
theorem sO{t:TypeId}{k:IntKind}{ys:List I}(aj:P.underlying t=some (.int k))(h:gM P t ys):∃n,ys=[.int k n]∧(Lit.int k n).wf=true:=by
 cases h with
 |bool _ _ h=>rw[aj]at h;cases h
 |int _ _ n h hw=>grind
 |str _ _ h=>rw[aj]at h;cases h
 |slice _ _ _ h=>rw[aj]at h;cases h
 |struct _ _ _ h=>rw[aj]at h;cases h
 |other _ _ h _=>rw[lJ,aj]at h;cases h
theorem DA{t:TypeId}{ys:List I}(aj:P.underlying t=some .string)(h:gM P t ys):∃s,ys=[.str s]∧s.length<=maxLen:=by
 cases h with
 |bool _ _ h=>rw[aj]at h;cases h
 |int _ _ _ h=>rw[aj]at h;cases h
 |str _ s _ hl=>exact⟨s,rfl,hl⟩
 |slice _ _ _ h=>rw[aj]at h;cases h
 |struct _ _ _ h=>rw[aj]at h;cases h
 |other _ _ h _=>rw[lJ,aj]at h;cases h
theorem Gx{t e:TypeId}{ys:List I}(aj:P.underlying t=some (.slice e))(hk:lJ P t=true)(h:gM P t ys):
  ∃ft:List (List I),ys=[.sl false (ft.map (ik P e))]∧ft.length<=maxLen∧∀z∈ft,gM P e z:=by
 cases h with
 |bool _ _ h=>rw[aj]at h;cases h
 |int _ _ _ h=>rw[aj]at h;cases h
 |str _ _ h=>rw[aj]at h;cases h
 |slice _ _ ft h hl a2=>grind
 |struct _ _ _ h=>rw[aj]at h;cases h
 |other _ _ h _=>rw[hk]at h;cases h
theorem Gi{t:TypeId}{fs:Array Field}{ys:List I}(aj:P.underlying t=some (.struct fs))(hk:lJ P t=true)(h:gM P t ys):vQ P fs.toList ys:=by
 cases h with
 |bool _ _ h=>rw[aj]at h;cases h
 |int _ _ _ h=>rw[aj]at h;cases h
 |str _ _ h=>rw[aj]at h;cases h
 |slice _ _ _ h=>rw[aj]at h;cases h
 |struct _ _ _ h an=>rw[aj]at h;cases h;exact an
 |other _ _ h=>rw[hk]at h;cases h
theorem GU{ys:List I}(h:vQ P [] ys):ys=[]:=by cases h;rfl
theorem lQ{f:Field}{fs:List Field}{ys:List I}(h:vQ P (f::fs) ys):∃z ft,ys=z++ft∧gM P f.type z∧vQ P fs ft:=by
 cases h with
 |cons _ _ z ft h hs=>exact⟨z,ft,rfl,h,hs⟩
def pn(c:Ctx)(ys:List I)(cs:List Value):Prop:=ys.length=cs.length∧∀(i:Nat) (y:I) (v:Value),ys[i]?=some y->cs[i]?=some v->aK c y v
theorem C9{c:Ctx}{y:I}{v:Value}(h:aK c y v):pn c [y] [v]:=by
 refine⟨rfl,fun i x u J hu=>?_⟩
 cases i with
 |zero=>simp at J hu;subst J;subst hu;exact h
 |succ i=>simp at J
theorem aAZ{c:Ctx}(cs:List Value):pn c (cs.map fun _=>.top) cs:=by
 refine⟨by simp,fun i x u J _=>?_⟩
 rw[nj]at J;obtain⟨_,_,rfl⟩:=jC.1 J;exact .top _
theorem RQ{c:Ctx}{y z:List I}{a b:List Value}(h:pn c y a)(k:pn c z b):pn c (y++z) (a++b):=by
 refine⟨by simp[h.1,k.1],fun i x u J hu=>?_⟩
 by_cases hi:i<y.length
 ·rw[iC hi]at J;rw[iC (by rw[<-h.1];exact hi)]at hu
  exact h.2 i x u J hu
 ·rw[qf (by omega)]at J
  rw[qf (by rw[<-h.1];omega),<-h.1]at hu
  exact k.2 _ x u J hu
theorem YC{w:World}{a:Addr}{v:Value}(h:w.cell? a=some v):a.block<w.heap.size:=by
 unfold World.cell? at h;grind
section
variable {H:Type} {enc:TypeId×Value->H} {W:World} {base:Nat} {sp:Nat->Bool} {held:Bool}
theorem aFT{k:IntKind}{n:Int}(h:(Lit.int k n).wf=true):mn k n:=by
 have h2:(decide (k.min<=n)&&decide (n<=k.max))=true:=h;simpa[mn]using h2
inductive l9 (n:Nat):I->Prop
 |int (k m):l9 n (.int k m)
 |bool (b):l9 n (.bool b)
 |str (s) (h:s.length<=n):l9 n (.str s)
 |agg (cs:List I) (h:∀x∈cs,l9 n x):l9 n (.agg cs)
 |sl (f) (es:List I) (hl:es.length<=n) (h:∀x∈es,l9 n x):l9 n (.sl f es)
 |top:l9 n .top
theorem l9.mono{n m:Nat}{x:I}(h:l9 n x)(hm:n<=m):l9 m x:=by
 induction h with
 |int=>exact .int _ _
 |bool=>exact .bool _
 |str s h=>exact .str s (gU h hm)
 |agg cs _ ay=>exact .agg cs ay
 |sl f es hl _ ay=>exact .sl f es (gU hl hm) ay
 |top=>exact .top
theorem l9.mk{n:Nat}{P:Program}{t:TypeId}{ys:List I}(h:∀y∈ys,l9 n y):l9 n (ik P t ys):=by
 unfold ik;split
 ·exact .agg ys h
 ·cases ys with
  |nil=>exact .top
  |cons y ys=>exact h y (by simp)
mutual
def mP{H:Type}:DataW H->Nat
 |.lit (.string bytes)=>bytes.length+1
 |.lit _=>1
 |.nil=>1
 |.ptr d=>mP d+1
 |.slice elems spare=>wS elems+wS spare+1
 |.agg parts=>wS parts+1
 |.iface _ d=>mP d+1
 |.map entries=>XM entries+1
 |.held _=>1
def wS{H:Type}:List (DataW H)->Nat
 |[]=>0
 |d::r=>mP d+wS r
def XM{H:Type}:List (Lit×DataW H)->Nat
 |[]=>0
 |x::r=>YD x+XM r
def YD{H:Type}:Lit×DataW H->Nat
 |(.string bytes,d)=>bytes.length+mP d+1
 |(_,d)=>mP d+1
end
theorem ZY{H:Type}(d:DataW H):1<=mP d:=by
 cases d with
 |lit l=>cases l<;>simp[mP]
 |_=>simp[mP]
theorem ZZ{H:Type}(l:List (DataW H)):l.length<=wS l:=by
 induction l with
 |nil=>simp[wS]
 |cons x r ay=>have:=ZY x;simp only[wS,cm];omega
theorem Rj{H:Type}{d:DataW H}{l:List (DataW H)}(h:d∈l):mP d<=wS l:=by
 induction l<;>grind [wS]
theorem aA0{c:Ctx}(hw:c.w=W)(av:∀b,b<W.heap.size->c.jy b):∀(fuel:Nat) (t:TypeId) (cs:List Value) (x:DataW H×List MemPlace),DataW.trod enc P W base sp held fuel t cs=some x->
  ∃ys,gM P t ys∧pn c ys cs∧∀y∈ys,l9 (mP x.1) y:=by
 intro fuel;induction fuel with
 |zero=>intro t cs x h;simp[DataW.trod]at h
 |succ fuel ay=>
  intro t cs x h;cases hk:lJ P t with
  |false=>exact⟨_,.other t _ hk (by simp),aAZ cs,fun y aG=>by simp at aG;rw[<-aG.2];exact .top⟩
  |true=>
   have fy:=hk;unfold lJ at hk;split at hk
   ·rename_i hu;obtain⟨b,rfl, -⟩:=DataW.trod_bool hu h;exact⟨_,.bool t b hu,C9 (.bool b),fun y aG=>by simp at aG;subst aG;exact .bool _⟩
   ·rename_i k hu;obtain⟨n,rfl, -,WC⟩:=DataW.trod_int hu h;exact⟨_,.int t k n hu WC,C9 (.int k n (aFT WC)),fun y aG=>by simp at aG;subst aG;exact .int _ _⟩
   ·rename_i hu;obtain⟨s,rfl,J,hl⟩:=DataW.trod_string hu h;refine⟨_,.str t s.data.toList hu (by simpa using hl),C9 ?_,fun y aG=>by simp at aG;subst aG;exact .str _ (by rw[J];simp[mP])⟩
    have:=aK.str (c:=c) s.data.toList (by simpa[maxLen]using hl)
    simpa using this
   ·rename_i e hu;rw[dD]at hk;have he:P.cellsOf e≠0:=by simpa using hk.1
    have aJj:ke P e=true∨P.cellsOf e=1:=by simpa using hk.2
    rcases DataW.trod_slice hu h with⟨rfl, -⟩|⟨a,len,cap,elems,rest,n,ag,rfl,J,aa,hl,hm,hlen,Jh, -, -⟩
    ·refine⟨[.sl false (([]:List (List I)).map (ik P e))],.slice t e [] hu (bG _) (by simp) (by simp),C9 ?_,fun y aG=>by simp at aG;subst aG;exact .sl _ _ (bG _) (by simp)⟩
     exact .sl false [] none 0 0 0 (fun _ _=>undef) rfl (bk _) (fun h=>by cases h) (fun h=>absurd rfl h) (by simp) (by simp) (by omega)
    ·obtain rfl:fuel=n:=by omega
     have each:∀i,i<len->∃(us:List Value) (ys:List I),us.length=P.cellsOf e∧(∀j,j<P.cellsOf e->W.cell? (a.add (i * P.cellsOf e+j))=us[j]?)∧gM P e ys∧pn c ys us∧∀y∈ys,l9 (mP x.1) y:=by
      intro i hi;have h1:=Jh i hi;rw[c0 (by omega),xn]at h1
      obtain⟨us,rA,aKv⟩:=h1;obtain⟨_,a7,ch⟩:=World.cells?_some rA;obtain⟨ys,k1,k2,k3⟩:=ay e us _ aKv;refine⟨us,ys,a7,fun j aw=>?_,k1,k2,fun y aG=>(k3 y aG).mono ?_⟩
      case refine_2=>
       have:=Rj (List.mem_map_of_mem (f:=(·.1)) (hv (show i<elems.length by omega)))
       rw[J];simp only[mP];omega
      rw[<-ch j aw,_root_.Go.Addr.add_add]
     let f:Nat->List I:=fun i=>if hi:i<len then(each i hi).choose_spec.choose else[]
     let g:Nat->List Value:=fun i=>if hi:i<len then(each i hi).choose else[]
     have Cu:∀i,i<len->(g i).length=P.cellsOf e∧(∀j,j<P.cellsOf e->W.cell? (a.add (i * P.cellsOf e+j))=(g i)[j]?)∧gM P e (f i)∧pn c (f i) (g i)∧∀y∈f i,l9 (mP x.1) y:=by
      intro i hi;have:=(each i hi).choose_spec.choose_spec;simp only[f,g,hi,dif_pos];exact this
     have OG:∀i,i<len->(f i).length=P.cellsOf e:=fun i hi=>by
      obtain⟨aQ,_,_,c9,_⟩:=Cu i hi;rw[c9.1,aQ]
     have VJ:∀i,i<len->(ik P e (f i)).cells=f i:=by
      intro i hi;unfold ik;by_cases aD:ke P e=true
      ·rw[aF aD];rfl
      ·rw[az aD];have hs:=(Cu i hi).2.2.1;have bX:∀fs,P.underlying e≠some (.struct fs):=fun fs q=>aD (by rw[ke,q])
       have qv:(f i).length=1:=(OG i hi).trans (aJj.resolve_left aD);generalize f i=z at hs qv ⊢;cases hs with
       |bool=>rfl
       |int=>rfl
       |str=>rfl
       |slice=>rfl
       |struct _ fs _ q=>exact absurd q (bX fs)
       |other _ _ _ q=>
        match z,qv with
        |[y],_=>rw[q y (by simp)];rfl
     refine⟨[.sl false (((List.range len).map f).map (ik P e))],.slice t e _ hu (by simp;omega) ?_ ?_,C9 ?_,fun y aG=>?_⟩
     rotate_right
     ·simp at aG;subst aG;refine .sl _ _ ?_ fun z a2=>?_
      ·have:=ZZ (elems.map (·.1));rw[cP]at this;rw[J];simp only[mP,cP,List.length_range];omega
      ·simp only[rW,bP,xk,Function.comp]at a2;obtain⟨i,hi,rfl⟩:=a2;exact .mk (Cu i hi).2.2.2.2
     ·intro z a2;obtain⟨i,hi,rfl⟩:=bP.1 a2;exact(Cu i (by simpa using hi)).2.2.1
     ·intro z a2;obtain⟨i,hi,rfl⟩:=bP.1 a2;exact OG i (by simpa using hi)
     ·refine .sl false _ (some a) len cap (P.cellsOf e) (fun k j=>(g k).getD j undef) (by simp) hl (fun h=>by cases h) (fun aP=>?_) ?_ ?_ (by have:cap<=maxLen:=hm;simp only[maxLen]at this;omega)
      ·have aJQ:0<len:=by
        rcases Nat.eq_zero_or_pos len with aC|aC
        ·subst aC;simp at aP
        ·exact aC
       have pT:∀k j,k<len->j<P.cellsOf e->W.cell? (a.add (k * P.cellsOf e+j))=some ((g k).getD j undef):=by
        intro k j hk aw;obtain⟨aQ,aO,_,_⟩:=Cu k hk;rw[aO j aw,eP,c0 (by omega)];rfl
       have IZ:=pT 0 0 aJQ (by omega)
       refine⟨a,rfl,?_,av _ ?_,fun k j hk aw=>?_⟩
       ·have:=World.cell?_spot IZ;simpa[Addr.add]using this
       ·have:=YC IZ;rwa[Addr.B7]at this
       ·rw[hw];exact pT k j (by simpa using hk) aw
      ·intro z a2;simp only[rW,bP,xk,Function.comp]at a2;obtain⟨i,hi,rfl⟩:=a2;rw[VJ i hi,OG i hi]
      ·intro k z j y a2 aG;have hk:k<len:=by
        have:=(cA.1 a2).1;simpa using this
       have:z=ik P e (f k):=by
        simp only[rW,nj,List.getElem?_range hk,rY,Function.comp,yZ]at a2;exact a2.symm
       subst this;rw[VJ k hk]at aG;obtain⟨aQ,_,_,c9,_⟩:=Cu k hk;have aw:=(cA.1 aG).1;refine c9.2 j y _ aG ?_;rw[eP,c0 (by rw[<-c9.1];exact aw)];rfl
   ·rename_i fs hu;rw[dD,qj]at hk;obtain⟨xs,n,ag,J,eM,yo,Jk⟩:=DataW.trod_struct hu h;obtain rfl:fuel=n:=by omega
    have each:∀f∈fs.toList,∃ys,gM P f.type ys∧pn c ys ((cs.drop f.offset).take (P.cellsOf f.type))∧∀y∈ys,l9 (mP x.1) y:=by
     intro f an;obtain⟨i,hi⟩:=List.getElem?_of_mem an;have cv:fs[i]?=some f:=by simpa using hi
     have ak:i<fs.size:=(qg.1 cv).1;have:=Jk i f cv;rw[c0 (by omega)]at this
     obtain⟨ys,k1,k2,k3⟩:=ay _ _ _ this;refine⟨ys,k1,k2,fun y aG=>(k3 y aG).mono ?_⟩
     have:=Rj (List.mem_map_of_mem (f:=(·.1)) (hv (show i<xs.length by omega)))
     rw[J];simp only[mP];omega
    have key:∀(l:List Field) (off:Nat),Iq P off l=true->ua P off l<=cs.length->(∀f∈l,∃ys,gM P f.type ys∧pn c ys ((cs.drop f.offset).take (P.cellsOf f.type))∧∀y∈ys,l9 (mP x.1) y)->
      off<=ua P off l∧∃ys,vQ P l ys∧pn c ys ((cs.drop off).take (ua P off l-off))∧∀y∈ys,l9 (mP x.1) y:=by
     intro l;induction l with
     |nil=>intro off _ _ _;exact⟨bk _,[],.nil,by simp[ua,pn],fun y aG=>by cases aG⟩
     |cons f l aKM=>
      intro off h1 h2 h3;rw[Iq,dD,qj]at h1;rw[ua]at h2 ⊢;obtain⟨lL,ys,aQ,aO,bF⟩:=aKM _ h1.2 h2 (fun g aJ=>h3 g (by simp[aJ]))
      obtain⟨z,aU,a3,a1⟩:=h3 f (by simp)
      refine⟨by omega,z++ys,.cons f l z ys aU aQ,?_,fun y aG=>(eX.1 aG).elim (a1 y) (bF y)⟩
      have e:(cs.drop off).take (ua P (off+P.cellsOf f.type) l-off)=(cs.drop f.offset).take (P.cellsOf f.type)++(cs.drop (off+P.cellsOf f.type)).take (ua P (off+P.cellsOf f.type) l-(off+P.cellsOf f.type)):=by
       rw[h1.1,<-Bg,show ua P (off+P.cellsOf f.type) l-off=P.cellsOf f.type+(ua P (off+P.cellsOf f.type) l-(off+P.cellsOf f.type)) by omega,List.take_add]
      rw[e];exact RQ a3 aO
    obtain⟨_,ys,k1,k2,k3⟩:=key fs.toList 0 hk.1 (by omega) each
    refine⟨ys,.struct t fs ys hu k1,?_,k3⟩;rw[List.drop_zero,Nat.sub_zero,hk.2,<-eM,eQ]at k2;exact k2
   ·cases hk
def BO(W:World):Ctx:={w:=W,n:=0,aE:=fun _=>0,bg:=fun _=>0,dR:=fun _=>false,jy:=fun b=>b<W.heap.size,base:=0}
theorem aHC(W:World):bA (BO W) [] where
 n:=rfl
 lt:=fun i hi=>absurd hi (Nat.not_lt_zero i)
 inj:=fun i j b cN hi=>by simp at hi
 st:=fun k hk=>⟨hk,fun i b hi=>by simp at hi⟩
 rep:=fun i b hi=>by simp at hi
theorem Zb{r:Reach}{eT:Nat}{t:TypeId}{v:Value}(hk:lJ P t=true)(aD:ke P t=false)(aL:Value.okWide P W r eT t v):v.cells= #[v]:=by
 unfold lJ at hk;split at hk
 ·rename_i hu;obtain⟨b,rfl⟩:=okWide_bool hu aL;rfl
 ·rename_i k hu;obtain⟨n,rfl⟩:=okWide_int hu aL;rfl
 ·rename_i hu;obtain⟨s,rfl⟩:=okWide_string hu aL;rfl
 ·rename_i e hu;obtain⟨a,l,c,rfl⟩:=okWide_slice hu aL;rfl
 ·grind [ke]
 ·cases hk
theorem aA1{r:Reach}{eT:Nat}{t:TypeId}{v:Value}{d:DataW H}{p:List MemPlace}(hk:lJ P t=true)(aL:Value.okWide P W r eT t v)(h:DataW.Trod enc P W base sp held t v d p):
  ∃x,(∃ys,x=ik P t ys∧gM P t ys∧(ke P t=true∨ys.length=1))∧aK (BO W) x v∧l9 (mP d) x:=by
 obtain⟨fuel,an⟩:=h;obtain⟨ys,h1,h2,h3⟩:=aA0 (c:=BO W) rfl (fun b aa=>aa) fuel t _ _ an
 cases aD:ke P t with
 |true=>
  refine⟨_,⟨ys,rfl,h1,.inl rfl⟩,?_,.mk h3⟩;have:∃cs,v=.agg cs:=by
   grind [ke,lJ,okWide_struct]
  obtain⟨cs,rfl⟩:=this;rw[ik,aF aD];exact .agg ys cs (by simpa[Value.cells]using h2.1.symm) fun i y u aG hu=>h2.2 i y u aG (by simpa[Value.cells]using hu)
 |false=>
  have al:=Zb hk aD aL;rw[al]at h2;have hl:ys.length=1:=by simpa using h2.1
  refine⟨_,⟨ys,rfl,h1,.inr hl⟩,?_,.mk h3⟩
  match ys,hl with
  |[y],_=>
   rw[ik,az (by simp[aD])]
   exact h2.2 0 y v rfl rfl
theorem w0{r:Reach}{eT:Nat}{t:TypeId}{v:Value}{d:DataW H}{p:List MemPlace}(hk:lJ P t=true)(aL:Value.okWide P W r eT t v)(h:DataW.Trod enc P W base sp held t v d p):
  ∃x,(∃ys,x=ik P t ys∧gM P t ys∧(ke P t=true∨ys.length=1))∧aK (BO W) x v:=by
 obtain⟨x,h1,h2,_⟩:=aA1 hk aL h;exact⟨x,h1,h2⟩
theorem Ge{f:FuncId}{xs:List I}{args:Array Value}(h:aY P f xs [] (.bool true))(aD:r4 (BO W) xs args):Calls P f args W fun e zc=>e=.returned (.bool true)∧Below W.heap.size W zc:=
 (h (BO W) args (aHC W) aD).mono fun e zc ⟨c',x,v,H',ar,au,_,bE,cE,h8,_⟩=>by
  subst h8;refine⟨by rw[ar,cE.ra],?_⟩
  subst au;exact⟨bE.os,bE.tape,bE.output,bE.size,fun k hk=>(bE.st k hk).2⟩
theorem Gj{c:Ctx}{xs:List I}{vs:List Value}(h:pn c xs vs):r4 c xs vs.toArray:=
 ⟨by simp[h.1],fun i x v J aL=>h.2 i x v J (by simpa using aL)⟩
theorem wR{c:Ctx}{x:I}{v:Value}{xs:List I}{vs:List Value}(h:aK c x v)(hs:pn c xs vs):pn c (x::xs) (v::vs):=RQ (C9 h) hs
theorem Gy{c:Ctx}:pn c [] []:=⟨rfl,fun i x v J=>by simp at J⟩
end
end
section
variable {P:Program}
def xM:List Nat->List I->a5->a5
 |p::ps,v::vs,α=>xM ps vs ((p,v)::α)
 |_,_,α=>α
theorem Rk{c:Ctx}{N:Nat}:∀(ps:List Nat) (us:List Value) (vs:List I) (α:a5) (ts:Array Value),us.length=vs.length->ps.length=vs.length->(∀p∈ps,p<N)->ts.size=N->
  (∀(i:Nat) (x:I) (v:Value),vs[i]?=some x->us[i]?=some v->aK c x v)->(∀t,aK c (look α t) (ts.getD t undef))->
  ((ps.zip us).foldl (fun tmps (t,a)=>tmps.setIfInBounds t a) ts).size=N∧∀t,aK c (look (xM ps vs α) t) (((ps.zip us).foldl (fun tmps (t,a)=>tmps.setIfInBounds t a) ts).getD t undef)
 |[],us,vs,α,ts,_,_,_,hc,_,h=>by simp only[List.zip_nil_left,Bc];exact⟨hc,by cases vs<;>exact h⟩
 |p::ps,[],vs,α,ts,h1,h2,_,_,_,_=>by simp at h1 h2;omega
 |p::ps,u::us,[],α,ts,h1,_,_,_,_,_=>by simp at h1
 |p::ps,u::us,v::vs,α,ts,h1,h2,ae,hc,ax,h=>by
  simp only[List.zip_cons_cons,nZ,xM];refine Rk ps us vs ((p,v)::α) (ts.setIfInBounds p u) (by simpa using h1) (by simpa using h2) (fun q aS=>ae q (by simp[aS])) (by simpa using hc) (fun i x w a b=>ax (i+1) x w (by simpa using a) (by simpa using b)) fun t=>?_
  have ak:p<ts.size:=by rw[hc];exact ae p (by simp)
  simp only[look];by_cases wH:p=t
  ·subst wH;simp only[beq_self_eq_true,cond_true];have:=ax 0 v u rfl rfl;simpa[ak]using this
  ·have aa:(p==t)=false:=by simp[wH]
   rw[aa,qi];simp_all
def ug(i:Nat)(fT:bu)(fin:Bool->Option Code->bu)(eI:ab)(R:I->ab->Prop)(go:Bool)(h5:Option Code)(H:ab):Prop:=
 ao H i=fT∧∃H1 L,H=H1++L∧H1.length=eI.length∧(∀(j:Nat) (b:bu),H1[j]?=some b->eI[j]?=some b∨dp eI.length b)∧R (.bool go) (ai H1 i (fin go h5))
def DB(i:Nat)(fT:bu)(fin:Bool->Option Code->bu)(eI:ab)(R:I->ab->Prop):dU
 |.normal,_,H=>ug i fT fin eI R true none H
 |.ret,_,H=>ug i fT fin eI R false (some .ret) H
 |.exit id,_,H=>ug i fT fin eI R false (some (.exit id)) H
 |_,_,_=>False
def LN(P:Program)(N i:Nat)(dX:Code)(vO fT:bu)(fin:Bool->Option Code->bu)(eI:ab)(R:I->ab->Prop):dU
 |.normal,β,H=>ao H i=vO∧di P N dX (DB i fT fin (ai eI i fT) R) β (ai H i fT)
 |_,_,_=>False
section
variable (N i:Nat) (dX:Code) (vO fT:bu) (fin:Bool->Option Code->bu) (eI:ab) (R:I->ab->Prop) (β:a5) (H:ab)
@[go_sem] theorem aMU:DB i fT fin eI R .normal β H=ug i fT fin eI R true none H:=rfl
@[go_sem] theorem aOU:DB i fT fin eI R .ret β H=ug i fT fin eI R false (some .ret) H:=rfl
@[go_sem] theorem aNT(id:Nat):DB i fT fin eI R (.exit id) β H=ug i fT fin eI R false (some (.exit id)) H:=rfl
@[go_sem] theorem aMK:LN P N i dX vO fT fin eI R .normal β H=(ao H i=vO∧di P N dX (DB i fT fin (ai eI i fT) R) β (ai H i fT)):=rfl
end
theorem bA.loop{c:Ctx}{H:ab}(h:bA c H){i l N:Nat}{α:a5}{st:LoopState}{h5:Option Code}{ps:Array Tmp}{gy dX:Code}(ah:ao H i=.loop l α N st h5 ps gy dX):
  i<c.n∧c.bg i=0∧c.dR i=false∧c.aE i=l∧∃fn D ts,c.w.heap[l]?=some (.loop {state:=st,pending:=h5,fn:=fn,tmps:=ts,params:=ps,assign:=gy,body:=dX,defers:=D})∧ts.size=N∧∀t,aK c (look α t) (ts.getD t undef):=by
 have hs:=kd ah trivial;refine⟨by rw[h.n];exact c8 ah trivial,?_⟩
 cases h.rep i _ hs with
 |loop _ _ _ _ _ _ _ _ fn D ts aL hd hl aa hc ax=>grind
theorem Lr{c:Ctx}{H:ab}(h:bA c H){i l N:Nat}{α:a5}{st:LoopState}{h5:Option Code}{ps:Array Tmp}{gy dX:Code}(ah:ao H i=.loop l α N st h5 ps gy dX)(Dn:LoopState)(Dc:Option Code){fn D:Nat}{ts:Array Value}
  (aa:c.w.heap[l]?=some (.loop {state:=st,pending:=h5,fn:=fn,tmps:=ts,params:=ps,assign:=gy,body:=dX,defers:=D})):
  Ext c {c with w:=c.w.putObj l (.loop {state:=Dn,pending:=Dc,fn:=fn,tmps:=ts,params:=ps,assign:=gy,body:=dX,defers:=D})}∧
  bA {c with w:=c.w.putObj l (.loop {state:=Dn,pending:=Dc,fn:=fn,tmps:=ts,params:=ps,assign:=gy,body:=dX,defers:=D})} (ai H i (.loop l α N Dn Dc ps gy dX)):=by
 obtain⟨bS,aL,hd,hl,aSb,Qm,aS6,fQ,hc,ax⟩:=h.loop ah;rw[aa]at fQ;cases fQ;have iW:=kd ah trivial;have ak:=(qg.1 aa).1;let o:Obj:=.loop {state:=Dn,pending:=Dc,fn:=fn,tmps:=ts,params:=ps,assign:=gy,body:=dX,defers:=D}
 have oi:(c.w.putObj l o).heap[c.aE i]?=some o:=by grind [World.putObj_heap_same]
 have kB:∀b,b≠c.aE i->(c.w.putObj l o).heap[b]?=c.w.heap[b]?:=fun b aP=>World.putObj_heap_other (by rw[<-hl];exact aP)
 have qq:bsize (c.w.putObj l o) (c.aE i)=bsize c.w (c.aE i):=by
  unfold bsize;rw[oi,hl,aa]
 have J:Ext c {c with w:=c.w.putObj l o}:=by
  refine⟨bk _,by simp,fun b fQ=>⟨fQ,kB b fun e=>(h.st b fQ).2 i _ iW trivial hd e.symm⟩,fun _ _=>bk _,fun j aw _=>⟨rfl,rfl,fun _=>?_⟩,rfl,rfl,rfl,rfl⟩
  by_cases e:c.aE j=c.aE i
  ·simp only[e];exact qq
  ·simp only[bsize];rw[kB _ e]
 exact h.update (B':=.loop l α N Dn Dc ps gy dX) iW trivial hd (c.w.putObj l o) (by simp) kB qq rfl rfl rfl (.loop l α N Dn Dc ps gy dX fn D ts aL hd hl oi hc fun t=>(ax t).mono J)
theorem LA{l N i:Nat}{α:a5}{ps:Array Tmp}{gy dX:Code}{vs:List I}{H:ab}{R:I->ab->Prop}{vO:bu}(aJv:ao H i=vO)(NS:vO=.loop l α N .ready none ps gy dX)(nG:ps.size=vs.length)(aKd:(ps.toList.all fun p=>Nat.blt p N)=true)
  (aJm:tb gy=true) (aJn:tb dX=true) (h:∀(fT:bu) (fin:Bool->Option Code->bu),fT=.loop l α N .busy none ps gy dX->fT.live->(fin true none=vO)->(∀go h5,fin go h5=.loop l α N (bif go then .ready else .done) h5 ps gy dX)->
   di P N gy (LN P N i dX vO fT fin H R) (xM ps.toList vs α) H):vL P l vs H R:=by
 have ah:ao H i=.loop l α N .ready none ps gy dX:=aJv.trans NS;replace h:=h _ (fun go h5=>.loop l α N (bif go then .ready else .done) h5 ps gy dX) rfl trivial NS.symm (fun _ _=>rfl)
 intro c us av ⟨JK,aKz⟩;obtain⟨bS,aL,hd,hl,fn,D,ts,aa,hc,ax⟩:=av.loop ah;refine⟨fn,_,gy,dX,run_yield aa (by simp;omega),roundIn_of_wpIn (F:=Fence.wide) (n:=0) trivial ?_⟩
 obtain⟨hsz,u3⟩:=Rk (c:=c) (N:=N) ps.toList us.toList vs α ts (by simpa using JK) (by simpa using nG) (fun p ae=>by have:=gT.1 aKd p ae;simpa[Nat.blt_eq]using this) hc (fun i x v a b=>aKz i x v a (by simpa using b)) ax
 have aJo:(ps.zip us).foldl (fun tmps (t,a)=>tmps.setIfInBounds t a) ts=(ps.toList.zip us.toList).foldl (fun tmps (t,a)=>tmps.setIfInBounds t a) ts:=by
  rw[<-Array.foldl_toList,Array.toList_zip]
 rw[<-aJo]at hsz u3;have al:bA (c.mw c.w.heap.size) H:=av.mw _;have aD:ko (c.mw c.w.heap.size) N (xM ps.toList vs α) {tmps:=(ps.zip us).foldl (fun tmps (t,a)=>tmps.setIfInBounds t a) ts,defers:=[]}:=
  ⟨hsz,⟨bk _,[],rfl,by simp,by simp⟩,fun t=>(u3 t).mw _⟩
 refine wpIn_mono (h (some l) (c.mw c.w.heap.size) _ (.inr aJm) al aD) fun e oP qc ⟨cc,β,H1,ar,au,bd,bE,cE⟩=>?_
 cases e<;>simp only[LN]at cE<;>try exact cE.elim
 obtain⟨Fm,aI6⟩:=cE;rw[NS]at Fm;subst ar;obtain⟨_,_,_,_,aSc,xw,aS7,gB, -, -⟩:=au.loop Fm;obtain⟨fr,s1⟩:=Lr au Fm .busy none gB;refine⟨_,run_beginRound gB rfl,?_⟩;refine wpIn_mono (aI6 (some l) _ oP (.inr aJn) s1 (bE.mono fr)) fun e UW XN ⟨cI,D0,y6,aZ,a7,ch,fc,tm⟩=>?_
 have key:∀(jump:Option Code),ug i (.loop l α N .busy none ps gy dX) (fun go h5=>.loop l α N (bif go then .ready else .done) h5 ps gy dX) (ai H i (.loop l α N .busy none ps gy dX)) R jump.isNone jump y6->
   ∃v w',(Instr.endRound l jump).run P cI.w=.ok v w'∧∃c' x u H',Ending.returned v=.returned u∧c'.w=w'∧bA c' H'∧Ext c c'∧aK c' x u∧R x H':=by
  rintro jump ⟨Jr,y7,L,rfl,hlen,eM,e2⟩;have hlen:y7.length=H.length:=by simpa[ai]using hlen
  have aJR:(ai H i (.loop l α N .busy none ps gy dX)).length=H.length:=by simp[ai]
  have aL8:=(bd.trans fr).trans ch;have tw:(c.mw c.w.heap.size).n=H.length:=al.n;have yf:dp H.length (.loop l α N .busy none ps gy dX):=by
   have:=av.EL (kd ah trivial);rw[av.n]at this;exact this
  have VN:bA (cI.drop H.length) y7:=bA.ER hlen.symm a7 fun j b aw=>by
   rcases eM j b aw with q|q
   ·by_cases hW:j=i
    ·subst hW;rw[ai,oI (c8 ah trivial)]at q;cases q;exact yf
    ·rw[ai,gS (fun e=>hW e.symm)]at q
     have:=av.EL q;rwa[av.n]at this
   ·rwa[aJR]at q
  have tE:ao y7 i=.loop l α N .busy none ps gy dX:=by
   have ak:i<y7.length:=by rw[hlen];exact c8 ah trivial
   simpa[ao,eP,iC ak]using Jr
  obtain⟨_,_,_,_,aSd,y4,aS8,kf, -, -⟩:=VN.loop tE;obtain⟨dZ,s2⟩:=Lr VN tE (if jump.isNone then .ready else .done) jump kf
  have Ws:(if jump.isNone=true then LoopState.ready else LoopState.done)=bif jump.isNone then .ready else .done:=by cases jump<;>rfl
  have yU:=(aL8.U1 (n:=H.length) (by rw[tw];exact bk _)).trans dZ
  refine⟨_,_,run_endRound jump kf,({cI.drop H.length with w:=_}:Ctx).mw c.base,.bool jump.isNone,_,_,rfl,rfl,s2.mw _,?_,.bool _,Ws▸e2⟩
  exact⟨yU.n,yU.size,yU.st,yU.bg,yU.aE,yU.os,yU.tape,yU.output,rfl⟩
 subst aZ;cases e<;>simp only[DB]at tm<;>try exact tm.elim
 ·exact key none tm
 ·exact key (some (.exit _)) tm
 ·exact key (some .ret) tm
def aCZ(i l:Nat)(α:a5)(N:Nat)(ps:Array Tmp)(gy dX:Code)(Q:dU)(H:ab):Prop:=
 (∃st,st≠.busy∧ao H i=.loop l α N st none ps gy dX∧∀X,Q .normal α (ai H i X))∨
 (ao H i=.loop l α N .done (some .ret) ps gy dX∧∀X,Q .ret α (ai H i X))∨
 (∃id,ao H i=.loop l α N .done (some (.exit id)) ps gy dX∧∀X,Q (.exit id) α (ai H i X))
theorem PW{N:Nat}{g:Operand}{ps:Array Tmp}{gy dX:Code}{Q:dU}{α:a5}{H:ab}{EW:Nat}{O3:List I}(aJ:bb α g=.func (.func EW) [] O3)(bl:lx P EW=true)
  (h:∀l fT,fT=bu.loop l α N .ready none ps gy dX->c5 P EW (.func (.yield l) [] []::O3) (H++[fT]) (fun _ H'=>aCZ H.length l α N ps gy dX Q H')):di P N (.rangeFunc g ps gy dX) Q α H:=by
 intro r c a ax av aD;have aKm:r=none:=ax.resolve_right (by simp[tb])
 subst aKm;refine wpIn_rangeFunc fun fn _=>?_
 have mJ:=Tr aD g;rw[aJ]at mJ;generalize zY:a.eval g=vg at mJ;cases mJ with
 |func _ _ _ v1 v2 cH cO FH o8=>
  obtain rfl:v1= #[]:=Array.eq_empty_of_size_eq_zero cH;let Xi:Obj:=.loop {state:=.ready,pending:=none,fn:=fn,tmps:=a.tmps,params:=ps,assign:=gy,body:=dX,defers:=c.w.heap.size}
  let cc:Ctx:=c.fix (.deferred (some []))
  have s1:bA cc H:=av.fix _;have fr:Ext c cc:=Ext.fix av _;have aKu:cc.w.heap.size=c.w.heap.size+1:=by simp[cc,Ctx.fix]
  have dq:=aD.mono fr;let cI:Ctx:=cc.push Xi
  have dZ:Ext cc cI:=Ext.push s1 _ 0;have s2:bA cI (H++[.loop cc.w.heap.size α N .ready none ps gy dX]):=by
   refine s1.push Xi 0 (.loop _ α N .ready none ps gy dX fn c.w.heap.size a.tmps (by simp[Ctx.push]) (by simp[Ctx.push]) (by simp[Ctx.push]) ?_ dq.size fun t=>(dq.rep t).mono dZ)
   simp only[Ctx.push,dI];exact pg _ _
  have qp:cI.w.heap[c.w.heap.size]?=some (.deferred (some [])):=by
   have h1:cc.w.heap[c.w.heap.size]?=some (.deferred (some [])):=pg _ _;exact((dZ.st _ (.inr rfl)).2).trans h1
  have fi:r4 cI (.func (.yield cc.w.heap.size) [] []::O3) (#[.func (.yield cc.w.heap.size) #[] #[]]++v2):=by
   refine⟨by simp[cO];omega,fun j x v aZ a7=>?_⟩
   cases j with
   |zero=>
    rw[A7 (by simp)]at a7
    cases aZ;cases a7;exact .func _ [] [] _ _ rfl rfl (by simp) (by simp)
   |succ j=>
    rw[Hj (by simp)]at a7
    rw[vz]at aZ;exact((o8 j x v aZ (by simpa using a7)).mono fr).mono dZ
  have aI8:=h cc.w.heap.size _ rfl cI _ s2 fi;refine⟨cc.w.heap.size,[{target:=.collected c.w.heap.size,args:= #[]}],cI.w,{target:=.fn (.func EW) v2,args:= #[.func (.yield cc.w.heap.size) #[] #[]]},cI.w,EW, #[.func (.yield cc.w.heap.size) #[] #[]]++v2,cI.w,?_,?_,fun _ _=>trivial,?_,fun h=>(by cases h),?_⟩
  ·have:=run_enterLoop_outer (P:=P) (w:=c.w) fn a.tmps ps gy dX;rw[aKu];exact this
  ·simp only[resolve,zY];simp[go_sem,Deferred.ofValue]
  ·simp[invoke,go_sem];simpa using Ay bl _ _
  ·refine(callsIn_wide (n:=0)).2 (aI8.mono ?_);rintro e ee ⟨gZ,x,v,y7,rfl,rfl,l3,gh, -,aa⟩;have dO:ko gZ N α {a with defers:=[{target:=.collected c.w.heap.size,args:= #[]}]++a.defers}:=by
    have m:=((aD.mono fr).mono dZ).mono gh;obtain⟨da,nq,e,ag,cD⟩:=m.defers;obtain⟨C2,D1,ku,Aa,Vo⟩:=aD.defers;have pS:gZ.base=c.base:=(gh.base.trans dZ.base).trans fr.base;have aJy:nq=D1:=by
     have:=e.symm.trans ku;clear cD Vo ag Aa e ku m;induction nq generalizing D1 with
     |nil=>cases D1 with
      |nil=>rfl
      |cons _ _=>simp at this
     |cons d nq ay=>cases D1 with
      |nil=>simp at this
      |cons d' D1=>simp at this;rw[this.1,ay _ (by simpa using this.2)]
    subst aJy;refine⟨m.size,⟨da,c.w.heap.size::nq,by simp[e],r1.2 ⟨fun hm=>?_,ag⟩,fun D hm=>?_⟩,m.rep⟩
    ·have:=(qg.1 (Vo _ hm).2.2).1;omega
    ·rcases c7.1 hm with rfl|hm
     ·exact⟨by rw[pS];exact C2,(gh.st _ (dZ.st _ (.inr rfl)).1).1,((gh.st _ (dZ.st _ (.inr rfl)).1).2).trans qp⟩
     ·exact cD D hm
   have done:∀(st:LoopState) (h5:Option Code),st≠.busy->ao y7 H.length=.loop cc.w.heap.size α N st h5 ps gy dX->
     ∃mZ:Ctx,(Instr.endLoop cc.w.heap.size).run P gZ.w=.ok h5 mZ.w∧bA mZ (ai y7 H.length (.loop cc.w.heap.size α N .exhausted h5 ps gy dX))∧Ext c mZ∧ko mZ N α {a with defers:=[{target:=.collected c.w.heap.size,args:= #[]}]++a.defers}:=by
    intro st h5 tu tE;obtain⟨_,_,_,_,aSe,Qn,aS9,VG, -, -⟩:=l3.loop tE;obtain⟨vx,AR⟩:=Lr l3 tE .exhausted h5 VG;exact⟨_,run_endLoop VG tu,AR,((fr.trans dZ).trans gh).trans vx,dO.mono vx⟩
   rcases aa with⟨st,aI7,tE,aS⟩|⟨tE,aS⟩|⟨id,tE,aS⟩
   ·obtain⟨mZ,aQ,aO,bF,c9⟩:=done st none aI7 tE;exact⟨none,mZ.w,aQ,mZ,α,_,rfl,aO,bF,c9,aS _⟩
   ·obtain⟨mZ,aQ,aO,bF,c9⟩:=done .done _ (by simp) tE
    exact⟨some .ret,mZ.w,aQ,wpIn_ret ⟨mZ,α,_,rfl,aO,bF,c9,aS _⟩⟩
   ·obtain⟨mZ,aQ,aO,bF,c9⟩:=done .done _ (by simp) tE
    exact⟨some (.exit id),mZ.w,aQ,wpIn_exit ⟨mZ,α,_,rfl,aO,bF,c9,aS _⟩⟩
theorem Po{l:Nat}{args:List I}{H:ab}{R K:I->ab->Prop}(h:vL P l args H R)(hk:∀v H',R v H'->K v H'):pd P (.func (.yield l) [] []) args H K:=h.mono hk
theorem MQ{N:Nat}{code:Code}{Q:dU}{α:a5}{H:ab}(β:a5)(hs:xR β α)(h:di P N code Q β H):di P N code Q α H:=Kw h (Av hs)
theorem Hy{n i v:Nat}{H:ab}{cs:List I}(ag:n<=i)(ah:ao H i=.cells v cs)(al:∀x∈cs,cX n x):cQ n H (.ref i v 0) (.cptr cs):=
 .ref i v 0 cs cs ag ah (by omega) fun j x y J aG=>by
  rw[mC,aG]at J;cases J;exact .cl _ (al _ (df aG))
theorem dV{n:Nat}{H:ab}{a b:I}{cs bc:List I}(h:cQ n H a b)(hs:∀(i:Nat) (x y:I),cs[i]?=some x->bc[i]?=some y->cQ n H x y):∀(i:Nat) (x y:I),(a::cs)[i]?=some x->(b::bc)[i]?=some y->cQ n H x y
 |0,x,y,J,aG=>by grind
 |i+1,x,y,J,aG=>hs i x y (by simpa using J) (by simpa using aG)
theorem gY{n:Nat}{H:ab}:∀(i:Nat) (x y:I),([]:List I)[i]?=some x->([]:List I)[i]?=some y->cQ n H x y:=fun _ _ _ h=>by simp at h
theorem bz{G:ab}{i:Nat}{b:bu}(h:ao G i=b)(aa:b.live):∀L,ao (G++L) i=b:=fun L=>bQ h aa L
theorem jI{G:ab}{i:Nat}{b:bu}(h:ao G i=b)(aa:b.live):∀L c,ai (G++L) i c=ai G i c++L:=fun L c=>gW (c8 h aa) L c
theorem aX(H:ab)(i:Nat)(b:bu):(ai H i b).length=H.length:=by simp[ai]
theorem bM{H:ab}{i j:Nat}{x:bu}(h:ao H j=x)(ag:i≠j)(b:bu):ao (ai H i b) j=x:=by
 rw[<-h];simp[ao,ai,eP,gS ag]
theorem dT{H:ab}{i:Nat}(h:i<H.length)(b:bu):ao (ai H i b) i=b:=by
 simp[ao,ai,eP,h]
theorem pI{H:ab}{i n:Nat}{b:bu}(aa:dp n b):∀(j:Nat) (c:bu),(ai H i b)[j]?=some c->H[j]?=some c∨dp n c:=fun j c h=>by
 by_cases e:i=j
 ·subst e;by_cases ak:i<H.length
  ·grind [ai,oI]
  ·rw[ai,yW (by simp;omega)]at h;cases h
 ·grind [ai,gS]
theorem iQ(H:ab)(i:Nat)(b c:bu):ai (ai H i b) i c=ai H i c:=by simp[ai]
theorem tj(H:ab){i j:Nat}(b c:bu)(h:i≠j):ai (ai H i b) j c=ai (ai H j c) i b:=by simp only[ai];exact List.set_comm _ _ h
theorem kr{H:ab}{i:Nat}{b:bu}(h:ao H i=b)(aa:b.live):ai H i b=H:=MJ (kd h aa)
def Ig(K:a5->ab->Prop)(Q:dU):dU
 |.normal,α,H=>K α H
 |e,α,H=>Q e α H
def qx(P:Program)(N:Nat)(body:Code)(Q:dU):Nat->a5->ab->Prop
 |0,_,_=>False
 |m+1,α,H=>di P N body (Ig (qx P N body Q m) Q) α H
section
variable (K:a5->ab->Prop) (Q:dU) (α:a5) (H:ab)
@[go_sem] theorem aM6:Ig K Q .normal α H=K α H:=rfl
@[go_sem] theorem aPb:Ig K Q .ret α H=Q .ret α H:=rfl
@[go_sem] theorem aOV(i:Nat):Ig K Q (.exit i) α H=Q (.exit i) α H:=rfl
end
theorem tk{N:Nat}{body:Code}{Q:dU}{α:a5}{H:ab}(m:Nat)(h:qx P N body Q m α H):di P N (.loop body) Q α H:=by
 intro r c a ax hs aD;refine wpIn_loop_rounds m ?_;have key:∀m α H c' a,qx P N body Q m α H->bA c' H->Ext c c'->ko c' N α a->Code.roundsIn (wf r) 0 P body (fun e gx w'=>∃c' c1 H',c'.w=w'∧bA c' H'∧Ext c c'∧ko c' N c1 gx∧Q e c1 H') m a c'.w:=by
  intro m;induction m with
  |zero=>intro α H c' a h;exact h.elim
  |succ m ay=>
   intro α H c' a h hs J aD;refine wpIn_mono (h r c' a ax hs aD) fun e gx w' ⟨cI,c1,H',ar,au,bd,bE,cE⟩=>?_
   subst ar;cases e with
   |normal=>exact ay _ _ _ _ cE au (J.trans bd) bE
   |exit id=>exact⟨cI,c1,H',rfl,au,J.trans bd,bE,cE⟩
   |goto l=>exact⟨cI,c1,H',rfl,au,J.trans bd,bE,cE⟩
   |ret=>exact⟨cI,c1,H',rfl,au,J.trans bd,bE,cE⟩
   |panic EK=>exact⟨cI,c1,H',rfl,au,J.trans bd,bE,cE⟩
   |outgrown=>exact⟨cI,c1,H',rfl,au,J.trans bd,bE,cE⟩
 exact key m α H c a h hs (Ext.refl c) aD
theorem all_nil{α:Type}{p:α->Prop}:∀x∈([]:List α),p x:=fun _ h=>by cases h
theorem all_cons{α:Type}{p:α->Prop}{a:α}{l:List α}(h:p a)(hs:∀x∈l,p x):∀x∈a::l,p x:=List.forall_mem_cons.2 ⟨h,hs⟩
theorem Z0{n v:Nat}{cs:List I}(h:∀x∈cs,cX n x):dp n (.cells v cs):=h
theorem aFU{n:Nat}{cs:List I}(h:∀x∈cs,cX n x):cX n (.agg cs):=.agg _ fun _ x J=>h x (df J)
theorem aFV{n:Nat}{cs:List I}(h:∀x∈cs,cX n x):cX n (.a0 cs):=.a0 _ fun _ x J=>h x (df J)
theorem aC0{n:Nat}{f:Fn}{fs cs:List I}(h1:∀x∈fs,cX n x)(h2:∀x∈cs,cX n x):cX n (.func f fs cs):=.func _ _ _ (fun _ x J=>h1 x (df J)) (fun _ x J=>h2 x (df J))
theorem aC1{n:Nat}{cs:List I}(h:∀x∈cs,cX n x):cX n (.cptr cs):=.cptr _ fun _ x J=>h x (df J)
theorem wT{H M:ab}{n:Nat}(h:∀b∈M,dp n b):∀(i:Nat) (b:bu),(H++M)[i]?=some b->H[i]?=some b∨dp n b:=fun i b hi=>by
 grind
theorem sH{f:I}{args:List I}{H:ab}{x:I}{k:I->ab->Prop}(h:h6 P f args H (fun r G=>r=x∧G=H))(hk:k x H):pd P f args H k:=
 h.mono fun _ _ ⟨ar,au⟩=>by rw[ar,au];exact hk
end
end Go.Proofs.YthafnbmdmfoobaaGreatDoor
