/- What the functions of this seat answer (4 of 38). No condition. -/
import Derived.Test.YtennnelammaapaaGreatDoorWorkAC
import Derived.Scope
import Derived.KernelRfl
import Derived.WalkKit
import Derived.ProofKit
import Derived.OpenShut
import Derived.ShutString
import Derived.ChangeOld
import Derived.Below
import Derived.Carry
import Derived.RangeFuncIn
import Derived.LoopNIn
set_option linter.unusedSimpArgs false
set_option linter.unusedVariables false
set_option linter.unusedSectionVars false
set_option maxRecDepth 100000
set_option maxHeartbeats 16000000
namespace Go.Proofs.YtennnelammaapaaGreatDoor
section
variable {P:Program}
inductive Ok:AV→Prop
 |int (k:IntKind) (n:Int) (h:inR k n):Ok (.int k n)
 |bool (b:Bool):Ok (.bool b)
 |str (s:List UInt8) (h:s.length≤9223372036854775807):Ok (.str s)
 |agg (cs:List AV) (h:∀x∈cs,Ok x):Ok (.agg cs)
 |tup (cs:List AV) (h:∀x∈cs,Ok x):Ok (.tup cs)
 |sl (f:Bool) (es:List AV) (hl:es.length≤9223372036854775807) (h:∀e∈es,∀x∈e.cells,Ok x):Ok (.sl f es)
 |cptr (cs:List AV):Ok (.cptr cs)
 |ref (i v off:Nat):Ok (.ref i v off)
 |osl (s i v off len lc:Nat) (h:lc≤9223372036854775807):Ok (.osl s i v off len lc)
 |nilptr:Ok .nilptr
 |map (i:Nat):Ok (.map i)
 |nilmap:Ok .nilmap
 |iter (i:Nat):Ok (.iter i)
 |func (fn:Fn) (fs cs:List AV):Ok (.func fn fs cs)
 |nilfunc:Ok .nilfunc
 |iface (t:TypeId) (x:AV) (h:Ok x):Ok (.iface t x)
 |nilIface:Ok .nilIface
 |opt (g:Bool) (x:AV) (h:g=true→Ok x):Ok (.opt g x)
 |top:Ok .top
theorem nC{α:Type}{l:List α}{x:α}(h:x∈l):∃i:Nat,l[i]?=some x:=by
 obtain⟨i,hi,he⟩:=List.getElem_of_mem h;exact⟨i,by rw[zAb hi,he]⟩
theorem Rep.ok{c:Ctx}{x:AV}{v:Value}(h:Rep c x v):Ok x:=by
 induction h with
 |int k n h=>exact .int k n h
 |bool b=>exact .bool b
 |str s h=>exact .str s h
 |agg cs vs hl _ ih=>exact .agg cs fun x hx=>let⟨i,hi⟩:=nC hx;let⟨v,hv⟩:=iY hl hi;ih i x v hi hv
 |tup cs vs hl _ ih=>exact .tup cs fun x hx=>let⟨i,hi⟩:=nC hx;let⟨v,hv⟩:=iY hl hi;ih i x v hi hv
 |sl full es base len cap s vs hlen _ _ _ _ _ hmax ih=>exact .sl full es (by omega) fun e he x hx=>let⟨k,hk⟩:=nC he;let⟨j,hj⟩:=nC hx;ih k e j x hk hj
 |cptr cs=>exact .cptr cs
 |ref i v off=>exact .ref i v off
 |osl s i v off len lc val _ _ _ h=>exact .osl s i v off len lc h
 |nilptr=>exact .nilptr
 |map i=>exact .map i
 |nilmap=>exact .nilmap
 |iter i=>exact .iter i
 |func fn fs cs=>exact .func fn fs cs
 |nilfunc=>exact .nilfunc
 |iface t x _ _ ih=>exact .iface t x ih
 |nilIface=>exact .nilIface
 |opt g x _ _ _ ih=>exact .opt g x ih
 |top=>exact .top
theorem aRL{k:IntKind}{n:Int}(h:Ok (.int k n)):inR k n:=by cases h;assumption
theorem aRM{n:Int}(h:Ok (.int .i64 n)): -9223372036854775808≤n∧n≤9223372036854775807:=aGx.1 (aRL h)
theorem aRN{cs:List AV}(h:Ok (.agg cs)):∀x∈cs,Ok x:=by cases h;assumption
theorem jQ{f:Bool}{es:List AV}(h:Ok (.sl f es)):es.length≤9223372036854775807:=by cases h;assumption
theorem RepAll.ok{c:Ctx}{xs:List AV}{vs:Array Value}(h:RepAll c xs vs):∀x∈xs,Ok x:=fun x hx=>
 let⟨i,hi⟩:=nC hx
 let⟨v,hv⟩:=iY h.1 hi
 (h.2 i x v hi hv).ok
theorem aHZ{f:FuncId}{args:List AV}{H:AHeap}{R:AV→AHeap→Prop}(h:(∀x∈args,Ok x)→ACalls P f args H R):ACalls P f args H R:=
 fun c vs hs ha=>h ha.ok c vs hs ha
theorem aFa{f:FuncId}{args:List AV}{H:AHeap}{x:AV}(h:(∀x∈args,Ok x)→bH P f args H x):bH P f args H x:=aHZ h
theorem aAj{f:FuncId}{a:AV}{H:AHeap}{x:AV}(h:Ok a→bH P f [a] H x):bH P f [a] H x:=aFa fun k=>h (k _ (by simp))
theorem fP{f:FuncId}{a b:AV}{H:AHeap}{x:AV}(h:Ok a→Ok b→bH P f [a,b] H x):bH P f [a,b] H x:=aFa fun k=>h (k _ (by simp)) (k _ (by simp))
theorem aNK{f:FuncId}{a b d:AV}{H:AHeap}{x:AV}(h:Ok a→Ok b→Ok d→bH P f [a,b,d] H x):bH P f [a,b,d] H x:=aFa fun k=>h (k _ (by simp)) (k _ (by simp)) (k _ (by simp))
def aCK(Q:bL):bL
 |.goto _,_,_=>False
 |e,α,H=>Q e α H
section
variable (Q:bL) (α:AF) (H:AHeap)
@[go_sem] theorem aMU:aCK Q .normal α H=Q .normal α H:=rfl
@[go_sem] theorem aRO:aCK Q .ret α H=Q .ret α H:=rfl
@[go_sem] theorem aQm(i:Nat):aCK Q (.exit i) α H=Q (.exit i) α H:=rfl
end
theorem aFb{F:Fence}{n:Nat}{c:Code}{Q:Exit→Act→World→Prop}{a:Act}{w:World}(h:c.wpIn F n P (Exit.noGoto Q) a w):(Code.scope c).wpIn F n P Q a w:=by
 intro b k cs hro hb hr;have h0:(lone (b.atR a (.code (.scope c)::k)) cs w).fenced P F:=fenced_calm hb hr rfl;have s0:step P (lone (b.atR a (.code (.scope c)::k)) cs w)=.next (lone (b.atR a (.code c::.inScope c::k)) cs w):=step_lone_go (by simp[stepG,stepG.exec,Frame.atR])
 obtain⟨e,a₁,w₁,hq,harr⟩:=h b (.inScope c::k) cs hro hb hr;have s1:step P (lone (b.atR a₁ (.inScope c::k)) cs w₁)=.next (lone (b.atR a₁ k) cs w₁):=step_lone_go (by simp[stepG,stepG.exec,Frame.atR])
 cases e with
 |normal=>exact⟨.normal,a₁,w₁,hq,.head h0 s0 (StepsIn.trans harr (.one (fenced_calm hb hr rfl) s1))⟩
 |exit id=>exact⟨.exit id,a₁,w₁,hq,fun k' hk=>.head h0 s0 (harr.1 k' (by simp[exitTo,hk])),fun hr' hk=>let⟨k₁,h1,h2⟩:=harr.2 hr' (by simp[exitTo,hk]);⟨k₁,h1,.head h0 s0 h2⟩⟩
 |goto l=>exact hq.elim
 |ret=>exact⟨_,a₁,w₁,hq,.of_steps (.one h0 s0) harr⟩
 |panic ch=>exact⟨_,a₁,w₁,hq,.of_steps (.one h0 s0) harr⟩
 |outgrown=>exact⟨_,a₁,w₁,hq,.of_steps (.one h0 s0) harr⟩
theorem aDL{N:Nat}{x:Code}{Q:bL}{α:AF}{H:AHeap}(h:aw P N x (aCK Q) α H):aw P N (.scope x) Q α H:=by
 intro r c a hr hs ha;refine aFb (wpIn_mono (h r c a hr hs ha) fun e a' w' ⟨c',α',H',e1,e2,e3,e4,e5⟩=>?_)
 cases e with
 |goto l=>exact e5.elim
 |_=>exact⟨c',α',H',e1,e2,e3,e4,e5⟩
theorem bU{f:FuncId}{first args cap:List AV}{H:AHeap}{x:AV}{k:AV→AHeap→Prop}(h:bH P f (first++args++cap) H x)(ok:dV P f=true)(hk:k x H):lN P (.func (.func f) first cap) args H k:=
 Or.inl ⟨ok,h.mono fun y H' ⟨e1,e2⟩=>by subst e1;subst e2;exact hk⟩
theorem gR{f:FuncId}{first args cap:List AV}{H:AHeap}{R:AV→AHeap→Prop}{k:AV→AHeap→Prop}(h:ACalls P f (first++args++cap) H R)(ok:dV P f=true)(hk:∀x H',R x H'→k x H'):lN P (.func (.func f) first cap) args H k:=
 Or.inl ⟨ok,h.mono hk⟩
theorem bV{g:Bool}{f:FuncId}{first args cap:List AV}{H:AHeap}{x:AV}{K:AV→Prop}(h:g=true→bH P f (first++args++cap) H x)(ok:dV P f=true)(hk:K x):lM P g (.func (.func f) first cap) args H K:=
 ⟨x,fun hg=>Or.inl ⟨ok,h hg⟩,hk⟩
theorem rC{f:AV}{args:List AV}{H:AHeap}{K:AV→Prop}(v:AV)(hk:K v):lM P false f args H K:=⟨v,(fun h=>by cases h),hk⟩
def FnV(P:Program)(f:AV)(args:List AV)(H:AHeap)(x:AV):Prop:=∀L,ACall P f args (H++L) (fun v H'=>v=x∧H'=H++L)
theorem FnV.mk{f:FuncId}{first args cap:List AV}{H:AHeap}{x:AV}(h:∀L,bH P f (first++args++cap) (H++L) x)(ok:dV P f=true):FnV P (.func (.func f) first cap) args H x:=
 fun L=>Or.inl ⟨ok,h L⟩
theorem aNL{f:AV}{args:List AV}{H L:AHeap}{x:AV}{k:AV→AHeap→Prop}(h:FnV P f args H x)(hk:k x (H++L)):lN P f args (H++L) k:=by
 exact(h L).mono fun y H' ⟨e1,e2⟩=>by subst e1;subst e2;exact hk
theorem kU{f:AV}{args:List AV}{H:AHeap}{x:AV}{k:AV→AHeap→Prop}(h:FnV P f args H x)(hk:k x H):lN P f args H k:=by
 have h1:=aNL (L:=[]) (k:=k) h (by rw[zAd];exact hk)
 rwa[zAd]at h1
theorem aD{H:AHeap}{i:Nat}{b:ABlk}(h:hget H i=b)(hb:b.live)(L:AHeap):hget (H++L) i=b:=by
 have hlt:=aV h hb;have h1:=cV h hb;simp only[hget,zAh];rw[zAt hlt,h1];rfl
theorem bD{H:AHeap}{i:Nat}(h:i<H.length)(L:AHeap)(b:ABlk):aB (H++L) i b=aB H i b++L:=by
 unfold aB;rw[List.set_append_left _ _ h]
end
section
variable {P:Program}
inductive Sim:AV→AV→Prop
 |refl (x:AV):Sim x x
 |sl (f:Bool) (es:List AV):Sim (.sl f es) (.sl false es)
 |agg (cs ds:List AV) (hl:cs.length=ds.length) (h:∀(i:Nat) (x y:AV),cs[i]?=some x→ds[i]?=some y→Sim x y):Sim (.agg cs) (.agg ds)
 |tup (cs ds:List AV) (hl:cs.length=ds.length) (h:∀(i:Nat) (x y:AV),cs[i]?=some x→ds[i]?=some y→Sim x y):Sim (.tup cs) (.tup ds)
 |iface (t:TypeId) (x y:AV) (h:Sim x y):Sim (.iface t x) (.iface t y)
 |top (x:AV):Sim x .top
theorem Sim.of{x y:AV}(h:x=y):Sim x y:=h▸.refl x
theorem dE:∀(i:Nat) (x y:AV),([]:List AV)[i]?=some x→([]:List AV)[i]?=some y→Sim x y:=fun _ _ _ h=>by simp at h
theorem aP{a b:AV}{cs ds:List AV}(h:Sim a b)(hs:∀(i:Nat) (x y:AV),cs[i]?=some x→ds[i]?=some y→Sim x y):∀(i:Nat) (x y:AV),(a::cs)[i]?=some x→(b::ds)[i]?=some y→Sim x y
 |0,x,y,hx,hy=>by grind
 |i+1,x,y,hx,hy=>hs i x y (by simpa using hx) (by simpa using hy)
theorem Rep.sim{c:Ctx}{x y:AV}(h:Sim x y):∀{v:Value},Rep c x v→Rep c y v:=by
 induction h with
 |refl x=>exact fun h=>h
 |sl f es=>intro v hr;cases hr with|sl _ _ base len cap s vs h1 h2 h3 h4 h5 h6 h7=>exact .sl false es base len cap s vs h1 h2 (fun h=>by cases h) h4 h5 h6 h7
 |agg cs ds hl _ ih=>
  intro v hr;cases hr with
  |agg _ vs h1 h2=>
   refine .agg ds vs (by omega) fun i y u hy hu=>?_
   grind
 |tup cs ds hl _ ih=>
  intro v hr;cases hr with
  |tup _ vs h1 h2=>
   refine .tup ds vs (by omega) fun i y u hy hu=>?_
   have hlt:=(eT.1 hy).1;have hx:cs[i]?=some (cs[i]'(by omega)):=zAb (by omega)
   exact ih i _ y hx hy (h2 i _ u hx hu)
 |iface t x y _ ih=>
  intro v hr;cases hr with
  |iface _ _ v' hv=>exact .iface t y v' (ih hv)
 |top x=>exact fun _=>.top _
theorem St.simCells{c:Ctx}{H:AHeap}(hst:St c H){i v:Nat}{cs ds:List AV}(hh:hget H i=.cells v cs)(hl:cs.length=ds.length)(hs:∀(i:Nat) (x y:AV),cs[i]?=some x→ds[i]?=some y→Sim x y):St c (aB H i (.cells v ds)):=by
 have hi:=cV hh trivial;have hlt:=aV hh trivial;have hget:∀{j:Nat} {b:ABlk},(aB H i (.cells v ds))[j]?=some b→(j=i∧b=.cells v ds)∨(j≠i∧H[j]?=some b):=by
  intro j b hj;by_cases e:j=i
  ·grind [aB,zAU]
  ·rw[aB,zAA (fun q=>e q.symm)]at hj
   exact .inr ⟨e,hj⟩
 have hget':∀{j:Nat} {b:ABlk},(aB H i (.cells v ds))[j]?=some b→b.live→∃b':ABlk,H[j]?=some b'∧b'.live:=by
  intro j b hj hb;rcases hget hj with⟨rfl,rfl⟩|⟨_,h⟩
  ·exact⟨_,hi,trivial⟩
  ·exact⟨_,h,hb⟩
 refine⟨by simp[aB,hst.n],hst.lt,fun j k b b' hj hk hb hb' dj dk he=>?_,fun k hk=>?_,fun j b hj=>?_⟩
 ·obtain⟨b1,g1,g2⟩:=hget' hj hb;obtain⟨b2,g3,g4⟩:=hget' hk hb';exact hst.inj j k b1 b2 g1 g3 g2 g4 dj dk he
 ·obtain⟨h1,h2⟩:=hst.st k hk;refine⟨h1,fun j b hj hb dj=>?_⟩
  obtain⟨b1,g1,g2⟩:=hget' hj hb;exact h2 j b1 g1 g2 dj
 ·rcases hget hj with⟨rfl,rfl⟩|⟨_,h⟩
  ·have hr:=hst.rep j _ hi;cases hr with
   |cells _ _ vs e fr q1 q2 q3 q4 q5 q6=>
    refine .cells _ _ vs e fr q1 q2 q3 (by omega) q5 fun m y u hy hu=>?_
    have hlt2:=(eT.1 hy).1;have hx:cs[m]?=some (cs[m]'(by omega)):=zAb (by omega)
    exact(q6 m _ u hx hu).sim (hs m _ y hx hy)
   |void _ q1 q2=>
    have:ds=[]:=zAE (by simpa using hl.symm)
    subst this;exact .void _ q1 q2
  ·exact hst.rep j b h
theorem aCL{N:Nat}{code:Code}{Q:bL}{α:AF}{H:AHeap}(i:Nat){v:Nat}{cs:List AV}(ds:List AV)(hh:hget H i=.cells v cs)(hl:cs.length=ds.length)(hs:∀(i:Nat) (x y:AV),cs[i]?=some x→ds[i]?=some y→Sim x y)(h:aw P N code Q α (aB H i (.cells v ds))):aw P N code Q α H:=
 fun r c a hr hst ha=>h r c a hr (hst.simCells hh hl hs) ha
theorem jR{N:Nat}{code:Code}{Q:bL}{α:AF}{H:AHeap}(t s:Nat)(hx:look α t=.sl true [])(h:aw P N code Q ((t,.osl s H.length 1 0 0 0)::α) (H++[.cells 1 []])):aw P N code Q α H:=by
 intro r c a hr hst ha;have hv:=Ext.void c;refine wpIn_mono (h r c.void a hr hst.void ⟨ha.size,ha.defers.mono hv,fun u=>?_⟩) fun _ _ _ ⟨c',α',H',e1,e2,e3,e4,e5⟩=>⟨c',α',H',e1,e2,hv.trans e3,e4,e5⟩
 rw[look];by_cases e:t=u
 ·subst e;rw[beq_self_eq_true,cond_true];have hr:=ha.rep t;rw[hx]at hr;generalize a.tmps.getD t undef=val at hr;cases hr with
  |sl _ _ base len cap s' vs h1 h2 h3 h4 h5 h6 h7=>
   have hcap:=h3 rfl;simp at h1;subst h1;subst hcap;exact .osl _ _ _ _ _ _ _ (by simp[Ctx.void,hst.n]) (by simp[Ctx.void,hst.n]) rfl (by omega) (fun _ _=>⟨rfl,rfl,base,rfl⟩) (fun _ hd=>by simp[Ctx.void,hst.n]at hd)
 ·have hb:(t==u)=false:=by simpa using e
  rw[hb,zCn];exact(ha.rep u).mono hv
inductive Pur:AV→Prop
 |int (k n):Pur (.int k n)
 |bool (b):Pur (.bool b)
 |str (s):Pur (.str s)
 |agg (cs:List AV) (h:∀x∈cs,Pur x):Pur (.agg cs)
 |tup (cs:List AV) (h:∀x∈cs,Pur x):Pur (.tup cs)
 |sl (f) (es:List AV) (h:∀x∈es,Pur x):Pur (.sl f es)
 |nilptr:Pur .nilptr
 |nilmap:Pur .nilmap
 |nilfunc:Pur .nilfunc
 |iface (t x) (h:Pur x):Pur (.iface t x)
 |nilIface:Pur .nilIface
 |top:Pur .top
theorem Pur.cells{x:AV}(h:Pur x):∀y∈x.cells,Pur y:=by
 grind [AV.cells,zAq,Pur]
theorem Pur.cl{x:AV}(h:Pur x)(n:Nat):Cl n x:=by
 induction h with
 |int k m=>exact .int k m
 |bool b=>exact .bool b
 |str s=>exact .str s
 |agg cs _ ih=>exact .agg cs fun i x hx=>ih x (zAp hx)
 |tup cs _ ih=>exact .tup cs fun i x hx=>ih x (zAp hx)
 |sl f es _ ih=>
  refine .sl f es fun k e j x hk hj=>?_
  have h1:=ih e (zAp hk);have key:∀e:AV,Cl n e→∀x∈e.cells,Cl n x:=by
   intro e he x hx;cases e with
   |agg cs=>cases he with|agg _ hh=>obtain⟨i,hi⟩:=nC hx;exact hh i x hi
   |_=>simp only[AV.cells,zAq]at hx;subst hx;exact he
  grind
 |nilptr=>exact .nilptr
 |nilmap=>exact .nilmap
 |nilfunc=>exact .nilfunc
 |iface t x _ ih=>exact .iface t x ih
 |nilIface=>exact .nilIface
 |top=>exact .top
section
variable (k:IntKind) (n:Int) (b f:Bool) (s:List UInt8) (cs:List AV) (t:TypeId) (x:AV)
def aFc(l:List AV):Prop:=∀x∈l,Pur x
section
variable {α:Type}
@[go_sem] theorem aXk(k:IntKind)(n:Int):Pur (.int k n)=True:=zAC (.int k n)
@[go_sem] theorem aWu(b:Bool):Pur (.bool b)=True:=zAC (.bool b)
@[go_sem] theorem aXl(s:List UInt8):Pur (.str s)=True:=zAC (.str s)
@[go_sem] theorem aWv:Pur .nilIface=True:=zAC .nilIface
@[go_sem] theorem aWw:Pur .nilptr=True:=zAC .nilptr
@[go_sem] theorem aWx:Pur .nilmap=True:=zAC .nilmap
@[go_sem] theorem aWy:Pur .nilfunc=True:=zAC .nilfunc
@[go_sem] theorem aXm(cs:List AV):Pur (.agg cs)=aFc cs:=propext ⟨fun h=>by cases h;assumption,.agg cs⟩
@[go_sem] theorem aXn(cs:List AV):Pur (.tup cs)=aFc cs:=propext ⟨fun h=>by cases h;assumption,.tup cs⟩
@[go_sem] theorem aYc(f:Bool)(cs:List AV):Pur (.sl f cs)=aFc cs:=propext ⟨fun h=>by cases h;assumption,.sl f cs⟩
@[go_sem] theorem aVo(t:TypeId)(x:AV):Pur (.iface t x)=Pur x:=propext ⟨fun h=>by cases h;assumption,.iface t x⟩
@[go_sem] theorem aWz:aFc []=True:=zAC fun _ h=>by cases h
@[go_sem] theorem aVp(x:AV)(l:List AV):aFc (x::l)=(Pur x∧aFc l):=propext List.forall_mem_cons
@[go_sem] theorem aWA(f:α→AV)(l:List α)(h:∀x,Pur (f x)):aFc (l.map f)=True:=zAC fun x hx=>by obtain⟨y,_,rfl⟩:=zAm.1 hx;exact h y
end
end
theorem Sim.frz{n:Nat}{H:AHeap}{x y:AV}(h:Sim x y):Pur x→Frz n H x y:=by
 induction h with
 |refl x=>exact fun hp=>.cl x (hp.cl n)
 |sl f es=>exact fun hp=>.slw f es (hp.cl n)
 |agg cs ds hl _ ih=>exact fun hp=>.agg cs ds hl fun i x y hx hy=>ih i x y hx hy (by cases hp with|agg _ h=>exact h x (zAp hx))
 |tup cs ds hl _ ih=>exact fun hp=>.tup cs ds hl fun i x y hx hy=>ih i x y hx hy (by cases hp with|tup _ h=>exact h x (zAp hx))
 |iface t x y _ ih=>exact fun hp=>.iface t x y (ih (by cases hp with|iface _ _ h=>exact h))
 |top x=>exact fun _=>.any x
theorem done{n:Nat}{H L:AHeap}{v x:AV}(hp:Pur v)(hs:Sim v x):∃L' y,H++L=H++L'∧Frz n (H++L) v y∧y=x:=⟨L,x,rfl,hs.frz hp,rfl⟩
theorem aB1{n:Nat}{H:AHeap}{v x:AV}(hp:Pur v)(hs:Sim v x):∃L' y,H=H++L'∧Frz n H v y∧y=x:=⟨[],x,(zAd H).symm,hs.frz hp,rfl⟩
theorem aJQ{n:Nat}{H L G M:AHeap}{v x:AV}(hG:H++L=G)(hp:Pur v)(hs:Sim v x):∃L' y,G++M=H++L'∧Frz n (G++M) v y∧y=x:=⟨L++M,x,by rw[←hG,zAr],hs.frz hp,rfl⟩
theorem oF{n:Nat}{H L G:AHeap}{v x:AV}(hG:H++L=G)(hp:Pur v)(hs:Sim v x):∃L' y,G=H++L'∧Frz n G v y∧y=x:=⟨L,x,hG.symm,hs.frz hp,rfl⟩
theorem aVq{H L G M:AHeap}(hG:H++L=G):G++M=H++(L++M):=by rw[←hG,zAr]
theorem iT{n:Nat}{H:AHeap}{i v s k lc:Nat}{cs es rest:List AV}(hn:n≤i)(hh:hget H i=.cells v cs)(hcs:cs=es.flatMap AV.cells++rest)(hk:es.length=k)(hs:∀e∈es,e.cells.length=s)(hp:∀e∈es,Pur e):
  Frz n H (.osl s i v 0 k lc) (.sl false es):=by
 have hf:=rB hs;refine .osl s i v 0 k lc cs es hn hh hk (by grind) hs fun k j e x y he hy hx=>?_
 have h1:=kT hs he hy;have hlt:=(eT.1 h1).1;rw[zBK,hcs,zAt hlt,h1]at hx;cases hx;exact .cl _ ((Pur.cells (hp e (zAp he)) _ (zAp hy)).cl n)
theorem iU{H L:AHeap}{i v s k lc:Nat}{cs es rest:List AV}{x:AV}(hn:H.length≤i)(hh:hget (H++L) i=.cells v cs)(hcs:cs=es.flatMap AV.cells++rest)(hk:es.length=k)(hs:∀e∈es,e.cells.length=s)(hp:∀e∈es,Pur e)(hx:x=.sl false es):
  ∃L' y,H++L=H++L'∧Frz H.length (H++L) (.osl s i v 0 k lc) y∧y=x:=⟨L,x,rfl,by rw[hx];exact iT hn hh hcs hk hs hp,rfl⟩
def ClB(n:Nat):ABlk→Prop
 |.cells _ cs=>∀x∈cs,Cl n x
 |.map es _=>∀p∈es,Cl n p.1∧Cl n p.2.1
 |.miter m _ _ _=>m<n
 |.loop _ α _ _ _ _ _ _=>∀t,Cl n (look α t)
 |_=>True
theorem St.cl0{c:Ctx}{H:AHeap}(h:St c H){i:Nat}{b:ABlk}(hi:H[i]?=some b):ClB c.n b:=by
 cases h.rep i b hi with
 |cells ver cs vs e fr _ _ _ hl _ hr=>exact fun x hx=>let⟨j,hj⟩:=nC hx;(hr j x _ hj (zBg (by grind))).cl
 |void=>exact fun x hx=>by simp at hx
 |map es clock ents _ _ _ hl hr=>exact fun p hp=>let⟨j,hj⟩:=nC hp;let⟨q1,q2,_⟩:=hr j p _ hj (zBg (by have:=(eT.1 hj).1;omega));⟨q1.cl,q2.cl⟩
 |miter m _ _ _ _ _ hm=>exact hm
 |siter=>trivial
 |loop _ _ _ _ _ _ _ _ _ _ _ _ _ _ _ _ hr=>exact fun t=>(hr t).cl
 |gone=>trivial
theorem St.dropG{c:Ctx}{n:Nat}{H L:AHeap}(hn:n=H.length)(hst:St c (H++L))(hcl:∀(i:Nat) (b:ABlk),H[i]?=some b→ClB n b):St (c.drop n) H where
 n:=hn
 lt:=fun i hi hd=>by
  have hi':i<n:=hi;exact hst.lt i (by rw[hst.n];simp;omega) hd
 inj:=fun i j b b' hi hj hb hb' di dj he=>by
  have h1:=(eT.1 hi).1;have h2:=(eT.1 hj).1;exact hst.inj i j b b' (by grind) (by grind) hb hb' di dj he
 st:=fun k hk=>by
  have hln:=hst.n;rw[zAa]at hln;rcases hk with hk|⟨i,h1,h2,h3,rfl⟩
  ·obtain⟨q1,q2⟩:=hst.st k hk;exact⟨q1,fun j b hj hb hd=>q2 j b (by rw[zAt (eT.1 hj).1];exact hj) hb hd⟩
  ·refine⟨hst.lt i h2 h3,fun j b hj hb hd e=>?_⟩
   have hj':=(eT.1 hj).1;have hlt:i<(H++L).length:=by rw[zAa];omega
   have hi:(H++L)[i]?=some (H++L)[i]:=zAb hlt;by_cases hlive:((H++L)[i]).live
   ·have:=hst.inj j i b _ (by rw[zAt hj'];exact hj) hi hb hlive hd h3 e
    omega
   ·have hr:=hst.rep i _ hi;generalize(H++L)[i]=bi at hr hlive;cases hr with
    |gone hd'=>rw[h3]at hd';cases hd'
    |_=>exact hlive trivial
 rep:=fun i b hi=>by
  have hi':=(eT.1 hi).1;have h1:=hst.rep i b (by rw[zAt hi'];exact hi)
  have h2:=hcl i b hi;cases h1 with
  |cells ver cs vs e fr hv hd hh hl hf hr=>exact .cells ver cs vs e fr hv hd hh hl hf fun j x v hx hv'=>(hr j x v hx hv').drop (h2 x (zAp hx))
  |void ver hv hd=>exact .void ver hv hd
  |map es clock ents hv hd hh hl hr=>exact .map es clock ents hv hd hh hl fun j p e hp he=>let⟨g1,g2,g3⟩:=hr j p e hp he;let⟨q1,q2⟩:=h2 p (zAp hp);⟨g1.drop q1,g2.drop q2,g3⟩
  |miter m since seen stepped hv hd hm hmv hmd hh=>exact .miter m since seen stepped hv hd h2 hmv hmd hh
  |siter s pos hv hd hh hsl=>exact .siter s pos hv hd hh hsl
  |loop l α N st pe ps ars bd fn D ts hv hd hl hh hN hr=>exact .loop l α N st pe ps ars bd fn D ts hv hd hl hh hN fun t=>(hr t).drop (h2 t)
  |gone hd=>exact .gone hd
theorem aH0{f:FuncId}{fn:Func}{code:Code}{args:List AV}{H:AHeap}{R:AV→AHeap→Prop}(hf:P.funcs[f]?=some fn)(hb:fn.body=some code)(hn:args.length≤fn.ntmps)
  (h:aw P fn.ntmps code (xD P fn.results.toList fun v H'=>∃H1 L y,H'=H1++L∧H1.length=H.length∧(∀(i:Nat) (b:ABlk),H1[i]?=some b→H[i]?=some b∨ClB H.length b)∧Frz H.length H' v y∧R y H1) (eU 0 args) H):ACalls P f args H R:=by
 intro c vs hs ha;refine(jP hf hb hn h c vs hs ha).mono fun e w' ⟨c',x,v,H',e1,e2,e3,e4,e5,H1,L,y,e6,e6',e6'',e7,e8⟩=>?_
 subst e6;refine⟨c'.drop c.n,y,v,H1,e1,e2,St.dropG (by rw[hs.n,e6']) e3 (fun i b hi=>?_),e4.drop,?_,e8⟩
 ·rcases e6'' i b hi with h|h
  ·exact hs.cl0 h
  ·rw[hs.n];exact h
 ·have:=e7.sound e3 e5;rwa[←hs.n]at this
theorem Cl.mono{n m:Nat}(h:n≤m){x:AV}(k:Cl n x):Cl m x:=by
 induction k with
 |int k n=>exact .int k n
 |bool b=>exact .bool b
 |str s=>exact .str s
 |agg cs _ ih=>exact .agg cs ih
 |tup cs _ ih=>exact .tup cs ih
 |sl f es _ ih=>exact .sl f es ih
 |cptr cs _ ih=>exact .cptr cs ih
 |ref i v off q=>exact .ref i v off (by omega)
 |osl s i v off len lc q=>exact .osl s i v off len lc (by omega)
 |nilptr=>exact .nilptr
 |map i q=>exact .map i (by omega)
 |nilmap=>exact .nilmap
 |iter i q=>exact .iter i (by omega)
 |func fn fs cs _ _ ih1 ih2=>exact .func fn fs cs ih1 ih2
 |nilfunc=>exact .nilfunc
 |iface t x _ ih=>exact .iface t x ih
 |nilIface=>exact .nilIface
 |opt g x _ ih=>exact .opt g x ih
 |top=>exact .top
theorem ClB.mono{n m:Nat}(h:n≤m){b:ABlk}(k:ClB n b):ClB m b:=by
 cases b with
 |cells v cs=>exact fun x hx=>(k x hx).mono h
 |map es cl=>exact fun p hp=>⟨(k p hp).1.mono h,(k p hp).2.mono h⟩
 |miter=>exact zBr k h
 |loop=>exact fun t=>(k t).mono h
 |siter=>trivial
 |gone=>trivial
theorem Ext.dropN{c c':Ctx}(h:Ext c c'){n:Nat}(hn:c.n≤n):Ext c (c'.drop n):=
 ⟨hn,h.size,fun b hb=>⟨.inl (h.st b hb).1,(h.st b hb).2⟩,h.ver,h.blk,h.os,h.tape,h.output,h.base⟩
theorem aDM{f:FuncId}{fn:Func}{code:Code}{args:List AV}{H:AHeap}{R:AV→AHeap→Prop}(hf:P.funcs[f]?=some fn)(hb:fn.body=some code)(hn:args.length≤fn.ntmps)
  (h:aw P fn.ntmps code (xD P fn.results.toList fun v H'=>∃H1 L y,H'=H1++L∧H.length≤H1.length∧(∀(i:Nat) (b:ABlk),H1[i]?=some b→H[i]?=some b∨ClB H1.length b)∧Frz H1.length H' v y∧R y H1) (eU 0 args) H):ACalls P f args H R:=by
 intro c vs hs ha;refine(jP hf hb hn h c vs hs ha).mono fun e w' ⟨c',x,v,H',e1,e2,e3,e4,e5,H1,L,y,e6,e6',e6'',e7,e8⟩=>?_
 subst e6;refine⟨c'.drop H1.length,y,v,H1,e1,e2,St.dropG rfl e3 (fun i b hi=>?_),e4.dropN (by rw[hs.n];exact e6'),e7.sound e3 e5,e8⟩
 rcases e6'' i b hi with h|h
 ·exact(hs.cl0 h).mono (by rw[hs.n];exact e6')
 ·exact h
end
section
variable {P:Program}
section before
variable (ops:Array Oper)
def Closed(listed:Array Bool):Prop:=∀q o,listed.getD q false=true→ops[q]?=some o→∀e∈o.after,Region.binds .any e=true→listed.getD e.on false=true
def Lst(i q:Nat):Prop:=∀listed,Closed ops listed→listed.getD q false=true→listed.getD i false=true
def Bef(i j:Nat):Prop:=∀listed,Closed ops listed→j∈Region.ready .any ops listed→listed.getD i false=true
def vB(i j:Nat):Bool:=
 match ops[j]? with
 |some o=>o.after.any fun e=>Region.binds .any e&&e.on==i
 |none=>false
variable {ops}
theorem aB2{i j:Nat}(h:vB ops i j=true):∃o e,ops[j]?=some o∧e∈o.after∧Region.binds .any e=true∧e.on=i:=by
 grind [vB,Array.any_eq_true']
theorem Lst.refl(i:Nat):Lst ops i i:=fun _ _ h=>h
theorem Lst.trans{i j k:Nat}(h:Lst ops i j)(h':Lst ops j k):Lst ops i k:=fun l hc hk=>h l hc (h' l hc hk)
theorem Lst.dir{i j:Nat}(h:vB ops i j=true):Lst ops i j:=fun l hc hj=>by
 obtain⟨o,e,ho,he,hb,rfl⟩:=aB2 h;exact hc j o hj ho e he hb
theorem Bef.dir{i q j:Nat}(h:vB ops q j=true)(hl:Lst ops i q):Bef ops i j:=fun l hc hj=>by
 obtain⟨o,e,ho,he,hb,rfl⟩:=aB2 h;obtain⟨_,o',ho',hall⟩:=mem_ready.1 hj;rw[ho]at ho';cases ho';exact hl l hc (hall e he hb)
theorem Closed.set{listed:Array Bool}{j:Nat}(hc:Closed ops listed)(hj:j∈Region.ready .any ops listed):Closed ops (listed.setIfInBounds j true):=by
 intro q o hq ho e he hb;by_cases hqj:j=q
 ·subst hqj;obtain⟨_,o',ho',hall⟩:=mem_ready.1 hj;rw[ho]at ho';cases ho';exact getD_set_true (hall e he hb)
 ·rw[getD_set_ne false hqj]at hq;exact getD_set_true (hc q o hq ho e he hb)
theorem pM{i j:Nat}{listed:Array Bool}(hc:Closed ops listed)(hi:i∈Region.ready .any ops listed)(hj:j∈Region.ready .any ops listed):¬Bef ops i j:=fun h=>by
 grind [mem_ready,zCk,Array.getElem?_eq_none,Nat,Array,Bool,Closed,Region.ready,Bef]
end before
section tree
variable (P) (N:Nat) (ops:Array Oper) (eff:Nat→Bool)
abbrev xF:=List (Nat×AHeap)
abbrev fT:=List (Nat×(AHeap→Prop))
def yv(o:Oper)(α:AF)(v:AV)(h h':AHeap):Prop:=YG P N ops h o α (fun v' H'=>v'=v∧H'=h')
def qM(i:Nat)(K:AF→AHeap→xF→fT→Prop)(α:AF)(H:AHeap)(hist:xF)(past:fT):Prop:=
 match ops[i]? with
 |none=>K α H hist past
 |some o=>
  if eff i=true then ∃v H1,yv P N ops o α v H H1∧(∀p∈past,¬Bef ops p.1 i→p.2 H1)∧K (bO o.dst v α) H1 ((i,H)::hist) past
  else ∃v,yv P N ops o α v H H∧(∀e∈hist,¬Bef ops e.1 i→yv P N ops o α v e.2 e.2)∧K (bO o.dst v α) H hist ((i,fun h=>yv P N ops o α v h h)::past)
def xG(K:AF→AHeap→Prop):Nat→Array Bool→AF→AHeap→xF→fT→Prop
 |0,listed,α,H,_,_=>Region.ready .any ops listed=[]∧K α H
 |fuel+1,listed,α,H,hist,past=>(Region.ready .any ops listed=[]→K α H)∧∀i∈Region.ready .any ops listed,qM P N ops eff i (xG K fuel (listed.setIfInBounds i true)) α H hist past
variable {P} {N} {ops} {eff}
theorem yv.alike{o:Oper}{α β:AF}{v:AV}{h h':AHeap}(hab:Alike α β)(k:yv P N ops o α v h h'):yv P N ops o β v h h':=YG.alike hab k
theorem yv.put{oi oj:Oper}{α:AF}{v u:AV}{h h':AHeap}(k:yv P N ops oi α v h h')(hap:∀d,oj.dst=some d→d∉oi.looksAt ops):yv P N ops oi (bO oj.dst u α) v h h':=
 fun r c a next Q h1 h2 h3 hk=>k r c a next Q h1 h2 (fun t ht=>by
  have:=h3 t ht;rwa[nB fun x hx e=>hap x hx (e▸ht)]at this) hk
theorem yv.unput{oi oj:Oper}{α:AF}{v u:AV}{h h':AHeap}(k:yv P N ops oi (bO oj.dst u α) v h h')(hap:∀d,oj.dst=some d→d∉oi.looksAt ops):yv P N ops oi α v h h':=
 fun r c a next Q h1 h2 h3 hk=>k r c a next Q h1 h2 (fun t ht=>by
  rw[nB fun x hx e=>hap x hx (e▸ht)]
  exact h3 t ht) hk
def PastLe(p q:fT):Prop:=∀x∈q,∃y∈p,y.1=x.1∧∀h,y.2 h→x.2 h
theorem PastLe.refl(p:fT):PastLe p p:=fun x hx=>⟨x,hx,rfl,fun _ h=>h⟩
theorem PastLe.cons{p q:fT}{i:Nat}{φ ψ:AHeap→Prop}(h:∀x,φ x→ψ x)(hpq:PastLe p q):PastLe ((i,φ)::p) ((i,ψ)::q):=by
 intro x hx;cases hx with
 |head=>exact⟨_,.head _,rfl,h⟩
 |tail _ hx=>obtain⟨y,hy,h1,h2⟩:=hpq x hx;exact⟨y,.tail _ hy,h1,h2⟩
theorem PastLe.swap{p:fT}{i j:Nat}{φ φ' ψ ψ':AHeap→Prop}(h:∀x,φ x→φ' x)(k:∀x,ψ x→ψ' x):PastLe ((j,ψ)::(i,φ)::p) ((i,φ')::(j,ψ')::p):=by
 intro x hx;cases hx with
 |head=>simp_all
 |tail _ hx=>
  cases hx with
  |head=>exact⟨_,.head _,rfl,k⟩
  |tail _ hx=>exact⟨x,.tail _ (.tail _ hx),rfl,fun _ h=>h⟩
theorem kK{K:AF→AHeap→Prop}(hK:∀α β H,Alike α β→K α H→K β H):∀(n:Nat) (listed:Array Bool) (α β:AF) (H:AHeap) (hist:xF) (past past':fT),Alike α β→PastLe past past'→
  xG P N ops eff K n listed α H hist past→xG P N ops eff K n listed β H hist past'
 |0,_,_,_,_,_,_,_,hab,_,h=>⟨h.1,hK _ _ _ hab h.2⟩
 |n+1,listed,α,β,H,hist,past,past',hab,hp,h=>by
  refine⟨fun h0=>hK _ _ _ hab (h.1 h0),fun i hi=>?_⟩
  have:=h.2 i hi;unfold qM at this ⊢;split
  ·rename_i ho;simp only[ho]at this;exact kK hK n _ _ _ _ _ _ _ hab hp this
  ·rename_i o ho;simp only[ho]at this;split
   ·rename_i he;rw[zAl he]at this;obtain⟨v,H1,h1,h2,h3⟩:=this;refine⟨v,H1,h1.alike hab,fun p hpp hb=>?_,kK hK n _ _ _ _ _ _ _ (hab.put _ _) hp h3⟩
    obtain⟨y,hy,e1,e2⟩:=hp p hpp;exact e2 _ (h2 y hy (by rw[e1];exact hb))
   ·rename_i he;rw[zAe he]at this;obtain⟨v,h1,h2,h3⟩:=this;exact⟨v,h1.alike hab,fun e hee hb=>(h2 e hee hb).alike hab,kK hK n _ _ _ _ _ _ _ (hab.put _ _) (.cons (fun _ h=>h.alike hab) hp) h3⟩
def Head(P:Program)(N:Nat)(ops:Array Oper)(eff:Nat→Bool)(i:Nat)(oi:Oper)(v:AV)(H1:AHeap)(α:AF)(H:AHeap)(hist:xF)(past:fT):Prop:=
 yv P N ops oi α v H H1∧(eff i=true→∀p∈past,¬Bef ops p.1 i→p.2 H1)∧(eff i=false→H1=H∧∀e∈hist,¬Bef ops e.1 i→yv P N ops oi α v e.2 e.2)
theorem Head.qM{K:AF→AHeap→xF→fT→Prop}{i:Nat}{oi:Oper}{v:AV}{H1:AHeap}{α:AF}{H:AHeap}{hist:xF}{past:fT}(hi:ops[i]?=some oi)(h:Head P N ops eff i oi v H1 α H hist past)
  (hk:K (bO oi.dst v α) H1 (if eff i=true then(i,H)::hist else hist) (if eff i=true then past else(i,fun h=>yv P N ops oi α v h h)::past)):qM P N ops eff i K α H hist past:=by
 unfold Go.Proofs.YtennnelammaapaaGreatDoor.qM;simp only[hi];cases he:eff i with
 |true=>
  grind [Nat,Oper,Head,bO]
 |false=>
  rw[he]at hk;obtain⟨e1,e2⟩:=h.2.2 he;subst e1;rw[zAe (by simp)]
  exact⟨v,h.1,e2,hk⟩
theorem pN{K:AF→AHeap→Prop}(hK:∀α β H,Alike α β→K α H→K β H){i:Nat}{oi:Oper}{v:AV}(hi:ops[i]?=some oi)(hEE:eff i=true→∀j,eff j=true→j≠i→∀listed,Closed ops listed→i∈Region.ready .any ops listed→j∈Region.ready .any ops listed→False):
  ∀(fuel:Nat) (listed:Array Bool) (α:AF) (H H1:AHeap) (hist:xF) (past:fT),Closed ops listed→
   (∀j oj,ops[j]?=some oj→j≠i→listed.getD j true=false→(∀e∈oj.after,Region.binds .any e=true→e.on≠i)→oi.apart ops oj=true)→
   i∈Region.ready .any ops listed→Head P N ops eff i oi v H1 α H hist past→
   xG P N ops eff K fuel (listed.setIfInBounds i true) (bO oi.dst v α) H1 (if eff i=true then(i,H)::hist else hist) (if eff i=true then past else(i,fun h=>yv P N ops oi α v h h)::past)→
   xG P N ops eff K (fuel+1) listed α H hist past:=by
 intro fuel;induction fuel with
 |zero=>
  intro listed α H H1 hist past _ _ hr hy hh;refine⟨fun h=>(by rw[h]at hr;cases hr),fun j hj=>?_⟩
  by_cases hji:j=i
  ·subst hji;exact hy.qM hi hh
  ·have:=ready_mono hj hji;rw[hh.1]at this;cases this
 |succ fuel ih=>
  intro listed α H H1 hist past hcl hfree hr hy hh;refine⟨fun h=>(by rw[h]at hr;cases hr),fun j hj=>?_⟩
  by_cases hji:j=i
  ·subst hji;exact hy.qM hi hh
  ·have h1:=hh.2 j (ready_mono hj hji);obtain⟨hjun,oj,hoj,hall⟩:=mem_ready.1 hj;have hnb:¬Bef ops i j:=pM hcl hr hj;have hnot:∀e∈oj.after,Region.binds .any e=true→e.on≠i:=fun e he hb heq=>by
    have h1:=hall e he hb;have h0:=(mem_ready.1 hr).1;rw[heq]at h1;rcases zCk i listed.size with h'|h'
    ·simp[h']at h0 h1;rw[h0]at h1;cases h1
    ·simp[Array.getElem?_eq_none h']at h1
   obtain⟨p1,p2,p3⟩:=Oper.apart_spec (hfree j oj hoj hji hjun hnot);have hcl':=hcl.set hj;have hfree':∀k ok,ops[k]?=some ok→k≠i→(listed.setIfInBounds j true).getD k true=false→
     (∀e∈ok.after,Region.binds .any e=true→e.on≠i)→oi.apart ops ok=true:=fun k ok hk hki hun hno=>by
    refine hfree k ok hk hki ?_ hno;by_cases hjk:j=k
    ·subst hjk;exact hjun
    ·rw[getD_set_ne true hjk]at hun;exact hun
   have hr':=ready_mono hr (zBs hji);have hcomm:=zBE (xs:=listed) true true (zBs hji);unfold Go.Proofs.YtennnelammaapaaGreatDoor.qM at h1 ⊢;simp only[hoj]at h1 ⊢;cases hej:eff j with
   |true=>
    rw[hej,zAl rfl]at h1;rw[zAl rfl];obtain⟨u,H2,hyj,hpj,hkj⟩:=h1;cases hei:eff i with
    |true=>exact(hEE hei j hej hji listed hcl hr hj).elim
    |false=>
     obtain⟨e1,e2⟩:=hy.2.2 hei;subst e1;simp only[hei,zAz,zA3]at hpj hkj;have hyi2:=hpj (i,fun h=>yv P N ops oi α v h h) (.head _) hnb
     refine⟨u,H2,hyj.unput p1,fun p hp hb=>hpj p (.tail _ hp) hb,?_⟩
     refine ih (listed.setIfInBounds j true) (bO oj.dst u α) H2 H2 ((j,H1)::hist) past hcl' hfree' hr' ⟨yv.put hyi2 p3,fun h=>(by rw[hei]at h;cases h),fun _=>⟨rfl,fun e he hb=>?_⟩⟩ ?_
     ·cases he with
      |head=>exact hy.1.put p3
      |tail _ he=>exact(e2 e he hb).put p3
     ·simp only[hei,zAz,zA3];rw[zBE _ _ hji];exact kK hK _ _ _ _ _ _ _ _ (gP p2) (.cons (fun _ h=>h.put p3) (.refl _)) hkj
   |false=>
    rw[hej,zAe (by simp)]at h1
    rw[zAe (by simp)]
    obtain⟨u,hyj,hhj,hkj⟩:=h1;cases hei:eff i with
    |true=>
     simp only[hei,zBc]at hhj hkj;have hyj0:yv P N ops oj α u H H:=(hhj (i,H) (.head _) hnb).unput p1;refine⟨u,hyj0,fun e he hb=>(hhj e (.tail _ he) hb).unput p1,?_⟩
     refine ih (listed.setIfInBounds j true) (bO oj.dst u α) H H1 hist _ hcl' hfree' hr' ⟨hy.1.put p3,fun _ p hp hb=>?_,fun h=>(by rw[hei]at h;cases h)⟩ ?_
     ·cases hp with
      |head=>exact hyj.unput p1
      |tail _ hp=>exact hy.2.1 hei p hp hb
     ·simp only[hei,zBc];rw[zBE _ _ hji];exact kK hK _ _ _ _ _ _ _ _ (gP p2) (.cons (fun _ h=>h.unput p1) (.refl _)) hkj
    |false=>
     obtain⟨e1,e2⟩:=hy.2.2 hei;subst e1;simp only[hei,zAz,zA3]at hhj hkj;refine⟨u,hyj.unput p1,fun e he hb=>(hhj e he hb).unput p1,?_⟩
     refine ih (listed.setIfInBounds j true) (bO oj.dst u α) H1 H1 hist _ hcl' hfree' hr' ⟨hy.1.put p3,fun h=>(by rw[hei]at h;cases h),fun _=>⟨rfl,fun e he hb=>(e2 e he hb).put p3⟩⟩ ?_
     simp only[hei,zAz,zA3];rw[zBE _ _ hji];exact kK hK _ _ _ _ _ _ _ _ (gP p2) (.swap (fun _ h=>h.put p3) (fun _ h=>h.unput p1)) hkj
def aM(P:Program)(N:Nat)(ops:Array Oper)(eff:Nat→Bool)(K:AF→AHeap→Prop):List Oper→Nat→AF→AHeap→xF→fT→Prop
 |[],_,α,H,_,_=>K α H
 |o::os,k,α,H,hist,past=>∃v H1,Head P N ops eff k o v H1 α H hist past∧
   aM P N ops eff K os (k+1) (bO o.dst v α) H1 (if eff k=true then(k,H)::hist else hist) (if eff k=true then past else(k,fun h=>yv P N ops o α v h h)::past)
theorem aDN{K:AF→AHeap→Prop}(hK:∀α β H,Alike α β→K α H→K β H)(hEE:∀i j,eff i=true→eff j=true→j≠i→∀listed,Closed ops listed→i∈Region.ready .any ops listed→j∈Region.ready .any ops listed→False):
  ∀(l:List Oper) (k:Nat) (listed:Array Bool) (α:AF) (H:AHeap) (hist:xF) (past:fT),(∀j,l[j]?=ops[k+j]?)→Closed ops listed→
  Region.lexFrom .any ops l.length k listed=true→aM P N ops eff K l k α H hist past→xG P N ops eff K l.length listed α H hist past
 |[],_,_,_,_,_,_,_,_,hB,h=>⟨by simpa[Region.lexFrom]using hB,h⟩
 |o::l,k,listed,α,H,hist,past,hl,hc,hB,h=>by
  have h0:ops[k]?=some o:=by simpa using(hl 0).symm
  simp only[zAc,Region.lexFrom,zAu]at hB;obtain⟨⟨hr,hf⟩,hB'⟩:=hB;obtain⟨v,H1,hy,hk⟩:=h;have hr':k∈Region.ready .any ops listed:=by simpa using hr
  exact pN hK h0 (fun he j hj hne=>hEE k j he hj hne) l.length listed α H H1 hist past hc (Region.free_spec h0 hf) hr' hy
   (aDN hK hEE l (k+1) _ _ _ _ _ (fun j=>by have:=hl (j+1);grind) (hc.set hr') hB' hk)
theorem kO{r:Option Nat}{Q:Exit→Act→World→Prop}{K:AF→AHeap→Prop}(hd:pJ N ops=true)(c₀:Ctx)(hK:∀α H c a,K α H→St c H→Ext c₀ c→ARep c N α a→Q .normal a c.w):
  ∀(n:Nat) (listed:Array Bool) (α:AF) (H:AHeap) (hist:xF) (past:fT) (c:Ctx) (a:Act),St c H→Ext c₀ c→ARep c N α a→xG P N ops eff K n listed α H hist past→wpAnyIn (wf r) 0 P .any ops Q n listed a c.w
 |0,_,_,_,_,_,_,_,hs,hx,ha,h=>⟨h.1,hK _ _ _ _ h.2 hs hx ha⟩
 |n+1,listed,α,H,hist,past,c,a,hs,hx,ha,h=>by
  refine⟨fun h0=>hK _ _ _ _ (h.1 h0) hs hx ha,fun i hi=>?_⟩
  have h1:=h.2 i hi;unfold qM at h1;unfold wpOpIn;split
  ·rename_i ho;simp only[ho]at h1;exact kO hd c₀ hK n _ _ _ _ _ _ _ hs hx ha h1
  ·rename_i o ho;simp only[ho]at h1;have hdo:aBT N o.dst=true:=zAJ.1 hd o (by rw[zCp];exact zBf ho)
   have go:∀v H1 hist' past',yv P N ops o α v H H1→xG P N ops eff K n (listed.setIfInBounds i true) (bO o.dst v α) H1 hist' past'→
     if Region.wanted o (yielded ops a.tmps)then o.wpIn (wf r) 0 P a c.w (wpAnyIn (wf r) 0 P .any ops Q n (listed.setIfInBounds i true)) Q else(∀f,o.about P c.w a.eval=some f→(wf r).fn f)∧wpAnyIn (wf r) 0 P .any ops Q n (listed.setIfInBounds i true) (a.put o.dst undef) c.w:=by
    intro v H1 hist' past' hy hk;have:=hy r c a (wpAnyIn (wf r) 0 P .any ops Q n (listed.setIfInBounds i true)) Q hs ha.size (fun t _=>ha.rep t) fun c' x v' H' g1 g2 g3 g4=>by
     obtain⟨e1,e2⟩:=g4;rw[e2]at g1;rw[e1]at g3;exact kO hd c₀ hK n _ _ _ _ _ _ _ g1 (hx.trans g2) ((ha.mono g2).put hdo g3) hk
    by_cases hw:Region.wanted o (yielded ops a.tmps)=true
    ·rw[zAl hw]at this ⊢;exact this
    ·rw[zAe hw]at this ⊢;exact⟨fun _ _=>trivial,this⟩
   grind
end tree
section aV6
variable {ops:Array Oper}
def iZ(ops:Array Oper):List Nat→Bool
 |a::b::l=>vB ops a b&&iZ ops (b::l)
 |_=>true
theorem lW:∀{a:Nat} {l:List Nat},iZ ops (a::l)=true→∀j∈l,Bef ops a j∧Lst ops a j
 |a,[],_,j,hj=>by cases hj
 |a,b::l,h,j,hj=>by
  rw[iZ,zAu]at h;cases hj with
  |head=>exact⟨.dir h.1 (.refl _),.dir h.1⟩
  |tail _ hj=>
   obtain⟨_,h2⟩:=lW h.2 j hj;have key:∀{b:Nat} {l:List Nat},iZ ops (b::l)=true→∀x,Lst ops x b→∀j∈l,Bef ops x j:=by
    intro b l;induction l generalizing b with
    |nil=>intro _ x _ j hj;cases hj
    |cons c l ih=>
     intro h x hx j hj;rw[iZ,zAu]at h;cases hj with
     |head=>exact .dir h.1 hx
     |tail _ hj=>exact ih h.2 x (hx.trans (.dir h.1)) j hj
   exact⟨key h.2 a (.dir h.1) j hj,(Lst.dir h.1).trans h2⟩
theorem aAQ{a:Nat}{l:List Nat}(h:iZ ops (a::l)=true):iZ ops l=true:=by
 cases l with
 |nil=>rfl
 |cons b l=>rw[iZ,zAu]at h;exact h.2
theorem aAR:∀{l:List Nat},iZ ops l=true→∀i j,i∈l→j∈l→j≠i→Bef ops i j∨Bef ops j i
 |[],_,i,_,hi,_,_=>by cases hi
 |a::l,h,i,j,hi,hj,hne=>by
  cases hi with
  |head=>
   cases hj with
   |head=>exact absurd rfl hne
   |tail _ hj=>exact .inl (lW h j hj).1
  |tail _ hi=>
   cases hj with
   |head=>exact .inr (lW h i hi).1
   |tail _ hj=>exact aAR (aAQ h) i j hi hj hne
end aV6
inductive Pl where
 |free
 |pure (w:Nat)
 |eff (fs:List Bool)
def oG:Op→Bool
 |.move _|.assign _|.build _ _|.buildSlice _ _ _|.binOp _ _ _ _ _|.unOp _ _ _|.convert _ _ _|.makeInterface _ _|.makeFunc _ _ _|.field _ _ _|.typeAssert _ _ _ _|.extract _ _|.pick _ _ _=>true
 |_=>false
def pureAt(P:Program)(all:List Oper)(h:AHeap)(o:Oper)(α:AF)(v:AV):Prop:=
 match o with
 |⟨_,op,_,_,_,guard⟩=>
  match guard,op with
  |none,.pick x y z=>(eR true (ev α x) (ev α y) (ev α z)).s∧v=(eR true (ev α x) (ev α y) (ev α z)).v
  |none,.call ⟨.value f,xs,_⟩=>ACall P (ev α f) (xs.toList.map (ev α)) h (fun v' H'=>v'=v∧H'=h)
  |none,.call ⟨.invoke r m,xs,_⟩=>ACall P (dK P m (ev α r)) (xs.toList.map (ev α)) h (fun v' H'=>v'=v∧H'=h)
  |none,op=>(aL P op (ev α) h).s∧(aL P op (ev α) h).H=h∧v=(aL P op (ev α) h).v
  |some (j,want),.pick x y z=>
   qU (aK α (bT all j))∧((bC (aK α (bT all j)) want)=true→(eR (bC (aK α (bT all j)) want) (ev α x) (ev α y) (ev α z)).s)∧
    v=.opt (bC (aK α (bT all j)) want) (eR (bC (aK α (bT all j)) want) (ev α x) (ev α y) (ev α z)).v
  |some (j,want),.call ⟨.value f,xs,_⟩=>
   qU (aK α (bT all j))∧cX (bC (aK α (bT all j)) want) α (f::xs.toList)∧
    ∃u,(bC (aK α (bT all j)) want=true→ACall P (eE α f) (xs.toList.map (eE α)) h (fun v' H'=>v'=u∧H'=h))∧v=.opt (bC (aK α (bT all j)) want) u
  |some (j,want),op=>
   qU (aK α (bT all j))∧cX (bC (aK α (bT all j)) want) α op.operands.toList∧((bC (aK α (bT all j)) want)=true→(aL P op (eE α) h).s∧(aL P op (eE α) h).H=h)∧
    v=.opt (bC (aK α (bT all j)) want) (aL P op (eE α) h).v
theorem pureAt.yv{N:Nat}{ops:Array Oper}{o:Oper}{α:AF}{h:AHeap}{v:AV}(k:pureAt P ops.toList h o α v):yv P N ops o α v h h:=by
 obtain⟨dst,op,ty,pos,after,guard⟩:=o;dsimp only[pureAt]at k;split at k
 ·obtain⟨h1,rfl⟩:=k;exact YG.of_does rfl (kI (o:=⟨dst,.pick _ _ _,ty,pos,after,none⟩) (ρ:=ev α) (H:=h) rfl rfl h1)
 ·exact YG.of_does rfl (iC rfl k)
 ·exact YG.of_does rfl (jG rfl k)
 ·obtain⟨h1,h2,rfl⟩:=k;exact(YG.of_does rfl (eH h1)).mono fun v H' ⟨e1,e2⟩=>⟨e1,e2.trans h2⟩
 ·rename_i j want x y z;obtain⟨h1,h2,rfl⟩:=k;exact YG.of_guard (o:=⟨dst,.pick x y z,ty,pos,after,some (j,want)⟩) rfl h1 (ev α) (fun c a _ hl x hx=>eS fun t ht=>hl t (bF (by subst ht;exact hx)))
   (fun hg=>kI (g:=bC (aK α (bT ops.toList j)) want) rfl hg (h2 hg))
 ·rename_i j want f xs ts;obtain⟨h1,h2,u,h3,rfl⟩:=k;exact YG.of_guard (o:=⟨dst,.call ⟨.value f,xs,ts⟩,ty,pos,after,some (j,want)⟩) rfl h1 (eE α) (fun c a hg hl x hx=>eG (eS fun t ht=>hl t (bF (by subst ht;exact hx))) (dA h2 x (by simpa[Op.operands,Call.operands]using hx)) hg)
   (fun hg=>iC rfl (h3 hg))
 ·rename_i j want op' _ _;obtain⟨h1,h2,h3,rfl⟩:=k;exact YG.of_guard (v:=(aL P op (eE α) h).v) rfl h1 (eE α) (fun c a hg hl x hx=>eG (eS fun t ht=>hl t (bF (by subst ht;exact hx))) (dA h2 x hx) hg)
   (fun hg=>(eH (h3 hg).1).mono fun v H' ⟨e1,e2⟩=>⟨e1,e2.trans (h3 hg).2⟩)
theorem zA{op:Op}(hf:oG op=true)(ρ:Operand→AV)(h h':AHeap):(aL P op ρ h').s=(aL P op ρ h).s∧(aL P op ρ h').v=(aL P op ρ h).v∧(aL P op ρ h').H=h':=by
 cases op<;>first|(simp[oG]at hf;done)|exact⟨rfl,rfl,rfl⟩|skip
 all_goals simp[aL]
theorem kV{all:List Oper}{h h':AHeap}{o:Oper}{α:AF}{v:AV}(hf:oG o.op=true)(k:pureAt P all h o α v):pureAt P all h' o α v:=by
 obtain⟨dst,op,ty,pos,after,guard⟩:=o;have hf:oG op=true:=hf;dsimp only[pureAt]at k ⊢;split at k
 ·exact k
 ·simp[oG]at hf
 ·simp[oG]at hf
 ·rename_i op' hp hc _;obtain⟨e1,e2,e3⟩:=zA (P:=P) hf (ev α) h h';grind
 ·exact k
 ·simp[oG]at hf
 ·rename_i j want hp hc;obtain⟨e1,e2,e3⟩:=zA (P:=P) hf (eE α) h h';rw[←e1,←e2]at k;exact⟨k.1,k.2.1,fun hg=>⟨(k.2.2.1 hg).1,e3⟩,k.2.2.2⟩
def vC:List Bool→fT→AHeap→Prop
 |true::fs,p::ps,h=>p.2 h∧vC fs ps h
 |false::fs,_::ps,h=>vC fs ps h
 |_,_,_=>True
def jH{α:Type}:List Bool→List α→List α
 |true::fs,p::ps=>p::jH fs ps
 |false::fs,_::ps=>jH fs ps
 |_,_=>[]
def aAc:Nat→List AHeap→(AHeap→Prop)→Prop
 |n+1,h::hs,φ=>φ h∧aAc n hs φ
 |_,_,_=>True
def aVr(P:Program)(all:List Oper)(o:Oper)(α:AF)(H:AHeap):Prop:=
 match o.guard with
 |none=>(aL P o.op (ev α) H).s
 |some (j,want)=>qU (aK α (bT all j))∧cX (bC (aK α (bT all j)) want) α o.op.operands.toList∧(bC (aK α (bT all j)) want=true→(aL P o.op (eE α) H).s)
def aVs(P:Program)(all:List Oper)(o:Oper)(α:AF)(H:AHeap):AV:=
 match o.guard with
 |none=>(aL P o.op (ev α) H).v
 |some (j,want)=>.opt (bC (aK α (bT all j)) want) (aL P o.op (eE α) H).v
def aVt(P:Program)(all:List Oper)(o:Oper)(α:AF)(H:AHeap):AHeap:=
 match o.guard with
 |none=>(aL P o.op (ev α) H).H
 |some (j,want)=>bif bC (aK α (bT all j)) want then(aL P o.op (eE α) H).H else H
theorem YG.of_guardE{N:Nat}{ops:Array Oper}{H H1:AHeap}{o:Oper}{α:AF}{v:AV}{j:Nat}{want:Bool}(hg:o.guard=some (j,want))(hok:qU (aK α (bT ops.toList j)))
  (ρ:Operand→AV) (hρ:∀(c:Ctx) (a:Act),bC (aK α (bT ops.toList j)) want=true→(∀t∈o.looksAt ops,Rep c (look α t) (a.tmps.getD t undef))→∀x∈o.op.operands.toList,Rep c (ρ x) (a.eval x))
  (h:bC (aK α (bT ops.toList j)) want=true→Does P o ρ H (fun v' H'=>v'=v∧H'=H1)):
  YG P N ops H o α (fun v' H'=>v'=.opt (bC (aK α (bT ops.toList j)) want) v∧H'=bif bC (aK α (bT ops.toList j)) want then H1 else H):=by
 intro r c a next Q hs hsz hl hk
 rw[qY hg hl hok];cases hgv:bC (aK α (bT ops.toList j)) want with
 |true=>
  simp only[zBc];rw[hgv]at hk;refine h hgv r c a next Q hs (hρ c a hgv hl) fun c' x v' H' h1 h2 h3 h4=>?_
  obtain⟨rfl,rfl⟩:=h4;exact hk c' _ v' _ h1 h2 (.opt _ _ _ (fun _=>h3) (fun h=>by cases h)) ⟨rfl,rfl⟩
 |false=>
  simp only[zAz,zA3];rw[hgv]at hk;exact hk c _ undef H hs (Ext.refl c) (.opt _ _ _ (fun h=>by cases h) (fun _=>rfl)) ⟨rfl,rfl⟩
theorem aNM{N:Nat}{ops:Array Oper}{o:Oper}{α:AF}{H:AHeap}(h:aVr P ops.toList o α H):yv P N ops o α (aVs P ops.toList o α H) H (aVt P ops.toList o α H):=by
 obtain⟨dst,op,ty,pos,after,guard⟩:=o;cases guard with
 |none=>exact YG.of_does rfl (eH (o:=⟨dst,op,ty,pos,after,none⟩) h)
 |some g=>
  obtain⟨j,want⟩:=g;obtain⟨h1,h2,h3⟩:=h;exact YG.of_guardE (o:=⟨dst,op,ty,pos,after,some (j,want)⟩) (v:=(aL P op (eE α) H).v) (H1:=(aL P op (eE α) H).H) rfl h1 (eE α)
   (fun c a hg hl x hx=>eG (eS fun t ht=>hl t (bF (by subst ht;exact hx))) (dA h2 x hx) hg)
   (fun hg=>eH (h3 hg))
def aJR(P:Program)(all:List Oper)(o:Oper)(α:AF)(H:AHeap)(v:AV)(H1:AHeap):Prop:=
 match o with
 |⟨_,.call ⟨.value f,xs,_⟩,_,_,_,none⟩=>ACall P (ev α f) (xs.toList.map (ev α)) H (fun v' H'=>v'=v∧H'=H1)
 |⟨_,.call ⟨.value f,xs,_⟩,_,_,_,some (j,want)⟩=>qU (aK α (bT all j))∧cX (bC (aK α (bT all j)) want) α (f::xs.toList)∧
   ∃u,(bC (aK α (bT all j)) want=true→ACall P (eE α f) (xs.toList.map (eE α)) H (fun v' H'=>v'=u∧H'=H1))∧(bC (aK α (bT all j)) want=false→H1=H)∧v=.opt (bC (aK α (bT all j)) want) u
 |o=>aVr P all o α H∧v=aVs P all o α H∧H1=aVt P all o α H
theorem aGG{N:Nat}{ops:Array Oper}{o:Oper}{α:AF}{H H1:AHeap}{v:AV}(h:aJR P ops.toList o α H v H1):yv P N ops o α v H H1:=by
 unfold aJR at h;split at h
 ·exact YG.of_does rfl (iC rfl h)
 ·rename_i dst f xs ts ty pos after j want;obtain⟨h1,h2,u,h3,h4,rfl⟩:=h;refine YG.mono (YG.of_guardE (o:=⟨dst,.call ⟨.value f,xs,ts⟩,ty,pos,after,some (j,want)⟩) (H1:=H1) rfl h1 (eE α) (fun c a hg hl x hx=>eG (eS fun t ht=>hl t (bF (by subst ht;exact hx))) (dA h2 x (by simpa[Op.operands,Call.operands]using hx)) hg)
   (fun hg=>iC rfl (h3 hg))) fun v' H' ⟨e1,e2⟩=>⟨e1,e2.trans ?_⟩
  grind
 ·obtain⟨h1,rfl,rfl⟩:=h;exact aNM h1
def bQ(P:Program)(all:List Oper):List Pl→List Oper→Nat→AF→AHeap→List AHeap→fT→(AF→AHeap→Prop)→Prop
 |[],[],_,α,H,_,_,kont=>kont α H
 |.free::ps,o::os,k,α,H,hist,past,kont=>∃v,pureAt P all H o α v∧bQ P all ps os (k+1) (bO o.dst v α) H hist past kont
 |.pure w::ps,o::os,k,α,H,hist,past,kont=>∃v,pureAt P all H o α v∧aAc w hist (fun h=>pureAt P all h o α v)∧
   bQ P all ps os (k+1) (bO o.dst v α) H hist ((k,fun h=>pureAt P all h o α v)::past) kont
 |.eff fs::ps,o::os,k,α,H,hist,past,kont=>∃v H1,aJR P all o α H v H1∧vC fs past H1∧
   bQ P all ps os (k+1) (bO o.dst v α) H1 (H::hist) (jH fs past) kont
 |_,_,_,_,_,_,_,_=>False
def oH(ops:Array Oper):List Oper→List Pl→Nat→List Nat→List Nat→Bool
 |[],[],_,_,_=>true
 |o::os,.free::ps,k,effs,past=>oG o.op&&oH ops os ps (k+1) effs past
 |_::os,.pure w::ps,k,effs,past=>(match effs[w]? with|some e=>vB ops e k|none=>true)&&oH ops os ps (k+1) effs (k::past)
 |_::os,.eff fs::ps,k,effs,past=>(match effs with|e::_=>vB ops e k|[]=>true)&&(fs.length==past.length)&&(fs.zip past).all (fun x=>x.1||vB ops x.2 k)&&oH ops os ps (k+1) (k::effs) (jH fs past)
 |_,_,_,_,_=>false
def eF:List Pl→Nat→List Nat
 |[],_=>[]
 |.eff _::ps,k=>k::eF ps (k+1)
 |_::ps,k=>eF ps (k+1)
theorem jA:∀(pl:List Pl) (k i:Nat),i∈eF pl k→k≤i
 |[],_,_,h=>by cases h
 |.eff _::ps,k,i,h=>by
  cases h with
  |head=>exact zAf _
  |tail _ h=>exact zAO (zBO _) (jA ps (k+1) i h)
 |.free::ps,k,i,h=>zAO (zBO _) (jA ps (k+1) i h)
 |.pure _::ps,k,i,h=>zAO (zBO _) (jA ps (k+1) i h)
theorem aB3{φ:AHeap→Prop}:∀{w:Nat} {hs:List AHeap},aAc w hs φ→∀i h,i<w→hs[i]?=some h→φ h
 |0,_,_,_,_,hi,_=>absurd hi (Nat.not_lt_zero _)
 |w+1,[],_,i,h,_,hh=>by simp at hh
 |w+1,g::hs,k,0,h,_,hh=>by simp at hh;subst hh;exact k.1
 |w+1,g::hs,k,i+1,h,hi,hh=>aB3 k.2 i h (Nat.lt_of_succ_lt_succ hi) (by simpa using hh)
def Falls(ops:Array Oper):List Nat→Prop
 |a::b::l=>vB ops b a=true∧Falls ops (b::l)
 |_=>True
theorem Falls.tail{ops:Array Oper}{a:Nat}{l:List Nat}(h:Falls ops (a::l)):Falls ops l:=by
 cases l with
 |nil=>trivial
 |cons b l=>exact h.2
theorem xH{ops:Array Oper}:∀{l:List Nat},Falls ops l→∀(p q a b:Nat),p≤q→l[p]?=some a→l[q]?=some b→Lst ops b a
 |[],_,p,_,_,_,_,h,_=>by simp at h
 |x::l,hf,0,0,a,b,_,h1,h2=>by simp at h1 h2;subst h1;subst h2;exact .refl _
 |x::l,hf,p+1,0,_,_,h,_,_=>absurd h (Nat.not_succ_le_zero p)
 |x::l,hf,p+1,q+1,a,b,h,h1,h2=>xH hf.tail p q a b (Nat.le_of_succ_le_succ h) (by simpa using h1) (by simpa using h2)
 |x::l,hf,0,q+1,a,b,_,h1,h2=>by
  simp at h1;subst h1;cases l with
  |nil=>simp at h2
  |cons y l=>exact(xH hf.tail 0 q y b (zAo _) (by simp) (by simpa using h2)).trans (.dir hf.1)
theorem xI{ops:Array Oper}{k:Nat}{h:AHeap}:∀{fs:List Bool} {ps:fT},vC fs ps h→fs.length=ps.length→(∀x∈fs.zip (ps.map (·.1)),(x.1||vB ops x.2 k)=true)→
  ∀p∈ps,p.2 h∨vB ops p.1 k=true
 |[],[],_,_,_,p,hp=>by cases hp
 |true::fs,q::ps,ha,hl,hz,p,hp=>by
  cases hp with
  |head=>exact .inl ha.1
  |tail _ hp=>exact xI ha.2 (by simpa using hl) (fun x hx=>hz x (by simp_all)) p hp
 |false::fs,q::ps,ha,hl,hz,p,hp=>by
  cases hp with
  |head=>simp_all
  |tail _ hp=>exact xI (show vC fs ps h from ha) (by simpa using hl) (fun x hx=>hz x (by simp only[zAw,List.zip_cons_cons];exact .tail _ hx)) p hp
 |[],_::_,_,hl,_,_,_=>by simp at hl
 |_::_,[],_,hl,_,_,_=>by simp at hl
theorem xJ{β:Type}(f:(Nat×(AHeap→Prop))→β):∀(fs:List Bool) (ps:fT),(jH fs ps).map f=jH fs (ps.map f)
 |[],ps=>by cases ps<;>rfl
 |true::fs,[]=>rfl
 |false::fs,[]=>rfl
 |true::fs,p::ps=>by simp[jH,xJ f fs ps]
 |false::fs,p::ps=>by simp[jH,xJ f fs ps]
theorem uF{ops:Array Oper}{k:Nat}:∀{fs:List Bool} {ps:fT},fs.length=ps.length→(∀x∈fs.zip (ps.map (·.1)),(x.1||vB ops x.2 k)=true)→∀p∈ps,p∈jH fs ps∨vB ops p.1 k=true
 |[],[],_,_,p,hp=>by cases hp
 |true::fs,q::ps,hl,hz,p,hp=>by
  cases hp with
  |head=>exact .inl (.head _)
  |tail _ hp=>exact(uF (by simpa using hl) (fun x hx=>hz x (by simp_all)) p hp).imp (.tail _) id
 |false::fs,q::ps,hl,hz,p,hp=>by
  cases hp with
  |head=>simp_all
  |tail _ hp=>exact(uF (by simpa using hl) (fun x hx=>hz x (by simp only[zAw,List.zip_cons_cons];exact .tail _ hx)) p hp).imp id id
 |[],_::_,hl,_,_,_=>by simp at hl
 |_::_,[],hl,_,_,_=>by simp at hl
def aRP(ops:Array Oper)(effs:List Nat)(tp sp:fT):Prop:=
 ∀p∈tp,(∃e l,effs=e::l∧Lst ops p.1 e)∨(∀h,p.2 h)∨∃q∈sp,q.1=p.1∧∀h,q.2 h→p.2 h
theorem nD{N:Nat}{ops:Array Oper}{plan:List Pl}{K:AF→AHeap→Prop}(hN:True):
  ∀(os:List Oper) (pl:List Pl) (k:Nat) (α:AF) (H:AHeap) (effs:List Nat) (hist:List AHeap) (tp sp:fT),oH ops os pl k effs (sp.map (·.1))=true→
   (∀i,k≤i→(i∈eF plan 0↔i∈eF pl k))→effs.length=hist.length→Falls ops effs→aRP ops effs tp sp→
   bQ P ops.toList pl os k α H hist sp K→aM P N ops (fun i=>(eF plan 0).contains i) K os k α H (effs.zip hist) tp
 |[],[],_,_,_,_,_,_,_,_,_,_,_,_,h=>h
 |o::os,.free::pl,k,α,H,effs,hist,tp,sp,hp,he,hl,hf,hpo,h=>by
  rw[oH,zAu]at hp;obtain⟨v,h1,h2⟩:=h;have hne:(eF plan 0).contains k=false:=by
   rw[←zBB,zBU,he k (zAf _)];intro hm;have:=jA pl (k+1) k hm;omega
  refine⟨v,H,⟨h1.yv,fun q=>Bool.noConfusion (hne.symm.trans q),fun _=>⟨rfl,fun e _ _=>(kV hp.1 h1).yv⟩⟩,?_⟩
  simp only[hne,zAz,zA3];refine nD hN os pl (k+1) _ H effs hist _ sp hp.2 (fun i hi=>he i (by omega)) hl hf ?_ h2
  intro p hpp;cases hpp with
  |head=>exact .inr (.inl fun h=>(kV hp.1 h1).yv)
  |tail _ hpp=>exact hpo p hpp
 |o::os,.pure w::pl,k,α,H,effs,hist,tp,sp,hp,he,hl,hf,hpo,h=>by
  rw[oH,zAu]at hp;obtain⟨v,h1,h2,h3⟩:=h;have hne:(eF plan 0).contains k=false:=by
   rw[←zBB,zBU,he k (zAf _)];intro hm;have:=jA pl (k+1) k hm;omega
  refine⟨v,H,⟨h1.yv,fun q=>Bool.noConfusion (hne.symm.trans q),fun _=>⟨rfl,fun e hee hb=>?_⟩⟩,?_⟩
  ·obtain⟨i,hi⟩:=List.getElem?_of_mem hee;rw[List.getElem?_zip_eq_some]at hi;by_cases hw:i<w
   ·exact(aB3 h2 i e.2 hw hi.2).yv
   ·have hle:i<effs.length:=(eT.1 hi.1).1;have hwl:effs[w]?=some (effs[w]'(by omega)):=zAb (by omega)
    rw[hwl]at hp;exact absurd (.dir hp.1 (xH hf w i _ _ (by omega) hwl hi.1)) hb
  ·simp only[hne,zAz,zA3];refine nD hN os pl (k+1) _ H effs hist _ _ (by simpa using hp.2) (fun i hi=>he i (by omega)) hl hf ?_ h3
   intro p hpp;cases hpp with
   |head=>exact .inr (.inr ⟨_,.head _,rfl,fun h hh=>hh.yv⟩)
   |tail _ hpp=>
    rcases hpo p hpp with q|q|⟨q,hq,q1,q2⟩
    ·exact .inl q
    ·exact .inr (.inl q)
    ·exact .inr (.inr ⟨q,.tail _ hq,q1,q2⟩)
 |o::os,.eff fs::pl,k,α,H,effs,hist,tp,sp,hp,he,hl,hf,hpo,h=>by
  simp only[oH,zAu]at hp;obtain⟨⟨⟨hch,hfl⟩,hz⟩,hrest⟩:=hp;obtain⟨v,H1,h1,h2,h3⟩:=h;have hee:(eF plan 0).contains k=true:=by
   rw[zBU,he k (zAf _)];exact .head _
  have hfl':fs.length=sp.length:=by simpa using hfl
  have hz':∀x∈fs.zip (sp.map (·.1)),(x.1||vB ops x.2 k)=true:=zAJ.1 hz
  refine⟨_,_,⟨aGG h1,fun _ p hpp hb=>?_,fun q=>Bool.noConfusion (hee.symm.trans q)⟩,?_⟩
  ·rcases hpo p hpp with⟨e,l,he',q⟩|q|⟨q,hq,q1,q2⟩
   ·rw[he']at hch;exact absurd (.dir hch q) hb
   ·exact q _
   ·rcases xI h2 hfl' hz' q hq with r|r
    ·exact q2 _ r
    ·rw[q1]at r;exact absurd (.dir r (.refl _)) hb
  ·simp only[hee,zBc];refine nD hN os pl (k+1) _ _ (k::effs) (H::hist) tp _ (by rw[xJ];exact hrest) (fun i hi=>?_) (by simp[hl]) ?_ ?_ h3
   ·rw[he i (by omega)]
    constructor
    ·intro hm;cases hm with
     |head=>omega
     |tail _ hm=>exact hm
    ·exact .tail _
   ·cases effs with
    |nil=>trivial
    |cons e l=>exact⟨hch,hf⟩
   ·intro p hpp;rcases hpo p hpp with⟨e,l,he',q⟩|q|⟨q,hq,q1,q2⟩
    ·rw[he']at hch;exact .inl ⟨k,effs,rfl,q.trans (.dir hch)⟩
    ·exact .inr (.inl q)
    ·rcases uF hfl' hz' q hq with r|r
     ·exact .inr (.inr ⟨q,r,q1,q2⟩)
     ·rw[q1]at r;exact .inl ⟨k,effs,rfl,.dir r⟩
theorem aAS{all:List Oper}{k k':AF→AHeap→Prop}(hk:∀α H,k α H→k' α H)(pl:List Pl):∀(l:List Oper) (n:Nat) (α:AF) (H:AHeap) (hist:List AHeap) (past:fT),bQ P all pl l n α H hist past k→bQ P all pl l n α H hist past k':=by
 induction pl with
 |nil=>
  grind [List,Oper,Nat,bQ]
 |cons p ps ih=>
  intro l n α H hist past h;cases l with
  |nil=>cases p<;>exact h
  |cons o os=>
   cases p with
   |free=>grind [List,Oper,Nat,bQ]
   |pure w=>obtain⟨v,h1,h2,h3⟩:=h;grind [List,Oper,Nat,bQ]
   |eff fs=>obtain⟨v,H1,h1,h2,h3⟩:=h;exact⟨v,H1,h1,h2,ih _ _ _ _ _ _ h3⟩
theorem tS{N id:Nat}{ops:Array Oper}{Q:bL}{α:AF}{H:AHeap}(plan:List Pl)(hm:P.follows .mixedOrders=true)(hd:pJ N ops=true)(hB:Region.lexB .any ops=true)
  (hp:(oH ops ops.toList plan 0 [] []&&iZ ops (eF plan 0))=true) (h:bQ P ops.toList plan ops.toList 0 α H [] [] (fun α' H'=>Q .normal α' H')):aw P N (.region id ops true) Q α H:=by
 intro r c a _ hs ha;simp only[Region.lexB,zAu]at hB hp;refine wpIn_region_any hm ?_;have h1:=aAS (k':=fun α' H'=>∃β,Alike α' β∧Q .normal β H') (fun α' H' hq=>⟨α',fun _=>rfl,hq⟩) _ _ _ _ _ _ _ h
 have h2:=nD (P:=P) (N:=N) (ops:=ops) (plan:=plan) trivial ops.toList plan 0 α H [] [] [] [] hp.1 (fun _ _=>Iff.rfl) rfl trivial (fun p hp=>by cases hp) h1
 have hEE:∀i j,(eF plan 0).contains i=true→(eF plan 0).contains j=true→j≠i→∀listed,Closed ops listed→i∈Region.ready .any ops listed→j∈Region.ready .any ops listed→False:=by
  intro i j hi hj hne listed hc h1 h2;rcases aAR hp.2 i j (zBU.1 hi) (zBU.1 hj) hne with q|q
  ·exact pM hc h1 h2 q
  ·exact pM hc h2 h1 q
 have hc0:Closed ops (Array.replicate ops.size false):=by
  intro q o hq;rw[zBI]at hq;grind
 have h3:=aDN (fun α β H hab ⟨γ,hg,hq⟩=>⟨γ,fun t=>(hab t).symm.trans (hg t),hq⟩) hEE ops.toList 0 (Array.replicate ops.size false) α H _ _ (by simp) hc0 (by simpa using hB.2) h2
 have h4:=kO (r:=r) (P:=P) (Q:=aBX N c Q) hd c (fun α' H' c' a' ⟨β,hab,hq⟩ hs' hx' ha'=>⟨c',β,H',rfl,hs',hx',ha'.weaken fun t=>.inr (hab t).symm,hq⟩)
  ops.toList.length (Array.replicate ops.size false) α H _ _ c.draw a hs.draw (Ext.draw c) (ha.mono (Ext.draw c)) h3
 rw[Array.length_toList]at h4;exact h4
end
section
variable {P:Program}
theorem exF{A B:Prop}{b:AV}{X:AV→Prop}:(∃v,(A∧B∧v=b)∧X v)=(A∧B∧X b):=
 propext ⟨fun⟨_,⟨h1,h2,e⟩,x⟩=>⟨h1,h2,e▸x⟩,fun⟨h1,h2,x⟩=>⟨b,⟨h1,h2,rfl⟩,x⟩⟩
theorem exG{A B C:Prop}{b:AV}{X:AV→Prop}:(∃v,(A∧B∧C∧v=b)∧X v)=(A∧B∧C∧X b):=
 propext ⟨fun⟨_,⟨h1,h2,h3,e⟩,x⟩=>⟨h1,h2,h3,e▸x⟩,fun⟨h1,h2,h3,x⟩=>⟨b,⟨h1,h2,h3,rfl⟩,x⟩⟩
theorem exP{A B:Prop}{b:AV}{W X:AV→Prop}:(∃v,(A∧B∧v=b)∧W v∧X v)=(A∧B∧W b∧X b):=
 propext ⟨fun⟨_,⟨h1,h2,e⟩,y,x⟩=>⟨h1,h2,e▸y,e▸x⟩,fun⟨h1,h2,y,x⟩=>⟨b,⟨h1,h2,rfl⟩,y,x⟩⟩
theorem exQ{A B C:Prop}{b:AV}{W X:AV→Prop}:(∃v,(A∧B∧C∧v=b)∧W v∧X v)=(A∧B∧C∧W b∧X b):=
 propext ⟨fun⟨_,⟨h1,h2,h3,e⟩,y,x⟩=>⟨h1,h2,h3,e▸y,e▸x⟩,fun⟨h1,h2,h3,y,x⟩=>⟨b,⟨h1,h2,h3,rfl⟩,y,x⟩⟩
theorem exE{A:Prop}{b:AV}{G:AHeap}{W:AHeap→Prop}{X:AV→AHeap→Prop}:(∃v H1,(A∧v=b∧H1=G)∧W H1∧X v H1)=(A∧W G∧X b G):=
 propext ⟨fun⟨_,_,⟨h1,e,e'⟩,y,x⟩=>by subst e;subst e';exact⟨h1,y,x⟩,fun⟨h1,y,x⟩=>⟨b,G,⟨h1,rfl,rfl⟩,y,x⟩⟩
attribute [go_sem] vC jH aAc
def aJS(P:Program)(g:Bool)(f:AV)(xs:List AV)(H:AHeap)(K:AV→AHeap→Prop):Prop:=
 ∃v H1,(g=true→ACall P f xs H (fun v' H'=>v'=v∧H'=H1))∧(g=false→H1=H)∧K v H1
def jB(P:Program)(g:Bool)(f:AV)(xs:List AV)(v:AV):AHeap→Prop:=fun h=>g=true→ACall P f xs h (fun v' H'=>v'=v∧H'=h)
def aB4(P:Program)(g:Bool)(f:AV)(xs:List AV)(H:AHeap)(w:Nat)(hist:List AHeap)(K:AV→Prop):Prop:=∃v,jB P g f xs v H∧aAc w hist (jB P g f xs v)∧K v
section
variable (all os:List Oper) (pp:List Pl) (w k:Nat) (fs:List Bool) (α:AF) (H:AHeap) (hist:List AHeap) (past:fT) (kont:AF→AHeap→Prop) (dst:Option Tmp) (ty:TypeId) (pos:String) (after:Array Edge)
def aFd(P:Program)(all:List Oper)(pp:List Pl)(os:List Oper)(k:Nat)(dst:Option Tmp)(α:AF)(H:AHeap)(hist:List AHeap)(past:fT)(kont:AF→AHeap→Prop)(f:AV)(xs:List AV):AV→Prop:=
 fun v=>bQ P all pp os (k+1) (bO dst v α) H hist ((k,jB P true f xs v)::past) kont
def aJT(P:Program)(all:List Oper)(pp:List Pl)(os:List Oper)(k:Nat)(dst:Option Tmp)(g:Bool)(α:AF)(H:AHeap)(hist:List AHeap)(past:fT)(kont:AF→AHeap→Prop)(f:AV)(xs:List AV):AV→Prop:=
 fun v=>bQ P all pp os (k+1) (bO dst (.opt g v) α) H hist ((k,jB P g f xs v)::past) kont
@[go_sem] theorem mN:bQ P all [] [] k α H hist past kont=kont α H:=rfl
@[go_sem] theorem aVu(f:Operand)(xs:Array Operand)(ts:Array TypeId):bQ P all (.pure w::pp) (⟨dst,.call ⟨.value f,xs,ts⟩,ty,pos,after,none⟩::os) k α H hist past kont=
  aB4 P true (ev α f) (xs.toList.map (ev α)) H w hist (aFd P all pp os k dst α H hist past kont (ev α f) (xs.toList.map (ev α))):=by
 have e:∀v,(fun h=>pureAt P all h ⟨dst,.call ⟨.value f,xs,ts⟩,ty,pos,after,none⟩ α v)=jB P true (ev α f) (xs.toList.map (ev α)) v:=fun v=>funext fun h=>propext ⟨fun k _=>k,fun k=>k rfl⟩
 show(∃v,(fun h=>pureAt P all h ⟨dst,.call ⟨.value f,xs,ts⟩,ty,pos,after,none⟩ α v) H∧aAc w hist (fun h=>pureAt P all h ⟨dst,.call ⟨.value f,xs,ts⟩,ty,pos,after,none⟩ α v)∧bQ P all pp os (k+1) (bO dst v α) H hist ((k,fun h=>pureAt P all h ⟨dst,.call ⟨.value f,xs,ts⟩,ty,pos,after,none⟩ α v)::past) kont)=_
 have e':∀v,pureAt P all H ⟨dst,.call ⟨.value f,xs,ts⟩,ty,pos,after,none⟩ α v=jB P true (ev α f) (xs.toList.map (ev α)) v H:=fun v=>congrFun (e v) H
 simp only[e,e'];rfl
@[go_sem] theorem aUc(r:Operand)(m:String)(xs:Array Operand)(ts:Array TypeId):bQ P all (.pure w::pp) (⟨dst,.call ⟨.invoke r m,xs,ts⟩,ty,pos,after,none⟩::os) k α H hist past kont=
  aB4 P true (dK P m (ev α r)) (xs.toList.map (ev α)) H w hist (aFd P all pp os k dst α H hist past kont (dK P m (ev α r)) (xs.toList.map (ev α))):=by
 have e:∀v,(fun h=>pureAt P all h ⟨dst,.call ⟨.invoke r m,xs,ts⟩,ty,pos,after,none⟩ α v)=jB P true (dK P m (ev α r)) (xs.toList.map (ev α)) v:=fun v=>funext fun h=>propext ⟨fun k _=>k,fun k=>k rfl⟩
 show(∃v,(fun h=>pureAt P all h ⟨dst,.call ⟨.invoke r m,xs,ts⟩,ty,pos,after,none⟩ α v) H∧aAc w hist (fun h=>pureAt P all h ⟨dst,.call ⟨.invoke r m,xs,ts⟩,ty,pos,after,none⟩ α v)∧bQ P all pp os (k+1) (bO dst v α) H hist ((k,fun h=>pureAt P all h ⟨dst,.call ⟨.invoke r m,xs,ts⟩,ty,pos,after,none⟩ α v)::past) kont)=_
 have e':∀v,pureAt P all H ⟨dst,.call ⟨.invoke r m,xs,ts⟩,ty,pos,after,none⟩ α v=jB P true (dK P m (ev α r)) (xs.toList.map (ev α)) v H:=fun v=>congrFun (e v) H
 simp only[e,e'];rfl
@[go_sem] theorem aUd(f:Operand)(xs:Array Operand)(ts:Array TypeId)(j:Nat)(w0:Bool):bQ P all (.pure w::pp) (⟨dst,.call ⟨.value f,xs,ts⟩,ty,pos,after,some (j,w0)⟩::os) k α H hist past kont=
  (qU (aK α (bT all j))∧cX (bC (aK α (bT all j)) w0) α (f::xs.toList)∧
   aB4 P (bC (aK α (bT all j)) w0) (eE α f) (xs.toList.map (eE α)) H w hist (aJT P all pp os k dst (bC (aK α (bT all j)) w0) α H hist past kont (eE α f) (xs.toList.map (eE α)))):=by
 refine propext ⟨?_,?_⟩
 ·rintro⟨v,⟨h1,h2,u,h3,rfl⟩,h4,h5⟩;have e:(fun h=>pureAt P all h ⟨dst,.call ⟨.value f,xs,ts⟩,ty,pos,after,some (j,w0)⟩ α (.opt (bC (aK α (bT all j)) w0) u))=jB P (bC (aK α (bT all j)) w0) (eE α f) (xs.toList.map (eE α)) u:=
   funext fun h=>propext ⟨fun⟨_,_,u',k1,k2⟩=>by cases k2;exact k1,fun k1=>⟨h1,h2,u,k1,rfl⟩⟩
  rw[e]at h4 h5;exact⟨h1,h2,u,h3,h4,h5⟩
 ·rintro⟨h1,h2,u,h3,h4,h5⟩;have e:(fun h=>pureAt P all h ⟨dst,.call ⟨.value f,xs,ts⟩,ty,pos,after,some (j,w0)⟩ α (.opt (bC (aK α (bT all j)) w0) u))=jB P (bC (aK α (bT all j)) w0) (eE α f) (xs.toList.map (eE α)) u:=
   funext fun h=>propext ⟨fun⟨_,_,u',k1,k2⟩=>by cases k2;exact k1,fun k1=>⟨h1,h2,u,k1,rfl⟩⟩
  refine⟨_,⟨h1,h2,u,h3,rfl⟩,?_,?_⟩
  ·show aAc w hist (fun h=>pureAt P all h ⟨dst,.call ⟨.value f,xs,ts⟩,ty,pos,after,some (j,w0)⟩ α (.opt (bC (aK α (bT all j)) w0) u))
   rw[e];exact h4
  ·show bQ P all pp os (k+1) _ H hist ((k,fun h=>pureAt P all h ⟨dst,.call ⟨.value f,xs,ts⟩,ty,pos,after,some (j,w0)⟩ α (.opt (bC (aK α (bT all j)) w0) u))::past) kont
   rw[e];exact h5
def aJU(P:Program)(all:List Oper)(pp:List Pl)(os:List Oper)(k:Nat)(fs:List Bool)(dst:Option Tmp)(g:Bool)(α:AF)(H:AHeap)(hist:List AHeap)(past:fT)(kont:AF→AHeap→Prop):AV→AHeap→Prop:=
 fun v H1=>vC fs past H1∧bQ P all pp os (k+1) (bO dst (.opt g v) α) H1 (H::hist) (jH fs past) kont
def aJV(P:Program)(all:List Oper)(pp:List Pl)(os:List Oper)(k:Nat)(fs:List Bool)(dst:Option Tmp)(α:AF)(H:AHeap)(hist:List AHeap)(past:fT)(kont:AF→AHeap→Prop):AV→AHeap→Prop:=
 fun v H1=>vC fs past H1∧bQ P all pp os (k+1) (bO dst v α) H1 (H::hist) (jH fs past) kont
@[go_sem] theorem aVv(f:Operand)(xs:Array Operand)(ts:Array TypeId):bQ P all (.eff fs::pp) (⟨dst,.call ⟨.value f,xs,ts⟩,ty,pos,after,none⟩::os) k α H hist past kont=
  aJS P true (ev α f) (xs.toList.map (ev α)) H (aJV P all pp os k fs dst α H hist past kont):=
 propext ⟨fun⟨v,H1,h1,h2⟩=>⟨v,H1,fun _=>h1,fun h=>(by cases h),h2⟩,fun⟨v,H1,h1,_,h2⟩=>⟨v,H1,h1 rfl,h2⟩⟩
@[go_sem] theorem aUe(f:Operand)(xs:Array Operand)(ts:Array TypeId)(j:Nat)(w0:Bool):bQ P all (.eff fs::pp) (⟨dst,.call ⟨.value f,xs,ts⟩,ty,pos,after,some (j,w0)⟩::os) k α H hist past kont=
  (qU (aK α (bT all j))∧cX (bC (aK α (bT all j)) w0) α (f::xs.toList)∧
   aJS P (bC (aK α (bT all j)) w0) (eE α f) (xs.toList.map (eE α)) H (aJU P all pp os k fs dst (bC (aK α (bT all j)) w0) α H hist past kont)):=
 propext ⟨fun⟨_,H1,⟨h1,h2,u,h3,h4,rfl⟩,h5⟩=>⟨h1,h2,u,H1,h3,h4,h5⟩,fun⟨h1,h2,u,H1,h3,h4,h5⟩=>⟨_,H1,⟨h1,h2,u,h3,h4,rfl⟩,h5⟩⟩
@[go_sem] theorem aWB(x y z:Operand):bQ P all (.free::pp) (⟨dst,.pick x y z,ty,pos,after,none⟩::os) k α H hist past kont=
  ((eR true (ev α x) (ev α y) (ev α z)).s∧bQ P all pp os (k+1) (bO dst (eR true (ev α x) (ev α y) (ev α z)).v α) H hist past kont):=
 propext ⟨fun⟨_,⟨h1,e⟩,x⟩=>⟨h1,e▸x⟩,fun⟨h1,x⟩=>⟨_,⟨h1,rfl⟩,x⟩⟩
@[go_sem] theorem aVw(x y z:Operand)(j:Nat)(w0:Bool):bQ P all (.free::pp) (⟨dst,.pick x y z,ty,pos,after,some (j,w0)⟩::os) k α H hist past kont=
  (qU (aK α (bT all j))∧((bC (aK α (bT all j)) w0)=true→(eR (bC (aK α (bT all j)) w0) (ev α x) (ev α y) (ev α z)).s)∧
    bQ P all pp os (k+1) (bO dst (.opt (bC (aK α (bT all j)) w0) (eR (bC (aK α (bT all j)) w0) (ev α x) (ev α y) (ev α z)).v) α) H hist past kont):=
 propext ⟨fun⟨_,⟨h1,h2,e⟩,x⟩=>⟨h1,h2,e▸x⟩,fun⟨h1,h2,x⟩=>⟨_,⟨h1,h2,rfl⟩,x⟩⟩
def aXp(g:Bool)(v:AV):AV:=.opt g v
attribute [go_sem] aXp
section
variable (op:Op) (h:iD op=true) (j:Nat) (w0:Bool) (v:AV)
include h
theorem aAT:pureAt P all H ⟨dst,op,ty,pos,after,none⟩ α v=((aL P op (ev α) H).s∧(aL P op (ev α) H).H=H∧v=(aL P op (ev α) H).v):=by
 cases op<;>first|rfl|(cases h;done)|skip
 rename_i c;obtain⟨ce,xs,ts⟩:=c;cases ce<;>first|rfl|cases h
theorem zB:pureAt P all H ⟨dst,op,ty,pos,after,some (j,w0)⟩ α v=(qU (aK α (bT all j))∧cX (bC (aK α (bT all j)) w0) α (pL op)∧((bC (aK α (bT all j)) w0)=true→(aL P op (eE α) H).s∧(aL P op (eE α) H).H=H)∧v=.opt (bC (aK α (bT all j)) w0) (aL P op (eE α) H).v):=by
 cases op<;>first|rfl|(cases h;done)|skip
 rename_i c;obtain⟨ce,xs,ts⟩:=c;cases ce<;>first|rfl|cases h
@[go_sem] theorem aXq:bQ P all (.free::pp) (⟨dst,op,ty,pos,after,none⟩::os) k α H hist past kont=
  ((aL P op (ev α) H).s∧(aL P op (ev α) H).H=H∧bQ P all pp os (k+1) (bO dst (aL P op (ev α) H).v α) H hist past kont):=by
 simp only[bQ,aAT (h:=h)];exact exF
@[go_sem] theorem aWC:bQ P all (.free::pp) (⟨dst,op,ty,pos,after,some (j,w0)⟩::os) k α H hist past kont=
  (qU (aK α (bT all j))∧cX (bC (aK α (bT all j)) w0) α (pL op)∧((bC (aK α (bT all j)) w0)=true→(aL P op (eE α) H).s∧(aL P op (eE α) H).H=H)∧bQ P all pp os (k+1) (bO dst (.opt (bC (aK α (bT all j)) w0) (aL P op (eE α) H).v) α) H hist past kont):=by
 simp only[bQ,zB (h:=h)];exact exG
@[go_sem] theorem aXr:bQ P all (.pure w::pp) (⟨dst,op,ty,pos,after,none⟩::os) k α H hist past kont=
  ((aL P op (ev α) H).s∧(aL P op (ev α) H).H=H∧aAc w hist (fun h=>(aL P op (ev α) h).s∧(aL P op (ev α) h).H=h∧(aL P op (ev α) H).v=(aL P op (ev α) h).v)∧
    bQ P all pp os (k+1) (bO dst (aL P op (ev α) H).v α) H hist ((k,fun h=>(aL P op (ev α) h).s∧(aL P op (ev α) h).H=h∧(aL P op (ev α) H).v=(aL P op (ev α) h).v)::past) kont):=by
 simp only[bQ,aAT (h:=h)];exact exP
@[go_sem] theorem aWD:bQ P all (.pure w::pp) (⟨dst,op,ty,pos,after,some (j,w0)⟩::os) k α H hist past kont=
  (qU (aK α (bT all j))∧cX (bC (aK α (bT all j)) w0) α (pL op)∧((bC (aK α (bT all j)) w0)=true→(aL P op (eE α) H).s∧(aL P op (eE α) H).H=H)∧
   aAc w hist (fun h=>qU (aK α (bT all j))∧cX (bC (aK α (bT all j)) w0) α (pL op)∧((bC (aK α (bT all j)) w0)=true→(aL P op (eE α) h).s∧(aL P op (eE α) h).H=h)∧AV.opt (bC (aK α (bT all j)) w0) (aL P op (eE α) H).v=.opt (bC (aK α (bT all j)) w0) (aL P op (eE α) h).v)∧
   bQ P all pp os (k+1) (bO dst (.opt (bC (aK α (bT all j)) w0) (aL P op (eE α) H).v) α) H hist ((k,fun h=>qU (aK α (bT all j))∧cX (bC (aK α (bT all j)) w0) α (pL op)∧((bC (aK α (bT all j)) w0)=true→(aL P op (eE α) h).s∧(aL P op (eE α) h).H=h)∧AV.opt (bC (aK α (bT all j)) w0) (aL P op (eE α) H).v=.opt (bC (aK α (bT all j)) w0) (aL P op (eE α) h).v)::past) kont):=by
 simp only[bQ,zB (h:=h)];exact exQ
theorem aJW(H1:AHeap):aJR P all ⟨dst,op,ty,pos,after,none⟩ α H v H1=((aL P op (ev α) H).s∧v=(aL P op (ev α) H).v∧H1=(aL P op (ev α) H).H):=by
 cases op<;>first|rfl|(cases h;done)|skip
 rename_i c;obtain⟨ce,xs,ts⟩:=c;cases ce<;>first|rfl|cases h
theorem aH1(H1:AHeap):aJR P all ⟨dst,op,ty,pos,after,some (j,w0)⟩ α H v H1=((qU (aK α (bT all j))∧cX (bC (aK α (bT all j)) w0) α (pL op)∧((bC (aK α (bT all j)) w0)=true→(aL P op (eE α) H).s))∧v=.opt (bC (aK α (bT all j)) w0) (aL P op (eE α) H).v∧H1=(bif (bC (aK α (bT all j)) w0)then(aL P op (eE α) H).H else H)):=by
 cases op<;>first|rfl|(cases h;done)|skip
 rename_i c;obtain⟨ce,xs,ts⟩:=c;cases ce<;>first|rfl|cases h
@[go_sem] theorem aXs:bQ P all (.eff fs::pp) (⟨dst,op,ty,pos,after,none⟩::os) k α H hist past kont=
  ((aL P op (ev α) H).s∧vC fs past (aL P op (ev α) H).H∧bQ P all pp os (k+1) (bO dst (aL P op (ev α) H).v α) (aL P op (ev α) H).H (H::hist) (jH fs past) kont):=by
 simp only[bQ,aJW (h:=h)];exact exE (X:=fun v H1=>bQ P all pp os (k+1) (bO dst v α) H1 (H::hist) (jH fs past) kont)
@[go_sem] theorem aWE:bQ P all (.eff fs::pp) (⟨dst,op,ty,pos,after,some (j,w0)⟩::os) k α H hist past kont=
  ((qU (aK α (bT all j))∧cX (bC (aK α (bT all j)) w0) α (pL op)∧((bC (aK α (bT all j)) w0)=true→(aL P op (eE α) H).s))∧vC fs past (bif (bC (aK α (bT all j)) w0)then(aL P op (eE α) H).H else H)∧
    bQ P all pp os (k+1) (bO dst (.opt (bC (aK α (bT all j)) w0) (aL P op (eE α) H).v) α) (bif (bC (aK α (bT all j)) w0)then(aL P op (eE α) H).H else H) (H::hist) (jH fs past) kont):=by
 simp only[bQ,aH1 (h:=h)];exact exE (X:=fun v H1=>bQ P all pp os (k+1) (bO dst v α) H1 (H::hist) (jH fs past) kont)
end
end
@[go_sem] theorem aUf(all os:List Oper)(pp:List Pl)(k:Nat)(fs:List Bool)(dst:Option Tmp)(g:Bool)(α:AF)(H:AHeap)(hist:List AHeap)(past:fT)(kont:AF→AHeap→Prop)(v:AV)(H1:AHeap):
  aJU P all pp os k fs dst g α H hist past kont v H1=(vC fs past H1∧bQ P all pp os (k+1) (bO dst (.opt g v) α) H1 (H::hist) (jH fs past) kont):=rfl
@[go_sem] theorem aUg(all os:List Oper)(pp:List Pl)(k:Nat)(fs:List Bool)(dst:Option Tmp)(α:AF)(H:AHeap)(hist:List AHeap)(past:fT)(kont:AF→AHeap→Prop)(v:AV)(H1:AHeap):
  aJV P all pp os k fs dst α H hist past kont v H1=(vC fs past H1∧bQ P all pp os (k+1) (bO dst v α) H1 (H::hist) (jH fs past) kont):=rfl
theorem aB5{g:Bool}{f:FuncId}{args:List AV}{x:AV}{h:AHeap}(hf:∀h,bH P f args h x)(ok:dV P f=true):jB P g (.func (.func f) [] []) args x h:=
 fun _=>Or.inl ⟨ok,by simp only[zAW,zAd];exact hf h⟩
theorem bW{g:Bool}{f:FuncId}{first args cap:List AV}{H:AHeap}{x:AV}{w:Nat}{hist:List AHeap}{K:AV→Prop}(hf:∀h,bH P f (first++args++cap) h x)(ok:dV P f=true)(hk:K x):aB4 P g (.func (.func f) first cap) args H w hist K:=by
 have hc:∀h,jB P g (.func (.func f) first cap) args x h:=fun h _=>Or.inl ⟨ok,hf h⟩
 refine⟨x,hc H,?_,hk⟩;have:∀(w:Nat) (hs:List AHeap),aAc w hs (jB P g (.func (.func f) first cap) args x):=by
  intro w;induction w with
  |zero=>intro hs;trivial
  |succ w ih=>intro hs;cases hs with
   |nil=>trivial
   |cons h hs=>exact⟨hc h,ih hs⟩
 exact this w hist
theorem bB{g:Bool}{f:FuncId}{args:List AV}{H:AHeap}{x:AV}{w:Nat}{hist:List AHeap}{K:AV→Prop}(hf:∀h,bH P f args h x)(ok:dV P f=true)(hk:K x):aB4 P g (.func (.func f) [] []) args H w hist K:=by
 refine⟨x,aB5 hf ok,?_,hk⟩;have:∀(w:Nat) (hs:List AHeap),aAc w hs (jB P g (.func (.func f) [] []) args x):=by
  intro w;induction w with
  |zero=>intro hs;trivial
  |succ w ih=>intro hs;cases hs with
   |nil=>trivial
   |cons h hs=>exact⟨aB5 hf ok,ih hs⟩
 exact this w hist
end
section
attribute [go_sem] aGC aJO aE7 aE8 aFd aJT aP7 TypeDesc.isAgg Option.isSome_some Option.isSome_none Bool.false_eq_true Bool.true_eq_false not_true_eq_false not_false_eq_true true_and and_true and_self List.getElem?_toArray List.getElem?_cons_zero List.getElem?_cons_succ List.getElem?_nil List.length_map List.append_eq List.range_zero List.cons_append List.nil_append Nat.one_ne_zero implies_true
attribute [go_sem] Nat.reduceEqDiff Nat.reduceAdd Nat.reduceSub Nat.reduceMul Nat.reduceLeDiff Nat.reduceLT Nat.reduceBEq Int.reduceNeg Int.reduceLE Int.reduceLT Int.reduceToNat String.reduceEq
attribute [go_sem ↓] reduceIte
section
variable {P:Program} {f:FuncId} {args:List AV} {x:AV} {H:AHeap}
theorem cK{k:AV→AHeap→Prop}(h:∀H,bH P f args H x)(ok:dV P f=true)(hk:k x H):lN P (.func (.func f) [] []) args H k:=aZ (h H) ok hk
theorem cP{g:Bool}{k:AV→Prop}(h:∀H,bH P f args H x)(ok:dV P f=true)(hk:k x):lM P g (.func (.func f) [] []) args H k:=bA (h H) ok hk
theorem cM{g:Bool}{w:Nat}{hist:List AHeap}{k:AV→Prop}(h:∀H,bH P f args H x)(ok:dV P f=true)(hk:k x):aB4 P g (.func (.func f) [] []) args H w hist k:=bB (fun H=>h H) ok hk
theorem aB6{g:Bool}(h:bH P f args H x)(ok:dV P f=true):jB P g (.func (.func f) [] []) args x H:=
 fun _=>Or.inl ⟨ok,by simp only[zAW,zAd];exact h⟩
end
def isE:Code→Bool
 |.skip|.ret|.exit _|.label _=>true
 |_=>false
def aJX:Code→Exit
 |.ret=>.ret
 |.exit i=>.exit i
 |_=>.normal
theorem aE{P:Program}{N:Nat}{c:Code}{Q:bL}{α:AF}{H:AHeap}(hc:isE c=true)(h:Q (aJX c) α H):aw P N c Q α H:=by
 cases c<;>first
  |exact aGy h
  |exact aQL h
  |exact aM6 h
  |exact aJi h
  |cases hc
@[go_sem] theorem aUh:aJX .skip=.normal:=rfl
@[go_sem] theorem aVx:aJX .ret=.ret:=rfl
@[go_sem] theorem aUi(i:Nat):aJX (.exit i)=.exit i:=rfl
@[go_sem] theorem aRQ(i:Nat):aJX (.label i)=.normal:=rfl
section
variable {P:Program} {f:FuncId} {fn:Func} {code:Code} {args:List AV} {H:AHeap} {x:AV} {R:AV→AHeap→Prop}
theorem fO(hf:P.funcs[f]?=some fn)(h:aw P fn.ntmps code (xD P fn.results.toList fun v H'=>∃L y,H'=H++L∧Frz H.length H' v y∧y=x) (eU 0 args) H)(hb:fn.body=some code:=by rfl)(hn:args.length≤fn.ntmps:=by exact zBS rfl):bH P f args H x:=aRJ hf hb hn h
theorem aO(hf:P.funcs[f]?=some fn)(h:aw P fn.ntmps code (xD P fn.results.toList fun v H'=>∃H1 L y,H'=H1++L∧H1.length=H.length∧(∀(i:Nat) (b:ABlk),H1[i]?=some b→H[i]?=some b∨ClB H.length b)∧Frz H.length H' v y∧R y H1) (eU 0 args) H)(hb:fn.body=some code:=by rfl)(hn:args.length≤fn.ntmps:=by exact zBS rfl):ACalls P f args H R:=aH0 hf hb hn h
theorem aQ(hf:P.funcs[f]?=some fn)(h:aw P fn.ntmps code (xD P fn.results.toList fun v H'=>∃H1 L y,H'=H1++L∧H.length≤H1.length∧(∀(i:Nat) (b:ABlk),H1[i]?=some b→H[i]?=some b∨ClB H1.length b)∧Frz H1.length H' v y∧R y H1) (eU 0 args) H)(hb:fn.body=some code:=by rfl)(hn:args.length≤fn.ntmps:=by exact zBS rfl):ACalls P f args H R:=aDM hf hb hn h
theorem aW(hf:P.funcs[f]?=some fn)(h:aw P fn.ntmps code (xD P fn.results.toList R) (eU 0 args) H)(hb:fn.body=some code:=by rfl)(hn:args.length≤fn.ntmps:=by exact zBS rfl):ACalls P f args H R:=jP hf hb hn h
end
theorem dY{n:Nat}{H L:AHeap}{v x:AV}(hs:Sim v x)(hp:Pur v:=by simp only[go_sem]):∃L' y,H++L=H++L'∧Frz n (H++L) v y∧y=x:=done hp hs
theorem cL{n:Nat}{H:AHeap}{v x:AV}(hs:Sim v x)(hp:Pur v:=by simp only[go_sem]):∃L' y,H=H++L'∧Frz n H v y∧y=x:=aB1 hp hs
theorem dT{p:Prop}[Decidable p](h:p:=by omega):decide p=true:=zAj h
theorem dF{p:Prop}[Decidable p](h:¬p:=by omega):decide p=false:=zAg h
theorem wI{n:Int}(h1: -9223372036854775808≤n:=by omega)(h2:n≤9223372036854775807:=by omega):IntKind.i64.wrap n=n:=wrap_i64 h1 h2
theorem gQ{p q c:Prop}(h:c)(k:q)(t:c→q→p:=by first|exact fun h k=>cK h cO k|exact fun h k=>cP h cO k|exact fun h k=>cM h cO k):p:=t h k
theorem gS{p q:Prop}(k:q)(t:q→p:=by first|exact fun k=>rC (.bool false) k|exact fun k=>dR rfl k|exact fun k=>mG pP rfl (by kernel_rfl) k|exact fun k=>aE rfl k|exact fun k=>cK (by assumption) cO k|exact fun k=>cP (by assumption) cO k|exact fun k=>cM (by assumption) cO k):p:=t k
theorem gC{p q g:Prop}(k:q)(e:(p∧q)=g:=by with_reducible rfl)(t:p:=by first|exact aB6 ((by assumption:∀H,bH _ _ _ H _) _) cO|omega|(intros;simp_all;done)|(simp;omega)):g:=e▸⟨t,k⟩
theorem gC2{p q r g:Prop}(k:q∧r)(e:((p∧q)∧r)=g:=by with_reducible rfl)(t:p:=by exact aB6 ((by assumption:∀H,bH _ _ _ H _) _) cO):g:=e▸⟨⟨t,k.1⟩,k.2⟩
theorem gA{p q:Prop}(k:q)(t:q→p:=by first|exact fun k=>aGD k|exact fun k=>aGE k|exact fun k=>pF k|exact fun k=>aDz k|exact fun k=>aDL k|exact fun k=>gC k|exact fun k=>gC2 k):p:=t k
theorem gD{P:Program}{N:Nat}{x:Operand}{y z:Code}{b:Bool}{Q:bL}{α:AF}{H:AHeap}(h1:b=true→aw P N y Q α H)(h2:b=false→aw P N z Q α H)(hx:ev α x=.bool b:=by exact rfl):aw P N (.cond x y z) Q α H:=eJ hx h1 h2
theorem gT{p r q:Prop}(h:q→r)(t:r→p:=by first|exact fun k=>rC (.bool false) k|exact fun k=>dR rfl k|exact fun k=>mG pP rfl (by kernel_rfl) k|exact fun k=>aE rfl k|exact fun k=>cK (by assumption) cO k|exact fun k=>cP (by assumption) cO k|exact fun k=>cM (by assumption) cO k):q→p:=fun k=>t (h k)
theorem gU{p r q:Prop}(h:q→r)(t:r→p:=by first|exact fun k=>aGD k|exact fun k=>aGE k|exact fun k=>pF k|exact fun k=>aDz k|exact fun k=>aDL k|exact fun k=>gC k|exact fun k=>gC2 k):q→p:=fun k=>t (h k)
theorem gG{p q:Prop}(k:q)(t:q→p:=by(repeat' first|(refine gT ?_;simp only[go_sem])|refine gU ?_|fail);exact fun k=>k):p:=t k
theorem gH{p q:Prop}(k:q)(t:q→p:=by(repeat' first|(refine gT ?_;simp only[go_sem, *])|refine gU ?_|fail);exact fun k=>k):p:=t k
theorem gK{c p q:Prop}(e:c)(k:q)(t:c→q→p:=by intro e;(repeat' first|(refine gT ?_;simp only[go_sem, *])|refine gU ?_|fail);exact fun k=>k):p:=t e k
theorem aA{a b:Bool}{p:Prop}(h:a=b)(t:a=b→False:=by intro h;first|(simp at h;done)|(simp at h;omega)):p:=(t h).elim
theorem mx{P:Program}{N id:Nat}{ops:Array Oper}{Q:bL}{α:AF}{H:AHeap}(ids:List Nat)(plan:List Pl)(h:bQ P ops.toList plan ops.toList 0 α H [] [] (fun α' H'=>Q .normal α' H'))(hi:ids.contains id=true:=by rfl)(hm:P.follows .mixedOrders=true:=by exact pP)(hd:pJ N ops=true:=by rfl)
  (hB:Region.lexB .any ops=true:=by kernel_rfl) (hp:(oH ops ops.toList plan 0 [] []&&iZ ops (eF plan 0))=true:=by kernel_rfl):aw P N (.region id ops true) Q α H:=tS plan hm hd hB hp h
end
section
abbrev Txt:=List UInt8
structure Stm where
 c:Int
 r:Int
deriving DecidableEq,Inhabited
structure Opn where
 at_:Stm
 kind:Int
 node:Int
 parent:Int
 name:Txt
 data:Txt
deriving DecidableEq,Inhabited
structure Nd where
 id:Int
 parent:Int
 name:Txt
 moved:Stm
 data:Txt
 wrote:Stm
deriving DecidableEq,Inhabited
structure Und where
 did:Bool
 had:Bool
 was:Nd
deriving DecidableEq,Inhabited
structure Ent where
 op:Opn
 undo:Und
deriving DecidableEq,Inhabited
structure Lg where
 entries:List Ent
 nodes:List Nd
deriving DecidableEq,Inhabited
def st0:Stm:=⟨0,0⟩
def nd0:Nd:=⟨0,0,[],st0,[],st0⟩
def aRR:Und:=⟨false,false,nd0⟩
def op0:Opn:=⟨st0,0,0,0,[],[]⟩
def stA(s:Stm):AV:=.agg [.int .i64 s.c,.int .i64 s.r]
def opA(o:Opn):AV:=.agg [.int .i64 o.at_.c,.int .i64 o.at_.r,.int .i64 o.kind,.int .i64 o.node,.int .i64 o.parent,.str o.name,.str o.data]
def ndA(n:Nd):AV:=.agg [.int .i64 n.id,.int .i64 n.parent,.str n.name,.int .i64 n.moved.c,.int .i64 n.moved.r,.str n.data,.int .i64 n.wrote.c,.int .i64 n.wrote.r]
def unA(u:Und):AV:=.agg [.bool u.did,.bool u.had,.int .i64 u.was.id,.int .i64 u.was.parent,.str u.was.name,.int .i64 u.was.moved.c,.int .i64 u.was.moved.r,.str u.was.data,.int .i64 u.was.wrote.c,.int .i64 u.was.wrote.r]
def iB(e:Ent):AV:=.agg [.int .i64 e.op.at_.c,.int .i64 e.op.at_.r,.int .i64 e.op.kind,.int .i64 e.op.node,.int .i64 e.op.parent,.str e.op.name,.str e.op.data,
 .bool e.undo.did,.bool e.undo.had,.int .i64 e.undo.was.id,.int .i64 e.undo.was.parent,.str e.undo.was.name,.int .i64 e.undo.was.moved.c,.int .i64 e.undo.was.moved.r,.str e.undo.was.data,.int .i64 e.undo.was.wrote.c,.int .i64 e.undo.was.wrote.r]
def bK(n:Int):AV:=.int .i64 n
def lgF(f1 f2:Bool)(g:Lg):AV:=.agg [.sl f1 (g.entries.map iB),.sl f2 (g.nodes.map ndA)]
def lgA(g:Lg):AV:=lgF false false g
@[go_sem] theorem aXt(x:Stm):Pur (stA x)=True:=by simp only[stA,go_sem]
@[go_sem] theorem aXu(x:Opn):Pur (opA x)=True:=by simp only[opA,go_sem]
@[go_sem] theorem aXv(x:Nd):Pur (ndA x)=True:=by simp only[ndA,go_sem]
@[go_sem] theorem aXw(x:Und):Pur (unA x)=True:=by simp only[unA,go_sem]
@[go_sem] theorem aXx(x:Ent):Pur (iB x)=True:=by simp only[iB,go_sem]
@[go_sem] theorem aXy(x:Int):Pur (bK x)=True:=by simp only[bK,go_sem]
@[go_sem] theorem aXz(f1 f2:Bool)(x:Lg):Pur (lgF f1 f2 x)=True:=by simp only[lgF,go_sem]
@[go_sem] theorem aXA(x:Lg):Pur (lgA x)=True:=by simp only[lgA,go_sem]
theorem aN{α:Type}(g:α→AV){l:List α}{i:Nat}(h:i<l.length):(l.map g).getD i .top=g l[i]:=by
 rw[zAh,zAP,zAb h];rfl
theorem aJZ(a b:Stm):(decide (a.c=b.c)&&decide (a.r=b.r))=decide (a=b):=by
 cases a;cases b;rw[zBo];simp
end
section
open Go.ChangeShapes Go.WideShapes Go.ChangeAt Go.RowKit
variable {P:Program}
def eP(P:Program)(t:TypeId):Bool:=
 match P.underlying t with
 |some (.struct _)|some (.array _ _)=>true
 |_=>false
def mkA(P:Program)(t:TypeId)(ys:List AV):AV:=if eP P t=true then .agg ys else ys.headD .top
def aNN(P:Program):Nat→List Field→Bool
 |_,[]=>true
 |off,f::fs=>(f.offset==off)&&aNN P (off+P.cellsOf f.type) fs
def mH(P:Program):Nat→List Field→Nat
 |off,[]=>off
 |off,f::fs=>mH P (off+P.cellsOf f.type) fs
def kindB(P:Program)(t:TypeId):Bool:=
 match P.underlying t with
 |some .bool|some (.int _)|some .string=>true
 |some (.slice e)=>(P.cellsOf e !=0)&&(eP P e||(P.cellsOf e==1))
 |some (.struct fs)=>aNN P 0 fs.toList&&(mH P 0 fs.toList==P.cellsOf t)
 |_=>false
mutual
inductive Sh (P:Program):TypeId→List AV→Prop
 |bool (t:TypeId) (b:Bool) (h:P.underlying t=some .bool):Sh P t [.bool b]
 |int (t:TypeId) (k:IntKind) (n:Int) (h:P.underlying t=some (.int k)) (hw:(Lit.int k n).wf=true):Sh P t [.int k n]
 |str (t:TypeId) (s:List UInt8) (h:P.underlying t=some .string) (hl:s.length≤maxLen):Sh P t [.str s]
 |slice (t e:TypeId) (zs:List (List AV)) (h:P.underlying t=some (.slice e)) (hl:zs.length≤maxLen) (hz:∀z∈zs,Sh P e z) (hc:∀z∈zs,z.length=P.cellsOf e):Sh P t [.sl false (zs.map (mkA P e))]
 |struct (t:TypeId) (fs:Array Field) (ys:List AV) (h:P.underlying t=some (.struct fs)) (hf:ShF P fs.toList ys):Sh P t ys
 |other (t:TypeId) (ys:List AV) (h:kindB P t=false) (hy:∀y∈ys,y=.top):Sh P t ys
inductive ShF (P:Program):List Field→List AV→Prop
 |nil:ShF P [] []
 |cons (f:Field) (fs:List Field) (z ys:List AV) (h:Sh P f.type z) (hs:ShF P fs ys):ShF P (f::fs) (z++ys)
end
theorem aGH{t:TypeId}{ys:List AV}(ht:P.underlying t=some .bool)(h:Sh P t ys):∃b,ys=[.bool b]:=by
 cases h with
 |bool _ b=>exact⟨b,rfl⟩
 |int _ _ _ h=>rw[ht]at h;cases h
 |str _ _ h=>rw[ht]at h;cases h
 |slice _ _ _ h=>rw[ht]at h;cases h
 |struct _ _ _ h=>rw[ht]at h;cases h
 |other _ _ h _=>rw[kindB,ht]at h;cases h
theorem aAU{t:TypeId}{k:IntKind}{ys:List AV}(ht:P.underlying t=some (.int k))(h:Sh P t ys):∃n,ys=[.int k n]∧(Lit.int k n).wf=true:=by
 cases h with
 |bool _ _ h=>rw[ht]at h;cases h
 |int _ _ n h hw=>grind
 |str _ _ h=>rw[ht]at h;cases h
 |slice _ _ _ h=>rw[ht]at h;cases h
 |struct _ _ _ h=>rw[ht]at h;cases h
 |other _ _ h _=>rw[kindB,ht]at h;cases h
theorem aFe{t:TypeId}{ys:List AV}(ht:P.underlying t=some .string)(h:Sh P t ys):∃s,ys=[.str s]∧s.length≤maxLen:=by
 cases h with
 |bool _ _ h=>rw[ht]at h;cases h
 |int _ _ _ h=>rw[ht]at h;cases h
 |str _ s _ hl=>exact⟨s,rfl,hl⟩
 |slice _ _ _ h=>rw[ht]at h;cases h
 |struct _ _ _ h=>rw[ht]at h;cases h
 |other _ _ h _=>rw[kindB,ht]at h;cases h
theorem aAV{t e:TypeId}{ys:List AV}(ht:P.underlying t=some (.slice e))(hk:kindB P t=true)(h:Sh P t ys):
  ∃zs:List (List AV),ys=[.sl false (zs.map (mkA P e))]∧zs.length≤maxLen∧∀z∈zs,Sh P e z:=by
 cases h with
 |bool _ _ h=>rw[ht]at h;cases h
 |int _ _ _ h=>rw[ht]at h;cases h
 |str _ _ h=>rw[ht]at h;cases h
 |slice _ _ zs h hl hz=>grind
 |struct _ _ _ h=>rw[ht]at h;cases h
 |other _ _ h _=>rw[hk]at h;cases h
theorem aB7{t:TypeId}{fs:Array Field}{ys:List AV}(ht:P.underlying t=some (.struct fs))(hk:kindB P t=true)(h:Sh P t ys):ShF P fs.toList ys:=by
 cases h with
 |bool _ _ h=>rw[ht]at h;cases h
 |int _ _ _ h=>rw[ht]at h;cases h
 |str _ _ h=>rw[ht]at h;cases h
 |slice _ _ _ h=>rw[ht]at h;cases h
 |struct _ _ _ h hf=>rw[ht]at h;cases h;exact hf
 |other _ _ h=>rw[hk]at h;cases h
theorem aGI{ys:List AV}(h:ShF P [] ys):ys=[]:=by cases h;rfl
theorem jS{f:Field}{fs:List Field}{ys:List AV}(h:ShF P (f::fs) ys):∃z zs,ys=z++zs∧Sh P f.type z∧ShF P fs zs:=by
 cases h with
 |cons _ _ z zs h hs=>exact⟨z,zs,rfl,h,hs⟩
def tN(c:Ctx)(ys:List AV)(cs:List Value):Prop:=ys.length=cs.length∧∀(i:Nat) (y:AV) (v:Value),ys[i]?=some y→cs[i]?=some v→Rep c y v
theorem oN{c:Ctx}{y:AV}{v:Value}(h:Rep c y v):tN c [y] [v]:=by
 refine⟨rfl,fun i x u hx hu=>?_⟩
 cases i with
 |zero=>simp at hx hu;subst hx;subst hu;exact h
 |succ i=>simp at hx
theorem aJ0{c:Ctx}(cs:List Value):tN c (cs.map fun _=>.top) cs:=by
 refine⟨by simp,fun i x u hx _=>?_⟩
 rw[zAP]at hx;obtain⟨_,_,rfl⟩:=zAM.1 hx;exact .top _
theorem aDO{c:Ctx}{y z:List AV}{a b:List Value}(h:tN c y a)(k:tN c z b):tN c (y++z) (a++b):=by
 refine⟨by simp[h.1,k.1],fun i x u hx hu=>?_⟩
 by_cases hi:i<y.length
 ·rw[zAt hi]at hx;rw[zAt (by rw[←h.1];exact hi)]at hu
  exact h.2 i x u hx hu
 ·rw[zAV (by omega)]at hx
  rw[zAV (by rw[←h.1];omega),←h.1]at hu
  exact k.2 _ x u hx hu
theorem aFf{w:World}{a:Addr}{v:Value}(h:w.cell? a=some v):a.block<w.heap.size:=by
 unfold World.cell? at h;grind
section
variable {H:Type} {enc:TypeId×Value→H} {W:World} {base:Nat} {sp:Nat→Bool} {held:Bool}
theorem aRS{k:IntKind}{n:Int}(h:(Lit.int k n).wf=true):inR k n:=by
 have h2:(decide (k.min≤n)&&decide (n≤k.max))=true:=h;simpa[inR]using h2
inductive LeA (n:Nat):AV→Prop
 |int (k m):LeA n (.int k m)
 |bool (b):LeA n (.bool b)
 |str (s) (h:s.length≤n):LeA n (.str s)
 |agg (cs:List AV) (h:∀x∈cs,LeA n x):LeA n (.agg cs)
 |sl (f) (es:List AV) (hl:es.length≤n) (h:∀x∈es,LeA n x):LeA n (.sl f es)
 |top:LeA n .top
theorem LeA.mono{n m:Nat}{x:AV}(h:LeA n x)(hm:n≤m):LeA m x:=by
 induction h with
 |int=>exact .int _ _
 |bool=>exact .bool _
 |str s h=>exact .str s (zAO h hm)
 |agg cs _ ih=>exact .agg cs ih
 |sl f es hl _ ih=>exact .sl f es (zAO hl hm) ih
 |top=>exact .top
theorem LeA.mk{n:Nat}{P:Program}{t:TypeId}{ys:List AV}(h:∀y∈ys,LeA n y):LeA n (mkA P t ys):=by
 unfold mkA;split
 ·exact .agg ys h
 ·cases ys with
  |nil=>exact .top
  |cons y ys=>exact h y (by simp)
mutual
def jI{H:Type}:DataW H→Nat
 |.lit (.string bytes)=>bytes.length+1
 |.lit _=>1
 |.nil=>1
 |.ptr d=>jI d+1
 |.slice elems spare=>jT elems+jT spare+1
 |.agg parts=>jT parts+1
 |.iface _ d=>jI d+1
 |.map entries=>vD entries+1
 |.held _=>1
def jT{H:Type}:List (DataW H)→Nat
 |[]=>0
 |d::r=>jI d+jT r
def vD{H:Type}:List (Lit×DataW H)→Nat
 |[]=>0
 |x::r=>aFg x+vD r
def aFg{H:Type}:Lit×DataW H→Nat
 |(.string bytes,d)=>bytes.length+jI d+1
 |(_,d)=>jI d+1
end
theorem aH3{H:Type}(d:DataW H):1≤jI d:=by
 cases d with
 |lit l=>cases l<;>simp[jI]
 |_=>simp[jI]
theorem aH4{H:Type}(l:List (DataW H)):l.length≤jT l:=by
 induction l with
 |nil=>simp[jT]
 |cons x r ih=>have:=aH3 x;simp only[jT,zAc];omega
theorem aB8{H:Type}{d:DataW H}{l:List (DataW H)}(h:d∈l):jI d≤jT l:=by
 induction l<;>grind [jT]
theorem aJ1{c:Ctx}(hw:c.w=W)(hst:∀b,b<W.heap.size→c.stable b):∀(fuel:Nat) (t:TypeId) (cs:List Value) (x:DataW H×List MemPlace),DataW.trod enc P W base sp held fuel t cs=some x→
  ∃ys,Sh P t ys∧tN c ys cs∧∀y∈ys,LeA (jI x.1) y:=by
 intro fuel;induction fuel with
 |zero=>intro t cs x h;simp[DataW.trod]at h
 |succ fuel ih=>
  intro t cs x h;cases hk:kindB P t with
  |false=>exact⟨_,.other t _ hk (by simp),aJ0 cs,fun y hy=>by simp at hy;rw[←hy.2];exact .top⟩
  |true=>
   have hk':=hk;unfold kindB at hk;split at hk
   ·rename_i hu;obtain⟨b,rfl, -⟩:=DataW.trod_bool hu h;exact⟨_,.bool t b hu,oN (.bool b),fun y hy=>by simp at hy;subst hy;exact .bool _⟩
   ·rename_i k hu;obtain⟨n,rfl, -,hwf⟩:=DataW.trod_int hu h;exact⟨_,.int t k n hu hwf,oN (.int k n (aRS hwf)),fun y hy=>by simp at hy;subst hy;exact .int _ _⟩
   ·rename_i hu;obtain⟨s,rfl,hx,hl⟩:=DataW.trod_string hu h;refine⟨_,.str t s.data.toList hu (by simpa using hl),oN ?_,fun y hy=>by simp at hy;subst hy;exact .str _ (by rw[hx];simp[jI])⟩
    have:=Rep.str (c:=c) s.data.toList (by simpa[maxLen]using hl)
    simpa using this
   ·rename_i e hu;rw[zAu]at hk;have he:P.cellsOf e≠0:=by simpa using hk.1
    have he1:eP P e=true∨P.cellsOf e=1:=by simpa using hk.2
    rcases DataW.trod_slice hu h with⟨rfl, -⟩|⟨a,len,cap,elems,rest,n,hn,rfl,hx,hb,hl,hm,hlen,hel, -, -⟩
    ·refine⟨[.sl false (([]:List (List AV)).map (mkA P e))],.slice t e [] hu (zAo _) (by simp) (by simp),oN ?_,fun y hy=>by simp at hy;subst hy;exact .sl _ _ (zAo _) (by simp)⟩
     exact .sl false [] none 0 0 0 (fun _ _=>undef) rfl (zAf _) (fun h=>by cases h) (fun h=>absurd rfl h) (by simp) (by simp) (by omega)
    ·obtain rfl:fuel=n:=by omega
     have each:∀i,i<len→∃(us:List Value) (ys:List AV),us.length=P.cellsOf e∧(∀j,j<P.cellsOf e→W.cell? (a.add (i * P.cellsOf e+j))=us[j]?)∧Sh P e ys∧tN c ys us∧∀y∈ys,LeA (jI x.1) y:=by
      intro i hi;have h1:=hel i hi;rw[zAb (by omega),zBm]at h1
      obtain⟨us,hus,htr⟩:=h1;obtain⟨_,g2,g3⟩:=World.cells?_some hus;obtain⟨ys,k1,k2,k3⟩:=ih e us _ htr;refine⟨us,ys,g2,fun j hj=>?_,k1,k2,fun y hy=>(k3 y hy).mono ?_⟩
      case refine_2=>
       have:=aB8 (List.mem_map_of_mem (f:=(·.1)) (zAK (show i<elems.length by omega)))
       rw[hx];simp only[jI];omega
      rw[←g3 j hj,_root_.Go.Addr.add_add]
     let f:Nat→List AV:=fun i=>if hi:i<len then(each i hi).choose_spec.choose else[]
     let g:Nat→List Value:=fun i=>if hi:i<len then(each i hi).choose else[]
     have hfg:∀i,i<len→(g i).length=P.cellsOf e∧(∀j,j<P.cellsOf e→W.cell? (a.add (i * P.cellsOf e+j))=(g i)[j]?)∧Sh P e (f i)∧tN c (f i) (g i)∧∀y∈f i,LeA (jI x.1) y:=by
      intro i hi;have:=(each i hi).choose_spec.choose_spec;simp only[f,g,hi,dif_pos];exact this
     have hsize:∀i,i<len→(f i).length=P.cellsOf e:=fun i hi=>by
      obtain⟨q1,_,_,q4,_⟩:=hfg i hi;rw[q4.1,q1]
     have hcells:∀i,i<len→(mkA P e (f i)).cells=f i:=by
      intro i hi;unfold mkA;by_cases ha:eP P e=true
      ·rw[zAl ha];rfl
      ·rw[zAe ha];have hs:=(hfg i hi).2.2.1;have hno:∀fs,P.underlying e≠some (.struct fs):=fun fs q=>ha (by rw[eP,q])
       have hone:(f i).length=1:=(hsize i hi).trans (he1.resolve_left ha);generalize f i=z at hs hone ⊢;cases hs with
       |bool=>rfl
       |int=>rfl
       |str=>rfl
       |slice=>rfl
       |struct _ fs _ q=>exact absurd q (hno fs)
       |other _ _ _ q=>
        match z,hone with
        |[y],_=>rw[q y (by simp)];rfl
     refine⟨[.sl false (((List.range len).map f).map (mkA P e))],.slice t e _ hu (by simp;omega) ?_ ?_,oN ?_,fun y hy=>?_⟩
     rotate_right
     ·simp at hy;subst hy;refine .sl _ _ ?_ fun z hz=>?_
      ·have:=aH4 (elems.map (·.1));rw[zAn]at this;rw[hx];simp only[jI,zAn,List.length_range];omega
      ·simp only[zB1,zAm,List.mem_range,Function.comp]at hz;obtain⟨i,hi,rfl⟩:=hz;exact .mk (hfg i hi).2.2.2.2
     ·intro z hz;obtain⟨i,hi,rfl⟩:=zAm.1 hz;exact(hfg i (by simpa using hi)).2.2.1
     ·intro z hz;obtain⟨i,hi,rfl⟩:=zAm.1 hz;exact hsize i (by simpa using hi)
     ·refine .sl false _ (some a) len cap (P.cellsOf e) (fun k j=>(g k).getD j undef) (by simp) hl (fun h=>by cases h) (fun hne=>?_) ?_ ?_ (by have:cap≤maxLen:=hm;simp only[maxLen]at this;omega)
      ·have hlen0:0<len:=by
        rcases Nat.eq_zero_or_pos len with h0|h0
        ·subst h0;simp at hne
        ·exact h0
       have hcell:∀k j,k<len→j<P.cellsOf e→W.cell? (a.add (k * P.cellsOf e+j))=some ((g k).getD j undef):=by
        intro k j hk hj;obtain⟨q1,q2,_,_⟩:=hfg k hk;rw[q2 j hj,zAh,zAb (by omega)];rfl
       have h00:=hcell 0 0 hlen0 (by omega)
       refine⟨a,rfl,?_,hst _ ?_,fun k j hk hj=>?_⟩
       ·have:=World.cell?_spot h00;simpa[Addr.add]using this
       ·have:=aFf h00;rwa[Addr.add_block]at this
       ·rw[hw];exact hcell k j (by simpa using hk) hj
      ·intro z hz;simp only[zB1,zAm,List.mem_range,Function.comp]at hz;obtain⟨i,hi,rfl⟩:=hz;rw[hcells i hi,hsize i hi]
      ·intro k z j y hz hy;have hk:k<len:=by
        have:=(eT.1 hz).1;simpa using this
       have:z=mkA P e (f k):=by
        simp only[zB1,zAP,List.getElem?_range hk,zCm,Function.comp,zB7]at hz;exact hz.symm
       subst this;rw[hcells k hk]at hy;obtain⟨q1,_,_,q4,_⟩:=hfg k hk;have hj:=(eT.1 hy).1;refine q4.2 j y _ hy ?_;rw[zAh,zAb (by rw[←q4.1];exact hj)];rfl
   ·rename_i fs hu;rw[zAu,zCO]at hk;obtain⟨xs,n,hn,hx,hcl,hxl,hfs⟩:=DataW.trod_struct hu h;obtain rfl:fuel=n:=by omega
    have each:∀f∈fs.toList,∃ys,Sh P f.type ys∧tN c ys ((cs.drop f.offset).take (P.cellsOf f.type))∧∀y∈ys,LeA (jI x.1) y:=by
     intro f hf;obtain⟨i,hi⟩:=List.getElem?_of_mem hf;have hi':fs[i]?=some f:=by simpa using hi
     have hlt:i<fs.size:=(zBM.1 hi').1;have:=hfs i f hi';rw[zAb (by omega)]at this
     obtain⟨ys,k1,k2,k3⟩:=ih _ _ _ this;refine⟨ys,k1,k2,fun y hy=>(k3 y hy).mono ?_⟩
     have:=aB8 (List.mem_map_of_mem (f:=(·.1)) (zAK (show i<xs.length by omega)))
     rw[hx];simp only[jI];omega
    have key:∀(l:List Field) (off:Nat),aNN P off l=true→mH P off l≤cs.length→(∀f∈l,∃ys,Sh P f.type ys∧tN c ys ((cs.drop f.offset).take (P.cellsOf f.type))∧∀y∈ys,LeA (jI x.1) y)→
      off≤mH P off l∧∃ys,ShF P l ys∧tN c ys ((cs.drop off).take (mH P off l-off))∧∀y∈ys,LeA (jI x.1) y:=by
     intro l;induction l with
     |nil=>intro off _ _ _;exact⟨zAf _,[],.nil,by simp[mH,tN],fun y hy=>by cases hy⟩
     |cons f l ihl=>
      intro off h1 h2 h3;rw[aNN,zAu,zCO]at h1;rw[mH]at h2 ⊢;obtain⟨q0,ys,q1,q2,q3⟩:=ihl _ h1.2 h2 (fun g hg=>h3 g (by simp[hg]))
      obtain⟨z,r1,r2,r3⟩:=h3 f (by simp)
      refine⟨by omega,z++ys,.cons f l z ys r1 q1,?_,fun y hy=>(zAy.1 hy).elim (r3 y) (q3 y)⟩
      have e:(cs.drop off).take (mH P (off+P.cellsOf f.type) l-off)=(cs.drop f.offset).take (P.cellsOf f.type)++(cs.drop (off+P.cellsOf f.type)).take (mH P (off+P.cellsOf f.type) l-(off+P.cellsOf f.type)):=by
       rw[h1.1,←zCs,show mH P (off+P.cellsOf f.type) l-off=P.cellsOf f.type+(mH P (off+P.cellsOf f.type) l-(off+P.cellsOf f.type)) by omega,List.take_add]
      rw[e];exact aDO r2 q2
    obtain⟨_,ys,k1,k2,k3⟩:=key fs.toList 0 hk.1 (by omega) each
    refine⟨ys,.struct t fs ys hu k1,?_,k3⟩;rw[List.drop_zero,Nat.sub_zero,hk.2,←hcl,zAD]at k2;exact k2
   ·cases hk
def aH5(W:World):Ctx:={w:=W,n:=0,blk:=fun _=>0,ver:=fun _=>0,vd:=fun _=>false,stable:=fun b=>b<W.heap.size,base:=0}
theorem aXB(W:World):St (aH5 W) [] where
 n:=rfl
 lt:=fun i hi=>absurd hi (Nat.not_lt_zero i)
 inj:=fun i j b b' hi=>by simp at hi
 st:=fun k hk=>⟨hk,fun i b hi=>by simp at hi⟩
 rep:=fun i b hi=>by simp at hi
theorem aFh{r:Reach}{b0:Nat}{t:TypeId}{v:Value}(hk:kindB P t=true)(ha:eP P t=false)(hv:Value.okWide P W r b0 t v):v.cells= #[v]:=by
 unfold kindB at hk;split at hk
 ·rename_i hu;obtain⟨b,rfl⟩:=okWide_bool hu hv;rfl
 ·rename_i k hu;obtain⟨n,rfl⟩:=okWide_int hu hv;rfl
 ·rename_i hu;obtain⟨s,rfl⟩:=okWide_string hu hv;rfl
 ·rename_i e hu;obtain⟨a,l,c,rfl⟩:=okWide_slice hu hv;rfl
 ·grind [eP]
 ·cases hk
theorem aJ2{r:Reach}{b0:Nat}{t:TypeId}{v:Value}{d:DataW H}{p:List MemPlace}(hk:kindB P t=true)(hv:Value.okWide P W r b0 t v)(h:DataW.Trod enc P W base sp held t v d p):
  ∃x,(∃ys,x=mkA P t ys∧Sh P t ys∧(eP P t=true∨ys.length=1))∧Rep (aH5 W) x v∧LeA (jI d) x:=by
 obtain⟨fuel,hf⟩:=h;obtain⟨ys,h1,h2,h3⟩:=aJ1 (c:=aH5 W) rfl (fun b hb=>hb) fuel t _ _ hf
 cases ha:eP P t with
 |true=>
  refine⟨_,⟨ys,rfl,h1,.inl rfl⟩,?_,.mk h3⟩;have:∃cs,v=.agg cs:=by
   grind [eP,kindB,okWide_struct]
  obtain⟨cs,rfl⟩:=this;rw[mkA,zAl ha];exact .agg ys cs (by simpa[Value.cells]using h2.1.symm) fun i y u hy hu=>h2.2 i y u hy (by simpa[Value.cells]using hu)
 |false=>
  have hc:=aFh hk ha hv;rw[hc]at h2;have hl:ys.length=1:=by simpa using h2.1
  refine⟨_,⟨ys,rfl,h1,.inr hl⟩,?_,.mk h3⟩
  match ys,hl with
  |[y],_=>
   rw[mkA,zAe (by simp[ha])]
   exact h2.2 0 y v rfl rfl
theorem nE{r:Reach}{b0:Nat}{t:TypeId}{v:Value}{d:DataW H}{p:List MemPlace}(hk:kindB P t=true)(hv:Value.okWide P W r b0 t v)(h:DataW.Trod enc P W base sp held t v d p):
  ∃x,(∃ys,x=mkA P t ys∧Sh P t ys∧(eP P t=true∨ys.length=1))∧Rep (aH5 W) x v:=by
 obtain⟨x,h1,h2,_⟩:=aJ2 hk hv h;exact⟨x,h1,h2⟩
theorem kL{f:FuncId}{xs:List AV}{args:Array Value}(h:bH P f xs [] (.bool true))(ha:RepAll (aH5 W) xs args):Calls P f args W fun e W'=>e=.returned (.bool true)∧Below W.heap.size W W':=
 (h (aH5 W) args (aXB W) ha).mono fun e W' ⟨c',x,v,H',e1,e2,_,e4,e5,e6,_⟩=>by
  subst e6;refine⟨by rw[e1,e5.bool_inv],?_⟩
  subst e2;exact⟨e4.os,e4.tape,e4.output,e4.size,fun k hk=>(e4.st k hk).2⟩
theorem lX{c:Ctx}{xs:List AV}{vs:List Value}(h:tN c xs vs):RepAll c xs vs.toArray:=
 ⟨by simp[h.1],fun i x v hx hv=>h.2 i x v hx (by simpa using hv)⟩
theorem jJ{c:Ctx}{x:AV}{v:Value}{xs:List AV}{vs:List Value}(h:Rep c x v)(hs:tN c xs vs):tN c (x::xs) (v::vs):=aDO (oN h) hs
theorem oO{c:Ctx}:tN c [] []:=⟨rfl,fun i x v hx=>by simp at hx⟩
end
end
section
variable {P:Program}
def aAW:List Nat→List AV→AF→AF
 |p::ps,v::vs,α=>aAW ps vs ((p,v)::α)
 |_,_,α=>α
theorem aB9{c:Ctx}{N:Nat}:∀(ps:List Nat) (us:List Value) (vs:List AV) (α:AF) (ts:Array Value),us.length=vs.length→ps.length=vs.length→(∀p∈ps,p<N)→ts.size=N→
  (∀(i:Nat) (x:AV) (v:Value),vs[i]?=some x→us[i]?=some v→Rep c x v)→(∀t,Rep c (look α t) (ts.getD t undef))→
  ((ps.zip us).foldl (fun tmps (t,a)=>tmps.setIfInBounds t a) ts).size=N∧∀t,Rep c (look (aAW ps vs α) t) (((ps.zip us).foldl (fun tmps (t,a)=>tmps.setIfInBounds t a) ts).getD t undef)
 |[],us,vs,α,ts,_,_,_,hN,_,h=>by simp only[List.zip_nil_left,zCt];exact⟨hN,by cases vs<;>exact h⟩
 |p::ps,[],vs,α,ts,h1,h2,_,_,_,_=>by simp at h1 h2;omega
 |p::ps,u::us,[],α,ts,h1,_,_,_,_,_=>by simp at h1
 |p::ps,u::us,v::vs,α,ts,h1,h2,hp,hN,hr,h=>by
  simp only[List.zip_cons_cons,zBy,aAW];refine aB9 ps us vs ((p,v)::α) (ts.setIfInBounds p u) (by simpa using h1) (by simpa using h2) (fun q hq=>hp q (by simp[hq])) (by simpa using hN) (fun i x w a b=>hr (i+1) x w (by simpa using a) (by simpa using b)) fun t=>?_
  have hlt:p<ts.size:=by rw[hN];exact hp p (by simp)
  simp only[look];by_cases hpt:p=t
  ·subst hpt;simp only[beq_self_eq_true,cond_true];have:=hr 0 v u rfl rfl;simpa[hlt]using this
  ·have hb:(p==t)=false:=by simp[hpt]
   rw[hb,zCn];simp_all
def pO(i:Nat)(LB:ABlk)(fin:Bool→Option Code→ABlk)(H0:AHeap)(R:AV→AHeap→Prop)(go:Bool)(pe:Option Code)(H:AHeap):Prop:=
 hget H i=LB∧∃H1 L,H=H1++L∧H1.length=H0.length∧(∀(j:Nat) (b:ABlk),H1[j]?=some b→H0[j]?=some b∨ClB H0.length b)∧R (.bool go) (aB H1 i (fin go pe))
def xK(i:Nat)(LB:ABlk)(fin:Bool→Option Code→ABlk)(H0:AHeap)(R:AV→AHeap→Prop):bL
 |.normal,_,H=>pO i LB fin H0 R true none H
 |.ret,_,H=>pO i LB fin H0 R false (some .ret) H
 |.exit id,_,H=>pO i LB fin H0 R false (some (.exit id)) H
 |_,_,_=>False
def aCM(P:Program)(N i:Nat)(bd:Code)(LR LB:ABlk)(fin:Bool→Option Code→ABlk)(H0:AHeap)(R:AV→AHeap→Prop):bL
 |.normal,β,H=>hget H i=LR∧aw P N bd (xK i LB fin (aB H0 i LB) R) β (aB H i LB)
 |_,_,_=>False
section
variable (N i:Nat) (bd:Code) (LR LB:ABlk) (fin:Bool→Option Code→ABlk) (H0:AHeap) (R:AV→AHeap→Prop) (β:AF) (H:AHeap)
@[go_sem] theorem aMV:xK i LB fin H0 R .normal β H=pO i LB fin H0 R true none H:=rfl
@[go_sem] theorem aRT:xK i LB fin H0 R .ret β H=pO i LB fin H0 R false (some .ret) H:=rfl
@[go_sem] theorem aQo(id:Nat):xK i LB fin H0 R (.exit id) β H=pO i LB fin H0 R false (some (.exit id)) H:=rfl
@[go_sem] theorem aJ3:aCM P N i bd LR LB fin H0 R .normal β H=(hget H i=LR∧aw P N bd (xK i LB fin (aB H0 i LB) R) β (aB H i LB)):=rfl
end
theorem St.loop{c:Ctx}{H:AHeap}(h:St c H){i l N:Nat}{α:AF}{st:LoopState}{pe:Option Code}{ps:Array Tmp}{asg bd:Code}(hh:hget H i=.loop l α N st pe ps asg bd):
  i<c.n∧c.ver i=0∧c.vd i=false∧c.blk i=l∧∃fn D ts,c.w.heap[l]?=some (.loop {state:=st,pending:=pe,fn:=fn,tmps:=ts,params:=ps,assign:=asg,body:=bd,defers:=D})∧ts.size=N∧∀t,Rep c (look α t) (ts.getD t undef):=by
 have hs:=cV hh trivial;refine⟨by rw[h.n];exact aV hh trivial,?_⟩
 cases h.rep i _ hs with
 |loop _ _ _ _ _ _ _ _ fn D ts hv hd hl hb hN hr=>grind
theorem aAX{c:Ctx}{H:AHeap}(h:St c H){i l N:Nat}{α:AF}{st:LoopState}{pe:Option Code}{ps:Array Tmp}{asg bd:Code}(hh:hget H i=.loop l α N st pe ps asg bd)(st':LoopState)(pe':Option Code){fn D:Nat}{ts:Array Value}
  (hb:c.w.heap[l]?=some (.loop {state:=st,pending:=pe,fn:=fn,tmps:=ts,params:=ps,assign:=asg,body:=bd,defers:=D})):
  Ext c {c with w:=c.w.putObj l (.loop {state:=st',pending:=pe',fn:=fn,tmps:=ts,params:=ps,assign:=asg,body:=bd,defers:=D})}∧
  St {c with w:=c.w.putObj l (.loop {state:=st',pending:=pe',fn:=fn,tmps:=ts,params:=ps,assign:=asg,body:=bd,defers:=D})} (aB H i (.loop l α N st' pe' ps asg bd)):=by
 obtain⟨hin,hv,hd,hl,fn',D',ts',hb',hN,hr⟩:=h.loop hh;rw[hb]at hb';cases hb';have hsome:=cV hh trivial;have hlt:=(zBM.1 hb).1;let o:Obj:=.loop {state:=st',pending:=pe',fn:=fn,tmps:=ts,params:=ps,assign:=asg,body:=bd,defers:=D}
 have hsame:(c.w.putObj l o).heap[c.blk i]?=some o:=by grind [World.putObj_heap_same]
 have hoth:∀b,b≠c.blk i→(c.w.putObj l o).heap[b]?=c.w.heap[b]?:=fun b hne=>World.putObj_heap_other (by rw[←hl];exact hne)
 have hbs:bsize (c.w.putObj l o) (c.blk i)=bsize c.w (c.blk i):=by
  unfold bsize;rw[hsame,hl,hb]
 have hx:Ext c {c with w:=c.w.putObj l o}:=by
  refine⟨zAf _,by simp,fun b hb'=>⟨hb',hoth b fun e=>(h.st b hb').2 i _ hsome trivial hd e.symm⟩,fun _ _=>zAf _,fun j hj _=>⟨rfl,rfl,fun _=>?_⟩,rfl,rfl,rfl,rfl⟩
  by_cases e:c.blk j=c.blk i
  ·simp only[e];exact hbs
  ·simp only[bsize];rw[hoth _ e]
 exact h.update (B':=.loop l α N st' pe' ps asg bd) hsome trivial hd (c.w.putObj l o) (by simp) hoth hbs rfl rfl rfl (.loop l α N st' pe' ps asg bd fn D ts hv hd hl hsame hN fun t=>(hr t).mono hx)
theorem aCa{l N i:Nat}{α:AF}{ps:Array Tmp}{asg bd:Code}{vs:List AV}{H:AHeap}{R:AV→AHeap→Prop}{LR:ABlk}(hhR:hget H i=LR)(hLR:LR=.loop l α N .ready none ps asg bd)(hps:ps.size=vs.length)(hpN:(ps.toList.all fun p=>Nat.blt p N)=true)
  (hfa:aAD asg=true) (hfb:aAD bd=true) (h:∀(LB:ABlk) (fin:Bool→Option Code→ABlk),LB=.loop l α N .busy none ps asg bd→LB.live→(fin true none=LR)→(∀go pe,fin go pe=.loop l α N (bif go then .ready else .done) pe ps asg bd)→
   aw P N asg (aCM P N i bd LR LB fin H R) (aAW ps.toList vs α) H):AYield P l vs H R:=by
 have hh:hget H i=.loop l α N .ready none ps asg bd:=hhR.trans hLR;replace h:=h _ (fun go pe=>.loop l α N (bif go then .ready else .done) pe ps asg bd) rfl trivial hLR.symm (fun _ _=>rfl)
 intro c us hst ⟨hul,hur⟩;obtain⟨hin,hv,hd,hl,fn,D,ts,hb,hN,hr⟩:=hst.loop hh;refine⟨fn,_,asg,bd,run_yield hb (by simp;omega),roundIn_of_wpIn (F:=Fence.wide) (n:=0) trivial ?_⟩
 obtain⟨hsz,hrep⟩:=aB9 (c:=c) (N:=N) ps.toList us.toList vs α ts (by simpa using hul) (by simpa using hps) (fun p hp=>by have:=zAJ.1 hpN p hp;simpa[Nat.blt_eq]using this) hN (fun i x v a b=>hur i x v a (by simpa using b)) hr
 have hfold:(ps.zip us).foldl (fun tmps (t,a)=>tmps.setIfInBounds t a) ts=(ps.toList.zip us.toList).foldl (fun tmps (t,a)=>tmps.setIfInBounds t a) ts:=by
  rw[←Array.foldl_toList,Array.toList_zip]
 rw[←hfold]at hsz hrep;have hc:St (c.rebase c.w.heap.size) H:=hst.rebase _;have ha:ARep (c.rebase c.w.heap.size) N (aAW ps.toList vs α) {tmps:=(ps.zip us).foldl (fun tmps (t,a)=>tmps.setIfInBounds t a) ts,defers:=[]}:=
  ⟨hsz,⟨zAf _,[],rfl,by simp,by simp⟩,fun t=>(hrep t).rebase _⟩
 refine wpIn_mono (h (some l) (c.rebase c.w.heap.size) _ (.inr hfa) hc ha) fun e a₁ w₁ ⟨c1,β,H1,e1,e2,e3,e4,e5⟩=>?_
 cases e<;>simp only[aCM]at e5<;>try exact e5.elim
 obtain⟨hh1,hbody⟩:=e5;rw[hLR]at hh1;subst e1;obtain⟨_,_,_,_,fn1,D1,ts1,hb1, -, -⟩:=e2.loop hh1;obtain⟨x1,s1⟩:=aAX e2 hh1 .busy none hb1;refine⟨_,run_beginRound hb1 rfl,?_⟩;refine wpIn_mono (hbody (some l) _ a₁ (.inr hfb) s1 (e4.mono x1)) fun e a₂ w₂ ⟨c2,γ,H2,g1,g2,g3,g4,g5⟩=>?_
 have key:∀(jump:Option Code),pO i (.loop l α N .busy none ps asg bd) (fun go pe=>.loop l α N (bif go then .ready else .done) pe ps asg bd) (aB H i (.loop l α N .busy none ps asg bd)) R jump.isNone jump H2→
   ∃v w',(Instr.endRound l jump).run P c2.w=.ok v w'∧∃c' x u H',Ending.returned v=.returned u∧c'.w=w'∧St c' H'∧Ext c c'∧Rep c' x u∧R x H':=by
  rintro jump ⟨hh2,H3,L,rfl,hlen,hcl,hR⟩;have hlen:H3.length=H.length:=by simpa[aB]using hlen
  have hlenB:(aB H i (.loop l α N .busy none ps asg bd)).length=H.length:=by simp[aB]
  have xx:=(e3.trans x1).trans g3;have hcn:(c.rebase c.w.heap.size).n=H.length:=hc.n;have hlB:ClB H.length (.loop l α N .busy none ps asg bd):=by
   have:=hst.cl0 (cV hh trivial);rw[hst.n]at this;exact this
  have hdrop:St (c2.drop H.length) H3:=St.dropG hlen.symm g2 fun j b hj=>by
   rcases hcl j b hj with q|q
   ·by_cases hji:j=i
    ·subst hji;rw[aB,zAU (aV hh trivial)]at q;cases q;exact hlB
    ·rw[aB,zAA (fun e=>hji e.symm)]at q
     have:=hst.cl0 q;rwa[hst.n]at this
   ·rwa[hlenB]at q
  have hh3:hget H3 i=.loop l α N .busy none ps asg bd:=by
   have hlt:i<H3.length:=by rw[hlen];exact aV hh trivial
   simpa[hget,zAh,zAt hlt]using hh2
  obtain⟨_,_,_,_,fn2,D2,ts2,hb2, -, -⟩:=hdrop.loop hh3;obtain⟨x2,s2⟩:=aAX hdrop hh3 (if jump.isNone then .ready else .done) jump hb2
  have hst':(if jump.isNone=true then LoopState.ready else LoopState.done)=bif jump.isNone then .ready else .done:=by cases jump<;>rfl
  have yy:=(xx.dropN (n:=H.length) (by rw[hcn];exact zAf _)).trans x2
  refine⟨_,_,run_endRound jump hb2,({c2.drop H.length with w:=_}:Ctx).rebase c.base,.bool jump.isNone,_,_,rfl,rfl,s2.rebase _,?_,.bool _,hst'▸hR⟩
  exact⟨yy.n,yy.size,yy.st,yy.ver,yy.blk,yy.os,yy.tape,yy.output,rfl⟩
 subst g1;cases e<;>simp only[xK]at g5<;>try exact g5.elim
 ·exact key none g5
 ·exact key (some (.exit _)) g5
 ·exact key (some .ret) g5
def aNO(i l:Nat)(α:AF)(N:Nat)(ps:Array Tmp)(asg bd:Code)(Q:bL)(H:AHeap):Prop:=
 (∃st,st≠.busy∧hget H i=.loop l α N st none ps asg bd∧∀X,Q .normal α (aB H i X))∨
 (hget H i=.loop l α N .done (some .ret) ps asg bd∧∀X,Q .ret α (aB H i X))∨
 (∃id,hget H i=.loop l α N .done (some (.exit id)) ps asg bd∧∀X,Q (.exit id) α (aB H i X))
theorem vE{N:Nat}{g:Operand}{ps:Array Tmp}{asg bd:Code}{Q:bL}{α:AF}{H:AHeap}{gf:Nat}{lb:List AV}(hg:ev α g=.func (.func gf) [] lb)(hok:dV P gf=true)
  (h:∀l LB,LB=ABlk.loop l α N .ready none ps asg bd→ACalls P gf (.func (.yield l) [] []::lb) (H++[LB]) (fun _ H'=>aNO H.length l α N ps asg bd Q H')):aw P N (.rangeFunc g ps asg bd) Q α H:=by
 intro r c a hr hst ha;have hr0:r=none:=hr.resolve_right (by simp[aAD])
 subst hr0;refine wpIn_rangeFunc fun fn _=>?_
 have hgv:=aJj ha g;rw[hg]at hgv;generalize hev:a.eval g=vg at hgv;cases hgv with
 |func _ _ _ v1 v2 hl1 hl2 hr1 hr2=>
  obtain rfl:v1= #[]:=Array.eq_empty_of_size_eq_zero hl1;let rec0:Obj:=.loop {state:=.ready,pending:=none,fn:=fn,tmps:=a.tmps,params:=ps,assign:=asg,body:=bd,defers:=c.w.heap.size}
  let c1:Ctx:=c.fix (.deferred (some []))
  have s1:St c1 H:=hst.fix _;have x1:Ext c c1:=Ext.fix hst _;have hsz1:c1.w.heap.size=c.w.heap.size+1:=by simp[c1,Ctx.fix]
  have a1:=ha.mono x1;let c2:Ctx:=c1.push rec0
  have x2:Ext c1 c2:=Ext.push s1 _ 0;have s2:St c2 (H++[.loop c1.w.heap.size α N .ready none ps asg bd]):=by
   refine s1.push rec0 0 (.loop _ α N .ready none ps asg bd fn c.w.heap.size a.tmps (by simp[Ctx.push]) (by simp[Ctx.push]) (by simp[Ctx.push]) ?_ a1.size fun t=>(a1.rep t).mono x2)
   simp only[Ctx.push,zBc];exact mE _ _
  have hD2:c2.w.heap[c.w.heap.size]?=some (.deferred (some [])):=by
   have h1:c1.w.heap[c.w.heap.size]?=some (.deferred (some [])):=mE _ _;exact((x2.st _ (.inr rfl)).2).trans h1
  have hall:RepAll c2 (.func (.yield c1.w.heap.size) [] []::lb) (#[.func (.yield c1.w.heap.size) #[] #[]]++v2):=by
   refine⟨by simp[hl2];omega,fun j x v g1 g2=>?_⟩
   cases j with
   |zero=>
    rw[zBu (by simp)]at g2
    cases g1;cases g2;exact .func _ [] [] _ _ rfl rfl (by simp) (by simp)
   |succ j=>
    rw[zBH (by simp)]at g2
    rw[zB0]at g1;exact((hr2 j x v g1 (by simpa using g2)).mono x1).mono x2
  have hcall:=h c1.w.heap.size _ rfl c2 _ s2 hall;refine⟨c1.w.heap.size,[{target:=.collected c.w.heap.size,args:= #[]}],c2.w,{target:=.fn (.func gf) v2,args:= #[.func (.yield c1.w.heap.size) #[] #[]]},c2.w,gf, #[.func (.yield c1.w.heap.size) #[] #[]]++v2,c2.w,?_,?_,fun _ _=>trivial,?_,fun h=>(by cases h),?_⟩
  ·have:=run_enterLoop_outer (P:=P) (w:=c.w) fn a.tmps ps asg bd;rw[hsz1];exact this
  ·simp only[resolve,hev];simp[go_sem,Deferred.ofValue]
  ·simp[invoke,go_sem];simpa using lJ hok _ _
  ·refine(callsIn_wide (n:=0)).2 (hcall.mono ?_);rintro e w3 ⟨c3,x,v,H3,rfl,rfl,s3,x3, -,hb⟩;have a3:ARep c3 N α {a with defers:=[{target:=.collected c.w.heap.size,args:= #[]}]++a.defers}:=by
    have m:=((ha.mono x1).mono x2).mono x3;obtain⟨m0,Ds,e,hn,hD⟩:=m.defers;obtain⟨n0,Ds',e',hn',hD'⟩:=ha.defers;have hbase:c3.base=c.base:=(x3.base.trans x2.base).trans x1.base;have hinj:Ds=Ds':=by
     have:=e.symm.trans e';clear hD hD' hn hn' e e' m;induction Ds generalizing Ds' with
     |nil=>cases Ds' with
      |nil=>rfl
      |cons _ _=>simp at this
     |cons d Ds ih=>cases Ds' with
      |nil=>simp at this
      |cons d' Ds'=>simp at this;rw[this.1,ih _ (by simpa using this.2)]
    subst hinj;refine⟨m.size,⟨m0,c.w.heap.size::Ds,by simp[e],zB8.2 ⟨fun hm=>?_,hn⟩,fun D hm=>?_⟩,m.rep⟩
    ·have:=(zBM.1 (hD' _ hm).2.2).1;omega
    ·rcases zAs.1 hm with rfl|hm
     ·exact⟨by rw[hbase];exact n0,(x3.st _ (x2.st _ (.inr rfl)).1).1,((x3.st _ (x2.st _ (.inr rfl)).1).2).trans hD2⟩
     ·exact hD D hm
   have done:∀(st:LoopState) (pe:Option Code),st≠.busy→hget H3 H.length=.loop c1.w.heap.size α N st pe ps asg bd→
     ∃c4:Ctx,(Instr.endLoop c1.w.heap.size).run P c3.w=.ok pe c4.w∧St c4 (aB H3 H.length (.loop c1.w.heap.size α N .exhausted pe ps asg bd))∧Ext c c4∧ARep c4 N α {a with defers:=[{target:=.collected c.w.heap.size,args:= #[]}]++a.defers}:=by
    intro st pe hb3 hh3;obtain⟨_,_,_,_,fn3,D3,ts3,hb3', -, -⟩:=s3.loop hh3;obtain⟨x4,s4⟩:=aAX s3 hh3 .exhausted pe hb3';exact⟨_,run_endLoop hb3' hb3,s4,((x1.trans x2).trans x3).trans x4,a3.mono x4⟩
   rcases hb with⟨st,hbu,hh3,hq⟩|⟨hh3,hq⟩|⟨id,hh3,hq⟩
   ·obtain⟨c4,q1,q2,q3,q4⟩:=done st none hbu hh3;exact⟨none,c4.w,q1,c4,α,_,rfl,q2,q3,q4,hq _⟩
   ·obtain⟨c4,q1,q2,q3,q4⟩:=done .done _ (by simp) hh3
    exact⟨some .ret,c4.w,q1,wpIn_ret ⟨c4,α,_,rfl,q2,q3,q4,hq _⟩⟩
   ·obtain⟨c4,q1,q2,q3,q4⟩:=done .done _ (by simp) hh3
    exact⟨some (.exit id),c4.w,q1,wpIn_exit ⟨c4,α,_,rfl,q2,q3,q4,hq _⟩⟩
theorem rD{l:Nat}{args:List AV}{H:AHeap}{R K:AV→AHeap→Prop}(h:AYield P l args H R)(hk:∀v H',R v H'→K v H'):lN P (.func (.yield l) [] []) args H K:=h.mono hk
theorem aJ4{N:Nat}{code:Code}{Q:bL}{α:AF}{H:AHeap}(β:AF)(hs:aDJ β α)(h:aw P N code Q β H):aw P N code Q α H:=sV h (kJ hs)
theorem aAk{n i v:Nat}{H:AHeap}{cs:List AV}(hn:n≤i)(hh:hget H i=.cells v cs)(hc:∀x∈cs,Cl n x):Frz n H (.ref i v 0) (.cptr cs):=
 .ref i v 0 cs cs hn hh (by omega) fun j x y hx hy=>by
  rw[zBK,hy]at hx;cases hx;exact .cl _ (hc _ (zAp hy))
theorem aT{n:Nat}{H:AHeap}{a b:AV}{cs ds:List AV}(h:Frz n H a b)(hs:∀(i:Nat) (x y:AV),cs[i]?=some x→ds[i]?=some y→Frz n H x y):∀(i:Nat) (x y:AV),(a::cs)[i]?=some x→(b::ds)[i]?=some y→Frz n H x y
 |0,x,y,hx,hy=>by grind
 |i+1,x,y,hx,hy=>hs i x y (by simpa using hx) (by simpa using hy)
theorem bN{n:Nat}{H:AHeap}:∀(i:Nat) (x y:AV),([]:List AV)[i]?=some x→([]:List AV)[i]?=some y→Frz n H x y:=fun _ _ _ h=>by simp at h
theorem aG{G:AHeap}{i:Nat}{b:ABlk}(h:hget G i=b)(hb:b.live):∀L,hget (G++L) i=b:=fun L=>aD h hb L
theorem cC{G:AHeap}{i:Nat}{b:ABlk}(h:hget G i=b)(hb:b.live):∀L c,aB (G++L) i c=aB G i c++L:=fun L c=>bD (aV h hb) L c
theorem aC(H:AHeap)(i:Nat)(b:ABlk):(aB H i b).length=H.length:=by simp[aB]
theorem aH{H:AHeap}{i j:Nat}{x:ABlk}(h:hget H j=x)(hn:i≠j)(b:ABlk):hget (aB H i b) j=x:=by
 rw[←h];simp[hget,aB,zAh,zAA hn]
theorem aX{H:AHeap}{i:Nat}(h:i<H.length)(b:ABlk):hget (aB H i b) i=b:=by
 simp[hget,aB,zAh,h]
theorem dW{H:AHeap}{i n:Nat}{b:ABlk}(hb:ClB n b):∀(j:Nat) (c:ABlk),(aB H i b)[j]?=some c→H[j]?=some c∨ClB n c:=fun j c h=>by
 by_cases e:i=j
 ·subst e;by_cases hlt:i<H.length
  ·grind [aB,zAU]
  ·rw[aB,zBt (by simp;omega)]at h;cases h
 ·grind [aB,zAA]
theorem bE(H:AHeap)(i:Nat)(b c:ABlk):aB (aB H i b) i c=aB H i c:=by simp[aB]
theorem fC(H:AHeap){i j:Nat}(b c:ABlk)(h:i≠j):aB (aB H i b) j c=aB (aB H j c) i b:=by simp only[aB];exact List.set_comm _ _ h
theorem cI{H:AHeap}{i:Nat}{b:ABlk}(h:hget H i=b)(hb:b.live):aB H i b=H:=aHQ (cV h hb)
def aGJ(K:AF→AHeap→Prop)(Q:bL):bL
 |.normal,α,H=>K α H
 |e,α,H=>Q e α H
def fZ(P:Program)(N:Nat)(body:Code)(Q:bL):Nat→AF→AHeap→Prop
 |0,_,_=>False
 |m+1,α,H=>aw P N body (aGJ (fZ P N body Q m) Q) α H
section
variable (K:AF→AHeap→Prop) (Q:bL) (α:AF) (H:AHeap)
@[go_sem] theorem aNP:aGJ K Q .normal α H=K α H:=rfl
@[go_sem] theorem aUk:aGJ K Q .ret α H=Q .ret α H:=rfl
@[go_sem] theorem aRU(i:Nat):aGJ K Q (.exit i) α H=Q (.exit i) α H:=rfl
end
theorem fD{N:Nat}{body:Code}{Q:bL}{α:AF}{H:AHeap}(m:Nat)(h:fZ P N body Q m α H):aw P N (.loop body) Q α H:=by
 intro r c a hr hs ha;refine wpIn_loop_rounds m ?_;have key:∀m α H c' a,fZ P N body Q m α H→St c' H→Ext c c'→ARep c' N α a→Code.roundsIn (wf r) 0 P body (fun e a' w'=>∃c' α' H',c'.w=w'∧St c' H'∧Ext c c'∧ARep c' N α' a'∧Q e α' H') m a c'.w:=by
  intro m;induction m with
  |zero=>intro α H c' a h;exact h.elim
  |succ m ih=>
   intro α H c' a h hs hx ha;refine wpIn_mono (h r c' a hr hs ha) fun e a' w' ⟨c2,α',H',e1,e2,e3,e4,e5⟩=>?_
   subst e1;cases e with
   |normal=>exact ih _ _ _ _ e5 e2 (hx.trans e3) e4
   |exit id=>exact⟨c2,α',H',rfl,e2,hx.trans e3,e4,e5⟩
   |goto l=>exact⟨c2,α',H',rfl,e2,hx.trans e3,e4,e5⟩
   |ret=>exact⟨c2,α',H',rfl,e2,hx.trans e3,e4,e5⟩
   |panic ch=>exact⟨c2,α',H',rfl,e2,hx.trans e3,e4,e5⟩
   |outgrown=>exact⟨c2,α',H',rfl,e2,hx.trans e3,e4,e5⟩
 exact key m α H c a h hs (Ext.refl c) ha
theorem all_nil{α:Type}{p:α→Prop}:∀x∈([]:List α),p x:=fun _ h=>by cases h
theorem all_cons{α:Type}{p:α→Prop}{a:α}{l:List α}(h:p a)(hs:∀x∈l,p x):∀x∈a::l,p x:=List.forall_mem_cons.2 ⟨h,hs⟩
theorem aH6{n v:Nat}{cs:List AV}(h:∀x∈cs,Cl n x):ClB n (.cells v cs):=h
theorem aRV{n:Nat}{cs:List AV}(h:∀x∈cs,Cl n x):Cl n (.agg cs):=.agg _ fun _ x hx=>h x (zAp hx)
theorem aRW{n:Nat}{cs:List AV}(h:∀x∈cs,Cl n x):Cl n (.tup cs):=.tup _ fun _ x hx=>h x (zAp hx)
theorem aNQ{n:Nat}{f:Fn}{fs cs:List AV}(h1:∀x∈fs,Cl n x)(h2:∀x∈cs,Cl n x):Cl n (.func f fs cs):=.func _ _ _ (fun _ x hx=>h1 x (zAp hx)) (fun _ x hx=>h2 x (zAp hx))
theorem aNR{n:Nat}{cs:List AV}(h:∀x∈cs,Cl n x):Cl n (.cptr cs):=.cptr _ fun _ x hx=>h x (zAp hx)
theorem jU{H M:AHeap}{n:Nat}(h:∀b∈M,ClB n b):∀(i:Nat) (b:ABlk),(H++M)[i]?=some b→H[i]?=some b∨ClB n b:=fun i b hi=>by
 grind
theorem iV{f:AV}{args:List AV}{H:AHeap}{x:AV}{k:AV→AHeap→Prop}(h:ACall P f args H (fun r G=>r=x∧G=H))(hk:k x H):lN P f args H k:=
 h.mono fun _ _ ⟨e1,e2⟩=>by rw[e1,e2];exact hk
end
end Go.Proofs.YtennnelammaapaaGreatDoor
