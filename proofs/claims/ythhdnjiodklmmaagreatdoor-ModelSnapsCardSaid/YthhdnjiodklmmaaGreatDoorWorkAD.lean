/- The texts 4 of 51 beneath the rows of this seat (joined by program): the abstract machine, and what the functions answer. No condition. -/
import Derived.Test.YthhdnjiodklmmaaGreatDoorWorkAC
import Derived.Scope
import Derived.KernelRfl
set_option linter.unusedSimpArgs false
set_option linter.unusedVariables false
set_option linter.unusedSectionVars false
/- The abstract machine: what the representation tells (ranges of integers, lengths), scopes, calls of values. No condition. -/
namespace Go.Aw
open Go
set_option linter.unusedVariables false
variable {P:Program}
inductive Ok:AV→Prop
 |int (k:IntKind) (n:Int) (h:inR k n):Ok (.int k n)
 |bool (b:Bool):Ok (.bool b)
 |str (s:List UInt8) (h:s.length≤9223372036854775807):Ok (.str s)
 |agg (cs:List AV) (h:∀x∈cs,Ok x):Ok (.agg cs)
 |tup (cs:List AV) (h:∀x∈cs,Ok x):Ok (.tup cs)
 |sl (f:Bool) (es:List AV) (hl:es.length≤9223372036854775807) (h:∀e∈es,∀x∈e.cells,Ok x):Ok (.sl f es)
 |cptr (cs:List AV):Ok (.cptr cs)
 |ref (i v off:Nat):Ok (.ref i v off)
 |osl (s i v off len lc:Nat) (h:lc≤9223372036854775807):Ok (.osl s i v off len lc)
 |nilptr:Ok .nilptr
 |map (i:Nat):Ok (.map i)
 |nilmap:Ok .nilmap
 |iter (i:Nat):Ok (.iter i)
 |func (fn:Fn) (fs cs:List AV):Ok (.func fn fs cs)
 |nilfunc:Ok .nilfunc
 |iface (t:TypeId) (x:AV) (h:Ok x):Ok (.iface t x)
 |nilIface:Ok .nilIface
 |opt (g:Bool) (x:AV) (h:g=true→Ok x):Ok (.opt g x)
 |top:Ok .top
theorem mW{α:Type}{l:List α}{x:α}(h:x∈l):∃i:Nat,l[i]?=some x:=by
 obtain⟨i,hi,he⟩:=List.getElem_of_mem h
 exact⟨i,by rw[List.getElem?_eq_getElem hi,he]⟩
theorem Rep.ok{c:Ctx}{x:AV}{v:Value}(h:Rep c x v):Ok x:=by
 induction h with
 |int k n h=>exact .int k n h
 |bool b=>exact .bool b
 |str s h=>exact .str s h
 |agg cs vs hl _ ih=>exact .agg cs fun x hx=>let⟨i,hi⟩:=mW hx;let⟨v,hv⟩:=jE hl hi;ih i x v hi hv
 |tup cs vs hl _ ih=>exact .tup cs fun x hx=>let⟨i,hi⟩:=mW hx;let⟨v,hv⟩:=jE hl hi;ih i x v hi hv
 |sl full es base len cap s vs hlen _ _ _ _ _ hmax ih=>exact .sl full es (by omega) fun e he x hx=>let⟨k,hk⟩:=mW he;let⟨j,hj⟩:=mW hx;ih k e j x hk hj
 |cptr cs=>exact .cptr cs
 |ref i v off=>exact .ref i v off
 |osl s i v off len lc val _ _ _ h=>exact .osl s i v off len lc h
 |nilptr=>exact .nilptr
 |map i=>exact .map i
 |nilmap=>exact .nilmap
 |iter i=>exact .iter i
 |func fn fs cs=>exact .func fn fs cs
 |nilfunc=>exact .nilfunc
 |iface t x _ _ ih=>exact .iface t x ih
 |nilIface=>exact .nilIface
 |opt g x _ _ _ ih=>exact .opt g x ih
 |top=>exact .top
theorem aIz{k:IntKind}{n:Int}(h:Ok (.int k n)):inR k n:=by cases h;assumption
theorem aPb{n:Int}(h:Ok (.int .i64 n)): -9223372036854775808≤n∧n≤9223372036854775807:=aFv.1 (aIz h)
theorem aIA{n:Int}(h:Ok (.int .u8 n)):0≤n∧n≤255:=aDU.1 (aIz h)
theorem aPc{cs:List AV}(h:Ok (.agg cs)):∀x∈cs,Ok x:=by cases h;assumption
theorem lK{f:Bool}{es:List AV}(h:Ok (.sl f es)):es.length≤9223372036854775807:=by cases h;assumption
theorem RepAll.ok{c:Ctx}{xs:List AV}{vs:Array Value}(h:RepAll c xs vs):∀x∈xs,Ok x:=fun x hx=>
 let⟨i,hi⟩:=mW hx
 let⟨v,hv⟩:=jE h.1 hi
 (h.2 i x v hi hv).ok
theorem aGB{f:FuncId}{args:List AV}{H:AHeap}{R:AV→AHeap→Prop}(h:(∀x∈args,Ok x)→ACalls P f args H R):ACalls P f args H R:=
 fun c vs hs ha=>h ha.ok c vs hs ha
theorem aD6{f:FuncId}{args:List AV}{H:AHeap}{x:AV}(h:(∀x∈args,Ok x)→cJ P f args H x):cJ P f args H x:=aGB h
theorem aFB{f:FuncId}{a:AV}{H:AHeap}{x:AV}(h:Ok a→cJ P f [a] H x):cJ P f [a] H x:=aD6 fun k=>h (k _ (by simp))
theorem gI{f:FuncId}{a b:AV}{H:AHeap}{x:AV}(h:Ok a→Ok b→cJ P f [a,b] H x):cJ P f [a,b] H x:=aD6 fun k=>h (k _ (by simp)) (k _ (by simp))
theorem aFC{f:FuncId}{a b d:AV}{H:AHeap}{x:AV}(h:Ok a→Ok b→Ok d→cJ P f [a,b,d] H x):cJ P f [a,b,d] H x:=aD6 fun k=>h (k _ (by simp)) (k _ (by simp)) (k _ (by simp))
def aCc(Q:bP):bP
 |.goto _,_,_=>False
 |e,α,H=>Q e α H
section
variable (Q:bP) (α:AF) (H:AHeap)
@[go_sem] theorem aKY:aCc Q .normal α H=Q .normal α H:=rfl
@[go_sem] theorem aPd:aCc Q .ret α H=Q .ret α H:=rfl
@[go_sem] theorem aNO(i:Nat):aCc Q (.exit i) α H=Q (.exit i) α H:=rfl
end
theorem aD7{F:Fence}{n:Nat}{c:Code}{Q:Exit→Act→World→Prop}{a:Act}{w:World}(h:c.wpIn F n P (Exit.noGoto Q) a w):(Code.scope c).wpIn F n P Q a w:=by
 intro b k cs hro hb hr
 have h0:(lone (b.atR a (.code (.scope c)::k)) cs w).fenced P F:=fenced_calm hb hr rfl
 have s0:step P (lone (b.atR a (.code (.scope c)::k)) cs w)=.next (lone (b.atR a (.code c::.inScope c::k)) cs w):=step_lone_go (by simp[stepG,stepG.exec,Frame.atR])
 obtain⟨e,a₁,w₁,hq,harr⟩:=h b (.inScope c::k) cs hro hb hr
 have s1:step P (lone (b.atR a₁ (.inScope c::k)) cs w₁)=.next (lone (b.atR a₁ k) cs w₁):=step_lone_go (by simp[stepG,stepG.exec,Frame.atR])
 cases e with
 |normal=>exact⟨.normal,a₁,w₁,hq,.head h0 s0 (StepsIn.trans harr (.one (fenced_calm hb hr rfl) s1))⟩
 |exit id=>exact⟨.exit id,a₁,w₁,hq,fun k' hk=>.head h0 s0 (harr.1 k' (by simp[exitTo,hk])),fun hr' hk=>let⟨k₁,h1,h2⟩:=harr.2 hr' (by simp[exitTo,hk]);⟨k₁,h1,.head h0 s0 h2⟩⟩
 |goto l=>exact hq.elim
 |ret=>exact⟨_,a₁,w₁,hq,.of_steps (.one h0 s0) harr⟩
 |panic ch=>exact⟨_,a₁,w₁,hq,.of_steps (.one h0 s0) harr⟩
 |outgrown=>exact⟨_,a₁,w₁,hq,.of_steps (.one h0 s0) harr⟩
theorem aIB{N:Nat}{x:Code}{Q:bP}{α:AF}{H:AHeap}(h:aw P N x (aCc Q) α H):aw P N (.scope x) Q α H:=by
 intro r c a hr hs ha
 refine aD7 (wpIn_mono (h r c a hr hs ha) fun e a' w' ⟨c',α',H',e1,e2,e3,e4,e5⟩=>?_)
 cases e with
 |goto l=>exact e5.elim
 |_=>exact⟨c',α',H',e1,e2,e3,e4,e5⟩
theorem eW{f:FuncId}{first args cap:List AV}{H:AHeap}{x:AV}{k:AV→AHeap→Prop}(h:cJ P f (first++args++cap) H x)(ok:aB P f=true)(hk:k x H):lJ P (.func (.func f) first cap) args H k:=
 Or.inl ⟨ok,h.mono fun y H' ⟨e1,e2⟩=>by subst e1;subst e2;exact hk⟩
theorem mX{f:FuncId}{first args cap:List AV}{H:AHeap}{R:AV→AHeap→Prop}{k:AV→AHeap→Prop}(h:ACalls P f (first++args++cap) H R)(ok:aB P f=true)(hk:∀x H',R x H'→k x H'):lJ P (.func (.func f) first cap) args H k:=
 Or.inl ⟨ok,h.mono hk⟩
theorem eX{g:Bool}{f:FuncId}{first args cap:List AV}{H:AHeap}{x:AV}{K:AV→Prop}(h:g=true→cJ P f (first++args++cap) H x)(ok:aB P f=true)(hk:K x):lI P g (.func (.func f) first cap) args H K:=
 ⟨x,fun hg=>Or.inl ⟨ok,h hg⟩,hk⟩
theorem aC4{f:AV}{args:List AV}{H:AHeap}{K:AV→Prop}(v:AV)(hk:K v):lI P false f args H K:=⟨v,(fun h=>by cases h),hk⟩
def FnV(P:Program)(f:AV)(args:List AV)(H:AHeap)(x:AV):Prop:=∀L,ACall P f args (H++L) (fun v H'=>v=x∧H'=H++L)
theorem FnV.mk{f:FuncId}{first args cap:List AV}{H:AHeap}{x:AV}(h:∀L,cJ P f (first++args++cap) (H++L) x)(ok:aB P f=true):FnV P (.func (.func f) first cap) args H x:=
 fun L=>Or.inl ⟨ok,h L⟩
theorem aLK{f:AV}{args:List AV}{H L:AHeap}{x:AV}{k:AV→AHeap→Prop}(h:FnV P f args H x)(hk:k x (H++L)):lJ P f args (H++L) k:=by
 exact(h L).mono fun y H' ⟨e1,e2⟩=>by subst e1;subst e2;exact hk
theorem pW{f:AV}{args:List AV}{H:AHeap}{x:AV}{k:AV→AHeap→Prop}(h:FnV P f args H x)(hk:k x H):lJ P f args H k:=by
 have h1:=aLK (L:=[]) (k:=k) h (by rw[List.append_nil];exact hk)
 rwa[List.append_nil]at h1
theorem aH{H:AHeap}{i:Nat}{b:ABlk}(h:hget H i=b)(hb:b.live)(L:AHeap):hget (H++L) i=b:=by
 have hlt:=bI h hb
 have h1:=dQ h hb
 simp only[hget,List.getD_eq_getElem?_getD]
 rw[List.getElem?_append_left hlt,h1];rfl
theorem bS{H:AHeap}{i:Nat}(h:i<H.length)(L:AHeap)(b:ABlk):aD (H++L) i b=aD H i b++L:=by
 unfold aD
 rw[List.set_append_left _ _ h]
end Go.Aw
/- The abstract machine: the end of a function, what may be known less exactly, calls that change the heap. No condition. -/
namespace Go.Aw
open Go
set_option linter.unusedVariables false
variable {P:Program}
inductive Sim:AV→AV→Prop
 |refl (x:AV):Sim x x
 |sl (f:Bool) (es:List AV):Sim (.sl f es) (.sl false es)
 |agg (cs ds:List AV) (hl:cs.length=ds.length) (h:∀(i:Nat) (x y:AV),cs[i]?=some x→ds[i]?=some y→Sim x y):Sim (.agg cs) (.agg ds)
 |tup (cs ds:List AV) (hl:cs.length=ds.length) (h:∀(i:Nat) (x y:AV),cs[i]?=some x→ds[i]?=some y→Sim x y):Sim (.tup cs) (.tup ds)
 |iface (t:TypeId) (x y:AV) (h:Sim x y):Sim (.iface t x) (.iface t y)
 |top (x:AV):Sim x .top
theorem Sim.of{x y:AV}(h:x=y):Sim x y:=h▸.refl x
theorem fL:∀(i:Nat) (x y:AV),([]:List AV)[i]?=some x→([]:List AV)[i]?=some y→Sim x y:=fun _ _ _ h=>by simp at h
theorem aQ{a b:AV}{cs ds:List AV}(h:Sim a b)(hs:∀(i:Nat) (x y:AV),cs[i]?=some x→ds[i]?=some y→Sim x y):∀(i:Nat) (x y:AV),(a::cs)[i]?=some x→(b::ds)[i]?=some y→Sim x y
 |0,x,y,hx,hy=>by simp at hx hy;subst hx;subst hy;exact h
 |i+1,x,y,hx,hy=>hs i x y (by simpa using hx) (by simpa using hy)
theorem Rep.sim{c:Ctx}{x y:AV}(h:Sim x y):∀{v:Value},Rep c x v→Rep c y v:=by
 induction h with
 |refl x=>exact fun h=>h
 |sl f es=>intro v hr;cases hr with|sl _ _ base len cap s vs h1 h2 h3 h4 h5 h6 h7=>exact .sl false es base len cap s vs h1 h2 (fun h=>by cases h) h4 h5 h6 h7
 |agg cs ds hl _ ih=>
  intro v hr
  cases hr with
  |agg _ vs h1 h2=>
   refine .agg ds vs (by omega) fun i y u hy hu=>?_
   have hlt:=(List.getElem?_eq_some_iff.1 hy).1
   have hx:cs[i]?=some (cs[i]'(by omega)):=List.getElem?_eq_getElem (by omega)
   exact ih i _ y hx hy (h2 i _ u hx hu)
 |tup cs ds hl _ ih=>
  intro v hr
  cases hr with
  |tup _ vs h1 h2=>
   refine .tup ds vs (by omega) fun i y u hy hu=>?_
   have hlt:=(List.getElem?_eq_some_iff.1 hy).1
   have hx:cs[i]?=some (cs[i]'(by omega)):=List.getElem?_eq_getElem (by omega)
   exact ih i _ y hx hy (h2 i _ u hx hu)
 |iface t x y _ ih=>
  intro v hr
  cases hr with
  |iface _ _ v' hv=>exact .iface t y v' (ih hv)
 |top x=>exact fun _=>.top _
theorem St.simCells{c:Ctx}{H:AHeap}(hst:St c H){i v:Nat}{cs ds:List AV}(hh:hget H i=.cells v cs)(hl:cs.length=ds.length)(hs:∀(i:Nat) (x y:AV),cs[i]?=some x→ds[i]?=some y→Sim x y):St c (aD H i (.cells v ds)):=by
 have hi:=dQ hh trivial
 have hlt:=bI hh trivial
 have hget:∀{j:Nat} {b:ABlk},(aD H i (.cells v ds))[j]?=some b→(j=i∧b=.cells v ds)∨(j≠i∧H[j]?=some b):=by
  intro j b hj
  by_cases e:j=i
  ·subst e
   rw[aD,List.getElem?_set_self hlt]at hj
   cases hj;exact .inl ⟨rfl,rfl⟩
  ·rw[aD,List.getElem?_set_ne (fun q=>e q.symm)]at hj
   exact .inr ⟨e,hj⟩
 have hget':∀{j:Nat} {b:ABlk},(aD H i (.cells v ds))[j]?=some b→b.live→∃b':ABlk,H[j]?=some b'∧b'.live:=by
  intro j b hj hb
  rcases hget hj with⟨rfl,rfl⟩|⟨_,h⟩
  ·exact⟨_,hi,trivial⟩
  ·exact⟨_,h,hb⟩
 refine⟨by simp[aD,hst.n],hst.lt,fun j k b b' hj hk hb hb' dj dk he=>?_,fun k hk=>?_,fun j b hj=>?_⟩
 ·obtain⟨b1,g1,g2⟩:=hget' hj hb
  obtain⟨b2,g3,g4⟩:=hget' hk hb'
  exact hst.inj j k b1 b2 g1 g3 g2 g4 dj dk he
 ·obtain⟨h1,h2⟩:=hst.st k hk
  refine⟨h1,fun j b hj hb dj=>?_⟩
  obtain⟨b1,g1,g2⟩:=hget' hj hb
  exact h2 j b1 g1 g2 dj
 ·rcases hget hj with⟨rfl,rfl⟩|⟨_,h⟩
  ·have hr:=hst.rep j _ hi
   cases hr with
   |cells _ _ vs e fr q1 q2 q3 q4 q5 q6=>
    refine .cells _ _ vs e fr q1 q2 q3 (by omega) q5 fun m y u hy hu=>?_
    have hlt2:=(List.getElem?_eq_some_iff.1 hy).1
    have hx:cs[m]?=some (cs[m]'(by omega)):=List.getElem?_eq_getElem (by omega)
    exact(q6 m _ u hx hu).sim (hs m _ y hx hy)
   |void _ q1 q2=>
    have:ds=[]:=List.eq_nil_of_length_eq_zero (by simpa using hl.symm)
    subst this
    exact .void _ q1 q2
  ·exact hst.rep j b h
theorem yL{N:Nat}{code:Code}{Q:bP}{α:AF}{H:AHeap}(i:Nat){v:Nat}{cs:List AV}(ds:List AV)(hh:hget H i=.cells v cs)(hl:cs.length=ds.length)(hs:∀(i:Nat) (x y:AV),cs[i]?=some x→ds[i]?=some y→Sim x y)(h:aw P N code Q α (aD H i (.cells v ds))):aw P N code Q α H:=
 fun r c a hr hst ha=>h r c a hr (hst.simCells hh hl hs) ha
theorem oP{N:Nat}{code:Code}{Q:bP}{α:AF}{H:AHeap}(t s:Nat)(hx:look α t=.sl true [])(h:aw P N code Q ((t,.osl s H.length 1 0 0 0)::α) (H++[.cells 1 []])):aw P N code Q α H:=by
 intro r c a hr hst ha
 have hv:=Ext.void c
 refine wpIn_mono (h r c.void a hr hst.void ⟨ha.size,ha.defers.mono hv,fun u=>?_⟩) fun _ _ _ ⟨c',α',H',e1,e2,e3,e4,e5⟩=>⟨c',α',H',e1,e2,hv.trans e3,e4,e5⟩
 rw[look]
 by_cases e:t=u
 ·subst e
  rw[beq_self_eq_true,cond_true]
  have hr:=ha.rep t
  rw[hx]at hr
  generalize a.tmps.getD t undef=val at hr
  cases hr with
  |sl _ _ base len cap s' vs h1 h2 h3 h4 h5 h6 h7=>
   have hcap:=h3 rfl
   simp at h1
   subst h1
   subst hcap
   exact .osl _ _ _ _ _ _ _ (by simp[Ctx.void,hst.n]) (by simp[Ctx.void,hst.n]) rfl (by omega) (fun _ _=>⟨rfl,rfl,base,rfl⟩) (fun _ hd=>by simp[Ctx.void,hst.n]at hd)
 ·have hb:(t==u)=false:=by simpa using e
  rw[hb,cond_false]
  exact(ha.rep u).mono hv
inductive Pur:AV→Prop
 |int (k n):Pur (.int k n)
 |bool (b):Pur (.bool b)
 |str (s):Pur (.str s)
 |agg (cs:List AV) (h:∀x∈cs,Pur x):Pur (.agg cs)
 |tup (cs:List AV) (h:∀x∈cs,Pur x):Pur (.tup cs)
 |sl (f) (es:List AV) (h:∀x∈es,Pur x):Pur (.sl f es)
 |nilptr:Pur .nilptr
 |nilmap:Pur .nilmap
 |nilfunc:Pur .nilfunc
 |iface (t x) (h:Pur x):Pur (.iface t x)
 |nilIface:Pur .nilIface
 |top:Pur .top
theorem Pur.cells{x:AV}(h:Pur x):∀y∈x.cells,Pur y:=by
 cases h<;>first
  |(rename_i h;exact h)
  |(intro y hy;simp only[AV.cells,List.mem_singleton]at hy;subst hy;constructor;done)
  |(rename_i h;intro y hy;simp only[AV.cells,List.mem_singleton]at hy;subst hy;constructor;exact h)
theorem Pur.cl{x:AV}(h:Pur x)(n:Nat):Cl n x:=by
 induction h with
 |int k m=>exact .int k m
 |bool b=>exact .bool b
 |str s=>exact .str s
 |agg cs _ ih=>exact .agg cs fun i x hx=>ih x (List.mem_of_getElem? hx)
 |tup cs _ ih=>exact .tup cs fun i x hx=>ih x (List.mem_of_getElem? hx)
 |sl f es _ ih=>
  refine .sl f es fun k e j x hk hj=>?_
  have h1:=ih e (List.mem_of_getElem? hk)
  have key:∀e:AV,Cl n e→∀x∈e.cells,Cl n x:=by
   intro e he x hx
   cases e with
   |agg cs=>cases he with|agg _ hh=>obtain⟨i,hi⟩:=mW hx;exact hh i x hi
   |_=>simp only[AV.cells,List.mem_singleton]at hx;subst hx;exact he
  exact key e h1 x (List.mem_of_getElem? hj)
 |nilptr=>exact .nilptr
 |nilmap=>exact .nilmap
 |nilfunc=>exact .nilfunc
 |iface t x _ ih=>exact .iface t x ih
 |nilIface=>exact .nilIface
 |top=>exact .top
section
variable (k:IntKind) (n:Int) (b f:Bool) (s:List UInt8) (cs:List AV) (t:TypeId) (x:AV)
def aD8(l:List AV):Prop:=∀x∈l,Pur x
section
variable {α:Type}
@[go_sem] theorem aVD(k:IntKind)(n:Int):Pur (.int k n)=True:=eq_true (.int k n)
@[go_sem] theorem aUQ(b:Bool):Pur (.bool b)=True:=eq_true (.bool b)
@[go_sem] theorem aVE(s:List UInt8):Pur (.str s)=True:=eq_true (.str s)
@[go_sem] theorem aUR:Pur .nilIface=True:=eq_true .nilIface
@[go_sem] theorem aUS:Pur .nilptr=True:=eq_true .nilptr
@[go_sem] theorem aUT:Pur .nilmap=True:=eq_true .nilmap
@[go_sem] theorem aUU:Pur .nilfunc=True:=eq_true .nilfunc
@[go_sem] theorem aVF(cs:List AV):Pur (.agg cs)=aD8 cs:=propext ⟨fun h=>by cases h;assumption,.agg cs⟩
@[go_sem] theorem aVG(cs:List AV):Pur (.tup cs)=aD8 cs:=propext ⟨fun h=>by cases h;assumption,.tup cs⟩
@[go_sem] theorem aWk(f:Bool)(cs:List AV):Pur (.sl f cs)=aD8 cs:=propext ⟨fun h=>by cases h;assumption,.sl f cs⟩
@[go_sem] theorem aTS(t:TypeId)(x:AV):Pur (.iface t x)=Pur x:=propext ⟨fun h=>by cases h;assumption,.iface t x⟩
@[go_sem] theorem aUV:aD8 []=True:=eq_true fun _ h=>by cases h
@[go_sem] theorem aTT(x:AV)(l:List AV):aD8 (x::l)=(Pur x∧aD8 l):=propext List.forall_mem_cons
@[go_sem] theorem aUW(f:α→AV)(l:List α)(h:∀x,Pur (f x)):aD8 (l.map f)=True:=eq_true fun x hx=>by obtain⟨y,_,rfl⟩:=List.mem_map.1 hx;exact h y
end
end
theorem Sim.frz{n:Nat}{H:AHeap}{x y:AV}(h:Sim x y):Pur x→Frz n H x y:=by
 induction h with
 |refl x=>exact fun hp=>.cl x (hp.cl n)
 |sl f es=>exact fun hp=>.slw f es (hp.cl n)
 |agg cs ds hl _ ih=>exact fun hp=>.agg cs ds hl fun i x y hx hy=>ih i x y hx hy (by cases hp with|agg _ h=>exact h x (List.mem_of_getElem? hx))
 |tup cs ds hl _ ih=>exact fun hp=>.tup cs ds hl fun i x y hx hy=>ih i x y hx hy (by cases hp with|tup _ h=>exact h x (List.mem_of_getElem? hx))
 |iface t x y _ ih=>exact fun hp=>.iface t x y (ih (by cases hp with|iface _ _ h=>exact h))
 |top x=>exact fun _=>.any x
theorem done{n:Nat}{H L:AHeap}{v x:AV}(hp:Pur v)(hs:Sim v x):∃L' y,H++L=H++L'∧Frz n (H++L) v y∧y=x:=⟨L,x,rfl,hs.frz hp,rfl⟩
theorem aY{n:Nat}{H:AHeap}{v x:AV}(hp:Pur v)(hs:Sim v x):∃L' y,H=H++L'∧Frz n H v y∧y=x:=⟨[],x,(List.append_nil H).symm,hs.frz hp,rfl⟩
theorem aIC{n:Nat}{H L G M:AHeap}{v x:AV}(hG:H++L=G)(hp:Pur v)(hs:Sim v x):∃L' y,G++M=H++L'∧Frz n (G++M) v y∧y=x:=⟨L++M,x,by rw[←hG,List.append_assoc],hs.frz hp,rfl⟩
theorem sI{n:Nat}{H L G:AHeap}{v x:AV}(hG:H++L=G)(hp:Pur v)(hs:Sim v x):∃L' y,G=H++L'∧Frz n G v y∧y=x:=⟨L,x,hG.symm,hs.frz hp,rfl⟩
theorem aTU{H L G M:AHeap}(hG:H++L=G):G++M=H++(L++M):=by rw[←hG,List.append_assoc]
theorem yM{n:Nat}{H:AHeap}{i v s k lc:Nat}{cs es rest:List AV}(hn:n≤i)(hh:hget H i=.cells v cs)(hcs:cs=es.flatMap AV.cells++rest)(hk:es.length=k)(hs:∀e∈es,e.cells.length=s)(hp:∀e∈es,Pur e):
  Frz n H (.osl s i v 0 k lc) (.sl false es):=by
 have hf:=pV hs
 refine .osl s i v 0 k lc cs es hn hh hk (by rw[hcs,List.length_append,hf,hk];omega) hs fun k j e x y he hy hx=>?_
 have h1:=uB hs he hy
 have hlt:=(List.getElem?_eq_some_iff.1 h1).1
 rw[Nat.zero_add,hcs,List.getElem?_append_left hlt,h1]at hx
 cases hx
 exact .cl _ ((Pur.cells (hp e (List.mem_of_getElem? he)) _ (List.mem_of_getElem? hy)).cl n)
theorem jS{H L:AHeap}{i v s k lc:Nat}{cs es rest:List AV}{x:AV}(hn:H.length≤i)(hh:hget (H++L) i=.cells v cs)(hcs:cs=es.flatMap AV.cells++rest)(hk:es.length=k)(hs:∀e∈es,e.cells.length=s)(hp:∀e∈es,Pur e)(hx:x=.sl false es):
  ∃L' y,H++L=H++L'∧Frz H.length (H++L) (.osl s i v 0 k lc) y∧y=x:=⟨L,x,rfl,by rw[hx];exact yM hn hh hcs hk hs hp,rfl⟩
def ClB(n:Nat):ABlk→Prop
 |.cells _ cs=>∀x∈cs,Cl n x
 |.map es _=>∀p∈es,Cl n p.1∧Cl n p.2.1
 |.miter m _ _ _=>m<n
 |.loop _ α _ _ _ _ _ _=>∀t,Cl n (look α t)
 |_=>True
theorem St.cl0{c:Ctx}{H:AHeap}(h:St c H){i:Nat}{b:ABlk}(hi:H[i]?=some b):ClB c.n b:=by
 cases h.rep i b hi with
 |cells ver cs vs e fr _ _ _ hl _ hr=>exact fun x hx=>let⟨j,hj⟩:=mW hx;(hr j x _ hj (Array.getElem?_eq_getElem (by have:=(List.getElem?_eq_some_iff.1 hj).1;omega))).cl
 |void=>exact fun x hx=>by simp at hx
 |map es clock ents _ _ _ hl hr=>exact fun p hp=>let⟨j,hj⟩:=mW hp;let⟨q1,q2,_⟩:=hr j p _ hj (Array.getElem?_eq_getElem (by have:=(List.getElem?_eq_some_iff.1 hj).1;omega));⟨q1.cl,q2.cl⟩
 |miter m _ _ _ _ _ hm=>exact hm
 |siter=>trivial
 |loop _ _ _ _ _ _ _ _ _ _ _ _ _ _ _ _ hr=>exact fun t=>(hr t).cl
 |gone=>trivial
theorem St.dropG{c:Ctx}{n:Nat}{H L:AHeap}(hn:n=H.length)(hst:St c (H++L))(hcl:∀(i:Nat) (b:ABlk),H[i]?=some b→ClB n b):St (c.drop n) H where
 n:=hn
 lt:=fun i hi hd=>by
  have hi':i<n:=hi
  exact hst.lt i (by rw[hst.n];simp;omega) hd
 inj:=fun i j b b' hi hj hb hb' di dj he=>by
  have h1:=(List.getElem?_eq_some_iff.1 hi).1
  have h2:=(List.getElem?_eq_some_iff.1 hj).1
  exact hst.inj i j b b' (by rw[List.getElem?_append_left h1];exact hi) (by rw[List.getElem?_append_left h2];exact hj) hb hb' di dj he
 st:=fun k hk=>by
  have hln:=hst.n
  rw[List.length_append]at hln
  rcases hk with hk|⟨i,h1,h2,h3,rfl⟩
  ·obtain⟨q1,q2⟩:=hst.st k hk
   exact⟨q1,fun j b hj hb hd=>q2 j b (by rw[List.getElem?_append_left (List.getElem?_eq_some_iff.1 hj).1];exact hj) hb hd⟩
  ·refine⟨hst.lt i h2 h3,fun j b hj hb hd e=>?_⟩
   have hj':=(List.getElem?_eq_some_iff.1 hj).1
   have hlt:i<(H++L).length:=by rw[List.length_append];omega
   have hi:(H++L)[i]?=some (H++L)[i]:=List.getElem?_eq_getElem hlt
   by_cases hlive:((H++L)[i]).live
   ·have:=hst.inj j i b _ (by rw[List.getElem?_append_left hj'];exact hj) hi hb hlive hd h3 e
    omega
   ·have hr:=hst.rep i _ hi
    generalize(H++L)[i]=bi at hr hlive
    cases hr with
    |gone hd'=>rw[h3]at hd';cases hd'
    |_=>exact hlive trivial
 rep:=fun i b hi=>by
  have hi':=(List.getElem?_eq_some_iff.1 hi).1
  have h1:=hst.rep i b (by rw[List.getElem?_append_left hi'];exact hi)
  have h2:=hcl i b hi
  cases h1 with
  |cells ver cs vs e fr hv hd hh hl hf hr=>exact .cells ver cs vs e fr hv hd hh hl hf fun j x v hx hv'=>(hr j x v hx hv').drop (h2 x (List.mem_of_getElem? hx))
  |void ver hv hd=>exact .void ver hv hd
  |map es clock ents hv hd hh hl hr=>exact .map es clock ents hv hd hh hl fun j p e hp he=>let⟨g1,g2,g3⟩:=hr j p e hp he;let⟨q1,q2⟩:=h2 p (List.mem_of_getElem? hp);⟨g1.drop q1,g2.drop q2,g3⟩
  |miter m since seen stepped hv hd hm hmv hmd hh=>exact .miter m since seen stepped hv hd h2 hmv hmd hh
  |siter s pos hv hd hh hsl=>exact .siter s pos hv hd hh hsl
  |loop l α N st pe ps ars bd fn D ts hv hd hl hh hN hr=>exact .loop l α N st pe ps ars bd fn D ts hv hd hl hh hN fun t=>(hr t).drop (h2 t)
  |gone hd=>exact .gone hd
theorem bJ{f:FuncId}{fn:Func}{code:Code}{args:List AV}{H:AHeap}{R:AV→AHeap→Prop}(hf:P.funcs[f]?=some fn)(hb:fn.body=some code)(hn:args.length≤fn.ntmps)
  (h:aw P fn.ntmps code (aCZ P fn.results.toList fun v H'=>∃H1 L y,H'=H1++L∧H1.length=H.length∧(∀(i:Nat) (b:ABlk),H1[i]?=some b→H[i]?=some b∨ClB H.length b)∧Frz H.length H' v y∧R y H1) (jB 0 args) H):ACalls P f args H R:=by
 intro c vs hs ha
 refine(dH hf hb hn h c vs hs ha).mono fun e w' ⟨c',x,v,H',e1,e2,e3,e4,e5,H1,L,y,e6,e6',e6'',e7,e8⟩=>?_
 subst e6
 refine⟨c'.drop c.n,y,v,H1,e1,e2,St.dropG (by rw[hs.n,e6']) e3 (fun i b hi=>?_),e4.drop,?_,e8⟩
 ·rcases e6'' i b hi with h|h
  ·exact hs.cl0 h
  ·rw[hs.n];exact h
 ·have:=e7.sound e3 e5
  rwa[←hs.n]at this
theorem Cl.mono{n m:Nat}(h:n≤m){x:AV}(k:Cl n x):Cl m x:=by
 induction k with
 |int k n=>exact .int k n
 |bool b=>exact .bool b
 |str s=>exact .str s
 |agg cs _ ih=>exact .agg cs ih
 |tup cs _ ih=>exact .tup cs ih
 |sl f es _ ih=>exact .sl f es ih
 |cptr cs _ ih=>exact .cptr cs ih
 |ref i v off q=>exact .ref i v off (by omega)
 |osl s i v off len lc q=>exact .osl s i v off len lc (by omega)
 |nilptr=>exact .nilptr
 |map i q=>exact .map i (by omega)
 |nilmap=>exact .nilmap
 |iter i q=>exact .iter i (by omega)
 |func fn fs cs _ _ ih1 ih2=>exact .func fn fs cs ih1 ih2
 |nilfunc=>exact .nilfunc
 |iface t x _ ih=>exact .iface t x ih
 |nilIface=>exact .nilIface
 |opt g x _ ih=>exact .opt g x ih
 |top=>exact .top
theorem ClB.mono{n m:Nat}(h:n≤m){b:ABlk}(k:ClB n b):ClB m b:=by
 cases b with
 |cells v cs=>exact fun x hx=>(k x hx).mono h
 |map es cl=>exact fun p hp=>⟨(k p hp).1.mono h,(k p hp).2.mono h⟩
 |miter=>exact Nat.lt_of_lt_of_le k h
 |loop=>exact fun t=>(k t).mono h
 |siter=>trivial
 |gone=>trivial
theorem Ext.dropN{c c':Ctx}(h:Ext c c'){n:Nat}(hn:c.n≤n):Ext c (c'.drop n):=
 ⟨hn,h.size,fun b hb=>⟨.inl (h.st b hb).1,(h.st b hb).2⟩,h.ver,h.blk,h.os,h.tape,h.output,h.base⟩
theorem fW{f:FuncId}{fn:Func}{code:Code}{args:List AV}{H:AHeap}{R:AV→AHeap→Prop}(hf:P.funcs[f]?=some fn)(hb:fn.body=some code)(hn:args.length≤fn.ntmps)
  (h:aw P fn.ntmps code (aCZ P fn.results.toList fun v H'=>∃H1 L y,H'=H1++L∧H.length≤H1.length∧(∀(i:Nat) (b:ABlk),H1[i]?=some b→H[i]?=some b∨ClB H1.length b)∧Frz H1.length H' v y∧R y H1) (jB 0 args) H):ACalls P f args H R:=by
 intro c vs hs ha
 refine(dH hf hb hn h c vs hs ha).mono fun e w' ⟨c',x,v,H',e1,e2,e3,e4,e5,H1,L,y,e6,e6',e6'',e7,e8⟩=>?_
 subst e6
 refine⟨c'.drop H1.length,y,v,H1,e1,e2,St.dropG rfl e3 (fun i b hi=>?_),e4.dropN (by rw[hs.n];exact e6'),e7.sound e3 e5,e8⟩
 rcases e6'' i b hi with h|h
 ·exact(hs.cl0 h).mono (by rw[hs.n];exact e6')
 ·exact h
end Go.Aw
/- The abstract machine: a region in whatever order, in which what changes the heap comes one behind the other. No condition. -/
namespace Go.Aw
open Go
set_option linter.unusedSimpArgs false
variable {P:Program}
section before
variable (ops:Array Oper)
def Closed(listed:Array Bool):Prop:=∀q o,listed.getD q false=true→ops[q]?=some o→∀e∈o.after,Region.binds .any e=true→listed.getD e.on false=true
def Lst(i q:Nat):Prop:=∀listed,Closed ops listed→listed.getD q false=true→listed.getD i false=true
def Bef(i j:Nat):Prop:=∀listed,Closed ops listed→j∈Region.ready .any ops listed→listed.getD i false=true
def uC(i j:Nat):Bool:=
 match ops[j]? with
 |some o=>o.after.any fun e=>Region.binds .any e&&e.on==i
 |none=>false
variable {ops}
theorem aBt{i j:Nat}(h:uC ops i j=true):∃o e,ops[j]?=some o∧e∈o.after∧Region.binds .any e=true∧e.on=i:=by
 unfold uC at h
 split at h
 ·rename_i o ho
  obtain⟨e,he,h1⟩:=Array.any_eq_true'.1 h
  rw[Bool.and_eq_true,beq_iff_eq]at h1
  exact⟨o,e,ho,he,h1.1,h1.2⟩
 ·cases h
theorem Lst.refl(i:Nat):Lst ops i i:=fun _ _ h=>h
theorem Lst.trans{i j k:Nat}(h:Lst ops i j)(h':Lst ops j k):Lst ops i k:=fun l hc hk=>h l hc (h' l hc hk)
theorem Lst.dir{i j:Nat}(h:uC ops i j=true):Lst ops i j:=fun l hc hj=>by
 obtain⟨o,e,ho,he,hb,rfl⟩:=aBt h
 exact hc j o hj ho e he hb
theorem Bef.dir{i q j:Nat}(h:uC ops q j=true)(hl:Lst ops i q):Bef ops i j:=fun l hc hj=>by
 obtain⟨o,e,ho,he,hb,rfl⟩:=aBt h
 obtain⟨_,o',ho',hall⟩:=mem_ready.1 hj
 rw[ho]at ho'
 cases ho'
 exact hl l hc (hall e he hb)
theorem Closed.set{listed:Array Bool}{j:Nat}(hc:Closed ops listed)(hj:j∈Region.ready .any ops listed):Closed ops (listed.setIfInBounds j true):=by
 intro q o hq ho e he hb
 by_cases hqj:j=q
 ·subst hqj
  obtain⟨_,o',ho',hall⟩:=mem_ready.1 hj
  rw[ho]at ho'
  cases ho'
  exact getD_set_true (hall e he hb)
 ·rw[getD_set_ne false hqj]at hq
  exact getD_set_true (hc q o hq ho e he hb)
theorem oQ{i j:Nat}{listed:Array Bool}(hc:Closed ops listed)(hi:i∈Region.ready .any ops listed)(hj:j∈Region.ready .any ops listed):¬Bef ops i j:=fun h=>by
 have h1:=h listed hc hj
 obtain⟨h0,_,hi',_⟩:=mem_ready.1 hi
 rcases Nat.lt_or_ge i listed.size with h'|h'
 ·simp[h']at h0 h1;rw[h0]at h1;cases h1
 ·simp[Array.getElem?_eq_none h']at h1
end before
section tree
variable (P) (N:Nat) (ops:Array Oper) (eff:Nat→Bool)
abbrev vW:=List (Nat×AHeap)
abbrev hP:=List (Nat×(AHeap→Prop))
def yv(o:Oper)(α:AF)(v:AV)(h h':AHeap):Prop:=YG P N ops h o α (fun v' H'=>v'=v∧H'=h')
def qM(i:Nat)(K:AF→AHeap→vW→hP→Prop)(α:AF)(H:AHeap)(hist:vW)(past:hP):Prop:=
 match ops[i]? with
 |none=>K α H hist past
 |some o=>
  if eff i=true then ∃v H1,yv P N ops o α v H H1∧(∀p∈past,¬Bef ops p.1 i→p.2 H1)∧K (bZ o.dst v α) H1 ((i,H)::hist) past
  else ∃v,yv P N ops o α v H H∧(∀e∈hist,¬Bef ops e.1 i→yv P N ops o α v e.2 e.2)∧K (bZ o.dst v α) H hist ((i,fun h=>yv P N ops o α v h h)::past)
def vX(K:AF→AHeap→Prop):Nat→Array Bool→AF→AHeap→vW→hP→Prop
 |0,listed,α,H,_,_=>Region.ready .any ops listed=[]∧K α H
 |fuel+1,listed,α,H,hist,past=>(Region.ready .any ops listed=[]→K α H)∧∀i∈Region.ready .any ops listed,qM P N ops eff i (vX K fuel (listed.setIfInBounds i true)) α H hist past
variable {P} {N} {ops} {eff}
theorem yv.alike{o:Oper}{α β:AF}{v:AV}{h h':AHeap}(hab:Alike α β)(k:yv P N ops o α v h h'):yv P N ops o β v h h':=YG.alike hab k
theorem yv.put{oi oj:Oper}{α:AF}{v u:AV}{h h':AHeap}(k:yv P N ops oi α v h h')(hap:∀d,oj.dst=some d→d∉oi.looksAt ops):yv P N ops oi (bZ oj.dst u α) v h h':=
 fun r c a next Q h1 h2 h3 hk=>k r c a next Q h1 h2 (fun t ht=>by
  have:=h3 t ht
  rwa[mV fun x hx e=>hap x hx (e▸ht)]at this) hk
theorem yv.unput{oi oj:Oper}{α:AF}{v u:AV}{h h':AHeap}(k:yv P N ops oi (bZ oj.dst u α) v h h')(hap:∀d,oj.dst=some d→d∉oi.looksAt ops):yv P N ops oi α v h h':=
 fun r c a next Q h1 h2 h3 hk=>k r c a next Q h1 h2 (fun t ht=>by
  rw[mV fun x hx e=>hap x hx (e▸ht)]
  exact h3 t ht) hk
def PastLe(p q:hP):Prop:=∀x∈q,∃y∈p,y.1=x.1∧∀h,y.2 h→x.2 h
theorem PastLe.refl(p:hP):PastLe p p:=fun x hx=>⟨x,hx,rfl,fun _ h=>h⟩
theorem PastLe.cons{p q:hP}{i:Nat}{φ ψ:AHeap→Prop}(h:∀x,φ x→ψ x)(hpq:PastLe p q):PastLe ((i,φ)::p) ((i,ψ)::q):=by
 intro x hx
 cases hx with
 |head=>exact⟨_,.head _,rfl,h⟩
 |tail _ hx=>obtain⟨y,hy,h1,h2⟩:=hpq x hx;exact⟨y,.tail _ hy,h1,h2⟩
theorem PastLe.swap{p:hP}{i j:Nat}{φ φ' ψ ψ':AHeap→Prop}(h:∀x,φ x→φ' x)(k:∀x,ψ x→ψ' x):PastLe ((j,ψ)::(i,φ)::p) ((i,φ')::(j,ψ')::p):=by
 intro x hx
 cases hx with
 |head=>exact⟨_,.tail _ (.head _),rfl,h⟩
 |tail _ hx=>
  cases hx with
  |head=>exact⟨_,.head _,rfl,k⟩
  |tail _ hx=>exact⟨x,.tail _ (.tail _ hx),rfl,fun _ h=>h⟩
theorem kJ{K:AF→AHeap→Prop}(hK:∀α β H,Alike α β→K α H→K β H):∀(n:Nat) (listed:Array Bool) (α β:AF) (H:AHeap) (hist:vW) (past past':hP),Alike α β→PastLe past past'→
  vX P N ops eff K n listed α H hist past→vX P N ops eff K n listed β H hist past'
 |0,_,_,_,_,_,_,_,hab,_,h=>⟨h.1,hK _ _ _ hab h.2⟩
 |n+1,listed,α,β,H,hist,past,past',hab,hp,h=>by
  refine⟨fun h0=>hK _ _ _ hab (h.1 h0),fun i hi=>?_⟩
  have:=h.2 i hi
  unfold qM at this ⊢
  split
  ·rename_i ho;simp only[ho]at this;exact kJ hK n _ _ _ _ _ _ _ hab hp this
  ·rename_i o ho
   simp only[ho]at this
   split
   ·rename_i he
    rw[if_pos he]at this
    obtain⟨v,H1,h1,h2,h3⟩:=this
    refine⟨v,H1,h1.alike hab,fun p hpp hb=>?_,kJ hK n _ _ _ _ _ _ _ (hab.put _ _) hp h3⟩
    obtain⟨y,hy,e1,e2⟩:=hp p hpp
    exact e2 _ (h2 y hy (by rw[e1];exact hb))
   ·rename_i he
    rw[if_neg he]at this
    obtain⟨v,h1,h2,h3⟩:=this
    exact⟨v,h1.alike hab,fun e hee hb=>(h2 e hee hb).alike hab,kJ hK n _ _ _ _ _ _ _ (hab.put _ _) (.cons (fun _ h=>h.alike hab) hp) h3⟩
def Head(P:Program)(N:Nat)(ops:Array Oper)(eff:Nat→Bool)(i:Nat)(oi:Oper)(v:AV)(H1:AHeap)(α:AF)(H:AHeap)(hist:vW)(past:hP):Prop:=
 yv P N ops oi α v H H1∧(eff i=true→∀p∈past,¬Bef ops p.1 i→p.2 H1)∧(eff i=false→H1=H∧∀e∈hist,¬Bef ops e.1 i→yv P N ops oi α v e.2 e.2)
theorem Head.qM{K:AF→AHeap→vW→hP→Prop}{i:Nat}{oi:Oper}{v:AV}{H1:AHeap}{α:AF}{H:AHeap}{hist:vW}{past:hP}(hi:ops[i]?=some oi)(h:Head P N ops eff i oi v H1 α H hist past)
  (hk:K (bZ oi.dst v α) H1 (if eff i=true then(i,H)::hist else hist) (if eff i=true then past else(i,fun h=>yv P N ops oi α v h h)::past)):qM P N ops eff i K α H hist past:=by
 unfold Go.Aw.qM
 simp only[hi]
 cases he:eff i with
 |true=>
  rw[he]at hk
  rw[if_pos rfl]
  exact⟨v,H1,h.1,h.2.1 he,hk⟩
 |false=>
  rw[he]at hk
  obtain⟨e1,e2⟩:=h.2.2 he
  subst e1
  rw[if_neg (by simp)]
  exact⟨v,h.1,e2,hk⟩
theorem oR{K:AF→AHeap→Prop}(hK:∀α β H,Alike α β→K α H→K β H){i:Nat}{oi:Oper}{v:AV}(hi:ops[i]?=some oi)(hEE:eff i=true→∀j,eff j=true→j≠i→∀listed,Closed ops listed→i∈Region.ready .any ops listed→j∈Region.ready .any ops listed→False):
  ∀(fuel:Nat) (listed:Array Bool) (α:AF) (H H1:AHeap) (hist:vW) (past:hP),Closed ops listed→
   (∀j oj,ops[j]?=some oj→j≠i→listed.getD j true=false→(∀e∈oj.after,Region.binds .any e=true→e.on≠i)→oi.apart ops oj=true)→
   i∈Region.ready .any ops listed→Head P N ops eff i oi v H1 α H hist past→
   vX P N ops eff K fuel (listed.setIfInBounds i true) (bZ oi.dst v α) H1 (if eff i=true then(i,H)::hist else hist) (if eff i=true then past else(i,fun h=>yv P N ops oi α v h h)::past)→
   vX P N ops eff K (fuel+1) listed α H hist past:=by
 intro fuel
 induction fuel with
 |zero=>
  intro listed α H H1 hist past _ _ hr hy hh
  refine⟨fun h=>(by rw[h]at hr;cases hr),fun j hj=>?_⟩
  by_cases hji:j=i
  ·subst hji;exact hy.qM hi hh
  ·have:=ready_mono hj hji
   rw[hh.1]at this
   cases this
 |succ fuel ih=>
  intro listed α H H1 hist past hcl hfree hr hy hh
  refine⟨fun h=>(by rw[h]at hr;cases hr),fun j hj=>?_⟩
  by_cases hji:j=i
  ·subst hji;exact hy.qM hi hh
  ·have h1:=hh.2 j (ready_mono hj hji)
   obtain⟨hjun,oj,hoj,hall⟩:=mem_ready.1 hj
   have hnb:¬Bef ops i j:=oQ hcl hr hj
   have hnot:∀e∈oj.after,Region.binds .any e=true→e.on≠i:=fun e he hb heq=>by
    have h1:=hall e he hb
    have h0:=(mem_ready.1 hr).1
    rw[heq]at h1
    rcases Nat.lt_or_ge i listed.size with h'|h'
    ·simp[h']at h0 h1;rw[h0]at h1;cases h1
    ·simp[Array.getElem?_eq_none h']at h1
   obtain⟨p1,p2,p3⟩:=Oper.apart_spec (hfree j oj hoj hji hjun hnot)
   have hcl':=hcl.set hj
   have hfree':∀k ok,ops[k]?=some ok→k≠i→(listed.setIfInBounds j true).getD k true=false→
     (∀e∈ok.after,Region.binds .any e=true→e.on≠i)→oi.apart ops ok=true:=fun k ok hk hki hun hno=>by
    refine hfree k ok hk hki ?_ hno
    by_cases hjk:j=k
    ·subst hjk;exact hjun
    ·rw[getD_set_ne true hjk]at hun;exact hun
   have hr':=ready_mono hr (Ne.symm hji)
   have hcomm:=Array.setIfInBounds_comm (xs:=listed) true true (Ne.symm hji)
   unfold Go.Aw.qM at h1 ⊢
   simp only[hoj]at h1 ⊢
   cases hej:eff j with
   |true=>
    rw[hej,if_pos rfl]at h1
    rw[if_pos rfl]
    obtain⟨u,H2,hyj,hpj,hkj⟩:=h1
    cases hei:eff i with
    |true=>exact(hEE hei j hej hji listed hcl hr hj).elim
    |false=>
     obtain⟨e1,e2⟩:=hy.2.2 hei
     subst e1
     simp only[hei,Bool.false_eq_true,if_false]at hpj hkj
     have hyi2:=hpj (i,fun h=>yv P N ops oi α v h h) (.head _) hnb
     refine⟨u,H2,hyj.unput p1,fun p hp hb=>hpj p (.tail _ hp) hb,?_⟩
     refine ih (listed.setIfInBounds j true) (bZ oj.dst u α) H2 H2 ((j,H1)::hist) past hcl' hfree' hr' ⟨yv.put hyi2 p3,fun h=>(by rw[hei]at h;cases h),fun _=>⟨rfl,fun e he hb=>?_⟩⟩ ?_
     ·cases he with
      |head=>exact hy.1.put p3
      |tail _ he=>exact(e2 e he hb).put p3
     ·simp only[hei,Bool.false_eq_true,if_false]
      rw[Array.setIfInBounds_comm _ _ hji]
      exact kJ hK _ _ _ _ _ _ _ _ (iI p2) (.cons (fun _ h=>h.put p3) (.refl _)) hkj
   |false=>
    rw[hej,if_neg (by simp)]at h1
    rw[if_neg (by simp)]
    obtain⟨u,hyj,hhj,hkj⟩:=h1
    cases hei:eff i with
    |true=>
     simp only[hei,if_true]at hhj hkj
     have hyj0:yv P N ops oj α u H H:=(hhj (i,H) (.head _) hnb).unput p1
     refine⟨u,hyj0,fun e he hb=>(hhj e (.tail _ he) hb).unput p1,?_⟩
     refine ih (listed.setIfInBounds j true) (bZ oj.dst u α) H H1 hist _ hcl' hfree' hr' ⟨hy.1.put p3,fun _ p hp hb=>?_,fun h=>(by rw[hei]at h;cases h)⟩ ?_
     ·cases hp with
      |head=>exact hyj.unput p1
      |tail _ hp=>exact hy.2.1 hei p hp hb
     ·simp only[hei,if_true]
      rw[Array.setIfInBounds_comm _ _ hji]
      exact kJ hK _ _ _ _ _ _ _ _ (iI p2) (.cons (fun _ h=>h.unput p1) (.refl _)) hkj
    |false=>
     obtain⟨e1,e2⟩:=hy.2.2 hei
     subst e1
     simp only[hei,Bool.false_eq_true,if_false]at hhj hkj
     refine⟨u,hyj.unput p1,fun e he hb=>(hhj e he hb).unput p1,?_⟩
     refine ih (listed.setIfInBounds j true) (bZ oj.dst u α) H1 H1 hist _ hcl' hfree' hr' ⟨hy.1.put p3,fun h=>(by rw[hei]at h;cases h),fun _=>⟨rfl,fun e he hb=>(e2 e he hb).put p3⟩⟩ ?_
     simp only[hei,Bool.false_eq_true,if_false]
     rw[Array.setIfInBounds_comm _ _ hji]
     exact kJ hK _ _ _ _ _ _ _ _ (iI p2) (.swap (fun _ h=>h.put p3) (fun _ h=>h.unput p1)) hkj
def aM(P:Program)(N:Nat)(ops:Array Oper)(eff:Nat→Bool)(K:AF→AHeap→Prop):List Oper→Nat→AF→AHeap→vW→hP→Prop
 |[],_,α,H,_,_=>K α H
 |o::os,k,α,H,hist,past=>∃v H1,Head P N ops eff k o v H1 α H hist past∧
   aM P N ops eff K os (k+1) (bZ o.dst v α) H1 (if eff k=true then(k,H)::hist else hist) (if eff k=true then past else(k,fun h=>yv P N ops o α v h h)::past)
theorem aC5{K:AF→AHeap→Prop}(hK:∀α β H,Alike α β→K α H→K β H)(hEE:∀i j,eff i=true→eff j=true→j≠i→∀listed,Closed ops listed→i∈Region.ready .any ops listed→j∈Region.ready .any ops listed→False):
  ∀(l:List Oper) (k:Nat) (listed:Array Bool) (α:AF) (H:AHeap) (hist:vW) (past:hP),(∀j,l[j]?=ops[k+j]?)→Closed ops listed→
  Region.lexFrom .any ops l.length k listed=true→aM P N ops eff K l k α H hist past→vX P N ops eff K l.length listed α H hist past
 |[],_,_,_,_,_,_,_,_,hB,h=>⟨by simpa[Region.lexFrom]using hB,h⟩
 |o::l,k,listed,α,H,hist,past,hl,hc,hB,h=>by
  have h0:ops[k]?=some o:=by simpa using(hl 0).symm
  simp only[List.length_cons,Region.lexFrom,Bool.and_eq_true]at hB
  obtain⟨⟨hr,hf⟩,hB'⟩:=hB
  obtain⟨v,H1,hy,hk⟩:=h
  have hr':k∈Region.ready .any ops listed:=by simpa using hr
  exact oR hK h0 (fun he j hj hne=>hEE k j he hj hne) l.length listed α H H1 hist past hc (Region.free_spec h0 hf) hr' hy
   (aC5 hK hEE l (k+1) _ _ _ _ _ (fun j=>by have:=hl (j+1);simpa[Nat.add_assoc,Nat.add_comm 1 j]using this) (hc.set hr') hB' hk)
theorem kX{r:Option Nat}{Q:Exit→Act→World→Prop}{K:AF→AHeap→Prop}(hd:pS N ops=true)(c₀:Ctx)(hK:∀α H c a,K α H→St c H→Ext c₀ c→ARep c N α a→Q .normal a c.w):
  ∀(n:Nat) (listed:Array Bool) (α:AF) (H:AHeap) (hist:vW) (past:hP) (c:Ctx) (a:Act),St c H→Ext c₀ c→ARep c N α a→vX P N ops eff K n listed α H hist past→wpAnyIn (wf r) 0 P .any ops Q n listed a c.w
 |0,_,_,_,_,_,_,_,hs,hx,ha,h=>⟨h.1,hK _ _ _ _ h.2 hs hx ha⟩
 |n+1,listed,α,H,hist,past,c,a,hs,hx,ha,h=>by
  refine⟨fun h0=>hK _ _ _ _ (h.1 h0) hs hx ha,fun i hi=>?_⟩
  have h1:=h.2 i hi
  unfold qM at h1
  unfold wpOpIn
  split
  ·rename_i ho;simp only[ho]at h1;exact kX hd c₀ hK n _ _ _ _ _ _ _ hs hx ha h1
  ·rename_i o ho
   simp only[ho]at h1
   have hdo:aBl N o.dst=true:=List.all_eq_true.1 hd o (by rw[Array.mem_toList_iff];exact Array.mem_of_getElem? ho)
   have go:∀v H1 hist' past',yv P N ops o α v H H1→vX P N ops eff K n (listed.setIfInBounds i true) (bZ o.dst v α) H1 hist' past'→
     if Region.wanted o (yielded ops a.tmps)then o.wpIn (wf r) 0 P a c.w (wpAnyIn (wf r) 0 P .any ops Q n (listed.setIfInBounds i true)) Q else(∀f,o.about P c.w a.eval=some f→(wf r).fn f)∧wpAnyIn (wf r) 0 P .any ops Q n (listed.setIfInBounds i true) (a.put o.dst undef) c.w:=by
    intro v H1 hist' past' hy hk
    have:=hy r c a (wpAnyIn (wf r) 0 P .any ops Q n (listed.setIfInBounds i true)) Q hs ha.size (fun t _=>ha.rep t) fun c' x v' H' g1 g2 g3 g4=>by
     obtain⟨e1,e2⟩:=g4
     rw[e2]at g1
     rw[e1]at g3
     exact kX hd c₀ hK n _ _ _ _ _ _ _ g1 (hx.trans g2) ((ha.mono g2).put hdo g3) hk
    by_cases hw:Region.wanted o (yielded ops a.tmps)=true
    ·rw[if_pos hw]at this ⊢;exact this
    ·rw[if_neg hw]at this ⊢;exact⟨fun _ _=>trivial,this⟩
   by_cases he:eff i=true
   ·rw[if_pos he]at h1
    obtain⟨v,H1,hy,_,hk⟩:=h1
    exact go v H1 _ _ hy hk
   ·rw[if_neg he]at h1
    obtain⟨v,hy,_,hk⟩:=h1
    exact go v H _ _ hy hk
end tree
section chain
variable {ops:Array Oper}
def jT(ops:Array Oper):List Nat→Bool
 |a::b::l=>uC ops a b&&jT ops (b::l)
 |_=>true
theorem lR:∀{a:Nat} {l:List Nat},jT ops (a::l)=true→∀j∈l,Bef ops a j∧Lst ops a j
 |a,[],_,j,hj=>by cases hj
 |a,b::l,h,j,hj=>by
  rw[jT,Bool.and_eq_true]at h
  cases hj with
  |head=>exact⟨.dir h.1 (.refl _),.dir h.1⟩
  |tail _ hj=>
   obtain⟨_,h2⟩:=lR h.2 j hj
   have key:∀{b:Nat} {l:List Nat},jT ops (b::l)=true→∀x,Lst ops x b→∀j∈l,Bef ops x j:=by
    intro b l
    induction l generalizing b with
    |nil=>intro _ x _ j hj;cases hj
    |cons c l ih=>
     intro h x hx j hj
     rw[jT,Bool.and_eq_true]at h
     cases hj with
     |head=>exact .dir h.1 hx
     |tail _ hj=>exact ih h.2 x (hx.trans (.dir h.1)) j hj
   exact⟨key h.2 a (.dir h.1) j hj,(Lst.dir h.1).trans h2⟩
theorem zS{a:Nat}{l:List Nat}(h:jT ops (a::l)=true):jT ops l=true:=by
 cases l with
 |nil=>rfl
 |cons b l=>rw[jT,Bool.and_eq_true]at h;exact h.2
theorem zT:∀{l:List Nat},jT ops l=true→∀i j,i∈l→j∈l→j≠i→Bef ops i j∨Bef ops j i
 |[],_,i,_,hi,_,_=>by cases hi
 |a::l,h,i,j,hi,hj,hne=>by
  cases hi with
  |head=>
   cases hj with
   |head=>exact absurd rfl hne
   |tail _ hj=>exact .inl (lR h j hj).1
  |tail _ hi=>
   cases hj with
   |head=>exact .inr (lR h i hi).1
   |tail _ hj=>exact zT (zS h) i j hi hj hne
end chain
inductive Pl where
 |free
 |pure (w:Nat)
 |eff (fs:List Bool)
def nL:Op→Bool
 |.move _|.assign _|.build _ _|.buildSlice _ _ _|.binOp _ _ _ _ _|.unOp _ _ _|.convert _ _ _|.makeInterface _ _|.makeFunc _ _ _|.field _ _ _|.typeAssert _ _ _ _|.extract _ _|.pick _ _ _=>true
 |_=>false
def pureAt(P:Program)(all:List Oper)(h:AHeap)(o:Oper)(α:AF)(v:AV):Prop:=
 match o with
 |⟨_,op,_,_,_,guard⟩=>
  match guard,op with
  |none,.pick x y z=>(fR true (ev α x) (ev α y) (ev α z)).s∧v=(fR true (ev α x) (ev α y) (ev α z)).v
  |none,.call ⟨.value f,xs,_⟩=>ACall P (ev α f) (xs.toList.map (ev α)) h (fun v' H'=>v'=v∧H'=h)
  |none,.call ⟨.invoke r m,xs,_⟩=>ACall P (eH P m (ev α r)) (xs.toList.map (ev α)) h (fun v' H'=>v'=v∧H'=h)
  |none,op=>(aS P op (ev α) h).s∧(aS P op (ev α) h).H=h∧v=(aS P op (ev α) h).v
  |some (j,want),.pick x y z=>
   pO (aI α (cB all j))∧((bC (aI α (cB all j)) want)=true→(fR (bC (aI α (cB all j)) want) (ev α x) (ev α y) (ev α z)).s)∧
    v=.opt (bC (aI α (cB all j)) want) (fR (bC (aI α (cB all j)) want) (ev α x) (ev α y) (ev α z)).v
  |some (j,want),.call ⟨.value f,xs,_⟩=>
   pO (aI α (cB all j))∧dM (bC (aI α (cB all j)) want) α (f::xs.toList)∧
    ∃u,(bC (aI α (cB all j)) want=true→ACall P (fE α f) (xs.toList.map (fE α)) h (fun v' H'=>v'=u∧H'=h))∧v=.opt (bC (aI α (cB all j)) want) u
  |some (j,want),op=>
   pO (aI α (cB all j))∧dM (bC (aI α (cB all j)) want) α op.operands.toList∧((bC (aI α (cB all j)) want)=true→(aS P op (fE α) h).s∧(aS P op (fE α) h).H=h)∧
    v=.opt (bC (aI α (cB all j)) want) (aS P op (fE α) h).v
theorem pureAt.yv{N:Nat}{ops:Array Oper}{o:Oper}{α:AF}{h:AHeap}{v:AV}(k:pureAt P ops.toList h o α v):yv P N ops o α v h h:=by
 obtain⟨dst,op,ty,pos,after,guard⟩:=o
 dsimp only[pureAt]at k
 split at k
 ·obtain⟨h1,rfl⟩:=k
  exact YG.of_does rfl (kH (o:=⟨dst,.pick _ _ _,ty,pos,after,none⟩) (ρ:=ev α) (H:=h) rfl rfl h1)
 ·exact YG.of_does rfl (iQ rfl k)
 ·exact YG.of_does rfl (jK rfl k)
 ·obtain⟨h1,h2,rfl⟩:=k
  exact(YG.of_does rfl (fK h1)).mono fun v H' ⟨e1,e2⟩=>⟨e1,e2.trans h2⟩
 ·rename_i j want x y z
  obtain⟨h1,h2,rfl⟩:=k
  exact YG.of_guard (o:=⟨dst,.pick x y z,ty,pos,after,some (j,want)⟩) rfl h1 (ev α) (fun c a _ hl x hx=>fS fun t ht=>hl t (bK (by subst ht;exact hx)))
   (fun hg=>kH (g:=bC (aI α (cB ops.toList j)) want) rfl hg (h2 hg))
 ·rename_i j want f xs ts
  obtain⟨h1,h2,u,h3,rfl⟩:=k
  exact YG.of_guard (o:=⟨dst,.call ⟨.value f,xs,ts⟩,ty,pos,after,some (j,want)⟩) rfl h1 (fE α) (fun c a hg hl x hx=>fG (fS fun t ht=>hl t (bK (by subst ht;exact hx))) (dS h2 x (by simpa[Op.operands,Call.operands]using hx)) hg)
   (fun hg=>iQ rfl (h3 hg))
 ·rename_i j want op' _ _
  obtain⟨h1,h2,h3,rfl⟩:=k
  exact YG.of_guard (v:=(aS P op (fE α) h).v) rfl h1 (fE α) (fun c a hg hl x hx=>fG (fS fun t ht=>hl t (bK (by subst ht;exact hx))) (dS h2 x hx) hg)
   (fun hg=>(fK (h3 hg).1).mono fun v H' ⟨e1,e2⟩=>⟨e1,e2.trans (h3 hg).2⟩)
theorem xL{op:Op}(hf:nL op=true)(ρ:Operand→AV)(h h':AHeap):(aS P op ρ h').s=(aS P op ρ h).s∧(aS P op ρ h').v=(aS P op ρ h).v∧(aS P op ρ h').H=h':=by
 cases op<;>first|(simp[nL]at hf;done)|exact⟨rfl,rfl,rfl⟩|skip
 all_goals simp[aS]
theorem lB{all:List Oper}{h h':AHeap}{o:Oper}{α:AF}{v:AV}(hf:nL o.op=true)(k:pureAt P all h o α v):pureAt P all h' o α v:=by
 obtain⟨dst,op,ty,pos,after,guard⟩:=o
 have hf:nL op=true:=hf
 dsimp only[pureAt]at k ⊢
 split at k
 ·exact k
 ·simp[nL]at hf
 ·simp[nL]at hf
 ·rename_i op' hp hc _
  obtain⟨e1,e2,e3⟩:=xL (P:=P) hf (ev α) h h'
  rw[←e1,←e2]at k
  exact⟨k.1,e3,k.2.2⟩
 ·exact k
 ·simp[nL]at hf
 ·rename_i j want hp hc
  obtain⟨e1,e2,e3⟩:=xL (P:=P) hf (fE α) h h'
  rw[←e1,←e2]at k
  exact⟨k.1,k.2.1,fun hg=>⟨(k.2.2.1 hg).1,e3⟩,k.2.2.2⟩
def yF:List Bool→hP→AHeap→Prop
 |true::fs,p::ps,h=>p.2 h∧yF fs ps h
 |false::fs,_::ps,h=>yF fs ps h
 |_,_,_=>True
def kF{α:Type}:List Bool→List α→List α
 |true::fs,p::ps=>p::kF fs ps
 |false::fs,_::ps=>kF fs ps
 |_,_=>[]
def yG:Nat→List AHeap→(AHeap→Prop)→Prop
 |n+1,h::hs,φ=>φ h∧yG n hs φ
 |_,_,_=>True
def aTV(P:Program)(all:List Oper)(o:Oper)(α:AF)(H:AHeap):Prop:=
 match o.guard with
 |none=>(aS P o.op (ev α) H).s
 |some (j,want)=>pO (aI α (cB all j))∧dM (bC (aI α (cB all j)) want) α o.op.operands.toList∧(bC (aI α (cB all j)) want=true→(aS P o.op (fE α) H).s)
def aTW(P:Program)(all:List Oper)(o:Oper)(α:AF)(H:AHeap):AV:=
 match o.guard with
 |none=>(aS P o.op (ev α) H).v
 |some (j,want)=>.opt (bC (aI α (cB all j)) want) (aS P o.op (fE α) H).v
def aTX(P:Program)(all:List Oper)(o:Oper)(α:AF)(H:AHeap):AHeap:=
 match o.guard with
 |none=>(aS P o.op (ev α) H).H
 |some (j,want)=>bif bC (aI α (cB all j)) want then(aS P o.op (fE α) H).H else H
theorem YG.of_guardE{N:Nat}{ops:Array Oper}{H H1:AHeap}{o:Oper}{α:AF}{v:AV}{j:Nat}{want:Bool}(hg:o.guard=some (j,want))(hok:pO (aI α (cB ops.toList j)))
  (ρ:Operand→AV) (hρ:∀(c:Ctx) (a:Act),bC (aI α (cB ops.toList j)) want=true→(∀t∈o.looksAt ops,Rep c (look α t) (a.tmps.getD t undef))→∀x∈o.op.operands.toList,Rep c (ρ x) (a.eval x))
  (h:bC (aI α (cB ops.toList j)) want=true→Does P o ρ H (fun v' H'=>v'=v∧H'=H1)):
  YG P N ops H o α (fun v' H'=>v'=.opt (bC (aI α (cB ops.toList j)) want) v∧H'=bif bC (aI α (cB ops.toList j)) want then H1 else H):=by
 intro r c a next Q hs hsz hl hk
 rw[pR hg hl hok]
 cases hgv:bC (aI α (cB ops.toList j)) want with
 |true=>
  simp only[if_true]
  rw[hgv]at hk
  refine h hgv r c a next Q hs (hρ c a hgv hl) fun c' x v' H' h1 h2 h3 h4=>?_
  obtain⟨rfl,rfl⟩:=h4
  exact hk c' _ v' _ h1 h2 (.opt _ _ _ (fun _=>h3) (fun h=>by cases h)) ⟨rfl,rfl⟩
 |false=>
  simp only[Bool.false_eq_true,if_false]
  rw[hgv]at hk
  exact hk c _ undef H hs (Ext.refl c) (.opt _ _ _ (fun h=>by cases h) (fun _=>rfl)) ⟨rfl,rfl⟩
theorem aLL{N:Nat}{ops:Array Oper}{o:Oper}{α:AF}{H:AHeap}(h:aTV P ops.toList o α H):yv P N ops o α (aTW P ops.toList o α H) H (aTX P ops.toList o α H):=by
 obtain⟨dst,op,ty,pos,after,guard⟩:=o
 cases guard with
 |none=>exact YG.of_does rfl (fK (o:=⟨dst,op,ty,pos,after,none⟩) h)
 |some g=>
  obtain⟨j,want⟩:=g
  obtain⟨h1,h2,h3⟩:=h
  exact YG.of_guardE (o:=⟨dst,op,ty,pos,after,some (j,want)⟩) (v:=(aS P op (fE α) H).v) (H1:=(aS P op (fE α) H).H) rfl h1 (fE α)
   (fun c a hg hl x hx=>fG (fS fun t ht=>hl t (bK (by subst ht;exact hx))) (dS h2 x hx) hg)
   (fun hg=>fK (h3 hg))
def aID(P:Program)(all:List Oper)(o:Oper)(α:AF)(H:AHeap)(v:AV)(H1:AHeap):Prop:=
 match o with
 |⟨_,.call ⟨.value f,xs,_⟩,_,_,_,none⟩=>ACall P (ev α f) (xs.toList.map (ev α)) H (fun v' H'=>v'=v∧H'=H1)
 |⟨_,.call ⟨.value f,xs,_⟩,_,_,_,some (j,want)⟩=>pO (aI α (cB all j))∧dM (bC (aI α (cB all j)) want) α (f::xs.toList)∧
   ∃u,(bC (aI α (cB all j)) want=true→ACall P (fE α f) (xs.toList.map (fE α)) H (fun v' H'=>v'=u∧H'=H1))∧(bC (aI α (cB all j)) want=false→H1=H)∧v=.opt (bC (aI α (cB all j)) want) u
 |o=>aTV P all o α H∧v=aTW P all o α H∧H1=aTX P all o α H
theorem aFD{N:Nat}{ops:Array Oper}{o:Oper}{α:AF}{H H1:AHeap}{v:AV}(h:aID P ops.toList o α H v H1):yv P N ops o α v H H1:=by
 unfold aID at h
 split at h
 ·exact YG.of_does rfl (iQ rfl h)
 ·rename_i dst f xs ts ty pos after j want
  obtain⟨h1,h2,u,h3,h4,rfl⟩:=h
  refine YG.mono (YG.of_guardE (o:=⟨dst,.call ⟨.value f,xs,ts⟩,ty,pos,after,some (j,want)⟩) (H1:=H1) rfl h1 (fE α) (fun c a hg hl x hx=>fG (fS fun t ht=>hl t (bK (by subst ht;exact hx))) (dS h2 x (by simpa[Op.operands,Call.operands]using hx)) hg)
   (fun hg=>iQ rfl (h3 hg))) fun v' H' ⟨e1,e2⟩=>⟨e1,e2.trans ?_⟩
  cases hg:bC (aI α (cB ops.toList j)) want with
  |true=>rfl
  |false=>exact(h4 hg).symm
 ·obtain⟨h1,rfl,rfl⟩:=h
  exact aLL h1
def cD(P:Program)(all:List Oper):List Pl→List Oper→Nat→AF→AHeap→List AHeap→hP→(AF→AHeap→Prop)→Prop
 |[],[],_,α,H,_,_,kont=>kont α H
 |.free::ps,o::os,k,α,H,hist,past,kont=>∃v,pureAt P all H o α v∧cD P all ps os (k+1) (bZ o.dst v α) H hist past kont
 |.pure w::ps,o::os,k,α,H,hist,past,kont=>∃v,pureAt P all H o α v∧yG w hist (fun h=>pureAt P all h o α v)∧
   cD P all ps os (k+1) (bZ o.dst v α) H hist ((k,fun h=>pureAt P all h o α v)::past) kont
 |.eff fs::ps,o::os,k,α,H,hist,past,kont=>∃v H1,aID P all o α H v H1∧yF fs past H1∧
   cD P all ps os (k+1) (bZ o.dst v α) H1 (H::hist) (kF fs past) kont
 |_,_,_,_,_,_,_,_=>False
def oS(ops:Array Oper):List Oper→List Pl→Nat→List Nat→List Nat→Bool
 |[],[],_,_,_=>true
 |o::os,.free::ps,k,effs,past=>nL o.op&&oS ops os ps (k+1) effs past
 |_::os,.pure w::ps,k,effs,past=>(match effs[w]? with|some e=>uC ops e k|none=>true)&&oS ops os ps (k+1) effs (k::past)
 |_::os,.eff fs::ps,k,effs,past=>(match effs with|e::_=>uC ops e k|[]=>true)&&(fs.length==past.length)&&(fs.zip past).all (fun x=>x.1||uC ops x.2 k)&&oS ops os ps (k+1) (k::effs) (kF fs past)
 |_,_,_,_,_=>false
def fP:List Pl→Nat→List Nat
 |[],_=>[]
 |.eff _::ps,k=>k::fP ps (k+1)
 |_::ps,k=>fP ps (k+1)
theorem jF:∀(pl:List Pl) (k i:Nat),i∈fP pl k→k≤i
 |[],_,_,h=>by cases h
 |.eff _::ps,k,i,h=>by
  cases h with
  |head=>exact Nat.le_refl _
  |tail _ h=>exact Nat.le_trans (Nat.le_succ _) (jF ps (k+1) i h)
 |.free::ps,k,i,h=>Nat.le_trans (Nat.le_succ _) (jF ps (k+1) i h)
 |.pure _::ps,k,i,h=>Nat.le_trans (Nat.le_succ _) (jF ps (k+1) i h)
theorem aBu{φ:AHeap→Prop}:∀{w:Nat} {hs:List AHeap},yG w hs φ→∀i h,i<w→hs[i]?=some h→φ h
 |0,_,_,_,_,hi,_=>absurd hi (Nat.not_lt_zero _)
 |w+1,[],_,i,h,_,hh=>by simp at hh
 |w+1,g::hs,k,0,h,_,hh=>by simp at hh;subst hh;exact k.1
 |w+1,g::hs,k,i+1,h,hi,hh=>aBu k.2 i h (Nat.lt_of_succ_lt_succ hi) (by simpa using hh)
def Falls(ops:Array Oper):List Nat→Prop
 |a::b::l=>uC ops b a=true∧Falls ops (b::l)
 |_=>True
theorem Falls.tail{ops:Array Oper}{a:Nat}{l:List Nat}(h:Falls ops (a::l)):Falls ops l:=by
 cases l with
 |nil=>trivial
 |cons b l=>exact h.2
theorem vY{ops:Array Oper}:∀{l:List Nat},Falls ops l→∀(p q a b:Nat),p≤q→l[p]?=some a→l[q]?=some b→Lst ops b a
 |[],_,p,_,_,_,_,h,_=>by simp at h
 |x::l,hf,0,0,a,b,_,h1,h2=>by simp at h1 h2;subst h1;subst h2;exact .refl _
 |x::l,hf,p+1,0,_,_,h,_,_=>absurd h (Nat.not_succ_le_zero p)
 |x::l,hf,p+1,q+1,a,b,h,h1,h2=>vY hf.tail p q a b (Nat.le_of_succ_le_succ h) (by simpa using h1) (by simpa using h2)
 |x::l,hf,0,q+1,a,b,_,h1,h2=>by
  simp at h1;subst h1
  cases l with
  |nil=>simp at h2
  |cons y l=>exact(vY hf.tail 0 q y b (Nat.zero_le _) (by simp) (by simpa using h2)).trans (.dir hf.1)
theorem vZ{ops:Array Oper}{k:Nat}{h:AHeap}:∀{fs:List Bool} {ps:hP},yF fs ps h→fs.length=ps.length→(∀x∈fs.zip (ps.map (·.1)),(x.1||uC ops x.2 k)=true)→
  ∀p∈ps,p.2 h∨uC ops p.1 k=true
 |[],[],_,_,_,p,hp=>by cases hp
 |true::fs,q::ps,ha,hl,hz,p,hp=>by
  cases hp with
  |head=>exact .inl ha.1
  |tail _ hp=>exact vZ ha.2 (by simpa using hl) (fun x hx=>hz x (by simp only[List.map_cons,List.zip_cons_cons];exact .tail _ hx)) p hp
 |false::fs,q::ps,ha,hl,hz,p,hp=>by
  cases hp with
  |head=>have:=hz (false,q.1) (by simp);simpa using Or.inr this
  |tail _ hp=>exact vZ (show yF fs ps h from ha) (by simpa using hl) (fun x hx=>hz x (by simp only[List.map_cons,List.zip_cons_cons];exact .tail _ hx)) p hp
 |[],_::_,_,hl,_,_,_=>by simp at hl
 |_::_,[],_,hl,_,_,_=>by simp at hl
theorem wA{β:Type}(f:(Nat×(AHeap→Prop))→β):∀(fs:List Bool) (ps:hP),(kF fs ps).map f=kF fs (ps.map f)
 |[],ps=>by cases ps<;>rfl
 |true::fs,[]=>rfl
 |false::fs,[]=>rfl
 |true::fs,p::ps=>by simp[kF,wA f fs ps]
 |false::fs,p::ps=>by simp[kF,wA f fs ps]
theorem sJ{ops:Array Oper}{k:Nat}:∀{fs:List Bool} {ps:hP},fs.length=ps.length→(∀x∈fs.zip (ps.map (·.1)),(x.1||uC ops x.2 k)=true)→∀p∈ps,p∈kF fs ps∨uC ops p.1 k=true
 |[],[],_,_,p,hp=>by cases hp
 |true::fs,q::ps,hl,hz,p,hp=>by
  cases hp with
  |head=>exact .inl (.head _)
  |tail _ hp=>exact(sJ (by simpa using hl) (fun x hx=>hz x (by simp only[List.map_cons,List.zip_cons_cons];exact .tail _ hx)) p hp).imp (.tail _) id
 |false::fs,q::ps,hl,hz,p,hp=>by
  cases hp with
  |head=>have:=hz (false,q.1) (by simp);simpa using Or.inr this
  |tail _ hp=>exact(sJ (by simpa using hl) (fun x hx=>hz x (by simp only[List.map_cons,List.zip_cons_cons];exact .tail _ hx)) p hp).imp id id
 |[],_::_,hl,_,_,_=>by simp at hl
 |_::_,[],hl,_,_,_=>by simp at hl
def aPe(ops:Array Oper)(effs:List Nat)(tp sp:hP):Prop:=
 ∀p∈tp,(∃e l,effs=e::l∧Lst ops p.1 e)∨(∀h,p.2 h)∨∃q∈sp,q.1=p.1∧∀h,q.2 h→p.2 h
theorem mY{N:Nat}{ops:Array Oper}{plan:List Pl}{K:AF→AHeap→Prop}(hN:True):
  ∀(os:List Oper) (pl:List Pl) (k:Nat) (α:AF) (H:AHeap) (effs:List Nat) (hist:List AHeap) (tp sp:hP),oS ops os pl k effs (sp.map (·.1))=true→
   (∀i,k≤i→(i∈fP plan 0↔i∈fP pl k))→effs.length=hist.length→Falls ops effs→aPe ops effs tp sp→
   cD P ops.toList pl os k α H hist sp K→aM P N ops (fun i=>(fP plan 0).contains i) K os k α H (effs.zip hist) tp
 |[],[],_,_,_,_,_,_,_,_,_,_,_,_,h=>h
 |o::os,.free::pl,k,α,H,effs,hist,tp,sp,hp,he,hl,hf,hpo,h=>by
  rw[oS,Bool.and_eq_true]at hp
  obtain⟨v,h1,h2⟩:=h
  have hne:(fP plan 0).contains k=false:=by
   rw[←Bool.not_eq_true,List.contains_iff_mem,he k (Nat.le_refl _)]
   intro hm
   have:=jF pl (k+1) k hm
   omega
  refine⟨v,H,⟨h1.yv,fun q=>Bool.noConfusion (hne.symm.trans q),fun _=>⟨rfl,fun e _ _=>(lB hp.1 h1).yv⟩⟩,?_⟩
  simp only[hne,Bool.false_eq_true,if_false]
  refine mY hN os pl (k+1) _ H effs hist _ sp hp.2 (fun i hi=>he i (by omega)) hl hf ?_ h2
  intro p hpp
  cases hpp with
  |head=>exact .inr (.inl fun h=>(lB hp.1 h1).yv)
  |tail _ hpp=>exact hpo p hpp
 |o::os,.pure w::pl,k,α,H,effs,hist,tp,sp,hp,he,hl,hf,hpo,h=>by
  rw[oS,Bool.and_eq_true]at hp
  obtain⟨v,h1,h2,h3⟩:=h
  have hne:(fP plan 0).contains k=false:=by
   rw[←Bool.not_eq_true,List.contains_iff_mem,he k (Nat.le_refl _)]
   intro hm
   have:=jF pl (k+1) k hm
   omega
  refine⟨v,H,⟨h1.yv,fun q=>Bool.noConfusion (hne.symm.trans q),fun _=>⟨rfl,fun e hee hb=>?_⟩⟩,?_⟩
  ·obtain⟨i,hi⟩:=List.getElem?_of_mem hee
   rw[List.getElem?_zip_eq_some]at hi
   by_cases hw:i<w
   ·exact(aBu h2 i e.2 hw hi.2).yv
   ·have hle:i<effs.length:=(List.getElem?_eq_some_iff.1 hi.1).1
    have hwl:effs[w]?=some (effs[w]'(by omega)):=List.getElem?_eq_getElem (by omega)
    rw[hwl]at hp
    exact absurd (.dir hp.1 (vY hf w i _ _ (by omega) hwl hi.1)) hb
  ·simp only[hne,Bool.false_eq_true,if_false]
   refine mY hN os pl (k+1) _ H effs hist _ _ (by simpa using hp.2) (fun i hi=>he i (by omega)) hl hf ?_ h3
   intro p hpp
   cases hpp with
   |head=>exact .inr (.inr ⟨_,.head _,rfl,fun h hh=>hh.yv⟩)
   |tail _ hpp=>
    rcases hpo p hpp with q|q|⟨q,hq,q1,q2⟩
    ·exact .inl q
    ·exact .inr (.inl q)
    ·exact .inr (.inr ⟨q,.tail _ hq,q1,q2⟩)
 |o::os,.eff fs::pl,k,α,H,effs,hist,tp,sp,hp,he,hl,hf,hpo,h=>by
  simp only[oS,Bool.and_eq_true]at hp
  obtain⟨⟨⟨hch,hfl⟩,hz⟩,hrest⟩:=hp
  obtain⟨v,H1,h1,h2,h3⟩:=h
  have hee:(fP plan 0).contains k=true:=by
   rw[List.contains_iff_mem,he k (Nat.le_refl _)];exact .head _
  have hfl':fs.length=sp.length:=by simpa using hfl
  have hz':∀x∈fs.zip (sp.map (·.1)),(x.1||uC ops x.2 k)=true:=List.all_eq_true.1 hz
  refine⟨_,_,⟨aFD h1,fun _ p hpp hb=>?_,fun q=>Bool.noConfusion (hee.symm.trans q)⟩,?_⟩
  ·rcases hpo p hpp with⟨e,l,he',q⟩|q|⟨q,hq,q1,q2⟩
   ·rw[he']at hch
    exact absurd (.dir hch q) hb
   ·exact q _
   ·rcases vZ h2 hfl' hz' q hq with r|r
    ·exact q2 _ r
    ·rw[q1]at r
     exact absurd (.dir r (.refl _)) hb
  ·simp only[hee,if_true]
   refine mY hN os pl (k+1) _ _ (k::effs) (H::hist) tp _ (by rw[wA];exact hrest) (fun i hi=>?_) (by simp[hl]) ?_ ?_ h3
   ·rw[he i (by omega)]
    constructor
    ·intro hm
     cases hm with
     |head=>omega
     |tail _ hm=>exact hm
    ·exact .tail _
   ·cases effs with
    |nil=>trivial
    |cons e l=>exact⟨hch,hf⟩
   ·intro p hpp
    rcases hpo p hpp with⟨e,l,he',q⟩|q|⟨q,hq,q1,q2⟩
    ·rw[he']at hch
     exact .inl ⟨k,effs,rfl,q.trans (.dir hch)⟩
    ·exact .inr (.inl q)
    ·rcases sJ hfl' hz' q hq with r|r
     ·exact .inr (.inr ⟨q,r,q1,q2⟩)
     ·rw[q1]at r
      exact .inl ⟨k,effs,rfl,.dir r⟩
theorem zU{all:List Oper}{k k':AF→AHeap→Prop}(hk:∀α H,k α H→k' α H)(pl:List Pl):∀(l:List Oper) (n:Nat) (α:AF) (H:AHeap) (hist:List AHeap) (past:hP),cD P all pl l n α H hist past k→cD P all pl l n α H hist past k':=by
 induction pl with
 |nil=>
  intro l n α H hist past h
  cases l with
  |nil=>exact hk α H h
  |cons o os=>exact h
 |cons p ps ih=>
  intro l n α H hist past h
  cases l with
  |nil=>cases p<;>exact h
  |cons o os=>
   cases p with
   |free=>obtain⟨v,h1,h2⟩:=h;exact⟨v,h1,ih _ _ _ _ _ _ h2⟩
   |pure w=>obtain⟨v,h1,h2,h3⟩:=h;exact⟨v,h1,h2,ih _ _ _ _ _ _ h3⟩
   |eff fs=>obtain⟨v,H1,h1,h2,h3⟩:=h;exact⟨v,H1,h1,h2,ih _ _ _ _ _ _ h3⟩
theorem aA9{N id:Nat}{ops:Array Oper}{Q:bP}{α:AF}{H:AHeap}(plan:List Pl)(hm:P.follows .mixedOrders=true)(hd:pS N ops=true)(hB:Region.lexB .any ops=true)
  (hp:(oS ops ops.toList plan 0 [] []&&jT ops (fP plan 0))=true) (h:cD P ops.toList plan ops.toList 0 α H [] [] (fun α' H'=>Q .normal α' H')):aw P N (.region id ops true) Q α H:=by
 intro r c a _ hs ha
 simp only[Region.lexB,Bool.and_eq_true]at hB hp
 refine wpIn_region_any hm ?_
 have h1:=zU (k':=fun α' H'=>∃β,Alike α' β∧Q .normal β H') (fun α' H' hq=>⟨α',fun _=>rfl,hq⟩) _ _ _ _ _ _ _ h
 have h2:=mY (P:=P) (N:=N) (ops:=ops) (plan:=plan) trivial ops.toList plan 0 α H [] [] [] [] hp.1 (fun _ _=>Iff.rfl) rfl trivial (fun p hp=>by cases hp) h1
 have hEE:∀i j,(fP plan 0).contains i=true→(fP plan 0).contains j=true→j≠i→∀listed,Closed ops listed→i∈Region.ready .any ops listed→j∈Region.ready .any ops listed→False:=by
  intro i j hi hj hne listed hc h1 h2
  rcases zT hp.2 i j (List.contains_iff_mem.1 hi) (List.contains_iff_mem.1 hj) hne with q|q
  ·exact oQ hc h1 h2 q
  ·exact oQ hc h2 h1 q
 have hc0:Closed ops (Array.replicate ops.size false):=by
  intro q o hq
  rw[Array.getD_eq_getD_getElem?]at hq
  by_cases hlt:q<ops.size<;>simp[Array.getElem?_replicate,hlt]at hq
 have h3:=aC5 (fun α β H hab ⟨γ,hg,hq⟩=>⟨γ,fun t=>(hab t).symm.trans (hg t),hq⟩) hEE ops.toList 0 (Array.replicate ops.size false) α H _ _ (by simp) hc0 (by simpa using hB.2) h2
 have h4:=kX (r:=r) (P:=P) (Q:=aBp N c Q) hd c (fun α' H' c' a' ⟨β,hab,hq⟩ hs' hx' ha'=>⟨c',β,H',rfl,hs',hx',ha'.weaken fun t=>.inr (hab t).symm,hq⟩)
  ops.toList.length (Array.replicate ops.size false) α H _ _ c.draw a hs.draw (Ext.draw c) (ha.mono (Ext.draw c)) h3
 rw[Array.length_toList]at h4
 exact h4
end Go.Aw
/- The abstract machine: the equations of regions in mixed order, for evaluation by simp only [go_sem]. No condition. -/
namespace Go.Aw
open Go
set_option linter.unusedVariables false
set_option linter.unusedSimpArgs false
variable {P:Program}
theorem exF{A B:Prop}{b:AV}{X:AV→Prop}:(∃v,(A∧B∧v=b)∧X v)=(A∧B∧X b):=
 propext ⟨fun⟨_,⟨h1,h2,e⟩,x⟩=>⟨h1,h2,e▸x⟩,fun⟨h1,h2,x⟩=>⟨b,⟨h1,h2,rfl⟩,x⟩⟩
theorem exG{A B C:Prop}{b:AV}{X:AV→Prop}:(∃v,(A∧B∧C∧v=b)∧X v)=(A∧B∧C∧X b):=
 propext ⟨fun⟨_,⟨h1,h2,h3,e⟩,x⟩=>⟨h1,h2,h3,e▸x⟩,fun⟨h1,h2,h3,x⟩=>⟨b,⟨h1,h2,h3,rfl⟩,x⟩⟩
theorem exP{A B:Prop}{b:AV}{W X:AV→Prop}:(∃v,(A∧B∧v=b)∧W v∧X v)=(A∧B∧W b∧X b):=
 propext ⟨fun⟨_,⟨h1,h2,e⟩,y,x⟩=>⟨h1,h2,e▸y,e▸x⟩,fun⟨h1,h2,y,x⟩=>⟨b,⟨h1,h2,rfl⟩,y,x⟩⟩
theorem exQ{A B C:Prop}{b:AV}{W X:AV→Prop}:(∃v,(A∧B∧C∧v=b)∧W v∧X v)=(A∧B∧C∧W b∧X b):=
 propext ⟨fun⟨_,⟨h1,h2,h3,e⟩,y,x⟩=>⟨h1,h2,h3,e▸y,e▸x⟩,fun⟨h1,h2,h3,y,x⟩=>⟨b,⟨h1,h2,h3,rfl⟩,y,x⟩⟩
theorem exE{A:Prop}{b:AV}{G:AHeap}{W:AHeap→Prop}{X:AV→AHeap→Prop}:(∃v H1,(A∧v=b∧H1=G)∧W H1∧X v H1)=(A∧W G∧X b G):=
 propext ⟨fun⟨_,_,⟨h1,e,e'⟩,y,x⟩=>by subst e;subst e';exact⟨h1,y,x⟩,fun⟨h1,y,x⟩=>⟨b,G,⟨h1,rfl,rfl⟩,y,x⟩⟩
attribute [go_sem] yF kF yG
def aIE(P:Program)(g:Bool)(f:AV)(xs:List AV)(H:AHeap)(K:AV→AHeap→Prop):Prop:=
 ∃v H1,(g=true→ACall P f xs H (fun v' H'=>v'=v∧H'=H1))∧(g=false→H1=H)∧K v H1
def jG(P:Program)(g:Bool)(f:AV)(xs:List AV)(v:AV):AHeap→Prop:=fun h=>g=true→ACall P f xs h (fun v' H'=>v'=v∧H'=h)
def aBv(P:Program)(g:Bool)(f:AV)(xs:List AV)(H:AHeap)(w:Nat)(hist:List AHeap)(K:AV→Prop):Prop:=∃v,jG P g f xs v H∧yG w hist (jG P g f xs v)∧K v
section
variable (all os:List Oper) (pp:List Pl) (w k:Nat) (fs:List Bool) (α:AF) (H:AHeap) (hist:List AHeap) (past:hP) (kont:AF→AHeap→Prop) (dst:Option Tmp) (ty:TypeId) (pos:String) (after:Array Edge)
def aD9(P:Program)(all:List Oper)(pp:List Pl)(os:List Oper)(k:Nat)(dst:Option Tmp)(α:AF)(H:AHeap)(hist:List AHeap)(past:hP)(kont:AF→AHeap→Prop)(f:AV)(xs:List AV):AV→Prop:=
 fun v=>cD P all pp os (k+1) (bZ dst v α) H hist ((k,jG P true f xs v)::past) kont
def aIF(P:Program)(all:List Oper)(pp:List Pl)(os:List Oper)(k:Nat)(dst:Option Tmp)(g:Bool)(α:AF)(H:AHeap)(hist:List AHeap)(past:hP)(kont:AF→AHeap→Prop)(f:AV)(xs:List AV):AV→Prop:=
 fun v=>cD P all pp os (k+1) (bZ dst (.opt g v) α) H hist ((k,jG P g f xs v)::past) kont
@[go_sem] theorem mN:cD P all [] [] k α H hist past kont=kont α H:=rfl
@[go_sem] theorem aTY(f:Operand)(xs:Array Operand)(ts:Array TypeId):cD P all (.pure w::pp) (⟨dst,.call ⟨.value f,xs,ts⟩,ty,pos,after,none⟩::os) k α H hist past kont=
  aBv P true (ev α f) (xs.toList.map (ev α)) H w hist (aD9 P all pp os k dst α H hist past kont (ev α f) (xs.toList.map (ev α))):=by
 have e:∀v,(fun h=>pureAt P all h ⟨dst,.call ⟨.value f,xs,ts⟩,ty,pos,after,none⟩ α v)=jG P true (ev α f) (xs.toList.map (ev α)) v:=fun v=>funext fun h=>propext ⟨fun k _=>k,fun k=>k rfl⟩
 show(∃v,(fun h=>pureAt P all h ⟨dst,.call ⟨.value f,xs,ts⟩,ty,pos,after,none⟩ α v) H∧yG w hist (fun h=>pureAt P all h ⟨dst,.call ⟨.value f,xs,ts⟩,ty,pos,after,none⟩ α v)∧cD P all pp os (k+1) (bZ dst v α) H hist ((k,fun h=>pureAt P all h ⟨dst,.call ⟨.value f,xs,ts⟩,ty,pos,after,none⟩ α v)::past) kont)=_
 have e':∀v,pureAt P all H ⟨dst,.call ⟨.value f,xs,ts⟩,ty,pos,after,none⟩ α v=jG P true (ev α f) (xs.toList.map (ev α)) v H:=fun v=>congrFun (e v) H
 simp only[e,e'];rfl
@[go_sem] theorem aSg(r:Operand)(m:String)(xs:Array Operand)(ts:Array TypeId):cD P all (.pure w::pp) (⟨dst,.call ⟨.invoke r m,xs,ts⟩,ty,pos,after,none⟩::os) k α H hist past kont=
  aBv P true (eH P m (ev α r)) (xs.toList.map (ev α)) H w hist (aD9 P all pp os k dst α H hist past kont (eH P m (ev α r)) (xs.toList.map (ev α))):=by
 have e:∀v,(fun h=>pureAt P all h ⟨dst,.call ⟨.invoke r m,xs,ts⟩,ty,pos,after,none⟩ α v)=jG P true (eH P m (ev α r)) (xs.toList.map (ev α)) v:=fun v=>funext fun h=>propext ⟨fun k _=>k,fun k=>k rfl⟩
 show(∃v,(fun h=>pureAt P all h ⟨dst,.call ⟨.invoke r m,xs,ts⟩,ty,pos,after,none⟩ α v) H∧yG w hist (fun h=>pureAt P all h ⟨dst,.call ⟨.invoke r m,xs,ts⟩,ty,pos,after,none⟩ α v)∧cD P all pp os (k+1) (bZ dst v α) H hist ((k,fun h=>pureAt P all h ⟨dst,.call ⟨.invoke r m,xs,ts⟩,ty,pos,after,none⟩ α v)::past) kont)=_
 have e':∀v,pureAt P all H ⟨dst,.call ⟨.invoke r m,xs,ts⟩,ty,pos,after,none⟩ α v=jG P true (eH P m (ev α r)) (xs.toList.map (ev α)) v H:=fun v=>congrFun (e v) H
 simp only[e,e'];rfl
@[go_sem] theorem aSh(f:Operand)(xs:Array Operand)(ts:Array TypeId)(j:Nat)(w0:Bool):cD P all (.pure w::pp) (⟨dst,.call ⟨.value f,xs,ts⟩,ty,pos,after,some (j,w0)⟩::os) k α H hist past kont=
  (pO (aI α (cB all j))∧dM (bC (aI α (cB all j)) w0) α (f::xs.toList)∧
   aBv P (bC (aI α (cB all j)) w0) (fE α f) (xs.toList.map (fE α)) H w hist (aIF P all pp os k dst (bC (aI α (cB all j)) w0) α H hist past kont (fE α f) (xs.toList.map (fE α)))):=by
 refine propext ⟨?_,?_⟩
 ·rintro⟨v,⟨h1,h2,u,h3,rfl⟩,h4,h5⟩
  have e:(fun h=>pureAt P all h ⟨dst,.call ⟨.value f,xs,ts⟩,ty,pos,after,some (j,w0)⟩ α (.opt (bC (aI α (cB all j)) w0) u))=jG P (bC (aI α (cB all j)) w0) (fE α f) (xs.toList.map (fE α)) u:=
   funext fun h=>propext ⟨fun⟨_,_,u',k1,k2⟩=>by cases k2;exact k1,fun k1=>⟨h1,h2,u,k1,rfl⟩⟩
  rw[e]at h4 h5
  exact⟨h1,h2,u,h3,h4,h5⟩
 ·rintro⟨h1,h2,u,h3,h4,h5⟩
  have e:(fun h=>pureAt P all h ⟨dst,.call ⟨.value f,xs,ts⟩,ty,pos,after,some (j,w0)⟩ α (.opt (bC (aI α (cB all j)) w0) u))=jG P (bC (aI α (cB all j)) w0) (fE α f) (xs.toList.map (fE α)) u:=
   funext fun h=>propext ⟨fun⟨_,_,u',k1,k2⟩=>by cases k2;exact k1,fun k1=>⟨h1,h2,u,k1,rfl⟩⟩
  refine⟨_,⟨h1,h2,u,h3,rfl⟩,?_,?_⟩
  ·show yG w hist (fun h=>pureAt P all h ⟨dst,.call ⟨.value f,xs,ts⟩,ty,pos,after,some (j,w0)⟩ α (.opt (bC (aI α (cB all j)) w0) u))
   rw[e];exact h4
  ·show cD P all pp os (k+1) _ H hist ((k,fun h=>pureAt P all h ⟨dst,.call ⟨.value f,xs,ts⟩,ty,pos,after,some (j,w0)⟩ α (.opt (bC (aI α (cB all j)) w0) u))::past) kont
   rw[e];exact h5
def aIG(P:Program)(all:List Oper)(pp:List Pl)(os:List Oper)(k:Nat)(fs:List Bool)(dst:Option Tmp)(g:Bool)(α:AF)(H:AHeap)(hist:List AHeap)(past:hP)(kont:AF→AHeap→Prop):AV→AHeap→Prop:=
 fun v H1=>yF fs past H1∧cD P all pp os (k+1) (bZ dst (.opt g v) α) H1 (H::hist) (kF fs past) kont
def aIH(P:Program)(all:List Oper)(pp:List Pl)(os:List Oper)(k:Nat)(fs:List Bool)(dst:Option Tmp)(α:AF)(H:AHeap)(hist:List AHeap)(past:hP)(kont:AF→AHeap→Prop):AV→AHeap→Prop:=
 fun v H1=>yF fs past H1∧cD P all pp os (k+1) (bZ dst v α) H1 (H::hist) (kF fs past) kont
@[go_sem] theorem aTZ(f:Operand)(xs:Array Operand)(ts:Array TypeId):cD P all (.eff fs::pp) (⟨dst,.call ⟨.value f,xs,ts⟩,ty,pos,after,none⟩::os) k α H hist past kont=
  aIE P true (ev α f) (xs.toList.map (ev α)) H (aIH P all pp os k fs dst α H hist past kont):=
 propext ⟨fun⟨v,H1,h1,h2⟩=>⟨v,H1,fun _=>h1,fun h=>(by cases h),h2⟩,fun⟨v,H1,h1,_,h2⟩=>⟨v,H1,h1 rfl,h2⟩⟩
@[go_sem] theorem aSi(f:Operand)(xs:Array Operand)(ts:Array TypeId)(j:Nat)(w0:Bool):cD P all (.eff fs::pp) (⟨dst,.call ⟨.value f,xs,ts⟩,ty,pos,after,some (j,w0)⟩::os) k α H hist past kont=
  (pO (aI α (cB all j))∧dM (bC (aI α (cB all j)) w0) α (f::xs.toList)∧
   aIE P (bC (aI α (cB all j)) w0) (fE α f) (xs.toList.map (fE α)) H (aIG P all pp os k fs dst (bC (aI α (cB all j)) w0) α H hist past kont)):=
 propext ⟨fun⟨_,H1,⟨h1,h2,u,h3,h4,rfl⟩,h5⟩=>⟨h1,h2,u,H1,h3,h4,h5⟩,fun⟨h1,h2,u,H1,h3,h4,h5⟩=>⟨_,H1,⟨h1,h2,u,h3,h4,rfl⟩,h5⟩⟩
@[go_sem] theorem aUX(x y z:Operand):cD P all (.free::pp) (⟨dst,.pick x y z,ty,pos,after,none⟩::os) k α H hist past kont=
  ((fR true (ev α x) (ev α y) (ev α z)).s∧cD P all pp os (k+1) (bZ dst (fR true (ev α x) (ev α y) (ev α z)).v α) H hist past kont):=
 propext ⟨fun⟨_,⟨h1,e⟩,x⟩=>⟨h1,e▸x⟩,fun⟨h1,x⟩=>⟨_,⟨h1,rfl⟩,x⟩⟩
@[go_sem] theorem aT0(x y z:Operand)(j:Nat)(w0:Bool):cD P all (.free::pp) (⟨dst,.pick x y z,ty,pos,after,some (j,w0)⟩::os) k α H hist past kont=
  (pO (aI α (cB all j))∧((bC (aI α (cB all j)) w0)=true→(fR (bC (aI α (cB all j)) w0) (ev α x) (ev α y) (ev α z)).s)∧
    cD P all pp os (k+1) (bZ dst (.opt (bC (aI α (cB all j)) w0) (fR (bC (aI α (cB all j)) w0) (ev α x) (ev α y) (ev α z)).v) α) H hist past kont):=
 propext ⟨fun⟨_,⟨h1,h2,e⟩,x⟩=>⟨h1,h2,e▸x⟩,fun⟨h1,h2,x⟩=>⟨_,⟨h1,h2,rfl⟩,x⟩⟩
def aVH(g:Bool)(v:AV):AV:=.opt g v
attribute [go_sem] aVH
section
variable (op:Op) (h:iR op=true) (j:Nat) (w0:Bool) (v:AV)
include h
theorem zV:pureAt P all H ⟨dst,op,ty,pos,after,none⟩ α v=((aS P op (ev α) H).s∧(aS P op (ev α) H).H=H∧v=(aS P op (ev α) H).v):=by
 cases op<;>first|rfl|(cases h;done)|skip
 rename_i c;obtain⟨ce,xs,ts⟩:=c;cases ce<;>first|rfl|cases h
theorem xM:pureAt P all H ⟨dst,op,ty,pos,after,some (j,w0)⟩ α v=(pO (aI α (cB all j))∧dM (bC (aI α (cB all j)) w0) α (oO op)∧((bC (aI α (cB all j)) w0)=true→(aS P op (fE α) H).s∧(aS P op (fE α) H).H=H)∧v=.opt (bC (aI α (cB all j)) w0) (aS P op (fE α) H).v):=by
 cases op<;>first|rfl|(cases h;done)|skip
 rename_i c;obtain⟨ce,xs,ts⟩:=c;cases ce<;>first|rfl|cases h
@[go_sem] theorem aVI:cD P all (.free::pp) (⟨dst,op,ty,pos,after,none⟩::os) k α H hist past kont=
  ((aS P op (ev α) H).s∧(aS P op (ev α) H).H=H∧cD P all pp os (k+1) (bZ dst (aS P op (ev α) H).v α) H hist past kont):=by
 simp only[cD,zV (h:=h)];exact exF
@[go_sem] theorem aUY:cD P all (.free::pp) (⟨dst,op,ty,pos,after,some (j,w0)⟩::os) k α H hist past kont=
  (pO (aI α (cB all j))∧dM (bC (aI α (cB all j)) w0) α (oO op)∧((bC (aI α (cB all j)) w0)=true→(aS P op (fE α) H).s∧(aS P op (fE α) H).H=H)∧cD P all pp os (k+1) (bZ dst (.opt (bC (aI α (cB all j)) w0) (aS P op (fE α) H).v) α) H hist past kont):=by
 simp only[cD,xM (h:=h)];exact exG
@[go_sem] theorem aVJ:cD P all (.pure w::pp) (⟨dst,op,ty,pos,after,none⟩::os) k α H hist past kont=
  ((aS P op (ev α) H).s∧(aS P op (ev α) H).H=H∧yG w hist (fun h=>(aS P op (ev α) h).s∧(aS P op (ev α) h).H=h∧(aS P op (ev α) H).v=(aS P op (ev α) h).v)∧
    cD P all pp os (k+1) (bZ dst (aS P op (ev α) H).v α) H hist ((k,fun h=>(aS P op (ev α) h).s∧(aS P op (ev α) h).H=h∧(aS P op (ev α) H).v=(aS P op (ev α) h).v)::past) kont):=by
 simp only[cD,zV (h:=h)];exact exP
@[go_sem] theorem aUZ:cD P all (.pure w::pp) (⟨dst,op,ty,pos,after,some (j,w0)⟩::os) k α H hist past kont=
  (pO (aI α (cB all j))∧dM (bC (aI α (cB all j)) w0) α (oO op)∧((bC (aI α (cB all j)) w0)=true→(aS P op (fE α) H).s∧(aS P op (fE α) H).H=H)∧
   yG w hist (fun h=>pO (aI α (cB all j))∧dM (bC (aI α (cB all j)) w0) α (oO op)∧((bC (aI α (cB all j)) w0)=true→(aS P op (fE α) h).s∧(aS P op (fE α) h).H=h)∧AV.opt (bC (aI α (cB all j)) w0) (aS P op (fE α) H).v=.opt (bC (aI α (cB all j)) w0) (aS P op (fE α) h).v)∧
   cD P all pp os (k+1) (bZ dst (.opt (bC (aI α (cB all j)) w0) (aS P op (fE α) H).v) α) H hist ((k,fun h=>pO (aI α (cB all j))∧dM (bC (aI α (cB all j)) w0) α (oO op)∧((bC (aI α (cB all j)) w0)=true→(aS P op (fE α) h).s∧(aS P op (fE α) h).H=h)∧AV.opt (bC (aI α (cB all j)) w0) (aS P op (fE α) H).v=.opt (bC (aI α (cB all j)) w0) (aS P op (fE α) h).v)::past) kont):=by
 simp only[cD,xM (h:=h)];exact exQ
theorem aII(H1:AHeap):aID P all ⟨dst,op,ty,pos,after,none⟩ α H v H1=((aS P op (ev α) H).s∧v=(aS P op (ev α) H).v∧H1=(aS P op (ev α) H).H):=by
 cases op<;>first|rfl|(cases h;done)|skip
 rename_i c;obtain⟨ce,xs,ts⟩:=c;cases ce<;>first|rfl|cases h
theorem aGC(H1:AHeap):aID P all ⟨dst,op,ty,pos,after,some (j,w0)⟩ α H v H1=((pO (aI α (cB all j))∧dM (bC (aI α (cB all j)) w0) α (oO op)∧((bC (aI α (cB all j)) w0)=true→(aS P op (fE α) H).s))∧v=.opt (bC (aI α (cB all j)) w0) (aS P op (fE α) H).v∧H1=(bif (bC (aI α (cB all j)) w0)then(aS P op (fE α) H).H else H)):=by
 cases op<;>first|rfl|(cases h;done)|skip
 rename_i c;obtain⟨ce,xs,ts⟩:=c;cases ce<;>first|rfl|cases h
@[go_sem] theorem aVK:cD P all (.eff fs::pp) (⟨dst,op,ty,pos,after,none⟩::os) k α H hist past kont=
  ((aS P op (ev α) H).s∧yF fs past (aS P op (ev α) H).H∧cD P all pp os (k+1) (bZ dst (aS P op (ev α) H).v α) (aS P op (ev α) H).H (H::hist) (kF fs past) kont):=by
 simp only[cD,aII (h:=h)];exact exE (X:=fun v H1=>cD P all pp os (k+1) (bZ dst v α) H1 (H::hist) (kF fs past) kont)
@[go_sem] theorem aU0:cD P all (.eff fs::pp) (⟨dst,op,ty,pos,after,some (j,w0)⟩::os) k α H hist past kont=
  ((pO (aI α (cB all j))∧dM (bC (aI α (cB all j)) w0) α (oO op)∧((bC (aI α (cB all j)) w0)=true→(aS P op (fE α) H).s))∧yF fs past (bif (bC (aI α (cB all j)) w0)then(aS P op (fE α) H).H else H)∧
    cD P all pp os (k+1) (bZ dst (.opt (bC (aI α (cB all j)) w0) (aS P op (fE α) H).v) α) (bif (bC (aI α (cB all j)) w0)then(aS P op (fE α) H).H else H) (H::hist) (kF fs past) kont):=by
 simp only[cD,aGC (h:=h)];exact exE (X:=fun v H1=>cD P all pp os (k+1) (bZ dst v α) H1 (H::hist) (kF fs past) kont)
end
end
@[go_sem] theorem aSj(all os:List Oper)(pp:List Pl)(k:Nat)(fs:List Bool)(dst:Option Tmp)(g:Bool)(α:AF)(H:AHeap)(hist:List AHeap)(past:hP)(kont:AF→AHeap→Prop)(v:AV)(H1:AHeap):
  aIG P all pp os k fs dst g α H hist past kont v H1=(yF fs past H1∧cD P all pp os (k+1) (bZ dst (.opt g v) α) H1 (H::hist) (kF fs past) kont):=rfl
@[go_sem] theorem aSk(all os:List Oper)(pp:List Pl)(k:Nat)(fs:List Bool)(dst:Option Tmp)(α:AF)(H:AHeap)(hist:List AHeap)(past:hP)(kont:AF→AHeap→Prop)(v:AV)(H1:AHeap):
  aIH P all pp os k fs dst α H hist past kont v H1=(yF fs past H1∧cD P all pp os (k+1) (bZ dst v α) H1 (H::hist) (kF fs past) kont):=rfl
theorem aBw{g:Bool}{f:FuncId}{args:List AV}{x:AV}{h:AHeap}(hf:∀h,cJ P f args h x)(ok:aB P f=true):jG P g (.func (.func f) [] []) args x h:=
 fun _=>Or.inl ⟨ok,by simp only[List.nil_append,List.append_nil];exact hf h⟩
theorem eY{g:Bool}{f:FuncId}{first args cap:List AV}{H:AHeap}{x:AV}{w:Nat}{hist:List AHeap}{K:AV→Prop}(hf:∀h,cJ P f (first++args++cap) h x)(ok:aB P f=true)(hk:K x):aBv P g (.func (.func f) first cap) args H w hist K:=by
 have hc:∀h,jG P g (.func (.func f) first cap) args x h:=fun h _=>Or.inl ⟨ok,hf h⟩
 refine⟨x,hc H,?_,hk⟩
 have:∀(w:Nat) (hs:List AHeap),yG w hs (jG P g (.func (.func f) first cap) args x):=by
  intro w
  induction w with
  |zero=>intro hs;trivial
  |succ w ih=>intro hs;cases hs with
   |nil=>trivial
   |cons h hs=>exact⟨hc h,ih hs⟩
 exact this w hist
theorem aX{g:Bool}{f:FuncId}{args:List AV}{H:AHeap}{x:AV}{w:Nat}{hist:List AHeap}{K:AV→Prop}(hf:∀h,cJ P f args h x)(ok:aB P f=true)(hk:K x):aBv P g (.func (.func f) [] []) args H w hist K:=by
 refine⟨x,aBw hf ok,?_,hk⟩
 have:∀(w:Nat) (hs:List AHeap),yG w hs (jG P g (.func (.func f) [] []) args x):=by
  intro w
  induction w with
  |zero=>intro hs;trivial
  |succ w ih=>intro hs;cases hs with
   |nil=>trivial
   |cons h hs=>exact⟨aBw hf ok,ih hs⟩
 exact this w hist
end Go.Aw
/- The data of the program, ars plain Lean, and ars abstract values: stamps, operations, nodes, what an operation changed, entries, logs. No condition. -/
namespace Go.Aw
open Go
attribute [go_sem] aFz aIw aD3 aD4 aD9 aIF aNz TypeDesc.isAgg Option.isSome_some Option.isSome_none Bool.false_eq_true Bool.true_eq_false not_true_eq_false not_false_eq_true true_and and_true and_self List.getElem?_toArray List.getElem?_cons_zero List.getElem?_cons_succ List.getElem?_nil List.length_map List.append_eq List.range_zero List.cons_append List.nil_append Nat.one_ne_zero implies_true
attribute [go_sem] Nat.reduceEqDiff Nat.reduceAdd Nat.reduceSub Nat.reduceMul Nat.reduceLeDiff Nat.reduceLT Nat.reduceBEq Int.reduceNeg Int.reduceLE Int.reduceLT Int.reduceToNat String.reduceEq
attribute [go_sem ↓] reduceIte
def Ct(P:Program)(f:FuncId)(args:List AV)(x:AV):Prop:=aB P f=true∧∀H,cJ P f args H x
section
variable {P:Program} {f:FuncId} {args:List AV} {x:AV} {H:AHeap}
theorem ct(h:∀H,cJ P f args H x)(ok:aB P f=true):Ct P f args x:=⟨ok,h⟩
theorem cK{k:AV→AHeap→Prop}(h:Ct P f args x)(hk:k x H):lJ P (.func (.func f) [] []) args H k:=aV (h.2 H) h.1 hk
theorem cP{g:Bool}{k:AV→Prop}(h:Ct P f args x)(hk:k x):lI P g (.func (.func f) [] []) args H k:=aW (h.2 H) h.1 hk
theorem cM{g:Bool}{w:Nat}{hist:List AHeap}{k:AV→Prop}(h:Ct P f args x)(hk:k x):aBv P g (.func (.func f) [] []) args H w hist k:=aX (fun H=>h.2 H) h.1 hk
end
def isE:Code→Bool
 |.skip|.ret|.exit _|.label _=>true
 |_=>false
def aIJ:Code→Exit
 |.ret=>.ret
 |.exit i=>.exit i
 |_=>.normal
theorem aE{P:Program}{N:Nat}{c:Code}{Q:bP}{α:AF}{H:AHeap}(hc:isE c=true)(h:Q (aIJ c) α H):aw P N c Q α H:=by
 cases c<;>first
  |exact aFw h
  |exact aN9 h
  |exact aK6 h
  |exact aH0 h
  |cases hc
@[go_sem] theorem aSl:aIJ .skip=.normal:=rfl
@[go_sem] theorem aT1:aIJ .ret=.ret:=rfl
@[go_sem] theorem aSm(i:Nat):aIJ (.exit i)=.exit i:=rfl
@[go_sem] theorem aPf(i:Nat):aIJ (.label i)=.normal:=rfl
theorem gS{p q:Prop}(k:q)(t:q→p:=by first|exact fun k=>aC4 (.bool false) k|exact fun k=>nU rfl k|exact fun k=>zO jU rfl (by kernel_rfl) k|exact fun k=>aE rfl k):p:=t k
theorem gK{p q:Prop}(k:q)(t:q→p:=by first|exact fun k=>cK (by assumption) k|exact fun k=>cP (by assumption) k|exact fun k=>cM (by assumption) k):p:=t k
theorem gC{p q g:Prop}(k:q)(e:(p∧q)=g:=by with_reducible rfl)(t:p:=by first|omega|(intros;simp_all;done)|(simp;omega)):g:=e▸⟨t,k⟩
theorem gA{p q:Prop}(k:q)(t:q→p:=by first|exact fun k=>aLH k|exact fun k=>aLI k|exact fun k=>aB7 k|exact fun k=>aH1 k|exact fun k=>aIB k|exact fun k=>gC k):p:=t k
theorem gD{P:Program}{N:Nat}{x:Operand}{y z:Code}{b:Bool}{Q:bP}{α:AF}{H:AHeap}(h1:b=true→aw P N y Q α H)(h2:b=false→aw P N z Q α H)(hx:ev α x=.bool b:=by exact rfl):aw P N (.cond x y z) Q α H:=rD hx h1 h2
theorem aA{a b:Bool}{p:Prop}(h:a=b)(t:a=b→False:=by intro h;first|(simp at h;done)|(simp at h;omega)):p:=(t h).elim
theorem mx{P:Program}{N id:Nat}{ops:Array Oper}{Q:bP}{α:AF}{H:AHeap}(ids:List Nat)(plan:List Pl)(h:cD P ops.toList plan ops.toList 0 α H [] [] (fun α' H'=>Q .normal α' H'))(hi:ids.contains id=true:=by rfl)(hm:P.follows .mixedOrders=true:=by exact jU)(hd:pS N ops=true:=by rfl)
  (hB:Region.lexB .any ops=true:=by kernel_rfl) (hp:(oS ops ops.toList plan 0 [] []&&jT ops (fP plan 0))=true:=by kernel_rfl):aw P N (.region id ops true) Q α H:=aA9 plan hm hd hB hp h
end Go.Aw
namespace Go.Gw
open Go Go.Aw
abbrev Txt:=List UInt8
structure Stm where
 c:Int
 r:Int
deriving DecidableEq,Inhabited
structure Opn where
 at_:Stm
 kind:Int
 node:Int
 parent:Int
 name:Txt
 data:Txt
deriving DecidableEq,Inhabited
structure Nd where
 id:Int
 parent:Int
 name:Txt
 moved:Stm
 data:Txt
 wrote:Stm
deriving DecidableEq,Inhabited
structure Und where
 did:Bool
 had:Bool
 was:Nd
deriving DecidableEq,Inhabited
structure Ent where
 op:Opn
 undo:Und
deriving DecidableEq,Inhabited
structure Lg where
 entries:List Ent
 nodes:List Nd
deriving DecidableEq,Inhabited
def yH:Stm:=⟨0,0⟩
def nd0:Nd:=⟨0,0,[],yH,[],yH⟩
def aPg:Und:=⟨false,false,nd0⟩
def op0:Opn:=⟨yH,0,0,0,[],[]⟩
def stA(s:Stm):AV:=.agg [.int .i64 s.c,.int .i64 s.r]
def opA(o:Opn):AV:=.agg [.int .i64 o.at_.c,.int .i64 o.at_.r,.int .i64 o.kind,.int .i64 o.node,.int .i64 o.parent,.str o.name,.str o.data]
def ndA(n:Nd):AV:=.agg [.int .i64 n.id,.int .i64 n.parent,.str n.name,.int .i64 n.moved.c,.int .i64 n.moved.r,.str n.data,.int .i64 n.wrote.c,.int .i64 n.wrote.r]
def unA(u:Und):AV:=.agg [.bool u.did,.bool u.had,.int .i64 u.was.id,.int .i64 u.was.parent,.str u.was.name,.int .i64 u.was.moved.c,.int .i64 u.was.moved.r,.str u.was.data,.int .i64 u.was.wrote.c,.int .i64 u.was.wrote.r]
def fX(e:Ent):AV:=.agg [.int .i64 e.op.at_.c,.int .i64 e.op.at_.r,.int .i64 e.op.kind,.int .i64 e.op.node,.int .i64 e.op.parent,.str e.op.name,.str e.op.data,
 .bool e.undo.did,.bool e.undo.had,.int .i64 e.undo.was.id,.int .i64 e.undo.was.parent,.str e.undo.was.name,.int .i64 e.undo.was.moved.c,.int .i64 e.undo.was.moved.r,.str e.undo.was.data,.int .i64 e.undo.was.wrote.c,.int .i64 e.undo.was.wrote.r]
def inA(n:Int):AV:=.int .i64 n
def zW(f1 f2:Bool)(g:Lg):AV:=.agg [.sl f1 (g.entries.map fX),.sl f2 (g.nodes.map ndA)]
def lgA(g:Lg):AV:=zW false false g
@[go_sem] theorem aVL(x:Stm):Pur (stA x)=True:=by simp only[stA,go_sem]
@[go_sem] theorem aVM(x:Opn):Pur (opA x)=True:=by simp only[opA,go_sem]
@[go_sem] theorem aVN(x:Nd):Pur (ndA x)=True:=by simp only[ndA,go_sem]
@[go_sem] theorem aVO(x:Und):Pur (unA x)=True:=by simp only[unA,go_sem]
@[go_sem] theorem aVP(x:Ent):Pur (fX x)=True:=by simp only[fX,go_sem]
@[go_sem] theorem aVQ(x:Int):Pur (inA x)=True:=by simp only[inA,go_sem]
@[go_sem] theorem aVR(f1 f2:Bool)(x:Lg):Pur (zW f1 f2 x)=True:=by simp only[zW,go_sem]
@[go_sem] theorem aVS(x:Lg):Pur (lgA x)=True:=by simp only[lgA,go_sem]
theorem bA{α:Type}(g:α→AV){l:List α}{i:Nat}(h:i<l.length):(l.map g).getD i .top=g l[i]:=by
 rw[List.getD_eq_getElem?_getD,List.getElem?_map,List.getElem?_eq_getElem h];rfl
theorem aIK(a b:Stm):(decide (a.c=b.c)&&decide (a.r=b.r))=decide (a=b):=by
 cases a;cases b;rw[Bool.eq_iff_iff];simp
end Go.Gw
