/- What the functions of this seat answer (4 of 40). No condition. -/
import Derived.Test.YtigedpfipifefaaGreatDoorWorkAC
import Derived.Scope
import Derived.KernelRfl
import Derived.RangeFuncIn
import Derived.LoopNIn
import Derived.Lib.Bytealg
import Derived.Laws.Externs
import Derived.RecoverIn
set_option linter.unusedSimpArgs false
set_option linter.unusedVariables false
set_option linter.unusedSectionVars false
set_option maxRecDepth 100000
set_option maxHeartbeats 16000000
namespace Go.Proofs.YtigedpfipifefaaGreatDoor
section
variable {P:Program}
inductive Ok:AV→Prop
 |int (k:IntKind) (n:Int) (h:inR k n):Ok (.int k n)
 |bool (b:Bool):Ok (.bool b)
 |str (s:List UInt8) (h:s.length≤9223372036854775807):Ok (.str s)
 |agg (cs:List AV) (h:∀x∈cs,Ok x):Ok (.agg cs)
 |tup (cs:List AV) (h:∀x∈cs,Ok x):Ok (.tup cs)
 |sl (f:Bool) (es:List AV) (hl:es.length≤9223372036854775807) (h:∀e∈es,∀x∈e.cells,Ok x):Ok (.sl f es)
 |cptr (cs:List AV):Ok (.cptr cs)
 |ref (i v off:Nat):Ok (.ref i v off)
 |osl (s i v off len lc:Nat) (h:lc≤9223372036854775807):Ok (.osl s i v off len lc)
 |nilptr:Ok .nilptr
 |map (i:Nat):Ok (.map i)
 |nilmap:Ok .nilmap
 |iter (i:Nat):Ok (.iter i)
 |func (fn:Fn) (fs cs:List AV):Ok (.func fn fs cs)
 |nilfunc:Ok .nilfunc
 |iface (t:TypeId) (x:AV) (h:Ok x):Ok (.iface t x)
 |nilIface:Ok .nilIface
 |opt (g:Bool) (x:AV) (h:g=true→Ok x):Ok (.opt g x)
 |top:Ok .top
theorem iM{α:Type}{l:List α}{x:α}(h:x∈l):∃i:Nat,l[i]?=some x:=by
 obtain⟨i,hi,he⟩:=List.getElem_of_mem h;exact⟨i,by rw[zAd hi,he]⟩
theorem Rep.ok{c:Ctx}{x:AV}{v:Value}(h:Rep c x v):Ok x:=by
 induction h with
 |int k n h=>exact .int k n h
 |bool b=>exact .bool b
 |str s h=>exact .str s h
 |agg cs vs hl _ ih=>exact .agg cs fun x hx=>let⟨i,hi⟩:=iM hx;let⟨v,hv⟩:=eP hl hi;ih i x v hi hv
 |tup cs vs hl _ ih=>exact .tup cs fun x hx=>let⟨i,hi⟩:=iM hx;let⟨v,hv⟩:=eP hl hi;ih i x v hi hv
 |sl full es base len cap s vs hlen _ _ _ _ _ hmax ih=>exact .sl full es (by omega) fun e he x hx=>let⟨k,hk⟩:=iM he;let⟨j,hj⟩:=iM hx;ih k e j x hk hj
 |cptr cs=>exact .cptr cs
 |ref i v off=>exact .ref i v off
 |osl s i v off len lc val _ _ _ h=>exact .osl s i v off len lc h
 |nilptr=>exact .nilptr
 |map i=>exact .map i
 |nilmap=>exact .nilmap
 |iter i=>exact .iter i
 |func fn fs cs=>exact .func fn fs cs
 |nilfunc=>exact .nilfunc
 |iface t x _ _ ih=>exact .iface t x ih
 |nilIface=>exact .nilIface
 |opt g x _ _ _ ih=>exact .opt g x ih
 |top=>exact .top
theorem uP{k:IntKind}{n:Int}(h:Ok (.int k n)):inR k n:=by cases h;assumption
theorem mD{n:Int}(h:Ok (.int .i64 n)): -9223372036854775808≤n∧n≤9223372036854775807:=aAG.1 (uP h)
theorem tA{f:Bool}{es:List AV}(h:Ok (.sl f es)):es.length≤9223372036854775807:=by cases h;assumption
theorem aIQ{f:Bool}{es:List AV}(h:Ok (.sl f es)):∀e∈es,∀x∈e.cells,Ok x:=by cases h;assumption
theorem wJ{α:Type}{f:Bool}{g:α→List AV}{l:List α}(h:Ok (.sl f (l.map fun x=>.agg (g x)))):∀x∈l,∀y∈g x,Ok y:=
 fun x hx y hy=>aIQ h _ (List.mem_map_of_mem hx) y hy
theorem RepAll.ok{c:Ctx}{xs:List AV}{vs:Array Value}(h:RepAll c xs vs):∀x∈xs,Ok x:=fun x hx=>
 let⟨i,hi⟩:=iM hx
 let⟨v,hv⟩:=eP h.1 hi
 (h.2 i x v hi hv).ok
theorem aBz{f:FuncId}{args:List AV}{H:AHeap}{R:AV→AHeap→Prop}(h:(∀x∈args,Ok x)→ACalls P f args H R):ACalls P f args H R:=
 fun c vs hs ha=>h ha.ok c vs hs ha
theorem uQ{f:FuncId}{args:List AV}{H:AHeap}{x:AV}(h:(∀x∈args,Ok x)→bJ P f args H x):bJ P f args H x:=aBz h
theorem aAP{f:FuncId}{a:AV}{H:AHeap}{x:AV}(h:Ok a→bJ P f [a] H x):bJ P f [a] H x:=uQ fun k=>h (k _ (by simp))
theorem pO{f:FuncId}{a b:AV}{H:AHeap}{x:AV}(h:Ok a→Ok b→bJ P f [a,b] H x):bJ P f [a,b] H x:=uQ fun k=>h (k _ (by simp)) (k _ (by simp))
theorem aFJ{f:FuncId}{a b d:AV}{H:AHeap}{x:AV}(h:Ok a→Ok b→Ok d→bJ P f [a,b,d] H x):bJ P f [a,b,d] H x:=uQ fun k=>h (k _ (by simp)) (k _ (by simp)) (k _ (by simp))
theorem uR{f:FuncId}{a b d e:AV}{H:AHeap}{x:AV}(h:Ok a→Ok b→Ok d→Ok e→bJ P f [a,b,d,e] H x):bJ P f [a,b,d,e] H x:=uQ fun k=>h (k _ (by simp)) (k _ (by simp)) (k _ (by simp)) (k _ (by simp))
def qQ(Q:aT):aT
 |.goto _,_,_=>False
 |e,α,H=>Q e α H
section
variable (Q:aT) (α:AF) (H:AHeap)
@[go_sem] theorem aEO:qQ Q .normal α H=Q .normal α H:=rfl
@[go_sem] theorem aIR:qQ Q .ret α H=Q .ret α H:=rfl
@[go_sem] theorem aHm(i:Nat):qQ Q (.exit i) α H=Q (.exit i) α H:=rfl
end
theorem zK{F:Fence}{n:Nat}{c:Code}{Q:Exit→Act→World→Prop}{a:Act}{w:World}(h:c.wpIn F n P (Exit.noGoto Q) a w):(Code.scope c).wpIn F n P Q a w:=by
 intro b k cs hro hb hr;have h0:(lone (b.atR a (.code (.scope c)::k)) cs w).fenced P F:=fenced_calm hb hr rfl;have s0:step P (lone (b.atR a (.code (.scope c)::k)) cs w)=.next (lone (b.atR a (.code c::.inScope c::k)) cs w):=step_lone_go (by simp[stepG,stepG.exec,Frame.atR])
 obtain⟨e,a₁,w₁,hq,harr⟩:=h b (.inScope c::k) cs hro hb hr;have s1:step P (lone (b.atR a₁ (.inScope c::k)) cs w₁)=.next (lone (b.atR a₁ k) cs w₁):=step_lone_go (by simp[stepG,stepG.exec,Frame.atR])
 cases e with
 |normal=>exact⟨.normal,a₁,w₁,hq,.head h0 s0 (StepsIn.trans harr (.one (fenced_calm hb hr rfl) s1))⟩
 |exit id=>exact⟨.exit id,a₁,w₁,hq,fun k' hk=>.head h0 s0 (harr.1 k' (by simp[exitTo,hk])),fun hr' hk=>let⟨k₁,h1,h2⟩:=harr.2 hr' (by simp[exitTo,hk]);⟨k₁,h1,.head h0 s0 h2⟩⟩
 |goto l=>exact hq.elim
 |ret=>exact⟨_,a₁,w₁,hq,.of_steps (.one h0 s0) harr⟩
 |panic ch=>exact⟨_,a₁,w₁,hq,.of_steps (.one h0 s0) harr⟩
 |outgrown=>exact⟨_,a₁,w₁,hq,.of_steps (.one h0 s0) harr⟩
theorem wK{N:Nat}{x:Code}{Q:aT}{α:AF}{H:AHeap}(h:aw P N x (qQ Q) α H):aw P N (.scope x) Q α H:=by
 intro r c a hr hs ha;refine zK (wpIn_mono (h r c a hr hs ha) fun e a' w' ⟨c',α',H',e1,e2,e3,e4,e5⟩=>?_)
 cases e with
 |goto l=>exact e5.elim
 |_=>exact⟨c',α',H',e1,e2,e3,e4,e5⟩
theorem eV{f:FuncId}{first args cap:List AV}{H:AHeap}{x:AV}{k:AV→AHeap→Prop}(h:bJ P f (first++args++cap) H x)(ok:cF P f=true)(hk:k x H):gZ P (.func (.func f) first cap) args H k:=
 Or.inl ⟨ok,h.mono fun y H' ⟨e1,e2⟩=>by subst e1;subst e2;exact hk⟩
theorem aHn{f:FuncId}{first args cap:List AV}{H:AHeap}{R:AV→AHeap→Prop}{k:AV→AHeap→Prop}(h:ACalls P f (first++args++cap) H R)(ok:cF P f=true)(hk:∀x H',R x H'→k x H'):gZ P (.func (.func f) first cap) args H k:=
 Or.inl ⟨ok,h.mono hk⟩
theorem eW{g:Bool}{f:FuncId}{first args cap:List AV}{H:AHeap}{x:AV}{K:AV→Prop}(h:g=true→bJ P f (first++args++cap) H x)(ok:cF P f=true)(hk:K x):gO P g (.func (.func f) first cap) args H K:=
 ⟨x,fun hg=>Or.inl ⟨ok,h hg⟩,hk⟩
theorem kP{f:AV}{args:List AV}{H:AHeap}{K:AV→Prop}(v:AV)(hk:K v):gO P false f args H K:=⟨v,(fun h=>by cases h),hk⟩
def FnV(P:Program)(f:AV)(args:List AV)(H:AHeap)(x:AV):Prop:=∀L,ACall P f args (H++L) (fun v H'=>v=x∧H'=H++L)
theorem FnV.mk{f:FuncId}{first args cap:List AV}{H:AHeap}{x:AV}(h:∀L,bJ P f (first++args++cap) (H++L) x)(ok:cF P f=true):FnV P (.func (.func f) first cap) args H x:=
 fun L=>Or.inl ⟨ok,h L⟩
theorem aFK{f:AV}{args:List AV}{H L:AHeap}{x:AV}{k:AV→AHeap→Prop}(h:FnV P f args H x)(hk:k x (H++L)):gZ P f args (H++L) k:=by
 exact(h L).mono fun y H' ⟨e1,e2⟩=>by subst e1;subst e2;exact hk
theorem wL{f:AV}{args:List AV}{H:AHeap}{x:AV}{k:AV→AHeap→Prop}(h:FnV P f args H x)(hk:k x H):gZ P f args H k:=by
 have h1:=aFK (L:=[]) (k:=k) h (by rw[zAj];exact hk)
 rwa[zAj]at h1
theorem aK{H:AHeap}{i:Nat}{b:ABlk}(h:hget H i=b)(hb:b.live)(L:AHeap):hget (H++L) i=b:=by
 have hlt:=bC h hb;have h1:=eS h hb;simp only[hget,zAm];rw[zAf hlt,h1];rfl
theorem bQ{H:AHeap}{i:Nat}(h:i<H.length)(L:AHeap)(b:ABlk):aA (H++L) i b=aA H i b++L:=by
 unfold aA;rw[List.set_append_left _ _ h]
end
section
variable {P:Program}
inductive Sim:AV→AV→Prop
 |refl (x:AV):Sim x x
 |sl (f:Bool) (es:List AV):Sim (.sl f es) (.sl false es)
 |agg (cs ds:List AV) (hl:cs.length=ds.length) (h:∀(i:Nat) (x y:AV),cs[i]?=some x→ds[i]?=some y→Sim x y):Sim (.agg cs) (.agg ds)
 |tup (cs ds:List AV) (hl:cs.length=ds.length) (h:∀(i:Nat) (x y:AV),cs[i]?=some x→ds[i]?=some y→Sim x y):Sim (.tup cs) (.tup ds)
 |iface (t:TypeId) (x y:AV) (h:Sim x y):Sim (.iface t x) (.iface t y)
 |top (x:AV):Sim x .top
theorem Sim.of{x y:AV}(h:x=y):Sim x y:=h▸.refl x
theorem dD:∀(i:Nat) (x y:AV),([]:List AV)[i]?=some x→([]:List AV)[i]?=some y→Sim x y:=fun _ _ _ h=>by simp at h
theorem aI{a b:AV}{cs ds:List AV}(h:Sim a b)(hs:∀(i:Nat) (x y:AV),cs[i]?=some x→ds[i]?=some y→Sim x y):∀(i:Nat) (x y:AV),(a::cs)[i]?=some x→(b::ds)[i]?=some y→Sim x y
 |0,x,y,hx,hy=>by grind
 |i+1,x,y,hx,hy=>hs i x y (by simpa using hx) (by simpa using hy)
theorem Rep.sim{c:Ctx}{x y:AV}(h:Sim x y):∀{v:Value},Rep c x v→Rep c y v:=by
 induction h with
 |refl x=>exact fun h=>h
 |sl f es=>intro v hr;cases hr with|sl _ _ base len cap s vs h1 h2 h3 h4 h5 h6 h7=>exact .sl false es base len cap s vs h1 h2 (fun h=>by cases h) h4 h5 h6 h7
 |agg cs ds hl _ ih=>
  intro v hr;cases hr with
  |agg _ vs h1 h2=>
   refine .agg ds vs (by omega) fun i y u hy hu=>?_
   grind
 |tup cs ds hl _ ih=>
  intro v hr;cases hr with
  |tup _ vs h1 h2=>
   refine .tup ds vs (by omega) fun i y u hy hu=>?_
   have hlt:=(eT.1 hy).1;have hx:cs[i]?=some (cs[i]'(by omega)):=zAd (by omega)
   exact ih i _ y hx hy (h2 i _ u hx hu)
 |iface t x y _ ih=>
  intro v hr;cases hr with
  |iface _ _ v' hv=>exact .iface t y v' (ih hv)
 |top x=>exact fun _=>.top _
theorem aAQ{N:Nat}{code:Code}{Q:aT}{α:AF}{H:AHeap}(t s:Nat)(hx:look α t=.sl true [])(h:aw P N code Q ((t,.osl s H.length 1 0 0 0)::α) (H++[.cells 1 []])):aw P N code Q α H:=by
 intro r c a hr hst ha;have hv:=Ext.void c;refine wpIn_mono (h r c.void a hr hst.void ⟨ha.size,ha.defers.mono hv,fun u=>?_⟩) fun _ _ _ ⟨c',α',H',e1,e2,e3,e4,e5⟩=>⟨c',α',H',e1,e2,hv.trans e3,e4,e5⟩
 rw[look];by_cases e:t=u
 ·subst e;rw[beq_self_eq_true,cond_true];have hr:=ha.rep t;rw[hx]at hr;generalize a.tmps.getD t undef=val at hr;cases hr with
  |sl _ _ base len cap s' vs h1 h2 h3 h4 h5 h6 h7=>
   have hcap:=h3 rfl;simp at h1;subst h1;subst hcap;exact .osl _ _ _ _ _ _ _ (by simp[Ctx.void,hst.n]) (by simp[Ctx.void,hst.n]) rfl (by omega) (fun _ _=>⟨rfl,rfl,base,rfl⟩) (fun _ hd=>by simp[Ctx.void,hst.n]at hd)
 ·have hb:(t==u)=false:=by simpa using e
  rw[hb,zCc];exact(ha.rep u).mono hv
inductive Pur:AV→Prop
 |int (k n):Pur (.int k n)
 |bool (b):Pur (.bool b)
 |str (s):Pur (.str s)
 |agg (cs:List AV) (h:∀x∈cs,Pur x):Pur (.agg cs)
 |tup (cs:List AV) (h:∀x∈cs,Pur x):Pur (.tup cs)
 |sl (f) (es:List AV) (h:∀x∈es,Pur x):Pur (.sl f es)
 |nilptr:Pur .nilptr
 |nilmap:Pur .nilmap
 |nilfunc:Pur .nilfunc
 |iface (t x) (h:Pur x):Pur (.iface t x)
 |nilIface:Pur .nilIface
 |top:Pur .top
theorem Pur.cells{x:AV}(h:Pur x):∀y∈x.cells,Pur y:=by
 grind [AV.cells,zAq,Pur]
theorem Pur.cl{x:AV}(h:Pur x)(n:Nat):Cl n x:=by
 induction h with
 |int k m=>exact .int k m
 |bool b=>exact .bool b
 |str s=>exact .str s
 |agg cs _ ih=>exact .agg cs fun i x hx=>ih x (zAA hx)
 |tup cs _ ih=>exact .tup cs fun i x hx=>ih x (zAA hx)
 |sl f es _ ih=>
  refine .sl f es fun k e j x hk hj=>?_
  have h1:=ih e (zAA hk);have key:∀e:AV,Cl n e→∀x∈e.cells,Cl n x:=by
   intro e he x hx;cases e with
   |agg cs=>cases he with|agg _ hh=>obtain⟨i,hi⟩:=iM hx;exact hh i x hi
   |_=>simp only[AV.cells,zAq]at hx;subst hx;exact he
  grind
 |nilptr=>exact .nilptr
 |nilmap=>exact .nilmap
 |nilfunc=>exact .nilfunc
 |iface t x _ ih=>exact .iface t x ih
 |nilIface=>exact .nilIface
 |top=>exact .top
section
variable (k:IntKind) (n:Int) (b f:Bool) (s:List UInt8) (cs:List AV) (t:TypeId) (x:AV)
def zL(l:List AV):Prop:=∀x∈l,Pur x
section
variable {α:Type}
@[go_sem] theorem aN5(k:IntKind)(n:Int):Pur (.int k n)=True:=zBf (.int k n)
@[go_sem] theorem aNm(b:Bool):Pur (.bool b)=True:=zBf (.bool b)
@[go_sem] theorem aN6(s:List UInt8):Pur (.str s)=True:=zBf (.str s)
@[go_sem] theorem aNn:Pur .nilIface=True:=zBf .nilIface
@[go_sem] theorem aNo:Pur .nilptr=True:=zBf .nilptr
@[go_sem] theorem aNp:Pur .nilmap=True:=zBf .nilmap
@[go_sem] theorem aNq:Pur .nilfunc=True:=zBf .nilfunc
@[go_sem] theorem aN7(cs:List AV):Pur (.agg cs)=zL cs:=propext ⟨fun h=>by cases h;assumption,.agg cs⟩
@[go_sem] theorem aN8(cs:List AV):Pur (.tup cs)=zL cs:=propext ⟨fun h=>by cases h;assumption,.tup cs⟩
@[go_sem] theorem aPb(f:Bool)(cs:List AV):Pur (.sl f cs)=zL cs:=propext ⟨fun h=>by cases h;assumption,.sl f cs⟩
@[go_sem] theorem aL7(t:TypeId)(x:AV):Pur (.iface t x)=Pur x:=propext ⟨fun h=>by cases h;assumption,.iface t x⟩
@[go_sem] theorem aNr:zL []=True:=zBf fun _ h=>by cases h
@[go_sem] theorem aL8(x:AV)(l:List AV):zL (x::l)=(Pur x∧zL l):=propext List.forall_mem_cons
@[go_sem] theorem aNs(f:α→AV)(l:List α)(h:∀x,Pur (f x)):zL (l.map f)=True:=zBf fun x hx=>by obtain⟨y,_,rfl⟩:=zAi.1 hx;exact h y
end
end
theorem Sim.frz{n:Nat}{H:AHeap}{x y:AV}(h:Sim x y):Pur x→Frz n H x y:=by
 induction h with
 |refl x=>exact fun hp=>.cl x (hp.cl n)
 |sl f es=>exact fun hp=>.slw f es (hp.cl n)
 |agg cs ds hl _ ih=>exact fun hp=>.agg cs ds hl fun i x y hx hy=>ih i x y hx hy (by cases hp with|agg _ h=>exact h x (zAA hx))
 |tup cs ds hl _ ih=>exact fun hp=>.tup cs ds hl fun i x y hx hy=>ih i x y hx hy (by cases hp with|tup _ h=>exact h x (zAA hx))
 |iface t x y _ ih=>exact fun hp=>.iface t x y (ih (by cases hp with|iface _ _ h=>exact h))
 |top x=>exact fun _=>.any x
theorem done{n:Nat}{H L:AHeap}{v x:AV}(hp:Pur v)(hs:Sim v x):∃L' y,H++L=H++L'∧Frz n (H++L) v y∧y=x:=⟨L,x,rfl,hs.frz hp,rfl⟩
theorem aHo{n:Nat}{H:AHeap}{v x:AV}(hp:Pur v)(hs:Sim v x):∃L' y,H=H++L'∧Frz n H v y∧y=x:=⟨[],x,(zAj H).symm,hs.frz hp,rfl⟩
theorem aL9{n:Nat}{H L G M:AHeap}{v x:AV}(hG:H++L=G)(hp:Pur v)(hs:Sim v x):∃L' y,G++M=H++L'∧Frz n (G++M) v y∧y=x:=⟨L++M,x,by rw[←hG,zAe],hs.frz hp,rfl⟩
theorem aIS{n:Nat}{H L G:AHeap}{v x:AV}(hG:H++L=G)(hp:Pur v)(hs:Sim v x):∃L' y,G=H++L'∧Frz n G v y∧y=x:=⟨L,x,hG.symm,hs.frz hp,rfl⟩
theorem aMa{H L G M:AHeap}(hG:H++L=G):G++M=H++(L++M):=by rw[←hG,zAe]
theorem aAR{n:Nat}{H:AHeap}{i v s k lc:Nat}{cs es rest:List AV}(hn:n≤i)(hh:hget H i=.cells v cs)(hcs:cs=es.flatMap AV.cells++rest)(hk:es.length=k)(hs:∀e∈es,e.cells.length=s)(hp:∀e∈es,Pur e):
  Frz n H (.osl s i v 0 k lc) (.sl false es):=by
 have hf:=qP hs;refine .osl s i v 0 k lc cs es hn hh hk (by grind) hs fun k j e x y he hy hx=>?_
 have h1:=qO hs he hy;have hlt:=(eT.1 h1).1;rw[zBn,hcs,zAf hlt,h1]at hx;cases hx;exact .cl _ ((Pur.cells (hp e (zAA he)) _ (zAA hy)).cl n)
theorem jT{H L:AHeap}{i v s k lc:Nat}{cs es rest:List AV}{x:AV}(hn:H.length≤i)(hh:hget (H++L) i=.cells v cs)(hcs:cs=es.flatMap AV.cells++rest)(hk:es.length=k)(hs:∀e∈es,e.cells.length=s)(hp:∀e∈es,Pur e)(hx:x=.sl false es):
  ∃L' y,H++L=H++L'∧Frz H.length (H++L) (.osl s i v 0 k lc) y∧y=x:=⟨L,x,rfl,by rw[hx];exact aAR hn hh hcs hk hs hp,rfl⟩
def ClB(n:Nat):ABlk→Prop
 |.cells _ cs=>∀x∈cs,Cl n x
 |.map es _=>∀p∈es,Cl n p.1∧Cl n p.2.1
 |.miter m _ _ _=>m<n
 |.loop _ α _ _ _ _ _ _=>∀t,Cl n (look α t)
 |_=>True
theorem St.cl0{c:Ctx}{H:AHeap}(h:St c H){i:Nat}{b:ABlk}(hi:H[i]?=some b):ClB c.n b:=by
 cases h.rep i b hi with
 |cells ver cs vs e fr _ _ _ hl _ hr=>exact fun x hx=>let⟨j,hj⟩:=iM hx;(hr j x _ hj (zAZ (by grind))).cl
 |void=>exact fun x hx=>by simp at hx
 |map es clock ents _ _ _ hl hr=>exact fun p hp=>let⟨j,hj⟩:=iM hp;let⟨q1,q2,_⟩:=hr j p _ hj (zAZ (by have:=(eT.1 hj).1;omega));⟨q1.cl,q2.cl⟩
 |miter m _ _ _ _ _ hm=>exact hm
 |siter=>trivial
 |loop _ _ _ _ _ _ _ _ _ _ _ _ _ _ _ _ hr=>exact fun t=>(hr t).cl
 |gone=>trivial
theorem St.dropG{c:Ctx}{n:Nat}{H L:AHeap}(hn:n=H.length)(hst:St c (H++L))(hcl:∀(i:Nat) (b:ABlk),H[i]?=some b→ClB n b):St (c.drop n) H where
 gl:=hst.gl.drop n
 n:=hn
 lt:=fun i hi hd=>by
  have hi':i<n:=hi;exact hst.lt i (by rw[hst.n];simp;omega) hd
 inj:=fun i j b b' hi hj hb hb' di dj he=>by
  have h1:=(eT.1 hi).1;have h2:=(eT.1 hj).1;exact hst.inj i j b b' (by grind) (by grind) hb hb' di dj he
 st:=fun k hk=>by
  have hln:=hst.n;rw[zAa]at hln;rcases hk with hk|⟨i,h1,h2,h3,rfl⟩
  ·obtain⟨q1,q2⟩:=hst.st k hk;exact⟨q1,fun j b hj hb hd=>q2 j b (by rw[zAf (eT.1 hj).1];exact hj) hb hd⟩
  ·refine⟨hst.lt i h2 h3,fun j b hj hb hd e=>?_⟩
   have hj':=(eT.1 hj).1;have hlt:i<(H++L).length:=by rw[zAa];omega
   have hi:(H++L)[i]?=some (H++L)[i]:=zAd hlt;by_cases hlive:((H++L)[i]).live
   ·have:=hst.inj j i b _ (by rw[zAf hj'];exact hj) hi hb hlive hd h3 e
    omega
   ·have hr:=hst.rep i _ hi;generalize(H++L)[i]=bi at hr hlive;cases hr with
    |gone hd'=>rw[h3]at hd';cases hd'
    |_=>exact hlive trivial
 rep:=fun i b hi=>by
  have hi':=(eT.1 hi).1;have h1:=hst.rep i b (by rw[zAf hi'];exact hi)
  have h2:=hcl i b hi;cases h1 with
  |cells ver cs vs e fr hv hd hh hl hf hr=>exact .cells ver cs vs e fr hv hd hh hl hf fun j x v hx hv'=>(hr j x v hx hv').drop (h2 x (zAA hx))
  |void ver hv hd=>exact .void ver hv hd
  |map es clock ents hv hd hh hl hr=>exact .map es clock ents hv hd hh hl fun j p e hp he=>let⟨g1,g2,g3⟩:=hr j p e hp he;let⟨q1,q2⟩:=h2 p (zAA hp);⟨g1.drop q1,g2.drop q2,g3⟩
  |miter m since seen stepped hv hd hm hmv hmd hh=>exact .miter m since seen stepped hv hd h2 hmv hmd hh
  |siter s pos hv hd hh hsl=>exact .siter s pos hv hd hh hsl
  |loop l α N st pe ps ars bd fn D ts hv hd hl hh hN hr=>exact .loop l α N st pe ps ars bd fn D ts hv hd hl hh hN fun t=>(hr t).drop (h2 t)
  |gone hd=>exact .gone hd
theorem aBA{f:FuncId}{fn:Func}{code:Code}{args:List AV}{H:AHeap}{R:AV→AHeap→Prop}(hf:P.funcs[f]?=some fn)(hb:fn.body=some code)(hn:args.length≤fn.ntmps)
  (h:aw P fn.ntmps code (lN P fn.results.toList fun v H'=>∃H1 L y,H'=H1++L∧H1.length=H.length∧(∀(i:Nat) (b:ABlk),H1[i]?=some b→H[i]?=some b∨ClB H.length b)∧Frz H.length H' v y∧R y H1) (cG 0 args) H):ACalls P f args H R:=by
 intro c vs hs ha;refine(fG hf hb hn h c vs hs ha).mono fun e w' ⟨c',x,v,H',e1,e2,e3,e4,e5,H1,L,y,e6,e6',e6'',e7,e8⟩=>?_
 subst e6;refine⟨c'.drop c.n,y,v,H1,e1,e2,St.dropG (by rw[hs.n,e6']) e3 (fun i b hi=>?_),e4.drop,?_,e8⟩
 ·rcases e6'' i b hi with h|h
  ·exact hs.cl0 h
  ·rw[hs.n];exact h
 ·have:=e7.sound e3 e5;rwa[←hs.n]at this
theorem Cl.mono{n m:Nat}(h:n≤m){x:AV}(k:Cl n x):Cl m x:=by
 induction k with
 |int k n=>exact .int k n
 |bool b=>exact .bool b
 |str s=>exact .str s
 |agg cs _ ih=>exact .agg cs ih
 |tup cs _ ih=>exact .tup cs ih
 |sl f es _ ih=>exact .sl f es ih
 |cptr cs _ ih=>exact .cptr cs ih
 |ref i v off q=>exact .ref i v off (by omega)
 |osl s i v off len lc q=>exact .osl s i v off len lc (by omega)
 |nilptr=>exact .nilptr
 |map i q=>exact .map i (by omega)
 |nilmap=>exact .nilmap
 |iter i q=>exact .iter i (by omega)
 |func fn fs cs _ _ ih1 ih2=>exact .func fn fs cs ih1 ih2
 |nilfunc=>exact .nilfunc
 |iface t x _ ih=>exact .iface t x ih
 |nilIface=>exact .nilIface
 |opt g x _ ih=>exact .opt g x ih
 |top=>exact .top
theorem ClB.mono{n m:Nat}(h:n≤m){b:ABlk}(k:ClB n b):ClB m b:=by
 cases b with
 |cells v cs=>exact fun x hx=>(k x hx).mono h
 |map es cl=>exact fun p hp=>⟨(k p hp).1.mono h,(k p hp).2.mono h⟩
 |miter=>exact zA3 k h
 |loop=>exact fun t=>(k t).mono h
 |siter=>trivial
 |gone=>trivial
theorem Ext.dropN{c c':Ctx}(h:Ext c c'){n:Nat}(hn:c.n≤n):Ext c (c'.drop n):=
 ⟨hn,h.size,fun b hb=>⟨.inl (h.st b hb).1,(h.st b hb).2⟩,h.ver,h.blk,h.os,h.tape,h.output,h.base⟩
theorem wM{f:FuncId}{fn:Func}{code:Code}{args:List AV}{H:AHeap}{R:AV→AHeap→Prop}(hf:P.funcs[f]?=some fn)(hb:fn.body=some code)(hn:args.length≤fn.ntmps)
  (h:aw P fn.ntmps code (lN P fn.results.toList fun v H'=>∃H1 L y,H'=H1++L∧H.length≤H1.length∧(∀(i:Nat) (b:ABlk),H1[i]?=some b→H[i]?=some b∨ClB H1.length b)∧Frz H1.length H' v y∧R y H1) (cG 0 args) H):ACalls P f args H R:=by
 intro c vs hs ha;refine(fG hf hb hn h c vs hs ha).mono fun e w' ⟨c',x,v,H',e1,e2,e3,e4,e5,H1,L,y,e6,e6',e6'',e7,e8⟩=>?_
 subst e6;refine⟨c'.drop H1.length,y,v,H1,e1,e2,St.dropG rfl e3 (fun i b hi=>?_),e4.dropN (by rw[hs.n];exact e6'),e7.sound e3 e5,e8⟩
 rcases e6'' i b hi with h|h
 ·exact(hs.cl0 h).mono (by rw[hs.n];exact e6')
 ·exact h
end
section
variable {P:Program}
section before
variable (ops:Array Oper)
def Closed(listed:Array Bool):Prop:=∀q o,listed.getD q false=true→ops[q]?=some o→∀e∈o.after,Region.binds .any e=true→listed.getD e.on false=true
def Lst(i q:Nat):Prop:=∀listed,Closed ops listed→listed.getD q false=true→listed.getD i false=true
def Bef(i j:Nat):Prop:=∀listed,Closed ops listed→j∈Region.ready .any ops listed→listed.getD i false=true
def mY(i j:Nat):Bool:=
 match ops[j]? with
 |some o=>o.after.any fun e=>Region.binds .any e&&e.on==i
 |none=>false
variable {ops}
theorem tB{i j:Nat}(h:mY ops i j=true):∃o e,ops[j]?=some o∧e∈o.after∧Region.binds .any e=true∧e.on=i:=by
 grind [mY,Array.any_eq_true']
theorem Lst.refl(i:Nat):Lst ops i i:=fun _ _ h=>h
theorem Lst.trans{i j k:Nat}(h:Lst ops i j)(h':Lst ops j k):Lst ops i k:=fun l hc hk=>h l hc (h' l hc hk)
theorem Lst.dir{i j:Nat}(h:mY ops i j=true):Lst ops i j:=fun l hc hj=>by
 obtain⟨o,e,ho,he,hb,rfl⟩:=tB h;exact hc j o hj ho e he hb
theorem Bef.dir{i q j:Nat}(h:mY ops q j=true)(hl:Lst ops i q):Bef ops i j:=fun l hc hj=>by
 obtain⟨o,e,ho,he,hb,rfl⟩:=tB h;obtain⟨_,o',ho',hall⟩:=mem_ready.1 hj;rw[ho]at ho';cases ho';exact hl l hc (hall e he hb)
theorem Closed.set{listed:Array Bool}{j:Nat}(hc:Closed ops listed)(hj:j∈Region.ready .any ops listed):Closed ops (listed.setIfInBounds j true):=by
 intro q o hq ho e he hb;by_cases hqj:j=q
 ·subst hqj;obtain⟨_,o',ho',hall⟩:=mem_ready.1 hj;rw[ho]at ho';cases ho';exact getD_set_true (hall e he hb)
 ·rw[getD_set_ne false hqj]at hq;exact getD_set_true (hc q o hq ho e he hb)
theorem uS{i j:Nat}{listed:Array Bool}(hc:Closed ops listed)(hi:i∈Region.ready .any ops listed)(hj:j∈Region.ready .any ops listed):¬Bef ops i j:=fun h=>by
 grind [mem_ready,Nat.lt_or_ge,zBJ,Nat,Array,Bool,Closed,Region.ready,Bef]
end before
section tree
variable (P) (N:Nat) (ops:Array Oper) (eff:Nat→Bool)
abbrev qR:=List (Nat×AHeap)
abbrev fC:=List (Nat×(AHeap→Prop))
def yv(o:Oper)(α:AF)(v:AV)(h h':AHeap):Prop:=YG P N ops h o α (fun v' H'=>v'=v∧H'=h')
def qM(i:Nat)(K:AF→AHeap→qR→fC→Prop)(α:AF)(H:AHeap)(hist:qR)(past:fC):Prop:=
 match ops[i]? with
 |none=>K α H hist past
 |some o=>
  if eff i=true then ∃v H1,yv P N ops o α v H H1∧(∀p∈past,¬Bef ops p.1 i→p.2 H1)∧K (aX o.dst v α) H1 ((i,H)::hist) past
  else ∃v,yv P N ops o α v H H∧(∀e∈hist,¬Bef ops e.1 i→yv P N ops o α v e.2 e.2)∧K (aX o.dst v α) H hist ((i,fun h=>yv P N ops o α v h h)::past)
def wN(K:AF→AHeap→Prop):Nat→Array Bool→AF→AHeap→qR→fC→Prop
 |0,listed,α,H,_,_=>Region.ready .any ops listed=[]∧K α H
 |fuel+1,listed,α,H,hist,past=>(Region.ready .any ops listed=[]→K α H)∧∀i∈Region.ready .any ops listed,qM P N ops eff i (wN K fuel (listed.setIfInBounds i true)) α H hist past
variable {P} {N} {ops} {eff}
theorem yv.alike{o:Oper}{α β:AF}{v:AV}{h h':AHeap}(hab:Alike α β)(k:yv P N ops o α v h h'):yv P N ops o β v h h':=YG.alike hab k
theorem yv.put{oi oj:Oper}{α:AF}{v u:AV}{h h':AHeap}(k:yv P N ops oi α v h h')(hap:∀d,oj.dst=some d→d∉oi.looksAt ops):yv P N ops oi (aX oj.dst u α) v h h':=
 fun r c a next Q h1 h2 h3 hk=>k r c a next Q h1 h2 (fun t ht=>by
  have:=h3 t ht;rwa[iL fun x hx e=>hap x hx (e▸ht)]at this) hk
theorem yv.unput{oi oj:Oper}{α:AF}{v u:AV}{h h':AHeap}(k:yv P N ops oi (aX oj.dst u α) v h h')(hap:∀d,oj.dst=some d→d∉oi.looksAt ops):yv P N ops oi α v h h':=
 fun r c a next Q h1 h2 h3 hk=>k r c a next Q h1 h2 (fun t ht=>by
  rw[iL fun x hx e=>hap x hx (e▸ht)]
  exact h3 t ht) hk
def PastLe(p q:fC):Prop:=∀x∈q,∃y∈p,y.1=x.1∧∀h,y.2 h→x.2 h
theorem PastLe.refl(p:fC):PastLe p p:=fun x hx=>⟨x,hx,rfl,fun _ h=>h⟩
theorem PastLe.cons{p q:fC}{i:Nat}{φ ψ:AHeap→Prop}(h:∀x,φ x→ψ x)(hpq:PastLe p q):PastLe ((i,φ)::p) ((i,ψ)::q):=by
 intro x hx;cases hx with
 |head=>exact⟨_,.head _,rfl,h⟩
 |tail _ hx=>obtain⟨y,hy,h1,h2⟩:=hpq x hx;exact⟨y,.tail _ hy,h1,h2⟩
theorem PastLe.swap{p:fC}{i j:Nat}{φ φ' ψ ψ':AHeap→Prop}(h:∀x,φ x→φ' x)(k:∀x,ψ x→ψ' x):PastLe ((j,ψ)::(i,φ)::p) ((i,φ')::(j,ψ')::p):=by
 intro x hx;cases hx with
 |head=>simp_all
 |tail _ hx=>
  cases hx with
  |head=>exact⟨_,.head _,rfl,k⟩
  |tail _ hx=>exact⟨x,.tail _ (.tail _ hx),rfl,fun _ h=>h⟩
theorem gW{K:AF→AHeap→Prop}(hK:∀α β H,Alike α β→K α H→K β H):∀(n:Nat) (listed:Array Bool) (α β:AF) (H:AHeap) (hist:qR) (past past':fC),Alike α β→PastLe past past'→
  wN P N ops eff K n listed α H hist past→wN P N ops eff K n listed β H hist past'
 |0,_,_,_,_,_,_,_,hab,_,h=>⟨h.1,hK _ _ _ hab h.2⟩
 |n+1,listed,α,β,H,hist,past,past',hab,hp,h=>by
  refine⟨fun h0=>hK _ _ _ hab (h.1 h0),fun i hi=>?_⟩
  have:=h.2 i hi;unfold qM at this ⊢;split
  ·rename_i ho;simp only[ho]at this;exact gW hK n _ _ _ _ _ _ _ hab hp this
  ·rename_i o ho;simp only[ho]at this;split
   ·rename_i he;rw[zAp he]at this;obtain⟨v,H1,h1,h2,h3⟩:=this;refine⟨v,H1,h1.alike hab,fun p hpp hb=>?_,gW hK n _ _ _ _ _ _ _ (hab.put _ _) hp h3⟩
    obtain⟨y,hy,e1,e2⟩:=hp p hpp;exact e2 _ (h2 y hy (by rw[e1];exact hb))
   ·rename_i he;rw[zAk he]at this;obtain⟨v,h1,h2,h3⟩:=this;exact⟨v,h1.alike hab,fun e hee hb=>(h2 e hee hb).alike hab,gW hK n _ _ _ _ _ _ _ (hab.put _ _) (.cons (fun _ h=>h.alike hab) hp) h3⟩
def Head(P:Program)(N:Nat)(ops:Array Oper)(eff:Nat→Bool)(i:Nat)(oi:Oper)(v:AV)(H1:AHeap)(α:AF)(H:AHeap)(hist:qR)(past:fC):Prop:=
 yv P N ops oi α v H H1∧(eff i=true→∀p∈past,¬Bef ops p.1 i→p.2 H1)∧(eff i=false→H1=H∧∀e∈hist,¬Bef ops e.1 i→yv P N ops oi α v e.2 e.2)
theorem Head.qM{K:AF→AHeap→qR→fC→Prop}{i:Nat}{oi:Oper}{v:AV}{H1:AHeap}{α:AF}{H:AHeap}{hist:qR}{past:fC}(hi:ops[i]?=some oi)(h:Head P N ops eff i oi v H1 α H hist past)
  (hk:K (aX oi.dst v α) H1 (if eff i=true then(i,H)::hist else hist) (if eff i=true then past else(i,fun h=>yv P N ops oi α v h h)::past)):qM P N ops eff i K α H hist past:=by
 unfold Go.Proofs.YtigedpfipifefaaGreatDoor.qM;simp only[hi];cases he:eff i with
 |true=>
  grind [Nat,Oper,Head,aX]
 |false=>
  rw[he]at hk;obtain⟨e1,e2⟩:=h.2.2 he;subst e1;rw[zAk (by simp)]
  exact⟨v,h.1,e2,hk⟩
theorem zM{K:AF→AHeap→Prop}(hK:∀α β H,Alike α β→K α H→K β H){i:Nat}{oi:Oper}{v:AV}(hi:ops[i]?=some oi)(hEE:eff i=true→∀j,eff j=true→j≠i→∀listed,Closed ops listed→i∈Region.ready .any ops listed→j∈Region.ready .any ops listed→False):
  ∀(fuel:Nat) (listed:Array Bool) (α:AF) (H H1:AHeap) (hist:qR) (past:fC),Closed ops listed→
   (∀j oj,ops[j]?=some oj→j≠i→listed.getD j true=false→(∀e∈oj.after,Region.binds .any e=true→e.on≠i)→oi.apart ops oj=true)→
   i∈Region.ready .any ops listed→Head P N ops eff i oi v H1 α H hist past→
   wN P N ops eff K fuel (listed.setIfInBounds i true) (aX oi.dst v α) H1 (if eff i=true then(i,H)::hist else hist) (if eff i=true then past else(i,fun h=>yv P N ops oi α v h h)::past)→
   wN P N ops eff K (fuel+1) listed α H hist past:=by
 intro fuel;induction fuel with
 |zero=>
  intro listed α H H1 hist past _ _ hr hy hh;refine⟨fun h=>(by rw[h]at hr;cases hr),fun j hj=>?_⟩
  by_cases hji:j=i
  ·subst hji;exact hy.qM hi hh
  ·have:=ready_mono hj hji;rw[hh.1]at this;cases this
 |succ fuel ih=>
  intro listed α H H1 hist past hcl hfree hr hy hh;refine⟨fun h=>(by rw[h]at hr;cases hr),fun j hj=>?_⟩
  by_cases hji:j=i
  ·subst hji;exact hy.qM hi hh
  ·have h1:=hh.2 j (ready_mono hj hji);obtain⟨hjun,oj,hoj,hall⟩:=mem_ready.1 hj;have hnb:¬Bef ops i j:=uS hcl hr hj;have hnot:∀e∈oj.after,Region.binds .any e=true→e.on≠i:=fun e he hb heq=>by
    have h1:=hall e he hb;have h0:=(mem_ready.1 hr).1;rw[heq]at h1;rcases Nat.lt_or_ge i listed.size with h'|h'
    ·simp[h']at h0 h1;rw[h0]at h1;cases h1
    ·simp[zBJ h']at h1
   obtain⟨p1,p2,p3⟩:=Oper.apart_spec (hfree j oj hoj hji hjun hnot);have hcl':=hcl.set hj;have hfree':∀k ok,ops[k]?=some ok→k≠i→(listed.setIfInBounds j true).getD k true=false→
     (∀e∈ok.after,Region.binds .any e=true→e.on≠i)→oi.apart ops ok=true:=fun k ok hk hki hun hno=>by
    refine hfree k ok hk hki ?_ hno;by_cases hjk:j=k
    ·subst hjk;exact hjun
    ·rw[getD_set_ne true hjk]at hun;exact hun
   have hr':=ready_mono hr (Ne.symm hji);have hcomm:=zBg (xs:=listed) true true (Ne.symm hji);unfold Go.Proofs.YtigedpfipifefaaGreatDoor.qM at h1 ⊢;simp only[hoj]at h1 ⊢;cases hej:eff j with
   |true=>
    rw[hej,zAp rfl]at h1;rw[zAp rfl];obtain⟨u,H2,hyj,hpj,hkj⟩:=h1;cases hei:eff i with
    |true=>exact(hEE hei j hej hji listed hcl hr hj).elim
    |false=>
     obtain⟨e1,e2⟩:=hy.2.2 hei;subst e1;simp only[hei,zAr,zBd]at hpj hkj;have hyi2:=hpj (i,fun h=>yv P N ops oi α v h h) (.head _) hnb
     refine⟨u,H2,hyj.unput p1,fun p hp hb=>hpj p (.tail _ hp) hb,?_⟩
     refine ih (listed.setIfInBounds j true) (aX oj.dst u α) H2 H2 ((j,H1)::hist) past hcl' hfree' hr' ⟨yv.put hyi2 p3,fun h=>(by rw[hei]at h;cases h),fun _=>⟨rfl,fun e he hb=>?_⟩⟩ ?_
     ·cases he with
      |head=>exact hy.1.put p3
      |tail _ he=>exact(e2 e he hb).put p3
     ·simp only[hei,zAr,zBd];rw[zBg _ _ hji];exact gW hK _ _ _ _ _ _ _ _ (fE p2) (.cons (fun _ h=>h.put p3) (.refl _)) hkj
   |false=>
    rw[hej,zAk (by simp)]at h1
    rw[zAk (by simp)]
    obtain⟨u,hyj,hhj,hkj⟩:=h1;cases hei:eff i with
    |true=>
     simp only[hei,zBy]at hhj hkj;have hyj0:yv P N ops oj α u H H:=(hhj (i,H) (.head _) hnb).unput p1;refine⟨u,hyj0,fun e he hb=>(hhj e (.tail _ he) hb).unput p1,?_⟩
     refine ih (listed.setIfInBounds j true) (aX oj.dst u α) H H1 hist _ hcl' hfree' hr' ⟨hy.1.put p3,fun _ p hp hb=>?_,fun h=>(by rw[hei]at h;cases h)⟩ ?_
     ·cases hp with
      |head=>exact hyj.unput p1
      |tail _ hp=>exact hy.2.1 hei p hp hb
     ·simp only[hei,zBy];rw[zBg _ _ hji];exact gW hK _ _ _ _ _ _ _ _ (fE p2) (.cons (fun _ h=>h.unput p1) (.refl _)) hkj
    |false=>
     obtain⟨e1,e2⟩:=hy.2.2 hei;subst e1;simp only[hei,zAr,zBd]at hhj hkj;refine⟨u,hyj.unput p1,fun e he hb=>(hhj e he hb).unput p1,?_⟩
     refine ih (listed.setIfInBounds j true) (aX oj.dst u α) H1 H1 hist _ hcl' hfree' hr' ⟨hy.1.put p3,fun h=>(by rw[hei]at h;cases h),fun _=>⟨rfl,fun e he hb=>(e2 e he hb).put p3⟩⟩ ?_
     simp only[hei,zAr,zBd];rw[zBg _ _ hji];exact gW hK _ _ _ _ _ _ _ _ (fE p2) (.swap (fun _ h=>h.put p3) (fun _ h=>h.unput p1)) hkj
def aM(P:Program)(N:Nat)(ops:Array Oper)(eff:Nat→Bool)(K:AF→AHeap→Prop):List Oper→Nat→AF→AHeap→qR→fC→Prop
 |[],_,α,H,_,_=>K α H
 |o::os,k,α,H,hist,past=>∃v H1,Head P N ops eff k o v H1 α H hist past∧
   aM P N ops eff K os (k+1) (aX o.dst v α) H1 (if eff k=true then(k,H)::hist else hist) (if eff k=true then past else(k,fun h=>yv P N ops o α v h h)::past)
theorem wO{K:AF→AHeap→Prop}(hK:∀α β H,Alike α β→K α H→K β H)(hEE:∀i j,eff i=true→eff j=true→j≠i→∀listed,Closed ops listed→i∈Region.ready .any ops listed→j∈Region.ready .any ops listed→False):
  ∀(l:List Oper) (k:Nat) (listed:Array Bool) (α:AF) (H:AHeap) (hist:qR) (past:fC),(∀j,l[j]?=ops[k+j]?)→Closed ops listed→
  Region.lexFrom .any ops l.length k listed=true→aM P N ops eff K l k α H hist past→wN P N ops eff K l.length listed α H hist past
 |[],_,_,_,_,_,_,_,_,hB,h=>⟨by simpa[Region.lexFrom]using hB,h⟩
 |o::l,k,listed,α,H,hist,past,hl,hc,hB,h=>by
  have h0:ops[k]?=some o:=by simpa using(hl 0).symm
  simp only[zAt,Region.lexFrom,zAc]at hB;obtain⟨⟨hr,hf⟩,hB'⟩:=hB;obtain⟨v,H1,hy,hk⟩:=h;have hr':k∈Region.ready .any ops listed:=by simpa using hr
  exact zM hK h0 (fun he j hj hne=>hEE k j he hj hne) l.length listed α H H1 hist past hc (Region.free_spec h0 hf) hr' hy
   (wO hK hEE l (k+1) _ _ _ _ _ (fun j=>by have:=hl (j+1);grind) (hc.set hr') hB' hk)
theorem jA{r:Option Nat}{Q:Exit→Act→World→Prop}{K:AF→AHeap→Prop}(hd:gI N ops=true)(c₀:Ctx)(hK:∀α H c a,K α H→St c H→Ext c₀ c→ARep c N α a→Q .normal a c.w):
  ∀(n:Nat) (listed:Array Bool) (α:AF) (H:AHeap) (hist:qR) (past:fC) (c:Ctx) (a:Act),St c H→Ext c₀ c→ARep c N α a→wN P N ops eff K n listed α H hist past→wpAnyIn (wf r) 0 P .any ops Q n listed a c.w
 |0,_,_,_,_,_,_,_,hs,hx,ha,h=>⟨h.1,hK _ _ _ _ h.2 hs hx ha⟩
 |n+1,listed,α,H,hist,past,c,a,hs,hx,ha,h=>by
  refine⟨fun h0=>hK _ _ _ _ (h.1 h0) hs hx ha,fun i hi=>?_⟩
  have h1:=h.2 i hi;unfold qM at h1;unfold wpOpIn;split
  ·rename_i ho;simp only[ho]at h1;exact jA hd c₀ hK n _ _ _ _ _ _ _ hs hx ha h1
  ·rename_i o ho;simp only[ho]at h1;have hdo:pZ N o.dst=true:=zAx.1 hd o (by rw[zBN];exact zBe ho)
   have go:∀v H1 hist' past',yv P N ops o α v H H1→wN P N ops eff K n (listed.setIfInBounds i true) (aX o.dst v α) H1 hist' past'→
     if Region.wanted o (yielded ops a.tmps)then o.wpIn (wf r) 0 P a c.w (wpAnyIn (wf r) 0 P .any ops Q n (listed.setIfInBounds i true)) Q else(∀f,o.about P c.w a.eval=some f→(wf r).fn f)∧wpAnyIn (wf r) 0 P .any ops Q n (listed.setIfInBounds i true) (a.put o.dst undef) c.w:=by
    intro v H1 hist' past' hy hk;have:=hy r c a (wpAnyIn (wf r) 0 P .any ops Q n (listed.setIfInBounds i true)) Q hs ha.size (fun t _=>ha.rep t) fun c' x v' H' g1 g2 g3 g4=>by
     obtain⟨e1,e2⟩:=g4;rw[e2]at g1;rw[e1]at g3;exact jA hd c₀ hK n _ _ _ _ _ _ _ g1 (hx.trans g2) ((ha.mono g2).put hdo g3) hk
    by_cases hw:Region.wanted o (yielded ops a.tmps)=true
    ·rw[zAp hw]at this ⊢;exact this
    ·rw[zAk hw]at this ⊢;exact⟨fun _ _=>trivial,this⟩
   grind
end tree
section chain
variable {ops:Array Oper}
def gJ(ops:Array Oper):List Nat→Bool
 |a::b::l=>mY ops a b&&gJ ops (b::l)
 |_=>true
theorem nX:∀{a:Nat} {l:List Nat},gJ ops (a::l)=true→∀j∈l,Bef ops a j∧Lst ops a j
 |a,[],_,j,hj=>by cases hj
 |a,b::l,h,j,hj=>by
  rw[gJ,zAc]at h;cases hj with
  |head=>exact⟨.dir h.1 (.refl _),.dir h.1⟩
  |tail _ hj=>
   obtain⟨_,h2⟩:=nX h.2 j hj;have key:∀{b:Nat} {l:List Nat},gJ ops (b::l)=true→∀x,Lst ops x b→∀j∈l,Bef ops x j:=by
    intro b l;induction l generalizing b with
    |nil=>intro _ x _ j hj;cases hj
    |cons c l ih=>
     intro h x hx j hj;rw[gJ,zAc]at h;cases hj with
     |head=>exact .dir h.1 hx
     |tail _ hj=>exact ih h.2 x (hx.trans (.dir h.1)) j hj
   exact⟨key h.2 a (.dir h.1) j hj,(Lst.dir h.1).trans h2⟩
theorem zN{a:Nat}{l:List Nat}(h:gJ ops (a::l)=true):gJ ops l=true:=by
 cases l with
 |nil=>rfl
 |cons b l=>rw[gJ,zAc]at h;exact h.2
theorem wP:∀{l:List Nat},gJ ops l=true→∀i j,i∈l→j∈l→j≠i→Bef ops i j∨Bef ops j i
 |[],_,i,_,hi,_,_=>by cases hi
 |a::l,h,i,j,hi,hj,hne=>by
  cases hi with
  |head=>
   cases hj with
   |head=>exact absurd rfl hne
   |tail _ hj=>exact .inl (nX h j hj).1
  |tail _ hi=>
   cases hj with
   |head=>exact .inr (nX h i hi).1
   |tail _ hj=>exact wP (zN h) i j hi hj hne
end chain
inductive Pl where
 |free
 |pure (w:Nat)
 |eff (fs:List Bool)
def kQ:Op→Bool
 |.move _|.assign _|.build _ _|.buildSlice _ _ _|.binOp _ _ _ _ _|.unOp _ _ _|.makeInterface _ _|.makeFunc _ _ _|.field _ _ _|.typeAssert _ _ _ _|.extract _ _|.pick _ _ _=>true
 |_=>false
def pureAt(P:Program)(all:List Oper)(h:AHeap)(o:Oper)(α:AF)(v:AV):Prop:=
 match o with
 |⟨_,op,_,_,_,guard⟩=>
  match guard,op with
  |none,.pick x y z=>(cV true (ev α x) (ev α y) (ev α z)).s∧v=(cV true (ev α x) (ev α y) (ev α z)).v
  |none,.call ⟨.value f,xs,_⟩=>ACall P (ev α f) (xs.toList.map (ev α)) h (fun v' H'=>v'=v∧H'=h)
  |none,.call ⟨.invoke r m,xs,_⟩=>ACall P (cC P m (ev α r)) (xs.toList.map (ev α)) h (fun v' H'=>v'=v∧H'=h)
  |none,op=>(aF P op (ev α) h).s∧(aF P op (ev α) h).H=h∧v=(aF P op (ev α) h).v
  |some (j,want),.pick x y z=>
   kJ (aC α (bB all j))∧((aJ (aC α (bB all j)) want)=true→(cV (aJ (aC α (bB all j)) want) (ev α x) (ev α y) (ev α z)).s)∧
    v=.opt (aJ (aC α (bB all j)) want) (cV (aJ (aC α (bB all j)) want) (ev α x) (ev α y) (ev α z)).v
  |some (j,want),.call ⟨.value f,xs,_⟩=>
   kJ (aC α (bB all j))∧bS (aJ (aC α (bB all j)) want) α (f::xs.toList)∧
    ∃u,(aJ (aC α (bB all j)) want=true→ACall P (cN α f) (xs.toList.map (cN α)) h (fun v' H'=>v'=u∧H'=h))∧v=.opt (aJ (aC α (bB all j)) want) u
  |some (j,want),op=>
   kJ (aC α (bB all j))∧bS (aJ (aC α (bB all j)) want) α op.operands.toList∧((aJ (aC α (bB all j)) want)=true→(aF P op (cN α) h).s∧(aF P op (cN α) h).H=h)∧
    v=.opt (aJ (aC α (bB all j)) want) (aF P op (cN α) h).v
theorem pureAt.yv{N:Nat}{ops:Array Oper}{o:Oper}{α:AF}{h:AHeap}{v:AV}(k:pureAt P ops.toList h o α v):yv P N ops o α v h h:=by
 obtain⟨dst,op,ty,pos,after,guard⟩:=o;dsimp only[pureAt]at k;split at k
 ·obtain⟨h1,rfl⟩:=k;exact YG.of_does rfl (fT (o:=⟨dst,.pick _ _ _,ty,pos,after,none⟩) (ρ:=ev α) (H:=h) rfl rfl h1)
 ·exact YG.of_does rfl (eF rfl k)
 ·exact YG.of_does rfl (eU rfl k)
 ·obtain⟨h1,h2,rfl⟩:=k;exact(YG.of_does rfl (cR h1)).mono fun v H' ⟨e1,e2⟩=>⟨e1,e2.trans h2⟩
 ·rename_i j want x y z;obtain⟨h1,h2,rfl⟩:=k;exact YG.of_guard (o:=⟨dst,.pick x y z,ty,pos,after,some (j,want)⟩) rfl h1 (ev α) (fun c a _ hl x hx=>cX fun t ht=>hl t (aN (by subst ht;exact hx)))
   (fun hg=>fT (g:=aJ (aC α (bB ops.toList j)) want) rfl hg (h2 hg))
 ·rename_i j want f xs ts;obtain⟨h1,h2,u,h3,rfl⟩:=k;exact YG.of_guard (o:=⟨dst,.call ⟨.value f,xs,ts⟩,ty,pos,after,some (j,want)⟩) rfl h1 (cN α) (fun c a hg hl x hx=>cQ (cX fun t ht=>hl t (aN (by subst ht;exact hx))) (bV h2 x (by simpa[Op.operands,Call.operands]using hx)) hg)
   (fun hg=>eF rfl (h3 hg))
 ·rename_i j want op' _ _;obtain⟨h1,h2,h3,rfl⟩:=k;exact YG.of_guard (v:=(aF P op (cN α) h).v) rfl h1 (cN α) (fun c a hg hl x hx=>cQ (cX fun t ht=>hl t (aN (by subst ht;exact hx))) (bV h2 x hx) hg)
   (fun hg=>(cR (h3 hg).1).mono fun v H' ⟨e1,e2⟩=>⟨e1,e2.trans (h3 hg).2⟩)
theorem oV{op:Op}(hf:kQ op=true)(ρ:Operand→AV)(h h':AHeap):(aF P op ρ h').s=(aF P op ρ h).s∧(aF P op ρ h').v=(aF P op ρ h).v∧(aF P op ρ h').H=h':=by
 cases op<;>first|(simp[kQ]at hf;done)|exact⟨rfl,rfl,rfl⟩|skip
 all_goals simp[aF]
theorem oW{all:List Oper}{h h':AHeap}{o:Oper}{α:AF}{v:AV}(hf:kQ o.op=true)(k:pureAt P all h o α v):pureAt P all h' o α v:=by
 obtain⟨dst,op,ty,pos,after,guard⟩:=o;have hf:kQ op=true:=hf;dsimp only[pureAt]at k ⊢;split at k
 ·exact k
 ·simp[kQ]at hf
 ·simp[kQ]at hf
 ·rename_i op' hp hc _;obtain⟨e1,e2,e3⟩:=oV (P:=P) hf (ev α) h h';grind
 ·exact k
 ·simp[kQ]at hf
 ·rename_i j want hp hc;obtain⟨e1,e2,e3⟩:=oV (P:=P) hf (cN α) h h';rw[←e1,←e2]at k;exact⟨k.1,k.2.1,fun hg=>⟨(k.2.2.1 hg).1,e3⟩,k.2.2.2⟩
def pK:List Bool→fC→AHeap→Prop
 |true::fs,p::ps,h=>p.2 h∧pK fs ps h
 |false::fs,_::ps,h=>pK fs ps h
 |_,_,_=>True
def fM{α:Type}:List Bool→List α→List α
 |true::fs,p::ps=>p::fM fs ps
 |false::fs,_::ps=>fM fs ps
 |_,_=>[]
def pL:Nat→List AHeap→(AHeap→Prop)→Prop
 |n+1,h::hs,φ=>φ h∧pL n hs φ
 |_,_,_=>True
def aMb(P:Program)(all:List Oper)(o:Oper)(α:AF)(H:AHeap):Prop:=
 match o.guard with
 |none=>(aF P o.op (ev α) H).s
 |some (j,want)=>kJ (aC α (bB all j))∧bS (aJ (aC α (bB all j)) want) α o.op.operands.toList∧(aJ (aC α (bB all j)) want=true→(aF P o.op (cN α) H).s)
def aMc(P:Program)(all:List Oper)(o:Oper)(α:AF)(H:AHeap):AV:=
 match o.guard with
 |none=>(aF P o.op (ev α) H).v
 |some (j,want)=>.opt (aJ (aC α (bB all j)) want) (aF P o.op (cN α) H).v
def aMd(P:Program)(all:List Oper)(o:Oper)(α:AF)(H:AHeap):AHeap:=
 match o.guard with
 |none=>(aF P o.op (ev α) H).H
 |some (j,want)=>bif aJ (aC α (bB all j)) want then(aF P o.op (cN α) H).H else H
theorem YG.of_guardE{N:Nat}{ops:Array Oper}{H H1:AHeap}{o:Oper}{α:AF}{v:AV}{j:Nat}{want:Bool}(hg:o.guard=some (j,want))(hok:kJ (aC α (bB ops.toList j)))
  (ρ:Operand→AV) (hρ:∀(c:Ctx) (a:Act),aJ (aC α (bB ops.toList j)) want=true→(∀t∈o.looksAt ops,Rep c (look α t) (a.tmps.getD t undef))→∀x∈o.op.operands.toList,Rep c (ρ x) (a.eval x))
  (h:aJ (aC α (bB ops.toList j)) want=true→Does P o ρ H (fun v' H'=>v'=v∧H'=H1)):
  YG P N ops H o α (fun v' H'=>v'=.opt (aJ (aC α (bB ops.toList j)) want) v∧H'=bif aJ (aC α (bB ops.toList j)) want then H1 else H):=by
 intro r c a next Q hs hsz hl hk
 rw[kM hg hl hok];cases hgv:aJ (aC α (bB ops.toList j)) want with
 |true=>
  simp only[zBy];rw[hgv]at hk;refine h hgv r c a next Q hs (hρ c a hgv hl) fun c' x v' H' h1 h2 h3 h4=>?_
  obtain⟨rfl,rfl⟩:=h4;exact hk c' _ v' _ h1 h2 (.opt _ _ _ (fun _=>h3) (fun h=>by cases h)) ⟨rfl,rfl⟩
 |false=>
  simp only[zAr,zBd];rw[hgv]at hk;exact hk c _ undef H hs (Ext.refl c) (.opt _ _ _ (fun h=>by cases h) (fun _=>rfl)) ⟨rfl,rfl⟩
theorem aFL{N:Nat}{ops:Array Oper}{o:Oper}{α:AF}{H:AHeap}(h:aMb P ops.toList o α H):yv P N ops o α (aMc P ops.toList o α H) H (aMd P ops.toList o α H):=by
 obtain⟨dst,op,ty,pos,after,guard⟩:=o;cases guard with
 |none=>exact YG.of_does rfl (cR (o:=⟨dst,op,ty,pos,after,none⟩) h)
 |some g=>
  obtain⟨j,want⟩:=g;obtain⟨h1,h2,h3⟩:=h;exact YG.of_guardE (o:=⟨dst,op,ty,pos,after,some (j,want)⟩) (v:=(aF P op (cN α) H).v) (H1:=(aF P op (cN α) H).H) rfl h1 (cN α)
   (fun c a hg hl x hx=>cQ (cX fun t ht=>hl t (aN (by subst ht;exact hx))) (bV h2 x hx) hg)
   (fun hg=>cR (h3 hg))
def aC7(P:Program)(all:List Oper)(o:Oper)(α:AF)(H:AHeap)(v:AV)(H1:AHeap):Prop:=
 match o with
 |⟨_,.call ⟨.value f,xs,_⟩,_,_,_,none⟩=>ACall P (ev α f) (xs.toList.map (ev α)) H (fun v' H'=>v'=v∧H'=H1)
 |⟨_,.call ⟨.value f,xs,_⟩,_,_,_,some (j,want)⟩=>kJ (aC α (bB all j))∧bS (aJ (aC α (bB all j)) want) α (f::xs.toList)∧
   ∃u,(aJ (aC α (bB all j)) want=true→ACall P (cN α f) (xs.toList.map (cN α)) H (fun v' H'=>v'=u∧H'=H1))∧(aJ (aC α (bB all j)) want=false→H1=H)∧v=.opt (aJ (aC α (bB all j)) want) u
 |o=>aMb P all o α H∧v=aMc P all o α H∧H1=aMd P all o α H
theorem aFM{N:Nat}{ops:Array Oper}{o:Oper}{α:AF}{H H1:AHeap}{v:AV}(h:aC7 P ops.toList o α H v H1):yv P N ops o α v H H1:=by
 unfold aC7 at h;split at h
 ·exact YG.of_does rfl (eF rfl h)
 ·rename_i dst f xs ts ty pos after j want;obtain⟨h1,h2,u,h3,h4,rfl⟩:=h;refine YG.mono (YG.of_guardE (o:=⟨dst,.call ⟨.value f,xs,ts⟩,ty,pos,after,some (j,want)⟩) (H1:=H1) rfl h1 (cN α) (fun c a hg hl x hx=>cQ (cX fun t ht=>hl t (aN (by subst ht;exact hx))) (bV h2 x (by simpa[Op.operands,Call.operands]using hx)) hg)
   (fun hg=>eF rfl (h3 hg))) fun v' H' ⟨e1,e2⟩=>⟨e1,e2.trans ?_⟩
  grind
 ·obtain⟨h1,rfl,rfl⟩:=h;exact aFL h1
def bD(P:Program)(all:List Oper):List Pl→List Oper→Nat→AF→AHeap→List AHeap→fC→(AF→AHeap→Prop)→Prop
 |[],[],_,α,H,_,_,kont=>kont α H
 |.free::ps,o::os,k,α,H,hist,past,kont=>∃v,pureAt P all H o α v∧bD P all ps os (k+1) (aX o.dst v α) H hist past kont
 |.pure w::ps,o::os,k,α,H,hist,past,kont=>∃v,pureAt P all H o α v∧pL w hist (fun h=>pureAt P all h o α v)∧
   bD P all ps os (k+1) (aX o.dst v α) H hist ((k,fun h=>pureAt P all h o α v)::past) kont
 |.eff fs::ps,o::os,k,α,H,hist,past,kont=>∃v H1,aC7 P all o α H v H1∧pK fs past H1∧
   bD P all ps os (k+1) (aX o.dst v α) H1 (H::hist) (fM fs past) kont
 |_,_,_,_,_,_,_,_=>False
def jB(ops:Array Oper):List Oper→List Pl→Nat→List Nat→List Nat→Bool
 |[],[],_,_,_=>true
 |o::os,.free::ps,k,effs,past=>kQ o.op&&jB ops os ps (k+1) effs past
 |_::os,.pure w::ps,k,effs,past=>(match effs[w]? with|some e=>mY ops e k|none=>true)&&jB ops os ps (k+1) effs (k::past)
 |_::os,.eff fs::ps,k,effs,past=>(match effs with|e::_=>mY ops e k|[]=>true)&&(fs.length==past.length)&&(fs.zip past).all (fun x=>x.1||mY ops x.2 k)&&jB ops os ps (k+1) (k::effs) (fM fs past)
 |_,_,_,_,_=>false
def fH:List Pl→Nat→List Nat
 |[],_=>[]
 |.eff _::ps,k=>k::fH ps (k+1)
 |_::ps,k=>fH ps (k+1)
theorem hQ:∀(pl:List Pl) (k i:Nat),i∈fH pl k→k≤i
 |[],_,_,h=>by cases h
 |.eff _::ps,k,i,h=>by
  cases h with
  |head=>exact zAb _
  |tail _ h=>exact zA7 (zBS _) (hQ ps (k+1) i h)
 |.free::ps,k,i,h=>zA7 (zBS _) (hQ ps (k+1) i h)
 |.pure _::ps,k,i,h=>zA7 (zBS _) (hQ ps (k+1) i h)
theorem tC{φ:AHeap→Prop}:∀{w:Nat} {hs:List AHeap},pL w hs φ→∀i h,i<w→hs[i]?=some h→φ h
 |0,_,_,_,_,hi,_=>absurd hi (Nat.not_lt_zero _)
 |w+1,[],_,i,h,_,hh=>by simp at hh
 |w+1,g::hs,k,0,h,_,hh=>by simp at hh;subst hh;exact k.1
 |w+1,g::hs,k,i+1,h,hi,hh=>tC k.2 i h (Nat.lt_of_succ_lt_succ hi) (by simpa using hh)
def Falls(ops:Array Oper):List Nat→Prop
 |a::b::l=>mY ops b a=true∧Falls ops (b::l)
 |_=>True
theorem Falls.tail{ops:Array Oper}{a:Nat}{l:List Nat}(h:Falls ops (a::l)):Falls ops l:=by
 cases l with
 |nil=>trivial
 |cons b l=>exact h.2
theorem nY{ops:Array Oper}:∀{l:List Nat},Falls ops l→∀(p q a b:Nat),p≤q→l[p]?=some a→l[q]?=some b→Lst ops b a
 |[],_,p,_,_,_,_,h,_=>by simp at h
 |x::l,hf,0,0,a,b,_,h1,h2=>by simp at h1 h2;subst h1;subst h2;exact .refl _
 |x::l,hf,p+1,0,_,_,h,_,_=>absurd h (Nat.not_succ_le_zero p)
 |x::l,hf,p+1,q+1,a,b,h,h1,h2=>nY hf.tail p q a b (Nat.le_of_succ_le_succ h) (by simpa using h1) (by simpa using h2)
 |x::l,hf,0,q+1,a,b,_,h1,h2=>by
  simp at h1;subst h1;cases l with
  |nil=>simp at h2
  |cons y l=>exact(nY hf.tail 0 q y b (zAv _) (by simp) (by simpa using h2)).trans (.dir hf.1)
theorem nZ{ops:Array Oper}{k:Nat}{h:AHeap}:∀{fs:List Bool} {ps:fC},pK fs ps h→fs.length=ps.length→(∀x∈fs.zip (ps.map (·.1)),(x.1||mY ops x.2 k)=true)→
  ∀p∈ps,p.2 h∨mY ops p.1 k=true
 |[],[],_,_,_,p,hp=>by cases hp
 |true::fs,q::ps,ha,hl,hz,p,hp=>by
  cases hp with
  |head=>exact .inl ha.1
  |tail _ hp=>exact nZ ha.2 (by simpa using hl) (fun x hx=>hz x (by simp_all)) p hp
 |false::fs,q::ps,ha,hl,hz,p,hp=>by
  cases hp with
  |head=>simp_all
  |tail _ hp=>exact nZ (show pK fs ps h from ha) (by simpa using hl) (fun x hx=>hz x (by simp only[zAV,List.zip_cons_cons];exact .tail _ hx)) p hp
 |[],_::_,_,hl,_,_,_=>by simp at hl
 |_::_,[],_,hl,_,_,_=>by simp at hl
theorem oD{β:Type}(f:(Nat×(AHeap→Prop))→β):∀(fs:List Bool) (ps:fC),(fM fs ps).map f=fM fs (ps.map f)
 |[],ps=>by cases ps<;>rfl
 |true::fs,[]=>rfl
 |false::fs,[]=>rfl
 |true::fs,p::ps=>by simp[fM,oD f fs ps]
 |false::fs,p::ps=>by simp[fM,oD f fs ps]
theorem mE{ops:Array Oper}{k:Nat}:∀{fs:List Bool} {ps:fC},fs.length=ps.length→(∀x∈fs.zip (ps.map (·.1)),(x.1||mY ops x.2 k)=true)→∀p∈ps,p∈fM fs ps∨mY ops p.1 k=true
 |[],[],_,_,p,hp=>by cases hp
 |true::fs,q::ps,hl,hz,p,hp=>by
  cases hp with
  |head=>exact .inl (.head _)
  |tail _ hp=>exact(mE (by simpa using hl) (fun x hx=>hz x (by simp_all)) p hp).imp (.tail _) id
 |false::fs,q::ps,hl,hz,p,hp=>by
  cases hp with
  |head=>simp_all
  |tail _ hp=>exact(mE (by simpa using hl) (fun x hx=>hz x (by simp only[zAV,List.zip_cons_cons];exact .tail _ hx)) p hp).imp id id
 |[],_::_,hl,_,_,_=>by simp at hl
 |_::_,[],hl,_,_,_=>by simp at hl
def aIT(ops:Array Oper)(effs:List Nat)(tp sp:fC):Prop:=
 ∀p∈tp,(∃e l,effs=e::l∧Lst ops p.1 e)∨(∀h,p.2 h)∨∃q∈sp,q.1=p.1∧∀h,q.2 h→p.2 h
theorem iN{N:Nat}{ops:Array Oper}{plan:List Pl}{K:AF→AHeap→Prop}(hN:True):
  ∀(os:List Oper) (pl:List Pl) (k:Nat) (α:AF) (H:AHeap) (effs:List Nat) (hist:List AHeap) (tp sp:fC),jB ops os pl k effs (sp.map (·.1))=true→
   (∀i,k≤i→(i∈fH plan 0↔i∈fH pl k))→effs.length=hist.length→Falls ops effs→aIT ops effs tp sp→
   bD P ops.toList pl os k α H hist sp K→aM P N ops (fun i=>(fH plan 0).contains i) K os k α H (effs.zip hist) tp
 |[],[],_,_,_,_,_,_,_,_,_,_,_,_,h=>h
 |o::os,.free::pl,k,α,H,effs,hist,tp,sp,hp,he,hl,hf,hpo,h=>by
  rw[jB,zAc]at hp;obtain⟨v,h1,h2⟩:=h;have hne:(fH plan 0).contains k=false:=by
   rw[←Bool.not_eq_true,zBt,he k (zAb _)];intro hm;have:=hQ pl (k+1) k hm;omega
  refine⟨v,H,⟨h1.yv,fun q=>Bool.noConfusion (hne.symm.trans q),fun _=>⟨rfl,fun e _ _=>(oW hp.1 h1).yv⟩⟩,?_⟩
  simp only[hne,zAr,zBd];refine iN hN os pl (k+1) _ H effs hist _ sp hp.2 (fun i hi=>he i (by omega)) hl hf ?_ h2
  intro p hpp;cases hpp with
  |head=>exact .inr (.inl fun h=>(oW hp.1 h1).yv)
  |tail _ hpp=>exact hpo p hpp
 |o::os,.pure w::pl,k,α,H,effs,hist,tp,sp,hp,he,hl,hf,hpo,h=>by
  rw[jB,zAc]at hp;obtain⟨v,h1,h2,h3⟩:=h;have hne:(fH plan 0).contains k=false:=by
   rw[←Bool.not_eq_true,zBt,he k (zAb _)];intro hm;have:=hQ pl (k+1) k hm;omega
  refine⟨v,H,⟨h1.yv,fun q=>Bool.noConfusion (hne.symm.trans q),fun _=>⟨rfl,fun e hee hb=>?_⟩⟩,?_⟩
  ·obtain⟨i,hi⟩:=List.getElem?_of_mem hee;rw[List.getElem?_zip_eq_some]at hi;by_cases hw:i<w
   ·exact(tC h2 i e.2 hw hi.2).yv
   ·have hle:i<effs.length:=(eT.1 hi.1).1;have hwl:effs[w]?=some (effs[w]'(by omega)):=zAd (by omega)
    rw[hwl]at hp;exact absurd (.dir hp.1 (nY hf w i _ _ (by omega) hwl hi.1)) hb
  ·simp only[hne,zAr,zBd];refine iN hN os pl (k+1) _ H effs hist _ _ (by simpa using hp.2) (fun i hi=>he i (by omega)) hl hf ?_ h3
   intro p hpp;cases hpp with
   |head=>exact .inr (.inr ⟨_,.head _,rfl,fun h hh=>hh.yv⟩)
   |tail _ hpp=>
    rcases hpo p hpp with q|q|⟨q,hq,q1,q2⟩
    ·exact .inl q
    ·exact .inr (.inl q)
    ·exact .inr (.inr ⟨q,.tail _ hq,q1,q2⟩)
 |o::os,.eff fs::pl,k,α,H,effs,hist,tp,sp,hp,he,hl,hf,hpo,h=>by
  simp only[jB,zAc]at hp;obtain⟨⟨⟨hch,hfl⟩,hz⟩,hrest⟩:=hp;obtain⟨v,H1,h1,h2,h3⟩:=h;have hee:(fH plan 0).contains k=true:=by
   rw[zBt,he k (zAb _)];exact .head _
  have hfl':fs.length=sp.length:=by simpa using hfl
  have hz':∀x∈fs.zip (sp.map (·.1)),(x.1||mY ops x.2 k)=true:=zAx.1 hz
  refine⟨_,_,⟨aFM h1,fun _ p hpp hb=>?_,fun q=>Bool.noConfusion (hee.symm.trans q)⟩,?_⟩
  ·rcases hpo p hpp with⟨e,l,he',q⟩|q|⟨q,hq,q1,q2⟩
   ·rw[he']at hch;exact absurd (.dir hch q) hb
   ·exact q _
   ·rcases nZ h2 hfl' hz' q hq with r|r
    ·exact q2 _ r
    ·rw[q1]at r;exact absurd (.dir r (.refl _)) hb
  ·simp only[hee,zBy];refine iN hN os pl (k+1) _ _ (k::effs) (H::hist) tp _ (by rw[oD];exact hrest) (fun i hi=>?_) (by simp[hl]) ?_ ?_ h3
   ·rw[he i (by omega)]
    constructor
    ·intro hm;cases hm with
     |head=>omega
     |tail _ hm=>exact hm
    ·exact .tail _
   ·cases effs with
    |nil=>trivial
    |cons e l=>exact⟨hch,hf⟩
   ·intro p hpp;rcases hpo p hpp with⟨e,l,he',q⟩|q|⟨q,hq,q1,q2⟩
    ·rw[he']at hch;exact .inl ⟨k,effs,rfl,q.trans (.dir hch)⟩
    ·exact .inr (.inl q)
    ·rcases mE hfl' hz' q hq with r|r
     ·exact .inr (.inr ⟨q,r,q1,q2⟩)
     ·rw[q1]at r;exact .inl ⟨k,effs,rfl,.dir r⟩
theorem zO{all:List Oper}{k k':AF→AHeap→Prop}(hk:∀α H,k α H→k' α H)(pl:List Pl):∀(l:List Oper) (n:Nat) (α:AF) (H:AHeap) (hist:List AHeap) (past:fC),bD P all pl l n α H hist past k→bD P all pl l n α H hist past k':=by
 induction pl with
 |nil=>
  grind [List,Oper,Nat,bD]
 |cons p ps ih=>
  intro l n α H hist past h;cases l with
  |nil=>cases p<;>exact h
  |cons o os=>
   cases p with
   |free=>grind [List,Oper,Nat,bD]
   |pure w=>obtain⟨v,h1,h2,h3⟩:=h;grind [List,Oper,Nat,bD]
   |eff fs=>obtain⟨v,H1,h1,h2,h3⟩:=h;exact⟨v,H1,h1,h2,ih _ _ _ _ _ _ h3⟩
theorem lT{N id:Nat}{ops:Array Oper}{Q:aT}{α:AF}{H:AHeap}(plan:List Pl)(hm:P.follows .mixedOrders=true)(hd:gI N ops=true)(hB:Region.lexB .any ops=true)
  (hp:(jB ops ops.toList plan 0 [] []&&gJ ops (fH plan 0))=true) (h:bD P ops.toList plan ops.toList 0 α H [] [] (fun α' H'=>Q .normal α' H')):aw P N (.region id ops true) Q α H:=by
 intro r c a _ hs ha;simp only[Region.lexB,zAc]at hB hp;refine wpIn_region_any hm ?_;have h1:=zO (k':=fun α' H'=>∃β,Alike α' β∧Q .normal β H') (fun α' H' hq=>⟨α',fun _=>rfl,hq⟩) _ _ _ _ _ _ _ h
 have h2:=iN (P:=P) (N:=N) (ops:=ops) (plan:=plan) trivial ops.toList plan 0 α H [] [] [] [] hp.1 (fun _ _=>Iff.rfl) rfl trivial (fun p hp=>by cases hp) h1
 have hEE:∀i j,(fH plan 0).contains i=true→(fH plan 0).contains j=true→j≠i→∀listed,Closed ops listed→i∈Region.ready .any ops listed→j∈Region.ready .any ops listed→False:=by
  intro i j hi hj hne listed hc h1 h2;rcases wP hp.2 i j (zBt.1 hi) (zBt.1 hj) hne with q|q
  ·exact uS hc h1 h2 q
  ·exact uS hc h2 h1 q
 have hc0:Closed ops (Array.replicate ops.size false):=by
  intro q o hq;rw[zA9]at hq;grind
 have h3:=wO (fun α β H hab ⟨γ,hg,hq⟩=>⟨γ,fun t=>(hab t).symm.trans (hg t),hq⟩) hEE ops.toList 0 (Array.replicate ops.size false) α H _ _ (by simp) hc0 (by simpa using hB.2) h2
 have h4:=jA (r:=r) (P:=P) (Q:=qK N c Q) hd c (fun α' H' c' a' ⟨β,hab,hq⟩ hs' hx' ha'=>⟨c',β,H',rfl,hs',hx',ha'.weaken fun t=>.inr (hab t).symm,hq⟩)
  ops.toList.length (Array.replicate ops.size false) α H _ _ c.draw a hs.draw (Ext.draw c) (ha.mono (Ext.draw c)) h3
 rw[Array.length_toList]at h4;exact h4
end
section
variable {P:Program}
theorem exF{A B:Prop}{b:AV}{X:AV→Prop}:(∃v,(A∧B∧v=b)∧X v)=(A∧B∧X b):=
 propext ⟨fun⟨_,⟨h1,h2,e⟩,x⟩=>⟨h1,h2,e▸x⟩,fun⟨h1,h2,x⟩=>⟨b,⟨h1,h2,rfl⟩,x⟩⟩
theorem exG{A B C:Prop}{b:AV}{X:AV→Prop}:(∃v,(A∧B∧C∧v=b)∧X v)=(A∧B∧C∧X b):=
 propext ⟨fun⟨_,⟨h1,h2,h3,e⟩,x⟩=>⟨h1,h2,h3,e▸x⟩,fun⟨h1,h2,h3,x⟩=>⟨b,⟨h1,h2,h3,rfl⟩,x⟩⟩
theorem exP{A B:Prop}{b:AV}{W X:AV→Prop}:(∃v,(A∧B∧v=b)∧W v∧X v)=(A∧B∧W b∧X b):=
 propext ⟨fun⟨_,⟨h1,h2,e⟩,y,x⟩=>⟨h1,h2,e▸y,e▸x⟩,fun⟨h1,h2,y,x⟩=>⟨b,⟨h1,h2,rfl⟩,y,x⟩⟩
theorem exQ{A B C:Prop}{b:AV}{W X:AV→Prop}:(∃v,(A∧B∧C∧v=b)∧W v∧X v)=(A∧B∧C∧W b∧X b):=
 propext ⟨fun⟨_,⟨h1,h2,h3,e⟩,y,x⟩=>⟨h1,h2,h3,e▸y,e▸x⟩,fun⟨h1,h2,h3,y,x⟩=>⟨b,⟨h1,h2,h3,rfl⟩,y,x⟩⟩
theorem exE{A:Prop}{b:AV}{G:AHeap}{W:AHeap→Prop}{X:AV→AHeap→Prop}:(∃v H1,(A∧v=b∧H1=G)∧W H1∧X v H1)=(A∧W G∧X b G):=
 propext ⟨fun⟨_,_,⟨h1,e,e'⟩,y,x⟩=>by subst e;subst e';exact⟨h1,y,x⟩,fun⟨h1,y,x⟩=>⟨b,G,⟨h1,rfl,rfl⟩,y,x⟩⟩
attribute [go_sem] pK fM pL
def aAS(P:Program)(g:Bool)(f:AV)(xs:List AV)(H:AHeap)(K:AV→AHeap→Prop):Prop:=
 ∃v H1,(g=true→ACall P f xs H (fun v' H'=>v'=v∧H'=H1))∧(g=false→H1=H)∧K v H1
def eQ(P:Program)(g:Bool)(f:AV)(xs:List AV)(v:AV):AHeap→Prop:=fun h=>g=true→ACall P f xs h (fun v' H'=>v'=v∧H'=h)
def tD(P:Program)(g:Bool)(f:AV)(xs:List AV)(H:AHeap)(w:Nat)(hist:List AHeap)(K:AV→Prop):Prop:=∃v,eQ P g f xs v H∧pL w hist (eQ P g f xs v)∧K v
section
variable (all os:List Oper) (pp:List Pl) (w k:Nat) (fs:List Bool) (α:AF) (H:AHeap) (hist:List AHeap) (past:fC) (kont:AF→AHeap→Prop) (dst:Option Tmp) (ty:TypeId) (pos:String) (after:Array Edge)
def zP(P:Program)(all:List Oper)(pp:List Pl)(os:List Oper)(k:Nat)(dst:Option Tmp)(α:AF)(H:AHeap)(hist:List AHeap)(past:fC)(kont:AF→AHeap→Prop)(f:AV)(xs:List AV):AV→Prop:=
 fun v=>bD P all pp os (k+1) (aX dst v α) H hist ((k,eQ P true f xs v)::past) kont
def aC8(P:Program)(all:List Oper)(pp:List Pl)(os:List Oper)(k:Nat)(dst:Option Tmp)(g:Bool)(α:AF)(H:AHeap)(hist:List AHeap)(past:fC)(kont:AF→AHeap→Prop)(f:AV)(xs:List AV):AV→Prop:=
 fun v=>bD P all pp os (k+1) (aX dst (.opt g v) α) H hist ((k,eQ P g f xs v)::past) kont
@[go_sem] theorem mN:bD P all [] [] k α H hist past kont=kont α H:=rfl
@[go_sem] theorem aMe(f:Operand)(xs:Array Operand)(ts:Array TypeId):bD P all (.pure w::pp) (⟨dst,.call ⟨.value f,xs,ts⟩,ty,pos,after,none⟩::os) k α H hist past kont=
  tD P true (ev α f) (xs.toList.map (ev α)) H w hist (zP P all pp os k dst α H hist past kont (ev α f) (xs.toList.map (ev α))):=by
 have e:∀v,(fun h=>pureAt P all h ⟨dst,.call ⟨.value f,xs,ts⟩,ty,pos,after,none⟩ α v)=eQ P true (ev α f) (xs.toList.map (ev α)) v:=fun v=>funext fun h=>propext ⟨fun k _=>k,fun k=>k rfl⟩
 show(∃v,(fun h=>pureAt P all h ⟨dst,.call ⟨.value f,xs,ts⟩,ty,pos,after,none⟩ α v) H∧pL w hist (fun h=>pureAt P all h ⟨dst,.call ⟨.value f,xs,ts⟩,ty,pos,after,none⟩ α v)∧bD P all pp os (k+1) (aX dst v α) H hist ((k,fun h=>pureAt P all h ⟨dst,.call ⟨.value f,xs,ts⟩,ty,pos,after,none⟩ α v)::past) kont)=_
 have e':∀v,pureAt P all H ⟨dst,.call ⟨.value f,xs,ts⟩,ty,pos,after,none⟩ α v=eQ P true (ev α f) (xs.toList.map (ev α)) v H:=fun v=>congrFun (e v) H
 simp only[e,e'];rfl
@[go_sem] theorem aK5(r:Operand)(m:String)(xs:Array Operand)(ts:Array TypeId):bD P all (.pure w::pp) (⟨dst,.call ⟨.invoke r m,xs,ts⟩,ty,pos,after,none⟩::os) k α H hist past kont=
  tD P true (cC P m (ev α r)) (xs.toList.map (ev α)) H w hist (zP P all pp os k dst α H hist past kont (cC P m (ev α r)) (xs.toList.map (ev α))):=by
 have e:∀v,(fun h=>pureAt P all h ⟨dst,.call ⟨.invoke r m,xs,ts⟩,ty,pos,after,none⟩ α v)=eQ P true (cC P m (ev α r)) (xs.toList.map (ev α)) v:=fun v=>funext fun h=>propext ⟨fun k _=>k,fun k=>k rfl⟩
 show(∃v,(fun h=>pureAt P all h ⟨dst,.call ⟨.invoke r m,xs,ts⟩,ty,pos,after,none⟩ α v) H∧pL w hist (fun h=>pureAt P all h ⟨dst,.call ⟨.invoke r m,xs,ts⟩,ty,pos,after,none⟩ α v)∧bD P all pp os (k+1) (aX dst v α) H hist ((k,fun h=>pureAt P all h ⟨dst,.call ⟨.invoke r m,xs,ts⟩,ty,pos,after,none⟩ α v)::past) kont)=_
 have e':∀v,pureAt P all H ⟨dst,.call ⟨.invoke r m,xs,ts⟩,ty,pos,after,none⟩ α v=eQ P true (cC P m (ev α r)) (xs.toList.map (ev α)) v H:=fun v=>congrFun (e v) H
 simp only[e,e'];rfl
@[go_sem] theorem aK6(f:Operand)(xs:Array Operand)(ts:Array TypeId)(j:Nat)(w0:Bool):bD P all (.pure w::pp) (⟨dst,.call ⟨.value f,xs,ts⟩,ty,pos,after,some (j,w0)⟩::os) k α H hist past kont=
  (kJ (aC α (bB all j))∧bS (aJ (aC α (bB all j)) w0) α (f::xs.toList)∧
   tD P (aJ (aC α (bB all j)) w0) (cN α f) (xs.toList.map (cN α)) H w hist (aC8 P all pp os k dst (aJ (aC α (bB all j)) w0) α H hist past kont (cN α f) (xs.toList.map (cN α)))):=by
 refine propext ⟨?_,?_⟩
 ·rintro⟨v,⟨h1,h2,u,h3,rfl⟩,h4,h5⟩;have e:(fun h=>pureAt P all h ⟨dst,.call ⟨.value f,xs,ts⟩,ty,pos,after,some (j,w0)⟩ α (.opt (aJ (aC α (bB all j)) w0) u))=eQ P (aJ (aC α (bB all j)) w0) (cN α f) (xs.toList.map (cN α)) u:=
   funext fun h=>propext ⟨fun⟨_,_,u',k1,k2⟩=>by cases k2;exact k1,fun k1=>⟨h1,h2,u,k1,rfl⟩⟩
  rw[e]at h4 h5;exact⟨h1,h2,u,h3,h4,h5⟩
 ·rintro⟨h1,h2,u,h3,h4,h5⟩;have e:(fun h=>pureAt P all h ⟨dst,.call ⟨.value f,xs,ts⟩,ty,pos,after,some (j,w0)⟩ α (.opt (aJ (aC α (bB all j)) w0) u))=eQ P (aJ (aC α (bB all j)) w0) (cN α f) (xs.toList.map (cN α)) u:=
   funext fun h=>propext ⟨fun⟨_,_,u',k1,k2⟩=>by cases k2;exact k1,fun k1=>⟨h1,h2,u,k1,rfl⟩⟩
  refine⟨_,⟨h1,h2,u,h3,rfl⟩,?_,?_⟩
  ·show pL w hist (fun h=>pureAt P all h ⟨dst,.call ⟨.value f,xs,ts⟩,ty,pos,after,some (j,w0)⟩ α (.opt (aJ (aC α (bB all j)) w0) u))
   rw[e];exact h4
  ·show bD P all pp os (k+1) _ H hist ((k,fun h=>pureAt P all h ⟨dst,.call ⟨.value f,xs,ts⟩,ty,pos,after,some (j,w0)⟩ α (.opt (aJ (aC α (bB all j)) w0) u))::past) kont
   rw[e];exact h5
def aC9(P:Program)(all:List Oper)(pp:List Pl)(os:List Oper)(k:Nat)(fs:List Bool)(dst:Option Tmp)(g:Bool)(α:AF)(H:AHeap)(hist:List AHeap)(past:fC)(kont:AF→AHeap→Prop):AV→AHeap→Prop:=
 fun v H1=>pK fs past H1∧bD P all pp os (k+1) (aX dst (.opt g v) α) H1 (H::hist) (fM fs past) kont
def aDa(P:Program)(all:List Oper)(pp:List Pl)(os:List Oper)(k:Nat)(fs:List Bool)(dst:Option Tmp)(α:AF)(H:AHeap)(hist:List AHeap)(past:fC)(kont:AF→AHeap→Prop):AV→AHeap→Prop:=
 fun v H1=>pK fs past H1∧bD P all pp os (k+1) (aX dst v α) H1 (H::hist) (fM fs past) kont
@[go_sem] theorem aMf(f:Operand)(xs:Array Operand)(ts:Array TypeId):bD P all (.eff fs::pp) (⟨dst,.call ⟨.value f,xs,ts⟩,ty,pos,after,none⟩::os) k α H hist past kont=
  aAS P true (ev α f) (xs.toList.map (ev α)) H (aDa P all pp os k fs dst α H hist past kont):=
 propext ⟨fun⟨v,H1,h1,h2⟩=>⟨v,H1,fun _=>h1,fun h=>(by cases h),h2⟩,fun⟨v,H1,h1,_,h2⟩=>⟨v,H1,h1 rfl,h2⟩⟩
@[go_sem] theorem aK7(f:Operand)(xs:Array Operand)(ts:Array TypeId)(j:Nat)(w0:Bool):bD P all (.eff fs::pp) (⟨dst,.call ⟨.value f,xs,ts⟩,ty,pos,after,some (j,w0)⟩::os) k α H hist past kont=
  (kJ (aC α (bB all j))∧bS (aJ (aC α (bB all j)) w0) α (f::xs.toList)∧
   aAS P (aJ (aC α (bB all j)) w0) (cN α f) (xs.toList.map (cN α)) H (aC9 P all pp os k fs dst (aJ (aC α (bB all j)) w0) α H hist past kont)):=
 propext ⟨fun⟨_,H1,⟨h1,h2,u,h3,h4,rfl⟩,h5⟩=>⟨h1,h2,u,H1,h3,h4,h5⟩,fun⟨h1,h2,u,H1,h3,h4,h5⟩=>⟨_,H1,⟨h1,h2,u,h3,h4,rfl⟩,h5⟩⟩
@[go_sem] theorem aNt(x y z:Operand):bD P all (.free::pp) (⟨dst,.pick x y z,ty,pos,after,none⟩::os) k α H hist past kont=
  ((cV true (ev α x) (ev α y) (ev α z)).s∧bD P all pp os (k+1) (aX dst (cV true (ev α x) (ev α y) (ev α z)).v α) H hist past kont):=
 propext ⟨fun⟨_,⟨h1,e⟩,x⟩=>⟨h1,e▸x⟩,fun⟨h1,x⟩=>⟨_,⟨h1,rfl⟩,x⟩⟩
@[go_sem] theorem aMg(x y z:Operand)(j:Nat)(w0:Bool):bD P all (.free::pp) (⟨dst,.pick x y z,ty,pos,after,some (j,w0)⟩::os) k α H hist past kont=
  (kJ (aC α (bB all j))∧((aJ (aC α (bB all j)) w0)=true→(cV (aJ (aC α (bB all j)) w0) (ev α x) (ev α y) (ev α z)).s)∧
    bD P all pp os (k+1) (aX dst (.opt (aJ (aC α (bB all j)) w0) (cV (aJ (aC α (bB all j)) w0) (ev α x) (ev α y) (ev α z)).v) α) H hist past kont):=
 propext ⟨fun⟨_,⟨h1,h2,e⟩,x⟩=>⟨h1,h2,e▸x⟩,fun⟨h1,h2,x⟩=>⟨_,⟨h1,h2,rfl⟩,x⟩⟩
def aN9(g:Bool)(v:AV):AV:=.opt g v
attribute [go_sem] aN9
section
variable (op:Op) (h:eG op=true) (j:Nat) (w0:Bool) (v:AV)
include h
theorem qS:pureAt P all H ⟨dst,op,ty,pos,after,none⟩ α v=((aF P op (ev α) H).s∧(aF P op (ev α) H).H=H∧v=(aF P op (ev α) H).v):=by
 cases op<;>first|rfl|(cases h;done)|skip
 rename_i c;obtain⟨ce,xs,ts⟩:=c;cases ce<;>first|rfl|cases h
theorem oX:pureAt P all H ⟨dst,op,ty,pos,after,some (j,w0)⟩ α v=(kJ (aC α (bB all j))∧bS (aJ (aC α (bB all j)) w0) α (jS op)∧((aJ (aC α (bB all j)) w0)=true→(aF P op (cN α) H).s∧(aF P op (cN α) H).H=H)∧v=.opt (aJ (aC α (bB all j)) w0) (aF P op (cN α) H).v):=by
 cases op<;>first|rfl|(cases h;done)|skip
 rename_i c;obtain⟨ce,xs,ts⟩:=c;cases ce<;>first|rfl|cases h
@[go_sem] theorem aOa:bD P all (.free::pp) (⟨dst,op,ty,pos,after,none⟩::os) k α H hist past kont=
  ((aF P op (ev α) H).s∧(aF P op (ev α) H).H=H∧bD P all pp os (k+1) (aX dst (aF P op (ev α) H).v α) H hist past kont):=by
 simp only[bD,qS (h:=h)];exact exF
@[go_sem] theorem aNu:bD P all (.free::pp) (⟨dst,op,ty,pos,after,some (j,w0)⟩::os) k α H hist past kont=
  (kJ (aC α (bB all j))∧bS (aJ (aC α (bB all j)) w0) α (jS op)∧((aJ (aC α (bB all j)) w0)=true→(aF P op (cN α) H).s∧(aF P op (cN α) H).H=H)∧bD P all pp os (k+1) (aX dst (.opt (aJ (aC α (bB all j)) w0) (aF P op (cN α) H).v) α) H hist past kont):=by
 simp only[bD,oX (h:=h)];exact exG
@[go_sem] theorem aOb:bD P all (.pure w::pp) (⟨dst,op,ty,pos,after,none⟩::os) k α H hist past kont=
  ((aF P op (ev α) H).s∧(aF P op (ev α) H).H=H∧pL w hist (fun h=>(aF P op (ev α) h).s∧(aF P op (ev α) h).H=h∧(aF P op (ev α) H).v=(aF P op (ev α) h).v)∧
    bD P all pp os (k+1) (aX dst (aF P op (ev α) H).v α) H hist ((k,fun h=>(aF P op (ev α) h).s∧(aF P op (ev α) h).H=h∧(aF P op (ev α) H).v=(aF P op (ev α) h).v)::past) kont):=by
 simp only[bD,qS (h:=h)];exact exP
@[go_sem] theorem aNv:bD P all (.pure w::pp) (⟨dst,op,ty,pos,after,some (j,w0)⟩::os) k α H hist past kont=
  (kJ (aC α (bB all j))∧bS (aJ (aC α (bB all j)) w0) α (jS op)∧((aJ (aC α (bB all j)) w0)=true→(aF P op (cN α) H).s∧(aF P op (cN α) H).H=H)∧
   pL w hist (fun h=>kJ (aC α (bB all j))∧bS (aJ (aC α (bB all j)) w0) α (jS op)∧((aJ (aC α (bB all j)) w0)=true→(aF P op (cN α) h).s∧(aF P op (cN α) h).H=h)∧AV.opt (aJ (aC α (bB all j)) w0) (aF P op (cN α) H).v=.opt (aJ (aC α (bB all j)) w0) (aF P op (cN α) h).v)∧
   bD P all pp os (k+1) (aX dst (.opt (aJ (aC α (bB all j)) w0) (aF P op (cN α) H).v) α) H hist ((k,fun h=>kJ (aC α (bB all j))∧bS (aJ (aC α (bB all j)) w0) α (jS op)∧((aJ (aC α (bB all j)) w0)=true→(aF P op (cN α) h).s∧(aF P op (cN α) h).H=h)∧AV.opt (aJ (aC α (bB all j)) w0) (aF P op (cN α) H).v=.opt (aJ (aC α (bB all j)) w0) (aF P op (cN α) h).v)::past) kont):=by
 simp only[bD,oX (h:=h)];exact exQ
theorem aDb(H1:AHeap):aC7 P all ⟨dst,op,ty,pos,after,none⟩ α H v H1=((aF P op (ev α) H).s∧v=(aF P op (ev α) H).v∧H1=(aF P op (ev α) H).H):=by
 cases op<;>first|rfl|(cases h;done)|skip
 rename_i c;obtain⟨ce,xs,ts⟩:=c;cases ce<;>first|rfl|cases h
theorem aBB(H1:AHeap):aC7 P all ⟨dst,op,ty,pos,after,some (j,w0)⟩ α H v H1=((kJ (aC α (bB all j))∧bS (aJ (aC α (bB all j)) w0) α (jS op)∧((aJ (aC α (bB all j)) w0)=true→(aF P op (cN α) H).s))∧v=.opt (aJ (aC α (bB all j)) w0) (aF P op (cN α) H).v∧H1=(bif (aJ (aC α (bB all j)) w0)then(aF P op (cN α) H).H else H)):=by
 cases op<;>first|rfl|(cases h;done)|skip
 rename_i c;obtain⟨ce,xs,ts⟩:=c;cases ce<;>first|rfl|cases h
@[go_sem] theorem aOc:bD P all (.eff fs::pp) (⟨dst,op,ty,pos,after,none⟩::os) k α H hist past kont=
  ((aF P op (ev α) H).s∧pK fs past (aF P op (ev α) H).H∧bD P all pp os (k+1) (aX dst (aF P op (ev α) H).v α) (aF P op (ev α) H).H (H::hist) (fM fs past) kont):=by
 simp only[bD,aDb (h:=h)];exact exE (X:=fun v H1=>bD P all pp os (k+1) (aX dst v α) H1 (H::hist) (fM fs past) kont)
@[go_sem] theorem aNw:bD P all (.eff fs::pp) (⟨dst,op,ty,pos,after,some (j,w0)⟩::os) k α H hist past kont=
  ((kJ (aC α (bB all j))∧bS (aJ (aC α (bB all j)) w0) α (jS op)∧((aJ (aC α (bB all j)) w0)=true→(aF P op (cN α) H).s))∧pK fs past (bif (aJ (aC α (bB all j)) w0)then(aF P op (cN α) H).H else H)∧
    bD P all pp os (k+1) (aX dst (.opt (aJ (aC α (bB all j)) w0) (aF P op (cN α) H).v) α) (bif (aJ (aC α (bB all j)) w0)then(aF P op (cN α) H).H else H) (H::hist) (fM fs past) kont):=by
 simp only[bD,aBB (h:=h)];exact exE (X:=fun v H1=>bD P all pp os (k+1) (aX dst v α) H1 (H::hist) (fM fs past) kont)
end
end
@[go_sem] theorem aK8(all os:List Oper)(pp:List Pl)(k:Nat)(fs:List Bool)(dst:Option Tmp)(g:Bool)(α:AF)(H:AHeap)(hist:List AHeap)(past:fC)(kont:AF→AHeap→Prop)(v:AV)(H1:AHeap):
  aC9 P all pp os k fs dst g α H hist past kont v H1=(pK fs past H1∧bD P all pp os (k+1) (aX dst (.opt g v) α) H1 (H::hist) (fM fs past) kont):=rfl
@[go_sem] theorem aK9(all os:List Oper)(pp:List Pl)(k:Nat)(fs:List Bool)(dst:Option Tmp)(α:AF)(H:AHeap)(hist:List AHeap)(past:fC)(kont:AF→AHeap→Prop)(v:AV)(H1:AHeap):
  aDa P all pp os k fs dst α H hist past kont v H1=(pK fs past H1∧bD P all pp os (k+1) (aX dst v α) H1 (H::hist) (fM fs past) kont):=rfl
theorem tE{g:Bool}{f:FuncId}{args:List AV}{x:AV}{h:AHeap}(hf:∀h,bJ P f args h x)(ok:cF P f=true):eQ P g (.func (.func f) [] []) args x h:=
 fun _=>Or.inl ⟨ok,by simp only[zAJ,zAj];exact hf h⟩
theorem eX{g:Bool}{f:FuncId}{first args cap:List AV}{H:AHeap}{x:AV}{w:Nat}{hist:List AHeap}{K:AV→Prop}(hf:∀h,bJ P f (first++args++cap) h x)(ok:cF P f=true)(hk:K x):tD P g (.func (.func f) first cap) args H w hist K:=by
 have hc:∀h,eQ P g (.func (.func f) first cap) args x h:=fun h _=>Or.inl ⟨ok,hf h⟩
 refine⟨x,hc H,?_,hk⟩;have:∀(w:Nat) (hs:List AHeap),pL w hs (eQ P g (.func (.func f) first cap) args x):=by
  intro w;induction w with
  |zero=>intro hs;trivial
  |succ w ih=>intro hs;cases hs with
   |nil=>trivial
   |cons h hs=>exact⟨hc h,ih hs⟩
 exact this w hist
theorem dE{g:Bool}{f:FuncId}{args:List AV}{H:AHeap}{x:AV}{w:Nat}{hist:List AHeap}{K:AV→Prop}(hf:∀h,bJ P f args h x)(ok:cF P f=true)(hk:K x):tD P g (.func (.func f) [] []) args H w hist K:=by
 refine⟨x,tE hf ok,?_,hk⟩;have:∀(w:Nat) (hs:List AHeap),pL w hs (eQ P g (.func (.func f) [] []) args x):=by
  intro w;induction w with
  |zero=>intro hs;trivial
  |succ w ih=>intro hs;cases hs with
   |nil=>trivial
   |cons h hs=>exact⟨tE hf ok,ih hs⟩
 exact this w hist
end
section
attribute [go_sem] aAM aC4 zH zI zP aC8 aG7 TypeDesc.isAgg Option.isSome_some Option.isSome_none Bool.false_eq_true Bool.true_eq_false not_true_eq_false not_false_eq_true true_and and_true and_self List.getElem?_toArray List.getElem?_cons_zero List.getElem?_cons_succ List.getElem?_nil List.length_map List.append_eq List.range_zero List.cons_append List.nil_append Nat.one_ne_zero implies_true
attribute [go_sem] Nat.reduceEqDiff Nat.reduceAdd Nat.reduceSub Nat.reduceMul Nat.reduceLeDiff Nat.reduceLT Nat.reduceBEq Int.reduceNeg Int.reduceLE Int.reduceLT Int.reduceToNat String.reduceEq
attribute [go_sem ↓] reduceIte
section
variable {P:Program} {f:FuncId} {args:List AV} {x:AV} {H:AHeap}
theorem cK{k:AV→AHeap→Prop}(h:∀H,bJ P f args H x)(ok:cF P f=true)(hk:k x H):gZ P (.func (.func f) [] []) args H k:=cS (h H) ok hk
theorem cP{g:Bool}{k:AV→Prop}(h:∀H,bJ P f args H x)(ok:cF P f=true)(hk:k x):gO P g (.func (.func f) [] []) args H k:=dB (h H) ok hk
theorem cM{g:Bool}{w:Nat}{hist:List AHeap}{k:AV→Prop}(h:∀H,bJ P f args H x)(ok:cF P f=true)(hk:k x):tD P g (.func (.func f) [] []) args H w hist k:=dE (fun H=>h H) ok hk
theorem tF{g:Bool}(h:bJ P f args H x)(ok:cF P f=true):eQ P g (.func (.func f) [] []) args x H:=
 fun _=>Or.inl ⟨ok,by simp only[zAJ,zAj];exact h⟩
end
def isE:Code→Bool
 |.skip|.ret|.exit _|.label _=>true
 |_=>false
def aDc:Code→Exit
 |.ret=>.ret
 |.exit i=>.exit i
 |_=>.normal
theorem aE{P:Program}{N:Nat}{c:Code}{Q:aT}{α:AF}{H:AHeap}(hc:isE c=true)(h:Q (aDc c) α H):aw P N c Q α H:=by
 cases c<;>first
  |exact aE2 h
  |exact aNR h
  |exact aM6 h
  |exact aLn h
  |cases hc
@[go_sem] theorem aLa:aDc .skip=.normal:=rfl
@[go_sem] theorem aMh:aDc .ret=.ret:=rfl
@[go_sem] theorem aLb(i:Nat):aDc (.exit i)=.exit i:=rfl
@[go_sem] theorem aIU(i:Nat):aDc (.label i)=.normal:=rfl
section
variable {P:Program} {f:FuncId} {fn:Func} {code:Code} {args:List AV} {H:AHeap} {x:AV} {R:AV→AHeap→Prop}
theorem fO(hf:P.funcs[f]?=some fn)(h:aw P fn.ntmps code (lN P fn.results.toList fun v H'=>∃L y,H'=H++L∧Frz H.length H' v y∧y=x) (cG 0 args) H)(hb:fn.body=some code:=by rfl)(hn:args.length≤fn.ntmps:=by exact zAP rfl):bJ P f args H x:=aIO hf hb hn h
theorem aO(hf:P.funcs[f]?=some fn)(h:aw P fn.ntmps code (lN P fn.results.toList fun v H'=>∃H1 L y,H'=H1++L∧H1.length=H.length∧(∀(i:Nat) (b:ABlk),H1[i]?=some b→H[i]?=some b∨ClB H.length b)∧Frz H.length H' v y∧R y H1) (cG 0 args) H)(hb:fn.body=some code:=by rfl)(hn:args.length≤fn.ntmps:=by exact zAP rfl):ACalls P f args H R:=aBA hf hb hn h
theorem aQ(hf:P.funcs[f]?=some fn)(h:aw P fn.ntmps code (lN P fn.results.toList fun v H'=>∃H1 L y,H'=H1++L∧H.length≤H1.length∧(∀(i:Nat) (b:ABlk),H1[i]?=some b→H[i]?=some b∨ClB H1.length b)∧Frz H1.length H' v y∧R y H1) (cG 0 args) H)(hb:fn.body=some code:=by rfl)(hn:args.length≤fn.ntmps:=by exact zAP rfl):ACalls P f args H R:=wM hf hb hn h
theorem aW(hf:P.funcs[f]?=some fn)(h:aw P fn.ntmps code (lN P fn.results.toList R) (cG 0 args) H)(hb:fn.body=some code:=by rfl)(hn:args.length≤fn.ntmps:=by exact zAP rfl):ACalls P f args H R:=fG hf hb hn h
end
theorem dY{n:Nat}{H L:AHeap}{v x:AV}(hs:Sim v x)(hp:Pur v:=by simp only[go_sem]):∃L' y,H++L=H++L'∧Frz n (H++L) v y∧y=x:=done hp hs
theorem cU{n:Nat}{H:AHeap}{v x:AV}(hs:Sim v x)(hp:Pur v:=by simp only[go_sem]):∃L' y,H=H++L'∧Frz n H v y∧y=x:=aHo hp hs
theorem dT{p:Prop}[Decidable p](h:p:=by omega):decide p=true:=zAg h
theorem dF{p:Prop}[Decidable p](h:¬p:=by omega):decide p=false:=zAh h
theorem wI{n:Int}(h1: -9223372036854775808≤n:=by omega)(h2:n≤9223372036854775807:=by omega):IntKind.i64.wrap n=n:=wrap_i64 h1 h2
theorem gQ{p q c:Prop}(h:c)(k:q)(t:c→q→p:=by first|exact fun h k=>cK h cO k|exact fun h k=>cP h cO k|exact fun h k=>cM h cO k):p:=t h k
theorem gS{p q:Prop}(k:q)(t:q→p:=by first|exact fun k=>kP (.bool false) k|exact fun k=>gV rfl k|exact fun k=>hC rC rfl (by kernel_rfl) k|exact fun k=>aE rfl k|exact fun k=>cK (by assumption) cO k|exact fun k=>cP (by assumption) cO k|exact fun k=>cM (by assumption) cO k):p:=t k
theorem gC{p q g:Prop}(k:q)(e:(p∧q)=g:=by with_reducible rfl)(t:p:=by first|exact tF ((by assumption:∀H,bJ _ _ _ H _) _) cO|omega|(intros;simp_all;done)|(simp;omega)):g:=e▸⟨t,k⟩
theorem gC2{p q r g:Prop}(k:q∧r)(e:((p∧q)∧r)=g:=by with_reducible rfl)(t:p:=by exact tF ((by assumption:∀H,bJ _ _ _ H _) _) cO):g:=e▸⟨⟨t,k.1⟩,k.2⟩
theorem gA{p q:Prop}(k:q)(t:q→p:=by first|exact fun k=>aAN k|exact fun k=>aAO k|exact fun k=>aCy k|exact fun k=>aCz k|exact fun k=>wK k|exact fun k=>gC k|exact fun k=>gC2 k):p:=t k
theorem gD{P:Program}{N:Nat}{x:Operand}{y z:Code}{b:Bool}{Q:aT}{α:AF}{H:AHeap}(h1:b=true→aw P N y Q α H)(h2:b=false→aw P N z Q α H)(hx:ev α x=.bool b:=by exact rfl):aw P N (.cond x y z) Q α H:=cJ hx h1 h2
theorem gT{p r q:Prop}(h:q→r)(t:r→p:=by first|exact fun k=>kP (.bool false) k|exact fun k=>gV rfl k|exact fun k=>hC rC rfl (by kernel_rfl) k|exact fun k=>aE rfl k|exact fun k=>cK (by assumption) cO k|exact fun k=>cP (by assumption) cO k|exact fun k=>cM (by assumption) cO k):q→p:=fun k=>t (h k)
theorem gU{p r q:Prop}(h:q→r)(t:r→p:=by first|exact fun k=>aAN k|exact fun k=>aAO k|exact fun k=>aCy k|exact fun k=>aCz k|exact fun k=>wK k|exact fun k=>gC k|exact fun k=>gC2 k):q→p:=fun k=>t (h k)
theorem gG{p q:Prop}(k:q)(t:q→p:=by(repeat' first|(refine gT ?_;simp only[go_sem])|refine gU ?_|fail);exact fun k=>k):p:=t k
theorem gH{p q:Prop}(k:q)(t:q→p:=by(repeat' first|(refine gT ?_;simp only[go_sem, *])|refine gU ?_|fail);exact fun k=>k):p:=t k
theorem gK{c p q:Prop}(e:c)(k:q)(t:c→q→p:=by intro e;(repeat' first|(refine gT ?_;simp only[go_sem, *])|refine gU ?_|fail);exact fun k=>k):p:=t e k
theorem aD{a b:Bool}{p:Prop}(h:a=b)(t:a=b→False:=by intro h;first|(simp at h;done)|(simp at h;omega)):p:=(t h).elim
theorem mx{P:Program}{N id:Nat}{ops:Array Oper}{Q:aT}{α:AF}{H:AHeap}(ids:List Nat)(plan:List Pl)(h:bD P ops.toList plan ops.toList 0 α H [] [] (fun α' H'=>Q .normal α' H'))(hi:ids.contains id=true:=by rfl)(hm:P.follows .mixedOrders=true:=by exact rC)(hd:gI N ops=true:=by rfl)
  (hB:Region.lexB .any ops=true:=by kernel_rfl) (hp:(jB ops ops.toList plan 0 [] []&&gJ ops (fH plan 0))=true:=by kernel_rfl):aw P N (.region id ops true) Q α H:=lT plan hm hd hB hp h
end
section
abbrev Txt:=List UInt8
structure Stm where
 c:Int
 r:Int
deriving DecidableEq,Inhabited
structure Opn where
 at_:Stm
 kind:Int
 node:Int
 parent:Int
 name:Txt
 data:Txt
deriving DecidableEq,Inhabited
structure Nd where
 id:Int
 parent:Int
 name:Txt
 moved:Stm
 data:Txt
 wrote:Stm
deriving DecidableEq,Inhabited
structure Und where
 did:Bool
 had:Bool
 was:Nd
deriving DecidableEq,Inhabited
structure Ent where
 op:Opn
 undo:Und
deriving DecidableEq,Inhabited
structure Lg where
 entries:List Ent
 nodes:List Nd
deriving DecidableEq,Inhabited
def st0:Stm:=⟨0,0⟩
def nd0:Nd:=⟨0,0,[],st0,[],st0⟩
def aOd:Und:=⟨false,false,nd0⟩
def stA(s:Stm):AV:=.agg [.int .i64 s.c,.int .i64 s.r]
def opA(o:Opn):AV:=.agg [.int .i64 o.at_.c,.int .i64 o.at_.r,.int .i64 o.kind,.int .i64 o.node,.int .i64 o.parent,.str o.name,.str o.data]
def ndA(n:Nd):AV:=.agg [.int .i64 n.id,.int .i64 n.parent,.str n.name,.int .i64 n.moved.c,.int .i64 n.moved.r,.str n.data,.int .i64 n.wrote.c,.int .i64 n.wrote.r]
def unA(u:Und):AV:=.agg [.bool u.did,.bool u.had,.int .i64 u.was.id,.int .i64 u.was.parent,.str u.was.name,.int .i64 u.was.moved.c,.int .i64 u.was.moved.r,.str u.was.data,.int .i64 u.was.wrote.c,.int .i64 u.was.wrote.r]
def enA(e:Ent):AV:=.agg [.int .i64 e.op.at_.c,.int .i64 e.op.at_.r,.int .i64 e.op.kind,.int .i64 e.op.node,.int .i64 e.op.parent,.str e.op.name,.str e.op.data,
 .bool e.undo.did,.bool e.undo.had,.int .i64 e.undo.was.id,.int .i64 e.undo.was.parent,.str e.undo.was.name,.int .i64 e.undo.was.moved.c,.int .i64 e.undo.was.moved.r,.str e.undo.was.data,.int .i64 e.undo.was.wrote.c,.int .i64 e.undo.was.wrote.r]
def sG(n:Int):AV:=.int .i64 n
def lgF(f1 f2:Bool)(g:Lg):AV:=.agg [.sl f1 (g.entries.map enA),.sl f2 (g.nodes.map ndA)]
def lgA(g:Lg):AV:=lgF false false g
@[go_sem] theorem aOf(x:Stm):Pur (stA x)=True:=by simp only[stA,go_sem]
@[go_sem] theorem aOg(x:Opn):Pur (opA x)=True:=by simp only[opA,go_sem]
@[go_sem] theorem aOh(x:Nd):Pur (ndA x)=True:=by simp only[ndA,go_sem]
@[go_sem] theorem aOi(x:Und):Pur (unA x)=True:=by simp only[unA,go_sem]
@[go_sem] theorem aOj(x:Ent):Pur (enA x)=True:=by simp only[enA,go_sem]
@[go_sem] theorem aOk(x:Int):Pur (sG x)=True:=by simp only[sG,go_sem]
@[go_sem] theorem aOl(f1 f2:Bool)(x:Lg):Pur (lgF f1 f2 x)=True:=by simp only[lgF,go_sem]
@[go_sem] theorem aOm(x:Lg):Pur (lgA x)=True:=by simp only[lgA,go_sem]
theorem bO{α:Type}(g:α→AV){l:List α}{i:Nat}(h:i<l.length):(l.map g).getD i .top=g l[i]:=by
 rw[zAm,zAY,zAd h];rfl
end
section
def aHq(_:List (Nat×List Pl)):Prop:=True
theorem pT(l:List (Nat×List Pl)):aHq l:=trivial
theorem mxT{P:Program}{N id:Nat}{ops:Array Oper}{Q:aT}{α:AF}{H:AHeap}{l:List (Nat×List Pl)}{plan:List Pl}(_:aHq l)(h:bD P ops.toList plan ops.toList 0 α H [] [] (fun α' H'=>Q .normal α' H'))(_:l.lookup id=some plan:=by rfl)(hm:P.follows .mixedOrders=true:=by exact rC)(hd:gI N ops=true:=by rfl)
  (hB:Region.lexB .any ops=true:=by kernel_rfl) (hp:(jB ops ops.toList plan 0 [] []&&gJ ops (fH plan 0))=true:=by kernel_rfl):aw P N (.region id ops true) Q α H:=lT plan hm hd hB hp h
theorem gE{P:Program}{N:Nat}{x:Operand}{y z:Code}{b:Bool}{Q:aT}{α:AF}{H:AHeap}(k:aw P N y Q α H)(hx:ev α x=.bool b:=by exact rfl)(t:b=false→False:=by intro h;first|(simp at h;done)|(simp at h;omega)):aw P N (.cond x y z) Q α H:=cJ hx (fun _=>k) fun h=>(t h).elim
theorem gF{P:Program}{N:Nat}{x:Operand}{y z:Code}{b:Bool}{Q:aT}{α:AF}{H:AHeap}(k:aw P N z Q α H)(hx:ev α x=.bool b:=by exact rfl)(t:b=true→False:=by intro h;first|(simp at h;done)|(simp at h;omega)):aw P N (.cond x y z) Q α H:=cJ hx (fun h=>(t h).elim) fun _=>k
theorem hT{p q:Prop}(k:q)(t:q→p:=by first|exact fun k=>kP (.bool false) k|exact fun k=>mxT (by assumption) k|exact fun k=>gV rfl k|exact fun k=>hC rC rfl (by kernel_rfl) k|exact fun k=>aE rfl k|exact fun k=>cK (by assumption) cO k|exact fun k=>cP (by assumption) cO k|exact fun k=>cM (by assumption) cO k):p:=t k
theorem hU{p q:Prop}(k:q)(t:q→p:=by first|exact fun k=>gA k|exact fun k=>gE k|exact fun k=>gF k|fail):p:=t k
theorem hG{p q:Prop}(k:q)(t:q→p:=by intro k;(first|(refine hT ?_;simp only[go_sem])|refine hU ?_|fail);(repeat' first|(refine hT ?_;simp only[go_sem])|refine hU ?_|fail);exact k):p:=t k
structure Hid (q:Prop):Prop where
 get:q
theorem hH{p q:Prop}(k:q)(t:Hid q→p:=by intro k;(first|(refine hT ?_;simp only[go_sem,decide_true,zBV, *])|refine hU ?_|fail);(repeat' first|(refine hT ?_;simp only[go_sem,decide_true,zBV, *])|refine hU ?_|fail);exact k.get):p:=t ⟨k⟩
theorem hK{c p q:Prop}(e:c)(k:q)(t:c→Hid q→p:=by intro e;intro k;(first|(refine hT ?_;simp only[go_sem,decide_true,zBV, *])|refine hU ?_|fail);(repeat' first|(refine hT ?_;simp only[go_sem,decide_true,zBV, *])|refine hU ?_|fail);exact k.get):p:=t e ⟨k⟩
theorem hJ{a b:Prop}(h:a)(k:b):a∧b:=⟨h,k⟩
end
section
variable {P:Program}
def oY:List Nat→List AV→AF→AF
 |p::ps,v::vs,α=>oY ps vs ((p,v)::α)
 |_,_,α=>α
theorem tG{c:Ctx}{N:Nat}:∀(ps:List Nat) (us:List Value) (vs:List AV) (α:AF) (ts:Array Value),us.length=vs.length→ps.length=vs.length→(∀p∈ps,p<N)→ts.size=N→
  (∀(i:Nat) (x:AV) (v:Value),vs[i]?=some x→us[i]?=some v→Rep c x v)→(∀t,Rep c (look α t) (ts.getD t undef))→
  ((ps.zip us).foldl (fun tmps (t,a)=>tmps.setIfInBounds t a) ts).size=N∧∀t,Rep c (look (oY ps vs α) t) (((ps.zip us).foldl (fun tmps (t,a)=>tmps.setIfInBounds t a) ts).getD t undef)
 |[],us,vs,α,ts,_,_,_,hN,_,h=>by simp only[List.zip_nil_left,List.foldl_nil];exact⟨hN,by cases vs<;>exact h⟩
 |p::ps,[],vs,α,ts,h1,h2,_,_,_,_=>by simp at h1 h2;omega
 |p::ps,u::us,[],α,ts,h1,_,_,_,_,_=>by simp at h1
 |p::ps,u::us,v::vs,α,ts,h1,h2,hp,hN,hr,h=>by
  simp only[List.zip_cons_cons,List.foldl_cons,oY];refine tG ps us vs ((p,v)::α) (ts.setIfInBounds p u) (by simpa using h1) (by simpa using h2) (fun q hq=>hp q (by simp[hq])) (by simpa using hN) (fun i x w a b=>hr (i+1) x w (by simpa using a) (by simpa using b)) fun t=>?_
  have hlt:p<ts.size:=by rw[hN];exact hp p (by simp)
  simp only[look];by_cases hpt:p=t
  ·subst hpt;simp only[beq_self_eq_true,cond_true];have:=hr 0 v u rfl rfl;simpa[hlt]using this
  ·have hb:(p==t)=false:=by simp[hpt]
   rw[hb,zCc];simp_all
def jU(i:Nat)(LB:ABlk)(fin:Bool→Option Code→ABlk)(H0:AHeap)(R:AV→AHeap→Prop)(go:Bool)(pe:Option Code)(H:AHeap):Prop:=
 hget H i=LB∧∃H1 L,H=H1++L∧H1.length=H0.length∧(∀(j:Nat) (b:ABlk),H1[j]?=some b→H0[j]?=some b∨ClB H0.length b)∧R (.bool go) (aA H1 i (fin go pe))
def oE(i:Nat)(LB:ABlk)(fin:Bool→Option Code→ABlk)(H0:AHeap)(R:AV→AHeap→Prop):aT
 |.normal,_,H=>jU i LB fin H0 R true none H
 |.ret,_,H=>jU i LB fin H0 R false (some .ret) H
 |.exit id,_,H=>jU i LB fin H0 R false (some (.exit id)) H
 |_,_,_=>False
def uT(P:Program)(N i:Nat)(bd:Code)(LR LB:ABlk)(fin:Bool→Option Code→ABlk)(H0:AHeap)(R:AV→AHeap→Prop):aT
 |.normal,β,H=>hget H i=LR∧aw P N bd (oE i LB fin (aA H0 i LB) R) β (aA H i LB)
 |_,_,_=>False
section
variable (N i:Nat) (bd:Code) (LR LB:ABlk) (fin:Bool→Option Code→ABlk) (H0:AHeap) (R:AV→AHeap→Prop) (β:AF) (H:AHeap)
@[go_sem] theorem aEP:oE i LB fin H0 R .normal β H=jU i LB fin H0 R true none H:=rfl
@[go_sem] theorem aIV:oE i LB fin H0 R .ret β H=jU i LB fin H0 R false (some .ret) H:=rfl
@[go_sem] theorem aHr(id:Nat):oE i LB fin H0 R (.exit id) β H=jU i LB fin H0 R false (some (.exit id)) H:=rfl
@[go_sem] theorem aDd:uT P N i bd LR LB fin H0 R .normal β H=(hget H i=LR∧aw P N bd (oE i LB fin (aA H0 i LB) R) β (aA H i LB)):=rfl
end
theorem St.loop{c:Ctx}{H:AHeap}(h:St c H){i l N:Nat}{α:AF}{st:LoopState}{pe:Option Code}{ps:Array Tmp}{asg bd:Code}(hh:hget H i=.loop l α N st pe ps asg bd):
  i<c.n∧c.ver i=0∧c.vd i=false∧c.blk i=l∧∃fn D ts,c.w.heap[l]?=some (.loop {state:=st,pending:=pe,fn:=fn,tmps:=ts,params:=ps,assign:=asg,body:=bd,defers:=D})∧ts.size=N∧∀t,Rep c (look α t) (ts.getD t undef):=by
 have hs:=eS hh trivial;refine⟨by rw[h.n];exact bC hh trivial,?_⟩
 cases h.rep i _ hs with
 |loop _ _ _ _ _ _ _ _ fn D ts hv hd hl hb hN hr=>grind
theorem qT{c:Ctx}{H:AHeap}(h:St c H){i l N:Nat}{α:AF}{st:LoopState}{pe:Option Code}{ps:Array Tmp}{asg bd:Code}(hh:hget H i=.loop l α N st pe ps asg bd)(st':LoopState)(pe':Option Code){fn D:Nat}{ts:Array Value}
  (hb:c.w.heap[l]?=some (.loop {state:=st,pending:=pe,fn:=fn,tmps:=ts,params:=ps,assign:=asg,body:=bd,defers:=D})):
  Ext c {c with w:=c.w.putObj l (.loop {state:=st',pending:=pe',fn:=fn,tmps:=ts,params:=ps,assign:=asg,body:=bd,defers:=D})}∧
  St {c with w:=c.w.putObj l (.loop {state:=st',pending:=pe',fn:=fn,tmps:=ts,params:=ps,assign:=asg,body:=bd,defers:=D})} (aA H i (.loop l α N st' pe' ps asg bd)):=by
 obtain⟨hin,hv,hd,hl,fn',D',ts',hb',hN,hr⟩:=h.loop hh;rw[hb]at hb';cases hb';have hsome:=eS hh trivial;have hlt:=(zAW.1 hb).1;let o:Obj:=.loop {state:=st',pending:=pe',fn:=fn,tmps:=ts,params:=ps,assign:=asg,body:=bd,defers:=D}
 have hsame:(c.w.putObj l o).heap[c.blk i]?=some o:=by grind [World.putObj_heap_same]
 have hoth:∀b,b≠c.blk i→(c.w.putObj l o).heap[b]?=c.w.heap[b]?:=fun b hne=>World.putObj_heap_other (by rw[←hl];exact hne)
 have hbs:bsize (c.w.putObj l o) (c.blk i)=bsize c.w (c.blk i):=by
  unfold bsize;rw[hsame,hl,hb]
 have hx:Ext c {c with w:=c.w.putObj l o}:=by
  refine⟨zAb _,by simp,fun b hb'=>⟨hb',hoth b fun e=>(h.st b hb').2 i _ hsome trivial hd e.symm⟩,fun _ _=>zAb _,fun j hj _=>⟨rfl,rfl,fun _=>?_⟩,rfl,rfl,rfl,rfl⟩
  by_cases e:c.blk j=c.blk i
  ·simp only[e];exact hbs
  ·simp only[bsize];rw[hoth _ e]
 exact h.update (B':=.loop l α N st' pe' ps asg bd) hsome trivial hd (c.w.putObj l o) (by simp) hoth hbs rfl rfl rfl (.loop l α N st' pe' ps asg bd fn D ts hv hd hl hsame hN fun t=>(hr t).mono hx)
theorem oF{l N i:Nat}{α:AF}{ps:Array Tmp}{asg bd:Code}{vs:List AV}{H:AHeap}{R:AV→AHeap→Prop}{LR:ABlk}(hhR:hget H i=LR)(hLR:LR=.loop l α N .ready none ps asg bd)(hps:ps.size=vs.length)(hpN:(ps.toList.all fun p=>Nat.blt p N)=true)
  (hfa:aHQ asg=true) (hfb:aHQ bd=true) (h:∀(LB:ABlk) (fin:Bool→Option Code→ABlk),LB=.loop l α N .busy none ps asg bd→LB.live→(fin true none=LR)→(∀go pe,fin go pe=.loop l α N (bif go then .ready else .done) pe ps asg bd)→
   aw P N asg (uT P N i bd LR LB fin H R) (oY ps.toList vs α) H):AYield P l vs H R:=by
 have hh:hget H i=.loop l α N .ready none ps asg bd:=hhR.trans hLR;replace h:=h _ (fun go pe=>.loop l α N (bif go then .ready else .done) pe ps asg bd) rfl trivial hLR.symm (fun _ _=>rfl)
 intro c us hst ⟨hul,hur⟩;obtain⟨hin,hv,hd,hl,fn,D,ts,hb,hN,hr⟩:=hst.loop hh;refine⟨fn,_,asg,bd,run_yield hb (by simp;omega),roundIn_of_wpIn (F:=Fence.wide) (n:=0) trivial ?_⟩
 obtain⟨hsz,hrep⟩:=tG (c:=c) (N:=N) ps.toList us.toList vs α ts (by simpa using hul) (by simpa using hps) (fun p hp=>by have:=zAx.1 hpN p hp;simpa[Nat.blt_eq]using this) hN (fun i x v a b=>hur i x v a (by simpa using b)) hr
 have hfold:(ps.zip us).foldl (fun tmps (t,a)=>tmps.setIfInBounds t a) ts=(ps.toList.zip us.toList).foldl (fun tmps (t,a)=>tmps.setIfInBounds t a) ts:=by
  rw[←Array.foldl_toList,Array.toList_zip]
 rw[←hfold]at hsz hrep;have hc:St (c.rebase (c.w.heap.size,[])) H:=hst.rebase _;have ha:ARep (c.rebase (c.w.heap.size,[])) N (oY ps.toList vs α) {tmps:=(ps.zip us).foldl (fun tmps (t,a)=>tmps.setIfInBounds t a) ts,defers:=[]}:=
  ⟨hsz,⟨zAb _,[],rfl,by simp,by simp⟩,fun t=>(hrep t).rebase _⟩
 refine wpIn_mono (h (some l) (c.rebase (c.w.heap.size,[])) _ (.inr hfa) hc ha) fun e a₁ w₁ ⟨c1,β,H1,e1,e2,e3,e4,e5⟩=>?_
 cases e<;>simp only[uT]at e5<;>try exact e5.elim
 obtain⟨hh1,hbody⟩:=e5;rw[hLR]at hh1;subst e1;obtain⟨_,_,_,_,fn1,D1,ts1,hb1, -, -⟩:=e2.loop hh1;obtain⟨x1,s1⟩:=qT e2 hh1 .busy none hb1;refine⟨_,run_beginRound hb1 rfl,?_⟩;refine wpIn_mono (hbody (some l) _ a₁ (.inr hfb) s1 (e4.mono x1)) fun e a₂ w₂ ⟨c2,γ,H2,g1,g2,g3,g4,g5⟩=>?_
 have key:∀(jump:Option Code),jU i (.loop l α N .busy none ps asg bd) (fun go pe=>.loop l α N (bif go then .ready else .done) pe ps asg bd) (aA H i (.loop l α N .busy none ps asg bd)) R jump.isNone jump H2→
   ∃v w',(Instr.endRound l jump).run P c2.w=.ok v w'∧∃c' x u H',Ending.returned v=.returned u∧c'.w=w'∧St c' H'∧Ext c c'∧Rep c' x u∧R x H':=by
  rintro jump ⟨hh2,H3,L,rfl,hlen,hcl,hR⟩;have hlen:H3.length=H.length:=by simpa[aA]using hlen
  have hlenB:(aA H i (.loop l α N .busy none ps asg bd)).length=H.length:=by simp[aA]
  have xx:=(e3.trans x1).trans g3;have hcn:(c.rebase (c.w.heap.size,[])).n=H.length:=hc.n;have hlB:ClB H.length (.loop l α N .busy none ps asg bd):=by
   have:=hst.cl0 (eS hh trivial);rw[hst.n]at this;exact this
  have hdrop:St (c2.drop H.length) H3:=St.dropG hlen.symm g2 fun j b hj=>by
   rcases hcl j b hj with q|q
   ·by_cases hji:j=i
    ·subst hji;rw[aA,zA0 (bC hh trivial)]at q;cases q;exact hlB
    ·rw[aA,zAU (fun e=>hji e.symm)]at q
     have:=hst.cl0 q;rwa[hst.n]at this
   ·rwa[hlenB]at q
  have hh3:hget H3 i=.loop l α N .busy none ps asg bd:=by
   have hlt:i<H3.length:=by rw[hlen];exact bC hh trivial
   simpa[hget,zAm,zAf hlt]using hh2
  obtain⟨_,_,_,_,fn2,D2,ts2,hb2, -, -⟩:=hdrop.loop hh3;obtain⟨x2,s2⟩:=qT hdrop hh3 (if jump.isNone then .ready else .done) jump hb2
  have hst':(if jump.isNone=true then LoopState.ready else LoopState.done)=bif jump.isNone then .ready else .done:=by cases jump<;>rfl
  have yy:=(xx.dropN (n:=H.length) (by rw[hcn];exact zAb _)).trans x2
  refine⟨_,_,run_endRound jump hb2,({c2.drop H.length with w:=_}:Ctx).rebase c.base,.bool jump.isNone,_,_,rfl,rfl,s2.rebase _,?_,.bool _,hst'▸hR⟩
  exact⟨yy.n,yy.size,yy.st,yy.ver,yy.blk,yy.os,yy.tape,yy.output,rfl⟩
 subst g1;cases e<;>simp only[oE]at g5<;>try exact g5.elim
 ·exact key none g5
 ·exact key (some (.exit _)) g5
 ·exact key (some .ret) g5
def aFO(i l:Nat)(α:AF)(N:Nat)(ps:Array Tmp)(asg bd:Code)(Q:aT)(H:AHeap):Prop:=
 (∃st,st≠.busy∧hget H i=.loop l α N st none ps asg bd∧∀X,Q .normal α (aA H i X))∨
 (hget H i=.loop l α N .done (some .ret) ps asg bd∧∀X,Q .ret α (aA H i X))∨
 (∃id,hget H i=.loop l α N .done (some (.exit id)) ps asg bd∧∀X,Q (.exit id) α (aA H i X))
theorem jV{N:Nat}{g:Operand}{ps:Array Tmp}{asg bd:Code}{Q:aT}{α:AF}{H:AHeap}{gf:Nat}{lb:List AV}(hg:ev α g=.func (.func gf) [] lb)(hok:cF P gf=true)
  (h:∀l LB,LB=ABlk.loop l α N .ready none ps asg bd→ACalls P gf (.func (.yield l) [] []::lb) (H++[LB]) (fun _ H'=>aFO H.length l α N ps asg bd Q H')):aw P N (.rangeFunc g ps asg bd) Q α H:=by
 intro r c a hr hst ha;have hr0:r=none:=hr.resolve_right (by simp[aHQ])
 subst hr0;refine wpIn_rangeFunc fun fn _=>?_
 have hgv:=uL ha g;rw[hg]at hgv;generalize hev:a.eval g=vg at hgv;cases hgv with
 |func _ _ _ v1 v2 hl1 hl2 hr1 hr2=>
  obtain rfl:v1= #[]:=Array.eq_empty_of_size_eq_zero hl1;let rec0:Obj:=.loop {state:=.ready,pending:=none,fn:=fn,tmps:=a.tmps,params:=ps,assign:=asg,body:=bd,defers:=c.w.heap.size}
  let c1:Ctx:=c.fix (.deferred (some []))
  have s1:St c1 H:=hst.fix _;have x1:Ext c c1:=Ext.fix hst _;have hsz1:c1.w.heap.size=c.w.heap.size+1:=by simp[c1,Ctx.fix]
  have a1:=ha.mono x1;let c2:Ctx:=c1.push rec0
  have x2:Ext c1 c2:=Ext.push s1 _ 0;have s2:St c2 (H++[.loop c1.w.heap.size α N .ready none ps asg bd]):=by
   refine s1.push rec0 0 (.loop _ α N .ready none ps asg bd fn c.w.heap.size a.tmps (by simp[Ctx.push]) (by simp[Ctx.push]) (by simp[Ctx.push]) ?_ a1.size fun t=>(a1.rep t).mono x2)
   simp only[Ctx.push,zBy];exact qB _ _
  have hD2:c2.w.heap[c.w.heap.size]?=some (.deferred (some [])):=by
   have h1:c1.w.heap[c.w.heap.size]?=some (.deferred (some [])):=qB _ _;exact((x2.st _ (.inr rfl)).2).trans h1
  have hall:RepAll c2 (.func (.yield c1.w.heap.size) [] []::lb) (#[.func (.yield c1.w.heap.size) #[] #[]]++v2):=by
   refine⟨by simp[hl2];omega,fun j x v g1 g2=>?_⟩
   cases j with
   |zero=>
    rw[zAH (by simp)]at g2
    cases g1;cases g2;exact .func _ [] [] _ _ rfl rfl (by simp) (by simp)
   |succ j=>
    rw[zAN (by simp)]at g2
    rw[zA1]at g1;exact((hr2 j x v g1 (by simpa using g2)).mono x1).mono x2
  have hcall:=h c1.w.heap.size _ rfl c2 _ s2 hall;refine⟨c1.w.heap.size,[{target:=.collected c.w.heap.size,args:= #[]}],c2.w,{target:=.fn (.func gf) v2,args:= #[.func (.yield c1.w.heap.size) #[] #[]]},c2.w,gf, #[.func (.yield c1.w.heap.size) #[] #[]]++v2,c2.w,?_,?_,fun _ _=>trivial,?_,fun h=>(by cases h),?_⟩
  ·have:=run_enterLoop_outer (P:=P) (w:=c.w) fn a.tmps ps asg bd;rw[hsz1];exact this
  ·simp only[resolve,hev];simp[go_sem,Deferred.ofValue]
  ·simp[invoke,go_sem];simpa using dM hok _ _
  ·refine(callsIn_wide (n:=0)).2 (hcall.mono ?_);rintro e w3 ⟨c3,x,v,H3,rfl,rfl,s3,x3, -,hb⟩;have a3:ARep c3 N α {a with defers:=[{target:=.collected c.w.heap.size,args:= #[]}]++a.defers}:=by
    have m:=((ha.mono x1).mono x2).mono x3;obtain⟨m0,Ds,e,hn,hD⟩:=m.defers;obtain⟨n0,Ds',e',hn',hD'⟩:=ha.defers;have hbase:c3.base=c.base:=(x3.base.trans x2.base).trans x1.base;have hinj:Ds=Ds':=by
     have:=List.append_cancel_right ((hbase▸e).symm.trans e');clear hD hD' hn hn' e e' m;induction Ds generalizing Ds' with
     |nil=>cases Ds' with
      |nil=>rfl
      |cons _ _=>simp at this
     |cons d Ds ih=>cases Ds' with
      |nil=>simp at this
      |cons d' Ds'=>simp at this;rw[this.1,ih _ (by simpa using this.2)]
    subst hinj;refine⟨m.size,⟨m0,c.w.heap.size::Ds,by simp[e],zBK.2 ⟨fun hm=>?_,hn⟩,fun D hm=>?_⟩,m.rep⟩
    ·have:=(zAW.1 (hD' _ hm).2.2).1;omega
    ·rcases zAC.1 hm with rfl|hm
     ·exact⟨by rw[hbase];exact n0,(x3.st _ (x2.st _ (.inr rfl)).1).1,((x3.st _ (x2.st _ (.inr rfl)).1).2).trans hD2⟩
     ·exact hD D hm
   have done:∀(st:LoopState) (pe:Option Code),st≠.busy→hget H3 H.length=.loop c1.w.heap.size α N st pe ps asg bd→
     ∃c4:Ctx,(Instr.endLoop c1.w.heap.size).run P c3.w=.ok pe c4.w∧St c4 (aA H3 H.length (.loop c1.w.heap.size α N .exhausted pe ps asg bd))∧Ext c c4∧ARep c4 N α {a with defers:=[{target:=.collected c.w.heap.size,args:= #[]}]++a.defers}:=by
    intro st pe hb3 hh3;obtain⟨_,_,_,_,fn3,D3,ts3,hb3', -, -⟩:=s3.loop hh3;obtain⟨x4,s4⟩:=qT s3 hh3 .exhausted pe hb3';exact⟨_,run_endLoop hb3' hb3,s4,((x1.trans x2).trans x3).trans x4,a3.mono x4⟩
   rcases hb with⟨st,hbu,hh3,hq⟩|⟨hh3,hq⟩|⟨id,hh3,hq⟩
   ·obtain⟨c4,q1,q2,q3,q4⟩:=done st none hbu hh3;exact⟨none,c4.w,q1,c4,α,_,rfl,q2,q3,q4,hq _⟩
   ·obtain⟨c4,q1,q2,q3,q4⟩:=done .done _ (by simp) hh3
    exact⟨some .ret,c4.w,q1,wpIn_ret ⟨c4,α,_,rfl,q2,q3,q4,hq _⟩⟩
   ·obtain⟨c4,q1,q2,q3,q4⟩:=done .done _ (by simp) hh3
    exact⟨some (.exit id),c4.w,q1,wpIn_exit ⟨c4,α,_,rfl,q2,q3,q4,hq _⟩⟩
theorem kR{l:Nat}{args:List AV}{H:AHeap}{R K:AV→AHeap→Prop}(h:AYield P l args H R)(hk:∀v H',R v H'→K v H'):gZ P (.func (.yield l) [] []) args H K:=h.mono hk
theorem zQ{N:Nat}{code:Code}{Q:aT}{α:AF}{H:AHeap}(β:AF)(hs:sF β α)(h:aw P N code Q β H):aw P N code Q α H:=lE h (dQ hs)
theorem pP{n i v:Nat}{H:AHeap}{cs:List AV}(hn:n≤i)(hh:hget H i=.cells v cs)(hc:∀x∈cs,Cl n x):Frz n H (.ref i v 0) (.cptr cs):=
 .ref i v 0 cs cs hn hh (by omega) fun j x y hx hy=>by
  rw[zBn,hy]at hx;cases hx;exact .cl _ (hc _ (zAA hy))
theorem fI{n:Nat}{H:AHeap}{a b:AV}{cs ds:List AV}(h:Frz n H a b)(hs:∀(i:Nat) (x y:AV),cs[i]?=some x→ds[i]?=some y→Frz n H x y):∀(i:Nat) (x y:AV),(a::cs)[i]?=some x→(b::ds)[i]?=some y→Frz n H x y
 |0,x,y,hx,hy=>by grind
 |i+1,x,y,hx,hy=>hs i x y (by simpa using hx) (by simpa using hy)
theorem iO{n:Nat}{H:AHeap}:∀(i:Nat) (x y:AV),([]:List AV)[i]?=some x→([]:List AV)[i]?=some y→Frz n H x y:=fun _ _ _ h=>by simp at h
theorem cY{G:AHeap}{i:Nat}{b:ABlk}(h:hget G i=b)(hb:b.live):∀L,hget (G++L) i=b:=fun L=>aK h hb L
theorem pQ{G:AHeap}{i:Nat}{b:ABlk}(h:hget G i=b)(hb:b.live):∀L c,aA (G++L) i c=aA G i c++L:=fun L c=>bQ (bC h hb) L c
theorem bF(H:AHeap)(i:Nat)(b:ABlk):(aA H i b).length=H.length:=by simp[aA]
theorem aR{H:AHeap}{i j:Nat}{x:ABlk}(h:hget H j=x)(hn:i≠j)(b:ABlk):hget (aA H i b) j=x:=by
 rw[←h];simp[hget,aA,zAm,zAU hn]
theorem bX{H:AHeap}{i:Nat}(h:i<H.length)(b:ABlk):hget (aA H i b) i=b:=by
 simp[hget,aA,zAm,h]
theorem iA{H:AHeap}{i n:Nat}{b:ABlk}(hb:ClB n b):∀(j:Nat) (c:ABlk),(aA H i b)[j]?=some c→H[j]?=some c∨ClB n c:=fun j c h=>by
 by_cases e:i=j
 ·subst e;by_cases hlt:i<H.length
  ·grind [aA,zA0]
  ·rw[aA,zBq (by simp;omega)]at h;cases h
 ·grind [aA,zAU]
theorem cB(H:AHeap)(i:Nat)(b c:ABlk):aA (aA H i b) i c=aA H i c:=by simp[aA]
theorem fV(H:AHeap){i j:Nat}(b c:ABlk)(h:i≠j):aA (aA H i b) j c=aA (aA H j c) i b:=by simp only[aA];exact List.set_comm _ _ h
theorem eL{H:AHeap}{i:Nat}{b:ABlk}(h:hget H i=b)(hb:b.live):aA H i b=H:=aBs (eS h hb)
def aAT(K:AF→AHeap→Prop)(Q:aT):aT
 |.normal,α,H=>K α H
 |e,α,H=>Q e α H
def mZ(P:Program)(N:Nat)(body:Code)(Q:aT):Nat→AF→AHeap→Prop
 |0,_,_=>False
 |m+1,α,H=>aw P N body (aAT (mZ P N body Q m) Q) α H
section
variable (K:AF→AHeap→Prop) (Q:aT) (α:AF) (H:AHeap)
@[go_sem] theorem aFP:aAT K Q .normal α H=K α H:=rfl
@[go_sem] theorem aLc:aAT K Q .ret α H=Q .ret α H:=rfl
@[go_sem] theorem aIW(i:Nat):aAT K Q (.exit i) α H=Q (.exit i) α H:=rfl
end
theorem tH{N:Nat}{body:Code}{Q:aT}{α:AF}{H:AHeap}(m:Nat)(h:mZ P N body Q m α H):aw P N (.loop body) Q α H:=by
 intro r c a hr hs ha;refine wpIn_loop_rounds m ?_;have key:∀m α H c' a,mZ P N body Q m α H→St c' H→Ext c c'→ARep c' N α a→Code.roundsIn (wf r) 0 P body (fun e a' w'=>∃c' α' H',c'.w=w'∧St c' H'∧Ext c c'∧ARep c' N α' a'∧Q e α' H') m a c'.w:=by
  intro m;induction m with
  |zero=>intro α H c' a h;exact h.elim
  |succ m ih=>
   intro α H c' a h hs hx ha;refine wpIn_mono (h r c' a hr hs ha) fun e a' w' ⟨c2,α',H',e1,e2,e3,e4,e5⟩=>?_
   subst e1;cases e with
   |normal=>exact ih _ _ _ _ e5 e2 (hx.trans e3) e4
   |exit id=>exact⟨c2,α',H',rfl,e2,hx.trans e3,e4,e5⟩
   |goto l=>exact⟨c2,α',H',rfl,e2,hx.trans e3,e4,e5⟩
   |ret=>exact⟨c2,α',H',rfl,e2,hx.trans e3,e4,e5⟩
   |panic ch=>exact⟨c2,α',H',rfl,e2,hx.trans e3,e4,e5⟩
   |outgrown=>exact⟨c2,α',H',rfl,e2,hx.trans e3,e4,e5⟩
 exact key m α H c a h hs (Ext.refl c) ha
theorem aFQ{n:Nat}{f:Fn}{fs cs:List AV}(h1:∀x∈fs,Cl n x)(h2:∀x∈cs,Cl n x):Cl n (.func f fs cs):=.func _ _ _ (fun _ x hx=>h1 x (zAA hx)) (fun _ x hx=>h2 x (zAA hx))
end
section
variable {P:Program}
def FnX(P:Program)(f:FuncId)(args:List AV)(H:AHeap)(x:AV):Prop:=AExtern P f args H (fun v H'=>v=x∧H'=H)
theorem tI{f:FuncId}{args:List AV}{H:AHeap}{x:AV}{k:AV→AHeap→Prop}(h:FnX P f args H x)(hk:k x H):gZ P (.func (.func f) [] []) args H k:=
 Or.inr (by
  simp only[zAJ,zAj];exact h.mono fun y H' ⟨e1,e2⟩=>by subst e1;subst e2;exact hk)
theorem tJ{g:Bool}{f:FuncId}{args:List AV}{H:AHeap}{x:AV}{K:AV→Prop}(h:FnX P f args H x)(hk:K x):gO P g (.func (.func f) [] []) args H K:=
 ⟨x,fun _=>Or.inr (by
  simp only[zAJ,zAj];exact h),hk⟩
theorem aAU{c:Ctx}{x y:AV}{vs:Array Value}(h:RepAll c [x,y] vs):∃u v,vs= #[u,v]∧Rep c x u∧Rep c y v:=by
 obtain⟨hl,hr⟩:=h;obtain⟨l⟩:=vs
 match l,hl,hr with
 |[u,v],_,hr=>exact⟨u,v,rfl,hr 0 _ _ rfl rfl,hr 1 _ _ rfl rfl⟩
theorem uU(l:List UInt8)(c:UInt8):Lib.indexByte l c<(l.length:Int)∨l=[]:=by
 induction l with
 |nil=>exact .inr rfl
 |cons b l ih=>
  refine .inl ?_;rw[Lib.indexByte,zAt];split
  ·omega
  ·split
   ·omega
   ·rcases ih with h|h
    ·omega
    ·subst h;rename_i h1;exact absurd rfl h1
theorem aIX{f:FuncId}{fn:Func}(hf:P.funcs[f]?=some fn)(h1:(fn.name== "runtime.NumGoroutine")=false)(h2:fn.body.isNone=true)(h3:Extern.findNext fn=none)(h4:Extern.find fn=some Extern.BytealgCount.count)
  (s:List UInt8) (b:Int) (H:AHeap):FnX P f [.str s,.int .u8 b] H (.int .i64 (Lib.countByte s b.toNat.toUInt8)):=by
 intro c vs hst ha;obtain⟨u,v,rfl,hu,hv⟩:=aAU ha;cases hu with
 |str _ hs=>
  cases hv with
  |int _ _ hb=>
   refine⟨_,_,?_,.int .i64 (Lib.countByte s b.toNat.toUInt8:Nat) ?_,rfl,rfl⟩
   ·rw[run_callFunc_extern hf h1 h2 h3 h4,Lib.run_countString];rfl
   ·have:Lib.countByte s b.toNat.toUInt8≤s.length:=List.count_le_length;exact⟨by show(-9223372036854775808:Int)≤_;omega,by show _≤(9223372036854775807:Int);omega⟩
theorem aIY{f:FuncId}{fn:Func}(hf:P.funcs[f]?=some fn)(h1:(fn.name== "runtime.NumGoroutine")=false)(h2:fn.body.isNone=true)(h3:Extern.findNext fn=none)(h4:Extern.find fn=some Extern.BytealgIndexByte.indexByte)
  (s:List UInt8) (b:Int) (H:AHeap):FnX P f [.str s,.int .u8 b] H (.int .i64 (Lib.indexByte s b.toNat.toUInt8)):=by
 intro c vs hst ha;obtain⟨u,v,rfl,hu,hv⟩:=aAU ha;cases hu with
 |str _ hs=>
  cases hv with
  |int _ _ hb=>
   refine⟨_,_,?_,.int .i64 (Lib.indexByte s b.toNat.toUInt8) ?_,rfl,rfl⟩
   ·rw[run_callFunc_extern hf h1 h2 h3 h4,Lib.run_indexByteString];rfl
   ·have h5:=Lib.indexByte_ge s b.toNat.toUInt8;have h6:=uU s b.toNat.toUInt8;refine⟨by show(-9223372036854775808:Int)≤_;omega,by show _≤(9223372036854775807:Int);rcases h6 with h|h;omega;subst h;show(-1:Int)≤_;omega⟩
end
section
variable {P:Program}
theorem St.putRep{c:Ctx}{H:AHeap}(hst:St c H){i v:Nat}{cs ds:List AV}(hh:hget H i=.cells v cs)(hr:BRep c i (.cells v ds)):St c (aA H i (.cells v ds)):=by
 have hi:=eS hh trivial;have hlt:=bC hh trivial;have hget:∀{j:Nat} {b:ABlk},(aA H i (.cells v ds))[j]?=some b→(j=i∧b=.cells v ds)∨(j≠i∧H[j]?=some b):=by
  intro j b hj;by_cases e:j=i
  ·grind [aA,zA0]
  ·rw[aA,zAU (fun q=>e q.symm)]at hj
   exact .inr ⟨e,hj⟩
 have hget':∀{j:Nat} {b:ABlk},(aA H i (.cells v ds))[j]?=some b→b.live→∃b':ABlk,H[j]?=some b'∧b'.live:=by
  intro j b hj hb;rcases hget hj with⟨rfl,rfl⟩|⟨_,h⟩
  ·exact⟨_,hi,trivial⟩
  ·exact⟨_,h,hb⟩
 refine⟨hst.gl,by simp[aA,hst.n],hst.lt,fun j k b b' hj hk hb hb' dj dk he=>?_,fun k hk=>?_,fun j b hj=>?_⟩
 ·obtain⟨b1,g1,g2⟩:=hget' hj hb;obtain⟨b2,g3,g4⟩:=hget' hk hb';exact hst.inj j k b1 b2 g1 g3 g2 g4 dj dk he
 ·obtain⟨h1,h2⟩:=hst.st k hk;refine⟨h1,fun j b hj hb dj=>?_⟩
  obtain⟨b1,g1,g2⟩:=hget' hj hb;exact h2 j b1 g1 g2 dj
 ·rcases hget hj with⟨rfl,rfl⟩|⟨_,h⟩
  ·exact hr
  ·exact hst.rep j b h
theorem BRep.mapC{c c':Ctx}{i v:Nat}{cs ds:List AV}(hr:BRep c i (.cells v cs))(h1:c'.ver i=c.ver i)(h2:c'.vd i=c.vd i)(h3:c'.blk i=c.blk i)(h4:c'.w=c.w)(hl:cs.length=ds.length)
  (hs:∀(i:Nat) (x y:AV),cs[i]?=some x→ds[i]?=some y→∀v,Rep c x v→Rep c' y v):BRep c' i (.cells v ds):=by
 cases hr with
 |cells _ _ vs e fr q1 q2 q3 q4 q5 q6=>
  refine .cells _ _ vs e fr (by rw[h1];exact q1) (by rw[h2];exact q2) (by rw[h3,h4];exact q3) (by omega) q5 fun m y u hy hu=>?_
  have hlt2:=(eT.1 hy).1;have hx:cs[m]?=some (cs[m]'(by omega)):=zAd (by omega)
  exact hs m _ y hx hy u (q6 m _ u hx hu)
 |void _ q1 q2=>
  have:ds=[]:=zAu (by simpa using hl.symm)
  subst this;exact .void _ (by rw[h1];exact q1) (by rw[h2];exact q2)
theorem St.simR{c:Ctx}{H:AHeap}(hst:St c H){i v:Nat}{cs ds:List AV}(hh:hget H i=.cells v cs)(hl:cs.length=ds.length)(hs:∀(i:Nat) (x y:AV),cs[i]?=some x→ds[i]?=some y→∀v,Rep c x v→Rep c y v):St c (aA H i (.cells v ds)):=
 hst.putRep hh ((hst.rep i _ (eS hh trivial)).mapC rfl rfl rfl rfl hl hs)
theorem BRep.pre{c:Ctx}{i v:Nat}{cs rest:List AV}(hr:BRep c i (.cells v (cs++rest))):BRep c i (.cells v cs):=by
 generalize hx:cs++rest=xs at hr;cases hr with
 |cells _ _ vs e fr q1 q2 q3 q4 q5 q6=>
  subst hx;refine .cells _ _ vs e fr q1 q2 q3 (by rw[zAa]at q4;omega) q5 fun m y u hy hu=>q6 m y u ?_ hu
  grind
 |void _ q1 q2=>
  have:cs=[]:=(List.append_eq_nil_iff.1 hx).1;subst this;exact .void _ q1 q2
theorem aDe{f:FuncId}{args:List AV}{H H1:AHeap}{v:AV}{K:AV→AHeap→Prop}(h:ACalls P f args H (fun x H'=>x=v∧H'=H1))(ok:cF P f=true)(hk:K v H1):aAS P true (.func (.func f) [] []) args H K:=
 ⟨v,H1,fun _=>Or.inl ⟨ok,by grind⟩,fun h=>by(cases h),hk⟩
theorem aDf{c:Ctx}{H:AHeap}(hst:St c H)(s:Nat){v:Value}(h:Rep c.void (.sl true []) v):Rep c.void (.osl s H.length 1 0 0 0) v:=by
 cases h with
 |sl _ _ base len cap s' vs h1 h2 h3 h4 h5 h6 h7=>
  have hcap:=h3 rfl;simp at h1;subst h1;subst hcap;exact .osl _ _ _ _ _ _ _ (by simp[Ctx.void,hst.n]) (by simp[Ctx.void,hst.n]) rfl (by omega) (fun _ _=>⟨rfl,rfl,base,rfl⟩) (fun _ hd=>by simp[Ctx.void,hst.n]at hd)
theorem jG{N:Nat}{code:Code}{Q:aT}{α:AF}{H:AHeap}(i j s:Nat){v:Nat}{cs:List AV}(hh:hget H i=.cells v cs)(hj:cs[j]?=some (.sl true []))
  (h:aw P N code Q α (aA (H++[.cells 1 []]) i (.cells v (cs.set j (.osl s H.length 1 0 0 0))))):aw P N code Q α H:=by
 intro r c a hr hst ha;have hv:=Ext.void c;have hget:=aK hh trivial [.cells 1 []];refine wpIn_mono (h r c.void a hr (hst.void.simR hget (by simp) fun k x y hx hy v hr=>?_) ⟨ha.size,ha.defers.mono hv,fun u=>(ha.rep u).mono hv⟩) fun _ _ _ ⟨c',α',H',e1,e2,e3,e4,e5⟩=>⟨c',α',H',e1,e2,hv.trans e3,e4,e5⟩
 by_cases e:k=j
 ·subst e;rw[zA0 (eT.1 hj).1]at hy;cases hy;rw[hj]at hx;cases hx;exact aDf hst s hr
 ·grind
end
section
variable {P:Program}
def APan(P:Program)(f:FuncId)(args:List AV)(H:AHeap)(X:Value→AHeap→Prop):Prop:=
 ∀(c:Ctx) (vs:Array Value),St c H→RepAll c args vs→
  Calls P f vs c.w (fun e w'=>∃c' v H',e=.panicked [{v:=v,recovered:=false}]∧c'.w=w'∧St c' H'∧Ext c c'∧X v H')
theorem APan.mono{f:FuncId}{args:List AV}{H:AHeap}{X Y:Value→AHeap→Prop}(h:APan P f args H X)(k:∀v H',X v H'→Y v H'):APan P f args H Y:=
 fun c vs hs hv=>(h c vs hs hv).mono fun _ _ ⟨c',v,H',a,b,d,e,f⟩=>⟨c',v,H',a,b,d,e,k v H' f⟩
def aDg(P:Program)(o:Oper)(ρ:Operand→AV)(H:AHeap)(X:Value→AHeap→Prop):Prop:=
 ∀(r:Option Nat) (c:Ctx) (a:Act) (next:Act→World→Prop) (Q:Exit→Act→World→Prop),St c H→(∀x∈o.op.operands.toList,Rep c (ρ x) (a.eval x))→
  (∀c' v H',St c' H'→Ext c c'→X v H'→Q (.panic [{v:=v,recovered:=false}]) a c'.w)→o.wpIn (wf r) 0 P a c.w next Q
theorem iP{o:Oper}{ρ:Operand→AV}{H:AHeap}{X:Value→AHeap→Prop}{x:Operand}{t:TypeId}{k:IntKind}{n:Int}(ho:o.op=.panic x)(hx:ρ x=.iface t (.agg [.int k n]))
  (h:X (.iface t (.agg #[.int k n])) H):aDg P o ρ H X:=by
 intro r c a next Q hs hρ hk
 have hr:=hρ x (by rw[ho];simp[Op.operands])
 rw[hx]at hr;generalize hev:a.eval x=vx at hr;cases hr with
 |iface _ _ v hv=>
  cases hv with
  |agg _ vs hl hr=>
   have h0:vs= #[.int k n]:=by
    apply Array.ext (by simpa using hl)
    intro i h1 h2;have:i=0:=by simp at h2;omega
    subst this;have:=hr 0 _ _ rfl (zAZ h1);simpa using this.int_inv
   subst h0;refine owp (mT (by rw[ho];simp)) ?_
   have:(execOp a.eval o).run P c.w=.halt (.panic (.iface t (.agg #[.int k n]))) c.w:=by
    simp only[execOp,ho,hev,Instr.panic,goPanic];rfl
   rw[this];exact hk c _ H hs (Ext.refl c) h
theorem fW{o:Oper}{ρ:Operand→AV}{H:AHeap}{X:Value→AHeap→Prop}{f:Operand}{xs:Array Operand}{ts:Array TypeId}{fid:FuncId}{first cap:List AV}(ho:o.op=.call ⟨.value f,xs,ts⟩)
  (hf:ρ f=.func (.func fid) first cap) (hok:cF P fid=true) (h:APan P fid (first++xs.toList.map ρ++cap) H X):aDg P o ρ H X:=by
 intro r c a next Q hs hρ hk
 have hrf:=hρ f (by grind [Op.operands,Call.operands])
 rw[hf]at hrf;generalize hev:a.eval f=vf at hrf;cases hrf with
 |func _ _ _ v1 v2 hl1 hl2 hr1 hr2=>
  obtain⟨hl3,hr3⟩:=iK (c:=c) (ρ:=ρ) (e:=a.eval) (xs:=xs) (fun x hx=>hρ x (by rw[ho];simp only[Op.operands,Call.operands,zA6,zAM];exact .inr hx))
  have hrun:(execOp a.eval o).run P c.w=(callFunc fid (v1++xs.map a.eval++v2)).run P c.w:=by
   simp only[execOp,ho,resolve,hev,Deferred.ofValue,Sem.run_bind,Sem.run_pure,Result.andThen_ok,invoke]
  have hall:RepAll c (first++xs.toList.map ρ++cap) (v1++xs.map a.eval++v2):=by
   refine⟨by simp[hl1,hl2,hl3],fun i x v g1 g2=>?_⟩
   by_cases h1:i<first.length
   ·rw[zAe,zAf h1]at g1;rw[zBp,zAH (by omega)]at g2
    exact hr1 _ _ _ g1 g2
   ·by_cases h2:i<first.length+(xs.toList.map ρ).length
    ·rw[zAe,zAw (by omega),zAf (by omega)]at g1
     rw[zBp,zAN (by omega),zAH (by omega),hl1]at g2
     exact hr3 _ _ _ g1 g2
    ·rw[zAe,zAw (by omega),zAw (by omega)]at g1
     rw[zBp,zAN (by omega),zAN (by omega),hl1,hl3]at g2
     exact hr2 _ _ _ g1 g2
  refine owp (mT (by rw[ho];simp)) ?_
  rw[hrun,dM hok];refine⟨fun h=>(by cases h),callsIn_wide.2 ?_⟩
  refine(h c _ hs hall).mono fun e w' ⟨c',v,H',e1,e2,e3,e4,e5⟩=>?_
  subst e1;subst e2;exact hk c' v H' e3 e4 e5
theorem tK{r:Option Nat}{N:Nat}{ops:Array Oper}{Q:Exit→Act→World→Prop}{K:AF→AHeap→Prop}(hd:gI N ops=true)(c₀:Ctx)(m:Nat):∀(os:List Oper) (k:Nat) (α:AF) (H:AHeap) (c:Ctx) (a:Act),
  (∀i o,os[i]?=some o→ops[k+i]?=some o)→St c H→Ext c₀ c→ARep c N α a→dA P ops.toList os α H K→
  (∀α' H' c' a',St c' H'→Ext c₀ c'→ARep c' N α' a'→K α' H'→wpOpsIn (wf r) 0 P ops Q (List.range' (k+os.length) m) a' c'.w)→wpOpsIn (wf r) 0 P ops Q (List.range' k (os.length+m)) a c.w
 |[],k,α,H,c,a,_,hs,hx,ha,h,hk=>by simpa using hk α H c a hs hx ha h
 |o::os,k,α,H,c,a,hos,hs,hx,ha,h,hk=>by
  have h0:ops[k]?=some o:=hos 0 o rfl;have hdo:pZ N o.dst=true:=zAx.1 hd o (by grind)
  rw[zAt,show os.length+1+m=(os.length+m)+1 by omega,zBI]
  simp only[wpOpsIn,h0];have hy:=sW (N:=N) h r c a (wpOpsIn (wf r) 0 P ops Q (List.range' (k+1) (os.length+m))) Q hs ha.size (fun t _=>ha.rep t) fun c' x v H' h1 h2 h3 h4=>
   tK hd c₀ m os (k+1) _ H' c' _ (fun i o hi=>by have:=hos (i+1) o (by simpa using hi);rwa[show k+1+i=k+(i+1) by omega]) h1 (hx.trans h2) ((ha.mono h2).put hdo h3) h4 (by simpa[show k+1+os.length=k+(os.length+1) by omega]using hk)
  by_cases hw:Region.wanted o (yielded ops a.tmps)=true
  ·rw[zAp hw]at hy ⊢;exact hy
  ·rw[zAk hw]at hy ⊢;exact⟨fun _ _=>trivial,hy⟩
theorem bN{N id:Nat}{ops:Array Oper}{Q:aT}{α:AF}{H:AHeap}(k:Nat)(o:Oper)(hd:gI N ops=true)(ho:ops[k]?=some o)(hg:o.guard=none)
  (h:dA P ops.toList (ops.toList.take k) α H (fun α' H'=>aDg P o (ev α') H' (fun v H''=>Q (.panic [{v:=v,recovered:=false}]) α' H''))):aw P N (.region id ops false) Q α H:=by
 intro r c a _ hs ha;refine wpIn_region ?_;have hk:k<ops.size:=(zAW.1 ho).1;have hl:(ops.toList.take k).length=k:=by simp;omega
 have:=tK (P:=P) (r:=r) (Q:=qK N c Q) hd c (ops.size-k) (ops.toList.take k) 0 α H c a (fun i o hi=>by
  rw[List.getElem?_take]at hi;split at hi
  ·simpa using hi
  ·cases hi) hs (Ext.refl c) ha h fun α' H' c' a' g1 g2 g3 g4=>by
   rw[zBn,hl,show ops.size-k=(ops.size-k-1)+1 by omega,zBI]
   simp only[wpOpsIn,ho];have hw:Region.wanted o (yielded ops a'.tmps)=true:=by unfold Region.wanted;rw[hg]
   rw[zAp hw];exact g4 r c' a' _ _ g1 (fun x _=>uL g3 x) fun c'' v H'' p1 p2 p3=>⟨c'',α',H'',rfl,p1,g2.trans p2,g3.mono p2,p3⟩
 rw[hl,show k+(ops.size-k)=ops.size by omega]at this
 rwa[List.range_eq_range']
def aFR(X:Value→AHeap→Prop):aT
 |.panic ch,_,H=>∃v,ch=[{v:=v,recovered:=false}]∧X v H
 |_,_,_=>False
section
variable (X:Value→AHeap→Prop) (α:AF) (H:AHeap)
variable (Q:aT) (N:Nat) (y:Code) (ch:List PanicEntry)
@[go_sem] theorem aHs:mP P N y Q (.panic ch) α H=Q (.panic ch) α H:=rfl
@[go_sem] theorem aFS(i:Nat):fQ i Q (.panic ch) α H=Q (.panic ch) α H:=rfl
@[go_sem] theorem aFT:qQ Q (.panic ch) α H=Q (.panic ch) α H:=rfl
@[go_sem] theorem aIZ(v:Value):aFR X (.panic [{v:=v,recovered:=false}]) α H=X v H:=by simp[aFR]
end
theorem oG{c:Ctx}{args:List AV}{vs:Array Value}{N:Nat}{ds:List Deferred}(hn:args.length≤N)(h:RepAll c args vs):ARep (c.rebase (c.w.heap.size,ds)) N (cG 0 args) {tmps:=vs++Array.replicate (N-vs.size) undef,defers:=ds}:=by
 obtain⟨hl,hr⟩:=h;refine⟨by simp;omega,⟨zAb _,[],rfl,by simp,by simp⟩,fun t=>?_⟩
 rw[mV,zAp (zAv _),Nat.sub_zero];by_cases ht:t<args.length
 ·have hx:args[t]?=some args[t]:=zAd ht;have hv:vs[t]?=some (vs[t]'(by omega)):=zAZ (by omega)
  rw[aE6 _ _ _ _ hx];have:(vs++Array.replicate (N-vs.size) undef).getD t undef=vs[t]'(by omega):=by
   rw[zA9,zAH (by omega),hv];rfl
  rw[this];exact(hr t _ _ hx hv).rebase _
 ·have:args.getD t .top=.top:=by rw[zAm,zBq (by omega)];rfl
  rw[this];exact .top _
theorem mF{f:FuncId}{fn:Func}{code:Code}{args:List AV}{H:AHeap}{X:Value→AHeap→Prop}(hf:P.funcs[f]?=some fn)(hb:fn.body=some code)(hn:args.length≤fn.ntmps)
  (h:aw P fn.ntmps code (aFR X) (cG 0 args) H):APan P f args H X:=by
 intro c vs hs hv;refine callsIn_wide.1 (callsIn_of_wp_marks (F:=Fence.wide) (n:=0) hf hb trivial ?_);refine wpIn_mono (h none (c.rebase (c.w.heap.size,[])) _ (.inl rfl) (hs.rebase (c.w.heap.size,[])) (oG hn hv)) fun e a' w' ⟨c',α',H',e1,e2,e3,e4,e5⟩=>?_
 subst e1;cases e<;>simp only[aFR]at e5;obtain⟨v,rfl,hX⟩:=e5;obtain⟨hb0,Ds,hds,hnd,hD⟩:=e4.defers;have hbase:c'.base=(c.w.heap.size,[]):=e3.base;show LeavesInM Fence.wide 0 P fn a'.tmps _ a'.defers (.panicking _) c'.w;rw[hds,hbase];refine fF (by simp) [] (hs.rebase (c.w.heap.size,[])) Ds c' e2 e3 hnd (fun D h=>?_) fun c'' g1 g2 g3 _=>?_
 ·obtain⟨p1,p2,p3⟩:=hD D h;exact⟨by rw[hbase]at p1;exact p1,p2,p3⟩
 ·exact⟨c''.rebase c.base,v,H',rfl,rfl,g1.rebase _,⟨g2.n,g2.size,g2.st,g2.ver,g2.blk,g2.os,g2.tape,g2.output,rfl⟩,hX⟩
def tL{ι:Type}(l:Nat)(F:ι→AF)(Hp:ι→AHeap)(pre:ι→Prop)(Q:aT):aT
 |.goto l',α,H=>l'=l∧∃y,pre y∧sF (F y) α∧H=Hp y
 |e,α,H=>Q e α H
def aHt{ι:Type}(l:Nat)(F:ι→AF)(Hp:ι→AHeap)(pre:ι→Prop)(m:ι→Nat)(x:ι)(Q:aT):aT:=tL l F Hp (fun y=>pre y∧m y<m x) Q
section
variable {ι:Type} (l:Nat) (F:ι→AF) (Hp:ι→AHeap) (pre:ι→Prop) (m:ι→Nat) (x:ι) (Q:aT) (α:AF) (H:AHeap)
@[go_sem] theorem aI0(l':Nat):tL l F Hp pre Q (.goto l') α H=(l'=l∧∃y,pre y∧sF (F y) α∧H=Hp y):=rfl
@[go_sem] theorem aFU:tL l F Hp pre Q .normal α H=Q .normal α H:=rfl
@[go_sem] theorem aI1(i:Nat):tL l F Hp pre Q (.exit i) α H=Q (.exit i) α H:=rfl
@[go_sem] theorem aLe:tL l F Hp pre Q .ret α H=Q .ret α H:=rfl
attribute [go_sem] aHt
end
theorem aAV{N l:Nat}{Q:aT}{α:AF}{H:AHeap}(h:Q (.goto l) α H):aw P N (.goto l) Q α H:=
 fun _ c _ _ hs ha=>wpIn_goto ⟨c,α,H,rfl,hs,Ext.refl c,ha,h⟩
theorem qU{N:Nat}{code rest:Code}{Q:aT}{α:AF}{H:AHeap}{ι:Type}(l:Nat)(F:ι→AF)(Hp:ι→AHeap)(pre:ι→Prop)(m:ι→Nat)(hf:findLabel code l=some rest)(hfl:aHQ rest=true)
  (first:aw P N code (tL l F Hp pre Q) α H) (pass:∀x,pre x→aw P N rest (aHt l F Hp pre m x Q) (F x) (Hp x)):aw P N (.scope code) Q α H:=by
 intro r c a hr hs ha b k cs hro hb hroom;have hg:gotoIn l (.inScope code::k)=some (.code rest::.inScope code::k):=by simp[gotoIn,hf]
 have s0:step P (lone (b.atR a (.code (.scope code)::k)) cs c.w)=.next (lone (b.atR a (.code code::.inScope code::k)) cs c.w):=step_lone_go (by simp[stepG,stepG.exec,Frame.atR])
 have s1:∀(a:Act) (w:World),step P (lone (b.atR a (.inScope code::k)) cs w)=.next (lone (b.atR a k) cs w):=fun a w=>step_lone_go (by simp[stepG,stepG.exec,Frame.atR])
 have key:∀n x (c₁:Ctx) (a:Act),m x=n→pre x→St c₁ (Hp x)→Ext c c₁→ARep c₁ N (F x) a→
   ∃e a' w',qK N c Q e a' w'∧ArrivesIn (Machine.fenced P (wf r)) P (lone (b.atR a (.code rest::.inScope code::k)) cs c₁.w) b k cs e a' w':=by
  intro n;induction n using Nat.strongRecOn with
  |_ n ih=>
   intro x c₁ a hn hx hs hxt ha;obtain⟨e,a₁,w₁,⟨c₂,α₂,H₂,e1,e2,e3,e4,hq⟩,harr⟩:=pass x hx r c₁ a (.inr hfl) hs ha b (.inScope code::k) cs hro hb hroom;subst e1;cases e with
   |normal=>exact⟨.normal,a₁,c₂.w,⟨c₂,α₂,H₂,rfl,e2,hxt.trans e3,e4,hq⟩,StepsIn.trans harr (.one (fenced_calm hb hroom rfl) (s1 _ _))⟩
   |exit id=>exact⟨.exit id,a₁,c₂.w,⟨c₂,α₂,H₂,rfl,e2,hxt.trans e3,e4,hq⟩,fun k' hk=>harr.1 k' (by simp[exitTo,hk]),fun hr' hk=>harr.2 hr' (by simp[exitTo,hk])⟩
   |goto l'=>
    obtain⟨rfl,y,⟨hy,hlt⟩,hsub,rfl⟩:=hq;obtain⟨e₂,a₃,w₃,hq₂,harr₂⟩:=ih _ (by omega) y c₂ a₁ rfl hy e2 (hxt.trans e3) (e4.weaken (dQ hsub))
    exact⟨e₂,a₃,w₃,hq₂,.of_steps (harr.1 _ hg) harr₂⟩
   |ret=>exact⟨_,a₁,c₂.w,⟨c₂,α₂,H₂,rfl,e2,hxt.trans e3,e4,hq⟩,harr⟩
   |panic ch=>exact⟨_,a₁,c₂.w,⟨c₂,α₂,H₂,rfl,e2,hxt.trans e3,e4,hq⟩,harr⟩
   |outgrown=>exact⟨_,a₁,c₂.w,⟨c₂,α₂,H₂,rfl,e2,hxt.trans e3,e4,hq⟩,harr⟩
 have h0:(lone (b.atR a (.code (.scope code)::k)) cs c.w).fenced P (wf r):=fenced_calm hb hroom rfl;obtain⟨e,a₁,w₁,⟨c₂,α₂,H₂,e1,e2,e3,e4,hq⟩,harr⟩:=first r c a (hr.imp_right fun h=>h) hs ha b (.inScope code::k) cs hro hb hroom
 subst e1;cases e with
 |normal=>exact⟨.normal,a₁,c₂.w,⟨c₂,α₂,H₂,rfl,e2,e3,e4,hq⟩,.head h0 s0 (StepsIn.trans harr (.one (fenced_calm hb hroom rfl) (s1 _ _)))⟩
 |exit id=>exact⟨.exit id,a₁,c₂.w,⟨c₂,α₂,H₂,rfl,e2,e3,e4,hq⟩,fun k' hk=>.head h0 s0 (harr.1 k' (by simp[exitTo,hk])),fun hr' hk=>let⟨k₁,h1,h2⟩:=harr.2 hr' (by simp[exitTo,hk]);⟨k₁,h1,.head h0 s0 h2⟩⟩
 |goto l'=>
  obtain⟨rfl,y,hy,hsub,rfl⟩:=hq;obtain⟨e₂,a₃,w₃,hq₂,harr₂⟩:=key _ y c₂ a₁ rfl hy e2 e3 (e4.weaken (dQ hsub));exact⟨e₂,a₃,w₃,hq₂,.of_steps (.one h0 s0) (.of_steps (harr.1 _ hg) harr₂)⟩
 |ret=>exact⟨_,a₁,c₂.w,⟨c₂,α₂,H₂,rfl,e2,e3,e4,hq⟩,.of_steps (.one h0 s0) harr⟩
 |panic ch=>exact⟨_,a₁,c₂.w,⟨c₂,α₂,H₂,rfl,e2,e3,e4,hq⟩,.of_steps (.one h0 s0) harr⟩
 |outgrown=>exact⟨_,a₁,c₂.w,⟨c₂,α₂,H₂,rfl,e2,e3,e4,hq⟩,.of_steps (.one h0 s0) harr⟩
end
end Go.Proofs.YtigedpfipifefaaGreatDoor
