/- What the functions of this seat answer (3 of 38). No condition. -/
import Derived.Test.YtennnelammaapaaGreatDoorWorkAB
import Derived.Still
import Derived.Attr
set_option linter.unusedSimpArgs false
set_option linter.unusedVariables false
set_option linter.unusedSectionVars false
set_option maxRecDepth 100000
set_option maxHeartbeats 16000000
namespace Go.Proofs.YtennnelammaapaaGreatDoor
section
variable {P:Program}
theorem aAN{o:Oper}(h:∀c,o.op≠.defer c):Sm o:=fun r ρ=>Oper.semAt_eq r ρ o h
theorem bP{o:Oper}{ρ:Operand→AV}{H H':AHeap}{x:AV}
  (h:∀(c:Ctx) (a:Act),St c H→(∀x∈o.op.operands.toList,Rep c (ρ x) (a.eval x))→∃c' v,(execOp a.eval o).run P c.w=.ok (.value v) c'.w∧St c' H'∧Ext c c'∧Rep c' x v) (hd:Sm o:=by intro r _;cases r<;>rfl):
  Does P o ρ H (fun x' H''=>x'=x∧H''=H'):=by
 intro r c a next Q hs hρ hk
 obtain⟨c',v,h1,h2,h3,h4⟩:=h c a hs hρ;refine owp hd ?_;rw[h1];exact hk c' x v H' h2 h3 h4 ⟨rfl,rfl⟩
theorem xB{o:Oper}{ρ:Operand→AV}{H H':AHeap}
  (h:∀(c:Ctx) (a:Act),St c H→(∀x∈o.op.operands.toList,Rep c (ρ x) (a.eval x))→∃c',(execOp a.eval o).run P c.w=.ok .skip c'.w∧St c' H'∧Ext c c') (hd:Sm o:=by intro r _;cases r<;>rfl):
  Does P o ρ H (fun x' H''=>x'=.top∧H''=H'):=by
 intro r c a next Q hs hρ hk
 obtain⟨c',h1,h2,h3⟩:=h c a hs hρ;refine owp hd ?_;rw[h1];exact hk c' .top undef H' h2 h3 (.top _) ⟨rfl,rfl⟩
def uZ(r:BR)(H:AHeap):Res:=⟨r.v,H,r.s⟩
theorem Rep.cptr_inv{c:Ctx}{cs:List AV}{v:Value}(h:Rep c (.cptr cs) v):∃a,v=.pointer (some a):=by
 cases h with|cptr _ a=>exact⟨a,rfl⟩
def aJw(x:AV)(H:AHeap):Res:=
 match x with
 |.ref i v off=>⟨.ref i v off,H,uW H (.ref i v off)⟩
 |.cptr cs=>⟨.cptr cs,H,True⟩
 |_=>⟨.top,H,False⟩
def qW(P:Program)(t:TypeId):Bool:=
 match P.underlying t with
 |some d=>aUG P d
 |none=>false
def aL(P:Program)(op:Op)(ρ:Operand→AV)(H:AHeap):Res:=
 match op with
 |.move x=>⟨ρ x,H,True⟩
 |.assign x=>⟨ρ x,H,True⟩
 |.alloc t=>aQO P t H
 |.box _ x=>aXa (ρ x) H
 |.build t ps=>⟨(aJm P t (ps.toList.map fun p=>(p.1,ρ p.2))).v,H,qW P t=true∧(aJm P t (ps.toList.map fun p=>(p.1,ρ p.2))).s⟩
 |.buildSlice t n ps=>uZ (aDD P t n (ps.toList.map fun p=>(p.1,ρ p.2))) H
 |.load t x=>uZ (yW P t (ρ x) H) H
 |.store t a x=>aEY P t (ρ a) (ρ x) H
 |.nilCheck x=>aJw (ρ x) H
 |.binOp op t x y _=>uZ (aJp P (isK x||isK y) op t (ρ x) (ρ y)) H
 |.unOp op _ x=>uZ (aun op (ρ x)) H
 |.convert s d x=>uZ (aUM P s d (ρ x)) H
 |.makeInterface t x=>⟨.iface t (ρ x),H,aJs P t=true⟩
 |.makeFunc fn f cs=>⟨.func fn (f.toList.map ρ) (cs.toList.map ρ),H,True⟩
 |.slice t x lo hi mx=>uZ (aQR P t (ρ x) (lo.map ρ) (hi.map ρ) (mx.map ρ) H) H
 |.fieldAddr t x f=>⟨(aAI P t f (ρ x)).v,H,uW H (ρ x)∧(aAI P t f (ρ x)).s⟩
 |.field t x f=>uZ (aQP P t f (ρ x)) H
 |.indexAddr t x i=>⟨(aAJ P t (ρ x) (ρ i)).v,H,uW H (ρ x)∧(aAJ P t (ρ x) (ρ i)).s⟩
 |.index t x i=>uZ (aQQ P t (ρ x) (ρ i)) H
 |.typeAssert x _ t ok=>uZ (aNk P (ρ x) t ok) H
 |.extract x i=>uZ (aJq (ρ x) i) H
 |.makeSlice t l k=>aE0 P t (ρ l) (ρ k) H
 |.range t x=>aNh P t (ρ x) H
 |.makeMap _ none=>aJn H
 |.lookup t x k ok=>uZ (aNg P t (ρ x) (ρ k) ok H) H
 |.entry x=>uZ (aQS (ρ x) H) H
 |.mapUpdate t x k v=>kH P t (ρ x) (ρ k) (ρ v) H
 |.insert t x k v=>kH P t (ρ x) (ρ k) (ρ v) H
 |.next it b=>aUI (ρ it) b H
 |.call ⟨.builtin b,xs,ts⟩=>aJu P b ts.toList (xs.toList.map ρ) H
 |_=>⟨.top,H,False⟩
theorem sX{c:Ctx}{ρ:Operand→AV}{e:Operand→Value}{xs:Array Operand}(h:∀x∈xs.toList,Rep c (ρ x) (e x)):RepA c (xs.toList.map ρ) (xs.map e):=by
 grind [Ctx,Operand,Value,Array,RepA]
theorem qX{c:Ctx}{ρ:Operand→AV}{e:Operand→Value}{o:Option Operand}(h:∀x,o=some x→Rep c (ρ x) (e x)):
  (∀y,o.map ρ=some y→∃u,o.map e=some u∧Rep c y u)∧(o.map ρ=none→o.map e=none):=by
 grind [Ctx,Operand,Value,Option]
theorem eH{o:Oper}{ρ:Operand→AV}{H:AHeap}(hs:(aL P o.op ρ H).s):
  Does P o ρ H (fun x' H'=>x'=(aL P o.op ρ H).v∧H'=(aL P o.op ρ H).H):=by
 obtain⟨dst,op,ty,pos,after,guard⟩:=o;cases op<;>simp only[aL,uZ]at hs ⊢;case move x=>exact bP fun c a hst hρ=>⟨c,_,rfl,hst,Ext.refl c,hρ x (by simp[Op.operands])⟩
 case assign x=>exact bP fun c a hst hρ=>⟨c,_,rfl,hst,Ext.refl c,hρ x (by simp[Op.operands])⟩
 case alloc t=>
  refine bP fun c a hst hρ=>?_
  obtain⟨c',v,h1,h2,h3,h4⟩:=aM9 (P:=P) hst hs;exact⟨c',v,by simp only[execOp,Sem.run_bind,h1];rfl,h2,h3,h4⟩
 case box t x=>
  refine bP fun c a hst hρ=>?_
  obtain⟨c',v,h1,h2,h3,h4⟩:=aQN (P:=P) (t:=t) hst (hρ x (by simp[Op.operands])) hs
  exact⟨c',v,by simp only[execOp,Sem.run_bind,h1];rfl,h2,h3,h4⟩
 case build t ps=>
  obtain⟨hf,hs⟩:=hs;refine bP fun c a hst hρ=>?_
  have hmem:∀p∈ps.toList,Rep c (ρ p.2) (a.eval p.2):=fun p hp=>hρ p.2 (by simp only[Op.operands,zAm];exact⟨p,hp,rfl⟩)
  obtain⟨v,h1,h2⟩:=aNa (P:=P) (vs:=ps.map fun(i,x)=>(i,a.eval x)) (by simp[zB1,Function.comp_def]) (fun k p q h1 h2=>by
   simp only[zAP,zAM]at h1;obtain⟨r,h1,rfl⟩:=h1;rw[Array.getElem?_map]at h2;rw[zBT]at h1;rw[h1]at h2;cases h2;exact hmem r (by rw[zCp];exact zBf h1)) hs (fun d hd=>by unfold qW at hf;rw[hd]at hf;exact hf) c.w
  exact⟨c,v,by simp only[execOp,Sem.run_bind,h1];rfl,hst,Ext.refl c,h2⟩
 case buildSlice t n ps=>
  refine bP fun c a hst hρ=>?_
  have hmem:∀p∈ps.toList,Rep c (ρ p.2) (a.eval p.2):=fun p hp=>hρ p.2 (by simp only[Op.operands,zAm];exact⟨p,hp,rfl⟩)
  obtain⟨c',v,h1,h2,h3,h4⟩:=aGA (P:=P) (vs:=ps.map fun(i,x)=>(i,a.eval x)) hst (by simp[zB1,Function.comp_def]) (fun k p q h1 h2=>by
   simp only[zAP,zAM]at h1;obtain⟨r,h1,rfl⟩:=h1;rw[Array.getElem?_map]at h2;rw[zBT]at h1;rw[h1]at h2;cases h2;exact hmem r (by rw[zCp];exact zBf h1)) hs
  exact⟨c',v,by simp only[execOp,Sem.run_bind,h1];rfl,h2,h3,h4⟩
 case load t x=>
  refine bP fun c a hst hρ=>?_
  obtain⟨v,h1,h2⟩:=yX (P:=P) hst (hρ x (by simp[Op.operands])) hs
  exact⟨c,v,by simp only[execOp,Sem.run_bind,h1];rfl,hst,Ext.refl c,h2⟩
 case store t x y=>
  have hv:(aEY P t (ρ x) (ρ y) H).v=.top:=by unfold aEY;split<;>(try split)<;>rfl
  rw[hv];refine xB fun c a hst hρ=>?_
  obtain⟨w',h1,h2,h3⟩:=aM8 (P:=P) hst (hρ x (by simp[Op.operands])) (hρ y (by simp[Op.operands])) hs
  exact⟨_,by simp only[execOp,Sem.run_bind,h1];rfl,h3,h2⟩
 case nilCheck x=>
  refine bP fun c a hst hρ=>?_
  have hx:=hρ x (by simp[Op.operands])
  have e:(aJw (ρ x) H).v=ρ x∧(aJw (ρ x) H).H=H∧∃a',a.eval x=.pointer (some a'):=by
   unfold aJw at hs ⊢;split at hs
   ·rename_i i v off hh;rw[hh]at hx;obtain⟨b,hb, -⟩:=aDB hx (aPO (off:=off) hst hs) 0;exact⟨hh.symm,rfl,b,hb⟩
   ·rename_i cs hh;rw[hh]at hx;obtain⟨a',ha'⟩:=hx.cptr_inv;exact⟨hh.symm,rfl,a',ha'⟩
   ·exact hs.elim
  obtain⟨e1,e2,a',e3⟩:=e;rw[e1,e2];refine⟨c,.pointer (some a'),?_,hst,Ext.refl c,by rw[←e3];exact hx⟩
  simp only[execOp];rw[e3];rfl
 case binOp op t x y ty'=>
  refine bP fun c a hst hρ=>?_
  obtain⟨v,h1,h2⟩:=aPT (P:=P) (X:=x) (Y:=y) (hρ x (by simp[Op.operands])) (hρ y (by simp[Op.operands])) hs c.w
  exact⟨c,v,by simp only[execOp];rw[Sem.run_bind,h1];rfl,hst,Ext.refl c,h2⟩
 case unOp op t x=>
  refine bP fun c a hst hρ=>?_
  obtain⟨v,h1,h2⟩:=aTc (P:=P) (hρ x (by simp[Op.operands])) hs c.w
  exact⟨c,v,by simp only[execOp,Sem.run_bind,h1];rfl,hst,Ext.refl c,h2⟩
 case convert s d x=>
  refine bP fun c a hst hρ=>?_
  obtain⟨v,h1,h2⟩:=aPU (P:=P) (hρ x (by simp[Op.operands])) hs
  exact⟨c,v,by simp only[execOp,Sem.run_bind,h1];rfl,hst,Ext.refl c,h2⟩
 case makeInterface t x=>
  exact bP fun c a hst hρ=>⟨c,_,by simp only[execOp,Sem.run_bind,aJt hs];rfl,hst,Ext.refl c,.iface _ _ _ (hρ x (by simp[Op.operands]))⟩
 case makeFunc fn f cs=>
  refine bP fun c a hst hρ=>⟨c,.func fn (f.map a.eval) (cs.map a.eval),by simp only[execOp,Instr.makeFunc,Sem.run_bind,Sem.run_pure];rfl,hst,Ext.refl c,?_⟩
  obtain⟨p1,p2⟩:=sX (c:=c) (ρ:=ρ) (e:=a.eval) (xs:=f) (fun x hx=>hρ x (by simp only[Op.operands,zBP,zAy];exact .inl hx))
  obtain⟨q1,q2⟩:=sX (c:=c) (ρ:=ρ) (e:=a.eval) (xs:=cs) (fun x hx=>hρ x (by simp only[Op.operands,zBP,zAy];exact .inr hx))
  exact .func _ _ _ _ _ p1 q1 p2 q2
 case slice t x lo hi mx=>
  refine bP fun c a hst hρ=>?_
  obtain⟨l1,l2⟩:=qX (c:=c) (ρ:=ρ) (e:=a.eval) (o:=lo) (fun y hy=>hρ y (by subst hy;simp[Op.operands]))
  obtain⟨h1,h2⟩:=qX (c:=c) (ρ:=ρ) (e:=a.eval) (o:=hi) (fun y hy=>hρ y (by subst hy;simp[Op.operands]))
  obtain⟨m1,m2⟩:=qX (c:=c) (ρ:=ρ) (e:=a.eval) (o:=mx) (fun y hy=>hρ y (by subst hy;simp[Op.operands]))
  obtain⟨v,g1,g2⟩:=aNd (P:=P) hst (hρ x (by simp[Op.operands])) l1 l2 h1 h2 m1 m2 hs c.w
  exact⟨c,v,by simp only[execOp,Sem.run_bind,g1];rfl,hst,Ext.refl c,g2⟩
 case fieldAddr t x f=>
  refine bP fun c a hst hρ=>?_
  obtain⟨v,h1,h2⟩:=aHL (P:=P) hst (hρ x (by simp[Op.operands])) hs.1 hs.2 c.w
  exact⟨c,v,by simp only[execOp,Sem.run_bind,h1];rfl,hst,Ext.refl c,h2⟩
 case field t x f=>
  refine bP fun c a hst hρ=>?_
  obtain⟨v,h1,h2⟩:=aNb (P:=P) (hρ x (by simp[Op.operands])) hs c.w
  exact⟨c,v,by simp only[execOp,Sem.run_bind,h1];rfl,hst,Ext.refl c,h2⟩
 case indexAddr t x i=>
  refine bP fun c a hst hρ=>?_
  obtain⟨v,h1,h2⟩:=aHM (P:=P) hst (hρ x (by simp[Op.operands])) (hρ i (by simp[Op.operands])) hs.1 hs.2 c.w
  exact⟨c,v,by simp only[execOp,Sem.run_bind,h1];rfl,hst,Ext.refl c,h2⟩
 case index t x i=>
  refine bP fun c a hst hρ=>?_
  obtain⟨v,h1,h2⟩:=aNc (P:=P) (hρ x (by simp[Op.operands])) (hρ i (by simp[Op.operands])) hs c.w
  exact⟨c,v,by simp only[execOp,Sem.run_bind,h1];rfl,hst,Ext.refl c,h2⟩
 case typeAssert x xt t ok=>
  refine bP fun c a hst hρ=>?_
  obtain⟨v,h1,h2⟩:=aME (P:=P) (xt:=xt) (hρ x (by simp[Op.operands])) hs c.w
  exact⟨c,v,by simp only[execOp,Sem.run_bind,h1];rfl,hst,Ext.refl c,h2⟩
 case extract x i=>
  refine bP fun c a hst hρ=>?_
  obtain⟨v,h1,h2⟩:=aJr (P:=P) (hρ x (by simp[Op.operands])) hs c.w
  exact⟨c,v,by simp only[execOp,Sem.run_bind,h1];rfl,hst,Ext.refl c,h2⟩
 case makeSlice t l k=>
  refine bP fun c a hst hρ=>?_
  obtain⟨c',v,h1,h2,h3,h4⟩:=aHP (P:=P) hst (hρ l (by simp[Op.operands])) (hρ k (by simp[Op.operands])) hs
  exact⟨c',v,by simp only[execOp,Sem.run_bind,h1];rfl,h2,h3,h4⟩
 case range t x=>
  refine bP fun c a hst hρ=>?_
  obtain⟨c',v,h1,h2,h3,h4⟩:=aMD (P:=P) hst (hρ x (by simp[Op.operands])) hs
  exact⟨c',v,by simp only[execOp,Sem.run_bind,h1];rfl,h2,h3,h4⟩
 case next it b=>
  refine bP fun c a hst hρ=>?_
  obtain⟨c',v,h1,h2,h3,h4⟩:=aPR (P:=P) (ty:=ty) hst (hρ it (by simp[Op.operands])) hs
  exact⟨c',v,by simp only[execOp,Sem.run_bind,h1];rfl,h2,h3,h4⟩
 case makeMap t r=>
  cases r with
  |some x=>exact hs.elim
  |none=>
   refine bP fun c a hst hρ=>?_
   obtain⟨c',v,h1,h2,h3,h4⟩:=aJo (P:=P) (t:=t) hst;exact⟨c',v,by simp only[execOp,zCF,Sem.run_bind,h1];rfl,h2,h3,h4⟩
 case lookup t x k ok=>
  refine bP fun c a hst hρ=>?_
  obtain⟨v,h1,h2⟩:=aMC (P:=P) hst (hρ x (by simp[Op.operands])) (hρ k (by simp[Op.operands])) hs
  exact⟨c,v,by simp only[execOp,Sem.run_bind,h1];rfl,hst,Ext.refl c,h2⟩
 case entry x=>
  refine bP fun c a hst hρ=>?_
  obtain⟨v,h1,h2⟩:=aNj (P:=P) hst (hρ x (by simp[Op.operands])) hs
  exact⟨c,v,by simp only[execOp,Sem.run_bind,h1];rfl,hst,Ext.refl c,h2⟩
 case mapUpdate t x k v=>
  have hv:(kH P t (ρ x) (ρ k) (ρ v) H).v=.top:=by unfold kH;split<;>rfl
  rw[hv];refine xB fun c a hst hρ=>?_
  obtain⟨c',h1,h2,h3⟩:=xA (P:=P) hst (hρ x (by simp[Op.operands])) (hρ k (by simp[Op.operands])) (hρ v (by simp[Op.operands])) hs
  exact⟨c',by simp only[execOp,Sem.run_bind,h1];rfl,h2,h3⟩
 case insert t x k v=>
  have hv:(kH P t (ρ x) (ρ k) (ρ v) H).v=.top:=by unfold kH;split<;>rfl
  rw[hv];refine xB fun c a hst hρ=>?_
  obtain⟨c',h1,h2,h3⟩:=xA (P:=P) hst (hρ x (by simp[Op.operands])) (hρ k (by simp[Op.operands])) (hρ v (by simp[Op.operands])) hs
  exact⟨c',by simp only[execOp,Sem.run_bind,h1];rfl,h2,h3⟩
 case call cl=>
  obtain⟨callee,xs,ts⟩:=cl;cases callee<;>simp only at hs ⊢;case builtin b=>
   refine bP fun c a hst hρ=>?_
   obtain⟨c',v,h1,h2,h3,h4⟩:=aJv (P:=P) (b:=b) (ts:=ts) (ty:=ty) (cs:=xs.map fun|.const _=>true|_=>false) (vs:=xs.map a.eval) hst (sX fun x hx=>hρ x (by simp only[Op.operands,Call.operands,zBP,zAy];exact .inr hx)) hs
   exact⟨c',v,by simp only[execOp,resolve,Sem.run_bind,Sem.run_pure,Result.andThen_ok,invoke];exact h1,h2,h3,h4⟩
def dV(P:Program)(f:FuncId):Bool:=
 match P.funcs[f]? with
 |some fn=>fn.body.isSome&& !(fn.name== "runtime.NumGoroutine")
 |none=>false
theorem lJ{f:FuncId}(h:dV P f=true)(args:Array Value)(w:World):(callFunc f args).run P w=.ok (.enter f args) w:=by
 unfold dV at h;cases hf:P.funcs[f]? with
 |none=>rw[hf]at h;cases h
 |some fn=>
  rw[hf]at h;simp only[zAu,zA4]at h;obtain⟨h1,h2⟩:=h;have h3:fn.body.isNone=false:=by cases hb:fn.body<;>simp_all
  simp only[callFunc,Sem.run_bind,run_program,Result.andThen_ok,hf,h2,h3,zAz,zA3];rfl
def AExtern(P:Program)(f:FuncId)(args:List AV)(H:AHeap)(R:AV→AHeap→Prop):Prop:=
 ∀(c:Ctx) (vs:Array Value),St c H→RepAll c args vs→∃v x,(callFunc f vs).run P c.w=.ok (.value v) c.w∧Rep c x v∧R x H
theorem AExtern.mono{P:Program}{f:FuncId}{args:List AV}{H:AHeap}{R R':AV→AHeap→Prop}(h:AExtern P f args H R)(hr:∀x H',R x H'→R' x H'):AExtern P f args H R':=
 fun c vs hs ha=>by
  grind [Program,List,AExtern]
theorem aHS{o:Oper}{ρ:Operand→AV}{H:AHeap}{K:AV→AHeap→Prop}{it:Operand}(ho:o.op=.next it false)(h:aPS (ρ it) H K):Does P o ρ H K:=by
 intro r c a next Q hs hρ hk
 obtain⟨c',v,x',H',h1,h2,h3,h4,h5⟩:=aNi (P:=P) (ty:=o.type) hs (hρ it (by rw[ho];simp[Op.operands])) h
 refine owp (aAN (by rw[ho];simp)) ?_
 have:(execOp a.eval o).run P c.w=.ok (.value v) c'.w:=by simp only[execOp,ho,Sem.run_bind,h1];rfl
 rw[this];exact hk c' x' v H' h2 h3 h4 h5
def AYield(P:Program)(l:Nat)(args:List AV)(H:AHeap)(R:AV→AHeap→Prop):Prop:=
 ∀(c:Ctx) (vs:Array Value),St c H→RepAll c args vs→∃fn tmps ars bd,(Instr.yield l vs).run P c.w=.ok (.round l fn tmps ars bd) c.w∧
  RoundIn Fence.wide 0 P l fn tmps ars bd c.w (fun e w'=>∃c' x v H',e=.returned v∧c'.w=w'∧St c' H'∧Ext c c'∧Rep c' x v∧R x H')
theorem AYield.mono{P:Program}{l:Nat}{args:List AV}{H:AHeap}{R R':AV→AHeap→Prop}(h:AYield P l args H R)(hr:∀x H',R x H'→R' x H'):AYield P l args H R':=
 fun c vs hs ha=>by
  obtain⟨fn,tmps,ars,bd,h1,h2⟩:=h c vs hs ha;exact⟨fn,tmps,ars,bd,h1,h2.mono fun _ _ ⟨c',x,v,H',e1,e2,e3,e4,e5,e6⟩=>⟨c',x,v,H',e1,e2,e3,e4,e5,hr _ _ e6⟩⟩
def ACall(P:Program)(f:AV)(args:List AV)(H:AHeap)(R:AV→AHeap→Prop):Prop:=
 match f with
 |.func (.func fid) first cap=>(dV P fid=true∧ACalls P fid (first++args++cap) H R)∨AExtern P fid (first++args++cap) H R
 |.func (.yield l) [] []=>AYield P l args H R
 |_=>False
theorem ACall.mono{P:Program}{f:AV}{args:List AV}{H:AHeap}{R R':AV→AHeap→Prop}(h:ACall P f args H R)(hr:∀x H',R x H'→R' x H'):ACall P f args H R':=by
 unfold ACall at h ⊢;split at h
 ·rcases h with⟨h1,h2⟩|h1
  ·exact .inl ⟨h1,h2.mono hr⟩
  ·exact .inr (h1.mono hr)
 ·exact h.mono hr
 ·exact h.elim
theorem iC{o:Oper}{ρ:Operand→AV}{H:AHeap}{R:AV→AHeap→Prop}{f:Operand}{xs:Array Operand}{ts:Array TypeId}(ho:o.op=.call ⟨.value f,xs,ts⟩)(h:ACall P (ρ f) (xs.toList.map ρ) H R):Does P o ρ H R:=by
 intro r c a next Q hs hρ hk
 unfold ACall at h;split at h
 ·rename_i fid first cap hf
  have hrf:=hρ f (by grind [Op.operands,Call.operands])
  rw[hf]at hrf;generalize hev:a.eval f=vf at hrf;cases hrf with
  |func _ _ _ v1 v2 hl1 hl2 hr1 hr2=>
   obtain⟨hl3,hr3⟩:=sX (c:=c) (ρ:=ρ) (e:=a.eval) (xs:=xs) (fun x hx=>hρ x (by rw[ho];simp only[Op.operands,Call.operands,zBP,zAy];exact .inr hx))
   have hrun:(execOp a.eval o).run P c.w=(callFunc fid (v1++xs.map a.eval++v2)).run P c.w:=by
    simp only[execOp,ho,resolve,hev,Deferred.ofValue,Sem.run_bind,Sem.run_pure,Result.andThen_ok,invoke]
   have hall:RepAll c (first++xs.toList.map ρ++cap) (v1++xs.map a.eval++v2):=by
    refine⟨by simp[hl1,hl2,hl3],fun i x v g1 g2=>?_⟩
    by_cases h1:i<first.length
    ·rw[zAr,zAt h1]at g1;rw[Array.append_assoc,zBu (by omega)]at g2
     exact hr1 _ _ _ g1 g2
    ·by_cases h2:i<first.length+(xs.toList.map ρ).length
     ·rw[zAr,zAV (by omega),zAt (by omega)]at g1
      rw[Array.append_assoc,zBH (by omega),zBu (by omega),hl1]at g2
      exact hr3 _ _ _ g1 g2
     ·rw[zAr,zAV (by omega),zAV (by omega)]at g1
      rw[Array.append_assoc,zBH (by omega),zBH (by omega),hl1,hl3]at g2
      exact hr2 _ _ _ g1 g2
   refine owp (aAN (by rw[ho];simp)) ?_
   rw[hrun];rcases h with⟨hok,h⟩|h
   ·rw[lJ hok];refine⟨fun h=>(by cases h),callsIn_wide.2 ?_⟩
    refine(h c _ hs hall).mono fun e w' ⟨c',x,v,H',e1,e2,e3,e4,e5,e6⟩=>?_
    subst e1;subst e2;exact hk c' x v H' e3 e4 e5 e6
   ·obtain⟨v,x,e1,e2,e3⟩:=h c _ hs hall;rw[e1];exact hk c x v H hs (Ext.refl c) e2 e3
 ·rename_i l hf;have hrf:=hρ f (by rw[ho];simp[Op.operands,Call.operands])
  rw[hf]at hrf;generalize hev:a.eval f=vf at hrf;cases hrf with
  |func _ _ _ v1 v2 hl1 hl2 _ _=>
   obtain rfl:v1= #[]:=Array.eq_empty_of_size_eq_zero hl1;obtain rfl:v2= #[]:=Array.eq_empty_of_size_eq_zero hl2;have hall:RepAll c (xs.toList.map ρ) (xs.map a.eval):=sX (c:=c) (ρ:=ρ) (e:=a.eval) (xs:=xs) (fun x hx=>hρ x (by rw[ho];simp only[Op.operands,Call.operands,zBP,zAy];exact .inr hx))
   obtain⟨fn,tmps,ars,bd,h1,h2⟩:=h c _ hs hall;have hrun:(execOp a.eval o).run P c.w=.ok (.round l fn tmps ars bd) c.w:=by
    simp only[execOp,ho,resolve,hev,Deferred.ofValue,Sem.run_bind,Sem.run_pure,Result.andThen_ok,invoke];simpa using h1
   refine owp (aAN (by rw[ho];simp)) ?_
   rw[hrun];refine⟨fun h=>(by cases h),RoundIn.mono (F:=wf r) (n:=0) h2 fun e w' ⟨c',x,v,H',e1,e2,e3,e4,e5,e6⟩=>?_⟩
   subst e1;subst e2;exact hk c' x v H' e3 e4 e5 e6
 ·exact h.elim
def lR(P:Program)(t:TypeId)(m:String):Option FuncId:=
 match P.info? t with
 |some i=>match i.methods.find? (·.name==m)with
  |some mt=>bif mt.path.isEmpty then
    match mt.func,P.underlying t with
    |some (f,true),some (.pointer _)=>some f
    |some (_,false),some (.pointer _)=>none
    |some (f,false),some _=>some f
    |_,_=>none
   else none
  |none=>none
 |none=>none
def dK(P:Program)(m:String):AV→AV
 |.iface t v=>match lR P t m with
  |some f=>.func (.func f) [v] []
  |none=>.top
 |_=>.top
theorem aE2{t:TypeId}{m:String}{f:FuncId}(h:lR P t m=some f)(n:Nat)(v:Value)(w:World):(method (n+1) t v m).run P w=.ok (f,v) w:=by
 unfold lR at h;cases hi:P.info? t with
 |none=>rw[hi]at h;cases h
 |some i=>
  rw[hi]at h;simp only at h;cases hm:i.methods.find? (·.name==m)with
  |none=>rw[hm]at h;cases h
  |some mt=>
   rw[hm]at h;simp only at h;cases hp:mt.path.isEmpty with
   |false=>rw[hp]at h;cases h
   |true=>
    rw[hp,cond_true]at h;have hpl:mt.path.toList=[]:=by
     have:mt.path= #[]:=by simpa using hp
     rw[this]
    split at h
    ·rename_i f' e hf hu;cases h;simp only[method,typeInfo,Sem.run_bind,run_program,Result.andThen_ok,hi,Sem.run_pure,hm,hpl,follow,hf,receiverAt,run_underlying hu,Place.get]
    ·cases h
    ·rename_i f' d hne hf hu;cases h;have hd:∀e,d≠.pointer e:=fun e he=>by subst he;exact hne _ rfl
     simp only[method,typeInfo,Sem.run_bind,run_program,Result.andThen_ok,hi,Sem.run_pure,hm,hpl,follow,hf,receiverAt,run_underlying hu,Place.get];try(cases d<;>first|exact absurd rfl (hd _)|rfl)
    ·cases h
theorem jG{o:Oper}{ρ:Operand→AV}{H:AHeap}{R:AV→AHeap→Prop}{r:Operand}{m:String}{xs:Array Operand}{ts:Array TypeId}(ho:o.op=.call ⟨.invoke r m,xs,ts⟩)(h:ACall P (dK P m (ρ r)) (xs.toList.map ρ) H R):Does P o ρ H R:=by
 intro rr c a next Q hs hρ hk
 unfold dK at h;split at h
 ·rename_i t x hx;cases hm:lR P t m with
  |none=>rw[hm]at h;exact h.elim
  |some fid=>
   rw[hm]at h;have hrf:=hρ r (by grind [Op.operands,Call.operands])
   rw[hx]at hrf;generalize hev:a.eval r=vf at hrf;cases hrf with
   |iface _ _ v hv=>
    obtain⟨hl3,hr3⟩:=sX (c:=c) (ρ:=ρ) (e:=a.eval) (xs:=xs) (fun x hx=>hρ x (by rw[ho];simp only[Op.operands,Call.operands,zBP,zAy];exact .inr hx))
    have hext:(#[Value.iface t v]++xs.map a.eval).extract 1 (#[Value.iface t v]++xs.map a.eval).size=xs.map a.eval:=by
     apply Array.ext'
     simp[List.take_of_length_le]
    have h0:(#[Value.iface t v]++xs.map a.eval)[0]?=some (.iface t v):=by rw[zBu (by simp)];rfl
    have hdep:0<Made.depth:=by decide
    obtain⟨n,hn⟩:∃n,P.types.size+Made.depth=n+1:=⟨P.types.size+Made.depth-1,by omega⟩
    have hrun:(execOp a.eval o).run P c.w=(callFunc fid (#[v]++xs.map a.eval)).run P c.w:=by
     simp only[execOp,ho,resolve,hev,Sem.run_bind,Sem.run_pure,Result.andThen_ok,invoke,h0,callMethod,run_program,hn,aE2 hm,hext]
    have hall:RepAll c ([x]++xs.toList.map ρ++[]) (#[v]++xs.map a.eval):=by
     refine⟨by simp[hl3];omega,fun i y u g1 g2=>?_⟩
     rw[zAd]at g1;cases i with
     |zero=>
      rw[zBu (by simp)]at g2
      cases g1;cases g2;exact hv
     |succ i=>
      rw[zA0,zAW,zB0]at g1;rw[zBH (by simp)]at g2
      exact hr3 i y u g1 (by simpa using g2)
    refine owp (aAN (by rw[ho];simp)) ?_
    rw[hrun];rcases h with⟨hok,h⟩|h
    ·rw[lJ hok];refine⟨fun h=>(by cases h),callsIn_wide.2 ?_⟩
     refine(h c _ hs hall).mono fun e w' ⟨c',x,v,H',e1,e2,e3,e4,e5,e6⟩=>?_
     subst e1;subst e2;exact hk c' x v H' e3 e4 e5 e6
    ·obtain⟨v,x,e1,e2,e3⟩:=h c _ hs hall;rw[e1];exact hk c x v H hs (Ext.refl c) e2 e3
 ·exact h.elim
theorem Does.mono{o:Oper}{ρ:Operand→AV}{H:AHeap}{R R':AV→AHeap→Prop}(h:Does P o ρ H R)(hr:∀x H',R x H'→R' x H'):Does P o ρ H R':=
 fun r c a next Q hs hρ hk=>h r c a next Q hs hρ fun c' x v H' h1 h2 h3 h4=>hk c' x v H' h1 h2 h3 (hr _ _ h4)
def lK:Value→Bool
 |.slice none 0 0=>true
 |_=>false
def oD:Operand→Bool
 |.const v=>lK v
 |_=>false
def iQ:BinOp→Bool
 |.eql=>true
 |_=>false
def aJx(P:Program)(t:TypeId):Bool:=
 match P.underlying t with
 |some (.slice _)=>true
 |_=>false
def aJy(P:Program)(t:TypeId)(H:AHeap)(x:AV)(K:AV→Prop):Prop:=
 match x with
 |.sl _ es=>aJx P t=true∧∀b:Bool,(es≠[]→b=false)→K (.bool b)
 |.osl s i v off len lc=>aJx P t=true∧uW H (.osl s i v off len lc)∧∀b:Bool,(len≠0→b=false)→K (.bool b)
 |_=>False
theorem aHT{y:Operand}(h:oD y=true):y=.const (.slice none 0 0):=by
 unfold oD at h;split at h
 ·rename_i v;unfold lK at h;split at h
  ·rfl
  ·cases h
 ·cases h
theorem aHU{t e:TypeId}(hu:P.underlying t=some (.slice e))(x:Operand)(base:Option Addr)(len cap:Nat)(w:World):
  (do eqGuard .eql t x (.const (.slice none 0 0)) (.slice base len cap) (.slice none 0 0);binOp .eql t (.slice base len cap) (.slice none 0 0):Sem Value).run P w=.ok (.bool base.isNone) w:=by
 have key:∀d,(Op.equalIn (d+1) t (.slice base len cap) (.slice none 0 0)).run P w=.ok base.isNone w:=fun d=>by
  cases base<;>simp[Op.equalIn,run_underlying hu]
 have key2:(Op.equal t (.slice base len cap) (.slice none 0 0)).run P w=.ok base.isNone w:=key 9999;have hg:(eqGuard .eql t x (.const (.slice none 0 0)) (.slice base len cap) (.slice none 0 0)).run P w=.ok () w:=rfl;simp only[Sem.run_bind,hg,Result.andThen_ok,binOp,key2,Sem.run_pure]
theorem aJz{o:Oper}{ρ:Operand→AV}{H:AHeap}{K:AV→Prop}{op:BinOp}{t t':TypeId}{x y:Operand}(ho:o.op=.binOp op t x y t')(hn:(iQ op&&oD y)=true)(h:aJy P t H (ρ x) K):
  Does P o ρ H (fun v H'=>K v∧H'=H):=by
 intro r c a next Q hs hρ hk
 rw[zAu]at hn;have hop:op=.eql:=by cases op<;>first|rfl|exact absurd hn.1 (by decide)
 subst hop;obtain rfl:=aHT hn.2;have hx:=hρ x (by rw[ho];simp[Op.operands])
 have hsl:∀{e base len cap},P.underlying t=some (.slice e)→a.eval x=.slice base len cap→(execOp a.eval o).run P c.w=.ok (.value (.bool base.isNone)) c.w:=fun{e base len cap} hu he=>by
  have:=aHU hu x base len cap c.w;simp only[execOp,ho,he];rw[show a.eval (.const (.slice none 0 0))=.slice none 0 0 from rfl,Sem.run_bind,this]
  rfl
 unfold aJy at h;split at h
 ·rename_i f es hh;obtain⟨h1,h2⟩:=h;rw[hh]at hx;have hu:∃e,P.underlying t=some (.slice e):=by
   unfold aJx at h1;split at h1
   ·rename_i e hu;exact⟨e,hu⟩
   ·cases h1
  obtain⟨e,hu⟩:=hu;obtain⟨base,len,cap,s,vs,he,g1,g2,g3,g4, -⟩:=hx.sl_inv;refine owp (aAN (by rw[ho];simp)) ?_
  rw[hsl hu he];refine hk c (.bool base.isNone) _ H hs (Ext.refl c) (.bool _) ⟨h2 _ fun hne=>?_,rfl⟩
  obtain⟨a',ha', -⟩:=g4 hne;rw[ha'];rfl
 ·rename_i s i v off len lc hh;obtain⟨h1,h3,h2⟩:=h;rw[hh]at hx;have hu:∃e,P.underlying t=some (.slice e):=by
   unfold aJx at h1;split at h1
   ·rename_i e hu;exact⟨e,hu⟩
   ·cases h1
  obtain⟨e,hu⟩:=hu;obtain⟨base,cap,he,g1,g2,g3,g4⟩:=hx.osl_inv (aDC (s:=s) (off:=off) (len:=len) (lc:=lc) hs h3);refine owp (aAN (by rw[ho];simp)) ?_
  rw[hsl hu he];refine hk c (.bool base.isNone) _ H hs (Ext.refl c) (.bool _) ⟨h2 _ fun hne=>?_,rfl⟩
  cases hd:c.vd i with
  |true=>have:=(g3 hd).1;omega
  |false=>
   have h5:=(g4 hd).1.resolve_left (by omega)
   rw[h5];rfl
 ·exact h.elim
def uC:AV→Bool
 |.bool b=>b
 |_=>false
def isB:AV→Bool
 |.bool _=>true
 |_=>false
theorem aJA{x:AV}(h:isB x=true):x=.bool (uC x):=by
 cases x<;>first|rfl|cases h
def bC(v:AV)(want:Bool):Bool:=
 match v with
 |.bool b=>bif want then b else !b
 |.opt g x=>g&&(bif want then uC x else !uC x)
 |_=>false
def qU(v:AV):Prop:=
 match v with
 |.bool _=>True
 |.opt g x=>g=true→isB x=true
 |_=>False
def aJB:AV→AV
 |.opt _ v=>v
 |v=>v
def aNl(g:Bool):AV→Prop
 |.opt g' _=>g=true→g'=true
 |_=>True
def aHV(all:List Oper)(j:Nat):Option Tmp:=(all[j]?).bind (·.dst)
def aK(α:AF):Option Tmp→AV
 |some t=>look α t
 |none=>.top
def aBV:AV→Option (Bool×Bool)
 |.bool b=>some (true,b)
 |.opt g x=>some (g,uC x)
 |_=>none
def aDE:AV→Prop
 |.bool _=>True
 |.opt g x=>g=true→isB x=true
 |_=>False
def eR(g:Bool)(c a b:AV):BR:=
 match aBV c,aBV a,aBV b with
 |some (gc,cb),some (ga,x),some (gb,y)=>⟨.bool (bif cb then x else y),(g=true→gc=true)∧(g=true→cb=true→ga=true)∧(g=true→cb=false→gb=true)∧aDE c∧aDE a∧aDE b⟩
 |_,_,_=>bad
theorem xC{c:Ctx}{x:AV}{v:Value}{g b:Bool}(h:aBV x=some (g,b))(ht:aDE x)(hx:Rep c x v)(hg:g=true):v=.bool b:=by
 unfold aBV at h;split at h
 ·simp only[zB7,Prod.mk.injEq]at h;rw[h.2]at hx;exact hx.bool_inv
 ·simp only[zB7,Prod.mk.injEq]at h;have h3:=aJA (ht (h.1.trans hg));cases hx with
  |opt _ _ _ h1=>
   have h2:=h1 (h.1.trans hg);rw[h3]at h2;rw[←h.2];exact h2.bool_inv
 ·cases h
theorem kI{o:Oper}{ρ:Operand→AV}{H:AHeap}{x y z:Operand}{g:Bool}(ho:o.op=.pick x y z)(hg:g=true)(hs:(eR g (ρ x) (ρ y) (ρ z)).s):
  Does P o ρ H (fun v H'=>v=(eR g (ρ x) (ρ y) (ρ z)).v∧H'=H):=by
 refine bP (hd:=aAN (by rw[ho];simp)) fun c a hst hρ=>?_
 have hx:=hρ x (by rw[ho];simp[Op.operands])
 have hy:=hρ y (by rw[ho];simp[Op.operands])
 have hz:=hρ z (by rw[ho];simp[Op.operands])
 have hrun:∀cb:Bool,a.eval x=.bool cb→(execOp a.eval o).run P c.w=.ok (.value (if cb then a.eval y else a.eval z)) c.w:=by
  grind [execOp,asBool,Sem.run_bind,Sem.run_pure,Result.andThen_ok]
 generalize hcx:ρ x=cx at hx hs ⊢;generalize hcy:ρ y=cy at hy hs ⊢;generalize hcz:ρ z=cz at hz hs ⊢;unfold eR at *;split at hs
 ·rename_i gc cb ga b1 gb b2 e1 e2 e3;refine⟨c,_,hrun cb (xC e1 hs.2.2.2.1 hx (hs.1 hg)),hst,Ext.refl c,?_⟩;cases cb
  ·rw[zAe (by simp),xC e3 hs.2.2.2.2.2 hz (hs.2.2.1 hg rfl)];exact .bool _
  ·rw[zAl rfl,xC e2 hs.2.2.2.2.1 hy (hs.2.1 hg rfl)];exact .bool _
 ·exact hs.elim
end
section
variable {P:Program}
def bT:List Oper→Nat→Option Tmp
 |[],_=>none
 |o::_,0=>o.dst
 |_::os,n+1=>bT os n
theorem aQT(l:List Oper)(j:Nat):bT l j=(l[j]?).bind (·.dst):=by
 induction l generalizing j with
 |nil=>rfl
 |cons o os ih=>cases j with
  |zero=>rfl
  |succ n=>simpa[bT]using ih n
def cX(g:Bool)(α:AF):List Operand→Prop
 |[]=>True
 |x::xs=>aNl g (ev α x)∧cX g α xs
def eE(α:AF)(x:Operand):AV:=aJB (ev α x)
def lM(P:Program)(g:Bool)(f:AV)(xs:List AV)(H:AHeap)(K:AV→Prop):Prop:=
 ∃v,(g=true→ACall P f xs H (fun v' H'=>v'=v∧H'=H))∧K v
def lN(P:Program)(f:AV)(xs:List AV)(H:AHeap)(K:AV→AHeap→Prop):Prop:=ACall P f xs H K
def aBW(P:Program)(g:Bool)(f:AV)(xs:List AV)(H:AHeap)(K:AV→AHeap→Prop):Prop:=
 lM P g f xs H (fun v=>K v H)∨(g=true∧lN P f xs H K)
def gO(P:Program)(all:List Oper):List Oper→AF→AHeap→(AF→AHeap→Prop)→Prop
 |[],α,H,k=>k α H
 |⟨dst,op,_,_,_,guard⟩::os,α,H,k=>
  match guard,op with
  |none,.pick x y z=>(eR true (ev α x) (ev α y) (ev α z)).s∧gO P all os (bO dst (eR true (ev α x) (ev α y) (ev α z)).v α) H k
  |none,.call ⟨.value f,xs,_⟩=>lN P (ev α f) (xs.toList.map (ev α)) H (fun v H'=>gO P all os (bO dst v α) H' k)
  |none,.call ⟨.invoke r m,xs,_⟩=>lN P (dK P m (ev α r)) (xs.toList.map (ev α)) H (fun v H'=>gO P all os (bO dst v α) H' k)
  |none,.next it false=>aPS (ev α it) H (fun v H'=>gO P all os (bO dst v α) H' k)
  |none,.binOp op t x y t'=>bif iQ op&&oD y then aJy P t H (ev α x) (fun v=>gO P all os (bO dst v α) H k)
    else(aL P (.binOp op t x y t') (ev α) H).s∧gO P all os (bO dst (aL P (.binOp op t x y t') (ev α) H).v α) (aL P (.binOp op t x y t') (ev α) H).H k
  |none,op=>(aL P op (ev α) H).s∧gO P all os (bO dst (aL P op (ev α) H).v α) (aL P op (ev α) H).H k
  |some (j,want),.pick x y z=>
   qU (aK α (bT all j))∧((bC (aK α (bT all j)) want)=true→(eR (bC (aK α (bT all j)) want) (ev α x) (ev α y) (ev α z)).s)∧
    gO P all os (bO dst (.opt (bC (aK α (bT all j)) want) (eR (bC (aK α (bT all j)) want) (ev α x) (ev α y) (ev α z)).v) α) H k
  |some (j,want),.call ⟨.value f,xs,_⟩=>
   qU (aK α (bT all j))∧cX (bC (aK α (bT all j)) want) α (f::xs.toList)∧
    aBW P (bC (aK α (bT all j)) want) (eE α f) (xs.toList.map (eE α)) H (fun v H=>gO P all os (bO dst (.opt (bC (aK α (bT all j)) want) v) α) H k)
  |some (j,want),.call ⟨.invoke r m,xs,_⟩=>
   qU (aK α (bT all j))∧cX (bC (aK α (bT all j)) want) α (r::xs.toList)∧
    aBW P (bC (aK α (bT all j)) want) (dK P m (eE α r)) (xs.toList.map (eE α)) H (fun v H=>gO P all os (bO dst (.opt (bC (aK α (bT all j)) want) v) α) H k)
  |some (j,want),op=>
   qU (aK α (bT all j))∧cX (bC (aK α (bT all j)) want) α op.operands.toList∧((bC (aK α (bT all j)) want)=true→(aL P op (eE α) H).s∧(aL P op (eE α) H).H=H)∧
    gO P all os (bO dst (.opt (bC (aK α (bT all j)) want) (aL P op (eE α) H).v) α) H k
def dQ(P:Program)(all:List Oper)(H:AHeap):List Oper→AF→(AF→Prop)→Prop
 |[],α,k=>k α
 |⟨dst,op,_,_,_,guard⟩::os,α,k=>
  match guard,op with
  |none,.pick x y z=>(eR true (ev α x) (ev α y) (ev α z)).s∧dQ P all H os (bO dst (eR true (ev α x) (ev α y) (ev α z)).v α) k
  |none,.call ⟨.value f,xs,_⟩=>lM P true (ev α f) (xs.toList.map (ev α)) H (fun v=>dQ P all H os (bO dst v α) k)
  |none,.call ⟨.invoke r m,xs,_⟩=>lM P true (dK P m (ev α r)) (xs.toList.map (ev α)) H (fun v=>dQ P all H os (bO dst v α) k)
  |none,op=>(aL P op (ev α) H).s∧(aL P op (ev α) H).H=H∧dQ P all H os (bO dst (aL P op (ev α) H).v α) k
  |some (j,want),.pick x y z=>
   qU (aK α (bT all j))∧((bC (aK α (bT all j)) want)=true→(eR (bC (aK α (bT all j)) want) (ev α x) (ev α y) (ev α z)).s)∧
    dQ P all H os (bO dst (.opt (bC (aK α (bT all j)) want) (eR (bC (aK α (bT all j)) want) (ev α x) (ev α y) (ev α z)).v) α) k
  |some (j,want),.call ⟨.value f,xs,_⟩=>
   qU (aK α (bT all j))∧cX (bC (aK α (bT all j)) want) α (f::xs.toList)∧
    lM P (bC (aK α (bT all j)) want) (eE α f) (xs.toList.map (eE α)) H (fun v=>dQ P all H os (bO dst (.opt (bC (aK α (bT all j)) want) v) α) k)
  |some (j,want),.call ⟨.invoke r m,xs,_⟩=>
   qU (aK α (bT all j))∧cX (bC (aK α (bT all j)) want) α (r::xs.toList)∧
    lM P (bC (aK α (bT all j)) want) (dK P m (eE α r)) (xs.toList.map (eE α)) H (fun v=>dQ P all H os (bO dst (.opt (bC (aK α (bT all j)) want) v) α) k)
  |some (j,want),op=>
   qU (aK α (bT all j))∧cX (bC (aK α (bT all j)) want) α op.operands.toList∧((bC (aK α (bT all j)) want)=true→(aL P op (eE α) H).s∧(aL P op (eE α) H).H=H)∧
    dQ P all H os (bO dst (.opt (bC (aK α (bT all j)) want) (aL P op (eE α) H).v) α) k
def YG(P:Program)(N:Nat)(ops:Array Oper)(H:AHeap)(o:Oper)(α:AF)(R:AV→AHeap→Prop):Prop:=
 ∀(r:Option Nat) (c:Ctx) (a:Act) (next:Act→World→Prop) (Q:Exit→Act→World→Prop),St c H→a.tmps.size=N→(∀t∈o.looksAt ops,Rep c (look α t) (a.tmps.getD t undef))→
  (∀c' x v H',St c' H'→Ext c c'→Rep c' x v→R x H'→next (a.put o.dst v) c'.w)→
  if Region.wanted o (yielded ops a.tmps)then o.wpIn (wf r) 0 P a c.w next Q else next (a.put o.dst undef) c.w
theorem eS{c:Ctx}{α:AF}{a:Act}{x:Operand}(h:∀t,x=.tmp t→Rep c (look α t) (a.tmps.getD t undef)):Rep c (ev α x) (a.eval x):=by
 cases x with
 |tmp t=>exact h t rfl
 |const v=>exact yT c v
 |global g=>exact .top _
 |func f=>exact .func _ [] [] _ _ rfl rfl (by simp) (by simp)
theorem bF{ops:Array Oper}{o:Oper}{t:Nat}(h:Operand.tmp t∈o.op.operands.toList):t∈o.looksAt ops:=by
 unfold Oper.looksAt;grind
theorem YG.of_does{N:Nat}{ops:Array Oper}{H:AHeap}{o:Oper}{α:AF}{R:AV→AHeap→Prop}(hg:o.guard=none)(h:Does P o (ev α) H R):YG P N ops H o α R:=by
 intro r c a next Q hs hsz hl hk
 have hw:Region.wanted o (yielded ops a.tmps)=true:=by unfold Region.wanted;rw[hg]
 rw[zAl hw];exact h r c a next Q hs (fun x hx=>eS fun t ht=>hl t (bF (by subst ht;exact hx))) hk
theorem qY{c:Ctx}{ops:Array Oper}{o:Oper}{α:AF}{a:Act}{j:Nat}{want:Bool}(hg:o.guard=some (j,want))(hl:∀t∈o.looksAt ops,Rep c (look α t) (a.tmps.getD t undef))
  (hok:qU (aK α (bT ops.toList j))):Region.wanted o (yielded ops a.tmps)=bC (aK α (bT ops.toList j)) want:=by
 have hn:bT ops.toList j=(ops[j]?).bind (·.dst):=by rw[aQT,zBT]
 rw[hn]at hok ⊢;unfold Region.wanted;rw[hg];simp only;unfold yielded;cases hd:(ops[j]?).bind (·.dst)with
 |none=>rw[hd]at hok;exact hok.elim
 |some t=>
  rw[hd]at hok;simp only[aK]at hok ⊢;have hr:=hl t (by
   unfold Oper.looksAt;refine zAy.2 (.inr ?_);rw[hg];simp only;rw[hd];simp)
  have key:∀b:Bool,a.tmps.getD t undef=.bool b→a.tmps[t]?=some (.bool b):=by
   intro b hb;rw[zBI]at hb;cases ht:a.tmps[t]? with
   |none=>rw[ht]at hb;simp[undef]at hb
   |some v=>rw[ht]at hb;simpa using hb
  generalize look α t=sv at hr hok ⊢;unfold qU at hok;split at hok
  ·rename_i b;have h1:=key b hr.bool_inv;simp only[zA6,h1,bC];cases b<;>cases want<;>rfl
  ·rename_i g x;cases hr with
   |opt _ _ _ h1 h2=>
    cases g with
    |true=>
     have h4:=h1 rfl;rw[aJA (hok rfl)]at h4;have h3:=key (uC x) h4.bool_inv;simp only[zA6,h3,bC];generalize uC x=b;cases b<;>cases want<;>rfl
    |false=>
     have h3:=h2 rfl;rw[zBI]at h3;simp only[zA6,bC,zB5];cases ht:a.tmps[t]? with
     |none=>simp
     |some v=>
      rw[ht]at h3;simp at h3;subst h3;simp[undef]
  ·exact hok.elim
theorem dA{g:Bool}{α:AF}:∀{xs:List Operand},cX g α xs→∀x∈xs,aNl g (ev α x)
 |[],_,_,hx=>by cases hx
 |y::ys,h,x,hx=>by
  cases hx with
  |head=>exact h.1
  |tail _ hm=>exact dA h.2 x hm
theorem eG{c:Ctx}{g:Bool}{x:AV}{v:Value}(h:Rep c x v)(ho:aNl g x)(hg:g=true):Rep c (aJB x) v:=by
 cases x with
 |opt g' y=>
  cases h with
  |opt _ _ _ h1=>exact h1 (ho hg)
 |_=>exact h
theorem YG.of_guard{N:Nat}{ops:Array Oper}{H:AHeap}{o:Oper}{α:AF}{v:AV}{j:Nat}{want:Bool}(hg:o.guard=some (j,want))(hok:qU (aK α (bT ops.toList j)))
  (ρ:Operand→AV) (hρ:∀(c:Ctx) (a:Act),bC (aK α (bT ops.toList j)) want=true→(∀t∈o.looksAt ops,Rep c (look α t) (a.tmps.getD t undef))→∀x∈o.op.operands.toList,Rep c (ρ x) (a.eval x))
  (h:bC (aK α (bT ops.toList j)) want=true→Does P o ρ H (fun v' H'=>v'=v∧H'=H)):YG P N ops H o α (fun v' H'=>v'=.opt (bC (aK α (bT ops.toList j)) want) v∧H'=H):=by
 intro r c a next Q hs hsz hl hk
 rw[qY hg hl hok];cases hgv:bC (aK α (bT ops.toList j)) want with
 |true=>
  simp only[zBc];rw[hgv]at hk;refine h hgv r c a next Q hs (hρ c a hgv hl) fun c' x v' H' h1 h2 h3 h4=>?_
  obtain⟨rfl,rfl⟩:=h4;exact hk c' _ v' _ h1 h2 (.opt _ _ _ (fun _=>h3) (fun h=>by cases h)) ⟨rfl,rfl⟩
 |false=>
  simp only[zAz,zA3];rw[hgv]at hk;exact hk c _ undef H hs (Ext.refl c) (.opt _ _ _ (fun h=>by cases h) (fun _=>rfl)) ⟨rfl,rfl⟩
theorem YG.of_on{N:Nat}{ops:Array Oper}{H:AHeap}{o:Oper}{α:AF}{K:AV→AHeap→Prop}{j:Nat}{want:Bool}(hg:o.guard=some (j,want))(hok:qU (aK α (bT ops.toList j)))(hv:bC (aK α (bT ops.toList j)) want=true)
  (ρ:Operand→AV) (hρ:∀(c:Ctx) (a:Act),bC (aK α (bT ops.toList j)) want=true→(∀t∈o.looksAt ops,Rep c (look α t) (a.tmps.getD t undef))→∀x∈o.op.operands.toList,Rep c (ρ x) (a.eval x))
  (h:Does P o ρ H (fun v' H'=>K (.opt true v') H')):YG P N ops H o α K:=by
 intro r c a next Q hs hsz hl hk
 rw[qY hg hl hok,hv];simp only[zBc];exact h r c a next Q hs (hρ c a hv hl) fun c' x v' H' h1 h2 h3 h4=>hk c' _ v' H' h1 h2 (.opt _ _ _ (fun _=>h3) (fun h=>by cases h)) h4
theorem YG.mono{N:Nat}{ops:Array Oper}{H:AHeap}{o:Oper}{α:AF}{R R':AV→AHeap→Prop}(h:YG P N ops H o α R)(hr:∀x H',R x H'→R' x H'):YG P N ops H o α R':=
 fun r c a next Q h1 h2 h3 hk=>h r c a next Q h1 h2 h3 fun c' x v H' k1 k2 k3 k4=>hk c' x v H' k1 k2 k3 (hr _ _ k4)
theorem aHW{N:Nat}{ops:Array Oper}{o:Oper}{os:List Oper}{α:AF}{H:AHeap}{k:AF→AHeap→Prop}(h:gO P ops.toList (o::os) α H k):
  YG P N ops H o α (fun v H'=>gO P ops.toList os (bO o.dst v α) H' k):=by
 obtain⟨dst,op,ty,pos,after,guard⟩:=o;have hpure:∀(op:Op) (hop:op.operands=op.operands) (ρ:Operand→AV),True:=fun _ _ _=>trivial
 unfold gO at h;split at h
 ·rename_i x y z;exact(YG.of_does rfl ((kI (o:=⟨dst,.pick x y z,ty,pos,after,none⟩) (ρ:=ev α) (H:=H) rfl rfl h.1))).mono fun v H' ⟨e1,e2⟩=>by subst e1;subst e2;exact h.2
 ·rename_i f xs ts;exact YG.of_does rfl (iC rfl h)
 ·rename_i f m xs ts;exact YG.of_does rfl (jG rfl h)
 ·rename_i it;exact YG.of_does rfl (aHS rfl h)
 ·rename_i op t x y t';cases hn:iQ op&&oD y with
  |true=>
   rw[hn,cond_true]at h;exact(YG.of_does rfl (aJz (o:=⟨dst,.binOp op t x y t',ty,pos,after,none⟩) rfl hn h)).mono fun v H' ⟨e1,e2⟩=>by subst e2;exact e1
  |false=>
   rw[hn,zCn]at h;exact(YG.of_does rfl (eH (o:=⟨dst,.binOp op t x y t',ty,pos,after,none⟩) h.1)).mono fun v H' ⟨e1,e2⟩=>by subst e1;subst e2;exact h.2
 ·rename_i op' _ _;exact(YG.of_does rfl (eH (o:=⟨dst,op,ty,pos,after,none⟩) h.1)).mono fun v H' ⟨e1,e2⟩=>by subst e1;subst e2;exact h.2
 ·rename_i j want x y z;obtain⟨h1,h2,h3⟩:=h;exact(YG.of_guard (o:=⟨dst,.pick x y z,ty,pos,after,some (j,want)⟩) rfl h1 (ev α) (fun c a _ hl x hx=>eS fun t ht=>hl t (bF (by subst ht;exact hx)))
   (fun hg=>kI (g:=bC (aK α (bT ops.toList j)) want) rfl hg (h2 hg))).mono fun v H' ⟨e1,e2⟩=>by subst e1;subst e2;exact h3
 ·rename_i j want f xs ts;obtain⟨h1,h2,⟨v,h3,h4⟩|⟨hv,h⟩⟩:=h
  rotate_left
  ·refine YG.of_on (o:=⟨dst,.call ⟨.value f,xs,ts⟩,ty,pos,after,some (j,want)⟩) rfl h1 hv (eE α) (fun c a hg hl x hx=>eG (eS fun t ht=>hl t (bF (by subst ht;exact hx))) (dA h2 x (by simpa[Op.operands,Call.operands]using hx)) hg) ?_
   rw[hv]at h;exact iC rfl h
  refine(YG.of_guard (o:=⟨dst,.call ⟨.value f,xs,ts⟩,ty,pos,after,some (j,want)⟩) rfl h1 (eE α) (fun c a hg hl x hx=>eG (eS fun t ht=>hl t (bF (by subst ht;exact hx))) (dA h2 x (by simpa[Op.operands,Call.operands]using hx)) hg)
   (fun hg=>iC rfl (h3 hg))).mono fun v H' ⟨e1,e2⟩=>by subst e1;subst e2;exact h4
 ·rename_i j want f m xs ts;obtain⟨h1,h2,⟨v,h3,h4⟩|⟨hv,h⟩⟩:=h
  rotate_left
  ·refine YG.of_on (o:=⟨dst,.call ⟨.invoke f m,xs,ts⟩,ty,pos,after,some (j,want)⟩) rfl h1 hv (eE α) (fun c a hg hl x hx=>eG (eS fun t ht=>hl t (bF (by subst ht;exact hx))) (dA h2 x (by simpa[Op.operands,Call.operands]using hx)) hg) ?_
   rw[hv]at h;exact jG rfl h
  refine(YG.of_guard (o:=⟨dst,.call ⟨.invoke f m,xs,ts⟩,ty,pos,after,some (j,want)⟩) rfl h1 (eE α) (fun c a hg hl x hx=>eG (eS fun t ht=>hl t (bF (by subst ht;exact hx))) (dA h2 x (by simpa[Op.operands,Call.operands]using hx)) hg)
   (fun hg=>jG rfl (h3 hg))).mono fun v H' ⟨e1,e2⟩=>by subst e1;subst e2;exact h4
 ·obtain⟨h1,h2,h3,h4⟩:=h;refine YG.mono (YG.of_guard (v:=(aL P op (eE α) H).v) rfl h1 (eE α) (fun c a hg hl x hx=>eG (eS fun t ht=>hl t (bF (by subst ht;exact hx))) (dA h2 x hx) hg)
   (fun hg=>(eH (h3 hg).1).mono fun v H' ⟨e1,e2⟩=>⟨e1,e2.trans (h3 hg).2⟩)) fun v H' ⟨e1,e2⟩=>by subst e1;subst e2;exact h4
theorem aE3{N:Nat}{ops:Array Oper}{o:Oper}{os:List Oper}{α:AF}{H:AHeap}{k:AF→Prop}(h:dQ P ops.toList H (o::os) α k):
  ∃v,YG P N ops H o α (fun v' H'=>v'=v∧H'=H)∧dQ P ops.toList H os (bO o.dst v α) k:=by
 obtain⟨dst,op,ty,pos,after,guard⟩:=o;unfold dQ at h;split at h
 ·rename_i x y z;exact⟨_,YG.of_does rfl (kI (o:=⟨dst,.pick x y z,ty,pos,after,none⟩) (ρ:=ev α) (H:=H) rfl rfl h.1),h.2⟩
 ·rename_i f xs ts;obtain⟨v,h1,h2⟩:=h;exact⟨v,YG.of_does rfl (iC rfl (h1 rfl)),h2⟩
 ·rename_i f m xs ts;obtain⟨v,h1,h2⟩:=h;exact⟨v,YG.of_does rfl (jG rfl (h1 rfl)),h2⟩
 ·exact⟨_,(YG.of_does rfl (eH h.1)).mono fun v H' ⟨e1,e2⟩=>⟨e1,e2.trans h.2.1⟩,h.2.2⟩
 ·rename_i j want x y z;obtain⟨h1,h2,h3⟩:=h;exact⟨_,YG.of_guard (o:=⟨dst,.pick x y z,ty,pos,after,some (j,want)⟩) rfl h1 (ev α) (fun c a _ hl x hx=>eS fun t ht=>hl t (bF (by subst ht;exact hx)))
   (fun hg=>kI (g:=bC (aK α (bT ops.toList j)) want) rfl hg (h2 hg)),h3⟩
 ·rename_i j want f xs ts;obtain⟨h1,h2,v,h3,h4⟩:=h;exact⟨_,YG.of_guard (o:=⟨dst,.call ⟨.value f,xs,ts⟩,ty,pos,after,some (j,want)⟩) rfl h1 (eE α) (fun c a hg hl x hx=>eG (eS fun t ht=>hl t (bF (by subst ht;exact hx))) (dA h2 x (by simpa[Op.operands,Call.operands]using hx)) hg)
   (fun hg=>iC rfl (h3 hg)),h4⟩
 ·rename_i j want f m xs ts;obtain⟨h1,h2,v,h3,h4⟩:=h;exact⟨_,YG.of_guard (o:=⟨dst,.call ⟨.invoke f m,xs,ts⟩,ty,pos,after,some (j,want)⟩) rfl h1 (eE α) (fun c a hg hl x hx=>eG (eS fun t ht=>hl t (bF (by subst ht;exact hx))) (dA h2 x (by simpa[Op.operands,Call.operands]using hx)) hg)
   (fun hg=>jG rfl (h3 hg)),h4⟩
 ·obtain⟨h1,h2,h3,h4⟩:=h;exact⟨_,YG.of_guard (v:=(aL P op (eE α) H).v) rfl h1 (eE α) (fun c a hg hl x hx=>eG (eS fun t ht=>hl t (bF (by subst ht;exact hx))) (dA h2 x hx) hg)
   (fun hg=>(eH (h3 hg).1).mono fun v H' ⟨e1,e2⟩=>⟨e1,e2.trans (h3 hg).2⟩),h4⟩
def pJ(N:Nat)(ops:Array Oper):Bool:=ops.toList.all fun o=>aBT N o.dst
abbrev aBX(N:Nat)(c:Ctx)(Q:bL):Exit→Act→World→Prop:=fun e a' w'=>∃c' α' H',c'.w=w'∧St c' H'∧Ext c c'∧ARep c' N α' a'∧Q e α' H'
theorem tR{r:Option Nat}{N:Nat}{ops:Array Oper}{Q:bL}(hd:pJ N ops=true)(c₀:Ctx):∀(os:List Oper) (k:Nat) (α:AF) (H:AHeap) (c:Ctx) (a:Act),(∀i,os[i]?=ops[k+i]?)→St c H→Ext c₀ c→ARep c N α a→
  gO P ops.toList os α H (fun α' H'=>Q .normal α' H')→wpOpsIn (wf r) 0 P ops (aBX N c₀ Q) (List.range' k os.length) a c.w
 |[],k,α,H,c,a,_,hs,hx,ha,h=>⟨c,α,H,rfl,hs,hx,ha,h⟩
 |o::os,k,α,H,c,a,hos,hs,hx,ha,h=>by
  have h0:ops[k]?=some o:=by simpa using(hos 0).symm
  have hdo:aBT N o.dst=true:=zAJ.1 hd o (by grind)
  simp only[zAc,List.range'_succ,wpOpsIn,h0];have hy:=aHW (N:=N) h r c a (wpOpsIn (wf r) 0 P ops (aBX N c₀ Q) (List.range' (k+1) os.length)) (aBX N c₀ Q) hs ha.size (fun t _=>ha.rep t) fun c' x v H' h1 h2 h3 h4=>
   tR hd c₀ os (k+1) _ H' c' _ (fun i=>by have:=hos (i+1);grind) h1 (hx.trans h2) ((ha.mono h2).put hdo h3) h4
  by_cases hw:Region.wanted o (yielded ops a.tmps)=true
  ·rw[zAl hw]at hy ⊢;exact hy
  ·rw[zAe hw]at hy ⊢;exact⟨fun _ _=>trivial,hy⟩
theorem dR{N id:Nat}{ops:Array Oper}{Q:bL}{α:AF}{H:AHeap}(hd:pJ N ops=true)(h:gO P ops.toList ops.toList α H (fun α' H'=>Q .normal α' H')):aw P N (.region id ops false) Q α H:=by
 intro r c a _ hs ha;refine wpIn_region ?_;have:=tR (P:=P) (r:=r) hd c ops.toList 0 α H c a (by simp) hs (Ext.refl c) ha h
 rw[List.range_eq_range'];grind
section draw
variable {N:Nat} {ops:Array Oper} {H:AHeap}
def qA(P:Program)(N:Nat)(ops:Array Oper)(H:AHeap)(i:Nat)(K:AF→Prop)(α:AF):Prop:=
 match ops[i]? with
 |none=>K α
 |some o=>∃v,YG P N ops H o α (fun v' H'=>v'=v∧H'=H)∧K (bO o.dst v α)
def aE4(P:Program)(N:Nat)(ops:Array Oper)(H:AHeap)(K:AF→Prop):Nat→Array Bool→AF→Prop
 |0,listed,α=>Region.ready .any ops listed=[]∧K α
 |fuel+1,listed,α=>(Region.ready .any ops listed=[]→K α)∧∀i∈Region.ready .any ops listed,qA P N ops H i (aE4 P N ops H K fuel (listed.setIfInBounds i true)) α
def Alike(α β:AF):Prop:=∀t,look α t=look β t
theorem Alike.put{α β:AF}(h:Alike α β)(d:Option Tmp)(v:AV):Alike (bO d v α) (bO d v β):=by
 cases d with
 |none=>exact h
 |some d=>intro t;simp only[bO,look];cases d==t<;>simp[h t]
theorem YG.alike{o:Oper}{α β:AF}{R:AV→AHeap→Prop}(hab:Alike α β)(h:YG P N ops H o α R):YG P N ops H o β R:=
 fun r c a next Q h1 h2 h3 hk=>h r c a next Q h1 h2 (fun t ht=>by rw[hab t];exact h3 t ht) hk
theorem uD{K:AF→Prop}(hK:∀α β,Alike α β→K α→K β):∀(n:Nat) (listed:Array Bool) (α β:AF),Alike α β→aE4 P N ops H K n listed α→aE4 P N ops H K n listed β
 |0,_,_,_,hab,h=>⟨h.1,hK _ _ hab h.2⟩
 |n+1,listed,α,β,hab,h=>by
  refine⟨fun h0=>hK _ _ hab (h.1 h0),fun i hi=>?_⟩
  have:=h.2 i hi;unfold qA at this ⊢;split
  ·rename_i ho;simp only[ho]at this;exact uD hK n _ _ _ hab this
  ·rename_i o ho;simp only[ho]at this;obtain⟨v,h1,h2⟩:=this;exact⟨v,h1.alike hab,uD hK n _ _ _ (hab.put _ _) h2⟩
theorem oE{r:Option Nat}{Q:Exit→Act→World→Prop}{K:AF→Prop}(hd:pJ N ops=true)(c₀:Ctx)(hK:∀α c a,K α→St c H→Ext c₀ c→ARep c N α a→Q .normal a c.w):
  ∀(n:Nat) (listed:Array Bool) (α:AF) (c:Ctx) (a:Act),St c H→Ext c₀ c→ARep c N α a→aE4 P N ops H K n listed α→wpAnyIn (wf r) 0 P .any ops Q n listed a c.w
 |0,_,_,_,_,hs,hx,ha,h=>⟨h.1,hK _ _ _ h.2 hs hx ha⟩
 |n+1,listed,α,c,a,hs,hx,ha,h=>by
  refine⟨fun h0=>hK _ _ _ (h.1 h0) hs hx ha,fun i hi=>?_⟩
  have h1:=h.2 i hi;unfold qA at h1;unfold wpOpIn;split
  ·rename_i ho;simp only[ho]at h1;exact oE hd c₀ hK n _ _ _ _ hs hx ha h1
  ·rename_i o ho;simp only[ho]at h1;obtain⟨v,hy,hk⟩:=h1;have hdo:aBT N o.dst=true:=zAJ.1 hd o (by rw[zCp];exact zBf ho)
   have:=hy r c a (wpAnyIn (wf r) 0 P .any ops Q n (listed.setIfInBounds i true)) Q hs ha.size (fun t _=>ha.rep t) fun c' x v' H' g1 g2 g3 g4=>by
    obtain⟨e1,e2⟩:=g4;rw[e2]at g1;rw[e1]at g3;exact oE hd c₀ hK n _ _ _ _ g1 (hx.trans g2) ((ha.mono g2).put hdo g3) hk
   by_cases hw:Region.wanted o (yielded ops a.tmps)=true
   ·rw[zAl hw]at this ⊢;exact this
   ·rw[zAe hw]at this ⊢;exact⟨fun _ _=>trivial,this⟩
theorem nB{α:AF}{d:Option Tmp}{v:AV}{t:Nat}(h:∀x,d=some x→x≠t):look (bO d v α) t=look α t:=by
 cases d with
 |none=>rfl
 |some d=>have hb:(d==t)=false:=by simpa using h d rfl
          simp[bO,look,hb]
theorem YG.put_apart{oi oj:Oper}{α:AF}{v u:AV}(h:YG P N ops H oi α (fun v' H'=>v'=v∧H'=H))(hap:∀d,oj.dst=some d→d∉oi.looksAt ops):YG P N ops H oi (bO oj.dst u α) (fun v' H'=>v'=v∧H'=H):=
 fun r c a next Q h1 h2 h3 hk=>h r c a next Q h1 h2 (fun t ht=>by
  have:=h3 t ht;rwa[nB fun x hx e=>hap x hx (e▸ht)]at this) hk
theorem YG.unput_apart{oi oj:Oper}{α:AF}{v u:AV}(h:YG P N ops H oi (bO oj.dst u α) (fun v' H'=>v'=v∧H'=H))(hap:∀d,oj.dst=some d→d∉oi.looksAt ops):YG P N ops H oi α (fun v' H'=>v'=v∧H'=H):=
 fun r c a next Q h1 h2 h3 hk=>h r c a next Q h1 h2 (fun t ht=>by
  rw[nB fun x hx e=>hap x hx (e▸ht)]
  exact h3 t ht) hk
theorem gP{α:AF}{x y:Option Tmp}{v u:AV}(h:∀d,x=some d→y≠some d):Alike (bO y u (bO x v α)) (bO x v (bO y u α)):=by
 intro t;cases x with
 |none=>rfl
 |some d=>cases y with
  |none=>rfl
  |some e=>
   have hne:d≠e:=fun h'=>h d rfl (by rw[h'])
   simp only[bO,look];grind
theorem aE5{K:AF→Prop}(hK:∀α β,Alike α β→K α→K β){i:Nat}{oi:Oper}{v:AV}(hi:ops[i]?=some oi):
  ∀(fuel:Nat) (listed:Array Bool) (α:AF),
   (∀j oj,ops[j]?=some oj→j≠i→listed.getD j true=false→(∀e∈oj.after,Region.binds .any e=true→e.on≠i)→oi.apart ops oj=true)→
   i∈Region.ready .any ops listed→YG P N ops H oi α (fun v' H'=>v'=v∧H'=H)→
   aE4 P N ops H K fuel (listed.setIfInBounds i true) (bO oi.dst v α)→aE4 P N ops H K (fuel+1) listed α:=by
 have qi:∀(K:AF→Prop) (α:AF),YG P N ops H oi α (fun v' H'=>v'=v∧H'=H)→K (bO oi.dst v α)→qA P N ops H i K α:=by
  grind [qA]
 intro fuel;induction fuel with
 |zero=>
  intro listed α _ hr hy hh;refine⟨fun h=>(by rw[h]at hr;cases hr),fun j hj=>?_⟩
  by_cases hji:j=i
  ·subst hji;exact qi _ _ hy hh
  ·have:=ready_mono hj hji;rw[hh.1]at this;cases this
 |succ fuel ih=>
  intro listed α hfree hr hy hh;refine⟨fun h=>(by rw[h]at hr;cases hr),fun j hj=>?_⟩
  by_cases hji:j=i
  ·subst hji;exact qi _ _ hy hh
  ·have h1:=hh.2 j (ready_mono hj hji);obtain⟨hjun,oj,hoj,hall⟩:=mem_ready.1 hj;have hnot:∀e∈oj.after,Region.binds .any e=true→e.on≠i:=fun e he hb heq=>by
    have h1:=hall e he hb;have h0:=(mem_ready.1 hr).1;rw[heq]at h1;rcases zCk i listed.size with h'|h'
    ·simp[h']at h0 h1;rw[h0]at h1;cases h1
    ·simp[Array.getElem?_eq_none h']at h1
   obtain⟨p1,p2,p3⟩:=Oper.apart_spec (hfree j oj hoj hji hjun hnot);unfold qA at h1 ⊢;simp only[hoj]at h1 ⊢;obtain⟨u,hyj,hkj⟩:=h1;refine⟨u,hyj.unput_apart p1,?_⟩;have hfree':∀k ok,ops[k]?=some ok→k≠i→(listed.setIfInBounds j true).getD k true=false→
     (∀e∈ok.after,Region.binds .any e=true→e.on≠i)→oi.apart ops ok=true:=fun k ok hk hki hun hno=>by
    refine hfree k ok hk hki ?_ hno;by_cases hjk:j=k
    ·subst hjk;exact hjun
    ·rw[getD_set_ne true hjk]at hun;exact hun
   refine ih (listed.setIfInBounds j true) _ hfree' (ready_mono hr (zBs hji)) (hy.put_apart p3) ?_;rw[zBE _ _ hji];exact uD hK _ _ _ _ (gP p2) hkj
theorem aDF{K:AF→Prop}(hK:∀α β,Alike α β→K α→K β):∀(l:List Oper) (k:Nat) (listed:Array Bool) (α:AF),(∀j,l[j]?=ops[k+j]?)→
  Region.lexFrom .any ops l.length k listed=true→dQ P ops.toList H l α K→aE4 P N ops H K l.length listed α
 |[],_,_,_,_,hB,h=>⟨by simpa[Region.lexFrom]using hB,h⟩
 |o::l,k,listed,α,hl,hB,h=>by
  have h0:ops[k]?=some o:=by simpa using(hl 0).symm
  simp only[zAc,Region.lexFrom,zAu]at hB;obtain⟨⟨hr,hf⟩,hB'⟩:=hB;obtain⟨v,hy,hk⟩:=aE3 (N:=N) h;exact aE5 hK h0 l.length listed α (Region.free_spec h0 hf) (by simpa using hr) hy
   (aDF hK l (k+1) _ _ (fun j=>by have:=hl (j+1);grind) hB' hk)
end draw
theorem fN{all:List Oper}{H:AHeap}{k k':AF→Prop}(hk:∀α,k α→k' α):∀(l:List Oper) (α:AF),dQ P all H l α k→dQ P all H l α k'
 |[],α,h=>hk α h
 |⟨dst,op,ty,pos,after,guard⟩::os,α,h=>by
  unfold dQ at h ⊢;split at h
  ·exact⟨h.1,fN hk os _ h.2⟩
  ·obtain⟨v,h1,h2⟩:=h;exact⟨v,h1,fN hk os _ h2⟩
  ·obtain⟨v,h1,h2⟩:=h;exact⟨v,h1,fN hk os _ h2⟩
  ·exact⟨h.1,h.2.1,fN hk os _ h.2.2⟩
  ·exact⟨h.1,h.2.1,fN hk os _ h.2.2⟩
  ·obtain⟨h1,h2,v,h3,h4⟩:=h;exact⟨h1,h2,v,h3,fN hk os _ h4⟩
  ·obtain⟨h1,h2,v,h3,h4⟩:=h;exact⟨h1,h2,v,h3,fN hk os _ h4⟩
  ·exact⟨h.1,h.2.1,h.2.2.1,fN hk os _ h.2.2.2⟩
theorem mG{N id:Nat}{ops:Array Oper}{Q:bL}{α:AF}{H:AHeap}(hm:P.follows .mixedOrders=true)(hd:pJ N ops=true)(hB:Region.lexB .any ops=true)
  (h:dQ P ops.toList H ops.toList α (fun α'=>Q .normal α' H)):aw P N (.region id ops true) Q α H:=by
 intro r c a _ hs ha;simp only[Region.lexB,zAu]at hB;refine wpIn_region_any hm ?_;have h1:dQ P ops.toList H ops.toList α (fun α'=>∃β,Alike α' β∧Q .normal β H):=fN (fun α' hq=>⟨α',fun _=>rfl,hq⟩) _ _ h
 have h2:=aDF (P:=P) (N:=N) (ops:=ops) (H:=H) (K:=fun α'=>∃β,Alike α' β∧Q .normal β H) (fun α β hab ⟨γ,hg,hq⟩=>⟨γ,fun t=>(hab t).symm.trans (hg t),hq⟩)
  ops.toList 0 (Array.replicate ops.size false) α (by simp) (by simpa using hB.2) h1
 have h3:=oE (r:=r) (P:=P) (Q:=aBX N c Q) hd c (fun α' c' a' ⟨β,hab,hq⟩ hs' hx' ha'=>⟨c',β,H,rfl,hs',hx',ha'.weaken fun t=>.inr (hab t).symm,hq⟩)
  ops.toList.length (Array.replicate ops.size false) α c.draw a hs.draw (Ext.draw c) (ha.mono (Ext.draw c)) h2
 rw[Array.length_toList]at h3;exact h3
end
section
variable {P:Program}
def eU:Nat→List AV→AF
 |_,[]=>[]
 |k,x::xs=>(k,x)::eU (k+1) xs
theorem aCJ(xs:List AV)(k t:Nat):look (eU k xs) t=if k≤t then xs.getD (t-k) .top else .top:=by
 induction xs generalizing k<;>grind [eU,look]
def aAb(P:Program)(α:AF)(H:AHeap):ResultVar→BR
 |.tmp t=>⟨look α t,True⟩
 |.cell a t=>yW P t (look α a) H
def pK(P:Program)(α:AF)(H:AHeap):List ResultVar→Prop
 |[]=>True
 |r::rs=>(aAb P α H r).s∧pK P α H rs
def aE6:List AV→AV
 |[v]=>v
 |vs=>.tup vs
def xD(P:Program)(rs:List ResultVar)(R:AV→AHeap→Prop):bL
 |.normal,α,H=>pK P α H rs∧R (aE6 (rs.map fun r=>(aAb P α H r).v)) H
 |.ret,α,H=>pK P α H rs∧R (aE6 (rs.map fun r=>(aAb P α H r).v)) H
 |_,_,_=>False
theorem aHX{c:Ctx}{H:AHeap}{t:TypeId}{x:AV}{vx:Value}(hst:St c H)(hx:Rep c x vx)(hs:(yW P t x H).s):∃a,vx=.pointer (some a):=by
 unfold yW at hs;split at hs
 ·exact hx.cptr_inv
 ·rename_i i v off;split at hs
  ·rename_i ver cs hh;obtain⟨a,ha, -⟩:=aDB hx (by rw[hs.1];exact hst.ver_eq hh) 0
   exact⟨a,ha⟩
  ·exact hs.elim
 ·exact hs.elim
def aGB(a:Act):ResultVar→Sem Value
 |.tmp t=>pure (a.tmps.getD t undef)
 |.cell b t=>do loadVar t (←asAddr (a.tmps.getD b undef))
theorem aHY{c:Ctx}{H:AHeap}{α:AF}{a:Act}(hs:St c H)(ha:∀t,Rep c (look α t) (a.tmps.getD t undef))(r:ResultVar)(h:(aAb P α H r).s):∃v,(aGB a r).run P c.w=.ok v c.w∧Rep c (aAb P α H r).v v:=by
 cases r with
 |tmp t=>exact⟨_,rfl,ha t⟩
 |cell b t=>
  have hb:=ha b;obtain⟨ad,had⟩:=aHX (P:=P) hs hb h;grind [yX,aGB,asAddr,Sem.run_bind,Sem.run_pure,Result.andThen_ok,Instr.loadAt,Instr.sureAddr,Ctx,Act,look,undef,ResultVar,aAb]
theorem aAO{c:Ctx}{H:AHeap}{α:AF}{a:Act}(hs:St c H)(ha:∀t,Rep c (look α t) (a.tmps.getD t undef)):∀rs:List ResultVar,pK P α H rs→∃vs:List Value,(rs.mapM (aGB a)).run P c.w=.ok vs c.w∧vs.length=rs.length∧
   ∀(i:Nat) (x:AV) (v:Value),(rs.map fun r=>(aAb P α H r).v)[i]?=some x→vs[i]?=some v→Rep c x v
 |[],_=>⟨[],by simp,rfl,by simp⟩
 |r::rs,h=>by
  obtain⟨vs,h1,h2,h3⟩:=aAO hs ha rs h.2;obtain⟨v,g1,g2⟩:=aHY (P:=P) hs ha r h.1;refine⟨v::vs,?_,by simp[h2],fun i x u hi hu=>?_⟩
  ·simp_all
  grind
theorem aDG{c:Ctx}{H:AHeap}{α:AF}{a:Act}{fn:Func}(hs:St c H)(ha:∀t,Rep c (look α t) (a.tmps.getD t undef))(h:pK P α H fn.results.toList):
  ∃v,(results fn a.tmps).run P c.w=.ok v c.w∧Rep c (aE6 (fn.results.toList.map fun r=>(aAb P α H r).v)) v:=by
 obtain⟨vs,h1,h2,h3⟩:=aAO (P:=P) hs ha fn.results.toList h;have hres:(results fn a.tmps).run P c.w=.ok (if hh:vs.toArray.size=1 then vs.toArray[0]else .tuple vs.toArray) c.w:=by
  have e:results fn a.tmps=(do
    let vs←fn.results.mapM (aGB a)
    pure (if h:vs.size=1 then vs[0]else .tuple vs)):=by
   unfold results;congr 1
  rw[e];simp only[Sem.run_bind,Array.mapM_eq_mapM_toList,Sem.run_map,h1];rfl
 refine⟨_,hres,?_⟩;by_cases hl:vs.length=1
 ·match vs,hl,h2,h3 with
  |[v],_,h2,h3=>
   have hl1:fn.results.toList.length=1:=by simpa using h2.symm
   match hr:fn.results.toList,hl1 with
   |[r],_=>
    rw[hr]at h3;exact h3 0 _ _ rfl rfl
 ·rw[dif_neg (by simpa using hl)]
  have:aE6 (fn.results.toList.map fun r=>(aAb P α H r).v)=.tup (fn.results.toList.map fun r=>(aAb P α H r).v):=by
   unfold aE6;split
   ·rename_i v hv;have:=zAx List.length hv;simp at this;simp at h2;omega
   ·rfl
  rw[this];exact .tup _ _ (by simpa using h2) (fun i x v hi hv=>h3 i x v hi (by simpa using hv))
def Ctx.shut(c:Ctx)(D:Nat):Ctx:={c with w:=c.w.putObj D (.deferred none)}
theorem xE{c:Ctx}{D:Nat}(hD:c.w.heap[D]?=some (.deferred (some []))):Ext0 c (c.shut D) where
 n:=zAf _
 st:=fun _ h=>h
 cell:=fun a _=>by
  by_cases h:a.block=D
  ·have hlt:=(zBM.1 hD).1;simp only[World.cell?,Ctx.shut,h,hD,World.putObj_heap_same hlt]
  ·exact tQ (World.putObj_heap_other h)
 ver:=fun _ _=>zAf _
 blk:=fun i _ _=>⟨rfl,rfl,fun _=>by
  by_cases h:c.blk i=D
  ·have hlt:=(zBM.1 hD).1;simp only[bsize,Ctx.shut,h,hD,World.putObj_heap_same hlt]
  ·grind [bsize,Ctx.shut,World.putObj_heap_other]⟩
theorem St.shut{c:Ctx}{H:AHeap}{D:Nat}(hst:St c H)(hs:c.stable D)(hD:c.w.heap[D]?=some (.deferred (some []))):St (c.shut D) H where
 n:=hst.n
 lt:=fun i hi hd=>by have:=hst.lt i hi hd;simpa[Ctx.shut]using this
 inj:=hst.inj
 st:=fun k hk=>by obtain⟨h1,h2⟩:=hst.st k hk;exact⟨by simpa[Ctx.shut]using h1,h2⟩
 rep:=fun i b hi=>by
  have hin:i<c.n:=by rw[hst.n];grind
  have hb:=hst.rep i b hi;refine hb.mono0 (xE hD) hin (fun _ _ h=>h) rfl fun hd=>World.putObj_heap_other ?_
  have hl:b.live:=by
   cases hb with
   |gone hd'=>rw[hd]at hd';cases hd'
   |_=>trivial
  exact(hst.st D hs).2 i b hi hl hd
theorem Ext.shut{c0 c:Ctx}{H0:AHeap}{D:Nat}(h0:St c0 H0)(hx:Ext c0 c)(hlt:c0.w.heap.size≤D)(hD:c.w.heap[D]?=some (.deferred (some []))):Ext c0 (c.shut D) where
 n:=hx.n
 size:=by have:=hx.size;simpa[Ctx.shut]using this
 st:=fun b hb=>⟨(hx.st b hb).1,(World.putObj_heap_other (fun e=>by have:=(h0.st b hb).1;omega)).trans (hx.st b hb).2⟩
 ver:=hx.ver
 blk:=fun i hi he=>by
  obtain⟨p1,p2,p3⟩:=hx.blk i hi he;refine⟨p1,p2,fun hd=>?_⟩
  have:=((xE hD).blk i (zBr hi hx.n) rfl).2.2 (p2.trans hd);grind
 os:=hx.os
 tape:=hx.tape
 output:=hx.output
 base:=hx.base
theorem vA{F:Fence}{n:Nat}{fn:Func}{tmps:Array Value}{R:Ending→World→Prop}{c0:Ctx}{H0 H:AHeap}(h0:St c0 H0):∀(Ds:List Nat) (c:Ctx),St c H→Ext c0 c→Ds.Nodup→
  (∀D∈Ds,c0.w.heap.size≤D∧c.stable D∧c.w.heap[D]?=some (.deferred (some [])))→(∀c',St c' H→Ext c0 c'→Ext0 c c'→LeavesIn F n P fn tmps R [] .returning c'.w)→
  LeavesInM F n P fn tmps R (Ds.map fun D=>{target:=.collected D,args:= #[]}) .returning c.w
 |[],c,hst,hx,_,_,h=>h c hst hx ⟨zAf _,fun _ h=>h,fun _ _=>rfl,fun _ _=>zAf _,fun _ _ _=>⟨rfl,rfl,fun _=>rfl⟩⟩
 |D::Ds,c,hst,hx,hn,hD,h=>by
  obtain⟨hD1,hD2,hD3⟩:=hD D (by simp)
  refine⟨by simp,.inl ⟨D,_,rfl,run_takeDeferred hD3,?_⟩⟩
  have hn':=zB8.1 hn;refine vA h0 Ds (c.shut D) (hst.shut hD2 hD3) (Ext.shut h0 hx hD1 hD3) hn'.2 (fun E hE=>?_) fun c' g1 g2 g3=>h c' g1 g2 ?_
  ·obtain⟨q1,q2,q3⟩:=hD E (by simp[hE])
   exact⟨q1,q2,(World.putObj_heap_other (fun e=>hn'.1 (by rw[←e];exact hE))).trans q3⟩
  ·have k:=xE hD3;exact⟨g3.n,g3.st,fun a ha=>(g3.cell a ha).trans (k.cell a ha),g3.ver,fun i hi he=>by
    obtain⟨p1,p2,p3⟩:=g3.blk i hi he;exact⟨p1,p2,fun hd=>(p3 hd).trans ((k.blk i hi rfl).2.2 hd)⟩⟩
def Ctx.rebase(c:Ctx)(b:Nat):Ctx:={c with base:=b}
theorem yZ(c:Ctx)(b:Nat):Ext0 c (c.rebase b):=⟨zAf _,fun _ h=>h,fun _ _=>rfl,fun _ _=>zAf _,fun _ _ _=>⟨rfl,rfl,fun _=>rfl⟩⟩
theorem St.rebase{c:Ctx}{H:AHeap}(h:St c H)(b:Nat):St (c.rebase b) H:=
 ⟨h.n,h.lt,h.inj,h.st,fun i _ hi=>(h.rep i _ hi).mono0 (yZ c b) (by rw[h.n];grind) (fun _ _ h=>h) rfl (fun _=>rfl)⟩
theorem Rep.rebase{c:Ctx}{x:AV}{v:Value}(h:Rep c x v)(b:Nat):Rep (c.rebase b) x v:=h.mono0 (yZ c b)
theorem jP{f:FuncId}{fn:Func}{code:Code}{args:List AV}{H:AHeap}{R:AV→AHeap→Prop}(hf:P.funcs[f]?=some fn)(hb:fn.body=some code)(hn:args.length≤fn.ntmps)
  (h:aw P fn.ntmps code (xD P fn.results.toList R) (eU 0 args) H):ACalls P f args H R:=by
 intro c vs hs ⟨hl,hr⟩;refine callsIn_wide.1 (callsIn_of_wp_marks (F:=Fence.wide) (n:=0) hf hb trivial ?_);have ha:ARep (c.rebase c.w.heap.size) fn.ntmps (eU 0 args) {tmps:=vs++Array.replicate (fn.ntmps-vs.size) undef,defers:=[]}:=by
  refine⟨by simp;omega,⟨zAf _,[],rfl,by simp,by simp⟩,fun t=>?_⟩
  rw[aCJ,zAl (zAo _),Nat.sub_zero];by_cases ht:t<args.length
  ·have hx:args[t]?=some args[t]:=zAb ht;have hv:vs[t]?=some (vs[t]'(by omega)):=zBg (by omega)
   rw[aWk _ _ _ _ hx];have:(vs++Array.replicate (fn.ntmps-vs.size) undef).getD t undef=vs[t]'(by omega):=by
    rw[zBI,zBu (by omega),hv];rfl
   rw[this];exact(hr t _ _ hx hv).rebase _
  ·have:args.getD t .top=.top:=by rw[zAh,zBt (by omega)];rfl
   rw[this];exact .top _
 refine wpIn_mono (h none (c.rebase c.w.heap.size) _ (.inl rfl) (hs.rebase c.w.heap.size) ha) fun e a' w' ⟨c',α',H',e1,e2,e3,e4,e5⟩=>?_
 subst e1;have key:∀{R':Prop},(pK P α' H' fn.results.toList∧R (aE6 (fn.results.toList.map fun r=>(aAb P α' H' r).v)) H')→
   LeavesInM Fence.wide 0 P fn a'.tmps (fun e w'=>∃c' x v H',e=.returned v∧c'.w=w'∧St c' H'∧Ext c c'∧Rep c' x v∧R x H') a'.defers .returning c'.w:=by
  intro _ ⟨q1,q2⟩;obtain⟨hb0,Ds,hds,hnd,hD⟩:=e4.defers;rw[hds];have hbase:c'.base=c.w.heap.size:=e3.base;refine vA (hs.rebase c.w.heap.size) Ds c' e2 e3 hnd (fun D h=>?_) fun c'' g1 g2 g3=>?_
  ·obtain⟨p1,p2,p3⟩:=hD D h;exact⟨by rw[hbase]at p1;exact p1,p2,p3⟩
  ·have e4':∀t,Rep c'' (look α' t) (a'.tmps.getD t undef):=fun t=>(e4.rep t).mono0 g3
   obtain⟨v,r1,r2⟩:=aDG (P:=P) g1 e4' q1;refine⟨v,r1,c''.rebase c.base,_,v,H',rfl,rfl,g1.rebase _,?_,r2.rebase _,q2⟩;exact⟨g2.n,g2.size,g2.st,g2.ver,g2.blk,g2.os,g2.tape,g2.output,rfl⟩
 cases e<;>simp only[xD]at e5;case normal=>exact key (R':=True) e5
 case ret=>exact key (R':=True) e5
inductive Cl (n:Nat):AV→Prop
 |int (k m):Cl n (.int k m)
 |bool (b):Cl n (.bool b)
 |str (s):Cl n (.str s)
 |agg (cs:List AV) (h:∀(i:Nat) (x:AV),cs[i]?=some x→Cl n x):Cl n (.agg cs)
 |tup (cs:List AV) (h:∀(i:Nat) (x:AV),cs[i]?=some x→Cl n x):Cl n (.tup cs)
 |sl (full) (es:List AV) (h:∀(k:Nat) (e:AV) (j:Nat) (x:AV),es[k]?=some e→e.cells[j]?=some x→Cl n x):Cl n (.sl full es)
 |cptr (cs:List AV) (h:∀(i:Nat) (x:AV),cs[i]?=some x→Cl n x):Cl n (.cptr cs)
 |ref (i v off) (h:i<n):Cl n (.ref i v off)
 |osl (s i v off len lc) (h:i<n):Cl n (.osl s i v off len lc)
 |nilptr:Cl n .nilptr
 |map (i) (h:i<n):Cl n (.map i)
 |nilmap:Cl n .nilmap
 |iter (i) (h:i<n):Cl n (.iter i)
 |func (fn) (fs cs:List AV) (h1:∀(i:Nat) (x:AV),fs[i]?=some x→Cl n x) (h2:∀(i:Nat) (x:AV),cs[i]?=some x→Cl n x):Cl n (.func fn fs cs)
 |nilfunc:Cl n .nilfunc
 |iface (t x) (h:Cl n x):Cl n (.iface t x)
 |nilIface:Cl n .nilIface
 |opt (g x) (h:g=true→Cl n x):Cl n (.opt g x)
 |top:Cl n .top
theorem iY{α β:Type}{l:List α}{a:Array β}(h:a.size=l.length){i:Nat}{x:α}(hx:l[i]?=some x):∃v,a[i]?=some v:=by
 have:=(eT.1 hx).1;simp_all
theorem Rep.cl{c:Ctx}{x:AV}{v:Value}(h:Rep c x v):Cl c.n x:=by
 induction h with
 |int k n _=>exact .int k n
 |bool b=>exact .bool b
 |str s _=>exact .str s
 |agg cs vs hl _ ih=>exact .agg cs fun i x hx=>let⟨v,hv⟩:=iY hl hx;ih i x v hx hv
 |tup cs vs hl _ ih=>exact .tup cs fun i x hx=>let⟨v,hv⟩:=iY hl hx;ih i x v hx hv
 |sl full es base len cap s vs _ _ _ _ _ _ _ ih=>exact .sl full es ih
 |cptr cs a vs _ _ _ _ ih=>exact .cptr cs ih
 |ref i v off val hi=>exact .ref i v off hi
 |osl s i v off len lc val hi=>exact .osl s i v off len lc hi
 |nilptr=>exact .nilptr
 |map i val hi=>exact .map i hi
 |nilmap=>exact .nilmap
 |iter i val hi=>exact .iter i hi
 |func fn fs cs vf vc hf hc _ _ ih1 ih2=>exact .func fn fs cs (fun i x hx=>let⟨v,hv⟩:=iY hf hx;ih1 i x v hx hv) (fun i x hx=>let⟨v,hv⟩:=iY hc hx;ih2 i x v hx hv)
 |nilfunc=>exact .nilfunc
 |iface t x v _ ih=>exact .iface t x ih
 |nilIface=>exact .nilIface
 |opt g x v _ _ ih=>exact .opt g x ih
 |top v=>exact .top
def Ctx.drop(c:Ctx)(n:Nat):Ctx:=
 {w:=c.w,n:=n,blk:=c.blk,ver:=c.ver,vd:=c.vd,stable:=fun b=>c.stable b∨∃i,n≤i∧i<c.n∧c.vd i=false∧c.blk i=b,base:=c.base}
theorem Rep.drop{c:Ctx}{n:Nat}{x:AV}{v:Value}(h:Rep c x v)(hc:Cl n x):Rep (c.drop n) x v:=by
 induction h with
 |int k n hr=>exact .int k n hr
 |bool b=>exact .bool b
 |str s hr=>exact .str s hr
 |agg cs vs hl _ ih=>cases hc with|agg _ hh=>exact .agg cs vs hl fun i x v h1 h2=>ih i x v h1 h2 (hh i x h1)
 |tup cs vs hl _ ih=>cases hc with|tup _ hh=>exact .tup cs vs hl fun i x v h1 h2=>ih i x v h1 h2 (hh i x h1)
 |sl full es base len cap s vs h1 h2 h3 h4 h5 _ hmax ih=>
  cases hc with
  |sl _ _ hh=>exact .sl full es base len cap s vs h1 h2 h3 (fun hne=>let⟨a,e1,e2,e3,e4⟩:=h4 hne;⟨a,e1,e2,.inl e3,e4⟩) h5 (fun k e j x g1 g2=>ih k e j x g1 g2 (hh k e j x g1 g2)) hmax
 |cptr cs a vs h1 h2 h3 _ ih=>cases hc with|cptr _ hh=>exact .cptr cs a vs h1 (.inl h2) h3 fun j x g=>ih j x g (hh j x g)
 |ref i v off val hi hv ho h=>cases hc with|ref _ _ _ hh=>exact .ref i v off val hh hv ho h
 |osl s i v off len lc val hi hv ho hmax h1 h2=>cases hc with|osl _ _ _ _ _ _ hh=>exact .osl s i v off len lc val hh hv ho hmax h1 h2
 |nilptr=>exact .nilptr
 |map i val hi ho h=>cases hc with|map _ hh=>exact .map i val hh ho h
 |nilmap=>exact .nilmap
 |iter i val hi ho h=>cases hc with|iter _ hh=>exact .iter i val hh ho h
 |func fn fs cs vf vc hf hcc _ _ ih1 ih2=>cases hc with|func _ _ _ g1 g2=>exact .func fn fs cs vf vc hf hcc (fun i x v h1 h2=>ih1 i x v h1 h2 (g1 i x h1)) (fun i x v h1 h2=>ih2 i x v h1 h2 (g2 i x h1))
 |nilfunc=>exact .nilfunc
 |iface t x v _ ih=>cases hc with|iface _ _ hh=>exact .iface t x v (ih hh)
 |nilIface=>exact .nilIface
 |opt g x v _ h2 ih=>cases hc with|opt _ _ hh=>exact .opt g x v (fun hg=>ih hg (hh hg)) h2
 |top v=>exact .top v
theorem Ext.drop{c c':Ctx}(h:Ext c c'):Ext c (c'.drop c.n):=
 ⟨zAf _,h.size,fun b hb=>⟨.inl (h.st b hb).1,(h.st b hb).2⟩,h.ver,h.blk,h.os,h.tape,h.output,h.base⟩
inductive Frz (n:Nat) (H:AHeap):AV→AV→Prop
 |cl (x:AV) (h:Cl n x):Frz n H x x
 |agg (cs ds:List AV) (hl:cs.length=ds.length) (h:∀(i:Nat) (x y:AV),cs[i]?=some x→ds[i]?=some y→Frz n H x y):Frz n H (.agg cs) (.agg ds)
 |tup (cs ds:List AV) (hl:cs.length=ds.length) (h:∀(i:Nat) (x y:AV),cs[i]?=some x→ds[i]?=some y→Frz n H x y):Frz n H (.tup cs) (.tup ds)
 |osl (s i v off len lc:Nat) (cs es:List AV) (hn:n≤i) (hh:hget H i=.cells v cs) (hl:es.length=len) (hle:off+len * s≤cs.length) (hs:∀e∈es,e.cells.length=s)
   (h:∀(k j:Nat) (e x y:AV),es[k]?=some e→e.cells[j]?=some y→cs[off+(k * s+j)]?=some x→Frz n H x y):Frz n H (.osl s i v off len lc) (.sl false es)
 |iface (t x y) (h:Frz n H x y):Frz n H (.iface t x) (.iface t y)
 |slw (full:Bool) (es:List AV) (h:Cl n (.sl full es)):Frz n H (.sl full es) (.sl false es)
 |ref (i v off:Nat) (cs ds:List AV) (hn:n≤i) (hh:hget H i=.cells v cs) (hle:off+ds.length≤cs.length) (h:∀(j:Nat) (x y:AV),cs[off+j]?=some x→ds[j]?=some y→Frz n H x y):Frz n H (.ref i v off) (.cptr ds)
 |func (fn:Fn) (fs cs fs' cs':List AV) (hf:fs.length=fs'.length) (hc:cs.length=cs'.length) (h1:∀(i:Nat) (x y:AV),fs[i]?=some x→fs'[i]?=some y→Frz n H x y) (h2:∀(i:Nat) (x y:AV),cs[i]?=some x→cs'[i]?=some y→Frz n H x y):Frz n H (.func fn fs cs) (.func fn fs' cs')
 |any (x:AV):Frz n H x .top
theorem Frz.sound{c:Ctx}{n:Nat}{H:AHeap}(hst:St c H){x y:AV}(h:Frz n H x y):∀{v:Value},Rep c x v→Rep (c.drop n) y v:=by
 induction h with
 |cl x h=>exact fun hr=>hr.drop h
 |agg cs ds hl _ ih=>
  intro v hr;obtain⟨vs,rfl,h1,h2⟩:=hr.agg_inv;refine .agg ds vs (by omega) fun i y v hy hv=>?_
  grind
 |tup cs ds hl _ ih=>
  intro v hr;obtain⟨vs,rfl,h1,h2⟩:=hr.tup_inv;refine .tup ds vs (by omega) fun i y v hy hv=>?_
  grind
 |osl s i v off len lc cs es hn hh hl hle hs _ ih=>
  intro val hr;have hver:=hst.ver_eq hh;obtain⟨base,cap,rfl,g1,g1',g2,g3⟩:=hr.osl_inv hver;have hin:i<c.n:=by rw[hst.n];exact aV hh trivial
  cases hd:c.vd i with
  |true=>
   obtain⟨rfl,rfl⟩:=g2 hd;have:es=[]:=zAE hl;subst this;exact .sl _ _ _ _ _ s (fun _ _=>undef) rfl (zAf _) (fun h=>by cases h) (fun h=>absurd rfl h) (by simp) (by simp) (by omega)
  |false=>
   obtain⟨p1,m,p2,p3⟩:=g3 hd;obtain⟨_,_,vs,e,fr,hb,hl',hf,hrr⟩:=hst.cells hh hd;refine .sl _ _ _ _ _ s (fun k j=>vs.getD (off+(k * s+j)) undef) hl.symm (by omega) (fun h=>by cases h) (fun hne=>?_) hs (fun k x j y hk hj=>?_) (by have:=hr.osl_R;omega)
   ·have hlen:0<len:=by rw[←hl];exact zBl.2 hne
    have hbase:base=some ⟨c.blk i,off,none⟩:=p1.resolve_left (by omega)
    refine⟨_,hbase,rfl,.inr ⟨i,hn,hin,hd,rfl⟩,fun k j hk hj=>?_⟩
    have h5:k * s+j<len * s:=by
     have:(k+1) * s≤len * s:=zCq s (by omega)
     rw[zCy]at this;omega
    have hlt:off+(k * s+j)<vs.size:=by omega
    rw[wZ];show(c.w.cell? _)=_;rw[mD hb];simp[hlt]
   ·have hk':=(eT.1 hk).1;have hj':=(eT.1 hj).1;have hsz:=hs x (zAp hk);have h5:k * s+j<len * s:=by
     have:(k+1) * s≤len * s:=zCq s (by omega)
     rw[zCy]at this;omega
    have hc:cs[off+(k * s+j)]?=some (cs[off+(k * s+j)]'(by omega)):=zAb (by omega)
    refine ih k j x _ y hk hj hc (hrr _ _ _ hc ?_);simp[show off+(k * s+j)<vs.size by omega]
 |iface t x y _ ih=>
  intro v hr;cases hr with
  |iface _ _ v' hv=>exact .iface t y v' (ih hv)
 |slw full es h=>
  intro v hr;have hd:=hr.drop h;cases hd with
  |sl _ _ base len cap s vs h1 h2 h3 h4 h5 h6 h7=>exact .sl false es base len cap s vs h1 h2 (fun h=>by cases h) h4 h5 h6 h7
 |ref i v off cs ds hn hh hle _ ih=>
  intro val hr;have hver:=hst.ver_eq hh;have hin:i<c.n:=by rw[hst.n];exact aV hh trivial
  cases hr with
  |ref _ _ _ _ _ _ _ hval=>
   obtain⟨hd,rfl⟩:=hval hver;obtain⟨_,_,vs,e,fr,hb,hl',hf,hrr⟩:=hst.cells hh hd;refine .cptr ds _ (fun j=>vs.getD (off+j) undef) rfl (.inr ⟨i,hn,hin,hd,rfl⟩) (fun j hj=>?_) (fun j y hj=>?_)
   ·have hlt:off+j<vs.size:=by omega
    rw[wZ];show(c.w.cell? _)=_;rw[mD hb];simp[hlt]
   ·have hj':=(eT.1 hj).1;have hx:cs[off+j]?=some (cs[off+j]'(by omega)):=zAb (by omega)
    refine ih j _ y hx hj (hrr _ _ _ hx ?_);simp[show off+j<vs.size by omega]
 |func fn fs cs fs' cs' hf hc _ _ ih1 ih2=>
  intro v hr;cases hr with
  |func _ _ _ vf vc g1 g2 r1 r2=>
   refine .func fn fs' cs' vf vc (by omega) (by omega) (fun i y u hy hu=>?_) (fun i y u hy hu=>?_)
   ·have hlt:=(eT.1 hy).1;have hx:fs[i]?=some (fs[i]'(by omega)):=zAb (by omega)
    exact ih1 i _ y hx hy (r1 i _ u hx hu)
   ·have hlt:=(eT.1 hy).1;have hx:cs[i]?=some (cs[i]'(by omega)):=zAb (by omega)
    exact ih2 i _ y hx hy (r2 i _ u hx hu)
 |any x=>exact fun _=>.top _
theorem St.drop{c c₀:Ctx}{H L:AHeap}(h0:St c₀ H)(_:Ext c₀ c)(hst:St c (H++L)):St (c.drop c₀.n) H where
 n:=h0.n
 lt:=fun i hi hd=>by
  have hi':i<c₀.n:=hi;have:=h0.n;exact hst.lt i (by rw[hst.n];simp;omega) hd
 inj:=fun i j b b' hi hj hb hb' di dj he=>by
  have h1:=(eT.1 hi).1;have h2:=(eT.1 hj).1;exact hst.inj i j b b' (by grind) (by grind) hb hb' di dj he
 st:=fun k hk=>by
  have hn0:=h0.n;have hn:=hst.n;rcases hk with hk|⟨i,h1,h2,h3,rfl⟩
  ·obtain⟨g1,g2⟩:=hst.st k hk;refine⟨g1,fun i b hi hb hd=>?_⟩
   have h1:=(eT.1 hi).1;exact g2 i b (by rw[zAt h1];exact hi) hb hd
  ·refine⟨hst.lt i h2 h3,fun j b hj hb hd e=>?_⟩
   have hj':=(eT.1 hj).1;have hi:(H++L)[i]?=some ((H++L)[i]'(by rw[←hn];exact h2)):=zAb _
   have hbi:=hst.rep i _ hi;have hlive:((H++L)[i]'(by rw[←hn];exact h2)).live:=by
    generalize(H++L)[i]'(by rw[←hn];exact h2)=B at hbi
    cases hbi with
    |gone hd'=>rw[h3]at hd';cases hd'
    |_=>trivial
   have:=hst.inj j i b _ (by rw[zAt hj'];exact hj) hi hb hlive hd h3 e
   omega
 rep:=fun i b hi=>by
  have hi':=(eT.1 hi).1;have hn0:=h0.n;have h1:=hst.rep i b (by rw[zAt hi'];exact hi)
  have h2:=h0.rep i b hi;cases h1 with
  |cells ver cs vs e fr hv hd hh hl hf hr=>
   refine .cells ver cs vs e fr hv hd hh hl hf fun j x v hx hv'=>(hr j x v hx hv').drop ?_
   cases h2 with
   |cells _ _ vs' e' fr' _ _ _ hl' _ hr'=>
    have hj:=(eT.1 hx).1;exact(hr' j x _ hx (zBg (by omega))).cl
   |void=>simp at hx
  |void ver hv hd=>exact .void ver hv hd
  |map es clock ents hv hd hh hl hr=>
   refine .map es clock ents hv hd hh hl fun j p e hp he=>?_
   obtain⟨g1,g2,g3⟩:=hr j p e hp he;cases h2 with
   |map _ _ ents' _ _ _ hl' hr'=>
    have hj:=(eT.1 hp).1;obtain⟨q1,q2, -⟩:=hr' j p _ hp (zBg (by omega))
    exact⟨g1.drop q1.cl,g2.drop q2.cl,g3⟩
  |miter m since seen stepped hv hd hm hmv hmd hh=>
   cases h2 with
   |miter _ _ _ _ _ _ hm'=>exact .miter m since seen stepped hv hd hm' hmv hmd hh
  |siter s pos hv hd hh hsl=>exact .siter s pos hv hd hh hsl
  |loop l α N st pe ps ars bd fn D ts hv hd hl hh hN hr=>
   cases h2 with
   |loop _ _ _ _ _ _ _ _ _ _ _ _ _ _ _ _ hr'=>exact .loop l α N st pe ps ars bd fn D ts hv hd hl hh hN fun t=>(hr t).drop (hr' t).cl
  |gone hd=>exact .gone hd
theorem aJC{f:FuncId}{fn:Func}{code:Code}{args:List AV}{H:AHeap}{R:AV→Prop}(hf:P.funcs[f]?=some fn)(hb:fn.body=some code)(hn:args.length≤fn.ntmps)
  (h:aw P fn.ntmps code (xD P fn.results.toList fun v H'=>∃L y,H'=H++L∧Frz H.length H' v y∧R y) (eU 0 args) H):ACalls P f args H (fun y H'=>R y∧H'=H):=by
 intro c vs hs ha;refine(jP hf hb hn h c vs hs ha).mono fun e w' ⟨c',x,v,H',e1,e2,e3,e4,e5,L,y,e6,e7,e8⟩=>?_
 subst e6;refine⟨c'.drop c.n,y,v,H,e1,e2,hs.drop e4 e3,e4.drop,?_,e8,rfl⟩;have:=e7.sound e3 e5;rwa[←hs.n]at this
end
section
variable {P:Program}
theorem eJ{N:Nat}{x:Operand}{y z:Code}{Q:bL}{α:AF}{H:AHeap}{b:Bool}(hx:ev α x=.bool b)(h1:b=true→aw P N y Q α H)(h2:b=false→aw P N z Q α H):aw P N (.cond x y z) Q α H:=by
 intro r c a hr hs ha;have:=aJj ha x;rw[hx]at this;exact wpIn_cond_split this.bool_inv (fun hb=>h1 hb r c a (fl2 hr).1 hs ha) (fun hb=>h2 hb r c a (fl2 hr).2 hs ha)
@[go_sem] theorem aNm(N:Nat)(y:Code)(Q:bL)(α:AF)(H:AHeap):aAE P N y Q .normal α H=aw P N y Q α H:=rfl
@[go_sem] theorem aTe(N:Nat)(y:Code)(Q:bL)(α:AF)(H:AHeap):aAE P N y Q .ret α H=Q .ret α H:=rfl
@[go_sem] theorem aQU(N i:Nat)(y:Code)(Q:bL)(α:AF)(H:AHeap):aAE P N y Q (.exit i) α H=Q (.exit i) α H:=rfl
@[go_sem] theorem aMF(i:Nat)(Q:bL)(α:AF)(H:AHeap):pG i Q .normal α H=Q .normal α H:=rfl
@[go_sem] theorem aQV(i:Nat)(Q:bL)(α:AF)(H:AHeap):pG i Q .ret α H=Q .ret α H:=rfl
@[go_sem] theorem aPV(i j:Nat)(Q:bL)(α:AF)(H:AHeap):pG i Q (.exit j) α H=if j=i then Q .normal α H else Q (.exit j) α H:=by
 simp only[pG];by_cases h:j=i<;>simp[h]
attribute [go_sem] aPM xD pK aAb aE6 List.map_cons List.map_nil eU
@[go_sem] theorem aBY(d:Nat)(v:AV)(α:AF)(t:Nat):look ((d,v)::α) t=if d=t then v else look α t:=by
 simp only[look];by_cases h:d=t
 ·simp[h]
 ·have hb:(d==t)=false:=by simpa using h
  simp[h,hb]
@[go_sem] theorem aUN(t:Nat):look [] t=.top:=rfl
attribute [go_sem] bO ev eE uU if_true if_false
@[go_sem] theorem aQW(n:Int)(h1: -9223372036854775808≤n)(h2:n≤9223372036854775807):dL (.int .i64 n)=.int .i64 n:=by
 have:aBG .i64 n=true:=uB.2 (aGx.2 ⟨h1,h2⟩);simp[dL,this]
@[go_sem] theorem aTf(n:Int)(h1:0≤n)(h2:n≤255):dL (.int .u8 n)=.int .u8 n:=by
 have:aBG .u8 n=true:=uB.2 (aJh.2 ⟨h1,h2⟩);simp[dL,this]
@[go_sem] theorem aQX(n:Int)(h1: -2147483648≤n)(h2:n≤2147483647):dL (.int .i32 n)=.int .i32 n:=by
 have:aBG .i32 n=true:=uB.2 (aM5.2 ⟨h1,h2⟩);simp[dL,this]
@[go_sem] theorem aQY(n:Int)(h1:0≤n)(h2:n≤18446744073709551615):dL (.int .u64 n)=.int .u64 n:=by
 have:aBG .u64 n=true:=uB.2 ⟨h1,h2⟩;simp[dL,this]
@[go_sem] theorem aQZ(n:Int)(h1:0≤n)(h2:n≤4294967295):dL (.int .u32 n)=.int .u32 n:=by
 have:aBG .u32 n=true:=uB.2 ⟨h1,h2⟩;simp[dL,this]
@[go_sem] theorem aQ0(n:Int)(h1:0≤n)(h2:n≤65535):dL (.int .u16 n)=.int .u16 n:=by
 have:aBG .u16 n=true:=uB.2 ⟨h1,h2⟩;simp[dL,this]
@[go_sem] theorem aPW(b:Bool):dL (.bool b)=.bool b:=rfl
@[go_sem] theorem aMG:dL (.pointer none)=.nilptr:=rfl
@[go_sem] theorem aNn:dL (.slice none 0 0)=.sl true []:=rfl
@[go_sem] theorem aMH:dL (.map none)=.nilmap:=rfl
@[go_sem] theorem aJD:dL .nilFunc=.nilfunc:=rfl
@[go_sem] theorem aNo:dL .nilIface=.nilIface:=rfl
@[go_sem] theorem aQ1(s:ByteArray)(h:s.data.toList.length≤9223372036854775807):dL (.string s)=.str s.data.toList:=by
 have:Nat.ble s.data.toList.length 9223372036854775807=true:=Nat.ble_eq_true_of_le h;simp only[dL,this,cond_true]
@[go_sem] theorem aQ2{α:Type}(l:List α):(l.toArray).toList=l:=rfl
def jN:Op→Bool
 |.pick _ _ _=>false
 |.call ⟨.builtin _,_,_⟩=>true
 |.call _=>false
 |.next _ b=>b
 |.binOp _ _ _ _ _=>false
 |_=>true
def iD:Op→Bool
 |.pick _ _ _=>false
 |.call ⟨.builtin _,_,_⟩=>true
 |.call _=>false
 |_=>true
theorem cR{b:Bool}(h:b=true):b=true:=h
def pL(op:Op):List Operand:=op.operands.toList
@[go_sem] theorem aTg(x:Operand):jN (.move x)=true:=cR rfl
@[go_sem] theorem aTh(x:Operand):iD (.move x)=true:=cR rfl
@[go_sem] theorem aUO(x:Operand):pL (.move x)=[x]:=rfl
@[go_sem] theorem aPX(x:Operand):jN (.assign x)=true:=cR rfl
@[go_sem] theorem aPY(x:Operand):iD (.assign x)=true:=cR rfl
@[go_sem] theorem aQ3(x:Operand):pL (.assign x)=[x]:=rfl
@[go_sem] theorem aQ4(t:TypeId):jN (.alloc t)=true:=cR rfl
@[go_sem] theorem aQ5(t:TypeId):iD (.alloc t)=true:=cR rfl
@[go_sem] theorem aTi(t:TypeId):pL (.alloc t)=[]:=rfl
@[go_sem] theorem aUP(t:TypeId)(x:Operand):jN (.box t x)=true:=cR rfl
@[go_sem] theorem aUQ(t:TypeId)(x:Operand):iD (.box t x)=true:=cR rfl
@[go_sem] theorem aWo(t:TypeId)(x:Operand):pL (.box t x)=[x]:=rfl
@[go_sem] theorem aQ6(t:TypeId)(ps:Array (Nat×Operand)):jN (.build t ps)=true:=cR rfl
@[go_sem] theorem aQ7(t:TypeId)(ps:Array (Nat×Operand)):iD (.build t ps)=true:=cR rfl
@[go_sem] theorem aTj(t:TypeId)(ps:Array (Nat×Operand)):pL (.build t ps)=(ps.toList.map (·.2)):=rfl
@[go_sem] theorem aJb(t:TypeId)(n:Nat)(ps:Array (Nat×Operand)):jN (.buildSlice t n ps)=true:=cR rfl
@[go_sem] theorem aJc(t:TypeId)(n:Nat)(ps:Array (Nat×Operand)):iD (.buildSlice t n ps)=true:=cR rfl
@[go_sem] theorem aJE(t:TypeId)(n:Nat)(ps:Array (Nat×Operand)):pL (.buildSlice t n ps)=(ps.toList.map (·.2)):=rfl
@[go_sem] theorem aTk(t:TypeId)(x:Operand):jN (.load t x)=true:=cR rfl
@[go_sem] theorem aTl(t:TypeId)(x:Operand):iD (.load t x)=true:=cR rfl
@[go_sem] theorem aUR(t:TypeId)(x:Operand):pL (.load t x)=[x]:=rfl
@[go_sem] theorem aQ8(t:TypeId)(x y:Operand):jN (.store t x y)=true:=cR rfl
@[go_sem] theorem aQ9(t:TypeId)(x y:Operand):iD (.store t x y)=true:=cR rfl
@[go_sem] theorem aTm(t:TypeId)(x y:Operand):pL (.store t x y)=[x,y]:=rfl
@[go_sem] theorem aMI(x:Operand):jN (.nilCheck x)=true:=cR rfl
@[go_sem] theorem aMJ(x:Operand):iD (.nilCheck x)=true:=cR rfl
@[go_sem] theorem aNp(x:Operand):pL (.nilCheck x)=[x]:=rfl
@[go_sem] theorem aRa(op:BinOp)(t t':TypeId)(x y:Operand):iD (.binOp op t x y t')=true:=cR rfl
@[go_sem] theorem aTn(op:BinOp)(t t':TypeId)(x y:Operand):pL (.binOp op t x y t')=[x,y]:=rfl
@[go_sem] theorem aTo(op:UnOp)(t:TypeId)(x:Operand):jN (.unOp op t x)=true:=cR rfl
@[go_sem] theorem aTp(op:UnOp)(t:TypeId)(x:Operand):iD (.unOp op t x)=true:=cR rfl
@[go_sem] theorem aUS(op:UnOp)(t:TypeId)(x:Operand):pL (.unOp op t x)=[x]:=rfl
@[go_sem] theorem aNq(s d:TypeId)(x:Operand):jN (.convert s d x)=true:=cR rfl
@[go_sem] theorem aNr(s d:TypeId)(x:Operand):iD (.convert s d x)=true:=cR rfl
@[go_sem] theorem aPZ(s d:TypeId)(x:Operand):pL (.convert s d x)=[x]:=rfl
@[go_sem] theorem aRb(t:TypeId)(x:Operand):jN (.makeInterface t x)=true:=cR rfl
@[go_sem] theorem aRc(t:TypeId)(x:Operand):iD (.makeInterface t x)=true:=cR rfl
@[go_sem] theorem aTq(t:TypeId)(x:Operand):pL (.makeInterface t x)=[x]:=rfl
@[go_sem] theorem aMK(fn:Go.Fn)(f cs:Array Operand):jN (.makeFunc fn f cs)=true:=cR rfl
@[go_sem] theorem aML(fn:Go.Fn)(f cs:Array Operand):iD (.makeFunc fn f cs)=true:=cR rfl
@[go_sem] theorem aNs(fn:Go.Fn)(f cs:Array Operand):pL (.makeFunc fn f cs)=(f++cs).toList:=rfl
@[go_sem] theorem aRd(t:TypeId)(x:Operand)(lo hi mx:Option Operand):jN (.slice t x lo hi mx)=true:=cR rfl
@[go_sem] theorem aRe(t:TypeId)(x:Operand)(lo hi mx:Option Operand):iD (.slice t x lo hi mx)=true:=cR rfl
@[go_sem] theorem aTr(t:TypeId)(x:Operand)(lo hi mx:Option Operand):pL (.slice t x lo hi mx)=(#[x]++lo.toArray++hi.toArray++mx.toArray).toList:=rfl
@[go_sem] theorem aJF(t:TypeId)(x:Operand)(f:Nat):jN (.fieldAddr t x f)=true:=cR rfl
@[go_sem] theorem aJG(t:TypeId)(x:Operand)(f:Nat):iD (.fieldAddr t x f)=true:=cR rfl
@[go_sem] theorem aMM(t:TypeId)(x:Operand)(f:Nat):pL (.fieldAddr t x f)=[x]:=rfl
@[go_sem] theorem aRf(t:TypeId)(x:Operand)(f:Nat):jN (.field t x f)=true:=cR rfl
@[go_sem] theorem aRg(t:TypeId)(x:Operand)(f:Nat):iD (.field t x f)=true:=cR rfl
@[go_sem] theorem aTs(t:TypeId)(x:Operand)(f:Nat):pL (.field t x f)=[x]:=rfl
@[go_sem] theorem aJH(t:TypeId)(x i:Operand):jN (.indexAddr t x i)=true:=cR rfl
@[go_sem] theorem aJI(t:TypeId)(x i:Operand):iD (.indexAddr t x i)=true:=cR rfl
@[go_sem] theorem aMN(t:TypeId)(x i:Operand):pL (.indexAddr t x i)=[x,i]:=rfl
@[go_sem] theorem aRh(t:TypeId)(x i:Operand):jN (.index t x i)=true:=cR rfl
@[go_sem] theorem aRi(t:TypeId)(x i:Operand):iD (.index t x i)=true:=cR rfl
@[go_sem] theorem aTt(t:TypeId)(x i:Operand):pL (.index t x i)=[x,i]:=rfl
@[go_sem] theorem aJd(x:Operand)(u t:TypeId)(b:Bool):jN (.typeAssert x u t b)=true:=cR rfl
@[go_sem] theorem aJe(x:Operand)(u t:TypeId)(b:Bool):iD (.typeAssert x u t b)=true:=cR rfl
@[go_sem] theorem aJJ(x:Operand)(u t:TypeId)(b:Bool):pL (.typeAssert x u t b)=[x]:=rfl
@[go_sem] theorem aNt(x:Operand)(i:Nat):jN (.extract x i)=true:=cR rfl
@[go_sem] theorem aNu(x:Operand)(i:Nat):iD (.extract x i)=true:=cR rfl
@[go_sem] theorem aP0(x:Operand)(i:Nat):pL (.extract x i)=[x]:=rfl
@[go_sem] theorem aJK(t:TypeId)(x y:Operand):jN (.makeSlice t x y)=true:=cR rfl
@[go_sem] theorem aJL(t:TypeId)(x y:Operand):iD (.makeSlice t x y)=true:=cR rfl
@[go_sem] theorem aMO(t:TypeId)(x y:Operand):pL (.makeSlice t x y)=[x,y]:=rfl
@[go_sem] theorem aRj(t:TypeId)(x:Operand):jN (.range t x)=true:=cR rfl
@[go_sem] theorem aRk(t:TypeId)(x:Operand):iD (.range t x)=true:=cR rfl
@[go_sem] theorem aTu(t:TypeId)(x:Operand):pL (.range t x)=[x]:=rfl
@[go_sem] theorem aTv(x:Operand):jN (.next x true)=true:=cR rfl
@[go_sem] theorem aTw(x:Operand):iD (.next x true)=true:=cR rfl
@[go_sem] theorem aUT(x:Operand):pL (.next x true)=[x]:=rfl
@[go_sem] theorem aNv(b:Builtin)(xs:Array Operand)(ts:Array TypeId):jN (.call ⟨.builtin b,xs,ts⟩)=true:=cR rfl
@[go_sem] theorem aNw(b:Builtin)(xs:Array Operand)(ts:Array TypeId):iD (.call ⟨.builtin b,xs,ts⟩)=true:=cR rfl
@[go_sem] theorem aP1(b:Builtin)(xs:Array Operand)(ts:Array TypeId):pL (.call ⟨.builtin b,xs,ts⟩)=((#[]:Array Operand)++xs).toList:=rfl
@[go_sem] theorem aNx(t:TypeId):jN (.makeMap t none)=true:=cR rfl
@[go_sem] theorem aNy(t:TypeId):iD (.makeMap t none)=true:=cR rfl
@[go_sem] theorem aP2(t:TypeId):pL (.makeMap t none)=[]:=rfl
@[go_sem] theorem aP3(t:TypeId)(x y:Operand)(b:Bool):jN (.lookup t x y b)=true:=cR rfl
@[go_sem] theorem aP4(t:TypeId)(x y:Operand)(b:Bool):iD (.lookup t x y b)=true:=cR rfl
@[go_sem] theorem aRl(t:TypeId)(x y:Operand)(b:Bool):pL (.lookup t x y b)=[x,y]:=rfl
@[go_sem] theorem aRm(x:Operand):jN (.entry x)=true:=cR rfl
@[go_sem] theorem aRn(x:Operand):iD (.entry x)=true:=cR rfl
@[go_sem] theorem aTx(x:Operand):pL (.entry x)=[x]:=rfl
@[go_sem] theorem aJM(t:TypeId)(x y z:Operand):jN (.mapUpdate t x y z)=true:=cR rfl
@[go_sem] theorem aJN(t:TypeId)(x y z:Operand):iD (.mapUpdate t x y z)=true:=cR rfl
@[go_sem] theorem aMP(t:TypeId)(x y z:Operand):pL (.mapUpdate t x y z)=[x,y,z]:=rfl
@[go_sem] theorem aP5(t:TypeId)(x y z:Operand):jN (.insert t x y z)=true:=cR rfl
@[go_sem] theorem aP6(t:TypeId)(x y z:Operand):iD (.insert t x y z)=true:=cR rfl
@[go_sem] theorem aRo(t:TypeId)(x y z:Operand):pL (.insert t x y z)=[x,y,z]:=rfl
attribute [go_sem] aL uZ
@[go_sem] theorem aUU(s:List UInt8):aHR .string (.str s)=true:=cR rfl
@[go_sem] theorem aUV(k:IntKind)(n:Int):aHR (.int k) (.int k n)=true:=by simp[aHR]
section
variable (all os:List Oper) (α:AF) (H:AHeap) (k:AF→AHeap→Prop) (kp:AF→Prop) (dst:Option Tmp) (ty:TypeId) (pos:String) (after:Array Edge)
def aGC(P:Program)(all os:List Oper)(dst:Option Tmp)(α:AF)(k:AF→AHeap→Prop):AV→AHeap→Prop:=fun v H'=>gO P all os (bO dst v α) H' k
def aJO(P:Program)(all os:List Oper)(dst:Option Tmp)(g:Bool)(α:AF)(k:AF→AHeap→Prop):AV→AHeap→Prop:=fun v H=>gO P all os (bO dst (.opt g v) α) H k
def aE7(P:Program)(all:List Oper)(H:AHeap)(os:List Oper)(dst:Option Tmp)(α:AF)(kp:AF→Prop):AV→Prop:=fun v=>dQ P all H os (bO dst v α) kp
def aE8(P:Program)(all:List Oper)(H:AHeap)(os:List Oper)(dst:Option Tmp)(g:Bool)(α:AF)(kp:AF→Prop):AV→Prop:=fun v=>dQ P all H os (bO dst (.opt g v) α) kp
def aP7(P:Program)(all os:List Oper)(dst:Option Tmp)(α:AF)(H:AHeap)(k:AF→AHeap→Prop):AV→Prop:=fun v=>gO P all os (bO dst v α) H k
@[go_sem] theorem aUW:gO P all [] α H k=k α H:=rfl
@[go_sem] theorem aTy:dQ P all H [] α kp=kp α:=rfl
@[go_sem] theorem aTz(x y z:Operand):gO P all (⟨dst,.pick x y z,ty,pos,after,none⟩::os) α H k=
  ((eR true (ev α x) (ev α y) (ev α z)).s∧gO P all os (bO dst (eR true (ev α x) (ev α y) (ev α z)).v α) H k):=rfl
@[go_sem] theorem aRp(f:Operand)(xs:Array Operand)(ts:Array TypeId):gO P all (⟨dst,.call ⟨.value f,xs,ts⟩,ty,pos,after,none⟩::os) α H k=
  lN P (ev α f) (xs.toList.map (ev α)) H (aGC P all os dst α k):=rfl
@[go_sem] theorem aP8(r:Operand)(m:String)(xs:Array Operand)(ts:Array TypeId):gO P all (⟨dst,.call ⟨.invoke r m,xs,ts⟩,ty,pos,after,none⟩::os) α H k=
  lN P (dK P m (ev α r)) (xs.toList.map (ev α)) H (aGC P all os dst α k):=rfl
@[go_sem] theorem aNz(r:Operand)(m:String)(xs:Array Operand)(ts:Array TypeId)(j:Nat)(w:Bool):gO P all (⟨dst,.call ⟨.invoke r m,xs,ts⟩,ty,pos,after,some (j,w)⟩::os) α H k=
  (qU (aK α (bT all j))∧cX (bC (aK α (bT all j)) w) α (r::xs.toList)∧
    aBW P (bC (aK α (bT all j)) w) (dK P m (eE α r)) (xs.toList.map (eE α)) H (aJO P all os dst (bC (aK α (bT all j)) w) α k)):=rfl
@[go_sem] theorem aNA(r:Operand)(m:String)(xs:Array Operand)(ts:Array TypeId):dQ P all H (⟨dst,.call ⟨.invoke r m,xs,ts⟩,ty,pos,after,none⟩::os) α kp=
  lM P true (dK P m (ev α r)) (xs.toList.map (ev α)) H (aE7 P all H os dst α kp):=rfl
@[go_sem] theorem aMQ(r:Operand)(m:String)(xs:Array Operand)(ts:Array TypeId)(j:Nat)(w:Bool):dQ P all H (⟨dst,.call ⟨.invoke r m,xs,ts⟩,ty,pos,after,some (j,w)⟩::os) α kp=
  (qU (aK α (bT all j))∧cX (bC (aK α (bT all j)) w) α (r::xs.toList)∧
    lM P (bC (aK α (bT all j)) w) (dK P m (eE α r)) (xs.toList.map (eE α)) H (aE8 P all H os dst (bC (aK α (bT all j)) w) α kp)):=rfl
@[go_sem] theorem aRq(x y z:Operand)(j:Nat)(w:Bool):gO P all (⟨dst,.pick x y z,ty,pos,after,some (j,w)⟩::os) α H k=
  (qU (aK α (bT all j))∧((bC (aK α (bT all j)) w)=true→(eR (bC (aK α (bT all j)) w) (ev α x) (ev α y) (ev α z)).s)∧
    gO P all os (bO dst (.opt (bC (aK α (bT all j)) w) (eR (bC (aK α (bT all j)) w) (ev α x) (ev α y) (ev α z)).v) α) H k):=rfl
@[go_sem] theorem aP9(f:Operand)(xs:Array Operand)(ts:Array TypeId)(j:Nat)(w:Bool):gO P all (⟨dst,.call ⟨.value f,xs,ts⟩,ty,pos,after,some (j,w)⟩::os) α H k=
  (qU (aK α (bT all j))∧cX (bC (aK α (bT all j)) w) α (f::xs.toList)∧
   aBW P (bC (aK α (bT all j)) w) (eE α f) (xs.toList.map (eE α)) H (aJO P all os dst (bC (aK α (bT all j)) w) α k)):=rfl
@[go_sem] theorem aRr(x y z:Operand):dQ P all H (⟨dst,.pick x y z,ty,pos,after,none⟩::os) α kp=
  ((eR true (ev α x) (ev α y) (ev α z)).s∧dQ P all H os (bO dst (eR true (ev α x) (ev α y) (ev α z)).v α) kp):=rfl
@[go_sem] theorem aQa(f:Operand)(xs:Array Operand)(ts:Array TypeId):dQ P all H (⟨dst,.call ⟨.value f,xs,ts⟩,ty,pos,after,none⟩::os) α kp=
  lM P true (ev α f) (xs.toList.map (ev α)) H (aE7 P all H os dst α kp):=rfl
@[go_sem] theorem aQb(x y z:Operand)(j:Nat)(w:Bool):dQ P all H (⟨dst,.pick x y z,ty,pos,after,some (j,w)⟩::os) α kp=
  (qU (aK α (bT all j))∧((bC (aK α (bT all j)) w)=true→(eR (bC (aK α (bT all j)) w) (ev α x) (ev α y) (ev α z)).s)∧
    dQ P all H os (bO dst (.opt (bC (aK α (bT all j)) w) (eR (bC (aK α (bT all j)) w) (ev α x) (ev α y) (ev α z)).v) α) kp):=rfl
@[go_sem] theorem aNB(f:Operand)(xs:Array Operand)(ts:Array TypeId)(j:Nat)(w:Bool):dQ P all H (⟨dst,.call ⟨.value f,xs,ts⟩,ty,pos,after,some (j,w)⟩::os) α kp=
  (qU (aK α (bT all j))∧cX (bC (aK α (bT all j)) w) α (f::xs.toList)∧
   lM P (bC (aK α (bT all j)) w) (eE α f) (xs.toList.map (eE α)) H (aE8 P all H os dst (bC (aK α (bT all j)) w) α kp)):=rfl
@[go_sem] theorem aTA(x:Operand):gO P all (⟨dst,.next x false,ty,pos,after,none⟩::os) α H k=aPS (ev α x) H (aGC P all os dst α k):=rfl
@[go_sem] theorem aRs(op:BinOp)(t t':TypeId)(x y:Operand):gO P all (⟨dst,.binOp op t x y t',ty,pos,after,none⟩::os) α H k=
  bif iQ op&&oD y then aJy P t H (ev α x) (aP7 P all os dst α H k)
  else((aJp P (isK x||isK y) op t (ev α x) (ev α y)).s∧gO P all os (bO dst (aJp P (isK x||isK y) op t (ev α x) (ev α y)).v α) H k):=rfl
@[go_sem] theorem aUX(op:Op)(h:jN op=true):gO P all (⟨dst,op,ty,pos,after,none⟩::os) α H k=
  ((aL P op (ev α) H).s∧gO P all os (bO dst (aL P op (ev α) H).v α) (aL P op (ev α) H).H k):=by
 cases op<;>first|rfl|(cases h;done)|skip
 ·rename_i x b;cases b<;>first|rfl|cases h
 ·rename_i c;obtain⟨ce,xs,ts⟩:=c;cases ce<;>first|rfl|cases h
@[go_sem] theorem aTB(op:Op)(j:Nat)(w:Bool)(h:iD op=true):gO P all (⟨dst,op,ty,pos,after,some (j,w)⟩::os) α H k=
  (qU (aK α (bT all j))∧cX (bC (aK α (bT all j)) w) α (pL op)∧(bC (aK α (bT all j)) w=true→(aL P op (eE α) H).s∧(aL P op (eE α) H).H=H)∧
   gO P all os (bO dst (.opt (bC (aK α (bT all j)) w) (aL P op (eE α) H).v) α) H k):=by
 cases op<;>first|rfl|(cases h;done)|skip
 rename_i c;obtain⟨ce,xs,ts⟩:=c;cases ce<;>first|rfl|cases h
@[go_sem] theorem aTC(op:Op)(h:iD op=true):dQ P all H (⟨dst,op,ty,pos,after,none⟩::os) α kp=
  ((aL P op (ev α) H).s∧(aL P op (ev α) H).H=H∧dQ P all H os (bO dst (aL P op (ev α) H).v α) kp):=by
 cases op<;>first|rfl|(cases h;done)|skip
 rename_i c;obtain⟨ce,xs,ts⟩:=c;cases ce<;>first|rfl|cases h
@[go_sem] theorem aRt(op:Op)(j:Nat)(w:Bool)(h:iD op=true):dQ P all H (⟨dst,op,ty,pos,after,some (j,w)⟩::os) α kp=
  (qU (aK α (bT all j))∧cX (bC (aK α (bT all j)) w) α (pL op)∧(bC (aK α (bT all j)) w=true→(aL P op (eE α) H).s∧(aL P op (eE α) H).H=H)∧
   dQ P all H os (bO dst (.opt (bC (aK α (bT all j)) w) (aL P op (eE α) H).v) α) kp):=by
 cases op<;>first|rfl|(cases h;done)|skip
 rename_i c;obtain⟨ce,xs,ts⟩:=c;cases ce<;>first|rfl|cases h
end
attribute [go_sem] true_and and_true implies_true and_self not_true_eq_false Bool.not_true Bool.not_false eq_self decide_true decide_false Bool.true_eq_false Bool.false_eq_true
 List.getD_cons_zero List.getD_cons_succ List.getD_nil List.set_cons_zero List.set_cons_succ zAc zAv zAa zAr zA0 zAW zAd
 List.drop_zero List.drop_succ_cons List.drop_nil List.take_zero List.take_succ_cons List.take_nil zCm zCF zBK zCC zCd
 List.size_toArray List.toList_toArray zAI zBP Array.toList_empty
@[go_sem] theorem eZ(h L:AHeap):hget (h++L) h.length=L.getD 0 .gone:=by
 simp only[hget,zAh];rw[zAV (zAf _)];simp
@[go_sem] theorem qZ(h L:AHeap)(k:Nat):hget (h++L) (h.length+k)=L.getD k .gone:=by
 simp only[hget,zAh];rw[zAV (by omega)];simp
@[go_sem] theorem aBZ(h L:AHeap)(b:ABlk):aB (h++L) h.length b=h++L.set 0 b:=by
 simp[aB]
@[go_sem] theorem aAP(h L:AHeap)(k:Nat)(b:ABlk):aB (h++L) (h.length+k) b=h++L.set k b:=by
 simp[aB]
section
variable (P) (t:TypeId) (k:IntKind) (a b:Int) (s u:List UInt8) (x y:Bool)
@[go_sem] theorem aUY:dM P .add t (.int k a) (.int k b)=⟨.int k (k.wrap (a+b)),True⟩:=by simp[dM,cS]
@[go_sem] theorem aUZ:dM P .sub t (.int k a) (.int k b)=⟨.int k (k.wrap (a-b)),True⟩:=by simp[dM,cS]
@[go_sem] theorem aU0:dM P .mul t (.int k a) (.int k b)=⟨.int k (k.wrap (a * b)),True⟩:=by simp[dM,cS]
@[go_sem] theorem aU1:dM P .quo t (.int k a) (.int k b)=⟨.int k (k.wrap (a.tdiv b)),b≠0⟩:=by simp[dM,cS]
@[go_sem] theorem aU2:dM P .rem t (.int k a) (.int k b)=⟨.int k (a.tmod b),b≠0⟩:=by simp[dM,cS]
@[go_sem] theorem aU3:dM P .and t (.int k a) (.int k b)=⟨.int k (nA .and k a b),True⟩:=by simp[dM,cS]
@[go_sem] theorem aWp:dM P .or t (.int k a) (.int k b)=⟨.int k (nA .or k a b),True⟩:=by simp[dM,cS]
@[go_sem] theorem aU4:dM P .xor t (.int k a) (.int k b)=⟨.int k (nA .xor k a b),True⟩:=by simp[dM,cS]
@[go_sem] theorem aU5:dM P .eql t (.int k a) (.int k b)=⟨.bool (decide (a=b)),True⟩:=by simp[dM,cS]
@[go_sem] theorem aU6:dM P .neq t (.int k a) (.int k b)=⟨.bool (!decide (a=b)),True⟩:=by simp[dM,cS]
@[go_sem] theorem aU7:dM P .lss t (.int k a) (.int k b)=⟨.bool (decide (a<b)),True⟩:=by simp[dM,cS]
@[go_sem] theorem aU8:dM P .leq t (.int k a) (.int k b)=⟨.bool (decide (a≤b)),True⟩:=by simp[dM,cS]
@[go_sem] theorem aU9:dM P .gtr t (.int k a) (.int k b)=⟨.bool (decide (b<a)),True⟩:=by simp[dM,cS]
@[go_sem] theorem aVa:dM P .geq t (.int k a) (.int k b)=⟨.bool (decide (b≤a)),True⟩:=by simp[dM,cS]
@[go_sem] theorem aVb(k':IntKind):dM P .shl t (.int k a) (.int k' b)=⟨.int k (k.wrap (a * 2 ^ (min b.toNat k.bits))),0≤b⟩:=by simp[dM,cS]
@[go_sem] theorem aVc(k':IntKind):dM P .shr t (.int k a) (.int k' b)=⟨.int k (a.fdiv (2 ^ (min b.toNat k.bits))),0≤b⟩:=by simp[dM,cS]
@[go_sem] theorem aTD:dM P .add t (.str s) (.str u)=⟨.str (s++u),s.length+u.length≤9223372036854775807⟩:=by simp[dM,uV]
@[go_sem] theorem aTE:dM P .eql t (.str s) (.str u)=⟨.bool (decide (s=u)),True⟩:=by simp[dM,uV]
@[go_sem] theorem aTF:dM P .neq t (.str s) (.str u)=⟨.bool (!decide (s=u)),True⟩:=by simp[dM,uV]
@[go_sem] theorem aTG:dM P .eql t (.bool x) (.bool y)=⟨.bool (x==y),P.underlying t=some .bool⟩:=by simp[dM]
@[go_sem] theorem aTH:dM P .neq t (.bool x) (.bool y)=⟨.bool (!(x==y)),P.underlying t=some .bool⟩:=by simp[dM]
@[go_sem] theorem aTI(xs ys:List AV):dM P .eql t (.agg xs) (.agg ys)=⟨.bool (aEq P 30 t (.agg xs) (.agg ys)).b,P.eqGuardType P.depth t=false∧(aEq P 30 t (.agg xs) (.agg ys)).s⟩:=by simp[dM]
@[go_sem] theorem aTJ(xs ys:List AV):dM P .neq t (.agg xs) (.agg ys)=⟨.bool (!(aEq P 30 t (.agg xs) (.agg ys)).b),P.eqGuardType P.depth t=false∧(aEq P 30 t (.agg xs) (.agg ys)).s⟩:=by simp[dM]
end
@[go_sem] theorem aTK(cs:List AV):(AV.agg cs).cells=cs:=rfl
@[go_sem] theorem aTL(k:IntKind)(n:Int):AV.cells (.int k n)=[.int k n]:=rfl
@[go_sem] theorem aRu(b:Bool):AV.cells (.bool b)=[.bool b]:=rfl
@[go_sem] theorem aTM(s:List UInt8):AV.cells (.str s)=[.str s]:=rfl
@[go_sem] theorem aTN(cs:List AV):AV.cells (.tup cs)=[.tup cs]:=rfl
@[go_sem] theorem aVd(f:Bool)(es:List AV):AV.cells (.sl f es)=[.sl f es]:=rfl
@[go_sem] theorem aRv(cs:List AV):AV.cells (.cptr cs)=[.cptr cs]:=rfl
@[go_sem] theorem aTO(i v o:Nat):AV.cells (.ref i v o)=[.ref i v o]:=rfl
@[go_sem] theorem aTP(a b c d e f:Nat):AV.cells (.osl a b c d e f)=[.osl a b c d e f]:=rfl
@[go_sem] theorem aNC:AV.cells (.nilptr)=[.nilptr]:=rfl
@[go_sem] theorem aTQ(i:Nat):AV.cells (.map i)=[.map i]:=rfl
@[go_sem] theorem aND:AV.cells (.nilmap)=[.nilmap]:=rfl
@[go_sem] theorem aRw(i:Nat):AV.cells (.iter i)=[.iter i]:=rfl
@[go_sem] theorem aRx(f:Fn)(a b:List AV):AV.cells (.func f a b)=[.func f a b]:=rfl
@[go_sem] theorem aMR:AV.cells (.nilfunc)=[.nilfunc]:=rfl
@[go_sem] theorem aQc(t:TypeId)(x:AV):AV.cells (.iface t x)=[.iface t x]:=rfl
@[go_sem] theorem aJP:AV.cells (.nilIface)=[.nilIface]:=rfl
@[go_sem] theorem aTR(g:Bool)(x:AV):AV.cells (.opt g x)=[.opt g x]:=rfl
@[go_sem] theorem aTS:AV.cells (.top)=[.top]:=rfl
@[go_sem] theorem aTT{α:Type}:(none:Option α).toArray.toList=[]:=rfl
@[go_sem] theorem aTU{α:Type}(x:α):(some x).toArray.toList=[x]:=rfl
@[go_sem] theorem aTV:iQ .eql=true:=rfl
@[go_sem] theorem aTW:iQ .neq=false:=rfl
@[go_sem] theorem aTX:iQ .add=false:=rfl
@[go_sem] theorem aTY:iQ .sub=false:=rfl
@[go_sem] theorem aTZ:iQ .mul=false:=rfl
@[go_sem] theorem aT0:iQ .quo=false:=rfl
@[go_sem] theorem aT1:iQ .rem=false:=rfl
@[go_sem] theorem aT2:iQ .and=false:=rfl
@[go_sem] theorem aVe:iQ .or=false:=rfl
@[go_sem] theorem aT3:iQ .xor=false:=rfl
@[go_sem] theorem aNE:iQ .andNot=false:=rfl
@[go_sem] theorem aT4:iQ .shl=false:=rfl
@[go_sem] theorem aT5:iQ .shr=false:=rfl
@[go_sem] theorem aT6:iQ .lss=false:=rfl
@[go_sem] theorem aT7:iQ .leq=false:=rfl
@[go_sem] theorem aT8:iQ .gtr=false:=rfl
@[go_sem] theorem aT9:iQ .geq=false:=rfl
@[go_sem] theorem aRy(t:Nat):oD (.tmp t)=false:=rfl
@[go_sem] theorem aMS(t:Nat):oD (.global t)=false:=rfl
@[go_sem] theorem aQd(t:Nat):oD (.func t)=false:=rfl
@[go_sem] theorem aNF(v:Value):oD (.const v)=lK v:=rfl
@[go_sem] theorem aRz(k:IntKind)(n:Int):lK (.int k n)=false:=rfl
@[go_sem] theorem aQe(b:Bool):lK (.bool b)=false:=rfl
@[go_sem] theorem aRA(s:ByteArray):lK (.string s)=false:=rfl
@[go_sem] theorem aQf:lK .nilIface=false:=rfl
@[go_sem] theorem aQg:lK .nilFunc=false:=rfl
@[go_sem] theorem aRB(a:Option Addr):lK (.pointer a)=false:=rfl
@[go_sem] theorem aRC(a:Option Nat):lK (.map a)=false:=rfl
@[go_sem] theorem aRD(a:Array Value):lK (.agg a)=false:=rfl
@[go_sem] theorem aUa:lK (.slice none 0 0)=true:=rfl
attribute [go_sem] aJy
attribute [go_sem] aQS aYb isK aXh aJp aE0 aX6 aXc aXd aUI dK aJn aNg aXf aXe kH aX7 aWl aX8 aWm aX9 aNh aYa bad aYB aUJ aXg
section
variable {P:Program}
@[go_sem] theorem aNG(ts tx:TypeId)(f:Bool)(x:AV)(H:AHeap):uY P ts tx (.sl f []) x H=lQ P ts tx (.sl f []) x H:=rfl
@[go_sem] theorem aNH(ts tx:TypeId)(s i v o l c:Nat)(x:AV)(H:AHeap):uY P ts tx (.osl s i v o l c) x H=lQ P ts tx (.osl s i v o l c) x H:=rfl
@[go_sem] theorem aMT(ts tx:TypeId)(f:Bool)(e0:AV)(es:List AV)(x:AV)(H:AHeap):uY P ts tx (.sl f (e0::es)) x H=(if dN x=0 then(match P.underlying ts with
   |some (.slice e)=>⟨.sl f (e0::es),H,pH P e=true∧pI P tx=true∧yY x (P.cellsOf e) H⟩
   |_=>⟨.top,H,False⟩)else lQ P ts tx (.sl f (e0::es)) x H):=rfl
end
section
@[go_sem] theorem aRE(k:IntKind)(n:Int):aAM (.int k n)=false:=rfl
@[go_sem] theorem aQh(b:Bool):aAM (.bool b)=false:=rfl
@[go_sem] theorem aRF(s:List UInt8):aAM (.str s)=false:=rfl
@[go_sem] theorem aRG(s:List AV):aAM (.agg s)=false:=rfl
@[go_sem] theorem aNI(t:TypeId)(x:AV):aAM (.iface t x)=false:=rfl
@[go_sem] theorem aRH:aAM .nilIface=true:=rfl
end
@[go_sem] theorem aRI(cs:List AV)(n:Nat):bG cs n []=cs:=by simp[bG]
@[go_sem] theorem aQi(c x:AV)(cs xs:List AV):bG (c::cs) 0 (x::xs)=x::bG cs 0 xs:=by simp[bG]
@[go_sem] theorem aQj(c:AV)(cs xs:List AV)(n:Nat):bG (c::cs) (n+1) xs=c::bG cs n xs:=by
 simp[bG,Nat.add_right_comm n 1]
attribute [go_sem] aXa AV.known AV.one yW aAH aEY aAI aAJ uW aQR aQP aQQ aYA lQ dN dU yY aUM u8N aYD aYE aJq aNk aYF aYG aDD aJm aX5 aXb aJu aJw apart
 aun eR aBV aDE uC isB bC qU false_implies aJB aNl aHV aK cX bT aQO bad aEq aAG List.all_cons List.all_nil Bool.and_true zAN Bool.and_false zB5 Bool.or_false Bool.or_true zCG Bool.true_or Bool.not_not
 zBd zCu zCu ge_iff_le gt_iff_lt beq_self_eq_true BEq.rfl zAs zAH forall_eq_or_imp forall_const zBv false_or ne_eq reduceCtorEq
@[go_sem] theorem aWq(a b:Nat):Nat.ble a b=decide (a≤b):=by
 rw[zBo];simp
attribute [go_sem] decide_true decide_false Bool.cond_true Bool.cond_false
@[go_sem] theorem aXi{α:Type}(a b:α):(bif true then a else b)=a:=rfl
@[go_sem] theorem aXj{α:Type}(a b:α):(bif false then a else b)=b:=rfl
@[go_sem] theorem aVf(b x:Bool):(bif b then x else false)=(b&&x):=by cases b<;>rfl
@[go_sem] theorem aWr(b x:Bool):(bif b then true else x)=(b||x):=by cases b<;>rfl
@[go_sem] theorem aVg(p:Prop):(p→p)=True:=by simp
@[go_sem] theorem aVh(a b:Bool):((a&&b)=true→a=true)=True:=by cases a<;>simp
@[go_sem] theorem aVi(a b:Bool):(a=true→b=true→(a&&b)=true)=True:=by cases a<;>simp
@[go_sem] theorem aVj(a b:Bool):(a=true→b=false→(a&& !b)=true)=True:=by cases a<;>simp
@[go_sem] theorem aWs(b:Bool):(b=false→(!b)=true)=True:=by simp
@[go_sem] theorem aVk(p:Prop):(True→p)=p:=by simp
@[go_sem] theorem aQk(p:Prop)[Decidable p]:(decide p=true)=p:=by simp
@[go_sem] theorem aQl(p:Prop)[Decidable p]:(decide p=false)=¬p:=by simp
@[go_sem] theorem aVl(b:Bool):((!b)=true)=(b=false):=by simp
@[go_sem] theorem aVm(b:Bool):((!b)=false)=(b=true):=by simp
@[go_sem] theorem aVn(a b:Bool):((a&&b)=true)=(a=true∧b=true):=by simp
@[go_sem] theorem aWt(a b:Bool):((a||b)=false)=(a=false∧b=false):=by simp
end
section
variable {P:Program}
theorem aZ{f:FuncId}{args:List AV}{H:AHeap}{x:AV}{k:AV→AHeap→Prop}(h:bH P f args H x)(ok:dV P f=true)(hk:k x H):lN P (.func (.func f) [] []) args H k:=
 Or.inl ⟨ok,by
  simp only[zAW,zAd];exact h.mono fun y H' ⟨e1,e2⟩=>by subst e1;subst e2;exact hk⟩
theorem aR{f:FuncId}{args:List AV}{H:AHeap}{R:AV→AHeap→Prop}{k:AV→AHeap→Prop}(h:ACalls P f args H R)(ok:dV P f=true)(hk:∀x H',R x H'→k x H'):lN P (.func (.func f) [] []) args H k:=
 Or.inl ⟨ok,by
  simp only[zAW,zAd];exact h.mono hk⟩
theorem bA{g:Bool}{f:FuncId}{args:List AV}{H:AHeap}{x:AV}{K:AV→Prop}(h:bH P f args H x)(ok:dV P f=true)(hk:K x):lM P g (.func (.func f) [] []) args H K:=
 ⟨x,fun _=>Or.inl ⟨ok,by
  simp only[zAW,zAd];exact h⟩,hk⟩
theorem aGD{l:Nat}{args:List AV}{H:AHeap}{K:AV→AHeap→Prop}(h:lN P (.func (.yield l) [] []) args H K):aBW P true (.func (.yield l) [] []) args H K:=Or.inr ⟨rfl,h⟩
theorem aGE{g:Bool}{f:AV}{args:List AV}{H:AHeap}{K:AV→AHeap→Prop}(h:lM P g f args H (fun v=>K v H)):aBW P g f args H K:=Or.inl h
theorem aRJ{f:FuncId}{fn:Func}{code:Code}{args:List AV}{H:AHeap}{x:AV}(hf:P.funcs[f]?=some fn)(hb:fn.body=some code)(hn:args.length≤fn.ntmps)
  (h:aw P fn.ntmps code (xD P fn.results.toList fun v H'=>∃L y,H'=H++L∧Frz H.length H' v y∧y=x) (eU 0 args) H):bH P f args H x:=
 aJC hf hb hn h
theorem wrap_i64{n:Int}(h1: -9223372036854775808≤n)(h2:n≤9223372036854775807):IntKind.i64.wrap n=n:=by
 simp only[IntKind.wrap,IntKind.signed,IntKind.bits,zAN];split
 ·rename_i h;have h:=zAQ h;omega
 ·rename_i h;have h:¬n % 2 ^ 64≥2 ^ (64-1):=fun q=>h (zAj q);omega
def rA:Nat→AV→Bool
 |_,.int _ _|_,.bool _|_,.str _|_,.nilptr|_,.nilmap|_,.nilfunc|_,.nilIface|_,.top=>true
 |k+1,.agg cs=>cs.all (rA k)
 |k+1,.tup cs=>cs.all (rA k)
 |k+1,.iface _ x=>rA k x
 |_,_=>false
theorem aDH{n:Nat}:∀(k:Nat) {x:AV},rA k x=true→Cl n x:=by
 intro k;induction k with
 |zero=>
  intro x h;cases x<;>first|(simp[rA]at h;done)|constructor
 |succ k ih=>
  intro x h;cases x<;>first
   |(simp[rA]at h;done)
   |(rename_i cs;exact .agg cs fun i y hy=>ih (zAJ.1 h y (zAp hy)))
   |(rename_i cs;exact .tup cs fun i y hy=>ih (zAJ.1 h y (zAp hy)))
   |(rename_i t y;exact .iface t y (ih h))
   |constructor
theorem uE{n k:Nat}{H L:AHeap}{v x:AV}(hk:rA k v=true)(he:v=x):∃L' y,H++L=H++L'∧Frz n (H++L) v y∧y=x:=
 ⟨L,v,rfl,.cl _ (aDH k hk),he⟩
theorem aDI{n k:Nat}{H:AHeap}{v x:AV}(hk:rA k v=true)(he:v=x):∃L' y,H=H++L'∧Frz n H v y∧y=x:=
 ⟨[],v,(zAd H).symm,.cl _ (aDH k hk),he⟩
@[go_sem] def aDJ:AF→AF→Prop
 |[],_=>True
 |(k,v)::β,α=>look α k=v∧aDJ β α
theorem kJ{α:AF}:∀{β:AF},aDJ β α→∀t,look β t=.top∨look β t=look α t
 |[],_,t=>.inl rfl
 |(k,v)::β,h,t=>by
  rw[aBY];by_cases e:k=t
  ·subst e;rw[zAl rfl];exact .inr h.1.symm
  ·rw[zAe e];exact kJ h.2 t
def aGF{ι:Type}(F:ι→AF)(Hp:ι→AHeap)(pre:ι→Prop)(m:ι→Nat)(x:ι)(Q:bL):bL
 |.normal,α,H=>∃y,pre y∧m y<m x∧aDJ (F y) α∧H=Hp y
 |e,α,H=>Q e α H
section
variable {ι:Type} (F:ι→AF) (Hp:ι→AHeap) (pre:ι→Prop) (m:ι→Nat) (x:ι) (Q:bL) (α:AF) (H:AHeap)
@[go_sem] theorem aNJ:aGF F Hp pre m x Q .normal α H=∃y,pre y∧m y<m x∧aDJ (F y) α∧H=Hp y:=rfl
@[go_sem] theorem aRK(i:Nat):aGF F Hp pre m x Q (.exit i) α H=Q (.exit i) α H:=rfl
@[go_sem] theorem aUb:aGF F Hp pre m x Q .ret α H=Q .ret α H:=rfl
end
theorem aI{N:Nat}{body:Code}{Q:bL}{α:AF}{H:AHeap}{ι:Type}(F:ι→AF)(Hp:ι→AHeap)(pre:ι→Prop)(m:ι→Nat)(x₀:ι)(h0:pre x₀)
  (hF:aDJ (F x₀) α) (hH:H=Hp x₀) (round:∀x,pre x→aw P N body (aGF F Hp pre m x Q) (F x) (Hp x)):aw P N (.loop body) Q α H:=
 aM7 F Hp pre m x₀ h0 (kJ hF) hH fun x hx=>aAi (round x hx) fun e α' H' h=>by
  cases e<;>first
   |exact h
   |(obtain⟨y,h1,h2,h3,h4⟩:=h;exact⟨y,h1,h2,kJ h3,h4⟩)
end
section
variable {P:Program}
def Ctx.stop(c:Ctx)(i:Nat):Ctx:=
 {w:=c.w,n:=c.n,blk:=c.blk,ver:=fun j=>if j=i then c.ver i+1 else c.ver j,vd:=fun j=>if j=i then true else c.vd j,stable:=fun b=>c.stable b∨(c.vd i=false∧b=c.blk i),base:=c.base}
theorem Ext.stop(c:Ctx)(i:Nat):Ext c (c.stop i) where
 n:=zAf _
 size:=zAf _
 st:=fun _ h=>⟨.inl h,rfl⟩
 ver:=fun j _=>by
  simp only[Ctx.stop];split
  ·rename_i h;subst h;omega
  ·omega
 blk:=fun j _ he=>by
  simp only[Ctx.stop]at he ⊢;by_cases h:j=i
  ·subst h;rw[zAl rfl]at he;omega
  ·simp[h]
 os:=rfl
 tape:=rfl
 output:=rfl
 base:=rfl
theorem St.stop{c:Ctx}{H:AHeap}{i v:Nat}{cs:List AV}(h:St c H)(hh:hget H i=.cells v cs)(hv:v≠0):St (c.stop i) (aB H i .gone):=by
 have hi:H[i]?=some (.cells v cs):=cV hh trivial;have hlt:i<c.n:=by rw[h.n];exact aV hh trivial
 have hver:c.ver i=v:=h.ver_eq hh;have hget:∀{j b},(aB H i .gone)[j]?=some b→b.live→j≠i∧H[j]?=some b:=by
  intro j b hj hb;by_cases e:j=i
  ·subst e;rw[aB,zAU (by rw[←h.n];exact hlt)]at hj
   cases hj;exact hb.elim
  ·rw[aB,zAA (fun q=>e q.symm)]at hj
   exact⟨e,hj⟩
 constructor
 ·simp[aB,Ctx.stop,h.n]
 ·intro j hj hd;simp only[Ctx.stop]at hd ⊢;split at hd
  ·cases hd
  ·exact h.lt j hj hd
 ·intro j k b b' hj hk hb hb' dj dk he;obtain⟨n1,g1⟩:=hget hj hb;obtain⟨n2,g2⟩:=hget hk hb';simp only[Ctx.stop,zAe n1,zAe n2]at dj dk he;exact h.inj j k b b' g1 g2 hb hb' dj dk he
 ·intro k hk;rcases hk with hk|⟨hd,rfl⟩
  ·obtain⟨h1,h2⟩:=h.st k hk;refine⟨h1,fun j b hj hb dj=>?_⟩
   obtain⟨n1,g1⟩:=hget hj hb;simp only[Ctx.stop,zAe n1]at dj;exact h2 j b g1 hb dj
  ·refine⟨h.lt i hlt hd,fun j b hj hb dj e=>?_⟩
   obtain⟨n1,g1⟩:=hget hj hb;simp only[Ctx.stop,zAe n1]at dj;exact n1 (h.inj j i b _ g1 hi hb trivial dj hd e)
 ·intro j b hj;by_cases e:j=i
  ·subst e;rw[aB,zAU (by rw[←h.n];exact hlt)]at hj
   cases hj;exact .gone (by simp[Ctx.stop])
  ·rw[aB,zAA (fun q=>e q.symm)]at hj
   have hx:=Ext.stop c i;cases h.rep j b hj with
   |cells ver cs vs ty fr q1 q2 q3 q4 q5 q6=>exact .cells ver cs vs _ fr (by simpa[Ctx.stop,e]using q1) (by simpa[Ctx.stop,e]using q2) q3 q4 q5 fun k x u p q=>(q6 k x u p q).mono hx
   |void ver q1 q2=>exact .void ver (by simpa[Ctx.stop,e]using q1) (by simpa[Ctx.stop,e]using q2)
   |map es clock ents q1 q2 q3 q4 q5=>exact .map es clock ents (by simpa[Ctx.stop,e]using q1) (by simpa[Ctx.stop,e]using q2) q3 q4 fun k p u g1 g2=>let⟨r1,r2,r3⟩:=q5 k p u g1 g2;⟨r1.mono hx,r2.mono hx,r3⟩
   |miter m since seen stepped q1 q2 q3 q4 q5 q6=>
    have hm:m≠i:=fun r=>by subst r;omega
    exact .miter m since seen stepped (by simpa[Ctx.stop,e]using q1) (by simpa[Ctx.stop,e]using q2) q3 (by simpa[Ctx.stop,hm]using q4) (by simpa[Ctx.stop,hm]using q5) q6
   |siter s pos q1 q2 q3 q4=>exact .siter s pos (by simpa[Ctx.stop,e]using q1) (by simpa[Ctx.stop,e]using q2) q3 q4
   |loop l α N st pe ps ars bd fn D ts q1 q2 q3 q4 q5 q6=>exact .loop l α N st pe ps ars bd fn D ts (by simpa[Ctx.stop,e]using q1) (by simpa[Ctx.stop,e]using q2) q3 q4 q5 fun t=>(q6 t).mono hx
   |gone q1=>exact .gone (by simpa[Ctx.stop,e]using q1)
theorem kT{s:Nat}:∀{es:List AV},(∀e∈es,e.cells.length=s)→∀{k j:Nat} {e x:AV},es[k]?=some e→e.cells[j]?=some x→(es.flatMap AV.cells)[k * s+j]?=some x
 |[],_,k,j,e,x,hk,_=>by simp at hk
 |e0::es,hs,0,j,e,x,hk,hj=>by
  simp only[List.getElem?_cons_zero,zB7]at hk;subst hk;have:=(eT.1 hj).1;rw[Nat.zero_mul,zBK,zBd,zAt this];exact hj
 |e0::es,hs,k+1,j,e,x,hk,hj=>by
  rw[zB0]at hk;have h0:=hs e0 (by simp)
  rw[zBd,zAV (by rw[h0,zCy];omega),h0,show(k+1) * s+j-s=k * s+j by rw[zCy];omega]
  exact kT (fun e he=>hs e (by simp[he])) hk hj
theorem rB{s:Nat}:∀{es:List AV},(∀e∈es,e.cells.length=s)→(es.flatMap AV.cells).length=es.length * s
 |[],_=>by simp
 |e0::es,hs=>by
  rw[zBd,zAa,hs e0 (by simp),rB (fun e he=>hs e (by simp[he])),zAc,zCy];omega
theorem aDK{c:Ctx}{H:AHeap}{i v s lc:Nat}{cs es:List AV}{val:Value}(h:St c H)(hh:hget H i=.cells v cs)(rest:List AV)(hcs:cs=es.flatMap AV.cells++rest)(hs:∀e∈es,e.cells.length=s)
  (hx:Rep c (.osl s i v 0 es.length lc) val):Rep (c.stop i) (.sl false es) val:=by
 have hver:=h.ver_eq hh;obtain⟨base,cap,rfl,g1,g1',g2,g3⟩:=hx.osl_inv hver;cases hd:c.vd i with
 |true=>
  obtain⟨q1,rfl⟩:=g2 hd;have:es=[]:=zAE q1;subst this;exact .sl _ _ _ _ _ s (fun _ _=>undef) rfl (zAf _) (fun h=>by cases h) (fun h=>absurd rfl h) (by simp) (by simp) (by simp)
 |false=>
  obtain⟨p1,m,p2,p3⟩:=g3 hd;obtain⟨_,_,vs,e,fr,hb,hl',hf,hrr⟩:=h.cells hh hd;have hfl:=rB hs;refine .sl _ _ _ _ _ s (fun k j=>vs.getD (k * s+j) undef) rfl (by omega) (fun h=>by cases h) (fun hne=>?_) hs (fun k x j y hk hj=>?_) (by have:=hx.osl_R;omega)
  ·have hlen:0<es.length:=zBl.2 hne;have hbase:base=some ⟨c.blk i,0,none⟩:=p1.resolve_left (by omega)
   refine⟨_,hbase,rfl,.inr ⟨hd,rfl⟩,fun k j hk hj=>?_⟩
   have h5:k * s+j<es.length * s:=by
    have:(k+1) * s≤es.length * s:=zCq s (by omega)
    rw[zCy]at this;omega
   have hlt:k * s+j<vs.size:=by rw[hcs,zAa]at hl';omega
   rw[wZ];show(c.w.cell? _)=_;rw[mD hb];simp[hlt]
  ·have hc0:=kT hs hk hj;have hlt0:=(eT.1 hc0).1;have hc:cs[k * s+j]?=some y:=by rw[hcs,zAt hlt0];exact hc0
   have hlt:=(eT.1 hc).1;exact(hrr _ _ _ hc (by simp[show k * s+j<vs.size by omega])).mono (Ext.stop c i)
theorem aB0(y:AV)(α:AF)(t:Nat):∀ts:List Nat,look (ts.map (fun t=>(t,y))++α) t=if t∈ts then y else look α t
 |[]=>by simp
 |d::ts=>by
  rw[zAw,zA0,aBY,aB0 y α t ts];by_cases e:d=t
  ·subst e;simp
  ·have:¬t=d:=fun q=>e q.symm
   simp[e,this]
theorem aE9{N:Nat}{code:Code}{Q:bL}{α:AF}{H:AHeap}{i v s lc:Nat}{cs:List AV}(ts:List Nat)(es rest:List AV)(hx:∀t∈ts,look α t=.osl s i v 0 es.length lc)(hh:hget H i=.cells v cs)(hv:v≠0)
  (hcs:cs=es.flatMap AV.cells++rest) (hs:∀e∈es,e.cells.length=s) (h:aw P N code Q (ts.map (fun t=>(t,.sl false es))++α) (aB H i .gone)):aw P N code Q α H:=by
 intro r c a hr hst ha;have hx':=Ext.stop c i;refine wpIn_mono (h r (c.stop i) a hr (hst.stop hh hv) ⟨ha.size,ha.defers.mono hx',fun t=>?_⟩) fun _ _ _ ⟨c',α',H',e1,e2,e3,e4,e5⟩=>⟨c',α',H',e1,e2,hx'.trans e3,e4,e5⟩
 rw[aB0];by_cases ht:t∈ts
 ·rw[zAl ht];have hr:=ha.rep t;rw[hx t ht]at hr;exact aDK hst hh rest hcs hs hr
 ·rw[zAe ht];exact(ha.rep t).mono hx'
theorem oM{N:Nat}{code:Code}{Q:bL}{α:AF}{H:AHeap}{i v s lc:Nat}{cs:List AV}(ts:List Nat)(es:List AV)(hx:∀t∈ts,look α t=.osl s i v 0 es.length lc)(hh:hget H i=.cells v cs)(hv:v≠0)
  (hcs:cs=es.flatMap AV.cells) (hs:∀e∈es,e.cells.length=s) (h:aw P N code Q (ts.map (fun t=>(t,.sl false es))++α) (aB H i .gone)):aw P N code Q α H:=
 aE9 ts es [] hx hh hv (by rw[hcs,zAd]) hs h
end
end Go.Proofs.YtennnelammaapaaGreatDoor
