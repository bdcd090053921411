/- What the functions of this seat answer (3 of 40). No condition. -/
import Derived.Test.YtigedpfipifefaaGreatDoorWorkAB
import Derived.Still
import Derived.Attr
set_option linter.unusedSimpArgs false
set_option linter.unusedVariables false
set_option linter.unusedSectionVars false
set_option maxRecDepth 100000
set_option maxHeartbeats 16000000
namespace Go.Proofs.YtigedpfipifefaaGreatDoor
section
variable {P:Program}
theorem mT{o:Oper}(h:∀c,o.op≠.defer c):Sm o:=fun r ρ=>Oper.semAt_eq r ρ o h
theorem aZ{o:Oper}{ρ:Operand→AV}{H H':AHeap}{x:AV}
  (h:∀(c:Ctx) (a:Act),St c H→(∀x∈o.op.operands.toList,Rep c (ρ x) (a.eval x))→∃c' v,(execOp a.eval o).run P c.w=.ok (.value v) c'.w∧St c' H'∧Ext c c'∧Rep c' x v) (hd:Sm o:=by intro r _;cases r<;>rfl):
  Does P o ρ H (fun x' H''=>x'=x∧H''=H'):=by
 intro r c a next Q hs hρ hk
 obtain⟨c',v,h1,h2,h3,h4⟩:=h c a hs hρ;refine owp hd ?_;rw[h1];exact hk c' x v H' h2 h3 h4 ⟨rfl,rfl⟩
theorem nU{o:Oper}{ρ:Operand→AV}{H H':AHeap}
  (h:∀(c:Ctx) (a:Act),St c H→(∀x∈o.op.operands.toList,Rep c (ρ x) (a.eval x))→∃c',(execOp a.eval o).run P c.w=.ok .skip c'.w∧St c' H'∧Ext c c') (hd:Sm o:=by intro r _;cases r<;>rfl):
  Does P o ρ H (fun x' H''=>x'=.top∧H''=H'):=by
 intro r c a next Q hs hρ hk
 obtain⟨c',h1,h2,h3⟩:=h c a hs hρ;refine owp hd ?_;rw[h1];exact hk c' .top undef H' h2 h3 (.top _) ⟨rfl,rfl⟩
def mU(r:BR)(H:AHeap):Res:=⟨r.v,H,r.s⟩
theorem Rep.cptr_inv{c:Ctx}{cs:List AV}{v:Value}(h:Rep c (.cptr cs) v):∃a,v=.pointer (some a):=by
 cases h with|cptr _ a=>exact⟨a,rfl⟩
def aCL(x:AV)(H:AHeap):Res:=
 match x with
 |.ref i v off=>⟨.ref i v off,H,mQ H (.ref i v off)⟩
 |.cptr cs=>⟨.cptr cs,H,True⟩
 |_=>⟨.top,H,False⟩
def kK(P:Program)(t:TypeId):Bool:=
 match P.underlying t with
 |some d=>aLo P d
 |none=>false
def aCM(g:Nat):AV:=
 match aOZ.find? (·.1==g)with
 |some p=>.cptr (p.2.map cZ)
 |none=>.top
def gev(x:Operand)(v:AV):AV:=
 match x with
 |.global g=>aCM g
 |_=>v
theorem aFj{c:Ctx}{H:AHeap}{x:Operand}{v:AV}{a:Act}(hst:St c H)(h:Rep c v (a.eval x)):Rep c (gev x v) (a.eval x):=by
 unfold gev;split
 ·rename_i g;unfold aCM;split
  ·rename_i p hp;have hm:=hst.gl p (List.mem_of_find?_eq_some hp);have hg:p.1=g:=by simpa using List.find?_some hp
   subst hg;refine .cptr _ ⟨p.1,0,none⟩ (fun j=>p.2.getD j undef) rfl hm.1 (fun j hj=>?_) (fun j y hy=>?_)
   ·simp only[zAs]at hj;rw[uM,zBn,hm.2 j _ (zAd hj)];simp[zAm,hj]
   ·simp only[zAY,zAy]at hy;obtain⟨v,hv,rfl⟩:=hy;rw[zAm,hv];exact aHR c v
  ·exact .top _
 ·exact h
def aF(P:Program)(op:Op)(ρ:Operand→AV)(H:AHeap):Res:=
 match op with
 |.move x=>⟨ρ x,H,True⟩
 |.assign x=>⟨ρ x,H,True⟩
 |.alloc t=>aHT P t H
 |.box _ x=>aNS (ρ x) H
 |.build t ps=>⟨(aCA P t (ps.toList.map fun p=>(p.1,ρ p.2))).v,H,kK P t=true∧(aCA P t (ps.toList.map fun p=>(p.1,ρ p.2))).s⟩
 |.buildSlice t n ps=>mU (wC P t n (ps.toList.map fun p=>(p.1,ρ p.2))) H
 |.load t x=>mU (aAI P t (ρ x) H) H
 |.store t a x=>qC P t (ρ a) (ρ x) H
 |.nilCheck x=>aCL (ρ x) H
 |.binOp op t x y _=>mU (aCE P (isK x||isK y) op t (ρ x) (ρ y)) H
 |.unOp op _ x=>mU (aun op (ρ x)) H
 |.convert s d x=>aCK P s d (ρ x) H
 |.makeInterface t x=>⟨.iface t (ρ x),H,aCG P t=true⟩
 |.makeFunc fn f cs=>⟨.func fn (f.toList.map ρ) (cs.toList.map ρ),H,True⟩
 |.slice t x lo hi mx=>mU (aCB P t (ρ x) (lo.map ρ) (hi.map ρ) (mx.map ρ) H) H
 |.fieldAddr t x f=>⟨(qD P t f (ρ x)).v,H,mQ H (ρ x)∧(qD P t f (ρ x)).s⟩
 |.field t x f=>mU (aHU P t f (ρ x)) H
 |.indexAddr t x i=>⟨(qE P t (gev x (ρ x)) (ρ i)).v,H,mQ H (gev x (ρ x))∧(qE P t (gev x (ρ x)) (ρ i)).s⟩
 |.index t x i=>mU (aHV P t (ρ x) (ρ i)) H
 |.typeAssert x _ t ok=>mU (aFg P (ρ x) t ok) H
 |.extract x i=>mU (aCF (ρ x) i) H
 |.makeSlice t l k=>zB P t (ρ l) (ρ k) H
 |.range t x=>aFd P t (ρ x) H
 |.makeMap _ none=>aCC H
 |.lookup t x k ok=>mU (aFc P t (ρ x) (ρ k) ok H) H
 |.entry x=>mU (aHW (ρ x) H) H
 |.mapUpdate t x k v=>fR P t (ρ x) (ρ k) (ρ v) H
 |.insert t x k v=>fR P t (ρ x) (ρ k) (ρ v) H
 |.next it b=>aLq (ρ it) b H
 |.call ⟨.builtin b,xs,ts⟩=>aCI P b ts.toList (xs.toList.map ρ) H
 |_=>⟨.top,H,False⟩
theorem iK{c:Ctx}{ρ:Operand→AV}{e:Operand→Value}{xs:Array Operand}(h:∀x∈xs.toList,Rep c (ρ x) (e x)):RepA c (xs.toList.map ρ) (xs.map e):=by
 grind [Ctx,Operand,Value,Array,RepA]
theorem kL{c:Ctx}{ρ:Operand→AV}{e:Operand→Value}{o:Option Operand}(h:∀x,o=some x→Rep c (ρ x) (e x)):
  (∀y,o.map ρ=some y→∃u,o.map e=some u∧Rep c y u)∧(o.map ρ=none→o.map e=none):=by
 grind [Ctx,Operand,Value,Option]
theorem cR{o:Oper}{ρ:Operand→AV}{H:AHeap}(hs:(aF P o.op ρ H).s):
  Does P o ρ H (fun x' H'=>x'=(aF P o.op ρ H).v∧H'=(aF P o.op ρ H).H):=by
 obtain⟨dst,op,ty,pos,after,guard⟩:=o;cases op<;>simp only[aF,mU]at hs ⊢;case move x=>exact aZ fun c a hst hρ=>⟨c,_,rfl,hst,Ext.refl c,hρ x (by simp[Op.operands])⟩
 case assign x=>exact aZ fun c a hst hρ=>⟨c,_,rfl,hst,Ext.refl c,hρ x (by simp[Op.operands])⟩
 case alloc t=>
  refine aZ fun c a hst hρ=>?_
  obtain⟨c',v,h1,h2,h3,h4⟩:=uO (P:=P) hst hs;exact⟨c',v,by simp only[execOp,Sem.run_bind,h1];rfl,h2,h3,h4⟩
 case box t x=>
  refine aZ fun c a hst hρ=>?_
  obtain⟨c',v,h1,h2,h3,h4⟩:=aHS (P:=P) (t:=t) hst (hρ x (by simp[Op.operands])) hs
  exact⟨c',v,by simp only[execOp,Sem.run_bind,h1];rfl,h2,h3,h4⟩
 case build t ps=>
  obtain⟨hf,hs⟩:=hs;refine aZ fun c a hst hρ=>?_
  have hmem:∀p∈ps.toList,Rep c (ρ p.2) (a.eval p.2):=fun p hp=>hρ p.2 (by simp only[Op.operands,zAi];exact⟨p,hp,rfl⟩)
  obtain⟨v,h1,h2⟩:=aE5 (P:=P) (vs:=ps.map fun(i,x)=>(i,a.eval x)) (by simp[zBC,Function.comp_def]) (fun k p q h1 h2=>by
   simp only[zAY,zAy]at h1;obtain⟨r,h1,rfl⟩:=h1;rw[Array.getElem?_map]at h2;rw[zBo]at h1;rw[h1]at h2;cases h2;exact hmem r (by rw[zBN];exact zBe h1)) hs (fun d hd=>by unfold kK at hf;rw[hd]at hf;exact hf) c.w
  exact⟨c,v,by simp only[execOp,Sem.run_bind,h1];rfl,hst,Ext.refl c,h2⟩
 case buildSlice t n ps=>
  refine aZ fun c a hst hρ=>?_
  have hmem:∀p∈ps.toList,Rep c (ρ p.2) (a.eval p.2):=fun p hp=>hρ p.2 (by simp only[Op.operands,zAi];exact⟨p,hp,rfl⟩)
  obtain⟨c',v,h1,h2,h3,h4⟩:=aAK (P:=P) (vs:=ps.map fun(i,x)=>(i,a.eval x)) hst (by simp[zBC,Function.comp_def]) (fun k p q h1 h2=>by
   simp only[zAY,zAy]at h1;obtain⟨r,h1,rfl⟩:=h1;rw[Array.getElem?_map]at h2;rw[zBo]at h1;rw[h1]at h2;cases h2;exact hmem r (by rw[zBN];exact zBe h1)) hs
  exact⟨c',v,by simp only[execOp,Sem.run_bind,h1];rfl,h2,h3,h4⟩
 case load t x=>
  refine aZ fun c a hst hρ=>?_
  obtain⟨v,h1,h2⟩:=vZ (P:=P) hst (hρ x (by simp[Op.operands])) hs
  exact⟨c,v,by simp only[execOp,Sem.run_bind,h1];rfl,hst,Ext.refl c,h2⟩
 case store t x y=>
  have hv:(qC P t (ρ x) (ρ y) H).v=.top:=by unfold qC;split<;>(try split)<;>rfl
  rw[hv];refine nU fun c a hst hρ=>?_
  obtain⟨w',h1,h2,h3⟩:=uN (P:=P) hst (hρ x (by simp[Op.operands])) (hρ y (by simp[Op.operands])) hs
  exact⟨_,by simp only[execOp,Sem.run_bind,h1];rfl,h3,h2⟩
 case nilCheck x=>
  refine aZ fun c a hst hρ=>?_
  have hx:=hρ x (by simp[Op.operands])
  have e:(aCL (ρ x) H).v=ρ x∧(aCL (ρ x) H).H=H∧∃a',a.eval x=.pointer (some a'):=by
   unfold aCL at hs ⊢;split at hs
   ·rename_i i v off hh;rw[hh]at hx;obtain⟨b,hb, -⟩:=wA hx (aGP (off:=off) hst hs) 0;exact⟨hh.symm,rfl,b,hb⟩
   ·rename_i cs hh;rw[hh]at hx;obtain⟨a',ha'⟩:=hx.cptr_inv;exact⟨hh.symm,rfl,a',ha'⟩
   ·exact hs.elim
  obtain⟨e1,e2,a',e3⟩:=e;rw[e1,e2];refine⟨c,.pointer (some a'),?_,hst,Ext.refl c,by rw[←e3];exact hx⟩
  simp only[execOp];rw[e3];rfl
 case binOp op t x y ty'=>
  refine aZ fun c a hst hρ=>?_
  obtain⟨v,h1,h2⟩:=aGU (P:=P) (X:=x) (Y:=y) (hρ x (by simp[Op.operands])) (hρ y (by simp[Op.operands])) hs c.w
  exact⟨c,v,by simp only[execOp];rw[Sem.run_bind,h1];rfl,hst,Ext.refl c,h2⟩
 case unOp op t x=>
  refine aZ fun c a hst hρ=>?_
  obtain⟨v,h1,h2⟩:=aJ3 (P:=P) (hρ x (by simp[Op.operands])) hs c.w
  exact⟨c,v,by simp only[execOp,Sem.run_bind,h1];rfl,hst,Ext.refl c,h2⟩
 case convert s d x=>
  refine aZ fun c a hst hρ=>?_
  obtain⟨c',v,h1,h2,h3,h4⟩:=aFh (P:=P) hst (hρ x (by simp[Op.operands])) hs
  exact⟨c',v,by simp only[execOp,Sem.run_bind,h1];rfl,h2,h3,h4⟩
 case makeInterface t x=>
  exact aZ fun c a hst hρ=>⟨c,_,by simp only[execOp,Sem.run_bind,aCH hs];rfl,hst,Ext.refl c,.iface _ _ _ (hρ x (by simp[Op.operands]))⟩
 case makeFunc fn f cs=>
  refine aZ fun c a hst hρ=>⟨c,.func fn (f.map a.eval) (cs.map a.eval),by simp only[execOp,Instr.makeFunc,Sem.run_bind,Sem.run_pure];rfl,hst,Ext.refl c,?_⟩
  obtain⟨p1,p2⟩:=iK (c:=c) (ρ:=ρ) (e:=a.eval) (xs:=f) (fun x hx=>hρ x (by simp only[Op.operands,zA6,zAM];exact .inl hx))
  obtain⟨q1,q2⟩:=iK (c:=c) (ρ:=ρ) (e:=a.eval) (xs:=cs) (fun x hx=>hρ x (by simp only[Op.operands,zA6,zAM];exact .inr hx))
  exact .func _ _ _ _ _ p1 q1 p2 q2
 case slice t x lo hi mx=>
  refine aZ fun c a hst hρ=>?_
  obtain⟨l1,l2⟩:=kL (c:=c) (ρ:=ρ) (e:=a.eval) (o:=lo) (fun y hy=>hρ y (by subst hy;simp[Op.operands]))
  obtain⟨h1,h2⟩:=kL (c:=c) (ρ:=ρ) (e:=a.eval) (o:=hi) (fun y hy=>hρ y (by subst hy;simp[Op.operands]))
  obtain⟨m1,m2⟩:=kL (c:=c) (ρ:=ρ) (e:=a.eval) (o:=mx) (fun y hy=>hρ y (by subst hy;simp[Op.operands]))
  obtain⟨v,g1,g2⟩:=aE9 (P:=P) hst (hρ x (by simp[Op.operands])) l1 l2 h1 h2 m1 m2 hs c.w
  exact⟨c,v,by simp only[execOp,Sem.run_bind,g1];rfl,hst,Ext.refl c,g2⟩
 case fieldAddr t x f=>
  refine aZ fun c a hst hρ=>?_
  obtain⟨v,h1,h2⟩:=aBn (P:=P) hst (hρ x (by simp[Op.operands])) hs.1 hs.2 c.w
  exact⟨c,v,by simp only[execOp,Sem.run_bind,h1];rfl,hst,Ext.refl c,h2⟩
 case field t x f=>
  refine aZ fun c a hst hρ=>?_
  obtain⟨v,h1,h2⟩:=aE7 (P:=P) (hρ x (by simp[Op.operands])) hs c.w
  exact⟨c,v,by simp only[execOp,Sem.run_bind,h1];rfl,hst,Ext.refl c,h2⟩
 case indexAddr t x i=>
  refine aZ fun c a hst hρ=>?_
  obtain⟨v,h1,h2⟩:=aBo (P:=P) hst (aFj hst (hρ x (by simp[Op.operands]))) (hρ i (by simp[Op.operands])) hs.1 hs.2 c.w
  exact⟨c,v,by simp only[execOp,Sem.run_bind,h1];rfl,hst,Ext.refl c,h2⟩
 case index t x i=>
  refine aZ fun c a hst hρ=>?_
  obtain⟨v,h1,h2⟩:=aE8 (P:=P) (hρ x (by simp[Op.operands])) (hρ i (by simp[Op.operands])) hs c.w
  exact⟨c,v,by simp only[execOp,Sem.run_bind,h1];rfl,hst,Ext.refl c,h2⟩
 case typeAssert x xt t ok=>
  refine aZ fun c a hst hρ=>?_
  obtain⟨v,h1,h2⟩:=sE (P:=P) (xt:=xt) (hρ x (by simp[Op.operands])) hs c.w
  exact⟨c,v,by simp only[execOp,Sem.run_bind,h1];rfl,hst,Ext.refl c,h2⟩
 case extract x i=>
  refine aZ fun c a hst hρ=>?_
  obtain⟨v,h1,h2⟩:=qI (P:=P) (hρ x (by simp[Op.operands])) hs c.w
  exact⟨c,v,by simp only[execOp,Sem.run_bind,h1];rfl,hst,Ext.refl c,h2⟩
 case makeSlice t l k=>
  refine aZ fun c a hst hρ=>?_
  obtain⟨c',v,h1,h2,h3,h4⟩:=aBr (P:=P) hst (hρ l (by simp[Op.operands])) (hρ k (by simp[Op.operands])) hs
  exact⟨c',v,by simp only[execOp,Sem.run_bind,h1];rfl,h2,h3,h4⟩
 case range t x=>
  refine aZ fun c a hst hρ=>?_
  obtain⟨c',v,h1,h2,h3,h4⟩:=aEy (P:=P) hst (hρ x (by simp[Op.operands])) hs
  exact⟨c',v,by simp only[execOp,Sem.run_bind,h1];rfl,h2,h3,h4⟩
 case next it b=>
  refine aZ fun c a hst hρ=>?_
  obtain⟨c',v,h1,h2,h3,h4⟩:=aGS (P:=P) (ty:=ty) hst (hρ it (by simp[Op.operands])) hs
  exact⟨c',v,by simp only[execOp,Sem.run_bind,h1];rfl,h2,h3,h4⟩
 case makeMap t r=>
  cases r with
  |some x=>exact hs.elim
  |none=>
   refine aZ fun c a hst hρ=>?_
   obtain⟨c',v,h1,h2,h3,h4⟩:=aCD (P:=P) (t:=t) hst;exact⟨c',v,by simp only[execOp,Option.map_none,Sem.run_bind,h1];rfl,h2,h3,h4⟩
 case lookup t x k ok=>
  refine aZ fun c a hst hρ=>?_
  obtain⟨v,h1,h2⟩:=aEx (P:=P) hst (hρ x (by simp[Op.operands])) (hρ k (by simp[Op.operands])) hs
  exact⟨c,v,by simp only[execOp,Sem.run_bind,h1];rfl,hst,Ext.refl c,h2⟩
 case entry x=>
  refine aZ fun c a hst hρ=>?_
  obtain⟨v,h1,h2⟩:=aFf (P:=P) hst (hρ x (by simp[Op.operands])) hs
  exact⟨c,v,by simp only[execOp,Sem.run_bind,h1];rfl,hst,Ext.refl c,h2⟩
 case mapUpdate t x k v=>
  have hv:(fR P t (ρ x) (ρ k) (ρ v) H).v=.top:=by unfold fR;split<;>rfl
  rw[hv];refine nU fun c a hst hρ=>?_
  obtain⟨c',h1,h2,h3⟩:=nT (P:=P) hst (hρ x (by simp[Op.operands])) (hρ k (by simp[Op.operands])) (hρ v (by simp[Op.operands])) hs
  exact⟨c',by simp only[execOp,Sem.run_bind,h1];rfl,h2,h3⟩
 case insert t x k v=>
  have hv:(fR P t (ρ x) (ρ k) (ρ v) H).v=.top:=by unfold fR;split<;>rfl
  rw[hv];refine nU fun c a hst hρ=>?_
  obtain⟨c',h1,h2,h3⟩:=nT (P:=P) hst (hρ x (by simp[Op.operands])) (hρ k (by simp[Op.operands])) (hρ v (by simp[Op.operands])) hs
  exact⟨c',by simp only[execOp,Sem.run_bind,h1];rfl,h2,h3⟩
 case call cl=>
  obtain⟨callee,xs,ts⟩:=cl;cases callee<;>simp only at hs ⊢;case builtin b=>
   refine aZ fun c a hst hρ=>?_
   obtain⟨c',v,h1,h2,h3,h4⟩:=aCJ (P:=P) (b:=b) (ts:=ts) (ty:=ty) (cs:=xs.map fun|.const _=>true|_=>false) (vs:=xs.map a.eval) hst (iK fun x hx=>hρ x (by simp only[Op.operands,Call.operands,zA6,zAM];exact .inr hx)) hs
   exact⟨c',v,by simp only[execOp,resolve,Sem.run_bind,Sem.run_pure,Result.andThen_ok,invoke];exact h1,h2,h3,h4⟩
def cF(P:Program)(f:FuncId):Bool:=
 match P.funcs[f]? with
 |some fn=>fn.body.isSome&& !(fn.name== "runtime.NumGoroutine")
 |none=>false
theorem dM{f:FuncId}(h:cF P f=true)(args:Array Value)(w:World):(callFunc f args).run P w=.ok (.enter f args) w:=by
 unfold cF at h;cases hf:P.funcs[f]? with
 |none=>rw[hf]at h;cases h
 |some fn=>
  rw[hf]at h;simp only[zAc,Bool.not_eq_true']at h;obtain⟨h1,h2⟩:=h;have h3:fn.body.isNone=false:=by cases hb:fn.body<;>simp_all
  simp only[callFunc,Sem.run_bind,run_program,Result.andThen_ok,hf,h2,h3,zAr,zBd];rfl
def AExtern(P:Program)(f:FuncId)(args:List AV)(H:AHeap)(R:AV→AHeap→Prop):Prop:=
 ∀(c:Ctx) (vs:Array Value),St c H→RepAll c args vs→∃v x,(callFunc f vs).run P c.w=.ok (.value v) c.w∧Rep c x v∧R x H
theorem AExtern.mono{P:Program}{f:FuncId}{args:List AV}{H:AHeap}{R R':AV→AHeap→Prop}(h:AExtern P f args H R)(hr:∀x H',R x H'→R' x H'):AExtern P f args H R':=
 fun c vs hs ha=>by
  grind [Program,List,AExtern]
theorem aBt{o:Oper}{ρ:Operand→AV}{H:AHeap}{K:AV→AHeap→Prop}{it:Operand}(ho:o.op=.next it false)(h:aGT (ρ it) H K):Does P o ρ H K:=by
 intro r c a next Q hs hρ hk
 obtain⟨c',v,x',H',h1,h2,h3,h4,h5⟩:=aFe (P:=P) (ty:=o.type) hs (hρ it (by rw[ho];simp[Op.operands])) h
 refine owp (mT (by rw[ho];simp)) ?_
 have:(execOp a.eval o).run P c.w=.ok (.value v) c'.w:=by simp only[execOp,ho,Sem.run_bind,h1];rfl
 rw[this];exact hk c' x' v H' h2 h3 h4 h5
def AYield(P:Program)(l:Nat)(args:List AV)(H:AHeap)(R:AV→AHeap→Prop):Prop:=
 ∀(c:Ctx) (vs:Array Value),St c H→RepAll c args vs→∃fn tmps ars bd,(Instr.yield l vs).run P c.w=.ok (.round l fn tmps ars bd) c.w∧
  RoundIn Fence.wide 0 P l fn tmps ars bd c.w (fun e w'=>∃c' x v H',e=.returned v∧c'.w=w'∧St c' H'∧Ext c c'∧Rep c' x v∧R x H')
theorem AYield.mono{P:Program}{l:Nat}{args:List AV}{H:AHeap}{R R':AV→AHeap→Prop}(h:AYield P l args H R)(hr:∀x H',R x H'→R' x H'):AYield P l args H R':=
 fun c vs hs ha=>by
  obtain⟨fn,tmps,ars,bd,h1,h2⟩:=h c vs hs ha;exact⟨fn,tmps,ars,bd,h1,h2.mono fun _ _ ⟨c',x,v,H',e1,e2,e3,e4,e5,e6⟩=>⟨c',x,v,H',e1,e2,e3,e4,e5,hr _ _ e6⟩⟩
def ACall(P:Program)(f:AV)(args:List AV)(H:AHeap)(R:AV→AHeap→Prop):Prop:=
 match f with
 |.func (.func fid) first cap=>(cF P fid=true∧ACalls P fid (first++args++cap) H R)∨AExtern P fid (first++args++cap) H R
 |.func (.yield l) [] []=>AYield P l args H R
 |_=>False
theorem ACall.mono{P:Program}{f:AV}{args:List AV}{H:AHeap}{R R':AV→AHeap→Prop}(h:ACall P f args H R)(hr:∀x H',R x H'→R' x H'):ACall P f args H R':=by
 unfold ACall at h ⊢;split at h
 ·rcases h with⟨h1,h2⟩|h1
  ·exact .inl ⟨h1,h2.mono hr⟩
  ·exact .inr (h1.mono hr)
 ·exact h.mono hr
 ·exact h.elim
theorem eF{o:Oper}{ρ:Operand→AV}{H:AHeap}{R:AV→AHeap→Prop}{f:Operand}{xs:Array Operand}{ts:Array TypeId}(ho:o.op=.call ⟨.value f,xs,ts⟩)(h:ACall P (ρ f) (xs.toList.map ρ) H R):Does P o ρ H R:=by
 intro r c a next Q hs hρ hk
 unfold ACall at h;split at h
 ·rename_i fid first cap hf
  have hrf:=hρ f (by grind [Op.operands,Call.operands])
  rw[hf]at hrf;generalize hev:a.eval f=vf at hrf;cases hrf with
  |func _ _ _ v1 v2 hl1 hl2 hr1 hr2=>
   obtain⟨hl3,hr3⟩:=iK (c:=c) (ρ:=ρ) (e:=a.eval) (xs:=xs) (fun x hx=>hρ x (by rw[ho];simp only[Op.operands,Call.operands,zA6,zAM];exact .inr hx))
   have hrun:(execOp a.eval o).run P c.w=(callFunc fid (v1++xs.map a.eval++v2)).run P c.w:=by
    simp only[execOp,ho,resolve,hev,Deferred.ofValue,Sem.run_bind,Sem.run_pure,Result.andThen_ok,invoke]
   have hall:RepAll c (first++xs.toList.map ρ++cap) (v1++xs.map a.eval++v2):=by
    refine⟨by simp[hl1,hl2,hl3],fun i x v g1 g2=>?_⟩
    by_cases h1:i<first.length
    ·rw[zAe,zAf h1]at g1;rw[zBp,zAH (by omega)]at g2
     exact hr1 _ _ _ g1 g2
    ·by_cases h2:i<first.length+(xs.toList.map ρ).length
     ·rw[zAe,zAw (by omega),zAf (by omega)]at g1
      rw[zBp,zAN (by omega),zAH (by omega),hl1]at g2
      exact hr3 _ _ _ g1 g2
     ·rw[zAe,zAw (by omega),zAw (by omega)]at g1
      rw[zBp,zAN (by omega),zAN (by omega),hl1,hl3]at g2
      exact hr2 _ _ _ g1 g2
   refine owp (mT (by rw[ho];simp)) ?_
   rw[hrun];rcases h with⟨hok,h⟩|h
   ·rw[dM hok];refine⟨fun h=>(by cases h),callsIn_wide.2 ?_⟩
    refine(h c _ hs hall).mono fun e w' ⟨c',x,v,H',e1,e2,e3,e4,e5,e6⟩=>?_
    subst e1;subst e2;exact hk c' x v H' e3 e4 e5 e6
   ·obtain⟨v,x,e1,e2,e3⟩:=h c _ hs hall;rw[e1];exact hk c x v H hs (Ext.refl c) e2 e3
 ·rename_i l hf;have hrf:=hρ f (by rw[ho];simp[Op.operands,Call.operands])
  rw[hf]at hrf;generalize hev:a.eval f=vf at hrf;cases hrf with
  |func _ _ _ v1 v2 hl1 hl2 _ _=>
   obtain rfl:v1= #[]:=Array.eq_empty_of_size_eq_zero hl1;obtain rfl:v2= #[]:=Array.eq_empty_of_size_eq_zero hl2;have hall:RepAll c (xs.toList.map ρ) (xs.map a.eval):=iK (c:=c) (ρ:=ρ) (e:=a.eval) (xs:=xs) (fun x hx=>hρ x (by rw[ho];simp only[Op.operands,Call.operands,zA6,zAM];exact .inr hx))
   obtain⟨fn,tmps,ars,bd,h1,h2⟩:=h c _ hs hall;have hrun:(execOp a.eval o).run P c.w=.ok (.round l fn tmps ars bd) c.w:=by
    simp only[execOp,ho,resolve,hev,Deferred.ofValue,Sem.run_bind,Sem.run_pure,Result.andThen_ok,invoke];simpa using h1
   refine owp (mT (by rw[ho];simp)) ?_
   rw[hrun];refine⟨fun h=>(by cases h),RoundIn.mono (F:=wf r) (n:=0) h2 fun e w' ⟨c',x,v,H',e1,e2,e3,e4,e5,e6⟩=>?_⟩
   subst e1;subst e2;exact hk c' x v H' e3 e4 e5 e6
 ·exact h.elim
def fD(P:Program)(t:TypeId)(m:String):Option FuncId:=
 match P.info? t with
 |some i=>match i.methods.find? (·.name==m)with
  |some mt=>bif mt.path.isEmpty then
    match mt.func,P.underlying t with
    |some (f,true),some (.pointer _)=>some f
    |some (_,false),some (.pointer _)=>none
    |some (f,false),some _=>some f
    |_,_=>none
   else none
  |none=>none
 |none=>none
def cC(P:Program)(m:String):AV→AV
 |.iface t v=>match fD P t m with
  |some f=>.func (.func f) [v] []
  |none=>.top
 |_=>.top
theorem zD{t:TypeId}{m:String}{f:FuncId}(h:fD P t m=some f)(n:Nat)(v:Value)(w:World):(method (n+1) t v m).run P w=.ok (f,v) w:=by
 unfold fD at h;cases hi:P.info? t with
 |none=>rw[hi]at h;cases h
 |some i=>
  rw[hi]at h;simp only at h;cases hm:i.methods.find? (·.name==m)with
  |none=>rw[hm]at h;cases h
  |some mt=>
   rw[hm]at h;simp only at h;cases hp:mt.path.isEmpty with
   |false=>rw[hp]at h;cases h
   |true=>
    rw[hp,cond_true]at h;have hpl:mt.path.toList=[]:=by
     have:mt.path= #[]:=by simpa using hp
     rw[this]
    split at h
    ·rename_i f' e hf hu;cases h;simp only[method,typeInfo,Sem.run_bind,run_program,Result.andThen_ok,hi,Sem.run_pure,hm,hpl,follow,hf,receiverAt,run_underlying hu,Place.get]
    ·cases h
    ·rename_i f' d hne hf hu;cases h;have hd:∀e,d≠.pointer e:=fun e he=>by subst he;exact hne _ rfl
     simp only[method,typeInfo,Sem.run_bind,run_program,Result.andThen_ok,hi,Sem.run_pure,hm,hpl,follow,hf,receiverAt,run_underlying hu,Place.get];try(cases d<;>first|exact absurd rfl (hd _)|rfl)
    ·cases h
theorem eU{o:Oper}{ρ:Operand→AV}{H:AHeap}{R:AV→AHeap→Prop}{r:Operand}{m:String}{xs:Array Operand}{ts:Array TypeId}(ho:o.op=.call ⟨.invoke r m,xs,ts⟩)(h:ACall P (cC P m (ρ r)) (xs.toList.map ρ) H R):Does P o ρ H R:=by
 intro rr c a next Q hs hρ hk
 unfold cC at h;split at h
 ·rename_i t x hx;cases hm:fD P t m with
  |none=>rw[hm]at h;exact h.elim
  |some fid=>
   rw[hm]at h;have hrf:=hρ r (by grind [Op.operands,Call.operands])
   rw[hx]at hrf;generalize hev:a.eval r=vf at hrf;cases hrf with
   |iface _ _ v hv=>
    obtain⟨hl3,hr3⟩:=iK (c:=c) (ρ:=ρ) (e:=a.eval) (xs:=xs) (fun x hx=>hρ x (by rw[ho];simp only[Op.operands,Call.operands,zA6,zAM];exact .inr hx))
    have hext:(#[Value.iface t v]++xs.map a.eval).extract 1 (#[Value.iface t v]++xs.map a.eval).size=xs.map a.eval:=by
     apply Array.ext'
     simp[zAT]
    have h0:(#[Value.iface t v]++xs.map a.eval)[0]?=some (.iface t v):=by rw[zAH (by simp)];rfl
    have hdep:0<Made.depth:=by decide
    obtain⟨n,hn⟩:∃n,P.types.size+Made.depth=n+1:=⟨P.types.size+Made.depth-1,by omega⟩
    have hrun:(execOp a.eval o).run P c.w=(callFunc fid (#[v]++xs.map a.eval)).run P c.w:=by
     simp only[execOp,ho,resolve,hev,Sem.run_bind,Sem.run_pure,Result.andThen_ok,invoke,h0,callMethod,run_program,hn,zD hm,hext]
    have hall:RepAll c ([x]++xs.toList.map ρ++[]) (#[v]++xs.map a.eval):=by
     refine⟨by simp[hl3];omega,fun i y u g1 g2=>?_⟩
     rw[zAj]at g1;cases i with
     |zero=>
      rw[zAH (by simp)]at g2
      cases g1;cases g2;exact hv
     |succ i=>
      rw[List.cons_append,zAJ,zA1]at g1;rw[zAN (by simp)]at g2
      exact hr3 i y u g1 (by simpa using g2)
    refine owp (mT (by rw[ho];simp)) ?_
    rw[hrun];rcases h with⟨hok,h⟩|h
    ·rw[dM hok];refine⟨fun h=>(by cases h),callsIn_wide.2 ?_⟩
     refine(h c _ hs hall).mono fun e w' ⟨c',x,v,H',e1,e2,e3,e4,e5,e6⟩=>?_
     subst e1;subst e2;exact hk c' x v H' e3 e4 e5 e6
    ·obtain⟨v,x,e1,e2,e3⟩:=h c _ hs hall;rw[e1];exact hk c x v H hs (Ext.refl c) e2 e3
 ·exact h.elim
theorem Does.mono{o:Oper}{ρ:Operand→AV}{H:AHeap}{R R':AV→AHeap→Prop}(h:Does P o ρ H R)(hr:∀x H',R x H'→R' x H'):Does P o ρ H R':=
 fun r c a next Q hs hρ hk=>h r c a next Q hs hρ fun c' x v H' h1 h2 h3 h4=>hk c' x v H' h1 h2 h3 (hr _ _ h4)
def gB:Value→Bool
 |.slice none 0 0=>true
 |_=>false
def iY:Operand→Bool
 |.const v=>gB v
 |_=>false
def eK:BinOp→Bool
 |.eql=>true
 |_=>false
def aCN(P:Program)(t:TypeId):Bool:=
 match P.underlying t with
 |some (.slice _)=>true
 |_=>false
def aCO(P:Program)(t:TypeId)(H:AHeap)(x:AV)(K:AV→Prop):Prop:=
 match x with
 |.sl _ es=>aCN P t=true∧∀b:Bool,(es≠[]→b=false)→K (.bool b)
 |.osl s i v off len lc=>aCN P t=true∧mQ H (.osl s i v off len lc)∧∀b:Bool,(len≠0→b=false)→K (.bool b)
 |_=>False
theorem aBu{y:Operand}(h:iY y=true):y=.const (.slice none 0 0):=by
 unfold iY at h;split at h
 ·rename_i v;unfold gB at h;split at h
  ·rfl
  ·cases h
 ·cases h
theorem aBv{t e:TypeId}(hu:P.underlying t=some (.slice e))(x:Operand)(base:Option Addr)(len cap:Nat)(w:World):
  (do eqGuard .eql t x (.const (.slice none 0 0)) (.slice base len cap) (.slice none 0 0);binOp .eql t (.slice base len cap) (.slice none 0 0):Sem Value).run P w=.ok (.bool base.isNone) w:=by
 have key:∀d,(Op.equalIn (d+1) t (.slice base len cap) (.slice none 0 0)).run P w=.ok base.isNone w:=fun d=>by
  cases base<;>simp[Op.equalIn,run_underlying hu]
 have key2:(Op.equal t (.slice base len cap) (.slice none 0 0)).run P w=.ok base.isNone w:=key 9999;have hg:(eqGuard .eql t x (.const (.slice none 0 0)) (.slice base len cap) (.slice none 0 0)).run P w=.ok () w:=rfl;simp only[Sem.run_bind,hg,Result.andThen_ok,binOp,key2,Sem.run_pure]
theorem aCP{o:Oper}{ρ:Operand→AV}{H:AHeap}{K:AV→Prop}{op:BinOp}{t t':TypeId}{x y:Operand}(ho:o.op=.binOp op t x y t')(hn:(eK op&&iY y)=true)(h:aCO P t H (ρ x) K):
  Does P o ρ H (fun v H'=>K v∧H'=H):=by
 intro r c a next Q hs hρ hk
 rw[zAc]at hn;have hop:op=.eql:=by cases op<;>first|rfl|exact absurd hn.1 (by decide)
 subst hop;obtain rfl:=aBu hn.2;have hx:=hρ x (by rw[ho];simp[Op.operands])
 have hsl:∀{e base len cap},P.underlying t=some (.slice e)→a.eval x=.slice base len cap→(execOp a.eval o).run P c.w=.ok (.value (.bool base.isNone)) c.w:=fun{e base len cap} hu he=>by
  have:=aBv hu x base len cap c.w;simp only[execOp,ho,he];rw[show a.eval (.const (.slice none 0 0))=.slice none 0 0 from rfl,Sem.run_bind,this]
  rfl
 unfold aCO at h;split at h
 ·rename_i f es hh;obtain⟨h1,h2⟩:=h;rw[hh]at hx;have hu:∃e,P.underlying t=some (.slice e):=by
   unfold aCN at h1;split at h1
   ·rename_i e hu;exact⟨e,hu⟩
   ·cases h1
  obtain⟨e,hu⟩:=hu;obtain⟨base,len,cap,s,vs,he,g1,g2,g3,g4, -⟩:=hx.sl_inv;refine owp (mT (by rw[ho];simp)) ?_
  rw[hsl hu he];refine hk c (.bool base.isNone) _ H hs (Ext.refl c) (.bool _) ⟨h2 _ fun hne=>?_,rfl⟩
  obtain⟨a',ha', -⟩:=g4 hne;rw[ha'];rfl
 ·rename_i s i v off len lc hh;obtain⟨h1,h3,h2⟩:=h;rw[hh]at hx;have hu:∃e,P.underlying t=some (.slice e):=by
   unfold aCN at h1;split at h1
   ·rename_i e hu;exact⟨e,hu⟩
   ·cases h1
  obtain⟨e,hu⟩:=hu;obtain⟨base,cap,he,g1,g2,g3,g4⟩:=hx.osl_inv (wB (s:=s) (off:=off) (len:=len) (lc:=lc) hs h3);refine owp (mT (by rw[ho];simp)) ?_
  rw[hsl hu he];refine hk c (.bool base.isNone) _ H hs (Ext.refl c) (.bool _) ⟨h2 _ fun hne=>?_,rfl⟩
  cases hd:c.vd i with
  |true=>have:=(g3 hd).1;omega
  |false=>
   have h5:=(g4 hd).1.resolve_left (by omega)
   rw[h5];rfl
 ·exact h.elim
def mB:AV→Bool
 |.bool b=>b
 |_=>false
def isB:AV→Bool
 |.bool _=>true
 |_=>false
theorem aCQ{x:AV}(h:isB x=true):x=.bool (mB x):=by
 cases x<;>first|rfl|cases h
def aJ(v:AV)(want:Bool):Bool:=
 match v with
 |.bool b=>bif want then b else !b
 |.opt g x=>g&&(bif want then mB x else !mB x)
 |_=>false
def kJ(v:AV):Prop:=
 match v with
 |.bool _=>True
 |.opt g x=>g=true→isB x=true
 |_=>False
def aCR:AV→AV
 |.opt _ v=>v
 |v=>v
def aFk(g:Bool):AV→Prop
 |.opt g' _=>g=true→g'=true
 |_=>True
def aBw(all:List Oper)(j:Nat):Option Tmp:=(all[j]?).bind (·.dst)
def aC(α:AF):Option Tmp→AV
 |some t=>look α t
 |none=>.top
def sU:AV→Option (Bool×Bool)
 |.bool b=>some (true,b)
 |.opt g x=>some (g,mB x)
 |_=>none
def wD:AV→Prop
 |.bool _=>True
 |.opt g x=>g=true→isB x=true
 |_=>False
def cV(g:Bool)(c a b:AV):BR:=
 match sU c,sU a,sU b with
 |some (gc,cb),some (ga,x),some (gb,y)=>⟨.bool (bif cb then x else y),(g=true→gc=true)∧(g=true→cb=true→ga=true)∧(g=true→cb=false→gb=true)∧wD c∧wD a∧wD b⟩
 |_,_,_=>bad
theorem nV{c:Ctx}{x:AV}{v:Value}{g b:Bool}(h:sU x=some (g,b))(ht:wD x)(hx:Rep c x v)(hg:g=true):v=.bool b:=by
 unfold sU at h;split at h
 ·simp only[zBM,zBE]at h;rw[h.2]at hx;exact hx.bool_inv
 ·simp only[zBM,zBE]at h;have h3:=aCQ (ht (h.1.trans hg));cases hx with
  |opt _ _ _ h1=>
   have h2:=h1 (h.1.trans hg);rw[h3]at h2;rw[←h.2];exact h2.bool_inv
 ·cases h
theorem fT{o:Oper}{ρ:Operand→AV}{H:AHeap}{x y z:Operand}{g:Bool}(ho:o.op=.pick x y z)(hg:g=true)(hs:(cV g (ρ x) (ρ y) (ρ z)).s):
  Does P o ρ H (fun v H'=>v=(cV g (ρ x) (ρ y) (ρ z)).v∧H'=H):=by
 refine aZ (hd:=mT (by rw[ho];simp)) fun c a hst hρ=>?_
 have hx:=hρ x (by rw[ho];simp[Op.operands])
 have hy:=hρ y (by rw[ho];simp[Op.operands])
 have hz:=hρ z (by rw[ho];simp[Op.operands])
 have hrun:∀cb:Bool,a.eval x=.bool cb→(execOp a.eval o).run P c.w=.ok (.value (if cb then a.eval y else a.eval z)) c.w:=by
  grind [execOp,asBool,Sem.run_bind,Sem.run_pure,Result.andThen_ok]
 generalize hcx:ρ x=cx at hx hs ⊢;generalize hcy:ρ y=cy at hy hs ⊢;generalize hcz:ρ z=cz at hz hs ⊢;unfold cV at *;split at hs
 ·rename_i gc cb ga b1 gb b2 e1 e2 e3;refine⟨c,_,hrun cb (nV e1 hs.2.2.2.1 hx (hs.1 hg)),hst,Ext.refl c,?_⟩;cases cb
  ·rw[zAk (by simp),nV e3 hs.2.2.2.2.2 hz (hs.2.2.1 hg rfl)];exact .bool _
  ·rw[zAp rfl,nV e2 hs.2.2.2.2.1 hy (hs.2.1 hg rfl)];exact .bool _
 ·exact hs.elim
end
section
variable {P:Program}
def bB:List Oper→Nat→Option Tmp
 |[],_=>none
 |o::_,0=>o.dst
 |_::os,n+1=>bB os n
theorem aHY(l:List Oper)(j:Nat):bB l j=(l[j]?).bind (·.dst):=by
 induction l generalizing j with
 |nil=>rfl
 |cons o os ih=>cases j with
  |zero=>rfl
  |succ n=>simpa[bB]using ih n
def bS(g:Bool)(α:AF):List Operand→Prop
 |[]=>True
 |x::xs=>aFk g (ev α x)∧bS g α xs
def cN(α:AF)(x:Operand):AV:=aCR (ev α x)
def gO(P:Program)(g:Bool)(f:AV)(xs:List AV)(H:AHeap)(K:AV→Prop):Prop:=
 ∃v,(g=true→ACall P f xs H (fun v' H'=>v'=v∧H'=H))∧K v
def gZ(P:Program)(f:AV)(xs:List AV)(H:AHeap)(K:AV→AHeap→Prop):Prop:=ACall P f xs H K
def sV(P:Program)(g:Bool)(f:AV)(xs:List AV)(H:AHeap)(K:AV→AHeap→Prop):Prop:=
 gO P g f xs H (fun v=>K v H)∨(g=true∧gZ P f xs H K)
def dA(P:Program)(all:List Oper):List Oper→AF→AHeap→(AF→AHeap→Prop)→Prop
 |[],α,H,k=>k α H
 |⟨dst,op,_,_,_,guard⟩::os,α,H,k=>
  match guard,op with
  |none,.pick x y z=>(cV true (ev α x) (ev α y) (ev α z)).s∧dA P all os (aX dst (cV true (ev α x) (ev α y) (ev α z)).v α) H k
  |none,.call ⟨.value f,xs,_⟩=>gZ P (ev α f) (xs.toList.map (ev α)) H (fun v H'=>dA P all os (aX dst v α) H' k)
  |none,.call ⟨.invoke r m,xs,_⟩=>gZ P (cC P m (ev α r)) (xs.toList.map (ev α)) H (fun v H'=>dA P all os (aX dst v α) H' k)
  |none,.next it false=>aGT (ev α it) H (fun v H'=>dA P all os (aX dst v α) H' k)
  |none,.binOp op t x y t'=>bif eK op&&iY y then aCO P t H (ev α x) (fun v=>dA P all os (aX dst v α) H k)
    else(aF P (.binOp op t x y t') (ev α) H).s∧dA P all os (aX dst (aF P (.binOp op t x y t') (ev α) H).v α) (aF P (.binOp op t x y t') (ev α) H).H k
  |none,op=>(aF P op (ev α) H).s∧dA P all os (aX dst (aF P op (ev α) H).v α) (aF P op (ev α) H).H k
  |some (j,want),.pick x y z=>
   kJ (aC α (bB all j))∧((aJ (aC α (bB all j)) want)=true→(cV (aJ (aC α (bB all j)) want) (ev α x) (ev α y) (ev α z)).s)∧
    dA P all os (aX dst (.opt (aJ (aC α (bB all j)) want) (cV (aJ (aC α (bB all j)) want) (ev α x) (ev α y) (ev α z)).v) α) H k
  |some (j,want),.call ⟨.value f,xs,_⟩=>
   kJ (aC α (bB all j))∧bS (aJ (aC α (bB all j)) want) α (f::xs.toList)∧
    sV P (aJ (aC α (bB all j)) want) (cN α f) (xs.toList.map (cN α)) H (fun v H=>dA P all os (aX dst (.opt (aJ (aC α (bB all j)) want) v) α) H k)
  |some (j,want),.call ⟨.invoke r m,xs,_⟩=>
   kJ (aC α (bB all j))∧bS (aJ (aC α (bB all j)) want) α (r::xs.toList)∧
    sV P (aJ (aC α (bB all j)) want) (cC P m (cN α r)) (xs.toList.map (cN α)) H (fun v H=>dA P all os (aX dst (.opt (aJ (aC α (bB all j)) want) v) α) H k)
  |some (j,want),op=>
   kJ (aC α (bB all j))∧bS (aJ (aC α (bB all j)) want) α op.operands.toList∧((aJ (aC α (bB all j)) want)=true→(aF P op (cN α) H).s∧(aF P op (cN α) H).H=H)∧
    dA P all os (aX dst (.opt (aJ (aC α (bB all j)) want) (aF P op (cN α) H).v) α) H k
def cH(P:Program)(all:List Oper)(H:AHeap):List Oper→AF→(AF→Prop)→Prop
 |[],α,k=>k α
 |⟨dst,op,_,_,_,guard⟩::os,α,k=>
  match guard,op with
  |none,.pick x y z=>(cV true (ev α x) (ev α y) (ev α z)).s∧cH P all H os (aX dst (cV true (ev α x) (ev α y) (ev α z)).v α) k
  |none,.call ⟨.value f,xs,_⟩=>gO P true (ev α f) (xs.toList.map (ev α)) H (fun v=>cH P all H os (aX dst v α) k)
  |none,.call ⟨.invoke r m,xs,_⟩=>gO P true (cC P m (ev α r)) (xs.toList.map (ev α)) H (fun v=>cH P all H os (aX dst v α) k)
  |none,op=>(aF P op (ev α) H).s∧(aF P op (ev α) H).H=H∧cH P all H os (aX dst (aF P op (ev α) H).v α) k
  |some (j,want),.pick x y z=>
   kJ (aC α (bB all j))∧((aJ (aC α (bB all j)) want)=true→(cV (aJ (aC α (bB all j)) want) (ev α x) (ev α y) (ev α z)).s)∧
    cH P all H os (aX dst (.opt (aJ (aC α (bB all j)) want) (cV (aJ (aC α (bB all j)) want) (ev α x) (ev α y) (ev α z)).v) α) k
  |some (j,want),.call ⟨.value f,xs,_⟩=>
   kJ (aC α (bB all j))∧bS (aJ (aC α (bB all j)) want) α (f::xs.toList)∧
    gO P (aJ (aC α (bB all j)) want) (cN α f) (xs.toList.map (cN α)) H (fun v=>cH P all H os (aX dst (.opt (aJ (aC α (bB all j)) want) v) α) k)
  |some (j,want),.call ⟨.invoke r m,xs,_⟩=>
   kJ (aC α (bB all j))∧bS (aJ (aC α (bB all j)) want) α (r::xs.toList)∧
    gO P (aJ (aC α (bB all j)) want) (cC P m (cN α r)) (xs.toList.map (cN α)) H (fun v=>cH P all H os (aX dst (.opt (aJ (aC α (bB all j)) want) v) α) k)
  |some (j,want),op=>
   kJ (aC α (bB all j))∧bS (aJ (aC α (bB all j)) want) α op.operands.toList∧((aJ (aC α (bB all j)) want)=true→(aF P op (cN α) H).s∧(aF P op (cN α) H).H=H)∧
    cH P all H os (aX dst (.opt (aJ (aC α (bB all j)) want) (aF P op (cN α) H).v) α) k
def YG(P:Program)(N:Nat)(ops:Array Oper)(H:AHeap)(o:Oper)(α:AF)(R:AV→AHeap→Prop):Prop:=
 ∀(r:Option Nat) (c:Ctx) (a:Act) (next:Act→World→Prop) (Q:Exit→Act→World→Prop),St c H→a.tmps.size=N→(∀t∈o.looksAt ops,Rep c (look α t) (a.tmps.getD t undef))→
  (∀c' x v H',St c' H'→Ext c c'→Rep c' x v→R x H'→next (a.put o.dst v) c'.w)→
  if Region.wanted o (yielded ops a.tmps)then o.wpIn (wf r) 0 P a c.w next Q else next (a.put o.dst undef) c.w
theorem cX{c:Ctx}{α:AF}{a:Act}{x:Operand}(h:∀t,x=.tmp t→Rep c (look α t) (a.tmps.getD t undef)):Rep c (ev α x) (a.eval x):=by
 cases x with
 |tmp t=>exact h t rfl
 |const v=>exact aGM c v
 |global g=>exact .top _
 |func f=>exact .func _ [] [] _ _ rfl rfl (by simp) (by simp)
theorem aN{ops:Array Oper}{o:Oper}{t:Nat}(h:Operand.tmp t∈o.op.operands.toList):t∈o.looksAt ops:=by
 unfold Oper.looksAt;grind
theorem YG.of_does{N:Nat}{ops:Array Oper}{H:AHeap}{o:Oper}{α:AF}{R:AV→AHeap→Prop}(hg:o.guard=none)(h:Does P o (ev α) H R):YG P N ops H o α R:=by
 intro r c a next Q hs hsz hl hk
 have hw:Region.wanted o (yielded ops a.tmps)=true:=by unfold Region.wanted;rw[hg]
 rw[zAp hw];exact h r c a next Q hs (fun x hx=>cX fun t ht=>hl t (aN (by subst ht;exact hx))) hk
theorem kM{c:Ctx}{ops:Array Oper}{o:Oper}{α:AF}{a:Act}{j:Nat}{want:Bool}(hg:o.guard=some (j,want))(hl:∀t∈o.looksAt ops,Rep c (look α t) (a.tmps.getD t undef))
  (hok:kJ (aC α (bB ops.toList j))):Region.wanted o (yielded ops a.tmps)=aJ (aC α (bB ops.toList j)) want:=by
 have hn:bB ops.toList j=(ops[j]?).bind (·.dst):=by rw[aHY,zBo]
 rw[hn]at hok ⊢;unfold Region.wanted;rw[hg];simp only;unfold yielded;cases hd:(ops[j]?).bind (·.dst)with
 |none=>rw[hd]at hok;exact hok.elim
 |some t=>
  rw[hd]at hok;simp only[aC]at hok ⊢;have hr:=hl t (by
   unfold Oper.looksAt;refine zAM.2 (.inr ?_);rw[hg];simp only;rw[hd];simp)
  have key:∀b:Bool,a.tmps.getD t undef=.bool b→a.tmps[t]?=some (.bool b):=by
   intro b hb;rw[zA9]at hb;cases ht:a.tmps[t]? with
   |none=>rw[ht]at hb;simp[undef]at hb
   |some v=>rw[ht]at hb;simpa using hb
  generalize look α t=sv at hr hok ⊢;unfold kJ at hok;split at hok
  ·rename_i b;have h1:=key b hr.bool_inv;simp only[zAn,h1,aJ];cases b<;>cases want<;>rfl
  ·rename_i g x;cases hr with
   |opt _ _ _ h1 h2=>
    cases g with
    |true=>
     have h4:=h1 rfl;rw[aCQ (hok rfl)]at h4;have h3:=key (mB x) h4.bool_inv;simp only[zAn,h3,aJ];generalize mB x=b;cases b<;>cases want<;>rfl
    |false=>
     have h3:=h2 rfl;rw[zA9]at h3;simp only[zAn,aJ,zBx];cases ht:a.tmps[t]? with
     |none=>simp
     |some v=>
      rw[ht]at h3;simp at h3;subst h3;simp[undef]
  ·exact hok.elim
theorem bV{g:Bool}{α:AF}:∀{xs:List Operand},bS g α xs→∀x∈xs,aFk g (ev α x)
 |[],_,_,hx=>by cases hx
 |y::ys,h,x,hx=>by
  cases hx with
  |head=>exact h.1
  |tail _ hm=>exact bV h.2 x hm
theorem cQ{c:Ctx}{g:Bool}{x:AV}{v:Value}(h:Rep c x v)(ho:aFk g x)(hg:g=true):Rep c (aCR x) v:=by
 cases x with
 |opt g' y=>
  cases h with
  |opt _ _ _ h1=>exact h1 (ho hg)
 |_=>exact h
theorem YG.of_guard{N:Nat}{ops:Array Oper}{H:AHeap}{o:Oper}{α:AF}{v:AV}{j:Nat}{want:Bool}(hg:o.guard=some (j,want))(hok:kJ (aC α (bB ops.toList j)))
  (ρ:Operand→AV) (hρ:∀(c:Ctx) (a:Act),aJ (aC α (bB ops.toList j)) want=true→(∀t∈o.looksAt ops,Rep c (look α t) (a.tmps.getD t undef))→∀x∈o.op.operands.toList,Rep c (ρ x) (a.eval x))
  (h:aJ (aC α (bB ops.toList j)) want=true→Does P o ρ H (fun v' H'=>v'=v∧H'=H)):YG P N ops H o α (fun v' H'=>v'=.opt (aJ (aC α (bB ops.toList j)) want) v∧H'=H):=by
 intro r c a next Q hs hsz hl hk
 rw[kM hg hl hok];cases hgv:aJ (aC α (bB ops.toList j)) want with
 |true=>
  simp only[zBy];rw[hgv]at hk;refine h hgv r c a next Q hs (hρ c a hgv hl) fun c' x v' H' h1 h2 h3 h4=>?_
  obtain⟨rfl,rfl⟩:=h4;exact hk c' _ v' _ h1 h2 (.opt _ _ _ (fun _=>h3) (fun h=>by cases h)) ⟨rfl,rfl⟩
 |false=>
  simp only[zAr,zBd];rw[hgv]at hk;exact hk c _ undef H hs (Ext.refl c) (.opt _ _ _ (fun h=>by cases h) (fun _=>rfl)) ⟨rfl,rfl⟩
theorem YG.of_on{N:Nat}{ops:Array Oper}{H:AHeap}{o:Oper}{α:AF}{K:AV→AHeap→Prop}{j:Nat}{want:Bool}(hg:o.guard=some (j,want))(hok:kJ (aC α (bB ops.toList j)))(hv:aJ (aC α (bB ops.toList j)) want=true)
  (ρ:Operand→AV) (hρ:∀(c:Ctx) (a:Act),aJ (aC α (bB ops.toList j)) want=true→(∀t∈o.looksAt ops,Rep c (look α t) (a.tmps.getD t undef))→∀x∈o.op.operands.toList,Rep c (ρ x) (a.eval x))
  (h:Does P o ρ H (fun v' H'=>K (.opt true v') H')):YG P N ops H o α K:=by
 intro r c a next Q hs hsz hl hk
 rw[kM hg hl hok,hv];simp only[zBy];exact h r c a next Q hs (hρ c a hv hl) fun c' x v' H' h1 h2 h3 h4=>hk c' _ v' H' h1 h2 (.opt _ _ _ (fun _=>h3) (fun h=>by cases h)) h4
theorem YG.mono{N:Nat}{ops:Array Oper}{H:AHeap}{o:Oper}{α:AF}{R R':AV→AHeap→Prop}(h:YG P N ops H o α R)(hr:∀x H',R x H'→R' x H'):YG P N ops H o α R':=
 fun r c a next Q h1 h2 h3 hk=>h r c a next Q h1 h2 h3 fun c' x v H' k1 k2 k3 k4=>hk c' x v H' k1 k2 k3 (hr _ _ k4)
theorem sW{N:Nat}{ops:Array Oper}{o:Oper}{os:List Oper}{α:AF}{H:AHeap}{k:AF→AHeap→Prop}(h:dA P ops.toList (o::os) α H k):
  YG P N ops H o α (fun v H'=>dA P ops.toList os (aX o.dst v α) H' k):=by
 obtain⟨dst,op,ty,pos,after,guard⟩:=o;have hpure:∀(op:Op) (hop:op.operands=op.operands) (ρ:Operand→AV),True:=fun _ _ _=>trivial
 unfold dA at h;split at h
 ·rename_i x y z;exact(YG.of_does rfl ((fT (o:=⟨dst,.pick x y z,ty,pos,after,none⟩) (ρ:=ev α) (H:=H) rfl rfl h.1))).mono fun v H' ⟨e1,e2⟩=>by subst e1;subst e2;exact h.2
 ·rename_i f xs ts;exact YG.of_does rfl (eF rfl h)
 ·rename_i f m xs ts;exact YG.of_does rfl (eU rfl h)
 ·rename_i it;exact YG.of_does rfl (aBt rfl h)
 ·rename_i op t x y t';cases hn:eK op&&iY y with
  |true=>
   rw[hn,cond_true]at h;exact(YG.of_does rfl (aCP (o:=⟨dst,.binOp op t x y t',ty,pos,after,none⟩) rfl hn h)).mono fun v H' ⟨e1,e2⟩=>by subst e2;exact e1
  |false=>
   rw[hn,zCc]at h;exact(YG.of_does rfl (cR (o:=⟨dst,.binOp op t x y t',ty,pos,after,none⟩) h.1)).mono fun v H' ⟨e1,e2⟩=>by subst e1;subst e2;exact h.2
 ·rename_i op' _ _;exact(YG.of_does rfl (cR (o:=⟨dst,op,ty,pos,after,none⟩) h.1)).mono fun v H' ⟨e1,e2⟩=>by subst e1;subst e2;exact h.2
 ·rename_i j want x y z;obtain⟨h1,h2,h3⟩:=h;exact(YG.of_guard (o:=⟨dst,.pick x y z,ty,pos,after,some (j,want)⟩) rfl h1 (ev α) (fun c a _ hl x hx=>cX fun t ht=>hl t (aN (by subst ht;exact hx)))
   (fun hg=>fT (g:=aJ (aC α (bB ops.toList j)) want) rfl hg (h2 hg))).mono fun v H' ⟨e1,e2⟩=>by subst e1;subst e2;exact h3
 ·rename_i j want f xs ts;obtain⟨h1,h2,⟨v,h3,h4⟩|⟨hv,h⟩⟩:=h
  rotate_left
  ·refine YG.of_on (o:=⟨dst,.call ⟨.value f,xs,ts⟩,ty,pos,after,some (j,want)⟩) rfl h1 hv (cN α) (fun c a hg hl x hx=>cQ (cX fun t ht=>hl t (aN (by subst ht;exact hx))) (bV h2 x (by simpa[Op.operands,Call.operands]using hx)) hg) ?_
   rw[hv]at h;exact eF rfl h
  refine(YG.of_guard (o:=⟨dst,.call ⟨.value f,xs,ts⟩,ty,pos,after,some (j,want)⟩) rfl h1 (cN α) (fun c a hg hl x hx=>cQ (cX fun t ht=>hl t (aN (by subst ht;exact hx))) (bV h2 x (by simpa[Op.operands,Call.operands]using hx)) hg)
   (fun hg=>eF rfl (h3 hg))).mono fun v H' ⟨e1,e2⟩=>by subst e1;subst e2;exact h4
 ·rename_i j want f m xs ts;obtain⟨h1,h2,⟨v,h3,h4⟩|⟨hv,h⟩⟩:=h
  rotate_left
  ·refine YG.of_on (o:=⟨dst,.call ⟨.invoke f m,xs,ts⟩,ty,pos,after,some (j,want)⟩) rfl h1 hv (cN α) (fun c a hg hl x hx=>cQ (cX fun t ht=>hl t (aN (by subst ht;exact hx))) (bV h2 x (by simpa[Op.operands,Call.operands]using hx)) hg) ?_
   rw[hv]at h;exact eU rfl h
  refine(YG.of_guard (o:=⟨dst,.call ⟨.invoke f m,xs,ts⟩,ty,pos,after,some (j,want)⟩) rfl h1 (cN α) (fun c a hg hl x hx=>cQ (cX fun t ht=>hl t (aN (by subst ht;exact hx))) (bV h2 x (by simpa[Op.operands,Call.operands]using hx)) hg)
   (fun hg=>eU rfl (h3 hg))).mono fun v H' ⟨e1,e2⟩=>by subst e1;subst e2;exact h4
 ·obtain⟨h1,h2,h3,h4⟩:=h;refine YG.mono (YG.of_guard (v:=(aF P op (cN α) H).v) rfl h1 (cN α) (fun c a hg hl x hx=>cQ (cX fun t ht=>hl t (aN (by subst ht;exact hx))) (bV h2 x hx) hg)
   (fun hg=>(cR (h3 hg).1).mono fun v H' ⟨e1,e2⟩=>⟨e1,e2.trans (h3 hg).2⟩)) fun v H' ⟨e1,e2⟩=>by subst e1;subst e2;exact h4
theorem zE{N:Nat}{ops:Array Oper}{o:Oper}{os:List Oper}{α:AF}{H:AHeap}{k:AF→Prop}(h:cH P ops.toList H (o::os) α k):
  ∃v,YG P N ops H o α (fun v' H'=>v'=v∧H'=H)∧cH P ops.toList H os (aX o.dst v α) k:=by
 obtain⟨dst,op,ty,pos,after,guard⟩:=o;unfold cH at h;split at h
 ·rename_i x y z;exact⟨_,YG.of_does rfl (fT (o:=⟨dst,.pick x y z,ty,pos,after,none⟩) (ρ:=ev α) (H:=H) rfl rfl h.1),h.2⟩
 ·rename_i f xs ts;obtain⟨v,h1,h2⟩:=h;exact⟨v,YG.of_does rfl (eF rfl (h1 rfl)),h2⟩
 ·rename_i f m xs ts;obtain⟨v,h1,h2⟩:=h;exact⟨v,YG.of_does rfl (eU rfl (h1 rfl)),h2⟩
 ·exact⟨_,(YG.of_does rfl (cR h.1)).mono fun v H' ⟨e1,e2⟩=>⟨e1,e2.trans h.2.1⟩,h.2.2⟩
 ·rename_i j want x y z;obtain⟨h1,h2,h3⟩:=h;exact⟨_,YG.of_guard (o:=⟨dst,.pick x y z,ty,pos,after,some (j,want)⟩) rfl h1 (ev α) (fun c a _ hl x hx=>cX fun t ht=>hl t (aN (by subst ht;exact hx)))
   (fun hg=>fT (g:=aJ (aC α (bB ops.toList j)) want) rfl hg (h2 hg)),h3⟩
 ·rename_i j want f xs ts;obtain⟨h1,h2,v,h3,h4⟩:=h;exact⟨_,YG.of_guard (o:=⟨dst,.call ⟨.value f,xs,ts⟩,ty,pos,after,some (j,want)⟩) rfl h1 (cN α) (fun c a hg hl x hx=>cQ (cX fun t ht=>hl t (aN (by subst ht;exact hx))) (bV h2 x (by simpa[Op.operands,Call.operands]using hx)) hg)
   (fun hg=>eF rfl (h3 hg)),h4⟩
 ·rename_i j want f m xs ts;obtain⟨h1,h2,v,h3,h4⟩:=h;exact⟨_,YG.of_guard (o:=⟨dst,.call ⟨.invoke f m,xs,ts⟩,ty,pos,after,some (j,want)⟩) rfl h1 (cN α) (fun c a hg hl x hx=>cQ (cX fun t ht=>hl t (aN (by subst ht;exact hx))) (bV h2 x (by simpa[Op.operands,Call.operands]using hx)) hg)
   (fun hg=>eU rfl (h3 hg)),h4⟩
 ·obtain⟨h1,h2,h3,h4⟩:=h;exact⟨_,YG.of_guard (v:=(aF P op (cN α) H).v) rfl h1 (cN α) (fun c a hg hl x hx=>cQ (cX fun t ht=>hl t (aN (by subst ht;exact hx))) (bV h2 x hx) hg)
   (fun hg=>(cR (h3 hg).1).mono fun v H' ⟨e1,e2⟩=>⟨e1,e2.trans (h3 hg).2⟩),h4⟩
def gI(N:Nat)(ops:Array Oper):Bool:=ops.toList.all fun o=>pZ N o.dst
abbrev qK(N:Nat)(c:Ctx)(Q:aT):Exit→Act→World→Prop:=fun e a' w'=>∃c' α' H',c'.w=w'∧St c' H'∧Ext c c'∧ARep c' N α' a'∧Q e α' H'
theorem lS{r:Option Nat}{N:Nat}{ops:Array Oper}{Q:aT}(hd:gI N ops=true)(c₀:Ctx):∀(os:List Oper) (k:Nat) (α:AF) (H:AHeap) (c:Ctx) (a:Act),(∀i,os[i]?=ops[k+i]?)→St c H→Ext c₀ c→ARep c N α a→
  dA P ops.toList os α H (fun α' H'=>Q .normal α' H')→wpOpsIn (wf r) 0 P ops (qK N c₀ Q) (List.range' k os.length) a c.w
 |[],k,α,H,c,a,_,hs,hx,ha,h=>⟨c,α,H,rfl,hs,hx,ha,h⟩
 |o::os,k,α,H,c,a,hos,hs,hx,ha,h=>by
  have h0:ops[k]?=some o:=by simpa using(hos 0).symm
  have hdo:pZ N o.dst=true:=zAx.1 hd o (by grind)
  simp only[zAt,zBI,wpOpsIn,h0];have hy:=sW (N:=N) h r c a (wpOpsIn (wf r) 0 P ops (qK N c₀ Q) (List.range' (k+1) os.length)) (qK N c₀ Q) hs ha.size (fun t _=>ha.rep t) fun c' x v H' h1 h2 h3 h4=>
   lS hd c₀ os (k+1) _ H' c' _ (fun i=>by have:=hos (i+1);grind) h1 (hx.trans h2) ((ha.mono h2).put hdo h3) h4
  by_cases hw:Region.wanted o (yielded ops a.tmps)=true
  ·rw[zAp hw]at hy ⊢;exact hy
  ·rw[zAk hw]at hy ⊢;exact⟨fun _ _=>trivial,hy⟩
theorem gV{N id:Nat}{ops:Array Oper}{Q:aT}{α:AF}{H:AHeap}(hd:gI N ops=true)(h:dA P ops.toList ops.toList α H (fun α' H'=>Q .normal α' H')):aw P N (.region id ops false) Q α H:=by
 intro r c a _ hs ha;refine wpIn_region ?_;have:=lS (P:=P) (r:=r) hd c ops.toList 0 α H c a (by simp) hs (Ext.refl c) ha h
 rw[List.range_eq_range'];grind
section draw
variable {N:Nat} {ops:Array Oper} {H:AHeap}
def qA(P:Program)(N:Nat)(ops:Array Oper)(H:AHeap)(i:Nat)(K:AF→Prop)(α:AF):Prop:=
 match ops[i]? with
 |none=>K α
 |some o=>∃v,YG P N ops H o α (fun v' H'=>v'=v∧H'=H)∧K (aX o.dst v α)
def zF(P:Program)(N:Nat)(ops:Array Oper)(H:AHeap)(K:AF→Prop):Nat→Array Bool→AF→Prop
 |0,listed,α=>Region.ready .any ops listed=[]∧K α
 |fuel+1,listed,α=>(Region.ready .any ops listed=[]→K α)∧∀i∈Region.ready .any ops listed,qA P N ops H i (zF P N ops H K fuel (listed.setIfInBounds i true)) α
def Alike(α β:AF):Prop:=∀t,look α t=look β t
theorem Alike.put{α β:AF}(h:Alike α β)(d:Option Tmp)(v:AV):Alike (aX d v α) (aX d v β):=by
 cases d with
 |none=>exact h
 |some d=>intro t;simp only[aX,look];cases d==t<;>simp[h t]
theorem YG.alike{o:Oper}{α β:AF}{R:AV→AHeap→Prop}(hab:Alike α β)(h:YG P N ops H o α R):YG P N ops H o β R:=
 fun r c a next Q h1 h2 h3 hk=>h r c a next Q h1 h2 (fun t ht=>by rw[hab t];exact h3 t ht) hk
theorem mC{K:AF→Prop}(hK:∀α β,Alike α β→K α→K β):∀(n:Nat) (listed:Array Bool) (α β:AF),Alike α β→zF P N ops H K n listed α→zF P N ops H K n listed β
 |0,_,_,_,hab,h=>⟨h.1,hK _ _ hab h.2⟩
 |n+1,listed,α,β,hab,h=>by
  refine⟨fun h0=>hK _ _ hab (h.1 h0),fun i hi=>?_⟩
  have:=h.2 i hi;unfold qA at this ⊢;split
  ·rename_i ho;simp only[ho]at this;exact mC hK n _ _ _ hab this
  ·rename_i o ho;simp only[ho]at this;obtain⟨v,h1,h2⟩:=this;exact⟨v,h1.alike hab,mC hK n _ _ _ (hab.put _ _) h2⟩
theorem iZ{r:Option Nat}{Q:Exit→Act→World→Prop}{K:AF→Prop}(hd:gI N ops=true)(c₀:Ctx)(hK:∀α c a,K α→St c H→Ext c₀ c→ARep c N α a→Q .normal a c.w):
  ∀(n:Nat) (listed:Array Bool) (α:AF) (c:Ctx) (a:Act),St c H→Ext c₀ c→ARep c N α a→zF P N ops H K n listed α→wpAnyIn (wf r) 0 P .any ops Q n listed a c.w
 |0,_,_,_,_,hs,hx,ha,h=>⟨h.1,hK _ _ _ h.2 hs hx ha⟩
 |n+1,listed,α,c,a,hs,hx,ha,h=>by
  refine⟨fun h0=>hK _ _ _ (h.1 h0) hs hx ha,fun i hi=>?_⟩
  have h1:=h.2 i hi;unfold qA at h1;unfold wpOpIn;split
  ·rename_i ho;simp only[ho]at h1;exact iZ hd c₀ hK n _ _ _ _ hs hx ha h1
  ·rename_i o ho;simp only[ho]at h1;obtain⟨v,hy,hk⟩:=h1;have hdo:pZ N o.dst=true:=zAx.1 hd o (by rw[zBN];exact zBe ho)
   have:=hy r c a (wpAnyIn (wf r) 0 P .any ops Q n (listed.setIfInBounds i true)) Q hs ha.size (fun t _=>ha.rep t) fun c' x v' H' g1 g2 g3 g4=>by
    obtain⟨e1,e2⟩:=g4;rw[e2]at g1;rw[e1]at g3;exact iZ hd c₀ hK n _ _ _ _ g1 (hx.trans g2) ((ha.mono g2).put hdo g3) hk
   by_cases hw:Region.wanted o (yielded ops a.tmps)=true
   ·rw[zAp hw]at this ⊢;exact this
   ·rw[zAk hw]at this ⊢;exact⟨fun _ _=>trivial,this⟩
theorem iL{α:AF}{d:Option Tmp}{v:AV}{t:Nat}(h:∀x,d=some x→x≠t):look (aX d v α) t=look α t:=by
 cases d with
 |none=>rfl
 |some d=>have hb:(d==t)=false:=by simpa using h d rfl
          simp[aX,look,hb]
theorem YG.put_apart{oi oj:Oper}{α:AF}{v u:AV}(h:YG P N ops H oi α (fun v' H'=>v'=v∧H'=H))(hap:∀d,oj.dst=some d→d∉oi.looksAt ops):YG P N ops H oi (aX oj.dst u α) (fun v' H'=>v'=v∧H'=H):=
 fun r c a next Q h1 h2 h3 hk=>h r c a next Q h1 h2 (fun t ht=>by
  have:=h3 t ht;rwa[iL fun x hx e=>hap x hx (e▸ht)]at this) hk
theorem YG.unput_apart{oi oj:Oper}{α:AF}{v u:AV}(h:YG P N ops H oi (aX oj.dst u α) (fun v' H'=>v'=v∧H'=H))(hap:∀d,oj.dst=some d→d∉oi.looksAt ops):YG P N ops H oi α (fun v' H'=>v'=v∧H'=H):=
 fun r c a next Q h1 h2 h3 hk=>h r c a next Q h1 h2 (fun t ht=>by
  rw[iL fun x hx e=>hap x hx (e▸ht)]
  exact h3 t ht) hk
theorem fE{α:AF}{x y:Option Tmp}{v u:AV}(h:∀d,x=some d→y≠some d):Alike (aX y u (aX x v α)) (aX x v (aX y u α)):=by
 intro t;cases x with
 |none=>rfl
 |some d=>cases y with
  |none=>rfl
  |some e=>
   have hne:d≠e:=fun h'=>h d rfl (by rw[h'])
   simp only[aX,look];grind
theorem zG{K:AF→Prop}(hK:∀α β,Alike α β→K α→K β){i:Nat}{oi:Oper}{v:AV}(hi:ops[i]?=some oi):
  ∀(fuel:Nat) (listed:Array Bool) (α:AF),
   (∀j oj,ops[j]?=some oj→j≠i→listed.getD j true=false→(∀e∈oj.after,Region.binds .any e=true→e.on≠i)→oi.apart ops oj=true)→
   i∈Region.ready .any ops listed→YG P N ops H oi α (fun v' H'=>v'=v∧H'=H)→
   zF P N ops H K fuel (listed.setIfInBounds i true) (aX oi.dst v α)→zF P N ops H K (fuel+1) listed α:=by
 have qi:∀(K:AF→Prop) (α:AF),YG P N ops H oi α (fun v' H'=>v'=v∧H'=H)→K (aX oi.dst v α)→qA P N ops H i K α:=by
  grind [qA]
 intro fuel;induction fuel with
 |zero=>
  intro listed α _ hr hy hh;refine⟨fun h=>(by rw[h]at hr;cases hr),fun j hj=>?_⟩
  by_cases hji:j=i
  ·subst hji;exact qi _ _ hy hh
  ·have:=ready_mono hj hji;rw[hh.1]at this;cases this
 |succ fuel ih=>
  intro listed α hfree hr hy hh;refine⟨fun h=>(by rw[h]at hr;cases hr),fun j hj=>?_⟩
  by_cases hji:j=i
  ·subst hji;exact qi _ _ hy hh
  ·have h1:=hh.2 j (ready_mono hj hji);obtain⟨hjun,oj,hoj,hall⟩:=mem_ready.1 hj;have hnot:∀e∈oj.after,Region.binds .any e=true→e.on≠i:=fun e he hb heq=>by
    have h1:=hall e he hb;have h0:=(mem_ready.1 hr).1;rw[heq]at h1;rcases Nat.lt_or_ge i listed.size with h'|h'
    ·simp[h']at h0 h1;rw[h0]at h1;cases h1
    ·simp[zBJ h']at h1
   obtain⟨p1,p2,p3⟩:=Oper.apart_spec (hfree j oj hoj hji hjun hnot);unfold qA at h1 ⊢;simp only[hoj]at h1 ⊢;obtain⟨u,hyj,hkj⟩:=h1;refine⟨u,hyj.unput_apart p1,?_⟩;have hfree':∀k ok,ops[k]?=some ok→k≠i→(listed.setIfInBounds j true).getD k true=false→
     (∀e∈ok.after,Region.binds .any e=true→e.on≠i)→oi.apart ops ok=true:=fun k ok hk hki hun hno=>by
    refine hfree k ok hk hki ?_ hno;by_cases hjk:j=k
    ·subst hjk;exact hjun
    ·rw[getD_set_ne true hjk]at hun;exact hun
   refine ih (listed.setIfInBounds j true) _ hfree' (ready_mono hr (Ne.symm hji)) (hy.put_apart p3) ?_;rw[zBg _ _ hji];exact mC hK _ _ _ _ (fE p2) hkj
theorem wE{K:AF→Prop}(hK:∀α β,Alike α β→K α→K β):∀(l:List Oper) (k:Nat) (listed:Array Bool) (α:AF),(∀j,l[j]?=ops[k+j]?)→
  Region.lexFrom .any ops l.length k listed=true→cH P ops.toList H l α K→zF P N ops H K l.length listed α
 |[],_,_,_,_,hB,h=>⟨by simpa[Region.lexFrom]using hB,h⟩
 |o::l,k,listed,α,hl,hB,h=>by
  have h0:ops[k]?=some o:=by simpa using(hl 0).symm
  simp only[zAt,Region.lexFrom,zAc]at hB;obtain⟨⟨hr,hf⟩,hB'⟩:=hB;obtain⟨v,hy,hk⟩:=zE (N:=N) h;exact zG hK h0 l.length listed α (Region.free_spec h0 hf) (by simpa using hr) hy
   (wE hK l (k+1) _ _ (fun j=>by have:=hl (j+1);grind) hB' hk)
end draw
theorem dJ{all:List Oper}{H:AHeap}{k k':AF→Prop}(hk:∀α,k α→k' α):∀(l:List Oper) (α:AF),cH P all H l α k→cH P all H l α k'
 |[],α,h=>hk α h
 |⟨dst,op,ty,pos,after,guard⟩::os,α,h=>by
  unfold cH at h ⊢;split at h
  ·exact⟨h.1,dJ hk os _ h.2⟩
  ·obtain⟨v,h1,h2⟩:=h;exact⟨v,h1,dJ hk os _ h2⟩
  ·obtain⟨v,h1,h2⟩:=h;exact⟨v,h1,dJ hk os _ h2⟩
  ·exact⟨h.1,h.2.1,dJ hk os _ h.2.2⟩
  ·exact⟨h.1,h.2.1,dJ hk os _ h.2.2⟩
  ·obtain⟨h1,h2,v,h3,h4⟩:=h;exact⟨h1,h2,v,h3,dJ hk os _ h4⟩
  ·obtain⟨h1,h2,v,h3,h4⟩:=h;exact⟨h1,h2,v,h3,dJ hk os _ h4⟩
  ·exact⟨h.1,h.2.1,h.2.2.1,dJ hk os _ h.2.2.2⟩
theorem hC{N id:Nat}{ops:Array Oper}{Q:aT}{α:AF}{H:AHeap}(hm:P.follows .mixedOrders=true)(hd:gI N ops=true)(hB:Region.lexB .any ops=true)
  (h:cH P ops.toList H ops.toList α (fun α'=>Q .normal α' H)):aw P N (.region id ops true) Q α H:=by
 intro r c a _ hs ha;simp only[Region.lexB,zAc]at hB;refine wpIn_region_any hm ?_;have h1:cH P ops.toList H ops.toList α (fun α'=>∃β,Alike α' β∧Q .normal β H):=dJ (fun α' hq=>⟨α',fun _=>rfl,hq⟩) _ _ h
 have h2:=wE (P:=P) (N:=N) (ops:=ops) (H:=H) (K:=fun α'=>∃β,Alike α' β∧Q .normal β H) (fun α β hab ⟨γ,hg,hq⟩=>⟨γ,fun t=>(hab t).symm.trans (hg t),hq⟩)
  ops.toList 0 (Array.replicate ops.size false) α (by simp) (by simpa using hB.2) h1
 have h3:=iZ (r:=r) (P:=P) (Q:=qK N c Q) hd c (fun α' c' a' ⟨β,hab,hq⟩ hs' hx' ha'=>⟨c',β,H,rfl,hs',hx',ha'.weaken fun t=>.inr (hab t).symm,hq⟩)
  ops.toList.length (Array.replicate ops.size false) α c.draw a hs.draw (Ext.draw c) (ha.mono (Ext.draw c)) h2
 rw[Array.length_toList]at h3;exact h3
end
section
variable {P:Program}
def cG:Nat→List AV→AF
 |_,[]=>[]
 |k,x::xs=>(k,x)::cG (k+1) xs
theorem mV(xs:List AV)(k t:Nat):look (cG k xs) t=if k≤t then xs.getD (t-k) .top else .top:=by
 induction xs generalizing k<;>grind [cG,look]
def jR(P:Program)(α:AF)(H:AHeap):ResultVar→BR
 |.tmp t=>⟨look α t,True⟩
 |.cell a t=>aAI P t (look α a) H
def dS(P:Program)(α:AF)(H:AHeap):List ResultVar→Prop
 |[]=>True
 |r::rs=>(jR P α H r).s∧dS P α H rs
def mW:List AV→AV
 |[v]=>v
 |vs=>.tup vs
def lN(P:Program)(rs:List ResultVar)(R:AV→AHeap→Prop):aT
 |.normal,α,H=>dS P α H rs∧R (mW (rs.map fun r=>(jR P α H r).v)) H
 |.ret,α,H=>dS P α H rs∧R (mW (rs.map fun r=>(jR P α H r).v)) H
 |_,_,_=>False
theorem aBx{c:Ctx}{H:AHeap}{t:TypeId}{x:AV}{vx:Value}(hst:St c H)(hx:Rep c x vx)(hs:(aAI P t x H).s):∃a,vx=.pointer (some a):=by
 unfold aAI at hs;split at hs
 ·exact hx.cptr_inv
 ·rename_i i v off;split at hs
  ·rename_i ver cs hh;obtain⟨a,ha, -⟩:=wA hx (by rw[hs.1];exact hst.ver_eq hh) 0
   exact⟨a,ha⟩
  ·exact hs.elim
 ·exact hs.elim
def aAL(a:Act):ResultVar→Sem Value
 |.tmp t=>pure (a.tmps.getD t undef)
 |.cell b t=>do loadVar t (←asAddr (a.tmps.getD b undef))
theorem aBy{c:Ctx}{H:AHeap}{α:AF}{a:Act}(hs:St c H)(ha:∀t,Rep c (look α t) (a.tmps.getD t undef))(r:ResultVar)(h:(jR P α H r).s):∃v,(aAL a r).run P c.w=.ok v c.w∧Rep c (jR P α H r).v v:=by
 cases r with
 |tmp t=>exact⟨_,rfl,ha t⟩
 |cell b t=>
  have hb:=ha b;obtain⟨ad,had⟩:=aBx (P:=P) hs hb h;grind [vZ,aAL,asAddr,Sem.run_bind,Sem.run_pure,Result.andThen_ok,Instr.loadAt,Instr.sureAddr,Ctx,Act,look,undef,ResultVar,jR]
theorem qL{c:Ctx}{H:AHeap}{α:AF}{a:Act}(hs:St c H)(ha:∀t,Rep c (look α t) (a.tmps.getD t undef)):∀rs:List ResultVar,dS P α H rs→∃vs:List Value,(rs.mapM (aAL a)).run P c.w=.ok vs c.w∧vs.length=rs.length∧
   ∀(i:Nat) (x:AV) (v:Value),(rs.map fun r=>(jR P α H r).v)[i]?=some x→vs[i]?=some v→Rep c x v
 |[],_=>⟨[],by simp,rfl,by simp⟩
 |r::rs,h=>by
  obtain⟨vs,h1,h2,h3⟩:=qL hs ha rs h.2;obtain⟨v,g1,g2⟩:=aBy (P:=P) hs ha r h.1;refine⟨v::vs,?_,by simp[h2],fun i x u hi hu=>?_⟩
  ·simp_all
  grind
theorem kN{c:Ctx}{H:AHeap}{α:AF}{a:Act}{fn:Func}(hs:St c H)(ha:∀t,Rep c (look α t) (a.tmps.getD t undef))(h:dS P α H fn.results.toList):
  ∃v,(results fn a.tmps).run P c.w=.ok v c.w∧Rep c (mW (fn.results.toList.map fun r=>(jR P α H r).v)) v:=by
 obtain⟨vs,h1,h2,h3⟩:=qL (P:=P) hs ha fn.results.toList h;have hres:(results fn a.tmps).run P c.w=.ok (if hh:vs.toArray.size=1 then vs.toArray[0]else .tuple vs.toArray) c.w:=by
  have e:results fn a.tmps=(do
    let vs←fn.results.mapM (aAL a)
    pure (if h:vs.size=1 then vs[0]else .tuple vs)):=by
   unfold results;congr 1
  rw[e];simp only[Sem.run_bind,Array.mapM_eq_mapM_toList,Sem.run_map,h1];rfl
 refine⟨_,hres,?_⟩;by_cases hl:vs.length=1
 ·match vs,hl,h2,h3 with
  |[v],_,h2,h3=>
   have hl1:fn.results.toList.length=1:=by simpa using h2.symm
   match hr:fn.results.toList,hl1 with
   |[r],_=>
    rw[hr]at h3;exact h3 0 _ _ rfl rfl
 ·rw[dif_neg (by simpa using hl)]
  have:mW (fn.results.toList.map fun r=>(jR P α H r).v)=.tup (fn.results.toList.map fun r=>(jR P α H r).v):=by
   unfold mW;split
   ·rename_i v hv;have:=zA5 List.length hv;simp at this;simp at h2;omega
   ·rfl
  rw[this];exact .tup _ _ (by simpa using h2) (fun i x v hi hv=>h3 i x v hi (by simpa using hv))
def Ctx.shut(c:Ctx)(D:Nat):Ctx:={c with w:=c.w.putObj D (.deferred none)}
theorem jE{c:Ctx}{D:Nat}(hD:c.w.heap[D]?=some (.deferred (some []))):Ext0 c (c.shut D) where
 n:=zAb _
 st:=fun _ h=>h
 cell:=fun a _=>by
  by_cases h:a.block=D
  ·have hlt:=(zAW.1 hD).1;simp only[World.cell?,Ctx.shut,h,hD,World.putObj_heap_same hlt]
  ·exact lQ (World.putObj_heap_other h)
 ver:=fun _ _=>zAb _
 blk:=fun i _ _=>⟨rfl,rfl,fun _=>by
  by_cases h:c.blk i=D
  ·have hlt:=(zAW.1 hD).1;simp only[bsize,Ctx.shut,h,hD,World.putObj_heap_same hlt]
  ·grind [bsize,Ctx.shut,World.putObj_heap_other]⟩
theorem St.shut{c:Ctx}{H:AHeap}{D:Nat}(hst:St c H)(hs:c.stable D)(hD:c.w.heap[D]?=some (.deferred (some []))):St (c.shut D) H where
 gl:=hst.gl.mono0 (jE hD)
 n:=hst.n
 lt:=fun i hi hd=>by have:=hst.lt i hi hd;simpa[Ctx.shut]using this
 inj:=hst.inj
 st:=fun k hk=>by obtain⟨h1,h2⟩:=hst.st k hk;exact⟨by simpa[Ctx.shut]using h1,h2⟩
 rep:=fun i b hi=>by
  have hin:i<c.n:=by rw[hst.n];grind
  have hb:=hst.rep i b hi;refine hb.mono0 (jE hD) hin (fun _ _ h=>h) rfl fun hd=>World.putObj_heap_other ?_
  have hl:b.live:=by
   cases hb with
   |gone hd'=>rw[hd]at hd';cases hd'
   |_=>trivial
  exact(hst.st D hs).2 i b hi hl hd
theorem Ext.shut{c0 c:Ctx}{H0:AHeap}{D:Nat}(h0:St c0 H0)(hx:Ext c0 c)(hlt:c0.w.heap.size≤D)(hD:c.w.heap[D]?=some (.deferred (some []))):Ext c0 (c.shut D) where
 n:=hx.n
 size:=by have:=hx.size;simpa[Ctx.shut]using this
 st:=fun b hb=>⟨(hx.st b hb).1,(World.putObj_heap_other (fun e=>by have:=(h0.st b hb).1;omega)).trans (hx.st b hb).2⟩
 ver:=hx.ver
 blk:=fun i hi he=>by
  obtain⟨p1,p2,p3⟩:=hx.blk i hi he;refine⟨p1,p2,fun hd=>?_⟩
  have:=((jE hD).blk i (zA3 hi hx.n) rfl).2.2 (p2.trans hd);grind
 os:=hx.os
 tape:=hx.tape
 output:=hx.output
 base:=hx.base
theorem fF{F:Fence}{n:Nat}{fn:Func}{tmps:Array Value}{R:Ending→World→Prop}{c0:Ctx}{H0 H:AHeap}{u:FrameMode}(hu:u≠.run)(ds:List Deferred)(h0:St c0 H0):∀(Ds:List Nat) (c:Ctx),St c H→Ext c0 c→Ds.Nodup→
  (∀D∈Ds,c0.w.heap.size≤D∧c.stable D∧c.w.heap[D]?=some (.deferred (some [])))→(∀c',St c' H→Ext c0 c'→Ext0 c c'→(∀E,E∉Ds→c'.w.heap[E]?=c.w.heap[E]?)→LeavesInM F n P fn tmps R ds u c'.w)→
  LeavesInM F n P fn tmps R ((Ds.map fun D=>{target:=.collected D,args:= #[]})++ds) u c.w
 |[],c,hst,hx,_,_,h=>h c hst hx ⟨zAb _,fun _ h=>h,fun _ _=>rfl,fun _ _=>zAb _,fun _ _ _=>⟨rfl,rfl,fun _=>rfl⟩⟩ (fun _ _=>rfl)
 |D::Ds,c,hst,hx,hn,hD,h=>by
  obtain⟨hD1,hD2,hD3⟩:=hD D (by simp)
  refine⟨hu,.inl ⟨D,_,rfl,run_takeDeferred hD3,?_⟩⟩;have hn':=zBK.1 hn;refine fF hu ds h0 Ds (c.shut D) (hst.shut hD2 hD3) (Ext.shut h0 hx hD1 hD3) hn'.2 (fun E hE=>?_) fun c' g1 g2 g3 g4=>h c' g1 g2 ?_ fun E hE=>?_
  ·obtain⟨q1,q2,q3⟩:=hD E (by simp[hE])
   exact⟨q1,q2,(World.putObj_heap_other (fun e=>hn'.1 (by rw[←e];exact hE))).trans q3⟩
  ·have k:=jE hD3;exact⟨g3.n,g3.st,fun a ha=>(g3.cell a ha).trans (k.cell a ha),g3.ver,fun i hi he=>by
    obtain⟨p1,p2,p3⟩:=g3.blk i hi he;exact⟨p1,p2,fun hd=>(p3 hd).trans ((k.blk i hi rfl).2.2 hd)⟩⟩
  ·exact(g4 E fun q=>hE (by simp[q])).trans (World.putObj_heap_other fun e=>hE (by simp[e]))
def Ctx.rebase(c:Ctx)(b:Nat×List Deferred):Ctx:={c with base:=b}
theorem oU(c:Ctx)(b:Nat×List Deferred):Ext0 c (c.rebase b):=⟨zAb _,fun _ h=>h,fun _ _=>rfl,fun _ _=>zAb _,fun _ _ _=>⟨rfl,rfl,fun _=>rfl⟩⟩
theorem St.rebase{c:Ctx}{H:AHeap}(h:St c H)(b:Nat×List Deferred):St (c.rebase b) H:=
 ⟨h.gl,h.n,h.lt,h.inj,h.st,fun i _ hi=>(h.rep i _ hi).mono0 (oU c b) (by rw[h.n];grind) (fun _ _ h=>h) rfl (fun _=>rfl)⟩
theorem Rep.rebase{c:Ctx}{x:AV}{v:Value}(h:Rep c x v)(b:Nat×List Deferred):Rep (c.rebase b) x v:=h.mono0 (oU c b)
theorem fG{f:FuncId}{fn:Func}{code:Code}{args:List AV}{H:AHeap}{R:AV→AHeap→Prop}(hf:P.funcs[f]?=some fn)(hb:fn.body=some code)(hn:args.length≤fn.ntmps)
  (h:aw P fn.ntmps code (lN P fn.results.toList R) (cG 0 args) H):ACalls P f args H R:=by
 intro c vs hs ⟨hl,hr⟩;refine callsIn_wide.1 (callsIn_of_wp_marks (F:=Fence.wide) (n:=0) hf hb trivial ?_);have ha:ARep (c.rebase (c.w.heap.size,[])) fn.ntmps (cG 0 args) {tmps:=vs++Array.replicate (fn.ntmps-vs.size) undef,defers:=[]}:=by
  refine⟨by simp;omega,⟨zAb _,[],rfl,by simp,by simp⟩,fun t=>?_⟩
  rw[mV,zAp (zAv _),Nat.sub_zero];by_cases ht:t<args.length
  ·have hx:args[t]?=some args[t]:=zAd ht;have hv:vs[t]?=some (vs[t]'(by omega)):=zAZ (by omega)
   rw[aE6 _ _ _ _ hx];have:(vs++Array.replicate (fn.ntmps-vs.size) undef).getD t undef=vs[t]'(by omega):=by
    rw[zA9,zAH (by omega),hv];rfl
   rw[this];exact(hr t _ _ hx hv).rebase _
  ·have:args.getD t .top=.top:=by rw[zAm,zBq (by omega)];rfl
   rw[this];exact .top _
 refine wpIn_mono (h none (c.rebase (c.w.heap.size,[])) _ (.inl rfl) (hs.rebase (c.w.heap.size,[])) ha) fun e a' w' ⟨c',α',H',e1,e2,e3,e4,e5⟩=>?_
 subst e1;have key:∀{R':Prop},(dS P α' H' fn.results.toList∧R (mW (fn.results.toList.map fun r=>(jR P α' H' r).v)) H')→
   LeavesInM Fence.wide 0 P fn a'.tmps (fun e w'=>∃c' x v H',e=.returned v∧c'.w=w'∧St c' H'∧Ext c c'∧Rep c' x v∧R x H') a'.defers .returning c'.w:=by
  intro _ ⟨q1,q2⟩;obtain⟨hb0,Ds,hds,hnd,hD⟩:=e4.defers;have hbase:c'.base=(c.w.heap.size,[]):=e3.base;rw[hds,hbase];refine fF (by simp) [] (hs.rebase (c.w.heap.size,[])) Ds c' e2 e3 hnd (fun D h=>?_) fun c'' g1 g2 g3 _=>?_
  ·obtain⟨p1,p2,p3⟩:=hD D h;exact⟨by rw[hbase]at p1;exact p1,p2,p3⟩
  ·have e4':∀t,Rep c'' (look α' t) (a'.tmps.getD t undef):=fun t=>(e4.rep t).mono0 g3
   obtain⟨v,r1,r2⟩:=kN (P:=P) g1 e4' q1;refine⟨v,r1,c''.rebase c.base,_,v,H',rfl,rfl,g1.rebase _,?_,r2.rebase _,q2⟩;exact⟨g2.n,g2.size,g2.st,g2.ver,g2.blk,g2.os,g2.tape,g2.output,rfl⟩
 cases e<;>simp only[lN]at e5;case normal=>exact key (R':=True) e5
 case ret=>exact key (R':=True) e5
inductive Cl (n:Nat):AV→Prop
 |int (k m):Cl n (.int k m)
 |bool (b):Cl n (.bool b)
 |str (s):Cl n (.str s)
 |agg (cs:List AV) (h:∀(i:Nat) (x:AV),cs[i]?=some x→Cl n x):Cl n (.agg cs)
 |tup (cs:List AV) (h:∀(i:Nat) (x:AV),cs[i]?=some x→Cl n x):Cl n (.tup cs)
 |sl (full) (es:List AV) (h:∀(k:Nat) (e:AV) (j:Nat) (x:AV),es[k]?=some e→e.cells[j]?=some x→Cl n x):Cl n (.sl full es)
 |cptr (cs:List AV) (h:∀(i:Nat) (x:AV),cs[i]?=some x→Cl n x):Cl n (.cptr cs)
 |ref (i v off) (h:i<n):Cl n (.ref i v off)
 |osl (s i v off len lc) (h:i<n):Cl n (.osl s i v off len lc)
 |nilptr:Cl n .nilptr
 |map (i) (h:i<n):Cl n (.map i)
 |nilmap:Cl n .nilmap
 |iter (i) (h:i<n):Cl n (.iter i)
 |func (fn) (fs cs:List AV) (h1:∀(i:Nat) (x:AV),fs[i]?=some x→Cl n x) (h2:∀(i:Nat) (x:AV),cs[i]?=some x→Cl n x):Cl n (.func fn fs cs)
 |nilfunc:Cl n .nilfunc
 |iface (t x) (h:Cl n x):Cl n (.iface t x)
 |nilIface:Cl n .nilIface
 |opt (g x) (h:g=true→Cl n x):Cl n (.opt g x)
 |top:Cl n .top
theorem eP{α β:Type}{l:List α}{a:Array β}(h:a.size=l.length){i:Nat}{x:α}(hx:l[i]?=some x):∃v,a[i]?=some v:=by
 have:=(eT.1 hx).1;simp_all
theorem Rep.cl{c:Ctx}{x:AV}{v:Value}(h:Rep c x v):Cl c.n x:=by
 induction h with
 |int k n _=>exact .int k n
 |bool b=>exact .bool b
 |str s _=>exact .str s
 |agg cs vs hl _ ih=>exact .agg cs fun i x hx=>let⟨v,hv⟩:=eP hl hx;ih i x v hx hv
 |tup cs vs hl _ ih=>exact .tup cs fun i x hx=>let⟨v,hv⟩:=eP hl hx;ih i x v hx hv
 |sl full es base len cap s vs _ _ _ _ _ _ _ ih=>exact .sl full es ih
 |cptr cs a vs _ _ _ _ ih=>exact .cptr cs ih
 |ref i v off val hi=>exact .ref i v off hi
 |osl s i v off len lc val hi=>exact .osl s i v off len lc hi
 |nilptr=>exact .nilptr
 |map i val hi=>exact .map i hi
 |nilmap=>exact .nilmap
 |iter i val hi=>exact .iter i hi
 |func fn fs cs vf vc hf hc _ _ ih1 ih2=>exact .func fn fs cs (fun i x hx=>let⟨v,hv⟩:=eP hf hx;ih1 i x v hx hv) (fun i x hx=>let⟨v,hv⟩:=eP hc hx;ih2 i x v hx hv)
 |nilfunc=>exact .nilfunc
 |iface t x v _ ih=>exact .iface t x ih
 |nilIface=>exact .nilIface
 |opt g x v _ _ ih=>exact .opt g x ih
 |top v=>exact .top
def Ctx.drop(c:Ctx)(n:Nat):Ctx:=
 {w:=c.w,n:=n,blk:=c.blk,ver:=c.ver,vd:=c.vd,stable:=fun b=>c.stable b∨∃i,n≤i∧i<c.n∧c.vd i=false∧c.blk i=b,base:=c.base}
theorem Laid.drop{c:Ctx}(h:Laid c)(n:Nat):Laid (c.drop n):=h.go (fun _ hb=>.inl hb) (fun _ _=>rfl)
theorem Rep.drop{c:Ctx}{n:Nat}{x:AV}{v:Value}(h:Rep c x v)(hc:Cl n x):Rep (c.drop n) x v:=by
 induction h with
 |int k n hr=>exact .int k n hr
 |bool b=>exact .bool b
 |str s hr=>exact .str s hr
 |agg cs vs hl _ ih=>cases hc with|agg _ hh=>exact .agg cs vs hl fun i x v h1 h2=>ih i x v h1 h2 (hh i x h1)
 |tup cs vs hl _ ih=>cases hc with|tup _ hh=>exact .tup cs vs hl fun i x v h1 h2=>ih i x v h1 h2 (hh i x h1)
 |sl full es base len cap s vs h1 h2 h3 h4 h5 _ hmax ih=>
  cases hc with
  |sl _ _ hh=>exact .sl full es base len cap s vs h1 h2 h3 (fun hne=>let⟨a,e1,e2,e3,e4⟩:=h4 hne;⟨a,e1,e2,.inl e3,e4⟩) h5 (fun k e j x g1 g2=>ih k e j x g1 g2 (hh k e j x g1 g2)) hmax
 |cptr cs a vs h1 h2 h3 _ ih=>cases hc with|cptr _ hh=>exact .cptr cs a vs h1 (.inl h2) h3 fun j x g=>ih j x g (hh j x g)
 |ref i v off val hi hv ho h=>cases hc with|ref _ _ _ hh=>exact .ref i v off val hh hv ho h
 |osl s i v off len lc val hi hv ho hmax h1 h2=>cases hc with|osl _ _ _ _ _ _ hh=>exact .osl s i v off len lc val hh hv ho hmax h1 h2
 |nilptr=>exact .nilptr
 |map i val hi ho h=>cases hc with|map _ hh=>exact .map i val hh ho h
 |nilmap=>exact .nilmap
 |iter i val hi ho h=>cases hc with|iter _ hh=>exact .iter i val hh ho h
 |func fn fs cs vf vc hf hcc _ _ ih1 ih2=>cases hc with|func _ _ _ g1 g2=>exact .func fn fs cs vf vc hf hcc (fun i x v h1 h2=>ih1 i x v h1 h2 (g1 i x h1)) (fun i x v h1 h2=>ih2 i x v h1 h2 (g2 i x h1))
 |nilfunc=>exact .nilfunc
 |iface t x v _ ih=>cases hc with|iface _ _ hh=>exact .iface t x v (ih hh)
 |nilIface=>exact .nilIface
 |opt g x v _ h2 ih=>cases hc with|opt _ _ hh=>exact .opt g x v (fun hg=>ih hg (hh hg)) h2
 |top v=>exact .top v
theorem Ext.drop{c c':Ctx}(h:Ext c c'):Ext c (c'.drop c.n):=
 ⟨zAb _,h.size,fun b hb=>⟨.inl (h.st b hb).1,(h.st b hb).2⟩,h.ver,h.blk,h.os,h.tape,h.output,h.base⟩
inductive Frz (n:Nat) (H:AHeap):AV→AV→Prop
 |cl (x:AV) (h:Cl n x):Frz n H x x
 |agg (cs ds:List AV) (hl:cs.length=ds.length) (h:∀(i:Nat) (x y:AV),cs[i]?=some x→ds[i]?=some y→Frz n H x y):Frz n H (.agg cs) (.agg ds)
 |tup (cs ds:List AV) (hl:cs.length=ds.length) (h:∀(i:Nat) (x y:AV),cs[i]?=some x→ds[i]?=some y→Frz n H x y):Frz n H (.tup cs) (.tup ds)
 |osl (s i v off len lc:Nat) (cs es:List AV) (hn:n≤i) (hh:hget H i=.cells v cs) (hl:es.length=len) (hle:off+len * s≤cs.length) (hs:∀e∈es,e.cells.length=s)
   (h:∀(k j:Nat) (e x y:AV),es[k]?=some e→e.cells[j]?=some y→cs[off+(k * s+j)]?=some x→Frz n H x y):Frz n H (.osl s i v off len lc) (.sl false es)
 |iface (t x y) (h:Frz n H x y):Frz n H (.iface t x) (.iface t y)
 |slw (full:Bool) (es:List AV) (h:Cl n (.sl full es)):Frz n H (.sl full es) (.sl false es)
 |ref (i v off:Nat) (cs ds:List AV) (hn:n≤i) (hh:hget H i=.cells v cs) (hle:off+ds.length≤cs.length) (h:∀(j:Nat) (x y:AV),cs[off+j]?=some x→ds[j]?=some y→Frz n H x y):Frz n H (.ref i v off) (.cptr ds)
 |func (fn:Fn) (fs cs fs' cs':List AV) (hf:fs.length=fs'.length) (hc:cs.length=cs'.length) (h1:∀(i:Nat) (x y:AV),fs[i]?=some x→fs'[i]?=some y→Frz n H x y) (h2:∀(i:Nat) (x y:AV),cs[i]?=some x→cs'[i]?=some y→Frz n H x y):Frz n H (.func fn fs cs) (.func fn fs' cs')
 |any (x:AV):Frz n H x .top
theorem Frz.sound{c:Ctx}{n:Nat}{H:AHeap}(hst:St c H){x y:AV}(h:Frz n H x y):∀{v:Value},Rep c x v→Rep (c.drop n) y v:=by
 induction h with
 |cl x h=>exact fun hr=>hr.drop h
 |agg cs ds hl _ ih=>
  intro v hr;obtain⟨vs,rfl,h1,h2⟩:=hr.agg_inv;refine .agg ds vs (by omega) fun i y v hy hv=>?_
  grind
 |tup cs ds hl _ ih=>
  intro v hr;obtain⟨vs,rfl,h1,h2⟩:=hr.tup_inv;refine .tup ds vs (by omega) fun i y v hy hv=>?_
  grind
 |osl s i v off len lc cs es hn hh hl hle hs _ ih=>
  intro val hr;have hver:=hst.ver_eq hh;obtain⟨base,cap,rfl,g1,g1',g2,g3⟩:=hr.osl_inv hver;have hin:i<c.n:=by rw[hst.n];exact bC hh trivial
  cases hd:c.vd i with
  |true=>
   obtain⟨rfl,rfl⟩:=g2 hd;have:es=[]:=zAu hl;subst this;exact .sl _ _ _ _ _ s (fun _ _=>undef) rfl (zAb _) (fun h=>by cases h) (fun h=>absurd rfl h) (by simp) (by simp) (by omega)
  |false=>
   obtain⟨p1,m,p2,p3⟩:=g3 hd;obtain⟨_,_,vs,e,fr,hb,hl',hf,hrr⟩:=hst.cells hh hd;refine .sl _ _ _ _ _ s (fun k j=>vs.getD (off+(k * s+j)) undef) hl.symm (by omega) (fun h=>by cases h) (fun hne=>?_) hs (fun k x j y hk hj=>?_) (by have:=hr.osl_R;omega)
   ·have hlen:0<len:=by rw[←hl];exact zAR.2 hne
    have hbase:base=some ⟨c.blk i,off,none⟩:=p1.resolve_left (by omega)
    refine⟨_,hbase,rfl,.inr ⟨i,hn,hin,hd,rfl⟩,fun k j hk hj=>?_⟩
    have h5:k * s+j<len * s:=by
     have:(k+1) * s≤len * s:=Nat.mul_le_mul_right s (by omega)
     rw[zBF]at this;omega
    have hlt:off+(k * s+j)<vs.size:=by omega
    rw[uM];show(c.w.cell? _)=_;rw[mA hb];simp[hlt]
   ·have hk':=(eT.1 hk).1;have hj':=(eT.1 hj).1;have hsz:=hs x (zAA hk);have h5:k * s+j<len * s:=by
     have:(k+1) * s≤len * s:=Nat.mul_le_mul_right s (by omega)
     rw[zBF]at this;omega
    have hc:cs[off+(k * s+j)]?=some (cs[off+(k * s+j)]'(by omega)):=zAd (by omega)
    refine ih k j x _ y hk hj hc (hrr _ _ _ hc ?_);simp[show off+(k * s+j)<vs.size by omega]
 |iface t x y _ ih=>
  intro v hr;cases hr with
  |iface _ _ v' hv=>exact .iface t y v' (ih hv)
 |slw full es h=>
  intro v hr;have hd:=hr.drop h;cases hd with
  |sl _ _ base len cap s vs h1 h2 h3 h4 h5 h6 h7=>exact .sl false es base len cap s vs h1 h2 (fun h=>by cases h) h4 h5 h6 h7
 |ref i v off cs ds hn hh hle _ ih=>
  intro val hr;have hver:=hst.ver_eq hh;have hin:i<c.n:=by rw[hst.n];exact bC hh trivial
  cases hr with
  |ref _ _ _ _ _ _ _ hval=>
   obtain⟨hd,rfl⟩:=hval hver;obtain⟨_,_,vs,e,fr,hb,hl',hf,hrr⟩:=hst.cells hh hd;refine .cptr ds _ (fun j=>vs.getD (off+j) undef) rfl (.inr ⟨i,hn,hin,hd,rfl⟩) (fun j hj=>?_) (fun j y hj=>?_)
   ·have hlt:off+j<vs.size:=by omega
    rw[uM];show(c.w.cell? _)=_;rw[mA hb];simp[hlt]
   ·have hj':=(eT.1 hj).1;have hx:cs[off+j]?=some (cs[off+j]'(by omega)):=zAd (by omega)
    refine ih j _ y hx hj (hrr _ _ _ hx ?_);simp[show off+j<vs.size by omega]
 |func fn fs cs fs' cs' hf hc _ _ ih1 ih2=>
  intro v hr;cases hr with
  |func _ _ _ vf vc g1 g2 r1 r2=>
   refine .func fn fs' cs' vf vc (by omega) (by omega) (fun i y u hy hu=>?_) (fun i y u hy hu=>?_)
   ·have hlt:=(eT.1 hy).1;have hx:fs[i]?=some (fs[i]'(by omega)):=zAd (by omega)
    exact ih1 i _ y hx hy (r1 i _ u hx hu)
   ·have hlt:=(eT.1 hy).1;have hx:cs[i]?=some (cs[i]'(by omega)):=zAd (by omega)
    exact ih2 i _ y hx hy (r2 i _ u hx hu)
 |any x=>exact fun _=>.top _
theorem St.drop{c c₀:Ctx}{H L:AHeap}(h0:St c₀ H)(_:Ext c₀ c)(hst:St c (H++L)):St (c.drop c₀.n) H where
 gl:=hst.gl.drop _
 n:=h0.n
 lt:=fun i hi hd=>by
  have hi':i<c₀.n:=hi;have:=h0.n;exact hst.lt i (by rw[hst.n];simp;omega) hd
 inj:=fun i j b b' hi hj hb hb' di dj he=>by
  have h1:=(eT.1 hi).1;have h2:=(eT.1 hj).1;exact hst.inj i j b b' (by grind) (by grind) hb hb' di dj he
 st:=fun k hk=>by
  have hn0:=h0.n;have hn:=hst.n;rcases hk with hk|⟨i,h1,h2,h3,rfl⟩
  ·obtain⟨g1,g2⟩:=hst.st k hk;refine⟨g1,fun i b hi hb hd=>?_⟩
   have h1:=(eT.1 hi).1;exact g2 i b (by rw[zAf h1];exact hi) hb hd
  ·refine⟨hst.lt i h2 h3,fun j b hj hb hd e=>?_⟩
   have hj':=(eT.1 hj).1;have hi:(H++L)[i]?=some ((H++L)[i]'(by rw[←hn];exact h2)):=zAd _
   have hbi:=hst.rep i _ hi;have hlive:((H++L)[i]'(by rw[←hn];exact h2)).live:=by
    generalize(H++L)[i]'(by rw[←hn];exact h2)=B at hbi
    cases hbi with
    |gone hd'=>rw[h3]at hd';cases hd'
    |_=>trivial
   have:=hst.inj j i b _ (by rw[zAf hj'];exact hj) hi hb hlive hd h3 e
   omega
 rep:=fun i b hi=>by
  have hi':=(eT.1 hi).1;have hn0:=h0.n;have h1:=hst.rep i b (by rw[zAf hi'];exact hi)
  have h2:=h0.rep i b hi;cases h1 with
  |cells ver cs vs e fr hv hd hh hl hf hr=>
   refine .cells ver cs vs e fr hv hd hh hl hf fun j x v hx hv'=>(hr j x v hx hv').drop ?_
   cases h2 with
   |cells _ _ vs' e' fr' _ _ _ hl' _ hr'=>
    have hj:=(eT.1 hx).1;exact(hr' j x _ hx (zAZ (by omega))).cl
   |void=>simp at hx
  |void ver hv hd=>exact .void ver hv hd
  |map es clock ents hv hd hh hl hr=>
   refine .map es clock ents hv hd hh hl fun j p e hp he=>?_
   obtain⟨g1,g2,g3⟩:=hr j p e hp he;cases h2 with
   |map _ _ ents' _ _ _ hl' hr'=>
    have hj:=(eT.1 hp).1;obtain⟨q1,q2, -⟩:=hr' j p _ hp (zAZ (by omega))
    exact⟨g1.drop q1.cl,g2.drop q2.cl,g3⟩
  |miter m since seen stepped hv hd hm hmv hmd hh=>
   cases h2 with
   |miter _ _ _ _ _ _ hm'=>exact .miter m since seen stepped hv hd hm' hmv hmd hh
  |siter s pos hv hd hh hsl=>exact .siter s pos hv hd hh hsl
  |loop l α N st pe ps ars bd fn D ts hv hd hl hh hN hr=>
   cases h2 with
   |loop _ _ _ _ _ _ _ _ _ _ _ _ _ _ _ _ hr'=>exact .loop l α N st pe ps ars bd fn D ts hv hd hl hh hN fun t=>(hr t).drop (hr' t).cl
  |gone hd=>exact .gone hd
theorem aCS{f:FuncId}{fn:Func}{code:Code}{args:List AV}{H:AHeap}{R:AV→Prop}(hf:P.funcs[f]?=some fn)(hb:fn.body=some code)(hn:args.length≤fn.ntmps)
  (h:aw P fn.ntmps code (lN P fn.results.toList fun v H'=>∃L y,H'=H++L∧Frz H.length H' v y∧R y) (cG 0 args) H):ACalls P f args H (fun y H'=>R y∧H'=H):=by
 intro c vs hs ha;refine(fG hf hb hn h c vs hs ha).mono fun e w' ⟨c',x,v,H',e1,e2,e3,e4,e5,L,y,e6,e7,e8⟩=>?_
 subst e6;refine⟨c'.drop c.n,y,v,H,e1,e2,hs.drop e4 e3,e4.drop,?_,e8,rfl⟩;have:=e7.sound e3 e5;rwa[←hs.n]at this
end
section
variable {P:Program}
section
variable (v:AV)
@[go_sem] theorem aNf(t:Tmp):gev (.tmp t) v=v:=rfl
@[go_sem] theorem aJ5(c:Value):gev (.const c) v=v:=rfl
@[go_sem] theorem aLv(f:FuncId):gev (.func f) v=v:=rfl
@[go_sem] theorem aJ6:gev (.global 0) v=.cptr [.int .u32 0,.int .u32 79764919]:=rfl
end
theorem cJ{N:Nat}{x:Operand}{y z:Code}{Q:aT}{α:AF}{H:AHeap}{b:Bool}(hx:ev α x=.bool b)(h1:b=true→aw P N y Q α H)(h2:b=false→aw P N z Q α H):aw P N (.cond x y z) Q α H:=by
 intro r c a hr hs ha;have:=uL ha x;rw[hx]at this;exact wpIn_cond_split this.bool_inv (fun hb=>h1 hb r c a (fl2 hr).1 hs ha) (fun hb=>h2 hb r c a (fl2 hr).2 hs ha)
@[go_sem] theorem aFl(N:Nat)(y:Code)(Q:aT)(α:AF)(H:AHeap):mP P N y Q .normal α H=aw P N y Q α H:=rfl
@[go_sem] theorem aJ7(N:Nat)(y:Code)(Q:aT)(α:AF)(H:AHeap):mP P N y Q .ret α H=Q .ret α H:=rfl
@[go_sem] theorem aHZ(N i:Nat)(y:Code)(Q:aT)(α:AF)(H:AHeap):mP P N y Q (.exit i) α H=Q (.exit i) α H:=rfl
@[go_sem] theorem aEz(i:Nat)(Q:aT)(α:AF)(H:AHeap):fQ i Q .normal α H=Q .normal α H:=rfl
@[go_sem] theorem aH0(i:Nat)(Q:aT)(α:AF)(H:AHeap):fQ i Q .ret α H=Q .ret α H:=rfl
@[go_sem] theorem aGV(i j:Nat)(Q:aT)(α:AF)(H:AHeap):fQ i Q (.exit j) α H=if j=i then Q .normal α H else Q (.exit j) α H:=by
 simp only[fQ];by_cases h:j=i<;>simp[h]
attribute [go_sem] aO0 lN dS jR mW List.map_cons List.map_nil cG
@[go_sem] theorem sX(d:Nat)(v:AV)(α:AF)(t:Nat):look ((d,v)::α) t=if d=t then v else look α t:=by
 simp only[look];by_cases h:d=t
 ·simp[h]
 ·have hb:(d==t)=false:=by simpa using h
  simp[h,hb]
@[go_sem] theorem aLw(t:Nat):look [] t=.top:=rfl
attribute [go_sem] aX ev cN aM7 if_true if_false
@[go_sem] theorem aH1(n:Int)(h1: -9223372036854775808≤n)(h2:n≤9223372036854775807):cZ (.int .i64 n)=.int .i64 n:=by
 have:vY .i64 n=true:=lZ.2 (aAG.2 ⟨h1,h2⟩);simp[cZ,this]
@[go_sem] theorem aJ8(n:Int)(h1:0≤n)(h2:n≤255):cZ (.int .u8 n)=.int .u8 n:=by
 have:vY .u8 n=true:=lZ.2 (aCx.2 ⟨h1,h2⟩);simp[cZ,this]
@[go_sem] theorem aH2(n:Int)(h1: -2147483648≤n)(h2:n≤2147483647):cZ (.int .i32 n)=.int .i32 n:=by
 have:vY .i32 n=true:=lZ.2 (aE1.2 ⟨h1,h2⟩);simp[cZ,this]
@[go_sem] theorem aH3(n:Int)(h1:0≤n)(h2:n≤18446744073709551615):cZ (.int .u64 n)=.int .u64 n:=by
 have:vY .u64 n=true:=lZ.2 ⟨h1,h2⟩;simp[cZ,this]
@[go_sem] theorem aH4(n:Int)(h1:0≤n)(h2:n≤4294967295):cZ (.int .u32 n)=.int .u32 n:=by
 have:vY .u32 n=true:=lZ.2 ⟨h1,h2⟩;simp[cZ,this]
@[go_sem] theorem aH5(n:Int)(h1:0≤n)(h2:n≤65535):cZ (.int .u16 n)=.int .u16 n:=by
 have:vY .u16 n=true:=lZ.2 ⟨h1,h2⟩;simp[cZ,this]
@[go_sem] theorem aGW(b:Bool):cZ (.bool b)=.bool b:=rfl
@[go_sem] theorem aEA:cZ (.pointer none)=.nilptr:=rfl
@[go_sem] theorem aFm:cZ (.slice none 0 0)=.sl true []:=rfl
@[go_sem] theorem aEB:cZ (.map none)=.nilmap:=rfl
@[go_sem] theorem aCT:cZ .nilFunc=.nilfunc:=rfl
@[go_sem] theorem aFn:cZ .nilIface=.nilIface:=rfl
@[go_sem] theorem aH6(s:ByteArray)(h:s.data.toList.length≤9223372036854775807):cZ (.string s)=.str s.data.toList:=by
 have:Nat.ble s.data.toList.length 9223372036854775807=true:=Nat.ble_eq_true_of_le h;simp only[cZ,this,cond_true]
@[go_sem] theorem aH7{α:Type}(l:List α):(l.toArray).toList=l:=rfl
def fB:Op→Bool
 |.pick _ _ _=>false
 |.call ⟨.builtin _,_,_⟩=>true
 |.call _=>false
 |.next _ b=>b
 |.binOp _ _ _ _ _=>false
 |_=>true
def eG:Op→Bool
 |.pick _ _ _=>false
 |.call ⟨.builtin _,_,_⟩=>true
 |.call _=>false
 |_=>true
theorem bM{b:Bool}(h:b=true):b=true:=h
def jS(op:Op):List Operand:=op.operands.toList
@[go_sem] theorem aJ9(x:Operand):fB (.move x)=true:=bM rfl
@[go_sem] theorem aKa(x:Operand):eG (.move x)=true:=bM rfl
@[go_sem] theorem aLx(x:Operand):jS (.move x)=[x]:=rfl
@[go_sem] theorem aGX(x:Operand):fB (.assign x)=true:=bM rfl
@[go_sem] theorem aGY(x:Operand):eG (.assign x)=true:=bM rfl
@[go_sem] theorem aH8(x:Operand):jS (.assign x)=[x]:=rfl
@[go_sem] theorem aH9(t:TypeId):fB (.alloc t)=true:=bM rfl
@[go_sem] theorem aIa(t:TypeId):eG (.alloc t)=true:=bM rfl
@[go_sem] theorem aKb(t:TypeId):jS (.alloc t)=[]:=rfl
@[go_sem] theorem aLy(t:TypeId)(x:Operand):fB (.box t x)=true:=bM rfl
@[go_sem] theorem aLz(t:TypeId)(x:Operand):eG (.box t x)=true:=bM rfl
@[go_sem] theorem aNg(t:TypeId)(x:Operand):jS (.box t x)=[x]:=rfl
@[go_sem] theorem aIb(t:TypeId)(ps:Array (Nat×Operand)):fB (.build t ps)=true:=bM rfl
@[go_sem] theorem aIc(t:TypeId)(ps:Array (Nat×Operand)):eG (.build t ps)=true:=bM rfl
@[go_sem] theorem aKc(t:TypeId)(ps:Array (Nat×Operand)):jS (.build t ps)=(ps.toList.map (·.2)):=rfl
@[go_sem] theorem aCt(t:TypeId)(n:Nat)(ps:Array (Nat×Operand)):fB (.buildSlice t n ps)=true:=bM rfl
@[go_sem] theorem aCu(t:TypeId)(n:Nat)(ps:Array (Nat×Operand)):eG (.buildSlice t n ps)=true:=bM rfl
@[go_sem] theorem aCU(t:TypeId)(n:Nat)(ps:Array (Nat×Operand)):jS (.buildSlice t n ps)=(ps.toList.map (·.2)):=rfl
@[go_sem] theorem aKd(t:TypeId)(x:Operand):fB (.load t x)=true:=bM rfl
@[go_sem] theorem aKe(t:TypeId)(x:Operand):eG (.load t x)=true:=bM rfl
@[go_sem] theorem aLA(t:TypeId)(x:Operand):jS (.load t x)=[x]:=rfl
@[go_sem] theorem aId(t:TypeId)(x y:Operand):fB (.store t x y)=true:=bM rfl
@[go_sem] theorem aIe(t:TypeId)(x y:Operand):eG (.store t x y)=true:=bM rfl
@[go_sem] theorem aKf(t:TypeId)(x y:Operand):jS (.store t x y)=[x,y]:=rfl
@[go_sem] theorem aEC(x:Operand):fB (.nilCheck x)=true:=bM rfl
@[go_sem] theorem aED(x:Operand):eG (.nilCheck x)=true:=bM rfl
@[go_sem] theorem aFo(x:Operand):jS (.nilCheck x)=[x]:=rfl
@[go_sem] theorem aIf(op:BinOp)(t t':TypeId)(x y:Operand):eG (.binOp op t x y t')=true:=bM rfl
@[go_sem] theorem aKg(op:BinOp)(t t':TypeId)(x y:Operand):jS (.binOp op t x y t')=[x,y]:=rfl
@[go_sem] theorem aKh(op:UnOp)(t:TypeId)(x:Operand):fB (.unOp op t x)=true:=bM rfl
@[go_sem] theorem aKi(op:UnOp)(t:TypeId)(x:Operand):eG (.unOp op t x)=true:=bM rfl
@[go_sem] theorem aLB(op:UnOp)(t:TypeId)(x:Operand):jS (.unOp op t x)=[x]:=rfl
@[go_sem] theorem aFp(s d:TypeId)(x:Operand):fB (.convert s d x)=true:=bM rfl
@[go_sem] theorem aFq(s d:TypeId)(x:Operand):eG (.convert s d x)=true:=bM rfl
@[go_sem] theorem aGZ(s d:TypeId)(x:Operand):jS (.convert s d x)=[x]:=rfl
@[go_sem] theorem aIg(t:TypeId)(x:Operand):fB (.makeInterface t x)=true:=bM rfl
@[go_sem] theorem aIh(t:TypeId)(x:Operand):eG (.makeInterface t x)=true:=bM rfl
@[go_sem] theorem aKj(t:TypeId)(x:Operand):jS (.makeInterface t x)=[x]:=rfl
@[go_sem] theorem aEE(fn:Go.Fn)(f cs:Array Operand):fB (.makeFunc fn f cs)=true:=bM rfl
@[go_sem] theorem aEF(fn:Go.Fn)(f cs:Array Operand):eG (.makeFunc fn f cs)=true:=bM rfl
@[go_sem] theorem aFr(fn:Go.Fn)(f cs:Array Operand):jS (.makeFunc fn f cs)=(f++cs).toList:=rfl
@[go_sem] theorem aIi(t:TypeId)(x:Operand)(lo hi mx:Option Operand):fB (.slice t x lo hi mx)=true:=bM rfl
@[go_sem] theorem aIj(t:TypeId)(x:Operand)(lo hi mx:Option Operand):eG (.slice t x lo hi mx)=true:=bM rfl
@[go_sem] theorem aKk(t:TypeId)(x:Operand)(lo hi mx:Option Operand):jS (.slice t x lo hi mx)=(#[x]++lo.toArray++hi.toArray++mx.toArray).toList:=rfl
@[go_sem] theorem aCV(t:TypeId)(x:Operand)(f:Nat):fB (.fieldAddr t x f)=true:=bM rfl
@[go_sem] theorem aCW(t:TypeId)(x:Operand)(f:Nat):eG (.fieldAddr t x f)=true:=bM rfl
@[go_sem] theorem aEG(t:TypeId)(x:Operand)(f:Nat):jS (.fieldAddr t x f)=[x]:=rfl
@[go_sem] theorem aIk(t:TypeId)(x:Operand)(f:Nat):fB (.field t x f)=true:=bM rfl
@[go_sem] theorem aIl(t:TypeId)(x:Operand)(f:Nat):eG (.field t x f)=true:=bM rfl
@[go_sem] theorem aKl(t:TypeId)(x:Operand)(f:Nat):jS (.field t x f)=[x]:=rfl
@[go_sem] theorem aCX(t:TypeId)(x i:Operand):fB (.indexAddr t x i)=true:=bM rfl
@[go_sem] theorem aCY(t:TypeId)(x i:Operand):eG (.indexAddr t x i)=true:=bM rfl
@[go_sem] theorem aEH(t:TypeId)(x i:Operand):jS (.indexAddr t x i)=[x,i]:=rfl
@[go_sem] theorem aIm(t:TypeId)(x i:Operand):fB (.index t x i)=true:=bM rfl
@[go_sem] theorem aIn(t:TypeId)(x i:Operand):eG (.index t x i)=true:=bM rfl
@[go_sem] theorem aKm(t:TypeId)(x i:Operand):jS (.index t x i)=[x,i]:=rfl
@[go_sem] theorem aCv(x:Operand)(u t:TypeId)(b:Bool):fB (.typeAssert x u t b)=true:=bM rfl
@[go_sem] theorem aCw(x:Operand)(u t:TypeId)(b:Bool):eG (.typeAssert x u t b)=true:=bM rfl
@[go_sem] theorem aCZ(x:Operand)(u t:TypeId)(b:Bool):jS (.typeAssert x u t b)=[x]:=rfl
@[go_sem] theorem aFs(x:Operand)(i:Nat):fB (.extract x i)=true:=bM rfl
@[go_sem] theorem aFt(x:Operand)(i:Nat):eG (.extract x i)=true:=bM rfl
@[go_sem] theorem aG0(x:Operand)(i:Nat):jS (.extract x i)=[x]:=rfl
@[go_sem] theorem aC0(t:TypeId)(x y:Operand):fB (.makeSlice t x y)=true:=bM rfl
@[go_sem] theorem aC1(t:TypeId)(x y:Operand):eG (.makeSlice t x y)=true:=bM rfl
@[go_sem] theorem aEI(t:TypeId)(x y:Operand):jS (.makeSlice t x y)=[x,y]:=rfl
@[go_sem] theorem aIo(t:TypeId)(x:Operand):fB (.range t x)=true:=bM rfl
@[go_sem] theorem aIp(t:TypeId)(x:Operand):eG (.range t x)=true:=bM rfl
@[go_sem] theorem aKn(t:TypeId)(x:Operand):jS (.range t x)=[x]:=rfl
@[go_sem] theorem aKo(x:Operand):fB (.next x true)=true:=bM rfl
@[go_sem] theorem aKp(x:Operand):eG (.next x true)=true:=bM rfl
@[go_sem] theorem aLC(x:Operand):jS (.next x true)=[x]:=rfl
@[go_sem] theorem aFu(b:Builtin)(xs:Array Operand)(ts:Array TypeId):fB (.call ⟨.builtin b,xs,ts⟩)=true:=bM rfl
@[go_sem] theorem aFv(b:Builtin)(xs:Array Operand)(ts:Array TypeId):eG (.call ⟨.builtin b,xs,ts⟩)=true:=bM rfl
@[go_sem] theorem aG1(b:Builtin)(xs:Array Operand)(ts:Array TypeId):jS (.call ⟨.builtin b,xs,ts⟩)=((#[]:Array Operand)++xs).toList:=rfl
@[go_sem] theorem aFw(t:TypeId):fB (.makeMap t none)=true:=bM rfl
@[go_sem] theorem aFx(t:TypeId):eG (.makeMap t none)=true:=bM rfl
@[go_sem] theorem aG2(t:TypeId):jS (.makeMap t none)=[]:=rfl
@[go_sem] theorem aG3(t:TypeId)(x y:Operand)(b:Bool):fB (.lookup t x y b)=true:=bM rfl
@[go_sem] theorem aG4(t:TypeId)(x y:Operand)(b:Bool):eG (.lookup t x y b)=true:=bM rfl
@[go_sem] theorem aIq(t:TypeId)(x y:Operand)(b:Bool):jS (.lookup t x y b)=[x,y]:=rfl
@[go_sem] theorem aIr(x:Operand):fB (.entry x)=true:=bM rfl
@[go_sem] theorem aIs(x:Operand):eG (.entry x)=true:=bM rfl
@[go_sem] theorem aKq(x:Operand):jS (.entry x)=[x]:=rfl
@[go_sem] theorem aC2(t:TypeId)(x y z:Operand):fB (.mapUpdate t x y z)=true:=bM rfl
@[go_sem] theorem aC3(t:TypeId)(x y z:Operand):eG (.mapUpdate t x y z)=true:=bM rfl
@[go_sem] theorem aEJ(t:TypeId)(x y z:Operand):jS (.mapUpdate t x y z)=[x,y,z]:=rfl
@[go_sem] theorem aG5(t:TypeId)(x y z:Operand):fB (.insert t x y z)=true:=bM rfl
@[go_sem] theorem aG6(t:TypeId)(x y z:Operand):eG (.insert t x y z)=true:=bM rfl
@[go_sem] theorem aIt(t:TypeId)(x y z:Operand):jS (.insert t x y z)=[x,y,z]:=rfl
attribute [go_sem] aF mU
@[go_sem] theorem aLD(s:List UInt8):aLr .string (.str s)=true:=bM rfl
@[go_sem] theorem aLE(k:IntKind)(n:Int):aLr (.int k) (.int k n)=true:=by simp[aLr]
section
variable (all os:List Oper) (α:AF) (H:AHeap) (k:AF→AHeap→Prop) (kp:AF→Prop) (dst:Option Tmp) (ty:TypeId) (pos:String) (after:Array Edge)
def aAM(P:Program)(all os:List Oper)(dst:Option Tmp)(α:AF)(k:AF→AHeap→Prop):AV→AHeap→Prop:=fun v H'=>dA P all os (aX dst v α) H' k
def aC4(P:Program)(all os:List Oper)(dst:Option Tmp)(g:Bool)(α:AF)(k:AF→AHeap→Prop):AV→AHeap→Prop:=fun v H=>dA P all os (aX dst (.opt g v) α) H k
def zH(P:Program)(all:List Oper)(H:AHeap)(os:List Oper)(dst:Option Tmp)(α:AF)(kp:AF→Prop):AV→Prop:=fun v=>cH P all H os (aX dst v α) kp
def zI(P:Program)(all:List Oper)(H:AHeap)(os:List Oper)(dst:Option Tmp)(g:Bool)(α:AF)(kp:AF→Prop):AV→Prop:=fun v=>cH P all H os (aX dst (.opt g v) α) kp
def aG7(P:Program)(all os:List Oper)(dst:Option Tmp)(α:AF)(H:AHeap)(k:AF→AHeap→Prop):AV→Prop:=fun v=>dA P all os (aX dst v α) H k
@[go_sem] theorem aLF:dA P all [] α H k=k α H:=rfl
@[go_sem] theorem aKr:cH P all H [] α kp=kp α:=rfl
@[go_sem] theorem aKs(x y z:Operand):dA P all (⟨dst,.pick x y z,ty,pos,after,none⟩::os) α H k=
  ((cV true (ev α x) (ev α y) (ev α z)).s∧dA P all os (aX dst (cV true (ev α x) (ev α y) (ev α z)).v α) H k):=rfl
@[go_sem] theorem aIu(f:Operand)(xs:Array Operand)(ts:Array TypeId):dA P all (⟨dst,.call ⟨.value f,xs,ts⟩,ty,pos,after,none⟩::os) α H k=
  gZ P (ev α f) (xs.toList.map (ev α)) H (aAM P all os dst α k):=rfl
@[go_sem] theorem aG8(r:Operand)(m:String)(xs:Array Operand)(ts:Array TypeId):dA P all (⟨dst,.call ⟨.invoke r m,xs,ts⟩,ty,pos,after,none⟩::os) α H k=
  gZ P (cC P m (ev α r)) (xs.toList.map (ev α)) H (aAM P all os dst α k):=rfl
@[go_sem] theorem aFy(r:Operand)(m:String)(xs:Array Operand)(ts:Array TypeId)(j:Nat)(w:Bool):dA P all (⟨dst,.call ⟨.invoke r m,xs,ts⟩,ty,pos,after,some (j,w)⟩::os) α H k=
  (kJ (aC α (bB all j))∧bS (aJ (aC α (bB all j)) w) α (r::xs.toList)∧
    sV P (aJ (aC α (bB all j)) w) (cC P m (cN α r)) (xs.toList.map (cN α)) H (aC4 P all os dst (aJ (aC α (bB all j)) w) α k)):=rfl
@[go_sem] theorem aFz(r:Operand)(m:String)(xs:Array Operand)(ts:Array TypeId):cH P all H (⟨dst,.call ⟨.invoke r m,xs,ts⟩,ty,pos,after,none⟩::os) α kp=
  gO P true (cC P m (ev α r)) (xs.toList.map (ev α)) H (zH P all H os dst α kp):=rfl
@[go_sem] theorem aEK(r:Operand)(m:String)(xs:Array Operand)(ts:Array TypeId)(j:Nat)(w:Bool):cH P all H (⟨dst,.call ⟨.invoke r m,xs,ts⟩,ty,pos,after,some (j,w)⟩::os) α kp=
  (kJ (aC α (bB all j))∧bS (aJ (aC α (bB all j)) w) α (r::xs.toList)∧
    gO P (aJ (aC α (bB all j)) w) (cC P m (cN α r)) (xs.toList.map (cN α)) H (zI P all H os dst (aJ (aC α (bB all j)) w) α kp)):=rfl
@[go_sem] theorem aIv(x y z:Operand)(j:Nat)(w:Bool):dA P all (⟨dst,.pick x y z,ty,pos,after,some (j,w)⟩::os) α H k=
  (kJ (aC α (bB all j))∧((aJ (aC α (bB all j)) w)=true→(cV (aJ (aC α (bB all j)) w) (ev α x) (ev α y) (ev α z)).s)∧
    dA P all os (aX dst (.opt (aJ (aC α (bB all j)) w) (cV (aJ (aC α (bB all j)) w) (ev α x) (ev α y) (ev α z)).v) α) H k):=rfl
@[go_sem] theorem aG9(f:Operand)(xs:Array Operand)(ts:Array TypeId)(j:Nat)(w:Bool):dA P all (⟨dst,.call ⟨.value f,xs,ts⟩,ty,pos,after,some (j,w)⟩::os) α H k=
  (kJ (aC α (bB all j))∧bS (aJ (aC α (bB all j)) w) α (f::xs.toList)∧
   sV P (aJ (aC α (bB all j)) w) (cN α f) (xs.toList.map (cN α)) H (aC4 P all os dst (aJ (aC α (bB all j)) w) α k)):=rfl
@[go_sem] theorem aIw(x y z:Operand):cH P all H (⟨dst,.pick x y z,ty,pos,after,none⟩::os) α kp=
  ((cV true (ev α x) (ev α y) (ev α z)).s∧cH P all H os (aX dst (cV true (ev α x) (ev α y) (ev α z)).v α) kp):=rfl
@[go_sem] theorem aHa(f:Operand)(xs:Array Operand)(ts:Array TypeId):cH P all H (⟨dst,.call ⟨.value f,xs,ts⟩,ty,pos,after,none⟩::os) α kp=
  gO P true (ev α f) (xs.toList.map (ev α)) H (zH P all H os dst α kp):=rfl
@[go_sem] theorem aHb(x y z:Operand)(j:Nat)(w:Bool):cH P all H (⟨dst,.pick x y z,ty,pos,after,some (j,w)⟩::os) α kp=
  (kJ (aC α (bB all j))∧((aJ (aC α (bB all j)) w)=true→(cV (aJ (aC α (bB all j)) w) (ev α x) (ev α y) (ev α z)).s)∧
    cH P all H os (aX dst (.opt (aJ (aC α (bB all j)) w) (cV (aJ (aC α (bB all j)) w) (ev α x) (ev α y) (ev α z)).v) α) kp):=rfl
@[go_sem] theorem aFA(f:Operand)(xs:Array Operand)(ts:Array TypeId)(j:Nat)(w:Bool):cH P all H (⟨dst,.call ⟨.value f,xs,ts⟩,ty,pos,after,some (j,w)⟩::os) α kp=
  (kJ (aC α (bB all j))∧bS (aJ (aC α (bB all j)) w) α (f::xs.toList)∧
   gO P (aJ (aC α (bB all j)) w) (cN α f) (xs.toList.map (cN α)) H (zI P all H os dst (aJ (aC α (bB all j)) w) α kp)):=rfl
@[go_sem] theorem aKt(x:Operand):dA P all (⟨dst,.next x false,ty,pos,after,none⟩::os) α H k=aGT (ev α x) H (aAM P all os dst α k):=rfl
@[go_sem] theorem aIx(op:BinOp)(t t':TypeId)(x y:Operand):dA P all (⟨dst,.binOp op t x y t',ty,pos,after,none⟩::os) α H k=
  bif eK op&&iY y then aCO P t H (ev α x) (aG7 P all os dst α H k)
  else((aCE P (isK x||isK y) op t (ev α x) (ev α y)).s∧dA P all os (aX dst (aCE P (isK x||isK y) op t (ev α x) (ev α y)).v α) H k):=rfl
@[go_sem] theorem aLG(op:Op)(h:fB op=true):dA P all (⟨dst,op,ty,pos,after,none⟩::os) α H k=
  ((aF P op (ev α) H).s∧dA P all os (aX dst (aF P op (ev α) H).v α) (aF P op (ev α) H).H k):=by
 cases op<;>first|rfl|(cases h;done)|skip
 ·rename_i x b;cases b<;>first|rfl|cases h
 ·rename_i c;obtain⟨ce,xs,ts⟩:=c;cases ce<;>first|rfl|cases h
@[go_sem] theorem aKu(op:Op)(j:Nat)(w:Bool)(h:eG op=true):dA P all (⟨dst,op,ty,pos,after,some (j,w)⟩::os) α H k=
  (kJ (aC α (bB all j))∧bS (aJ (aC α (bB all j)) w) α (jS op)∧(aJ (aC α (bB all j)) w=true→(aF P op (cN α) H).s∧(aF P op (cN α) H).H=H)∧
   dA P all os (aX dst (.opt (aJ (aC α (bB all j)) w) (aF P op (cN α) H).v) α) H k):=by
 cases op<;>first|rfl|(cases h;done)|skip
 rename_i c;obtain⟨ce,xs,ts⟩:=c;cases ce<;>first|rfl|cases h
@[go_sem] theorem aKv(op:Op)(h:eG op=true):cH P all H (⟨dst,op,ty,pos,after,none⟩::os) α kp=
  ((aF P op (ev α) H).s∧(aF P op (ev α) H).H=H∧cH P all H os (aX dst (aF P op (ev α) H).v α) kp):=by
 cases op<;>first|rfl|(cases h;done)|skip
 rename_i c;obtain⟨ce,xs,ts⟩:=c;cases ce<;>first|rfl|cases h
@[go_sem] theorem aIy(op:Op)(j:Nat)(w:Bool)(h:eG op=true):cH P all H (⟨dst,op,ty,pos,after,some (j,w)⟩::os) α kp=
  (kJ (aC α (bB all j))∧bS (aJ (aC α (bB all j)) w) α (jS op)∧(aJ (aC α (bB all j)) w=true→(aF P op (cN α) H).s∧(aF P op (cN α) H).H=H)∧
   cH P all H os (aX dst (.opt (aJ (aC α (bB all j)) w) (aF P op (cN α) H).v) α) kp):=by
 cases op<;>first|rfl|(cases h;done)|skip
 rename_i c;obtain⟨ce,xs,ts⟩:=c;cases ce<;>first|rfl|cases h
end
attribute [go_sem] true_and and_true implies_true and_self not_true_eq_false Bool.not_true Bool.not_false eq_self decide_true decide_false Bool.true_eq_false Bool.false_eq_true
 List.getD_cons_zero List.getD_cons_succ List.getD_nil List.set_cons_zero List.set_cons_succ zAt List.length_nil zAa zAe List.cons_append zAJ zAj
 List.drop_zero List.drop_succ_cons List.drop_nil zAS zAD List.take_nil zBL Option.map_none zBn Nat.add_zero Nat.add_assoc
 List.size_toArray List.toList_toArray Int.toNat_natCast zA6 Array.toList_empty
@[go_sem] theorem fU(h L:AHeap):hget (h++L) h.length=L.getD 0 .gone:=by
 simp only[hget,zAm];rw[zAw (zAb _)];simp
@[go_sem] theorem jF(h L:AHeap)(k:Nat):hget (h++L) (h.length+k)=L.getD k .gone:=by
 simp only[hget,zAm];rw[zAw (by omega)];simp
@[go_sem] theorem nW(h L:AHeap)(b:ABlk):aA (h++L) h.length b=h++L.set 0 b:=by
 simp[aA]
@[go_sem] theorem mX(h L:AHeap)(k:Nat)(b:ABlk):aA (h++L) (h.length+k) b=h++L.set k b:=by
 simp[aA]
section
variable (P) (t:TypeId) (k:IntKind) (a b:Int) (s u:List UInt8) (x y:Bool)
@[go_sem] theorem aLH:cL P .add t (.int k a) (.int k b)=⟨.int k (k.wrap (a+b)),True⟩:=by simp[cL,dI]
@[go_sem] theorem aLI:cL P .sub t (.int k a) (.int k b)=⟨.int k (k.wrap (a-b)),True⟩:=by simp[cL,dI]
@[go_sem] theorem aLJ:cL P .mul t (.int k a) (.int k b)=⟨.int k (k.wrap (a * b)),True⟩:=by simp[cL,dI]
@[go_sem] theorem aLK:cL P .quo t (.int k a) (.int k b)=⟨.int k (k.wrap (a.tdiv b)),b≠0⟩:=by simp[cL,dI]
@[go_sem] theorem aLL:cL P .rem t (.int k a) (.int k b)=⟨.int k (a.tmod b),b≠0⟩:=by simp[cL,dI]
@[go_sem] theorem aLM:cL P .and t (.int k a) (.int k b)=⟨.int k (aY .and k a b),True⟩:=by simp[cL,dI]
@[go_sem] theorem aNh:cL P .or t (.int k a) (.int k b)=⟨.int k (aY .or k a b),True⟩:=by simp[cL,dI]
@[go_sem] theorem aLN:cL P .xor t (.int k a) (.int k b)=⟨.int k (aY .xor k a b),True⟩:=by simp[cL,dI]
@[go_sem] theorem aLO:cL P .eql t (.int k a) (.int k b)=⟨.bool (decide (a=b)),True⟩:=by simp[cL,dI]
@[go_sem] theorem aLP:cL P .neq t (.int k a) (.int k b)=⟨.bool (!decide (a=b)),True⟩:=by simp[cL,dI]
@[go_sem] theorem aLQ:cL P .lss t (.int k a) (.int k b)=⟨.bool (decide (a<b)),True⟩:=by simp[cL,dI]
@[go_sem] theorem aLR:cL P .leq t (.int k a) (.int k b)=⟨.bool (decide (a≤b)),True⟩:=by simp[cL,dI]
@[go_sem] theorem aLS:cL P .gtr t (.int k a) (.int k b)=⟨.bool (decide (b<a)),True⟩:=by simp[cL,dI]
@[go_sem] theorem aLT:cL P .geq t (.int k a) (.int k b)=⟨.bool (decide (b≤a)),True⟩:=by simp[cL,dI]
@[go_sem] theorem aLU(k':IntKind):cL P .shl t (.int k a) (.int k' b)=⟨.int k (k.wrap (a * 2 ^ (min b.toNat k.bits))),0≤b⟩:=by simp[cL,dI]
@[go_sem] theorem aLV(k':IntKind):cL P .shr t (.int k a) (.int k' b)=⟨.int k (a.fdiv (2 ^ (min b.toNat k.bits))),0≤b⟩:=by simp[cL,dI]
@[go_sem] theorem aKw:cL P .add t (.str s) (.str u)=⟨.str (s++u),s.length+u.length≤9223372036854775807⟩:=by simp[cL,aAH]
@[go_sem] theorem aKx:cL P .eql t (.str s) (.str u)=⟨.bool (decide (s=u)),True⟩:=by simp[cL,aAH]
@[go_sem] theorem aKy:cL P .neq t (.str s) (.str u)=⟨.bool (!decide (s=u)),True⟩:=by simp[cL,aAH]
@[go_sem] theorem aKz:cL P .eql t (.bool x) (.bool y)=⟨.bool (x==y),P.underlying t=some .bool⟩:=by simp[cL]
@[go_sem] theorem aKA:cL P .neq t (.bool x) (.bool y)=⟨.bool (!(x==y)),P.underlying t=some .bool⟩:=by simp[cL]
@[go_sem] theorem aKB(xs ys:List AV):cL P .eql t (.agg xs) (.agg ys)=⟨.bool (aEq P 30 t (.agg xs) (.agg ys)).b,P.eqGuardType P.depth t=false∧(aEq P 30 t (.agg xs) (.agg ys)).s⟩:=by simp[cL]
@[go_sem] theorem aKC(xs ys:List AV):cL P .neq t (.agg xs) (.agg ys)=⟨.bool (!(aEq P 30 t (.agg xs) (.agg ys)).b),P.eqGuardType P.depth t=false∧(aEq P 30 t (.agg xs) (.agg ys)).s⟩:=by simp[cL]
end
@[go_sem] theorem aKD(cs:List AV):(AV.agg cs).cells=cs:=rfl
@[go_sem] theorem aKE(k:IntKind)(n:Int):AV.cells (.int k n)=[.int k n]:=rfl
@[go_sem] theorem aIz(b:Bool):AV.cells (.bool b)=[.bool b]:=rfl
@[go_sem] theorem aKF(s:List UInt8):AV.cells (.str s)=[.str s]:=rfl
@[go_sem] theorem aKG(cs:List AV):AV.cells (.tup cs)=[.tup cs]:=rfl
@[go_sem] theorem aLW(f:Bool)(es:List AV):AV.cells (.sl f es)=[.sl f es]:=rfl
@[go_sem] theorem aIA(cs:List AV):AV.cells (.cptr cs)=[.cptr cs]:=rfl
@[go_sem] theorem aKH(i v o:Nat):AV.cells (.ref i v o)=[.ref i v o]:=rfl
@[go_sem] theorem aKI(a b c d e f:Nat):AV.cells (.osl a b c d e f)=[.osl a b c d e f]:=rfl
@[go_sem] theorem aFB:AV.cells (.nilptr)=[.nilptr]:=rfl
@[go_sem] theorem aKJ(i:Nat):AV.cells (.map i)=[.map i]:=rfl
@[go_sem] theorem aFC:AV.cells (.nilmap)=[.nilmap]:=rfl
@[go_sem] theorem aIB(i:Nat):AV.cells (.iter i)=[.iter i]:=rfl
@[go_sem] theorem aIC(f:Fn)(a b:List AV):AV.cells (.func f a b)=[.func f a b]:=rfl
@[go_sem] theorem aEL:AV.cells (.nilfunc)=[.nilfunc]:=rfl
@[go_sem] theorem aHc(t:TypeId)(x:AV):AV.cells (.iface t x)=[.iface t x]:=rfl
@[go_sem] theorem aC5:AV.cells (.nilIface)=[.nilIface]:=rfl
@[go_sem] theorem aKK(g:Bool)(x:AV):AV.cells (.opt g x)=[.opt g x]:=rfl
@[go_sem] theorem aKL:AV.cells (.top)=[.top]:=rfl
@[go_sem] theorem aKM{α:Type}:(none:Option α).toArray.toList=[]:=rfl
@[go_sem] theorem aKN{α:Type}(x:α):(some x).toArray.toList=[x]:=rfl
@[go_sem] theorem aKO:eK .eql=true:=rfl
@[go_sem] theorem aKP:eK .neq=false:=rfl
@[go_sem] theorem aKQ:eK .add=false:=rfl
@[go_sem] theorem aKR:eK .sub=false:=rfl
@[go_sem] theorem aKS:eK .mul=false:=rfl
@[go_sem] theorem aKT:eK .quo=false:=rfl
@[go_sem] theorem aKU:eK .rem=false:=rfl
@[go_sem] theorem aKV:eK .and=false:=rfl
@[go_sem] theorem aLX:eK .or=false:=rfl
@[go_sem] theorem aKW:eK .xor=false:=rfl
@[go_sem] theorem aFD:eK .andNot=false:=rfl
@[go_sem] theorem aKX:eK .shl=false:=rfl
@[go_sem] theorem aKY:eK .shr=false:=rfl
@[go_sem] theorem aKZ:eK .lss=false:=rfl
@[go_sem] theorem aK0:eK .leq=false:=rfl
@[go_sem] theorem aK1:eK .gtr=false:=rfl
@[go_sem] theorem aK2:eK .geq=false:=rfl
@[go_sem] theorem aID(t:Nat):iY (.tmp t)=false:=rfl
@[go_sem] theorem aEM(t:Nat):iY (.global t)=false:=rfl
@[go_sem] theorem aHd(t:Nat):iY (.func t)=false:=rfl
@[go_sem] theorem aFE(v:Value):iY (.const v)=gB v:=rfl
@[go_sem] theorem aIE(k:IntKind)(n:Int):gB (.int k n)=false:=rfl
@[go_sem] theorem aHe(b:Bool):gB (.bool b)=false:=rfl
@[go_sem] theorem aIF(s:ByteArray):gB (.string s)=false:=rfl
@[go_sem] theorem aHf:gB .nilIface=false:=rfl
@[go_sem] theorem aHg:gB .nilFunc=false:=rfl
@[go_sem] theorem aIG(a:Option Addr):gB (.pointer a)=false:=rfl
@[go_sem] theorem aIH(a:Option Nat):gB (.map a)=false:=rfl
@[go_sem] theorem aII(a:Array Value):gB (.agg a)=false:=rfl
@[go_sem] theorem aK3:gB (.slice none 0 0)=true:=rfl
attribute [go_sem] aCO
attribute [go_sem] aHW aO9 isK aN0 aCE zB aO4 aNU aNV aNW aLq cC aCC aFc aNY aNX fR aO5 aNa aO6 aNb aO7 aFd aO8 bad aPQ aLs aNZ
section
variable {P:Program}
@[go_sem] theorem aFF(ts tx:TypeId)(f:Bool)(x:AV)(H:AHeap):mS P ts tx (.sl f []) x H=gP P ts tx (.sl f []) x H:=rfl
@[go_sem] theorem aFG(ts tx:TypeId)(s i v o l c:Nat)(x:AV)(H:AHeap):mS P ts tx (.osl s i v o l c) x H=gP P ts tx (.osl s i v o l c) x H:=rfl
@[go_sem] theorem aEN(ts tx:TypeId)(f:Bool)(e0:AV)(es:List AV)(x:AV)(H:AHeap):mS P ts tx (.sl f (e0::es)) x H=(if cE x=0 then(match P.underlying ts with
   |some (.slice e)=>⟨.sl f (e0::es),H,jP P e=true∧jQ P tx=true∧oS x (P.cellsOf e) H⟩
   |_=>⟨.top,H,False⟩)else gP P ts tx (.sl f (e0::es)) x H):=rfl
end
section
@[go_sem] theorem aIJ(k:IntKind)(n:Int):qH (.int k n)=false:=rfl
@[go_sem] theorem aHh(b:Bool):qH (.bool b)=false:=rfl
@[go_sem] theorem aIK(s:List UInt8):qH (.str s)=false:=rfl
@[go_sem] theorem aIL(s:List AV):qH (.agg s)=false:=rfl
@[go_sem] theorem aFH(t:TypeId)(x:AV):qH (.iface t x)=false:=rfl
@[go_sem] theorem aIM:qH .nilIface=true:=rfl
end
@[go_sem] theorem aIN(cs:List AV)(n:Nat):bI cs n []=cs:=by simp[bI]
@[go_sem] theorem aHi(c x:AV)(cs xs:List AV):bI (c::cs) 0 (x::xs)=x::bI cs 0 xs:=by simp[bI]
@[go_sem] theorem aHj(c:AV)(cs xs:List AV)(n:Nat):bI (c::cs) (n+1) xs=c::bI cs n xs:=by
 simp[bI,Nat.add_right_comm n 1]
attribute [go_sem] aNS AV.known AV.one aAI aO2 qC qD qE mQ aCB aHU aHV aPP gP cE cI oS aPa aCK aCK.ofBRH aCB.arrOk u8N aPS aPT aCF aFg aPU aPV wC aCA aO3 aNT aCI aCL apart
 aun cV sU wD mB isB aJ kJ false_implies aCR aFk aBw aC bS bB aHT bad aEq aPO List.all_cons List.all_nil Bool.and_true zAE Bool.and_false zBx Bool.or_false Bool.or_true Bool.false_or Bool.true_or Bool.not_not
 zAF zBQ zBQ ge_iff_le gt_iff_lt beq_self_eq_true BEq.rfl zAC zBl forall_eq_or_imp forall_const or_false false_or ne_eq reduceCtorEq
@[go_sem] theorem aNi(a b:Nat):Nat.ble a b=decide (a≤b):=by
 rw[Bool.eq_iff_iff];simp
attribute [go_sem] aN1 fS aLu aNc aNd aN2
attribute [go_sem] decide_true decide_false Bool.cond_true Bool.cond_false
@[go_sem] theorem aN3{α:Type}(a b:α):(bif true then a else b)=a:=rfl
@[go_sem] theorem aN4{α:Type}(a b:α):(bif false then a else b)=b:=rfl
@[go_sem] theorem aLY(b x:Bool):(bif b then x else false)=(b&&x):=by cases b<;>rfl
@[go_sem] theorem aNj(b x:Bool):(bif b then true else x)=(b||x):=by cases b<;>rfl
@[go_sem] theorem aLZ(p:Prop):(p→p)=True:=by simp
@[go_sem] theorem aL0(a b:Bool):((a&&b)=true→a=true)=True:=by cases a<;>simp
@[go_sem] theorem aL1(a b:Bool):(a=true→b=true→(a&&b)=true)=True:=by cases a<;>simp
@[go_sem] theorem aL2(a b:Bool):(a=true→b=false→(a&& !b)=true)=True:=by cases a<;>simp
@[go_sem] theorem aNk(b:Bool):(b=false→(!b)=true)=True:=by simp
@[go_sem] theorem aL3(p:Prop):(True→p)=p:=by simp
@[go_sem] theorem aHk(p:Prop)[Decidable p]:(decide p=true)=p:=by simp
@[go_sem] theorem aHl(p:Prop)[Decidable p]:(decide p=false)=¬p:=by simp
@[go_sem] theorem aL4(b:Bool):((!b)=true)=(b=false):=by simp
@[go_sem] theorem aL5(b:Bool):((!b)=false)=(b=true):=by simp
@[go_sem] theorem aL6(a b:Bool):((a&&b)=true)=(a=true∧b=true):=by simp
@[go_sem] theorem aNl(a b:Bool):((a||b)=false)=(a=false∧b=false):=by simp
end
section
variable {P:Program}
theorem cS{f:FuncId}{args:List AV}{H:AHeap}{x:AV}{k:AV→AHeap→Prop}(h:bJ P f args H x)(ok:cF P f=true)(hk:k x H):gZ P (.func (.func f) [] []) args H k:=
 Or.inl ⟨ok,by
  simp only[zAJ,zAj];exact h.mono fun y H' ⟨e1,e2⟩=>by subst e1;subst e2;exact hk⟩
theorem aG{f:FuncId}{args:List AV}{H:AHeap}{R:AV→AHeap→Prop}{k:AV→AHeap→Prop}(h:ACalls P f args H R)(ok:cF P f=true)(hk:∀x H',R x H'→k x H'):gZ P (.func (.func f) [] []) args H k:=
 Or.inl ⟨ok,by
  simp only[zAJ,zAj];exact h.mono hk⟩
theorem dB{g:Bool}{f:FuncId}{args:List AV}{H:AHeap}{x:AV}{K:AV→Prop}(h:bJ P f args H x)(ok:cF P f=true)(hk:K x):gO P g (.func (.func f) [] []) args H K:=
 ⟨x,fun _=>Or.inl ⟨ok,by
  simp only[zAJ,zAj];exact h⟩,hk⟩
theorem aAN{l:Nat}{args:List AV}{H:AHeap}{K:AV→AHeap→Prop}(h:gZ P (.func (.yield l) [] []) args H K):sV P true (.func (.yield l) [] []) args H K:=Or.inr ⟨rfl,h⟩
theorem aAO{g:Bool}{f:AV}{args:List AV}{H:AHeap}{K:AV→AHeap→Prop}(h:gO P g f args H (fun v=>K v H)):sV P g f args H K:=Or.inl h
theorem aIO{f:FuncId}{fn:Func}{code:Code}{args:List AV}{H:AHeap}{x:AV}(hf:P.funcs[f]?=some fn)(hb:fn.body=some code)(hn:args.length≤fn.ntmps)
  (h:aw P fn.ntmps code (lN P fn.results.toList fun v H'=>∃L y,H'=H++L∧Frz H.length H' v y∧y=x) (cG 0 args) H):bJ P f args H x:=
 aCS hf hb hn h
theorem wrap_i64{n:Int}(h1: -9223372036854775808≤n)(h2:n≤9223372036854775807):IntKind.i64.wrap n=n:=by
 simp only[IntKind.wrap,IntKind.signed,IntKind.bits,zAE];split
 ·rename_i h;have h:=zAB h;omega
 ·rename_i h;have h:¬n % 2 ^ 64≥2 ^ (64-1):=fun q=>h (zAg q);omega
def kO:Nat→AV→Bool
 |_,.int _ _|_,.bool _|_,.str _|_,.nilptr|_,.nilmap|_,.nilfunc|_,.nilIface|_,.top=>true
 |k+1,.agg cs=>cs.all (kO k)
 |k+1,.tup cs=>cs.all (kO k)
 |k+1,.iface _ x=>kO k x
 |_,_=>false
theorem wF{n:Nat}:∀(k:Nat) {x:AV},kO k x=true→Cl n x:=by
 intro k;induction k with
 |zero=>
  intro x h;cases x<;>first|(simp[kO]at h;done)|constructor
 |succ k ih=>
  intro x h;cases x<;>first
   |(simp[kO]at h;done)
   |(rename_i cs;exact .agg cs fun i y hy=>ih (zAx.1 h y (zAA hy)))
   |(rename_i cs;exact .tup cs fun i y hy=>ih (zAx.1 h y (zAA hy)))
   |(rename_i t y;exact .iface t y (ih h))
   |constructor
theorem qN{n k:Nat}{H L:AHeap}{v x:AV}(hk:kO k v=true)(he:v=x):∃L' y,H++L=H++L'∧Frz n (H++L) v y∧y=x:=
 ⟨L,v,rfl,.cl _ (wF k hk),he⟩
theorem wG{n k:Nat}{H:AHeap}{v x:AV}(hk:kO k v=true)(he:v=x):∃L' y,H=H++L'∧Frz n H v y∧y=x:=
 ⟨[],v,(zAj H).symm,.cl _ (wF k hk),he⟩
@[go_sem] def sF:AF→AF→Prop
 |[],_=>True
 |(k,v)::β,α=>look α k=v∧sF β α
theorem dQ{α:AF}:∀{β:AF},sF β α→∀t,look β t=.top∨look β t=look α t
 |[],_,t=>.inl rfl
 |(k,v)::β,h,t=>by
  rw[sX];by_cases e:k=t
  ·subst e;rw[zAp rfl];exact .inr h.1.symm
  ·rw[zAk e];exact dQ h.2 t
def wH{ι:Type}(F:ι→AF)(Hp:ι→AHeap)(pre:ι→Prop)(m:ι→Nat)(x:ι)(Q:aT):aT
 |.normal,α,H=>∃y,pre y∧m y<m x∧sF (F y) α∧H=Hp y
 |e,α,H=>Q e α H
section
variable {ι:Type} (F:ι→AF) (Hp:ι→AHeap) (pre:ι→Prop) (m:ι→Nat) (x:ι) (Q:aT) (α:AF) (H:AHeap)
@[go_sem] theorem aFI:wH F Hp pre m x Q .normal α H=∃y,pre y∧m y<m x∧sF (F y) α∧H=Hp y:=rfl
@[go_sem] theorem aIP(i:Nat):wH F Hp pre m x Q (.exit i) α H=Q (.exit i) α H:=rfl
@[go_sem] theorem aK4:wH F Hp pre m x Q .ret α H=Q .ret α H:=rfl
end
theorem aH{N:Nat}{body:Code}{Q:aT}{α:AF}{H:AHeap}{ι:Type}(F:ι→AF)(Hp:ι→AHeap)(pre:ι→Prop)(m:ι→Nat)(x₀:ι)(h0:pre x₀)
  (hF:sF (F x₀) α) (hH:H=Hp x₀) (round:∀x,pre x→aw P N body (wH F Hp pre m x Q) (F x) (Hp x)):aw P N (.loop body) Q α H:=
 aE3 F Hp pre m x₀ h0 (dQ hF) hH fun x hx=>jO (round x hx) fun e α' H' h=>by
  cases e<;>first
   |exact h
   |(obtain⟨y,h1,h2,h3,h4⟩:=h;exact⟨y,h1,h2,dQ h3,h4⟩)
end
section
variable {P:Program}
def Ctx.stop(c:Ctx)(i:Nat):Ctx:=
 {w:=c.w,n:=c.n,blk:=c.blk,ver:=fun j=>if j=i then c.ver i+1 else c.ver j,vd:=fun j=>if j=i then true else c.vd j,stable:=fun b=>c.stable b∨(c.vd i=false∧b=c.blk i),base:=c.base}
theorem Ext.stop(c:Ctx)(i:Nat):Ext c (c.stop i) where
 n:=zAb _
 size:=zAb _
 st:=fun _ h=>⟨.inl h,rfl⟩
 ver:=fun j _=>by
  simp only[Ctx.stop];split
  ·rename_i h;subst h;omega
  ·omega
 blk:=fun j _ he=>by
  simp only[Ctx.stop]at he ⊢;by_cases h:j=i
  ·subst h;rw[zAp rfl]at he;omega
  ·simp[h]
 os:=rfl
 tape:=rfl
 output:=rfl
 base:=rfl
theorem St.stop{c:Ctx}{H:AHeap}{i v:Nat}{cs:List AV}(h:St c H)(hh:hget H i=.cells v cs)(hv:v≠0):St (c.stop i) (aA H i .gone):=by
 have hi:H[i]?=some (.cells v cs):=eS hh trivial;have hlt:i<c.n:=by rw[h.n];exact bC hh trivial
 have hver:c.ver i=v:=h.ver_eq hh;have hget:∀{j b},(aA H i .gone)[j]?=some b→b.live→j≠i∧H[j]?=some b:=by
  intro j b hj hb;by_cases e:j=i
  ·subst e;rw[aA,zA0 (by rw[←h.n];exact hlt)]at hj
   cases hj;exact hb.elim
  ·rw[aA,zAU (fun q=>e q.symm)]at hj
   exact⟨e,hj⟩
 constructor
 ·exact h.gl.go (fun _ hb=>.inl hb) (fun _ _=>rfl)
 ·simp[aA,Ctx.stop,h.n]
 ·intro j hj hd;simp only[Ctx.stop]at hd ⊢;split at hd
  ·cases hd
  ·exact h.lt j hj hd
 ·intro j k b b' hj hk hb hb' dj dk he;obtain⟨n1,g1⟩:=hget hj hb;obtain⟨n2,g2⟩:=hget hk hb';simp only[Ctx.stop,zAk n1,zAk n2]at dj dk he;exact h.inj j k b b' g1 g2 hb hb' dj dk he
 ·intro k hk;rcases hk with hk|⟨hd,rfl⟩
  ·obtain⟨h1,h2⟩:=h.st k hk;refine⟨h1,fun j b hj hb dj=>?_⟩
   obtain⟨n1,g1⟩:=hget hj hb;simp only[Ctx.stop,zAk n1]at dj;exact h2 j b g1 hb dj
  ·refine⟨h.lt i hlt hd,fun j b hj hb dj e=>?_⟩
   obtain⟨n1,g1⟩:=hget hj hb;simp only[Ctx.stop,zAk n1]at dj;exact n1 (h.inj j i b _ g1 hi hb trivial dj hd e)
 ·intro j b hj;by_cases e:j=i
  ·subst e;rw[aA,zA0 (by rw[←h.n];exact hlt)]at hj
   cases hj;exact .gone (by simp[Ctx.stop])
  ·rw[aA,zAU (fun q=>e q.symm)]at hj
   have hx:=Ext.stop c i;cases h.rep j b hj with
   |cells ver cs vs ty fr q1 q2 q3 q4 q5 q6=>exact .cells ver cs vs _ fr (by simpa[Ctx.stop,e]using q1) (by simpa[Ctx.stop,e]using q2) q3 q4 q5 fun k x u p q=>(q6 k x u p q).mono hx
   |void ver q1 q2=>exact .void ver (by simpa[Ctx.stop,e]using q1) (by simpa[Ctx.stop,e]using q2)
   |map es clock ents q1 q2 q3 q4 q5=>exact .map es clock ents (by simpa[Ctx.stop,e]using q1) (by simpa[Ctx.stop,e]using q2) q3 q4 fun k p u g1 g2=>let⟨r1,r2,r3⟩:=q5 k p u g1 g2;⟨r1.mono hx,r2.mono hx,r3⟩
   |miter m since seen stepped q1 q2 q3 q4 q5 q6=>
    have hm:m≠i:=fun r=>by subst r;omega
    exact .miter m since seen stepped (by simpa[Ctx.stop,e]using q1) (by simpa[Ctx.stop,e]using q2) q3 (by simpa[Ctx.stop,hm]using q4) (by simpa[Ctx.stop,hm]using q5) q6
   |siter s pos q1 q2 q3 q4=>exact .siter s pos (by simpa[Ctx.stop,e]using q1) (by simpa[Ctx.stop,e]using q2) q3 q4
   |loop l α N st pe ps ars bd fn D ts q1 q2 q3 q4 q5 q6=>exact .loop l α N st pe ps ars bd fn D ts (by simpa[Ctx.stop,e]using q1) (by simpa[Ctx.stop,e]using q2) q3 q4 q5 fun t=>(q6 t).mono hx
   |gone q1=>exact .gone (by simpa[Ctx.stop,e]using q1)
theorem qO{s:Nat}:∀{es:List AV},(∀e∈es,e.cells.length=s)→∀{k j:Nat} {e x:AV},es[k]?=some e→e.cells[j]?=some x→(es.flatMap AV.cells)[k * s+j]?=some x
 |[],_,k,j,e,x,hk,_=>by simp at hk
 |e0::es,hs,0,j,e,x,hk,hj=>by
  simp only[zBG,zBM]at hk;subst hk;have:=(eT.1 hj).1;rw[Nat.zero_mul,zBn,zAF,zAf this];exact hj
 |e0::es,hs,k+1,j,e,x,hk,hj=>by
  rw[zA1]at hk;have h0:=hs e0 (by simp)
  rw[zAF,zAw (by rw[h0,zBF];omega),h0,show(k+1) * s+j-s=k * s+j by rw[zBF];omega]
  exact qO (fun e he=>hs e (by simp[he])) hk hj
theorem qP{s:Nat}:∀{es:List AV},(∀e∈es,e.cells.length=s)→(es.flatMap AV.cells).length=es.length * s
 |[],_=>by simp
 |e0::es,hs=>by
  rw[zAF,zAa,hs e0 (by simp),qP (fun e he=>hs e (by simp[he])),zAt,zBF];omega
theorem aC6{c:Ctx}{H:AHeap}{i v s lc:Nat}{cs es:List AV}{val:Value}(h:St c H)(hh:hget H i=.cells v cs)(rest:List AV)(hcs:cs=es.flatMap AV.cells++rest)(hs:∀e∈es,e.cells.length=s)
  (hx:Rep c (.osl s i v 0 es.length lc) val):Rep (c.stop i) (.sl false es) val:=by
 have hver:=h.ver_eq hh;obtain⟨base,cap,rfl,g1,g1',g2,g3⟩:=hx.osl_inv hver;cases hd:c.vd i with
 |true=>
  obtain⟨q1,rfl⟩:=g2 hd;have:es=[]:=zAu q1;subst this;exact .sl _ _ _ _ _ s (fun _ _=>undef) rfl (zAb _) (fun h=>by cases h) (fun h=>absurd rfl h) (by simp) (by simp) (by simp)
 |false=>
  obtain⟨p1,m,p2,p3⟩:=g3 hd;obtain⟨_,_,vs,e,fr,hb,hl',hf,hrr⟩:=h.cells hh hd;have hfl:=qP hs;refine .sl _ _ _ _ _ s (fun k j=>vs.getD (k * s+j) undef) rfl (by omega) (fun h=>by cases h) (fun hne=>?_) hs (fun k x j y hk hj=>?_) (by have:=hx.osl_R;omega)
  ·have hlen:0<es.length:=zAR.2 hne;have hbase:base=some ⟨c.blk i,0,none⟩:=p1.resolve_left (by omega)
   refine⟨_,hbase,rfl,.inr ⟨hd,rfl⟩,fun k j hk hj=>?_⟩
   have h5:k * s+j<es.length * s:=by
    have:(k+1) * s≤es.length * s:=Nat.mul_le_mul_right s (by omega)
    rw[zBF]at this;omega
   have hlt:k * s+j<vs.size:=by rw[hcs,zAa]at hl';omega
   rw[uM];show(c.w.cell? _)=_;rw[mA hb];simp[hlt]
  ·have hc0:=qO hs hk hj;have hlt0:=(eT.1 hc0).1;have hc:cs[k * s+j]?=some y:=by rw[hcs,zAf hlt0];exact hc0
   have hlt:=(eT.1 hc).1;exact(hrr _ _ _ hc (by simp[show k * s+j<vs.size by omega])).mono (Ext.stop c i)
theorem sY(y:AV)(α:AF)(t:Nat):∀ts:List Nat,look (ts.map (fun t=>(t,y))++α) t=if t∈ts then y else look α t
 |[]=>by simp
 |d::ts=>by
  rw[zAV,List.cons_append,sX,sY y α t ts];by_cases e:d=t
  ·subst e;simp
  ·have:¬t=d:=fun q=>e q.symm
   simp[e,this]
theorem zJ{N:Nat}{code:Code}{Q:aT}{α:AF}{H:AHeap}{i v s lc:Nat}{cs:List AV}(ts:List Nat)(es rest:List AV)(hx:∀t∈ts,look α t=.osl s i v 0 es.length lc)(hh:hget H i=.cells v cs)(hv:v≠0)
  (hcs:cs=es.flatMap AV.cells++rest) (hs:∀e∈es,e.cells.length=s) (h:aw P N code Q (ts.map (fun t=>(t,.sl false es))++α) (aA H i .gone)):aw P N code Q α H:=by
 intro r c a hr hst ha;have hx':=Ext.stop c i;refine wpIn_mono (h r (c.stop i) a hr (hst.stop hh hv) ⟨ha.size,ha.defers.mono hx',fun t=>?_⟩) fun _ _ _ ⟨c',α',H',e1,e2,e3,e4,e5⟩=>⟨c',α',H',e1,e2,hx'.trans e3,e4,e5⟩
 rw[sY];by_cases ht:t∈ts
 ·rw[zAp ht];have hr:=ha.rep t;rw[hx t ht]at hr;exact aC6 hst hh rest hcs hs hr
 ·rw[zAk ht];exact(ha.rep t).mono hx'
theorem sZ{N:Nat}{code:Code}{Q:aT}{α:AF}{H:AHeap}{i v s lc:Nat}{cs:List AV}(ts:List Nat)(es:List AV)(hx:∀t∈ts,look α t=.osl s i v 0 es.length lc)(hh:hget H i=.cells v cs)(hv:v≠0)
  (hcs:cs=es.flatMap AV.cells) (hs:∀e∈es,e.cells.length=s) (h:aw P N code Q (ts.map (fun t=>(t,.sl false es))++α) (aA H i .gone)):aw P N code Q α H:=
 zJ ts es [] hx hh hv (by rw[hcs,zAj]) hs h
end
end Go.Proofs.YtigedpfipifefaaGreatDoor
