/- What the functions of this seat answer (3 of 40). No condition. -/
import Derived.Test.YthafnbmdmfoobaaGreatDoorWorkAB
import Derived.Still
import Derived.Attr
set_option linter.unusedSimpArgs false
set_option linter.unusedVariables false
set_option linter.unusedSectionVars false
set_option maxRecDepth 100000
set_option maxHeartbeats 16000000
namespace Go.Proofs.YthafnbmdmfoobaaGreatDoor
section
variable {P:Program}
theorem zj{o:Oper}(h:∀c,o.op≠.defer c):Hv o:=fun r ρ=>Oper.semAt_eq r ρ o h
theorem jk{o:Oper}{ρ:Operand->I}{H H':ab}{x:I}
  (h:∀(c:Ctx) (a:Act),bA c H->(∀x∈o.op.operands.toList,aK c (ρ x) (a.eval x))->∃c' v,(execOp a.eval o).run P c.w=.ok (.value v) c'.w∧bA c' H'∧Ext c c'∧aK c' x v) (hd:Hv o:=by intro r _;cases r<;>rfl):
  pw P o ρ H (fun x' D4=>x'=x∧D4=H'):=by
 intro r c a next Q hs hρ hk
 obtain⟨c',v,h1,h2,h3,h4⟩:=h c a hs hρ;refine yG hd ?_;rw[h1];exact hk c' x v H' h2 h3 h4 ⟨rfl,rfl⟩
theorem P1{o:Oper}{ρ:Operand->I}{H H':ab}
  (h:∀(c:Ctx) (a:Act),bA c H->(∀x∈o.op.operands.toList,aK c (ρ x) (a.eval x))->∃c',(execOp a.eval o).run P c.w=.ok .skip c'.w∧bA c' H'∧Ext c c') (hd:Hv o:=by intro r _;cases r<;>rfl):
  pw P o ρ H (fun x' D4=>x'=.top∧D4=H'):=by
 intro r c a next Q hs hρ hk
 obtain⟨c',h1,h2,h3⟩:=h c a hs hρ;refine yG hd ?_;rw[h1];exact hk c' .top undef H' h2 h3 (.top _) ⟨rfl,rfl⟩
def qR(r:h7)(H:ab):kK:=⟨r.v,H,r.s⟩
theorem aK.U0{c:Ctx}{cs:List I}{v:Value}(h:aK c (.cptr cs) v):∃a,v=.pointer (some a):=by
 cases h with|cptr _ a=>exact⟨a,rfl⟩
def Et(x:I)(H:ab):kK:=
 match x with
 |.ref i v off=>⟨.ref i v off,H,ni H (.ref i v off)⟩
 |.cptr cs=>⟨.cptr cs,H,True⟩
 |_=>⟨.top,H,False⟩
def Pk(P:Program)(t:TypeId):Bool:=
 match P.underlying t with
 |some d=>UF P d
 |none=>false
def cn(P:Program)(op:Op)(ρ:Operand->I)(H:ab):kK:=
 match op with
 |.move x=>⟨ρ x,H,True⟩
 |.assign x=>⟨ρ x,H,True⟩
 |.alloc t=>BW P t H
 |.box _ x=>B2 (ρ x) H
 |.build t ps=>⟨(BS P t (ps.toList.map fun p=>(p.1,ρ p.2))).v,H,Pk P t=true∧(BS P t (ps.toList.map fun p=>(p.1,ρ p.2))).s⟩
 |.buildSlice t n ps=>qR (Ej P t n (ps.toList.map fun p=>(p.1,ρ p.2))) H
 |.load t x=>qR (xF P t (ρ x) H) H
 |.store t a x=>zn P t (ρ a) (ρ x) H
 |.nilCheck x=>Et (ρ x) H
 |.binOp op t x y _=>qR (zw P (rC x||rC y) op t (ρ x) (ρ y)) H
 |.unOp op _ x=>qR (EI op (ρ x)) H
 |.convert s d x=>qR (EF P s d (ρ x)) H
 |.makeInterface t x=>⟨.iface t (ρ x),H,wb P t=true⟩
 |.makeFunc fn f cs=>⟨.func fn (f.toList.map ρ) (cs.toList.map ρ),H,True⟩
 |.slice t x lo hi mx=>qR (ED P t (ρ x) (lo.map ρ) (hi.map ρ) (mx.map ρ) H) H
 |.fieldAddr t x f=>⟨(Bt P t f (ρ x)).v,H,ni H (ρ x)∧(Bt P t f (ρ x)).s⟩
 |.field t x f=>qR (EB P t f (ρ x)) H
 |.indexAddr t x i=>⟨(Bu P t (ρ x) (ρ i)).v,H,ni H (ρ x)∧(Bu P t (ρ x) (ρ i)).s⟩
 |.index t x i=>qR (EC P t (ρ x) (ρ i)) H
 |.typeAssert x _ t ok=>qR (Ez P (ρ x) t ok) H
 |.extract x i=>qR (Es (ρ x) i) H
 |.makeSlice t l k=>BL P t (ρ l) (ρ k) H
 |.range t x=>BV P t (ρ x) H
 |.makeMap _ none=>Im H
 |.lookup t x k ok=>qR (Ey P t (ρ x) (ρ k) ok H) H
 |.entry x=>qR (EE (ρ x) H) H
 |.mapUpdate t x k v=>sK P t (ρ x) (ρ k) (ρ v) H
 |.insert t x k v=>sK P t (ρ x) (ρ k) (ρ v) H
 |.next it b=>BY (ρ it) b H
 |.call ⟨.builtin b,xs,ts⟩=>BT P b ts.toList (xs.toList.map ρ) H
 |_=>⟨.top,H,False⟩
theorem Dp{c:Ctx}{ρ:Operand->I}{e:Operand->Value}{xs:Array Operand}(h:∀x∈xs.toList,aK c (ρ x) (e x)):za c (xs.toList.map ρ) (xs.map e):=by
 grind [Ctx,Operand,Value,Array,za]
theorem Pl{c:Ctx}{ρ:Operand->I}{e:Operand->Value}{o:Option Operand}(h:∀x,o=some x->aK c (ρ x) (e x)):
  (∀y,o.map ρ=some y->∃u,o.map e=some u∧aK c y u)∧(o.map ρ=none->o.map e=none):=by
 grind [Ctx,Operand,Value,Option]
theorem wh{o:Oper}{ρ:Operand->I}{H:ab}(hs:(cn P o.op ρ H).s):
  pw P o ρ H (fun x' H'=>x'=(cn P o.op ρ H).v∧H'=(cn P o.op ρ H).H):=by
 obtain⟨dst,op,ty,pos,after,guard⟩:=o;cases op<;>simp only[cn,qR]at hs ⊢;case move x=>exact jk fun c a av hρ=>⟨c,_,rfl,av,Ext.refl c,hρ x (by simp[Op.operands])⟩
 case assign x=>exact jk fun c a av hρ=>⟨c,_,rfl,av,Ext.refl c,hρ x (by simp[Op.operands])⟩
 case alloc t=>
  refine jk fun c a av hρ=>?_
  obtain⟨c',v,h1,h2,h3,h4⟩:=aDc (P:=P) av hs;exact⟨c',v,by simp only[execOp,Sem.run_bind,h1];rfl,h2,h3,h4⟩
 case box t x=>
  refine jk fun c a av hρ=>?_
  obtain⟨c',v,h1,h2,h3,h4⟩:=Uv (P:=P) (t:=t) av (hρ x (by simp[Op.operands])) hs
  exact⟨c',v,by simp only[execOp,Sem.run_bind,h1];rfl,h2,h3,h4⟩
 case build t ps=>
  obtain⟨an,hs⟩:=hs;refine jk fun c a av hρ=>?_
  have m8:∀p∈ps.toList,aK c (ρ p.2) (a.eval p.2):=fun p ae=>hρ p.2 (by simp only[Op.operands,bP];exact⟨p,ae,rfl⟩)
  obtain⟨v,h1,h2⟩:=aDd (P:=P) (vs:=ps.map fun(i,x)=>(i,a.eval x)) (by simp[rW,Function.comp_def]) (fun k p q h1 h2=>by
   simp only[nj,jC]at h1;obtain⟨r,h1,rfl⟩:=h1;rw[Array.getElem?_map]at h2;rw[vD]at h1;rw[h1]at h2;cases h2;exact m8 r (by rw[K8];exact xo h1)) hs (fun d hd=>by unfold Pk at an;rw[hd]at an;exact an) c.w
  exact⟨c,v,by simp only[execOp,Sem.run_bind,h1];rfl,av,Ext.refl c,h2⟩
 case buildSlice t n ps=>
  refine jk fun c a av hρ=>?_
  have m8:∀p∈ps.toList,aK c (ρ p.2) (a.eval p.2):=fun p ae=>hρ p.2 (by simp only[Op.operands,bP];exact⟨p,ae,rfl⟩)
  obtain⟨c',v,h1,h2,h3,h4⟩:=ZA (P:=P) (vs:=ps.map fun(i,x)=>(i,a.eval x)) av (by simp[rW,Function.comp_def]) (fun k p q h1 h2=>by
   simp only[nj,jC]at h1;obtain⟨r,h1,rfl⟩:=h1;rw[Array.getElem?_map]at h2;rw[vD]at h1;rw[h1]at h2;cases h2;exact m8 r (by rw[K8];exact xo h1)) hs
  exact⟨c',v,by simp only[execOp,Sem.run_bind,h1];rfl,h2,h3,h4⟩
 case load t x=>
  refine jk fun c a av hρ=>?_
  obtain⟨v,h1,h2⟩:=QP (P:=P) av (hρ x (by simp[Op.operands])) hs
  exact⟨c,v,by simp only[execOp,Sem.run_bind,h1];rfl,av,Ext.refl c,h2⟩
 case store t x y=>
  have aL:(zn P t (ρ x) (ρ y) H).v=.top:=by unfold zn;split<;>(try split)<;>rfl
  rw[aL];refine P1 fun c a av hρ=>?_
  obtain⟨w',h1,h2,h3⟩:=aDb (P:=P) av (hρ x (by simp[Op.operands])) (hρ y (by simp[Op.operands])) hs
  exact⟨_,by simp only[execOp,Sem.run_bind,h1];rfl,h3,h2⟩
 case nilCheck x=>
  refine jk fun c a av hρ=>?_
  have J:=hρ x (by simp[Op.operands])
  have e:(Et (ρ x) H).v=ρ x∧(Et (ρ x) H).H=H∧∃gx,a.eval x=.pointer (some gx):=by
   unfold Et at hs ⊢;split at hs
   ·rename_i i v off ah;rw[ah]at J;obtain⟨b,aa, -⟩:=H0 J (Nc (off:=off) av hs) 0;exact⟨ah.symm,rfl,b,aa⟩
   ·rename_i cs ah;rw[ah]at J;obtain⟨gx,rj⟩:=J.U0;exact⟨ah.symm,rfl,gx,rj⟩
   ·exact hs.elim
  obtain⟨ar,au,gx,bd⟩:=e;rw[ar,au];refine⟨c,.pointer (some gx),?_,av,Ext.refl c,by rw[<-bd];exact J⟩
  simp only[execOp];rw[bd];rfl
 case binOp op t x y ty'=>
  refine jk fun c a av hρ=>?_
  obtain⟨v,h1,h2⟩:=aFh (P:=P) (X:=x) (Y:=y) (hρ x (by simp[Op.operands])) (hρ y (by simp[Op.operands])) hs c.w
  exact⟨c,v,by simp only[execOp];rw[Sem.run_bind,h1];rfl,av,Ext.refl c,h2⟩
 case unOp op t x=>
  refine jk fun c a av hρ=>?_
  obtain⟨v,h1,h2⟩:=aGj (P:=P) (hρ x (by simp[Op.operands])) hs c.w
  exact⟨c,v,by simp only[execOp,Sem.run_bind,h1];rfl,av,Ext.refl c,h2⟩
 case convert s d x=>
  refine jk fun c a av hρ=>?_
  obtain⟨v,h1,h2⟩:=aFi (P:=P) (hρ x (by simp[Op.operands])) hs
  exact⟨c,v,by simp only[execOp,Sem.run_bind,h1];rfl,av,Ext.refl c,h2⟩
 case makeInterface t x=>
  exact jk fun c a av hρ=>⟨c,_,by simp only[execOp,Sem.run_bind,aA8 hs];rfl,av,Ext.refl c,.iface _ _ _ (hρ x (by simp[Op.operands]))⟩
 case makeFunc fn f cs=>
  refine jk fun c a av hρ=>⟨c,.func fn (f.map a.eval) (cs.map a.eval),by simp only[execOp,Instr.makeFunc,Sem.run_bind,Sem.run_pure];rfl,av,Ext.refl c,?_⟩
  obtain⟨cK,dc⟩:=Dp (c:=c) (ρ:=ρ) (e:=a.eval) (xs:=f) (fun x J=>hρ x (by simp only[Op.operands,A9,eX];exact .inl J))
  obtain⟨aQ,aO⟩:=Dp (c:=c) (ρ:=ρ) (e:=a.eval) (xs:=cs) (fun x J=>hρ x (by simp only[Op.operands,A9,eX];exact .inr J))
  exact .func _ _ _ _ _ cK aQ dc aO
 case slice t x lo hi mx=>
  refine jk fun c a av hρ=>?_
  obtain⟨cu,dC⟩:=Pl (c:=c) (ρ:=ρ) (e:=a.eval) (o:=lo) (fun y aG=>hρ y (by subst aG;simp[Op.operands]))
  obtain⟨h1,h2⟩:=Pl (c:=c) (ρ:=ρ) (e:=a.eval) (o:=hi) (fun y aG=>hρ y (by subst aG;simp[Op.operands]))
  obtain⟨l1,k0⟩:=Pl (c:=c) (ρ:=ρ) (e:=a.eval) (o:=mx) (fun y aG=>hρ y (by subst aG;simp[Op.operands]))
  obtain⟨v,aZ,a7⟩:=aDg (P:=P) av (hρ x (by simp[Op.operands])) cu dC h1 h2 l1 k0 hs c.w
  exact⟨c,v,by simp only[execOp,Sem.run_bind,aZ];rfl,av,Ext.refl c,a7⟩
 case fieldAddr t x f=>
  refine jk fun c a av hρ=>?_
  obtain⟨v,h1,h2⟩:=ZL (P:=P) av (hρ x (by simp[Op.operands])) hs.1 hs.2 c.w
  exact⟨c,v,by simp only[execOp,Sem.run_bind,h1];rfl,av,Ext.refl c,h2⟩
 case field t x f=>
  refine jk fun c a av hρ=>?_
  obtain⟨v,h1,h2⟩:=aDe (P:=P) (hρ x (by simp[Op.operands])) hs c.w
  exact⟨c,v,by simp only[execOp,Sem.run_bind,h1];rfl,av,Ext.refl c,h2⟩
 case indexAddr t x i=>
  refine jk fun c a av hρ=>?_
  obtain⟨v,h1,h2⟩:=ZM (P:=P) av (hρ x (by simp[Op.operands])) (hρ i (by simp[Op.operands])) hs.1 hs.2 c.w
  exact⟨c,v,by simp only[execOp,Sem.run_bind,h1];rfl,av,Ext.refl c,h2⟩
 case index t x i=>
  refine jk fun c a av hρ=>?_
  obtain⟨v,h1,h2⟩:=aDf (P:=P) (hρ x (by simp[Op.operands])) (hρ i (by simp[Op.operands])) hs c.w
  exact⟨c,v,by simp only[execOp,Sem.run_bind,h1];rfl,av,Ext.refl c,h2⟩
 case typeAssert x xt t ok=>
  refine jk fun c a av hρ=>?_
  obtain⟨v,h1,h2⟩:=aCE (P:=P) (xt:=xt) (hρ x (by simp[Op.operands])) hs c.w
  exact⟨c,v,by simp only[execOp,Sem.run_bind,h1];rfl,av,Ext.refl c,h2⟩
 case extract x i=>
  refine jk fun c a av hρ=>?_
  obtain⟨v,h1,h2⟩:=aA7 (P:=P) (hρ x (by simp[Op.operands])) hs c.w
  exact⟨c,v,by simp only[execOp,Sem.run_bind,h1];rfl,av,Ext.refl c,h2⟩
 case makeSlice t l k=>
  refine jk fun c a av hρ=>?_
  obtain⟨c',v,h1,h2,h3,h4⟩:=ZN (P:=P) av (hρ l (by simp[Op.operands])) (hρ k (by simp[Op.operands])) hs
  exact⟨c',v,by simp only[execOp,Sem.run_bind,h1];rfl,h2,h3,h4⟩
 case range t x=>
  refine jk fun c a av hρ=>?_
  obtain⟨c',v,h1,h2,h3,h4⟩:=aCD (P:=P) av (hρ x (by simp[Op.operands])) hs
  exact⟨c',v,by simp only[execOp,Sem.run_bind,h1];rfl,h2,h3,h4⟩
 case next it b=>
  refine jk fun c a av hρ=>?_
  obtain⟨c',v,h1,h2,h3,h4⟩:=aFg (P:=P) (ty:=ty) av (hρ it (by simp[Op.operands])) hs
  exact⟨c',v,by simp only[execOp,Sem.run_bind,h1];rfl,h2,h3,h4⟩
 case makeMap t r=>
  cases r with
  |some x=>exact hs.elim
  |none=>
   refine jk fun c a av hρ=>?_
   obtain⟨c',v,h1,h2,h3,h4⟩:=aA6 (P:=P) (t:=t) av;exact⟨c',v,by simp only[execOp,Bf,Sem.run_bind,h1];rfl,h2,h3,h4⟩
 case lookup t x k ok=>
  refine jk fun c a av hρ=>?_
  obtain⟨v,h1,h2⟩:=aCC (P:=P) av (hρ x (by simp[Op.operands])) (hρ k (by simp[Op.operands])) hs
  exact⟨c,v,by simp only[execOp,Sem.run_bind,h1];rfl,av,Ext.refl c,h2⟩
 case entry x=>
  refine jk fun c a av hρ=>?_
  obtain⟨v,h1,h2⟩:=aDi (P:=P) av (hρ x (by simp[Op.operands])) hs
  exact⟨c,v,by simp only[execOp,Sem.run_bind,h1];rfl,av,Ext.refl c,h2⟩
 case mapUpdate t x k v=>
  have aL:(sK P t (ρ x) (ρ k) (ρ v) H).v=.top:=by unfold sK;split<;>rfl
  rw[aL];refine P1 fun c a av hρ=>?_
  obtain⟨c',h1,h2,h3⟩:=XQ (P:=P) av (hρ x (by simp[Op.operands])) (hρ k (by simp[Op.operands])) (hρ v (by simp[Op.operands])) hs
  exact⟨c',by simp only[execOp,Sem.run_bind,h1];rfl,h2,h3⟩
 case insert t x k v=>
  have aL:(sK P t (ρ x) (ρ k) (ρ v) H).v=.top:=by unfold sK;split<;>rfl
  rw[aL];refine P1 fun c a av hρ=>?_
  obtain⟨c',h1,h2,h3⟩:=XQ (P:=P) av (hρ x (by simp[Op.operands])) (hρ k (by simp[Op.operands])) (hρ v (by simp[Op.operands])) hs
  exact⟨c',by simp only[execOp,Sem.run_bind,h1];rfl,h2,h3⟩
 case call cl=>
  obtain⟨callee,xs,ts⟩:=cl;cases callee<;>simp only at hs ⊢;case builtin b=>
   refine jk fun c a av hρ=>?_
   obtain⟨c',v,h1,h2,h3,h4⟩:=aA9 (P:=P) (b:=b) (ts:=ts) (ty:=ty) (cs:=xs.map fun|.const _=>true|_=>false) (vs:=xs.map a.eval) av (Dp fun x J=>hρ x (by simp only[Op.operands,Call.operands,A9,eX];exact .inr J)) hs
   exact⟨c',v,by simp only[execOp,resolve,Sem.run_bind,Sem.run_pure,Result.andThen_ok,invoke];exact h1,h2,h3,h4⟩
def lx(P:Program)(f:FuncId):Bool:=
 match P.funcs[f]? with
 |some fn=>fn.body.isSome&& !(fn.name== "runtime.NumGoroutine")
 |none=>false
theorem Ay{f:FuncId}(h:lx P f=true)(args:Array Value)(w:World):(callFunc f args).run P w=.ok (.enter f args) w:=by
 unfold lx at h;cases an:P.funcs[f]? with
 |none=>rw[an]at h;cases h
 |some fn=>
  rw[an]at h;simp only[dD,nk]at h;obtain⟨h1,h2⟩:=h;have h3:fn.body.isNone=false:=by cases aa:fn.body<;>simp_all
  simp only[callFunc,Sem.run_bind,run_program,Result.andThen_ok,an,h2,h3,ht,eF];rfl
def Bj(P:Program)(f:FuncId)(args:List I)(H:ab)(R:I->ab->Prop):Prop:=
 ∀(c:Ctx) (vs:Array Value),bA c H->r4 c args vs->∃v x,(callFunc f vs).run P c.w=.ok (.value v) c.w∧aK c x v∧R x H
theorem Bj.mono{P:Program}{f:FuncId}{args:List I}{H:ab}{R R':I->ab->Prop}(h:Bj P f args H R)(ax:∀x H',R x H'->R' x H'):Bj P f args H R':=
 fun c vs hs aD=>by
  grind [Program,List,Bj]
theorem ZO{o:Oper}{ρ:Operand->I}{H:ab}{K:I->ab->Prop}{it:Operand}(aN:o.op=.next it false)(h:Iw (ρ it) H K):pw P o ρ H K:=by
 intro r c a next Q hs hρ hk
 obtain⟨c',v,x',H',h1,h2,h3,h4,cz⟩:=aDh (P:=P) (ty:=o.type) hs (hρ it (by rw[aN];simp[Op.operands])) h
 refine yG (zj (by rw[aN];simp)) ?_
 have:(execOp a.eval o).run P c.w=.ok (.value v) c'.w:=by simp only[execOp,aN,Sem.run_bind,h1];rfl
 rw[this];exact hk c' x' v H' h2 h3 h4 cz
def vL(P:Program)(l:Nat)(args:List I)(H:ab)(R:I->ab->Prop):Prop:=
 ∀(c:Ctx) (vs:Array Value),bA c H->r4 c args vs->∃fn tmps mE dX,(Instr.yield l vs).run P c.w=.ok (.round l fn tmps mE dX) c.w∧
  RoundIn Fence.wide 0 P l fn tmps mE dX c.w (fun e w'=>∃c' x v H',e=.returned v∧c'.w=w'∧bA c' H'∧Ext c c'∧aK c' x v∧R x H')
theorem vL.mono{P:Program}{l:Nat}{args:List I}{H:ab}{R R':I->ab->Prop}(h:vL P l args H R)(ax:∀x H',R x H'->R' x H'):vL P l args H R':=
 fun c vs hs aD=>by
  obtain⟨fn,tmps,mE,dX,h1,h2⟩:=h c vs hs aD;exact⟨fn,tmps,mE,dX,h1,h2.mono fun _ _ ⟨c',x,v,H',ar,au,bd,bE,cE,h8⟩=>⟨c',x,v,H',ar,au,bd,bE,cE,ax _ _ h8⟩⟩
def h6(P:Program)(f:I)(args:List I)(H:ab)(R:I->ab->Prop):Prop:=
 match f with
 |.func (.func rh) first cap=>(lx P rh=true∧c5 P rh (first++args++cap) H R)∨Bj P rh (first++args++cap) H R
 |.func (.yield l) [] []=>vL P l args H R
 |_=>False
theorem h6.mono{P:Program}{f:I}{args:List I}{H:ab}{R R':I->ab->Prop}(h:h6 P f args H R)(ax:∀x H',R x H'->R' x H'):h6 P f args H R':=by
 unfold h6 at h ⊢;split at h
 ·rcases h with⟨h1,h2⟩|h1
  ·exact .inl ⟨h1,h2.mono ax⟩
  ·exact .inr (h1.mono ax)
 ·exact h.mono ax
 ·exact h.elim
theorem wP{o:Oper}{ρ:Operand->I}{H:ab}{R:I->ab->Prop}{f:Operand}{xs:Array Operand}{ts:Array TypeId}(aN:o.op=.call ⟨.value f,xs,ts⟩)(h:h6 P (ρ f) (xs.toList.map ρ) H R):pw P o ρ H R:=by
 intro r c a next Q hs hρ hk
 unfold h6 at h;split at h
 ·rename_i rh first cap an
  have tM:=hρ f (by grind [Op.operands,Call.operands])
  rw[an]at tM;generalize zY:a.eval f=rP at tM;cases tM with
  |func _ _ _ v1 v2 cH cO FH o8=>
   obtain⟨nD,Oy⟩:=Dp (c:=c) (ρ:=ρ) (e:=a.eval) (xs:=xs) (fun x J=>hρ x (by rw[aN];simp only[Op.operands,Call.operands,A9,eX];exact .inr J))
   have iV:(execOp a.eval o).run P c.w=(callFunc rh (v1++xs.map a.eval++v2)).run P c.w:=by
    simp only[execOp,aN,resolve,zY,Deferred.ofValue,Sem.run_bind,Sem.run_pure,Result.andThen_ok,invoke]
   have fi:r4 c (first++xs.toList.map ρ++cap) (v1++xs.map a.eval++v2):=by
    refine⟨by simp[cH,cO,nD],fun i x v aZ a7=>?_⟩
    by_cases h1:i<first.length
    ·rw[cr,iC h1]at aZ;rw[Array.append_assoc,A7 (by omega)]at a7
     exact FH _ _ _ aZ a7
    ·by_cases h2:i<first.length+(xs.toList.map ρ).length
     ·rw[cr,qf (by omega),iC (by omega)]at aZ
      rw[Array.append_assoc,Hj (by omega),A7 (by omega),cH]at a7
      exact Oy _ _ _ aZ a7
     ·rw[cr,qf (by omega),qf (by omega)]at aZ
      rw[Array.append_assoc,Hj (by omega),Hj (by omega),cH,nD]at a7
      exact o8 _ _ _ aZ a7
   refine yG (zj (by rw[aN];simp)) ?_
   rw[iV];rcases h with⟨bl,h⟩|h
   ·rw[Ay bl];refine⟨fun h=>(by cases h),callsIn_wide.2 ?_⟩
    refine(h c _ hs fi).mono fun e w' ⟨c',x,v,H',ar,au,bd,bE,cE,h8⟩=>?_
    subst ar;subst au;exact hk c' x v H' bd bE cE h8
   ·obtain⟨v,x,ar,au,bd⟩:=h c _ hs fi;rw[ar];exact hk c x v H hs (Ext.refl c) au bd
 ·rename_i l an;have tM:=hρ f (by rw[aN];simp[Op.operands,Call.operands])
  rw[an]at tM;generalize zY:a.eval f=rP at tM;cases tM with
  |func _ _ _ v1 v2 cH cO _ _=>
   obtain rfl:v1= #[]:=Array.eq_empty_of_size_eq_zero cH;obtain rfl:v2= #[]:=Array.eq_empty_of_size_eq_zero cO;have fi:r4 c (xs.toList.map ρ) (xs.map a.eval):=Dp (c:=c) (ρ:=ρ) (e:=a.eval) (xs:=xs) (fun x J=>hρ x (by rw[aN];simp only[Op.operands,Call.operands,A9,eX];exact .inr J))
   obtain⟨fn,tmps,mE,dX,h1,h2⟩:=h c _ hs fi;have iV:(execOp a.eval o).run P c.w=.ok (.round l fn tmps mE dX) c.w:=by
    simp only[execOp,aN,resolve,zY,Deferred.ofValue,Sem.run_bind,Sem.run_pure,Result.andThen_ok,invoke];simpa using h1
   refine yG (zj (by rw[aN];simp)) ?_
   rw[iV];refine⟨fun h=>(by cases h),RoundIn.mono (F:=wf r) (n:=0) h2 fun e w' ⟨c',x,v,H',ar,au,bd,bE,cE,h8⟩=>?_⟩
   subst ar;subst au;exact hk c' x v H' bd bE cE h8
 ·exact h.elim
def wZ(P:Program)(t:TypeId)(m:String):Option FuncId:=
 match P.info? t with
 |some i=>match i.methods.find? (·.name==m)with
  |some mt=>bif mt.path.isEmpty then
    match mt.func,P.underlying t with
    |some (f,true),some (.pointer _)=>some f
    |some (_,false),some (.pointer _)=>none
    |some (f,false),some _=>some f
    |_,_=>none
   else none
  |none=>none
 |none=>none
def oS(P:Program)(m:String):I->I
 |.iface t v=>match wZ P t m with
  |some f=>.func (.func f) [v] []
  |none=>.top
 |_=>.top
theorem YK{t:TypeId}{m:String}{f:FuncId}(h:wZ P t m=some f)(n:Nat)(v:Value)(w:World):(method (n+1) t v m).run P w=.ok (f,v) w:=by
 unfold wZ at h;cases hi:P.info? t with
 |none=>rw[hi]at h;cases h
 |some i=>
  rw[hi]at h;simp only at h;cases hm:i.methods.find? (·.name==m)with
  |none=>rw[hm]at h;cases h
  |some mt=>
   rw[hm]at h;simp only at h;cases ae:mt.path.isEmpty with
   |false=>rw[ae]at h;cases h
   |true=>
    rw[ae,cond_true]at h;have iU:mt.path.toList=[]:=by
     have:mt.path= #[]:=by simpa using ae
     rw[this]
    split at h
    ·rename_i aIn e an hu;cases h;simp only[method,typeInfo,Sem.run_bind,run_program,Result.andThen_ok,hi,Sem.run_pure,hm,iU,follow,an,receiverAt,run_underlying hu,Place.get]
    ·cases h
    ·rename_i aIn d aP an hu;cases h;have hd:∀e,d≠.pointer e:=fun e he=>by subst he;exact aP _ rfl
     simp only[method,typeInfo,Sem.run_bind,run_program,Result.andThen_ok,hi,Sem.run_pure,hm,iU,follow,an,receiverAt,run_underlying hu,Place.get];try(cases d<;>first|exact absurd rfl (hd _)|rfl)
    ·cases h
theorem CU{o:Oper}{ρ:Operand->I}{H:ab}{R:I->ab->Prop}{r:Operand}{m:String}{xs:Array Operand}{ts:Array TypeId}(aN:o.op=.call ⟨.invoke r m,xs,ts⟩)(h:h6 P (oS P m (ρ r)) (xs.toList.map ρ) H R):pw P o ρ H R:=by
 intro aLC c a next Q hs hρ hk
 unfold oS at h;split at h
 ·rename_i t x J;cases hm:wZ P t m with
  |none=>rw[hm]at h;exact h.elim
  |some rh=>
   rw[hm]at h;have tM:=hρ r (by grind [Op.operands,Call.operands])
   rw[J]at tM;generalize zY:a.eval r=rP at tM;cases tM with
   |iface _ _ v aL=>
    obtain⟨nD,Oy⟩:=Dp (c:=c) (ρ:=ρ) (e:=a.eval) (xs:=xs) (fun x J=>hρ x (by rw[aN];simp only[Op.operands,Call.operands,A9,eX];exact .inr J))
    have aJl:(#[Value.iface t v]++xs.map a.eval).extract 1 (#[Value.iface t v]++xs.map a.eval).size=xs.map a.eval:=by
     apply Array.ext'
     simp[List.take_of_length_le]
    have aC:(#[Value.iface t v]++xs.map a.eval)[0]?=some (.iface t v):=by rw[A7 (by simp)];rfl
    have aJg:0<Made.depth:=by decide
    obtain⟨n,ag⟩:∃n,P.types.size+Made.depth=n+1:=⟨P.types.size+Made.depth-1,by omega⟩
    have iV:(execOp a.eval o).run P c.w=(callFunc rh (#[v]++xs.map a.eval)).run P c.w:=by
     simp only[execOp,aN,resolve,zY,Sem.run_bind,Sem.run_pure,Result.andThen_ok,invoke,aC,callMethod,run_program,ag,YK hm,aJl]
    have fi:r4 c ([x]++xs.toList.map ρ++[]) (#[v]++xs.map a.eval):=by
     refine⟨by simp[nD];omega,fun i y u aZ a7=>?_⟩
     rw[b2]at aZ;cases i with
     |zero=>
      rw[A7 (by simp)]at a7
      cases aZ;cases a7;exact aL
     |succ i=>
      rw[gi,gK,vz]at aZ;rw[Hj (by simp)]at a7
      exact Oy i y u aZ (by simpa using a7)
    refine yG (zj (by rw[aN];simp)) ?_
    rw[iV];rcases h with⟨bl,h⟩|h
    ·rw[Ay bl];refine⟨fun h=>(by cases h),callsIn_wide.2 ?_⟩
     refine(h c _ hs fi).mono fun e w' ⟨c',x,v,H',ar,au,bd,bE,cE,h8⟩=>?_
     subst ar;subst au;exact hk c' x v H' bd bE cE h8
    ·obtain⟨v,x,ar,au,bd⟩:=h c _ hs fi;rw[ar];exact hk c x v H hs (Ext.refl c) au bd
 ·exact h.elim
theorem pw.mono{o:Oper}{ρ:Operand->I}{H:ab}{R R':I->ab->Prop}(h:pw P o ρ H R)(ax:∀x H',R x H'->R' x H'):pw P o ρ H R':=
 fun r c a next Q hs hρ hk=>h r c a next Q hs hρ fun c' x v H' h1 h2 h3 h4=>hk c' x v H' h1 h2 h3 (ax _ _ h4)
def sN:Value->Bool
 |.slice none 0 0=>true
 |_=>false
def vh:Operand->Bool
 |.const v=>sN v
 |_=>false
def mo:BinOp->Bool
 |.eql=>true
 |_=>false
def Eu(P:Program)(t:TypeId):Bool:=
 match P.underlying t with
 |some (.slice _)=>true
 |_=>false
def Ev(P:Program)(t:TypeId)(H:ab)(x:I)(K:I->Prop):Prop:=
 match x with
 |.sl _ es=>Eu P t=true∧∀b:Bool,(es≠[]->b=false)->K (.bool b)
 |.osl s i v off len lc=>Eu P t=true∧ni H (.osl s i v off len lc)∧∀b:Bool,(len≠0->b=false)->K (.bool b)
 |_=>False
theorem ZP{y:Operand}(h:vh y=true):y=.const (.slice none 0 0):=by
 unfold vh at h;split at h
 ·rename_i v;unfold sN at h;split at h
  ·rfl
  ·cases h
 ·cases h
theorem ZQ{t e:TypeId}(hu:P.underlying t=some (.slice e))(x:Operand)(base:Option Addr)(len cap:Nat)(w:World):
  (do eqGuard .eql t x (.const (.slice none 0 0)) (.slice base len cap) (.slice none 0 0);binOp .eql t (.slice base len cap) (.slice none 0 0):Sem Value).run P w=.ok (.bool base.isNone) w:=by
 have key:∀d,(Op.equalIn (d+1) t (.slice base len cap) (.slice none 0 0)).run P w=.ok base.isNone w:=fun d=>by
  cases base<;>simp[Op.equalIn,run_underlying hu]
 have aKQ:(Op.equal t (.slice base len cap) (.slice none 0 0)).run P w=.ok base.isNone w:=key 9999;have aJ:(eqGuard .eql t x (.const (.slice none 0 0)) (.slice base len cap) (.slice none 0 0)).run P w=.ok () w:=rfl;simp only[Sem.run_bind,aJ,Result.andThen_ok,binOp,aKQ,Sem.run_pure]
theorem aBa{o:Oper}{ρ:Operand->I}{H:ab}{K:I->Prop}{op:BinOp}{t t':TypeId}{x y:Operand}(aN:o.op=.binOp op t x y t')(ag:(mo op&&vh y)=true)(h:Ev P t H (ρ x) K):
  pw P o ρ H (fun v H'=>K v∧H'=H):=by
 intro r c a next Q hs hρ hk
 rw[dD]at ag;have tJ:op=.eql:=by cases op<;>first|rfl|exact absurd ag.1 (by decide)
 subst tJ;obtain rfl:=ZP ag.2;have J:=hρ x (by rw[aN];simp[Op.operands])
 have pY:∀{e base len cap},P.underlying t=some (.slice e)->a.eval x=.slice base len cap->(execOp a.eval o).run P c.w=.ok (.value (.bool base.isNone)) c.w:=fun{e base len cap} hu he=>by
  have:=ZQ hu x base len cap c.w;simp only[execOp,aN,he];rw[show a.eval (.const (.slice none 0 0))=.slice none 0 0 from rfl,Sem.run_bind,this]
  rfl
 unfold Ev at h;split at h
 ·rename_i f es ah;obtain⟨h1,h2⟩:=h;rw[ah]at J;have hu:∃e,P.underlying t=some (.slice e):=by
   unfold Eu at h1;split at h1
   ·rename_i e hu;exact⟨e,hu⟩
   ·cases h1
  obtain⟨e,hu⟩:=hu;obtain⟨base,len,cap,s,vs,he,aZ,a7,ch,fc, -⟩:=J.pj;refine yG (zj (by rw[aN];simp)) ?_
  rw[pY hu he];refine hk c (.bool base.isNone) _ H hs (Ext.refl c) (.bool _) ⟨h2 _ fun aP=>?_,rfl⟩
  obtain⟨gx,rj, -⟩:=fc aP;rw[rj];rfl
 ·rename_i s i v off len lc ah;obtain⟨h1,h3,h2⟩:=h;rw[ah]at J;have hu:∃e,P.underlying t=some (.slice e):=by
   unfold Eu at h1;split at h1
   ·rename_i e hu;exact⟨e,hu⟩
   ·cases h1
  obtain⟨e,hu⟩:=hu;obtain⟨base,cap,he,aZ,a7,ch,fc⟩:=J.ph (v9 (s:=s) (off:=off) (len:=len) (lc:=lc) hs h3);refine yG (zj (by rw[aN];simp)) ?_
  rw[pY hu he];refine hk c (.bool base.isNone) _ H hs (Ext.refl c) (.bool _) ⟨h2 _ fun aP=>?_,rfl⟩
  cases hd:c.dR i with
  |true=>have:=(ch hd).1;omega
  |false=>
   have cz:=(fc hd).1.resolve_left (by omega)
   rw[cz];rfl
 ·exact h.elim
def A0:I->Bool
 |.bool b=>b
 |_=>false
def JP:I->Bool
 |.bool _=>true
 |_=>false
theorem Ts{x:I}(h:JP x=true):x=.bool (A0 x):=by
 cases x<;>first|rfl|cases h
def bR(v:I)(want:Bool):Bool:=
 match v with
 |.bool b=>bif want then b else !b
 |.opt g x=>g&&(bif want then A0 x else !A0 x)
 |_=>false
def hq(v:I):Prop:=
 match v with
 |.bool _=>True
 |.opt g x=>g=true->JP x=true
 |_=>False
def MR:I->I
 |.opt _ v=>v
 |v=>v
def Is(g:Bool):I->Prop
 |.opt x0 _=>g=true->x0=true
 |_=>True
def ZR(all:List Oper)(j:Nat):Option Tmp:=(all[j]?).bind (·.dst)
def bw(α:a5):Option Tmp->I
 |some t=>look α t
 |none=>.top
def BD:I->Option (Bool×Bool)
 |.bool b=>some (true,b)
 |.opt g x=>some (g,A0 x)
 |_=>none
def Ek:I->Prop
 |.bool _=>True
 |.opt g x=>g=true->JP x=true
 |_=>False
def jL(g:Bool)(c a b:I):h7:=
 match BD c,BD a,BD b with
 |some (gc,ks),some (nA,x),some (IW,y)=>⟨.bool (bif ks then x else y),(g=true->gc=true)∧(g=true->ks=true->nA=true)∧(g=true->ks=false->IW=true)∧Ek c∧Ek a∧Ek b⟩
 |_,_,_=>bad
theorem P2{c:Ctx}{x:I}{v:Value}{g b:Bool}(h:BD x=some (g,b))(aj:Ek x)(J:aK c x v)(aJ:g=true):v=.bool b:=by
 unfold BD at h;split at h
 ·simp only[yZ,Prod.mk.injEq]at h;rw[h.2]at J;exact J.ra
 ·simp only[yZ,Prod.mk.injEq]at h;have h3:=Ts (aj (h.1.trans aJ));cases J with
  |opt _ _ _ h1=>
   have h2:=h1 (h.1.trans aJ);rw[h3]at h2;rw[<-h.2];exact h2.ra
 ·cases h
theorem CV{o:Oper}{ρ:Operand->I}{H:ab}{x y z:Operand}{g:Bool}(aN:o.op=.pick x y z)(aJ:g=true)(hs:(jL g (ρ x) (ρ y) (ρ z)).s):
  pw P o ρ H (fun v H'=>v=(jL g (ρ x) (ρ y) (ρ z)).v∧H'=H):=by
 refine jk (hd:=zj (by rw[aN];simp)) fun c a av hρ=>?_
 have J:=hρ x (by rw[aN];simp[Op.operands])
 have aG:=hρ y (by rw[aN];simp[Op.operands])
 have a2:=hρ z (by rw[aN];simp[Op.operands])
 have iV:∀ks:Bool,a.eval x=.bool ks->(execOp a.eval o).run P c.w=.ok (.value (if ks then a.eval y else a.eval z)) c.w:=by
  grind [execOp,asBool,Sem.run_bind,Sem.run_pure,Result.andThen_ok]
 generalize aSr:ρ x=cx at J hs ⊢;generalize aSs:ρ y=cy at aG hs ⊢;generalize aSt:ρ z=IM at a2 hs ⊢;unfold jL at *;split at hs
 ·rename_i gc ks nA aV IW bm ar au bd;refine⟨c,_,iV ks (P2 ar hs.2.2.2.1 J (hs.1 aJ)),av,Ext.refl c,?_⟩;cases ks
  ·rw[az (by simp),P2 bd hs.2.2.2.2.2 a2 (hs.2.2.1 aJ rfl)];exact .bool _
  ·rw[aF rfl,P2 au hs.2.2.2.2.1 aG (hs.2.1 aJ rfl)];exact .bool _
 ·exact hs.elim
end
section
variable {P:Program}
def br:List Oper->Nat->Option Tmp
 |[],_=>none
 |o::_,0=>o.dst
 |_::os,n+1=>br os n
theorem aFl(l:List Oper)(j:Nat):br l j=(l[j]?).bind (·.dst):=by
 induction l generalizing j with
 |nil=>rfl
 |cons o os ay=>cases j with
  |zero=>rfl
  |succ n=>simpa[br]using ay n
def jJ(g:Bool)(α:a5):List Operand->Prop
 |[]=>True
 |x::xs=>Is g (bb α x)∧jJ g α xs
def cT(α:a5)(x:Operand):I:=MR (bb α x)
def ou(P:Program)(g:Bool)(f:I)(xs:List I)(H:ab)(K:I->Prop):Prop:=
 ∃v,(g=true->h6 P f xs H (fun ev H'=>ev=v∧H'=H))∧K v
def pd(P:Program)(f:I)(xs:List I)(H:ab)(K:I->ab->Prop):Prop:=h6 P f xs H K
def BE(P:Program)(g:Bool)(f:I)(xs:List I)(H:ab)(K:I->ab->Prop):Prop:=
 ou P g f xs H (fun v=>K v H)∨(g=true∧pd P f xs H K)
def hN(P:Program)(all:List Oper):List Oper->a5->ab->(a5->ab->Prop)->Prop
 |[],α,H,k=>k α H
 |⟨dst,op,_,_,_,guard⟩::os,α,H,k=>
  match guard,op with
  |none,.pick x y z=>(jL true (bb α x) (bb α y) (bb α z)).s∧hN P all os (cY dst (jL true (bb α x) (bb α y) (bb α z)).v α) H k
  |none,.call ⟨.value f,xs,_⟩=>pd P (bb α f) (xs.toList.map (bb α)) H (fun v H'=>hN P all os (cY dst v α) H' k)
  |none,.call ⟨.invoke r m,xs,_⟩=>pd P (oS P m (bb α r)) (xs.toList.map (bb α)) H (fun v H'=>hN P all os (cY dst v α) H' k)
  |none,.next it false=>Iw (bb α it) H (fun v H'=>hN P all os (cY dst v α) H' k)
  |none,.binOp op t x y t'=>bif mo op&&vh y then Ev P t H (bb α x) (fun v=>hN P all os (cY dst v α) H k)
    else(cn P (.binOp op t x y t') (bb α) H).s∧hN P all os (cY dst (cn P (.binOp op t x y t') (bb α) H).v α) (cn P (.binOp op t x y t') (bb α) H).H k
  |none,op=>(cn P op (bb α) H).s∧hN P all os (cY dst (cn P op (bb α) H).v α) (cn P op (bb α) H).H k
  |some (j,want),.pick x y z=>
   hq (bw α (br all j))∧((bR (bw α (br all j)) want)=true->(jL (bR (bw α (br all j)) want) (bb α x) (bb α y) (bb α z)).s)∧
    hN P all os (cY dst (.opt (bR (bw α (br all j)) want) (jL (bR (bw α (br all j)) want) (bb α x) (bb α y) (bb α z)).v) α) H k
  |some (j,want),.call ⟨.value f,xs,_⟩=>
   hq (bw α (br all j))∧jJ (bR (bw α (br all j)) want) α (f::xs.toList)∧
    BE P (bR (bw α (br all j)) want) (cT α f) (xs.toList.map (cT α)) H (fun v H=>hN P all os (cY dst (.opt (bR (bw α (br all j)) want) v) α) H k)
  |some (j,want),.call ⟨.invoke r m,xs,_⟩=>
   hq (bw α (br all j))∧jJ (bR (bw α (br all j)) want) α (r::xs.toList)∧
    BE P (bR (bw α (br all j)) want) (oS P m (cT α r)) (xs.toList.map (cT α)) H (fun v H=>hN P all os (cY dst (.opt (bR (bw α (br all j)) want) v) α) H k)
  |some (j,want),op=>
   hq (bw α (br all j))∧jJ (bR (bw α (br all j)) want) α op.operands.toList∧((bR (bw α (br all j)) want)=true->(cn P op (cT α) H).s∧(cn P op (cT α) H).H=H)∧
    hN P all os (cY dst (.opt (bR (bw α (br all j)) want) (cn P op (cT α) H).v) α) H k
def iv(P:Program)(all:List Oper)(H:ab):List Oper->a5->(a5->Prop)->Prop
 |[],α,k=>k α
 |⟨dst,op,_,_,_,guard⟩::os,α,k=>
  match guard,op with
  |none,.pick x y z=>(jL true (bb α x) (bb α y) (bb α z)).s∧iv P all H os (cY dst (jL true (bb α x) (bb α y) (bb α z)).v α) k
  |none,.call ⟨.value f,xs,_⟩=>ou P true (bb α f) (xs.toList.map (bb α)) H (fun v=>iv P all H os (cY dst v α) k)
  |none,.call ⟨.invoke r m,xs,_⟩=>ou P true (oS P m (bb α r)) (xs.toList.map (bb α)) H (fun v=>iv P all H os (cY dst v α) k)
  |none,op=>(cn P op (bb α) H).s∧(cn P op (bb α) H).H=H∧iv P all H os (cY dst (cn P op (bb α) H).v α) k
  |some (j,want),.pick x y z=>
   hq (bw α (br all j))∧((bR (bw α (br all j)) want)=true->(jL (bR (bw α (br all j)) want) (bb α x) (bb α y) (bb α z)).s)∧
    iv P all H os (cY dst (.opt (bR (bw α (br all j)) want) (jL (bR (bw α (br all j)) want) (bb α x) (bb α y) (bb α z)).v) α) k
  |some (j,want),.call ⟨.value f,xs,_⟩=>
   hq (bw α (br all j))∧jJ (bR (bw α (br all j)) want) α (f::xs.toList)∧
    ou P (bR (bw α (br all j)) want) (cT α f) (xs.toList.map (cT α)) H (fun v=>iv P all H os (cY dst (.opt (bR (bw α (br all j)) want) v) α) k)
  |some (j,want),.call ⟨.invoke r m,xs,_⟩=>
   hq (bw α (br all j))∧jJ (bR (bw α (br all j)) want) α (r::xs.toList)∧
    ou P (bR (bw α (br all j)) want) (oS P m (cT α r)) (xs.toList.map (cT α)) H (fun v=>iv P all H os (cY dst (.opt (bR (bw α (br all j)) want) v) α) k)
  |some (j,want),op=>
   hq (bw α (br all j))∧jJ (bR (bw α (br all j)) want) α op.operands.toList∧((bR (bw α (br all j)) want)=true->(cn P op (cT α) H).s∧(cn P op (cT α) H).H=H)∧
    iv P all H os (cY dst (.opt (bR (bw α (br all j)) want) (cn P op (cT α) H).v) α) k
def ef(P:Program)(N:Nat)(ops:Array Oper)(H:ab)(o:Oper)(α:a5)(R:I->ab->Prop):Prop:=
 ∀(r:Option Nat) (c:Ctx) (a:Act) (next:Act->World->Prop) (Q:Exit->Act->World->Prop),bA c H->a.tmps.size=N->(∀t∈o.looksAt ops,aK c (look α t) (a.tmps.getD t undef))->
  (∀c' x v H',bA c' H'->Ext c c'->aK c' x v->R x H'->next (a.put o.dst v) c'.w)->
  if Region.wanted o (yielded ops a.tmps)then o.wpIn (wf r) 0 P a c.w next Q else next (a.put o.dst undef) c.w
theorem oV{c:Ctx}{α:a5}{a:Act}{x:Operand}(h:∀t,x=.tmp t->aK c (look α t) (a.tmps.getD t undef)):aK c (bb α x) (a.eval x):=by
 cases x with
 |tmp t=>exact h t rfl
 |const v=>exact Lk c v
 |global g=>exact .top _
 |func f=>exact .func _ [] [] _ _ rfl rfl (by simp) (by simp)
theorem oR{ops:Array Oper}{o:Oper}{t:Nat}(h:Operand.tmp t∈o.op.operands.toList):t∈o.looksAt ops:=by
 unfold Oper.looksAt;grind
theorem ef.nO{N:Nat}{ops:Array Oper}{H:ab}{o:Oper}{α:a5}{R:I->ab->Prop}(aJ:o.guard=none)(h:pw P o (bb α) H R):ef P N ops H o α R:=by
 intro r c a next Q hs hsz hl hk
 have hw:Region.wanted o (yielded ops a.tmps)=true:=by unfold Region.wanted;rw[aJ]
 rw[aF hw];exact h r c a next Q hs (fun x J=>oV fun t aj=>hl t (oR (by subst aj;exact J))) hk
theorem Pm{c:Ctx}{ops:Array Oper}{o:Oper}{α:a5}{a:Act}{j:Nat}{want:Bool}(aJ:o.guard=some (j,want))(hl:∀t∈o.looksAt ops,aK c (look α t) (a.tmps.getD t undef))
  (bl:hq (bw α (br ops.toList j))):Region.wanted o (yielded ops a.tmps)=bR (bw α (br ops.toList j)) want:=by
 have ag:br ops.toList j=(ops[j]?).bind (·.dst):=by rw[aFl,vD]
 rw[ag]at bl ⊢;unfold Region.wanted;rw[aJ];simp only;unfold yielded;cases hd:(ops[j]?).bind (·.dst)with
 |none=>rw[hd]at bl;exact bl.elim
 |some t=>
  rw[hd]at bl;simp only[bw]at bl ⊢;have ax:=hl t (by
   unfold Oper.looksAt;refine eX.2 (.inr ?_);rw[aJ];simp only;rw[hd];simp)
  have key:∀b:Bool,a.tmps.getD t undef=.bool b->a.tmps[t]?=some (.bool b):=by
   intro b aa;rw[Hk]at aa;cases aj:a.tmps[t]? with
   |none=>rw[aj]at aa;simp[undef]at aa
   |some v=>rw[aj]at aa;simpa using aa
  generalize look α t=sv at ax bl ⊢;unfold hq at bl;split at bl
  ·rename_i b;have h1:=key b ax.ra;simp only[lb,h1,bR];cases b<;>cases want<;>rfl
  ·rename_i g x;cases ax with
   |opt _ _ _ h1 h2=>
    cases g with
    |true=>
     have h4:=h1 rfl;rw[Ts (bl rfl)]at h4;have h3:=key (A0 x) h4.ra;simp only[lb,h3,bR];generalize A0 x=b;cases b<;>cases want<;>rfl
    |false=>
     have h3:=h2 rfl;rw[Hk]at h3;simp only[lb,bR,xj];cases aj:a.tmps[t]? with
     |none=>simp
     |some v=>
      rw[aj]at h3;simp at h3;subst h3;simp[undef]
  ·exact bl.elim
theorem rb{g:Bool}{α:a5}:∀{xs:List Operand},jJ g α xs->∀x∈xs,Is g (bb α x)
 |[],_,_,J=>by cases J
 |y::ys,h,x,J=>by
  cases J with
  |head=>exact h.1
  |tail _ hm=>exact rb h.2 x hm
theorem si{c:Ctx}{g:Bool}{x:I}{v:Value}(h:aK c x v)(aN:Is g x)(aJ:g=true):aK c (MR x) v:=by
 cases x with
 |opt x0 y=>
  cases h with
  |opt _ _ _ h1=>exact h1 (aN aJ)
 |_=>exact h
theorem ef.ue{N:Nat}{ops:Array Oper}{H:ab}{o:Oper}{α:a5}{v:I}{j:Nat}{want:Bool}(aJ:o.guard=some (j,want))(bl:hq (bw α (br ops.toList j)))
  (ρ:Operand->I) (hρ:∀(c:Ctx) (a:Act),bR (bw α (br ops.toList j)) want=true->(∀t∈o.looksAt ops,aK c (look α t) (a.tmps.getD t undef))->∀x∈o.op.operands.toList,aK c (ρ x) (a.eval x))
  (h:bR (bw α (br ops.toList j)) want=true->pw P o ρ H (fun ev H'=>ev=v∧H'=H)):ef P N ops H o α (fun ev H'=>ev=.opt (bR (bw α (br ops.toList j)) want) v∧H'=H):=by
 intro r c a next Q hs hsz hl hk
 rw[Pm aJ hl bl];cases mJ:bR (bw α (br ops.toList j)) want with
 |true=>
  simp only[dI];rw[mJ]at hk;refine h mJ r c a next Q hs (hρ c a mJ hl) fun c' x ev H' h1 h2 h3 h4=>?_
  obtain⟨rfl,rfl⟩:=h4;exact hk c' _ ev _ h1 h2 (.opt _ _ _ (fun _=>h3) (fun h=>by cases h)) ⟨rfl,rfl⟩
 |false=>
  simp only[ht,eF];rw[mJ]at hk;exact hk c _ undef H hs (Ext.refl c) (.opt _ _ _ (fun h=>by cases h) (fun _=>rfl)) ⟨rfl,rfl⟩
theorem ef.W1{N:Nat}{ops:Array Oper}{H:ab}{o:Oper}{α:a5}{K:I->ab->Prop}{j:Nat}{want:Bool}(aJ:o.guard=some (j,want))(bl:hq (bw α (br ops.toList j)))(aL:bR (bw α (br ops.toList j)) want=true)
  (ρ:Operand->I) (hρ:∀(c:Ctx) (a:Act),bR (bw α (br ops.toList j)) want=true->(∀t∈o.looksAt ops,aK c (look α t) (a.tmps.getD t undef))->∀x∈o.op.operands.toList,aK c (ρ x) (a.eval x))
  (h:pw P o ρ H (fun ev H'=>K (.opt true ev) H')):ef P N ops H o α K:=by
 intro r c a next Q hs hsz hl hk
 rw[Pm aJ hl bl,aL];simp only[dI];exact h r c a next Q hs (hρ c a aL hl) fun c' x ev H' h1 h2 h3 h4=>hk c' _ ev H' h1 h2 (.opt _ _ _ (fun _=>h3) (fun h=>by cases h)) h4
theorem ef.mono{N:Nat}{ops:Array Oper}{H:ab}{o:Oper}{α:a5}{R R':I->ab->Prop}(h:ef P N ops H o α R)(ax:∀x H',R x H'->R' x H'):ef P N ops H o α R':=
 fun r c a next Q h1 h2 h3 hk=>h r c a next Q h1 h2 h3 fun c' x v H' k1 k2 k3 k4=>hk c' x v H' k1 k2 k3 (ax _ _ k4)
theorem ZS{N:Nat}{ops:Array Oper}{o:Oper}{os:List Oper}{α:a5}{H:ab}{k:a5->ab->Prop}(h:hN P ops.toList (o::os) α H k):
  ef P N ops H o α (fun v H'=>hN P ops.toList os (cY o.dst v α) H' k):=by
 obtain⟨dst,op,ty,pos,after,guard⟩:=o;have aSJ:∀(op:Op) (tJ:op.operands=op.operands) (ρ:Operand->I),True:=fun _ _ _=>trivial
 unfold hN at h;split at h
 ·rename_i x y z;exact(ef.nO rfl ((CV (o:=⟨dst,.pick x y z,ty,pos,after,none⟩) (ρ:=bb α) (H:=H) rfl rfl h.1))).mono fun v H' ⟨ar,au⟩=>by subst ar;subst au;exact h.2
 ·rename_i f xs ts;exact ef.nO rfl (wP rfl h)
 ·rename_i f m xs ts;exact ef.nO rfl (CU rfl h)
 ·rename_i it;exact ef.nO rfl (ZO rfl h)
 ·rename_i op t x y t';cases ag:mo op&&vh y with
  |true=>
   rw[ag,cond_true]at h;exact(ef.nO rfl (aBa (o:=⟨dst,.binOp op t x y t',ty,pos,after,none⟩) rfl ag h)).mono fun v H' ⟨ar,au⟩=>by subst au;exact ar
  |false=>
   rw[ag,qi]at h;exact(ef.nO rfl (wh (o:=⟨dst,.binOp op t x y t',ty,pos,after,none⟩) h.1)).mono fun v H' ⟨ar,au⟩=>by subst ar;subst au;exact h.2
 ·rename_i W3 _ _;exact(ef.nO rfl (wh (o:=⟨dst,op,ty,pos,after,none⟩) h.1)).mono fun v H' ⟨ar,au⟩=>by subst ar;subst au;exact h.2
 ·rename_i j want x y z;obtain⟨h1,h2,h3⟩:=h;exact(ef.ue (o:=⟨dst,.pick x y z,ty,pos,after,some (j,want)⟩) rfl h1 (bb α) (fun c a _ hl x J=>oV fun t aj=>hl t (oR (by subst aj;exact J)))
   (fun aJ=>CV (g:=bR (bw α (br ops.toList j)) want) rfl aJ (h2 aJ))).mono fun v H' ⟨ar,au⟩=>by subst ar;subst au;exact h3
 ·rename_i j want f xs ts;obtain⟨h1,h2,⟨v,h3,h4⟩|⟨aL,h⟩⟩:=h
  rotate_left
  ·refine ef.W1 (o:=⟨dst,.call ⟨.value f,xs,ts⟩,ty,pos,after,some (j,want)⟩) rfl h1 aL (cT α) (fun c a aJ hl x J=>si (oV fun t aj=>hl t (oR (by subst aj;exact J))) (rb h2 x (by simpa[Op.operands,Call.operands]using J)) aJ) ?_
   rw[aL]at h;exact wP rfl h
  refine(ef.ue (o:=⟨dst,.call ⟨.value f,xs,ts⟩,ty,pos,after,some (j,want)⟩) rfl h1 (cT α) (fun c a aJ hl x J=>si (oV fun t aj=>hl t (oR (by subst aj;exact J))) (rb h2 x (by simpa[Op.operands,Call.operands]using J)) aJ)
   (fun aJ=>wP rfl (h3 aJ))).mono fun v H' ⟨ar,au⟩=>by subst ar;subst au;exact h4
 ·rename_i j want f m xs ts;obtain⟨h1,h2,⟨v,h3,h4⟩|⟨aL,h⟩⟩:=h
  rotate_left
  ·refine ef.W1 (o:=⟨dst,.call ⟨.invoke f m,xs,ts⟩,ty,pos,after,some (j,want)⟩) rfl h1 aL (cT α) (fun c a aJ hl x J=>si (oV fun t aj=>hl t (oR (by subst aj;exact J))) (rb h2 x (by simpa[Op.operands,Call.operands]using J)) aJ) ?_
   rw[aL]at h;exact CU rfl h
  refine(ef.ue (o:=⟨dst,.call ⟨.invoke f m,xs,ts⟩,ty,pos,after,some (j,want)⟩) rfl h1 (cT α) (fun c a aJ hl x J=>si (oV fun t aj=>hl t (oR (by subst aj;exact J))) (rb h2 x (by simpa[Op.operands,Call.operands]using J)) aJ)
   (fun aJ=>CU rfl (h3 aJ))).mono fun v H' ⟨ar,au⟩=>by subst ar;subst au;exact h4
 ·obtain⟨h1,h2,h3,h4⟩:=h;refine ef.mono (ef.ue (v:=(cn P op (cT α) H).v) rfl h1 (cT α) (fun c a aJ hl x J=>si (oV fun t aj=>hl t (oR (by subst aj;exact J))) (rb h2 x J) aJ)
   (fun aJ=>(wh (h3 aJ).1).mono fun v H' ⟨ar,au⟩=>⟨ar,au.trans (h3 aJ).2⟩)) fun v H' ⟨ar,au⟩=>by subst ar;subst au;exact h4
theorem YL{N:Nat}{ops:Array Oper}{o:Oper}{os:List Oper}{α:a5}{H:ab}{k:a5->Prop}(h:iv P ops.toList H (o::os) α k):
  ∃v,ef P N ops H o α (fun ev H'=>ev=v∧H'=H)∧iv P ops.toList H os (cY o.dst v α) k:=by
 obtain⟨dst,op,ty,pos,after,guard⟩:=o;unfold iv at h;split at h
 ·rename_i x y z;exact⟨_,ef.nO rfl (CV (o:=⟨dst,.pick x y z,ty,pos,after,none⟩) (ρ:=bb α) (H:=H) rfl rfl h.1),h.2⟩
 ·rename_i f xs ts;obtain⟨v,h1,h2⟩:=h;exact⟨v,ef.nO rfl (wP rfl (h1 rfl)),h2⟩
 ·rename_i f m xs ts;obtain⟨v,h1,h2⟩:=h;exact⟨v,ef.nO rfl (CU rfl (h1 rfl)),h2⟩
 ·exact⟨_,(ef.nO rfl (wh h.1)).mono fun v H' ⟨ar,au⟩=>⟨ar,au.trans h.2.1⟩,h.2.2⟩
 ·rename_i j want x y z;obtain⟨h1,h2,h3⟩:=h;exact⟨_,ef.ue (o:=⟨dst,.pick x y z,ty,pos,after,some (j,want)⟩) rfl h1 (bb α) (fun c a _ hl x J=>oV fun t aj=>hl t (oR (by subst aj;exact J)))
   (fun aJ=>CV (g:=bR (bw α (br ops.toList j)) want) rfl aJ (h2 aJ)),h3⟩
 ·rename_i j want f xs ts;obtain⟨h1,h2,v,h3,h4⟩:=h;exact⟨_,ef.ue (o:=⟨dst,.call ⟨.value f,xs,ts⟩,ty,pos,after,some (j,want)⟩) rfl h1 (cT α) (fun c a aJ hl x J=>si (oV fun t aj=>hl t (oR (by subst aj;exact J))) (rb h2 x (by simpa[Op.operands,Call.operands]using J)) aJ)
   (fun aJ=>wP rfl (h3 aJ)),h4⟩
 ·rename_i j want f m xs ts;obtain⟨h1,h2,v,h3,h4⟩:=h;exact⟨_,ef.ue (o:=⟨dst,.call ⟨.invoke f m,xs,ts⟩,ty,pos,after,some (j,want)⟩) rfl h1 (cT α) (fun c a aJ hl x J=>si (oV fun t aj=>hl t (oR (by subst aj;exact J))) (rb h2 x (by simpa[Op.operands,Call.operands]using J)) aJ)
   (fun aJ=>CU rfl (h3 aJ)),h4⟩
 ·obtain⟨h1,h2,h3,h4⟩:=h;exact⟨_,ef.ue (v:=(cn P op (cT α) H).v) rfl h1 (cT α) (fun c a aJ hl x J=>si (oV fun t aj=>hl t (oR (by subst aj;exact J))) (rb h2 x J) aJ)
   (fun aJ=>(wh (h3 aJ).1).mono fun v H' ⟨ar,au⟩=>⟨ar,au.trans (h3 aJ).2⟩),h4⟩
def w8(N:Nat)(ops:Array Oper):Bool:=ops.toList.all fun o=>BC N o.dst
abbrev By(N:Nat)(c:Ctx)(Q:dU):Exit->Act->World->Prop:=fun e gx w'=>∃c' c1 H',c'.w=w'∧bA c' H'∧Ext c c'∧ko c' N c1 gx∧Q e c1 H'
theorem XC{r:Option Nat}{N:Nat}{ops:Array Oper}{Q:dU}(hd:w8 N ops=true)(mG:Ctx):∀(os:List Oper) (k:Nat) (α:a5) (H:ab) (c:Ctx) (a:Act),(∀i,os[i]?=ops[k+i]?)->bA c H->Ext mG c->ko c N α a->
  hN P ops.toList os α H (fun c1 H'=>Q .normal c1 H')->wpOpsIn (wf r) 0 P ops (By N mG Q) (List.range' k os.length) a c.w
 |[],k,α,H,c,a,_,hs,J,aD,h=>⟨c,α,H,rfl,hs,J,aD,h⟩
 |o::os,k,α,H,c,a,yk,hs,J,aD,h=>by
  have aC:ops[k]?=some o:=by simpa using(yk 0).symm
  have j0:BC N o.dst=true:=gT.1 hd o (by grind)
  simp only[cm,List.range'_succ,wpOpsIn,aC];have aG:=ZS (N:=N) h r c a (wpOpsIn (wf r) 0 P ops (By N mG Q) (List.range' (k+1) os.length)) (By N mG Q) hs aD.size (fun t _=>aD.rep t) fun c' x v H' h1 h2 h3 h4=>
   XC hd mG os (k+1) _ H' c' _ (fun i=>by have:=yk (i+1);grind) h1 (J.trans h2) ((aD.mono h2).put j0 h3) h4
  by_cases hw:Region.wanted o (yielded ops a.tmps)=true
  ·rw[aF hw]at aG ⊢;exact aG
  ·rw[az hw]at aG ⊢;exact⟨fun _ _=>trivial,aG⟩
theorem qn{N id:Nat}{ops:Array Oper}{Q:dU}{α:a5}{H:ab}(hd:w8 N ops=true)(h:hN P ops.toList ops.toList α H (fun c1 H'=>Q .normal c1 H')):di P N (.region id ops false) Q α H:=by
 intro r c a _ hs aD;refine wpIn_region ?_;have:=XC (P:=P) (r:=r) hd c ops.toList 0 α H c a (by simp) hs (Ext.refl c) aD h
 rw[List.range_eq_range'];grind
section draw
variable {N:Nat} {ops:Array Oper} {H:ab}
def Dd(P:Program)(N:Nat)(ops:Array Oper)(H:ab)(i:Nat)(K:a5->Prop)(α:a5):Prop:=
 match ops[i]? with
 |none=>K α
 |some o=>∃v,ef P N ops H o α (fun ev H'=>ev=v∧H'=H)∧K (cY o.dst v α)
def zo(P:Program)(N:Nat)(ops:Array Oper)(H:ab)(K:a5->Prop):Nat->Array Bool->a5->Prop
 |0,listed,α=>Region.ready .any ops listed=[]∧K α
 |fuel+1,listed,α=>(Region.ready .any ops listed=[]->K α)∧∀i∈Region.ready .any ops listed,Dd P N ops H i (zo P N ops H K fuel (listed.setIfInBounds i true)) α
def Alike(α β:a5):Prop:=∀t,look α t=look β t
theorem Alike.put{α β:a5}(h:Alike α β)(d:Option Tmp)(v:I):Alike (cY d v α) (cY d v β):=by
 cases d with
 |none=>exact h
 |some d=>intro t;simp only[cY,look];cases d==t<;>simp[h t]
theorem ef.alike{o:Oper}{α β:a5}{R:I->ab->Prop}(c3:Alike α β)(h:ef P N ops H o α R):ef P N ops H o β R:=
 fun r c a next Q h1 h2 h3 hk=>h r c a next Q h1 h2 (fun t aj=>by rw[c3 t];exact h3 t aj) hk
theorem PH{K:a5->Prop}(b0:∀α β,Alike α β->K α->K β):∀(n:Nat) (listed:Array Bool) (α β:a5),Alike α β->zo P N ops H K n listed α->zo P N ops H K n listed β
 |0,_,_,_,c3,h=>⟨h.1,b0 _ _ c3 h.2⟩
 |n+1,listed,α,β,c3,h=>by
  refine⟨fun aC=>b0 _ _ c3 (h.1 aC),fun i hi=>?_⟩
  have:=h.2 i hi;unfold Dd at this ⊢;split
  ·rename_i aN;simp only[aN]at this;exact PH b0 n _ _ _ c3 this
  ·rename_i o aN;simp only[aN]at this;obtain⟨v,h1,h2⟩:=this;exact⟨v,h1.alike c3,PH b0 n _ _ _ (c3.put _ _) h2⟩
theorem O9{r:Option Nat}{Q:Exit->Act->World->Prop}{K:a5->Prop}(hd:w8 N ops=true)(mG:Ctx)(b0:∀α c a,K α->bA c H->Ext mG c->ko c N α a->Q .normal a c.w):
  ∀(n:Nat) (listed:Array Bool) (α:a5) (c:Ctx) (a:Act),bA c H->Ext mG c->ko c N α a->zo P N ops H K n listed α->wpAnyIn (wf r) 0 P .any ops Q n listed a c.w
 |0,_,_,_,_,hs,J,aD,h=>⟨h.1,b0 _ _ _ h.2 hs J aD⟩
 |n+1,listed,α,c,a,hs,J,aD,h=>by
  refine⟨fun aC=>b0 _ _ _ (h.1 aC) hs J aD,fun i hi=>?_⟩
  have h1:=h.2 i hi;unfold Dd at h1;unfold wpOpIn;split
  ·rename_i aN;simp only[aN]at h1;exact O9 hd mG b0 n _ _ _ _ hs J aD h1
  ·rename_i o aN;simp only[aN]at h1;obtain⟨v,aG,hk⟩:=h1;have j0:BC N o.dst=true:=gT.1 hd o (by rw[K8];exact xo aN)
   have:=aG r c a (wpAnyIn (wf r) 0 P .any ops Q n (listed.setIfInBounds i true)) Q hs aD.size (fun t _=>aD.rep t) fun c' x ev H' aZ a7 ch fc=>by
    obtain⟨ar,au⟩:=fc;rw[au]at aZ;rw[ar]at ch;exact O9 hd mG b0 n _ _ _ _ aZ (J.trans a7) ((aD.mono a7).put j0 ch) hk
   by_cases hw:Region.wanted o (yielded ops a.tmps)=true
   ·rw[aF hw]at this ⊢;exact this
   ·rw[az hw]at this ⊢;exact⟨fun _ _=>trivial,this⟩
theorem J8{α:a5}{d:Option Tmp}{v:I}{t:Nat}(h:∀x,d=some x->x≠t):look (cY d v α) t=look α t:=by
 cases d with
 |none=>rfl
 |some d=>have aa:(d==t)=false:=by simpa using h d rfl
          simp[cY,look,aa]
theorem ef.aLp{gP jx:Oper}{α:a5}{v u:I}(h:ef P N ops H gP α (fun ev H'=>ev=v∧H'=H))(sm:∀d,jx.dst=some d->d∉gP.looksAt ops):ef P N ops H gP (cY jx.dst u α) (fun ev H'=>ev=v∧H'=H):=
 fun r c a next Q h1 h2 h3 hk=>h r c a next Q h1 h2 (fun t aj=>by
  have:=h3 t aj;rwa[J8 fun x J e=>sm x J (e▸aj)]at this) hk
theorem ef.aLX{gP jx:Oper}{α:a5}{v u:I}(h:ef P N ops H gP (cY jx.dst u α) (fun ev H'=>ev=v∧H'=H))(sm:∀d,jx.dst=some d->d∉gP.looksAt ops):ef P N ops H gP α (fun ev H'=>ev=v∧H'=H):=
 fun r c a next Q h1 h2 h3 hk=>h r c a next Q h1 h2 (fun t aj=>by
  rw[J8 fun x J e=>sm x J (e▸aj)]
  exact h3 t aj) hk
theorem FY{α:a5}{x y:Option Tmp}{v u:I}(h:∀d,x=some d->y≠some d):Alike (cY y u (cY x v α)) (cY x v (cY y u α)):=by
 intro t;cases x with
 |none=>rfl
 |some d=>cases y with
  |none=>rfl
  |some e=>
   have aP:d≠e:=fun dr=>h d rfl (by rw[dr])
   simp only[cY,look];grind
theorem YM{K:a5->Prop}(b0:∀α β,Alike α β->K α->K β){i:Nat}{gP:Oper}{v:I}(hi:ops[i]?=some gP):
  ∀(fuel:Nat) (listed:Array Bool) (α:a5),
   (∀j jx,ops[j]?=some jx->j≠i->listed.getD j true=false->(∀e∈jx.after,Region.binds .any e=true->e.on≠i)->gP.apart ops jx=true)->
   i∈Region.ready .any ops listed->ef P N ops H gP α (fun ev H'=>ev=v∧H'=H)->
   zo P N ops H K fuel (listed.setIfInBounds i true) (cY gP.dst v α)->zo P N ops H K (fuel+1) listed α:=by
 have W9:∀(K:a5->Prop) (α:a5),ef P N ops H gP α (fun ev H'=>ev=v∧H'=H)->K (cY gP.dst v α)->Dd P N ops H i K α:=by
  grind [Dd]
 intro fuel;induction fuel with
 |zero=>
  intro listed α _ ax aG ah;refine⟨fun h=>(by rw[h]at ax;cases ax),fun j aw=>?_⟩
  by_cases hW:j=i
  ·subst hW;exact W9 _ _ aG ah
  ·have:=ready_mono aw hW;rw[ah.1]at this;cases this
 |succ fuel ay=>
  intro listed α Fj ax aG ah;refine⟨fun h=>(by rw[h]at ax;cases ax),fun j aw=>?_⟩
  by_cases hW:j=i
  ·subst hW;exact W9 _ _ aG ah
  ·have h1:=ah.2 j (ready_mono aw hW);obtain⟨Fs,jx,FB,fi⟩:=mem_ready.1 aw;have ru:∀e∈jx.after,Region.binds .any e=true->e.on≠i:=fun e he aa heq=>by
    have h1:=fi e he aa;have aC:=(mem_ready.1 ax).1;rw[heq]at h1;rcases Bd i listed.size with dr|dr
    ·simp[dr]at aC h1;rw[aC]at h1;cases h1
    ·simp[Array.getElem?_eq_none dr]at h1
   obtain⟨cK,dc,ei⟩:=Oper.apart_spec (Fj j jx FB hW Fs ru);unfold Dd at h1 ⊢;simp only[FB]at h1 ⊢;obtain⟨u,CN,lD⟩:=h1;refine⟨u,CN.aLX cK,?_⟩;have Fk:∀k ok,ops[k]?=some ok->k≠i->(listed.setIfInBounds j true).getD k true=false->
     (∀e∈ok.after,Region.binds .any e=true->e.on≠i)->gP.apart ops ok=true:=fun k ok hk qt FQ bX=>by
    refine Fj k ok hk qt ?_ bX;by_cases z4:j=k
    ·subst z4;exact Fs
    ·rw[getD_set_ne true z4]at FQ;exact FQ
   refine ay (listed.setIfInBounds j true) _ Fk (ready_mono ax (kn hW)) (aG.aLp ei) ?_;rw[DI _ _ hW];exact PH b0 _ _ _ _ (FY dc) lD
theorem R1{K:a5->Prop}(b0:∀α β,Alike α β->K α->K β):∀(l:List Oper) (k:Nat) (listed:Array Bool) (α:a5),(∀j,l[j]?=ops[k+j]?)->
  Region.lexFrom .any ops l.length k listed=true->iv P ops.toList H l α K->zo P N ops H K l.length listed α
 |[],_,_,_,_,bK,h=>⟨by simpa[Region.lexFrom]using bK,h⟩
 |o::l,k,listed,α,hl,bK,h=>by
  have aC:ops[k]?=some o:=by simpa using(hl 0).symm
  simp only[cm,Region.lexFrom,dD]at bK;obtain⟨⟨ax,an⟩,oZ⟩:=bK;obtain⟨v,aG,hk⟩:=YL (N:=N) h;exact YM b0 aC l.length listed α (Region.free_spec aC an) (by simpa using ax) aG
   (R1 b0 l (k+1) _ _ (fun j=>by have:=hl (j+1);grind) oZ hk)
end draw
theorem wk{all:List Oper}{H:ab}{k k':a5->Prop}(hk:∀α,k α->k' α):∀(l:List Oper) (α:a5),iv P all H l α k->iv P all H l α k'
 |[],α,h=>hk α h
 |⟨dst,op,ty,pos,after,guard⟩::os,α,h=>by
  unfold iv at h ⊢;split at h
  ·exact⟨h.1,wk hk os _ h.2⟩
  ·obtain⟨v,h1,h2⟩:=h;exact⟨v,h1,wk hk os _ h2⟩
  ·obtain⟨v,h1,h2⟩:=h;exact⟨v,h1,wk hk os _ h2⟩
  ·exact⟨h.1,h.2.1,wk hk os _ h.2.2⟩
  ·exact⟨h.1,h.2.1,wk hk os _ h.2.2⟩
  ·obtain⟨h1,h2,v,h3,h4⟩:=h;exact⟨h1,h2,v,h3,wk hk os _ h4⟩
  ·obtain⟨h1,h2,v,h3,h4⟩:=h;exact⟨h1,h2,v,h3,wk hk os _ h4⟩
  ·exact⟨h.1,h.2.1,h.2.2.1,wk hk os _ h.2.2.2⟩
theorem O6{N id:Nat}{ops:Array Oper}{Q:dU}{α:a5}{H:ab}(hm:P.follows .mixedOrders=true)(hd:w8 N ops=true)(bK:Region.lexB .any ops=true)
  (h:iv P ops.toList H ops.toList α (fun c1=>Q .normal c1 H)):di P N (.region id ops true) Q α H:=by
 intro r c a _ hs aD;simp only[Region.lexB,dD]at bK;refine wpIn_region_any hm ?_;have h1:iv P ops.toList H ops.toList α (fun c1=>∃β,Alike c1 β∧Q .normal β H):=wk (fun c1 aS=>⟨c1,fun _=>rfl,aS⟩) _ _ h
 have h2:=R1 (P:=P) (N:=N) (ops:=ops) (H:=H) (K:=fun c1=>∃β,Alike c1 β∧Q .normal β H) (fun α β c3 ⟨D0,aJ,aS⟩=>⟨D0,fun t=>(c3 t).symm.trans (aJ t),aS⟩)
  ops.toList 0 (Array.replicate ops.size false) α (by simp) (by simpa using bK.2) h1
 have h3:=O9 (r:=r) (P:=P) (Q:=By N c Q) hd c (fun c1 c' gx ⟨β,c3,aS⟩ ic ho rj=>⟨c',β,H,rfl,ic,ho,rj.weaken fun t=>.inr (c3 t).symm,aS⟩)
  ops.toList.length (Array.replicate ops.size false) α c.draw a hs.draw (Ext.draw c) (aD.mono (Ext.draw c)) h2
 rw[Array.length_toList]at h3;exact h3
end
section
variable {P:Program}
def oW:Nat->List I->a5
 |_,[]=>[]
 |k,x::xs=>(k,x)::oW (k+1) xs
theorem Yl(xs:List I)(k t:Nat):look (oW k xs) t=if k<=t then xs.getD (t-k) .top else .top:=by
 induction xs generalizing k<;>grind [oW,look]
def r7(P:Program)(α:a5)(H:ab):ResultVar->h7
 |.tmp t=>⟨look α t,True⟩
 |.cell a t=>xF P t (look α a) H
def AG(P:Program)(α:a5)(H:ab):List ResultVar->Prop
 |[]=>True
 |r::rs=>(r7 P α H r).s∧AG P α H rs
def zp:List I->I
 |[v]=>v
 |vs=>.a0 vs
def rS(P:Program)(rs:List ResultVar)(R:I->ab->Prop):dU
 |.normal,α,H=>AG P α H rs∧R (zp (rs.map fun r=>(r7 P α H r).v)) H
 |.ret,α,H=>AG P α H rs∧R (zp (rs.map fun r=>(r7 P α H r).v)) H
 |_,_,_=>False
theorem ZT{c:Ctx}{H:ab}{t:TypeId}{x:I}{ck:Value}(av:bA c H)(J:aK c x ck)(hs:(xF P t x H).s):∃a,ck=.pointer (some a):=by
 unfold xF at hs;split at hs
 ·exact J.U0
 ·rename_i i v off;split at hs
  ·rename_i bg cs ah;obtain⟨a,aD, -⟩:=H0 J (by rw[hs.1];exact av.qP ah) 0
   exact⟨a,aD⟩
  ·exact hs.elim
 ·exact hs.elim
def Ib(a:Act):ResultVar->Sem Value
 |.tmp t=>pure (a.tmps.getD t undef)
 |.cell b t=>do loadVar t (<-asAddr (a.tmps.getD b undef))
theorem ZU{c:Ctx}{H:ab}{α:a5}{a:Act}(hs:bA c H)(aD:∀t,aK c (look α t) (a.tmps.getD t undef))(r:ResultVar)(h:(r7 P α H r).s):∃v,(Ib a r).run P c.w=.ok v c.w∧aK c (r7 P α H r).v v:=by
 cases r with
 |tmp t=>exact⟨_,rfl,aD t⟩
 |cell b t=>
  have aa:=aD b;obtain⟨aRZ,hh⟩:=ZT (P:=P) hs aa h;grind [QP,Ib,asAddr,Sem.run_bind,Sem.run_pure,Result.andThen_ok,Instr.loadAt,Instr.sureAddr,Ctx,Act,look,undef,ResultVar,r7]
theorem Q6{c:Ctx}{H:ab}{α:a5}{a:Act}(hs:bA c H)(aD:∀t,aK c (look α t) (a.tmps.getD t undef)):∀rs:List ResultVar,AG P α H rs->∃vs:List Value,(rs.mapM (Ib a)).run P c.w=.ok vs c.w∧vs.length=rs.length∧
   ∀(i:Nat) (x:I) (v:Value),(rs.map fun r=>(r7 P α H r).v)[i]?=some x->vs[i]?=some v->aK c x v
 |[],_=>⟨[],by simp,rfl,by simp⟩
 |r::rs,h=>by
  obtain⟨vs,h1,h2,h3⟩:=Q6 hs aD rs h.2;obtain⟨v,aZ,a7⟩:=ZU (P:=P) hs aD r h.1;refine⟨v::vs,?_,by simp[h2],fun i x u hi hu=>?_⟩
  ·simp_all
  grind
theorem Yz{c:Ctx}{H:ab}{α:a5}{a:Act}{fn:Func}(hs:bA c H)(aD:∀t,aK c (look α t) (a.tmps.getD t undef))(h:AG P α H fn.results.toList):
  ∃v,(results fn a.tmps).run P c.w=.ok v c.w∧aK c (zp (fn.results.toList.map fun r=>(r7 P α H r).v)) v:=by
 obtain⟨vs,h1,h2,h3⟩:=Q6 (P:=P) hs aD fn.results.toList h;have aKn:(results fn a.tmps).run P c.w=.ok (if ah:vs.toArray.size=1 then vs.toArray[0]else .tuple vs.toArray) c.w:=by
  have e:results fn a.tmps=(do
    let vs<-fn.results.mapM (Ib a)
    pure (if h:vs.size=1 then vs[0]else .tuple vs)):=by
   unfold results;congr 1
  rw[e];simp only[Sem.run_bind,Array.mapM_eq_mapM_toList,Sem.run_map,h1];rfl
 refine⟨_,aKn,?_⟩;by_cases hl:vs.length=1
 ·match vs,hl,h2,h3 with
  |[v],_,h2,h3=>
   have cH:fn.results.toList.length=1:=by simpa using h2.symm
   match ax:fn.results.toList,cH with
   |[r],_=>
    rw[ax]at h3;exact h3 0 _ _ rfl rfl
 ·rw[dif_neg (by simpa using hl)]
  have:zp (fn.results.toList.map fun r=>(r7 P α H r).v)=.a0 (fn.results.toList.map fun r=>(r7 P α H r).v):=by
   unfold zp;split
   ·rename_i v aL;have:=bH List.length aL;simp at this;simp at h2;omega
   ·rfl
  rw[this];exact .a0 _ _ (by simpa using h2) (fun i x v hi aL=>h3 i x v hi (by simpa using aL))
def Ctx.shut(c:Ctx)(D:Nat):Ctx:={c with w:=c.w.putObj D (.deferred none)}
theorem P3{c:Ctx}{D:Nat}(cD:c.w.heap[D]?=some (.deferred (some []))):Bl c (c.shut D) where
 n:=bk _
 st:=fun _ h=>h
 cell:=fun a _=>by
  by_cases h:a.block=D
  ·have ak:=(qg.1 cD).1;simp only[World.cell?,Ctx.shut,h,cD,World.putObj_heap_same ak]
  ·exact XB (World.putObj_heap_other h)
 bg:=fun _ _=>bk _
 aE:=fun i _ _=>⟨rfl,rfl,fun _=>by
  by_cases h:c.aE i=D
  ·have ak:=(qg.1 cD).1;simp only[bsize,Ctx.shut,h,cD,World.putObj_heap_same ak]
  ·grind [bsize,Ctx.shut,World.putObj_heap_other]⟩
theorem bA.shut{c:Ctx}{H:ab}{D:Nat}(av:bA c H)(hs:c.jy D)(cD:c.w.heap[D]?=some (.deferred (some []))):bA (c.shut D) H where
 n:=av.n
 lt:=fun i hi hd=>by have:=av.lt i hi hd;simpa[Ctx.shut]using this
 inj:=av.inj
 st:=fun k hk=>by obtain⟨h1,h2⟩:=av.st k hk;exact⟨by simpa[Ctx.shut]using h1,h2⟩
 rep:=fun i b hi=>by
  have bS:i<c.n:=by rw[av.n];grind
  have aa:=av.rep i b hi;refine aa.tZ (P3 cD) bS (fun _ _ h=>h) rfl fun hd=>World.putObj_heap_other ?_
  have hl:b.live:=by
   cases aa with
   |gone hn=>rw[hd]at hn;cases hn
   |_=>trivial
  exact(av.st D hs).2 i b hi hl hd
theorem Ext.shut{fG c:Ctx}{eI:ab}{D:Nat}(aC:bA fG eI)(J:Ext fG c)(ak:fG.w.heap.size<=D)(cD:c.w.heap[D]?=some (.deferred (some []))):Ext fG (c.shut D) where
 n:=J.n
 size:=by have:=J.size;simpa[Ctx.shut]using this
 st:=fun b aa=>⟨(J.st b aa).1,(World.putObj_heap_other (fun e=>by have:=(aC.st b aa).1;omega)).trans (J.st b aa).2⟩
 bg:=J.bg
 aE:=fun i hi he=>by
  obtain⟨cK,dc,ei⟩:=J.aE i hi he;refine⟨cK,dc,fun hd=>?_⟩
  have:=((P3 cD).aE i (vH hi J.n) rfl).2.2 (dc.trans hd);grind
 os:=J.os
 tape:=J.tape
 output:=J.output
 base:=J.base
theorem XL{F:Fence}{n:Nat}{fn:Func}{tmps:Array Value}{R:Ending->World->Prop}{fG:Ctx}{eI H:ab}(aC:bA fG eI):∀(nq:List Nat) (c:Ctx),bA c H->Ext fG c->nq.Nodup->
  (∀D∈nq,fG.w.heap.size<=D∧c.jy D∧c.w.heap[D]?=some (.deferred (some [])))->(∀c',bA c' H->Ext fG c'->Bl c c'->LeavesIn F n P fn tmps R [] .returning c'.w)->
  LeavesInM F n P fn tmps R (nq.map fun D=>{target:=.collected D,args:= #[]}) .returning c.w
 |[],c,av,J,_,_,h=>h c av J ⟨bk _,fun _ h=>h,fun _ _=>rfl,fun _ _=>bk _,fun _ _ _=>⟨rfl,rfl,fun _=>rfl⟩⟩
 |D::nq,c,av,J,ag,cD,h=>by
  obtain⟨zM,qp,mI⟩:=cD D (by simp)
  refine⟨by simp,.inl ⟨D,_,rfl,run_takeDeferred mI,?_⟩⟩
  have Aa:=r1.1 ag;refine XL aC nq (c.shut D) (av.shut qp mI) (Ext.shut aC J zM mI) Aa.2 (fun E ga=>?_) fun c' aZ a7 ch=>h c' aZ a7 ?_
  ·obtain⟨aQ,aO,bF⟩:=cD E (by simp[ga])
   exact⟨aQ,aO,(World.putObj_heap_other (fun e=>Aa.1 (by rw[<-e];exact ga))).trans bF⟩
  ·have k:=P3 mI;exact⟨ch.n,ch.st,fun a aD=>(ch.cell a aD).trans (k.cell a aD),ch.bg,fun i hi he=>by
    obtain⟨cK,dc,ei⟩:=ch.aE i hi he;exact⟨cK,dc,fun hd=>(ei hd).trans ((k.aE i hi rfl).2.2 hd)⟩⟩
def Ctx.mw(c:Ctx)(b:Nat):Ctx:={c with base:=b}
theorem QQ(c:Ctx)(b:Nat):Bl c (c.mw b):=⟨bk _,fun _ h=>h,fun _ _=>rfl,fun _ _=>bk _,fun _ _ _=>⟨rfl,rfl,fun _=>rfl⟩⟩
theorem bA.mw{c:Ctx}{H:ab}(h:bA c H)(b:Nat):bA (c.mw b) H:=
 ⟨h.n,h.lt,h.inj,h.st,fun i _ hi=>(h.rep i _ hi).tZ (QQ c b) (by rw[h.n];grind) (fun _ _ h=>h) rfl (fun _=>rfl)⟩
theorem aK.mw{c:Ctx}{x:I}{v:Value}(h:aK c x v)(b:Nat):aK (c.mw b) x v:=h.tZ (QQ c b)
theorem FZ{f:FuncId}{fn:Func}{code:Code}{args:List I}{H:ab}{R:I->ab->Prop}(an:P.funcs[f]?=some fn)(aa:fn.body=some code)(ag:args.length<=fn.ntmps)
  (h:di P fn.ntmps code (rS P fn.results.toList R) (oW 0 args) H):c5 P f args H R:=by
 intro c vs hs ⟨hl,ax⟩;refine callsIn_wide.1 (callsIn_of_wp_marks (F:=Fence.wide) (n:=0) an aa trivial ?_);have aD:ko (c.mw c.w.heap.size) fn.ntmps (oW 0 args) {tmps:=vs++Array.replicate (fn.ntmps-vs.size) undef,defers:=[]}:=by
  refine⟨by simp;omega,⟨bk _,[],rfl,by simp,by simp⟩,fun t=>?_⟩
  rw[Yl,aF (bG _),Nat.sub_zero];by_cases aj:t<args.length
  ·have J:args[t]?=some args[t]:=c0 aj;have aL:vs[t]?=some (vs[t]'(by omega)):=mY (by omega)
   rw[Iz _ _ _ _ J];have:(vs++Array.replicate (fn.ntmps-vs.size) undef).getD t undef=vs[t]'(by omega):=by
    rw[Hk,A7 (by omega),aL];rfl
   rw[this];exact(ax t _ _ J aL).mw _
  ·have:args.getD t .top=.top:=by rw[eP,yW (by omega)];rfl
   rw[this];exact .top _
 refine wpIn_mono (h none (c.mw c.w.heap.size) _ (.inl rfl) (hs.mw c.w.heap.size) aD) fun e gx w' ⟨c',c1,H',ar,au,bd,bE,cE⟩=>?_
 subst ar;have key:∀{R':Prop},(AG P c1 H' fn.results.toList∧R (zp (fn.results.toList.map fun r=>(r7 P c1 H' r).v)) H')->
   LeavesInM Fence.wide 0 P fn gx.tmps (fun e w'=>∃c' x v H',e=.returned v∧c'.w=w'∧bA c' H'∧Ext c c'∧aK c' x v∧R x H') gx.defers .returning c'.w:=by
  intro _ ⟨aQ,aO⟩;obtain⟨iG,nq,aJi,fz,cD⟩:=bE.defers;rw[aJi];have pS:c'.base=c.w.heap.size:=bd.base;refine XL (hs.mw c.w.heap.size) nq c' au bd fz (fun D h=>?_) fun tg aZ a7 ch=>?_
  ·obtain⟨cK,dc,ei⟩:=cD D h;exact⟨by rw[pS]at cK;exact cK,dc,ei⟩
  ·have aIg:∀t,aK tg (look c1 t) (gx.tmps.getD t undef):=fun t=>(bE.rep t).tZ ch
   obtain⟨v,aU,a3⟩:=Yz (P:=P) aZ aIg aQ;refine⟨v,aU,tg.mw c.base,_,v,H',rfl,rfl,aZ.mw _,?_,a3.mw _,aO⟩;exact⟨a7.n,a7.size,a7.st,a7.bg,a7.aE,a7.os,a7.tape,a7.output,rfl⟩
 cases e<;>simp only[rS]at cE;case normal=>exact key (R':=True) cE
 case ret=>exact key (R':=True) cE
inductive cX (n:Nat):I->Prop
 |int (k m):cX n (.int k m)
 |bool (b):cX n (.bool b)
 |str (s):cX n (.str s)
 |agg (cs:List I) (h:∀(i:Nat) (x:I),cs[i]?=some x->cX n x):cX n (.agg cs)
 |a0 (cs:List I) (h:∀(i:Nat) (x:I),cs[i]?=some x->cX n x):cX n (.a0 cs)
 |sl (full) (es:List I) (h:∀(k:Nat) (e:I) (j:Nat) (x:I),es[k]?=some e->e.cells[j]?=some x->cX n x):cX n (.sl full es)
 |cptr (cs:List I) (h:∀(i:Nat) (x:I),cs[i]?=some x->cX n x):cX n (.cptr cs)
 |ref (i v off) (h:i<n):cX n (.ref i v off)
 |osl (s i v off len lc) (h:i<n):cX n (.osl s i v off len lc)
 |hp:cX n .hp
 |map (i) (h:i<n):cX n (.map i)
 |hQ:cX n .hQ
 |iter (i) (h:i<n):cX n (.iter i)
 |func (fn) (fs cs:List I) (h1:∀(i:Nat) (x:I),fs[i]?=some x->cX n x) (h2:∀(i:Nat) (x:I),cs[i]?=some x->cX n x):cX n (.func fn fs cs)
 |en:cX n .en
 |iface (t x) (h:cX n x):cX n (.iface t x)
 |nilIface:cX n .nilIface
 |opt (g x) (h:g=true->cX n x):cX n (.opt g x)
 |top:cX n .top
theorem As{α β:Type}{l:List α}{a:Array β}(h:a.size=l.length){i:Nat}{x:α}(J:l[i]?=some x):∃v,a[i]?=some v:=by
 have:=(cA.1 J).1;simp_all
theorem aK.cl{c:Ctx}{x:I}{v:Value}(h:aK c x v):cX c.n x:=by
 induction h with
 |int k n _=>exact .int k n
 |bool b=>exact .bool b
 |str s _=>exact .str s
 |agg cs vs hl _ ay=>exact .agg cs fun i x J=>let⟨v,aL⟩:=As hl J;ay i x v J aL
 |a0 cs vs hl _ ay=>exact .a0 cs fun i x J=>let⟨v,aL⟩:=As hl J;ay i x v J aL
 |sl full es base len cap s vs _ _ _ _ _ _ _ ay=>exact .sl full es ay
 |cptr cs a vs _ _ _ _ ay=>exact .cptr cs ay
 |ref i v off val hi=>exact .ref i v off hi
 |osl s i v off len lc val hi=>exact .osl s i v off len lc hi
 |hp=>exact .hp
 |map i val hi=>exact .map i hi
 |hQ=>exact .hQ
 |iter i val hi=>exact .iter i hi
 |func fn fs cs rP vt an al _ _ tU sD=>exact .func fn fs cs (fun i x J=>let⟨v,aL⟩:=As an J;tU i x v J aL) (fun i x J=>let⟨v,aL⟩:=As al J;sD i x v J aL)
 |en=>exact .en
 |iface t x v _ ay=>exact .iface t x ay
 |nilIface=>exact .nilIface
 |opt g x v _ _ ay=>exact .opt g x ay
 |top v=>exact .top
def Ctx.drop(c:Ctx)(n:Nat):Ctx:=
 {w:=c.w,n:=n,aE:=c.aE,bg:=c.bg,dR:=c.dR,jy:=fun b=>c.jy b∨∃i,n<=i∧i<c.n∧c.dR i=false∧c.aE i=b,base:=c.base}
theorem aK.drop{c:Ctx}{n:Nat}{x:I}{v:Value}(h:aK c x v)(al:cX n x):aK (c.drop n) x v:=by
 induction h with
 |int k n ax=>exact .int k n ax
 |bool b=>exact .bool b
 |str s ax=>exact .str s ax
 |agg cs vs hl _ ay=>cases al with|agg _ ah=>exact .agg cs vs hl fun i x v h1 h2=>ay i x v h1 h2 (ah i x h1)
 |a0 cs vs hl _ ay=>cases al with|a0 _ ah=>exact .a0 cs vs hl fun i x v h1 h2=>ay i x v h1 h2 (ah i x h1)
 |sl full es base len cap s vs h1 h2 h3 h4 cz _ pU ay=>
  cases al with
  |sl _ _ ah=>exact .sl full es base len cap s vs h1 h2 h3 (fun aP=>let⟨a,ar,au,bd,bE⟩:=h4 aP;⟨a,ar,au,.inl bd,bE⟩) cz (fun k e j x aZ a7=>ay k e j x aZ a7 (ah k e j x aZ a7)) pU
 |cptr cs a vs h1 h2 h3 _ ay=>cases al with|cptr _ ah=>exact .cptr cs a vs h1 (.inl h2) h3 fun j x g=>ay j x g (ah j x g)
 |ref i v off val hi aL aN h=>cases al with|ref _ _ _ ah=>exact .ref i v off val ah aL aN h
 |osl s i v off len lc val hi aL aN pU h1 h2=>cases al with|osl _ _ _ _ _ _ ah=>exact .osl s i v off len lc val ah aL aN pU h1 h2
 |hp=>exact .hp
 |map i val hi aN h=>cases al with|map _ ah=>exact .map i val ah aN h
 |hQ=>exact .hQ
 |iter i val hi aN h=>cases al with|iter _ ah=>exact .iter i val ah aN h
 |func fn fs cs rP vt an hj _ _ tU sD=>cases al with|func _ _ _ aZ a7=>exact .func fn fs cs rP vt an hj (fun i x v h1 h2=>tU i x v h1 h2 (aZ i x h1)) (fun i x v h1 h2=>sD i x v h1 h2 (a7 i x h1))
 |en=>exact .en
 |iface t x v _ ay=>cases al with|iface _ _ ah=>exact .iface t x v (ay ah)
 |nilIface=>exact .nilIface
 |opt g x v _ h2 ay=>cases al with|opt _ _ ah=>exact .opt g x v (fun aJ=>ay aJ (ah aJ)) h2
 |top v=>exact .top v
theorem Ext.drop{c c':Ctx}(h:Ext c c'):Ext c (c'.drop c.n):=
 ⟨bk _,h.size,fun b aa=>⟨.inl (h.st b aa).1,(h.st b aa).2⟩,h.bg,h.aE,h.os,h.tape,h.output,h.base⟩
inductive cQ (n:Nat) (H:ab):I->I->Prop
 |cl (x:I) (h:cX n x):cQ n H x x
 |agg (cs bc:List I) (hl:cs.length=bc.length) (h:∀(i:Nat) (x y:I),cs[i]?=some x->bc[i]?=some y->cQ n H x y):cQ n H (.agg cs) (.agg bc)
 |a0 (cs bc:List I) (hl:cs.length=bc.length) (h:∀(i:Nat) (x y:I),cs[i]?=some x->bc[i]?=some y->cQ n H x y):cQ n H (.a0 cs) (.a0 bc)
 |osl (s i v off len lc:Nat) (cs es:List I) (ag:n<=i) (ah:ao H i=.cells v cs) (hl:es.length=len) (hle:off+len * s<=cs.length) (hs:∀e∈es,e.cells.length=s)
   (h:∀(k j:Nat) (e x y:I),es[k]?=some e->e.cells[j]?=some y->cs[off+(k * s+j)]?=some x->cQ n H x y):cQ n H (.osl s i v off len lc) (.sl false es)
 |iface (t x y) (h:cQ n H x y):cQ n H (.iface t x) (.iface t y)
 |GC (full:Bool) (es:List I) (h:cX n (.sl full es)):cQ n H (.sl full es) (.sl false es)
 |ref (i v off:Nat) (cs bc:List I) (ag:n<=i) (ah:ao H i=.cells v cs) (hle:off+bc.length<=cs.length) (h:∀(j:Nat) (x y:I),cs[off+j]?=some x->bc[j]?=some y->cQ n H x y):cQ n H (.ref i v off) (.cptr bc)
 |func (fn:Fn) (fs cs EV EN:List I) (an:fs.length=EV.length) (al:cs.length=EN.length) (h1:∀(i:Nat) (x y:I),fs[i]?=some x->EV[i]?=some y->cQ n H x y) (h2:∀(i:Nat) (x y:I),cs[i]?=some x->EN[i]?=some y->cQ n H x y):cQ n H (.func fn fs cs) (.func fn EV EN)
 |any (x:I):cQ n H x .top
theorem cQ.sound{c:Ctx}{n:Nat}{H:ab}(av:bA c H){x y:I}(h:cQ n H x y):∀{v:Value},aK c x v->aK (c.drop n) y v:=by
 induction h with
 |cl x h=>exact fun ax=>ax.drop h
 |agg cs bc hl _ ay=>
  intro v ax;obtain⟨vs,rfl,h1,h2⟩:=ax.sd;refine .agg bc vs (by omega) fun i y v aG aL=>?_
  grind
 |a0 cs bc hl _ ay=>
  intro v ax;obtain⟨vs,rfl,h1,h2⟩:=ax.Xz;refine .a0 bc vs (by omega) fun i y v aG aL=>?_
  grind
 |osl s i v off len lc cs es ag ah hl hle hs _ ay=>
  intro val ax;have hL:=av.qP ah;obtain⟨base,cap,rfl,aZ,aIq,a7,ch⟩:=ax.ph hL;have bS:i<c.n:=by rw[av.n];exact c8 ah trivial
  cases hd:c.dR i with
  |true=>
   obtain⟨rfl,rfl⟩:=a7 hd;have:es=[]:=jg hl;subst this;exact .sl _ _ _ _ _ s (fun _ _=>undef) rfl (bk _) (fun h=>by cases h) (fun h=>absurd rfl h) (by simp) (by simp) (by omega)
  |false=>
   obtain⟨cK,m,dc,ei⟩:=ch hd;obtain⟨_,_,vs,e,cd,aa,sw,an,FJ⟩:=av.cells ah hd;refine .sl _ _ _ _ _ s (fun k j=>vs.getD (off+(k * s+j)) undef) hl.symm (by omega) (fun h=>by cases h) (fun aP=>?_) hs (fun k x j y hk aw=>?_) (by have:=ax.Gh;omega)
   ·have hlen:0<len:=by rw[<-hl];exact vF.2 aP
    have pS:base=some ⟨c.aE i,off,none⟩:=cK.resolve_left (by omega)
    refine⟨_,pS,rfl,.inr ⟨i,ag,bS,hd,rfl⟩,fun k j hk aw=>?_⟩
    have cz:k * s+j<len * s:=by
     have:(k+1) * s<=len * s:=vI s (by omega)
     rw[n1]at this;omega
    have ak:off+(k * s+j)<vs.size:=by omega
    rw[rR];show(c.w.cell? _)=_;rw[AA aa];simp[ak]
   ·have fy:=(cA.1 hk).1;have mi:=(cA.1 aw).1;have hsz:=hs x (df hk);have cz:k * s+j<len * s:=by
     have:(k+1) * s<=len * s:=vI s (by omega)
     rw[n1]at this;omega
    have al:cs[off+(k * s+j)]?=some (cs[off+(k * s+j)]'(by omega)):=c0 (by omega)
    refine ay k j x _ y hk aw al (FJ _ _ _ al ?_);simp[show off+(k * s+j)<vs.size by omega]
 |iface t x y _ ay=>
  intro v ax;cases ax with
  |iface _ _ ev aL=>exact .iface t y ev (ay aL)
 |GC full es h=>
  intro v ax;have hd:=ax.drop h;cases hd with
  |sl _ _ base len cap s vs h1 h2 h3 h4 cz eK lz=>exact .sl false es base len cap s vs h1 h2 (fun h=>by cases h) h4 cz eK lz
 |ref i v off cs bc ag ah hle _ ay=>
  intro val ax;have hL:=av.qP ah;have bS:i<c.n:=by rw[av.n];exact c8 ah trivial
  cases ax with
  |ref _ _ _ _ _ _ _ gG=>
   obtain⟨hd,rfl⟩:=gG hL;obtain⟨_,_,vs,e,cd,aa,sw,an,FJ⟩:=av.cells ah hd;refine .cptr bc _ (fun j=>vs.getD (off+j) undef) rfl (.inr ⟨i,ag,bS,hd,rfl⟩) (fun j aw=>?_) (fun j y aw=>?_)
   ·have ak:off+j<vs.size:=by omega
    rw[rR];show(c.w.cell? _)=_;rw[AA aa];simp[ak]
   ·have mi:=(cA.1 aw).1;have J:cs[off+j]?=some (cs[off+j]'(by omega)):=c0 (by omega)
    refine ay j _ y J aw (FJ _ _ _ J ?_);simp[show off+j<vs.size by omega]
 |func fn fs cs EV EN an al _ _ tU sD=>
  intro v ax;cases ax with
  |func _ _ _ rP vt aZ a7 aU a3=>
   refine .func fn EV EN rP vt (by omega) (by omega) (fun i y u aG hu=>?_) (fun i y u aG hu=>?_)
   ·have ak:=(cA.1 aG).1;have J:fs[i]?=some (fs[i]'(by omega)):=c0 (by omega)
    exact tU i _ y J aG (aU i _ u J hu)
   ·have ak:=(cA.1 aG).1;have J:cs[i]?=some (cs[i]'(by omega)):=c0 (by omega)
    exact sD i _ y J aG (a3 i _ u J hu)
 |any x=>exact fun _=>.top _
theorem bA.drop{c mG:Ctx}{H L:ab}(aC:bA mG H)(_:Ext mG c)(av:bA c (H++L)):bA (c.drop mG.n) H where
 n:=aC.n
 lt:=fun i hi hd=>by
  have cv:i<mG.n:=hi;have:=aC.n;exact av.lt i (by rw[av.n];simp;omega) hd
 inj:=fun i j b cN hi aw aa fQ re fH he=>by
  have h1:=(cA.1 hi).1;have h2:=(cA.1 aw).1;exact av.inj i j b cN (by grind) (by grind) aa fQ re fH he
 st:=fun k hk=>by
  have u2:=aC.n;have ag:=av.n;rcases hk with hk|⟨i,h1,h2,h3,rfl⟩
  ·obtain⟨aZ,a7⟩:=av.st k hk;refine⟨aZ,fun i b hi aa hd=>?_⟩
   have h1:=(cA.1 hi).1;exact a7 i b (by rw[iC h1];exact hi) aa hd
  ·refine⟨av.lt i h2 h3,fun j b aw aa hd e=>?_⟩
   have mi:=(cA.1 aw).1;have hi:(H++L)[i]?=some ((H++L)[i]'(by rw[<-ag];exact h2)):=c0 _
   have VH:=av.rep i _ hi;have wD:((H++L)[i]'(by rw[<-ag];exact h2)).live:=by
    generalize(H++L)[i]'(by rw[<-ag];exact h2)=B at VH
    cases VH with
    |gone hn=>rw[h3]at hn;cases hn
    |_=>trivial
   have:=av.inj j i b _ (by rw[iC mi];exact aw) hi aa wD hd h3 e
   omega
 rep:=fun i b hi=>by
  have cv:=(cA.1 hi).1;have u2:=aC.n;have h1:=av.rep i b (by rw[iC cv];exact hi)
  have h2:=aC.rep i b hi;cases h1 with
  |cells bg cs vs e cd aL hd ah hl an ax=>
   refine .cells bg cs vs e cd aL hd ah hl an fun j x v J nK=>(ax j x v J nK).drop ?_
   cases h2 with
   |cells _ _ vu ku aSf _ _ _ sw _ ib=>
    have aw:=(cA.1 J).1;exact(ib j x _ J (mY (by omega))).cl
   |void=>simp at J
  |void bg aL hd=>exact .void bg aL hd
  |map es clock db aL hd ah hl ax=>
   refine .map es clock db aL hd ah hl fun j p e ae he=>?_
   obtain⟨aZ,a7,ch⟩:=ax j p e ae he;cases h2 with
   |map _ _ xY _ _ _ sw ib=>
    have aw:=(cA.1 ae).1;obtain⟨aQ,aO, -⟩:=ib j p _ ae (mY (by omega))
    exact⟨aZ.drop aQ.cl,a7.drop aO.cl,ch⟩
  |h0 m since seen kl aL hd hm wG CD ah=>
   cases h2 with
   |h0 _ _ _ _ _ _ CC=>exact .h0 m since seen kl aL hd CC wG CD ah
  |k8 s pos aL hd ah pY=>exact .k8 s pos aL hd ah pY
  |loop l α N st h5 ps mE dX fn D ts aL hd hl ah hc ax=>
   cases h2 with
   |loop _ _ _ _ _ _ _ _ _ _ _ _ _ _ _ _ ib=>exact .loop l α N st h5 ps mE dX fn D ts aL hd hl ah hc fun t=>(ax t).drop (ib t).cl
  |gone hd=>exact .gone hd
theorem aBb{f:FuncId}{fn:Func}{code:Code}{args:List I}{H:ab}{R:I->Prop}(an:P.funcs[f]?=some fn)(aa:fn.body=some code)(ag:args.length<=fn.ntmps)
  (h:di P fn.ntmps code (rS P fn.results.toList fun v H'=>∃L y,H'=H++L∧cQ H.length H' v y∧R y) (oW 0 args) H):c5 P f args H (fun y H'=>R y∧H'=H):=by
 intro c vs hs aD;refine(FZ an aa ag h c vs hs aD).mono fun e w' ⟨c',x,v,H',ar,au,bd,bE,cE,L,y,h8,ny,sh⟩=>?_
 subst h8;refine⟨c'.drop c.n,y,v,H,ar,au,hs.drop bE bd,bE.drop,?_,sh,rfl⟩;have:=ny.sound bd cE;rwa[<-hs.n]at this
end
section
variable {P:Program}
theorem ly{N:Nat}{x:Operand}{y z:Code}{Q:dU}{α:a5}{H:ab}{b:Bool}(J:bb α x=.bool b)(h1:b=true->di P N y Q α H)(h2:b=false->di P N z Q α H):di P N (.cond x y z) Q α H:=by
 intro r c a ax hs aD;have:=Tr aD x;rw[J]at this;exact wpIn_cond_split this.ra (fun aa=>h1 aa r c a (Nw ax).1 hs aD) (fun aa=>h2 aa r c a (Nw ax).2 hs aD)
@[go_sem] theorem aNy(N:Nat)(y:Code)(Q:dU)(α:a5)(H:ab):zh P N y Q .normal α H=di P N y Q α H:=rfl
@[go_sem] theorem aO6(N:Nat)(y:Code)(Q:dU)(α:a5)(H:ab):zh P N y Q .ret α H=Q .ret α H:=rfl
@[go_sem] theorem aOC(N i:Nat)(y:Code)(Q:dU)(α:a5)(H:ab):zh P N y Q (.exit i) α H=Q (.exit i) α H:=rfl
@[go_sem] theorem aMX(i:Nat)(Q:dU)(α:a5)(H:ab):w7 i Q .normal α H=Q .normal α H:=rfl
@[go_sem] theorem aOD(i:Nat)(Q:dU)(α:a5)(H:ab):w7 i Q .ret α H=Q .ret α H:=rfl
@[go_sem] theorem aNU(i j:Nat)(Q:dU)(α:a5)(H:ab):w7 i Q (.exit j) α H=if j=i then Q .normal α H else Q (.exit j) α H:=by
 simp only[w7];by_cases h:j=i<;>simp[h]
attribute [go_sem] Ug rS AG r7 zp List.map_cons List.map_nil oW
@[go_sem] theorem Rc(d:Nat)(v:I)(α:a5)(t:Nat):look ((d,v)::α) t=if d=t then v else look α t:=by
 simp only[look];by_cases h:d=t
 ·simp[h]
 ·have aa:(d==t)=false:=by simpa using h
  simp[h,aa]
@[go_sem] theorem aQz(t:Nat):look [] t=.top:=rfl
attribute [go_sem] cY bb cT Dx if_true if_false
@[go_sem] theorem aOE(n:Int)(h1: -9223372036854775808<=n)(h2:n<=9223372036854775807):kM (.int .i64 n)=.int .i64 n:=by
 have:uG .i64 n=true:=AZ.2 (oM.2 ⟨h1,h2⟩);simp[kM,this]
@[go_sem] theorem aO7(n:Int)(h1:0<=n)(h2:n<=255):kM (.int .u8 n)=.int .u8 n:=by
 have:uG .u8 n=true:=AZ.2 (H2.2 ⟨h1,h2⟩);simp[kM,this]
@[go_sem] theorem aOc(n:Int)(h1: -2147483648<=n)(h2:n<=2147483647):kM (.int .i32 n)=.int .i32 n:=by
 have:uG .i32 n=true:=AZ.2 (T1.2 ⟨h1,h2⟩);simp[kM,this]
@[go_sem] theorem aOd(n:Int)(h1:0<=n)(h2:n<=18446744073709551615):kM (.int .u64 n)=.int .u64 n:=by
 have:uG .u64 n=true:=AZ.2 ⟨h1,h2⟩;simp[kM,this]
@[go_sem] theorem aOe(n:Int)(h1:0<=n)(h2:n<=4294967295):kM (.int .u32 n)=.int .u32 n:=by
 have:uG .u32 n=true:=AZ.2 ⟨h1,h2⟩;simp[kM,this]
@[go_sem] theorem aOf(n:Int)(h1:0<=n)(h2:n<=65535):kM (.int .u16 n)=.int .u16 n:=by
 have:uG .u16 n=true:=AZ.2 ⟨h1,h2⟩;simp[kM,this]
@[go_sem] theorem aNV(b:Bool):kM (.bool b)=.bool b:=rfl
@[go_sem] theorem aMY:kM (.pointer none)=.hp:=rfl
@[go_sem] theorem aM7:kM (.slice none 0 0)=.sl true []:=rfl
@[go_sem] theorem aMZ:kM (.map none)=.hQ:=rfl
@[go_sem] theorem aML:kM .nilFunc=.en:=rfl
@[go_sem] theorem aM8:kM .nilIface=.nilIface:=rfl
@[go_sem] theorem aOg(s:ByteArray)(h:s.data.toList.length<=9223372036854775807):kM (.string s)=.str s.data.toList:=by
 have:Nat.ble s.data.toList.length 9223372036854775807=true:=Nat.ble_eq_true_of_le h;simp only[kM,this,cond_true]
@[go_sem] theorem aOh{α:Type}(l:List α):(l.toArray).toList=l:=rfl
def ja:Op->Bool
 |.pick _ _ _=>false
 |.call ⟨.builtin _,_,_⟩=>true
 |.call _=>false
 |.next _ b=>b
 |.binOp _ _ _ _ _=>false
 |_=>true
def hZ:Op->Bool
 |.pick _ _ _=>false
 |.call ⟨.builtin _,_,_⟩=>true
 |.call _=>false
 |_=>true
theorem ej{b:Bool}(h:b=true):b=true:=h
def gQ(op:Op):List Operand:=op.operands.toList
@[go_sem] theorem aOW(x:Operand):ja (.move x)=true:=ej rfl
@[go_sem] theorem aOX(x:Operand):hZ (.move x)=true:=ej rfl
@[go_sem] theorem aQA(x:Operand):gQ (.move x)=[x]:=rfl
@[go_sem] theorem aNW(x:Operand):ja (.assign x)=true:=ej rfl
@[go_sem] theorem aNX(x:Operand):hZ (.assign x)=true:=ej rfl
@[go_sem] theorem aOi(x:Operand):gQ (.assign x)=[x]:=rfl
@[go_sem] theorem aOj(t:TypeId):ja (.alloc t)=true:=ej rfl
@[go_sem] theorem aOk(t:TypeId):hZ (.alloc t)=true:=ej rfl
@[go_sem] theorem aOY(t:TypeId):gQ (.alloc t)=[]:=rfl
@[go_sem] theorem aQB(t:TypeId)(x:Operand):ja (.box t x)=true:=ej rfl
@[go_sem] theorem aQC(t:TypeId)(x:Operand):hZ (.box t x)=true:=ej rfl
@[go_sem] theorem aQG(t:TypeId)(x:Operand):gQ (.box t x)=[x]:=rfl
@[go_sem] theorem aOl(t:TypeId)(ps:Array (Nat×Operand)):ja (.build t ps)=true:=ej rfl
@[go_sem] theorem aOm(t:TypeId)(ps:Array (Nat×Operand)):hZ (.build t ps)=true:=ej rfl
@[go_sem] theorem aOZ(t:TypeId)(ps:Array (Nat×Operand)):gQ (.build t ps)=(ps.toList.map (·.2)):=rfl
@[go_sem] theorem aMw(t:TypeId)(n:Nat)(ps:Array (Nat×Operand)):ja (.buildSlice t n ps)=true:=ej rfl
@[go_sem] theorem aMx(t:TypeId)(n:Nat)(ps:Array (Nat×Operand)):hZ (.buildSlice t n ps)=true:=ej rfl
@[go_sem] theorem aMM(t:TypeId)(n:Nat)(ps:Array (Nat×Operand)):gQ (.buildSlice t n ps)=(ps.toList.map (·.2)):=rfl
@[go_sem] theorem aO0(t:TypeId)(x:Operand):ja (.load t x)=true:=ej rfl
@[go_sem] theorem aO1(t:TypeId)(x:Operand):hZ (.load t x)=true:=ej rfl
@[go_sem] theorem aQD(t:TypeId)(x:Operand):gQ (.load t x)=[x]:=rfl
@[go_sem] theorem aOn(t:TypeId)(x y:Operand):ja (.store t x y)=true:=ej rfl
@[go_sem] theorem aOo(t:TypeId)(x y:Operand):hZ (.store t x y)=true:=ej rfl
@[go_sem] theorem aO2(t:TypeId)(x y:Operand):gQ (.store t x y)=[x,y]:=rfl
@[go_sem] theorem aM0(x:Operand):ja (.nilCheck x)=true:=ej rfl
@[go_sem] theorem aM1(x:Operand):hZ (.nilCheck x)=true:=ej rfl
@[go_sem] theorem aM9(x:Operand):gQ (.nilCheck x)=[x]:=rfl
@[go_sem] theorem aOp(op:BinOp)(t t':TypeId)(x y:Operand):hZ (.binOp op t x y t')=true:=ej rfl
@[go_sem] theorem aO3(op:BinOp)(t t':TypeId)(x y:Operand):gQ (.binOp op t x y t')=[x,y]:=rfl
@[go_sem] theorem aO4(op:UnOp)(t:TypeId)(x:Operand):ja (.unOp op t x)=true:=ej rfl
@[go_sem] theorem aO5(op:UnOp)(t:TypeId)(x:Operand):hZ (.unOp op t x)=true:=ej rfl
@[go_sem] theorem aQE(op:UnOp)(t:TypeId)(x:Operand):gQ (.unOp op t x)=[x]:=rfl
@[go_sem] theorem aNa(s d:TypeId)(x:Operand):ja (.convert s d x)=true:=ej rfl
@[go_sem] theorem aNb(s d:TypeId)(x:Operand):hZ (.convert s d x)=true:=ej rfl
@[go_sem] theorem aNY(s d:TypeId)(x:Operand):gQ (.convert s d x)=[x]:=rfl
@[go_sem] theorem aOq(t:TypeId)(x:Operand):ja (.makeInterface t x)=true:=ej rfl
@[go_sem] theorem aOr(t:TypeId)(x:Operand):hZ (.makeInterface t x)=true:=ej rfl
@[go_sem] theorem aPD(t:TypeId)(x:Operand):gQ (.makeInterface t x)=[x]:=rfl
@[go_sem] theorem aM2(fn:Go.Fn)(f cs:Array Operand):ja (.makeFunc fn f cs)=true:=ej rfl
@[go_sem] theorem aM3(fn:Go.Fn)(f cs:Array Operand):hZ (.makeFunc fn f cs)=true:=ej rfl
@[go_sem] theorem aNc(fn:Go.Fn)(f cs:Array Operand):gQ (.makeFunc fn f cs)=(f++cs).toList:=rfl
@[go_sem] theorem aOs(t:TypeId)(x:Operand)(lo hi mx:Option Operand):ja (.slice t x lo hi mx)=true:=ej rfl
@[go_sem] theorem aOt(t:TypeId)(x:Operand)(lo hi mx:Option Operand):hZ (.slice t x lo hi mx)=true:=ej rfl
@[go_sem] theorem aPE(t:TypeId)(x:Operand)(lo hi mx:Option Operand):gQ (.slice t x lo hi mx)=(#[x]++lo.toArray++hi.toArray++mx.toArray).toList:=rfl
@[go_sem] theorem aMA(t:TypeId)(x:Operand)(f:Nat):ja (.fieldAddr t x f)=true:=ej rfl
@[go_sem] theorem aMB(t:TypeId)(x:Operand)(f:Nat):hZ (.fieldAddr t x f)=true:=ej rfl
@[go_sem] theorem aM4(t:TypeId)(x:Operand)(f:Nat):gQ (.fieldAddr t x f)=[x]:=rfl
@[go_sem] theorem aOu(t:TypeId)(x:Operand)(f:Nat):ja (.field t x f)=true:=ej rfl
@[go_sem] theorem aOv(t:TypeId)(x:Operand)(f:Nat):hZ (.field t x f)=true:=ej rfl
@[go_sem] theorem aPF(t:TypeId)(x:Operand)(f:Nat):gQ (.field t x f)=[x]:=rfl
@[go_sem] theorem aMC(t:TypeId)(x i:Operand):ja (.indexAddr t x i)=true:=ej rfl
@[go_sem] theorem aMD(t:TypeId)(x i:Operand):hZ (.indexAddr t x i)=true:=ej rfl
@[go_sem] theorem aM5(t:TypeId)(x i:Operand):gQ (.indexAddr t x i)=[x,i]:=rfl
@[go_sem] theorem aOw(t:TypeId)(x i:Operand):ja (.index t x i)=true:=ej rfl
@[go_sem] theorem aOx(t:TypeId)(x i:Operand):hZ (.index t x i)=true:=ej rfl
@[go_sem] theorem aPG(t:TypeId)(x i:Operand):gQ (.index t x i)=[x,i]:=rfl
@[go_sem] theorem aMy(x:Operand)(u t:TypeId)(b:Bool):ja (.typeAssert x u t b)=true:=ej rfl
@[go_sem] theorem aMz(x:Operand)(u t:TypeId)(b:Bool):hZ (.typeAssert x u t b)=true:=ej rfl
@[go_sem] theorem aME(x:Operand)(u t:TypeId)(b:Bool):gQ (.typeAssert x u t b)=[x]:=rfl
@[go_sem] theorem aNd(x:Operand)(i:Nat):ja (.extract x i)=true:=ej rfl
@[go_sem] theorem aNe(x:Operand)(i:Nat):hZ (.extract x i)=true:=ej rfl
@[go_sem] theorem aNZ(x:Operand)(i:Nat):gQ (.extract x i)=[x]:=rfl
@[go_sem] theorem aMF(t:TypeId)(x y:Operand):ja (.makeSlice t x y)=true:=ej rfl
@[go_sem] theorem aMG(t:TypeId)(x y:Operand):hZ (.makeSlice t x y)=true:=ej rfl
@[go_sem] theorem aMN(t:TypeId)(x y:Operand):gQ (.makeSlice t x y)=[x,y]:=rfl
@[go_sem] theorem aOy(t:TypeId)(x:Operand):ja (.range t x)=true:=ej rfl
@[go_sem] theorem aOz(t:TypeId)(x:Operand):hZ (.range t x)=true:=ej rfl
@[go_sem] theorem aPH(t:TypeId)(x:Operand):gQ (.range t x)=[x]:=rfl
@[go_sem] theorem aPI(x:Operand):ja (.next x true)=true:=ej rfl
@[go_sem] theorem aPJ(x:Operand):hZ (.next x true)=true:=ej rfl
@[go_sem] theorem aQF(x:Operand):gQ (.next x true)=[x]:=rfl
@[go_sem] theorem aNf(b:Builtin)(xs:Array Operand)(ts:Array TypeId):ja (.call ⟨.builtin b,xs,ts⟩)=true:=ej rfl
@[go_sem] theorem aNg(b:Builtin)(xs:Array Operand)(ts:Array TypeId):hZ (.call ⟨.builtin b,xs,ts⟩)=true:=ej rfl
@[go_sem] theorem aN0(b:Builtin)(xs:Array Operand)(ts:Array TypeId):gQ (.call ⟨.builtin b,xs,ts⟩)=((#[]:Array Operand)++xs).toList:=rfl
@[go_sem] theorem aNh(t:TypeId):ja (.makeMap t none)=true:=ej rfl
@[go_sem] theorem aNi(t:TypeId):hZ (.makeMap t none)=true:=ej rfl
@[go_sem] theorem aN1(t:TypeId):gQ (.makeMap t none)=[]:=rfl
@[go_sem] theorem aNA(t:TypeId)(x y:Operand)(b:Bool):ja (.lookup t x y b)=true:=ej rfl
@[go_sem] theorem aNB(t:TypeId)(x y:Operand)(b:Bool):hZ (.lookup t x y b)=true:=ej rfl
@[go_sem] theorem aOA(t:TypeId)(x y:Operand)(b:Bool):gQ (.lookup t x y b)=[x,y]:=rfl
@[go_sem] theorem aOB(x:Operand):ja (.entry x)=true:=ej rfl
@[go_sem] theorem aN2(x:Operand):hZ (.entry x)=true:=ej rfl
@[go_sem] theorem aPK(x:Operand):gQ (.entry x)=[x]:=rfl
@[go_sem] theorem aMH(t:TypeId)(x y z:Operand):ja (.mapUpdate t x y z)=true:=ej rfl
@[go_sem] theorem aMI(t:TypeId)(x y z:Operand):hZ (.mapUpdate t x y z)=true:=ej rfl
@[go_sem] theorem aMO(t:TypeId)(x y z:Operand):gQ (.mapUpdate t x y z)=[x,y,z]:=rfl
@[go_sem] theorem aNC(t:TypeId)(x y z:Operand):ja (.insert t x y z)=true:=ej rfl
@[go_sem] theorem aND(t:TypeId)(x y z:Operand):hZ (.insert t x y z)=true:=ej rfl
@[go_sem] theorem aN3(t:TypeId)(x y z:Operand):gQ (.insert t x y z)=[x,y,z]:=rfl
attribute [go_sem] cn qR
@[go_sem] theorem aP9(s:List UInt8):jE .string (.str s)=true:=ej rfl
@[go_sem] theorem aQa(k:IntKind)(n:Int):jE (.int k) (.int k n)=true:=by simp[jE]
section
variable (all os:List Oper) (α:a5) (H:ab) (k:a5->ab->Prop) (iL:a5->Prop) (dst:Option Tmp) (ty:TypeId) (pos:String) (after:Array Edge)
def Ic(P:Program)(all os:List Oper)(dst:Option Tmp)(α:a5)(k:a5->ab->Prop):I->ab->Prop:=fun v H'=>hN P all os (cY dst v α) H' k
def MO(P:Program)(all os:List Oper)(dst:Option Tmp)(g:Bool)(α:a5)(k:a5->ab->Prop):I->ab->Prop:=fun v H=>hN P all os (cY dst (.opt g v) α) H k
def Mk(P:Program)(all:List Oper)(H:ab)(os:List Oper)(dst:Option Tmp)(α:a5)(iL:a5->Prop):I->Prop:=fun v=>iv P all H os (cY dst v α) iL
def Mg(P:Program)(all:List Oper)(H:ab)(os:List Oper)(dst:Option Tmp)(g:Bool)(α:a5)(iL:a5->Prop):I->Prop:=fun v=>iv P all H os (cY dst (.opt g v) α) iL
def Ua(P:Program)(all os:List Oper)(dst:Option Tmp)(α:a5)(H:ab)(k:a5->ab->Prop):I->Prop:=fun v=>hN P all os (cY dst v α) H k
@[go_sem] theorem aQb:hN P all [] α H k=k α H:=rfl
@[go_sem] theorem aPL:iv P all H [] α iL=iL α:=rfl
@[go_sem] theorem aPM(x y z:Operand):hN P all (⟨dst,.pick x y z,ty,pos,after,none⟩::os) α H k=
  ((jL true (bb α x) (bb α y) (bb α z)).s∧hN P all os (cY dst (jL true (bb α x) (bb α y) (bb α z)).v α) H k):=rfl
@[go_sem] theorem aN4(f:Operand)(xs:Array Operand)(ts:Array TypeId):hN P all (⟨dst,.call ⟨.value f,xs,ts⟩,ty,pos,after,none⟩::os) α H k=
  pd P (bb α f) (xs.toList.map (bb α)) H (Ic P all os dst α k):=rfl
@[go_sem] theorem aNE(r:Operand)(m:String)(xs:Array Operand)(ts:Array TypeId):hN P all (⟨dst,.call ⟨.invoke r m,xs,ts⟩,ty,pos,after,none⟩::os) α H k=
  pd P (oS P m (bb α r)) (xs.toList.map (bb α)) H (Ic P all os dst α k):=rfl
@[go_sem] theorem aNj(r:Operand)(m:String)(xs:Array Operand)(ts:Array TypeId)(j:Nat)(w:Bool):hN P all (⟨dst,.call ⟨.invoke r m,xs,ts⟩,ty,pos,after,some (j,w)⟩::os) α H k=
  (hq (bw α (br all j))∧jJ (bR (bw α (br all j)) w) α (r::xs.toList)∧
    BE P (bR (bw α (br all j)) w) (oS P m (cT α r)) (xs.toList.map (cT α)) H (MO P all os dst (bR (bw α (br all j)) w) α k)):=rfl
@[go_sem] theorem aNk(r:Operand)(m:String)(xs:Array Operand)(ts:Array TypeId):iv P all H (⟨dst,.call ⟨.invoke r m,xs,ts⟩,ty,pos,after,none⟩::os) α iL=
  ou P true (oS P m (bb α r)) (xs.toList.map (bb α)) H (Mk P all H os dst α iL):=rfl
@[go_sem] theorem aMP(r:Operand)(m:String)(xs:Array Operand)(ts:Array TypeId)(j:Nat)(w:Bool):iv P all H (⟨dst,.call ⟨.invoke r m,xs,ts⟩,ty,pos,after,some (j,w)⟩::os) α iL=
  (hq (bw α (br all j))∧jJ (bR (bw α (br all j)) w) α (r::xs.toList)∧
    ou P (bR (bw α (br all j)) w) (oS P m (cT α r)) (xs.toList.map (cT α)) H (Mg P all H os dst (bR (bw α (br all j)) w) α iL)):=rfl
@[go_sem] theorem aN5(x y z:Operand)(j:Nat)(w:Bool):hN P all (⟨dst,.pick x y z,ty,pos,after,some (j,w)⟩::os) α H k=
  (hq (bw α (br all j))∧((bR (bw α (br all j)) w)=true->(jL (bR (bw α (br all j)) w) (bb α x) (bb α y) (bb α z)).s)∧
    hN P all os (cY dst (.opt (bR (bw α (br all j)) w) (jL (bR (bw α (br all j)) w) (bb α x) (bb α y) (bb α z)).v) α) H k):=rfl
@[go_sem] theorem aNF(f:Operand)(xs:Array Operand)(ts:Array TypeId)(j:Nat)(w:Bool):hN P all (⟨dst,.call ⟨.value f,xs,ts⟩,ty,pos,after,some (j,w)⟩::os) α H k=
  (hq (bw α (br all j))∧jJ (bR (bw α (br all j)) w) α (f::xs.toList)∧
   BE P (bR (bw α (br all j)) w) (cT α f) (xs.toList.map (cT α)) H (MO P all os dst (bR (bw α (br all j)) w) α k)):=rfl
@[go_sem] theorem aN6(x y z:Operand):iv P all H (⟨dst,.pick x y z,ty,pos,after,none⟩::os) α iL=
  ((jL true (bb α x) (bb α y) (bb α z)).s∧iv P all H os (cY dst (jL true (bb α x) (bb α y) (bb α z)).v α) iL):=rfl
@[go_sem] theorem aNG(f:Operand)(xs:Array Operand)(ts:Array TypeId):iv P all H (⟨dst,.call ⟨.value f,xs,ts⟩,ty,pos,after,none⟩::os) α iL=
  ou P true (bb α f) (xs.toList.map (bb α)) H (Mk P all H os dst α iL):=rfl
@[go_sem] theorem aNH(x y z:Operand)(j:Nat)(w:Bool):iv P all H (⟨dst,.pick x y z,ty,pos,after,some (j,w)⟩::os) α iL=
  (hq (bw α (br all j))∧((bR (bw α (br all j)) w)=true->(jL (bR (bw α (br all j)) w) (bb α x) (bb α y) (bb α z)).s)∧
    iv P all H os (cY dst (.opt (bR (bw α (br all j)) w) (jL (bR (bw α (br all j)) w) (bb α x) (bb α y) (bb α z)).v) α) iL):=rfl
@[go_sem] theorem aNl(f:Operand)(xs:Array Operand)(ts:Array TypeId)(j:Nat)(w:Bool):iv P all H (⟨dst,.call ⟨.value f,xs,ts⟩,ty,pos,after,some (j,w)⟩::os) α iL=
  (hq (bw α (br all j))∧jJ (bR (bw α (br all j)) w) α (f::xs.toList)∧
   ou P (bR (bw α (br all j)) w) (cT α f) (xs.toList.map (cT α)) H (Mg P all H os dst (bR (bw α (br all j)) w) α iL)):=rfl
@[go_sem] theorem aPN(x:Operand):hN P all (⟨dst,.next x false,ty,pos,after,none⟩::os) α H k=Iw (bb α x) H (Ic P all os dst α k):=rfl
@[go_sem] theorem aN7(op:BinOp)(t t':TypeId)(x y:Operand):hN P all (⟨dst,.binOp op t x y t',ty,pos,after,none⟩::os) α H k=
  bif mo op&&vh y then Ev P t H (bb α x) (Ua P all os dst α H k)
  else((zw P (rC x||rC y) op t (bb α x) (bb α y)).s∧hN P all os (cY dst (zw P (rC x||rC y) op t (bb α x) (bb α y)).v α) H k):=rfl
@[go_sem] theorem aQc(op:Op)(h:ja op=true):hN P all (⟨dst,op,ty,pos,after,none⟩::os) α H k=
  ((cn P op (bb α) H).s∧hN P all os (cY dst (cn P op (bb α) H).v α) (cn P op (bb α) H).H k):=by
 cases op<;>first|rfl|(cases h;done)|skip
 ·rename_i x b;cases b<;>first|rfl|cases h
 ·rename_i c;obtain⟨ce,xs,ts⟩:=c;cases ce<;>first|rfl|cases h
@[go_sem] theorem aPO(op:Op)(j:Nat)(w:Bool)(h:hZ op=true):hN P all (⟨dst,op,ty,pos,after,some (j,w)⟩::os) α H k=
  (hq (bw α (br all j))∧jJ (bR (bw α (br all j)) w) α (gQ op)∧(bR (bw α (br all j)) w=true->(cn P op (cT α) H).s∧(cn P op (cT α) H).H=H)∧
   hN P all os (cY dst (.opt (bR (bw α (br all j)) w) (cn P op (cT α) H).v) α) H k):=by
 cases op<;>first|rfl|(cases h;done)|skip
 rename_i c;obtain⟨ce,xs,ts⟩:=c;cases ce<;>first|rfl|cases h
@[go_sem] theorem aPP(op:Op)(h:hZ op=true):iv P all H (⟨dst,op,ty,pos,after,none⟩::os) α iL=
  ((cn P op (bb α) H).s∧(cn P op (bb α) H).H=H∧iv P all H os (cY dst (cn P op (bb α) H).v α) iL):=by
 cases op<;>first|rfl|(cases h;done)|skip
 rename_i c;obtain⟨ce,xs,ts⟩:=c;cases ce<;>first|rfl|cases h
@[go_sem] theorem aN8(op:Op)(j:Nat)(w:Bool)(h:hZ op=true):iv P all H (⟨dst,op,ty,pos,after,some (j,w)⟩::os) α iL=
  (hq (bw α (br all j))∧jJ (bR (bw α (br all j)) w) α (gQ op)∧(bR (bw α (br all j)) w=true->(cn P op (cT α) H).s∧(cn P op (cT α) H).H=H)∧
   iv P all H os (cY dst (.opt (bR (bw α (br all j)) w) (cn P op (cT α) H).v) α) iL):=by
 cases op<;>first|rfl|(cases h;done)|skip
 rename_i c;obtain⟨ce,xs,ts⟩:=c;cases ce<;>first|rfl|cases h
end
attribute [go_sem] true_and and_true implies_true and_self not_true_eq_false Bool.not_true Bool.not_false eq_self decide_true decide_false Bool.true_eq_false Bool.false_eq_true
 DG DM List.getD_nil List.set_cons_zero List.set_cons_succ cm ew bt cr gi gK b2
 List.drop_zero List.drop_succ_cons List.drop_nil xr List.take_succ_cons List.take_nil rY Bf mC uz vJ
 List.size_toArray List.toList_toArray j6 A9 Array.toList_empty
@[go_sem] theorem rf(h L:ab):ao (h++L) h.length=L.getD 0 .gone:=by
 simp only[ao,eP];rw[qf (bk _)];simp
@[go_sem] theorem Dl(h L:ab)(k:Nat):ao (h++L) (h.length+k)=L.getD k .gone:=by
 simp only[ao,eP];rw[qf (by omega)];simp
@[go_sem] theorem Rd(h L:ab)(b:bu):ai (h++L) h.length b=h++L.set 0 b:=by
 simp[ai]
@[go_sem] theorem Ly(h L:ab)(k:Nat)(b:bu):ai (h++L) (h.length+k) b=h++L.set k b:=by
 simp[ai]
section
variable (P) (t:TypeId) (k:IntKind) (a b:Int) (s u:List UInt8) (x y:Bool)
@[go_sem] theorem aQd:e0 P .add t (.int k a) (.int k b)=⟨.int k (k.wrap (a+b)),True⟩:=by simp[e0,lv]
@[go_sem] theorem aQe:e0 P .sub t (.int k a) (.int k b)=⟨.int k (k.wrap (a-b)),True⟩:=by simp[e0,lv]
@[go_sem] theorem aQf:e0 P .mul t (.int k a) (.int k b)=⟨.int k (k.wrap (a * b)),True⟩:=by simp[e0,lv]
@[go_sem] theorem aQg:e0 P .quo t (.int k a) (.int k b)=⟨.int k (k.wrap (a.tdiv b)),b≠0⟩:=by simp[e0,lv]
@[go_sem] theorem aQh:e0 P .rem t (.int k a) (.int k b)=⟨.int k (a.tmod b),b≠0⟩:=by simp[e0,lv]
@[go_sem] theorem aQi:e0 P .and t (.int k a) (.int k b)=⟨.int k (qG .and k a b),True⟩:=by simp[e0,lv]
@[go_sem] theorem aQH:e0 P .or t (.int k a) (.int k b)=⟨.int k (qG .or k a b),True⟩:=by simp[e0,lv]
@[go_sem] theorem aQj:e0 P .xor t (.int k a) (.int k b)=⟨.int k (qG .xor k a b),True⟩:=by simp[e0,lv]
@[go_sem] theorem aQk:e0 P .eql t (.int k a) (.int k b)=⟨.bool (decide (a=b)),True⟩:=by simp[e0,lv]
@[go_sem] theorem aQl:e0 P .neq t (.int k a) (.int k b)=⟨.bool (!decide (a=b)),True⟩:=by simp[e0,lv]
@[go_sem] theorem aQm:e0 P .lss t (.int k a) (.int k b)=⟨.bool (decide (a<b)),True⟩:=by simp[e0,lv]
@[go_sem] theorem aQn:e0 P .leq t (.int k a) (.int k b)=⟨.bool (decide (a<=b)),True⟩:=by simp[e0,lv]
@[go_sem] theorem aQo:e0 P .gtr t (.int k a) (.int k b)=⟨.bool (decide (b<a)),True⟩:=by simp[e0,lv]
@[go_sem] theorem aQp:e0 P .geq t (.int k a) (.int k b)=⟨.bool (decide (b<=a)),True⟩:=by simp[e0,lv]
@[go_sem] theorem aQq(k':IntKind):e0 P .shl t (.int k a) (.int k' b)=⟨.int k (k.wrap (a * 2 ^ (min b.toNat k.bits))),0<=b⟩:=by simp[e0,lv]
@[go_sem] theorem aQr(k':IntKind):e0 P .shr t (.int k a) (.int k' b)=⟨.int k (a.fdiv (2 ^ (min b.toNat k.bits))),0<=b⟩:=by simp[e0,lv]
@[go_sem] theorem aPQ:e0 P .add t (.str s) (.str u)=⟨.str (s++u),s.length+u.length<=9223372036854775807⟩:=by simp[e0,GR]
@[go_sem] theorem aPR:e0 P .eql t (.str s) (.str u)=⟨.bool (decide (s=u)),True⟩:=by simp[e0,GR]
@[go_sem] theorem aPS:e0 P .neq t (.str s) (.str u)=⟨.bool (!decide (s=u)),True⟩:=by simp[e0,GR]
@[go_sem] theorem aPT:e0 P .eql t (.bool x) (.bool y)=⟨.bool (x==y),P.underlying t=some .bool⟩:=by simp[e0]
@[go_sem] theorem aPU:e0 P .neq t (.bool x) (.bool y)=⟨.bool (!(x==y)),P.underlying t=some .bool⟩:=by simp[e0]
@[go_sem] theorem aPV(xs ys:List I):e0 P .eql t (.agg xs) (.agg ys)=⟨.bool (oN P 30 t (.agg xs) (.agg ys)).b,P.eqGuardType P.depth t=false∧(oN P 30 t (.agg xs) (.agg ys)).s⟩:=by simp[e0]
@[go_sem] theorem aPW(xs ys:List I):e0 P .neq t (.agg xs) (.agg ys)=⟨.bool (!(oN P 30 t (.agg xs) (.agg ys)).b),P.eqGuardType P.depth t=false∧(oN P 30 t (.agg xs) (.agg ys)).s⟩:=by simp[e0]
end
@[go_sem] theorem aPX(cs:List I):(I.agg cs).cells=cs:=rfl
@[go_sem] theorem aPY(k:IntKind)(n:Int):I.cells (.int k n)=[.int k n]:=rfl
@[go_sem] theorem aN9(b:Bool):I.cells (.bool b)=[.bool b]:=rfl
@[go_sem] theorem aPZ(s:List UInt8):I.cells (.str s)=[.str s]:=rfl
@[go_sem] theorem aP0(cs:List I):I.cells (.a0 cs)=[.a0 cs]:=rfl
@[go_sem] theorem aQs(f:Bool)(es:List I):I.cells (.sl f es)=[.sl f es]:=rfl
@[go_sem] theorem aOa(cs:List I):I.cells (.cptr cs)=[.cptr cs]:=rfl
@[go_sem] theorem aP1(i v o:Nat):I.cells (.ref i v o)=[.ref i v o]:=rfl
@[go_sem] theorem aP2(a b c d e f:Nat):I.cells (.osl a b c d e f)=[.osl a b c d e f]:=rfl
@[go_sem] theorem aNm:I.cells (.hp)=[.hp]:=rfl
@[go_sem] theorem aPd(i:Nat):I.cells (.map i)=[.map i]:=rfl
@[go_sem] theorem aNn:I.cells (.hQ)=[.hQ]:=rfl
@[go_sem] theorem aOb(i:Nat):I.cells (.iter i)=[.iter i]:=rfl
@[go_sem] theorem aOF(f:Fn)(a b:List I):I.cells (.func f a b)=[.func f a b]:=rfl
@[go_sem] theorem aMQ:I.cells (.en)=[.en]:=rfl
@[go_sem] theorem aNI(t:TypeId)(x:I):I.cells (.iface t x)=[.iface t x]:=rfl
@[go_sem] theorem aMJ:I.cells (.nilIface)=[.nilIface]:=rfl
@[go_sem] theorem aPe(g:Bool)(x:I):I.cells (.opt g x)=[.opt g x]:=rfl
@[go_sem] theorem aPf:I.cells (.top)=[.top]:=rfl
@[go_sem] theorem aPg{α:Type}:(none:Option α).toArray.toList=[]:=rfl
@[go_sem] theorem aPh{α:Type}(x:α):(some x).toArray.toList=[x]:=rfl
@[go_sem] theorem aPi:mo .eql=true:=rfl
@[go_sem] theorem aPj:mo .neq=false:=rfl
@[go_sem] theorem aPk:mo .add=false:=rfl
@[go_sem] theorem aPl:mo .sub=false:=rfl
@[go_sem] theorem aPm:mo .mul=false:=rfl
@[go_sem] theorem aPn:mo .quo=false:=rfl
@[go_sem] theorem aPo:mo .rem=false:=rfl
@[go_sem] theorem aPp:mo .and=false:=rfl
@[go_sem] theorem aQt:mo .or=false:=rfl
@[go_sem] theorem aPq:mo .xor=false:=rfl
@[go_sem] theorem aNo:mo .andNot=false:=rfl
@[go_sem] theorem aPr:mo .shl=false:=rfl
@[go_sem] theorem aPs:mo .shr=false:=rfl
@[go_sem] theorem aPt:mo .lss=false:=rfl
@[go_sem] theorem aPu:mo .leq=false:=rfl
@[go_sem] theorem aPv:mo .gtr=false:=rfl
@[go_sem] theorem aPw:mo .geq=false:=rfl
@[go_sem] theorem aOG(t:Nat):vh (.tmp t)=false:=rfl
@[go_sem] theorem aMR(t:Nat):vh (.global t)=false:=rfl
@[go_sem] theorem aNJ(t:Nat):vh (.func t)=false:=rfl
@[go_sem] theorem aNp(v:Value):vh (.const v)=sN v:=rfl
@[go_sem] theorem aOH(k:IntKind)(n:Int):sN (.int k n)=false:=rfl
@[go_sem] theorem aNK(b:Bool):sN (.bool b)=false:=rfl
@[go_sem] theorem aOI(s:ByteArray):sN (.string s)=false:=rfl
@[go_sem] theorem aNL:sN .nilIface=false:=rfl
@[go_sem] theorem aNM:sN .nilFunc=false:=rfl
@[go_sem] theorem aOJ(a:Option Addr):sN (.pointer a)=false:=rfl
@[go_sem] theorem aOK(a:Option Nat):sN (.map a)=false:=rfl
@[go_sem] theorem aOL(a:Array Value):sN (.agg a)=false:=rfl
@[go_sem] theorem aPx:sN (.slice none 0 0)=true:=rfl
attribute [go_sem] Ev
attribute [go_sem] EE Nm rC Nl zw BL B6 B4 B5 BY oS Im Ey IC EG sK ID B0 IE B1 IF BV IG bad B9 BZ Nk
section
variable {P:Program}
@[go_sem] theorem aNq(ts eO:TypeId)(f:Bool)(x:I)(H:ab):vv P ts eO (.sl f []) x H=tY P ts eO (.sl f []) x H:=rfl
@[go_sem] theorem aNr(ts eO:TypeId)(s i v o l c:Nat)(x:I)(H:ab):vv P ts eO (.osl s i v o l c) x H=tY P ts eO (.osl s i v o l c) x H:=rfl
@[go_sem] theorem aMS(ts eO:TypeId)(f:Bool)(dP:I)(es:List I)(x:I)(H:ab):vv P ts eO (.sl f (dP::es)) x H=(if fa x=0 then(match P.underlying ts with
   |some (.slice e)=>⟨.sl f (dP::es),H,nQ P e=true∧vl P eO=true∧s8 x (P.cellsOf e) H⟩
   |_=>⟨.top,H,False⟩)else tY P ts eO (.sl f (dP::es)) x H):=rfl
end
section
@[go_sem] theorem aOM(k:IntKind)(n:Int):uF (.int k n)=false:=rfl
@[go_sem] theorem aNN(b:Bool):uF (.bool b)=false:=rfl
@[go_sem] theorem aON(s:List UInt8):uF (.str s)=false:=rfl
@[go_sem] theorem aOO(s:List I):uF (.agg s)=false:=rfl
@[go_sem] theorem aNs(t:TypeId)(x:I):uF (.iface t x)=false:=rfl
@[go_sem] theorem aOP:uF .nilIface=true:=rfl
end
@[go_sem] theorem aOQ(cs:List I)(n:Nat):dw cs n []=cs:=by simp[dw]
@[go_sem] theorem aNO(c x:I)(cs xs:List I):dw (c::cs) 0 (x::xs)=x::dw cs 0 xs:=by simp[dw]
@[go_sem] theorem aNP(c:I)(cs xs:List I)(n:Nat):dw (c::cs) (n+1) xs=c::dw cs n xs:=by
 simp[dw,Nat.add_right_comm n 1]
attribute [go_sem] B2 I.known I.one xF zi zn Bt Bu ni ED EB EC B8 tY fa gz s8 EF AY IH Np Es Ez Ca Cb Ej BS zy B3 BT Et apart
 EI jL BD Ek A0 JP bR hq false_implies MR Is ZR bw jJ br BW bad oN tc List.all_cons List.all_nil Bool.and_true hG Bool.and_false xj Bool.or_false Bool.or_true vK Bool.true_or Bool.not_not
 qe DL DL ge_iff_le gt_iff_lt beq_self_eq_true BEq.rfl c7 jB forall_eq_or_imp forall_const jD false_or ne_eq reduceCtorEq
@[go_sem] theorem aQI(a b:Nat):Nat.ble a b=decide (a<=b):=by
 rw[qh];simp
attribute [go_sem] decide_true decide_false Bool.cond_true Bool.cond_false
@[go_sem] theorem aQ4{α:Type}(a b:α):(bif true then a else b)=a:=rfl
@[go_sem] theorem aQ5{α:Type}(a b:α):(bif false then a else b)=b:=rfl
@[go_sem] theorem aQu(b x:Bool):(bif b then x else false)=(b&&x):=by cases b<;>rfl
@[go_sem] theorem aQJ(b x:Bool):(bif b then true else x)=(b||x):=by cases b<;>rfl
@[go_sem] theorem aQv(p:Prop):(p->p)=True:=by simp
@[go_sem] theorem aQw(a b:Bool):((a&&b)=true->a=true)=True:=by cases a<;>simp
@[go_sem] theorem aQx(a b:Bool):(a=true->b=true->(a&&b)=true)=True:=by cases a<;>simp
@[go_sem] theorem aQy(a b:Bool):(a=true->b=false->(a&& !b)=true)=True:=by cases a<;>simp
@[go_sem] theorem aQK(b:Bool):(b=false->(!b)=true)=True:=by simp
@[go_sem] theorem aP3(p:Prop):(True->p)=p:=by simp
@[go_sem] theorem aNQ(p:Prop)[Decidable p]:(decide p=true)=p:=by simp
@[go_sem] theorem aNR(p:Prop)[Decidable p]:(decide p=false)=¬p:=by simp
@[go_sem] theorem aP4(b:Bool):((!b)=true)=(b=false):=by simp
@[go_sem] theorem aP5(b:Bool):((!b)=false)=(b=true):=by simp
@[go_sem] theorem aP6(a b:Bool):((a&&b)=true)=(a=true∧b=true):=by simp
@[go_sem] theorem aQL(a b:Bool):((a||b)=false)=(a=false∧b=false):=by simp
end
section
variable {P:Program}
theorem ea{f:FuncId}{args:List I}{H:ab}{x:I}{k:I->ab->Prop}(h:aY P f args H x)(ok:lx P f=true)(hk:k x H):pd P (.func (.func f) [] []) args H k:=
 Or.inl ⟨ok,by
  simp only[gK,b2];exact h.mono fun y H' ⟨ar,au⟩=>by subst ar;subst au;exact hk⟩
theorem c6{f:FuncId}{args:List I}{H:ab}{R:I->ab->Prop}{k:I->ab->Prop}(h:c5 P f args H R)(ok:lx P f=true)(hk:∀x H',R x H'->k x H'):pd P (.func (.func f) [] []) args H k:=
 Or.inl ⟨ok,by
  simp only[gK,b2];exact h.mono hk⟩
theorem ep{g:Bool}{f:FuncId}{args:List I}{H:ab}{x:I}{K:I->Prop}(h:aY P f args H x)(ok:lx P f=true)(hk:K x):ou P g (.func (.func f) [] []) args H K:=
 ⟨x,fun _=>Or.inl ⟨ok,by
  simp only[gK,b2];exact h⟩,hk⟩
theorem SS{l:Nat}{args:List I}{H:ab}{K:I->ab->Prop}(h:pd P (.func (.yield l) [] []) args H K):BE P true (.func (.yield l) [] []) args H K:=Or.inr ⟨rfl,h⟩
theorem SU{g:Bool}{f:I}{args:List I}{H:ab}{K:I->ab->Prop}(h:ou P g f args H (fun v=>K v H)):BE P g f args H K:=Or.inl h
theorem aFQ{f:FuncId}{fn:Func}{code:Code}{args:List I}{H:ab}{x:I}(an:P.funcs[f]?=some fn)(aa:fn.body=some code)(ag:args.length<=fn.ntmps)
  (h:di P fn.ntmps code (rS P fn.results.toList fun v H'=>∃L y,H'=H++L∧cQ H.length H' v y∧y=x) (oW 0 args) H):aY P f args H x:=
 aBb an aa ag h
theorem wrap_i64{n:Int}(h1: -9223372036854775808<=n)(h2:n<=9223372036854775807):IntKind.i64.wrap n=n:=by
 simp only[IntKind.wrap,IntKind.signed,IntKind.bits,hG];split
 ·rename_i h;have h:=mB h;omega
 ·rename_i h;have h:¬n % 2 ^ 64>=2 ^ (64-1):=fun q=>h (cF q);omega
def yI:Nat->I->Bool
 |_,.int _ _|_,.bool _|_,.str _|_,.hp|_,.hQ|_,.en|_,.nilIface|_,.top=>true
 |k+1,.agg cs=>cs.all (yI k)
 |k+1,.a0 cs=>cs.all (yI k)
 |k+1,.iface _ x=>yI k x
 |_,_=>false
theorem R2{n:Nat}:∀(k:Nat) {x:I},yI k x=true->cX n x:=by
 intro k;induction k with
 |zero=>
  intro x h;cases x<;>first|(simp[yI]at h;done)|constructor
 |succ k ay=>
  intro x h;cases x<;>first
   |(simp[yI]at h;done)
   |(rename_i cs;exact .agg cs fun i y aG=>ay (gT.1 h y (df aG)))
   |(rename_i cs;exact .a0 cs fun i y aG=>ay (gT.1 h y (df aG)))
   |(rename_i t y;exact .iface t y (ay h))
   |constructor
theorem PI{n k:Nat}{H L:ab}{v x:I}(hk:yI k v=true)(he:v=x):∃gk y,H++L=H++gk∧cQ n (H++L) v y∧y=x:=
 ⟨L,v,rfl,.cl _ (R2 k hk),he⟩
theorem Yq{n k:Nat}{H:ab}{v x:I}(hk:yI k v=true)(he:v=x):∃gk y,H=H++gk∧cQ n H v y∧y=x:=
 ⟨[],v,(b2 H).symm,.cl _ (R2 k hk),he⟩
@[go_sem] def xR:a5->a5->Prop
 |[],_=>True
 |(k,v)::β,α=>look α k=v∧xR β α
theorem Av{α:a5}:∀{β:a5},xR β α->∀t,look β t=.top∨look β t=look α t
 |[],_,t=>.inl rfl
 |(k,v)::β,h,t=>by
  rw[Rc];by_cases e:k=t
  ·subst e;rw[aF rfl];exact .inr h.1.symm
  ·rw[az e];exact Av h.2 t
def Ie{ι:Type}(F:ι->a5)(hH:ι->ab)(pre:ι->Prop)(m:ι->Nat)(x:ι)(Q:dU):dU
 |.normal,α,H=>∃y,pre y∧m y<m x∧xR (F y) α∧H=hH y
 |e,α,H=>Q e α H
section
variable {ι:Type} (F:ι->a5) (hH:ι->ab) (pre:ι->Prop) (m:ι->Nat) (x:ι) (Q:dU) (α:a5) (H:ab)
@[go_sem] theorem aNt:Ie F hH pre m x Q .normal α H=∃y,pre y∧m y<m x∧xR (F y) α∧H=hH y:=rfl
@[go_sem] theorem aOR(i:Nat):Ie F hH pre m x Q (.exit i) α H=Q (.exit i) α H:=rfl
@[go_sem] theorem aPy:Ie F hH pre m x Q .ret α H=Q .ret α H:=rfl
end
theorem b5{N:Nat}{body:Code}{Q:dU}{α:a5}{H:ab}{ι:Type}(F:ι->a5)(hH:ι->ab)(pre:ι->Prop)(m:ι->Nat)(rQ:ι)(aC:pre rQ)
  (lA:xR (F rQ) α) (bW:H=hH rQ) (round:∀x,pre x->di P N body (Ie F hH pre m x Q) (F x) (hH x)):di P N (.loop body) Q α H:=
 aDa F hH pre m rQ aC (Av lA) bW fun x J=>Hx (round x J) fun e c1 H' h=>by
  cases e<;>first
   |exact h
   |(obtain⟨y,h1,h2,h3,h4⟩:=h;exact⟨y,h1,h2,Av h3,h4⟩)
end
section
variable {P:Program}
def Ctx.stop(c:Ctx)(i:Nat):Ctx:=
 {w:=c.w,n:=c.n,aE:=c.aE,bg:=fun j=>if j=i then c.bg i+1 else c.bg j,dR:=fun j=>if j=i then true else c.dR j,jy:=fun b=>c.jy b∨(c.dR i=false∧b=c.aE i),base:=c.base}
theorem Ext.stop(c:Ctx)(i:Nat):Ext c (c.stop i) where
 n:=bk _
 size:=bk _
 st:=fun _ h=>⟨.inl h,rfl⟩
 bg:=fun j _=>by
  simp only[Ctx.stop];split
  ·rename_i h;subst h;omega
  ·omega
 aE:=fun j _ he=>by
  simp only[Ctx.stop]at he ⊢;by_cases h:j=i
  ·subst h;rw[aF rfl]at he;omega
  ·simp[h]
 os:=rfl
 tape:=rfl
 output:=rfl
 base:=rfl
theorem bA.stop{c:Ctx}{H:ab}{i v:Nat}{cs:List I}(h:bA c H)(ah:ao H i=.cells v cs)(aL:v≠0):bA (c.stop i) (ai H i .gone):=by
 have hi:H[i]?=some (.cells v cs):=kd ah trivial;have ak:i<c.n:=by rw[h.n];exact c8 ah trivial
 have hL:c.bg i=v:=h.qP ah;have ao:∀{j b},(ai H i .gone)[j]?=some b->b.live->j≠i∧H[j]?=some b:=by
  intro j b aw aa;by_cases e:j=i
  ·subst e;rw[ai,oI (by rw[<-h.n];exact ak)]at aw
   cases aw;exact aa.elim
  ·rw[ai,gS (fun q=>e q.symm)]at aw
   exact⟨e,aw⟩
 constructor
 ·simp[ai,Ctx.stop,h.n]
 ·intro j aw hd;simp only[Ctx.stop]at hd ⊢;split at hd
  ·cases hd
  ·exact h.lt j aw hd
 ·intro j k b cN aw hk aa fQ fH g1 he;obtain⟨fK,aZ⟩:=ao aw aa;obtain⟨g7,a7⟩:=ao hk fQ;simp only[Ctx.stop,az fK,az g7]at fH g1 he;exact h.inj j k b cN aZ a7 aa fQ fH g1 he
 ·intro k hk;rcases hk with hk|⟨hd,rfl⟩
  ·obtain⟨h1,h2⟩:=h.st k hk;refine⟨h1,fun j b aw aa fH=>?_⟩
   obtain⟨fK,aZ⟩:=ao aw aa;simp only[Ctx.stop,az fK]at fH;exact h2 j b aZ aa fH
  ·refine⟨h.lt i ak hd,fun j b aw aa fH e=>?_⟩
   obtain⟨fK,aZ⟩:=ao aw aa;simp only[Ctx.stop,az fK]at fH;exact fK (h.inj j i b _ aZ hi aa trivial fH hd e)
 ·intro j b aw;by_cases e:j=i
  ·subst e;rw[ai,oI (by rw[<-h.n];exact ak)]at aw
   cases aw;exact .gone (by simp[Ctx.stop])
  ·rw[ai,gS (fun q=>e q.symm)]at aw
   have J:=Ext.stop c i;cases h.rep j b aw with
   |cells bg cs vs ty cd aQ aO bF c9 eA j3=>exact .cells bg cs vs _ cd (by simpa[Ctx.stop,e]using aQ) (by simpa[Ctx.stop,e]using aO) bF c9 eA fun k x u p q=>(j3 k x u p q).mono J
   |void bg aQ aO=>exact .void bg (by simpa[Ctx.stop,e]using aQ) (by simpa[Ctx.stop,e]using aO)
   |map es clock db aQ aO bF c9 eA=>exact .map es clock db (by simpa[Ctx.stop,e]using aQ) (by simpa[Ctx.stop,e]using aO) bF c9 fun k p u aZ a7=>let⟨aU,a3,a1⟩:=eA k p u aZ a7;⟨aU.mono J,a3.mono J,a1⟩
   |h0 m since seen kl aQ aO bF c9 eA j3=>
    have hm:m≠i:=fun r=>by subst r;omega
    exact .h0 m since seen kl (by simpa[Ctx.stop,e]using aQ) (by simpa[Ctx.stop,e]using aO) bF (by simpa[Ctx.stop,hm]using c9) (by simpa[Ctx.stop,hm]using eA) j3
   |k8 s pos aQ aO bF c9=>exact .k8 s pos (by simpa[Ctx.stop,e]using aQ) (by simpa[Ctx.stop,e]using aO) bF c9
   |loop l α N st h5 ps mE dX fn D ts aQ aO bF c9 eA j3=>exact .loop l α N st h5 ps mE dX fn D ts (by simpa[Ctx.stop,e]using aQ) (by simpa[Ctx.stop,e]using aO) bF c9 eA fun t=>(j3 t).mono J
   |gone aQ=>exact .gone (by simpa[Ctx.stop,e]using aQ)
theorem yw{s:Nat}:∀{es:List I},(∀e∈es,e.cells.length=s)->∀{k j:Nat} {e x:I},es[k]?=some e->e.cells[j]?=some x->(es.flatMap I.cells)[k * s+j]?=some x
 |[],_,k,j,e,x,hk,_=>by simp at hk
 |dP::es,hs,0,j,e,x,hk,aw=>by
  simp only[y0,yZ]at hk;subst hk;have:=(cA.1 aw).1;rw[Nat.zero_mul,mC,qe,iC this];exact aw
 |dP::es,hs,k+1,j,e,x,hk,aw=>by
  rw[vz]at hk;have aC:=hs dP (by simp)
  rw[qe,qf (by rw[aC,n1];omega),aC,show(k+1) * s+j-s=k * s+j by rw[n1];omega]
  exact yw (fun e he=>hs e (by simp[he])) hk aw
theorem Gv{s:Nat}:∀{es:List I},(∀e∈es,e.cells.length=s)->(es.flatMap I.cells).length=es.length * s
 |[],_=>by simp
 |dP::es,hs=>by
  rw[qe,bt,hs dP (by simp),Gv (fun e he=>hs e (by simp[he])),cm,n1];omega
theorem RN{c:Ctx}{H:ab}{i v s lc:Nat}{cs es:List I}{val:Value}(h:bA c H)(ah:ao H i=.cells v cs)(rest:List I)(fk:cs=es.flatMap I.cells++rest)(hs:∀e∈es,e.cells.length=s)
  (J:aK c (.osl s i v 0 es.length lc) val):aK (c.stop i) (.sl false es) val:=by
 have hL:=h.qP ah;obtain⟨base,cap,rfl,aZ,aIq,a7,ch⟩:=J.ph hL;cases hd:c.dR i with
 |true=>
  obtain⟨aQ,rfl⟩:=a7 hd;have:es=[]:=jg aQ;subst this;exact .sl _ _ _ _ _ s (fun _ _=>undef) rfl (bk _) (fun h=>by cases h) (fun h=>absurd rfl h) (by simp) (by simp) (by simp)
 |false=>
  obtain⟨cK,m,dc,ei⟩:=ch hd;obtain⟨_,_,vs,e,cd,aa,sw,an,FJ⟩:=h.cells ah hd;have eu:=Gv hs;refine .sl _ _ _ _ _ s (fun k j=>vs.getD (k * s+j) undef) rfl (by omega) (fun h=>by cases h) (fun aP=>?_) hs (fun k x j y hk aw=>?_) (by have:=J.Gh;omega)
  ·have hlen:0<es.length:=vF.2 aP;have pS:base=some ⟨c.aE i,0,none⟩:=cK.resolve_left (by omega)
   refine⟨_,pS,rfl,.inr ⟨hd,rfl⟩,fun k j hk aw=>?_⟩
   have cz:k * s+j<es.length * s:=by
    have:(k+1) * s<=es.length * s:=vI s (by omega)
    rw[n1]at this;omega
   have ak:k * s+j<vs.size:=by rw[fk,bt]at sw;omega
   rw[rR];show(c.w.cell? _)=_;rw[AA aa];simp[ak]
  ·have wB:=yw hs hk aw;have Jx:=(cA.1 wB).1;have al:cs[k * s+j]?=some y:=by rw[fk,iC Jx];exact wB
   have ak:=(cA.1 al).1;exact(FJ _ _ _ al (by simp[show k * s+j<vs.size by omega])).mono (Ext.stop c i)
theorem Re(y:I)(α:a5)(t:Nat):∀ts:List Nat,look (ts.map (fun t=>(t,y))++α) t=if t∈ts then y else look α t
 |[]=>by simp
 |d::ts=>by
  rw[dn,gi,Rc,Re y α t ts];by_cases e:d=t
  ·subst e;simp
  ·have:¬t=d:=fun q=>e q.symm
   simp[e,this]
theorem YA{N:Nat}{code:Code}{Q:dU}{α:a5}{H:ab}{i v s lc:Nat}{cs:List I}(ts:List Nat)(es rest:List I)(J:∀t∈ts,look α t=.osl s i v 0 es.length lc)(ah:ao H i=.cells v cs)(aL:v≠0)
  (fk:cs=es.flatMap I.cells++rest) (hs:∀e∈es,e.cells.length=s) (h:di P N code Q (ts.map (fun t=>(t,.sl false es))++α) (ai H i .gone)):di P N code Q α H:=by
 intro r c a ax av aD;have ho:=Ext.stop c i;refine wpIn_mono (h r (c.stop i) a ax (av.stop ah aL) ⟨aD.size,aD.defers.mono ho,fun t=>?_⟩) fun _ _ _ ⟨c',c1,H',ar,au,bd,bE,cE⟩=>⟨c',c1,H',ar,au,ho.trans bd,bE,cE⟩
 rw[Re];by_cases aj:t∈ts
 ·rw[aF aj];have ax:=aD.rep t;rw[J t aj]at ax;exact RN av ah rest fk hs ax
 ·rw[az aj];exact(aD.rep t).mono ho
theorem wQ{N:Nat}{code:Code}{Q:dU}{α:a5}{H:ab}{i v s lc:Nat}{cs:List I}(ts:List Nat)(es:List I)(J:∀t∈ts,look α t=.osl s i v 0 es.length lc)(ah:ao H i=.cells v cs)(aL:v≠0)
  (fk:cs=es.flatMap I.cells) (hs:∀e∈es,e.cells.length=s) (h:di P N code Q (ts.map (fun t=>(t,.sl false es))++α) (ai H i .gone)):di P N code Q α H:=
 YA ts es [] J ah aL (by rw[fk,b2]) hs h
end
end Go.Proofs.YthafnbmdmfoobaaGreatDoor
