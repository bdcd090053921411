/- What the functions of this seat answer (5 of 40). No condition. -/
import Derived.Test.YtigedpfipifefaaGreatDoorWorkAD
import Derived.WalkKit
import Derived.ProofKit
import Derived.OpenShut
import Derived.ShutString
import Derived.ChangeOld
import Derived.Below
import Derived.Carry
import Derived.Test.YtigedpfipifefaaGreatDoorRows
import Derived.JoinedCond
import Derived.Deep.DeepHandedRow
set_option linter.unusedSimpArgs false
set_option linter.unusedVariables false
set_option linter.unusedSectionVars false
set_option maxRecDepth 100000
set_option maxHeartbeats 16000000
namespace Go.Proofs.YtigedpfipifefaaGreatDoor
section
variable {P:Program}
def qV:Option Value→FrameMode
 |none=>.returning
 |some v=>.panicking [{v:=v,recovered:=false}]
def aMi:Option Value→Value
 |none=>.nilIface
 |some v=>v
def ADef(P:Program)(g:FuncId)(args:List AV)(H:AHeap)(u:Option Value)(R:AHeap→Prop):Prop:=
 ∀(c:Ctx) (vs:Array Value),St c H→RepAll c args vs→
  CallsDIn Fence.wide 0 P g vs (qV u) c.w (fun e u' w'=>∃c' v H',e=.returned v∧settle u'=.returning∧c'.w=w'∧St c' H'∧Ext c c'∧R H')
theorem ADef.mono{g:FuncId}{args:List AV}{H:AHeap}{u:Option Value}{R R':AHeap→Prop}(h:ADef P g args H u R)(hr:∀H,R H→R' H):ADef P g args H u R':=
 fun c vs hs ha=>(h c vs hs ha).mono fun _ _ _ ⟨c',v,H',e1,e2,e3,e4,e5,e6⟩=>⟨c',v,H',e1,e2,e3,e4,e5,hr _ e6⟩
def nA:Op→Bool
 |.move _|.assign _|.alloc _|.store _ _ _|.typeAssert _ _ _ _|.extract _ _=>true
 |_=>false
theorem sH{o:Oper}{ρ:Operand→AV}{H:AHeap}{c:Ctx}{a:Act}(hk:nA o.op=true)(hs:(aF P o.op ρ H).s)(hst:St c H)(hρ:∀x∈o.op.operands.toList,Rep c (ρ x) (a.eval x)):
  ∃c' v,((execOp a.eval o).run P c.w=.ok (.value v) c'.w∨(execOp a.eval o).run P c.w=.ok .skip c'.w∧v=undef)∧St c' (aF P o.op ρ H).H∧Ext c c'∧Rep c' (aF P o.op ρ H).v v:=by
 obtain⟨dst,op,ty,pos,after,guard⟩:=o;cases op<;>(first|(cases hk;done)|skip)<;>simp only[aF,mU]at hs hρ ⊢
 case move x=>exact⟨c,_,.inl rfl,hst,Ext.refl c,hρ x (by simp[Op.operands])⟩
 case assign x=>exact⟨c,_,.inl rfl,hst,Ext.refl c,hρ x (by simp[Op.operands])⟩
 case alloc t=>
  obtain⟨c',v,h1,h2,h3,h4⟩:=uO (P:=P) hst hs;exact⟨c',v,.inl (by simp only[execOp,Sem.run_bind,h1];rfl),h2,h3,h4⟩
 case store t x y=>
  have hv:(qC P t (ρ x) (ρ y) H).v=.top:=by unfold qC;split<;>(try split)<;>rfl
  rw[hv];obtain⟨w',h1,h2,h3⟩:=uN (P:=P) hst (hρ x (by simp[Op.operands])) (hρ y (by simp[Op.operands])) hs
  exact⟨_,_,.inr ⟨by simp only[execOp,Sem.run_bind,h1];rfl,rfl⟩,h3,h2,.top _⟩
 case typeAssert x xt t ok=>
  obtain⟨v,h1,h2⟩:=sE (P:=P) (xt:=xt) (hρ x (by simp[Op.operands])) hs c.w
  exact⟨c,v,.inl (by simp only[execOp,Sem.run_bind,h1];rfl),hst,Ext.refl c,h2⟩
 case extract x i=>
  obtain⟨v,h1,h2⟩:=qI (P:=P) (hρ x (by simp[Op.operands])) hs c.w
  exact⟨c,v,.inl (by simp only[execOp,Sem.run_bind,h1];rfl),hst,Ext.refl c,h2⟩
theorem wQ{all os:List Oper}{o:Oper}{α:AF}{H:AHeap}{k:AF→AHeap→Prop}(hk:nA o.op=true)(hg:o.guard=none)(h:dA P all (o::os) α H k):
  (aF P o.op (ev α) H).s∧dA P all os (aX o.dst (aF P o.op (ev α) H).v α) (aF P o.op (ev α) H).H k:=by
 obtain⟨dst,op,ty,pos,after,guard⟩:=o;simp only at hg;subst hg;cases op<;>first|(cases hk;done)|exact h
theorem kS{N:Nat}{ops:Array Oper}{K:AF→AHeap→Prop}{Q:Exit→Act→List Frame→World→Prop}(hd:gI N ops=true)(c₀:Ctx)(cs:List Frame):∀(os:List Oper) (k:Nat) (α:AF) (H:AHeap) (c:Ctx) (a:Act),
  (∀i,os[i]?=ops[k+i]?)→(∀o∈os,nA o.op=true∧o.guard=none)→St c H→Ext c₀ c→ARep c N α a→dA P ops.toList os α H K→
  (∀α' H' c' a',St c' H'→Ext c₀ c'→ARep c' N α' a'→K α' H'→Q .normal a' cs c'.w)→wpOpsSIn Fence.wide 0 P ops Q (List.range' k os.length) a cs c.w
 |[],k,α,H,c,a,_,_,hs,hx,ha,h,hk=>hk α H c a hs hx ha h
 |o::os,k,α,H,c,a,hos,hsim,hs,hx,ha,h,hk=>by
  have h0:ops[k]?=some o:=by simpa using(hos 0).symm
  have hdo:pZ N o.dst=true:=zAx.1 hd o (by grind)
  obtain⟨s1,s2⟩:=hsim o (by simp)
  obtain⟨g1,g2⟩:=wQ s1 s2 h;obtain⟨c',v,e1,e2,e3,e4⟩:=sH (a:=a) s1 g1 hs (fun x _=>uL ha x)
  have hw:Region.wanted o (yielded ops a.tmps)=true:=by unfold Region.wanted;rw[s2]
  have rest:=kS hd c₀ cs os (k+1) _ _ c' (a.put o.dst v) (fun i=>by have:=hos (i+1);grind) (fun o ho=>hsim o (by simp[ho])) e2 (hx.trans e3) ((ha.mono e3).put hdo e4) g2 hk
  simp only[zAt,zBI,wpOpsSIn,h0,hw,zBy];refine⟨fun _ _=>trivial,?_⟩
  rcases e1 with e1|⟨e1,rfl⟩
  ·rw[e1];exact rest
  ·rw[e1];exact rest
theorem oZ{c0:Ctx}{H0 H:AHeap}(h0:St c0 H0)(cs:List Frame):∀(Ds:List Nat) (c:Ctx),St c H→Ext c0 c→Ds.Nodup→
  (∀D∈Ds,c0.w.heap.size≤D∧c.stable D∧c.w.heap[D]?=some (.deferred (some [])))→
  ∃c',St c' H∧Ext c0 c'∧Ext0 c c'∧∀fr:Frame,fr.mode≠.run→fr.defers=Ds.map (fun D=>{target:=.collected D,args:= #[]})→Steps P (lone fr cs c.w) (lone {fr with defers:=[]} cs c'.w)
 |[],c,hst,hx,_,_=>⟨c,hst,hx,⟨zAb _,fun _ h=>h,fun _ _=>rfl,fun _ _=>zAb _,fun _ _ _=>⟨rfl,rfl,fun _=>rfl⟩⟩,fun fr _ hd=>by
  have:({fr with defers:=[]}:Frame)=fr:=by cases fr;simp at hd;subst hd;rfl
  rw[this];exact .refl _ _⟩
 |D::Ds,c,hst,hx,hn,hD=>by
  obtain⟨hD1,hD2,hD3⟩:=hD D (by simp)
  have hn':=zBK.1 hn;obtain⟨c',g1,g2,g3,g4⟩:=oZ h0 cs Ds (c.shut D) (hst.shut hD2 hD3) (Ext.shut h0 hx hD1 hD3) hn'.2 (fun E hE=>by
   obtain⟨q1,q2,q3⟩:=hD E (by simp[hE])
   exact⟨q1,q2,(World.putObj_heap_other (fun e=>hn'.1 (by rw[←e];exact hE))).trans q3⟩)
  have k:=jE hD3;refine⟨c',g1,g2,⟨g3.n,g3.st,fun a ha=>(g3.cell a ha).trans (k.cell a ha),g3.ver,fun i hi he=>?_⟩,fun fr hm hd=>.head (step_collected (P:=P) (cs:=cs) hm hd rfl (run_takeDeferred hD3)) (g4 {fr with defers:=[]++Ds.map (fun D=>{target:=.collected D,args:= #[]})} hm rfl)⟩
  obtain⟨p1,p2,p3⟩:=g3.blk i hi he;exact⟨p1,p2,fun hd=>(p3 hd).trans ((k.blk i hi rfl).2.2 hd)⟩
theorem uV{n:Nat}{f:FuncId}{fn:Func}{c:Code}{args:Array Value}{u:FrameMode}{w:World}{R:Ending→FrameMode→World→Prop}(hf:P.funcs[f]?=some fn)(hb:fn.body=some c)
  (h:∀(c₀:Frame) (cs:List Frame),c₀.mode=u→c.wpSIn Fence.wide n P (fun e a cs' w=>(e=.normal∨e=.ret)∧∃u',cs'={c₀ with mode:=u'}::cs∧∃w2 v,
   (∀fr:Frame,fr.mode≠.run→fr.defers=a.defers→Steps P (lone fr cs' w) (lone {fr with defers:=[]} cs' w2))∧(results fn a.tmps).run P w2=.ok v w2∧R (.returned v) u' w2)
    {tmps:=args++Array.replicate (fn.ntmps-args.size) undef,defers:=[]} (c₀::cs) w):CallsDIn Fence.wide n P f args u w R:=by
 refine⟨trivial,fun c₀ cs hu hroom=>?_⟩
 let b:Frame:={(default:Frame)with fn:=f,kind:=.deferred,roundOf:=none}
 have henter:Frame.enter P f args .deferred=b.atR {tmps:=args++Array.replicate (fn.ntmps-args.size) undef,defers:=[]} [.code c]:=by
  simp[Frame.enter,Frame.atR,hf,hb,b]
 obtain⟨e,a',cs',w',hl,⟨he,u',rfl,w2,v,hst,hr,hR⟩,harr⟩:=h c₀ cs hu b [] rfl rfl trivial (room_wide _);rw[←henter]at harr;rcases he with rfl|rfl
 ·have hs:=hst {b.atR a' []with mode:=.returning} (by simp) rfl
  exact⟨.returned v,u',w2,{b.atR a' []with mode:=.returning,defers:=[]},hR,stepsIn_wide.2 ((stepsIn_wide.1 harr).trans (.head (stepR_end rfl) hs)),rfl,rfl,rfl,rfl,fn,hf,hr⟩
 ·obtain⟨todo,hs0⟩:=harr.1 rfl;have hs:=hst {b.atR a' todo with mode:=.returning} (by simp) rfl
  exact⟨.returned v,u',w2,{b.atR a' todo with mode:=.returning,defers:=[]},hR,stepsIn_wide.2 ((stepsIn_wide.1 hs0).trans hs),rfl,rfl,rfl,rfl,fn,hf,hr⟩
theorem qW{g:FuncId}{fn:Func}{id:Nat}{ops:Array Oper}{B:Code}{o:Oper}{post:List Oper}{ts:Array TypeId}{args:List AV}{H:AHeap}{u:Option Value}{R:AHeap→Prop}(x:AV)
  (hf:P.funcs[g]?=some fn) (hb:fn.body=some (.seq (.region id ops false) B)) (hn:args.length≤fn.ntmps) (hres:fn.results= #[]) (hd:gI fn.ntmps ops=true)
  (hops:ops.toList=o::post) (ho:o.op=.call ⟨.builtin .recover, #[],ts⟩) (hg:o.guard=none) (hsim:(post.all fun o=>nA o.op&&o.guard.isNone)=true)
  (hx:∀c,Rep c x (aMi u))
  (h:dA P ops.toList post (aX o.dst x (cG 0 args)) H (fun α H'=>aw P fn.ntmps B (fun e _ H''=>(e=.normal∨e=.ret)∧R H'') α H')):ADef P g args H u R:=by
 intro c vs hs hv;refine uV hf hb fun c₀ cs hu=>wpSIn_seq (wpSIn_region ?_)
 have hsz:ops.size=post.length+1:=by rw[←Array.length_toList,hops];rfl
 have h0:ops[0]?=some o:=by rw[←zBo,hops];rfl
 have hdo:pZ fn.ntmps o.dst=true:=zAx.1 hd o (by rw[hops];simp)
 have hw:∀ys,Region.wanted o ys=true:=fun ys=>by unfold Region.wanted;rw[hg]
 have hex:∀(a:Act) (w:World),(execOp a.eval o).run P w=.ok .recover w:=fun a w=>by
  simp only[execOp,ho,resolve,Sem.run_bind,Sem.run_pure,Result.andThen_ok,invoke];rfl
 have key:∀u1,settle u1=.returning→wpOpsSIn Fence.wide 0 P ops (Exit.thenS (B.wpSIn Fence.wide 0 P (fun e a cs' w=>(e=.normal∨e=.ret)∧∃u',cs'={c₀ with mode:=u'}::cs∧∃w2 v,
   (∀fr:Frame,fr.mode≠.run→fr.defers=a.defers→Steps P (lone fr cs' w) (lone {fr with defers:=[]} cs' w2))∧(results fn a.tmps).run P w2=.ok v w2∧
    ∃c' v' H',Ending.returned v=.returned v'∧settle u'=.returning∧c'.w=w2∧St c' H'∧Ext c c'∧R H')) (fun e a cs' w=>(e=.normal∨e=.ret)∧∃u',cs'={c₀ with mode:=u'}::cs∧∃w2 v,
   (∀fr:Frame,fr.mode≠.run→fr.defers=a.defers→Steps P (lone fr cs' w) (lone {fr with defers:=[]} cs' w2))∧(results fn a.tmps).run P w2=.ok v w2∧
    ∃c' v' H',Ending.returned v=.returned v'∧settle u'=.returning∧c'.w=w2∧St c' H'∧Ext c c'∧R H')) (List.range' 1 post.length)
   (({tmps:=vs++Array.replicate (fn.ntmps-vs.size) undef,defers:=[]}:Act).put o.dst (aMi u)) ({c₀ with mode:=u1}::cs) c.w:=by
  intro u1 hu1;refine kS hd (c.rebase (c.w.heap.size,[])) _ post 1 _ H (c.rebase (c.w.heap.size,[])) _ (fun i=>by rw[←zBo,hops,Nat.add_comm];rfl) (fun o ho=>by simpa using zAx.1 hsim o ho)
   (hs.rebase _) (Ext.refl _) ((oG hn hv).put hdo (hx _)) h fun α' H' c' a' g1 g2 g3 g4=>?_
  refine wpSIn_of_wpIn rfl (wpIn_mono (g4 none c' a' (.inl rfl) g1 g3) fun e a'' w'' ⟨c'',α'',H'',e1,e2,e3,e4,he,hR⟩=>⟨he,u1,rfl,?_⟩)
  subst e1;obtain⟨hb0,Ds,hds,hnd,hD⟩:=e4.defers;have hbase:c''.base=(c.w.heap.size,[]):=e3.base.trans g2.base;rw[hbase,zAj]at hds;obtain⟨c3,p1,p2,p3,p4⟩:=oZ (P:=P) (hs.rebase (c.w.heap.size,[])) ({c₀ with mode:=u1}::cs) Ds c'' e2 (g2.trans e3) hnd fun D h=>by
   obtain⟨q1,q2,q3⟩:=hD D h;exact⟨by rw[hbase]at q1;exact q1,q2,q3⟩
  obtain⟨v,r1, -⟩:=kN (P:=P) (fn:=fn) (α:=α'') p1 (fun t=>(e4.rep t).mono0 p3) (by rw[hres];trivial)
  exact⟨c3.w,v,fun fr hm hdf=>p4 fr hm (hdf.trans hds),r1,c3.rebase c.base,v,H'',rfl,hu1,rfl,p1.rebase _,⟨p2.n,p2.size,p2.st,p2.ver,p2.blk,p2.os,p2.tape,p2.output,rfl⟩,hR⟩
 rw[List.range_eq_range',hsz,zBI];simp only[wpOpsSIn,h0,hw,zBy,hex];refine⟨fun _ _=>trivial,?_⟩
 cases u with
 |none=>
  have:recoverD (c₀::cs)=none:=by simp only[recoverD,hu,qV]
  rw[this];have hc:({c₀ with mode:=.returning}:Frame)=c₀:=by cases c₀;simp only[qV]at hu;subst hu;rfl
  have:=key .returning rfl;rwa[hc]at this
 |some v=>
  have:recoverD (c₀::cs)=some (v,{c₀ with mode:=.panicking [{v:=v,recovered:=true}]}::cs):=by simp only[recoverD,hu,qV]
  rw[this];exact key _ rfl
def aBC(P:Program)(g:FuncId)(cs:List AV)(rs:List ResultVar)(R:AV→AHeap→Prop):aT
 |.normal,α,H=>ADef P g cs H none (fun H'=>dS P α H' rs∧R (mW (rs.map fun r=>(jR P α H' r).v)) H')
 |.ret,α,H=>ADef P g cs H none (fun H'=>dS P α H' rs∧R (mW (rs.map fun r=>(jR P α H' r).v)) H')
 |.panic ch,α,H=>∃v,ch=[{v:=v,recovered:=false}]∧ADef P g cs H (some v) (fun H'=>dS P α H' rs∧R (mW (rs.map fun r=>(jR P α H' r).v)) H')
 |_,_,_=>False
section
variable (g:FuncId) (cs:List AV) (rs:List ResultVar) (R:AV→AHeap→Prop) (α:AF) (H:AHeap)
@[go_sem] theorem aHu:aBC P g cs rs R .normal α H=ADef P g cs H none (fun H'=>dS P α H' rs∧R (mW (rs.map fun r=>(jR P α H' r).v)) H'):=rfl
@[go_sem] theorem aMj:aBC P g cs rs R .ret α H=ADef P g cs H none (fun H'=>dS P α H' rs∧R (mW (rs.map fun r=>(jR P α H' r).v)) H'):=rfl
@[go_sem] theorem aI2(v:Value):aBC P g cs rs R (.panic [{v:=v,recovered:=false}]) α H=ADef P g cs H (some v) (fun H'=>dS P α H' rs∧R (mW (rs.map fun r=>(jR P α H' r).v)) H'):=by simp[aBC]
end
theorem uW{f g:FuncId}{fn:Func}{A B:Code}{id:Nat}{o1 o2:Oper}{t:Tmp}{caps:Array Operand}{ts:Array TypeId}{args:List AV}{H:AHeap}{R:AV→AHeap→Prop}(hf:P.funcs[f]?=some fn)
  (hb:fn.body=some (.seq A (.seq (.region id #[o1,o2] false) B))) (hn:args.length≤fn.ntmps) (h1:o1.op=.makeFunc (.func g) #[] caps) (hd1:o1.dst=some t) (ht:t<fn.ntmps) (hg1:o1.guard=none)
  (h2:o2.op=.defer ⟨.value (.tmp t), #[],ts⟩) (hd2:o2.dst=none) (hg2:o2.guard=none) (hok:cF P g=true)
  (h:aw P fn.ntmps A (fun e α H1=>e=.normal∧aw P fn.ntmps B (aBC P g (caps.toList.map (ev α)) fn.results.toList R) (aX (some t) (.func (.func g) [] (caps.toList.map (ev α))) α) H1) (cG 0 args) H):ACalls P f args H R:=by
 intro c vs hs hv;refine callsIn_wide.1 (callsIn_of_wp_marks (F:=Fence.wide) (n:=0) hf hb trivial ?_);refine wpIn_seq (wpIn_mono (h none (c.rebase (c.w.heap.size,[])) _ (.inl rfl) (hs.rebase _) (oG hn hv)) fun e a' w' ⟨c1,α,H1,e1,e2,e3,e4,he,hB⟩=>?_)
 subst he;subst e1;refine wpIn_seq (wpIn_region ?_);have hr:List.range (#[o1,o2]:Array Oper).size=[0,1]:=rfl;have hx1:(execOp a'.eval o1).run P c1.w=.ok (.value (.func (.func g) #[] (caps.map a'.eval))) c1.w:=by
  simp[execOp,h1,Instr.makeFunc,Sem.run_bind,Sem.run_pure]
 have hsz:t<a'.tmps.size:=by rw[e4.size];exact ht
 have hx2:(execOp (a'.put (some t) (.func (.func g) #[] (caps.map a'.eval))).eval o2).run P c1.w=.ok (.defer {target:=.fn (.func g) (caps.map a'.eval),args:= #[]}) c1.w:=by
  simp only[execOp,h2,resolve,Sem.run_bind,Sem.run_pure,Result.andThen_ok,Act.eval,Act.put];simp[hsz,Deferred.ofValue]
 have hw:∀ys o,o.guard=none→Region.wanted o ys=true:=fun ys o hg=>by unfold Region.wanted;rw[hg]
 rw[hr];simp only[wpOpsIn,List.getElem?_toArray,zBG,zA1,hw _ _ hg1,hw _ _ hg2,zBy,Oper.wpIn];refine⟨fun _ _=>trivial,?_⟩
 rw[show o1.semAt Fence.wide.round a'.eval=execOp a'.eval o1 from rfl,hx1]
 simp only[Oper.uponIn,hd1];refine⟨fun _ _=>trivial,?_⟩
 rw[show o2.semAt Fence.wide.round (a'.put (some t) (.func (.func g) #[] (caps.map a'.eval))).eval=execOp (a'.put (some t) (.func (.func g) #[] (caps.map a'.eval))).eval o2 from rfl,hx2]
 simp only[hd2];have hrep:RepA c1 (caps.toList.map (ev α)) (caps.map a'.eval):=iK (c:=c1) (ρ:=ev α) (e:=a'.eval) (xs:=caps) (fun x _=>uL e4 x)
 obtain⟨D0,hD0⟩:∃d:Deferred,d={target:=.fn (.func g) (caps.map a'.eval),args:= #[]}:=⟨_,rfl⟩;have m:=e4.put (dst:=some t) (x:=.func (.func g) [] (caps.toList.map (ev α))) (v:=.func (.func g) #[] (caps.map a'.eval)) (by simpa[pZ,Nat.blt_eq]using ht) (.func _ _ _ _ _ rfl hrep.1 (by simp) hrep.2)
 have ha2:ARep (c1.rebase (c1.w.heap.size,D0::a'.defers)) fn.ntmps (aX (some t) (.func (.func g) [] (caps.toList.map (ev α))) α) {a'.put (some t) (.func (.func g) #[] (caps.map a'.eval))with defers:=D0::a'.defers}:=
  ⟨m.size,⟨zAb _,[],rfl,by simp,by simp⟩,fun t=>(m.rep t).rebase _⟩
 rw[←hD0];show Code.wpIn _ _ _ B _ {a'.put (some t) (.func (.func g) #[] (caps.map a'.eval))with defers:=D0::a'.defers} _
 refine wpIn_mono (hB none (c1.rebase (c1.w.heap.size,D0::a'.defers)) _ (.inl rfl) (e2.rebase _) ha2) fun e a'' w'' ⟨c3,β,H3,q1,q2,q3,q4,q5⟩=>?_
 subst q1;have key:∀(u:Option Value),ADef P g (caps.toList.map (ev α)) H3 u (fun H'=>dS P β H' fn.results.toList∧R (mW (fn.results.toList.map fun r=>(jR P β H' r).v)) H')→
   LeavesInM Fence.wide 0 P fn a''.tmps (fun e w'=>∃c' x v H',e=.returned v∧c'.w=w'∧St c' H'∧Ext c c'∧Rep c' x v∧R x H') a''.defers (qV u) c3.w:=by
  intro u hdef;obtain⟨hb0,Ds,hds,hnd,hD⟩:=q4.defers;obtain⟨_,Es,hes,hend,hE⟩:=e4.defers;have hbase:c3.base=(c1.w.heap.size,D0::a'.defers):=q3.base;have hbase1:c1.base=(c.w.heap.size,[]):=e3.base;have hx0:Ext (c.rebase (c1.w.heap.size,D0::a'.defers)) c3:=Ext.trans (b:=c1.rebase (c1.w.heap.size,D0::a'.defers)) ⟨e3.n,e3.size,e3.st,e3.ver,e3.blk,e3.os,e3.tape,e3.output,rfl⟩ q3;rw[hds,hbase];have hne:qV u≠.run:=by cases u<;>simp[qV]
  refine fF hne (D0::a'.defers) (hs.rebase (c1.w.heap.size,D0::a'.defers)) Ds c3 q2 hx0 hnd (fun D h=>?_) fun c4 g1 g2 g3 g4=>?_
  ·obtain⟨p1,p2,p3⟩:=hD D h;rw[hbase]at p1;exact⟨zA7 e3.size p1,p2,p3⟩
  ·refine⟨hne,.inr ⟨by simp[Fence.wide],.func g,caps.map a'.eval,g,caps.map a'.eval,by rw[hD0],by rw[hD0];simp[invoke,go_sem];simpa using dM hok _ _,fun _ _=>trivial,?_⟩⟩
   refine(hdef c4 _ g1 ⟨hrep.1,fun i x v a b=>(((hrep.2 i x v a b).rebase _).mono q3).mono0 g3⟩).mono fun e u' w' ⟨c5,v,H5,k1,k2,k3,s5,x5,k4,k5⟩=>?_
   subst k1;subst k3;simp only;rw[k2,hes,hbase1];refine fF (by simp) [] (hs.rebase (c1.w.heap.size,D0::a'.defers)) Es c5 s5 (g2.trans x5) hend (fun E h=>?_) fun c6 r1 r2 r3 _=>?_
   ·obtain⟨p1,p2,p3⟩:=hE E h;rw[hbase1]at p1;have hlt:=(zAW.1 p3).1;have hEs:c4.stable E:=g3.st E (q3.st E p2).1;refine⟨p1,(x5.st E hEs).1,(x5.st E hEs).2.trans ((g4 E fun q=>?_).trans ((q3.st E p2).2.trans p3))⟩
    have:=(hD E q).1;rw[hbase]at this;simp only at this;omega
   ·obtain⟨v,y1,y2⟩:=kN (P:=P) r1 (fun t=>(((q4.rep t).mono0 g3).mono x5).mono0 r3) k4
    exact⟨v,y1,c6.rebase c.base,_,v,H5,rfl,rfl,r1.rebase _,⟨r2.n,r2.size,r2.st,r2.ver,r2.blk,r2.os,r2.tape,r2.output,rfl⟩,y2.rebase _,k5⟩
 cases e<;>simp only[aBC]at q5;case normal=>exact key none q5
 case ret=>exact key none q5
 case panic ch=>
  obtain⟨v,rfl,q⟩:=q5;exact key (some v) q
theorem wR{f:FuncId}{args:List AV}{H:AHeap}{R:AV→AHeap→Prop}
  (h:ACalls P f args H (fun v H'=>∃H1 L y,H'=H1++L∧H1.length=H.length∧(∀(i:Nat) (b:ABlk),H1[i]?=some b→H[i]?=some b∨ClB H.length b)∧Frz H.length H' v y∧R y H1)):ACalls P f args H R:=by
 intro c vs hs ha;refine(h c vs hs ha).mono fun e w' ⟨c',x,v,H',e1,e2,e3,e4,e5,H1,L,y,e6,e6',e6'',e7,e8⟩=>?_
 subst e6;refine⟨c'.drop c.n,y,v,H1,e1,e2,St.dropG (by rw[hs.n,e6']) e3 (fun i b hi=>?_),e4.drop,?_,e8⟩
 ·rcases e6'' i b hi with h|h
  ·exact hs.cl0 h
  ·rw[hs.n];exact h
 ·have:=e7.sound e3 e5;rwa[←hs.n]at this
theorem aDh{f:FuncId}{args:List AV}{H:AHeap}{x:AV}(h:ACalls P f args H (fun v H'=>∃L y,H'=H++L∧Frz H.length H' v y∧y=x)):bJ P f args H x:=
 wR (h.mono fun _ _ ⟨L,y,e,hf,hy⟩=>⟨H,L,y,e,rfl,fun _ _ hb=>.inl hb,hf,hy,rfl⟩)
def qX(P:Program)(rs:List ResultVar)(X:Value→AHeap→Prop)(R:AV→AHeap→Prop):aT
 |.panic ch,_,H=>∃v,ch=[{v:=v,recovered:=false}]∧X v H
 |.normal,α,H=>lN P rs R .normal α H
 |.ret,α,H=>lN P rs R .ret α H
 |_,_,_=>False
section
variable (rs:List ResultVar) (X:Value→AHeap→Prop) (R:AV→AHeap→Prop) (α:AF) (H:AHeap)
@[go_sem] theorem aFV:qX P rs X R .normal α H=lN P rs R .normal α H:=rfl
@[go_sem] theorem aLf:qX P rs X R .ret α H=lN P rs R .ret α H:=rfl
@[go_sem] theorem aHv(v:Value):qX P rs X R (.panic [{v:=v,recovered:=false}]) α H=X v H:=by simp[qX]
end
theorem aFW{f:FuncId}{fn:Func}{code:Code}{args:List AV}{H:AHeap}{X:Value→AHeap→Prop}{R:AV→AHeap→Prop}(hf:P.funcs[f]?=some fn)
  (h:aw P fn.ntmps code (qX P fn.results.toList X R) (cG 0 args) H) (hb:fn.body=some code:=by rfl) (hn:args.length≤fn.ntmps:=by exact zAP rfl):
  ((∀v H',¬R v H')→APan P f args H X)∧((∀v H',¬X v H')→ACalls P f args H R):=by
 refine⟨fun hR=>mF hf hb hn (jO h fun e α' H' q=>?_),fun hX=>fG hf hb hn (jO h fun e α' H' q=>?_)⟩
 ·cases e<;>simp only[qX,lN]at q<;>first|exact q|exact(hR _ _ q.2).elim|exact q.elim
 ·cases e<;>simp only[qX]at q<;>first|exact q|exact q.elim|(obtain⟨v, -,q⟩:=q;exact(hX _ _ q).elim)
end
section
open Go.ChangeShapes Go.WideShapes Go.ChangeAt Go.RowKit
variable {P:Program}
def dG(P:Program)(t:TypeId):Bool:=
 match P.underlying t with
 |some (.struct _)|some (.array _ _)=>true
 |_=>false
def mkA(P:Program)(t:TypeId)(ys:List AV):AV:=if dG P t=true then .agg ys else ys.headD .top
def aFX(P:Program):Nat→List Field→Bool
 |_,[]=>true
 |off,f::fs=>(f.offset==off)&&aFX P (off+P.cellsOf f.type) fs
def iB(P:Program):Nat→List Field→Nat
 |off,[]=>off
 |off,f::fs=>iB P (off+P.cellsOf f.type) fs
def kindB(P:Program)(t:TypeId):Bool:=
 match P.underlying t with
 |some .bool|some (.int _)|some .string=>true
 |some (.slice e)=>(P.cellsOf e !=0)&&(dG P e||(P.cellsOf e==1))
 |some (.struct fs)=>aFX P 0 fs.toList&&(iB P 0 fs.toList==P.cellsOf t)
 |_=>false
mutual
inductive Sh (P:Program):TypeId→List AV→Prop
 |bool (t:TypeId) (b:Bool) (h:P.underlying t=some .bool):Sh P t [.bool b]
 |int (t:TypeId) (k:IntKind) (n:Int) (h:P.underlying t=some (.int k)) (hw:(Lit.int k n).wf=true):Sh P t [.int k n]
 |str (t:TypeId) (s:List UInt8) (h:P.underlying t=some .string) (hl:s.length≤maxLen):Sh P t [.str s]
 |slice (t e:TypeId) (zs:List (List AV)) (h:P.underlying t=some (.slice e)) (hl:zs.length≤maxLen) (hz:∀z∈zs,Sh P e z) (hc:∀z∈zs,z.length=P.cellsOf e):Sh P t [.sl false (zs.map (mkA P e))]
 |struct (t:TypeId) (fs:Array Field) (ys:List AV) (h:P.underlying t=some (.struct fs)) (hf:ShF P fs.toList ys):Sh P t ys
 |other (t:TypeId) (ys:List AV) (h:kindB P t=false) (hy:∀y∈ys,y=.top):Sh P t ys
inductive ShF (P:Program):List Field→List AV→Prop
 |nil:ShF P [] []
 |cons (f:Field) (fs:List Field) (z ys:List AV) (h:Sh P f.type z) (hs:ShF P fs ys):ShF P (f::fs) (z++ys)
end
theorem qY{t:TypeId}{k:IntKind}{ys:List AV}(ht:P.underlying t=some (.int k))(h:Sh P t ys):∃n,ys=[.int k n]∧(Lit.int k n).wf=true:=by
 cases h with
 |bool _ _ h=>rw[ht]at h;cases h
 |int _ _ n h hw=>grind
 |str _ _ h=>rw[ht]at h;cases h
 |slice _ _ _ h=>rw[ht]at h;cases h
 |struct _ _ _ h=>rw[ht]at h;cases h
 |other _ _ h _=>rw[kindB,ht]at h;cases h
theorem aI3{t:TypeId}{ys:List AV}(ht:P.underlying t=some .string)(h:Sh P t ys):∃s,ys=[.str s]∧s.length≤maxLen:=by
 cases h with
 |bool _ _ h=>rw[ht]at h;cases h
 |int _ _ _ h=>rw[ht]at h;cases h
 |str _ s _ hl=>exact⟨s,rfl,hl⟩
 |slice _ _ _ h=>rw[ht]at h;cases h
 |struct _ _ _ h=>rw[ht]at h;cases h
 |other _ _ h _=>rw[kindB,ht]at h;cases h
theorem aDi{t e:TypeId}{ys:List AV}(ht:P.underlying t=some (.slice e))(hk:kindB P t=true)(h:Sh P t ys):
  ∃zs:List (List AV),ys=[.sl false (zs.map (mkA P e))]∧zs.length≤maxLen∧∀z∈zs,Sh P e z:=by
 cases h with
 |bool _ _ h=>rw[ht]at h;cases h
 |int _ _ _ h=>rw[ht]at h;cases h
 |str _ _ h=>rw[ht]at h;cases h
 |slice _ _ zs h hl hz=>grind
 |struct _ _ _ h=>rw[ht]at h;cases h
 |other _ _ h _=>rw[hk]at h;cases h
theorem aBD{t:TypeId}{fs:Array Field}{ys:List AV}(ht:P.underlying t=some (.struct fs))(hk:kindB P t=true)(h:Sh P t ys):ShF P fs.toList ys:=by
 cases h with
 |bool _ _ h=>rw[ht]at h;cases h
 |int _ _ _ h=>rw[ht]at h;cases h
 |str _ _ h=>rw[ht]at h;cases h
 |slice _ _ _ h=>rw[ht]at h;cases h
 |struct _ _ _ h hf=>rw[ht]at h;cases h;exact hf
 |other _ _ h=>rw[hk]at h;cases h
theorem aFY{ys:List AV}(h:ShF P [] ys):ys=[]:=by cases h;rfl
theorem nB{f:Field}{fs:List Field}{ys:List AV}(h:ShF P (f::fs) ys):∃z zs,ys=z++zs∧Sh P f.type z∧ShF P fs zs:=by
 cases h with
 |cons _ _ z zs h hs=>exact⟨z,zs,rfl,h,hs⟩
def lO(c:Ctx)(ys:List AV)(cs:List Value):Prop:=ys.length=cs.length∧∀(i:Nat) (y:AV) (v:Value),ys[i]?=some y→cs[i]?=some v→Rep c y v
theorem jH{c:Ctx}{y:AV}{v:Value}(h:Rep c y v):lO c [y] [v]:=by
 refine⟨rfl,fun i x u hx hu=>?_⟩
 cases i with
 |zero=>simp at hx hu;subst hx;subst hu;exact h
 |succ i=>simp at hx
theorem aDj{c:Ctx}(cs:List Value):lO c (cs.map fun _=>.top) cs:=by
 refine⟨by simp,fun i x u hx _=>?_⟩
 rw[zAY]at hx;obtain⟨_,_,rfl⟩:=zAy.1 hx;exact .top _
theorem wS{c:Ctx}{y z:List AV}{a b:List Value}(h:lO c y a)(k:lO c z b):lO c (y++z) (a++b):=by
 refine⟨by simp[h.1,k.1],fun i x u hx hu=>?_⟩
 by_cases hi:i<y.length
 ·rw[zAf hi]at hx;rw[zAf (by rw[←h.1];exact hi)]at hu
  exact h.2 i x u hx hu
 ·rw[zAw (by omega)]at hx
  rw[zAw (by rw[←h.1];omega),←h.1]at hu
  exact k.2 _ x u hx hu
theorem zR{w:World}{a:Addr}{v:Value}(h:w.cell? a=some v):a.block<w.heap.size:=by
 unfold World.cell? at h;grind
section
variable {H:Type} {enc:TypeId×Value→H} {W:World} {base:Nat} {sp:Nat→Bool} {held:Bool}
theorem aI4{k:IntKind}{n:Int}(h:(Lit.int k n).wf=true):inR k n:=by
 have h2:(decide (k.min≤n)&&decide (n≤k.max))=true:=h;simpa[inR]using h2
inductive LeA (n:Nat):AV→Prop
 |int (k m):LeA n (.int k m)
 |bool (b):LeA n (.bool b)
 |str (s) (h:s.length≤n):LeA n (.str s)
 |agg (cs:List AV) (h:∀x∈cs,LeA n x):LeA n (.agg cs)
 |sl (f) (es:List AV) (hl:es.length≤n) (h:∀x∈es,LeA n x):LeA n (.sl f es)
 |top:LeA n .top
theorem LeA.mono{n m:Nat}{x:AV}(h:LeA n x)(hm:n≤m):LeA m x:=by
 induction h with
 |int=>exact .int _ _
 |bool=>exact .bool _
 |str s h=>exact .str s (zA7 h hm)
 |agg cs _ ih=>exact .agg cs ih
 |sl f es hl _ ih=>exact .sl f es (zA7 hl hm) ih
 |top=>exact .top
theorem LeA.mk{n:Nat}{P:Program}{t:TypeId}{ys:List AV}(h:∀y∈ys,LeA n y):LeA n (mkA P t ys):=by
 unfold mkA;split
 ·exact .agg ys h
 ·cases ys with
  |nil=>exact .top
  |cons y ys=>exact h y (by simp)
mutual
def cD{H:Type}:DataW H→Nat
 |.lit (.string bytes)=>bytes.length+1
 |.lit _=>1
 |.nil=>1
 |.ptr d=>cD d+1
 |.slice elems spare=>dN elems+dN spare+1
 |.agg parts=>dN parts+1
 |.iface _ d=>cD d+1
 |.map entries=>fJ entries+1
 |.held _=>1
def dN{H:Type}:List (DataW H)→Nat
 |[]=>0
 |d::r=>cD d+dN r
def fJ{H:Type}:List (Lit×DataW H)→Nat
 |[]=>0
 |x::r=>jW x+fJ r
def jW{H:Type}:Lit×DataW H→Nat
 |(.string bytes,d)=>bytes.length+cD d+1
 |(_,d)=>cD d+1
end
theorem aBE{H:Type}(d:DataW H):1≤cD d:=by
 cases d with
 |lit l=>cases l<;>simp[cD]
 |_=>simp[cD]
theorem aBF{H:Type}(l:List (DataW H)):l.length≤dN l:=by
 induction l with
 |nil=>simp[dN]
 |cons x r ih=>have:=aBE x;simp only[dN,zAt];omega
theorem tM{H:Type}{d:DataW H}{l:List (DataW H)}(h:d∈l):cD d≤dN l:=by
 induction l<;>grind [dN]
theorem aDk{c:Ctx}(hw:c.w=W)(hst:∀b,b<W.heap.size→c.stable b):∀(fuel:Nat) (t:TypeId) (cs:List Value) (x:DataW H×List MemPlace),DataW.trod enc P W base sp held fuel t cs=some x→
  ∃ys,Sh P t ys∧lO c ys cs∧∀y∈ys,LeA (cD x.1) y:=by
 intro fuel;induction fuel with
 |zero=>intro t cs x h;simp[DataW.trod]at h
 |succ fuel ih=>
  intro t cs x h;cases hk:kindB P t with
  |false=>exact⟨_,.other t _ hk (by simp),aDj cs,fun y hy=>by simp at hy;rw[←hy.2];exact .top⟩
  |true=>
   have hk':=hk;unfold kindB at hk;split at hk
   ·rename_i hu;obtain⟨b,rfl, -⟩:=DataW.trod_bool hu h;exact⟨_,.bool t b hu,jH (.bool b),fun y hy=>by simp at hy;subst hy;exact .bool _⟩
   ·rename_i k hu;obtain⟨n,rfl, -,hwf⟩:=DataW.trod_int hu h;exact⟨_,.int t k n hu hwf,jH (.int k n (aI4 hwf)),fun y hy=>by simp at hy;subst hy;exact .int _ _⟩
   ·rename_i hu;obtain⟨s,rfl,hx,hl⟩:=DataW.trod_string hu h;refine⟨_,.str t s.data.toList hu (by simpa using hl),jH ?_,fun y hy=>by simp at hy;subst hy;exact .str _ (by rw[hx];simp[cD])⟩
    have:=Rep.str (c:=c) s.data.toList (by simpa[maxLen]using hl)
    simpa using this
   ·rename_i e hu;rw[zAc]at hk;have he:P.cellsOf e≠0:=by simpa using hk.1
    have he1:dG P e=true∨P.cellsOf e=1:=by simpa using hk.2
    rcases DataW.trod_slice hu h with⟨rfl, -⟩|⟨a,len,cap,elems,rest,n,hn,rfl,hx,hb,hl,hm,hlen,hel, -, -⟩
    ·refine⟨[.sl false (([]:List (List AV)).map (mkA P e))],.slice t e [] hu (zAv _) (by simp) (by simp),jH ?_,fun y hy=>by simp at hy;subst hy;exact .sl _ _ (zAv _) (by simp)⟩
     exact .sl false [] none 0 0 0 (fun _ _=>undef) rfl (zAb _) (fun h=>by cases h) (fun h=>absurd rfl h) (by simp) (by simp) (by omega)
    ·obtain rfl:fuel=n:=by omega
     have each:∀i,i<len→∃(us:List Value) (ys:List AV),us.length=P.cellsOf e∧(∀j,j<P.cellsOf e→W.cell? (a.add (i * P.cellsOf e+j))=us[j]?)∧Sh P e ys∧lO c ys us∧∀y∈ys,LeA (cD x.1) y:=by
      intro i hi;have h1:=hel i hi;rw[zAd (by omega),zAQ]at h1
      obtain⟨us,hus,htr⟩:=h1;obtain⟨_,g2,g3⟩:=World.cells?_some hus;obtain⟨ys,k1,k2,k3⟩:=ih e us _ htr;refine⟨us,ys,g2,fun j hj=>?_,k1,k2,fun y hy=>(k3 y hy).mono ?_⟩
      case refine_2=>
       have:=tM (List.mem_map_of_mem (f:=(·.1)) (zAK (show i<elems.length by omega)))
       rw[hx];simp only[cD];omega
      rw[←g3 j hj,_root_.Go.Addr.add_add]
     let f:Nat→List AV:=fun i=>if hi:i<len then(each i hi).choose_spec.choose else[]
     let g:Nat→List Value:=fun i=>if hi:i<len then(each i hi).choose else[]
     have hfg:∀i,i<len→(g i).length=P.cellsOf e∧(∀j,j<P.cellsOf e→W.cell? (a.add (i * P.cellsOf e+j))=(g i)[j]?)∧Sh P e (f i)∧lO c (f i) (g i)∧∀y∈f i,LeA (cD x.1) y:=by
      intro i hi;have:=(each i hi).choose_spec.choose_spec;simp only[f,g,hi,dif_pos];exact this
     have hsize:∀i,i<len→(f i).length=P.cellsOf e:=fun i hi=>by
      obtain⟨q1,_,_,q4,_⟩:=hfg i hi;rw[q4.1,q1]
     have hcells:∀i,i<len→(mkA P e (f i)).cells=f i:=by
      intro i hi;unfold mkA;by_cases ha:dG P e=true
      ·rw[zAp ha];rfl
      ·rw[zAk ha];have hs:=(hfg i hi).2.2.1;have hno:∀fs,P.underlying e≠some (.struct fs):=fun fs q=>ha (by rw[dG,q])
       have hone:(f i).length=1:=(hsize i hi).trans (he1.resolve_left ha);generalize f i=z at hs hone ⊢;cases hs with
       |bool=>rfl
       |int=>rfl
       |str=>rfl
       |slice=>rfl
       |struct _ fs _ q=>exact absurd q (hno fs)
       |other _ _ _ q=>
        match z,hone with
        |[y],_=>rw[q y (by simp)];rfl
     refine⟨[.sl false (((List.range len).map f).map (mkA P e))],.slice t e _ hu (by simp;omega) ?_ ?_,jH ?_,fun y hy=>?_⟩
     rotate_right
     ·simp at hy;subst hy;refine .sl _ _ ?_ fun z hz=>?_
      ·have:=aBF (elems.map (·.1));rw[zAs]at this;rw[hx];simp only[cD,zAs,List.length_range];omega
      ·simp only[zBC,zAi,List.mem_range,Function.comp]at hz;obtain⟨i,hi,rfl⟩:=hz;exact .mk (hfg i hi).2.2.2.2
     ·intro z hz;obtain⟨i,hi,rfl⟩:=zAi.1 hz;exact(hfg i (by simpa using hi)).2.2.1
     ·intro z hz;obtain⟨i,hi,rfl⟩:=zAi.1 hz;exact hsize i (by simpa using hi)
     ·refine .sl false _ (some a) len cap (P.cellsOf e) (fun k j=>(g k).getD j undef) (by simp) hl (fun h=>by cases h) (fun hne=>?_) ?_ ?_ (by have:cap≤maxLen:=hm;simp only[maxLen]at this;omega)
      ·have hlen0:0<len:=by
        rcases Nat.eq_zero_or_pos len with h0|h0
        ·subst h0;simp at hne
        ·exact h0
       have hcell:∀k j,k<len→j<P.cellsOf e→W.cell? (a.add (k * P.cellsOf e+j))=some ((g k).getD j undef):=by
        intro k j hk hj;obtain⟨q1,q2,_,_⟩:=hfg k hk;rw[q2 j hj,zAm,zAd (by omega)];rfl
       have h00:=hcell 0 0 hlen0 (by omega)
       refine⟨a,rfl,?_,hst _ ?_,fun k j hk hj=>?_⟩
       ·have:=World.cell?_spot h00;simpa[Addr.add]using this
       ·have:=zR h00;rwa[Addr.add_block]at this
       ·rw[hw];exact hcell k j (by simpa using hk) hj
      ·intro z hz;simp only[zBC,zAi,List.mem_range,Function.comp]at hz;obtain⟨i,hi,rfl⟩:=hz;rw[hcells i hi,hsize i hi]
      ·intro k z j y hz hy;have hk:k<len:=by
        have:=(eT.1 hz).1;simpa using this
       have:z=mkA P e (f k):=by
        simp only[zBC,zAY,List.getElem?_range hk,zBL,Function.comp,zBM]at hz;exact hz.symm
       subst this;rw[hcells k hk]at hy;obtain⟨q1,_,_,q4,_⟩:=hfg k hk;have hj:=(eT.1 hy).1;refine q4.2 j y _ hy ?_;rw[zAm,zAd (by rw[←q4.1];exact hj)];rfl
   ·rename_i fs hu;rw[zAc,beq_iff_eq]at hk;obtain⟨xs,n,hn,hx,hcl,hxl,hfs⟩:=DataW.trod_struct hu h;obtain rfl:fuel=n:=by omega
    have each:∀f∈fs.toList,∃ys,Sh P f.type ys∧lO c ys ((cs.drop f.offset).take (P.cellsOf f.type))∧∀y∈ys,LeA (cD x.1) y:=by
     intro f hf;obtain⟨i,hi⟩:=List.getElem?_of_mem hf;have hi':fs[i]?=some f:=by simpa using hi
     have hlt:i<fs.size:=(zAW.1 hi').1;have:=hfs i f hi';rw[zAd (by omega)]at this
     obtain⟨ys,k1,k2,k3⟩:=ih _ _ _ this;refine⟨ys,k1,k2,fun y hy=>(k3 y hy).mono ?_⟩
     have:=tM (List.mem_map_of_mem (f:=(·.1)) (zAK (show i<xs.length by omega)))
     rw[hx];simp only[cD];omega
    have key:∀(l:List Field) (off:Nat),aFX P off l=true→iB P off l≤cs.length→(∀f∈l,∃ys,Sh P f.type ys∧lO c ys ((cs.drop f.offset).take (P.cellsOf f.type))∧∀y∈ys,LeA (cD x.1) y)→
      off≤iB P off l∧∃ys,ShF P l ys∧lO c ys ((cs.drop off).take (iB P off l-off))∧∀y∈ys,LeA (cD x.1) y:=by
     intro l;induction l with
     |nil=>intro off _ _ _;exact⟨zAb _,[],.nil,by simp[iB,lO],fun y hy=>by cases hy⟩
     |cons f l ihl=>
      intro off h1 h2 h3;rw[aFX,zAc,beq_iff_eq]at h1;rw[iB]at h2 ⊢;obtain⟨q0,ys,q1,q2,q3⟩:=ihl _ h1.2 h2 (fun g hg=>h3 g (by simp[hg]))
      obtain⟨z,r1,r2,r3⟩:=h3 f (by simp)
      refine⟨by omega,z++ys,.cons f l z ys r1 q1,?_,fun y hy=>(zAM.1 hy).elim (r3 y) (q3 y)⟩
      have e:(cs.drop off).take (iB P (off+P.cellsOf f.type) l-off)=(cs.drop f.offset).take (P.cellsOf f.type)++(cs.drop (off+P.cellsOf f.type)).take (iB P (off+P.cellsOf f.type) l-(off+P.cellsOf f.type)):=by
       rw[h1.1,←List.drop_drop,show iB P (off+P.cellsOf f.type) l-off=P.cellsOf f.type+(iB P (off+P.cellsOf f.type) l-(off+P.cellsOf f.type)) by omega,List.take_add]
      rw[e];exact wS r2 q2
    obtain⟨_,ys,k1,k2,k3⟩:=key fs.toList 0 hk.1 (by omega) each
    refine⟨ys,.struct t fs ys hu k1,?_,k3⟩;rw[List.drop_zero,Nat.sub_zero,hk.2,←hcl,zAG]at k2;exact k2
   ·cases hk
def qZ(W:World):Ctx:={w:=W,n:=0,blk:=fun _=>0,ver:=fun _=>0,vd:=fun _=>false,stable:=fun b=>b<W.heap.size,base:=(0,[])}
theorem aOn(W:World)(hl:Laid (qZ W):=by first|assumption|exact fun _ h=>nomatch h):St (qZ W) [] where
 gl:=hl
 n:=rfl
 lt:=fun i hi=>absurd hi (Nat.not_lt_zero i)
 inj:=fun i j b b' hi=>by simp at hi
 st:=fun k hk=>⟨hk,fun i b hi=>by simp at hi⟩
 rep:=fun i b hi=>by simp at hi
theorem zS{r:Reach}{b0:Nat}{t:TypeId}{v:Value}(hk:kindB P t=true)(ha:dG P t=false)(hv:Value.okWide P W r b0 t v):v.cells= #[v]:=by
 unfold kindB at hk;split at hk
 ·rename_i hu;obtain⟨b,rfl⟩:=okWide_bool hu hv;rfl
 ·rename_i k hu;obtain⟨n,rfl⟩:=okWide_int hu hv;rfl
 ·rename_i hu;obtain⟨s,rfl⟩:=okWide_string hu hv;rfl
 ·rename_i e hu;obtain⟨a,l,c,rfl⟩:=okWide_slice hu hv;rfl
 ·grind [dG]
 ·cases hk
theorem kT{r:Reach}{b0:Nat}{t:TypeId}{v:Value}{d:DataW H}{p:List MemPlace}(hk:kindB P t=true)(hv:Value.okWide P W r b0 t v)(h:DataW.Trod enc P W base sp held t v d p):
  ∃x,(∃ys,x=mkA P t ys∧Sh P t ys∧(dG P t=true∨ys.length=1))∧Rep (qZ W) x v∧LeA (cD d) x:=by
 obtain⟨fuel,hf⟩:=h;obtain⟨ys,h1,h2,h3⟩:=aDk (c:=qZ W) rfl (fun b hb=>hb) fuel t _ _ hf
 cases ha:dG P t with
 |true=>
  refine⟨_,⟨ys,rfl,h1,.inl rfl⟩,?_,.mk h3⟩;have:∃cs,v=.agg cs:=by
   grind [dG,kindB,okWide_struct]
  obtain⟨cs,rfl⟩:=this;rw[mkA,zAp ha];exact .agg ys cs (by simpa[Value.cells]using h2.1.symm) fun i y u hy hu=>h2.2 i y u hy (by simpa[Value.cells]using hu)
 |false=>
  have hc:=zS hk ha hv;rw[hc]at h2;have hl:ys.length=1:=by simpa using h2.1
  refine⟨_,⟨ys,rfl,h1,.inr hl⟩,?_,.mk h3⟩
  match ys,hl with
  |[y],_=>
   rw[mkA,zAk (by simp[ha])]
   exact h2.2 0 y v rfl rfl
theorem pR{r:Reach}{b0:Nat}{t:TypeId}{v:Value}{d:DataW H}{p:List MemPlace}(hk:kindB P t=true)(hv:Value.okWide P W r b0 t v)(h:DataW.Trod enc P W base sp held t v d p):
  ∃x,(∃ys,x=mkA P t ys∧Sh P t ys∧(dG P t=true∨ys.length=1))∧Rep (qZ W) x v:=by
 obtain⟨x,h1,h2,_⟩:=kT hk hv h;exact⟨x,h1,h2⟩
theorem rA{f:FuncId}{xs:List AV}{args:Array Value}(h:bJ P f xs [] (.bool true))(ha:RepAll (qZ W) xs args)(hl:Laid (qZ W):=by first|assumption|exact fun _ h=>nomatch h):Calls P f args W fun e W'=>e=.returned (.bool true)∧Below W.heap.size W W':=
 (h (qZ W) args (aOn W hl) ha).mono fun e W' ⟨c',x,v,H',e1,e2,_,e4,e5,e6,_⟩=>by
  subst e6;refine⟨by rw[e1,e5.bool_inv],?_⟩
  subst e2;exact⟨e4.os,e4.tape,e4.output,e4.size,fun k hk=>(e4.st k hk).2⟩
theorem tN{c:Ctx}{xs:List AV}{vs:List Value}(h:lO c xs vs):RepAll c xs vs.toArray:=
 ⟨by simp[h.1],fun i x v hx hv=>h.2 i x v hx (by simpa using hv)⟩
theorem eY{c:Ctx}{x:AV}{v:Value}{xs:List AV}{vs:List Value}(h:Rep c x v)(hs:lO c xs vs):lO c (x::xs) (v::vs):=wS (jH h) hs
theorem wT{c:Ctx}:lO c [] []:=⟨rfl,fun i x v hx=>by simp at hx⟩
end
end
section
open Go.ChangeShapes Go.WideShapes Go.ChangeAt Go.RowKit
theorem aDl{H:Type}{d:DataW H}{l:List (DataW H)}(h:d∈l):Rows.uptoBulk d≤Rows.uptoBulkAll l:=by
 induction l with
 |nil=>cases h
 |cons x r ih=>
  simp only[Rows.uptoBulkAll];cases h with
  |head=>omega
  |tail _ h=>have:=ih h;omega
theorem aFZ{H:Type}{d:DataW H}{l:List (DataW H)}(hk:Rows.uptoSmall H l=true)(h:d∈l):Rows.uptoBulk d≤1048576:=by
 have h1:Rows.uptoBulkAll l≤1048576:=by simpa[Rows.uptoSmall]using hk
 exact zA7 (aDl h) h1
mutual
theorem jI{H:Type}:∀d:DataW H,cD d=Rows.uptoBulk d
 |.lit (.string bytes)=>by simp[cD,Rows.uptoBulk]
 |.lit (.int _ _)=>by simp[cD,Rows.uptoBulk]
 |.lit (.bool _)=>by simp[cD,Rows.uptoBulk]
 |.lit l=>by cases l<;>simp[cD,Rows.uptoBulk]
 |.nil=>by simp[cD,Rows.uptoBulk]
 |.ptr d=>by simp[cD,Rows.uptoBulk,jI d]
 |.slice elems spare=>by simp[cD,Rows.uptoBulk,iQ elems,iQ spare]
 |.agg parts=>by simp[cD,Rows.uptoBulk,iQ parts]
 |.iface _ d=>by simp[cD,Rows.uptoBulk,jI d]
 |.map entries=>by simp[cD,Rows.uptoBulk,kD entries]
 |.held _=>by simp[cD,Rows.uptoBulk]
theorem iQ{H:Type}:∀l:List (DataW H),dN l=Rows.uptoBulkAll l
 |[]=>by simp[dN,Rows.uptoBulkAll]
 |d::r=>by simp[dN,Rows.uptoBulkAll,jI d,iQ r]
theorem kD{H:Type}:∀l:List (Lit×DataW H),fJ l=Rows.uptoBulkEntries l
 |[]=>by simp[fJ,Rows.uptoBulkEntries]
 |x::r=>by simp[fJ,Rows.uptoBulkEntries,sI x,kD r]
theorem sI{H:Type}:∀x:Lit×DataW H,jW x=Rows.uptoBulkEntry x
 |(.string bytes,d)=>by simp[jW,Rows.uptoBulkEntry,jI d]
 |(l,d)=>by cases l<;>simp[jW,Rows.uptoBulkEntry,jI d]
end
theorem nC{H:Type}{d:DataW H}{l:List (DataW H)}{x:AV}(hk:Rows.uptoSmall H l=true)(h:d∈l)(hx:LeA (cD d) x):LeA 1048576 x:=
 hx.mono (by rw[jI];exact aFZ hk h)
theorem LeA.str_le{n:Nat}{s:List UInt8}(h:LeA n (.str s)):s.length≤n:=by cases h;assumption
theorem LeA.sl_le{n:Nat}{f:Bool}{es:List AV}(h:LeA n (.sl f es)):es.length≤n∧∀x∈es,LeA n x:=by cases h;exact⟨by assumption,by assumption⟩
theorem LeA.agg_le{n:Nat}{cs:List AV}(h:LeA n (.agg cs)):∀x∈cs,LeA n x:=by cases h;assumption
variable {P:Program} {H:Type} {enc:TypeId×Value→H} {W:World} {base:Nat} {sp:Nat→Bool} {held:Bool}
section
variable {H:Type} {enc:TypeId×Value→H}
theorem rB{C:Checked}{os:Os}{f:FuncId}{fn:Func}{s:OpenSpec}{conds:List PathCond}{apart:Bool}{laid:List (String×DataW Unit)}(modest:Bool)(w0:World)(args:Array Value)(hos:w0.os=os)
  (hsh:(w0.forCall (fun _ _=>0) ⟨#[],args,[]⟩).Shaped C.prog)
  (hok:Input.okWideB C.prog (w0.forCall (fun _ _=>0) ⟨#[],args,[]⟩) f ⟨#[],args,[]⟩=true)
  (hrow:s.preRow enc C.prog fn conds apart laid (w0.forCall (fun _ _=>0) ⟨#[],args,[]⟩).memory args):
  ∃(w:World) (tape:Tape) (i:Input),w.os=os∧(w.forCall tape i).Shaped C.prog∧i.vars=[]∧Input.okWide C.prog (w.forCall tape i) .any w.heap.size f i∧
   s.preRow enc C.prog fn conds apart laid (w.forCall tape i).memory i.args∧({modest:=modest}:Assume).holds C.prog (lone (Frame.enter C.prog f i.args .normal) [] (w.forCall tape i)):=
 ⟨w0,fun _ _=>0,⟨#[],args,[]⟩,hos,hsh,(Input.okWide_of_okWideB (base:=0) hok).1,(Input.okWide_of_okWideB hok).2,hrow,by
  simp only[Assume.holds];exact⟨by simp,by simp,fun _=>Modest.zero,by simp,by simp⟩⟩
end
end
end Go.Proofs.YtigedpfipifefaaGreatDoor
