/- The texts 3 of 8 beneath the rows of this seat (joined by program): the abstract machine, and what the functions answer. No condition. -/
import Derived.Test.YthhdnjiodklmmaaGreatDoorWorkB
import Derived.KernelRfl
import Derived.Test.YthhdnjiodklmmaaGreatDoorChecked
import Derived.WalkKit
import Derived.ProofKit
import Derived.OpenShut
import Derived.ShutString
import Derived.ChangeOld
import Derived.Below
import Derived.Carry
import Derived.RangeFuncIn
import Derived.LoopNIn
set_option linter.unusedSimpArgs false
set_option linter.unusedVariables false
set_option linter.unusedSectionVars false
/- The abstract machine: a region in whatever order, in which what changes the heap comes one behind the other. No condition. -/
namespace Go.Aw
open Go
set_option linter.unusedSimpArgs false
variable {P:Program}
section before
variable (ops:Array Oper)
def Closed(listed:Array Bool):Prop:=∀q o,listed.getD q false=true→ops[q]?=some o→∀e∈o.after,Region.binds .any e=true→listed.getD e.on false=true
def Lst(i q:Nat):Prop:=∀listed,Closed ops listed→listed.getD q false=true→listed.getD i false=true
def Bef(i j:Nat):Prop:=∀listed,Closed ops listed→j∈Region.ready .any ops listed→listed.getD i false=true
def qF(i j:Nat):Bool:=
 match ops[j]? with
 |some o=>o.after.any fun e=>Region.binds .any e&&e.on==i
 |none=>false
variable {ops}
theorem xR{i j:Nat}(h:qF ops i j=true):∃o e,ops[j]?=some o∧e∈o.after∧Region.binds .any e=true∧e.on=i:=by
 unfold qF at h
 split at h
 ·rename_i o ho
  obtain⟨e,he,h1⟩:=Array.any_eq_true'.1 h
  rw[Bool.and_eq_true,beq_iff_eq]at h1
  exact⟨o,e,ho,he,h1.1,h1.2⟩
 ·cases h
theorem Lst.refl(i:Nat):Lst ops i i:=fun _ _ h=>h
theorem Lst.trans{i j k:Nat}(h:Lst ops i j)(h':Lst ops j k):Lst ops i k:=fun l hc hk=>h l hc (h' l hc hk)
theorem Lst.dir{i j:Nat}(h:qF ops i j=true):Lst ops i j:=fun l hc hj=>by
 obtain⟨o,e,ho,he,hb,rfl⟩:=xR h
 exact hc j o hj ho e he hb
theorem Bef.dir{i q j:Nat}(h:qF ops q j=true)(hl:Lst ops i q):Bef ops i j:=fun l hc hj=>by
 obtain⟨o,e,ho,he,hb,rfl⟩:=xR h
 obtain⟨_,o',ho',hall⟩:=mem_ready.1 hj
 rw[ho]at ho'
 cases ho'
 exact hl l hc (hall e he hb)
theorem Closed.set{listed:Array Bool}{j:Nat}(hc:Closed ops listed)(hj:j∈Region.ready .any ops listed):Closed ops (listed.setIfInBounds j true):=by
 intro q o hq ho e he hb
 by_cases hqj:j=q
 ·subst hqj
  obtain⟨_,o',ho',hall⟩:=mem_ready.1 hj
  rw[ho]at ho'
  cases ho'
  exact getD_set_true (hall e he hb)
 ·rw[getD_set_ne false hqj]at hq
  exact getD_set_true (hc q o hq ho e he hb)
theorem zG{i j:Nat}{listed:Array Bool}(hc:Closed ops listed)(hi:i∈Region.ready .any ops listed)(hj:j∈Region.ready .any ops listed):¬Bef ops i j:=fun h=>by
 have h1:=h listed hc hj
 obtain⟨h0,_,hi',_⟩:=mem_ready.1 hi
 rcases Nat.lt_or_ge i listed.size with h'|h'
 ·simp[h']at h0 h1;rw[h0]at h1;cases h1
 ·simp[Array.getElem?_eq_none h']at h1
end before
section tree
variable (P) (N:Nat) (ops:Array Oper) (eff:Nat→Bool)
abbrev uV:=List (Nat×AHeap)
abbrev gW:=List (Nat×(AHeap→Prop))
def yv(o:Oper)(α:AF)(v:AV)(h h':AHeap):Prop:=YG P N ops h o α (fun v' H'=>v'=v∧H'=h')
def qM(i:Nat)(K:AF→AHeap→uV→gW→Prop)(α:AF)(H:AHeap)(hist:uV)(past:gW):Prop:=
 match ops[i]? with
 |none=>K α H hist past
 |some o=>
  if eff i=true then ∃v H1,yv P N ops o α v H H1∧(∀p∈past,¬Bef ops p.1 i→p.2 H1)∧K (bU o.dst v α) H1 ((i,H)::hist) past
  else ∃v,yv P N ops o α v H H∧(∀e∈hist,¬Bef ops e.1 i→yv P N ops o α v e.2 e.2)∧K (bU o.dst v α) H hist ((i,fun h=>yv P N ops o α v h h)::past)
def aAH(K:AF→AHeap→Prop):Nat→Array Bool→AF→AHeap→uV→gW→Prop
 |0,listed,α,H,_,_=>Region.ready .any ops listed=[]∧K α H
 |fuel+1,listed,α,H,hist,past=>(Region.ready .any ops listed=[]→K α H)∧∀i∈Region.ready .any ops listed,qM P N ops eff i (aAH K fuel (listed.setIfInBounds i true)) α H hist past
variable {P} {N} {ops} {eff}
theorem yv.alike{o:Oper}{α β:AF}{v:AV}{h h':AHeap}(hab:Alike α β)(k:yv P N ops o α v h h'):yv P N ops o β v h h':=YG.alike hab k
theorem yv.put{oi oj:Oper}{α:AF}{v u:AV}{h h':AHeap}(k:yv P N ops oi α v h h')(hap:∀d,oj.dst=some d→d∉oi.looksAt ops):yv P N ops oi (bU oj.dst u α) v h h':=
 fun r c a next Q h1 h2 h3 hk=>k r c a next Q h1 h2 (fun t ht=>by
  have:=h3 t ht
  rwa[kF fun x hx e=>hap x hx (e▸ht)]at this) hk
theorem yv.unput{oi oj:Oper}{α:AF}{v u:AV}{h h':AHeap}(k:yv P N ops oi (bU oj.dst u α) v h h')(hap:∀d,oj.dst=some d→d∉oi.looksAt ops):yv P N ops oi α v h h':=
 fun r c a next Q h1 h2 h3 hk=>k r c a next Q h1 h2 (fun t ht=>by
  rw[kF fun x hx e=>hap x hx (e▸ht)]
  exact h3 t ht) hk
def PastLe(p q:gW):Prop:=∀x∈q,∃y∈p,y.1=x.1∧∀h,y.2 h→x.2 h
theorem PastLe.refl(p:gW):PastLe p p:=fun x hx=>⟨x,hx,rfl,fun _ h=>h⟩
theorem PastLe.cons{p q:gW}{i:Nat}{φ ψ:AHeap→Prop}(h:∀x,φ x→ψ x)(hpq:PastLe p q):PastLe ((i,φ)::p) ((i,ψ)::q):=by
 intro x hx
 cases hx with
 |head=>exact⟨_,.head _,rfl,h⟩
 |tail _ hx=>obtain⟨y,hy,h1,h2⟩:=hpq x hx;exact⟨y,.tail _ hy,h1,h2⟩
theorem PastLe.swap{p:gW}{i j:Nat}{φ φ' ψ ψ':AHeap→Prop}(h:∀x,φ x→φ' x)(k:∀x,ψ x→ψ' x):PastLe ((j,ψ)::(i,φ)::p) ((i,φ')::(j,ψ')::p):=by
 intro x hx
 cases hx with
 |head=>exact⟨_,.tail _ (.head _),rfl,h⟩
 |tail _ hx=>
  cases hx with
  |head=>exact⟨_,.head _,rfl,k⟩
  |tail _ hx=>exact⟨x,.tail _ (.tail _ hx),rfl,fun _ h=>h⟩
theorem jK{K:AF→AHeap→Prop}(hK:∀α β H,Alike α β→K α H→K β H):∀(n:Nat) (listed:Array Bool) (α β:AF) (H:AHeap) (hist:uV) (past past':gW),Alike α β→PastLe past past'→
  aAH P N ops eff K n listed α H hist past→aAH P N ops eff K n listed β H hist past'
 |0,_,_,_,_,_,_,_,hab,_,h=>⟨h.1,hK _ _ _ hab h.2⟩
 |n+1,listed,α,β,H,hist,past,past',hab,hp,h=>by
  refine⟨fun h0=>hK _ _ _ hab (h.1 h0),fun i hi=>?_⟩
  have:=h.2 i hi
  unfold qM at this ⊢
  split
  ·rename_i ho;simp only[ho]at this;exact jK hK n _ _ _ _ _ _ _ hab hp this
  ·rename_i o ho
   simp only[ho]at this
   split
   ·rename_i he
    rw[if_pos he]at this
    obtain⟨v,H1,h1,h2,h3⟩:=this
    refine⟨v,H1,h1.alike hab,fun p hpp hb=>?_,jK hK n _ _ _ _ _ _ _ (hab.put _ _) hp h3⟩
    obtain⟨y,hy,e1,e2⟩:=hp p hpp
    exact e2 _ (h2 y hy (by rw[e1];exact hb))
   ·rename_i he
    rw[if_neg he]at this
    obtain⟨v,h1,h2,h3⟩:=this
    exact⟨v,h1.alike hab,fun e hee hb=>(h2 e hee hb).alike hab,jK hK n _ _ _ _ _ _ _ (hab.put _ _) (.cons (fun _ h=>h.alike hab) hp) h3⟩
def Head(P:Program)(N:Nat)(ops:Array Oper)(eff:Nat→Bool)(i:Nat)(oi:Oper)(v:AV)(H1:AHeap)(α:AF)(H:AHeap)(hist:uV)(past:gW):Prop:=
 yv P N ops oi α v H H1∧(eff i=true→∀p∈past,¬Bef ops p.1 i→p.2 H1)∧(eff i=false→H1=H∧∀e∈hist,¬Bef ops e.1 i→yv P N ops oi α v e.2 e.2)
theorem Head.qM{K:AF→AHeap→uV→gW→Prop}{i:Nat}{oi:Oper}{v:AV}{H1:AHeap}{α:AF}{H:AHeap}{hist:uV}{past:gW}(hi:ops[i]?=some oi)(h:Head P N ops eff i oi v H1 α H hist past)
  (hk:K (bU oi.dst v α) H1 (if eff i=true then(i,H)::hist else hist) (if eff i=true then past else(i,fun h=>yv P N ops oi α v h h)::past)):qM P N ops eff i K α H hist past:=by
 unfold Go.Aw.qM
 simp only[hi]
 cases he:eff i with
 |true=>
  rw[he]at hk
  rw[if_pos rfl]
  exact⟨v,H1,h.1,h.2.1 he,hk⟩
 |false=>
  rw[he]at hk
  obtain⟨e1,e2⟩:=h.2.2 he
  subst e1
  rw[if_neg (by simp)]
  exact⟨v,h.1,e2,hk⟩
theorem aBP{K:AF→AHeap→Prop}(hK:∀α β H,Alike α β→K α H→K β H){i:Nat}{oi:Oper}{v:AV}(hi:ops[i]?=some oi)(hEE:eff i=true→∀j,eff j=true→j≠i→∀listed,Closed ops listed→i∈Region.ready .any ops listed→j∈Region.ready .any ops listed→False):
  ∀(fuel:Nat) (listed:Array Bool) (α:AF) (H H1:AHeap) (hist:uV) (past:gW),Closed ops listed→
   (∀j oj,ops[j]?=some oj→j≠i→listed.getD j true=false→(∀e∈oj.after,Region.binds .any e=true→e.on≠i)→oi.apart ops oj=true)→
   i∈Region.ready .any ops listed→Head P N ops eff i oi v H1 α H hist past→
   aAH P N ops eff K fuel (listed.setIfInBounds i true) (bU oi.dst v α) H1 (if eff i=true then(i,H)::hist else hist) (if eff i=true then past else(i,fun h=>yv P N ops oi α v h h)::past)→
   aAH P N ops eff K (fuel+1) listed α H hist past:=by
 intro fuel
 induction fuel with
 |zero=>
  intro listed α H H1 hist past _ _ hr hy hh
  refine⟨fun h=>(by rw[h]at hr;cases hr),fun j hj=>?_⟩
  by_cases hji:j=i
  ·subst hji;exact hy.qM hi hh
  ·have:=ready_mono hj hji
   rw[hh.1]at this
   cases this
 |succ fuel ih=>
  intro listed α H H1 hist past hcl hfree hr hy hh
  refine⟨fun h=>(by rw[h]at hr;cases hr),fun j hj=>?_⟩
  by_cases hji:j=i
  ·subst hji;exact hy.qM hi hh
  ·have h1:=hh.2 j (ready_mono hj hji)
   obtain⟨hjun,oj,hoj,hall⟩:=mem_ready.1 hj
   have hnb:¬Bef ops i j:=zG hcl hr hj
   have hnot:∀e∈oj.after,Region.binds .any e=true→e.on≠i:=fun e he hb heq=>by
    have h1:=hall e he hb
    have h0:=(mem_ready.1 hr).1
    rw[heq]at h1
    rcases Nat.lt_or_ge i listed.size with h'|h'
    ·simp[h']at h0 h1;rw[h0]at h1;cases h1
    ·simp[Array.getElem?_eq_none h']at h1
   obtain⟨p1,p2,p3⟩:=Oper.apart_spec (hfree j oj hoj hji hjun hnot)
   have hcl':=hcl.set hj
   have hfree':∀k ok,ops[k]?=some ok→k≠i→(listed.setIfInBounds j true).getD k true=false→
     (∀e∈ok.after,Region.binds .any e=true→e.on≠i)→oi.apart ops ok=true:=fun k ok hk hki hun hno=>by
    refine hfree k ok hk hki ?_ hno
    by_cases hjk:j=k
    ·subst hjk;exact hjun
    ·rw[getD_set_ne true hjk]at hun;exact hun
   have hr':=ready_mono hr (Ne.symm hji)
   have hcomm:=Array.setIfInBounds_comm (xs:=listed) true true (Ne.symm hji)
   unfold Go.Aw.qM at h1 ⊢
   simp only[hoj]at h1 ⊢
   cases hej:eff j with
   |true=>
    rw[hej,if_pos rfl]at h1
    rw[if_pos rfl]
    obtain⟨u,H2,hyj,hpj,hkj⟩:=h1
    cases hei:eff i with
    |true=>exact(hEE hei j hej hji listed hcl hr hj).elim
    |false=>
     obtain⟨e1,e2⟩:=hy.2.2 hei
     subst e1
     simp only[hei,Bool.false_eq_true,if_false]at hpj hkj
     have hyi2:=hpj (i,fun h=>yv P N ops oi α v h h) (.head _) hnb
     refine⟨u,H2,hyj.unput p1,fun p hp hb=>hpj p (.tail _ hp) hb,?_⟩
     refine ih (listed.setIfInBounds j true) (bU oj.dst u α) H2 H2 ((j,H1)::hist) past hcl' hfree' hr' ⟨yv.put hyi2 p3,fun h=>(by rw[hei]at h;cases h),fun _=>⟨rfl,fun e he hb=>?_⟩⟩ ?_
     ·cases he with
      |head=>exact hy.1.put p3
      |tail _ he=>exact(e2 e he hb).put p3
     ·simp only[hei,Bool.false_eq_true,if_false]
      rw[Array.setIfInBounds_comm _ _ hji]
      exact jK hK _ _ _ _ _ _ _ _ (gZ p2) (.cons (fun _ h=>h.put p3) (.refl _)) hkj
   |false=>
    rw[hej,if_neg (by simp)]at h1
    rw[if_neg (by simp)]
    obtain⟨u,hyj,hhj,hkj⟩:=h1
    cases hei:eff i with
    |true=>
     simp only[hei,if_true]at hhj hkj
     have hyj0:yv P N ops oj α u H H:=(hhj (i,H) (.head _) hnb).unput p1
     refine⟨u,hyj0,fun e he hb=>(hhj e (.tail _ he) hb).unput p1,?_⟩
     refine ih (listed.setIfInBounds j true) (bU oj.dst u α) H H1 hist _ hcl' hfree' hr' ⟨hy.1.put p3,fun _ p hp hb=>?_,fun h=>(by rw[hei]at h;cases h)⟩ ?_
     ·cases hp with
      |head=>exact hyj.unput p1
      |tail _ hp=>exact hy.2.1 hei p hp hb
     ·simp only[hei,if_true]
      rw[Array.setIfInBounds_comm _ _ hji]
      exact jK hK _ _ _ _ _ _ _ _ (gZ p2) (.cons (fun _ h=>h.unput p1) (.refl _)) hkj
    |false=>
     obtain⟨e1,e2⟩:=hy.2.2 hei
     subst e1
     simp only[hei,Bool.false_eq_true,if_false]at hhj hkj
     refine⟨u,hyj.unput p1,fun e he hb=>(hhj e he hb).unput p1,?_⟩
     refine ih (listed.setIfInBounds j true) (bU oj.dst u α) H1 H1 hist _ hcl' hfree' hr' ⟨hy.1.put p3,fun h=>(by rw[hei]at h;cases h),fun _=>⟨rfl,fun e he hb=>(e2 e he hb).put p3⟩⟩ ?_
     simp only[hei,Bool.false_eq_true,if_false]
     rw[Array.setIfInBounds_comm _ _ hji]
     exact jK hK _ _ _ _ _ _ _ _ (gZ p2) (.swap (fun _ h=>h.put p3) (fun _ h=>h.unput p1)) hkj
def aM(P:Program)(N:Nat)(ops:Array Oper)(eff:Nat→Bool)(K:AF→AHeap→Prop):List Oper→Nat→AF→AHeap→uV→gW→Prop
 |[],_,α,H,_,_=>K α H
 |o::os,k,α,H,hist,past=>∃v H1,Head P N ops eff k o v H1 α H hist past∧
   aM P N ops eff K os (k+1) (bU o.dst v α) H1 (if eff k=true then(k,H)::hist else hist) (if eff k=true then past else(k,fun h=>yv P N ops o α v h h)::past)
theorem aAI{K:AF→AHeap→Prop}(hK:∀α β H,Alike α β→K α H→K β H)(hEE:∀i j,eff i=true→eff j=true→j≠i→∀listed,Closed ops listed→i∈Region.ready .any ops listed→j∈Region.ready .any ops listed→False):
  ∀(l:List Oper) (k:Nat) (listed:Array Bool) (α:AF) (H:AHeap) (hist:uV) (past:gW),(∀j,l[j]?=ops[k+j]?)→Closed ops listed→
  Region.lexFrom .any ops l.length k listed=true→aM P N ops eff K l k α H hist past→aAH P N ops eff K l.length listed α H hist past
 |[],_,_,_,_,_,_,_,_,hB,h=>⟨by simpa[Region.lexFrom]using hB,h⟩
 |o::l,k,listed,α,H,hist,past,hl,hc,hB,h=>by
  have h0:ops[k]?=some o:=by simpa using(hl 0).symm
  simp only[List.length_cons,Region.lexFrom,Bool.and_eq_true]at hB
  obtain⟨⟨hr,hf⟩,hB'⟩:=hB
  obtain⟨v,H1,hy,hk⟩:=h
  have hr':k∈Region.ready .any ops listed:=by simpa using hr
  exact aBP hK h0 (fun he j hj hne=>hEE k j he hj hne) l.length listed α H H1 hist past hc (Region.free_spec h0 hf) hr' hy
   (aAI hK hEE l (k+1) _ _ _ _ _ (fun j=>by have:=hl (j+1);simpa[Nat.add_assoc,Nat.add_comm 1 j]using this) (hc.set hr') hB' hk)
theorem kW{r:Option Nat}{Q:Exit→Act→World→Prop}{K:AF→AHeap→Prop}(hd:oI N ops=true)(c₀:Ctx)(hK:∀α H c a,K α H→St c H→Ext c₀ c→ARep c N α a→Q .normal a c.w):
  ∀(n:Nat) (listed:Array Bool) (α:AF) (H:AHeap) (hist:uV) (past:gW) (c:Ctx) (a:Act),St c H→Ext c₀ c→ARep c N α a→aAH P N ops eff K n listed α H hist past→wpAnyIn (wf r) 0 P .any ops Q n listed a c.w
 |0,_,_,_,_,_,_,_,hs,hx,ha,h=>⟨h.1,hK _ _ _ _ h.2 hs hx ha⟩
 |n+1,listed,α,H,hist,past,c,a,hs,hx,ha,h=>by
  refine⟨fun h0=>hK _ _ _ _ (h.1 h0) hs hx ha,fun i hi=>?_⟩
  have h1:=h.2 i hi
  unfold qM at h1
  unfold wpOpIn
  split
  ·rename_i ho;simp only[ho]at h1;exact kW hd c₀ hK n _ _ _ _ _ _ _ hs hx ha h1
  ·rename_i o ho
   simp only[ho]at h1
   have hdo:xJ N o.dst=true:=List.all_eq_true.1 hd o (by rw[Array.mem_toList_iff];exact Array.mem_of_getElem? ho)
   have go:∀v H1 hist' past',yv P N ops o α v H H1→aAH P N ops eff K n (listed.setIfInBounds i true) (bU o.dst v α) H1 hist' past'→
     if Region.wanted o (yielded ops a.tmps)then o.wpIn (wf r) 0 P a c.w (wpAnyIn (wf r) 0 P .any ops Q n (listed.setIfInBounds i true)) Q else(∀f,o.about P c.w a.eval=some f→(wf r).fn f)∧wpAnyIn (wf r) 0 P .any ops Q n (listed.setIfInBounds i true) (a.put o.dst undef) c.w:=by
    intro v H1 hist' past' hy hk
    have:=hy r c a (wpAnyIn (wf r) 0 P .any ops Q n (listed.setIfInBounds i true)) Q hs ha.size (fun t _=>ha.rep t)fun c' x v' H' g1 g2 g3 g4=>by
     obtain⟨e1,e2⟩:=g4
     rw[e2]at g1
     rw[e1]at g3
     exact kW hd c₀ hK n _ _ _ _ _ _ _ g1 (hx.trans g2) ((ha.mono g2).put hdo g3) hk
    by_cases hw:Region.wanted o (yielded ops a.tmps)=true
    ·rw[if_pos hw]at this ⊢;exact this
    ·rw[if_neg hw]at this ⊢;exact⟨fun _ _=>trivial,this⟩
   by_cases he:eff i=true
   ·rw[if_pos he]at h1
    obtain⟨v,H1,hy,_,hk⟩:=h1
    exact go v H1 _ _ hy hk
   ·rw[if_neg he]at h1
    obtain⟨v,hy,_,hk⟩:=h1
    exact go v H _ _ hy hk
end tree
section chain
variable {ops:Array Oper}
def jQ(ops:Array Oper):List Nat→Bool
 |a::b::l=>qF ops a b&&jQ ops (b::l)
 |_=>true
theorem rL:∀{a:Nat} {l:List Nat},jQ ops (a::l)=true→∀j∈l,Bef ops a j∧Lst ops a j
 |a,[],_,j,hj=>by cases hj
 |a,b::l,h,j,hj=>by
  rw[jQ,Bool.and_eq_true]at h
  cases hj with
  |head=>exact⟨.dir h.1 (.refl _),.dir h.1⟩
  |tail _ hj=>
   obtain⟨_,h2⟩:=rL h.2 j hj
   have key:∀{b:Nat} {l:List Nat},jQ ops (b::l)=true→∀x,Lst ops x b→∀j∈l,Bef ops x j:=by
    intro b l
    induction l generalizing b with
    |nil=>intro _ x _ j hj;cases hj
    |cons c l ih=>
     intro h x hx j hj
     rw[jQ,Bool.and_eq_true]at h
     cases hj with
     |head=>exact .dir h.1 hx
     |tail _ hj=>exact ih h.2 x (hx.trans (.dir h.1)) j hj
   exact⟨key h.2 a (.dir h.1) j hj,(Lst.dir h.1).trans h2⟩
theorem aBQ{a:Nat}{l:List Nat}(h:jQ ops (a::l)=true):jQ ops l=true:=by
 cases l with
 |nil=>rfl
 |cons b l=>rw[jQ,Bool.and_eq_true]at h;exact h.2
theorem aAJ:∀{l:List Nat},jQ ops l=true→∀i j,i∈l→j∈l→j≠i→Bef ops i j∨Bef ops j i
 |[],_,i,_,hi,_,_=>by cases hi
 |a::l,h,i,j,hi,hj,hne=>by
  cases hi with
  |head=>
   cases hj with
   |head=>exact absurd rfl hne
   |tail _ hj=>exact .inl (rL h j hj).1
  |tail _ hi=>
   cases hj with
   |head=>exact .inr (rL h i hi).1
   |tail _ hj=>exact aAJ (aBQ h) i j hi hj hne
end chain
inductive Pl where
 |free
 |pure (w:Nat)
 |eff (fs:List Bool)
def mU:Op→Bool
 |.move _|.assign _|.build _ _|.buildSlice _ _ _|.binOp _ _ _ _ _|.unOp _ _ _|.convert _ _ _|.makeInterface _ _|.makeFunc _ _ _|.field _ _ _|.typeAssert _ _ _ _|.extract _ _|.pick _ _ _=>true
 |_=>false
def pureAt(P:Program)(all:List Oper)(h:AHeap)(o:Oper)(α:AF)(v:AV):Prop:=
 match o with
 |⟨_,op,_,_,_,guard⟩=>
  match guard,op with
  |none,.pick x y z=>(eC true (ev α x) (ev α y) (ev α z)).s∧v=(eC true (ev α x) (ev α y) (ev α z)).v
  |none,.call ⟨.value f,xs,_⟩=>ACall P (ev α f) (xs.toList.map (ev α)) h (fun v' H'=>v'=v∧H'=h)
  |none,.call ⟨.invoke r m,xs,_⟩=>ACall P (dG P m (ev α r)) (xs.toList.map (ev α)) h (fun v' H'=>v'=v∧H'=h)
  |none,op=>(aP P op (ev α) h).s∧(aP P op (ev α) h).H=h∧v=(aP P op (ev α) h).v
  |some (j,want),.pick x y z=>
   mI (aG α (bV all j))∧((aY (aG α (bV all j)) want)=true→(eC (aY (aG α (bV all j)) want) (ev α x) (ev α y) (ev α z)).s)∧
    v=.opt (aY (aG α (bV all j)) want) (eC (aY (aG α (bV all j)) want) (ev α x) (ev α y) (ev α z)).v
  |some (j,want),.call ⟨.value f,xs,_⟩=>
   mI (aG α (bV all j))∧cV (aY (aG α (bV all j)) want) α (f::xs.toList)∧
    ∃u,(aY (aG α (bV all j)) want=true→ACall P (dU α f) (xs.toList.map (dU α)) h (fun v' H'=>v'=u∧H'=h))∧v=.opt (aY (aG α (bV all j)) want) u
  |some (j,want),op=>
   mI (aG α (bV all j))∧cV (aY (aG α (bV all j)) want) α op.operands.toList∧((aY (aG α (bV all j)) want)=true→(aP P op (dU α) h).s∧(aP P op (dU α) h).H=h)∧
    v=.opt (aY (aG α (bV all j)) want) (aP P op (dU α) h).v
theorem pureAt.yv{N:Nat}{ops:Array Oper}{o:Oper}{α:AF}{h:AHeap}{v:AV}(k:pureAt P ops.toList h o α v):yv P N ops o α v h h:=by
 obtain⟨dst,op,ty,pos,after,guard⟩:=o
 dsimp only[pureAt]at k
 split at k
 ·obtain⟨h1,rfl⟩:=k
  exact YG.of_does rfl (iE (o:=⟨dst,.pick _ _ _,ty,pos,after,none⟩) (ρ:=ev α) (H:=h) rfl rfl h1)
 ·exact YG.of_does rfl (fM rfl k)
 ·exact YG.of_does rfl (gQ rfl k)
 ·obtain⟨h1,h2,rfl⟩:=k
  exact(YG.of_does rfl (dX h1)).mono fun v H' ⟨e1,e2⟩=>⟨e1,e2.trans h2⟩
 ·rename_i j want x y z
  obtain⟨h1,h2,rfl⟩:=k
  exact YG.of_guard (o:=⟨dst,.pick x y z,ty,pos,after,some (j,want)⟩) rfl h1 (ev α) (fun c a _ hl x hx=>eD fun t ht=>hl t (bC (by subst ht;exact hx)))
   (fun hg=>iE (g:=aY (aG α (bV ops.toList j)) want) rfl hg (h2 hg))
 ·rename_i j want f xs ts
  obtain⟨h1,h2,u,h3,rfl⟩:=k
  exact YG.of_guard (o:=⟨dst,.call ⟨.value f,xs,ts⟩,ty,pos,after,some (j,want)⟩) rfl h1 (dU α) (fun c a hg hl x hx=>dV (eD fun t ht=>hl t (bC (by subst ht;exact hx))) (cX h2 x (by simpa[Op.operands,Call.operands]using hx)) hg)
   (fun hg=>fM rfl (h3 hg))
 ·rename_i j want op' _ _
  obtain⟨h1,h2,h3,rfl⟩:=k
  exact YG.of_guard (v:=(aP P op (dU α) h).v) rfl h1 (dU α) (fun c a hg hl x hx=>dV (eD fun t ht=>hl t (bC (by subst ht;exact hx))) (cX h2 x hx) hg)
   (fun hg=>(dX (h3 hg).1).mono fun v H' ⟨e1,e2⟩=>⟨e1,e2.trans (h3 hg).2⟩)
theorem sW{op:Op}(hf:mU op=true)(ρ:Operand→AV)(h h':AHeap):(aP P op ρ h').s=(aP P op ρ h).s∧(aP P op ρ h').v=(aP P op ρ h).v∧(aP P op ρ h').H=h':=by
 cases op<;>first|(simp[mU]at hf;done)|exact⟨rfl,rfl,rfl⟩|skip
 all_goals simp[aP]
theorem sX{all:List Oper}{h h':AHeap}{o:Oper}{α:AF}{v:AV}(hf:mU o.op=true)(k:pureAt P all h o α v):pureAt P all h' o α v:=by
 obtain⟨dst,op,ty,pos,after,guard⟩:=o
 have hf:mU op=true:=hf
 dsimp only[pureAt]at k ⊢
 split at k
 ·exact k
 ·simp[mU]at hf
 ·simp[mU]at hf
 ·rename_i op' hp hc _
  obtain⟨e1,e2,e3⟩:=sW (P:=P) hf (ev α) h h'
  rw[←e1,←e2]at k
  exact⟨k.1,e3,k.2.2⟩
 ·exact k
 ·simp[mU]at hf
 ·rename_i j want hp hc
  obtain⟨e1,e2,e3⟩:=sW (P:=P) hf (dU α) h h'
  rw[←e1,←e2]at k
  exact⟨k.1,k.2.1,fun hg=>⟨(k.2.2.1 hg).1,e3⟩,k.2.2.2⟩
def tL:List Bool→gW→AHeap→Prop
 |true::fs,p::ps,h=>p.2 h∧tL fs ps h
 |false::fs,_::ps,h=>tL fs ps h
 |_,_,_=>True
def iB{α:Type}:List Bool→List α→List α
 |true::fs,p::ps=>p::iB fs ps
 |false::fs,_::ps=>iB fs ps
 |_,_=>[]
def tM:Nat→List AHeap→(AHeap→Prop)→Prop
 |n+1,h::hs,φ=>φ h∧tM n hs φ
 |_,_,_=>True
def aZg(P:Program)(all:List Oper)(o:Oper)(α:AF)(H:AHeap):Prop:=
 match o.guard with
 |none=>(aP P o.op (ev α) H).s
 |some (j,want)=>mI (aG α (bV all j))∧cV (aY (aG α (bV all j)) want) α o.op.operands.toList∧(aY (aG α (bV all j)) want=true→(aP P o.op (dU α) H).s)
def aZh(P:Program)(all:List Oper)(o:Oper)(α:AF)(H:AHeap):AV:=
 match o.guard with
 |none=>(aP P o.op (ev α) H).v
 |some (j,want)=>.opt (aY (aG α (bV all j)) want) (aP P o.op (dU α) H).v
def aZi(P:Program)(all:List Oper)(o:Oper)(α:AF)(H:AHeap):AHeap:=
 match o.guard with
 |none=>(aP P o.op (ev α) H).H
 |some (j,want)=>bif aY (aG α (bV all j)) want then(aP P o.op (dU α) H).H else H
theorem YG.of_guardE{N:Nat}{ops:Array Oper}{H H1:AHeap}{o:Oper}{α:AF}{v:AV}{j:Nat}{want:Bool}(hg:o.guard=some (j,want))(hok:mI (aG α (bV ops.toList j)))
  (ρ:Operand→AV) (hρ:∀(c:Ctx) (a:Act),aY (aG α (bV ops.toList j)) want=true→(∀t∈o.looksAt ops,Rep c (look α t) (a.tmps.getD t undef))→∀x∈o.op.operands.toList,Rep c (ρ x) (a.eval x))
  (h:aY (aG α (bV ops.toList j)) want=true→Does P o ρ H (fun v' H'=>v'=v∧H'=H1)):
  YG P N ops H o α (fun v' H'=>v'=.opt (aY (aG α (bV ops.toList j)) want) v∧H'=bif aY (aG α (bV ops.toList j)) want then H1 else H):=by
 intro r c a next Q hs hsz hl hk
 rw[mP hg hl hok]
 cases hgv:aY (aG α (bV ops.toList j)) want with
 |true=>
  simp only[if_true]
  rw[hgv]at hk
  refine h hgv r c a next Q hs (hρ c a hgv hl)fun c' x v' H' h1 h2 h3 h4=>?_
  obtain⟨rfl,rfl⟩:=h4
  exact hk c' _ v' _ h1 h2 (.opt _ _ _ (fun _=>h3) (fun h=>by cases h)) ⟨rfl,rfl⟩
 |false=>
  simp only[Bool.false_eq_true,if_false]
  rw[hgv]at hk
  exact hk c _ undef H hs (Ext.refl c) (.opt _ _ _ (fun h=>by cases h) (fun _=>rfl)) ⟨rfl,rfl⟩
theorem aIv{N:Nat}{ops:Array Oper}{o:Oper}{α:AF}{H:AHeap}(h:aZg P ops.toList o α H):yv P N ops o α (aZh P ops.toList o α H) H (aZi P ops.toList o α H):=by
 obtain⟨dst,op,ty,pos,after,guard⟩:=o
 cases guard with
 |none=>exact YG.of_does rfl (dX (o:=⟨dst,op,ty,pos,after,none⟩) h)
 |some g=>
  obtain⟨j,want⟩:=g
  obtain⟨h1,h2,h3⟩:=h
  exact YG.of_guardE (o:=⟨dst,op,ty,pos,after,some (j,want)⟩) (v:=(aP P op (dU α) H).v) (H1:=(aP P op (dU α) H).H) rfl h1 (dU α)
   (fun c a hg hl x hx=>dV (eD fun t ht=>hl t (bC (by subst ht;exact hx))) (cX h2 x hx) hg)
   (fun hg=>dX (h3 hg))
def aFE(P:Program)(all:List Oper)(o:Oper)(α:AF)(H:AHeap)(v:AV)(H1:AHeap):Prop:=
 match o with
 |⟨_,.call ⟨.value f,xs,_⟩,_,_,_,none⟩=>ACall P (ev α f) (xs.toList.map (ev α)) H (fun v' H'=>v'=v∧H'=H1)
 |⟨_,.call ⟨.value f,xs,_⟩,_,_,_,some (j,want)⟩=>mI (aG α (bV all j))∧cV (aY (aG α (bV all j)) want) α (f::xs.toList)∧
   ∃u,(aY (aG α (bV all j)) want=true→ACall P (dU α f) (xs.toList.map (dU α)) H (fun v' H'=>v'=u∧H'=H1))∧(aY (aG α (bV all j)) want=false→H1=H)∧v=.opt (aY (aG α (bV all j)) want) u
 |o=>aZg P all o α H∧v=aZh P all o α H∧H1=aZi P all o α H
theorem aIw{N:Nat}{ops:Array Oper}{o:Oper}{α:AF}{H H1:AHeap}{v:AV}(h:aFE P ops.toList o α H v H1):yv P N ops o α v H H1:=by
 unfold aFE at h
 split at h
 ·exact YG.of_does rfl (fM rfl h)
 ·rename_i dst f xs ts ty pos after j want
  obtain⟨h1,h2,u,h3,h4,rfl⟩:=h
  refine YG.mono (YG.of_guardE (o:=⟨dst,.call ⟨.value f,xs,ts⟩,ty,pos,after,some (j,want)⟩) (H1:=H1) rfl h1 (dU α) (fun c a hg hl x hx=>dV (eD fun t ht=>hl t (bC (by subst ht;exact hx))) (cX h2 x (by simpa[Op.operands,Call.operands]using hx)) hg)
   (fun hg=>fM rfl (h3 hg)))fun v' H' ⟨e1,e2⟩=>⟨e1,e2.trans ?_⟩
  cases hg:aY (aG α (bV ops.toList j)) want with
  |true=>rfl
  |false=>exact(h4 hg).symm
 ·obtain⟨h1,rfl,rfl⟩:=h
  exact aIv h1
def cC(P:Program)(all:List Oper):List Pl→List Oper→Nat→AF→AHeap→List AHeap→gW→(AF→AHeap→Prop)→Prop
 |[],[],_,α,H,_,_,kont=>kont α H
 |.free::ps,o::os,k,α,H,hist,past,kont=>∃v,pureAt P all H o α v∧cC P all ps os (k+1) (bU o.dst v α) H hist past kont
 |.pure w::ps,o::os,k,α,H,hist,past,kont=>∃v,pureAt P all H o α v∧tM w hist (fun h=>pureAt P all h o α v)∧
   cC P all ps os (k+1) (bU o.dst v α) H hist ((k,fun h=>pureAt P all h o α v)::past) kont
 |.eff fs::ps,o::os,k,α,H,hist,past,kont=>∃v H1,aFE P all o α H v H1∧tL fs past H1∧
   cC P all ps os (k+1) (bU o.dst v α) H1 (H::hist) (iB fs past) kont
 |_,_,_,_,_,_,_,_=>False
def lN(ops:Array Oper):List Oper→List Pl→Nat→List Nat→List Nat→Bool
 |[],[],_,_,_=>true
 |o::os,.free::ps,k,effs,past=>mU o.op&&lN ops os ps (k+1) effs past
 |_::os,.pure w::ps,k,effs,past=>(match effs[w]? with|some e=>qF ops e k|none=>true)&&lN ops os ps (k+1) effs (k::past)
 |_::os,.eff fs::ps,k,effs,past=>(match effs with|e::_=>qF ops e k|[]=>true)&&(fs.length==past.length)&&(fs.zip past).all (fun x=>x.1||qF ops x.2 k)&&lN ops os ps (k+1) (k::effs) (iB fs past)
 |_,_,_,_,_=>false
def iH:List Pl→Nat→List Nat
 |[],_=>[]
 |.eff _::ps,k=>k::iH ps (k+1)
 |_::ps,k=>iH ps (k+1)
theorem jR:∀(pl:List Pl) (k i:Nat),i∈iH pl k→k≤i
 |[],_,_,h=>by cases h
 |.eff _::ps,k,i,h=>by
  cases h with
  |head=>exact Nat.le_refl _
  |tail _ h=>exact Nat.le_trans (Nat.le_succ _) (jR ps (k+1) i h)
 |.free::ps,k,i,h=>Nat.le_trans (Nat.le_succ _) (jR ps (k+1) i h)
 |.pure _::ps,k,i,h=>Nat.le_trans (Nat.le_succ _) (jR ps (k+1) i h)
theorem xS{φ:AHeap→Prop}:∀{w:Nat} {hs:List AHeap},tM w hs φ→∀i h,i<w→hs[i]?=some h→φ h
 |0,_,_,_,_,hi,_=>absurd hi (Nat.not_lt_zero _)
 |w+1,[],_,i,h,_,hh=>by simp at hh
 |w+1,g::hs,k,0,h,_,hh=>by simp at hh;subst hh;exact k.1
 |w+1,g::hs,k,i+1,h,hi,hh=>xS k.2 i h (Nat.lt_of_succ_lt_succ hi) (by simpa using hh)
def Falls(ops:Array Oper):List Nat→Prop
 |a::b::l=>qF ops b a=true∧Falls ops (b::l)
 |_=>True
theorem Falls.tail{ops:Array Oper}{a:Nat}{l:List Nat}(h:Falls ops (a::l)):Falls ops l:=by
 cases l with
 |nil=>trivial
 |cons b l=>exact h.2
theorem rM{ops:Array Oper}:∀{l:List Nat},Falls ops l→∀(p q a b:Nat),p≤q→l[p]?=some a→l[q]?=some b→Lst ops b a
 |[],_,p,_,_,_,_,h,_=>by simp at h
 |x::l,hf,0,0,a,b,_,h1,h2=>by simp at h1 h2;subst h1;subst h2;exact .refl _
 |x::l,hf,p+1,0,_,_,h,_,_=>absurd h (Nat.not_succ_le_zero p)
 |x::l,hf,p+1,q+1,a,b,h,h1,h2=>rM hf.tail p q a b (Nat.le_of_succ_le_succ h) (by simpa using h1) (by simpa using h2)
 |x::l,hf,0,q+1,a,b,_,h1,h2=>by
  simp at h1;subst h1
  cases l with
  |nil=>simp at h2
  |cons y l=>exact(rM hf.tail 0 q y b (Nat.zero_le _) (by simp) (by simpa using h2)).trans (.dir hf.1)
theorem rN{ops:Array Oper}{k:Nat}{h:AHeap}:∀{fs:List Bool} {ps:gW},tL fs ps h→fs.length=ps.length→(∀x∈fs.zip (ps.map (·.1)),(x.1||qF ops x.2 k)=true)→
  ∀p∈ps,p.2 h∨qF ops p.1 k=true
 |[],[],_,_,_,p,hp=>by cases hp
 |true::fs,q::ps,ha,hl,hz,p,hp=>by
  cases hp with
  |head=>exact .inl ha.1
  |tail _ hp=>exact rN ha.2 (by simpa using hl) (fun x hx=>hz x (by simp only[List.map_cons,List.zip_cons_cons];exact .tail _ hx)) p hp
 |false::fs,q::ps,ha,hl,hz,p,hp=>by
  cases hp with
  |head=>have:=hz (false,q.1) (by simp);simpa using Or.inr this
  |tail _ hp=>exact rN (show tL fs ps h from ha) (by simpa using hl) (fun x hx=>hz x (by simp only[List.map_cons,List.zip_cons_cons];exact .tail _ hx)) p hp
 |[],_::_,_,hl,_,_,_=>by simp at hl
 |_::_,[],_,hl,_,_,_=>by simp at hl
theorem rO{β:Type}(f:(Nat×(AHeap→Prop))→β):∀(fs:List Bool) (ps:gW),(iB fs ps).map f=iB fs (ps.map f)
 |[],ps=>by cases ps<;>rfl
 |true::fs,[]=>rfl
 |false::fs,[]=>rfl
 |true::fs,p::ps=>by simp[iB,rO f fs ps]
 |false::fs,p::ps=>by simp[iB,rO f fs ps]
theorem oM{ops:Array Oper}{k:Nat}:∀{fs:List Bool} {ps:gW},fs.length=ps.length→(∀x∈fs.zip (ps.map (·.1)),(x.1||qF ops x.2 k)=true)→∀p∈ps,p∈iB fs ps∨qF ops p.1 k=true
 |[],[],_,_,p,hp=>by cases hp
 |true::fs,q::ps,hl,hz,p,hp=>by
  cases hp with
  |head=>exact .inl (.head _)
  |tail _ hp=>exact(oM (by simpa using hl) (fun x hx=>hz x (by simp only[List.map_cons,List.zip_cons_cons];exact .tail _ hx)) p hp).imp (.tail _) id
 |false::fs,q::ps,hl,hz,p,hp=>by
  cases hp with
  |head=>have:=hz (false,q.1) (by simp);simpa using Or.inr this
  |tail _ hp=>exact(oM (by simpa using hl) (fun x hx=>hz x (by simp only[List.map_cons,List.zip_cons_cons];exact .tail _ hx)) p hp).imp id id
 |[],_::_,hl,_,_,_=>by simp at hl
 |_::_,[],hl,_,_,_=>by simp at hl
def aNr(ops:Array Oper)(effs:List Nat)(tp sp:gW):Prop:=
 ∀p∈tp,(∃e l,effs=e::l∧Lst ops p.1 e)∨(∀h,p.2 h)∨∃q∈sp,q.1=p.1∧∀h,q.2 h→p.2 h
theorem kI{N:Nat}{ops:Array Oper}{plan:List Pl}{K:AF→AHeap→Prop}(hN:True):
  ∀(os:List Oper) (pl:List Pl) (k:Nat) (α:AF) (H:AHeap) (effs:List Nat) (hist:List AHeap) (tp sp:gW),lN ops os pl k effs (sp.map (·.1))=true→
   (∀i,k≤i→(i∈iH plan 0↔i∈iH pl k))→effs.length=hist.length→Falls ops effs→aNr ops effs tp sp→
   cC P ops.toList pl os k α H hist sp K→aM P N ops (fun i=>(iH plan 0).contains i) K os k α H (effs.zip hist) tp
 |[],[],_,_,_,_,_,_,_,_,_,_,_,_,h=>h
 |o::os,.free::pl,k,α,H,effs,hist,tp,sp,hp,he,hl,hf,hpo,h=>by
  rw[lN,Bool.and_eq_true]at hp
  obtain⟨v,h1,h2⟩:=h
  have hne:(iH plan 0).contains k=false:=by
   rw[←Bool.not_eq_true,List.contains_iff_mem,he k (Nat.le_refl _)]
   intro hm
   have:=jR pl (k+1) k hm
   omega
  refine⟨v,H,⟨h1.yv,fun q=>Bool.noConfusion (hne.symm.trans q),fun _=>⟨rfl,fun e _ _=>(sX hp.1 h1).yv⟩⟩,?_⟩
  simp only[hne,Bool.false_eq_true,if_false]
  refine kI hN os pl (k+1) _ H effs hist _ sp hp.2 (fun i hi=>he i (by omega)) hl hf ?_ h2
  intro p hpp
  cases hpp with
  |head=>exact .inr (.inl fun h=>(sX hp.1 h1).yv)
  |tail _ hpp=>exact hpo p hpp
 |o::os,.pure w::pl,k,α,H,effs,hist,tp,sp,hp,he,hl,hf,hpo,h=>by
  rw[lN,Bool.and_eq_true]at hp
  obtain⟨v,h1,h2,h3⟩:=h
  have hne:(iH plan 0).contains k=false:=by
   rw[←Bool.not_eq_true,List.contains_iff_mem,he k (Nat.le_refl _)]
   intro hm
   have:=jR pl (k+1) k hm
   omega
  refine⟨v,H,⟨h1.yv,fun q=>Bool.noConfusion (hne.symm.trans q),fun _=>⟨rfl,fun e hee hb=>?_⟩⟩,?_⟩
  ·obtain⟨i,hi⟩:=List.getElem?_of_mem hee
   rw[List.getElem?_zip_eq_some]at hi
   by_cases hw:i<w
   ·exact(xS h2 i e.2 hw hi.2).yv
   ·have hle:i<effs.length:=(List.getElem?_eq_some_iff.1 hi.1).1
    have hwl:effs[w]?=some (effs[w]'(by omega)):=List.getElem?_eq_getElem (by omega)
    rw[hwl]at hp
    exact absurd (.dir hp.1 (rM hf w i _ _ (by omega) hwl hi.1)) hb
  ·simp only[hne,Bool.false_eq_true,if_false]
   refine kI hN os pl (k+1) _ H effs hist _ _ (by simpa using hp.2) (fun i hi=>he i (by omega)) hl hf ?_ h3
   intro p hpp
   cases hpp with
   |head=>exact .inr (.inr ⟨_,.head _,rfl,fun h hh=>hh.yv⟩)
   |tail _ hpp=>
    rcases hpo p hpp with q|q|⟨q,hq,q1,q2⟩
    ·exact .inl q
    ·exact .inr (.inl q)
    ·exact .inr (.inr ⟨q,.tail _ hq,q1,q2⟩)
 |o::os,.eff fs::pl,k,α,H,effs,hist,tp,sp,hp,he,hl,hf,hpo,h=>by
  simp only[lN,Bool.and_eq_true]at hp
  obtain⟨⟨⟨hch,hfl⟩,hz⟩,hrest⟩:=hp
  obtain⟨v,H1,h1,h2,h3⟩:=h
  have hee:(iH plan 0).contains k=true:=by
   rw[List.contains_iff_mem,he k (Nat.le_refl _)];exact .head _
  have hfl':fs.length=sp.length:=by simpa using hfl
  have hz':∀x∈fs.zip (sp.map (·.1)),(x.1||qF ops x.2 k)=true:=List.all_eq_true.1 hz
  refine⟨_,_,⟨aIw h1,fun _ p hpp hb=>?_,fun q=>Bool.noConfusion (hee.symm.trans q)⟩,?_⟩
  ·rcases hpo p hpp with⟨e,l,he',q⟩|q|⟨q,hq,q1,q2⟩
   ·rw[he']at hch
    exact absurd (.dir hch q) hb
   ·exact q _
   ·rcases rN h2 hfl' hz' q hq with r|r
    ·exact q2 _ r
    ·rw[q1]at r
     exact absurd (.dir r (.refl _)) hb
  ·simp only[hee,if_true]
   refine kI hN os pl (k+1) _ _ (k::effs) (H::hist) tp _ (by rw[rO];exact hrest) (fun i hi=>?_) (by simp[hl]) ?_ ?_ h3
   ·rw[he i (by omega)]
    constructor
    ·intro hm
     cases hm with
     |head=>omega
     |tail _ hm=>exact hm
    ·exact .tail _
   ·cases effs with
    |nil=>trivial
    |cons e l=>exact⟨hch,hf⟩
   ·intro p hpp
    rcases hpo p hpp with⟨e,l,he',q⟩|q|⟨q,hq,q1,q2⟩
    ·rw[he']at hch
     exact .inl ⟨k,effs,rfl,q.trans (.dir hch)⟩
    ·exact .inr (.inl q)
    ·rcases oM hfl' hz' q hq with r|r
     ·exact .inr (.inr ⟨q,r,q1,q2⟩)
     ·rw[q1]at r
      exact .inl ⟨k,effs,rfl,.dir r⟩
theorem aBR{all:List Oper}{k k':AF→AHeap→Prop}(hk:∀α H,k α H→k' α H)(pl:List Pl):∀(l:List Oper) (n:Nat) (α:AF) (H:AHeap) (hist:List AHeap) (past:gW),cC P all pl l n α H hist past k→cC P all pl l n α H hist past k':=by
 induction pl with
 |nil=>
  intro l n α H hist past h
  cases l with
  |nil=>exact hk α H h
  |cons o os=>exact h
 |cons p ps ih=>
  intro l n α H hist past h
  cases l with
  |nil=>cases p<;>exact h
  |cons o os=>
   cases p with
   |free=>obtain⟨v,h1,h2⟩:=h;exact⟨v,h1,ih _ _ _ _ _ _ h2⟩
   |pure w=>obtain⟨v,h1,h2,h3⟩:=h;exact⟨v,h1,h2,ih _ _ _ _ _ _ h3⟩
   |eff fs=>obtain⟨v,H1,h1,h2,h3⟩:=h;exact⟨v,H1,h1,h2,ih _ _ _ _ _ _ h3⟩
theorem wZ{N id:Nat}{ops:Array Oper}{Q:bL}{α:AF}{H:AHeap}(plan:List Pl)(hm:P.follows .mixedOrders=true)(hd:oI N ops=true)(hB:Region.lexB .any ops=true)
  (hp:(lN ops ops.toList plan 0 [] []&&jQ ops (iH plan 0))=true) (h:cC P ops.toList plan ops.toList 0 α H [] [] (fun α' H'=>Q .normal α' H')):aw P N (.region id ops true) Q α H:=by
 intro r c a _ hs ha
 simp only[Region.lexB,Bool.and_eq_true]at hB hp
 refine wpIn_region_any hm ?_
 have h1:=aBR (k':=fun α' H'=>∃β,Alike α' β∧Q .normal β H') (fun α' H' hq=>⟨α',fun _=>rfl,hq⟩) _ _ _ _ _ _ _ h
 have h2:=kI (P:=P) (N:=N) (ops:=ops) (plan:=plan) trivial ops.toList plan 0 α H [] [] [] [] hp.1 (fun _ _=>Iff.rfl) rfl trivial (fun p hp=>by cases hp) h1
 have hEE:∀i j,(iH plan 0).contains i=true→(iH plan 0).contains j=true→j≠i→∀listed,Closed ops listed→i∈Region.ready .any ops listed→j∈Region.ready .any ops listed→False:=by
  intro i j hi hj hne listed hc h1 h2
  rcases aAJ hp.2 i j (List.contains_iff_mem.1 hi) (List.contains_iff_mem.1 hj) hne with q|q
  ·exact zG hc h1 h2 q
  ·exact zG hc h2 h1 q
 have hc0:Closed ops (Array.replicate ops.size false):=by
  intro q o hq
  rw[Array.getD_eq_getD_getElem?]at hq
  by_cases hlt:q<ops.size<;>simp[Array.getElem?_replicate,hlt]at hq
 have h3:=aAI (fun α β H hab ⟨γ,hg,hq⟩=>⟨γ,fun t=>(hab t).symm.trans (hg t),hq⟩) hEE ops.toList 0 (Array.replicate ops.size false) α H _ _ (by simp) hc0 (by simpa using hB.2) h2
 have h4:=kW (r:=r) (P:=P) (Q:=aAy N c Q) hd c (fun α' H' c' a' ⟨β,hab,hq⟩ hs' hx' ha'=>⟨c',β,H',rfl,hs',hx',ha'.weaken fun t=>.inr (hab t).symm,hq⟩)
  ops.toList.length (Array.replicate ops.size false) α H _ _ c.draw a hs.draw (Ext.draw c) (ha.mono (Ext.draw c)) h3
 rw[Array.length_toList]at h4
 exact h4
end Go.Aw
/- The abstract machine: the equations of regions in mixed order, for evaluation by simp only [go_sem]. No condition. -/
namespace Go.Aw
open Go
set_option linter.unusedVariables false
set_option linter.unusedSimpArgs false
variable {P:Program}
theorem exF{A B:Prop}{b:AV}{X:AV→Prop}:(∃v,(A∧B∧v=b)∧X v)=(A∧B∧X b):=
 propext ⟨fun⟨_,⟨h1,h2,e⟩,x⟩=>⟨h1,h2,e▸x⟩,fun⟨h1,h2,x⟩=>⟨b,⟨h1,h2,rfl⟩,x⟩⟩
theorem exG{A B C:Prop}{b:AV}{X:AV→Prop}:(∃v,(A∧B∧C∧v=b)∧X v)=(A∧B∧C∧X b):=
 propext ⟨fun⟨_,⟨h1,h2,h3,e⟩,x⟩=>⟨h1,h2,h3,e▸x⟩,fun⟨h1,h2,h3,x⟩=>⟨b,⟨h1,h2,h3,rfl⟩,x⟩⟩
theorem exP{A B:Prop}{b:AV}{W X:AV→Prop}:(∃v,(A∧B∧v=b)∧W v∧X v)=(A∧B∧W b∧X b):=
 propext ⟨fun⟨_,⟨h1,h2,e⟩,y,x⟩=>⟨h1,h2,e▸y,e▸x⟩,fun⟨h1,h2,y,x⟩=>⟨b,⟨h1,h2,rfl⟩,y,x⟩⟩
theorem exQ{A B C:Prop}{b:AV}{W X:AV→Prop}:(∃v,(A∧B∧C∧v=b)∧W v∧X v)=(A∧B∧C∧W b∧X b):=
 propext ⟨fun⟨_,⟨h1,h2,h3,e⟩,y,x⟩=>⟨h1,h2,h3,e▸y,e▸x⟩,fun⟨h1,h2,h3,y,x⟩=>⟨b,⟨h1,h2,h3,rfl⟩,y,x⟩⟩
theorem exE{A:Prop}{b:AV}{G:AHeap}{W:AHeap→Prop}{X:AV→AHeap→Prop}:(∃v H1,(A∧v=b∧H1=G)∧W H1∧X v H1)=(A∧W G∧X b G):=
 propext ⟨fun⟨_,_,⟨h1,e,e'⟩,y,x⟩=>by subst e;subst e';exact⟨h1,y,x⟩,fun⟨h1,y,x⟩=>⟨b,G,⟨h1,rfl,rfl⟩,y,x⟩⟩
attribute [go_sem] tL iB tM
def aFF(P:Program)(g:Bool)(f:AV)(xs:List AV)(H:AHeap)(K:AV→AHeap→Prop):Prop:=
 ∃v H1,(g=true→ACall P f xs H (fun v' H'=>v'=v∧H'=H1))∧(g=false→H1=H)∧K v H1
def gF(P:Program)(g:Bool)(f:AV)(xs:List AV)(v:AV):AHeap→Prop:=fun h=>g=true→ACall P f xs h (fun v' H'=>v'=v∧H'=h)
def xT(P:Program)(g:Bool)(f:AV)(xs:List AV)(H:AHeap)(w:Nat)(hist:List AHeap)(K:AV→Prop):Prop:=∃v,gF P g f xs v H∧tM w hist (gF P g f xs v)∧K v
section
variable (all os:List Oper) (pp:List Pl) (w k:Nat) (fs:List Bool) (α:AF) (H:AHeap) (hist:List AHeap) (past:gW) (kont:AF→AHeap→Prop) (dst:Option Tmp) (ty:TypeId) (pos:String) (after:Array Edge)
def aBS(P:Program)(all:List Oper)(pp:List Pl)(os:List Oper)(k:Nat)(dst:Option Tmp)(α:AF)(H:AHeap)(hist:List AHeap)(past:gW)(kont:AF→AHeap→Prop)(f:AV)(xs:List AV):AV→Prop:=
 fun v=>cC P all pp os (k+1) (bU dst v α) H hist ((k,gF P true f xs v)::past) kont
def aFG(P:Program)(all:List Oper)(pp:List Pl)(os:List Oper)(k:Nat)(dst:Option Tmp)(g:Bool)(α:AF)(H:AHeap)(hist:List AHeap)(past:gW)(kont:AF→AHeap→Prop)(f:AV)(xs:List AV):AV→Prop:=
 fun v=>cC P all pp os (k+1) (bU dst (.opt g v) α) H hist ((k,gF P g f xs v)::past) kont
@[go_sem] theorem mN:cC P all [] [] k α H hist past kont=kont α H:=rfl
@[go_sem] theorem aZj(f:Operand)(xs:Array Operand)(ts:Array TypeId):cC P all (.pure w::pp) (⟨dst,.call ⟨.value f,xs,ts⟩,ty,pos,after,none⟩::os) k α H hist past kont=
  xT P true (ev α f) (xs.toList.map (ev α)) H w hist (aBS P all pp os k dst α H hist past kont (ev α f) (xs.toList.map (ev α))):=by
 have e:∀v,(fun h=>pureAt P all h ⟨dst,.call ⟨.value f,xs,ts⟩,ty,pos,after,none⟩ α v)=gF P true (ev α f) (xs.toList.map (ev α)) v:=fun v=>funext fun h=>propext ⟨fun k _=>k,fun k=>k rfl⟩
 show(∃v,(fun h=>pureAt P all h ⟨dst,.call ⟨.value f,xs,ts⟩,ty,pos,after,none⟩ α v) H∧tM w hist (fun h=>pureAt P all h ⟨dst,.call ⟨.value f,xs,ts⟩,ty,pos,after,none⟩ α v)∧cC P all pp os (k+1) (bU dst v α) H hist ((k,fun h=>pureAt P all h ⟨dst,.call ⟨.value f,xs,ts⟩,ty,pos,after,none⟩ α v)::past) kont)=_
 have e':∀v,pureAt P all H ⟨dst,.call ⟨.value f,xs,ts⟩,ty,pos,after,none⟩ α v=gF P true (ev α f) (xs.toList.map (ev α)) v H:=fun v=>congrFun (e v) H
 simp only[e,e'];rfl
@[go_sem] theorem aSG(r:Operand)(m:String)(xs:Array Operand)(ts:Array TypeId):cC P all (.pure w::pp) (⟨dst,.call ⟨.invoke r m,xs,ts⟩,ty,pos,after,none⟩::os) k α H hist past kont=
  xT P true (dG P m (ev α r)) (xs.toList.map (ev α)) H w hist (aBS P all pp os k dst α H hist past kont (dG P m (ev α r)) (xs.toList.map (ev α))):=by
 have e:∀v,(fun h=>pureAt P all h ⟨dst,.call ⟨.invoke r m,xs,ts⟩,ty,pos,after,none⟩ α v)=gF P true (dG P m (ev α r)) (xs.toList.map (ev α)) v:=fun v=>funext fun h=>propext ⟨fun k _=>k,fun k=>k rfl⟩
 show(∃v,(fun h=>pureAt P all h ⟨dst,.call ⟨.invoke r m,xs,ts⟩,ty,pos,after,none⟩ α v) H∧tM w hist (fun h=>pureAt P all h ⟨dst,.call ⟨.invoke r m,xs,ts⟩,ty,pos,after,none⟩ α v)∧cC P all pp os (k+1) (bU dst v α) H hist ((k,fun h=>pureAt P all h ⟨dst,.call ⟨.invoke r m,xs,ts⟩,ty,pos,after,none⟩ α v)::past) kont)=_
 have e':∀v,pureAt P all H ⟨dst,.call ⟨.invoke r m,xs,ts⟩,ty,pos,after,none⟩ α v=gF P true (dG P m (ev α r)) (xs.toList.map (ev α)) v H:=fun v=>congrFun (e v) H
 simp only[e,e'];rfl
@[go_sem] theorem aSH(f:Operand)(xs:Array Operand)(ts:Array TypeId)(j:Nat)(w0:Bool):cC P all (.pure w::pp) (⟨dst,.call ⟨.value f,xs,ts⟩,ty,pos,after,some (j,w0)⟩::os) k α H hist past kont=
  (mI (aG α (bV all j))∧cV (aY (aG α (bV all j)) w0) α (f::xs.toList)∧
   xT P (aY (aG α (bV all j)) w0) (dU α f) (xs.toList.map (dU α)) H w hist (aFG P all pp os k dst (aY (aG α (bV all j)) w0) α H hist past kont (dU α f) (xs.toList.map (dU α)))):=by
 refine propext ⟨?_,?_⟩
 ·rintro⟨v,⟨h1,h2,u,h3,rfl⟩,h4,h5⟩
  have e:(fun h=>pureAt P all h ⟨dst,.call ⟨.value f,xs,ts⟩,ty,pos,after,some (j,w0)⟩ α (.opt (aY (aG α (bV all j)) w0) u))=gF P (aY (aG α (bV all j)) w0) (dU α f) (xs.toList.map (dU α)) u:=
   funext fun h=>propext ⟨fun⟨_,_,u',k1,k2⟩=>by cases k2;exact k1,fun k1=>⟨h1,h2,u,k1,rfl⟩⟩
  rw[e]at h4 h5
  exact⟨h1,h2,u,h3,h4,h5⟩
 ·rintro⟨h1,h2,u,h3,h4,h5⟩
  have e:(fun h=>pureAt P all h ⟨dst,.call ⟨.value f,xs,ts⟩,ty,pos,after,some (j,w0)⟩ α (.opt (aY (aG α (bV all j)) w0) u))=gF P (aY (aG α (bV all j)) w0) (dU α f) (xs.toList.map (dU α)) u:=
   funext fun h=>propext ⟨fun⟨_,_,u',k1,k2⟩=>by cases k2;exact k1,fun k1=>⟨h1,h2,u,k1,rfl⟩⟩
  refine⟨_,⟨h1,h2,u,h3,rfl⟩,?_,?_⟩
  ·show tM w hist (fun h=>pureAt P all h ⟨dst,.call ⟨.value f,xs,ts⟩,ty,pos,after,some (j,w0)⟩ α (.opt (aY (aG α (bV all j)) w0) u))
   rw[e];exact h4
  ·show cC P all pp os (k+1) _ H hist ((k,fun h=>pureAt P all h ⟨dst,.call ⟨.value f,xs,ts⟩,ty,pos,after,some (j,w0)⟩ α (.opt (aY (aG α (bV all j)) w0) u))::past) kont
   rw[e];exact h5
def aFH(P:Program)(all:List Oper)(pp:List Pl)(os:List Oper)(k:Nat)(fs:List Bool)(dst:Option Tmp)(g:Bool)(α:AF)(H:AHeap)(hist:List AHeap)(past:gW)(kont:AF→AHeap→Prop):AV→AHeap→Prop:=
 fun v H1=>tL fs past H1∧cC P all pp os (k+1) (bU dst (.opt g v) α) H1 (H::hist) (iB fs past) kont
def aFI(P:Program)(all:List Oper)(pp:List Pl)(os:List Oper)(k:Nat)(fs:List Bool)(dst:Option Tmp)(α:AF)(H:AHeap)(hist:List AHeap)(past:gW)(kont:AF→AHeap→Prop):AV→AHeap→Prop:=
 fun v H1=>tL fs past H1∧cC P all pp os (k+1) (bU dst v α) H1 (H::hist) (iB fs past) kont
@[go_sem] theorem aZk(f:Operand)(xs:Array Operand)(ts:Array TypeId):cC P all (.eff fs::pp) (⟨dst,.call ⟨.value f,xs,ts⟩,ty,pos,after,none⟩::os) k α H hist past kont=
  aFF P true (ev α f) (xs.toList.map (ev α)) H (aFI P all pp os k fs dst α H hist past kont):=
 propext ⟨fun⟨v,H1,h1,h2⟩=>⟨v,H1,fun _=>h1,fun h=>(by cases h),h2⟩,fun⟨v,H1,h1,_,h2⟩=>⟨v,H1,h1 rfl,h2⟩⟩
@[go_sem] theorem aSI(f:Operand)(xs:Array Operand)(ts:Array TypeId)(j:Nat)(w0:Bool):cC P all (.eff fs::pp) (⟨dst,.call ⟨.value f,xs,ts⟩,ty,pos,after,some (j,w0)⟩::os) k α H hist past kont=
  (mI (aG α (bV all j))∧cV (aY (aG α (bV all j)) w0) α (f::xs.toList)∧
   aFF P (aY (aG α (bV all j)) w0) (dU α f) (xs.toList.map (dU α)) H (aFH P all pp os k fs dst (aY (aG α (bV all j)) w0) α H hist past kont)):=
 propext ⟨fun⟨_,H1,⟨h1,h2,u,h3,h4,rfl⟩,h5⟩=>⟨h1,h2,u,H1,h3,h4,h5⟩,fun⟨h1,h2,u,H1,h3,h4,h5⟩=>⟨_,H1,⟨h1,h2,u,h3,h4,rfl⟩,h5⟩⟩
@[go_sem] theorem bCK(x y z:Operand):cC P all (.free::pp) (⟨dst,.pick x y z,ty,pos,after,none⟩::os) k α H hist past kont=
  ((eC true (ev α x) (ev α y) (ev α z)).s∧cC P all pp os (k+1) (bU dst (eC true (ev α x) (ev α y) (ev α z)).v α) H hist past kont):=
 propext ⟨fun⟨_,⟨h1,e⟩,x⟩=>⟨h1,e▸x⟩,fun⟨h1,x⟩=>⟨_,⟨h1,rfl⟩,x⟩⟩
@[go_sem] theorem aZl(x y z:Operand)(j:Nat)(w0:Bool):cC P all (.free::pp) (⟨dst,.pick x y z,ty,pos,after,some (j,w0)⟩::os) k α H hist past kont=
  (mI (aG α (bV all j))∧((aY (aG α (bV all j)) w0)=true→(eC (aY (aG α (bV all j)) w0) (ev α x) (ev α y) (ev α z)).s)∧
    cC P all pp os (k+1) (bU dst (.opt (aY (aG α (bV all j)) w0) (eC (aY (aG α (bV all j)) w0) (ev α x) (ev α y) (ev α z)).v) α) H hist past kont):=
 propext ⟨fun⟨_,⟨h1,h2,e⟩,x⟩=>⟨h1,h2,e▸x⟩,fun⟨h1,h2,x⟩=>⟨_,⟨h1,h2,rfl⟩,x⟩⟩
def bD9(g:Bool)(v:AV):AV:=.opt g v
attribute [go_sem] bD9
section
variable (op:Op) (h:fN op=true) (j:Nat) (w0:Bool) (v:AV)
include h
theorem uW:pureAt P all H ⟨dst,op,ty,pos,after,none⟩ α v=((aP P op (ev α) H).s∧(aP P op (ev α) H).H=H∧v=(aP P op (ev α) H).v):=by
 cases op<;>first|rfl|(cases h;done)|skip
 rename_i c;obtain⟨ce,xs,ts⟩:=c;cases ce<;>first|rfl|cases h
theorem sY:pureAt P all H ⟨dst,op,ty,pos,after,some (j,w0)⟩ α v=(mI (aG α (bV all j))∧cV (aY (aG α (bV all j)) w0) α (lM op)∧((aY (aG α (bV all j)) w0)=true→(aP P op (dU α) H).s∧(aP P op (dU α) H).H=H)∧v=.opt (aY (aG α (bV all j)) w0) (aP P op (dU α) H).v):=by
 cases op<;>first|rfl|(cases h;done)|skip
 rename_i c;obtain⟨ce,xs,ts⟩:=c;cases ce<;>first|rfl|cases h
@[go_sem] theorem bEa:cC P all (.free::pp) (⟨dst,op,ty,pos,after,none⟩::os) k α H hist past kont=
  ((aP P op (ev α) H).s∧(aP P op (ev α) H).H=H∧cC P all pp os (k+1) (bU dst (aP P op (ev α) H).v α) H hist past kont):=by
 simp only[cC,uW (h:=h)];exact exF
@[go_sem] theorem bCL:cC P all (.free::pp) (⟨dst,op,ty,pos,after,some (j,w0)⟩::os) k α H hist past kont=
  (mI (aG α (bV all j))∧cV (aY (aG α (bV all j)) w0) α (lM op)∧((aY (aG α (bV all j)) w0)=true→(aP P op (dU α) H).s∧(aP P op (dU α) H).H=H)∧cC P all pp os (k+1) (bU dst (.opt (aY (aG α (bV all j)) w0) (aP P op (dU α) H).v) α) H hist past kont):=by
 simp only[cC,sY (h:=h)];exact exG
@[go_sem] theorem bEb:cC P all (.pure w::pp) (⟨dst,op,ty,pos,after,none⟩::os) k α H hist past kont=
  ((aP P op (ev α) H).s∧(aP P op (ev α) H).H=H∧tM w hist (fun h=>(aP P op (ev α) h).s∧(aP P op (ev α) h).H=h∧(aP P op (ev α) H).v=(aP P op (ev α) h).v)∧
    cC P all pp os (k+1) (bU dst (aP P op (ev α) H).v α) H hist ((k,fun h=>(aP P op (ev α) h).s∧(aP P op (ev α) h).H=h∧(aP P op (ev α) H).v=(aP P op (ev α) h).v)::past) kont):=by
 simp only[cC,uW (h:=h)];exact exP
@[go_sem] theorem bCM:cC P all (.pure w::pp) (⟨dst,op,ty,pos,after,some (j,w0)⟩::os) k α H hist past kont=
  (mI (aG α (bV all j))∧cV (aY (aG α (bV all j)) w0) α (lM op)∧((aY (aG α (bV all j)) w0)=true→(aP P op (dU α) H).s∧(aP P op (dU α) H).H=H)∧
   tM w hist (fun h=>mI (aG α (bV all j))∧cV (aY (aG α (bV all j)) w0) α (lM op)∧((aY (aG α (bV all j)) w0)=true→(aP P op (dU α) h).s∧(aP P op (dU α) h).H=h)∧AV.opt (aY (aG α (bV all j)) w0) (aP P op (dU α) H).v=.opt (aY (aG α (bV all j)) w0) (aP P op (dU α) h).v)∧
   cC P all pp os (k+1) (bU dst (.opt (aY (aG α (bV all j)) w0) (aP P op (dU α) H).v) α) H hist ((k,fun h=>mI (aG α (bV all j))∧cV (aY (aG α (bV all j)) w0) α (lM op)∧((aY (aG α (bV all j)) w0)=true→(aP P op (dU α) h).s∧(aP P op (dU α) h).H=h)∧AV.opt (aY (aG α (bV all j)) w0) (aP P op (dU α) H).v=.opt (aY (aG α (bV all j)) w0) (aP P op (dU α) h).v)::past) kont):=by
 simp only[cC,sY (h:=h)];exact exQ
theorem aFJ(H1:AHeap):aFE P all ⟨dst,op,ty,pos,after,none⟩ α H v H1=((aP P op (ev α) H).s∧v=(aP P op (ev α) H).v∧H1=(aP P op (ev α) H).H):=by
 cases op<;>first|rfl|(cases h;done)|skip
 rename_i c;obtain⟨ce,xs,ts⟩:=c;cases ce<;>first|rfl|cases h
theorem aDZ(H1:AHeap):aFE P all ⟨dst,op,ty,pos,after,some (j,w0)⟩ α H v H1=((mI (aG α (bV all j))∧cV (aY (aG α (bV all j)) w0) α (lM op)∧((aY (aG α (bV all j)) w0)=true→(aP P op (dU α) H).s))∧v=.opt (aY (aG α (bV all j)) w0) (aP P op (dU α) H).v∧H1=(bif (aY (aG α (bV all j)) w0)then(aP P op (dU α) H).H else H)):=by
 cases op<;>first|rfl|(cases h;done)|skip
 rename_i c;obtain⟨ce,xs,ts⟩:=c;cases ce<;>first|rfl|cases h
@[go_sem] theorem bEc:cC P all (.eff fs::pp) (⟨dst,op,ty,pos,after,none⟩::os) k α H hist past kont=
  ((aP P op (ev α) H).s∧tL fs past (aP P op (ev α) H).H∧cC P all pp os (k+1) (bU dst (aP P op (ev α) H).v α) (aP P op (ev α) H).H (H::hist) (iB fs past) kont):=by
 simp only[cC,aFJ (h:=h)];exact exE (X:=fun v H1=>cC P all pp os (k+1) (bU dst v α) H1 (H::hist) (iB fs past) kont)
@[go_sem] theorem bCN:cC P all (.eff fs::pp) (⟨dst,op,ty,pos,after,some (j,w0)⟩::os) k α H hist past kont=
  ((mI (aG α (bV all j))∧cV (aY (aG α (bV all j)) w0) α (lM op)∧((aY (aG α (bV all j)) w0)=true→(aP P op (dU α) H).s))∧tL fs past (bif (aY (aG α (bV all j)) w0)then(aP P op (dU α) H).H else H)∧
    cC P all pp os (k+1) (bU dst (.opt (aY (aG α (bV all j)) w0) (aP P op (dU α) H).v) α) (bif (aY (aG α (bV all j)) w0)then(aP P op (dU α) H).H else H) (H::hist) (iB fs past) kont):=by
 simp only[cC,aDZ (h:=h)];exact exE (X:=fun v H1=>cC P all pp os (k+1) (bU dst v α) H1 (H::hist) (iB fs past) kont)
end
end
@[go_sem] theorem aSJ(all os:List Oper)(pp:List Pl)(k:Nat)(fs:List Bool)(dst:Option Tmp)(g:Bool)(α:AF)(H:AHeap)(hist:List AHeap)(past:gW)(kont:AF→AHeap→Prop)(v:AV)(H1:AHeap):
  aFH P all pp os k fs dst g α H hist past kont v H1=(tL fs past H1∧cC P all pp os (k+1) (bU dst (.opt g v) α) H1 (H::hist) (iB fs past) kont):=rfl
@[go_sem] theorem aSK(all os:List Oper)(pp:List Pl)(k:Nat)(fs:List Bool)(dst:Option Tmp)(α:AF)(H:AHeap)(hist:List AHeap)(past:gW)(kont:AF→AHeap→Prop)(v:AV)(H1:AHeap):
  aFI P all pp os k fs dst α H hist past kont v H1=(tL fs past H1∧cC P all pp os (k+1) (bU dst v α) H1 (H::hist) (iB fs past) kont):=rfl
theorem xU{g:Bool}{f:FuncId}{args:List AV}{x:AV}{h:AHeap}(hf:∀h,cN P f args h x)(ok:aA P f=true):gF P g (.func (.func f) [] []) args x h:=
 fun _=>Or.inl ⟨ok,by simp only[List.nil_append,List.append_nil];exact hf h⟩
theorem dN{g:Bool}{f:FuncId}{first args cap:List AV}{H:AHeap}{x:AV}{w:Nat}{hist:List AHeap}{K:AV→Prop}(hf:∀h,cN P f (first++args++cap) h x)(ok:aA P f=true)(hk:K x):xT P g (.func (.func f)first cap) args H w hist K:=by
 have hc:∀h,gF P g (.func (.func f)first cap) args x h:=fun h _=>Or.inl ⟨ok,hf h⟩
 refine⟨x,hc H,?_,hk⟩
 have:∀(w:Nat) (hs:List AHeap),tM w hs (gF P g (.func (.func f)first cap) args x):=by
  intro w
  induction w with
  |zero=>intro hs;trivial
  |succ w ih=>intro hs;cases hs with
   |nil=>trivial
   |cons h hs=>exact⟨hc h,ih hs⟩
 exact this w hist
theorem aX{g:Bool}{f:FuncId}{args:List AV}{H:AHeap}{x:AV}{w:Nat}{hist:List AHeap}{K:AV→Prop}(hf:∀h,cN P f args h x)(ok:aA P f=true)(hk:K x):xT P g (.func (.func f) [] []) args H w hist K:=by
 refine⟨x,xU hf ok,?_,hk⟩
 have:∀(w:Nat) (hs:List AHeap),tM w hs (gF P g (.func (.func f) [] []) args x):=by
  intro w
  induction w with
  |zero=>intro hs;trivial
  |succ w ih=>intro hs;cases hs with
   |nil=>trivial
   |cons h hs=>exact⟨xU hf ok,ih hs⟩
 exact this w hist
end Go.Aw
/- The data of the program, ars plain Lean, and ars abstract values: stamps, operations, nodes, what an operation changed, entries, logs. No condition. -/
namespace Go.Aw
open Go
attribute [go_sem] aC0 aFy aBJ aBK aBS aFG aKZ TypeDesc.isAgg Option.isSome_some Option.isSome_none Bool.false_eq_true Bool.true_eq_false not_true_eq_false not_false_eq_true true_and and_true and_self List.getElem?_toArray List.getElem?_cons_zero List.getElem?_cons_succ List.getElem?_nil List.length_map List.append_eq List.range_zero List.cons_append List.nil_append Nat.one_ne_zero implies_true
attribute [go_sem] Nat.reduceEqDiff Nat.reduceAdd Nat.reduceSub Nat.reduceMul Nat.reduceLeDiff Nat.reduceLT Nat.reduceBEq Int.reduceNeg Int.reduceLE Int.reduceLT Int.reduceToNat String.reduceEq
attribute [go_sem ↓] reduceIte
def Ct(P:Program)(f:FuncId)(args:List AV)(x:AV):Prop:=aA P f=true∧∀H,cN P f args H x
section
variable {P:Program} {f:FuncId} {args:List AV} {x:AV} {H:AHeap}
theorem ct(h:∀H,cN P f args H x)(ok:aA P f=true):Ct P f args x:=⟨ok,h⟩
theorem cK{k:AV→AHeap→Prop}(h:Ct P f args x)(hk:k x H):jF P (.func (.func f) [] []) args H k:=aV (h.2 H) h.1 hk
theorem cP{g:Bool}{k:AV→Prop}(h:Ct P f args x)(hk:k x):jE P g (.func (.func f) [] []) args H k:=aW (h.2 H) h.1 hk
theorem cM{g:Bool}{w:Nat}{hist:List AHeap}{k:AV→Prop}(h:Ct P f args x)(hk:k x):xT P g (.func (.func f) [] []) args H w hist k:=aX (fun H=>h.2 H) h.1 hk
end
def isE:Code→Bool
 |.skip|.ret|.exit _|.label _=>true
 |_=>false
def aFK:Code→Exit
 |.ret=>.ret
 |.exit i=>.exit i
 |_=>.normal
theorem aE{P:Program}{N:Nat}{c:Code}{Q:bL}{α:AF}{H:AHeap}(hc:isE c=true)(h:Q (aFK c) α H):aw P N c Q α H:=by
 cases c<;>first
  |exact aHL h
  |exact aMl h
  |exact aHM h
  |exact aE4 h
  |cases hc
@[go_sem] theorem aSL:aFK .skip=.normal:=rfl
@[go_sem] theorem aZm:aFK .ret=.ret:=rfl
@[go_sem] theorem aSM(i:Nat):aFK (.exit i)=.exit i:=rfl
@[go_sem] theorem aNs(i:Nat):aFK (.label i)=.normal:=rfl
theorem gS{p q:Prop}(k:q)(t:q→p:=by first|exact fun k=>aAF (.bool false) k|exact fun k=>lB rfl k|exact fun k=>uR hC rfl (by kernel_rfl) k|exact fun k=>aE rfl k):p:=t k
theorem gK{p q:Prop}(k:q)(t:q→p:=by first|exact fun k=>cK (by assumption) k|exact fun k=>cP (by assumption) k|exact fun k=>cM (by assumption) k):p:=t k
theorem gC{p q g:Prop}(k:q)(e:(p∧q)=g:=by with_reducible rfl)(t:p:=by first|omega|(intros;simp_all;done)|(simp;omega)):g:=e▸⟨t,k⟩
theorem gA{p q:Prop}(k:q)(t:q→p:=by first|exact fun k=>aIq k|exact fun k=>aIr k|exact fun k=>yY k|exact fun k=>aE5 k|exact fun k=>aFD k|exact fun k=>gC k):p:=t k
theorem gD{P:Program}{N:Nat}{x:Operand}{y z:Code}{b:Bool}{Q:bL}{α:AF}{H:AHeap}(h1:b=true→aw P N y Q α H)(h2:b=false→aw P N z Q α H)(hx:ev α x=.bool b:=by exact rfl):aw P N (.cond x y z) Q α H:=qB hx h1 h2
theorem aB{a b:Bool}{p:Prop}(h:a=b)(t:a=b→False:=by intro h;first|(simp at h;done)|(simp at h;omega)):p:=(t h).elim
theorem mx{P:Program}{N id:Nat}{ops:Array Oper}{Q:bL}{α:AF}{H:AHeap}(ids:List Nat)(plan:List Pl)(h:cC P ops.toList plan ops.toList 0 α H [] [] (fun α' H'=>Q .normal α' H'))(hi:ids.contains id=true:=by rfl)(hm:P.follows .mixedOrders=true:=by exact hC)(hd:oI N ops=true:=by rfl)
  (hB:Region.lexB .any ops=true:=by kernel_rfl) (hp:(lN ops ops.toList plan 0 [] []&&jQ ops (iH plan 0))=true:=by kernel_rfl):aw P N (.region id ops true) Q α H:=wZ plan hm hd hB hp h
end Go.Aw
namespace Go.Gw
open Go Go.Aw
abbrev Txt:=List UInt8
structure Stm where
 c:Int
 r:Int
deriving DecidableEq,Inhabited
structure Opn where
 at_:Stm
 kind:Int
 node:Int
 parent:Int
 name:Txt
 data:Txt
deriving DecidableEq,Inhabited
structure Nd where
 id:Int
 parent:Int
 name:Txt
 moved:Stm
 data:Txt
 wrote:Stm
deriving DecidableEq,Inhabited
structure Und where
 did:Bool
 had:Bool
 was:Nd
deriving DecidableEq,Inhabited
structure Ent where
 op:Opn
 undo:Und
deriving DecidableEq,Inhabited
structure Lg where
 entries:List Ent
 nodes:List Nd
deriving DecidableEq,Inhabited
def st0:Stm:=⟨0,0⟩
def nd0:Nd:=⟨0,0,[],st0,[],st0⟩
def aNt:Und:=⟨false,false,nd0⟩
def op0:Opn:=⟨st0,0,0,0,[],[]⟩
def stA(s:Stm):AV:=.agg [.int .i64 s.c,.int .i64 s.r]
def opA(o:Opn):AV:=.agg [.int .i64 o.at_.c,.int .i64 o.at_.r,.int .i64 o.kind,.int .i64 o.node,.int .i64 o.parent,.str o.name,.str o.data]
def ndA(n:Nd):AV:=.agg [.int .i64 n.id,.int .i64 n.parent,.str n.name,.int .i64 n.moved.c,.int .i64 n.moved.r,.str n.data,.int .i64 n.wrote.c,.int .i64 n.wrote.r]
def unA(u:Und):AV:=.agg [.bool u.did,.bool u.had,.int .i64 u.was.id,.int .i64 u.was.parent,.str u.was.name,.int .i64 u.was.moved.c,.int .i64 u.was.moved.r,.str u.was.data,.int .i64 u.was.wrote.c,.int .i64 u.was.wrote.r]
def fR(e:Ent):AV:=.agg [.int .i64 e.op.at_.c,.int .i64 e.op.at_.r,.int .i64 e.op.kind,.int .i64 e.op.node,.int .i64 e.op.parent,.str e.op.name,.str e.op.data,
 .bool e.undo.did,.bool e.undo.had,.int .i64 e.undo.was.id,.int .i64 e.undo.was.parent,.str e.undo.was.name,.int .i64 e.undo.was.moved.c,.int .i64 e.undo.was.moved.r,.str e.undo.was.data,.int .i64 e.undo.was.wrote.c,.int .i64 e.undo.was.wrote.r]
def xA(n:Int):AV:=.int .i64 n
def lgF(f1 f2:Bool)(g:Lg):AV:=.agg [.sl f1 (g.entries.map fR),.sl f2 (g.nodes.map ndA)]
def lgA(g:Lg):AV:=lgF false false g
@[go_sem] theorem bEd(x:Stm):Pur (stA x)=True:=by simp only[stA,go_sem]
@[go_sem] theorem bEe(x:Opn):Pur (opA x)=True:=by simp only[opA,go_sem]
@[go_sem] theorem bEf(x:Nd):Pur (ndA x)=True:=by simp only[ndA,go_sem]
@[go_sem] theorem bEg(x:Und):Pur (unA x)=True:=by simp only[unA,go_sem]
@[go_sem] theorem bEh(x:Ent):Pur (fR x)=True:=by simp only[fR,go_sem]
@[go_sem] theorem bEi(x:Int):Pur (xA x)=True:=by simp only[xA,go_sem]
@[go_sem] theorem bEj(f1 f2:Bool)(x:Lg):Pur (lgF f1 f2 x)=True:=by simp only[lgF,go_sem]
@[go_sem] theorem bEk(x:Lg):Pur (lgA x)=True:=by simp only[lgA,go_sem]
theorem bF{α:Type}(g:α→AV){l:List α}{i:Nat}(h:i<l.length):(l.map g).getD i .top=g l[i]:=by
 rw[List.getD_eq_getElem?_getD,List.getElem?_map,List.getElem?_eq_getElem h];rfl
theorem aNv(a b:Stm):(decide (a.c=b.c)&&decide (a.r=b.r))=decide (a=b):=by
 cases a;cases b;rw[Bool.eq_iff_iff];simp
end Go.Gw
/- Written by a program of mine out of the translation: what the types and functions of this program are to the abstract machine. No condition. -/
namespace Go.Proofs.YthhdnjiodklmmaaGreatDoor
open Go Go.Aw
@[go_sem] theorem hC:Tryz.prog.follows .mixedOrders=true:=by kernel_rfl
attribute [go_sem] Tryz.underlying0
@[go_sem] theorem bCO:Tryz.prog.cellsOf 0=1:=by kernel_rfl
@[go_sem] theorem bCP:Tryz.prog.bytesOf 0=0:=by kernel_rfl
@[go_sem] theorem aZn:aL Tryz.prog 0=true:=by kernel_rfl
@[go_sem] theorem aNw:aC Tryz.prog 0=true:=by kernel_rfl
attribute [go_sem] Tryz.underlying2
@[go_sem] theorem bCQ:Tryz.prog.cellsOf 2=1:=by kernel_rfl
@[go_sem] theorem bCR:Tryz.prog.bytesOf 2=8:=by kernel_rfl
@[go_sem] theorem aZo:aS Tryz.prog 2=true:=by kernel_rfl
@[go_sem] theorem bCS:aU Tryz.prog 2=.int .i64 0:=by kernel_rfl
@[go_sem] theorem aNx:aC Tryz.prog 2=true:=by kernel_rfl
attribute [go_sem] Tryz.underlying3
@[go_sem] theorem bCT:Tryz.prog.cellsOf 3=1:=by kernel_rfl
@[go_sem] theorem bCU:Tryz.prog.bytesOf 3=8:=by kernel_rfl
@[go_sem] theorem aZp:aS Tryz.prog 3=true:=by kernel_rfl
@[go_sem] theorem bCV:aU Tryz.prog 3=.int .i64 0:=by kernel_rfl
@[go_sem] theorem aNy:aC Tryz.prog 3=true:=by kernel_rfl
attribute [go_sem] Tryz.underlying4
@[go_sem] theorem bCW:Tryz.prog.cellsOf 4=1:=by kernel_rfl
@[go_sem] theorem bCX:Tryz.prog.bytesOf 4=1:=by kernel_rfl
@[go_sem] theorem aZq:aS Tryz.prog 4=true:=by kernel_rfl
@[go_sem] theorem bCY:aU Tryz.prog 4=.bool false:=by kernel_rfl
@[go_sem] theorem aZr:aL Tryz.prog 4=true:=by kernel_rfl
@[go_sem] theorem aNz:aC Tryz.prog 4=true:=by kernel_rfl
attribute [go_sem] Tryz.underlying5
@[go_sem] theorem bCZ:Tryz.prog.cellsOf 5=1:=by kernel_rfl
@[go_sem] theorem bC0:Tryz.prog.bytesOf 5=1:=by kernel_rfl
@[go_sem] theorem aZs:aS Tryz.prog 5=true:=by kernel_rfl
@[go_sem] theorem bC1:aU Tryz.prog 5=.int .u8 0:=by kernel_rfl
@[go_sem] theorem aNA:aC Tryz.prog 5=true:=by kernel_rfl
attribute [go_sem] Tryz.underlying6
@[go_sem] theorem bC2:Tryz.prog.cellsOf 6=1:=by kernel_rfl
@[go_sem] theorem bC3:Tryz.prog.bytesOf 6=1:=by kernel_rfl
@[go_sem] theorem aZt:aS Tryz.prog 6=true:=by kernel_rfl
@[go_sem] theorem bC4:aU Tryz.prog 6=.int .u8 0:=by kernel_rfl
@[go_sem] theorem aNB:aC Tryz.prog 6=true:=by kernel_rfl
attribute [go_sem] Tryz.underlying7
@[go_sem] theorem bC5:Tryz.prog.cellsOf 7=4:=by kernel_rfl
@[go_sem] theorem bC6:Tryz.prog.bytesOf 7=24:=by kernel_rfl
@[go_sem] theorem aZu:aS Tryz.prog 7=true:=by kernel_rfl
@[go_sem] theorem bC7:aU Tryz.prog 7=.agg [.int .i64 0,.int .i64 0,.bool false,.int .u8 0]:=by kernel_rfl
@[go_sem] theorem aZv:aL Tryz.prog 7=true:=by kernel_rfl
@[go_sem] theorem aNC:aC Tryz.prog 7=true:=by kernel_rfl
@[go_sem] theorem aHC:bB Tryz.prog 7=true:=by kernel_rfl
@[go_sem] theorem bC8:Tryz.prog.stoodInHeld 7=false:=by kernel_rfl
@[go_sem] theorem aSO:Tryz.prog.eqGuardType Tryz.prog.depth 7=false:=by kernel_rfl
attribute [go_sem] Tryz.underlying9
@[go_sem] theorem bC9:Tryz.prog.cellsOf 9=1:=by kernel_rfl
@[go_sem] theorem bDa:Tryz.prog.bytesOf 9=16:=by kernel_rfl
@[go_sem] theorem aZw:aS Tryz.prog 9=true:=by kernel_rfl
@[go_sem] theorem bDb:aU Tryz.prog 9=.str []:=by kernel_rfl
@[go_sem] theorem aZx:aL Tryz.prog 9=true:=by kernel_rfl
@[go_sem] theorem aND:aC Tryz.prog 9=true:=by kernel_rfl
attribute [go_sem] Tryz.underlying12
@[go_sem] theorem aZy:Tryz.prog.cellsOf 12=1:=by kernel_rfl
@[go_sem] theorem aZz:Tryz.prog.bytesOf 12=8:=by kernel_rfl
@[go_sem] theorem aSP:aS Tryz.prog 12=true:=by kernel_rfl
@[go_sem] theorem aZA:aU Tryz.prog 12=.int .u64 0:=by kernel_rfl
@[go_sem] theorem aLg:aC Tryz.prog 12=true:=by kernel_rfl
attribute [go_sem] Tryz.underlying13
@[go_sem] theorem aZB:Tryz.prog.cellsOf 13=2:=by kernel_rfl
@[go_sem] theorem aZC:Tryz.prog.bytesOf 13=24:=by kernel_rfl
@[go_sem] theorem aSQ:aS Tryz.prog 13=true:=by kernel_rfl
@[go_sem] theorem aZD:aU Tryz.prog 13=.agg [.str [],.int .u64 0]:=by kernel_rfl
@[go_sem] theorem aSR:aL Tryz.prog 13=true:=by kernel_rfl
@[go_sem] theorem aLh:aC Tryz.prog 13=true:=by kernel_rfl
@[go_sem] theorem aFL:bB Tryz.prog 13=true:=by kernel_rfl
@[go_sem] theorem aNE:Tryz.prog.eqGuardType Tryz.prog.depth 13=false:=by kernel_rfl
attribute [go_sem] Tryz.underlying21
@[go_sem] theorem aZE:Tryz.prog.cellsOf 21=1:=by kernel_rfl
@[go_sem] theorem aZF:Tryz.prog.bytesOf 21=4:=by kernel_rfl
@[go_sem] theorem aSS:aS Tryz.prog 21=true:=by kernel_rfl
@[go_sem] theorem aZG:aU Tryz.prog 21=.int .i32 0:=by kernel_rfl
@[go_sem] theorem aLi:aC Tryz.prog 21=true:=by kernel_rfl
attribute [go_sem] Tryz.underlying22
@[go_sem] theorem aZH:Tryz.prog.cellsOf 22=1:=by kernel_rfl
@[go_sem] theorem aZI:Tryz.prog.bytesOf 22=24:=by kernel_rfl
@[go_sem] theorem aST:aS Tryz.prog 22=true:=by kernel_rfl
@[go_sem] theorem aZJ:aU Tryz.prog 22=.sl true []:=by kernel_rfl
@[go_sem] theorem aSU:aL Tryz.prog 22=true:=by kernel_rfl
@[go_sem] theorem bDc:lA Tryz.prog 22=true:=by kernel_rfl
@[go_sem] theorem aLj:aC Tryz.prog 22=true:=by kernel_rfl
attribute [go_sem] Tryz.underlying23
@[go_sem] theorem aZK:Tryz.prog.cellsOf 23=1:=by kernel_rfl
@[go_sem] theorem aZL:Tryz.prog.bytesOf 23=8:=by kernel_rfl
@[go_sem] theorem aSV:aS Tryz.prog 23=true:=by kernel_rfl
@[go_sem] theorem aZM:aU Tryz.prog 23=.nilfunc:=by kernel_rfl
@[go_sem] theorem aSW:aL Tryz.prog 23=true:=by kernel_rfl
@[go_sem] theorem aLk:aC Tryz.prog 23=true:=by kernel_rfl
attribute [go_sem] Tryz.underlying24
@[go_sem] theorem aZN:Tryz.prog.cellsOf 24=1:=by kernel_rfl
@[go_sem] theorem aZO:Tryz.prog.bytesOf 24=24:=by kernel_rfl
@[go_sem] theorem aSX:aS Tryz.prog 24=true:=by kernel_rfl
@[go_sem] theorem aZP:aU Tryz.prog 24=.sl true []:=by kernel_rfl
@[go_sem] theorem aSY:aL Tryz.prog 24=true:=by kernel_rfl
@[go_sem] theorem bDd:lA Tryz.prog 24=true:=by kernel_rfl
@[go_sem] theorem aLl:aC Tryz.prog 24=true:=by kernel_rfl
attribute [go_sem] Tryz.underlying25
@[go_sem] theorem aZQ:Tryz.prog.cellsOf 25=1:=by kernel_rfl
@[go_sem] theorem aZR:Tryz.prog.bytesOf 25=24:=by kernel_rfl
@[go_sem] theorem aSZ:aS Tryz.prog 25=true:=by kernel_rfl
@[go_sem] theorem aZS:aU Tryz.prog 25=.sl true []:=by kernel_rfl
@[go_sem] theorem aS0:aL Tryz.prog 25=true:=by kernel_rfl
@[go_sem] theorem bDe:lA Tryz.prog 25=true:=by kernel_rfl
@[go_sem] theorem aLm:aC Tryz.prog 25=true:=by kernel_rfl
attribute [go_sem] Tryz.underlying27
@[go_sem] theorem aZT:Tryz.prog.cellsOf 27=2:=by kernel_rfl
@[go_sem] theorem aZU:Tryz.prog.bytesOf 27=48:=by kernel_rfl
@[go_sem] theorem aS1:aS Tryz.prog 27=true:=by kernel_rfl
@[go_sem] theorem aZV:aU Tryz.prog 27=.agg [.sl true [],.sl true []]:=by kernel_rfl
@[go_sem] theorem aS2:aL Tryz.prog 27=true:=by kernel_rfl
@[go_sem] theorem aLn:aC Tryz.prog 27=true:=by kernel_rfl
@[go_sem] theorem aFM:bB Tryz.prog 27=true:=by kernel_rfl
@[go_sem] theorem aZW:Tryz.prog.stoodInHeld 27=false:=by kernel_rfl
@[go_sem] theorem aNF:Tryz.prog.eqGuardType Tryz.prog.depth 27=false:=by kernel_rfl
attribute [go_sem] Tryz.underlying28
@[go_sem] theorem aZX:Tryz.prog.cellsOf 28=1:=by kernel_rfl
@[go_sem] theorem aZY:Tryz.prog.bytesOf 28=24:=by kernel_rfl
@[go_sem] theorem aS3:aS Tryz.prog 28=true:=by kernel_rfl
@[go_sem] theorem aZZ:aU Tryz.prog 28=.sl true []:=by kernel_rfl
@[go_sem] theorem aS4:aL Tryz.prog 28=true:=by kernel_rfl
@[go_sem] theorem bDf:lA Tryz.prog 28=true:=by kernel_rfl
@[go_sem] theorem aLo:aC Tryz.prog 28=true:=by kernel_rfl
attribute [go_sem] Tryz.underlying29
@[go_sem] theorem aZ0:Tryz.prog.cellsOf 29=1:=by kernel_rfl
@[go_sem] theorem aZ1:Tryz.prog.bytesOf 29=24:=by kernel_rfl
@[go_sem] theorem aS5:aS Tryz.prog 29=true:=by kernel_rfl
@[go_sem] theorem aZ2:aU Tryz.prog 29=.sl true []:=by kernel_rfl
@[go_sem] theorem aS6:aL Tryz.prog 29=true:=by kernel_rfl
@[go_sem] theorem bDg:lA Tryz.prog 29=true:=by kernel_rfl
@[go_sem] theorem aLp:aC Tryz.prog 29=true:=by kernel_rfl
attribute [go_sem] Tryz.underlying31
@[go_sem] theorem aZ3:Tryz.prog.cellsOf 31=7:=by kernel_rfl
@[go_sem] theorem aZ4:Tryz.prog.bytesOf 31=120:=by kernel_rfl
@[go_sem] theorem aS7:aS Tryz.prog 31=true:=by kernel_rfl
@[go_sem] theorem aZ5:aU Tryz.prog 31=.agg [.sl true [],.sl true [],.int .i64 0,.int .i64 0,.sl true [],.sl true [],.int .i64 0]:=by kernel_rfl
@[go_sem] theorem aS8:aL Tryz.prog 31=true:=by kernel_rfl
@[go_sem] theorem aLq:aC Tryz.prog 31=true:=by kernel_rfl
@[go_sem] theorem aFN:bB Tryz.prog 31=true:=by kernel_rfl
@[go_sem] theorem aZ6:Tryz.prog.stoodInHeld 31=false:=by kernel_rfl
@[go_sem] theorem aNG:Tryz.prog.eqGuardType Tryz.prog.depth 31=false:=by kernel_rfl
attribute [go_sem] Tryz.underlying32
@[go_sem] theorem aZ7:Tryz.prog.cellsOf 32=1:=by kernel_rfl
@[go_sem] theorem aZ8:Tryz.prog.bytesOf 32=8:=by kernel_rfl
@[go_sem] theorem aS9:aS Tryz.prog 32=true:=by kernel_rfl
@[go_sem] theorem aZ9:aU Tryz.prog 32=.int .i64 0:=by kernel_rfl
@[go_sem] theorem aLr:aC Tryz.prog 32=true:=by kernel_rfl
attribute [go_sem] Tryz.underlying33
@[go_sem] theorem bAa:Tryz.prog.cellsOf 33=1:=by kernel_rfl
@[go_sem] theorem bAb:Tryz.prog.bytesOf 33=0:=by kernel_rfl
@[go_sem] theorem aTa:aL Tryz.prog 33=true:=by kernel_rfl
@[go_sem] theorem aLs:aC Tryz.prog 33=true:=by kernel_rfl
attribute [go_sem] Tryz.underlying36
@[go_sem] theorem bAc:Tryz.prog.cellsOf 36=1:=by kernel_rfl
@[go_sem] theorem bAd:Tryz.prog.bytesOf 36=24:=by kernel_rfl
@[go_sem] theorem aTb:aS Tryz.prog 36=true:=by kernel_rfl
@[go_sem] theorem bAe:aU Tryz.prog 36=.sl true []:=by kernel_rfl
@[go_sem] theorem aTc:aL Tryz.prog 36=true:=by kernel_rfl
@[go_sem] theorem bDh:lA Tryz.prog 36=true:=by kernel_rfl
@[go_sem] theorem aLt:aC Tryz.prog 36=true:=by kernel_rfl
attribute [go_sem] Tryz.underlying37
@[go_sem] theorem bAf:Tryz.prog.cellsOf 37=1:=by kernel_rfl
@[go_sem] theorem bAg:Tryz.prog.bytesOf 37=24:=by kernel_rfl
@[go_sem] theorem aTd:aS Tryz.prog 37=true:=by kernel_rfl
@[go_sem] theorem bAh:aU Tryz.prog 37=.sl true []:=by kernel_rfl
@[go_sem] theorem aTe:aL Tryz.prog 37=true:=by kernel_rfl
@[go_sem] theorem bDi:lA Tryz.prog 37=true:=by kernel_rfl
@[go_sem] theorem aLu:aC Tryz.prog 37=true:=by kernel_rfl
attribute [go_sem] Tryz.underlying39
@[go_sem] theorem bAi:Tryz.prog.cellsOf 39=5:=by kernel_rfl
@[go_sem] theorem bAj:Tryz.prog.bytesOf 39=80:=by kernel_rfl
@[go_sem] theorem aTf:aS Tryz.prog 39=true:=by kernel_rfl
@[go_sem] theorem bAk:aU Tryz.prog 39=.agg [.int .i64 0,.str [],.sl true [],.int .i64 0,.sl true []]:=by kernel_rfl
@[go_sem] theorem aTg:aL Tryz.prog 39=true:=by kernel_rfl
@[go_sem] theorem aLv:aC Tryz.prog 39=true:=by kernel_rfl
@[go_sem] theorem aFO:bB Tryz.prog 39=true:=by kernel_rfl
@[go_sem] theorem bAl:Tryz.prog.stoodInHeld 39=false:=by kernel_rfl
@[go_sem] theorem aNH:Tryz.prog.eqGuardType Tryz.prog.depth 39=false:=by kernel_rfl
attribute [go_sem] Tryz.underlying40
@[go_sem] theorem bAm:Tryz.prog.cellsOf 40=1:=by kernel_rfl
@[go_sem] theorem bAn:Tryz.prog.bytesOf 40=24:=by kernel_rfl
@[go_sem] theorem aTh:aS Tryz.prog 40=true:=by kernel_rfl
@[go_sem] theorem bAo:aU Tryz.prog 40=.sl true []:=by kernel_rfl
@[go_sem] theorem aTi:aL Tryz.prog 40=true:=by kernel_rfl
@[go_sem] theorem bDj:lA Tryz.prog 40=true:=by kernel_rfl
@[go_sem] theorem aLw:aC Tryz.prog 40=true:=by kernel_rfl
attribute [go_sem] Tryz.underlying41
@[go_sem] theorem bAp:Tryz.prog.cellsOf 41=1:=by kernel_rfl
@[go_sem] theorem bAq:Tryz.prog.bytesOf 41=0:=by kernel_rfl
@[go_sem] theorem aTj:aL Tryz.prog 41=true:=by kernel_rfl
@[go_sem] theorem aLx:aC Tryz.prog 41=true:=by kernel_rfl
attribute [go_sem] Tryz.underlying44
@[go_sem] theorem bAr:Tryz.prog.cellsOf 44=5:=by kernel_rfl
@[go_sem] theorem bAs:Tryz.prog.bytesOf 44=64:=by kernel_rfl
@[go_sem] theorem aTk:aS Tryz.prog 44=true:=by kernel_rfl
@[go_sem] theorem bAt:aU Tryz.prog 44=.agg [.int .i64 0,.str [],.str [],.str [],.int .i64 0]:=by kernel_rfl
@[go_sem] theorem aTl:aL Tryz.prog 44=true:=by kernel_rfl
@[go_sem] theorem aLy:aC Tryz.prog 44=true:=by kernel_rfl
@[go_sem] theorem aFP:bB Tryz.prog 44=true:=by kernel_rfl
@[go_sem] theorem bAu:Tryz.prog.stoodInHeld 44=false:=by kernel_rfl
@[go_sem] theorem aNI:Tryz.prog.eqGuardType Tryz.prog.depth 44=false:=by kernel_rfl
attribute [go_sem] Tryz.underlying47
@[go_sem] theorem bAv:Tryz.prog.cellsOf 47=1:=by kernel_rfl
@[go_sem] theorem bAw:Tryz.prog.bytesOf 47=24:=by kernel_rfl
@[go_sem] theorem aTm:aS Tryz.prog 47=true:=by kernel_rfl
@[go_sem] theorem bAx:aU Tryz.prog 47=.sl true []:=by kernel_rfl
@[go_sem] theorem aTn:aL Tryz.prog 47=true:=by kernel_rfl
@[go_sem] theorem bDk:lA Tryz.prog 47=true:=by kernel_rfl
@[go_sem] theorem aLz:aC Tryz.prog 47=true:=by kernel_rfl
attribute [go_sem] Tryz.underlying48
@[go_sem] theorem bAy:Tryz.prog.cellsOf 48=1:=by kernel_rfl
@[go_sem] theorem bAz:Tryz.prog.bytesOf 48=0:=by kernel_rfl
@[go_sem] theorem aTo:aL Tryz.prog 48=true:=by kernel_rfl
@[go_sem] theorem aLA:aC Tryz.prog 48=true:=by kernel_rfl
attribute [go_sem] Tryz.underlying49
@[go_sem] theorem bAA:Tryz.prog.cellsOf 49=1:=by kernel_rfl
@[go_sem] theorem bAB:Tryz.prog.bytesOf 49=8:=by kernel_rfl
@[go_sem] theorem aTp:aS Tryz.prog 49=true:=by kernel_rfl
@[go_sem] theorem bAC:aU Tryz.prog 49=.nilfunc:=by kernel_rfl
@[go_sem] theorem aTq:aL Tryz.prog 49=true:=by kernel_rfl
@[go_sem] theorem aLB:aC Tryz.prog 49=true:=by kernel_rfl
attribute [go_sem] Tryz.underlying50
@[go_sem] theorem bAD:Tryz.prog.cellsOf 50=1:=by kernel_rfl
@[go_sem] theorem bAE:Tryz.prog.bytesOf 50=8:=by kernel_rfl
@[go_sem] theorem aTr:aS Tryz.prog 50=true:=by kernel_rfl
@[go_sem] theorem bAF:aU Tryz.prog 50=.nilfunc:=by kernel_rfl
@[go_sem] theorem aTs:aL Tryz.prog 50=true:=by kernel_rfl
@[go_sem] theorem aLC:aC Tryz.prog 50=true:=by kernel_rfl
attribute [go_sem] Tryz.underlying53
@[go_sem] theorem bAG:Tryz.prog.cellsOf 53=2:=by kernel_rfl
@[go_sem] theorem bAH:Tryz.prog.bytesOf 53=32:=by kernel_rfl
@[go_sem] theorem aTt:aS Tryz.prog 53=true:=by kernel_rfl
@[go_sem] theorem bAI:aU Tryz.prog 53=.agg [.sl true [],.bool false]:=by kernel_rfl
@[go_sem] theorem aTu:aL Tryz.prog 53=true:=by kernel_rfl
@[go_sem] theorem aLD:aC Tryz.prog 53=true:=by kernel_rfl
@[go_sem] theorem aFQ:bB Tryz.prog 53=true:=by kernel_rfl
@[go_sem] theorem bAJ:Tryz.prog.stoodInHeld 53=false:=by kernel_rfl
@[go_sem] theorem aNJ:Tryz.prog.eqGuardType Tryz.prog.depth 53=false:=by kernel_rfl
attribute [go_sem] Tryz.underlying55
@[go_sem] theorem bAK:Tryz.prog.cellsOf 55=4:=by kernel_rfl
@[go_sem] theorem bAL:Tryz.prog.bytesOf 55=48:=by kernel_rfl
@[go_sem] theorem aTv:aS Tryz.prog 55=true:=by kernel_rfl
@[go_sem] theorem bAM:aU Tryz.prog 55=.agg [.int .i64 0,.int .i64 0,.sl true [],.bool false]:=by kernel_rfl
@[go_sem] theorem aTw:aL Tryz.prog 55=true:=by kernel_rfl
@[go_sem] theorem aLE:aC Tryz.prog 55=true:=by kernel_rfl
@[go_sem] theorem aFR:bB Tryz.prog 55=true:=by kernel_rfl
@[go_sem] theorem bAN:Tryz.prog.stoodInHeld 55=false:=by kernel_rfl
@[go_sem] theorem aNK:Tryz.prog.eqGuardType Tryz.prog.depth 55=false:=by kernel_rfl
attribute [go_sem] Tryz.underlying62
@[go_sem] theorem bAO:Tryz.prog.cellsOf 62=2:=by kernel_rfl
@[go_sem] theorem bAP:Tryz.prog.bytesOf 62=16:=by kernel_rfl
@[go_sem] theorem aTx:aS Tryz.prog 62=true:=by kernel_rfl
@[go_sem] theorem bAQ:aU Tryz.prog 62=.agg [.int .i64 0,.int .i64 0]:=by kernel_rfl
@[go_sem] theorem aTy:aL Tryz.prog 62=true:=by kernel_rfl
@[go_sem] theorem aLF:aC Tryz.prog 62=true:=by kernel_rfl
@[go_sem] theorem aFS:bB Tryz.prog 62=true:=by kernel_rfl
@[go_sem] theorem bAR:Tryz.prog.stoodInHeld 62=false:=by kernel_rfl
@[go_sem] theorem aNL:Tryz.prog.eqGuardType Tryz.prog.depth 62=false:=by kernel_rfl
attribute [go_sem] Tryz.underlying64
@[go_sem] theorem bAS:Tryz.prog.cellsOf 64=8:=by kernel_rfl
@[go_sem] theorem bAT:Tryz.prog.bytesOf 64=80:=by kernel_rfl
@[go_sem] theorem aTz:aS Tryz.prog 64=true:=by kernel_rfl
@[go_sem] theorem bAU:aU Tryz.prog 64=.agg [.int .i64 0,.int .i64 0,.str [],.int .i64 0,.int .i64 0,.str [],.int .i64 0,.int .i64 0]:=by kernel_rfl
@[go_sem] theorem aTA:aL Tryz.prog 64=true:=by kernel_rfl
@[go_sem] theorem aLG:aC Tryz.prog 64=true:=by kernel_rfl
@[go_sem] theorem aFT:bB Tryz.prog 64=true:=by kernel_rfl
@[go_sem] theorem bAV:Tryz.prog.stoodInHeld 64=false:=by kernel_rfl
@[go_sem] theorem aNM:Tryz.prog.eqGuardType Tryz.prog.depth 64=false:=by kernel_rfl
attribute [go_sem] Tryz.underlying66
@[go_sem] theorem bAW:Tryz.prog.cellsOf 66=7:=by kernel_rfl
@[go_sem] theorem bAX:Tryz.prog.bytesOf 66=72:=by kernel_rfl
@[go_sem] theorem aTB:aS Tryz.prog 66=true:=by kernel_rfl
@[go_sem] theorem bAY:aU Tryz.prog 66=.agg [.int .i64 0,.int .i64 0,.int .i64 0,.int .i64 0,.int .i64 0,.str [],.str []]:=by kernel_rfl
@[go_sem] theorem aTC:aL Tryz.prog 66=true:=by kernel_rfl
@[go_sem] theorem aLH:aC Tryz.prog 66=true:=by kernel_rfl
@[go_sem] theorem aFU:bB Tryz.prog 66=true:=by kernel_rfl
@[go_sem] theorem bAZ:Tryz.prog.stoodInHeld 66=false:=by kernel_rfl
@[go_sem] theorem aNN:Tryz.prog.eqGuardType Tryz.prog.depth 66=false:=by kernel_rfl
attribute [go_sem] Tryz.underlying67
@[go_sem] theorem bA0:Tryz.prog.cellsOf 67=1:=by kernel_rfl
@[go_sem] theorem bA1:Tryz.prog.bytesOf 67=0:=by kernel_rfl
@[go_sem] theorem aTD:aL Tryz.prog 67=true:=by kernel_rfl
@[go_sem] theorem aLI:aC Tryz.prog 67=true:=by kernel_rfl
attribute [go_sem] Tryz.underlying77
@[go_sem] theorem bA2:Tryz.prog.cellsOf 77=1:=by kernel_rfl
@[go_sem] theorem bA3:Tryz.prog.bytesOf 77=24:=by kernel_rfl
@[go_sem] theorem aTE:aS Tryz.prog 77=true:=by kernel_rfl
@[go_sem] theorem bA4:aU Tryz.prog 77=.sl true []:=by kernel_rfl
@[go_sem] theorem aTF:aL Tryz.prog 77=true:=by kernel_rfl
@[go_sem] theorem bDl:lA Tryz.prog 77=true:=by kernel_rfl
@[go_sem] theorem aLJ:aC Tryz.prog 77=true:=by kernel_rfl
attribute [go_sem] Tryz.underlying80
@[go_sem] theorem bA5:Tryz.prog.cellsOf 80=3:=by kernel_rfl
@[go_sem] theorem bA6:Tryz.prog.bytesOf 80=40:=by kernel_rfl
@[go_sem] theorem aTG:aS Tryz.prog 80=true:=by kernel_rfl
@[go_sem] theorem bA7:aU Tryz.prog 80=.agg [.str [],.int .i64 0,.str []]:=by kernel_rfl
@[go_sem] theorem aTH:aL Tryz.prog 80=true:=by kernel_rfl
@[go_sem] theorem aLK:aC Tryz.prog 80=true:=by kernel_rfl
@[go_sem] theorem aFV:bB Tryz.prog 80=true:=by kernel_rfl
@[go_sem] theorem bA8:Tryz.prog.stoodInHeld 80=false:=by kernel_rfl
@[go_sem] theorem aNO:Tryz.prog.eqGuardType Tryz.prog.depth 80=false:=by kernel_rfl
attribute [go_sem] Tryz.underlying83
@[go_sem] theorem bA9:Tryz.prog.cellsOf 83=2:=by kernel_rfl
@[go_sem] theorem bBa:Tryz.prog.bytesOf 83=24:=by kernel_rfl
@[go_sem] theorem aTI:aS Tryz.prog 83=true:=by kernel_rfl
@[go_sem] theorem bBb:aU Tryz.prog 83=.agg [.int .i64 0,.str []]:=by kernel_rfl
@[go_sem] theorem aTJ:aL Tryz.prog 83=true:=by kernel_rfl
@[go_sem] theorem aLL:aC Tryz.prog 83=true:=by kernel_rfl
@[go_sem] theorem aFW:bB Tryz.prog 83=true:=by kernel_rfl
@[go_sem] theorem bBc:Tryz.prog.stoodInHeld 83=false:=by kernel_rfl
@[go_sem] theorem aNP:Tryz.prog.eqGuardType Tryz.prog.depth 83=false:=by kernel_rfl
attribute [go_sem] Tryz.underlying85
@[go_sem] theorem bBd:Tryz.prog.cellsOf 85=1:=by kernel_rfl
@[go_sem] theorem bBe:Tryz.prog.bytesOf 85=8:=by kernel_rfl
@[go_sem] theorem aTK:aS Tryz.prog 85=true:=by kernel_rfl
@[go_sem] theorem bBf:aU Tryz.prog 85=.nilptr:=by kernel_rfl
@[go_sem] theorem aTL:aL Tryz.prog 85=true:=by kernel_rfl
@[go_sem] theorem aLM:aC Tryz.prog 85=true:=by kernel_rfl
attribute [go_sem] Tryz.underlying87
@[go_sem] theorem bBg:Tryz.prog.cellsOf 87=18:=by kernel_rfl
@[go_sem] theorem bBh:Tryz.prog.bytesOf 87=288:=by kernel_rfl
@[go_sem] theorem aTM:aS Tryz.prog 87=true:=by kernel_rfl
@[go_sem] theorem bBi:aU Tryz.prog 87=.agg [.sl true [],.sl true [],.int .i64 0,.int .i64 0,.sl true [],.sl true [],.int .i64 0,.int .i64 0,.str [],.sl true [],.int .i64 0,.sl true [],.int .i64 0,.str [],.str [],.str [],.int .i64 0,.sl true []]:=by kernel_rfl
@[go_sem] theorem aTN:aL Tryz.prog 87=true:=by kernel_rfl
@[go_sem] theorem aLN:aC Tryz.prog 87=true:=by kernel_rfl
@[go_sem] theorem aFX:bB Tryz.prog 87=true:=by kernel_rfl
@[go_sem] theorem bBj:Tryz.prog.stoodInHeld 87=false:=by kernel_rfl
@[go_sem] theorem aNQ:Tryz.prog.eqGuardType Tryz.prog.depth 87=false:=by kernel_rfl
attribute [go_sem] Tryz.underlying88
@[go_sem] theorem bBk:Tryz.prog.cellsOf 88=1:=by kernel_rfl
@[go_sem] theorem bBl:Tryz.prog.bytesOf 88=8:=by kernel_rfl
@[go_sem] theorem aTO:aS Tryz.prog 88=true:=by kernel_rfl
@[go_sem] theorem bBm:aU Tryz.prog 88=.nilfunc:=by kernel_rfl
@[go_sem] theorem aTP:aL Tryz.prog 88=true:=by kernel_rfl
@[go_sem] theorem aLO:aC Tryz.prog 88=true:=by kernel_rfl
attribute [go_sem] Tryz.underlying89
@[go_sem] theorem bBn:Tryz.prog.cellsOf 89=1:=by kernel_rfl
@[go_sem] theorem bBo:Tryz.prog.bytesOf 89=0:=by kernel_rfl
@[go_sem] theorem aTQ:aL Tryz.prog 89=true:=by kernel_rfl
@[go_sem] theorem aLP:aC Tryz.prog 89=true:=by kernel_rfl
attribute [go_sem] Tryz.underlying90
@[go_sem] theorem bBp:Tryz.prog.cellsOf 90=1:=by kernel_rfl
@[go_sem] theorem bBq:Tryz.prog.bytesOf 90=8:=by kernel_rfl
@[go_sem] theorem aTR:aS Tryz.prog 90=true:=by kernel_rfl
@[go_sem] theorem bBr:aU Tryz.prog 90=.nilmap:=by kernel_rfl
@[go_sem] theorem aTS:aL Tryz.prog 90=true:=by kernel_rfl
@[go_sem] theorem aLQ:aC Tryz.prog 90=true:=by kernel_rfl
@[go_sem] theorem bBs:aFb Tryz.prog 90=some ((.int .i64),88):=by kernel_rfl
@[go_sem] theorem bDm:aMs Tryz.prog 90=(.int .i64):=by kernel_rfl
@[go_sem] theorem bDn:aMt Tryz.prog 90=88:=by kernel_rfl
attribute [go_sem] Tryz.underlying97
@[go_sem] theorem bBt:Tryz.prog.cellsOf 97=1:=by kernel_rfl
@[go_sem] theorem bBu:Tryz.prog.bytesOf 97=8:=by kernel_rfl
@[go_sem] theorem aTT:aS Tryz.prog 97=true:=by kernel_rfl
@[go_sem] theorem bBv:aU Tryz.prog 97=.nilfunc:=by kernel_rfl
@[go_sem] theorem aTU:aL Tryz.prog 97=true:=by kernel_rfl
@[go_sem] theorem aLR:aC Tryz.prog 97=true:=by kernel_rfl
attribute [go_sem] Tryz.underlying98
@[go_sem] theorem bBw:Tryz.prog.cellsOf 98=1:=by kernel_rfl
@[go_sem] theorem bBx:Tryz.prog.bytesOf 98=8:=by kernel_rfl
@[go_sem] theorem aTV:aS Tryz.prog 98=true:=by kernel_rfl
@[go_sem] theorem bBy:aU Tryz.prog 98=.nilfunc:=by kernel_rfl
@[go_sem] theorem aTW:aL Tryz.prog 98=true:=by kernel_rfl
@[go_sem] theorem aLS:aC Tryz.prog 98=true:=by kernel_rfl
attribute [go_sem] Tryz.underlying99
@[go_sem] theorem bBz:Tryz.prog.cellsOf 99=1:=by kernel_rfl
@[go_sem] theorem bBA:Tryz.prog.bytesOf 99=8:=by kernel_rfl
@[go_sem] theorem aTX:aS Tryz.prog 99=true:=by kernel_rfl
@[go_sem] theorem bBB:aU Tryz.prog 99=.nilmap:=by kernel_rfl
@[go_sem] theorem aTY:aL Tryz.prog 99=true:=by kernel_rfl
@[go_sem] theorem aLT:aC Tryz.prog 99=true:=by kernel_rfl
@[go_sem] theorem bBC:aFb Tryz.prog 99=some (.string,80):=by kernel_rfl
@[go_sem] theorem bDo:aMs Tryz.prog 99=.string:=by kernel_rfl
@[go_sem] theorem bDp:aMt Tryz.prog 99=80:=by kernel_rfl
attribute [go_sem] Tryz.underlying100
@[go_sem] theorem aTZ:Tryz.prog.cellsOf 100=1:=by kernel_rfl
@[go_sem] theorem aT0:Tryz.prog.bytesOf 100=8:=by kernel_rfl
@[go_sem] theorem aNR:aS Tryz.prog 100=true:=by kernel_rfl
@[go_sem] theorem aT1:aU Tryz.prog 100=.nilfunc:=by kernel_rfl
@[go_sem] theorem aNS:aL Tryz.prog 100=true:=by kernel_rfl
@[go_sem] theorem aIx:aC Tryz.prog 100=true:=by kernel_rfl
attribute [go_sem] Tryz.underlying101
@[go_sem] theorem aT2:Tryz.prog.cellsOf 101=1:=by kernel_rfl
@[go_sem] theorem aT3:Tryz.prog.bytesOf 101=8:=by kernel_rfl
@[go_sem] theorem aNT:aS Tryz.prog 101=true:=by kernel_rfl
@[go_sem] theorem aT4:aU Tryz.prog 101=.nilfunc:=by kernel_rfl
@[go_sem] theorem aNU:aL Tryz.prog 101=true:=by kernel_rfl
@[go_sem] theorem aIy:aC Tryz.prog 101=true:=by kernel_rfl
attribute [go_sem] Tryz.underlying103
@[go_sem] theorem aT5:Tryz.prog.cellsOf 103=1:=by kernel_rfl
@[go_sem] theorem aT6:Tryz.prog.bytesOf 103=0:=by kernel_rfl
@[go_sem] theorem aNV:aL Tryz.prog 103=true:=by kernel_rfl
@[go_sem] theorem aIz:aC Tryz.prog 103=true:=by kernel_rfl
attribute [go_sem] Tryz.underlying105
@[go_sem] theorem aT7:Tryz.prog.cellsOf 105=1:=by kernel_rfl
@[go_sem] theorem aT8:Tryz.prog.bytesOf 105=0:=by kernel_rfl
@[go_sem] theorem aNW:aL Tryz.prog 105=true:=by kernel_rfl
@[go_sem] theorem aIA:aC Tryz.prog 105=true:=by kernel_rfl
attribute [go_sem] Tryz.underlying106
@[go_sem] theorem aT9:Tryz.prog.cellsOf 106=1:=by kernel_rfl
@[go_sem] theorem aUa:Tryz.prog.bytesOf 106=8:=by kernel_rfl
@[go_sem] theorem aNX:aS Tryz.prog 106=true:=by kernel_rfl
@[go_sem] theorem aUb:aU Tryz.prog 106=.nilmap:=by kernel_rfl
@[go_sem] theorem aNY:aL Tryz.prog 106=true:=by kernel_rfl
@[go_sem] theorem aIB:aC Tryz.prog 106=true:=by kernel_rfl
@[go_sem] theorem aUc:aFb Tryz.prog 106=some (.string,64):=by kernel_rfl
@[go_sem] theorem bBD:aMs Tryz.prog 106=.string:=by kernel_rfl
@[go_sem] theorem bBE:aMt Tryz.prog 106=64:=by kernel_rfl
attribute [go_sem] Tryz.underlying108
@[go_sem] theorem aUd:Tryz.prog.cellsOf 108=1:=by kernel_rfl
@[go_sem] theorem aUe:Tryz.prog.bytesOf 108=0:=by kernel_rfl
@[go_sem] theorem aNZ:aL Tryz.prog 108=true:=by kernel_rfl
@[go_sem] theorem aIC:aC Tryz.prog 108=true:=by kernel_rfl
attribute [go_sem] Tryz.underlying111
@[go_sem] theorem aUf:Tryz.prog.cellsOf 111=1:=by kernel_rfl
@[go_sem] theorem aUg:Tryz.prog.bytesOf 111=0:=by kernel_rfl
@[go_sem] theorem aN0:aL Tryz.prog 111=true:=by kernel_rfl
@[go_sem] theorem aID:aC Tryz.prog 111=true:=by kernel_rfl
attribute [go_sem] Tryz.underlying116
@[go_sem] theorem aUh:Tryz.prog.cellsOf 116=1:=by kernel_rfl
@[go_sem] theorem aUi:Tryz.prog.bytesOf 116=0:=by kernel_rfl
@[go_sem] theorem aN1:aL Tryz.prog 116=true:=by kernel_rfl
@[go_sem] theorem aIE:aC Tryz.prog 116=true:=by kernel_rfl
attribute [go_sem] Tryz.underlying118
@[go_sem] theorem aUj:Tryz.prog.cellsOf 118=1:=by kernel_rfl
@[go_sem] theorem aUk:Tryz.prog.bytesOf 118=8:=by kernel_rfl
@[go_sem] theorem aN2:aS Tryz.prog 118=true:=by kernel_rfl
@[go_sem] theorem aUl:aU Tryz.prog 118=.nilfunc:=by kernel_rfl
@[go_sem] theorem aN3:aL Tryz.prog 118=true:=by kernel_rfl
@[go_sem] theorem aIF:aC Tryz.prog 118=true:=by kernel_rfl
attribute [go_sem] Tryz.underlying120
@[go_sem] theorem aUm:Tryz.prog.cellsOf 120=1:=by kernel_rfl
@[go_sem] theorem aUn:Tryz.prog.bytesOf 120=0:=by kernel_rfl
@[go_sem] theorem aN4:aL Tryz.prog 120=true:=by kernel_rfl
@[go_sem] theorem aIG:aC Tryz.prog 120=true:=by kernel_rfl
attribute [go_sem] Tryz.underlying123
@[go_sem] theorem aUo:Tryz.prog.cellsOf 123=1:=by kernel_rfl
@[go_sem] theorem aUp:Tryz.prog.bytesOf 123=24:=by kernel_rfl
@[go_sem] theorem aN5:aS Tryz.prog 123=true:=by kernel_rfl
@[go_sem] theorem aUq:aU Tryz.prog 123=.sl true []:=by kernel_rfl
@[go_sem] theorem aN6:aL Tryz.prog 123=true:=by kernel_rfl
@[go_sem] theorem bBF:lA Tryz.prog 123=true:=by kernel_rfl
@[go_sem] theorem aIH:aC Tryz.prog 123=true:=by kernel_rfl
attribute [go_sem] Tryz.underlying125
@[go_sem] theorem aUr:Tryz.prog.cellsOf 125=10:=by kernel_rfl
@[go_sem] theorem aUs:Tryz.prog.bytesOf 125=88:=by kernel_rfl
@[go_sem] theorem aN7:aS Tryz.prog 125=true:=by kernel_rfl
@[go_sem] theorem aUt:aU Tryz.prog 125=.agg [.bool false,.bool false,.int .i64 0,.int .i64 0,.str [],.int .i64 0,.int .i64 0,.str [],.int .i64 0,.int .i64 0]:=by kernel_rfl
@[go_sem] theorem aN8:aL Tryz.prog 125=true:=by kernel_rfl
@[go_sem] theorem aII:aC Tryz.prog 125=true:=by kernel_rfl
@[go_sem] theorem aER:bB Tryz.prog 125=true:=by kernel_rfl
@[go_sem] theorem aUu:Tryz.prog.stoodInHeld 125=false:=by kernel_rfl
@[go_sem] theorem aLU:Tryz.prog.eqGuardType Tryz.prog.depth 125=false:=by kernel_rfl
attribute [go_sem] Tryz.underlying127
@[go_sem] theorem aUv:Tryz.prog.cellsOf 127=17:=by kernel_rfl
@[go_sem] theorem aUw:Tryz.prog.bytesOf 127=160:=by kernel_rfl
@[go_sem] theorem aN9:aS Tryz.prog 127=true:=by kernel_rfl
@[go_sem] theorem aUx:aU Tryz.prog 127=.agg [.int .i64 0,.int .i64 0,.int .i64 0,.int .i64 0,.int .i64 0,.str [],.str [],.bool false,.bool false,.int .i64 0,.int .i64 0,.str [],.int .i64 0,.int .i64 0,.str [],.int .i64 0,.int .i64 0]:=by kernel_rfl
@[go_sem] theorem aOa:aL Tryz.prog 127=true:=by kernel_rfl
@[go_sem] theorem aIJ:aC Tryz.prog 127=true:=by kernel_rfl
@[go_sem] theorem aES:bB Tryz.prog 127=true:=by kernel_rfl
@[go_sem] theorem aUy:Tryz.prog.stoodInHeld 127=false:=by kernel_rfl
@[go_sem] theorem aLV:Tryz.prog.eqGuardType Tryz.prog.depth 127=false:=by kernel_rfl
attribute [go_sem] Tryz.underlying129
@[go_sem] theorem aUz:Tryz.prog.cellsOf 129=1:=by kernel_rfl
@[go_sem] theorem aUA:Tryz.prog.bytesOf 129=8:=by kernel_rfl
@[go_sem] theorem aOb:aS Tryz.prog 129=true:=by kernel_rfl
@[go_sem] theorem aUB:aU Tryz.prog 129=.nilmap:=by kernel_rfl
@[go_sem] theorem aOc:aL Tryz.prog 129=true:=by kernel_rfl
@[go_sem] theorem aIK:aC Tryz.prog 129=true:=by kernel_rfl
@[go_sem] theorem aUC:aFb Tryz.prog 129=some ((.int .i64),4):=by kernel_rfl
@[go_sem] theorem bBG:aMs Tryz.prog 129=(.int .i64):=by kernel_rfl
@[go_sem] theorem bBH:aMt Tryz.prog 129=4:=by kernel_rfl
attribute [go_sem] Tryz.underlying130
@[go_sem] theorem aUD:Tryz.prog.cellsOf 130=1:=by kernel_rfl
@[go_sem] theorem aUE:Tryz.prog.bytesOf 130=24:=by kernel_rfl
@[go_sem] theorem aOd:aS Tryz.prog 130=true:=by kernel_rfl
@[go_sem] theorem aUF:aU Tryz.prog 130=.sl true []:=by kernel_rfl
@[go_sem] theorem aOe:aL Tryz.prog 130=true:=by kernel_rfl
@[go_sem] theorem bBI:lA Tryz.prog 130=true:=by kernel_rfl
@[go_sem] theorem aIL:aC Tryz.prog 130=true:=by kernel_rfl
attribute [go_sem] Tryz.underlying135
@[go_sem] theorem aUG:Tryz.prog.cellsOf 135=1:=by kernel_rfl
@[go_sem] theorem aUH:Tryz.prog.bytesOf 135=8:=by kernel_rfl
@[go_sem] theorem aOf:aS Tryz.prog 135=true:=by kernel_rfl
@[go_sem] theorem aUI:aU Tryz.prog 135=.nilfunc:=by kernel_rfl
@[go_sem] theorem aOg:aL Tryz.prog 135=true:=by kernel_rfl
@[go_sem] theorem aIM:aC Tryz.prog 135=true:=by kernel_rfl
attribute [go_sem] Tryz.underlying136
@[go_sem] theorem aUJ:Tryz.prog.cellsOf 136=1:=by kernel_rfl
@[go_sem] theorem aUK:Tryz.prog.bytesOf 136=8:=by kernel_rfl
@[go_sem] theorem aOh:aS Tryz.prog 136=true:=by kernel_rfl
@[go_sem] theorem aUL:aU Tryz.prog 136=.nilfunc:=by kernel_rfl
@[go_sem] theorem aOi:aL Tryz.prog 136=true:=by kernel_rfl
@[go_sem] theorem aIN:aC Tryz.prog 136=true:=by kernel_rfl
attribute [go_sem] Tryz.underlying139
@[go_sem] theorem aUM:Tryz.prog.cellsOf 139=1:=by kernel_rfl
@[go_sem] theorem aUN:Tryz.prog.bytesOf 139=8:=by kernel_rfl
@[go_sem] theorem aOj:aS Tryz.prog 139=true:=by kernel_rfl
@[go_sem] theorem aUO:aU Tryz.prog 139=.nilptr:=by kernel_rfl
@[go_sem] theorem aOk:aL Tryz.prog 139=true:=by kernel_rfl
@[go_sem] theorem aIO:aC Tryz.prog 139=true:=by kernel_rfl
attribute [go_sem] Tryz.underlying141
@[go_sem] theorem aUP:Tryz.prog.cellsOf 141=2:=by kernel_rfl
@[go_sem] theorem aUQ:Tryz.prog.bytesOf 141=32:=by kernel_rfl
@[go_sem] theorem aOl:aS Tryz.prog 141=true:=by kernel_rfl
@[go_sem] theorem aUR:aU Tryz.prog 141=.agg [.int .i64 0,.sl true []]:=by kernel_rfl
@[go_sem] theorem aOm:aL Tryz.prog 141=true:=by kernel_rfl
@[go_sem] theorem aIP:aC Tryz.prog 141=true:=by kernel_rfl
@[go_sem] theorem aET:bB Tryz.prog 141=true:=by kernel_rfl
@[go_sem] theorem aUS:Tryz.prog.stoodInHeld 141=false:=by kernel_rfl
@[go_sem] theorem aLW:Tryz.prog.eqGuardType Tryz.prog.depth 141=false:=by kernel_rfl
attribute [go_sem] Tryz.underlying143
@[go_sem] theorem aUT:Tryz.prog.cellsOf 143=1:=by kernel_rfl
@[go_sem] theorem aUU:Tryz.prog.bytesOf 143=24:=by kernel_rfl
@[go_sem] theorem aOn:aS Tryz.prog 143=true:=by kernel_rfl
@[go_sem] theorem aUV:aU Tryz.prog 143=.sl true []:=by kernel_rfl
@[go_sem] theorem aOo:aL Tryz.prog 143=true:=by kernel_rfl
@[go_sem] theorem bBJ:lA Tryz.prog 143=true:=by kernel_rfl
@[go_sem] theorem aIQ:aC Tryz.prog 143=true:=by kernel_rfl
attribute [go_sem] Tryz.underlying144
@[go_sem] theorem aUW:Tryz.prog.cellsOf 144=1:=by kernel_rfl
@[go_sem] theorem aUX:Tryz.prog.bytesOf 144=8:=by kernel_rfl
@[go_sem] theorem aOp:aS Tryz.prog 144=true:=by kernel_rfl
@[go_sem] theorem aUY:aU Tryz.prog 144=.nilfunc:=by kernel_rfl
@[go_sem] theorem aOq:aL Tryz.prog 144=true:=by kernel_rfl
@[go_sem] theorem aIR:aC Tryz.prog 144=true:=by kernel_rfl
attribute [go_sem] Tryz.underlying145
@[go_sem] theorem aUZ:Tryz.prog.cellsOf 145=1:=by kernel_rfl
@[go_sem] theorem aU0:Tryz.prog.bytesOf 145=0:=by kernel_rfl
@[go_sem] theorem aOr:aL Tryz.prog 145=true:=by kernel_rfl
@[go_sem] theorem aIS:aC Tryz.prog 145=true:=by kernel_rfl
attribute [go_sem] Tryz.underlying147
@[go_sem] theorem aU1:Tryz.prog.cellsOf 147=1:=by kernel_rfl
@[go_sem] theorem aU2:Tryz.prog.bytesOf 147=8:=by kernel_rfl
@[go_sem] theorem aOs:aS Tryz.prog 147=true:=by kernel_rfl
@[go_sem] theorem aU3:aU Tryz.prog 147=.nilfunc:=by kernel_rfl
@[go_sem] theorem aOt:aL Tryz.prog 147=true:=by kernel_rfl
@[go_sem] theorem aIT:aC Tryz.prog 147=true:=by kernel_rfl
attribute [go_sem] Tryz.underlying148
@[go_sem] theorem aU4:Tryz.prog.cellsOf 148=1:=by kernel_rfl
@[go_sem] theorem aU5:Tryz.prog.bytesOf 148=8:=by kernel_rfl
@[go_sem] theorem aOu:aS Tryz.prog 148=true:=by kernel_rfl
@[go_sem] theorem aU6:aU Tryz.prog 148=.nilfunc:=by kernel_rfl
@[go_sem] theorem aOv:aL Tryz.prog 148=true:=by kernel_rfl
@[go_sem] theorem aIU:aC Tryz.prog 148=true:=by kernel_rfl
attribute [go_sem] Tryz.underlying152
@[go_sem] theorem aU7:Tryz.prog.cellsOf 152=5:=by kernel_rfl
@[go_sem] theorem aU8:Tryz.prog.bytesOf 152=5:=by kernel_rfl
@[go_sem] theorem aOw:aS Tryz.prog 152=true:=by kernel_rfl
@[go_sem] theorem aU9:aU Tryz.prog 152=.agg [.bool false,.bool false,.bool false,.bool false,.bool false]:=by kernel_rfl
@[go_sem] theorem aOx:aL Tryz.prog 152=true:=by kernel_rfl
@[go_sem] theorem aIV:aC Tryz.prog 152=true:=by kernel_rfl
@[go_sem] theorem aEU:bB Tryz.prog 152=true:=by kernel_rfl
@[go_sem] theorem aVa:Tryz.prog.stoodInHeld 152=false:=by kernel_rfl
@[go_sem] theorem aLX:Tryz.prog.eqGuardType Tryz.prog.depth 152=false:=by kernel_rfl
attribute [go_sem] Tryz.underlying155
@[go_sem] theorem aVb:Tryz.prog.cellsOf 155=1:=by kernel_rfl
@[go_sem] theorem aVc:Tryz.prog.bytesOf 155=0:=by kernel_rfl
@[go_sem] theorem aOy:aL Tryz.prog 155=true:=by kernel_rfl
@[go_sem] theorem aIW:aC Tryz.prog 155=true:=by kernel_rfl
attribute [go_sem] Tryz.underlying158
@[go_sem] theorem aVd:Tryz.prog.cellsOf 158=1:=by kernel_rfl
@[go_sem] theorem aVe:Tryz.prog.bytesOf 158=0:=by kernel_rfl
@[go_sem] theorem aOz:aL Tryz.prog 158=true:=by kernel_rfl
@[go_sem] theorem aIX:aC Tryz.prog 158=true:=by kernel_rfl
attribute [go_sem] Tryz.underlying160
@[go_sem] theorem aVf:Tryz.prog.cellsOf 160=1:=by kernel_rfl
@[go_sem] theorem aVg:Tryz.prog.bytesOf 160=0:=by kernel_rfl
@[go_sem] theorem aOA:aL Tryz.prog 160=true:=by kernel_rfl
@[go_sem] theorem aIY:aC Tryz.prog 160=true:=by kernel_rfl
attribute [go_sem] Tryz.underlying165
@[go_sem] theorem aVh:Tryz.prog.cellsOf 165=1:=by kernel_rfl
@[go_sem] theorem aVi:Tryz.prog.bytesOf 165=0:=by kernel_rfl
@[go_sem] theorem aOB:aL Tryz.prog 165=true:=by kernel_rfl
@[go_sem] theorem aIZ:aC Tryz.prog 165=true:=by kernel_rfl
attribute [go_sem] Tryz.underlying167
@[go_sem] theorem aVj:Tryz.prog.cellsOf 167=1:=by kernel_rfl
@[go_sem] theorem aVk:Tryz.prog.bytesOf 167=0:=by kernel_rfl
@[go_sem] theorem aOC:aL Tryz.prog 167=true:=by kernel_rfl
@[go_sem] theorem aI0:aC Tryz.prog 167=true:=by kernel_rfl
attribute [go_sem] Tryz.underlying172
@[go_sem] theorem aVl:Tryz.prog.cellsOf 172=1:=by kernel_rfl
@[go_sem] theorem aVm:Tryz.prog.bytesOf 172=16:=by kernel_rfl
@[go_sem] theorem aOD:aS Tryz.prog 172=true:=by kernel_rfl
@[go_sem] theorem aVn:aU Tryz.prog 172=.nilIface:=by kernel_rfl
@[go_sem] theorem aOE:aL Tryz.prog 172=true:=by kernel_rfl
@[go_sem] theorem bBK:zC Tryz.prog 172=true:=by kernel_rfl
attribute [go_sem] Tryz.underlying180
@[go_sem] theorem aVo:Tryz.prog.cellsOf 180=1:=by kernel_rfl
@[go_sem] theorem aVp:Tryz.prog.bytesOf 180=8:=by kernel_rfl
@[go_sem] theorem aOF:aS Tryz.prog 180=true:=by kernel_rfl
@[go_sem] theorem aVq:aU Tryz.prog 180=.nilfunc:=by kernel_rfl
@[go_sem] theorem aOG:aL Tryz.prog 180=true:=by kernel_rfl
@[go_sem] theorem aI1:aC Tryz.prog 180=true:=by kernel_rfl
attribute [go_sem] Tryz.underlying181
@[go_sem] theorem aVr:Tryz.prog.cellsOf 181=1:=by kernel_rfl
@[go_sem] theorem aVs:Tryz.prog.bytesOf 181=8:=by kernel_rfl
@[go_sem] theorem aOH:aS Tryz.prog 181=true:=by kernel_rfl
@[go_sem] theorem aVt:aU Tryz.prog 181=.nilfunc:=by kernel_rfl
@[go_sem] theorem aOI:aL Tryz.prog 181=true:=by kernel_rfl
@[go_sem] theorem aI2:aC Tryz.prog 181=true:=by kernel_rfl
attribute [go_sem] Tryz.underlying184
@[go_sem] theorem aVu:Tryz.prog.cellsOf 184=1:=by kernel_rfl
@[go_sem] theorem aVv:Tryz.prog.bytesOf 184=8:=by kernel_rfl
@[go_sem] theorem aOJ:aS Tryz.prog 184=true:=by kernel_rfl
@[go_sem] theorem aVw:aU Tryz.prog 184=.nilfunc:=by kernel_rfl
@[go_sem] theorem aOK:aL Tryz.prog 184=true:=by kernel_rfl
@[go_sem] theorem aI3:aC Tryz.prog 184=true:=by kernel_rfl
attribute [go_sem] Tryz.underlying185
@[go_sem] theorem aVx:Tryz.prog.cellsOf 185=1:=by kernel_rfl
@[go_sem] theorem aVy:Tryz.prog.bytesOf 185=0:=by kernel_rfl
@[go_sem] theorem aOL:aL Tryz.prog 185=true:=by kernel_rfl
@[go_sem] theorem aI4:aC Tryz.prog 185=true:=by kernel_rfl
attribute [go_sem] Tryz.underlying193
@[go_sem] theorem aVz:Tryz.prog.cellsOf 193=1:=by kernel_rfl
@[go_sem] theorem aVA:Tryz.prog.bytesOf 193=8:=by kernel_rfl
@[go_sem] theorem aOM:aS Tryz.prog 193=true:=by kernel_rfl
@[go_sem] theorem aVB:aU Tryz.prog 193=.nilfunc:=by kernel_rfl
@[go_sem] theorem aON:aL Tryz.prog 193=true:=by kernel_rfl
@[go_sem] theorem aI5:aC Tryz.prog 193=true:=by kernel_rfl
attribute [go_sem] Tryz.underlying194
@[go_sem] theorem aVC:Tryz.prog.cellsOf 194=1:=by kernel_rfl
@[go_sem] theorem aVD:Tryz.prog.bytesOf 194=8:=by kernel_rfl
@[go_sem] theorem aOO:aS Tryz.prog 194=true:=by kernel_rfl
@[go_sem] theorem aVE:aU Tryz.prog 194=.nilfunc:=by kernel_rfl
@[go_sem] theorem aOP:aL Tryz.prog 194=true:=by kernel_rfl
@[go_sem] theorem aI6:aC Tryz.prog 194=true:=by kernel_rfl
attribute [go_sem] Tryz.underlying200
@[go_sem] theorem aVF:Tryz.prog.cellsOf 200=1:=by kernel_rfl
@[go_sem] theorem aVG:Tryz.prog.bytesOf 200=0:=by kernel_rfl
@[go_sem] theorem aOQ:aL Tryz.prog 200=true:=by kernel_rfl
@[go_sem] theorem aI7:aC Tryz.prog 200=true:=by kernel_rfl
attribute [go_sem] Tryz.underlying203
@[go_sem] theorem aVH:Tryz.prog.cellsOf 203=1:=by kernel_rfl
@[go_sem] theorem aVI:Tryz.prog.bytesOf 203=8:=by kernel_rfl
@[go_sem] theorem aOR:aS Tryz.prog 203=true:=by kernel_rfl
@[go_sem] theorem aVJ:aU Tryz.prog 203=.nilfunc:=by kernel_rfl
@[go_sem] theorem aOS:aL Tryz.prog 203=true:=by kernel_rfl
@[go_sem] theorem aI8:aC Tryz.prog 203=true:=by kernel_rfl
attribute [go_sem] Tryz.underlying210
@[go_sem] theorem aVK:Tryz.prog.cellsOf 210=1:=by kernel_rfl
@[go_sem] theorem aVL:Tryz.prog.bytesOf 210=0:=by kernel_rfl
@[go_sem] theorem aOT:aL Tryz.prog 210=true:=by kernel_rfl
@[go_sem] theorem aI9:aC Tryz.prog 210=true:=by kernel_rfl
attribute [go_sem] Tryz.underlying214
@[go_sem] theorem aVM:Tryz.prog.cellsOf 214=1:=by kernel_rfl
@[go_sem] theorem aVN:Tryz.prog.bytesOf 214=0:=by kernel_rfl
@[go_sem] theorem aOU:aL Tryz.prog 214=true:=by kernel_rfl
@[go_sem] theorem aJa:aC Tryz.prog 214=true:=by kernel_rfl
attribute [go_sem] Tryz.underlying216
@[go_sem] theorem aVO:Tryz.prog.cellsOf 216=1:=by kernel_rfl
@[go_sem] theorem aVP:Tryz.prog.bytesOf 216=8:=by kernel_rfl
@[go_sem] theorem aOV:aS Tryz.prog 216=true:=by kernel_rfl
@[go_sem] theorem aVQ:aU Tryz.prog 216=.nilfunc:=by kernel_rfl
@[go_sem] theorem aOW:aL Tryz.prog 216=true:=by kernel_rfl
@[go_sem] theorem aJb:aC Tryz.prog 216=true:=by kernel_rfl
attribute [go_sem] Tryz.underlying218
@[go_sem] theorem aVR:Tryz.prog.cellsOf 218=7:=by kernel_rfl
@[go_sem] theorem aVS:Tryz.prog.bytesOf 218=72:=by kernel_rfl
@[go_sem] theorem aOX:aS Tryz.prog 218=true:=by kernel_rfl
@[go_sem] theorem aVT:aU Tryz.prog 218=.agg [.int .i64 0,.int .i64 0,.int .i64 0,.int .i64 0,.int .i64 0,.str [],.str []]:=by kernel_rfl
@[go_sem] theorem aOY:aL Tryz.prog 218=true:=by kernel_rfl
@[go_sem] theorem aJc:aC Tryz.prog 218=true:=by kernel_rfl
@[go_sem] theorem aEV:bB Tryz.prog 218=true:=by kernel_rfl
@[go_sem] theorem aVU:Tryz.prog.stoodInHeld 218=false:=by kernel_rfl
@[go_sem] theorem aLY:Tryz.prog.eqGuardType Tryz.prog.depth 218=false:=by kernel_rfl
attribute [go_sem] Tryz.underlying219
@[go_sem] theorem aVV:Tryz.prog.cellsOf 219=7:=by kernel_rfl
@[go_sem] theorem aVW:Tryz.prog.bytesOf 219=72:=by kernel_rfl
@[go_sem] theorem aOZ:aS Tryz.prog 219=true:=by kernel_rfl
@[go_sem] theorem aVX:aU Tryz.prog 219=.agg [.int .i64 0,.int .i64 0,.int .i64 0,.int .i64 0,.int .i64 0,.str [],.str []]:=by kernel_rfl
@[go_sem] theorem aO0:aL Tryz.prog 219=true:=by kernel_rfl
@[go_sem] theorem aJd:aC Tryz.prog 219=true:=by kernel_rfl
@[go_sem] theorem aEW:bB Tryz.prog 219=true:=by kernel_rfl
@[go_sem] theorem aVY:Tryz.prog.stoodInHeld 219=false:=by kernel_rfl
@[go_sem] theorem aLZ:Tryz.prog.eqGuardType Tryz.prog.depth 219=false:=by kernel_rfl
attribute [go_sem] Tryz.underlying220
@[go_sem] theorem aVZ:Tryz.prog.cellsOf 220=1:=by kernel_rfl
@[go_sem] theorem aV0:Tryz.prog.bytesOf 220=0:=by kernel_rfl
@[go_sem] theorem aO1:aL Tryz.prog 220=true:=by kernel_rfl
@[go_sem] theorem aJe:aC Tryz.prog 220=true:=by kernel_rfl
attribute [go_sem] Tryz.underlying227
@[go_sem] theorem aV1:Tryz.prog.cellsOf 227=1:=by kernel_rfl
@[go_sem] theorem aV2:Tryz.prog.bytesOf 227=24:=by kernel_rfl
@[go_sem] theorem aO2:aS Tryz.prog 227=true:=by kernel_rfl
@[go_sem] theorem aV3:aU Tryz.prog 227=.sl true []:=by kernel_rfl
@[go_sem] theorem aO3:aL Tryz.prog 227=true:=by kernel_rfl
@[go_sem] theorem bBL:lA Tryz.prog 227=true:=by kernel_rfl
@[go_sem] theorem aJf:aC Tryz.prog 227=true:=by kernel_rfl
attribute [go_sem] Tryz.underlying229
@[go_sem] theorem aV4:Tryz.prog.cellsOf 229=1:=by kernel_rfl
@[go_sem] theorem aV5:Tryz.prog.bytesOf 229=0:=by kernel_rfl
@[go_sem] theorem aO4:aL Tryz.prog 229=true:=by kernel_rfl
@[go_sem] theorem aJg:aC Tryz.prog 229=true:=by kernel_rfl
attribute [go_sem] Tryz.underlying236
@[go_sem] theorem aV6:Tryz.prog.cellsOf 236=1:=by kernel_rfl
@[go_sem] theorem aV7:Tryz.prog.bytesOf 236=8:=by kernel_rfl
@[go_sem] theorem aO5:aS Tryz.prog 236=true:=by kernel_rfl
@[go_sem] theorem aV8:aU Tryz.prog 236=.nilfunc:=by kernel_rfl
@[go_sem] theorem aO6:aL Tryz.prog 236=true:=by kernel_rfl
@[go_sem] theorem aJh:aC Tryz.prog 236=true:=by kernel_rfl
attribute [go_sem] Tryz.underlying238
@[go_sem] theorem aV9:Tryz.prog.cellsOf 238=5:=by kernel_rfl
@[go_sem] theorem aWa:Tryz.prog.bytesOf 238=40:=by kernel_rfl
@[go_sem] theorem aO7:aS Tryz.prog 238=true:=by kernel_rfl
@[go_sem] theorem aWb:aU Tryz.prog 238=.agg [.int .i64 0,.int .i64 0,.int .i64 0,.int .i64 0,.int .i64 0]:=by kernel_rfl
@[go_sem] theorem aO8:aL Tryz.prog 238=true:=by kernel_rfl
@[go_sem] theorem aJi:aC Tryz.prog 238=true:=by kernel_rfl
@[go_sem] theorem aEX:bB Tryz.prog 238=true:=by kernel_rfl
@[go_sem] theorem aWc:Tryz.prog.stoodInHeld 238=false:=by kernel_rfl
@[go_sem] theorem aL0:Tryz.prog.eqGuardType Tryz.prog.depth 238=false:=by kernel_rfl
attribute [go_sem] Tryz.underlying240
@[go_sem] theorem aWd:Tryz.prog.cellsOf 240=1:=by kernel_rfl
@[go_sem] theorem aWe:Tryz.prog.bytesOf 240=0:=by kernel_rfl
@[go_sem] theorem aO9:aL Tryz.prog 240=true:=by kernel_rfl
@[go_sem] theorem aJj:aC Tryz.prog 240=true:=by kernel_rfl
attribute [go_sem] Tryz.underlying242
@[go_sem] theorem aWf:Tryz.prog.cellsOf 242=1:=by kernel_rfl
@[go_sem] theorem aWg:Tryz.prog.bytesOf 242=0:=by kernel_rfl
@[go_sem] theorem aPa:aL Tryz.prog 242=true:=by kernel_rfl
@[go_sem] theorem aJk:aC Tryz.prog 242=true:=by kernel_rfl
attribute [go_sem] Tryz.underlying247
@[go_sem] theorem aWh:Tryz.prog.cellsOf 247=1:=by kernel_rfl
@[go_sem] theorem aWi:Tryz.prog.bytesOf 247=0:=by kernel_rfl
@[go_sem] theorem aPb:aL Tryz.prog 247=true:=by kernel_rfl
@[go_sem] theorem aJl:aC Tryz.prog 247=true:=by kernel_rfl
attribute [go_sem] Tryz.underlying253
@[go_sem] theorem aWj:Tryz.prog.cellsOf 253=1:=by kernel_rfl
@[go_sem] theorem aWk:Tryz.prog.bytesOf 253=8:=by kernel_rfl
@[go_sem] theorem aPc:aS Tryz.prog 253=true:=by kernel_rfl
@[go_sem] theorem aWl:aU Tryz.prog 253=.nilfunc:=by kernel_rfl
@[go_sem] theorem aPd:aL Tryz.prog 253=true:=by kernel_rfl
@[go_sem] theorem aJm:aC Tryz.prog 253=true:=by kernel_rfl
attribute [go_sem] Tryz.underlying257
@[go_sem] theorem aWm:Tryz.prog.cellsOf 257=1:=by kernel_rfl
@[go_sem] theorem aWn:Tryz.prog.bytesOf 257=8:=by kernel_rfl
@[go_sem] theorem aPe:aS Tryz.prog 257=true:=by kernel_rfl
@[go_sem] theorem aWo:aU Tryz.prog 257=.int .u64 0:=by kernel_rfl
@[go_sem] theorem aJn:aC Tryz.prog 257=true:=by kernel_rfl
attribute [go_sem] Tryz.underlying259
@[go_sem] theorem aWp:Tryz.prog.cellsOf 259=1:=by kernel_rfl
@[go_sem] theorem aWq:Tryz.prog.bytesOf 259=0:=by kernel_rfl
@[go_sem] theorem aPf:aL Tryz.prog 259=true:=by kernel_rfl
@[go_sem] theorem aJo:aC Tryz.prog 259=true:=by kernel_rfl
attribute [go_sem] Tryz.underlying263
@[go_sem] theorem aWr:Tryz.prog.cellsOf 263=1:=by kernel_rfl
@[go_sem] theorem aWs:Tryz.prog.bytesOf 263=8:=by kernel_rfl
@[go_sem] theorem aPg:aS Tryz.prog 263=true:=by kernel_rfl
@[go_sem] theorem aWt:aU Tryz.prog 263=.nilptr:=by kernel_rfl
@[go_sem] theorem aPh:aL Tryz.prog 263=true:=by kernel_rfl
@[go_sem] theorem aJp:aC Tryz.prog 263=true:=by kernel_rfl
attribute [go_sem] Tryz.underlying264
@[go_sem] theorem aWu:Tryz.prog.cellsOf 264=1:=by kernel_rfl
@[go_sem] theorem aWv:Tryz.prog.bytesOf 264=8:=by kernel_rfl
@[go_sem] theorem aPi:aS Tryz.prog 264=true:=by kernel_rfl
@[go_sem] theorem aWw:aU Tryz.prog 264=.nilptr:=by kernel_rfl
@[go_sem] theorem aPj:aL Tryz.prog 264=true:=by kernel_rfl
@[go_sem] theorem aJq:aC Tryz.prog 264=true:=by kernel_rfl
attribute [go_sem] Tryz.underlying265
@[go_sem] theorem aWx:Tryz.prog.cellsOf 265=1:=by kernel_rfl
@[go_sem] theorem aWy:Tryz.prog.bytesOf 265=0:=by kernel_rfl
@[go_sem] theorem aPk:aL Tryz.prog 265=true:=by kernel_rfl
@[go_sem] theorem aJr:aC Tryz.prog 265=true:=by kernel_rfl
attribute [go_sem] Tryz.underlying275
@[go_sem] theorem aWz:Tryz.prog.cellsOf 275=1:=by kernel_rfl
@[go_sem] theorem aWA:Tryz.prog.bytesOf 275=8:=by kernel_rfl
@[go_sem] theorem aPl:aS Tryz.prog 275=true:=by kernel_rfl
@[go_sem] theorem aWB:aU Tryz.prog 275=.int .i64 0:=by kernel_rfl
@[go_sem] theorem aJs:aC Tryz.prog 275=true:=by kernel_rfl
attribute [go_sem] Tryz.underlying276
@[go_sem] theorem aWC:Tryz.prog.cellsOf 276=1:=by kernel_rfl
@[go_sem] theorem aWD:Tryz.prog.bytesOf 276=0:=by kernel_rfl
@[go_sem] theorem aPm:aL Tryz.prog 276=true:=by kernel_rfl
@[go_sem] theorem aJt:aC Tryz.prog 276=true:=by kernel_rfl
attribute [go_sem] Tryz.underlying282
@[go_sem] theorem aWE:Tryz.prog.cellsOf 282=1:=by kernel_rfl
@[go_sem] theorem aWF:Tryz.prog.bytesOf 282=4:=by kernel_rfl
@[go_sem] theorem aPn:aS Tryz.prog 282=true:=by kernel_rfl
@[go_sem] theorem aWG:aU Tryz.prog 282=.int .u32 0:=by kernel_rfl
@[go_sem] theorem aJu:aC Tryz.prog 282=true:=by kernel_rfl
attribute [go_sem] Tryz.underlying284
@[go_sem] theorem aWH:Tryz.prog.cellsOf 284=1:=by kernel_rfl
@[go_sem] theorem aWI:Tryz.prog.bytesOf 284=8:=by kernel_rfl
@[go_sem] theorem aPo:aS Tryz.prog 284=true:=by kernel_rfl
@[go_sem] theorem aWJ:aU Tryz.prog 284=.int .u64 0:=by kernel_rfl
@[go_sem] theorem aJv:aC Tryz.prog 284=true:=by kernel_rfl
attribute [go_sem] Tryz.underlying285
@[go_sem] theorem aWK:Tryz.prog.cellsOf 285=1:=by kernel_rfl
@[go_sem] theorem aWL:Tryz.prog.bytesOf 285=8:=by kernel_rfl
@[go_sem] theorem aPp:aS Tryz.prog 285=true:=by kernel_rfl
@[go_sem] theorem aWM:aU Tryz.prog 285=.nilfunc:=by kernel_rfl
@[go_sem] theorem aPq:aL Tryz.prog 285=true:=by kernel_rfl
@[go_sem] theorem aJw:aC Tryz.prog 285=true:=by kernel_rfl
attribute [go_sem] Tryz.underlying288
@[go_sem] theorem aWN:Tryz.prog.cellsOf 288=1:=by kernel_rfl
@[go_sem] theorem aWO:Tryz.prog.bytesOf 288=24:=by kernel_rfl
@[go_sem] theorem aPr:aS Tryz.prog 288=true:=by kernel_rfl
@[go_sem] theorem aWP:aU Tryz.prog 288=.sl true []:=by kernel_rfl
@[go_sem] theorem aPs:aL Tryz.prog 288=true:=by kernel_rfl
@[go_sem] theorem bBM:lA Tryz.prog 288=true:=by kernel_rfl
@[go_sem] theorem aJx:aC Tryz.prog 288=true:=by kernel_rfl
attribute [go_sem] Tryz.underlying289
@[go_sem] theorem aWQ:Tryz.prog.cellsOf 289=1:=by kernel_rfl
@[go_sem] theorem aWR:Tryz.prog.bytesOf 289=24:=by kernel_rfl
@[go_sem] theorem aPt:aS Tryz.prog 289=true:=by kernel_rfl
@[go_sem] theorem aWS:aU Tryz.prog 289=.sl true []:=by kernel_rfl
@[go_sem] theorem aPu:aL Tryz.prog 289=true:=by kernel_rfl
@[go_sem] theorem bBN:lA Tryz.prog 289=true:=by kernel_rfl
@[go_sem] theorem aJy:aC Tryz.prog 289=true:=by kernel_rfl
attribute [go_sem] Tryz.underlying291
@[go_sem] theorem aWT:Tryz.prog.cellsOf 291=1:=by kernel_rfl
@[go_sem] theorem aWU:Tryz.prog.bytesOf 291=8:=by kernel_rfl
@[go_sem] theorem aPv:aS Tryz.prog 291=true:=by kernel_rfl
@[go_sem] theorem aWV:aU Tryz.prog 291=.int .u64 0:=by kernel_rfl
@[go_sem] theorem aJz:aC Tryz.prog 291=true:=by kernel_rfl
attribute [go_sem] Tryz.underlying297
@[go_sem] theorem aWW:Tryz.prog.cellsOf 297=1:=by kernel_rfl
@[go_sem] theorem aWX:Tryz.prog.bytesOf 297=0:=by kernel_rfl
@[go_sem] theorem aPw:aL Tryz.prog 297=true:=by kernel_rfl
@[go_sem] theorem aJA:aC Tryz.prog 297=true:=by kernel_rfl
attribute [go_sem] Tryz.underlying301
@[go_sem] theorem aWY:Tryz.prog.cellsOf 301=1:=by kernel_rfl
@[go_sem] theorem aWZ:Tryz.prog.bytesOf 301=8:=by kernel_rfl
@[go_sem] theorem aPx:aS Tryz.prog 301=true:=by kernel_rfl
@[go_sem] theorem aW0:aU Tryz.prog 301=.nilptr:=by kernel_rfl
@[go_sem] theorem aPy:aL Tryz.prog 301=true:=by kernel_rfl
@[go_sem] theorem aJB:aC Tryz.prog 301=true:=by kernel_rfl
attribute [go_sem] Tryz.underlying303
@[go_sem] theorem aW1:Tryz.prog.cellsOf 303=256:=by kernel_rfl
@[go_sem] theorem aW2:Tryz.prog.bytesOf 303=256:=by kernel_rfl
@[go_sem] theorem aPz:aS Tryz.prog 303=true:=by kernel_rfl
@[go_sem] theorem aW3:aU Tryz.prog 303=.agg [.int .u8 0,.int .u8 0,.int .u8 0,.int .u8 0,.int .u8 0,.int .u8 0,.int .u8 0,.int .u8 0,.int .u8 0,.int .u8 0,.int .u8 0,.int .u8 0,.int .u8 0,.int .u8 0,.int .u8 0,.int .u8 0,.int .u8 0,.int .u8 0,.int .u8 0,.int .u8 0,.int .u8 0,.int .u8 0,.int .u8 0,.int .u8 0,.int .u8 0,.int .u8 0,.int .u8 0,.int .u8 0,.int .u8 0,.int .u8 0,.int .u8 0,.int .u8 0,.int .u8 0,.int .u8 0,.int .u8 0,.int .u8 0,.int .u8 0,.int .u8 0,.int .u8 0,.int .u8 0,.int .u8 0,.int .u8 0,.int .u8 0,.int .u8 0,.int .u8 0,.int .u8 0,.int .u8 0,.int .u8 0,.int .u8 0,.int .u8 0,.int .u8 0,.int .u8 0,.int .u8 0,.int .u8 0,.int .u8 0,.int .u8 0,.int .u8 0,.int .u8 0,.int .u8 0,.int .u8 0,.int .u8 0,.int .u8 0,.int .u8 0,.int .u8 0,.int .u8 0,.int .u8 0,.int .u8 0,.int .u8 0,.int .u8 0,.int .u8 0,.int .u8 0,.int .u8 0,.int .u8 0,.int .u8 0,.int .u8 0,.int .u8 0,.int .u8 0,.int .u8 0,.int .u8 0,.int .u8 0,.int .u8 0,.int .u8 0,.int .u8 0,.int .u8 0,.int .u8 0,.int .u8 0,.int .u8 0,.int .u8 0,.int .u8 0,.int .u8 0,.int .u8 0,.int .u8 0,.int .u8 0,.int .u8 0,.int .u8 0,.int .u8 0,.int .u8 0,.int .u8 0,.int .u8 0,.int .u8 0,.int .u8 0,.int .u8 0,.int .u8 0,.int .u8 0,.int .u8 0,.int .u8 0,.int .u8 0,.int .u8 0,.int .u8 0,.int .u8 0,.int .u8 0,.int .u8 0,.int .u8 0,.int .u8 0,.int .u8 0,.int .u8 0,.int .u8 0,.int .u8 0,.int .u8 0,.int .u8 0,.int .u8 0,.int .u8 0,.int .u8 0,.int .u8 0,.int .u8 0,.int .u8 0,.int .u8 0,.int .u8 0,.int .u8 0,.int .u8 0,.int .u8 0,.int .u8 0,.int .u8 0,.int .u8 0,.int .u8 0,.int .u8 0,.int .u8 0,.int .u8 0,.int .u8 0,.int .u8 0,.int .u8 0,.int .u8 0,.int .u8 0,.int .u8 0,.int .u8 0,.int .u8 0,.int .u8 0,.int .u8 0,.int .u8 0,.int .u8 0,.int .u8 0,.int .u8 0,.int .u8 0,.int .u8 0,.int .u8 0,.int .u8 0,.int .u8 0,.int .u8 0,.int .u8 0,.int .u8 0,.int .u8 0,.int .u8 0,.int .u8 0,.int .u8 0,.int .u8 0,.int .u8 0,.int .u8 0,.int .u8 0,.int .u8 0,.int .u8 0,.int .u8 0,.int .u8 0,.int .u8 0,.int .u8 0,.int .u8 0,.int .u8 0,.int .u8 0,.int .u8 0,.int .u8 0,.int .u8 0,.int .u8 0,.int .u8 0,.int .u8 0,.int .u8 0,.int .u8 0,.int .u8 0,.int .u8 0,.int .u8 0,.int .u8 0,.int .u8 0,.int .u8 0,.int .u8 0,.int .u8 0,.int .u8 0,.int .u8 0,.int .u8 0,.int .u8 0,.int .u8 0,.int .u8 0,.int .u8 0,.int .u8 0,.int .u8 0,.int .u8 0,.int .u8 0,.int .u8 0,.int .u8 0,.int .u8 0,.int .u8 0,.int .u8 0,.int .u8 0,.int .u8 0,.int .u8 0,.int .u8 0,.int .u8 0,.int .u8 0,.int .u8 0,.int .u8 0,.int .u8 0,.int .u8 0,.int .u8 0,.int .u8 0,.int .u8 0,.int .u8 0,.int .u8 0,.int .u8 0,.int .u8 0,.int .u8 0,.int .u8 0,.int .u8 0,.int .u8 0,.int .u8 0,.int .u8 0,.int .u8 0,.int .u8 0,.int .u8 0,.int .u8 0,.int .u8 0,.int .u8 0,.int .u8 0,.int .u8 0,.int .u8 0,.int .u8 0,.int .u8 0,.int .u8 0,.int .u8 0,.int .u8 0,.int .u8 0,.int .u8 0,.int .u8 0,.int .u8 0,.int .u8 0,.int .u8 0,.int .u8 0,.int .u8 0,.int .u8 0,.int .u8 0]:=by kernel_rfl
@[go_sem] theorem aPA:aL Tryz.prog 303=true:=by kernel_rfl
@[go_sem] theorem aJC:aC Tryz.prog 303=true:=by kernel_rfl
@[go_sem] theorem aEY:bB Tryz.prog 303=true:=by kernel_rfl
@[go_sem] theorem aW4:Tryz.prog.stoodInHeld 303=false:=by kernel_rfl
@[go_sem] theorem aL1:Tryz.prog.eqGuardType Tryz.prog.depth 303=false:=by kernel_rfl
attribute [go_sem] Tryz.underlying305
@[go_sem] theorem aW5:Tryz.prog.cellsOf 305=2:=by kernel_rfl
@[go_sem] theorem aW6:Tryz.prog.bytesOf 305=2:=by kernel_rfl
@[go_sem] theorem aPB:aS Tryz.prog 305=true:=by kernel_rfl
@[go_sem] theorem aW7:aU Tryz.prog 305=.agg [.int .u8 0,.int .u8 0]:=by kernel_rfl
@[go_sem] theorem aPC:aL Tryz.prog 305=true:=by kernel_rfl
@[go_sem] theorem aJD:aC Tryz.prog 305=true:=by kernel_rfl
@[go_sem] theorem aEZ:bB Tryz.prog 305=true:=by kernel_rfl
@[go_sem] theorem aW8:Tryz.prog.stoodInHeld 305=false:=by kernel_rfl
@[go_sem] theorem aL2:Tryz.prog.eqGuardType Tryz.prog.depth 305=false:=by kernel_rfl
attribute [go_sem] Tryz.underlying306
@[go_sem] theorem aW9:Tryz.prog.cellsOf 306=32:=by kernel_rfl
@[go_sem] theorem aXa:Tryz.prog.bytesOf 306=32:=by kernel_rfl
@[go_sem] theorem aPD:aS Tryz.prog 306=true:=by kernel_rfl
@[go_sem] theorem aXb:aU Tryz.prog 306=.agg [.int .u8 0,.int .u8 0,.int .u8 0,.int .u8 0,.int .u8 0,.int .u8 0,.int .u8 0,.int .u8 0,.int .u8 0,.int .u8 0,.int .u8 0,.int .u8 0,.int .u8 0,.int .u8 0,.int .u8 0,.int .u8 0,.int .u8 0,.int .u8 0,.int .u8 0,.int .u8 0,.int .u8 0,.int .u8 0,.int .u8 0,.int .u8 0,.int .u8 0,.int .u8 0,.int .u8 0,.int .u8 0,.int .u8 0,.int .u8 0,.int .u8 0,.int .u8 0]:=by kernel_rfl
@[go_sem] theorem aPE:aL Tryz.prog 306=true:=by kernel_rfl
@[go_sem] theorem aJE:aC Tryz.prog 306=true:=by kernel_rfl
@[go_sem] theorem aE0:bB Tryz.prog 306=true:=by kernel_rfl
@[go_sem] theorem aXc:Tryz.prog.stoodInHeld 306=false:=by kernel_rfl
@[go_sem] theorem aL3:Tryz.prog.eqGuardType Tryz.prog.depth 306=false:=by kernel_rfl
attribute [go_sem] Tryz.underlying307
@[go_sem] theorem aXd:Tryz.prog.cellsOf 307=1:=by kernel_rfl
@[go_sem] theorem aXe:Tryz.prog.bytesOf 307=0:=by kernel_rfl
@[go_sem] theorem aPF:aL Tryz.prog 307=true:=by kernel_rfl
@[go_sem] theorem aJF:aC Tryz.prog 307=true:=by kernel_rfl
@[go_sem] theorem aHD:nH Tryz.prog 218 "gunwale/op.fits" =some 271:=by kernel_rfl
@[go_sem] theorem aHE:nH Tryz.prog 219 "gunwale/op.fits" =some 273:=by kernel_rfl
attribute [go_sem] Tryz.ntmps2 Tryz.results2
@[go_sem] theorem bBO:aA Tryz.prog 2=true:=by kernel_rfl
attribute [go_sem] Tryz.ntmps3 Tryz.results3
@[go_sem] theorem bBP:aA Tryz.prog 3=true:=by kernel_rfl
attribute [go_sem] Tryz.ntmps4 Tryz.results4
@[go_sem] theorem bBQ:aA Tryz.prog 4=true:=by kernel_rfl
attribute [go_sem] Tryz.ntmps5 Tryz.results5
@[go_sem] theorem bBR:aA Tryz.prog 5=true:=by kernel_rfl
attribute [go_sem] Tryz.ntmps6 Tryz.results6
@[go_sem] theorem bBS:aA Tryz.prog 6=true:=by kernel_rfl
attribute [go_sem] Tryz.ntmps7 Tryz.results7
@[go_sem] theorem bBT:aA Tryz.prog 7=true:=by kernel_rfl
attribute [go_sem] Tryz.ntmps8 Tryz.results8
@[go_sem] theorem bBU:aA Tryz.prog 8=true:=by kernel_rfl
attribute [go_sem] Tryz.ntmps9 Tryz.results9
@[go_sem] theorem bBV:aA Tryz.prog 9=true:=by kernel_rfl
attribute [go_sem] Tryz.ntmps10 Tryz.results10
@[go_sem] theorem aXf:aA Tryz.prog 10=true:=by kernel_rfl
attribute [go_sem] Tryz.ntmps11 Tryz.results11
@[go_sem] theorem bN:aA Tryz.prog 11=true:=by kernel_rfl
attribute [go_sem] Tryz.ntmps12 Tryz.results12
@[go_sem] theorem bD:aA Tryz.prog 12=true:=by kernel_rfl
attribute [go_sem] Tryz.ntmps13 Tryz.results13
@[go_sem] theorem bA:aA Tryz.prog 13=true:=by kernel_rfl
attribute [go_sem] Tryz.ntmps14 Tryz.results14
@[go_sem] theorem aJ:aA Tryz.prog 14=true:=by kernel_rfl
attribute [go_sem] Tryz.ntmps15 Tryz.results15
@[go_sem] theorem xV:aA Tryz.prog 15=true:=by kernel_rfl
attribute [go_sem] Tryz.ntmps16 Tryz.results16
@[go_sem] theorem iI:aA Tryz.prog 16=true:=by kernel_rfl
attribute [go_sem] Tryz.ntmps17 Tryz.results17
@[go_sem] theorem aD0:aA Tryz.prog 17=true:=by kernel_rfl
attribute [go_sem] Tryz.ntmps18 Tryz.results18
@[go_sem] theorem jL:aA Tryz.prog 18=true:=by kernel_rfl
attribute [go_sem] Tryz.ntmps19 Tryz.results19
@[go_sem] theorem jM:aA Tryz.prog 19=true:=by kernel_rfl
attribute [go_sem] Tryz.ntmps20 Tryz.results20
@[go_sem] theorem aD1:aA Tryz.prog 20=true:=by kernel_rfl
attribute [go_sem] Tryz.ntmps21 Tryz.results21
@[go_sem] theorem rQ:aA Tryz.prog 21=true:=by kernel_rfl
attribute [go_sem] Tryz.ntmps22 Tryz.results22
@[go_sem] theorem aXg:aA Tryz.prog 22=true:=by kernel_rfl
attribute [go_sem] Tryz.ntmps23 Tryz.results23
@[go_sem] theorem aXh:aA Tryz.prog 23=true:=by kernel_rfl
attribute [go_sem] Tryz.ntmps24 Tryz.results24
@[go_sem] theorem aXi:aA Tryz.prog 24=true:=by kernel_rfl
attribute [go_sem] Tryz.ntmps25 Tryz.results25
@[go_sem] theorem aXj:aA Tryz.prog 25=true:=by kernel_rfl
attribute [go_sem] Tryz.ntmps26 Tryz.results26
@[go_sem] theorem dO:aA Tryz.prog 26=true:=by kernel_rfl
attribute [go_sem] Tryz.ntmps27 Tryz.results27
@[go_sem] theorem aXk:aA Tryz.prog 27=true:=by kernel_rfl
attribute [go_sem] Tryz.ntmps28 Tryz.results28
@[go_sem] theorem xW:aA Tryz.prog 28=true:=by kernel_rfl
attribute [go_sem] Tryz.ntmps29 Tryz.results29
@[go_sem] theorem dW:aA Tryz.prog 29=true:=by kernel_rfl
attribute [go_sem] Tryz.ntmps30 Tryz.results30
@[go_sem] theorem rR:aA Tryz.prog 30=true:=by kernel_rfl
attribute [go_sem] Tryz.ntmps31 Tryz.results31
@[go_sem] theorem aXl:aA Tryz.prog 31=true:=by kernel_rfl
attribute [go_sem] Tryz.ntmps32 Tryz.results32
@[go_sem] theorem aXm:aA Tryz.prog 32=true:=by kernel_rfl
attribute [go_sem] Tryz.ntmps33 Tryz.results33
@[go_sem] theorem aXn:aA Tryz.prog 33=true:=by kernel_rfl
attribute [go_sem] Tryz.ntmps34 Tryz.results34
@[go_sem] theorem aXo:aA Tryz.prog 34=true:=by kernel_rfl
attribute [go_sem] Tryz.ntmps35 Tryz.results35
@[go_sem] theorem aXp:aA Tryz.prog 35=true:=by kernel_rfl
attribute [go_sem] Tryz.ntmps36 Tryz.results36
@[go_sem] theorem aXq:aA Tryz.prog 36=true:=by kernel_rfl
attribute [go_sem] Tryz.ntmps37 Tryz.results37
@[go_sem] theorem lC:aA Tryz.prog 37=true:=by kernel_rfl
attribute [go_sem] Tryz.ntmps38 Tryz.results38
@[go_sem] theorem xX:aA Tryz.prog 38=true:=by kernel_rfl
attribute [go_sem] Tryz.ntmps39 Tryz.results39
@[go_sem] theorem aXr:aA Tryz.prog 39=true:=by kernel_rfl
attribute [go_sem] Tryz.ntmps40 Tryz.results40
@[go_sem] theorem aXs:aA Tryz.prog 40=true:=by kernel_rfl
attribute [go_sem] Tryz.ntmps41 Tryz.results41
@[go_sem] theorem aN:aA Tryz.prog 41=true:=by kernel_rfl
attribute [go_sem] Tryz.ntmps42 Tryz.results42
@[go_sem] theorem aD2:aA Tryz.prog 42=true:=by kernel_rfl
attribute [go_sem] Tryz.ntmps43 Tryz.results43
@[go_sem] theorem aXt:aA Tryz.prog 43=true:=by kernel_rfl
attribute [go_sem] Tryz.ntmps44 Tryz.results44
@[go_sem] theorem aXu:aA Tryz.prog 44=true:=by kernel_rfl
attribute [go_sem] Tryz.ntmps45 Tryz.results45
@[go_sem] theorem aXv:aA Tryz.prog 45=true:=by kernel_rfl
attribute [go_sem] Tryz.ntmps46 Tryz.results46
@[go_sem] theorem aXw:aA Tryz.prog 46=true:=by kernel_rfl
attribute [go_sem] Tryz.ntmps47 Tryz.results47
@[go_sem] theorem aXx:aA Tryz.prog 47=true:=by kernel_rfl
attribute [go_sem] Tryz.ntmps48 Tryz.results48
@[go_sem] theorem aXy:aA Tryz.prog 48=true:=by kernel_rfl
attribute [go_sem] Tryz.ntmps49 Tryz.results49
@[go_sem] theorem aXz:aA Tryz.prog 49=true:=by kernel_rfl
attribute [go_sem] Tryz.ntmps50 Tryz.results50
@[go_sem] theorem aXA:aA Tryz.prog 50=true:=by kernel_rfl
attribute [go_sem] Tryz.ntmps51 Tryz.results51
@[go_sem] theorem aXB:aA Tryz.prog 51=true:=by kernel_rfl
attribute [go_sem] Tryz.ntmps52 Tryz.results52
@[go_sem] theorem aXC:aA Tryz.prog 52=true:=by kernel_rfl
attribute [go_sem] Tryz.ntmps53 Tryz.results53
@[go_sem] theorem aXD:aA Tryz.prog 53=true:=by kernel_rfl
attribute [go_sem] Tryz.ntmps54 Tryz.results54
@[go_sem] theorem eF:aA Tryz.prog 54=true:=by kernel_rfl
attribute [go_sem] Tryz.ntmps55 Tryz.results55
@[go_sem] theorem aXE:aA Tryz.prog 55=true:=by kernel_rfl
attribute [go_sem] Tryz.ntmps56 Tryz.results56
@[go_sem] theorem aXF:aA Tryz.prog 56=true:=by kernel_rfl
attribute [go_sem] Tryz.ntmps57 Tryz.results57
@[go_sem] theorem aXG:aA Tryz.prog 57=true:=by kernel_rfl
attribute [go_sem] Tryz.ntmps58 Tryz.results58
@[go_sem] theorem aXH:aA Tryz.prog 58=true:=by kernel_rfl
attribute [go_sem] Tryz.ntmps59 Tryz.results59
@[go_sem] theorem rS:aA Tryz.prog 59=true:=by kernel_rfl
attribute [go_sem] Tryz.ntmps60 Tryz.results60
@[go_sem] theorem aXI:aA Tryz.prog 60=true:=by kernel_rfl
attribute [go_sem] Tryz.ntmps61 Tryz.results61
@[go_sem] theorem aXJ:aA Tryz.prog 61=true:=by kernel_rfl
attribute [go_sem] Tryz.ntmps62 Tryz.results62
@[go_sem] theorem aXK:aA Tryz.prog 62=true:=by kernel_rfl
attribute [go_sem] Tryz.ntmps63 Tryz.results63
@[go_sem] theorem eG:aA Tryz.prog 63=true:=by kernel_rfl
attribute [go_sem] Tryz.ntmps64 Tryz.results64
@[go_sem] theorem rT:aA Tryz.prog 64=true:=by kernel_rfl
attribute [go_sem] Tryz.ntmps65 Tryz.results65
@[go_sem] theorem bR:aA Tryz.prog 65=true:=by kernel_rfl
attribute [go_sem] Tryz.ntmps66 Tryz.results66
@[go_sem] theorem nI:aA Tryz.prog 66=true:=by kernel_rfl
attribute [go_sem] Tryz.ntmps67 Tryz.results67
@[go_sem] theorem aXL:aA Tryz.prog 67=true:=by kernel_rfl
attribute [go_sem] Tryz.ntmps68 Tryz.results68
@[go_sem] theorem aXM:aA Tryz.prog 68=true:=by kernel_rfl
attribute [go_sem] Tryz.ntmps69 Tryz.results69
@[go_sem] theorem aXN:aA Tryz.prog 69=true:=by kernel_rfl
attribute [go_sem] Tryz.ntmps70 Tryz.results70
@[go_sem] theorem aXO:aA Tryz.prog 70=true:=by kernel_rfl
attribute [go_sem] Tryz.ntmps71 Tryz.results71
@[go_sem] theorem aXP:aA Tryz.prog 71=true:=by kernel_rfl
attribute [go_sem] Tryz.ntmps72 Tryz.results72
@[go_sem] theorem aXQ:aA Tryz.prog 72=true:=by kernel_rfl
attribute [go_sem] Tryz.ntmps73 Tryz.results73
@[go_sem] theorem aXR:aA Tryz.prog 73=true:=by kernel_rfl
attribute [go_sem] Tryz.ntmps74 Tryz.results74
@[go_sem] theorem aXS:aA Tryz.prog 74=true:=by kernel_rfl
attribute [go_sem] Tryz.ntmps75 Tryz.results75
@[go_sem] theorem aXT:aA Tryz.prog 75=true:=by kernel_rfl
attribute [go_sem] Tryz.ntmps76 Tryz.results76
@[go_sem] theorem aXU:aA Tryz.prog 76=true:=by kernel_rfl
attribute [go_sem] Tryz.ntmps77 Tryz.results77
@[go_sem] theorem aXV:aA Tryz.prog 77=true:=by kernel_rfl
attribute [go_sem] Tryz.ntmps78 Tryz.results78
@[go_sem] theorem aXW:aA Tryz.prog 78=true:=by kernel_rfl
attribute [go_sem] Tryz.ntmps79 Tryz.results79
@[go_sem] theorem xY:aA Tryz.prog 79=true:=by kernel_rfl
attribute [go_sem] Tryz.ntmps80 Tryz.results80
@[go_sem] theorem aXX:aA Tryz.prog 80=true:=by kernel_rfl
attribute [go_sem] Tryz.ntmps81 Tryz.results81
@[go_sem] theorem aXY:aA Tryz.prog 81=true:=by kernel_rfl
attribute [go_sem] Tryz.ntmps82 Tryz.results82
@[go_sem] theorem bK:aA Tryz.prog 82=true:=by kernel_rfl
attribute [go_sem] Tryz.ntmps83 Tryz.results83
@[go_sem] theorem rU:aA Tryz.prog 83=true:=by kernel_rfl
attribute [go_sem] Tryz.ntmps84 Tryz.results84
@[go_sem] theorem gT:aA Tryz.prog 84=true:=by kernel_rfl
attribute [go_sem] Tryz.ntmps85 Tryz.results85
@[go_sem] theorem aXZ:aA Tryz.prog 85=true:=by kernel_rfl
attribute [go_sem] Tryz.ntmps86 Tryz.results86
@[go_sem] theorem aX0:aA Tryz.prog 86=true:=by kernel_rfl
attribute [go_sem] Tryz.ntmps87 Tryz.results87
@[go_sem] theorem aX1:aA Tryz.prog 87=true:=by kernel_rfl
attribute [go_sem] Tryz.ntmps88 Tryz.results88
@[go_sem] theorem aX2:aA Tryz.prog 88=true:=by kernel_rfl
attribute [go_sem] Tryz.ntmps89 Tryz.results89
@[go_sem] theorem aX3:aA Tryz.prog 89=true:=by kernel_rfl
attribute [go_sem] Tryz.ntmps90 Tryz.results90
@[go_sem] theorem aX4:aA Tryz.prog 90=true:=by kernel_rfl
attribute [go_sem] Tryz.ntmps91 Tryz.results91
@[go_sem] theorem aX5:aA Tryz.prog 91=true:=by kernel_rfl
attribute [go_sem] Tryz.ntmps92 Tryz.results92
@[go_sem] theorem aX6:aA Tryz.prog 92=true:=by kernel_rfl
attribute [go_sem] Tryz.ntmps93 Tryz.results93
@[go_sem] theorem aX7:aA Tryz.prog 93=true:=by kernel_rfl
attribute [go_sem] Tryz.ntmps94 Tryz.results94
@[go_sem] theorem aX8:aA Tryz.prog 94=true:=by kernel_rfl
attribute [go_sem] Tryz.ntmps95 Tryz.results95
@[go_sem] theorem aX9:aA Tryz.prog 95=true:=by kernel_rfl
attribute [go_sem] Tryz.ntmps96 Tryz.results96
@[go_sem] theorem aYa:aA Tryz.prog 96=true:=by kernel_rfl
attribute [go_sem] Tryz.ntmps97 Tryz.results97
@[go_sem] theorem aYb:aA Tryz.prog 97=true:=by kernel_rfl
attribute [go_sem] Tryz.ntmps98 Tryz.results98
@[go_sem] theorem aYc:aA Tryz.prog 98=true:=by kernel_rfl
attribute [go_sem] Tryz.ntmps99 Tryz.results99
@[go_sem] theorem aYd:aA Tryz.prog 99=true:=by kernel_rfl
attribute [go_sem] Tryz.ntmps100 Tryz.results100
@[go_sem] theorem lO:aA Tryz.prog 100=true:=by kernel_rfl
attribute [go_sem] Tryz.ntmps101 Tryz.results101
@[go_sem] theorem dE:aA Tryz.prog 101=true:=by kernel_rfl
attribute [go_sem] Tryz.ntmps102 Tryz.results102
@[go_sem] theorem oN:aA Tryz.prog 102=true:=by kernel_rfl
attribute [go_sem] Tryz.ntmps103 Tryz.results103
@[go_sem] theorem bY:aA Tryz.prog 103=true:=by kernel_rfl
attribute [go_sem] Tryz.ntmps104 Tryz.results104
@[go_sem] theorem eM:aA Tryz.prog 104=true:=by kernel_rfl
attribute [go_sem] Tryz.ntmps105 Tryz.results105
@[go_sem] theorem aPG:aA Tryz.prog 105=true:=by kernel_rfl
attribute [go_sem] Tryz.ntmps106 Tryz.results106
@[go_sem] theorem aPH:aA Tryz.prog 106=true:=by kernel_rfl
attribute [go_sem] Tryz.ntmps107 Tryz.results107
@[go_sem] theorem aPI:aA Tryz.prog 107=true:=by kernel_rfl
attribute [go_sem] Tryz.ntmps108 Tryz.results108
@[go_sem] theorem aPJ:aA Tryz.prog 108=true:=by kernel_rfl
attribute [go_sem] Tryz.ntmps109 Tryz.results109
@[go_sem] theorem aPK:aA Tryz.prog 109=true:=by kernel_rfl
attribute [go_sem] Tryz.ntmps110 Tryz.results110
@[go_sem] theorem aPL:aA Tryz.prog 110=true:=by kernel_rfl
attribute [go_sem] Tryz.ntmps111 Tryz.results111
@[go_sem] theorem aPM:aA Tryz.prog 111=true:=by kernel_rfl
attribute [go_sem] Tryz.ntmps112 Tryz.results112
@[go_sem] theorem aPN:aA Tryz.prog 112=true:=by kernel_rfl
attribute [go_sem] Tryz.ntmps113 Tryz.results113
@[go_sem] theorem lP:aA Tryz.prog 113=true:=by kernel_rfl
attribute [go_sem] Tryz.ntmps114 Tryz.results114
@[go_sem] theorem aPO:aA Tryz.prog 114=true:=by kernel_rfl
attribute [go_sem] Tryz.ntmps115 Tryz.results115
@[go_sem] theorem aPP:aA Tryz.prog 115=true:=by kernel_rfl
attribute [go_sem] Tryz.ntmps116 Tryz.results116
@[go_sem] theorem aBU:aA Tryz.prog 116=true:=by kernel_rfl
attribute [go_sem] Tryz.ntmps117 Tryz.results117
@[go_sem] theorem uX:aA Tryz.prog 117=true:=by kernel_rfl
attribute [go_sem] Tryz.ntmps118 Tryz.results118
@[go_sem] theorem eN:aA Tryz.prog 118=true:=by kernel_rfl
attribute [go_sem] Tryz.ntmps119 Tryz.results119
@[go_sem] theorem aPQ:aA Tryz.prog 119=true:=by kernel_rfl
attribute [go_sem] Tryz.ntmps120 Tryz.results120
@[go_sem] theorem iJ:aA Tryz.prog 120=true:=by kernel_rfl
attribute [go_sem] Tryz.ntmps121 Tryz.results121
@[go_sem] theorem aPR:aA Tryz.prog 121=true:=by kernel_rfl
attribute [go_sem] Tryz.ntmps122 Tryz.results122
@[go_sem] theorem aPS:aA Tryz.prog 122=true:=by kernel_rfl
attribute [go_sem] Tryz.ntmps123 Tryz.results123
@[go_sem] theorem lQ:aA Tryz.prog 123=true:=by kernel_rfl
attribute [go_sem] Tryz.ntmps124 Tryz.results124
@[go_sem] theorem aPT:aA Tryz.prog 124=true:=by kernel_rfl
attribute [go_sem] Tryz.ntmps125 Tryz.results125
@[go_sem] theorem aPU:aA Tryz.prog 125=true:=by kernel_rfl
attribute [go_sem] Tryz.ntmps126 Tryz.results126
@[go_sem] theorem oO:aA Tryz.prog 126=true:=by kernel_rfl
attribute [go_sem] Tryz.ntmps127 Tryz.results127
@[go_sem] theorem aPV:aA Tryz.prog 127=true:=by kernel_rfl
attribute [go_sem] Tryz.ntmps128 Tryz.results128
@[go_sem] theorem gG:aA Tryz.prog 128=true:=by kernel_rfl
attribute [go_sem] Tryz.ntmps129 Tryz.results129
@[go_sem] theorem uY:aA Tryz.prog 129=true:=by kernel_rfl
attribute [go_sem] Tryz.ntmps130 Tryz.results130
@[go_sem] theorem uZ:aA Tryz.prog 130=true:=by kernel_rfl
attribute [go_sem] Tryz.ntmps131 Tryz.results131
@[go_sem] theorem vA:aA Tryz.prog 131=true:=by kernel_rfl
attribute [go_sem] Tryz.ntmps132 Tryz.results132
@[go_sem] theorem iK:aA Tryz.prog 132=true:=by kernel_rfl
attribute [go_sem] Tryz.ntmps133 Tryz.results133
@[go_sem] theorem iL:aA Tryz.prog 133=true:=by kernel_rfl
attribute [go_sem] Tryz.ntmps134 Tryz.results134
@[go_sem] theorem aBV:aA Tryz.prog 134=true:=by kernel_rfl
attribute [go_sem] Tryz.ntmps135 Tryz.results135
@[go_sem] theorem aBW:aA Tryz.prog 135=true:=by kernel_rfl
attribute [go_sem] Tryz.ntmps136 Tryz.results136
@[go_sem] theorem eO:aA Tryz.prog 136=true:=by kernel_rfl
attribute [go_sem] Tryz.ntmps137 Tryz.results137
@[go_sem] theorem aPW:aA Tryz.prog 137=true:=by kernel_rfl
attribute [go_sem] Tryz.ntmps138 Tryz.results138
@[go_sem] theorem aPX:aA Tryz.prog 138=true:=by kernel_rfl
attribute [go_sem] Tryz.ntmps139 Tryz.results139
@[go_sem] theorem aPY:aA Tryz.prog 139=true:=by kernel_rfl
attribute [go_sem] Tryz.ntmps140 Tryz.results140
@[go_sem] theorem aPZ:aA Tryz.prog 140=true:=by kernel_rfl
attribute [go_sem] Tryz.ntmps141 Tryz.results141
@[go_sem] theorem oP:aA Tryz.prog 141=true:=by kernel_rfl
attribute [go_sem] Tryz.ntmps142 Tryz.results142
@[go_sem] theorem aP0:aA Tryz.prog 142=true:=by kernel_rfl
attribute [go_sem] Tryz.ntmps143 Tryz.results143
@[go_sem] theorem aBX:aA Tryz.prog 143=true:=by kernel_rfl
attribute [go_sem] Tryz.ntmps144 Tryz.results144
@[go_sem] theorem aBY:aA Tryz.prog 144=true:=by kernel_rfl
attribute [go_sem] Tryz.ntmps145 Tryz.results145
@[go_sem] theorem aP1:aA Tryz.prog 145=true:=by kernel_rfl
attribute [go_sem] Tryz.ntmps146 Tryz.results146
@[go_sem] theorem aP2:aA Tryz.prog 146=true:=by kernel_rfl
attribute [go_sem] Tryz.ntmps147 Tryz.results147
@[go_sem] theorem aP3:aA Tryz.prog 147=true:=by kernel_rfl
attribute [go_sem] Tryz.ntmps148 Tryz.results148
@[go_sem] theorem aP4:aA Tryz.prog 148=true:=by kernel_rfl
attribute [go_sem] Tryz.ntmps149 Tryz.results149
@[go_sem] theorem aP5:aA Tryz.prog 149=true:=by kernel_rfl
attribute [go_sem] Tryz.ntmps150 Tryz.results150
@[go_sem] theorem aP6:aA Tryz.prog 150=true:=by kernel_rfl
attribute [go_sem] Tryz.ntmps151 Tryz.results151
@[go_sem] theorem aP7:aA Tryz.prog 151=true:=by kernel_rfl
attribute [go_sem] Tryz.ntmps152 Tryz.results152
@[go_sem] theorem aP8:aA Tryz.prog 152=true:=by kernel_rfl
attribute [go_sem] Tryz.ntmps153 Tryz.results153
@[go_sem] theorem aP9:aA Tryz.prog 153=true:=by kernel_rfl
attribute [go_sem] Tryz.ntmps154 Tryz.results154
@[go_sem] theorem aQa:aA Tryz.prog 154=true:=by kernel_rfl
attribute [go_sem] Tryz.ntmps155 Tryz.results155
@[go_sem] theorem aQb:aA Tryz.prog 155=true:=by kernel_rfl
attribute [go_sem] Tryz.ntmps156 Tryz.results156
@[go_sem] theorem aQc:aA Tryz.prog 156=true:=by kernel_rfl
attribute [go_sem] Tryz.ntmps157 Tryz.results157
@[go_sem] theorem aBZ:aA Tryz.prog 157=true:=by kernel_rfl
attribute [go_sem] Tryz.ntmps158 Tryz.results158
@[go_sem] theorem oQ:aA Tryz.prog 158=true:=by kernel_rfl
attribute [go_sem] Tryz.ntmps159 Tryz.results159
@[go_sem] theorem vB:aA Tryz.prog 159=true:=by kernel_rfl
attribute [go_sem] Tryz.ntmps160 Tryz.results160
@[go_sem] theorem vC:aA Tryz.prog 160=true:=by kernel_rfl
attribute [go_sem] Tryz.ntmps161 Tryz.results161
@[go_sem] theorem aQd:aA Tryz.prog 161=true:=by kernel_rfl
attribute [go_sem] Tryz.ntmps162 Tryz.results162
@[go_sem] theorem aQe:aA Tryz.prog 162=true:=by kernel_rfl
attribute [go_sem] Tryz.ntmps163 Tryz.results163
@[go_sem] theorem aQf:aA Tryz.prog 163=true:=by kernel_rfl
attribute [go_sem] Tryz.ntmps164 Tryz.results164
@[go_sem] theorem cI:aA Tryz.prog 164=true:=by kernel_rfl
attribute [go_sem] Tryz.ntmps165 Tryz.results165
@[go_sem] theorem aB0:aA Tryz.prog 165=true:=by kernel_rfl
attribute [go_sem] Tryz.ntmps166 Tryz.results166
@[go_sem] theorem aQg:aA Tryz.prog 166=true:=by kernel_rfl
attribute [go_sem] Tryz.ntmps167 Tryz.results167
@[go_sem] theorem aB1:aA Tryz.prog 167=true:=by kernel_rfl
attribute [go_sem] Tryz.ntmps168 Tryz.results168
@[go_sem] theorem aB2:aA Tryz.prog 168=true:=by kernel_rfl
attribute [go_sem] Tryz.ntmps169 Tryz.results169
@[go_sem] theorem vD:aA Tryz.prog 169=true:=by kernel_rfl
attribute [go_sem] Tryz.ntmps170 Tryz.results170
@[go_sem] theorem lR:aA Tryz.prog 170=true:=by kernel_rfl
attribute [go_sem] Tryz.ntmps171 Tryz.results171
@[go_sem] theorem vE:aA Tryz.prog 171=true:=by kernel_rfl
attribute [go_sem] Tryz.ntmps172 Tryz.results172
@[go_sem] theorem vF:aA Tryz.prog 172=true:=by kernel_rfl
attribute [go_sem] Tryz.ntmps173 Tryz.results173
@[go_sem] theorem dY:aA Tryz.prog 173=true:=by kernel_rfl
attribute [go_sem] Tryz.ntmps174 Tryz.results174
@[go_sem] theorem bZ:aA Tryz.prog 174=true:=by kernel_rfl
attribute [go_sem] Tryz.ntmps175 Tryz.results175
@[go_sem] theorem oR:aA Tryz.prog 175=true:=by kernel_rfl
attribute [go_sem] Tryz.ntmps176 Tryz.results176
@[go_sem] theorem eP:aA Tryz.prog 176=true:=by kernel_rfl
attribute [go_sem] Tryz.ntmps177 Tryz.results177
@[go_sem] theorem aQh:aA Tryz.prog 177=true:=by kernel_rfl
attribute [go_sem] Tryz.ntmps178 Tryz.results178
@[go_sem] theorem oS:aA Tryz.prog 178=true:=by kernel_rfl
attribute [go_sem] Tryz.ntmps179 Tryz.results179
@[go_sem] theorem aB3:aA Tryz.prog 179=true:=by kernel_rfl
attribute [go_sem] Tryz.ntmps180 Tryz.results180
@[go_sem] theorem aQi:aA Tryz.prog 180=true:=by kernel_rfl
attribute [go_sem] Tryz.ntmps181 Tryz.results181
@[go_sem] theorem aQj:aA Tryz.prog 181=true:=by kernel_rfl
attribute [go_sem] Tryz.ntmps182 Tryz.results182
@[go_sem] theorem aQk:aA Tryz.prog 182=true:=by kernel_rfl
attribute [go_sem] Tryz.ntmps183 Tryz.results183
@[go_sem] theorem aQl:aA Tryz.prog 183=true:=by kernel_rfl
attribute [go_sem] Tryz.ntmps184 Tryz.results184
@[go_sem] theorem aQm:aA Tryz.prog 184=true:=by kernel_rfl
attribute [go_sem] Tryz.ntmps185 Tryz.results185
@[go_sem] theorem aQn:aA Tryz.prog 185=true:=by kernel_rfl
attribute [go_sem] Tryz.ntmps186 Tryz.results186
@[go_sem] theorem aQo:aA Tryz.prog 186=true:=by kernel_rfl
attribute [go_sem] Tryz.ntmps187 Tryz.results187
@[go_sem] theorem aQp:aA Tryz.prog 187=true:=by kernel_rfl
attribute [go_sem] Tryz.ntmps188 Tryz.results188
@[go_sem] theorem jS:aA Tryz.prog 188=true:=by kernel_rfl
attribute [go_sem] Tryz.ntmps189 Tryz.results189
@[go_sem] theorem dQ:aA Tryz.prog 189=true:=by kernel_rfl
attribute [go_sem] Tryz.ntmps190 Tryz.results190
@[go_sem] theorem eQ:aA Tryz.prog 190=true:=by kernel_rfl
attribute [go_sem] Tryz.ntmps191 Tryz.results191
@[go_sem] theorem aQq:aA Tryz.prog 191=true:=by kernel_rfl
attribute [go_sem] Tryz.ntmps192 Tryz.results192
@[go_sem] theorem aQr:aA Tryz.prog 192=true:=by kernel_rfl
attribute [go_sem] Tryz.ntmps193 Tryz.results193
@[go_sem] theorem aQs:aA Tryz.prog 193=true:=by kernel_rfl
attribute [go_sem] Tryz.ntmps194 Tryz.results194
@[go_sem] theorem oT:aA Tryz.prog 194=true:=by kernel_rfl
attribute [go_sem] Tryz.ntmps195 Tryz.results195
@[go_sem] theorem aB4:aA Tryz.prog 195=true:=by kernel_rfl
attribute [go_sem] Tryz.ntmps196 Tryz.results196
@[go_sem] theorem oU:aA Tryz.prog 196=true:=by kernel_rfl
attribute [go_sem] Tryz.ntmps197 Tryz.results197
@[go_sem] theorem aB5:aA Tryz.prog 197=true:=by kernel_rfl
attribute [go_sem] Tryz.ntmps198 Tryz.results198
@[go_sem] theorem oV:aA Tryz.prog 198=true:=by kernel_rfl
attribute [go_sem] Tryz.ntmps199 Tryz.results199
@[go_sem] theorem vG:aA Tryz.prog 199=true:=by kernel_rfl
attribute [go_sem] Tryz.ntmps200 Tryz.results200
@[go_sem] theorem vH:aA Tryz.prog 200=true:=by kernel_rfl
attribute [go_sem] Tryz.ntmps201 Tryz.results201
@[go_sem] theorem fF:aA Tryz.prog 201=true:=by kernel_rfl
attribute [go_sem] Tryz.ntmps202 Tryz.results202
@[go_sem] theorem oW:aA Tryz.prog 202=true:=by kernel_rfl
attribute [go_sem] Tryz.ntmps203 Tryz.results203
@[go_sem] theorem aB6:aA Tryz.prog 203=true:=by kernel_rfl
attribute [go_sem] Tryz.ntmps204 Tryz.results204
@[go_sem] theorem jT:aA Tryz.prog 204=true:=by kernel_rfl
attribute [go_sem] Tryz.ntmps205 Tryz.results205
@[go_sem] theorem aQt:aA Tryz.prog 205=true:=by kernel_rfl
attribute [go_sem] Tryz.ntmps206 Tryz.results206
@[go_sem] theorem aQu:aA Tryz.prog 206=true:=by kernel_rfl
attribute [go_sem] Tryz.ntmps207 Tryz.results207
@[go_sem] theorem oX:aA Tryz.prog 207=true:=by kernel_rfl
attribute [go_sem] Tryz.ntmps208 Tryz.results208
@[go_sem] theorem aQv:aA Tryz.prog 208=true:=by kernel_rfl
attribute [go_sem] Tryz.ntmps209 Tryz.results209
@[go_sem] theorem aQw:aA Tryz.prog 209=true:=by kernel_rfl
attribute [go_sem] Tryz.ntmps210 Tryz.results210
@[go_sem] theorem aQx:aA Tryz.prog 210=true:=by kernel_rfl
attribute [go_sem] Tryz.ntmps211 Tryz.results211
@[go_sem] theorem aQy:aA Tryz.prog 211=true:=by kernel_rfl
attribute [go_sem] Tryz.ntmps212 Tryz.results212
@[go_sem] theorem aQz:aA Tryz.prog 212=true:=by kernel_rfl
attribute [go_sem] Tryz.ntmps213 Tryz.results213
@[go_sem] theorem aQA:aA Tryz.prog 213=true:=by kernel_rfl
attribute [go_sem] Tryz.ntmps214 Tryz.results214
@[go_sem] theorem aQB:aA Tryz.prog 214=true:=by kernel_rfl
attribute [go_sem] Tryz.ntmps215 Tryz.results215
@[go_sem] theorem oY:aA Tryz.prog 215=true:=by kernel_rfl
attribute [go_sem] Tryz.ntmps216 Tryz.results216
@[go_sem] theorem vI:aA Tryz.prog 216=true:=by kernel_rfl
attribute [go_sem] Tryz.ntmps217 Tryz.results217
@[go_sem] theorem aB7:aA Tryz.prog 217=true:=by kernel_rfl
attribute [go_sem] Tryz.ntmps218 Tryz.results218
@[go_sem] theorem aB8:aA Tryz.prog 218=true:=by kernel_rfl
attribute [go_sem] Tryz.ntmps219 Tryz.results219
@[go_sem] theorem aB9:aA Tryz.prog 219=true:=by kernel_rfl
attribute [go_sem] Tryz.ntmps220 Tryz.results220
@[go_sem] theorem aCa:aA Tryz.prog 220=true:=by kernel_rfl
attribute [go_sem] Tryz.ntmps221 Tryz.results221
@[go_sem] theorem aCb:aA Tryz.prog 221=true:=by kernel_rfl
attribute [go_sem] Tryz.ntmps222 Tryz.results222
@[go_sem] theorem aCc:aA Tryz.prog 222=true:=by kernel_rfl
attribute [go_sem] Tryz.ntmps223 Tryz.results223
@[go_sem] theorem aCd:aA Tryz.prog 223=true:=by kernel_rfl
attribute [go_sem] Tryz.ntmps224 Tryz.results224
@[go_sem] theorem aQC:aA Tryz.prog 224=true:=by kernel_rfl
attribute [go_sem] Tryz.ntmps225 Tryz.results225
@[go_sem] theorem aCe:aA Tryz.prog 225=true:=by kernel_rfl
attribute [go_sem] Tryz.ntmps226 Tryz.results226
@[go_sem] theorem oZ:aA Tryz.prog 226=true:=by kernel_rfl
attribute [go_sem] Tryz.ntmps227 Tryz.results227
@[go_sem] theorem pA:aA Tryz.prog 227=true:=by kernel_rfl
attribute [go_sem] Tryz.ntmps228 Tryz.results228
@[go_sem] theorem iM:aA Tryz.prog 228=true:=by kernel_rfl
attribute [go_sem] Tryz.ntmps229 Tryz.results229
@[go_sem] theorem aQD:aA Tryz.prog 229=true:=by kernel_rfl
attribute [go_sem] Tryz.ntmps230 Tryz.results230
@[go_sem] theorem aCf:aA Tryz.prog 230=true:=by kernel_rfl
attribute [go_sem] Tryz.ntmps231 Tryz.results231
@[go_sem] theorem aCg:aA Tryz.prog 231=true:=by kernel_rfl
attribute [go_sem] Tryz.ntmps232 Tryz.results232
@[go_sem] theorem iN:aA Tryz.prog 232=true:=by kernel_rfl
attribute [go_sem] Tryz.ntmps233 Tryz.results233
@[go_sem] theorem aCh:aA Tryz.prog 233=true:=by kernel_rfl
attribute [go_sem] Tryz.ntmps234 Tryz.results234
@[go_sem] theorem aQE:aA Tryz.prog 234=true:=by kernel_rfl
attribute [go_sem] Tryz.ntmps235 Tryz.results235
@[go_sem] theorem aQF:aA Tryz.prog 235=true:=by kernel_rfl
attribute [go_sem] Tryz.ntmps236 Tryz.results236
@[go_sem] theorem aQG:aA Tryz.prog 236=true:=by kernel_rfl
attribute [go_sem] Tryz.ntmps237 Tryz.results237
@[go_sem] theorem aQH:aA Tryz.prog 237=true:=by kernel_rfl
attribute [go_sem] Tryz.ntmps238 Tryz.results238
@[go_sem] theorem vJ:aA Tryz.prog 238=true:=by kernel_rfl
attribute [go_sem] Tryz.ntmps239 Tryz.results239
@[go_sem] theorem aCi:aA Tryz.prog 239=true:=by kernel_rfl
attribute [go_sem] Tryz.ntmps240 Tryz.results240
@[go_sem] theorem aCj:aA Tryz.prog 240=true:=by kernel_rfl
attribute [go_sem] Tryz.ntmps241 Tryz.results241
@[go_sem] theorem pB:aA Tryz.prog 241=true:=by kernel_rfl
attribute [go_sem] Tryz.ntmps242 Tryz.results242
@[go_sem] theorem pC:aA Tryz.prog 242=true:=by kernel_rfl
attribute [go_sem] Tryz.ntmps243 Tryz.results243
@[go_sem] theorem aQI:aA Tryz.prog 243=true:=by kernel_rfl
attribute [go_sem] Tryz.ntmps244 Tryz.results244
@[go_sem] theorem aQJ:aA Tryz.prog 244=true:=by kernel_rfl
attribute [go_sem] Tryz.ntmps246 Tryz.results246
@[go_sem] theorem pD:aA Tryz.prog 246=true:=by kernel_rfl
attribute [go_sem] Tryz.ntmps247 Tryz.results247
@[go_sem] theorem pE:aA Tryz.prog 247=true:=by kernel_rfl
attribute [go_sem] Tryz.ntmps248 Tryz.results248
@[go_sem] theorem pF:aA Tryz.prog 248=true:=by kernel_rfl
attribute [go_sem] Tryz.ntmps249 Tryz.results249
@[go_sem] theorem aQK:aA Tryz.prog 249=true:=by kernel_rfl
attribute [go_sem] Tryz.ntmps250 Tryz.results250
@[go_sem] theorem pG:aA Tryz.prog 250=true:=by kernel_rfl
attribute [go_sem] Tryz.ntmps252 Tryz.results252
@[go_sem] theorem aQL:aA Tryz.prog 252=true:=by kernel_rfl
attribute [go_sem] Tryz.ntmps253 Tryz.results253
@[go_sem] theorem aQM:aA Tryz.prog 253=true:=by kernel_rfl
attribute [go_sem] Tryz.ntmps255 Tryz.results255
@[go_sem] theorem aQN:aA Tryz.prog 255=true:=by kernel_rfl
attribute [go_sem] Tryz.ntmps271 Tryz.results271
@[go_sem] theorem pH:aA Tryz.prog 271=true:=by kernel_rfl
attribute [go_sem] Tryz.ntmps273 Tryz.results273
@[go_sem] theorem pI:aA Tryz.prog 273=true:=by kernel_rfl
attribute [go_sem] Tryz.ntmps280 Tryz.results280
@[go_sem] theorem aQO:aA Tryz.prog 280=true:=by kernel_rfl
end Go.Proofs.YthhdnjiodklmmaaGreatDoor
/- The abstract machine: what a row hands in, ars abstract values; and a function that leaves the heap alone, ars a step of a row. No condition. -/
namespace Go.Aw
open Go Go.ChangeShapes Go.WideShapes Go.ChangeAt Go.RowKit
variable {P:Program}
def eY(P:Program)(t:TypeId):Bool:=
 match P.underlying t with
 |some (.struct _)|some (.array _ _)=>true
 |_=>false
def mkA(P:Program)(t:TypeId)(ys:List AV):AV:=if eY P t=true then .agg ys else ys.headD .top
def aJG(P:Program):Nat→List Field→Bool
 |_,[]=>true
 |off,f::fs=>(f.offset==off)&&aJG P (off+P.cellsOf f.type) fs
def jU(P:Program):Nat→List Field→Nat
 |off,[]=>off
 |off,f::fs=>jU P (off+P.cellsOf f.type) fs
def kindB(P:Program)(t:TypeId):Bool:=
 match P.underlying t with
 |some .bool|some (.int _)|some .string=>true
 |some (.slice e)=>(P.cellsOf e !=0)&&(eY P e||(P.cellsOf e==1))
 |some (.struct fs)=>aJG P 0 fs.toList&&(jU P 0 fs.toList==P.cellsOf t)
 |_=>false
mutual
inductive Sh (P:Program):TypeId→List AV→Prop
 |bool (t:TypeId) (b:Bool) (h:P.underlying t=some .bool):Sh P t [.bool b]
 |int (t:TypeId) (k:IntKind) (n:Int) (h:P.underlying t=some (.int k)) (hw:(Lit.int k n).wf=true):Sh P t [.int k n]
 |str (t:TypeId) (s:List UInt8) (h:P.underlying t=some .string) (hl:s.length≤maxLen):Sh P t [.str s]
 |slice (t e:TypeId) (zs:List (List AV)) (h:P.underlying t=some (.slice e)) (hl:zs.length≤maxLen) (hz:∀z∈zs,Sh P e z) (hc:∀z∈zs,z.length=P.cellsOf e):Sh P t [.sl false (zs.map (mkA P e))]
 |struct (t:TypeId) (fs:Array Field) (ys:List AV) (h:P.underlying t=some (.struct fs)) (hf:ShF P fs.toList ys):Sh P t ys
 |other (t:TypeId) (ys:List AV) (h:kindB P t=false) (hy:∀y∈ys,y=.top):Sh P t ys
inductive ShF (P:Program):List Field→List AV→Prop
 |nil:ShF P [] []
 |cons (f:Field) (fs:List Field) (z ys:List AV) (h:Sh P f.type z) (hs:ShF P fs ys):ShF P (f::fs) (z++ys)
end
theorem aCk{t:TypeId}{k:IntKind}{ys:List AV}(ht:P.underlying t=some (.int k))(h:Sh P t ys):∃n,ys=[.int k n]∧(Lit.int k n).wf=true:=by
 cases h with
 |bool _ _ h=>rw[ht]at h;cases h
 |int _ _ n h hw=>rw[ht]at h;cases h;exact⟨n,rfl,hw⟩
 |str _ _ h=>rw[ht]at h;cases h
 |slice _ _ _ h=>rw[ht]at h;cases h
 |struct _ _ _ h=>rw[ht]at h;cases h
 |other _ _ h _=>rw[kindB,ht]at h;cases h
theorem zH{t:TypeId}{ys:List AV}(ht:P.underlying t=some .string)(h:Sh P t ys):∃s,ys=[.str s]∧s.length≤maxLen:=by
 cases h with
 |bool _ _ h=>rw[ht]at h;cases h
 |int _ _ _ h=>rw[ht]at h;cases h
 |str _ s _ hl=>exact⟨s,rfl,hl⟩
 |slice _ _ _ h=>rw[ht]at h;cases h
 |struct _ _ _ h=>rw[ht]at h;cases h
 |other _ _ h _=>rw[kindB,ht]at h;cases h
theorem aFY{t e:TypeId}{ys:List AV}(ht:P.underlying t=some (.slice e))(hk:kindB P t=true)(h:Sh P t ys):
  ∃zs:List (List AV),ys=[.sl false (zs.map (mkA P e))]∧zs.length≤maxLen∧∀z∈zs,Sh P e z:=by
 cases h with
 |bool _ _ h=>rw[ht]at h;cases h
 |int _ _ _ h=>rw[ht]at h;cases h
 |str _ _ h=>rw[ht]at h;cases h
 |slice _ _ zs h hl hz=>rw[ht]at h;cases h;exact⟨zs,rfl,hl,hz⟩
 |struct _ _ _ h=>rw[ht]at h;cases h
 |other _ _ h _=>rw[hk]at h;cases h
theorem aD3{t:TypeId}{fs:Array Field}{ys:List AV}(ht:P.underlying t=some (.struct fs))(hk:kindB P t=true)(h:Sh P t ys):ShF P fs.toList ys:=by
 cases h with
 |bool _ _ h=>rw[ht]at h;cases h
 |int _ _ _ h=>rw[ht]at h;cases h
 |str _ _ h=>rw[ht]at h;cases h
 |slice _ _ _ h=>rw[ht]at h;cases h
 |struct _ _ _ h hf=>rw[ht]at h;cases h;exact hf
 |other _ _ h=>rw[hk]at h;cases h
theorem aJH{ys:List AV}(h:ShF P [] ys):ys=[]:=by cases h;rfl
theorem mV{f:Field}{fs:List Field}{ys:List AV}(h:ShF P (f::fs) ys):∃z zs,ys=z++zs∧Sh P f.type z∧ShF P fs zs:=by
 cases h with
 |cons _ _ z zs h hs=>exact⟨z,zs,rfl,h,hs⟩
def nS(c:Ctx)(ys:List AV)(cs:List Value):Prop:=ys.length=cs.length∧∀(i:Nat) (y:AV) (v:Value),ys[i]?=some y→cs[i]?=some v→Rep c y v
theorem lD{c:Ctx}{y:AV}{v:Value}(h:Rep c y v):nS c [y] [v]:=by
 refine⟨rfl,fun i x u hx hu=>?_⟩
 cases i with
 |zero=>simp at hx hu;subst hx;subst hu;exact h
 |succ i=>simp at hx
theorem aFZ{c:Ctx}(cs:List Value):nS c (cs.map fun _=>.top) cs:=by
 refine⟨by simp,fun i x u hx _=>?_⟩
 rw[List.getElem?_map]at hx
 obtain⟨_,_,rfl⟩:=Option.map_eq_some_iff.1 hx
 exact .top _
theorem aAK{c:Ctx}{y z:List AV}{a b:List Value}(h:nS c y a)(k:nS c z b):nS c (y++z) (a++b):=by
 refine⟨by simp[h.1,k.1],fun i x u hx hu=>?_⟩
 by_cases hi:i<y.length
 ·rw[List.getElem?_append_left hi]at hx
  rw[List.getElem?_append_left (by rw[←h.1];exact hi)]at hu
  exact h.2 i x u hx hu
 ·rw[List.getElem?_append_right (by omega)]at hx
  rw[List.getElem?_append_right (by rw[←h.1];omega),←h.1]at hu
  exact k.2 _ x u hx hu
theorem aCl{w:World}{a:Addr}{v:Value}(h:w.cell? a=some v):a.block<w.heap.size:=by
 unfold World.cell? at h
 cases hb:w.heap[a.block]? with
 |none=>rw[hb]at h;simp at h
 |some o=>exact(Array.getElem?_eq_some_iff.1 hb).1
section
variable {H:Type} {enc:TypeId×Value→H} {W:World} {base:Nat} {sp:Nat→Bool} {held:Bool}
theorem aQP{k:IntKind}{n:Int}(h:(Lit.int k n).wf=true):inR k n:=by
 have h2:(decide (k.min≤n)&&decide (n≤k.max))=true:=h
 simpa[inR]using h2
inductive LeA (n:Nat):AV→Prop
 |int (k m):LeA n (.int k m)
 |bool (b):LeA n (.bool b)
 |str (s) (h:s.length≤n):LeA n (.str s)
 |agg (cs:List AV) (h:∀x∈cs,LeA n x):LeA n (.agg cs)
 |sl (f) (es:List AV) (hl:es.length≤n) (h:∀x∈es,LeA n x):LeA n (.sl f es)
 |top:LeA n .top
theorem LeA.mono{n m:Nat}{x:AV}(h:LeA n x)(hm:n≤m):LeA m x:=by
 induction h with
 |int=>exact .int _ _
 |bool=>exact .bool _
 |str s h=>exact .str s (Nat.le_trans h hm)
 |agg cs _ ih=>exact .agg cs ih
 |sl f es hl _ ih=>exact .sl f es (Nat.le_trans hl hm) ih
 |top=>exact .top
theorem LeA.mk{n:Nat}{P:Program}{t:TypeId}{ys:List AV}(h:∀y∈ys,LeA n y):LeA n (mkA P t ys):=by
 unfold mkA
 split
 ·exact .agg ys h
 ·cases ys with
  |nil=>exact .top
  |cons y ys=>exact h y (by simp)
mutual
def gU{H:Type}:DataW H→Nat
 |.lit (.string bytes)=>bytes.length+1
 |.lit _=>1
 |.nil=>1
 |.ptr d=>gU d+1
 |.slice elems spare=>hO elems+hO spare+1
 |.agg parts=>hO parts+1
 |.iface _ d=>gU d+1
 |.map entries=>qG entries+1
 |.held _=>1
def hO{H:Type}:List (DataW H)→Nat
 |[]=>0
 |d::r=>gU d+hO r
def qG{H:Type}:List (Lit×DataW H)→Nat
 |[]=>0
 |x::r=>aCm x+qG r
def aCm{H:Type}:Lit×DataW H→Nat
 |(.string bytes,d)=>bytes.length+gU d+1
 |(_,d)=>gU d+1
end
theorem aD4{H:Type}(d:DataW H):1≤gU d:=by
 cases d with
 |lit l=>cases l<;>simp[gU]
 |_=>simp[gU]
theorem aD5{H:Type}(l:List (DataW H)):l.length≤hO l:=by
 induction l with
 |nil=>simp[hO]
 |cons x r ih=>have:=aD4 x;simp only[hO,List.length_cons];omega
theorem xZ{H:Type}{d:DataW H}{l:List (DataW H)}(h:d∈l):gU d≤hO l:=by
 induction l with
 |nil=>cases h
 |cons x r ih=>
  simp only[hO]
  cases h with
  |head=>omega
  |tail _ h=>have:=ih h;omega
theorem aF0{c:Ctx}(hw:c.w=W)(hst:∀b,b<W.heap.size→c.stable b):∀(fuel:Nat) (t:TypeId) (cs:List Value) (x:DataW H×List MemPlace),DataW.trod enc P W base sp held fuel t cs=some x→
  ∃ys,Sh P t ys∧nS c ys cs∧∀y∈ys,LeA (gU x.1) y:=by
 intro fuel
 induction fuel with
 |zero=>intro t cs x h;simp[DataW.trod]at h
 |succ fuel ih=>
  intro t cs x h
  cases hk:kindB P t with
  |false=>exact⟨_,.other t _ hk (by simp),aFZ cs,fun y hy=>by simp at hy;rw[←hy.2];exact .top⟩
  |true=>
   have hk':=hk
   unfold kindB at hk
   split at hk
   ·rename_i hu
    obtain⟨b,rfl, -⟩:=DataW.trod_bool hu h
    exact⟨_,.bool t b hu,lD (.bool b),fun y hy=>by simp at hy;subst hy;exact .bool _⟩
   ·rename_i k hu
    obtain⟨n,rfl, -,hwf⟩:=DataW.trod_int hu h
    exact⟨_,.int t k n hu hwf,lD (.int k n (aQP hwf)),fun y hy=>by simp at hy;subst hy;exact .int _ _⟩
   ·rename_i hu
    obtain⟨s,rfl,hx,hl⟩:=DataW.trod_string hu h
    refine⟨_,.str t s.data.toList hu (by simpa using hl),lD ?_,fun y hy=>by simp at hy;subst hy;exact .str _ (by rw[hx];simp[gU])⟩
    have:=Rep.str (c:=c) s.data.toList (by simpa[maxLen]using hl)
    simpa using this
   ·rename_i e hu
    rw[Bool.and_eq_true]at hk
    have he:P.cellsOf e≠0:=by simpa using hk.1
    have he1:eY P e=true∨P.cellsOf e=1:=by simpa using hk.2
    rcases DataW.trod_slice hu h with⟨rfl, -⟩|⟨a,len,cap,elems,rest,n,hn,rfl,hx,hb,hl,hm,hlen,hel, -, -⟩
    ·refine⟨[.sl false (([]:List (List AV)).map (mkA P e))],.slice t e [] hu (Nat.zero_le _) (by simp) (by simp),lD ?_,fun y hy=>by simp at hy;subst hy;exact .sl _ _ (Nat.zero_le _) (by simp)⟩
     exact .sl false [] none 0 0 0 (fun _ _=>undef) rfl (Nat.le_refl _) (fun h=>by cases h) (fun h=>absurd rfl h) (by simp) (by simp) (by omega)
    ·obtain rfl:fuel=n:=by omega
     have each:∀i,i<len→∃(us:List Value) (ys:List AV),us.length=P.cellsOf e∧(∀j,j<P.cellsOf e→W.cell? (a.add (i * P.cellsOf e+j))=us[j]?)∧Sh P e ys∧nS c ys us∧∀y∈ys,LeA (gU x.1) y:=by
      intro i hi
      have h1:=hel i hi
      rw[List.getElem?_eq_getElem (by omega),Option.bind_eq_some_iff]at h1
      obtain⟨us,hus,htr⟩:=h1
      obtain⟨_,g2,g3⟩:=World.cells?_some hus
      obtain⟨ys,k1,k2,k3⟩:=ih e us _ htr
      refine⟨us,ys,g2,fun j hj=>?_,k1,k2,fun y hy=>(k3 y hy).mono ?_⟩
      case refine_2=>
       have:=xZ (List.mem_map_of_mem (f:=(·.1)) (List.getElem_mem (show i<elems.length by omega)))
       rw[hx];simp only[gU];omega
      rw[←g3 j hj,_root_.Go.Addr.add_add]
     let f:Nat→List AV:=fun i=>if hi:i<len then(each i hi).choose_spec.choose else[]
     let g:Nat→List Value:=fun i=>if hi:i<len then(each i hi).choose else[]
     have hfg:∀i,i<len→(g i).length=P.cellsOf e∧(∀j,j<P.cellsOf e→W.cell? (a.add (i * P.cellsOf e+j))=(g i)[j]?)∧Sh P e (f i)∧nS c (f i) (g i)∧∀y∈f i,LeA (gU x.1) y:=by
      intro i hi
      have:=(each i hi).choose_spec.choose_spec
      simp only[f,g,hi,dif_pos]
      exact this
     have hsize:∀i,i<len→(f i).length=P.cellsOf e:=fun i hi=>by
      obtain⟨q1,_,_,q4,_⟩:=hfg i hi
      rw[q4.1,q1]
     have hcells:∀i,i<len→(mkA P e (f i)).cells=f i:=by
      intro i hi
      unfold mkA
      by_cases ha:eY P e=true
      ·rw[if_pos ha];rfl
      ·rw[if_neg ha]
       have hs:=(hfg i hi).2.2.1
       have hno:∀fs,P.underlying e≠some (.struct fs):=fun fs q=>ha (by rw[eY,q])
       have hone:(f i).length=1:=(hsize i hi).trans (he1.resolve_left ha)
       generalize f i=z at hs hone ⊢
       cases hs with
       |bool=>rfl
       |int=>rfl
       |str=>rfl
       |slice=>rfl
       |struct _ fs _ q=>exact absurd q (hno fs)
       |other _ _ _ q=>
        match z,hone with
        |[y],_=>rw[q y (by simp)];rfl
     refine⟨[.sl false (((List.range len).map f).map (mkA P e))],.slice t e _ hu (by simp;omega) ?_ ?_,lD ?_,fun y hy=>?_⟩
     rotate_right
     ·simp at hy
      subst hy
      refine .sl _ _ ?_ fun z hz=>?_
      ·have:=aD5 (elems.map (·.1))
       rw[List.length_map]at this
       rw[hx];simp only[gU,List.length_map,List.length_range];omega
      ·simp only[List.map_map,List.mem_map,List.mem_range,Function.comp]at hz
       obtain⟨i,hi,rfl⟩:=hz
       exact .mk (hfg i hi).2.2.2.2
     ·intro z hz
      obtain⟨i,hi,rfl⟩:=List.mem_map.1 hz
      exact(hfg i (by simpa using hi)).2.2.1
     ·intro z hz
      obtain⟨i,hi,rfl⟩:=List.mem_map.1 hz
      exact hsize i (by simpa using hi)
     ·refine .sl false _ (some a) len cap (P.cellsOf e) (fun k j=>(g k).getD j undef) (by simp) hl (fun h=>by cases h) (fun hne=>?_) ?_ ?_ (by have:cap≤maxLen:=hm;simp only[maxLen]at this;omega)
      ·have hlen0:0<len:=by
        rcases Nat.eq_zero_or_pos len with h0|h0
        ·subst h0;simp at hne
        ·exact h0
       have hcell:∀k j,k<len→j<P.cellsOf e→W.cell? (a.add (k * P.cellsOf e+j))=some ((g k).getD j undef):=by
        intro k j hk hj
        obtain⟨q1,q2,_,_⟩:=hfg k hk
        rw[q2 j hj,List.getD_eq_getElem?_getD,List.getElem?_eq_getElem (by omega)];rfl
       have h00:=hcell 0 0 hlen0 (by omega)
       refine⟨a,rfl,?_,hst _ ?_,fun k j hk hj=>?_⟩
       ·have:=World.cell?_spot h00
        simpa[Addr.add]using this
       ·have:=aCl h00
        rwa[Addr.add_block]at this
       ·rw[hw];exact hcell k j (by simpa using hk) hj
      ·intro z hz
       simp only[List.map_map,List.mem_map,List.mem_range,Function.comp]at hz
       obtain⟨i,hi,rfl⟩:=hz
       rw[hcells i hi,hsize i hi]
      ·intro k z j y hz hy
       have hk:k<len:=by
        have:=(List.getElem?_eq_some_iff.1 hz).1
        simpa using this
       have:z=mkA P e (f k):=by
        simp only[List.map_map,List.getElem?_map,List.getElem?_range hk,Option.map_some,Function.comp,Option.some.injEq]at hz
        exact hz.symm
       subst this
       rw[hcells k hk]at hy
       obtain⟨q1,_,_,q4,_⟩:=hfg k hk
       have hj:=(List.getElem?_eq_some_iff.1 hy).1
       refine q4.2 j y _ hy ?_
       rw[List.getD_eq_getElem?_getD,List.getElem?_eq_getElem (by rw[←q4.1];exact hj)];rfl
   ·rename_i fs hu
    rw[Bool.and_eq_true,beq_iff_eq]at hk
    obtain⟨xs,n,hn,hx,hcl,hxl,hfs⟩:=DataW.trod_struct hu h
    obtain rfl:fuel=n:=by omega
    have each:∀f∈fs.toList,∃ys,Sh P f.type ys∧nS c ys ((cs.drop f.offset).take (P.cellsOf f.type))∧∀y∈ys,LeA (gU x.1) y:=by
     intro f hf
     obtain⟨i,hi⟩:=List.getElem?_of_mem hf
     have hi':fs[i]?=some f:=by simpa using hi
     have hlt:i<fs.size:=(Array.getElem?_eq_some_iff.1 hi').1
     have:=hfs i f hi'
     rw[List.getElem?_eq_getElem (by omega)]at this
     obtain⟨ys,k1,k2,k3⟩:=ih _ _ _ this
     refine⟨ys,k1,k2,fun y hy=>(k3 y hy).mono ?_⟩
     have:=xZ (List.mem_map_of_mem (f:=(·.1)) (List.getElem_mem (show i<xs.length by omega)))
     rw[hx];simp only[gU];omega
    have key:∀(l:List Field) (off:Nat),aJG P off l=true→jU P off l≤cs.length→(∀f∈l,∃ys,Sh P f.type ys∧nS c ys ((cs.drop f.offset).take (P.cellsOf f.type))∧∀y∈ys,LeA (gU x.1) y)→
      off≤jU P off l∧∃ys,ShF P l ys∧nS c ys ((cs.drop off).take (jU P off l-off))∧∀y∈ys,LeA (gU x.1) y:=by
     intro l
     induction l with
     |nil=>intro off _ _ _;exact⟨Nat.le_refl _,[],.nil,by simp[jU,nS],fun y hy=>by cases hy⟩
     |cons f l ihl=>
      intro off h1 h2 h3
      rw[aJG,Bool.and_eq_true,beq_iff_eq]at h1
      rw[jU]at h2 ⊢
      obtain⟨q0,ys,q1,q2,q3⟩:=ihl _ h1.2 h2 (fun g hg=>h3 g (by simp[hg]))
      obtain⟨z,r1,r2,r3⟩:=h3 f (by simp)
      refine⟨by omega,z++ys,.cons f l z ys r1 q1,?_,fun y hy=>(List.mem_append.1 hy).elim (r3 y) (q3 y)⟩
      have e:(cs.drop off).take (jU P (off+P.cellsOf f.type) l-off)=(cs.drop f.offset).take (P.cellsOf f.type)++(cs.drop (off+P.cellsOf f.type)).take (jU P (off+P.cellsOf f.type) l-(off+P.cellsOf f.type)):=by
       rw[h1.1,←List.drop_drop,show jU P (off+P.cellsOf f.type) l-off=P.cellsOf f.type+(jU P (off+P.cellsOf f.type) l-(off+P.cellsOf f.type))by omega,List.take_add]
      rw[e]
      exact aAK r2 q2
    obtain⟨_,ys,k1,k2,k3⟩:=key fs.toList 0 hk.1 (by omega) each
    refine⟨ys,.struct t fs ys hu k1,?_,k3⟩
    rw[List.drop_zero,Nat.sub_zero,hk.2,←hcl,List.take_length]at k2
    exact k2
   ·cases hk
def aD6(W:World):Ctx:={w:=W,n:=0,blk:=fun _=>0,ver:=fun _=>0,vd:=fun _=>false,stable:=fun b=>b<W.heap.size,base:=0}
theorem st0(W:World):St (aD6 W) []where
 n:=rfl
 lt:=fun i hi=>absurd hi (Nat.not_lt_zero i)
 inj:=fun i j b b' hi=>by simp at hi
 st:=fun k hk=>⟨hk,fun i b hi=>by simp at hi⟩
 rep:=fun i b hi=>by simp at hi
theorem aCn{r:Reach}{b0:Nat}{t:TypeId}{v:Value}(hk:kindB P t=true)(ha:eY P t=false)(hv:Value.okWide P W r b0 t v):v.cells= #[v]:=by
 unfold kindB at hk
 split at hk
 ·rename_i hu;obtain⟨b,rfl⟩:=okWide_bool hu hv;rfl
 ·rename_i k hu;obtain⟨n,rfl⟩:=okWide_int hu hv;rfl
 ·rename_i hu;obtain⟨s,rfl⟩:=okWide_string hu hv;rfl
 ·rename_i e hu;obtain⟨a,l,c,rfl⟩:=okWide_slice hu hv;rfl
 ·rename_i fs hu;rw[eY,hu]at ha;cases ha
 ·cases hk
theorem aF1{r:Reach}{b0:Nat}{t:TypeId}{v:Value}{d:DataW H}{p:List MemPlace}(hk:kindB P t=true)(hv:Value.okWide P W r b0 t v)(h:DataW.Trod enc P W base sp held t v d p):
  ∃x,(∃ys,x=mkA P t ys∧Sh P t ys∧(eY P t=true∨ys.length=1))∧Rep (aD6 W) x v∧LeA (gU d) x:=by
 obtain⟨fuel,hf⟩:=h
 obtain⟨ys,h1,h2,h3⟩:=aF0 (c:=aD6 W) rfl (fun b hb=>hb) fuel t _ _ hf
 cases ha:eY P t with
 |true=>
  refine⟨_,⟨ys,rfl,h1,.inl rfl⟩,?_,.mk h3⟩
  have:∃cs,v=.agg cs:=by
   unfold eY at ha
   unfold kindB at hk
   split at ha
   ·rename_i fs hu;obtain⟨cs,rfl, -⟩:=okWide_struct hu hv;exact⟨cs,rfl⟩
   ·rename_i n e hu;rw[hu]at hk;cases hk
   ·cases ha
  obtain⟨cs,rfl⟩:=this
  rw[mkA,if_pos ha]
  exact .agg ys cs (by simpa[Value.cells]using h2.1.symm)fun i y u hy hu=>h2.2 i y u hy (by simpa[Value.cells]using hu)
 |false=>
  have hc:=aCn hk ha hv
  rw[hc]at h2
  have hl:ys.length=1:=by simpa using h2.1
  refine⟨_,⟨ys,rfl,h1,.inr hl⟩,?_,.mk h3⟩
  match ys,hl with
  |[y],_=>
   rw[mkA,if_neg (by simp[ha])]
   exact h2.2 0 y v rfl rfl
theorem dA{r:Reach}{b0:Nat}{t:TypeId}{v:Value}{d:DataW H}{p:List MemPlace}(hk:kindB P t=true)(hv:Value.okWide P W r b0 t v)(h:DataW.Trod enc P W base sp held t v d p):
  ∃x,(∃ys,x=mkA P t ys∧Sh P t ys∧(eY P t=true∨ys.length=1))∧Rep (aD6 W) x v:=by
 obtain⟨x,h1,h2,_⟩:=aF1 hk hv h
 exact⟨x,h1,h2⟩
theorem gI{f:FuncId}{xs:List AV}{args:Array Value}(h:cN P f xs [] (.bool true))(ha:RepAll (aD6 W) xs args):Calls P f args W fun e W'=>e=.returned (.bool true)∧Below W.heap.size W W':=
 (h (aD6 W) args (st0 W) ha).mono fun e W' ⟨c',x,v,H',e1,e2,_,e4,e5,e6,_⟩=>by
  subst e6
  refine⟨by rw[e1,e5.bool_inv],?_⟩
  subst e2
  exact⟨e4.os,e4.tape,e4.output,e4.size,fun k hk=>(e4.st k hk).2⟩
theorem iO{c:Ctx}{xs:List AV}{vs:List Value}(h:nS c xs vs):RepAll c xs vs.toArray:=
 ⟨by simp[h.1],fun i x v hx hv=>h.2 i x v hx (by simpa using hv)⟩
theorem cB{c:Ctx}{x:AV}{v:Value}{xs:List AV}{vs:List Value}(h:Rep c x v)(hs:nS c xs vs):nS c (x::xs) (v::vs):=aAK (lD h) hs
theorem jV{c:Ctx}:nS c [] []:=⟨rfl,fun i x v hx=>by simp at hx⟩
end
end Go.Aw
/- What comes in with a row, ars abstract values: stamps, operations, nodes, what was changed, numbers, bools. No condition. -/
namespace Go.Proofs.YthhdnjiodklmmaaGreatDoor
set_option maxRecDepth 20000
open Go Go.Aw Go.Gw Go.ChangeShapes Go.WideShapes Go.ChangeAt Go.RowKit
theorem own:ownKnob Tryz.prog.godebug=none:=by kernel_rfl
theorem dB:laidOutB Tryz.prog=true:=by kernel_rfl
theorem bBW:eY Tryz.prog 5=false:=by kernel_rfl
theorem aF2{x:AV}(h:∃ys,x=mkA Tryz.prog 5 ys∧Sh Tryz.prog 5 ys∧(eY Tryz.prog 5=true∨ys.length=1)):∃n,x=.int .u8 n:=by
 obtain⟨ys,rfl,h,_⟩:=h
 obtain⟨n,rfl,hw⟩:=aCk Tryz.underlying5 h
 exact⟨n,by rw[mkA,if_neg (by rw[bBW];decide)];rfl⟩
end Go.Proofs.YthhdnjiodklmmaaGreatDoor
/- The abstract machine: ranges over functions: a round, from the body of the loop; the loop, from what the function does that is ranged over. No condition. -/
namespace Go.Aw
open Go
variable {P:Program}
def vK:List Nat→List AV→AF→AF
 |p::ps,v::vs,α=>vK ps vs ((p,v)::α)
 |_,_,α=>α
theorem yA{c:Ctx}{N:Nat}:∀(ps:List Nat) (us:List Value) (vs:List AV) (α:AF) (ts:Array Value),us.length=vs.length→ps.length=vs.length→(∀p∈ps,p<N)→ts.size=N→
  (∀(i:Nat) (x:AV) (v:Value),vs[i]?=some x→us[i]?=some v→Rep c x v)→(∀t,Rep c (look α t) (ts.getD t undef))→
  ((ps.zip us).foldl (fun tmps (t,a)=>tmps.setIfInBounds t a) ts).size=N∧∀t,Rep c (look (vK ps vs α) t) (((ps.zip us).foldl (fun tmps (t,a)=>tmps.setIfInBounds t a) ts).getD t undef)
 |[],us,vs,α,ts,_,_,_,hN,_,h=>by simp only[List.zip_nil_left,List.foldl_nil];exact⟨hN,by cases vs<;>exact h⟩
 |p::ps,[],vs,α,ts,h1,h2,_,_,_,_=>by simp at h1 h2;omega
 |p::ps,u::us,[],α,ts,h1,_,_,_,_,_=>by simp at h1
 |p::ps,u::us,v::vs,α,ts,h1,h2,hp,hN,hr,h=>by
  simp only[List.zip_cons_cons,List.foldl_cons,vK]
  refine yA ps us vs ((p,v)::α) (ts.setIfInBounds p u) (by simpa using h1) (by simpa using h2) (fun q hq=>hp q (by simp[hq])) (by simpa using hN) (fun i x w a b=>hr (i+1) x w (by simpa using a) (by simpa using b))fun t=>?_
  have hlt:p<ts.size:=by rw[hN];exact hp p (by simp)
  simp only[look]
  by_cases hpt:p=t
  ·subst hpt
   simp only[beq_self_eq_true,cond_true]
   have:=hr 0 v u rfl rfl
   simpa[hlt]using this
  ·have hb:(p==t)=false:=by simp[hpt]
   rw[hb,cond_false]
   have:=h t
   simpa[Array.getD_eq_getD_getElem?,Array.getElem?_setIfInBounds_ne hpt]using this
def lS(i:Nat)(LB:ABlk)(fin:Bool→Option Code→ABlk)(H0:AHeap)(R:AV→AHeap→Prop)(go:Bool)(pe:Option Code)(H:AHeap):Prop:=
 hget H i=LB∧∃H1 L,H=H1++L∧H1.length=H0.length∧(∀(j:Nat) (b:ABlk),H1[j]?=some b→H0[j]?=some b∨ClB H0.length b)∧R (.bool go) (aD H1 i (fin go pe))
def rV(i:Nat)(LB:ABlk)(fin:Bool→Option Code→ABlk)(H0:AHeap)(R:AV→AHeap→Prop):bL
 |.normal,_,H=>lS i LB fin H0 R true none H
 |.ret,_,H=>lS i LB fin H0 R false (some .ret) H
 |.exit id,_,H=>lS i LB fin H0 R false (some (.exit id)) H
 |_,_,_=>False
def zI(P:Program)(N i:Nat)(bd:Code)(LR LB:ABlk)(fin:Bool→Option Code→ABlk)(H0:AHeap)(R:AV→AHeap→Prop):bL
 |.normal,β,H=>hget H i=LR∧aw P N bd (rV i LB fin (aD H0 i LB) R) β (aD H i LB)
 |_,_,_=>False
section
variable (N i:Nat) (bd:Code) (LR LB:ABlk) (fin:Bool→Option Code→ABlk) (H0:AHeap) (R:AV→AHeap→Prop) (β:AF) (H:AHeap)
@[go_sem] theorem aHF:rV i LB fin H0 R .normal β H=lS i LB fin H0 R true none H:=rfl
@[go_sem] theorem aQQ:rV i LB fin H0 R .ret β H=lS i LB fin H0 R false (some .ret) H:=rfl
@[go_sem] theorem aL4(id:Nat):rV i LB fin H0 R (.exit id) β H=lS i LB fin H0 R false (some (.exit id)) H:=rfl
@[go_sem] theorem aF3:zI P N i bd LR LB fin H0 R .normal β H=(hget H i=LR∧aw P N bd (rV i LB fin (aD H0 i LB) R) β (aD H i LB)):=rfl
end
theorem St.loop{c:Ctx}{H:AHeap}(h:St c H){i l N:Nat}{α:AF}{st:LoopState}{pe:Option Code}{ps:Array Tmp}{asg bd:Code}(hh:hget H i=.loop l α N st pe ps asg bd):
  i<c.n∧c.ver i=0∧c.vd i=false∧c.blk i=l∧∃fn D ts,c.w.heap[l]?=some (.loop {state:=st,pending:=pe,fn:=fn,tmps:=ts,params:=ps,assign:=asg,body:=bd,defers:=D})∧ts.size=N∧∀t,Rep c (look α t) (ts.getD t undef):=by
 have hs:=cZ hh trivial
 refine⟨by rw[h.n];exact bP hh trivial,?_⟩
 cases h.rep i _ hs with
 |loop _ _ _ _ _ _ _ _ fn D ts hv hd hl hb hN hr=>exact⟨hv,hd,hl,fn,D,ts,by rw[←hl];exact hb,hN,hr⟩
theorem vL{c:Ctx}{H:AHeap}(h:St c H){i l N:Nat}{α:AF}{st:LoopState}{pe:Option Code}{ps:Array Tmp}{asg bd:Code}(hh:hget H i=.loop l α N st pe ps asg bd)(st':LoopState)(pe':Option Code){fn D:Nat}{ts:Array Value}
  (hb:c.w.heap[l]?=some (.loop {state:=st,pending:=pe,fn:=fn,tmps:=ts,params:=ps,assign:=asg,body:=bd,defers:=D})):
  Ext c {c with w:=c.w.putObj l (.loop {state:=st',pending:=pe',fn:=fn,tmps:=ts,params:=ps,assign:=asg,body:=bd,defers:=D})}∧
  St {c with w:=c.w.putObj l (.loop {state:=st',pending:=pe',fn:=fn,tmps:=ts,params:=ps,assign:=asg,body:=bd,defers:=D})} (aD H i (.loop l α N st' pe' ps asg bd)):=by
 obtain⟨hin,hv,hd,hl,fn',D',ts',hb',hN,hr⟩:=h.loop hh
 rw[hb]at hb'
 cases hb'
 have hsome:=cZ hh trivial
 have hlt:=(Array.getElem?_eq_some_iff.1 hb).1
 let o:Obj:=.loop {state:=st',pending:=pe',fn:=fn,tmps:=ts,params:=ps,assign:=asg,body:=bd,defers:=D}
 have hsame:(c.w.putObj l o).heap[c.blk i]?=some o:=by rw[hl];exact World.putObj_heap_same hlt
 have hoth:∀b,b≠c.blk i→(c.w.putObj l o).heap[b]?=c.w.heap[b]?:=fun b hne=>World.putObj_heap_other (by rw[←hl];exact hne)
 have hbs:bsize (c.w.putObj l o) (c.blk i)=bsize c.w (c.blk i):=by
  unfold bsize
  rw[hsame,hl,hb]
 have hx:Ext c {c with w:=c.w.putObj l o}:=by
  refine⟨Nat.le_refl _,by simp,fun b hb'=>⟨hb',hoth b fun e=>(h.st b hb').2 i _ hsome trivial hd e.symm⟩,fun _ _=>Nat.le_refl _,fun j hj _=>⟨rfl,rfl,fun _=>?_⟩,rfl,rfl,rfl,rfl⟩
  by_cases e:c.blk j=c.blk i
  ·simp only[e];exact hbs
  ·simp only[bsize];rw[hoth _ e]
 exact h.update (B':=.loop l α N st' pe' ps asg bd) hsome trivial hd (c.w.putObj l o) (by simp) hoth hbs rfl rfl rfl (.loop l α N st' pe' ps asg bd fn D ts hv hd hl hsame hN fun t=>(hr t).mono hx)
theorem yB{l N i:Nat}{α:AF}{ps:Array Tmp}{asg bd:Code}{vs:List AV}{H:AHeap}{R:AV→AHeap→Prop}{LR:ABlk}(hhR:hget H i=LR)(hLR:LR=.loop l α N .ready none ps asg bd)(hps:ps.size=vs.length)(hpN:(ps.toList.all fun p=>Nat.blt p N)=true)
  (hfa:uF asg=true) (hfb:uF bd=true) (h:∀(LB:ABlk) (fin:Bool→Option Code→ABlk),LB=.loop l α N .busy none ps asg bd→LB.live→(fin true none=LR)→(∀go pe,fin go pe=.loop l α N (bif go then .ready else .done) pe ps asg bd)→
   aw P N asg (zI P N i bd LR LB fin H R) (vK ps.toList vs α) H):AYield P l vs H R:=by
 have hh:hget H i=.loop l α N .ready none ps asg bd:=hhR.trans hLR
 replace h:=h _ (fun go pe=>.loop l α N (bif go then .ready else .done) pe ps asg bd) rfl trivial hLR.symm (fun _ _=>rfl)
 intro c us hst ⟨hul,hur⟩
 obtain⟨hin,hv,hd,hl,fn,D,ts,hb,hN,hr⟩:=hst.loop hh
 refine⟨fn,_,asg,bd,run_yield hb (by simp;omega),roundIn_of_wpIn (F:=Fence.wide) (n:=0) trivial ?_⟩
 obtain⟨hsz,hrep⟩:=yA (c:=c) (N:=N) ps.toList us.toList vs α ts (by simpa using hul) (by simpa using hps) (fun p hp=>by have:=List.all_eq_true.1 hpN p hp;simpa[Nat.blt_eq]using this) hN (fun i x v a b=>hur i x v a (by simpa using b)) hr
 have hfold:(ps.zip us).foldl (fun tmps (t,a)=>tmps.setIfInBounds t a) ts=(ps.toList.zip us.toList).foldl (fun tmps (t,a)=>tmps.setIfInBounds t a) ts:=by
  rw[←Array.foldl_toList,Array.toList_zip]
 rw[←hfold]at hsz hrep
 have hc:St (c.rebase c.w.heap.size) H:=hst.rebase _
 have ha:ARep (c.rebase c.w.heap.size) N (vK ps.toList vs α) {tmps:=(ps.zip us).foldl (fun tmps (t,a)=>tmps.setIfInBounds t a) ts,defers:=[]}:=
  ⟨hsz,⟨Nat.le_refl _,[],rfl,by simp,by simp⟩,fun t=>(hrep t).rebase _⟩
 refine wpIn_mono (h (some l) (c.rebase c.w.heap.size) _ (.inr hfa) hc ha)fun e a₁ w₁ ⟨c1,β,H1,e1,e2,e3,e4,e5⟩=>?_
 cases e<;>simp only[zI]at e5<;>try exact e5.elim
 obtain⟨hh1,hbody⟩:=e5
 rw[hLR]at hh1
 subst e1
 obtain⟨_,_,_,_,fn1,D1,ts1,hb1, -, -⟩:=e2.loop hh1
 obtain⟨x1,s1⟩:=vL e2 hh1 .busy none hb1
 refine⟨_,run_beginRound hb1 rfl,?_⟩
 refine wpIn_mono (hbody (some l) _ a₁ (.inr hfb) s1 (e4.mono x1))fun e a₂ w₂ ⟨c2,γ,H2,g1,g2,g3,g4,g5⟩=>?_
 have key:∀(jump:Option Code),lS i (.loop l α N .busy none ps asg bd) (fun go pe=>.loop l α N (bif go then .ready else .done) pe ps asg bd) (aD H i (.loop l α N .busy none ps asg bd)) R jump.isNone jump H2→
   ∃v w',(Instr.endRound l jump).run P c2.w=.ok v w'∧∃c' x u H',Ending.returned v=.returned u∧c'.w=w'∧St c' H'∧Ext c c'∧Rep c' x u∧R x H':=by
  rintro jump ⟨hh2,H3,L,rfl,hlen,hcl,hR⟩
  have hlen:H3.length=H.length:=by simpa[aD]using hlen
  have hlenB:(aD H i (.loop l α N .busy none ps asg bd)).length=H.length:=by simp[aD]
  have xx:=(e3.trans x1).trans g3
  have hcn:(c.rebase c.w.heap.size).n=H.length:=hc.n
  have hlB:ClB H.length (.loop l α N .busy none ps asg bd):=by
   have:=hst.cl0 (cZ hh trivial)
   rw[hst.n]at this
   exact this
  have hdrop:St (c2.drop H.length) H3:=St.dropG hlen.symm g2 fun j b hj=>by
   rcases hcl j b hj with q|q
   ·by_cases hji:j=i
    ·subst hji
     rw[aD,List.getElem?_set_self (bP hh trivial)]at q
     cases q
     exact hlB
    ·rw[aD,List.getElem?_set_ne (fun e=>hji e.symm)]at q
     have:=hst.cl0 q
     rwa[hst.n]at this
   ·rwa[hlenB]at q
  have hh3:hget H3 i=.loop l α N .busy none ps asg bd:=by
   have hlt:i<H3.length:=by rw[hlen];exact bP hh trivial
   simpa[hget,List.getD_eq_getElem?_getD,List.getElem?_append_left hlt]using hh2
  obtain⟨_,_,_,_,fn2,D2,ts2,hb2, -, -⟩:=hdrop.loop hh3
  obtain⟨x2,s2⟩:=vL hdrop hh3 (if jump.isNone then .ready else .done) jump hb2
  have hst':(if jump.isNone=true then LoopState.ready else LoopState.done)=bif jump.isNone then .ready else .done:=by cases jump<;>rfl
  have yy:=(xx.dropN (n:=H.length) (by rw[hcn];exact Nat.le_refl _)).trans x2
  refine⟨_,_,run_endRound jump hb2,({c2.drop H.length with w:=_}:Ctx).rebase c.base,.bool jump.isNone,_,_,rfl,rfl,s2.rebase _,?_,.bool _,hst'▸hR⟩
  exact⟨yy.n,yy.size,yy.st,yy.ver,yy.blk,yy.os,yy.tape,yy.output,rfl⟩
 subst g1
 cases e<;>simp only[rV]at g5<;>try exact g5.elim
 ·exact key none g5
 ·exact key (some (.exit _)) g5
 ·exact key (some .ret) g5
def aJI(i l:Nat)(α:AF)(N:Nat)(ps:Array Tmp)(asg bd:Code)(Q:bL)(H:AHeap):Prop:=
 (∃st,st≠.busy∧hget H i=.loop l α N st none ps asg bd∧∀X,Q .normal α (aD H i X))∨
 (hget H i=.loop l α N .done (some .ret) ps asg bd∧∀X,Q .ret α (aD H i X))∨
 (∃id,hget H i=.loop l α N .done (some (.exit id)) ps asg bd∧∀X,Q (.exit id) α (aD H i X))
theorem qH{N:Nat}{g:Operand}{ps:Array Tmp}{asg bd:Code}{Q:bL}{α:AF}{H:AHeap}{gf:Nat}{lb:List AV}(hg:ev α g=.func (.func gf) [] lb)(hok:aA P gf=true)
  (h:∀l LB,LB=ABlk.loop l α N .ready none ps asg bd→ACalls P gf (.func (.yield l) [] []::lb) (H++[LB]) (fun _ H'=>aJI H.length l α N ps asg bd Q H')):aw P N (.rangeFunc g ps asg bd) Q α H:=by
 intro r c a hr hst ha
 have hr0:r=none:=hr.resolve_right (by simp[uF])
 subst hr0
 refine wpIn_rangeFunc fun fn _=>?_
 have hgv:=aE6 ha g
 rw[hg]at hgv
 generalize hev:a.eval g=vg at hgv
 cases hgv with
 |func _ _ _ v1 v2 hl1 hl2 hr1 hr2=>
  obtain rfl:v1= #[]:=Array.eq_empty_of_size_eq_zero hl1
  let rec0:Obj:=.loop {state:=.ready,pending:=none,fn:=fn,tmps:=a.tmps,params:=ps,assign:=asg,body:=bd,defers:=c.w.heap.size}
  let c1:Ctx:=c.fix (.deferred (some []))
  have s1:St c1 H:=hst.fix _
  have x1:Ext c c1:=Ext.fix hst _
  have hsz1:c1.w.heap.size=c.w.heap.size+1:=by simp[c1,Ctx.fix]
  have a1:=ha.mono x1
  let c2:Ctx:=c1.push rec0
  have x2:Ext c1 c2:=Ext.push s1 _ 0
  have s2:St c2 (H++[.loop c1.w.heap.size α N .ready none ps asg bd]):=by
   refine s1.push rec0 0 (.loop _ α N .ready none ps asg bd fn c.w.heap.size a.tmps (by simp[Ctx.push]) (by simp[Ctx.push]) (by simp[Ctx.push]) ?_ a1.size fun t=>(a1.rep t).mono x2)
   simp only[Ctx.push,if_true]
   exact jP _ _
  have hD2:c2.w.heap[c.w.heap.size]?=some (.deferred (some [])):=by
   have h1:c1.w.heap[c.w.heap.size]?=some (.deferred (some [])):=jP _ _
   exact((x2.st _ (.inr rfl)).2).trans h1
  have hall:RepAll c2 (.func (.yield c1.w.heap.size) [] []::lb) (#[.func (.yield c1.w.heap.size) #[] #[]]++v2):=by
   refine⟨by simp[hl2];omega,fun j x v g1 g2=>?_⟩
   cases j with
   |zero=>
    rw[Array.getElem?_append_left (by simp)]at g2
    cases g1;cases g2
    exact .func _ [] [] _ _ rfl rfl (by simp) (by simp)
   |succ j=>
    rw[Array.getElem?_append_right (by simp)]at g2
    rw[List.getElem?_cons_succ]at g1
    exact((hr2 j x v g1 (by simpa using g2)).mono x1).mono x2
  have hcall:=h c1.w.heap.size _ rfl c2 _ s2 hall
  refine⟨c1.w.heap.size,[{target:=.collected c.w.heap.size,args:= #[]}],c2.w,{target:=.fn (.func gf) v2,args:= #[.func (.yield c1.w.heap.size) #[] #[]]},c2.w,gf, #[.func (.yield c1.w.heap.size) #[] #[]]++v2,c2.w,?_,?_,fun _ _=>trivial,?_,fun h=>(by cases h),?_⟩
  ·have:=run_enterLoop_outer (P:=P) (w:=c.w) fn a.tmps ps asg bd
   rw[hsz1]
   exact this
  ·simp only[resolve,hev]
   simp[go_sem,Deferred.ofValue]
  ·simp[invoke,go_sem]
   simpa using jC hok _ _
  ·refine(callsIn_wide (n:=0)).2 (hcall.mono ?_)
   rintro e w3 ⟨c3,x,v,H3,rfl,rfl,s3,x3, -,hb⟩
   have a3:ARep c3 N α {a with defers:=[{target:=.collected c.w.heap.size,args:= #[]}]++a.defers}:=by
    have m:=((ha.mono x1).mono x2).mono x3
    obtain⟨m0,Ds,e,hn,hD⟩:=m.defers
    obtain⟨n0,Ds',e',hn',hD'⟩:=ha.defers
    have hbase:c3.base=c.base:=(x3.base.trans x2.base).trans x1.base
    have hinj:Ds=Ds':=by
     have:=e.symm.trans e'
     clear hD hD' hn hn' e e' m
     induction Ds generalizing Ds' with
     |nil=>cases Ds' with
      |nil=>rfl
      |cons _ _=>simp at this
     |cons d Ds ih=>cases Ds' with
      |nil=>simp at this
      |cons d' Ds'=>simp at this;rw[this.1,ih _ (by simpa using this.2)]
    subst hinj
    refine⟨m.size,⟨m0,c.w.heap.size::Ds,by simp[e],List.nodup_cons.2 ⟨fun hm=>?_,hn⟩,fun D hm=>?_⟩,m.rep⟩
    ·have:=(Array.getElem?_eq_some_iff.1 (hD' _ hm).2.2).1
     omega
    ·rcases List.mem_cons.1 hm with rfl|hm
     ·exact⟨by rw[hbase];exact n0,(x3.st _ (x2.st _ (.inr rfl)).1).1,((x3.st _ (x2.st _ (.inr rfl)).1).2).trans hD2⟩
     ·exact hD D hm
   have done:∀(st:LoopState) (pe:Option Code),st≠.busy→hget H3 H.length=.loop c1.w.heap.size α N st pe ps asg bd→
     ∃c4:Ctx,(Instr.endLoop c1.w.heap.size).run P c3.w=.ok pe c4.w∧St c4 (aD H3 H.length (.loop c1.w.heap.size α N .exhausted pe ps asg bd))∧Ext c c4∧ARep c4 N α {a with defers:=[{target:=.collected c.w.heap.size,args:= #[]}]++a.defers}:=by
    intro st pe hb3 hh3
    obtain⟨_,_,_,_,fn3,D3,ts3,hb3', -, -⟩:=s3.loop hh3
    obtain⟨x4,s4⟩:=vL s3 hh3 .exhausted pe hb3'
    exact⟨_,run_endLoop hb3' hb3,s4,((x1.trans x2).trans x3).trans x4,a3.mono x4⟩
   rcases hb with⟨st,hbu,hh3,hq⟩|⟨hh3,hq⟩|⟨id,hh3,hq⟩
   ·obtain⟨c4,q1,q2,q3,q4⟩:=done st none hbu hh3
    exact⟨none,c4.w,q1,c4,α,_,rfl,q2,q3,q4,hq _⟩
   ·obtain⟨c4,q1,q2,q3,q4⟩:=done .done _ (by simp) hh3
    exact⟨some .ret,c4.w,q1,wpIn_ret ⟨c4,α,_,rfl,q2,q3,q4,hq _⟩⟩
   ·obtain⟨c4,q1,q2,q3,q4⟩:=done .done _ (by simp) hh3
    exact⟨some (.exit id),c4.w,q1,wpIn_exit ⟨c4,α,_,rfl,q2,q3,q4,hq _⟩⟩
theorem mW{l:Nat}{args:List AV}{H:AHeap}{R K:AV→AHeap→Prop}(h:AYield P l args H R)(hk:∀v H',R v H'→K v H'):jF P (.func (.yield l) [] []) args H K:=h.mono hk
theorem aF4{N:Nat}{code:Code}{Q:bL}{α:AF}{H:AHeap}(β:AF)(hs:aAE β α)(h:aw P N code Q β H):aw P N code Q α H:=nE h (iG hs)
theorem tS{n i v:Nat}{H:AHeap}{cs:List AV}(hn:n≤i)(hh:hget H i=.cells v cs)(hc:∀x∈cs,Cl n x):Frz n H (.ref i v 0) (.cptr cs):=
 .ref i v 0 cs cs hn hh (by omega)fun j x y hx hy=>by
  rw[Nat.zero_add,hy]at hx
  cases hx
  exact .cl _ (hc _ (List.mem_of_getElem? hy))
theorem iY{n:Nat}{H:AHeap}{a b:AV}{cs ds:List AV}(h:Frz n H a b)(hs:∀(i:Nat) (x y:AV),cs[i]?=some x→ds[i]?=some y→Frz n H x y):∀(i:Nat) (x y:AV),(a::cs)[i]?=some x→(b::ds)[i]?=some y→Frz n H x y
 |0,x,y,hx,hy=>by simp at hx hy;subst hx;subst hy;exact h
 |i+1,x,y,hx,hy=>hs i x y (by simpa using hx) (by simpa using hy)
theorem iV{n:Nat}{H:AHeap}:∀(i:Nat) (x y:AV),([]:List AV)[i]?=some x→([]:List AV)[i]?=some y→Frz n H x y:=fun _ _ _ h=>by simp at h
theorem aZ{G:AHeap}{i:Nat}{b:ABlk}(h:hget G i=b)(hb:b.live):∀L,hget (G++L) i=b:=fun L=>aK h hb L
theorem eZ{G:AHeap}{i:Nat}{b:ABlk}(h:hget G i=b)(hb:b.live):∀L c,aD (G++L) i c=aD G i c++L:=fun L c=>cG (bP h hb) L c
theorem aI(H:AHeap)(i:Nat)(b:ABlk):(aD H i b).length=H.length:=by simp[aD]
theorem bH{H:AHeap}{i j:Nat}{x:ABlk}(h:hget H j=x)(hn:i≠j)(b:ABlk):hget (aD H i b) j=x:=by
 rw[←h];simp[hget,aD,List.getD_eq_getElem?_getD,List.getElem?_set_ne hn]
theorem dD{H:AHeap}{i:Nat}(h:i<H.length)(b:ABlk):hget (aD H i b) i=b:=by
 simp[hget,aD,List.getD_eq_getElem?_getD,h]
theorem jW{H:AHeap}{i n:Nat}{b:ABlk}(hb:ClB n b):∀(j:Nat) (c:ABlk),(aD H i b)[j]?=some c→H[j]?=some c∨ClB n c:=fun j c h=>by
 by_cases e:i=j
 ·subst e
  by_cases hlt:i<H.length
  ·rw[aD,List.getElem?_set_self hlt]at h;cases h;exact .inr hb
  ·rw[aD,List.getElem?_eq_none (by simp;omega)]at h;cases h
 ·rw[aD,List.getElem?_set_ne e]at h;exact .inl h
theorem dR(H:AHeap)(i:Nat)(b c:ABlk):aD (aD H i b) i c=aD H i c:=by simp[aD]
theorem jN(H:AHeap){i j:Nat}(b c:ABlk)(h:i≠j):aD (aD H i b) j c=aD (aD H j c) i b:=by simp only[aD];exact List.set_comm _ _ h
theorem hP{H:AHeap}{i:Nat}{b:ABlk}(h:hget H i=b)(hb:b.live):aD H i b=H:=aDM (cZ h hb)
def aC4(K:AF→AHeap→Prop)(Q:bL):bL
 |.normal,α,H=>K α H
 |e,α,H=>Q e α H
def tT(P:Program)(N:Nat)(body:Code)(Q:bL):Nat→AF→AHeap→Prop
 |0,_,_=>False
 |m+1,α,H=>aw P N body (aC4 (tT P N body Q m) Q) α H
section
variable (K:AF→AHeap→Prop) (Q:bL) (α:AF) (H:AHeap)
@[go_sem] theorem aJJ:aC4 K Q .normal α H=K α H:=rfl
@[go_sem] theorem aYe:aC4 K Q .ret α H=Q .ret α H:=rfl
@[go_sem] theorem aQR(i:Nat):aC4 K Q (.exit i) α H=Q (.exit i) α H:=rfl
end
theorem aD7{N:Nat}{body:Code}{Q:bL}{α:AF}{H:AHeap}(m:Nat)(h:tT P N body Q m α H):aw P N (.loop body) Q α H:=by
 intro r c a hr hs ha
 refine wpIn_loop_rounds m ?_
 have key:∀m α H c' a,tT P N body Q m α H→St c' H→Ext c c'→ARep c' N α a→Code.roundsIn (wf r) 0 P body (fun e a' w'=>∃c' α' H',c'.w=w'∧St c' H'∧Ext c c'∧ARep c' N α' a'∧Q e α' H') m a c'.w:=by
  intro m
  induction m with
  |zero=>intro α H c' a h;exact h.elim
  |succ m ih=>
   intro α H c' a h hs hx ha
   refine wpIn_mono (h r c' a hr hs ha)fun e a' w' ⟨c2,α',H',e1,e2,e3,e4,e5⟩=>?_
   subst e1
   cases e with
   |normal=>exact ih _ _ _ _ e5 e2 (hx.trans e3) e4
   |exit id=>exact⟨c2,α',H',rfl,e2,hx.trans e3,e4,e5⟩
   |goto l=>exact⟨c2,α',H',rfl,e2,hx.trans e3,e4,e5⟩
   |ret=>exact⟨c2,α',H',rfl,e2,hx.trans e3,e4,e5⟩
   |panic ch=>exact⟨c2,α',H',rfl,e2,hx.trans e3,e4,e5⟩
   |outgrown=>exact⟨c2,α',H',rfl,e2,hx.trans e3,e4,e5⟩
 exact key m α H c a h hs (Ext.refl c) ha
theorem all_nil{α:Type}{p:α→Prop}:∀x∈([]:List α),p x:=fun _ h=>by cases h
theorem all_cons{α:Type}{p:α→Prop}{a:α}{l:List α}(h:p a)(hs:∀x∈l,p x):∀x∈a::l,p x:=List.forall_mem_cons.2 ⟨h,hs⟩
theorem aAL{H M:AHeap}{n:Nat}(h:∀b∈M,ClB n b):∀(i:Nat) (b:ABlk),(H++M)[i]?=some b→H[i]?=some b∨ClB n b:=fun i b hi=>by
 by_cases hlt:i<H.length
 ·rw[List.getElem?_append_left hlt]at hi;exact .inl hi
 ·rw[List.getElem?_append_right (by omega)]at hi;exact .inr (h b (List.mem_of_getElem? hi))
theorem qI{f:AV}{args:List AV}{H:AHeap}{x:AV}{k:AV→AHeap→Prop}(h:ACall P f args H (fun r G=>r=x∧G=H))(hk:k x H):jF P f args H k:=
 h.mono fun _ _ ⟨e1,e2⟩=>by rw[e1,e2];exact hk
end Go.Aw
/- What the functions of the stamps answer. No condition. -/
namespace Go.Proofs.YthhdnjiodklmmaaGreatDoor
open Go Go.Aw Go.Gw
set_option linter.unusedSimpArgs false
set_option maxRecDepth 20000
def okI(a b:Int):Bool:=decide (1≤a)&&decide (a≤1048576)&&decide (0≤b)&&decide (b≤63)
theorem aAM{a b:Int}:okI a b=true↔1≤a∧a≤1048576∧0≤b∧b≤63:=by
 simp[okI,and_assoc]
theorem fO(a b:Int)(H:AHeap):cN Tryz.prog 103 [.agg [.int .i64 a,.int .i64 b]] H (.bool (okI a b)):=by
 refine aQ Tryz.func103 rfl (Nat.le_of_ble_eq_true rfl) ?_
 repeat' first|(refine gS ?_;simp only[go_sem])|refine gA ?_|(refine gD (fun h=>?_) (fun h=>?_)<;>try exact aB h)|fail
 exact⟨_,_,rfl,.cl _ (.bool _),rfl⟩
def vM(a b c d:Int):Bool:=decide (a<c)||(decide (a=c)&&decide (b<d))
theorem aC5{a b c d:Int}:vM a b c d=true↔(a<c∨(a=c∧b<d)):=by
 simp[vM]
theorem pJ(a b c d:Int)(H:AHeap):cN Tryz.prog 84 [.agg [.int .i64 a,.int .i64 b],.agg [.int .i64 c,.int .i64 d]] H (.bool (vM a b c d)):=by
 refine aQ Tryz.func84 rfl (Nat.le_of_ble_eq_true rfl) ?_
 repeat' first|(refine gS ?_;simp only[go_sem])|refine gA ?_|(refine gD (fun h=>?_) (fun h=>?_)<;>try exact aB h)|fail
 all_goals refine⟨_,_,rfl,.cl _ (.bool _),congrArg AV.bool ?_⟩
 all_goals(rw[Bool.eq_iff_iff,aC5];simp at *;omega)
def iZ(n:Int):Bool:=decide (128≤n)&&decide (n<134217856)
theorem aF5{n:Int}:iZ n=true↔128≤n∧n<134217856:=by simp[iZ]
theorem aF6{n:Int}:iZ n=false↔¬(128≤n∧n<134217856):=by rw[←aF5,Bool.not_eq_true]
def oA(n:Int):Int:=if iZ n=true then n / 128 else 0
def oB(n:Int):Int:=if iZ n=true then n % 128 / 2 else 0
def oC(n:Int):Bool:=iZ n&&decide (n % 2=1)
theorem iP(n:Int)(H:AHeap):cN Tryz.prog 82 [.int .i64 n] H (.tup [.agg [.int .i64 (oA n),.int .i64 (oB n)],.bool (oC n),.bool (iZ n)]):=by
 refine aC2 fun hok=>?_
 have hn:=(aNo hok).2
 refine aQ Tryz.func82 rfl (Nat.le_of_ble_eq_true rfl) ?_
 repeat' first|((first|refine cK (ct (fO _ _) bY) ?_|refine cP (ct (fO _ _) bY) ?_|refine cM (ct (fO _ _) bY) ?_|refine gS ?_);simp only[go_sem])|refine gA ?_|(refine gD (fun h=>?_) (fun h=>?_)<;>try exact aB h)|fail
 all_goals refine oK (k:=3) rfl ?_
 ·have e:iZ n=false:=aF6.2 (by simp at h;omega)
  simp[oA,oB,oC,e]
 ·rename_i h0
  simp at h0
  rw[Int.tdiv_eq_ediv_of_nonneg (by omega),Int.tmod_eq_emod_of_nonneg (by omega),Int.tdiv_eq_ediv_of_nonneg (by omega),wrap_i64 (by omega) (by omega),wrap_i64 (by omega) (by omega)]at h
  have h':¬okI (n / 128) (n % 128 / 2)=true:=by simpa using h
  rw[aAM]at h'
  have e:iZ n=false:=aF6.2 (by omega)
  simp[oA,oB,oC,e]
 ·rename_i h0
  simp at h0
  rw[Int.tdiv_eq_ediv_of_nonneg (by omega),Int.tmod_eq_emod_of_nonneg (by omega),Int.tdiv_eq_ediv_of_nonneg (by omega),wrap_i64 (by omega) (by omega),wrap_i64 (by omega) (by omega)]at h ⊢
  rw[Int.tmod_eq_emod_of_nonneg (by omega)]
  have h':okI (n / 128) (n % 128 / 2)=true:=by simpa using h
  rw[aAM]at h'
  have e:iZ n=true:=aF5.2 (by omega)
  simp[oA,oB,oC,e]
def dirI(n:Int):Bool:=decide (n=0)||decide (n=2)||(iZ n&& !oC n)
theorem yC(n:Int)(H:AHeap):cN Tryz.prog 63 [.int .i64 n] H (.bool (dirI n)):=by
 refine aQ Tryz.func63 rfl (Nat.le_of_ble_eq_true rfl) ?_
 repeat' first|((first|refine cK (ct (iP _) bK) ?_|refine cP (ct (iP _) bK) ?_|refine cM (ct (iP _) bK) ?_|refine gS ?_);simp only[go_sem])|refine gA ?_|(refine gD (fun h=>?_) (fun h=>?_)<;>try exact aB h)|fail
 ·exact aAD (k:=3) rfl (by simp only[dirI,h];rfl)
 ·exact oK (k:=3) rfl (by simp only[dirI,h];rfl)
def aCo(a b n:Int):Bool:=iZ n&&vM a b (oA n) (oB n)
theorem jG(a b n:Int)(H:AHeap):cN Tryz.prog 104 [.agg [.int .i64 a,.int .i64 b],.int .i64 n] H (.bool (aCo a b n)):=by
 refine aQ Tryz.func104 rfl (Nat.le_of_ble_eq_true rfl) ?_
 repeat' first|((first|refine cK (ct (iP _) bK) ?_|refine cP (ct (iP _) bK) ?_|refine cM (ct (iP _) bK) ?_|refine cK (ct (pJ _ _ _ _) gT) ?_|refine cP (ct (pJ _ _ _ _) gT) ?_|refine cM (ct (pJ _ _ _ _) gT) ?_|refine gS ?_);simp only[go_sem])|refine gA ?_|(refine gD (fun h=>?_) (fun h=>?_)<;>try exact aB h)|fail
 exact oK (k:=3) rfl rfl
theorem aF7(o:Opn)(H:AHeap):cN Tryz.prog 102 [opA o] H (if o.kind=1 then .iface 218 (opA o)else if o.kind=2 then .iface 219 (opA o)else .nilIface):=by
 refine aQ Tryz.func102 rfl (Nat.le_of_ble_eq_true rfl) ?_
 simp only[opA]
 repeat' first|(refine gS ?_;simp only[go_sem])|refine gA ?_|(refine gD (fun h=>?_) (fun h=>?_)<;>try exact aB h)|fail
 all_goals(simp only[decide_eq_true_eq,decide_eq_false_iff_not]at *)
 ·simp only[h,if_true];exact done (by simp only[go_sem]) (.refl _)
 ·simp only[*,if_true,if_false];exact done (by simp only[go_sem]) (.refl _)
 ·simp only[*,if_true,if_false];exact done (by simp only[go_sem]) (.refl _)
end Go.Proofs.YthhdnjiodklmmaaGreatDoor
