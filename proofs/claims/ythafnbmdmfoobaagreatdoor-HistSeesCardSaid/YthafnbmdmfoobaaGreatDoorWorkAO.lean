/- What the functions of this seat answer (15 of 40). No condition. -/
import Derived.Test.YthafnbmdmfoobaaGreatDoorWorkAL
set_option linter.unusedSimpArgs false
set_option linter.unusedVariables false
set_option linter.unusedSectionVars false
set_option maxRecDepth 100000
set_option maxHeartbeats 16000000
namespace Go.Proofs.YthafnbmdmfoobaaGreatDoor
section
def Cf(e:Int):hS:={c2 with err:=e}
def dz(m:cb)(c:b3):cb×hS×List bf:=
 if pG c=false then(m,Cf 180,[])else
 if(ih c ⟨m,c2,[]⟩).1=0 then
  (if(ih c ⟨m,c2,[]⟩).2.ops=[]then((ih c ⟨m,c2,[]⟩).2.m,(ih c ⟨m,c2,[]⟩).2.a,[])
  else((xJ m.log.nodes (ih c ⟨m,c2,[]⟩).2).m,(ih c ⟨m,c2,[]⟩).2.a,(ih c ⟨m,c2,[]⟩).2.ops))
 else(m,Cf (ih c ⟨m,c2,[]⟩).1,[])
def qY:cb->List b3->cb×List hS
 |m,[]=>(m,[])
 |m,c::l=>((qY (dz m c).1 l).1,(dz m c).2.1::(qY (dz m c).1 l).2)
def ng(r:Int):cb×Int:=if 0<=r∧r<=63 then({rH with rep:=r,next:=1},0)else(rH,20)
end
section
structure cM where
 lock:Int
 aR:Int
deriving DecidableEq,Inhabited
structure iD where
 aR:Int
 upto:Int
deriving DecidableEq,Inhabited
structure eS where
 held:List cM
 waits:List cM
deriving DecidableEq,Inhabited
structure ns where
 kept:Int
 waits:List iD
deriving DecidableEq,Inhabited
structure bn where
 m:cb
 t:eS
 g:ns
 aq:List ba
 time:Int
 ops:List bf
deriving DecidableEq,Inhabited
def a6(h:cM):I:=.agg [.int .i64 h.lock,.int .i64 h.aR]
def cq(w:iD):I:=.agg [.int .i64 w.aR,.int .i64 w.upto]
def fN(f1 f2:Bool)(t:eS):I:=.agg [.sl f1 (t.held.map a6),.sl f2 (t.waits.map a6)]
def kN(f:Bool)(g:ns):I:=.agg [.int .i64 g.kept,.sl f (g.waits.map cq)]
def aR(t:ba):I:=.agg [.int .i64 t.call.kind,.str t.call.path,.str t.call.to,.str t.call.data,.int .i64 t.call.n,.sl false (t.has.map bj),.int .i64 t.at_,.bool t.done,.bool t.ended,.int .i64 t.upto,.int .i64 t.dJ,.int .i64 t.mark,.int .i64 t.end_,
 .int .i64 t.bp.err,.str t.bp.data,.sl false (t.bp.names.map I.str),.int .i64 t.bp.n,.sl false (t.bp.events.map ct)]
def gu(e n s w h q g t o:I)(x:bn):I:=.agg [e,n,.int .i64 x.m.seen,.int .i64 x.m.rep,s,w,.int .i64 x.m.next,h,q,.int .i64 x.g.kept,g,t,.int .i64 x.time,o]
def e4(f1 f2 f3 f4 f5 f6 f7 f8 f9:Bool)(x:bn):I:=gu (.sl f1 (x.m.log.entries.map de)) (.sl f2 (x.m.log.nodes.map aW)) (.sl f3 (x.m.cj.map cU)) (.sl f4 (x.m.bN.map bU)) (.sl f5 (x.t.held.map a6)) (.sl f6 (x.t.waits.map a6)) (.sl f7 (x.g.waits.map cq)) (.sl f8 (x.aq.map aR)) (.sl f9 (x.ops.map bY)) x
@[go_sem] theorem aRS(x:cM):bO (a6 x)=True:=by simp only[a6,go_sem]
@[go_sem] theorem aRT(x:iD):bO (cq x)=True:=by simp only[cq,go_sem]
@[go_sem] theorem aRU(f1 f2:Bool)(x:eS):bO (fN f1 f2 x)=True:=by simp only[fN,go_sem]
@[go_sem] theorem aRV(f:Bool)(x:ns):bO (kN f x)=True:=by simp only[kN,go_sem]
@[go_sem] theorem aRW(x:ba):bO (aR x)=True:=by simp only[aR,go_sem]
@[go_sem] theorem aRX(f1 f2 f3 f4 f5 f6 f7 f8 f9:Bool)(x:bn):bO (e4 f1 f2 f3 f4 f5 f6 f7 f8 f9 x)=True:=by simp only[e4,gu,go_sem]
def GN:eS:=⟨[],[]⟩
def Vl:ns:=⟨0,[]⟩
def uO:bn:=⟨rH,GN,Vl,[],0,[]⟩
def uk(l:List cM)(k:Int):Option Int:=(l.find? fun h=>decide (h.lock=k)).map (·.aR)
def um(l:List cM)(n:Int):Option Int:=(l.find? fun h=>decide (h.aR=n)).map (·.lock)
def v8(t:eS)(n k:Int):eS×Bool:=match uk t.held k with
 |none=>({t with held:=t.held++[⟨k,n⟩]},true)
 |some h=>if h=n then(t,true)else if t.waits.contains ⟨k,n⟩=true then(t,false)else({t with waits:=t.waits++[⟨k,n⟩]},false)
def fo(t:eS)(n k:Int):eS×Option Int:=
 if t.held.contains ⟨k,n⟩=true then(match t.waits.find? fun w=>decide (w.lock=k)with
  |none=>({t with held:=t.held.erase ⟨k,n⟩},none)
  |some w=>(⟨t.held.erase ⟨k,n⟩++[w],t.waits.erase w⟩,some w.aR))
 else(t,none)
def nx(n:Int):List cM->eS×List cM->eS×List cM
 |[],s=>s
 |h::l,s=>if h.aR=n then(match(fo s.1 n h.lock).2 with
  |none=>nx n l ((fo s.1 n h.lock).1,s.2)
  |some k=>nx n l ((fo s.1 n h.lock).1,s.2++[⟨h.lock,k⟩]))else nx n l s
def jX(t:eS)(n:Int):eS×List cM:=nx n t.held (⟨t.held,t.waits.filter fun w=> !decide (w.aR=n)⟩,[])
def ie(g:ns)(n:Int):Bool:=g.waits.any fun w=>decide (w.aR=n)
def HT(n up:Int):List iD->List iD
 |[]=>[]
 |w::l=>if w.aR=n then⟨w.aR,max w.upto up⟩::l else w::HT n up l
def vV(g:ns)(n up:Int):ns×Bool:=
 if up<=g.kept then(g,true)else if ie g n=true then({g with waits:=HT n up g.waits},false)else({g with waits:=g.waits++[⟨n,up⟩]},false)
def xK(g:ns):Option Int:=g.waits.head?.map (·.aR)
def wa(g:ns)(k:Int):ns×List Int:=(⟨max g.kept k,g.waits.filter fun w=> !decide (w.upto<=max g.kept k)⟩,(g.waits.filter fun w=>decide (w.upto<=max g.kept k)).map (·.aR))
def nR(r:Int):bn×Int:=if(ng r).2=0 then({uO with m:=(ng r).1},0)else(uO,(ng r).2)
def mc(x:bn)(c:b3):bn×Int×Int:=
 if(40:Int)<=(x.aq.length:Int)then(x,0,193)else({x with time:=IntKind.i64.wrap (x.time+1),aq:=x.aq++[{nU c with dJ:=IntKind.i64.wrap (x.time+1)}]},x.aq.length,0)
def qI(x:bn)(p:ba×Nat):Bool:= !p.1.ended&& !(um x.t.waits p.2).isSome&&(!ie x.g p.2||decide (xK x.g=some (p.2:Int)))
def jM(x:bn):List Nat:=(x.aq.zipIdx.filter (qI x)).map (·.2)
def vS(x:bn)(p:Int):Option Nat:=if jM x=[]then none else some ((jM x).getD (p % ((jM x).length:Int)).toNat 0)
def gJ(l:List ba)(i:Int)(f:ba->ba):List ba:=if 0<=i∧i<l.length then l.set i.toNat (f (l.getD i.toNat (nU sf)))else l
def kJ(l:List ba)(h:cM):List ba:=gJ l h.aR fun t=>dj t ⟨1,h.lock⟩
def kF(time:Int)(l:List ba)(n:Int):List ba:=gJ l n fun t=>{t with ended:=true,end_:=time}
def mS(full:Bool)(who:Nat)(x:bn):bn:=
 if full=true then{x with g:={x.g with waits:=x.g.waits.filter fun w=> !decide (w.aR=who)},aq:=kF x.time (gJ x.aq who fun t=>{t with bp:={c2 with err:=120}}) who}
 else{x with g:=(wa x.g x.ops.length).1,aq:=(wa x.g x.ops.length).2.foldl (kF x.time) x.aq}
def vT(who:Nat)(k:Int)(x:bn):bn:=
 if(v8 x.t who k).2=true then{x with t:=(v8 x.t who k).1,aq:=gJ x.aq who fun t=>dj t ⟨1,k⟩}else{x with t:=(v8 x.t who k).1}
def vU(who:Nat)(k:Int)(x:bn):bn:=match(fo x.t who k).2 with
 |none=>{x with t:=(fo x.t who k).1,aq:=gJ x.aq who fun t=>dj t ⟨2,k⟩}
 |some n=>{x with t:=(fo x.t who k).1,aq:=kJ (gJ x.aq who fun t=>dj t ⟨2,k⟩) ⟨k,n⟩}
def zq(who n:Nat)(t:ba):Bool:= !decide (n=who)&&gR t.call&& !t.done
def k6(who:Nat)(s:eS×List ba)(n:Nat):eS×List ba:=
 if zq who n (s.2.getD n (nU sf))=true then((jX s.1 n).1,(jX s.1 n).2.foldl kJ (gJ s.2 n nS))else s
def BU(who:Nat)(x:bn):bn:={x with t:=((List.range x.aq.length).foldl (k6 who) (x.t,x.aq)).1,aq:=((List.range x.aq.length).foldl (k6 who) (x.t,x.aq)).2}
def xU(x:bn)(r:cb×hS×List bf)(t:ba):ba:=dj {t with bp:=r.2.1,mark:=x.time,upto:=((x.ops++r.2.2).length:Int)} ⟨3,0⟩
def jQ(who:Nat)(x:bn)(r:cb×hS×List bf):bn:={x with m:=r.1,ops:=x.ops++r.2.2,aq:=gJ x.aq who (xU x r)}
def xT(who:Nat)(c:b3)(x:bn):bn:=
 if c.kind=13∧(dz x.m c).2.1.err=0 then BU who (jQ who x (dz x.m c))else jQ who x (dz x.m c)
def vY(who:Nat)(t:ba)(x:bn):bn:=
 if(vV x.g who t.upto).2=true then{x with g:=(vV x.g who t.upto).1,aq:=kF x.time x.aq who}else{x with g:=(vV x.g who t.upto).1}
def xL(who:Nat)(x:bn):bn:={x with aq:=gJ x.aq who fun t=>{dj t ⟨5,0⟩with end_:=x.time}}
def oA(who:Nat)(t:ba)(u:eR)(x:bn):bn:=
 if u.kind=1 then vT who u.lock x else if u.kind=2 then vU who u.lock x else if u.kind=3 then xT who t.call x else if u.kind=4 then vY who t x else if u.kind=5 then xL who x else x
def p8(x:bn):bn:={x with time:=IntKind.i64.wrap (x.time+1)}
def wo(full:Bool)(who:Nat)(x:bn):bn:=
 if ie x.g who=true then mS full who (p8 x)else oA who (x.aq.getD who (nU sf)) (fM x.m.log.nodes (x.aq.getD who (nU sf))) (p8 x)
def ow(x:bn)(p:Int)(full:Bool):bn:=match vS x p with
 |none=>x
 |some who=>wo full who x
def uJ(x:bn)(l:List Int):bn:=l.foldl (fun x p=>ow x p false) x
end
section
structure gN (t:eS) (n:Nat) (has:Nat->List Int):Prop where
 uW:t.held.Pairwise fun a b=>a.lock≠b.lock
 o4:∀(k:Int) (j:Int),(⟨k,j⟩:cM)∈t.held↔∃i:Nat,j=(i:Int)∧i<n∧k∈has i
 sn:∀i,(has i).Nodup
 vw:t.waits.Pairwise fun a b=>a.aR≠b.aR
 qU:∀w∈t.waits,∃i:Nat,w.aR=(i:Int)∧i<n∧w.lock∉has i∧∃h∈t.held,h.lock=w.lock
theorem gN.one{t:eS}{n:Nat}{has:Nat->List Int}(h:gN t n has){k:Int}{a b:Int}(aD:(⟨k,a⟩:cM)∈t.held)(aa:(⟨k,b⟩:cM)∈t.held):a=b:=by
 have key:∀l:List cM,(l.Pairwise fun a b=>a.lock≠b.lock)->(⟨k,a⟩:cM)∈l->(⟨k,b⟩:cM)∈l->a=b:=by
  intro l;induction l with
  |nil=>intro _ h;cases h
  |cons x l ay=>
   intro ae h1 h2;rw[qd]at ae;rcases c7.1 h1 with ar|l1<;>rcases c7.1 h2 with au|k0
   ·rw[<-ar]at au;exact(cM.mk.inj au).2.symm
   ·subst ar;exact absurd (rfl:k=k) (ae.1 ⟨k,b⟩ k0)
   ·subst au;exact absurd (rfl:k=k) (ae.1 ⟨k,a⟩ l1)
   ·exact ay ae.2 l1 k0
 exact key _ h.uW aD aa
theorem gN.O7{t:eS}{n:Nat}{has:Nat->List Int}(h:gN t n has){k:Int}{i j:Nat}(hi:i<n)(aw:j<n)(h1:k∈has i)(h2:k∈has j):i=j:=by
 have:=h.one ((h.o4 k i).2 ⟨i,rfl,hi,h1⟩) ((h.o4 k j).2 ⟨j,rfl,aw,h2⟩);omega
theorem Rb{l:List cM}{k j:Int}(h:uk l k=some j):(⟨k,j⟩:cM)∈l:=by
 unfold uk at h;obtain⟨x,J,rfl⟩:=jC.1 h;have h1:=rV J;have h2:=yY J;simp only[hR]at h2;rw[<-h2];exact h1
theorem aAH{l:List cM}{k:Int}(h:uk l k=none):∀x∈l,x.lock≠k:=by
 unfold uk at h;rw[Hq,ux]at h;intro x J e;exact h x J (cF e)
theorem Qd{l:List cM}{i:Int}(h:um l i=none):∀x∈l,x.aR≠i:=by
 unfold um at h;rw[Hq,ux]at h;intro x J e;exact h x J (cF e)
theorem aFn:gN GN 0 fun _=>[]:=⟨.nil,fun k j=>⟨fun h=>by simp[GN]at h,fun⟨i,_,h,_⟩=>absurd h (Nat.not_lt_zero _)⟩,fun _=>List.nodup_nil,.nil,fun w h=>by simp[GN]at h⟩
theorem gN.start{t:eS}{n:Nat}{has:Nat->List Int}(h:gN t n has)(ag:has n=[]):gN t (n+1) has where
 uW:=h.uW
 o4:=fun k j=>by
  rw[h.o4 k j];constructor
  ·rintro⟨i,e,hi,hk⟩;exact⟨i,e,by omega,hk⟩
  ·rintro⟨i,e,hi,hk⟩;refine⟨i,e,?_,hk⟩;by_cases au:i=n
   ·subst au;rw[ag]at hk;cases hk
   ·omega
 sn:=h.sn
 vw:=h.vw
 qU:=fun w hw=>by
  obtain⟨i,e,hi,h1,h2⟩:=h.qU w hw;exact⟨i,e,by omega,h1,h2⟩
def kH(has:Nat->List Int)(i:Nat)(l:List Int):Nat->List Int:=fun j=>if j=i then l else has j
theorem lu(has:Nat->List Int)(i:Nat)(l:List Int):kH has i l i=l:=aF rfl
theorem jH(has:Nat->List Int){i j:Nat}(h:j≠i)(l:List Int):kH has i l j=has j:=az h
theorem gN.take{t:eS}{n:Nat}{has:Nat->List Int}(h:gN t n has){i:Nat}{k:Int}(hi:i<n)(hw:um t.waits i=none)(ah:uk t.held k=none):gN {t with held:=t.held++[⟨k,i⟩]} n (kH has i (has i++[k])):=by
 have bX:=aAH ah;have hk:∀j,j<n->k∉has j:=fun j aw hk=>bX _ ((h.o4 k j).2 ⟨j,rfl,aw,hk⟩) rfl
 refine⟨?_,fun k' j=>?_,fun j=>?_,h.vw,fun w gq=>?_⟩
 ·rw[uw];exact⟨h.uW,DF _ _,fun a aD b aa=>by rw[dA]at aa;subst aa;exact bX a aD⟩
 ·simp only[eX,dA];constructor
  ·rintro(h1|h1)
   ·obtain⟨eV,e,cv,fy⟩:=(h.o4 k' j).1 h1;refine⟨eV,e,cv,?_⟩;by_cases au:eV=i
    ·subst au;rw[lu];exact K9 _ fy
    ·rw[jH _ au];exact fy
   ·cases h1;exact⟨i,rfl,hi,by rw[lu];simp⟩
  ·rintro⟨eV,e,cv,fy⟩;by_cases au:eV=i
   ·subst au;rw[lu,eX,dA]at fy;rcases fy with fy|rfl
    ·exact .inl ((h.o4 k' j).2 ⟨eV,e,cv,fy⟩)
    ·exact .inr (by rw[e])
   ·rw[jH _ au]at fy;exact .inl ((h.o4 k' j).2 ⟨eV,e,cv,fy⟩)
 ·by_cases au:j=i
  ·subst au;rw[lu,List.nodup_append];exact⟨h.sn j,(by simp),fun a aD b aa e=>by rw[dA]at aa;subst aa;subst e;exact hk j hi aD⟩
  ·rw[jH _ au];exact h.sn j
 ·obtain⟨eV,e,cv,h1,x,J,h2⟩:=h.qU w gq;have aP:eV≠i:=fun au=>Qd hw w gq (by rw[e,au])
  exact⟨eV,e,cv,by rw[jH _ aP];exact h1,x,K9 _ J,h2⟩
theorem gN.wait{t:eS}{n:Nat}{has:Nat->List Int}(h:gN t n has){i:Nat}{k:Int}(hi:i<n)(hw:um t.waits i=none)(hk:k∉has i){j:Int}(ah:uk t.held k=some j):gN {t with waits:=t.waits++[⟨k,i⟩]} n has:=by
 refine⟨h.uW,h.o4,h.sn,?_,fun w gq=>?_⟩
 ·rw[uw];exact⟨h.vw,DF _ _,fun a aD b aa=>by rw[dA]at aa;subst aa;exact Qd hw a aD⟩
 ·rw[eX,dA]at gq;rcases gq with gq|rfl
  ·exact h.qU w gq
  ·exact⟨i,rfl,hi,hk,_,Rb ah,rfl⟩
def vp(has:Nat->List Int)(i:Nat)(k:Int):Option Int->Nat->List Int
 |none=>kH has i ((has i).filter fun x=> !decide (x=k))
 |some j=>kH (kH has i ((has i).filter fun x=> !decide (x=k))) j.toNat (has j.toNat++[k])
theorem aAI{l:List cM}{x:cM}(ae:l.Pairwise fun a b=>a.lock≠b.lock)(J:x∈l):∀y,y∈l.erase x↔y∈l∧y.lock≠x.lock:=by
 induction l with
 |nil=>cases J
 |cons a l ay=>
  rw[qd]at ae;intro y;by_cases e:a=x
  ·subst e;rw[List.erase_cons_head];constructor
   ·intro aG;exact⟨lf _ aG,fun e=>ae.1 y aG e.symm⟩
   ·rintro⟨aG,aP⟩;rcases c7.1 aG with rfl|aG
    ·exact absurd rfl aP
    ·exact aG
  ·have yo:x∈l:=(c7.1 J).resolve_left fun h=>e h.symm
   rw[List.erase_cons_tail (by simpa using e),c7,ay ae.2 yo y,c7]
   constructor
   ·rintro(rfl|⟨h1,h2⟩)
    ·exact⟨.inl rfl,ae.1 x yo⟩
    ·exact⟨.inr h1,h2⟩
   ·rintro⟨rfl|h1,h2⟩
    ·exact .inl rfl
    ·exact .inr ⟨h1,h2⟩
theorem Ry{l:List cM}{x:cM}(ae:l.Pairwise fun a b=>a.aR≠b.aR)(J:x∈l):∀y,y∈l.erase x↔y∈l∧y.aR≠x.aR:=by
 induction l with
 |nil=>cases J
 |cons a l ay=>
  rw[qd]at ae;intro y;by_cases e:a=x
  ·subst e;rw[List.erase_cons_head];constructor
   ·intro aG;exact⟨lf _ aG,fun e=>ae.1 y aG e.symm⟩
   ·rintro⟨aG,aP⟩;rcases c7.1 aG with rfl|aG
    ·exact absurd rfl aP
    ·exact aG
  ·have yo:x∈l:=(c7.1 J).resolve_left fun h=>e h.symm
   rw[List.erase_cons_tail (by simpa using e),c7,ay ae.2 yo y,c7]
   constructor
   ·rintro(rfl|⟨h1,h2⟩)
    ·exact⟨.inl rfl,ae.1 x yo⟩
    ·exact⟨.inr h1,h2⟩
   ·rintro⟨rfl|h1,h2⟩
    ·exact .inl rfl
    ·exact .inr ⟨h1,h2⟩
theorem C4{l:List Int}{k x:Int}:x∈l.filter (fun x=> !decide (x=k))↔x∈l∧x≠k:=by simp
theorem gN.free{t:eS}{n:Nat}{has:Nat->List Int}(h:gN t n has){i:Nat}{k:Int}(hi:i<n)(hk:k∈has i):
  gN (fo t i k).1 n (vp has i k (fo t i k).2)∧∀j,(fo t i k).2=some j->∃eV:Nat,j=(eV:Int)∧eV<n∧eV≠i∧(⟨k,j⟩:cM)∈t.waits:=by
 have hm:(⟨k,(i:Int)⟩:cM)∈t.held:=(h.o4 k i).2 ⟨i,rfl,hi,hk⟩;have Jj:=aAI h.uW hm;have We:∀j,j<n->j≠i->k∉has j:=fun j aw aP fy=>aP (h.O7 aw hi fy hk)
 have Jt:∀(k':Int) (j:Int),(⟨k',j⟩:cM)∈t.held.erase ⟨k,i⟩↔∃eV:Nat,j=(eV:Int)∧eV<n∧k'∈kH has i ((has i).filter fun x=> !decide (x=k)) eV:=fun k' j=>by
  rw[Jj,h.o4];constructor
  ·rintro⟨⟨eV,e,cv,fy⟩,aP⟩;refine⟨eV,e,cv,?_⟩;by_cases au:eV=i
   ·subst au;rw[lu,C4];exact⟨fy,aP⟩
   ·rw[jH _ au];exact fy
  ·rintro⟨eV,e,cv,fy⟩;by_cases au:eV=i
   ·subst au;rw[lu,C4]at fy;exact⟨⟨eV,e,cv,fy.1⟩,fy.2⟩
   ·rw[jH _ au]at fy;exact⟨⟨eV,e,cv,fy⟩,fun bd=>We eV cv au (by have bE:k'=k:=bd;rw[<-bE];exact fy)⟩
 have Wa:∀j,(kH has i ((has i).filter fun x=> !decide (x=k)) j).Nodup:=fun j=>by
  by_cases au:j=i
  ·subst au;rw[lu];exact(h.sn j).filter _
  ·rw[jH _ au];exact h.sn j
 unfold fo;rw[aF (by simpa using hm)]
 cases an:t.waits.find? fun w=>decide (w.lock=k)with
 |none=>
  refine⟨⟨h.uW.sublist (List.erase_sublist),Jt,Wa,h.vw,fun w hw=>?_⟩,fun j e=>by cases e⟩
  obtain⟨eV,e,cv,h1,x,J,h2⟩:=h.qU w hw;have aP:w.lock≠k:=fun e=>ux.1 an w hw (cF e)
  refine⟨eV,e,cv,?_,x,(Jj x).2 ⟨J,by rw[h2];exact aP⟩,h2⟩
  show w.lock∉kH has i _ eV;by_cases au:eV=i
  ·subst au;rw[lu,C4];exact fun h=>h1 h.1
  ·rw[jH _ au];exact h1
 |some w=>
  have kh:=rV an;have tR:w.lock=k:=by simpa using yY an
  obtain⟨eV,e,cv,h1,x,J,h2⟩:=h.qU w kh;have aP:eV≠i:=fun au=>h1 (by rw[tR,au];exact hk)
  have WB:w=⟨k,(eV:Int)⟩:=by rw[<-tR,<-e]
  have aJI:w.aR.toNat=eV:=by rw[e];rfl
  simp only[vp,aJI];have qt:k∉has eV:=We eV cv aP;refine⟨⟨?_,fun k' j=>?_,fun j=>?_,h.vw.sublist (List.erase_sublist),fun v aL=>?_⟩,fun j xX=>?_⟩
  ·rw[uw];refine⟨h.uW.sublist (List.erase_sublist),DF _ _,fun a aD b aa=>?_⟩
   rw[dA]at aa;subst aa;rw[tR];exact((Jj a).1 aD).2
  ·rw[eX,dA,Jt];constructor
   ·rintro(⟨p2,ar,mi,fy⟩|ar)
    ·refine⟨p2,ar,mi,?_⟩;by_cases au:p2=eV
     ·subst au;rw[jH _ aP]at fy;rw[lu];exact K9 _ fy
     ·rw[jH _ au];exact fy
    ·rw[WB]at ar;cases ar;exact⟨eV,rfl,cv,by rw[lu];simp⟩
   ·rintro⟨p2,ar,mi,fy⟩;by_cases au:p2=eV
    ·subst au;rw[lu,eX,dA]at fy;rcases fy with fy|rfl
     ·exact .inl ⟨p2,ar,mi,by rw[jH _ aP];exact fy⟩
     ·exact .inr (by rw[WB,ar])
    ·rw[jH _ au]at fy;exact .inl ⟨p2,ar,mi,fy⟩
  ·by_cases au:j=eV
   ·subst au;rw[lu,List.nodup_append];exact⟨h.sn j,(by simp),fun a aD b aa e=>by rw[dA]at aa;subst aa;subst e;exact qt aD⟩
   ·rw[jH _ au];exact Wa j
  ·obtain⟨OL,OM⟩:=(Ry h.vw kh v).1 aL;obtain⟨p2,ar,mi,aZ,y,aG,a7⟩:=h.qU v OL;have hW:p2≠eV:=fun au=>OM (by rw[ar,e,au])
   refine⟨p2,ar,mi,?_,?_⟩
   ·rw[jH _ hW];by_cases au:p2=i
    ·subst au;rw[lu,C4];exact fun h=>aZ h.1
    ·rw[jH _ au];exact aZ
   ·by_cases au:v.lock=k
    ·exact⟨w,by simp,by rw[tR,au]⟩
    ·exact⟨y,K9 _ ((Jj y).2 ⟨aG,by rw[a7];exact au⟩),a7⟩
  ·simp only[yZ]at xX;subst xX;exact⟨eV,e,cv,aP,by rw[<-tR];exact kh⟩
def EA(has:Nat->List Int)(g:List cM):Nat->List Int:=g.foldl (fun has h=>kH has h.aR.toNat (has h.aR.toNat++[h.lock])) has
theorem gN.ER{n:Nat}{i:Nat}(hi:i<n):∀(l:List cM) (s:eS×List cM) (has:Nat->List Int),gN s.1 n has->(l.Pairwise fun a b=>a.lock≠b.lock)->(∀k,k∈has i↔(⟨k,i⟩:cM)∈l)->
  ∃g,(nx i l s).2=s.2++g∧gN (nx i l s).1 n (EA (kH has i []) g)∧(∀h∈g,∃j:Nat,h.aR=(j:Int)∧j<n∧j≠i∧h∈s.1.waits∧h.lock∈has i)∧∀w∈(nx i l s).1.waits,w∈s.1.waits:=by
 intro l;induction l with
 |nil=>
  intro s has h _ hk;have e:has i=[]:=List.eq_nil_iff_forall_not_mem.2 fun k fy=>by have:=(hk k).1 fy;cases this
  refine⟨[],by simp[nx],?_,fun h ah=>(by cases ah),fun w hw=>hw⟩
  have:kH has i []=has:=funext fun j=>by
   by_cases au:j=i
   ·subst au;rw[lu,e]
   ·rw[jH _ au]
  rw[this];exact h
 |cons x l ay=>
  intro s has h ae hk;rw[qd]at ae;by_cases J:x.aR=(i:Int)
  ·have FV:x.lock∈has i:=(hk x.lock).2 (by rw[<-J];exact List.mem_cons_self)
   obtain⟨h1,h2⟩:=h.free hi FV;have ar:vp has i x.lock (fo s.1 i x.lock).2 i=(has i).filter fun y=> !decide (y=x.lock):=by
    cases an:(fo s.1 i x.lock).2 with
    |none=>exact lu _ _ _
    |some j=>
     obtain⟨eV,e, -,aP, -⟩:=h2 j an;show kH _ j.toNat _ i=_;rw[jH _ (by rw[e];simpa using aP.symm),lu]
   have JJ:∀k,k∈vp has i x.lock (fo s.1 i x.lock).2 i->k∈has i:=fun k fy=>by rw[ar,C4]at fy;exact fy.1
   have hX:∀k,k∈vp has i x.lock (fo s.1 i x.lock).2 i↔(⟨k,i⟩:cM)∈l:=fun k=>by
    rw[ar,C4,hk,c7];constructor
    ·rintro⟨rfl|h3,h4⟩
     ·exact absurd rfl h4
     ·exact h3
    ·intro h3;exact⟨.inr h3,fun e=>ae.1 _ h3 e.symm⟩
   have ca:∀w∈(fo s.1 i x.lock).1.waits,w∈s.1.waits:=fun w hw=>by
    unfold fo at hw;split at hw
    ·split at hw
     ·exact hw
     ·exact List.mem_of_mem_erase hw
    ·exact hw
   unfold nx;rw[aF J];cases an:(fo s.1 i x.lock).2 with
   |none=>
    rw[an]at h1 hX JJ;simp only;obtain⟨g,aZ,a7,ch,fc⟩:=ay ((fo s.1 i x.lock).1,s.2) _ h1 ae.2 hX;refine⟨g,aZ,?_,fun h ah=>?_,fun w hw=>ca w (fc w hw)⟩
    ·have:kH (vp has i x.lock none) i []=kH has i []:=funext fun j=>by
      by_cases au:j=i
      ·subst au;rw[lu,lu]
      ·rw[jH _ au,jH _ au];exact jH _ au _
     rw[this]at a7;exact a7
    ·obtain⟨j,aQ,aO,bF,c9,eA⟩:=ch h ah;exact⟨j,aQ,aO,bF,ca h c9,JJ _ eA⟩
   |some k=>
    rw[an]at h1 hX JJ;simp only;obtain⟨j,e,aw,aP,ye⟩:=h2 k an;obtain⟨g,aZ,a7,ch,fc⟩:=ay ((fo s.1 i x.lock).1,s.2++[⟨x.lock,k⟩]) _ h1 ae.2 hX;refine⟨⟨x.lock,k⟩::g,by rw[aZ,cr];rfl,?_,fun h ah=>?_,fun w hw=>ca w (fc w hw)⟩
    ·have:kH (vp has i x.lock (some k)) i []=kH (kH has i []) k.toNat (kH has i [] k.toNat++[x.lock]):=funext fun q=>by
      have lE:k.toNat=j:=by rw[e];rfl
      simp only[vp,lE];by_cases au:q=i
      ·subst au;rw[lu,jH _ (by exact fun e=>aP e.symm),lu]
      ·rw[jH _ au];by_cases bd:q=j
       ·subst bd;rw[lu,lu,jH _ au]
       ·rw[jH _ bd,jH _ bd,jH _ au,jH _ au]
     rw[this]at a7;exact a7
    ·rcases c7.1 ah with rfl|ah
     ·exact⟨j,e,aw,aP,ye,FV⟩
     ·obtain⟨p2,aQ,aO,bF,c9,eA⟩:=ch h ah;exact⟨p2,aQ,aO,bF,ca h c9,JJ _ eA⟩
  ·unfold nx;rw[az J];refine ay s has h ae.2 fun k=>?_
   rw[hk,c7];exact⟨fun h=>h.resolve_left fun e=>J (by rw[<-e]),.inr⟩
theorem gN.drop{t:eS}{n:Nat}{has:Nat->List Int}(h:gN t n has){i:Nat}(hi:i<n):
  gN (jX t i).1 n (EA (kH has i []) (jX t i).2)∧(∀h∈(jX t i).2,∃j:Nat,h.aR=(j:Int)∧j<n∧j≠i∧h∈t.waits∧h.lock∈has i)∧∀w∈(jX t i).1.waits,w∈t.waits∧w.aR≠i:=by
 have aC:gN (⟨t.held,t.waits.filter fun w=> !decide (w.aR=i)⟩:eS) n has:=⟨h.uW,h.o4,h.sn,h.vw.sublist List.filter_sublist,fun w hw=>h.qU w ((km.1 hw).1)⟩
 obtain⟨g,aZ,a7,ch,fc⟩:=gN.ER hi t.held (⟨t.held,t.waits.filter fun w=> !decide (w.aR=i)⟩,[]) has aC h.uW fun k=>by
  rw[h.o4];exact⟨fun hk=>⟨i,rfl,hi,hk⟩,fun⟨j,e,_,hk⟩=>(show i=j by omega)▸hk⟩
 have e:(jX t i).2=g:=aZ;rw[e];refine⟨a7,fun h ah=>?_,fun w hw=>?_⟩
 ·obtain⟨j,aQ,aO,bF,c9,eA⟩:=ch h ah;exact⟨j,aQ,aO,bF,(km.1 c9).1,eA⟩
 ·have:=fc w hw;simp only[km,nk,nm]at this;exact this
end
section
theorem aDF(l:List Int):(l.flatMap Lib.encodeRune).length<=4 * l.length:=by
 induction l with
 |nil=>simp
 |cons x l ay=>
  have:=(Lib.encodeRuneZ_length x).2;have e:(Lib.encodeRune x).length=(Lib.encodeRuneZ x).length:=by simp[Lib.encodeRune]
  grind
theorem PN{s:aM}(h:qC s=true):s.length<=80:=by
 unfold qC at h;cases hs:rI s with
 |none=>rw[hs]at h;simp at h
 |some l=>
  rw[hs]at h;have e:=(Kb hs).1;have:=aDF l;grind
theorem Qe{o:bf}(h:dk o=true):o.name.length<=80∧o.data.length<=64:=by
 unfold dk at h;simp only[dD]at h;obtain⟨⟨⟨h1,h2⟩,h3⟩,h4⟩:=h;split at h4
 ·unfold xg at h4;simp only[dD,hR]at h4;exact⟨PN h4.1.2,by rw[h4.2];simp⟩
 ·unfold xI at h4;grind
theorem TA{o:bf}(h:dk o=true):pz o:=⟨by have:=(Qe h).1;omega,by have:=(Qe h).2;omega⟩
theorem YW(l:List bf)(es:List eH)(n:List aB):(fb l es n).2=l.foldl ed n:=by
 induction l generalizing es n with
 |nil=>rfl
 |cons o l ay=>rw[fb,ay];rfl
theorem PO{g:hy}(h:Good g):g.nodes=(dN g).foldl ed []:=by
 have e:=h.log;have:(fJ (dN g)).nodes=(dN g).foldl ed []:=YW _ _ _;rw[<-e]at this;exact this
structure y9 (q:Int) (n:aB):Prop where
 name:n.name.length<=80
 data:n.data.length<=64
 id:jR n.id<=q
 par:jR n.parent<=q
theorem Sa{a b n:Int}(h:ub a b n=false)(aD:0<=a):jR n<=a:=by
 unfold ub at h;cases aN:gm n with
 |false=>unfold jR;rw[aN];simpa using aD
 |true=>
  rw[aN,hG]at h;have:¬xH a b (jR n) (w5 n)=true:=by rw[h];simp
  rw[GV]at this;omega
theorem aHj:jR (-1)=0:=by decide
theorem aHH:jR 2=0:=by decide
theorem UO:jR 0=0:=by decide
theorem PQ{o:bf}(h:dk o=true):1<=o.at_.c∧o.at_.c<=1048576∧0<=o.at_.r∧o.at_.r<=63∧jR o.node<=o.at_.c∧jR o.parent<=o.at_.c∧gm o.node=true∧(o.kind=1∨o.kind=2):=by
 have hk:=LW h;unfold dk at h;simp only[dD,nk]at h;obtain⟨⟨⟨h1,h2⟩,h3⟩,h4⟩:=h;rw[uh]at h2;refine⟨h2.1,h2.2.1,h2.2.2.1,h2.2.2.2,Sa h3 (by omega),?_,?_,hk⟩
 ·split at h4
  ·unfold xg at h4;simp only[dD,nk]at h4;exact Sa h4.1.1.2 (by omega)
  ·grind [xI,UO]
 ·split at h4
  ·unfold xg at h4;simp only[dD]at h4;exact h4.1.1.1.1
  ·unfold xI at h4;simp only[dD]at h4;exact h4.1.1.1.1
theorem A3{l:List aB}{x:Int}{n:aB}(h:e1 l x=some n):n∈l∧n.id=x:=by
 unfold e1 at h;exact⟨rV h,by simpa using yY h⟩
theorem aFo{q:Int}{l:List aB}{o:bf}(h:∀n∈l,y9 q n)(aN:dk o=true)(aS:o.at_.c<=q):∀n∈ed l o,y9 q n:=by
 cases ax:refused l o with
 |true=>grind [ed]
 |false=>
  rw[u9 ax];obtain⟨cK, -, -, -,yH,O8, -,hk⟩:=PQ aN;obtain⟨s1,s2⟩:=Qe aN;have hw:y9 q (n9 l o):=by
   unfold n9;split
   ·rename_i n an;exact h n (A3 an).1
   ·grind [sS,aHj,Int,List,bf,y9,dk,ed]
  intro n ag;rcases SJ ag with rfl|ag
  ·unfold iR;have ia:(n9 l o).id=o.node:=by
    have:=Au l o;unfold iR at this;split at this<;>exact this
   split
   ·exact⟨s1,hw.data,hw.id,by simp only;omega⟩
   ·exact⟨hw.name,s2,hw.id,hw.par⟩
  ·exact h n ag
theorem aAJ{q:Int}(s:List bf){l:List aB}(h:∀n∈l,y9 q n)(hs:∀o∈s,dk o=true∧o.at_.c<=q):∀n∈s.foldl ed l,y9 q n:=by
 induction s generalizing l with
 |nil=>exact h
 |cons o s ay=>exact ay (aFo h (hs o (by simp)).1 (hs o (by simp)).2) fun o aN=>hs o (lf _ aN)
theorem YX(l:List bf)(n:List aB):(l.foldl ed n).length<=n.length+l.length:=by
 induction l generalizing n with
 |nil=>exact bk _
 |cons o l ay=>have:=ay (ed n o);have:=LQ n o;grind
structure vP (q:Int) (l:List aB):Prop where
 lU:lN l
 len:l.length<=200
 fq:∀n∈l,y9 q n
theorem vP.up{q r:Int}{l:List aB}(h:vP q l)(aS:q<=r):vP r l:=⟨h.lU,h.len,fun n ag=>⟨(h.fq n ag).name,(h.fq n ag).data,yX (h.fq n ag).id aS,yX (h.fq n ag).par aS⟩⟩
structure ey (m:cb):Prop where
 ob:Good m.log
 cap:m.log.entries.length<=200
 ti:∀o∈dN m.log,o.at_.c<=m.seen
 seen:0<=m.seen
 rep:0<=m.rep∧m.rep<=63
 cj:m.cj.length<=8
 snap:∀s∈m.cj,vP m.seen s.nodes
 bN:m.bN.length<=8
 watch:∀w∈m.bN,dy w.dir=true∧w.bV.length<=9∧(w.over=false->w.bV.length<=8)
theorem ey.aLg{m:cb}(h:ey m):(dN m.log).length<=200:=by rw[dN,cP];exact h.cap
theorem ey.nodes{m:cb}(h:ey m):vP m.seen m.log.nodes:=by
 rw[PO h.ob];refine⟨aAD _ aEa,?_,aAJ _ (fun n ag=>by cases ag) fun o aN=>⟨h.ob.ok o aN,h.ti o aN⟩⟩
 have:=YX (dN m.log) [];have:=h.aLg;grind
theorem TB{r:Int}{m:cb}(h:ng r=(m,0)):ey m:=by
 unfold ng at h;split at h
 ·rename_i ax;cases h;exact⟨aBE,by simp[rH],by simp[dN,rH],iM _,ax,by simp[rH],by simp[rH],by simp[rH],by simp[rH]⟩
 ·cases h
theorem aBc(l:List aB):∀(names:List aM) (x d:Int),jo l x names=(d,0)->(names=[]∧d=x)∨∃n∈l,n.id=d:=by
 intro names;induction names with
 |nil=>grind [List,Int,jo]
 |cons s names ay=>
  intro x d h;rw[jo]at h;split at h
  ·cases al:fp l x s with
   |none=>rw[al]at h;cases h
   |some n=>
    rw[al]at h;rcases ay n.id d h with⟨-,rfl⟩|h
    ·exact .inr ⟨n,(Da al).2.1,rfl⟩
    ·exact .inr h
  ·cases h
theorem Lm{l:List aB}{names:List aM}{d:Int}(h:fg l names=(d,0)):(names=[]∧d=0)∨∃n∈l,n.id=d:=aBc l names 0 d h
theorem Tt{l:List aB}{p:aM}{d:Int}(h:fL l p=(d,0)):∃b7,gl p=some b7∧((b7=[]∧d=0)∨∃n∈l,n.id=d):=by
 grind [fL,gl,Lm]
theorem aDG{q:Int}{l:List aB}{b7:List aM}{d:Int}(hl:vP q l)(aS:0<=q)(h:fg l b7=(d,0)):jR d<=q:=by
 rcases Lm h with⟨-,rfl⟩|⟨n,ag,rfl⟩
 ·rw[UO];exact aS
 ·exact(hl.fq n ag).id
theorem KV{p:aM}{l:List aM}(h:gl p=some l):∀s∈l,qC s=true:=by
 unfold gl at h;grind [gl,v5,gT]
theorem Mq{q:Int}{l:List aB}{p:aM}{d:Int}{s:aM}(hl:vP q l)(aS:0<=q)(h:jF l p=(d,s,0)):dy d=true∧jR d<=q∧qC s=true:=by
 unfold jF at h;split at h
 ·cases h
 ·cases h
 ·rename_i x xs ag;split at h
  ·rename_i aC;split at h
   ·rename_i hd;cases h;refine⟨hd,aDG hl aS (show fg l (x::xs).dropLast=((fg l (x::xs).dropLast).1,0) by rw[<-aC]),?_⟩
    exact KV ag _ (List.getLast_mem _)
   ·cases h
  grind
end
section
theorem SO{m:cb}{s:jj}(h:g8 m=(s,0)):vk m.seen m.rep=true∧m.log.entries.length<200∧s=⟨m.seen+1,m.rep⟩:=by
 unfold g8 at h;split at h
 ·cases h
 ·rename_i h1;split at h
  ·cases h
  ·rename_i h2;cases h;exact⟨by simpa using h1,by omega,rfl⟩
def uf(m:cb)(o:bf):cb:={m with log:=gA m.log o,seen:=m.seen+1}
theorem HU{d:cS}(h:ey d.m){o:bf}(ag:(g8 d.m).2=0)(aN:dk {o with at_:=⟨d.m.seen+1,d.m.rep⟩}=true):
  ta d o=(0,{d with m:=uf d.m {o with at_:=⟨d.m.seen+1,d.m.rep⟩},ops:=d.ops++[{o with at_:=⟨d.m.seen+1,d.m.rep⟩}]}):=by
 obtain⟨s,hs⟩:∃s,g8 d.m=(s,0):=⟨_,by rw[<-ag]⟩
 obtain⟨h1,h2,rfl⟩:=SO hs;have aD:r0 d.m.log {o with at_:=⟨d.m.seen+1,d.m.rep⟩}=0:=by
  unfold r0;rw[az (by rw[aN];simp)]
  split
  ·rfl
  ·rw[az (by omega)]
 unfold ta;simp only[hs,dI];unfold oD;rw[aD];rfl
theorem LG{d:cS}{o:bf}(ag:(g8 d.m).2≠0):ta d o=((g8 d.m).2,d):=by
 unfold ta;rw[az ag]
theorem yD{m:cb}(ag:(g8 m).2=0):(g8 m).1=⟨m.seen+1,m.rep⟩∧0<=m.seen∧m.seen<1048576∧0<=m.rep∧m.rep<=63∧m.log.entries.length<200:=by
 obtain⟨s,hs⟩:∃s,g8 m=(s,0):=⟨_,by rw[<-ag]⟩
 obtain⟨h1,h2,rfl⟩:=SO hs;rw[GA]at h1;exact⟨by rw[hs],h1.1,h1.2.1,h1.2.2.1,h1.2.2.2,h2⟩
theorem Ui{a b:Int}{d:Bool}(h1:1<=a)(h2:a<=1048576)(h3:0<=b)(h4:b<=63):gm (nM a b d)=true∧jR (nM a b d)=a∧w5 (nM a b d)=b∧ve (nM a b d)=d:=by
 have hk:ox a b=true:=by rw[uh];exact⟨h1,h2,h3,h4⟩
 have e:nM a b d=128 * a+2 * b+(if d then 1 else 0):=by rw[nM,aF hk]
 have aN:gm (nM a b d)=true:=by rw[e,DC];cases d<;>simp<;>omega
 refine⟨aN,?_,?_,?_⟩
 ·rw[jR,aF aN,e];cases d<;>simp<;>omega
 ·rw[w5,aF aN,e];cases d<;>simp<;>omega
 ·rw[ve,aN,e];cases d<;>simp<;>omega
theorem KW{a b n:Int}(h:jR n<a):ub a b n=false:=by
 unfold ub;cases gm n with
 |false=>rfl
 |true=>
  rw[hG,vC,Ne,GV];omega
theorem aBd{a b n:Int}(h1:jR n=a)(h2:w5 n=b):ub a b n=false:=by
 unfold ub;rw[h1,h2];cases gm n with
 |false=>rfl
 |true=>
  rw[hG,vC,Ne,GV];omega
theorem LH{a b n p:Int}{s:aM}(h1:1<=a)(h2:a<=1048576)(h3:0<=b)(h4:b<=63)(ag:gm n=true)(hl:ub a b n=false)(ae:dy p=true)(iU:jR p<a)(hs:qC s=true):dk ⟨⟨a,b⟩,1,n,p,s,[]⟩=true:=by
 unfold dk;have hk:ox a b=true:=by rw[uh];exact⟨h1,h2,h3,h4⟩
 simp only[hk,hl];unfold xg;simp[ag,ae,hs,KW iU]
theorem aBe{a b n:Int}{t:aM}(h1:1<=a)(h2:a<=1048576)(h3:0<=b)(h4:b<=63)(ag:gm n=true)(al:ve n=true)(hl:ub a b n=false)(aj:t.length<=64):dk ⟨⟨a,b⟩,2,n,0,[],t⟩=true:=by
 unfold dk;have hk:ox a b=true:=by rw[uh];exact⟨h1,h2,h3,h4⟩
 simp only[hk,hl];unfold xI;simp only[ag,al];simp;omega
theorem aDH{g:hy}(aJ:Good g)(o:bf):∀x∈dN (gA g o),x=o∨x∈dN g:=by
 intro x J;rcases(AD aJ o).2 with⟨e, -, -⟩|⟨e, -, -⟩
 ·rw[e]at J;exact .inr J
 ·rw[e]at J;exact AK.1 J
theorem aFp{m:cb}(h:ey m){o:bf}(aN:o.at_.c<=m.seen+1)(ak:m.log.entries.length<200):ey (uf m o) where
 ob:=(AD h.ob o).1
 cap:=by have:=(KS m.log o).1;unfold uf;simp only;omega
 ti:=fun x J=>by
  rcases aDH h.ob o x J with rfl|J
  ·exact aN
  ·exact yX (h.ti x J) (by show m.seen<=m.seen+1;omega)
 seen:=by have:=h.seen;show 0<=m.seen+1;omega
 rep:=h.rep
 cj:=h.cj
 snap:=fun s hs=>(h.snap s hs).up (by show m.seen<=m.seen+1;omega)
 bN:=h.bN
 watch:=h.watch
theorem aBf(e:List dS)(b:Bool)(l:List dS)(he:e.length<=9∧(b=false->e.length<=8)):(po e b l).1.length<=9∧((po e b l).2=false->(po e b l).1.length<=8):=by
 unfold po;cases b with
 |true=>exact⟨he.1,fun h=>by cases h⟩
 |false=>
  have:=he.2 rfl;rw[az (by simp)]
  split
  ·refine⟨?_,fun h=>by cases h⟩
   simp only[bt,e8,cm,ew];omega
  ·rename_i h;simp only[bt];exact⟨by omega,fun _=>by omega⟩
theorem aDI{d:cS}(h:ey d.m)(b4:List aB):ey (xJ b4 d).m where
 ob:=h.ob
 cap:=h.cap
 ti:=h.ti
 seen:=h.seen
 rep:=h.rep
 cj:=h.cj
 snap:=h.snap
 bN:=by show(d.m.bN.map _).length<=8;rw[cP];exact h.bN
 watch:=fun w hw=>by
  obtain⟨v,aL,rfl⟩:=bP.1 hw;obtain⟨h1,h2⟩:=h.watch v aL;exact⟨h1,aBf _ _ _ h2⟩
theorem Km{m:cb}(h:ey m){s:List n4}{w:List jV}{n:Int}(h1:s.length<=8)(h2:∀x∈s,vP m.seen x.nodes)(h3:w.length<=8)(h4:∀x∈w,dy x.dir=true∧x.bV.length<=9∧(x.over=false->x.bV.length<=8)):
  ey {m with cj:=s,bN:=w,next:=n}:=
 ⟨h.ob,h.cap,h.ti,h.seen,h.rep,h1,h2,h3,h4⟩
theorem YY(n:Int)(l:List jV):(xc n l).length=l.length∧∀w∈xc n l,∃v∈l,w.dir=v.dir∧w.n=v.n∧w.over=v.over∧(w.bV=v.bV∨w.bV=[]):=by
 induction l with
 |nil=>exact⟨rfl,fun w hw=>by cases hw⟩
 |cons x l ay=>
  unfold xc;split
  ·refine⟨rfl,fun w hw=>?_⟩
   rcases c7.1 hw with rfl|hw
   ·exact⟨x,by simp,rfl,rfl,rfl,.inr rfl⟩
   ·exact⟨w,lf _ hw,rfl,rfl,rfl,.inl rfl⟩
  ·refine⟨by simp[ay.1],fun w hw=>?_⟩
   rcases c7.1 hw with rfl|hw
   ·exact⟨w,by simp,rfl,rfl,rfl,.inl rfl⟩
   ·obtain⟨v,aL,q⟩:=ay.2 w hw;exact⟨v,lf _ aL,q⟩
end
section
theorem aFq{n:Int}(h:gm n=true)(hd:dy n=false):ve n=true:=by
 unfold dy at hd;simp only[h,hG,xl,Bool.not_eq_false']at hd;exact hd.2
theorem A4{l:List aB}(h:lN l){n:aB}(ag:n∈l):gm n.id=true:=((yC l).1 h.cC).1 n ag
def zA(m:cb)(c:b3)(dir:Int)(s:aM):bf:=⟨⟨m.seen+1,m.rep⟩,1,nM (m.seen+1) m.rep (decide (c.kind=1)),dir,s,[]⟩
def zC(d:cS)(o:bf):Int×cS:=(0,{d with m:=uf d.m o,ops:=d.ops++[o]})
theorem Kn{c:b3}{d:cS}(h:ey d.m):(∃e,e≠0∧ze c d=(e,d))∨
  ∃dir s,c.path≠[47]∧jF d.m.log.nodes c.path=(dir,s,0)∧fp d.m.log.nodes dir s=none∧(g8 d.m).2=0∧dk (zA d.m c dir s)=true∧ze c d=zC d (zA d.m c dir s):=by
 unfold ze;by_cases h1:c.path=[47]
 ·simp_all
 rw[az h1];obtain⟨⟨dir,s,e⟩,aD⟩:∃x,jF d.m.log.nodes c.path=x:=⟨_,rfl⟩;rw[aD];simp only;by_cases h2:e=0
 ·subst h2;rw[aF rfl];obtain⟨dq,bZ,dO⟩:=Mq h.nodes h.seen aD;cases al:fp d.m.log.nodes dir s with
  |some n=>exact .inl ⟨190,by decide,aF rfl⟩
  |none=>
   rw[az (by simp)]
   by_cases h3:(g8 d.m).2=0
   ·rw[aF h3];obtain⟨fK,g7,kG,qE,qF,J4⟩:=yD h3;rw[fK];obtain⟨i1,i2,i3,i4⟩:=Ui (d:=decide (c.kind=1)) (show 1<=d.m.seen+1 by omega) (show d.m.seen+1<=1048576 by omega) qE qF
    have bl:dk (zA d.m c dir s)=true:=LH (by omega) (by omega) qE qF i1 (aBd i2 i3) dq (by omega) dO
    exact .inr ⟨dir,s,h1,rfl,al,h3,bl,HU h h3 bl⟩
   ·rw[az h3];exact .inl ⟨_,h3,rfl⟩
 ·rw[az h2];exact .inl ⟨e,h2,rfl⟩
def Ea(m:cb)(c:b3)(id:Int):bf:=⟨⟨m.seen+1,m.rep⟩,2,id,0,[],c.data⟩
theorem Kc{c:b3}{d:cS}(h:ey d.m)(hd:c.data.length<=64):(∃e,e≠0∧A1 c d=(e,d))∨
  ∃id,fL d.m.log.nodes c.path=(id,0)∧dy id=false∧(g8 d.m).2=0∧dk (Ea d.m c id)=true∧A1 c d=zC d (Ea d.m c id):=by
 unfold A1;obtain⟨⟨id,e⟩,aD⟩:∃x,fL d.m.log.nodes c.path=x:=⟨_,rfl⟩;rw[aD];simp only;by_cases h2:e=0
 ·subst h2;rw[aF rfl];cases fl:dy id with
  |true=>grind
  |false=>
   rw[az (by simp)]
   by_cases h3:(g8 d.m).2=0
   ·obtain⟨fK,g7,kG,qE,qF,J4⟩:=yD h3;obtain⟨b7, -,⟨-,rfl⟩|⟨n,ag,rfl⟩⟩:=Tt aD
    ·cases fl
    ·have aN:=A4 h.nodes.lU ag;have bl:dk (Ea d.m c n.id)=true:=aBe (by omega) (by omega) qE qF aN (aFq aN fl) (KW (by have:=(h.nodes.fq n ag).id;omega)) hd
     exact .inr ⟨n.id,rfl,fl,h3,bl,HU h h3 bl⟩
   ·exact .inl ⟨_,h3,LG h3⟩
 ·rw[az h2];exact .inl ⟨e,h2,rfl⟩
def rK(m:cb)(id dir:Int)(s:aM):bf:=⟨⟨m.seen+1,m.rep⟩,1,id,dir,s,[]⟩
theorem Uj{m:cb}(h:ey m){p:aM}{id:Int}(ae:p≠[47])(aD:fL m.log.nodes p=(id,0)):gm id=true∧jR id<=m.seen∧∃n∈m.log.nodes,n.id=id:=by
 obtain⟨b7,ag,⟨lG, -⟩|⟨n,ag,rfl⟩⟩:=Tt aD
 ·subst lG;unfold gl at ag;rw[az ae]at ag;split at ag
  ·cases ag
  ·split at ag
   ·split at ag
    ·exact absurd (nY ag) (Kz _ _)
    ·cases ag
   ·cases ag
 ·exact⟨A4 h.nodes.lU ag,(h.nodes.fq n ag).id,n,ag,rfl⟩
theorem Ko{c:b3}{d:cS}(h:ey d.m):(∃e,e≠0∧zf c d=(e,d))∨
  ∃id dir s,c.path≠[47]∧c.to≠[47]∧fL d.m.log.nodes c.path=(id,0)∧jF d.m.log.nodes c.to=(dir,s,0)∧fp d.m.log.nodes dir s=none∧dir≠id∧(nb d.m.log.nodes dir).contains id=false∧(g8 d.m).2=0∧
   dk (rK d.m id dir s)=true∧zf c d=zC d (rK d.m id dir s):=by
 unfold zf;by_cases h1:c.path=[47]∨c.to=[47]
 ·simp_all
 rw[az h1];obtain⟨⟨id,e⟩,aD⟩:∃x,fL d.m.log.nodes c.path=x:=⟨_,rfl⟩;rw[aD];simp only;by_cases h2:e=0
 ·subst h2;rw[aF rfl];obtain⟨⟨dir,s,f⟩,aa⟩:∃x,jF d.m.log.nodes c.to=x:=⟨_,rfl⟩;rw[aa];simp only;by_cases h3:f=0
  ·subst h3;rw[aF rfl];obtain⟨dq,bZ,dO⟩:=Mq h.nodes h.seen aa;cases al:fp d.m.log.nodes dir s with
   |some n=>exact .inl ⟨190,by decide,aF rfl⟩
   |none=>
    rw[az (by simp)]
    by_cases h4:dir=id∨(nb d.m.log.nodes dir).contains id=true
    ·rw[aF h4];exact .inl ⟨192,by decide,rfl⟩
    rw[az h4];by_cases cz:(g8 d.m).2=0
    ·obtain⟨fK,g7,kG,qE,qF,J4⟩:=yD cz;obtain⟨C6,AE, -⟩:=Uj h (fun e=>h1 (.inl e)) aD
     have bl:dk (rK d.m id dir s)=true:=LH (by omega) (by omega) qE qF C6 (KW (by omega)) dq (by omega) dO
     exact .inr ⟨id,dir,s,fun e=>h1 (.inl e),fun e=>h1 (.inr e),rfl,rfl,al,fun e=>h4 (.inl e),by simpa using fun e=>h4 (.inr e),cz,bl,HU h cz bl⟩
    ·exact .inl ⟨_,cz,LG cz⟩
  ·rw[az h3];exact .inl ⟨f,h3,rfl⟩
 ·rw[az h2];exact .inl ⟨e,h2,rfl⟩
theorem J2{c:b3}{d:cS}(h:ey d.m):(∃e,e≠0∧AO c d=(e,d))∨
  ∃id s,c.path≠[47]∧fL d.m.log.nodes c.path=(id,0)∧(∃x xs,gl c.path=some (x::xs)∧s=(x::xs).getLast (by simp))∧(g8 d.m).2=0∧dk (rK d.m id 2 s)=true∧AO c d=zC d (rK d.m id 2 s):=by
 unfold AO;by_cases h1:c.path=[47]
 ·simp_all
 rw[az h1];obtain⟨⟨id,e⟩,aD⟩:∃x,fL d.m.log.nodes c.path=x:=⟨_,rfl⟩;rw[aD];simp only;by_cases h2:e=0
 ·subst h2;rw[aF rfl];split
  ·rename_i x xs ag;by_cases cz:(g8 d.m).2=0
   ·obtain⟨fK,g7,kG,qE,qF,J4⟩:=yD cz;obtain⟨C6,AE, -⟩:=Uj h h1 aD;have bl:dk (rK d.m id 2 ((x::xs).getLast (by simp)))=true:=LH (by omega) (by omega) qE qF C6 (KW (by omega)) (by decide) (by rw[aHH];omega) (KV ag _ (List.getLast_mem _))
    exact .inr ⟨id,_,h1,rfl,⟨x,xs,ag,rfl⟩,cz,bl,HU h cz bl⟩
   ·exact .inl ⟨_,cz,LG cz⟩
  ·exact .inl ⟨194,by decide,rfl⟩
 ·rw[az h2];exact .inl ⟨e,h2,rfl⟩
theorem aBg{b r:aM}{o:bf}(h:sU b=some (o,r)):dk o=true:=by
 grind [sU,xn]
theorem aBh:∀(k:Nat) (b:aM) (l:List bf),qH k b=some l->∀o∈l,dk o=true:=by
 intro k;induction k with
 |zero=>
  grind [qH]
 |succ k ay=>
  intro b l h;unfold qH at h;split at h
  ·cases h;intro o aN;cases aN
  ·simp only[xn]at h;obtain⟨⟨o,r⟩,h1,h2⟩:=h;simp only[jC]at h2;obtain⟨t,h3,rfl⟩:=h2;intro x J;rcases c7.1 J with rfl|J
   ·exact aBg h1
   ·exact ay r t h3 x J
theorem KX{b:aM}{l:List bf}(h:oB b=some l):∀o∈l,dk o=true:=aBh _ _ _ h
theorem KB(g:hy):∀(l acc:List bf),∀x∈gn g acc l,x∈acc∨x∈l:=by
 intro l;induction l<;>grind [gn]
theorem aDJ:∀(l:List bf) (d:cS),(∀o∈l,dk o=true)->d.m.log.entries.length+l.length<=200->nd d l=(0,{d with m:={d.m with log:=l2 d.m.log l},ops:=d.ops++l}):=by
 intro l;induction l with
 |nil=>intro d _ _;simp[nd,l2]
 |cons o l ay=>
  intro d aN al;rw[cm]at al;have aD:r0 d.m.log o=0:=by
   unfold r0;grind
  have hk:oD d o=(0,{d with m:={d.m with log:=gA d.m.log o},ops:=d.ops++[o]}):=by unfold oD;rw[aF aD]
  have hl:=(KS d.m.log o).1;rw[nd,hk];simp only[dI];rw[ay _ (fun x J=>aN x (lf _ J)) (by simp only;omega)]
  simp[l2]
theorem KC(l:List bf):∀(n:Int),n<=l.foldl (fun n o=>ov n o.at_) n∧∀o∈l,dk o=true->o.at_.c<=l.foldl (fun n o=>ov n o.at_) n:=by
 induction l with
 |nil=>grind
 |cons x l ay=>
  intro n;obtain⟨i1,i2⟩:=ay (ov n x.at_);have h1:n<=ov n x.at_:=by unfold ov;split<;>omega
  refine⟨yX h1 i1,fun o aN bl=>?_⟩
  rcases c7.1 aN with rfl|aN
  ·refine yX ?_ i1;obtain⟨cK,dc,ei,oy, -⟩:=PQ bl;unfold ov;rw[aF (by rw[uh];exact⟨cK,dc,ei,oy⟩)]
   omega
  ·exact i2 o aN bl
theorem aDK(l:List bf):∀g:hy,(l2 g l).entries.length<=g.entries.length+l.length:=by
 induction l with
 |nil=>exact fun g=>bk _
 |cons o l ay=>intro g;have:=ay (gA g o);have:=(KS g o).1;rw[l2,cm];omega
def Az(m:cb)(l:List bf):cb:={m with log:=l2 m.log (gn m.log [] l),seen:=l.foldl (fun n o=>ov n o.at_) m.seen}
theorem Pu{c:b3}{d:cS}:(∃e,e≠0∧DS c d=(e,d))∨
  ∃l,oB c.data=some l∧d.m.log.entries.length+(gn d.m.log [] l).length<=200∧
   DS c d=(0,{m:=Az d.m l,a:={d.a with n:=((gn d.m.log [] l).length:Int)},ops:=d.ops++gn d.m.log [] l}):=by
 unfold DS;cases ax:oB c.data with
 |none=>exact .inl ⟨50,by decide,rfl⟩
 |some l=>
  simp only;by_cases h1:(200:Int)<(d.m.log.entries.length:Int)+((gn d.m.log [] l).length:Int)
  ·grind
  rw[az h1];have bl:∀o∈gn d.m.log [] l,dk o=true:=fun o aN=>by
   rcases KB _ _ _ o aN with h|h
   ·cases h
   ·exact KX ax o h
  rw[aDJ _ d bl (by omega)]
  exact .inr ⟨l,rfl,by omega,rfl⟩
theorem aBi{m:cb}(h:ey m){l:List bf}(aN:∀o∈l,dk o=true)(al:m.log.entries.length+(gn m.log [] l).length<=200):ey (Az m l) where
 ob:=aBF h.ob _
 cap:=by have:=aDK (gn m.log [] l) m.log;unfold Az;simp only;omega
 ti:=fun x J=>by
  rcases(aDY h.ob _).1 x J with J|⟨J,bl⟩
  ·exact yX (h.ti x J) (KC l m.seen).1
  ·rcases KB _ _ _ x J with J|J
   ·cases J
   ·exact(KC l m.seen).2 x J bl
 seen:=yX h.seen (KC l m.seen).1
 rep:=h.rep
 cj:=h.cj
 snap:=fun s hs=>(h.snap s hs).up (KC l m.seen).1
 bN:=h.bN
 watch:=h.watch
theorem KY{c:b3}(h:pG c=true)(hk:c.kind=3):c.data.length<=64:=by
 unfold pG at h;rw[hk]at h;have ae:A2 3=some 5:=rfl;rw[ae]at h;simp only[dD]at h;have dr:=h.2.2.1;rw[qa,az (by decide),az (by decide),hR]at dr
 omega
theorem Tu{m:cb}{c:b3}(h:ey m)(al:pG c=true)(aC:(ih c ⟨m,c2,[]⟩).1=0):ey (ih c ⟨m,c2,[]⟩).2.m:=by
 have put:∀{o:bf} {r:Int×cS},r=zC ⟨m,c2,[]⟩ o->o.at_.c<=m.seen+1->(g8 m).2=0->ey r.2.m:=fun e h1 h2=>by
  subst e;exact aFp h h1 (yD h2).2.2.2.2.2
 have err:∀{e:Int} {r:Int×cS},e≠0->r=(e,⟨m,c2,[]⟩)->r.1=0->ey r.2.m:=fun h1 e h2=>by subst e;exact absurd h2 h1
 unfold ih at aC ⊢;by_cases k1:c.kind=1∨c.kind=2
 ·rw[aF k1]at aC ⊢;rcases Kn (c:=c) (d:=⟨m,c2,[]⟩) h with⟨e,he,ar⟩|⟨dir,s, -, -, -,ag, -,ar⟩
  ·exact err he ar aC
  ·exact put ar (iM _) ag
 rw[az k1]at aC ⊢;by_cases k3:c.kind=3
 ·rw[aF k3]at aC ⊢;rcases Kc (c:=c) (d:=⟨m,c2,[]⟩) h (KY al k3)with⟨e,he,ar⟩|⟨id, -, -,ag, -,ar⟩
  ·exact err he ar aC
  ·exact put ar (iM _) ag
 rw[az k3]at aC ⊢;by_cases k4:c.kind=4
 ·grind [BB]
 rw[az k4]at aC ⊢;by_cases kE:c.kind=5
 ·rw[aF kE]at aC ⊢;rcases Ko (c:=c) (d:=⟨m,c2,[]⟩) h with⟨e,he,ar⟩|⟨id,dir,s, -, -, -, -, -, -, -,ag, -,ar⟩
  ·exact err he ar aC
  ·exact put ar (iM _) ag
 rw[az kE]at aC ⊢;by_cases sI:c.kind=6
 ·rw[aF sI]at aC ⊢;rcases J2 (c:=c) (d:=⟨m,c2,[]⟩) h with⟨e,he,ar⟩|⟨id,s, -, -, -,ag, -,ar⟩
  ·exact err he ar aC
  ·exact put ar (iM _) ag
 rw[az sI]at aC ⊢;by_cases yt:c.kind=7
 ·rw[aF yt]at aC ⊢;unfold CY;split
  ·exact h
  ·split
   ·split<;>exact h
   ·exact h
 rw[az yt]at aC ⊢;by_cases yu:c.kind=8
 ·rw[aF yu]at aC ⊢;unfold Bv;split
  ·exact h
  ·rename_i hl;refine Km h ?_ (fun x J=>?_) h.bN h.watch
   ·rw[bt];simp only[cm,ew]at hl ⊢;omega
   ·rcases eX.1 J with J|J
    ·exact h.snap x J
    ·rw[dA]at J;subst J;exact h.nodes
 rw[az yu]at aC ⊢;by_cases yv:c.kind=9
 ·rw[aF yv]at aC ⊢;unfold Bw;split
  ·exact h
  ·exact Km (n:=m.next) h (gU (nX ..) h.cj) (fun x J=>h.snap x (km.1 J).1) (gU (nX ..) h.bN) (fun x J=>h.watch x (km.1 J).1)
 rw[az yv]at aC ⊢;by_cases yp:c.kind=10
 ·rw[aF yp]at aC ⊢;unfold DR;split
  ·split
   ·rename_i fl;split
    ·exact h
    ·rename_i hl;refine Km h h.cj h.snap ?_ (fun x J=>?_)
     ·rw[bt];simp only[cm,ew]at hl ⊢;omega
     ·rcases eX.1 J with J|J
      ·exact h.watch x J
      ·rw[dA]at J;subst J;exact⟨fl,by simp,by simp⟩
   ·exact h
  ·exact h
 rw[az yp]at aC ⊢;by_cases yq:c.kind=11
 ·rw[aF yq]at aC ⊢;unfold Bx;split
  ·exact h
  ·obtain⟨ar,au⟩:=YY c.n m.bN;refine Km (n:=m.next) h h.cj h.snap (by rw[ar];exact h.bN) fun x J=>?_
   obtain⟨v,aL,aQ, -,bF,aO⟩:=au x J;obtain⟨c4,dm,ee⟩:=h.watch v aL;rw[aQ,bF];rcases aO with q|q<;>rw[q]
   ·exact⟨c4,dm,ee⟩
   ·exact⟨c4,by simp,by simp⟩
 rw[az yq]at aC ⊢;by_cases yr:c.kind=12
 ·rw[aF yr]at aC ⊢;exact h
 rw[az yr]at aC ⊢;rcases Pu (c:=c) (d:=⟨m,c2,[]⟩)with⟨e,he,ar⟩|⟨l,ax,mf,ar⟩
 ·exact err he ar aC
 ·rw[ar];exact aBi h (KX ax) mf
theorem xO{m:cb}(h:ey m)(c:b3):ey (dz m c).1:=by
 unfold dz;split
 ·exact h
 ·rename_i al;split
  ·rename_i aC;have:=Tu h (by simpa using al) aC
   split
   ·exact this
   ·exact aDI this _
  ·exact h
theorem aFr(l:List b3):∀{m:cb},ey m->ey (qY m l).1:=by
 induction l with
 |nil=>exact fun h=>h
 |cons c l ay=>exact fun h=>ay (xO h c)
end
section
def GO(m mR:cb):cb:={mR with bN:=mR.bN.map (MS m.log.nodes mR.log.nodes)}
theorem KZ{c:b3}(h:pG c=true):c.kind=1∨c.kind=2∨c.kind=3∨c.kind=4∨c.kind=5∨c.kind=6∨c.kind=7∨c.kind=8∨c.kind=9∨c.kind=10∨c.kind=11∨c.kind=12∨c.kind=13:=by
 grind [pG,A2]
inductive D6 (m:cb) (c:b3):Int×cS->Prop
 |err (e:Int) (d:cS) (he:e≠0):D6 m c (e,d)
 |put (o:bf) (hk:c.kind=1∨c.kind=2∨c.kind=3∨c.kind=5∨c.kind=6) (ag:(g8 m).2=0) (aN:dk o=true) (aD:o.at_=⟨m.seen+1,m.rep⟩):D6 m c (zC ⟨m,c2,[]⟩ o)
 |ot (mR:cb) (a:hS) (aD:a.err=0) (h1:mR.log=m.log) (h2:mR.seen=m.seen) (h3:mR.rep=m.rep) (h4:(c.kind=4∨c.kind=7∨c.kind=12)->mR=m):D6 m c (0,⟨mR,a,[]⟩)
 |merge (l:List bf) (hk:c.kind=13) (ax:oB c.data=some l) (al:m.log.entries.length+(gn m.log [] l).length<=200):
   D6 m c (0,⟨Az m l,{c2 with n:=((gn m.log [] l).length:Int)},gn m.log [] l⟩)
theorem aAK{m:cb}{c:b3}(h:ey m)(al:pG c=true):D6 m c (ih c ⟨m,c2,[]⟩):=by
 have hk:=KZ al;unfold ih;by_cases k1:c.kind=1∨c.kind=2
 ·rw[aF k1];rcases Kn (c:=c) (d:=⟨m,c2,[]⟩) h with⟨e,he,ar⟩|⟨dir,s, -, -, -,ag,aN,ar⟩
  ·rw[ar];exact .err _ _ he
  ·rw[ar];exact .put _ (by omega) ag aN rfl
 rw[az k1];by_cases k3:c.kind=3
 ·rw[aF k3];rcases Kc (c:=c) (d:=⟨m,c2,[]⟩) h (KY al k3)with⟨e,he,ar⟩|⟨id, -, -,ag,aN,ar⟩
  ·rw[ar];exact .err _ _ he
  ·rw[ar];exact .put _ (by omega) ag aN rfl
 rw[az k3];by_cases k4:c.kind=4
 ·rw[aF k4];unfold BB;split
  ·exact .err _ _ (by decide)
  ·split
   ·split
    ·exact .err _ _ (by decide)
    ·exact .ot _ _ rfl rfl rfl rfl fun _=>rfl
   ·rename_i h;exact .err _ _ h
 rw[az k4];by_cases kE:c.kind=5
 ·rw[aF kE];rcases Ko (c:=c) (d:=⟨m,c2,[]⟩) h with⟨e,he,ar⟩|⟨id,dir,s, -, -, -, -, -, -, -,ag,aN,ar⟩
  ·rw[ar];exact .err _ _ he
  ·rw[ar];exact .put _ (by omega) ag aN rfl
 rw[az kE];by_cases sI:c.kind=6
 ·rw[aF sI];rcases J2 (c:=c) (d:=⟨m,c2,[]⟩) h with⟨e,he,ar⟩|⟨id,s, -, -, -,ag,aN,ar⟩
  ·rw[ar];exact .err _ _ he
  ·rw[ar];exact .put _ (by omega) ag aN rfl
 rw[az sI];by_cases yt:c.kind=7
 ·rw[aF yt];unfold CY;split
  ·exact .err _ _ (by decide)
  ·split
   ·split
    ·exact .ot _ _ rfl rfl rfl rfl fun _=>rfl
    ·exact .err _ _ (by decide)
   ·rename_i h;exact .err _ _ h
 rw[az yt];by_cases yu:c.kind=8
 ·rw[aF yu];unfold Bv;split
  ·exact .err _ _ (by decide)
  ·exact .ot _ _ rfl rfl rfl rfl fun h=>by omega
 rw[az yu];by_cases yv:c.kind=9
 ·rw[aF yv];unfold Bw;split
  ·exact .err _ _ (by decide)
  ·exact .ot _ _ rfl rfl rfl rfl fun h=>by omega
 rw[az yv];by_cases yp:c.kind=10
 ·rw[aF yp];unfold DR;split
  ·split
   ·split
    ·exact .err _ _ (by decide)
    ·exact .ot _ _ rfl rfl rfl rfl fun h=>by omega
   ·exact .err _ _ (by decide)
  ·rename_i h;exact .err _ _ h
 rw[az yp];by_cases yq:c.kind=11
 ·rw[aF yq];unfold Bx;split
  ·exact .err _ _ (by decide)
  ·exact .ot _ _ rfl rfl rfl rfl fun h=>by omega
 rw[az yq];by_cases yr:c.kind=12
 ·rw[aF yr];exact .ot _ _ rfl rfl rfl rfl fun _=>rfl
 rw[az yr];rcases Pu (c:=c) (d:=⟨m,c2,[]⟩)with⟨e,he,ar⟩|⟨l,ax,mf,ar⟩
 ·rw[ar];exact .err _ _ he
 ·rw[ar];exact .merge l (by omega) ax mf
inductive Bk (m:cb) (c:b3):cb×hS×List bf->Prop
 |err (e:Int) (he:e≠0):Bk m c (m,Cf e,[])
 |put (o:bf) (hk:c.kind=1∨c.kind=2∨c.kind=3∨c.kind=5∨c.kind=6) (ag:(g8 m).2=0) (aN:dk o=true) (aD:o.at_=⟨m.seen+1,m.rep⟩):Bk m c (GO m (uf m o),c2,[o])
 |ot (mR:cb) (a:hS) (aD:a.err=0) (h1:mR.log=m.log) (h2:mR.seen=m.seen) (h3:mR.rep=m.rep) (h4:(c.kind=4∨c.kind=7∨c.kind=12)->mR=m):Bk m c (mR,a,[])
 |merge (l:List bf) (hk:c.kind=13) (ax:oB c.data=some l) (al:m.log.entries.length+(gn m.log [] l).length<=200):
   Bk m c (if gn m.log [] l=[]then Az m l else GO m (Az m l),{c2 with n:=((gn m.log [] l).length:Int)},gn m.log [] l)
theorem Ln{m:cb}(h:ey m)(c:b3):Bk m c (dz m c):=by
 unfold dz;split
 ·exact .err 180 (by decide)
 ·rename_i al;have hs:=aAK h (by simpa using al)
  generalize ih c ⟨m,c2,[]⟩=r at hs ⊢;cases hs with
  |err e d he=>rw[az he];exact .err e he
  |put o hk ag aN aD=>exact .put o hk ag aN aD
  |ot mR a aD h1 h2 h3 h4=>exact .ot mR a aD h1 h2 h3 h4
  |merge l hk ax al=>
   have hm:=Bk.merge (m:=m) (c:=c) l hk ax al;rw[aF rfl];split
   ·grind
   ·rename_i e;rw[az e]at hm;exact hm
theorem aFs{g:hy}{a:jj}:pe g.entries a=false↔∀x∈dN g,x.at_≠a:=by
 grind [jj,pe,dN]
theorem GF(g:hy):(dN g).length=g.entries.length:=by rw[dN,cP]
theorem LI{g:hy}(h:Good g){o:bf}(aN:dk o=true)(ag:∀x∈dN g,x.at_≠o.at_)(hl:g.entries.length<200):dN (gA g o)=r9 o (dN g):=by
 rcases(AD h o).2 with⟨-, -,e|⟨x,J,e⟩|e⟩|⟨e, -, -⟩
 ·rw[aN]at e;cases e
 ·exact absurd e (ag x J)
 ·rw[GF]at e;omega
 ·exact e
theorem aDL(l:List bf):∀{g:hy},Good g->(∀o∈l,dk o=true)->l.Pairwise (fun a b=>a.at_≠b.at_)->(∀o∈l,∀x∈dN g,x.at_≠o.at_)->g.entries.length+l.length<=200->
  (∀x,x∈dN (l2 g l)↔x∈dN g∨x∈l)∧(l2 g l).entries.length=g.entries.length+l.length:=by
 induction l with
 |nil=>grind [l2]
 |cons o l ay=>
  intro g aJ aN ae ag hl;rw[cm]at hl;rw[qd]at ae;have e:=LI aJ (aN o (by simp)) (ag o (by simp)) (by omega)
  have el:(gA g o).entries.length=g.entries.length+1:=by rw[<-GF,e,LS,GF]
  obtain⟨i1,i2⟩:=ay (AD aJ o).1 (fun x J=>aN x (lf _ J)) ae.2 (fun x J y aG=>by
   rw[e]at aG;rcases AK.1 aG with rfl|aG
   ·exact ae.1 x J
   grind) (by omega)
  refine⟨fun x=>?_,by rw[l2,i2,el,cm];omega⟩
  rw[l2,i1,e,AK,c7];constructor
  ·rintro((h|h)|h)
   ·exact .inr (.inl h)
   ·exact .inl h
   ·exact .inr (.inr h)
  ·rintro(h|h|h)
   ·exact .inl (.inr h)
   ·exact .inl (.inl h)
   ·exact .inr h
theorem aBj(g:hy):∀(l acc:List bf),acc.Pairwise (fun a b=>a.at_≠b.at_)->(∀o∈acc,∀x∈dN g,x.at_≠o.at_)->(gn g acc l).Pairwise (fun a b=>a.at_≠b.at_)∧(∀o∈gn g acc l,∀x∈dN g,x.at_≠o.at_):=by
 intro l;induction l with
 |nil=>exact fun acc h1 h2=>⟨h1,h2⟩
 |cons o l ay=>
  intro acc h1 h2;rw[gn];split
  ·rename_i al;simp only[dD,nk]at al;have ag:=aFs.1 al.1;grind
  ·exact ay _ h1 h2
end
section
theorem aB6{l:List bf}{o:bf}(h:∀x∈l,hf o.at_ x.at_=false):r9 o l=l++[o]:=by
 have h1:jP o l=l:=by
  have:=Yf (fun x=> !hf o.at_ x.at_) l [] (fun x J=>by rw[h x J];rfl) (fun x J=>by cases J)
  rwa[b2]at this
 have h2:oC o l=[]:=by
  have e:=bH List.length (w2 o l);simp_all
 rw[r9,h1,h2]
theorem Gl{m:cb}(h:ey m){o:bf}(ag:(g8 m).2=0)(aN:dk o=true)(aD:o.at_=⟨m.seen+1,m.rep⟩):(uf m o).log.nodes=ed m.log.nodes o:=by
 have hl:=(yD ag).2.2.2.2.2;have bX:∀x∈dN m.log,x.at_≠o.at_:=fun x J e=>by have:=h.ti x J;grind
 have e:=LI h.ob aN bX hl;have Om:∀x∈dN m.log,hf o.at_ x.at_=false:=fun x J=>by
  have:=h.ti x J;rw[aDU,aD];simp only;omega
 show(gA m.log o).nodes=_;rw[PO (AD h.ob o).1,e,aB6 Om,s4,<-PO h.ob];rfl
theorem aAL(l:List aB):∀(k:Nat) (id x:Int),x∈kt l k id->∃n∈l,n.parent=x:=by
 intro k;induction k with
 |zero=>intro id x h;simp[kt]at h
 |succ k ay=>
  intro id x h;rw[kt]at h;cases an:e1 l id with
  |none=>rw[an]at h;simp at h
  |some n=>
   rw[an]at h;simp only at h;split at h
   ·simp at h
   ·rcases c7.1 h with rfl|h
    ·exact⟨n,(A3 an).1,rfl⟩
    ·exact ay _ _ h
theorem aHk{q x y:Int}(J:gm x=true)(h:jR x<=q)(aG:gm y=true)(h2:q<jR y):x<y:=by
 unfold jR at h h2;rw[aF J]at h;rw[aF aG]at h2;omega
theorem YZ{m:cb}(h:ey m){o:bf}(hk:o.kind=1)(aN:dk o=true)(ia:gm o.node=true)(cf:jR o.node=m.seen+1)(ae:jR o.parent<=m.seen):
  ed m.log.nodes o=m.log.nodes++[⟨o.node,o.parent,o.name,o.at_,[],mV⟩]:=by
 have hc:=h.nodes;obtain⟨l,hl⟩:∃l,l=m.log.nodes:=⟨_,rfl⟩;rw[<-hl]at hc ⊢;have ak:∀n∈l,n.id<o.node:=fun n ag=>aHk (A4 hc.lU ag) (hc.fq n ag).id ia (by omega)
 have kQ:e1 l o.node=none:=by
  unfold e1;grind
 have ax:refused l o=false:=by
  unfold refused;rw[hc.lU.cC,aN,hk];simp only[vA,vK,pt,hG];unfold sP;rw[xl];refine⟨by simp only[nm];intro e;rw[e]at ae;omega,?_⟩
  rw[Hn];intro x J;simp only[hR];rintro rfl;obtain⟨n,ag,e⟩:=aAL l _ _ _ J;have:=(hc.fq n ag).par;rw[e]at this;omega
 rw[u9 ax];have aJ8:iR l o=⟨o.node,o.parent,o.name,o.at_,[],mV⟩:=by
  rw[J1 hk,kQ];unfold n9;rw[kQ];rfl
 rw[aJ8];have tL:pos l o.node=l.length:=by
  have:=aDR (A:=l) (B:=[]) (id:=o.node) ak (fun _ J=>by cases J)
  rwa[b2]at this
 have jO:upto l o.node=l.length:=by
  unfold upto hh;rw[kQ,tL];rfl
 exact MA _ (A:=l) (B:=[]) (by show l=l.take (pos l o.node);rw[tL,eQ]) (by show[]=l.drop (upto l o.node);rw[jO,l7])
theorem aB7(s:aM)(n:aB)(m:List (aM×aB)):hA s (hO s n m)=some n:=by
 induction m<;>grind [hO,hA]
theorem SP{s t:aM}(h:s≠t)(n:aB)(m:List (aM×aB)):hA t (hO s n m)=hA t m:=by
 induction m with
 |nil=>simp[hO,hA,h]
 |cons p m ay=>
  obtain⟨k,x⟩:=p;unfold hO;by_cases hk:k=s
  ·rw[aF hk,hA,hA,az h,az (by rw[hk];exact h)]
  ·rw[az hk,hA,hA,ay]
theorem Rz(l:List aB)(n:aB)(dir:Int):fu (l++[n]) dir=l4 dir (fu l dir) n:=by simp[fu,s4]
theorem aAM{l:List aB}{n:aB}{dir:Int}(al:cC (l++[n])=true)(eM:cC l=true)(ae:n.parent=dir)(hm:ox n.fB.c n.fB.r=true)(h:fp l dir n.name=none):fp (l++[n]) dir n.name=some n:=by
 unfold fp at h ⊢;rw[aF al,Rz];rw[aF eM]at h;unfold l4 oo;rw[aF (by simp[ae,hm])]
 unfold q0;rw[h];exact aB7 _ _ _
theorem Qf{l:List aB}{n:aB}{dir:Int}{s:aM}(al:cC (l++[n])=true)(eM:cC l=true)(h:¬(n.parent=dir∧n.name=s)):fp (l++[n]) dir s=fp l dir s:=by
 unfold fp;rw[aF al,aF eM,Rz];unfold l4;split
 ·rename_i hi;have ae:n.parent=dir:=by simp[oo]at hi;exact hi.1
  have aP:n.name≠s:=fun e=>h ⟨ae,e⟩
  unfold q0;split
  ·exact SP aP _ _
  ·split
   ·rfl
   ·exact SP aP _ _
 ·rfl
theorem aB8(l:List aB)(b:List aM):∀(a:List aM) (x:Int),jo l x (a++b)=if(jo l x a).2=0 then jo l (jo l x a).1 b else jo l x a:=by
 intro a;induction a<;>grind [gK,jo,gi,fp]
theorem aAN{l g6:List aB}(hs:∀(x:Int) (t:aM) (n:aB),fp l x t=some n->∃J3,fp g6 x t=some J3∧J3.id=n.id):∀(names:List aM) (x d:Int),jo l x names=(d,0)->jo g6 x names=(d,0):=by
 intro names;induction names<;>grind [jo,fp]
theorem Qg{l:List aB}{p:aM}{dir:Int}{s:aM}(h:jF l p=(dir,s,0)):∃b7,gl p=some (b7++[s])∧fg l b7=(dir,0)∧dy dir=true:=by
 unfold jF at h;split at h
 ·cases h
 ·cases h
 ·rename_i x xs ag;split at h
  ·rename_i aC;split at h
   ·rename_i hd;cases h;exact⟨(x::xs).dropLast,by rw[ag,List.dropLast_concat_getLast],by rw[<-aC],hd⟩
   ·cases h
  grind
def uN(m:cb)(c:b3)(dir:Int)(s:aM):aB:=⟨nM (m.seen+1) m.rep (decide (c.kind=1)),dir,s,⟨m.seen+1,m.rep⟩,[],mV⟩
structure Made (m:cb) (c:b3) (dir:Int) (s:aM):Prop where
 aIb:dz m c=(GO m (uf m (zA m c dir s)),c2,[zA m c dir s])
 cC:pG c=true
 root:c.path≠[47]
 aHM:jF m.log.nodes c.path=(dir,s,0)
 none_:fp m.log.nodes dir s=none
 nodes:(uf m (zA m c dir s)).log.nodes=m.log.nodes++[uN m c dir s]
 new:∀n∈m.log.nodes,n.id≠nM (m.seen+1) m.rep (decide (c.kind=1))∧n.parent≠nM (m.seen+1) m.rep (decide (c.kind=1))
 ne:dir≠nM (m.seen+1) m.rep (decide (c.kind=1))
 aH3:Go.Proofs.YthafnbmdmfoobaaGreatDoor.cC (m.log.nodes++[uN m c dir s])=true
 aSa:dy (nM (m.seen+1) m.rep (decide (c.kind=1)))= !decide (c.kind=1)
 child:fp (m.log.nodes++[uN m c dir s]) dir s=some (uN m c dir s)
theorem SQ{m:cb}{c:b3}(aC:(dz m c).2.1.err=0):pG c=true∧(ih c ⟨m,c2,[]⟩).1=0:=by
 unfold dz at aC;split at aC
 ·cases aC
 ·rename_i al;split at aC
  ·grind
  ·rename_i hw;exact absurd aC hw
theorem aHI{m:cb}(h:ey m){c:b3}(hk:c.kind=1∨c.kind=2)(aC:(dz m c).2.1.err=0):∃dir s,Made m c dir s:=by
 obtain⟨al,hw⟩:=SQ aC;have tQ:ih c ⟨m,c2,[]⟩=ze c ⟨m,c2,[]⟩:=by unfold ih;rw[aF hk]
 rw[tQ]at hw;rcases Kn (c:=c) (d:=⟨m,c2,[]⟩) h with⟨e,he,ar⟩|⟨dir,s,ar,au,bd,bE,cE,h8⟩
 ·rw[ar]at hw;exact absurd hw he
 simp only at au bd bE cE h8;obtain⟨fK,g7,kG,qE,qF,J4⟩:=yD bE;obtain⟨i1,i2,i3,i4⟩:=Ui (d:=decide (c.kind=1)) (show 1<=m.seen+1 by omega) (show m.seen+1<=1048576 by omega) qE qF
 obtain⟨dq,bZ,dO⟩:=Mq h.nodes h.seen au;have Wb:(uf m (zA m c dir s)).log.nodes=m.log.nodes++[uN m c dir s]:=by
  rw[Gl h bE cE rfl,YZ h rfl cE i1 i2 bZ];rfl
 have Je:cC (m.log.nodes++[uN m c dir s])=true:=by
  rw[<-Wb,Gl h bE cE rfl,HH,h.nodes.lU.cC]
 refine⟨dir,s,?_,al,ar,au,bd,Wb,fun n ag=>?_,fun e=>?_,Je,?_,?_⟩
 ·unfold dz;rw[az (by rw[al];simp),tQ,h8]
  rfl
 ·have q:=h.nodes.fq n ag;have aQ:=q.id;have aO:=q.par;grind
 ·rw[e,i2]at bZ;omega
 ·unfold dy;rw[i1,i4];have:128<=nM (m.seen+1) m.rep (decide (c.kind=1)):=(DC.1 i1).1;rw[cg,cg];rfl
 ·exact aAM (n:=uN m c dir s) Je h.nodes.lU.cC rfl (by rw[uh];exact⟨by simp only[uN];omega,by simp only[uN];omega,qE,qF⟩) bd
def uK(g:aB->aB)(m:List (aM×aB)):List (aM×aB):=m.map fun p=>(p.1,g p.2)
section
variable {g:aB->aB} (ag:∀n,(g n).name=n.name) (ae:∀n,(g n).parent=n.parent) (hm:∀n,(g n).fB=n.fB)
theorem Sb(s:aM)(m:List (aM×aB)):hA s (uK g m)=(hA s m).map g:=by
 induction m with
 |nil=>rfl
 |cons p m ay=>
  obtain⟨k,x⟩:=p;show hA s ((k,g x)::uK g m)=_;rw[hA,hA];split
  ·rfl
  ·exact ay
theorem So(s:aM)(n:aB)(m:List (aM×aB)):hO s (g n) (uK g m)=uK g (hO s n m):=by
 induction m with
 |nil=>rfl
 |cons p m ay=>
  obtain⟨k,x⟩:=p;show hO s (g n) ((k,g x)::uK g m)=_;rw[hO,hO];split
  ·rfl
  ·rw[ay];rfl
include ag hm in
theorem aB9(n:aB)(m:List (aM×aB)):q0 (uK g m) (g n)=uK g (q0 m n):=by
 unfold q0;rw[ag,Sb];cases hA n.name m with
 |none=>exact So _ _ _
 |some o=>
  simp only[rY];rw[hm,hm];split
  ·rfl
  ·exact So _ _ _
include ag ae hm in
theorem aCa(dir:Int)(l:List aB):fu (l.map g) dir=uK g (fu l dir):=by
 have key:∀(l:List aB) (m:List (aM×aB)),(l.map g).foldl (l4 dir) (uK g m)=uK g (l.foldl (l4 dir) m):=by
  intro l;induction l with
  |nil=>exact fun m=>rfl
  |cons n l ay=>
   intro m;rw[dn,nZ,nZ,<-ay];congr 1;unfold l4 oo;rw[ae,hm];split
   ·exact aB9 ag hm n m
   ·rfl
 exact key l []
include ag ae hm in
theorem aAO(l:List aB)(al:cC (l.map g)=cC l)(dir:Int)(s:aM):fp (l.map g) dir s=(fp l dir s).map g:=by
 unfold fp;rw[al,aCa ag ae hm,Sb];split<;>rfl
end
def pb(o:bf)(n:aB):aB:=if n.id=o.node then{n with data:=o.data,wrote:=o.at_}else n
theorem Qx{l:List aB}(an:lN l){o:bf}(hk:o.kind=2)(aN:dk o=true)(ah:∃n∈l,n.id=o.node):ed l o=l.map (pb o)∧refused l o=false:=by
 have ax:refused l o=false:=by
  unfold refused;rw[an.cC,aN,hk];rfl
 refine⟨?_,ax⟩;rw[u9 ax];obtain⟨A,B,cf,bK,Cd,Ce,⟨e,bX⟩|⟨n,ag,e, -⟩⟩:=KU an.cC o.node
 ·grind
 ·have kQ:e1 l o.node=some n:=by rw[e];exact Dr cf ag
  have nF:iR l o=pb o n:=by
   unfold iR n9 pb;rw[kQ,hk,aF ag];rfl
  have ia:(pb o n).id=o.node:=by unfold pb;rw[aF ag];exact ag
  rw[nF,e,LR (n:=pb o n) (by rw[ia];exact cf) (by rw[ia];exact ag),n0,dn]
  have k1:A.map (pb o)=A:=by
   conv=>rhs;rw[<-List.map_id A]
   refine List.map_congr_left fun x J=>?_
   have:=cf x J;unfold pb;rw[az (by omega)];rfl
  have k2:B.map (pb o)=B:=by
   conv=>rhs;rw[<-List.map_id B]
   refine List.map_congr_left fun x J=>?_
   have:=bK x J;unfold pb;rw[az (by omega)];rfl
  rw[k1,k2]
theorem KD(o:bf)(n:aB):(pb o n).id=n.id∧(pb o n).name=n.name∧(pb o n).parent=n.parent∧(pb o n).fB=n.fB:=by
 unfold pb;split<;>exact⟨rfl,rfl,rfl,rfl⟩
end
section
def jl(l:List aB)(dir:Int)(s:aM):Option Int:=(fp l dir s).map (·.id)
theorem KE(l:List aB)(a:Int)(s:aM)(b7:List aM):jo l a (s::b7)=if dy a=true then(match jl l a s with|some i=>jo l i b7|none=>(0,80))else(0,81):=by
 grind [jo,jl,fp]
theorem Qh{A B:List aB}{x:aB}{dir:Int}(h:x.parent≠dir):fu (A++x::B) dir=fu (A++B) dir:=by
 have:oo dir x=false:=by unfold oo;rw[b8 h];rfl
 simp[fu,s4,l4,this]
theorem Y0{l:List aB}(an:lN l){o:bf}(ax:refused l o=false)(hk:o.kind=1){h:Int}(h1:h≠o.parent)(h2:∀n,e1 l o.node=some n->n.parent≠h)(s:aM):fp (ed l o) h s=fp l h s:=by
 have al:cC (ed l o)=cC l:=HH _ _;unfold fp;rw[al];congr 2;rw[u9 ax];have ae:(iR l o).parent≠h:=by grind [J1]
 have ia:=Au l o;obtain⟨A,B,cf,bK,Cd,Ce,⟨e,bX⟩|⟨n,ag,e, -⟩⟩:=KU an.cC o.node
 ·rw[qV,mv,ia,<-Cd,<-Ce,cr,List.singleton_append,Qh ae,<-e]
 ·have kQ:e1 l o.node=some n:=by rw[e];exact Dr cf ag
  obtain⟨x,J⟩:∃x,iR l o=x:=⟨_,rfl⟩;rw[J]at ia ae ⊢;rw[e,LR (n:=x) (by rw[ia];exact cf) (by rw[ia];exact ag),Qh ae,Qh (h2 n kQ)]
theorem Qy{l:List aB}(an:lN l){o:bf}(hk:o.kind=2)(aN:dk o=true)(ah:∃n∈l,n.id=o.node)(h:Int)(s:aM):jl (ed l o) h s=jl l h s:=by
 obtain⟨c4, -⟩:=Qx an hk aN ah;have Je:cC (l.map (pb o))=cC l:=by rw[<-c4,HH]
 unfold jl;rw[c4,aAO (fun n=>(KD _ n).2.1) (fun n=>(KD _ n).2.2.1) (fun n=>(KD _ n).2.2.2) _ Je,Option.map_map]
 congr 1;funext n;exact(KD o n).1
theorem aDM{l:List aB}{names:List aM}{t:ba}(h:sZ l names t=⟨3,0⟩):∃here,t.has=[here]∧((fg l names).2=0->dy (fg l names).1=true->(fg l names).1=here):=by
 unfold sZ at h;grind
theorem Sp{has:List Int}:∀{cp:List Int},mW has cp=⟨3,0⟩->∀k∈cp,k∈has
 |[],_,k,h=>by cases h
 |a::cp,h,k,hk=>by
  unfold mW at h;split at h
  ·rename_i aD;rcases c7.1 hk with rfl|hk
   ·simpa using aD
   ·exact Sp h k hk
  ·cases h
theorem M7{l:List aB}{t:ba}(hd:t.done=false)(h:fM l t=⟨3,0⟩):
  (fC t.call=true->∀k∈ij l t.call,k∈t.has)∧(fC t.call=false->gR t.call=true->∃here,t.has=[here]∧((fg l (hr t.call)).2=0->dy (fg l (hr t.call)).1=true->(fg l (hr t.call)).1=here)):=by
 unfold fM at h;split at h
 ·cases h
 rw[az (by simp[hd])]at h
 refine⟨fun aj=>?_,fun aj hw=>?_⟩
 ·rw[aF aj]at h;exact Sp h
 ·rw[az (by simp[aj]),aF hw]at h;exact aDM h
theorem Mr{l:List aB}{p:aM}{b7:List aM}{s:aM}{d:Int}(ag:gl p=some (b7++[s]))(an:fg l b7=(d,0))(hd:dy d=true):fZ l p=some d:=by
 grind [fZ,List.dropLast_concat,List,Int,gl,fg,dy]
theorem aCb{bc:List Int}{d:Int}:d∈jw bc (some d):=by unfold jw;simp only;split<;>simp_all
theorem aCc{bc:List Int}:∀x∈bc,∀o,x∈jw bc o:=fun x J o=>by
 ·unfold jw;split
  ·split<;>simp_all
  ·exact J
theorem Qi{l:List aB}{c:b3}{p:aM}{d:Int}(ae:p∈mN c)(h:fZ l p=some d):d∈ij l c:=by
 have key:∀(ps:List aM) (bc:List Int),(d∈bc∨p∈ps)->d∈ps.foldl (fun bc p=>jw bc (fZ l p)) bc:=by
  intro ps;induction ps with
  |nil=>intro bc h;simpa using h
  |cons q ps ay=>
   intro bc ah;refine ay _ ?_;rcases ah with ah|ah
   ·exact .inl (aCc _ ah _)
   ·grind [c7,aCb]
 exact lf _ ((Nb l (xf l c)).mem_iff.2 (key _ _ (.inr ae)))
theorem Ms{l:List aB}(an:lN l){p:aM}{id:Int}(ae:p≠[47])(h:fL l p=(id,0)):∃b7 s d n,gl p=some (b7++[s])∧fg l b7=(d,0)∧dy d=true∧fp l d s=some n∧n.id=id∧n.parent=d∧e1 l id=some n:=by
 unfold fL at h;cases ag:gl p with
 |none=>rw[ag]at h;cases h
 |some b7=>
  rw[ag]at h;rcases List.eq_nil_or_concat b7 with rfl|⟨xs,s,rfl⟩
  ·exact absurd (Ym ag) ae
  ·simp only at h;unfold fg at h;rw[List.concat_eq_append,aB8]at h;split at h
   ·rename_i aC;obtain⟨d,hd⟩:∃d,jo l 0 xs=(d,0):=⟨_,Prod.ext rfl aC⟩;rw[hd]at h;simp only[jo]at h;split at h
    ·rename_i fl;split at h
     ·rename_i n al;obtain⟨h1,h2,h3⟩:=Da al;refine⟨xs,s,d,n,by rw[List.concat_eq_append],hd,fl,al,(Prod.mk.inj h).1,h3,?_⟩
      rw[<-(Prod.mk.inj h).1];exact H9 an.cC h2
     ·cases h
    ·cases h
   ·rename_i aC;rw[h]at aC;exact absurd rfl aC
inductive xu (l:List aB) (t:ba) (g6:List aB):List bf->Prop
 |none (h:g6=l):xu l t g6 []
 |born (o:bf) (n:aB) (hk:o.kind=1) (ae:o.parent∈t.has) (ag:∀x∈l,x.id<o.node∧x.parent≠o.node) (aj:fC t.call=false) (hl:g6=l++[n]) (hi:n.id=o.node) (aS:n.parent=o.parent) (aP:o.parent≠o.node) (aC:fp l o.parent n.name=Option.none) (al:fp (l++[n]) n.parent n.name=some n) (hd:dy o.parent=true):xu l t g6 [o]
 |wrote (o:bf) (hk:o.kind=2) (aN:dk o=true) (n:aB) (ag:e1 l o.node=some n) (ae:n.parent∈t.has) (aj:fC t.call=false) (hl:g6=ed l o):xu l t g6 [o]
 |fB (o:bf) (hk:o.kind=1) (n:aB) (ag:e1 l o.node=some n) (ae:n.parent∈t.has) (aS:o.parent=2∨o.parent∈t.has) (aj:fC t.call=true) (h1:(1:Int)∈t.has) (ax:refused l o=false) (hl:g6=ed l o):xu l t g6 [o]
theorem aGK{m:cb}{t:ba}(h:ey m)(hd:t.done=false)(h3:fM m.log.nodes t=⟨3,0⟩)(hk:t.call.kind≠13∨(dz m t.call).2.1.err≠0):xu m.log.nodes t (dz m t.call).1.log.nodes (dz m t.call).2.2:=by
 by_cases he:(dz m t.call).2.1.err=0
 ·obtain⟨al,hw⟩:=SQ he;have hk:t.call.kind≠13:=hk.resolve_right fun h=>h he
  obtain⟨Fz,pV⟩:=M7 hd h3;have lY:=h.nodes.lU;by_cases k1:t.call.kind=1∨t.call.kind=2
  ·have aj:fC t.call=false:=by unfold fC;rw[cg,cg,cg];rfl
   have ju:gR t.call=true:=by unfold gR;rcases k1 with e|e<;>rw[e]<;>rfl
   obtain⟨dir,s,k⟩:=aHI h k1 he;obtain⟨here,ah,J⟩:=pV aj ju;obtain⟨b7,ag,an,fl⟩:=Qg k.aHM;have bT:hr t.call=b7:=by unfold hr;rw[ag];simp only;rw[az (by omega),List.dropLast_concat]
   rw[bT,an]at J;have e:=J rfl fl;rw[k.aIb];refine .born _ (uN m t.call dir s) rfl ?_ (fun x J=>?_) aj k.nodes rfl rfl k.ne k.none_ k.child fl
   ·show dir∈t.has;rw[ah];exact dA.2 e
   ·refine⟨?_,(k.new x J).2⟩;have ae:=((yC _).1 k.aH3).2;rw[uw]at ae;exact ae.2.2 x J _ (dA.2 rfl)
  by_cases k3:t.call.kind=3
  ·have aj:fC t.call=false:=by unfold fC;rw[k3];rfl
   have ju:gR t.call=true:=by unfold gR;rw[k3];rfl
   obtain⟨here,ah,J⟩:=pV aj ju;have tQ:ih t.call ⟨m,c2,[]⟩=A1 t.call ⟨m,c2,[]⟩:=by unfold ih;rw[az (by omega),aF k3]
   rw[tQ]at hw;rcases Kc (c:=t.call) (d:=⟨m,c2,[]⟩) h (KY al k3)with⟨e,he,ar⟩|⟨id,ar,au,bd,bE,cE⟩
   ·rw[ar]at hw;exact absurd hw he
   simp only at ar bd bE cE;have FF:t.call.path≠[47]:=fun e=>by
    rw[e]at ar;have:fL m.log.nodes [47]=(0,0):=rfl;rw[this]at ar;cases ar;cases au
   obtain⟨b7,s,d,n,aQ,aO,bF,c9,eA,j3,rM⟩:=Ms lY FF ar;have bT:hr t.call=b7:=by unfold hr;rw[aQ];simp only;rw[az (by omega),List.dropLast_concat]
   rw[bT,aO]at J;have e:=J rfl bF;have j0:dz m t.call=(GO m (uf m (Ea m t.call id)),c2,[Ea m t.call id]):=by
    unfold dz;rw[az (by rw[al];simp),tQ,cE]
    rfl
   rw[j0];exact .wrote _ rfl bE n rM (by rw[ah,j3,<-e];exact dA.2 rfl) aj (Gl h bd bE rfl)
  have wG:∀{id dir:Int} {s:aM},(g8 m).2=0->dk (rK m id dir s)=true->ih t.call ⟨m,c2,[]⟩=zC ⟨m,c2,[]⟩ (rK m id dir s)->dz m t.call=(GO m (uf m (rK m id dir s)),c2,[rK m id dir s]):=fun _ _ e=>by
   unfold dz;rw[az (by rw[al];simp),e]
   rfl
  by_cases kE:t.call.kind=5
  ·have aj:fC t.call=true:=by unfold fC;rw[kE];rfl
   have tQ:ih t.call ⟨m,c2,[]⟩=zf t.call ⟨m,c2,[]⟩:=by unfold ih;rw[az (by omega),az (by omega),az (by omega),aF kE]
   rw[tQ]at hw;rcases Ko (c:=t.call) (d:=⟨m,c2,[]⟩) h with⟨e,he,ar⟩|⟨id,dir,s,cK,dc,ar,au,bd,fK,g7,kG,bE,cE⟩
   ·rw[ar]at hw;exact absurd hw he
   simp only at ar au bd g7 kG bE cE;obtain⟨b7,qN,d,n,aQ,aO,bF,c9,eA,j3,rM⟩:=Ms lY cK ar;obtain⟨aSZ,aU,a3,a1⟩:=Qg au;have nG:mN t.call=[t.call.path,t.call.to]:=by unfold mN;rw[aF kE]
   rw[wG kG bE (by rw[tQ,cE])]
   refine .fB _ rfl n rM ?_ (.inr ?_) aj (Fz aj _ (by simp[ij])) ?_ (Gl h kG bE rfl)
   ·rw[j3];exact Fz aj _ (Qi (by rw[nG];simp) (Mr aQ aO bF))
   ·exact Fz aj _ (Qi (p:=t.call.to) (by rw[nG];simp) (Mr aU a3 a1))
   ·unfold refused;rw[lY.cC,bE];have jO:nb m.log.nodes dir=g0 m.log.nodes dir:=aF lY.cC;rw[jO]at g7;have:sP m.log.nodes (rK m id dir s)=false:=by
     unfold sP;show(decide (dir=id)||_)=false
     rw[b8 fK,vK];rw[Hn];intro x J e;have au:x=id:=mB e;rw[au]at J;have J:id∈g0 m.log.nodes dir:=J;have:(g0 m.log.nodes dir).contains id=true:=by simpa using J
     rw[this]at g7;cases g7
    rw[this];rfl
  by_cases sI:t.call.kind=6
  ·have aj:fC t.call=true:=by unfold fC;rw[sI];rfl
   have tQ:ih t.call ⟨m,c2,[]⟩=AO t.call ⟨m,c2,[]⟩:=by unfold ih;rw[az (by omega),az (by omega),az (by omega),az (by omega),aF sI]
   rw[tQ]at hw;rcases J2 (c:=t.call) (d:=⟨m,c2,[]⟩) h with⟨e,he,ar⟩|⟨id,s,cK,ar, -,kG,bE,cE⟩
   ·rw[ar]at hw;exact absurd hw he
   simp only at ar kG bE cE;obtain⟨b7,qN,d,n,aQ,aO,bF,c9,eA,j3,rM⟩:=Ms lY cK ar;have nG:mN t.call=[t.call.path]:=by unfold mN;rw[az (by omega),aF sI]
   rw[wG kG bE (by rw[tQ,cE])]
   refine .fB _ rfl n rM ?_ (.inl rfl) aj (Fz aj _ (by simp[ij])) ?_ (Gl h kG bE rfl)
   ·rw[j3];exact Fz aj _ (Qi (by rw[nG];simp) (Mr aQ aO bF))
   ·have ia:=PQ bE;unfold refused;rw[lY.cC,bE];have h2:g0 m.log.nodes 2=[]:=by
     unfold g0;cases m.log.nodes.length with
     |zero=>rfl
     |succ k=>
      have:e1 m.log.nodes 2=none:=by
       unfold e1;rw[ux];intro x J e;have au:x.id=2:=by simpa using e
       have:=A4 lY J;rw[au]at this;cases this
      unfold kt;rw[this]
    have:sP m.log.nodes (rK m id 2 s)=false:=by
     unfold sP;show(decide ((2:Int)=id)||(g0 m.log.nodes 2).any _)=false
     rw[h2,b8 (fun e=>by have:=ia.2.2.2.2.2.2.1;rw[show(rK m id 2 s).node=id from rfl,<-e]at this;cases this)]
     rfl
    rw[this];rfl
  ·have hs:=Ln h t.call;generalize dz m t.call=r at hs he ⊢;cases hs with
   |err e tA=>exact .none rfl
   |put o fy=>omega
   |ot mR a aD h1=>rw[h1];exact .none rfl
   |merge l fy=>exact absurd fy hk
 ·have hs:=Ln h t.call;generalize dz m t.call=r at hs he hk ⊢;cases hs with
  |err e tA=>exact .none rfl
  |put o fy=>exact absurd rfl he
  |ot mR a aD=>exact absurd aD he
  |merge l fy=>exact absurd rfl he
end
section
theorem aGL{l g6:List aB}{t:ba}{ops:List bf}(an:lN l)(dF:lN g6)(h:xu l t g6 ops){d:Int}(h1:d∉t.has)(h2:d≠2)(s:aM):jl g6 d s=jl l d s:=by
 cases h with
 |none h=>rw[h]
 |born o n hk ae ag aj hl hi aS aP aC al hd=>
  rw[hl]at dF ⊢;unfold jl;rw[Qf dF.cC an.cC (fun e=>h1 (by rw[<-e.1,aS];exact ae))]
 |wrote o hk aN n ag ae aj hl=>
  rw[hl];exact Qy an hk aN ⟨n,(A3 ag).1,(A3 ag).2⟩ d s
 |fB o hk n ag ae aS aj Ch ax hl=>
  rw[hl];unfold jl;rw[Y0 an ax hk (fun e=>by rcases aS with q|q;exact h2 (e.trans q);exact h1 (e▸q)) (fun m hm e=>by rw[ag]at hm;cases hm;exact h1 (e▸ae))]
section
variable {l:List aB} {n:aB} (an:lN l) (dF:lN (l++[n])) (ag:∀x∈l,x.id<n.id∧x.parent≠n.id) (aP:n.parent≠n.id) (aC:fp l n.parent n.name=none) (al:fp (l++[n]) n.parent n.name=some n)
include an dF aC in
theorem aAP{names:List aM}{x d:Int}(h:jo l x names=(d,0)):jo (l++[n]) x names=(d,0):=
 aAN (fun y s m hm=>⟨m,by rw[Qf dF.cC an.cC (fun e=>by rw[<-e.1,<-e.2,aC]at hm;cases hm)];exact hm,rfl⟩) names x d h
include an dF ag aP al in
theorem RA:∀(names:List aM) {x d:Int},x≠n.id->jo (l++[n]) x names=(d,0)->jo l x names=(d,0)∨d=n.id
 |[],x,d,_,h=>.inl h
 |s::names,x,d,J,h=>by
  rw[KE]at h ⊢;split at h
  ·rename_i tz;rw[aF tz];by_cases hj:n.parent=x∧n.name=s
   ·cases aS:jl (l++[n]) x s with
    |none=>rw[aS]at h;cases h
    |some i=>
     rw[aS]at h;simp only at h;have hi:i=n.id:=by unfold jl at aS;rw[<-hj.1,<-hj.2,al]at aS;exact(nY aS).symm
     subst hi;right;cases names with
     |nil=>exact(Prod.mk.inj h).1.symm
     |cons s2 b7=>
      rw[KE]at h;split at h
      ·cases iK:jl (l++[n]) n.id s2 with
       |none=>rw[iK]at h;cases h
       |some j=>
        unfold jl at iK;obtain⟨z,a2, -⟩:=jC.1 iK;obtain⟨-,jA,la⟩:=Da a2;rcases eX.1 jA with jA|jA
        ·exact absurd la (ag _ jA).2
        ·rw[dA]at jA;subst jA;exact absurd la aP
      ·cases h
   ·have e:jl (l++[n]) x s=jl l x s:=by unfold jl;rw[Qf dF.cC an.cC hj]
    rw[e]at h;cases aS:jl l x s with
    |none=>rw[aS]at h;cases h
    |some i=>
     rw[aS]at h;simp only at h ⊢;refine RA names ?_ h;unfold jl at aS;obtain⟨m,hm,rfl⟩:=jC.1 aS;have:=(ag m (Da hm).2.1).1;omega
  ·cases h
include an ag in
theorem aCd{x:Int}(J:x≠n.id):par (l++[n]) x=par l x:=by
 unfold par;have:e1 (l++[n]) x=e1 l x:=by
  unfold e1;rw[List.find?_append];cases List.find? (fun n=>decide (n.id=x)) l with
  |some m=>rfl
  |none=>(simp;exact fun e=>J e.symm)
 rw[this]
include an dF ag in
theorem PR{x:Int}(J:x≠n.id):nb (l++[n]) x=nb l x∧n.id∉nb l x:=by
 have eM:∀y,y≠n.id->∀p,par l y=some p->p≠n.id:=fun y _ p ae e=>by
  unfold par at ae;split at ae
  ·cases ae
  ·rename_i m hm;split at ae
   ·cases ae
   ·cases ae;exact(ag m (A3 hm).1).2 e
 unfold nb;rw[aF an.cC,aF dF.cC];refine⟨?_,fun h=>Q8 (C:=fun y=>y≠n.id) eM _ x J _ h rfl⟩
 have h1:=Q3 (l:=l) (a:=l++[n]) (C:=fun y=>y≠n.id) eM (fun y aG=>aCd an ag aG) (l++[n]).length x J
 have h2:=CW an.wf (k:=(l++[n]).length) (by simp) x
 unfold g0 at h2 ⊢;rw[h1,h2]
include an dF ag aP aC al in
theorem aCe(p:aM):(∀d,fZ l p=some d->fZ (l++[n]) p=some d)∧(∀d,fZ (l++[n]) p=some d->fZ l p=some d∨d=n.id):=by
 unfold fZ;cases gl p with
 |none=>exact⟨fun _ h=>(by cases h),fun _ h=>(by cases h)⟩
 |some b7=>
  cases b7 with
  |nil=>exact⟨fun _ h=>(by cases h),fun _ h=>(by cases h)⟩
  |cons x xs=>
   simp only;refine⟨fun d h=>?_,fun d h=>?_⟩
   ·split at h
    ·rename_i ah;cases h;have e:fg l (x::xs).dropLast=((fg l (x::xs).dropLast).1,0):=Prod.ext rfl ah.1;have:=aAP an dF aC e;unfold fg at this ⊢;rw[this,aF ⟨rfl,ah.2⟩]
    ·cases h
   ·split at h
    ·rename_i ah;cases h;have e:jo (l++[n]) 0 (x::xs).dropLast=((fg (l++[n]) (x::xs).dropLast).1,0):=Prod.ext rfl ah.1;have IZ:(0:Int)≠n.id:=fun e=>by
      have:=A4 dF (n:=n) (by simp)
      rw[<-e]at this;cases this
     rcases RA an dF ag aP al _ IZ e with q|q
     ·left;unfold fg at q ah ⊢;rw[q,aF ⟨rfl,by simpa using ah.2⟩]
     ·exact .inr q
    ·cases h
include an dF ag aP aC al in
theorem Y1(c:b3):ij l c<+:ij (l++[n]) c:=by
 have hd:=fun p=>aCe an dF ag aP aC al p
 have ia:∀p d,fZ l p=some d->d<n.id:=fun p d h=>by
  unfold fZ at h;split at h
  ·split at h
   ·rename_i x xs _ ah;cases h;rcases Lm (l:=l) (names:=(x::xs).dropLast) (d:=(fg l (x::xs).dropLast).1) (Prod.ext rfl ah.1)with⟨-,e⟩|⟨m,hm,e⟩
    ·rw[e];have:=A4 dF (n:=n) (by simp)
     have:=(DC.1 this).1;omega
    ·rw[<-e];exact(ag m hm).1
   ·cases h
  ·cases h
 have c3:∀{a b:Int},a≠n.id->nL (l++[n]) b a=nL l b a:=fun aD=>by
  unfold nL;rw[(PR an dF ag aD).1]
 have ru:∀{a:Int},a≠n.id->nL (l++[n]) n.id a=false:=fun aD=>by
  unfold nL;rw[(PR an dF ag aD).1];have:=(PR an dF ag aD).2;simpa using this
 unfold ij xf mN;refine(List.prefix_cons_inj 1).2 ?_;have one:∀p,nc l ([p].foldl (fun bc p=>jw bc (fZ l p)) [])<+:nc (l++[n]) ([p].foldl (fun bc p=>jw bc (fZ (l++[n]) p)) []):=fun p=>by
  simp only[nZ,Bc];cases h:fZ l p with
  |none=>exact List.nil_prefix
  |some d=>rw[(hd p).1 d h];exact nn _
 split
 ·simp only[nZ,Bc];cases aD:fZ l c.path with
  |some a=>
   rw[(hd _).1 a aD];cases aa:fZ l c.to with
   |some b=>
    rw[(hd _).1 b aa];have h1:=ia _ _ aD;have h2:=ia _ _ aa;have h3:=c3 (a:=a) (b:=b) (by omega)
    have h4:=c3 (a:=b) (b:=a) (by omega)
    simp only[jw,List.contains_nil,ht,eF,gK];split
    ·exact nn _
    ·simp only[gi,gK,nc,h3,h4];exact nn _
   |none=>
    cases fQ:fZ (l++[n]) c.to with
    |none=>exact nn _
    |some cN=>
     rcases(hd _).2 cN fQ with q|q
     ·rw[aa]at q;cases q
     ·have h1:=ia _ _ aD;subst q;have h3:=ru (a:=a) (by omega)
      have h4:¬n.id<a:=by omega
      have cz:¬n.id=a:=by omega
      simp[jw,nc,h3,h4,cz]
  |none=>
   cases aa:fZ l c.to with
   |none=>simp[jw,nc]
   |some b=>
    rw[(hd _).1 b aa];have h1:=ia _ _ aa;cases rj:fZ (l++[n]) c.path with
    |none=>exact nn _
    |some gx=>
     rcases(hd _).2 gx rj with q|q
     ·rw[aD]at q;cases q
     ·subst q;have h3:=ru (a:=b) (by omega)
      have cz:¬b=n.id:=by omega
      simp[jw,nc,h3,h1,cz]
 ·split
  ·exact one _
  ·exact nn _
end
theorem YN{l:List aB}(an:lN l){o:bf}(hk:o.kind=2)(aN:dk o=true)(ah:∃n∈l,n.id=o.node)(c:b3):ij (ed l o) c=ij l c:=by
 have iH:=Qy an hk aN ah;obtain⟨c4,dm⟩:=Qx an hk aN ah;have ae:∀(b7:List aM) (x:Int),jo (ed l o) x b7=jo l x b7:=by
  intro b7;induction b7 with
  |nil=>intro x;rfl
  |cons s b7 ay=>
   intro x;rw[KE,KE,iH];cases jl l x s with
   |none=>rfl
   |some i=>simp only[ay]
 have hd:∀p,fZ (ed l o) p=fZ l p:=fun p=>by
  unfold fZ fg;simp only[ae]
 have c3:∀a b,nL (ed l o) a b=nL l a b:=fun a b=>by
  unfold nL nb;rw[HH,aF an.cC,aF an.cC];have e:(ed l o).length=l.length:=by rw[c4,cP]
  have:=Q3 (l:=l) (a:=ed l o) (C:=fun _=>True) (fun _ _ _ _=>trivial) (fun y _=>Q9 an.cC dm hk y) l.length b trivial
  unfold g0;rw[e,this]
 have zQ:∀bc,nc (ed l o) bc=nc l bc:=fun bc=>by
  unfold nc;split
  ·rw[c3,c3]
  ·rfl
 unfold ij xf;rw[zQ];simp only[hd]
theorem aGM{l g6:List aB}{t:ba}{ops:List bf}(an:lN l)(dF:lN g6)(h:xu l t g6 ops)(aj:fC t.call=false)(c:b3):ij l c<+:ij g6 c:=by
 cases h with
 |none h=>rw[h];exact nn _
 |born o n hk ae ag aj hl hi aS aP aC al hd=>
  rw[hl]at dF ⊢;exact Y1 an dF (fun x J=>by rw[hi];exact ag x J) (by rw[hi,aS];exact aP) (by rw[aS];exact aC) al c
 |wrote o hk aN n ag ae aj hl=>
  rw[hl,YN an hk aN ⟨n,(A3 ag).1,(A3 ag).2⟩];exact nn _
 |fB o hk n ag ae aS rv=>rw[aj]at rv;cases rv
end
section
structure nt (l:List aB) (t:ba):Prop where
 ended:t.ended=true->t.done=true∧t.has=[]
 walk:t.done=false->gR t.call=true->t.has.length<=2∧0<=t.at_∧t.at_<=16∧(t.has=[]->t.at_=0)∧∀k∈t.has,k≠1∧k≠2∧0<=k
 l5:t.done=false->fC t.call=true->t.has<+:ij l t.call
 plain:t.done=false->gR t.call=false->fC t.call=false->t.has=[]
theorem Sc{c:b3}(h:gR c=true):fC c=false:=by
 cases aj:fC c with
 |false=>rfl
 |true=>rw[RM aj]at h;cases h
theorem AP(t:ba)(k:Int):(dj t ⟨1,k⟩).has=t.has++[k]∧(dj t ⟨1,k⟩).call=t.call∧(dj t ⟨1,k⟩).done=t.done∧(dj t ⟨1,k⟩).ended=t.ended∧(dj t ⟨1,k⟩).upto=t.upto∧(dj t ⟨1,k⟩).bp=t.bp∧(dj t ⟨1,k⟩).dJ=t.dJ∧(dj t ⟨1,k⟩).mark=t.mark∧(dj t ⟨1,k⟩).end_=t.end_∧
  (dj t ⟨1,k⟩).at_=if t.has.length=1∧gR t.call=true then IntKind.i64.wrap (t.at_+1)else t.at_:=by
 unfold dj;exact⟨rfl,rfl,rfl,rfl,rfl,rfl,rfl,rfl,rfl,rfl⟩
theorem C7(t:ba)(k:Int):(dj t ⟨2,k⟩).has=t.has.filter (fun x=> !decide (x=k))∧(dj t ⟨2,k⟩).call=t.call∧(dj t ⟨2,k⟩).done=t.done∧(dj t ⟨2,k⟩).ended=t.ended∧(dj t ⟨2,k⟩).upto=t.upto∧(dj t ⟨2,k⟩).bp=t.bp∧(dj t ⟨2,k⟩).dJ=t.dJ∧(dj t ⟨2,k⟩).mark=t.mark∧(dj t ⟨2,k⟩).end_=t.end_∧
  (dj t ⟨2,k⟩).at_=if t.has.filter (fun x=> !decide (x=k))=[]∧t.done=false∧gR t.call=true then 0 else t.at_:=by
 unfold dj;exact⟨rfl,rfl,rfl,rfl,rfl,rfl,rfl,rfl,rfl,rfl⟩
theorem MM{has cp:List Int}{k:Int}(ag:cp.Nodup)(ae:has<+:cp)(h:mW has cp=⟨1,k⟩):k∉has∧has++[k]<+:cp:=by
 obtain⟨rest,rfl⟩:=ae;rw[Uz _ _ (fun y h=>h)]at h
 cases rest with
 |nil=>cases h
 |cons a r=>
  have aD:a∉has:=fun J=>(List.nodup_append.1 ag).2.2 a J a (by simp) rfl
  rw[Lv (by simpa using aD)]at h
  cases h;exact⟨aD,⟨r,by simp⟩⟩
theorem Gm{has:List Int}:∀(cp:List Int),(mW has cp).kind=1∨mW has cp=⟨3,0⟩
 |[]=>.inr rfl
 |a::cp=>by
  unfold mW;split
  ·exact Gm cp
  ·exact .inl rfl
inductive xC (l:List aB) (names:List aM) (t:ba):eR->Prop
 |root (h:t.has=[]):xC l names t ⟨1,0⟩
 |pass (a b:Int) (r:List Int) (h:t.has=a::b::r):xC l names t ⟨2,a⟩
 |down (here i:Int) (s:aM) (h:t.has=[here]) (aC:0<=t.at_) (hs:names[t.at_.toNat]?=some s) (al:jl l here s=some i) (hd:dy i=true):xC l names t ⟨1,i⟩
 |xW (here:Int) (h:t.has=[here]) (an:(fg l names).2=0) (hd:dy (fg l names).1=true) (ag:(fg l names).1≠here) (al:∀s i,0<=t.at_->names[t.at_.toNat]?=some s->jl l here s=some i->dy i=false):xC l names t ⟨2,here⟩
 |here (here:Int) (h:t.has=[here]):xC l names t ⟨3,0⟩
theorem Y2(l:List aB)(names:List aM)(t:ba):xC l names t (sZ l names t):=by
 unfold sZ;split
 ·rename_i h;exact .root h
 ·rename_i h;rw[h];exact .pass _ _ _ h
 ·rename_i here h;have tB:∀al:(∀s i,0<=t.at_->names[t.at_.toNat]?=some s->jl l here s=some i->dy i=false),xC l names t (if(fg l names).2=0∧dy (fg l names).1=true∧(fg l names).1≠here then⟨2,here⟩else⟨3,0⟩):=fun al=>by
   split
   ·rename_i h1;exact .xW here h h1.1 h1.2.1 h1.2.2 al
   ·exact .here here h
  split
  ·rename_i n aa;obtain⟨s,hs,al⟩:=xn.1 aa;split at hs
   ·rename_i aC;split
    ·rename_i hd;exact .down here n.id s h aC hs (by unfold jl;rw[al];rfl) hd
    ·rename_i hd;refine tB fun qN i _ ar au=>?_
     rw[hs]at ar;cases ar;unfold jl at au;rw[al]at au;cases au;simpa using hd
   ·cases hs
  ·rename_i aa;refine tB fun s i aC hs al=>?_
   rw[aF aC,hs]at aa;simp only[lb]at aa;unfold jl at al;rw[aa]at al;cases al
inductive xy (l:List aB) (t:ba):eR->Prop
 |none (h:t.ended=true):xy l t ⟨0,0⟩
 |back (k:Int) (r:List Int) (h:t.done=true) (he:t.ended=false) (ah:t.has=k::r):xy l t ⟨2,k⟩
 |wait (h:t.done=true) (he:t.ended=false) (ah:t.has=[]) (hk:t.call.kind=12):xy l t ⟨4,0⟩
 |leave (h:t.done=true) (he:t.ended=false) (ah:t.has=[]) (hk:t.call.kind≠12):xy l t ⟨5,0⟩
 |l5 (h:t.done=false) (he:t.ended=false) (aj:fC t.call=true):xy l t (mW t.has (ij l t.call))
 |walk (u:eR) (h:t.done=false) (he:t.ended=false) (aj:fC t.call=false) (hw:gR t.call=true) (hs:xC l (hr t.call) t u):xy l t u
 |plain (h:t.done=false) (he:t.ended=false) (aj:fC t.call=false) (hw:gR t.call=false):xy l t ⟨3,0⟩
theorem sL(l:List aB)(t:ba):xy l t (fM l t):=by
 unfold fM;split
 ·rename_i h;exact .none h
 rename_i he;split
 ·rename_i h;split
  ·rename_i ah;exact .back _ _ h (by simpa using he) ah
  ·rename_i ah;split
   ·rename_i hk;exact .wait h (by simpa using he) ah hk
   ·rename_i hk;exact .leave h (by simpa using he) ah hk
 rename_i h;split
 ·rename_i aj;exact .l5 (by simpa using h) (by simpa using he) aj
 rename_i aj;split
 ·rename_i hw;exact .walk _ (by simpa using h) (by simpa using he) (by simpa using aj) hw (Y2 l _ t)
 ·rename_i hw;exact .plain (by simpa using h) (by simpa using he) (by simpa using aj) (by simpa using hw)
theorem L0(l:List aB){t:ba}(he:t.ended=false):(fM l t).kind=1∨(fM l t).kind=2∨fM l t=⟨3,0⟩∨(fM l t).kind=4∨(fM l t).kind=5:=by
 have J:=sL l t;generalize fM l t=u at J ⊢;cases J with
 |none h=>rw[he]at h;cases h
 |back=>exact .inr (.inl rfl)
 |wait=>exact .inr (.inr (.inr (.inl rfl)))
 |leave=>exact .inr (.inr (.inr (.inr rfl)))
 |plain=>exact .inr (.inr (.inl rfl))
 |l5=>
  rcases Gm (has:=t.has) (ij l t.call)with q|q
  ·exact .inl q
  ·exact .inr (.inr (.inl q))
 |walk _ _ _ _ _ hs=>
  cases hs with
  |root=>exact .inl rfl
  |down=>exact .inl rfl
  |pass=>exact .inr (.inl rfl)
  |xW=>exact .inr (.inl rfl)
  |here=>exact .inr (.inr (.inl rfl))
theorem Tg{l:List aB}(an:lN l){d i:Int}{s:aM}(h:jl l d s=some i):∃n∈l,n.id=i∧n.parent=d∧128<=i:=by
 unfold jl at h;obtain⟨n,ag,rfl⟩:=jC.1 h;obtain⟨-,h1,h2⟩:=Da ag;exact⟨n,h1,rfl,h2,(DC.1 (A4 an h1)).1⟩
theorem xP{l:List aB}(an:lN l){t:ba}(hw:nt l t){k:Int}(h:fM l t=⟨1,k⟩):t.ended=false∧t.done=false∧k∉t.has∧nt l (dj t ⟨1,k⟩):=by
 have ag:=sL l t;rw[h]at ag;obtain⟨aQ,aO,bF,c9, -, -, -, -, -,eA⟩:=AP t k;generalize dj t ⟨1,k⟩=t' at *;generalize hu:(⟨1,k⟩:eR)=u at ag;cases ag with
 |none=>cases hu
 |back=>cases hu
 |wait=>cases hu
 |leave=>cases hu
 |plain=>cases hu
 |l5 hd he aj=>
  have ae:=hw.l5 hd aj;obtain⟨h1,h2⟩:=MM (M9 l t.call) ae hu.symm;exact⟨he,hd,h1,⟨fun h=>(by rw[c9,he]at h;cases h),fun _ h=>(by rw[aO,RM aj]at h;cases h),fun _ _=>by rw[aQ,aO];exact h2,fun _ _ h=>(by rw[aO,aj]at h;cases h)⟩⟩
 |walk _ hd he aj ju hs=>
  obtain⟨dq,bZ,dO,kc,oL⟩:=hw.walk hd ju;have key:∀i,k=i->k∉t.has->(k≠1∧k≠2∧0<=k)->(t'.has.length<=2∧0<=t'.at_∧t'.at_<=16)->nt l t':=fun i _ h1 h2 h3=>⟨fun h=>(by rw[c9,he]at h;cases h),fun _ _=>⟨h3.1,h3.2.1,h3.2.2,fun h=>by rw[aQ]at h;simp at h,fun x J=>by
   rw[aQ,eX,dA]at J;rcases J with J|rfl
   ·exact oL x J
   ·exact h2⟩,fun _ h=>(by rw[aO,aj]at h;cases h),fun _ h=>(by rw[aO,ju]at h;cases h)⟩
  cases hs with
  |root ah=>
   cases hu;refine⟨he,hd,by rw[ah];simp,key 0 rfl (by rw[ah];simp) (by decide) ?_⟩
   rw[aQ,eA,ah,az (by simp)]
   exact⟨by simp,bZ,dO⟩
  |down here i s ah aC hs al fl=>
   cases hu;obtain⟨n,ag,ar,au,bd⟩:=Tg an al;have aP:k≠here:=fun e=>by
    obtain⟨m,hm,bE⟩:=jC.1 al;have mg:dy here=true:=by rw[<-e];exact fl
    have:=(aHi an mg hm).1;omega
   have lG:k∉t.has:=by rw[ah];simpa using aP
   have hl:t.at_.toNat<(hr t.call).length:=(cA.1 hs).1;have NF:=PL t.call;refine⟨he,hd,lG,key k rfl lG (by omega) ?_⟩
   rw[aQ,eA,ah,aF ⟨rfl,ju⟩,cB];exact⟨by simp,by omega,by omega⟩
  |pass=>cases hu
  |xW=>cases hu
  |here=>cases hu
theorem aCf{l:List Int}(ag:l.Nodup){k:Int}:(l.filter fun x=> !decide (x=k)).length<=l.length∧∀x∈l.filter (fun x=> !decide (x=k)),x∈l:=⟨nX ..,fun x J=>(km.1 J).1⟩
theorem Th{l:List aB}{t:ba}(hw:nt l t)(ag:t.has.Nodup){k:Int}(h:fM l t=⟨2,k⟩):t.ended=false∧k∈t.has∧nt l (dj t ⟨2,k⟩):=by
 have J:=sL l t;rw[h]at J;obtain⟨aQ,aO,bF,c9, -, -, -, -, -,eA⟩:=C7 t k;obtain⟨f1,f2⟩:=aCf ag (k:=k);generalize dj t ⟨2,k⟩=t' at *;generalize hu:(⟨2,k⟩:eR)=u at J;cases J with
 |none=>cases hu
 |wait=>cases hu
 |leave=>cases hu
 |plain=>cases hu
 |back k' r hd he ah=>
  cases hu;exact⟨he,by rw[ah];simp,⟨fun h=>(by rw[c9,he]at h;cases h),fun h=>(by rw[bF,hd]at h;cases h),fun h=>(by rw[bF,hd]at h;cases h),fun h=>(by rw[bF,hd]at h;cases h)⟩⟩
 |l5 hd he aj=>
  rcases Gm (has:=t.has) (ij l t.call)with q|q
  ·rw[<-hu]at q;cases q
  ·rw[<-hu]at q;cases q
 |walk _ hd he aj ju hs=>
  obtain⟨dq,bZ,dO,kc,oL⟩:=hw.walk hd ju;have fin:k∈t.has->t.ended=false∧k∈t.has∧nt l t':=fun hk=>by
   refine⟨he,hk,⟨fun h=>(by rw[c9,he]at h;cases h),fun _ _=>?_,fun _ h=>(by rw[aO,aj]at h;cases h),fun _ h=>(by rw[aO,ju]at h;cases h)⟩⟩
   rw[aQ,eA];refine⟨by omega,?_,?_,fun e=>?_,fun x J=>oL x (f2 x J)⟩
   ·split<;>omega
   ·split<;>omega
   ·rw[aF ⟨e,hd,ju⟩]
  cases hs with
  |root=>cases hu
  |down=>cases hu
  |here=>cases hu
  |pass a b r ah=>cases hu;exact fin (by rw[ah];simp)
  |xW here ah=>cases hu;exact fin (by rw[ah];simp)
theorem Ip{l:List aB}{t:ba}(h:fM l t=⟨3,0⟩):t.ended=false∧t.done=false:=by
 have J:=sL l t;rw[h]at J;generalize hu:(⟨3,0⟩:eR)=u at J;cases J with
 |none=>cases hu
 |back=>cases hu
 |wait=>cases hu
 |leave=>cases hu
 |plain hd he=>exact⟨he,hd⟩
 |l5 hd he=>exact⟨he,hd⟩
 |walk _ hd he=>exact⟨he,hd⟩
theorem Ti{l:List aB}{t:ba}{k:Int}(h:fM l t=⟨4,k⟩):k=0∧t.ended=false∧t.done=true∧t.has=[]∧t.call.kind=12:=by
 have J:=sL l t;rw[h]at J;generalize hu:(⟨4,k⟩:eR)=u at J;cases J with
 |none=>cases hu
 |back=>cases hu
 |leave=>cases hu
 |plain=>cases hu
 |wait hd he ah hk=>cases hu;exact⟨rfl,he,hd,ah,hk⟩
 |l5 hd he aj=>
  rcases Gm (has:=t.has) (ij l t.call)with q|q<;>(rw[<-hu]at q;cases q)
 |walk _ hd he aj ju hs=>cases hs<;>cases hu
theorem Lo{l:List aB}{t:ba}{k:Int}(h:fM l t=⟨5,k⟩):k=0∧t.ended=false∧t.done=true∧t.has=[]∧t.call.kind≠12:=by
 have J:=sL l t;rw[h]at J;generalize hu:(⟨5,k⟩:eR)=u at J;cases J with
 |none=>cases hu
 |back=>cases hu
 |wait=>cases hu
 |plain=>cases hu
 |leave hd he ah hk=>cases hu;exact⟨rfl,he,hd,ah,hk⟩
 |l5 hd he aj=>
  rcases Gm (has:=t.has) (ij l t.call)with q|q<;>(rw[<-hu]at q;cases q)
 |walk _ hd he aj ju hs=>cases hs<;>cases hu
theorem nt.oT{l:List aB}{t:ba}(h:t.done=true)(he:t.ended=true->t.has=[]):nt l t:=
 ⟨fun e=>⟨h,he e⟩,fun e=>(by rw[h]at e;cases e),fun e=>(by rw[h]at e;cases e),fun e=>(by rw[h]at e;cases e)⟩
end
section
theorem Nf{m:cb}(h:ey m)(c:b3):(dz m c).1.log.entries.length=m.log.entries.length+(dz m c).2.2.length:=by
 have hs:=Ln h c;generalize dz m c=r at hs ⊢;cases hs with
 |err e he=>rfl
 |put o hk ag aN aD=>
  have hl:=(yD ag).2.2.2.2.2;have bX:∀x∈dN m.log,x.at_≠o.at_:=fun x J e=>by have:=h.ti x J;rw[e,aD]at this;simp only at this;omega
  show(gA m.log o).entries.length=_;rw[<-GF,LI h.ob aN bX hl,LS,GF];rfl
 |ot mR a aD h1 h2 h3 h4=>simp only[h1];rfl
 |merge l hk ax al=>
  obtain⟨f1,f2⟩:=aBj m.log l [] .nil (fun o aN=>by cases aN)
  have Cv:∀o∈gn m.log [] l,dk o=true:=fun o J=>by
   rcases KB _ _ _ o J with h|h
   ·cases h
   ·exact KX ax o h
  have bZ:=(aDL (gn m.log [] l) h.ob Cv f1 f2 al).2;have:(Az m l).log.entries.length=m.log.entries.length+(gn m.log [] l).length:=bZ;simp only;split
  ·exact this
  ·exact this
end
end Go.Proofs.YthafnbmdmfoobaaGreatDoor
