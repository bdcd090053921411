/- What the functions of this seat answer (15 of 38). No condition. -/
import Derived.Test.YtennnelammaapaaGreatDoorWorkAL
set_option linter.unusedSimpArgs false
set_option linter.unusedVariables false
set_option linter.unusedSectionVars false
set_option maxRecDepth 100000
set_option maxHeartbeats 16000000
namespace Go.Proofs.YtennnelammaapaaGreatDoor
section
def errA(e:Int):Ans:={an0 with err:=e}
def doM(m:Mdl)(c:Cal):Mdl×Ans×List Opn:=
 if chkC c=false then(m,errA 180,[])else
 if(jE c ⟨m,an0,[]⟩).1=0 then
  (if(jE c ⟨m,an0,[]⟩).2.ops=[]then((jE c ⟨m,an0,[]⟩).2.m,(jE c ⟨m,an0,[]⟩).2.a,[])
  else((zH m.log.nodes (jE c ⟨m,an0,[]⟩).2).m,(jE c ⟨m,an0,[]⟩).2.a,(jE c ⟨m,an0,[]⟩).2.ops))
 else(m,errA (jE c ⟨m,an0,[]⟩).1,[])
def aAe(r:Int):Mdl×Int:=if 0≤r∧r≤63 then({md0 with rep:=r,next:=1},0)else(md0,20)
end
section
structure Hld where
 lock:Int
 thr:Int
deriving DecidableEq,Inhabited
structure Wai where
 thr:Int
 upto:Int
deriving DecidableEq,Inhabited
structure Tbl where
 held:List Hld
 waits:List Hld
deriving DecidableEq,Inhabited
structure Grp where
 kept:Int
 waits:List Wai
deriving DecidableEq,Inhabited
structure Cor where
 m:Mdl
 t:Tbl
 g:Grp
 ths:List Thr
 time:Int
 ops:List Opn
deriving DecidableEq,Inhabited
def hdA(h:Hld):AV:=.agg [.int .i64 h.lock,.int .i64 h.thr]
def wtA(w:Wai):AV:=.agg [.int .i64 w.thr,.int .i64 w.upto]
def mP(f1 f2:Bool)(t:Tbl):AV:=.agg [.sl f1 (t.held.map hdA),.sl f2 (t.waits.map hdA)]
def gpA(f:Bool)(g:Grp):AV:=.agg [.int .i64 g.kept,.sl f (g.waits.map wtA)]
def thr(t:Thr):AV:=.agg [.int .i64 t.call.kind,.str t.call.path,.str t.call.to,.str t.call.data,.int .i64 t.call.n,.sl false (t.has.map bK),.int .i64 t.at_,.bool t.done,.bool t.ended,.int .i64 t.upto,.int .i64 t.begin_,.int .i64 t.mark,.int .i64 t.end_,
 .int .i64 t.ans.err,.str t.ans.data,.sl false (t.ans.names.map AV.str),.int .i64 t.ans.n,.sl false (t.ans.events.map fF)]
theorem aK0(t:Thr):thr t=pE false false false t:=rfl
def kE(e n s w h q g t o:AV)(x:Cor):AV:=.agg [e,n,.int .i64 x.m.seen,.int .i64 x.m.rep,s,w,.int .i64 x.m.next,h,q,.int .i64 x.g.kept,g,t,.int .i64 x.time,o]
def iN(f1 f2 f3 f4 f5 f6 f7 f8 f9:Bool)(x:Cor):AV:=kE (.sl f1 (x.m.log.entries.map iB)) (.sl f2 (x.m.log.nodes.map ndA)) (.sl f3 (x.m.snaps.map iG)) (.sl f4 (x.m.watches.map dJ)) (.sl f5 (x.t.held.map hdA)) (.sl f6 (x.t.waits.map hdA)) (.sl f7 (x.g.waits.map wtA)) (.sl f8 (x.ths.map thr)) (.sl f9 (x.ops.map opA)) x
@[go_sem] theorem aXP(x:Hld):Pur (hdA x)=True:=by simp only[hdA,go_sem]
@[go_sem] theorem aXQ(x:Wai):Pur (wtA x)=True:=by simp only[wtA,go_sem]
@[go_sem] theorem aXR(f1 f2:Bool)(x:Tbl):Pur (mP f1 f2 x)=True:=by simp only[mP,go_sem]
@[go_sem] theorem aXS(f:Bool)(x:Grp):Pur (gpA f x)=True:=by simp only[gpA,go_sem]
@[go_sem] theorem aXT(x:Thr):Pur (thr x)=True:=by simp only[thr,go_sem]
@[go_sem] theorem aXU(f1 f2 f3 f4 f5 f6 f7 f8 f9:Bool)(x:Cor):Pur (iN f1 f2 f3 f4 f5 f6 f7 f8 f9 x)=True:=by simp only[iN,kE,go_sem]
def tb0:Tbl:=⟨[],[]⟩
def gp0:Grp:=⟨0,[]⟩
def co0:Cor:=⟨md0,tb0,gp0,[],0,[]⟩
def mQ(l:List Hld)(k:Int):Option Int:=(l.find? fun h=>decide (h.lock=k)).map (·.thr)
def nM(l:List Hld)(n:Int):Option Int:=(l.find? fun h=>decide (h.thr=n)).map (·.lock)
def aBP(t:Tbl)(n k:Int):Tbl×Bool:=match mQ t.held k with
 |none=>({t with held:=t.held++[⟨k,n⟩]},true)
 |some h=>if h=n then(t,true)else if t.waits.contains ⟨k,n⟩=true then(t,false)else({t with waits:=t.waits++[⟨k,n⟩]},false)
def bX(t:Tbl)(n k:Int):Tbl×Option Int:=
 if t.held.contains ⟨k,n⟩=true then(match t.waits.find? fun w=>decide (w.lock=k)with
  |none=>({t with held:=t.held.erase ⟨k,n⟩},none)
  |some w=>(⟨t.held.erase ⟨k,n⟩++[w],t.waits.erase w⟩,some w.thr))
 else(t,none)
def dropF(n:Int):List Hld→Tbl×List Hld→Tbl×List Hld
 |[],s=>s
 |h::l,s=>if h.thr=n then(match(bX s.1 n h.lock).2 with
  |none=>dropF n l ((bX s.1 n h.lock).1,s.2)
  |some k=>dropF n l ((bX s.1 n h.lock).1,s.2++[⟨h.lock,k⟩]))else dropF n l s
def dropT(t:Tbl)(n:Int):Tbl×List Hld:=dropF n t.held (⟨t.held,t.waits.filter fun w=> !decide (w.thr=n)⟩,[])
def oT(g:Grp)(n:Int):Bool:=g.waits.any fun w=>decide (w.thr=n)
def aC8(n up:Int):List Wai→List Wai
 |[]=>[]
 |w::l=>if w.thr=n then⟨w.thr,max w.upto up⟩::l else w::aC8 n up l
def zJ(g:Grp)(n up:Int):Grp×Bool:=
 if up≤g.kept then(g,true)else if oT g n=true then({g with waits:=aC8 n up g.waits},false)else({g with waits:=g.waits++[⟨n,up⟩]},false)
def zK(g:Grp):Option Int:=g.waits.head?.map (·.thr)
def aC9(g:Grp)(k:Int):Grp×List Int:=(⟨max g.kept k,g.waits.filter fun w=> !decide (w.upto≤max g.kept k)⟩,(g.waits.filter fun w=>decide (w.upto≤max g.kept k)).map (·.thr))
def tP(r:Int):Cor×Int:=if(aAe r).2=0 then({co0 with m:=(aAe r).1},0)else(co0,(aAe r).2)
def eC(x:Cor)(c:Cal):Cor×Int×Int:=
 if(40:Int)≤(x.ths.length:Int)then(x,0,193)else({x with time:=IntKind.i64.wrap (x.time+1),ths:=x.ths++[{th0 c with begin_:=IntKind.i64.wrap (x.time+1)}]},x.ths.length,0)
def nN(x:Cor)(p:Thr×Nat):Bool:= !p.1.ended&& !(nM x.t.waits p.2).isSome&&(!oT x.g p.2||decide (zK x.g=some (p.2:Int)))
def cW(x:Cor):List Nat:=(x.ths.zipIdx.filter (nN x)).map (·.2)
def kY(x:Cor)(p:Int):Option Nat:=if cW x=[]then none else some ((cW x).getD (p % ((cW x).length:Int)).toNat 0)
def mY(l:List Thr)(i:Int)(f:Thr→Thr):List Thr:=if 0≤i∧i<l.length then l.set i.toNat (f (l.getD i.toNat (th0 ca0)))else l
def vY(l:List Thr)(h:Hld):List Thr:=mY l h.thr fun t=>afterT t ⟨1,h.lock⟩
def kF(time:Int)(l:List Thr)(n:Int):List Thr:=mY l n fun t=>{t with ended:=true,end_:=time}
def mR(full:Bool)(who:Nat)(x:Cor):Cor:=
 if full=true then{x with g:={x.g with waits:=x.g.waits.filter fun w=> !decide (w.thr=who)},ths:=kF x.time (mY x.ths who fun t=>{t with ans:={an0 with err:=120}}) who}
 else{x with g:=(aC9 x.g x.ops.length).1,ths:=(aC9 x.g x.ops.length).2.foldl (kF x.time) x.ths}
def vZ(who:Nat)(k:Int)(x:Cor):Cor:=
 if(aBP x.t who k).2=true then{x with t:=(aBP x.t who k).1,ths:=mY x.ths who fun t=>afterT t ⟨1,k⟩}else{x with t:=(aBP x.t who k).1}
def wA(who:Nat)(k:Int)(x:Cor):Cor:=match(bX x.t who k).2 with
 |none=>{x with t:=(bX x.t who k).1,ths:=mY x.ths who fun t=>afterT t ⟨2,k⟩}
 |some n=>{x with t:=(bX x.t who k).1,ths:=vY (mY x.ths who fun t=>afterT t ⟨2,k⟩) ⟨k,n⟩}
def aEo(who n:Nat)(t:Thr):Bool:= !decide (n=who)&&walksK t.call&& !t.done
def mS(who:Nat)(s:Tbl×List Thr)(n:Nat):Tbl×List Thr:=
 if aEo who n (s.2.getD n (th0 ca0))=true then((dropT s.1 n).1,(dropT s.1 n).2.foldl vY (mY s.2 n rI))else s
def aEp(who:Nat)(x:Cor):Cor:={x with t:=((List.range x.ths.length).foldl (mS who) (x.t,x.ths)).1,ths:=((List.range x.ths.length).foldl (mS who) (x.t,x.ths)).2}
def aVN(x:Cor)(r:Mdl×Ans×List Opn)(t:Thr):Thr:=afterT {t with ans:=r.2.1,mark:=x.time,upto:=((x.ops++r.2.2).length:Int)} ⟨3,0⟩
def kG(who:Nat)(x:Cor)(r:Mdl×Ans×List Opn):Cor:={x with m:=r.1,ops:=x.ops++r.2.2,ths:=mY x.ths who (aVN x r)}
def aFH(who:Nat)(c:Cal)(x:Cor):Cor:=
 if c.kind=13∧(doM x.m c).2.1.err=0 then aEp who (kG who x (doM x.m c))else kG who x (doM x.m c)
def aBk(who:Nat)(t:Thr)(x:Cor):Cor:=
 if(zJ x.g who t.upto).2=true then{x with g:=(zJ x.g who t.upto).1,ths:=kF x.time x.ths who}else{x with g:=(zJ x.g who t.upto).1}
def aBl(who:Nat)(x:Cor):Cor:={x with ths:=mY x.ths who fun t=>{afterT t ⟨5,0⟩with end_:=x.time}}
def rT(who:Nat)(t:Thr)(u:Trn)(x:Cor):Cor:=
 if u.kind=1 then vZ who u.lock x else if u.kind=2 then wA who u.lock x else if u.kind=3 then aFH who t.call x else if u.kind=4 then aBk who t x else if u.kind=5 then aBl who x else x
def zL(x:Cor):Cor:={x with time:=IntKind.i64.wrap (x.time+1)}
def goC(full:Bool)(who:Nat)(x:Cor):Cor:=
 if oT x.g who=true then mR full who (zL x)else rT who (x.ths.getD who (th0 ca0)) (nextT x.m.log.nodes (x.ths.getD who (th0 ca0))) (zL x)
def jL(x:Cor)(p:Int)(full:Bool):Cor:=match kY x p with
 |none=>x
 |some who=>goC full who x
def aAf(x:Cor)(l:List Int):Cor:=l.foldl (fun x p=>jL x p false) x
def doneC(x:Cor):Bool:=x.ths.all fun t=>t.ended
end
section
structure TI (t:Tbl) (n:Nat) (has:Nat→List Int):Prop where
 heldU:t.held.Pairwise fun a b=>a.lock≠b.lock
 heldH:∀(k:Int) (j:Int),(⟨k,j⟩:Hld)∈t.held↔∃i:Nat,j=(i:Int)∧i<n∧k∈has i
 hasU:∀i,(has i).Nodup
 waitU:t.waits.Pairwise fun a b=>a.thr≠b.thr
 waitH:∀w∈t.waits,∃i:Nat,w.thr=(i:Int)∧i<n∧w.lock∉has i∧∃h∈t.held,h.lock=w.lock
theorem TI.one{t:Tbl}{n:Nat}{has:Nat→List Int}(h:TI t n has){k:Int}{a b:Int}(ha:(⟨k,a⟩:Hld)∈t.held)(hb:(⟨k,b⟩:Hld)∈t.held):a=b:=by
 have key:∀l:List Hld,(l.Pairwise fun a b=>a.lock≠b.lock)→(⟨k,a⟩:Hld)∈l→(⟨k,b⟩:Hld)∈l→a=b:=by
  intro l;induction l with
  |nil=>intro _ h;cases h
  |cons x l ih=>
   intro hp h1 h2;rw[zBw]at hp;rcases zAs.1 h1 with e1|m1<;>rcases zAs.1 h2 with e2|m2
   ·rw[←e1]at e2;exact(Hld.mk.inj e2).2.symm
   ·subst e1;exact absurd (rfl:k=k) (hp.1 ⟨k,b⟩ m2)
   ·subst e2;exact absurd (rfl:k=k) (hp.1 ⟨k,a⟩ m1)
   ·exact ih hp.2 m1 m2
 exact key _ h.heldU ha hb
theorem TI.oneN{t:Tbl}{n:Nat}{has:Nat→List Int}(h:TI t n has){k:Int}{i j:Nat}(hi:i<n)(hj:j<n)(h1:k∈has i)(h2:k∈has j):i=j:=by
 have:=h.one ((h.heldH k i).2 ⟨i,rfl,hi,h1⟩) ((h.heldH k j).2 ⟨j,rfl,hj,h2⟩);omega
theorem tE{l:List Hld}{k j:Int}(h:mQ l k=some j):(⟨k,j⟩:Hld)∈l:=by
 unfold mQ at h;obtain⟨x,hx,rfl⟩:=zAM.1 h;have h1:=zAT hx;have h2:=zBz hx;simp only[zAF]at h2;rw[←h2];exact h1
theorem aCt{l:List Hld}{k:Int}(h:mQ l k=none):∀x∈l,x.lock≠k:=by
 unfold mQ at h;rw[zCi,zBi]at h;intro x hx e;exact h x hx (zAj e)
theorem TI.hold{t:Tbl}{n:Nat}{has:Nat→List Int}(h:TI t n has){k j:Int}(hm:(⟨k,j⟩:Hld)∈t.held):mQ t.held k=some j:=by
 cases hh:mQ t.held k with
 |none=>exact absurd rfl (aCt hh _ hm)
 |some a=>rw[h.one (tE hh) hm]
theorem aUr{l:List Hld}{i k:Int}(h:nM l i=some k):(⟨k,i⟩:Hld)∈l:=by
 unfold nM at h;obtain⟨x,hx,rfl⟩:=zAM.1 h;have h1:=zAT hx;have h2:=zBz hx;simp only[zAF]at h2;rw[←h2];exact h1
theorem xW{l:List Hld}{i:Int}(h:nM l i=none):∀x∈l,x.thr≠i:=by
 unfold nM at h;rw[zCi,zBi]at h;intro x hx e;exact h x hx (zAj e)
theorem aSr:TI tb0 0 fun _=>[]:=⟨.nil,fun k j=>⟨fun h=>by simp[tb0]at h,fun⟨i,_,h,_⟩=>absurd h (Nat.not_lt_zero _)⟩,fun _=>List.nodup_nil,.nil,fun w h=>by simp[tb0]at h⟩
theorem TI.start{t:Tbl}{n:Nat}{has:Nat→List Int}(h:TI t n has)(hn:has n=[]):TI t (n+1) has where
 heldU:=h.heldU
 heldH:=fun k j=>by
  rw[h.heldH k j];constructor
  ·rintro⟨i,e,hi,hk⟩;exact⟨i,e,by omega,hk⟩
  ·rintro⟨i,e,hi,hk⟩;refine⟨i,e,?_,hk⟩;by_cases e2:i=n
   ·subst e2;rw[hn]at hk;cases hk
   ·omega
 hasU:=h.hasU
 waitU:=h.waitU
 waitH:=fun w hw=>by
  obtain⟨i,e,hi,h1,h2⟩:=h.waitH w hw;exact⟨i,e,by omega,h1,h2⟩
def mZ(has:Nat→List Int)(i:Nat)(l:List Int):Nat→List Int:=fun j=>if j=i then l else has j
theorem bY(has:Nat→List Int)(i:Nat)(l:List Int):mZ has i l i=l:=zAl rfl
theorem cH(has:Nat→List Int){i j:Nat}(h:j≠i)(l:List Int):mZ has i l j=has j:=zAe h
theorem TI.take{t:Tbl}{n:Nat}{has:Nat→List Int}(h:TI t n has){i:Nat}{k:Int}(hi:i<n)(hw:nM t.waits i=none)(hh:mQ t.held k=none):TI {t with held:=t.held++[⟨k,i⟩]} n (mZ has i (has i++[k])):=by
 have hno:=aCt hh;have hk:∀j,j<n→k∉has j:=fun j hj hk=>hno _ ((h.heldH k j).2 ⟨j,rfl,hj,hk⟩) rfl
 refine⟨?_,fun k' j=>?_,fun j=>?_,h.waitU,fun w hw'=>?_⟩
 ·rw[zBZ];exact⟨h.heldU,List.pairwise_singleton _ _,fun a ha b hb=>by rw[zAq]at hb;subst hb;exact hno a ha⟩
 ·simp only[zAy,zAq];constructor
  ·rintro(h1|h1)
   ·obtain⟨i',e,hi',hk'⟩:=(h.heldH k' j).1 h1;refine⟨i',e,hi',?_⟩;by_cases e2:i'=i
    ·subst e2;rw[bY];exact zCr _ hk'
    ·rw[cH _ e2];exact hk'
   ·cases h1;exact⟨i,rfl,hi,by rw[bY];simp⟩
  ·rintro⟨i',e,hi',hk'⟩;by_cases e2:i'=i
   ·subst e2;rw[bY,zAy,zAq]at hk';rcases hk' with hk'|rfl
    ·exact .inl ((h.heldH k' j).2 ⟨i',e,hi',hk'⟩)
    ·exact .inr (by rw[e])
   ·rw[cH _ e2]at hk';exact .inl ((h.heldH k' j).2 ⟨i',e,hi',hk'⟩)
 ·by_cases e2:j=i
  ·subst e2;rw[bY,List.nodup_append];exact⟨h.hasU j,(by simp),fun a ha b hb e=>by rw[zAq]at hb;subst hb;subst e;exact hk j hi ha⟩
  ·rw[cH _ e2];exact h.hasU j
 ·obtain⟨i',e,hi',h1,x,hx,h2⟩:=h.waitH w hw';have hne:i'≠i:=fun e2=>xW hw w hw' (by rw[e,e2])
  exact⟨i',e,hi',by rw[cH _ hne];exact h1,x,zCr _ hx,h2⟩
theorem TI.wait{t:Tbl}{n:Nat}{has:Nat→List Int}(h:TI t n has){i:Nat}{k:Int}(hi:i<n)(hw:nM t.waits i=none)(hk:k∉has i){j:Int}(hh:mQ t.held k=some j):TI {t with waits:=t.waits++[⟨k,i⟩]} n has:=by
 refine⟨h.heldU,h.heldH,h.hasU,?_,fun w hw'=>?_⟩
 ·rw[zBZ];exact⟨h.waitU,List.pairwise_singleton _ _,fun a ha b hb=>by rw[zAq]at hb;subst hb;exact xW hw a ha⟩
 ·rw[zAy,zAq]at hw';rcases hw' with hw'|rfl
  ·exact h.waitH w hw'
  ·exact⟨i,rfl,hi,hk,_,tE hh,rfl⟩
def tX(has:Nat→List Int)(i:Nat)(k:Int):Option Int→Nat→List Int
 |none=>mZ has i ((has i).filter fun x=> !decide (x=k))
 |some j=>mZ (mZ has i ((has i).filter fun x=> !decide (x=k))) j.toNat (has j.toNat++[k])
theorem aIx{l:List Hld}{x:Hld}(hp:l.Pairwise fun a b=>a.lock≠b.lock)(hx:x∈l):∀y,y∈l.erase x↔y∈l∧y.lock≠x.lock:=by
 induction l with
 |nil=>cases hx
 |cons a l ih=>
  rw[zBw]at hp;intro y;by_cases e:a=x
  ·subst e;rw[List.erase_cons_head];constructor
   ·intro hy;exact⟨zAR _ hy,fun e=>hp.1 y hy e.symm⟩
   ·rintro⟨hy,hne⟩;rcases zAs.1 hy with rfl|hy
    ·exact absurd rfl hne
    ·exact hy
  ·have hxl:x∈l:=(zAs.1 hx).resolve_left fun h=>e h.symm
   rw[List.erase_cons_tail (by simpa using e),zAs,ih hp.2 hxl y,zAs]
   constructor
   ·rintro(rfl|⟨h1,h2⟩)
    ·exact⟨.inl rfl,hp.1 x hxl⟩
    ·exact⟨.inr h1,h2⟩
   ·rintro⟨rfl|h1,h2⟩
    ·exact .inl rfl
    ·exact .inr ⟨h1,h2⟩
theorem tF{l:List Hld}{x:Hld}(hp:l.Pairwise fun a b=>a.thr≠b.thr)(hx:x∈l):∀y,y∈l.erase x↔y∈l∧y.thr≠x.thr:=by
 induction l with
 |nil=>cases hx
 |cons a l ih=>
  rw[zBw]at hp;intro y;by_cases e:a=x
  ·subst e;rw[List.erase_cons_head];constructor
   ·intro hy;exact⟨zAR _ hy,fun e=>hp.1 y hy e.symm⟩
   ·rintro⟨hy,hne⟩;rcases zAs.1 hy with rfl|hy
    ·exact absurd rfl hne
    ·exact hy
  ·have hxl:x∈l:=(zAs.1 hx).resolve_left fun h=>e h.symm
   rw[List.erase_cons_tail (by simpa using e),zAs,ih hp.2 hxl y,zAs]
   constructor
   ·rintro(rfl|⟨h1,h2⟩)
    ·exact⟨.inl rfl,hp.1 x hxl⟩
    ·exact⟨.inr h1,h2⟩
   ·rintro⟨rfl|h1,h2⟩
    ·exact .inl rfl
    ·exact .inr ⟨h1,h2⟩
theorem lY{l:List Int}{k x:Int}:x∈l.filter (fun x=> !decide (x=k))↔x∈l∧x≠k:=by simp
theorem TI.free{t:Tbl}{n:Nat}{has:Nat→List Int}(h:TI t n has){i:Nat}{k:Int}(hi:i<n)(hk:k∈has i):
  TI (bX t i k).1 n (tX has i k (bX t i k).2)∧∀j,(bX t i k).2=some j→∃i':Nat,j=(i':Int)∧i'<n∧i'≠i∧(⟨k,j⟩:Hld)∈t.waits:=by
 have hm:(⟨k,(i:Int)⟩:Hld)∈t.held:=(h.heldH k i).2 ⟨i,rfl,hi,hk⟩;have her:=aIx h.heldU hm;have hother:∀j,j<n→j≠i→k∉has j:=fun j hj hne hk'=>hne (h.oneN hj hi hk' hk)
 have hkeep:∀(k':Int) (j:Int),(⟨k',j⟩:Hld)∈t.held.erase ⟨k,i⟩↔∃i':Nat,j=(i':Int)∧i'<n∧k'∈mZ has i ((has i).filter fun x=> !decide (x=k)) i':=fun k' j=>by
  rw[her,h.heldH];constructor
  ·rintro⟨⟨i',e,hi',hk'⟩,hne⟩;refine⟨i',e,hi',?_⟩;by_cases e2:i'=i
   ·subst e2;rw[bY,lY];exact⟨hk',hne⟩
   ·rw[cH _ e2];exact hk'
  ·rintro⟨i',e,hi',hk'⟩;by_cases e2:i'=i
   ·subst e2;rw[bY,lY]at hk';exact⟨⟨i',e,hi',hk'.1⟩,hk'.2⟩
   ·rw[cH _ e2]at hk';exact⟨⟨i',e,hi',hk'⟩,fun e3=>hother i' hi' e2 (by have e4:k'=k:=e3;rw[←e4];exact hk')⟩
 have hnod:∀j,(mZ has i ((has i).filter fun x=> !decide (x=k)) j).Nodup:=fun j=>by
  by_cases e2:j=i
  ·subst e2;rw[bY];exact(h.hasU j).filter _
  ·rw[cH _ e2];exact h.hasU j
 unfold bX;rw[zAl (by simpa using hm)]
 cases hf:t.waits.find? fun w=>decide (w.lock=k)with
 |none=>
  refine⟨⟨h.heldU.sublist (List.erase_sublist),hkeep,hnod,h.waitU,fun w hw=>?_⟩,fun j e=>by cases e⟩
  obtain⟨i',e,hi',h1,x,hx,h2⟩:=h.waitH w hw;have hne:w.lock≠k:=fun e=>zBi.1 hf w hw (zAj e)
  refine⟨i',e,hi',?_,x,(her x).2 ⟨hx,by rw[h2];exact hne⟩,h2⟩
  show w.lock∉mZ has i _ i';by_cases e2:i'=i
  ·subst e2;rw[bY,lY];exact fun h=>h1 h.1
  ·rw[cH _ e2];exact h1
 |some w=>
  have hwm:=zAT hf;have hwl:w.lock=k:=by simpa using zBz hf
  obtain⟨i',e,hi',h1,x,hx,h2⟩:=h.waitH w hwm;have hne:i'≠i:=fun e2=>h1 (by rw[hwl,e2];exact hk)
  have hwe:w=⟨k,(i':Int)⟩:=by rw[←hwl,←e]
  have hjt:w.thr.toNat=i':=by rw[e];rfl
  simp only[tX,hjt];have hki:k∉has i':=hother i' hi' hne;refine⟨⟨?_,fun k' j=>?_,fun j=>?_,h.waitU.sublist (List.erase_sublist),fun v hv=>?_⟩,fun j ej=>?_⟩
  ·rw[zBZ];refine⟨h.heldU.sublist (List.erase_sublist),List.pairwise_singleton _ _,fun a ha b hb=>?_⟩
   rw[zAq]at hb;subst hb;rw[hwl];exact((her a).1 ha).2
  ·rw[zAy,zAq,hkeep];constructor
   ·rintro(⟨j',e1,hj',hk'⟩|e1)
    ·refine⟨j',e1,hj',?_⟩;by_cases e2:j'=i'
     ·subst e2;rw[cH _ hne]at hk';rw[bY];exact zCr _ hk'
     ·rw[cH _ e2];exact hk'
    ·rw[hwe]at e1;cases e1;exact⟨i',rfl,hi',by rw[bY];simp⟩
   ·rintro⟨j',e1,hj',hk'⟩;by_cases e2:j'=i'
    ·subst e2;rw[bY,zAy,zAq]at hk';rcases hk' with hk'|rfl
     ·exact .inl ⟨j',e1,hj',by rw[cH _ hne];exact hk'⟩
     ·exact .inr (by rw[hwe,e1])
    ·rw[cH _ e2]at hk';exact .inl ⟨j',e1,hj',hk'⟩
  ·by_cases e2:j=i'
   ·subst e2;rw[bY,List.nodup_append];exact⟨h.hasU j,(by simp),fun a ha b hb e=>by rw[zAq]at hb;subst hb;subst e;exact hki ha⟩
   ·rw[cH _ e2];exact hnod j
  ·obtain⟨hv1,hv2⟩:=(tF h.waitU hwm v).1 hv;obtain⟨j',e1,hj',g1,y,hy,g2⟩:=h.waitH v hv1;have hji:j'≠i':=fun e2=>hv2 (by rw[e1,e,e2])
   refine⟨j',e1,hj',?_,?_⟩
   ·rw[cH _ hji];by_cases e2:j'=i
    ·subst e2;rw[bY,lY];exact fun h=>g1 h.1
    ·rw[cH _ e2];exact g1
   ·by_cases e2:v.lock=k
    ·exact⟨w,by simp,by rw[hwl,e2]⟩
    ·exact⟨y,zCr _ ((her y).2 ⟨hy,by rw[g2];exact e2⟩),g2⟩
  ·simp only[zB7]at ej;subst ej;exact⟨i',e,hi',hne,by rw[←hwl];exact hwm⟩
def aQA(has:Nat→List Int)(g:List Hld):Nat→List Int:=g.foldl (fun has h=>mZ has h.thr.toNat (has h.thr.toNat++[h.lock])) has
theorem TI.dropG{n:Nat}{i:Nat}(hi:i<n):∀(l:List Hld) (s:Tbl×List Hld) (has:Nat→List Int),TI s.1 n has→(l.Pairwise fun a b=>a.lock≠b.lock)→(∀k,k∈has i↔(⟨k,i⟩:Hld)∈l)→
  ∃g,(dropF i l s).2=s.2++g∧TI (dropF i l s).1 n (aQA (mZ has i []) g)∧(∀h∈g,∃j:Nat,h.thr=(j:Int)∧j<n∧j≠i∧h∈s.1.waits∧h.lock∈has i)∧∀w∈(dropF i l s).1.waits,w∈s.1.waits:=by
 intro l;induction l with
 |nil=>
  intro s has h _ hk;have e:has i=[]:=List.eq_nil_iff_forall_not_mem.2 fun k hk'=>by have:=(hk k).1 hk';cases this
  refine⟨[],by simp[dropF],?_,fun h hh=>(by cases hh),fun w hw=>hw⟩
  have:mZ has i []=has:=funext fun j=>by
   by_cases e2:j=i
   ·subst e2;rw[bY,e]
   ·rw[cH _ e2]
  rw[this];exact h
 |cons x l ih=>
  intro s has h hp hk;rw[zBw]at hp;by_cases hx:x.thr=(i:Int)
  ·have hxm:x.lock∈has i:=(hk x.lock).2 (by rw[←hx];exact List.mem_cons_self)
   obtain⟨h1,h2⟩:=h.free hi hxm;have e1:tX has i x.lock (bX s.1 i x.lock).2 i=(has i).filter fun y=> !decide (y=x.lock):=by
    cases hf:(bX s.1 i x.lock).2 with
    |none=>exact bY _ _ _
    |some j=>
     obtain⟨i',e, -,hne, -⟩:=h2 j hf;show mZ _ j.toNat _ i=_;rw[cH _ (by rw[e];simpa using hne.symm),bY]
   have hsub:∀k,k∈tX has i x.lock (bX s.1 i x.lock).2 i→k∈has i:=fun k hk'=>by rw[e1,lY]at hk';exact hk'.1
   have hk1:∀k,k∈tX has i x.lock (bX s.1 i x.lock).2 i↔(⟨k,i⟩:Hld)∈l:=fun k=>by
    rw[e1,lY,hk,zAs];constructor
    ·rintro⟨rfl|h3,h4⟩
     ·exact absurd rfl h4
     ·exact h3
    ·intro h3;exact⟨.inr h3,fun e=>hp.1 _ h3 e.symm⟩
   have hw1:∀w∈(bX s.1 i x.lock).1.waits,w∈s.1.waits:=fun w hw=>by
    unfold bX at hw;split at hw
    ·split at hw
     ·exact hw
     ·exact List.mem_of_mem_erase hw
    ·exact hw
   unfold dropF;rw[zAl hx];cases hf:(bX s.1 i x.lock).2 with
   |none=>
    rw[hf]at h1 hk1 hsub;simp only;obtain⟨g,g1,g2,g3,g4⟩:=ih ((bX s.1 i x.lock).1,s.2) _ h1 hp.2 hk1;refine⟨g,g1,?_,fun h hh=>?_,fun w hw=>hw1 w (g4 w hw)⟩
    ·have:mZ (tX has i x.lock none) i []=mZ has i []:=funext fun j=>by
      by_cases e2:j=i
      ·subst e2;rw[bY,bY]
      ·rw[cH _ e2,cH _ e2];exact cH _ e2 _
     rw[this]at g2;exact g2
    ·obtain⟨j,q1,q2,q3,q4,q5⟩:=g3 h hh;exact⟨j,q1,q2,q3,hw1 h q4,hsub _ q5⟩
   |some k=>
    rw[hf]at h1 hk1 hsub;simp only;obtain⟨j,e,hj,hne,hjw⟩:=h2 k hf;obtain⟨g,g1,g2,g3,g4⟩:=ih ((bX s.1 i x.lock).1,s.2++[⟨x.lock,k⟩]) _ h1 hp.2 hk1;refine⟨⟨x.lock,k⟩::g,by rw[g1,zAr];rfl,?_,fun h hh=>?_,fun w hw=>hw1 w (g4 w hw)⟩
    ·have:mZ (tX has i x.lock (some k)) i []=mZ (mZ has i []) k.toNat (mZ has i [] k.toNat++[x.lock]):=funext fun q=>by
      have hkt:k.toNat=j:=by rw[e];rfl
      simp only[tX,hkt];by_cases e2:q=i
      ·subst e2;rw[bY,cH _ (by exact fun e=>hne e.symm),bY]
      ·rw[cH _ e2];by_cases e3:q=j
       ·subst e3;rw[bY,bY,cH _ e2]
       ·rw[cH _ e3,cH _ e3,cH _ e2,cH _ e2]
     rw[this]at g2;exact g2
    ·rcases zAs.1 hh with rfl|hh
     ·exact⟨j,e,hj,hne,hjw,hxm⟩
     ·obtain⟨j',q1,q2,q3,q4,q5⟩:=g3 h hh;exact⟨j',q1,q2,q3,hw1 h q4,hsub _ q5⟩
  ·unfold dropF;rw[zAe hx];refine ih s has h hp.2 fun k=>?_
   rw[hk,zAs];exact⟨fun h=>h.resolve_left fun e=>hx (by rw[←e]),.inr⟩
theorem TI.drop{t:Tbl}{n:Nat}{has:Nat→List Int}(h:TI t n has){i:Nat}(hi:i<n):
  TI (dropT t i).1 n (aQA (mZ has i []) (dropT t i).2)∧(∀h∈(dropT t i).2,∃j:Nat,h.thr=(j:Int)∧j<n∧j≠i∧h∈t.waits∧h.lock∈has i)∧∀w∈(dropT t i).1.waits,w∈t.waits∧w.thr≠i:=by
 have h0:TI (⟨t.held,t.waits.filter fun w=> !decide (w.thr=i)⟩:Tbl) n has:=⟨h.heldU,h.heldH,h.hasU,h.waitU.sublist List.filter_sublist,fun w hw=>h.waitH w ((zBb.1 hw).1)⟩
 obtain⟨g,g1,g2,g3,g4⟩:=TI.dropG hi t.held (⟨t.held,t.waits.filter fun w=> !decide (w.thr=i)⟩,[]) has h0 h.heldU fun k=>by
  rw[h.heldH];exact⟨fun hk=>⟨i,rfl,hi,hk⟩,fun⟨j,e,_,hk⟩=>(show i=j by omega)▸hk⟩
 have e:(dropT t i).2=g:=g1;rw[e];refine⟨g2,fun h hh=>?_,fun w hw=>?_⟩
 ·obtain⟨j,q1,q2,q3,q4,q5⟩:=g3 h hh;exact⟨j,q1,q2,q3,(zBb.1 q4).1,q5⟩
 ·have:=g4 w hw;simp only[zBb,zA4,zA1]at this;exact this
end
section
theorem aOB(l:List Int):(l.flatMap Lib.encodeRune).length≤4 * l.length:=by
 induction l with
 |nil=>simp
 |cons x l ih=>
  have:=(Lib.encodeRuneZ_length x).2;have e:(Lib.encodeRune x).length=(Lib.encodeRuneZ x).length:=by simp[Lib.encodeRune]
  grind
theorem aFI{s:Txt}(h:jX s=true):s.length≤80:=by
 unfold jX at h;cases hs:oP s with
 |none=>rw[hs]at h;simp at h
 |some l=>
  rw[hs]at h;have e:=(nK hs).1;have:=aOB l;grind
theorem xX{o:Opn}(h:opOk o=true):o.name.length≤80∧o.data.length≤64:=by
 unfold opOk at h;simp only[zAu]at h;obtain⟨⟨⟨h1,h2⟩,h3⟩,h4⟩:=h;split at h4
 ·unfold vI at h4;simp only[zAu,zAF]at h4;exact⟨aFI h4.1.2,by rw[h4.2];simp⟩
 ·unfold zD at h4;grind
theorem aK1{o:Opn}(h:opOk o=true):OpS o:=⟨by have:=(xX h).1;omega,by have:=(xX h).2;omega⟩
theorem aFJ(l:List Opn)(es:List Ent)(n:List Nd):(dO l es n).2=l.foldl doL n:=by
 induction l generalizing es n with
 |nil=>rfl
 |cons o l ih=>rw[dO,ih];rfl
theorem uL{g:Lg}(h:Good g):g.nodes=(opsG g).foldl doL []:=by
 have e:=h.log;have:(logOf (opsG g)).nodes=(opsG g).foldl doL []:=aFJ _ _ _;rw[←e]at this;exact this
structure NdI (q:Int) (n:Nd):Prop where
 name:n.name.length≤80
 data:n.data.length≤64
 id:oA n.id≤q
 par:oA n.parent≤q
theorem aEr{a b n:Int}(h:mI a b n=false)(ha:0≤a):oA n≤a:=by
 unfold mI at h;cases ho:fE n with
 |false=>unfold oA;rw[ho];simpa using ha
 |true=>
  rw[ho,zAN]at h;have:¬zC a b (oA n) (oB n)=true:=by rw[h];simp
  rw[vF]at this;omega
theorem aVO:oA (-1)=0:=by decide
theorem aXV:oA 2=0:=by decide
theorem aVP:oA 0=0:=by decide
theorem uM{o:Opn}(h:opOk o=true):1≤o.at_.c∧o.at_.c≤1048576∧0≤o.at_.r∧o.at_.r≤63∧oA o.node≤o.at_.c∧oA o.parent≤o.at_.c∧fE o.node=true∧(o.kind=1∨o.kind=2):=by
 have hk:=aC1 h;unfold opOk at h;simp only[zAu,zA4]at h;obtain⟨⟨⟨h1,h2⟩,h3⟩,h4⟩:=h;rw[rG]at h2;refine⟨h2.1,h2.2.1,h2.2.2.1,h2.2.2.2,aEr h3 (by omega),?_,?_,hk⟩
 ·split at h4
  ·unfold vI at h4;simp only[zAu,zA4]at h4;exact aEr h4.1.1.2 (by omega)
  ·grind [zD,aVP]
 ·split at h4
  ·unfold vI at h4;simp only[zAu]at h4;exact h4.1.1.1.1
  ·unfold zD at h4;simp only[zAu]at h4;exact h4.1.1.1.1
theorem uN{l:List Nd}{x:Int}{n:Nd}(h:fnd l x=some n):n∈l∧n.id=x:=by
 unfold fnd at h;exact⟨zAT h,by simpa using zBz h⟩
theorem aSs{q:Int}{l:List Nd}{o:Opn}(h:∀n∈l,NdI q n)(ho:opOk o=true)(hq:o.at_.c≤q):∀n∈doL l o,NdI q n:=by
 cases hr:refused l o with
 |true=>grind [doL]
 |false=>
  rw[kP hr];obtain⟨p1, -, -, -,p5,p6, -,hk⟩:=uM ho;obtain⟨s1,s2⟩:=xX ho;have hw:NdI q (eK l o):=by
   unfold eK;split
   ·rename_i n hf;exact h n (uN hf).1
   ·grind [nd0,aVO,Int,List,Opn,NdI,opOk,doL]
  intro n hn;rcases aG1 hn with rfl|hn
  ·unfold cA;have hid:(eK l o).id=o.node:=by
    have:=jC l o;unfold cA at this;split at this<;>exact this
   split
   ·exact⟨s1,hw.data,hw.id,by simp only;omega⟩
   ·exact⟨hw.name,s2,hw.id,hw.par⟩
  ·exact h n hn
theorem aIy{q:Int}(s:List Opn){l:List Nd}(h:∀n∈l,NdI q n)(hs:∀o∈s,opOk o=true∧o.at_.c≤q):∀n∈s.foldl doL l,NdI q n:=by
 induction s generalizing l with
 |nil=>exact h
 |cons o s ih=>exact ih (aSs h (hs o (by simp)).1 (hs o (by simp)).2) fun o ho=>hs o (zAR _ ho)
theorem aFK(l:List Opn)(n:List Nd):(l.foldl doL n).length≤n.length+l.length:=by
 induction l generalizing n with
 |nil=>exact zAf _
 |cons o l ih=>have:=ih (doL n o);have:=aCS n o;grind
structure NsI (q:Int) (l:List Nd):Prop where
 frs:Frs l
 len:l.length≤200
 nd:∀n∈l,NdI q n
theorem NsI.up{q r:Int}{l:List Nd}(h:NsI q l)(hq:q≤r):NsI r l:=⟨h.frs,h.len,fun n hn=>⟨(h.nd n hn).name,(h.nd n hn).data,zCD (h.nd n hn).id hq,zCD (h.nd n hn).par hq⟩⟩
structure MI (m:Mdl):Prop where
 good:Good m.log
 cap:m.log.entries.length≤200
 cnt:∀o∈opsG m.log,o.at_.c≤m.seen
 seen:0≤m.seen
 rep:0≤m.rep∧m.rep≤63
 snaps:m.snaps.length≤8
 snap:∀s∈m.snaps,NsI m.seen s.nodes
 watches:m.watches.length≤8
 watch:∀w∈m.watches,dirI w.dir=true∧w.evs.length≤9∧(w.over=false→w.evs.length≤8)
theorem MI.ops_len{m:Mdl}(h:MI m):(opsG m.log).length≤200:=by rw[opsG,zAn];exact h.cap
theorem MI.nodes{m:Mdl}(h:MI m):NsI m.seen m.log.nodes:=by
 rw[uL h.good];refine⟨aIt _ aOg,?_,aIy _ (fun n hn=>by cases hn) fun o ho=>⟨h.good.ok o ho,h.cnt o ho⟩⟩
 have:=aFK (opsG m.log) [];have:=h.ops_len;grind
theorem aSt{r:Int}{m:Mdl}(h:aAe r=(m,0)):MI m:=by
 unfold aAe at h;split at h
 ·rename_i hr;cases h;exact⟨aKt,by simp[md0],by simp[opsG,md0],zBY _,hr,by simp[md0],by simp[md0],by simp[md0],by simp[md0]⟩
 ·cases h
theorem aK2(l:List Nd):∀(names:List Txt) (x d:Int),dH l x names=(d,0)→(names=[]∧d=x)∨∃n∈l,n.id=d:=by
 intro names;induction names with
 |nil=>grind [List,Int,dH]
 |cons s names ih=>
  intro x d h;rw[dH]at h;split at h
  ·cases hc:childN l x s with
   |none=>rw[hc]at h;cases h
   |some n=>
    rw[hc]at h;rcases ih n.id d h with⟨-,rfl⟩|h
    ·exact .inr ⟨n,(oR hc).2.1,rfl⟩
    ·exact .inr h
  ·cases h
theorem aBm{l:List Nd}{names:List Txt}{d:Int}(h:findN l names=(d,0)):(names=[]∧d=0)∨∃n∈l,n.id=d:=aK2 l names 0 d h
theorem aK3{l:List Nd}{p:Txt}{d:Int}(h:qD l p=(d,0)):∃ns,bM p=some ns∧((ns=[]∧d=0)∨∃n∈l,n.id=d):=by
 grind [qD,bM,aBm]
theorem aOC{q:Int}{l:List Nd}{ns:List Txt}{d:Int}(hl:NsI q l)(hq:0≤q)(h:findN l ns=(d,0)):oA d≤q:=by
 rcases aBm h with⟨-,rfl⟩|⟨n,hn,rfl⟩
 ·rw[aVP];exact hq
 ·exact(hl.nd n hn).id
theorem aEs{p:Txt}{l:List Txt}(h:bM p=some l):∀s∈l,jX s=true:=by
 unfold bM at h;grind [bM,aCW,zAJ]
theorem aFL{q:Int}{l:List Nd}{p:Txt}{d:Int}{s:Txt}(hl:NsI q l)(hq:0≤q)(h:abvN l p=(d,s,0)):dirI d=true∧oA d≤q∧jX s=true:=by
 unfold abvN at h;split at h
 ·cases h
 ·cases h
 ·rename_i x xs hn;split at h
  ·rename_i h0;split at h
   ·rename_i hd;cases h;refine⟨hd,aOC hl hq (show findN l (x::xs).dropLast=((findN l (x::xs).dropLast).1,0) by rw[←h0]),?_⟩
    exact aEs hn _ (List.getLast_mem _)
   ·cases h
  grind
end
section
theorem aHa{m:Mdl}{s:Stm}(h:nextD m=(s,0)):oJ m.seen m.rep=true∧m.log.entries.length<200∧s=⟨m.seen+1,m.rep⟩:=by
 unfold nextD at h;split at h
 ·cases h
 ·rename_i h1;split at h
  ·cases h
  ·rename_i h2;cases h;exact⟨by simpa using h1,by omega,rfl⟩
def putM(m:Mdl)(o:Opn):Mdl:={m with log:=fJ m.log o,seen:=m.seen+1}
theorem aDa{d:Dsk}(h:MI d.m){o:Opn}(hn:(nextD d.m).2=0)(ho:opOk {o with at_:=⟨d.m.seen+1,d.m.rep⟩}=true):
  aBe d o=(0,{d with m:=putM d.m {o with at_:=⟨d.m.seen+1,d.m.rep⟩},ops:=d.ops++[{o with at_:=⟨d.m.seen+1,d.m.rep⟩}]}):=by
 obtain⟨s,hs⟩:∃s,nextD d.m=(s,0):=⟨_,by rw[←hn]⟩
 obtain⟨h1,h2,rfl⟩:=aHa hs;have ha:xP d.m.log {o with at_:=⟨d.m.seen+1,d.m.rep⟩}=0:=by
  unfold xP;rw[zAe (by rw[ho];simp)]
  split
  ·rfl
  ·rw[zAe (by omega)]
 unfold aBe;simp only[hs,zBc];unfold rO;rw[ha];rfl
theorem aDb{d:Dsk}{o:Opn}(hn:(nextD d.m).2≠0):aBe d o=((nextD d.m).2,d):=by
 unfold aBe;rw[zAe hn]
theorem nO{m:Mdl}(hn:(nextD m).2=0):(nextD m).1=⟨m.seen+1,m.rep⟩∧0≤m.seen∧m.seen<1048576∧0≤m.rep∧m.rep≤63∧m.log.entries.length<200:=by
 obtain⟨s,hs⟩:∃s,nextD m=(s,0):=⟨_,by rw[←hn]⟩
 obtain⟨h1,h2,rfl⟩:=aHa hs;rw[rL]at h1;exact⟨by rw[hs],h1.1,h1.2.1,h1.2.2.1,h1.2.2.2,h2⟩
theorem aQB{a b:Int}{d:Bool}(h1:1≤a)(h2:a≤1048576)(h3:0≤b)(h4:b≤63):fE (idI a b d)=true∧oA (idI a b d)=a∧oB (idI a b d)=b∧oC (idI a b d)=d:=by
 have hk:okI a b=true:=by rw[rG];exact⟨h1,h2,h3,h4⟩
 have e:idI a b d=128 * a+2 * b+(if d then 1 else 0):=by rw[idI,zAl hk]
 have ho:fE (idI a b d)=true:=by rw[e,xL];cases d<;>simp<;>omega
 refine⟨ho,?_,?_,?_⟩
 ·rw[oA,zAl ho,e];cases d<;>simp<;>omega
 ·rw[oB,zAl ho,e];cases d<;>simp<;>omega
 ·rw[oC,ho,e];cases d<;>simp<;>omega
theorem wB{a b n:Int}(h:oA n<a):mI a b n=false:=by
 unfold mI;cases fE n with
 |false=>rfl
 |true=>
  rw[zAN,zB2,Ne,vF];omega
theorem aK4{a b n:Int}(h1:oA n=a)(h2:oB n=b):mI a b n=false:=by
 unfold mI;rw[h1,h2];cases fE n with
 |false=>rfl
 |true=>
  rw[zAN,zB2,Ne,vF];omega
theorem aDc{a b n p:Int}{s:Txt}(h1:1≤a)(h2:a≤1048576)(h3:0≤b)(h4:b≤63)(hn:fE n=true)(hl:mI a b n=false)(hp:dirI p=true)(hpl:oA p<a)(hs:jX s=true):opOk ⟨⟨a,b⟩,1,n,p,s,[]⟩=true:=by
 unfold opOk;have hk:okI a b=true:=by rw[rG];exact⟨h1,h2,h3,h4⟩
 simp only[hk,hl];unfold vI;simp[hn,hp,hs,wB hpl]
theorem aK5{a b n:Int}{t:Txt}(h1:1≤a)(h2:a≤1048576)(h3:0≤b)(h4:b≤63)(hn:fE n=true)(hc:oC n=true)(hl:mI a b n=false)(ht:t.length≤64):opOk ⟨⟨a,b⟩,2,n,0,[],t⟩=true:=by
 unfold opOk;have hk:okI a b=true:=by rw[rG];exact⟨h1,h2,h3,h4⟩
 simp only[hk,hl];unfold zD;simp only[hn,hc];simp;omega
theorem aOD{g:Lg}(hg:Good g)(o:Opn):∀x∈opsG (fJ g o),x=o∨x∈opsG g:=by
 intro x hx;rcases(mK hg o).2 with⟨e, -, -⟩|⟨e, -, -⟩
 ·rw[e]at hx;exact .inr hx
 ·rw[e]at hx;exact pW.1 hx
theorem aSu{m:Mdl}(h:MI m){o:Opn}(ho:o.at_.c≤m.seen+1)(hlt:m.log.entries.length<200):MI (putM m o) where
 good:=(mK h.good o).1
 cap:=by have:=(vK m.log o).1;unfold putM;simp only;omega
 cnt:=fun x hx=>by
  rcases aOD h.good o x hx with rfl|hx
  ·exact ho
  ·exact zCD (h.cnt x hx) (by show m.seen≤m.seen+1;omega)
 seen:=by have:=h.seen;show 0≤m.seen+1;omega
 rep:=h.rep
 snaps:=h.snaps
 snap:=fun s hs=>(h.snap s hs).up (by show m.seen≤m.seen+1;omega)
 watches:=h.watches
 watch:=h.watch
theorem aK6(e:List Evt)(b:Bool)(l:List Evt)(he:e.length≤9∧(b=false→e.length≤8)):(tO e b l).1.length≤9∧((tO e b l).2=false→(tO e b l).1.length≤8):=by
 unfold tO;cases b with
 |true=>exact⟨he.1,fun h=>by cases h⟩
 |false=>
  have:=he.2 rfl;rw[zAe (by simp)]
  split
  ·refine⟨?_,fun h=>by cases h⟩
   simp only[zAa,zAL,zAc,zAv];omega
  ·rename_i h;simp only[zAa];exact⟨by omega,fun _=>by omega⟩
theorem aOE{d:Dsk}(h:MI d.m)(was:List Nd):MI (zH was d).m where
 good:=h.good
 cap:=h.cap
 cnt:=h.cnt
 seen:=h.seen
 rep:=h.rep
 snaps:=h.snaps
 snap:=h.snap
 watches:=by show(d.m.watches.map _).length≤8;rw[zAn];exact h.watches
 watch:=fun w hw=>by
  obtain⟨v,hv,rfl⟩:=zAm.1 hw;obtain⟨h1,h2⟩:=h.watch v hv;exact⟨h1,aK6 _ _ _ h2⟩
theorem qH{m:Mdl}(h:MI m){s:List Snp}{w:List Wch}{n:Int}(h1:s.length≤8)(h2:∀x∈s,NsI m.seen x.nodes)(h3:w.length≤8)(h4:∀x∈w,dirI x.dir=true∧x.evs.length≤9∧(x.over=false→x.evs.length≤8)):
  MI {m with snaps:=s,watches:=w,next:=n}:=
 ⟨h.good,h.cap,h.cnt,h.seen,h.rep,h1,h2,h3,h4⟩
theorem aFM(n:Int)(l:List Wch):(qE n l).length=l.length∧∀w∈qE n l,∃v∈l,w.dir=v.dir∧w.n=v.n∧w.over=v.over∧(w.evs=v.evs∨w.evs=[]):=by
 induction l with
 |nil=>exact⟨rfl,fun w hw=>by cases hw⟩
 |cons x l ih=>
  unfold qE;split
  ·refine⟨rfl,fun w hw=>?_⟩
   rcases zAs.1 hw with rfl|hw
   ·exact⟨x,by simp,rfl,rfl,rfl,.inr rfl⟩
   ·exact⟨w,zAR _ hw,rfl,rfl,rfl,.inl rfl⟩
  ·refine⟨by simp[ih.1],fun w hw=>?_⟩
   rcases zAs.1 hw with rfl|hw
   ·exact⟨w,by simp,rfl,rfl,rfl,.inl rfl⟩
   ·obtain⟨v,hv,q⟩:=ih.2 w hw;exact⟨v,zAR _ hv,q⟩
end
section
theorem aSv{n:Int}(h:fE n=true)(hd:dirI n=false):oC n=true:=by
 unfold dirI at hd;simp only[h,zAN,zB6,Bool.not_eq_false']at hd;exact hd.2
theorem uO{l:List Nd}(h:Frs l){n:Nd}(hn:n∈l):fE n.id=true:=((nH l).1 h.chk).1 n hn
def bornO(m:Mdl)(c:Cal)(dir:Int)(s:Txt):Opn:=⟨⟨m.seen+1,m.rep⟩,1,idI (m.seen+1) m.rep (decide (c.kind=1)),dir,s,[]⟩
def donePut(d:Dsk)(o:Opn):Int×Dsk:=(0,{d with m:=putM d.m o,ops:=d.ops++[o]})
theorem qI{c:Cal}{d:Dsk}(h:MI d.m):(∃e,e≠0∧aEc c d=(e,d))∨
  ∃dir s,c.path≠[47]∧abvN d.m.log.nodes c.path=(dir,s,0)∧childN d.m.log.nodes dir s=none∧(nextD d.m).2=0∧opOk (bornO d.m c dir s)=true∧aEc c d=donePut d (bornO d.m c dir s):=by
 unfold aEc;by_cases h1:c.path=[47]
 ·simp_all
 rw[zAe h1];obtain⟨⟨dir,s,e⟩,ha⟩:∃x,abvN d.m.log.nodes c.path=x:=⟨_,rfl⟩;rw[ha];simp only;by_cases h2:e=0
 ·subst h2;rw[zAl rfl];obtain⟨a1,a2,a3⟩:=aFL h.nodes h.seen ha;cases hc:childN d.m.log.nodes dir s with
  |some n=>exact .inl ⟨190,by decide,zAl rfl⟩
  |none=>
   rw[zAe (by simp)]
   by_cases h3:(nextD d.m).2=0
   ·rw[zAl h3];obtain⟨n1,n2,n3,n4,n5,n6⟩:=nO h3;rw[n1];obtain⟨i1,i2,i3,i4⟩:=aQB (d:=decide (c.kind=1)) (show 1≤d.m.seen+1 by omega) (show d.m.seen+1≤1048576 by omega) n4 n5
    have hok:opOk (bornO d.m c dir s)=true:=aDc (by omega) (by omega) n4 n5 i1 (aK4 i2 i3) a1 (by omega) a3
    exact .inr ⟨dir,s,h1,rfl,hc,h3,hok,aDa h h3 hok⟩
   ·rw[zAe h3];exact .inl ⟨_,h3,rfl⟩
 ·rw[zAe h2];exact .inl ⟨e,h2,rfl⟩
def aBn(m:Mdl)(c:Cal)(id:Int):Opn:=⟨⟨m.seen+1,m.rep⟩,2,id,0,[],c.data⟩
theorem nP{c:Cal}{d:Dsk}(h:MI d.m)(hd:c.data.length≤64):(∃e,e≠0∧aBf c d=(e,d))∨
  ∃id,qD d.m.log.nodes c.path=(id,0)∧dirI id=false∧(nextD d.m).2=0∧opOk (aBn d.m c id)=true∧aBf c d=donePut d (aBn d.m c id):=by
 unfold aBf;obtain⟨⟨id,e⟩,ha⟩:∃x,qD d.m.log.nodes c.path=x:=⟨_,rfl⟩;rw[ha];simp only;by_cases h2:e=0
 ·subst h2;rw[zAl rfl];cases hdi:dirI id with
  |true=>grind
  |false=>
   rw[zAe (by simp)]
   by_cases h3:(nextD d.m).2=0
   ·obtain⟨n1,n2,n3,n4,n5,n6⟩:=nO h3;obtain⟨ns, -,⟨-,rfl⟩|⟨n,hn,rfl⟩⟩:=aK3 ha
    ·cases hdi
    ·have ho:=uO h.nodes.frs hn;have hok:opOk (aBn d.m c n.id)=true:=aK5 (by omega) (by omega) n4 n5 ho (aSv ho hdi) (wB (by have:=(h.nodes.nd n hn).id;omega)) hd
     exact .inr ⟨n.id,rfl,hdi,h3,hok,aDa h h3 hok⟩
   ·exact .inl ⟨_,h3,aDb h3⟩
 ·rw[zAe h2];exact .inl ⟨e,h2,rfl⟩
def oU(m:Mdl)(id dir:Int)(s:Txt):Opn:=⟨⟨m.seen+1,m.rep⟩,1,id,dir,s,[]⟩
theorem aQC{m:Mdl}(h:MI m){p:Txt}{id:Int}(hp:p≠[47])(ha:qD m.log.nodes p=(id,0)):fE id=true∧oA id≤m.seen∧∃n∈m.log.nodes,n.id=id:=by
 obtain⟨ns,hn,⟨hni, -⟩|⟨n,hn,rfl⟩⟩:=aK3 ha
 ·subst hni;unfold bM at hn;rw[zAe hp]at hn;split at hn
  ·cases hn
  ·split at hn
   ·split at hn
    ·exact absurd (zBa hn) (tA _ _)
    ·cases hn
   ·cases hn
 ·exact⟨uO h.nodes.frs hn,(h.nodes.nd n hn).id,n,hn,rfl⟩
theorem qJ{c:Cal}{d:Dsk}(h:MI d.m):(∃e,e≠0∧aEd c d=(e,d))∨
  ∃id dir s,c.path≠[47]∧c.to≠[47]∧qD d.m.log.nodes c.path=(id,0)∧abvN d.m.log.nodes c.to=(dir,s,0)∧childN d.m.log.nodes dir s=none∧dir≠id∧(kM d.m.log.nodes dir).contains id=false∧(nextD d.m).2=0∧
   opOk (oU d.m id dir s)=true∧aEd c d=donePut d (oU d.m id dir s):=by
 unfold aEd;by_cases h1:c.path=[47]∨c.to=[47]
 ·simp_all
 rw[zAe h1];obtain⟨⟨id,e⟩,ha⟩:∃x,qD d.m.log.nodes c.path=x:=⟨_,rfl⟩;rw[ha];simp only;by_cases h2:e=0
 ·subst h2;rw[zAl rfl];obtain⟨⟨dir,s,f⟩,hb⟩:∃x,abvN d.m.log.nodes c.to=x:=⟨_,rfl⟩;rw[hb];simp only;by_cases h3:f=0
  ·subst h3;rw[zAl rfl];obtain⟨a1,a2,a3⟩:=aFL h.nodes h.seen hb;cases hc:childN d.m.log.nodes dir s with
   |some n=>exact .inl ⟨190,by decide,zAl rfl⟩
   |none=>
    rw[zAe (by simp)]
    by_cases h4:dir=id∨(kM d.m.log.nodes dir).contains id=true
    ·rw[zAl h4];exact .inl ⟨192,by decide,rfl⟩
    rw[zAe h4];by_cases h5:(nextD d.m).2=0
    ·obtain⟨n1,n2,n3,n4,n5,n6⟩:=nO h5;obtain⟨o1,o2, -⟩:=aQC h (fun e=>h1 (.inl e)) ha
     have hok:opOk (oU d.m id dir s)=true:=aDc (by omega) (by omega) n4 n5 o1 (wB (by omega)) a1 (by omega) a3
     exact .inr ⟨id,dir,s,fun e=>h1 (.inl e),fun e=>h1 (.inr e),rfl,rfl,hc,fun e=>h4 (.inl e),by simpa using fun e=>h4 (.inr e),h5,hok,aDa h h5 hok⟩
    ·exact .inl ⟨_,h5,aDb h5⟩
  ·rw[zAe h3];exact .inl ⟨f,h3,rfl⟩
 ·rw[zAe h2];exact .inl ⟨e,h2,rfl⟩
theorem lV{c:Cal}{d:Dsk}(h:MI d.m):(∃e,e≠0∧vU c d=(e,d))∨
  ∃id s,c.path≠[47]∧qD d.m.log.nodes c.path=(id,0)∧(∃x xs,bM c.path=some (x::xs)∧s=(x::xs).getLast (by simp))∧(nextD d.m).2=0∧opOk (oU d.m id 2 s)=true∧vU c d=donePut d (oU d.m id 2 s):=by
 unfold vU;by_cases h1:c.path=[47]
 ·simp_all
 rw[zAe h1];obtain⟨⟨id,e⟩,ha⟩:∃x,qD d.m.log.nodes c.path=x:=⟨_,rfl⟩;rw[ha];simp only;by_cases h2:e=0
 ·subst h2;rw[zAl rfl];split
  ·rename_i x xs hn;by_cases h5:(nextD d.m).2=0
   ·obtain⟨n1,n2,n3,n4,n5,n6⟩:=nO h5;obtain⟨o1,o2, -⟩:=aQC h h1 ha;have hok:opOk (oU d.m id 2 ((x::xs).getLast (by simp)))=true:=aDc (by omega) (by omega) n4 n5 o1 (wB (by omega)) (by decide) (by rw[aXV];omega) (aEs hn _ (List.getLast_mem _))
    exact .inr ⟨id,_,h1,rfl,⟨x,xs,hn,rfl⟩,h5,hok,aDa h h5 hok⟩
   ·exact .inl ⟨_,h5,aDb h5⟩
  ·exact .inl ⟨194,by decide,rfl⟩
 ·rw[zAe h2];exact .inl ⟨e,h2,rfl⟩
theorem aK7{b r:Txt}{o:Opn}(h:qR b=some (o,r)):opOk o=true:=by
 grind [qR,zBm]
theorem aK8:∀(k:Nat) (b:Txt) (l:List Opn),nL k b=some l→∀o∈l,opOk o=true:=by
 intro k;induction k with
 |zero=>
  grind [nL]
 |succ k ih=>
  intro b l h;unfold nL at h;split at h
  ·cases h;intro o ho;cases ho
  ·simp only[zBm]at h;obtain⟨⟨o,r⟩,h1,h2⟩:=h;simp only[zAM]at h2;obtain⟨t,h3,rfl⟩:=h2;intro x hx;rcases zAs.1 hx with rfl|hx
   ·exact aK7 h1
   ·exact ih r t h3 x hx
theorem wC{b:Txt}{l:List Opn}(h:readO b=some l):∀o∈l,opOk o=true:=aK8 _ _ _ h
theorem tG(g:Lg):∀(l acc:List Opn),∀x∈freshN g acc l,x∈acc∨x∈l:=by
 intro l;induction l<;>grind [freshN]
theorem aOF:∀(l:List Opn) (d:Dsk),(∀o∈l,opOk o=true)→d.m.log.entries.length+l.length≤200→jZ d l=(0,{d with m:={d.m with log:=mX d.m.log l},ops:=d.ops++l}):=by
 intro l;induction l with
 |nil=>intro d _ _;simp[jZ,mX]
 |cons o l ih=>
  intro d ho hc;rw[zAc]at hc;have ha:xP d.m.log o=0:=by
   unfold xP;grind
  have hk:rO d o=(0,{d with m:={d.m with log:=fJ d.m.log o},ops:=d.ops++[o]}):=by unfold rO;rw[zAl ha]
  have hl:=(vK d.m.log o).1;rw[jZ,hk];simp only[zBc];rw[ih _ (fun x hx=>ho x (zAR _ hx)) (by simp only;omega)]
  simp[mX]
theorem tH(l:List Opn):∀(n:Int),n≤l.foldl (fun n o=>kX n o.at_) n∧∀o∈l,opOk o=true→o.at_.c≤l.foldl (fun n o=>kX n o.at_) n:=by
 induction l with
 |nil=>grind
 |cons x l ih=>
  intro n;obtain⟨i1,i2⟩:=ih (kX n x.at_);have h1:n≤kX n x.at_:=by unfold kX;split<;>omega
  refine⟨zCD h1 i1,fun o ho hok=>?_⟩
  rcases zAs.1 ho with rfl|ho
  ·refine zCD ?_ i1;obtain⟨p1,p2,p3,p4, -⟩:=uM hok;unfold kX;rw[zAl (by rw[rG];exact⟨p1,p2,p3,p4⟩)]
   omega
  ·exact i2 o ho hok
theorem aOG(l:List Opn):∀g:Lg,(mX g l).entries.length≤g.entries.length+l.length:=by
 induction l with
 |nil=>exact fun g=>zAf _
 |cons o l ih=>intro g;have:=ih (fJ g o);have:=(vK g o).1;rw[mX,zAc];omega
def mergeM(m:Mdl)(l:List Opn):Mdl:={m with log:=mX m.log (freshN m.log [] l),seen:=l.foldl (fun n o=>kX n o.at_) m.seen}
theorem rU{c:Cal}{d:Dsk}:(∃e,e≠0∧xT c d=(e,d))∨
  ∃l,readO c.data=some l∧d.m.log.entries.length+(freshN d.m.log [] l).length≤200∧
   xT c d=(0,{m:=mergeM d.m l,a:={d.a with n:=((freshN d.m.log [] l).length:Int)},ops:=d.ops++freshN d.m.log [] l}):=by
 unfold xT;cases hr:readO c.data with
 |none=>exact .inl ⟨50,by decide,rfl⟩
 |some l=>
  simp only;by_cases h1:(200:Int)<(d.m.log.entries.length:Int)+((freshN d.m.log [] l).length:Int)
  ·grind
  rw[zAe h1];have hok:∀o∈freshN d.m.log [] l,opOk o=true:=fun o ho=>by
   rcases tG _ _ _ o ho with h|h
   ·cases h
   ·exact wC hr o h
  rw[aOF _ d hok (by omega)]
  exact .inr ⟨l,rfl,by omega,rfl⟩
theorem aK9{m:Mdl}(h:MI m){l:List Opn}(ho:∀o∈l,opOk o=true)(hc:m.log.entries.length+(freshN m.log [] l).length≤200):MI (mergeM m l) where
 good:=aKu h.good _
 cap:=by have:=aOG (freshN m.log [] l) m.log;unfold mergeM;simp only;omega
 cnt:=fun x hx=>by
  rcases(aN4 h.good _).1 x hx with hx|⟨hx,hok⟩
  ·exact zCD (h.cnt x hx) (tH l m.seen).1
  ·rcases tG _ _ _ x hx with hx|hx
   ·cases hx
   ·exact(tH l m.seen).2 x hx hok
 seen:=zCD h.seen (tH l m.seen).1
 rep:=h.rep
 snaps:=h.snaps
 snap:=fun s hs=>(h.snap s hs).up (tH l m.seen).1
 watches:=h.watches
 watch:=h.watch
theorem wD{c:Cal}(h:chkC c=true)(hk:c.kind=3):c.data.length≤64:=by
 unfold chkC at h;rw[hk]at h;have hp:uJ 3=some 5:=rfl;rw[hp]at h;simp only[zAu]at h;have h':=h.2.2.1;rw[uK,zAe (by decide),zAe (by decide),zAF]at h'
 omega
theorem aLa{m:Mdl}{c:Cal}(h:MI m)(hc:chkC c=true)(h0:(jE c ⟨m,an0,[]⟩).1=0):MI (jE c ⟨m,an0,[]⟩).2.m:=by
 have put:∀{o:Opn} {r:Int×Dsk},r=donePut ⟨m,an0,[]⟩ o→o.at_.c≤m.seen+1→(nextD m).2=0→MI r.2.m:=fun e h1 h2=>by
  subst e;exact aSu h h1 (nO h2).2.2.2.2.2
 have err:∀{e:Int} {r:Int×Dsk},e≠0→r=(e,⟨m,an0,[]⟩)→r.1=0→MI r.2.m:=fun h1 e h2=>by subst e;exact absurd h2 h1
 unfold jE at h0 ⊢;by_cases k1:c.kind=1∨c.kind=2
 ·rw[zAl k1]at h0 ⊢;rcases qI (c:=c) (d:=⟨m,an0,[]⟩) h with⟨e,he,e1⟩|⟨dir,s, -, -, -,hn, -,e1⟩
  ·exact err he e1 h0
  ·exact put e1 (zBY _) hn
 rw[zAe k1]at h0 ⊢;by_cases k3:c.kind=3
 ·rw[zAl k3]at h0 ⊢;rcases nP (c:=c) (d:=⟨m,an0,[]⟩) h (wD hc k3)with⟨e,he,e1⟩|⟨id, -, -,hn, -,e1⟩
  ·exact err he e1 h0
  ·exact put e1 (zBY _) hn
 rw[zAe k3]at h0 ⊢;by_cases k4:c.kind=4
 ·grind [aGY]
 rw[zAe k4]at h0 ⊢;by_cases k5:c.kind=5
 ·rw[zAl k5]at h0 ⊢;rcases qJ (c:=c) (d:=⟨m,an0,[]⟩) h with⟨e,he,e1⟩|⟨id,dir,s, -, -, -, -, -, -, -,hn, -,e1⟩
  ·exact err he e1 h0
  ·exact put e1 (zBY _) hn
 rw[zAe k5]at h0 ⊢;by_cases k6:c.kind=6
 ·rw[zAl k6]at h0 ⊢;rcases lV (c:=c) (d:=⟨m,an0,[]⟩) h with⟨e,he,e1⟩|⟨id,s, -, -, -,hn, -,e1⟩
  ·exact err he e1 h0
  ·exact put e1 (zBY _) hn
 rw[zAe k6]at h0 ⊢;by_cases k7:c.kind=7
 ·rw[zAl k7]at h0 ⊢;unfold lsD;split
  ·exact h
  ·split
   ·split<;>exact h
   ·exact h
 rw[zAe k7]at h0 ⊢;by_cases k8:c.kind=8
 ·rw[zAl k8]at h0 ⊢;unfold aCk;split
  ·exact h
  ·rename_i hl;refine qH h ?_ (fun x hx=>?_) h.watches h.watch
   ·rw[zAa];simp only[zAc,zAv]at hl ⊢;omega
   ·rcases zAy.1 hx with hx|hx
    ·exact h.snap x hx
    ·rw[zAq]at hx;subst hx;exact h.nodes
 rw[zAe k8]at h0 ⊢;by_cases k9:c.kind=9
 ·rw[zAl k9]at h0 ⊢;unfold aCl;split
  ·exact h
  ·exact qH (n:=m.next) h (zAO (zA2 ..) h.snaps) (fun x hx=>h.snap x (zBb.1 hx).1) (zAO (zA2 ..) h.watches) (fun x hx=>h.watch x (zBb.1 hx).1)
 rw[zAe k9]at h0 ⊢;by_cases k10:c.kind=10
 ·rw[zAl k10]at h0 ⊢;unfold xS;split
  ·split
   ·rename_i hdi;split
    ·exact h
    ·rename_i hl;refine qH h h.snaps h.snap ?_ (fun x hx=>?_)
     ·rw[zAa];simp only[zAc,zAv]at hl ⊢;omega
     ·rcases zAy.1 hx with hx|hx
      ·exact h.watch x hx
      ·rw[zAq]at hx;subst hx;exact⟨hdi,by simp,by simp⟩
   ·exact h
  ·exact h
 rw[zAe k10]at h0 ⊢;by_cases k11:c.kind=11
 ·rw[zAl k11]at h0 ⊢;unfold aCm;split
  ·exact h
  ·obtain⟨e1,e2⟩:=aFM c.n m.watches;refine qH (n:=m.next) h h.snaps h.snap (by rw[e1];exact h.watches) fun x hx=>?_
   obtain⟨v,hv,q1, -,q3,q2⟩:=e2 x hx;obtain⟨w1,w2,w3⟩:=h.watch v hv;rw[q1,q3];rcases q2 with q|q<;>rw[q]
   ·exact⟨w1,w2,w3⟩
   ·exact⟨w1,by simp,by simp⟩
 rw[zAe k11]at h0 ⊢;by_cases k12:c.kind=12
 ·rw[zAl k12]at h0 ⊢;exact h
 rw[zAe k12]at h0 ⊢;rcases rU (c:=c) (d:=⟨m,an0,[]⟩)with⟨e,he,e1⟩|⟨l,hr,hcap,e1⟩
 ·exact err he e1 h0
 ·rw[e1];exact aK9 h (wC hr) hcap
theorem aVQ{m:Mdl}(h:MI m)(c:Cal):MI (doM m c).1:=by
 unfold doM;split
 ·exact h
 ·rename_i hc;split
  ·rename_i h0;have:=aLa h (by simpa using hc) h0
   split
   ·exact this
   ·exact aOE this _
  ·exact h
end
section
def tellM(m m':Mdl):Mdl:={m' with watches:=m'.watches.map (aKI m.log.nodes m'.log.nodes)}
theorem wE{c:Cal}(h:chkC c=true):c.kind=1∨c.kind=2∨c.kind=3∨c.kind=4∨c.kind=5∨c.kind=6∨c.kind=7∨c.kind=8∨c.kind=9∨c.kind=10∨c.kind=11∨c.kind=12∨c.kind=13:=by
 grind [chkC,uJ]
inductive WyS (m:Mdl) (c:Cal):Int×Dsk→Prop
 |err (e:Int) (d:Dsk) (he:e≠0):WyS m c (e,d)
 |put (o:Opn) (hk:c.kind=1∨c.kind=2∨c.kind=3∨c.kind=5∨c.kind=6) (hn:(nextD m).2=0) (ho:opOk o=true) (ha:o.at_=⟨m.seen+1,m.rep⟩):WyS m c (donePut ⟨m,an0,[]⟩ o)
 |keep (m':Mdl) (a:Ans) (ha:a.err=0) (h1:m'.log=m.log) (h2:m'.seen=m.seen) (h3:m'.rep=m.rep) (h4:(c.kind=4∨c.kind=7∨c.kind=12)→m'=m):WyS m c (0,⟨m',a,[]⟩)
 |merge (l:List Opn) (hk:c.kind=13) (hr:readO c.data=some l) (hc:m.log.entries.length+(freshN m.log [] l).length≤200):
   WyS m c (0,⟨mergeM m l,{an0 with n:=((freshN m.log [] l).length:Int)},freshN m.log [] l⟩)
theorem aIz{m:Mdl}{c:Cal}(h:MI m)(hc:chkC c=true):WyS m c (jE c ⟨m,an0,[]⟩):=by
 have hk:=wE hc;unfold jE;by_cases k1:c.kind=1∨c.kind=2
 ·rw[zAl k1];rcases qI (c:=c) (d:=⟨m,an0,[]⟩) h with⟨e,he,e1⟩|⟨dir,s, -, -, -,hn,ho,e1⟩
  ·rw[e1];exact .err _ _ he
  ·rw[e1];exact .put _ (by omega) hn ho rfl
 rw[zAe k1];by_cases k3:c.kind=3
 ·rw[zAl k3];rcases nP (c:=c) (d:=⟨m,an0,[]⟩) h (wD hc k3)with⟨e,he,e1⟩|⟨id, -, -,hn,ho,e1⟩
  ·rw[e1];exact .err _ _ he
  ·rw[e1];exact .put _ (by omega) hn ho rfl
 rw[zAe k3];by_cases k4:c.kind=4
 ·rw[zAl k4];unfold aGY;split
  ·exact .err _ _ (by decide)
  ·split
   ·split
    ·exact .err _ _ (by decide)
    ·exact .keep _ _ rfl rfl rfl rfl fun _=>rfl
   ·rename_i h;exact .err _ _ h
 rw[zAe k4];by_cases k5:c.kind=5
 ·rw[zAl k5];rcases qJ (c:=c) (d:=⟨m,an0,[]⟩) h with⟨e,he,e1⟩|⟨id,dir,s, -, -, -, -, -, -, -,hn,ho,e1⟩
  ·rw[e1];exact .err _ _ he
  ·rw[e1];exact .put _ (by omega) hn ho rfl
 rw[zAe k5];by_cases k6:c.kind=6
 ·rw[zAl k6];rcases lV (c:=c) (d:=⟨m,an0,[]⟩) h with⟨e,he,e1⟩|⟨id,s, -, -, -,hn,ho,e1⟩
  ·rw[e1];exact .err _ _ he
  ·rw[e1];exact .put _ (by omega) hn ho rfl
 rw[zAe k6];by_cases k7:c.kind=7
 ·rw[zAl k7];unfold lsD;split
  ·exact .err _ _ (by decide)
  ·split
   ·split
    ·exact .keep _ _ rfl rfl rfl rfl fun _=>rfl
    ·exact .err _ _ (by decide)
   ·rename_i h;exact .err _ _ h
 rw[zAe k7];by_cases k8:c.kind=8
 ·rw[zAl k8];unfold aCk;split
  ·exact .err _ _ (by decide)
  ·exact .keep _ _ rfl rfl rfl rfl fun h=>by omega
 rw[zAe k8];by_cases k9:c.kind=9
 ·rw[zAl k9];unfold aCl;split
  ·exact .err _ _ (by decide)
  ·exact .keep _ _ rfl rfl rfl rfl fun h=>by omega
 rw[zAe k9];by_cases k10:c.kind=10
 ·rw[zAl k10];unfold xS;split
  ·split
   ·split
    ·exact .err _ _ (by decide)
    ·exact .keep _ _ rfl rfl rfl rfl fun h=>by omega
   ·exact .err _ _ (by decide)
  ·rename_i h;exact .err _ _ h
 rw[zAe k10];by_cases k11:c.kind=11
 ·rw[zAl k11];unfold aCm;split
  ·exact .err _ _ (by decide)
  ·exact .keep _ _ rfl rfl rfl rfl fun h=>by omega
 rw[zAe k11];by_cases k12:c.kind=12
 ·rw[zAl k12];exact .keep _ _ rfl rfl rfl rfl fun _=>rfl
 rw[zAe k12];rcases rU (c:=c) (d:=⟨m,an0,[]⟩)with⟨e,he,e1⟩|⟨l,hr,hcap,e1⟩
 ·rw[e1];exact .err _ _ he
 ·rw[e1];exact .merge l (by omega) hr hcap
inductive DoS (m:Mdl) (c:Cal):Mdl×Ans×List Opn→Prop
 |err (e:Int) (he:e≠0):DoS m c (m,errA e,[])
 |put (o:Opn) (hk:c.kind=1∨c.kind=2∨c.kind=3∨c.kind=5∨c.kind=6) (hn:(nextD m).2=0) (ho:opOk o=true) (ha:o.at_=⟨m.seen+1,m.rep⟩):DoS m c (tellM m (putM m o),an0,[o])
 |keep (m':Mdl) (a:Ans) (ha:a.err=0) (h1:m'.log=m.log) (h2:m'.seen=m.seen) (h3:m'.rep=m.rep) (h4:(c.kind=4∨c.kind=7∨c.kind=12)→m'=m):DoS m c (m',a,[])
 |merge (l:List Opn) (hk:c.kind=13) (hr:readO c.data=some l) (hc:m.log.entries.length+(freshN m.log [] l).length≤200):
   DoS m c (if freshN m.log [] l=[]then mergeM m l else tellM m (mergeM m l),{an0 with n:=((freshN m.log [] l).length:Int)},freshN m.log [] l)
theorem aBo{m:Mdl}(h:MI m)(c:Cal):DoS m c (doM m c):=by
 unfold doM;split
 ·exact .err 180 (by decide)
 ·rename_i hc;have hs:=aIz h (by simpa using hc)
  generalize jE c ⟨m,an0,[]⟩=r at hs ⊢;cases hs with
  |err e d he=>rw[zAe he];exact .err e he
  |put o hk hn ho ha=>exact .put o hk hn ho ha
  |keep m' a ha h1 h2 h3 h4=>exact .keep m' a ha h1 h2 h3 h4
  |merge l hk hr hc=>
   have hm:=DoS.merge (m:=m) (c:=c) l hk hr hc;rw[zAl rfl];split
   ·grind
   ·rename_i e;rw[zAe e]at hm;exact hm
theorem aSw{g:Lg}{a:Stm}:lO g.entries a=false↔∀x∈opsG g,x.at_≠a:=by
 grind [Stm,lO,opsG]
theorem rV(g:Lg):(opsG g).length=g.entries.length:=by rw[opsG,zAn]
theorem aDd{g:Lg}(h:Good g){o:Opn}(ho:opOk o=true)(hn:∀x∈opsG g,x.at_≠o.at_)(hl:g.entries.length<200):opsG (fJ g o)=aAd o (opsG g):=by
 rcases(mK h o).2 with⟨-, -,e|⟨x,hx,e⟩|e⟩|⟨e, -, -⟩
 ·rw[ho]at e;cases e
 ·exact absurd e (hn x hx)
 ·rw[rV]at e;omega
 ·exact e
theorem aOH(l:List Opn):∀{g:Lg},Good g→(∀o∈l,opOk o=true)→l.Pairwise (fun a b=>a.at_≠b.at_)→(∀o∈l,∀x∈opsG g,x.at_≠o.at_)→g.entries.length+l.length≤200→
  (∀x,x∈opsG (mX g l)↔x∈opsG g∨x∈l)∧(mX g l).entries.length=g.entries.length+l.length:=by
 induction l with
 |nil=>grind [mX]
 |cons o l ih=>
  intro g hg ho hp hn hl;rw[zAc]at hl;rw[zBw]at hp;have e:=aDd hg (ho o (by simp)) (hn o (by simp)) (by omega)
  have el:(fJ g o).entries.length=g.entries.length+1:=by rw[←rV,e,aCU,rV]
  obtain⟨i1,i2⟩:=ih (mK hg o).1 (fun x hx=>ho x (zAR _ hx)) hp.2 (fun x hx y hy=>by
   rw[e]at hy;rcases pW.1 hy with rfl|hy
   ·exact hp.1 x hx
   grind) (by omega)
  refine⟨fun x=>?_,by rw[mX,i2,el,zAc];omega⟩
  rw[mX,i1,e,pW,zAs];constructor
  ·rintro((h|h)|h)
   ·exact .inr (.inl h)
   ·exact .inl h
   ·exact .inr (.inr h)
  ·rintro(h|h|h)
   ·exact .inl (.inr h)
   ·exact .inl (.inl h)
   ·exact .inr h
theorem aLb(g:Lg):∀(l acc:List Opn),acc.Pairwise (fun a b=>a.at_≠b.at_)→(∀o∈acc,∀x∈opsG g,x.at_≠o.at_)→(freshN g acc l).Pairwise (fun a b=>a.at_≠b.at_)∧(∀o∈freshN g acc l,∀x∈opsG g,x.at_≠o.at_):=by
 intro l;induction l with
 |nil=>exact fun acc h1 h2=>⟨h1,h2⟩
 |cons o l ih=>
  intro acc h1 h2;rw[freshN];split
  ·rename_i hc;simp only[zAu,zA4]at hc;have hn:=aSw.1 hc.1;grind
  ·exact ih _ h1 h2
end
section
theorem aLc{l:List Opn}{o:Opn}(h:∀x∈l,fU o.at_ x.at_=false):aAd o l=l++[o]:=by
 have h1:kD o l=l:=by
  have:=aBL (fun x=> !fU o.at_ x.at_) l [] (fun x hx=>by rw[h x hx];rfl) (fun x hx=>by cases hx)
  rwa[zAd]at this
 have h2:rH o l=[]:=by
  have e:=zAx List.length (lS o l);simp_all
 rw[aAd,h1,h2]
theorem oV{m:Mdl}(h:MI m){o:Opn}(hn:(nextD m).2=0)(ho:opOk o=true)(ha:o.at_=⟨m.seen+1,m.rep⟩):(putM m o).log.nodes=doL m.log.nodes o:=by
 have hl:=(nO hn).2.2.2.2.2;have hno:∀x∈opsG m.log,x.at_≠o.at_:=fun x hx e=>by have:=h.cnt x hx;grind
 have e:=aDd h.good ho hno hl;have hlast:∀x∈opsG m.log,fU o.at_ x.at_=false:=fun x hx=>by
  have:=h.cnt x hx;rw[aN0,ha];simp only;omega
 show(fJ m.log o).nodes=_;rw[uL (mK h.good o).1,e,aLc hlast,zBF,←uL h.good];rfl
theorem aIA(l:List Nd):∀(k:Nat) (id x:Int),x∈dI l k id→∃n∈l,n.parent=x:=by
 intro k;induction k with
 |zero=>intro id x h;simp[dI]at h
 |succ k ih=>
  intro id x h;rw[dI]at h;cases hf:fnd l id with
  |none=>rw[hf]at h;simp at h
  |some n=>
   rw[hf]at h;simp only at h;split at h
   ·simp at h
   ·rcases zAs.1 h with rfl|h
    ·exact⟨n,(uN hf).1,rfl⟩
    ·exact ih _ _ h
theorem aVR{q x y:Int}(hx:fE x=true)(h:oA x≤q)(hy:fE y=true)(h2:q<oA y):x<y:=by
 unfold oA at h h2;rw[zAl hx]at h;rw[zAl hy]at h2;omega
theorem aFN{m:Mdl}(h:MI m){o:Opn}(hk:o.kind=1)(ho:opOk o=true)(hid:fE o.node=true)(hA:oA o.node=m.seen+1)(hp:oA o.parent≤m.seen):
  doL m.log.nodes o=m.log.nodes++[⟨o.node,o.parent,o.name,o.at_,[],st0⟩]:=by
 have hN:=h.nodes;obtain⟨l,hl⟩:∃l,l=m.log.nodes:=⟨_,rfl⟩;rw[←hl]at hN ⊢;have hlt:∀n∈l,n.id<o.node:=fun n hn=>aVR (uO hN.frs hn) (hN.nd n hn).id hid (by omega)
 have hfn:fnd l o.node=none:=by
  unfold fnd;grind
 have hr:refused l o=false:=by
  unfold refused;rw[hN.frs.chk,ho,hk];simp only[zBQ,zCG,zA7,zAN];unfold lL;rw[zB6];refine⟨by simp only[zA1];intro e;rw[e]at hp;omega,?_⟩
  rw[zCa];intro x hx;simp only[zAF];rintro rfl;obtain⟨n,hn,e⟩:=aIA l _ _ _ hx;have:=(hN.nd n hn).par;rw[e]at this;omega
 rw[kP hr];have hnn:cA l o=⟨o.node,o.parent,o.name,o.at_,[],st0⟩:=by
  rw[lU hk,hfn];unfold eK;rw[hfn];rfl
 rw[hnn];have hpos:pos l o.node=l.length:=by
  have:=aNX (A:=l) (B:=[]) (id:=o.node) hlt (fun _ hx=>by cases hx)
  rwa[zAd]at this
 have hup:upto l o.node=l.length:=by
  unfold upto had;rw[hfn,hpos];rfl
 exact aFn _ (A:=l) (B:=[]) (by show l=l.take (pos l o.node);rw[hpos,zAD]) (by show[]=l.drop (upto l o.node);rw[hup,zBp])
theorem aLd(s:Txt)(n:Nd)(m:List (Txt×Nd)):dB s (iR s n m)=some n:=by
 induction m<;>grind [iR,dB]
theorem aHb{s t:Txt}(h:s≠t)(n:Nd)(m:List (Txt×Nd)):dB t (iR s n m)=dB t m:=by
 induction m with
 |nil=>simp[iR,dB,h]
 |cons p m ih=>
  obtain⟨k,x⟩:=p;unfold iR;by_cases hk:k=s
  ·rw[zAl hk,dB,dB,zAe h,zAe (by rw[hk];exact h)]
  ·rw[zAe hk,dB,dB,ih]
theorem aCu(l:List Nd)(n:Nd)(dir:Int):dD (l++[n]) dir=qV dir (dD l dir) n:=by simp[dD,zBF]
theorem aIB{l:List Nd}{n:Nd}{dir:Int}(hc:chk (l++[n])=true)(hcl:chk l=true)(hp:n.parent=dir)(hm:okI n.moved.c n.moved.r=true)(h:childN l dir n.name=none):childN (l++[n]) dir n.name=some n:=by
 unfold childN at h ⊢;rw[zAl hc,aCu];rw[zAl hcl]at h;unfold qV inD;rw[zAl (by simp[hp,hm])]
 unfold xO;rw[h];exact aLd _ _ _
theorem xY{l:List Nd}{n:Nd}{dir:Int}{s:Txt}(hc:chk (l++[n])=true)(hcl:chk l=true)(h:¬(n.parent=dir∧n.name=s)):childN (l++[n]) dir s=childN l dir s:=by
 unfold childN;rw[zAl hc,zAl hcl,aCu];unfold qV;split
 ·rename_i hi;have hp:n.parent=dir:=by simp[inD]at hi;exact hi.1
  have hne:n.name≠s:=fun e=>h ⟨hp,e⟩
  unfold xO;split
  ·exact aHb hne _ _
  ·split
   ·rfl
   ·exact aHb hne _ _
 ·rfl
theorem aLe(l:List Nd)(b:List Txt):∀(a:List Txt) (x:Int),dH l x (a++b)=if(dH l x a).2=0 then dH l (dH l x a).1 b else dH l x a:=by
 intro a;induction a<;>grind [zAW,dH,zA0,childN]
theorem aIC{l l':List Nd}(hs:∀(x:Int) (t:Txt) (n:Nd),childN l x t=some n→∃n',childN l' x t=some n'∧n'.id=n.id):∀(names:List Txt) (x d:Int),dH l x names=(d,0)→dH l' x names=(d,0):=by
 intro names;induction names<;>grind [dH,childN]
theorem aCv{l:List Nd}{p:Txt}{dir:Int}{s:Txt}(h:abvN l p=(dir,s,0)):∃ns,bM p=some (ns++[s])∧findN l ns=(dir,0)∧dirI dir=true:=by
 unfold abvN at h;split at h
 ·cases h
 ·cases h
 ·rename_i x xs hn;split at h
  ·rename_i h0;split at h
   ·rename_i hd;cases h;exact⟨(x::xs).dropLast,by rw[hn,List.dropLast_concat_getLast],by rw[←h0],hd⟩
   ·cases h
  grind
def bornN(m:Mdl)(c:Cal)(dir:Int)(s:Txt):Nd:=⟨idI (m.seen+1) m.rep (decide (c.kind=1)),dir,s,⟨m.seen+1,m.rep⟩,[],st0⟩
structure Made (m:Mdl) (c:Cal) (dir:Int) (s:Txt):Prop where
 does:doM m c=(tellM m (putM m (bornO m c dir s)),an0,[bornO m c dir s])
 chk:chkC c=true
 root:c.path≠[47]
 abv:abvN m.log.nodes c.path=(dir,s,0)
 none_:childN m.log.nodes dir s=none
 nodes:(putM m (bornO m c dir s)).log.nodes=m.log.nodes++[bornN m c dir s]
 new:∀n∈m.log.nodes,n.id≠idI (m.seen+1) m.rep (decide (c.kind=1))∧n.parent≠idI (m.seen+1) m.rep (decide (c.kind=1))
 ne:dir≠idI (m.seen+1) m.rep (decide (c.kind=1))
 chks:Go.Proofs.YtennnelammaapaaGreatDoor.chk (m.log.nodes++[bornN m c dir s])=true
 dir_:dirI (idI (m.seen+1) m.rep (decide (c.kind=1)))= !decide (c.kind=1)
 child:childN (m.log.nodes++[bornN m c dir s]) dir s=some (bornN m c dir s)
theorem aHc{m:Mdl}{c:Cal}(h0:(doM m c).2.1.err=0):chkC c=true∧(jE c ⟨m,an0,[]⟩).1=0:=by
 unfold doM at h0;split at h0
 ·cases h0
 ·rename_i hc;split at h0
  ·grind
  ·rename_i hw;exact absurd h0 hw
theorem aXW{m:Mdl}(h:MI m){c:Cal}(hk:c.kind=1∨c.kind=2)(h0:(doM m c).2.1.err=0):∃dir s,Made m c dir s:=by
 obtain⟨hc,hw⟩:=aHc h0;have hwd:jE c ⟨m,an0,[]⟩=aEc c ⟨m,an0,[]⟩:=by unfold jE;rw[zAl hk]
 rw[hwd]at hw;rcases qI (c:=c) (d:=⟨m,an0,[]⟩) h with⟨e,he,e1⟩|⟨dir,s,e1,e2,e3,e4,e5,e6⟩
 ·rw[e1]at hw;exact absurd hw he
 simp only at e2 e3 e4 e5 e6;obtain⟨n1,n2,n3,n4,n5,n6⟩:=nO e4;obtain⟨i1,i2,i3,i4⟩:=aQB (d:=decide (c.kind=1)) (show 1≤m.seen+1 by omega) (show m.seen+1≤1048576 by omega) n4 n5
 obtain⟨a1,a2,a3⟩:=aFL h.nodes h.seen e2;have hnodes:(putM m (bornO m c dir s)).log.nodes=m.log.nodes++[bornN m c dir s]:=by
  rw[oV h e4 e5 rfl,aFN h rfl e5 i1 i2 a2];rfl
 have hchk:chk (m.log.nodes++[bornN m c dir s])=true:=by
  rw[←hnodes,oV h e4 e5 rfl,aAt,h.nodes.frs.chk]
 refine⟨dir,s,?_,hc,e1,e2,e3,hnodes,fun n hn=>?_,fun e=>?_,hchk,?_,?_⟩
 ·unfold doM;rw[zAe (by rw[hc];simp),hwd,e6]
  rfl
 ·have q:=h.nodes.nd n hn;have q1:=q.id;have q2:=q.par;grind
 ·rw[e,i2]at a2;omega
 ·unfold dirI;rw[i1,i4];have:128≤idI (m.seen+1) m.rep (decide (c.kind=1)):=(xL.1 i1).1;rw[dF,dF];rfl
 ·exact aIB (n:=bornN m c dir s) hchk h.nodes.frs.chk rfl (by rw[rG];exact⟨by simp only[bornN];omega,by simp only[bornN];omega,n4,n5⟩) e3
def aBQ(g:Nd→Nd)(m:List (Txt×Nd)):List (Txt×Nd):=m.map fun p=>(p.1,g p.2)
section
variable {g:Nd→Nd} (hn:∀n,(g n).name=n.name) (hp:∀n,(g n).parent=n.parent) (hm:∀n,(g n).moved=n.moved)
theorem aEt(s:Txt)(m:List (Txt×Nd)):dB s (aBQ g m)=(dB s m).map g:=by
 induction m with
 |nil=>rfl
 |cons p m ih=>
  obtain⟨k,x⟩:=p;show dB s ((k,g x)::aBQ g m)=_;rw[dB,dB];split
  ·rfl
  ·exact ih
theorem aHd(s:Txt)(n:Nd)(m:List (Txt×Nd)):iR s (g n) (aBQ g m)=aBQ g (iR s n m):=by
 induction m with
 |nil=>rfl
 |cons p m ih=>
  obtain⟨k,x⟩:=p;show iR s (g n) ((k,g x)::aBQ g m)=_;rw[iR,iR];split
  ·rfl
  ·rw[ih];rfl
include hn hm in
theorem aLf(n:Nd)(m:List (Txt×Nd)):xO (aBQ g m) (g n)=aBQ g (xO m n):=by
 unfold xO;rw[hn,aEt];cases dB n.name m with
 |none=>exact aHd _ _ _
 |some o=>
  simp only[zCm];rw[hm,hm];split
  ·rfl
  ·exact aHd _ _ _
include hn hp hm in
theorem aLg(dir:Int)(l:List Nd):dD (l.map g) dir=aBQ g (dD l dir):=by
 have key:∀(l:List Nd) (m:List (Txt×Nd)),(l.map g).foldl (qV dir) (aBQ g m)=aBQ g (l.foldl (qV dir) m):=by
  intro l;induction l with
  |nil=>exact fun m=>rfl
  |cons n l ih=>
   intro m;rw[zAw,zBy,zBy,←ih];congr 1;unfold qV inD;rw[hp,hm];split
   ·exact aLf hn hm n m
   ·rfl
 exact key l []
include hn hp hm in
theorem aID(l:List Nd)(hc:chk (l.map g)=chk l)(dir:Int)(s:Txt):childN (l.map g) dir s=(childN l dir s).map g:=by
 unfold childN;rw[hc,aLg hn hp hm,aEt];split<;>rfl
end
def iO(o:Opn)(n:Nd):Nd:=if n.id=o.node then{n with data:=o.data,wrote:=o.at_}else n
theorem zM{l:List Nd}(hf:Frs l){o:Opn}(hk:o.kind=2)(ho:opOk o=true)(hh:∃n∈l,n.id=o.node):doL l o=l.map (iO o)∧refused l o=false:=by
 have hr:refused l o=false:=by
  unfold refused;rw[hf.chk,ho,hk];rfl
 refine⟨?_,hr⟩;rw[kP hr];obtain⟨A,B,hA,hB,eA,eB,⟨e,hno⟩|⟨n,hn,e, -⟩⟩:=vM hf.chk o.node
 ·grind
 ·have hfn:fnd l o.node=some n:=by rw[e];exact sY hA hn
  have hnew:cA l o=iO o n:=by
   unfold cA eK iO;rw[hfn,hk,zAl hn];rfl
  have hid:(iO o n).id=o.node:=by unfold iO;rw[zAl hn];exact hn
  rw[hnew,e,aCT (n:=iO o n) (by rw[hid];exact hA) (by rw[hid];exact hn),zA9,zAw]
  have k1:A.map (iO o)=A:=by
   conv=>rhs;rw[←List.map_id A]
   refine List.map_congr_left fun x hx=>?_
   have:=hA x hx;unfold iO;rw[zAe (by omega)];rfl
  have k2:B.map (iO o)=B:=by
   conv=>rhs;rw[←List.map_id B]
   refine List.map_congr_left fun x hx=>?_
   have:=hB x hx;unfold iO;rw[zAe (by omega)];rfl
  rw[k1,k2]
theorem tI(o:Opn)(n:Nd):(iO o n).id=n.id∧(iO o n).name=n.name∧(iO o n).parent=n.parent∧(iO o n).moved=n.moved:=by
 unfold iO;split<;>exact⟨rfl,rfl,rfl,rfl⟩
end
section
def childI(l:List Nd)(dir:Int)(s:Txt):Option Int:=(childN l dir s).map (·.id)
theorem iH(l:List Nd)(a:Int)(s:Txt)(ns:List Txt):dH l a (s::ns)=if dirI a=true then(match childI l a s with|some i=>dH l i ns|none=>(0,80))else(0,81):=by
 rw[dH];unfold childI;cases childN l a s<;>rfl
theorem xZ{A B:List Nd}{x:Nd}{dir:Int}(h:x.parent≠dir):dD (A++x::B) dir=dD (A++B) dir:=by
 have:inD dir x=false:=by unfold inD;rw[zAg h];rfl
 simp[dD,zBF,qV,this]
theorem aFO{l:List Nd}(hf:Frs l){o:Opn}(hr:refused l o=false)(hk:o.kind=1){h:Int}(h1:h≠o.parent)(h2:∀n,fnd l o.node=some n→n.parent≠h)(s:Txt):childN (doL l o) h s=childN l h s:=by
 have hc:chk (doL l o)=chk l:=aAt _ _;unfold childN;rw[hc];congr 2;rw[kP hr];have hp:(cA l o).parent≠h:=by rw[lU hk];exact fun e=>h1 e.symm
 have hid:=jC l o;obtain⟨A,B,hA,hB,eA,eB,⟨e,hno⟩|⟨n,hn,e, -⟩⟩:=vM hf.chk o.node
 ·rw[vL,oI,hid,←eA,←eB,zAr,List.singleton_append,xZ hp,←e]
 ·have hfn:fnd l o.node=some n:=by rw[e];exact sY hA hn
  obtain⟨x,hx⟩:∃x,cA l o=x:=⟨_,rfl⟩;rw[hx]at hid hp ⊢;rw[e,aCT (n:=x) (by rw[hid];exact hA) (by rw[hid];exact hn),xZ hp,xZ (h2 n hfn)]
theorem zN{l:List Nd}(hf:Frs l){o:Opn}(hk:o.kind=2)(ho:opOk o=true)(hh:∃n∈l,n.id=o.node)(h:Int)(s:Txt):childI (doL l o) h s=childI l h s:=by
 obtain⟨w1, -⟩:=zM hf hk ho hh;have hchk:chk (l.map (iO o))=chk l:=by rw[←w1,aAt]
 unfold childI;rw[w1,aID (fun n=>(tI _ n).2.1) (fun n=>(tI _ n).2.2.1) (fun n=>(tI _ n).2.2.2) _ hchk,Option.map_map]
 congr 1;funext n;exact(tI o n).1
theorem aOI{l:List Nd}{names:List Txt}{t:Thr}(h:vT l names t=⟨3,0⟩):∃here,t.has=[here]∧((findN l names).2=0→dirI (findN l names).1=true→(findN l names).1=here):=by
 unfold vT at h;split at h
 ·cases h
 ·cases h
 ·rename_i here e;refine⟨here,e,fun h1 h2=>?_⟩
  by_cases hx:(findN l names).1=here
  ·exact hx
  have hc:(findN l names).2=0∧dirI (findN l names).1=true∧(findN l names).1≠here:=⟨h1,h2,hx⟩;split at h
  ·split at h
   ·cases h
   ·first|(rw[zAl hc]at h;cases h)|cases h
  ·first|(rw[zAl hc]at h;cases h)|cases h
theorem aHe{has:List Int}:∀{ks:List Int},turnN has ks=⟨3,0⟩→∀k∈ks,k∈has
 |[],_,k,h=>by cases h
 |a::ks,h,k,hk=>by
  unfold turnN at h;split at h
  ·rename_i ha;rcases zAs.1 hk with rfl|hk
   ·simpa using ha
   ·exact aHe h k hk
  ·cases h
theorem aDe{l:List Nd}{t:Thr}(hd:t.done=false)(h:nextT l t=⟨3,0⟩):
  (turnsK t.call=true→∀k∈locksT l t.call,k∈t.has)∧(turnsK t.call=false→walksK t.call=true→∃here,t.has=[here]∧((findN l (wnames t.call)).2=0→dirI (findN l (wnames t.call)).1=true→(findN l (wnames t.call)).1=here)):=by
 unfold nextT at h;split at h
 ·cases h
 rw[zAe (by simp[hd])]at h
 refine⟨fun ht=>?_,fun ht hw=>?_⟩
 ·rw[zAl ht]at h;exact aHe h
 ·rw[zAe (by simp[ht]),zAl hw]at h;exact aOI h
theorem aFP{l:List Nd}{p:Txt}{ns:List Txt}{s:Txt}{d:Int}(hn:bM p=some (ns++[s]))(hf:findN l ns=(d,0))(hd:dirI d=true):dG l p=some d:=by
 unfold dG;rw[hn];cases hx:ns++[s]with
 |nil=>simp at hx
 |cons x xs=>
  simp only;rw[←hx,List.dropLast_concat,hf];simp[hd]
theorem aLh{ds:List Int}{d:Int}:d∈mL ds (some d):=by unfold mL;simp only;split<;>simp_all
theorem aLi{ds:List Int}:∀x∈ds,∀o,x∈mL ds o:=fun x hx o=>by
 ·unfold mL;split
  ·split<;>simp_all
  ·exact hx
theorem yA{l:List Nd}{c:Cal}{p:Txt}{d:Int}(hp:p∈jD c)(h:dG l p=some d):d∈locksT l c:=by
 have key:∀(ps:List Txt) (ds:List Int),(d∈ds∨p∈ps)→d∈ps.foldl (fun ds p=>mL ds (dG l p)) ds:=by
  intro ps;induction ps with
  |nil=>intro ds h;simpa using h
  |cons q ps ih=>
   intro ds hh;refine ih _ ?_;rcases hh with hh|hh
   ·exact .inl (aLi _ hh _)
   ·rcases zAs.1 hh with rfl|hh
    ·left;simp only[h];exact aLh
    ·exact .inr hh
 exact zAR _ ((aQx l (uH l c)).mem_iff.2 (key _ _ (.inr hp)))
theorem aFQ{l:List Nd}(hf:Frs l){p:Txt}{id:Int}(hp:p≠[47])(h:qD l p=(id,0)):∃ns s d n,bM p=some (ns++[s])∧findN l ns=(d,0)∧dirI d=true∧childN l d s=some n∧n.id=id∧n.parent=d∧fnd l id=some n:=by
 unfold qD at h;cases hn:bM p with
 |none=>rw[hn]at h;cases h
 |some ns=>
  rw[hn]at h;rcases List.eq_nil_or_concat ns with rfl|⟨xs,s,rfl⟩
  ·exact absurd (aD9 hn) hp
  ·simp only at h;unfold findN at h;rw[List.concat_eq_append,aLe]at h;split at h
   ·rename_i h0;obtain⟨d,hd⟩:∃d,dH l 0 xs=(d,0):=⟨_,Prod.ext rfl h0⟩;rw[hd]at h;simp only[dH]at h;split at h
    ·rename_i hdi;split at h
     ·rename_i n hc;obtain⟨h1,h2,h3⟩:=oR hc;refine⟨xs,s,d,n,by rw[List.concat_eq_append],hd,hdi,hc,(Prod.mk.inj h).1,h3,?_⟩
      rw[←(Prod.mk.inj h).1];exact aG2 hf.chk h2
     ·cases h
    ·cases h
   ·rename_i h0;rw[h]at h0;exact absurd rfl h0
inductive ActS (l:List Nd) (t:Thr) (l':List Nd):List Opn→Prop
 |none (h:l'=l):ActS l t l' []
 |born (o:Opn) (n:Nd) (hk:o.kind=1) (hp:o.parent∈t.has) (hn:∀x∈l,x.id<o.node∧x.parent≠o.node) (ht:turnsK t.call=false) (hl:l'=l++[n]) (hi:n.id=o.node) (hq:n.parent=o.parent) (hne:o.parent≠o.node) (h0:childN l o.parent n.name=Option.none) (hc:childN (l++[n]) n.parent n.name=some n) (hd:dirI o.parent=true):ActS l t l' [o]
 |wrote (o:Opn) (hk:o.kind=2) (ho:opOk o=true) (n:Nd) (hn:fnd l o.node=some n) (hp:n.parent∈t.has) (ht:turnsK t.call=false) (hl:l'=doL l o):ActS l t l' [o]
 |moved (o:Opn) (hk:o.kind=1) (n:Nd) (hn:fnd l o.node=some n) (hp:n.parent∈t.has) (hq:o.parent=2∨o.parent∈t.has) (ht:turnsK t.call=true) (h1:(1:Int)∈t.has) (hr:refused l o=false) (hl:l'=doL l o):ActS l t l' [o]
theorem aIE{m:Mdl}{t:Thr}(h:MI m)(hd:t.done=false)(h3:nextT m.log.nodes t=⟨3,0⟩)(hk:t.call.kind≠13∨(doM m t.call).2.1.err≠0):ActS m.log.nodes t (doM m t.call).1.log.nodes (doM m t.call).2.2:=by
 by_cases he:(doM m t.call).2.1.err=0
 ·obtain⟨hc,hw⟩:=aHc he;have hk:t.call.kind≠13:=hk.resolve_right fun h=>h he
  obtain⟨hnt,hnw⟩:=aDe hd h3;have hfr:=h.nodes.frs;by_cases k1:t.call.kind=1∨t.call.kind=2
  ·have ht:turnsK t.call=false:=by unfold turnsK;rw[dF,dF,dF];rfl
   have hwk:walksK t.call=true:=by unfold walksK;rcases k1 with e|e<;>rw[e]<;>rfl
   obtain⟨dir,s,k⟩:=aXW h k1 he;obtain⟨here,hh,hx⟩:=hnw ht hwk;obtain⟨ns,hn,hf,hdi⟩:=aCv k.abv;have hw2:wnames t.call=ns:=by unfold wnames;rw[hn];simp only;rw[zAe (by omega),List.dropLast_concat]
   rw[hw2,hf]at hx;have e:=hx rfl hdi;rw[k.does];refine .born _ (bornN m t.call dir s) rfl ?_ (fun x hx=>?_) ht k.nodes rfl rfl k.ne k.none_ k.child hdi
   ·show dir∈t.has;rw[hh];exact zAq.2 e
   ·refine⟨?_,(k.new x hx).2⟩;have hp:=((nH _).1 k.chks).2;rw[zBZ]at hp;exact hp.2.2 x hx _ (zAq.2 rfl)
  by_cases k3:t.call.kind=3
  ·have ht:turnsK t.call=false:=by unfold turnsK;rw[k3];rfl
   have hwk:walksK t.call=true:=by unfold walksK;rw[k3];rfl
   obtain⟨here,hh,hx⟩:=hnw ht hwk;have hwd:jE t.call ⟨m,an0,[]⟩=aBf t.call ⟨m,an0,[]⟩:=by unfold jE;rw[zAe (by omega),zAl k3]
   rw[hwd]at hw;rcases nP (c:=t.call) (d:=⟨m,an0,[]⟩) h (wD hc k3)with⟨e,he,e1⟩|⟨id,e1,e2,e3,e4,e5⟩
   ·rw[e1]at hw;exact absurd hw he
   simp only at e1 e3 e4 e5;have hp0:t.call.path≠[47]:=fun e=>by
    rw[e]at e1;have:qD m.log.nodes [47]=(0,0):=rfl;rw[this]at e1;cases e1;cases e2
   obtain⟨ns,s,d,n,q1,q2,q3,q4,q5,q6,q7⟩:=aFQ hfr hp0 e1;have hw2:wnames t.call=ns:=by unfold wnames;rw[q1];simp only;rw[zAe (by omega),List.dropLast_concat]
   rw[hw2,q2]at hx;have e:=hx rfl q3;have hdo:doM m t.call=(tellM m (putM m (aBn m t.call id)),an0,[aBn m t.call id]):=by
    unfold doM;rw[zAe (by rw[hc];simp),hwd,e5]
    rfl
   rw[hdo];exact .wrote _ rfl e4 n q7 (by rw[hh,q6,←e];exact zAq.2 rfl) ht (oV h e3 e4 rfl)
  have hmv:∀{id dir:Int} {s:Txt},(nextD m).2=0→opOk (oU m id dir s)=true→jE t.call ⟨m,an0,[]⟩=donePut ⟨m,an0,[]⟩ (oU m id dir s)→doM m t.call=(tellM m (putM m (oU m id dir s)),an0,[oU m id dir s]):=fun _ _ e=>by
   unfold doM;rw[zAe (by rw[hc];simp),e]
   rfl
  by_cases k5:t.call.kind=5
  ·have ht:turnsK t.call=true:=by unfold turnsK;rw[k5];rfl
   have hwd:jE t.call ⟨m,an0,[]⟩=aEd t.call ⟨m,an0,[]⟩:=by unfold jE;rw[zAe (by omega),zAe (by omega),zAe (by omega),zAl k5]
   rw[hwd]at hw;rcases qJ (c:=t.call) (d:=⟨m,an0,[]⟩) h with⟨e,he,e1⟩|⟨id,dir,s,p1,p2,e1,e2,e3,n1,n2,n3,e4,e5⟩
   ·rw[e1]at hw;exact absurd hw he
   simp only at e1 e2 e3 n2 n3 e4 e5;obtain⟨ns,s',d,n,q1,q2,q3,q4,q5,q6,q7⟩:=aFQ hfr p1 e1;obtain⟨ns2,r1,r2,r3⟩:=aCv e2;have hps:jD t.call=[t.call.path,t.call.to]:=by unfold jD;rw[zAl k5]
   rw[hmv n3 e4 (by rw[hwd,e5])]
   refine .moved _ rfl n q7 ?_ (.inr ?_) ht (hnt ht _ (by simp[locksT])) ?_ (oV h n3 e4 rfl)
   ·rw[q6];exact hnt ht _ (yA (by rw[hps];simp) (aFP q1 q2 q3))
   ·exact hnt ht _ (yA (p:=t.call.to) (by rw[hps];simp) (aFP r1 r2 r3))
   ·unfold refused;rw[hfr.chk,e4];have hup:kM m.log.nodes dir=cN m.log.nodes dir:=zAl hfr.chk;rw[hup]at n2;have:lL m.log.nodes (oU m id dir s)=false:=by
     unfold lL;show(decide (dir=id)||_)=false
     rw[zAg n1,zCG];rw[zCa];intro x hx e;have e2:x=id:=zAQ e;rw[e2]at hx;have hx:id∈cN m.log.nodes dir:=hx;have:(cN m.log.nodes dir).contains id=true:=by simpa using hx
     rw[this]at n2;cases n2
    rw[this];rfl
  by_cases k6:t.call.kind=6
  ·have ht:turnsK t.call=true:=by unfold turnsK;rw[k6];rfl
   have hwd:jE t.call ⟨m,an0,[]⟩=vU t.call ⟨m,an0,[]⟩:=by unfold jE;rw[zAe (by omega),zAe (by omega),zAe (by omega),zAe (by omega),zAl k6]
   rw[hwd]at hw;rcases lV (c:=t.call) (d:=⟨m,an0,[]⟩) h with⟨e,he,e1⟩|⟨id,s,p1,e1, -,n3,e4,e5⟩
   ·rw[e1]at hw;exact absurd hw he
   simp only at e1 n3 e4 e5;obtain⟨ns,s',d,n,q1,q2,q3,q4,q5,q6,q7⟩:=aFQ hfr p1 e1;have hps:jD t.call=[t.call.path]:=by unfold jD;rw[zAe (by omega),zAl k6]
   rw[hmv n3 e4 (by rw[hwd,e5])]
   refine .moved _ rfl n q7 ?_ (.inl rfl) ht (hnt ht _ (by simp[locksT])) ?_ (oV h n3 e4 rfl)
   ·rw[q6];exact hnt ht _ (yA (by rw[hps];simp) (aFP q1 q2 q3))
   ·have hid:=uM e4;unfold refused;rw[hfr.chk,e4];have h2:cN m.log.nodes 2=[]:=by
     unfold cN;cases m.log.nodes.length with
     |zero=>rfl
     |succ k=>
      have:fnd m.log.nodes 2=none:=by
       unfold fnd;rw[zBi];intro x hx e;have e2:x.id=2:=by simpa using e
       have:=uO hfr hx;rw[e2]at this;cases this
      unfold dI;rw[this]
    have:lL m.log.nodes (oU m id 2 s)=false:=by
     unfold lL;show(decide ((2:Int)=id)||(cN m.log.nodes 2).any _)=false
     rw[h2,zAg (fun e=>by have:=hid.2.2.2.2.2.2.1;rw[show(oU m id 2 s).node=id from rfl,←e]at this;cases this)]
     rfl
    rw[this];rfl
  ·have hs:=aBo h t.call;generalize doM m t.call=r at hs he ⊢;cases hs with
   |err e he'=>exact .none rfl
   |put o hk'=>omega
   |keep m' a ha h1=>rw[h1];exact .none rfl
   |merge l hk'=>exact absurd hk' hk
 ·have hs:=aBo h t.call;generalize doM m t.call=r at hs he hk ⊢;cases hs with
  |err e he'=>exact .none rfl
  |put o hk'=>exact absurd rfl he
  |keep m' a ha=>exact absurd ha he
  |merge l hk'=>exact absurd rfl he
end
section
theorem aUs{l l':List Nd}{t:Thr}{ops:List Opn}(hf:Frs l)(hf':Frs l')(h:ActS l t l' ops){d:Int}(h1:d∉t.has)(h2:d≠2)(s:Txt):childI l' d s=childI l d s:=by
 cases h with
 |none h=>rw[h]
 |born o n hk hp hn ht hl hi hq hne h0 hc hd=>
  rw[hl]at hf' ⊢;unfold childI;rw[xY hf'.chk hf.chk (fun e=>h1 (by rw[←e.1,hq];exact hp))]
 |wrote o hk ho n hn hp ht hl=>
  rw[hl];exact zN hf hk ho ⟨n,(uN hn).1,(uN hn).2⟩ d s
 |moved o hk n hn hp hq ht h1' hr hl=>
  rw[hl];unfold childI;rw[aFO hf hr hk (fun e=>by rcases hq with q|q;exact h2 (e.trans q);exact h1 (e▸q)) (fun m hm e=>by rw[hn]at hm;cases hm;exact h1 (e▸hp))]
section
variable {l:List Nd} {n:Nd} (hf:Frs l) (hf':Frs (l++[n])) (hn:∀x∈l,x.id<n.id∧x.parent≠n.id) (hne:n.parent≠n.id) (h0:childN l n.parent n.name=none) (hc:childN (l++[n]) n.parent n.name=some n)
include hf hf' h0 in
theorem aIF{names:List Txt}{x d:Int}(h:dH l x names=(d,0)):dH (l++[n]) x names=(d,0):=
 aIC (fun y s m hm=>⟨m,by rw[xY hf'.chk hf.chk (fun e=>by rw[←e.1,←e.2,h0]at hm;cases hm)];exact hm,rfl⟩) names x d h
include hf hf' hn hne hc in
theorem aCw:∀(names:List Txt) {x d:Int},x≠n.id→dH (l++[n]) x names=(d,0)→dH l x names=(d,0)∨d=n.id
 |[],x,d,_,h=>.inl h
 |s::names,x,d,hx,h=>by
  rw[iH]at h ⊢;split at h
  ·rename_i hdx;rw[zAl hdx];by_cases hcc:n.parent=x∧n.name=s
   ·cases hq:childI (l++[n]) x s with
    |none=>rw[hq]at h;cases h
    |some i=>
     rw[hq]at h;simp only at h;have hi:i=n.id:=by unfold childI at hq;rw[←hcc.1,←hcc.2,hc]at hq;exact(zBa hq).symm
     subst hi;right;cases names with
     |nil=>exact(Prod.mk.inj h).1.symm
     |cons s2 ns=>
      rw[iH]at h;split at h
      ·cases hq2:childI (l++[n]) n.id s2 with
       |none=>rw[hq2]at h;cases h
       |some j=>
        unfold childI at hq2;obtain⟨z,hz, -⟩:=zAM.1 hq2;obtain⟨-,z1,z2⟩:=oR hz;rcases zAy.1 z1 with z1|z1
        ·exact absurd z2 (hn _ z1).2
        ·rw[zAq]at z1;subst z1;exact absurd z2 hne
      ·cases h
   ·have e:childI (l++[n]) x s=childI l x s:=by unfold childI;rw[xY hf'.chk hf.chk hcc]
    rw[e]at h;cases hq:childI l x s with
    |none=>rw[hq]at h;cases h
    |some i=>
     rw[hq]at h;simp only at h ⊢;refine aCw names ?_ h;unfold childI at hq;obtain⟨m,hm,rfl⟩:=zAM.1 hq;have:=(hn m (oR hm).2.1).1;omega
  ·cases h
include hf hn in
theorem aLj{x:Int}(hx:x≠n.id):par (l++[n]) x=par l x:=by
 unfold par;have:fnd (l++[n]) x=fnd l x:=by
  unfold fnd;rw[List.find?_append];cases List.find? (fun n=>decide (n.id=x)) l with
  |some m=>rfl
  |none=>(simp;exact fun e=>hx e.symm)
 rw[this]
include hf hf' hn in
theorem uP{x:Int}(hx:x≠n.id):kM (l++[n]) x=kM l x∧n.id∉kM l x:=by
 have hcl:∀y,y≠n.id→∀p,par l y=some p→p≠n.id:=fun y _ p hp e=>by
  unfold par at hp;split at hp
  ·cases hp
  ·rename_i m hm;split at hp
   ·cases hp
   ·cases hp;exact(hn m (uN hm).1).2 e
 unfold kM;rw[zAl hf.chk,zAl hf'.chk];refine⟨?_,fun h=>aCo (C:=fun y=>y≠n.id) hcl _ x hx _ h rfl⟩
 have h1:=aBg (l:=l) (a:=l++[n]) (C:=fun y=>y≠n.id) hcl (fun y hy=>aLj hf hn hy) (l++[n]).length x hx
 have h2:=kN hf.wf (k:=(l++[n]).length) (by simp) x
 unfold cN at h2 ⊢;rw[h1,h2]
include hf hf' hn hne h0 hc in
theorem aLk(p:Txt):(∀d,dG l p=some d→dG (l++[n]) p=some d)∧(∀d,dG (l++[n]) p=some d→dG l p=some d∨d=n.id):=by
 unfold dG;cases bM p with
 |none=>exact⟨fun _ h=>(by cases h),fun _ h=>(by cases h)⟩
 |some ns=>
  cases ns with
  |nil=>exact⟨fun _ h=>(by cases h),fun _ h=>(by cases h)⟩
  |cons x xs=>
   simp only;refine⟨fun d h=>?_,fun d h=>?_⟩
   ·split at h
    ·rename_i hh;cases h;have e:findN l (x::xs).dropLast=((findN l (x::xs).dropLast).1,0):=Prod.ext rfl hh.1;have:=aIF hf hf' h0 e;unfold findN at this ⊢;rw[this,zAl ⟨rfl,hh.2⟩]
    ·cases h
   ·split at h
    ·rename_i hh;cases h;have e:dH (l++[n]) 0 (x::xs).dropLast=((findN (l++[n]) (x::xs).dropLast).1,0):=Prod.ext rfl hh.1;have h00:(0:Int)≠n.id:=fun e=>by
      have:=uO hf' (n:=n) (by simp)
      rw[←e]at this;cases this
     rcases aCw hf hf' hn hne hc _ h00 e with q|q
     ·left;unfold findN at q hh ⊢;rw[q,zAl ⟨rfl,by simpa using hh.2⟩]
     ·exact .inr q
    ·cases h
include hf hf' hn hne h0 hc in
theorem aFR(c:Cal):locksT l c<+:locksT (l++[n]) c:=by
 have hd:=fun p=>aLk hf hf' hn hne h0 hc p
 have hid:∀p d,dG l p=some d→d<n.id:=fun p d h=>by
  unfold dG at h;split at h
  ·split at h
   ·rename_i x xs _ hh;cases h;rcases aBm (l:=l) (names:=(x::xs).dropLast) (d:=(findN l (x::xs).dropLast).1) (Prod.ext rfl hh.1)with⟨-,e⟩|⟨m,hm,e⟩
    ·rw[e];have:=uO hf' (n:=n) (by simp)
     have:=(xL.1 this).1;omega
    ·rw[←e];exact(hn m hm).1
   ·cases h
  ·cases h
 have hab:∀{a b:Int},a≠n.id→fX (l++[n]) b a=fX l b a:=fun ha=>by
  unfold fX;rw[(uP hf hf' hn ha).1]
 have hnot:∀{a:Int},a≠n.id→fX (l++[n]) n.id a=false:=fun ha=>by
  unfold fX;rw[(uP hf hf' hn ha).1];have:=(uP hf hf' hn ha).2;simpa using this
 unfold locksT uH jD;refine(List.prefix_cons_inj 1).2 ?_;have one:∀p,gZ l ([p].foldl (fun ds p=>mL ds (dG l p)) [])<+:gZ (l++[n]) ([p].foldl (fun ds p=>mL ds (dG (l++[n]) p)) []):=fun p=>by
  simp only[zBy,zCt];cases h:dG l p with
  |none=>exact List.nil_prefix
  |some d=>rw[(hd p).1 d h];exact zBD _
 split
 ·simp only[zBy,zCt];cases ha:dG l c.path with
  |some a=>
   rw[(hd _).1 a ha];cases hb:dG l c.to with
   |some b=>
    rw[(hd _).1 b hb];have h1:=hid _ _ ha;have h2:=hid _ _ hb;have h3:=hab (a:=a) (b:=b) (by omega)
    have h4:=hab (a:=b) (b:=a) (by omega)
    simp only[mL,List.contains_nil,zAz,zA3,zAW];split
    ·exact zBD _
    ·simp only[zA0,zAW,gZ,h3,h4];exact zBD _
   |none=>
    cases hb':dG (l++[n]) c.to with
    |none=>exact zBD _
    |some b'=>
     rcases(hd _).2 b' hb' with q|q
     ·rw[hb]at q;cases q
     ·have h1:=hid _ _ ha;subst q;have h3:=hnot (a:=a) (by omega)
      have h4:¬n.id<a:=by omega
      have h5:¬n.id=a:=by omega
      simp[mL,gZ,h3,h4,h5]
  |none=>
   cases hb:dG l c.to with
   |none=>simp[mL,gZ]
   |some b=>
    rw[(hd _).1 b hb];have h1:=hid _ _ hb;cases ha':dG (l++[n]) c.path with
    |none=>exact zBD _
    |some a'=>
     rcases(hd _).2 a' ha' with q|q
     ·rw[ha]at q;cases q
     ·subst q;have h3:=hnot (a:=b) (by omega)
      have h5:¬b=n.id:=by omega
      simp[mL,gZ,h3,h1,h5]
 ·split
  ·exact one _
  ·exact zBD _
end
theorem aEu{l:List Nd}(hf:Frs l){o:Opn}(hk:o.kind=2)(ho:opOk o=true)(hh:∃n∈l,n.id=o.node)(c:Cal):locksT (doL l o) c=locksT l c:=by
 have hch:=zN hf hk ho hh;obtain⟨w1,w2⟩:=zM hf hk ho hh;have hp:∀(ns:List Txt) (x:Int),dH (doL l o) x ns=dH l x ns:=by
  intro ns;induction ns with
  |nil=>intro x;rfl
  |cons s ns ih=>
   intro x;rw[iH,iH,hch];cases childI l x s with
   |none=>rfl
   |some i=>simp only[ih]
 have hd:∀p,dG (doL l o) p=dG l p:=fun p=>by
  unfold dG findN;simp only[hp]
 have hab:∀a b,fX (doL l o) a b=fX l a b:=fun a b=>by
  unfold fX kM;rw[aAt,zAl hf.chk,zAl hf.chk];have e:(doL l o).length=l.length:=by rw[w1,zAn]
  have:=aBg (l:=l) (a:=doL l o) (C:=fun _=>True) (fun _ _ _ _=>trivial) (fun y _=>aCp hf.chk w2 hk y) l.length b trivial
  unfold cN;rw[e,this]
 have hO:∀ds,gZ (doL l o) ds=gZ l ds:=fun ds=>by
  unfold gZ;split
  ·rw[hab,hab]
  ·rfl
 unfold locksT uH;rw[hO];simp only[hd]
theorem aUt{l l':List Nd}{t:Thr}{ops:List Opn}(hf:Frs l)(hf':Frs l')(h:ActS l t l' ops)(ht:turnsK t.call=false)(c:Cal):locksT l c<+:locksT l' c:=by
 cases h with
 |none h=>rw[h];exact zBD _
 |born o n hk hp hn ht hl hi hq hne h0 hc hd=>
  rw[hl]at hf' ⊢;exact aFR hf hf' (fun x hx=>by rw[hi];exact hn x hx) (by rw[hi,hq];exact hne) (by rw[hq];exact h0) hc c
 |wrote o hk ho n hn hp ht hl=>
  rw[hl,aEu hf hk ho ⟨n,(uN hn).1,(uN hn).2⟩];exact zBD _
 |moved o hk n hn hp hq ht'=>rw[ht]at ht';cases ht'
end
section
structure TW (l:List Nd) (t:Thr):Prop where
 ended:t.ended=true→t.done=true∧t.has=[]
 walk:t.done=false→walksK t.call=true→t.has.length≤2∧0≤t.at_∧t.at_≤16∧(t.has=[]→t.at_=0)∧∀k∈t.has,k≠1∧k≠2∧0≤k
 turn:t.done=false→turnsK t.call=true→t.has<+:locksT l t.call
 plain:t.done=false→walksK t.call=false→turnsK t.call=false→t.has=[]
theorem rW{c:Cal}(h:walksK c=true):turnsK c=false:=by
 cases ht:turnsK c with
 |false=>rfl
 |true=>rw[aEi ht]at h;cases h
theorem jF(t:Thr)(k:Int):(afterT t ⟨1,k⟩).has=t.has++[k]∧(afterT t ⟨1,k⟩).call=t.call∧(afterT t ⟨1,k⟩).done=t.done∧(afterT t ⟨1,k⟩).ended=t.ended∧(afterT t ⟨1,k⟩).upto=t.upto∧(afterT t ⟨1,k⟩).ans=t.ans∧(afterT t ⟨1,k⟩).begin_=t.begin_∧(afterT t ⟨1,k⟩).mark=t.mark∧(afterT t ⟨1,k⟩).end_=t.end_∧
  (afterT t ⟨1,k⟩).at_=if t.has.length=1∧walksK t.call=true then IntKind.i64.wrap (t.at_+1)else t.at_:=by
 unfold afterT;exact⟨rfl,rfl,rfl,rfl,rfl,rfl,rfl,rfl,rfl,rfl⟩
theorem kZ(t:Thr)(k:Int):(afterT t ⟨2,k⟩).has=t.has.filter (fun x=> !decide (x=k))∧(afterT t ⟨2,k⟩).call=t.call∧(afterT t ⟨2,k⟩).done=t.done∧(afterT t ⟨2,k⟩).ended=t.ended∧(afterT t ⟨2,k⟩).upto=t.upto∧(afterT t ⟨2,k⟩).ans=t.ans∧(afterT t ⟨2,k⟩).begin_=t.begin_∧(afterT t ⟨2,k⟩).mark=t.mark∧(afterT t ⟨2,k⟩).end_=t.end_∧
  (afterT t ⟨2,k⟩).at_=if t.has.filter (fun x=> !decide (x=k))=[]∧t.done=false∧walksK t.call=true then 0 else t.at_:=by
 unfold afterT;exact⟨rfl,rfl,rfl,rfl,rfl,rfl,rfl,rfl,rfl,rfl⟩
theorem aCx{has ks:List Int}{k:Int}(hn:ks.Nodup)(hp:has<+:ks)(h:turnN has ks=⟨1,k⟩):k∉has∧has++[k]<+:ks:=by
 obtain⟨rest,rfl⟩:=hp;rw[aUq _ _ (fun y h=>h)]at h
 cases rest with
 |nil=>cases h
 |cons a r=>
  have ha:a∉has:=fun hx=>(List.nodup_append.1 hn).2.2 a hx a (by simp) rfl
  rw[aBc (by simpa using ha)]at h
  cases h;exact⟨ha,⟨r,by simp⟩⟩
theorem lZ{has:List Int}:∀(ks:List Int),(turnN has ks).kind=1∨turnN has ks=⟨3,0⟩
 |[]=>.inr rfl
 |a::ks=>by
  unfold turnN;split
  ·exact lZ ks
  ·exact .inl rfl
inductive WkS (l:List Nd) (names:List Txt) (t:Thr):Trn→Prop
 |root (h:t.has=[]):WkS l names t ⟨1,0⟩
 |pass (a b:Int) (r:List Int) (h:t.has=a::b::r):WkS l names t ⟨2,a⟩
 |down (here i:Int) (s:Txt) (h:t.has=[here]) (h0:0≤t.at_) (hs:names[t.at_.toNat]?=some s) (hc:childI l here s=some i) (hd:dirI i=true):WkS l names t ⟨1,i⟩
 |anew (here:Int) (h:t.has=[here]) (hf:(findN l names).2=0) (hd:dirI (findN l names).1=true) (hn:(findN l names).1≠here) (hc:∀s i,0≤t.at_→names[t.at_.toNat]?=some s→childI l here s=some i→dirI i=false):WkS l names t ⟨2,here⟩
 |here (here:Int) (h:t.has=[here]):WkS l names t ⟨3,0⟩
theorem aFS(l:List Nd)(names:List Txt)(t:Thr):WkS l names t (vT l names t):=by
 unfold vT;split
 ·rename_i h;exact .root h
 ·rename_i h;rw[h];exact .pass _ _ _ h
 ·rename_i here h;have hend:∀hc:(∀s i,0≤t.at_→names[t.at_.toNat]?=some s→childI l here s=some i→dirI i=false),WkS l names t (if(findN l names).2=0∧dirI (findN l names).1=true∧(findN l names).1≠here then⟨2,here⟩else⟨3,0⟩):=fun hc=>by
   split
   ·rename_i h1;exact .anew here h h1.1 h1.2.1 h1.2.2 hc
   ·exact .here here h
  split
  ·rename_i n hb;obtain⟨s,hs,hc⟩:=zBm.1 hb;split at hs
   ·rename_i h0;split
    ·rename_i hd;exact .down here n.id s h h0 hs (by unfold childI;rw[hc];rfl) hd
    ·rename_i hd;refine hend fun s' i _ e1 e2=>?_
     rw[hs]at e1;cases e1;unfold childI at e2;rw[hc]at e2;cases e2;simpa using hd
   ·cases hs
  ·rename_i hb;refine hend fun s i h0 hs hc=>?_
   rw[zAl h0,hs]at hb;simp only[zA6]at hb;unfold childI at hc;rw[hb]at hc;cases hc
inductive NxS (l:List Nd) (t:Thr):Trn→Prop
 |none (h:t.ended=true):NxS l t ⟨0,0⟩
 |back (k:Int) (r:List Int) (h:t.done=true) (he:t.ended=false) (hh:t.has=k::r):NxS l t ⟨2,k⟩
 |wait (h:t.done=true) (he:t.ended=false) (hh:t.has=[]) (hk:t.call.kind=12):NxS l t ⟨4,0⟩
 |leave (h:t.done=true) (he:t.ended=false) (hh:t.has=[]) (hk:t.call.kind≠12):NxS l t ⟨5,0⟩
 |turn (h:t.done=false) (he:t.ended=false) (ht:turnsK t.call=true):NxS l t (turnN t.has (locksT l t.call))
 |walk (u:Trn) (h:t.done=false) (he:t.ended=false) (ht:turnsK t.call=false) (hw:walksK t.call=true) (hs:WkS l (wnames t.call) t u):NxS l t u
 |plain (h:t.done=false) (he:t.ended=false) (ht:turnsK t.call=false) (hw:walksK t.call=false):NxS l t ⟨3,0⟩
theorem hS(l:List Nd)(t:Thr):NxS l t (nextT l t):=by
 unfold nextT;split
 ·rename_i h;exact .none h
 rename_i he;split
 ·rename_i h;split
  ·rename_i hh;exact .back _ _ h (by simpa using he) hh
  ·rename_i hh;split
   ·rename_i hk;exact .wait h (by simpa using he) hh hk
   ·rename_i hk;exact .leave h (by simpa using he) hh hk
 rename_i h;split
 ·rename_i ht;exact .turn (by simpa using h) (by simpa using he) ht
 rename_i ht;split
 ·rename_i hw;exact .walk _ (by simpa using h) (by simpa using he) (by simpa using ht) hw (aFS l _ t)
 ·rename_i hw;exact .plain (by simpa using h) (by simpa using he) (by simpa using ht) (by simpa using hw)
theorem yB(l:List Nd){t:Thr}(he:t.ended=false):(nextT l t).kind=1∨(nextT l t).kind=2∨nextT l t=⟨3,0⟩∨(nextT l t).kind=4∨(nextT l t).kind=5:=by
 have hx:=hS l t;generalize nextT l t=u at hx ⊢;cases hx with
 |none h=>rw[he]at h;cases h
 |back=>exact .inr (.inl rfl)
 |wait=>exact .inr (.inr (.inr (.inl rfl)))
 |leave=>exact .inr (.inr (.inr (.inr rfl)))
 |plain=>exact .inr (.inr (.inl rfl))
 |turn=>
  rcases lZ (has:=t.has) (locksT l t.call)with q|q
  ·exact .inl q
  ·exact .inr (.inr (.inl q))
 |walk _ _ _ _ _ hs=>
  cases hs with
  |root=>exact .inl rfl
  |down=>exact .inl rfl
  |pass=>exact .inr (.inl rfl)
  |anew=>exact .inr (.inl rfl)
  |here=>exact .inr (.inr (.inl rfl))
theorem aIG{l:List Nd}(hf:Frs l){d i:Int}{s:Txt}(h:childI l d s=some i):∃n∈l,n.id=i∧n.parent=d∧128≤i:=by
 unfold childI at h;obtain⟨n,hn,rfl⟩:=zAM.1 h;obtain⟨-,h1,h2⟩:=oR hn;exact⟨n,h1,rfl,h2,(xL.1 (uO hf h1)).1⟩
theorem tJ{l:List Nd}(hf:Frs l){t:Thr}(hw:TW l t){k:Int}(h:nextT l t=⟨1,k⟩):t.ended=false∧t.done=false∧k∉t.has∧TW l (afterT t ⟨1,k⟩):=by
 have hn:=hS l t;rw[h]at hn;obtain⟨q1,q2,q3,q4, -, -, -, -, -,q5⟩:=jF t k;generalize afterT t ⟨1,k⟩=t' at *;generalize hu:(⟨1,k⟩:Trn)=u at hn;cases hn with
 |none=>cases hu
 |back=>cases hu
 |wait=>cases hu
 |leave=>cases hu
 |plain=>cases hu
 |turn hd he ht=>
  have hp:=hw.turn hd ht;obtain⟨h1,h2⟩:=aCx (aC4 l t.call) hp hu.symm;exact⟨he,hd,h1,⟨fun h=>(by rw[q4,he]at h;cases h),fun _ h=>(by rw[q2,aEi ht]at h;cases h),fun _ _=>by rw[q1,q2];exact h2,fun _ _ h=>(by rw[q2,ht]at h;cases h)⟩⟩
 |walk _ hd he ht hwk hs=>
  obtain⟨a1,a2,a3,a4,a5⟩:=hw.walk hd hwk;have key:∀i,k=i→k∉t.has→(k≠1∧k≠2∧0≤k)→(t'.has.length≤2∧0≤t'.at_∧t'.at_≤16)→TW l t':=fun i _ h1 h2 h3=>⟨fun h=>(by rw[q4,he]at h;cases h),fun _ _=>⟨h3.1,h3.2.1,h3.2.2,fun h=>by rw[q1]at h;simp at h,fun x hx=>by
   rw[q1,zAy,zAq]at hx;rcases hx with hx|rfl
   ·exact a5 x hx
   ·exact h2⟩,fun _ h=>(by rw[q2,ht]at h;cases h),fun _ h=>(by rw[q2,hwk]at h;cases h)⟩
  cases hs with
  |root hh=>
   cases hu;refine⟨he,hd,by rw[hh];simp,key 0 rfl (by rw[hh];simp) (by decide) ?_⟩
   rw[q1,q5,hh,zAe (by simp)]
   exact⟨by simp,a2,a3⟩
  |down here i s hh h0 hs hc hdi=>
   cases hu;obtain⟨n,hn,e1,e2,e3⟩:=aIG hf hc;have hne:k≠here:=fun e=>by
    obtain⟨m,hm,e4⟩:=zAM.1 hc;have hdh:dirI here=true:=by rw[←e];exact hdi
    have:=(aVL hf hdh hm).1;omega
   have hni:k∉t.has:=by rw[hh];simpa using hne
   have hl:t.at_.toNat<(wnames t.call).length:=(eT.1 hs).1;have h16:=pZ t.call;refine⟨he,hd,hni,key k rfl hni (by omega) ?_⟩
   rw[q1,q5,hh,zAl ⟨rfl,hwk⟩,wI];exact⟨by simp,by omega,by omega⟩
  |pass=>cases hu
  |anew=>cases hu
  |here=>cases hu
theorem aLl{l:List Int}(hn:l.Nodup){k:Int}:(l.filter fun x=> !decide (x=k)).length≤l.length∧∀x∈l.filter (fun x=> !decide (x=k)),x∈l:=⟨zA2 ..,fun x hx=>(zBb.1 hx).1⟩
theorem aCy{l:List Nd}{t:Thr}(hw:TW l t)(hn:t.has.Nodup){k:Int}(h:nextT l t=⟨2,k⟩):t.ended=false∧k∈t.has∧TW l (afterT t ⟨2,k⟩):=by
 have hx:=hS l t;rw[h]at hx;obtain⟨q1,q2,q3,q4, -, -, -, -, -,q5⟩:=kZ t k;obtain⟨f1,f2⟩:=aLl hn (k:=k);generalize afterT t ⟨2,k⟩=t' at *;generalize hu:(⟨2,k⟩:Trn)=u at hx;cases hx with
 |none=>cases hu
 |wait=>cases hu
 |leave=>cases hu
 |plain=>cases hu
 |back k' r hd he hh=>
  cases hu;exact⟨he,by rw[hh];simp,⟨fun h=>(by rw[q4,he]at h;cases h),fun h=>(by rw[q3,hd]at h;cases h),fun h=>(by rw[q3,hd]at h;cases h),fun h=>(by rw[q3,hd]at h;cases h)⟩⟩
 |turn hd he ht=>
  rcases lZ (has:=t.has) (locksT l t.call)with q|q
  ·rw[←hu]at q;cases q
  ·rw[←hu]at q;cases q
 |walk _ hd he ht hwk hs=>
  obtain⟨a1,a2,a3,a4,a5⟩:=hw.walk hd hwk;have fin:k∈t.has→t.ended=false∧k∈t.has∧TW l t':=fun hk=>by
   refine⟨he,hk,⟨fun h=>(by rw[q4,he]at h;cases h),fun _ _=>?_,fun _ h=>(by rw[q2,ht]at h;cases h),fun _ h=>(by rw[q2,hwk]at h;cases h)⟩⟩
   rw[q1,q5];refine⟨by omega,?_,?_,fun e=>?_,fun x hx=>a5 x (f2 x hx)⟩
   ·split<;>omega
   ·split<;>omega
   ·rw[zAl ⟨e,hd,hwk⟩]
  cases hs with
  |root=>cases hu
  |down=>cases hu
  |here=>cases hu
  |pass a b r hh=>cases hu;exact fin (by rw[hh];simp)
  |anew here hh=>cases hu;exact fin (by rw[hh];simp)
theorem wF{l:List Nd}{t:Thr}(h:nextT l t=⟨3,0⟩):t.ended=false∧t.done=false:=by
 have hx:=hS l t;rw[h]at hx;generalize hu:(⟨3,0⟩:Trn)=u at hx;cases hx with
 |none=>cases hu
 |back=>cases hu
 |wait=>cases hu
 |leave=>cases hu
 |plain hd he=>exact⟨he,hd⟩
 |turn hd he=>exact⟨he,hd⟩
 |walk _ hd he=>exact⟨he,hd⟩
theorem aIH{l:List Nd}{t:Thr}{k:Int}(h:nextT l t=⟨4,k⟩):k=0∧t.ended=false∧t.done=true∧t.has=[]∧t.call.kind=12:=by
 have hx:=hS l t;rw[h]at hx;generalize hu:(⟨4,k⟩:Trn)=u at hx;cases hx with
 |none=>cases hu
 |back=>cases hu
 |leave=>cases hu
 |plain=>cases hu
 |wait hd he hh hk=>cases hu;exact⟨rfl,he,hd,hh,hk⟩
 |turn hd he ht=>
  rcases lZ (has:=t.has) (locksT l t.call)with q|q<;>(rw[←hu]at q;cases q)
 |walk _ hd he ht hwk hs=>cases hs<;>cases hu
theorem aBp{l:List Nd}{t:Thr}{k:Int}(h:nextT l t=⟨5,k⟩):k=0∧t.ended=false∧t.done=true∧t.has=[]∧t.call.kind≠12:=by
 have hx:=hS l t;rw[h]at hx;generalize hu:(⟨5,k⟩:Trn)=u at hx;cases hx with
 |none=>cases hu
 |back=>cases hu
 |wait=>cases hu
 |plain=>cases hu
 |leave hd he hh hk=>cases hu;exact⟨rfl,he,hd,hh,hk⟩
 |turn hd he ht=>
  rcases lZ (has:=t.has) (locksT l t.call)with q|q<;>(rw[←hu]at q;cases q)
 |walk _ hd he ht hwk hs=>cases hs<;>cases hu
theorem TW.did{l:List Nd}{t:Thr}(h:t.done=true)(he:t.ended=true→t.has=[]):TW l t:=
 ⟨fun e=>⟨h,he e⟩,fun e=>(by rw[h]at e;cases e),fun e=>(by rw[h]at e;cases e),fun e=>(by rw[h]at e;cases e)⟩
end
section
theorem aSx{m:Mdl}(h:MI m)(c:Cal):(doM m c).1.log.entries.length=m.log.entries.length+(doM m c).2.2.length:=by
 have hs:=aBo h c;generalize doM m c=r at hs ⊢;cases hs with
 |err e he=>rfl
 |put o hk hn ho ha=>
  have hl:=(nO hn).2.2.2.2.2;have hno:∀x∈opsG m.log,x.at_≠o.at_:=fun x hx e=>by have:=h.cnt x hx;rw[e,ha]at this;simp only at this;omega
  show(fJ m.log o).entries.length=_;rw[←rV,aDd h.good ho hno hl,aCU,rV];rfl
 |keep m' a ha h1 h2 h3 h4=>simp only[h1];rfl
 |merge l hk hr hc=>
  obtain⟨f1,f2⟩:=aLb m.log l [] .nil (fun o ho=>by cases ho)
  have hfo:∀o∈freshN m.log [] l,opOk o=true:=fun o hx=>by
   rcases tG _ _ _ o hx with h|h
   ·cases h
   ·exact wC hr o h
  have a2:=(aOH (freshN m.log [] l) h.good hfo f1 f2 hc).2;have:(mergeM m l).log.entries.length=m.log.entries.length+(freshN m.log [] l).length:=a2;simp only;split
  ·exact this
  ·exact this
end
end Go.Proofs.YtennnelammaapaaGreatDoor
