/- What the functions of this seat answer (5 of 38). No condition. -/
import Derived.Test.YtennnelammaapaaGreatDoorWorkAD
import Derived.Lib.Bytealg
import Derived.Laws.Externs
set_option linter.unusedSimpArgs false
set_option linter.unusedVariables false
set_option linter.unusedSectionVars false
set_option maxRecDepth 100000
set_option maxHeartbeats 16000000
namespace Go.Proofs.YtennnelammaapaaGreatDoor
section
def aQp(_:List (Nat×List Pl)):Prop:=True
theorem pT(l:List (Nat×List Pl)):aQp l:=trivial
theorem mxT{P:Program}{N id:Nat}{ops:Array Oper}{Q:bL}{α:AF}{H:AHeap}{l:List (Nat×List Pl)}{plan:List Pl}(_:aQp l)(h:bQ P ops.toList plan ops.toList 0 α H [] [] (fun α' H'=>Q .normal α' H'))(_:l.lookup id=some plan:=by rfl)(hm:P.follows .mixedOrders=true:=by exact pP)(hd:pJ N ops=true:=by rfl)
  (hB:Region.lexB .any ops=true:=by kernel_rfl) (hp:(oH ops ops.toList plan 0 [] []&&iZ ops (eF plan 0))=true:=by kernel_rfl):aw P N (.region id ops true) Q α H:=tS plan hm hd hB hp h
theorem gE{P:Program}{N:Nat}{x:Operand}{y z:Code}{b:Bool}{Q:bL}{α:AF}{H:AHeap}(k:aw P N y Q α H)(hx:ev α x=.bool b:=by exact rfl)(t:b=false→False:=by intro h;first|(simp at h;done)|(simp at h;omega)):aw P N (.cond x y z) Q α H:=eJ hx (fun _=>k) fun h=>(t h).elim
theorem gF{P:Program}{N:Nat}{x:Operand}{y z:Code}{b:Bool}{Q:bL}{α:AF}{H:AHeap}(k:aw P N z Q α H)(hx:ev α x=.bool b:=by exact rfl)(t:b=true→False:=by intro h;first|(simp at h;done)|(simp at h;omega)):aw P N (.cond x y z) Q α H:=eJ hx (fun h=>(t h).elim) fun _=>k
theorem hT{p q:Prop}(k:q)(t:q→p:=by first|exact fun k=>rC (.bool false) k|exact fun k=>mxT (by assumption) k|exact fun k=>dR rfl k|exact fun k=>mG pP rfl (by kernel_rfl) k|exact fun k=>aE rfl k|exact fun k=>cK (by assumption) cO k|exact fun k=>cP (by assumption) cO k|exact fun k=>cM (by assumption) cO k):p:=t k
theorem hU{p q:Prop}(k:q)(t:q→p:=by first|exact fun k=>gA k|exact fun k=>gE k|exact fun k=>gF k|fail):p:=t k
theorem hG{p q:Prop}(k:q)(t:q→p:=by intro k;(first|(refine hT ?_;simp only[go_sem])|refine hU ?_|fail);(repeat' first|(refine hT ?_;simp only[go_sem])|refine hU ?_|fail);exact k):p:=t k
structure Hid (q:Prop):Prop where
 get:q
theorem hH{p q:Prop}(k:q)(t:Hid q→p:=by intro k;(first|(refine hT ?_;simp only[go_sem,zA7,zCl, *])|refine hU ?_|fail);(repeat' first|(refine hT ?_;simp only[go_sem,zA7,zCl, *])|refine hU ?_|fail);exact k.get):p:=t ⟨k⟩
theorem hK{c p q:Prop}(e:c)(k:q)(t:c→Hid q→p:=by intro e;intro k;(first|(refine hT ?_;simp only[go_sem,zA7,zCl, *])|refine hU ?_|fail);(repeat' first|(refine hT ?_;simp only[go_sem,zA7,zCl, *])|refine hU ?_|fail);exact k.get):p:=t e ⟨k⟩
theorem hJ{a b:Prop}(h:a)(k:b):a∧b:=⟨h,k⟩
end
section
variable {P:Program}
def FnX(P:Program)(f:FuncId)(args:List AV)(H:AHeap)(x:AV):Prop:=AExtern P f args H (fun v H'=>v=x∧H'=H)
theorem aCb{f:FuncId}{args:List AV}{H:AHeap}{x:AV}{k:AV→AHeap→Prop}(h:FnX P f args H x)(hk:k x H):lN P (.func (.func f) [] []) args H k:=
 Or.inr (by
  simp only[zAW,zAd];exact h.mono fun y H' ⟨e1,e2⟩=>by subst e1;subst e2;exact hk)
theorem aCc{g:Bool}{f:FuncId}{args:List AV}{H:AHeap}{x:AV}{K:AV→Prop}(h:FnX P f args H x)(hk:K x):lM P g (.func (.func f) [] []) args H K:=
 ⟨x,fun _=>Or.inr (by
  simp only[zAW,zAd];exact h),hk⟩
theorem aGK{c:Ctx}{x y:AV}{vs:Array Value}(h:RepAll c [x,y] vs):∃u v,vs= #[u,v]∧Rep c x u∧Rep c y v:=by
 obtain⟨hl,hr⟩:=h;obtain⟨l⟩:=vs
 match l,hl,hr with
 |[u,v],_,hr=>exact⟨u,v,rfl,hr 0 _ _ rfl rfl,hr 1 _ _ rfl rfl⟩
theorem aCN(l:List UInt8)(c:UInt8):Lib.indexByte l c<(l.length:Int)∨l=[]:=by
 induction l with
 |nil=>exact .inr rfl
 |cons b l ih=>
  refine .inl ?_;rw[Lib.indexByte,zAc];split
  ·omega
  ·split
   ·omega
   ·rcases ih with h|h
    ·omega
    ·subst h;rename_i h1;exact absurd rfl h1
theorem aRX{f:FuncId}{fn:Func}(hf:P.funcs[f]?=some fn)(h1:(fn.name== "runtime.NumGoroutine")=false)(h2:fn.body.isNone=true)(h3:Extern.findNext fn=none)(h4:Extern.find fn=some Extern.BytealgCount.count)
  (s:List UInt8) (b:Int) (H:AHeap):FnX P f [.str s,.int .u8 b] H (.int .i64 (Lib.countByte s b.toNat.toUInt8)):=by
 intro c vs hst ha;obtain⟨u,v,rfl,hu,hv⟩:=aGK ha;cases hu with
 |str _ hs=>
  cases hv with
  |int _ _ hb=>
   refine⟨_,_,?_,.int .i64 (Lib.countByte s b.toNat.toUInt8:Nat) ?_,rfl,rfl⟩
   ·rw[run_callFunc_extern hf h1 h2 h3 h4,Lib.run_countString];rfl
   ·have:Lib.countByte s b.toNat.toUInt8≤s.length:=List.count_le_length;exact⟨by show(-9223372036854775808:Int)≤_;omega,by show _≤(9223372036854775807:Int);omega⟩
theorem aRY{f:FuncId}{fn:Func}(hf:P.funcs[f]?=some fn)(h1:(fn.name== "runtime.NumGoroutine")=false)(h2:fn.body.isNone=true)(h3:Extern.findNext fn=none)(h4:Extern.find fn=some Extern.BytealgIndexByte.indexByte)
  (s:List UInt8) (b:Int) (H:AHeap):FnX P f [.str s,.int .u8 b] H (.int .i64 (Lib.indexByte s b.toNat.toUInt8)):=by
 intro c vs hst ha;obtain⟨u,v,rfl,hu,hv⟩:=aGK ha;cases hu with
 |str _ hs=>
  cases hv with
  |int _ _ hb=>
   refine⟨_,_,?_,.int .i64 (Lib.indexByte s b.toNat.toUInt8) ?_,rfl,rfl⟩
   ·rw[run_callFunc_extern hf h1 h2 h3 h4,Lib.run_indexByteString];rfl
   ·have h5:=Lib.indexByte_ge s b.toNat.toUInt8;have h6:=aCN s b.toNat.toUInt8;refine⟨by show(-9223372036854775808:Int)≤_;omega,by show _≤(9223372036854775807:Int);rcases h6 with h|h;omega;subst h;show(-1:Int)≤_;omega⟩
end
section
variable {P:Program}
theorem St.putRep{c:Ctx}{H:AHeap}(hst:St c H){i v:Nat}{cs ds:List AV}(hh:hget H i=.cells v cs)(hr:BRep c i (.cells v ds)):St c (aB H i (.cells v ds)):=by
 have hi:=cV hh trivial;have hlt:=aV hh trivial;have hget:∀{j:Nat} {b:ABlk},(aB H i (.cells v ds))[j]?=some b→(j=i∧b=.cells v ds)∨(j≠i∧H[j]?=some b):=by
  intro j b hj;by_cases e:j=i
  ·grind [aB,zAU]
  ·rw[aB,zAA (fun q=>e q.symm)]at hj
   exact .inr ⟨e,hj⟩
 have hget':∀{j:Nat} {b:ABlk},(aB H i (.cells v ds))[j]?=some b→b.live→∃b':ABlk,H[j]?=some b'∧b'.live:=by
  intro j b hj hb;rcases hget hj with⟨rfl,rfl⟩|⟨_,h⟩
  ·exact⟨_,hi,trivial⟩
  ·exact⟨_,h,hb⟩
 refine⟨by simp[aB,hst.n],hst.lt,fun j k b b' hj hk hb hb' dj dk he=>?_,fun k hk=>?_,fun j b hj=>?_⟩
 ·obtain⟨b1,g1,g2⟩:=hget' hj hb;obtain⟨b2,g3,g4⟩:=hget' hk hb';exact hst.inj j k b1 b2 g1 g3 g2 g4 dj dk he
 ·obtain⟨h1,h2⟩:=hst.st k hk;refine⟨h1,fun j b hj hb dj=>?_⟩
  obtain⟨b1,g1,g2⟩:=hget' hj hb;exact h2 j b1 g1 g2 dj
 ·rcases hget hj with⟨rfl,rfl⟩|⟨_,h⟩
  ·exact hr
  ·exact hst.rep j b h
theorem BRep.mapC{c c':Ctx}{i v:Nat}{cs ds:List AV}(hr:BRep c i (.cells v cs))(h1:c'.ver i=c.ver i)(h2:c'.vd i=c.vd i)(h3:c'.blk i=c.blk i)(h4:c'.w=c.w)(hl:cs.length=ds.length)
  (hs:∀(i:Nat) (x y:AV),cs[i]?=some x→ds[i]?=some y→∀v,Rep c x v→Rep c' y v):BRep c' i (.cells v ds):=by
 cases hr with
 |cells _ _ vs e fr q1 q2 q3 q4 q5 q6=>
  refine .cells _ _ vs e fr (by rw[h1];exact q1) (by rw[h2];exact q2) (by rw[h3,h4];exact q3) (by omega) q5 fun m y u hy hu=>?_
  have hlt2:=(eT.1 hy).1;have hx:cs[m]?=some (cs[m]'(by omega)):=zAb (by omega)
  exact hs m _ y hx hy u (q6 m _ u hx hu)
 |void _ q1 q2=>
  have:ds=[]:=zAE (by simpa using hl.symm)
  subst this;exact .void _ (by rw[h1];exact q1) (by rw[h2];exact q2)
theorem St.simR{c:Ctx}{H:AHeap}(hst:St c H){i v:Nat}{cs ds:List AV}(hh:hget H i=.cells v cs)(hl:cs.length=ds.length)(hs:∀(i:Nat) (x y:AV),cs[i]?=some x→ds[i]?=some y→∀v,Rep c x v→Rep c y v):St c (aB H i (.cells v ds)):=
 hst.putRep hh ((hst.rep i _ (cV hh trivial)).mapC rfl rfl rfl rfl hl hs)
theorem aNS{N:Nat}{code:Code}{Q:bL}{α:AF}{H:AHeap}(i b p:Nat){v vb s lc:Nat}{cs bs:List AV}(es rest:List AV)(hne:b≠i)(hh:hget H i=.cells v cs)(hp:cs[p]?=some (.osl s b vb 0 es.length lc))(hb:hget H b=.cells vb bs)(hv:vb≠0)
  (hcs:bs=es.flatMap AV.cells++rest) (hs:∀e∈es,e.cells.length=s) (h:aw P N code Q α (aB (aB H b .gone) i (.cells v (cs.set p (.sl false es))))):aw P N code Q α H:=by
 intro r c a hr hst ha;have hx:=Ext.stop c b;have hne':¬i=b:=fun e=>hne e.symm
 refine wpIn_mono (h r (c.stop b) a hr ((hst.stop hb hv).putRep (aH hh hne .gone) ((hst.rep i _ (cV hh trivial)).mapC (by simp[Ctx.stop,hne']) (by simp[Ctx.stop,hne']) rfl rfl (by simp) fun k x y hx1 hy u hr=>?_)) ⟨ha.size,ha.defers.mono hx,fun t=>(ha.rep t).mono hx⟩)
  fun _ _ _ ⟨c',α',H',e1,e2,e3,e4,e5⟩=>⟨c',α',H',e1,e2,hx.trans e3,e4,e5⟩
 by_cases e:k=p
 ·subst e;rw[zAU (eT.1 hp).1]at hy;cases hy;rw[hp]at hx1;cases hx1;exact aDK hst hb rest hcs hs hr
 ·rw[zAA (fun q=>e q.symm)]at hy
  rw[hx1]at hy;cases hy;exact hr.mono hx
theorem BRep.pre{c:Ctx}{i v:Nat}{cs rest:List AV}(hr:BRep c i (.cells v (cs++rest))):BRep c i (.cells v cs):=by
 generalize hx:cs++rest=xs at hr;cases hr with
 |cells _ _ vs e fr q1 q2 q3 q4 q5 q6=>
  subst hx;refine .cells _ _ vs e fr q1 q2 q3 (by rw[zAa]at q4;omega) q5 fun m y u hy hu=>q6 m y u ?_ hu
  grind
 |void _ q1 q2=>
  have:cs=[]:=(List.append_eq_nil_iff.1 hx).1;subst this;exact .void _ q1 q2
theorem ACalls.trunc{f:FuncId}{args:List AV}{H:AHeap}{i v:Nat}{cs:List AV}{x:AV}(hi:i<H.length)(h:ACalls P f args H (fun r H'=>∃rest,r=x∧H'=aB H i (.cells v (cs++rest)))):ACalls P f args H (fun r H'=>r=x∧H'=aB H i (.cells v cs)):=by
 intro c vs hs ha;refine(h c vs hs ha).mono fun e w' ⟨c',y,val,H',e1,e2,e3,e4,e5,rest,e6,e7⟩=>⟨c',y,val,aB H' i (.cells v cs),e1,e2,?_,e4,e5,e6,by rw[e7,bE]⟩
 have hh:hget H' i=.cells v (cs++rest):=by rw[e7];exact aX hi _
 exact e3.putRep hh (e3.rep i _ (cV hh trivial)).pre
theorem dX{f:FuncId}{args:List AV}{H H1:AHeap}{v:AV}{K:AV→AHeap→Prop}(h:ACalls P f args H (fun x H'=>x=v∧H'=H1))(ok:dV P f=true)(hk:K v H1):aJS P true (.func (.func f) [] []) args H K:=
 ⟨v,H1,fun _=>Or.inl ⟨ok,by grind⟩,fun h=>by(cases h),hk⟩
def aFi(n:Nat)(G A H1:AHeap)(H:AHeap):Prop:=∀(k:Nat) (a b:ABlk),A[k]?=some a→H1[k]?=some b→(a=b∧(H[k]?=some b∨ClB n b))∨∃ver cs ds,a=.cells ver cs∧b=.cells ver ds∧cs.length=ds.length∧∀(m:Nat) (x y:AV),cs[m]?=some x→ds[m]?=some y→Frz n G x y
theorem St.dropF{c:Ctx}{n:Nat}{A L H1 H:AHeap}(hn:n=A.length)(hst:St c (A++L))(hl:H1.length=A.length)(hcl:∀(i:Nat) (b:ABlk),H[i]?=some b→ClB n b)(hf:aFi n (A++L) A H1 H):St (c.drop n) H1:=by
 have get:∀{i:Nat} {b:ABlk},H1[i]?=some b→∃a:ABlk,A[i]?=some a∧(A++L)[i]?=some a∧(b.live→a.live):=by
  intro i b hi;have h1:=(eT.1 hi).1;have ha:A[i]?=some (A[i]'(by omega)):=zAb (by omega)
  refine⟨_,ha,by grind,fun hb=>?_⟩
  rcases hf i _ b ha hi with⟨e, -⟩|⟨ver,cs,ds,e1, -⟩
  ·rw[e];exact hb
  ·rw[e1];trivial
 refine⟨by rw[hl];exact hn,fun i hi hd=>?_,fun i j b b' hi hj hb hb' di dj he=>?_,fun k hk=>?_,fun i b hi=>?_⟩
 ·have hi':i<n:=hi;exact hst.lt i (by rw[hst.n];simp;omega) hd
 ·obtain⟨a, -,a2,a3⟩:=get hi;obtain⟨a', -,a2',a3'⟩:=get hj;exact hst.inj i j a a' a2 a2' (a3 hb) (a3' hb') di dj he
 ·have hln:=hst.n;rw[zAa]at hln;rcases hk with hk|⟨i,h1,h2,h3,rfl⟩
  ·obtain⟨q1,q2⟩:=hst.st k hk;refine⟨q1,fun j b hj hb hd=>?_⟩
   obtain⟨a, -,a2,a3⟩:=get hj;exact q2 j a a2 (a3 hb) hd
  ·refine⟨hst.lt i h2 h3,fun j b hj hb hd e=>?_⟩
   obtain⟨a,a1,a2,a3⟩:=get hj;have hj':=(eT.1 a1).1;have hlt:i<(A++L).length:=by rw[zAa];omega
   have hi:(A++L)[i]?=some (A++L)[i]:=zAb hlt;by_cases hlive:((A++L)[i]).live
   ·have:=hst.inj j i a _ a2 hi (a3 hb) hlive hd h3 e;omega
   ·have hr:=hst.rep i _ hi;generalize(A++L)[i]=bi at hr hlive;cases hr with
    |gone hd'=>rw[h3]at hd';cases hd'
    |_=>exact hlive trivial
 ·obtain⟨a,a1,a2, -⟩:=get hi;have h1:=hst.rep i a a2;rcases hf i a b a1 hi with⟨e,hb⟩|⟨ver,cs,ds,e1,e2,e3,e4⟩
  ·subst e;have h2:ClB n a:=hb.elim (hcl i a) id;cases h1 with
   |cells ver cs vs e fr hv hd hh hl hf hr=>exact .cells ver cs vs e fr hv hd hh hl hf fun j x v hx hv'=>(hr j x v hx hv').drop (h2 x (zAp hx))
   |void ver hv hd=>exact .void ver hv hd
   |map es clock ents hv hd hh hl hr=>exact .map es clock ents hv hd hh hl fun j p e hp he=>let⟨g1,g2,g3⟩:=hr j p e hp he;let⟨q1,q2⟩:=h2 p (zAp hp);⟨g1.drop q1,g2.drop q2,g3⟩
   |miter m since seen stepped hv hd hm hmv hmd hh=>exact .miter m since seen stepped hv hd h2 hmv hmd hh
   |siter s pos hv hd hh hsl=>exact .siter s pos hv hd hh hsl
   |loop l α N st pe ps ars bd fn D ts hv hd hl hh hN hr=>exact .loop l α N st pe ps ars bd fn D ts hv hd hl hh hN fun t=>(hr t).drop (h2 t)
   |gone hd=>exact .gone hd
  ·subst e1;subst e2;cases h1 with
   |cells _ _ vs e fr hv hd hh hl hf hr=>
    refine .cells ver ds vs e fr hv hd hh (by omega) hf fun j y v hy hv'=>?_
    have hlt:=(eT.1 hy).1;have hx:cs[j]?=some (cs[j]'(by omega)):=zAb (by omega)
    exact(e4 j _ y hx hy).sound hst (hr j _ v hx hv')
   |void _ hv hd=>
    have:ds=[]:=zAE (by simpa using e3.symm)
    subst this;exact .void ver hv hd
theorem aFj{f:FuncId}{fn:Func}{code:Code}{args:List AV}{H:AHeap}{R:AV→AHeap→Prop}(hf:P.funcs[f]?=some fn)(hb:fn.body=some code)(hn:args.length≤fn.ntmps)
  (h:aw P fn.ntmps code (xD P fn.results.toList fun v H'=>∃A L H1 y,H'=A++L∧A.length=H.length∧H1.length=H.length∧aFi H.length H' A H1 H∧Frz H.length H' v y∧R y H1) (eU 0 args) H):ACalls P f args H R:=by
 intro c vs hs ha;refine(jP hf hb hn h c vs hs ha).mono fun e w' ⟨c',x,v,H',e1,e2,e3,e4,e5,A,L,H1,y,e6,e7,e8,e9,e10,e11⟩=>?_
 subst e6;refine⟨c'.drop c.n,y,v,H1,e1,e2,St.dropF (H:=H) (by rw[hs.n,e7]) e3 (by rw[e8,e7]) (fun i b hi=>hs.cl0 hi) (by rw[hs.n];exact e9),e4.drop,?_,e11⟩
 have:=e10.sound e3 e5;rwa[←hs.n]at this
theorem aF{P:Program}{f:FuncId}{fn:Func}{code:Code}{args:List AV}{H:AHeap}{R:AV→AHeap→Prop}(hf:P.funcs[f]?=some fn)
  (h:aw P fn.ntmps code (xD P fn.results.toList fun v H'=>∃A L H1 y,H'=A++L∧A.length=H.length∧H1.length=H.length∧aFi H.length H' A H1 H∧Frz H.length H' v y∧R y H1) (eU 0 args) H) (hb:fn.body=some code:=by rfl) (hn:args.length≤fn.ntmps:=by exact zBS rfl):ACalls P f args H R:=aFj hf hb hn h
theorem aJ5{c:Ctx}{H:AHeap}(hst:St c H)(s:Nat){v:Value}(h:Rep c.void (.sl true []) v):Rep c.void (.osl s H.length 1 0 0 0) v:=by
 cases h with
 |sl _ _ base len cap s' vs h1 h2 h3 h4 h5 h6 h7=>
  have hcap:=h3 rfl;simp at h1;subst h1;subst hcap;exact .osl _ _ _ _ _ _ _ (by simp[Ctx.void,hst.n]) (by simp[Ctx.void,hst.n]) rfl (by omega) (fun _ _=>⟨rfl,rfl,base,rfl⟩) (fun _ hd=>by simp[Ctx.void,hst.n]at hd)
theorem rF{N:Nat}{code:Code}{Q:bL}{α:AF}{H:AHeap}(i j s:Nat){v:Nat}{cs:List AV}(hh:hget H i=.cells v cs)(hj:cs[j]?=some (.sl true []))
  (h:aw P N code Q α (aB (H++[.cells 1 []]) i (.cells v (cs.set j (.osl s H.length 1 0 0 0))))):aw P N code Q α H:=by
 intro r c a hr hst ha;have hv:=Ext.void c;have hget:=aD hh trivial [.cells 1 []];refine wpIn_mono (h r c.void a hr (hst.void.simR hget (by simp) fun k x y hx hy v hr=>?_) ⟨ha.size,ha.defers.mono hv,fun u=>(ha.rep u).mono hv⟩) fun _ _ _ ⟨c',α',H',e1,e2,e3,e4,e5⟩=>⟨c',α',H',e1,e2,hv.trans e3,e4,e5⟩
 by_cases e:k=j
 ·subst e;rw[zAU (eT.1 hj).1]at hy;cases hy;rw[hj]at hx;cases hx;exact aJ5 hst s hr
 ·grind
end
section
variable {P:Program}
theorem aDP{c:Ctx}{H:AHeap}{t:TypeId}{i:Nat}(hst:St c H)(hh:hget H i=.cells 1 [])(hs:(gL P t).known=true):Runs P (Instr.alloc t true (.tuple #[])) c (.ref i 2 0) (aB H i (.cells 2 (gL P t).cells)):=by
 obtain⟨z,h1,h2⟩:=aDA (P:=P) hs c;obtain⟨q1,q2⟩:=h2.cells hs;have hv:=hst.ver_eq hh;have hsome:=cV hh trivial;have hi:i<c.n:=by rw[hst.n];exact aV hh trivial
 have hx:=hst.bump_ext hsome trivial (by omega) (c.w.alloc (.cells z.cells t)) c.w.heap.size (by simp) (.inl (zAf _)) (fun b hlt _=>dP hlt) rfl rfl rfl
 obtain⟨-,hs'⟩:=hst.bump (B':=.cells 2 (gL P t).cells) hsome trivial (by omega) (c.w.alloc (.cells z.cells t)) c.w.heap.size (by simp) (by simp) (.inl (zAf _)) (fun b hlt _=>dP hlt) rfl rfl rfl
  (.cells _ _ z.cells t (0,0) (by simp[Ctx.bump,hv]) (by simp[Ctx.bump]) (by grind [Ctx.bump,mE]) (by omega) (.inr (zAf _)) fun j y u p q=>(q2 j y u p q).mono hx)
 refine⟨c.bump i _ _,.pointer (some ⟨c.w.heap.size,0,none⟩),?_,hs',hx,.ref _ _ _ _ hi (by simp[Ctx.bump,hv]) rfl (fun _=>by simp[Ctx.bump])⟩
 simp[Instr.alloc,Sem.run_bind,h1,Instr.box,newVar,newRow,Ctx.bump]
theorem aAl{N:Nat}{ops:Array Oper}{dst:Option Tmp}{t ty:TypeId}{pos:String}{after:Array Edge}{α:AF}{H:AHeap}{i:Nat}(hh:hget H i=.cells 1 [])(hs:(gL P t).known=true):
  yv P N ops ⟨dst,.alloc t,ty,pos,after,none⟩ α (.ref i 2 0) H (aB H i (.cells 2 (gL P t).cells)):=
 YG.of_does rfl (bP fun c a hst _=>by
  obtain⟨c',v,h1,h2,h3,h4⟩:=aDP (P:=P) hst hh hs;exact⟨c',v,by simp only[execOp,Sem.run_bind,h1];rfl,h2,h3,h4⟩)
theorem aGL{N:Nat}{code:Code}{Q:bL}{α:AF}{H:AHeap}(h:aw P N code Q α (H++[.cells 1 []])):aw P N code Q α H:=by
 intro r c a hr hst ha;have hv:=Ext.void c;exact wpIn_mono (h r c.void a hr hst.void ⟨ha.size,ha.defers.mono hv,fun u=>(ha.rep u).mono hv⟩) fun _ _ _ ⟨c',α',H',e1,e2,e3,e4,e5⟩=>⟨c',α',H',e1,e2,hv.trans e3,e4,e5⟩
def aAY:List Oper→List Pl→Bool
 |[],[]=>true
 |o::os,.free::ps=>oG o.op&&aAY os ps
 |_::os,.eff []::ps=>aAY os ps
 |_,_=>false
def aCd(ops:Array Oper)(effs:List Nat):List Oper→List Pl→Nat→Bool
 |[],[],_=>true
 |o::os,.free::ps,k=>oG o.op&&aCd ops effs os ps (k+1)
 |_::os,.pure w::ps,k=>(w==3)&&iZ ops (k::effs)&&aCd ops effs os ps (k+1)
 |_,_,_=>false
def lst:Nat→Nat→Array Bool→Array Bool
 |0,_,l=>l
 |j+1,k,l=>lst j (k+1) (l.setIfInBounds k true)
section
variable {N:Nat} {ops:Array Oper} {eff:Nat→Bool} {K:AF→AHeap→Prop}
theorem aCO:∀(os:List Oper) (pl:List Pl) (k:Nat) (α:AF) (H:AHeap) (hist':List AHeap) (sp:fT) (hist:xF) (tp:fT),aAY os pl=true→(∀i,k≤i→(eff i=true↔i∈eF pl k))→
  (∀p∈tp,(∀h,p.2 h)∨∀i∈eF pl k,Bef ops p.1 i)→bQ P ops.toList pl os k α H hist' sp K→aM P N ops eff K os k α H hist tp
 |[],[],_,_,_,_,_,_,_,_,_,_,h=>h
 |o::os,.free::pl,k,α,H,hist',sp,hist,tp,hp,he,hpo,h=>by
  rw[aAY,zAu]at hp;obtain⟨v,h1,h2⟩:=h;have hne:eff k=false:=by
   rw[←zBB,he k (zAf _)];intro hm;have:=jA pl (k+1) k hm;omega
  refine⟨v,H,⟨h1.yv,fun q=>Bool.noConfusion (hne.symm.trans q),fun _=>⟨rfl,fun e _ _=>(kV hp.1 h1).yv⟩⟩,?_⟩
  simp only[hne,zAz,zA3];refine aCO os pl (k+1) _ H hist' sp _ _ hp.2 (fun i hi=>he i (by omega)) ?_ h2
  intro p hpp;cases hpp with
  |head=>exact .inl fun h=>(kV hp.1 h1).yv
  |tail _ hpp=>exact hpo p hpp
 |o::os,.eff []::pl,k,α,H,hist',sp,hist,tp,hp,he,hpo,h=>by
  obtain⟨v,H1,h1,h2,h3⟩:=h;have hee:eff k=true:=by rw[he k (zAf _)];exact .head _
  refine⟨v,H1,⟨aGG h1,fun _ p hpp hb=>?_,fun q=>Bool.noConfusion (hee.symm.trans q)⟩,?_⟩
  ·rcases hpo p hpp with q|q
   ·exact q _
   ·exact absurd (q k (.head _)) hb
  ·simp only[hee,zBc];refine aCO os pl (k+1) _ _ _ _ _ _ hp (fun i hi=>?_) (fun p hpp=>?_) h3
   ·rw[he i (by omega)]
    constructor
    ·intro hm;cases hm with
     |head=>omega
     |tail _ hm=>exact hm
    ·exact .tail _
   ·rcases hpo p hpp with q|q
    ·exact .inl q
    ·exact .inr fun i hi=>q i (.tail _ hi)
theorem aCe(hK:∀α β H,Alike α β→K α H→K β H)(k0:Nat)(hEE:∀i j,k0≤i→eff i=true→eff j=true→j≠i→∀listed,Closed ops listed→i∈Region.ready .any ops listed→j∈Region.ready .any ops listed→False):
  ∀(l:List Oper) (k:Nat) (listed:Array Bool) (α:AF) (H:AHeap) (hist:xF) (past:fT),k0≤k→(∀j,l[j]?=ops[k+j]?)→Closed ops listed→
  Region.lexFrom .any ops l.length k listed=true→aM P N ops eff K l k α H hist past→xG P N ops eff K l.length listed α H hist past
 |[],_,_,_,_,_,_,_,_,_,hB,h=>⟨by simpa[Region.lexFrom]using hB,h⟩
 |o::l,k,listed,α,H,hist,past,hk0,hl,hc,hB,h=>by
  have h0:ops[k]?=some o:=by simpa using(hl 0).symm
  simp only[zAc,Region.lexFrom,zAu]at hB;obtain⟨⟨hr,hf⟩,hB'⟩:=hB;obtain⟨v,H1,hy,hk⟩:=h;have hr':k∈Region.ready .any ops listed:=by simpa using hr
  exact pN hK h0 (fun he j hj hne=>hEE k j hk0 he hj hne) l.length listed α H H1 hist past hc (Region.free_spec h0 hf) hr' hy
   (aCe hK k0 hEE l (k+1) _ _ _ _ _ (by omega) (fun j=>by have:=hl (j+1);grind) (hc.set hr') hB' hk)
def aRZ(ops:Array Oper)(effs:List Nat)(A B C:AHeap)(tp:fT):Prop:=∀p∈tp,(∀h,p.2 h)∨(p.2 A∧p.2 B∧p.2 C∧∀i∈effs,Bef ops p.1 i)
theorem aAZ(hK:∀α β H,Alike α β→K α H→K β H)(effs:List Nat)(A B C:AHeap)(m n:Nat)(kont:AF→AHeap→Prop):
  ∀(os:List Oper) (pl:List Pl) (k:Nat) (listed:Array Bool) (α:AF) (H:AHeap) (sp tp:fT),k+os.length=n→(∀i,i<n→eff i=false)→(∀j,j<os.length→os[j]?=ops[k+j]?)→Closed ops listed→
  aCd ops effs os pl k=true→Region.lexFrom .any ops (os.length+m) k listed=true→aRZ ops effs A B C tp→
  (∀(αp:AF) (tp':fT) (listed':Array Bool),listed'=lst os.length k listed→Closed ops listed'→Region.lexFrom .any ops m n listed'=true→aRZ ops effs A B C tp'→kont αp H→xG P N ops eff K m listed' αp H [] tp')→
  bQ P ops.toList pl os k α H [A,B,C] sp kont→xG P N ops eff K (os.length+m) listed α H [] tp
 |[],[],k,listed,α,H,sp,tp,hn,_,_,hc,_,hB,hpp,hk,h=>by
  simp only[zAv,zBK,zCC]at hB hn ⊢;subst hn;exact hk α tp listed rfl hc hB hpp h
 |o::os,.free::pl,k,listed,α,H,sp,tp,hn,he,hl,hc,hp,hB,hpp,hk,h=>by
  rw[aCd,zAu]at hp;obtain⟨v,h1,h2⟩:=h;have hke:eff k=false:=he k (by simp at hn;omega)
  have h0:ops[k]?=some o:=by simpa using(hl 0 (by simp)).symm
  simp only[zAc,Nat.succ_add,Region.lexFrom,zAu]at hB ⊢;obtain⟨⟨hr,hf⟩,hB'⟩:=hB;have hr':k∈Region.ready .any ops listed:=by simpa using hr
  refine pN hK h0 (fun q=>Bool.noConfusion (hke.symm.trans q)) (os.length+m) listed α H H [] tp hc (Region.free_spec h0 hf) hr'
   ⟨h1.yv,fun q=>Bool.noConfusion (hke.symm.trans q),fun _=>⟨rfl,fun e he _=>by cases he⟩⟩ ?_
  simp only[hke,zAz,zA3];refine aAZ hK effs A B C m n kont os pl (k+1) _ _ H sp _ (by simp at hn;omega) he (fun j hj=>by have:=hl (j+1) (by simp;omega);grind) (hc.set hr') hp.2 hB' ?_ hk h2
  intro p hpm;cases hpm with
  |head=>exact .inl fun h=>(kV hp.1 h1).yv
  |tail _ hpm=>exact hpp p hpm
 |o::os,.pure w::pl,k,listed,α,H,sp,tp,hn,he,hl,hc,hp,hB,hpp,hk,h=>by
  simp only[aCd,zAu,zCO]at hp;obtain⟨⟨rfl,hch⟩,hp⟩:=hp;obtain⟨v,h1,h2,h3⟩:=h;have hke:eff k=false:=he k (by simp at hn;omega)
  have h0:ops[k]?=some o:=by simpa using(hl 0 (by simp)).symm
  simp only[zAc,Nat.succ_add,Region.lexFrom,zAu]at hB ⊢;obtain⟨⟨hr,hf⟩,hB'⟩:=hB;have hr':k∈Region.ready .any ops listed:=by simpa using hr
  refine pN hK h0 (fun q=>Bool.noConfusion (hke.symm.trans q)) (os.length+m) listed α H H [] tp hc (Region.free_spec h0 hf) hr'
   ⟨h1.yv,fun q=>Bool.noConfusion (hke.symm.trans q),fun _=>⟨rfl,fun e he _=>by cases he⟩⟩ ?_
  simp only[hke,zAz,zA3];refine aAZ hK effs A B C m n kont os pl (k+1) _ _ H _ _ (by simp at hn;omega) he (fun j hj=>by have:=hl (j+1) (by simp;omega);simpa[zCd,Nat.add_comm 1 j]using this) (hc.set hr') hp hB' ?_ hk h3
  intro p hpm;cases hpm with
  |head=>
   obtain⟨a1,a2,a3, -⟩:=h2;exact .inr ⟨a1.yv,a2.yv,a3.yv,fun i hi=>(lW hch i hi).1⟩
  |tail _ hpm=>exact hpp p hpm
end
def aQq(ops:Array Oper)(n:Nat)(t1 t2:TypeId)(d1 d2:Tmp):Bool:=
 match ops[n]?,ops[n+1]? with
 |some ⟨some a,.alloc s,_,_,_,none⟩,some ⟨some b,.alloc u,_,_,_,none⟩=>(a==d1)&&(b==d2)&&(s==t1)&&(u==t2)&& !(a==b)
 |_,_=>false
def aQr(ops:Array Oper)(n:Nat)(l:Array Bool):Bool:=
 (Region.ready .any ops l==[n,n+1])&&(Region.ready .any ops (l.setIfInBounds n true)==[n+1])&&(Region.ready .any ops (l.setIfInBounds (n+1) true)==[n])
def aJ6(ops:Array Oper)(planA planB:List Pl)(n:Nat)(t1 t2:TypeId)(d1 d2:Tmp):Bool:=
 aQq ops n t1 t2 d1 d2&&aQr ops n (lst n 0 (Array.replicate ops.size false))&&Nat.ble (n+2) ops.size&&
  aCd ops (eF planB (n+2)) (ops.toList.take n) planA 0&&aAY (ops.toList.drop (n+2)) planB&&iZ ops (n::eF planB (n+2))&&iZ ops ((n+1)::eF planB (n+2))
def aJ7(P:Program)(all:List Oper)(planB:List Pl)(rest:List Oper)(n:Nat)(d1 d2:Tmp)(v1 v2:AV)(G:AHeap)(kont:AF→AHeap→Prop):AF→AHeap→Prop:=
 fun α _=>bQ P all planB rest (n+2) ((d2,v2)::(d1,v1)::α) G [] [] kont
@[go_sem] theorem aVy(all:List Oper)(planB:List Pl)(rest:List Oper)(n:Nat)(d1 d2:Tmp)(v1 v2:AV)(G:AHeap)(kont:AF→AHeap→Prop)(α:AF)(H:AHeap):
  aJ7 P all planB rest n d1 d2 v1 v2 G kont α H=bQ P all planB rest (n+2) ((d2,v2)::(d1,v1)::α) G [] [] kont:=rfl
@[go_sem] theorem aWG(o:Oper)(os:List Oper)(n:Nat):List.take (n+1) (o::os)=o::List.take n os:=rfl
@[go_sem] theorem aWH(os:List Oper):List.take 0 os=[]:=rfl
@[go_sem] theorem aWI(o:Oper)(os:List Oper)(n:Nat):List.drop (n+1) (o::os)=List.drop n os:=rfl
@[go_sem] theorem aWJ(os:List Oper):List.drop 0 os=os:=rfl
theorem jV{N id:Nat}{ops:Array Oper}{Q:bL}{α:AF}{H:AHeap}(planA planB:List Pl)(n:Nat)(t1 t2:TypeId)(d1 d2:Tmp)(hm:P.follows .mixedOrders=true)(hd:pJ N ops=true)(hB:Region.lexB .any ops=true)
  (hp:aJ6 ops planA planB n t1 t2 d1 d2=true) (hz1:(gL P t1).known=true) (hz2:(gL P t2).known=true)
  (h:bQ P ops.toList planA (ops.toList.take n) 0 α (H++[.cells 1 [],.cells 1 []])
   [H++[.cells 2 (gL P t1).cells,.cells 1 []],H++[.cells 1 [],.cells 2 (gL P t2).cells],H++[.cells 2 (gL P t1).cells,.cells 2 (gL P t2).cells]] []
   (aJ7 P ops.toList planB (ops.toList.drop (n+2)) n d1 d2 (.ref H.length 2 0) (.ref (H.length+1) 2 0) (H++[.cells 2 (gL P t1).cells,.cells 2 (gL P t2).cells]) (fun α' H'=>Q .normal α' H'))):aw P N (.region id ops true) Q α H:=by
 refine aGL (aGL ?_);rw[zAr,List.singleton_append];intro r c a _ hs ha;simp only[Region.lexB,zAu]at hB;simp only[aJ6,zAu,Nat.ble_eq]at hp;obtain⟨⟨⟨⟨⟨⟨hO,hR⟩,hn⟩,hA⟩,hT⟩,hc1⟩,hc2⟩:=hp;obtain⟨G1,hG1⟩:∃G,H++[.cells 2 (gL P t1).cells,.cells 1 []]=G:=⟨_,rfl⟩;obtain⟨G2,hG2⟩:∃G,H++[.cells 1 [],.cells 2 (gL P t2).cells]=G:=⟨_,rfl⟩;obtain⟨G3,hG3⟩:∃G,H++[.cells 2 (gL P t1).cells,.cells 2 (gL P t2).cells]=G:=⟨_,rfl⟩;obtain⟨G0,hG0⟩:∃G,H++[.cells 1 [],.cells 1 []]=G:=⟨_,rfl⟩;rw[hG0]at hs;rw[hG0,hG1,hG2,hG3]at h;have u1:hget G0 H.length=.cells 1 []:=by rw[←hG0];simp[hget]
 have u2:hget G0 (H.length+1)=.cells 1 []:=by rw[←hG0];simp[hget]
 have u3:hget G1 (H.length+1)=.cells 1 []:=by rw[←hG1];simp[hget]
 have u4:hget G2 H.length=.cells 1 []:=by rw[←hG2];simp[hget]
 have s1:aB G0 H.length (.cells 2 (gL P t1).cells)=G1:=by rw[←hG0,←hG1];simp[aB]
 have s2:aB G0 (H.length+1) (.cells 2 (gL P t2).cells)=G2:=by rw[←hG0,←hG2];simp[aB]
 have s3:aB G1 (H.length+1) (.cells 2 (gL P t2).cells)=G3:=by rw[←hG1,←hG3];simp[aB]
 have s4:aB G2 H.length (.cells 2 (gL P t1).cells)=G3:=by rw[←hG2,←hG3];simp[aB]
 refine wpIn_region_any hm ?_;obtain⟨effs,hef⟩:∃effs,effs=eF planB (n+2):=⟨_,rfl⟩;have hefm:∀i∈effs,n+2≤i:=fun i hi=>jA planB (n+2) i (hef▸hi)
 obtain⟨eff,hfe⟩:∃eff:Nat→Bool,eff=fun i=>(i==n)||(i==n+1)||effs.contains i:=⟨_,rfl⟩
 have eN:eff n=true:=by rw[hfe];simp
 have eN1:eff (n+1)=true:=by rw[hfe];simp
 have eI:∀i,n+2≤i→(eff i=true↔i∈eF planB (n+2)):=fun i hi=>by
  grind
 have eL:∀i,i<n→eff i=false:=fun i hi=>by
  rw[hfe];grind
 let K:AF→AHeap→Prop:=fun α' H'=>∃β,Alike α' β∧Q .normal β H'
 have hK:∀α β H,Alike α β→K α H→K β H:=fun α β H hab ⟨γ,hg,hq⟩=>⟨γ,fun t=>(hab t).symm.trans (hg t),hq⟩
 have hEE:∀i j,n+2≤i→eff i=true→eff j=true→j≠i→∀listed,Closed ops listed→i∈Region.ready .any ops listed→j∈Region.ready .any ops listed→False:=by
  intro i j hi hei hej hne listed hc h1 h2;have him:i∈eF planB (n+2):=(eI i hi).1 hei;rcases zCk j n with hj|hj
  ·rw[eL j hj]at hej;cases hej
  ·rcases zCk j (n+2)with hj2|hj2
   ·have hjj:j=n∨j=n+1:=by omega
    rcases hjj with e|e
    ·subst e;exact pM hc h2 h1 (lW hc1 i him).1
    ·subst e;exact pM hc h2 h1 (lW hc2 i him).1
   ·rcases aAR (aAQ hc1) i j him ((eI j hj2).1 hej) hne with q|q
    ·exact pM hc h1 h2 q
    ·exact pM hc h2 h1 q
 obtain⟨z1,q1,f1,z2,q2,f2,ho1,ho2,hab⟩:∃(z1:TypeId) (q1:String) (f1:Array Edge) (z2:TypeId) (q2:String) (f2:Array Edge) (_:ops[n]?=some ⟨some d1,.alloc t1,z1,q1,f1,none⟩) (_:ops[n+1]?=some ⟨some d2,.alloc t2,z2,q2,f2,none⟩),d1≠d2:=by
  unfold aQq at hO;split at hO
  ·rename_i a s z1 q1 f1 b u z2 q2 f2 e1 e2;simp only[zAu,zCO,zA4,beq_eq_false_iff_ne]at hO;obtain⟨⟨⟨⟨rfl,rfl⟩,rfl⟩,rfl⟩,hne⟩:=hO;exact⟨z1,q1,f1,z2,q2,f2,e1,e2,hne⟩
  ·cases hO
 have hc0:Closed ops (Array.replicate ops.size false):=by
  intro q o hq;rw[zBI]at hq;by_cases hlt:q<ops.size<;>simp[Array.getElem?_replicate,hlt]at hq
 obtain⟨rest,hrs⟩:∃rest,rest=ops.toList.drop (n+2):=⟨_,rfl⟩;have hrl:rest.length=ops.size-(n+2):=by rw[hrs,zAX,Array.length_toList]
 have hlen:(ops.toList.take n).length=n:=by rw[zAL,Array.length_toList];omega
 rw[←hrs]at h hT;have key:∀(αp:AF) (tp':fT) (L:Array Bool),L=lst (ops.toList.take n).length 0 (Array.replicate ops.size false)→Closed ops L→Region.lexFrom .any ops (rest.length+2) n L=true→aRZ ops effs G1 G2 G3 tp'→
   aJ7 P ops.toList planB rest n d1 d2 (.ref H.length 2 0) (.ref (H.length+1) 2 0) G3 (fun α' H'=>Q .normal α' H') αp G0→xG P N ops eff K (rest.length+2) L αp G0 [] tp':=by
  intro αp tp' L hL hcl hlx hpp hk;rw[hlen]at hL;simp only[Region.lexFrom,zAu]at hlx;obtain⟨⟨hr1, -⟩,⟨hr2, -⟩,hlx⟩:=hlx;rw[←hL]at hR;simp only[aQr,zAu,zCO]at hR;obtain⟨⟨R0,R1⟩,R2⟩:=hR;have hcl2:=(hcl.set (j:=n) (by rw[R0];exact .head _)).set (j:=n+1) (by rw[R1];exact .head _)
  have hfin:∀hist,xG P N ops eff K rest.length ((L.setIfInBounds n true).setIfInBounds (n+1) true) (bO (some d2) (.ref (H.length+1) 2 0) (bO (some d1) (.ref H.length 2 0) αp)) G3 hist tp':=fun hist=>
   aCe hK (n+2) hEE rest (n+2) _ _ G3 hist tp' (zAf _) (fun j=>by rw[hrs,List.getElem?_drop,zBT]) hcl2 hlx
    (aCO rest planB (n+2) _ G3 [] [] hist tp' hT eI (fun p hp=>(hpp p hp).imp (fun q=>q) fun q=>by rw[←hef];exact q.2.2.2)
     (aAS (k':=K) (fun α' H' hq=>⟨α',fun _=>rfl,hq⟩) _ _ _ _ _ _ _ hk))
  have ya:∀α,yv P N ops ⟨some d1,.alloc t1,z1,q1,f1,none⟩ α (.ref H.length 2 0) G0 G1:=fun α=>by rw[←s1];exact aAl u1 hz1
  have yb:∀α,yv P N ops ⟨some d2,.alloc t2,z2,q2,f2,none⟩ α (.ref (H.length+1) 2 0) G0 G2:=fun α=>by rw[←s2];exact aAl u2 hz2
  have yc:∀α,yv P N ops ⟨some d2,.alloc t2,z2,q2,f2,none⟩ α (.ref (H.length+1) 2 0) G1 G3:=fun α=>by rw[←s3];exact aAl u3 hz2
  have yd:∀α,yv P N ops ⟨some d1,.alloc t1,z1,q1,f1,none⟩ α (.ref H.length 2 0) G2 G3:=fun α=>by rw[←s4];exact aAl u4 hz1
  have pa:∀p∈tp',p.2 G1:=fun p hp=>(hpp p hp).elim (fun q=>q _) fun q=>q.1
  have pb:∀p∈tp',p.2 G2:=fun p hp=>(hpp p hp).elim (fun q=>q _) fun q=>q.2.1
  have pc:∀p∈tp',p.2 G3:=fun p hp=>(hpp p hp).elim (fun q=>q _) fun q=>q.2.2.1
  refine⟨fun h0=>(by rw[R0]at h0;cases h0),fun i hi=>?_⟩
  rw[R0]at hi;cases hi with
  |head=>
   unfold qM;simp only[ho1,eN,zBc];refine⟨_,G1,ya _,fun p hp _=>pa p hp,⟨fun h0=>(by rw[R1]at h0;cases h0),fun j hj=>?_⟩⟩
   rw[R1]at hj;cases hj with
   |head=>
    unfold qM;simp only[ho2,eN1,zBc];exact⟨_,G3,yc _,fun p hp _=>pc p hp,hfin _⟩
   |tail _ hj=>cases hj
  |tail _ hi=>
   cases hi with
   |head=>
    unfold qM;simp only[ho2,eN1,zBc];refine⟨_,G2,yb _,fun p hp _=>pb p hp,⟨fun h0=>(by rw[R2]at h0;cases h0),fun j hj=>?_⟩⟩
    rw[R2]at hj;cases hj with
    |head=>
     unfold qM;simp only[ho1,eN,zBc];refine⟨_,G3,yd _,fun p hp _=>pc p hp,?_⟩
     rw[zBE _ _ (by omega)]
     exact kK hK _ _ _ _ _ _ _ _ (gP fun d hd he=>by cases hd;cases he;exact hab rfl) (.refl _) (hfin _)
    |tail _ hj=>cases hj
   |tail _ hi=>cases hi
 have hsz:(ops.toList.take n).length+(rest.length+2)=ops.size:=by rw[hlen,hrl];omega
 have h3:=aAZ (N:=N) (ops:=ops) (eff:=eff) hK effs G1 G2 G3 (rest.length+2) n _ (ops.toList.take n) planA 0 (Array.replicate ops.size false) α G0 [] [] (by rw[hlen];omega) eL
  (fun j hj=>by rw[hlen]at hj;rw[List.getElem?_take_of_lt hj,zBT,zBK]) hc0 (by rw[hef];exact hA) (by rw[hsz];exact hB.2) (fun p hp=>by cases hp) key h
 have h4:=kO (r:=r) (P:=P) (Q:=aBX N c Q) hd c (fun α' H' c' a' ⟨β,hab,hq⟩ hs' hx' ha'=>⟨c',β,H',rfl,hs',hx',ha'.weaken fun t=>.inr (hab t).symm,hq⟩)
  _ (Array.replicate ops.size false) α G0 _ _ c.draw a hs.draw (Ext.draw c) (ha.mono (Ext.draw c)) h3
 rw[hsz]at h4;exact h4
end
end Go.Proofs.YtennnelammaapaaGreatDoor
