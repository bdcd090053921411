/- What the functions of this seat answer (5 of 40). No condition. -/
import Derived.Test.YthafnbmdmfoobaaGreatDoorWorkAD
import Derived.Lib.Bytealg
import Derived.Laws.Externs
set_option linter.unusedSimpArgs false
set_option linter.unusedVariables false
set_option linter.unusedSectionVars false
set_option maxRecDepth 100000
set_option maxHeartbeats 16000000
namespace Go.Proofs.YthafnbmdmfoobaaGreatDoor
section
def Uc(_:List (Nat×List cR)):Prop:=True
theorem mT(l:List (Nat×List cR)):Uc l:=trivial
theorem aK6{P:Program}{N id:Nat}{ops:Array Oper}{Q:dU}{α:a5}{H:ab}{l:List (Nat×List cR)}{plan:List cR}(_:Uc l)(h:et P ops.toList plan ops.toList 0 α H [] [] (fun c1 H'=>Q .normal c1 H'))(_:l.lookup id=some plan:=by rfl)(hm:P.follows .mixedOrders=true:=by exact w9)(hd:w8 N ops=true:=by rfl)
  (bK:Region.lexB .any ops=true:=by kernel_rfl) (ae:(vj ops ops.toList plan 0 [] []&&p4 ops (lT plan 0))=true:=by kernel_rfl):di P N (.region id ops true) Q α H:=XD plan hm hd bK ae h
theorem aIt{P:Program}{N:Nat}{x:Operand}{y z:Code}{b:Bool}{Q:dU}{α:a5}{H:ab}(k:di P N y Q α H)(J:bb α x=.bool b:=by exact rfl)(t:b=false->False:=by intro h;first|(simp at h;done)|(simp at h;omega)):di P N (.cond x y z) Q α H:=ly J (fun _=>k) fun h=>(t h).elim
theorem aIu{P:Program}{N:Nat}{x:Operand}{y z:Code}{b:Bool}{Q:dU}{α:a5}{H:ab}(k:di P N z Q α H)(J:bb α x=.bool b:=by exact rfl)(t:b=true->False:=by intro h;first|(simp at h;done)|(simp at h;omega)):di P N (.cond x y z) Q α H:=ly J (fun h=>(t h).elim) fun _=>k
theorem o1{p q:Prop}(k:q)(t:q->p:=by first|exact fun k=>Pn (.bool false) k|exact fun k=>aK6 (by assumption) k|exact fun k=>qn rfl k|exact fun k=>O6 w9 rfl (by kernel_rfl) k|exact fun k=>L3 rfl k|exact fun k=>IJ (by assumption) aA k|exact fun k=>IL (by assumption) aA k|exact fun k=>IK (by assumption) aA k):p:=t k
theorem af{p q:Prop}(k:q)(t:q->p:=by first|exact fun k=>bx k|exact fun k=>aIt k|exact fun k=>aIu k|fail):p:=t k
theorem aT{p q:Prop}(k:q)(t:q->p:=by intro k;(first|(refine o1 ?_;simp only[go_sem])|refine af ?_|fail);(repeat' first|(refine o1 ?_;simp only[go_sem])|refine af ?_|fail);exact k):p:=t k
structure Hid (q:Prop):Prop where
 get:q
theorem bW{p q:Prop}(k:q)(t:Hid q->p:=by intro k;(first|(refine o1 ?_;simp only[go_sem,pt,DP, *])|refine af ?_|fail);(repeat' first|(refine o1 ?_;simp only[go_sem,pt,DP, *])|refine af ?_|fail);exact k.get):p:=t ⟨k⟩
theorem b0{c p q:Prop}(e:c)(k:q)(t:c->Hid q->p:=by intro e;intro k;(first|(refine o1 ?_;simp only[go_sem,pt,DP, *])|refine af ?_|fail);(repeat' first|(refine o1 ?_;simp only[go_sem,pt,DP, *])|refine af ?_|fail);exact k.get):p:=t e ⟨k⟩
theorem hC{a b:Prop}(h:a)(k:b):a∧b:=⟨h,k⟩
end
section
variable {P:Program}
def Bn(P:Program)(f:FuncId)(args:List I)(H:ab)(x:I):Prop:=Bj P f args H (fun v H'=>v=x∧H'=H)
theorem Rl{f:FuncId}{args:List I}{H:ab}{x:I}{k:I->ab->Prop}(h:Bn P f args H x)(hk:k x H):pd P (.func (.func f) [] []) args H k:=
 Or.inr (by
  simp only[gK,b2];exact h.mono fun y H' ⟨ar,au⟩=>by subst ar;subst au;exact hk)
theorem Rm{g:Bool}{f:FuncId}{args:List I}{H:ab}{x:I}{K:I->Prop}(h:Bn P f args H x)(hk:K x):ou P g (.func (.func f) [] []) args H K:=
 ⟨x,fun _=>Or.inr (by
  simp only[gK,b2];exact h),hk⟩
theorem SX{c:Ctx}{x y:I}{vs:Array Value}(h:r4 c [x,y] vs):∃u v,vs= #[u,v]∧aK c x u∧aK c y v:=by
 obtain⟨hl,ax⟩:=h;obtain⟨l⟩:=vs
 match l,hl,ax with
 |[u,v],_,ax=>exact⟨u,v,rfl,ax 0 _ _ rfl rfl,ax 1 _ _ rfl rfl⟩
theorem Yh(l:List UInt8)(c:UInt8):Lib.indexByte l c<(l.length:Int)∨l=[]:=by
 induction l with
 |nil=>exact .inr rfl
 |cons b l ay=>
  refine .inl ?_;rw[Lib.indexByte,cm];split
  ·omega
  ·split
   ·omega
   ·rcases ay with h|h
    ·omega
    ·subst h;rename_i h1;exact absurd rfl h1
theorem aFW{f:FuncId}{fn:Func}(an:P.funcs[f]?=some fn)(h1:(fn.name== "runtime.NumGoroutine")=false)(h2:fn.body.isNone=true)(h3:Extern.findNext fn=none)(h4:Extern.find fn=some Extern.BytealgCount.count)
  (s:List UInt8) (b:Int) (H:ab):Bn P f [.str s,.int .u8 b] H (.int .i64 (Lib.countByte s b.toNat.toUInt8)):=by
 intro c vs av aD;obtain⟨u,v,rfl,hu,aL⟩:=SX aD;cases hu with
 |str _ hs=>
  cases aL with
  |int _ _ aa=>
   refine⟨_,_,?_,.int .i64 (Lib.countByte s b.toNat.toUInt8:Nat) ?_,rfl,rfl⟩
   ·rw[run_callFunc_extern an h1 h2 h3 h4,Lib.run_countString];rfl
   ·have:Lib.countByte s b.toNat.toUInt8<=s.length:=List.count_le_length;exact⟨by show(-9223372036854775808:Int)<=_;omega,by show _<=(9223372036854775807:Int);omega⟩
theorem aFX{f:FuncId}{fn:Func}(an:P.funcs[f]?=some fn)(h1:(fn.name== "runtime.NumGoroutine")=false)(h2:fn.body.isNone=true)(h3:Extern.findNext fn=none)(h4:Extern.find fn=some Extern.BytealgIndexByte.indexByte)
  (s:List UInt8) (b:Int) (H:ab):Bn P f [.str s,.int .u8 b] H (.int .i64 (Lib.indexByte s b.toNat.toUInt8)):=by
 intro c vs av aD;obtain⟨u,v,rfl,hu,aL⟩:=SX aD;cases hu with
 |str _ hs=>
  cases aL with
  |int _ _ aa=>
   refine⟨_,_,?_,.int .i64 (Lib.indexByte s b.toNat.toUInt8) ?_,rfl,rfl⟩
   ·rw[run_callFunc_extern an h1 h2 h3 h4,Lib.run_indexByteString];rfl
   ·have cz:=Lib.indexByte_ge s b.toNat.toUInt8;have eK:=Yh s b.toNat.toUInt8;refine⟨by show(-9223372036854775808:Int)<=_;omega,by show _<=(9223372036854775807:Int);rcases eK with h|h;omega;subst h;show(-1:Int)<=_;omega⟩
end
section
variable {P:Program}
theorem bA.Pa{c:Ctx}{H:ab}(av:bA c H){i v:Nat}{cs bc:List I}(ah:ao H i=.cells v cs)(ax:kp c i (.cells v bc)):bA c (ai H i (.cells v bc)):=by
 have hi:=kd ah trivial;have ak:=c8 ah trivial;have ao:∀{j:Nat} {b:bu},(ai H i (.cells v bc))[j]?=some b->(j=i∧b=.cells v bc)∨(j≠i∧H[j]?=some b):=by
  intro j b aw;by_cases e:j=i
  ·grind [ai,oI]
  ·rw[ai,gS (fun q=>e q.symm)]at aw
   exact .inr ⟨e,aw⟩
 have zZ:∀{j:Nat} {b:bu},(ai H i (.cells v bc))[j]?=some b->b.live->∃cN:bu,H[j]?=some cN∧cN.live:=by
  intro j b aw aa;rcases ao aw with⟨rfl,rfl⟩|⟨_,h⟩
  ·exact⟨_,hi,trivial⟩
  ·exact⟨_,h,aa⟩
 refine⟨by simp[ai,av.n],av.lt,fun j k b cN aw hk aa fQ fH g1 he=>?_,fun k hk=>?_,fun j b aw=>?_⟩
 ·obtain⟨aV,aZ,a7⟩:=zZ aw aa;obtain⟨bm,ch,fc⟩:=zZ hk fQ;exact av.inj j k aV bm aZ ch a7 fc fH g1 he
 ·obtain⟨h1,h2⟩:=av.st k hk;refine⟨h1,fun j b aw aa fH=>?_⟩
  obtain⟨aV,aZ,a7⟩:=zZ aw aa;exact h2 j aV aZ a7 fH
 ·rcases ao aw with⟨rfl,rfl⟩|⟨_,h⟩
  ·exact ax
  ·exact av.rep j b h
theorem kp.WW{c c':Ctx}{i v:Nat}{cs bc:List I}(ax:kp c i (.cells v cs))(h1:c'.bg i=c.bg i)(h2:c'.dR i=c.dR i)(h3:c'.aE i=c.aE i)(h4:c'.w=c.w)(hl:cs.length=bc.length)
  (hs:∀(i:Nat) (x y:I),cs[i]?=some x->bc[i]?=some y->∀v,aK c x v->aK c' y v):kp c' i (.cells v bc):=by
 cases ax with
 |cells _ _ vs e cd aQ aO bF c9 eA j3=>
  refine .cells _ _ vs e cd (by rw[h1];exact aQ) (by rw[h2];exact aO) (by rw[h3,h4];exact bF) (by omega) eA fun m y u aG hu=>?_
  have gb:=(cA.1 aG).1;have J:cs[m]?=some (cs[m]'(by omega)):=c0 (by omega)
  exact hs m _ y J aG u (j3 m _ u J hu)
 |void _ aQ aO=>
  have:bc=[]:=jg (by simpa using hl.symm)
  subst this;exact .void _ (by rw[h1];exact aQ) (by rw[h2];exact aO)
theorem bA.aLN{c:Ctx}{H:ab}(av:bA c H){i v:Nat}{cs bc:List I}(ah:ao H i=.cells v cs)(hl:cs.length=bc.length)(hs:∀(i:Nat) (x y:I),cs[i]?=some x->bc[i]?=some y->∀v,aK c x v->aK c y v):bA c (ai H i (.cells v bc)):=
 av.Pa ah ((av.rep i _ (kd ah trivial)).WW rfl rfl rfl rfl hl hs)
theorem aC2{N:Nat}{code:Code}{Q:dU}{α:a5}{H:ab}(i b p:Nat){v vb s lc:Nat}{cs bs:List I}(es rest:List I)(aP:b≠i)(ah:ao H i=.cells v cs)(ae:cs[p]?=some (.osl s b vb 0 es.length lc))(aa:ao H b=.cells vb bs)(aL:vb≠0)
  (fk:bs=es.flatMap I.cells++rest) (hs:∀e∈es,e.cells.length=s) (h:di P N code Q α (ai (ai H b .gone) i (.cells v (cs.set p (.sl false es))))):di P N code Q α H:=by
 intro r c a ax av aD;have J:=Ext.stop c b;have JB:¬i=b:=fun e=>aP e.symm
 refine wpIn_mono (h r (c.stop b) a ax ((av.stop aa aL).Pa (bM ah aP .gone) ((av.rep i _ (kd ah trivial)).WW (by simp[Ctx.stop,JB]) (by simp[Ctx.stop,JB]) rfl rfl (by simp) fun k x y kU aG u ax=>?_)) ⟨aD.size,aD.defers.mono J,fun t=>(aD.rep t).mono J⟩)
  fun _ _ _ ⟨c',c1,H',ar,au,bd,bE,cE⟩=>⟨c',c1,H',ar,au,J.trans bd,bE,cE⟩
 by_cases e:k=p
 ·subst e;rw[oI (cA.1 ae).1]at aG;cases aG;rw[ae]at kU;cases kU;exact RN av aa rest fk hs ax
 ·rw[gS (fun q=>e q.symm)]at aG
  rw[kU]at aG;cases aG;exact ax.mono J
theorem kp.pre{c:Ctx}{i v:Nat}{cs rest:List I}(ax:kp c i (.cells v (cs++rest))):kp c i (.cells v cs):=by
 generalize J:cs++rest=xs at ax;cases ax with
 |cells _ _ vs e cd aQ aO bF c9 eA j3=>
  subst J;refine .cells _ _ vs e cd aQ aO bF (by rw[bt]at c9;omega) eA fun m y u aG hu=>j3 m y u ?_ hu
  grind
 |void _ aQ aO=>
  have:cs=[]:=(List.append_eq_nil_iff.1 J).1;subst this;exact .void _ aQ aO
theorem c5.PD{f:FuncId}{args:List I}{H:ab}{i v:Nat}{cs:List I}{x:I}(hi:i<H.length)(h:c5 P f args H (fun r H'=>∃rest,r=x∧H'=ai H i (.cells v (cs++rest)))):c5 P f args H (fun r H'=>r=x∧H'=ai H i (.cells v cs)):=by
 intro c vs hs aD;refine(h c vs hs aD).mono fun e w' ⟨c',y,val,H',ar,au,bd,bE,cE,rest,h8,ny⟩=>⟨c',y,val,ai H' i (.cells v cs),ar,au,?_,bE,cE,h8,by rw[ny,iQ]⟩
 have ah:ao H' i=.cells v (cs++rest):=by rw[ny];exact dT hi _
 exact bd.Pa ah (bd.rep i _ (kd ah trivial)).pre
theorem pJ{f:FuncId}{args:List I}{H H1:ab}{v:I}{K:I->ab->Prop}(h:c5 P f args H (fun x H'=>x=v∧H'=H1))(ok:lx P f=true)(hk:K v H1):MP P true (.func (.func f) [] []) args H K:=
 ⟨v,H1,fun _=>Or.inl ⟨ok,by grind⟩,fun h=>by(cases h),hk⟩
def zt(n:Nat)(G A H1:ab)(H:ab):Prop:=∀(k:Nat) (a b:bu),A[k]?=some a->H1[k]?=some b->(a=b∧(H[k]?=some b∨dp n b))∨∃bg cs bc,a=.cells bg cs∧b=.cells bg bc∧cs.length=bc.length∧∀(m:Nat) (x y:I),cs[m]?=some x->bc[m]?=some y->cQ n G x y
theorem bA.nx{c:Ctx}{n:Nat}{A L H1 H:ab}(ag:n=A.length)(av:bA c (A++L))(hl:H1.length=A.length)(eM:∀(i:Nat) (b:bu),H[i]?=some b->dp n b)(an:zt n (A++L) A H1 H):bA (c.drop n) H1:=by
 have get:∀{i:Nat} {b:bu},H1[i]?=some b->∃a:bu,A[i]?=some a∧(A++L)[i]?=some a∧(b.live->a.live):=by
  intro i b hi;have h1:=(cA.1 hi).1;have aD:A[i]?=some (A[i]'(by omega)):=c0 (by omega)
  refine⟨_,aD,by grind,fun aa=>?_⟩
  rcases an i _ b aD hi with⟨e, -⟩|⟨bg,cs,bc,ar, -⟩
  ·rw[e];exact aa
  ·rw[ar];trivial
 refine⟨by rw[hl];exact ag,fun i hi hd=>?_,fun i j b cN hi aw aa fQ re fH he=>?_,fun k hk=>?_,fun i b hi=>?_⟩
 ·have cv:i<n:=hi;exact av.lt i (by rw[av.n];simp;omega) hd
 ·obtain⟨a, -,bZ,dO⟩:=get hi;obtain⟨gx, -,X5,X6⟩:=get aw;exact av.inj i j a gx bZ X5 (dO aa) (X6 fQ) re fH he
 ·have g4:=av.n;rw[bt]at g4;rcases hk with hk|⟨i,h1,h2,h3,rfl⟩
  ·obtain⟨aQ,aO⟩:=av.st k hk;refine⟨aQ,fun j b aw aa hd=>?_⟩
   obtain⟨a, -,bZ,dO⟩:=get aw;exact aO j a bZ (dO aa) hd
  ·refine⟨av.lt i h2 h3,fun j b aw aa hd e=>?_⟩
   obtain⟨a,dq,bZ,dO⟩:=get aw;have mi:=(cA.1 dq).1;have ak:i<(A++L).length:=by rw[bt];omega
   have hi:(A++L)[i]?=some (A++L)[i]:=c0 ak;by_cases wD:((A++L)[i]).live
   ·have:=av.inj j i a _ bZ hi (dO aa) wD hd h3 e;omega
   ·have ax:=av.rep i _ hi;generalize(A++L)[i]=bi at ax wD;cases ax with
    |gone hn=>rw[h3]at hn;cases hn
    |_=>exact wD trivial
 ·obtain⟨a,dq,bZ, -⟩:=get hi;have h1:=av.rep i a bZ;rcases an i a b dq hi with⟨e,aa⟩|⟨bg,cs,bc,ar,au,bd,bE⟩
  ·subst e;have h2:dp n a:=aa.elim (eM i a) id;cases h1 with
   |cells bg cs vs e cd aL hd ah hl an ax=>exact .cells bg cs vs e cd aL hd ah hl an fun j x v J nK=>(ax j x v J nK).drop (h2 x (df J))
   |void bg aL hd=>exact .void bg aL hd
   |map es clock db aL hd ah hl ax=>exact .map es clock db aL hd ah hl fun j p e ae he=>let⟨aZ,a7,ch⟩:=ax j p e ae he;let⟨aQ,aO⟩:=h2 p (df ae);⟨aZ.drop aQ,a7.drop aO,ch⟩
   |h0 m since seen kl aL hd hm wG CD ah=>exact .h0 m since seen kl aL hd h2 wG CD ah
   |k8 s pos aL hd ah pY=>exact .k8 s pos aL hd ah pY
   |loop l α N st h5 ps mE dX fn D ts aL hd hl ah hc ax=>exact .loop l α N st h5 ps mE dX fn D ts aL hd hl ah hc fun t=>(ax t).drop (h2 t)
   |gone hd=>exact .gone hd
  ·subst ar;subst au;cases h1 with
   |cells _ _ vs e cd aL hd ah hl an ax=>
    refine .cells bg bc vs e cd aL hd ah (by omega) an fun j y v aG nK=>?_
    have ak:=(cA.1 aG).1;have J:cs[j]?=some (cs[j]'(by omega)):=c0 (by omega)
    exact(bE j _ y J aG).sound av (ax j _ v J nK)
   |void _ aL hd=>
    have:bc=[]:=jg (by simpa using bd.symm)
    subst this;exact .void bg aL hd
theorem Zc{f:FuncId}{fn:Func}{code:Code}{args:List I}{H:ab}{R:I->ab->Prop}(an:P.funcs[f]?=some fn)(aa:fn.body=some code)(ag:args.length<=fn.ntmps)
  (h:di P fn.ntmps code (rS P fn.results.toList fun v H'=>∃A L H1 y,H'=A++L∧A.length=H.length∧H1.length=H.length∧zt H.length H' A H1 H∧cQ H.length H' v y∧R y H1) (oW 0 args) H):c5 P f args H R:=by
 intro c vs hs aD;refine(FZ an aa ag h c vs hs aD).mono fun e w' ⟨c',x,v,H',ar,au,bd,bE,cE,A,L,H1,y,h8,ny,sh,IS,aIf,Nq⟩=>?_
 subst h8;refine⟨c'.drop c.n,y,v,H1,ar,au,bA.nx (H:=H) (by rw[hs.n,ny]) bd (by rw[sh,ny]) (fun i b hi=>hs.EL hi) (by rw[hs.n];exact IS),bE.drop,?_,Nq⟩
 have:=aIf.sound bd cE;rwa[<-hs.n]at this
theorem El{P:Program}{f:FuncId}{fn:Func}{code:Code}{args:List I}{H:ab}{R:I->ab->Prop}(an:P.funcs[f]?=some fn)
  (h:di P fn.ntmps code (rS P fn.results.toList fun v H'=>∃A L H1 y,H'=A++L∧A.length=H.length∧H1.length=H.length∧zt H.length H' A H1 H∧cQ H.length H' v y∧R y H1) (oW 0 args) H) (aa:fn.body=some code:=by rfl) (ag:args.length<=fn.ntmps:=by exact DJ rfl):c5 P f args H R:=Zc an aa ag h
theorem aA2{c:Ctx}{H:ab}(av:bA c H)(s:Nat){v:Value}(h:aK c.void (.sl true []) v):aK c.void (.osl s H.length 1 0 0 0) v:=by
 cases h with
 |sl _ _ base len cap qN vs h1 h2 h3 h4 cz eK lz=>
  have mf:=h3 rfl;simp at h1;subst h1;subst mf;exact .osl _ _ _ _ _ _ _ (by simp[Ctx.void,av.n]) (by simp[Ctx.void,av.n]) rfl (by omega) (fun _ _=>⟨rfl,rfl,base,rfl⟩) (fun _ hd=>by simp[Ctx.void,av.n]at hd)
theorem Dm{N:Nat}{code:Code}{Q:dU}{α:a5}{H:ab}(i j s:Nat){v:Nat}{cs:List I}(ah:ao H i=.cells v cs)(aw:cs[j]?=some (.sl true []))
  (h:di P N code Q α (ai (H++[.cells 1 []]) i (.cells v (cs.set j (.osl s H.length 1 0 0 0))))):di P N code Q α H:=by
 intro r c a ax av aD;have aL:=Ext.void c;have ao:=bQ ah trivial [.cells 1 []];refine wpIn_mono (h r c.void a ax (av.void.aLN ao (by simp) fun k x y J aG v ax=>?_) ⟨aD.size,aD.defers.mono aL,fun u=>(aD.rep u).mono aL⟩) fun _ _ _ ⟨c',c1,H',ar,au,bd,bE,cE⟩=>⟨c',c1,H',ar,au,aL.trans bd,bE,cE⟩
 by_cases e:k=j
 ·subst e;rw[oI (cA.1 aw).1]at aG;cases aG;rw[aw]at J;cases J;exact aA2 av s ax
 ·grind
end
section
variable {P:Program}
theorem Ys{c:Ctx}{H:ab}{t:TypeId}{i:Nat}(av:bA c H)(ah:ao H i=.cells 1 [])(hs:(eN P t).known=true):n7 P (Instr.alloc t true (.tuple #[])) c (.ref i 2 0) (ai H i (.cells 2 (eN P t).cells)):=by
 obtain⟨z,h1,h2⟩:=sb (P:=P) hs c;obtain⟨aQ,aO⟩:=h2.cells hs;have aL:=av.qP ah;have iW:=kd ah trivial;have hi:i<c.n:=by rw[av.n];exact c8 ah trivial
 have J:=av.II iW trivial (by omega) (c.w.alloc (.cells z.cells t)) c.w.heap.size (by simp) (.inl (bk _)) (fun b ak _=>uP ak) rfl rfl rfl
 obtain⟨-,ic⟩:=av.bump (B':=.cells 2 (eN P t).cells) iW trivial (by omega) (c.w.alloc (.cells z.cells t)) c.w.heap.size (by simp) (by simp) (.inl (bk _)) (fun b ak _=>uP ak) rfl rfl rfl
  (.cells _ _ z.cells t (0,0) (by simp[Ctx.bump,aL]) (by simp[Ctx.bump]) (by grind [Ctx.bump,pg]) (by omega) (.inr (bk _)) fun j y u p q=>(aO j y u p q).mono J)
 refine⟨c.bump i _ _,.pointer (some ⟨c.w.heap.size,0,none⟩),?_,ic,J,.ref _ _ _ _ hi (by simp[Ctx.bump,aL]) rfl (fun _=>by simp[Ctx.bump])⟩
 simp[Instr.alloc,Sem.run_bind,h1,Instr.box,newVar,newRow,Ctx.bump]
theorem Hz{N:Nat}{ops:Array Oper}{dst:Option Tmp}{t ty:TypeId}{pos:String}{after:Array Edge}{α:a5}{H:ab}{i:Nat}(ah:ao H i=.cells 1 [])(hs:(eN P t).known=true):
  fE P N ops ⟨dst,.alloc t,ty,pos,after,none⟩ α (.ref i 2 0) H (ai H i (.cells 2 (eN P t).cells)):=
 ef.nO rfl (jk fun c a av _=>by
  obtain⟨c',v,h1,h2,h3,h4⟩:=Ys (P:=P) av ah hs;exact⟨c',v,by simp only[execOp,Sem.run_bind,h1];rfl,h2,h3,h4⟩)
theorem SY{N:Nat}{code:Code}{Q:dU}{α:a5}{H:ab}(h:di P N code Q α (H++[.cells 1 []])):di P N code Q α H:=by
 intro r c a ax av aD;have aL:=Ext.void c;exact wpIn_mono (h r c.void a ax av.void ⟨aD.size,aD.defers.mono aL,fun u=>(aD.rep u).mono aL⟩) fun _ _ _ ⟨c',c1,H',ar,au,bd,bE,cE⟩=>⟨c',c1,H',ar,au,aL.trans bd,bE,cE⟩
def Ec:List Oper->List cR->Bool
 |[],[]=>true
 |o::os,.free::ps=>vi o.op&&Ec os ps
 |_::os,.eff []::ps=>Ec os ps
 |_,_=>false
def BA(ops:Array Oper)(fw:List Nat):List Oper->List cR->Nat->Bool
 |[],[],_=>true
 |o::os,.free::ps,k=>vi o.op&&BA ops fw os ps (k+1)
 |_::os,.pure w::ps,k=>(w==3)&&p4 ops (k::fw)&&BA ops fw os ps (k+1)
 |_,_,_=>false
def JZ:Nat->Nat->Array Bool->Array Bool
 |0,_,l=>l
 |j+1,k,l=>JZ j (k+1) (l.setIfInBounds k true)
section
variable {N:Nat} {ops:Array Oper} {eff:Nat->Bool} {K:a5->ab->Prop}
theorem LO:∀(os:List Oper) (pl:List cR) (k:Nat) (α:a5) (H:ab) (z2:List ab) (sp:g2) (bI:rT) (k9:g2),Ec os pl=true->(∀i,k<=i->(eff i=true↔i∈lT pl k))->
  (∀p∈k9,(∀h,p.2 h)∨∀i∈lT pl k,pv ops p.1 i)->et P ops.toList pl os k α H z2 sp K->Ew P N ops eff K os k α H bI k9
 |[],[],_,_,_,_,_,_,_,_,_,_,h=>h
 |o::os,.free::pl,k,α,H,z2,sp,bI,k9,ae,he,hpo,h=>by
  rw[Ec,dD]at ae;obtain⟨v,h1,h2⟩:=h;have aP:eff k=false:=by
   rw[<-vB,he k (bk _)];intro hm;have:=At pl (k+1) k hm;omega
  refine⟨v,H,⟨h1.fE,fun q=>Bool.noConfusion (aP.symm.trans q),fun _=>⟨rfl,fun e _ _=>(F4 ae.1 h1).fE⟩⟩,?_⟩
  simp only[aP,ht,eF];refine LO os pl (k+1) _ H z2 sp _ _ ae.2 (fun i hi=>he i (by omega)) ?_ h2
  intro p hY;cases hY with
  |head=>exact .inl fun h=>(F4 ae.1 h1).fE
  |tail _ hY=>exact hpo p hY
 |o::os,.eff []::pl,k,α,H,z2,sp,bI,k9,ae,he,hpo,h=>by
  obtain⟨v,H1,h1,h2,h3⟩:=h;have qs:eff k=true:=by rw[he k (bk _)];exact .head _
  refine⟨v,H1,⟨SV h1,fun _ p hY aa=>?_,fun q=>Bool.noConfusion (qs.symm.trans q)⟩,?_⟩
  ·rcases hpo p hY with q|q
   ·exact q _
   ·exact absurd (q k (.head _)) aa
  ·simp only[qs,dI];refine LO os pl (k+1) _ _ _ _ _ _ ae (fun i hi=>?_) (fun p hY=>?_) h3
   ·rw[he i (by omega)]
    constructor
    ·intro hm;cases hm with
     |head=>omega
     |tail _ hm=>exact hm
    ·exact .tail _
   ·rcases hpo p hY with q|q
    ·exact .inl q
    ·exact .inr fun i hi=>q i (.tail _ hi)
theorem Rn(b0:∀α β H,Alike α β->K α H->K β H)(qB:Nat)(tp:∀i j,qB<=i->eff i=true->eff j=true->j≠i->∀listed,mD ops listed->i∈Region.ready .any ops listed->j∈Region.ready .any ops listed->False):
  ∀(l:List Oper) (k:Nat) (listed:Array Bool) (α:a5) (H:ab) (bI:rT) (b6:g2),qB<=k->(∀j,l[j]?=ops[k+j]?)->mD ops listed->
  Region.lexFrom .any ops l.length k listed=true->Ew P N ops eff K l k α H bI b6->rU P N ops eff K l.length listed α H bI b6
 |[],_,_,_,_,_,_,_,_,_,bK,h=>⟨by simpa[Region.lexFrom]using bK,h⟩
 |o::l,k,listed,α,H,bI,b6,j1,hl,al,bK,h=>by
  have aC:ops[k]?=some o:=by simpa using(hl 0).symm
  simp only[cm,Region.lexFrom,dD]at bK;obtain⟨⟨ax,an⟩,oZ⟩:=bK;obtain⟨v,H1,aG,hk⟩:=h;have ib:k∈Region.ready .any ops listed:=by simpa using ax
  exact Kk b0 aC (fun he j aw aP=>tp k j j1 he aw aP) l.length listed α H H1 bI b6 al (Region.free_spec aC an) ib aG
   (Rn b0 qB tp l (k+1) _ _ _ _ _ (by omega) (fun j=>by have:=hl (j+1);grind) (al.set ib) oZ hk)
def Ng(ops:Array Oper)(fw:List Nat)(A B C:ab)(k9:g2):Prop:=∀p∈k9,(∀h,p.2 h)∨(p.2 A∧p.2 B∧p.2 C∧∀i∈fw,pv ops p.1 i)
theorem Ls(b0:∀α β H,Alike α β->K α H->K β H)(fw:List Nat)(A B C:ab)(m n:Nat)(dM:a5->ab->Prop):
  ∀(os:List Oper) (pl:List cR) (k:Nat) (listed:Array Bool) (α:a5) (H:ab) (sp k9:g2),k+os.length=n->(∀i,i<n->eff i=false)->(∀j,j<os.length->os[j]?=ops[k+j]?)->mD ops listed->
  BA ops fw os pl k=true->Region.lexFrom .any ops (os.length+m) k listed=true->Ng ops fw A B C k9->
  (∀(Bi:a5) (sW:g2) (JX:Array Bool),JX=JZ os.length k listed->mD ops JX->Region.lexFrom .any ops m n JX=true->Ng ops fw A B C sW->dM Bi H->rU P N ops eff K m JX Bi H [] sW)->
  et P ops.toList pl os k α H [A,B,C] sp dM->rU P N ops eff K (os.length+m) listed α H [] k9
 |[],[],k,listed,α,H,sp,k9,ag,_,_,al,_,bK,hY,hk,h=>by
  simp only[ew,mC,uz]at bK ag ⊢;subst ag;exact hk α k9 listed rfl al bK hY h
 |o::os,.free::pl,k,listed,α,H,sp,k9,ag,he,hl,al,ae,bK,hY,hk,h=>by
  rw[BA,dD]at ae;obtain⟨v,h1,h2⟩:=h;have g3:eff k=false:=he k (by simp at ag;omega)
  have aC:ops[k]?=some o:=by simpa using(hl 0 (by simp)).symm
  simp only[cm,Nat.succ_add,Region.lexFrom,dD]at bK ⊢;obtain⟨⟨ax,an⟩,oZ⟩:=bK;have ib:k∈Region.ready .any ops listed:=by simpa using ax
  refine Kk b0 aC (fun q=>Bool.noConfusion (g3.symm.trans q)) (os.length+m) listed α H H [] k9 al (Region.free_spec aC an) ib
   ⟨h1.fE,fun q=>Bool.noConfusion (g3.symm.trans q),fun _=>⟨rfl,fun e he _=>by cases he⟩⟩ ?_
  simp only[g3,ht,eF];refine Ls b0 fw A B C m n dM os pl (k+1) _ _ H sp _ (by simp at ag;omega) he (fun j aw=>by have:=hl (j+1) (by simp;omega);grind) (al.set ib) ae.2 oZ ?_ hk h2
  intro p pW;cases pW with
  |head=>exact .inl fun h=>(F4 ae.1 h1).fE
  |tail _ pW=>exact hY p pW
 |o::os,.pure w::pl,k,listed,α,H,sp,k9,ag,he,hl,al,ae,bK,hY,hk,h=>by
  simp only[BA,dD,qj]at ae;obtain⟨⟨rfl,iH⟩,ae⟩:=ae;obtain⟨v,h1,h2,h3⟩:=h;have g3:eff k=false:=he k (by simp at ag;omega)
  have aC:ops[k]?=some o:=by simpa using(hl 0 (by simp)).symm
  simp only[cm,Nat.succ_add,Region.lexFrom,dD]at bK ⊢;obtain⟨⟨ax,an⟩,oZ⟩:=bK;have ib:k∈Region.ready .any ops listed:=by simpa using ax
  refine Kk b0 aC (fun q=>Bool.noConfusion (g3.symm.trans q)) (os.length+m) listed α H H [] k9 al (Region.free_spec aC an) ib
   ⟨h1.fE,fun q=>Bool.noConfusion (g3.symm.trans q),fun _=>⟨rfl,fun e he _=>by cases he⟩⟩ ?_
  simp only[g3,ht,eF];refine Ls b0 fw A B C m n dM os pl (k+1) _ _ H _ _ (by simp at ag;omega) he (fun j aw=>by have:=hl (j+1) (by simp;omega);simpa[vJ,Nat.add_comm 1 j]using this) (al.set ib) ae oZ ?_ hk h3
  intro p pW;cases pW with
  |head=>
   obtain⟨dq,bZ,dO, -⟩:=h2;exact .inr ⟨dq.fE,bZ.fE,dO.fE,fun i hi=>(C3 iH i hi).1⟩
  |tail _ pW=>exact hY p pW
end
def Ud(ops:Array Oper)(n:Nat)(t1 t2:TypeId)(d1 d2:Tmp):Bool:=
 match ops[n]?,ops[n+1]? with
 |some ⟨some a,.alloc s,_,_,_,none⟩,some ⟨some b,.alloc u,_,_,_,none⟩=>(a==d1)&&(b==d2)&&(s==t1)&&(u==t2)&& !(a==b)
 |_,_=>false
def Ue(ops:Array Oper)(n:Nat)(l:Array Bool):Bool:=
 (Region.ready .any ops l==[n,n+1])&&(Region.ready .any ops (l.setIfInBounds n true)==[n+1])&&(Region.ready .any ops (l.setIfInBounds (n+1) true)==[n])
def Tj(ops:Array Oper)(Gq nP:List cR)(n:Nat)(t1 t2:TypeId)(d1 d2:Tmp):Bool:=
 Ud ops n t1 t2 d1 d2&&Ue ops n (JZ n 0 (Array.replicate ops.size false))&&Nat.ble (n+2) ops.size&&
  BA ops (lT nP (n+2)) (ops.toList.take n) Gq 0&&Ec (ops.toList.drop (n+2)) nP&&p4 ops (n::lT nP (n+2))&&p4 ops ((n+1)::lT nP (n+2))
def MN(P:Program)(all:List Oper)(nP:List cR)(rest:List Oper)(n:Nat)(d1 d2:Tmp)(v1 v2:I)(G:ab)(dM:a5->ab->Prop):a5->ab->Prop:=
 fun α _=>et P all nP rest (n+2) ((d2,v2)::(d1,v1)::α) G [] [] dM
@[go_sem] theorem aQS(all:List Oper)(nP:List cR)(rest:List Oper)(n:Nat)(d1 d2:Tmp)(v1 v2:I)(G:ab)(dM:a5->ab->Prop)(α:a5)(H:ab):
  MN P all nP rest n d1 d2 v1 v2 G dM α H=et P all nP rest (n+2) ((d2,v2)::(d1,v1)::α) G [] [] dM:=rfl
@[go_sem] theorem aRl(o:Oper)(os:List Oper)(n:Nat):List.take (n+1) (o::os)=o::List.take n os:=rfl
@[go_sem] theorem aRm(os:List Oper):List.take 0 os=[]:=rfl
@[go_sem] theorem aRn(o:Oper)(os:List Oper)(n:Nat):List.drop (n+1) (o::os)=List.drop n os:=rfl
@[go_sem] theorem aRo(os:List Oper):List.drop 0 os=os:=rfl
theorem JU{N id:Nat}{ops:Array Oper}{Q:dU}{α:a5}{H:ab}(Gq nP:List cR)(n:Nat)(t1 t2:TypeId)(d1 d2:Tmp)(hm:P.follows .mixedOrders=true)(hd:w8 N ops=true)(bK:Region.lexB .any ops=true)
  (ae:Tj ops Gq nP n t1 t2 d1 d2=true) (gr:(eN P t1).known=true) (ix:(eN P t2).known=true)
  (h:et P ops.toList Gq (ops.toList.take n) 0 α (H++[.cells 1 [],.cells 1 []])
   [H++[.cells 2 (eN P t1).cells,.cells 1 []],H++[.cells 1 [],.cells 2 (eN P t2).cells],H++[.cells 2 (eN P t1).cells,.cells 2 (eN P t2).cells]] []
   (MN P ops.toList nP (ops.toList.drop (n+2)) n d1 d2 (.ref H.length 2 0) (.ref (H.length+1) 2 0) (H++[.cells 2 (eN P t1).cells,.cells 2 (eN P t2).cells]) (fun c1 H'=>Q .normal c1 H'))):di P N (.region id ops true) Q α H:=by
 refine SY (SY ?_);rw[cr,List.singleton_append];intro r c a _ hs aD;simp only[Region.lexB,dD]at bK;simp only[Tj,dD,Nat.ble_eq]at ae;obtain⟨⟨⟨⟨⟨⟨zQ,e2⟩,ag⟩,cf⟩,o1⟩,kP⟩,yb⟩:=ae;obtain⟨dd,ek⟩:∃G,H++[.cells 2 (eN P t1).cells,.cells 1 []]=G:=⟨_,rfl⟩;obtain⟨cZ,fh⟩:∃G,H++[.cells 1 [],.cells 2 (eN P t2).cells]=G:=⟨_,rfl⟩;obtain⟨fS,jq⟩:∃G,H++[.cells 2 (eN P t1).cells,.cells 2 (eN P t2).cells]=G:=⟨_,rfl⟩;obtain⟨uD,Cm⟩:∃G,H++[.cells 1 [],.cells 1 []]=G:=⟨_,rfl⟩;rw[Cm]at hs;rw[Cm,ek,fh,jq]at h;have pk:ao uD H.length=.cells 1 []:=by rw[<-Cm];simp[ao]
 have qO:ao uD (H.length+1)=.cells 1 []:=by rw[<-Cm];simp[ao]
 have AX:ao dd (H.length+1)=.cells 1 []:=by rw[<-ek];simp[ao]
 have aLW:ao cZ H.length=.cells 1 []:=by rw[<-fh];simp[ao]
 have s1:ai uD H.length (.cells 2 (eN P t1).cells)=dd:=by rw[<-Cm,<-ek];simp[ai]
 have s2:ai uD (H.length+1) (.cells 2 (eN P t2).cells)=cZ:=by rw[<-Cm,<-fh];simp[ai]
 have l3:ai dd (H.length+1) (.cells 2 (eN P t2).cells)=fS:=by rw[<-ek,<-jq];simp[ai]
 have AR:ai cZ H.length (.cells 2 (eN P t1).cells)=fS:=by rw[<-fh,<-jq];simp[ai]
 refine wpIn_region_any hm ?_;obtain⟨fw,N7⟩:∃fw,fw=lT nP (n+2):=⟨_,rfl⟩;have aSx:∀i∈fw,n+2<=i:=fun i hi=>At nP (n+2) i (N7▸hi)
 obtain⟨eff,h9⟩:∃eff:Nat->Bool,eff=fun i=>(i==n)||(i==n+1)||fw.contains i:=⟨_,rfl⟩
 have U3:eff n=true:=by rw[h9];simp
 have U4:eff (n+1)=true:=by rw[h9];simp
 have Ns:∀i,n+2<=i->(eff i=true↔i∈lT nP (n+2)):=fun i hi=>by
  grind
 have U2:∀i,i<n->eff i=false:=fun i hi=>by
  rw[h9];grind
 let K:a5->ab->Prop:=fun c1 H'=>∃β,Alike c1 β∧Q .normal β H'
 have b0:∀α β H,Alike α β->K α H->K β H:=fun α β H c3 ⟨D0,aJ,aS⟩=>⟨D0,fun t=>(c3 t).symm.trans (aJ t),aS⟩
 have tp:∀i j,n+2<=i->eff i=true->eff j=true->j≠i->∀listed,mD ops listed->i∈Region.ready .any ops listed->j∈Region.ready .any ops listed->False:=by
  intro i j hi o3 zX aP listed al h1 h2;have Oi:i∈lT nP (n+2):=(Ns i hi).1 o3;rcases Bd j n with aw|aw
  ·rw[U2 j aw]at zX;cases zX
  ·rcases Bd j (n+2)with z3|z3
   ·have aJG:j=n∨j=n+1:=by omega
    rcases aJG with e|e
    ·subst e;exact AH al h2 h1 (C3 kP i Oi).1
    ·subst e;exact AH al h2 h1 (C3 yb i Oi).1
   ·rcases Lq (Q7 kP) i j Oi ((Ns j z3).1 zX) aP with q|q
    ·exact AH al h1 h2 q
    ·exact AH al h2 h1 q
 obtain⟨jA,aQ,f1,la,aO,f2,FA,CG,c3⟩:∃(jA:TypeId) (aQ:String) (f1:Array Edge) (la:TypeId) (aO:String) (f2:Array Edge) (_:ops[n]?=some ⟨some d1,.alloc t1,jA,aQ,f1,none⟩) (_:ops[n+1]?=some ⟨some d2,.alloc t2,la,aO,f2,none⟩),d1≠d2:=by
  unfold Ud at zQ;split at zQ
  ·rename_i a s jA aQ f1 b u la aO f2 ar au;simp only[dD,qj,nk,beq_eq_false_iff_ne]at zQ;obtain⟨⟨⟨⟨rfl,rfl⟩,rfl⟩,rfl⟩,aP⟩:=zQ;exact⟨jA,aQ,f1,la,aO,f2,ar,au,aP⟩
  ·cases zQ
 have wB:mD ops (Array.replicate ops.size false):=by
  intro q o aS;rw[Hk]at aS;by_cases ak:q<ops.size<;>simp[Array.getElem?_replicate,ak]at aS
 obtain⟨rest,pX⟩:∃rest,rest=ops.toList.drop (n+2):=⟨_,rfl⟩;have oh:rest.length=ops.size-(n+2):=by rw[pX,gL,Array.length_toList]
 have hlen:(ops.toList.take n).length=n:=by rw[e8,Array.length_toList];omega
 rw[<-pX]at h o1;have key:∀(Bi:a5) (sW:g2) (L:Array Bool),L=JZ (ops.toList.take n).length 0 (Array.replicate ops.size false)->mD ops L->Region.lexFrom .any ops (rest.length+2) n L=true->Ng ops fw dd cZ fS sW->
   MN P ops.toList nP rest n d1 d2 (.ref H.length 2 0) (.ref (H.length+1) 2 0) fS (fun c1 H'=>Q .normal c1 H') Bi uD->rU P N ops eff K (rest.length+2) L Bi uD [] sW:=by
  intro Bi sW L hU eM z9 hY hk;rw[hlen]at hU;simp only[Region.lexFrom,dD]at z9;obtain⟨⟨FH, -⟩,⟨o8, -⟩,z9⟩:=z9;rw[<-hU]at e2;simp only[Ue,dD,qj]at e2;obtain⟨⟨Lg,Lh⟩,Qr⟩:=e2;have aJa:=(eM.set (j:=n) (by rw[Lg];exact .head _)).set (j:=n+1) (by rw[Lh];exact .head _)
  have oc:∀bI,rU P N ops eff K rest.length ((L.setIfInBounds n true).setIfInBounds (n+1) true) (cY (some d2) (.ref (H.length+1) 2 0) (cY (some d1) (.ref H.length 2 0) Bi)) fS bI sW:=fun bI=>
   Rn b0 (n+2) tp rest (n+2) _ _ fS bI sW (bk _) (fun j=>by rw[pX,List.getElem?_drop,vD]) aJa z9
    (LO rest nP (n+2) _ fS [] [] bI sW o1 Ns (fun p ae=>(hY p ae).imp (fun q=>q) fun q=>by rw[<-N7];exact q.2.2.2)
     (QX (k':=K) (fun c1 H' aS=>⟨c1,fun _=>rfl,aS⟩) _ _ _ _ _ _ _ hk))
  have aL9:∀α,fE P N ops ⟨some d1,.alloc t1,jA,aQ,f1,none⟩ α (.ref H.length 2 0) uD dd:=fun α=>by rw[<-s1];exact Hz pk gr
  have aMa:∀α,fE P N ops ⟨some d2,.alloc t2,la,aO,f2,none⟩ α (.ref (H.length+1) 2 0) uD cZ:=fun α=>by rw[<-s2];exact Hz qO ix
  have aMb:∀α,fE P N ops ⟨some d2,.alloc t2,la,aO,f2,none⟩ α (.ref (H.length+1) 2 0) dd fS:=fun α=>by rw[<-l3];exact Hz AX ix
  have aMc:∀α,fE P N ops ⟨some d1,.alloc t1,jA,aQ,f1,none⟩ α (.ref H.length 2 0) cZ fS:=fun α=>by rw[<-AR];exact Hz aLW gr
  have aLj:∀p∈sW,p.2 dd:=fun p ae=>(hY p ae).elim (fun q=>q _) fun q=>q.1
  have aLk:∀p∈sW,p.2 cZ:=fun p ae=>(hY p ae).elim (fun q=>q _) fun q=>q.2.1
  have Kh:∀p∈sW,p.2 fS:=fun p ae=>(hY p ae).elim (fun q=>q _) fun q=>q.2.2.1
  refine⟨fun aC=>(by rw[Lg]at aC;cases aC),fun i hi=>?_⟩
  rw[Lg]at hi;cases hi with
  |head=>
   unfold rO;simp only[FA,U3,dI];refine⟨_,dd,aL9 _,fun p ae _=>aLj p ae,⟨fun aC=>(by rw[Lh]at aC;cases aC),fun j aw=>?_⟩⟩
   rw[Lh]at aw;cases aw with
   |head=>
    unfold rO;simp only[CG,U4,dI];exact⟨_,fS,aMb _,fun p ae _=>Kh p ae,oc _⟩
   |tail _ aw=>cases aw
  |tail _ hi=>
   cases hi with
   |head=>
    unfold rO;simp only[CG,U4,dI];refine⟨_,cZ,aMa _,fun p ae _=>aLk p ae,⟨fun aC=>(by rw[Qr]at aC;cases aC),fun j aw=>?_⟩⟩
    rw[Qr]at aw;cases aw with
    |head=>
     unfold rO;simp only[FA,U3,dI];refine⟨_,fS,aMc _,fun p ae _=>Kh p ae,?_⟩
     rw[DI _ _ (by omega)]
     exact Ax b0 _ _ _ _ _ _ _ _ (FY fun d hd he=>by cases hd;cases he;exact c3 rfl) (.refl _) (oc _)
    |tail _ aw=>cases aw
   |tail _ hi=>cases hi
 have hsz:(ops.toList.take n).length+(rest.length+2)=ops.size:=by rw[hlen,oh];omega
 have h3:=Ls (N:=N) (ops:=ops) (eff:=eff) b0 fw dd cZ fS (rest.length+2) n _ (ops.toList.take n) Gq 0 (Array.replicate ops.size false) α uD [] [] (by rw[hlen];omega) U2
  (fun j aw=>by rw[hlen]at aw;rw[List.getElem?_take_of_lt aw,vD,mC]) wB (by rw[N7];exact cf) (by rw[hsz];exact bK.2) (fun p ae=>by cases ae) key h
 have h4:=JV (r:=r) (P:=P) (Q:=By N c Q) hd c (fun c1 H' c' gx ⟨β,c3,aS⟩ ic ho rj=>⟨c',β,H',rfl,ic,ho,rj.weaken fun t=>.inr (c3 t).symm,aS⟩)
  _ (Array.replicate ops.size false) α uD _ _ c.draw a hs.draw (Ext.draw c) (aD.mono (Ext.draw c)) h3
 rw[hsz]at h4;exact h4
end
end Go.Proofs.YthafnbmdmfoobaaGreatDoor
