/- The row of DaemonTwice: the walk's contract, put into the row's own words. No condition. -/
import Derived.Test.YtnmamncmpklliaaGreatDoorWorkCA
import Derived.Test.YtnmamncmpklliaaGreatDoorRows
import Derived.Test.YtnmamncmpklliaaGreatDoorCards
import Derived.Test.YtnmamncmpklliaaGreatDoorTie
import Derived.LaidMore
import Derived.Lay
import Derived.SevenTiedAt
set_option linter.unusedSimpArgs false
set_option linter.unusedVariables false
set_option linter.unusedSectionVars false
set_option maxRecDepth 100000
set_option maxHeartbeats 16000000
namespace Go.Proofs.YtnmamncmpklliaaGreatDoor
open Go.Proofs.Tryz
def aCI:List cu:=[.pure 0,.free,.free,.pure 0,.pure 0,.pure 0,.free,.free,.free,.eff [true,true,true,true],.eff [false,false,false,false],.free]
attribute [go_sem] aCI
theorem aHl(s:Int)(f:Bool)(l:List Ord)(a b:ag)(H:ab):aM prog 5 [.int .u8 s,.sl f<|l.map hM,.str a,.str b] H (.bool true):=by
 refine aID λk1 k2 k3 k4=>?_
 have hs:0<=s/\s<=255:=GK k1;refine aZ func5 ?_;have HR:=Nq;have lE:IntKind.i64.wrap s=s:=bI;have J:=Dh 0 s;have ax:=Kt f l 100;obtain⟨ki,O⟩:∃ki,sy l 100=ki:=⟨_,rfl⟩;rw[O]at ax;obtain⟨X,cS⟩:∃X,jK 0 s=X:=⟨_,rfl⟩;have U:=λh=>eX.new (r:=0) (s:=s) iV h
 rw[cS]at J U;obtain⟨d,e⟩:=X;simp only at J U;by_cases mT:ki=true/\a.length<=1000/\b.length<=1000/\e=0
 ·obtain⟨rfl,aF,aa,rfl⟩:=mT;have U:=U rfl;have iZ:=KM O;have hJ:=(show l.all wb=true/\(l.length:Int)<=100 by unfold sy at O;simpa using O).2
  have hq:decide ((1000:Int)<(a.length:Int))=false:=cQ;have aOf:decide ((1000:Int)<(b.length:Int))=false:=cQ;obtain⟨D,T⟩:∃D:Nat->dJ,∀q,D q=zR d (l.take q):=⟨_,λ_=>rfl⟩
  have vt:∀q,eX q 0 (D q):=λq=>by
   have:=U.Ez (l:=l) (λo aD=>(iZ o aD).1) q
   rw[j9]at this;rw[T];exact this
  have vu:∀q (h:q<l.length),D (q+1)=(sX (D q) l[q]).1:=λq h=>by rw[T,T];exact I9 h
  have aw:D 0=d:=T 0;rw[<-aw]at J;clear aw U cS;obtain⟨N,eU⟩:∃N,D l.length=N:=⟨_,rfl⟩;have n9:=vt l.length;rw[eU]at n9;obtain⟨c1,V,k,nY⟩:=n9.rU a;have uK:=n9.fF.do iV (o:=⟨2,oO,0,a⟩)<|by simp only;omega
  have py:=Di N uK.w a uK.CX uK.B3;obtain⟨Y,ji⟩:∃Y,lx N a=Y:=⟨_,rfl⟩;rw[ji]at py c1 V nY;obtain⟨y,aSe⟩:=Y;simp only at py c1 V nY;subst c1;obtain⟨c2,Zr,k2,Qo⟩:=V.rU b;have Sp:=V.fF.do iV (o:=⟨2,oO,0,b⟩)<|by simp only;omega
  have L3:=Di y Sp.w b Sp.CX Sp.B3;obtain⟨Z,ny⟩:∃Z,lx y b=Z:=⟨_,rfl⟩;rw[ny]at L3 c2 Zr Qo;obtain⟨z,TR⟩:=Z;simp only at L3 c2 Zr Qo;subst c2;obtain⟨aP,aR,bH,cC⟩:=nY.again Qo;have jF:=Oy false false false false false false false false y.c.m z.c.m;have Is:=Kd false false y.c.ops z.c.ops;rw[aP,cD rfl]at jF;rw[aR,cD rfl]at Is;unfold cR at J py L3;simp only[en,aP,aR,bH,cC]at J py L3;simp only[ih,oo]at jF;repeat' first|(refine ae ?_;simp only[go_sem,lE,hq,aOf])|refine bt ?_|(refine bB ?_ ?_<;>intro h<;>try exact bA h)|fail
  refine cE (ι:=Nat×ab) (λx=>[(1,.sl f<|l.map hM),(2,.str a),(3,.str b),(9,.bool true),(10,.ref H.length 0 0),(12,.int .i64 x.1)]) (λx=>H++.cells 0 (cR<|D x.1).cells::x.2) (λx=>x.1<=l.length) (λx=>l.length-x.1) (0,[]) (bW _) ?_ rfl ?_
  ·simp[go_sem]
  rintro⟨q,M⟩ aJ;simp only at aJ ⊢;obtain⟨x,J⟩:∃x,D q=x:=⟨_,rfl⟩;rw[J];obtain⟨G,aW⟩:∃G,H++.cells 0 (cR x).cells::M=G:=⟨_,rfl⟩;rw[aW];have g0:ay G H.length=.cells 0 (cR x).cells:=by rw[<-aW];simp only[go_sem]
  have gs:∀X,ar G H.length X=H++X::M:=λX=>by rw[<-aW];simp only[go_sem]
  have k0:=bC g0 trivial;have vq:=gN g0 trivial;unfold cR at g0 k0 ⊢;simp only[en,I.cells]at g0 k0 ⊢;by_cases K:q<l.length
  ·have ck:=di hM K;have bg:decide ((q:Int)<(l.length:Int))=true:=cK;have yT:=(vt q).fF.do iV (o:=l[q]) (by have:=(iZ _ (ga K)).2;omega)
   have gr:=G6 (D q) l[q] yT;obtain⟨y,aH⟩:∃y,D (q+1)=y:=⟨_,rfl⟩;rw[<-vu q K,aH,J]at gr;generalize l[q]=o at *;simp only[hM]at ck gr;unfold cR at gr;simp only[en]at gr;repeat' first|((first|refine mx [8] aCI ?_|refine ae ?_);simp only[go_sem,ck,bg,K,g0,k0,gs,vq])|refine bt ?_|(refine bB ?_ ?_<;>intro h<;>try exact bA h)|fail
   exact⟨(q+1,M++[.cells 0 (cR y).cells]),K,by simp only;omega,bU _<|dA K iV,by simp only[aH];unfold cR;simp only[en,I.cells,dr,iN]⟩
  ·have oc:q=l.length:=iV
   subst oc;rw[eU]at J;subst J;have bg:decide ((l.length:Int)<(l.length:Int))=false:=cQ;repeat' first|(refine ae ?_;simp only[go_sem,bg,g0,k0])|refine bt ?_|(refine bB ?_ ?_<;>intro h<;>try exact bA h)|fail
   exact BB aW nb<|.of kk
 ·unfold cR at J;simp only[en]at J;repeat' first|(refine ae ?_;simp only[go_sem,lE])|refine bt ?_|(refine bB ?_ ?_<;>intro h<;>try exact bA h)|fail
  ·exact aV<|.of rfl
  ·exfalso;simp at h;exact mT ⟨h.1.1.1,iV,iV,h.2⟩
open Go.ChangeShapes Go.WideShapes Go.ChangeAt Go.RowKit
theorem aR9(os:Os)(started:os.Started)(H:Type)(enc:TypeId×Value->H):
  ReturnsInHanded {} checked os 5 .any (λw args=>(Rows.daemonTwiceSpec.pre enc prog Tryz.f5 Rows.daemonTwiceRow.domain false w args/\laidMetH prog Rows.daemonTwiceRow.laid w)/\sizedMet enc prog Tryz.f5 (OpenSpec.ofChange Rows.daemonTwiceSpec) false w args) (Rows.daemonTwiceSpec.post enc prog Tryz.f5 false true false false):=by
 refine returnsInHanded_of_change_and (C:=checked) (X:=λw _=>laidMetH prog Rows.daemonTwiceRow.laid w) (λ_ _ _ Z h=>h.of_heap Z) own started n2 func5
  (ChangeSpec.witness_shaped (enc:=enc) (C:=checked) (os:=os) (X:=λw _=>laidMetH prog Rows.daemonTwiceRow.laid w) false (World.laidAll prog os Rows.daemonTwiceRow.laid) #[.int .u8 0,.slice none 0 0,.string ⟨#[]⟩,.string ⟨#[]⟩] 8 (World.laidAll_os _ _ _)
   (World.shaped_of_ZipB n2 n2) n2 n2 n2
   (by rw[MakeChecks.laidMetH_plain _ _ _ n2];exact laidMet_laidAll _ n2 n2)) ?_
 intro W base args bk gs before I O Q3 _ z _;have J:∀(j:Nat) t v,Tryz.f5.params[j]?=some t->args[j]?=some v->Value.okWide prog W .any base t v:=I;have Cg:=O;obtain⟨p,q,Ca,Am,rfl,EU,jn⟩:=O;have T:DataW.TrodAll enc prog W 0 (λ_=>true) true Tryz.f5.params.toList args.toList bk p:=Ca
 rw[params5]at T J;obtain⟨v0,Ty,d0,Qr,nf,wg,Q1,rfl,rfl,aw,br⟩:=trodAll_cons T;obtain⟨v1,Tz,d1,Qs,cq,aP,rfl,rfl,rfl,h1,a6⟩:=trodAll_cons br;obtain⟨v2,aCx,d2,Zu,cT,aR,rfl,rfl,rfl,h2,a8⟩:=trodAll_cons a6;obtain⟨v3,aYp,d3,aXd,dP,bH,rfl,rfl,rfl,h3,bb⟩:=trodAll_cons a8;obtain⟨rfl,rfl,rfl⟩:=trodAll_nil bb;obtain rfl:args= #[v0,v1,v2,v3]:=by cases args;simp_all
 obtain⟨rfl,rfl⟩:=trodVars_none Am;have CR:∀x∈nf,x.block<W.heap.size:=by obtain⟨m,hm⟩:=aw;exact DataW.trod_lt m _ _ _ hm
 obtain⟨wv,kT,df⟩:=uw n2 (J 0 5 v0 rfl rfl) aw
 obtain⟨ja,rfl⟩:=K6 kT;have ey:∀x∈cq,x.block<W.heap.size:=by obtain⟨m,hm⟩:=h1;exact DataW.trod_lt m _ _ _ hm
 obtain⟨fY,s1,cP⟩:=uw n2 (J 1 22 v1 rfl rfl) h1
 obtain⟨ca,rfl,Sg⟩:=No s1;have fq:∀x∈cT,x.block<W.heap.size:=by obtain⟨m,hm⟩:=h2;exact DataW.trod_lt m _ _ _ hm
 obtain⟨dW,s2,dE⟩:=uw n2 (J 2 9 v2 rfl rfl) h2
 obtain⟨bo,rfl⟩:=KL s2;have K:∀x∈dP,x.block<W.heap.size:=by obtain⟨m,hm⟩:=h3;exact DataW.trod_lt m _ _ _ hm
 obtain⟨gy,ld,fX⟩:=uw n2 (J 3 9 v3 rfl rfl) h3
 obtain⟨hG,rfl⟩:=KL ld;have V:laidMetH prog Rows.daemonTwiceRow.laid W:=z;rw[MakeChecks.laidMetH_plain _ _ _ n2]at V
 have hl:Laid (tH W):=K0 (rest:=Rows.daemonTwiceRow.laid.tail) V;refine(MZ (aHl ja false ca bo hG []) (Nb<|ua df (ua cP (ua dE (ua fX Nz))))).mono λe DI ⟨he,U⟩=>?_
 subst he;exact⟨_,rfl,_,_,_,[],_,[],Cg,trodAll_mk1<|shut_bool underlying4 _,(trodAll_cons_mk (Below.trod ux n2 (lT n2) aw U CR) (trodAll_cons_mk (Below.trod ux n2 (lT n2) h1 U ey)<|trodAll_cons_mk (Below.trod ux n2 (lT n2) h2 U fq) (trodAll_cons_mk (Below.trod ux n2 (lT n2) h3 U K) trodAll_mk0))),rfl,U.frame _,λh=>by cases h⟩
theorem BF{a b:Bool}(h:a=true)(k:b=true):(a&&b)=true:=by rw[h,k];rfl
theorem aDc:Tryz.pinned.checked.prog.funcNamed Rows.daemonTwiceRow.func=some 5:=n2
theorem aDd:joinedFacts Tryz.pinned.checked.prog 5 Tryz.f5 Rows.daemonTwiceSpec Rows.daemonTwiceRow=true:=by
 unfold joinedFacts;repeat' refine BF ?_ ?_
 all_goals(as_aux_lemma=>kernel_rfl)
theorem aC6:Rows.DaemonTwiceSaid:=
 OpenClaim.holds_of_wide 5 Tryz.f5 rfl rfl rfl rfl rfl rfl rfl ⟨rfl,rfl,rfl,rfl,rfl⟩ rfl rfl rfl rfl rfl aDc func5 aDd
  (lT n2) (by unfold Func.isWrapper;first|(rw[aA (by decide+kernel)];kernel_rfl)|(rw[aj (by decide+kernel)];exact⟨rfl,rfl⟩))
  (λos started H enc _=>aR9 os started H enc)
theorem goes_no {P : Program} (h : (P.funcs.toList.all fun fn => !fn.goes) = true) (c : OpenClaim) (hs : c.start = .entering) : false = c.goesBy P := by
  have h1 : ∀ fn ∈ P.funcs, fn.goes = false := fun fn hm => by simpa using List.all_eq_true.1 h fn (Array.mem_toList_iff.2 hm)
  have h2 : P.funcs.any Func.goes = false := by
    rw [Array.any_eq_false']
    intro fn hm
    rw [h1 fn hm]
    decide
  have h3 : ∀ f, P.goes f = false := fun f => by
    unfold Program.goes
    rw [h2, Bool.and_false, Bool.or_false]
    rw [List.any_eq_false]
    intro g _
    cases hf : P.funcs[g]? with
    | none => simp
    | some fn => simp [h1 fn (Array.mem_of_getElem? hf)]
  unfold OpenClaim.goesBy Program.goesAt Program.goesFrom
  rw [hs]
  cases P.funcNamed c.func with
  | none => rfl
  | some f => simp [h3 f]
theorem goes_all : (Tryz.pinned.checked.prog.funcs.toList.all fun fn => !fn.goes) = true := by kernel_rfl
theorem provedDaemonTwice:Rows.DaemonTwiceCardSaid:=
 Claim7.holds_tied_plain_at .later [] [.data,.data,.pinned] true (true,"31c076e2f65111c219a52b48c19c5d51bf8fd5c0df349b2344d7f754092b6c8c") true aC6 (λ_ h=>by cases h) n2 (λ_ h=>by cases h) daemonTwice_row_tie rfl ⟨rfl,rfl⟩ n2 rfl
  (λf fn J U=>by
   obtain rfl:f=5:=qP ((show prog.funcNamed "gunwale/gunwalelaw23.DaemonTwice" =some 5 by kernel_rfl).symm.trans J)|>.symm
   obtain rfl:fn=Tryz.f5:=(qP (func5.symm.trans U)).symm;exact⟨n2,λj t ah=>by
    rw[params5]at ah;have hm:t∈[5,22,9,9]:=by simpa using F9 ah
    have K:([5,22,9,9].all λu=> !prog.wantsStandIn u)=true:=n2
    exact(show prog.wantsStandIn t=false by simpa using gm.1 K t hm)⟩)
  (goes_no goes_all _ rfl)
end Go.Proofs.YtnmamncmpklliaaGreatDoor
