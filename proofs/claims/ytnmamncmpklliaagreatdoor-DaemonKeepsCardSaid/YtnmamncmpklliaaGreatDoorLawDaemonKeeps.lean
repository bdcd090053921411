/- The row of DaemonKeeps: the walk's contract, put into the row's own words. No condition. -/
import Derived.Test.YtnmamncmpklliaaGreatDoorWorkCA
import Derived.Test.YtnmamncmpklliaaGreatDoorRows
import Derived.Test.YtnmamncmpklliaaGreatDoorCards
import Derived.Test.YtnmamncmpklliaaGreatDoorTie
import Derived.LaidMore
import Derived.Lay
import Derived.SevenTiedAt
set_option linter.unusedSimpArgs false
set_option linter.unusedVariables false
set_option linter.unusedSectionVars false
set_option maxRecDepth 100000
set_option maxHeartbeats 16000000
namespace Go.Proofs.YtnmamncmpklliaaGreatDoor
open Go.Proofs.Tryz
def z8:List cu:=[.pure 0,.free,.free,.pure 0,.pure 0,.pure 0,.free,.free,.free,.eff [true,true,true,true],.eff [false,false,false,false],.free]
attribute [go_sem] z8
theorem aHk(s:Int)(f:Bool)(l:List Ord)(H:ab):aM prog 3 [.int .u8 s,.sl f<|l.map hM] H (.bool true):=by
 refine po λk1 k2=>?_
 have hs:0<=s/\s<=255:=GK k1;refine aZ func3 ?_;have HR:=Nq;have lE:IntKind.i64.wrap s=s:=bI;have J:=Dh 1 s;have ax:=Kt f l 100;obtain⟨ki,mS⟩:∃ki,sy l 100=ki:=⟨_,rfl⟩;rw[mS]at ax;obtain⟨X,cS⟩:∃X,jK 1 s=X:=⟨_,rfl⟩;have Z:=λh=>eX.new (r:=1) (s:=s) iV h
 rw[cS]at J Z;obtain⟨d,e⟩:=X;simp only at J Z;by_cases mT:ki=true/\e=0
 ·obtain⟨rfl,rfl⟩:=mT;have Z:=Z rfl;have iZ:=KM mS;have hJ:=(show l.all wb=true/\(l.length:Int)<=100 by unfold sy at mS;simpa using mS).2
  obtain⟨D,cc⟩:∃D:Nat->dJ,∀q,D q=zR d (l.take q):=⟨_,λ_=>rfl⟩
  have vt:∀q,eX q 1 (D q):=λq=>by
   have:=Z.Ez (l:=l) (λo aD=>(iZ o aD).1) q
   rw[j9]at this;rw[cc];exact this
  have vu:∀q (h:q<l.length),D (q+1)=(sX (D q) l[q]).1:=λq h=>by rw[cc,cc];exact I9 h
  have aw:D 0=d:=cc 0;rw[<-aw]at J;clear aw Z cS;unfold cR at J;simp only[en]at J;repeat' first|(refine ae ?_;simp only[go_sem,lE])|refine bt ?_|(refine bB ?_ ?_<;>intro h<;>try exact bA h)|fail
  refine cE (ι:=Nat×ab) (λx=>[(1,.sl f<|l.map hM),(5,.bool true),(6,.ref H.length 0 0),(8,.int .i64 x.1)]) (λx=>H++.cells 0 (cR<|D x.1).cells::x.2) (λx=>x.1<=l.length) (λx=>l.length-x.1) (0,[]) (bW _) ?_ rfl ?_
  ·simp[go_sem]
  rintro⟨q,M⟩ aJ;simp only at aJ ⊢;obtain⟨x,J⟩:∃x,D q=x:=⟨_,rfl⟩;rw[J];obtain⟨G,aW⟩:∃G,H++.cells 0 (cR x).cells::M=G:=⟨_,rfl⟩;rw[aW];have g0:ay G H.length=.cells 0 (cR x).cells:=by rw[<-aW];simp only[go_sem]
  have gs:∀X,ar G H.length X=H++X::M:=λX=>by rw[<-aW];simp only[go_sem]
  have k0:=bC g0 trivial;have vq:=gN g0 trivial;unfold cR at g0 k0 ⊢;simp only[en,I.cells]at g0 k0 ⊢;by_cases K:q<l.length
  ·have ck:=di hM K;have bg:decide ((q:Int)<(l.length:Int))=true:=cK;have Mg:=vt q;have yT:=Mg.fF.do iV (o:=l[q]) (by have:=(iZ _ (ga K)).2;omega)
   have O:=G6 (D q) l[q] yT;obtain⟨y,aH⟩:∃y,D (q+1)=y:=⟨_,rfl⟩;rw[<-vu q K,aH,J]at O;have HW:=vu q K;rw[aH,J]at HW;rw[J]at Mg;have py:=Mg.rU l[q].cz;generalize l[q]=o at *;by_cases h4:o.kind=4;case neg=>
    have Q6:decide (o.kind=4)=false:=bN h4;simp only[hM]at ck O;unfold cR at O;simp only[en]at O;repeat' first|((first|refine mx [8] z8 ?_|refine ae ?_);simp only[go_sem,ck,bg,K,g0,k0,gs,vq,Q6])|refine bt ?_|(refine bB ?_ ?_<;>intro h<;>try exact bA h)|fail
    exact⟨(q+1,M++[.cells 0 (cR y).cells]),K,by simp only;omega,bU _<|dA K iV,by simp only[aH];unfold cR;simp only[en,I.cells,dr,iN]⟩
   have HV:sX x o=lx x o.cz:=by unfold sX;rw[aj iV,aj iV,aj iV,aA h4]
   rw[HV]at O HW;obtain⟨c1,tX,k,nY⟩:=py;rw[<-HW]at nY;rw[c1]at O;have oa:=nY.kept;have nA:=nY.le;have aX0:=nY.len;have vR:=nY.sync;have Mz:y.c.ops=x.c.ops.take k:=by rw[nY.c]
   have Is:=Kd false false (x.c.ops.take k)<|x.c.ops.take k;rw[cD rfl]at Is;have aXL:=Mg.fF.b.ci.n;simp only[hM,h4]at ck O;unfold cR at O;simp only[en,Mz]at O;repeat' first|((first|refine mx [8] z8 ?_|refine ae ?_);simp only[go_sem,ck,bg,K,g0,k0,gs,vq,h4])|refine bt ?_|(refine bB ?_ ?_<;>intro h<;>try exact bA h)|fail
   have aPW:(x.c.ops.take k).length=k:=by rw[eK];omega
   have vL:(List.map bh x.c.ops).take k=List.map bh (x.c.ops.take k):=rI.symm;obtain⟨Y,ji⟩:∃Y:List I,Y=(cR {y with c:={y.c with ops:=x.c.ops.take k}}).cells:=⟨_,rfl⟩;refine cE (ι:=Nat×Int×ab) (λz=>[(1,.sl f<|l.map hM),(5,.bool true),(6,.ref H.length 0 0),(8,.int .i64 q),(9,.ref G.length 0 0),(10,.int .i64 0),(11,.int .i64 z.2.1),(12,.int .i64 z.1)])
    (λz=>G++.cells 0 Y::z.2.2) (λz=>z.1<=x.c.aC.length/\z.2.1<=k) (λz=>x.c.aC.length-z.1) (0,0,[]) ⟨bW _,by simp only;omega⟩ ?_ (by rw[ji];rfl) ?_
   ·simp[go_sem]
   rintro⟨j,v,M2⟩ ⟨aq,aG⟩;simp only at aq aG ⊢;obtain⟨cW,T⟩:∃cW,G++.cells 0 Y::M2=cW:=⟨_,rfl⟩;rw[T];have V:=k0 (.cells 0 Y::M2);rw[T]at V;have cq:ay cW G.length=.cells 0 Y:=by rw[<-T];simp only[go_sem]
   have ps:∀X,ar cW H.length X=H++X::(M++.cells 0 Y::M2):=λX=>by rw[<-T,vq,gs,dr,iN]
   have I2:=bC V trivial;have Sv:=bC cq trivial;have aQ4:=gN V trivial;by_cases U:j<x.c.aC.length
   ·have Iu:=di aU U;have EW:decide ((j:Int)<(x.c.aC.length:Int))=true:=cK;have mv:=vR _<|ga U;generalize x.c.aC[j]=w at *;simp only[aU]at Iu;by_cases bZ:w.call.kind=12;case neg=>
     have aNE:decide (w.call.kind=12)=false:=bN bZ;repeat' first|((first|refine mx [8] z8 ?_|refine ae ?_);simp only[go_sem,Iu,EW,U,V,I2,aNE])|refine bt ?_|(refine bB ?_ ?_<;>intro h<;>try exact bA h)|fail
     exact⟨(j+1,v,M2++[_]),⟨U,aG⟩,by simp only;omega,⟨rfl,bU _<|dA U iV⟩,by rw[<-T,dr,iN]⟩
    by_cases bX:w.ended=true;case neg=>
     have vr:w.ended=false:=by simpa using bX
     repeat' first|((first|refine mx [8] z8 ?_|refine ae ?_);simp only[go_sem,Iu,EW,U,V,I2,bZ,vr])|refine bt ?_|(refine bB ?_ ?_<;>intro h<;>try exact bA h)|fail
     exact⟨(j+1,v,M2++[_]),⟨U,aG⟩,by simp only;omega,⟨rfl,bU _<|dA U iV⟩,by rw[<-T,dr,iN]⟩
    by_cases kj:w.ec.err=0;case neg=>
     have aNK:decide (w.ec.err=0)=false:=bN kj;repeat' first|((first|refine mx [8] z8 ?_|refine ae ?_);simp only[go_sem,Iu,EW,U,V,I2,bZ,bX,aNK])|refine bt ?_|(refine bB ?_ ?_<;>intro h<;>try exact bA h)|fail
     exact⟨(j+1,v,M2++[_]),⟨U,aG⟩,by simp only;omega,⟨rfl,bU _<|dA U iV⟩,by rw[<-T,dr,iN]⟩
    have jG:=mv bZ bX kj;repeat' first|((first|refine mx [8] z8 ?_|refine ae ?_);simp only[go_sem,Iu,EW,U,V,I2,bZ,bX,kj])|refine bt ?_|(refine bB ?_ ?_<;>intro h<;>try exact bA h)|fail
    exact⟨(j+1,max v w.upto,M2++[_]),⟨U,by simp only;omega⟩,by simp only;omega,⟨rfl,bU _<|dA U iV⟩,by rw[<-T,dr,iN]⟩
   ·have q8:j=x.c.aC.length:=iV
    subst q8;have EW:decide ((x.c.aC.length:Int)<(x.c.aC.length:Int))=false:=cQ;have c1:decide ((k:Int)<v)=false:=cQ;have c2:decide ((k:Int)<(k:Int))=false:=cQ;have iS:decide ((x.c.ops.length:Int)<(k:Int))=false:=cQ;have lq:((k:Int)<=(x.c.ops.length:Int))=True:=b5 iV
    have vn:(0<=(k:Int))=True:=b5 iV
    unfold cR at ji;simp only[en,I.cells]at ji;rw[ji]at cq Sv;repeat' first|((first|refine mx [8] z8 ?_|refine ae ?_);simp only[go_sem,EW,V,I2,cq,Sv,ps,aQ4,aPW,oa,vL,c1,c2,iS,lq,vn])|refine bt ?_|(refine bB ?_ ?_<;>intro h<;>try exact bA h)|fail
    exact⟨(q+1,M++.cells 0 Y::M2),K,by simp only;omega,bU _<|dA K iV,by simp only[aH,Mz]⟩
  ·have oc:q=l.length:=iV
   subst oc;have bg:decide ((l.length:Int)<(l.length:Int))=false:=cQ;repeat' first|(refine ae ?_;simp only[go_sem,bg])|refine bt ?_|(refine bB ?_ ?_<;>intro h<;>try exact bA h)|fail
   exact KI aW nb<|.of rfl
 ·unfold cR at J;simp only[en]at J;repeat' first|(refine ae ?_;simp only[go_sem,lE])|refine bt ?_|(refine bB ?_ ?_<;>intro h<;>try exact bA h)|fail
  ·exact aV<|.of rfl
  ·exfalso;simp at h;exact mT h
open Go.ChangeShapes Go.WideShapes Go.ChangeAt Go.RowKit
theorem aR7(os:Os)(started:os.Started)(H:Type)(enc:TypeId×Value->H):
  ReturnsInHanded {} checked os 3 .any (λw args=>(Rows.daemonKeepsSpec.pre enc prog Tryz.f3 Rows.daemonKeepsRow.domain false w args/\laidMetH prog Rows.daemonKeepsRow.laid w)/\sizedMet enc prog Tryz.f3 (OpenSpec.ofChange Rows.daemonKeepsSpec) false w args) (Rows.daemonKeepsSpec.post enc prog Tryz.f3 false true false false):=by
 refine returnsInHanded_of_change_and (C:=checked) (X:=λw _=>laidMetH prog Rows.daemonKeepsRow.laid w) (λ_ _ _ V h=>h.of_heap V) own started n2 func3
  (ChangeSpec.witness_shaped (enc:=enc) (C:=checked) (os:=os) (X:=λw _=>laidMetH prog Rows.daemonKeepsRow.laid w) false (World.laidAll prog os Rows.daemonKeepsRow.laid) #[.int .u8 0,.slice none 0 0] 8 (World.laidAll_os _ _ _)
   (World.shaped_of_ZipB n2 n2) n2 n2 n2
   (by rw[MakeChecks.laidMetH_plain _ _ _ n2];exact laidMet_laidAll _ n2 n2)) ?_
 intro W base args bk gs before Z K Q3 _ I _;have J:∀(j:Nat) t v,Tryz.f3.params[j]?=some t->args[j]?=some v->Value.okWide prog W .any base t v:=Z;have z:=K;obtain⟨p,q,Ca,Am,rfl,EU,jn⟩:=K;have O:DataW.TrodAll enc prog W 0 (λ_=>true) true Tryz.f3.params.toList args.toList bk p:=Ca
 rw[params3]at O J;obtain⟨v0,Ty,d0,Qr,nf,wg,Q1,rfl,rfl,aw,br⟩:=trodAll_cons O;obtain⟨v1,Tz,d1,Qs,cq,aP,rfl,rfl,rfl,h1,a6⟩:=trodAll_cons br;obtain⟨rfl,rfl,rfl⟩:=trodAll_nil a6;obtain rfl:args= #[v0,v1]:=by cases args;simp_all
 obtain⟨rfl,rfl⟩:=trodVars_none Am;have CR:∀x∈nf,x.block<W.heap.size:=by obtain⟨m,hm⟩:=aw;exact DataW.trod_lt m _ _ _ hm
 obtain⟨wv,kT,df⟩:=uw n2 (J 0 5 v0 rfl rfl) aw
 obtain⟨ja,rfl⟩:=K6 kT;have ey:∀x∈cq,x.block<W.heap.size:=by obtain⟨m,hm⟩:=h1;exact DataW.trod_lt m _ _ _ hm
 obtain⟨fY,s1,cP⟩:=uw n2 (J 1 22 v1 rfl rfl) h1
 obtain⟨ca,rfl,Sg⟩:=No s1;have T:laidMetH prog Rows.daemonKeepsRow.laid W:=I;rw[MakeChecks.laidMetH_plain _ _ _ n2]at T
 have hl:Laid (tH W):=K0 (rest:=Rows.daemonKeepsRow.laid.tail) T;refine(MZ (aHk ja false ca []) (Nb<|ua df (ua cP Nz))).mono λe DI ⟨he,U⟩=>?_
 subst he;exact⟨_,rfl,_,_,_,[],_,[],z,trodAll_mk1<|shut_bool underlying4 _,(trodAll_cons_mk (Below.trod ux n2 (lT n2) aw U CR) (trodAll_cons_mk (Below.trod ux n2 (lT n2) h1 U ey) trodAll_mk0)),rfl,U.frame _,λh=>by cases h⟩
theorem BF{a b:Bool}(h:a=true)(k:b=true):(a&&b)=true:=by rw[h,k];rfl
theorem aC3:Tryz.pinned.checked.prog.funcNamed Rows.daemonKeepsRow.func=some 3:=n2
theorem aC9:joinedFacts Tryz.pinned.checked.prog 3 Tryz.f3 Rows.daemonKeepsSpec Rows.daemonKeepsRow=true:=by
 unfold joinedFacts;repeat' refine BF ?_ ?_
 all_goals(as_aux_lemma=>kernel_rfl)
theorem aC4:Rows.DaemonKeepsSaid:=
 OpenClaim.holds_of_wide 3 Tryz.f3 rfl rfl rfl rfl rfl rfl rfl ⟨rfl,rfl,rfl,rfl,rfl⟩ rfl rfl rfl rfl rfl aC3 func3 aC9
  (lT n2) (by unfold Func.isWrapper;first|(rw[aA (by decide+kernel)];kernel_rfl)|(rw[aj (by decide+kernel)];exact⟨rfl,rfl⟩))
  (λos started H enc _=>aR7 os started H enc)
theorem goes_no {P : Program} (h : (P.funcs.toList.all fun fn => !fn.goes) = true) (c : OpenClaim) (hs : c.start = .entering) : false = c.goesBy P := by
  have h1 : ∀ fn ∈ P.funcs, fn.goes = false := fun fn hm => by simpa using List.all_eq_true.1 h fn (Array.mem_toList_iff.2 hm)
  have h2 : P.funcs.any Func.goes = false := by
    rw [Array.any_eq_false']
    intro fn hm
    rw [h1 fn hm]
    decide
  have h3 : ∀ f, P.goes f = false := fun f => by
    unfold Program.goes
    rw [h2, Bool.and_false, Bool.or_false]
    rw [List.any_eq_false]
    intro g _
    cases hf : P.funcs[g]? with
    | none => simp
    | some fn => simp [h1 fn (Array.mem_of_getElem? hf)]
  unfold OpenClaim.goesBy Program.goesAt Program.goesFrom
  rw [hs]
  cases P.funcNamed c.func with
  | none => rfl
  | some f => simp [h3 f]
theorem goes_all : (Tryz.pinned.checked.prog.funcs.toList.all fun fn => !fn.goes) = true := by kernel_rfl
theorem provedDaemonKeeps:Rows.DaemonKeepsCardSaid:=
 Claim7.holds_tied_plain_at .later [] [.data,.data,.pinned] true (true,"31c076e2f65111c219a52b48c19c5d51bf8fd5c0df349b2344d7f754092b6c8c") true aC4 (λ_ h=>by cases h) n2 (λ_ h=>by cases h) daemonKeeps_row_tie rfl ⟨rfl,rfl⟩ n2 rfl
  (λf fn J U=>by
   obtain rfl:f=3:=qP ((show prog.funcNamed "gunwale/gunwalelaw23.DaemonKeeps" =some 3 by kernel_rfl).symm.trans J)|>.symm
   obtain rfl:fn=Tryz.f3:=(qP (func3.symm.trans U)).symm;exact⟨n2,λj t ah=>by
    rw[params3]at ah;have hm:t∈[5,22]:=by simpa using F9 ah
    have K:([5,22].all λu=> !prog.wantsStandIn u)=true:=n2
    exact(show prog.wantsStandIn t=false by simpa using gm.1 K t hm)⟩)
  (goes_no goes_all _ rfl)
end Go.Proofs.YtnmamncmpklliaaGreatDoor
