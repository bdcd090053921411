/- The row of CoreGuards: the walk's contract, put into the row's own words. No condition. -/
import Derived.Test.YtennnelammaapaaGreatDoorWorkBL
import Derived.Test.YtennnelammaapaaGreatDoorRows
import Derived.Test.YtennnelammaapaaGreatDoorCards
import Derived.Test.YtennnelammaapaaGreatDoorTie
import Derived.LaidMore
import Derived.Lay
import Derived.SevenTiedAt
set_option linter.unusedSimpArgs false
set_option linter.unusedVariables false
set_option linter.unusedSectionVars false
set_option maxRecDepth 100000
set_option maxHeartbeats 16000000
namespace Go.Proofs.YtennnelammaapaaGreatDoor
def kC:List Pl:=[.pure 0,.free,.free,.pure 0,.pure 0,.pure 0,.eff [true,true,true,true],.eff [false,false,false,false]]
attribute [go_sem] kC
theorem aES{x:Cor}(c:CI x)(a:Acn):∃(w:Int) (g ok:Bool),uA x a.pick=.tup [.int .i64 w,.bool g,.bool ok]∧
  ((doC x a).ops=x.ops∨∃(who:Nat) (t:Thr),a.start=false∧ok=true∧w=(who:Int)∧x.ths[who]?=some t∧nextT x.m.log.nodes t=⟨3,0⟩∧(doC x a).ops=x.ops++(doM x.m t.call).2.2):=by
 obtain⟨w,g,ok,hv⟩:∃(w:Int) (g ok:Bool),uA x a.pick=.tup [.int .i64 w,.bool g,.bool ok]:=by
  unfold uA;split
  ·exact⟨_,_,_,rfl⟩
  ·exact⟨_,_,_,rfl⟩
 refine⟨w,g,ok,hv,?_⟩;unfold doC;split
 ·refine .inl ?_;unfold eC;split<;>rfl
 ·rename_i hs;rcases aMm x a.pick a.full with h|⟨who,t,h1,h2,h3,h4⟩
  ·exact .inl h
  ·unfold uA at hv;rw[h1]at hv;simp only[AV.tup.injEq,List.cons.injEq,AV.int.injEq,AV.bool.injEq,true_and,and_true]at hv;exact .inr ⟨who,t,by simpa using hs,hv.2.2.symm,hv.1.symm,h2,h3,h4⟩
theorem aI9(b:Bool)(l:List Acn)(H:AHeap):bH Tryz.prog 8 [.sl b (l.map qO)] H (.bool true):=by
 refine fO Tryz.func8 ?_;have hfew:=wS b l;have hnw:=sG 0;obtain⟨x0,hx0⟩:∃x0,tP 0=(x0,0):=⟨_,rfl⟩;have hb0:=uS hx0;rw[hx0]at hnw;have haw:=mB;simp only[eM,iN,kE]at hnw;cases hfe:sQ l with
 |false=>
  rw[hfe]at hfew;repeat' first|(refine gS ?_;simp only[go_sem])|refine gA ?_|(refine gD ?_ ?_<;>intro h<;>try exact aA h)|fail
  exact dY (.refl _)
 |true=>
  rw[hfe]at hfew;obtain⟨hcs,hl2⟩:=aBA hfe;repeat' first|(refine gS ?_;simp only[go_sem])|refine gA ?_|(refine gD ?_ ?_<;>intro h<;>try exact aA h)|fail
  refine aI (ι:=Nat×Cor×AHeap) (fun s=>[(0,.sl b (l.map qO)),(3,.bool true),(4,.ref H.length 0 0),(6,.int .i64 s.1)]) (fun s=>H++(.cells 0 (eM s.2.1).cells::s.2.2)) (fun s=>s.1≤l.length∧CB s.1 s.2.1) (fun s=>l.length-s.1) (0,x0,[]) ⟨zAo _,hb0⟩ ?_ rfl ?_
  ·simp[go_sem]
  rintro⟨k,x,M⟩ ⟨hk,hb⟩;simp only at hk hb ⊢;obtain⟨G,hG⟩:∃G,H++(.cells 0 (eM x).cells::M)=G:=⟨_,rfl⟩;rw[hG];have g0:hget G H.length=.cells 0 (eM x).cells:=by rw[←hG];simp only[go_sem]
  have g1:=aG g0 trivial;have g2:=cC g0 trivial;have gs:∀X,aB G H.length X=H++(X::M):=fun X=>by rw[←hG];simp only[go_sem]
  by_cases hlt:k<l.length
  ·have hgd:=aN qO hlt;have hcc:=hcs _ (zAK hlt);obtain⟨a,hae⟩:∃a,a=l[k]:=⟨_,rfl⟩;rw[←hae]at hgd hcc;have hdo:=aBB x hb (by omega) a
   have hb2:=hb.act hcc;have hst:=aHF hb.ci a;obtain⟨y,hy⟩:∃y,doC x a=y:=⟨_,rfl⟩;rw[hy]at hdo hb2 hst;simp only[iN,kE,eM,qO]at hdo hgd g0;have hli:decide ((k:Int)<(l.length:Int))=true:=dT;have hk0:((0:Int)≤(k:Int))=True:=zAC (by omega)
   have hki:((k:Int)<(l.length:Int))=True:=zAC (by omega)
   obtain⟨w,gb,ok,e1,hcase⟩:=aES hb.ci a;rw[hy]at hcase;have hpk:=aAy false false false false false false false false false x a.pick (by have:=hb.ci.n;omega)
   rw[e1]at hpk;simp only[iN,kE]at hpk;have hol:x.ops.length≤y.ops.length:=by obtain⟨o,ho⟩:=hst.ops;rw[←ho,zAa];omega
   have hol2:y.ops.length≤200:=by have:=hb2.ci.ops;have:=hb2.ci.mi.cap;omega
   have d0:decide ((y.ops.length:Int)<(x.ops.length:Int))=false:=dF;have dc:(decide ((x.ops.length:Int)<(y.ops.length:Int))&&(a.start|| !ok||decide ((x.ths.length:Int)≤w)))=false:=by
    rcases hcase with h|⟨who,t,h1,h2,h3,h4,h5⟩
    ·rw[h,dF];rfl
    ·have:=(eT.1 h4).1;have h6:decide ((x.ths.length:Int)≤(who:Int))=false:=dF;rw[h1,h2,h3,h6];simp
   repeat' first|((first|refine mx [8] kC ?_|refine gS ?_);simp only[go_sem,g0,g1,g2,hgd,hli,hlt,hki,hk0,d0,dc,iN,kE])|refine gA ?_|(refine gD ?_ ?_<;>intro h<;>try exact aA h)|fail
   obtain⟨G2,hG2⟩:∃G2,G++[.cells 0 (eM y).cells]=G2:=⟨_,rfl⟩;have p1:hget G2 H.length=.cells 0 (eM x).cells:=by rw[←hG2];simp only[iN,kE,eM];exact g1 _
   have p2:hget G2 G.length=.cells 0 (eM y).cells:=by rw[←hG2];simp only[go_sem]
   simp only[iN,kE,eM,AV.cells]at hG2 p1 p2;rw[hG2];refine aI (ι:=Nat×AHeap) (fun s=>[(0,.sl b (l.map qO)),(3,.bool true),(4,.ref H.length 0 0),(6,.int .i64 k),(7,.ref G.length 0 0),(8,.int .i64 w),(11,.int .i64 s.1)]) (fun s=>G2++s.2) (fun s=>x.ops.length≤s.1∧s.1≤y.ops.length) (fun s=>y.ops.length-s.1) (x.ops.length,[]) ⟨zAf _,hol⟩ ?_ (zAd _).symm ?_
   ·simp[go_sem]
   rintro⟨q,N⟩ ⟨hq0,hq1⟩;simp only at hq0 hq1 ⊢;obtain⟨G3,hG3⟩:∃G3,G2++N=G3:=⟨_,rfl⟩;have q1:=aG p1 trivial N;have q2:=aG p2 trivial N;rw[hG3]at q1 q2 ⊢;have q3:=aG q1 trivial;have q4:=aG q2 trivial;have q5:=cC q1 trivial;by_cases hq:q<y.ops.length
   ·have hli2:decide ((q:Int)<(y.ops.length:Int))=true:=dT;rcases hcase with h|⟨who,t, -, -,rfl,h4,h5,h6⟩
    ·rw[h]at hq;omega
    obtain⟨hwl,hte⟩:=eT.1 h4;have hgt:=aN thr hwl;rw[hte]at hgt;have hw0:((0:Int)≤(who:Int))=True:=zAC (by omega)
    have hw1:((who:Int)<(x.ths.length:Int))=True:=zAC (by omega)
    have hgq:=aN opA hq;obtain⟨o,ho⟩:∃o,y.ops[q]=o:=⟨_,rfl⟩;have hmem:o∈(doM x.m t.call).2.2:=by
     have h7:y.ops[q]?=some o:=by rw[←ho];exact zAb hq
     rw[h6,zAV hq0]at h7;exact zAp h7
    rw[ho]at hgq;simp only[thr]at hgt;simp only[opA]at hgq;by_cases hk13:t.call.kind=13
    ·have dk:decide (t.call.kind=13)=true:=zAj hk13;repeat' first|((first|refine mx [8] kC ?_|refine gS ?_);simp only[go_sem,q1,q2,q3,q4,q5,hgt,hgq,hw0,hw1,hli2,dk])|refine gA ?_|(refine gD ?_ ?_<;>intro h<;>try exact aA h)|fail
     exact⟨(k+1,y,M++[.cells 0 (eM y).cells]++N),⟨hlt,hb2⟩,by simp only;omega,zAx _ (aS hlt (by omega)),by rw[←hG3,←hG2,zAr,g2,gs];simp;rfl⟩
    ·have dk:decide (t.call.kind=13)=false:=zAg hk13;obtain⟨gu1,gu2,gu3⟩:=aMn hb.ci h5 hk13 hmem;have hfi:=aR7 false x.m.log.nodes o.node;have hfrom:(!(findI x.m.log.nodes o.node).isSome||decide (((findI x.m.log.nodes o.node).getD nd0).parent∈t.has))=true:=by
      cases hf:findI x.m.log.nodes o.node with
      |none=>rfl
      |some n=>exact zAj (gu1 n hf)
     have hto:(decide (o.kind=2)||decide (o.parent=2)||decide (o.parent∈t.has))=true:=by
      rcases gu2 with h|h|h
      ·rw[zAj h];rfl
      ·rw[zAj h,Bool.or_true,Bool.true_or]
      ·rw[zAj h,Bool.or_true]
     have hsh:(turnsK t.call&& !decide ((1:Int)∈t.has))=false:=by
      cases ht:turnsK t.call with
      |false=>rfl
      |true=>rw[zAj (gu3 ht)];rfl
     have hcs2:=hb.ci.cs t (zAp h4);obtain⟨f,ls,hlk⟩:∃(f:Bool) (ls:List AV),∀H,bH Tryz.prog 24 [.sl true [],dS t.call] H (.tup [.sl f ls,.bool (turnsK t.call)]):=by
      have:=aLz true [] t.call hcs2.path hcs2.to (zAo _);cases ht:turnsK t.call with
      |false=>rw[ht]at this;exact⟨_,_,this⟩
      |true=>rw[ht]at this;exact⟨_,_,this⟩
     have hh:=fun n=>aPF false t.has n
     simp only[ndV,ndA]at hfi;simp only[dS]at hlk;generalize(findI x.m.log.nodes o.node).getD nd0=n0 at *;generalize(findI x.m.log.nodes o.node).isSome=wb at *;have hh1:=hh n0.parent;have hh2:=hh o.parent;have hh3:=hh 1;repeat' first|((first|refine mx [8] kC ?_|refine gS ?_);simp only[go_sem,q1,q2,q3,q4,q5,hgt,hgq,hw0,hw1,hli2,dk,hfrom,hto,hsh])|refine gA ?_|(refine gD ?_ ?_<;>intro h<;>try exact aA h)|fail
     exact⟨(q+1,N++[_,_,_]),⟨by simp only;omega,hq⟩,by simp only;omega,zAx _ (aS hq (by omega)),by rw[←hG3,zAr]⟩
   ·have hqe:q=y.ops.length:=by omega
    subst hqe;have hli2:decide ((y.ops.length:Int)<(y.ops.length:Int))=false:=by simp
    repeat' first|((first|refine mx [8] kC ?_|refine gS ?_);simp only[go_sem,q1,q2,q3,q4,q5,hli2])|refine gA ?_|(refine gD ?_ ?_<;>intro h<;>try exact aA h)|fail
    exact⟨(k+1,y,M++[.cells 0 (eM y).cells]++N),⟨hlt,hb2⟩,by simp only;omega,zAx _ (aS hlt (by omega)),by rw[←hG3,←hG2,zAr,g2,gs];simp;rfl⟩
  ·have hke:k=l.length:=by omega
   have hli:decide ((k:Int)<(l.length:Int))=false:=dF;repeat' first|(refine gS ?_;simp only[go_sem,hli])|refine gA ?_|(refine gD ?_ ?_<;>intro h<;>try exact aA h)|fail
   exact oF hG (by simp only[go_sem]) (.refl _)
open Go.ChangeShapes Go.WideShapes Go.ChangeAt Go.RowKit
theorem yR(os:Os)(started:os.Started)(H:Type)(enc:TypeId×Value→H):
  ReturnsInHanded {} Tryz.checked os 8 .any (fun w args=>(Rows.coreGuardsSpec.pre enc Tryz.prog Tryz.f8 Rows.coreGuardsRow.domain false w args∧laidMetH Tryz.prog Rows.coreGuardsRow.laid w)∧sizedMet enc Tryz.prog Tryz.f8 (OpenSpec.ofChange Rows.coreGuardsSpec) false w args) (Rows.coreGuardsSpec.post enc Tryz.prog Tryz.f8 false true false false):=by
 refine returnsInHanded_of_change_and (C:=Tryz.checked) (X:=fun w _=>laidMetH Tryz.prog Rows.coreGuardsRow.laid w) (fun _ _ _ hh h=>h.of_heap hh) own started (by kernel_rfl) Tryz.func8
  (ChangeSpec.witness_shaped (enc:=enc) (C:=Tryz.checked) (os:=os) (X:=fun w _=>laidMetH Tryz.prog Rows.coreGuardsRow.laid w) false (World.laidAll Tryz.prog os Rows.coreGuardsRow.laid) #[.slice none 0 0] 8 (World.laidAll_os _ _ _)
   (World.shaped_of_ZipB (by kernel_rfl) (by kernel_rfl)) (by kernel_rfl) (by kernel_rfl) (by kernel_rfl)
   (by rw[MakeChecks.laidMetH_plain _ _ _ (by kernel_rfl)];exact laidMet_laidAll _ (by kernel_rfl) (by kernel_rfl))) ?_
 intro W base args ds gs before hval0 hW hcnd _ hL _;have hval:∀(j:Nat) t v,Tryz.f8.params[j]?=some t→args[j]?=some v→Value.okWide Tryz.prog W .any base t v:=hval0;have hW':=hW;obtain⟨p,q,hA0,hV,rfl,hfz,hnd⟩:=hW;have hA:DataW.TrodAll enc Tryz.prog W 0 (fun _=>true) true Tryz.f8.params.toList args.toList ds p:=hA0
 rw[Tryz.params8]at hA hval;obtain⟨v0,vs0,d0,ds0,p0,q0,hargs,rfl,rfl,h0,r0⟩:=trodAll_cons hA;obtain⟨rfl,rfl,rfl⟩:=trodAll_nil r0;obtain rfl:args= #[v0]:=by cases args;simp_all
 obtain⟨rfl,rfl⟩:=trodVars_none hV;have lt0:∀x∈p0,x.block<W.heap.size:=by obtain⟨m,hm⟩:=h0;exact DataW.trod_lt m _ _ _ hm
 obtain⟨x0,s0,w0⟩:=nE (by kernel_rfl) (hval 0 22 v0 rfl rfl) h0
 obtain⟨l0,rfl,ll0⟩:=wT s0;refine(kL (aI9 false l0 []) (lX (jJ w0 oO))).mono fun e W' ⟨he,bel⟩=>?_
 subst he;exact⟨_,rfl,_,_,_,[],_,[],hW',trodAll_mk1 (shut_bool Tryz.underlying4 _),(trodAll_cons_mk (Below.trod nF (by kernel_rfl) (zAQ (by kernel_rfl)) h0 bel lt0) trodAll_mk0),rfl,bel.frame _,fun h=>by cases h⟩
theorem sR{a b:Bool}(h:a=true)(k:b=true):(a&&b)=true:=by rw[h,k];rfl
theorem aDx:Tryz.pinned.checked.prog.funcNamed Rows.coreGuardsRow.func=some 8:=by kernel_rfl
theorem aDy:joinedFacts Tryz.pinned.checked.prog 8 Tryz.f8 Rows.coreGuardsSpec Rows.coreGuardsRow=true:=by
 unfold joinedFacts;repeat' refine sR ?_ ?_
 all_goals(as_aux_lemma=>kernel_rfl)
theorem aBS:Rows.CoreGuardsSaid:=
 OpenClaim.holds_of_wide 8 Tryz.f8 rfl rfl rfl rfl rfl rfl rfl ⟨rfl,rfl,rfl,rfl,rfl⟩ rfl rfl rfl rfl rfl aDx Tryz.func8 aDy
  (zAQ (by kernel_rfl)) (by unfold Func.isWrapper;first|(rw[zAl (by decide+kernel)];kernel_rfl)|(rw[zAe (by decide+kernel)];exact⟨rfl,rfl⟩))
  (fun os started H enc _=>yR os started H enc)
theorem provedCoreGuards:Rows.CoreGuardsCardSaid:=
 Claim7.holds_tied_plain_at .later [] [.data,.pinned] true (true,"93fba198f5d2af12b2f6eb48584f4df6b621c8d2cb8552a9ff7f35d8a508c024") true aBS (fun _ h=>by cases h) (by kernel_rfl) (fun _ h=>by cases h) coreGuards_row_tie rfl ⟨rfl,rfl⟩ (by kernel_rfl) rfl
  (fun f fn hf hfn=>by
   obtain rfl:f=8:=zBa ((show Tryz.prog.funcNamed "gunwale/gunwalelaw21.CoreGuards" =some 8 by kernel_rfl).symm.trans hf)|>.symm
   obtain rfl:fn=Tryz.f8:=(zBa (Tryz.func8.symm.trans hfn)).symm;exact⟨by kernel_rfl,fun j t ht=>by
    rw[Tryz.params8]at ht;have hm:t∈[22]:=by simpa using zBf ht
    have hall:([22].all fun u=> !Tryz.prog.wantsStandIn u)=true:=by kernel_rfl
    exact(show Tryz.prog.wantsStandIn t=false by simpa using zAJ.1 hall t hm)⟩)
  (by kernel_rfl)
end Go.Proofs.YtennnelammaapaaGreatDoor
