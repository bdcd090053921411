/- The row of CoreOthers: the walk's contract, put into the row's own words. No condition. -/
import Derived.Test.YtennnelammaapaaGreatDoorWorkBL
import Derived.Test.YtennnelammaapaaGreatDoorRows
import Derived.Test.YtennnelammaapaaGreatDoorCards
import Derived.Test.YtennnelammaapaaGreatDoorTie
import Derived.LaidMore
import Derived.Lay
import Derived.SevenTiedAt
set_option linter.unusedSimpArgs false
set_option linter.unusedVariables false
set_option linter.unusedSectionVars false
set_option maxRecDepth 100000
set_option maxHeartbeats 16000000
namespace Go.Proofs.YtennnelammaapaaGreatDoor
def iJ:List Pl:=[.pure 0,.free,.free,.pure 0,.pure 0,.pure 0,.eff [true,true,true,true],.eff [false,false,false,false]]
attribute [go_sem] iJ
theorem aI8(b:Bool)(l:List Acn)(H:AHeap):bH Tryz.prog 7 [.sl b (l.map qO)] H (.bool true):=by
 refine fO Tryz.func7 ?_;have hfew:=wS b l;have hnw:=sG 0;obtain⟨x0,hx0⟩:∃x0,tP 0=(x0,0):=⟨_,rfl⟩;have hb0:=uS hx0;rw[hx0]at hnw;have haw:=mB;simp only[eM,iN,kE]at hnw;cases hfe:sQ l with
 |false=>
  rw[hfe]at hfew;repeat' first|(refine gS ?_;simp only[go_sem])|refine gA ?_|(refine gD ?_ ?_<;>intro h<;>try exact aA h)|fail
  exact dY (.refl _)
 |true=>
  rw[hfe]at hfew;obtain⟨hcs,hl2⟩:=aBA hfe;repeat' first|(refine gS ?_;simp only[go_sem])|refine gA ?_|(refine gD ?_ ?_<;>intro h<;>try exact aA h)|fail
  refine aI (ι:=Nat×Cor×AHeap) (fun s=>[(0,.sl b (l.map qO)),(3,.bool true),(4,.ref H.length 0 0),(6,.int .i64 s.1)]) (fun s=>H++(.cells 0 (eM s.2.1).cells::s.2.2)) (fun s=>s.1≤l.length∧CB s.1 s.2.1) (fun s=>l.length-s.1) (0,x0,[]) ⟨zAo _,hb0⟩ ?_ rfl ?_
  ·simp[go_sem]
  rintro⟨k,x,M⟩ ⟨hk,hb⟩;simp only at hk hb ⊢;obtain⟨G,hG⟩:∃G,H++(.cells 0 (eM x).cells::M)=G:=⟨_,rfl⟩;rw[hG];have g0:hget G H.length=.cells 0 (eM x).cells:=by rw[←hG];simp only[go_sem]
  have g1:=aG g0 trivial;have g2:=cC g0 trivial;have gs:∀X,aB G H.length X=H++(X::M):=fun X=>by rw[←hG];simp only[go_sem]
  by_cases hlt:k<l.length
  ·have hgd:=aN qO hlt;have hcc:=hcs _ (zAK hlt);obtain⟨a,hae⟩:∃a,a=l[k]:=⟨_,rfl⟩;rw[←hae]at hgd hcc;have hdo:=aBB x hb (by omega) a
   have hb2:=hb.act hcc;have hst:=aHF hb.ci a;obtain⟨y,hy⟩:∃y,doC x a=y:=⟨_,rfl⟩;rw[hy]at hdo hb2 hst;simp only[iN,kE,eM,qO]at hdo hgd g0;have hli:decide ((k:Int)<(l.length:Int))=true:=dT;have hk0:((0:Int)≤(k:Int))=True:=zAC (by omega)
   have hki:((k:Int)<(l.length:Int))=True:=zAC (by omega)
   have hn40:=hb2.ci.n;have hlx:=hst.len;have hl0:decide ((y.ths.length:Int)<(x.ths.length:Int))=false:=dF;repeat' first|((first|refine mx [8] iJ ?_|refine gS ?_);simp only[go_sem,g0,g1,g2,hgd,hli,hlt,hki,hk0,hl0,iN,kE])|refine gA ?_|(refine gD ?_ ?_<;>intro h<;>try exact aA h)|fail
   obtain⟨G2,hG2⟩:∃G2,G++[.cells 0 (eM y).cells]=G2:=⟨_,rfl⟩;have p1:hget G2 H.length=.cells 0 (eM x).cells:=by rw[←hG2];simp only[iN,kE,eM];exact g1 _
   have p2:hget G2 G.length=.cells 0 (eM y).cells:=by rw[←hG2];simp only[go_sem]
   simp only[iN,kE,eM,AV.cells]at hG2 p1 p2;rw[hG2];refine aI (ι:=Nat×AHeap) (fun s=>[(0,.sl b (l.map qO)),(3,.bool true),(4,.ref H.length 0 0),(6,.int .i64 k),(7,.ref G.length 0 0),(8,.int .i64 s.1)]) (fun s=>G2++s.2) (fun s=>s.1≤x.ths.length) (fun s=>x.ths.length-s.1) (0,[]) (zAo _) ?_ (zAd _).symm ?_
   ·simp[go_sem]
   rintro⟨j,N⟩ hj;simp only at hj ⊢;obtain⟨G3,hG3⟩:∃G3,G2++N=G3:=⟨_,rfl⟩;have q1:=aG p1 trivial N;have q2:=aG p2 trivial N;rw[hG3]at q1 q2 ⊢;have q3:=aG q1 trivial;have q4:=aG q2 trivial;by_cases hjl:j<x.ths.length
   ·have hjy:j<y.ths.length:=by omega
    have hgx:=aN thr hjl;have hgy:=aN thr hjy;have hli2:decide ((j:Int)<(x.ths.length:Int))=true:=dT;have hjy2:((j:Int)<(y.ths.length:Int))=True:=zAC (by omega)
    obtain⟨t',h1,hgo⟩:=hst.ths j _ (zAb hjl);have hsm:a.start=true→t'=x.ths[j]:=fun hs=>by
     have:=aGk hs j _ (zAb hjl);rw[hy,h1]at this;exact zBa this
    rw[zAb hjy]at h1;rw[zBa h1]at hgy;generalize x.ths[j]=t at *;have hone:=aG9 false false false false t.ans t'.ans;have hsame:=aLB false false false false false false t t';simp only[thr]at hgx hgy;simp only[anA]at hone;have f1:(t.ended&& !decide (t=t'))=false:=by
     cases he:t.ended with
     |false=>rfl
     |true=>rw[zAj (hgo.ended he).symm];rfl
    have f5:decide (t.begin_=t'.begin_)=true:=zAj hgo.begin_.symm;have f6:t'.call=t.call:=hgo.call;have f7:decide (t.done=true→(decide (t.ans=t'.ans)||decide (t.call.kind=12)&&decide (t'.ans.err=120))=true∧t'.done=true∧t.mark=t'.mark)=true:=zAj fun h=>by
     obtain⟨h1,h2, -,h3⟩:=hgo.done h;refine⟨?_,h1,h2.symm⟩;rcases h3 with e|⟨e1,e2⟩
     ·rw[zAj e.symm];rfl
     ·rw[zAj e1,e2,zB9];exact .inr rfl
    have f8:a.start=true→decide (t=t')=true:=fun h=>zAj (hsm h).symm
    replace f7:=zAQ f7;rw[f6]at hgy;simp only[pE,vS,f6]at hsame;cases hd:t.done with
    |false=>
     simp only[hd]at hsame;cases hs:a.start with
     |false=>
      repeat' first|((first|refine mx [8] iJ ?_|refine gS ?_);simp only[go_sem,q1,q2,q3,q4,hgx,hgy,hli2,hjy2,hgd,hki,hk0,f1,f5,hd,hs])|refine gA ?_|(refine gD ?_ ?_<;>intro h<;>try exact aA h)|fail
      exact⟨(j+1,N++[_,_]),hjl,by simp only;omega,zAx _ (aS hjl (by omega)),by rw[←hG3,zAr]⟩
     |true=>
      have f9:=f8 hs;repeat' first|((first|refine mx [8] iJ ?_|refine gS ?_);simp only[go_sem,q1,q2,q3,q4,hgx,hgy,hli2,hjy2,hgd,hki,hk0,f1,f5,hd,hs,f9])|refine gA ?_|(refine gD ?_ ?_<;>intro h<;>try exact aA h)|fail
      exact⟨(j+1,N++[_,_]),hjl,by simp only;omega,zAx _ (aS hjl (by omega)),by rw[←hG3,zAr]⟩
    |true=>
     obtain⟨d1,d2,d3⟩:=f7 hd;simp only[hd,d2]at hsame;replace d3:decide (t.mark=t'.mark)=true:=zAj d3;cases hs:a.start with
     |false=>
      repeat' first|((first|refine mx [8] iJ ?_|refine gS ?_);simp only[go_sem,q1,q2,q3,q4,hgx,hgy,hli2,hjy2,hgd,hki,hk0,f1,f5,hd,hs,d1,d2,d3])|refine gA ?_|(refine gD ?_ ?_<;>intro h<;>try exact aA h)|fail
      exact⟨(j+1,N++[_,_]),hjl,by simp only;omega,zAx _ (aS hjl (by omega)),by rw[←hG3,zAr]⟩
     |true=>
      have f9:=f8 hs;repeat' first|((first|refine mx [8] iJ ?_|refine gS ?_);simp only[go_sem,q1,q2,q3,q4,hgx,hgy,hli2,hjy2,hgd,hki,hk0,f1,f5,hd,hs,d1,d2,d3,f9])|refine gA ?_|(refine gD ?_ ?_<;>intro h<;>try exact aA h)|fail
      exact⟨(j+1,N++[_,_]),hjl,by simp only;omega,zAx _ (aS hjl (by omega)),by rw[←hG3,zAr]⟩
   ·have hje:j=x.ths.length:=by omega
    subst hje;have hli2:decide ((x.ths.length:Int)<(x.ths.length:Int))=false:=by simp
    have q5:=cC q1 trivial;repeat' first|(refine gS ?_;simp only[go_sem,q1,q2,q3,q4,q5,hli2])|refine gA ?_|(refine gD ?_ ?_<;>intro h<;>try exact aA h)|fail
    exact⟨(k+1,y,M++[.cells 0 (eM y).cells]++N),⟨hlt,hb2⟩,by simp only;omega,zAx _ (aS hlt (by omega)),by rw[←hG3,←hG2,zAr,g2,gs];simp;rfl⟩
  ·have hke:k=l.length:=by omega
   have hli:decide ((k:Int)<(l.length:Int))=false:=dF;repeat' first|(refine gS ?_;simp only[go_sem,hli])|refine gA ?_|(refine gD ?_ ?_<;>intro h<;>try exact aA h)|fail
   exact oF hG (by simp only[go_sem]) (.refl _)
open Go.ChangeShapes Go.WideShapes Go.ChangeAt Go.RowKit
theorem yQ(os:Os)(started:os.Started)(H:Type)(enc:TypeId×Value→H):
  ReturnsInHanded {} Tryz.checked os 7 .any (fun w args=>(Rows.coreOthersSpec.pre enc Tryz.prog Tryz.f7 Rows.coreOthersRow.domain false w args∧laidMetH Tryz.prog Rows.coreOthersRow.laid w)∧sizedMet enc Tryz.prog Tryz.f7 (OpenSpec.ofChange Rows.coreOthersSpec) false w args) (Rows.coreOthersSpec.post enc Tryz.prog Tryz.f7 false true false false):=by
 refine returnsInHanded_of_change_and (C:=Tryz.checked) (X:=fun w _=>laidMetH Tryz.prog Rows.coreOthersRow.laid w) (fun _ _ _ hh h=>h.of_heap hh) own started (by kernel_rfl) Tryz.func7
  (ChangeSpec.witness_shaped (enc:=enc) (C:=Tryz.checked) (os:=os) (X:=fun w _=>laidMetH Tryz.prog Rows.coreOthersRow.laid w) false (World.laidAll Tryz.prog os Rows.coreOthersRow.laid) #[.slice none 0 0] 8 (World.laidAll_os _ _ _)
   (World.shaped_of_ZipB (by kernel_rfl) (by kernel_rfl)) (by kernel_rfl) (by kernel_rfl) (by kernel_rfl)
   (by rw[MakeChecks.laidMetH_plain _ _ _ (by kernel_rfl)];exact laidMet_laidAll _ (by kernel_rfl) (by kernel_rfl))) ?_
 intro W base args ds gs before hval0 hW hcnd _ hL _;have hval:∀(j:Nat) t v,Tryz.f7.params[j]?=some t→args[j]?=some v→Value.okWide Tryz.prog W .any base t v:=hval0;have hW':=hW;obtain⟨p,q,hA0,hV,rfl,hfz,hnd⟩:=hW;have hA:DataW.TrodAll enc Tryz.prog W 0 (fun _=>true) true Tryz.f7.params.toList args.toList ds p:=hA0
 rw[Tryz.params7]at hA hval;obtain⟨v0,vs0,d0,ds0,p0,q0,hargs,rfl,rfl,h0,r0⟩:=trodAll_cons hA;obtain⟨rfl,rfl,rfl⟩:=trodAll_nil r0;obtain rfl:args= #[v0]:=by cases args;simp_all
 obtain⟨rfl,rfl⟩:=trodVars_none hV;have lt0:∀x∈p0,x.block<W.heap.size:=by obtain⟨m,hm⟩:=h0;exact DataW.trod_lt m _ _ _ hm
 obtain⟨x0,s0,w0⟩:=nE (by kernel_rfl) (hval 0 22 v0 rfl rfl) h0
 obtain⟨l0,rfl,ll0⟩:=wT s0;refine(kL (aI8 false l0 []) (lX (jJ w0 oO))).mono fun e W' ⟨he,bel⟩=>?_
 subst he;exact⟨_,rfl,_,_,_,[],_,[],hW',trodAll_mk1 (shut_bool Tryz.underlying4 _),(trodAll_cons_mk (Below.trod nF (by kernel_rfl) (zAQ (by kernel_rfl)) h0 bel lt0) trodAll_mk0),rfl,bel.frame _,fun h=>by cases h⟩
theorem sR{a b:Bool}(h:a=true)(k:b=true):(a&&b)=true:=by rw[h,k];rfl
theorem aDv:Tryz.pinned.checked.prog.funcNamed Rows.coreOthersRow.func=some 7:=by kernel_rfl
theorem aDw:joinedFacts Tryz.pinned.checked.prog 7 Tryz.f7 Rows.coreOthersSpec Rows.coreOthersRow=true:=by
 unfold joinedFacts;repeat' refine sR ?_ ?_
 all_goals(as_aux_lemma=>kernel_rfl)
theorem aBR:Rows.CoreOthersSaid:=
 OpenClaim.holds_of_wide 7 Tryz.f7 rfl rfl rfl rfl rfl rfl rfl ⟨rfl,rfl,rfl,rfl,rfl⟩ rfl rfl rfl rfl rfl aDv Tryz.func7 aDw
  (zAQ (by kernel_rfl)) (by unfold Func.isWrapper;first|(rw[zAl (by decide+kernel)];kernel_rfl)|(rw[zAe (by decide+kernel)];exact⟨rfl,rfl⟩))
  (fun os started H enc _=>yQ os started H enc)
theorem provedCoreOthers:Rows.CoreOthersCardSaid:=
 Claim7.holds_tied_plain_at .later [] [.data,.pinned] true (true,"93fba198f5d2af12b2f6eb48584f4df6b621c8d2cb8552a9ff7f35d8a508c024") true aBR (fun _ h=>by cases h) (by kernel_rfl) (fun _ h=>by cases h) coreOthers_row_tie rfl ⟨rfl,rfl⟩ (by kernel_rfl) rfl
  (fun f fn hf hfn=>by
   obtain rfl:f=7:=zBa ((show Tryz.prog.funcNamed "gunwale/gunwalelaw21.CoreOthers" =some 7 by kernel_rfl).symm.trans hf)|>.symm
   obtain rfl:fn=Tryz.f7:=(zBa (Tryz.func7.symm.trans hfn)).symm;exact⟨by kernel_rfl,fun j t ht=>by
    rw[Tryz.params7]at ht;have hm:t∈[22]:=by simpa using zBf ht
    have hall:([22].all fun u=> !Tryz.prog.wantsStandIn u)=true:=by kernel_rfl
    exact(show Tryz.prog.wantsStandIn t=false by simpa using zAJ.1 hall t hm)⟩)
  (by kernel_rfl)
end Go.Proofs.YtennnelammaapaaGreatDoor
