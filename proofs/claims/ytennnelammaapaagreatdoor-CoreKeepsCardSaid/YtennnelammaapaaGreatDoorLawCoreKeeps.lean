/- The row of CoreKeeps: the walk's contract, put into the row's own words. No condition. -/
import Derived.Test.YtennnelammaapaaGreatDoorWorkBL
import Derived.Test.YtennnelammaapaaGreatDoorRows
import Derived.Test.YtennnelammaapaaGreatDoorCards
import Derived.Test.YtennnelammaapaaGreatDoorTie
import Derived.LaidMore
import Derived.Lay
import Derived.SevenTiedAt
set_option linter.unusedSimpArgs false
set_option linter.unusedVariables false
set_option linter.unusedSectionVars false
set_option maxRecDepth 100000
set_option maxHeartbeats 16000000
namespace Go.Proofs.YtennnelammaapaaGreatDoor
def wX:List Pl:=[.pure 0,.free,.free,.pure 0,.pure 0,.pure 0,.eff [true,true,true,true],.eff [false,false,false,false]]
attribute [go_sem] wX
theorem aMA(b:Bool)(l:List Acn)(H:AHeap):bH Tryz.prog 6 [.sl b (l.map qO)] H (.bool true):=by
 refine fO Tryz.func6 ?_;have hfew:=wS b l;have hnw:=sG 0;obtain⟨x0,hx0⟩:∃x0,tP 0=(x0,0):=⟨_,rfl⟩;have hb0:=uS hx0;rw[hx0]at hnw;have haw:=mB;simp only[eM,iN,kE]at hnw;cases hfe:sQ l with
 |false=>
  rw[hfe]at hfew;repeat' first|(refine gS ?_;simp only[go_sem])|refine gA ?_|(refine gD ?_ ?_<;>intro h<;>try exact aA h)|fail
  exact dY (.refl _)
 |true=>
  rw[hfe]at hfew;obtain⟨hcs,hl2⟩:=aBA hfe;repeat' first|(refine gS ?_;simp only[go_sem])|refine gA ?_|(refine gD ?_ ?_<;>intro h<;>try exact aA h)|fail
  refine aI (ι:=Nat×Cor×AHeap) (fun s=>[(0,.sl b (l.map qO)),(3,.bool true),(4,.ref H.length 0 0),(6,.int .i64 s.1)]) (fun s=>H++(.cells 0 (eM s.2.1).cells::s.2.2)) (fun s=>s.1≤l.length∧CB s.1 s.2.1) (fun s=>l.length-s.1) (0,x0,[]) ⟨zAo _,hb0⟩ ?_ rfl ?_
  ·simp[go_sem]
  rintro⟨k,x,M⟩ ⟨hk,hb⟩;simp only at hk hb ⊢;obtain⟨G,hG⟩:∃G,H++(.cells 0 (eM x).cells::M)=G:=⟨_,rfl⟩;rw[hG];have g0:hget G H.length=.cells 0 (eM x).cells:=by rw[←hG];simp only[go_sem]
  have g1:=aG g0 trivial;have g2:=cC g0 trivial;have gs:∀X,aB G H.length X=H++(X::M):=fun X=>by rw[←hG];simp only[go_sem]
  by_cases hlt:k<l.length
  ·have hgd:=aN qO hlt;have hcc:=hcs _ (zAK hlt);obtain⟨a,hae⟩:∃a,a=l[k]:=⟨_,rfl⟩;rw[←hae]at hgd hcc;have hdo:=aBB x hb (by omega) a
   have hb2:=hb.act hcc;have hst:=aHF hb.ci a;obtain⟨y,hy⟩:∃y,doC x a=y:=⟨_,rfl⟩;rw[hy]at hdo hb2 hst;simp only[iN,kE,eM,qO]at hdo hgd g0;have hli:decide ((k:Int)<(l.length:Int))=true:=dT;have hk0:((0:Int)≤(k:Int))=True:=zAC (by omega)
   have hki:((k:Int)<(l.length:Int))=True:=zAC (by omega)
   have hkp:decide (y.g.kept<x.g.kept)=false:=zAg (by have:=hst.kept;omega)
   have hup:decide ((y.ops.length:Int)<y.g.kept)=false:=zAg (by have:=hb2.ci.kp;omega)
   repeat' first|((first|refine mx [8] wX ?_|refine gS ?_);simp only[go_sem,g0,g1,g2,hgd,hli,hlt,hki,hk0,hkp,hup,iN,kE])|refine gA ?_|(refine gD ?_ ?_<;>intro h<;>try exact aA h)|fail
   obtain⟨G2,hG2⟩:∃G2,aB G H.length (.cells 0 (eM y).cells)++[.cells 0 (eM y).cells]=G2:=⟨_,rfl⟩;have e1:H++(.cells 0 (eM y).cells::(M++[.cells 0 (eM y).cells]))=G2:=by rw[←hG2,gs];simp
   have p1:hget G2 H.length=.cells 0 (eM y).cells:=by rw[←e1];simp only[go_sem]
   simp only[iN,kE,eM,AV.cells]at hG2 p1;rw[hG2];refine aI (ι:=Nat×AHeap) (fun s=>[(0,.sl b (l.map qO)),(3,.bool true),(4,.ref H.length 0 0),(6,.int .i64 k),(8,.int .i64 s.1)]) (fun s=>G2++s.2) (fun s=>s.1≤y.ths.length) (fun s=>y.ths.length-s.1) (0,[]) (zAo _) ?_ (zAd _).symm ?_
   ·simp[go_sem]
   rintro⟨j,N⟩ hj;simp only at hj ⊢;obtain⟨G3,hG3⟩:∃G3,G2++N=G3:=⟨_,rfl⟩;have p2:=aG p1 trivial N;rw[hG3]at p2 ⊢;have p3:=aG p2 trivial;by_cases hjl:j<y.ths.length
   ·have hgj:=aN thr hjl;have hsy:=hb2.ci.sy _ (zAK hjl);have hn40:=hb2.ci.n;have hli2:decide ((j:Int)<(y.ths.length:Int))=true:=dT;generalize y.ths[j]=t at *;simp only[thr]at hgj;repeat' first|(refine gS ?_;simp only[go_sem,p2,p3,hgj,hli2])|refine gA ?_|(refine gD ?_ ?_<;>intro h<;>try exact aA h)|fail
    all_goals first
     |(exfalso;simp only[zAu,zAF]at h;obtain⟨⟨⟨a1,a2⟩,a3⟩,a4⟩:=h;have:=hsy a1 a2 a3;omega)
     |exact⟨(j+1,N++[_]),hjl,by simp only;omega,zAx _ (aS hjl (by omega)),by rw[←hG3,zAr]⟩
   ·have hje:j=y.ths.length:=by omega
    subst hje;have hli2:decide ((y.ths.length:Int)<(y.ths.length:Int))=false:=by simp
    repeat' first|(refine gS ?_;simp only[go_sem,p2,hli2])|refine gA ?_|(refine gD ?_ ?_<;>intro h<;>try exact aA h)|fail
    exact⟨(k+1,y,M++[.cells 0 (eM y).cells]++N),⟨hlt,hb2⟩,by simp only;omega,zAx _ (aS hlt (by omega)),by rw[←hG3,←e1];simp;rfl⟩
  ·have hke:k=l.length:=by omega
   have hli:decide ((k:Int)<(l.length:Int))=false:=dF;repeat' first|(refine gS ?_;simp only[go_sem,hli])|refine gA ?_|(refine gD ?_ ?_<;>intro h<;>try exact aA h)|fail
   exact oF hG (by simp only[go_sem]) (.refl _)
open Go.ChangeShapes Go.WideShapes Go.ChangeAt Go.RowKit
theorem aAh(os:Os)(started:os.Started)(H:Type)(enc:TypeId×Value→H):
  ReturnsInHanded {} Tryz.checked os 6 .any (fun w args=>(Rows.coreKeepsSpec.pre enc Tryz.prog Tryz.f6 Rows.coreKeepsRow.domain false w args∧laidMetH Tryz.prog Rows.coreKeepsRow.laid w)∧sizedMet enc Tryz.prog Tryz.f6 (OpenSpec.ofChange Rows.coreKeepsSpec) false w args) (Rows.coreKeepsSpec.post enc Tryz.prog Tryz.f6 false true false false):=by
 refine returnsInHanded_of_change_and (C:=Tryz.checked) (X:=fun w _=>laidMetH Tryz.prog Rows.coreKeepsRow.laid w) (fun _ _ _ hh h=>h.of_heap hh) own started (by kernel_rfl) Tryz.func6
  (ChangeSpec.witness_shaped (enc:=enc) (C:=Tryz.checked) (os:=os) (X:=fun w _=>laidMetH Tryz.prog Rows.coreKeepsRow.laid w) false (World.laidAll Tryz.prog os Rows.coreKeepsRow.laid) #[.slice none 0 0] 8 (World.laidAll_os _ _ _)
   (World.shaped_of_ZipB (by kernel_rfl) (by kernel_rfl)) (by kernel_rfl) (by kernel_rfl) (by kernel_rfl)
   (by rw[MakeChecks.laidMetH_plain _ _ _ (by kernel_rfl)];exact laidMet_laidAll _ (by kernel_rfl) (by kernel_rfl))) ?_
 intro W base args ds gs before hval0 hW hcnd _ hL _;have hval:∀(j:Nat) t v,Tryz.f6.params[j]?=some t→args[j]?=some v→Value.okWide Tryz.prog W .any base t v:=hval0;have hW':=hW;obtain⟨p,q,hA0,hV,rfl,hfz,hnd⟩:=hW;have hA:DataW.TrodAll enc Tryz.prog W 0 (fun _=>true) true Tryz.f6.params.toList args.toList ds p:=hA0
 rw[Tryz.params6]at hA hval;obtain⟨v0,vs0,d0,ds0,p0,q0,hargs,rfl,rfl,h0,r0⟩:=trodAll_cons hA;obtain⟨rfl,rfl,rfl⟩:=trodAll_nil r0;obtain rfl:args= #[v0]:=by cases args;simp_all
 obtain⟨rfl,rfl⟩:=trodVars_none hV;have lt0:∀x∈p0,x.block<W.heap.size:=by obtain⟨m,hm⟩:=h0;exact DataW.trod_lt m _ _ _ hm
 obtain⟨x0,s0,w0⟩:=nE (by kernel_rfl) (hval 0 22 v0 rfl rfl) h0
 obtain⟨l0,rfl,ll0⟩:=wT s0;refine(kL (aMA false l0 []) (lX (jJ w0 oO))).mono fun e W' ⟨he,bel⟩=>?_
 subst he;exact⟨_,rfl,_,_,_,[],_,[],hW',trodAll_mk1 (shut_bool Tryz.underlying4 _),(trodAll_cons_mk (Below.trod nF (by kernel_rfl) (zAQ (by kernel_rfl)) h0 bel lt0) trodAll_mk0),rfl,bel.frame _,fun h=>by cases h⟩
theorem sR{a b:Bool}(h:a=true)(k:b=true):(a&&b)=true:=by rw[h,k];rfl
theorem aEQ:Tryz.pinned.checked.prog.funcNamed Rows.coreKeepsRow.func=some 6:=by kernel_rfl
theorem aER:joinedFacts Tryz.pinned.checked.prog 6 Tryz.f6 Rows.coreKeepsSpec Rows.coreKeepsRow=true:=by
 unfold joinedFacts;repeat' refine sR ?_ ?_
 all_goals(as_aux_lemma=>kernel_rfl)
theorem aDu:Rows.CoreKeepsSaid:=
 OpenClaim.holds_of_wide 6 Tryz.f6 rfl rfl rfl rfl rfl rfl rfl ⟨rfl,rfl,rfl,rfl,rfl⟩ rfl rfl rfl rfl rfl aEQ Tryz.func6 aER
  (zAQ (by kernel_rfl)) (by unfold Func.isWrapper;first|(rw[zAl (by decide+kernel)];kernel_rfl)|(rw[zAe (by decide+kernel)];exact⟨rfl,rfl⟩))
  (fun os started H enc _=>aAh os started H enc)
theorem provedCoreKeeps:Rows.CoreKeepsCardSaid:=
 Claim7.holds_tied_plain_at .later [] [.data,.pinned] true (true,"93fba198f5d2af12b2f6eb48584f4df6b621c8d2cb8552a9ff7f35d8a508c024") true aDu (fun _ h=>by cases h) (by kernel_rfl) (fun _ h=>by cases h) coreKeeps_row_tie rfl ⟨rfl,rfl⟩ (by kernel_rfl) rfl
  (fun f fn hf hfn=>by
   obtain rfl:f=6:=zBa ((show Tryz.prog.funcNamed "gunwale/gunwalelaw21.CoreKeeps" =some 6 by kernel_rfl).symm.trans hf)|>.symm
   obtain rfl:fn=Tryz.f6:=(zBa (Tryz.func6.symm.trans hfn)).symm;exact⟨by kernel_rfl,fun j t ht=>by
    rw[Tryz.params6]at ht;have hm:t∈[22]:=by simpa using zBf ht
    have hall:([22].all fun u=> !Tryz.prog.wantsStandIn u)=true:=by kernel_rfl
    exact(show Tryz.prog.wantsStandIn t=false by simpa using zAJ.1 hall t hm)⟩)
  (by kernel_rfl)
end Go.Proofs.YtennnelammaapaaGreatDoor
