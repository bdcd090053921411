/- The row of CoreLocks: the walk's contract, put into the row's own words. No condition. -/
import Derived.Test.YtennnelammaapaaGreatDoorWorkBL
import Derived.Test.YtennnelammaapaaGreatDoorRows
import Derived.Test.YtennnelammaapaaGreatDoorCards
import Derived.Test.YtennnelammaapaaGreatDoorTie
import Derived.LaidMore
import Derived.Lay
import Derived.SevenTiedAt
set_option linter.unusedSimpArgs false
set_option linter.unusedVariables false
set_option linter.unusedSectionVars false
set_option maxRecDepth 100000
set_option maxHeartbeats 16000000
namespace Go.Proofs.YtennnelammaapaaGreatDoor
def qP:List Pl:=[.pure 0,.free,.free,.pure 0,.pure 0,.pure 0,.eff [false,false,false,false]]
attribute [go_sem] qP
def pD(l:List Thr)(j:Nat):Nat:=((l.take j).map fun t=>t.has.length).sum
theorem aI7{l:List Thr}{j:Nat}(h:j<l.length):pD l (j+1)=pD l j+l[j].has.length:=by
 unfold pD;rw[zAk h];simp only[zA9,zCM,zAw,zAZ,List.sum_cons,List.sum_nil,zCC]
theorem aPL{l:List Thr}{j n q:Nat}(h:(l.map fun t=>t.has.length).sum=n)(hn:n≤q)(hq:q≤100000):pD l j≤100000:=by
 have e:(l.map fun t=>t.has.length).sum=pD l j+((l.drop j).map fun t=>t.has.length).sum:=by
  conv=>lhs;rw[←zAS j l]
  rw[zA9,zCM];rfl
 omega
theorem aMz(b:Bool)(l:List Acn)(H:AHeap):bH Tryz.prog 5 [.sl b (l.map qO)] H (.bool true):=by
 refine fO Tryz.func5 ?_;have hfew:=wS b l;have hnw:=sG 0;obtain⟨x0,hx0⟩:∃x0,tP 0=(x0,0):=⟨_,rfl⟩;have hb0:=uS hx0;rw[hx0]at hnw;have haw:=mB;simp only[eM,iN,kE]at hnw;cases hfe:sQ l with
 |false=>
  rw[hfe]at hfew;repeat' first|(refine gS ?_;simp only[go_sem])|refine gA ?_|(refine gD ?_ ?_<;>intro h<;>try exact aA h)|fail
  exact dY (.refl _)
 |true=>
  rw[hfe]at hfew;obtain⟨hcs,hl2⟩:=aBA hfe;repeat' first|(refine gS ?_;simp only[go_sem])|refine gA ?_|(refine gD ?_ ?_<;>intro h<;>try exact aA h)|fail
  refine aI (ι:=Nat×Cor×AHeap) (fun s=>[(0,.sl b (l.map qO)),(3,.bool true),(4,.ref H.length 0 0),(6,.int .i64 s.1)]) (fun s=>H++(.cells 0 (eM s.2.1).cells::s.2.2)) (fun s=>s.1≤l.length∧CB s.1 s.2.1) (fun s=>l.length-s.1) (0,x0,[]) ⟨zAo _,hb0⟩ ?_ rfl ?_
  ·simp[go_sem]
  rintro⟨k,x,M⟩ ⟨hk,hb⟩;simp only at hk hb ⊢;obtain⟨G,hG⟩:∃G,H++(.cells 0 (eM x).cells::M)=G:=⟨_,rfl⟩;rw[hG];have g0:hget G H.length=.cells 0 (eM x).cells:=by rw[←hG];simp only[go_sem]
  have g1:=aG g0 trivial;have g2:=cC g0 trivial;have gs:∀X,aB G H.length X=H++(X::M):=fun X=>by rw[←hG];simp only[go_sem]
  by_cases hlt:k<l.length
  ·have hgd:=aN qO hlt;have hcc:=hcs _ (zAK hlt);obtain⟨a,hae⟩:∃a,a=l[k]:=⟨_,rfl⟩;rw[←hae]at hgd hcc;have hdo:=aBB x hb (by omega) a
   have hb2:=hb.act hcc;have hst:=aHF hb.ci a;obtain⟨y,hy⟩:∃y,doC x a=y:=⟨_,rfl⟩;rw[hy]at hdo hb2 hst;simp only[iN,kE,eM,qO]at hdo hgd g0;have hli:decide ((k:Int)<(l.length:Int))=true:=dT;have hk0:((0:Int)≤(k:Int))=True:=zAC (by omega)
   have hki:((k:Int)<(l.length:Int))=True:=zAC (by omega)
   obtain⟨G1,hG1⟩:∃G1,aB G H.length (.cells 0 (eM y).cells)=G1:=⟨_,rfl⟩;have e1:H++(.cells 0 (eM y).cells::M)=G1:=by rw[←hG1,gs]
   have p1:hget G1 H.length=.cells 0 (eM y).cells:=by rw[←e1];simp only[go_sem]
   have hmh:=aUC hb2.ci;have hn40:=hb2.ci.n;simp only[iN,kE,eM,AV.cells]at hG1 p1;repeat' first|((first|refine mx [8] qP ?_|refine gS ?_);simp only[go_sem,g0,g1,g2,hG1,p1,hgd,hli,hlt,hki,hk0,iN,kE])|refine gA ?_|(refine gD ?_ ?_<;>intro h<;>try exact aA h)|fail
   refine aI (ι:=Nat×AHeap) (fun s=>[(0,.sl b (l.map qO)),(3,.bool true),(4,.ref H.length 0 0),(6,.int .i64 k),(7,.int .i64 (pD y.ths s.1)),(8,.int .i64 s.1)]) (fun s=>G1++s.2) (fun s=>s.1≤y.ths.length) (fun s=>y.ths.length-s.1) (0,[]) (zAo _) ?_ (zAd _).symm ?_
   ·simp[go_sem,pD]
   rintro⟨j,N⟩ hj;simp only at hj ⊢;obtain⟨G3,hG3⟩:∃G3,G1++N=G3:=⟨_,rfl⟩;have p2:=aG p1 trivial N;rw[hG3]at p2 ⊢;have p3:=aG p2 trivial;by_cases hjl:j<y.ths.length
   ·have hgj:=aN thr hjl;have hli2:decide ((j:Int)<(y.ths.length:Int))=true:=dT;have hat:=zAb hjl;have hs:=aI7 hjl;have hle:pD y.ths (j+1)≤100000:=aPL hmh hb2.held (by omega)
    have hwt:=aEx false false y.t j;obtain⟨t,ht⟩:∃t,t=y.ths[j]:=⟨_,rfl⟩;rw[←ht]at hgj hat hs;have hid:=fun he=>hb2.ci.idle hat he
    have hho:∀q (h:q<t.has.length),mQ y.t.held t.has[q]=some (j:Int):=fun q h=>hb2.ci.holds hat (zAK h)
    have hhl:t.has.length≤100000:=by rw[hs]at hle;omega
    simp only[thr]at hgj;simp only[mP,aIO]at hwt;have hwm:IntKind.i64.wrap ((pD y.ths j:Int)+(t.has.length:Int))=(pD y.ths (j+1):Int):=by rw[hs,wI];omega
    have hcf:(t.ended&&(decide ((0:Int)<(t.has.length:Int))||(nM y.t.waits j).isSome))=false:=by
     cases he:t.ended with
     |false=>rfl
     |true=>
      obtain⟨a1,a2⟩:=hid he;rw[a1,a2];rfl
    repeat' first|(refine gS ?_;simp only[go_sem,p2,p3,hgj,hli2,hwm,hcf])|refine gA ?_|(refine gD ?_ ?_<;>intro h<;>try exact aA h)|fail
    obtain⟨G4,hG4⟩:∃G4,G3++[.cells 0 (thr t).cells]=G4:=⟨_,rfl⟩;have p4:=p3 [.cells 0 (thr t).cells];have p5:hget G4 G3.length=.cells 0 (thr t).cells:=by rw[←hG4];simp only[go_sem]
    rw[hG4]at p4;simp only[thr,AV.cells]at hG4 p5;rw[hG4];refine aI (ι:=Nat) (fun q=>[(0,.sl b (l.map qO)),(3,.bool true),(4,.ref H.length 0 0),(6,.int .i64 k),(7,.int .i64 (pD y.ths (j+1))),(8,.int .i64 j),(9,.ref G3.length 0 0),(12,.int .i64 q)]) (fun _=>G4) (fun q=>q≤t.has.length) (fun q=>t.has.length-q) 0 (zAo _) ?_ rfl ?_
    ·simp[go_sem]
    rintro q hq;by_cases hql:q<t.has.length
    ·have hgq:=aN bK hql;have hli3:decide ((q:Int)<(t.has.length:Int))=true:=dT;have hlh:=aCA false false y.t t.has[q];have hsf:decide ((j:Int)=(j:Int))=true:=by simp
     rw[hho q hql]at hlh;simp only[aIO,mP,zBh,zBW]at hlh;repeat' first|((first|refine mx [8] qP ?_|refine gS ?_);simp only[go_sem,p4,p5,hgq,bK,hli3,hsf])|refine gA ?_|(refine gD ?_ ?_<;>intro h<;>try exact aA h)|fail
     exact⟨q+1,hql,by omega,zAx _ (aS hql (by omega))⟩
    ·have hqe:q=t.has.length:=by omega
     subst hqe;have hli3:decide ((t.has.length:Int)<(t.has.length:Int))=false:=by simp
     repeat' first|(refine gS ?_;simp only[go_sem,p4,p5,hli3])|refine gA ?_|(refine gD ?_ ?_<;>intro h<;>try exact aA h)|fail
     exact⟨(j+1,N++[.cells 0 (thr t).cells]),hjl,by simp only;omega,⟨rfl,zAx _ (aS hjl (by omega))⟩,by rw[←hG4,←hG3,zAr];rfl⟩
   ·have hje:j=y.ths.length:=by omega
    subst hje;have hli2:decide ((y.ths.length:Int)<(y.ths.length:Int))=false:=by simp
    have hme:decide (((pD y.ths y.ths.length:Nat):Int)=(y.t.held.length:Int))=true:=zAj (by rw[←hmh,pD,zAD])
    repeat' first|(refine gS ?_;simp only[go_sem,p2,hli2,hme])|refine gA ?_|(refine gD ?_ ?_<;>intro h<;>try exact aA h)|fail
    exact⟨(k+1,y,M++N),⟨hlt,hb2⟩,by simp only;omega,zAx _ (aS hlt (by omega)),by rw[←hG3,←e1];simp;rfl⟩
  ·have hke:k=l.length:=by omega
   have hli:decide ((k:Int)<(l.length:Int))=false:=dF;repeat' first|(refine gS ?_;simp only[go_sem,hli])|refine gA ?_|(refine gD ?_ ?_<;>intro h<;>try exact aA h)|fail
   exact oF hG (by simp only[go_sem]) (.refl _)
open Go.ChangeShapes Go.WideShapes Go.ChangeAt Go.RowKit
theorem aAg(os:Os)(started:os.Started)(H:Type)(enc:TypeId×Value→H):
  ReturnsInHanded {} Tryz.checked os 5 .any (fun w args=>(Rows.coreLocksSpec.pre enc Tryz.prog Tryz.f5 Rows.coreLocksRow.domain false w args∧laidMetH Tryz.prog Rows.coreLocksRow.laid w)∧sizedMet enc Tryz.prog Tryz.f5 (OpenSpec.ofChange Rows.coreLocksSpec) false w args) (Rows.coreLocksSpec.post enc Tryz.prog Tryz.f5 false true false false):=by
 refine returnsInHanded_of_change_and (C:=Tryz.checked) (X:=fun w _=>laidMetH Tryz.prog Rows.coreLocksRow.laid w) (fun _ _ _ hh h=>h.of_heap hh) own started (by kernel_rfl) Tryz.func5
  (ChangeSpec.witness_shaped (enc:=enc) (C:=Tryz.checked) (os:=os) (X:=fun w _=>laidMetH Tryz.prog Rows.coreLocksRow.laid w) false (World.laidAll Tryz.prog os Rows.coreLocksRow.laid) #[.slice none 0 0] 8 (World.laidAll_os _ _ _)
   (World.shaped_of_ZipB (by kernel_rfl) (by kernel_rfl)) (by kernel_rfl) (by kernel_rfl) (by kernel_rfl)
   (by rw[MakeChecks.laidMetH_plain _ _ _ (by kernel_rfl)];exact laidMet_laidAll _ (by kernel_rfl) (by kernel_rfl))) ?_
 intro W base args ds gs before hval0 hW hcnd _ hL _;have hval:∀(j:Nat) t v,Tryz.f5.params[j]?=some t→args[j]?=some v→Value.okWide Tryz.prog W .any base t v:=hval0;have hW':=hW;obtain⟨p,q,hA0,hV,rfl,hfz,hnd⟩:=hW;have hA:DataW.TrodAll enc Tryz.prog W 0 (fun _=>true) true Tryz.f5.params.toList args.toList ds p:=hA0
 rw[Tryz.params5]at hA hval;obtain⟨v0,vs0,d0,ds0,p0,q0,hargs,rfl,rfl,h0,r0⟩:=trodAll_cons hA;obtain⟨rfl,rfl,rfl⟩:=trodAll_nil r0;obtain rfl:args= #[v0]:=by cases args;simp_all
 obtain⟨rfl,rfl⟩:=trodVars_none hV;have lt0:∀x∈p0,x.block<W.heap.size:=by obtain⟨m,hm⟩:=h0;exact DataW.trod_lt m _ _ _ hm
 obtain⟨x0,s0,w0⟩:=nE (by kernel_rfl) (hval 0 22 v0 rfl rfl) h0
 obtain⟨l0,rfl,ll0⟩:=wT s0;refine(kL (aMz false l0 []) (lX (jJ w0 oO))).mono fun e W' ⟨he,bel⟩=>?_
 subst he;exact⟨_,rfl,_,_,_,[],_,[],hW',trodAll_mk1 (shut_bool Tryz.underlying4 _),(trodAll_cons_mk (Below.trod nF (by kernel_rfl) (zAQ (by kernel_rfl)) h0 bel lt0) trodAll_mk0),rfl,bel.frame _,fun h=>by cases h⟩
theorem sR{a b:Bool}(h:a=true)(k:b=true):(a&&b)=true:=by rw[h,k];rfl
theorem aEO:Tryz.pinned.checked.prog.funcNamed Rows.coreLocksRow.func=some 5:=by kernel_rfl
theorem aEP:joinedFacts Tryz.pinned.checked.prog 5 Tryz.f5 Rows.coreLocksSpec Rows.coreLocksRow=true:=by
 unfold joinedFacts;repeat' refine sR ?_ ?_
 all_goals(as_aux_lemma=>kernel_rfl)
theorem aDt:Rows.CoreLocksSaid:=
 OpenClaim.holds_of_wide 5 Tryz.f5 rfl rfl rfl rfl rfl rfl rfl ⟨rfl,rfl,rfl,rfl,rfl⟩ rfl rfl rfl rfl rfl aEO Tryz.func5 aEP
  (zAQ (by kernel_rfl)) (by unfold Func.isWrapper;first|(rw[zAl (by decide+kernel)];kernel_rfl)|(rw[zAe (by decide+kernel)];exact⟨rfl,rfl⟩))
  (fun os started H enc _=>aAg os started H enc)
theorem provedCoreLocks:Rows.CoreLocksCardSaid:=
 Claim7.holds_tied_plain_at .later [] [.data,.pinned] true (true,"93fba198f5d2af12b2f6eb48584f4df6b621c8d2cb8552a9ff7f35d8a508c024") true aDt (fun _ h=>by cases h) (by kernel_rfl) (fun _ h=>by cases h) coreLocks_row_tie rfl ⟨rfl,rfl⟩ (by kernel_rfl) rfl
  (fun f fn hf hfn=>by
   obtain rfl:f=5:=zBa ((show Tryz.prog.funcNamed "gunwale/gunwalelaw21.CoreLocks" =some 5 by kernel_rfl).symm.trans hf)|>.symm
   obtain rfl:fn=Tryz.f5:=(zBa (Tryz.func5.symm.trans hfn)).symm;exact⟨by kernel_rfl,fun j t ht=>by
    rw[Tryz.params5]at ht;have hm:t∈[22]:=by simpa using zBf ht
    have hall:([22].all fun u=> !Tryz.prog.wantsStandIn u)=true:=by kernel_rfl
    exact(show Tryz.prog.wantsStandIn t=false by simpa using zAJ.1 hall t hm)⟩)
  (by kernel_rfl)
end Go.Proofs.YtennnelammaapaaGreatDoor
