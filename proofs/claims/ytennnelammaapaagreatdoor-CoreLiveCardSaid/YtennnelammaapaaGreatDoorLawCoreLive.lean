/- The row of CoreLive: the walk's contract, put into the row's own words. No condition. -/
import Derived.Test.YtennnelammaapaaGreatDoorWorkBL
import Derived.Test.YtennnelammaapaaGreatDoorRows
import Derived.Test.YtennnelammaapaaGreatDoorCards
import Derived.Test.YtennnelammaapaaGreatDoorTie
import Derived.LaidMore
import Derived.Lay
import Derived.SevenTiedAt
set_option linter.unusedSimpArgs false
set_option linter.unusedVariables false
set_option linter.unusedSectionVars false
set_option maxRecDepth 100000
set_option maxHeartbeats 16000000
namespace Go.Proofs.YtennnelammaapaaGreatDoor
def wV:List Pl:=[.pure 0,.free,.free,.pure 0,.pure 0,.pure 0,.eff [false,false,false,false]]
attribute [go_sem] wV
theorem aMu{x:Cor}(c:CI x)(p:Int):∃(w:Int) (g ok:Bool),uA x p=.tup [.int .i64 w,.bool g,.bool ok]∧doneC x= !ok∧decide ((0:Int)<((cW x).length:Int))=ok∧(ok=true→w∈(cW x).map fun n:Nat=>(n:Int)):=by
 unfold uA;rcases aMl c p with⟨h1,h2,h3⟩|⟨h1,h2,who,h3,h4, -⟩
 ·rw[h3,h2,h1];exact⟨0,false,false,rfl,rfl,rfl,fun h=>by cases h⟩
 ·rw[h3,h1];have:=zBl.2 h2;exact⟨who,oT x.g who,true,rfl,rfl,dT,fun _=>zAm.2 ⟨who,h4,rfl⟩⟩
theorem aPJ(b:Bool)(l:List Acn)(p:Int)(H:AHeap):bH Tryz.prog 3 [.sl b (l.map qO),.int .i64 p] H (.bool true):=by
 refine fO Tryz.func3 ?_;have hfew:=wS b l;have hnw:=sG 0;obtain⟨x0,hx0⟩:∃x0,tP 0=(x0,0):=⟨_,rfl⟩;have hb0:=uS hx0;rw[hx0]at hnw;have haw:=mB;simp only[eM,iN,kE]at hnw;cases hfe:sQ l with
 |false=>
  rw[hfe]at hfew;repeat' first|(refine gS ?_;simp only[go_sem])|refine gA ?_|(refine gD ?_ ?_<;>intro h<;>try exact aA h)|fail
  exact dY (.refl _)
 |true=>
  rw[hfe]at hfew;obtain⟨hcs,hl2⟩:=aBA hfe;repeat' first|(refine gS ?_;simp only[go_sem])|refine gA ?_|(refine gD ?_ ?_<;>intro h<;>try exact aA h)|fail
  refine aI (ι:=Nat×Cor×AHeap) (fun s=>[(0,.sl b (l.map qO)),(1,.int .i64 p),(5,.bool true),(6,.ref H.length 0 0),(8,.int .i64 s.1)]) (fun s=>H++(.cells 0 (eM s.2.1).cells::s.2.2)) (fun s=>s.1≤l.length∧CB s.1 s.2.1) (fun s=>l.length-s.1) (0,x0,[]) ⟨zAo _,hb0⟩ ?_ rfl ?_
  ·simp[go_sem]
  rintro⟨k,x,M⟩ ⟨hk,hb⟩;simp only at hk hb ⊢;obtain⟨G,hG⟩:∃G,H++(.cells 0 (eM x).cells::M)=G:=⟨_,rfl⟩;rw[hG];have g0:hget G H.length=.cells 0 (eM x).cells:=by rw[←hG];simp only[go_sem]
  have g1:=aG g0 trivial;have g2:=cC g0 trivial;have gs:∀X,aB G H.length X=H++(X::M):=fun X=>by rw[←hG];simp only[go_sem]
  by_cases hlt:k<l.length
  ·have hgd:=aN qO hlt;have hcc:=hcs _ (zAK hlt);obtain⟨a,hae⟩:∃a,a=l[k]:=⟨_,rfl⟩;rw[←hae]at hgd hcc;have hdo:=aBB x hb (by omega) a
   have hb2:=hb.act hcc;obtain⟨y,hy⟩:∃y,doC x a=y:=⟨_,rfl⟩;rw[hy]at hdo hb2;have hab:=aF7 false false false false false false false false false y (by have:=hb2.ci.n;omega)
   have hpk:=aAy false false false false false false false false false y p (by have:=hb2.ci.n;omega)
   have hdn:=aAw false false false false false false false false false y;obtain⟨w,g,ok,e1,e2,e3,e4⟩:=aMu hb2.ci p;rw[e1]at hpk;rw[e2]at hdn;obtain⟨es,hes⟩:∃es,((cW y).map fun n:Nat=>(n:Int))=es:=⟨_,rfl⟩
   have hel:((cW y).length:Int)=(es.length:Int):=by rw[←hes,zAn]
   rw[hes]at hab e4;rw[hel]at e3;have hes2:es.length≤1000:=by have:=yL y y.ths.length;rw[yK,hes]at this;have:=hb2.ci.n;omega
   simp only[iN,kE,eM,qO]at hdo hab hpk hdn hgd g0;have hli:decide ((k:Int)<(l.length:Int))=true:=dT;have hk0:((0:Int)≤(k:Int))=True:=zAC (by omega)
   have hki:((k:Int)<(l.length:Int))=True:=zAC (by omega)
   obtain⟨G1,hG1⟩:∃G1,aB G H.length (.cells 0 (eM y).cells)=G1:=⟨_,rfl⟩;have e1:H++(.cells 0 (eM y).cells::M)=G1:=by rw[←hG1,gs]
   have p1:hget G1 H.length=.cells 0 (eM y).cells:=by rw[←e1];simp only[go_sem]
   simp only[iN,kE,eM,AV.cells]at hG1 p1;repeat' first|((first|refine mx [8] wV ?_|refine gS ?_);simp only[go_sem,g0,g1,g2,hG1,p1,hgd,hli,hlt,hki,hk0,iN,kE])|refine gA ?_|(refine gD ?_ ?_<;>intro h<;>try exact aA h)|fail
   refine aI (ι:=Nat) (fun j=>[(0,.sl b (l.map qO)),(1,.int .i64 p),(5,.bool true),(6,.ref H.length 0 0),(8,.int .i64 k),(9,.sl false (es.map bK)),(10,.int .i64 w),(12,.bool ok),(13,.bool (decide (w∈es.take j))),(14,.int .i64 j)]) (fun _=>G1) (fun j=>j≤es.length) (fun j=>es.length-j) 0 (zAo _) ?_ rfl ?_
   ·simp[go_sem]
   rintro j hj;by_cases hjl:j<es.length
   ·have hgj:=aN bK hjl;have hli2:decide ((j:Int)<(es.length:Int))=true:=dT;have hin:decide (w∈es.take (j+1))=(decide (w∈es.take j)||decide (es[j]=w)):=by
     rw[zAk hjl,zBo,zB9,zAF,zAF,zAF,zAy,zAq];exact or_congr Iff.rfl eq_comm
    cases hd:decide (w∈es.take j)with
    |true=>
     rw[hd]at hin;repeat' first|(refine gS ?_;simp only[go_sem,hli2,hgj,bK])|refine gA ?_|(refine gD ?_ ?_<;>intro h<;>try exact aA h)|fail
     exact⟨j+1,hjl,by omega,by rw[hin];rfl,zAx _ (aS hjl (by omega))⟩
    |false=>
     rw[hd]at hin;repeat' first|(refine gS ?_;simp only[go_sem,hli2,hgj,bK])|refine gA ?_|(refine gD ?_ ?_<;>intro h<;>try exact aA h)|fail
     exact⟨j+1,hjl,by omega,by rw[hin,zCG],zAx _ (aS hjl (by omega))⟩
   ·have hje:j=es.length:=by omega
    subst hje;have hli2:decide ((es.length:Int)<(es.length:Int))=false:=by simp
    rw[zAD];cases hok:ok with
    |true=>
     rw[hok]at e3 e4 hdn;have hin:decide (w∈es)=true:=zAj (e4 rfl);repeat' first|(refine gS ?_;simp only[go_sem,hli2,hin,p1,e3])|refine gA ?_|(refine gD ?_ ?_<;>intro h<;>try exact aA h)|fail
     exact⟨(k+1,y,M),⟨hlt,hb2⟩,by simp only;omega,zAx _ (aS hlt (by omega)),e1.symm⟩
    |false=>
     rw[hok]at e3 hdn;repeat' first|(refine gS ?_;simp only[go_sem,hli2,p1,e3])|refine gA ?_|(refine gD ?_ ?_<;>intro h<;>try exact aA h)|fail
     exact⟨(k+1,y,M),⟨hlt,hb2⟩,by simp only;omega,zAx _ (aS hlt (by omega)),e1.symm⟩
  ·have hke:k=l.length:=by omega
   have hli:decide ((k:Int)<(l.length:Int))=false:=dF;repeat' first|(refine gS ?_;simp only[go_sem,hli])|refine gA ?_|(refine gD ?_ ?_<;>intro h<;>try exact aA h)|fail
   exact oF hG (by simp only[go_sem]) (.refl _)
open Go.ChangeShapes Go.WideShapes Go.ChangeAt Go.RowKit
theorem aBC(os:Os)(started:os.Started)(H:Type)(enc:TypeId×Value→H):
  ReturnsInHanded {} Tryz.checked os 3 .any (fun w args=>(Rows.coreLiveSpec.pre enc Tryz.prog Tryz.f3 Rows.coreLiveRow.domain false w args∧laidMetH Tryz.prog Rows.coreLiveRow.laid w)∧sizedMet enc Tryz.prog Tryz.f3 (OpenSpec.ofChange Rows.coreLiveSpec) false w args) (Rows.coreLiveSpec.post enc Tryz.prog Tryz.f3 false true false false):=by
 refine returnsInHanded_of_change_and (C:=Tryz.checked) (X:=fun w _=>laidMetH Tryz.prog Rows.coreLiveRow.laid w) (fun _ _ _ hh h=>h.of_heap hh) own started (by kernel_rfl) Tryz.func3
  (ChangeSpec.witness_shaped (enc:=enc) (C:=Tryz.checked) (os:=os) (X:=fun w _=>laidMetH Tryz.prog Rows.coreLiveRow.laid w) false (World.laidAll Tryz.prog os Rows.coreLiveRow.laid) #[.slice none 0 0,.int .i64 0] 8 (World.laidAll_os _ _ _)
   (World.shaped_of_ZipB (by kernel_rfl) (by kernel_rfl)) (by kernel_rfl) (by kernel_rfl) (by kernel_rfl)
   (by rw[MakeChecks.laidMetH_plain _ _ _ (by kernel_rfl)];exact laidMet_laidAll _ (by kernel_rfl) (by kernel_rfl))) ?_
 intro W base args ds gs before hval0 hW hcnd _ hL _;have hval:∀(j:Nat) t v,Tryz.f3.params[j]?=some t→args[j]?=some v→Value.okWide Tryz.prog W .any base t v:=hval0;have hW':=hW;obtain⟨p,q,hA0,hV,rfl,hfz,hnd⟩:=hW;have hA:DataW.TrodAll enc Tryz.prog W 0 (fun _=>true) true Tryz.f3.params.toList args.toList ds p:=hA0
 rw[Tryz.params3]at hA hval;obtain⟨v0,vs0,d0,ds0,p0,q0,hargs,rfl,rfl,h0,r0⟩:=trodAll_cons hA;obtain⟨v1,vs1,d1,ds1,p1,q1,rfl,rfl,rfl,h1,r1⟩:=trodAll_cons r0;obtain⟨rfl,rfl,rfl⟩:=trodAll_nil r1;obtain rfl:args= #[v0,v1]:=by cases args;simp_all
 obtain⟨rfl,rfl⟩:=trodVars_none hV;have lt0:∀x∈p0,x.block<W.heap.size:=by obtain⟨m,hm⟩:=h0;exact DataW.trod_lt m _ _ _ hm
 obtain⟨x0,s0,w0⟩:=nE (by kernel_rfl) (hval 0 22 v0 rfl rfl) h0
 obtain⟨l0,rfl,ll0⟩:=wT s0;have lt1:∀x∈p1,x.block<W.heap.size:=by obtain⟨m,hm⟩:=h1;exact DataW.trod_lt m _ _ _ hm
 obtain⟨x1,s1,w1⟩:=nE (by kernel_rfl) (hval 1 3 v1 rfl rfl) h1
 obtain⟨n1,rfl⟩:=aR0 s1;refine(kL (aPJ false l0 n1 []) (lX (jJ w0 (jJ w1 oO)))).mono fun e W' ⟨he,bel⟩=>?_
 subst he;exact⟨_,rfl,_,_,_,[],_,[],hW',trodAll_mk1 (shut_bool Tryz.underlying4 _),(trodAll_cons_mk (Below.trod nF (by kernel_rfl) (zAQ (by kernel_rfl)) h0 bel lt0) (trodAll_cons_mk (Below.trod nF (by kernel_rfl) (zAQ (by kernel_rfl)) h1 bel lt1) trodAll_mk0)),rfl,bel.frame _,fun h=>by cases h⟩
theorem sR{a b:Bool}(h:a=true)(k:b=true):(a&&b)=true:=by rw[h,k];rfl
theorem aGm:Tryz.pinned.checked.prog.funcNamed Rows.coreLiveRow.func=some 3:=by kernel_rfl
theorem aGn:joinedFacts Tryz.pinned.checked.prog 3 Tryz.f3 Rows.coreLiveSpec Rows.coreLiveRow=true:=by
 unfold joinedFacts;repeat' refine sR ?_ ?_
 all_goals(as_aux_lemma=>kernel_rfl)
theorem aEK:Rows.CoreLiveSaid:=
 OpenClaim.holds_of_wide 3 Tryz.f3 rfl rfl rfl rfl rfl rfl rfl ⟨rfl,rfl,rfl,rfl,rfl⟩ rfl rfl rfl rfl rfl aGm Tryz.func3 aGn
  (zAQ (by kernel_rfl)) (by unfold Func.isWrapper;first|(rw[zAl (by decide+kernel)];kernel_rfl)|(rw[zAe (by decide+kernel)];exact⟨rfl,rfl⟩))
  (fun os started H enc _=>aBC os started H enc)
theorem provedCoreLive:Rows.CoreLiveCardSaid:=
 Claim7.holds_tied_plain_at .later [] [.data,.pinned] true (true,"93fba198f5d2af12b2f6eb48584f4df6b621c8d2cb8552a9ff7f35d8a508c024") true aEK (fun _ h=>by cases h) (by kernel_rfl) (fun _ h=>by cases h) coreLive_row_tie rfl ⟨rfl,rfl⟩ (by kernel_rfl) rfl
  (fun f fn hf hfn=>by
   obtain rfl:f=3:=zBa ((show Tryz.prog.funcNamed "gunwale/gunwalelaw21.CoreLive" =some 3 by kernel_rfl).symm.trans hf)|>.symm
   obtain rfl:fn=Tryz.f3:=(zBa (Tryz.func3.symm.trans hfn)).symm;exact⟨by kernel_rfl,fun j t ht=>by
    rw[Tryz.params3]at ht;have hm:t∈[22,3]:=by simpa using zBf ht
    have hall:([22,3].all fun u=> !Tryz.prog.wantsStandIn u)=true:=by kernel_rfl
    exact(show Tryz.prog.wantsStandIn t=false by simpa using zAJ.1 hall t hm)⟩)
  (by kernel_rfl)
end Go.Proofs.YtennnelammaapaaGreatDoor
