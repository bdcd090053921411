/- The row of HistOf: the walk's contract, put into the row's own words. No condition. -/
import Derived.Test.YthafnbmdmfoobaaGreatDoorWorkBN
import Derived.Test.YthafnbmdmfoobaaGreatDoorRows
import Derived.Test.YthafnbmdmfoobaaGreatDoorCards
import Derived.Test.YthafnbmdmfoobaaGreatDoorTie
import Derived.LaidMore
import Derived.Lay
import Derived.SevenTiedAt
set_option linter.unusedSimpArgs false
set_option linter.unusedVariables false
set_option linter.unusedSectionVars false
set_option maxRecDepth 100000
set_option maxHeartbeats 16000000
namespace Go.Proofs.YthafnbmdmfoobaaGreatDoor
open Go.Srt
def CS:List cR:=[.pure 0,.free,.free,.pure 0,.pure 0,.pure 0,.pure 0,.free,.free,.free,.free,.eff [true,true,true,true,true],.eff [false,false,false,false,false],.free,.free]
def CT:List cR:=[.pure 0,.free,.free,.pure 0,.pure 0,.pure 0,.free,.free,.pure 0,.pure 0,.pure 0,.pure 0,.eff [false,false,false,false,false,false,false,false]]
attribute [go_sem] CS CT
theorem aGi(b:Bool)(l:List q1)(H:ab):aY Tryz.prog 6 [.sl b (l.map lP)] H (.bool true):=by
 refine bh Tryz.func6 ?_;have rn:=Mf b l;have pV:=HX 0;obtain⟨jz,p1⟩:∃jz,nR 0=(jz,0):=⟨_,rfl⟩;have iG:=HZ p1;rw[p1]at pV;have Jd:=Gs;generalize nE:jz.m=da at *;simp only[eY,e4,gu,nE]at pV;cases h9:vq l with
 |false=>
  rw[h9]at rn;repeat' first|(refine ad ?_;simp only[go_sem])|refine af ?_|fail
  exact bo (.refl _)
 |true=>
  rw[h9]at rn;obtain⟨fk,cO⟩:=MG h9;repeat' first|(refine ad ?_;simp only[go_sem])|refine af ?_|fail
  refine b5 (ι:=Nat×bn×ab) (fun s=>[(0,.sl b (l.map lP)),(3,.bool true),(4,.ref H.length 0 0),(6,.int .i64 s.1)]) (fun s=>H++(.cells 0 (eY s.2.1).cells::s.2.2)) (fun s=>s.1<=l.length∧ka da s.1 s.2.1) (fun s=>l.length-s.1) (0,jz,[]) ⟨bG _,iG⟩ ?_ (by simp only[eY,e4,gu,nE];rfl) ?_
  ·simp[go_sem]
  rintro⟨k,x,M⟩ ⟨hk,J⟩;simp only at hk J ⊢;have aa:=J.ks;obtain⟨G,aT⟩:∃G,H++(.cells 0 (eY x).cells::M)=G:=⟨_,rfl⟩;rw[aT];have cw:ao G H.length=.cells 0 (eY x).cells:=by rw[<-aT];simp only[go_sem]
  have gs:∀X,ai G H.length X=H++(X::M):=fun X=>by rw[<-aT];simp only[go_sem]
  simp only[eY,e4,gu,I.cells]at cw;have aZ:=bz cw trivial;have a7:=jI cw trivial;by_cases ak:k<l.length
  ·have cG:=dg lP ak;have hj:=fk _ (hv ak);obtain⟨a,Fc⟩:∃a,a=l[k]:=⟨_,rfl⟩;rw[<-Fc]at cG hj;have av:=GJ false false false false false false false false false x a.call (by have:=aa.ci.n;omega)
   have dK:=HL x a.pick a.full aa (by omega)
   have gI:=J.act (by omega) hj
   have aH:decide ((k:Int)<(l.length:Int))=true:=b1;have j1:((0:Int)<=(k:Int))=True:=bJ (by omega)
   have qt:((k:Int)<(l.length:Int))=True:=bJ (by omega)
   have hw:=dW ak (by omega)
   unfold EP at gI;simp only[lP]at cG;simp only[eY,e4,gu,cJ]at av dK;cases hs:a.start with
   |true=>
    rw[hs,aF rfl]at gI;rw[hs]at cG;generalize(mc x a.call).1=y at *;repeat' first|((first|refine mx [9] CS ?_|refine mx [11] CT ?_|refine ad ?_);simp only[go_sem,cw,aZ,a7,cG,aH,ak,qt,j1])|refine af ?_|fail
    exact⟨(k+1,y,M++_),⟨ak,gI⟩,by simp only;omega,bH _ hw,by rw[gs,cr,gi];rfl⟩
   |false=>
    rw[hs,az (by decide)]at gI
    rw[hs]at cG;generalize ow x a.pick a.full=y at *;repeat' first|((first|refine mx [9] CS ?_|refine mx [11] CT ?_|refine ad ?_);simp only[go_sem,cw,aZ,a7,cG,aH,ak,qt,j1])|refine af ?_|fail
    exact⟨(k+1,y,M),⟨ak,gI⟩,by simp only;omega,bH _ hw,gs _⟩
  ·have g3:k=l.length:=by omega
   have aH:decide ((k:Int)<(l.length:Int))=false:=cg;obtain⟨cL,al⟩:=J.al;obtain⟨-,cI, -⟩:=al.all aa.ci;have ag:=aa.ci.n;have tI:=Il al (by omega) J.bp
   simp only[eY,e4,gu]at tI;repeat' first|((first|refine mx [9] CS ?_|refine mx [11] CT ?_|refine ad ?_);simp only[go_sem,cw,aZ,aH])|refine af ?_|fail
   refine jY (ι:=Unit) (fun _=>[(3,.bool true),(4,.ref H.length 0 0),(10,.sl false (cL.map dQ)),(11,.int .i64 cL.length)]) (fun _=>G) (fun _=>True) ?_ ?_
   ·refine b5 (ι:=Nat) (fun i=>[(3,.bool true),(4,.ref H.length 0 0),(10,.sl false (cL.map dQ)),(11,.int .i64 (hK (x.aq.take i)).length),(12,.int .i64 i)]) (fun _=>G) (fun i=>i<=x.aq.length) (fun i=>x.aq.length-i) 0 (bG _) ?_ rfl ?_
    ·simp[go_sem,hK]
    intro i hi;by_cases ak:i<x.aq.length
    ·have ae:=dg aR ak;have ec:decide ((i:Int)<(x.aq.length:Int))=true:=b1;have o2:=RH ak;have hle:=HN (x.aq.take i);rw[e8]at hle;have hw:=dW ak (by omega)
     generalize x.aq[i]=t at *;generalize hK (x.aq.take i)=F at *;simp only[aR,g9,jd]at ae;cases hd:t.done with
     |false=>
      rw[hd,az (by decide),b2]at o2
      repeat' first|(refine ad ?_;simp only[go_sem,cw,ae,ec,hd])|refine af ?_|fail
      exact⟨i+1,ak,by omega,by rw[o2],bH _ hw⟩
     |true=>
      rw[hd,aF rfl]at o2;repeat' first|(refine ad ?_;simp only[go_sem,cw,ae,ec,hd])|refine af ?_|fail
      exact⟨i+1,ak,by omega,by rw[o2,bt,uv,cB];rfl,bH _ hw⟩
    ·have fx:i=x.aq.length:=by omega
     have ec:decide ((i:Int)<(x.aq.length:Int))=false:=cg;rw[fx,eQ,<-al.perm.length_eq];rw[fx]at ec;repeat' first|(refine ad ?_;simp only[go_sem,cw,ec])|refine af ?_|fail
     exact⟨(),trivial⟩
   rintro- -
   repeat' first|(refine ad ?_;simp only[go_sem,cw])|refine af ?_|fail
   refine b5 (ι:=Nat×ab) (fun s=>[(3,.bool true),(4,.ref H.length 0 0),(10,.sl false (cL.map dQ)),(11,.int .i64 cL.length),(13,.int .i64 s.1)]) (fun s=>G++s.2) (fun s=>s.1<=cL.length) (fun s=>cL.length-s.1) (0,[]) (bG _) ?_ (b2 _).symm ?_
   ·simp[go_sem]
   rintro⟨j,N⟩ aw;simp only at aw ⊢;obtain⟨fS,jq⟩:∃fS,G++N=fS:=⟨_,rfl⟩;have cK:=aZ N;rw[jq]at cK ⊢;have dc:=bz cK trivial;by_cases lC:j<cL.length
   ·have cG:=dg dQ lC;have sq:=dg dQ (show j-1<cL.length by omega)
    have JF:=RJ cL lC;have pX:BI (pf none (cL.take j)) cL[j]=true:=by
     have h1:=al.ok;rw[<-jf j cL,Ma,eo lC,fP]at h1;simp only[dD]at h1;exact h1.2.1
    rw[pX]at JF;obtain⟨n,t,h1,h2,h3,h4,cz,eK,lz⟩:=aCO al (hv lC);generalize cL[j-1]'(by omega)=q at *
    generalize cL[j]=p at *;subst h3;have bL:=(cA.1 h1).1;have kR:=dg aR bL;have aP:x.aq[n]=t:=(cA.1 h1).2;rw[aP]at kR;rw[<-cz]at eK lz;have nG:dQ (nh n t)=.agg [.int .i64 n,.int .i64 t.dJ,.int .i64 t.mark,.int .i64 t.end_,.int .i64 t.call.kind,.str t.call.path,.str t.call.to,.str t.call.data,.int .i64 t.call.n,.int .i64 t.bp.err,.str t.bp.data,.sl false (t.bp.names.map I.str),.int .i64 t.bp.n,.sl false (t.bp.events.map ct)]:=by rw[cz];rfl
    rw[nG]at cG;have gB:t.dJ<t.mark:=h4;have Wn:(decide ((0:Int)<(j:Int))&&decide (t.mark<=q.mark))=false:=by have e:(nh n t).mark=t.mark:=rfl;rw[e]at JF;cases a2:(decide ((0:Int)<(j:Int))&&decide (t.mark<=q.mark))with|false=>rfl|true=>rw[a2]at JF;cases JF
    simp only[dQ]at sq;simp only[aR,g9,jd]at kR;have Wc:=aDE false false false false t.bp t.bp;rw[cF rfl]at Wc;simp only[il]at Wc;have hw:=dW lC (by omega)
    have ca:IntKind.i64.wrap ((j:Int)-1)=(j:Int)-1:=cB;have kU:((j:Int)-1).toNat=j-1:=by omega
    have gI:((0:Int)<(j:Int)->(0:Int)<=(j:Int)-1∧(j:Int)-1<(cL.length:Int))=True:=bJ fun h=>⟨by omega,by omega⟩
    have ec:decide ((j:Int)<(cL.length:Int))=true:=b1;have d1:decide ((n:Int)<0)=false:=cg;have d2:decide ((x.aq.length:Int)<=(n:Int))=false:=cg;have d3:decide (t.mark<=t.dJ)=false:=cg;have d4:((0:Int)<=(n:Int)∧(n:Int)<(x.aq.length:Int))=True:=bJ ⟨by omega,by omega⟩
    cases he:t.ended with
    |true=>
     have d5:decide (t.end_=0)=false:=b8 (by have:=(lz he).2;omega)
     have d6:decide (t.end_<=t.mark)=false:=b8 (by have lW:t.mark<t.end_:=(lz he).1;omega)
     repeat' first|((first|refine mx [9] CS ?_|refine mx [11] CT ?_|refine ad ?_);simp only[go_sem,cK,dc,cG,sq,kR,ec,lC,ca,kU,gI,Wn,d1,d2,d3,d4,d5,d6,h2,he])|refine af ?_|fail
     exact⟨(j+1,N++_),lC,by simp only;omega,bH _ hw,by rw[<-jq,cr]⟩
    |false=>
     have d5:decide (t.end_=0)=true:=cF (eK he);repeat' first|((first|refine mx [9] CS ?_|refine mx [11] CT ?_|refine ad ?_);simp only[go_sem,cK,dc,cG,sq,kR,ec,lC,ca,kU,gI,Wn,d1,d2,d3,d4,d5,h2,he])|refine af ?_|fail
     exact⟨(j+1,N++_),lC,by simp only;omega,bH _ hw,by rw[<-jq,cr]⟩
   ·have lB:j=cL.length:=by omega
    have ec:decide ((j:Int)<(cL.length:Int))=false:=cg;repeat' first|(refine ad ?_;simp only[go_sem,cK,ec])|refine af ?_|fail
    exact yK (L:=.cells 0 (eY x).cells::M++N) (by rw[<-jq,<-aT];simp) (by simp only[go_sem]) (.of (bH I.bool (by simp)))
open Go.ChangeShapes Go.WideShapes Go.ChangeAt Go.RowKit
theorem Yx(os:Os)(started:os.Started)(H:Type)(enc:TypeId×Value->H):
  ReturnsInHanded {} Tryz.checked os 6 .any (fun w args=>(Rows.histOfSpec.pre enc Tryz.prog Tryz.f6 Rows.histOfRow.domain false w args∧laidMetH Tryz.prog Rows.histOfRow.laid w)∧sizedMet enc Tryz.prog Tryz.f6 (OpenSpec.ofChange Rows.histOfSpec) false w args) (Rows.histOfSpec.post enc Tryz.prog Tryz.f6 false true false false):=by
 refine returnsInHanded_of_change_and (C:=Tryz.checked) (X:=fun w _=>laidMetH Tryz.prog Rows.histOfRow.laid w) (fun _ _ _ ah h=>h.of_heap ah) own started (by kernel_rfl) Tryz.func6
  (ChangeSpec.witness_shaped (enc:=enc) (C:=Tryz.checked) (os:=os) (X:=fun w _=>laidMetH Tryz.prog Rows.histOfRow.laid w) false (World.laidAll Tryz.prog os Rows.histOfRow.laid) #[.slice none 0 0] 8 (World.laidAll_os _ _ _)
   (World.shaped_of_ZipB (by kernel_rfl) (by kernel_rfl)) (by kernel_rfl) (by kernel_rfl) (by kernel_rfl)
   (by rw[MakeChecks.laidMetH_plain _ _ _ (by kernel_rfl)];exact laidMet_laidAll _ (by kernel_rfl) (by kernel_rfl))) ?_
 intro W base args bc gs before wK hg Jf _ hU _;have gG:∀(j:Nat) t v,Tryz.f6.params[j]?=some t->args[j]?=some v->Value.okWide Tryz.prog W .any base t v:=wK;have wA:=hg;obtain⟨p,q,uT,sk,rfl,Jl,fz⟩:=hg;have cf:DataW.TrodAll enc Tryz.prog W 0 (fun _=>true) true Tryz.f6.params.toList args.toList bc p:=uT
 rw[Tryz.params6]at cf gG;obtain⟨v0,KK,d0,IP,qL,lL,Jc,rfl,rfl,aC,a8⟩:=trodAll_cons cf;obtain⟨rfl,rfl,rfl⟩:=trodAll_nil a8;obtain rfl:args= #[v0]:=by cases args;simp_all
 obtain⟨rfl,rfl⟩:=trodVars_none sk;have wW:∀x∈qL,x.block<W.heap.size:=by obtain⟨m,hm⟩:=aC;exact DataW.trod_lt m _ _ _ hm
 obtain⟨jz,kk,ds⟩:=w0 (by kernel_rfl) (gG 0 22 v0 rfl rfl) aC
 obtain⟨rF,rfl,JY⟩:=Md kk;refine(Ge (aGi false rF []) (Gj (wR ds Gy))).mono fun e zc ⟨he,nv⟩=>?_
 subst he;exact⟨_,rfl,_,_,_,[],_,[],wA,trodAll_mk1 (shut_bool Tryz.underlying4 _),(trodAll_cons_mk (Below.trod w1 (by kernel_rfl) (mB (by kernel_rfl)) aC nv wW) trodAll_mk0),rfl,nv.frame _,fun h=>by cases h⟩
theorem xi{a b:Bool}(h:a=true)(k:b=true):(a&&b)=true:=by rw[h,k];rfl
theorem aCA:Tryz.pinned.checked.prog.funcNamed Rows.histOfRow.func=some 6:=by kernel_rfl
theorem aCB:joinedFacts Tryz.pinned.checked.prog 6 Tryz.f6 Rows.histOfSpec Rows.histOfRow=true:=by
 unfold joinedFacts;repeat' refine xi ?_ ?_
 all_goals(as_aux_lemma=>kernel_rfl)
theorem aAb:Rows.HistOfSaid:=
 OpenClaim.holds_of_wide 6 Tryz.f6 rfl rfl rfl rfl rfl rfl rfl ⟨rfl,rfl,rfl,rfl,rfl⟩ rfl rfl rfl rfl rfl aCA Tryz.func6 aCB
  (mB (by kernel_rfl)) (by unfold Func.isWrapper;first|(rw[aF (by decide+kernel)];kernel_rfl)|(rw[az (by decide+kernel)];exact⟨rfl,rfl⟩))
  (fun os started H enc _=>Yx os started H enc)
theorem provedHistOf:Rows.HistOfCardSaid:=
 Claim7.holds_tied_plain_at .later [] [.data,.pinned] true (true,"6dd4f0f72b25f6a0e1e6a39835bba66f29800271df2eb181d97951cd66087702") true aAb (fun _ h=>by cases h) (by kernel_rfl) (fun _ h=>by cases h) histOf_row_tie rfl ⟨rfl,rfl⟩ (by kernel_rfl) rfl
  (fun f fn an kQ=>by
   obtain rfl:f=6:=nY ((show Tryz.prog.funcNamed "gunwale/gunwalelaw22.HistOf" =some 6 by kernel_rfl).symm.trans an)|>.symm
   obtain rfl:fn=Tryz.f6:=(nY (Tryz.func6.symm.trans kQ)).symm;exact⟨by kernel_rfl,fun j t aj=>by
    rw[Tryz.params6]at aj;have hm:t∈[22]:=by simpa using xo aj
    have fi:([22].all fun u=> !Tryz.prog.wantsStandIn u)=true:=by kernel_rfl
    exact(show Tryz.prog.wantsStandIn t=false by simpa using gT.1 fi t hm)⟩)
  (by kernel_rfl)
end Go.Proofs.YthafnbmdmfoobaaGreatDoor
