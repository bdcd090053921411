/- The row of HistTrue: the walk's contract, put into the row's own words. No condition. -/
import Derived.Test.YthafnbmdmfoobaaGreatDoorWorkBN
import Derived.Test.YthafnbmdmfoobaaGreatDoorRows
import Derived.Test.YthafnbmdmfoobaaGreatDoorCards
import Derived.Test.YthafnbmdmfoobaaGreatDoorTie
import Derived.LaidMore
import Derived.Lay
import Derived.SevenTiedAt
set_option linter.unusedSimpArgs false
set_option linter.unusedVariables false
set_option linter.unusedSectionVars false
set_option maxRecDepth 100000
set_option maxHeartbeats 16000000
namespace Go.Proofs.YthafnbmdmfoobaaGreatDoor
open Go.Srt
def J5:List cR:=[.pure 0,.free,.free,.pure 0,.pure 0,.pure 0,.pure 0,.free,.free,.free,.free,.eff [true,true,true,true,true],.eff [false,false,false,false,false],.free,.free]
def J6:List cR:=[.pure 0,.free,.free,.pure 0,.pure 0,.pure 0,.free,.free,.pure 0,.pure 0,.pure 0,.pure 0,.eff [false,false,false,false,false,false,false,false]]
attribute [go_sem] J5 J6
theorem aFe(b:Bool)(l:List q1)(H:ab):aY Tryz.prog 3 [.sl b (l.map lP)] H (.bool true):=by
 refine bh Tryz.func3 ?_;have rn:=Mf b l;have pV:=HX 3;have rr:=Eg 3;obtain⟨jz,p1⟩:∃jz,nR 3=(jz,0):=⟨_,rfl⟩;have uZ:ng 3=(jz.m,0):=by
  have:nR 3=({uO with m:=(ng 3).1},0):=rfl
  rw[this]at p1;cases p1;rfl
 have iG:=HZ p1;have yi:=iG.ks.ci.iz;rw[p1]at pV;rw[uZ]at rr;have Jd:=Gs;generalize nE:jz.m=da at *;simp only[eY,e4,gu,nE]at pV;simp only[dv,gf]at rr;cases h9:vq l with
 |false=>
  rw[h9]at rn;repeat' first|(refine ad ?_;simp only[go_sem])|refine af ?_|fail
  exact bo (.refl _)
 |true=>
  rw[h9]at rn;obtain⟨fk,cO⟩:=MG h9;repeat' first|(refine ad ?_;simp only[go_sem])|refine af ?_|fail
  obtain⟨B,bK⟩:∃B,B=(dv false false false false da).cells:=⟨_,rfl⟩;refine b5 (ι:=Nat×bn×ab) (fun s=>[(0,.sl b (l.map lP)),(3,.bool true),(4,.ref H.length 0 0),(6,.ref (H.length+1) 0 0),(8,.int .i64 s.1)]) (fun s=>H++(.cells 0 (eY s.2.1).cells::.cells 0 B::s.2.2)) (fun s=>s.1<=l.length∧ka da s.1 s.2.1) (fun s=>l.length-s.1) (0,jz,[]) ⟨bG _,iG⟩ ?_ (by rw[bK];simp only[eY,e4,gu,nE];rfl) ?_
  ·simp[go_sem]
  rintro⟨k,x,M⟩ ⟨hk,J⟩;simp only at hk J ⊢;have aa:=J.ks;obtain⟨G,aT⟩:∃G,H++(.cells 0 (eY x).cells::.cells 0 B::M)=G:=⟨_,rfl⟩;rw[aT];have cw:ao G H.length=.cells 0 (eY x).cells:=by rw[<-aT];simp only[go_sem]
  have aZ:ao G (H.length+1)=.cells 0 B:=by rw[<-aT];simp only[go_sem]
  have gs:∀X,ai G H.length X=H++(X::.cells 0 B::M):=fun X=>by rw[<-aT];simp only[go_sem]
  rw[bK]at aZ;simp only[eY,e4,gu,dv,gf,I.cells]at cw aZ;have a8:=cw;have aU:=bz cw trivial;have a3:=bz aZ trivial;have cH:=c8 cw trivial;have cO:=c8 aZ trivial;have a1:=fun X L=>bQ (bM aZ (show ¬H.length=H.length+1 by omega) X) trivial L;have a4:=fun X=>bM aZ (show ¬H.length=H.length+1 by omega) X;have bL:=aX G (H.length);have bq:=mq cH cO (show H.length<H.length+1 by omega) rfl
  by_cases ak:k<l.length
  ·have cG:=dg lP ak;have hj:=fk _ (hv ak);obtain⟨a,Fc⟩:∃a,a=l[k]:=⟨_,rfl⟩;rw[<-Fc]at cG hj;have av:=GJ false false false false false false false false false x a.call (by have:=aa.ci.n;omega)
   have dK:=HL x a.pick a.full aa (by omega)
   have gI:=J.act (by omega) hj
   have aH:decide ((k:Int)<(l.length:Int))=true:=b1;have j1:((0:Int)<=(k:Int))=True:=bJ (by omega)
   have qt:((k:Int)<(l.length:Int))=True:=bJ (by omega)
   have hw:=dW ak (by omega)
   unfold EP at gI;simp only[lP]at cG;simp only[eY,e4,gu,cJ]at av dK;cases hs:a.start with
   |true=>
    rw[hs,aF rfl]at gI;rw[hs]at cG;generalize(mc x a.call).1=y at *;repeat' first|((first|refine mx [10] J5 ?_|refine mx [12] J6 ?_|refine ad ?_);simp only[go_sem,a8,aU,a3,a1,a4,bL,bq,aX,cw,cG,aH,ak,qt,j1])|refine af ?_|fail
    exact⟨(k+1,y,M++_),⟨ak,gI⟩,by simp only;omega,bH _ hw,by rw[gs,cr,gi,gi];rfl⟩
   |false=>
    rw[hs,az (by decide)]at gI
    rw[hs]at cG;generalize ow x a.pick a.full=y at *;repeat' first|((first|refine mx [10] J5 ?_|refine mx [12] J6 ?_|refine ad ?_);simp only[go_sem,a8,aU,a3,a1,a4,bL,bq,aX,cw,cG,aH,ak,qt,j1])|refine af ?_|fail
    exact⟨(k+1,y,M),⟨ak,gI⟩,by simp only;omega,bH _ hw,gs _⟩
  ·have g3:k=l.length:=by omega
   have aH:decide ((k:Int)<(l.length:Int))=false:=cg;obtain⟨cL,al⟩:=J.al;obtain⟨cc,cI,gZ⟩:=al.all aa.ci;have ag:=aa.ci.n;have tI:=Il al (by omega) J.bp
   have kx:=sC false false false false false da yi cL (by omega) cc
   have oh:=Me false cL (by omega)
   have Fx:=Hi false false false false false da yi cL (by omega) cc
   have m9:=Sk false false false false false false false false x.m x.m;have hle:decide ((cL.length:Int)<=(x.aq.length:Int))=true:=b1;rw[al.ok]at kx;rw[gZ]at oh;rw[al.last]at Fx;rw[cF rfl]at m9;simp only[eY,e4,gu,dv,gf]at tI kx Fx m9;repeat' first|((first|refine mx [10] J5 ?_|refine mx [12] J6 ?_|refine ad ?_);simp only[go_sem,a8,aU,a3,a1,a4,bL,bq,aX,cw,aZ,a3,aH,hle,cP])|refine af ?_|fail
   exact yK aT (by simp only[go_sem]) (.refl _)
open Go.ChangeShapes Go.WideShapes Go.ChangeAt Go.RowKit
theorem Yb(os:Os)(started:os.Started)(H:Type)(enc:TypeId×Value->H):
  ReturnsInHanded {} Tryz.checked os 3 .any (fun w args=>(Rows.histTrueSpec.pre enc Tryz.prog Tryz.f3 Rows.histTrueRow.domain false w args∧laidMetH Tryz.prog Rows.histTrueRow.laid w)∧sizedMet enc Tryz.prog Tryz.f3 (OpenSpec.ofChange Rows.histTrueSpec) false w args) (Rows.histTrueSpec.post enc Tryz.prog Tryz.f3 false true false false):=by
 refine returnsInHanded_of_change_and (C:=Tryz.checked) (X:=fun w _=>laidMetH Tryz.prog Rows.histTrueRow.laid w) (fun _ _ _ ah h=>h.of_heap ah) own started (by kernel_rfl) Tryz.func3
  (ChangeSpec.witness_shaped (enc:=enc) (C:=Tryz.checked) (os:=os) (X:=fun w _=>laidMetH Tryz.prog Rows.histTrueRow.laid w) false (World.laidAll Tryz.prog os Rows.histTrueRow.laid) #[.slice none 0 0] 8 (World.laidAll_os _ _ _)
   (World.shaped_of_ZipB (by kernel_rfl) (by kernel_rfl)) (by kernel_rfl) (by kernel_rfl) (by kernel_rfl)
   (by rw[MakeChecks.laidMetH_plain _ _ _ (by kernel_rfl)];exact laidMet_laidAll _ (by kernel_rfl) (by kernel_rfl))) ?_
 intro W base args bc gs before wK hg Jf _ hU _;have gG:∀(j:Nat) t v,Tryz.f3.params[j]?=some t->args[j]?=some v->Value.okWide Tryz.prog W .any base t v:=wK;have wA:=hg;obtain⟨p,q,uT,sk,rfl,Jl,fz⟩:=hg;have cf:DataW.TrodAll enc Tryz.prog W 0 (fun _=>true) true Tryz.f3.params.toList args.toList bc p:=uT
 rw[Tryz.params3]at cf gG;obtain⟨v0,KK,d0,IP,qL,lL,Jc,rfl,rfl,aC,a8⟩:=trodAll_cons cf;obtain⟨rfl,rfl,rfl⟩:=trodAll_nil a8;obtain rfl:args= #[v0]:=by cases args;simp_all
 obtain⟨rfl,rfl⟩:=trodVars_none sk;have wW:∀x∈qL,x.block<W.heap.size:=by obtain⟨m,hm⟩:=aC;exact DataW.trod_lt m _ _ _ hm
 obtain⟨jz,kk,ds⟩:=w0 (by kernel_rfl) (gG 0 22 v0 rfl rfl) aC
 obtain⟨rF,rfl,JY⟩:=Md kk;refine(Ge (aFe false rF []) (Gj (wR ds Gy))).mono fun e zc ⟨he,nv⟩=>?_
 subst he;exact⟨_,rfl,_,_,_,[],_,[],wA,trodAll_mk1 (shut_bool Tryz.underlying4 _),(trodAll_cons_mk (Below.trod w1 (by kernel_rfl) (mB (by kernel_rfl)) aC nv wW) trodAll_mk0),rfl,nv.frame _,fun h=>by cases h⟩
theorem xi{a b:Bool}(h:a=true)(k:b=true):(a&&b)=true:=by rw[h,k];rfl
theorem Zu:Tryz.pinned.checked.prog.funcNamed Rows.histTrueRow.func=some 3:=by kernel_rfl
theorem Zv:joinedFacts Tryz.pinned.checked.prog 3 Tryz.f3 Rows.histTrueSpec Rows.histTrueRow=true:=by
 unfold joinedFacts;repeat' refine xi ?_ ?_
 all_goals(as_aux_lemma=>kernel_rfl)
theorem YE:Rows.HistTrueSaid:=
 OpenClaim.holds_of_wide 3 Tryz.f3 rfl rfl rfl rfl rfl rfl rfl ⟨rfl,rfl,rfl,rfl,rfl⟩ rfl rfl rfl rfl rfl Zu Tryz.func3 Zv
  (mB (by kernel_rfl)) (by unfold Func.isWrapper;first|(rw[aF (by decide+kernel)];kernel_rfl)|(rw[az (by decide+kernel)];exact⟨rfl,rfl⟩))
  (fun os started H enc _=>Yb os started H enc)
theorem provedHistTrue:Rows.HistTrueCardSaid:=
 Claim7.holds_tied_plain_at .later [] [.data,.pinned] true (true,"6dd4f0f72b25f6a0e1e6a39835bba66f29800271df2eb181d97951cd66087702") true YE (fun _ h=>by cases h) (by kernel_rfl) (fun _ h=>by cases h) histTrue_row_tie rfl ⟨rfl,rfl⟩ (by kernel_rfl) rfl
  (fun f fn an kQ=>by
   obtain rfl:f=3:=nY ((show Tryz.prog.funcNamed "gunwale/gunwalelaw22.HistTrue" =some 3 by kernel_rfl).symm.trans an)|>.symm
   obtain rfl:fn=Tryz.f3:=(nY (Tryz.func3.symm.trans kQ)).symm;exact⟨by kernel_rfl,fun j t aj=>by
    rw[Tryz.params3]at aj;have hm:t∈[22]:=by simpa using xo aj
    have fi:([22].all fun u=> !Tryz.prog.wantsStandIn u)=true:=by kernel_rfl
    exact(show Tryz.prog.wantsStandIn t=false by simpa using gT.1 fi t hm)⟩)
  (by kernel_rfl)
end Go.Proofs.YthafnbmdmfoobaaGreatDoor
