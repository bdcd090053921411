/- The row of HistSees: the walk's contract, put into the row's own words. No condition. -/
import Derived.Test.YthafnbmdmfoobaaGreatDoorWorkBN
import Derived.Test.YthafnbmdmfoobaaGreatDoorRows
import Derived.Test.YthafnbmdmfoobaaGreatDoorCards
import Derived.Test.YthafnbmdmfoobaaGreatDoorTie
import Derived.LaidMore
import Derived.Lay
import Derived.SevenTiedAt
set_option linter.unusedSimpArgs false
set_option linter.unusedVariables false
set_option linter.unusedSectionVars false
set_option maxRecDepth 100000
set_option maxHeartbeats 16000000
namespace Go.Proofs.YthafnbmdmfoobaaGreatDoor
open Go.Srt
def zH:List cR:=[.pure 0,.free,.free,.pure 0,.pure 0,.pure 0,.pure 0,.free,.free,.free,.free,.eff [true,true,true,true,true],.eff [false,false,false,false,false],.free,.free]
def zI:List cR:=[.pure 0,.free,.free,.pure 0,.pure 0,.pure 0,.free,.free,.pure 0,.pure 0,.pure 0,.pure 0,.eff [false,false,false,false,false,false,false,false]]
attribute [go_sem] zH zI
theorem aFf(b:Bool)(l:List q1)(n xh:Int)(H:ab):aY Tryz.prog 4 [.sl b (l.map lP),.int .u8 n,.int .i64 xh] H (.bool true):=by
 refine L2 fun _ bl aKa=>?_
 have ag:=Ub bl;have aG:=Mh aKa;obtain⟨u,rfl⟩:∃u:Nat,n=(u:Int):=⟨n.toNat,by omega⟩
 refine bh Tryz.func4 ?_;have rn:=Mf b l;have pV:=HX 0;have rr:=Eg 0;obtain⟨jz,p1⟩:∃jz,nR 0=(jz,0):=⟨_,rfl⟩;have uZ:ng 0=(jz.m,0):=by
  have:nR 0=({uO with m:=(ng 0).1},0):=rfl
  rw[this]at p1;cases p1;rfl
 have iG:=HZ p1;have yi:=iG.ks.ci.iz;rw[p1]at pV;rw[uZ]at rr;have Jd:=Gs;generalize nE:jz.m=da at *;simp only[eY,e4,gu,nE]at pV;simp only[dv,gf]at rr;by_cases OS:xh=0
 ·have ES:decide (xh=0)=true:=cF OS;cases h9:vq l with
  |false=>
   rw[h9]at rn;repeat' first|(refine ad ?_;simp only[go_sem,ES])|refine af ?_|fail
   exact bo (.refl _)
  |true=>
   rw[h9]at rn;repeat' first|(refine ad ?_;simp only[go_sem,ES])|refine af ?_|fail
   exact bo (.refl _)
 have ES:decide (xh=0)=false:=b8 OS;cases h9:vq l with
 |false=>
  rw[h9]at rn;repeat' first|(refine ad ?_;simp only[go_sem,ES])|refine af ?_|fail
  exact bo (.refl _)
 |true=>
  rw[h9]at rn;obtain⟨fk,cO⟩:=MG h9;repeat' first|(refine ad ?_;simp only[go_sem,ES])|refine af ?_|fail
  obtain⟨B,bK⟩:∃B,B=(dv false false false false da).cells:=⟨_,rfl⟩;refine b5 (ι:=Nat×bn×ab) (fun s=>[(0,.sl b (l.map lP)),(1,.int .u8 u),(2,.int .i64 xh),(7,.bool true),(8,.ref H.length 0 0),(10,.ref (H.length+1) 0 0),(12,.int .i64 s.1)]) (fun s=>H++(.cells 0 (eY s.2.1).cells::.cells 0 B::s.2.2)) (fun s=>s.1<=l.length∧ka da s.1 s.2.1) (fun s=>l.length-s.1) (0,jz,[]) ⟨bG _,iG⟩ ?_ (by rw[bK];simp only[eY,e4,gu,nE];rfl) ?_
  ·simp[go_sem]
  rintro⟨k,x,M⟩ ⟨hk,J⟩;simp only at hk J ⊢;have aa:=J.ks;obtain⟨G,aT⟩:∃G,H++(.cells 0 (eY x).cells::.cells 0 B::M)=G:=⟨_,rfl⟩;rw[aT];have cw:ao G H.length=.cells 0 (eY x).cells:=by rw[<-aT];simp only[go_sem]
  have aZ:ao G (H.length+1)=.cells 0 B:=by rw[<-aT];simp only[go_sem]
  have gs:∀X,ai G H.length X=H++(X::.cells 0 B::M):=fun X=>by rw[<-aT];simp only[go_sem]
  rw[bK]at aZ;simp only[eY,e4,gu,dv,gf,I.cells]at cw aZ;have a8:=cw;have aU:=bz cw trivial;have a3:=bz aZ trivial;have cH:=c8 cw trivial;have cO:=c8 aZ trivial;have a1:=fun X L=>bQ (bM aZ (show ¬H.length=H.length+1 by omega) X) trivial L;have a4:=fun X=>bM aZ (show ¬H.length=H.length+1 by omega) X;have bL:=aX G (H.length);have bq:=mq cH cO (show H.length<H.length+1 by omega) rfl
  by_cases ak:k<l.length
  ·have cG:=dg lP ak;have hj:=fk _ (hv ak);obtain⟨a,Fc⟩:∃a,a=l[k]:=⟨_,rfl⟩;rw[<-Fc]at cG hj;have av:=GJ false false false false false false false false false x a.call (by have:=aa.ci.n;omega)
   have dK:=HL x a.pick a.full aa (by omega)
   have gI:=J.act (by omega) hj
   have aH:decide ((k:Int)<(l.length:Int))=true:=b1;have j1:((0:Int)<=(k:Int))=True:=bJ (by omega)
   have qt:((k:Int)<(l.length:Int))=True:=bJ (by omega)
   have hw:=dW ak (by omega)
   unfold EP at gI;simp only[lP]at cG;simp only[eY,e4,gu,cJ]at av dK;cases hs:a.start with
   |true=>
    rw[hs,aF rfl]at gI;rw[hs]at cG;generalize(mc x a.call).1=y at *;repeat' first|((first|refine mx [10] zH ?_|refine mx [12] zI ?_|refine ad ?_);simp only[go_sem,a8,aU,a3,a1,a4,bL,bq,aX,cw,cG,aH,ak,qt,j1])|refine af ?_|fail
    exact⟨(k+1,y,M++_),⟨ak,gI⟩,by simp only;omega,bH _ hw,by rw[gs,cr,gi,gi];rfl⟩
   |false=>
    rw[hs,az (by decide)]at gI
    rw[hs]at cG;generalize ow x a.pick a.full=y at *;repeat' first|((first|refine mx [10] zH ?_|refine mx [12] zI ?_|refine ad ?_);simp only[go_sem,a8,aU,a3,a1,a4,bL,bq,aX,cw,cG,aH,ak,qt,j1])|refine af ?_|fail
    exact⟨(k+1,y,M),⟨ak,gI⟩,by simp only;omega,bH _ hw,gs _⟩
  ·have g3:k=l.length:=by omega
   have aH:decide ((k:Int)<(l.length:Int))=false:=cg;obtain⟨cL,al⟩:=J.al;obtain⟨cc,cI, -⟩:=al.all aa.ci;have ag:=aa.ci.n;have tI:=Il al (by omega) J.bp
   simp only[eY,e4,gu]at tI;by_cases he:cL=[]
   ·subst he;have kx:=sC false false false false true da yi [] (by simp) (fun _ h=>by cases h)
    simp only[dv,gf,im,fP]at kx tI;repeat' first|((first|refine mx [10] zH ?_|refine mx [12] zI ?_|refine ad ?_);simp only[go_sem,a8,aU,a3,a1,a4,bL,bq,aX,cw,aZ,a3,aH])|refine af ?_|fail
    exact yK aT (by simp only[go_sem]) (.refl _)
   have fe:0<cL.length:=vF.2 he;have dl:decide ((cL.length:Int)=0)=false:=cg;obtain⟨k,hk⟩:∃k,u % cL.length=k:=⟨_,rfl⟩;have gD:k<cL.length:=by rw[<-hk];exact Nat.mod_lt u fe
   have OC:(IntKind.i64.wrap (u:Int)).tmod (cL.length:Int)=(k:Int):=by rw[cB,DH (by omega),<-Int.natCast_emod,hk]
   have aQ:(∀x∈cL.map dQ,x.cells.length=14)=True:=bJ fun x J=>by(obtain⟨p,_,rfl⟩:=bP.1 J;rfl)
   have aO:(cL.length * 176<=140737488355328)=True:=bJ (by omega)
   have bF:((0:Int)<=(k:Int)∧(k:Int)<(cL.length:Int))=True:=bJ ⟨by omega,by omega⟩
   have c9:((0:Int)<(cL.length:Int))=True:=bJ (by omega)
   have eu:List.flatMap I.cells (cL.map dQ)=aI dQ cL:=rfl;have g4:=dE (enc:=dQ) (s:=14) (fun _=>rfl)
   have a2:cL[k]'gD=cL.getD k default:=by rw[eP,c0 gD];rfl
   obtain⟨p,ae⟩:∃p,cL[k]'gD=p:=⟨_,rfl⟩;have Nz:=dg dQ gD;have ND:=dg dQ fe;have v1:=HM (enc:=dQ) (s:=14) (fun _=>rfl) gD (f:=12) (by decide)
   have v2:=HM (enc:=dQ) (s:=14) (fun _=>rfl) gD (f:=10) (by decide)
   rw[ae]at Nz v1 v2;obtain⟨w,hw⟩:∃w,IntKind.i64.wrap (p.bp.n+xh)=w:=⟨_,rfl⟩;have s1:=sJ (enc:=dQ) (s:=14) (fun _=>rfl) (f:=12) (X:=[.int .i64 w]) gD (pq 13) {p with bp:={p.bp with n:=w}} (by rw[ae];rfl)
   have s2:=sJ (enc:=dQ) (s:=14) (fun _=>rfl) (f:=10) (X:=[.str (p.bp.data++[120])]) gD (by show 11<=14;omega) {p with bp:={p.bp with data:=p.bp.data++[120]}} (by rw[ae];rfl)
   have l3:=w4 (enc:=dQ) (s:=14) (fun _=>rfl) gD cL[0]
   have AR:=w4 (enc:=dQ) (s:=14) (fun _=>rfl) (D:=cL.set k cL[0]) (k:=0) (by rw[gj];exact fe) p
   have iw:(List.length p.bp.data<=9223372036854775806)=True:=bJ (by have:=J.data al p (ae▸hv gD);omega)
   have eA:(k * 14+10<cL.length * 14)=True:=bJ (by omega)
   have j3:(k * 14+11<=cL.length * 14)=True:=bJ (by omega)
   have rM:(k * 14+12<cL.length * 14)=True:=bJ (by omega)
   have aLx:(k * 14+13<=cL.length * 14)=True:=bJ (by omega)
   have aLy:(k * 14+14<=cL.length * 14)=True:=bJ (by omega)
   have lL:(14<=cL.length * 14)=True:=bJ (by omega)
   obtain⟨z,wO⟩:∃z,cL[0]'fe=z:=⟨_,rfl⟩;have aKK:z∈cL:=wO▸hv fe;rw[wO]at ND l3 AR;have pV:w≠p.bp.n:=fun e=>OS (by
    rw[<-hw]at e;have wM:=oM.1 aG;have h1:=sE .i64 (p.bp.n+xh);rw[e]at h1;have h2:=oM.1 h1;by_cases aV:p.bp.n+xh< -9223372036854775808
    ·exfalso;simp[IntKind.wrap,IntKind.bits,IntKind.signed]at e;omega
    ·by_cases bm:9223372036854775807<p.bp.n+xh
     ·exfalso;simp[IntKind.wrap,IntKind.bits,IntKind.signed]at e;omega
     ·rw[cB]at e;omega)
   simp only[dQ,I.cells,DM,DG,Nat.zero_mul]at Nz ND v1 v2 l3 AR;iterate 30 first|((first|refine mx [10] zH ?_|refine mx [12] zI ?_|refine ad ?_);simp only[go_sem,a8,aU,a3,a1,a4,bL,bq,aX,cw,aZ,a3,aH,dl,cP,OC,aQ,aO,bF,c9,eu,g4,gD,Nz,ND,v1,v2,s1,s2,l3,AR,hw,true_or,iw,eA,j3,rM,aLx,aLy,lL,gj])|refine af ?_|fail
   refine wQ [18] ((cL.set k {p with bp:={p.bp with n:=w}}).map dQ) (v:=1) (lc:=cL.length) (i:=G.length) (s:=14) (cs:=aI dQ (cL.set k {p with bp:={p.bp with n:=w}})) (by intro t aj;simp only[dA]at aj;subst aj;simp only[go_sem,cP,gj]) (by simp only[go_sem]) (by decide) rfl (fun e he=>by(obtain⟨x, -,rfl⟩:=bP.1 he;rfl)) ?_
   simp only[go_sem];refine wQ [19] ((cL.set k {p with bp:={p.bp with data:=p.bp.data++[120]}}).map dQ) (v:=1) (lc:=cL.length) (i:=G.length+1) (s:=14) (cs:=aI dQ (cL.set k {p with bp:={p.bp with data:=p.bp.data++[120]}})) (by intro t aj;simp only[dA]at aj;subst aj;simp only[go_sem,cP,gj]) (by simp only[go_sem]) (by decide) rfl (fun e he=>by(obtain⟨x, -,rfl⟩:=bP.1 he;rfl)) ?_
   simp only[go_sem];refine wQ [20] (((cL.set k z).set 0 p).map dQ) (v:=1) (lc:=cL.length) (i:=G.length+2) (s:=14) (cs:=aI dQ ((cL.set k z).set 0 p)) (by intro t aj;simp only[dA]at aj;subst aj;simp only[go_sem,cP,gj]) (by simp only[go_sem]) (by decide) rfl (fun e he=>by(obtain⟨x, -,rfl⟩:=bP.1 he;rfl)) ?_
   simp only[go_sem];have pW:p∈cL:=ae▸hv gD;have av:∀(p':a9),p'.call=p.call->∀y∈cL.set k p',jh y.call:=fun p' e y aG=>by
    rcases La aG with h|rfl
    ·exact cc y h
    ·rw[e];exact cc p pW
   have k1:=sC false false false false false da yi cL (by omega) cc
   have k2:=sC false false false false false da yi (cL.set k {p with bp:={p.bp with n:=w}}) (by rw[gj];omega) (av _ rfl)
   have k3:=sC false false false false false da yi (cL.set k {p with bp:={p.bp with data:=p.bp.data++[120]}}) (by rw[gj];omega) (av _ rfl)
   have k4:=sC false false false false false da yi ((cL.set k z).set 0 p) (by rw[gj,gj];omega) (fun y aG=>by
    rcases La aG with h|rfl
    ·rcases La h with h|rfl
     ·exact cc y h
     ·exact cc _ aKK
    ·exact cc y pW)
   have mm:cL[k]?=some p:=by rw[c0 gD,ae]
   rw[al.ok]at k1;rw[R4 al.ok mm (p':={p with bp:={p.bp with n:=w}}) rfl rfl (fun e=>pV (bH hS.n e))]at k2
   rw[R4 al.ok mm (p':={p with bp:={p.bp with data:=p.bp.data++[120]}}) rfl rfl (fun e=>by have:=bH List.length (bH hS.data e);simp at this)]at k3
   simp only[dv,gf]at k1 k2 k3 k4;by_cases j1:k=0
   ·have d0:decide ((k:Int)=0)=true:=b1;repeat' first|((first|refine mx [10] zH ?_|refine mx [12] zI ?_|refine ad ?_);simp only[go_sem,a8,aU,a3,a1,a4,bL,bq,aX,cw,aZ,a3,d0])|refine af ?_|fail
    exact xG aT (by simp only[go_sem]) (.refl _)
   ·have d0:decide ((k:Int)=0)=false:=cg;have aj:=aAw al.ok (show 0<k by omega) gD
    rw[ae,wO]at aj;rw[aj]at k4;repeat' first|((first|refine mx [10] zH ?_|refine mx [12] zI ?_|refine ad ?_);simp only[go_sem,a8,aU,a3,a1,a4,bL,bq,aX,cw,aZ,a3,d0])|refine af ?_|fail
    exact xG aT (by simp only[go_sem]) (.refl _)
open Go.ChangeShapes Go.WideShapes Go.ChangeAt Go.RowKit
theorem Yc(os:Os)(started:os.Started)(H:Type)(enc:TypeId×Value->H):
  ReturnsInHanded {} Tryz.checked os 4 .any (fun w args=>(Rows.histSeesSpec.pre enc Tryz.prog Tryz.f4 Rows.histSeesRow.domain false w args∧laidMetH Tryz.prog Rows.histSeesRow.laid w)∧sizedMet enc Tryz.prog Tryz.f4 (OpenSpec.ofChange Rows.histSeesSpec) false w args) (Rows.histSeesSpec.post enc Tryz.prog Tryz.f4 false true false false):=by
 refine returnsInHanded_of_change_and (C:=Tryz.checked) (X:=fun w _=>laidMetH Tryz.prog Rows.histSeesRow.laid w) (fun _ _ _ ah h=>h.of_heap ah) own started (by kernel_rfl) Tryz.func4
  (ChangeSpec.witness_shaped (enc:=enc) (C:=Tryz.checked) (os:=os) (X:=fun w _=>laidMetH Tryz.prog Rows.histSeesRow.laid w) false (World.laidAll Tryz.prog os Rows.histSeesRow.laid) #[.slice none 0 0,.int .u8 0,.int .i64 0] 8 (World.laidAll_os _ _ _)
   (World.shaped_of_ZipB (by kernel_rfl) (by kernel_rfl)) (by kernel_rfl) (by kernel_rfl) (by kernel_rfl)
   (by rw[MakeChecks.laidMetH_plain _ _ _ (by kernel_rfl)];exact laidMet_laidAll _ (by kernel_rfl) (by kernel_rfl))) ?_
 intro W base args bc gs before wK hg Jf _ hU _;have gG:∀(j:Nat) t v,Tryz.f4.params[j]?=some t->args[j]?=some v->Value.okWide Tryz.prog W .any base t v:=wK;have wA:=hg;obtain⟨p,q,uT,sk,rfl,Jl,fz⟩:=hg;have cf:DataW.TrodAll enc Tryz.prog W 0 (fun _=>true) true Tryz.f4.params.toList args.toList bc p:=uT
 rw[Tryz.params4]at cf gG;obtain⟨v0,KK,d0,IP,qL,lL,Jc,rfl,rfl,aC,a8⟩:=trodAll_cons cf;obtain⟨v1,aL2,d1,aIc,cK,aQ,rfl,rfl,rfl,h1,aU⟩:=trodAll_cons a8;obtain⟨v2,aL3,d2,aId,dc,aO,rfl,rfl,rfl,h2,a3⟩:=trodAll_cons aU;obtain⟨rfl,rfl,rfl⟩:=trodAll_nil a3;obtain rfl:args= #[v0,v1,v2]:=by cases args;simp_all
 obtain⟨rfl,rfl⟩:=trodVars_none sk;have wW:∀x∈qL,x.block<W.heap.size:=by obtain⟨m,hm⟩:=aC;exact DataW.trod_lt m _ _ _ hm
 obtain⟨jz,kk,ds⟩:=w0 (by kernel_rfl) (gG 0 22 v0 rfl rfl) aC
 obtain⟨rF,rfl,JY⟩:=Md kk;have e3:∀x∈cK,x.block<W.heap.size:=by obtain⟨m,hm⟩:=h1;exact DataW.trod_lt m _ _ _ hm
 obtain⟨fr,s1,c4⟩:=w0 (by kernel_rfl) (gG 1 5 v1 rfl rfl) h1
 obtain⟨fK,rfl⟩:=Uf s1;have fR:∀x∈dc,x.block<W.heap.size:=by obtain⟨m,hm⟩:=h2;exact DataW.trod_lt m _ _ _ hm
 obtain⟨dZ,s2,dm⟩:=w0 (by kernel_rfl) (gG 2 3 v2 rfl rfl) h2
 obtain⟨g7,rfl⟩:=aFv s2;refine(Ge (aFf false rF fK g7 []) (Gj (wR ds (wR c4 (wR dm Gy))))).mono fun e zc ⟨he,nv⟩=>?_
 subst he;exact⟨_,rfl,_,_,_,[],_,[],wA,trodAll_mk1 (shut_bool Tryz.underlying4 _),(trodAll_cons_mk (Below.trod w1 (by kernel_rfl) (mB (by kernel_rfl)) aC nv wW) (trodAll_cons_mk (Below.trod w1 (by kernel_rfl) (mB (by kernel_rfl)) h1 nv e3) (trodAll_cons_mk (Below.trod w1 (by kernel_rfl) (mB (by kernel_rfl)) h2 nv fR) trodAll_mk0))),rfl,nv.frame _,fun h=>by cases h⟩
theorem xi{a b:Bool}(h:a=true)(k:b=true):(a&&b)=true:=by rw[h,k];rfl
theorem Zw:Tryz.pinned.checked.prog.funcNamed Rows.histSeesRow.func=some 4:=by kernel_rfl
theorem Zx:joinedFacts Tryz.pinned.checked.prog 4 Tryz.f4 Rows.histSeesSpec Rows.histSeesRow=true:=by
 unfold joinedFacts;repeat' refine xi ?_ ?_
 all_goals(as_aux_lemma=>kernel_rfl)
theorem YF:Rows.HistSeesSaid:=
 OpenClaim.holds_of_wide 4 Tryz.f4 rfl rfl rfl rfl rfl rfl rfl ⟨rfl,rfl,rfl,rfl,rfl⟩ rfl rfl rfl rfl rfl Zw Tryz.func4 Zx
  (mB (by kernel_rfl)) (by unfold Func.isWrapper;first|(rw[aF (by decide+kernel)];kernel_rfl)|(rw[az (by decide+kernel)];exact⟨rfl,rfl⟩))
  (fun os started H enc _=>Yc os started H enc)
theorem provedHistSees:Rows.HistSeesCardSaid:=
 Claim7.holds_tied_plain_at .later [] [.data,.pinned] true (true,"6dd4f0f72b25f6a0e1e6a39835bba66f29800271df2eb181d97951cd66087702") true YF (fun _ h=>by cases h) (by kernel_rfl) (fun _ h=>by cases h) histSees_row_tie rfl ⟨rfl,rfl⟩ (by kernel_rfl) rfl
  (fun f fn an kQ=>by
   obtain rfl:f=4:=nY ((show Tryz.prog.funcNamed "gunwale/gunwalelaw22.HistSees" =some 4 by kernel_rfl).symm.trans an)|>.symm
   obtain rfl:fn=Tryz.f4:=(nY (Tryz.func4.symm.trans kQ)).symm;exact⟨by kernel_rfl,fun j t aj=>by
    rw[Tryz.params4]at aj;have hm:t∈[22,5,3]:=by simpa using xo aj
    have fi:([22,5,3].all fun u=> !Tryz.prog.wantsStandIn u)=true:=by kernel_rfl
    exact(show Tryz.prog.wantsStandIn t=false by simpa using gT.1 fi t hm)⟩)
  (by kernel_rfl)
end Go.Proofs.YthafnbmdmfoobaaGreatDoor
