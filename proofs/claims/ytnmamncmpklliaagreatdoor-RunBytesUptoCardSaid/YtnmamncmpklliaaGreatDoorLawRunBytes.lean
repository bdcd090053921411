/- The row of RunBytes: the walk's contract, put into the row's own words. No condition. -/
import Derived.Test.YtnmamncmpklliaaGreatDoorWorkV
import Derived.Deep.DeepHandedRow
import Derived.Lib.LaidTab
import Derived.Test.YtnmamncmpklliaaGreatDoorCards
import Derived.Test.YtnmamncmpklliaaGreatDoorTie
import Derived.LaidMore
import Derived.Lay
import Derived.SevenTiedAt
set_option linter.unusedSimpArgs false
set_option linter.unusedVariables false
set_option linter.unusedSectionVars false
set_option maxRecDepth 100000
set_option maxHeartbeats 16000000
namespace Go.Proofs.YtnmamncmpklliaaGreatDoor
open Go.Proofs.Tryz
open Go.ChangeShapes Go.WideShapes Go.ChangeAt Go.RowKit
theorem aDT(os:Os)(started:os.Started)(H:Type)(enc:TypeId×Value->H)(F:Stop.Interp):
  ReturnsInHanded {} checked os 7 .any ((Rows.OpenSpec.upto Rows.runBytesSpec).preRow enc prog Tryz.f7 Rows.runBytesUptoRow.domain false Rows.runBytesUptoRow.laid) (((Rows.OpenSpec.upto Rows.runBytesSpec).at F).post enc prog Tryz.f7 false true false false):=by
 refine returnsInHanded_of_row (C:=checked) (s:=Rows.OpenSpec.upto Rows.runBytesSpec) own started ma func7
  (U8 (enc:=enc) (C:=checked) false (World.laidAll prog os Rows.runBytesUptoRow.laid) #[.int .u16 0,.slice none 0 0] (World.laidAll_os _ _ _)
   (World.shaped_of_ZipB ma ma) ma
   (OpenSpec.preRow_of_cond 8 (x:=([.lit (.int .u16 0),.nil],[],[])) ma ma (λk hk=>by cases hk;kernel_rfl) ma
    (by rw[MakeChecks.laidMetH_plain _ _ _ ma];exact laidMet_laidAll _ ma ma))) ?_
 intro W base args br gs before Z S I z _ gW _ _;have hk:=z _ rfl;have U:∀(j:Nat) t v,Tryz.f7.params[j]?=some t->args[j]?=some v->Value.okWide prog W .any base t v:=Z;have CD:=S;obtain⟨p,q,IQ,Fw,rfl,I6,iB⟩:=S;have T:DataW.TrodAll enc prog W 0 (λ_=>true) true Tryz.f7.params.toList args.toList br p:=IQ;rw[params7]at T U;obtain⟨v0,aDt,d0,aAp,x5,K,aA7,rfl,rfl,ay,bd⟩:=trodAll_cons T;obtain⟨v1,aSG,d1,aNJ,cw,J,rfl,rfl,rfl,h1,aS⟩:=trodAll_cons bd;obtain⟨rfl,rfl,rfl⟩:=trodAll_nil aS;obtain rfl:args= #[v0,v1]:=by cases args;simp_all
 obtain⟨rfl,rfl⟩:=trodVars_none Fw;have JQ:∀x∈x5,x.block<W.heap.size:=by obtain⟨m,hm⟩:=ay;exact DataW.trod_lt m _ _ _ hm
 obtain⟨yj,lj,cU,K⟩:=GD ma (U 0 76 v0 rfl rfl) ay;obtain⟨kP,rfl⟩:=YQ lj;have eV:∀x∈cw,x.block<W.heap.size:=by obtain⟨m,hm⟩:=h1;exact DataW.trod_lt m _ _ _ hm
 obtain⟨eQ,s1,c5,J⟩:=GD ma (U 1 22 v1 rfl rfl) h1;obtain⟨cm,rfl,aRg⟩:=Yk s1;replace K:=KF hk hW K;replace J:=KF hk hW J;have V:laidMetH prog Rows.runBytesUptoRow.laid W:=gW;rw[MakeChecks.laidMetH_plain _ _ _ ma]at V;have hl:Laid (tZ W):=Qb (rest:=Rows.runBytesUptoRow.laid.tail) V;refine(TW (aFm kP false cm J []) (Uo<|Gp cU (Gp c5 OX))).mono λe HC ⟨he,O⟩=>?_
 subst he;exact⟨_,rfl,_,_,_,[],_,[],CD,trodAll_mk1<|shut_bool underlying4 _,(trodAll_cons_mk (Below.trod GV ma (nI ma) ay O JQ) (trodAll_cons_mk (Below.trod GV ma (nI ma) h1 O eV) trodAll_mk0)),rfl,O.frame _,λh=>p2 h⟩
theorem KK{P:Program}(h:(P.funcs.toList.all λfn=> !fn.goes)=true)(c:OpenClaim)(hs:c.start=.entering):false=c.goesBy P:=by
 have h1:∀fn∈P.funcs,fn.goes=false:=λfn hm=>by simpa using fu.1 h fn (KS.2 hm)
 have h2:P.funcs.any Func.goes=false:=by rw[Array.any_eq_false'];intro fn hm;rw[h1 fn hm];decide
 have h3:∀f,P.goes f=false:=λf=>by
  unfold Program.goes;rw[h2,Bool.and_false,Bool.or_false];rw[DW];intro g _;cases J:P.funcs[g]? with
  |none=>simp
  |some fn=>simp[h1 fn (BE J)]
 unfold OpenClaim.goesBy Program.goesAt Program.goesFrom;rw[hs];cases P.funcNamed c.func with
 |none=>rfl
 |some f=>simp[h3 f]
theorem aDZ:(Tryz.pinned.checked.prog.funcs.toList.all λfn=> !fn.goes)=true:=ma
theorem HZ{a b:Bool}(h:a=true)(k:b=true):(a&&b)=true:=by rw[h,k];rfl
theorem aFp:Tryz.pinned.checked.prog.funcNamed Rows.runBytesRow.func=some 7:=ma
theorem aFq:joinedFacts Tryz.pinned.checked.prog 7 Tryz.f7 Rows.runBytesSpec Rows.runBytesRow=true:=by
 unfold joinedFacts;repeat' refine HZ ?_ ?_
 all_goals(as_aux_lemma=>kernel_rfl)
theorem aEv:Rows.RunBytesUptoSaid:=
 OpenClaim.holds_of_cond 7 Tryz.f7 rfl rfl rfl rfl rfl rfl rfl ⟨rfl,rfl,rfl,rfl,rfl⟩ rfl rfl rfl rfl rfl aFp func7 aFq
  (nI ma) (by unfold Func.isWrapper;first|(rw[aC (by decide+kernel)];kernel_rfl)|(rw[ar (by decide+kernel)];exact⟨rfl,rfl⟩))
  (λos started H enc _ F=>by rw[OpenClaim.pre_eq_preRow];exact aDT os started H enc F)
theorem provedRunBytes:Rows.RunBytesUptoCardSaid:=
 Claim7.holds_tied_plain_at .later [] [.data,.data,.pinned] true (true,"31c076e2f65111c219a52b48c19c5d51bf8fd5c0df349b2344d7f754092b6c8c") true aEv (λ_ h=>p2 h) ma (λ_ h=>p2 h) runBytesUpto_row_tie rfl ⟨rfl,rfl⟩ ma rfl
  (λf fn J U=>by
   obtain rfl:f=7:=tH ((show prog.funcNamed "gunwale/gunwalelaw24.RunBytes" =some 7 by kernel_rfl).symm.trans J)|>.symm
   obtain rfl:fn=Tryz.f7:=(tH (func7.symm.trans U)).symm;exact⟨ma,λj t ag=>by
    rw[params7]at ag;have hm:t∈[76,22]:=by simpa using BE ag
    have K:([76,22].all λu=> !prog.wantsStandIn u)=true:=ma;exact(show prog.wantsStandIn t=false by simpa using fu.1 K t hm)⟩)
  (KK aDZ _ rfl)
end Go.Proofs.YtnmamncmpklliaaGreatDoor
