/- The row of RunParts: the walk's contract, put into the row's own words. No condition. -/
import Derived.Test.YtnmamncmpklliaaGreatDoorWorkW
import Derived.Deep.DeepHandedRow
import Derived.Lib.LaidTab
import Derived.Test.YtnmamncmpklliaaGreatDoorCards
import Derived.Test.YtnmamncmpklliaaGreatDoorTie
import Derived.LaidMore
import Derived.Lay
import Derived.SevenTiedAt
set_option linter.unusedSimpArgs false
set_option linter.unusedVariables false
set_option linter.unusedSectionVars false
set_option maxRecDepth 100000
set_option maxHeartbeats 16000000
namespace Go.Proofs.YtnmamncmpklliaaGreatDoor
open Go.Proofs.Tryz
open Go.ChangeShapes Go.WideShapes Go.ChangeAt Go.RowKit
theorem aDU(os:Os)(started:os.Started)(H:Type)(enc:TypeId×Value->H)(F:Stop.Interp):
  ReturnsInHanded {} checked os 8 .any ((Rows.OpenSpec.upto Rows.runPartsSpec).preRow enc prog Tryz.f8 Rows.runPartsUptoRow.domain false Rows.runPartsUptoRow.laid) (((Rows.OpenSpec.upto Rows.runPartsSpec).at F).post enc prog Tryz.f8 false true false false):=by
 refine returnsInHanded_of_row (C:=checked) (s:=Rows.OpenSpec.upto Rows.runPartsSpec) own started ma func8
  (U8 (enc:=enc) (C:=checked) false (World.laidAll prog os Rows.runPartsUptoRow.laid) #[.int .u16 0,.slice none 0 0,.int .u8 0] (World.laidAll_os _ _ _)
   (World.shaped_of_ZipB ma ma) ma
   (OpenSpec.preRow_of_cond 8 (x:=([.lit (.int .u16 0),.nil,.lit<|.int .u8 0],[],[])) ma ma (λk hk=>by cases hk;kernel_rfl) ma
    (by rw[MakeChecks.laidMetH_plain _ _ _ ma];exact laidMet_laidAll _ ma ma))) ?_
 intro W base args br gs before I T z kK _ gW _ _;have hk:=kK _ rfl;have J:∀(j:Nat) t v,Tryz.f8.params[j]?=some t->args[j]?=some v->Value.okWide prog W .any base t v:=I;have CD:=T;obtain⟨p,q,IQ,Fw,rfl,I6,iB⟩:=T;have V:DataW.TrodAll enc prog W 0 (λ_=>true) true Tryz.f8.params.toList args.toList br p:=IQ;rw[params8]at V J;obtain⟨v0,aDt,d0,aAp,x5,O,aA7,rfl,rfl,ay,bd⟩:=trodAll_cons V;obtain⟨v1,aSG,d1,aNJ,cw,U,rfl,rfl,rfl,h1,aS⟩:=trodAll_cons bd;obtain⟨v2,aZc,d2,aXV,cL,S,rfl,rfl,rfl,h2,aY⟩:=trodAll_cons aS;obtain⟨rfl,rfl,rfl⟩:=trodAll_nil aY;obtain rfl:args= #[v0,v1,v2]:=by cases args;simp_all
 obtain⟨rfl,rfl⟩:=trodVars_none Fw;have JQ:∀x∈x5,x.block<W.heap.size:=by obtain⟨m,hm⟩:=ay;exact DataW.trod_lt m _ _ _ hm
 obtain⟨yj,lj,cU,O⟩:=GD ma (J 0 76 v0 rfl rfl) ay;obtain⟨kP,rfl⟩:=YQ lj;have eV:∀x∈cw,x.block<W.heap.size:=by obtain⟨m,hm⟩:=h1;exact DataW.trod_lt m _ _ _ hm
 obtain⟨eQ,s1,c5,U⟩:=GD ma (J 1 22 v1 rfl rfl) h1;obtain⟨cm,rfl,aRg⟩:=Yk s1;have fF:∀x∈cL,x.block<W.heap.size:=by obtain⟨m,hm⟩:=h2;exact DataW.trod_lt m _ _ _ hm
 obtain⟨dV,s2,cY,S⟩:=GD ma (J 2 5 v2 rfl rfl) h2;obtain⟨fr,rfl⟩:=aLT s2;replace O:=KF hk hW O;replace U:=KF hk hW U;replace S:=KF hk hW S;have Z:laidMetH prog Rows.runPartsUptoRow.laid W:=gW;rw[MakeChecks.laidMetH_plain _ _ _ ma]at Z;have hl:Laid (tZ W):=Qb (rest:=Rows.runPartsUptoRow.laid.tail) Z;refine(TW (aFn kP fr false cm U []) (Uo<|Gp cU (Gp c5 (Gp cY OX)))).mono λe HC ⟨he,K⟩=>?_
 subst he;exact⟨_,rfl,_,_,_,[],_,[],CD,trodAll_mk1<|shut_bool underlying4 _,(trodAll_cons_mk (Below.trod GV ma (nI ma) ay K JQ) (trodAll_cons_mk (Below.trod GV ma (nI ma) h1 K eV)<|trodAll_cons_mk (Below.trod GV ma (nI ma) h2 K fF) trodAll_mk0)),rfl,K.frame _,λh=>p2 h⟩
theorem KK{P:Program}(h:(P.funcs.toList.all λfn=> !fn.goes)=true)(c:OpenClaim)(hs:c.start=.entering):false=c.goesBy P:=by
 have h1:∀fn∈P.funcs,fn.goes=false:=λfn hm=>by simpa using fu.1 h fn (KS.2 hm)
 have h2:P.funcs.any Func.goes=false:=by rw[Array.any_eq_false'];intro fn hm;rw[h1 fn hm];decide
 have h3:∀f,P.goes f=false:=λf=>by
  unfold Program.goes;rw[h2,Bool.and_false,Bool.or_false];rw[DW];intro g _;cases J:P.funcs[g]? with
  |none=>simp
  |some fn=>simp[h1 fn (BE J)]
 unfold OpenClaim.goesBy Program.goesAt Program.goesFrom;rw[hs];cases P.funcNamed c.func with
 |none=>rfl
 |some f=>simp[h3 f]
theorem aD0:(Tryz.pinned.checked.prog.funcs.toList.all λfn=> !fn.goes)=true:=ma
theorem HZ{a b:Bool}(h:a=true)(k:b=true):(a&&b)=true:=by rw[h,k];rfl
theorem aFr:Tryz.pinned.checked.prog.funcNamed Rows.runPartsRow.func=some 8:=ma
theorem aFs:joinedFacts Tryz.pinned.checked.prog 8 Tryz.f8 Rows.runPartsSpec Rows.runPartsRow=true:=by
 unfold joinedFacts;repeat' refine HZ ?_ ?_
 all_goals(as_aux_lemma=>kernel_rfl)
theorem aEw:Rows.RunPartsUptoSaid:=
 OpenClaim.holds_of_cond 8 Tryz.f8 rfl rfl rfl rfl rfl rfl rfl ⟨rfl,rfl,rfl,rfl,rfl⟩ rfl rfl rfl rfl rfl aFr func8 aFs
  (nI ma) (by unfold Func.isWrapper;first|(rw[aC (by decide+kernel)];kernel_rfl)|(rw[ar (by decide+kernel)];exact⟨rfl,rfl⟩))
  (λos started H enc _ F=>by rw[OpenClaim.pre_eq_preRow];exact aDU os started H enc F)
theorem provedRunParts:Rows.RunPartsUptoCardSaid:=
 Claim7.holds_tied_plain_at .later [] [.data,.data,.pinned] true (true,"31c076e2f65111c219a52b48c19c5d51bf8fd5c0df349b2344d7f754092b6c8c") true aEw (λ_ h=>p2 h) ma (λ_ h=>p2 h) runPartsUpto_row_tie rfl ⟨rfl,rfl⟩ ma rfl
  (λf fn J U=>by
   obtain rfl:f=8:=tH ((show prog.funcNamed "gunwale/gunwalelaw24.RunParts" =some 8 by kernel_rfl).symm.trans J)|>.symm
   obtain rfl:fn=Tryz.f8:=(tH (func8.symm.trans U)).symm;exact⟨ma,λj t ag=>by
    rw[params8]at ag;have hm:t∈[76,22,5]:=by simpa using BE ag
    have K:([76,22,5].all λu=> !prog.wantsStandIn u)=true:=ma;exact(show prog.wantsStandIn t=false by simpa using fu.1 K t hm)⟩)
  (KK aD0 _ rfl)
end Go.Proofs.YtnmamncmpklliaaGreatDoor
