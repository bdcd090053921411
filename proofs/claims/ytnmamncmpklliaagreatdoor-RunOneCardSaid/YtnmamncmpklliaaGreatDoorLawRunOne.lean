/- The row of RunOne: the walk's contract, put into the row's own words. No condition. -/
import Derived.Test.YtnmamncmpklliaaGreatDoorWorkU
import Derived.Test.YtnmamncmpklliaaGreatDoorCards
import Derived.Test.YtnmamncmpklliaaGreatDoorTie
import Derived.LaidMore
import Derived.Lay
import Derived.SevenTiedAt
set_option linter.unusedSimpArgs false
set_option linter.unusedVariables false
set_option linter.unusedSectionVars false
set_option maxRecDepth 100000
set_option maxHeartbeats 16000000
namespace Go.Proofs.YtnmamncmpklliaaGreatDoor
open Go.Proofs.Tryz
open Go.ChangeShapes Go.WideShapes Go.ChangeAt Go.RowKit
theorem aDY(os:Os)(started:os.Started)(H:Type)(enc:TypeId×Value->H):
  ReturnsInHanded {} checked os 9 .any (λw args=>(Rows.runOneSpec.pre enc prog Tryz.f9 Rows.runOneRow.domain false w args/\laidMetH prog Rows.runOneRow.laid w)/\sizedMet enc prog Tryz.f9 (OpenSpec.ofChange Rows.runOneSpec) false w args) (Rows.runOneSpec.post enc prog Tryz.f9 false true false false):=by
 refine returnsInHanded_of_change_and (C:=checked) (X:=λw _=>laidMetH prog Rows.runOneRow.laid w) (λ_ _ _ T h=>h.of_heap T) own started ma func9
  (ChangeSpec.witness_shaped (enc:=enc) (C:=checked) (os:=os) (X:=λw _=>laidMetH prog Rows.runOneRow.laid w) false (World.laidAll prog os Rows.runOneRow.laid) #[.string ⟨#[]⟩] 8 (World.laidAll_os _ _ _)
   (World.shaped_of_ZipB ma ma) ma ma ma
   (by rw[MakeChecks.laidMetH_plain _ _ _ ma];exact laidMet_laidAll _ ma ma)) ?_
 intro W base args br gs before V J Z _ I _;have U:∀(j:Nat) t v,Tryz.f9.params[j]?=some t->args[j]?=some v->Value.okWide prog W .any base t v:=V;have z:=J;obtain⟨p,q,IQ,Fw,rfl,I6,iB⟩:=J;have K:DataW.TrodAll enc prog W 0 (λ_=>true) true Tryz.f9.params.toList args.toList br p:=IQ;rw[params9]at K U;obtain⟨v0,aDt,d0,aAp,x5,qk,aA7,rfl,rfl,ay,bd⟩:=trodAll_cons K;obtain⟨rfl,rfl,rfl⟩:=trodAll_nil bd;obtain rfl:args= #[v0]:=by cases args;simp_all
 obtain⟨rfl,rfl⟩:=trodVars_none Fw;have JQ:∀x∈x5,x.block<W.heap.size:=by obtain⟨m,hm⟩:=ay;exact DataW.trod_lt m _ _ _ hm
 obtain⟨yj,lj,cU⟩:=aJs ma (U 0 9 v0 rfl rfl) ay;obtain⟨fL,rfl⟩:=aM8 lj;have O:laidMetH prog Rows.runOneRow.laid W:=I;rw[MakeChecks.laidMetH_plain _ _ _ ma]at O;have hl:Laid (tZ W):=Qb (rest:=Rows.runOneRow.laid.tail) O;refine(TW (aLq fL []) (Uo<|Gp cU OX)).mono λe HC ⟨he,S⟩=>?_
 subst he;exact⟨_,rfl,_,_,_,[],_,[],z,trodAll_mk1<|shut_bool underlying4 _,(trodAll_cons_mk (Below.trod GV ma (nI ma) ay S JQ) trodAll_mk0),rfl,S.frame _,λh=>p2 h⟩
theorem KK{P:Program}(h:(P.funcs.toList.all λfn=> !fn.goes)=true)(c:OpenClaim)(hs:c.start=.entering):false=c.goesBy P:=by
 have h1:∀fn∈P.funcs,fn.goes=false:=λfn hm=>by simpa using fu.1 h fn (KS.2 hm)
 have h2:P.funcs.any Func.goes=false:=by rw[Array.any_eq_false'];intro fn hm;rw[h1 fn hm];decide
 have h3:∀f,P.goes f=false:=λf=>by
  unfold Program.goes;rw[h2,Bool.and_false,Bool.or_false];rw[DW];intro g _;cases J:P.funcs[g]? with
  |none=>simp
  |some fn=>simp[h1 fn (BE J)]
 unfold OpenClaim.goesBy Program.goesAt Program.goesFrom;rw[hs];cases P.funcNamed c.func with
 |none=>rfl
 |some f=>simp[h3 f]
theorem aFo:(Tryz.pinned.checked.prog.funcs.toList.all λfn=> !fn.goes)=true:=ma
theorem HZ{a b:Bool}(h:a=true)(k:b=true):(a&&b)=true:=by rw[h,k];rfl
theorem aIf:Tryz.pinned.checked.prog.funcNamed Rows.runOneRow.func=some 9:=ma
theorem aIg:joinedFacts Tryz.pinned.checked.prog 9 Tryz.f9 Rows.runOneSpec Rows.runOneRow=true:=by
 unfold joinedFacts;repeat' refine HZ ?_ ?_
 all_goals(as_aux_lemma=>kernel_rfl)
theorem aGT:Rows.RunOneSaid:=
 OpenClaim.holds_of_wide 9 Tryz.f9 rfl rfl rfl rfl rfl rfl rfl ⟨rfl,rfl,rfl,rfl,rfl⟩ rfl rfl rfl rfl rfl aIf func9 aIg
  (nI ma) (by unfold Func.isWrapper;first|(rw[aC (by decide+kernel)];kernel_rfl)|(rw[ar (by decide+kernel)];exact⟨rfl,rfl⟩))
  (λos started H enc _=>aDY os started H enc)
theorem provedRunOne:Rows.RunOneCardSaid:=
 Claim7.holds_tied_plain_at .later [] [.data,.data,.pinned] true (true,"31c076e2f65111c219a52b48c19c5d51bf8fd5c0df349b2344d7f754092b6c8c") true aGT (λ_ h=>p2 h) ma (λ_ h=>p2 h) runOne_row_tie rfl ⟨rfl,rfl⟩ ma rfl
  (λf fn J U=>by
   obtain rfl:f=9:=tH ((show prog.funcNamed "gunwale/gunwalelaw24.RunOne" =some 9 by kernel_rfl).symm.trans J)|>.symm
   obtain rfl:fn=Tryz.f9:=(tH (func9.symm.trans U)).symm;exact⟨ma,λj t ag=>by
    rw[params9]at ag;have hm:t∈[9]:=by simpa using BE ag
    have K:([9].all λu=> !prog.wantsStandIn u)=true:=ma;exact(show prog.wantsStandIn t=false by simpa using fu.1 K t hm)⟩)
  (KK aFo _ rfl)
end Go.Proofs.YtnmamncmpklliaaGreatDoor
