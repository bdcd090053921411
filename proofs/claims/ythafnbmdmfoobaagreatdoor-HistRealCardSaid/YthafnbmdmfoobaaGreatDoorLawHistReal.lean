/- The row of HistReal: the walk's contract, put into the row's own words. No condition. -/
import Derived.Test.YthafnbmdmfoobaaGreatDoorWorkBN
import Derived.Test.YthafnbmdmfoobaaGreatDoorRows
import Derived.Test.YthafnbmdmfoobaaGreatDoorCards
import Derived.Test.YthafnbmdmfoobaaGreatDoorTie
import Derived.LaidMore
import Derived.Lay
import Derived.SevenTiedAt
set_option linter.unusedSimpArgs false
set_option linter.unusedVariables false
set_option linter.unusedSectionVars false
set_option maxRecDepth 100000
set_option maxHeartbeats 16000000
namespace Go.Proofs.YthafnbmdmfoobaaGreatDoor
open Go.ChangeShapes Go.WideShapes Go.ChangeAt Go.RowKit
theorem Yd(os:Os)(started:os.Started)(H:Type)(enc:TypeId×Value->H):
  ReturnsInHanded {} Tryz.checked os 5 .any (fun w args=>(Rows.histRealSpec.pre enc Tryz.prog Tryz.f5 Rows.histRealRow.domain false w args∧laidMetH Tryz.prog Rows.histRealRow.laid w)∧sizedMet enc Tryz.prog Tryz.f5 (OpenSpec.ofChange Rows.histRealSpec) false w args) (Rows.histRealSpec.post enc Tryz.prog Tryz.f5 false true false false):=by
 refine returnsInHanded_of_change_and (C:=Tryz.checked) (X:=fun w _=>laidMetH Tryz.prog Rows.histRealRow.laid w) (fun _ _ _ ah h=>h.of_heap ah) own started (by kernel_rfl) Tryz.func5
  (ChangeSpec.witness_shaped (enc:=enc) (C:=Tryz.checked) (os:=os) (X:=fun w _=>laidMetH Tryz.prog Rows.histRealRow.laid w) false (World.laidAll Tryz.prog os Rows.histRealRow.laid) #[.slice none 0 0] 8 (World.laidAll_os _ _ _)
   (World.shaped_of_ZipB (by kernel_rfl) (by kernel_rfl)) (by kernel_rfl) (by kernel_rfl) (by kernel_rfl)
   (by rw[MakeChecks.laidMetH_plain _ _ _ (by kernel_rfl)];exact laidMet_laidAll _ (by kernel_rfl) (by kernel_rfl))) ?_
 intro W base args bc gs before wK hg Jf _ hU _;have gG:∀(j:Nat) t v,Tryz.f5.params[j]?=some t->args[j]?=some v->Value.okWide Tryz.prog W .any base t v:=wK;have wA:=hg;obtain⟨p,q,uT,sk,rfl,Jl,fz⟩:=hg;have cf:DataW.TrodAll enc Tryz.prog W 0 (fun _=>true) true Tryz.f5.params.toList args.toList bc p:=uT
 rw[Tryz.params5]at cf gG;obtain⟨v0,KK,d0,IP,qL,lL,Jc,rfl,rfl,aC,a8⟩:=trodAll_cons cf;obtain⟨rfl,rfl,rfl⟩:=trodAll_nil a8;obtain rfl:args= #[v0]:=by cases args;simp_all
 obtain⟨rfl,rfl⟩:=trodVars_none sk;have wW:∀x∈qL,x.block<W.heap.size:=by obtain⟨m,hm⟩:=aC;exact DataW.trod_lt m _ _ _ hm
 obtain⟨jz,kk,ds⟩:=w0 (by kernel_rfl) (gG 0 55 v0 rfl rfl) aC
 obtain⟨rF,rfl,JY⟩:=R5 kk;refine(Ge (aCy false rF []) (Gj (wR ds Gy))).mono fun e zc ⟨he,nv⟩=>?_
 subst he;exact⟨_,rfl,_,_,_,[],_,[],wA,trodAll_mk1 (shut_bool Tryz.underlying4 _),(trodAll_cons_mk (Below.trod w1 (by kernel_rfl) (mB (by kernel_rfl)) aC nv wW) trodAll_mk0),rfl,nv.frame _,fun h=>by cases h⟩
theorem xi{a b:Bool}(h:a=true)(k:b=true):(a&&b)=true:=by rw[h,k];rfl
theorem Zy:Tryz.pinned.checked.prog.funcNamed Rows.histRealRow.func=some 5:=by kernel_rfl
theorem Zz:joinedFacts Tryz.pinned.checked.prog 5 Tryz.f5 Rows.histRealSpec Rows.histRealRow=true:=by
 unfold joinedFacts;repeat' refine xi ?_ ?_
 all_goals(as_aux_lemma=>kernel_rfl)
theorem YG:Rows.HistRealSaid:=
 OpenClaim.holds_of_wide 5 Tryz.f5 rfl rfl rfl rfl rfl rfl rfl ⟨rfl,rfl,rfl,rfl,rfl⟩ rfl rfl rfl rfl rfl Zy Tryz.func5 Zz
  (mB (by kernel_rfl)) (by unfold Func.isWrapper;first|(rw[aF (by decide+kernel)];kernel_rfl)|(rw[az (by decide+kernel)];exact⟨rfl,rfl⟩))
  (fun os started H enc _=>Yd os started H enc)
theorem provedHistReal:Rows.HistRealCardSaid:=
 Claim7.holds_tied_plain_at .later [] [.data,.pinned] true (true,"6dd4f0f72b25f6a0e1e6a39835bba66f29800271df2eb181d97951cd66087702") true YG (fun _ h=>by cases h) (by kernel_rfl) (fun _ h=>by cases h) histReal_row_tie rfl ⟨rfl,rfl⟩ (by kernel_rfl) rfl
  (fun f fn an kQ=>by
   obtain rfl:f=5:=nY ((show Tryz.prog.funcNamed "gunwale/gunwalelaw22.HistReal" =some 5 by kernel_rfl).symm.trans an)|>.symm
   obtain rfl:fn=Tryz.f5:=(nY (Tryz.func5.symm.trans kQ)).symm;exact⟨by kernel_rfl,fun j t aj=>by
    rw[Tryz.params5]at aj;have hm:t∈[55]:=by simpa using xo aj
    have fi:([55].all fun u=> !Tryz.prog.wantsStandIn u)=true:=by kernel_rfl
    exact(show Tryz.prog.wantsStandIn t=false by simpa using gT.1 fi t hm)⟩)
  (by kernel_rfl)
end Go.Proofs.YthafnbmdmfoobaaGreatDoor
