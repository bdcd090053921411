/- The row of HistParts: the walk's contract, put into the row's own words. No condition. -/
import Derived.Test.YthafnbmdmfoobaaGreatDoorWorkBN
import Derived.Test.YthafnbmdmfoobaaGreatDoorRows
import Derived.Test.YthafnbmdmfoobaaGreatDoorCards
import Derived.Test.YthafnbmdmfoobaaGreatDoorTie
import Derived.LaidMore
import Derived.Lay
import Derived.SevenTiedAt
set_option linter.unusedSimpArgs false
set_option linter.unusedVariables false
set_option linter.unusedSectionVars false
set_option maxRecDepth 100000
set_option maxHeartbeats 16000000
namespace Go.Proofs.YthafnbmdmfoobaaGreatDoor
open Go.ChangeShapes Go.WideShapes Go.ChangeAt Go.RowKit
theorem X9(os:Os)(started:os.Started)(H:Type)(enc:TypeId×Value->H):
  ReturnsInHanded {} Tryz.checked os 7 .any (fun w args=>(Rows.histPartsSpec.pre enc Tryz.prog Tryz.f7 Rows.histPartsRow.domain false w args∧laidMetH Tryz.prog Rows.histPartsRow.laid w)∧sizedMet enc Tryz.prog Tryz.f7 (OpenSpec.ofChange Rows.histPartsSpec) false w args) (Rows.histPartsSpec.post enc Tryz.prog Tryz.f7 false true false false):=by
 refine returnsInHanded_of_change_and (C:=Tryz.checked) (X:=fun w _=>laidMetH Tryz.prog Rows.histPartsRow.laid w) (fun _ _ _ ah h=>h.of_heap ah) own started (by kernel_rfl) Tryz.func7
  (ChangeSpec.witness_shaped (enc:=enc) (C:=Tryz.checked) (os:=os) (X:=fun w _=>laidMetH Tryz.prog Rows.histPartsRow.laid w) false (World.laidAll Tryz.prog os Rows.histPartsRow.laid) #[.slice none 0 0,.slice none 0 0,.int .u8 0] 8 (World.laidAll_os _ _ _)
   (World.shaped_of_ZipB (by kernel_rfl) (by kernel_rfl)) (by kernel_rfl) (by kernel_rfl) (by kernel_rfl)
   (by rw[MakeChecks.laidMetH_plain _ _ _ (by kernel_rfl)];exact laidMet_laidAll _ (by kernel_rfl) (by kernel_rfl))) ?_
 intro W base args bc gs before wK hg Jf _ hU _;have gG:∀(j:Nat) t v,Tryz.f7.params[j]?=some t->args[j]?=some v->Value.okWide Tryz.prog W .any base t v:=wK;have wA:=hg;obtain⟨p,q,uT,sk,rfl,Jl,fz⟩:=hg;have cf:DataW.TrodAll enc Tryz.prog W 0 (fun _=>true) true Tryz.f7.params.toList args.toList bc p:=uT
 rw[Tryz.params7]at cf gG;obtain⟨v0,KK,d0,IP,qL,lL,Jc,rfl,rfl,aC,a8⟩:=trodAll_cons cf;obtain⟨v1,aL2,d1,aIc,cK,aQ,rfl,rfl,rfl,h1,aU⟩:=trodAll_cons a8;obtain⟨v2,aL3,d2,aId,dc,aO,rfl,rfl,rfl,h2,a3⟩:=trodAll_cons aU;obtain⟨rfl,rfl,rfl⟩:=trodAll_nil a3;obtain rfl:args= #[v0,v1,v2]:=by cases args;simp_all
 obtain⟨rfl,rfl⟩:=trodVars_none sk;have wW:∀x∈qL,x.block<W.heap.size:=by obtain⟨m,hm⟩:=aC;exact DataW.trod_lt m _ _ _ hm
 obtain⟨jz,kk,ds⟩:=w0 (by kernel_rfl) (gG 0 72 v0 rfl rfl) aC
 obtain⟨rF,rfl,JY⟩:=aBl kk;have e3:∀x∈cK,x.block<W.heap.size:=by obtain⟨m,hm⟩:=h1;exact DataW.trod_lt m _ _ _ hm
 obtain⟨fr,s1,c4⟩:=w0 (by kernel_rfl) (gG 1 55 v1 rfl rfl) h1
 obtain⟨cu,rfl,aSW⟩:=R5 s1;have fR:∀x∈dc,x.block<W.heap.size:=by obtain⟨m,hm⟩:=h2;exact DataW.trod_lt m _ _ _ hm
 obtain⟨dZ,s2,dm⟩:=w0 (by kernel_rfl) (gG 2 5 v2 rfl rfl) h2
 obtain⟨g7,rfl⟩:=Uf s2;refine(Ge (aCz false false rF cu g7 []) (Gj (wR ds (wR c4 (wR dm Gy))))).mono fun e zc ⟨he,nv⟩=>?_
 subst he;exact⟨_,rfl,_,_,_,[],_,[],wA,trodAll_mk1 (shut_bool Tryz.underlying4 _),(trodAll_cons_mk (Below.trod w1 (by kernel_rfl) (mB (by kernel_rfl)) aC nv wW) (trodAll_cons_mk (Below.trod w1 (by kernel_rfl) (mB (by kernel_rfl)) h1 nv e3) (trodAll_cons_mk (Below.trod w1 (by kernel_rfl) (mB (by kernel_rfl)) h2 nv fR) trodAll_mk0))),rfl,nv.frame _,fun h=>by cases h⟩
theorem xi{a b:Bool}(h:a=true)(k:b=true):(a&&b)=true:=by rw[h,k];rfl
theorem YH:Tryz.pinned.checked.prog.funcNamed Rows.histPartsRow.func=some 7:=by kernel_rfl
theorem YI:joinedFacts Tryz.pinned.checked.prog 7 Tryz.f7 Rows.histPartsSpec Rows.histPartsRow=true:=by
 unfold joinedFacts;repeat' refine xi ?_ ?_
 all_goals(as_aux_lemma=>kernel_rfl)
theorem Yy:Rows.HistPartsSaid:=
 OpenClaim.holds_of_wide 7 Tryz.f7 rfl rfl rfl rfl rfl rfl rfl ⟨rfl,rfl,rfl,rfl,rfl⟩ rfl rfl rfl rfl rfl YH Tryz.func7 YI
  (mB (by kernel_rfl)) (by unfold Func.isWrapper;first|(rw[aF (by decide+kernel)];kernel_rfl)|(rw[az (by decide+kernel)];exact⟨rfl,rfl⟩))
  (fun os started H enc _=>X9 os started H enc)
theorem provedHistParts:Rows.HistPartsCardSaid:=
 Claim7.holds_tied_plain_at .later [] [.data,.pinned] true (true,"6dd4f0f72b25f6a0e1e6a39835bba66f29800271df2eb181d97951cd66087702") true Yy (fun _ h=>by cases h) (by kernel_rfl) (fun _ h=>by cases h) histParts_row_tie rfl ⟨rfl,rfl⟩ (by kernel_rfl) rfl
  (fun f fn an kQ=>by
   obtain rfl:f=7:=nY ((show Tryz.prog.funcNamed "gunwale/gunwalelaw22.HistParts" =some 7 by kernel_rfl).symm.trans an)|>.symm
   obtain rfl:fn=Tryz.f7:=(nY (Tryz.func7.symm.trans kQ)).symm;exact⟨by kernel_rfl,fun j t aj=>by
    rw[Tryz.params7]at aj;have hm:t∈[72,55,5]:=by simpa using xo aj
    have fi:([72,55,5].all fun u=> !Tryz.prog.wantsStandIn u)=true:=by kernel_rfl
    exact(show Tryz.prog.wantsStandIn t=false by simpa using gT.1 fi t hm)⟩)
  (by kernel_rfl)
end Go.Proofs.YthafnbmdmfoobaaGreatDoor
