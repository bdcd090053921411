/- The row of RunBack: the walk's contract, put into the row's own words. No condition. -/
import Derived.Test.YtigedpfipifefaaGreatDoorWorkBN
import Derived.Test.YtigedpfipifefaaGreatDoorCards
import Derived.Test.YtigedpfipifefaaGreatDoorTie
import Derived.LaidMore
import Derived.Lay
import Derived.SevenTiedAt
set_option linter.unusedSimpArgs false
set_option linter.unusedVariables false
set_option linter.unusedSectionVars false
set_option maxRecDepth 100000
set_option maxHeartbeats 16000000
namespace Go.Proofs.YtigedpfipifefaaGreatDoor
open Go.ChangeShapes Go.WideShapes Go.ChangeAt Go.RowKit
theorem sS(os:Os)(started:os.Started)(H:Type)(enc:TypeId×Value→H):
  ReturnsInHanded {} Tryz.checked os 3 .any (fun w args=>(Rows.runBackSpec.pre enc Tryz.prog Tryz.f3 Rows.runBackRow.domain false w args∧laidMetH Tryz.prog Rows.runBackRow.laid w)∧sizedMet enc Tryz.prog Tryz.f3 (OpenSpec.ofChange Rows.runBackSpec) false w args) (Rows.runBackSpec.post enc Tryz.prog Tryz.f3 false true false false):=by
 refine returnsInHanded_of_change_and (C:=Tryz.checked) (X:=fun w _=>laidMetH Tryz.prog Rows.runBackRow.laid w) (fun _ _ _ hh h=>h.of_heap hh) own started (by kernel_rfl) Tryz.func3
  (ChangeSpec.witness_shaped (enc:=enc) (C:=Tryz.checked) (os:=os) (X:=fun w _=>laidMetH Tryz.prog Rows.runBackRow.laid w) false (World.laidAll Tryz.prog os Rows.runBackRow.laid) #[.int .i64 0,.int .i64 0,.slice none 0 0,.string ⟨#[]⟩] 8 (World.laidAll_os _ _ _)
   (World.shaped_of_ZipB (by kernel_rfl) (by kernel_rfl)) (by kernel_rfl) (by kernel_rfl) (by kernel_rfl)
   (by rw[MakeChecks.laidMetH_plain _ _ _ (by kernel_rfl)];exact laidMet_laidAll _ (by kernel_rfl) (by kernel_rfl))) ?_
 intro W base args ds gs before hval0 hW hcnd _ hL _;have hval:∀(j:Nat) t v,Tryz.f3.params[j]?=some t→args[j]?=some v→Value.okWide Tryz.prog W .any base t v:=hval0;have hW':=hW;obtain⟨p,q,hA0,hV,rfl,hfz,hnd⟩:=hW;have hA:DataW.TrodAll enc Tryz.prog W 0 (fun _=>true) true Tryz.f3.params.toList args.toList ds p:=hA0
 rw[Tryz.params3]at hA hval;obtain⟨v0,vs0,d0,ds0,p0,q0,hargs,rfl,rfl,h0,r0⟩:=trodAll_cons hA;obtain⟨v1,vs1,d1,ds1,p1,q1,rfl,rfl,rfl,h1,r1⟩:=trodAll_cons r0;obtain⟨v2,vs2,d2,ds2,p2,q2,rfl,rfl,rfl,h2,r2⟩:=trodAll_cons r1;obtain⟨v3,vs3,d3,ds3,p3,q3,rfl,rfl,rfl,h3,r3⟩:=trodAll_cons r2;obtain⟨rfl,rfl,rfl⟩:=trodAll_nil r3;obtain rfl:args= #[v0,v1,v2,v3]:=by cases args;simp_all
 obtain⟨rfl,rfl⟩:=trodVars_none hV;have lt0:∀x∈p0,x.block<W.heap.size:=by obtain⟨m,hm⟩:=h0;exact DataW.trod_lt m _ _ _ hm
 obtain⟨x0,s0,w0⟩:=pR (by kernel_rfl) (hval 0 3 v0 rfl rfl) h0
 obtain⟨n0,rfl⟩:=aDp s0;have lt1:∀x∈p1,x.block<W.heap.size:=by obtain⟨m,hm⟩:=h1;exact DataW.trod_lt m _ _ _ hm
 obtain⟨x1,s1,w1⟩:=pR (by kernel_rfl) (hval 1 3 v1 rfl rfl) h1
 obtain⟨n1,rfl⟩:=aDp s1;have lt2:∀x∈p2,x.block<W.heap.size:=by obtain⟨m,hm⟩:=h2;exact DataW.trod_lt m _ _ _ hm
 obtain⟨x2,s2,w2⟩:=pR (by kernel_rfl) (hval 2 22 v2 rfl rfl) h2
 obtain⟨l2,rfl,ll2⟩:=tZ s2;have lt3:∀x∈p3,x.block<W.heap.size:=by obtain⟨m,hm⟩:=h3;exact DataW.trod_lt m _ _ _ hm
 obtain⟨x3,s3,w3⟩:=pR (by kernel_rfl) (hval 3 9 v3 rfl rfl) h3
 obtain⟨b3,rfl⟩:=aOC s3;have hM:laidMetH Tryz.prog Rows.runBackRow.laid W:=hL;rw[MakeChecks.laidMetH_plain _ _ _ (by kernel_rfl)]at hM
 have hl:Laid (qZ W):=aHx (rest:=Rows.runBackRow.laid.tail) hM;refine(rA (aCn n0 n1 false l2 b3 []) (tN (eY w0 (eY w1 (eY w2 (eY w3 wT)))))).mono fun e W' ⟨he,bel⟩=>?_
 subst he;exact⟨_,rfl,_,_,_,[],_,[],hW',trodAll_mk1 (shut_bool Tryz.underlying4 _),(trodAll_cons_mk (Below.trod iR (by kernel_rfl) (zAB (by kernel_rfl)) h0 bel lt0) (trodAll_cons_mk (Below.trod iR (by kernel_rfl) (zAB (by kernel_rfl)) h1 bel lt1) (trodAll_cons_mk (Below.trod iR (by kernel_rfl) (zAB (by kernel_rfl)) h2 bel lt2) (trodAll_cons_mk (Below.trod iR (by kernel_rfl) (zAB (by kernel_rfl)) h3 bel lt3) trodAll_mk0)))),rfl,bel.frame _,fun h=>by cases h⟩
theorem aEu{a b:Bool}(h:a=true)(k:b=true):(a&&b)=true:=by rw[h,k];rfl
theorem aCp:Tryz.pinned.checked.prog.funcNamed Rows.runBackRow.func=some 3:=by kernel_rfl
theorem aCq:joinedFacts Tryz.pinned.checked.prog 3 Tryz.f3 Rows.runBackSpec Rows.runBackRow=true:=by
 unfold joinedFacts;repeat' refine aEu ?_ ?_
 all_goals(as_aux_lemma=>kernel_rfl)
theorem aAE:Rows.RunBackSaid:=
 OpenClaim.holds_of_wide 3 Tryz.f3 rfl rfl rfl rfl rfl rfl rfl ⟨rfl,rfl,rfl,rfl,rfl⟩ rfl rfl rfl rfl rfl aCp Tryz.func3 aCq
  (zAB (by kernel_rfl)) (by unfold Func.isWrapper;first|(rw[zAp (by decide+kernel)];kernel_rfl)|(rw[zAk (by decide+kernel)];exact⟨rfl,rfl⟩))
  (fun os started H enc _=>sS os started H enc)
theorem provedRunBack:Rows.RunBackCardSaid:=
 Claim7.holds_tied_plain_at .later [] [.data,.data,.pinned] true (true,"52ad022d9d113faaff7bbc4c4ea3205cbaf45b6c65be99697df0133416ff73fa") true aAE (fun _ h=>by cases h) (by kernel_rfl) (fun _ h=>by cases h) runBack_row_tie rfl ⟨rfl,rfl⟩ (by kernel_rfl) rfl
  (fun f fn hf hfn=>by
   obtain rfl:f=3:=zBh ((show Tryz.prog.funcNamed "gunwale/gunwalelaw24.RunBack" =some 3 by kernel_rfl).symm.trans hf)|>.symm
   obtain rfl:fn=Tryz.f3:=(zBh (Tryz.func3.symm.trans hfn)).symm;exact⟨by kernel_rfl,fun j t ht=>by
    rw[Tryz.params3]at ht;have hm:t∈[3,3,22,9]:=by simpa using zBe ht
    have hall:([3,3,22,9].all fun u=> !Tryz.prog.wantsStandIn u)=true:=by kernel_rfl
    exact(show Tryz.prog.wantsStandIn t=false by simpa using zAx.1 hall t hm)⟩)
  (by kernel_rfl)
end Go.Proofs.YtigedpfipifefaaGreatDoor
