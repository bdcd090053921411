/- The row of ModelNew: the walk's contract, put into the row's own words. No condition. -/
import Derived.Test.YthhdnjiodklmmaaGreatDoorWorkAE
import Derived.Test.YthhdnjiodklmmaaGreatDoorWorkAU
import Derived.Test.YthhdnjiodklmmaaGreatDoorWorkBY
import Derived.Test.YthhdnjiodklmmaaGreatDoorRows
import Derived.Test.YthhdnjiodklmmaaGreatDoorCards
import Derived.Test.YthhdnjiodklmmaaGreatDoorTie
import Derived.LaidMore
import Derived.Lay
import Derived.SevenTiedAt
set_option linter.unusedSimpArgs false
set_option linter.unusedVariables false
set_option linter.unusedSectionVars false
namespace Go.Proofs.YthhdnjiodklmmaaGreatDoor
open Go Go.Aw Go.ChangeShapes Go.WideShapes Go.ChangeAt Go.RowKit
theorem sb{P:Program}{t:TypeId}{ys:List AV}(ht:P.underlying t=some .bool)(h:Sh P t ys):∃b,ys=[.bool b]:=by
 cases h with
 |bool _ b=>exact⟨b,rfl⟩
 |int _ _ _ h=>rw[ht]at h;cases h
 |str _ _ h=>rw[ht]at h;cases h
 |slice _ _ _ h=>rw[ht]at h;cases h
 |struct _ _ _ h=>rw[ht]at h;cases h
 |other _ _ h _=>rw[kindB,ht]at h;cases h
set_option maxRecDepth 20000 in
theorem ab:hQ Tryz.prog 4=false:=by kernel_rfl
set_option maxRecDepth 20000 in
theorem ib{x:AV}(h:∃ys,x=mkA Tryz.prog 4 ys∧Sh Tryz.prog 4 ys∧(hQ Tryz.prog 4=true∨ys.length=1)):∃b,x=.bool b:=by
 obtain⟨ys,rfl,h,_⟩:=h
 obtain⟨b,rfl⟩:=sb Tryz.underlying4 h
 exact⟨b,by rw[mkA,if_neg (by rw[ab];decide)];rfl⟩
set_option maxRecDepth 100000 in
theorem liftedModelNew(os:Os)(started:os.Started)(H:Type)(enc:TypeId×Value→H):
  ReturnsInHanded {} Tryz.checked os 7 .any (fun w args=>(Rows.modelNewSpec.pre enc Tryz.prog Tryz.f7 Rows.modelNewRow.domain false w args∧laidMetH Tryz.prog Rows.modelNewRow.laid w)∧sizedMet enc Tryz.prog Tryz.f7 (OpenSpec.ofChange Rows.modelNewSpec) false w args) (Rows.modelNewSpec.post enc Tryz.prog Tryz.f7 false true false false):=by
 refine returnsInHanded_of_change_and (C:=Tryz.checked) (X:=fun w _=>laidMetH Tryz.prog Rows.modelNewRow.laid w) (fun _ _ _ hh h=>h.of_heap hh) own started (by kernel_rfl) Tryz.func7
  (ChangeSpec.witness_shaped (enc:=enc) (C:=Tryz.checked) (os:=os) (X:=fun w _=>laidMetH Tryz.prog Rows.modelNewRow.laid w) false (World.laidAll Tryz.prog os Rows.modelNewRow.laid) #[.slice none 0 0,.string ⟨#[]⟩,.bool false] 8 (World.laidAll_os _ _ _)
   (World.shaped_of_ZipB (by kernel_rfl) (by kernel_rfl)) (by kernel_rfl) (by kernel_rfl) (by kernel_rfl)
   (by rw[MakeChecks.laidMetH_plain _ _ _ (by kernel_rfl)];exact laidMet_laidAll _ (by kernel_rfl) (by kernel_rfl))) ?_
 intro W base args ds gs before hval0 hW hcnd _ hL _
 have hval:∀(j:Nat) t v,Tryz.f7.params[j]?=some t→args[j]?=some v→Value.okWide Tryz.prog W .any base t v:=hval0
 have hW':=hW
 obtain⟨p,q,hA0,hV,rfl,hfz,hnd⟩:=hW
 have hA:DataW.TrodAll enc Tryz.prog W 0 (fun _=>true) true Tryz.f7.params.toList args.toList ds p:=hA0
 rw[Tryz.params7]at hA hval
 obtain⟨v0,vs0,d0,ds0,p0,q0,hargs,rfl,rfl,h0,r0⟩:=trodAll_cons hA
 obtain⟨v1,vs1,d1,ds1,p1,q1,rfl,rfl,rfl,h1,r1⟩:=trodAll_cons r0
 obtain⟨v2,vs2,d2,ds2,p2,q2,rfl,rfl,rfl,h2,r2⟩:=trodAll_cons r1
 obtain⟨rfl,rfl,rfl⟩:=trodAll_nil r2
 obtain rfl:args= #[v0,v1,v2]:=by cases args;simp_all
 obtain⟨rfl,rfl⟩:=trodVars_none hV
 have lt0:∀x∈p0,x.block<W.heap.size:=by obtain⟨m,hm⟩:=h0;exact DataW.trod_lt m _ _ _ hm
 obtain⟨x0,s0,w0⟩:=dZ (by kernel_rfl) (hval 0 22 v0 rfl rfl) h0
 obtain⟨l0,rfl,ll0⟩:=iZ s0
 have lt1:∀x∈p1,x.block<W.heap.size:=by obtain⟨m,hm⟩:=h1;exact DataW.trod_lt m _ _ _ hm
 obtain⟨x1,s1,w1⟩:=dZ (by kernel_rfl) (hval 1 9 v1 rfl rfl) h1
 obtain⟨b1,rfl⟩:=aAF s1
 have lt2:∀x∈p2,x.block<W.heap.size:=by obtain⟨m,hm⟩:=h2;exact DataW.trod_lt m _ _ _ hm
 obtain⟨x2,s2,w2⟩:=dZ (by kernel_rfl) (hval 2 4 v2 rfl rfl) h2
 obtain⟨c2,rfl⟩:=ib s2
 refine(jI (mnew19_c false l0 b1 c2 []) (kS (cL w0 (cL w1 (cL w2 mC))))).mono fun e W' ⟨he,bel⟩=>?_
 subst he
 exact⟨_,rfl,_,_,_,[],_,[],hW',trodAll_mk1 (shut_bool Tryz.underlying4 _),(trodAll_cons_mk (Below.trod eC (by kernel_rfl) (of_decide_eq_true (by kernel_rfl)) h0 bel lt0) (trodAll_cons_mk (Below.trod eC (by kernel_rfl) (of_decide_eq_true (by kernel_rfl)) h1 bel lt1) (trodAll_cons_mk (Below.trod eC (by kernel_rfl) (of_decide_eq_true (by kernel_rfl)) h2 bel lt2) trodAll_mk0))),rfl,bel.frame _,fun h=>by cases h⟩
theorem rowModelNew:Rows.ModelNewSaid:=
 OpenClaim.holds_of_wide 7 Tryz.f7 rfl rfl rfl rfl rfl rfl rfl ⟨rfl,rfl,rfl,rfl,rfl⟩ rfl rfl rfl rfl rfl (by kernel_rfl) Tryz.func7 (by kernel_rfl)
  (of_decide_eq_true (by kernel_rfl)) (by unfold Func.isWrapper;first|(rw[if_pos (by decide+kernel)];kernel_rfl)|(rw[if_neg (by decide+kernel)];exact⟨rfl,rfl⟩))
  (fun os started H enc _=>liftedModelNew os started H enc)
theorem provedModelNew:Rows.ModelNewCardSaid:=
 Claim7.holds_tied_plain_at .later [] [.data,.pinned] true (true,"aa85309be068a12bcf86355bf905a7ff64a0c164a5d1394cc54c7d4c672dc33f") true rowModelNew (fun _ h=>by cases h) (by kernel_rfl) (fun _ h=>by cases h) modelNew_row_tie rfl ⟨rfl,rfl⟩ (by kernel_rfl) rfl
  (fun f fn hf hfn=>by
   obtain rfl:f=7:=Option.some.inj ((show Tryz.prog.funcNamed "gunwale/gunwalelaw19.ModelNew" =some 7 by kernel_rfl).symm.trans hf)|>.symm
   obtain rfl:fn=Tryz.f7:=(Option.some.inj (Tryz.func7.symm.trans hfn)).symm
   exact⟨by kernel_rfl,fun j t ht=>by
    rw[Tryz.params7]at ht
    have hm:t∈[22,9,4]:=by simpa using Array.mem_of_getElem? ht
    have hall:([22,9,4].all fun u=> !Tryz.prog.wantsStandIn u)=true:=by kernel_rfl
    exact(show Tryz.prog.wantsStandIn t=false by simpa using List.all_eq_true.1 hall t hm)⟩)
  (by kernel_rfl)
end Go.Proofs.YthhdnjiodklmmaaGreatDoor
