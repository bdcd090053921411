/- The row of ModelSnaps: the walk's contract, put into the row's own words. No condition. -/
import Derived.Test.YthhdnjiodklmmaaGreatDoorWorkAE
import Derived.Test.YthhdnjiodklmmaaGreatDoorWorkAF
import Derived.Test.YthhdnjiodklmmaaGreatDoorWorkAU
import Derived.Test.YthhdnjiodklmmaaGreatDoorWorkBB
import Derived.Test.YthhdnjiodklmmaaGreatDoorWorkBX
import Derived.Test.YthhdnjiodklmmaaGreatDoorRows
import Derived.Test.YthhdnjiodklmmaaGreatDoorCards
import Derived.Test.YthhdnjiodklmmaaGreatDoorTie
import Derived.LaidMore
import Derived.Lay
import Derived.SevenTiedAt
set_option linter.unusedSimpArgs false
set_option linter.unusedVariables false
set_option linter.unusedSectionVars false
namespace Go.Proofs.YthhdnjiodklmmaaGreatDoor
open Go Go.Aw Go.Gw
set_option linter.unusedSimpArgs false
set_option linter.unusedVariables false
set_option maxRecDepth 20000
set_option maxHeartbeats 4000000
theorem msnaps19_c(b1 b2:Bool)(k l:List Cal)(path:Txt)(ls:Bool)(H:AHeap):cJ Tryz.prog 4 [.sl b1 (k.map gZ),.sl b2 (l.map gZ),.str path,.bool ls] H (.bool true):=by
 refine aL Tryz.func4 rfl (Nat.le_of_ble_eq_true rfl) ?_
 have hf1:=kZ b1 k 30
 have hf2:=kZ b2 l 30
 have hnw:=mR 0
 obtain⟨m0,hm0⟩:∃m0,({md0 with rep:=0,next:=1}:Mdl)=m0:=⟨_,rfl⟩
 have hnew:oI 0=(m0,0):=by rw[←hm0];rfl
 have hmi0:=nQ hnew
 have hi0:HI 1 m0:=by rw[←hm0];exact⟨Int.le_refl _,Int.le_refl _,fun s hs=>(by cases hs),fun s hs=>(by cases hs)⟩
 rw[hnew]at hnw
 simp only[cC,iW]at hnw
 cases hfk:iX k 30 with
 |false=>
  rw[hfk]at hf1
  have ct0:=ct bU bT;have ct1:=ct hnw bH;have ct2:=ct hf1 bF;repeat' first|((first|refine gK ?_|refine gS ?_);simp only[go_sem])|refine gA ?_|(refine gD (fun h=>?_) (fun h=>?_)<;>try exact aA h)|fail
  exact done (by simp only[go_sem]) (.refl _)
 |true=>
 rw[hfk]at hf1
 cases hfl:iX l 30 with
 |false=>
  rw[hfl]at hf2
  have ct0:=ct bU bT;have ct1:=ct hnw bH;have ct2:=ct hf1 bF;have ct3:=ct hf2 bF;repeat' first|((first|refine gK ?_|refine gS ?_);simp only[go_sem])|refine gA ?_|(refine gD (fun h=>?_) (fun h=>?_)<;>try exact aA h)|fail
  all_goals exact done (by simp only[go_sem]) (.refl _)
 |true=>
 rw[hfl]at hf2
 by_cases hp:path.length≤1000
 rotate_left
 ·have hpl:decide ((1000:Int)<(path.length:Int))=true:=decide_eq_true (by omega)
  have ct0:=ct bU bT;have ct1:=ct hnw bH;have ct2:=ct hf1 bF;have ct3:=ct hf2 bF;repeat' first|((first|refine gK ?_|refine gS ?_);simp only[go_sem,hpl])|refine gA ?_|(refine gD (fun h=>?_) (fun h=>?_)<;>try exact aA h)|fail
  all_goals exact done (by simp only[go_sem]) (.refl _)
 have hpl:decide ((1000:Int)<(path.length:Int))=false:=decide_eq_false (by omega)
 obtain⟨hck,hk30⟩:=nR hfk
 obtain⟨hcl,hl30⟩:=nR hfl
 have hall:=qY false false false false b1 m0 hmi0 k (by omega) hck
 have hmi1:=aCI k hmi0
 have hi1:=aFe k hmi0 hi0 (by omega)
 obtain⟨⟨m1,las⟩,hr1⟩:∃r,nP m0 k=r:=⟨_,rfl⟩
 rw[hr1]at hall hmi1 hi1
 simp only[cC,iW]at hall hmi1 hi1
 have hlo:=hi1.lo
 have hcc:∀q n,CS (aG q path n):=fun q n=>⟨by simp only[aG];omega,by simp[aG],by simp[aG]⟩
 have hc0:∀q n,CS (aG q [] n):=fun q n=>⟨by simp[aG],by simp[aG],by simp[aG]⟩
 obtain⟨kk,hkk⟩:∃kk,kk=(bif ls then(7:Int)else 4):=⟨_,rfl⟩
 have hk47:kk=4∨kk=7:=by rw[hkk];cases ls<;>simp
 have hd1:=jA false false false false m1 hmi1 (aG kk path 0) (hcc _ _)
 rw[aJ6 hk47 (Int.le_refl _) (show eG m1 0=some m1.log.nodes from if_pos rfl)]at hd1
 obtain⟨was,hwas⟩:∃was,aQP kk m1.log.nodes path=was:=⟨_,rfl⟩
 rw[hwas]at hd1
 have hd2:=jA false false false false m1 hmi1 (aG 8 [] 0) (hc0 _ _)
 have hmi2:=nH hmi1 (aG 8 [] 0)
 rcases aMF hmi1 with⟨e,h8⟩|e
 ·rw[e]at hd2
  simp only[doV,cC,iW,iD,gZ,aG,an0,errA]at hd1 hd2
  have hn8:((m1.snaps.length:Nat):Int)=8:=by omega
  cases ls
  all_goals
   simp only[cond_true,cond_false]at hkk
   rw[hkk]at hd1
   have ct0:=ct bU bT;have ct1:=ct hnw bH;have ct2:=ct hf1 bF;have ct3:=ct hf2 bF;have ct4:=ct hall jM;have ct5:=ct hd1 aN;have ct6:=ct hd2 aN;repeat' first|((first|refine gK ?_|refine gS ?_);simp only[go_sem,hpl,hn8])|refine gA ?_|(refine gD (fun h=>?_) (fun h=>?_)<;>try exact aA h)|fail
   exact done (by simp only[go_sem]) (.refl _)
 ·rw[e]at hd2 hmi2
  have hks:=aHD hi1 (IntKind.i64.wrap (m1.next+1))
  simp only at hmi2
  obtain⟨x0,hx0⟩:∃x0,({m1 with snaps:=m1.snaps++[⟨m1.next,m1.log.nodes⟩],next:=IntKind.i64.wrap (m1.next+1)}:Mdl)=x0:=⟨_,rfl⟩
  rw[hx0]at hd2 hmi2 hks
  simp only[doV,cC,iW,iD,gZ,aG,an0]at hd1 hd2
  cases ls
  all_goals
   simp only[cond_true,cond_false]at hkk
   rw[hkk]at hd1
   have ct0:=ct bU bT;have ct1:=ct hnw bH;have ct2:=ct hf1 bF;have ct3:=ct hf2 bF;have ct4:=ct hall jM;have ct5:=ct hd1 aN;have ct6:=ct hd2 aN;repeat' first|((first|refine gK ?_|refine gS ?_);simp only[go_sem,hpl])|refine gA ?_|(refine gD (fun h=>?_) (fun h=>?_)<;>try exact aA h)|fail
   refine aP (ι:=Nat×Mdl×AHeap) (fun s=>[(1,.sl b2 (l.map gZ)),(9,.bool true),(12,.ref (H.length+1) 0 0),(14,.ref (H.length+3) 0 0),(16,.ref (H.length+4) 0 0),(17,.ref (H.length+5) 0 0),(19,.int .i64 s.1)])
    (fun s=>H++(.cells 0 (cC false false false false m1).cells::.cells 0 (gZ (aG kk path 0)).cells::.cells 0 (cC false false false false m1).cells::.cells 0 (iD false false was).cells::.cells 0 (cC false false false false s.2.1).cells::.cells 0 (iD false false {an0 with n:=m1.next}).cells::s.2.2))
    (fun s=>s.1≤l.length∧MI s.2.1∧KeepS m1.next m1.log.nodes s.2.1) (fun s=>l.length-s.1) (0,x0,[]) ⟨Nat.zero_le _,hmi2,hks⟩ ?_ (by rw[hkk];rfl) ?_
   ·simp[go_sem]
   rintro⟨q,x,M⟩ ⟨hq,hmi,hkx⟩
   simp only at hq hmi hkx ⊢
   by_cases hlt:q<l.length
   ·obtain⟨G,hG⟩:∃G,H++(.cells 0 (cC false false false false m1).cells::.cells 0 (gZ (aG kk path 0)).cells::.cells 0 (cC false false false false m1).cells::.cells 0 (iD false false was).cells::.cells 0 (cC false false false false x).cells::.cells 0 (iD false false {an0 with n:=m1.next}).cells::M)=G:=⟨_,rfl⟩
    rw[hG]
    have g0:hget G (H.length+4)=.cells 0 (cC false false false false x).cells:=by rw[←hG];simp only[go_sem]
    have g1:=aT g0 trivial
    have g2:=fM g0 trivial
    have g3:hget G (H.length+5)=.cells 0 (iD false false {an0 with n:=m1.next}).cells:=by rw[←hG];simp only[go_sem]
    have gs:∀X,aD G (H.length+4) X=H++(.cells 0 (cC false false false false m1).cells::.cells 0 (gZ (aG kk path 0)).cells::.cells 0 (cC false false false false m1).cells::.cells 0 (iD false false was).cells::X::.cells 0 (iD false false {an0 with n:=m1.next}).cells::M):=fun X=>by rw[←hG];simp only[go_sem]
    have hgd:=bA gZ hlt
    have hcc:=hcl _ (List.getElem_mem hlt)
    obtain⟨c,hce⟩:∃c,c=l[q]:=⟨_,rfl⟩
    rw[←hce]at hgd hcc
    simp only[gZ]at hgd
    have hli:decide ((q:Int)<(l.length:Int))=true:=decide_eq_true (by omega)
    have hk0:((0:Int)≤(q:Int))=True:=eq_true (by omega)
    have hki:((q:Int)<(l.length:Int))=True:=eq_true (by omega)
    have hw':IntKind.i64.wrap ((q:Int)+1)=((q+1:Nat):Int):=bD hlt (by omega)
    have hdo:=jA false false false false x hmi c hcc
    have hmi3:=nH hmi c
    have hkx2:=aUq hmi hkx (c:=c)
    obtain⟨⟨y,a,o⟩,hr⟩:∃r,doM x c=r:=⟨_,rfl⟩
    rw[hr]at hdo hmi3 hkx2
    simp only at hmi3 hkx2
    simp only[doV,cC,iW,gZ,iD]at hdo
    repeat' first|((first|refine aV (hdo _) aN ?_|refine aW (hdo _) aN ?_|refine aX (fun _=>hdo _) aN ?_|refine cE (id:=17) [.pure 3,.free,.free,.pure 3,.pure 3,.pure 3,.free,.free,.free,.free] [.eff [],.eff [],.free] 10 31 39 20 21 jU rfl (by kernel_rfl) (by kernel_rfl) (by kernel_rfl) (by kernel_rfl) ?_|refine gS ?_);simp only[go_sem,cC,iW,iD,an0,g0,g1,g2,g3,hgd,hli,hlt,hki,hk0])|((with_reducible refine And.intro ?_ ?_);focus (exact aK (hdo _) aN))|((with_reducible refine And.intro (And.intro ?_ ?_) ?_);focus (exact aK (hdo _) aN))|(exact aK (hdo _) aN)|refine gA ?_|(refine gD (fun h=>?_) (fun h=>?_)<;>try exact aA h)|fail
    ·have hd:¬(c.kind=9∧c.n=m1.next):=fun hd=>by simp[hd.1,hd.2]at h
     exact⟨(q+1,y,M++[.cells 2 (cC false false false false y).cells,.cells 2 (iD false false a).cells]),⟨hlt,hmi3,hkx2 hd⟩,by simp only;omega,congrArg _ hw',by rw[gs];simp[cC,iW,iD,an0,AV.cells]⟩
    ·exact⟨(q+1,x,M),⟨hlt,hmi,hkx⟩,by simp only;omega,congrArg _ hw',hG.symm⟩
   ·have hqe:q=l.length:=by omega
    have hli:decide ((q:Int)<(l.length:Int))=false:=decide_eq_false (by omega)
    have hd3:=jA false false false false x hmi (aG kk path m1.next) (hcc _ _)
    rw[aJ6 hk47 (by omega) (hkx.nodes hlo),hwas]at hd3
    have hd4:=jA false false false false x hmi (aG 9 [] m1.next) (hc0 _ _)
    have hmi4:=nH hmi (aG 9 [] m1.next)
    obtain⟨z,hz,hzn⟩:=aMG hkx hlo
    rw[hz]at hd4 hmi4
    simp only at hmi4
    have hd5:=jA false false false false z hmi4 (aG kk path m1.next) (hcc _ _)
    have hgone:=aJ7 (p:=path) hk47 (show 0≤m1.next by omega) hzn
    obtain⟨⟨z5,a5,o5⟩,hr5⟩:∃r,doM z (aG kk path m1.next)=r:=⟨_,rfl⟩
    rw[hr5]at hd5 hgone
    have hone:=aMt false false false false was was
    rw[decide_eq_true rfl]at hone
    simp only at hgone
    simp only[doV,cC,iW,iD,an0,gZ,aG]at hd3 hd4 hd5 hone
    obtain⟨G,hG⟩:∃G,H++(.cells 0 (cC false false false false m1).cells::.cells 0 (gZ (aG kk path 0)).cells::.cells 0 (cC false false false false m1).cells::.cells 0 (iD false false was).cells::.cells 0 (cC false false false false x).cells::.cells 0 (iD false false {an0 with n:=m1.next}).cells::M)=G:=⟨_,rfl⟩
    rw[hG]
    have g5:hget G (H.length+5)=.cells 0 (iD false false {an0 with n:=m1.next}).cells:=by rw[←hG];simp only[go_sem]
    have gc:hget G (H.length+1)=.cells 0 (gZ (aG kk path 0)).cells:=by rw[←hG];simp only[go_sem]
    obtain⟨G1,hG1⟩:∃G1,aD G (H.length+1) (.cells 0 [.int .i64 kk,.str path,.str [],.str [],.int .i64 m1.next])=G1:=⟨_,rfl⟩
    have e1:H++(.cells 0 (cC false false false false m1).cells::.cells 0 [.int .i64 kk,.str path,.str [],.str [],.int .i64 m1.next]::.cells 0 (cC false false false false m1).cells::.cells 0 (iD false false was).cells::.cells 0 (cC false false false false x).cells::.cells 0 (iD false false {an0 with n:=m1.next}).cells::M)=G1:=by rw[←hG1,←hG];simp only[go_sem]
    have p1:hget G1 (H.length+1)=.cells 0 [.int .i64 kk,.str path,.str [],.str [],.int .i64 m1.next]:=by rw[←e1];simp only[go_sem]
    have p3:hget G1 (H.length+3)=.cells 0 (iD false false was).cells:=by rw[←e1];simp only[go_sem]
    have p4:hget G1 (H.length+4)=.cells 0 (cC false false false false x).cells:=by rw[←e1];simp only[go_sem]
    have p5:hget G1 (H.length+5)=.cells 0 (iD false false {an0 with n:=m1.next}).cells:=by rw[←e1];simp only[go_sem]
    have r1:=aT p1 trivial
    have r3:=aT p3 trivial
    have r4:=aT p4 trivial
    have r5:=aT p5 trivial
    rcases hgone with hg|hg
    all_goals
     rw[hg]at hd5
     have ct0:=ct hd3 aN;have ct1:=ct hd4 aN;have ct2:=ct hd5 aN;have ct3:=ct hone aGD;repeat' first|((first|refine gK ?_|refine gS ?_);simp only[go_sem,hli,g5,gc,hG1,p1,p3,p4,p5,r1,r3,r4,r5,cC,iW,iD,an0,gZ,aG])|refine gA ?_|(refine gD (fun h=>?_) (fun h=>?_)<;>try exact aA h)|fail
     exact sI (by rw[←e1,List.append_assoc]) (by simp only[go_sem]) (.refl _)
open Go Go.Aw Go.ChangeShapes Go.WideShapes Go.ChangeAt Go.RowKit
theorem sb{P:Program}{t:TypeId}{ys:List AV}(ht:P.underlying t=some .bool)(h:Sh P t ys):∃b,ys=[.bool b]:=by
 cases h with
 |bool _ b=>exact⟨b,rfl⟩
 |int _ _ _ h=>rw[ht]at h;cases h
 |str _ _ h=>rw[ht]at h;cases h
 |slice _ _ _ h=>rw[ht]at h;cases h
 |struct _ _ _ h=>rw[ht]at h;cases h
 |other _ _ h _=>rw[kindB,ht]at h;cases h
set_option maxRecDepth 20000 in
theorem ab:hQ Tryz.prog 4=false:=by kernel_rfl
set_option maxRecDepth 20000 in
theorem ib{x:AV}(h:∃ys,x=mkA Tryz.prog 4 ys∧Sh Tryz.prog 4 ys∧(hQ Tryz.prog 4=true∨ys.length=1)):∃b,x=.bool b:=by
 obtain⟨ys,rfl,h,_⟩:=h
 obtain⟨b,rfl⟩:=sb Tryz.underlying4 h
 exact⟨b,by rw[mkA,if_neg (by rw[ab];decide)];rfl⟩
set_option maxRecDepth 100000 in
theorem liftedModelSnaps(os:Os)(started:os.Started)(H:Type)(enc:TypeId×Value→H):
  ReturnsInHanded {} Tryz.checked os 4 .any (fun w args=>(Rows.modelSnapsSpec.pre enc Tryz.prog Tryz.f4 Rows.modelSnapsRow.domain false w args∧laidMetH Tryz.prog Rows.modelSnapsRow.laid w)∧sizedMet enc Tryz.prog Tryz.f4 (OpenSpec.ofChange Rows.modelSnapsSpec) false w args) (Rows.modelSnapsSpec.post enc Tryz.prog Tryz.f4 false true false false):=by
 refine returnsInHanded_of_change_and (C:=Tryz.checked) (X:=fun w _=>laidMetH Tryz.prog Rows.modelSnapsRow.laid w) (fun _ _ _ hh h=>h.of_heap hh) own started (by kernel_rfl) Tryz.func4
  (ChangeSpec.witness_shaped (enc:=enc) (C:=Tryz.checked) (os:=os) (X:=fun w _=>laidMetH Tryz.prog Rows.modelSnapsRow.laid w) false (World.laidAll Tryz.prog os Rows.modelSnapsRow.laid) #[.slice none 0 0,.slice none 0 0,.string ⟨#[]⟩,.bool false] 8 (World.laidAll_os _ _ _)
   (World.shaped_of_ZipB (by kernel_rfl) (by kernel_rfl)) (by kernel_rfl) (by kernel_rfl) (by kernel_rfl)
   (by rw[MakeChecks.laidMetH_plain _ _ _ (by kernel_rfl)];exact laidMet_laidAll _ (by kernel_rfl) (by kernel_rfl))) ?_
 intro W base args ds gs before hval0 hW hcnd _ hL _
 have hval:∀(j:Nat) t v,Tryz.f4.params[j]?=some t→args[j]?=some v→Value.okWide Tryz.prog W .any base t v:=hval0
 have hW':=hW
 obtain⟨p,q,hA0,hV,rfl,hfz,hnd⟩:=hW
 have hA:DataW.TrodAll enc Tryz.prog W 0 (fun _=>true) true Tryz.f4.params.toList args.toList ds p:=hA0
 rw[Tryz.params4]at hA hval
 obtain⟨v0,vs0,d0,ds0,p0,q0,hargs,rfl,rfl,h0,r0⟩:=trodAll_cons hA
 obtain⟨v1,vs1,d1,ds1,p1,q1,rfl,rfl,rfl,h1,r1⟩:=trodAll_cons r0
 obtain⟨v2,vs2,d2,ds2,p2,q2,rfl,rfl,rfl,h2,r2⟩:=trodAll_cons r1
 obtain⟨v3,vs3,d3,ds3,p3,q3,rfl,rfl,rfl,h3,r3⟩:=trodAll_cons r2
 obtain⟨rfl,rfl,rfl⟩:=trodAll_nil r3
 obtain rfl:args= #[v0,v1,v2,v3]:=by cases args;simp_all
 obtain⟨rfl,rfl⟩:=trodVars_none hV
 have lt0:∀x∈p0,x.block<W.heap.size:=by obtain⟨m,hm⟩:=h0;exact DataW.trod_lt m _ _ _ hm
 obtain⟨x0,s0,w0⟩:=dZ (by kernel_rfl) (hval 0 22 v0 rfl rfl) h0
 obtain⟨l0,rfl,ll0⟩:=iZ s0
 have lt1:∀x∈p1,x.block<W.heap.size:=by obtain⟨m,hm⟩:=h1;exact DataW.trod_lt m _ _ _ hm
 obtain⟨x1,s1,w1⟩:=dZ (by kernel_rfl) (hval 1 22 v1 rfl rfl) h1
 obtain⟨l1,rfl,ll1⟩:=iZ s1
 have lt2:∀x∈p2,x.block<W.heap.size:=by obtain⟨m,hm⟩:=h2;exact DataW.trod_lt m _ _ _ hm
 obtain⟨x2,s2,w2⟩:=dZ (by kernel_rfl) (hval 2 9 v2 rfl rfl) h2
 obtain⟨b2,rfl⟩:=aAF s2
 have lt3:∀x∈p3,x.block<W.heap.size:=by obtain⟨m,hm⟩:=h3;exact DataW.trod_lt m _ _ _ hm
 obtain⟨x3,s3,w3⟩:=dZ (by kernel_rfl) (hval 3 4 v3 rfl rfl) h3
 obtain⟨c3,rfl⟩:=ib s3
 refine(jI (msnaps19_c false false l0 l1 b2 c3 []) (kS (cL w0 (cL w1 (cL w2 (cL w3 mC)))))).mono fun e W' ⟨he,bel⟩=>?_
 subst he
 exact⟨_,rfl,_,_,_,[],_,[],hW',trodAll_mk1 (shut_bool Tryz.underlying4 _),(trodAll_cons_mk (Below.trod eC (by kernel_rfl) (of_decide_eq_true (by kernel_rfl)) h0 bel lt0) (trodAll_cons_mk (Below.trod eC (by kernel_rfl) (of_decide_eq_true (by kernel_rfl)) h1 bel lt1) (trodAll_cons_mk (Below.trod eC (by kernel_rfl) (of_decide_eq_true (by kernel_rfl)) h2 bel lt2) (trodAll_cons_mk (Below.trod eC (by kernel_rfl) (of_decide_eq_true (by kernel_rfl)) h3 bel lt3) trodAll_mk0)))),rfl,bel.frame _,fun h=>by cases h⟩
theorem rowModelSnaps:Rows.ModelSnapsSaid:=
 OpenClaim.holds_of_wide 4 Tryz.f4 rfl rfl rfl rfl rfl rfl rfl ⟨rfl,rfl,rfl,rfl,rfl⟩ rfl rfl rfl rfl rfl (by kernel_rfl) Tryz.func4 (by kernel_rfl)
  (of_decide_eq_true (by kernel_rfl)) (by unfold Func.isWrapper;first|(rw[if_pos (by decide+kernel)];kernel_rfl)|(rw[if_neg (by decide+kernel)];exact⟨rfl,rfl⟩))
  (fun os started H enc _=>liftedModelSnaps os started H enc)
theorem provedModelSnaps:Rows.ModelSnapsCardSaid:=
 Claim7.holds_tied_plain_at .later [] [.data,.pinned] true (true,"aa85309be068a12bcf86355bf905a7ff64a0c164a5d1394cc54c7d4c672dc33f") true rowModelSnaps (fun _ h=>by cases h) (by kernel_rfl) (fun _ h=>by cases h) modelSnaps_row_tie rfl ⟨rfl,rfl⟩ (by kernel_rfl) rfl
  (fun f fn hf hfn=>by
   obtain rfl:f=4:=Option.some.inj ((show Tryz.prog.funcNamed "gunwale/gunwalelaw19.ModelSnaps" =some 4 by kernel_rfl).symm.trans hf)|>.symm
   obtain rfl:fn=Tryz.f4:=(Option.some.inj (Tryz.func4.symm.trans hfn)).symm
   exact⟨by kernel_rfl,fun j t ht=>by
    rw[Tryz.params4]at ht
    have hm:t∈[22,22,9,4]:=by simpa using Array.mem_of_getElem? ht
    have hall:([22,22,9,4].all fun u=> !Tryz.prog.wantsStandIn u)=true:=by kernel_rfl
    exact(show Tryz.prog.wantsStandIn t=false by simpa using List.all_eq_true.1 hall t hm)⟩)
  (by kernel_rfl)
end Go.Proofs.YthhdnjiodklmmaaGreatDoor
