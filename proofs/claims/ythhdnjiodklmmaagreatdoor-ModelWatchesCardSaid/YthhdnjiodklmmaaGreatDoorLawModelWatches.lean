/- The row of ModelWatches: the walk's contract, put into the row's own words. No condition. -/
import Derived.Test.YthhdnjiodklmmaaGreatDoorWorkAE
import Derived.Test.YthhdnjiodklmmaaGreatDoorWorkAF
import Derived.Test.YthhdnjiodklmmaaGreatDoorWorkAU
import Derived.Test.YthhdnjiodklmmaaGreatDoorWorkBB
import Derived.Test.YthhdnjiodklmmaaGreatDoorWorkBX
import Derived.Test.YthhdnjiodklmmaaGreatDoorRows
import Derived.Test.YthhdnjiodklmmaaGreatDoorCards
import Derived.Test.YthhdnjiodklmmaaGreatDoorTie
import Derived.LaidMore
import Derived.Lay
import Derived.SevenTiedAt
set_option linter.unusedSimpArgs false
set_option linter.unusedVariables false
set_option linter.unusedSectionVars false
namespace Go.Proofs.YthhdnjiodklmmaaGreatDoor
open Go Go.Aw Go.Gw
set_option linter.unusedSimpArgs false
set_option linter.unusedVariables false
set_option maxRecDepth 20000
set_option maxHeartbeats 4000000
def vO:List Pl:=[.pure 0,.pure 0,.pure 0,.pure 0,.pure 0,.pure 0,.pure 0,.free,.pure 0,.pure 0,.eff [false,false,false,false,false,false,false,false,false]]
attribute [go_sem] vO
theorem aCS(b1 b2:Bool)(k l:List Cal)(path:Txt)(H:AHeap):cJ Tryz.prog 5 [.sl b1 (k.map gZ),.sl b2 (l.map gZ),.str path] H (.bool true):=by
 refine aL Tryz.func5 rfl (Nat.le_of_ble_eq_true rfl) ?_
 have hf1:=kZ b1 k 30
 have hf2:=kZ b2 l 30
 have hnw:=mR 0
 obtain⟨m0,hm0⟩:∃m0,({md0 with rep:=0,next:=1}:Mdl)=m0:=⟨_,rfl⟩
 have hnew:oI 0=(m0,0):=by rw[←hm0];rfl
 have hmi0:=nQ hnew
 have hi0:HI 1 m0:=by rw[←hm0];exact⟨Int.le_refl _,Int.le_refl _,fun s hs=>(by cases hs),fun s hs=>(by cases hs)⟩
 rw[hnew]at hnw
 simp only[cC,iW]at hnw
 cases hfk:iX k 30 with
 |false=>
  rw[hfk]at hf1
  have ct0:=ct bU bT;have ct1:=ct hnw bH;have ct2:=ct hf1 bF;repeat' first|((first|refine gK ?_|refine gS ?_);simp only[go_sem])|refine gA ?_|(refine gD (fun h=>?_) (fun h=>?_)<;>try exact aA h)|fail
  exact done (by simp only[go_sem]) (.refl _)
 |true=>
 rw[hfk]at hf1
 cases hfl:iX l 30 with
 |false=>
  rw[hfl]at hf2
  have ct0:=ct bU bT;have ct1:=ct hnw bH;have ct2:=ct hf1 bF;have ct3:=ct hf2 bF;repeat' first|((first|refine gK ?_|refine gS ?_);simp only[go_sem])|refine gA ?_|(refine gD (fun h=>?_) (fun h=>?_)<;>try exact aA h)|fail
  all_goals exact done (by simp only[go_sem]) (.refl _)
 |true=>
 rw[hfl]at hf2
 by_cases hp:path.length≤1000
 rotate_left
 ·have hpl:decide ((1000:Int)<(path.length:Int))=true:=decide_eq_true (by omega)
  have ct0:=ct bU bT;have ct1:=ct hnw bH;have ct2:=ct hf1 bF;have ct3:=ct hf2 bF;repeat' first|((first|refine gK ?_|refine gS ?_);simp only[go_sem,hpl])|refine gA ?_|(refine gD (fun h=>?_) (fun h=>?_)<;>try exact aA h)|fail
  all_goals exact done (by simp only[go_sem]) (.refl _)
 have hpl:decide ((1000:Int)<(path.length:Int))=false:=decide_eq_false (by omega)
 obtain⟨hck,hk30⟩:=nR hfk
 obtain⟨hcl,hl30⟩:=nR hfl
 have hall:=qY false false false false b1 m0 hmi0 k (by omega) hck
 have hmi1:=aCI k hmi0
 have hi1:=aFe k hmi0 hi0 (by omega)
 obtain⟨⟨m1,las⟩,hr1⟩:∃r,nP m0 k=r:=⟨_,rfl⟩
 rw[hr1]at hall hmi1 hi1
 simp only[cC,iW]at hall hmi1 hi1
 have hlo:=hi1.lo
 have hcc:∀q n,CS (aG q path n):=fun q n=>⟨by simp only[aG];omega,by simp[aG],by simp[aG]⟩
 have hc0:∀q n,CS (aG q [] n):=fun q n=>⟨by simp[aG],by simp[aG],by simp[aG]⟩
 have hd2:=jA false false false false m1 hmi1 (aG 10 path 0) (hcc _ _)
 have hmi2:=nH hmi1 (aG 10 path 0)
 by_cases he:(doM m1 (aG 10 path 0)).2.1.err=0
 rotate_left
 ·obtain⟨⟨m2,a2,o2⟩,hr2⟩:∃r,doM m1 (aG 10 path 0)=r:=⟨_,rfl⟩
  rw[hr2]at hd2 he
  simp only[doV,cC,iW,iD,gZ,aG]at hd2 he
  have de:decide (a2.err=0)=false:=decide_eq_false he
  have ct0:=ct bU bT;have ct1:=ct hnw bH;have ct2:=ct hf1 bF;have ct3:=ct hf2 bF;have ct4:=ct hall jM;have ct5:=ct hd2 aN;repeat' first|((first|refine gK ?_|refine gS ?_);simp only[go_sem,hpl,de])|refine gA ?_|(refine gD (fun h=>?_) (fun h=>?_)<;>try exact aA h)|fail
  exact done (by simp only[go_sem]) (.refl _)
 obtain⟨dir,hdir,e⟩:=aJ8 hmi1 path he
 rw[e]at hd2 hmi2
 have hks:=aFf hi1 dir (IntKind.i64.wrap (m1.next+1))
 simp only at hmi2
 have hwl:(m1.watches++[(⟨m1.next,dir,[],false⟩:Wch)]).map dL=m1.watches.map dL++[dL ⟨m1.next,dir,[],false⟩]:=by rw[List.map_append];rfl
 obtain⟨x0,hx0⟩:∃x0,({m1 with watches:=m1.watches++[⟨m1.next,dir,[],false⟩],next:=IntKind.i64.wrap (m1.next+1)}:Mdl)=x0:=⟨_,rfl⟩
 have hx0w:x0.watches.map dL=m1.watches.map dL++[dL ⟨m1.next,dir,[],false⟩]:=by rw[←hx0];exact hwl
 have hx0l:x0.watches.length=m1.watches.length+1:=by rw[←hx0];simp
 have hx0g:(x0.watches.map dL).getD m1.watches.length .top=dL ⟨m1.next,dir,[],false⟩:=by rw[hx0w,List.getD_eq_getElem?_getD,List.getElem?_append_right (by rw[List.length_map];exact Nat.le_refl _),List.length_map,Nat.sub_self];rfl
 rw[hx0]at hd2 hmi2 hks
 simp only[doV,cC,iW,iD,gZ,aG,an0]at hd2
 have hw8:=hmi2.watches
 have hwr:IntKind.i64.wrap ((x0.watches.length:Int)-1)=((m1.watches.length:Nat):Int):=by rw[hx0l];rw[wrap_i64 (by omega) (by omega)];omega
 have hwz:decide ((x0.watches.length:Int)=0)=false:=decide_eq_false (by omega)
 have hwi:decide (((m1.watches.length:Nat):Int)<(x0.watches.length:Int))=true:=decide_eq_true (by omega)
 have hwa:(((m1.watches.length:Nat):Int)<(x0.watches.length:Int))=True:=eq_true (by omega)
 simp only[dL]at hx0g
 have ct0:=ct bU bT;have ct1:=ct hnw bH;have ct2:=ct hf1 bF;have ct3:=ct hf2 bF;have ct4:=ct hall jM;have ct5:=ct hd2 aN;repeat' first|((first|refine gK ?_|refine gS ?_);simp only[go_sem,hpl,hwr,hwz,hwi,hwa,hx0g])|refine gA ?_|(refine gD (fun h=>?_) (fun h=>?_)<;>try exact aA h)|fail
 refine aP (ι:=Nat×Mdl×Bool×List Evt×Bool×AHeap) (fun s=>[(1,.sl b2 (l.map gZ)),(7,.bool true),(10,.ref (H.length+1) 0 0),(11,.ref (H.length+2) 0 0),(13,.int .i64 dir),(14,.ref (H.length+3) 0 0),(15,.int .i64 s.1)])
  (fun s=>H++(.cells 0 (cC false false false false m1).cells::.cells 0 (cC false false false false s.2.1).cells::.cells 0 (iD false false {an0 with n:=m1.next}).cells::.cells 0 [.sl s.2.2.1 (s.2.2.2.1.map gF),.bool s.2.2.2.2.1]::s.2.2.2.2.2))
  (fun s=>s.1≤l.length∧MI s.2.1∧KeepW m1.next dir (s.2.2.2.1,s.2.2.2.2.1) s.2.1) (fun s=>l.length-s.1) (0,x0,true,[],false,[]) ⟨Nat.zero_le _,hmi2,hks⟩ ?_ rfl ?_
 ·simp[go_sem]
 rintro⟨q,x,fb,e,ov,M⟩ ⟨hq,hmi,hkx⟩
 simp only at hq hmi hkx ⊢
 have hel:=(hkx.len hmi).1
 simp only at hel
 by_cases hlt:q<l.length
 ·obtain⟨G,hG⟩:∃G,H++(.cells 0 (cC false false false false m1).cells::.cells 0 (cC false false false false x).cells::.cells 0 (iD false false {an0 with n:=m1.next}).cells::.cells 0 [.sl fb (e.map gF),.bool ov]::M)=G:=⟨_,rfl⟩
  rw[hG]
  have g0:hget G (H.length+1)=.cells 0 (cC false false false false x).cells:=by rw[←hG];simp only[go_sem]
  have g3:hget G (H.length+2)=.cells 0 (iD false false {an0 with n:=m1.next}).cells:=by rw[←hG];simp only[go_sem]
  have g4:hget G (H.length+3)=.cells 0 [.sl fb (e.map gF),.bool ov]:=by rw[←hG];simp only[go_sem]
  have hgd:=bA gZ hlt
  have hcc':=hcl _ (List.getElem_mem hlt)
  obtain⟨c,hce⟩:∃c,c=l[q]:=⟨_,rfl⟩
  rw[←hce]at hgd hcc'
  simp only[gZ]at hgd
  have hli:decide ((q:Int)<(l.length:Int))=true:=decide_eq_true (by omega)
  have hk0:((0:Int)≤(q:Int))=True:=eq_true (by omega)
  have hki:((q:Int)<(l.length:Int))=True:=eq_true (by omega)
  have hw':IntKind.i64.wrap ((q:Int)+1)=((q+1:Nat):Int):=bD hlt (by omega)
  have hdo:=jA false false false false x hmi c hcc'
  have hmi3:=nH hmi c
  have hkx2:=aUr hmi hkx (c:=c)
  obtain⟨⟨y,a,o⟩,hr⟩:∃r,doM x c=r:=⟨_,rfl⟩
  rw[hr]at hdo hmi3 hkx2
  simp only at hmi3 hkx2
  have n1:=hmi.nodes
  have n2:=hmi3.nodes
  have l1:=n1.len
  have l2:=n2.len
  have i1:=mQ n1.frs.wf hdir
  have i2:=mQ n2.frs.wf hdir
  have hdf:=aKs false false x.log.nodes y.log.nodes dir n1.frs.wf n2.frs.wf hdir (by omega) (by omega) (aA2 n1) (aA2 n2)
  have hdl:=aB6 (dD x.log.nodes dir) (dD y.log.nodes dir)
  obtain⟨df,hdfe⟩:∃df,oF (dD x.log.nodes dir) (dD y.log.nodes dir)=df:=⟨_,rfl⟩
  rw[hdfe]at hdf hkx2 hdl
  have hpt:=aKr fb false ov e df (by omega) (by omega)
  simp only[doV,cC,iW,gZ,iD]at hdo
  have g1:=aT g0 trivial
  have g5:=aT g3 trivial
  have g6:=aT g4 trivial
  have g7:=fM g4 trivial
  obtain⟨G1,hG1⟩:∃G1,aD G (H.length+3) (.cells 0 [.sl false ((kC e ov df).1.map gF),.bool (kC e ov df).2])=G1:=⟨_,rfl⟩
  have e1:H++(.cells 0 (cC false false false false m1).cells::.cells 0 (cC false false false false x).cells::.cells 0 (iD false false {an0 with n:=m1.next}).cells::.cells 0 [.sl false ((kC e ov df).1.map gF),.bool (kC e ov df).2]::M)=G1:=by rw[←hG1,←hG];simp only[go_sem]
  have hgl:G.length=G1.length:=by rw[←hG1,aC]
  have q0:∀a L,hget (G1++a::L) G.length=a:=fun a L=>by rw[hgl];simp[hget]
  have p1:hget G1 (H.length+1)=.cells 0 (cC false false false false x).cells:=by rw[←e1];simp only[go_sem]
  have p2:=aT p1 trivial
  have p3:=fM p1 trivial
  have gs:∀Y,aD G1 (H.length+1) Y=H++(.cells 0 (cC false false false false m1).cells::Y::.cells 0 (iD false false {an0 with n:=m1.next}).cells::.cells 0 [.sl false ((kC e ov df).1.map gF),.bool (kC e ov df).2]::M):=fun Y=>by rw[←e1];simp only[go_sem]
  repeat' first|((first|refine aV (hdo _) aN ?_|refine aW (hdo _) aN ?_|refine aX (fun _=>hdo _) aN ?_|refine aV (hdf _) fI ?_|refine aW (hdf _) fI ?_|refine aX (fun _=>hdf _) fI ?_|refine aV (hpt _) fH ?_|refine aW (hpt _) fH ?_|refine aX (fun _=>hpt _) fH ?_|refine cE (id:=15) [.pure 3,.free,.free,.pure 3,.pure 3,.pure 3,.free,.free,.free,.free] [.eff [],.eff [],.free] 10 31 39 16 17 jU rfl (by kernel_rfl) (by kernel_rfl) (by kernel_rfl) (by kernel_rfl) ?_|refine mx [16] vO ?_|refine gS ?_);simp only[go_sem,cC,iW,iD,an0,q0,hG1,g0,g1,g3,g4,g5,g6,g7,p1,p2,p3,hgd,hli,hlt,hki,hk0])|((with_reducible refine And.intro ?_ ?_);focus (exact aK (hdo _) aN))|((with_reducible refine And.intro (And.intro ?_ ?_) ?_);focus (exact aK (hdo _) aN))|(exact aK (hdo _) aN)|((with_reducible refine And.intro ?_ ?_);focus (exact aK (hdf _) fI))|((with_reducible refine And.intro (And.intro ?_ ?_) ?_);focus (exact aK (hdf _) fI))|(exact aK (hdf _) fI)|((with_reducible refine And.intro ?_ ?_);focus (exact aK (hpt _) fH))|((with_reducible refine And.intro (And.intro ?_ ?_) ?_);focus (exact aK (hpt _) fH))|(exact aK (hpt _) fH)|refine gA ?_|(refine gD (fun h=>?_) (fun h=>?_)<;>try exact aA h)|fail
  ·exact⟨(q+1,x,fb,e,ov,M),⟨hlt,hmi,hkx⟩,by simp only;omega,congrArg _ hw',hG.symm⟩
  ·have hd:¬((c.kind=9∨c.kind=11)∧c.n=m1.next):=fun hd=>by rcases hd with⟨h9|h9,hn⟩<;>simp[h9,hn]at h
   exact⟨(q+1,y,false,(kC e ov df).1,(kC e ov df).2,M++[.cells 2 (cC false false false false y).cells,.cells 2 (iD false false a).cells]),⟨hlt,hmi3,hkx2 hd⟩,by simp only;omega,congrArg _ hw',by rw[gs];simp[cC,iW,iD,an0,AV.cells]⟩
 ·have hqe:q=l.length:=by omega
  have hli:decide ((q:Int)<(l.length:Int))=false:=decide_eq_false (by omega)
  have hd3:=jA false false false false x hmi (aG 11 [] m1.next) (hc0 _ _)
  have hmi3:=nH hmi (aG 11 [] m1.next)
  rw[aF9 hkx (by omega)]at hd3 hmi3
  have hk3:=aHE hkx
  simp only at hmi3 hk3
  obtain⟨z,hz⟩:∃z,({x with watches:=emptyW m1.next x.watches}:Mdl)=z:=⟨_,rfl⟩
  rw[hz]at hd3 hmi3 hk3
  have hd4:=jA false false false false z hmi3 (aG 11 [] m1.next) (hc0 _ _)
  rw[aF9 hk3 (by omega)]at hd4
  obtain⟨z2,hz2⟩:∃z2,({z with watches:=emptyW m1.next z.watches}:Mdl)=z2:=⟨_,rfl⟩
  rw[hz2]at hd4
  have hsame:=aCE false fb e e
  rw[decide_eq_true rfl]at hsame
  simp only[doV,cC,iW,iD,an0,gZ,aG]at hd3 hd4
  obtain⟨G,hG⟩:∃G,H++(.cells 0 (cC false false false false m1).cells::.cells 0 (cC false false false false x).cells::.cells 0 (iD false false {an0 with n:=m1.next}).cells::.cells 0 [.sl fb (e.map gF),.bool ov]::M)=G:=⟨_,rfl⟩
  rw[hG]
  have g0:hget G (H.length+1)=.cells 0 (cC false false false false x).cells:=by rw[←hG];simp only[go_sem]
  have g3:hget G (H.length+2)=.cells 0 (iD false false {an0 with n:=m1.next}).cells:=by rw[←hG];simp only[go_sem]
  have g4:hget G (H.length+3)=.cells 0 [.sl fb (e.map gF),.bool ov]:=by rw[←hG];simp only[go_sem]
  have g1:=aT g0 trivial
  have g5:=aT g3 trivial
  have g6:=aT g4 trivial
  have ct0:=ct hd3 aN;have ct1:=ct hd4 aN;have ct2:=ct hsame rF;repeat' first|((first|refine gK ?_|refine gS ?_);simp only[go_sem,hli,cC,iW,iD,an0,g0,g1,g3,g4,g5,g6])|refine gA ?_|(refine gD (fun h=>?_) (fun h=>?_)<;>try exact aA h)|fail
  exact sI (by rw[←hG,List.append_assoc]) (by simp only[go_sem]) (.refl _)
open Go Go.Aw Go.ChangeShapes Go.WideShapes Go.ChangeAt Go.RowKit
set_option maxRecDepth 100000 in
theorem tT(os:Os)(started:os.Started)(H:Type)(enc:TypeId×Value→H):
  ReturnsInHanded {} Tryz.checked os 5 .any (fun w args=>(Rows.modelWatchesSpec.pre enc Tryz.prog Tryz.f5 Rows.modelWatchesRow.domain false w args∧laidMetH Tryz.prog Rows.modelWatchesRow.laid w)∧sizedMet enc Tryz.prog Tryz.f5 (OpenSpec.ofChange Rows.modelWatchesSpec) false w args) (Rows.modelWatchesSpec.post enc Tryz.prog Tryz.f5 false true false false):=by
 refine returnsInHanded_of_change_and (C:=Tryz.checked) (X:=fun w _=>laidMetH Tryz.prog Rows.modelWatchesRow.laid w) (fun _ _ _ hh h=>h.of_heap hh) own started (by kernel_rfl) Tryz.func5
  (ChangeSpec.witness_shaped (enc:=enc) (C:=Tryz.checked) (os:=os) (X:=fun w _=>laidMetH Tryz.prog Rows.modelWatchesRow.laid w) false (World.laidAll Tryz.prog os Rows.modelWatchesRow.laid) #[.slice none 0 0,.slice none 0 0,.string ⟨#[]⟩] 8 (World.laidAll_os _ _ _)
   (World.shaped_of_ZipB (by kernel_rfl) (by kernel_rfl)) (by kernel_rfl) (by kernel_rfl) (by kernel_rfl)
   (by rw[MakeChecks.laidMetH_plain _ _ _ (by kernel_rfl)];exact laidMet_laidAll _ (by kernel_rfl) (by kernel_rfl))) ?_
 intro W base args ds gs before hval0 hW hcnd _ hL _
 have hval:∀(j:Nat) t v,Tryz.f5.params[j]?=some t→args[j]?=some v→Value.okWide Tryz.prog W .any base t v:=hval0
 have hW':=hW
 obtain⟨p,q,hA0,hV,rfl,hfz,hnd⟩:=hW
 have hA:DataW.TrodAll enc Tryz.prog W 0 (fun _=>true) true Tryz.f5.params.toList args.toList ds p:=hA0
 rw[Tryz.params5]at hA hval
 obtain⟨v0,vs0,d0,ds0,p0,q0,hargs,rfl,rfl,h0,r0⟩:=trodAll_cons hA
 obtain⟨v1,vs1,d1,ds1,p1,q1,rfl,rfl,rfl,h1,r1⟩:=trodAll_cons r0
 obtain⟨v2,vs2,d2,ds2,p2,q2,rfl,rfl,rfl,h2,r2⟩:=trodAll_cons r1
 obtain⟨rfl,rfl,rfl⟩:=trodAll_nil r2
 obtain rfl:args= #[v0,v1,v2]:=by cases args;simp_all
 obtain⟨rfl,rfl⟩:=trodVars_none hV
 have lt0:∀x∈p0,x.block<W.heap.size:=by obtain⟨m,hm⟩:=h0;exact DataW.trod_lt m _ _ _ hm
 obtain⟨x0,s0,w0⟩:=dZ (by kernel_rfl) (hval 0 22 v0 rfl rfl) h0
 obtain⟨l0,rfl,ll0⟩:=iZ s0
 have lt1:∀x∈p1,x.block<W.heap.size:=by obtain⟨m,hm⟩:=h1;exact DataW.trod_lt m _ _ _ hm
 obtain⟨x1,s1,w1⟩:=dZ (by kernel_rfl) (hval 1 22 v1 rfl rfl) h1
 obtain⟨l1,rfl,ll1⟩:=iZ s1
 have lt2:∀x∈p2,x.block<W.heap.size:=by obtain⟨m,hm⟩:=h2;exact DataW.trod_lt m _ _ _ hm
 obtain⟨x2,s2,w2⟩:=dZ (by kernel_rfl) (hval 2 9 v2 rfl rfl) h2
 obtain⟨b2,rfl⟩:=aAF s2
 refine(jI (aCS false false l0 l1 b2 []) (kS (cL w0 (cL w1 (cL w2 mC))))).mono fun e W' ⟨he,bel⟩=>?_
 subst he
 exact⟨_,rfl,_,_,_,[],_,[],hW',trodAll_mk1 (shut_bool Tryz.underlying4 _),(trodAll_cons_mk (Below.trod eC (by kernel_rfl) (of_decide_eq_true (by kernel_rfl)) h0 bel lt0) (trodAll_cons_mk (Below.trod eC (by kernel_rfl) (of_decide_eq_true (by kernel_rfl)) h1 bel lt1) (trodAll_cons_mk (Below.trod eC (by kernel_rfl) (of_decide_eq_true (by kernel_rfl)) h2 bel lt2) trodAll_mk0))),rfl,bel.frame _,fun h=>by cases h⟩
theorem yJ:Rows.ModelWatchesSaid:=
 OpenClaim.holds_of_wide 5 Tryz.f5 rfl rfl rfl rfl rfl rfl rfl ⟨rfl,rfl,rfl,rfl,rfl⟩ rfl rfl rfl rfl rfl (by kernel_rfl) Tryz.func5 (by kernel_rfl)
  (of_decide_eq_true (by kernel_rfl)) (by unfold Func.isWrapper;first|(rw[if_pos (by decide+kernel)];kernel_rfl)|(rw[if_neg (by decide+kernel)];exact⟨rfl,rfl⟩))
  (fun os started H enc _=>tT os started H enc)
theorem provedModelWatches:Rows.ModelWatchesCardSaid:=
 Claim7.holds_tied_plain_at .later [] [.data,.pinned] true (true,"aa85309be068a12bcf86355bf905a7ff64a0c164a5d1394cc54c7d4c672dc33f") true yJ (fun _ h=>by cases h) (by kernel_rfl) (fun _ h=>by cases h) modelWatches_row_tie rfl ⟨rfl,rfl⟩ (by kernel_rfl) rfl
  (fun f fn hf hfn=>by
   obtain rfl:f=5:=Option.some.inj ((show Tryz.prog.funcNamed "gunwale/gunwalelaw19.ModelWatches" =some 5 by kernel_rfl).symm.trans hf)|>.symm
   obtain rfl:fn=Tryz.f5:=(Option.some.inj (Tryz.func5.symm.trans hfn)).symm
   exact⟨by kernel_rfl,fun j t ht=>by
    rw[Tryz.params5]at ht
    have hm:t∈[22,22,9]:=by simpa using Array.mem_of_getElem? ht
    have hall:([22,22,9].all fun u=> !Tryz.prog.wantsStandIn u)=true:=by kernel_rfl
    exact(show Tryz.prog.wantsStandIn t=false by simpa using List.all_eq_true.1 hall t hm)⟩)
  (by kernel_rfl)
end Go.Proofs.YthhdnjiodklmmaaGreatDoor
