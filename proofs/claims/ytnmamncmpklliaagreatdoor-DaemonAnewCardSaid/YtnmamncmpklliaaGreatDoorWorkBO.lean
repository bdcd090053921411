/- What the functions of this seat answer (41 of 53). No condition. -/
import Derived.Test.YtnmamncmpklliaaGreatDoorWorkBK
import Derived.Test.YtnmamncmpklliaaGreatDoorWorkBN
set_option linter.unusedSimpArgs false
set_option linter.unusedVariables false
set_option maxRecDepth 100000
set_option maxHeartbeats 16000000
namespace Go.Proofs.YtnmamncmpklliaaGreatDoor
variable{m:c0}{n i:Nat}{H:ab}{c:b8}
open Go.Proofs.Tryz
theorem aK6(d:TypeDesc):iH d []=True:=b5 λ_ h=>by cases h
theorem aI6(d:TypeDesc)(p:I×I×Nat)(es:List (I×I×Nat)):iH d (p::es)=(jR d p.1=true/\iH d es):=propext List.forall_mem_cons
theorem aK7(k l:IntKind)(a b:Int):iM (.int k a) (.int l b)=decide (a=b):=rfl
def BU:List (I×I×Nat):=[(.int .i64 1,.func (.func 265) [] [],0),(.int .i64 2,.func (.func 265) [] [],1),(.int .i64 3,.func (.func 266) [] [],2),(.int .i64 4,.func (.func 267) [] [],3),(.int .i64 5,.func (.func 268) [] [],4),(.int .i64 6,.func (.func 269) [] [],5),(.int .i64 7,.func (.func 270) [] [],6),(.int .i64 8,.func (.func 271) [] [],7),(.int .i64 9,.func (.func 272) [] [],8),(.int .i64 10,.func (.func 273) [] [],9),(.int .i64 11,.func (.func 274) [] [],10),(.int .i64 12,.func (.func 275) [] [],11),(.int .i64 13,.func (.func 276) [] [],12)]
def K4(k:Int):FuncId:=if k=1\/k=2 then 265 else if k=3 then 266 else if k=4 then 267 else if k=5 then 268 else if k=6 then 269
 else if k=7 then 270 else if k=8 then 271 else if k=9 then 272 else if k=10 then 273 else if k=11 then 274 else if k=12 then 275 else 276
theorem aI7(n:Nat):ep n (.map BU 13):=λp ad=>by
 simp only[BU,cU,lj,lk]at ad;rcases ad with rfl|rfl|rfl|rfl|rfl|rfl|rfl|rfl|rfl|rfl|rfl|rfl|rfl;all_goals exact⟨.int _ _,.func _ _ _ (λ_ _ h=>by simp at h) λ_ _ h=>by simp at h⟩
theorem YF(h:fk m):oD m where
 nodes:=by have:=h.nodes.len;omega
 cZ:=by have:=h.cap;omega
 ops:=λe he=>Dw<|h.n4.ok e.op (bJ.2 ⟨e,he,rfl⟩)
 cN:=by have:=h.cN;omega
 cd:=by have:=h.cd;omega
 snap:=λs hs=>by have:=(h.snap s hs).len;omega
 bV:=λw hw=>by have:=(h.watch w hw).2.1;omega
theorem K5{q:Int}{l:List aE}(h:rN q l):tO l:=λn af=>by have:=(h.de n af).name;omega
theorem aLW(h:fk m){d:cn}(hd:fk d.m):TZ m.log.nodes d where
 TB:=h.nodes.l0.wf
 TC:=hd.nodes.l0.wf
 aCi:=K5 h.nodes
 aCj:=K5 hd.nodes
 len:=by have:=h.nodes.len;omega
 dir:=λw hw=>(hd.watch w hw).1
def Ey(r:c0×nn×List aX):I:=.aQ [ih false false false false r.1,vk false false r.2.1,.sl false<|r.2.2.map bh]
theorem aK8(f1 f2 f3 f4:Bool)(m:c0):fv (ih f1 f2 f3 f4 m) (ih false false false false m):=
 .agg _ _ rfl (c6 (.sl _ _)<|c6 (.sl _ _) (c6 (.refl _) (c6 (.refl _) (c6 (.sl _ _) (c6 (.sl _ _) (c6 (.refl _) kZ))))))
theorem aK9(f1 f2:Bool)(a:nn):fv (vk f1 f2 a) (vk false false a):=
 .agg _ _ rfl (c6 (.refl _)<|c6 (.refl _) (c6 (.sl _ _) (c6 (.refl _) (c6 (.sl _ _) kZ))))
theorem X4(f1 f2 f3 f4 g1 g2 h1:Bool)(m:c0)(a:nn)(o:List aX):fv (.aQ [ih f1 f2 f3 f4 m,vk g1 g2 a,.sl h1<|o.map bh]) (Ey (m,a,o)):=
 .aQ _ _ rfl (c6 (aK8 _ _ _ _ _)<|c6 (aK9 _ _ _) (c6 (.sl _ _) kZ))
theorem aLX(n:Nat)(f g:Bool)(a:nn):cM n (vk f g a):=(b6.agg _ λx J=>by
 simp only[cU,lj,lk]at J;rcases J with rfl|rfl|rfl|rfl|rfl
 ·exact .int _ _
 ·exact .str _
 ·exact .sl _ _ λx J=>by(obtain⟨y, -,rfl⟩:=bJ.1 J;exact .str _)
 ·exact .int _ _
 ·exact .sl _ _ λx J=>by(obtain⟨y, -,rfl⟩:=bJ.1 J;simp only[c9,go_sem])).cl n
theorem X5{v k lc:Nat}(m:c0)(a:nn)(o:List aX)(af:n<=i)(J:ay H i=.cells v (aS bh o))(hk:o.length=k):cL n H (.aQ [ih false false false false m,vk false false a,.osl 7 i v 0 k lc]) (Ey (m,a,o)):=
 .aQ _ _ rfl (dj (.cl _ ((b6.cl nb) n))<|dj (.cl _ (aLX n false false a)) (dj (C3 af J hk (λ_=>rfl) (λx=>nb)) fw))
def Jj:List cu:=[.eff [],.pure 1,.pure 1,.pure 0,.free,.free,.free,.free,.free]
def Jk:List cu:=[.free,.pure 0,.pure 0,.pure 0,.free,.pure 0,.pure 0,.pure 0,.free,.pure 0,.pure 0,.pure 0,.eff [true,true,true,true,true,true,false,false,false],.eff [true,true,true,false,false,false],.free]
attribute [go_sem] Jj Jk
theorem X6(r:Int)(H:ab):aM prog 15 [.int .i64 r] H (.aQ [ih false false false false (j2 r).1,.int .i64 (j2 r).2]):=by
 refine aZ func15 ?_;unfold j2;by_cases h1:r<0
 ·have d1:decide (r<0)=true:=cD h1;rw[aj iV]
  refine hH ?_;exact aV<|.aQ _ _ rfl (c6 (.agg _ _ rfl (c6 (.sl _ _) (c6 (.sl _ _) (c6 (.refl _) (c6 (.refl _) (c6 (.sl _ _) (c6 (.sl _ _) (c6 (.refl _) kZ)))))))) (c6 (.refl _) kZ))
 have d1:decide (r<0)=false:=bN h1;by_cases h2:63<r
 ·have d2:decide (63<r)=true:=cD h2;rw[aj iV]
  refine hH ?_;exact aV<|.aQ _ _ rfl (c6 (.agg _ _ rfl (c6 (.sl _ _) (c6 (.sl _ _) (c6 (.refl _) (c6 (.refl _) (c6 (.sl _ _) (c6 (.sl _ _) (c6 (.refl _) kZ)))))))) (c6 (.refl _) kZ))
 have d2:decide (63<r)=false:=bN h2;rw[aA iV]
 refine hH ?_;exact aV<|.aQ _ _ rfl (c6 (.agg _ _ rfl (c6 (.sl _ _) (c6 (.sl _ _) (c6 (.refl _) (c6 (.refl _) (c6 (.sl _ _) (c6 (.sl _ _) (c6 (.refl _) kZ)))))))) (c6 (.refl _) kZ))
theorem aLa(H:ab):dp prog 232 [] H (λv H'=>v=.map H.length/\H'=H++[.map BU 13]):=by
 refine tU func232 ?_;repeat' first|(refine ae ?_;simp only[go_sem,hL,q4,eD,aK7,aK6,aI6,jR,sI,Dm,Ge,Int.reduceEq,ju])|refine ao ?_|fail
 exact⟨_,[],_,(cA _).symm,kk,FA λb J=>by(rw[dF]at J;subst J;exact aI7 _),.cl _<|.map _ kk,rfl,rfl⟩
theorem aMF(hk:rT c=true):(∃n,eD (.int .i64 c.kind) BU=some (n,.func (.func<|K4 c.kind) [] []))/\kF prog (K4 c.kind)=true:=by
 rcases PA hk with e|e|e|e|e|e|e|e|e|e|e|e|e<;>rw[e]
 ·exact⟨⟨_,rfl⟩,aK⟩
 ·exact⟨⟨_,rfl⟩,aK⟩
 ·exact⟨⟨_,rfl⟩,aK⟩
 ·exact⟨⟨_,rfl⟩,aK⟩
 ·exact⟨⟨_,rfl⟩,aK⟩
 ·exact⟨⟨_,rfl⟩,aK⟩
 ·exact⟨⟨_,rfl⟩,aK⟩
 ·exact⟨⟨_,rfl⟩,aK⟩
 ·exact⟨⟨_,rfl⟩,aK⟩
 ·exact⟨⟨_,rfl⟩,aK⟩
 ·exact⟨⟨_,rfl⟩,aK⟩
 ·exact⟨⟨_,rfl⟩,aK⟩
 ·exact⟨⟨_,rfl⟩,aK⟩
theorem aI8(h:fk m)(U:np c)(hk:rT c=true){j:Nat}{G:ab}(J:gE i j c ⟨m,du,[]⟩ G):sw prog (K4 c.kind) i j c (js c ⟨m,du,[]⟩) G:=by
 have hs:oD (cn.m ⟨m,du,[]⟩):=YF h;have hl:(cn.ops ⟨m,du,[]⟩).length<=1000000:=bW _;have K:∀l,qv m c.n=some l->tO l:=λl hl=>by
  unfold qv at hl;split at hl
  ·cases hl;exact K5 h.nodes
  ·obtain⟨s,O,rfl⟩:=hC.1 hl;exact K5<|h.snap s (sC O)
 rcases PA hk with e|e|e|e|e|e|e|e|e|e|e|e|e;all_goals(unfold js;rw[e])
 ·exact Xm J hs U hl
 ·exact Xm J hs U hl
 ·exact aGY J hs U hl
 ·exact aIU J hs U K
 ·exact aIV J hs U hl
 ·exact aFP J hs U hl
 ·exact aLU J hs U K
 ·exact aIZ J hs
 ·exact aI1 J hs
 ·exact aGz J hs U
 ·exact aI2 J hs
 ·exact aIY J
 ·exact aGC J hs U (bW _) ⟨h.cap,by have:=h.nodes.len;simp only;omega⟩
theorem aLv(f1 f2 f3 f4:Bool)(m:c0)(h:fk m)(c:b8)(Z:np c)(H:ab):aM prog 206 [ih f1 f2 f3 f4 m,c4 c] H (Ey<|er m c):=by
 refine aZ func206 ?_;have jC:=o9 [(4,Jj),(12,Jk)];have z:=aF9 c Z.path Z.to;simp only[c4]at z;unfold er;cases hk:rT c with
 |false=>
  rw[hk]at z;rw[aA rfl];refine bP (gP ih.eq_1<|gP oo.eq_1 c4.eq_1) ?_;exact aV<|X4 f1 f2 f3 f4 true true true m (ED 180) []
 |true=>
  rw[hk]at z;rw[aj kk]
  repeat' first|(refine ae ?_;simp only[go_sem,ih,oo,c4])|refine bt ?_|fail
  refine uv rfl (λh=>by cases h) λ_=>?_
  refine Pj ?_;simp only[go_sem];have hm:=h;obtain⟨DK,ug⟩:∃X:List I,X=[.sl f1 (m.log.entries.map dv),.sl f2<|m.log.nodes.map ba,.int .i64 m.seen,.int .i64 m.rep,.sl f3<|m.cN.map gL,.sl f4<|m.cd.map dn,.int .i64 m.next]:=⟨_,rfl⟩;obtain⟨T0,QV⟩:∃X:List I,X=[.sl true [],.sl true [],.int .i64 0,.int .i64 0,.sl true [],.sl true [],.int .i64 0]:=⟨_,rfl⟩;obtain⟨T1,QW⟩:∃X:List I,X=[.int .i64 0,.str [],.sl true [],.int .i64 0,.sl true []]:=⟨_,rfl⟩;obtain⟨NX,T⟩:∃D:List I,D=[.sl f1 (m.log.entries.map dv),.sl f2<|m.log.nodes.map ba,.int .i64 m.seen,.int .i64 m.rep,.sl f3<|m.cN.map gL,.sl f4<|m.cd.map dn,.int .i64 m.next,.int .i64 0,.str [],.sl true [],.int .i64 0,.sl true [],.int .i64 c.kind,.str c.path,.str c.to,.str c.data,.int .i64 c.n,.sl true []]:=⟨_,rfl⟩
  refine zH (ι:=Unit) (λ_=>[(2,.ref H.length 0 0),(3,.ref (H.length+1) 0 0),(4,.ref (H.length+2) 0 0),(5,.ref (H.length+3) 0 0),(6,.sl true []),(7,.ref (H.length+4) 0 0)])
   (λ_=>H++[.cells 0 DK,.cells 0 [.int .i64 c.kind,.str c.path,.str c.to,.str c.data,.int .i64 c.n],.cells 0 T0,.cells 0 T1,.cells 0 NX]) (λ_=>True) ?_ λ_ _=>?_
  ·rw[ug,QV,QW,T];repeat' first|(refine ae ?_;simp only[go_sem])|refine ao ?_|fail
   exact⟨(),trivial⟩
  refine AX (H.length+4) 17 7 (cs:=NX) (v:=0) nb (by rw[T];rfl) ?_
  refine Kj (H.length+4) (fG (H.length+5) c ⟨m,du,[]⟩) (v:=0) (cs:=NX.set 17<|.osl 7 (H.length+5) 1 0 0 0) nb (by rw[T];rfl) ?_ ?_
  ·rw[T];unfold fG;repeat' first|exact kZ|refine c6 ?_ ?_|exact .refl _|exact .sl _ _
  simp only[go_sem];obtain⟨⟨aQl,uk⟩,J⟩:=aMF hk;have U:iH (.int .i64) BU=True:=b5 (by intro p ad;simp only[BU,cU,lj,lk]at ad;rcases ad with rfl|rfl|rfl|rfl|rfl|rfl|rfl|rfl|rfl|rfl|rfl|rfl|rfl<;>rfl)
  obtain⟨V,K⟩:∃V,K4 c.kind=V:=⟨_,rfl⟩;rw[K]at uk J;obtain⟨aCM,QJ⟩:∃C:List I,C=[.int .i64 c.kind,.str c.path,.str c.to,.str c.data,.int .i64 c.n]:=⟨_,rfl⟩;have hw:∀{i j:Nat} {G:ab},gE i j c ⟨m,du,[]⟩ G->sw prog V i j c (js c ⟨m,du,[]⟩) G:=λaa=>K▸aI8 hm Z hk aa
  obtain⟨⟨e,d1⟩,az⟩:∃r,js c ⟨m,du,[]⟩=r:=⟨_,rfl⟩;rw[az]at hw ⊢;refine zH (ι:=Unit) (λ_=>[(2,.ref H.length 0 0),(3,.ref (H.length+1) 0 0),(4,.ref (H.length+2) 0 0),(5,.ref (H.length+3) 0 0),(6,.sl true []),(7,.ref (H.length+4) 0 0),(8,.func (.func V) [] []),(9,.bool true)])
   (λ_=>H++[.cells 0 DK,.cells 0 aCM,.cells 0 T0,.cells 0 T1,.cells 0<|fG (H.length+5) c ⟨m,du,[]⟩,.cells 1 [],.map BU 13]) (λ_=>True) ?_ λ_ _=>?_
  ·repeat' first|((first|refine mx [4] Jj ?_|refine mx [12] Jk ?_|refine ae ?_);simp only[go_sem])|refine ao ?_|fail
   refine p6 (aLa _) aK ?_;simp only[go_sem,uk,U];repeat' first|(refine ae ?_;simp only[go_sem,uk,U])|refine ao ?_|fail
   first|exact⟨(),trivial,⟨rfl,rfl,rfl,rfl,rfl,rfl,rfl,rfl⟩,by rw[QJ]⟩|(refine⟨(),?_⟩;rw[QJ];done)|(refine⟨(),?_⟩;rw[QJ];rfl)|fail "Z"
  repeat' first|(refine ae ?_;simp only[go_sem])|refine ao ?_|fail
  refine dU (hw (i:=H.length+4) (j:=H.length+5) ⟨iV,nb,by simp only[go_sem];rfl⟩) J ?_
  rintro v H' ⟨rfl,rfl⟩;unfold gw;simp only[go_sem];by_cases he:e=0
  ·subst he;rw[aA rfl];have oW:fk d1.m:=by
    have:=PW hm hk<|by rw[az]
    rwa[az]at this
   have hlen:(if d1.ops=[]then(d1.m,d1.a,[])else((zF m.log.nodes d1).m,d1.a,d1.ops))=if d1.ops=[]then(d1.m,d1.a,([]:List aX))else((zF m.log.nodes d1).m,d1.a,d1.ops):=rfl
   by_cases O:d1.ops=[]
   ·have r4:d1.ops.length=0:=by rw[O];rfl
    rw[aA O];repeat' first|((first|refine mx [4] Jj ?_|refine mx [12] Jk ?_|refine ae ?_);simp only[go_sem,ug,QV,QW,fG,r4,Int.reduceLT])|refine ao ?_|fail
    exact⟨_,Ey (d1.m,d1.a,[]),rfl,X5 d1.m d1.a [] iV (by simp only[go_sem];rw[O]) rfl,rfl⟩
   ·have r4:decide ((0:Int)<(d1.ops.length:Int))=true:=cD (by have:=pe.2 O;omega)
    rw[aj O];refine bP fG.eq_1 ?_;refine dU (aI4 (i:=H.length+4) (j:=H.length+5) (c:=c) (d:=d1) ⟨iV,by simp only[go_sem,fG],nb⟩ (YF oW) f2 m.log.nodes<|aLW hm oW) aK ?_
    rintro v H' ⟨rfl,rfl⟩;unfold gw;simp only[go_sem,fG];repeat' first|((first|refine mx [4] Jj ?_|refine mx [12] Jk ?_|refine ae ?_);simp only[go_sem,ug,QV,QW,fG])|refine ao ?_|fail
    exact⟨_,Ey ((zF m.log.nodes d1).m,d1.a,d1.ops),rfl,X5 (zF m.log.nodes d1).m d1.a d1.ops iV (by simp only[go_sem];rfl) rfl,rfl⟩
  ·have hd:decide (e=0)=false:=bN he;rw[aj he];refine hH ?_;exact aV<|X4 f1 f2 f3 f4 true true true m (ED e) []
def Ua:List cu:=[.pure 0,.pure 0,.eff [false,true],.pure 1,.pure 1,.pure 1,.free,.free,.eff [true,true,true,true],.pure 0,.eff [false,false,false,false,false]]
attribute [go_sem] Ua
theorem X7(f1 f2 f3 f4 f5 f6 f7 f8 f9:Bool)(x:bK):fv (hx f1 f2 f3 f4 f5 f6 f7 f8 f9 x) (hx false false false false false false false false false x):=by
 unfold hx kC;refine .agg _ _ rfl ?_;repeat' first|exact kZ|refine c6 ?_ ?_|exact .refl _|exact .sl _ _
abbrev n1:bK->I:=hx false false false false false false false false false
theorem X8(f1 f2 f3 f4 f5 f6 f7 f8 f9:Bool)(x:bK)(e:Int):fv (.aQ [hx f1 f2 f3 f4 f5 f6 f7 f8 f9 x,.int .i64 e]) (.aQ [n1 x,.int .i64 e]):=.aQ _ _ rfl<|c6 (X7 ..) (c6 (.refl _) kZ)
theorem aI9(f1 f2 f3 f4 f5 f6 f7 f8 f9:Bool)(x:bK)(n e:Int):fv (.aQ [hx f1 f2 f3 f4 f5 f6 f7 f8 f9 x,.int .i64 n,.int .i64 e]) (.aQ [n1 x,.int .i64 n,.int .i64 e]):=.aQ _ _ rfl<|c6 (X7 ..) (c6 (.refl _) (c6 (.refl _) kZ))
theorem UA:Df prog 102 aU 18:=JM 18 216 func102
theorem X9(r:Int)(H:ab):aM prog 30 [.int .i64 r] H (.aQ [n1 (k7 r).1,.int .i64 (k7 r).2]):=by
 refine aZ func30 ?_;have hm:=X6 r;unfold k7;obtain⟨⟨m,e⟩,J⟩:∃z,j2 r=z:=⟨_,rfl⟩;rw[J]at hm ⊢;simp only[ih,oo]at hm;by_cases he:e=0
 ·subst he;rw[aA rfl];repeat' first|(refine ae ?_;simp only[go_sem])|refine ao ?_|fail
  exact aV<|X8 false false false false true true true true true {qZ with m:=m} 0
 ·have hd:decide (e=0)=false:=bN he;rw[aj he];refine hH ?_;exact aV<|X8 true true true true true true true true true qZ e
theorem Ya(f1 f2 f3 f4 f5 f6 f7 f9:Bool)(x:bK){t:I}(h:cL n H t (.sl false<|x.aC.map aU)):
  cL n H (kC (.sl f1<|x.m.log.entries.map dv) (.sl f2<|x.m.log.nodes.map ba) (.sl f3<|x.m.cN.map gL) (.sl f4<|x.m.cd.map dn) (.sl f5<|x.t.held.map bx) (.sl f6<|x.t.waits.map bx) (.sl f7<|x.g.waits.map dy) t (.sl f9<|x.ops.map bh) x) (n1 x):=by
 refine .agg _ _ rfl ?_;repeat' first|exact fw|refine dj ?_ ?_|exact .cl _ (.int _ _)|exact h|exact fv.yA (.sl _ _) nb
theorem aHG(f1 f2 f3 f4 f5 f6 f7 f8 f9:Bool)(x:bK)(c:b8)(af:x.aC.length<=1000)(H:ab):aM prog 56 [hx f1 f2 f3 f4 f5 f6 f7 f8 f9 x,c4 c] H (.aQ [n1 (pv x c).1,.int .i64 (pv x c).2.1,.int .i64 (pv x c).2.2]):=by
 refine aZ func56 ?_;have K:=o9 [(5,Ua)];unfold pv;by_cases J:(40:Int)<=(x.aC.length:Int)
 ·have d:decide ((40:Int)<=(x.aC.length:Int))=true:=cD J;rw[aA J];refine bP (gP hx.eq_1<|gP kC.eq_1 c4.eq_1) ?_;exact aV<|aI9 f1 f2 f3 f4 f5 f6 f7 f8 f9 x 0 193
 ·have d:decide ((40:Int)<=(x.aC.length:Int))=false:=bN J;rw[aj J];refine bP (gP hx.eq_1<|gP kC.eq_1 c4.eq_1) ?_;refine p6 (UA f8 x.aC iV _) aK ?_
  have U:=ej (enc:=aU) (s:=18) (λ_=>rfl) x.aC
  simp only[go_sem,U];repeat' first|(refine ae ?_;simp only[go_sem,U])|refine ao ?_|fail
  refine⟨⟨λe he=>by rw[he];rfl,iV⟩,?_⟩
  repeat' first|(refine ae ?_;simp only[go_sem,U])|refine ao ?_|fail
  refine⟨_,.aQ [n1 {x with time:=IntKind.i64.wrap<|x.time+1,aC:=x.aC++[{pb c with mm:=IntKind.i64.wrap (x.time+1)}]},.int .i64 x.aC.length,.int .i64 0],rfl,.aQ _ _ rfl<|dj (Ya f1 f2 f3 f4 f5 f6 f7 f9 {x with time:=IntKind.i64.wrap (x.time+1),aC:=x.aC++[{pb c with mm:=IntKind.i64.wrap (x.time+1)}]} ?_) (dj (.cl _ (.int _ _)) (dj (.cl _ (.int _ _)) fw)),rfl⟩
  refine Xp iV (by simp only[go_sem];rfl) kk (by simp only[bF,U,cg,eg];omega) (λ_=>rfl) ?_
  rw[iR];refine VX (y4 (λx=>nb) _) ?_
  repeat' first|exact fw|refine dj ?_ ?_|exact .cl _ (.int _ _)|exact .cl _ (.bool _)|exact .cl _ (.str _)|exact .Jn _ _<|(b6.sl true [] (λ_ h=>by cases h)).cl _
structure dJ where
 c:bK
 w:bO
 uR:Int
deriving DecidableEq,Inhabited
def en(f1 f2 f3 f4 f5 f6 f7 f8 f9 QA QB:Bool)(x:dJ):I:=
 .agg [.sl f1 (x.c.m.log.entries.map dv),.sl f2<|x.c.m.log.nodes.map ba,.int .i64 x.c.m.seen,.int .i64 x.c.m.rep,.sl f3<|x.c.m.cN.map gL,.sl f4<|x.c.m.cd.map dn,.int .i64 x.c.m.next,.sl f5<|x.c.t.held.map bx,.sl f6<|x.c.t.waits.map bx,.int .i64 x.c.g.kept,.sl f7<|x.c.g.waits.map dy,.sl f8<|x.c.aC.map aU,.int .i64 x.c.time,.sl f9<|x.c.ops.map bh,
  .int .i64 x.w.bw.size,.str x.w.bw.iU,.sl QA<|x.w.bw.loose.map eO,.int .i64 x.w.seq,.int .i64 x.w.base,.int .i64 x.w.next,.int .i64 x.w.end_,.int .i64 x.w.eo,.int .i64 x.w.kept,.sl QB<|x.w.waits.map I.str,.bool x.w.iy,.int .i64 x.w.marked,.int .i64 x.w.fg,.int .i64 x.w.kQ,.int .i64 x.uR]
abbrev cR:dJ->I:=en false false false false false false false false false false false
def p8:dJ:=⟨qZ,sQ,0⟩
def jK(r s:Int):dJ×Int:=if(k7 r).2=0 then(if(qL s).2=0 then(⟨(k7 r).1,(qL s).1,0⟩,0)else(p8,(qL s).2))else(p8,(k7 r).2)
theorem A3(f1 f2 f3 f4 f5 f6 f7 f8 f9 J U:Bool)(x:dJ)(e:Int):fv (.aQ [en f1 f2 f3 f4 f5 f6 f7 f8 f9 J U x,.int .i64 e]) (.aQ [cR x,.int .i64 e]):=by
 refine .aQ _ _ rfl<|c6 ?_ (c6 (.refl _) kZ);unfold en;refine .agg _ _ rfl ?_;repeat' first|exact kZ|refine c6 ?_ ?_|exact .refl _|exact .sl _ _
theorem Dh(r s:Int)(H:ab):aM prog 11 [.int .i64 r,.int .i64 s] H (.aQ [cR (jK r s).1,.int .i64 (jK r s).2]):=by
 refine aZ func11 ?_;have J:=X9 r;have hw:=aKX s;unfold jK;generalize k7 r=p at *;generalize qL s=q at *;obtain⟨c,e⟩:=p;obtain⟨w,k⟩:=q;simp only[n1,hx,kC,dN]at J hw ⊢;by_cases he:e=0
 ·subst he;by_cases hk:k=0
  ·subst hk;repeat' first|(refine ae ?_;simp only[go_sem])|refine ao ?_|fail
   exact aV<|A3 false false false false false false false false false false false ⟨c,w,0⟩ 0
  ·have hd:decide (k=0)=false:=bN hk;rw[aA rfl,aj hk];refine hH ?_;exact aV<|A3 true true true true true true true true true true true p8 k
 ·have hd:decide (e=0)=false:=bN he;rw[aj he];refine hH ?_;exact aV<|A3 true true true true true true true true true true true p8 e
end Go.Proofs.YtnmamncmpklliaaGreatDoor
