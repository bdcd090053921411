/- The texts 43 of 53 beneath the rows of this seat (joined by program): the abstract machine, and what the functions answer. No condition. -/
import Derived.Test.YtolbeecicikoaaaGreatDoorWorkAE
import Derived.Test.YtolbeecicikoaaaGreatDoorWorkBK
import Derived.Test.YtolbeecicikoaaaGreatDoorWorkBN
set_option linter.unusedSimpArgs false
set_option linter.unusedVariables false
set_option linter.unusedSectionVars false
set_option maxRecDepth 100000
set_option maxHeartbeats 16000000
namespace Go.Proofs.YtolbeecicikoaaaGreatDoor
theorem qJ{α:Type}{enc:α→AV}{s n i v k lc:Nat}{H:AHeap}{D:List α}(hn:n≤i)(hh:hget H i=.cells v (flA enc D))(hk:D.length=k)(hs:∀x,(enc x).cells.length=s)(hp:∀x,Pur (enc x)):Frz n H (.osl s i v 0 k lc) (.sl false (D.map enc)):=
 iC (es:=D.map enc) (rest:=[]) hn hh (zAg _).symm (by rw[zAj,hk]) (fun e he=>by(obtain⟨x, -,rfl⟩:=zAi.1 he;exact hs x)) (fun e he=>by(obtain⟨x, -,rfl⟩:=zAi.1 he;exact hp x))
theorem aAb{α:Type}{enc:α→AV}{s n i v k lc:Nat}{H:AHeap}{D:List α}{cs:List AV}(hn:n≤i)(hh:hget H i=.cells v cs)(hk:D.length=k)(hl:cs.length=D.length * s)(hs:∀x,(enc x).cells.length=s)
  (h:∀(m:Nat) (x y:AV),cs[m]?=some x→(flA enc D)[m]?=some y→Frz n H x y):Frz n H (.osl s i v 0 k lc) (.sl false (D.map enc)):=
 .osl s i v 0 k lc cs _ hn hh (by rw[zAj,hk]) (by rw[hl,hk];omega) (fun e he=>by(obtain⟨x, -,rfl⟩:=zAi.1 he;exact hs x)) fun q j e x y he hy hx=>
  h (q * s+j) x y (by rwa[zBo]at hx) (uP (fun e he=>by(obtain⟨x, -,rfl⟩:=zAi.1 he;exact hs x)) he hy)
theorem aBf{n:Nat}{H:AHeap}{A B C:List AV}(hA:∀x∈A,Pur x)(h:∀(m:Nat) (x y:AV),B[m]?=some x→C[m]?=some y→Frz n H x y):∀(m:Nat) (x y:AV),(A++B)[m]?=some x→(A++C)[m]?=some y→Frz n H x y:=fun m x y hx hy=>by
 by_cases hm:m<A.length
 ·rw[zAt hm]at hx hy
  rw[hx]at hy
  cases hy
  exact .cl _ ((hA x (zAL hx)).cl _)
 ·rw[zAJ (by omega)]at hx hy
  exact h _ x y hx hy
theorem wF{i j:Nat}{c:Cal}{d d':Dsk}{G L:AHeap}{cs:List AV}(h:KB i j c d G){e:Int}{v:AV}(hv:v=.int .i64 e)(ho:d'.ops=d.ops)(hl:cs.length=18)
  (hf:∀(m:Nat) (x y:AV),cs[m]?=some x→(dkC j c d')[m]?=some y→Frz G.length (aB G i (.cells 0 cs)++L) x y):
  ∃A L' H1 y,aB G i (.cells 0 cs)++L=A++L'∧A.length=G.length∧H1.length=G.length∧aET G.length (aB G i (.cells 0 cs)++L) A H1 G∧Frz G.length (aB G i (.cells 0 cs)++L) v y∧(y=.int .i64 e∧H1=oS G i j c d'):=by
 subst hv
 refine⟨_,L,_,_,rfl,aC _ _ _,vV _ _ _ _ _,fun k a b ha hk=>?_,.cl _ (.int _ _),rfl,rfl⟩
 rw[←h.one ho]at hk
 by_cases e:i=k
 ·subst e
  rw[aB,zA4 h.lt1]at ha hk
  cases ha;cases hk
  exact .inr ⟨0,cs,_,rfl,rfl,hl,hf⟩
 ·rw[aB,zAW e]at ha hk
  rw[ha]at hk
  cases hk
  exact .inl ⟨rfl,.inl ha⟩
theorem aC8{i j:Nat}{c:Cal}{d:Dsk}{G:AHeap}(h:KB i j c d G){e:Int}{v:AV}(hv:v=.int .i64 e)(L:AHeap):
  ∃A L' H1 y,G++L=A++L'∧A.length=G.length∧H1.length=G.length∧aET G.length (G++L) A H1 G∧Frz G.length (G++L) v y∧(y=.int .i64 e∧H1=oS G i j c d):=by
 subst hv
 exact⟨G,L,G,_,rfl,rfl,rfl,fun k a b ha hb=>by(rw[ha]at hb;cases hb;exact .inl ⟨rfl,.inl ha⟩),.cl _ (.int _ _),rfl,h.own.symm⟩
theorem wG{i j:Nat}{c:Cal}{d:Dsk}{G:AHeap}(h:KB i j c d G){e:Int}{v:AV}(hv:v=.int .i64 e):
  ∃A L' H1 y,G=A++L'∧A.length=G.length∧H1.length=G.length∧aET G.length G A H1 G∧Frz G.length G v y∧(y=.int .i64 e∧H1=oS G i j c d):=by
 have:=aC8 h hv []
 rwa[zAg]at this
def zD:List Pl:=[.free,.pure 0,.pure 0,.pure 0,.pure 0,.free,.pure 0,.pure 0,.pure 0,.pure 0,.pure 0,.pure 0,.free,.eff [true,true,true,true,true,true,true,true,true,true],.eff [false,false,false,false,false,false,false,false,false,false]]
def zE:List Pl:=[.free,.free,.pure 0,.pure 0,.pure 0,.pure 0,.eff [false,true,true,true],.pure 1,.free,.eff [true,true,true,true],.pure 0,.pure 0,.pure 0,.eff [false,true,true,false,false,false,false]]
def zF:List Pl:=[.free,.free,.pure 0,.pure 0,.pure 0,.pure 0,.eff [false,true,true,true],.free,.pure 1,.pure 1,.pure 1,.pure 1,.free,.free,.free,.eff [true,true,true,true,true,true,true],.pure 0,.pure 0,.pure 0,.eff [false,true,true,false,false,false,false,false,false,false]]
def lQ:List Pl:=[.pure 0,.pure 0,.pure 0,.pure 0,.pure 0,.pure 0,.eff [false,true,true,true,true,true],.free,.eff [true,true,true,true,true],.pure 0,.pure 0,.pure 0,.eff [false,true,true,false,false,false,false,false]]
attribute [go_sem] zD zE zF lQ
theorem aN8{i j:Nat}{c:Cal}{d:Dsk}{G:AHeap}(hb:KB i j c d G):vW Tryz.prog 56 i j c (0,d) G:=by
 refine aO Tryz.func56 ?_
 refine hG ?_
 exact cE hb rfl hb.own.symm
theorem aN9{i j:Nat}{c:Cal}{d:Dsk}{G:AHeap}(hb:KB i j c d G)(hs:DS d.m):vW Tryz.prog 52 i j c (rO d) G:=by
 refine aF Tryz.func52 ?_
 have hP:=pT [(4,zD),(5,zE)]
 have r0:=hb.b1;have r1:=aR hb.b1 trivial;have r2:=aR hb.b2 trivial;have hne:=hb.ne;have hl1:=hb.lt1;have hl2:=hb.lt2;have r3:=hb.r3;have r4:=hb.r4;have hnl:=aC G i;simp only[dkC]at r0 r1;have qs:=lP hl1 hl2 hne rfl
 unfold rO
 by_cases h8:(8:Int)≤(d.m.snaps.length:Int)
 ·have d8:decide ((8:Int)≤(d.m.snaps.length:Int))=true:=zAd h8
  rw[zAc h8]
  refine hH ?_
  exact wG hb rfl
 have d8:decide ((8:Int)≤(d.m.snaps.length:Int))=false:=eT h8
 rw[zAb h8]
 have hcn:=aFd false d.m.log.nodes (by have:=hs.nodes;omega)
 refine hH ?_
 refine lI (aBV false d.m.snaps (by have:=hs.snaps;omega) _) (cO) ?_
 have hfl:=bQ (enc:=dP) (s:=2) (fun _=>rfl) d.m.snaps
 have hq1:(∀e,e=AV.agg [.int .i64 d.m.next,.sl false (d.m.log.nodes.map ndA)]→e.cells.length=2)=True:=zAI (fun e he=>by rw[he];rfl)
 have hl8:((d.m.snaps.length+1) * 32≤140737488355328)=True:=zAI (by have:=hs.snaps;omega)
 simp only[go_sem,r0,r1,r2,r3,r4,hnl,qs,aC,hfl,hq1,hl8]
 refine hH ?_
 refine wF hb rfl rfl rfl ?_
 unfold dkC
 repeat' first|exact cI|refine aS ?_ ?_|exact .cl _ (.int _ _)|exact .cl _ (.str _)|exact .cl _ (xS _ _ _)|exact .cl _ (xR _ _ _)|exact .cl _ (xT _ _ _)|exact .cl _ (xU _ _ _)|exact .cl _ (xV _ _ _)|exact .cl _ (xW _ _ _)|exact .cl _ (.osl _ _ _ _ _ _ hl2)
 exact qJ (by omega) (by rw[fC];simp only[go_sem,r0,r1,r2,r3,r4,hnl,qs,aC];rfl) (by simp) (fun _=>rfl) (fun x=>by simp only[go_sem])
theorem aLr{i j:Nat}{c:Cal}{d:Dsk}{G:AHeap}(hb:KB i j c d G)(hs:DS d.m)(hc:CS c):vW Tryz.prog 54 i j c (nN c d) G:=by
 refine aF Tryz.func54 ?_
 have hP:=pT [(9,zF)]
 have r0:=hb.b1;have r1:=aR hb.b1 trivial;have r2:=aR hb.b2 trivial;have hne:=hb.ne;have hl1:=hb.lt1;have hl2:=hb.lt2;have r3:=hb.r3;have r4:=hb.r4;have hnl:=aC G i;simp only[dkC]at r0 r1;have qs:=lP hl1 hl2 hne rfl
 unfold nN
 have hat:=aH5 false d.m.log.nodes c.path (by have:=hs.nodes;omega) hc.path
 obtain⟨⟨id,e⟩,ha⟩:∃x,atN d.m.log.nodes c.path=x:=⟨_,rfl⟩
 rw[ha]at hat ⊢
 simp only[jS]at hat
 by_cases he:e=0
 ·subst he
  simp only[zAU]
  have hdd:=aAC id
  cases hdi:dirI id with
  |false=>
   rw[hdi]at hdd
   rw[zAb (by simp)]
   refine hH ?_
   exact wG hb rfl
  |true=>
   rw[hdi]at hdd
   rw[zAc rfl]
   by_cases h8:(8:Int)≤(d.m.watches.length:Int)
   ·have d8:decide ((8:Int)≤(d.m.watches.length:Int))=true:=zAd h8
    rw[zAc h8]
    refine hH ?_
    exact wG hb rfl
   have d8:decide ((8:Int)≤(d.m.watches.length:Int))=false:=eT h8
   rw[zAb h8]
   refine hH ?_
   refine lI (sN false d.m.watches (by have:=hs.watches;omega) _) (cO) ?_
   have hfl:=bQ (enc:=cD) (s:=4) (fun _=>rfl) d.m.watches
   have hq1:(∀e,e=AV.agg [.int .i64 d.m.next,.int .i64 id,.sl true [],.bool false]→e.cells.length=4)=True:=zAI (fun e he=>by rw[he];rfl)
   have hl8:((d.m.watches.length+1) * 48≤140737488355328)=True:=zAI (by have:=hs.watches;omega)
   simp only[go_sem,r0,r1,r2,r3,r4,hnl,qs,aC,hfl,hq1,hl8]
   refine hH ?_
   refine wF hb rfl rfl rfl ?_
   unfold dkC
   repeat' first|exact cI|refine aS ?_ ?_|exact .cl _ (.int _ _)|exact .cl _ (.str _)|exact .cl _ (xS _ _ _)|exact .cl _ (xR _ _ _)|exact .cl _ (xT _ _ _)|exact .cl _ (xU _ _ _)|exact .cl _ (xV _ _ _)|exact .cl _ (xW _ _ _)|exact .cl _ (.osl _ _ _ _ _ _ hl2)
   refine aAb (zAh _) (by simp only[go_sem,r0,r1,r2,r3,r4,hnl,qs,aC];rfl) (by simp) (by simp only[zAe,hfl,zAm,zAE];omega) (fun _=>rfl) ?_
   rw[fC]
   refine aBf (mK (fun x=>by simp only[go_sem]) _) ?_
   repeat' first|exact cI|refine aS ?_ ?_|exact .cl _ (.int _ _)|exact .cl _ (.bool _)|exact .slw _ _ ((Pur.sl true [] (fun _ h=>by cases h)).cl _)
 ·have hd:decide (e=0)=false:=eT he
  simp only[zAb he]
  refine hH ?_
  exact wG hb rfl
theorem aGV{i:Nat}{n:Int}{x0 x1 x2 x3 x4 x5 x6 x7 x8 x9 x10 x11 x12 x13 x14 x15 x17:AV}{G:AHeap}(k:Nat)(hk:hget G k=.cells 0 [.ref i 0 0])(hi:hget G i=.cells 0 [x0,x1,x2,x3,x4,x5,x6,x7,x8,x9,x10,x11,x12,x13,x14,x15,.int .i64 n,x17])(s:Snp):bD Tryz.prog 104 [dP s,.ref k 0 0] G (.bool (decide (s.n=n))):=by
 refine fO Tryz.func104 ?_
 have hk1:=aR hk trivial
 have hi1:=aR hi trivial
 refine hK dP.eq_1 ?_
 exact dY (.refl _)
theorem aGW{i:Nat}{n:Int}{x0 x1 x2 x3 x4 x5 x6 x7 x8 x9 x10 x11 x12 x13 x14 x15 x17:AV}{G:AHeap}(k:Nat)(hk:hget G k=.cells 0 [.ref i 0 0])(hi:hget G i=.cells 0 [x0,x1,x2,x3,x4,x5,x6,x7,x8,x9,x10,x11,x12,x13,x14,x15,.int .i64 n,x17])(s:Wch):bD Tryz.prog 105 [cD s,.ref k 0 0] G (.bool (decide (s.n=n))):=by
 refine fO Tryz.func105 ?_
 have hk1:=aR hk trivial
 have hi1:=aR hi trivial
 refine hK cD.eq_1 ?_
 exact dY (.refl _)
theorem aOa{i:Nat}{n:Int}{x0 x1 x2 x3 x4 x5 x6 x7 x8 x9 x10 x11 x12 x13 x14 x15 x17:AV}{G:AHeap}(k:Nat)(hk:hget G k=.cells 0 [.ref i 0 0])(hi:hget G i=.cells 0 [x0,x1,x2,x3,x4,x5,x6,x7,x8,x9,x10,x11,x12,x13,x14,x15,.int .i64 n,x17])(s:Wch):bD Tryz.prog 111 [cD s,.ref k 0 0] G (.bool (decide (s.n=n))):=by
 refine fO Tryz.func111 ?_
 have hk1:=aR hk trivial
 have hi1:=aR hi trivial
 refine hK cD.eq_1 ?_
 exact dY (.refl _)
theorem aOb{i j:Nat}{c:Cal}{d:Dsk}{G:AHeap}(hb:KB i j c d G)(hs:DS d.m):vW Tryz.prog 53 i j c (kI c d) G:=by
 refine aF Tryz.func53 ?_
 have hP:=pT [(5,lQ),(6,lQ)]
 have r0:=hb.b1;have r1:=aR hb.b1 trivial;have r2:=aR hb.b2 trivial;have hne:=hb.ne;have hl1:=hb.lt1;have hl2:=hb.lt2;have r3:=hb.r3;have r4:=hb.r4;have hnl:=aC G i;simp only[dkC]at r0 r1;have qs:=lP hl1 hl2 hne rfl
 have hA1:∀H,hget H G.length=.cells 0 [.ref i 0 0]→hget H i=.cells 0 (dkC j c d)→bD Tryz.prog 106 [.sl false (d.m.snaps.map dP),.func (.func 104) [] [.ref G.length 0 0]] H (.bool (d.m.snaps.any fun s=>decide (s.n=c.n))):=
  fun H h1 h2=>aNl false d.m.snaps (.func 104) [] [.ref G.length 0 0] (fun s=>decide (s.n=c.n)) H (fun s=>.mk (first:=[]) (fun L=>aGV G.length (aG h1 trivial L) (aG h2 trivial L) s) (cO))
 have hB1:∀H,hget H G.length=.cells 0 [.ref i 0 0]→hget H i=.cells 0 (dkC j c d)→bD Tryz.prog 107 [.sl false (d.m.watches.map cD),.func (.func 105) [] [.ref G.length 0 0]] H (.bool (d.m.watches.any fun s=>decide (s.n=c.n))):=
  fun H h1 h2=>aNm false d.m.watches (.func 105) [] [.ref G.length 0 0] (fun s=>decide (s.n=c.n)) H (fun s=>.mk (first:=[]) (fun L=>aGW G.length (aG h1 trivial L) (aG h2 trivial L) s) (cO))
 simp only[dkC]at hA1 hB1
 unfold kI
 have hgl:=hs.snaps
 have hgw:=hs.watches
 by_cases hno:(!(d.m.snaps.any fun s=>decide (s.n=c.n))&& !(d.m.watches.any fun w=>decide (w.n=c.n)))=true
 ·rw[zAc hno]
  simp only[zAl,zBc]at hno
  rw[hno.1]at hA1
  rw[hno.2]at hB1
  repeat' first|((first|refine aY (hA1 _ (by simp only[go_sem,r0,r1,r2,r3,r4,hnl,qs,aC]) (by simp only[go_sem,r0,r1,r2,r3,r4,hnl,qs,aC])) (cO) ?_|refine aZ (hA1 _ (by simp only[go_sem,r0,r1,r2,r3,r4,hnl,qs,aC]) (by simp only[go_sem,r0,r1,r2,r3,r4,hnl,qs,aC])) (cO) ?_|refine bA (fun _=>hA1 _ (by simp only[go_sem,r0,r1,r2,r3,r4,hnl,qs,aC]) (by simp only[go_sem,r0,r1,r2,r3,r4,hnl,qs,aC])) (cO) ?_|refine aY (hB1 _ (by simp only[go_sem,r0,r1,r2,r3,r4,hnl,qs,aC]) (by simp only[go_sem,r0,r1,r2,r3,r4,hnl,qs,aC])) (cO) ?_|refine aZ (hB1 _ (by simp only[go_sem,r0,r1,r2,r3,r4,hnl,qs,aC]) (by simp only[go_sem,r0,r1,r2,r3,r4,hnl,qs,aC])) (cO) ?_|refine bA (fun _=>hB1 _ (by simp only[go_sem,r0,r1,r2,r3,r4,hnl,qs,aC]) (by simp only[go_sem,r0,r1,r2,r3,r4,hnl,qs,aC])) (cO) ?_|refine mx [5,6] lQ ?_|refine gS ?_);simp only[go_sem,r0,r1,r2,r3,r4,hnl,qs,aC])|refine gA ?_|(refine gD (fun h=>?_) (fun h=>?_)<;>try exact aA h)|fail
  exact aC8 hb rfl _
 rw[zAb hno]
 obtain⟨A,hA⟩:∃A,d.m.snaps.any (fun s=>decide (s.n=c.n))=A:=⟨_,rfl⟩
 obtain⟨B,hB⟩:∃B,d.m.watches.any (fun s=>decide (s.n=c.n))=B:=⟨_,rfl⟩
 rw[hA,hB]at hno
 rw[hA]at hA1
 rw[hB]at hB1
 have fin:∀n:Nat,n=n:=fun _=>rfl
 have k1:¬i=G.length:=by omega
 cases A<;>cases B
 ·exact absurd rfl hno
 all_goals
  repeat' first|((first|refine aY (hA1 _ (by simp only[go_sem,r0,r1,r2,r3,r4,hnl,qs,aC]) (by simp only[go_sem,r0,r1,r2,r3,r4,hnl,qs,aC])) (cO) ?_|refine aZ (hA1 _ (by simp only[go_sem,r0,r1,r2,r3,r4,hnl,qs,aC]) (by simp only[go_sem,r0,r1,r2,r3,r4,hnl,qs,aC])) (cO) ?_|refine bA (fun _=>hA1 _ (by simp only[go_sem,r0,r1,r2,r3,r4,hnl,qs,aC]) (by simp only[go_sem,r0,r1,r2,r3,r4,hnl,qs,aC])) (cO) ?_|refine aY (hB1 _ (by simp only[go_sem,r0,r1,r2,r3,r4,hnl,qs,aC]) (by simp only[go_sem,r0,r1,r2,r3,r4,hnl,qs,aC])) (cO) ?_|refine aZ (hB1 _ (by simp only[go_sem,r0,r1,r2,r3,r4,hnl,qs,aC]) (by simp only[go_sem,r0,r1,r2,r3,r4,hnl,qs,aC])) (cO) ?_|refine bA (fun _=>hB1 _ (by simp only[go_sem,r0,r1,r2,r3,r4,hnl,qs,aC]) (by simp only[go_sem,r0,r1,r2,r3,r4,hnl,qs,aC])) (cO) ?_|refine mx [5,6] lQ ?_|refine gS ?_);simp only[go_sem,r0,r1,r2,r3,r4,hnl,qs,aC])|refine gA ?_|(refine gD (fun h=>?_) (fun h=>?_)<;>try exact aA h)|fail
  refine lI (aBV false d.m.snaps (by omega) _) (cO) ?_
  simp only[go_sem,r0,r1,r2,r3,r4,hnl,qs,aC]
  repeat' first|refine hH ?_|(refine gD (fun h=>?_) (fun h=>?_)<;>try exact aA h)|fail
  refine lI ((aNq d.m.snaps (fun s=>decide (s.n=c.n)) (G.length+1) 1 d.m.snaps.length d.m.snaps.length rfl (zAh _) (by omega) (fun G'=>hget G' G.length=.cells 0 [.ref i 0 0]∧hget G' i=.cells 0 (dkC j c d)) (fun G' b h=>⟨aT h.1 (by omega) b,aT h.2 (by omega) b⟩) (fun G' L h=>⟨aG h.1 trivial L,aG h.2 trivial L⟩) _
   (fn:=.func 104) (fs:=[]) (cs:=[.ref G.length 0 0]) (by first|(simp only[go_sem,r0,r1,r2,r3,r4,hnl,qs,aC];done)|(simp only[go_sem,r0,r1,r2,r3,r4,hnl,qs,aC];rfl)) (fun s G' hg=>Or.inl ⟨(cO),aGV G.length hg.1 hg.2 s⟩) ⟨(by first|(simp only[go_sem,r0,r1,r2,r3,r4,hnl,qs,aC];done)|(simp only[go_sem,r0,r1,r2,r3,r4,hnl,qs,aC];rfl)),(by first|(simp only[go_sem,r0,r1,r2,r3,r4,hnl,qs,aC];done)|(simp only[go_sem,r0,r1,r2,r3,r4,hnl,qs,aC];rfl))⟩).trunc (by simp)) (cO) ?_
  simp only[go_sem,r0,r1,r2,r3,r4,hnl,qs,aC]
  refine hH ?_
  refine lI (sN false d.m.watches (by omega) _) (cO) ?_
  simp only[go_sem,r0,r1,r2,r3,r4,hnl,qs,aC]
  repeat' first|refine hH ?_|(refine gD (fun h=>?_) (fun h=>?_)<;>try exact aA h)|fail
  refine lI ((aNr d.m.watches (fun s=>decide (s.n=c.n)) (G.length+2) 1 d.m.watches.length d.m.watches.length rfl (zAh _) (by omega) (fun G'=>hget G' G.length=.cells 0 [.ref i 0 0]∧hget G' i=.cells 0 [.sl false (d.m.log.entries.map dM),.sl false (d.m.log.nodes.map ndA),.int .i64 d.m.seen,.int .i64 d.m.rep,.osl 2 (G.length+1) 1 0 (d.m.snaps.filter (fun s=> !decide (s.n=c.n))).length d.m.snaps.length,.sl false (d.m.watches.map cD),.int .i64 d.m.next,
 .int .i64 d.a.err,.str d.a.data,.sl false (d.a.names.map AV.str),.int .i64 d.a.n,.sl false (d.a.events.map cY),
 .int .i64 c.kind,.str c.path,.str c.to,.str c.data,.int .i64 c.n,.osl 7 j (d.ops.length+1) 0 d.ops.length d.ops.length]) (fun G' b h=>⟨aT h.1 (by omega) b,aT h.2 (by omega) b⟩) (fun G' L h=>⟨aG h.1 trivial L,aG h.2 trivial L⟩) _
   (fn:=.func 105) (fs:=[]) (cs:=[.ref G.length 0 0]) (by first|(simp only[go_sem,r0,r1,r2,r3,r4,hnl,qs,aC];done)|(simp only[go_sem,r0,r1,r2,r3,r4,hnl,qs,aC];rfl)) (fun s G' hg=>Or.inl ⟨(cO),aGW G.length hg.1 hg.2 s⟩) ⟨(by first|(simp only[go_sem,r0,r1,r2,r3,r4,hnl,qs,aC];done)|(simp only[go_sem,r0,r1,r2,r3,r4,hnl,qs,aC];rfl)),(by first|(simp only[go_sem,r0,r1,r2,r3,r4,hnl,qs,aC];done)|(simp only[go_sem,r0,r1,r2,r3,r4,hnl,qs,aC];rfl))⟩).trunc (by simp[aC])) (cO) ?_
  simp only[go_sem,r0,r1,r2,r3,r4,hnl,qs,aC]
  refine hH ?_
  refine wF hb rfl rfl rfl ?_
  unfold dkC
  repeat' first|exact cI|refine aS ?_ ?_|exact .cl _ (.int _ _)|exact .cl _ (.str _)|exact .cl _ (xS _ _ _)|exact .cl _ (xR _ _ _)|exact .cl _ (xT _ _ _)|exact .cl _ (xU _ _ _)|exact .cl _ (xV _ _ _)|exact .cl _ (xW _ _ _)|exact .cl _ (.osl _ _ _ _ _ _ hl2)
  ·exact qJ (by omega) (by first|(simp only[go_sem,r0,r1,r2,r3,r4,hnl,qs,aC];done)|(simp only[go_sem,r0,r1,r2,r3,r4,hnl,qs,aC];rfl)) rfl (fun _=>rfl) (fun x=>by simp only[go_sem])
  ·exact qJ (by omega) (by first|(simp only[go_sem,r0,r1,r2,r3,r4,hnl,qs,aC];done)|(simp only[go_sem,r0,r1,r2,r3,r4,hnl,qs,aC];rfl)) rfl (fun _=>rfl) (fun x=>by simp only[go_sem])
end Go.Proofs.YtolbeecicikoaaaGreatDoor
