/- The texts 44 of 51 beneath the rows of this seat (joined by program): the abstract machine, and what the functions answer. No condition. -/
import Derived.Test.YthhdnjiodklmmaaGreatDoorWorkBM
import Derived.Test.YthhdnjiodklmmaaGreatDoorWorkBP
set_option linter.unusedSimpArgs false
set_option linter.unusedVariables false
set_option linter.unusedSectionVars false
/- What is done at the desk of calls that begin, drop and poll handles. No condition but what is known of a replica. -/
namespace Go.Gw
open Go Go.Aw Go.Proofs.YthhdnjiodklmmaaGreatDoor
theorem pJ{α:Type}{enc:α→AV}{s n i v k lc:Nat}{H:AHeap}{D:List α}(hn:n≤i)(hh:hget H i=.cells v (flA enc D))(hk:D.length=k)(hs:∀x,(enc x).cells.length=s)(hp:∀x,Pur (enc x)):Frz n H (.osl s i v 0 k lc) (.sl false (D.map enc)):=
 yM (es:=D.map enc) (rest:=[]) hn hh (List.append_nil _).symm (by rw[List.length_map,hk]) (fun e he=>by(obtain⟨x, -,rfl⟩:=List.mem_map.1 he;exact hs x)) (fun e he=>by(obtain⟨x, -,rfl⟩:=List.mem_map.1 he;exact hp x))
theorem aMZ{α:Type}{enc:α→AV}{s n i v k lc:Nat}{H:AHeap}{D:List α}{cs:List AV}(hn:n≤i)(hh:hget H i=.cells v cs)(hk:D.length=k)(hl:cs.length=D.length * s)(hs:∀x,(enc x).cells.length=s)
  (h:∀(m:Nat) (x y:AV),cs[m]?=some x→(flA enc D)[m]?=some y→Frz n H x y):Frz n H (.osl s i v 0 k lc) (.sl false (D.map enc)):=
 .osl s i v 0 k lc cs _ hn hh (by rw[List.length_map,hk]) (by rw[hl,hk];omega) (fun e he=>by(obtain⟨x, -,rfl⟩:=List.mem_map.1 he;exact hs x)) fun q j e x y he hy hx=>
  h (q * s+j) x y (by rwa[Nat.zero_add]at hx) (uB (fun e he=>by(obtain⟨x, -,rfl⟩:=List.mem_map.1 he;exact hs x)) he hy)
theorem aKt{n:Nat}{H:AHeap}{A B C:List AV}(hA:∀x∈A,Pur x)(h:∀(m:Nat) (x y:AV),B[m]?=some x→C[m]?=some y→Frz n H x y):∀(m:Nat) (x y:AV),(A++B)[m]?=some x→(A++C)[m]?=some y→Frz n H x y:=fun m x y hx hy=>by
 by_cases hm:m<A.length
 ·rw[List.getElem?_append_left hm]at hx hy
  rw[hx]at hy
  cases hy
  exact .cl _ ((hA x (List.mem_of_getElem? hx)).cl _)
 ·rw[List.getElem?_append_right (by omega)]at hx hy
  exact h _ x y hx hy
theorem vK{i j:Nat}{c:Cal}{d d':Dsk}{G L:AHeap}{cs:List AV}(h:KB i j c d G){e:Int}{v:AV}(hv:v=.int .i64 e)(ho:d'.ops=d.ops)(hl:cs.length=18)
  (hf:∀(m:Nat) (x y:AV),cs[m]?=some x→(dkC j c d')[m]?=some y→Frz G.length (aD G i (.cells 0 cs)++L) x y):
  ∃A L' H1 y,aD G i (.cells 0 cs)++L=A++L'∧A.length=G.length∧H1.length=G.length∧aGZ G.length (aD G i (.cells 0 cs)++L) A H1 G∧Frz G.length (aD G i (.cells 0 cs)++L) v y∧(y=.int .i64 e∧H1=nS G i j c d'):=by
 subst hv
 refine⟨_,L,_,_,rfl,aC _ _ _,vG _ _ _ _ _,fun k a b ha hk=>?_,.cl _ (.int _ _),rfl,rfl⟩
 rw[←h.one ho]at hk
 by_cases e:i=k
 ·subst e
  rw[aD,List.getElem?_set_self h.lt1]at ha hk
  cases ha;cases hk
  exact .inr ⟨0,cs,_,rfl,rfl,hl,hf⟩
 ·rw[aD,List.getElem?_set_ne e]at ha hk
  rw[ha]at hk
  cases hk
  exact .inl ⟨rfl,.inl ha⟩
theorem aCR{i j:Nat}{c:Cal}{d:Dsk}{G:AHeap}(h:KB i j c d G){e:Int}{v:AV}(hv:v=.int .i64 e)(L:AHeap):
  ∃A L' H1 y,G++L=A++L'∧A.length=G.length∧H1.length=G.length∧aGZ G.length (G++L) A H1 G∧Frz G.length (G++L) v y∧(y=.int .i64 e∧H1=nS G i j c d):=by
 subst hv
 exact⟨G,L,G,_,rfl,rfl,rfl,fun k a b ha hb=>by(rw[ha]at hb;cases hb;exact .inl ⟨rfl,.inl ha⟩),.cl _ (.int _ _),rfl,h.own.symm⟩
theorem vL{i j:Nat}{c:Cal}{d:Dsk}{G:AHeap}(h:KB i j c d G){e:Int}{v:AV}(hv:v=.int .i64 e):
  ∃A L' H1 y,G=A++L'∧A.length=G.length∧H1.length=G.length∧aGZ G.length G A H1 G∧Frz G.length G v y∧(y=.int .i64 e∧H1=nS G i j c d):=by
 have:=aCR h hv []
 rwa[List.append_nil]at this
end Go.Gw
namespace Go.Proofs.YthhdnjiodklmmaaGreatDoor
open Go Go.Aw Go.Gw
set_option linter.unusedSimpArgs false
set_option linter.unusedVariables false
set_option maxRecDepth 20000
set_option maxHeartbeats 4000000
def xZ:List Pl:=[.free,.pure 0,.pure 0,.pure 0,.pure 0,.free,.pure 0,.pure 0,.pure 0,.pure 0,.pure 0,.pure 0,.free,.eff [true,true,true,true,true,true,true,true,true,true],.eff [false,false,false,false,false,false,false,false,false,false]]
def yA:List Pl:=[.free,.free,.pure 0,.pure 0,.pure 0,.pure 0,.eff [false,true,true,true],.pure 1,.free,.eff [true,true,true,true],.pure 0,.pure 0,.pure 0,.eff [false,true,true,false,false,false,false]]
def yB:List Pl:=[.free,.free,.pure 0,.pure 0,.pure 0,.pure 0,.eff [false,true,true,true],.free,.pure 1,.pure 1,.pure 1,.pure 1,.free,.free,.free,.eff [true,true,true,true,true,true,true],.pure 0,.pure 0,.pure 0,.eff [false,true,true,false,false,false,false,false,false,false]]
def nI:List Pl:=[.pure 0,.pure 0,.pure 0,.pure 0,.pure 0,.pure 0,.eff [false,true,true,true,true,true],.free,.eff [true,true,true,true,true],.pure 0,.pure 0,.pure 0,.eff [false,true,true,false,false,false,false,false]]
attribute [go_sem] xZ yA yB nI
theorem aM0{i j:Nat}{c:Cal}{d:Dsk}{G:AHeap}(hb:KB i j c d G):vH Tryz.prog 77 i j c (0,d) G:=by
 refine bJ Tryz.func77 rfl (Nat.le_of_ble_eq_true rfl) ?_
 repeat' first|(refine gS ?_;simp only[go_sem])|refine gA ?_|(refine gD (fun h=>?_) (fun h=>?_)<;>try exact aA h)|fail
 exact cN hb rfl hb.own.symm
theorem aM1{i j:Nat}{c:Cal}{d:Dsk}{G:AHeap}(hb:KB i j c d G)(hs:DS d.m):vH Tryz.prog 73 i j c (xT d) G:=by
 refine mF Tryz.func73 rfl (Nat.le_of_ble_eq_true rfl) ?_
 have r0:=hb.b1;have r1:=aT hb.b1 trivial;have r2:=aT hb.b2 trivial;have hne:=hb.ne;have hl1:=hb.lt1;have hl2:=hb.lt2;have r3:=hb.r3;have r4:=hb.r4;have hnl:=aC G i;simp only[dkC]at r0 r1;have qs:=lE hl1 hl2 hne rfl
 unfold xT
 by_cases h8:(8:Int)≤(d.m.snaps.length:Int)
 ·have d8:decide ((8:Int)≤(d.m.snaps.length:Int))=true:=decide_eq_true h8
  rw[if_pos h8]
  repeat' first|(refine gS ?_;simp only[go_sem,r0,r1,r2,r3,r4,hnl,qs,aC,d8])|refine gA ?_|(refine gD (fun h=>?_) (fun h=>?_)<;>try exact aA h)|fail
  exact vL hb rfl
 have d8:decide ((8:Int)≤(d.m.snaps.length:Int))=false:=decide_eq_false h8
 rw[if_neg h8]
 have hcn:=aE2 false d.m.log.nodes (by have:=hs.nodes;omega)
 repeat' first|((first|refine aV (hcn _) jH ?_|refine aW (hcn _) jH ?_|refine aX (fun _=>hcn _) jH ?_|refine mx [4] xZ ?_|refine mx [5] yA ?_|refine gS ?_);simp only[go_sem,r0,r1,r2,r3,r4,hnl,qs,aC,d8])|((with_reducible refine And.intro ?_ ?_);focus (exact aK (hcn _) jH))|((with_reducible refine And.intro (And.intro ?_ ?_) ?_);focus (exact aK (hcn _) jH))|(exact aK (hcn _) jH)|refine gA ?_|(refine gD (fun h=>?_) (fun h=>?_)<;>try exact aA h)|fail
 refine lC (aBS false d.m.snaps (by have:=hs.snaps;omega) _) zY ?_
 have hfl:=eR (enc:=hU) (s:=2) (fun _=>rfl) d.m.snaps
 have hq1:(∀e,e=AV.agg [.int .i64 d.m.next,.sl false (d.m.log.nodes.map ndA)]→e.cells.length=2)=True:=eq_true (fun e he=>by rw[he];rfl)
 have hl8:((d.m.snaps.length+1) * 32≤140737488355328)=True:=eq_true (by have:=hs.snaps;omega)
 simp only[go_sem,r0,r1,r2,r3,r4,hnl,qs,aC,hfl,hq1,hl8]
 repeat' first|(refine gS ?_;simp only[go_sem,r0,r1,r2,r3,r4,hnl,qs,aC,hfl,hq1,hl8])|refine gA ?_|(refine gD (fun h=>?_) (fun h=>?_)<;>try exact aA h)|fail
 refine vK hb rfl rfl rfl ?_
 unfold dkC
 repeat' first|exact gQ|refine dW ?_ ?_|exact .cl _ (.int _ _)|exact .cl _ (.str _)|exact .cl _ (wT _ _ _)|exact .cl _ (wS _ _ _)|exact .cl _ (wU _ _ _)|exact .cl _ (wV _ _ _)|exact .cl _ (wW _ _ _)|exact .cl _ (wX _ _ _)|exact .cl _ (.osl _ _ _ _ _ _ hl2)
 exact pJ (by omega) (by rw[fN];simp only[go_sem,r0,r1,r2,r3,r4,hnl,qs,aC];rfl) (by simp) (fun _=>rfl) (fun x=>by simp only[go_sem])
theorem aKu{i j:Nat}{c:Cal}{d:Dsk}{G:AHeap}(hb:KB i j c d G)(hs:DS d.m)(hc:CS c):vH Tryz.prog 75 i j c (qR c d) G:=by
 refine mF Tryz.func75 rfl (Nat.le_of_ble_eq_true rfl) ?_
 have r0:=hb.b1;have r1:=aT hb.b1 trivial;have r2:=aT hb.b2 trivial;have hne:=hb.ne;have hl1:=hb.lt1;have hl2:=hb.lt2;have r3:=hb.r3;have r4:=hb.r4;have hnl:=aC G i;simp only[dkC]at r0 r1;have qs:=lE hl1 hl2 hne rfl
 unfold qR
 have hat:=aHH false d.m.log.nodes c.path (by have:=hs.nodes;omega) hc.path
 obtain⟨⟨id,e⟩,ha⟩:∃x,atN d.m.log.nodes c.path=x:=⟨_,rfl⟩
 rw[ha]at hat ⊢
 simp only[sB]at hat
 by_cases he:e=0
 ·subst he
  simp only[if_true]
  have hdd:=uH id
  cases hdi:dirI id with
  |false=>
   rw[hdi]at hdd
   rw[if_neg (by simp)]
   have ct0:=ct hat bQ;have ct1:=ct hdd dA;repeat' first|((first|refine gK ?_|refine gS ?_);simp only[go_sem,r0,r1,r2,r3,r4,hnl,qs,aC])|refine gA ?_|(refine gD (fun h=>?_) (fun h=>?_)<;>try exact aA h)|fail
   exact vL hb rfl
  |true=>
   rw[hdi]at hdd
   rw[if_pos rfl]
   by_cases h8:(8:Int)≤(d.m.watches.length:Int)
   ·have d8:decide ((8:Int)≤(d.m.watches.length:Int))=true:=decide_eq_true h8
    rw[if_pos h8]
    have ct0:=ct hat bQ;have ct1:=ct hdd dA;repeat' first|((first|refine gK ?_|refine gS ?_);simp only[go_sem,r0,r1,r2,r3,r4,hnl,qs,aC,d8])|refine gA ?_|(refine gD (fun h=>?_) (fun h=>?_)<;>try exact aA h)|fail
    exact vL hb rfl
   have d8:decide ((8:Int)≤(d.m.watches.length:Int))=false:=decide_eq_false h8
   rw[if_neg h8]
   have ct0:=ct hat bQ;have ct1:=ct hdd dA;repeat' first|((first|refine gK ?_|refine mx [9] yB ?_|refine gS ?_);simp only[go_sem,r0,r1,r2,r3,r4,hnl,qs,aC,d8])|refine gA ?_|(refine gD (fun h=>?_) (fun h=>?_)<;>try exact aA h)|fail
   refine lC (rO false d.m.watches (by have:=hs.watches;omega) _) rH ?_
   have hfl:=eR (enc:=dL) (s:=4) (fun _=>rfl) d.m.watches
   have hq1:(∀e,e=AV.agg [.int .i64 d.m.next,.int .i64 id,.sl true [],.bool false]→e.cells.length=4)=True:=eq_true (fun e he=>by rw[he];rfl)
   have hl8:((d.m.watches.length+1) * 48≤140737488355328)=True:=eq_true (by have:=hs.watches;omega)
   simp only[go_sem,r0,r1,r2,r3,r4,hnl,qs,aC,hfl,hq1,hl8]
   repeat' first|(refine gS ?_;simp only[go_sem,r0,r1,r2,r3,r4,hnl,qs,aC,hfl,hq1,hl8])|refine gA ?_|(refine gD (fun h=>?_) (fun h=>?_)<;>try exact aA h)|fail
   refine vK hb rfl rfl rfl ?_
   unfold dkC
   repeat' first|exact gQ|refine dW ?_ ?_|exact .cl _ (.int _ _)|exact .cl _ (.str _)|exact .cl _ (wT _ _ _)|exact .cl _ (wS _ _ _)|exact .cl _ (wU _ _ _)|exact .cl _ (wV _ _ _)|exact .cl _ (wW _ _ _)|exact .cl _ (wX _ _ _)|exact .cl _ (.osl _ _ _ _ _ _ hl2)
   refine aMZ (Nat.le_refl _) (by simp only[go_sem,r0,r1,r2,r3,r4,hnl,qs,aC];rfl) (by simp) (by simp only[List.length_append,hfl,List.length_cons,List.length_nil];omega) (fun _=>rfl) ?_
   rw[fN]
   refine aKt (pG (fun x=>by simp only[go_sem]) _) ?_
   repeat' first|exact gQ|refine dW ?_ ?_|exact .cl _ (.int _ _)|exact .cl _ (.bool _)|exact .slw _ _ ((Pur.sl true [] (fun _ h=>by cases h)).cl _)
 ·have hd:decide (e=0)=false:=decide_eq_false he
  simp only[if_neg he]
  have ct0:=ct hat bQ;repeat' first|((first|refine gK ?_|refine gS ?_);simp only[go_sem,r0,r1,r2,r3,r4,hnl,qs,aC,hd])|refine gA ?_|(refine gD (fun h=>?_) (fun h=>?_)<;>try exact aA h)|fail
  exact vL hb rfl
theorem aGj{i:Nat}{n:Int}{x0 x1 x2 x3 x4 x5 x6 x7 x8 x9 x10 x11 x12 x13 x14 x15 x17:AV}{G:AHeap}(k:Nat)(hk:hget G k=.cells 0 [.ref i 0 0])(hi:hget G i=.cells 0 [x0,x1,x2,x3,x4,x5,x6,x7,x8,x9,x10,x11,x12,x13,x14,x15,.int .i64 n,x17])(s:Snp):cJ Tryz.prog 130 [hU s,.ref k 0 0] G (.bool (decide (s.n=n))):=by
 refine aL Tryz.func130 rfl (Nat.le_of_ble_eq_true rfl) ?_
 have hk1:=aT hk trivial
 have hi1:=aT hi trivial
 repeat' first|(refine gS ?_;simp only[go_sem,hU,hk,hk1,hi,hi1])|refine gA ?_|(refine gD (fun h=>?_) (fun h=>?_)<;>try exact aA h)|fail
 exact done (by simp only[go_sem]) (.refl _)
theorem aGk{i:Nat}{n:Int}{x0 x1 x2 x3 x4 x5 x6 x7 x8 x9 x10 x11 x12 x13 x14 x15 x17:AV}{G:AHeap}(k:Nat)(hk:hget G k=.cells 0 [.ref i 0 0])(hi:hget G i=.cells 0 [x0,x1,x2,x3,x4,x5,x6,x7,x8,x9,x10,x11,x12,x13,x14,x15,.int .i64 n,x17])(s:Wch):cJ Tryz.prog 131 [dL s,.ref k 0 0] G (.bool (decide (s.n=n))):=by
 refine aL Tryz.func131 rfl (Nat.le_of_ble_eq_true rfl) ?_
 have hk1:=aT hk trivial
 have hi1:=aT hi trivial
 repeat' first|(refine gS ?_;simp only[go_sem,dL,hk,hk1,hi,hi1])|refine gA ?_|(refine gD (fun h=>?_) (fun h=>?_)<;>try exact aA h)|fail
 exact done (by simp only[go_sem]) (.refl _)
theorem aM2{i:Nat}{n:Int}{x0 x1 x2 x3 x4 x5 x6 x7 x8 x9 x10 x11 x12 x13 x14 x15 x17:AV}{G:AHeap}(k:Nat)(hk:hget G k=.cells 0 [.ref i 0 0])(hi:hget G i=.cells 0 [x0,x1,x2,x3,x4,x5,x6,x7,x8,x9,x10,x11,x12,x13,x14,x15,.int .i64 n,x17])(s:Wch):cJ Tryz.prog 137 [dL s,.ref k 0 0] G (.bool (decide (s.n=n))):=by
 refine aL Tryz.func137 rfl (Nat.le_of_ble_eq_true rfl) ?_
 have hk1:=aT hk trivial
 have hi1:=aT hi trivial
 repeat' first|(refine gS ?_;simp only[go_sem,dL,hk,hk1,hi,hi1])|refine gA ?_|(refine gD (fun h=>?_) (fun h=>?_)<;>try exact aA h)|fail
 exact done (by simp only[go_sem]) (.refl _)
theorem aM3{i j:Nat}{c:Cal}{d:Dsk}{G:AHeap}(hb:KB i j c d G)(hs:DS d.m):vH Tryz.prog 74 i j c (uT c d) G:=by
 refine mF Tryz.func74 rfl (Nat.le_of_ble_eq_true rfl) ?_
 have r0:=hb.b1;have r1:=aT hb.b1 trivial;have r2:=aT hb.b2 trivial;have hne:=hb.ne;have hl1:=hb.lt1;have hl2:=hb.lt2;have r3:=hb.r3;have r4:=hb.r4;have hnl:=aC G i;simp only[dkC]at r0 r1;have qs:=lE hl1 hl2 hne rfl
 have hA1:∀H,hget H G.length=.cells 0 [.ref i 0 0]→hget H i=.cells 0 (dkC j c d)→cJ Tryz.prog 132 [.sl false (d.m.snaps.map hU),.func (.func 130) [] [.ref G.length 0 0]] H (.bool (d.m.snaps.any fun s=>decide (s.n=c.n))):=
  fun H h1 h2=>aMj false d.m.snaps (.func 130) [] [.ref G.length 0 0] (fun s=>decide (s.n=c.n)) H (fun s=>.mk (first:=[]) (fun L=>aGj G.length (aH h1 trivial L) (aH h2 trivial L) s) zZ)
 have hB1:∀H,hget H G.length=.cells 0 [.ref i 0 0]→hget H i=.cells 0 (dkC j c d)→cJ Tryz.prog 133 [.sl false (d.m.watches.map dL),.func (.func 131) [] [.ref G.length 0 0]] H (.bool (d.m.watches.any fun s=>decide (s.n=c.n))):=
  fun H h1 h2=>aMk false d.m.watches (.func 131) [] [.ref G.length 0 0] (fun s=>decide (s.n=c.n)) H (fun s=>.mk (first:=[]) (fun L=>aGk G.length (aH h1 trivial L) (aH h2 trivial L) s) aAa)
 simp only[dkC]at hA1 hB1
 unfold uT
 have hgl:=hs.snaps
 have hgw:=hs.watches
 by_cases hno:(!(d.m.snaps.any fun s=>decide (s.n=c.n))&& !(d.m.watches.any fun w=>decide (w.n=c.n)))=true
 ·rw[if_pos hno]
  simp only[Bool.and_eq_true,Bool.not_eq_true']at hno
  rw[hno.1]at hA1
  rw[hno.2]at hB1
  repeat' first|((first|refine aV (hA1 _ (by simp only[go_sem,r0,r1,r2,r3,r4,hnl,qs,aC]) (by simp only[go_sem,r0,r1,r2,r3,r4,hnl,qs,aC])) kL ?_|refine aW (hA1 _ (by simp only[go_sem,r0,r1,r2,r3,r4,hnl,qs,aC]) (by simp only[go_sem,r0,r1,r2,r3,r4,hnl,qs,aC])) kL ?_|refine aX (fun _=>hA1 _ (by simp only[go_sem,r0,r1,r2,r3,r4,hnl,qs,aC]) (by simp only[go_sem,r0,r1,r2,r3,r4,hnl,qs,aC])) kL ?_|refine aV (hB1 _ (by simp only[go_sem,r0,r1,r2,r3,r4,hnl,qs,aC]) (by simp only[go_sem,r0,r1,r2,r3,r4,hnl,qs,aC])) kM ?_|refine aW (hB1 _ (by simp only[go_sem,r0,r1,r2,r3,r4,hnl,qs,aC]) (by simp only[go_sem,r0,r1,r2,r3,r4,hnl,qs,aC])) kM ?_|refine aX (fun _=>hB1 _ (by simp only[go_sem,r0,r1,r2,r3,r4,hnl,qs,aC]) (by simp only[go_sem,r0,r1,r2,r3,r4,hnl,qs,aC])) kM ?_|refine mx [5,6] nI ?_|refine gS ?_);simp only[go_sem,r0,r1,r2,r3,r4,hnl,qs,aC])|refine gA ?_|(refine gD (fun h=>?_) (fun h=>?_)<;>try exact aA h)|fail
  exact aCR hb rfl _
 rw[if_neg hno]
 obtain⟨A,hA⟩:∃A,d.m.snaps.any (fun s=>decide (s.n=c.n))=A:=⟨_,rfl⟩
 obtain⟨B,hB⟩:∃B,d.m.watches.any (fun s=>decide (s.n=c.n))=B:=⟨_,rfl⟩
 rw[hA,hB]at hno
 rw[hA]at hA1
 rw[hB]at hB1
 have fin:∀n:Nat,n=n:=fun _=>rfl
 have k1:¬i=G.length:=by omega
 cases A<;>cases B
 ·exact absurd rfl hno
 all_goals
  repeat' first|((first|refine aV (hA1 _ (by simp only[go_sem,r0,r1,r2,r3,r4,hnl,qs,aC]) (by simp only[go_sem,r0,r1,r2,r3,r4,hnl,qs,aC])) kL ?_|refine aW (hA1 _ (by simp only[go_sem,r0,r1,r2,r3,r4,hnl,qs,aC]) (by simp only[go_sem,r0,r1,r2,r3,r4,hnl,qs,aC])) kL ?_|refine aX (fun _=>hA1 _ (by simp only[go_sem,r0,r1,r2,r3,r4,hnl,qs,aC]) (by simp only[go_sem,r0,r1,r2,r3,r4,hnl,qs,aC])) kL ?_|refine aV (hB1 _ (by simp only[go_sem,r0,r1,r2,r3,r4,hnl,qs,aC]) (by simp only[go_sem,r0,r1,r2,r3,r4,hnl,qs,aC])) kM ?_|refine aW (hB1 _ (by simp only[go_sem,r0,r1,r2,r3,r4,hnl,qs,aC]) (by simp only[go_sem,r0,r1,r2,r3,r4,hnl,qs,aC])) kM ?_|refine aX (fun _=>hB1 _ (by simp only[go_sem,r0,r1,r2,r3,r4,hnl,qs,aC]) (by simp only[go_sem,r0,r1,r2,r3,r4,hnl,qs,aC])) kM ?_|refine mx [5,6] nI ?_|refine gS ?_);simp only[go_sem,r0,r1,r2,r3,r4,hnl,qs,aC])|refine gA ?_|(refine gD (fun h=>?_) (fun h=>?_)<;>try exact aA h)|fail
  refine lC (aBS false d.m.snaps (by omega) _) zY ?_
  simp only[go_sem,r0,r1,r2,r3,r4,hnl,qs,aC]
  repeat' first|(refine gS ?_;simp only[go_sem,r0,r1,r2,r3,r4,hnl,qs,aC])|refine gA ?_|(refine gD (fun h=>?_) (fun h=>?_)<;>try exact aA h)|fail
  refine lC ((aMo d.m.snaps (fun s=>decide (s.n=c.n)) (G.length+1) 1 d.m.snaps.length d.m.snaps.length rfl (Nat.le_refl _) (by omega) (fun G'=>hget G' G.length=.cells 0 [.ref i 0 0]∧hget G' i=.cells 0 (dkC j c d)) (fun G' b h=>⟨bB h.1 (by omega) b,bB h.2 (by omega) b⟩) (fun G' L h=>⟨aH h.1 trivial L,aH h.2 trivial L⟩) _
   (fn:=.func 130) (fs:=[]) (cs:=[.ref G.length 0 0]) (by first|(simp only[go_sem,r0,r1,r2,r3,r4,hnl,qs,aC];done)|(simp only[go_sem,r0,r1,r2,r3,r4,hnl,qs,aC];rfl)) (fun s G' hg=>Or.inl ⟨zZ,aGj G.length hg.1 hg.2 s⟩) ⟨(by first|(simp only[go_sem,r0,r1,r2,r3,r4,hnl,qs,aC];done)|(simp only[go_sem,r0,r1,r2,r3,r4,hnl,qs,aC];rfl)),(by first|(simp only[go_sem,r0,r1,r2,r3,r4,hnl,qs,aC];done)|(simp only[go_sem,r0,r1,r2,r3,r4,hnl,qs,aC];rfl))⟩).trunc (by simp)) aEe ?_
  simp only[go_sem,r0,r1,r2,r3,r4,hnl,qs,aC]
  repeat' first|((first|refine mx [5,6] nI ?_|refine gS ?_);simp only[go_sem,r0,r1,r2,r3,r4,hnl,qs,aC])|refine gA ?_|(refine gD (fun h=>?_) (fun h=>?_)<;>try exact aA h)|fail
  refine lC (rO false d.m.watches (by omega) _) rH ?_
  simp only[go_sem,r0,r1,r2,r3,r4,hnl,qs,aC]
  repeat' first|(refine gS ?_;simp only[go_sem,r0,r1,r2,r3,r4,hnl,qs,aC])|refine gA ?_|(refine gD (fun h=>?_) (fun h=>?_)<;>try exact aA h)|fail
  refine lC ((aMp d.m.watches (fun s=>decide (s.n=c.n)) (G.length+2) 1 d.m.watches.length d.m.watches.length rfl (Nat.le_refl _) (by omega) (fun G'=>hget G' G.length=.cells 0 [.ref i 0 0]∧hget G' i=.cells 0 [.sl false (d.m.log.entries.map fX),.sl false (d.m.log.nodes.map ndA),.int .i64 d.m.seen,.int .i64 d.m.rep,.osl 2 (G.length+1) 1 0 (d.m.snaps.filter (fun s=> !decide (s.n=c.n))).length d.m.snaps.length,.sl false (d.m.watches.map dL),.int .i64 d.m.next,
 .int .i64 d.a.err,.str d.a.data,.sl false (d.a.names.map AV.str),.int .i64 d.a.n,.sl false (d.a.events.map gF),
 .int .i64 c.kind,.str c.path,.str c.to,.str c.data,.int .i64 c.n,.osl 7 j (d.ops.length+1) 0 d.ops.length d.ops.length]) (fun G' b h=>⟨bB h.1 (by omega) b,bB h.2 (by omega) b⟩) (fun G' L h=>⟨aH h.1 trivial L,aH h.2 trivial L⟩) _
   (fn:=.func 131) (fs:=[]) (cs:=[.ref G.length 0 0]) (by first|(simp only[go_sem,r0,r1,r2,r3,r4,hnl,qs,aC];done)|(simp only[go_sem,r0,r1,r2,r3,r4,hnl,qs,aC];rfl)) (fun s G' hg=>Or.inl ⟨aAa,aGk G.length hg.1 hg.2 s⟩) ⟨(by first|(simp only[go_sem,r0,r1,r2,r3,r4,hnl,qs,aC];done)|(simp only[go_sem,r0,r1,r2,r3,r4,hnl,qs,aC];rfl)),(by first|(simp only[go_sem,r0,r1,r2,r3,r4,hnl,qs,aC];done)|(simp only[go_sem,r0,r1,r2,r3,r4,hnl,qs,aC];rfl))⟩).trunc (by simp[aC])) aEf ?_
  simp only[go_sem,r0,r1,r2,r3,r4,hnl,qs,aC]
  repeat' first|(refine gS ?_;simp only[go_sem,r0,r1,r2,r3,r4,hnl,qs,aC])|refine gA ?_|(refine gD (fun h=>?_) (fun h=>?_)<;>try exact aA h)|fail
  refine vK hb rfl rfl rfl ?_
  unfold dkC
  repeat' first|exact gQ|refine dW ?_ ?_|exact .cl _ (.int _ _)|exact .cl _ (.str _)|exact .cl _ (wT _ _ _)|exact .cl _ (wS _ _ _)|exact .cl _ (wU _ _ _)|exact .cl _ (wV _ _ _)|exact .cl _ (wW _ _ _)|exact .cl _ (wX _ _ _)|exact .cl _ (.osl _ _ _ _ _ _ hl2)
  ·exact pJ (by omega) (by first|(simp only[go_sem,r0,r1,r2,r3,r4,hnl,qs,aC];done)|(simp only[go_sem,r0,r1,r2,r3,r4,hnl,qs,aC];rfl)) rfl (fun _=>rfl) (fun x=>by simp only[go_sem])
  ·exact pJ (by omega) (by first|(simp only[go_sem,r0,r1,r2,r3,r4,hnl,qs,aC];done)|(simp only[go_sem,r0,r1,r2,r3,r4,hnl,qs,aC];rfl)) rfl (fun _=>rfl) (fun x=>by simp only[go_sem])
end Go.Proofs.YthhdnjiodklmmaaGreatDoor
