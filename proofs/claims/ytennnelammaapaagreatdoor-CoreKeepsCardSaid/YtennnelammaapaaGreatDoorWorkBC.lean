/- What the functions of this seat answer (29 of 38). No condition. -/
import Derived.Test.YtennnelammaapaaGreatDoorWorkBB
set_option linter.unusedSimpArgs false
set_option linter.unusedVariables false
set_option maxRecDepth 100000
set_option maxHeartbeats 16000000
namespace Go.Proofs.YtennnelammaapaaGreatDoor
theorem qN{α:Type}{enc:α→AV}{s n i v k lc:Nat}{H:AHeap}{D:List α}(hn:n≤i)(hh:hget H i=.cells v (flA enc D))(hk:D.length=k)(hs:∀x,(enc x).cells.length=s)(hp:∀x,Pur (enc x)):Frz n H (.osl s i v 0 k lc) (.sl false (D.map enc)):=
 iT (es:=D.map enc) (rest:=[]) hn hh (zAd _).symm (by rw[zAn,hk]) (fun e he=>by(obtain⟨x, -,rfl⟩:=zAm.1 he;exact hs x)) (fun e he=>by(obtain⟨x, -,rfl⟩:=zAm.1 he;exact hp x))
theorem aHs{α:Type}{enc:α→AV}{s n i v k lc:Nat}{H:AHeap}{D:List α}{cs:List AV}(hn:n≤i)(hh:hget H i=.cells v cs)(hk:D.length=k)(hl:cs.length=D.length * s)(hs:∀x,(enc x).cells.length=s)
  (h:∀(m:Nat) (x y:AV),cs[m]?=some x→(flA enc D)[m]?=some y→Frz n H x y):Frz n H (.osl s i v 0 k lc) (.sl false (D.map enc)):=
 .osl s i v 0 k lc cs _ hn hh (by rw[zAn,hk]) (by rw[hl,hk];omega) (fun e he=>by(obtain⟨x, -,rfl⟩:=zAm.1 he;exact hs x)) fun q j e x y he hy hx=>
  h (q * s+j) x y (by rwa[zBK]at hx) (kT (fun e he=>by(obtain⟨x, -,rfl⟩:=zAm.1 he;exact hs x)) he hy)
theorem aEC{n:Nat}{H:AHeap}{A B C:List AV}(hA:∀x∈A,Pur x)(h:∀(m:Nat) (x y:AV),B[m]?=some x→C[m]?=some y→Frz n H x y):∀(m:Nat) (x y:AV),(A++B)[m]?=some x→(A++C)[m]?=some y→Frz n H x y:=fun m x y hx hy=>by
 by_cases hm:m<A.length
 ·rw[zAt hm]at hx hy;rw[hx]at hy;cases hy;exact .cl _ ((hA x (zAp hx)).cl _)
 ·rw[zAV (by omega)]at hx hy
  exact h _ x y hx hy
theorem wM{i j:Nat}{c:Cal}{d d':Dsk}{G L:AHeap}{cs:List AV}(h:KB i j c d G){e:Int}{v:AV}(hv:v=.int .i64 e)(ho:d'.ops=d.ops)(hl:cs.length=18)
  (hf:∀(m:Nat) (x y:AV),cs[m]?=some x→(dkC j c d')[m]?=some y→Frz G.length (aB G i (.cells 0 cs)++L) x y):
  ∃A L' H1 y,aB G i (.cells 0 cs)++L=A++L'∧A.length=G.length∧H1.length=G.length∧aFi G.length (aB G i (.cells 0 cs)++L) A H1 G∧Frz G.length (aB G i (.cells 0 cs)++L) v y∧(y=.int .i64 e∧H1=oL G i j c d'):=by
 subst hv;refine⟨_,L,_,_,rfl,aC _ _ _,wH _ _ _ _ _,fun k a b ha hk=>?_,.cl _ (.int _ _),rfl,rfl⟩
 rw[←h.one ho]at hk;by_cases e:i=k
 ·subst e;rw[aB,zAU h.lt1]at ha hk;cases ha;cases hk;exact .inr ⟨0,cs,_,rfl,rfl,hl,hf⟩
 ·rw[aB,zAA e]at ha hk;rw[ha]at hk;cases hk;exact .inl ⟨rfl,.inl ha⟩
theorem aDl{i j:Nat}{c:Cal}{d:Dsk}{G:AHeap}(h:KB i j c d G){e:Int}{v:AV}(hv:v=.int .i64 e)(L:AHeap):
  ∃A L' H1 y,G++L=A++L'∧A.length=G.length∧H1.length=G.length∧aFi G.length (G++L) A H1 G∧Frz G.length (G++L) v y∧(y=.int .i64 e∧H1=oL G i j c d):=by
 subst hv;exact⟨G,L,G,_,rfl,rfl,rfl,fun k a b ha hb=>by(rw[ha]at hb;cases hb;exact .inl ⟨rfl,.inl ha⟩),.cl _ (.int _ _),rfl,h.own.symm⟩
theorem wN{i j:Nat}{c:Cal}{d:Dsk}{G:AHeap}(h:KB i j c d G){e:Int}{v:AV}(hv:v=.int .i64 e):
  ∃A L' H1 y,G=A++L'∧A.length=G.length∧H1.length=G.length∧aFi G.length G A H1 G∧Frz G.length G v y∧(y=.int .i64 e∧H1=oL G i j c d):=by
 have:=aDl h hv [];rwa[zAd]at this
def zQ:List Pl:=[.free,.pure 0,.pure 0,.pure 0,.pure 0,.free,.pure 0,.pure 0,.pure 0,.pure 0,.pure 0,.pure 0,.free,.eff [true,true,true,true,true,true,true,true,true,true],.eff [false,false,false,false,false,false,false,false,false,false]]
def zR:List Pl:=[.free,.free,.pure 0,.pure 0,.pure 0,.pure 0,.eff [false,true,true,true],.pure 1,.free,.eff [true,true,true,true],.pure 0,.pure 0,.pure 0,.eff [false,true,true,false,false,false,false]]
def zS:List Pl:=[.free,.free,.pure 0,.pure 0,.pure 0,.pure 0,.eff [false,true,true,true],.free,.pure 1,.pure 1,.pure 1,.pure 1,.free,.free,.free,.eff [true,true,true,true,true,true,true],.pure 0,.pure 0,.pure 0,.eff [false,true,true,false,false,false,false,false,false,false]]
def lC:List Pl:=[.pure 0,.pure 0,.pure 0,.pure 0,.pure 0,.pure 0,.eff [false,true,true,true,true,true],.free,.eff [true,true,true,true,true],.pure 0,.pure 0,.pure 0,.eff [false,true,true,false,false,false,false,false]]
attribute [go_sem] zQ zR zS lC
theorem aO9{i j:Nat}{c:Cal}{d:Dsk}{G:AHeap}(hb:KB i j c d G):aEv Tryz.prog 130 i j c (0,d) G:=by
 refine aO Tryz.func130 ?_;refine hG ?_;exact aHg hb rfl hb.own.symm
theorem aPa{i j:Nat}{c:Cal}{d:Dsk}{G:AHeap}(hb:KB i j c d G)(hs:DS d.m):aEv Tryz.prog 126 i j c (aCk d) G:=by
 refine aF Tryz.func126 ?_;have hP:=pT [(4,zQ),(5,zR)];have r0:=hb.b1;have r1:=aG hb.b1 trivial;have r2:=aG hb.b2 trivial;have hne:=hb.ne;have hl1:=hb.lt1;have hl2:=hb.lt2;have r3:=hb.r3;have r4:=hb.r4;have hnl:=aC G i;simp only[dkC]at r0 r1;have qs:=tZ hl1 hl2 hne rfl;unfold aCk;by_cases h8:(8:Int)≤(d.m.snaps.length:Int)
 ·have d8:decide ((8:Int)≤(d.m.snaps.length:Int))=true:=zAj h8;rw[zAl h8];refine hH ?_;exact wN hb rfl
 have d8:decide ((8:Int)≤(d.m.snaps.length:Int))=false:=zAg h8;rw[zAe h8];have hcn:=aFG false d.m.log.nodes (by have:=hs.nodes;omega)
 refine hH ?_;refine dX (aCs false d.m.snaps (by have:=hs.snaps;omega) _) (cO) ?_
 have hfl:=aU (enc:=iG) (s:=2) (fun _=>rfl) d.m.snaps
 have hq1:(∀e,e=AV.agg [.int .i64 d.m.next,.sl false (d.m.log.nodes.map ndA)]→e.cells.length=2)=True:=zAC (fun e he=>by rw[he];rfl)
 have hl8:((d.m.snaps.length+1) * 32≤140737488355328)=True:=zAC (by have:=hs.snaps;omega)
 simp only[go_sem,r0,r1,r2,r3,r4,hnl,qs,aC,hfl,hq1,hl8];refine hH ?_;refine wM hb rfl rfl rfl ?_;unfold dkC;repeat' first|exact bN|refine aT ?_ ?_|exact .cl _ (.int _ _)|exact .cl _ (.str _)|exact .cl _ (yE _ _ _)|exact .cl _ (yD _ _ _)|exact .cl _ (yF _ _ _)|exact .cl _ (yG _ _ _)|exact .cl _ (yH _ _ _)|exact .cl _ (yI _ _ _)|exact .cl _ (.osl _ _ _ _ _ _ hl2)
 exact qN (by omega) (by rw[cB];simp only[go_sem,r0,r1,r2,r3,r4,hnl,qs,aC];rfl) (by simp) (fun _=>rfl) (fun x=>by simp only[go_sem])
theorem aLO{i j:Nat}{c:Cal}{d:Dsk}{G:AHeap}(hb:KB i j c d G)(hs:DS d.m)(hc:CS c):aEv Tryz.prog 128 i j c (xS c d) G:=by
 refine aF Tryz.func128 ?_;have hP:=pT [(9,zS)];have r0:=hb.b1;have r1:=aG hb.b1 trivial;have r2:=aG hb.b2 trivial;have hne:=hb.ne;have hl1:=hb.lt1;have hl2:=hb.lt2;have r3:=hb.r3;have r4:=hb.r4;have hnl:=aC G i;simp only[dkC]at r0 r1;have qs:=tZ hl1 hl2 hne rfl;unfold xS;have hat:=aXY false d.m.log.nodes c.path (by have:=hs.nodes;omega) hc.path
 obtain⟨⟨id,e⟩,ha⟩:∃x,qD d.m.log.nodes c.path=x:=⟨_,rfl⟩;rw[ha]at hat ⊢;simp only[aA6]at hat;by_cases he:e=0
 ·subst he;simp only[zBc];have hdd:=aA0 id;cases hdi:dirI id with
  |false=>
   rw[hdi]at hdd;rw[zAe (by simp)]
   refine hH ?_;exact wN hb rfl
  |true=>
   rw[hdi]at hdd;rw[zAl rfl];by_cases h8:(8:Int)≤(d.m.watches.length:Int)
   ·have d8:decide ((8:Int)≤(d.m.watches.length:Int))=true:=zAj h8;rw[zAl h8];refine hH ?_;exact wN hb rfl
   have d8:decide ((8:Int)≤(d.m.watches.length:Int))=false:=zAg h8;rw[zAe h8];refine hH ?_;refine dX (tD false d.m.watches (by have:=hs.watches;omega) _) (cO) ?_
   have hfl:=aU (enc:=dJ) (s:=4) (fun _=>rfl) d.m.watches
   have hq1:(∀e,e=AV.agg [.int .i64 d.m.next,.int .i64 id,.sl true [],.bool false]→e.cells.length=4)=True:=zAC (fun e he=>by rw[he];rfl)
   have hl8:((d.m.watches.length+1) * 48≤140737488355328)=True:=zAC (by have:=hs.watches;omega)
   simp only[go_sem,r0,r1,r2,r3,r4,hnl,qs,aC,hfl,hq1,hl8];refine hH ?_;refine wM hb rfl rfl rfl ?_;unfold dkC;repeat' first|exact bN|refine aT ?_ ?_|exact .cl _ (.int _ _)|exact .cl _ (.str _)|exact .cl _ (yE _ _ _)|exact .cl _ (yD _ _ _)|exact .cl _ (yF _ _ _)|exact .cl _ (yG _ _ _)|exact .cl _ (yH _ _ _)|exact .cl _ (yI _ _ _)|exact .cl _ (.osl _ _ _ _ _ _ hl2)
   refine aHs (zAf _) (by simp only[go_sem,r0,r1,r2,r3,r4,hnl,qs,aC];rfl) (by simp) (by simp only[zAa,hfl,zAc,zAv];omega) (fun _=>rfl) ?_
   rw[cB];refine aEC (eY (fun x=>by simp only[go_sem]) _) ?_
   repeat' first|exact bN|refine aT ?_ ?_|exact .cl _ (.int _ _)|exact .cl _ (.bool _)|exact .slw _ _ ((Pur.sl true [] (fun _ h=>by cases h)).cl _)
 ·have hd:decide (e=0)=false:=zAg he;simp only[zAe he];refine hH ?_;exact wN hb rfl
theorem aHt{i:Nat}{n:Int}{x0 x1 x2 x3 x4 x5 x6 x7 x8 x9 x10 x11 x12 x13 x14 x15 x17:AV}{G:AHeap}(k:Nat)(hk:hget G k=.cells 0 [.ref i 0 0])(hi:hget G i=.cells 0 [x0,x1,x2,x3,x4,x5,x6,x7,x8,x9,x10,x11,x12,x13,x14,x15,.int .i64 n,x17])(s:Snp):bH Tryz.prog 159 [iG s,.ref k 0 0] G (.bool (decide (s.n=n))):=by
 refine fO Tryz.func159 ?_;have hk1:=aG hk trivial;have hi1:=aG hi trivial;refine hK iG.eq_1 ?_;exact dY (.refl _)
theorem aHu{i:Nat}{n:Int}{x0 x1 x2 x3 x4 x5 x6 x7 x8 x9 x10 x11 x12 x13 x14 x15 x17:AV}{G:AHeap}(k:Nat)(hk:hget G k=.cells 0 [.ref i 0 0])(hi:hget G i=.cells 0 [x0,x1,x2,x3,x4,x5,x6,x7,x8,x9,x10,x11,x12,x13,x14,x15,.int .i64 n,x17])(s:Wch):bH Tryz.prog 160 [dJ s,.ref k 0 0] G (.bool (decide (s.n=n))):=by
 refine fO Tryz.func160 ?_;have hk1:=aG hk trivial;have hi1:=aG hi trivial;refine hK dJ.eq_1 ?_;exact dY (.refl _)
theorem aPb{i:Nat}{n:Int}{x0 x1 x2 x3 x4 x5 x6 x7 x8 x9 x10 x11 x12 x13 x14 x15 x17:AV}{G:AHeap}(k:Nat)(hk:hget G k=.cells 0 [.ref i 0 0])(hi:hget G i=.cells 0 [x0,x1,x2,x3,x4,x5,x6,x7,x8,x9,x10,x11,x12,x13,x14,x15,.int .i64 n,x17])(s:Wch):bH Tryz.prog 166 [dJ s,.ref k 0 0] G (.bool (decide (s.n=n))):=by
 refine fO Tryz.func166 ?_;have hk1:=aG hk trivial;have hi1:=aG hi trivial;refine hK dJ.eq_1 ?_;exact dY (.refl _)
theorem aPc{i j:Nat}{c:Cal}{d:Dsk}{G:AHeap}(hb:KB i j c d G)(hs:DS d.m):aEv Tryz.prog 127 i j c (aCl c d) G:=by
 refine aF Tryz.func127 ?_;have hP:=pT [(5,lC),(6,lC)];have r0:=hb.b1;have r1:=aG hb.b1 trivial;have r2:=aG hb.b2 trivial;have hne:=hb.ne;have hl1:=hb.lt1;have hl2:=hb.lt2;have r3:=hb.r3;have r4:=hb.r4;have hnl:=aC G i;simp only[dkC]at r0 r1;have qs:=tZ hl1 hl2 hne rfl;have hA1:∀H,hget H G.length=.cells 0 [.ref i 0 0]→hget H i=.cells 0 (dkC j c d)→bH Tryz.prog 161 [.sl false (d.m.snaps.map iG),.func (.func 159) [] [.ref G.length 0 0]] H (.bool (d.m.snaps.any fun s=>decide (s.n=c.n))):=
  fun H h1 h2=>aOp false d.m.snaps (.func 159) [] [.ref G.length 0 0] (fun s=>decide (s.n=c.n)) H (fun s=>.mk (first:=[]) (fun L=>aHt G.length (aD h1 trivial L) (aD h2 trivial L) s) (cO))
 have hB1:∀H,hget H G.length=.cells 0 [.ref i 0 0]→hget H i=.cells 0 (dkC j c d)→bH Tryz.prog 162 [.sl false (d.m.watches.map dJ),.func (.func 160) [] [.ref G.length 0 0]] H (.bool (d.m.watches.any fun s=>decide (s.n=c.n))):=
  fun H h1 h2=>aOq false d.m.watches (.func 160) [] [.ref G.length 0 0] (fun s=>decide (s.n=c.n)) H (fun s=>.mk (first:=[]) (fun L=>aHu G.length (aD h1 trivial L) (aD h2 trivial L) s) (cO))
 simp only[dkC]at hA1 hB1;unfold aCl;have hgl:=hs.snaps;have hgw:=hs.watches;by_cases hno:(!(d.m.snaps.any fun s=>decide (s.n=c.n))&& !(d.m.watches.any fun w=>decide (w.n=c.n)))=true
 ·rw[zAl hno];simp only[zAu,zA4]at hno;rw[hno.1]at hA1;rw[hno.2]at hB1
  repeat' first|((first|refine aZ (hA1 _ (by simp only[go_sem,r0,r1,r2,r3,r4,hnl,qs,aC]) (by simp only[go_sem,r0,r1,r2,r3,r4,hnl,qs,aC])) (cO) ?_|refine bA (hA1 _ (by simp only[go_sem,r0,r1,r2,r3,r4,hnl,qs,aC]) (by simp only[go_sem,r0,r1,r2,r3,r4,hnl,qs,aC])) (cO) ?_|refine bB (fun _=>hA1 _ (by simp only[go_sem,r0,r1,r2,r3,r4,hnl,qs,aC]) (by simp only[go_sem,r0,r1,r2,r3,r4,hnl,qs,aC])) (cO) ?_|refine aZ (hB1 _ (by simp only[go_sem,r0,r1,r2,r3,r4,hnl,qs,aC]) (by simp only[go_sem,r0,r1,r2,r3,r4,hnl,qs,aC])) (cO) ?_|refine bA (hB1 _ (by simp only[go_sem,r0,r1,r2,r3,r4,hnl,qs,aC]) (by simp only[go_sem,r0,r1,r2,r3,r4,hnl,qs,aC])) (cO) ?_|refine bB (fun _=>hB1 _ (by simp only[go_sem,r0,r1,r2,r3,r4,hnl,qs,aC]) (by simp only[go_sem,r0,r1,r2,r3,r4,hnl,qs,aC])) (cO) ?_|refine mx [5,6] lC ?_|refine gS ?_);simp only[go_sem,r0,r1,r2,r3,r4,hnl,qs,aC])|refine gA ?_|(refine gD ?_ ?_<;>intro h<;>try exact aA h)|fail
  exact aDl hb rfl _
 rw[zAe hno];obtain⟨A,hA⟩:∃A,d.m.snaps.any (fun s=>decide (s.n=c.n))=A:=⟨_,rfl⟩
 obtain⟨B,hB⟩:∃B,d.m.watches.any (fun s=>decide (s.n=c.n))=B:=⟨_,rfl⟩
 rw[hA,hB]at hno;rw[hA]at hA1;rw[hB]at hB1;have fin:∀n:Nat,n=n:=fun _=>rfl
 have k1:¬i=G.length:=by omega
 cases A<;>cases B
 ·exact absurd rfl hno
 all_goals
  repeat' first|((first|refine aZ (hA1 _ (by simp only[go_sem,r0,r1,r2,r3,r4,hnl,qs,aC]) (by simp only[go_sem,r0,r1,r2,r3,r4,hnl,qs,aC])) (cO) ?_|refine bA (hA1 _ (by simp only[go_sem,r0,r1,r2,r3,r4,hnl,qs,aC]) (by simp only[go_sem,r0,r1,r2,r3,r4,hnl,qs,aC])) (cO) ?_|refine bB (fun _=>hA1 _ (by simp only[go_sem,r0,r1,r2,r3,r4,hnl,qs,aC]) (by simp only[go_sem,r0,r1,r2,r3,r4,hnl,qs,aC])) (cO) ?_|refine aZ (hB1 _ (by simp only[go_sem,r0,r1,r2,r3,r4,hnl,qs,aC]) (by simp only[go_sem,r0,r1,r2,r3,r4,hnl,qs,aC])) (cO) ?_|refine bA (hB1 _ (by simp only[go_sem,r0,r1,r2,r3,r4,hnl,qs,aC]) (by simp only[go_sem,r0,r1,r2,r3,r4,hnl,qs,aC])) (cO) ?_|refine bB (fun _=>hB1 _ (by simp only[go_sem,r0,r1,r2,r3,r4,hnl,qs,aC]) (by simp only[go_sem,r0,r1,r2,r3,r4,hnl,qs,aC])) (cO) ?_|refine mx [5,6] lC ?_|refine gS ?_);simp only[go_sem,r0,r1,r2,r3,r4,hnl,qs,aC])|refine gA ?_|(refine gD ?_ ?_<;>intro h<;>try exact aA h)|fail
  refine dX (aCs false d.m.snaps (by omega) _) (cO) ?_
  simp only[go_sem,r0,r1,r2,r3,r4,hnl,qs,aC];repeat' first|refine hH ?_|(refine gD ?_ ?_<;>intro h<;>try exact aA h)|fail
  refine dX ((aOu d.m.snaps (fun s=>decide (s.n=c.n)) (G.length+1) 1 d.m.snaps.length d.m.snaps.length rfl (zAf _) (by omega) (fun G'=>hget G' G.length=.cells 0 [.ref i 0 0]∧hget G' i=.cells 0 (dkC j c d)) (fun G' b h=>⟨aH h.1 (by omega) b,aH h.2 (by omega) b⟩) (fun G' L h=>⟨aD h.1 trivial L,aD h.2 trivial L⟩) _
   (fn:=.func 159) (fs:=[]) (cs:=[.ref G.length 0 0]) (by first|(simp only[go_sem,r0,r1,r2,r3,r4,hnl,qs,aC];done)|(simp only[go_sem,r0,r1,r2,r3,r4,hnl,qs,aC];rfl)) (fun s G' hg=>Or.inl ⟨(cO),aHt G.length hg.1 hg.2 s⟩) ⟨(by first|(simp only[go_sem,r0,r1,r2,r3,r4,hnl,qs,aC];done)|(simp only[go_sem,r0,r1,r2,r3,r4,hnl,qs,aC];rfl)),(by first|(simp only[go_sem,r0,r1,r2,r3,r4,hnl,qs,aC];done)|(simp only[go_sem,r0,r1,r2,r3,r4,hnl,qs,aC];rfl))⟩).trunc (by simp)) (cO) ?_
  simp only[go_sem,r0,r1,r2,r3,r4,hnl,qs,aC];refine hH ?_;refine dX (tD false d.m.watches (by omega) _) (cO) ?_
  simp only[go_sem,r0,r1,r2,r3,r4,hnl,qs,aC];repeat' first|refine hH ?_|(refine gD ?_ ?_<;>intro h<;>try exact aA h)|fail
  refine dX ((aOv d.m.watches (fun s=>decide (s.n=c.n)) (G.length+2) 1 d.m.watches.length d.m.watches.length rfl (zAf _) (by omega) (fun G'=>hget G' G.length=.cells 0 [.ref i 0 0]∧hget G' i=.cells 0 [.sl false (d.m.log.entries.map iB),.sl false (d.m.log.nodes.map ndA),.int .i64 d.m.seen,.int .i64 d.m.rep,.osl 2 (G.length+1) 1 0 (d.m.snaps.filter (fun s=> !decide (s.n=c.n))).length d.m.snaps.length,.sl false (d.m.watches.map dJ),.int .i64 d.m.next,
 .int .i64 d.a.err,.str d.a.data,.sl false (d.a.names.map AV.str),.int .i64 d.a.n,.sl false (d.a.events.map fF),
 .int .i64 c.kind,.str c.path,.str c.to,.str c.data,.int .i64 c.n,.osl 7 j (d.ops.length+1) 0 d.ops.length d.ops.length]) (fun G' b h=>⟨aH h.1 (by omega) b,aH h.2 (by omega) b⟩) (fun G' L h=>⟨aD h.1 trivial L,aD h.2 trivial L⟩) _
   (fn:=.func 160) (fs:=[]) (cs:=[.ref G.length 0 0]) (by first|(simp only[go_sem,r0,r1,r2,r3,r4,hnl,qs,aC];done)|(simp only[go_sem,r0,r1,r2,r3,r4,hnl,qs,aC];rfl)) (fun s G' hg=>Or.inl ⟨(cO),aHu G.length hg.1 hg.2 s⟩) ⟨(by first|(simp only[go_sem,r0,r1,r2,r3,r4,hnl,qs,aC];done)|(simp only[go_sem,r0,r1,r2,r3,r4,hnl,qs,aC];rfl)),(by first|(simp only[go_sem,r0,r1,r2,r3,r4,hnl,qs,aC];done)|(simp only[go_sem,r0,r1,r2,r3,r4,hnl,qs,aC];rfl))⟩).trunc (by simp[aC])) (cO) ?_
  simp only[go_sem,r0,r1,r2,r3,r4,hnl,qs,aC];refine hH ?_;refine wM hb rfl rfl rfl ?_;unfold dkC;repeat' first|exact bN|refine aT ?_ ?_|exact .cl _ (.int _ _)|exact .cl _ (.str _)|exact .cl _ (yE _ _ _)|exact .cl _ (yD _ _ _)|exact .cl _ (yF _ _ _)|exact .cl _ (yG _ _ _)|exact .cl _ (yH _ _ _)|exact .cl _ (yI _ _ _)|exact .cl _ (.osl _ _ _ _ _ _ hl2)
  ·exact qN (by omega) (by first|(simp only[go_sem,r0,r1,r2,r3,r4,hnl,qs,aC];done)|(simp only[go_sem,r0,r1,r2,r3,r4,hnl,qs,aC];rfl)) rfl (fun _=>rfl) (fun x=>by simp only[go_sem])
  ·exact qN (by omega) (by first|(simp only[go_sem,r0,r1,r2,r3,r4,hnl,qs,aC];done)|(simp only[go_sem,r0,r1,r2,r3,r4,hnl,qs,aC];rfl)) rfl (fun _=>rfl) (fun x=>by simp only[go_sem])
end Go.Proofs.YtennnelammaapaaGreatDoor
