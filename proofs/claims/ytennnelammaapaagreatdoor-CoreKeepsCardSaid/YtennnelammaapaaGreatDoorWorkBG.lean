/- What the functions of this seat answer (33 of 38). No condition. -/
import Derived.Test.YtennnelammaapaaGreatDoorWorkBF
set_option linter.unusedSimpArgs false
set_option linter.unusedVariables false
set_option maxRecDepth 100000
set_option maxHeartbeats 16000000
namespace Go.Proofs.YtennnelammaapaaGreatDoor
section
def zU:List Pl:=[.pure 0,.pure 0,.eff [false,true],.pure 1,.pure 1,.pure 1,.free,.free,.eff [true,true,true,true],.pure 0,.eff [false,false,false,false,false]]
attribute [go_sem] zU
theorem aL2(f1 f2 f3 f4 f5 f6 f7 f8 f9:Bool)(x:Cor):Sim (iN f1 f2 f3 f4 f5 f6 f7 f8 f9 x) (iN false false false false false false false false false x):=by
 unfold iN kE;refine .agg _ _ rfl ?_;repeat' first|exact dE|refine aP ?_ ?_|exact .refl _|exact .sl _ _
abbrev eM:Cor→AV:=iN false false false false false false false false false
theorem aL3(f1 f2 f3 f4 f5 f6 f7 f8 f9:Bool)(x:Cor)(e:Int):Sim (.tup [iN f1 f2 f3 f4 f5 f6 f7 f8 f9 x,.int .i64 e]) (.tup [eM x,.int .i64 e]):=.tup _ _ rfl (aP (aL2 ..) (aP (.refl _) dE))
theorem aPo(f1 f2 f3 f4 f5 f6 f7 f8 f9:Bool)(x:Cor)(n e:Int):Sim (.tup [iN f1 f2 f3 f4 f5 f6 f7 f8 f9 x,.int .i64 n,.int .i64 e]) (.tup [eM x,.int .i64 n,.int .i64 e]):=.tup _ _ rfl (aP (aL2 ..) (aP (.refl _) (aP (.refl _) dE)))
theorem aBx(b:Bool)(l:List Thr)(hl:l.length≤1073741824)(H:AHeap):
  ACalls Tryz.prog 33 [.sl b (l.map thr)] H (fun v H'=>v=.osl 18 H.length 1 0 l.length l.length∧H'=H++[.cells 1 (flA thr l)]):=by
 refine aQ Tryz.func33 ?_;have hcl:∀n,ClB n (.cells 1 (flA thr l)):=fun n=>rR (fun x=>by simp only[go_sem]) n 1 l
 have fin:∀v H',v=.osl 18 H.length 1 0 l.length l.length→H'=H++[.cells 1 (flA thr l)]→∃H1 L y,H'=H1++L∧H.length≤H1.length∧(∀(i:Nat) (b:ABlk),H1[i]?=some b→H[i]?=some b∨ClB H1.length b)∧Frz H1.length H' v y∧
   y=.osl 18 H.length 1 0 l.length l.length∧H1=H++[.cells 1 (flA thr l)]:=by
  rintro v H' rfl rfl;exact⟨_,[],_,(zAd _).symm,by simp,jU fun b hb=>by(rw[zAq]at hb;subst hb;exact hcl _),.cl _ (.osl _ _ _ _ _ _ (by simp)),rfl,rfl⟩
 have hfl:List.flatMap AV.cells (l.map thr)=flA thr l:=rfl;repeat' first|(refine gS ?_;simp only[go_sem])|refine gA ?_|(refine gD ?_ ?_<;>intro h<;>try exact aA h)|fail
 intro c hc;cases c with
 |true=>
  have hnil:l=[]:=by
   cases l with
   |nil=>rfl
   |cons x l=>exact absurd (hc (by simp)) (by decide)
  subst hnil;repeat' first|(refine gS ?_;simp only[go_sem])|refine gA ?_|fail
  refine eJ rfl (fun _=>?_) (fun h=>by cases h)
  refine pF ?_;refine dR rfl ?_;simp only[go_sem];refine jR 2 18 rfl ?_;repeat' first|(refine gS ?_;simp only[go_sem])|refine gA ?_|(refine gD ?_ ?_<;>intro h<;>try exact aA h)|fail
  exact fin _ _ rfl rfl
 |false=>
  clear hc;have hc1:(∀e∈l.map thr,e.cells.length=18)=True:=zAC fun e he=>by(obtain⟨x,_,rfl⟩:=zAm.1 he;rfl)
  have hl8:(l.length * 216≤140737488355328)=True:=zAC (by omega)
  repeat' first|(refine gS ?_;simp only[go_sem,hc1,hfl,hl8,zCW,true_or])|refine gA ?_|(refine gD ?_ ?_<;>intro h<;>try exact aA h)|fail
  exact fin _ _ rfl rfl
theorem sG(r:Int)(H:AHeap):bH Tryz.prog 10 [.int .i64 r] H (.tup [eM (tP r).1,.int .i64 (tP r).2]):=by
 refine fO Tryz.func10 ?_;have hm:=aS1 r;unfold tP;obtain⟨⟨m,e⟩,hr⟩:∃z,aAe r=z:=⟨_,rfl⟩;rw[hr]at hm ⊢;simp only[mdA,mdF]at hm;by_cases he:e=0
 ·subst he;rw[zAl rfl];repeat' first|(refine gS ?_;simp only[go_sem])|refine gA ?_|(refine gD ?_ ?_<;>intro h<;>try exact aA h)|fail
  exact dY (aL3 false false false false true true true true true {co0 with m:=m} 0)
 ·have hd:decide (e=0)=false:=zAg he;rw[zAe he];repeat' first|(refine gS ?_;simp only[go_sem,hd])|refine gA ?_|(refine gD ?_ ?_<;>intro h<;>try exact aA h)|fail
  exact dY (aL3 true true true true true true true true true co0 e)
theorem aL4{n:Nat}{H:AHeap}(f1 f2 f3 f4 f5 f6 f7 f9:Bool)(x:Cor){t:AV}(h:Frz n H t (.sl false (x.ths.map thr))):
  Frz n H (kE (.sl f1 (x.m.log.entries.map iB)) (.sl f2 (x.m.log.nodes.map ndA)) (.sl f3 (x.m.snaps.map iG)) (.sl f4 (x.m.watches.map dJ)) (.sl f5 (x.t.held.map hdA)) (.sl f6 (x.t.waits.map hdA)) (.sl f7 (x.g.waits.map wtA)) t (.sl f9 (x.ops.map opA)) x) (eM x):=by
 refine .agg _ _ rfl ?_;repeat' first|exact bN|refine aT ?_ ?_|exact .cl _ (.int _ _)|exact h|exact Sim.frz (.sl _ _) (by simp only[go_sem])
theorem sH(f1 f2 f3 f4 f5 f6 f7 f8 f9:Bool)(x:Cor)(c:Cal)(hn:x.ths.length≤1000)(H:AHeap):bH Tryz.prog 17 [iN f1 f2 f3 f4 f5 f6 f7 f8 f9 x,dS c] H (.tup [eM (eC x c).1,.int .i64 (eC x c).2.1,.int .i64 (eC x c).2.2]):=by
 refine fO Tryz.func17 ?_;unfold eC;by_cases h40:(40:Int)≤(x.ths.length:Int)
 ·have d:decide ((40:Int)≤(x.ths.length:Int))=true:=zAj h40;rw[zAl h40];repeat' first|(refine gS ?_;simp only[go_sem,iN,kE,dS,d])|refine gA ?_|(refine gD ?_ ?_<;>intro h<;>try exact aA h)|fail
  exact dY (aPo f1 f2 f3 f4 f5 f6 f7 f8 f9 x 0 193)
 ·have d:decide ((40:Int)≤(x.ths.length:Int))=false:=zAg h40;rw[zAe h40];repeat' first|((first|refine mx [5] zU ?_|refine gS ?_);simp only[go_sem,iN,kE,dS,d])|refine gA ?_|(refine gD ?_ ?_<;>intro h<;>try exact aA h)|fail
  refine dX (aBx f8 x.ths (by omega) _) (cO) ?_
  have hfl:=aU (enc:=thr) (s:=18) (fun _=>rfl) x.ths
  simp only[go_sem,hfl];repeat' first|(refine gS ?_;simp only[go_sem,hfl])|refine gA ?_|(refine gD ?_ ?_<;>intro h<;>try exact aA h)|fail
  refine⟨⟨fun e he=>by rw[he];rfl,by omega⟩,?_⟩
  repeat' first|(refine gS ?_;simp only[go_sem,hfl])|refine gA ?_|(refine gD ?_ ?_<;>intro h<;>try exact aA h)|fail
  refine⟨_,.tup [eM {x with time:=IntKind.i64.wrap (x.time+1),ths:=x.ths++[{th0 c with begin_:=IntKind.i64.wrap (x.time+1)}]},.int .i64 x.ths.length,.int .i64 0],rfl,.tup _ _ rfl (aT (aL4 f1 f2 f3 f4 f5 f6 f7 f9 {x with time:=IntKind.i64.wrap (x.time+1),ths:=x.ths++[{th0 c with begin_:=IntKind.i64.wrap (x.time+1)}]} ?_) (aT (.cl _ (.int _ _)) (aT (.cl _ (.int _ _)) bN))),rfl⟩
  refine aHs (by omega) (by simp only[go_sem];rfl) (by simp) (by simp only[zAa,hfl,zAc,zAv];omega) (fun _=>rfl) ?_
  rw[cB];refine aEC (eY (fun x=>by simp only[go_sem]) _) ?_
  repeat' first|exact bN|refine aT ?_ ?_|exact .cl _ (.int _ _)|exact .cl _ (.bool _)|exact .cl _ (.str _)|exact .slw _ _ ((Pur.sl true [] (fun _ h=>by cases h)).cl _)
end
section
structure DropS (H:AHeap) (t:Tbl) (n:Int) (f1 f2:Bool) (q:Nat) (s:Tbl×List Hld) (G:AHeap):Prop where
 hq:q≤t.held.length
 hs:HallS (H.length+6) (H.length+4) (H.length+5) 1 1 t.held.length t.waits.length s.1 G
 hn:hget G (H.length+1)=.cells 0 [.int .i64 n]
 ht:hget G (H.length+2)=.cells 0 [.sl true [],.sl true []]
 hp:hget G (H.length+7)=.cells (s.2.length+1) (flA hdA s.2)
 pre:∀j,j<H.length→hget G j=hget H j
 len:H.length+8≤G.length
 pl:s.2.length≤q
 run:dropF n (t.held.drop q) s=dropT t n
theorem HallS.app{p ih iw vh vw lh lw:Nat}{t:Tbl}{G:AHeap}(h:HallS p ih iw vh vw lh lw t G)(L:AHeap):HallS p ih iw vh vw lh lw t (G++L):=by
 obtain⟨r1,a1,a2⟩:=h.h1;obtain⟨r2,b1,b2⟩:=h.h2;exact⟨aD h.hp trivial L,⟨r1,aD a1 trivial L,a2⟩,⟨r2,aD b1 trivial L,b2⟩⟩
theorem HallS.put{p ih iw vh vw lh lw:Nat}{t:Tbl}{G:AHeap}(h:HallS p ih iw vh vw lh lw t G){i:Nat}(h1:i≠p)(h2:i≠ih)(h3:i≠iw)(b:ABlk):HallS p ih iw vh vw lh lw t (aB G i b):=by
 obtain⟨r1,a1,a2⟩:=h.h1;obtain⟨r2,b1,b2⟩:=h.h2;exact⟨aH h.hp h1 _,⟨r1,aH a1 h2 _,a2⟩,⟨r2,aH b1 h3 _,b2⟩⟩
theorem oZ{H M:AHeap}(h:∀j,j<H.length→hget M j=hget H j)(hl:H.length≤M.length)(L:AHeap):∀j,j<H.length→hget (M++L) j=hget H j:=fun j hj=>by
 rw[←h j hj];simp only[hget,zAh];rw[zAt (by omega)]
theorem aL5(f1 f2:Bool)(t:Tbl)(n:Int)(h1:t.held.length≤1000000)(h2:t.waits.length≤1000000)(H:AHeap):bH Tryz.prog 102 [mP f1 f2 t,.int .i64 n] H (.tup [mP false false (dropT t n).1,.sl false ((dropT t n).2.map hdA)]):=by
 refine fO Tryz.func102 ?_;have hen:=aBv f1 f2 t h1 h2;simp only[mP]at hen;repeat' first|(refine gS ?_;simp only[go_sem,mP])|refine gA ?_|(refine gD ?_ ?_<;>intro h<;>try exact aA h)|fail
 obtain⟨H0,hH0⟩:∃H0,H++[ABlk.cells 0 [.sl f1 (t.held.map hdA),.sl f2 (t.waits.map hdA)],ABlk.cells 0 [.int .i64 n],ABlk.cells 0 [.sl true [],.sl true []]]=H0:=⟨_,rfl⟩;rw[hH0];have hl0:H0.length=H.length+3:=by rw[←hH0];simp
 have a0:hget H0 H.length=.cells 0 [.sl f1 (t.held.map hdA),.sl f2 (t.waits.map hdA)]:=by rw[←hH0];simp only[go_sem]
 have a1:hget H0 (H.length+1)=.cells 0 [.int .i64 n]:=by rw[←hH0];simp only[go_sem]
 have a2:hget H0 (H.length+2)=.cells 0 [.sl true [],.sl true []]:=by rw[←hH0];simp only[go_sem]
 refine aR (hen _) (cO) ?_;rintro v H' ⟨rfl,rfl⟩;have hs:=aLZ f1 f2 t H0;have a0:=aD a0 trivial (nU H0.length f1 f2 t);have a1:=aD a1 trivial (nU H0.length f1 f2 t);have a2:=aD a2 trivial (nU H0.length f1 f2 t);have hl1:(H0++nU H0.length f1 f2 t).length=H.length+7:=by rw[zAa,hl0];rfl
 have hpre:∀j,j<H.length→hget (H0++nU H0.length f1 f2 t) j=hget H j:=fun j hj=>by rw[←hH0,zAr];simp only[hget,zAh];rw[zAt hj]
 obtain⟨G,hG⟩:∃G,H0++nU H0.length f1 f2 t=G:=⟨_,rfl⟩;rw[hG]at hs a0 a1 a2 hl1 hpre ⊢;rw[hl0]at hs;obtain⟨q1,⟨r1,q2,q2l,q2p⟩,⟨r2,q3,q3l,q3p⟩⟩:HallS (H.length+6) (H.length+4) (H.length+5) 1 1 t.held.length t.waits.length t G:=hs;have hr2:r2=[]:=by
  have e1:=aU (enc:=hdA) (s:=2) (fun _=>rfl) t.waits
  rw[zAa,e1]at q3l;exact zAE (by omega)
 subst hr2;rw[zAd]at q3;simp only[go_sem];have b1:=aG q1 trivial;repeat' first|(refine gS ?_;simp only[go_sem,hl0,q1,b1])|refine gA ?_|(refine gD ?_ ?_<;>intro h<;>try exact aA h)|fail
 refine aR (aPn t.waits (fun w=>decide (w.thr=n)) (H.length+5) 1 t.waits.length t.waits.length rfl (zAf _) (by omega) (fun G'=>hget G' (H.length+1)=.cells 0 [.int .i64 n]) (fun G' b h=>aH h (by omega) b) (fun G' L h=>aD h trivial L) G q3 (fn:=.func 137) (fs:=[]) (cs:=[.ref (H.length+1) 0 0]) (fun x G' hg=>.inl ⟨cO,aL1 hg x⟩) a1) (cO) ?_
 rintro v H' ⟨rest,rfl,rfl,hrl,hrp⟩;have i5:=aV q3 trivial;have i6:=aV q1 trivial;obtain⟨W,hW⟩:∃W,W=t.waits.filter fun w=> !decide (w.thr=n):=⟨_,rfl⟩
 rw[←hW]at hrl ⊢;have hWl:W.length≤t.waits.length:=by rw[hW];exact zA2 ..
 obtain⟨G1,hG1⟩:∃G1,aB G (H.length+5) (.cells 1 (flA hdA W++rest))=G1:=⟨_,rfl⟩;have p1:hget G1 (H.length+6)=.cells 0 [.osl 2 (H.length+4) 1 0 t.held.length t.held.length,.osl 2 (H.length+5) 1 0 t.waits.length t.waits.length]:=by rw[←hG1];exact aH q1 (by omega) _
 rw[hG1];have z0:∀X,hget (aB G1 (H.length+6) X) H.length=.cells 0 [.sl f1 (t.held.map hdA),.sl f2 (t.waits.map hdA)]:=fun X=>by rw[←hG1];exact aH (aH a0 (by omega) _) (by omega) _
 simp only[go_sem];repeat' first|(refine gS ?_;simp only[go_sem,p1,z0])|refine gA ?_|(refine gD ?_ ?_<;>intro h<;>try exact aA h)|fail
 obtain⟨G2,hG2⟩:∃G2,aB G1 (H.length+6) (.cells 0 [.osl 2 (H.length+4) 1 0 t.held.length t.held.length,.osl 2 (H.length+5) 1 0 W.length t.waits.length])=G2:=⟨_,rfl⟩;have hl2:G2.length=H.length+7:=by rw[←hG2,aC,←hG1,aC,hl1]
 have m1:∀{j b},hget G j=b→j≠H.length+5→j≠H.length+6→hget G2 j=b:=fun h e1 e2=>by rw[←hG2,←hG1];exact aH (aH h (by omega) _) (by omega) _
 have hs2:HallS (H.length+6) (H.length+4) (H.length+5) 1 1 t.held.length t.waits.length ⟨t.held,W⟩ G2:=by
  refine⟨by rw[←hG2];exact aX (by rw[←hG1,aC];exact i6) _,⟨r1,m1 q2 (by omega) (by omega),q2l,q2p⟩,⟨rest,?_,?_,hrp⟩⟩
  ·rw[←hG2];refine aH ?_ (by omega) _;rw[←hG1];exact aX i5 _
  ·rw[zAa,aU (s:=2) (fun _=>rfl),hrl];simp only;omega
 rw[hG2];have c0:=m1 a0 (by omega) (by omega)
 have c1:=m1 a1 (by omega) (by omega)
 have c2:=m1 a2 (by omega) (by omega)
 refine jR 8 2 rfl ?_;rw[hl2];refine aI (ι:=Nat×(Tbl×List Hld)×AHeap) (fun s=>[(3,.ref (H.length+1) 0 0),(4,.ref (H.length+2) 0 0),(6,.ref (H.length+6) 0 0),(7,.func (.func 95) [.ref (H.length+6) 0 0] []),(8,.osl 2 (H.length+7) (s.2.1.2.length+1) 0 s.2.1.2.length s.2.1.2.length),(29,.sl f1 (t.held.map hdA)),(30,.int .i64 t.held.length),(31,.int .i64 s.1)])
  (fun s=>s.2.2) (fun s=>DropS H t n f1 f2 s.1 s.2.1 s.2.2) (fun s=>t.held.length-s.1) (0,(⟨t.held,W⟩,[]),G2++[.cells 1 []]) ?_ ?_ rfl ?_
 ·refine⟨zAo _,hs2.app _,aD c1 trivial _,aD c2 trivial _,?_,oZ (fun j hj=>?_) (by omega) _,?_,zAf _,by rw[hW];rfl⟩
  ·rw[←hl2];exact eZ _ _
  ·rw[←hpre j hj,←hG2,←hG1,aY (by omega),aY (by omega)]
  ·rw[zAa,hl2];simp
 ·simp[go_sem]
 rintro⟨q,⟨tb,ps⟩,M⟩ hd;simp only at hd ⊢;obtain⟨w1,w2,w3,w4,w5,w6,w7,w8,w9⟩:=hd;simp only at w2 w3 w4 w5 w6 w7 w8;by_cases hlt:q<t.held.length
 ·have hli:decide ((q:Int)<(t.held.length:Int))=true:=dT;have hp:=aN hdA hlt;have hw:=aS hlt (by omega)
  rw[zAi hlt]at w9;unfold dropF at w9;have v3:=aG w3 trivial;by_cases he:t.held[q].thr=n
  ·rw[zAl he]at w9;have de:decide (t.held[q].thr=n)=true:=zAj he;have den:(!decide (t.held[q].thr=n))=false:=by rw[de];rfl
   repeat' first|(refine gS ?_;simp only[go_sem,hli,hp,hdA,w3,v3,de,den])|refine gA ?_|(refine gD ?_ ?_<;>intro h<;>try exact aA h)|fail
   obtain⟨M1,hM1⟩:∃M1,M++[ABlk.cells 0 [.int .i64 t.held[q].lock,.int .i64 t.held[q].thr]]=M1:=⟨_,rfl⟩;have w2:=w2.app [ABlk.cells 0 [.int .i64 t.held[q].lock,.int .i64 t.held[q].thr]];have w3:=aD w3 trivial [ABlk.cells 0 [.int .i64 t.held[q].lock,.int .i64 t.held[q].thr]];have w4:=aD w4 trivial [ABlk.cells 0 [.int .i64 t.held[q].lock,.int .i64 t.held[q].thr]];have w5:=aD w5 trivial [ABlk.cells 0 [.int .i64 t.held[q].lock,.int .i64 t.held[q].thr]];have w6:=oZ w6 (by omega) [ABlk.cells 0 [.int .i64 t.held[q].lock,.int .i64 t.held[q].thr]]
   have w10:hget (M++[ABlk.cells 0 [.int .i64 t.held[q].lock,.int .i64 t.held[q].thr]]) M.length=.cells 0 [.int .i64 t.held[q].lock,.int .i64 t.held[q].thr]:=eZ _ _;have w11:M1.length=M.length+1:=by rw[←hM1];simp
   rw[hM1]at w2 w3 w4 w5 w6 w10 ⊢;refine gR (first:=[.ref (H.length+6) 0 0]) (cap:=[]) (aHw w2 (by omega) (by omega) (by omega) h1 h2 n t.held[q].lock) cO ?_
   rintro v H' ⟨rfl,hs',hl',ho'⟩;unfold aEF;have y3:hget H' (H.length+1)=_:=(ho' _ (by omega) (by omega) (by omega)).trans w3
   have y4:hget H' (H.length+2)=_:=(ho' _ (by omega) (by omega) (by omega)).trans w4
   have y5:hget H' (H.length+7)=_:=(ho' _ (by omega) (by omega) (by omega)).trans w5
   have y6:∀j,j<H.length→hget H' j=hget H j:=fun j hj=>(ho' _ (by omega) (by omega) (by omega)).trans (w6 j hj)
   have y10:hget H' M.length=_:=(ho' _ (by omega) (by omega) (by omega)).trans w10
   simp only[go_sem];cases hf:(bX tb n t.held[q].lock).2 with
   |none=>
    rw[hf]at w9;simp only at w9;simp only[zCw,zB4];repeat' first|(refine gS ?_;simp only[go_sem])|refine gA ?_|(refine gD ?_ ?_<;>intro h<;>try exact aA h)|fail
    exact⟨(q+1,((bX tb n t.held[q].lock).1,ps),H'),⟨hlt,hs',y3,y4,y5,y6,by simp only;omega,by simp only;omega,w9⟩,by simp only;omega,⟨⟨rfl,zAx _ hw⟩,rfl⟩⟩
   |some j=>
    rw[hf]at w9;simp only at w9;simp only[zBh,zBW];have hfl:=aU (enc:=hdA) (s:=2) (fun _=>rfl) ps
    have y11:=aG y5 trivial;have y12:=cC y5 trivial;have hne:(ps.length * 16+16≤140737488355328)=True:=zAC (by omega)
    repeat' first|(refine gS ?_;simp only[go_sem,y5,y10,hfl])|refine gA ?_|(refine gD ?_ ?_<;>intro h<;>try exact aA h)|fail
    refine⟨⟨fun e he=>by rw[he];rfl,by omega⟩,?_⟩
    repeat' first|(refine gS ?_;simp only[go_sem])|refine gA ?_|(refine gD ?_ ?_<;>intro h<;>try exact aA h)|fail
    exact⟨(q+1,((bX tb n t.held[q].lock).1,ps++[⟨t.held[q].lock,j⟩]),aB H' (H.length+7) (.cells (ps.length+2) (flA hdA (ps++[⟨t.held[q].lock,j⟩])))),
     ⟨hlt,hs'.put (by omega) (by omega) (by omega) _,aH y3 (by omega) _,aH y4 (by omega) _,by simp only[zAa,zAc,zAv];exact aX (by omega) _,fun j hj=>by rw[aY (by omega),y6 j hj],by simp only[aC];omega,by simp only[zAa,zAc,zAv];omega,w9⟩,by simp only;omega,⟨⟨by simp only[zAa,zAc,zAv],zAx _ hw⟩,by rw[cB];rfl⟩⟩
  ·rw[zAe he]at w9;have de:decide (t.held[q].thr=n)=false:=zAg he;have den:(!decide (t.held[q].thr=n))=true:=by rw[de];rfl
   repeat' first|(refine gS ?_;simp only[go_sem,hli,hp,hdA,w3,v3,de,den])|refine gA ?_|(refine gD ?_ ?_<;>intro h<;>try exact aA h)|fail
   exact⟨(q+1,(tb,ps),M++[.cells 0 [.int .i64 t.held[q].lock,.int .i64 t.held[q].thr]]),⟨hlt,w2.app _,aD w3 trivial _,aD w4 trivial _,aD w5 trivial _,oZ w6 (by omega) _,by simp only[zAa];omega,by simp only;omega,w9⟩,by simp only;omega,⟨⟨rfl,zAx _ hw⟩,rfl⟩⟩
 ·have hqe:q=t.held.length:=by omega
  subst hqe;have hli:decide ((t.held.length:Int)<(t.held.length:Int))=false:=by simp
  rw[zBp]at w9;unfold dropF at w9;obtain⟨q1,⟨r1,q2, -, -⟩,⟨r2,q3, -, -⟩⟩:=w2;have g8:=fun v X=>aX (aV w4 trivial) (.cells v X)
  repeat' first|(refine gS ?_;simp only[go_sem,hli,q1,w4,g8])|refine gA ?_|(refine gD ?_ ?_<;>intro h<;>try exact aA h)|fail
  obtain⟨X,hX⟩:∃X,aB M (H.length+2) (ABlk.cells 0 [.osl 2 (H.length+4) 1 0 tb.held.length t.held.length,.osl 2 (H.length+5) 1 0 tb.waits.length t.waits.length])=X:=⟨_,rfl⟩;have x2:hget X (H.length+4)=.cells 1 (flA hdA tb.held++r1):=by rw[←hX];exact aH q2 (by omega) _
  have x3:hget X (H.length+5)=.cells 1 (flA hdA tb.waits++r2):=by rw[←hX];exact aH q3 (by omega) _
  have x5:hget X (H.length+7)=.cells (ps.length+1) (flA hdA ps++[]):=by rw[←hX,zAd];exact aH w5 (by omega) _
  obtain⟨L,hL⟩:=wO (H:=H) (H':=X) (by rw[←hX,aC];omega) fun j hj=>by rw[←hX,aY (by omega),w6 j hj]
  rw[hX,←w9];exact⟨L,.tup [mP false false tb,.sl false (ps.map hdA)],hL,.tup _ _ rfl (aT (.agg _ _ rfl (aT (wP _ (by omega) x2 rfl rfl) (aT (wP _ (by omega) x3 rfl rfl) bN))) (aT (wP _ (by omega) x5 rfl rfl) bN)),rfl⟩
end
section
theorem nW{α:Type}{enc:α→AV}{s:Nat}(hs:∀x,(enc x).cells.length=s){D:List α}{k f:Nat}{X:List AV}(h:k<D.length)(hf:f+X.length≤s)(y:α)(hy:(enc y).cells=bG (enc D[k]).cells f X):bG (flA enc D) (k * s+f) X=flA enc (D.set k y):=by
 have hl:=aU hs (D.take k);rw[zAL,zCb (by omega)]at hl
 have e:D=D.take k++(D[k]::D.drop (k+1)):=by rw[←zAi h,zAS]
 have e2:flA enc D=flA enc (D.take k)++((enc D[k]).cells++flA enc (D.drop (k+1))):=by rw[←fG,←cB,←e]
 rw[zBJ,zAl h,cB,fG,hy,e2];have hc:=hs D[k];have key:∀(A B C:List AV),A.length=k * s→f+X.length≤C.length→bG (A++(C++B)) (k * s+f) X=A++(bG C f X++B):=fun A B C hA hC=>by
  unfold bG;rw[←hA,List.take_length_add_append,zCd,List.drop_length_add_append,List.take_append_of_le_length (by omega),List.drop_append_of_le_length hC]
  simp only[zAr]
 exact key _ _ _ hl (by rw[hc];exact hf)
theorem aEH{n up:Int}:∀{l:List Wai} {a:Nat} (ha:a<l.length),cQ (fun w:Wai=>decide (w.thr=n)) l=(a:Int)→aC8 n up l=l.set a ⟨l[a].thr,max l[a].upto up⟩
 |w::l,a,ha,h=>by
  unfold cQ at h;unfold aC8;by_cases e:w.thr=n
  ·rw[zAl (by simpa using e)]at h
   have:a=0:=by omega
   subst this;rw[zAl e];rfl
  ·rw[zAe (by simpa using e)]at h
   rw[zAe e];have:=vG (fun w:Wai=>decide (w.thr=n)) l
   split at h
   ·omega
   ·obtain⟨a,rfl⟩:∃b,a=b+1:=⟨a-1,by omega⟩
    rw[aEH (a:=a) (by simpa using ha) (by omega)]
    rfl
def jM:List Pl:=[.pure 0,.pure 0,.free,.pure 0,.pure 0,.free,.pure 0,.pure 0,.pure 0,.free,.pure 0,.pure 0,.pure 0,.eff [false,true,false,false,false,false,false,false,false,false]]
def sI:List Pl:=[.free,.free,.pure 0,.pure 0,.pure 0,.free,.eff [true,false,true],.pure 0,.eff [false,false,false]]
attribute [go_sem] jM sI
theorem aEI(b:Bool)(l:List Wai)(hl:l.length≤1073741824)(H:AHeap):
  ACalls Tryz.prog 52 [.sl b (l.map wtA)] H (fun v H'=>v=.osl 2 H.length 1 0 l.length l.length∧H'=H++[.cells 1 (flA wtA l)]):=by
 refine aQ Tryz.func52 ?_;have hcl:∀n,ClB n (.cells 1 (flA wtA l)):=fun n=>rR (fun x=>by simp only[go_sem]) n 1 l
 have fin:∀v H',v=.osl 2 H.length 1 0 l.length l.length→H'=H++[.cells 1 (flA wtA l)]→∃H1 L y,H'=H1++L∧H.length≤H1.length∧(∀(i:Nat) (b:ABlk),H1[i]?=some b→H[i]?=some b∨ClB H1.length b)∧Frz H1.length H' v y∧
   y=.osl 2 H.length 1 0 l.length l.length∧H1=H++[.cells 1 (flA wtA l)]:=by
  rintro v H' rfl rfl;exact⟨_,[],_,(zAd _).symm,by simp,jU fun b hb=>by(rw[zAq]at hb;subst hb;exact hcl _),.cl _ (.osl _ _ _ _ _ _ (by simp)),rfl,rfl⟩
 have hfl:List.flatMap AV.cells (l.map wtA)=flA wtA l:=rfl;repeat' first|(refine gS ?_;simp only[go_sem])|refine gA ?_|(refine gD ?_ ?_<;>intro h<;>try exact aA h)|fail
 intro c hc;cases c with
 |true=>
  have hnil:l=[]:=by
   cases l with
   |nil=>rfl
   |cons x l=>exact absurd (hc (by simp)) (by decide)
  subst hnil;repeat' first|(refine gS ?_;simp only[go_sem])|refine gA ?_|fail
  refine eJ rfl (fun _=>?_) (fun h=>by cases h)
  refine pF ?_;refine dR rfl ?_;simp only[go_sem];refine jR 2 2 rfl ?_;repeat' first|(refine gS ?_;simp only[go_sem])|refine gA ?_|(refine gD ?_ ?_<;>intro h<;>try exact aA h)|fail
  exact fin _ _ rfl rfl
 |false=>
  clear hc;have hc1:(∀e∈l.map wtA,e.cells.length=2)=True:=zAC fun e he=>by(obtain⟨x,_,rfl⟩:=zAm.1 he;rfl)
  have hl8:(l.length * 16≤140737488355328)=True:=zAC (by omega)
  repeat' first|(refine gS ?_;simp only[go_sem,hc1,hfl,hl8,zCW,true_or])|refine gA ?_|(refine gD ?_ ?_<;>intro h<;>try exact aA h)|fail
  exact fin _ _ rfl rfl
theorem aHA(l:List Wai)(p:Wai→Bool)(i v lc n:Nat)(hn:n=l.length)(hlc:n≤lc)(hl:n≤1073741824){fn:Fn}{fs cs:List AV}(H:AHeap)(hh:hget H i=.cells v (flA wtA l))
  (hf:∀x,ACall Tryz.prog (.func fn fs cs) [wtA x] H (fun r G'=>r=.bool (p x)∧G'=H)):
  bH Tryz.prog 72 [.osl 2 i v 0 n lc,.func fn fs cs] H (.int .i64 (cQ p l)):=by
 refine fO Tryz.func72 ?_;have hln:(flA wtA l).length=n * 2:=by rw[aU (s:=2) (fun _=>rfl),hn]
 have hf':=hf;simp only[wtA]at hf';repeat' first|(refine gS ?_;simp only[go_sem,hh])|refine gA ?_|(refine gD ?_ ?_<;>intro h<;>try exact aA h)|fail
 refine aI (ι:=Nat) (fun k=>[(0,.osl 2 i v 0 n lc),(1,.func fn fs cs),(7,.int .i64 n),(8,.int .i64 k)]) (fun _=>H) (fun k=>k≤n∧∀q (hk:q<k) (hk2:q<l.length),p l[q]=false) (fun k=>n-k) 0 ⟨zAo _,fun q hk=>by omega⟩ ?_ rfl ?_
 ·simp[go_sem]
 ·rintro k ⟨hk,hno⟩;by_cases hlt:k<l.length
  ·have hp:=iM (enc:=wtA) (s:=2) (fun _=>rfl) hlt
   simp only[wtA,AV.cells]at hp;have hli:decide ((k:Int)<(n:Int))=true:=dT;have hw:=aS hlt (by omega)
   repeat' first|(refine gS ?_;simp only[go_sem,hh,hli,hp,hln])|refine gA ?_|(refine gD ?_ ?_<;>intro h<;>try exact aA h)|fail
   refine iV (hf' l[k]) ?_;simp only[go_sem];repeat' first|(refine gS ?_;simp only[go_sem])|refine gA ?_|(refine gD ?_ ?_<;>intro h<;>try exact aA h)|fail
   ·exact cL (.of (by rw[eV p l k hlt (fun q hq=>hno q hq (by omega)) (by assumption)]))
   ·refine⟨k+1,⟨by omega,fun q hq hq2=>?_⟩,by omega,zAx _ hw⟩
    by_cases e:q=k
    ·subst e;assumption
    ·exact hno q (by omega) (by omega)
  ·have hi':k=n:=by omega
   subst hi';have hli:decide ((k:Int)<(k:Int))=false:=by simp
   repeat' first|(refine gS ?_;simp only[go_sem,hh,hli])|refine gA ?_|(refine gD ?_ ?_<;>intro h<;>try exact aA h)|fail
   exact cL (.of (by rw[eW p l fun q hk=>hno q (by omega) hk]))
theorem aL6{i:Nat}{n:Int}{G:AHeap}(hi:hget G i=.cells 0 [.int .i64 n])(s:Wai):bH Tryz.prog 104 [wtA s,.ref i 0 0] G (.bool (decide (s.thr=n))):=by
 refine fO Tryz.func104 ?_;have hi1:=aG hi trivial;repeat' first|(refine gS ?_;simp only[go_sem,wtA,hi,hi1])|refine gA ?_|(refine gD ?_ ?_<;>intro h<;>try exact aA h)|fail
 exact dY (.refl _)
theorem aDn{n i v k lc:Nat}{H:AHeap}{cs r:List AV}(D:List Wai)(hn:n≤i)(hh:hget H i=.cells v cs)(hc:cs=flA wtA D++r)(hk:D.length=k):Frz n H (.osl 2 i v 0 k lc) (.sl false (D.map wtA)):=
 iT (es:=D.map wtA) (rest:=r) hn hh hc (by rw[zAn,hk]) (fun e he=>by(obtain⟨x, -,rfl⟩:=zAm.1 he;rfl)) (fun e he=>by(obtain⟨x, -,rfl⟩:=zAm.1 he;simp only[go_sem]))
theorem aPp(f:Bool)(g:Grp)(n up:Int)(h1:g.waits.length≤1000000)(H:AHeap):bH Tryz.prog 81 [gpA f g,.int .i64 n,.int .i64 up] H (.tup [gpA false (zJ g n up).1,.bool (zJ g n up).2]):=by
 refine fO Tryz.func81 ?_;have hfl:=aU (enc:=wtA) (s:=2) (fun _=>rfl) g.waits
 repeat' first|((first|refine mx [8] jM ?_|refine gS ?_);simp only[go_sem,gpA])|refine gA ?_|(refine gD ?_ ?_<;>intro h<;>try exact aA h)|fail
 refine aR (aEI f g.waits (by omega) _) (cO) ?_
 rintro v H' ⟨rfl,rfl⟩;simp only[go_sem];unfold zJ;by_cases hk:up≤g.kept
 ·have dk:decide (up≤g.kept)=true:=zAj hk;rw[zAl hk];repeat' first|((first|refine mx [8] jM ?_|refine gS ?_);simp only[go_sem,dk])|refine gA ?_|(refine gD ?_ ?_<;>intro h<;>try exact aA h)|fail
  exact⟨_,.tup [gpA false g,.bool true],rfl,.tup _ _ rfl (aT (.agg _ _ rfl (aT (.cl _ (.int _ _)) (aT (aDn (r:=[]) _ (by omega) (by simp only[go_sem]) (zAd _).symm rfl) bN))) (aT (.cl _ (.bool _)) bN)),rfl⟩
 ·have dk:decide (up≤g.kept)=false:=zAg hk;rw[zAe hk];repeat' first|((first|refine mx [8] jM ?_|refine gS ?_);simp only[go_sem,dk])|refine gA ?_|(refine gD ?_ ?_<;>intro h<;>try exact aA h)|fail
  refine aZ (aHA g.waits (fun w=>decide (w.thr=n)) (H.length+3) 1 g.waits.length g.waits.length rfl (zAf _) (by omega) _ (by simp only[go_sem]) fun x=>.inl ⟨cO,aL6 (by simp only[go_sem]) x⟩) cO ?_
  rcases rY (fun w:Wai=>decide (w.thr=n)) g.waits with⟨q1,q2⟩|⟨a,ha,q1,q2⟩
  ·have hin:oT g n=false:=by
    unfold oT;rw[zCa];exact zBi.1 q2
   rw[q1];simp only[hin,zAz,zA3,go_sem];have d1:decide ((-1:Int)<0)=true:=rfl;repeat' first|((first|refine mx [8] jM ?_|refine gS ?_);simp only[go_sem,d1,hfl])|refine gA ?_|(refine gD ?_ ?_<;>intro h<;>try exact aA h)|fail
   refine⟨⟨fun e he=>by rw[he];rfl,by omega⟩,?_⟩
   repeat' first|(refine gS ?_;simp only[go_sem])|refine gA ?_|(refine gD ?_ ?_<;>intro h<;>try exact aA h)|fail
   exact⟨_,.tup [gpA false ⟨g.kept,g.waits++[⟨n,up⟩]⟩,.bool false],rfl,.tup _ _ rfl (aT (.agg _ _ rfl (aT (.cl _ (.int _ _)) (aT (aDn (r:=[]) (cs:=flA wtA g.waits++[.int .i64 n,.int .i64 up]) (g.waits++[⟨n,up⟩]) (by omega) (by simp only[go_sem]) (by rw[cB,zAd];rfl) (by simp)) bN))) (aT (.cl _ (.bool _)) bN)),rfl⟩
  ·have hin:oT g n=true:=zBX.2 ⟨_,zAK ha,by have:=zBz q2;exact this⟩
   rw[q1];have d1:decide ((a:Int)<0)=false:=dF;have hat:=iM (enc:=wtA) (s:=2) (fun _=>rfl) ha
   simp only[wtA,AV.cells]at hat;simp only[hin,zBc,go_sem];have hi1:a * 2+2≤g.waits.length * 2:=by omega
   have hi2:a * 2+1<g.waits.length * 2:=by omega
   have hlt:decide ((a:Int)<(g.waits.length:Int))=true:=dT;have hra:=aEH (up:=up) ha q1;clear q1 q2;have hgv:(flA wtA g.waits).getD (a * 2+1) .top=.int .i64 g.waits[a].upto:=by
    unfold flA;rw[zAh,kT (s:=2) (es:=g.waits.map wtA) (k:=a) (j:=1) (e:=wtA g.waits[a]) (x:=.int .i64 g.waits[a].upto) (fun e he=>by(obtain⟨x, -,rfl⟩:=zAm.1 he;rfl)) (by rw[zAP,zAb ha];rfl) rfl]
    rfl
   have hput:=nW (enc:=wtA) (s:=2) (f:=1) (X:=[.int .i64 (max g.waits[a].upto up)]) (fun _=>rfl) ha (zAf 2) ⟨g.waits[a].thr,max g.waits[a].upto up⟩ rfl
   have hz:((0:Int)≤(a:Int)∧(a:Int)<(g.waits.length:Int))=True:=zAC ⟨by omega,by omega⟩
   have hi2:(a * 2+1<g.waits.length * 2)=True:=zAC hi2;repeat' first|((first|refine mx [8] jM ?_|refine gS ?_);simp only[go_sem,d1,hfl,hgv,hput,hz,hi2])|refine gA ?_|(refine gD ?_ ?_<;>intro h<;>try exact aA h)|fail
   rw[hra];exact⟨_,.tup [gpA false ⟨g.kept,g.waits.set a ⟨g.waits[a].thr,max g.waits[a].upto up⟩⟩,.bool false],rfl,.tup _ _ rfl (aT (.agg _ _ rfl (aT (.cl _ (.int _ _)) (aT (aDn (r:=[]) (g.waits.set a ⟨g.waits[a].thr,max g.waits[a].upto up⟩) (by omega) (by simp only[go_sem]) (zAd _).symm (by simp)) bN))) (aT (.cl _ (.bool _)) bN)),rfl⟩
structure PartS (i p b0 b1:Nat) (k:Int) (A B:List Wai) (G:AHeap):Prop where
 hi:∃w,hget G i=.cells 0 [.int .i64 k,w]
 hp:hget G p=.cells 0 [.osl 2 b0 (A.length+1) 0 A.length A.length,.osl 2 b1 (B.length+1) 0 B.length B.length]
 h0:hget G b0=.cells (A.length+1) (flA wtA A)
 h1:hget G b1=.cells (B.length+1) (flA wtA B)
theorem aL7{i p b0 b1:Nat}{k:Int}{A B:List Wai}{G:AHeap}(h:PartS i p b0 b1 k A B G)(d1:p≠b0)(d2:p≠b1)(d3:b0≠b1)(d4:i≠p)(d5:i≠b0)(d6:i≠b1)(lA:A.length≤1000000)(lB:B.length≤1000000)(w:Wai):
  ACalls Tryz.prog 73 [wtA w,.ref i 0 0,.ref p 0 0] G (fun v H'=>v=.tup []∧PartS i p b0 b1 k (if w.upto≤k then A else A++[w]) (if w.upto≤k then B++[w]else B) H'∧H'.length=G.length∧∀j,j≠p→j≠b0→j≠b1→hget H' j=hget G j):=by
 refine aO Tryz.func73 ?_;obtain⟨⟨ws,hi⟩,hp,h0,h1⟩:=h;have gi:=aG hi trivial;have gp:=aG hp trivial;have g0:=aG h0 trivial;have g1:=aG h1 trivial;have sp:=cC hp trivial;have s0:=cC h0 trivial;have s1:=cC h1 trivial;have fA:=aU (enc:=wtA) (s:=2) (fun _=>rfl) A
 have fB:=aU (enc:=wtA) (s:=2) (fun _=>rfl) B
 have lp:=aV hp trivial;have e0:∀b,b≠p→∀X L,hget (aB G b X++L) p=_:=fun b hb X L=>aD (aH hp hb X) trivial L
 have e1:∀b X L,hget (aB G b X++L) G.length=L.getD 0 .gone:=fun b X L=>iS (aC _ _ _)
 have e2:∀b X L Y,aB (aB G b X++L) p Y=aB (aB G b X) p Y++L:=fun b X L Y=>bD (by rw[aC];exact lp) L Y
 have e3:=e0 b0 (zBs d1);have e4:=e0 b1 (zBs d2);have l0:=aV h0 trivial;have l1:=aV h1 trivial;have li:=aV hi trivial;have fin:∀(b:Nat) (X Y:List AV) (v:Nat),(∀x∈X,Pur x)→(∀x∈Y,Cl G.length x)→∀(j:Nat) (c:ABlk),(aB (aB G b (.cells v X)) p (.cells 0 Y))[j]?=some c→G[j]?=some c∨ClB G.length c:=fun b X Y v hX hY j c hc=>(dW (H:=aB G b (.cells v X)) (i:=p) (b:=.cells 0 Y) hY j c hc).elim (fun h=>dW (b:=.cells v X) (fun x hx=>(hX x hx).cl _) j c h) .inr
 have hpur:∀(l:List Wai),∀x∈flA wtA l,Pur x:=fun l=>eY (fun x=>by simp only[go_sem]) l
 by_cases hk:w.upto≤k
 ·have dk:decide (w.upto≤k)=true:=zAj hk;simp only[zAl hk];repeat' first|((first|refine mx [4] sI ?_|refine gS ?_);simp only[go_sem,wtA,gi,gp,g0,g1,sp,s0,s1,fA,fB,dk,e1,e2,e3,e4])|refine gA ?_|(refine gD ?_ ?_<;>intro h<;>try exact aA h)|fail
  refine⟨⟨fun e he=>by rw[he];rfl,by omega⟩,by omega,by omega,?_⟩
  have ha:flA wtA (B++[w])=flA wtA B++[.int .i64 w.thr,.int .i64 w.upto]:=cB ..;refine⟨_,_,.tup [],rfl,by rw[aC,aC],fin b1 _ _ _ (by rw[←ha];exact hpur _) (fun x hx=>?_),.cl _ (.tup _ fun _ _ hx=>by simp at hx),rfl,⟨⟨ws,aH (aH hi (zBs d6) _) (zBs d4) _⟩,by rw[zAa];exact aX (by rw[aC];exact lp) _,aH (aH h0 (zBs d3) _) d1 _,by rw[ha,zAa];exact aH (aX l1 _) d2 _⟩,by rw[aC,aC],fun j x1 x2 x3=>by rw[aY (zBs x1),aY (zBs x3)]⟩
  simp only[zAs,zAH,zBv]at hx;rcases hx with rfl|rfl
  ·exact .osl _ _ _ _ _ _ l0
  ·exact .osl _ _ _ _ _ _ l1
 ·have dk:decide (w.upto≤k)=false:=zAg hk;simp only[zAe hk];repeat' first|((first|refine mx [4] sI ?_|refine gS ?_);simp only[go_sem,wtA,gi,gp,g0,g1,sp,s0,s1,fA,fB,dk,e1,e2,e3,e4])|refine gA ?_|(refine gD ?_ ?_<;>intro h<;>try exact aA h)|fail
  refine⟨⟨fun e he=>by rw[he];rfl,by omega⟩,by omega,by omega,?_⟩
  have ha:flA wtA (A++[w])=flA wtA A++[.int .i64 w.thr,.int .i64 w.upto]:=cB ..;refine⟨_,_,.tup [],rfl,by rw[aC,aC],fin b0 _ _ _ (by rw[←ha];exact hpur _) (fun x hx=>?_),.cl _ (.tup _ fun _ _ hx=>by simp at hx),rfl,⟨⟨ws,aH (aH hi (zBs d5) _) (zBs d4) _⟩,by rw[zAa];exact aX (by rw[aC];exact lp) _,by rw[ha,zAa];exact aH (aX l0 _) d1 _,aH (aH h1 d3 _) d2 _⟩,by rw[aC,aC],fun j x1 x2 x3=>by rw[aY (zBs x1),aY (zBs x2)]⟩
  simp only[zAs,zAH,zBv]at hx;rcases hx with rfl|rfl
  ·exact .osl _ _ _ _ _ _ l0
  ·exact .osl _ _ _ _ _ _ l1
end
end Go.Proofs.YtennnelammaapaaGreatDoor
