/- What the functions of this seat answer (34 of 38). No condition. -/
import Derived.Test.YtennnelammaapaaGreatDoorWorkBG
set_option linter.unusedSimpArgs false
set_option linter.unusedVariables false
set_option linter.unusedSectionVars false
set_option maxRecDepth 100000
set_option maxHeartbeats 16000000
namespace Go.Proofs.YtennnelammaapaaGreatDoor
section
theorem PartS.app{i p b0 b1:Nat}{k:Int}{A B:List Wai}{G:AHeap}(h:PartS i p b0 b1 k A B G)(L:AHeap):PartS i p b0 b1 k A B (G++L):=by
 obtain⟨w,hw⟩:=h.hi;exact⟨⟨w,aD hw trivial L⟩,aD h.hp trivial L,aD h.h0 trivial L,aD h.h1 trivial L⟩
structure PartL (H:AHeap) (f:Bool) (g:Grp) (K:Int) (q:Nat) (M:AHeap):Prop where
 hq:q≤g.waits.length
 hs:PartS H.length (H.length+2) (H.length+3) (H.length+4) K ((g.waits.take q).filter fun w=> !decide (w.upto≤K)) ((g.waits.take q).filter fun w=>decide (w.upto≤K)) M
 hi:hget M H.length=.cells 0 [.int .i64 K,.sl f (g.waits.map wtA)]
 ht:hget M (H.length+1)=.cells 0 [.int .i64 0,.sl true []]
 pre:∀j,j<H.length→hget M j=hget H j
 len:H.length+5≤M.length
theorem aPq(f:Bool)(g:Grp)(k:Int)(hl:g.waits.length≤1000000)(H:AHeap):bH Tryz.prog 54 [gpA f g,.int .i64 k] H (.tup [gpA false (aC9 g k).1,.sl false ((aC9 g k).2.map bK)]):=by
 refine fO Tryz.func54 ?_;repeat' first|(refine gS ?_;simp only[go_sem,gpA])|refine gA ?_|(refine gD ?_ ?_<;>intro h<;>try exact aA h)|fail
 obtain⟨K,hK⟩:∃K,K=max g.kept k:=⟨_,rfl⟩;unfold aC9;rw[←hK];refine rF (v:=0) (cs:=[.sl true [],.sl true []]) (H.length+2) 0 2 (by simp only[go_sem]) rfl ?_
 simp only[go_sem];refine rF (v:=0) (cs:=[.osl 2 (H.length+3) 1 0 0 0,.sl true []]) (H.length+2) 1 2 (by simp only[go_sem]) rfl ?_
 simp only[go_sem];refine aI (ι:=Nat×AHeap) (fun s=>[(2,.ref H.length 0 0),(4,.ref (H.length+1) 0 0),(6,.ref (H.length+2) 0 0),(7,.func (.func 73) [] [.ref H.length 0 0,.ref (H.length+2) 0 0]),(20,.sl f (g.waits.map wtA)),(21,.int .i64 g.waits.length),(22,.int .i64 s.1)])
  (fun s=>s.2) (fun s=>PartL H f g K s.1 s.2) (fun s=>g.waits.length-s.1) (0,H++[.cells 0 [.int .i64 K,.sl f (g.waits.map wtA)],.cells 0 [.int .i64 0,.sl true []],.cells 0 [.osl 2 (H.length+3) 1 0 0 0,.osl 2 (H.length+4) 1 0 0 0],.cells 1 [],.cells 1 []]) ?_ ?_ ?_ ?_
 ·refine⟨zAo _,⟨⟨_,by simp only[go_sem];rfl⟩,by simp only[go_sem];rfl,by simp only[go_sem];rfl,by simp only[go_sem];rfl⟩,by simp only[go_sem],by simp only[go_sem],oZ (M:=H) (fun _ _=>rfl) (zAf _) _,by simp⟩
 ·simp[go_sem]
 ·rfl
 rintro⟨q,M⟩ hd;simp only at hd ⊢;obtain⟨w1,w2,w3,w4,w5,w6⟩:=hd;by_cases hlt:q<g.waits.length
 ·have hli:decide ((q:Int)<(g.waits.length:Int))=true:=dT;have hp:=aN wtA hlt;have hw:=aS hlt (by omega)
  repeat' first|(refine gS ?_;simp only[go_sem,hli,hp,wtA])|refine gA ?_|(refine gD ?_ ?_<;>intro h<;>try exact aA h)|fail
  obtain⟨X,hX⟩:∃X,M++[ABlk.cells 0 [.int .i64 g.waits[q].thr,.int .i64 g.waits[q].upto]]=X:=⟨_,rfl⟩;have w2:=w2.app [ABlk.cells 0 [.int .i64 g.waits[q].thr,.int .i64 g.waits[q].upto]];have w3:=aD w3 trivial [ABlk.cells 0 [.int .i64 g.waits[q].thr,.int .i64 g.waits[q].upto]];have w4:=aD w4 trivial [ABlk.cells 0 [.int .i64 g.waits[q].thr,.int .i64 g.waits[q].upto]];have w5:=oZ w5 (by omega) [ABlk.cells 0 [.int .i64 g.waits[q].thr,.int .i64 g.waits[q].upto]]
  have w7:X.length=M.length+1:=by rw[←hX];simp
  have lA:∀p:Wai→Bool,((g.waits.take q).filter p).length≤1000000:=fun p=>by have:=zA2 p (g.waits.take q);rw[zAL]at this;omega
  rw[hX]at w2 w3 w4 w5 ⊢;refine gR (first:=[]) (cap:=[.ref H.length 0 0,.ref (H.length+2) 0 0]) (aL7 w2 (by omega) (by omega) (by omega) (by omega) (by omega) (by omega) (lA _) (lA _) g.waits[q]) cO ?_
  rintro v H' ⟨rfl,hs',hl',ho'⟩;have etk:g.waits.take (q+1)=g.waits.take q++[g.waits[q]]:=zAk hlt;simp only[go_sem];repeat' first|(refine gS ?_;simp only[go_sem])|refine gA ?_|(refine gD ?_ ?_<;>intro h<;>try exact aA h)|fail
  refine⟨(q+1,H'),⟨hlt,?_,(ho' _ (by omega) (by omega) (by omega)).trans w3,(ho' _ (by omega) (by omega) (by omega)).trans w4,fun j hj=>(ho' _ (by omega) (by omega) (by omega)).trans (w5 j hj),by simp only;omega⟩,by simp only;omega,⟨zAx _ hw,rfl⟩⟩
  simp only[etk,zAY];by_cases hk:g.waits[q].upto≤K
  ·simpa[hk]using hs'
  ·simpa[hk]using hs'
 ·have hqe:q=g.waits.length:=by omega
  subst hqe;have hli:decide ((g.waits.length:Int)<(g.waits.length:Int))=false:=by simp
  rw[zAD]at w2;obtain⟨A,hA⟩:∃A,A=g.waits.filter fun w=> !decide (w.upto≤K):=⟨_,rfl⟩
  obtain⟨B,hB⟩:∃B,B=g.waits.filter fun w=>decide (w.upto≤K):=⟨_,rfl⟩
  have lB:B.length≤1000000:=by rw[hB];exact zAO (zA2 ..) hl
  rw[←hA,←hB]at w2 ⊢;obtain⟨-,v1,v2,v3⟩:=w2;have u1:=aG v1 trivial;have u3:=aG v3 trivial;repeat' first|(refine gS ?_;simp only[go_sem,hli,v1,u1,v3,u3,aA3])|refine gA ?_|(refine gD ?_ ?_<;>intro h<;>try exact aA h)|fail
  refine aI (ι:=Nat×AHeap) (fun s=>[(2,.ref H.length 0 0),(4,.ref (H.length+1) 0 0),(6,.ref (H.length+2) 0 0),(10,.osl 1 M.length 1 0 B.length B.length),(35,.osl 2 (H.length+4) (B.length+1) 0 B.length B.length),(36,.int .i64 B.length),(37,.int .i64 s.1)])
   (fun s=>M++(.cells 1 ((B.take s.1).map (fun w=>.int .i64 w.thr)++List.replicate (B.length-s.1) (.int .i64 0))::s.2)) (fun s=>s.1≤B.length) (fun s=>B.length-s.1) (0,[]) (zAo _) ?_ ?_ ?_
  ·simp[go_sem]
  ·simp
  rintro⟨j,L⟩ hj;simp only at hj ⊢;have fB:=aU (enc:=wtA) (s:=2) (fun _=>rfl) B
  obtain⟨C,hC⟩:∃C,(B.take j).map (fun w=>AV.int .i64 w.thr)++List.replicate (B.length-j) (.int .i64 0)=C:=⟨_,rfl⟩
  obtain⟨G,hG⟩:∃G,M++(.cells 1 C::L)=G:=⟨_,rfl⟩;have hlC:C.length=B.length:=by rw[←hC];simp;omega
  have m3:=u3 (.cells 1 C::L);have m1:=u1 (.cells 1 C::L);rw[hG]at m1 m3;have m10:hget G M.length=.cells 1 C:=by rw[←hG];simp only[go_sem]
  have gs:∀Y,aB G M.length Y=M++(Y::L):=fun Y=>by rw[←hG];simp only[go_sem]
  rw[hC,hG];by_cases hlt2:j<B.length
  ·have hli:decide ((j:Int)<(B.length:Int))=true:=dT;have hat:=iM (enc:=wtA) (s:=2) (fun _=>rfl) hlt2
   simp only[wtA,AV.cells]at hat;have hw:=aS hlt2 (by omega)
   have hlen:((B.take j).map (fun w=>AV.int .i64 w.thr)).length=j:=by rw[zAn,zAL];omega
   have hsp:=pR ((B.take j).map (fun w=>AV.int .i64 w.thr)) (B.length-j-1) (.int .i64 0) (.int .i64 B[j].thr)
   rw[hlen,show B.length-j-1+1=B.length-j by omega,hC]at hsp
   have n3:=aG m3 trivial;have n10:=aG m10 trivial;have s10:=cC m10 trivial;have hjc:(j<B.length)=True:=zAC hlt2;repeat' first|(refine gS ?_;simp only[go_sem,hli,hat,fB,m3,n3,m10,n10,s10,hsp,hlC,zAB,hjc])|refine gA ?_|(refine gD ?_ ?_<;>intro h<;>try exact aA h)|fail
   refine⟨(j+1,L++[.cells 0 [.int .i64 B[j].thr,.int .i64 B[j].upto]]),hlt2,by simp only;omega,zAx _ hw,?_⟩
   rw[gs,zAk hlt2,zA9,show B.length-j-1=B.length-(j+1) by omega]
   simp
  ·have hje:j=B.length:=by omega
   subst hje;have hli:decide ((B.length:Int)<(B.length:Int))=false:=by simp
   have m0:=aG w3 trivial (.cells 1 C::L);have mt:=aG w4 trivial (.cells 1 C::L);rw[hG]at m0 mt;have z2:∀X,hget (aB G (H.length+4) X) (H.length+2)=_:=fun X=>aH m1 (by omega) X
   have z0:∀X,hget (aB G (H.length+4) X) H.length=_:=fun X=>aH m0 (by omega) X
   have zt:∀X Y,hget (aB (aB G (H.length+4) X) H.length Y) (H.length+1)=_:=fun X Y=>aH (aH mt (by omega) X) (by omega) Y
   have ze:∀X v Y,hget (aB (aB G (H.length+4) X) H.length (.cells v Y)) H.length=.cells v Y:=fun X v Y=>aX (by rw[aC];exact aV m0 trivial) _
   have zf:∀X Y v Z,hget (aB (aB (aB G (H.length+4) X) H.length Y) (H.length+1) (.cells v Z)) (H.length+1)=.cells v Z:=fun X Y v Z=>aX (by rw[aC,aC];exact aV mt trivial) _
   repeat' first|(refine gS ?_;simp only[go_sem,hli,m1,m3,fB,z2,z0,zt,ze,zf])|refine gA ?_|(refine gD ?_ ?_<;>intro h<;>try exact aA h)|fail
   have hin:∀l:List Wai,(l.map fun w=>AV.int .i64 w.thr).flatMap AV.cells=l.map fun w=>AV.int .i64 w.thr:=fun l=>by
    induction l with
    |nil=>rfl
    |cons x l ih=>rw[zAw,zBd,ih];rfl
   have hCe:C=(B.map fun w:Wai=>AV.int .i64 w.thr).flatMap AV.cells++[]:=by
    rw[←hC,zAD,Nat.sub_self,zAd,hin];simp
   obtain⟨X,hX⟩:∃X,aB (aB (aB G (H.length+4) (ABlk.cells (B.length+1) (bG (flA wtA B) 0 (List.flatMap AV.cells (List.replicate B.length (AV.agg [AV.int .i64 0,AV.int .i64 0])))))) H.length (ABlk.cells 0 [.int .i64 K,.osl 2 (H.length+3) (A.length+1) 0 A.length A.length])) (H.length+1) (ABlk.cells 0 [.int .i64 K,.osl 2 (H.length+3) (A.length+1) 0 A.length A.length])=X:=⟨_,rfl⟩;have m2:=aG v2 trivial (.cells 1 C::L);rw[hG]at m2;have x2:hget X (H.length+3)=.cells (A.length+1) (flA wtA A++[]):=by rw[←hX,zAd];exact aH (aH (aH m2 (by omega) _) (by omega) _) (by omega) _
   have x3:hget X M.length=.cells 1 C:=by rw[←hX];exact aH (aH (aH m10 (by omega) _) (by omega) _) (by omega) _
   obtain⟨L2,hL2⟩:=wO (H:=H) (H':=X) (by rw[←hX,aC,aC,aC,←hG,zAa];omega) fun j hj=>by rw[←hX,aY (by omega),aY (by omega),aY (by omega),←hG,oZ w5 (by omega) _ j hj]
   rw[hX];exact⟨L2,.tup [gpA false ⟨K,A⟩,.sl false (B.map fun w=>.int .i64 w.thr)],hL2,.tup _ _ rfl (aT (.agg _ _ rfl (aT (.cl _ (.int _ _)) (aT (aDn _ (by omega) x2 rfl rfl) bN))) (aT (iT (es:=B.map fun w=>.int .i64 w.thr) (rest:=[]) (by omega) x3 hCe (by rw[zAn]) (fun e he=>by(obtain⟨x, -,rfl⟩:=zAm.1 he;rfl)) (fun e he=>by(obtain⟨x, -,rfl⟩:=zAm.1 he;exact .int _ _))) bN)),by rw[zB1];rfl⟩
end
section
theorem qT{G:AHeap}{i j:Nat}(h1:i<G.length)(h2:j<G.length)(hne:i<j):
  ((∀v X,hget (aB G i (.cells v X)) i=.cells v X)∧(∀v X L,hget (aB G i (.cells v X)++L) i=.cells v X)∧(∀v Y,hget (aB G j (.cells v Y)) j=.cells v Y)∧(∀v Y L,hget (aB G j (.cells v Y)++L) j=.cells v Y)∧
  (∀v X Z,hget (aB (aB G j Z) i (.cells v X)) i=.cells v X)∧(∀v X Z L,hget (aB (aB G j Z) i (.cells v X)++L) i=.cells v X)∧(∀v Y X,hget (aB (aB G j (.cells v Y)) i X) j=.cells v Y)∧(∀v Y X L,hget (aB (aB G j (.cells v Y)) i X++L) j=.cells v Y))∧
  ((∀X L,aB (G++L) i X=aB G i X++L)∧(∀X L,aB (G++L) j X=aB G j X++L)∧(∀X Y,aB (aB G i X) i Y=aB G i Y)∧(∀X Y L,aB (aB G i X++L) i Y=aB G i Y++L)∧(∀X Y,aB (aB G j X) j Y=aB G j Y)∧(∀X Y L,aB (aB G j X++L) j Y=aB G j Y++L)∧
  (∀X Y,aB (aB G i X) j Y=aB (aB G j Y) i X)∧(∀X Y L,aB (aB G i X++L) j Y=aB (aB G j Y) i X++L)∧(∀X Y L,aB (aB G j Y++L) i X=aB (aB G j Y) i X++L)∧(∀X Y Z,aB (aB (aB G j Y) i X) i Z=aB (aB G j Y) i Z)∧(∀X Y Z L,aB (aB (aB G j Y) i X++L) i Z=aB (aB G j Y) i Z++L)∧
  (∀X Y Z,aB (aB (aB G j Y) i X) j Z=aB (aB G j Z) i X)∧(∀X Y Z L,aB (aB (aB G j Y) i X++L) j Z=aB (aB G j Z) i X++L))∧
  ((∀k X L,hget (aB G k X++L) G.length=L.getD 0 .gone)∧(∀k X L m,hget (aB G k X++L) (G.length+m)=L.getD m .gone)∧(∀X Y L,hget (aB (aB G j Y) i X++L) G.length=L.getD 0 .gone)∧(∀X Y L m,hget (aB (aB G j Y) i X++L) (G.length+m)=L.getD m .gone)∧
  (∀k X L Z,aB (aB G k X++L) G.length Z=aB G k X++L.set 0 Z)∧(∀k X L m Z,aB (aB G k X++L) (G.length+m) Z=aB G k X++L.set m Z)∧(∀X Y L Z,aB (aB (aB G j Y) i X++L) G.length Z=aB (aB G j Y) i X++L.set 0 Z)∧(∀X Y L m Z,aB (aB (aB G j Y) i X++L) (G.length+m) Z=aB (aB G j Y) i X++L.set m Z)):=by
 have ne:j≠i:=by omega
 have n1:∀k X,(aB G k X).length=G.length:=fun k X=>aC _ _ _
 have n2:∀X Y,(aB (aB G j Y) i X).length=G.length:=fun X Y=>by rw[aC,aC]
 have a1:∀X Y,aB (aB G i X) j Y=aB (aB G j Y) i X:=fun X Y=>fC _ _ _ (by omega)
 have a2:∀X Y Z,aB (aB (aB G j Y) i X) j Z=aB (aB G j Z) i X:=fun X Y Z=>by rw[fC _ _ _ (by omega),bE]
 refine⟨⟨fun v X=>aX h1 _,fun v X L=>aD (b:=.cells v X) (aX h1 _) trivial L,fun v Y=>aX h2 _,fun v Y L=>aD (b:=.cells v Y) (aX h2 _) trivial L,fun v X Z=>aX (by rw[n1];exact h1) _,fun v X Z L=>aD (b:=.cells v X) (aX (by rw[n1];exact h1) _) trivial L,
  fun v Y X=>aH (aX h2 _) (by omega) _,fun v Y X L=>aD (b:=.cells v Y) (aH (aX h2 _) (by omega) _) trivial L⟩,
  ⟨fun X L=>bD h1 L X,fun X L=>bD h2 L X,fun X Y=>bE _ _ _ _,fun X Y L=>by rw[bD (by rw[n1];exact h1),bE],fun X Y=>bE _ _ _ _,fun X Y L=>by rw[bD (by rw[n1];exact h2),bE],a1,fun X Y L=>by rw[bD (by rw[n1];exact h2),a1],
  fun X Y L=>bD (by rw[n1];exact h1) L X,fun X Y Z=>bE _ _ _ _,fun X Y Z L=>by rw[bD (by rw[n2];exact h1),bE],a2,fun X Y Z L=>by rw[bD (by rw[n2];exact h2),a2]⟩,
  fun k X L=>iS (n1 k X),fun k X L m=>lT (n1 k X),fun X Y L=>iS (n2 X Y),fun X Y L m=>lT (n2 X Y),fun k X L Z=>aA7 (n1 k X) Z,fun k X L m Z=>vQ (n1 k X) Z,fun X Y L Z=>aA7 (n2 X Y) Z,fun X Y L m Z=>vQ (n2 X Y) Z⟩
def stC(j:Nat)(who:Int)(u:Trn)(x:Cor):List AV:=[.sl false (x.m.log.entries.map iB),.sl false (x.m.log.nodes.map ndA),.int .i64 x.m.seen,.int .i64 x.m.rep,.sl false (x.m.snaps.map iG),.sl false (x.m.watches.map dJ),.int .i64 x.m.next,
 .sl false (x.t.held.map hdA),.sl false (x.t.waits.map hdA),.int .i64 x.g.kept,.sl false (x.g.waits.map wtA),.osl 18 j 1 0 x.ths.length x.ths.length,.int .i64 x.time,.sl false (x.ops.map opA),.int .i64 who,.int .i64 u.kind,.int .i64 u.lock]
structure SB (i j:Nat) (who:Int) (u:Trn) (x:Cor) (G:AHeap):Prop where
 ne:i<j
 b1:hget G i=.cells 0 (stC j who u x)
 b2:hget G j=.cells 1 (flA thr x.ths)
def lP(G:AHeap)(i j:Nat)(who:Int)(u:Trn)(x:Cor):AHeap:=aB (aB G j (.cells 1 (flA thr x.ths))) i (.cells 0 (stC j who u x))
theorem nX(G:AHeap)(i j:Nat)(who:Int)(u:Trn)(x:Cor):(lP G i j who u x).length=G.length:=by unfold lP;rw[aC,aC]
section
variable {i j:Nat} {who:Int} {u:Trn} {x:Cor} {G:AHeap} (h:SB i j who u x G)
include h
theorem SB.lt1:i<G.length:=aV h.b1 trivial
theorem SB.lt2:j<G.length:=aV h.b2 trivial
theorem SB.own:lP G i j who u x=G:=by unfold lP;rw[cI h.b2 trivial,cI h.b1 trivial]
theorem SB.app(L:AHeap):SB i j who u x (G++L):=⟨h.ne,aD h.b1 trivial L,aD h.b2 trivial L⟩
theorem SB.happ(x':Cor)(L:AHeap):lP (G++L) i j who u x'=lP G i j who u x'++L:=by
 unfold lP;rw[bD h.lt2,bD (by rw[aC];exact h.lt1)]
theorem SB.put(x':Cor):SB i j who u x' (lP G i j who u x'):=by
 have hne:¬j=i:=by have:=h.ne;omega
 refine⟨h.ne,aX (by rw[aC];exact h.lt1) _,?_⟩
 unfold lP;rw[fC _ _ _ hne];exact aX (by rw[aC];exact h.lt2) _
theorem SB.twice(x1 x2:Cor):lP (lP G i j who u x1) i j who u x2=lP G i j who u x2:=by
 have hne:¬j=i:=by have:=h.ne;omega
 unfold lP;rw[fC (aB G j _) _ _ (fun e=>hne e.symm),bE,bE]
theorem SB.r3:∀X L,hget (aB G i X++L) j=.cells 1 (flA thr x.ths):=fun X L=>aD (aH h.b2 (by have:=h.ne;omega) X) trivial L
theorem SB.r4:∀X,hget (aB G i X) j=.cells 1 (flA thr x.ths):=fun X=>aH h.b2 (by have:=h.ne;omega) X
theorem SB.r5:∀X,hget (aB G j X) i=.cells 0 (stC j who u x):=fun X=>aH h.b1 (by have:=h.ne;omega) X
theorem SB.r6:∀X L,hget (aB G j X++L) i=.cells 0 (stC j who u x):=fun X L=>aD (aH h.b1 (by have:=h.ne;omega) X) trivial L
theorem SB.ths{l:List Thr}(hl:l.length=x.ths.length):aB G j (.cells 1 (flA thr l))=lP G i j who u {x with ths:=l}:=by
 unfold lP;rw[show stC j who u {x with ths:=l}=stC j who u x by unfold stC;rw[hl],cI (h.r5 _) trivial]
theorem SB.one{x':Cor}(hl:x'.ths=x.ths):aB G i (.cells 0 (stC j who u x'))=lP G i j who u x':=by
 unfold lP;rw[hl,cI h.b2 trivial]
end
theorem aS4(n:Nat)(l:List Thr):ClB n (.cells 1 (flA thr l)):=rR (fun x=>by simp only[go_sem]) n 1 l
theorem aWc{j n:Nat}(hj:j<n)(who:Int)(u:Trn)(x:Cor):ClB n (.cells 0 (stC j who u x)):=fun y hy=>by
 unfold stC at hy;simp only[zAs,zAH,zBv]at hy;have hp:∀{α:Type} (f:α→AV) (l:List α),(∀x,Pur (f x))→Cl n (.sl false (l.map f)):=fun f l hf=>(Pur.sl false _ fun z hz=>by obtain⟨w, -,rfl⟩:=zAm.1 hz;exact hf w).cl n
 rcases hy with rfl|rfl|rfl|rfl|rfl|rfl|rfl|rfl|rfl|rfl|rfl|rfl|rfl|rfl|rfl|rfl|rfl<;>first|exact .int _ _|exact .osl _ _ _ _ _ _ hj|exact hp _ _ fun x=>by simp only[go_sem]
def yN(P:Program)(f:FuncId)(args:List AV)(i j:Nat)(who:Int)(u:Trn)(x':Cor)(G:AHeap):Prop:=ACalls P f (.ref i 0 0::args) G (fun v H'=>v=.tup []∧H'=lP G i j who u x')
theorem iP{i j:Nat}{who:Int}{u:Trn}{x x':Cor}{G A L:AHeap}(h:SB i j who u x G)(hA:A=lP G i j who u x'):
  ∃H1 L' y,A++L=H1++L'∧H1.length=G.length∧(∀(k:Nat) (b:ABlk),H1[k]?=some b→G[k]?=some b∨ClB G.length b)∧Frz G.length (A++L) (.tup []) y∧(y=.tup []∧H1=lP G i j who u x'):=by
 subst hA;refine⟨_,L,_,rfl,nX _ _ _ _ _ _,fun k b hk=>?_,.cl _ (.tup _ fun _ _ hx=>by simp at hx),rfl,rfl⟩
 unfold lP at hk;rcases dW (aWc h.lt2 who u x') k b hk with hk|hk
 ·exact dW (aS4 _ _) k b hk
 ·exact .inr hk
theorem wQ{i j:Nat}{who:Int}{u:Trn}{x x':Cor}{G A:AHeap}(h:SB i j who u x G)(hA:A=lP G i j who u x'):
  ∃H1 L' y,A=H1++L'∧H1.length=G.length∧(∀(k:Nat) (b:ABlk),H1[k]?=some b→G[k]?=some b∨ClB G.length b)∧Frz G.length A (.tup []) y∧(y=.tup []∧H1=lP G i j who u x'):=by
 have:=iP (L:=[]) h hA;rwa[zAd]at this
end
section
def zV:List Pl:=[.free,.pure 0,.pure 0,.pure 0,.pure 0,.free,.free,.pure 0,.pure 0,.pure 0,.pure 0,.pure 0,.pure 0,.eff [false,true,false,false,false,false,false,false,false,false]]
def zW:List Pl:=[.free,.pure 0,.pure 0,.pure 0,.pure 0,.free,.pure 0,.pure 0,.pure 0,.free,.pure 0,.pure 0,.pure 0,.pure 0,.free,.pure 0,.pure 0,.pure 0,.pure 0,.pure 0,.free,.pure 0,.pure 0,.pure 0,.pure 0,.pure 0,.eff [false,false,false,false,false,false,false,false,false,false,false,false,false,false,false,false,false,false,false,false,false]]
def zX:List Pl:=[.free,.pure 0,.pure 0,.pure 0,.pure 0,.pure 0,.pure 0,.free,.pure 0,.pure 0,.pure 0,.pure 0,.pure 0,.pure 0,.pure 0,.pure 0,.pure 0,.pure 0,.pure 0,.eff [false,false,false,false,false,false,false,false,false,false,false,false,false,false,false,false,false]]
attribute [go_sem] zV zW zX
theorem aBy{i j:Nat}{who:Int}{u:Trn}{x:Cor}{G:AHeap}(hb:SB i j who u x G)(hl:x.ths.length≤40)(n:Int):yN Tryz.prog 53 [.int .i64 n] i j who u {x with ths:=kF x.time x.ths n} G:=by
 refine aO Tryz.func53 ?_;have r0:=hb.b1;have r1:=aG hb.b1 trivial;have r2:=hb.b2;have r7:=aG hb.b2 trivial;have r3:=hb.r3;have r4:=hb.r4;have r5:=hb.r5;have r6:=hb.r6;simp only[stC]at r0 r1 r5 r6;have qs:=qT hb.lt1 hb.lt2 hb.ne;have hln:=aU (enc:=thr) (s:=18) (fun _=>rfl) x.ths
 unfold kF mY;by_cases h0:0≤n
 ·have d0:decide (0≤n)=true:=zAj h0;by_cases h1:n<x.ths.length
  ·have d1:decide (n<(x.ths.length:Int))=true:=zAj h1;obtain⟨k,rfl⟩:∃k:Nat,n=(k:Int):=⟨n.toNat,by omega⟩
   have hk:k<x.ths.length:=by omega
   rw[zAl ⟨h0,h1⟩,zAI,zAh,zAb hk,zBh];have p1:=nW (enc:=thr) (s:=18) (f:=8) (X:=[.bool true]) (fun _=>rfl) hk (by decide) {x.ths[k]with ended:=true} rfl
   have p2:=nW (enc:=thr) (s:=18) (f:=12) (X:=[.int .i64 x.time]) (D:=x.ths.set k {x.ths[k]with ended:=true}) (k:=k) (fun _=>rfl) (by rw[zAG];exact hk) (by simp) {x.ths[k]with ended:=true,end_:=x.time} (by rw[zBj];rfl)
   rw[List.set_set]at p2;have hl2:(flA thr (x.ths.set k {x.ths[k]with ended:=true})).length=x.ths.length * 18:=by rw[aU (enc:=thr) (s:=18) (fun _=>rfl),zAG]
   have hi1:k * 18+13≤x.ths.length * 18:=by omega
   have hi2:(k * 18+13≤x.ths.length * 18)=True:=zAC hi1;have hz:((0:Int)≤(k:Int)∧(k:Int)<(x.ths.length:Int))=True:=zAC ⟨h0,h1⟩;repeat' first|((first|refine mx [2] zV ?_|refine gS ?_);simp only[go_sem,r0,r1,r2,r3,r4,r5,r6,r7,qs,aC,d0,d1,hln,p1,p2,hl2,hi2,hz])|refine gA ?_|(refine gD ?_ ?_<;>intro h<;>try exact aA h)|fail
   exact wQ hb (hb.ths (by simp))
  ·have d1:decide (n<(x.ths.length:Int))=false:=zAg h1;rw[zAe (fun h=>h1 h.2)]
   repeat' first|(refine gS ?_;simp only[go_sem,r0,r1,r2,r3,r4,r5,r6,r7,qs,aC,d0,d1])|refine gA ?_|(refine gD ?_ ?_<;>intro h<;>try exact aA h)|fail
   exact wQ hb hb.own.symm
 ·have d0:decide (0≤n)=false:=zAg h0;rw[zAe (fun h=>h0 h.1)]
  repeat' first|(refine gS ?_;simp only[go_sem,r0,r1,r2,r3,r4,r5,r6,r7,qs,aC,d0])|refine gA ?_|(refine gD ?_ ?_<;>intro h<;>try exact aA h)|fail
  exact wQ hb hb.own.symm
theorem pA{i j:Nat}{who:Nat}{u:Trn}{x:Cor}{G:AHeap}(hb:SB i j who u x G)(hl:x.ths.length≤40){t:Thr}(ht:x.ths[who]?=some t)(hs:ThS t):yN Tryz.prog 75 [] i j who u {x with ths:=mY x.ths who fun t=>afterT t u} G:=by
 refine aO Tryz.func75 ?_;obtain⟨hk,rfl⟩:=eT.1 ht;rw[fY ht];have r0:=hb.b1;have r1:=aG hb.b1 trivial;have r2:=hb.b2;have r7:=aG hb.b2 trivial;have r3:=hb.r3;have r4:=hb.r4;have r5:=hb.r5;have r6:=hb.r6;simp only[stC]at r0 r1 r5 r6;have qs:=qT hb.lt1 hb.lt2 hb.ne;have hln:=aU (enc:=thr) (s:=18) (fun _=>rfl) x.ths
 have haf:=aHf false false false x.ths[who] u hs;have hat:=iM (enc:=thr) (s:=18) (fun _=>rfl) hk
 have hst:=qF (enc:=thr) (s:=18) (fun _=>rfl) hk (afterT x.ths[who] u)
 simp only[thr,pE,vS,trA,AV.cells]at haf hat hst;repeat' first|((first|refine mx [0] zW ?_|refine gS ?_);simp only[go_sem,r0,r1,r2,r3,r4,r5,r6,r7,qs,aC,hln,hat,hst])|refine gA ?_|(refine gD ?_ ?_<;>intro h<;>try exact aA h)|fail
 exact wQ hb (hb.ths (by simp))
theorem aL8{i j:Nat}{who:Int}{u:Trn}{x:Cor}{G:AHeap}(hb:SB i j who u x G)(hl:x.ths.length≤40)(h:Hld)(hs:∀t∈x.ths,ThS t):yN Tryz.prog 77 [hdA h] i j who u {x with ths:=vY x.ths h} G:=by
 refine aO Tryz.func77 ?_;obtain⟨k0,n⟩:=h;have r0:=hb.b1;have r1:=aG hb.b1 trivial;have r2:=hb.b2;have r7:=aG hb.b2 trivial;have r3:=hb.r3;have r4:=hb.r4;have r5:=hb.r5;have r6:=hb.r6;simp only[stC]at r0 r1 r5 r6;have qs:=qT hb.lt1 hb.lt2 hb.ne;have hln:=aU (enc:=thr) (s:=18) (fun _=>rfl) x.ths
 unfold vY mY;by_cases h0:0≤n
 ·have d0:decide (0≤n)=true:=zAj h0;by_cases h1:n<x.ths.length
  ·have d1:decide (n<(x.ths.length:Int))=true:=zAj h1;obtain⟨k,rfl⟩:∃k:Nat,n=(k:Int):=⟨n.toNat,by omega⟩
   have hk:k<x.ths.length:=by omega
   rw[zAl ⟨h0,h1⟩,zAI,zAh,zAb hk,zBh];have haf:=aHf false false false x.ths[k] ⟨1,k0⟩ (hs _ (zAK hk));have hat:=iM (enc:=thr) (s:=18) (fun _=>rfl) hk
   have hst:=qF (enc:=thr) (s:=18) (fun _=>rfl) hk (afterT x.ths[k] ⟨1,k0⟩)
   simp only[thr,pE,vS,trA,AV.cells]at haf hat hst;repeat' first|((first|refine mx [3] zX ?_|refine gS ?_);simp only[go_sem,hdA,r0,r1,r2,r3,r4,r5,r6,r7,qs,aC,d0,d1,hln,hat,hst])|refine gA ?_|(refine gD ?_ ?_<;>intro h<;>try exact aA h)|fail
   exact iP hb (hb.ths (by simp))
  ·have d1:decide (n<(x.ths.length:Int))=false:=zAg h1;rw[zAe (fun h=>h1 h.2)]
   repeat' first|(refine gS ?_;simp only[go_sem,hdA,r0,r1,r2,r3,r4,r5,r6,r7,qs,aC,d0,d1])|refine gA ?_|(refine gD ?_ ?_<;>intro h<;>try exact aA h)|fail
   exact iP hb hb.own.symm
 ·have d0:decide (0≤n)=false:=zAg h0;rw[zAe (fun h=>h0 h.1)]
  repeat' first|(refine gS ?_;simp only[go_sem,hdA,r0,r1,r2,r3,r4,r5,r6,r7,qs,aC,d0])|refine gA ?_|(refine gD ?_ ?_<;>intro h<;>try exact aA h)|fail
  exact iP hb hb.own.symm
end
end Go.Proofs.YtennnelammaapaaGreatDoor
