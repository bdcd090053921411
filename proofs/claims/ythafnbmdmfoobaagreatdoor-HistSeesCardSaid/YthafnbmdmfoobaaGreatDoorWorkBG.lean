/- What the functions of this seat answer (33 of 40). No condition. -/
import Derived.Test.YthafnbmdmfoobaaGreatDoorWorkBF
set_option linter.unusedSimpArgs false
set_option linter.unusedVariables false
set_option linter.unusedSectionVars false
set_option maxRecDepth 100000
set_option maxHeartbeats 16000000
namespace Go.Proofs.YthafnbmdmfoobaaGreatDoor
section
theorem Bp.app{i p eT aV:Nat}{k:Int}{A B:List iD}{G:ab}(h:Bp i p eT aV k A B G)(L:ab):Bp i p eT aV k A B (G++L):=by
 obtain⟨w,hw⟩:=h.hi;exact⟨⟨w,bQ hw trivial L⟩,bQ h.ae trivial L,bQ h.aC trivial L,bQ h.h1 trivial L⟩
structure XY (H:ab) (f:Bool) (g:ns) (K:Int) (q:Nat) (M:ab):Prop where
 aS:q<=g.waits.length
 hs:Bp H.length (H.length+2) (H.length+3) (H.length+4) K ((g.waits.take q).filter fun w=> !decide (w.upto<=K)) ((g.waits.take q).filter fun w=>decide (w.upto<=K)) M
 hi:ao M H.length=.cells 0 [.int .i64 K,.sl f (g.waits.map cq)]
 aj:ao M (H.length+1)=.cells 0 [.int .i64 0,.sl true []]
 pre:∀j,j<H.length->ao M j=ao H j
 len:H.length+5<=M.length
theorem aEv(f:Bool)(g:ns)(k:Int)(hl:g.waits.length<=1000000)(H:ab):aY Tryz.prog 48 [kN f g,.int .i64 k] H (.a0 [kN false (wa g k).1,.sl false ((wa g k).2.map bj)]):=by
 refine bh Tryz.func48 ?_;refine b0 kN.eq_1 ?_;obtain⟨K,b0⟩:∃K,K=max g.kept k:=⟨_,rfl⟩;unfold wa;rw[<-b0];refine Dm (v:=0) (cs:=[.sl true [],.sl true []]) (H.length+2) 0 2 (by simp only[go_sem]) rfl ?_
 simp only[go_sem];refine Dm (v:=0) (cs:=[.osl 2 (H.length+3) 1 0 0 0,.sl true []]) (H.length+2) 1 2 (by simp only[go_sem]) rfl ?_
 simp only[go_sem];refine b5 (ι:=Nat×ab) (fun s=>[(2,.ref H.length 0 0),(4,.ref (H.length+1) 0 0),(6,.ref (H.length+2) 0 0),(7,.func (.func 76) [] [.ref H.length 0 0,.ref (H.length+2) 0 0]),(20,.sl f (g.waits.map cq)),(21,.int .i64 g.waits.length),(22,.int .i64 s.1)])
  (fun s=>s.2) (fun s=>XY H f g K s.1 s.2) (fun s=>g.waits.length-s.1) (0,H++[.cells 0 [.int .i64 K,.sl f (g.waits.map cq)],.cells 0 [.int .i64 0,.sl true []],.cells 0 [.osl 2 (H.length+3) 1 0 0 0,.osl 2 (H.length+4) 1 0 0 0],.cells 1 [],.cells 1 []]) ?_ ?_ ?_ ?_
 ·refine⟨bG _,⟨⟨_,by simp only[go_sem];rfl⟩,by simp only[go_sem];rfl,by simp only[go_sem];rfl,by simp only[go_sem];rfl⟩,by simp only[go_sem],by simp only[go_sem],De (M:=H) (fun _ _=>rfl) (bk _) _,by simp⟩
 ·simp[go_sem]
 ·rfl
 rintro⟨q,M⟩ hd;simp only at hd ⊢;obtain⟨c4,dm,ee,dH,fD,yR⟩:=hd;by_cases ak:q<g.waits.length
 ·have aH:decide ((q:Int)<(g.waits.length:Int))=true:=b1;have ae:=dg cq ak;have hw:=dW ak (by omega)
  repeat' first|(refine ad ?_;simp only[go_sem,aH,ae,cq])|refine af ?_|fail
  obtain⟨X,ez⟩:∃X,M++[bu.cells 0 [.int .i64 g.waits[q].aR,.int .i64 g.waits[q].upto]]=X:=⟨_,rfl⟩;have dm:=dm.app [bu.cells 0 [.int .i64 g.waits[q].aR,.int .i64 g.waits[q].upto]];have ee:=bQ ee trivial [bu.cells 0 [.int .i64 g.waits[q].aR,.int .i64 g.waits[q].upto]];have dH:=bQ dH trivial [bu.cells 0 [.int .i64 g.waits[q].aR,.int .i64 g.waits[q].upto]];have fD:=De fD (by omega) [bu.cells 0 [.int .i64 g.waits[q].aR,.int .i64 g.waits[q].upto]]
  have XK:X.length=M.length+1:=by rw[<-ez];simp
  have O1:∀p:iD->Bool,((g.waits.take q).filter p).length<=1000000:=fun p=>by have:=nX p (g.waits.take q);rw[e8]at this;omega
  rw[ez]at dm ee dH fD ⊢;refine qy (first:=[]) (cap:=[.ref H.length 0 0,.ref (H.length+2) 0 0]) (aBO dm (by omega) (by omega) (by omega) (by omega) (by omega) (by omega) (O1 _) (O1 _) g.waits[q]) aA ?_
  rintro v H' ⟨rfl,ic,sw,og⟩;have oU:g.waits.take (q+1)=g.waits.take q++[g.waits[q]]:=eB ak;simp only[go_sem];refine aT ?_;refine⟨(q+1,H'),⟨ak,?_,(og _ (by omega) (by omega) (by omega)).trans ee,(og _ (by omega) (by omega) (by omega)).trans dH,fun j aw=>(og _ (by omega) (by omega) (by omega)).trans (fD j aw),by simp only;omega⟩,by simp only;omega,⟨bH _ hw,rfl⟩⟩
  simp only[oU,ld];by_cases hk:g.waits[q].upto<=K
  ·simpa[hk]using ic
  ·simpa[hk]using ic
 ·have wI:q=g.waits.length:=by omega
  subst wI;have aH:decide ((g.waits.length:Int)<(g.waits.length:Int))=false:=by simp
  rw[eQ]at dm;obtain⟨A,cf⟩:∃A,A=g.waits.filter fun w=> !decide (w.upto<=K):=⟨_,rfl⟩
  obtain⟨B,bK⟩:∃B,B=g.waits.filter fun w=>decide (w.upto<=K):=⟨_,rfl⟩
  have aKU:B.length<=1000000:=by rw[bK];exact gU (nX ..) hl
  rw[<-cf,<-bK]at dm ⊢;obtain⟨-,v1,v2,GP⟩:=dm;have pk:=bz v1 trivial;have AX:=bz GP trivial;repeat' first|(refine ad ?_;simp only[go_sem,aH,v1,pk,GP,AX,Lt])|refine af ?_|fail
  refine b5 (ι:=Nat×ab) (fun s=>[(2,.ref H.length 0 0),(4,.ref (H.length+1) 0 0),(6,.ref (H.length+2) 0 0),(10,.osl 1 M.length 1 0 B.length B.length),(35,.osl 2 (H.length+4) (B.length+1) 0 B.length B.length),(36,.int .i64 B.length),(37,.int .i64 s.1)])
   (fun s=>M++(.cells 1 ((B.take s.1).map (fun w=>.int .i64 w.aR)++List.replicate (B.length-s.1) (.int .i64 0))::s.2)) (fun s=>s.1<=B.length) (fun s=>B.length-s.1) (0,[]) (bG _) ?_ ?_ ?_
  ·simp[go_sem]
  ·simp
  rintro⟨j,L⟩ aw;simp only at aw ⊢;have EU:=dE (enc:=cq) (s:=2) (fun _=>rfl) B
  obtain⟨C,uU⟩:∃C,(B.take j).map (fun w=>I.int .i64 w.aR)++List.replicate (B.length-j) (.int .i64 0)=C:=⟨_,rfl⟩
  obtain⟨G,aT⟩:∃G,M++(.cells 1 C::L)=G:=⟨_,rfl⟩;have aJO:C.length=B.length:=by rw[<-uU];simp;omega
  have tX:=AX (.cells 1 C::L);have l1:=pk (.cells 1 C::L);rw[aT]at l1 tX;have J0:ao G M.length=.cells 1 C:=by rw[<-aT];simp only[go_sem]
  have gs:∀Y,ai G M.length Y=M++(Y::L):=fun Y=>by rw[<-aT];simp only[go_sem]
  rw[uU,aT];by_cases gb:j<B.length
  ·have aH:decide ((j:Int)<(B.length:Int))=true:=b1;have fj:=om (enc:=cq) (s:=2) (fun _=>rfl) gb
   simp only[cq,I.cells]at fj;have hw:=dW gb (by omega)
   have hlen:((B.take j).map (fun w=>I.int .i64 w.aR)).length=j:=by rw[cP,e8];omega
   have dK:=Kl ((B.take j).map (fun w=>I.int .i64 w.aR)) (B.length-j-1) (.int .i64 0) (.int .i64 B[j].aR)
   rw[hlen,show B.length-j-1+1=B.length-j by omega,uU]at dK
   have kG:=bz tX trivial;have aK8:=bz J0 trivial;have aLG:=jI J0 trivial;have aJF:(j<B.length)=True:=bJ gb;repeat' first|(refine ad ?_;simp only[go_sem,aH,fj,EU,tX,kG,J0,aK8,aLG,dK,aJO,eE,aJF])|refine af ?_|fail
   refine⟨(j+1,L++[.cells 0 [.int .i64 B[j].aR,.int .i64 B[j].upto]]),gb,by simp only;omega,bH _ hw,?_⟩
   rw[gs,eB gb,n0,show B.length-j-1=B.length-(j+1) by omega]
   simp
  ·have lB:j=B.length:=by omega
   subst lB;have aH:decide ((B.length:Int)<(B.length:Int))=false:=by simp
   have da:=bz ee trivial (.cells 1 C::L);have mt:=bz dH trivial (.cells 1 C::L);rw[aT]at da mt;have la:∀X,ao (ai G (H.length+4) X) (H.length+2)=_:=fun X=>bM l1 (by omega) X
   have P9:∀X,ao (ai G (H.length+4) X) H.length=_:=fun X=>bM da (by omega) X
   have aMr:∀X Y,ao (ai (ai G (H.length+4) X) H.length Y) (H.length+1)=_:=fun X Y=>bM (bM mt (by omega) X) (by omega) Y
   have aMo:∀X v Y,ao (ai (ai G (H.length+4) X) H.length (.cells v Y)) H.length=.cells v Y:=fun X v Y=>dT (by rw[aX];exact c8 da trivial) _
   have aMp:∀X Y v Z,ao (ai (ai (ai G (H.length+4) X) H.length Y) (H.length+1) (.cells v Z)) (H.length+1)=.cells v Z:=fun X Y v Z=>dT (by rw[aX,aX];exact c8 mt trivial) _
   repeat' first|(refine ad ?_;simp only[go_sem,aH,l1,tX,EU,la,P9,aMr,aMo,aMp])|refine af ?_|fail
   have bS:∀l:List iD,(l.map fun w=>I.int .i64 w.aR).flatMap I.cells=l.map fun w=>I.int .i64 w.aR:=fun l=>by
    induction l with
    |nil=>rfl
    |cons x l ay=>rw[dn,qe,ay];rfl
   have aIF:C=(B.map fun w:iD=>I.int .i64 w.aR).flatMap I.cells++[]:=by
    rw[<-uU,eQ,Nat.sub_self,b2,bS];simp
   obtain⟨X,ez⟩:∃X,ai (ai (ai G (H.length+4) (bu.cells (B.length+1) (dw (aI cq B) 0 (List.flatMap I.cells (List.replicate B.length (I.agg [I.int .i64 0,I.int .i64 0])))))) H.length (bu.cells 0 [.int .i64 K,.osl 2 (H.length+3) (A.length+1) 0 A.length A.length])) (H.length+1) (bu.cells 0 [.int .i64 K,.osl 2 (H.length+3) (A.length+1) 0 A.length A.length])=X:=⟨_,rfl⟩;have k0:=bz v2 trivial (.cells 1 C::L);rw[aT]at k0;have dZ:ao X (H.length+3)=.cells (A.length+1) (aI cq A++[]):=by rw[<-ez,b2];exact bM (bM (bM k0 (by omega) _) (by omega) _) (by omega) _
   have gh:ao X M.length=.cells 1 C:=by rw[<-ez];exact bM (bM (bM J0 (by omega) _) (by omega) _) (by omega) _
   obtain⟨py,E8⟩:=K2 (H:=H) (H':=X) (by rw[<-ez,aX,aX,aX,<-aT,bt];omega) fun j aw=>by rw[<-ez,hI (by omega),hI (by omega),hI (by omega),<-aT,De fD (by omega) _ j aw]
   rw[ez];exact⟨py,.a0 [kN false ⟨K,A⟩,.sl false (B.map fun w=>.int .i64 w.aR)],E8,.a0 _ _ rfl (dV (.agg _ _ rfl (dV (.cl _ (.int _ _)) (dV (HW _ (by omega) dZ rfl rfl) gY))) (dV (sG (es:=B.map fun w=>.int .i64 w.aR) (rest:=[]) (by omega) gh aIF (by rw[cP]) (fun e he=>by(obtain⟨x, -,rfl⟩:=bP.1 he;rfl)) (fun e he=>by(obtain⟨x, -,rfl⟩:=bP.1 he;exact .int _ _))) gY)),by rw[rW];rfl⟩
end
section
theorem sV{G:ab}{i j:Nat}(h1:i<G.length)(h2:j<G.length)(aP:i<j):
  ((∀v X,ao (ai G i (.cells v X)) i=.cells v X)∧(∀v X L,ao (ai G i (.cells v X)++L) i=.cells v X)∧(∀v Y,ao (ai G j (.cells v Y)) j=.cells v Y)∧(∀v Y L,ao (ai G j (.cells v Y)++L) j=.cells v Y)∧
  (∀v X Z,ao (ai (ai G j Z) i (.cells v X)) i=.cells v X)∧(∀v X Z L,ao (ai (ai G j Z) i (.cells v X)++L) i=.cells v X)∧(∀v Y X,ao (ai (ai G j (.cells v Y)) i X) j=.cells v Y)∧(∀v Y X L,ao (ai (ai G j (.cells v Y)) i X++L) j=.cells v Y))∧
  ((∀X L,ai (G++L) i X=ai G i X++L)∧(∀X L,ai (G++L) j X=ai G j X++L)∧(∀X Y,ai (ai G i X) i Y=ai G i Y)∧(∀X Y L,ai (ai G i X++L) i Y=ai G i Y++L)∧(∀X Y,ai (ai G j X) j Y=ai G j Y)∧(∀X Y L,ai (ai G j X++L) j Y=ai G j Y++L)∧
  (∀X Y,ai (ai G i X) j Y=ai (ai G j Y) i X)∧(∀X Y L,ai (ai G i X++L) j Y=ai (ai G j Y) i X++L)∧(∀X Y L,ai (ai G j Y++L) i X=ai (ai G j Y) i X++L)∧(∀X Y Z,ai (ai (ai G j Y) i X) i Z=ai (ai G j Y) i Z)∧(∀X Y Z L,ai (ai (ai G j Y) i X++L) i Z=ai (ai G j Y) i Z++L)∧
  (∀X Y Z,ai (ai (ai G j Y) i X) j Z=ai (ai G j Z) i X)∧(∀X Y Z L,ai (ai (ai G j Y) i X++L) j Z=ai (ai G j Z) i X++L))∧
  ((∀k X L,ao (ai G k X++L) G.length=L.getD 0 .gone)∧(∀k X L m,ao (ai G k X++L) (G.length+m)=L.getD m .gone)∧(∀X Y L,ao (ai (ai G j Y) i X++L) G.length=L.getD 0 .gone)∧(∀X Y L m,ao (ai (ai G j Y) i X++L) (G.length+m)=L.getD m .gone)∧
  (∀k X L Z,ai (ai G k X++L) G.length Z=ai G k X++L.set 0 Z)∧(∀k X L m Z,ai (ai G k X++L) (G.length+m) Z=ai G k X++L.set m Z)∧(∀X Y L Z,ai (ai (ai G j Y) i X++L) G.length Z=ai (ai G j Y) i X++L.set 0 Z)∧(∀X Y L m Z,ai (ai (ai G j Y) i X++L) (G.length+m) Z=ai (ai G j Y) i X++L.set m Z)):=by
 have ne:j≠i:=by omega
 have fK:∀k X,(ai G k X).length=G.length:=fun k X=>aX _ _ _
 have g7:∀X Y,(ai (ai G j Y) i X).length=G.length:=fun X Y=>by rw[aX,aX]
 have dq:∀X Y,ai (ai G i X) j Y=ai (ai G j Y) i X:=fun X Y=>tj _ _ _ (by omega)
 have bZ:∀X Y Z,ai (ai (ai G j Y) i X) j Z=ai (ai G j Z) i X:=fun X Y Z=>by rw[tj _ _ _ (by omega),iQ]
 refine⟨⟨fun v X=>dT h1 _,fun v X L=>bQ (b:=.cells v X) (dT h1 _) trivial L,fun v Y=>dT h2 _,fun v Y L=>bQ (b:=.cells v Y) (dT h2 _) trivial L,fun v X Z=>dT (by rw[fK];exact h1) _,fun v X Z L=>bQ (b:=.cells v X) (dT (by rw[fK];exact h1) _) trivial L,
  fun v Y X=>bM (dT h2 _) (by omega) _,fun v Y X L=>bQ (b:=.cells v Y) (bM (dT h2 _) (by omega) _) trivial L⟩,
  ⟨fun X L=>gW h1 L X,fun X L=>gW h2 L X,fun X Y=>iQ _ _ _ _,fun X Y L=>by rw[gW (by rw[fK];exact h1),iQ],fun X Y=>iQ _ _ _ _,fun X Y L=>by rw[gW (by rw[fK];exact h2),iQ],dq,fun X Y L=>by rw[gW (by rw[fK];exact h2),dq],
  fun X Y L=>gW (by rw[fK];exact h1) L X,fun X Y Z=>iQ _ _ _ _,fun X Y Z L=>by rw[gW (by rw[g7];exact h1),iQ],bZ,fun X Y Z L=>by rw[gW (by rw[g7];exact h2),bZ]⟩,
  fun k X L=>rB (fK k X),fun k X L m=>w3 (fK k X),fun X Y L=>rB (g7 X Y),fun X Y L m=>w3 (g7 X Y),fun k X L Z=>Lu (fK k X) Z,fun k X L m Z=>G9 (fK k X) Z,fun X Y L Z=>Lu (g7 X Y) Z,fun X Y L m Z=>G9 (g7 X Y) Z⟩
def e7(j:Nat)(who:Int)(u:eR)(x:bn):List I:=[.sl false (x.m.log.entries.map de),.sl false (x.m.log.nodes.map aW),.int .i64 x.m.seen,.int .i64 x.m.rep,.sl false (x.m.cj.map cU),.sl false (x.m.bN.map bU),.int .i64 x.m.next,
 .sl false (x.t.held.map a6),.sl false (x.t.waits.map a6),.int .i64 x.g.kept,.sl false (x.g.waits.map cq),.osl 18 j 1 0 x.aq.length x.aq.length,.int .i64 x.time,.sl false (x.ops.map bY),.int .i64 who,.int .i64 u.kind,.int .i64 u.lock]
structure ha (i j:Nat) (who:Int) (u:eR) (x:bn) (G:ab):Prop where
 ne:i<j
 aV:ao G i=.cells 0 (e7 j who u x)
 bm:ao G j=.cells 1 (aI aR x.aq)
def e5(G:ab)(i j:Nat)(who:Int)(u:eR)(x:bn):ab:=ai (ai G j (.cells 1 (aI aR x.aq))) i (.cells 0 (e7 j who u x))
theorem yE(G:ab)(i j:Nat)(who:Int)(u:eR)(x:bn):(e5 G i j who u x).length=G.length:=by unfold e5;rw[aX,aX]
section
variable {i j:Nat} {who:Int} {u:eR} {x:bn} {G:ab} (h:ha i j who u x G)
include h
theorem ha.e3:i<G.length:=c8 h.aV trivial
theorem ha.fR:j<G.length:=c8 h.bm trivial
theorem ha.own:e5 G i j who u x=G:=by unfold e5;rw[kr h.bm trivial,kr h.aV trivial]
theorem ha.app(L:ab):ha i j who u x (G++L):=⟨h.ne,bQ h.aV trivial L,bQ h.bm trivial L⟩
theorem ha.Cr(x':bn)(L:ab):e5 (G++L) i j who u x'=e5 G i j who u x'++L:=by
 unfold e5;rw[gW h.fR,gW (by rw[aX];exact h.e3)]
theorem ha.put(x':bn):ha i j who u x' (e5 G i j who u x'):=by
 have aP:¬j=i:=by have:=h.ne;omega
 refine⟨h.ne,dT (by rw[aX];exact h.e3) _,?_⟩
 unfold e5;rw[tj _ _ _ aP];exact dT (by rw[aX];exact h.fR) _
theorem ha.AW(fr dZ:bn):e5 (e5 G i j who u fr) i j who u dZ=e5 G i j who u dZ:=by
 have aP:¬j=i:=by have:=h.ne;omega
 unfold e5;rw[tj (ai G j _) _ _ (fun e=>aP e.symm),iQ,iQ]
theorem ha.a1:∀X L,ao (ai G i X++L) j=.cells 1 (aI aR x.aq):=fun X L=>bQ (bM h.bm (by have:=h.ne;omega) X) trivial L
theorem ha.a4:∀X,ao (ai G i X) j=.cells 1 (aI aR x.aq):=fun X=>bM h.bm (by have:=h.ne;omega) X
theorem ha.eh:∀X,ao (ai G j X) i=.cells 0 (e7 j who u x):=fun X=>bM h.aV (by have:=h.ne;omega) X
theorem ha.e6:∀X L,ao (ai G j X++L) i=.cells 0 (e7 j who u x):=fun X L=>bQ (bM h.aV (by have:=h.ne;omega) X) trivial L
theorem ha.aq{l:List ba}(hl:l.length=x.aq.length):ai G j (.cells 1 (aI aR l))=e5 G i j who u {x with aq:=l}:=by
 unfold e5;rw[show e7 j who u {x with aq:=l}=e7 j who u x by unfold e7;rw[hl],kr (h.eh _) trivial]
theorem ha.one{x':bn}(hl:x'.aq=x.aq):ai G i (.cells 0 (e7 j who u x'))=e5 G i j who u x':=by
 unfold e5;rw[hl,kr h.bm trivial]
end
theorem aFZ(n:Nat)(l:List ba):dp n (.cells 1 (aI aR l)):=yN (fun x=>by simp only[go_sem]) n 1 l
theorem aG2{j n:Nat}(aw:j<n)(who:Int)(u:eR)(x:bn):dp n (.cells 0 (e7 j who u x)):=fun y aG=>by
 unfold e7 at aG;simp only[c7,jB,jD]at aG;have ae:∀{α:Type} (f:α->I) (l:List α),(∀x,bO (f x))->cX n (.sl false (l.map f)):=fun f l an=>(bO.sl false _ fun z a2=>by obtain⟨w, -,rfl⟩:=bP.1 a2;exact an w).cl n
 rcases aG with rfl|rfl|rfl|rfl|rfl|rfl|rfl|rfl|rfl|rfl|rfl|rfl|rfl|rfl|rfl|rfl|rfl<;>first|exact .int _ _|exact .osl _ _ _ _ _ _ aw|exact ae _ _ fun x=>by simp only[go_sem]
def q9(P:Program)(f:FuncId)(args:List I)(i j:Nat)(who:Int)(u:eR)(x':bn)(G:ab):Prop:=c5 P f (.ref i 0 0::args) G (fun v H'=>v=.a0 []∧H'=e5 G i j who u x')
theorem pc{i j:Nat}{who:Int}{u:eR}{x x':bn}{G A L:ab}(h:ha i j who u x G)(cf:A=e5 G i j who u x'):
  ∃H1 gk y,A++L=H1++gk∧H1.length=G.length∧(∀(k:Nat) (b:bu),H1[k]?=some b->G[k]?=some b∨dp G.length b)∧cQ G.length (A++L) (.a0 []) y∧(y=.a0 []∧H1=e5 G i j who u x'):=by
 subst cf;refine⟨_,L,_,rfl,yE _ _ _ _ _ _,fun k b hk=>?_,.cl _ (.a0 _ fun _ _ J=>by simp at J),rfl,rfl⟩
 unfold e5 at hk;rcases pI (aG2 h.fR who u x') k b hk with hk|hk
 ·exact pI (aFZ _ _) k b hk
 ·exact .inr hk
theorem Hg{i j:Nat}{who:Int}{u:eR}{x x':bn}{G A:ab}(h:ha i j who u x G)(cf:A=e5 G i j who u x'):
  ∃H1 gk y,A=H1++gk∧H1.length=G.length∧(∀(k:Nat) (b:bu),H1[k]?=some b->G[k]?=some b∨dp G.length b)∧cQ G.length A (.a0 []) y∧(y=.a0 []∧H1=e5 G i j who u x'):=by
 have:=pc (L:=[]) h cf;rwa[b2]at this
end
section
def QF:List cR:=[.free,.pure 0,.pure 0,.pure 0,.pure 0,.free,.free,.pure 0,.pure 0,.pure 0,.pure 0,.pure 0,.pure 0,.eff [false,true,false,false,false,false,false,false,false,false]]
def QG:List cR:=[.free,.pure 0,.pure 0,.pure 0,.pure 0,.free,.pure 0,.pure 0,.pure 0,.free,.pure 0,.pure 0,.pure 0,.pure 0,.free,.pure 0,.pure 0,.pure 0,.pure 0,.pure 0,.free,.pure 0,.pure 0,.pure 0,.pure 0,.pure 0,.eff [false,false,false,false,false,false,false,false,false,false,false,false,false,false,false,false,false,false,false,false,false]]
def QH:List cR:=[.free,.pure 0,.pure 0,.pure 0,.pure 0,.pure 0,.pure 0,.free,.pure 0,.pure 0,.pure 0,.pure 0,.pure 0,.pure 0,.pure 0,.pure 0,.pure 0,.pure 0,.pure 0,.eff [false,false,false,false,false,false,false,false,false,false,false,false,false,false,false,false,false]]
attribute [go_sem] QF QG QH
theorem LD{i j:Nat}{who:Int}{u:eR}{x:bn}{G:ab}(aa:ha i j who u x G)(hl:x.aq.length<=40)(n:Int):q9 Tryz.prog 47 [.int .i64 n] i j who u {x with aq:=kF x.time x.aq n} G:=by
 refine eJ Tryz.func47 ?_;have kv:=mT [(2,QF)];have a8:=aa.aV;have aU:=bz aa.aV trivial;have a3:=aa.bm;have lM:=bz aa.bm trivial;have a1:=aa.a1;have a4:=aa.a4;have eh:=aa.eh;have e6:=aa.e6;simp only[e7]at a8 aU eh e6;have bq:=sV aa.e3 aa.fR aa.ne;have g4:=dE (enc:=aR) (s:=18) (fun _=>rfl) x.aq
 unfold kF gJ;by_cases aC:0<=n
 ·have d0:decide (0<=n)=true:=cF aC;by_cases h1:n<x.aq.length
  ·have d1:decide (n<(x.aq.length:Int))=true:=cF h1;obtain⟨k,rfl⟩:∃k:Nat,n=(k:Int):=⟨n.toNat,by omega⟩
   have hk:k<x.aq.length:=by omega
   rw[aF ⟨aC,h1⟩,j6,eP,c0 hk,oJ];have cK:=sJ (enc:=aR) (s:=18) (f:=8) (X:=[.bool true]) (fun _=>rfl) hk (by decide) {x.aq[k]with ended:=true} rfl
   have dc:=sJ (enc:=aR) (s:=18) (f:=12) (X:=[.int .i64 x.time]) (D:=x.aq.set k {x.aq[k]with ended:=true}) (k:=k) (fun _=>rfl) (by rw[gj];exact hk) (by simp) {x.aq[k]with ended:=true,end_:=x.time} (by rw[vE];rfl)
   rw[List.set_set]at dc;have cO:(aI aR (x.aq.set k {x.aq[k]with ended:=true})).length=x.aq.length * 18:=by rw[dE (enc:=aR) (s:=18) (fun _=>rfl),gj]
   have iJ:k * 18+13<=x.aq.length * 18:=by omega
   have hV:(k * 18+13<=x.aq.length * 18)=True:=bJ iJ;have a2:((0:Int)<=(k:Int)∧(k:Int)<(x.aq.length:Int))=True:=bJ ⟨aC,h1⟩;refine b0 @aX ?_;exact Hg aa (aa.aq (by simp))
  ·have d1:decide (n<(x.aq.length:Int))=false:=b8 h1;rw[az (fun h=>h1 h.2)]
   refine b0 @aX ?_;exact Hg aa aa.own.symm
 ·have d0:decide (0<=n)=false:=b8 aC;rw[az (fun h=>aC h.1)]
  refine b0 @aX ?_;exact Hg aa aa.own.symm
theorem Gr{i j:Nat}{who:Nat}{u:eR}{x:bn}{G:ab}(aa:ha i j who u x G)(hl:x.aq.length<=40){t:ba}(aj:x.aq[who]?=some t)(hs:q8 t):q9 Tryz.prog 79 [] i j who u {x with aq:=gJ x.aq who fun t=>dj t u} G:=by
 refine eJ Tryz.func79 ?_;have kv:=mT [(0,QG)];obtain⟨hk,rfl⟩:=cA.1 aj;rw[mr aj];have a8:=aa.aV;have aU:=bz aa.aV trivial;have a3:=aa.bm;have lM:=bz aa.bm trivial;have a1:=aa.a1;have a4:=aa.a4;have eh:=aa.eh;have e6:=aa.e6;simp only[e7]at a8 aU eh e6;have bq:=sV aa.e3 aa.fR aa.ne;have g4:=dE (enc:=aR) (s:=18) (fun _=>rfl) x.aq
 have N0:=Sq false false false x.aq[who] u hs;have fj:=om (enc:=aR) (s:=18) (fun _=>rfl) hk
 have av:=w4 (enc:=aR) (s:=18) (fun _=>rfl) hk (dj x.aq[who] u)
 simp only[aR,g9,jd,oF,I.cells]at N0 fj av;refine b0 @aX ?_;exact Hg aa (aa.aq (by simp))
theorem TK{i j:Nat}{who:Int}{u:eR}{x:bn}{G:ab}(aa:ha i j who u x G)(hl:x.aq.length<=40)(h:cM)(hs:∀t∈x.aq,q8 t):q9 Tryz.prog 81 [a6 h] i j who u {x with aq:=kJ x.aq h} G:=by
 refine eJ Tryz.func81 ?_;have kv:=mT [(3,QH)];obtain⟨qB,n⟩:=h;have a8:=aa.aV;have aU:=bz aa.aV trivial;have a3:=aa.bm;have lM:=bz aa.bm trivial;have a1:=aa.a1;have a4:=aa.a4;have eh:=aa.eh;have e6:=aa.e6;simp only[e7]at a8 aU eh e6;have bq:=sV aa.e3 aa.fR aa.ne;have g4:=dE (enc:=aR) (s:=18) (fun _=>rfl) x.aq
 unfold kJ gJ;by_cases aC:0<=n
 ·have d0:decide (0<=n)=true:=cF aC;by_cases h1:n<x.aq.length
  ·have d1:decide (n<(x.aq.length:Int))=true:=cF h1;obtain⟨k,rfl⟩:∃k:Nat,n=(k:Int):=⟨n.toNat,by omega⟩
   have hk:k<x.aq.length:=by omega
   rw[aF ⟨aC,h1⟩,j6,eP,c0 hk,oJ];have N0:=Sq false false false x.aq[k] ⟨1,qB⟩ (hs _ (hv hk));have fj:=om (enc:=aR) (s:=18) (fun _=>rfl) hk
   have av:=w4 (enc:=aR) (s:=18) (fun _=>rfl) hk (dj x.aq[k] ⟨1,qB⟩)
   simp only[aR,g9,jd,oF,I.cells]at N0 fj av;refine b0 (hC a6.eq_1 @aX) ?_;exact pc aa (aa.aq (by simp))
  ·have d1:decide (n<(x.aq.length:Int))=false:=b8 h1;rw[az (fun h=>h1 h.2)]
   refine b0 (hC a6.eq_1 @aX) ?_;exact pc aa aa.own.symm
 ·have d0:decide (0<=n)=false:=b8 aC;rw[az (fun h=>aC h.1)]
  refine b0 (hC a6.eq_1 @aX) ?_;exact pc aa aa.own.symm
end
section
structure r2 (x:bn):Prop where
 n:x.aq.length<=40
 uq:∀t∈x.aq,q8 t
 held:x.t.held.length<=1000000
 waits:x.t.waits.length<=1000000
 EX:x.g.waits.length<=1000000
theorem ha.next{i j:Nat}{who:Int}{u:eR}{x:bn}{G:ab}(h:ha i j who u x G)(fr dZ:bn)(L:ab):e5 (e5 G i j who u fr++L) i j who u dZ=e5 G i j who u dZ++L:=by rw[(h.put fr).Cr,h.AW]
def PB:List cR:=[.free,.pure 0,.pure 0,.pure 0,.pure 0,.free,.pure 0,.pure 0,.pure 0,.free,.pure 0,.pure 0,.pure 0,.pure 0,.pure 0,.free,.free,.free,.eff [true,true,true,true,true,true,true,true,true,true,true,true],.eff [false,false,false,false,false,false,false,false,false,false,false,false],.free]
def QI:List cR:=[.free,.pure 0,.pure 0,.pure 0,.pure 0,.free,.pure 0,.pure 0,.pure 0,.free,.pure 0,.pure 0,.pure 0,.pure 0,.pure 0,.free,.free,.free,.free,.eff [true,true,true,true,true,true,true,true,true,true,true,true],.eff [false,false,false,false,false,false,false,false,false,false,false,false],.free,.free]
def QJ:List cR:=[.free,.pure 0,.pure 0,.pure 0,.pure 0,.free,.pure 0,.pure 0,.pure 0,.free,.pure 0,.pure 0,.pure 0,.pure 0,.free,.pure 0,.pure 0,.pure 0,.pure 0,.pure 0,.pure 0,.pure 0,.free,.free,.free,.eff [true,true,true,true,true,true,true,true,true,true,true,true,true,true,true,true,true,true],.eff [false,false,false,false,false,false,false,false,false,false,false,false,false,false,false,false,false,false],.free]
def QK:List cR:=[.free,.pure 0,.pure 0,.pure 0,.pure 0,.free,.pure 0,.pure 0,.pure 0,.free,.pure 0,.pure 0,.pure 0,.pure 0,.pure 0,.pure 0,.eff [false,true,false,false,false,false,false,false,false,false,false,false,false]]
attribute [go_sem] PB QI QJ QK
theorem aEw{i j:Nat}{who:Nat}{u:eR}{x:bn}{G:ab}(aa:ha i j who u x G)(a2:r2 x){t:ba}(aj:x.aq[who]?=some t)(hu:u.kind=1):q9 Tryz.prog 50 [] i j who u (vT who u.lock x) G:=by
 refine eJ Tryz.func50 ?_;have a8:=aa.aV;have aU:=bz aa.aV trivial;have a3:=aa.bm;have lM:=bz aa.bm trivial;have a1:=aa.a1;have a4:=aa.a4;have eh:=aa.eh;have e6:=aa.e6;simp only[e7]at a8 aU eh e6;have bq:=sV aa.e3 aa.fR aa.ne;have jZ:=aGD false false x.t who u.lock a2.held a2.waits;unfold vT;obtain⟨⟨t1,b⟩,ax⟩:∃r,v8 x.t who u.lock=r:=⟨_,rfl⟩;rw[ax]at jZ ⊢;simp only[fN,BP]at jZ;have h1:=aa.one (x':={x with t:=t1}) rfl
 simp only[e7]at h1;cases b with
 |false=>
  repeat' first|((first|refine mx [0] PB ?_|refine ad ?_);simp only[go_sem,a8,aU,a3,a1,a4,eh,e6,lM,bq,aX,h1])|refine af ?_|fail
  exact pc aa rfl
 |true=>
  repeat' first|((first|refine mx [0] PB ?_|refine ad ?_);simp only[go_sem,a8,aU,a3,a1,a4,eh,e6,lM,bq,aX,h1])|refine af ?_|fail
  refine c6 (Gr ((aa.put {x with t:=t1}).app _) a2.n aj (a2.uq _ (df aj))) aA ?_
  rintro v H' ⟨rfl,rfl⟩;rw[aa.next];simp only[go_sem];repeat' first|(refine ad ?_;simp only[go_sem])|refine af ?_|fail
  obtain⟨vn,ul⟩:=u;simp only at hu;subst hu;exact pc aa rfl
theorem aEx{i j:Nat}{who:Nat}{u:eR}{x:bn}{G:ab}(aa:ha i j who u x G)(a2:r2 x)(ix:∀t∈(gJ x.aq who fun t=>dj t u),q8 t){t:ba}(aj:x.aq[who]?=some t)(hu:u.kind=2):q9 Tryz.prog 51 [] i j who u (vU who u.lock x) G:=by
 refine eJ Tryz.func51 ?_;have kv:=mT [(0,QI)];have a8:=aa.aV;have aU:=bz aa.aV trivial;have a3:=aa.bm;have lM:=bz aa.bm trivial;have a1:=aa.a1;have a4:=aa.a4;have eh:=aa.eh;have e6:=aa.e6;simp only[e7]at a8 aU eh e6;have bq:=sV aa.e3 aa.fR aa.ne;have jZ:=aB5 false false x.t who u.lock a2.held a2.waits;unfold vU;obtain⟨⟨t1,b⟩,ax⟩:∃r,fo x.t who u.lock=r:=⟨_,rfl⟩;rw[ax]at jZ ⊢;simp only[fN]at jZ;have h1:=aa.one (x':={x with t:=t1}) rfl
 simp only[e7]at h1;obtain⟨vn,ul⟩:=u;simp only at hu;subst hu;cases b with
 |none=>
  simp only[Be,A8]at jZ;refine b0 @aX ?_;refine c6 (Gr ((aa.put {x with t:=t1}).app _) a2.n aj (a2.uq _ (df aj))) aA ?_
  rintro v H' ⟨rfl,rfl⟩;rw[aa.next];simp only[go_sem];repeat' first|(refine ad ?_;simp only[go_sem])|refine af ?_|fail
  exact pc aa rfl
 |some n=>
  simp only[oJ,xp]at jZ;refine b0 @aX ?_;refine c6 (Gr ((aa.put {x with t:=t1}).app _) a2.n aj (a2.uq _ (df aj))) aA ?_
  rintro v H' ⟨rfl,rfl⟩;rw[aa.next];have aQ:=(aa.put {x with t:=t1,aq:=gJ x.aq who fun t=>dj t ⟨2,ul⟩}).app [bu.cells 0 [.sl false (t1.held.map a6),.sl false (t1.waits.map a6)]]
  have aO:=aQ.aV;have bF:=bz aO trivial;simp only[e7]at aO bF;simp only[go_sem];refine bW ?_;refine c6 (TK aQ (by simp only[yT];exact a2.n) ⟨ul,n⟩ ix) aA ?_
  rintro v H' ⟨rfl,rfl⟩;rw[aa.next];simp only[go_sem];repeat' first|(refine ad ?_;simp only[go_sem])|refine af ?_|fail
  exact pc aa rfl
theorem aEy{i j:Nat}{who:Nat}{u:eR}{x:bn}{G:ab}(aa:ha i j who u x G)(a2:r2 x){t:ba}(aj:x.aq[who]?=some t):q9 Tryz.prog 53 [] i j who u (vY who t x) G:=by
 refine eJ Tryz.func53 ?_;have kv:=mT [(0,QJ)];have a8:=aa.aV;have aU:=bz aa.aV trivial;have a3:=aa.bm;have lM:=bz aa.bm trivial;have a1:=aa.a1;have a4:=aa.a4;have eh:=aa.eh;have e6:=aa.e6;simp only[e7]at a8 aU eh e6;have bq:=sV aa.e3 aa.fR aa.ne;have jZ:=aEr false x.g who t.upto a2.EX;have g4:=dE (enc:=aR) (s:=18) (fun _=>rfl) x.aq
 have hk:=(cA.1 aj).1;have mJ:(aI aR x.aq).getD (who * 18+9) .top=.int .i64 t.upto:=by
  unfold aI;rw[eP,yw (s:=18) (es:=x.aq.map aR) (k:=who) (j:=9) (e:=aR t) (x:=.int .i64 t.upto) (fun e he=>by(obtain⟨x, -,rfl⟩:=bP.1 he;rfl)) (by rw[nj,aj];rfl) rfl]
  rfl
 have gr:((0:Int)<=(who:Int)∧(who:Int)<(x.aq.length:Int))=True:=bJ ⟨by omega,by omega⟩
 have ix:(who * 18+9<x.aq.length * 18)=True:=bJ (by omega)
 unfold vY;obtain⟨⟨t1,b⟩,ax⟩:∃r,vV x.g who t.upto=r:=⟨_,rfl⟩;rw[ax]at jZ ⊢;simp only[kN]at jZ;have h1:=aa.one (x':={x with g:=t1}) rfl
 have h2:=fun L=>bQ (aa.put {x with g:=t1}).aV trivial L
 simp only[e7]at h1 h2;cases b with
 |false=>
  refine b0 @aX ?_;exact pc aa rfl
 |true=>
  refine b0 @aX ?_;have aQ:=(aa.put {x with g:=t1}).app [bu.cells 0 [.int .i64 t1.kept,.sl false (t1.waits.map cq)]]
  refine c6 (LD aQ a2.n who) aA ?_;rintro v H' ⟨rfl,rfl⟩;rw[aa.next];simp only[go_sem];repeat' first|(refine ad ?_;simp only[go_sem])|refine af ?_|fail
  exact pc aa rfl
theorem aBP{i j:Nat}{who:Nat}{u:eR}{x:bn}{G:ab}(aa:ha i j who u x G)(a2:r2 x){t:ba}(aj:x.aq[who]?=some t)(hu:u=⟨5,0⟩):q9 Tryz.prog 54 [] i j who u (xL who x) G:=by
 subst hu;refine eJ Tryz.func54 ?_;have kv:=mT [(1,QK)];refine aT ?_;refine c6 (Gr aa a2.n aj (a2.uq _ (df aj))) aA ?_;rintro v H' ⟨rfl,rfl⟩;have hk:=(cA.1 aj).1;unfold xL;rw[mr aj,mr aj];have kf:=aa.put {x with aq:=x.aq.set who (dj t ⟨5,0⟩)}
 obtain⟨cZ,fh⟩:∃cZ,e5 G i j who ⟨5,0⟩ {x with aq:=x.aq.set who (dj t ⟨5,0⟩)}=cZ:=⟨_,rfl⟩;rw[fh]at kf ⊢;have g4:(aI aR (x.aq.set who (dj t ⟨5,0⟩))).length=x.aq.length * 18:=by rw[dE (enc:=aR) (s:=18) (fun _=>rfl),gj]
 have dc:=sJ (enc:=aR) (s:=18) (f:=12) (X:=[.int .i64 x.time]) (D:=x.aq.set who (dj t ⟨5,0⟩)) (k:=who) (fun _=>rfl) (by rw[gj];exact hk) (by simp) {dj t ⟨5,0⟩with end_:=x.time} (by rw[vE];rfl)
 rw[List.set_set]at dc;have gr:((0:Int)<=(who:Int)∧(who:Int)<(x.aq.length:Int))=True:=bJ ⟨by omega,by omega⟩
 have ix:(who * 18+13<=x.aq.length * 18)=True:=bJ (by omega)
 have a8:=kf.aV;have a3:=kf.bm;have aS4:=fun v Y=>dT kf.fR (.cells v Y)
 simp only[e7,gj]at a8;simp only[go_sem];refine bW ?_;refine Hg aa ?_;rw[kf.aq (l:=x.aq.set who {dj t ⟨5,0⟩with end_:=x.time}) (by simp),<-fh,aa.AW]
end
section
abbrev se:hS->I:=il false false
theorem aEz(x:hS):bO (se x):=.agg _ fun y aG=>by
 simp only[c7,jB,jD]at aG;rcases aG with rfl|rfl|rfl|rfl|rfl
 ·exact .int _ _
 ·exact .str _
 ·exact .sl _ _ fun x J=>by(obtain⟨y, -,rfl⟩:=bP.1 J;exact .str _)
 ·exact .int _ _
 ·exact .sl _ _ fun x J=>by(obtain⟨y, -,rfl⟩:=bP.1 J;simp only[ct,go_sem])
theorem aAq(m:cb)(c:b3)(l:List b3):qY m (c::l)=((qY (dz m c).1 l).1,(dz m c).2.1::(qY (dz m c).1 l).2):=rfl
theorem aBQ(f1 f2 f3 f4 b:Bool)(m:cb)(h:ey m)(l:List b3)(hl:l.length<=1000)(al:∀c∈l,jh c)(H:ab):
  aY Tryz.prog 22 [dv f1 f2 f3 f4 m,.sl b (l.map cJ)] H (.a0 [dv false false false false (qY m l).1,.sl false ((qY m l).2.map (il false false))]):=by
 refine bh Tryz.func22 ?_;have kT:(l.length * 80<=140737488355328)=True:=bJ (by omega)
 repeat' first|(refine ad ?_;simp only[go_sem,dv,gf,kT])|refine bx ?_|(refine bD ?_ ?_<;>intro h<;>try exact bB h)|fail
 refine Dq H.length (dv false false false false m).cells (v:=0) (cs:=(dv f1 f2 f3 f4 m).cells) (by simp only[go_sem];rfl) rfl (dh (.sl _ _) (dh (.sl _ _) (dh (.refl _) (dh (.refl _) (dh (.sl _ _) (dh (.sl _ _) (dh (.refl _) mF))))))) ?_
 simp only[go_sem];obtain⟨Z,Ja⟩:∃Z,Z=List.flatMap I.cells (List.replicate l.length (I.agg [.int .i64 0,.str [],.sl true [],.int .i64 0,.sl true []])):=⟨_,rfl⟩;have VA:Z.length=l.length * 5:=by
  rw[Ja];induction l.length with
  |zero=>rfl
  |succ n ay=>rw[Ba,qe,bt,ay];simp[I.cells];omega
 rw[<-Ja];obtain⟨qk,zL⟩:∃B:List I,B=[.sl true [],.sl true [],.int .i64 0,.int .i64 0,.sl true [],.sl true [],.int .i64 0]:=⟨_,rfl⟩;rw[<-zL];obtain⟨R,e2⟩:∃R,R=qY m l:=⟨_,rfl⟩;rw[<-e2];refine b5 (ι:=Nat×cb×List hS×ab) (fun s=>[(2,.ref H.length 0 0),(4,.ref (H.length+1) 0 0),(6,.osl 5 (H.length+2) 1 0 s.1 l.length),(13,.sl b (l.map cJ)),(14,.int .i64 l.length),(15,.int .i64 s.1)])
  (fun s=>H++(.cells 0 (dv false false false false s.2.1).cells::.cells 0 qk::.cells 1 (aI se s.2.2.1++Z.drop (s.1 * 5))::s.2.2.2))
  (fun s=>s.1<=l.length∧s.2.2.1.length=s.1∧ey s.2.1∧R=((qY s.2.1 (l.drop s.1)).1,s.2.2.1++(qY s.2.1 (l.drop s.1)).2)) (fun s=>l.length-s.1) (0,m,[],[]) ⟨bG _,rfl,h,by simp[e2]⟩ ?_ ?_ ?_
 ·simp[go_sem]
 ·simp[Hc]
 rintro⟨k,mk,we,M⟩ ⟨hk,zR,gF,ax⟩;simp only at hk zR gF ax ⊢;obtain⟨G,aT⟩:∃G,H++(.cells 0 (dv false false false false mk).cells::.cells 0 qk::.cells 1 (aI se we++Z.drop (k * 5))::M)=G:=⟨_,rfl⟩;rw[aT];have cw:ao G H.length=.cells 0 (dv false false false false mk).cells:=by rw[<-aT];simp only[go_sem]
 have a7:ao G (H.length+2)=.cells 1 (aI se we++Z.drop (k * 5)):=by rw[<-aT];simp only[go_sem]
 have gs:∀X Y,ai (ai G (H.length+2) Y) H.length X=H++(X::.cells 0 qk::Y::M):=fun X Y=>by rw[<-aT];simp only[go_sem]
 have aZ:∀L,ai (G++L) (H.length+1)=ai (G++L) (H.length+1):=fun L=>rfl
 have a8:=cw;have aU:=bz cw trivial;have a3:=bz a7 trivial;have cH:=c8 cw trivial;have cO:=c8 a7 trivial;have a1:=fun X L=>bQ (bM a7 (show ¬H.length=H.length+2 by omega) X) trivial L;have a4:=fun X=>bM a7 (show ¬H.length=H.length+2 by omega) X;have bL:=aX G (H.length);have bq:=mq cH cO (show H.length<H.length+2 by omega) rfl
 have eu:=dE (enc:=se) (s:=5) (fun _=>rfl) we
 rw[zR]at eu;by_cases ak:k<l.length
 ·have cG:=dg cJ ak;have kz:=eo ak;rw[kz,aAq]at ax;have fk:=al _ (hv ak);obtain⟨c,hj⟩:∃c,c=l[k]:=⟨_,rfl⟩;rw[<-hj]at cG ax fk;have j0:=Ik false false false false mk gF c fk;have wF:=xO gF c;obtain⟨⟨k0,bZ,AE⟩,o8⟩:∃r,dz mk c=r:=⟨_,rfl⟩;rw[o8]at j0 ax wF;simp only[wg,dv,gf,cJ,il]at j0;simp only[cJ]at cG;have aH:decide ((k:Int)<(l.length:Int))=true:=b1;have hw:=dW ak (by omega)
  have m6:(k=l.length)=False:=uy (by omega)
  have dK:dw (aI se we++Z.drop (k * 5)) (k * 5) (se bZ).cells=aI se (we++[bZ])++Z.drop ((k+1) * 5):=by
   rw[m0 eu,iu,pK,Hc,Bg,b2,cr];congr 3;show k * 5+5=_;omega
  simp only[il,I.cells]at dK;have sB:(aI se we++Z.drop (k * 5)).length=l.length * 5:=by rw[bt,gL,eu,VA];omega
  have jN:(∀e,e=I.agg [.int .i64 bZ.err,.str bZ.data,.sl false (bZ.names.map I.str),.int .i64 bZ.n,.sl false (bZ.events.map ct)]->e.cells.length=5)=True:=bJ (fun e he=>by rw[he];rfl)
  repeat' first|(refine ad ?_;simp only[go_sem,a8,aU,a3,a1,a4,bL,bq,aX,dv,gf,cG,aH,ak,m6,dK,sB,jN])|refine bx ?_|(refine bD ?_ ?_<;>intro h<;>try exact bB h)|fail
  refine⟨(k+1,k0,we++[bZ],M++[.cells 0 (cJ c).cells,.cells 0 (se bZ).cells]),⟨ak,by simp[zR],wF,by rw[ax];simp⟩,by simp only;omega,⟨rfl,bH _ hw⟩,?_⟩
  rw[gs];simp[il,cJ,I.cells]
 ·have g3:k=l.length:=by omega
  have aH:decide ((k:Int)<(l.length:Int))=false:=cg;rw[g3,l7]at ax;simp only[qY,b2]at ax;have aI1:Z.drop (k * 5)=[]:=by rw[g3,<-VA,l7]
  rw[aI1,b2]at aT;rw[<-aT];repeat' first|(refine ad ?_;simp only[go_sem,dv,gf,aH,zL])|refine bx ?_|(refine bD ?_ ?_<;>intro h<;>try exact bB h)|fail
  rw[ax];exact⟨_,.a0 [dv false false false false mk,.sl false (we.map se)],rfl,.a0 _ _ rfl (dV (.cl _ ((bO.cl (x:=dv false false false false mk) (by simp only[go_sem])) _)) (dV (tV (enc:=se) (D:=we) (by omega) (by simp only[go_sem]) zR (fun _=>rfl) aEz) gY)),rfl⟩
end
end Go.Proofs.YthafnbmdmfoobaaGreatDoor
