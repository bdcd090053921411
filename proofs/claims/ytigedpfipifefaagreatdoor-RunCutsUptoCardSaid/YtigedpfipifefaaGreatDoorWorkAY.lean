/- What the functions of this seat answer (25 of 40). No condition. -/
import Derived.Test.YtigedpfipifefaaGreatDoorWorkAW
set_option linter.unusedSimpArgs false
set_option linter.unusedVariables false
set_option maxRecDepth 100000
set_option maxHeartbeats 16000000
namespace Go.Proofs.YtigedpfipifefaaGreatDoor
structure OS (o:Ord):Prop where
 path:o.call.path.length≤1048576
 to:o.call.to.length≤1048576
 data:o.call.data.length≤1048576
 n:o.call.n≤9223372036854775807
 pick:o.pick≤9223372036854775807
 picks:o.picks.length≤1048576
theorem jM{t:Txt}(h:t.length≤9223372036854775807):(bW t).length≤9+t.length:=by
 have:=bU h;unfold bW;rw[zAa];omega
theorem jN{p q:Int}{t:Txt}(h:t.length≤9223372036854775807):(kZ p q t).length≤9+t.length:=by
 unfold kZ;split
 ·simp
 ·exact jM h
theorem yH{c:Cal}(h1:c.path.length≤1048576)(h2:c.to.length≤1048576)(h3:c.data.length≤1048576)(h4:c.n≤9223372036854775807):(pN c).length≤3145773:=by
 unfold pN;split
 ·simp
 ·rename_i p hp;have h0:=lJ hp;have a0:=bU (n:=c.kind.toNat) (by omega)
  have a1:=jN (p:=p) (q:=1) (t:=c.path) (by omega)
  have a2:=jN (p:=p) (q:=2) (t:=c.to) (by omega)
  have a3:=jN (p:=p) (q:=4) (t:=c.data) (by omega)
  have a4:(iE p c.n).length≤9:=by
   unfold iE;split
   ·simp
   ·exact bU (by omega)
  simp only[zAa];omega
theorem oN{o:Ord}(h:bZ o=true):o.kind=1∧chkC o.call=true∨o.kind=2∧0≤o.pick∨o.kind=3∨o.kind=4:=by
 unfold bZ at h
 (repeat' split at h)<;>simp_all
theorem aEa{o:Ord}(hs:OS o)(h:bZ o=true):(nK o).length≤3145782:=by
 have hk:=oN h;have a0:=bU (n:=o.kind.toNat) (by omega)
 have a1:=yH hs.path hs.to hs.data hs.n;have a2:=bU (n:=o.pick.toNat) (by have:=hs.pick;omega)
 have a3:=jM (t:=o.picks) (by have:=hs.picks;omega)
 have:=hs.picks;unfold nK;rw[zAa]
 (repeat' split)<;>first|omega|(simp;omega)
def uB:List Pl:=[.free,.free,.pure 0,.pure 0,.pure 0,.free,.pure 0,.eff [false,false,true,true],.pure 0,.pure 0,.eff [false,true,false,false]]
attribute [go_sem] uB
theorem aBg(s:Txt){i j k:Nat}{t:Txt}{R:List AV}{H:AHeap}(hw:WR i j k t R H)(hs:s.length≤1099511627776)(hb:t.length≤137438953472000):
  WrC Tryz.prog 26 i j [.str s] H (.tup []) (t++bW s) R:=by
 refine aW Tryz.func26 ?_;obtain⟨G,hG⟩:∃G,H=G:=⟨_,rfl⟩;rw[hG]at hw ⊢;have g0:=hw.b1;have g2:=hw.b2;unfold wrC at g0;have hne:=hw.ne;have r0:=g0;have r1:=cY g0 trivial;have r2:=cY g2 trivial;have hl1:=bC g0 trivial;have hl2:=bC g2 trivial;have r3:=fun X L=>aK (aR g2 (show ¬i=j by omega) X) trivial L;have r4:=fun X=>aR g2 (show ¬i=j by omega) X;have hnl:=bF G (i);have qs:=aD5 hl1 hl2 (show i<j by omega) (rfl);have r5:=fun X=>aR g0 (show ¬j=i by omega) X;have r6:=fun X v Y=>bX (show i<(aA G j X).length by rw[bF];omega) (.cells v Y);have r7:=fun X L=>aK (r5 X) trivial L
 have hv:∀H,bJ Tryz.prog 17 [.str [],.str s] H (.str (bW s)):=fun H=>by simpa using rS [] s (by simp) (by omega) (by simp;omega) H
 have hl:=jM (t:=s) (by omega)
 generalize bW s=T at *;have hl8:((t.length+T.length) * 1≤140737488355328)=True:=zBf (by omega)
 repeat' first|((first|refine mx [0] uB ?_|refine gS ?_);simp only[go_sem,g2,r0,r1,r2,r3,r4,r5,r6,r7,hnl,qs,hl8])|refine gA ?_|(refine gD ?_ ?_<;>intro h<;>try exact aD h)|fail
 exact⟨k+1,by unfold lP wrC;rw[qJ,zAa]⟩
def aJJ(o:Ord):Txt:=if bZ o=true then nK o else[]
theorem uC(n:Int):kH [n]=aV n.toNat:=by simp[kH]
theorem aEb(o:Ord){i j k:Nat}{t:Txt}{R:List AV}{H:AHeap}(hw:WR i j k t R H)(hR:∀x∈R,Cl H.length x)(ho:OS o)(hb:t.length≤137438950000000):
  WrC Tryz.prog 37 i j [eH o] H (.bool (bZ o)) (t++aJJ o) R:=by
 refine aO Tryz.func37 ?_;have hc:=fZ o ho.path ho.to;unfold aJJ;cases hk:bZ o with
 |false=>
  rw[hk]at hc;repeat' first|(refine gS ?_;simp only[go_sem,eH])|refine gA ?_|(refine gD ?_ ?_<;>intro h<;>try exact aD h)|fail
  exact lB hw hR (.cl _ (.bool _)) hw.own.symm
 |true=>
  rw[hk]at hc;rw[zAp rfl];have hkd:=oN hk;have h9:=bU (n:=o.kind.toNat) (by omega)
  repeat' first|(refine gS ?_;simp only[go_sem,eH])|refine gA ?_|(refine gD ?_ ?_<;>intro h<;>try exact aD h)|fail
  refine aG (nN true [o.kind] (hw.app _) (by simp;omega) (by simp) (by omega)) (cO) ?_
  rintro v H' ⟨rfl,k1,rfl⟩;rw[hw.happ,uC];have hl:=vN H i j k1 (t++aV o.kind.toNat) R;have hw1:=hw.put k1 (t++aV o.kind.toNat) R;have htw:=fun t' k'=>hw.twice k1 k' (t++aV o.kind.toNat) t' R R
  have hTl:(t++aV o.kind.toNat).length≤t.length+9:=by rw[zAa];omega
  have hput:t++nK o=(t++aV o.kind.toNat)++(if o.kind=1 then pN o.call else if o.kind=2 then aV o.pick.toNat else if o.kind=4 then bW o.picks else[]):=by unfold nK;rw[zAe]
  rw[hput];generalize lP H i j k1 (t++aV o.kind.toNat) R=G at *;generalize t++aV o.kind.toNat=T at *;have g0:=hw1.b1;have g2:=hw1.b2;unfold wrC at g0;have hne:=hw1.ne;have r0:=g0;have r1:=cY g0 trivial;have r2:=cY g2 trivial;have hl1:=bC g0 trivial;have hl2:=bC g2 trivial;have r3:=fun X L=>aK (aR g2 (show ¬i=j by omega) X) trivial L;have r4:=fun X=>aR g2 (show ¬i=j by omega) X;have hnl:=bF G (i);have qs:=aD5 hl1 hl2 (show i<j by omega) (hl);have r5:=fun X=>aR g0 (show ¬j=i by omega) X;have r6:=fun X v Y=>bX (show i<(aA G j X).length by rw[bF];omega) (.cells v Y);have r7:=fun X L=>aK (r5 X) trivial L
  rcases hkd with⟨hk1,hc1⟩|⟨hk1,hp1⟩|hk1|hk1
  ·have hp:=aJI [] o.call ho.path ho.to ho.data ho.n (by simp)
   have hpl:=yH ho.path ho.to ho.data ho.n;rw[zAp hc1]at hp;rw[zAp hk1];simp only[zAJ,pB]at hp;generalize pN o.call=X at *;have hl8:((T.length+X.length) * 1≤140737488355328)=True:=zBf (by omega)
   simp only[go_sem];repeat' first|(refine gS ?_;simp only[go_sem,hk1,g2,r0,r1,r2,r3,r4,r5,r6,r7,hnl,qs,hl8])|refine gA ?_|(refine gD ?_ ?_<;>intro h<;>try exact aD h)|fail
   exact lB hw hR (.cl _ (.bool _)) (by rw[←htw _ (k1+1)];unfold lP wrC;rw[qJ,zAa])
  ·rw[zAk (by omega),zAp hk1]
   simp only[go_sem];repeat' first|(refine gS ?_;simp only[go_sem,hk1,g2,r0,r1,r2,r3,r4,r5,r6,r7,hnl,qs])|refine gA ?_|(refine gD ?_ ?_<;>intro h<;>try exact aD h)|fail
   refine aG (nN true [o.pick] (hw1.app _) (by have:=ho.pick;simp;omega) (by simp) (by omega)) (cO) ?_
   rintro v H' ⟨rfl,k2,rfl⟩;rw[hw1.happ,uC];simp only[go_sem];repeat' first|(refine gS ?_;simp only[go_sem])|refine gA ?_|(refine gD ?_ ?_<;>intro h<;>try exact aD h)|fail
   exact lB hw hR (.cl _ (.bool _)) (htw _ _)
  ·rw[zAk (by omega),zAk (by omega),zAk (by omega)]
   simp only[go_sem];repeat' first|(refine gS ?_;simp only[go_sem,hk1,g2,r0,r1,r2,r3,r4,r5,r6,r7,hnl,qs])|refine gA ?_|(refine gD ?_ ?_<;>intro h<;>try exact aD h)|fail
   exact lB hw hR (.cl _ (.bool _)) (by rw[←htw _ k1];exact hw1.own.symm)
  ·rw[zAk (by omega),zAk (by omega),zAp hk1]
   simp only[go_sem];repeat' first|(refine gS ?_;simp only[go_sem,hk1,g2,r0,r1,r2,r3,r4,r5,r6,r7,hnl,qs])|refine gA ?_|(refine gD ?_ ?_<;>intro h<;>try exact aD h)|fail
   refine aG (aBg o.picks (hw1.app _) (by have:=ho.picks;omega) (by omega)) (cO) ?_
   rintro v H' ⟨rfl,k2,rfl⟩;rw[hw1.happ];simp only[go_sem];repeat' first|(refine gS ?_;simp only[go_sem])|refine gA ?_|(refine gD ?_ ?_<;>intro h<;>try exact aD h)|fail
   exact lB hw hR (.cl _ (.bool _)) (htw _ _)
def lC(r s:Int)(l:List Ord):Bool:=decide (0≤r)&&(decide (r≤63)&&(decide (0≤s)&&(decide (s≤1000)&&l.all bZ)))
theorem uD(f:Bool)(r s:Int)(l:List Ord){i j k:Nat}{t:Txt}{R:List AV}{H:AHeap}(hw:WR i j k t R H)(hR:∀x∈R,Cl H.length x)(hr:r≤9223372036854775807)(hs:s≤9223372036854775807)(ho:∀o∈l,OS o)(hl:l.length≤1048576)(hb:t.length≤1000):
  ACalls Tryz.prog 20 [.ref i 0 0,.int .i64 r,.int .i64 s,.sl f (l.map eH)] H (fun x H'=>x=.bool (lC r s l)∧∃k T,H'=lP H i j k T R∧(lC r s l=true→T=t++(aV r.toNat++(aV s.toNat++iJ l)))):=by
 refine aO Tryz.func20 ?_;repeat' first|(refine gS ?_;simp only[go_sem])|refine gA ?_|(refine gD ?_ ?_<;>intro h<;>try exact aD h)|fail
 ·have hf:lC r s l=false:=by
   rw[zBB];intro q;unfold lC at q;simp at q h;omega
  obtain⟨H1,L,y,a1,a2,a3,a4,a5,k1,a6⟩:=lB (L:=[]) hw hR (v:=.bool false) (.cl _ (.bool _)) hw.own.symm;rw[zAj]at a1 a4;exact⟨H1,L,y,a1,a2,a3,a4,by rw[a5,hf],k1,t,a6,fun q=>by rw[hf]at q;cases q⟩
 have hge:0≤r∧r≤63∧0≤s∧s≤1000:=by simp at h;omega
 have hok:lC r s l=l.all bZ:=by
  unfold lC;rw[zAg hge.1,zAg hge.2.1,zAg hge.2.2.1,zAg hge.2.2.2];rfl
 have h9:=bU (n:=r.toNat) (by omega)
 have h9':=bU (n:=s.toNat) (by omega)
 have hn2:kH [r,s]=aV r.toNat++aV s.toNat:=by simp[kH]
 refine aG (nN true [r,s] hw (by simp;omega) (by simp) (by omega)) (cO) ?_
 rintro v H' ⟨rfl,k0,rfl⟩;obtain⟨T,hT⟩:∃T:Nat→Txt,∀q,T q=t++(aV r.toNat++(aV s.toNat++iJ (l.take q))):=⟨_,fun _=>rfl⟩
 have hT0:T 0=t++kH [r,s]:=by rw[hT,hn2];simp[iJ]
 have hTs:∀q (h:q<l.length),T (q+1)=T q++nK l[q]:=fun q h=>by rw[hT,hT,zAl h];unfold iJ;rw[zBi];simp only[zAF,zBQ,zAj,zAe]
 have hTl:∀q,q≤l.length→(l.take q).all bZ=true→(T q).length≤1018+3145782 * q:=by
  intro q;induction q with
  |zero=>intro _ _;rw[hT];simp[iJ];omega
  |succ q ih=>
   intro h hc;rw[zAl (by omega),zBZ,zAc]at hc
   have:=ih (by omega) hc.1
   have:=aEa (ho _ (zAK (show q<l.length by omega))) (by simpa using hc.2)
   rw[hTs q (by omega),zAa]
   omega
 rw[←hT0];simp only[go_sem];repeat' first|(refine gS ?_;simp only[go_sem])|refine gA ?_|(refine gD ?_ ?_<;>intro h<;>try exact aD h)|fail
 refine aH (ι:=Nat×Nat×AHeap) (fun x=>[(0,.ref i 0 0),(1,.int .i64 r),(2,.int .i64 s),(3,.sl f (l.map eH)),(30,.sl f (l.map eH)),(31,.int .i64 l.length),(32,.int .i64 x.1)]) (fun x=>lP H i j x.2.1 (T x.1) R++x.2.2) (fun x=>x.1≤l.length∧(l.take x.1).all bZ=true) (fun x=>l.length-x.1) (0,k0,[]) ⟨zAv _,by simp⟩ ?_ (by simp) ?_
 ·simp[go_sem]
 rintro⟨q,k1,M⟩ ⟨hq,hc⟩;simp only at hq hc ⊢;have hw1:=hw.put k1 (T q) R;by_cases hlt:q<l.length
 ·have hp:=bO eH hlt;have hli:decide ((q:Int)<(l.length:Int))=true:=dT;have hTq:=hTl q hq hc;have hTs':=hTs q hlt;have hlen:=vN H i j k1 (T q) R;have key:∀k2 T2 B,lP (lP H i j k1 (T q) R++M++[B]) i j k2 T2 R=lP H i j k2 T2 R++(M++[B]):=fun k2 T2 B=>by
   rw[zAe,hw1.happ,hw.twice]
  have hwG:=hw1.app M;obtain⟨G,hG⟩:∃G,lP H i j k1 (T q) R++M=G:=⟨_,rfl⟩;have hGl:H.length≤G.length:=by rw[←hG,zAa,hlen];omega
  have ho1:=ho _ (zAK hlt);have hcs:(l.take (q+1)).all bZ=bZ l[q]:=by rw[zAl hlt,zBZ,hc];simp
  have hcq:bZ l[q]=false→l.all bZ=false:=fun e=>by
   rw[zBB];intro w;have:=zAx.1 w _ (zAK hlt);rw[e]at this;cases this
  rw[hG]at hwG key ⊢;generalize l[q]=o at *;repeat' first|(refine gS ?_;simp only[go_sem,hp,hli,eH])|refine gA ?_|(refine gD ?_ ?_<;>intro h<;>try exact aD h)|fail
  refine aG (aEb o (hwG.app _) (fun x hx=>(hR x hx).mono (by rw[zAa];omega)) ho1 (by omega)) (cO) ?_
  rintro v H' ⟨rfl,k2,rfl⟩;rw[key];unfold aJJ;cases hck:bZ o with
  |true=>
   rw[zAp rfl,←hTs'];simp only[go_sem];repeat' first|(refine gS ?_;simp only[go_sem])|refine gA ?_|(refine gD ?_ ?_<;>intro h<;>try exact aD h)|fail
   exact⟨(q+1,k2,M++[_]),⟨hlt,by rw[hcs];exact hck⟩,by simp only;omega,zA5 _ (cA hlt (by omega)),rfl⟩
  |false=>
   rw[zAk (by decide)]
   simp only[go_sem];repeat' first|(refine gS ?_;simp only[go_sem])|refine gA ?_|(refine gD ?_ ?_<;>intro h<;>try exact aD h)|fail
   obtain⟨H1,L,y,a1,a2,a3,a4,a5,k3,a6⟩:=lB (L:=M++[.cells 0 (eH o).cells]) hw hR (v:=.bool false) (.cl _ (.bool _)) rfl;exact⟨H1,L,y,a1,a2,a3,a4,by rw[a5,hok,hcq hck],k3,_,a6,fun w=>by rw[hok,hcq hck]at w;cases w⟩
 ·have hie:q=l.length:=by omega
  subst hie;rw[zAG]at hc;repeat' first|(refine gS ?_;simp only[go_sem,hlt])|refine gA ?_|(refine gD ?_ ?_<;>intro h<;>try exact aD h)|fail
  obtain⟨H1,L,y,a1,a2,a3,a4,a5,k3,a6⟩:=lB (L:=M) hw hR (v:=.bool true) (.cl _ (.bool _)) rfl;exact⟨H1,L,y,a1,a2,a3,a4,by rw[a5,hok,hc],k3,_,a6,fun _=>by rw[hT,zAG]⟩
end Go.Proofs.YtigedpfipifefaaGreatDoor
