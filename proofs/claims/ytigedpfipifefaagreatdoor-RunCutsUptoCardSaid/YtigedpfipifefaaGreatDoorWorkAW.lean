/- What the functions of this seat answer (23 of 40). No condition. -/
import Derived.Test.YtigedpfipifefaaGreatDoorWorkAU
set_option linter.unusedSimpArgs false
set_option linter.unusedVariables false
set_option linter.unusedSectionVars false
set_option maxRecDepth 100000
set_option maxHeartbeats 16000000
namespace Go.Proofs.YtigedpfipifefaaGreatDoor
section
theorem fZ(o:Ord)(hp:o.call.path.length≤1048576)(ht:o.call.to.length≤1048576)(H:AHeap):bJ Tryz.prog 12 [eH o] H (.bool (bZ o)):=by
 refine fO Tryz.func12 ?_;have hc:=rO o.call hp ht;obtain⟨kd,⟨ck,pa,to,da,n⟩,pk,ps⟩:=o;unfold eH;unfold pB at hc;simp only at hc ⊢;repeat' first|(refine gS ?_;simp only[go_sem])|refine gA ?_|(refine gD ?_ ?_<;>intro h<;>try exact aD h)|fail
 all_goals exact dY (.of (by first|(simp_all[bZ,gR];done)|(simp_all[bZ,gR];grind)))
end
section
def wrC(j k:Nat)(t:Txt)(R:List AV):List AV:=.osl 1 j (k+1) 0 t.length t.length::R
structure WR (i j k:Nat) (t:Txt) (R:List AV) (G:AHeap):Prop where
 ne:i<j
 b1:hget G i=.cells 0 (wrC j k t R)
 b2:hget G j=.cells (k+1) (bA t)
def lP(G:AHeap)(i j k:Nat)(t:Txt)(R:List AV):AHeap:=aA (aA G j (.cells (k+1) (bA t))) i (.cells 0 (wrC j k t R))
theorem vN(G:AHeap)(i j k:Nat)(t:Txt)(R:List AV):(lP G i j k t R).length=G.length:=by unfold lP;rw[bF,bF]
section
variable {i j k:Nat} {t:Txt} {R:List AV} {G:AHeap} (h:WR i j k t R G)
include h
theorem WR.lt1:i<G.length:=bC h.b1 trivial
theorem WR.lt2:j<G.length:=bC h.b2 trivial
theorem WR.own:lP G i j k t R=G:=by unfold lP;rw[eL h.b2 trivial,eL h.b1 trivial]
theorem WR.app(L:AHeap):WR i j k t R (G++L):=⟨h.ne,aK h.b1 trivial L,aK h.b2 trivial L⟩
theorem WR.happ(k':Nat)(t':Txt)(R':List AV)(L:AHeap):lP (G++L) i j k' t' R'=lP G i j k' t' R'++L:=by
 unfold lP;rw[bQ h.lt2,bQ (by rw[bF];exact h.lt1)]
theorem WR.put(k':Nat)(t':Txt)(R':List AV):WR i j k' t' R' (lP G i j k' t' R'):=by
 have hne:¬j=i:=by have:=h.ne;omega
 refine⟨h.ne,bX (by rw[bF];exact h.lt1) _,?_⟩
 unfold lP;rw[fV _ _ _ hne];exact bX (by rw[bF];exact h.lt2) _
theorem WR.twice(k1 k2:Nat)(t1 t2:Txt)(R1 R2:List AV):lP (lP G i j k1 t1 R1) i j k2 t2 R2=lP G i j k2 t2 R2:=by
 have hne:¬j=i:=by have:=h.ne;omega
 unfold lP;rw[fV (aA G j _) _ _ (fun e=>hne e.symm),cB,cB]
end
def WrC(P:Program)(f:FuncId)(i j:Nat)(args:List AV)(G:AHeap)(v:AV)(t:Txt)(R:List AV):Prop:=ACalls P f (.ref i 0 0::args) G (fun x H'=>x=v∧∃k,H'=lP G i j k t R)
def kH(l:List Int):Txt:=l.flatMap fun n=>aV n.toNat
theorem aMT{n j:Nat}(hj:j<n)(k:Nat)(t:Txt){R:List AV}(hR:∀x∈R,Cl n x):ClB n (.cells 0 (wrC j k t R)):=fun x hx=>by
 unfold wrC at hx;rcases zAC.1 hx with rfl|hx
 ·exact .osl _ _ _ _ _ _ hj
 ·exact hR x hx
theorem aHL(n v:Nat)(t:Txt):ClB n (.cells v (bA t)):=fun x hx=>by
 obtain⟨b, -,rfl⟩:=zAi.1 hx;exact .int _ _
theorem lB{i j k k':Nat}{t t':Txt}{R R':List AV}{G A L:AHeap}(h:WR i j k t R G)(hR:∀x∈R',Cl G.length x){v w:AV}(hv:Frz G.length (A++L) v w)(hA:A=lP G i j k' t' R'):
  ∃H1 L' y,A++L=H1++L'∧H1.length=G.length∧(∀(k:Nat) (b:ABlk),H1[k]?=some b→G[k]?=some b∨ClB G.length b)∧Frz G.length (A++L) v y∧(y=w∧∃k,H1=lP G i j k t' R'):=by
 subst hA;refine⟨_,L,_,rfl,vN _ _ _ _ _ _,fun k b hk=>?_,hv,rfl,_,rfl⟩
 unfold lP at hk;rcases iA (aMT h.lt2 k' t' hR) k b hk with hk|hk
 ·exact iA (aHL _ _ _) k b hk
 ·exact .inr hk
theorem bU{n:Nat}(h:n≤9223372036854775807):(aV n).length≤9:=fX n h
end
section
theorem nN(f:Bool)(l:List Int){i j k:Nat}{t:Txt}{R:List AV}{H:AHeap}(hw:WR i j k t R H)(hl:∀n∈l,n≤9223372036854775807)(hl2:l.length≤1000)(hb:t.length≤140737479966720):
  WrC Tryz.prog 34 i j [.sl f (l.map sG)] H (.tup []) (t++kH l) R:=by
 refine aW Tryz.func34 ?_;repeat' first|(refine gS ?_;simp only[go_sem])|refine gA ?_|(refine gD ?_ ?_<;>intro h<;>try exact aD h)|fail
 obtain⟨D,hD⟩:∃D:Nat→Txt,∀q,D q=t++kH (l.take q):=⟨_,fun _=>rfl⟩
 have hDs:∀q (h:q<l.length),D (q+1)=D q++aV l[q].toNat:=fun q h=>by rw[hD,hD,zAl h];unfold kH;rw[zBi,←zAe];simp only[zAF,zBQ,zAj]
 have hDl:∀q,q≤l.length→(D q).length≤t.length+9 * q:=by
  intro q;induction q with
  |zero=>intro _;rw[hD];simp[kH]
  |succ q ih=>
   intro h;have h3:=bU (n:=l[q].toNat) (by have:=hl _ (zAK (show q<l.length by omega));omega)
   rw[hDs q (by omega),zAa]
   have:=ih (by omega)
   omega
 have hD0:D 0=t:=by rw[hD];simp[kH]
 refine aH (ι:=Nat) (fun q=>[(0,.ref i 0 0),(8,.sl f (l.map sG)),(9,.int .i64 l.length),(10,.int .i64 q)]) (fun q=>lP H i j (k+q) (D q) R) (fun q=>q≤l.length) (fun q=>l.length-q) 0 (zAv _) ?_ (by rw[hD0];exact hw.own.symm) ?_
 ·simp[go_sem]
 intro q hq;have hw1:=hw.put (k+q) (D q) R;have ht:=fun t'=>hw.twice (k+q) (k+(q+1)) (D q) t' R R
 have hK:k+(q+1)=k+q+1:=rfl;rw[hK]at ht;generalize hKq:k+q=K at *;obtain⟨G,hG⟩:∃G,lP H i j K (D q) R=G:=⟨_,rfl⟩;rw[hG]at hw1 ht ⊢;have hdl:=hDl q hq;by_cases hlt:q<l.length
 ·have hn:=hl _ (zAK hlt);have hs:=hDs q hlt;generalize D q=T at hs hw1 ht hG hdl ⊢;have g0:=hw1.b1;have g2:=hw1.b2;unfold wrC at g0;have hne:=hw1.ne;have r0:=g0;have r1:=cY g0 trivial;have r2:=cY g2 trivial;have hl1:=bC g0 trivial;have hl2:=bC g2 trivial;have r3:=fun X L=>aK (aR g2 (show ¬i=j by omega) X) trivial L;have r4:=fun X=>aR g2 (show ¬i=j by omega) X;have hnl:=bF G (i);have qs:=aD5 hl1 hl2 (show i<j by omega) (rfl);have r5:=fun X=>aR g0 (show ¬j=i by omega) X;have r6:=fun X v Y=>bX (show i<(aA G j X).length by rw[bF];omega) (.cells v Y);have r7:=fun X L=>aK (r5 X) trivial L
  have hp:=bO sG hlt;have hli:decide ((q:Int)<(l.length:Int))=true:=dT;have hmx:max l[q] 0=((l[q].toNat:Nat):Int):=by omega
  have h9:=bU (n:=l[q].toNat) (by omega)
  have hv:∀H,bJ Tryz.prog 33 [.str [],.sl true [.int .i64 l[q].toNat]] H (.tup [.str (aV l[q].toNat),.int .i64 0]):=fun H=>by simpa using kC [] l[q].toNat true (by omega) (by simp) H
  repeat' first|(refine gS ?_;simp only[go_sem,hp,hli,hmx,sG,g2,r0,r1,r2,r3,r4,r5,r6,r7,hnl,qs])|refine gA ?_|(refine gD ?_ ?_<;>intro h<;>try exact aD h)|fail
  refine⟨q+1,hlt,by omega,zA5 _ (cA hlt (by omega)),?_⟩
  rw[hs,show k+(q+1)=K+1 by omega,←ht]
  unfold lP wrC;rw[qJ,zAa]
 ·have hie:q=l.length:=by omega
  subst hie;repeat' first|(refine gS ?_;simp only[go_sem,hlt])|refine gA ?_|(refine gD ?_ ?_<;>intro h<;>try exact aD h)|fail
  exact⟨_,by rw[←hG,hD,zAG]⟩
end
section
theorem aHM(a b:Ord):(decide (a.kind=b.kind)&&(decide (a.call.kind=b.call.kind)&&(decide (a.call.path=b.call.path)&&(decide (a.call.to=b.call.to)&&(decide (a.call.data=b.call.data)&&decide (a.call.n=b.call.n))))&&(decide (a.pick=b.pick)&&decide (a.picks=b.picks))))=decide (a=b):=by
 obtain⟨_,⟨_,_,_,_,_⟩,_,_⟩:=a;obtain⟨_,⟨_,_,_,_,_⟩,_,_⟩:=b;rw[Bool.eq_iff_iff];simp[and_assoc]
theorem rV(b1 b2:Bool)(l m:List Ord)(H:AHeap):bJ Tryz.prog 13 [.sl b1 (l.map eH),.sl b2 (m.map eH)] H (.bool (decide (l=m))):=by
 refine pO fun hok _=>?_
 have hl:=tA hok;rw[zAs]at hl;refine fO Tryz.func13 ?_;repeat' first|(refine gS ?_;simp only[go_sem])|refine gA ?_|(refine gD ?_ ?_<;>intro h<;>try exact aD h)|fail
 ·exact cU (.of (by rw[zAh (fun e=>by subst e;simp at h)]))
 ·have hlen:l.length=m.length:=by simp at h;omega
  refine aH (ι:=Nat) (fun i=>[(0,.sl b1 (l.map eH)),(1,.sl b2 (m.map eH)),(5,.int .i64 i)]) (fun _=>H) (fun i=>i≤l.length∧l.take i=m.take i) (fun i=>l.length-i) 0 ⟨zAv _,rfl⟩ ?_ rfl ?_
  ·simp[go_sem]
  ·rintro i ⟨hi,he⟩;by_cases hlt:i<l.length
   ·have hp:=bO eH hlt;have hq:=bO eH (show i<m.length by omega)
    repeat' first|(refine gS ?_;simp only[go_sem,hp,hq,eH])|refine gA ?_|(refine gD ?_ ?_<;>intro h<;>try exact aD h)|fail
    ·rw[aHM]at h;have hne:l[i]≠m[i]:=by simpa using h
     exact cU (.of (by rw[zAh (fun e=>hne (by subst e;rfl))]))
    ·rw[aHM]at h;have heq:l[i]=m[i]:=by simpa using h
     exact⟨i+1,⟨hlt,by rw[zAl hlt,zAl (by omega),he,heq]⟩,by omega,by rw[wI];rfl⟩
   ·have hi':i=l.length:=by omega
    subst hi';repeat' first|(refine gS ?_;simp only[go_sem])|refine gA ?_|(refine gD ?_ ?_<;>intro h<;>try exact aD h)|fail
    exact cU (.of (by rw[zAg (by rw[zAG,hlen,zAG]at he;exact he)]))
end
section
def gN(o:Ord):Bool:=aDS [o.call] 1&& !decide ((1000:Int)<(o.picks.length:Int))
def vO(l:List Ord)(n:Int):Bool:=l.all gN&&decide ((l.length:Int)≤n)
theorem aBf(b1:Bool)(l:List Ord)(n:Int)(H:AHeap):bJ Tryz.prog 9 [.sl b1 (l.map eH),.int .i64 n] H (.bool (vO l n)):=by
 refine pO fun hok _=>?_
 have hl:=tA hok;rw[zAs]at hl;refine fO Tryz.func9 ?_;repeat' first|(refine gS ?_;simp only[go_sem])|refine gA ?_|(refine gD ?_ ?_<;>intro h<;>try exact aD h)|fail
 refine aH (ι:=Nat) (fun i=>[(0,.sl b1 (l.map eH)),(1,.int .i64 n),(5,.int .i64 i)]) (fun _=>H) (fun i=>i≤l.length∧∀x∈l.take i,gN x=true) (fun i=>l.length-i) 0 ⟨zAv _,by simp⟩ ?_ rfl ?_
 ·simp[go_sem]
 ·rintro i ⟨hi,he⟩;by_cases hlt:i<l.length
  ·have hp:=bO eH hlt;have hf:=aND true [l[i].call] 1;simp only[zAV,zBr,pB]at hf;repeat' first|(refine gS ?_;simp only[go_sem,hp,eH])|refine gA ?_|(refine gD ?_ ?_<;>intro h<;>try exact aD h)|fail
   ·exact cU (.of (by
     have h':gN l[i]=false:=by
      rw[zBB];intro q;unfold gN at q;rw[zAc]at q;rw[q.1]at h;simp_all
     have:vO l n=false:=by
      unfold vO;rw[Bool.and_eq_false_iff];left;rw[zBB];intro q;have q2:=zAx.1 q l[i] (zAK _);rw[h']at q2;cases q2
     rw[this]))
   ·refine⟨i+1,⟨hlt,fun x hx=>?_⟩,by omega,by rw[wI];rfl⟩
    rw[zAl hlt,zAM]at hx;rcases hx with hx|hx
    ·exact he x hx
    ·simp at hx;subst hx;unfold gN;revert h;cases aDS [l[i].call] 1<;>simp
  ·have hie:i=l.length:=by omega
   subst hie;repeat' first|(refine gS ?_;simp only[go_sem,hlt])|refine gA ?_|(refine gD ?_ ?_<;>intro h<;>try exact aD h)|fail
   exact cU (.of (by
    have:l.all gN=true:=zAx.2 (by simpa using he)
    rw[vO,this,zAE]))
end
end Go.Proofs.YtigedpfipifefaaGreatDoor
