/- What the functions of this seat answer (33 of 40). No condition. -/
import Derived.Test.YtigedpfipifefaaGreatDoorWorkBD
set_option linter.unusedSimpArgs false
set_option linter.unusedVariables false
set_option linter.unusedSectionVars false
set_option maxRecDepth 100000
set_option maxHeartbeats 16000000
namespace Go.Proofs.YtigedpfipifefaaGreatDoor
section
variable {lt:dV→dV→Bool} {c:dV→dV→Int} {fn:Fn} {fs cs:List AV}
theorem aJQ(hw:Sort.SWO lt)(hc:∀x y,decide (c x y<0)=lt x y)(hf:nJ Tryz.prog (.func fn fs cs) c):∀(k:Nat) {d:Array dV} {a b n lc blk v:Nat} {lim:Int},b-a≤k→n=d.size→n≤1073741824→b≤n→a≤b→(0≤lim∧lim≤1073741824)→Sort.Below lt a b d→
  ∀(H:AHeap),hget H blk=.cells v (dC d)→ACalls Tryz.prog 182 [.osl 1 blk v 0 n lc,.int .i64 a,.int .i64 b,.int .i64 lim,.func fn fs cs] H
   (fun r H'=>∃d',Sort.PermIn a b d d'∧Sort.SortedIn lt a b d'∧r=.tup []∧H'=aA H blk (.cells v (dC d'))):=by
 intro k;induction k with
 |zero=>
  intro d a b n lc blk v lim hk hn hl hb hab hlim hB H hh;refine aO Tryz.func182 ?_;have hw0:IntKind.i64.wrap ((b:Int)-(a:Int))=((b-a:Nat):Int):=aB (by omega) (by omega)
  have hli:decide (((b-a:Nat):Int)≤12)=true:=dT;repeat' first|(refine gS ?_;simp only[go_sem])|refine hU ?_|fail
  refine aH (ι:=Unit) (fun _=>[(0,.osl 1 blk v 0 n lc),(1,.int .i64 a),(2,.int .i64 b),(3,.int .i64 lim),(4,.func fn fs cs)]) (fun _=>H) (fun _=>True) (fun _=>0) () trivial ?_ rfl ?_
  ·simp[go_sem]
  rintro _ _;repeat' first|(refine gS ?_;simp only[go_sem,hw0,hli])|refine hU ?_|fail
  refine aG (aDV hc hf hn hl hb hab H hh) (cO) ?_;rintro r H' ⟨rfl,rfl⟩;simp only[go_sem];repeat' first|(refine gS ?_;simp only[go_sem])|refine hU ?_|fail
  obtain⟨s1,s2⟩:=Sort.insertionSort_holds hw d a b hab (by omega)
  exact eN (dL _ _ _) _ ⟨_,s1,s2,rfl,rfl⟩
 |succ k ih=>
  intro d a0 b0 n lc blk v lim0 hk hn hl hb0 hab0 hlim0 hB0 H hh;refine aO Tryz.func182 ?_;have hg:=fun b=>fK hh trivial b
  have hs:=eA H blk;repeat' first|(refine gS ?_;simp only[go_sem])|refine hU ?_|fail
  refine aH (ι:=Nat×Nat×Int×Bool×Bool×Array dV) (fun s=>[(0,.osl 1 blk v 0 n lc),(1,.int .i64 s.1),(2,.int .i64 s.2.1),(3,.int .i64 s.2.2.1),(4,.func fn fs cs),(10,.bool s.2.2.2.1),(11,.bool s.2.2.2.2.1)]) (fun s=>aA H blk (.cells v (dC s.2.2.2.2.2)))
   (fun s=>(a0≤s.1∧s.1≤s.2.1∧s.2.1≤b0)∧s.2.2.2.2.2.size=n∧(0≤s.2.2.1∧s.2.2.1≤1073741824)∧Sort.Below lt s.1 s.2.1 s.2.2.2.2.2∧∀R,Sort.PermIn s.1 s.2.1 s.2.2.2.2.2 R→Sort.SortedIn lt s.1 s.2.1 R→Sort.PermIn a0 b0 d R∧Sort.SortedIn lt a0 b0 R)
   (fun s=>s.2.1-s.1) (a0,b0,lim0,true,true,d) ⟨⟨zAb _,hab0,zAb _⟩,hn.symm,hlim0,hB0,fun R h1 h2=>⟨h1,h2⟩⟩ ?_ (iT hh trivial).symm ?_
  ·simp[go_sem]
  rintro⟨a,b,lim,wb,wp,E⟩ ⟨⟨p1,p2,p3⟩,hE,hlim,hB,hfin⟩;simp only at p1 p2 p3 hE hlim hB hfin ⊢;have hw0:IntKind.i64.wrap ((b:Int)-(a:Int))=((b-a:Nat):Int):=aB (by omega) (by omega)
  by_cases c0:b-a≤12
  ·have hli:decide (((b-a:Nat):Int)≤12)=true:=dT;repeat' first|(refine gS ?_;simp only[go_sem,hw0,hli])|refine hU ?_|fail
   refine aG (aDV hc hf hE.symm hl (by omega) p2 _ (hg _)) (cO) ?_
   rintro r H' ⟨rfl,rfl⟩;simp only[go_sem,hs];repeat' first|(refine gS ?_;simp only[go_sem])|refine hU ?_|fail
   obtain⟨s1,s2⟩:=Sort.insertionSort_holds hw E a b p2 (by omega)
   obtain⟨t1,t2⟩:=hfin _ s1 s2;exact eN (dL _ _ _) _ ⟨_,t1,t2,rfl,rfl⟩
  have hli:decide (((b-a:Nat):Int)≤12)=false:=dF;by_cases c1:lim=0
  ·have hli1:decide (lim=0)=true:=zAg c1;repeat' first|(refine gS ?_;simp only[go_sem,hw0,hli,hli1])|refine hU ?_|fail
   refine aG (aGl hc hf hE.symm hl (by omega) (by omega) _ (hg _)) (cO) ?_
   rintro r H' ⟨rfl,rfl⟩;simp only[go_sem,hs];repeat' first|(refine gS ?_;simp only[go_sem])|refine hU ?_|fail
   obtain⟨s1,s2⟩:=Sort.heapSort_holds hw E a b p2 (by omega)
   obtain⟨t1,t2⟩:=hfin _ s1 s2;exact eN (dL _ _ _) _ ⟨_,t1,t2,rfl,rfl⟩
  have hli1:decide (lim=0)=false:=zAh c1;repeat' first|(refine gS ?_;simp only[go_sem,hw0,hli,hli1])|refine gA ?_|fail
  refine cJ rfl (fun h=>by cases h) (fun _=>?_)
  repeat' first|(refine gS ?_;simp only[go_sem,hw0,hli,hli1])|refine gA ?_|fail
  refine cJ rfl (fun h=>by cases h) (fun _=>?_)
  repeat' first|(refine gS ?_;simp only[go_sem,hw0,hli,hli1])|refine gA ?_|fail
  refine jZ (ι:=Int×Array dV) (fun s=>[(0,.osl 1 blk v 0 n lc),(1,.int .i64 a),(2,.int .i64 b),(4,.func fn fs cs),(10,.bool wb),(11,.bool wp),(12,.int .i64 (b-a:Nat)),(3,.int .i64 s.1)]) (fun s=>aA H blk (.cells v (dC s.2))) (fun s=>(0≤s.1∧s.1≤1073741824)∧Sort.PermIn a b E s.2) ?_ ?_
  ·cases wb with
   |true=>
    repeat' first|(refine gS ?_;simp only[go_sem])|refine hU ?_|fail
    exact⟨(lim,E),⟨hlim,Sort.permIn_refl _ _ _⟩,rfl,rfl⟩
   |false=>
    have hwl:IntKind.i64.wrap (lim-1)=lim-1:=wI;repeat' first|(refine gS ?_;simp only[go_sem])|refine hU ?_|fail
    refine aG (aEg hE.symm hl (by omega) (by omega) _ _ (hg _)) (cO) ?_
    rintro r H' ⟨E1,q1,rfl,rfl⟩;simp only[go_sem,hs];repeat' first|(refine gS ?_;simp only[go_sem,hwl])|refine hU ?_|fail
    exact⟨(lim-1,E1),⟨⟨by simp only;omega,by simp only;omega⟩,q1⟩,rfl,rfl⟩
  clear hli1 c1 hlim;rintro⟨lim,E1⟩ ⟨hlim,q1⟩;simp only at hlim q1 ⊢;have hE1:E1.size=n:=by rw[q1.1];exact hE
  repeat' first|(refine gS ?_;simp only[go_sem])|refine gA ?_|fail
  refine aG (aCa hf hE1.symm hl (by omega) (by omega) _ (hg _)) (cO) ?_
  rintro r H' ⟨pv,hint,⟨v1,v2⟩,rfl,rfl⟩;simp only[go_sem];repeat' first|(refine gS ?_;simp only[go_sem])|refine gA ?_|fail
  refine jZ (ι:=Nat×Int×Array dV) (fun s=>[(0,.osl 1 blk v 0 n lc),(1,.int .i64 a),(2,.int .i64 b),(4,.func fn fs cs),(10,.bool wb),(11,.bool wp),(12,.int .i64 (b-a:Nat)),(3,.int .i64 lim),(13,.int .i64 s.1),(14,.int .i64 s.2.1)]) (fun s=>aA H blk (.cells v (dC s.2.2))) (fun s=>(a≤s.1∧s.1<b)∧Sort.PermIn a b E1 s.2.2) ?_ ?_
  ·have hw1:IntKind.i64.wrap ((b:Int)-1)=((b-1:Nat):Int):=aB (by omega) (by omega)
   have hw2:IntKind.i64.wrap ((pv:Int)-(a:Int))=((pv-a:Nat):Int):=aB (by omega) (by omega)
   have hw3:IntKind.i64.wrap (((b-1:Nat):Int)-((pv-a:Nat):Int))=((b-1-(pv-a):Nat):Int):=aB (by omega) (by omega)
   by_cases hh2:hint=2
   ·have hlh:decide (hint=2)=true:=zAg hh2;repeat' first|(refine gS ?_;simp only[go_sem,hlh])|refine hU ?_|fail
    refine aG (aJx hE1.symm hl (by omega) (by omega) _ _ (hg _)) (cO) ?_
    rintro r H' ⟨rfl,rfl⟩;simp only[go_sem,hs];repeat' first|(refine gS ?_;simp only[go_sem,hw1,hw2,hw3])|refine hU ?_|fail
    exact⟨(b-1-(pv-a),1,Sort.reverseRange E1 a b),⟨⟨by simp only;omega,by simp only;omega⟩,Sort.reverseRange_holds E1 a b p2 (by omega)⟩,⟨rfl,rfl⟩,rfl⟩
   ·have hlh:decide (hint=2)=false:=zAh hh2;repeat' first|(refine gS ?_;simp only[go_sem,hlh])|refine hU ?_|fail
    exact⟨(pv,hint,E1),⟨⟨v1,v2⟩,Sort.permIn_refl _ _ _⟩,⟨rfl,rfl⟩,rfl⟩
  clear v1 v2;rintro⟨pv,hint,E2⟩ ⟨⟨v1,v2⟩,q2⟩;simp only at v1 v2 q2 ⊢;have hE2:E2.size=n:=by rw[q2.1];exact hE1
  have q12:=Sort.permIn_trans _ _ _ _ _ q1 q2;have hB2:=hB.perm (by omega) q12
  repeat' first|(refine gS ?_;simp only[go_sem])|refine gA ?_|fail
  refine jZ (ι:=Array dV) (fun s=>[(0,.osl 1 blk v 0 n lc),(1,.int .i64 a),(2,.int .i64 b),(4,.func fn fs cs),(10,.bool wb),(11,.bool wp),(12,.int .i64 (b-a:Nat)),(3,.int .i64 lim),(13,.int .i64 pv)]) (fun s=>aA H blk (.cells v (dC s))) (fun s=>Sort.PermIn a b E2 s) ?_ ?_
  ·repeat' first|(refine gS ?_;simp only[go_sem])|refine gA ?_|(refine gD ?_ ?_<;>intro h<;>try exact aD h)|fail
   ·refine aG (aGr hc hf hE2.symm hl (by omega) (by omega) _ (hg _)) (cO) ?_
    rintro r H' ⟨rfl,rfl⟩;simp only[go_sem,hs];obtain⟨s1,s2⟩:=Sort.partialInsertionSort_holds hw E2 a b (by omega) (by omega) hB2
    repeat' first|(refine gS ?_;simp only[go_sem])|refine gA ?_|(refine gD ?_ ?_<;>intro h<;>try exact aD h)|fail
    ·obtain⟨t1,t2⟩:=hfin _ (Sort.permIn_trans _ _ _ _ _ q12 s1) (s2 (by assumption))
     exact eN (dL _ _ _) _ ⟨_,t1,t2,rfl,rfl⟩
    ·exact⟨_,s1,rfl⟩
   ·exact⟨E2,Sort.permIn_refl _ _ _,rfl⟩
  rintro E3 q3;have hE3:E3.size=n:=by rw[q3.1];exact hE2
  have q13:=Sort.permIn_trans _ _ _ _ _ q12 q3;have hB3:=hB.perm (by omega) q13
  have gp:=aP (d:=E3) (show pv<E3.size by omega)
  refine aJi (ι:=Unit) (fun _=>[(0,.osl 1 blk v 0 n lc),(1,.int .i64 a),(2,.int .i64 b),(3,.int .i64 lim),(4,.func fn fs cs),(10,.bool wb),(11,.bool wp),(12,.int .i64 (b-a:Nat)),(13,.int .i64 pv)]) (fun _=>aA H blk (.cells v (dC E3))) (fun _=>True) ?_ ?_
  ·by_cases ha:0<a
   ·have hla:decide ((0:Int)<(a:Int))=true:=dT;have hw1:IntKind.i64.wrap ((a:Int)-1)=((a-1:Nat):Int):=aB (by omega) (by omega)
    have ga:=aP (d:=E3) (show a-1<E3.size by omega)
    repeat' first|(refine gS ?_;simp only[go_sem,hla,hw1,hg,hs,ga,gp,zAo,aU,hE3])|refine hU ?_|fail
    refine bH hf ?_;simp only[go_sem,hc];cases hxy:lt E3[a-1]! E3[pv]! with
    |true=>
     repeat' first|(refine gS ?_;simp only[go_sem,hxy])|refine hU ?_|fail
     exact⟨(),trivial⟩
    |false=>
     repeat' first|(refine gS ?_;simp only[go_sem,hxy])|refine hU ?_|fail
     refine aG (aB0 hc hf hE3.symm hl (by omega) v1 v2 _ (hg _)) (cO) ?_
     rintro r H' ⟨rfl,rfl⟩;simp only[go_sem,hs];obtain⟨⟨mid,E4⟩,hpe⟩:∃x,Sort.partitionEqual lt E3 a b pv=x:=⟨_,rfl⟩;obtain⟨m1,m2,m3,m4,m5⟩:=Sort.round_eq hw (Sort.partitionEqual_holds lt) ha v1 v2 (by omega) hB3 hxy hpe
     rw[hpe];repeat' first|(refine gS ?_;simp only[go_sem])|refine hU ?_|fail
     exact⟨(mid,b,lim,wb,wp,E4),⟨⟨by simp only;omega,m2,p3⟩,by simp only;rw[m3];exact hE3,hlim,m4,fun R r1 r2=>by
      obtain⟨u1,u2⟩:=m5 R r1 r2;exact hfin R (Sort.permIn_trans _ _ _ _ _ q13 u1) u2⟩,by simp only;omega,⟨rfl,rfl,rfl,rfl,rfl⟩,rfl⟩
   ·have hla:decide ((0:Int)<(a:Int))=false:=dF;repeat' first|(refine gS ?_;simp only[go_sem,hla,hg,hs,gp,zAo,aU,hE3])|refine hU ?_|fail
    exact⟨(),trivial⟩
  rintro _ _;obtain⟨⟨mid,ap,E4⟩,hpt⟩:∃x,Sort.partition lt E3 a b pv=x:=⟨_,rfl⟩;obtain⟨m1,m2,m3,m4,m5,m6,m7⟩:=Sort.round_part hw (Sort.partition_holds lt) v1 v2 (by omega) hB3 hpt
  have hE4:E4.size=n:=by rw[m3];exact hE3
  repeat' first|(refine gS ?_;simp only[go_sem])|refine hU ?_|fail
  refine aG (aGq hc hf hE3.symm hl (by omega) v1 v2 _ (hg _)) (cO) ?_
  rintro r H' ⟨rfl,rfl⟩;simp only[go_sem,hs,hpt];have hw1:IntKind.i64.wrap ((mid:Int)-(a:Int))=((mid-a:Nat):Int):=aB (by omega) (by omega)
  have hw2:IntKind.i64.wrap ((b:Int)-(mid:Int))=((b-mid:Nat):Int):=aB (by omega) (by omega)
  have hw3:IntKind.i64.wrap ((mid:Int)+1)=((mid+1:Nat):Int):=aB (by omega) (by omega)
  by_cases hlr:mid-a<b-mid
  ·have hll:decide (((mid-a:Nat):Int)<((b-mid:Nat):Int))=true:=dT;repeat' first|(refine gS ?_;simp only[go_sem,hw1,hw2,hll])|refine hU ?_|fail
   refine aG (ih (d:=E4) (a:=a) (b:=mid) (by omega) hE4.symm hl (by omega) m1 hlim m4 _ (hg _)) (cO) ?_
   rintro r H' ⟨E5,x1,x2,rfl,rfl⟩;obtain⟨y1,y2⟩:=m6 E5 x1 x2;simp only[go_sem,hs];repeat' first|(refine gS ?_;simp only[go_sem,hw3])|refine hU ?_|fail
   exact⟨(mid+1,b,lim,_,ap,E5),⟨⟨by simp only;omega,by simp only;omega,p3⟩,by simp only;rw[x1.1];exact hE4,hlim,y1,fun R r1 r2=>by
    obtain⟨u1,u2⟩:=y2 R r1 r2;exact hfin R (Sort.permIn_trans _ _ _ _ _ q13 u1) u2⟩,by simp only;omega,⟨rfl,rfl,rfl,rfl,rfl⟩,rfl⟩
  ·have hll:decide (((mid-a:Nat):Int)<((b-mid:Nat):Int))=false:=dF;repeat' first|(refine gS ?_;simp only[go_sem,hw1,hw2,hll,hw3])|refine hU ?_|fail
   refine aG (ih (d:=E4) (a:=mid+1) (b:=b) (by omega) hE4.symm hl (by omega) (by omega) hlim m5 _ (hg _)) (cO) ?_
   rintro r H' ⟨E5,x1,x2,rfl,rfl⟩;obtain⟨y1,y2⟩:=m7 E5 x1 x2;simp only[go_sem,hs];repeat' first|(refine gS ?_;simp only[go_sem])|refine hU ?_|fail
   exact⟨(a,mid,lim,_,ap,E5),⟨⟨p1,m1,by simp only;omega⟩,by simp only;rw[x1.1];exact hE4,hlim,y1,fun R r1 r2=>by
    obtain⟨u1,u2⟩:=y2 R r1 r2;exact hfin R (Sort.permIn_trans _ _ _ _ _ q13 u1) u2⟩,by simp only;omega,⟨rfl,rfl,rfl,rfl,rfl⟩,rfl⟩
theorem aNF(hw:Sort.SWO lt)(hc:∀x y,decide (c x y<0)=lt x y)(hf:nJ Tryz.prog (.func fn fs cs) c){d:Array dV}{n lc blk v:Nat}(hn:n=d.size)(hl:n≤1073741824)(H:AHeap)(hh:hget H blk=.cells v (dC d)):
  ACalls Tryz.prog 152 [.osl 1 blk v 0 n lc,.func fn fs cs] H
   (fun r H'=>∃d',Sort.PermIn 0 n d d'∧Sort.SortedIn lt 0 n d'∧r=.tup []∧H'=aA H blk (.cells v (dC d'))):=by
 refine aO Tryz.func152 ?_;have hwu:IntKind.u64.wrap (n:Int)=(n:Int):=uH (by omega)
 repeat' first|(refine gS ?_;simp only[go_sem,hh,hwu])|refine hU ?_|fail
 refine aG (aHO n (by omega) _) (cO) ?_
 rintro r H' ⟨L,rfl,h1, -,rfl⟩;simp only[go_sem];refine aG (aJQ hw hc hf n (d:=d) (a:=0) (b:=n) (by omega) hn hl (zAb _) (zAv _) (lim:=(L:Int)) (by omega) (.inl rfl) _ hh) (cO) ?_
 rintro r H' ⟨d',s1,s2,rfl,rfl⟩;simp only[go_sem];repeat' first|(refine gS ?_;simp only[go_sem])|refine hU ?_|fail
 exact eN (dL _ _ _) _ ⟨_,s1,s2,rfl,rfl⟩
end
end Go.Proofs.YtigedpfipifefaaGreatDoor
