/- What the functions of this seat answer (27 of 40). No condition. -/
import Derived.Test.YtigedpfipifefaaGreatDoorWorkAV
set_option linter.unusedSimpArgs false
set_option linter.unusedVariables false
set_option linter.unusedSectionVars false
set_option maxRecDepth 100000
set_option maxHeartbeats 16000000
namespace Go.Proofs.YtigedpfipifefaaGreatDoor
theorem uE{H L:AHeap}{v:AV}(hp:Pur v)(R:AV→AHeap→Prop)(hR:R v H):
  ∃H1 M y,H++L=H1++M∧H1.length=H.length∧(∀(j:Nat) (c:ABlk),H1[j]?=some c→H[j]?=some c∨ClB H.length c)∧Frz H.length (H++L) v y∧R y H1:=
 ⟨H,L,v,rfl,rfl,fun _ _ h=>.inl h,.cl _ (hp.cl _),hR⟩
section
variable {lt:dV→dV→Bool} {c:dV→dV→Int} {fn:Fn} {fs cs:List AV}
def iG(s:Int):ABlk:=.cells 0 [.int .i64 s]
theorem vR(n:Nat)(s:Int):ClB n (iG s):=fun x hx=>by simp at hx;subst hx;exact .int _ _
theorem aAt(hf:nJ Tryz.prog (.func fn fs cs) c){d:Array dV}{a b n lc blk v i:Nat}{s:Int}(hn:n=d.size)(ha:a<n)(hb:b<n)(H:AHeap)(hh:hget H blk=.cells v (dC d))(hi:hget H i=iG s):
  ACalls Tryz.prog 308 [.osl 1 blk v 0 n lc,.int .i64 a,.int .i64 b,.ref i 0 0,.func fn fs cs] H
   (fun r H'=>∃(x y:Nat) (s':Int),(x=a∧y=b∨x=b∧y=a)∧r=.tup [.int .i64 x,.int .i64 y]∧H'=aA H i (iG s')):=by
 refine aO Tryz.func308 ?_;have ga:=aP (d:=d) (show a<d.size by omega)
 have gb:=aP (d:=d) (show b<d.size by omega)
 unfold iG at hi;repeat' first|(refine gS ?_;simp only[go_sem,hh,hi,ga,gb,zAo,aU,←hn])|refine hU ?_|fail
 refine bH hf ?_;simp only[go_sem];repeat' first|(refine gS ?_;simp only[go_sem,hh,hi])|refine gA ?_|(refine gD ?_ ?_<;>intro h<;>try exact aD h)|fail
 ·exact eE (vR _ _) (by simp only[go_sem]) _ ⟨b,a,_,.inr ⟨rfl,rfl⟩,rfl,rfl⟩
 ·have:=eE (H:=H) (i:=i) (v:=.tup [.int .i64 a,.int .i64 b]) (vR _ s) (by simp only[go_sem]) (fun r H'=>∃(x y:Nat) (s':Int),(x=a∧y=b∨x=b∧y=a)∧r=.tup [.int .i64 x,.int .i64 y]∧H'=aA H i (iG s')) ⟨a,b,s,.inl ⟨rfl,rfl⟩,rfl,rfl⟩
  rw[show aA H i (iG s)=H from iT hi trivial]at this
  exact this
theorem aAu(hf:nJ Tryz.prog (.func fn fs cs) c){d:Array dV}{a b e n lc blk v i:Nat}{s:Int}(hn:n=d.size)(ha:a<n)(hb:b<n)(he:e<n)(H:AHeap)(hh:hget H blk=.cells v (dC d))(hi:hget H i=iG s)(hne:i≠blk):
  ACalls Tryz.prog 270 [.osl 1 blk v 0 n lc,.int .i64 a,.int .i64 b,.int .i64 e,.ref i 0 0,.func fn fs cs] H
   (fun r H'=>∃(x:Nat) (s':Int),(x=a∨x=b∨x=e)∧r=.int .i64 x∧H'=aA H i (iG s')):=by
 refine aO Tryz.func270 ?_;have g1:=fun b=>aR hh hne b
 have g2:=fun b=>fK hi trivial b
 have g3:=eA H i;refine hG ?_;refine aG (aAt hf hn ha hb _ hh hi) (cO) ?_;rintro r H' ⟨x1,y1,s1,h1,rfl,rfl⟩;simp only[go_sem];refine hG ?_;refine aG (aAt hf hn (a:=y1) (b:=e) (by omega) he _ (g1 _) (g2 _)) (cO) ?_
 rintro r H' ⟨x2,y2,s2,h2,rfl,rfl⟩;simp only[go_sem,g3];refine hG ?_;refine aG (aAt hf hn (a:=x1) (b:=x2) (by omega) (by omega) _ (g1 _) (g2 _)) (cO) ?_
 rintro r H' ⟨x3,y3,s3,h3,rfl,rfl⟩;simp only[go_sem,g3];refine hG ?_;exact eE (vR _ _) (.int _ _) _ ⟨y3,s3,by omega,rfl,rfl⟩
theorem vS(hf:nJ Tryz.prog (.func fn fs cs) c){d:Array dV}{a n lc blk v i:Nat}{s:Int}(hn:n=d.size)(hl:n≤1073741824)(ha:1≤a)(ha2:a+1<n)(H:AHeap)(hh:hget H blk=.cells v (dC d))(hi:hget H i=iG s)(hne:i≠blk):
  ACalls Tryz.prog 269 [.osl 1 blk v 0 n lc,.int .i64 a,.ref i 0 0,.func fn fs cs] H
   (fun r H'=>∃(x:Nat) (s':Int),(a≤x+1∧x≤a+1)∧r=.int .i64 x∧H'=aA H i (iG s')):=by
 refine aO Tryz.func269 ?_;have hw1:IntKind.i64.wrap ((a:Int)-1)=((a-1:Nat):Int):=aB (by omega) (by omega)
 have hw2:IntKind.i64.wrap ((a:Int)+1)=((a+1:Nat):Int):=aB (by omega) (by omega)
 repeat' first|(refine gS ?_;simp only[go_sem,hw1,hw2])|refine hU ?_|fail
 refine aG (aAu hf hn (a:=a-1) (b:=a) (e:=a+1) (by omega) (by omega) ha2 _ hh hi hne) (cO) ?_
 rintro r H' ⟨x,s',h,rfl,rfl⟩;simp only[go_sem];repeat' first|(refine gS ?_;simp only[go_sem])|refine hU ?_|fail
 exact eE (vR _ _) (.int _ _) _ ⟨x,s',by omega,rfl,rfl⟩
theorem aCa(hf:nJ Tryz.prog (.func fn fs cs) c){d:Array dV}{a b n lc blk v:Nat}(hn:n=d.size)(hl:n≤1073741824)(hb:b≤n)(hab:a+12<b)(H:AHeap)(hh:hget H blk=.cells v (dC d)):
  ACalls Tryz.prog 220 [.osl 1 blk v 0 n lc,.int .i64 a,.int .i64 b,.func fn fs cs] H
   (fun r H'=>∃(p:Nat) (h:Int),(a≤p∧p<b)∧r=.tup [.int .i64 p,.int .i64 h]∧H'=H):=by
 refine aO Tryz.func220 ?_;have hlt:=bC hh trivial;obtain⟨m,rfl⟩:∃m,b=a+m:=⟨b-a,by omega⟩
 have hw0:IntKind.i64.wrap (((a+m:Nat):Int)-(a:Int))=(m:Int):=aB (by omega) (by omega)
 have hq:IntKind.i64.wrap ((m:Int).tdiv 4)=((m / 4:Nat):Int):=by rw[zAI (by omega)];exact aB (by omega) (by omega)
 obtain⟨q,hq2⟩:∃q,m / 4=q:=⟨_,rfl⟩;rw[hq2]at hq;have hq3:3 * q≤m-3∧m≤4 * q+3:=by omega
 have hw1:IntKind.i64.wrap ((q:Int) * 1)=(q:Int):=aB (by omega) (by omega)
 have hw2:IntKind.i64.wrap ((q:Int) * 2)=((q * 2:Nat):Int):=aB (by omega) (by omega)
 have hw3:IntKind.i64.wrap ((q:Int) * 3)=((q * 3:Nat):Int):=aB (by omega) (by omega)
 have hw4:IntKind.i64.wrap ((a:Int)+(q:Int))=((a+q:Nat):Int):=aB (by omega) (by omega)
 have hw5:IntKind.i64.wrap ((a:Int)+((q * 2:Nat):Int))=((a+q * 2:Nat):Int):=aB (by omega) (by omega)
 have hw6:IntKind.i64.wrap ((a:Int)+((q * 3:Nat):Int))=((a+q * 3:Nat):Int):=aB (by omega) (by omega)
 have hli8:decide (8≤(m:Int))=true:=dT;have gH:∀s,hget (H++[iG s]) blk=.cells v (dC d):=fun s=>aK hh trivial _
 have gi:∀s,hget (H++[iG s]) H.length=iG s:=fun s=>fU H _
 have gs:∀s t,aA (H++[iG s]) H.length (iG t)=H++[iG t]:=fun s t=>by simp[aA]
 have hne:H.length≠blk:=by omega
 by_cases h50:50≤m
 ·have hli50:decide (50≤(m:Int))=true:=dT;repeat' first|(refine gS ?_;simp only[go_sem,hw0,hq,hw1,hw2,hw3,hw4,hw5,hw6,hli8,hli50])|refine hU ?_|fail
  refine aG (vS hf hn hl (a:=a+q) (by omega) (by omega) (H++[iG 0]) (gH 0) (gi 0) hne) (cO) ?_
  rintro r H' ⟨x1,s1,h1,rfl,rfl⟩;rw[gs];simp only[go_sem];repeat' first|(refine gS ?_;simp only[go_sem,hw0,hq,hw1,hw2,hw3,hw4,hw5,hw6,hli8,hli50])|refine hU ?_|fail
  refine aG (vS hf hn hl (a:=a+q * 2) (by omega) (by omega) (H++[iG s1]) (gH _) (gi _) hne) (cO) ?_
  rintro r H' ⟨x2,s2,h2,rfl,rfl⟩;rw[gs];simp only[go_sem];repeat' first|(refine gS ?_;simp only[go_sem,hw0,hq,hw1,hw2,hw3,hw4,hw5,hw6,hli8,hli50])|refine hU ?_|fail
  refine aG (vS hf hn hl (a:=a+q * 3) (by omega) (by omega) (H++[iG s2]) (gH _) (gi _) hne) (cO) ?_
  rintro r H' ⟨x3,s3,h3,rfl,rfl⟩;rw[gs];simp only[go_sem];repeat' first|(refine gS ?_;simp only[go_sem,hw0,hq,hw1,hw2,hw3,hw4,hw5,hw6,hli8,hli50])|refine hU ?_|fail
  refine aG (aAu hf hn (a:=x1) (b:=x2) (e:=x3) (by omega) (by omega) (by omega) (H++[iG s3]) (gH _) (gi _) hne) (cO) ?_
  rintro r H' ⟨x,s,h,rfl,rfl⟩;rw[gs];unfold iG;simp only[go_sem];repeat' first|(refine gS ?_;simp only[go_sem])|refine gA ?_|(refine gD ?_ ?_<;>intro h<;>try exact aD h)|fail
  all_goals exact uE (by simp only[go_sem]) _ ⟨x,_,by omega,rfl,rfl⟩
 ·have hli50:decide (50≤(m:Int))=false:=dF;repeat' first|(refine gS ?_;simp only[go_sem,hw0,hq,hw1,hw2,hw3,hw4,hw5,hw6,hli8,hli50])|refine hU ?_|fail
  refine aG (aAu hf hn (a:=a+q) (b:=a+q * 2) (e:=a+q * 3) (by omega) (by omega) (by omega) (H++[iG 0]) (gH _) (gi _) hne) (cO) ?_
  rintro r H' ⟨x,s,h,rfl,rfl⟩;rw[gs];unfold iG;simp only[go_sem];repeat' first|(refine gS ?_;simp only[go_sem])|refine gA ?_|(refine gD ?_ ?_<;>intro h<;>try exact aD h)|fail
  all_goals exact uE (by simp only[go_sem]) _ ⟨x,_,by omega,rfl,rfl⟩
end
end Go.Proofs.YtigedpfipifefaaGreatDoor
