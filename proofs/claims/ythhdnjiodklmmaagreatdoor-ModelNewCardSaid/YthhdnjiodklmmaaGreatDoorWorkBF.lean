/- The texts 32 of 51 beneath the rows of this seat (joined by program): the abstract machine, and what the functions answer. No condition. -/
import Derived.Test.YthhdnjiodklmmaaGreatDoorWorkBD
set_option linter.unusedSimpArgs false
set_option linter.unusedVariables false
set_option linter.unusedSectionVars false
/- Sorting texts by a comparison: where the pivot is. No condition but how long the slice is. -/
namespace Go.Aw
theorem aB1{H L:AHeap}{v:AV}(hp:Pur v)(R:AV→AHeap→Prop)(hR:R v H):
  ∃H1 M y,H++L=H1++M∧H1.length=H.length∧(∀(j:Nat) (c:ABlk),H1[j]?=some c→H[j]?=some c∨ClB H.length c)∧Frz H.length (H++L) v y∧R y H1:=
 ⟨H,L,v,rfl,rfl,fun _ _ h=>.inl h,.cl _ (hp.cl _),hR⟩
end Go.Aw
namespace Go.Proofs.YthhdnjiodklmmaaGreatDoor
open Go Go.Aw Go.Gw
set_option linter.unusedSimpArgs false
set_option linter.unusedVariables false
set_option maxRecDepth 20000
set_option maxHeartbeats 8000000
section
variable {lt:iE→iE→Bool} {c:iE→iE→Int} {fn:Fn} {fs cs:List AV}
def mP(s:Int):ABlk:=.cells 0 [.int .i64 s]
theorem aCL(n:Nat)(s:Int):ClB n (mP s):=fun x hx=>by simp at hx;subst hx;exact .int _ _
theorem aFk(hf:uS Tryz.prog (.func fn fs cs) c){d:Array iE}{a b n lc blk v i:Nat}{s:Int}(hn:n=d.size)(ha:a<n)(hb:b<n)(H:AHeap)(hh:hget H blk=.cells v (dC d))(hi:hget H i=mP s):
  ACalls Tryz.prog 248 [.osl 1 blk v 0 n lc,.int .i64 a,.int .i64 b,.ref i 0 0,.func fn fs cs] H
   (fun r H'=>∃(x y:Nat) (s':Int),(x=a∧y=b∨x=b∧y=a)∧r=.tup [.int .i64 x,.int .i64 y]∧H'=aD H i (mP s')):=by
 refine bJ Tryz.func248 rfl (Nat.le_of_ble_eq_true rfl) ?_
 have ga:=bL (d:=d) (show a<d.size by omega)
 have gb:=bL (d:=d) (show b<d.size by omega)
 unfold mP at hi
 repeat' first|(refine gS ?_;simp only[go_sem,hh,hi,ga,gb,Nat.mul_one,bY,←hn])|refine gA ?_|(refine gD (fun h=>?_) (fun h=>?_)<;>try exact aA h)|fail
 refine cO hf ?_
 simp only[go_sem]
 repeat' first|(refine gS ?_;simp only[go_sem,hh,hi])|refine gA ?_|(refine gD (fun h=>?_) (fun h=>?_)<;>try exact aA h)|fail
 ·exact iO (aCL _ _) (by simp only[go_sem]) _ ⟨b,a,_,.inr ⟨rfl,rfl⟩,rfl,rfl⟩
 ·have:=iO (H:=H) (i:=i) (v:=.tup [.int .i64 a,.int .i64 b]) (aCL _ s) (by simp only[go_sem]) (fun r H'=>∃(x y:Nat) (s':Int),(x=a∧y=b∨x=b∧y=a)∧r=.tup [.int .i64 x,.int .i64 y]∧H'=aD H i (mP s')) ⟨a,b,s,.inl ⟨rfl,rfl⟩,rfl,rfl⟩
  rw[show aD H i (mP s)=H from nE hi trivial]at this
  exact this
theorem aFl(hf:uS Tryz.prog (.func fn fs cs) c){d:Array iE}{a b e n lc blk v i:Nat}{s:Int}(hn:n=d.size)(ha:a<n)(hb:b<n)(he:e<n)(H:AHeap)(hh:hget H blk=.cells v (dC d))(hi:hget H i=mP s)(hne:i≠blk):
  ACalls Tryz.prog 242 [.osl 1 blk v 0 n lc,.int .i64 a,.int .i64 b,.int .i64 e,.ref i 0 0,.func fn fs cs] H
   (fun r H'=>∃(x:Nat) (s':Int),(x=a∨x=b∨x=e)∧r=.int .i64 x∧H'=aD H i (mP s')):=by
 refine bJ Tryz.func242 rfl (Nat.le_of_ble_eq_true rfl) ?_
 have g1:=fun b=>bB hh hne b
 have g2:=fun b=>kA hi trivial b
 have g3:=iL H i
 repeat' first|(refine gS ?_;simp only[go_sem])|refine gA ?_|(refine gD (fun h=>?_) (fun h=>?_)<;>try exact aA h)|fail
 refine bE (aFk hf hn ha hb _ hh hi) tD ?_
 rintro r H' ⟨x1,y1,s1,h1,rfl,rfl⟩
 simp only[go_sem]
 repeat' first|(refine gS ?_;simp only[go_sem])|refine gA ?_|(refine gD (fun h=>?_) (fun h=>?_)<;>try exact aA h)|fail
 refine bE (aFk hf hn (a:=y1) (b:=e) (by omega) he _ (g1 _) (g2 _)) tD ?_
 rintro r H' ⟨x2,y2,s2,h2,rfl,rfl⟩
 simp only[go_sem,g3]
 repeat' first|(refine gS ?_;simp only[go_sem])|refine gA ?_|(refine gD (fun h=>?_) (fun h=>?_)<;>try exact aA h)|fail
 refine bE (aFk hf hn (a:=x1) (b:=x2) (by omega) (by omega) _ (g1 _) (g2 _)) tD ?_
 rintro r H' ⟨x3,y3,s3,h3,rfl,rfl⟩
 simp only[go_sem,g3]
 repeat' first|(refine gS ?_;simp only[go_sem])|refine gA ?_|(refine gD (fun h=>?_) (fun h=>?_)<;>try exact aA h)|fail
 exact iO (aCL _ _) (.int _ _) _ ⟨y3,s3,by omega,rfl,rfl⟩
theorem aCM(hf:uS Tryz.prog (.func fn fs cs) c){d:Array iE}{a n lc blk v i:Nat}{s:Int}(hn:n=d.size)(hl:n≤1073741824)(ha:1≤a)(ha2:a+1<n)(H:AHeap)(hh:hget H blk=.cells v (dC d))(hi:hget H i=mP s)(hne:i≠blk):
  ACalls Tryz.prog 241 [.osl 1 blk v 0 n lc,.int .i64 a,.ref i 0 0,.func fn fs cs] H
   (fun r H'=>∃(x:Nat) (s':Int),(a≤x+1∧x≤a+1)∧r=.int .i64 x∧H'=aD H i (mP s')):=by
 refine bJ Tryz.func241 rfl (Nat.le_of_ble_eq_true rfl) ?_
 have hw1:IntKind.i64.wrap ((a:Int)-1)=((a-1:Nat):Int):=aJ (by omega) (by omega)
 have hw2:IntKind.i64.wrap ((a:Int)+1)=((a+1:Nat):Int):=aJ (by omega) (by omega)
 repeat' first|(refine gS ?_;simp only[go_sem,hw1,hw2])|refine gA ?_|(refine gD (fun h=>?_) (fun h=>?_)<;>try exact aA h)|fail
 refine bE (aFl hf hn (a:=a-1) (b:=a) (e:=a+1) (by omega) (by omega) ha2 _ hh hi hne) tA ?_
 rintro r H' ⟨x,s',h,rfl,rfl⟩
 simp only[go_sem]
 repeat' first|(refine gS ?_;simp only[go_sem])|refine gA ?_|(refine gD (fun h=>?_) (fun h=>?_)<;>try exact aA h)|fail
 exact iO (aCL _ _) (.int _ _) _ ⟨x,s',by omega,rfl,rfl⟩
theorem aHI(hf:uS Tryz.prog (.func fn fs cs) c){d:Array iE}{a b n lc blk v:Nat}(hn:n=d.size)(hl:n≤1073741824)(hb:b≤n)(hab:a+12<b)(H:AHeap)(hh:hget H blk=.cells v (dC d)):
  ACalls Tryz.prog 219 [.osl 1 blk v 0 n lc,.int .i64 a,.int .i64 b,.func fn fs cs] H
   (fun r H'=>∃(p:Nat) (h:Int),(a≤p∧p<b)∧r=.tup [.int .i64 p,.int .i64 h]∧H'=H):=by
 refine bJ Tryz.func219 rfl (Nat.le_of_ble_eq_true rfl) ?_
 have hlt:=bI hh trivial
 obtain⟨m,rfl⟩:∃m,b=a+m:=⟨b-a,by omega⟩
 have hw0:IntKind.i64.wrap (((a+m:Nat):Int)-(a:Int))=(m:Int):=aJ (by omega) (by omega)
 have hq:IntKind.i64.wrap ((m:Int).tdiv 4)=((m / 4:Nat):Int):=by rw[Int.tdiv_eq_ediv_of_nonneg (by omega)];exact aJ (by omega) (by omega)
 obtain⟨q,hq2⟩:∃q,m / 4=q:=⟨_,rfl⟩
 rw[hq2]at hq
 have hq3:3 * q≤m-3∧m≤4 * q+3:=by omega
 have hw1:IntKind.i64.wrap ((q:Int) * 1)=(q:Int):=aJ (by omega) (by omega)
 have hw2:IntKind.i64.wrap ((q:Int) * 2)=((q * 2:Nat):Int):=aJ (by omega) (by omega)
 have hw3:IntKind.i64.wrap ((q:Int) * 3)=((q * 3:Nat):Int):=aJ (by omega) (by omega)
 have hw4:IntKind.i64.wrap ((a:Int)+(q:Int))=((a+q:Nat):Int):=aJ (by omega) (by omega)
 have hw5:IntKind.i64.wrap ((a:Int)+((q * 2:Nat):Int))=((a+q * 2:Nat):Int):=aJ (by omega) (by omega)
 have hw6:IntKind.i64.wrap ((a:Int)+((q * 3:Nat):Int))=((a+q * 3:Nat):Int):=aJ (by omega) (by omega)
 have hli8:decide (8≤(m:Int))=true:=decide_eq_true (by omega)
 have gH:∀s,hget (H++[mP s]) blk=.cells v (dC d):=fun s=>aH hh trivial _
 have gi:∀s,hget (H++[mP s]) H.length=mP s:=fun s=>jL H _
 have gs:∀s t,aD (H++[mP s]) H.length (mP t)=H++[mP t]:=fun s t=>by simp[aD]
 have hne:H.length≠blk:=by omega
 by_cases h50:50≤m
 ·have hli50:decide (50≤(m:Int))=true:=decide_eq_true (by omega)
  repeat' first|(refine gS ?_;simp only[go_sem,hw0,hq,hw1,hw2,hw3,hw4,hw5,hw6,hli8,hli50])|refine gA ?_|(refine gD (fun h=>?_) (fun h=>?_)<;>try exact aA h)|fail
  refine bE (aCM hf hn hl (a:=a+q) (by omega) (by omega) (H++[mP 0]) (gH 0) (gi 0) hne) sZ ?_
  rintro r H' ⟨x1,s1,h1,rfl,rfl⟩
  rw[gs]
  simp only[go_sem]
  repeat' first|(refine gS ?_;simp only[go_sem,hw0,hq,hw1,hw2,hw3,hw4,hw5,hw6,hli8,hli50])|refine gA ?_|(refine gD (fun h=>?_) (fun h=>?_)<;>try exact aA h)|fail
  refine bE (aCM hf hn hl (a:=a+q * 2) (by omega) (by omega) (H++[mP s1]) (gH _) (gi _) hne) sZ ?_
  rintro r H' ⟨x2,s2,h2,rfl,rfl⟩
  rw[gs]
  simp only[go_sem]
  repeat' first|(refine gS ?_;simp only[go_sem,hw0,hq,hw1,hw2,hw3,hw4,hw5,hw6,hli8,hli50])|refine gA ?_|(refine gD (fun h=>?_) (fun h=>?_)<;>try exact aA h)|fail
  refine bE (aCM hf hn hl (a:=a+q * 3) (by omega) (by omega) (H++[mP s2]) (gH _) (gi _) hne) sZ ?_
  rintro r H' ⟨x3,s3,h3,rfl,rfl⟩
  rw[gs]
  simp only[go_sem]
  repeat' first|(refine gS ?_;simp only[go_sem,hw0,hq,hw1,hw2,hw3,hw4,hw5,hw6,hli8,hli50])|refine gA ?_|(refine gD (fun h=>?_) (fun h=>?_)<;>try exact aA h)|fail
  refine bE (aFl hf hn (a:=x1) (b:=x2) (e:=x3) (by omega) (by omega) (by omega) (H++[mP s3]) (gH _) (gi _) hne) tA ?_
  rintro r H' ⟨x,s,h,rfl,rfl⟩
  rw[gs]
  unfold mP
  simp only[go_sem]
  repeat' first|(refine gS ?_;simp only[go_sem])|refine gA ?_|(refine gD (fun h=>?_) (fun h=>?_)<;>try exact aA h)|fail
  all_goals exact aB1 (by simp only[go_sem]) _ ⟨x,_,by omega,rfl,rfl⟩
 ·have hli50:decide (50≤(m:Int))=false:=decide_eq_false (by omega)
  repeat' first|(refine gS ?_;simp only[go_sem,hw0,hq,hw1,hw2,hw3,hw4,hw5,hw6,hli8,hli50])|refine gA ?_|(refine gD (fun h=>?_) (fun h=>?_)<;>try exact aA h)|fail
  refine bE (aFl hf hn (a:=a+q) (b:=a+q * 2) (e:=a+q * 3) (by omega) (by omega) (by omega) (H++[mP 0]) (gH _) (gi _) hne) tA ?_
  rintro r H' ⟨x,s,h,rfl,rfl⟩
  rw[gs]
  unfold mP
  simp only[go_sem]
  repeat' first|(refine gS ?_;simp only[go_sem])|refine gA ?_|(refine gD (fun h=>?_) (fun h=>?_)<;>try exact aA h)|fail
  all_goals exact aB1 (by simp only[go_sem]) _ ⟨x,_,by omega,rfl,rfl⟩
end
end Go.Proofs.YthhdnjiodklmmaaGreatDoor
