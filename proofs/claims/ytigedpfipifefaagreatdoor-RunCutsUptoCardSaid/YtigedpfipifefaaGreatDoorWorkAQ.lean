/- What the functions of this seat answer (17 of 40). No condition. -/
import Derived.Test.YtigedpfipifefaaGreatDoorWorkAP
set_option linter.unusedSimpArgs false
set_option linter.unusedVariables false
set_option maxRecDepth 100000
set_option maxHeartbeats 16000000
namespace Go.Proofs.YtigedpfipifefaaGreatDoor
theorem yD{P:Program}{N id id2:Nat}{x y:Code}{Q:aT}{α:AF}{H:AHeap}{ι:Type}(F:ι→AF)(Hp:ι→AHeap)(pre:ι→Prop)(h1:aw P N x (fQ id (sN F Hp pre (fQ id2 (mP P N y Q)))) α H)(h2:∀i,pre i→aw P N y Q (F i) (Hp i)):aw P N x (fQ id (fQ id2 (mP P N y Q))) α H:=by
 refine jO h1 fun e α' H' h=>?_
 have key:sN F Hp pre (fQ id2 (mP P N y Q)) .normal α' H'→aw P N y Q α' H':=fun⟨i,hp,hs,hH⟩=>by subst hH;exact lE (h2 i hp) (dQ hs)
 cases e with
 |normal=>exact key h
 |exit j=>
  simp only[fQ]at h ⊢;cases hj:j==id with
  |true=>rw[hj]at h;exact key h
  |false=>rw[hj]at h;exact h
 |_=>exact h
theorem aGp(n:Nat)(hn:n≤9223372036854775807)(H:AHeap):bJ Tryz.prog 62 [.int .i64 n] H (.int .i64 (bL n)):=by
 refine fO Tryz.func62 ?_;have h0:decide ((n:Int)<0)=false:=dF;repeat' first|(refine gS ?_;simp only[go_sem,h0])|refine gA ?_|(refine gD ?_ ?_<;>intro h<;>try exact aD h)|fail
 refine aH (ι:=Nat×Nat) (fun s=>[(0,.int .i64 s.1),(2,.int .i64 0),(3,.int .i64 s.2)]) (fun _=>H) (fun s=>s.1≤9223372036854775807∧s.2≤100∧bL n+1=s.2+bL s.1) (fun s=>s.1) (n,1) ⟨hn,by simp,by simp only;omega⟩ ?_ rfl ?_
 ·simp[go_sem]
 rintro⟨m,k⟩ ⟨hm,hk,hs⟩;simp only at hm hk hs ⊢;have hsh:(m:Int).fdiv (2 ^ min 7 64)=((m / 128:Nat):Int):=by have:=aA8 (n:=m) (j:=1) (by omega);rw[Nat.pow_one]at this;exact this
 by_cases h:m≤127
 ·have h1:decide ((127:Int)<(m:Int))=false:=dF;rw[nL m,zAp h]at hs;repeat' first|(refine gS ?_;simp only[go_sem,h1])|refine gA ?_|(refine gD ?_ ?_<;>intro h<;>try exact aD h)|fail
  exact cU (.of (by rw[show bL n=k by omega]))
 ·have h1:decide ((127:Int)<(m:Int))=true:=dT;rw[nL m,zAk h]at hs;have hp:=tW (m / 128);have hx:=fX n hn;have hw:IntKind.i64.wrap ((k:Int)+1)=((k+1:Nat):Int):=by rw[wI];omega
  repeat' first|(refine gS ?_;simp only[go_sem,h1,hw])|refine gA ?_|(refine gD ?_ ?_<;>intro h<;>try exact aD h)|fail
  exact⟨(m / 128,k+1),⟨by simp only;omega,by simp only;omega,by simp only;omega⟩,by simp only;omega,zA5 _ hsh,rfl⟩
theorem aJB(b:Txt)(l:List Nat)(f:Bool)(hl:∀n∈l,n≤9223372036854775807)(hb:b.length+9 * l.length≤140737488355328)(H:AHeap):
  bJ Tryz.prog 33 [.str b,.sl f (l.map fun(n:Nat)=>AV.int .i64 n)] H (.tup [.str (b++l.flatMap aV),.int .i64 0]):=by
 refine fO Tryz.func33 ?_;repeat' first|(refine gS ?_;simp only[go_sem])|refine gA ?_|(refine gD ?_ ?_<;>intro h<;>try exact aD h)|fail
 obtain⟨L,hL⟩:∃L,L=l.map fun(n:Nat)=>AV.int .i64 n:=⟨_,rfl⟩
 have hLl:L.length=l.length:=by rw[hL,zAs]
 obtain⟨D,hD⟩:∃D:Nat→Txt,∀j,D j=(l.take j).flatMap aV:=⟨_,fun _=>rfl⟩
 have hDl:∀j,j≤l.length→(D j).length≤9 * j:=by
  intro j;induction j with
  |zero=>intro _;rw[hD];simp
  |succ j ih=>
   intro hj;have h1:l.take (j+1)=l.take j++[l[j]]:=by rw[List.take_add_one,zAd hj];rfl
   have h2:=ih (by omega)
   rw[hD]at h2 ⊢;rw[h1,zBi,zAa];have h3:=fX l[j] (hl _ (zAK _));unfold bL at h3;simp only[zAF,zBQ,zAj];omega
 refine dU (ι:=Unit) (fun _=>[(4,.str []),(5,.int .i64 0),(6,.osl 1 H.length ((D l.length).length+1) 0 (b.length+(D l.length).length) (b.length+(D l.length).length))]) (fun _=>H++[.cells ((D l.length).length+1) (bA (b++D l.length))]) (fun _=>True) ?_ fun _ _=>?_
 ·refine aH (ι:=Nat) (fun j=>[(0,.str b),(1,.sl f L),(4,.str []),(5,.int .i64 0),(6,.osl 1 H.length ((D j).length+1) 0 (b.length+(D j).length) (b.length+(D j).length)),(14,.sl f L),(15,.int .i64 l.length),(16,.int .i64 j)])
   (fun j=>H++[.cells ((D j).length+1) (bA (b++D j))]) (fun j=>j≤l.length) (fun j=>l.length-j) 0 (zAv _) ?_ ?_ ?_
  ·have:D 0=[]:=by rw[hD];rfl
   simp[go_sem,this,hL]
  ·have:D 0=[]:=by rw[hD];rfl
   simp[this,bA]
  intro j hj;by_cases hjn:j<l.length
  ·have hn:=hl l[j] (zAK _);obtain⟨n,hne⟩:∃n,n=l[j]:=⟨_,rfl⟩;rw[←hne]at hn;have hli:decide ((j:Int)<(l.length:Int))=true:=dT;have hg:L.getD j .top=.int .i64 (n:Int):=by rw[hL,zAm,zAY,zAd hjn,hne];rfl
   have hn0:decide ((n:Int)<0)=false:=dF;have hs:=aGp n hn;have hjl:(j<L.length)=True:=zBf (by omega)
   repeat' first|(refine gS ?_;simp only[go_sem,hli,hg,hn0,hjl,hLl])|refine gA ?_|(refine gD ?_ ?_<;>intro h<;>try exact aD h)|fail
   have hDj:=hDl j hj;have hsm:=fX n hn;have hsp:=tW n;obtain⟨E,hE⟩:∃E:Nat→Txt,∀i,E i=D j++(aV n).take i:=⟨_,fun _=>rfl⟩
   have hEl:∀i,(E i).length≤9 * j+i:=fun i=>by rw[hE,zAa,zAX];omega
   have hE0:E 0=D j:=by rw[hE];simp
   have hE1:E (bL n)=D (j+1):=by
    rw[hE,hD,hD,show bL n=(aV n).length from rfl,zAG,List.take_add_one,zAd hjn,←hne]
    simp
   have hw9:IntKind.i64.wrap ((j:Int)+1)=((j+1:Nat):Int):=by rw[wI];omega
   refine yD (ι:=Unit) (fun _=>[(0,.str b),(1,.sl f L),(4,.str []),(5,.int .i64 0),(6,.osl 1 H.length ((D (j+1)).length+1) 0 (b.length+(D (j+1)).length) (b.length+(D (j+1)).length)),(14,.sl f L),(15,.int .i64 l.length),(16,.int .i64 j)]) (fun _=>H++[.cells ((D (j+1)).length+1) (bA (b++D (j+1)))]) (fun _=>True) ?_ fun _ _=>?_
   ·refine aH (ι:=Nat) (fun i=>[(0,.str b),(1,.sl f L),(4,.str []),(5,.int .i64 0),(6,.osl 1 H.length ((E i).length+1) 0 (b.length+(E i).length) (b.length+(E i).length)),(8,.int .i64 n),(9,.int .i64 (bL n)),(14,.sl f L),(15,.int .i64 l.length),(16,.int .i64 j),(24,.int .i64 (bL n)),(25,.int .i64 i)])
     (fun i=>H++[.cells ((E i).length+1) (bA (b++E i))]) (fun i=>i≤bL n) (fun i=>bL n-i) 0 (zAv _) ?_ ?_ ?_
    ·rw[hE0];simp[go_sem]
    ·rw[hE0]
    intro i hi;have hEi:=hEl i;by_cases hin:i<bL n
    ·have hl2:decide ((i:Int)<(bL n:Int))=true:=dT;have hw0:IntKind.i64.wrap ((i:Int)+1)=((i+1:Nat):Int):=by rw[wI];omega
     have hw1:IntKind.i64.wrap ((bL n:Int)-1)=((bL n-1:Nat):Int):=by rw[wI];omega
     obtain⟨K,hK⟩:∃K,K=bL n-1-i:=⟨_,rfl⟩;have hw2:IntKind.i64.wrap (((bL n-1:Nat):Int)-(i:Int))=(K:Int):=by rw[wI];omega
     have hw3:IntKind.i64.wrap (7 * (K:Int))=7 * (K:Int):=wI;have hsh:=aA8 (n:=n) (j:=K) (by omega)
     have hdm:n / 128 ^ K≤9223372036854775807:=zA7 (Nat.div_le_self _ _) hn;have han:=xW hdm;obtain⟨d,hd⟩:∃d,d=n / 128 ^ K % 128:=⟨_,rfl⟩;rw[←hd]at han;have hdl:d<128:=by omega
     have hor:=aAk hdl;have hE2:E (i+1)=E i++[xV n i]:=by rw[hE,hE,aBX n i hin,zAe]
     by_cases h2:i<bL n-1
     ·have hl3:decide ((i:Int)<((bL n-1:Nat):Int))=true:=dT;have hu8:IntKind.u8.wrap ((d+128:Nat):Int)=((xV n i).toNat:Int):=by
       unfold xV;rw[←hK,←hd,zAp h2,xS (by omega)];simp[IntKind.wrap,IntKind.signed,IntKind.bits];omega
      repeat' first|(refine gS ?_;simp only[go_sem,hl2,hw0,hw1,hw2,hw3,hsh,han,hor,hl3,hu8])|refine gA ?_|(refine gD ?_ ?_<;>intro h<;>try exact aD h)|fail
      refine⟨⟨by omega,(by rintro e rfl;rfl),by omega⟩,?_⟩
      repeat' first|(refine gS ?_;simp only[go_sem,hw0])|refine gA ?_|(refine gD ?_ ?_<;>intro h<;>try exact aD h)|fail
      refine⟨i+1,by omega,by omega,?_⟩
      rw[hE2,←zAe,aA9];simp[Nat.add_assoc]
     ·have hl3:decide ((i:Int)<((bL n-1:Nat):Int))=false:=dF;have hu8:IntKind.u8.wrap ((d:Nat):Int)=((xV n i).toNat:Int):=by
       unfold xV;rw[←hK,←hd,zAk h2,xS (by omega)];simp[IntKind.wrap,IntKind.signed,IntKind.bits];omega
      repeat' first|(refine gS ?_;simp only[go_sem,hl2,hw0,hw1,hw2,hw3,hsh,han,hl3,hu8])|refine gA ?_|(refine gD ?_ ?_<;>intro h<;>try exact aD h)|fail
      refine⟨⟨by omega,(by rintro e rfl;rfl),by omega⟩,?_⟩
      repeat' first|(refine gS ?_;simp only[go_sem,hw0])|refine gA ?_|(refine gD ?_ ?_<;>intro h<;>try exact aD h)|fail
      refine⟨i+1,by omega,by omega,?_⟩
      rw[hE2,←zAe,aA9];simp[Nat.add_assoc]
    ·have hie:i=bL n:=by omega
     subst hie;repeat' first|(refine gS ?_;simp only[go_sem,hin])|refine gA ?_|(refine gD ?_ ?_<;>intro h<;>try exact aD h)|fail
     exact⟨(),by rw[hE1],by rw[hE1]⟩
   ·repeat' first|(refine gS ?_;simp only[go_sem,hw9])|refine gA ?_|(refine gD ?_ ?_<;>intro h<;>try exact aD h)|fail
    exact⟨j+1,by omega,by omega,by simp⟩
  ·have hje:j=l.length:=by omega
   subst hje;repeat' first|(refine gS ?_;simp only[go_sem,hjn])|refine gA ?_|(refine gD ?_ ?_<;>intro h<;>try exact aD h)|fail
   exact⟨(),trivial⟩
 ·have hDn:D l.length=l.flatMap aV:=by rw[hD,zAG]
  have hz:List.take ((b.length+(D l.length).length) * 1) (bA (b++D l.length))=bA (b++D l.length):=zAT (by rw[fS,zAa];omega)
  repeat' first|(refine gS ?_;simp only[go_sem,hz])|refine gA ?_|(refine gD ?_ ?_<;>intro h<;>try exact aD h)|fail
  rw[hDn];exact dY (.refl _)
theorem kC(b:Txt)(n:Nat)(f:Bool)(hn:n≤9223372036854775807)(hb:b.length+9≤140737488355328)(H:AHeap):
  bJ Tryz.prog 33 [.str b,.sl f [.int .i64 n]] H (.tup [.str (b++aV n),.int .i64 0]):=by
 simpa using aJB b [n] f (by simpa using hn) (by simpa using hb) H
theorem rS(b t:Txt)(hb:b.length+9≤140737488355328)(ht:t.length≤9223372036854775807)(hl:b.length+9+t.length≤9223372036854775807)(H:AHeap):
  bJ Tryz.prog 17 [.str b,.str t] H (.str (b++bW t)):=by
 refine fO Tryz.func17 ?_;have hp:=kC b t.length true ht hb;have hs:=fX t.length ht;unfold bL at hs;repeat' first|(refine gS ?_;simp only[go_sem])|refine gA ?_|(refine gD ?_ ?_<;>intro h<;>try exact aD h)|fail
 exact cU (.of rfl)
end Go.Proofs.YtigedpfipifefaaGreatDoor
