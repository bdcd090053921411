/- The texts 49 of 51 beneath the rows of this seat (joined by program): the abstract machine, and what the functions answer. No condition. -/
import Derived.Test.YthhdnjiodklmmaaGreatDoorWorkAI
import Derived.Test.YthhdnjiodklmmaaGreatDoorWorkBV
set_option linter.unusedSimpArgs false
set_option linter.unusedVariables false
set_option linter.unusedSectionVars false
/- Two replicas held against each other by the document's package. No condition. -/
namespace Go.Proofs.YthhdnjiodklmmaaGreatDoor
open Go Go.Aw Go.Gw
set_option linter.unusedSimpArgs false
set_option linter.unusedVariables false
set_option maxRecDepth 20000
set_option maxHeartbeats 4000000
theorem aKA(f g o p:Bool)(e k:List Evt)(H:AHeap):cJ Tryz.prog 80 [.agg [.sl f (e.map gF),.bool o],.agg [.sl g (k.map gF),.bool p]] H (.bool (decide (e=k)&&decide (o=p))):=by
 refine aL Tryz.func80 rfl (Nat.le_of_ble_eq_true rfl) ?_
 have h1:=aCE f g e k
 cases hd:decide (e=k)with
 |true=>
  rw[hd]at h1
  have ct0:=ct h1 rF;repeat' first|((first|refine gK ?_|refine gS ?_);simp only[go_sem])|refine gA ?_|(refine gD (fun h=>?_) (fun h=>?_)<;>try exact aA h)|fail
  exact done (by simp only[go_sem]) (.refl _)
 |false=>
  rw[hd]at h1
  have ct0:=ct h1 rF;repeat' first|((first|refine gK ?_|refine gS ?_);simp only[go_sem])|refine gA ?_|(refine gD (fun h=>?_) (fun h=>?_)<;>try exact aA h)|fail
  exact done (by simp only[go_sem]) (.refl _)
theorem aHR(b1 b2:Bool)(l m:List Snp)(H:AHeap):cJ Tryz.prog 34 [.sl b1 (l.map hU),.sl b2 (m.map hU)] H (.bool (decide (l=m))):=by
 refine gI fun hok _=>?_
 have hl:=lK hok
 rw[List.length_map]at hl
 refine aL Tryz.func34 rfl (Nat.le_of_ble_eq_true rfl) ?_
 repeat' first|(refine gS ?_;simp only[go_sem])|refine gA ?_|(refine gD (fun h=>?_) (fun h=>?_)<;>try exact aA h)|fail
 ·exact aY (by simp only[go_sem]) (.of (by rw[decide_eq_false (fun e=>by subst e;simp at h)]))
 ·have hlen:l.length=m.length:=by simp at h;omega
  refine aP (ι:=Nat) (fun i=>[(0,.sl b1 (l.map hU)),(1,.sl b2 (m.map hU)),(5,.int .i64 i)]) (fun _=>H) (fun i=>i≤l.length∧l.take i=m.take i) (fun i=>l.length-i) 0 ⟨Nat.zero_le _,rfl⟩ ?_ rfl ?_
  ·simp[go_sem]
  ·rintro i ⟨hi,he⟩
   by_cases hlt:i<l.length
   ·have hp:=bA hU hlt
    have hq:=bA hU (show i<m.length by omega)
    obtain⟨x,hx⟩:∃x,x=l[i]:=⟨_,rfl⟩
    obtain⟨y,hy⟩:∃y,y=m[i]'(by omega):=⟨_,rfl⟩
    rw[←hx]at hp
    rw[←hy]at hq
    have hlt2:i<m.length:=by omega
    have hno:x≠y→decide (l=m)=false:=fun hne=>decide_eq_false fun e=>hne (by subst e;rw[hx,hy])
    have hyes:x=y→∃z:Nat,(z≤l.length∧l.take z=m.take z)∧l.length-z<l.length-i∧AV.int .i64 (IntKind.i64.wrap ((i:Int)+1))=AV.int .i64 z:=fun heq=>⟨i+1,⟨hlt,by rw[List.take_succ_eq_append_getElem hlt,List.take_succ_eq_append_getElem (by omega),he,←hx,←hy,heq]⟩,by omega,by rw[wrap_i64 (by omega) (by omega)];rfl⟩
    have h6:=yP false false x.nodes y.nodes
    by_cases e1:x.nodes=y.nodes
    ·rw[decide_eq_true e1]at h6
     by_cases e2:x.n=y.n
     ·have d2:decide (x.n=y.n)=true:=decide_eq_true e2
      have ct0:=ct h6 lS;repeat' first|((first|refine gK ?_|refine gS ?_);simp only[go_sem,hp,hq,hU,hlt,hlt2,d2])|refine gA ?_|(refine gD (fun h=>?_) (fun h=>?_)<;>try exact aA h)|fail
      exact hyes (by cases x;cases y;simp_all)
     ·have d2:decide (x.n=y.n)=false:=decide_eq_false e2
      have ct0:=ct h6 lS;repeat' first|((first|refine gK ?_|refine gS ?_);simp only[go_sem,hp,hq,hU,hlt,hlt2,d2])|refine gA ?_|(refine gD (fun h=>?_) (fun h=>?_)<;>try exact aA h)|fail
      exact aY (by simp only[go_sem]) (.of (by rw[hno fun e=>e2 (by rw[e])]))
    ·rw[decide_eq_false e1]at h6
     have ct0:=ct h6 lS;repeat' first|((first|refine gK ?_|refine gS ?_);simp only[go_sem,hp,hq,hU,hlt,hlt2])|refine gA ?_|(refine gD (fun h=>?_) (fun h=>?_)<;>try exact aA h)|fail
     exact aY (by simp only[go_sem]) (.of (by rw[hno fun e=>e1 (by rw[e])]))
   ·have hi':i=l.length:=by omega
    subst hi'
    repeat' first|(refine gS ?_;simp only[go_sem])|refine gA ?_|(refine gD (fun h=>?_) (fun h=>?_)<;>try exact aA h)|fail
    exact aY (by simp only[go_sem]) (.of (by rw[decide_eq_true (by rw[List.take_length,hlen,List.take_length]at he;exact he)]))
theorem aDN(b1 b2:Bool)(l m:List Wch)(H:AHeap):cJ Tryz.prog 35 [.sl b1 (l.map dL),.sl b2 (m.map dL)] H (.bool (decide (l=m))):=by
 refine gI fun hok _=>?_
 have hl:=lK hok
 rw[List.length_map]at hl
 refine aL Tryz.func35 rfl (Nat.le_of_ble_eq_true rfl) ?_
 repeat' first|(refine gS ?_;simp only[go_sem])|refine gA ?_|(refine gD (fun h=>?_) (fun h=>?_)<;>try exact aA h)|fail
 ·exact aY (by simp only[go_sem]) (.of (by rw[decide_eq_false (fun e=>by subst e;simp at h)]))
 ·have hlen:l.length=m.length:=by simp at h;omega
  refine aP (ι:=Nat) (fun i=>[(0,.sl b1 (l.map dL)),(1,.sl b2 (m.map dL)),(5,.int .i64 i)]) (fun _=>H) (fun i=>i≤l.length∧l.take i=m.take i) (fun i=>l.length-i) 0 ⟨Nat.zero_le _,rfl⟩ ?_ rfl ?_
  ·simp[go_sem]
  ·rintro i ⟨hi,he⟩
   by_cases hlt:i<l.length
   ·have hp:=bA dL hlt
    have hq:=bA dL (show i<m.length by omega)
    obtain⟨x,hx⟩:∃x,x=l[i]:=⟨_,rfl⟩
    obtain⟨y,hy⟩:∃y,y=m[i]'(by omega):=⟨_,rfl⟩
    rw[←hx]at hp
    rw[←hy]at hq
    have hlt2:i<m.length:=by omega
    have hno:x≠y→decide (l=m)=false:=fun hne=>decide_eq_false fun e=>hne (by subst e;rw[hx,hy])
    have hyes:x=y→∃z:Nat,(z≤l.length∧l.take z=m.take z)∧l.length-z<l.length-i∧AV.int .i64 (IntKind.i64.wrap ((i:Int)+1))=AV.int .i64 z:=fun heq=>⟨i+1,⟨hlt,by rw[List.take_succ_eq_append_getElem hlt,List.take_succ_eq_append_getElem (by omega),he,←hx,←hy,heq]⟩,by omega,by rw[wrap_i64 (by omega) (by omega)];rfl⟩
    have h6:=aKA false false x.over y.over x.evs y.evs
    by_cases e1:x.evs=y.evs∧x.over=y.over
    ·rw[decide_eq_true e1.1,decide_eq_true e1.2]at h6
     by_cases e2:x.n=y.n
     ·have d2:decide (x.n=y.n)=true:=decide_eq_true e2
      by_cases e3:x.dir=y.dir
      ·have d3:decide (x.dir=y.dir)=true:=decide_eq_true e3
       have ct0:=ct h6 rI;repeat' first|((first|refine gK ?_|refine gS ?_);simp only[go_sem,hp,hq,dL,hlt,hlt2,d2,d3,Bool.and_self])|refine gA ?_|(refine gD (fun h=>?_) (fun h=>?_)<;>try exact aA h)|fail
       exact hyes (by cases x;cases y;simp_all)
      ·have d3:decide (x.dir=y.dir)=false:=decide_eq_false e3
       have ct0:=ct h6 rI;repeat' first|((first|refine gK ?_|refine gS ?_);simp only[go_sem,hp,hq,dL,hlt,hlt2,d2,d3,Bool.and_self])|refine gA ?_|(refine gD (fun h=>?_) (fun h=>?_)<;>try exact aA h)|fail
       exact aY (by simp only[go_sem]) (.of (by rw[hno fun e=>e3 (by rw[e])]))
     ·have d2:decide (x.n=y.n)=false:=decide_eq_false e2
      have ct0:=ct h6 rI;repeat' first|((first|refine gK ?_|refine gS ?_);simp only[go_sem,hp,hq,dL,hlt,hlt2,d2,Bool.and_self])|refine gA ?_|(refine gD (fun h=>?_) (fun h=>?_)<;>try exact aA h)|fail
      exact aY (by simp only[go_sem]) (.of (by rw[hno fun e=>e2 (by rw[e])]))
    ·have hf:(decide (x.evs=y.evs)&&decide (x.over=y.over))=false:=by
      rw[Bool.eq_false_iff];intro h;simp only[Bool.and_eq_true,decide_eq_true_eq]at h;exact e1 h
     rw[hf]at h6
     have ct0:=ct h6 rI;repeat' first|((first|refine gK ?_|refine gS ?_);simp only[go_sem,hp,hq,dL,hlt,hlt2])|refine gA ?_|(refine gD (fun h=>?_) (fun h=>?_)<;>try exact aA h)|fail
     exact aY (by simp only[go_sem]) (.of (by rw[hno fun e=>e1 (by rw[e];exact⟨rfl,rfl⟩)]))
   ·have hi':i=l.length:=by omega
    subst hi'
    repeat' first|(refine gS ?_;simp only[go_sem])|refine gA ?_|(refine gD (fun h=>?_) (fun h=>?_)<;>try exact aA h)|fail
    exact aY (by simp only[go_sem]) (.of (by rw[decide_eq_true (by rw[List.take_length,hlen,List.take_length]at he;exact he)]))
theorem aKB(f1 f2 f3 f4 g1 g2 g3 g4:Bool)(m n:Mdl)(H:AHeap):cJ Tryz.prog 15 [cC f1 f2 f3 f4 m,cC g1 g2 g3 g4 n] H (.bool (decide (m=n))):=by
 refine aL Tryz.func15 rfl (Nat.le_of_ble_eq_true rfl) ?_
 have h1:=aCk f1 f2 g1 g2 m.log n.log
 have h2:=aHR f3 g3 m.snaps n.snaps
 have h3:=aDN f4 g4 m.watches n.watches
 simp only[zW]at h1
 have hall:decide (m=n)=(decide (m.log=n.log)&&decide (m.snaps=n.snaps)&&decide (m.watches=n.watches)&&decide (m.seen=n.seen)&&decide (m.rep=n.rep)&&decide (m.next=n.next)):=by
  cases m;cases n
  rw[Bool.eq_iff_iff];simp;constructor<;>(intro h;simp_all)
 rw[hall]
 generalize decide (m.log=n.log)=p1 at *
 generalize decide (m.snaps=n.snaps)=p2 at *
 generalize decide (m.watches=n.watches)=p3 at *
 have ct0:=ct h1 wB;have ct1:=ct h2 aGG;have ct2:=ct h3 aGH;repeat' first|((first|refine gK ?_|refine gS ?_);simp only[go_sem,cC,iW])|refine gA ?_|(refine gD (fun h=>?_) (fun h=>?_)<;>try exact aA h)|fail
 exact done (by simp only[go_sem]) (.refl _)
end Go.Proofs.YthhdnjiodklmmaaGreatDoor
