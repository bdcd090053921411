/- The texts 27 of 51 beneath the rows of this seat (joined by program): the abstract machine, and what the functions answer. No condition. -/
import Derived.Test.YthhdnjiodklmmaaGreatDoorWorkAL
import Derived.Test.YthhdnjiodklmmaaGreatDoorWorkAU
set_option linter.unusedSimpArgs false
set_option linter.unusedVariables false
set_option linter.unusedSectionVars false
/- What the document's packages hold texts, events and answers against each other by; short calls. No condition. -/
namespace Go.Gw
def rQ(c:Cal):Bool:=decide (1000<(c.path.length:Int))||decide (1000<(c.to.length:Int))||decide (5000<(c.data.length:Int))
def iX(l:List Cal)(n:Int):Bool:=l.all (fun x=> !rQ x)&&decide ((l.length:Int)≤n)
theorem aNZ(a b:Evt):(decide (a.kind=b.kind)&&decide (a.path=b.path))=decide (a=b):=by
 obtain⟨_,_⟩:=a
 obtain⟨_,_⟩:=b
 rw[Bool.eq_iff_iff];simp
end Go.Gw
namespace Go.Proofs.YthhdnjiodklmmaaGreatDoor
open Go Go.Aw Go.Gw
set_option linter.unusedSimpArgs false
set_option maxRecDepth 20000
set_option maxHeartbeats 4000000
theorem aCE(b1 b2:Bool)(l m:List Evt)(H:AHeap):cJ Tryz.prog 20 [.sl b1 (l.map gF),.sl b2 (m.map gF)] H (.bool (decide (l=m))):=by
 refine gI fun hok _=>?_
 have hl:=lK hok
 rw[List.length_map]at hl
 refine aL Tryz.func20 rfl (Nat.le_of_ble_eq_true rfl) ?_
 repeat' first|(refine gS ?_;simp only[go_sem])|refine gA ?_|(refine gD (fun h=>?_) (fun h=>?_)<;>try exact aA h)|fail
 ·exact aY (by simp only[go_sem]) (.of (by rw[decide_eq_false (fun e=>by subst e;simp at h)]))
 ·have hlen:l.length=m.length:=by simp at h;omega
  refine aP (ι:=Nat) (fun i=>[(0,.sl b1 (l.map gF)),(1,.sl b2 (m.map gF)),(5,.int .i64 i)]) (fun _=>H) (fun i=>i≤l.length∧l.take i=m.take i) (fun i=>l.length-i) 0 ⟨Nat.zero_le _,rfl⟩ ?_ rfl ?_
  ·simp[go_sem]
  ·rintro i ⟨hi,he⟩
   by_cases hlt:i<l.length
   ·have hp:=bA gF hlt
    have hq:=bA gF (show i<m.length by omega)
    repeat' first|(refine gS ?_;simp only[go_sem,hp,hq,gF])|refine gA ?_|(refine gD (fun h=>?_) (fun h=>?_)<;>try exact aA h)|fail
    ·rw[aNZ]at h
     have hne:l[i]≠m[i]:=by simpa using h
     exact aY (by simp only[go_sem]) (.of (by rw[decide_eq_false (fun e=>hne (by subst e;rfl))]))
    ·rw[aNZ]at h
     have heq:l[i]=m[i]:=by simpa using h
     exact⟨i+1,⟨hlt,by rw[List.take_succ_eq_append_getElem hlt,List.take_succ_eq_append_getElem (by omega),he,heq]⟩,by omega,by rw[wrap_i64 (by omega) (by omega)];rfl⟩
   ·have hi':i=l.length:=by omega
    subst hi'
    repeat' first|(refine gS ?_;simp only[go_sem])|refine gA ?_|(refine gD (fun h=>?_) (fun h=>?_)<;>try exact aA h)|fail
    exact aY (by simp only[go_sem]) (.of (by rw[decide_eq_true (by rw[List.take_length,hlen,List.take_length]at he;exact he)]))
theorem aMr(b1 b2:Bool)(l m:List Txt)(H:AHeap):cJ Tryz.prog 36 [.sl b1 (l.map aEW),.sl b2 (m.map aEW)] H (.bool (decide (l=m))):=by
 refine gI fun hok _=>?_
 have hl:=lK hok
 rw[List.length_map]at hl
 refine aL Tryz.func36 rfl (Nat.le_of_ble_eq_true rfl) ?_
 repeat' first|(refine gS ?_;simp only[go_sem])|refine gA ?_|(refine gD (fun h=>?_) (fun h=>?_)<;>try exact aA h)|fail
 ·exact aY (by simp only[go_sem]) (.of (by rw[decide_eq_false (fun e=>by subst e;simp at h)]))
 ·have hlen:l.length=m.length:=by simp at h;omega
  refine aP (ι:=Nat) (fun i=>[(0,.sl b1 (l.map aEW)),(1,.sl b2 (m.map aEW)),(5,.int .i64 i)]) (fun _=>H) (fun i=>i≤l.length∧l.take i=m.take i) (fun i=>l.length-i) 0 ⟨Nat.zero_le _,rfl⟩ ?_ rfl ?_
  ·simp[go_sem]
  ·rintro i ⟨hi,he⟩
   by_cases hlt:i<l.length
   ·have hp:=bA aEW hlt
    have hq:=bA aEW (show i<m.length by omega)
    repeat' first|(refine gS ?_;simp only[go_sem,hp,hq,aEW])|refine gA ?_|(refine gD (fun h=>?_) (fun h=>?_)<;>try exact aA h)|fail
    ·skip
     have hne:l[i]≠m[i]:=by simpa using h
     exact aY (by simp only[go_sem]) (.of (by rw[decide_eq_false (fun e=>hne (by subst e;rfl))]))
    ·skip
     have heq:l[i]=m[i]:=by simpa using h
     exact⟨i+1,⟨hlt,by rw[List.take_succ_eq_append_getElem hlt,List.take_succ_eq_append_getElem (by omega),he,heq]⟩,by omega,by rw[wrap_i64 (by omega) (by omega)];rfl⟩
   ·have hi':i=l.length:=by omega
    subst hi'
    repeat' first|(refine gS ?_;simp only[go_sem])|refine gA ?_|(refine gD (fun h=>?_) (fun h=>?_)<;>try exact aA h)|fail
    exact aY (by simp only[go_sem]) (.of (by rw[decide_eq_true (by rw[List.take_length,hlen,List.take_length]at he;exact he)]))
theorem kZ(b1:Bool)(l:List Cal)(n:Int)(H:AHeap):cJ Tryz.prog 13 [.sl b1 (l.map gZ),.int .i64 n] H (.bool (iX l n)):=by
 refine gI fun hok _=>?_
 have hl:=lK hok
 rw[List.length_map]at hl
 refine aL Tryz.func13 rfl (Nat.le_of_ble_eq_true rfl) ?_
 repeat' first|(refine gS ?_;simp only[go_sem])|refine gA ?_|(refine gD (fun h=>?_) (fun h=>?_)<;>try exact aA h)|fail
 refine aP (ι:=Nat) (fun i=>[(0,.sl b1 (l.map gZ)),(1,.int .i64 n),(5,.int .i64 i)]) (fun _=>H) (fun i=>i≤l.length∧∀x∈l.take i,rQ x=false) (fun i=>l.length-i) 0 ⟨Nat.zero_le _,by simp⟩ ?_ rfl ?_
 ·simp[go_sem]
 ·rintro i ⟨hi,he⟩
  by_cases hlt:i<l.length
  ·have hp:=bA gZ hlt
   repeat' first|(refine gS ?_;simp only[go_sem,hp,gZ])|refine gA ?_|(refine gD (fun h=>?_) (fun h=>?_)<;>try exact aA h)|fail
   ·exact aY (by simp only[go_sem]) (.of (by
     have:iX l n=false:=by
      unfold iX
      rw[Bool.and_eq_false_iff]
      left
      rw[Bool.eq_false_iff]
      intro q
      have q2:=List.all_eq_true.1 q l[i] (List.getElem_mem _)
      have h':rQ l[i]=true:=h
      rw[h']at q2;cases q2
     rw[this]))
   ·refine⟨i+1,⟨hlt,fun x hx=>?_⟩,by omega,by rw[wrap_i64 (by omega) (by omega)];rfl⟩
    rw[List.take_succ_eq_append_getElem hlt,List.mem_append]at hx
    rcases hx with hx|hx
    ·exact he x hx
    ·simp at hx;subst hx;exact h
  ·have hi':i=l.length:=by omega
   subst hi'
   repeat' first|(refine gS ?_;simp only[go_sem])|refine gA ?_|(refine gD (fun h=>?_) (fun h=>?_)<;>try exact aA h)|fail
   refine aY (by simp only[go_sem]) (.of ?_)
   rw[List.take_length]at he
   have:l.all (fun x=> !rQ x)=true:=List.all_eq_true.2 fun x hx=>by rw[he x hx];rfl
   rw[iX,this,Bool.true_and]
theorem aMs(b1 b2:Bool)(l m:List Txt)(H:AHeap):cJ Tryz.prog 36 [.sl b1 (l.map AV.str),.sl b2 (m.map AV.str)] H (.bool (decide (l=m))):=aMr b1 b2 l m H
def iD(f2 f3:Bool)(a:Ans):AV:=.agg [.int .i64 a.err,.str a.data,.sl f2 (a.names.map AV.str),.int .i64 a.n,.sl f3 (a.events.map gF)]
@[go_sem] theorem aV5(f2 f3:Bool)(x:Ans):Pur (iD f2 f3 x)=True:=by simp only[iD,go_sem]
theorem aQF(a b:Ans):(decide (a.names=b.names)&&decide (a.events=b.events)&&decide (a.err=b.err)&&decide (a.data=b.data)&&decide (a.n=b.n))=decide (a=b):=by
 obtain⟨_,_,_,_,_⟩:=a
 obtain⟨_,_,_,_,_⟩:=b
 rw[Bool.eq_iff_iff];simp;constructor<;>(intro h;simp_all)
theorem aMt(f2 f3 g2 g3:Bool)(a b:Ans)(H:AHeap):cJ Tryz.prog 17 [iD f2 f3 a,iD g2 g3 b] H (.bool (decide (a=b))):=by
 refine aL Tryz.func17 rfl (Nat.le_of_ble_eq_true rfl) ?_
 have h1:=aMs f2 g2 a.names b.names
 have h2:=aCE f3 g3 a.events b.events
 rw[←aQF]
 have ct0:=ct h1 aGI;have ct1:=ct h2 rF;repeat' first|((first|refine gK ?_|refine gS ?_);simp only[go_sem,iD])|refine gA ?_|(refine gD (fun h=>?_) (fun h=>?_)<;>try exact aA h)|fail
 refine done (by simp only[go_sem]) (.of (congrArg AV.bool ?_))
 generalize decide (a.names=b.names)=p1
 generalize decide (a.events=b.events)=p2
 cases p1<;>cases p2<;>simp[Bool.and_assoc]
end Go.Proofs.YthhdnjiodklmmaaGreatDoor
