/- The texts 11 of 51 beneath the rows of this seat (joined by program): the abstract machine, and what the functions answer. No condition. -/
import Derived.Test.YthhdnjiodklmmaaGreatDoorWorkAI
import Derived.Test.YthhdnjiodklmmaaGreatDoorWorkAJ
set_option linter.unusedSimpArgs false
set_option linter.unusedVariables false
set_option linter.unusedSectionVars false
/- What the functions of the logs answer: clones, Same, Has, Ops. No condition. -/
namespace Go.Proofs.YthhdnjiodklmmaaGreatDoor
open Go Go.Aw Go.Gw
set_option linter.unusedSimpArgs false
set_option maxRecDepth 20000
set_option maxHeartbeats 1000000
def uO:List Pl:=[.pure 0,.pure 0,.pure 0,.pure 0,.pure 0,.pure 0,.free,.eff [false,false,false,false,false,false]]
attribute [go_sem] uO
theorem jC(l:List Ent):∀e∈l.map fX,e.cells.length=17:=fun e he=>by
 obtain⟨x,_,rfl⟩:=List.mem_map.1 he;rfl
theorem iU(l:List Ent):(∀e∈l.map fX,e.cells.length=17)=True:=eq_true (jC l)
theorem sA(l:List Ent):∀e∈l.map fX,Pur e:=fun e he=>by
 obtain⟨x,_,rfl⟩:=List.mem_map.1 he;first|exact(by simp only[go_sem])|(simp only[fX];exact(by simp only[go_sem]))
theorem aHa(b:Bool)(l:List Ent)(hl:l.length≤1073741824)(H:AHeap):cJ Tryz.prog 157 [.sl b (l.map fX)] H (.sl false (l.map fX)):=by
 refine aL Tryz.func157 rfl (Nat.le_of_ble_eq_true rfl) ?_
 repeat' first|(refine gS ?_;simp only[go_sem])|refine gA ?_|(refine gD (fun h=>?_) (fun h=>?_)<;>try exact aA h)|fail
 intro c hc
 cases c with
 |true=>
  have hnil:l=[]:=by
   cases l with
   |nil=>rfl
   |cons x l=>exact absurd (hc (by simp)) (by decide)
  subst hnil
  repeat' first|(refine gS ?_;simp only[go_sem])|refine gA ?_|(refine gD (fun h=>?_) (fun h=>?_)<;>try exact aA h)|fail
  exact aY (by simp only[go_sem]) (.sl _ _)
 |false=>
  clear hc
  repeat' first|(refine gS ?_;simp only[go_sem,iU])|refine gA ?_|(refine gD (fun h=>?_) (fun h=>?_)<;>try exact aA h)|fail
  exact jS (cs:=List.flatMap AV.cells (List.map fX l)) (es:=l.map fX) (rest:=[]) (Nat.le_refl _) (by simp only[go_sem]) (List.append_nil _).symm (by rw[List.length_map]) (jC _) (sA _) rfl
theorem pK(l:List Nd):∀e∈l.map ndA,e.cells.length=8:=fun e he=>by
 obtain⟨x,_,rfl⟩:=List.mem_map.1 he;rfl
theorem wM(l:List Nd):(∀e∈l.map ndA,e.cells.length=8)=True:=eq_true (pK l)
theorem aBg(l:List Nd):∀e∈l.map ndA,Pur e:=fun e he=>by
 obtain⟨x,_,rfl⟩:=List.mem_map.1 he;first|exact(by simp only[go_sem])|(simp only[ndA];exact(by simp only[go_sem]))
theorem aHb(b:Bool)(l:List Nd)(hl:l.length≤1073741824)(H:AHeap):cJ Tryz.prog 128 [.sl b (l.map ndA)] H (.sl false (l.map ndA)):=by
 refine aL Tryz.func128 rfl (Nat.le_of_ble_eq_true rfl) ?_
 repeat' first|(refine gS ?_;simp only[go_sem])|refine gA ?_|(refine gD (fun h=>?_) (fun h=>?_)<;>try exact aA h)|fail
 intro c hc
 cases c with
 |true=>
  have hnil:l=[]:=by
   cases l with
   |nil=>rfl
   |cons x l=>exact absurd (hc (by simp)) (by decide)
  subst hnil
  repeat' first|(refine gS ?_;simp only[go_sem])|refine gA ?_|(refine gD (fun h=>?_) (fun h=>?_)<;>try exact aA h)|fail
  exact aY (by simp only[go_sem]) (.sl _ _)
 |false=>
  clear hc
  repeat' first|(refine gS ?_;simp only[go_sem,wM])|refine gA ?_|(refine gD (fun h=>?_) (fun h=>?_)<;>try exact aA h)|fail
  exact jS (cs:=List.flatMap AV.cells (List.map ndA l)) (es:=l.map ndA) (rest:=[]) (Nat.le_refl _) (by simp only[go_sem]) (List.append_nil _).symm (by rw[List.length_map]) (pK _) (aBg _) rfl
theorem aDm(b:Bool)(l:List Ent)(fn:Fn)(fs cs:List AV)(p:Ent→Bool)(H:AHeap)(hf:∀c,FnV Tryz.prog (.func fn fs cs) [fX c] H (.bool (p c))):
  cJ Tryz.prog 207 [.sl b (l.map fX),.func fn fs cs] H (.int .i64 (iT p l)):=by
 refine gI fun hok _=>?_
 have hl:=lK hok
 rw[List.length_map]at hl
 simp only[fX]at hf
 refine aL Tryz.func207 rfl (Nat.le_of_ble_eq_true rfl) ?_
 repeat' first|(refine gS ?_;simp only[go_sem])|refine gA ?_|(refine gD (fun h=>?_) (fun h=>?_)<;>try exact aA h)|fail
 refine aP (ι:=Nat) (fun i=>[(0,.sl b (l.map fX)),(1,.func fn fs cs),(7,.int .i64 l.length),(8,.int .i64 i)]) (fun _=>H) (fun i=>i≤l.length∧∀k (hk:k<i) (hk2:k<l.length),p l[k]=false) (fun i=>l.length-i) 0 ⟨Nat.zero_le _,fun k hk=>by omega⟩ ?_ rfl ?_
 ·simp[go_sem]
 ·rintro i ⟨hi,hno⟩
  by_cases hlt:i<l.length
  ·have hp:=bA fX hlt
   repeat' first|(refine gS ?_;simp only[go_sem,hp,fX])|refine gA ?_|(refine gD (fun h=>?_) (fun h=>?_)<;>try exact aA h)|fail
   refine pW (hf _) ?_
   simp only[go_sem]
   repeat' first|(refine gS ?_;simp only[go_sem])|refine gA ?_|(refine gD (fun h=>?_) (fun h=>?_)<;>try exact aA h)|fail
   ·exact aY (by simp only[go_sem]) (.of (by rw[nA p l i hlt (fun k hk=>hno k hk (by omega)) h]))
   ·refine⟨i+1,⟨hlt,fun k hk hk2=>?_⟩,by omega,by rw[wrap_i64 (by omega) (by omega)];rfl⟩
    by_cases e:k=i
    ·subst e;exact h
    ·exact hno k (by omega) hk2
  ·have hi':i=l.length:=by omega
   repeat' first|(refine gS ?_;simp only[go_sem])|refine gA ?_|(refine gD (fun h=>?_) (fun h=>?_)<;>try exact aA h)|fail
   subst hi'
   exact aY (by simp only[go_sem]) (.of (by rw[nB p l fun k hk=>hno k hk hk]))
theorem aL4(b:Bool)(l:List Ent)(fn:Fn)(fs cs:List AV)(p:Ent→Bool)(H:AHeap)(hf:∀c,FnV Tryz.prog (.func fn fs cs) [fX c] H (.bool (p c))):
  cJ Tryz.prog 178 [.sl b (l.map fX),.func fn fs cs] H (.bool (l.any p)):=by
 refine aL Tryz.func178 rfl (Nat.le_of_ble_eq_true rfl) ?_
 have hx:=aDm b l fn fs cs p H hf
 repeat' first|((first|refine aV (hx) sV ?_|refine aW (hx) sV ?_|refine aX (fun _=>hx) sV ?_|refine gS ?_);simp only[go_sem])|refine gA ?_|(refine gD (fun h=>?_) (fun h=>?_)<;>try exact aA h)|fail
 exact aY (by simp only[go_sem]) (.of (by rw[nY]))
theorem aFQ(b1 b2:Bool)(g:Lg)(h1:g.entries.length≤1073741824)(h2:g.nodes.length≤1073741824)(H:AHeap):cJ Tryz.prog 100 [zW b1 b2 g] H (lgA g):=by
 refine aL Tryz.func100 rfl (Nat.le_of_ble_eq_true rfl) ?_
 have hc1:=aHa b1 g.entries h1
 have hc2:=aHb b2 g.nodes h2
 simp only[zW]
 have ct0:=ct hc1 aEj;have ct1:=ct hc2 jH;repeat' first|((first|refine gK ?_|refine mx [1] uO ?_|refine gS ?_);simp only[go_sem])|refine gA ?_|(refine gD (fun h=>?_) (fun h=>?_)<;>try exact aA h)|fail
 exact done (by simp only[go_sem]) (.refl _)
theorem aQm(e:Ent)(a:Stm)(H:AHeap)(i:Nat)(hi:hget H i=.cells 0 [.int .i64 a.c,.int .i64 a.r]):cJ Tryz.prog 179 [fX e,.ref i 0 0] H (.bool (decide (e.op.at_=a))):=by
 refine aL Tryz.func179 rfl (Nat.le_of_ble_eq_true rfl) ?_
 simp only[fX]
 have hi2:=fun L=>aH hi trivial L
 repeat' first|(refine gS ?_;simp only[go_sem,hi,hi2])|refine gA ?_|(refine gD (fun h=>?_) (fun h=>?_)<;>try exact aA h)|fail
 exact done (by simp only[go_sem]) (.of (by rw[aIK]))
theorem aNT(b1 b2:Bool)(g:Lg)(a:Stm)(H:AHeap):cJ Tryz.prog 141 [zW b1 b2 g,stA a] H (.bool (jY g.entries a)):=by
 refine aL Tryz.func141 rfl (Nat.le_of_ble_eq_true rfl) ?_
 have hh:=fun H i (hi:hget H i=.cells 0 [.int .i64 a.c,.int .i64 a.r])=>aL4 b1 g.entries (.func 179) [] [.ref i 0 0] (fun e=>decide (e.op.at_=a)) H (fun e=>.mk (first:=[]) (fun L=>aQm e a (H++L) i (aH hi trivial L)) aEn)
 simp only[zW,stA]
 repeat' first|((first|refine aV (hh _ _ (by simp only[go_sem])) sN ?_|refine aW (hh _ _ (by simp only[go_sem])) sN ?_|refine aX (fun _=>hh _ _ (by simp only[go_sem])) sN ?_|refine gS ?_);simp only[go_sem])|refine gA ?_|(refine gD (fun h=>?_) (fun h=>?_)<;>try exact aA h)|fail
 exact done (by simp only[go_sem]) (.refl _)
theorem aNU(a b:Ent):(decide (a.op=b.op)&&((a.undo.did==b.undo.did)&&((a.undo.had==b.undo.had)&&decide (a.undo.was=b.undo.was))))=decide (a=b):=by
 obtain⟨_,_,_,_⟩:=a
 obtain⟨_,_,_,_⟩:=b
 rw[Bool.eq_iff_iff];simp
theorem aCk(b1 b2 b3 b4:Bool)(g k:Lg)(H:AHeap):cJ Tryz.prog 28 [zW b1 b2 g,zW b3 b4 k] H (.bool (decide (g=k))):=by
 refine gI fun hok _=>?_
 have hl:=lK (aPc hok (.sl b1 (g.entries.map fX)) (by simp))
 rw[List.length_map]at hl
 refine aL Tryz.func28 rfl (Nat.le_of_ble_eq_true rfl) ?_
 simp only[zW]
 repeat' first|(refine gS ?_;simp only[go_sem])|refine gA ?_|(refine gD (fun h=>?_) (fun h=>?_)<;>try exact aA h)|fail
 ·exact done (by simp only[go_sem]) (.of (by rw[decide_eq_false (fun e=>by subst e;simp at h)]))
 ·have hlen:g.entries.length=k.entries.length:=by simp at h;omega
  refine aP (ι:=Nat) (fun i=>[(2,.ref H.length 0 0),(3,.ref (H.length+1) 0 0),(5,.int .i64 i)]) (fun _=>H++[.cells 0 [.sl b1 (g.entries.map fX),.sl b2 (g.nodes.map ndA)],.cells 0 [.sl b3 (k.entries.map fX),.sl b4 (k.nodes.map ndA)]]) (fun i=>i≤g.entries.length∧g.entries.take i=k.entries.take i) (fun i=>g.entries.length-i) 0 ⟨Nat.zero_le _,rfl⟩ ?_ rfl ?_
  ·simp[go_sem]
  ·rintro i ⟨hi,he⟩
   by_cases hlt:i<g.entries.length
   ·have hp:=bA fX hlt
    have hq:=bA fX (show i<k.entries.length by omega)
    repeat' first|(refine gS ?_;simp only[go_sem,hp,hq,fX])|refine gA ?_|(refine gD (fun h=>?_) (fun h=>?_)<;>try exact aA h)|fail
    ·rw[aNS,aFK,aNU]at h
     have hne:g.entries[i]≠k.entries[i]:=by simpa using h
     exact done (by simp only[go_sem]) (.of (by rw[decide_eq_false (fun e=>hne (by subst e;rfl))]))
    ·rw[aNS,aFK,aNU]at h
     have heq:g.entries[i]=k.entries[i]:=by simpa using h
     exact⟨i+1,⟨hlt,by rw[List.take_succ_eq_append_getElem hlt,List.take_succ_eq_append_getElem (by omega),he,heq]⟩,by omega,congrArg _ (bD hlt hl)⟩
   ·have hi':i=g.entries.length:=by omega
    subst hi'
    repeat' first|((first|refine cK (ct (yP _ _ _ _) lS) ?_|refine cP (ct (yP _ _ _ _) lS) ?_|refine cM (ct (yP _ _ _ _) lS) ?_|refine gS ?_);simp only[go_sem])|refine gA ?_|(refine gD (fun h=>?_) (fun h=>?_)<;>try exact aA h)|fail
    refine done (by simp only[go_sem]) (.of ?_)
    rw[List.take_length,hlen,List.take_length]at he
    obtain⟨ge,gn⟩:=g
    obtain⟨ke,kn⟩:=k
    simp only at he
    subst he
    congr 1
    rw[Bool.eq_iff_iff];simp
end Go.Proofs.YthhdnjiodklmmaaGreatDoor
