/- The texts 35 of 51 beneath the rows of this seat (joined by program): the abstract machine, and what the functions answer. No condition. -/
import Derived.Test.YthhdnjiodklmmaaGreatDoorWorkAG
import Derived.Test.YthhdnjiodklmmaaGreatDoorWorkAU
import Derived.Test.YthhdnjiodklmmaaGreatDoorWorkBH
set_option linter.unusedSimpArgs false
set_option linter.unusedVariables false
set_option linter.unusedSectionVars false
/- name.Less, and the order by which names rise: what they answer. No condition but how long the texts are. -/
namespace Go.Gw
def aKk(a b:Txt):Int:=if yW a b=true then-1 else if yW b a=true then 1 else 0
theorem aVa(a b:Txt):decide (aKk a b<0)=yW a b:=by
 unfold aKk
 cases h:yW a b with
 |true=>rfl
 |false=>
  rw[if_neg (by simp)]
  split<;>rfl
end Go.Gw
namespace Go.Proofs.YthhdnjiodklmmaaGreatDoor
open Go Go.Aw Go.Gw
set_option linter.unusedSimpArgs false
set_option linter.unusedVariables false
set_option maxRecDepth 20000
set_option maxHeartbeats 4000000
theorem aAY(a:Int)(H:AHeap):cJ Tryz.prog 226 [.int .i32 a] H (.bool false):=by
 refine aL Tryz.func226 rfl (Nat.le_of_ble_eq_true rfl) ?_
 have h0:decide (a=a)=true:=decide_eq_true rfl
 repeat' first|(refine gS ?_;simp only[go_sem,h0])|refine gA ?_|(refine gD (fun h=>?_) (fun h=>?_)<;>try exact aA h)|fail
 exact aY (by simp only[go_sem]) (.of (by simp))
def aDL(a b:Int):Int:=if a<b then-1 else if b<a then 1 else 0
theorem aQU(a b:Int)(H:AHeap):cJ Tryz.prog 200 [.int .i32 a,.int .i32 b] H (.int .i64 (aDL a b)):=by
 refine aL Tryz.func200 rfl (Nat.le_of_ble_eq_true rfl) ?_
 unfold aDL
 repeat' first|((first|refine cK (ct (aAY _) sX) ?_|refine cP (ct (aAY _) sX) ?_|refine cM (ct (aAY _) sX) ?_|refine gS ?_);simp only[go_sem])|refine gA ?_|(refine gD (fun h=>?_) (fun h=>?_)<;>try exact aA h)|fail
 all_goals exact aY (by simp only[go_sem]) (.of (congrArg _ (by simp only[decide_eq_true_eq,decide_eq_false_iff_not]at *;(repeat' split)<;>omega)))
def aCN(s:Txt)(k:Nat):ABlk:=.cells 1 (((s.take k).map fun b=>AV.int .i32 ((b.toNat:Int)+1114112))++List.replicate (s.length-k) (AV.int .i32 0))
theorem aGc(s:Txt)(hs:s.length≤1073741824)(H:AHeap):cJ Tryz.prog 169 [.str s] H (.sl false ((cQ s).map vP)):=by
 refine aL Tryz.func169 rfl (Nat.le_of_ble_eq_true rfl) ?_
 have hsp:=aFI s hs
 unfold cQ
 cases hc:mZ s with
 |some l=>
  rw[hc]at hsp
  simp only[aAv]at hsp
  have ct0:=ct hsp iJ;repeat' first|((first|refine gK ?_|refine gS ?_);simp only[go_sem])|refine gA ?_|(refine gD (fun h=>?_) (fun h=>?_)<;>try exact aA h)|fail
  exact aY (.sl _ _ fun e he=>by obtain⟨x,_,rfl⟩:=List.mem_map.1 he;exact .int _ _) (.refl _)
 |none=>
  rw[hc]at hsp
  simp only[aAv]at hsp
  have ct0:=ct hsp iJ;repeat' first|((first|refine gK ?_|refine gS ?_);simp only[go_sem])|refine gA ?_|(refine gD (fun h=>?_) (fun h=>?_)<;>try exact aA h)|fail
  refine aP (ι:=Nat) (fun k=>[(0,.str s),(3,.osl 1 H.length 1 0 k s.length),(17,.int .i64 s.length),(18,.int .i64 k)]) (fun k=>H++[aCN s k]) (fun k=>k≤s.length) (fun k=>s.length-k) 0 (Nat.zero_le _) ?_ (by simp[aCN,aDb]) ?_
  ·simp[go_sem]
  intro k hk
  by_cases hlt:k<s.length
  ·have hli:decide ((k:Int)<(s.length:Int))=true:=decide_eq_true (by omega)
   have hgd:s.getD k 0=s[k]:=by simp[List.getD_eq_getElem?_getD,hlt]
   have hb:=s[k].toNat_lt
   have hw1:IntKind.i32.wrap ((s[k].toNat:Nat):Int)=((s[k].toNat:Nat):Int):=by simp[IntKind.wrap,IntKind.bits,IntKind.signed];omega
   have hw2:IntKind.i32.wrap (1114111+((s[k].toNat:Nat):Int))=1114111+((s[k].toNat:Nat):Int):=by simp[IntKind.wrap,IntKind.bits,IntKind.signed];omega
   have hw3:IntKind.i32.wrap (1114111+((s[k].toNat:Nat):Int)+1)=((s[k].toNat:Nat):Int)+1114112:=by simp[IntKind.wrap,IntKind.bits,IntKind.signed];omega
   have hw4:IntKind.i64.wrap ((k:Int)+1)=((k+1:Nat):Int):=aJ (by omega) (by omega)
   have hne:(k=s.length)=False:=eq_false (by omega)
   obtain⟨m,hm⟩:∃m,s.length-k=m+1:=⟨s.length-k-1,by omega⟩
   have hm2:s.length-(k+1)=m:=by omega
   have hsr:=tJ ((s.take k).map fun b=>AV.int .i32 ((b.toNat:Int)+1114112)) m (.int .i32 0) (.int .i32 ((s[k].toNat:Int)+1114112))
   rw[List.length_map,List.length_take,Nat.min_eq_left hk]at hsr
   have hq:(∀e,e=AV.int .i32 ((s[k].toNat:Int)+1114112)→e.cells.length=1)=True:=eq_true fun e he=>by rw[he];rfl
   unfold aCN
   rw[hm]
   repeat' first|(refine gS ?_;simp only[go_sem,hli,hgd,hw1,hw2,hw3,hw4,hne,hq,Nat.mul_one,hsr])|refine gA ?_|(refine gD (fun h=>?_) (fun h=>?_)<;>try exact aA h)|fail
   exact⟨k+1,hlt,by omega,⟨rfl,rfl⟩,by rw[hm2,List.take_succ_eq_append_getElem hlt,List.map_append,List.append_assoc];rfl⟩
  ·have hke:k=s.length:=by omega
   subst hke
   have hli:decide ((s.length:Int)<(s.length:Int))=false:=by simp
   unfold aCN
   repeat' first|(refine gS ?_;simp only[go_sem,hli])|refine gA ?_|(refine gD (fun h=>?_) (fun h=>?_)<;>try exact aA h)|fail
   rw[List.take_length]
   exact jS (es:=(s.map fun b=>((b.toNat:Int)+1114112)).map vP) (rest:=List.replicate (s.length-s.length) (AV.int .i32 0)) (Nat.le_refl _) (by simp only[go_sem];rfl) (by rw[Nat.sub_self,List.replicate_zero];congr 1;rw[List.map_map,List.flatMap_map];exact List.map_eq_flatMap ..) (by simp) (fun e he=>by obtain⟨c,_,rfl⟩:=List.mem_map.1 he;rfl) (fun e he=>by obtain⟨c,_,rfl⟩:=List.mem_map.1 he;exact .int _ _) rfl
theorem aMN(b1 b2:Bool)(l m:List Int)(H:AHeap):cJ Tryz.prog 168 [.sl b1 (l.map vP),.sl b2 (m.map vP)] H (.int .i64 (gU l m)):=by
 refine gI fun hok _=>?_
 have hl:=lK hok
 rw[List.length_map]at hl
 refine aL Tryz.func168 rfl (Nat.le_of_ble_eq_true rfl) ?_
 obtain⟨X,hX⟩:∃X,gU l m=X:=⟨_,rfl⟩
 rw[hX]
 repeat' first|(refine gS ?_;simp only[go_sem])|refine gA ?_|(refine gD (fun h=>?_) (fun h=>?_)<;>try exact aA h)|fail
 refine aP (ι:=Nat) (fun k=>[(0,.sl b1 (l.map vP)),(1,.sl b2 (m.map vP)),(9,.sl b1 (l.map vP)),(10,.int .i64 l.length),(11,.int .i64 k)]) (fun _=>H) (fun k=>k≤l.length∧k≤m.length∧gU (l.drop k) (m.drop k)=X) (fun k=>l.length-k) 0 ⟨Nat.zero_le _,Nat.zero_le _,by simpa using hX⟩ ?_ rfl ?_
 ·simp[go_sem]
 rintro k ⟨h1,h2,h3⟩
 by_cases hlt:k<l.length
 ·have hli:decide ((k:Int)<(l.length:Int))=true:=decide_eq_true (by omega)
  have hp:=bA vP hlt
  have hw:IntKind.i64.wrap ((k:Int)+1)=((k+1:Nat):Int):=by rw[wrap_i64 (by omega) (by omega)];rfl
  rw[List.drop_eq_getElem_cons hlt]at h3
  by_cases hm:k<m.length
  ·have hli2:decide ((m.length:Int)≤(k:Int))=false:=decide_eq_false (by omega)
   have hq:=bA vP hm
   have hc:=aQU l[k] m[k]
   rw[List.drop_eq_getElem_cons hm,gU]at h3
   by_cases hne:aDL l[k] m[k]=0
   ·have hz:decide (aDL l[k] m[k]=0)=true:=decide_eq_true hne
    have:¬l[k]<m[k]∧¬m[k]<l[k]:=by unfold aDL at hne;(repeat' split at hne)<;>omega
    rw[if_neg this.1,if_neg this.2]at h3
    have ct0:=ct hc aAk;repeat' first|((first|refine gK ?_|refine gS ?_);simp only[go_sem,hli,hli2,hp,hq,hz,hw,vP])|refine gA ?_|(refine gD (fun h=>?_) (fun h=>?_)<;>try exact aA h)|fail
    exact⟨k+1,⟨hlt,hm,h3⟩,by omega,rfl⟩
   ·have hz:decide (aDL l[k] m[k]=0)=false:=decide_eq_false hne
    have:aDL l[k] m[k]=X:=by rw[←h3];unfold aDL at hne ⊢;(repeat' split)<;>first|rfl|omega
    have ct0:=ct hc aAk;repeat' first|((first|refine gK ?_|refine gS ?_);simp only[go_sem,hli,hli2,hp,hq,hz,vP])|refine gA ?_|(refine gD (fun h=>?_) (fun h=>?_)<;>try exact aA h)|fail
    exact aY (by simp only[go_sem]) (.of (by rw[this]))
  ·have hli2:decide ((m.length:Int)≤(k:Int))=true:=decide_eq_true (by omega)
   rw[show m.drop k=[]from List.drop_eq_nil_of_le (by omega),gU]at h3
   repeat' first|(refine gS ?_;simp only[go_sem,hli,hli2,hp,vP])|refine gA ?_|(refine gD (fun h=>?_) (fun h=>?_)<;>try exact aA h)|fail
   exact aY (by simp only[go_sem]) (.of (by rw[←h3]))
 ·have hli:decide ((k:Int)<(l.length:Int))=false:=decide_eq_false (by omega)
  rw[show l.drop k=[]from List.drop_eq_nil_of_le (by omega)]at h3
  by_cases hm:l.length<m.length
  ·have hli2:decide ((l.length:Int)<(m.length:Int))=true:=decide_eq_true (by omega)
   rw[List.drop_eq_getElem_cons (show k<m.length by omega),gU]at h3
   repeat' first|(refine gS ?_;simp only[go_sem,hli,hli2])|refine gA ?_|(refine gD (fun h=>?_) (fun h=>?_)<;>try exact aA h)|fail
   exact aY (by simp only[go_sem]) (.of (by rw[←h3]))
  ·have hli2:decide ((l.length:Int)<(m.length:Int))=false:=decide_eq_false (by omega)
   rw[show m.drop k=[]from List.drop_eq_nil_of_le (by omega),gU]at h3
   repeat' first|(refine gS ?_;simp only[go_sem,hli,hli2])|refine gA ?_|(refine gD (fun h=>?_) (fun h=>?_)<;>try exact aA h)|fail
   exact aY (by simp only[go_sem]) (.of (by rw[←h3]))
theorem aGd(a b:Txt)(ha:a.length≤1073741824)(hb:b.length≤1073741824)(H:AHeap):cJ Tryz.prog 117 [.str a,.str b] H (.bool (yW a b)):=by
 refine aL Tryz.func117 rfl (Nat.le_of_ble_eq_true rfl) ?_
 have h1:=aGc a ha
 have h2:=aGc b hb
 have h3:=aMN false false (cQ a) (cQ b)
 have ct0:=ct h1 aAf;have ct1:=ct h2 aAf;have ct2:=ct h3 aEm;repeat' first|((first|refine gK ?_|refine gS ?_);simp only[go_sem])|refine gA ?_|(refine gD (fun h=>?_) (fun h=>?_)<;>try exact aA h)|fail
 exact aY (by simp only[go_sem]) (.refl _)
theorem aHJ(a b:Txt)(ha:a.length≤1073741824)(hb:b.length≤1073741824)(H:AHeap):cJ Tryz.prog 116 [.str a,.str b] H (.int .i64 (aKk a b)):=by
 refine aL Tryz.func116 rfl (Nat.le_of_ble_eq_true rfl) ?_
 have h1:=aGd a b ha hb
 have h2:=aGd b a hb ha
 unfold aKk
 have ct0:=ct h1 zX;have ct1:=ct h2 zX;repeat' first|((first|refine gK ?_|refine gS ?_);simp only[go_sem])|refine gA ?_|(refine gD (fun h=>?_) (fun h=>?_)<;>try exact aA h)|fail
 all_goals exact aY (by simp only[go_sem]) (.of (by simp_all))
theorem aQV:uS Tryz.prog (.func (.func 116) [] []) (fun a b=>aKk a.1 b.1):=fun a b H=>.inl ⟨aEa,aHJ a.1 b.1 a.2 b.2 H⟩
end Go.Proofs.YthhdnjiodklmmaaGreatDoor
