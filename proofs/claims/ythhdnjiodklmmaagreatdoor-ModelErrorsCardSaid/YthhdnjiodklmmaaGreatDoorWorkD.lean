/- The texts 4 of 8 beneath the rows of this seat (joined by program): the abstract machine, and what the functions answer. No condition. -/
import Derived.Test.YthhdnjiodklmmaaGreatDoorWorkC
import Derived.Lib.Bytealg
import Derived.Laws.Externs
import Derived.Laws.Bits64
import Derived.Lib.MapLaws
import Derived.Sort.AssemblyPlain
set_option linter.unusedSimpArgs false
set_option linter.unusedVariables false
set_option linter.unusedSectionVars false
/- What the functions of the names answer, ars far ars operations reach them. No condition. -/
namespace Go.Gw
open Go Go.Aw
def vN(p s:Txt):Bool:=decide (p.length≤s.length)&&decide (s.take p.length=p)
def rA(c:Int):AV:=.int .i32 c
def fG(s:Txt):Nat→Nat→Option (List Int)
 |0,pos=>if pos<s.length then none else some []
 |k+1,pos=>if pos<s.length then
   if(!decide (((eX s pos).1:Int)=65533))=true∨vN [239,191,189] (s.drop pos)=true then(fG s k (pos+(eX s pos).2)).map (((eX s pos).1:Int)::·)else none
  else some []
def lE(s:Txt):Option (List Int):=fG s s.length 0
theorem pK(s:Txt)(pos:Nat):1≤(eX s pos).2:=by
 unfold eX Utf8.decode
 simp only[]
 repeat' split
 all_goals simp
def gJ{α:Type}(p:α→Bool):List α→Int
 |[]=> -1
 |x::l=>if p x=true then 0 else if gJ p l= -1 then-1 else gJ p l+1
theorem aC6{α:Type}(p:α→Bool)(l:List α): -1≤gJ p l:=by
 induction l with
 |nil=>simp[gJ]
 |cons x l ih=>unfold gJ;(repeat' split)<;>omega
theorem mX{α:Type}(p:α→Bool)(l:List α):decide (0≤gJ p l)=l.any p:=by
 induction l with
 |nil=>simp[gJ]
 |cons x l ih=>
  have:=aC6 p l
  unfold gJ
  rw[List.any_cons,←ih]
  by_cases h:p x=true
  ·simp[h]
  ·rw[if_neg h]
   have:p x=false:=by simpa using h
   rw[this,Bool.false_or]
   by_cases h2:gJ p l= -1
   ·simp[h2]
   ·rw[if_neg h2,Bool.eq_iff_iff];simp;omega
theorem kJ{α:Type}(p:α→Bool)(l:List α)(i:Nat)(hi:i<l.length)(h:∀k (hk:k<i),p (l[k]'(by omega))=false)(hp:p l[i]=true):gJ p l=i:=by
 induction l generalizing i with
 |nil=>simp at hi
 |cons x l ih=>
  cases i with
  |zero=>simp at hp;simp[gJ,hp]
  |succ i=>
   have h0:=h 0 (by omega)
   simp at h0
   have h1:=ih i (by simpa using hi) (fun k hk=>by simpa using h (k+1) (by omega)) (by simpa using hp)
   unfold gJ
   rw[h0,h1]
   simp
theorem kK{α:Type}(p:α→Bool)(l:List α)(h:∀k (hk:k<l.length),p l[k]=false):gJ p l= -1:=by
 induction l with
 |nil=>rfl
 |cons x l ih=>
  have h0:=h 0 (by simp)
  simp at h0
  unfold gJ
  rw[h0,ih fun k hk=>h (k+1) (by simpa using hk)]
  rfl
def qJ(c:Int):Bool:=decide (c<32)||decide (c=47)||decide (c=127)
def jX(s:Txt):Bool:=
 match lE s with
 |some l=>bif (decide ((l.length:Int)<1)||decide (20<(l.length:Int))||decide (s=[46])||decide (s=[46,46]))then false else !l.any qJ
 |none=>false
end Go.Gw
namespace Go.Proofs.YthhdnjiodklmmaaGreatDoor
open Go Go.Aw Go.Gw
set_option linter.unusedSimpArgs false
set_option maxRecDepth 20000
theorem aCp(s p:Txt)(H:AHeap):cN Tryz.prog 228 [.str s,.str p] H (.bool (vN p s)):=by
 refine aQ Tryz.func228 rfl (Nat.le_of_ble_eq_true rfl) ?_
 repeat' first|(refine gS ?_;simp only[go_sem])|refine gA ?_|(refine gD (fun h=>?_) (fun h=>?_)<;>try exact aB h)|fail
 exact aT (by simp only[go_sem]) (.of (by simp only[vN,Int.ofNat_le]))
theorem aF8(s p:Txt)(H:AHeap):cN Tryz.prog 227 [.str s,.str p] H (.bool (vN p s)):=by
 refine aQ Tryz.func227 rfl (Nat.le_of_ble_eq_true rfl) ?_
 repeat' first|((first|refine cK (ct (aCp _ _) iM) ?_|refine cP (ct (aCp _ _) iM) ?_|refine cM (ct (aCp _ _) iM) ?_|refine gS ?_);simp only[go_sem])|refine gA ?_|(refine gD (fun h=>?_) (fun h=>?_)<;>try exact aB h)|fail
 exact aT (by simp only[go_sem]) (.refl _)
theorem aF9(c:Int)(H:AHeap):cN Tryz.prog 233 [.int .i32 c] H (.bool (qJ c)):=by
 refine aQ Tryz.func233 rfl (Nat.le_of_ble_eq_true rfl) ?_
 repeat' first|(refine gS ?_;simp only[go_sem])|refine gA ?_|(refine gD (fun h=>?_) (fun h=>?_)<;>try exact aB h)|fail
 exact aT (by simp only[go_sem]) (.refl _)
theorem aD9(b:Bool)(l:List Int)(fv:AV)(p:Int→Bool)(H:AHeap)(hf:∀c,FnV Tryz.prog fv [.int .i32 c] H (.bool (p c))):
  cN Tryz.prog 247 [.sl b (l.map rA),fv] H (.int .i64 (gJ p l)):=by
 refine iT fun hok _=>?_
 have hl:=mS hok
 rw[List.length_map]at hl
 refine aQ Tryz.func247 rfl (Nat.le_of_ble_eq_true rfl) ?_
 repeat' first|(refine gS ?_;simp only[go_sem])|refine gA ?_|(refine gD (fun h=>?_) (fun h=>?_)<;>try exact aB h)|fail
 refine aR (ι:=Nat) (fun i=>[(0,.sl b (l.map rA)),(1,fv),(7,.int .i64 l.length),(8,.int .i64 i)]) (fun _=>H) (fun i=>i≤l.length∧∀k (hk:k<i) (hk2:k<l.length),p l[k]=false) (fun i=>l.length-i) 0 ⟨Nat.zero_le _,fun k hk=>by omega⟩ ?_ rfl ?_
 ·simp[go_sem]
 ·rintro i ⟨hi,hno⟩
  by_cases hlt:i<l.length
  ·have hp:=bF rA hlt
   repeat' first|(refine gS ?_;simp only[go_sem,hp,rA])|refine gA ?_|(refine gD (fun h=>?_) (fun h=>?_)<;>try exact aB h)|fail
   refine mT (hf _) ?_
   simp only[go_sem]
   repeat' first|(refine gS ?_;simp only[go_sem])|refine gA ?_|(refine gD (fun h=>?_) (fun h=>?_)<;>try exact aB h)|fail
   ·exact aT (by simp only[go_sem]) (.of (by rw[kJ p l i hlt (fun k hk=>hno k hk (by omega)) h]))
   ·refine⟨i+1,⟨hlt,fun k hk hk2=>?_⟩,by omega,by rw[wrap_i64 (by omega) (by omega)];rfl⟩
    by_cases e:k=i
    ·subst e;exact h
    ·exact hno k (by omega) hk2
  ·have hi':i=l.length:=by omega
   repeat' first|(refine gS ?_;simp only[go_sem])|refine gA ?_|(refine gD (fun h=>?_) (fun h=>?_)<;>try exact aB h)|fail
   subst hi'
   exact aT (by simp only[go_sem]) (.of (by rw[kK p l fun k hk=>hno k hk hk]))
theorem aEa(b:Bool)(l:List Int)(fv:AV)(p:Int→Bool)(H:AHeap)(hf:∀c,FnV Tryz.prog fv [.int .i32 c] H (.bool (p c))):
  cN Tryz.prog 232 [.sl b (l.map rA),fv] H (.bool (l.any p)):=by
 refine aQ Tryz.func232 rfl (Nat.le_of_ble_eq_true rfl) ?_
 have hx:=aD9 b l fv p H hf
 repeat' first|((first|refine aV (hx) pE ?_|refine aW (hx) pE ?_|refine aX (fun _=>hx) pE ?_|refine gS ?_);simp only[go_sem])|refine gA ?_|(refine gD (fun h=>?_) (fun h=>?_)<;>try exact aB h)|fail
 exact aT (by simp only[go_sem]) (.of (by rw[mX]))
theorem kL(s:Txt):∀(k j pos:Nat),s.length≤pos+k→s.length≤pos+j→fG s k pos=fG s j pos
 |0,0,pos,_,_=>rfl
 |0,j+1,pos,h1,_=>by unfold fG;rw[if_neg (by omega),if_neg (by omega)]
 |k+1,0,pos,_,h2=>by unfold fG;rw[if_neg (by omega),if_neg (by omega)]
 |k+1,j+1,pos,h1,h2=>by
  have:=pK s pos
  unfold fG
  rw[kL s k j _ (by omega) (by omega)]
def rW(s:Txt)(acc:List Int)(pos:Nat):Option (List Int):=(fG s (s.length-pos) pos).map (acc++·)
theorem aCq{s:Txt}{acc:List Int}{pos:Nat}(h:¬pos<s.length):rW s acc pos=some acc:=by
 unfold rW
 rw[kL s _ 0 pos (by omega) (by omega)]
 simp[fG,h]
theorem aAN{s:Txt}{acc:List Int}{pos:Nat}(h:pos<s.length):rW s acc pos=
  if(!decide (((eX s pos).1:Int)=65533))=true∨vN [239,191,189] (s.drop pos)=true then rW s (acc++[((eX s pos).1:Int)]) (pos+(eX s pos).2)else none:=by
 have hw:=pK s pos
 unfold rW
 rw[kL s _ (s.length-pos-1+1) pos (by omega) (by omega)]
 conv=>lhs;unfold fG
 rw[if_pos h]
 split
 ·rw[kL s (s.length-pos-1) (s.length-(pos+(eX s pos).2)) _ (by omega) (by omega)]
  cases fG s (s.length-(pos+(eX s pos).2)) (pos+(eX s pos).2)<;>simp
 ·rfl
def vO(r:Option (List Int)):AV:=
 match r with
 |some l=>.tup [.sl false (l.map rA),.bool true]
 |none=>.tup [.sl false [],.bool false]
theorem aAO(n:Nat)(k:IntKind):(List.replicate n (AV.int k 0)).flatMap AV.cells=List.replicate n (AV.int k 0):=by
 induction n with
 |zero=>rfl
 |succ n ih=>rw[List.replicate_succ,List.flatMap_cons,ih];rfl
theorem pL(A:List AV)(m:Nat)(z x:AV):cT (A++List.replicate (m+1) z) A.length [x]=(A++[x])++List.replicate m z:=by
 simp[cT,List.replicate_succ]
def aCr(s:Txt)(x:Nat×List Int):AHeap:=[.cells 1 (x.2.map rA++List.replicate (s.length-x.2.length) (AV.int .i32 0)),.siter s x.1]
theorem aC7(s:Txt)(hs:s.length≤1073741824)(H:AHeap):cN Tryz.prog 201 [.str s] H (vO (lE s)):=by
 refine aQ Tryz.func201 rfl (Nat.le_of_ble_eq_true rfl) ?_
 repeat' first|(refine gS ?_;simp only[go_sem])|refine gA ?_|(refine gD (fun h=>?_) (fun h=>?_)<;>try exact aB h)|fail
 refine aR (ι:=Nat×List Int) (fun x=>[(0,.str s),(4,.osl 1 H.length 1 0 x.2.length s.length),(5,.bool true),(12,.iter (H.length+1))]) (fun x=>H++aCr s x)
  (fun x=>rW s x.2 x.1=lE s∧x.2.length≤x.1) (fun x=>s.length+4-x.1) (0,[]) ?_ ?_ ?_ ?_
 ·refine⟨?_,Nat.le_refl _⟩
  show(fG s (s.length-0) 0).map _=_
  rw[lE,Nat.sub_zero]
  cases fG s s.length 0<;>simp
 ·simp[go_sem]
 ·simp[aCr,aAO]
 ·rintro⟨pos,acc⟩ ⟨h1,h2⟩
  simp only[aCr]at h1 h2 ⊢
  by_cases hlt:pos<s.length
  ·have hne:¬acc.length=s.length:=by omega
   have hlen:(acc.map rA).length=acc.length:=List.length_map ..
   obtain⟨m,hm⟩:∃m,s.length-acc.length=m+1:=⟨s.length-acc.length-1,by omega⟩
   have hm2:s.length-(acc.length+1)=m:=by omega
   have hw:=pK s pos
   have hst:=aAN (acc:=acc) hlt
   rw[h1]at hst
   repeat' first|((first|refine cK (ct (aF8 _ _) pA) ?_|refine cP (ct (aF8 _ _) pA) ?_|refine cM (ct (aF8 _ _) pA) ?_|refine gS ?_);simp only[go_sem,hlt,hne])|refine gA ?_|(refine gD (fun h=>?_) (fun h=>?_)<;>try exact aB h)|fail
   ·rw[if_pos (.inl h)]at hst
    refine⟨⟨by rw[List.length_replicate];omega,by omega,fun e he=>by rw[he];rfl⟩,(pos+(eX s pos).2,acc++[((eX s pos).1:Int)]),⟨hst.symm,by simp;omega⟩,by simp;omega,by simp,?_⟩
    have hsp:=pL (acc.map rA) m (.int .i32 0) (.int .i32 (eX s pos).1)
    rw[hlen]at hsp
    simp[hm,hm2,rA]at hsp ⊢
    exact hsp
   ·rename_i _ h5 h6
    exact Bool.noConfusion (h5.symm.trans h6)
   ·rw[if_pos (.inr h)]at hst
    refine⟨⟨by rw[List.length_replicate];omega,by omega,fun e he=>by rw[he];rfl⟩,(pos+(eX s pos).2,acc++[((eX s pos).1:Int)]),⟨hst.symm,by simp;omega⟩,by simp;omega,by simp,?_⟩
    have hsp:=pL (acc.map rA) m (.int .i32 0) (.int .i32 (eX s pos).1)
    rw[hlen]at hsp
    simp[hm,hm2,rA]at hsp ⊢
    exact hsp
   ·rename_i _ h6 h7
    rw[if_neg (by rw[h6,h7];simp)]at hst
    rw[hst]
    exact done (by simp only[go_sem]) (.tup _ _ rfl (rJ (.sl _ _) (rJ (.refl _) aAG)))
  ·repeat' first|(refine gS ?_;simp only[go_sem,hlt])|refine gA ?_|(refine gD (fun h=>?_) (fun h=>?_)<;>try exact aB h)|fail
   rw[←h1,aCq hlt]
   refine⟨_,_,rfl,?_,rfl⟩
   refine .tup _ _ rfl fun i x y hx hy=>?_
   match i,hx,hy with
   |0,hx,hy=>
    cases hx;cases hy
    refine .osl 1 H.length 1 0 acc.length s.length (acc.map rA++List.replicate (s.length-acc.length) (AV.int .i32 0)) _ (Nat.le_refl _) (by simp[go_sem]) (by simp) (by simp) (fun e he=>?_) (fun k j e x y hk hj hx=>?_)
    ·obtain⟨c,_,rfl⟩:=List.mem_map.1 he;rfl
    ·rw[List.getElem?_map,Option.map_eq_some_iff]at hk
     obtain⟨c,hc,rfl⟩:=hk
     have hj0:j=0:=by
      have:=(List.getElem?_eq_some_iff.1 hj).1
      simp[rA,AV.cells]at this;exact this
     subst hj0
     have hkl:=(List.getElem?_eq_some_iff.1 hc).1
     simp only[rA,AV.cells,List.getElem?_cons_zero,Option.some.injEq]at hj
     subst hj
     rw[Nat.mul_one,Nat.add_zero,Nat.zero_add,List.getElem?_append_left (by simpa using hkl),List.getElem?_map,hc]at hx
     cases hx
     exact .cl _ (.int _ _)
   |1,hx,hy=>cases hx;cases hy;exact .cl _ (.bool _)
   |i+2,hx,_=>simp at hx
theorem qK(s:Txt)(hs:s.length≤1073741824)(H:AHeap):cN Tryz.prog 204 [.str s] H (.bool (jX s)):=by
 refine aQ Tryz.func204 rfl (Nat.le_of_ble_eq_true rfl) ?_
 have hsp:=aC7 s hs H
 have hany:∀l:List Int,cN Tryz.prog 232 [.sl false (l.map rA),.func (.func 233) [] []] H (.bool (l.any qJ)):=fun l=>aEa false l _ qJ H fun c=>.mk (first:=[]) (cap:=[]) (fun L=>aF9 c (H++L)) aCh
 unfold jX
 cases hr:lE s with
 |none=>
  rw[hr]at hsp
  simp only[vO]at hsp
  repeat' first|((first|refine aV (hsp) fF ?_|refine aW (hsp) fF ?_|refine aX (fun _=>hsp) fF ?_|refine aV (hany _) iN ?_|refine aW (hany _) iN ?_|refine aX (fun _=>hany _) iN ?_|refine gS ?_);simp only[go_sem])|refine gA ?_|(refine gD (fun h=>?_) (fun h=>?_)<;>try exact aB h)|fail
  exact aT (by simp only[go_sem]) (.refl _)
 |some l=>
  rw[hr]at hsp
  simp only[vO]at hsp
  repeat' first|((first|refine aV (hsp) fF ?_|refine aW (hsp) fF ?_|refine aX (fun _=>hsp) fF ?_|refine aV (hany _) iN ?_|refine aW (hany _) iN ?_|refine aX (fun _=>hany _) iN ?_|refine gS ?_);simp only[go_sem])|refine gA ?_|(refine gD (fun h=>?_) (fun h=>?_)<;>try exact aB h)|fail
  ·exact aT (by simp only[go_sem]) (.of (by simp only[h,cond_true]))
  ·exact aT (by simp only[go_sem]) (.of (by simp only[h,cond_false]))
def OpS(o:Opn):Prop:=o.name.length≤1073741824∧o.data.length≤1073741824
def yD(o:Opn):Bool:=iZ o.node&&dirI o.parent&& !aCo o.at_.c o.at_.r o.parent&&jX o.name&&decide (o.data=[])
def aC8(o:Opn):Bool:=iZ o.node&&oC o.node&&decide ((o.data.length:Int)≤64)&&decide (o.parent=0)&&decide (o.name=[])
def opOk(o:Opn):Bool:=(decide (o.kind=1)||decide (o.kind=2))&&okI o.at_.c o.at_.r&& !aCo o.at_.c o.at_.r o.node&&(if o.kind=1 then yD o else aC8 o)
theorem aJK(o:Opn)(hs:OpS o)(H:AHeap):cN Tryz.prog 271 [opA o] H (.bool (yD o)):=by
 refine aQ Tryz.func271 rfl (Nat.le_of_ble_eq_true rfl) ?_
 have hs1:=hs.1
 simp only[opA]
 repeat' first|((first|refine cK (ct (iP _) bK) ?_|refine cP (ct (iP _) bK) ?_|refine cM (ct (iP _) bK) ?_|refine cK (ct (yC _) eG) ?_|refine cP (ct (yC _) eG) ?_|refine cM (ct (yC _) eG) ?_|refine cK (ct (jG _ _ _) eM) ?_|refine cP (ct (jG _ _ _) eM) ?_|refine cM (ct (jG _ _ _) eM) ?_|refine aV (qK _ (by first|assumption|decide|omega|(simp_all;done)|(simp_all;omega)) _) jT ?_|refine aW (qK _ (by first|assumption|decide|omega|(simp_all;done)|(simp_all;omega)) _) jT ?_|refine aX (fun _=>qK _ (by first|assumption|decide|omega|(simp_all;done)|(simp_all;omega)) _) jT ?_|refine gS ?_);simp only[go_sem])|refine gA ?_|(refine gD (fun h=>?_) (fun h=>?_)<;>try exact aB h)|fail
 exact done (by simp only[go_sem]) (.refl _)
theorem aJL(o:Opn)(H:AHeap):cN Tryz.prog 273 [opA o] H (.bool (aC8 o)):=by
 refine aQ Tryz.func273 rfl (Nat.le_of_ble_eq_true rfl) ?_
 simp only[opA]
 repeat' first|((first|refine cK (ct (iP _) bK) ?_|refine cP (ct (iP _) bK) ?_|refine cM (ct (iP _) bK) ?_|refine gS ?_);simp only[go_sem])|refine gA ?_|(refine gD (fun h=>?_) (fun h=>?_)<;>try exact aB h)|fail
 exact done (by simp only[go_sem]) (.refl _)
theorem aGa(o:Opn)(hs:OpS o)(H:AHeap):cN Tryz.prog 54 [opA o] H (.bool (opOk o)):=by
 refine aQ Tryz.func54 rfl (Nat.le_of_ble_eq_true rfl) ?_
 have hk:=aF7 o
 have hm:=aJK o hs
 have hw:=aJL o
 simp only[opA]at hk hm hw ⊢
 by_cases h1:o.kind=1
 ·simp only[h1,if_true]at hk hm ⊢
  have ct0:=ct hk oN;repeat' first|((first|refine gK ?_|refine cK (ct (fO _ _) bY) ?_|refine cP (ct (fO _ _) bY) ?_|refine cM (ct (fO _ _) bY) ?_|refine cK (ct (jG _ _ _) eM) ?_|refine cP (ct (jG _ _ _) eM) ?_|refine cM (ct (jG _ _ _) eM) ?_|refine dL (hm _) pH ?_|refine dM (fun _=>hm _) pH ?_|refine dN (fun _=>hm _) pH ?_|refine gS ?_);simp only[go_sem])|refine gA ?_|(refine gD (fun h=>?_) (fun h=>?_)<;>try exact aB h)|fail
  exact done (by simp only[go_sem]) (.of (by simp[opOk,h1]))
 ·by_cases h2:o.kind=2
  ·simp only[h2,if_true,if_false,Int.reduceEq]at hk hw ⊢
   have ct0:=ct hk oN;repeat' first|((first|refine gK ?_|refine cK (ct (fO _ _) bY) ?_|refine cP (ct (fO _ _) bY) ?_|refine cM (ct (fO _ _) bY) ?_|refine cK (ct (jG _ _ _) eM) ?_|refine cP (ct (jG _ _ _) eM) ?_|refine cM (ct (jG _ _ _) eM) ?_|refine dL (hw _) pI ?_|refine dM (fun _=>hw _) pI ?_|refine dN (fun _=>hw _) pI ?_|refine gS ?_);simp only[go_sem])|refine gA ?_|(refine gD (fun h=>?_) (fun h=>?_)<;>try exact aB h)|fail
   exact done (by simp only[go_sem]) (.of (by simp[opOk,h1,h2]))
  ·simp only[h1,h2,if_false]at hk
   have ct0:=ct hk oN;repeat' first|((first|refine gK ?_|refine gS ?_);simp only[go_sem])|refine gA ?_|(refine gD (fun h=>?_) (fun h=>?_)<;>try exact aB h)|fail
   exact done (by simp only[go_sem]) (.of (by simp[opOk,h1,h2]))
end Go.Proofs.YthhdnjiodklmmaaGreatDoor
/- Two lists held against each other; short lists. No condition. -/
namespace Go.Gw
end Go.Gw
namespace Go.Proofs.YthhdnjiodklmmaaGreatDoor
open Go Go.Aw Go.Gw
set_option linter.unusedSimpArgs false
set_option maxRecDepth 20000
theorem aC9(a b:Nd):(decide (a.id=b.id)&&(decide (a.parent=b.parent)&&(decide (a.name=b.name)&&(decide (a.moved.c=b.moved.c)&&decide (a.moved.r=b.moved.r)&&(decide (a.data=b.data)&&(decide (a.wrote.c=b.wrote.c)&&decide (a.wrote.r=b.wrote.r)))))))=decide (a=b):=by
 obtain⟨_,_,_,⟨_,_⟩,_,⟨_,_⟩⟩:=a
 obtain⟨_,_,_,⟨_,_⟩,_,⟨_,_⟩⟩:=b
 rw[Bool.eq_iff_iff];simp[and_assoc]
theorem aL5(a b:Opn):(decide (a.at_.c=b.at_.c)&&decide (a.at_.r=b.at_.r)&&(decide (a.kind=b.kind)&&(decide (a.node=b.node)&&(decide (a.parent=b.parent)&&(decide (a.name=b.name)&&decide (a.data=b.data))))))=decide (a=b):=by
 obtain⟨⟨_,_⟩,_,_,_,_,_⟩:=a
 obtain⟨⟨_,_⟩,_,_,_,_,_⟩:=b
 rw[Bool.eq_iff_iff];simp[and_assoc]
theorem zJ(b1 b2:Bool)(l m:List Nd)(H:AHeap):cN Tryz.prog 59 [.sl b1 (l.map ndA),.sl b2 (m.map ndA)] H (.bool (decide (l=m))):=by
 refine iT fun hok _=>?_
 have hl:=mS hok
 rw[List.length_map]at hl
 refine aQ Tryz.func59 rfl (Nat.le_of_ble_eq_true rfl) ?_
 repeat' first|(refine gS ?_;simp only[go_sem])|refine gA ?_|(refine gD (fun h=>?_) (fun h=>?_)<;>try exact aB h)|fail
 ·exact aT (by simp only[go_sem]) (.of (by rw[decide_eq_false (fun e=>by subst e;simp at h)]))
 ·have hlen:l.length=m.length:=by simp at h;omega
  refine aR (ι:=Nat) (fun i=>[(0,.sl b1 (l.map ndA)),(1,.sl b2 (m.map ndA)),(5,.int .i64 i)]) (fun _=>H) (fun i=>i≤l.length∧l.take i=m.take i) (fun i=>l.length-i) 0 ⟨Nat.zero_le _,rfl⟩ ?_ rfl ?_
  ·simp[go_sem]
  ·rintro i ⟨hi,he⟩
   by_cases hlt:i<l.length
   ·have hp:=bF ndA hlt
    have hq:=bF ndA (show i<m.length by omega)
    repeat' first|(refine gS ?_;simp only[go_sem,hp,hq,ndA])|refine gA ?_|(refine gD (fun h=>?_) (fun h=>?_)<;>try exact aB h)|fail
    ·rw[aC9]at h
     have hne:l[i]≠m[i]:=by simpa using h
     exact aT (by simp only[go_sem]) (.of (by rw[decide_eq_false (fun e=>hne (by subst e;rfl))]))
    ·rw[aC9]at h
     have heq:l[i]=m[i]:=by simpa using h
     exact⟨i+1,⟨hlt,by rw[List.take_succ_eq_append_getElem hlt,List.take_succ_eq_append_getElem (by omega),he,heq]⟩,by omega,by rw[wrap_i64 (by omega) (by omega)];rfl⟩
   ·have hi':i=l.length:=by omega
    subst hi'
    repeat' first|(refine gS ?_;simp only[go_sem])|refine gA ?_|(refine gD (fun h=>?_) (fun h=>?_)<;>try exact aB h)|fail
    exact aT (by simp only[go_sem]) (.of (by rw[decide_eq_true (by rw[List.take_length,hlen,List.take_length]at he;exact he)]))
end Go.Proofs.YthhdnjiodklmmaaGreatDoor
/- Nodes, in plain Lean: whether they may be, places, what is above, what is done, and taken back. No condition. -/
namespace Go.Gw
open Go Go.Aw Go.Proofs.YthhdnjiodklmmaaGreatDoor
def xB:Option Int→List Nd→Bool
 |_,[]=>true
 |p,n::l=>(iZ n.id&&(match p with|none=>true|some q=>decide (q<n.id)))&&xB (some n.id) l
def chk(l:List Nd):Bool:=xB none l
def lT(l:List Nd)(i:Nat):Option Int:=if i=0 then none else(l[i-1]?).map (·.id)
theorem aEb{l:List Nd}{i:Nat}(h:i<l.length):xB (lT l i) (l.drop i)=
  ((iZ l[i].id&& !(decide ((0:Int)<(i:Int))&&decide (l[i].id≤(l[i-1]'(by omega)).id)))&&xB (lT l (i+1)) (l.drop (i+1))):=by
 rw[List.drop_eq_getElem_cons h,show xB (lT l i) (l[i]::l.drop (i+1))=((iZ l[i].id&&(match lT l i with|none=>true|some q=>decide (q<l[i].id)))&&xB (some l[i].id) (l.drop (i+1)))from by cases lT l i<;>rfl]
 have e:lT l (i+1)=some l[i].id:=by
  simp[lT,List.getElem?_eq_getElem h]
 rw[e]
 congr 2
 unfold lT
 by_cases h0:i=0
 ·subst h0;simp
 ·rw[if_neg h0,List.getElem?_eq_getElem (show i-1<l.length by omega)]
  simp only[Option.map_some]
  rw[Bool.eq_iff_iff]
  simp
  omega
def aAP(p:Option Int)(l:List Nd):Prop:=match p with|none=>True|some q=>∀x∈l,q<x.id
theorem aGb(p:Option Int)(l:List Nd):xB p l=true↔(∀x∈l,iZ x.id=true)∧l.Pairwise (fun a b=>a.id<b.id)∧aAP p l:=by
 induction l generalizing p with
 |nil=>cases p<;>simp[xB,aAP]
 |cons n l ih=>
  unfold xB
  rw[Bool.and_eq_true,Bool.and_eq_true,ih,List.pairwise_cons]
  cases p with
  |none=>simp only[aAP,List.mem_cons,forall_eq_or_imp];exact⟨fun⟨⟨h1,_⟩,h2,h3,h4⟩=>⟨⟨h1,h2⟩,⟨h4,h3⟩,trivial⟩,fun⟨⟨h1,h2⟩,⟨h4,h3⟩,_⟩=>⟨⟨h1,trivial⟩,h2,h3,h4⟩⟩
  |some q=>
   simp only[aAP,List.mem_cons,forall_eq_or_imp,decide_eq_true_eq]
   exact⟨fun⟨⟨h1,h0⟩,h2,h3,h4⟩=>⟨⟨h1,h2⟩,⟨h4,h3⟩,h0,fun x hx=>Int.lt_trans h0 (h4 x hx)⟩,fun⟨⟨h1,h2⟩,⟨h4,h3⟩,h0,_⟩=>⟨⟨h1,h0⟩,h2,h3,h4⟩⟩
theorem nJ(l:List Nd):chk l=true↔(∀x∈l,iZ x.id=true)∧l.Pairwise (fun a b=>a.id<b.id):=by
 unfold chk;rw[aGb];simp[aAP]
def pos:List Nd→Int→Nat
 |[],_=>0
 |n::l,id=>if n.id<id then pos l id+1 else 0
def nK(l:List Nd)(id:Int):Option Nd:=l.find? (fun n=>decide (n.id=id))
def had(l:List Nd)(id:Int):Bool:=(nK l id).isSome
theorem aQS(l:List Nd)(id:Int):pos l id≤l.length:=by
 induction l with
 |nil=>exact Nat.le_refl _
 |cons n l ih=>unfold pos;split<;>simp<;>omega
theorem aQT{l:List Nd}{id:Int}{i:Nat}(hi:i≤l.length)(h1:∀k (hk:k<i),(l[k]'(by omega)).id<id)(h2:∀(h:i<l.length),¬l[i].id<id):pos l id=i:=by
 induction l generalizing i with
 |nil=>simp at hi;subst hi;rfl
 |cons n l ih=>
  unfold pos
  cases i with
  |zero=>have:=h2 (by simp);simp at this;rw[if_neg (by omega)]
  |succ i=>
   have:=h1 0 (by omega)
   simp at this
   rw[if_pos this,ih (i:=i) (by simpa using hi) (fun k hk=>by have:=h1 (k+1) (by omega);simpa using this) (fun h=>by have:=h2 (by simpa using h);simpa using this)]
theorem aDa{l:List Nd}{id:Int}(hs:chk l=true):nK l id=match l[pos l id]? with|some n=>if n.id=id then some n else none|none=>none:=by
 have hp:=((nJ l).1 hs).2
 clear hs
 induction l with
 |nil=>rfl
 |cons n l ih=>
  rw[List.pairwise_cons]at hp
  unfold nK pos
  rw[List.find?_cons]
  by_cases h:n.id<id
  ·rw[if_pos h,decide_eq_false (by omega)]
   simp only[List.getElem?_cons_succ]
   exact ih hp.2
  ·rw[if_neg h]
   simp only[List.getElem?_cons_zero]
   by_cases h2:n.id=id
   ·rw[if_pos h2,decide_eq_true h2]
   ·rw[if_neg h2,decide_eq_false h2]
    simp only
    rw[List.find?_eq_none]
    intro x hx
    have:=hp.1 x hx
    simp;omega
theorem lU{l:List Nd}{id:Int}(hs:chk l=true):had l id=(match l[pos l id]? with|some n=>decide (n.id=id)|none=>false):=by
 rw[had,aDa hs]
 split
 ·split<;>simp_all
 ·rfl
theorem jY{l:List Nd}{id:Int}(hs:chk l=true)(h:had l id=true):pos l id<l.length:=by
 rw[lU hs]at h
 split at h
 ·rename_i n hn;exact(List.getElem?_eq_some_iff.1 hn).1
 ·cases h
theorem tU{l:List Nd}{id:Int}(hs:chk l=true)(h:had l id=true):nK l id=some (l[pos l id]'(jY hs h)):=by
 have hlt:=jY hs h
 rw[lU hs,List.getElem?_eq_getElem hlt]at h
 rw[aDa hs,List.getElem?_eq_getElem hlt]
 simp only[decide_eq_true_eq]at h ⊢
 rw[if_pos h]
theorem zK{l:List Nd}{id:Int}(h:had l id=false):nK l id=none:=by
 unfold had at h;cases hf:nK l id<;>simp_all
def eR(l:List Nd):Nat→Int→List Int
 |0,_=>[]
 |k+1,id=>match nK l id with
  |none=>[]
  |some n=>if n.parent= -1 then[]else n.parent::eR l k n.parent
def cY(l:List Nd)(id:Int):List Int:=eR l l.length id
def zL(l:List Nd)(id:Int):List Int:=if chk l=true then cY l id else[]
def findI(l:List Nd)(id:Int):Option Nd:=if chk l=true then nK l id else none
def lF(l:List Nd)(i j:Nat)(xs:List Nd):List Nd:=l.take i++xs++l.drop j
def pM(l:List Nd)(o:Opn):Bool:=decide (o.parent=o.node)||(cY l o.parent).any (fun x=>decide (x=o.node))
def cA(l:List Nd)(o:Opn):Bool:= !chk l|| !opOk o||(decide (o.kind=1)&&pM l o)
def fA(l:List Nd)(o:Opn):Nd:=match nK l o.node with|some n=>n|none=>{nd0 with id:=o.node,parent:= -1}
def cJ(l:List Nd)(o:Opn):Nd:=
 if o.kind=1 then{fA l o with parent:=o.parent,name:=o.name,moved:=o.at_}else{fA l o with data:=o.data,wrote:=o.at_}
def upto(l:List Nd)(id:Int):Nat:=if had l id=true then pos l id+1 else pos l id
def kX(l:List Nd)(o:Opn):List Nd:=if cA l o=true then l else lF l (pos l o.node) (upto l o.node) [cJ l o]
def qL(l:List Nd)(o:Opn):Und:=if cA l o=true then aNt else⟨true,had l o.node,(nK l o.node).getD nd0⟩
def lG(l:List Nd)(o:Opn)(u:Und):List Nd:=
 if(!chk l|| !u.did)=true then l
 else if(iZ o.node&&u.had&&decide (u.was.id=o.node))=true then lF l (pos l o.node) (upto l o.node) [u.was]
 else lF l (pos l o.node) (upto l o.node) []
theorem tV(l:List Nd)(id:Int)(hs:chk l=true):pos l id≤upto l id∧upto l id≤l.length:=by
 have:=aQS l id
 unfold upto
 split
 ·rename_i h;have:=jY hs h;omega
 ·omega
theorem qN(l:List Nd)(i j:Nat)(xs:List Nd)(h:i≤j)(hj:j≤l.length):(lF l i j xs).length+j=i+xs.length+l.length:=by
 simp[lF];omega
end Go.Gw
/- What is seen in a directory, in plain Lean, and maps of names ars blocks of the abstract heap. No condition. -/
namespace Go.Gw
open Go Go.Aw Go.Proofs.YthhdnjiodklmmaaGreatDoor
def inD(dir:Int)(n:Nd):Bool:=decide (n.parent=dir)&&okI n.moved.c n.moved.r
def fS(s:Txt):List (Txt×Nd)→Option Nd
 |[]=>none
 |(k,n)::m=>if k=s then some n else fS s m
def jA(s:Txt)(n:Nd):List (Txt×Nd)→List (Txt×Nd)
 |[]=>[(s,n)]
 |(k,x)::m=>if k=s then(s,n)::m else(k,x)::jA s n m
def zM(m:List (Txt×Nd))(n:Nd):List (Txt×Nd):=match fS n.name m with
 |none=>jA n.name n m
 |some o=>if vM n.moved.c n.moved.r o.moved.c o.moved.r=true then m else jA n.name n m
def rX(dir:Int)(m:List (Txt×Nd))(n:Nd):List (Txt×Nd):=if inD dir n=true then zM m n else m
def dS(l:List Nd)(dir:Int):List (Txt×Nd):=l.foldl (rX dir) []
def childN(l:List Nd)(dir:Int)(s:Txt):Option Nd:=if chk l=true then fS s (dS l dir)else none
def aAQ(l:List Nd):Int→List Txt→Int×Int
 |at_,[]=>(at_,0)
 |at_,s::names=>if dirI at_=true then(match childN l at_ s with|some n=>aAQ l n.id names|none=>(0,80))else(0,81)
def sZ(l:List Nd)(names:List Txt):Int×Int:=aAQ l 0 names
def mG:Nat→List (Txt×Nd)→List (AV×AV×Nat)
 |_,[]=>[]
 |b,p::m=>(.str p.1,ndA p.2,b)::mG (b+1) m
theorem aAR(b:Nat)(m:List (Txt×Nd)):keysIn .string (mG b m):=by
 induction m generalizing b with
 |nil=>exact fun p hp=>by simp[mG]at hp
 |cons p m ih=>
  intro q hq
  rcases List.mem_cons.1 hq with rfl|hq
  ·rfl
  ·exact ih _ q hq
theorem bDq(b:Nat)(m:List (Txt×Nd)):(mG b m).length=m.length:=by
 induction m generalizing b with
 |nil=>rfl
 |cons p m ih=>simp[mG,ih]
theorem aGc(b:Nat)(m:List (Txt×Nd))(s:Txt):(fS s m=none∧keyAt (.str s) (mG b m)=none)∨∃n j,fS s m=some n∧keyAt (.str s) (mG b m)=some (j,ndA n):=by
 induction m generalizing b with
 |nil=>exact .inl ⟨rfl,rfl⟩
 |cons p m ih=>
  obtain⟨k,n⟩:=p
  by_cases h:k=s
  ·subst h;exact .inr ⟨n,0,by simp[fS],by simp[mG,keyAt,sU]⟩
  ·have h':sU (.str s) (.str k)=false:=by simp[sU];exact fun e=>h e.symm
   rcases ih (b+1)with⟨h1,h2⟩|⟨x,j,h1,h2⟩
   ·exact .inl ⟨by simp[fS,h,h1],by simp[mG,keyAt,h',h2]⟩
   ·exact .inr ⟨x,j+1,by simp[fS,h,h1],by simp[mG,keyAt,h',h2]⟩
theorem aAS{x y v w:AV}{b clock:Nat}{es:List (AV×AV×Nat)}(h:sU x y=false):rC x v ((y,w,b)::es) clock=(y,w,b)::rC x v es clock:=by
 simp only[rC,keyAt,h,cond_false]
 cases keyAt x es with
 |none=>rfl
 |some p=>rfl
theorem xC{x y w:AV}{b clock:Nat}{es:List (AV×AV×Nat)}(h:sU x y=false):kY x ((y,w,b)::es) clock=kY x es clock:=by
 simp only[kY,keyAt,h,cond_false]
 cases keyAt x es<;>rfl
theorem aJM(b:Nat)(m:List (Txt×Nd))(s:Txt)(n:Nd):rC (.str s) (ndA n) (mG b m) (b+m.length)=mG b (jA s n m)∧kY (.str s) (mG b m) (b+m.length)=b+(jA s n m).length:=by
 induction m generalizing b with
 |nil=>exact⟨rfl,rfl⟩
 |cons p m ih=>
  obtain⟨k,x⟩:=p
  by_cases h:k=s
  ·subst h;exact⟨by simp[mG,rC,keyAt,sU,jA],by simp[mG,kY,keyAt,sU,jA]⟩
  ·have h':sU (.str s) (.str k)=false:=by simp[sU];exact fun e=>h e.symm
   obtain⟨h1,h2⟩:=ih (b+1)
   have e:b+((k,x)::m).length=b+1+m.length:=by simp;omega
   rw[e]
   simp only[mG,jA,if_neg h]
   rw[aAS h',xC h',h1,h2]
   exact⟨rfl,by simp;omega⟩
theorem aGd(m:List (Txt×Nd))(s:Txt)(n:Nd):ABlk.map (rC (.str s) (ndA n) (mG 0 m) m.length) (kY (.str s) (mG 0 m) m.length)=.map (mG 0 (jA s n m)) (jA s n m).length:=by
 have:=aJM 0 m s n
 rw[Nat.zero_add,Nat.zero_add]at this
 rw[this.1,this.2]
theorem bBX(k:Nat)(n:Nd):Cl k (ndA n):=(Pur.agg _ fun x hx=>by
 simp only[List.mem_cons,List.not_mem_nil,or_false]at hx
 rcases hx with rfl|rfl|rfl|rfl|rfl|rfl|rfl|rfl<;>first|exact .int _ _|exact .str _).cl k
theorem aGe(k b:Nat)(m:List (Txt×Nd)):∀p∈mG b m,Cl k p.1∧Cl k p.2.1:=by
 induction m generalizing b with
 |nil=>exact fun p hp=>by simp[mG]at hp
 |cons q m ih=>
  intro p hp
  rcases List.mem_cons.1 hp with rfl|hp
  ·exact⟨.str _,bBX k _⟩
  ·exact ih _ p hp
end Go.Gw
/- The abstract machine: calls of functions without a body: the bytes of a string counted, and sought. No condition. -/
namespace Go.Aw
open Go
variable {P:Program}
def FnX(P:Program)(f:FuncId)(args:List AV)(H:AHeap)(x:AV):Prop:=AExtern P f args H (fun v H'=>v=x∧H'=H)
theorem yE{f:FuncId}{args:List AV}{H:AHeap}{x:AV}{k:AV→AHeap→Prop}(h:FnX P f args H x)(hk:k x H):jF P (.func (.func f) [] []) args H k:=
 Or.inr (by
  simp only[List.nil_append,List.append_nil]
  exact h.mono fun y H' ⟨e1,e2⟩=>by subst e1;subst e2;exact hk)
theorem yF{g:Bool}{f:FuncId}{args:List AV}{H:AHeap}{x:AV}{K:AV→Prop}(h:FnX P f args H x)(hk:K x):jE P g (.func (.func f) [] []) args H K:=
 ⟨x,fun _=>Or.inr (by
  simp only[List.nil_append,List.append_nil]
  exact h),hk⟩
theorem aDb{c:Ctx}{x y:AV}{vs:Array Value}(h:RepAll c [x,y] vs):∃u v,vs= #[u,v]∧Rep c x u∧Rep c y v:=by
 obtain⟨hl,hr⟩:=h
 obtain⟨l⟩:=vs
 match l,hl,hr with
 |[u,v],_,hr=>exact⟨u,v,rfl,hr 0 _ _ rfl rfl,hr 1 _ _ rfl rfl⟩
theorem zN(l:List UInt8)(c:UInt8):Lib.indexByte l c<(l.length:Int)∨l=[]:=by
 induction l with
 |nil=>exact .inr rfl
 |cons b l ih=>
  refine .inl ?_
  rw[Lib.indexByte,List.length_cons]
  split
  ·omega
  ·split
   ·omega
   ·rcases ih with h|h
    ·omega
    ·subst h;rename_i h1;exact absurd rfl h1
theorem aQU{f:FuncId}{fn:Func}(hf:P.funcs[f]?=some fn)(h1:(fn.name== "runtime.NumGoroutine")=false)(h2:fn.body.isNone=true)(h3:Extern.findNext fn=none)(h4:Extern.find fn=some Extern.BytealgCount.count)
  (s:List UInt8) (b:Int) (H:AHeap):FnX P f [.str s,.int .u8 b] H (.int .i64 (Lib.countByte s b.toNat.toUInt8)):=by
 intro c vs hst ha
 obtain⟨u,v,rfl,hu,hv⟩:=aDb ha
 cases hu with
 |str _ hs=>
  cases hv with
  |int _ _ hb=>
   refine⟨_,_,?_,.int .i64 (Lib.countByte s b.toNat.toUInt8:Nat) ?_,rfl,rfl⟩
   ·rw[run_callFunc_extern hf h1 h2 h3 h4,Lib.run_countString]
    rfl
   ·have:Lib.countByte s b.toNat.toUInt8≤s.length:=List.count_le_length
    exact⟨by show(-9223372036854775808:Int)≤_;omega,by show _≤(9223372036854775807:Int);omega⟩
theorem aQV{f:FuncId}{fn:Func}(hf:P.funcs[f]?=some fn)(h1:(fn.name== "runtime.NumGoroutine")=false)(h2:fn.body.isNone=true)(h3:Extern.findNext fn=none)(h4:Extern.find fn=some Extern.BytealgIndexByte.indexByte)
  (s:List UInt8) (b:Int) (H:AHeap):FnX P f [.str s,.int .u8 b] H (.int .i64 (Lib.indexByte s b.toNat.toUInt8)):=by
 intro c vs hst ha
 obtain⟨u,v,rfl,hu,hv⟩:=aDb ha
 cases hu with
 |str _ hs=>
  cases hv with
  |int _ _ hb=>
   refine⟨_,_,?_,.int .i64 (Lib.indexByte s b.toNat.toUInt8) ?_,rfl,rfl⟩
   ·rw[run_callFunc_extern hf h1 h2 h3 h4,Lib.run_indexByteString]
    rfl
   ·have h5:=Lib.indexByte_ge s b.toNat.toUInt8
    have h6:=zN s b.toNat.toUInt8
    refine⟨by show(-9223372036854775808:Int)≤_;omega,by show _≤(9223372036854775807:Int);rcases h6 with h|h;omega;subst h;show(-1:Int)≤_;omega⟩
end Go.Aw
/- What the library's functions of strings answer, at a separator of one byte. No condition. -/
namespace Go.Proofs.YthhdnjiodklmmaaGreatDoor
open Go Go.Aw Go.Gw
set_option linter.unusedSimpArgs false
set_option maxRecDepth 20000
set_option maxHeartbeats 2000000
theorem aDc(b:UInt8):b.toNat.toUInt8=b:=by simp
theorem aAT(s:List UInt8)(b:Int)(H:AHeap):FnX Tryz.prog 245 [.str s,.int .u8 b] H (.int .i64 (Lib.countByte s b.toNat.toUInt8)):=
 aQU Tryz.func245 (by kernel_rfl) (by kernel_rfl) (by kernel_rfl) (by kernel_rfl) s b H
theorem aAU(s:List UInt8)(b:Int)(H:AHeap):FnX Tryz.prog 254 [.str s,.int .u8 b] H (.int .i64 (Lib.indexByte s b.toNat.toUInt8)):=
 aQV Tryz.func254 (by kernel_rfl) (by kernel_rfl) (by kernel_rfl) (by kernel_rfl) s b H
theorem aGf(s:List UInt8)(b:UInt8)(H:AHeap):cN Tryz.prog 230 [.str s,.str [b]] H (.int .i64 (Lib.countByte s b)):=by
 refine aQ Tryz.func230 rfl (Nat.le_of_ble_eq_true rfl) ?_
 repeat' first|((first|refine yE (aAT _ _ _) ?_|refine yF (aAT _ _ _) ?_|refine gS ?_);simp only[go_sem])|refine gA ?_|(refine gD (fun h=>?_) (fun h=>?_)<;>try exact aB h)|fail
 rw[aDc]
 exact aT (by simp only[go_sem]) (.refl _)
theorem rY(s:List UInt8)(b:UInt8)(H:AHeap):cN Tryz.prog 250 [.str s,.int .u8 b.toNat] H (.int .i64 (Lib.indexByte s b)):=by
 refine aQ Tryz.func250 rfl (Nat.le_of_ble_eq_true rfl) ?_
 repeat' first|((first|refine yE (aAU _ _ _) ?_|refine yF (aAU _ _ _) ?_|refine gS ?_);simp only[go_sem])|refine gA ?_|(refine gD (fun h=>?_) (fun h=>?_)<;>try exact aB h)|fail
 rw[aDc]
 exact aT (by simp only[go_sem]) (.refl _)
theorem rZ(s:List UInt8)(b:UInt8)(H:AHeap):cN Tryz.prog 246 [.str s,.str [b]] H (.int .i64 (Lib.indexByte s b)):=by
 refine aQ Tryz.func246 rfl (Nat.le_of_ble_eq_true rfl) ?_
 repeat' first|((first|refine cK (ct (rY _ _) pG) ?_|refine cP (ct (rY _ _) pG) ?_|refine cM (ct (rY _ _) pG) ?_|refine gS ?_);simp only[go_sem])|refine gA ?_|(refine gD (fun h=>?_) (fun h=>?_)<;>try exact aB h)|fail
 ·have e:[b]=s:=by simpa using h
  subst e
  refine aT (by simp only[go_sem]) (.of ?_)
  rw[Lib.indexByte,if_pos (by simp)]
 ·exact aT (by simp only[go_sem]) (.refl _)
theorem aGg(s:List UInt8)(b:UInt8)(H:AHeap):cN Tryz.prog 231 [.str s,.str [b]] H (.int .i64 (Lib.indexByte s b)):=by
 refine aQ Tryz.func231 rfl (Nat.le_of_ble_eq_true rfl) ?_
 repeat' first|((first|refine cK (ct (rZ _ _) pD) ?_|refine cP (ct (rZ _ _) pD) ?_|refine cM (ct (rZ _ _) pD) ?_|refine gS ?_);simp only[go_sem])|refine gA ?_|(refine gD (fun h=>?_) (fun h=>?_)<;>try exact aB h)|fail
 exact aT (by simp only[go_sem]) (.refl _)
def xD(s:List UInt8)(b:UInt8):AV:=match s with
 |[]=>.tup [.str [],.bool false]
 |c::l=>if c=b then .tup [.str l,.bool true]else .tup [.str (c::l),.bool false]
theorem aGh(s:List UInt8)(b:UInt8)(H:AHeap):cN Tryz.prog 228 [.str s,.str [b]] H (.bool (decide (s.head?=some b))):=by
 refine aQ Tryz.func228 rfl (Nat.le_of_ble_eq_true rfl) ?_
 cases s with
 |nil=>
  repeat' first|(refine gS ?_;simp only[go_sem])|refine gA ?_|(refine gD (fun h=>?_) (fun h=>?_)<;>try exact aB h)|fail
  exact aT (by simp only[go_sem]) (.refl _)
 |cons c l=>
  repeat' first|(refine gS ?_;simp only[go_sem])|refine gA ?_|(refine gD (fun h=>?_) (fun h=>?_)<;>try exact aB h)|fail
  have e1:decide ((1:Int)≤((l.length+1:Nat):Int))=true:=decide_eq_true (by omega)
  have e2:decide ([c]=[b])=decide ((c::l).head?=some b):=by simp
  refine aT (by simp only[go_sem]) (.of ?_)
  rw[←e2]
  exact congrArg AV.bool (by rw[show((1:Nat):Int)=(1:Int)from rfl,e1,Bool.true_and])
theorem aGi(s:List UInt8)(b:UInt8)(H:AHeap):cN Tryz.prog 202 [.str s,.str [b]] H (xD s b):=by
 refine aQ Tryz.func202 rfl (Nat.le_of_ble_eq_true rfl) ?_
 have hp:=aGh s b
 cases s with
 |nil=>
  have ct0:=ct hp iM;repeat' first|((first|refine gK ?_|refine gS ?_);simp only[go_sem])|refine gA ?_|(refine gD (fun h=>?_) (fun h=>?_)<;>try exact aB h)|fail
  exact aT (by simp only[go_sem]) (.refl _)
 |cons c l=>
  by_cases h:c=b
  ·rw[decide_eq_true (by rw[h];rfl)]at hp
   rw[xD,if_pos h]
   have ct0:=ct hp iM;repeat' first|((first|refine gK ?_|refine gS ?_);simp only[go_sem])|refine gA ?_|(refine gD (fun h=>?_) (fun h=>?_)<;>try exact aB h)|fail
   exact aT (by simp only[go_sem]) (.refl _)
  ·rw[decide_eq_false (by simp[h])]at hp
   rw[xD,if_neg h]
   have ct0:=ct hp iM;repeat' first|((first|refine gK ?_|refine gS ?_);simp only[go_sem])|refine gA ?_|(refine gD (fun h=>?_) (fun h=>?_)<;>try exact aB h)|fail
   exact aT (by simp only[go_sem]) (.refl _)
theorem aQW(s:List UInt8)(b:UInt8)(H:AHeap):cN Tryz.prog 170 [.str s,.str [b]] H (xD s b):=by
 refine aQ Tryz.func170 rfl (Nat.le_of_ble_eq_true rfl) ?_
 have hp:=aGi s b
 cases s with
 |nil=>
  simp only[xD]at hp ⊢
  have ct0:=ct hp oW;repeat' first|((first|refine gK ?_|refine gS ?_);simp only[go_sem])|refine gA ?_|(refine gD (fun h=>?_) (fun h=>?_)<;>try exact aB h)|fail
  exact aT (by simp only[go_sem]) (.refl _)
 |cons c l=>
  by_cases h:c=b
  ·simp only[xD,if_pos h]at hp ⊢
   have ct0:=ct hp oW;repeat' first|((first|refine gK ?_|refine gS ?_);simp only[go_sem])|refine gA ?_|(refine gD (fun h=>?_) (fun h=>?_)<;>try exact aB h)|fail
   exact aT (by simp only[go_sem]) (.refl _)
  ·simp only[xD,if_neg h]at hp ⊢
   have ct0:=ct hp oW;repeat' first|((first|refine gK ?_|refine gS ?_);simp only[go_sem])|refine gA ?_|(refine gD (fun h=>?_) (fun h=>?_)<;>try exact aB h)|fail
   exact aT (by simp only[go_sem]) (.refl _)
end Go.Proofs.YthhdnjiodklmmaaGreatDoor
/- Logs, in plain Lean: an operation is added. No condition. -/
namespace Go.Aw
open Go
@[go_sem] theorem aHG{P:Program}(ts tx:TypeId)(f g:Bool)(es r:List AV)(e:AV)(H:AHeap):pV P ts tx (.sl f es) (.sl g (e::r)) H=tR P ts tx (.sl f es) (.sl g (e::r)) H:=by
 cases es with
 |nil=>rfl
 |cons a es=>simp[pV,aFa]
end Go.Aw
namespace Go.Gw
open Go Go.Aw Go.Proofs.YthhdnjiodklmmaaGreatDoor
def fH(a b:Stm):Bool:=vM a.c a.r b.c b.r
def lH(l:List Ent)(a:Stm):Bool:=l.any fun e=>decide (e.op.at_=a)
def dT(a:Stm):List Ent→List Nd→Nat×List Nd
 |[],n=>(0,n)
 |e::r,n=>if fH a e.op.at_=true then((dT a r (lG n e.op e.undo)).1+1,(dT a r (lG n e.op e.undo)).2)else(0,n)
def dP:List Opn→List Ent→List Nd→List Ent×List Nd
 |[],es,n=>(es,n)
 |o::os,es,n=>dP os (es++[⟨o,qL n o⟩]) (kX n o)
def fB(g:Lg)(o:Opn):Lg:=
 if opOk o=false then g else if lH g.entries o.at_=true then g else if(200:Int)≤(g.entries.length:Int)then g
 else
  ⟨(dP (o::(g.entries.drop (g.entries.length-(dT o.at_ g.entries.reverse g.nodes).1)).map Ent.op) (g.entries.take (g.entries.length-(dT o.at_ g.entries.reverse g.nodes).1)) (dT o.at_ g.entries.reverse g.nodes).2).1,
    (dP (o::(g.entries.drop (g.entries.length-(dT o.at_ g.entries.reverse g.nodes).1)).map Ent.op) (g.entries.take (g.entries.length-(dT o.at_ g.entries.reverse g.nodes).1)) (dT o.at_ g.entries.reverse g.nodes).2).2⟩
def xE(g:Lg)(o:Opn):Int:=
 if opOk o=false then 50 else if lH g.entries o.at_=true then 0 else if(200:Int)≤(g.entries.length:Int)then 193 else 0
def lV:Lg→List Opn→Lg
 |g,[]=>g
 |g,o::os=>lV (fB g o) os
def vP:Lg→List Opn→Int
 |_,[]=>0
 |g,o::os=>(if xE g o=0 then 0 else 1)+vP (fB g o) os
def opsG(g:Lg):List Opn:=g.entries.map Ent.op
theorem aGj(a:Stm)(l:List Ent)(n:List Nd):(dT a l n).1≤l.length:=by
 induction l generalizing n with
 |nil=>simp[dT]
 |cons e l ih=>unfold dT;split<;>simp;exact ih _
theorem yG(l:List Nd)(o:Opn)(u:Und):(lG l o u).length≤l.length+1:=by
 unfold lG
 split
 ·omega
 ·rename_i h
  have hc:chk l=true:=by
   cases hc:chk l with
   |true=>rfl
   |false=>simp[hc]at h
  have:=tV l o.node hc
  split
  ·have:=qN l (pos l o.node) (upto l o.node) [u.was] (by omega) (by omega);simp at this;omega
  ·have:=qN l (pos l o.node) (upto l o.node) [] (by omega) (by omega);simp at this;omega
theorem aDd(l:List Nd)(o:Opn):(kX l o).length≤l.length+1:=by
 unfold kX
 split
 ·omega
 ·rename_i h
  have hc:chk l=true:=by
   cases hc:chk l with
   |true=>rfl
   |false=>simp[cA,hc]at h
  have:=tV l o.node hc
  have:=qN l (pos l o.node) (upto l o.node) [cJ l o] (by omega) (by omega);simp at this;omega
theorem aEc(a:Stm)(l:List Ent)(n:List Nd):(dT a l n).2.length≤n.length+l.length:=by
 induction l generalizing n with
 |nil=>simp[dT]
 |cons e l ih=>
  unfold dT
  split
  ·have:=ih (lG n e.op e.undo)
   have:=yG n e.op e.undo
   simp;omega
  ·simp
theorem aAV(l:List Opn)(es:List Ent)(n:List Nd):(dP l es n).2.length≤n.length+l.length∧(dP l es n).1.length=es.length+l.length:=by
 induction l generalizing es n with
 |nil=>simp[dP]
 |cons o l ih=>
  unfold dP
  have:=ih (es++[⟨o,qL n o⟩]) (kX n o)
  have:=aDd n o
  simp at *;omega
theorem yH(l:List Opn)(o:Opn)(es:List Ent)(n:List Nd):dP (l++[o]) es n=((dP l es n).1++[⟨o,qL (dP l es n).2 o⟩],kX (dP l es n).2 o):=by
 induction l generalizing es n with
 |nil=>rfl
 |cons x l ih=>rw[List.cons_append,dP,ih,dP]
end Go.Gw
/- What the functions of the tree answer: Check, place, Find, above. No condition. -/
namespace Go.Proofs.YthhdnjiodklmmaaGreatDoor
open Go Go.Aw Go.Gw
set_option linter.unusedSimpArgs false
set_option maxRecDepth 20000
theorem aEd{i n:Nat}(h:i<n)(hn:n≤9223372036854775807):IntKind.i64.wrap ((i:Int)-1)=(i:Int)-1:=wrap_i64 (by omega) (by omega)
theorem aCs(i:Nat):((i:Int)-1).toNat=i-1:=by omega
theorem bI{i n:Nat}(h:i<n)(hn:n≤9223372036854775807):IntKind.i64.wrap ((i:Int)+1)=((i+1:Nat):Int):=by rw[wrap_i64 (by omega) (by omega)];rfl
theorem bM(b:Bool)(l:List Nd)(H:AHeap):cN Tryz.prog 41 [.sl b (l.map ndA)] H (.bool (chk l)):=by
 refine aC2 fun hok=>?_
 have hl:=mS hok
 rw[List.length_map]at hl
 refine aQ Tryz.func41 rfl (Nat.le_of_ble_eq_true rfl) ?_
 repeat' first|(refine gS ?_;simp only[go_sem])|refine gA ?_|(refine gD (fun h=>?_) (fun h=>?_)<;>try exact aB h)|fail
 refine aR (ι:=Nat×AHeap) (fun x=>[(0,.sl b (l.map ndA)),(8,.sl b (l.map ndA)),(9,.int .i64 l.length),(10,.int .i64 x.1)]) (fun x=>H++x.2) (fun x=>x.1≤l.length∧chk l=xB (lT l x.1) (l.drop x.1)) (fun x=>l.length-x.1) (0,[]) ⟨Nat.zero_le _,rfl⟩ ?_ (by simp) ?_
 ·simp[go_sem]
 ·rintro⟨i,L⟩ ⟨hi,he⟩
  simp only at hi he ⊢
  generalize hG:H++L=G
  by_cases hlt:i<l.length
  ·have hp:=bF ndA hlt
   have hq:=bF ndA (show i-1<l.length by omega)
   have hw:=aEd hlt hl
   have ht:=aCs i
   rw[aEb hlt]at he
   repeat' first|((first|refine cK (ct (iP _) bK) ?_|refine cP (ct (iP _) bK) ?_|refine cM (ct (iP _) bK) ?_|refine gS ?_);simp only[go_sem,hp,hq,hw,ht,ndA])|refine gA ?_|(refine gD (fun h=>?_) (fun h=>?_)<;>try exact aB h)|fail
   ·refine aLf hG (by simp only[go_sem]) (.of ?_)
    have h2:(iZ l[i].id&& !(decide ((0:Int)<(i:Int))&&decide (l[i].id≤l[i-1].id)))=false:=by rw[←Bool.not_eq_true',Bool.not_and,Bool.not_not];exact h
    rw[he,h2];rfl
   ·have h2:(iZ l[i].id&& !(decide ((0:Int)<(i:Int))&&decide (l[i].id≤l[i-1].id)))=true:=by rw[←Bool.not_eq_false',Bool.not_and,Bool.not_not];exact h
    rw[h2,Bool.true_and]at he
    exact⟨(i+1,_),⟨hlt,he⟩,by simp only;omega,congrArg _ (bI hlt hl),aZf hG⟩
  ·have hi':i=l.length:=by omega
   subst hi'
   repeat' first|(refine gS ?_;simp only[go_sem])|refine gA ?_|(refine gD (fun h=>?_) (fun h=>?_)<;>try exact aB h)|fail
   refine oL hG (by simp only[go_sem]) (.of ?_)
   rw[he,List.drop_length];rfl
def xF(a b:Int):Int:=if a<b then-1 else if b<a then 1 else 0
theorem aGk(a:Int)(H:AHeap):cN Tryz.prog 215 [.int .i64 a] H (.bool false):=by
 refine aQ Tryz.func215 rfl (Nat.le_of_ble_eq_true rfl) ?_
 repeat' first|(refine gS ?_;simp only[go_sem])|refine gA ?_|(refine gD (fun h=>?_) (fun h=>?_)<;>try exact aB h)|fail
 exact aT (by simp only[go_sem]) (.of (by simp))
theorem aGl(a b:Int)(H:AHeap):cN Tryz.prog 196 [.int .i64 a,.int .i64 b] H (.int .i64 (xF a b)):=by
 refine aQ Tryz.func196 rfl (Nat.le_of_ble_eq_true rfl) ?_
 repeat' first|((first|refine cK (ct (aGk _) oY) ?_|refine cP (ct (aGk _) oY) ?_|refine cM (ct (aGk _) oY) ?_|refine gS ?_);simp only[go_sem])|refine gA ?_|(refine gD (fun h=>?_) (fun h=>?_)<;>try exact aB h)|fail
 all_goals(simp only[decide_eq_true_eq,decide_eq_false_iff_not]at *)
 ·exact aT (by simp only[go_sem]) (.of (by rw[xF,if_pos h]))
 ·exact aT (by simp only[go_sem]) (.of (by rw[xF,if_neg (by assumption),if_pos h]))
 ·exact aT (by simp only[go_sem]) (.of (by rw[xF,if_neg (by assumption),if_neg h]))
theorem aQX(n:Nd)(id:Int)(H:AHeap):cN Tryz.prog 195 [ndA n,.int .i64 id] H (.int .i64 (xF n.id id)):=by
 refine aQ Tryz.func195 rfl (Nat.le_of_ble_eq_true rfl) ?_
 simp only[ndA]
 repeat' first|((first|refine cK (ct (aGl _ _) oU) ?_|refine cP (ct (aGl _ _) oU) ?_|refine cM (ct (aGl _ _) oU) ?_|refine gS ?_);simp only[go_sem])|refine gA ?_|(refine gD (fun h=>?_) (fun h=>?_)<;>try exact aB h)|fail
 exact done (by simp only[go_sem]) (.refl _)
theorem aQY{i j n:Nat}(hi:i≤j)(hj:j≤n)(hn:n≤9223372036854775807):
  IntKind.i64.wrap ((IntKind.u64.wrap (IntKind.i64.wrap ((i:Int)+(j:Int)))).fdiv (2 ^ min 1 64))=(((i+j) / 2:Nat):Int):=by
 have e1:IntKind.u64.wrap (IntKind.i64.wrap ((i:Int)+(j:Int)))=(i:Int)+(j:Int):=by
  rw[IntKind.wrap_i64,IntKind.wrap_u64];omega
 have e2:(2:Int) ^ min 1 64=2:=by decide
 rw[e1,e2,Int.fdiv_eq_ediv_of_nonneg _ (by omega),wrap_i64 (by omega) (by omega)]
 omega
theorem bEl(b:Bool)(l:List Nd)(id:Int)(fn:Fn)(fs cs:List AV)(hs:chk l=true)(H:AHeap)(hf:∀n:Nd,FnV Tryz.prog (.func fn fs cs) [ndA n,.int .i64 id] H (.int .i64 (xF n.id id))):
  cN Tryz.prog 194 [.sl b (l.map ndA),.int .i64 id,.func fn fs cs] H (.tup [.int .i64 (pos l id),.bool (had l id)]):=by
 refine aC3 fun hok _ _=>?_
 have hl:=mS hok
 rw[List.length_map]at hl
 have hpw:=((nJ l).1 hs).2
 rw[List.pairwise_iff_getElem]at hpw
 simp only[ndA]at hf
 refine aQ Tryz.func194 rfl (Nat.le_of_ble_eq_true rfl) ?_
 repeat' first|(refine gS ?_;simp only[go_sem])|refine gA ?_|(refine gD (fun h=>?_) (fun h=>?_)<;>try exact aB h)|fail
 refine aR (ι:=Nat×Nat) (fun x=>[(0,.sl b (l.map ndA)),(1,.int .i64 id),(2,.func fn fs cs),(8,.int .i64 l.length),(9,.int .i64 x.1),(10,.int .i64 x.2)]) (fun x=>H)
  (fun x=>x.1≤x.2∧x.2≤l.length∧(∀k (h:k<l.length),k<x.1→l[k].id<id)∧∀k (h:k<l.length),x.2≤k→¬l[k].id<id) (fun x=>x.2-x.1) (0,l.length) ⟨Nat.zero_le _,Nat.le_refl _,fun k _ h=>by simp at h,fun k h h2=>by simp at h2;omega⟩ ?_ rfl ?_
 ·simp[go_sem]
 ·rintro⟨i,j⟩ ⟨hi,hj,h1,h2⟩
  simp only at hi hj h1 h2 ⊢
  by_cases hlt:i<j
  ·have hm:=aQY hi hj hl
   have hml:(i+j) / 2<l.length:=by omega
   have hp:=bF ndA hml
   repeat' first|(refine gS ?_;simp only[go_sem,hm,hp,ndA])|refine gA ?_|(refine gD (fun h=>?_) (fun h=>?_)<;>try exact aB h)|fail
   refine mT (hf _) ?_
   simp only[go_sem,hm,hp,ndA]
   repeat' first|(refine gS ?_;simp only[go_sem,hm,hp,ndA])|refine gA ?_|(refine gD (fun h=>?_) (fun h=>?_)<;>try exact aB h)|fail
   ·have hc:l[(i+j) / 2].id<id:=by
     have h':=of_decide_eq_true h
     unfold xF at h'
     repeat' split at h'
     all_goals omega
    refine⟨((i+j) / 2+1,j),⟨by simp only;omega,hj,fun k hk hk2=>?_,h2⟩,by simp only;omega,congrArg _ (bI hml hl),rfl⟩
    simp only at hk2
    rcases Nat.lt_or_ge k ((i+j) / 2)with hk3|hk3
    ·exact Int.lt_trans (hpw k _ hk hml hk3) hc
    ·obtain rfl:k=(i+j) / 2:=by omega
     exact hc
   ·have hc:¬l[(i+j) / 2].id<id:=by
     have h':=of_decide_eq_false h
     unfold xF at h'
     repeat' split at h'
     all_goals omega
    refine⟨(i,(i+j) / 2),⟨by simp only;omega,by simp only;omega,h1,fun k hk hk2=>?_⟩,by simp only;omega,rfl,rfl⟩
    simp only at hk2
    rcases Nat.lt_or_ge ((i+j) / 2) k with hk3|hk3
    ·have:=hpw _ k hml hk hk3;omega
    ·obtain rfl:k=(i+j) / 2:=by omega
     exact hc
  ·have hi':i=j:=by omega
   subst hi'
   have hpos:=aQT hj (fun k hk=>h1 k (by omega) hk) (fun h=>h2 i h (Nat.le_refl _))
   by_cases hlt2:i<l.length
   ·have hp:=bF ndA hlt2
    repeat' first|(refine gS ?_;simp only[go_sem,hp,ndA])|refine gA ?_|(refine gD (fun h=>?_) (fun h=>?_)<;>try exact aB h)|fail
    have hf0:=fun n=>(hf n) []
    simp only[List.append_nil]at hf0
    refine⟨_,fun _=>hf0 _,?_⟩
    simp only[go_sem,hp,ndA]
    repeat' first|(refine gS ?_;simp only[go_sem,hp,ndA])|refine gA ?_|(refine gD (fun h=>?_) (fun h=>?_)<;>try exact aB h)|fail
    refine aT (by simp only[go_sem]) (.of ?_)
    rw[lU hs,hpos,List.getElem?_eq_getElem hlt2]
    have e1:decide ((i:Int)<(l.length:Int))=true:=by simpa using hlt2
    have e2:decide (xF l[i].id id=0)=decide (l[i].id=id):=by
     unfold xF
     rcases Int.lt_trichotomy l[i].id id with q|q|q
     ·rw[if_pos q,decide_eq_false (show ¬l[i].id=id by omega)];rfl
     ·rw[if_neg (by omega),if_neg (by omega),decide_eq_true q];rfl
     ·rw[if_neg (by omega),if_pos q,decide_eq_false (show ¬l[i].id=id by omega)];rfl
    rw[e1,e2];rfl
   ·repeat' first|(refine gS ?_;simp only[go_sem,hlt2])|refine gA ?_|(refine gD (fun h=>?_) (fun h=>?_)<;>try exact aB h)|fail
    have e1:decide ((i:Int)<(l.length:Int))=false:=by simpa using hlt2
    refine⟨.int .i64 1,fun hg=>?_,?_⟩
    ·rw[e1]at hg;cases hg
    simp only[go_sem]
    repeat' first|(refine gS ?_;simp only[go_sem])|refine gA ?_|(refine gD (fun h=>?_) (fun h=>?_)<;>try exact aB h)|fail
    refine aT (by simp only[go_sem]) (.of ?_)
    rw[lU hs,hpos,List.getElem?_eq_none (by omega),e1];rfl
theorem tW(b:Bool)(l:List Nd)(id:Int)(hs:chk l=true)(H:AHeap):cN Tryz.prog 164 [.sl b (l.map ndA),.int .i64 id] H (.tup [.int .i64 (pos l id),.bool (had l id)]):=by
 refine aQ Tryz.func164 rfl (Nat.le_of_ble_eq_true rfl) ?_
 have hbs:=bEl b l id (.func 195) [] [] hs H fun n=>.mk (first:=[]) (cap:=[]) (fun L=>aQX n id (H++L)) aB4
 repeat' first|((first|refine aV (hbs) oT ?_|refine aW (hbs) oT ?_|refine aX (fun _=>hbs) oT ?_|refine gS ?_);simp only[go_sem])|refine gA ?_|(refine gD (fun h=>?_) (fun h=>?_)<;>try exact aB h)|fail
 exact aT (by simp only[go_sem]) (.refl _)
def ndV(r:Option Nd):AV:=.tup [ndA (r.getD nd0),.bool r.isSome]
theorem bEm(b:Bool)(l:List Nd)(id:Int)(H:AHeap):cN Tryz.prog 125 [.sl b (l.map ndA),.int .i64 id] H (ndV (findI l id)):=by
 refine aQ Tryz.func125 rfl (Nat.le_of_ble_eq_true rfl) ?_
 unfold findI
 cases hs:chk l with
 |false=>
  repeat' first|((first|refine cK (ct (bM _ _) aN) ?_|refine cP (ct (bM _ _) aN) ?_|refine cM (ct (bM _ _) aN) ?_|refine gS ?_);simp only[go_sem,hs])|refine gA ?_|(refine gD (fun h=>?_) (fun h=>?_)<;>try exact aB h)|fail
  exact done (by simp only[go_sem]) (.refl _)
 |true=>
  have hpl:=tW b l id hs
  cases hh:had l id with
  |false=>
   have ct0:=ct hpl cI;repeat' first|((first|refine gK ?_|refine cK (ct (bM _ _) aN) ?_|refine cP (ct (bM _ _) aN) ?_|refine cM (ct (bM _ _) aN) ?_|refine gS ?_);simp only[go_sem,hs,hh])|refine gA ?_|(refine gD (fun h=>?_) (fun h=>?_)<;>try exact aB h)|fail
   rw[zK hh]
   exact done (by simp only[go_sem]) (.refl _)
  |true=>
   have hlt:=jY hs hh
   have hp:=bF ndA hlt
   rw[tU hs hh]
   have ct0:=ct hpl cI;repeat' first|((first|refine gK ?_|refine cK (ct (bM _ _) aN) ?_|refine cP (ct (bM _ _) aN) ?_|refine cM (ct (bM _ _) aN) ?_|refine gS ?_);simp only[go_sem,hs,hh,hp,ndA])|refine gA ?_|(refine gD (fun h=>?_) (fun h=>?_)<;>try exact aB h)|fail
   exact done (by simp only[go_sem]) (.refl _)
end Go.Proofs.YthhdnjiodklmmaaGreatDoor
/- What the functions of the logs answer: clones, Same, Has, Ops. No condition. -/
namespace Go.Proofs.YthhdnjiodklmmaaGreatDoor
open Go Go.Aw Go.Gw
set_option linter.unusedSimpArgs false
set_option maxRecDepth 20000
set_option maxHeartbeats 1000000
def qO:List Pl:=[.pure 0,.pure 0,.pure 0,.pure 0,.pure 0,.pure 0,.free,.eff [false,false,false,false,false,false]]
attribute [go_sem] qO
theorem fX(l:List Ent):∀e∈l.map fR,e.cells.length=17:=fun e he=>by
 obtain⟨x,_,rfl⟩:=List.mem_map.1 he;rfl
theorem fP(l:List Ent):(∀e∈l.map fR,e.cells.length=17)=True:=eq_true (fX l)
theorem nX(l:List Ent):∀e∈l.map fR,Pur e:=fun e he=>by
 obtain⟨x,_,rfl⟩:=List.mem_map.1 he;first|exact(by simp only[go_sem])|(simp only[fR];exact(by simp only[go_sem]))
theorem aEe(b:Bool)(l:List Ent)(hl:l.length≤1073741824)(H:AHeap):cN Tryz.prog 157 [.sl b (l.map fR)] H (.sl false (l.map fR)):=by
 refine aQ Tryz.func157 rfl (Nat.le_of_ble_eq_true rfl) ?_
 repeat' first|(refine gS ?_;simp only[go_sem])|refine gA ?_|(refine gD (fun h=>?_) (fun h=>?_)<;>try exact aB h)|fail
 intro c hc
 cases c with
 |true=>
  have hnil:l=[]:=by
   cases l with
   |nil=>rfl
   |cons x l=>exact absurd (hc (by simp)) (by decide)
  subst hnil
  repeat' first|(refine gS ?_;simp only[go_sem])|refine gA ?_|(refine gD (fun h=>?_) (fun h=>?_)<;>try exact aB h)|fail
  exact aT (by simp only[go_sem]) (.sl _ _)
 |false=>
  clear hc
  repeat' first|(refine gS ?_;simp only[go_sem,fP])|refine gA ?_|(refine gD (fun h=>?_) (fun h=>?_)<;>try exact aB h)|fail
  exact iU (cs:=List.flatMap AV.cells (List.map fR l)) (es:=l.map fR) (rest:=[]) (Nat.le_refl _) (by simp only[go_sem]) (List.append_nil _).symm (by rw[List.length_map]) (fX _) (nX _) rfl
theorem mH(l:List Nd):∀e∈l.map ndA,e.cells.length=8:=fun e he=>by
 obtain⟨x,_,rfl⟩:=List.mem_map.1 he;rfl
theorem sA(l:List Nd):(∀e∈l.map ndA,e.cells.length=8)=True:=eq_true (mH l)
theorem xG(l:List Nd):∀e∈l.map ndA,Pur e:=fun e he=>by
 obtain⟨x,_,rfl⟩:=List.mem_map.1 he;first|exact(by simp only[go_sem])|(simp only[ndA];exact(by simp only[go_sem]))
theorem aEf(b:Bool)(l:List Nd)(hl:l.length≤1073741824)(H:AHeap):cN Tryz.prog 128 [.sl b (l.map ndA)] H (.sl false (l.map ndA)):=by
 refine aQ Tryz.func128 rfl (Nat.le_of_ble_eq_true rfl) ?_
 repeat' first|(refine gS ?_;simp only[go_sem])|refine gA ?_|(refine gD (fun h=>?_) (fun h=>?_)<;>try exact aB h)|fail
 intro c hc
 cases c with
 |true=>
  have hnil:l=[]:=by
   cases l with
   |nil=>rfl
   |cons x l=>exact absurd (hc (by simp)) (by decide)
  subst hnil
  repeat' first|(refine gS ?_;simp only[go_sem])|refine gA ?_|(refine gD (fun h=>?_) (fun h=>?_)<;>try exact aB h)|fail
  exact aT (by simp only[go_sem]) (.sl _ _)
 |false=>
  clear hc
  repeat' first|(refine gS ?_;simp only[go_sem,sA])|refine gA ?_|(refine gD (fun h=>?_) (fun h=>?_)<;>try exact aB h)|fail
  exact iU (cs:=List.flatMap AV.cells (List.map ndA l)) (es:=l.map ndA) (rest:=[]) (Nat.le_refl _) (by simp only[go_sem]) (List.append_nil _).symm (by rw[List.length_map]) (mH _) (xG _) rfl
theorem aAW(b:Bool)(l:List Ent)(fn:Fn)(fs cs:List AV)(p:Ent→Bool)(H:AHeap)(hf:∀c,FnV Tryz.prog (.func fn fs cs) [fR c] H (.bool (p c))):
  cN Tryz.prog 207 [.sl b (l.map fR),.func fn fs cs] H (.int .i64 (gJ p l)):=by
 refine iT fun hok _=>?_
 have hl:=mS hok
 rw[List.length_map]at hl
 simp only[fR]at hf
 refine aQ Tryz.func207 rfl (Nat.le_of_ble_eq_true rfl) ?_
 repeat' first|(refine gS ?_;simp only[go_sem])|refine gA ?_|(refine gD (fun h=>?_) (fun h=>?_)<;>try exact aB h)|fail
 refine aR (ι:=Nat) (fun i=>[(0,.sl b (l.map fR)),(1,.func fn fs cs),(7,.int .i64 l.length),(8,.int .i64 i)]) (fun _=>H) (fun i=>i≤l.length∧∀k (hk:k<i) (hk2:k<l.length),p l[k]=false) (fun i=>l.length-i) 0 ⟨Nat.zero_le _,fun k hk=>by omega⟩ ?_ rfl ?_
 ·simp[go_sem]
 ·rintro i ⟨hi,hno⟩
  by_cases hlt:i<l.length
  ·have hp:=bF fR hlt
   repeat' first|(refine gS ?_;simp only[go_sem,hp,fR])|refine gA ?_|(refine gD (fun h=>?_) (fun h=>?_)<;>try exact aB h)|fail
   refine mT (hf _) ?_
   simp only[go_sem]
   repeat' first|(refine gS ?_;simp only[go_sem])|refine gA ?_|(refine gD (fun h=>?_) (fun h=>?_)<;>try exact aB h)|fail
   ·exact aT (by simp only[go_sem]) (.of (by rw[kJ p l i hlt (fun k hk=>hno k hk (by omega)) h]))
   ·refine⟨i+1,⟨hlt,fun k hk hk2=>?_⟩,by omega,by rw[wrap_i64 (by omega) (by omega)];rfl⟩
    by_cases e:k=i
    ·subst e;exact h
    ·exact hno k (by omega) hk2
  ·have hi':i=l.length:=by omega
   repeat' first|(refine gS ?_;simp only[go_sem])|refine gA ?_|(refine gD (fun h=>?_) (fun h=>?_)<;>try exact aB h)|fail
   subst hi'
   exact aT (by simp only[go_sem]) (.of (by rw[kK p l fun k hk=>hno k hk hk]))
theorem aJN(b:Bool)(l:List Ent)(fn:Fn)(fs cs:List AV)(p:Ent→Bool)(H:AHeap)(hf:∀c,FnV Tryz.prog (.func fn fs cs) [fR c] H (.bool (p c))):
  cN Tryz.prog 178 [.sl b (l.map fR),.func fn fs cs] H (.bool (l.any p)):=by
 refine aQ Tryz.func178 rfl (Nat.le_of_ble_eq_true rfl) ?_
 have hx:=aAW b l fn fs cs p H hf
 repeat' first|((first|refine aV (hx) oX ?_|refine aW (hx) oX ?_|refine aX (fun _=>hx) oX ?_|refine gS ?_);simp only[go_sem])|refine gA ?_|(refine gD (fun h=>?_) (fun h=>?_)<;>try exact aB h)|fail
 exact aT (by simp only[go_sem]) (.of (by rw[mX]))
theorem aJO(b1 b2:Bool)(g:Lg)(h1:g.entries.length≤1073741824)(h2:g.nodes.length≤1073741824)(H:AHeap):cN Tryz.prog 100 [lgF b1 b2 g] H (lgA g):=by
 refine aQ Tryz.func100 rfl (Nat.le_of_ble_eq_true rfl) ?_
 have hc1:=aEe b1 g.entries h1
 have hc2:=aEf b2 g.nodes h2
 simp only[lgF]
 have ct0:=ct hc1 aBZ;have ct1:=ct hc2 gG;repeat' first|((first|refine gK ?_|refine mx [1] qO ?_|refine gS ?_);simp only[go_sem])|refine gA ?_|(refine gD (fun h=>?_) (fun h=>?_)<;>try exact aB h)|fail
 exact done (by simp only[go_sem]) (.refl _)
theorem aQZ(e:Ent)(a:Stm)(H:AHeap)(i:Nat)(hi:hget H i=.cells 0 [.int .i64 a.c,.int .i64 a.r]):cN Tryz.prog 179 [fR e,.ref i 0 0] H (.bool (decide (e.op.at_=a))):=by
 refine aQ Tryz.func179 rfl (Nat.le_of_ble_eq_true rfl) ?_
 simp only[fR]
 have hi2:=fun L=>aK hi trivial L
 repeat' first|(refine gS ?_;simp only[go_sem,hi,hi2])|refine gA ?_|(refine gD (fun h=>?_) (fun h=>?_)<;>try exact aB h)|fail
 exact done (by simp only[go_sem]) (.of (by rw[aNv]))
theorem bBY(b1 b2:Bool)(g:Lg)(a:Stm)(H:AHeap):cN Tryz.prog 141 [lgF b1 b2 g,stA a] H (.bool (lH g.entries a)):=by
 refine aQ Tryz.func141 rfl (Nat.le_of_ble_eq_true rfl) ?_
 have hh:=fun H i (hi:hget H i=.cells 0 [.int .i64 a.c,.int .i64 a.r])=>aJN b1 g.entries (.func 179) [] [.ref i 0 0] (fun e=>decide (e.op.at_=a)) H (fun e=>.mk (first:=[]) (fun L=>aQZ e a (H++L) i (aK hi trivial L)) aB3)
 simp only[lgF,stA]
 repeat' first|((first|refine aV (hh _ _ (by simp only[go_sem])) oS ?_|refine aW (hh _ _ (by simp only[go_sem])) oS ?_|refine aX (fun _=>hh _ _ (by simp only[go_sem])) oS ?_|refine gS ?_);simp only[go_sem])|refine gA ?_|(refine gD (fun h=>?_) (fun h=>?_)<;>try exact aB h)|fail
 exact done (by simp only[go_sem]) (.refl _)
theorem aL6(a b:Ent):(decide (a.op=b.op)&&((a.undo.did==b.undo.did)&&((a.undo.had==b.undo.had)&&decide (a.undo.was=b.undo.was))))=decide (a=b):=by
 obtain⟨_,_,_,_⟩:=a
 obtain⟨_,_,_,_⟩:=b
 rw[Bool.eq_iff_iff];simp
theorem aDe(b1 b2 b3 b4:Bool)(g k:Lg)(H:AHeap):cN Tryz.prog 28 [lgF b1 b2 g,lgF b3 b4 k] H (.bool (decide (g=k))):=by
 refine iT fun hok _=>?_
 have hl:=mS (aNp hok (.sl b1 (g.entries.map fR)) (by simp))
 rw[List.length_map]at hl
 refine aQ Tryz.func28 rfl (Nat.le_of_ble_eq_true rfl) ?_
 simp only[lgF]
 repeat' first|(refine gS ?_;simp only[go_sem])|refine gA ?_|(refine gD (fun h=>?_) (fun h=>?_)<;>try exact aB h)|fail
 ·exact done (by simp only[go_sem]) (.of (by rw[decide_eq_false (fun e=>by subst e;simp at h)]))
 ·have hlen:g.entries.length=k.entries.length:=by simp at h;omega
  refine aR (ι:=Nat) (fun i=>[(2,.ref H.length 0 0),(3,.ref (H.length+1) 0 0),(5,.int .i64 i)]) (fun _=>H++[.cells 0 [.sl b1 (g.entries.map fR),.sl b2 (g.nodes.map ndA)],.cells 0 [.sl b3 (k.entries.map fR),.sl b4 (k.nodes.map ndA)]]) (fun i=>i≤g.entries.length∧g.entries.take i=k.entries.take i) (fun i=>g.entries.length-i) 0 ⟨Nat.zero_le _,rfl⟩ ?_ rfl ?_
  ·simp[go_sem]
  ·rintro i ⟨hi,he⟩
   by_cases hlt:i<g.entries.length
   ·have hp:=bF fR hlt
    have hq:=bF fR (show i<k.entries.length by omega)
    repeat' first|(refine gS ?_;simp only[go_sem,hp,hq,fR])|refine gA ?_|(refine gD (fun h=>?_) (fun h=>?_)<;>try exact aB h)|fail
    ·rw[aL5,aC9,aL6]at h
     have hne:g.entries[i]≠k.entries[i]:=by simpa using h
     exact done (by simp only[go_sem]) (.of (by rw[decide_eq_false (fun e=>hne (by subst e;rfl))]))
    ·rw[aL5,aC9,aL6]at h
     have heq:g.entries[i]=k.entries[i]:=by simpa using h
     exact⟨i+1,⟨hlt,by rw[List.take_succ_eq_append_getElem hlt,List.take_succ_eq_append_getElem (by omega),he,heq]⟩,by omega,congrArg _ (bI hlt hl)⟩
   ·have hi':i=g.entries.length:=by omega
    subst hi'
    repeat' first|((first|refine cK (ct (zJ _ _ _ _) rS) ?_|refine cP (ct (zJ _ _ _ _) rS) ?_|refine cM (ct (zJ _ _ _ _) rS) ?_|refine gS ?_);simp only[go_sem])|refine gA ?_|(refine gD (fun h=>?_) (fun h=>?_)<;>try exact aB h)|fail
    refine done (by simp only[go_sem]) (.of ?_)
    rw[List.take_length,hlen,List.take_length]at he
    obtain⟨ge,gn⟩:=g
    obtain⟨ke,kn⟩:=k
    simp only at he
    subst he
    congr 1
    rw[Bool.eq_iff_iff];simp
end Go.Proofs.YthhdnjiodklmmaaGreatDoor
/- What the functions of the tree answer: above, lay, same. No condition. -/
namespace Go.Proofs.YthhdnjiodklmmaaGreatDoor
open Go Go.Aw Go.Gw
set_option linter.unusedSimpArgs false
set_option maxRecDepth 20000
def tA:List Pl:=[.free,.free,.pure 0,.free,.free,.pure 0,.eff [false,false]]
attribute [go_sem] tA
theorem vQ(b:Bool)(l:List Int)(v:Int)(H:AHeap):
  cN Tryz.prog 175 [.sl b (l.map xA),.int .i64 v] H (.int .i64 (gJ (fun x=>decide (v=x)) l)):=by
 refine iT fun hok _=>?_
 have hl:=mS hok
 rw[List.length_map]at hl
 refine aQ Tryz.func175 rfl (Nat.le_of_ble_eq_true rfl) ?_
 repeat' first|(refine gS ?_;simp only[go_sem])|refine gA ?_|(refine gD (fun h=>?_) (fun h=>?_)<;>try exact aB h)|fail
 refine aR (ι:=Nat) (fun i=>[(0,.sl b (l.map xA)),(1,.int .i64 v),(7,.int .i64 l.length),(8,.int .i64 i)]) (fun _=>H) (fun i=>i≤l.length∧∀k (hk:k<i) (hk2:k<l.length),decide (v=l[k])=false) (fun i=>l.length-i) 0 ⟨Nat.zero_le _,fun k hk=>by omega⟩ ?_ rfl ?_
 ·simp[go_sem]
 ·rintro i ⟨hi,hno⟩
  by_cases hlt:i<l.length
  ·have hp:=bF xA hlt
   repeat' first|(refine gS ?_;simp only[go_sem,hp,xA])|refine gA ?_|(refine gD (fun h=>?_) (fun h=>?_)<;>try exact aB h)|fail
   ·exact aT (by simp only[go_sem]) (.of (by rw[kJ (fun x=>decide (v=x)) l i hlt (fun k hk=>hno k hk (by omega)) h]))
   ·refine⟨i+1,⟨hlt,fun k hk hk2=>?_⟩,by omega,by rw[wrap_i64 (by omega) (by omega)];rfl⟩
    by_cases e:k=i
    ·subst e;simpa using h
    ·simpa using hno k (by omega) hk2
  ·have hi':i=l.length:=by omega
   repeat' first|(refine gS ?_;simp only[go_sem])|refine gA ?_|(refine gD (fun h=>?_) (fun h=>?_)<;>try exact aB h)|fail
   subst hi'
   exact aT (by simp only[go_sem]) (.of (by rw[kK (fun x=>decide (v=x)) l fun k hk=>hno k hk hk]))
theorem vR(b:Bool)(l:List Int)(v:Int)(H:AHeap):
  cN Tryz.prog 126 [.sl b (l.map xA),.int .i64 v] H (.bool (l.any fun x=>decide (x=v))):=by
 refine aQ Tryz.func126 rfl (Nat.le_of_ble_eq_true rfl) ?_
 repeat' first|((first|refine cK (ct (vQ _ _ _) oR) ?_|refine cP (ct (vQ _ _ _) oR) ?_|refine cM (ct (vQ _ _ _) oR) ?_|refine gS ?_);simp only[go_sem])|refine gA ?_|(refine gD (fun h=>?_) (fun h=>?_)<;>try exact aB h)|fail
 refine aT (by simp only[go_sem]) (.of ?_)
 rw[mX]
 congr 2
 funext x
 exact decide_eq_decide.2 ⟨Eq.symm,Eq.symm⟩
theorem zO(l:List Int):(l.map xA).flatMap AV.cells=l.map xA:=by
 induction l with
 |nil=>rfl
 |cons x l ih=>rw[List.map_cons,List.flatMap_cons,ih];rfl
theorem vS(l:List Int):∀e∈l.map xA,e.cells.length=1:=fun e he=>by
 obtain⟨x,_,rfl⟩:=List.mem_map.1 he;rfl
theorem aDf(b:Bool)(l:List Nd)(id:Int)(hs:chk l=true)(hl:l.length≤1073741824)(H:AHeap):cN Tryz.prog 113 [.sl b (l.map ndA),.int .i64 id] H (.sl false ((cY l id).map xA)):=by
 refine aQ Tryz.func113 rfl (Nat.le_of_ble_eq_true rfl) ?_
 have hpl:=fun id=>tW b l id hs
 repeat' first|(refine gS ?_;simp only[go_sem])|refine gA ?_|(refine gD (fun h=>?_) (fun h=>?_)<;>try exact aB h)|fail
 refine qE 5 1 (by simp only[go_sem]) ?_
 refine aR (ι:=List Int×Int) (fun x=>[(0,.sl b (l.map ndA)),(1,.int .i64 x.2),(5,.osl 1 H.length (x.1.length+1) 0 x.1.length x.1.length)]) (fun x=>H++[.cells (x.1.length+1) (x.1.map xA)])
  (fun x=>x.1.length≤l.length∧x.1++eR l (l.length-x.1.length) x.2=cY l id) (fun x=>l.length-x.1.length) ([],id) ⟨Nat.zero_le _,rfl⟩ ?_ rfl ?_
 ·simp[go_sem]
 ·rintro⟨acc,id'⟩ ⟨hn,he⟩
  simp only at hn he ⊢
  by_cases hlt:acc.length<l.length
  ·obtain⟨m,hm⟩:∃m,l.length-acc.length=m+1:=⟨l.length-acc.length-1,by omega⟩
   rw[hm,eR]at he
   cases hh:had l id' with
   |false=>
    rw[zK hh]at he
    repeat' first|((first|refine cK (ct (hpl _) cI) ?_|refine cP (ct (hpl _) cI) ?_|refine cM (ct (hpl _) cI) ?_|refine gS ?_);simp only[go_sem,hh])|refine gA ?_|(refine gD (fun h=>?_) (fun h=>?_)<;>try exact aB h)|fail
    exact iU (cs:=acc.map xA) (es:=acc.map xA) (rest:=[]) (Nat.le_refl _) (by simp only[go_sem]) (by rw[zO,List.append_nil]) (by simp) (vS acc) (fun e he=>by obtain⟨c,_,rfl⟩:=List.mem_map.1 he;exact .int _ _) (by rw[←he];simp)
   |true=>
    have hlp:=jY hs hh
    have hp:=bF ndA hlp
    rw[tU hs hh]at he
    simp only at he
    repeat' first|((first|refine cK (ct (hpl _) cI) ?_|refine cP (ct (hpl _) cI) ?_|refine cM (ct (hpl _) cI) ?_|refine gS ?_);simp only[go_sem,hh,hp,ndA])|refine gA ?_|(refine gD (fun h=>?_) (fun h=>?_)<;>try exact aB h)|fail
    ·rw[if_pos (of_decide_eq_true h)]at he
     exact iU (cs:=acc.map xA) (es:=acc.map xA) (rest:=[]) (Nat.le_refl _) (by simp only[go_sem]) (by rw[zO,List.append_nil]) (by simp) (vS acc) (fun e he=>by obtain⟨c,_,rfl⟩:=List.mem_map.1 he;exact .int _ _) (by rw[←he];simp)
    ·rw[if_neg (of_decide_eq_false h)]at he
     exact⟨⟨by omega,fun e he=>by rw[he];rfl,by omega⟩,(acc++[l[pos l id'].parent],l[pos l id'].parent),⟨by simp;omega,by rw[←he];simp[show l.length-(acc.length+1)=m by omega]⟩,by simp;omega,⟨rfl,by simp⟩,by simp[xA]⟩
  ·repeat' first|(refine gS ?_;simp only[go_sem,hlt])|refine gA ?_|(refine gD (fun h=>?_) (fun h=>?_)<;>try exact aB h)|fail
   have he2:l.length-acc.length=0:=by omega
   rw[he2]at he
   exact iU (cs:=acc.map xA) (es:=acc.map xA) (rest:=[]) (Nat.le_refl _) (by simp only[go_sem]) (by rw[zO,List.append_nil]) (by simp) (vS acc) (fun e he=>by obtain⟨c,_,rfl⟩:=List.mem_map.1 he;exact .int _ _) (by rw[←he];simp[eR])
theorem bBZ(b:Bool)(l:List Nd)(id:Int)(hl:l.length≤1073741824)(H:AHeap):cN Tryz.prog 60 [.sl b (l.map ndA),.int .i64 id] H (.sl false ((zL l id).map xA)):=by
 refine aQ Tryz.func60 rfl (Nat.le_of_ble_eq_true rfl) ?_
 unfold zL
 cases hs:chk l with
 |false=>
  repeat' first|((first|refine cK (ct (bM _ _) aN) ?_|refine cP (ct (bM _ _) aN) ?_|refine cM (ct (bM _ _) aN) ?_|refine gS ?_);simp only[go_sem,hs])|refine gA ?_|(refine gD (fun h=>?_) (fun h=>?_)<;>try exact aB h)|fail
  exact aT (by simp only[go_sem]) (.sl _ _)
 |true=>
  have hab:=aDf b l id hs hl
  have ct0:=ct hab lP;repeat' first|((first|refine gK ?_|refine cK (ct (bM _ _) aN) ?_|refine cP (ct (bM _ _) aN) ?_|refine cM (ct (bM _ _) aN) ?_|refine gS ?_);simp only[go_sem,hs])|refine gA ?_|(refine gD (fun h=>?_) (fun h=>?_)<;>try exact aB h)|fail
  exact aT (by simp only[go_sem]) (.refl _)
theorem aDg(l:List Nd):(l.map ndA).flatMap AV.cells=l.flatMap fun n=>(ndA n).cells:=by
 rw[List.flatMap_map]
theorem aAX(l:List Nd):(l.flatMap fun n=>(ndA n).cells).length=l.length * 8:=by
 induction l with
 |nil=>rfl
 |cons x l ih=>rw[List.flatMap_cons,List.length_append,ih];simp[ndA,AV.cells];omega
theorem aAY(l:List Nd):∀e∈l.map ndA,e.cells.length=8:=fun e he=>by
 obtain⟨x,_,rfl⟩:=List.mem_map.1 he;rfl
theorem aEg(l:List Nd):(∀e∈l.map ndA,e.cells.length=8)=True:=eq_true (aAY l)
theorem aQ0(l:List Nd):(l.flatMap fun n=>(ndA n).cells).all AV.one=true:=by
 rw[List.all_eq_true]
 intro x hx
 obtain⟨n,_,hn⟩:=List.mem_flatMap.1 hx
 simp only[ndA,AV.cells,List.mem_cons,List.not_mem_nil,or_false]at hn
 rcases hn with rfl|rfl|rfl|rfl|rfl|rfl|rfl|rfl<;>rfl
theorem aGm(l:List Nd):∀e∈l.map ndA,Pur e:=fun e he=>by
 obtain⟨x,_,rfl⟩:=List.mem_map.1 he;exact(by simp only[go_sem])
theorem gL{A B X:List AV}{off:Nat}(h:A.length=off):cT (A++B) off X=A++(X++B.drop X.length):=by
 subst h
 simp[cT,List.drop_append]
def ndZ:AV:=.agg [.int .i64 0,.int .i64 0,.str [],.int .i64 0,.int .i64 0,.str [],.int .i64 0,.int .i64 0]
theorem lW(l:List Nd):(List.flatMap AV.cells (l.map ndA)).length=l.length * 8:=by rw[aDg,aAX]
theorem aJP(l:List Nd):(List.flatMap AV.cells (l.map ndA)).all AV.one=true:=by rw[aDg];exact aQ0 l
theorem aGn(n:Nat):(List.flatMap AV.cells (List.replicate n ndZ)).length=n * 8:=by
 induction n with
 |zero=>rfl
 |succ n ih=>rw[List.replicate_succ,List.flatMap_cons,List.length_append,ih];simp[ndZ,AV.cells];omega
theorem aGo(b1 b2:Bool)(l xs:List Nd)(i j:Nat)(hij:i≤j)(hj:j≤l.length)(hl:l.length+xs.length≤1073741824)(H:AHeap):
  cN Tryz.prog 189 [.sl b1 (l.map ndA),.int .i64 i,.int .i64 j,.sl b2 (xs.map ndA)] H (.sl false ((lF l i j xs).map ndA)):=by
 refine aQ Tryz.func189 rfl (Nat.le_of_ble_eq_true rfl) ?_
 have e1:IntKind.i64.wrap (IntKind.i64.wrap (((i+xs.length:Nat):Int)+(l.length:Int))-(j:Int))=((i+xs.length+(l.length-j):Nat):Int):=by
  rw[wrap_i64 (n:=((i+xs.length:Nat):Int)+l.length) (by omega) (by omega),wrap_i64 (by omega) (by omega)];omega
 have t1:List.take i (List.map ndA l)=List.map ndA (l.take i):=List.map_take.symm
 have t2:List.drop j (List.map ndA l)=List.map ndA (l.drop j):=List.map_drop.symm
 have n1:(l.take i).length=i:=List.length_take_of_le (by omega)
 have n2:(l.drop j).length=l.length-j:=List.length_drop
 have e2:IntKind.i64.wrap ((i:Int)+(xs.length:Int))=((i+xs.length:Nat):Int):=wrap_i64 (by omega) (by omega)
 have hz:ndZ=.agg [.int .i64 0,.int .i64 0,.str [],.int .i64 0,.int .i64 0,.str [],.int .i64 0,.int .i64 0]:=rfl
 have l1:=lW (l.take i)
 have l2:=lW xs
 have l3:=lW (l.drop j)
 have lz:=aGn (i+(xs.length+(l.length-j)))
 rw[n1]at l1
 rw[n2]at l3
 have s1:cT (List.flatMap AV.cells (List.replicate (i+(xs.length+(l.length-j))) ndZ)) 0 (List.flatMap AV.cells (List.map ndA (l.take i)))=
   List.flatMap AV.cells (List.map ndA (l.take i))++(List.flatMap AV.cells (List.replicate (i+(xs.length+(l.length-j))) ndZ)).drop (i * 8):=by
  have:=gL (A:=[]) (B:=List.flatMap AV.cells (List.replicate (i+(xs.length+(l.length-j))) ndZ)) (X:=List.flatMap AV.cells (List.map ndA (l.take i))) (off:=0) rfl
  rw[l1]at this;exact this
 have s2:cT (List.flatMap AV.cells (List.map ndA (l.take i))++(List.flatMap AV.cells (List.replicate (i+(xs.length+(l.length-j))) ndZ)).drop (i * 8)) (i * 8) (List.flatMap AV.cells (List.map ndA xs))=
   List.flatMap AV.cells (List.map ndA (l.take i))++(List.flatMap AV.cells (List.map ndA xs)++(List.flatMap AV.cells (List.replicate (i+(xs.length+(l.length-j))) ndZ)).drop (i * 8+xs.length * 8)):=by
  rw[gL l1,l2,List.drop_drop]
 have s3:cT (List.flatMap AV.cells (List.map ndA (l.take i))++(List.flatMap AV.cells (List.map ndA xs)++(List.flatMap AV.cells (List.replicate (i+(xs.length+(l.length-j))) ndZ)).drop (i * 8+xs.length * 8))) ((i+xs.length) * 8) (List.flatMap AV.cells (List.map ndA (l.drop j)))=
   List.flatMap AV.cells (List.map ndA (lF l i j xs)):=by
  rw[←List.append_assoc,gL (by rw[List.length_append,l1,l2];omega),l3,List.drop_drop,show List.drop (i * 8+xs.length * 8+(l.length-j) * 8) (List.flatMap AV.cells (List.replicate (i+(xs.length+(l.length-j))) ndZ))=[]from List.drop_of_length_le (by rw[lz];omega)]
  simp[lF,List.append_assoc]
 repeat' first|((first|refine mx [4] tA ?_|refine gS ?_);simp only[go_sem,e1,e2,t1,t2,n1,n2,←hz,s1,s2,s3,l1,l2,l3,lz,aJP,aEg,List.length_drop])|refine gA ?_|(refine gD (fun h=>?_) (fun h=>?_)<;>try exact aB h)|fail
 have hlen:=qN l i j xs hij hj
 exact iU (cs:=List.flatMap AV.cells (List.map ndA (lF l i j xs))) (es:=(lF l i j xs).map ndA) (rest:=[]) (Nat.le_refl _) (by simp only[go_sem]) (List.append_nil _).symm (by rw[List.length_map];omega) (aAY _) (aGm _) rfl
theorem aDh(b:Bool)(l:List Nd)(hl:l.length≤1000000000)(H:AHeap):cN Tryz.prog 188 [.sl b (l.map ndA)] H (.sl false (l.map ndA)):=by
 refine aQ Tryz.func188 rfl (Nat.le_of_ble_eq_true rfl) ?_
 have hlay:=aGo b true l [] l.length l.length (Nat.le_refl _) (Nat.le_refl _) (by simp;omega) H
 have e:lF l l.length l.length []=l:=by simp[lF]
 rw[e]at hlay
 repeat' first|((first|refine aV (hlay) dQ ?_|refine aW (hlay) dQ ?_|refine aX (fun _=>hlay) dQ ?_|refine gS ?_);simp only[go_sem])|refine gA ?_|(refine gD (fun h=>?_) (fun h=>?_)<;>try exact aB h)|fail
 exact aT (by simp only[go_sem]) (.refl _)
end Go.Proofs.YthhdnjiodklmmaaGreatDoor
/- What the functions of the tree answer: Do, Back. No condition. -/
namespace Go.Proofs.YthhdnjiodklmmaaGreatDoor
open Go Go.Aw Go.Gw
set_option linter.unusedSimpArgs false
set_option maxHeartbeats 1000000
set_option maxRecDepth 20000
def eI:List Pl:=[.pure 0,.pure 0,.pure 0,.pure 0,.pure 0,.pure 0,.pure 0,.eff [false,true,true,true,true,false,false],.pure 0,.eff [false,true,true,false,false],.pure 0,.eff [false,false,false]]
def eJ:List Pl:=[.pure 0,.pure 0,.pure 0,.pure 0,.pure 0,.eff [false,true,true,false,false],.pure 0,.eff [false,false,false]]
def eK:List Pl:=[.pure 0,.free,.free,.pure 0,.free,.pure 0,.pure 0,.free,.eff [false,false,false,false]]
attribute [go_sem] eI eJ eK
theorem aJQ(l:List Nd)(o:Opn)(hs:chk l=true)(hl:l.length≤1000000000)(H:AHeap)(i j:Nat)(b:Bool)
  (hi:hget H i=.cells 0 [.int .i64 o.at_.c,.int .i64 o.at_.r,.int .i64 o.kind,.int .i64 o.node,.int .i64 o.parent,.str o.name,.str o.data]) (hj:hget H j=.cells 0 [.sl b (l.map ndA)]):
  cN Tryz.prog 190 [.ref i 0 0,.ref j 0 0] H (.bool (pM l o)):=by
 refine aQ Tryz.func190 rfl (Nat.le_of_ble_eq_true rfl) ?_
 have hab:=aDf b l o.parent hs (by omega) H
 repeat' first|((first|refine aV (hab) lP ?_|refine aW (hab) lP ?_|refine aX (fun _=>hab) lP ?_|refine cK (ct (vR _ _ _) oO) ?_|refine cP (ct (vR _ _ _) oO) ?_|refine cM (ct (vR _ _ _) oO) ?_|refine gS ?_);simp only[go_sem,hi,hj])|refine gA ?_|(refine gD (fun h=>?_) (fun h=>?_)<;>try exact aB h)|fail
 refine aT (by simp only[go_sem]) (.of ?_)
 rw[pM]
theorem bB0(b:Bool)(l:List Nd)(o:Opn)(hs:OpS o)(hl:l.length≤1000000000)(H:AHeap):cN Tryz.prog 160 [.sl b (l.map ndA),opA o] H (.tup [.sl false ((kX l o).map ndA),unA (qL l o)]):=by
 refine aQ Tryz.func160 rfl (Nat.le_of_ble_eq_true rfl) ?_
 have hok:=aGa o hs
 have hsm:=aDh b l hl
 simp only[opA]at hok ⊢
 cases hc:chk l with
 |false=>
  have hr:cA l o=true:=by simp[cA,hc]
  rw[kX,if_pos hr,qL,if_pos hr]
  have ct0:=ct hok eF;have ct1:=ct hsm jS;repeat' first|((first|refine gK ?_|refine cK (ct (bM _ _) aN) ?_|refine cP (ct (bM _ _) aN) ?_|refine cM (ct (bM _ _) aN) ?_|refine mx [15] eI ?_|refine mx [16] eJ ?_|refine mx [17] eK ?_|refine gS ?_);simp only[go_sem,hc])|refine gA ?_|(refine gD (fun h=>?_) (fun h=>?_)<;>try exact aB h)|fail
  exact done (by simp only[go_sem]) (.refl _)
 |true=>
  cases ho:opOk o with
  |false=>
   have hr:cA l o=true:=by simp[cA,ho]
   rw[kX,if_pos hr,qL,if_pos hr]
   have ct0:=ct hok eF;have ct1:=ct hsm jS;repeat' first|((first|refine gK ?_|refine cK (ct (bM _ _) aN) ?_|refine cP (ct (bM _ _) aN) ?_|refine cM (ct (bM _ _) aN) ?_|refine mx [15] eI ?_|refine mx [16] eJ ?_|refine mx [17] eK ?_|refine gS ?_);simp only[go_sem,hc,ho])|refine gA ?_|(refine gD (fun h=>?_) (fun h=>?_)<;>try exact aB h)|fail
   exact done (by simp only[go_sem]) (.refl _)
  |true=>
   have hpl:=tW b l o.node hc
   have hlay:=aGo b true l
   have hup:=tV l o.node hc
   have hlc:=fun H i j hi hj=>aJQ l o hc hl H i j b hi hj
   by_cases hk:o.kind=1
   ·have hkd:decide (o.kind=1)=true:=decide_eq_true hk
    cases hlp:pM l o with
    |true=>
     have hr:cA l o=true:=by simp[cA,hk,hlp]
     rw[kX,if_pos hr,qL,if_pos hr]
     have ct0:=ct hok eF;have ct1:=ct hsm jS;repeat' first|((first|refine gK ?_|refine cK (ct (bM _ _) aN) ?_|refine cP (ct (bM _ _) aN) ?_|refine cM (ct (bM _ _) aN) ?_|refine dL (hlc _ _ _ (by simp only[go_sem,hc,ho,hkd,hlp]) (by simp only[go_sem,hc,ho,hkd,hlp])) eQ ?_|refine dM (fun _=>hlc _ _ _ (by simp only[go_sem,hc,ho,hkd,hlp]) (by simp only[go_sem,hc,ho,hkd,hlp])) eQ ?_|refine dN (fun _=>hlc _ _ _ (by simp only[go_sem,hc,ho,hkd,hlp]) (by simp only[go_sem,hc,ho,hkd,hlp])) eQ ?_|refine mx [15] eI ?_|refine mx [16] eJ ?_|refine mx [17] eK ?_|refine gS ?_);simp only[go_sem,hc,ho,hkd,hlp])|refine gA ?_|(refine gD (fun h=>?_) (fun h=>?_)<;>try exact aB h)|fail
     exact done (by simp only[go_sem]) (.refl _)
    |false=>
     have hr:¬cA l o=true:=by simp[cA,hc,ho,hlp]
     cases hh:had l o.node with
     |true=>
      have hlt:=jY hc hh
      have hp:=bF ndA hlt
      have hw:=bI hlt (show l.length≤9223372036854775807 by omega)
      have hf:=tU hc hh
      have e:cJ l o=⟨l[pos l o.node].id,o.parent,o.name,o.at_,l[pos l o.node].data,l[pos l o.node].wrote⟩:=by
       unfold cJ fA
       rw[if_pos hk,hf]
      have eu:upto l o.node=pos l o.node+1:=by rw[upto,if_pos hh]
      rw[eu]at hup
      have hl1:=hlay [⟨l[pos l o.node].id,o.parent,o.name,o.at_,l[pos l o.node].data,l[pos l o.node].wrote⟩] (pos l o.node) (pos l o.node+1) hup.1 hup.2 (by simp;omega)
      simp only[List.map_cons,List.map_nil,ndA]at hl1
      rw[kX,if_neg hr,qL,if_neg hr,e,eu,hf]
      have ct0:=ct hok eF;have ct1:=ct hpl cI;have ct2:=ct hl1 dQ;repeat' first|((first|refine gK ?_|refine cK (ct (bM _ _) aN) ?_|refine cP (ct (bM _ _) aN) ?_|refine cM (ct (bM _ _) aN) ?_|refine dL (hlc _ _ _ (by simp only[go_sem,hc,ho,hkd,hh,hlp,hp,hw,ndA]) (by simp only[go_sem,hc,ho,hkd,hh,hlp,hp,hw,ndA])) eQ ?_|refine dM (fun _=>hlc _ _ _ (by simp only[go_sem,hc,ho,hkd,hh,hlp,hp,hw,ndA]) (by simp only[go_sem,hc,ho,hkd,hh,hlp,hp,hw,ndA])) eQ ?_|refine dN (fun _=>hlc _ _ _ (by simp only[go_sem,hc,ho,hkd,hh,hlp,hp,hw,ndA]) (by simp only[go_sem,hc,ho,hkd,hh,hlp,hp,hw,ndA])) eQ ?_|refine mx [15] eI ?_|refine mx [16] eJ ?_|refine mx [17] eK ?_|refine gS ?_);simp only[go_sem,hc,ho,hkd,hh,hlp,hp,hw,ndA])|refine gA ?_|(refine gD (fun h=>?_) (fun h=>?_)<;>try exact aB h)|fail
      exact done (by simp only[go_sem]) (.of (by simp only[unA,hh];rfl))
     |false=>
      have hf:=zK hh
      have e:cJ l o=⟨o.node,o.parent,o.name,o.at_,[],st0⟩:=by
       unfold cJ fA
       rw[if_pos hk,hf];rfl
      have eu:upto l o.node=pos l o.node:=by rw[upto,if_neg (by rw[hh];decide)]
      rw[eu]at hup
      have hl1:=hlay [⟨o.node,o.parent,o.name,o.at_,[],st0⟩] (pos l o.node) (pos l o.node) hup.1 hup.2 (by simp;omega)
      simp only[List.map_cons,List.map_nil,ndA]at hl1
      rw[kX,if_neg hr,qL,if_neg hr,e,eu,hf]
      have ct0:=ct hok eF;have ct1:=ct hpl cI;have ct2:=ct hl1 dQ;repeat' first|((first|refine gK ?_|refine cK (ct (bM _ _) aN) ?_|refine cP (ct (bM _ _) aN) ?_|refine cM (ct (bM _ _) aN) ?_|refine dL (hlc _ _ _ (by simp only[go_sem,hc,ho,hkd,hh,hlp]) (by simp only[go_sem,hc,ho,hkd,hh,hlp])) eQ ?_|refine dM (fun _=>hlc _ _ _ (by simp only[go_sem,hc,ho,hkd,hh,hlp]) (by simp only[go_sem,hc,ho,hkd,hh,hlp])) eQ ?_|refine dN (fun _=>hlc _ _ _ (by simp only[go_sem,hc,ho,hkd,hh,hlp]) (by simp only[go_sem,hc,ho,hkd,hh,hlp])) eQ ?_|refine mx [15] eI ?_|refine mx [16] eJ ?_|refine mx [17] eK ?_|refine gS ?_);simp only[go_sem,hc,ho,hkd,hh,hlp])|refine gA ?_|(refine gD (fun h=>?_) (fun h=>?_)<;>try exact aB h)|fail
      exact done (by simp only[go_sem]) (.of (by simp only[unA,hh];rfl))
   ·have hkd:decide (o.kind=1)=false:=decide_eq_false hk
    have hr:¬cA l o=true:=by simp[cA,hc,ho,hk]
    cases hh:had l o.node with
    |true=>
     have hlt:=jY hc hh
     have hp:=bF ndA hlt
     have hw:=bI hlt (show l.length≤9223372036854775807 by omega)
     have hf:=tU hc hh
     have e:cJ l o=⟨l[pos l o.node].id,l[pos l o.node].parent,l[pos l o.node].name,l[pos l o.node].moved,o.data,o.at_⟩:=by
      unfold cJ fA
      rw[if_neg hk,hf]
     have eu:upto l o.node=pos l o.node+1:=by rw[upto,if_pos hh]
     rw[eu]at hup
     have hl1:=hlay [⟨l[pos l o.node].id,l[pos l o.node].parent,l[pos l o.node].name,l[pos l o.node].moved,o.data,o.at_⟩] (pos l o.node) (pos l o.node+1) hup.1 hup.2 (by simp;omega)
     simp only[List.map_cons,List.map_nil,ndA]at hl1
     rw[kX,if_neg hr,qL,if_neg hr,e,eu,hf]
     have ct0:=ct hok eF;have ct1:=ct hpl cI;have ct2:=ct hl1 dQ;repeat' first|((first|refine gK ?_|refine cK (ct (bM _ _) aN) ?_|refine cP (ct (bM _ _) aN) ?_|refine cM (ct (bM _ _) aN) ?_|refine mx [15] eI ?_|refine mx [16] eJ ?_|refine mx [17] eK ?_|refine gS ?_);simp only[go_sem,hc,ho,hkd,hh,hp,hw,ndA])|refine gA ?_|(refine gD (fun h=>?_) (fun h=>?_)<;>try exact aB h)|fail
     exact done (by simp only[go_sem]) (.of (by simp only[unA,hh];rfl))
    |false=>
     have hf:=zK hh
     have e:cJ l o=⟨o.node, -1,[],st0,o.data,o.at_⟩:=by
      unfold cJ fA
      rw[if_neg hk,hf];rfl
     have eu:upto l o.node=pos l o.node:=by rw[upto,if_neg (by rw[hh];decide)]
     rw[eu]at hup
     have hl1:=hlay [⟨o.node, -1,[],st0,o.data,o.at_⟩] (pos l o.node) (pos l o.node) hup.1 hup.2 (by simp;omega)
     simp only[List.map_cons,List.map_nil,ndA]at hl1
     rw[kX,if_neg hr,qL,if_neg hr,e,eu,hf]
     have ct0:=ct hok eF;have ct1:=ct hpl cI;have ct2:=ct hl1 dQ;repeat' first|((first|refine gK ?_|refine cK (ct (bM _ _) aN) ?_|refine cP (ct (bM _ _) aN) ?_|refine cM (ct (bM _ _) aN) ?_|refine mx [15] eI ?_|refine mx [16] eJ ?_|refine mx [17] eK ?_|refine gS ?_);simp only[go_sem,hc,ho,hkd,hh])|refine gA ?_|(refine gD (fun h=>?_) (fun h=>?_)<;>try exact aB h)|fail
     exact done (by simp only[go_sem]) (.of (by simp only[unA,hh];rfl))
end Go.Proofs.YthhdnjiodklmmaaGreatDoor
/- What the functions of the tree answer: Back. No condition. -/
namespace Go.Proofs.YthhdnjiodklmmaaGreatDoor
open Go Go.Aw Go.Gw
set_option linter.unusedSimpArgs false
set_option maxRecDepth 20000
set_option maxHeartbeats 1000000
theorem aQ1(b:Bool)(l:List Nd)(o:Opn)(u:Und)(hl:l.length≤1000000000)(H:AHeap):cN Tryz.prog 158 [.sl b (l.map ndA),opA o,unA u] H (.sl false ((lG l o u).map ndA)):=by
 refine aQ Tryz.func158 rfl (Nat.le_of_ble_eq_true rfl) ?_
 have hsm:=aDh b l hl
 simp only[opA,unA]
 cases hc:chk l with
 |false=>
  have hr:(!chk l|| !u.did)=true:=by simp[hc]
  rw[lG,if_pos hr]
  have ct0:=ct hsm jS;repeat' first|((first|refine gK ?_|refine cK (ct (bM _ _) aN) ?_|refine cP (ct (bM _ _) aN) ?_|refine cM (ct (bM _ _) aN) ?_|refine gS ?_);simp only[go_sem,hc])|refine gA ?_|(refine gD (fun h=>?_) (fun h=>?_)<;>try exact aB h)|fail
  exact done (by simp only[go_sem]) (.refl _)
 |true=>
  cases hd:u.did with
  |false=>
   have hr:(!chk l|| !u.did)=true:=by simp[hd]
   rw[lG,if_pos hr]
   have ct0:=ct hsm jS;repeat' first|((first|refine gK ?_|refine cK (ct (bM _ _) aN) ?_|refine cP (ct (bM _ _) aN) ?_|refine cM (ct (bM _ _) aN) ?_|refine gS ?_);simp only[go_sem,hc,hd])|refine gA ?_|(refine gD (fun h=>?_) (fun h=>?_)<;>try exact aB h)|fail
   exact done (by simp only[go_sem]) (.refl _)
  |true=>
   have hr:¬(!chk l|| !u.did)=true:=by simp[hc,hd]
   have hpl:=tW b l o.node hc
   have hlay:=aGo b true l
   have hup:=tV l o.node hc
   rw[lG,if_neg hr]
   cases hq:(iZ o.node&&u.had&&decide (u.was.id=o.node))with
   |true=>
    rw[if_pos rfl]
    have hl1:=hlay [u.was] (pos l o.node) (upto l o.node) hup.1 hup.2 (by simp;omega)
    simp only[List.map_cons,List.map_nil,ndA]at hl1
    cases hh:had l o.node with
    |true=>
     have hlt:=jY hc hh
     have hw:=bI hlt (show l.length≤9223372036854775807 by omega)
     have eu:upto l o.node=pos l o.node+1:=by rw[upto,if_pos hh]
     rw[eu]at hl1 ⊢
     have ct0:=ct hpl cI;have ct1:=ct hl1 dQ;repeat' first|((first|refine gK ?_|refine cK (ct (bM _ _) aN) ?_|refine cP (ct (bM _ _) aN) ?_|refine cM (ct (bM _ _) aN) ?_|refine cK (ct (iP _) bK) ?_|refine cP (ct (iP _) bK) ?_|refine cM (ct (iP _) bK) ?_|refine gS ?_);simp only[go_sem,hc,hd,hh,hw,hq])|refine gA ?_|(refine gD (fun h=>?_) (fun h=>?_)<;>try exact aB h)|fail
     exact done (by simp only[go_sem]) (.refl _)
    |false=>
     have eu:upto l o.node=pos l o.node:=by rw[upto,if_neg (by rw[hh];decide)]
     rw[eu]at hl1 ⊢
     have ct0:=ct hpl cI;have ct1:=ct hl1 dQ;repeat' first|((first|refine gK ?_|refine cK (ct (bM _ _) aN) ?_|refine cP (ct (bM _ _) aN) ?_|refine cM (ct (bM _ _) aN) ?_|refine cK (ct (iP _) bK) ?_|refine cP (ct (iP _) bK) ?_|refine cM (ct (iP _) bK) ?_|refine gS ?_);simp only[go_sem,hc,hd,hh,hq])|refine gA ?_|(refine gD (fun h=>?_) (fun h=>?_)<;>try exact aB h)|fail
     exact done (by simp only[go_sem]) (.refl _)
   |false=>
    rw[if_neg (by decide)]
    have hl1:=hlay [] (pos l o.node) (upto l o.node) hup.1 hup.2 (by simp;omega)
    simp only[List.map_nil]at hl1
    cases hh:had l o.node with
    |true=>
     have hlt:=jY hc hh
     have hw:=bI hlt (show l.length≤9223372036854775807 by omega)
     have eu:upto l o.node=pos l o.node+1:=by rw[upto,if_pos hh]
     rw[eu]at hl1 ⊢
     have ct0:=ct hpl cI;have ct1:=ct hl1 dQ;repeat' first|((first|refine gK ?_|refine cK (ct (bM _ _) aN) ?_|refine cP (ct (bM _ _) aN) ?_|refine cM (ct (bM _ _) aN) ?_|refine cK (ct (iP _) bK) ?_|refine cP (ct (iP _) bK) ?_|refine cM (ct (iP _) bK) ?_|refine gS ?_);simp only[go_sem,hc,hd,hh,hw,hq])|refine gA ?_|(refine gD (fun h=>?_) (fun h=>?_)<;>try exact aB h)|fail
     exact done (by simp only[go_sem]) (.refl _)
    |false=>
     have eu:upto l o.node=pos l o.node:=by rw[upto,if_neg (by rw[hh];decide)]
     rw[eu]at hl1 ⊢
     have ct0:=ct hpl cI;have ct1:=ct hl1 dQ;repeat' first|((first|refine gK ?_|refine cK (ct (bM _ _) aN) ?_|refine cP (ct (bM _ _) aN) ?_|refine cM (ct (bM _ _) aN) ?_|refine cK (ct (iP _) bK) ?_|refine cP (ct (iP _) bK) ?_|refine cM (ct (iP _) bK) ?_|refine gS ?_);simp only[go_sem,hc,hd,hh,hq])|refine gA ?_|(refine gD (fun h=>?_) (fun h=>?_)<;>try exact aB h)|fail
     exact done (by simp only[go_sem]) (.refl _)
end Go.Proofs.YthhdnjiodklmmaaGreatDoor
/- What the functions of the logs answer: the step of Add. No condition. -/
namespace Go.Aw
theorem cH(H:AHeap)(i:Nat)(b:ABlk):(aD H i b).length=H.length:=by simp[aD]
theorem bW{H:AHeap}{i j:Nat}(h:i≠j)(b:ABlk):hget (aD H i b) j=hget H j:=by
 simp only[hget,aD,List.getD_eq_getElem?_getD];rw[List.getElem?_set_ne h]
theorem fI{H:AHeap}{i:Nat}(h:i<H.length)(b:ABlk):hget (aD H i b) i=b:=by
 simp only[hget,aD,List.getD_eq_getElem?_getD];rw[List.getElem?_set_self h];rfl
theorem zP{G L:AHeap}{n k:Nat}(h:G.length=n):hget (G++L) (n+k)=L.getD k .gone:=by subst h;exact mQ _ _ _
theorem qP{G L:AHeap}{n:Nat}(h:G.length=n):hget (G++L) n=L.getD 0 .gone:=by subst h;exact iF _ _
theorem zQ{G L:AHeap}{n k:Nat}(h:G.length=n)(b:ABlk):aD (G++L) (n+k) b=G++L.set k b:=by subst h;exact uU _ _ _ _
theorem aGp{G L:AHeap}{n:Nat}(h:G.length=n)(b:ABlk):aD (G++L) n b=G++L.set 0 b:=by subst h;exact xO _ _ _
end Go.Aw
namespace Go.Proofs.YthhdnjiodklmmaaGreatDoor
open Go Go.Aw Go.Gw
set_option linter.unusedSimpArgs false
set_option maxRecDepth 20000
set_option maxHeartbeats 1000000
theorem aAZ(es:List Ent)(e:Ent):((es++[e]).map fR).flatMap AV.cells=(es.map fR).flatMap AV.cells++(fR e).cells:=by
 rw[List.map_append,List.flatMap_append];simp
theorem aQ2(b:Bool)(es:List Ent)(n:List Nd)(o:Opn)(hs:OpS o)(hl:n.length≤1000000000)(he:es.length≤1000000)(H:AHeap)(i j:Nat)(hij:i≠j)
  (hi:hget H i=.cells 0 [.sl b (n.map ndA)]) (hj:hget H j=.cells 0 [.sl true (es.map fR)]):
  ACalls Tryz.prog 159 [opA o,.ref i 0 0,.ref j 0 0] H (fun x H'=>x=.tup []∧
   ∃b0 b1,H'=aD (aD H i (.cells 0 [.sl false ((kX n o).map ndA)])) j (.cells 0 [.osl 17 (H.length+2) 1 0 (es.length+1) (es.length+1)])++([b0,b1,.cells 1 (((es++[(⟨o,qL n o⟩:Ent)]).map fR).flatMap AV.cells)]:AHeap)):=by
 refine dI Tryz.func159 rfl (Nat.le_of_ble_eq_true rfl) ?_
 have hdo:=bB0 b n o hs hl
 have hi2:=fun L=>aK hi trivial L
 have hi3:i<H.length:=bP hi trivial
 have hj3:j<H.length:=bP hj trivial
 have f1:=fun L b=>cG hi3 L b
 have f2:=fun b=>cH H i b
 have f3:∀L b k,hget (aD H i b++L) (H.length+k)=L.getD k .gone:=fun L b k=>zP (cH H i b)
 have f30:∀L b,hget (aD H i b++L) H.length=L.getD 0 .gone:=fun L b=>qP (cH H i b)
 have f4:∀L b k b',aD (aD H i b++L) (H.length+k) b'=aD H i b++L.set k b':=fun L b k b'=>zQ (cH H i b) b'
 have f5:∀L b,hget (aD H i b++L) j=.cells 0 [.sl true (es.map fR)]:=fun L b=>aK ((bW hij b).trans hj) trivial L
 have f6:∀L b b',aD (aD H i b++L) j b'=aD (aD H i b) j b'++L:=fun L b b'=>cG (by rw[cH];exact hj3) L b'
 have ec:=aAZ es ⟨o,qL n o⟩
 have hcl:=fP es
 simp only[opA,unA]at hdo ⊢
 have ct0:=ct hdo vC;repeat' first|((first|refine gK ?_|refine gS ?_);simp only[go_sem,hi,hj,hi2,f1,f2,f3,f30,f4,f5,f6,hcl])|refine gA ?_|(refine gD (fun h=>?_) (fun h=>?_)<;>try exact aB h)|fail
 rw[ec]
 exact⟨⟨.inr trivial,fun e he=>by rw[he];rfl,by omega⟩,_,_,rfl⟩
theorem aQ3(b:Bool)(es:List Ent)(n:List Nd)(o:Opn)(hs:OpS o)(hl:n.length≤1000000000)(he:es.length≤1000000)(H:AHeap)(i j k v:Nat)(hij:i≠j)(hik:i≠k)(hjk:j≠k)(hv:v≠0)
  (hi:hget H i=.cells 0 [.sl b (n.map ndA)]) (hj:hget H j=.cells 0 [.osl 17 k v 0 es.length es.length]) (hk:hget H k=.cells v ((es.map fR).flatMap AV.cells)):
  ACalls Tryz.prog 159 [opA o,.ref i 0 0,.ref j 0 0] H (fun x H'=>x=.tup []∧
   ∃b0 b1,H'=aD (aD (aD H i (.cells 0 [.sl false ((kX n o).map ndA)])) k (.cells (v+1) (((es++[(⟨o,qL n o⟩:Ent)]).map fR).flatMap AV.cells))) j (.cells 0 [.osl 17 k (v+1) 0 (es.length+1) (es.length+1)])++([b0,b1]:AHeap)):=by
 refine dI Tryz.func159 rfl (Nat.le_of_ble_eq_true rfl) ?_
 have hdo:=bB0 b n o hs hl
 have hi2:=fun L=>aK hi trivial L
 have hi3:i<H.length:=bP hi trivial
 have hj3:j<H.length:=bP hj trivial
 have hk3:k<H.length:=bP hk trivial
 have f1:=fun L b=>cG hi3 L b
 have f2:=fun b=>cH H i b
 have f3:∀L b k,hget (aD H i b++L) (H.length+k)=L.getD k .gone:=fun L b k=>zP (cH H i b)
 have f30:∀L b,hget (aD H i b++L) H.length=L.getD 0 .gone:=fun L b=>qP (cH H i b)
 have f4:∀L b k b',aD (aD H i b++L) (H.length+k) b'=aD H i b++L.set k b':=fun L b k b'=>zQ (cH H i b) b'
 have f5:∀L b,hget (aD H i b++L) j=.cells 0 [.osl 17 k v 0 es.length es.length]:=fun L b=>aK ((bW hij b).trans hj) trivial L
 have f6:∀L b,hget (aD H i b++L) k=.cells v ((es.map fR).flatMap AV.cells):=fun L b=>aK ((bW hik b).trans hk) trivial L
 have f7:∀L b b',aD (aD H i b++L) k b'=aD (aD H i b) k b'++L:=fun L b b'=>cG (by rw[cH];exact hk3) L b'
 have f8:∀L b b' b'',aD (aD (aD H i b) k b'++L) j b''=aD (aD (aD H i b) k b') j b''++L:=fun L b b' b''=>cG (by rw[cH,cH];exact hj3) L b''
 have f9:∀L b b',hget (aD (aD H i b) k b'++L) j=.cells 0 [.osl 17 k v 0 es.length es.length]:=fun L b b'=>aK ((bW hjk.symm b').trans ((bW hij b).trans hj)) trivial L
 have ec:=aAZ es ⟨o,qL n o⟩
 have hcl:=fP es
 have hfl:(List.flatMap AV.cells (es.map fR)).length=es.length * 17:=(qD (fX es)).trans (by rw[List.length_map])
 simp only[opA,unA]at hdo ⊢
 have ct0:=ct hdo vC;repeat' first|((first|refine gK ?_|refine gS ?_);simp only[go_sem,hi,hj,hi2,f1,f2,f3,f30,f4,f5,f6,f7,f8,f9,hcl,hfl,hv])|refine gA ?_|(refine gD (fun h=>?_) (fun h=>?_)<;>try exact aB h)|fail
 rw[ec]
 exact⟨⟨fun e he=>by rw[he];rfl,by omega⟩,_,_,rfl⟩
end Go.Proofs.YthhdnjiodklmmaaGreatDoor
/- What the functions of the logs answer: Add. No condition. -/
namespace Go.Aw
open Go
variable {P:Program}
def aCt{ι:Type}(F:ι→AF)(Hp:ι→AHeap)(pre:ι→Prop)(Q:bL):bL
 |.normal,α,H=>∃y,pre y∧aAE (F y) α∧H=Hp y
 |e,α,H=>Q e α H
section
variable {ι:Type} (F:ι→AF) (Hp:ι→AHeap) (pre:ι→Prop) (Q:bL) (α:AF) (H:AHeap)
@[go_sem] theorem aL7:aCt F Hp pre Q .normal α H=∃y,pre y∧aAE (F y) α∧H=Hp y:=rfl
@[go_sem] theorem aYg(i:Nat):aCt F Hp pre Q (.exit i) α H=Q (.exit i) α H:=rfl
@[go_sem] theorem bB1:aCt F Hp pre Q .ret α H=Q .ret α H:=rfl
end
theorem zR{N:Nat}{x y:Code}{Q:bL}{α:AF}{H:AHeap}{ι:Type}(F:ι→AF)(Hp:ι→AHeap)(pre:ι→Prop)(h1:aw P N x (aCt F Hp pre Q) α H)(h2:∀i,pre i→aw P N y Q (F i) (Hp i)):aw P N (.seq x y) Q α H:=by
 refine yY (tO h1 fun e α' H' h=>?_)
 cases e with
 |normal=>
  obtain⟨i,hp,hs,rfl⟩:=h
  exact nE (h2 i hp) (iG hs)
 |_=>exact h
theorem hQ{N id:Nat}{x y:Code}{Q:bL}{α:AF}{H:AHeap}{ι:Type}(F:ι→AF)(Hp:ι→AHeap)(pre:ι→Prop)(h1:aw P N x (lK id (aCt F Hp pre Q)) α H)(h2:∀i,pre i→aw P N y Q (F i) (Hp i)):aw P N x (lK id (uG P N y Q)) α H:=by
 refine tO h1 fun e α' H' h=>?_
 have key:aCt F Hp pre Q .normal α' H'→uG P N y Q .normal α' H':=fun⟨i,hp,hs,hH⟩=>by subst hH;exact nE (h2 i hp) (iG hs)
 cases e with
 |normal=>exact key h
 |exit i=>
  simp only[lK]at h ⊢
  by_cases hi:i==id
  ·rw[hi,cond_true]at h ⊢;exact key h
  ·have hi':(i==id)=false:=by simpa using hi
   rw[hi',cond_false]at h ⊢;exact h
 |_=>exact h
end Go.Aw
namespace Go.Proofs.YthhdnjiodklmmaaGreatDoor
open Go Go.Aw Go.Gw
set_option linter.unusedSimpArgs false
set_option maxRecDepth 20000
set_option maxHeartbeats 1000000
def cL:List Pl:=[.pure 0,.pure 0,.pure 0,.pure 0,.pure 0,.eff [true,true,true,true,true],.eff [true,true,true,false,false],.free]
attribute [go_sem] cL
def lX(o:Opn):List AV:=[.int .i64 o.at_.c,.int .i64 o.at_.r,.int .i64 o.kind,.int .i64 o.node,.int .i64 o.parent,.str o.name,.str o.data]
def aQ4(g:Lg)(e:Int):AV:=.tup [lgA g,.int .i64 e]
def bEn(l:List Ent):Prop:=∀e∈l,OpS e.op
theorem aA0{n:Nat}{H:AHeap}:∀(i:Nat) (x y:AV),([]:List AV)[i]?=some x→([]:List AV)[i]?=some y→Frz n H x y:=fun _ _ _ h=>by simp at h
theorem nL{n:Nat}{H:AHeap}{a b:AV}{cs ds:List AV}(h:Frz n H a b)(hs:∀(i:Nat) (x y:AV),cs[i]?=some x→ds[i]?=some y→Frz n H x y):∀(i:Nat) (x y:AV),(a::cs)[i]?=some x→(b::ds)[i]?=some y→Frz n H x y
 |0,x,y,hx,hy=>by simp at hx hy;subst hx;subst hy;exact h
 |i+1,x,y,hx,hy=>hs i x y (by simpa using hx) (by simpa using hy)
theorem aL8{H M L G X:AHeap}(hG:H++(M++L)=G):G++X=H++(M++(L++X)):=by rw[←hG];simp only[List.append_assoc]
theorem eE{H X:AHeap}{i:Nat}(h:∃M,X=H++M)(hi:H.length≤i)(b:ABlk):∃M,aD X i b=H++M:=by
 obtain⟨M,rfl⟩:=h
 obtain⟨k,rfl⟩:∃k,i=H.length+k:=⟨i-H.length,by omega⟩
 exact⟨M.set k b,uU _ _ _ _⟩
theorem tX{H X:AHeap}(h:∃M,X=H++M)(L:AHeap):∃M,X++L=H++M:=by
 obtain⟨M,rfl⟩:=h;exact⟨M++L,List.append_assoc ..⟩
theorem aQ5(b1 b2:Bool)(g:Lg)(o:Opn)(hs:OpS o)(hes:bEn g.entries)(h2:g.nodes.length≤1000000)(h1:g.entries.length≤1000000)(H:AHeap):cN Tryz.prog 101 [lgF b1 b2 g,opA o] H (aQ4 (fB g o) (xE g o)):=by
 have hok:=aGa o hs
 have hsm:=aJO b1 b2 g (by omega) (by omega)
 have hha:=bBY b1 b2 g o.at_
 refine aQ Tryz.func101 rfl (Nat.le_of_ble_eq_true rfl) ?_
 simp only[opA,lgA,lgF,stA,aQ4]at hok hsm hha ⊢
 cases ho:opOk o with
 |false=>
  rw[fB,if_pos ho,xE,if_pos ho]
  have ct0:=ct hok eF;have ct1:=ct hsm lO;repeat' first|((first|refine gK ?_|refine mx [7] cL ?_|refine gS ?_);simp only[go_sem,ho])|refine gA ?_|(refine gD (fun h=>?_) (fun h=>?_)<;>try exact aB h)|fail
  exact done (by simp only[go_sem]) (.refl _)
 |true=>
  cases hh:lH g.entries o.at_ with
  |true=>
   rw[fB,if_neg (by rw[ho];decide),if_pos hh,xE,if_neg (by rw[ho];decide),if_pos hh]
   have ct0:=ct hok eF;have ct1:=ct hsm lO;have ct2:=ct hha oP;repeat' first|((first|refine gK ?_|refine mx [7] cL ?_|refine gS ?_);simp only[go_sem,ho,hh])|refine gA ?_|(refine gD (fun h=>?_) (fun h=>?_)<;>try exact aB h)|fail
   exact done (by simp only[go_sem]) (.refl _)
  |false=>
   by_cases hm:(200:Int)≤(g.entries.length:Int)
   ·rw[fB,if_neg (by rw[ho];decide),if_neg (by rw[hh];decide),if_pos hm,xE,if_neg (by rw[ho];decide),if_neg (by rw[hh];decide),if_pos hm]
    have ct0:=ct hok eF;have ct1:=ct hsm lO;have ct2:=ct hha oP;repeat' first|((first|refine gK ?_|refine mx [7] cL ?_|refine gS ?_);simp only[go_sem,ho,hh,hm])|refine gA ?_|(refine gD (fun h=>?_) (fun h=>?_)<;>try exact aB h)|fail
    exact done (by simp only[go_sem]) (.refl _)
   ·rw[fB,if_neg (by rw[ho];decide),if_neg (by rw[hh];decide),if_neg hm,xE,if_neg (by rw[ho];decide),if_neg (by rw[hh];decide),if_neg hm]
    have ct0:=ct hok eF;have ct1:=ct hsm lO;have ct2:=ct hha oP;repeat' first|((first|refine gK ?_|refine mx [7] cL ?_|refine gS ?_);simp only[go_sem,ho,hh,hm])|refine gA ?_|(refine gD (fun h=>?_) (fun h=>?_)<;>try exact aB h)|fail
    have hbk:=fun l e u hl=>aQ1 false l e u hl
    simp only[opA,unA]at hbk
    refine aIu (H.length+3) [.sl false (g.nodes.map ndA)] (v:=0) (cs:=[.sl b2 (g.nodes.map ndA)]) (by simp only[go_sem]) rfl (rJ (.sl _ _) aAG) ?_
    simp only[go_sem]
    refine hQ (ι:=Nat×List Nd×AHeap)
     (fun x=>[(2,.ref H.length 0 0),(3,.ref (H.length+1) 0 0),(4,.ref (H.length+2) 0 0),(6,.ref (H.length+3) 0 0),(7,.int .i64 ((g.entries.length-x.1:Nat):Int))])
     (fun x=>H++([.cells 0 [.sl b1 (g.entries.map fR),.sl b2 (g.nodes.map ndA)],.cells 0 (lX o),.cells 0 [.sl true [],.sl true []],.cells 0 [.sl false (x.2.1.map ndA)]]++x.2.2))
     (fun x=>x.1≤g.entries.length∧x.2.1.length≤g.nodes.length+x.1∧dT o.at_ g.entries.reverse g.nodes=(x.1,x.2.1)) ?_ ?_
    ·refine aR (ι:=Nat×List Nd×AHeap)
      (fun x=>[(2,.ref H.length 0 0),(3,.ref (H.length+1) 0 0),(4,.ref (H.length+2) 0 0),(6,.ref (H.length+3) 0 0),(7,.int .i64 ((g.entries.length-x.1:Nat):Int)),(41,.int .i64 g.entries.length),(42,.int .i64 x.1)])
      (fun x=>H++([.cells 0 [.sl b1 (g.entries.map fR),.sl b2 (g.nodes.map ndA)],.cells 0 (lX o),.cells 0 [.sl true [],.sl true []],.cells 0 [.sl false (x.2.1.map ndA)]]++x.2.2))
      (fun x=>x.1≤g.entries.length∧x.2.1.length≤g.nodes.length+x.1∧dT o.at_ g.entries.reverse g.nodes=(x.1+(dT o.at_ (g.entries.reverse.drop x.1) x.2.1).1,(dT o.at_ (g.entries.reverse.drop x.1) x.2.1).2)) (fun x=>g.entries.length-x.1) (0,g.nodes,[]) ⟨Nat.zero_le _,Nat.le_refl _,by simp⟩ ?_ (by simp[lX]) ?_
     ·simp[go_sem]
     ·rintro⟨i,n,L⟩ ⟨hi,hn,he⟩
      simp only[lX]at hi hn he ⊢
      generalize hG:H++([ABlk.cells 0 [AV.sl b1 (g.entries.map fR),.sl b2 (g.nodes.map ndA)],.cells 0 [.int .i64 o.at_.c,.int .i64 o.at_.r,.int .i64 o.kind,.int .i64 o.node,.int .i64 o.parent,.str o.name,.str o.data],.cells 0 [.sl true [],.sl true []],.cells 0 [.sl false (n.map ndA)]]++L)=G
      have hlG:H.length+3<G.length:=by rw[←hG];simp
      have q0:hget G H.length=.cells 0 [AV.sl b1 (g.entries.map fR),.sl b2 (g.nodes.map ndA)]:=by rw[←hG];simp only[go_sem]
      have q1:hget G (H.length+1)=.cells 0 [.int .i64 o.at_.c,.int .i64 o.at_.r,.int .i64 o.kind,.int .i64 o.node,.int .i64 o.parent,.str o.name,.str o.data]:=by rw[←hG];simp only[go_sem]
      have q3:hget G (H.length+3)=.cells 0 [.sl false (n.map ndA)]:=by rw[←hG];simp only[go_sem]
      have q0':=fun M=>aK q0 trivial M
      have q1':=fun M=>aK q1 trivial M
      have q3':=fun M=>aK q3 trivial M
      have qs:=fun M b=>cG hlG M b
      have qn:∀b,aD G (H.length+3) b=H++([ABlk.cells 0 [AV.sl b1 (g.entries.map fR),.sl b2 (g.nodes.map ndA)],.cells 0 [.int .i64 o.at_.c,.int .i64 o.at_.r,.int .i64 o.kind,.int .i64 o.node,.int .i64 o.parent,.str o.name,.str o.data],.cells 0 [.sl true [],.sl true []],b]++L):=fun b=>by rw[←hG];simp only[go_sem]
      by_cases hlt:i<g.entries.length
      ·have hix:g.entries.length-1-i<g.entries.length:=by omega
       have hp:=bF fR hix
       have e1:IntKind.i64.wrap (IntKind.i64.wrap ((g.entries.length:Int)-1)-(i:Int))=((g.entries.length-1-i:Nat):Int):=by
        rw[wrap_i64 (n:=(g.entries.length:Int)-1) (by omega) (by omega),wrap_i64 (by omega) (by omega)];omega
       have hdr:g.entries.reverse.drop i=g.entries[g.entries.length-1-i]::g.entries.reverse.drop (i+1):=by
        rw[List.drop_eq_getElem_cons (by simpa using hlt)]
        congr 1
        rw[List.getElem_reverse]
       rw[hdr,dT]at he
       repeat' first|((first|refine cK (ct (pJ _ _ _ _) gT) ?_|refine cP (ct (pJ _ _ _ _) gT) ?_|refine cM (ct (pJ _ _ _ _) gT) ?_|refine aV (hbk _ _ _ (by first|assumption|decide|omega|(simp_all;done)|(simp_all;omega)) _) oQ ?_|refine aW (hbk _ _ _ (by first|assumption|decide|omega|(simp_all;done)|(simp_all;omega)) _) oQ ?_|refine aX (fun _=>hbk _ _ _ (by first|assumption|decide|omega|(simp_all;done)|(simp_all;omega)) _) oQ ?_|refine mx [7] cL ?_|refine gS ?_);simp only[go_sem,hp,fR,e1,q0,q1,q3,q0',q1',q3',qs])|refine gA ?_|(refine gD (fun h=>?_) (fun h=>?_)<;>try exact aB h)|fail
       ·have hl0:¬fH o.at_ g.entries[g.entries.length-1-i].op.at_=true:=by
         rw[Bool.not_eq_true];unfold fH;simpa using h
        rw[if_neg hl0]at he
        exact⟨(i,n,L++[_]),⟨hi,hn,by rw[he];rfl⟩,rfl,aL8 hG⟩
       ·have hl0:fH o.at_ g.entries[g.entries.length-1-i].op.at_=true:=by unfold fH;simpa using h
        rw[if_pos hl0]at he
        have hbl:=yG n g.entries[g.entries.length-1-i].op g.entries[g.entries.length-1-i].undo
        refine⟨(i+1,lG n g.entries[g.entries.length-1-i].op g.entries[g.entries.length-1-i].undo,L++[_]),⟨hlt,by simp only;omega,by rw[he];simp only[Prod.mk.injEq,and_true];omega⟩,by simp only;omega,⟨congrArg _ ?_,congrArg _ (bI hlt (by omega))⟩,aL8 (qn _).symm⟩
        simp only
        rw[wrap_i64 (by omega) (by omega)];omega
      ·repeat' first|((first|refine mx [7] cL ?_|refine gS ?_);simp only[go_sem,q0,q1,q3,hlt])|refine gA ?_|(refine gD (fun h=>?_) (fun h=>?_)<;>try exact aB h)|fail
       have hil:i=g.entries.length:=by omega
       have hd0:g.entries.reverse.drop i=[]:=List.drop_of_length_le (by simp;omega)
       rw[hd0]at he
       exact⟨(i,n,L),⟨hi,hn,by rw[he];rfl⟩,rfl,by rw[←hG];simp only[go_sem]⟩
    ·rintro⟨c,n,L⟩ ⟨hc,hn,he⟩
     simp only[lX]at hc hn he ⊢
     rw[he]
     simp only
     generalize hG:H++([ABlk.cells 0 [AV.sl b1 (g.entries.map fR),.sl b2 (g.nodes.map ndA)],.cells 0 [.int .i64 o.at_.c,.int .i64 o.at_.r,.int .i64 o.kind,.int .i64 o.node,.int .i64 o.parent,.str o.name,.str o.data],.cells 0 [.sl true [],.sl true []],.cells 0 [.sl false (n.map ndA)]]++L)=G
     have hlG:H.length+3<G.length:=by rw[←hG];simp
     have hpG:∃M,G=H++M:=⟨_,hG.symm⟩
     have q0:hget G H.length=.cells 0 [AV.sl b1 (g.entries.map fR),.sl b2 (g.nodes.map ndA)]:=by rw[←hG];simp only[go_sem]
     have q1:hget G (H.length+1)=.cells 0 [.int .i64 o.at_.c,.int .i64 o.at_.r,.int .i64 o.kind,.int .i64 o.node,.int .i64 o.parent,.str o.name,.str o.data]:=by rw[←hG];simp only[go_sem]
     have q2:hget G (H.length+2)=.cells 0 [.sl true [],.sl true []]:=by rw[←hG];simp only[go_sem]
     have q3:hget G (H.length+3)=.cells 0 [.sl false (n.map ndA)]:=by rw[←hG];simp only[go_sem]
     have q0':=fun M=>aK q0 trivial M
     have q1':=fun M=>aK q1 trivial M
     have q3':=fun M=>aK q3 trivial M
     have t1:List.take (g.entries.length-c) (List.map fR g.entries)=List.map fR (g.entries.take (g.entries.length-c)):=List.map_take.symm
     have t2:List.drop (g.entries.length-c) (List.map fR g.entries)=List.map fR (g.entries.drop (g.entries.length-c)):=List.map_drop.symm
     have ha1:=aQ2 false (g.entries.take (g.entries.length-c)) n o hs (by omega) (by simp;omega) (G++[.cells 0 [.sl true ((g.entries.take (g.entries.length-c)).map fR)]]) (H.length+3) G.length (by omega) (aK q3 trivial _) (iF _ _)
     simp only[opA]at ha1
     repeat' first|((first|refine mx [7] cL ?_|refine gS ?_);simp only[go_sem,q0,q1,q3,q0',q1',q3',t1,t2])|refine gA ?_|(refine gD (fun h=>?_) (fun h=>?_)<;>try exact aB h)|fail
     refine kH ha1 vB ?_
     rintro x H' ⟨rfl,c0,c1,hH'⟩
     simp only[go_sem]
     have hl1:(G++[ABlk.cells 0 [AV.sl true ((g.entries.take (g.entries.length-c)).map fR)]]).length=G.length+1:=by simp
     have hdl:=aDd n o
     have lt1:(g.entries.take (g.entries.length-c)).length=g.entries.length-c:=by rw[List.length_take];omega
     rw[hl1,lt1]at hH'
     have r0:hget H' H.length=.cells 0 [AV.sl b1 (g.entries.map fR),.sl b2 (g.nodes.map ndA)]:=by
      rw[hH'];exact aK ((bW (by omega) _).trans ((bW (by omega) _).trans (q0' _))) trivial _
     have r2:hget H' (H.length+2)=.cells 0 [.sl true [],.sl true []]:=by
      rw[hH'];exact aK ((bW (by omega) _).trans ((bW (by omega) _).trans (aK q2 trivial _))) trivial _
     have r3:hget H' (H.length+3)=.cells 0 [.sl false ((kX n o).map ndA)]:=by
      rw[hH'];exact aK (b:=.cells 0 [.sl false ((kX n o).map ndA)]) ((bW (by omega) _).trans (fI (by rw[hl1];omega) _)) trivial _
     have rE:hget H' G.length=.cells 0 [.osl 17 (G.length+3) 1 0 (g.entries.length-c+1) (g.entries.length-c+1)]:=by
      rw[hH'];exact aK (b:=.cells 0 [.osl 17 (G.length+3) 1 0 (g.entries.length-c+1) (g.entries.length-c+1)]) (fI (by rw[cH,hl1];omega) _) trivial _
     have rK:hget H' (G.length+3)=.cells 1 (((g.entries.take (g.entries.length-c)++[(⟨o,qL n o⟩:Ent)]).map fR).flatMap AV.cells):=by
      rw[hH'];exact zP (n:=G.length+1) (k:=2) (by rw[cH,cH,hl1])
     have rP:∃M,H'=H++M:=by
      rw[hH'];exact tX (eE (eE (tX hpG _) (by omega) _) (by omega) _) _
     have hGK:H.length+3<G.length:=hlG
     generalize G.length=B at r0 r2 r3 rE rK hGK ⊢
     clear hH' hG hpG q0 q1 q2 q3 q0' q1' q3' ha1 hl1 hlG
     repeat' first|((first|refine mx [7] cL ?_|refine gS ?_);simp only[go_sem,r0,t2,fP])|refine gA ?_|(refine gD (fun h=>?_) (fun h=>?_)<;>try exact aB h)|fail
     clear hok hsm hha hbk he
     refine aR (ι:=Nat×AHeap) (fun x=>[(4,.ref (H.length+2) 0 0),(6,.ref (H.length+3) 0 0),(10,.ref B 0 0),(11,.func (.func 159) [] [.ref (H.length+3) 0 0,.ref B 0 0]),(83,.sl b1 ((g.entries.drop (g.entries.length-c)).map fR)),(84,.int .i64 ((g.entries.drop (g.entries.length-c)).length:Int)),(85,.int .i64 x.1)])
      (fun x=>x.2)
      (fun x=>x.1≤(g.entries.drop (g.entries.length-c)).length∧hget x.2 (H.length+2)=.cells 0 [.sl true [],.sl true []]∧
       hget x.2 (H.length+3)=.cells 0 [.sl false ((dP (o::((g.entries.drop (g.entries.length-c)).take x.1).map Ent.op) (g.entries.take (g.entries.length-c)) n).2.map ndA)]∧
       hget x.2 B=.cells 0 [.osl 17 (B+3) (x.1+1) 0 (dP (o::((g.entries.drop (g.entries.length-c)).take x.1).map Ent.op) (g.entries.take (g.entries.length-c)) n).1.length (dP (o::((g.entries.drop (g.entries.length-c)).take x.1).map Ent.op) (g.entries.take (g.entries.length-c)) n).1.length]∧
       hget x.2 (B+3)=.cells (x.1+1) (((dP (o::((g.entries.drop (g.entries.length-c)).take x.1).map Ent.op) (g.entries.take (g.entries.length-c)) n).1.map fR).flatMap AV.cells)∧∃M,x.2=H++M) (fun x=>(g.entries.drop (g.entries.length-c)).length-x.1) (0,H')
      ⟨Nat.zero_le _,r2,by simpa[dP]using r3,by simpa[dP,lt1]using rE,by simpa[dP]using rK,rP⟩ ?_ rfl ?_
     ·simp[go_sem]
     ·rintro⟨m,X⟩ ⟨hm1,s2,s3,sE,sK,sP⟩
      simp only at hm1 s2 s3 sE sK sP ⊢
      have hrl:=aAV (o::((g.entries.drop (g.entries.length-c)).take m).map Ent.op) (g.entries.take (g.entries.length-c)) n
      have hdl2:(g.entries.drop (g.entries.length-c)).length≤g.entries.length:=by rw[List.length_drop];omega
      have htl:((o::((g.entries.drop (g.entries.length-c)).take m).map Ent.op)).length=m+1:=by simp;rw[List.length_drop]at hm1;omega
      rw[htl,lt1]at hrl
      by_cases hlt:m<(g.entries.drop (g.entries.length-c)).length
      ·have hp:=bF fR hlt
       have hmem:(g.entries.drop (g.entries.length-c))[m]∈g.entries:=List.mem_of_mem_drop (List.getElem_mem hlt)
       have hops:=hes _ hmem
       have hsn:=yH (o::((g.entries.drop (g.entries.length-c)).take m).map Ent.op) (g.entries.drop (g.entries.length-c))[m].op (g.entries.take (g.entries.length-c)) n
       have htk:(o::((g.entries.drop (g.entries.length-c)).take m).map Ent.op)++[(g.entries.drop (g.entries.length-c))[m].op]=o::((g.entries.drop (g.entries.length-c)).take (m+1)).map Ent.op:=by
        rw[List.take_succ_eq_append_getElem hlt,List.map_append];rfl
       rw[htk]at hsn
       generalize hR:dP (o::((g.entries.drop (g.entries.length-c)).take m).map Ent.op) (g.entries.take (g.entries.length-c)) n=R at s3 sE sK hrl hsn
       have hX:H.length+3<X.length:=bP s3 trivial
       have hB:B<X.length:=bP sE trivial
       have hK:B+3<X.length:=bP sK trivial
       have s3':=fun M=>aK s3 trivial M
       have sE':=fun M=>aK sE trivial M
       have ha2:=fun E=>aQ3 false R.1 R.2 (g.entries.drop (g.entries.length-c))[m].op hops (by omega) (by omega) (X++[E]) (H.length+3) B (B+3) (m+1) (by omega) (by omega) (by omega) (by omega) (s3' _) (sE' _) (aK sK trivial _)
       simp only[opA]at ha2
       have hltI:decide ((m:Int)<((g.entries.drop (g.entries.length-c)).length:Int))=true:=decide_eq_true (by omega)
       repeat' first|((first|refine mx [7] cL ?_|refine gS ?_);simp only[go_sem,hp,fR,s3',sE',hltI])|refine gA ?_|(refine gD (fun h=>?_) (fun h=>?_)<;>try exact aB h)|fail
       refine kH (ha2 _) vB ?_
       rintro x H2 ⟨rfl,d0,d1,hH2⟩
       simp only[go_sem]
       repeat' first|((first|refine mx [7] cL ?_|refine gS ?_);simp only[go_sem])|refine gA ?_|(refine gD (fun h=>?_) (fun h=>?_)<;>try exact aB h)|fail
       have hl2:(X++[ABlk.cells 0 (fR (g.entries.drop (g.entries.length-c))[m]).cells]).length=X.length+1:=by simp
       refine⟨(m+1,H2),⟨hlt,?_,?_,?_,?_,?_⟩,by simp only;omega,congrArg _ (bI hlt (by omega)),rfl⟩
       ·simp only
        rw[hH2]
        exact aK ((bW (by omega) _).trans ((bW (by omega) _).trans ((bW (by omega) _).trans (aK s2 trivial _)))) trivial _
       ·simp only
        rw[hH2,hsn]
        refine aK (b:=.cells 0 [.sl false ((kX R.2 (g.entries.drop (g.entries.length-c))[m].op).map ndA)]) ((bW (by omega) _).trans ((bW (by omega) _).trans (fI ?_ _))) trivial _
        rw[List.length_append];omega
       ·simp only
        rw[hH2,hsn]
        have hb:=fI (H:=aD (aD (X++[ABlk.cells 0 (fR (g.entries.drop (g.entries.length-c))[m]).cells]) (H.length+3) (.cells 0 [.sl false ((kX R.2 (g.entries.drop (g.entries.length-c))[m].op).map ndA)])) (B+3) (.cells (m+1+1) (((R.1++[(⟨(g.entries.drop (g.entries.length-c))[m].op,qL R.2 (g.entries.drop (g.entries.length-c))[m].op⟩:Ent)]).map fR).flatMap AV.cells))) (i:=B) (by rw[cH,cH,hl2];omega) (.cells 0 [.osl 17 (B+3) (m+1+1) 0 (R.1.length+1) (R.1.length+1)])
        refine(aK hb trivial _).trans ?_
        rw[List.length_append];rfl
       ·simp only
        rw[hH2,hsn]
        refine aK (b:=.cells (m+1+1) (((R.1++[(⟨(g.entries.drop (g.entries.length-c))[m].op,qL R.2 (g.entries.drop (g.entries.length-c))[m].op⟩:Ent)]).map fR).flatMap AV.cells)) ((bW (by omega) _).trans (fI ?_ _)) trivial _
        rw[cH,List.length_append];omega
       ·simp only
        rw[hH2]
        exact tX (eE (eE (eE (tX sP _) (by omega) _) (by omega) _) (by omega) _) _
      ·have hme:m=(g.entries.drop (g.entries.length-c)).length:=by omega
       subst hme
       rw[List.take_length]at s3 sE sK hrl
       have hltI:decide (((g.entries.drop (g.entries.length-c)).length:Int)<((g.entries.drop (g.entries.length-c)).length:Int))=false:=by simp
       obtain⟨M,hM⟩:=sP
       have h2M:H.length+2<X.length:=bP s2 trivial
       have sK':=sK
       generalize hV:(dP (o::(g.entries.drop (g.entries.length-c)).map Ent.op) (g.entries.take (g.entries.length-c)) n)=R at s3 sE sK hrl ⊢
       have sS:∀b,hget (aD X (H.length+2) b) (H.length+2)=b:=fun b=>fI h2M b
       repeat' first|((first|refine mx [7] cL ?_|refine gS ?_);simp only[go_sem,s2,s3,sE,hltI,sS])|refine gA ?_|(refine gD (fun h=>?_) (fun h=>?_)<;>try exact aB h)|fail
       obtain⟨M2,hM2⟩:=eE ⟨M,hM⟩ (i:=H.length+2) (by omega) (.cells 0 [.osl 17 (B+3) ((g.entries.drop (g.entries.length-c)).length+1) 0 R.1.length R.1.length,.sl false (R.2.map ndA)])
       refine⟨M2,_,hM2,?_,rfl⟩
       refine .tup _ _ rfl (nL (.agg _ _ rfl (nL ?_ (nL (.cl _ (Pur.cl (by simp only[go_sem]) _)) aA0))) (nL (.cl _ (.int _ _)) aA0))
       exact zF (es:=R.1.map fR) (rest:=[]) (by omega) ((bW (by omega) _).trans sK) (List.append_nil _).symm (by rw[List.length_map]) (fX _) (nX _)
end Go.Proofs.YthhdnjiodklmmaaGreatDoor
/- Sorting that keeps the order of what is alike: lists, with no program in sight. No condition. -/
namespace Go.Srt
section
variable {α:Type} (lt:α→α→Bool)
structure SWO:Prop where
 irr:∀a,lt a a=false
 ntr:∀a b c,lt a b=false→lt b c=false→lt a c=false
 asy:∀a b,lt a b=true→lt b a=false
def eqv(k x:α):Bool:= !lt k x&& !lt x k
theorem aGq{k x:α}:eqv lt k x=true↔lt k x=false∧lt x k=false:=by simp[eqv]
def Sd(l:List α):Prop:=l.Pairwise (fun a b=>lt b a=false)
def Fs(xs ys:List α):Prop:=ys.length=xs.length∧∀k,ys.filter (eqv lt k)=xs.filter (eqv lt k)
variable {lt}
theorem Fs.refl(xs:List α):Fs lt xs xs:=⟨rfl,fun _=>rfl⟩
theorem Fs.trans{a b c:List α}(h:Fs lt a b)(k:Fs lt b c):Fs lt a c:=⟨k.1.trans h.1,fun x=>(k.2 x).trans (h.2 x)⟩
theorem Fs.app{a b c d:List α}(h:Fs lt a b)(k:Fs lt c d):Fs lt (a++c) (b++d):=
 ⟨by rw[List.length_append,List.length_append,h.1,k.1],fun x=>by rw[List.filter_append,List.filter_append,h.2,k.2]⟩
theorem Fs.mem{a b:List α}(hw:SWO lt)(h:Fs lt a b)(x:α):x∈b↔x∈a:=by
 have e:eqv lt x x=true:=aGq lt|>.2 ⟨hw.irr x,hw.irr x⟩
 have:=h.2 x
 have m1:x∈b.filter (eqv lt x)↔x∈b:=by rw[List.mem_filter];simp[e]
 have m2:x∈a.filter (eqv lt x)↔x∈a:=by rw[List.mem_filter];simp[e]
 rw[←m1,←m2,this]
theorem Fs.swap(hw:SWO lt){A B:List α}(h:∀a∈A,∀b∈B,lt b a=true):Fs lt (A++B) (B++A):=by
 refine⟨by rw[List.length_append,List.length_append,Nat.add_comm],fun k=>?_⟩
 rw[List.filter_append,List.filter_append]
 by_cases hA:A.filter (eqv lt k)=[]
 ·rw[hA,List.append_nil,List.nil_append]
 ·obtain⟨a,ha⟩:=List.exists_mem_of_ne_nil _ hA
  rw[List.mem_filter]at ha
  have hB:B.filter (eqv lt k)=[]:=by
   rw[List.filter_eq_nil_iff]
   intro b hb e
   have e1:=(aGq lt).1 e
   have e2:=(aGq lt).1 ha.2
   have:=hw.ntr b k a e1.2 e2.1
   rw[h a ha.1 b hb]at this;cases this
  rw[hB,List.append_nil,List.nil_append]
theorem Sd.app{a b:List α}(ha:Sd lt a)(hb:Sd lt b)(h:∀x∈a,∀y∈b,lt y x=false):Sd lt (a++b):=List.pairwise_append.2 ⟨ha,hb,h⟩
theorem Sd.left{a b:List α}(h:Sd lt (a++b)):Sd lt a:=(List.pairwise_append.1 h).1
theorem Sd.right{a b:List α}(h:Sd lt (a++b)):Sd lt b:=(List.pairwise_append.1 h).2.1
theorem Sd.nil:Sd lt ([]:List α):=List.Pairwise.nil
theorem Sd.one(x:α):Sd lt [x]:=List.pairwise_singleton _ _
theorem Sd.get{l:List α}(h:Sd lt l){i j:Nat}(hij:i<j)(hj:j<l.length):lt l[j] (l[i]'(by omega))=false:=List.pairwise_iff_getElem.1 h i j (by omega) hj hij
end
end Go.Srt
/- Sorting of operations in memory: elements, ranges, insertion. No condition. -/
namespace Go.Gw
set_option linter.unusedSimpArgs false
open Go Go.Aw Go.Proofs.YthhdnjiodklmmaaGreatDoor
def fl(D:List Opn):List AV:=(D.map opA).flatMap AV.cells
end Go.Gw
namespace Go.Aw
set_option linter.unusedSimpArgs false
open Go Go.Gw Go.Proofs.YthhdnjiodklmmaaGreatDoor
theorem fJ(H:AHeap)(i:Nat)(b b':ABlk):aD (aD H i b) i b'=aD H i b':=by simp[aD]
theorem hS{H:AHeap}{i:Nat}{b:ABlk}(h:hget H i=b)(hb:b.live)(b':ABlk):hget (aD H i b') i=b':=fI (bP h hb) b'
theorem kM{H:AHeap}{i:Nat}{b:ABlk}(h:hget H i=b)(hb:b.live):aD H i b=H:=aDM (cZ h hb)
where
 pur_opm (l:List Opn):∀e∈l.map opA,Pur e:=fun e he=>by
  obtain⟨x,_,rfl⟩:=List.mem_map.1 he;exact(by simp only[go_sem])
theorem zS{H:AHeap}{i n:Nat}{b:ABlk}(hb:ClB n b):∀(j:Nat) (c:ABlk),(aD H i b)[j]?=some c→H[j]?=some c∨ClB n c:=by
 intro j c hj
 by_cases e:i=j
 ·subst e
  unfold aD at hj
  by_cases hl:i<H.length
  ·rw[List.getElem?_set_self hl]at hj;cases hj;exact .inr hb
  ·rw[List.getElem?_eq_none (by rw[List.length_set];omega)]at hj;cases hj
 ·unfold aD at hj
  rw[List.getElem?_set_ne e]at hj;exact .inl hj
theorem fY{H:AHeap}{i:Nat}{b:ABlk}(hb:ClB H.length b)(R:AV→AHeap→Prop)(hR:R (.tup []) (aD H i b)):
  ∃H1 L y,aD H i b=H1++L∧H1.length=H.length∧(∀(j:Nat) (c:ABlk),H1[j]?=some c→H[j]?=some c∨ClB H.length c)∧Frz H.length (aD H i b) (.tup []) y∧R y H1:=by
 exact⟨aD H i b,[],.tup [],(List.append_nil _).symm,cH H i b,zS hb,.cl _ (Pur.cl (.tup _ (fun _ h=>by cases h)) _),hR⟩
theorem aH{n:Nat}{m:Int}(h:(n:Int)=m)(hn:n≤9223372036854775807):IntKind.i64.wrap m=(n:Int):=by subst h;exact wrap_i64 (by omega) (by omega)
theorem zT{P:Program}{N:Nat}{x y:Code}{Q:bL}{α:AF}{H:AHeap}{ι:Type}(F:ι→AF)(Hp:ι→AHeap)(pre:ι→Prop)(h1:aw P N x (aCt F Hp pre Q) α H)(h2:∀i,pre i→aw P N y Q (F i) (Hp i)):aw P N x (uG P N y Q) α H:=by
 refine tO h1 fun e α' H' h=>?_
 cases e with
 |normal=>
  obtain⟨i,hp,hs,rfl⟩:=h
  exact nE (h2 i hp) (iG hs)
 |_=>exact h
end Go.Aw
namespace Go.Proofs.YthhdnjiodklmmaaGreatDoor
open Go Go.Aw Go.Gw Go.Srt
set_option linter.unusedSimpArgs false
set_option maxRecDepth 20000
set_option maxHeartbeats 2000000
set_option maxHeartbeats 4000000
end Go.Proofs.YthhdnjiodklmmaaGreatDoor
/- strings.Split at a separator of one byte. No condition but the length of what comes in. -/
namespace Go.Gw
open Go Go.Aw Go.Proofs.YthhdnjiodklmmaaGreatDoor
def cW(b:UInt8):List UInt8→List (List UInt8)
 |[]=>[[]]
 |c::l=>match cW b l with
  |[]=>[[]]
  |h::t=>if c=b then[]::h::t else(c::h)::t
theorem yI(b:UInt8)(l:List UInt8):cW b l≠[]:=by
 cases l with
 |nil=>simp[cW]
 |cons c l=>rw[cW];split;simp;split<;>simp
theorem vT{b:UInt8}{l:List UInt8}(h:Lib.indexByte l b<0):cW b l=[l]∧Lib.countByte l b=0:=by
 induction l with
 |nil=>exact⟨rfl,rfl⟩
 |cons c l ih=>
  rw[Lib.indexByte]at h
  split at h
  ·omega
  ·rename_i h1
   have h2:Lib.indexByte l b<0:=by
    have:=Lib.indexByte_ge l b
    split at h
    ·rename_i h3;have:Lib.indexByte l b= -1:=by simpa using h3
     omega
    ·omega
   obtain⟨e1,e2⟩:=ih h2
   have h3:¬c=b:=by simpa using h1
   refine⟨by rw[cW,e1];simp[h3],?_⟩
   unfold Lib.countByte at e2 ⊢
   rw[List.count_cons,e2];simp[h3]
theorem vU{b:UInt8}{l:List UInt8}{k:Nat}(h:Lib.indexByte l b=k):k<l.length∧cW b l=l.take k::cW b (l.drop (k+1))∧Lib.countByte l b=Lib.countByte (l.drop (k+1)) b+1:=by
 induction l generalizing k with
 |nil=>rw[Lib.indexByte]at h;omega
 |cons c l ih=>
  rw[Lib.indexByte]at h
  split at h
  ·rename_i h1
   have h1:c=b:=by simpa using h1
   have hk:k=0:=by omega
   subst hk
   subst h1
   refine⟨by simp,?_,?_⟩
   ·rw[cW]
    cases hs:cW c l with
    |nil=>exact absurd hs (yI c l)
    |cons x t=>simp[hs]
   ·unfold Lib.countByte;simp
  ·rename_i h1
   have h3:¬c=b:=by simpa using h1
   split at h
   ·omega
   ·obtain⟨j,rfl⟩:∃j,k=j+1:=⟨k-1,by
     rename_i h4
     have:=Lib.indexByte_ge l b
     have h5:¬Lib.indexByte l b= -1:=by simpa using h4
     omega⟩
    obtain⟨a1,a2,a3⟩:=ih (k:=j) (by omega)
    refine⟨by simpa using a1,?_,?_⟩
    ·rw[cW,a2];simp[h3]
    ·unfold Lib.countByte at a3 ⊢
     rw[List.count_cons,a3];simp[h3]
theorem aCu{b:UInt8}{l:List UInt8}(h:Lib.countByte l b=0):cW b l=[l]:=by
 rcases Int.lt_or_le (Lib.indexByte l b) 0 with h1|h1
 ·exact(vT h1).1
 ·have:=(vU (b:=b) (l:=l) (k:=(Lib.indexByte l b).toNat) (by omega)).2.2
  omega
theorem aEh{b:UInt8}{l:List UInt8}(h:0<Lib.countByte l b):∃k:Nat,Lib.indexByte l b=k:=by
 rcases Int.lt_or_le (Lib.indexByte l b) 0 with h1|h1
 ·have:=(vT h1).2;omega
 ·exact⟨(Lib.indexByte l b).toNat,by omega⟩
theorem vV(A B:List AV)(y x:AV){n:Nat}(h:A.length=n):cT (A++y::B) (n * 1) [x]=A++x::B:=by
 subst h
 rw[Nat.mul_one]
 simp[cT]
end Go.Gw
namespace Go.Proofs.YthhdnjiodklmmaaGreatDoor
open Go Go.Aw Go.Gw
set_option linter.unusedSimpArgs false
set_option maxRecDepth 20000
set_option maxHeartbeats 2000000
theorem aGr(s:List UInt8)(b:UInt8)(hs:s.length≤1048576)(H:AHeap):cN Tryz.prog 203 [.str s,.str [b],.int .i64 0,.int .i64 (-1)] H (.sl false ((cW b s).map AV.str)):=by
 refine aQ Tryz.func203 rfl (Nat.le_of_ble_eq_true rfl) ?_
 have hcle:Lib.countByte s b≤s.length:=List.count_le_length
 have hcnt:=aGf s b
 generalize hm:Lib.countByte s b=m at *
 have w1:IntKind.i64.wrap ((m:Int)+1)=((m+1:Nat):Int):=by rw[wrap_i64 (by omega) (by omega)];rfl
 have w2:IntKind.i64.wrap ((s.length:Int)+1)=((s.length+1:Nat):Int):=by rw[wrap_i64 (by omega) (by omega)];rfl
 have w3:min ((m+1:Nat):Int) ((s.length+1:Nat):Int)=((m+1:Nat):Int):=by omega
 have w4:IntKind.i64.wrap (((m+1:Nat):Int)-1)=(m:Int):=by rw[wrap_i64 (by omega) (by omega)];omega
 have w5:(((m+1:Nat):Int)).toNat=m+1:=Int.toNat_natCast _
 have e0:List.flatMap AV.cells (List.replicate (m+1) (AV.str []))=List.replicate (m+1) (AV.str []):=by
  rw[List.flatMap_replicate];simp[AV.cells]
 have hc1:∀l:List (List UInt8),(l.map AV.str).flatMap AV.cells=l.map AV.str:=fun l=>by
  rw[List.flatMap_map];induction l with|nil=>rfl|cons x l ih=>rw[List.flatMap_cons,List.map_cons,ih];rfl
 have ct0:=ct hcnt aCf;repeat' first|((first|refine gK ?_|refine gS ?_);simp only[go_sem,w1,w2,w3,w4,w5,e0])|refine gA ?_|(refine gD (fun h=>?_) (fun h=>?_)<;>try exact aB h)|fail
 refine aR (ι:=Nat×List (List UInt8)×List UInt8) (fun x=>[(0,.str x.2.2),(1,.str [b]),(2,.int .i64 0),(3,.int .i64 m),(9,.osl 1 H.length 1 0 (m+1) (m+1)),(10,.int .i64 x.1)])
  (fun x=>H++[.cells 1 (x.2.1.map AV.str++List.replicate (m+1-x.1) (.str []))])
  (fun x=>x.1≤m∧x.2.1.length=x.1∧cW b s=x.2.1++cW b x.2.2∧Lib.countByte x.2.2 b+x.1=m∧x.2.2.length≤s.length) (fun x=>m-x.1) (0,[],s) ⟨Nat.zero_le _,rfl,rfl,hm,Nat.le_refl _⟩ ?_ (by simp) ?_
 ·simp[go_sem]
 ·rintro⟨i,pre,r⟩ ⟨hi,hl,hsp,hct,hrl⟩
  simp only at hi hl hsp hct hrl ⊢
  by_cases hlt:i<m
  ·obtain⟨k,hk⟩:=aEh (b:=b) (l:=r) (by omega)
   obtain⟨k1,k2,k3⟩:=vU hk
   have hix:=aGg r b
   rw[hk]at hix
   have hli:decide ((i:Int)<(m:Int))=true:=decide_eq_true (by omega)
   have hkn:decide ((k:Int)<0)=false:=decide_eq_false (by omega)
   have x1:IntKind.i64.wrap ((k:Int)+0)=(k:Int):=by rw[wrap_i64 (by omega) (by omega)];omega
   have x2:IntKind.i64.wrap ((k:Int)+1)=((k+1:Nat):Int):=by rw[wrap_i64 (by omega) (by omega)];rfl
   have ct0:=ct hix aCg;repeat' first|((first|refine gK ?_|refine gS ?_);simp only[go_sem,hli,hkn,x1,x2])|refine gA ?_|(refine gD (fun h=>?_) (fun h=>?_)<;>try exact aB h)|fail
   have x3:(IntKind.i64.wrap ((k:Int)+((1:Nat):Int))).toNat=k+1:=by rw[wrap_i64 (by omega) (by omega)];omega
   refine⟨(i+1,pre++[r.take k],r.drop (k+1)),⟨hlt,by simp[hl],by rw[hsp,k2];simp,by simp only;omega,by simp only[List.length_drop];omega⟩,by simp only;omega,⟨by rw[x3],congrArg _ (bI hlt (by omega))⟩,?_⟩
   have e1:m+1-i=(m-i)+1:=by omega
   have e2:m+1-(i+1)=m-i:=by omega
   simp only[e1,e2,List.replicate_succ]
   rw[vV _ _ _ _ (by rw[List.length_map];exact hl)]
   simp
  ·have hie:i=m:=by omega
   subst hie
   have hli:decide ((i:Int)<(i:Int))=false:=by simp
   repeat' first|(refine gS ?_;simp only[go_sem,hli])|refine gA ?_|(refine gD (fun h=>?_) (fun h=>?_)<;>try exact aB h)|fail
   have e1:i+1-i=1:=by omega
   have e3:(IntKind.i64.wrap ((i:Int)+1)).toNat=i+1:=by rw[wrap_i64 (by omega) (by omega)];omega
   have e4:cW b s=pre++[r]:=by rw[hsp,aCu (b:=b) (l:=r) (by omega)]
   simp only[e1,e3,List.replicate_succ,List.replicate_zero]
   rw[vV _ _ _ _ (by rw[List.length_map];exact hl)]
   have e5:pre.map AV.str++[AV.str r]=(cW b s).map AV.str:=by rw[e4];simp
   rw[e5]
   exact iU (cs:=(cW b s).map AV.str) (es:=(cW b s).map AV.str) (rest:=[]) (by omega) (by simp only[go_sem]) (by rw[hc1,List.append_nil]) (by rw[List.length_map,e4];simp[hl]) (fun e he=>by obtain⟨x,_,rfl⟩:=List.mem_map.1 he;rfl) (fun e he=>by obtain⟨x,_,rfl⟩:=List.mem_map.1 he;exact(by simp only[go_sem])) rfl
end Go.Proofs.YthhdnjiodklmmaaGreatDoor
/- Paths: name.fit and name.Split. No condition but the length of what comes in. -/
namespace Go.Gw
open Go Go.Aw Go.Proofs.YthhdnjiodklmmaaGreatDoor
theorem aEi{b:UInt8}{l:List UInt8}:∀x∈cW b l,x.length≤l.length:=by
 induction l with
 |nil=>intro x hx;simp[cW]at hx;simp[hx]
 |cons c l ih=>
  intro x hx
  rw[cW]at hx
  cases hs:cW b l with
  |nil=>exact absurd hs (yI b l)
  |cons y t=>
   rw[hs]at ih
   simp only[hs]at hx
   rw[List.length_cons]
   by_cases h:c=b
   ·rw[if_pos h]at hx
    rcases List.mem_cons.1 hx with q|q
    ·rw[q];simp
    ·have:=ih x q;omega
   ·rw[if_neg h]at hx
    rcases List.mem_cons.1 hx with q|q
    ·have:=ih y (by simp);rw[q,List.length_cons];omega
    ·have:=ih x (by simp[q]);omega
def aA1(l:List Txt):Bool:=decide ((l.length:Int)≤16)&&l.all jX
def fZ(p:Txt):Option (List Txt):=
 if p=[47]then some []else match p with
 |[]=>none
 |c::l=>if c=47 then(if aA1 (cW 47 l)=true then some (cW 47 l)else none)else none
end Go.Gw
namespace Go.Proofs.YthhdnjiodklmmaaGreatDoor
open Go Go.Aw Go.Gw
set_option linter.unusedSimpArgs false
set_option maxRecDepth 20000
set_option maxHeartbeats 2000000
theorem aGs(s:List UInt8)(b:UInt8)(hs:s.length≤1048576)(H:AHeap):cN Tryz.prog 171 [.str s,.str [b]] H (.sl false ((cW b s).map AV.str)):=by
 refine aQ Tryz.func171 rfl (Nat.le_of_ble_eq_true rfl) ?_
 have hg:=aGr s b hs
 have ct0:=ct hg aB6;repeat' first|((first|refine gK ?_|refine gS ?_);simp only[go_sem])|refine gA ?_|(refine gD (fun h=>?_) (fun h=>?_)<;>try exact aB h)|fail
 exact aT (by simp only[go_sem]) (.refl _)
theorem bB2(f:Bool)(l:List Txt)(hl:∀x∈l,x.length≤1048576)(H:AHeap):cN Tryz.prog 172 [.sl f (l.map AV.str)] H (.bool (aA1 l)):=by
 refine aQ Tryz.func172 rfl (Nat.le_of_ble_eq_true rfl) ?_
 by_cases h16:(l.length:Int)≤16
 ·have hd:decide ((16:Int)<(l.length:Int))=false:=decide_eq_false (by omega)
  have hF:aA1 l=l.all jX:=by rw[aA1,decide_eq_true h16,Bool.true_and]
  rw[hF]
  repeat' first|(refine gS ?_;simp only[go_sem,hd])|refine gA ?_|(refine gD (fun h=>?_) (fun h=>?_)<;>try exact aB h)|fail
  refine aR (ι:=Nat) (fun i=>[(8,.sl f (l.map AV.str)),(9,.int .i64 l.length),(10,.int .i64 i)]) (fun _=>H) (fun i=>i≤l.length∧∀x∈l.take i,jX x=true) (fun i=>l.length-i) 0 ⟨Nat.zero_le _,by simp⟩ ?_ rfl ?_
  ·simp[go_sem]
  ·rintro i ⟨hi,hok⟩
   by_cases hlt:i<l.length
   ·have hp:=bF AV.str hlt
    have hli:decide ((i:Int)<(l.length:Int))=true:=decide_eq_true (by omega)
    have hn:=qK l[i] (by have:=hl _ (List.getElem_mem hlt);omega)
    cases hk:jX l[i]with
    |false=>
     rw[hk]at hn
     have hall:l.all jX=false:=by rw[List.all_eq_false];exact⟨l[i],List.getElem_mem hlt,by rw[hk];decide⟩
     rw[hall]
     have ct0:=ct hn jT;repeat' first|((first|refine gK ?_|refine gS ?_);simp only[go_sem,hp,hli])|refine gA ?_|(refine gD (fun h=>?_) (fun h=>?_)<;>try exact aB h)|fail
     exact aT (by simp only[go_sem]) (.refl _)
    |true=>
     rw[hk]at hn
     have ct0:=ct hn jT;repeat' first|((first|refine gK ?_|refine gS ?_);simp only[go_sem,hp,hli])|refine gA ?_|(refine gD (fun h=>?_) (fun h=>?_)<;>try exact aB h)|fail
     refine⟨i+1,⟨hlt,fun x hx=>?_⟩,by omega,congrArg _ (bI hlt (by omega))⟩
     rw[List.take_succ_eq_append_getElem hlt,List.mem_append,List.mem_singleton]at hx
     rcases hx with q|q
     ·exact hok x q
     ·rw[q];exact hk
   ·have hie:i=l.length:=by omega
    subst hie
    have hli:decide ((l.length:Int)<(l.length:Int))=false:=by simp
    have hall:l.all jX=true:=List.all_eq_true.2 (by rwa[List.take_length]at hok)
    rw[hall]
    repeat' first|(refine gS ?_;simp only[go_sem,hli])|refine gA ?_|(refine gD (fun h=>?_) (fun h=>?_)<;>try exact aB h)|fail
    exact aT (by simp only[go_sem]) (.refl _)
 ·have hd:decide ((16:Int)<(l.length:Int))=true:=decide_eq_true (by omega)
  have hF:aA1 l=false:=by rw[aA1,decide_eq_false h16,Bool.false_and]
  rw[hF]
  repeat' first|(refine gS ?_;simp only[go_sem,hd])|refine gA ?_|(refine gD (fun h=>?_) (fun h=>?_)<;>try exact aB h)|fail
  exact aT (by simp only[go_sem]) (.refl _)
def tB(p:Txt):AV:=match fZ p with
 |none=>.tup [.sl true [],.int .i64 10]
 |some l=>.tup [.sl (decide (p=[47])) (l.map AV.str),.int .i64 0]
theorem aCv(p:Txt)(hs:p.length≤1048576)(H:AHeap):cN Tryz.prog 118 [.str p] H (tB p):=by
 refine aQ Tryz.func118 rfl (Nat.le_of_ble_eq_true rfl) ?_
 have hcut:=aQW p 47
 by_cases h1:p=[47]
 ·have hd:decide (p=[47])=true:=decide_eq_true h1
  simp only[tB,fZ,if_pos h1,hd]
  repeat' first|(refine gS ?_;simp only[go_sem,hd])|refine gA ?_|(refine gD (fun h=>?_) (fun h=>?_)<;>try exact aB h)|fail
  exact aT (by simp only[go_sem]) (.refl _)
 ·have hd:decide (p=[47])=false:=decide_eq_false h1
  simp only[tB,fZ,if_neg h1,hd]
  cases p with
  |nil=>
   simp only[xD]at hcut
   have ct0:=ct hcut lR;repeat' first|((first|refine gK ?_|refine gS ?_);simp only[go_sem,hd])|refine gA ?_|(refine gD (fun h=>?_) (fun h=>?_)<;>try exact aB h)|fail
   exact aT (by simp only[go_sem]) (.refl _)
  |cons c l=>
   rw[List.length_cons]at hs
   by_cases h2:c=47
   ·simp only[xD,if_pos h2]at hcut ⊢
    have hsp:=aGs l 47 (by omega)
    have hfi:=bB2 false (cW 47 l) (fun x hx=>by have:=aEi x hx;omega)
    cases hf:aA1 (cW 47 l)with
    |false=>
     rw[hf]at hfi
     have ct0:=ct hcut lR;have ct1:=ct hsp vE;have ct2:=ct hfi vF;repeat' first|((first|refine gK ?_|refine gS ?_);simp only[go_sem,hd])|refine gA ?_|(refine gD (fun h=>?_) (fun h=>?_)<;>try exact aB h)|fail
     exact aT (by simp only[go_sem]) (.refl _)
    |true=>
     rw[hf]at hfi
     have ct0:=ct hcut lR;have ct1:=ct hsp vE;have ct2:=ct hfi vF;repeat' first|((first|refine gK ?_|refine gS ?_);simp only[go_sem,hd])|refine gA ?_|(refine gD (fun h=>?_) (fun h=>?_)<;>try exact aB h)|fail
     exact aT (by simp only[go_sem]) (.refl _)
   ·simp only[xD,if_neg h2]at hcut ⊢
    have ct0:=ct hcut lR;repeat' first|((first|refine gK ?_|refine gS ?_);simp only[go_sem,hd])|refine gA ?_|(refine gD (fun h=>?_) (fun h=>?_)<;>try exact aB h)|fail
    exact aT (by simp only[go_sem]) (.refl _)
end Go.Proofs.YthhdnjiodklmmaaGreatDoor
/- Calls, threads and turns, and what a call does next, in plain Lean. No condition. -/
namespace Go.Gw
open Go Go.Aw Go.Proofs.YthhdnjiodklmmaaGreatDoor
structure Cal where
 kind:Int
 path:Txt
 to:Txt
 data:Txt
 n:Int
deriving DecidableEq,Inhabited
structure Evt where
 kind:Int
 path:Txt
deriving DecidableEq,Inhabited
structure Ans where
 err:Int
 data:Txt
 names:List Txt
 n:Int
 events:List Evt
deriving DecidableEq,Inhabited
structure Thr where
 call:Cal
 has:List Int
 at_:Int
 done:Bool
 ended:Bool
 upto:Int
 begin_:Int
 mark:Int
 end_:Int
 ans:Ans
deriving DecidableEq,Inhabited
structure Trn where
 kind:Int
 lock:Int
deriving DecidableEq,Inhabited
def bEY(s:Txt):AV:=.str s
def gY(c:Cal):AV:=.agg [.int .i64 c.kind,.str c.path,.str c.to,.str c.data,.int .i64 c.n]
def kE(e:Evt):AV:=.agg [.int .i64 e.kind,.str e.path]
def trA(t:Trn):AV:=.agg [.int .i64 t.kind,.int .i64 t.lock]
def thF(h n e:AV)(t:Thr):AV:=.agg [.int .i64 t.call.kind,.str t.call.path,.str t.call.to,.str t.call.data,.int .i64 t.call.n,h,.int .i64 t.at_,.bool t.done,.bool t.ended,.int .i64 t.upto,.int .i64 t.begin_,.int .i64 t.mark,.int .i64 t.end_,
 .int .i64 t.ans.err,.str t.ans.data,n,.int .i64 t.ans.n,e]
def thA(f1 f2 f3:Bool)(t:Thr):AV:=thF (.sl f1 (t.has.map xA)) (.sl f2 (t.ans.names.map AV.str)) (.sl f3 (t.ans.events.map kE)) t
@[go_sem] theorem bEo(x:Cal):Pur (gY x)=True:=by simp only[gY,go_sem]
@[go_sem] theorem bEp(x:Evt):Pur (kE x)=True:=by simp only[kE,go_sem]
@[go_sem] theorem bEq(x:Trn):Pur (trA x)=True:=by simp only[trA,go_sem]
@[go_sem] theorem bEr(f1 f2 f3:Bool)(x:Thr):Pur (thA f1 f2 f3 x)=True:=by simp only[thA,thF,go_sem]
def an0:Ans:=⟨0,[],[],0,[]⟩
theorem aA2{p:Txt}{l:List Txt}(h:fZ p=some l):l.length≤16:=by
 unfold fZ at h
 split at h
 ·cases h;simp
 ·split at h
  ·cases h
  ·split at h
   ·split at h
    ·rename_i hf
     cases h
     simp only[aA1,Bool.and_eq_true,decide_eq_true_eq]at hf
     omega
    ·cases h
   ·cases h
end Go.Gw
/- What comes in with a row of the Plan laws: a call, numbers. No condition. -/
namespace Go.Proofs.YthhdnjiodklmmaaGreatDoor
set_option maxRecDepth 20000
open Go Go.Aw Go.Gw Go.ChangeShapes Go.WideShapes Go.ChangeAt Go.RowKit
theorem bB3:eY Tryz.prog 44=true:=by kernel_rfl
theorem aQ6:kindB Tryz.prog 44=true:=by kernel_rfl
theorem aGt{ys:List AV}(h:Sh Tryz.prog 44 ys):∃o:Cal,ys=(gY o).cells:=by
 obtain⟨y1,ys1,rfl,h1,r1⟩:=mV (aD3 Tryz.underlying44 aQ6 h)
 obtain⟨y2,ys2,rfl,h2,r2⟩:=mV r1
 obtain⟨y3,ys3,rfl,h3,r3⟩:=mV r2
 obtain⟨y4,ys4,rfl,h4,r4⟩:=mV r3
 obtain⟨y5,ys5,rfl,h5,r5⟩:=mV r4
 obtain rfl:=aJH r5
 obtain⟨a,rfl,_⟩:=aCk Tryz.underlying3 h1
 obtain⟨s,rfl,_⟩:=zH Tryz.underlying9 h2
 obtain⟨u,rfl,_⟩:=zH Tryz.underlying9 h3
 obtain⟨v,rfl,_⟩:=zH Tryz.underlying9 h4
 obtain⟨b,rfl,_⟩:=aCk Tryz.underlying3 h5
 exact⟨⟨a,s,u,v,b⟩,rfl⟩
end Go.Proofs.YthhdnjiodklmmaaGreatDoor
/- What comes in with a row of the Model laws: calls, texts. No condition. -/
namespace Go.Proofs.YthhdnjiodklmmaaGreatDoor
set_option maxRecDepth 20000
open Go Go.Aw Go.Gw Go.ChangeShapes Go.WideShapes Go.ChangeAt Go.RowKit
theorem aQ7:eY Tryz.prog 22=false:=by kernel_rfl
theorem aJS:kindB Tryz.prog 22=true:=by kernel_rfl
theorem aQ8:eY Tryz.prog 9=false:=by kernel_rfl
theorem aJT{zs:List (List AV)}(h:∀z∈zs,Sh Tryz.prog 44 z):∃l:List Cal,zs.map (mkA Tryz.prog 44)=l.map gY∧l.length=zs.length:=by
 induction zs with
 |nil=>exact⟨[],rfl,rfl⟩
 |cons z zs ih=>
  obtain⟨p,rfl⟩:=aGt (h z (by simp))
  obtain⟨l,h1,h2⟩:=ih fun z hz=>h z (by simp[hz])
  refine⟨p::l,?_,by simp[h2]⟩
  rw[List.map_cons,List.map_cons,h1,mkA,if_pos bB3];rfl
theorem fV{x:AV}(h:∃ys,x=mkA Tryz.prog 22 ys∧Sh Tryz.prog 22 ys∧(eY Tryz.prog 22=true∨ys.length=1)):∃l:List Cal,x=.sl false (l.map gY)∧l.length≤maxLen:=by
 obtain⟨ys,rfl,h,_⟩:=h
 obtain⟨zs,rfl,hl,hz⟩:=aFY Tryz.underlying22 aJS h
 obtain⟨l,h1,h2⟩:=aJT hz
 refine⟨l,?_,by rw[h2];exact hl⟩
 rw[mkA,if_neg (by rw[aQ7];decide),h1];rfl
theorem vW{x:AV}(h:∃ys,x=mkA Tryz.prog 9 ys∧Sh Tryz.prog 9 ys∧(eY Tryz.prog 9=true∨ys.length=1)):∃n,x=.str n:=by
 obtain⟨ys,rfl,h,_⟩:=h
 obtain⟨s,rfl,_⟩:=zH Tryz.underlying9 h
 exact⟨s,by rw[mkA,if_neg (by rw[aQ8];decide)];rfl⟩
end Go.Proofs.YthhdnjiodklmmaaGreatDoor
/- Names in order, what is seen below a directory, what has changed, events that wait: in plain Lean. No condition. -/
namespace Go.Gw
open Go Go.Aw Go.Proofs.YthhdnjiodklmmaaGreatDoor
def eS:List Int→List Int→Int
 |[],[]=>0
 |[],(_::_)=> -1
 |_::_,[]=>1
 |x::xs,y::ys=>if x<y then-1 else if y<x then 1 else eS xs ys
def cD(s:Txt):List Int:=match lE s with
 |some l=>l
 |none=>s.map fun b=>((b.toNat:Int)+1114112)
def tY(a b:Txt):Bool:=decide (eS (cD a) (cD b)<0)
theorem jZ(a b:List Int):eS a b= -1∨eS a b=0∨eS a b=1:=by
 induction a generalizing b with
 |nil=>cases b<;>simp[eS]
 |cons x a ih=>
  cases b with
  |nil=>simp[eS]
  |cons y b=>
   rw[eS]
   split
   ·simp
   ·split
    ·simp
    ·exact ih b
theorem zU{a b:List Int}(h:eS a b=0):a=b:=by
 induction a generalizing b with
 |nil=>cases b with
  |nil=>rfl
  |cons y b=>simp[eS]at h
 |cons x a ih=>
  cases b with
  |nil=>simp[eS]at h
  |cons y b=>
   rw[eS]at h
   split at h
   ·cases h
   ·split at h
    ·cases h
    ·rw[ih h,show x=y by omega]
theorem aEj(a:List Int):eS a a=0:=by
 induction a with
 |nil=>rfl
 |cons x a ih=>rw[eS,if_neg (by omega),if_neg (by omega),ih]
theorem nM(a b:List Int):eS b a= -eS a b:=by
 induction a generalizing b with
 |nil=>cases b<;>simp[eS]
 |cons x a ih=>
  cases b with
  |nil=>simp[eS]
  |cons y b=>
   rw[eS,eS]
   by_cases h1:x<y
   ·rw[if_neg (by omega),if_pos h1,if_pos h1];rfl
   ·by_cases h2:y<x
    ·rw[if_pos h2,if_neg h1,if_pos h2]
    ·rw[if_neg h2,if_neg h1,if_neg h1,if_neg h2,ih]
theorem vX{a b c:List Int}(h:eS a b= -1)(k:eS b c= -1):eS a c= -1:=by
 induction a generalizing b c with
 |nil=>
  cases b with
  |nil=>simp[eS]at h
  |cons y b=>
   cases c with
   |nil=>simp[eS]at k
   |cons z c=>rfl
 |cons x a ih=>
  cases b with
  |nil=>simp[eS]at h
  |cons y b=>
   cases c with
   |nil=>simp[eS]at k
   |cons z c=>
    rw[eS]at h k ⊢
    by_cases h1:x<y
    ·by_cases k1:y<z
     ·rw[if_pos (by omega)]
     ·rw[if_neg k1]at k
      by_cases k2:z<y
      ·rw[if_pos k2]at k;cases k
      ·rw[if_pos (by omega)]
    ·rw[if_neg h1]at h
     by_cases h2:y<x
     ·rw[if_pos h2]at h;cases h
     ·rw[if_neg h2]at h
      by_cases k1:y<z
      ·rw[if_pos (by omega)]
      ·rw[if_neg k1]at k
       by_cases k2:z<y
       ·rw[if_pos k2]at k;cases k
       ·rw[if_neg k2]at k
        rw[if_neg (by omega),if_neg (by omega)]
        exact ih h k
theorem pN(s:Txt)(pos:Nat):eX s pos=Lib.decodeL (s.drop pos):=(Lib.decodeL_drop ⟨s.toArray⟩ pos).symm
theorem bEs{l:Txt}(h:vN [239,191,189] l=true):Lib.decodeL l=(65533,3):=by
 unfold vN at h
 simp only[Bool.and_eq_true,decide_eq_true_eq]at h
 obtain⟨h1,h2⟩:=h
 match l,h1,h2 with
 |a::b::c::r,h1,h2=>
  simp only[List.length_cons,List.length_nil,List.take_succ_cons,List.take_zero,List.cons.injEq,and_true]at h2
  obtain⟨rfl,rfl,rfl⟩:=h2
  rw[Lib.decodeL_N]
  simp only[List.getD_cons_zero,List.getD_cons_succ,List.length_cons]
  unfold Lib.decodeN
  rw[if_neg (by decide),if_neg (by rintro⟨h,_⟩;revert h;decide),if_pos ⟨by decide,⟨by omega,by decide⟩,⟨by omega,by decide⟩⟩]
  decide
theorem zV(s:Txt):∀(k pos:Nat) (l:List Int),fG s k pos=some l→s.drop pos=l.flatMap Lib.encodeRune∧∀x∈l,x≤1114111:=by
 intro k
 induction k with
 |zero=>
  intro pos l h
  unfold fG at h
  split at h
  ·cases h
  ·cases h
   rw[List.drop_eq_nil_of_le (by omega)]
   exact⟨rfl,fun x hx=>by cases hx⟩
 |succ k ih=>
  intro pos l h
  unfold fG at h
  split at h
  ·rename_i hlt
   split at h
   ·rename_i hc
    cases hr:fG s k (pos+(eX s pos).2)with
    |none=>rw[hr]at h;cases h
    |some r=>
     rw[hr,Option.map_some]at h
     obtain⟨e1,e2⟩:=ih _ _ hr
     cases h
     have hne:s.drop pos≠[]:=by rw[Ne,List.drop_eq_nil_iff];omega
     have hv:¬((Lib.decodeL (s.drop pos)).1=65533∧(Lib.decodeL (s.drop pos)).2=1):=by
      rintro⟨q1,q2⟩
      rcases hc with hc|hc
      ·rw[pN,q1]at hc;simp at hc
      ·rw[bEs hc]at q2;cases q2
     have hen:=Lib.encode_decode _ hne hv
     rw[←pN]at hen
     refine⟨?_,fun x hx=>?_⟩
     ·rw[List.flatMap_cons,hen,←e1,←List.drop_drop,List.take_append_drop]
     ·rcases List.mem_cons.1 hx with rfl|hx
      ·have:=Lib.decodeL_rune (s.drop pos)
       rw[←pN]at this
       omega
      ·exact e2 x hx
   ·cases h
  ·cases h
   rw[List.drop_eq_nil_of_le (by omega)]
   exact⟨rfl,fun x hx=>by cases hx⟩
theorem kN{s:Txt}{l:List Int}(h:lE s=some l):s=l.flatMap Lib.encodeRune∧∀x∈l,x≤1114111:=zV s _ 0 l h
theorem aCw{a b:Txt}(h:cD a=cD b):a=b:=by
 have big:∀{s:Txt} {l:List Int},lE s=none→(∀x∈l,x≤1114111)→(s.map fun b=>((b.toNat:Int)+1114112))≠l:=by
  intro s l hs hl he
  cases s with
  |nil=>cases hs
  |cons c s=>
   have:=hl ((c.toNat:Int)+1114112) (by rw[←he];simp)
   omega
 unfold cD at h
 cases ha:lE a with
 |some l=>
  obtain⟨e1,e2⟩:=kN ha
  cases hb:lE b with
  |some m=>
   rw[ha,hb]at h
   rw[e1,(kN hb).1]
   exact congrArg _ h
  |none=>
   rw[ha,hb]at h
   exact absurd h.symm (big hb e2)
 |none=>
  cases hb:lE b with
  |some m=>
   rw[ha,hb]at h
   exact absurd h (big ha (kN hb).2)
  |none=>
   rw[ha,hb]at h
   simp only at h
   refine(List.map_inj_right fun x y hxy=>?_).1 h
   have:x.toNat=y.toNat:=by omega
   exact UInt8.toNat_inj.1 this
theorem nN:Sort.SWO tY where
 irrefl:=fun x=>by simp[tY,aEj]
 trans:=fun x y z h k=>by
  unfold tY at *
  rw[decide_eq_true_eq]at *
  have h1:=jZ (cD x) (cD y)
  have h2:=jZ (cD y) (cD z)
  rw[vX (show eS (cD x) (cD y)= -1 by omega) (show eS (cD y) (cD z)= -1 by omega)]
  omega
 ntrans:=fun x y z h k=>by
  unfold tY at *
  rw[decide_eq_false_iff_not]at *
  intro q
  have h1:=jZ (cD x) (cD y)
  have h2:=jZ (cD y) (cD z)
  have h3:=jZ (cD x) (cD z)
  have a1:=nM (cD x) (cD y)
  have a2:=nM (cD y) (cD z)
  rcases h1 with h1|h1|h1
  ·omega
  ·rw[zU h1]at q;omega
  ·rcases h2 with h2|h2|h2
   ·omega
   ·rw[←zU h2]at q;omega
   ·have:=vX (show eS (cD z) (cD y)= -1 by omega) (show eS (cD y) (cD x)= -1 by omega)
    have a3:=nM (cD x) (cD z)
    omega
theorem aEk{x y:Txt}(h:tY x y=false)(k:tY y x=false):x=y:=by
 unfold tY at *
 rw[decide_eq_false_iff_not]at *
 have:=nM (cD x) (cD y)
 exact aCw (zU (by omega))
def mY(l:List Txt):List Txt:=l.mergeSort fun x y=> !tY y x
theorem aQ9(a b c:Txt):(!tY b a)=true→(!tY c b)=true→(!tY c a)=true:=by
 simp only[Bool.not_eq_true']
 exact fun h k=>nN.ntrans c b a k h
theorem aJU(a b:Txt):((!tY b a)||(!tY a b))=true:=by
 cases h:tY b a with
 |false=>rfl
 |true=>
  cases k:tY a b with
  |false=>rfl
  |true=>have:=nN.trans _ _ _ h k;rw[nN.irrefl]at this;cases this
theorem kA(l:List Txt):(mY l).Perm l:=List.mergeSort_perm ..
theorem zW(l:List Txt):(mY l).Pairwise fun x y=>(!tY y x)=true:=List.pairwise_mergeSort aQ9 aJU l
theorem aCx{a l:List Txt}(hs:a.Pairwise fun x y=>(!tY y x)=true)(hp:a.Perm l):a=mY l:=
 List.Perm.eq_of_pairwise (fun x y _ _ h k=>aEk (by simpa using k) (by simpa using h)) hs (zW l) (hp.trans (kA l).symm)
structure Itm where
 path:Txt
 id:Int
 data:Txt
deriving DecidableEq,Inhabited
def itA(x:Itm):AV:=.agg [.str x.path,.int .i64 x.id,.str x.data]
@[go_sem] theorem bEt(x:Itm):Pur (itA x)=True:=by simp only[itA,go_sem]
def aGu(l:List Nd)(dir:Int):List Txt:=if chk l=true then mY ((dS l dir).map (·.1))else[]
def bB4(l:List Nd)(dir:Int):List Int:=dir::zL l dir
def iQ(l:List Nd)(out:List Int):Nat→Int→Txt→List Itm
 |0,_,_=>[]
 |k+1,dir,path=>(mY (((dS l dir).filter fun p=> !out.contains p.2.id).map (·.1))).flatMap fun s=>match fS s (dS l dir)with
  |some n=>⟨path++(47::s),n.id,n.data⟩::(if dirI n.id=true then iQ l out k n.id (path++(47::s))else[])
  |none=>[]
def dJ(l:List Nd)(dir:Int):List Itm:=if chk l=true then iQ l (bB4 l dir) (l.length+1) dir []else[]
def lookI(p:Txt)(l:List Itm):Option Itm:=l.reverse.find? fun x=>decide (x.path=p)
def aDi(is:List Itm)(t:Itm):Bool:=match lookI t.path is with|some n=> !decide (n.id=t.id)|none=>true
def aCy(was:List Itm)(t:Itm):Bool:=match lookI t.path was with|some o=>decide (o.id=t.id)&& !decide (o.data=t.data)|none=>false
def nY(was is:List Itm):List Evt:=
 ((was.reverse.filter (aDi is)).map fun t=>⟨1,t.path⟩)++((is.filter (aDi was)).map fun t=>⟨2,t.path⟩)++((is.filter (aCy was)).map fun t=>⟨3,t.path⟩)
def lY(e:List Evt)(over:Bool)(l:List Evt):List Evt×Bool:=
 if over=true then(e,true)else if 8-e.length<l.length then(e++l.take (8-e.length)++[⟨9,[]⟩],true)else(e++l,false)
end Go.Gw
/- A replica, call by call, in plain Lean. No condition. -/
namespace Go.Gw
open Go Go.Aw Go.Proofs.YthhdnjiodklmmaaGreatDoor
structure Snp where
 n:Int
 nodes:List Nd
deriving DecidableEq,Inhabited
structure Wch where
 n:Int
 dir:Int
 evs:List Evt
 over:Bool
deriving DecidableEq,Inhabited
structure Mdl where
 log:Lg
 seen:Int
 rep:Int
 snaps:List Snp
 watches:List Wch
 next:Int
deriving DecidableEq,Inhabited
def gX(s:Snp):AV:=.agg [.int .i64 s.n,.sl false (s.nodes.map ndA)]
def fT(w:Wch):AV:=.agg [.int .i64 w.n,.int .i64 w.dir,.sl false (w.evs.map kE),.bool w.over]
def jB(e n s w:AV)(m:Mdl):AV:=.agg [e,n,.int .i64 m.seen,.int .i64 m.rep,s,w,.int .i64 m.next]
def cO(f1 f2 f3 f4:Bool)(m:Mdl):AV:=jB (.sl f1 (m.log.entries.map fR)) (.sl f2 (m.log.nodes.map ndA)) (.sl f3 (m.snaps.map gX)) (.sl f4 (m.watches.map fT)) m
@[go_sem] theorem bEu(x:Snp):Pur (gX x)=True:=by simp only[gX,go_sem]
@[go_sem] theorem bEv(x:Wch):Pur (fT x)=True:=by simp only[fT,go_sem]
@[go_sem] theorem bEw(f1 f2 f3 f4:Bool)(x:Mdl):Pur (cO f1 f2 f3 f4 x)=True:=by simp only[cO,jB,go_sem]
def md0:Mdl:=⟨⟨[],[]⟩,0,0,[],[],0⟩
def idI(a b:Int)(d:Bool):Int:=if okI a b=true then 128 * a+2 * b+(if d then 1 else 0)else-1
def lZ(a b:Int):Bool:=decide (0≤a)&&decide (a<1048576)&&decide (0≤b)&&decide (b≤63)
theorem qQ{a b:Int}:lZ a b=true↔0≤a∧a<1048576∧0≤b∧b≤63:=by
 simp[lZ,and_assoc]
def aA3(n:Int)(s:Stm):Int:=if okI s.c s.r=true then max n s.c else n
def aL9(n:Int)(first:Bool):Txt→Option (Int×Txt)
 |[]=>none
 |x::r=>if(first&&decide ((x.toNat:Int)=128)||decide (72057594037927935<n))=true then none
  else if(x.toNat:Int)<128 then some (n * 128+x.toNat,r)else aL9 (n * 128+((x.toNat:Int)-128)) false r
def yJ(b:Txt):Option (Int×Txt):=aL9 0 true b
def aMa(b:Txt):Option (Txt×Txt):=match yJ b with
 |none=>none
 |some (n,r)=>if(r.length:Int)<n then none else some (r.take n.toNat,r.drop n.toNat)
def bB5(b:Txt):Option (Opn×Txt):=
 (yJ b).bind fun(c,b1)=>(yJ b1).bind fun(r,b2)=>(yJ b2).bind fun(k,b3)=>(yJ b3).bind fun(nd,b4)=>
  if k=1 then(yJ b4).bind fun(p,b5)=>(aMa b5).bind fun(t,b6)=>if opOk ⟨⟨c,r⟩,k,nd,p,t,[]⟩=true then some (⟨⟨c,r⟩,k,nd,p,t,[]⟩,b6)else none
  else(aMa b4).bind fun(t,b6)=>if opOk ⟨⟨c,r⟩,k,nd,0,[],t⟩=true then some (⟨⟨c,r⟩,k,nd,0,[],t⟩,b6)else none
def aMb:Nat→Txt→Option (List Opn)
 |0,b=>if b=[]then some []else none
 |k+1,b=>if b=[]then some []else(bB5 b).bind fun(o,r)=>(aMb k r).map (o::·)
def readO(b:Txt):Option (List Opn):=aMb b.length b
structure Dsk where
 m:Mdl
 a:Ans
 ops:List Opn
deriving DecidableEq,Inhabited
def nextD(m:Mdl):Stm×Int:=if lZ m.seen m.rep=false then(st0,20)else if(200:Int)≤(m.log.entries.length:Int)then(st0,193)else(⟨m.seen+1,m.rep⟩,0)
def nT(d:Dsk)(o:Opn):Int×Dsk:=if xE d.m.log o=0 then(0,{d with m:={d.m with log:=fB d.m.log o},ops:=d.ops++[o]})else(xE d.m.log o,d)
def vY(d:Dsk)(o:Opn):Int×Dsk:=
 if(nextD d.m).2=0 then
  (if(nT d {o with at_:=(nextD d.m).1}).1=0 then(0,{(nT d {o with at_:=(nextD d.m).1}).2 with m:={(nT d {o with at_:=(nextD d.m).1}).2.m with seen:=(nextD d.m).1.c}})
  else nT d {o with at_:=(nextD d.m).1})
 else((nextD d.m).2,d)
def gN(m:Mdl)(h:Int):Option (List Nd):=if h=0 then some m.log.nodes else(m.snaps.find? fun s=>decide (s.n=h)).map (·.nodes)
def atN(l:List Nd)(p:Txt):Int×Int:=match fZ p with
 |none=>(0,10)
 |some ns=>sZ l ns
def abvN(l:List Nd)(p:Txt):Int×Txt×Int:=match fZ p with
 |none=>(0,[],10)
 |some []=>(0,[],194)
 |some (x::xs)=>if(sZ l (x::xs).dropLast).2=0 then(if dirI (sZ l (x::xs).dropLast).1=true then((sZ l (x::xs).dropLast).1,(x::xs).getLast (by simp),0)else(0,[],81))else(0,[],(sZ l (x::xs).dropLast).2)
def aMc(c:Cal)(d:Dsk):Int×Dsk:=
 if c.path=[47]then(194,d)else
 if(abvN d.m.log.nodes c.path).2.2=0 then
  (if(childN d.m.log.nodes (abvN d.m.log.nodes c.path).1 (abvN d.m.log.nodes c.path).2.1).isSome=true then(190,d)else
   if(nextD d.m).2=0 then vY d ⟨st0,1,idI (nextD d.m).1.c (nextD d.m).1.r (decide (c.kind=1)),(abvN d.m.log.nodes c.path).1,(abvN d.m.log.nodes c.path).2.1,[]⟩else((nextD d.m).2,d))
 else((abvN d.m.log.nodes c.path).2.2,d)
def aGv(c:Cal)(d:Dsk):Int×Dsk:=
 if(atN d.m.log.nodes c.path).2=0 then(if dirI (atN d.m.log.nodes c.path).1=true then(82,d)else vY d ⟨st0,2,(atN d.m.log.nodes c.path).1,0,[],c.data⟩)
 else((atN d.m.log.nodes c.path).2,d)
def vZ(c:Cal)(d:Dsk):Int×Dsk:=match gN d.m c.n with
 |none=>(191,d)
 |some l=>if(atN l c.path).2=0 then(if dirI (atN l c.path).1=true then(82,d)else(0,{d with a:={d.a with data:=((findI l (atN l c.path).1).getD nd0).data}}))else((atN l c.path).2,d)
def lsD(c:Cal)(d:Dsk):Int×Dsk:=match gN d.m c.n with
 |none=>(191,d)
 |some l=>if(atN l c.path).2=0 then(if dirI (atN l c.path).1=true then(0,{d with a:={d.a with names:=aGu l (atN l c.path).1}})else(81,d))else((atN l c.path).2,d)
def aMd(c:Cal)(d:Dsk):Int×Dsk:=
 if c.path=[47]∨c.to=[47]then(194,d)else
 if(atN d.m.log.nodes c.path).2=0 then
  (if(abvN d.m.log.nodes c.to).2.2=0 then
   (if(childN d.m.log.nodes (abvN d.m.log.nodes c.to).1 (abvN d.m.log.nodes c.to).2.1).isSome=true then(190,d)else
    if(abvN d.m.log.nodes c.to).1=(atN d.m.log.nodes c.path).1∨(zL d.m.log.nodes (abvN d.m.log.nodes c.to).1).contains (atN d.m.log.nodes c.path).1=true then(192,d)
    else vY d ⟨st0,1,(atN d.m.log.nodes c.path).1,(abvN d.m.log.nodes c.to).1,(abvN d.m.log.nodes c.to).2.1,[]⟩)
  else((abvN d.m.log.nodes c.to).2.2,d))
 else((atN d.m.log.nodes c.path).2,d)
def aDj(c:Cal)(d:Dsk):Int×Dsk:=
 if c.path=[47]then(194,d)else
 if(atN d.m.log.nodes c.path).2=0 then
  (match fZ c.path with
  |some (x::xs)=>vY d ⟨st0,1,(atN d.m.log.nodes c.path).1,2,(x::xs).getLast (by simp),[]⟩
  |_=>(194,d))
 else((atN d.m.log.nodes c.path).2,d)
def yK(d:Dsk):Int×Dsk:=
 if(8:Int)≤(d.m.snaps.length:Int)then(193,d)else(0,{d with a:={d.a with n:=d.m.next},m:={d.m with snaps:=d.m.snaps++[⟨d.m.next,d.m.log.nodes⟩],next:=IntKind.i64.wrap (d.m.next+1)}})
def wA(c:Cal)(d:Dsk):Int×Dsk:=
 if(!(d.m.snaps.any fun s=>decide (s.n=c.n))&& !(d.m.watches.any fun w=>decide (w.n=c.n)))=true then(191,d)
 else(0,{d with m:={d.m with snaps:=d.m.snaps.filter (fun s=> !decide (s.n=c.n)),watches:=d.m.watches.filter (fun w=> !decide (w.n=c.n))}})
def sB(c:Cal)(d:Dsk):Int×Dsk:=
 if(atN d.m.log.nodes c.path).2=0 then
  (if dirI (atN d.m.log.nodes c.path).1=true then
   (if(8:Int)≤(d.m.watches.length:Int)then(193,d)else(0,{d with a:={d.a with n:=d.m.next},m:={d.m with watches:=d.m.watches++[⟨d.m.next,(atN d.m.log.nodes c.path).1,[],false⟩],next:=IntKind.i64.wrap (d.m.next+1)}}))
  else(81,d))
 else((atN d.m.log.nodes c.path).2,d)
def emptyW(n:Int):List Wch→List Wch
 |[]=>[]
 |w::l=>if w.n=n then{w with evs:=[]}::l else w::emptyW n l
def aA4(c:Cal)(d:Dsk):Int×Dsk:=match d.m.watches.find? fun w=>decide (w.n=c.n)with
 |none=>(191,d)
 |some w=>(0,{d with a:={d.a with events:=w.evs},m:={d.m with watches:=emptyW c.n d.m.watches}})
def freshN(g:Lg):List Opn→List Opn→List Opn
 |acc,[]=>acc
 |acc,o::l=>freshN g (if(!lH g.entries o.at_&& !(acc.any fun f=>decide (f.at_=o.at_)))=true then acc++[o]else acc) l
def nZ(d:Dsk):List Opn→Int×Dsk
 |[]=>(0,d)
 |o::l=>if(nT d o).1=0 then nZ (nT d o).2 l else nT d o
def aGw(c:Cal)(d:Dsk):Int×Dsk:=match readO c.data with
 |none=>(50,d)
 |some l=>
  if(200:Int)<(d.m.log.entries.length:Int)+((freshN d.m.log [] l).length:Int)then(193,d)else
  if(nZ d (freshN d.m.log [] l)).1=0 then
   (0,{(nZ d (freshN d.m.log [] l)).2 with a:={(nZ d (freshN d.m.log [] l)).2.a with n:=(freshN d.m.log [] l).length},m:={(nZ d (freshN d.m.log [] l)).2.m with seen:=l.foldl (fun n o=>aA3 n o.at_) d.m.seen}})
  else nZ d (freshN d.m.log [] l)
def fQ(c:Cal)(d:Dsk):Int×Dsk:=
 if c.kind=1∨c.kind=2 then aMc c d else if c.kind=3 then aGv c d else if c.kind=4 then vZ c d else if c.kind=5 then aMd c d else if c.kind=6 then aDj c d
 else if c.kind=7 then lsD c d else if c.kind=8 then yK d else if c.kind=9 then wA c d else if c.kind=10 then sB c d else if c.kind=11 then aA4 c d
 else if c.kind=12 then(0,d)else aGw c d
def wB(was is:List Nd)(w:Wch):Wch:={w with evs:=(lY w.evs w.over (nY (dJ was w.dir) (dJ is w.dir))).1,over:=(lY w.evs w.over (nY (dJ was w.dir) (dJ is w.dir))).2}
def aMe(was:List Nd)(d:Dsk):Dsk:={d with m:={d.m with watches:=d.m.watches.map (wB was d.m.log.nodes)}}
end Go.Gw
/- The abstract machine: a slice in a block that is none yet gets a block of its own. No condition. -/
namespace Go.Aw
open Go
set_option linter.unusedVariables false
variable {P:Program}
theorem St.putRep{c:Ctx}{H:AHeap}(hst:St c H){i v:Nat}{cs ds:List AV}(hh:hget H i=.cells v cs)(hr:BRep c i (.cells v ds)):St c (aD H i (.cells v ds)):=by
 have hi:=cZ hh trivial
 have hlt:=bP hh trivial
 have hget:∀{j:Nat} {b:ABlk},(aD H i (.cells v ds))[j]?=some b→(j=i∧b=.cells v ds)∨(j≠i∧H[j]?=some b):=by
  intro j b hj
  by_cases e:j=i
  ·subst e
   rw[aD,List.getElem?_set_self hlt]at hj
   cases hj;exact .inl ⟨rfl,rfl⟩
  ·rw[aD,List.getElem?_set_ne (fun q=>e q.symm)]at hj
   exact .inr ⟨e,hj⟩
 have hget':∀{j:Nat} {b:ABlk},(aD H i (.cells v ds))[j]?=some b→b.live→∃b':ABlk,H[j]?=some b'∧b'.live:=by
  intro j b hj hb
  rcases hget hj with⟨rfl,rfl⟩|⟨_,h⟩
  ·exact⟨_,hi,trivial⟩
  ·exact⟨_,h,hb⟩
 refine⟨by simp[aD,hst.n],hst.lt,fun j k b b' hj hk hb hb' dj dk he=>?_,fun k hk=>?_,fun j b hj=>?_⟩
 ·obtain⟨b1,g1,g2⟩:=hget' hj hb
  obtain⟨b2,g3,g4⟩:=hget' hk hb'
  exact hst.inj j k b1 b2 g1 g3 g2 g4 dj dk he
 ·obtain⟨h1,h2⟩:=hst.st k hk
  refine⟨h1,fun j b hj hb dj=>?_⟩
  obtain⟨b1,g1,g2⟩:=hget' hj hb
  exact h2 j b1 g1 g2 dj
 ·rcases hget hj with⟨rfl,rfl⟩|⟨_,h⟩
  ·exact hr
  ·exact hst.rep j b h
theorem BRep.mapC{c c':Ctx}{i v:Nat}{cs ds:List AV}(hr:BRep c i (.cells v cs))(h1:c'.ver i=c.ver i)(h2:c'.vd i=c.vd i)(h3:c'.blk i=c.blk i)(h4:c'.w=c.w)(hl:cs.length=ds.length)
  (hs:∀(i:Nat) (x y:AV),cs[i]?=some x→ds[i]?=some y→∀v,Rep c x v→Rep c' y v):BRep c' i (.cells v ds):=by
 cases hr with
 |cells _ _ vs e fr q1 q2 q3 q4 q5 q6=>
  refine .cells _ _ vs e fr (by rw[h1];exact q1) (by rw[h2];exact q2) (by rw[h3,h4];exact q3) (by omega) q5 fun m y u hy hu=>?_
  have hlt2:=(List.getElem?_eq_some_iff.1 hy).1
  have hx:cs[m]?=some (cs[m]'(by omega)):=List.getElem?_eq_getElem (by omega)
  exact hs m _ y hx hy u (q6 m _ u hx hu)
 |void _ q1 q2=>
  have:ds=[]:=List.eq_nil_of_length_eq_zero (by simpa using hl.symm)
  subst this
  exact .void _ (by rw[h1];exact q1) (by rw[h2];exact q2)
theorem St.simR{c:Ctx}{H:AHeap}(hst:St c H){i v:Nat}{cs ds:List AV}(hh:hget H i=.cells v cs)(hl:cs.length=ds.length)(hs:∀(i:Nat) (x y:AV),cs[i]?=some x→ds[i]?=some y→∀v,Rep c x v→Rep c y v):St c (aD H i (.cells v ds)):=
 hst.putRep hh ((hst.rep i _ (cZ hh trivial)).mapC rfl rfl rfl rfl hl hs)
theorem BRep.pre{c:Ctx}{i v:Nat}{cs rest:List AV}(hr:BRep c i (.cells v (cs++rest))):BRep c i (.cells v cs):=by
 generalize hx:cs++rest=xs at hr
 cases hr with
 |cells _ _ vs e fr q1 q2 q3 q4 q5 q6=>
  subst hx
  refine .cells _ _ vs e fr q1 q2 q3 (by rw[List.length_append]at q4;omega) q5 fun m y u hy hu=>q6 m y u ?_ hu
  rw[List.getElem?_append_left (List.getElem?_eq_some_iff.1 hy).1];exact hy
 |void _ q1 q2=>
  have:cs=[]:=(List.append_eq_nil_iff.1 hx).1
  subst this
  exact .void _ q1 q2
theorem ACalls.trunc{f:FuncId}{args:List AV}{H:AHeap}{i v:Nat}{cs:List AV}{x:AV}(hi:i<H.length)(h:ACalls P f args H (fun r H'=>∃rest,r=x∧H'=aD H i (.cells v (cs++rest)))):ACalls P f args H (fun r H'=>r=x∧H'=aD H i (.cells v cs)):=by
 intro c vs hs ha
 refine(h c vs hs ha).mono fun e w' ⟨c',y,val,H',e1,e2,e3,e4,e5,rest,e6,e7⟩=>⟨c',y,val,aD H' i (.cells v cs),e1,e2,?_,e4,e5,e6,by rw[e7,dR]⟩
 have hh:hget H' i=.cells v (cs++rest):=by rw[e7];exact dD hi _
 exact e3.putRep hh (e3.rep i _ (cZ hh trivial)).pre
theorem lI{f:FuncId}{args:List AV}{H H1:AHeap}{v:AV}{K:AV→AHeap→Prop}(h:ACalls P f args H (fun x H'=>x=v∧H'=H1))(ok:aA P f=true)(hk:K v H1):aFF P true (.func (.func f) [] []) args H K:=
 ⟨v,H1,fun _=>Or.inl ⟨ok,by simp only[List.nil_append,List.append_nil];exact h⟩,fun h=>by(cases h),hk⟩
def aGx(n:Nat)(G A H1:AHeap)(H:AHeap):Prop:=∀(k:Nat) (a b:ABlk),A[k]?=some a→H1[k]?=some b→(a=b∧(H[k]?=some b∨ClB n b))∨∃ver cs ds,a=.cells ver cs∧b=.cells ver ds∧cs.length=ds.length∧∀(m:Nat) (x y:AV),cs[m]?=some x→ds[m]?=some y→Frz n G x y
theorem St.dropF{c:Ctx}{n:Nat}{A L H1 H:AHeap}(hn:n=A.length)(hst:St c (A++L))(hl:H1.length=A.length)(hcl:∀(i:Nat) (b:ABlk),H[i]?=some b→ClB n b)(hf:aGx n (A++L) A H1 H):St (c.drop n) H1:=by
 have get:∀{i:Nat} {b:ABlk},H1[i]?=some b→∃a:ABlk,A[i]?=some a∧(A++L)[i]?=some a∧(b.live→a.live):=by
  intro i b hi
  have h1:=(List.getElem?_eq_some_iff.1 hi).1
  have ha:A[i]?=some (A[i]'(by omega)):=List.getElem?_eq_getElem (by omega)
  refine⟨_,ha,by rw[List.getElem?_append_left (by omega)];exact ha,fun hb=>?_⟩
  rcases hf i _ b ha hi with⟨e, -⟩|⟨ver,cs,ds,e1, -⟩
  ·rw[e];exact hb
  ·rw[e1];trivial
 refine⟨by rw[hl];exact hn,fun i hi hd=>?_,fun i j b b' hi hj hb hb' di dj he=>?_,fun k hk=>?_,fun i b hi=>?_⟩
 ·have hi':i<n:=hi
  exact hst.lt i (by rw[hst.n];simp;omega) hd
 ·obtain⟨a, -,a2,a3⟩:=get hi
  obtain⟨a', -,a2',a3'⟩:=get hj
  exact hst.inj i j a a' a2 a2' (a3 hb) (a3' hb') di dj he
 ·have hln:=hst.n
  rw[List.length_append]at hln
  rcases hk with hk|⟨i,h1,h2,h3,rfl⟩
  ·obtain⟨q1,q2⟩:=hst.st k hk
   refine⟨q1,fun j b hj hb hd=>?_⟩
   obtain⟨a, -,a2,a3⟩:=get hj
   exact q2 j a a2 (a3 hb) hd
  ·refine⟨hst.lt i h2 h3,fun j b hj hb hd e=>?_⟩
   obtain⟨a,a1,a2,a3⟩:=get hj
   have hj':=(List.getElem?_eq_some_iff.1 a1).1
   have hlt:i<(A++L).length:=by rw[List.length_append];omega
   have hi:(A++L)[i]?=some (A++L)[i]:=List.getElem?_eq_getElem hlt
   by_cases hlive:((A++L)[i]).live
   ·have:=hst.inj j i a _ a2 hi (a3 hb) hlive hd h3 e
    omega
   ·have hr:=hst.rep i _ hi
    generalize(A++L)[i]=bi at hr hlive
    cases hr with
    |gone hd'=>rw[h3]at hd';cases hd'
    |_=>exact hlive trivial
 ·obtain⟨a,a1,a2, -⟩:=get hi
  have h1:=hst.rep i a a2
  rcases hf i a b a1 hi with⟨e,hb⟩|⟨ver,cs,ds,e1,e2,e3,e4⟩
  ·subst e
   have h2:ClB n a:=hb.elim (hcl i a) id
   cases h1 with
   |cells ver cs vs e fr hv hd hh hl hf hr=>exact .cells ver cs vs e fr hv hd hh hl hf fun j x v hx hv'=>(hr j x v hx hv').drop (h2 x (List.mem_of_getElem? hx))
   |void ver hv hd=>exact .void ver hv hd
   |map es clock ents hv hd hh hl hr=>exact .map es clock ents hv hd hh hl fun j p e hp he=>let⟨g1,g2,g3⟩:=hr j p e hp he;let⟨q1,q2⟩:=h2 p (List.mem_of_getElem? hp);⟨g1.drop q1,g2.drop q2,g3⟩
   |miter m since seen stepped hv hd hm hmv hmd hh=>exact .miter m since seen stepped hv hd h2 hmv hmd hh
   |siter s pos hv hd hh hsl=>exact .siter s pos hv hd hh hsl
   |loop l α N st pe ps ars bd fn D ts hv hd hl hh hN hr=>exact .loop l α N st pe ps ars bd fn D ts hv hd hl hh hN fun t=>(hr t).drop (h2 t)
   |gone hd=>exact .gone hd
  ·subst e1
   subst e2
   cases h1 with
   |cells _ _ vs e fr hv hd hh hl hf hr=>
    refine .cells ver ds vs e fr hv hd hh (by omega) hf fun j y v hy hv'=>?_
    have hlt:=(List.getElem?_eq_some_iff.1 hy).1
    have hx:cs[j]?=some (cs[j]'(by omega)):=List.getElem?_eq_getElem (by omega)
    exact(e4 j _ y hx hy).sound hst (hr j _ v hx hv')
   |void _ hv hd=>
    have:ds=[]:=List.eq_nil_of_length_eq_zero (by simpa using e3.symm)
    subst this
    exact .void ver hv hd
theorem pO{f:FuncId}{fn:Func}{code:Code}{args:List AV}{H:AHeap}{R:AV→AHeap→Prop}(hf:P.funcs[f]?=some fn)(hb:fn.body=some code)(hn:args.length≤fn.ntmps)
  (h:aw P fn.ntmps code (aAA P fn.results.toList fun v H'=>∃A L H1 y,H'=A++L∧A.length=H.length∧H1.length=H.length∧aGx H.length H' A H1 H∧Frz H.length H' v y∧R y H1) (fW 0 args) H):ACalls P f args H R:=by
 intro c vs hs ha
 refine(dI hf hb hn h c vs hs ha).mono fun e w' ⟨c',x,v,H',e1,e2,e3,e4,e5,A,L,H1,y,e6,e7,e8,e9,e10,e11⟩=>?_
 subst e6
 refine⟨c'.drop c.n,y,v,H1,e1,e2,St.dropF (H:=H) (by rw[hs.n,e7]) e3 (by rw[e8,e7]) (fun i b hi=>hs.cl0 hi) (by rw[hs.n];exact e9),e4.drop,?_,e11⟩
 have:=e10.sound e3 e5
 rwa[←hs.n]at this
theorem aGy{c:Ctx}{H:AHeap}(hst:St c H)(s:Nat){v:Value}(h:Rep c.void (.sl true []) v):Rep c.void (.osl s H.length 1 0 0 0) v:=by
 cases h with
 |sl _ _ base len cap s' vs h1 h2 h3 h4 h5 h6 h7=>
  have hcap:=h3 rfl
  simp at h1
  subst h1
  subst hcap
  exact .osl _ _ _ _ _ _ _ (by simp[Ctx.void,hst.n]) (by simp[Ctx.void,hst.n]) rfl (by omega) (fun _ _=>⟨rfl,rfl,base,rfl⟩) (fun _ hd=>by simp[Ctx.void,hst.n]at hd)
theorem aA5{N:Nat}{code:Code}{Q:bL}{α:AF}{H:AHeap}(i j s:Nat){v:Nat}{cs:List AV}(hh:hget H i=.cells v cs)(hj:cs[j]?=some (.sl true []))
  (h:aw P N code Q α (aD (H++[.cells 1 []]) i (.cells v (cs.set j (.osl s H.length 1 0 0 0))))):aw P N code Q α H:=by
 intro r c a hr hst ha
 have hv:=Ext.void c
 have hget:=aK hh trivial [.cells 1 []]
 refine wpIn_mono (h r c.void a hr (hst.void.simR hget (by simp)fun k x y hx hy v hr=>?_) ⟨ha.size,ha.defers.mono hv,fun u=>(ha.rep u).mono hv⟩)fun _ _ _ ⟨c',α',H',e1,e2,e3,e4,e5⟩=>⟨c',α',H',e1,e2,hv.trans e3,e4,e5⟩
 by_cases e:k=j
 ·subst e
  rw[List.getElem?_set_self (List.getElem?_eq_some_iff.1 hj).1]at hy
  cases hy
  rw[hj]at hx
  cases hx
  exact aGy hst s hr
 ·rw[List.getElem?_set_ne (fun q=>e q.symm)]at hy
  rw[hx]at hy
  cases hy
  exact hr
end Go.Aw
/- stamp.Next, ID and Seen of one stamp: what they answer. No condition. -/
namespace Go.Proofs.YthhdnjiodklmmaaGreatDoor
open Go Go.Aw Go.Gw
set_option linter.unusedSimpArgs false
set_option linter.unusedVariables false
set_option maxRecDepth 20000
set_option maxHeartbeats 4000000
theorem bEZ(a b:Int)(d:Bool)(H:AHeap):cN Tryz.prog 121 [.agg [.int .i64 a,.int .i64 b],.bool d] H (.int .i64 (idI a b d)):=by
 refine aQ Tryz.func121 rfl (Nat.le_of_ble_eq_true rfl) ?_
 have hc:=fO a b
 unfold idI
 cases hk:okI a b with
 |false=>
  rw[hk]at hc
  have ct0:=ct hc bY;repeat' first|((first|refine gK ?_|refine gS ?_);simp only[go_sem])|refine gA ?_|(refine gD (fun h=>?_) (fun h=>?_)<;>try exact aB h)|fail
  exact done (by simp only[go_sem]) (.refl _)
 |true=>
  rw[hk]at hc
  have h:=aAM.1 hk
  have w1:IntKind.i64.wrap (128 * a)=128 * a:=wrap_i64 (by omega) (by omega)
  have w2:IntKind.i64.wrap (2 * b)=2 * b:=wrap_i64 (by omega) (by omega)
  have w3:IntKind.i64.wrap (128 * a+2 * b)=128 * a+2 * b:=wrap_i64 (by omega) (by omega)
  have w4:IntKind.i64.wrap (128 * a+2 * b+1)=128 * a+2 * b+1:=wrap_i64 (by omega) (by omega)
  cases d with
  |true=>
   have ct0:=ct hc bY;repeat' first|((first|refine gK ?_|refine gS ?_);simp only[go_sem,w1,w2,w3,w4])|refine gA ?_|(refine gD (fun h=>?_) (fun h=>?_)<;>try exact aB h)|fail
   exact done (by simp only[go_sem]) (.refl _)
  |false=>
   have ct0:=ct hc bY;repeat' first|((first|refine gK ?_|refine gS ?_);simp only[go_sem,w1,w2,w3,w4])|refine gA ?_|(refine gD (fun h=>?_) (fun h=>?_)<;>try exact aB h)|fail
   exact done (by simp only[go_sem]) (.of (by simp))
def aGz(a b:Int):AV:=if lZ a b=true then .tup [.agg [.int .i64 (a+1),.int .i64 b],.int .i64 0]else .tup [.agg [.int .i64 0,.int .i64 0],.int .i64 20]
theorem aRb(a b:Int)(H:AHeap):cN Tryz.prog 174 [.int .i64 a,.int .i64 b] H (aGz a b):=by
 refine aQ Tryz.func174 rfl (Nat.le_of_ble_eq_true rfl) ?_
 unfold aGz
 by_cases h1:a<0
 ·have hn:lZ a b=false:=by rw[←Bool.not_eq_true,qQ];omega
  have d1:decide (a<0)=true:=decide_eq_true h1
  rw[hn]
  repeat' first|(refine gS ?_;simp only[go_sem,d1])|refine gA ?_|(refine gD (fun h=>?_) (fun h=>?_)<;>try exact aB h)|fail
  exact done (by simp only[go_sem]) (.refl _)
 have d1:decide (a<0)=false:=decide_eq_false h1
 by_cases h2:1048576≤a
 ·have hn:lZ a b=false:=by rw[←Bool.not_eq_true,qQ];omega
  have d2:decide (1048576≤a)=true:=decide_eq_true h2
  rw[hn]
  repeat' first|(refine gS ?_;simp only[go_sem,d1,d2])|refine gA ?_|(refine gD (fun h=>?_) (fun h=>?_)<;>try exact aB h)|fail
  exact done (by simp only[go_sem]) (.refl _)
 have d2:decide (1048576≤a)=false:=decide_eq_false h2
 have hw:IntKind.i64.wrap (a+1)=a+1:=wrap_i64 (by omega) (by omega)
 have hc:=fO (a+1) b
 cases hk:okI (a+1) b with
 |false=>
  have hn:lZ a b=false:=by rw[←Bool.not_eq_true,qQ];rw[←Bool.not_eq_true,aAM]at hk;omega
  rw[hk]at hc
  rw[hn]
  have ct0:=ct hc bY;repeat' first|((first|refine gK ?_|refine gS ?_);simp only[go_sem,d1,d2,hw])|refine gA ?_|(refine gD (fun h=>?_) (fun h=>?_)<;>try exact aB h)|fail
  exact done (by simp only[go_sem]) (.refl _)
 |true=>
  have hn:lZ a b=true:=by rw[qQ];rw[aAM]at hk;omega
  rw[hk]at hc
  rw[hn]
  have ct0:=ct hc bY;repeat' first|((first|refine gK ?_|refine gS ?_);simp only[go_sem,d1,d2,hw])|refine gA ?_|(refine gD (fun h=>?_) (fun h=>?_)<;>try exact aB h)|fail
  exact done (by simp only[go_sem]) (.refl _)
theorem bDr(n:Int)(s:Stm)(f:Bool)(H:AHeap):cN Tryz.prog 55 [.int .i64 n,.sl f [.agg [.int .i64 s.c,.int .i64 s.r]]] H (.int .i64 (aA3 n s)):=by
 refine aQ Tryz.func55 rfl (Nat.le_of_ble_eq_true rfl) ?_
 obtain⟨a,b⟩:=s
 have hc:=fO a b
 have hw:IntKind.i64.wrap (0+1)=1:=rfl
 repeat' first|(refine gS ?_;simp only[go_sem])|refine gA ?_|(refine gD (fun h=>?_) (fun h=>?_)<;>try exact aB h)|fail
 refine aD7 2 ?_
 unfold tT
 repeat' first|(refine gS ?_;simp only[go_sem])|refine gA ?_|(refine gD (fun h=>?_) (fun h=>?_)<;>try exact aB h)|fail
 cases hk:okI a b with
 |false=>
  rw[hk]at hc
  have ct0:=ct hc bY;repeat' first|((first|refine gK ?_|refine gS ?_);simp only[go_sem,hw])|refine gA ?_|(refine gD (fun h=>?_) (fun h=>?_)<;>try exact aB h)|fail
  exact done (by simp only[go_sem]) (.of (by unfold aA3;rw[hk];rfl))
 |true=>
  rw[hk]at hc
  have ct0:=ct hc bY;repeat' first|((first|refine gK ?_|refine gS ?_);simp only[go_sem,hw])|refine gA ?_|(refine gD (fun h=>?_) (fun h=>?_)<;>try exact aB h)|fail
  exact done (by simp only[go_sem]) (.of (by unfold aA3;rw[hk];rfl))
end Go.Proofs.YthhdnjiodklmmaaGreatDoor
/- call.Check: whether a call may be. No condition but the length of its paths. -/
namespace Go.Gw
open Go Go.Aw Go.Proofs.YthhdnjiodklmmaaGreatDoor
def mA(k:Int):Option Int:=if k=1∨k=2∨k=6∨k=10 then some 1 else if k=3 then some 5 else if k=4∨k=7 then some 9 else if k=5 then some 3 else if k=9∨k=11 then some 8 else if k=13 then some 4 else if k=8∨k=12 then some 0 else none
def kO(s:Txt):Bool:=(fZ s).isSome
def mJ(p part:Int)(r e:Bool):Bool:=if dZ .and .i64 p part=0 then e else r
def chkC(c:Cal):Bool:=match mA c.kind with
 |none=>false
 |some p=>mJ p 1 (kO c.path) (decide (c.path=[]))&&(mJ p 2 (kO c.to) (decide (c.to=[]))&&(mJ p 4 (decide ((c.data.length:Int)≤if c.kind=13 then 4000 else 64)) (decide (c.data=[]))&&mJ p 8 (decide (0≤c.n)) (decide (c.n=0))))
theorem aJV(k:Int):k=1∨k=2∨k=6∨k=10∨k=3∨k=4∨k=7∨k=5∨k=9∨k=11∨k=13∨k=8∨k=12∨
  ((k=1)=False∧(k=2)=False∧(k=6)=False∧(k=10)=False∧(k=3)=False∧(k=4)=False∧(k=7)=False∧(k=5)=False∧(k=9)=False∧(k=11)=False∧(k=13)=False∧(k=8)=False∧(k=12)=False):=by
 simp only[eq_iff_iff,iff_false];omega
end Go.Gw
namespace Go.Proofs.YthhdnjiodklmmaaGreatDoor
open Go Go.Aw Go.Gw
set_option linter.unusedSimpArgs false
set_option linter.unusedVariables false
set_option maxRecDepth 20000
set_option maxHeartbeats 4000000
theorem aRc(k:Int)(H:AHeap):cN Tryz.prog 64 [.int .i64 k] H (.tup [.int .i64 ((mA k).getD 0),.bool (mA k).isSome]):=by
 refine aQ Tryz.func64 rfl (Nat.le_of_ble_eq_true rfl) ?_
 rcases aJV k with rfl|rfl|rfl|rfl|rfl|rfl|rfl|rfl|rfl|rfl|rfl|rfl|rfl|⟨h1,h2,h3,h4,h5,h6,h7,h8,h9,h10,h11,h12,h13⟩
 iterate 13 focus ((repeat' first|(refine gS ?_;simp only[go_sem,Int.reduceEq])|refine gA ?_|(refine gD (fun h=>?_) (fun h=>?_)<;>try exact aB h)|fail);exact aT (by simp only[go_sem]) (.refl _))
 have z:∀m:Int,(k=m)=False→decide (k=m)=false:=fun m h=>by simp[h]
 have z1:=z 1 h1
 have z2:=z 2 h2
 have z3:=z 6 h3
 have z4:=z 10 h4
 have z5:=z 3 h5
 have z6:=z 4 h6
 have z7:=z 7 h7
 have z8:=z 5 h8
 have z9:=z 9 h9
 have z10:=z 11 h10
 have z11:=z 13 h11
 have z12:=z 8 h12
 have z13:=z 12 h13
 repeat' first|(refine gS ?_;simp only[go_sem,z1,z2,z3,z4,z5,z6,z7,z8,z9,z10,z11,z12,z13])|refine gA ?_|(refine gD (fun h=>?_) (fun h=>?_)<;>try exact aB h)|fail
 exact aT (by simp only[go_sem]) (.of (by simp[mA,h1,h2,h3,h4,h5,h6,h7,h8,h9,h10,h11,h12,h13]))
theorem aDk(s:Txt)(hs:s.length≤1048576)(H:AHeap):cN Tryz.prog 66 [.str s] H (.bool (kO s)):=by
 refine aQ Tryz.func66 rfl (Nat.le_of_ble_eq_true rfl) ?_
 have h:=aCv s hs
 unfold tB at h
 unfold kO
 cases hn:fZ s with
 |none=>
  simp only[hn]at h
  have ct0:=ct h eN;repeat' first|((first|refine gK ?_|refine gS ?_);simp only[go_sem,Int.reduceEq])|refine gA ?_|(refine gD (fun h=>?_) (fun h=>?_)<;>try exact aB h)|fail
  exact aT (by simp only[go_sem]) (.refl _)
 |some l=>
  simp only[hn]at h
  have ct0:=ct h eN;repeat' first|((first|refine gK ?_|refine gS ?_);simp only[go_sem,Int.reduceEq])|refine gA ?_|(refine gD (fun h=>?_) (fun h=>?_)<;>try exact aB h)|fail
  exact aT (by simp only[go_sem]) (.refl _)
theorem qR(p part:Int)(r e:Bool)(i:Nat)(G:AHeap)(hh:hget G i=.cells 0 [.int .i64 p]):cN Tryz.prog 65 [.int .i64 part,.bool r,.bool e,.ref i 0 0] G (.bool (mJ p part r e)):=by
 refine aQ Tryz.func65 rfl (Nat.le_of_ble_eq_true rfl) ?_
 unfold mJ
 by_cases h:dZ .and .i64 p part=0
 ·rw[if_pos h]
  have hz:decide (dZ .and .i64 p part=0)=true:=decide_eq_true h
  repeat' first|(refine gS ?_;simp only[go_sem,hh,hz])|refine gA ?_|(refine gD (fun h=>?_) (fun h=>?_)<;>try exact aB h)|fail
  exact aT (by simp only[go_sem]) (.refl _)
 ·rw[if_neg h]
  have hz:decide (dZ .and .i64 p part=0)=false:=decide_eq_false h
  repeat' first|(refine gS ?_;simp only[go_sem,hh,hz])|refine gA ?_|(refine gD (fun h=>?_) (fun h=>?_)<;>try exact aB h)|fail
  exact aT (by simp only[go_sem]) (.refl _)
theorem bB6(c:Cal)(hp:c.path.length≤1048576)(ht:c.to.length≤1048576)(H:AHeap):cN Tryz.prog 31 [gY c] H (.bool (chkC c)):=by
 refine aQ Tryz.func31 rfl (Nat.le_of_ble_eq_true rfl) ?_
 have hh:=aRc c.kind
 have h1:=aDk c.path hp
 have h2:=aDk c.to ht
 unfold chkC
 cases hk:mA c.kind with
 |none=>
  simp only[hk,Option.getD_none,Option.isSome_none]at hh ⊢
  have ct0:=ct hh rT;repeat' first|((first|refine gK ?_|refine gS ?_);simp only[go_sem,gY])|refine gA ?_|(refine gD (fun h=>?_) (fun h=>?_)<;>try exact aB h)|fail
  exact done (by simp only[go_sem]) (.refl _)
 |some p=>
  simp only[hk,Option.getD_some,Option.isSome_some]at hh ⊢
  have f1:=qR p 1 (kO c.path) (decide (c.path=[])) (H.length+1) (H++[.cells 0 [.int .i64 c.kind,.str c.path,.str c.to,.str c.data,.int .i64 c.n],.cells 0 [.int .i64 p]]) (by simp only[go_sem])
  have f2:=qR p 2 (kO c.to) (decide (c.to=[])) (H.length+1) (H++[.cells 0 [.int .i64 c.kind,.str c.path,.str c.to,.str c.data,.int .i64 c.n],.cells 0 [.int .i64 p]]) (by simp only[go_sem])
  have f4:=qR p 8 (decide (0≤c.n)) (decide (c.n=0)) (H.length+1) (H++[.cells 0 [.int .i64 c.kind,.str c.path,.str c.to,.str c.data,.int .i64 c.n],.cells 0 [.int .i64 p]]) (by simp only[go_sem])
  by_cases h13:c.kind=13
  ·have hd:decide (c.kind=13)=true:=decide_eq_true h13
   rw[if_pos h13]
   have f3:=qR p 4 (decide ((c.data.length:Int)≤4000)) (decide (c.data=[])) (H.length+1) (H++[.cells 0 [.int .i64 c.kind,.str c.path,.str c.to,.str c.data,.int .i64 c.n],.cells 0 [.int .i64 p]]) (by simp only[go_sem])
   generalize mJ p 1 (kO c.path) (decide (c.path=[]))=x1 at *
   generalize mJ p 2 (kO c.to) (decide (c.to=[]))=x2 at *
   generalize mJ p 4 (decide ((c.data.length:Int)≤4000)) (decide (c.data=[]))=x3 at *
   generalize mJ p 8 (decide (0≤c.n)) (decide (c.n=0))=x4 at *
   cases x1<;>cases x2<;>cases x3
   all_goals(have ct0:=ct hh rT;have ct1:=ct h1 nI;have ct2:=ct h2 nI;repeat' first|((first|refine gK ?_|refine dL (f1) bR ?_|refine dM (fun _=>f1) bR ?_|refine dN (fun _=>f1) bR ?_|refine dL (f2) bR ?_|refine dM (fun _=>f2) bR ?_|refine dN (fun _=>f2) bR ?_|refine dL (f3) bR ?_|refine dM (fun _=>f3) bR ?_|refine dN (fun _=>f3) bR ?_|refine dL (f4) bR ?_|refine dM (fun _=>f4) bR ?_|refine dN (fun _=>f4) bR ?_|refine gS ?_);simp only[go_sem,gY,hd])|refine gA ?_|(refine gD (fun h=>?_) (fun h=>?_)<;>try exact aB h)|fail)
   all_goals exact done (by simp only[go_sem]) (.refl _)
  ·have hd:decide (c.kind=13)=false:=decide_eq_false h13
   rw[if_neg h13]
   have f3:=qR p 4 (decide ((c.data.length:Int)≤64)) (decide (c.data=[])) (H.length+1) (H++[.cells 0 [.int .i64 c.kind,.str c.path,.str c.to,.str c.data,.int .i64 c.n],.cells 0 [.int .i64 p]]) (by simp only[go_sem])
   generalize mJ p 1 (kO c.path) (decide (c.path=[]))=x1 at *
   generalize mJ p 2 (kO c.to) (decide (c.to=[]))=x2 at *
   generalize mJ p 4 (decide ((c.data.length:Int)≤64)) (decide (c.data=[]))=x3 at *
   generalize mJ p 8 (decide (0≤c.n)) (decide (c.n=0))=x4 at *
   cases x1<;>cases x2<;>cases x3
   all_goals(have ct0:=ct hh rT;have ct1:=ct h1 nI;have ct2:=ct h2 nI;repeat' first|((first|refine gK ?_|refine dL (f1) bR ?_|refine dM (fun _=>f1) bR ?_|refine dN (fun _=>f1) bR ?_|refine dL (f2) bR ?_|refine dM (fun _=>f2) bR ?_|refine dN (fun _=>f2) bR ?_|refine dL (f3) bR ?_|refine dM (fun _=>f3) bR ?_|refine dN (fun _=>f3) bR ?_|refine dL (f4) bR ?_|refine dM (fun _=>f4) bR ?_|refine dN (fun _=>f4) bR ?_|refine gS ?_);simp only[go_sem,gY,hd])|refine gA ?_|(refine gD (fun h=>?_) (fun h=>?_)<;>try exact aB h)|fail)
   all_goals exact done (by simp only[go_sem]) (.refl _)
end Go.Proofs.YthhdnjiodklmmaaGreatDoor
/- A replica behind a call, in plain Lean. No condition. -/
namespace Go.Gw
open Go Go.Aw Go.Proofs.YthhdnjiodklmmaaGreatDoor
def errA(e:Int):Ans:={an0 with err:=e}
def doM(m:Mdl)(c:Cal):Mdl×Ans×List Opn:=
 if chkC c=false then(m,errA 180,[])else
 if(fQ c ⟨m,an0,[]⟩).1=0 then
  (if(fQ c ⟨m,an0,[]⟩).2.ops=[]then((fQ c ⟨m,an0,[]⟩).2.m,(fQ c ⟨m,an0,[]⟩).2.a,[])
  else((aMe m.log.nodes (fQ c ⟨m,an0,[]⟩).2).m,(fQ c ⟨m,an0,[]⟩).2.a,(fQ c ⟨m,an0,[]⟩).2.ops))
 else(m,errA (fQ c ⟨m,an0,[]⟩).1,[])
def aCz:Mdl→List Cal→Mdl×List Ans
 |m,[]=>(m,[])
 |m,c::l=>((aCz (doM m c).1 l).1,(doM m c).2.1::(aCz (doM m c).1 l).2)
def wC(r:Int):Mdl×Int:=if 0≤r∧r≤63 then({md0 with rep:=r,next:=1},0)else(md0,20)
def jH(m:Mdl)(l:List Opn):Mdl:={m with log:=lV m.log l,seen:=l.foldl (fun n o=>if opOk o=true then aA3 n o.at_ else n) m.seen}
end Go.Gw
/- Logs, in plain Lean: sizes, and which operations there are. No condition. -/
namespace Go.Gw
open Go Go.Aw Go.Proofs.YthhdnjiodklmmaaGreatDoor
theorem aA6(l:List Opn)(es:List Ent)(n:List Nd):(dP l es n).1.map Ent.op=es.map Ent.op++l:=by
 induction l generalizing es n with
 |nil=>simp[dP]
 |cons o l ih=>unfold dP;rw[ih];simp
def aGA(g:Lg)(o:Opn):Nat:=g.entries.length-(dT o.at_ g.entries.reverse g.nodes).1
theorem aGB(g:Lg)(o:Opn):opsG (fB g o)=if opOk o=false∨lH g.entries o.at_=true∨(200:Int)≤(g.entries.length:Int)then opsG g
  else(opsG g).take (aGA g o)++o::(opsG g).drop (aGA g o):=by
 unfold fB opsG
 by_cases h1:opOk o=false
 ·rw[if_pos h1,if_pos (.inl h1)]
 ·by_cases h2:lH g.entries o.at_=true
  ·rw[if_neg h1,if_pos h2,if_pos (.inr (.inl h2))]
  ·by_cases h3:(200:Int)≤(g.entries.length:Int)
   ·rw[if_neg h1,if_neg h2,if_pos h3,if_pos (.inr (.inr h3))]
   ·rw[if_neg h1,if_neg h2,if_neg h3,if_neg (by rintro(h|h|h)<;>contradiction),aA6]
    simp only[aGA,List.map_take,List.map_drop]
theorem aGC(g:Lg)(o:Opn):(fB g o).entries.length≤g.entries.length+1∧((fB g o).entries.length≤200∨(fB g o).entries.length=g.entries.length)∧(g.entries.length≤200→(fB g o).nodes.length≤g.nodes.length+401):=by
 unfold fB
 split
 ·exact⟨by omega,.inr rfl,fun _=>by omega⟩
 ·split
  ·exact⟨by omega,.inr rfl,fun _=>by omega⟩
  ·split
   ·exact⟨by omega,.inr rfl,fun _=>by omega⟩
   ·have h1:=aGj o.at_ g.entries.reverse g.nodes
    have h2:=aEc o.at_ g.entries.reverse g.nodes
    have h3:=aAV (o::(g.entries.drop (g.entries.length-(dT o.at_ g.entries.reverse g.nodes).1)).map Ent.op) (g.entries.take (g.entries.length-(dT o.at_ g.entries.reverse g.nodes).1)) (dT o.at_ g.entries.reverse g.nodes).2
    rw[List.length_reverse]at h1 h2
    simp only[List.length_cons,List.length_map,List.length_drop,List.length_take]at h3
    refine⟨by simp only;omega,.inl (by simp only;omega),fun h=>by simp only;omega⟩
theorem aGD(g:Lg)(o:Opn)(P:Opn→Prop)(h:∀e∈g.entries,P e.op)(ho:P o):∀e∈(fB g o).entries,P e.op:=by
 intro e he
 have h1:e.op∈opsG (fB g o):=List.mem_map_of_mem he
 rw[aGB]at h1
 have hg:∀x∈opsG g,P x:=fun x hx=>by obtain⟨e',he',rfl⟩:=List.mem_map.1 hx;exact h e' he'
 split at h1
 ·exact hg _ h1
 ·rw[List.mem_append,List.mem_cons]at h1
  rcases h1 with h1|h1|h1
  ·exact hg _ (List.mem_of_mem_take h1)
  ·rw[h1];exact ho
  ·exact hg _ (List.mem_of_mem_drop h1)
structure Fit (g:Lg) (k:Nat):Prop where
 ops:∀e∈g.entries,OpS e.op
 len:g.entries.length≤200
 nodes:g.nodes.length+401 * k≤1000000
theorem Fit.add{g:Lg}{k:Nat}(h:Fit g (k+1)){o:Opn}(ho:OpS o):Fit (fB g o) k:=by
 have h1:=aGC g o
 have h2:=h.len
 have h3:=h.nodes
 refine⟨aGD g o OpS h.ops ho,by rcases h1.2.1 with q|q<;>omega,?_⟩
 have:=h1.2.2 h2
 omega
theorem Fit.all{g:Lg}{l:List Opn}{k:Nat}(h:Fit g (l.length+k))(hl:∀o∈l,OpS o):Fit (lV g l) k:=by
 induction l generalizing g with
 |nil=>exact⟨h.ops,h.len,by have:=h.nodes;simp at this;exact this⟩
 |cons o l ih=>
  exact ih (Fit.add ⟨h.ops,h.len,by have:=h.nodes;simp at this;omega⟩ (hl o (by simp)))fun x hx=>hl x (by simp[hx])
theorem Fit.less{g:Lg}{k j:Nat}(h:Fit g k)(hj:j≤k):Fit g j:=⟨h.ops,h.len,by have:=h.nodes;omega⟩
theorem Fit.nil(k:Nat)(h:k≤2000):Fit ⟨[],[]⟩ k:=⟨by simp,by simp,by simp;omega⟩
theorem bB7(g:Lg)(a b:List Opn):lV g (a++b)=lV (lV g a) b:=by
 induction a generalizing g with
 |nil=>rfl
 |cons o a ih=>exact ih _
theorem bB8(g:Lg)(a b:List Opn):vP g (a++b)=vP g a+vP (lV g a) b:=by
 induction a generalizing g with
 |nil=>simp[vP,lV]
 |cons o a ih=>rw[List.cons_append,vP,vP,lV,ih];omega
theorem bDs(g:Lg)(l:List Opn):0≤vP g l∧vP g l≤l.length:=by
 induction l generalizing g with
 |nil=>simp[vP]
 |cons o l ih=>have:=ih (fB g o);unfold vP;simp only[List.length_cons];split<;>omega
end Go.Gw
