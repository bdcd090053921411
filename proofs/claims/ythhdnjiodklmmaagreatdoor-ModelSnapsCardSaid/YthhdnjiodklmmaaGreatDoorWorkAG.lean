/- The texts 7 of 51 beneath the rows of this seat (joined by program): the abstract machine, and what the functions answer. No condition. -/
import Derived.Test.YthhdnjiodklmmaaGreatDoorWorkAE
set_option linter.unusedSimpArgs false
set_option linter.unusedVariables false
set_option linter.unusedSectionVars false
/- What the functions of the names answer, ars far ars operations reach them. No condition. -/
namespace Go.Gw
open Go Go.Aw
def aAu(p s:Txt):Bool:=decide (p.length≤s.length)&&decide (s.take p.length=p)
def vP(c:Int):AV:=.int .i32 c
def iK(s:Txt):Nat→Nat→Option (List Int)
 |0,pos=>if pos<s.length then none else some []
 |k+1,pos=>if pos<s.length then
   if(!decide (((hC s pos).1:Int)=65533))=true∨aAu [239,191,189] (s.drop pos)=true then(iK s k (pos+(hC s pos).2)).map (((hC s pos).1:Int)::·)else none
  else some []
def mZ(s:Txt):Option (List Int):=iK s s.length 0
theorem tI(s:Txt)(pos:Nat):1≤(hC s pos).2:=by
 unfold hC Utf8.decode
 simp only[]
 repeat' split
 all_goals simp
def iT{α:Type}(p:α→Bool):List α→Int
 |[]=> -1
 |x::l=>if p x=true then 0 else if iT p l= -1 then-1 else iT p l+1
theorem aFH{α:Type}(p:α→Bool)(l:List α): -1≤iT p l:=by
 induction l with
 |nil=>simp[iT]
 |cons x l ih=>unfold iT;(repeat' split)<;>omega
theorem nY{α:Type}(p:α→Bool)(l:List α):decide (0≤iT p l)=l.any p:=by
 induction l with
 |nil=>simp[iT]
 |cons x l ih=>
  have:=aFH p l
  unfold iT
  rw[List.any_cons,←ih]
  by_cases h:p x=true
  ·simp[h]
  ·rw[if_neg h]
   have:p x=false:=by simpa using h
   rw[this,Bool.false_or]
   by_cases h2:iT p l= -1
   ·simp[h2]
   ·rw[if_neg h2,Bool.eq_iff_iff];simp;omega
theorem nA{α:Type}(p:α→Bool)(l:List α)(i:Nat)(hi:i<l.length)(h:∀k (hk:k<i),p (l[k]'(by omega))=false)(hp:p l[i]=true):iT p l=i:=by
 induction l generalizing i with
 |nil=>simp at hi
 |cons x l ih=>
  cases i with
  |zero=>simp at hp;simp[iT,hp]
  |succ i=>
   have h0:=h 0 (by omega)
   simp at h0
   have h1:=ih i (by simpa using hi) (fun k hk=>by simpa using h (k+1) (by omega)) (by simpa using hp)
   unfold iT
   rw[h0,h1]
   simp
theorem nB{α:Type}(p:α→Bool)(l:List α)(h:∀k (hk:k<l.length),p l[k]=false):iT p l= -1:=by
 induction l with
 |nil=>rfl
 |cons x l ih=>
  have h0:=h 0 (by simp)
  simp at h0
  unfold iT
  rw[h0,ih fun k hk=>h (k+1) (by simpa using hk)]
  rfl
def uI(c:Int):Bool:=decide (c<32)||decide (c=47)||decide (c=127)
def iV(s:Txt):Bool:=
 match mZ s with
 |some l=>bif (decide ((l.length:Int)<1)||decide (20<(l.length:Int))||decide (s=[46])||decide (s=[46,46]))then false else !l.any uI
 |none=>false
end Go.Gw
namespace Go.Proofs.YthhdnjiodklmmaaGreatDoor
open Go Go.Aw Go.Gw
set_option linter.unusedSimpArgs false
set_option maxRecDepth 20000
theorem aEJ(s p:Txt)(H:AHeap):cJ Tryz.prog 228 [.str s,.str p] H (.bool (aAu p s)):=by
 refine aL Tryz.func228 rfl (Nat.le_of_ble_eq_true rfl) ?_
 repeat' first|(refine gS ?_;simp only[go_sem])|refine gA ?_|(refine gD (fun h=>?_) (fun h=>?_)<;>try exact aA h)|fail
 exact aY (by simp only[go_sem]) (.of (by simp only[aAu,Int.ofNat_le]))
theorem aIW(s p:Txt)(H:AHeap):cJ Tryz.prog 227 [.str s,.str p] H (.bool (aAu p s)):=by
 refine aL Tryz.func227 rfl (Nat.le_of_ble_eq_true rfl) ?_
 repeat' first|((first|refine cK (ct (aEJ _ _) kQ) ?_|refine cP (ct (aEJ _ _) kQ) ?_|refine cM (ct (aEJ _ _) kQ) ?_|refine gS ?_);simp only[go_sem])|refine gA ?_|(refine gD (fun h=>?_) (fun h=>?_)<;>try exact aA h)|fail
 exact aY (by simp only[go_sem]) (.refl _)
theorem aIX(c:Int)(H:AHeap):cJ Tryz.prog 233 [.int .i32 c] H (.bool (uI c)):=by
 refine aL Tryz.func233 rfl (Nat.le_of_ble_eq_true rfl) ?_
 repeat' first|(refine gS ?_;simp only[go_sem])|refine gA ?_|(refine gD (fun h=>?_) (fun h=>?_)<;>try exact aA h)|fail
 exact aY (by simp only[go_sem]) (.refl _)
theorem aG0(b:Bool)(l:List Int)(fv:AV)(p:Int→Bool)(H:AHeap)(hf:∀c,FnV Tryz.prog fv [.int .i32 c] H (.bool (p c))):
  cJ Tryz.prog 247 [.sl b (l.map vP),fv] H (.int .i64 (iT p l)):=by
 refine gI fun hok _=>?_
 have hl:=lK hok
 rw[List.length_map]at hl
 refine aL Tryz.func247 rfl (Nat.le_of_ble_eq_true rfl) ?_
 repeat' first|(refine gS ?_;simp only[go_sem])|refine gA ?_|(refine gD (fun h=>?_) (fun h=>?_)<;>try exact aA h)|fail
 refine aP (ι:=Nat) (fun i=>[(0,.sl b (l.map vP)),(1,fv),(7,.int .i64 l.length),(8,.int .i64 i)]) (fun _=>H) (fun i=>i≤l.length∧∀k (hk:k<i) (hk2:k<l.length),p l[k]=false) (fun i=>l.length-i) 0 ⟨Nat.zero_le _,fun k hk=>by omega⟩ ?_ rfl ?_
 ·simp[go_sem]
 ·rintro i ⟨hi,hno⟩
  by_cases hlt:i<l.length
  ·have hp:=bA vP hlt
   repeat' first|(refine gS ?_;simp only[go_sem,hp,vP])|refine gA ?_|(refine gD (fun h=>?_) (fun h=>?_)<;>try exact aA h)|fail
   refine pW (hf _) ?_
   simp only[go_sem]
   repeat' first|(refine gS ?_;simp only[go_sem])|refine gA ?_|(refine gD (fun h=>?_) (fun h=>?_)<;>try exact aA h)|fail
   ·exact aY (by simp only[go_sem]) (.of (by rw[nA p l i hlt (fun k hk=>hno k hk (by omega)) h]))
   ·refine⟨i+1,⟨hlt,fun k hk hk2=>?_⟩,by omega,by rw[wrap_i64 (by omega) (by omega)];rfl⟩
    by_cases e:k=i
    ·subst e;exact h
    ·exact hno k (by omega) hk2
  ·have hi':i=l.length:=by omega
   repeat' first|(refine gS ?_;simp only[go_sem])|refine gA ?_|(refine gD (fun h=>?_) (fun h=>?_)<;>try exact aA h)|fail
   subst hi'
   exact aY (by simp only[go_sem]) (.of (by rw[nB p l fun k hk=>hno k hk hk]))
theorem aG1(b:Bool)(l:List Int)(fv:AV)(p:Int→Bool)(H:AHeap)(hf:∀c,FnV Tryz.prog fv [.int .i32 c] H (.bool (p c))):
  cJ Tryz.prog 232 [.sl b (l.map vP),fv] H (.bool (l.any p)):=by
 refine aL Tryz.func232 rfl (Nat.le_of_ble_eq_true rfl) ?_
 have hx:=aG0 b l fv p H hf
 repeat' first|((first|refine aV (hx) tC ?_|refine aW (hx) tC ?_|refine aX (fun _=>hx) tC ?_|refine gS ?_);simp only[go_sem])|refine gA ?_|(refine gD (fun h=>?_) (fun h=>?_)<;>try exact aA h)|fail
 exact aY (by simp only[go_sem]) (.of (by rw[nY]))
theorem nC(s:Txt):∀(k j pos:Nat),s.length≤pos+k→s.length≤pos+j→iK s k pos=iK s j pos
 |0,0,pos,_,_=>rfl
 |0,j+1,pos,h1,_=>by unfold iK;rw[if_neg (by omega),if_neg (by omega)]
 |k+1,0,pos,_,h2=>by unfold iK;rw[if_neg (by omega),if_neg (by omega)]
 |k+1,j+1,pos,h1,h2=>by
  have:=tI s pos
  unfold iK
  rw[nC s k j _ (by omega) (by omega)]
def wH(s:Txt)(acc:List Int)(pos:Nat):Option (List Int):=(iK s (s.length-pos) pos).map (acc++·)
theorem aEK{s:Txt}{acc:List Int}{pos:Nat}(h:¬pos<s.length):wH s acc pos=some acc:=by
 unfold wH
 rw[nC s _ 0 pos (by omega) (by omega)]
 simp[iK,h]
theorem aDa{s:Txt}{acc:List Int}{pos:Nat}(h:pos<s.length):wH s acc pos=
  if(!decide (((hC s pos).1:Int)=65533))=true∨aAu [239,191,189] (s.drop pos)=true then wH s (acc++[((hC s pos).1:Int)]) (pos+(hC s pos).2)else none:=by
 have hw:=tI s pos
 unfold wH
 rw[nC s _ (s.length-pos-1+1) pos (by omega) (by omega)]
 conv=>lhs;unfold iK
 rw[if_pos h]
 split
 ·rw[nC s (s.length-pos-1) (s.length-(pos+(hC s pos).2)) _ (by omega) (by omega)]
  cases iK s (s.length-(pos+(hC s pos).2)) (pos+(hC s pos).2)<;>simp
 ·rfl
def aAv(r:Option (List Int)):AV:=
 match r with
 |some l=>.tup [.sl false (l.map vP),.bool true]
 |none=>.tup [.sl false [],.bool false]
theorem aDb(n:Nat)(k:IntKind):(List.replicate n (AV.int k 0)).flatMap AV.cells=List.replicate n (AV.int k 0):=by
 induction n with
 |zero=>rfl
 |succ n ih=>rw[List.replicate_succ,List.flatMap_cons,ih];rfl
theorem tJ(A:List AV)(m:Nat)(z x:AV):cR (A++List.replicate (m+1) z) A.length [x]=(A++[x])++List.replicate m z:=by
 simp[cR,List.replicate_succ]
def aEL(s:Txt)(x:Nat×List Int):AHeap:=[.cells 1 (x.2.map vP++List.replicate (s.length-x.2.length) (AV.int .i32 0)),.siter s x.1]
theorem aFI(s:Txt)(hs:s.length≤1073741824)(H:AHeap):cJ Tryz.prog 201 [.str s] H (aAv (mZ s)):=by
 refine aL Tryz.func201 rfl (Nat.le_of_ble_eq_true rfl) ?_
 repeat' first|(refine gS ?_;simp only[go_sem])|refine gA ?_|(refine gD (fun h=>?_) (fun h=>?_)<;>try exact aA h)|fail
 refine aP (ι:=Nat×List Int) (fun x=>[(0,.str s),(4,.osl 1 H.length 1 0 x.2.length s.length),(5,.bool true),(12,.iter (H.length+1))]) (fun x=>H++aEL s x)
  (fun x=>wH s x.2 x.1=mZ s∧x.2.length≤x.1) (fun x=>s.length+4-x.1) (0,[]) ?_ ?_ ?_ ?_
 ·refine⟨?_,Nat.le_refl _⟩
  show(iK s (s.length-0) 0).map _=_
  rw[mZ,Nat.sub_zero]
  cases iK s s.length 0<;>simp
 ·simp[go_sem]
 ·simp[aEL,aDb]
 ·rintro⟨pos,acc⟩ ⟨h1,h2⟩
  simp only[aEL]at h1 h2 ⊢
  by_cases hlt:pos<s.length
  ·have hne:¬acc.length=s.length:=by omega
   have hlen:(acc.map vP).length=acc.length:=List.length_map ..
   obtain⟨m,hm⟩:∃m,s.length-acc.length=m+1:=⟨s.length-acc.length-1,by omega⟩
   have hm2:s.length-(acc.length+1)=m:=by omega
   have hw:=tI s pos
   have hst:=aDa (acc:=acc) hlt
   rw[h1]at hst
   repeat' first|((first|refine cK (ct (aIW _ _) sY) ?_|refine cP (ct (aIW _ _) sY) ?_|refine cM (ct (aIW _ _) sY) ?_|refine gS ?_);simp only[go_sem,hlt,hne])|refine gA ?_|(refine gD (fun h=>?_) (fun h=>?_)<;>try exact aA h)|fail
   ·rw[if_pos (.inl h)]at hst
    refine⟨⟨by rw[List.length_replicate];omega,by omega,fun e he=>by rw[he];rfl⟩,(pos+(hC s pos).2,acc++[((hC s pos).1:Int)]),⟨hst.symm,by simp;omega⟩,by simp;omega,by simp,?_⟩
    have hsp:=tJ (acc.map vP) m (.int .i32 0) (.int .i32 (hC s pos).1)
    rw[hlen]at hsp
    simp[hm,hm2,vP]at hsp ⊢
    exact hsp
   ·rename_i _ h5 h6
    exact Bool.noConfusion (h5.symm.trans h6)
   ·rw[if_pos (.inr h)]at hst
    refine⟨⟨by rw[List.length_replicate];omega,by omega,fun e he=>by rw[he];rfl⟩,(pos+(hC s pos).2,acc++[((hC s pos).1:Int)]),⟨hst.symm,by simp;omega⟩,by simp;omega,by simp,?_⟩
    have hsp:=tJ (acc.map vP) m (.int .i32 0) (.int .i32 (hC s pos).1)
    rw[hlen]at hsp
    simp[hm,hm2,vP]at hsp ⊢
    exact hsp
   ·rename_i _ h6 h7
    rw[if_neg (by rw[h6,h7];simp)]at hst
    rw[hst]
    exact done (by simp only[go_sem]) (.tup _ _ rfl (aQ (.sl _ _) (aQ (.refl _) fL)))
  ·repeat' first|(refine gS ?_;simp only[go_sem,hlt])|refine gA ?_|(refine gD (fun h=>?_) (fun h=>?_)<;>try exact aA h)|fail
   rw[←h1,aEK hlt]
   refine⟨_,_,rfl,?_,rfl⟩
   refine .tup _ _ rfl fun i x y hx hy=>?_
   match i,hx,hy with
   |0,hx,hy=>
    cases hx;cases hy
    refine .osl 1 H.length 1 0 acc.length s.length (acc.map vP++List.replicate (s.length-acc.length) (AV.int .i32 0)) _ (Nat.le_refl _) (by simp[go_sem]) (by simp) (by simp) (fun e he=>?_) (fun k j e x y hk hj hx=>?_)
    ·obtain⟨c,_,rfl⟩:=List.mem_map.1 he;rfl
    ·rw[List.getElem?_map,Option.map_eq_some_iff]at hk
     obtain⟨c,hc,rfl⟩:=hk
     have hj0:j=0:=by
      have:=(List.getElem?_eq_some_iff.1 hj).1
      simp[vP,AV.cells]at this;exact this
     subst hj0
     have hkl:=(List.getElem?_eq_some_iff.1 hc).1
     simp only[vP,AV.cells,List.getElem?_cons_zero,Option.some.injEq]at hj
     subst hj
     rw[Nat.mul_one,Nat.add_zero,Nat.zero_add,List.getElem?_append_left (by simpa using hkl),List.getElem?_map,hc]at hx
     cases hx
     exact .cl _ (.int _ _)
   |1,hx,hy=>cases hx;cases hy;exact .cl _ (.bool _)
   |i+2,hx,_=>simp at hx
theorem uJ(s:Txt)(hs:s.length≤1073741824)(H:AHeap):cJ Tryz.prog 204 [.str s] H (.bool (iV s)):=by
 refine aL Tryz.func204 rfl (Nat.le_of_ble_eq_true rfl) ?_
 have hsp:=aFI s hs H
 have hany:∀l:List Int,cJ Tryz.prog 232 [.sl false (l.map vP),.func (.func 233) [] []] H (.bool (l.any uI)):=fun l=>aG1 false l _ uI H fun c=>.mk (first:=[]) (cap:=[]) (fun L=>aIX c (H++L)) aEC
 unfold iV
 cases hr:mZ s with
 |none=>
  rw[hr]at hsp
  simp only[aAv]at hsp
  repeat' first|((first|refine aV (hsp) iJ ?_|refine aW (hsp) iJ ?_|refine aX (fun _=>hsp) iJ ?_|refine aV (hany _) kR ?_|refine aW (hany _) kR ?_|refine aX (fun _=>hany _) kR ?_|refine gS ?_);simp only[go_sem])|refine gA ?_|(refine gD (fun h=>?_) (fun h=>?_)<;>try exact aA h)|fail
  exact aY (by simp only[go_sem]) (.refl _)
 |some l=>
  rw[hr]at hsp
  simp only[aAv]at hsp
  repeat' first|((first|refine aV (hsp) iJ ?_|refine aW (hsp) iJ ?_|refine aX (fun _=>hsp) iJ ?_|refine aV (hany _) kR ?_|refine aW (hany _) kR ?_|refine aX (fun _=>hany _) kR ?_|refine gS ?_);simp only[go_sem])|refine gA ?_|(refine gD (fun h=>?_) (fun h=>?_)<;>try exact aA h)|fail
  ·exact aY (by simp only[go_sem]) (.of (by simp only[h,cond_true]))
  ·exact aY (by simp only[go_sem]) (.of (by simp only[h,cond_false]))
def OpS(o:Opn):Prop:=o.name.length≤1073741824∧o.data.length≤1073741824
def rZ(o:Opn):Bool:=fV o.node&&dirI o.parent&& !mE o.at_.c o.at_.r o.parent&&iV o.name&&decide (o.data=[])
def xO(o:Opn):Bool:=fV o.node&&oC o.node&&decide ((o.data.length:Int)≤64)&&decide (o.parent=0)&&decide (o.name=[])
def opOk(o:Opn):Bool:=(decide (o.kind=1)||decide (o.kind=2))&&okI o.at_.c o.at_.r&& !mE o.at_.c o.at_.r o.node&&(if o.kind=1 then rZ o else xO o)
theorem aLS(o:Opn)(hs:OpS o)(H:AHeap):cJ Tryz.prog 271 [opA o] H (.bool (rZ o)):=by
 refine aL Tryz.func271 rfl (Nat.le_of_ble_eq_true rfl) ?_
 have hs1:=hs.1
 simp only[opA]
 repeat' first|((first|refine cK (ct (kU _) bO) ?_|refine cP (ct (kU _) bO) ?_|refine cM (ct (kU _) bO) ?_|refine cK (ct (uH _) dA) ?_|refine cP (ct (uH _) dA) ?_|refine cM (ct (uH _) dA) ?_|refine cK (ct (lM _ _ _) gJ) ?_|refine cP (ct (lM _ _ _) gJ) ?_|refine cM (ct (lM _ _ _) gJ) ?_|refine aV (uJ _ (by first|assumption|decide|omega|(simp_all;done)|(simp_all;omega)) _) mA ?_|refine aW (uJ _ (by first|assumption|decide|omega|(simp_all;done)|(simp_all;omega)) _) mA ?_|refine aX (fun _=>uJ _ (by first|assumption|decide|omega|(simp_all;done)|(simp_all;omega)) _) mA ?_|refine gS ?_);simp only[go_sem])|refine gA ?_|(refine gD (fun h=>?_) (fun h=>?_)<;>try exact aA h)|fail
 exact done (by simp only[go_sem]) (.refl _)
theorem aLT(o:Opn)(H:AHeap):cJ Tryz.prog 273 [opA o] H (.bool (xO o)):=by
 refine aL Tryz.func273 rfl (Nat.le_of_ble_eq_true rfl) ?_
 simp only[opA]
 repeat' first|((first|refine cK (ct (kU _) bO) ?_|refine cP (ct (kU _) bO) ?_|refine cM (ct (kU _) bO) ?_|refine gS ?_);simp only[go_sem])|refine gA ?_|(refine gD (fun h=>?_) (fun h=>?_)<;>try exact aA h)|fail
 exact done (by simp only[go_sem]) (.refl _)
theorem wI(o:Opn)(hs:OpS o)(H:AHeap):cJ Tryz.prog 54 [opA o] H (.bool (opOk o)):=by
 refine aL Tryz.func54 rfl (Nat.le_of_ble_eq_true rfl) ?_
 have hk:=aC8 o
 have hm:=aLS o hs
 have hw:=aLT o
 simp only[opA]at hk hm hw ⊢
 by_cases h1:o.kind=1
 ·simp only[h1,if_true]at hk hm ⊢
  have ct0:=ct hk kK;repeat' first|((first|refine gK ?_|refine cK (ct (iS _ _) cH) ?_|refine cP (ct (iS _ _) cH) ?_|refine cM (ct (iS _ _) cH) ?_|refine cK (ct (lM _ _ _) gJ) ?_|refine cP (ct (lM _ _ _) gJ) ?_|refine cM (ct (lM _ _ _) gJ) ?_|refine eW (hm _) tF ?_|refine eX (fun _=>hm _) tF ?_|refine eY (fun _=>hm _) tF ?_|refine gS ?_);simp only[go_sem])|refine gA ?_|(refine gD (fun h=>?_) (fun h=>?_)<;>try exact aA h)|fail
  exact done (by simp only[go_sem]) (.of (by simp[opOk,h1]))
 ·by_cases h2:o.kind=2
  ·simp only[h2,if_true,if_false,Int.reduceEq]at hk hw ⊢
   have ct0:=ct hk kK;repeat' first|((first|refine gK ?_|refine cK (ct (iS _ _) cH) ?_|refine cP (ct (iS _ _) cH) ?_|refine cM (ct (iS _ _) cH) ?_|refine cK (ct (lM _ _ _) gJ) ?_|refine cP (ct (lM _ _ _) gJ) ?_|refine cM (ct (lM _ _ _) gJ) ?_|refine eW (hw _) tG ?_|refine eX (fun _=>hw _) tG ?_|refine eY (fun _=>hw _) tG ?_|refine gS ?_);simp only[go_sem])|refine gA ?_|(refine gD (fun h=>?_) (fun h=>?_)<;>try exact aA h)|fail
   exact done (by simp only[go_sem]) (.of (by simp[opOk,h1,h2]))
  ·simp only[h1,h2,if_false]at hk
   have ct0:=ct hk kK;repeat' first|((first|refine gK ?_|refine gS ?_);simp only[go_sem])|refine gA ?_|(refine gD (fun h=>?_) (fun h=>?_)<;>try exact aA h)|fail
   exact done (by simp only[go_sem]) (.of (by simp[opOk,h1,h2]))
end Go.Proofs.YthhdnjiodklmmaaGreatDoor
