/- What the functions of this seat answer (8 of 40). No condition. -/
import Derived.Test.YtigedpfipifefaaGreatDoorWorkAG
set_option linter.unusedSimpArgs false
set_option linter.unusedVariables false
set_option maxRecDepth 100000
set_option maxHeartbeats 16000000
namespace Go.Proofs.YtigedpfipifefaaGreatDoor
def rE(p s:Txt):Bool:=decide (p.length≤s.length)&&decide (s.take p.length=p)
def nR(c:Int):AV:=.int .i32 c
def dX(s:Txt):Nat→Nat→Option (List Int)
 |0,pos=>if pos<s.length then none else some []
 |k+1,pos=>if pos<s.length then
   if(!decide (((dR s pos).1:Int)=65533))=true∨rE [239,191,189] (s.drop pos)=true then(dX s k (pos+(dR s pos).2)).map (((dR s pos).1:Int)::·)else none
  else some []
def kE(s:Txt):Option (List Int):=dX s s.length 0
theorem mG(s:Txt)(pos:Nat):1≤(dR s pos).2:=by
 unfold dR Utf8.decode;simp only[];repeat' split
 all_goals simp
def mH{α:Type}(p:α→Bool):List α→Int
 |[]=> -1
 |x::l=>if p x=true then 0 else if mH p l= -1 then-1 else mH p l+1
theorem aF2{α:Type}(p:α→Bool)(l:List α): -1≤mH p l:=by
 induction l with
 |nil=>simp[mH]
 |cons x l ih=>unfold mH;(repeat' split)<;>omega
theorem aDq{α:Type}(p:α→Bool)(l:List α):decide (0≤mH p l)=l.any p:=by
 induction l with
 |nil=>simp[mH]
 |cons x l ih=>
  have:=aF2 p l;unfold mH;rw[List.any_cons,←ih];by_cases h:p x=true
  ·simp[h]
  ·rw[zAk h];have:p x=false:=by simpa using h
   rw[this,Bool.false_or];by_cases h2:mH p l= -1
   ·simp[h2]
   ·rw[zAk h2,Bool.eq_iff_iff];simp;omega
theorem aF3{α:Type}(p:α→Bool)(l:List α)(i:Nat)(hi:i<l.length)(h:∀k (hk:k<i),p (l[k]'(by omega))=false)(hp:p l[i]=true):mH p l=i:=by
 induction l generalizing i with
 |nil=>simp at hi
 |cons x l ih=>
  cases i with
  |zero=>simp at hp;simp[mH,hp]
  |succ i=>
   have h0:=h 0 (by omega)
   simp at h0;have h1:=ih i (by simpa using hi) (fun k hk=>by simpa using h (k+1) (by omega)) (by simpa using hp)
   unfold mH;rw[h0,h1];simp
theorem aF4{α:Type}(p:α→Bool)(l:List α)(h:∀k (hk:k<l.length),p l[k]=false):mH p l= -1:=by
 induction l with
 |nil=>rfl
 |cons x l ih=>
  have h0:=h 0 (by simp)
  simp at h0;unfold mH;rw[h0,ih fun k hk=>h (k+1) (by simpa using hk)]
  rfl
def pS(c:Int):Bool:=decide (c<32)||decide (c=47)||decide (c=127)
def jX(s:Txt):Bool:=
 match kE s with
 |some l=>bif (decide ((l.length:Int)<1)||decide (20<(l.length:Int))||decide (s=[46])||decide (s=[46,46]))then false else !l.any pS
 |none=>false
theorem aI7(s p:Txt)(H:AHeap):bJ Tryz.prog 186 [.str s,.str p] H (.bool (rE p s)):=by
 refine fO Tryz.func186 ?_;repeat' first|(refine gS ?_;simp only[go_sem])|refine gA ?_|(refine gD ?_ ?_<;>intro h<;>try exact aD h)|fail
 exact cU (.of (by simp only[rE,Int.ofNat_le]))
theorem aMn(s p:Txt)(H:AHeap):bJ Tryz.prog 209 [.str s,.str p] H (.bool (rE p s)):=by
 refine fO Tryz.func209 ?_;repeat' first|((first|refine gQ (aI7 _ _) ?_|refine gS ?_);simp only[go_sem])|refine hU ?_|fail
 exact cU (.refl _)
theorem aDr(c:Int)(H:AHeap):bJ Tryz.prog 191 [.int .i32 c] H (.bool (pS c)):=by
 refine fO Tryz.func191 ?_;refine hG ?_;exact cU (.refl _)
theorem aBG(b:Bool)(l:List Int)(fv:AV)(p:Int→Bool)(H:AHeap)(hf:∀c,FnV Tryz.prog fv [.int .i32 c] H (.bool (p c))):
  bJ Tryz.prog 232 [.sl b (l.map nR),fv] H (.int .i64 (mH p l)):=by
 refine pO fun hok _=>?_
 have hl:=tA hok;rw[zAs]at hl;refine fO Tryz.func232 ?_;refine hG ?_;refine aH (ι:=Nat) (fun i=>[(0,.sl b (l.map nR)),(1,fv),(7,.int .i64 l.length),(8,.int .i64 i)]) (fun _=>H) (fun i=>i≤l.length∧∀k (hk:k<i) (hk2:k<l.length),p l[k]=false) (fun i=>l.length-i) 0 ⟨zAv _,fun k hk=>by omega⟩ ?_ rfl ?_
 ·simp[go_sem]
 ·rintro i ⟨hi,hno⟩;by_cases hlt:i<l.length
  ·have hp:=bO nR hlt;repeat' first|(refine gS ?_;simp only[go_sem,hp,nR])|refine gA ?_|(refine gD ?_ ?_<;>intro h<;>try exact aD h)|fail
   refine wL (hf _) ?_;simp only[go_sem];repeat' first|refine hG ?_|(refine gD ?_ ?_<;>intro h<;>try exact aD h)|fail
   ·exact cU (.of (by rw[aF3 p l i hlt (fun k hk=>hno k hk (by omega)) h]))
   ·refine⟨i+1,⟨hlt,fun k hk hk2=>?_⟩,by omega,by rw[wI];rfl⟩
    by_cases e:k=i
    ·subst e;exact h
    ·exact hno k (by omega) hk2
  ·have hi':i=l.length:=by omega
   repeat' first|(refine gS ?_;simp only[go_sem])|refine gA ?_|(refine gD ?_ ?_<;>intro h<;>try exact aD h)|fail
   subst hi';exact cU (.of (by rw[aF4 p l fun k hk=>hno k hk hk]))
theorem aBH(b:Bool)(l:List Int)(fv:AV)(p:Int→Bool)(H:AHeap)(hf:∀c,FnV Tryz.prog fv [.int .i32 c] H (.bool (p c))):
  bJ Tryz.prog 190 [.sl b (l.map nR),fv] H (.bool (l.any p)):=by
 refine fO Tryz.func190 ?_;have hx:=aBG b l fv p H hf;repeat' first|((first|refine cS (hx) (cO) ?_|refine dB (hx) (cO) ?_|refine dE (fun _=>hx) (cO) ?_|refine gS ?_);simp only[go_sem])|refine hU ?_|fail
 exact cU (.of (by rw[aDq]))
theorem iS(s:Txt):∀(k j pos:Nat),s.length≤pos+k→s.length≤pos+j→dX s k pos=dX s j pos
 |0,0,pos,_,_=>rfl
 |0,j+1,pos,h1,_=>by unfold dX;rw[zAk (by omega),zAk (by omega)]
 |k+1,0,pos,_,h2=>by unfold dX;rw[zAk (by omega),zAk (by omega)]
 |k+1,j+1,pos,h1,h2=>by
  have:=mG s pos;unfold dX;rw[iS s k j _ (by omega) (by omega)]
def oH(s:Txt)(acc:List Int)(pos:Nat):Option (List Int):=(dX s (s.length-pos) pos).map (acc++·)
theorem zT{s:Txt}{acc:List Int}{pos:Nat}(h:¬pos<s.length):oH s acc pos=some acc:=by
 unfold oH;rw[iS s _ 0 pos (by omega) (by omega)]
 simp[dX,h]
theorem wU{s:Txt}{acc:List Int}{pos:Nat}(h:pos<s.length):oH s acc pos=
  if(!decide (((dR s pos).1:Int)=65533))=true∨rE [239,191,189] (s.drop pos)=true then oH s (acc++[((dR s pos).1:Int)]) (pos+(dR s pos).2)else none:=by
 have hw:=mG s pos;unfold oH;rw[iS s _ (s.length-pos-1+1) pos (by omega) (by omega)]
 conv=>lhs;unfold dX
 rw[zAp h];split
 ·rw[iS s (s.length-pos-1) (s.length-(pos+(dR s pos).2)) _ (by omega) (by omega)]
  cases dX s (s.length-(pos+(dR s pos).2)) (pos+(dR s pos).2)<;>simp
 ·rfl
def rF(r:Option (List Int)):AV:=
 match r with
 |some l=>.tup [.sl false (l.map nR),.bool true]
 |none=>.tup [.sl false [],.bool false]
theorem wV(n:Nat)(k:IntKind):(List.replicate n (AV.int k 0)).flatMap AV.cells=List.replicate n (AV.int k 0):=by
 induction n with
 |zero=>rfl
 |succ n ih=>rw[zBb,zAF,ih];rfl
theorem mI(A:List AV)(m:Nat)(z x:AV):bI (A++List.replicate (m+1) z) A.length [x]=(A++[x])++List.replicate m z:=by
 simp[bI,zBb]
def zU(s:Txt)(x:Nat×List Int):AHeap:=[.cells 1 (x.2.map nR++List.replicate (s.length-x.2.length) (AV.int .i32 0)),.siter s x.1]
theorem aAY(s:Txt)(hs:s.length≤1073741824)(H:AHeap):bJ Tryz.prog 185 [.str s] H (rF (kE s)):=by
 refine fO Tryz.func185 ?_;repeat' first|(refine gS ?_;simp only[go_sem])|refine gA ?_|(refine gD ?_ ?_<;>intro h<;>try exact aD h)|fail
 refine aH (ι:=Nat×List Int) (fun x=>[(0,.str s),(4,.osl 1 H.length 1 0 x.2.length s.length),(5,.bool true),(12,.iter (H.length+1))]) (fun x=>H++zU s x)
  (fun x=>oH s x.2 x.1=kE s∧x.2.length≤x.1) (fun x=>s.length+4-x.1) (0,[]) ?_ ?_ ?_ ?_
 ·refine⟨?_,zAb _⟩;show(dX s (s.length-0) 0).map _=_;rw[kE,Nat.sub_zero];cases dX s s.length 0<;>simp
 ·simp[go_sem]
 ·simp[zU,wV]
 ·rintro⟨pos,acc⟩ ⟨h1,h2⟩;simp only[zU]at h1 h2 ⊢;by_cases hlt:pos<s.length
  ·have hne:¬acc.length=s.length:=by omega
   have hlen:(acc.map nR).length=acc.length:=zAs ..;obtain⟨m,hm⟩:∃m,s.length-acc.length=m+1:=⟨s.length-acc.length-1,by omega⟩
   have hm2:s.length-(acc.length+1)=m:=by omega
   have hw:=mG s pos;have hst:=wU (acc:=acc) hlt;rw[h1]at hst;repeat' first|((first|refine gQ (aMn _ _) ?_|refine gS ?_);simp only[go_sem,hlt,hne])|refine gA ?_|(refine gD ?_ ?_<;>intro h<;>try exact aD h)|fail
   ·rw[zAp (.inl h)]at hst;refine⟨⟨by rw[zBu];omega,by omega,fun e he=>by rw[he];rfl⟩,(pos+(dR s pos).2,acc++[((dR s pos).1:Int)]),⟨hst.symm,by simp;omega⟩,by simp;omega,by simp,?_⟩
    have hsp:=mI (acc.map nR) m (.int .i32 0) (.int .i32 (dR s pos).1);rw[hlen]at hsp;simp[hm,hm2,nR]at hsp ⊢;exact hsp
   ·rename_i _ h5 h6;exact Bool.noConfusion (h5.symm.trans h6)
   ·rw[zAp (.inr h)]at hst;refine⟨⟨by rw[zBu];omega,by omega,fun e he=>by rw[he];rfl⟩,(pos+(dR s pos).2,acc++[((dR s pos).1:Int)]),⟨hst.symm,by simp;omega⟩,by simp;omega,by simp,?_⟩
    have hsp:=mI (acc.map nR) m (.int .i32 0) (.int .i32 (dR s pos).1);rw[hlen]at hsp;simp[hm,hm2,nR]at hsp ⊢;exact hsp
   ·rename_i _ h6 h7;rw[zAk (by rw[h6,h7];simp)]at hst
    rw[hst];exact dY (.tup _ _ rfl (aI (.sl _ _) (aI (.refl _) dD)))
  ·refine hH ?_;rw[←h1,zT hlt];refine⟨_,_,rfl,?_,rfl⟩;refine .tup _ _ rfl fun i x y hx hy=>?_
   match i,hx,hy with
   |0,hx,hy=>
    cases hx;cases hy;refine .osl 1 H.length 1 0 acc.length s.length (acc.map nR++List.replicate (s.length-acc.length) (AV.int .i32 0)) _ (zAb _) (by simp[go_sem]) (by simp) (by simp) (fun e he=>?_) (fun k j e x y hk hj hx=>?_)
    ·obtain⟨c,_,rfl⟩:=zAi.1 he;rfl
    ·rw[zAY,zAy]at hk;obtain⟨c,hc,rfl⟩:=hk;have hj0:j=0:=by
      have:=(eT.1 hj).1;simp[nR,AV.cells]at this;exact this
     subst hj0;have hkl:=(eT.1 hc).1;simp only[nR,AV.cells,zBG,zBM]at hj;subst hj;rw[zAo,Nat.add_zero,zBn,zAf (by simpa using hkl),zAY,hc]at hx
     cases hx;exact .cl _ (.int _ _)
   |1,hx,hy=>cases hx;cases hy;exact .cl _ (.bool _)
   |i+2,hx,_=>simp at hx
theorem aDs(s:Txt)(hs:s.length≤1073741824)(H:AHeap):bJ Tryz.prog 158 [.str s] H (.bool (jX s)):=by
 refine fO Tryz.func158 ?_;have hsp:=aAY s hs H;have hany:∀l:List Int,bJ Tryz.prog 190 [.sl false (l.map nR),.func (.func 191) [] []] H (.bool (l.any pS)):=fun l=>aBH false l _ pS H fun c=>.mk (first:=[]) (cap:=[]) (fun L=>aDr c (H++L)) (cO)
 unfold jX;cases hr:kE s with
 |none=>
  rw[hr]at hsp;simp only[rF]at hsp;repeat' first|((first|refine cS (hsp) (cO) ?_|refine dB (hsp) (cO) ?_|refine dE (fun _=>hsp) (cO) ?_|refine cS (hany _) (cO) ?_|refine dB (hany _) (cO) ?_|refine dE (fun _=>hany _) (cO) ?_|refine gS ?_);simp only[go_sem])|refine hU ?_|fail
  exact cU (.refl _)
 |some l=>
  rw[hr]at hsp;simp only[rF]at hsp;repeat' first|((first|refine cS (hsp) (cO) ?_|refine dB (hsp) (cO) ?_|refine dE (fun _=>hsp) (cO) ?_|refine cS (hany _) (cO) ?_|refine dB (hany _) (cO) ?_|refine dE (fun _=>hany _) (cO) ?_|refine gS ?_);simp only[go_sem])|refine gA ?_|(refine gD ?_ ?_<;>intro h<;>try exact aD h)|fail
  ·exact cU (.of (by simp only[h,cond_true]))
  ·exact cU (.of (by simp only[h,zCc]))
def aMo(o:Opn):Bool:=iC o.node&&dirI o.parent&& !aDo o.at_.c o.at_.r o.parent&&jX o.name&&decide (o.data=[])
def aMp(o:Opn):Bool:=iC o.node&&oC o.node&&decide ((o.data.length:Int)≤64)&&decide (o.parent=0)&&decide (o.name=[])
def aDt(o:Opn):Bool:=(decide (o.kind=1)||decide (o.kind=2))&&okI o.at_.c o.at_.r&& !aDo o.at_.c o.at_.r o.node&&(if o.kind=1 then aMo o else aMp o)
end Go.Proofs.YtigedpfipifefaaGreatDoor
