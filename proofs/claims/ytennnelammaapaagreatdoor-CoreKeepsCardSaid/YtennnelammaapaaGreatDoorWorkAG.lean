/- What the functions of this seat answer (7 of 38). No condition. -/
import Derived.Test.YtennnelammaapaaGreatDoorWorkAE
import Derived.Test.YtennnelammaapaaGreatDoorWorkAF
set_option linter.unusedSimpArgs false
set_option linter.unusedVariables false
set_option maxRecDepth 100000
set_option maxHeartbeats 16000000
namespace Go.Proofs.YtennnelammaapaaGreatDoor
section
open Go.ChangeShapes Go.WideShapes Go.ChangeAt Go.RowKit
theorem own:ownKnob Tryz.prog.godebug=none:=by kernel_rfl
theorem nF:laidOutB Tryz.prog=true:=by kernel_rfl
theorem aJ8:eP Tryz.prog 3=false:=by kernel_rfl
theorem aR0{x:AV}(h:∃ys,x=mkA Tryz.prog 3 ys∧Sh Tryz.prog 3 ys∧(eP Tryz.prog 3=true∨ys.length=1)):∃n,x=.int .i64 n:=by
 obtain⟨ys,rfl,h,_⟩:=h;obtain⟨n,rfl,hw⟩:=aAU Tryz.underlying3 h;exact⟨n,by rw[mkA,zAe (by rw[aJ8];decide)];rfl⟩
end
section
def okI(a b:Int):Bool:=decide (1≤a)&&decide (a≤1048576)&&decide (0≤b)&&decide (b≤63)
theorem rG{a b:Int}:okI a b=true↔1≤a∧a≤1048576∧0≤b∧b≤63:=by
 simp[okI,and_assoc]
theorem pQ(a b:Int)(H:AHeap):bH Tryz.prog 82 [.agg [.int .i64 a,.int .i64 b]] H (.bool (okI a b)):=by
 refine fO Tryz.func82 ?_;refine hG ?_;exact⟨_,_,rfl,.cl _ (.bool _),rfl⟩
def zC(a b c d:Int):Bool:=decide (a<c)||(decide (a=c)&&decide (b<d))
theorem vF{a b c d:Int}:zC a b c d=true↔(a<c∨(a=c∧b<d)):=by
 simp[zC]
theorem aFk(a b c d:Int)(H:AHeap):bH Tryz.prog 146 [.agg [.int .i64 a,.int .i64 b],.agg [.int .i64 c,.int .i64 d]] H (.bool (zC a b c d)):=by
 refine fO Tryz.func146 ?_;repeat' first|(refine gS ?_;simp only[go_sem])|refine gA ?_|(refine gD ?_ ?_<;>intro h<;>try exact aA h)|fail
 all_goals refine⟨_,_,rfl,.cl _ (.bool _),zAx AV.bool ?_⟩
 all_goals(rw[zBo,vF];simp at *;omega)
def fE(n:Int):Bool:=decide (128≤n)&&decide (n<134217856)
theorem xL{n:Int}:fE n=true↔128≤n∧n<134217856:=by simp[fE]
theorem aJ9{n:Int}:fE n=false↔¬(128≤n∧n<134217856):=by rw[←xL,zBB]
def oA(n:Int):Int:=if fE n=true then n / 128 else 0
def oB(n:Int):Int:=if fE n=true then n % 128 / 2 else 0
def oC(n:Int):Bool:=fE n&&decide (n % 2=1)
theorem aCP(n:Int)(H:AHeap):bH Tryz.prog 60 [.int .i64 n] H (.tup [.agg [.int .i64 (oA n),.int .i64 (oB n)],.bool (oC n),.bool (fE n)]):=by
 refine aAj fun hok=>?_
 have hn:=(aRM hok).2;refine fO Tryz.func60 ?_;repeat' first|((first|refine gQ (pQ _ _) ?_|refine gS ?_);simp only[go_sem])|refine gA ?_|(refine gD ?_ ?_<;>intro h<;>try exact aA h)|fail
 all_goals refine uE (k:=3) rfl ?_
 ·have e:fE n=false:=aJ9.2 (by simp at h;omega)
  simp[oA,oB,oC,e]
 ·rename_i h0;simp at h0;rw[zBk (by omega),zBN (by omega),zBk (by omega),wI,wI]at h
  have h':¬okI (n / 128) (n % 128 / 2)=true:=by simpa using h
  rw[rG]at h';have e:fE n=false:=aJ9.2 (by omega)
  simp[oA,oB,oC,e]
 ·rename_i h0;simp at h0;rw[zBk (by omega),zBN (by omega),zBk (by omega),wI,wI]at h ⊢
  rw[zBN (by omega)]
  have h':okI (n / 128) (n % 128 / 2)=true:=by simpa using h
  rw[rG]at h';have e:fE n=true:=xL.2 (by omega)
  simp[oA,oB,oC,e]
def dirI(n:Int):Bool:=decide (n=0)||decide (n=2)||(fE n&& !oC n)
theorem aA0(n:Int)(H:AHeap):bH Tryz.prog 67 [.int .i64 n] H (.bool (dirI n)):=by
 refine fO Tryz.func67 ?_;repeat' first|((first|refine gQ (aCP _) ?_|refine gS ?_);simp only[go_sem])|refine gA ?_|(refine gD ?_ ?_<;>intro h<;>try exact aA h)|fail
 ·exact aDI (k:=3) rfl (by simp only[dirI,h];rfl)
 ·exact uE (k:=3) rfl (by simp only[dirI,h];rfl)
def mI(a b n:Int):Bool:=fE n&&zC a b (oA n) (oB n)
theorem aCQ(a b n:Int)(H:AHeap):bH Tryz.prog 222 [.agg [.int .i64 a,.int .i64 b],.int .i64 n] H (.bool (mI a b n)):=by
 refine fO Tryz.func222 ?_;repeat' first|((first|refine gQ (aCP _) ?_|refine gQ (aFk _ _ _ _) ?_|refine gS ?_);simp only[go_sem])|refine gA ?_|(refine gD ?_ ?_<;>intro h<;>try exact aA h)|fail
 exact uE (k:=3) rfl rfl
theorem aDR(o:Opn)(H:AHeap):bH Tryz.prog 206 [opA o] H (if o.kind=1 then .iface 308 (opA o)else if o.kind=2 then .iface 334 (opA o)else .nilIface):=by
 refine fO Tryz.func206 ?_;simp only[opA];repeat' first|(refine gS ?_;simp only[go_sem])|refine gA ?_|(refine gD ?_ ?_<;>intro h<;>try exact aA h)|fail
 all_goals(simp only[zAF,zA1]at *)
 ·simp only[h,zBc];exact dY (.refl _)
 ·simp only[*,zBc,zA3];exact dY (.refl _)
 ·simp only[*,zBc,zA3];exact dY (.refl _)
end
section
def aA1(p s:Txt):Bool:=decide (p.length≤s.length)&&decide (s.take p.length=p)
def wY(c:Int):AV:=.int .i32 c
def gV(s:Txt):Nat→Nat→Option (List Int)
 |0,pos=>if pos<s.length then none else some []
 |k+1,pos=>if pos<s.length then
   if(!decide (((fW s pos).1:Int)=65533))=true∨aA1 [239,191,189] (s.drop pos)=true then(gV s k (pos+(fW s pos).2)).map (((fW s pos).1:Int)::·)else none
  else some []
def oP(s:Txt):Option (List Int):=gV s s.length 0
theorem uG(s:Txt)(pos:Nat):1≤(fW s pos).2:=by
 unfold fW Utf8.decode;simp only[];repeat' split
 all_goals simp
def cQ{α:Type}(p:α→Bool):List α→Int
 |[]=> -1
 |x::l=>if p x=true then 0 else if cQ p l= -1 then-1 else cQ p l+1
theorem vG{α:Type}(p:α→Bool)(l:List α): -1≤cQ p l:=by
 induction l with
 |nil=>simp[cQ]
 |cons x l ih=>unfold cQ;(repeat' split)<;>omega
theorem jW{α:Type}(p:α→Bool)(l:List α):decide (0≤cQ p l)=l.any p:=by
 induction l with
 |nil=>simp[cQ]
 |cons x l ih=>
  have:=vG p l;unfold cQ;rw[List.any_cons,←ih];by_cases h:p x=true
  ·simp[h]
  ·rw[zAe h];have:p x=false:=by simpa using h
   rw[this,zCG];by_cases h2:cQ p l= -1
   ·simp[h2]
   ·rw[zAe h2,zBo];simp;omega
theorem eV{α:Type}(p:α→Bool)(l:List α)(i:Nat)(hi:i<l.length)(h:∀k (hk:k<i),p (l[k]'(by omega))=false)(hp:p l[i]=true):cQ p l=i:=by
 induction l generalizing i with
 |nil=>simp at hi
 |cons x l ih=>
  cases i with
  |zero=>simp at hp;simp[cQ,hp]
  |succ i=>
   have h0:=h 0 (by omega)
   simp at h0;have h1:=ih i (by simpa using hi) (fun k hk=>by simpa using h (k+1) (by omega)) (by simpa using hp)
   unfold cQ;rw[h0,h1];simp
theorem eW{α:Type}(p:α→Bool)(l:List α)(h:∀k (hk:k<l.length),p l[k]=false):cQ p l= -1:=by
 induction l with
 |nil=>rfl
 |cons x l ih=>
  have h0:=h 0 (by simp)
  simp at h0;unfold cQ;rw[h0,ih fun k hk=>h (k+1) (by simpa using hk)]
  rfl
def aAm(c:Int):Bool:=decide (c<32)||decide (c=47)||decide (c=127)
def jX(s:Txt):Bool:=
 match oP s with
 |some l=>bif (decide ((l.length:Int)<1)||decide (20<(l.length:Int))||decide (s=[46])||decide (s=[46,46]))then false else !l.any aAm
 |none=>false
theorem aR1(s p:Txt)(H:AHeap):bH Tryz.prog 138 [.str s,.str p] H (.bool (aA1 p s)):=by
 refine fO Tryz.func138 ?_;repeat' first|(refine gS ?_;simp only[go_sem])|refine gA ?_|(refine gD ?_ ?_<;>intro h<;>try exact aA h)|fail
 exact cL (.of (by simp only[aA1,Int.ofNat_le]))
theorem aVz(s p:Txt)(H:AHeap):bH Tryz.prog 183 [.str s,.str p] H (.bool (aA1 p s)):=by
 refine fO Tryz.func183 ?_;repeat' first|((first|refine gQ (aR1 _ _) ?_|refine gS ?_);simp only[go_sem])|refine gA ?_|(refine gD ?_ ?_<;>intro h<;>try exact aA h)|fail
 exact cL (.refl _)
theorem aKa(c:Int)(H:AHeap):bH Tryz.prog 144 [.int .i32 c] H (.bool (aAm c)):=by
 refine fO Tryz.func144 ?_;refine hG ?_;exact cL (.refl _)
theorem aH7(b:Bool)(l:List Int)(fv:AV)(p:Int→Bool)(H:AHeap)(hf:∀c,FnV Tryz.prog fv [.int .i32 c] H (.bool (p c))):
  bH Tryz.prog 184 [.sl b (l.map wY),fv] H (.int .i64 (cQ p l)):=by
 refine fP fun hok _=>?_
 have hl:=jQ hok;rw[zAn]at hl;refine fO Tryz.func184 ?_;refine hG ?_;refine aI (ι:=Nat) (fun i=>[(0,.sl b (l.map wY)),(1,fv),(7,.int .i64 l.length),(8,.int .i64 i)]) (fun _=>H) (fun i=>i≤l.length∧∀k (hk:k<i) (hk2:k<l.length),p l[k]=false) (fun i=>l.length-i) 0 ⟨zAo _,fun k hk=>by omega⟩ ?_ rfl ?_
 ·simp[go_sem]
 ·rintro i ⟨hi,hno⟩;by_cases hlt:i<l.length
  ·have hp:=aN wY hlt;repeat' first|(refine gS ?_;simp only[go_sem,hp,wY])|refine gA ?_|(refine gD ?_ ?_<;>intro h<;>try exact aA h)|fail
   refine kU (hf _) ?_;simp only[go_sem];repeat' first|refine hG ?_|(refine gD ?_ ?_<;>intro h<;>try exact aA h)|fail
   ·exact cL (.of (by rw[eV p l i hlt (fun k hk=>hno k hk (by omega)) h]))
   ·refine⟨i+1,⟨hlt,fun k hk hk2=>?_⟩,by omega,by rw[wI];rfl⟩
    by_cases e:k=i
    ·subst e;exact h
    ·exact hno k (by omega) hk2
  ·have hi':i=l.length:=by omega
   repeat' first|(refine gS ?_;simp only[go_sem])|refine gA ?_|(refine gD ?_ ?_<;>intro h<;>try exact aA h)|fail
   subst hi';exact cL (.of (by rw[eW p l fun k hk=>hno k hk hk]))
theorem aH8(b:Bool)(l:List Int)(fv:AV)(p:Int→Bool)(H:AHeap)(hf:∀c,FnV Tryz.prog fv [.int .i32 c] H (.bool (p c))):
  bH Tryz.prog 143 [.sl b (l.map wY),fv] H (.bool (l.any p)):=by
 refine fO Tryz.func143 ?_;have hx:=aH7 b l fv p H hf;repeat' first|((first|refine aZ (hx) (cO) ?_|refine bA (hx) (cO) ?_|refine bB (fun _=>hx) (cO) ?_|refine gS ?_);simp only[go_sem])|refine gA ?_|(refine gD ?_ ?_<;>intro h<;>try exact aA h)|fail
 exact cL (.of (by rw[jW]))
theorem nG(s:Txt):∀(k j pos:Nat),s.length≤pos+k→s.length≤pos+j→gV s k pos=gV s j pos
 |0,0,pos,_,_=>rfl
 |0,j+1,pos,h1,_=>by unfold gV;rw[zAe (by omega),zAe (by omega)]
 |k+1,0,pos,_,h2=>by unfold gV;rw[zAe (by omega),zAe (by omega)]
 |k+1,j+1,pos,h1,h2=>by
  have:=uG s pos;unfold gV;rw[nG s k j _ (by omega) (by omega)]
def xM(s:Txt)(acc:List Int)(pos:Nat):Option (List Int):=(gV s (s.length-pos) pos).map (acc++·)
theorem aFl{s:Txt}{acc:List Int}{pos:Nat}(h:¬pos<s.length):xM s acc pos=some acc:=by
 unfold xM;rw[nG s _ 0 pos (by omega) (by omega)]
 simp[gV,h]
theorem aDS{s:Txt}{acc:List Int}{pos:Nat}(h:pos<s.length):xM s acc pos=
  if(!decide (((fW s pos).1:Int)=65533))=true∨aA1 [239,191,189] (s.drop pos)=true then xM s (acc++[((fW s pos).1:Int)]) (pos+(fW s pos).2)else none:=by
 have hw:=uG s pos;unfold xM;rw[nG s _ (s.length-pos-1+1) pos (by omega) (by omega)]
 conv=>lhs;unfold gV
 rw[zAl h];split
 ·rw[nG s (s.length-pos-1) (s.length-(pos+(fW s pos).2)) _ (by omega) (by omega)]
  cases gV s (s.length-(pos+(fW s pos).2)) (pos+(fW s pos).2)<;>simp
 ·rfl
def aA2(r:Option (List Int)):AV:=
 match r with
 |some l=>.tup [.sl false (l.map wY),.bool true]
 |none=>.tup [.sl false [],.bool false]
theorem aA3(n:Nat)(k:IntKind):(List.replicate n (AV.int k 0)).flatMap AV.cells=List.replicate n (AV.int k 0):=by
 induction n with
 |zero=>rfl
 |succ n ih=>rw[zB3,zBd,ih];rfl
theorem pR(A:List AV)(m:Nat)(z x:AV):bG (A++List.replicate (m+1) z) A.length [x]=(A++[x])++List.replicate m z:=by
 simp[bG,zB3]
def aFm(s:Txt)(x:Nat×List Int):AHeap:=[.cells 1 (x.2.map wY++List.replicate (s.length-x.2.length) (AV.int .i32 0)),.siter s x.1]
theorem aGN(s:Txt)(hs:s.length≤1073741824)(H:AHeap):bH Tryz.prog 142 [.str s] H (aA2 (oP s)):=by
 refine fO Tryz.func142 ?_;repeat' first|(refine gS ?_;simp only[go_sem])|refine gA ?_|(refine gD ?_ ?_<;>intro h<;>try exact aA h)|fail
 refine aI (ι:=Nat×List Int) (fun x=>[(0,.str s),(4,.osl 1 H.length 1 0 x.2.length s.length),(5,.bool true),(12,.iter (H.length+1))]) (fun x=>H++aFm s x)
  (fun x=>xM s x.2 x.1=oP s∧x.2.length≤x.1) (fun x=>s.length+4-x.1) (0,[]) ?_ ?_ ?_ ?_
 ·refine⟨?_,zAf _⟩;show(gV s (s.length-0) 0).map _=_;rw[oP,Nat.sub_zero];cases gV s s.length 0<;>simp
 ·simp[go_sem]
 ·simp[aFm,aA3]
 ·rintro⟨pos,acc⟩ ⟨h1,h2⟩;simp only[aFm]at h1 h2 ⊢;by_cases hlt:pos<s.length
  ·have hne:¬acc.length=s.length:=by omega
   have hlen:(acc.map wY).length=acc.length:=zAn ..;obtain⟨m,hm⟩:∃m,s.length-acc.length=m+1:=⟨s.length-acc.length-1,by omega⟩
   have hm2:s.length-(acc.length+1)=m:=by omega
   have hw:=uG s pos;have hst:=aDS (acc:=acc) hlt;rw[h1]at hst;repeat' first|((first|refine gQ (aVz _ _) ?_|refine gS ?_);simp only[go_sem,hlt,hne])|refine gA ?_|(refine gD ?_ ?_<;>intro h<;>try exact aA h)|fail
   ·rw[zAl (.inl h)]at hst;refine⟨⟨by rw[List.length_replicate];omega,by omega,fun e he=>by rw[he];rfl⟩,(pos+(fW s pos).2,acc++[((fW s pos).1:Int)]),⟨hst.symm,by simp;omega⟩,by simp;omega,by simp,?_⟩
    have hsp:=pR (acc.map wY) m (.int .i32 0) (.int .i32 (fW s pos).1);rw[hlen]at hsp;simp[hm,hm2,wY]at hsp ⊢;exact hsp
   ·rename_i _ h5 h6;exact Bool.noConfusion (h5.symm.trans h6)
   ·rw[zAl (.inr h)]at hst;refine⟨⟨by rw[List.length_replicate];omega,by omega,fun e he=>by rw[he];rfl⟩,(pos+(fW s pos).2,acc++[((fW s pos).1:Int)]),⟨hst.symm,by simp;omega⟩,by simp;omega,by simp,?_⟩
    have hsp:=pR (acc.map wY) m (.int .i32 0) (.int .i32 (fW s pos).1);rw[hlen]at hsp;simp[hm,hm2,wY]at hsp ⊢;exact hsp
   ·rename_i _ h6 h7;rw[zAe (by rw[h6,h7];simp)]at hst
    rw[hst];exact dY (.tup _ _ rfl (aP (.sl _ _) (aP (.refl _) dE)))
  ·refine hH ?_;rw[←h1,aFl hlt];refine⟨_,_,rfl,?_,rfl⟩;refine .tup _ _ rfl fun i x y hx hy=>?_
   match i,hx,hy with
   |0,hx,hy=>
    cases hx;cases hy;refine .osl 1 H.length 1 0 acc.length s.length (acc.map wY++List.replicate (s.length-acc.length) (AV.int .i32 0)) _ (zAf _) (by simp[go_sem]) (by simp) (by simp) (fun e he=>?_) (fun k j e x y hk hj hx=>?_)
    ·obtain⟨c,_,rfl⟩:=zAm.1 he;rfl
    ·rw[zAP,zAM]at hk;obtain⟨c,hc,rfl⟩:=hk;have hj0:j=0:=by
      have:=(eT.1 hj).1;simp[wY,AV.cells]at this;exact this
     subst hj0;have hkl:=(eT.1 hc).1;simp only[wY,AV.cells,List.getElem?_cons_zero,zB7]at hj;subst hj;rw[zAB,zCC,zBK,zAt (by simpa using hkl),zAP,hc]at hx
     cases hx;exact .cl _ (.int _ _)
   |1,hx,hy=>cases hx;cases hy;exact .cl _ (.bool _)
   |i+2,hx,_=>simp at hx
theorem vH(s:Txt)(hs:s.length≤1073741824)(H:AHeap):bH Tryz.prog 107 [.str s] H (.bool (jX s)):=by
 refine fO Tryz.func107 ?_;have hsp:=aGN s hs H;have hany:∀l:List Int,bH Tryz.prog 143 [.sl false (l.map wY),.func (.func 144) [] []] H (.bool (l.any aAm)):=fun l=>aH8 false l _ aAm H fun c=>.mk (first:=[]) (cap:=[]) (fun L=>aKa c (H++L)) (cO)
 unfold jX;cases hr:oP s with
 |none=>
  rw[hr]at hsp;simp only[aA2]at hsp;repeat' first|((first|refine aZ (hsp) (cO) ?_|refine bA (hsp) (cO) ?_|refine bB (fun _=>hsp) (cO) ?_|refine aZ (hany _) (cO) ?_|refine bA (hany _) (cO) ?_|refine bB (fun _=>hany _) (cO) ?_|refine gS ?_);simp only[go_sem])|refine gA ?_|(refine gD ?_ ?_<;>intro h<;>try exact aA h)|fail
  exact cL (.refl _)
 |some l=>
  rw[hr]at hsp;simp only[aA2]at hsp;repeat' first|((first|refine aZ (hsp) (cO) ?_|refine bA (hsp) (cO) ?_|refine bB (fun _=>hsp) (cO) ?_|refine aZ (hany _) (cO) ?_|refine bA (hany _) (cO) ?_|refine bB (fun _=>hany _) (cO) ?_|refine gS ?_);simp only[go_sem])|refine gA ?_|(refine gD ?_ ?_<;>intro h<;>try exact aA h)|fail
  ·exact cL (.of (by simp only[h,cond_true]))
  ·exact cL (.of (by simp only[h,zCn]))
def OpS(o:Opn):Prop:=o.name.length≤1073741824∧o.data.length≤1073741824
def vI(o:Opn):Bool:=fE o.node&&dirI o.parent&& !mI o.at_.c o.at_.r o.parent&&jX o.name&&decide (o.data=[])
def zD(o:Opn):Bool:=fE o.node&&oC o.node&&decide ((o.data.length:Int)≤64)&&decide (o.parent=0)&&decide (o.name=[])
def opOk(o:Opn):Bool:=(decide (o.kind=1)||decide (o.kind=2))&&okI o.at_.c o.at_.r&& !mI o.at_.c o.at_.r o.node&&(if o.kind=1 then vI o else zD o)
theorem aNU(o:Opn)(hs:OpS o)(H:AHeap):bH Tryz.prog 266 [opA o] H (.bool (vI o)):=by
 refine fO Tryz.func266 ?_;have hs1:=hs.1;simp only[opA];repeat' first|((first|refine gQ (aCP _) ?_|refine gQ (aA0 _) ?_|refine gQ (aCQ _ _ _) ?_|refine aZ (vH _ (by first|assumption|decide|omega|(simp_all;done)|(simp_all;omega)) _) (cO) ?_|refine bA (vH _ (by first|assumption|decide|omega|(simp_all;done)|(simp_all;omega)) _) (cO) ?_|refine bB (fun _=>vH _ (by first|assumption|decide|omega|(simp_all;done)|(simp_all;omega)) _) (cO) ?_|refine gS ?_);simp only[go_sem])|refine gA ?_|(refine gD ?_ ?_<;>intro h<;>try exact aA h)|fail
 exact dY (.refl _)
theorem aNV(o:Opn)(H:AHeap):bH Tryz.prog 267 [opA o] H (.bool (zD o)):=by
 refine fO Tryz.func267 ?_;simp only[opA];repeat' first|((first|refine gQ (aCP _) ?_|refine gS ?_);simp only[go_sem])|refine gA ?_|(refine gD ?_ ?_<;>intro h<;>try exact aA h)|fail
 exact dY (.refl _)
theorem aA4(o:Opn)(hs:OpS o)(H:AHeap):bH Tryz.prog 208 [opA o] H (.bool (opOk o)):=by
 refine fO Tryz.func208 ?_;have hk:=aDR o;have hm:=aNU o hs;have hw:=aNV o;simp only[opA]at hk hm hw ⊢;by_cases h1:o.kind=1
 ·simp only[h1,zBc]at hk hm ⊢;repeat' first|((first|refine gQ (pQ _ _) ?_|refine gQ (aCQ _ _ _) ?_|refine bU (hm _) (cO) ?_|refine bV (fun _=>hm _) (cO) ?_|refine bW (fun _=>hm _) (cO) ?_|refine gS ?_);simp only[go_sem])|refine gA ?_|(refine gD ?_ ?_<;>intro h<;>try exact aA h)|fail
  exact dY (.of (by simp[opOk,h1]))
 ·by_cases h2:o.kind=2
  ·simp only[h2,zBc,zA3,Int.reduceEq]at hk hw ⊢;repeat' first|((first|refine gQ (pQ _ _) ?_|refine gQ (aCQ _ _ _) ?_|refine bU (hw _) (cO) ?_|refine bV (fun _=>hw _) (cO) ?_|refine bW (fun _=>hw _) (cO) ?_|refine gS ?_);simp only[go_sem])|refine gA ?_|(refine gD ?_ ?_<;>intro h<;>try exact aA h)|fail
   exact dY (.of (by simp[opOk,h1,h2]))
  ·simp only[h1,h2,zA3]at hk;repeat' first|(refine gS ?_;simp only[go_sem])|refine gA ?_|(refine gD ?_ ?_<;>intro h<;>try exact aA h)|fail
   exact dY (.of (by simp[opOk,h1,h2]))
end
section
theorem aGO(b:UInt8):b.toNat.toUInt8=b:=by simp
theorem aDT(s:List UInt8)(b:Int)(H:AHeap):FnX Tryz.prog 181 [.str s,.int .u8 b] H (.int .i64 (Lib.countByte s b.toNat.toUInt8)):=
 aRX Tryz.func181 (by kernel_rfl) (by kernel_rfl) (by kernel_rfl) (by kernel_rfl) s b H
theorem aDU(s:List UInt8)(b:Int)(H:AHeap):FnX Tryz.prog 214 [.str s,.int .u8 b] H (.int .i64 (Lib.indexByte s b.toNat.toUInt8)):=
 aRY Tryz.func214 (by kernel_rfl) (by kernel_rfl) (by kernel_rfl) (by kernel_rfl) s b H
theorem aKb(s:List UInt8)(b:UInt8)(H:AHeap):bH Tryz.prog 140 [.str s,.str [b]] H (.int .i64 (Lib.countByte s b)):=by
 refine fO Tryz.func140 ?_;repeat' first|((first|refine aCb (aDT _ _ _) ?_|refine aCc (aDT _ _ _) ?_|refine gS ?_);simp only[go_sem])|refine gA ?_|(refine gD ?_ ?_<;>intro h<;>try exact aA h)|fail
 rw[aGO];exact cL (.refl _)
theorem aH9(s:List UInt8)(b:UInt8)(H:AHeap):bH Tryz.prog 197 [.str s,.int .u8 b.toNat] H (.int .i64 (Lib.indexByte s b)):=by
 refine fO Tryz.func197 ?_;repeat' first|((first|refine aCb (aDU _ _ _) ?_|refine aCc (aDU _ _ _) ?_|refine gS ?_);simp only[go_sem])|refine gA ?_|(refine gD ?_ ?_<;>intro h<;>try exact aA h)|fail
 rw[aGO];exact cL (.refl _)
theorem aIa(s:List UInt8)(b:UInt8)(H:AHeap):bH Tryz.prog 182 [.str s,.str [b]] H (.int .i64 (Lib.indexByte s b)):=by
 refine fO Tryz.func182 ?_;repeat' first|((first|refine gQ (aH9 _ _) ?_|refine gS ?_);simp only[go_sem])|refine gA ?_|(refine gD ?_ ?_<;>intro h<;>try exact aA h)|fail
 ·have e:[b]=s:=by simpa using h
  subst e;refine cL (.of ?_);rw[Lib.indexByte,zAl (by simp)]
 ·exact cL (.refl _)
theorem aKc(s:List UInt8)(b:UInt8)(H:AHeap):bH Tryz.prog 141 [.str s,.str [b]] H (.int .i64 (Lib.indexByte s b)):=by
 refine fO Tryz.func141 ?_;repeat' first|((first|refine gQ (aIa _ _) ?_|refine gS ?_);simp only[go_sem])|refine gA ?_|(refine gD ?_ ?_<;>intro h<;>try exact aA h)|fail
 exact cL (.refl _)
def aBI(s:List UInt8)(b:UInt8):AV:=match s with
 |[]=>.tup [.str [],.bool false]
 |c::l=>if c=b then .tup [.str l,.bool true]else .tup [.str (c::l),.bool false]
theorem aKd(s:List UInt8)(b:UInt8)(H:AHeap):bH Tryz.prog 138 [.str s,.str [b]] H (.bool (decide (s.head?=some b))):=by
 refine fO Tryz.func138 ?_;cases s with
 |nil=>
  repeat' first|(refine gS ?_;simp only[go_sem])|refine gA ?_|(refine gD ?_ ?_<;>intro h<;>try exact aA h)|fail
  exact cL (.refl _)
 |cons c l=>
  repeat' first|(refine gS ?_;simp only[go_sem])|refine gA ?_|(refine gD ?_ ?_<;>intro h<;>try exact aA h)|fail
  have e1:decide ((1:Int)≤((l.length+1:Nat):Int))=true:=dT;have e2:decide ([c]=[b])=decide ((c::l).head?=some b):=by simp
  refine cL (.of ?_);rw[←e2];exact zAx AV.bool (by rw[show((1:Nat):Int)=(1:Int)from rfl,e1,zAN])
theorem aKe(s:List UInt8)(b:UInt8)(H:AHeap):bH Tryz.prog 105 [.str s,.str [b]] H (aBI s b):=by
 refine fO Tryz.func105 ?_;have hp:=aKd s b;cases s with
 |nil=>
  repeat' first|(refine gS ?_;simp only[go_sem])|refine gA ?_|(refine gD ?_ ?_<;>intro h<;>try exact aA h)|fail
  exact cL (.refl _)
 |cons c l=>
  by_cases h:c=b
  ·rw[zAj (by rw[h];rfl)]at hp
   rw[aBI,zAl h];repeat' first|(refine gS ?_;simp only[go_sem])|refine gA ?_|(refine gD ?_ ?_<;>intro h<;>try exact aA h)|fail
   exact cL (.refl _)
  ·rw[zAg (by simp[h])]at hp
   rw[aBI,zAe h];repeat' first|(refine gS ?_;simp only[go_sem])|refine gA ?_|(refine gD ?_ ?_<;>intro h<;>try exact aA h)|fail
   exact cL (.refl _)
theorem aR2(s:List UInt8)(b:UInt8)(H:AHeap):bH Tryz.prog 84 [.str s,.str [b]] H (aBI s b):=by
 refine fO Tryz.func84 ?_;have hp:=aKe s b;cases s with
 |nil=>
  simp only[aBI]at hp ⊢;repeat' first|(refine gS ?_;simp only[go_sem])|refine gA ?_|(refine gD ?_ ?_<;>intro h<;>try exact aA h)|fail
  exact cL (.refl _)
 |cons c l=>
  by_cases h:c=b
  ·simp only[aBI,zAl h]at hp ⊢;repeat' first|(refine gS ?_;simp only[go_sem])|refine gA ?_|(refine gD ?_ ?_<;>intro h<;>try exact aA h)|fail
   exact cL (.refl _)
  ·simp only[aBI,zAe h]at hp ⊢;repeat' first|(refine gS ?_;simp only[go_sem])|refine gA ?_|(refine gD ?_ ?_<;>intro h<;>try exact aA h)|fail
   exact cL (.refl _)
end
end Go.Proofs.YtennnelammaapaaGreatDoor
