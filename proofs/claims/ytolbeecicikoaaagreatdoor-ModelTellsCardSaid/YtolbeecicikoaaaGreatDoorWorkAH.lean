/- The texts 8 of 53 beneath the rows of this seat (joined by program): the abstract machine, and what the functions answer. No condition. -/
import Derived.Test.YtolbeecicikoaaaGreatDoorWorkAE
import Derived.Test.YtolbeecicikoaaaGreatDoorWorkAG
set_option linter.unusedSimpArgs false
set_option linter.unusedVariables false
set_option linter.unusedSectionVars false
set_option maxRecDepth 100000
set_option maxHeartbeats 16000000
namespace Go.Proofs.YtolbeecicikoaaaGreatDoor
def tE(p s:Txt):Bool:=decide (p.length≤s.length)&&decide (s.take p.length=p)
def wJ(c:Int):AV:=.int .i32 c
def eX(s:Txt):Nat→Nat→Option (List Int)
 |0,pos=>if pos<s.length then none else some []
 |k+1,pos=>if pos<s.length then
   if(!decide (((eU s pos).1:Int)=65533))=true∨tE [239,191,189] (s.drop pos)=true then(eX s k (pos+(eU s pos).2)).map (((eU s pos).1:Int)::·)else none
  else some []
def kB(s:Txt):Option (List Int):=eX s s.length 0
theorem pU(s:Txt)(pos:Nat):1≤(eU s pos).2:=by
 unfold eU Utf8.decode
 simp only[]
 repeat' split
 all_goals simp
def gX{α:Type}(p:α→Bool):List α→Int
 |[]=> -1
 |x::l=>if p x=true then 0 else if gX p l= -1 then-1 else gX p l+1
theorem aGb{α:Type}(p:α→Bool)(l:List α): -1≤gX p l:=by
 induction l with
 |nil=>simp[gX]
 |cons x l ih=>unfold gX;(repeat' split)<;>omega
theorem oV{α:Type}(p:α→Bool)(l:List α):decide (0≤gX p l)=l.any p:=by
 induction l with
 |nil=>simp[gX]
 |cons x l ih=>
  have:=aGb p l
  unfold gX
  rw[List.any_cons,←ih]
  by_cases h:p x=true
  ·simp[h]
  ·rw[zAb h]
   have:p x=false:=by simpa using h
   rw[this,zBX]
   by_cases h2:gX p l= -1
   ·simp[h2]
   ·rw[zAb h2,zA8];simp;omega
theorem mF{α:Type}(p:α→Bool)(l:List α)(i:Nat)(hi:i<l.length)(h:∀k (hk:k<i),p (l[k]'(by omega))=false)(hp:p l[i]=true):gX p l=i:=by
 induction l generalizing i with
 |nil=>simp at hi
 |cons x l ih=>
  cases i with
  |zero=>simp at hp;simp[gX,hp]
  |succ i=>
   have h0:=h 0 (by omega)
   simp at h0
   have h1:=ih i (by simpa using hi) (fun k hk=>by simpa using h (k+1) (by omega)) (by simpa using hp)
   unfold gX
   rw[h0,h1]
   simp
theorem mG{α:Type}(p:α→Bool)(l:List α)(h:∀k (hk:k<l.length),p l[k]=false):gX p l= -1:=by
 induction l with
 |nil=>rfl
 |cons x l ih=>
  have h0:=h 0 (by simp)
  simp at h0
  unfold gX
  rw[h0,ih fun k hk=>h (k+1) (by simpa using hk)]
  rfl
def lC(c:Int):Bool:=decide (c<32)||decide (c=47)||decide (c=127)
def dO(s:Txt):Bool:=
 match kB s with
 |some l=>bif (decide ((l.length:Int)<1)||decide (20<(l.length:Int))||decide (s=[46])||decide (s=[46,46]))then false else !l.any lC
 |none=>false
theorem aQR(s p:Txt)(H:AHeap):bD Tryz.prog 196 [.str s,.str p] H (.bool (tE p s)):=by
 refine fO Tryz.func196 ?_
 repeat' first|(refine gS ?_;simp only[go_sem])|refine gA ?_|(refine gD (fun h=>?_) (fun h=>?_)<;>try exact aA h)|fail
 exact bL (.of (by simp only[tE,Int.ofNat_le]))
theorem aT6(s p:Txt)(H:AHeap):bD Tryz.prog 218 [.str s,.str p] H (.bool (tE p s)):=by
 refine fO Tryz.func218 ?_
 repeat' first|((first|refine gQ (aQR _ _) ?_|refine gS ?_);simp only[go_sem])|refine gA ?_|(refine gD (fun h=>?_) (fun h=>?_)<;>try exact aA h)|fail
 exact bL (.refl _)
theorem aJF(c:Int)(H:AHeap):bD Tryz.prog 202 [.int .i32 c] H (.bool (lC c)):=by
 refine fO Tryz.func202 ?_
 refine hG ?_
 exact bL (.refl _)
theorem aHw(b:Bool)(l:List Int)(fv:AV)(p:Int→Bool)(H:AHeap)(hf:∀c,FnV Tryz.prog fv [.int .i32 c] H (.bool (p c))):
  bD Tryz.prog 219 [.sl b (l.map wJ),fv] H (.int .i64 (gX p l)):=by
 refine eR fun hok _=>?_
 have hl:=jB hok
 rw[zAj]at hl
 refine fO Tryz.func219 ?_
 refine hG ?_
 refine aH (ι:=Nat) (fun i=>[(0,.sl b (l.map wJ)),(1,fv),(7,.int .i64 l.length),(8,.int .i64 i)]) (fun _=>H) (fun i=>i≤l.length∧∀k (hk:k<i) (hk2:k<l.length),p l[k]=false) (fun i=>l.length-i) 0 ⟨zAn _,fun k hk=>by omega⟩ ?_ rfl ?_
 ·simp[go_sem]
 ·rintro i ⟨hi,hno⟩
  by_cases hlt:i<l.length
  ·have hp:=aJ wJ hlt
   repeat' first|(refine gS ?_;simp only[go_sem,hp,wJ])|refine gA ?_|(refine gD (fun h=>?_) (fun h=>?_)<;>try exact aA h)|fail
   refine rF (hf _) ?_
   simp only[go_sem]
   repeat' first|refine hG ?_|(refine gD (fun h=>?_) (fun h=>?_)<;>try exact aA h)|fail
   ·exact bL (.of (by rw[mF p l i hlt (fun k hk=>hno k hk (by omega)) h]))
   ·refine⟨i+1,⟨hlt,fun k hk hk2=>?_⟩,by omega,by rw[wI];rfl⟩
    by_cases e:k=i
    ·subst e;exact h
    ·exact hno k (by omega) hk2
  ·have hi':i=l.length:=by omega
   repeat' first|(refine gS ?_;simp only[go_sem])|refine gA ?_|(refine gD (fun h=>?_) (fun h=>?_)<;>try exact aA h)|fail
   subst hi'
   exact bL (.of (by rw[mG p l fun k hk=>hno k hk hk]))
theorem aHx(b:Bool)(l:List Int)(fv:AV)(p:Int→Bool)(H:AHeap)(hf:∀c,FnV Tryz.prog fv [.int .i32 c] H (.bool (p c))):
  bD Tryz.prog 201 [.sl b (l.map wJ),fv] H (.bool (l.any p)):=by
 refine fO Tryz.func201 ?_
 have hx:=aHw b l fv p H hf
 repeat' first|((first|refine aY (hx) (cO) ?_|refine aZ (hx) (cO) ?_|refine bA (fun _=>hx) (cO) ?_|refine gS ?_);simp only[go_sem])|refine gA ?_|(refine gD (fun h=>?_) (fun h=>?_)<;>try exact aA h)|fail
 exact bL (.of (by rw[oV]))
theorem wZ(s:Txt):∀(k pos:Nat) (l:List Int),eX s k pos=some l→l.length≤s.length-pos
 |0,pos,l,h=>by unfold eX at h;split at h<;>simp at h;subst h;simp
 |k+1,pos,l,h=>by
  unfold eX at h
  split at h
  ·split at h
   ·rw[zAR]at h
    obtain⟨m,h1,rfl⟩:=h
    have:=wZ s k _ m h1
    have:=pU s pos
    simp;omega
   ·cases h
  ·simp at h;subst h;simp
theorem oF(s:Txt):∀(k j pos:Nat),s.length≤pos+k→s.length≤pos+j→eX s k pos=eX s j pos
 |0,0,pos,_,_=>rfl
 |0,j+1,pos,h1,_=>by unfold eX;rw[zAb (by omega),zAb (by omega)]
 |k+1,0,pos,_,h2=>by unfold eX;rw[zAb (by omega),zAb (by omega)]
 |k+1,j+1,pos,h1,h2=>by
  have:=pU s pos
  unfold eX
  rw[oF s k j _ (by omega) (by omega)]
def pV(s:Txt)(acc:List Int)(pos:Nat):Option (List Int):=(eX s (s.length-pos) pos).map (acc++·)
theorem aAD{s:Txt}{acc:List Int}{pos:Nat}(h:¬pos<s.length):pV s acc pos=some acc:=by
 unfold pV
 rw[oF s _ 0 pos (by omega) (by omega)]
 simp[eX,h]
theorem yR{s:Txt}{acc:List Int}{pos:Nat}(h:pos<s.length):pV s acc pos=
  if(!decide (((eU s pos).1:Int)=65533))=true∨tE [239,191,189] (s.drop pos)=true then pV s (acc++[((eU s pos).1:Int)]) (pos+(eU s pos).2)else none:=by
 have hw:=pU s pos
 unfold pV
 rw[oF s _ (s.length-pos-1+1) pos (by omega) (by omega)]
 conv=>lhs;unfold eX
 rw[zAc h]
 split
 ·rw[oF s (s.length-pos-1) (s.length-(pos+(eU s pos).2)) _ (by omega) (by omega)]
  cases eX s (s.length-(pos+(eU s pos).2)) (pos+(eU s pos).2)<;>simp
 ·rfl
def aAE(r:Option (List Int)):AV:=
 match r with
 |some l=>.tup [.sl false (l.map wJ),.bool true]
 |none=>.tup [.sl false [],.bool false]
theorem aDz(n:Nat)(k:IntKind):(List.replicate n (AV.int k 0)).flatMap AV.cells=List.replicate n (AV.int k 0):=by
 induction n with
 |zero=>rfl
 |succ n ih=>rw[zBJ,zAK,ih];rfl
theorem tS(A:List AV)(m:Nat)(z x:AV):cH (A++List.replicate (m+1) z) A.length [x]=(A++[x])++List.replicate m z:=by
 simp[cH,zBJ]
def aEX(s:Txt)(x:Nat×List Int):AHeap:=[.cells 1 (x.2.map wJ++List.replicate (s.length-x.2.length) (AV.int .i32 0)),.siter s x.1]
theorem aGc(s:Txt)(hs:s.length≤1073741824)(H:AHeap):bD Tryz.prog 200 [.str s] H (aAE (kB s)):=by
 refine fO Tryz.func200 ?_
 repeat' first|(refine gS ?_;simp only[go_sem])|refine gA ?_|(refine gD (fun h=>?_) (fun h=>?_)<;>try exact aA h)|fail
 refine aH (ι:=Nat×List Int) (fun x=>[(0,.str s),(4,.osl 1 H.length 1 0 x.2.length s.length),(5,.bool true),(12,.iter (H.length+1))]) (fun x=>H++aEX s x)
  (fun x=>pV s x.2 x.1=kB s∧x.2.length≤x.1) (fun x=>s.length+4-x.1) (0,[]) ?_ ?_ ?_ ?_
 ·refine⟨?_,zAh _⟩
  show(eX s (s.length-0) 0).map _=_
  rw[kB,Nat.sub_zero]
  cases eX s s.length 0<;>simp
 ·simp[go_sem]
 ·simp[aEX,aDz]
 ·rintro⟨pos,acc⟩ ⟨h1,h2⟩
  simp only[aEX]at h1 h2 ⊢
  by_cases hlt:pos<s.length
  ·have hne:¬acc.length=s.length:=by omega
   have hlen:(acc.map wJ).length=acc.length:=zAj ..
   obtain⟨m,hm⟩:∃m,s.length-acc.length=m+1:=⟨s.length-acc.length-1,by omega⟩
   have hm2:s.length-(acc.length+1)=m:=by omega
   have hw:=pU s pos
   have hst:=yR (acc:=acc) hlt
   rw[h1]at hst
   repeat' first|((first|refine gQ (aT6 _ _) ?_|refine gS ?_);simp only[go_sem,hlt,hne])|refine gA ?_|(refine gD (fun h=>?_) (fun h=>?_)<;>try exact aA h)|fail
   ·rw[zAc (.inl h)]at hst
    refine⟨⟨by rw[List.length_replicate];omega,by omega,fun e he=>by rw[he];rfl⟩,(pos+(eU s pos).2,acc++[((eU s pos).1:Int)]),⟨hst.symm,by simp;omega⟩,by simp;omega,by simp,?_⟩
    have hsp:=tS (acc.map wJ) m (.int .i32 0) (.int .i32 (eU s pos).1)
    rw[hlen]at hsp
    simp[hm,hm2,wJ]at hsp ⊢
    exact hsp
   ·rename_i _ h5 h6
    exact Bool.noConfusion (h5.symm.trans h6)
   ·rw[zAc (.inr h)]at hst
    refine⟨⟨by rw[List.length_replicate];omega,by omega,fun e he=>by rw[he];rfl⟩,(pos+(eU s pos).2,acc++[((eU s pos).1:Int)]),⟨hst.symm,by simp;omega⟩,by simp;omega,by simp,?_⟩
    have hsp:=tS (acc.map wJ) m (.int .i32 0) (.int .i32 (eU s pos).1)
    rw[hlen]at hsp
    simp[hm,hm2,wJ]at hsp ⊢
    exact hsp
   ·rename_i _ h6 h7
    rw[zAb (by rw[h6,h7];simp)]at hst
    rw[hst]
    exact dY (.tup _ _ rfl (aD (.sl _ _) (aD (.refl _) bJ)))
  ·refine hH ?_
   rw[←h1,aAD hlt]
   refine⟨_,_,rfl,?_,rfl⟩
   refine .tup _ _ rfl fun i x y hx hy=>?_
   match i,hx,hy with
   |0,hx,hy=>
    cases hx;cases hy
    refine .osl 1 H.length 1 0 acc.length s.length (acc.map wJ++List.replicate (s.length-acc.length) (AV.int .i32 0)) _ (zAh _) (by simp[go_sem]) (by simp) (by simp) (fun e he=>?_) (fun k j e x y hk hj hx=>?_)
    ·obtain⟨c,_,rfl⟩:=zAi.1 he;rfl
    ·rw[zBt,zAR]at hk
     obtain⟨c,hc,rfl⟩:=hk
     have hj0:j=0:=by
      have:=(zAf.1 hj).1
      simp[wJ,AV.cells]at this;exact this
     subst hj0
     have hkl:=(zAf.1 hc).1
     simp only[wJ,AV.cells,zBZ,zB0]at hj
     subst hj
     rw[zAz,Nat.add_zero,zBo,zAt (by simpa using hkl),zBt,hc]at hx
     cases hx
     exact .cl _ (.int _ _)
   |1,hx,hy=>cases hx;cases hy;exact .cl _ (.bool _)
   |i+2,hx,_=>simp at hx
theorem uX(s:Txt)(hs:s.length≤1073741824)(H:AHeap):bD Tryz.prog 177 [.str s] H (.bool (dO s)):=by
 refine fO Tryz.func177 ?_
 have hsp:=aGc s hs H
 have hany:∀l:List Int,bD Tryz.prog 201 [.sl false (l.map wJ),.func (.func 202) [] []] H (.bool (l.any lC)):=fun l=>aHx false l _ lC H fun c=>.mk (first:=[]) (cap:=[]) (fun L=>aJF c (H++L)) (cO)
 unfold dO
 cases hr:kB s with
 |none=>
  rw[hr]at hsp
  simp only[aAE]at hsp
  repeat' first|((first|refine aY (hsp) (cO) ?_|refine aZ (hsp) (cO) ?_|refine bA (fun _=>hsp) (cO) ?_|refine aY (hany _) (cO) ?_|refine aZ (hany _) (cO) ?_|refine bA (fun _=>hany _) (cO) ?_|refine gS ?_);simp only[go_sem])|refine gA ?_|(refine gD (fun h=>?_) (fun h=>?_)<;>try exact aA h)|fail
  exact bL (.refl _)
 |some l=>
  rw[hr]at hsp
  simp only[aAE]at hsp
  repeat' first|((first|refine aY (hsp) (cO) ?_|refine aZ (hsp) (cO) ?_|refine bA (fun _=>hsp) (cO) ?_|refine aY (hany _) (cO) ?_|refine aZ (hany _) (cO) ?_|refine bA (fun _=>hany _) (cO) ?_|refine gS ?_);simp only[go_sem])|refine gA ?_|(refine gD (fun h=>?_) (fun h=>?_)<;>try exact aA h)|fail
  ·exact bL (.of (by simp only[h,zCY]))
  ·exact bL (.of (by simp only[h,zCj]))
def OpS(o:Opn):Prop:=o.name.length≤1073741824∧o.data.length≤1073741824
def rJ(o:Opn):Bool:=dQ o.node&&dirI o.parent&& !lU o.at_.c o.at_.r o.parent&&dO o.name&&decide (o.data=[])
def uY(o:Opn):Bool:=dQ o.node&&oC o.node&&decide ((o.data.length:Int)≤64)&&decide (o.parent=0)&&decide (o.name=[])
def opOk(o:Opn):Bool:=(decide (o.kind=1)||decide (o.kind=2))&&zM o.at_.c o.at_.r&& !lU o.at_.c o.at_.r o.node&&(if o.kind=1 then rJ o else uY o)
theorem aMW(o:Opn)(hs:OpS o)(H:AHeap):bD Tryz.prog 263 [opA o] H (.bool (rJ o)):=by
 refine fO Tryz.func263 ?_
 have hs1:=hs.1
 simp only[opA]
 repeat' first|((first|refine gQ (aCr _) ?_|refine gQ (aAC _) ?_|refine gQ (aCs _ _ _) ?_|refine aY (uX _ (by first|assumption|decide|omega|(simp_all;done)|(simp_all;omega)) _) (cO) ?_|refine aZ (uX _ (by first|assumption|decide|omega|(simp_all;done)|(simp_all;omega)) _) (cO) ?_|refine bA (fun _=>uX _ (by first|assumption|decide|omega|(simp_all;done)|(simp_all;omega)) _) (cO) ?_|refine gS ?_);simp only[go_sem])|refine gA ?_|(refine gD (fun h=>?_) (fun h=>?_)<;>try exact aA h)|fail
 exact dY (.refl _)
theorem aMX(o:Opn)(H:AHeap):bD Tryz.prog 265 [opA o] H (.bool (uY o)):=by
 refine fO Tryz.func265 ?_
 simp only[opA]
 repeat' first|((first|refine gQ (aCr _) ?_|refine gS ?_);simp only[go_sem])|refine gA ?_|(refine gD (fun h=>?_) (fun h=>?_)<;>try exact aA h)|fail
 exact dY (.refl _)
theorem xA(o:Opn)(hs:OpS o)(H:AHeap):bD Tryz.prog 36 [opA o] H (.bool (opOk o)):=by
 refine fO Tryz.func36 ?_
 have hk:=aDw o
 have hm:=aMW o hs
 have hw:=aMX o
 simp only[opA]at hk hm hw ⊢
 by_cases h1:o.kind=1
 ·simp only[h1,zAU]at hk hm ⊢
  repeat' first|((first|refine gQ (pS _ _) ?_|refine gQ (aCs _ _ _) ?_|refine eH (hm _) (cO) ?_|refine eJ (fun _=>hm _) (cO) ?_|refine eK (fun _=>hm _) (cO) ?_|refine gS ?_);simp only[go_sem])|refine gA ?_|(refine gD (fun h=>?_) (fun h=>?_)<;>try exact aA h)|fail
  exact dY (.of (by simp[opOk,h1]))
 ·by_cases h2:o.kind=2
  ·simp only[h2,zAU,zA3,Int.reduceEq]at hk hw ⊢
   repeat' first|((first|refine gQ (pS _ _) ?_|refine gQ (aCs _ _ _) ?_|refine eH (hw _) (cO) ?_|refine eJ (fun _=>hw _) (cO) ?_|refine eK (fun _=>hw _) (cO) ?_|refine gS ?_);simp only[go_sem])|refine gA ?_|(refine gD (fun h=>?_) (fun h=>?_)<;>try exact aA h)|fail
   exact dY (.of (by simp[opOk,h1,h2]))
  ·simp only[h1,h2,zA3]at hk
   repeat' first|(refine gS ?_;simp only[go_sem])|refine gA ?_|(refine gD (fun h=>?_) (fun h=>?_)<;>try exact aA h)|fail
   exact dY (.of (by simp[opOk,h1,h2]))
end Go.Proofs.YtolbeecicikoaaaGreatDoor
namespace Go.Proofs.YtolbeecicikoaaaGreatDoor
def uZ(o:Opn):Bool:=decide (1000<(o.name.length:Int))||decide (1000<(o.data.length:Int))
def tT(l:List Opn)(n:Int):Bool:=l.all (fun x=> !uZ x)&&decide ((l.length:Int)≤n)
theorem aGd(a b:Nd):(decide (a.id=b.id)&&(decide (a.parent=b.parent)&&(decide (a.name=b.name)&&(decide (a.moved.c=b.moved.c)&&decide (a.moved.r=b.moved.r)&&(decide (a.data=b.data)&&(decide (a.wrote.c=b.wrote.c)&&decide (a.wrote.r=b.wrote.r)))))))=decide (a=b):=by
 obtain⟨_,_,_,⟨_,_⟩,_,⟨_,_⟩⟩:=a
 obtain⟨_,_,_,⟨_,_⟩,_,⟨_,_⟩⟩:=b
 rw[zA8];simp[and_assoc]
theorem aGe(a b:Opn):(decide (a.at_.c=b.at_.c)&&decide (a.at_.r=b.at_.r)&&(decide (a.kind=b.kind)&&(decide (a.node=b.node)&&(decide (a.parent=b.parent)&&(decide (a.name=b.name)&&decide (a.data=b.data))))))=decide (a=b):=by
 obtain⟨⟨_,_⟩,_,_,_,_,_⟩:=a
 obtain⟨⟨_,_⟩,_,_,_,_,_⟩:=b
 rw[zA8];simp[and_assoc]
theorem aGf(b1 b2:Bool)(l m:List Nd)(H:AHeap):bD Tryz.prog 41 [.sl b1 (l.map ndA),.sl b2 (m.map ndA)] H (.bool (decide (l=m))):=by
 refine eR fun hok _=>?_
 have hl:=jB hok
 rw[zAj]at hl
 refine fO Tryz.func41 ?_
 repeat' first|(refine gS ?_;simp only[go_sem])|refine gA ?_|(refine gD (fun h=>?_) (fun h=>?_)<;>try exact aA h)|fail
 ·exact bL (.of (by rw[eT (fun e=>by subst e;simp at h)]))
 ·have hlen:l.length=m.length:=by simp at h;omega
  refine aH (ι:=Nat) (fun i=>[(0,.sl b1 (l.map ndA)),(1,.sl b2 (m.map ndA)),(5,.int .i64 i)]) (fun _=>H) (fun i=>i≤l.length∧l.take i=m.take i) (fun i=>l.length-i) 0 ⟨zAn _,rfl⟩ ?_ rfl ?_
  ·simp[go_sem]
  ·rintro i ⟨hi,he⟩
   by_cases hlt:i<l.length
   ·have hp:=aJ ndA hlt
    have hq:=aJ ndA (show i<m.length by omega)
    repeat' first|(refine gS ?_;simp only[go_sem,hp,hq,ndA])|refine gA ?_|(refine gD (fun h=>?_) (fun h=>?_)<;>try exact aA h)|fail
    ·rw[aGd]at h
     have hne:l[i]≠m[i]:=by simpa using h
     exact bL (.of (by rw[eT (fun e=>hne (by subst e;rfl))]))
    ·rw[aGd]at h
     have heq:l[i]=m[i]:=by simpa using h
     exact⟨i+1,⟨hlt,by rw[zAa hlt,zAa (by omega),he,heq]⟩,by omega,by rw[wI];rfl⟩
   ·have hi':i=l.length:=by omega
    subst hi'
    repeat' first|(refine gS ?_;simp only[go_sem])|refine gA ?_|(refine gD (fun h=>?_) (fun h=>?_)<;>try exact aA h)|fail
    exact bL (.of (by rw[zAd (by rw[zAq,hlen,zAq]at he;exact he)]))
theorem aMY(b1 b2:Bool)(l m:List Opn)(H:AHeap):bD Tryz.prog 13 [.sl b1 (l.map opA),.sl b2 (m.map opA)] H (.bool (decide (l=m))):=by
 refine eR fun hok _=>?_
 have hl:=jB hok
 rw[zAj]at hl
 refine fO Tryz.func13 ?_
 repeat' first|(refine gS ?_;simp only[go_sem])|refine gA ?_|(refine gD (fun h=>?_) (fun h=>?_)<;>try exact aA h)|fail
 ·exact bL (.of (by rw[eT (fun e=>by subst e;simp at h)]))
 ·have hlen:l.length=m.length:=by simp at h;omega
  refine aH (ι:=Nat) (fun i=>[(0,.sl b1 (l.map opA)),(1,.sl b2 (m.map opA)),(5,.int .i64 i)]) (fun _=>H) (fun i=>i≤l.length∧l.take i=m.take i) (fun i=>l.length-i) 0 ⟨zAn _,rfl⟩ ?_ rfl ?_
  ·simp[go_sem]
  ·rintro i ⟨hi,he⟩
   by_cases hlt:i<l.length
   ·have hp:=aJ opA hlt
    have hq:=aJ opA (show i<m.length by omega)
    repeat' first|(refine gS ?_;simp only[go_sem,hp,hq,opA])|refine gA ?_|(refine gD (fun h=>?_) (fun h=>?_)<;>try exact aA h)|fail
    ·rw[aGe]at h
     have hne:l[i]≠m[i]:=by simpa using h
     exact bL (.of (by rw[eT (fun e=>hne (by subst e;rfl))]))
    ·rw[aGe]at h
     have heq:l[i]=m[i]:=by simpa using h
     exact⟨i+1,⟨hlt,by rw[zAa hlt,zAa (by omega),he,heq]⟩,by omega,by rw[wI];rfl⟩
   ·have hi':i=l.length:=by omega
    subst hi'
    repeat' first|(refine gS ?_;simp only[go_sem])|refine gA ?_|(refine gD (fun h=>?_) (fun h=>?_)<;>try exact aA h)|fail
    exact bL (.of (by rw[zAd (by rw[zAq,hlen,zAq]at he;exact he)]))
theorem aQS(b1:Bool)(l:List Opn)(n:Int)(H:AHeap):bD Tryz.prog 6 [.sl b1 (l.map opA),.int .i64 n] H (.bool (tT l n)):=by
 refine eR fun hok _=>?_
 have hl:=jB hok
 rw[zAj]at hl
 refine fO Tryz.func6 ?_
 repeat' first|refine hG ?_|(refine gD (fun h=>?_) (fun h=>?_)<;>try exact aA h)|fail
 refine aH (ι:=Nat) (fun i=>[(0,.sl b1 (l.map opA)),(1,.int .i64 n),(5,.int .i64 i)]) (fun _=>H) (fun i=>i≤l.length∧∀x∈l.take i,uZ x=false) (fun i=>l.length-i) 0 ⟨zAn _,by simp⟩ ?_ rfl ?_
 ·simp[go_sem]
 ·rintro i ⟨hi,he⟩
  by_cases hlt:i<l.length
  ·have hp:=aJ opA hlt
   repeat' first|(refine gS ?_;simp only[go_sem,hp,opA])|refine gA ?_|(refine gD (fun h=>?_) (fun h=>?_)<;>try exact aA h)|fail
   ·exact bL (.of (by
     have:tT l n=false:=by
      unfold tT
      rw[zBk]
      left
      rw[zB8]
      intro q
      have q2:=zAM.1 q l[i] (zAF _)
      have h':uZ l[i]=true:=h
      rw[h']at q2;cases q2
     rw[this]))
   ·refine⟨i+1,⟨hlt,fun x hx=>?_⟩,by omega,by rw[wI];rfl⟩
    rw[zAa hlt,zAD]at hx
    rcases hx with hx|hx
    ·exact he x hx
    ·simp at hx;subst hx;exact h
  ·have hi':i=l.length:=by omega
   subst hi'
   repeat' first|(refine gS ?_;simp only[go_sem])|refine gA ?_|(refine gD (fun h=>?_) (fun h=>?_)<;>try exact aA h)|fail
   refine bL (.of ?_)
   rw[zAq]at he
   have:l.all (fun x=> !uZ x)=true:=zAM.2 fun x hx=>by rw[he x hx];rfl
   rw[tT,this,zAB]
end Go.Proofs.YtolbeecicikoaaaGreatDoor
