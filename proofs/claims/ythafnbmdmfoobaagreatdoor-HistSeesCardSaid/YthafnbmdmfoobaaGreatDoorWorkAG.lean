/- What the functions of this seat answer (7 of 40). No condition. -/
import Derived.Test.YthafnbmdmfoobaaGreatDoorWorkAE
import Derived.Test.YthafnbmdmfoobaaGreatDoorWorkAF
set_option linter.unusedSimpArgs false
set_option linter.unusedVariables false
set_option maxRecDepth 100000
set_option maxHeartbeats 16000000
namespace Go.Proofs.YthafnbmdmfoobaaGreatDoor
section
open Go.ChangeShapes Go.WideShapes Go.ChangeAt Go.RowKit
theorem own:ownKnob Tryz.prog.godebug=none:=by kernel_rfl
theorem w1:laidOutB Tryz.prog=true:=by kernel_rfl
theorem aFu:ke Tryz.prog 3=false:=by kernel_rfl
theorem aG8:ke Tryz.prog 5=false:=by kernel_rfl
theorem aFv{x:I}(h:∃ys,x=ik Tryz.prog 3 ys∧gM Tryz.prog 3 ys∧(ke Tryz.prog 3=true∨ys.length=1)):∃n,x=.int .i64 n:=by
 obtain⟨ys,rfl,h,_⟩:=h;obtain⟨n,rfl,hw⟩:=sO Tryz.underlying3 h;exact⟨n,by rw[ik,az (by rw[aFu];decide)];rfl⟩
theorem Uf{x:I}(h:∃ys,x=ik Tryz.prog 5 ys∧gM Tryz.prog 5 ys∧(ke Tryz.prog 5=true∨ys.length=1)):∃n,x=.int .u8 n:=by
 obtain⟨ys,rfl,h,_⟩:=h;obtain⟨n,rfl,hw⟩:=sO Tryz.underlying5 h;exact⟨n,by rw[ik,az (by rw[aG8];decide)];rfl⟩
end
section
def ox(a b:Int):Bool:=decide (1<=a)&&decide (a<=1048576)&&decide (0<=b)&&decide (b<=63)
theorem uh{a b:Int}:ox a b=true↔1<=a∧a<=1048576∧0<=b∧b<=63:=by
 simp[ox,and_assoc]
theorem AI(a b:Int)(H:ab):aY Tryz.prog 173 [.agg [.int .i64 a,.int .i64 b]] H (.bool (ox a b)):=by
 refine bh Tryz.func173 ?_;refine aT ?_;exact⟨_,_,rfl,.cl _ (.bool _),rfl⟩
def xH(a b c d:Int):Bool:=decide (a<c)||(decide (a=c)&&decide (b<d))
theorem GV{a b c d:Int}:xH a b c d=true↔(a<c∨(a=c∧b<d)):=by
 simp[xH]
theorem My(a b c d:Int)(H:ab):aY Tryz.prog 197 [.agg [.int .i64 a,.int .i64 b],.agg [.int .i64 c,.int .i64 d]] H (.bool (xH a b c d)):=by
 refine bh Tryz.func197 ?_;repeat' first|(refine ad ?_;simp only[go_sem])|refine bx ?_|(refine bD ?_ ?_<;>intro h<;>try exact bB h)|fail
 all_goals refine⟨_,_,rfl,.cl _ (.bool _),bH I.bool ?_⟩
 all_goals(rw[qh,GV];simp at *;omega)
def gm(n:Int):Bool:=decide (128<=n)&&decide (n<134217856)
theorem DC{n:Int}:gm n=true↔128<=n∧n<134217856:=by simp[gm]
theorem Tk{n:Int}:gm n=false↔¬(128<=n∧n<134217856):=by rw[<-DC,vB]
def jR(n:Int):Int:=if gm n=true then n / 128 else 0
def w5(n:Int):Int:=if gm n=true then n % 128 / 2 else 0
def ve(n:Int):Bool:=gm n&&decide (n % 2=1)
theorem v3(n:Int)(H:ab):aY Tryz.prog 174 [.int .i64 n] H (.a0 [.agg [.int .i64 (jR n),.int .i64 (w5 n)],.bool (ve n),.bool (gm n)]):=by
 refine GS fun bl=>?_
 have ag:=(aFR bl).2;refine bh Tryz.func174 ?_;repeat' first|((first|refine du (AI _ _) ?_|refine ad ?_);simp only[go_sem])|refine bx ?_|(refine bD ?_ ?_<;>intro h<;>try exact bB h)|fail
 all_goals refine PI (k:=3) rfl ?_
 ·have e:gm n=false:=Tk.2 (by simp at h;omega)
  simp[jR,w5,ve,e]
 ·rename_i aC;simp at aC;rw[Bb (by omega),DH (by omega),Bb (by omega),cB,cB]at h
  have dr:¬ox (n / 128) (n % 128 / 2)=true:=by simpa using h
  rw[uh]at dr;have e:gm n=false:=Tk.2 (by omega)
  simp[jR,w5,ve,e]
 ·rename_i aC;simp at aC;rw[Bb (by omega),DH (by omega),Bb (by omega),cB,cB]at h ⊢
  rw[DH (by omega)]
  have dr:ox (n / 128) (n % 128 / 2)=true:=by simpa using h
  rw[uh]at dr;have e:gm n=true:=DC.2 (by omega)
  simp[jR,w5,ve,e]
def dy(n:Int):Bool:=decide (n=0)||decide (n=2)||(gm n&& !ve n)
theorem sX(n:Int)(H:ab):aY Tryz.prog 128 [.int .i64 n] H (.bool (dy n)):=by
 refine bh Tryz.func128 ?_;repeat' first|((first|refine du (v3 _) ?_|refine ad ?_);simp only[go_sem])|refine bx ?_|(refine bD ?_ ?_<;>intro h<;>try exact bB h)|fail
 ·exact Yq (k:=3) rfl (by simp only[dy,h];rfl)
 ·exact PI (k:=3) rfl (by simp only[dy,h];rfl)
def ub(a b n:Int):Bool:=gm n&&xH a b (jR n) (w5 n)
theorem LP(a b n:Int)(H:ab):aY Tryz.prog 226 [.agg [.int .i64 a,.int .i64 b],.int .i64 n] H (.bool (ub a b n)):=by
 refine bh Tryz.func226 ?_;repeat' first|((first|refine du (v3 _) ?_|refine du (My _ _ _ _) ?_|refine ad ?_);simp only[go_sem])|refine af ?_|fail
 exact PI (k:=3) rfl rfl
theorem RR(o:bf)(H:ab):aY Tryz.prog 205 [bY o] H (if o.kind=1 then .iface 313 (bY o)else if o.kind=2 then .iface 338 (bY o)else .nilIface):=by
 refine bh Tryz.func205 ?_;simp only[bY];repeat' first|(refine ad ?_;simp only[go_sem])|refine bx ?_|(refine bD ?_ ?_<;>intro h<;>try exact bB h)|fail
 all_goals(simp only[hR,nm]at *)
 ·simp only[h,dI];exact bo (.refl _)
 ·simp only[*,dI,eF];exact bo (.refl _)
 ·simp only[*,dI,eF];exact bo (.refl _)
end
section
def zd(p s:aM):Bool:=decide (p.length<=s.length)&&decide (s.take p.length=p)
def jT(c:Int):I:=.int .i32 c
def oj(s:aM):Nat->Nat->Option (List Int)
 |0,pos=>if pos<s.length then none else some []
 |k+1,pos=>if pos<s.length then
   if(!decide (((iY s pos).1:Int)=65533))=true∨zd [239,191,189] (s.drop pos)=true then(oj s k (pos+(iY s pos).2)).map (((iY s pos).1:Int)::·)else none
  else some []
def rI(s:aM):Option (List Int):=oj s s.length 0
theorem PK(s:aM)(pos:Nat):1<=(iY s pos).2:=by
 unfold iY Utf8.decode;simp only[];repeat' split
 all_goals simp
def eg{α:Type}(p:α->Bool):List α->Int
 |[]=> -1
 |x::l=>if p x=true then 0 else if eg p l= -1 then-1 else eg p l+1
theorem GW{α:Type}(p:α->Bool)(l:List α): -1<=eg p l:=by
 induction l with
 |nil=>simp[eg]
 |cons x l ay=>unfold eg;(repeat' split)<;>omega
theorem yx{α:Type}(p:α->Bool)(l:List α):decide (0<=eg p l)=l.any p:=by
 induction l with
 |nil=>simp[eg]
 |cons x l ay=>
  have:=GW p l;unfold eg;rw[List.any_cons,<-ay];by_cases h:p x=true
  ·simp[h]
  ·rw[az h];have:p x=false:=by simpa using h
   rw[this,vK];by_cases h2:eg p l= -1
   ·simp[h2]
   ·rw[az h2,qh];simp;omega
theorem pN{α:Type}(p:α->Bool)(l:List α)(i:Nat)(hi:i<l.length)(h:∀k (hk:k<i),p (l[k]'(by omega))=false)(ae:p l[i]=true):eg p l=i:=by
 induction l generalizing i with
 |nil=>simp at hi
 |cons x l ay=>
  cases i with
  |zero=>simp at ae;simp[eg,ae]
  |succ i=>
   have aC:=h 0 (by omega)
   simp at aC;have h1:=ay i (by simpa using hi) (fun k hk=>by simpa using h (k+1) (by omega)) (by simpa using ae)
   unfold eg;rw[aC,h1];simp
theorem pO{α:Type}(p:α->Bool)(l:List α)(h:∀k (hk:k<l.length),p l[k]=false):eg p l= -1:=by
 induction l with
 |nil=>rfl
 |cons x l ay=>
  have aC:=h 0 (by simp)
  simp at aC;unfold eg;rw[aC,ay fun k hk=>h (k+1) (by simpa using hk)]
  rfl
def HA(c:Int):Bool:=decide (c<32)||decide (c=47)||decide (c=127)
def qC(s:aM):Bool:=
 match rI s with
 |some l=>bif (decide ((l.length:Int)<1)||decide (20<(l.length:Int))||decide (s=[46])||decide (s=[46,46]))then false else !l.any HA
 |none=>false
theorem aFw(s p:aM)(H:ab):aY Tryz.prog 187 [.str s,.str p] H (.bool (zd p s)):=by
 refine bh Tryz.func187 ?_;repeat' first|(refine ad ?_;simp only[go_sem])|refine bx ?_|(refine bD ?_ ?_<;>intro h<;>try exact bB h)|fail
 exact bC (.of (by simp only[zd,Int.ofNat_le]))
theorem aG9(s p:aM)(H:ab):aY Tryz.prog 217 [.str s,.str p] H (.bool (zd p s)):=by
 refine bh Tryz.func217 ?_;repeat' first|((first|refine du (aFw _ _) ?_|refine ad ?_);simp only[go_sem])|refine af ?_|fail
 exact bC (.refl _)
theorem aAS(c:Int)(H:ab):aY Tryz.prog 193 [.int .i32 c] H (.bool (HA c)):=by
 refine bh Tryz.func193 ?_;refine aT ?_;exact bC (.refl _)
theorem Z1(b:Bool)(l:List Int)(zE:I)(p:Int->Bool)(H:ab)(an:∀c,oK Tryz.prog zE [.int .i32 c] H (.bool (p c))):
  aY Tryz.prog 218 [.sl b (l.map jT),zE] H (.int .i64 (eg p l)):=by
 refine nz fun bl _=>?_
 have hl:=lI bl;rw[cP]at hl;refine bh Tryz.func218 ?_;refine aT ?_;refine b5 (ι:=Nat) (fun i=>[(0,.sl b (l.map jT)),(1,zE),(7,.int .i64 l.length),(8,.int .i64 i)]) (fun _=>H) (fun i=>i<=l.length∧∀k (hk:k<i) (eb:k<l.length),p l[k]=false) (fun i=>l.length-i) 0 ⟨bG _,fun k hk=>by omega⟩ ?_ rfl ?_
 ·simp[go_sem]
 ·rintro i ⟨hi,bX⟩;by_cases ak:i<l.length
  ·have ae:=dg jT ak;repeat' first|(refine ad ?_;simp only[go_sem,ae,jT])|refine bx ?_|(refine bD ?_ ?_<;>intro h<;>try exact bB h)|fail
   refine AB (an _) ?_;simp only[go_sem];repeat' first|refine aT ?_|(refine bD ?_ ?_<;>intro h<;>try exact bB h)|fail
   ·exact bC (.of (by rw[pN p l i ak (fun k hk=>bX k hk (by omega)) h]))
   ·refine⟨i+1,⟨ak,fun k hk eb=>?_⟩,by omega,by rw[cB];rfl⟩
    by_cases e:k=i
    ·subst e;exact h
    ·exact bX k (by omega) eb
  ·have cv:i=l.length:=by omega
   repeat' first|(refine ad ?_;simp only[go_sem])|refine bx ?_|(refine bD ?_ ?_<;>intro h<;>try exact bB h)|fail
   subst cv;exact bC (.of (by rw[pO p l fun k hk=>bX k hk hk]))
theorem Z2(b:Bool)(l:List Int)(zE:I)(p:Int->Bool)(H:ab)(an:∀c,oK Tryz.prog zE [.int .i32 c] H (.bool (p c))):
  aY Tryz.prog 192 [.sl b (l.map jT),zE] H (.bool (l.any p)):=by
 refine bh Tryz.func192 ?_;have J:=Z1 b l zE p H an;repeat' first|((first|refine ea (J) (aA) ?_|refine ep (J) (aA) ?_|refine er (fun _=>J) (aA) ?_|refine ad ?_);simp only[go_sem])|refine af ?_|fail
 exact bC (.of (by rw[yx]))
theorem Ka(s:aM):∀(k j pos:Nat),s.length<=pos+k->s.length<=pos+j->oj s k pos=oj s j pos
 |0,0,pos,_,_=>rfl
 |0,j+1,pos,h1,_=>by unfold oj;rw[az (by omega),az (by omega)]
 |k+1,0,pos,_,h2=>by unfold oj;rw[az (by omega),az (by omega)]
 |k+1,j+1,pos,h1,h2=>by
  have:=PK s pos;unfold oj;rw[Ka s k j _ (by omega) (by omega)]
def DD(s:aM)(acc:List Int)(pos:Nat):Option (List Int):=(oj s (s.length-pos) pos).map (acc++·)
theorem Zd{s:aM}{acc:List Int}{pos:Nat}(h:¬pos<s.length):DD s acc pos=some acc:=by
 unfold DD;rw[Ka s _ 0 pos (by omega) (by omega)]
 simp[oj,h]
theorem Yt{s:aM}{acc:List Int}{pos:Nat}(h:pos<s.length):DD s acc pos=
  if(!decide (((iY s pos).1:Int)=65533))=true∨zd [239,191,189] (s.drop pos)=true then DD s (acc++[((iY s pos).1:Int)]) (pos+(iY s pos).2)else none:=by
 have hw:=PK s pos;unfold DD;rw[Ka s _ (s.length-pos-1+1) pos (by omega) (by omega)]
 conv=>lhs;unfold oj
 rw[aF h];split
 ·rw[Ka s (s.length-pos-1) (s.length-(pos+(iY s pos).2)) _ (by omega) (by omega)]
  cases oj s (s.length-(pos+(iY s pos).2)) (pos+(iY s pos).2)<;>simp
 ·rfl
def Ed(r:Option (List Int)):I:=
 match r with
 |some l=>.a0 [.sl false (l.map jT),.bool true]
 |none=>.a0 [.sl false [],.bool false]
theorem Lt(n:Nat)(k:IntKind):(List.replicate n (I.int k 0)).flatMap I.cells=List.replicate n (I.int k 0):=by
 induction n with
 |zero=>rfl
 |succ n ay=>rw[Ba,qe,ay];rfl
theorem Kl(A:List I)(m:Nat)(z x:I):dw (A++List.replicate (m+1) z) A.length [x]=(A++[x])++List.replicate m z:=by
 simp[dw,Ba]
def Mz(s:aM)(x:Nat×List Int):ab:=[.cells 1 (x.2.map jT++List.replicate (s.length-x.2.length) (I.int .i32 0)),.k8 s x.1]
theorem Sz(s:aM)(hs:s.length<=1073741824)(H:ab):aY Tryz.prog 191 [.str s] H (Ed (rI s)):=by
 refine bh Tryz.func191 ?_;repeat' first|(refine ad ?_;simp only[go_sem])|refine bx ?_|(refine bD ?_ ?_<;>intro h<;>try exact bB h)|fail
 refine b5 (ι:=Nat×List Int) (fun x=>[(0,.str s),(4,.osl 1 H.length 1 0 x.2.length s.length),(5,.bool true),(12,.iter (H.length+1))]) (fun x=>H++Mz s x)
  (fun x=>DD s x.2 x.1=rI s∧x.2.length<=x.1) (fun x=>s.length+4-x.1) (0,[]) ?_ ?_ ?_ ?_
 ·refine⟨?_,bk _⟩;show(oj s (s.length-0) 0).map _=_;rw[rI,Nat.sub_zero];cases oj s s.length 0<;>simp
 ·simp[go_sem]
 ·simp[Mz,Lt]
 ·rintro⟨pos,acc⟩ ⟨h1,h2⟩;simp only[Mz]at h1 h2 ⊢;by_cases ak:pos<s.length
  ·have aP:¬acc.length=s.length:=by omega
   have hlen:(acc.map jT).length=acc.length:=cP ..;obtain⟨m,hm⟩:∃m,s.length-acc.length=m+1:=⟨s.length-acc.length-1,by omega⟩
   have rp:s.length-(acc.length+1)=m:=by omega
   have hw:=PK s pos;have av:=Yt (acc:=acc) ak;rw[h1]at av;repeat' first|((first|refine du (aG9 _ _) ?_|refine ad ?_);simp only[go_sem,ak,aP])|refine bx ?_|(refine bD ?_ ?_<;>intro h<;>try exact bB h)|fail
   ·rw[aF (.inl h)]at av;refine⟨⟨by rw[List.length_replicate];omega,by omega,fun e he=>by rw[he];rfl⟩,(pos+(iY s pos).2,acc++[((iY s pos).1:Int)]),⟨av.symm,by simp;omega⟩,by simp;omega,by simp,?_⟩
    have dK:=Kl (acc.map jT) m (.int .i32 0) (.int .i32 (iY s pos).1);rw[hlen]at dK;simp[hm,rp,jT]at dK ⊢;exact dK
   ·rename_i _ cz eK;exact Bool.noConfusion (cz.symm.trans eK)
   ·rw[aF (.inr h)]at av;refine⟨⟨by rw[List.length_replicate];omega,by omega,fun e he=>by rw[he];rfl⟩,(pos+(iY s pos).2,acc++[((iY s pos).1:Int)]),⟨av.symm,by simp;omega⟩,by simp;omega,by simp,?_⟩
    have dK:=Kl (acc.map jT) m (.int .i32 0) (.int .i32 (iY s pos).1);rw[hlen]at dK;simp[hm,rp,jT]at dK ⊢;exact dK
   ·rename_i _ eK lz;rw[az (by rw[eK,lz];simp)]at av
    rw[av];exact bo (.a0 _ _ rfl (dh (.sl _ _) (dh (.refl _) mF)))
  ·refine bW ?_;rw[<-h1,Zd ak];refine⟨_,_,rfl,?_,rfl⟩;refine .a0 _ _ rfl fun i x y J aG=>?_
   match i,J,aG with
   |0,J,aG=>
    cases J;cases aG;refine .osl 1 H.length 1 0 acc.length s.length (acc.map jT++List.replicate (s.length-acc.length) (I.int .i32 0)) _ (bk _) (by simp[go_sem]) (by simp) (by simp) (fun e he=>?_) (fun k j e x y hk aw J=>?_)
    ·obtain⟨c,_,rfl⟩:=bP.1 he;rfl
    ·rw[nj,jC]at hk;obtain⟨c,al,rfl⟩:=hk;have aJC:j=0:=by
      have:=(cA.1 aw).1;simp[jT,I.cells]at this;exact this
     subst aJC;have gD:=(cA.1 al).1;simp only[jT,I.cells,y0,yZ]at aw;subst aw;rw[eE,uz,mC,iC (by simpa using gD),nj,al]at J
     cases J;exact .cl _ (.int _ _)
   |1,J,aG=>cases J;cases aG;exact .cl _ (.bool _)
   |i+2,J,_=>simp at J
theorem KQ(s:aM)(hs:s.length<=1073741824)(H:ab):aY Tryz.prog 156 [.str s] H (.bool (qC s)):=by
 refine bh Tryz.func156 ?_;have dK:=Sz s hs H;have x9:∀l:List Int,aY Tryz.prog 192 [.sl false (l.map jT),.func (.func 193) [] []] H (.bool (l.any HA)):=fun l=>Z2 false l _ HA H fun c=>.mk (first:=[]) (cap:=[]) (fun L=>aAS c (H++L)) (aA)
 unfold qC;cases ax:rI s with
 |none=>
  rw[ax]at dK;simp only[Ed]at dK;repeat' first|((first|refine ea (dK) (aA) ?_|refine ep (dK) (aA) ?_|refine er (fun _=>dK) (aA) ?_|refine ea (x9 _) (aA) ?_|refine ep (x9 _) (aA) ?_|refine er (fun _=>x9 _) (aA) ?_|refine ad ?_);simp only[go_sem])|refine af ?_|fail
  exact bC (.refl _)
 |some l=>
  rw[ax]at dK;simp only[Ed]at dK;repeat' first|((first|refine ea (dK) (aA) ?_|refine ep (dK) (aA) ?_|refine er (fun _=>dK) (aA) ?_|refine ea (x9 _) (aA) ?_|refine ep (x9 _) (aA) ?_|refine er (fun _=>x9 _) (aA) ?_|refine ad ?_);simp only[go_sem])|refine bx ?_|(refine bD ?_ ?_<;>intro h<;>try exact bB h)|fail
  ·exact bC (.of (by simp only[h,cond_true]))
  ·exact bC (.of (by simp only[h,qi]))
def pz(o:bf):Prop:=o.name.length<=1073741824∧o.data.length<=1073741824
def xg(o:bf):Bool:=gm o.node&&dy o.parent&& !ub o.at_.c o.at_.r o.parent&&qC o.name&&decide (o.data=[])
def xI(o:bf):Bool:=gm o.node&&ve o.node&&decide ((o.data.length:Int)<=64)&&decide (o.parent=0)&&decide (o.name=[])
def dk(o:bf):Bool:=(decide (o.kind=1)||decide (o.kind=2))&&ox o.at_.c o.at_.r&& !ub o.at_.c o.at_.r o.node&&(if o.kind=1 then xg o else xI o)
theorem aC3(o:bf)(hs:pz o)(H:ab):aY Tryz.prog 281 [bY o] H (.bool (xg o)):=by
 refine bh Tryz.func281 ?_;have JI:=hs.1;simp only[bY];repeat' first|((first|refine du (v3 _) ?_|refine du (sX _) ?_|refine du (LP _ _ _) ?_|refine ea (KQ _ (by first|assumption|decide|omega|(simp_all;done)|(simp_all;omega)) _) (aA) ?_|refine ep (KQ _ (by first|assumption|decide|omega|(simp_all;done)|(simp_all;omega)) _) (aA) ?_|refine er (fun _=>KQ _ (by first|assumption|decide|omega|(simp_all;done)|(simp_all;omega)) _) (aA) ?_|refine ad ?_);simp only[go_sem])|refine af ?_|fail
 exact bo (.refl _)
theorem aC4(o:bf)(H:ab):aY Tryz.prog 282 [bY o] H (.bool (xI o)):=by
 refine bh Tryz.func282 ?_;simp only[bY];repeat' first|((first|refine du (v3 _) ?_|refine ad ?_);simp only[go_sem])|refine af ?_|fail
 exact bo (.refl _)
theorem Ee(o:bf)(hs:pz o)(H:ab):aY Tryz.prog 207 [bY o] H (.bool (dk o)):=by
 refine bh Tryz.func207 ?_;have hk:=RR o;have hm:=aC3 o hs;have hw:=aC4 o;simp only[bY]at hk hm hw ⊢;by_cases h1:o.kind=1
 ·simp only[h1,dI]at hk hm ⊢;repeat' first|((first|refine du (AI _ _) ?_|refine du (LP _ _ _) ?_|refine lp (hm _) (aA) ?_|refine lq (fun _=>hm _) (aA) ?_|refine lr (fun _=>hm _) (aA) ?_|refine ad ?_);simp only[go_sem])|refine af ?_|fail
  exact bo (.of (by simp[dk,h1]))
 ·by_cases h2:o.kind=2
  ·simp only[h2,dI,eF,Int.reduceEq]at hk hw ⊢;repeat' first|((first|refine du (AI _ _) ?_|refine du (LP _ _ _) ?_|refine lp (hw _) (aA) ?_|refine lq (fun _=>hw _) (aA) ?_|refine lr (fun _=>hw _) (aA) ?_|refine ad ?_);simp only[go_sem])|refine af ?_|fail
   exact bo (.of (by simp[dk,h1,h2]))
  ·simp only[h1,h2,eF]at hk;repeat' first|(refine ad ?_;simp only[go_sem])|refine bx ?_|(refine bD ?_ ?_<;>intro h<;>try exact bB h)|fail
   exact bo (.of (by simp[dk,h1,h2]))
end
section
theorem SA(b:UInt8):b.toNat.toUInt8=b:=by simp
theorem RS(s:List UInt8)(b:Int)(H:ab):Bn Tryz.prog 215 [.str s,.int .u8 b] H (.int .i64 (Lib.countByte s b.toNat.toUInt8)):=
 aFW Tryz.func215 (by kernel_rfl) (by kernel_rfl) (by kernel_rfl) (by kernel_rfl) s b H
theorem RT(s:List UInt8)(b:Int)(H:ab):Bn Tryz.prog 239 [.str s,.int .u8 b] H (.int .i64 (Lib.indexByte s b.toNat.toUInt8)):=
 aFX Tryz.func239 (by kernel_rfl) (by kernel_rfl) (by kernel_rfl) (by kernel_rfl) s b H
theorem aAT(s:List UInt8)(b:UInt8)(H:ab):aY Tryz.prog 189 [.str s,.str [b]] H (.int .i64 (Lib.countByte s b)):=by
 refine bh Tryz.func189 ?_;repeat' first|((first|refine Rl (RS _ _ _) ?_|refine Rm (RS _ _ _) ?_|refine ad ?_);simp only[go_sem])|refine bx ?_|(refine bD ?_ ?_<;>intro h<;>try exact bB h)|fail
 rw[SA];exact bC (.refl _)
theorem Z3(s:List UInt8)(b:UInt8)(H:ab):aY Tryz.prog 231 [.str s,.int .u8 b.toNat] H (.int .i64 (Lib.indexByte s b)):=by
 refine bh Tryz.func231 ?_;repeat' first|((first|refine Rl (RT _ _ _) ?_|refine Rm (RT _ _ _) ?_|refine ad ?_);simp only[go_sem])|refine bx ?_|(refine bD ?_ ?_<;>intro h<;>try exact bB h)|fail
 rw[SA];exact bC (.refl _)
theorem Z4(s:List UInt8)(b:UInt8)(H:ab):aY Tryz.prog 216 [.str s,.str [b]] H (.int .i64 (Lib.indexByte s b)):=by
 refine bh Tryz.func216 ?_;repeat' first|((first|refine du (Z3 _ _) ?_|refine ad ?_);simp only[go_sem])|refine bx ?_|(refine bD ?_ ?_<;>intro h<;>try exact bB h)|fail
 ·have e:[b]=s:=by simpa using h
  subst e;refine bC (.of ?_);rw[Lib.indexByte,aF (by simp)]
 ·exact bC (.refl _)
theorem aAU(s:List UInt8)(b:UInt8)(H:ab):aY Tryz.prog 190 [.str s,.str [b]] H (.int .i64 (Lib.indexByte s b)):=by
 refine bh Tryz.func190 ?_;repeat' first|((first|refine du (Z4 _ _) ?_|refine ad ?_);simp only[go_sem])|refine bx ?_|(refine bD ?_ ?_<;>intro h<;>try exact bB h)|fail
 exact bC (.refl _)
def uH(s:List UInt8)(b:UInt8):I:=match s with
 |[]=>.a0 [.str [],.bool false]
 |c::l=>if c=b then .a0 [.str l,.bool true]else .a0 [.str (c::l),.bool false]
theorem aAV(s:List UInt8)(b:UInt8)(H:ab):aY Tryz.prog 187 [.str s,.str [b]] H (.bool (decide (s.head?=some b))):=by
 refine bh Tryz.func187 ?_;cases s with
 |nil=>
  repeat' first|(refine ad ?_;simp only[go_sem])|refine bx ?_|(refine bD ?_ ?_<;>intro h<;>try exact bB h)|fail
  exact bC (.refl _)
 |cons c l=>
  repeat' first|(refine ad ?_;simp only[go_sem])|refine bx ?_|(refine bD ?_ ?_<;>intro h<;>try exact bB h)|fail
  have ar:decide ((1:Int)<=((l.length+1:Nat):Int))=true:=b1;have au:decide ([c]=[b])=decide ((c::l).head?=some b):=by simp
  refine bC (.of ?_);rw[<-au];exact bH I.bool (by rw[show((1:Nat):Int)=(1:Int)from rfl,ar,hG])
theorem aAW(s:List UInt8)(b:UInt8)(H:ab):aY Tryz.prog 154 [.str s,.str [b]] H (uH s b):=by
 refine bh Tryz.func154 ?_;have ae:=aAV s b;cases s with
 |nil=>
  repeat' first|(refine ad ?_;simp only[go_sem])|refine bx ?_|(refine bD ?_ ?_<;>intro h<;>try exact bB h)|fail
  exact bC (.refl _)
 |cons c l=>
  by_cases h:c=b
  ·rw[cF (by rw[h];rfl)]at ae
   rw[uH,aF h];repeat' first|(refine ad ?_;simp only[go_sem])|refine bx ?_|(refine bD ?_ ?_<;>intro h<;>try exact bB h)|fail
   exact bC (.refl _)
  ·rw[b8 (by simp[h])]at ae
   rw[uH,az h];repeat' first|(refine ad ?_;simp only[go_sem])|refine bx ?_|(refine bD ?_ ?_<;>intro h<;>try exact bB h)|fail
   exact bC (.refl _)
theorem aFx(s:List UInt8)(b:UInt8)(H:ab):aY Tryz.prog 106 [.str s,.str [b]] H (uH s b):=by
 refine bh Tryz.func106 ?_;have ae:=aAW s b;cases s with
 |nil=>
  simp only[uH]at ae ⊢;repeat' first|(refine ad ?_;simp only[go_sem])|refine bx ?_|(refine bD ?_ ?_<;>intro h<;>try exact bB h)|fail
  exact bC (.refl _)
 |cons c l=>
  by_cases h:c=b
  ·simp only[uH,aF h]at ae ⊢;repeat' first|(refine ad ?_;simp only[go_sem])|refine bx ?_|(refine bD ?_ ?_<;>intro h<;>try exact bB h)|fail
   exact bC (.refl _)
  ·simp only[uH,az h]at ae ⊢;repeat' first|(refine ad ?_;simp only[go_sem])|refine bx ?_|(refine bD ?_ ?_<;>intro h<;>try exact bB h)|fail
   exact bC (.refl _)
end
end Go.Proofs.YthafnbmdmfoobaaGreatDoor
