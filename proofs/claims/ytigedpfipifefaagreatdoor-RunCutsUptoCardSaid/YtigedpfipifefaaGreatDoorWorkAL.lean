/- What the functions of this seat answer (12 of 40). No condition. -/
import Derived.Test.YtigedpfipifefaaGreatDoorWorkAI
import Derived.Test.YtigedpfipifefaaGreatDoorWorkAK
import Derived.Lib.MapLaws
import Derived.Sort.AssemblyPlain
set_option linter.unusedSimpArgs false
set_option linter.unusedVariables false
set_option linter.unusedSectionVars false
set_option maxRecDepth 100000
set_option maxHeartbeats 16000000
namespace Go.Proofs.YtigedpfipifefaaGreatDoor
section
def uZ:List Pl:=[.pure 0,.pure 0,.pure 0,.pure 0,.pure 0,.pure 0,.free,.eff [false,false,false,false,false,false]]
attribute [go_sem] uZ
end
section
def xC:List Pl:=[.free,.free,.pure 0,.free,.free,.pure 0,.eff [false,false]]
attribute [go_sem] xC
theorem vA(l:List Int):(l.map sG).flatMap AV.cells=l.map sG:=by
 induction l with
 |nil=>rfl
 |cons x l ih=>rw[zAV,zAF,ih];rfl
theorem rH(l:List Int):∀e∈l.map sG,e.cells.length=1:=fun e he=>by
 obtain⟨x,_,rfl⟩:=zAi.1 he;rfl
theorem aF9(b:Bool)(l:List Nd)(id:Int)(hs:chk l=true)(hl:l.length≤1073741824)(H:AHeap):bJ Tryz.prog 98 [.sl b (l.map ndA),.int .i64 id] H (.sl false ((dK l id).map sG)):=by
 refine fO Tryz.func98 ?_;have hpl:=fun id=>aF8 b l id hs
 refine hG ?_;refine aAQ 5 1 (by simp only[go_sem]) ?_
 refine aH (ι:=List Int×Int) (fun x=>[(0,.sl b (l.map ndA)),(1,.int .i64 x.2),(5,.osl 1 H.length (x.1.length+1) 0 x.1.length x.1.length)]) (fun x=>H++[.cells (x.1.length+1) (x.1.map sG)])
  (fun x=>x.1.length≤l.length∧x.1++dZ l (l.length-x.1.length) x.2=dK l id) (fun x=>l.length-x.1.length) ([],id) ⟨zAv _,rfl⟩ ?_ rfl ?_
 ·simp[go_sem]
 ·rintro⟨acc,id'⟩ ⟨hn,he⟩;simp only at hn he ⊢;by_cases hlt:acc.length<l.length
  ·obtain⟨m,hm⟩:∃m,l.length-acc.length=m+1:=⟨l.length-acc.length-1,by omega⟩
   rw[hm,dZ]at he;cases hh:had l id' with
   |false=>
    rw[aJa hh]at he;repeat' first|((first|refine gQ (hpl _) ?_|refine gS ?_);simp only[go_sem,hh])|refine gA ?_|(refine gD ?_ ?_<;>intro h<;>try exact aD h)|fail
    exact jT (cs:=acc.map sG) (es:=acc.map sG) (rest:=[]) (zAb _) (by simp only[go_sem]) (by rw[vA,zAj]) (by simp) (rH acc) (fun e he=>by obtain⟨c,_,rfl⟩:=zAi.1 he;exact .int _ _) (by rw[←he];simp)
   |true=>
    have hlp:=zV hs hh;have hp:=bO ndA hlp;rw[aF5 hs hh]at he;simp only at he;repeat' first|((first|refine gQ (hpl _) ?_|refine gS ?_);simp only[go_sem,hh,hp,ndA])|refine gA ?_|(refine gD ?_ ?_<;>intro h<;>try exact aD h)|fail
    ·rw[zAp (zAB h)]at he;exact jT (cs:=acc.map sG) (es:=acc.map sG) (rest:=[]) (zAb _) (by simp only[go_sem]) (by rw[vA,zAj]) (by simp) (rH acc) (fun e he=>by obtain⟨c,_,rfl⟩:=zAi.1 he;exact .int _ _) (by rw[←he];simp)
    ·rw[zAk (of_decide_eq_false h)]at he;exact⟨⟨by omega,fun e he=>by rw[he];rfl,by omega⟩,(acc++[l[pos l id'].parent],l[pos l id'].parent),⟨by simp;omega,by rw[←he];simp[show l.length-(acc.length+1)=m by omega]⟩,by simp;omega,⟨rfl,by simp⟩,by simp[sG]⟩
  ·refine hH ?_;have he2:l.length-acc.length=0:=by omega
   rw[he2]at he;exact jT (cs:=acc.map sG) (es:=acc.map sG) (rest:=[]) (zAb _) (by simp only[go_sem]) (by rw[vA,zAj]) (by simp) (rH acc) (fun e he=>by obtain⟨c,_,rfl⟩:=zAi.1 he;exact .int _ _) (by rw[←he];simp[dZ])
theorem aMx(b:Bool)(l:List Nd)(id:Int)(hl:l.length≤1073741824)(H:AHeap):bJ Tryz.prog 64 [.sl b (l.map ndA),.int .i64 id] H (.sl false ((uY l id).map sG)):=by
 refine fO Tryz.func64 ?_;unfold uY;cases hs:chk l with
 |false=>
  repeat' first|((first|refine gQ (aHA _ _) ?_|refine gS ?_);simp only[go_sem,hs])|refine gA ?_|(refine gD ?_ ?_<;>intro h<;>try exact aD h)|fail
  exact cU (.sl _ _)
 |true=>
  have hab:=aF9 b l id hs hl;repeat' first|((first|refine gQ (aHA _ _) ?_|refine gS ?_);simp only[go_sem,hs])|refine gA ?_|(refine gD ?_ ?_<;>intro h<;>try exact aD h)|fail
  exact cU (.refl _)
theorem aJh(l:List Nd):∀e∈l.map ndA,Pur e:=fun e he=>by
 obtain⟨x,_,rfl⟩:=zAi.1 he;exact(by simp only[go_sem])
theorem zX{A B X:List AV}{off:Nat}(h:A.length=off):bI (A++B) off X=A++(X++B.drop X.length):=by
 subst h;simp[bI,List.drop_append]
end
section
def xD:List Pl:=[.pure 0,.pure 0,.pure 0,.pure 0,.pure 0,.pure 0,.pure 0,.eff [false,true,true,true,true,false,false],.pure 0,.eff [false,true,true,false,false],.pure 0,.eff [false,false,false]]
def xE:List Pl:=[.pure 0,.pure 0,.pure 0,.pure 0,.pure 0,.eff [false,true,true,false,false],.pure 0,.eff [false,false,false]]
def xF:List Pl:=[.pure 0,.free,.free,.pure 0,.free,.pure 0,.pure 0,.free,.eff [false,false,false,false]]
attribute [go_sem] xD xE xF
end
section
theorem nD(H:AHeap)(i:Nat)(b:ABlk):(aA H i b).length=H.length:=by simp[aA]
theorem xG{H:AHeap}{i:Nat}(h:i<H.length)(b:ABlk):hget (aA H i b) i=b:=by
 simp only[hget,aA,zAm];rw[zA0 h];rfl
theorem rI{G L:AHeap}{n:Nat}(h:G.length=n):hget (G++L) n=L.getD 0 .gone:=by subst h;exact fU _ _
theorem aA4{G L:AHeap}{n k:Nat}(h:G.length=n)(b:ABlk):aA (G++L) (n+k) b=G++L.set k b:=by subst h;exact mX _ _ _ _
theorem xH{G L:AHeap}{n:Nat}(h:G.length=n)(b:ABlk):aA (G++L) n b=G++L.set 0 b:=by subst h;exact nW _ _ _
end
section
variable {P:Program}
def sN{ι:Type}(F:ι→AF)(Hp:ι→AHeap)(pre:ι→Prop)(Q:aT):aT
 |.normal,α,H=>∃y,pre y∧sF (F y) α∧H=Hp y
 |e,α,H=>Q e α H
section
variable {ι:Type} (F:ι→AF) (Hp:ι→AHeap) (pre:ι→Prop) (Q:aT) (α:AF) (H:AHeap)
@[go_sem] theorem aHB:sN F Hp pre Q .normal α H=∃y,pre y∧sF (F y) α∧H=Hp y:=rfl
@[go_sem] theorem aLg(i:Nat):sN F Hp pre Q (.exit i) α H=Q (.exit i) α H:=rfl
@[go_sem] theorem aMy:sN F Hp pre Q .ret α H=Q .ret α H:=rfl
end
theorem aJi{N:Nat}{x y:Code}{Q:aT}{α:AF}{H:AHeap}{ι:Type}(F:ι→AF)(Hp:ι→AHeap)(pre:ι→Prop)(h1:aw P N x (sN F Hp pre Q) α H)(h2:∀i,pre i→aw P N y Q (F i) (Hp i)):aw P N (.seq x y) Q α H:=by
 refine aCy (jO h1 fun e α' H' h=>?_)
 cases e with
 |normal=>
  obtain⟨i,hp,hs,rfl⟩:=h;exact lE (h2 i hp) (dQ hs)
 |_=>exact h
theorem dU{N id:Nat}{x y:Code}{Q:aT}{α:AF}{H:AHeap}{ι:Type}(F:ι→AF)(Hp:ι→AHeap)(pre:ι→Prop)(h1:aw P N x (fQ id (sN F Hp pre Q)) α H)(h2:∀i,pre i→aw P N y Q (F i) (Hp i)):aw P N x (fQ id (mP P N y Q)) α H:=by
 refine jO h1 fun e α' H' h=>?_
 have key:sN F Hp pre Q .normal α' H'→mP P N y Q .normal α' H':=fun⟨i,hp,hs,hH⟩=>by subst hH;exact lE (h2 i hp) (dQ hs)
 cases e with
 |normal=>exact key h
 |exit i=>
  simp only[fQ]at h ⊢;by_cases hi:i==id
  ·rw[hi,cond_true]at h ⊢;exact key h
  ·have hi':(i==id)=false:=by simpa using hi
   rw[hi',zCc]at h ⊢;exact h
 |_=>exact h
end
section
def vB:List Pl:=[.pure 0,.pure 0,.pure 0,.pure 0,.pure 0,.eff [true,true,true,true,true],.eff [true,true,true,false,false],.free]
attribute [go_sem] vB
theorem lF{H X:AHeap}{i:Nat}(h:∃M,X=H++M)(hi:H.length≤i)(b:ABlk):∃M,aA X i b=H++M:=by
 obtain⟨M,rfl⟩:=h;obtain⟨k,rfl⟩:∃k,i=H.length+k:=⟨i-H.length,by omega⟩
 exact⟨M.set k b,mX _ _ _ _⟩
end
namespace Go.Srt
section
variable {α:Type} (lt:α→α→Bool)
variable {lt}
end
end Go.Srt
section
theorem eA(H:AHeap)(i:Nat)(b b':ABlk):aA (aA H i b) i b'=aA H i b':=by simp[aA]
theorem fK{H:AHeap}{i:Nat}{b:ABlk}(h:hget H i=b)(hb:b.live)(b':ABlk):hget (aA H i b') i=b':=xG (bC h hb) b'
theorem iT{H:AHeap}{i:Nat}{b:ABlk}(h:hget H i=b)(hb:b.live):aA H i b=H:=aBs (eS h hb)
where
 pur_opm (l:List Opn):∀e∈l.map opA,Pur e:=fun e he=>by
  obtain⟨x,_,rfl⟩:=zAi.1 he;exact(by simp only[go_sem])
theorem nE{H:AHeap}{i n:Nat}{b:ABlk}(hb:ClB n b):∀(j:Nat) (c:ABlk),(aA H i b)[j]?=some c→H[j]?=some c∨ClB n c:=by
 intro j c hj;by_cases e:i=j
 ·subst e;unfold aA at hj;by_cases hl:i<H.length
  ·rw[zA0 hl]at hj;cases hj;exact .inr hb
  ·rw[zBq (by rw[List.length_set];omega)]at hj;cases hj
 ·unfold aA at hj;rw[zAU e]at hj;exact .inl hj
theorem eN{H:AHeap}{i:Nat}{b:ABlk}(hb:ClB H.length b)(R:AV→AHeap→Prop)(hR:R (.tup []) (aA H i b)):
  ∃H1 L y,aA H i b=H1++L∧H1.length=H.length∧(∀(j:Nat) (c:ABlk),H1[j]?=some c→H[j]?=some c∨ClB H.length c)∧Frz H.length (aA H i b) (.tup []) y∧R y H1:=by
 exact⟨aA H i b,[],.tup [],(zAj _).symm,nD H i b,nE hb,.cl _ (Pur.cl (.tup _ (fun _ h=>by cases h)) _),hR⟩
theorem aB{n:Nat}{m:Int}(h:(n:Int)=m)(hn:n≤9223372036854775807):IntKind.i64.wrap m=(n:Int):=by subst h;exact wI
theorem jZ{P:Program}{N:Nat}{x y:Code}{Q:aT}{α:AF}{H:AHeap}{ι:Type}(F:ι→AF)(Hp:ι→AHeap)(pre:ι→Prop)(h1:aw P N x (sN F Hp pre Q) α H)(h2:∀i,pre i→aw P N y Q (F i) (Hp i)):aw P N x (mP P N y Q) α H:=by
 refine jO h1 fun e α' H' h=>?_
 cases e with
 |normal=>
  obtain⟨i,hp,hs,rfl⟩:=h;exact lE (h2 i hp) (dQ hs)
 |_=>exact h
open Go.Srt
end
section
def bT(b:UInt8):List UInt8→List (List UInt8)
 |[]=>[[]]
 |c::l=>match bT b l with
  |[]=>[[]]
  |h::t=>if c=b then[]::h::t else(c::h)::t
theorem tO(b:UInt8)(l:List UInt8):bT b l≠[]:=by
 cases l with
 |nil=>simp[bT]
 |cons c l=>rw[bT];split;simp;split<;>simp
theorem rJ{b:UInt8}{l:List UInt8}(h:Lib.indexByte l b<0):bT b l=[l]∧Lib.countByte l b=0:=by
 induction l with
 |nil=>exact⟨rfl,rfl⟩
 |cons c l ih=>
  rw[Lib.indexByte]at h;split at h
  ·omega
  ·rename_i h1;have h2:Lib.indexByte l b<0:=by
    have:=Lib.indexByte_ge l b;split at h
    ·rename_i h3;have:Lib.indexByte l b= -1:=by simpa using h3
     omega
    ·omega
   obtain⟨e1,e2⟩:=ih h2;have h3:¬c=b:=by simpa using h1
   refine⟨by rw[bT,e1];simp[h3],?_⟩
   unfold Lib.countByte at e2 ⊢;rw[List.count_cons,e2];simp[h3]
theorem rK{b:UInt8}{l:List UInt8}{k:Nat}(h:Lib.indexByte l b=k):k<l.length∧bT b l=l.take k::bT b (l.drop (k+1))∧Lib.countByte l b=Lib.countByte (l.drop (k+1)) b+1:=by
 induction l generalizing k with
 |nil=>rw[Lib.indexByte]at h;omega
 |cons c l ih=>
  rw[Lib.indexByte]at h;split at h
  ·rename_i h1;have h1:c=b:=by simpa using h1
   have hk:k=0:=by omega
   subst hk;subst h1;refine⟨by simp,?_,?_⟩
   ·rw[bT];cases hs:bT c l with
    |nil=>exact absurd hs (tO c l)
    |cons x t=>simp[hs]
   ·unfold Lib.countByte;simp
  ·rename_i h1;have h3:¬c=b:=by simpa using h1
   split at h
   ·omega
   ·obtain⟨j,rfl⟩:∃j,k=j+1:=⟨k-1,by
     rename_i h4;have:=Lib.indexByte_ge l b;have h5:¬Lib.indexByte l b= -1:=by simpa using h4
     omega⟩
    obtain⟨a1,a2,a3⟩:=ih (k:=j) (by omega)
    refine⟨by simpa using a1,?_,?_⟩
    ·rw[bT,a2];simp[h3]
    ·unfold Lib.countByte at a3 ⊢;rw[List.count_cons,a3];simp[h3]
theorem zY{b:UInt8}{l:List UInt8}(h:Lib.countByte l b=0):bT b l=[l]:=by
 rcases Int.lt_or_le (Lib.indexByte l b) 0 with h1|h1
 ·exact(rJ h1).1
 ·have:=(rK (b:=b) (l:=l) (k:=(Lib.indexByte l b).toNat) (by omega)).2.2
  omega
theorem aBN{b:UInt8}{l:List UInt8}(h:0<Lib.countByte l b):∃k:Nat,Lib.indexByte l b=k:=by
 rcases Int.lt_or_le (Lib.indexByte l b) 0 with h1|h1
 ·have:=(rJ h1).2;omega
 ·exact⟨(Lib.indexByte l b).toNat,by omega⟩
theorem rL(A B:List AV)(y x:AV){n:Nat}(h:A.length=n):bI (A++y::B) (n * 1) [x]=A++x::B:=by
 subst h;rw[zAo];simp[bI]
theorem aDF(s:List UInt8)(b:UInt8)(hs:s.length≤1048576)(H:AHeap):bJ Tryz.prog 157 [.str s,.str [b],.int .i64 0,.int .i64 (-1)] H (.sl false ((bT b s).map AV.str)):=by
 refine fO Tryz.func157 ?_;have hcle:Lib.countByte s b≤s.length:=List.count_le_length;have hcnt:=aDu s b;generalize hm:Lib.countByte s b=m at *;have w1:IntKind.i64.wrap ((m:Int)+1)=((m+1:Nat):Int):=by rw[wI];rfl
 have w2:IntKind.i64.wrap ((s.length:Int)+1)=((s.length+1:Nat):Int):=by rw[wI];rfl
 have w3:min ((m+1:Nat):Int) ((s.length+1:Nat):Int)=((m+1:Nat):Int):=by omega
 have w4:IntKind.i64.wrap (((m+1:Nat):Int)-1)=(m:Int):=by rw[wI];omega
 have w5:(((m+1:Nat):Int)).toNat=m+1:=Int.toNat_natCast _;have e0:List.flatMap AV.cells (List.replicate (m+1) (AV.str []))=List.replicate (m+1) (AV.str []):=by
  rw[List.flatMap_replicate];simp[AV.cells]
 have hc1:∀l:List (List UInt8),(l.map AV.str).flatMap AV.cells=l.map AV.str:=fun l=>by
  rw[zBR];induction l with|nil=>rfl|cons x l ih=>rw[zAF,zAV,ih];rfl
 refine hH ?_;refine aH (ι:=Nat×List (List UInt8)×List UInt8) (fun x=>[(0,.str x.2.2),(1,.str [b]),(2,.int .i64 0),(3,.int .i64 m),(9,.osl 1 H.length 1 0 (m+1) (m+1)),(10,.int .i64 x.1)])
  (fun x=>H++[.cells 1 (x.2.1.map AV.str++List.replicate (m+1-x.1) (.str []))])
  (fun x=>x.1≤m∧x.2.1.length=x.1∧bT b s=x.2.1++bT b x.2.2∧Lib.countByte x.2.2 b+x.1=m∧x.2.2.length≤s.length) (fun x=>m-x.1) (0,[],s) ⟨zAv _,rfl,rfl,hm,zAb _⟩ ?_ (by simp) ?_
 ·simp[go_sem]
 ·rintro⟨i,pre,r⟩ ⟨hi,hl,hsp,hct,hrl⟩;simp only at hi hl hsp hct hrl ⊢;by_cases hlt:i<m
  ·obtain⟨k,hk⟩:=aBN (b:=b) (l:=r) (by omega)
   obtain⟨k1,k2,k3⟩:=rK hk;have hix:=aDv r b;rw[hk]at hix;have hli:decide ((i:Int)<(m:Int))=true:=dT;have hkn:decide ((k:Int)<0)=false:=dF;have x1:IntKind.i64.wrap ((k:Int)+0)=(k:Int):=by rw[wI];omega
   have x2:IntKind.i64.wrap ((k:Int)+1)=((k+1:Nat):Int):=by rw[wI];rfl
   repeat' first|(refine gS ?_;simp only[go_sem,hli,hkn,x1,x2])|refine gA ?_|(refine gD ?_ ?_<;>intro h<;>try exact aD h)|fail
   have x3:(IntKind.i64.wrap ((k:Int)+((1:Nat):Int))).toNat=k+1:=by rw[wI];omega
   refine⟨(i+1,pre++[r.take k],r.drop (k+1)),⟨hlt,by simp[hl],by rw[hsp,k2];simp,by simp only;omega,by simp only[zBa];omega⟩,by simp only;omega,⟨by rw[x3],zA5 _ (cA hlt (by omega))⟩,?_⟩
   have e1:m+1-i=(m-i)+1:=by omega
   have e2:m+1-(i+1)=m-i:=by omega
   simp only[e1,e2,zBb];rw[rL _ _ _ _ (by rw[zAs];exact hl)]
   simp
  ·have hie:i=m:=by omega
   subst hie;have hli:decide ((i:Int)<(i:Int))=false:=by simp
   repeat' first|(refine gS ?_;simp only[go_sem,hli])|refine gA ?_|(refine gD ?_ ?_<;>intro h<;>try exact aD h)|fail
   have e1:i+1-i=1:=by omega
   have e3:(IntKind.i64.wrap ((i:Int)+1)).toNat=i+1:=by rw[wI];omega
   have e4:bT b s=pre++[r]:=by rw[hsp,zY (b:=b) (l:=r) (by omega)]
   simp only[e1,e3,zBb,List.replicate_zero];rw[rL _ _ _ _ (by rw[zAs];exact hl)]
   have e5:pre.map AV.str++[AV.str r]=(bT b s).map AV.str:=by rw[e4];simp
   rw[e5];exact jT (cs:=(bT b s).map AV.str) (es:=(bT b s).map AV.str) (rest:=[]) (by omega) (by simp only[go_sem]) (by rw[hc1,zAj]) (by rw[zAs,e4];simp[hl]) (fun e he=>by obtain⟨x,_,rfl⟩:=zAi.1 he;rfl) (fun e he=>by obtain⟨x,_,rfl⟩:=zAi.1 he;exact(by simp only[go_sem])) rfl
end
section
theorem aBO{b:UInt8}{l:List UInt8}:∀x∈bT b l,x.length≤l.length:=by
 induction l with
 |nil=>intro x hx;simp[bT]at hx;simp[hx]
 |cons c l ih=>
  intro x hx;rw[bT]at hx;cases hs:bT b l with
  |nil=>exact absurd hs (tO b l)
  |cons y t=>
   rw[hs]at ih;simp only[hs]at hx;rw[zAt];by_cases h:c=b
   ·rw[zAp h]at hx;rcases zAC.1 hx with q|q
    ·rw[q];simp
    ·have:=ih x q;omega
   ·rw[zAk h]at hx;rcases zAC.1 hx with q|q
    ·have:=ih y (by simp);rw[q,zAt];omega
    ·have:=ih x (by simp[q]);omega
def zZ(l:List Txt):Bool:=decide ((l.length:Int)≤16)&&l.all jX
def iU(p:Txt):Option (List Txt):=
 if p=[47]then some []else match p with
 |[]=>none
 |c::l=>if c=47 then(if zZ (bT 47 l)=true then some (bT 47 l)else none)else none
theorem aDG(s:List UInt8)(b:UInt8)(hs:s.length≤1048576)(H:AHeap):bJ Tryz.prog 108 [.str s,.str [b]] H (.sl false ((bT b s).map AV.str)):=by
 refine fO Tryz.func108 ?_;have hg:=aDF s b hs;repeat' first|(refine gS ?_;simp only[go_sem])|refine gA ?_|(refine gD ?_ ?_<;>intro h<;>try exact aD h)|fail
 exact cU (.refl _)
theorem aMz(f:Bool)(l:List Txt)(hl:∀x∈l,x.length≤1048576)(H:AHeap):bJ Tryz.prog 109 [.sl f (l.map AV.str)] H (.bool (zZ l)):=by
 refine fO Tryz.func109 ?_;by_cases h16:(l.length:Int)≤16
 ·have hd:decide ((16:Int)<(l.length:Int))=false:=dF;have hF:zZ l=l.all jX:=by rw[zZ,zAg h16,zAE]
  rw[hF];refine hH ?_;refine aH (ι:=Nat) (fun i=>[(8,.sl f (l.map AV.str)),(9,.int .i64 l.length),(10,.int .i64 i)]) (fun _=>H) (fun i=>i≤l.length∧∀x∈l.take i,jX x=true) (fun i=>l.length-i) 0 ⟨zAv _,by simp⟩ ?_ rfl ?_
  ·simp[go_sem]
  ·rintro i ⟨hi,hok⟩;by_cases hlt:i<l.length
   ·have hp:=bO AV.str hlt;have hli:decide ((i:Int)<(l.length:Int))=true:=dT;have hn:=aDs l[i] (by have:=hl _ (zAK hlt);omega)
    cases hk:jX l[i]with
    |false=>
     rw[hk]at hn;have hall:l.all jX=false:=by rw[List.all_eq_false];exact⟨l[i],zAK hlt,by rw[hk];decide⟩
     rw[hall];refine hH ?_;exact cU (.refl _)
    |true=>
     rw[hk]at hn;refine hH ?_;refine⟨i+1,⟨hlt,fun x hx=>?_⟩,by omega,zA5 _ (cA hlt (by omega))⟩
     rw[zAl hlt,zAM,zAq]at hx;rcases hx with q|q
     ·exact hok x q
     ·rw[q];exact hk
   ·have hie:i=l.length:=by omega
    subst hie;have hli:decide ((l.length:Int)<(l.length:Int))=false:=by simp
    have hall:l.all jX=true:=zAx.2 (by rwa[zAG]at hok)
    rw[hall];refine hH ?_;exact cU (.refl _)
 ·have hd:decide ((16:Int)<(l.length:Int))=true:=dT;have hF:zZ l=false:=by rw[zZ,zAh h16,zBx]
  rw[hF];refine hH ?_;exact cU (.refl _)
def aA5(p:Txt):AV:=match iU p with
 |none=>.tup [.sl true [],.int .i64 10]
 |some l=>.tup [.sl (decide (p=[47])) (l.map AV.str),.int .i64 0]
theorem aJj(p:Txt)(hs:p.length≤1048576)(H:AHeap):bJ Tryz.prog 72 [.str p] H (aA5 p):=by
 refine fO Tryz.func72 ?_;have hcut:=aI8 p 47;by_cases h1:p=[47]
 ·have hd:decide (p=[47])=true:=zAg h1;simp only[aA5,iU,zAp h1,hd];refine hH ?_;exact cU (.refl _)
 ·have hd:decide (p=[47])=false:=zAh h1;simp only[aA5,iU,zAk h1,hd];cases p with
  |nil=>
   simp only[sJ]at hcut;refine hH ?_;exact cU (.refl _)
  |cons c l=>
   rw[zAt]at hs;by_cases h2:c=47
   ·simp only[sJ,zAp h2]at hcut ⊢;have hsp:=aDG l 47 (by omega)
    have hfi:=aMz false (bT 47 l) (fun x hx=>by have:=aBO x hx;omega)
    cases hf:zZ (bT 47 l)with
    |false=>
     rw[hf]at hfi;repeat' first|(refine gS ?_;simp only[go_sem,hd])|refine gA ?_|(refine gD ?_ ?_<;>intro h<;>try exact aD h)|fail
     exact cU (.refl _)
    |true=>
     rw[hf]at hfi;repeat' first|(refine gS ?_;simp only[go_sem,hd])|refine gA ?_|(refine gD ?_ ?_<;>intro h<;>try exact aD h)|fail
     exact cU (.refl _)
   ·simp only[sJ,zAk h2]at hcut ⊢;refine hH ?_;exact cU (.refl _)
end
section
structure Cal where
 kind:Int
 path:Txt
 to:Txt
 data:Txt
 n:Int
deriving DecidableEq,Inhabited
structure Evt where
 kind:Int
 path:Txt
deriving DecidableEq,Inhabited
structure Ans where
 err:Int
 data:Txt
 names:List Txt
 n:Int
 events:List Evt
deriving DecidableEq,Inhabited
structure Thr where
 call:Cal
 has:List Int
 at_:Int
 done:Bool
 ended:Bool
 upto:Int
 begin_:Int
 mark:Int
 end_:Int
 ans:Ans
deriving DecidableEq,Inhabited
structure Trn where
 kind:Int
 lock:Int
deriving DecidableEq,Inhabited
def pB(c:Cal):AV:=.agg [.int .i64 c.kind,.str c.path,.str c.to,.str c.data,.int .i64 c.n]
def evA(e:Evt):AV:=.agg [.int .i64 e.kind,.str e.path]
def trA(t:Trn):AV:=.agg [.int .i64 t.kind,.int .i64 t.lock]
def thF(h n e:AV)(t:Thr):AV:=.agg [.int .i64 t.call.kind,.str t.call.path,.str t.call.to,.str t.call.data,.int .i64 t.call.n,h,.int .i64 t.at_,.bool t.done,.bool t.ended,.int .i64 t.upto,.int .i64 t.begin_,.int .i64 t.mark,.int .i64 t.end_,
 .int .i64 t.ans.err,.str t.ans.data,n,.int .i64 t.ans.n,e]
def thA(f1 f2 f3:Bool)(t:Thr):AV:=thF (.sl f1 (t.has.map sG)) (.sl f2 (t.ans.names.map AV.str)) (.sl f3 (t.ans.events.map evA)) t
@[go_sem] theorem aOq(x:Cal):Pur (pB x)=True:=by simp only[pB,go_sem]
@[go_sem] theorem aOr(x:Evt):Pur (evA x)=True:=by simp only[evA,go_sem]
@[go_sem] theorem aOs(x:Trn):Pur (trA x)=True:=by simp only[trA,go_sem]
@[go_sem] theorem aOt(f1 f2 f3:Bool)(x:Thr):Pur (thA f1 f2 f3 x)=True:=by simp only[thA,thF,go_sem]
def gR:Cal:=⟨0,[],[],[],0⟩
def an0:Ans:=⟨0,[],[],0,[]⟩
end
section
def eJ:List Int→List Int→Int
 |[],[]=>0
 |[],(_::_)=> -1
 |_::_,[]=>1
 |x::xs,y::ys=>if x<y then-1 else if y<x then 1 else eJ xs ys
def bG(s:Txt):List Int:=match kE s with
 |some l=>l
 |none=>s.map fun b=>((b.toNat:Int)+1114112)
def pV(a b:Txt):Bool:=decide (eJ (bG a) (bG b)<0)
theorem iD(a b:List Int):eJ a b= -1∨eJ a b=0∨eJ a b=1:=by
 induction a generalizing b<;>grind [eJ,List,Int]
theorem vC{a b:List Int}(h:eJ a b=0):a=b:=by
 induction a generalizing b with
 |nil=>grind [eJ,List,Int]
 |cons x a ih=>
  cases b with
  |nil=>simp[eJ]at h
  |cons y b=>
   grind [eJ]
theorem aBP(a:List Int):eJ a a=0:=by
 induction a with
 |nil=>rfl
 |cons x a ih=>rw[eJ,zAk (by omega),zAk (by omega),ih]
theorem lG(a b:List Int):eJ b a= -eJ a b:=by
 induction a generalizing b<;>grind [eJ,List,Int]
theorem rM{a b c:List Int}(h:eJ a b= -1)(k:eJ b c= -1):eJ a c= -1:=by
 induction a generalizing b c with
 |nil=>
  grind [eJ,List,Int]
 |cons x a ih=>
  cases b with
  |nil=>simp[eJ]at h
  |cons y b=>
   cases c with
   |nil=>simp[eJ]at k
   |cons z c=>
    rw[eJ]at h k ⊢;grind
theorem mJ(s:Txt)(pos:Nat):dR s pos=Lib.decodeL (s.drop pos):=(Lib.decodeL_drop ⟨s.toArray⟩ pos).symm
theorem aOu{l:Txt}(h:rE [239,191,189] l=true):Lib.decodeL l=(65533,3):=by
 unfold rE at h;simp only[zAc,zAz]at h;obtain⟨h1,h2⟩:=h
 match l,h1,h2 with
 |a::b::c::r,h1,h2=>
  simp only[zAt,List.length_nil,zAD,zAS,List.cons.injEq,and_true]at h2;obtain⟨rfl,rfl,rfl⟩:=h2;simp[zAt,List.length_nil,zAD,zAS,List.cons.injEq,Lib.decodeL_N,List.getD_cons_zero,List.getD_cons_succ,Lib.decodeN,]
theorem vD(s:Txt):∀(k pos:Nat) (l:List Int),dX s k pos=some l→s.drop pos=l.flatMap Lib.encodeRune∧∀x∈l,x≤1114111:=by
 intro k;induction k with
 |zero=>
  simp[pos,dX,zBj,]
 |succ k ih=>
  intro pos l h;unfold dX at h;split at h
  ·rename_i hlt;split at h
   ·rename_i hc;cases hr:dX s k (pos+(dR s pos).2)with
    |none=>rw[hr]at h;cases h
    |some r=>
     rw[hr,zBL]at h;obtain⟨e1,e2⟩:=ih _ _ hr;cases h;have hne:s.drop pos≠[]:=by rw[Ne,List.drop_eq_nil_iff];omega
     have hv:¬((Lib.decodeL (s.drop pos)).1=65533∧(Lib.decodeL (s.drop pos)).2=1):=by
      rintro⟨q1,q2⟩;rcases hc with hc|hc
      ·rw[mJ,q1]at hc;simp at hc
      ·rw[aOu hc]at q2;cases q2
     have hen:=Lib.encode_decode _ hne hv;rw[←mJ]at hen;refine⟨?_,fun x hx=>?_⟩
     ·rw[zAF,hen,←e1,←List.drop_drop,List.take_append_drop]
     ·rcases zAC.1 hx with rfl|hx
      ·have:=Lib.decodeL_rune (s.drop pos);rw[←mJ]at this;omega
      ·exact e2 x hx
   ·cases h
  simp_all
theorem kU{s:Txt}{l:List Int}(h:kE s=some l):s=l.flatMap Lib.encodeRune∧∀x∈l,x≤1114111:=vD s _ 0 l h
theorem aAa{a b:Txt}(h:bG a=bG b):a=b:=by
 have big:∀{s:Txt} {l:List Int},kE s=none→(∀x∈l,x≤1114111)→(s.map fun b=>((b.toNat:Int)+1114112))≠l:=by
  intro s l hs hl he;cases s with
  |nil=>cases hs
  |cons c s=>
   have:=hl ((c.toNat:Int)+1114112) (by rw[←he];simp)
   omega
 unfold bG at h;cases ha:kE a with
 |some l=>
  obtain⟨e1,e2⟩:=kU ha;cases hb:kE b with
  |some m=>
   rw[ha,hb]at h;rw[e1,(kU hb).1];exact zA5 _ h
  |none=>
   grind
 |none=>
  cases hb:kE b with
  |some m=>
   rw[ha,hb]at h;exact absurd h (big ha (kU hb).2)
  |none=>
   rw[ha,hb]at h;simp only at h;refine(List.map_inj_right fun x y hxy=>?_).1 h
   have:x.toNat=y.toNat:=by omega
   exact UInt8.toNat_inj.1 this
theorem lH:Sort.SWO pV where
 irrefl:=fun x=>by simp[pV,aBP]
 trans:=fun x y z h k=>by
  unfold pV at *;rw[zAz]at *;have h1:=iD (bG x) (bG y);have h2:=iD (bG y) (bG z);rw[rM (show eJ (bG x) (bG y)= -1 by omega) (show eJ (bG y) (bG z)= -1 by omega)]
  omega
 ntrans:=fun x y z h k=>by
  unfold pV at *;rw[zA2]at *;intro q;have h1:=iD (bG x) (bG y);have h2:=iD (bG y) (bG z);have h3:=iD (bG x) (bG z);have a1:=lG (bG x) (bG y);have a2:=lG (bG y) (bG z);rcases h1 with h1|h1|h1
  ·omega
  ·rw[vC h1]at q;omega
  ·rcases h2 with h2|h2|h2
   ·omega
   ·rw[←vC h2]at q;omega
   ·have:=rM (show eJ (bG z) (bG y)= -1 by omega) (show eJ (bG y) (bG x)= -1 by omega)
    have a3:=lG (bG x) (bG z);omega
theorem aBQ{x y:Txt}(h:pV x y=false)(k:pV y x=false):x=y:=by
 unfold pV at *;rw[zA2]at *;have:=lG (bG x) (bG y);exact aAa (vC (by omega))
def pC(l:List Txt):List Txt:=l.mergeSort fun x y=> !pV y x
theorem aJk(a b c:Txt):(!pV b a)=true→(!pV c b)=true→(!pV c a)=true:=by
 simp only[Bool.not_eq_true'];exact fun h k=>lH.ntrans c b a k h
theorem aGa(a b:Txt):((!pV b a)||(!pV a b))=true:=by
 cases h:pV b a with
 |false=>rfl
 |true=>
  cases k:pV a b with
  |false=>rfl
  |true=>have:=lH.trans _ _ _ h k;rw[lH.irrefl]at this;cases this
theorem mK(l:List Txt):(pC l).Perm l:=List.mergeSort_perm ..
theorem vE(l:List Txt):(pC l).Pairwise fun x y=>(!pV y x)=true:=List.pairwise_mergeSort aJk aGa l
theorem aAb{a l:List Txt}(hs:a.Pairwise fun x y=>(!pV y x)=true)(hp:a.Perm l):a=pC l:=
 List.Perm.eq_of_pairwise (fun x y _ _ h k=>aBQ (by simpa using k) (by simpa using h)) hs (vE l) (hp.trans (mK l).symm)
structure Itm where
 path:Txt
 id:Int
 data:Txt
deriving DecidableEq,Inhabited
def itA(x:Itm):AV:=.agg [.str x.path,.int .i64 x.id,.str x.data]
@[go_sem] theorem aOv(x:Itm):Pur (itA x)=True:=by simp only[itA,go_sem]
def aMA(l:List Nd)(dir:Int):List Txt:=if chk l=true then pC ((dO l dir).map (·.1))else[]
def aOw(l:List Nd)(dir:Int):List Int:=dir::uY l dir
def kV(l:List Nd)(out:List Int):Nat→Int→Txt→List Itm
 |0,_,_=>[]
 |k+1,dir,path=>(pC (((dO l dir).filter fun p=> !out.contains p.2.id).map (·.1))).flatMap fun s=>match fN s (dO l dir)with
  |some n=>⟨path++(47::s),n.id,n.data⟩::(if dirI n.id=true then kV l out k n.id (path++(47::s))else[])
  |none=>[]
def rN(l:List Nd)(dir:Int):List Itm:=if chk l=true then kV l (aOw l dir) (l.length+1) dir []else[]
def aHD(p:Txt)(l:List Itm):Option Itm:=l.reverse.find? fun x=>decide (x.path=p)
def aHE(is:List Itm)(t:Itm):Bool:=match aHD t.path is with|some n=> !decide (n.id=t.id)|none=>true
def aJm(was:List Itm)(t:Itm):Bool:=match aHD t.path was with|some o=>decide (o.id=t.id)&& !decide (o.data=t.data)|none=>false
def aHF(was is:List Itm):List Evt:=
 ((was.reverse.filter (aHE is)).map fun t=>⟨1,t.path⟩)++((is.filter (aHE was)).map fun t=>⟨2,t.path⟩)++((is.filter (aJm was)).map fun t=>⟨3,t.path⟩)
def aMB(e:List Evt)(over:Bool)(l:List Evt):List Evt×Bool:=
 if over=true then(e,true)else if 8-e.length<l.length then(e++l.take (8-e.length)++[⟨9,[]⟩],true)else(e++l,false)
end
section
structure Snp where
 n:Int
 nodes:List Nd
deriving DecidableEq,Inhabited
structure Wch where
 n:Int
 dir:Int
 evs:List Evt
 over:Bool
deriving DecidableEq,Inhabited
structure Mdl where
 log:Lg
 seen:Int
 rep:Int
 snaps:List Snp
 watches:List Wch
 next:Int
deriving DecidableEq,Inhabited
def snA(s:Snp):AV:=.agg [.int .i64 s.n,.sl false (s.nodes.map ndA)]
def waA(w:Wch):AV:=.agg [.int .i64 w.n,.int .i64 w.dir,.sl false (w.evs.map evA),.bool w.over]
def mdF(e n s w:AV)(m:Mdl):AV:=.agg [e,n,.int .i64 m.seen,.int .i64 m.rep,s,w,.int .i64 m.next]
def mdA(f1 f2 f3 f4:Bool)(m:Mdl):AV:=mdF (.sl f1 (m.log.entries.map enA)) (.sl f2 (m.log.nodes.map ndA)) (.sl f3 (m.snaps.map snA)) (.sl f4 (m.watches.map waA)) m
@[go_sem] theorem aOy(x:Snp):Pur (snA x)=True:=by simp only[snA,go_sem]
@[go_sem] theorem aOz(x:Wch):Pur (waA x)=True:=by simp only[waA,go_sem]
@[go_sem] theorem aOA(f1 f2 f3 f4:Bool)(x:Mdl):Pur (mdA f1 f2 f3 f4 x)=True:=by simp only[mdA,mdF,go_sem]
def md0:Mdl:=⟨⟨[],[]⟩,0,0,[],[],0⟩
def idI(a b:Int)(d:Bool):Int:=if okI a b=true then 128 * a+2 * b+(if d then 1 else 0)else-1
def aJp(a b:Int):Bool:=decide (0≤a)&&decide (a<1048576)&&decide (0≤b)&&decide (b≤63)
def aMC(n:Int)(s:Stm):Int:=if okI s.c s.r=true then max n s.c else n
def fP(n:Int)(first:Bool):Txt→Option (Int×Txt)
 |[]=>none
 |x::r=>if(first&&decide ((x.toNat:Int)=128)||decide (72057594037927935<n))=true then none
  else if(x.toNat:Int)<128 then some (n * 128+x.toNat,r)else fP (n * 128+((x.toNat:Int)-128)) false r
def bK(b:Txt):Option (Int×Txt):=fP 0 true b
def eZ(b:Txt):Option (Txt×Txt):=match bK b with
 |none=>none
 |some (n,r)=>if(r.length:Int)<n then none else some (r.take n.toNat,r.drop n.toNat)
def aMD(b:Txt):Option (Opn×Txt):=
 (bK b).bind fun(c,b1)=>(bK b1).bind fun(r,b2)=>(bK b2).bind fun(k,b3)=>(bK b3).bind fun(nd,b4)=>
  if k=1 then(bK b4).bind fun(p,b5)=>(eZ b5).bind fun(t,b6)=>if aDt ⟨⟨c,r⟩,k,nd,p,t,[]⟩=true then some (⟨⟨c,r⟩,k,nd,p,t,[]⟩,b6)else none
  else(eZ b4).bind fun(t,b6)=>if aDt ⟨⟨c,r⟩,k,nd,0,[],t⟩=true then some (⟨⟨c,r⟩,k,nd,0,[],t⟩,b6)else none
def aHG:Nat→Txt→Option (List Opn)
 |0,b=>if b=[]then some []else none
 |k+1,b=>if b=[]then some []else(aMD b).bind fun(o,r)=>(aHG k r).map (o::·)
def aME(b:Txt):Option (List Opn):=aHG b.length b
structure Dsk where
 m:Mdl
 a:Ans
 ops:List Opn
deriving DecidableEq,Inhabited
def kW(m:Mdl):Stm×Int:=if aJp m.seen m.rep=false then(st0,20)else if(200:Int)≤(m.log.entries.length:Int)then(st0,193)else(⟨m.seen+1,m.rep⟩,0)
def aAc(d:Dsk)(o:Opn):Int×Dsk:=if aMu d.m.log o=0 then(0,{d with m:={d.m with log:=aMt d.m.log o},ops:=d.ops++[o]})else(aMu d.m.log o,d)
def aGb(d:Dsk)(o:Opn):Int×Dsk:=
 if(kW d.m).2=0 then
  (if(aAc d {o with at_:=(kW d.m).1}).1=0 then(0,{(aAc d {o with at_:=(kW d.m).1}).2 with m:={(aAc d {o with at_:=(kW d.m).1}).2.m with seen:=(kW d.m).1.c}})
  else aAc d {o with at_:=(kW d.m).1})
 else((kW d.m).2,d)
def aDH(m:Mdl)(h:Int):Option (List Nd):=if h=0 then some m.log.nodes else(m.snaps.find? fun s=>decide (s.n=h)).map (·.nodes)
def pW(l:List Nd)(p:Txt):Int×Int:=match iU p with
 |none=>(0,10)
 |some ns=>xA l ns
def abvN(l:List Nd)(p:Txt):Int×Txt×Int:=match iU p with
 |none=>(0,[],10)
 |some []=>(0,[],194)
 |some (x::xs)=>if(xA l (x::xs).dropLast).2=0 then(if dirI (xA l (x::xs).dropLast).1=true then((xA l (x::xs).dropLast).1,(x::xs).getLast (by simp),0)else(0,[],81))else(0,[],(xA l (x::xs).dropLast).2)
def aMF(c:Cal)(d:Dsk):Int×Dsk:=
 if c.path=[47]then(194,d)else
 if(abvN d.m.log.nodes c.path).2.2=0 then
  (if(childN d.m.log.nodes (abvN d.m.log.nodes c.path).1 (abvN d.m.log.nodes c.path).2.1).isSome=true then(190,d)else
   if(kW d.m).2=0 then aGb d ⟨st0,1,idI (kW d.m).1.c (kW d.m).1.r (decide (c.kind=1)),(abvN d.m.log.nodes c.path).1,(abvN d.m.log.nodes c.path).2.1,[]⟩else((kW d.m).2,d))
 else((abvN d.m.log.nodes c.path).2.2,d)
def aJq(c:Cal)(d:Dsk):Int×Dsk:=
 if(pW d.m.log.nodes c.path).2=0 then(if dirI (pW d.m.log.nodes c.path).1=true then(82,d)else aGb d ⟨st0,2,(pW d.m.log.nodes c.path).1,0,[],c.data⟩)
 else((pW d.m.log.nodes c.path).2,d)
def aMG(c:Cal)(d:Dsk):Int×Dsk:=match aDH d.m c.n with
 |none=>(191,d)
 |some l=>if(pW l c.path).2=0 then(if dirI (pW l c.path).1=true then(82,d)else(0,{d with a:={d.a with data:=((aMq l (pW l c.path).1).getD nd0).data}}))else((pW l c.path).2,d)
def lsD(c:Cal)(d:Dsk):Int×Dsk:=match aDH d.m c.n with
 |none=>(191,d)
 |some l=>if(pW l c.path).2=0 then(if dirI (pW l c.path).1=true then(0,{d with a:={d.a with names:=aMA l (pW l c.path).1}})else(81,d))else((pW l c.path).2,d)
def aMH(c:Cal)(d:Dsk):Int×Dsk:=
 if c.path=[47]∨c.to=[47]then(194,d)else
 if(pW d.m.log.nodes c.path).2=0 then
  (if(abvN d.m.log.nodes c.to).2.2=0 then
   (if(childN d.m.log.nodes (abvN d.m.log.nodes c.to).1 (abvN d.m.log.nodes c.to).2.1).isSome=true then(190,d)else
    if(abvN d.m.log.nodes c.to).1=(pW d.m.log.nodes c.path).1∨(uY d.m.log.nodes (abvN d.m.log.nodes c.to).1).contains (pW d.m.log.nodes c.path).1=true then(192,d)
    else aGb d ⟨st0,1,(pW d.m.log.nodes c.path).1,(abvN d.m.log.nodes c.to).1,(abvN d.m.log.nodes c.to).2.1,[]⟩)
  else((abvN d.m.log.nodes c.to).2.2,d))
 else((pW d.m.log.nodes c.path).2,d)
def aGc(c:Cal)(d:Dsk):Int×Dsk:=
 if c.path=[47]then(194,d)else
 if(pW d.m.log.nodes c.path).2=0 then
  (match iU c.path with
  |some (x::xs)=>aGb d ⟨st0,1,(pW d.m.log.nodes c.path).1,2,(x::xs).getLast (by simp),[]⟩
  |_=>(194,d))
 else((pW d.m.log.nodes c.path).2,d)
def aMI(d:Dsk):Int×Dsk:=
 if(8:Int)≤(d.m.snaps.length:Int)then(193,d)else(0,{d with a:={d.a with n:=d.m.next},m:={d.m with snaps:=d.m.snaps++[⟨d.m.next,d.m.log.nodes⟩],next:=IntKind.i64.wrap (d.m.next+1)}})
def aMJ(c:Cal)(d:Dsk):Int×Dsk:=
 if(!(d.m.snaps.any fun s=>decide (s.n=c.n))&& !(d.m.watches.any fun w=>decide (w.n=c.n)))=true then(191,d)
 else(0,{d with m:={d.m with snaps:=d.m.snaps.filter (fun s=> !decide (s.n=c.n)),watches:=d.m.watches.filter (fun w=> !decide (w.n=c.n))}})
def aJr(c:Cal)(d:Dsk):Int×Dsk:=
 if(pW d.m.log.nodes c.path).2=0 then
  (if dirI (pW d.m.log.nodes c.path).1=true then
   (if(8:Int)≤(d.m.watches.length:Int)then(193,d)else(0,{d with a:={d.a with n:=d.m.next},m:={d.m with watches:=d.m.watches++[⟨d.m.next,(pW d.m.log.nodes c.path).1,[],false⟩],next:=IntKind.i64.wrap (d.m.next+1)}}))
  else(81,d))
 else((pW d.m.log.nodes c.path).2,d)
def aDI(n:Int):List Wch→List Wch
 |[]=>[]
 |w::l=>if w.n=n then{w with evs:=[]}::l else w::aDI n l
def aMK(c:Cal)(d:Dsk):Int×Dsk:=match d.m.watches.find? fun w=>decide (w.n=c.n)with
 |none=>(191,d)
 |some w=>(0,{d with a:={d.a with events:=w.evs},m:={d.m with watches:=aDI c.n d.m.watches}})
def kX(g:Lg):List Opn→List Opn→List Opn
 |acc,[]=>acc
 |acc,o::l=>kX g (if(!aDD g.entries o.at_&& !(acc.any fun f=>decide (f.at_=o.at_)))=true then acc++[o]else acc) l
def tP(d:Dsk):List Opn→Int×Dsk
 |[]=>(0,d)
 |o::l=>if(aAc d o).1=0 then tP (aAc d o).2 l else aAc d o
def aJs(c:Cal)(d:Dsk):Int×Dsk:=match aME c.data with
 |none=>(50,d)
 |some l=>
  if(200:Int)<(d.m.log.entries.length:Int)+((kX d.m.log [] l).length:Int)then(193,d)else
  if(tP d (kX d.m.log [] l)).1=0 then
   (0,{(tP d (kX d.m.log [] l)).2 with a:={(tP d (kX d.m.log [] l)).2.a with n:=(kX d.m.log [] l).length},m:={(tP d (kX d.m.log [] l)).2.m with seen:=l.foldl (fun n o=>aMC n o.at_) d.m.seen}})
  else tP d (kX d.m.log [] l)
def xI(c:Cal)(d:Dsk):Int×Dsk:=
 if c.kind=1∨c.kind=2 then aMF c d else if c.kind=3 then aJq c d else if c.kind=4 then aMG c d else if c.kind=5 then aMH c d else if c.kind=6 then aGc c d
 else if c.kind=7 then lsD c d else if c.kind=8 then aMI d else if c.kind=9 then aMJ c d else if c.kind=10 then aJr c d else if c.kind=11 then aMK c d
 else if c.kind=12 then(0,d)else aJs c d
def aHH(was is:List Nd)(w:Wch):Wch:={w with evs:=(aMB w.evs w.over (aHF (rN was w.dir) (rN is w.dir))).1,over:=(aMB w.evs w.over (aHF (rN was w.dir) (rN is w.dir))).2}
def aML(was:List Nd)(d:Dsk):Dsk:={d with m:={d.m with watches:=d.m.watches.map (aHH was d.m.log.nodes)}}
end
section
def flA{α:Type}(enc:α→AV)(D:List α):List AV:=(D.map enc).flatMap AV.cells
section
variable {α:Type} {enc:α→AV} {s:Nat}
theorem aGd:flA enc []=[]:=rfl
theorem nF(A B:List α):flA enc (A++B)=flA enc A++flA enc B:=by simp[flA]
theorem nG(x:α)(B:List α):flA enc (x::B)=(enc x).cells++flA enc B:=by simp[flA]
theorem lI(hs:∀x,(enc x).cells.length=s)(D:List α):(flA enc D).length=D.length * s:=by
 induction D with
 |nil=>simp[flA]
 |cons x D ih=>rw[nG,zAa,ih,hs,zAt,zBF];omega
theorem aGe(hs:∀x,(enc x).cells.length=s){D:List α}{k:Nat}(h:k<D.length)(y:α):bI (flA enc D) (k * s) (enc y).cells=flA enc (D.set k y):=by
 have hl:=lI hs (D.take k);rw[zAX,Nat.min_eq_left (by omega)]at hl
 have e:D=D.take k++(D[k]::D.drop (k+1)):=by rw[←zA4 h,List.take_append_drop]
 have e2:=zX (A:=flA enc (D.take k)) (B:=flA enc (D[k]::D.drop (k+1))) (off:=k * s) (X:=(enc y).cells) hl;rw[←nF,←e]at e2;rw[e2,List.set_eq_take_append_cons_drop,zAp h,nF,nG,nG,show(enc y).cells.length=(enc D[k]).cells.length by rw[hs,hs],List.drop_left]
theorem aGf(hp:∀x,Pur (enc x))(D:List α):∀x∈flA enc D,Pur x:=fun x hx=>by
 unfold flA at hx;rw[List.mem_flatMap]at hx;obtain⟨y,hy,hx⟩:=hx;obtain⟨z, -,rfl⟩:=zAi.1 hy;exact Pur.cells (hp z) x hx
end
end
section
end
section
theorem aBR(b:Bool)(l:List Nd)(dir:Int)(y:Nat)(J:Nat→AHeap→Prop)(hA:∀i G L,J i G→J i (G++L))
  (hN:∀i (h:i<l.length) G,J i G→inD dir l[i]=false→J (i+1) G)
  (hY:∀i (h:i<l.length) G,J i G→inD dir l[i]=true→AYield Tryz.prog y [ndA l[i]] G (fun v G'=>v=.bool true∧J (i+1) G')) (hl:l.length≤1073741824) (H:AHeap) (h0:J 0 H):
  ACalls Tryz.prog 150 [.func (.yield y) [] [],.cptr [.sl b (l.map ndA)],.cptr [.int .i64 dir]] H (fun _ G=>J l.length G):=by
 refine aW Tryz.func150 ?_;refine hG ?_;refine aH (ι:=Nat×AHeap) (fun p=>[(0,.func (.yield y) [] []),(2,.cptr [.int .i64 dir]),(6,.sl b (l.map ndA)),(7,.int .i64 l.length),(8,.int .i64 p.1)]) (fun p=>p.2) (fun p=>p.1≤l.length∧J p.1 p.2) (fun p=>l.length-p.1) (0,H) ⟨zAv _,h0⟩ ?_ rfl ?_
 ·simp[go_sem]
 ·rintro⟨i,G⟩ ⟨hi,hJ⟩;simp only at hi hJ ⊢;by_cases hlt:i<l.length
  ·have hp:=bO ndA hlt;have hli:decide ((i:Int)<(l.length:Int))=true:=dT;have hw:=cA hlt (by omega)
   have hck:=aAX l[i].moved.c l[i].moved.r;by_cases h1:l[i].parent=dir
   ·have hd:decide (l[i].parent=dir)=true:=zAg h1;cases h2:okI l[i].moved.c l[i].moved.r with
    |false=>
     rw[h2]at hck;repeat' first|(refine gS ?_;simp only[go_sem,hp,hli,hd,ndA])|refine hU ?_|fail
     exact⟨(i+1,_),⟨hlt,hN i hlt _ (hA _ _ _ hJ) (by simp[inD,h2])⟩,by simp only;omega,zA5 _ hw,rfl⟩
    |true=>
     rw[h2]at hck;have hy:=hY i hlt _ (hA i G [.cells 0 (ndA l[i]).cells] hJ) (by simp[inD,h1,h2])
     repeat' first|(refine gS ?_;simp only[go_sem,hp,hli,hd,ndA])|refine hU ?_|fail
     refine kR hy ?_;rintro v G' ⟨rfl,hJ'⟩;simp only[go_sem];repeat' first|(refine gS ?_;simp only[go_sem])|refine hU ?_|fail
     exact⟨(i+1,G'),⟨hlt,hJ'⟩,by simp only;omega,zA5 _ hw,rfl⟩
   ·have hd:decide (l[i].parent=dir)=false:=zAh h1;repeat' first|(refine gS ?_;simp only[go_sem,hp,hli,hd,ndA])|refine hU ?_|fail
    exact⟨(i+1,_),⟨hlt,hN i hlt _ (hA _ _ _ hJ) (by simp[inD,h1])⟩,by simp only;omega,zA5 _ hw,rfl⟩
  ·have hie:i=l.length:=by omega
   subst hie;repeat' first|(refine gS ?_;simp only[go_sem])|refine hU ?_|fail
   exact hJ
theorem aMM(k:Nat)(b:Bool)(l:List Nd):Cl k (.sl b (l.map ndA)):=(Pur.sl b _ (aJh l)).cl k
theorem aDJ(b:Bool)(l:List Nd)(dir:Int)(H:AHeap):bJ Tryz.prog 99 [.sl b (l.map ndA),.int .i64 dir] H (.func (.func 150) [] [.cptr [.sl b (l.map ndA)],.cptr [.int .i64 dir]]):=by
 refine fO Tryz.func99 ?_;refine hG ?_;refine⟨_,_,rfl,?_,rfl⟩;refine .func _ _ _ _ _ rfl rfl iO (fI (pP (zAb _) (by simp only[go_sem]) ?_) (fI (pP (by omega) (by simp only[go_sem]) ?_) iO))
 ·simp only[zAq,forall_eq];exact aMM _ _ _
 ·simp only[zAq,forall_eq];exact .int _ _
theorem aJt(b:Bool)(l:List Nd)(dir:Int)(hl:l.length≤1073741824)(H:AHeap):
  ACalls Tryz.prog 66 [.sl b (l.map ndA),.int .i64 dir] H (fun v H'=>v=.map H.length∧H'=H++[.map (kF 0 (dO l dir)) (dO l dir).length]):=by
 refine aQ Tryz.func66 ?_;repeat' first|((first|refine gQ (aDJ _ _ _) ?_|refine gS ?_);simp only[go_sem])|refine hU ?_|fail
 refine zQ [(5,.ref (H.length+1) 0 0),(12,.func (.func 150) [] [.cptr [.sl b (l.map ndA)],.cptr [.int .i64 dir]])] (by simp[go_sem]) ?_
 refine jV rfl (cO) fun y LB hLB=>?_
 have hlen2:(H++[ABlk.map [] 0,.cells 0 [.map H.length]]).length=H.length+2:=by simp
 rw[hlen2,zAe];let M:Nat→List (Txt×Nd):=fun i=>(l.take i).foldl (rG dir) []
 let J:Nat→AHeap→Prop:=fun i G=>∃L,G=(H++[.map (kF 0 (M i)) (M i).length,.cells 0 [.map H.length],LB])++L
 have hM:∀i (h:i<l.length),M (i+1)=rG dir (M i) l[i]:=fun i h=>by
  simp only[M];rw[zAl h,List.foldl_append];rfl
 refine(aBR b l dir y J (fun i G L ⟨L',e⟩=>⟨L'++L,by rw[e,zAe]⟩) (fun i h G ⟨L,e⟩ hd=>⟨L,by rw[e,hM i h,rG,zAk (by rw[hd];simp)]⟩) (fun i h G ⟨L,e⟩ hd=>?_) hl _ ⟨[],by simp[M,kF]⟩).mono fun _ G ⟨L,e⟩=>?_
 ·have hmi:=hM i h;rw[rG,zAp hd]at hmi;have e1:hget G H.length=.map (kF 0 (M i)) (M i).length:=by rw[e];exact aK (b:=.map _ _) (by simp only[go_sem]) trivial L
  have e2:hget G (H.length+1)=.cells 0 [.map H.length]:=by rw[e];exact aK (b:=.cells _ _) (by simp only[go_sem]) trivial L
  have e3:hget G (H.length+2)=LB:=by rw[e];exact aK (by simp only[go_sem]) (by rw[hLB];trivial) L
  have hlv:LB.live:=by rw[hLB];trivial
  refine oF e3 hLB rfl rfl rfl rfl fun BB fin hBB hlB hf1 hf2=>?_
  have f3:=cY e3 hlv;have g3:=pQ e3 hlv;simp only[oY];refine gV rfl ?_;simp only[go_sem,f3,g3,ndA];obtain⟨G1,hG1⟩:∃G1,aA G (H.length+2) BB=G1:=⟨_,rfl⟩;rw[hG1];have hl3:=bC e3 hlv;have hlen:G.length=G1.length:=by rw[←hG1];simp[aA]
  have a1:hget G1 H.length=.map (kF 0 (M i)) (M i).length:=by rw[←hG1];exact aR e1 (by omega) BB
  have a2:hget G1 (H.length+1)=.cells 0 [.map H.length]:=by rw[←hG1];exact aR e2 (by omega) BB
  have a3:hget G1 (H.length+2)=BB:=by rw[←hG1];exact bX hl3 BB
  have k1:=cY a1 trivial;have k2:=cY a2 trivial;have k3:=cY a3 hlB;have s1:=pQ a1 trivial;rw[hlen];have hks:keysIn .string (kF 0 (M i))=True:=zBf (aDA 0 _);clear hLB hBB hf2;have hno:∀Y,M (i+1)=M i→jU (H.length+2) BB fin G1 (fun v G'=>v=.bool true∧J (i+1) G') true none (G1++Y):=fun Y hY=>
   ⟨k3 _,G1,Y,rfl,rfl,fun _ _ h=>.inl h,rfl,L,by rw[hf1,←hG1,cB,eL e3 hlv,hY];exact e⟩
  have hyes:∀Y,M (i+1)=iI l[i].name l[i] (M i)→jU (H.length+2) BB fin G1 (fun v G'=>v=.bool true∧J (i+1) G') true none
    (aA G1 H.length (.map (nS (.str l[i].name) (ndA l[i]) (kF 0 (M i)) (M i).length) (jD (.str l[i].name) (kF 0 (M i)) (M i).length))++Y):=fun Y hY=>by
   rw[aDB,←hY];refine⟨cY (aR a3 (by omega) _) hlB _,_,Y,rfl,by rw[bF],iA (aDC _ _ _),rfl,L,?_⟩
   rw[hf1,←hG1,fV _ _ _ (by omega),cB,eL e3 hlv,e]
   simp[aA,List.set_append]
  rcases aJd 0 (M i) l[i].name with⟨q1,q2⟩|⟨o,j,q1,q2⟩
  ·refine hK ndA.eq_1 ?_;exact hyes _ (by rw[hmi,wZ,q1])
  ·have hless:=aI5 l[i].moved.c l[i].moved.r o.moved.c o.moved.r;cases hlt:rD l[i].moved.c l[i].moved.r o.moved.c o.moved.r with
   |true=>
    rw[hlt]at hless;refine hK ndA.eq_1 ?_;exact hno _ (by rw[hmi,wZ,q1];exact zAp hlt)
   |false=>
    rw[hlt]at hless;refine hK ndA.eq_1 ?_;exact hyes _ (by rw[hmi,wZ,q1];exact zAk (by rw[hlt];simp))
 ·have hml:M l.length=dO l dir:=by simp only[M];rw[zAG];rfl
  rw[hml]at e;have e1:hget G H.length=.map (kF 0 (dO l dir)) (dO l dir).length:=by rw[e];exact aK (b:=.map _ _) (by simp only[go_sem]) trivial L
  have e2:hget G (H.length+1)=.cells 0 [.map H.length]:=by rw[e];exact aK (b:=.cells _ _) (by simp only[go_sem]) trivial L
  have e3:hget G (H.length+2)=LB:=by rw[e];exact aK (by simp only[go_sem]) (by rw[hLB];trivial) L
  refine .inl ⟨.ready,by simp,e3.trans hLB,fun X=>?_⟩
  have e4:=aR e2 (i:=H.length+2) (by omega) X
  have e5:aA G (H.length+2) X=(H++[.map (kF 0 (dO l dir)) (dO l dir).length])++(.cells 0 [.map H.length]::X::L):=by rw[e];simp[aA,List.set_append]
  obtain⟨G2,hG2⟩:∃G2,aA G (H.length+2) X=G2:=⟨_,rfl⟩;rw[hG2]at e4 e5 ⊢;simp only[go_sem];repeat' first|(refine gS ?_;simp only[go_sem,e4])|refine hU ?_|fail
  refine⟨_,_,_,e5,by simp,fun j b' hj=>?_,.cl _ (.map _ (by simp)),rfl,rfl⟩
  by_cases hlt:j<H.length
  ·rw[zAf hlt]at hj;exact .inl hj
  ·rw[zAw (by omega)]at hj
   refine .inr ?_;cases hk:j-H.length with
   |zero=>rw[hk]at hj;cases hj;exact aDC _ _ _
   |succ k=>rw[hk]at hj;simp at hj
end
section
def xJ:List Pl:=[.pure 0,.pure 0,.pure 0,.free,.pure 0,.pure 0,.eff [false,false,false,false,false]]
attribute [go_sem] xJ
end
section
def xK(l:List Nd)(id:Int):Option Int:=match wY l id with|none=>none|some n=>if n.parent= -1 then none else some n.parent
theorem bY(l:List Nd)(k:Nat)(id:Int):dZ l (k+1) id=match xK l id with|none=>[]|some p=>p::dZ l k p:=by
 grind [dZ,xK,wY,id]
theorem xL(l:List Nd)(k j:Nat)(id:Int):dZ l k id=(dZ l (k+j) id).take k:=by
 induction k generalizing id with
 |zero=>rfl
 |succ k ih=>
  rw[Nat.succ_add,bY,bY];grind
def Wfr(l:List Nd):Prop:=∃r:Int→Nat,∀x p,xK l x=some p→r p<r x
def xM(l:List Nd):Nat→Int→List Int
 |0,_=>[]
 |k+1,id=>match xK l id with|none=>[]|some p=>id::xM l k p
theorem aDK(l:List Nd)(k:Nat)(id:Int):(xM l k id).length=(dZ l k id).length:=by
 induction k generalizing id with
 |zero=>rfl
 |succ k ih=>
  rw[bY,xM];grind
theorem aDL(l:List Nd)(k:Nat)(id:Int):∀x∈xM l k id,x∈l.map Nd.id:=by
 induction k generalizing id<;>grind [id,xM,xK,zAC,wY,List.mem_of_find?_eq_some,zAi]
theorem aBS{l:List Nd}{r:Int→Nat}(hr:∀x p,xK l x=some p→r p<r x)(k:Nat)(id:Int):(∀x∈xM l k id,r x≤r id)∧(xM l k id).Nodup:=by
 induction k generalizing id with
 |zero=>exact⟨fun x hx=>(by cases hx),List.nodup_nil⟩
 |succ k ih=>
  rw[xM];grind
theorem aAd{l:List Nd}{r:Int→Nat}(hr:∀x p,xK l x=some p→r p<r x)(k:Nat)(id:Int):∀x∈dZ l k id,r x<r id:=by
 induction k generalizing id with
 |zero=>intro x hx;cases hx
 |succ k ih=>
  intro x hx;rw[bY]at hx;grind
theorem aJu{xs ys:List Int}(hn:xs.Nodup)(hs:∀x∈xs,x∈ys):xs.length≤ys.length:=by
 induction xs generalizing ys with
 |nil=>exact zAv _
 |cons x xs ih=>
  have hx:=hs x (by simp)
  have h:=ih (ys:=ys.erase x) (zBK.1 hn).2 (fun z hz=>by
   grind)
  grind
theorem tQ{l:List Nd}(h:Wfr l)(k:Nat)(id:Int):(dZ l k id).length≤l.length:=by
 obtain⟨r,hr⟩:=h;have:=aJu (aBS hr k id).2 (aDL l k id);rwa[aDK,zAs]at this
theorem kA{l:List Nd}(h:Wfr l){k:Nat}(hk:l.length≤k)(id:Int):dZ l k id=dK l id:=by
 obtain⟨j,rfl⟩:∃j,k=l.length+j:=⟨k-l.length,by omega⟩
 rw[dK,xL l l.length j id,zAT (tQ h _ _)]
theorem aAe(l:List Nd)(k:Nat)(id:Int):∀y∈id::dZ l k id,∀p,xK l y=some p→p∈dZ l (k+1) id:=by
 induction k generalizing id with
 |zero=>
  intro y hy p hp;simp only[dZ,zAC,zBl,or_false]at hy;subst hy;rw[bY,hp];simp
 |succ k ih=>
  intro y hy p hp;rcases zAC.1 hy with rfl|hy
  ·rw[bY,hp];simp
  ·rw[bY]at hy;rw[bY];cases hq:xK l id with
   |none=>rw[hq]at hy;cases hy
   |some q=>
    grind
theorem aGg{l:List Nd}(h:Wfr l)(id:Int):∀y∈id::dK l id,∀p,xK l y=some p→p∈dK l id:=by
 intro y hy p hp;have:=aAe l l.length id y hy p hp;rwa[kA h (zBS _)]at this
theorem aLh{l:List Nd}(h:Wfr l)(id:Int):id∉dK l id:=by
 obtain⟨r,hr⟩:=h;intro hx;have:=aAd hr _ _ _ hx;omega
theorem aGh{n:Int}(h:dirI n=true):n≠ -1:=by
 intro e;subst e;revert h;decide
structure Frs (l:List Nd):Prop where
 chk:chk l=true
 wf:Wfr l
 dir:∀n∈l,n.parent= -1∨dirI n.parent=true
theorem aGi{l:List Nd}(hs:chk l=true){n:Nd}(hn:n∈l):wY l n.id=some n:=by
 have hp:=((uX l).1 hs).2;cases h:wY l n.id with
 |none=>
  have:=List.find?_eq_none.1 h n hn;simp at this
 |some m=>
  have h1:=List.mem_of_find?_eq_some h;have h2:m.id=n.id:=by have:=List.find?_some h;simpa using this
  obtain⟨i,hi,rfl⟩:=List.getElem_of_mem h1;obtain⟨j,hj,rfl⟩:=List.getElem_of_mem hn;rcases Nat.lt_trichotomy i j with q|q|q
  ·have:=zBz.1 hp i j hi hj q;omega
  ·subst q;rfl
  ·have:=zBz.1 hp j i hj hi q;omega
end
section
theorem aAf{s:Txt}{n:Nd}(hn:n.name=s){m:List (Txt×Nd)}(h:∀p∈m,p.2.name=p.1):∀p∈iI s n m,p.2.name=p.1:=by
 induction m<;>grind [iI,zAq]
theorem aBT(s:Txt)(n:Nd)(m:List (Txt×Nd)):((iI s n m).map (·.1))=if s∈m.map (·.1)then m.map (·.1)else m.map (·.1)++[s]:=by
 induction m<;>grind [iI]
theorem aAg{s:Txt}{n:Nd}{m:List (Txt×Nd)}(h:(m.map (·.1)).Nodup):((iI s n m).map (·.1)).Nodup:=by
 rw[aBT];grind
theorem aDM{m:List (Txt×Nd)}(n:Nd)(h:(m.map (·.1)).Nodup∧∀p∈m,p.2.name=p.1):((wZ m n).map (·.1)).Nodup∧∀p∈wZ m n,p.2.name=p.1:=by
 have hs:((iI n.name n m).map (·.1)).Nodup∧∀p∈iI n.name n m,p.2.name=p.1:=⟨aAg h.1,aAf rfl h.2⟩;unfold wZ;grind
theorem oI(l:List Nd)(dir:Int):((dO l dir).map (·.1)).Nodup∧∀p∈dO l dir,p.2.name=p.1:=by
 suffices h:∀(k:List Nd) (m:List (Txt×Nd)),((m.map (·.1)).Nodup∧∀p∈m,p.2.name=p.1)→((k.foldl (rG dir) m).map (·.1)).Nodup∧∀p∈k.foldl (rG dir) m,p.2.name=p.1 from
  h l [] ⟨List.nodup_nil,fun p hp=>by cases hp⟩
 intro k;induction k with
 |nil=>exact fun m h=>h
 |cons x k ih=>
  intro m h;refine ih _ ?_;unfold rG;split
  ·exact aDM x h
  ·exact h
theorem aDN{s:Txt}{n:Nd}{m:List (Txt×Nd)}(hn:(m.map (·.1)).Nodup)(h:(s,n)∈m):fN s m=some n:=by
 induction m<;>grind [zAV,zBK,fN]
theorem aDO{s:Txt}{n:Nd}{m:List (Txt×Nd)}(h:fN s m=some n):(s,n)∈m:=by
 induction m<;>grind [fN]
theorem aAh{m:List (Txt×Nd)}(hn:(m.map (·.1)).Nodup)(p:Txt×Nd→Bool):((m.filter p).map (·.1)).Nodup:=
 List.Nodup.sublist (List.Sublist.map _ List.filter_sublist) hn
def tR(l:List Nd)(x:Int):Nat:=(dK l x).length
theorem oJ{l:List Nd}(h:Wfr l){x p:Int}(hp:xK l x=some p):dK l x=p::dK l p:=by
 rw[←kA h (zBS _) x,bY,hp];rfl
theorem pX{l:List Nd}(h:Wfr l){x p:Int}(hp:xK l x=some p):tR l x=tR l p+1:=by
 rw[tR,oJ h hp];rfl
theorem vF{l:List Nd}(h:Wfr l)(x:Int):tR l x≤l.length:=tQ h _ _
theorem aDP{l:List Nd}(h:Wfr l):∀(j:Nat) {q w:Int},tR l q=j→w∈dK l q→tR l w<tR l q:=by
 intro j;induction j with
 |zero=>grind [tR,zAu]
 |succ j ihj=>
  intro q w hj hw;cases hq:xK l q with
  |none=>
   have:dK l q=[]:=by rw[←kA h (zBS _) q,bY,hq]
   rw[this]at hw;cases hw
  |some r=>
   have hd:=pX h hq;rw[oJ h hq]at hw;grind
theorem aNA{l:List Nd}(h:Wfr l):∀(k:Nat) {x y z:Int},tR l x=k→y∈dK l x→z∈dK l x→tR l y=tR l z→y=z:=by
 intro k;induction k with
 |zero=>grind [tR,zAu]
 |succ k ih=>
  intro x y z hk hy hz he;cases hp:xK l x with
  |none=>
   have:dK l x=[]:=by rw[←kA h (zBS _) x,bY,hp]
   rw[this]at hy;cases hy
  |some p=>
   have e:=oJ h hp;have hkp:tR l p=k:=by have:=pX h hp;omega
   have lt:∀{w:Int},w∈dK l p→tR l w<tR l p:=fun hw=>aDP h _ rfl hw
   grind
theorem xN{l:List Nd}(hc:chk l=true){dir:Int}(hd:dirI dir=true){s:Txt}{n:Nd}(h:(s,n)∈dO l dir):xK l n.id=some dir∧n∈l∧wY l n.id=some n:=by
 obtain⟨h1,h2⟩:=aBL l dir _ h;have hf:=aGi hc h1;simp only at h1 h2 hf;unfold inD at h2;rw[zAc,zAz]at h2;refine⟨?_,h1,hf⟩;rw[xK,hf];simp only;rw[zAk (by rw[h2.1];exact aGh hd),h2.1]
theorem tS{l:List Nd}{dir:Int}{s:Txt}{n:Nd}(h:fN s (dO l dir)=some n):(s,n)∈dO l dir:=aDO h
def vG(l:List Nd)(out:List Int)(dir:Int):List Txt:=pC (((dO l dir).filter fun p=> !out.contains p.2.id).map (·.1))
theorem xO{l:List Nd}(hc:chk l=true)(h:Wfr l)(out:List Int):∀(k j:Nat) (dir:Int) (path:Txt),dirI dir=true→l.length<k+tR l dir→l.length<j+tR l dir→kV l out k dir path=kV l out j dir path:=by
 intro k;induction k with
 |zero=>intro j dir path _ hk;have:=vF h dir;omega
 |succ k ih=>
  intro j dir path hd hk hj;cases j with
  |zero=>have:=vF h dir;omega
  |succ j=>
   rw[kV,kV];congr 1;funext s;cases hl:fN s (dO l dir)with
   |none=>rfl
   |some n=>
    have hp:=(xN hc hd (tS hl)).1;have hdp:=pX h hp;grind
def blw(l:List Nd)(out:List Int)(dir:Int)(path:Txt):List Itm:=kV l out (l.length+1) dir path
def aDQ(l:List Nd)(out:List Int)(dir:Int)(path:Txt)(s:Txt):List Itm:=match fN s (dO l dir)with
 |some n=>⟨path++(47::s),n.id,n.data⟩::(if dirI n.id=true then blw l out n.id (path++(47::s))else[])
 |none=>[]
theorem aDR{l:List Nd}(hc:chk l=true)(h:Wfr l)(out:List Int){dir:Int}(hd:dirI dir=true)(path:Txt):blw l out dir path=(vG l out dir).flatMap (aDQ l out dir path):=by
 rw[blw,kV];unfold vG;congr 1;funext s;unfold aDQ;cases hl:fN s (dO l dir)with
 |none=>rfl
 |some n=>
  have hp:=(xN hc hd (tS hl)).1;have hdp:=pX h hp;simp only;by_cases hdn:dirI n.id=true
  ·rw[zAp hdn,zAp hdn,blw,xO hc h out l.length (l.length+1) n.id _ hdn (by omega) (by omega)]
  ·rw[zAk hdn,zAk hdn]
theorem aJv{l:List Nd}{out:List Int}{dir:Int}{s:Txt}(h:s∈vG l out dir):∃n,fN s (dO l dir)=some n∧(s,n)∈dO l dir∧out.contains n.id=false:=by
 have h1:=(mK _).mem_iff.1 h;obtain⟨p,hp,rfl⟩:=zAi.1 h1;obtain⟨h2,h3⟩:=List.mem_filter.1 hp;exact⟨p.2,aDN (oI l dir).1 h2,h2,by simpa using h3⟩
theorem aGj(l:List Nd)(out:List Int)(dir:Int):(vG l out dir).Nodup:=(mK _).nodup_iff.2 (aAh (oI l dir).1 _)
theorem aNB{l:List Nd}(hc:chk l=true)(h:Wfr l)(out:List Int):∀(k:Nat) (dir:Int) (path:Txt),dirI dir=true→l.length<k+tR l dir→
  ((blw l out dir path).map (·.id)).Nodup∧∀x∈(blw l out dir path).map (·.id),x∈l.map Nd.id∧dir∈dK l x:=by
 intro k;induction k with
 |zero=>intro dir path _ hk;have:=vF h dir;omega
 |succ k ih=>
  intro dir path hd hk;rw[aDR hc h out hd]
  -- the piece of one name
  have piece:∀s∈vG l out dir,∃n,(s,n)∈dO l dir∧((aDQ l out dir path s).map (·.id)).Nodup∧
    ∀x∈(aDQ l out dir path s).map (·.id),x∈l.map Nd.id∧dir∈dK l x∧(x=n.id∨n.id∈dK l x):=by
   intro s hs;obtain⟨n,hl,hm,_⟩:=aJv hs;obtain⟨hp,hnl,_⟩:=xN hc hd hm;have hdp:=pX h hp;have hin:n.id∈l.map Nd.id:=zAi.2 ⟨n,hnl,rfl⟩;have hab:dir∈dK l n.id:=by rw[oJ h hp];simp
   refine⟨n,hm,?_⟩;unfold aDQ;rw[hl];simp only;by_cases hdn:dirI n.id=true
   ·rw[zAp hdn];obtain⟨i1,i2⟩:=ih n.id (path++(47::s)) hdn (by omega)
    refine⟨?_,fun x hx=>?_⟩
    ·rw[zAV,zBK];refine⟨fun hx=>?_,i1⟩
     exact aLh h _ (i2 _ hx).2
    ·rw[zAV,zAC]at hx;rcases hx with rfl|hx
     ·exact⟨hin,hab,.inl rfl⟩
     ·obtain⟨j1,j2⟩:=i2 x hx;have:dir∈dK l x:=aGg h x n.id (zBO _ j2) dir hp;exact⟨j1,this,.inr j2⟩
   ·rw[zAk hdn];exact⟨by simp,fun x hx=>by simp only[zAV,zBr,zAq]at hx;subst hx;exact⟨hin,hab,.inl rfl⟩⟩
  have disj:∀s∈vG l out dir,∀t∈vG l out dir,s≠t→∀x∈(aDQ l out dir path s).map (·.id),x∉(aDQ l out dir path t).map (·.id):=by
   intro s hs t ht hne x hx hy;obtain⟨n,hm, -,k1⟩:=piece s hs;obtain⟨m,hm', -,k2⟩:=piece t ht;obtain⟨-, -,q1⟩:=k1 x hx;obtain⟨-, -,q2⟩:=k2 x hy;obtain⟨p1,l1,f1⟩:=xN hc hd hm;obtain⟨p2,l2,f2⟩:=xN hc hd hm';have d1:=pX h p1;have d2:=pX h p2;have hid:n.id≠m.id:=fun e=>by
    rw[e,f2]at f1;cases f1;have a:=(oI l dir).2 _ hm;have b:=(oI l dir).2 _ hm';exact hne (a.symm.trans b)
   rcases q1 with rfl|q1<;>rcases q2 with e2|q2
   ·exact hid e2
   ·have:=aDP h _ rfl q2;omega
   ·subst e2;have:=aDP h _ rfl q1;omega
   ·exact hid (aNA h _ rfl q1 q2 (by omega))
  refine⟨?_,fun x hx=>?_⟩
  ·rw[List.map_flatMap];rw[List.nodup_iff_pairwise_ne,List.pairwise_flatMap];refine⟨fun s hs=>?_,?_⟩
   ·obtain⟨_,_,k1,_⟩:=piece s hs;exact k1
   ·have hnd:=aGj l out dir;rw[List.nodup_iff_pairwise_ne]at hnd;exact(List.Pairwise.and_mem.1 hnd).imp fun{s t} ⟨hs,ht,hne⟩ x hx y hy e=>by subst e;exact disj s hs t ht hne x hx hy
  ·rw[List.map_flatMap,List.mem_flatMap]at hx;obtain⟨s,hs,hx⟩:=hx;obtain⟨_,_,_,k1⟩:=piece s hs;exact⟨(k1 x hx).1,(k1 x hx).2.1⟩
theorem blw_len{l:List Nd}(hc:chk l=true)(h:Wfr l)(out:List Int)(dir:Int)(path:Txt)(hd:dirI dir=true):(blw l out dir path).length≤l.length:=by
 obtain⟨h1,h2⟩:=aNB hc h out (l.length+1) dir path hd (by omega)
 have:=aJu h1 (fun x hx=>(h2 x hx).1)
 simpa using this
end
section
def aNC(c:Cal):Bool:=decide (1000<(c.path.length:Int))||decide (1000<(c.to.length:Int))||decide (5000<(c.data.length:Int))
def aDS(l:List Cal)(n:Int):Bool:=l.all (fun x=> !aNC x)&&decide ((l.length:Int)≤n)
theorem aND(b1:Bool)(l:List Cal)(n:Int)(H:AHeap):bJ Tryz.prog 19 [.sl b1 (l.map pB),.int .i64 n] H (.bool (aDS l n)):=by
 refine pO fun hok _=>?_
 have hl:=tA hok;rw[zAs]at hl;refine fO Tryz.func19 ?_;refine hG ?_;refine aH (ι:=Nat) (fun i=>[(0,.sl b1 (l.map pB)),(1,.int .i64 n),(5,.int .i64 i)]) (fun _=>H) (fun i=>i≤l.length∧∀x∈l.take i,aNC x=false) (fun i=>l.length-i) 0 ⟨zAv _,by simp⟩ ?_ rfl ?_
 ·simp[go_sem]
 ·rintro i ⟨hi,he⟩;by_cases hlt:i<l.length
  ·have hp:=bO pB hlt;repeat' first|(refine gS ?_;simp only[go_sem,hp,pB])|refine gA ?_|(refine gD ?_ ?_<;>intro h<;>try exact aD h)|fail
   ·exact cU (.of (by
     have:aDS l n=false:=by
      unfold aDS;rw[Bool.and_eq_false_iff];left;rw[zBB];intro q;have q2:=zAx.1 q l[i] (zAK _);have h':aNC l[i]=true:=h;rw[h']at q2;cases q2
     rw[this]))
   ·refine⟨i+1,⟨hlt,fun x hx=>?_⟩,by omega,by rw[wI];rfl⟩
    rw[zAl hlt,zAM]at hx;rcases hx with hx|hx
    ·exact he x hx
    ·simp at hx;subst hx;exact h
  ·have hi':i=l.length:=by omega
   subst hi';repeat' first|(refine gS ?_;simp only[go_sem])|refine gA ?_|(refine gD ?_ ?_<;>intro h<;>try exact aD h)|fail
   refine cU (.of ?_);rw[zAG]at he;have:l.all (fun x=> !aNC x)=true:=zAx.2 fun x hx=>by rw[he x hx];rfl
   rw[aDS,this,zAE]
def anA(f2 f3:Bool)(a:Ans):AV:=.agg [.int .i64 a.err,.str a.data,.sl f2 (a.names.map AV.str),.int .i64 a.n,.sl f3 (a.events.map evA)]
@[go_sem] theorem pu_anA(f2 f3:Bool)(x:Ans):Pur (anA f2 f3 x)=True:=by simp only[anA,go_sem]
end
section
open Go.ChangeShapes Go.WideShapes Go.ChangeAt Go.RowKit
theorem kindCa:kindB Tryz.prog 32=true:=by kernel_rfl
theorem aMN{ys:List AV}(h:Sh Tryz.prog 32 ys):∃o:Cal,ys=(pB o).cells:=by
 obtain⟨y1,ys1,rfl,h1,r1⟩:=nB (aBD Tryz.underlying32 kindCa h);obtain⟨y2,ys2,rfl,h2,r2⟩:=nB r1;obtain⟨y3,ys3,rfl,h3,r3⟩:=nB r2;obtain⟨y4,ys4,rfl,h4,r4⟩:=nB r3;obtain⟨y5,ys5,rfl,h5,r5⟩:=nB r4;obtain rfl:=aFY r5;obtain⟨a,rfl,_⟩:=qY Tryz.underlying3 h1;obtain⟨s,rfl,_⟩:=aI3 Tryz.underlying9 h2;obtain⟨u,rfl,_⟩:=aI3 Tryz.underlying9 h3;obtain⟨v,rfl,_⟩:=aI3 Tryz.underlying9 h4;obtain⟨b,rfl,_⟩:=qY Tryz.underlying3 h5;exact⟨⟨a,s,u,v,b⟩,rfl⟩
end
section
open Go.ChangeShapes Go.WideShapes Go.ChangeAt Go.RowKit
theorem aggStr:dG Tryz.prog 9=false:=by kernel_rfl
theorem aOC{x:AV}(h:∃ys,x=mkA Tryz.prog 9 ys∧Sh Tryz.prog 9 ys∧(dG Tryz.prog 9=true∨ys.length=1)):∃n,x=.str n:=by
 obtain⟨ys,rfl,h,_⟩:=h;obtain⟨s,rfl,_⟩:=aI3 Tryz.underlying9 h;exact⟨s,by rw[mkA,zAk (by rw[aggStr];decide)];rfl⟩
end
end Go.Proofs.YtigedpfipifefaaGreatDoor
