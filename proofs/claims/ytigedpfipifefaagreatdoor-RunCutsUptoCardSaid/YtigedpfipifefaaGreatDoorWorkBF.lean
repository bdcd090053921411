/- What the functions of this seat answer (32 of 40). No condition. -/
import Derived.Test.YtigedpfipifefaaGreatDoorWorkAX
import Derived.Test.YtigedpfipifefaaGreatDoorWorkAZ
import Derived.Test.YtigedpfipifefaaGreatDoorWorkBC
set_option linter.unusedSimpArgs false
set_option linter.unusedVariables false
set_option maxRecDepth 100000
set_option maxHeartbeats 16000000
namespace Go.Proofs.YtigedpfipifefaaGreatDoor
theorem aCe{P:Program}{f:FuncId}{first args cap:List AV}{H H1:AHeap}{v:AV}{K:AV→AHeap→Prop}(h:ACalls P f (first++args++cap) H (fun x H'=>x=v∧H'=H1))(ok:cF P f=true)(hk:K v H1):aAS P true (.func (.func f) first cap) args H K:=
 ⟨v,H1,fun _=>Or.inl ⟨ok,h⟩,fun h=>by(cases h),hk⟩
theorem aGC(n:Int):KS (vM n):=by
 refine⟨?_,by simp[vM]⟩
 obtain⟨z,hz⟩:∃z:Nat,min (max n 0) 65536=(z:Int):=⟨(min (max n 0) 65536).toNat,by omega⟩
 unfold chkK vM;rw[hz];simp[fA];omega
theorem aCf{d:Dis}(h:KS d)(a:Nat)(s:Txt)(hf:d.loose.length+aS s≤1000000):KS (iF d a s).1:=by
 unfold iF;split
 ·exact h
 split
 ·exact h
 ·have hs:=h.size;refine⟨?_,by simp only[zAa];unfold kG gM;simpa using hf⟩
  unfold chkK;simp only[zAc,zAz,zBZ];have:=h.ok;unfold chkK at this;simp only[zAc,zAz]at this;refine⟨this.1,this.2.1,this.2.2.1,this.2.2.2,?_⟩;rw[zAx];intro p hp;unfold kG at hp;obtain⟨i,hi,rfl⟩:=zAi.1 hp;have hi:=List.mem_range.1 hi;have hcl:(gM s).length=aS s:=by unfold gM;simp
  have h16:((gM s).getD i []).length=16:=by rw[zAm,zAd hi];unfold gM;simp[vL];simp[fA];omega
  unfold lA;simp only[zAc,zAz];rename_i h1 h2;refine⟨by omega,by omega,h16⟩
def lY(w:Wal)(a:Nat)(s:Txt):Wal×Int:=if(iF w.disk a s).2=0 then({w with disk:=(iF w.disk a s).1},0)else(w,(iF w.disk a s).2)
def uI:Txt:=aBb 1 (iW 1 [])
def aAA(size:Int):Wal×Int:=
 let n:=(vM size).size.toNat
 let w:=(lY {aBZ with disk:=vM size,seq:=1,base:=1,next:=1,end_:=(2 * iV n:Nat)} (lX n 1) uI).1
 if iV n<uI.length / 16 then(aBZ,120)else({w with disk:=rR w.disk,dirty:=false},0)
def waC(f g:Bool)(w:Wal):List AV:=[.int .i64 w.disk.size,.str w.disk.firm,.sl f (w.disk.loose.map iH),.int .i64 w.seq,.int .i64 w.base,.int .i64 w.next,.int .i64 w.end_,.int .i64 w.spilled,.int .i64 w.kept,.sl g (w.waits.map AV.str),.bool w.dirty,.int .i64 w.marked,.int .i64 w.mnext,.int .i64 w.mmany]
def leC(f g:Bool)(w:Wal)(j:Nat):List AV:=[.int .i64 w.disk.size,.str w.disk.firm,.sl f (w.disk.loose.map iH),.int .i64 w.seq,.int .i64 w.base,.int .i64 w.next,.int .i64 w.end_,.int .i64 w.spilled,.int .i64 w.kept,.sl g (w.waits.map AV.str),.bool w.dirty,.int .i64 w.marked,.int .i64 w.mnext,.int .i64 w.mmany,
 .func (.func 76) [] [.ref j 0 0]]
structure LB (i:Nat) (f g:Bool) (w:Wal) (G:AHeap):Prop where
 b1:hget G i=.cells 0 (leC f g w (i+1))
 b2:hget G (i+1)=.cells 0 [.ref i 0 0]
def mM:List Pl:=[.pure 0,.pure 0,.pure 0,.pure 0,.free,.eff [false,true,true,true],.free]
def mO:List Pl:=[.free,.pure 0,.pure 0,.pure 0,.pure 0,.pure 0,.free,.pure 0,.pure 0,.pure 0,.pure 0,.pure 0,.free,.eff [false,true,true,true,true,true,true,false,true,true]]
attribute [go_sem] mM mO
theorem aEh(f g:Bool)(w:Wal)(H:AHeap):ACalls Tryz.prog 49 [waF f g w] H (fun v H'=>v=.ref (H.length+1) 0 0∧H'=H++[.cells 0 (waC f g w),.cells 0 (leC f g w (H.length+2)),.cells 0 [.ref (H.length+1) 0 0]]):=by
 refine aW Tryz.func49 ?_;repeat' first|(refine gS ?_;simp only[go_sem,waF])|refine gA ?_|(refine gD ?_ ?_<;>intro h<;>try exact aD h)|fail
 rfl
theorem aMY{n j:Nat}(hj:j<n)(f g:Bool)(w:Wal):ClB n (.cells 0 (leC f g w j)):=fun x hx=>by
 simp only[leC,zAC,zBl,or_false]at hx;rcases hx with rfl|rfl|rfl|rfl|rfl|rfl|rfl|rfl|rfl|rfl|rfl|rfl|rfl|rfl|rfl;all_goals first|exact .int _ _|exact .str _|exact .bool _|exact aFQ (by simp) (fun x hx=>by rw[zAq.1 hx];exact .ref _ _ _ hj)|exact(Pur.sl _ _ fun x hx=>by obtain⟨y, -,rfl⟩:=zAi.1 hx;simp only[go_sem]).cl _
theorem aEi{i:Nat}{f g:Bool}{w:Wal}{G:AHeap}(hb:LB i f g w G)(hk:KS w.disk):ACalls Tryz.prog 52 [.ref i 0 0] G (fun v H'=>v=.tup []∧H'=aA G i (.cells 0 (leC true g {w with disk:=rR w.disk,dirty:=false} (i+1)))):=by
 refine aW Tryz.func52 ?_;have g0:=hb.b1;have hi:=bC g0 trivial;have s1:=fun v X=>bX hi (.cells v X)
 have s2:=cB G i;have hf:=aD9 f hk;unfold leC at g0;unfold sO at hf;repeat' first|(refine gS ?_;simp only[go_sem,g0,s1,s2])|refine gA ?_|(refine gD ?_ ?_<;>intro h<;>try exact aD h)|fail
 rfl
theorem aEj{i:Nat}{f g:Bool}{w:Wal}{G:AHeap}(hb:LB i f g w G)(hk:KS w.disk)(a:Nat)(s:Txt)(hs:s.length≤1073741824)(ha:a≤1000000):
  ACalls Tryz.prog 76 [.int .i64 a,.str s,.ref (i+1) 0 0] G (fun v H'=>v=.int .i64 (lY w a s).2∧H'=aA G i (.cells 0 (leC (if(lY w a s).2=0 then false else f) g (lY w a s).1 (i+1)))):=by
 refine aO Tryz.func76 ?_;have g0:=hb.b1;have g2:=hb.b2;have hi:=bC g0 trivial;have hi2:=bC g2 trivial;have g1:=cY g0 trivial;have g3:=cY g2 trivial;have g4:=pQ g0 trivial;have hw:=aB9 f hk a s hs ha;have hcl:=aMY hi2;unfold leC at g0 g1;unfold sO at hw;unfold lY;by_cases he:(iF w.disk a s).2=0
 ·rw[zAp he,zAp rfl];rw[he]at hw;repeat' first|(refine gS ?_;simp only[go_sem,g0,g1,g2,g3,g4])|refine gA ?_|(refine gD ?_ ?_<;>intro h<;>try exact aD h)|fail
  exact⟨_,_,_,rfl,bF _ _ _,iA (hcl false g {w with disk:=(iF w.disk a s).1}),.cl _ (.int _ _),rfl,rfl⟩
 ·rw[zAk he,zAk he];have hd:decide ((iF w.disk a s).2=0)=false:=zAh he;repeat' first|(refine gS ?_;simp only[go_sem,g0,g1,g2,g3,g4,hd])|refine gA ?_|(refine gD ?_ ?_<;>intro h<;>try exact aD h)|fail
  exact⟨G,_,_,rfl,rfl,fun _ _ h=>.inl h,.cl _ (.int _ _),rfl,(eL hb.b1 trivial).symm⟩
theorem vV(n:Nat)(hn:n≤1000000)(H:AHeap):bJ Tryz.prog 48 [.int .i64 n] H (.int .i64 (iV n)):=by
 refine fO Tryz.func48 ?_;repeat' first|(refine gS ?_;simp only[go_sem])|refine gA ?_|(refine gD ?_ ?_<;>intro h<;>try exact aD h)|fail
 exact cU (.of (by rw[zAI (by omega),wI];rfl))
theorem aGD(n q:Nat)(hn:n≤1000000)(hq:q≤1000000)(H:AHeap):bJ Tryz.prog 51 [.int .i64 n,.int .i64 q] H (.int .i64 (lX n q)):=by
 refine fO Tryz.func51 ?_;have hz:=vV n hn;have h1:((q:Int)).tmod 2=((q % 2:Nat):Int):=by rw[zAO (by omega)];omega
 have hw:IntKind.i64.wrap ((q % 2:Nat):Int)=((q % 2:Nat):Int):=wI;unfold lX;by_cases h:q % 2=0
 ·rw[h]at h1 hw;rw[zAp h];repeat' first|(refine gS ?_;simp only[go_sem,h1,hw])|refine gA ?_|(refine gD ?_ ?_<;>intro h<;>try exact aD h)|fail
  exact cU (.of rfl)
 ·have hd:decide (((q % 2:Nat):Int)=0)=false:=dF;rw[zAk h];repeat' first|(refine gS ?_;simp only[go_sem,h1,hw,hd])|refine gA ?_|(refine gD ?_ ?_<;>intro h<;>try exact aD h)|fail
  exact cU (.of rfl)
theorem aEk(n:Nat)(hn:n≤1000000)(H:AHeap):bJ Tryz.prog 50 [.int .i64 n] H (.int .i64 (2 * iV n:Nat)):=by
 refine fO Tryz.func50 ?_;have hz:=vV n hn;have hw:IntKind.i64.wrap (2 * (iV n:Int))=((2 * iV n:Nat):Int):=by unfold iV;rw[wI];omega
 repeat' first|(refine gS ?_;simp only[go_sem,hw])|refine gA ?_|(refine gD ?_ ?_<;>intro h<;>try exact aD h)|fail
 exact cU (.of rfl)
theorem aGE(n:Nat)(hn:n≤1000000000)(s:Txt)(hs:s.length≤1073741824)(H:AHeap):bJ Tryz.prog 46 [.int .i64 n,.str s] H (if 40000<(iW n s).length then .tup [.str [],.int .i64 130]else .tup [.str (iW n s),.int .i64 0]):=by
 refine fO Tryz.func46 ?_;have h9:=bU (n:=n) (by omega)
 have h1:∀H,bJ Tryz.prog 33 [.str [],.sl true [.int .i64 n]] H (.tup [.str (aV n),.int .i64 0]):=fun H=>by simpa using kC [] n true (by omega) (by simp) H
 have h2:∀H,bJ Tryz.prog 17 [.str (aV n),.str s] H (.str (iW n s)):=rS (aV n) s (by omega) (by omega) (by omega)
 generalize iW n s=T at *;by_cases hc:40000<T.length
 ·have hd:decide ((40000:Int)<(T.length:Int))=true:=dT;rw[zAp hc];repeat' first|(refine gS ?_;simp only[go_sem,hd])|refine gA ?_|(refine gD ?_ ?_<;>intro h<;>try exact aD h)|fail
  exact cU (.of rfl)
 ·have hd:decide ((40000:Int)<(T.length:Int))=false:=dF;rw[zAk hc];repeat' first|(refine gS ?_;simp only[go_sem,hd])|refine gA ?_|(refine gD ?_ ?_<;>intro h<;>try exact aD h)|fail
  exact cU (.of rfl)
theorem aCg:uI.length=16:=by
 unfold uI aBb;rw[iX _ _ (oO _ _ (zAb _)),mL _ _ (zAb _)];have h1:aV 1=[1]:=by simp[aV,fY]
 have h0:bW []=[0]:=by simp[bW,aV,fY]
 have h2:(iW 1 [])=[1,0]:=by unfold iW;rw[h1,h0];rfl
 have h3:aV 2=[2]:=by simp[aV,fY]
 have h4:(lW (aV 1++bW [1,0])).length=8:=by unfold lW bW;rw[h1,show List.length ([1,0]:Txt)=2 from rfl,h3];rfl
 have h5:aV 8=[8]:=by simp[aV,fY]
 have h6:(pE 1 (iW 1 [])).length=9:=by
  rw[h2];unfold pE;rw[show ∀t:Txt,bW t=aV t.length++t from fun _=>rfl,zAa,h4,h5];rfl
 rw[h6]
theorem aBj(f g:Bool)(w:Wal)(e:Int):Sim (.tup [waF f g w,.int .i64 e]) (.tup [waF false false w,.int .i64 e]):=by
 refine .tup _ _ rfl (aI ?_ (aI (.refl _) dD));refine .agg _ _ rfl ?_;repeat' first|exact dD|refine aI ?_ ?_|exact .refl _|exact .sl _ _
theorem aJP(n:Int)(H:AHeap):bJ Tryz.prog 28 [.int .i64 n] H (.tup [waF false false (aAA n).1,.int .i64 (aAA n).2]):=by
 refine fO Tryz.func28 ?_;have hk:=aGC n;have hd:=aJC n;have hl0:(vM n).loose=[]:=rfl;unfold aAA;generalize vM n=d at *;obtain⟨k1,k2,k3,k4⟩:=hk.size;obtain⟨z,hz⟩:∃z:Nat,d.size=z:=⟨d.size.toNat,by omega⟩
 rw[show d.size.toNat=z by omega]
 have hmt:∀H,bJ Tryz.prog 46 [.int .i64 1,.str []] H (.tup [.str (iW 1 []),.int .i64 0]):=fun H=>by
  have:=aGE 1 (by omega) [] (by simp) H
  rwa[zAk (by unfold iW;simp[aV,fY,bW])]at this
 have hpk:∀H,bJ Tryz.prog 47 [.int .i64 1,.str (iW 1 [])] H (.tup [.str uI,.int .i64 0]):=fun H=>by
  have:=aGx 1 (iW 1 []) (by unfold iW;simp[aV,fY,bW]) H
  unfold aBc at this;rwa[zAk (by unfold iW;simp[aV,fY,bW])]at this
 have hml:=aCg;have hsz:=vV z (by omega)
 have hst:=aEk z (by omega)
 have hsk:=aGD z 1 (by omega) (by omega)
 have hw1:IntKind.i64.wrap (((16:Nat):Int).tdiv 16)=1:=rfl;generalize uI=M0 at *;rw[←hz]at hsz hst hsk;unfold sO at hd;by_cases hfull:iV z<1
 ·have hdd:decide ((iV z:Int)<1)=true:=dT;rw[hml];rw[zAp (by omega)]
  repeat' first|(refine gS ?_;simp only[go_sem,hml,hw1,hdd])|refine gA ?_|(refine gD ?_ ?_<;>intro h<;>try exact aD h)|fail
  exact dY (aBj true true aBZ 120)
 ·have hdd:decide ((iV z:Int)<1)=false:=dF;rw[hml];rw[zAk (by omega)]
  repeat' first|((first|refine mx [6] mM ?_|refine mx [7] mO ?_|refine gS ?_);simp only[go_sem,hml,hw1,hdd])|refine gA ?_|(refine gD ?_ ?_<;>intro h<;>try exact aD h)|fail
  obtain⟨w0,hw0⟩:∃w0:Wal,w0={aBZ with disk:=d,seq:=1,base:=1,next:=1,end_:=(2 * iV z:Nat)}:=⟨_,rfl⟩
  have hwf:AV.agg [.int .i64 d.size,.str d.firm,.sl true (d.loose.map iH),.int .i64 1,.int .i64 1,.int .i64 1,.int .i64 (2 * iV z:Nat),.int .i64 0,.int .i64 0,.sl true [],.bool false,.int .i64 0,.int .i64 0,.int .i64 0]=waF true true w0:=by rw[hw0];rfl
  rw[←hw0,hwf];have hkw:KS w0.disk:=by rw[hw0];exact hk
  refine aDe (aEh true true w0 _) cO ?_;simp only[go_sem];have hseq:w0.seq=1:=by rw[hw0]
  have hsk1:∀H,bJ Tryz.prog 51 [.int .i64 d.size,.int .i64 1] H (.int .i64 (lX z 1)):=hsk;have hsz2:lX z 1≤1000000:=by have:lX z 1=z / 4:=rfl;omega
  repeat' first|((first|refine mx [6] mM ?_|refine mx [7] mO ?_|refine gS ?_);simp only[go_sem,leC,hseq])|refine gA ?_|(refine gD ?_ ?_<;>intro h<;>try exact aD h)|fail
  have hlb:∀A B C,LB (H.length+3) true true w0 (H++[A,B,C,.cells 0 (leC true true w0 (H.length+4)),.cells 0 [.ref (H.length+3) 0 0]]):=fun A B C=>⟨by simp only[go_sem],by simp only[go_sem]⟩
  have hwr:=fun A B C=>aEj (hlb A B C) hkw (lX z 1) M0 (by omega) hsz2
  simp only[leC,hseq]at hwr;refine aCe (hwr _ _ _) cO ?_;have hsq2:(lY w0 (lX z 1) M0).1.seq=1:=by unfold lY;split<;>exact hseq
  have hkw2:KS (lY w0 (lX z 1) M0).1.disk:=by
   unfold lY;have hm1:aS M0=1:=by unfold aS;rw[hml]
   split
   ·exact aCf hkw _ _ (by rw[hm1,hw0,show({aBZ with disk:=d,seq:=1,base:=1,next:=1,end_:=(2 * iV z:Nat)}:Wal).disk.loose=[]from hl0];decide)
   ·exact hkw
  simp only[go_sem,hsq2];repeat' first|(refine gS ?_;simp only[go_sem])|refine gA ?_|(refine gD ?_ ?_<;>intro h<;>try exact aD h)|fail
  generalize(lY w0 (lX z 1) M0).1=w1 at *;have hlb2:∀f A B C,LB (H.length+3) f true w1 (H++[A,B,C,.cells 0 (leC f true w1 (H.length+4)),.cells 0 [.ref (H.length+3) 0 0]]):=fun f A B C=>⟨by simp only[go_sem],by simp only[go_sem]⟩
  have hfl:=fun f A B C=>aEi (hlb2 f A B C) hkw2
  simp only[leC,hsq2]at hfl;refine aG (hfl _ _ _ _) cO ?_;rintro v H' ⟨rfl,rfl⟩;simp only[go_sem];repeat' first|(refine gS ?_;simp only[go_sem])|refine gA ?_|(refine gD ?_ ?_<;>intro h<;>try exact aD h)|fail
  have hsim:=aBj true true {w1 with disk:=rR w1.disk,dirty:=false} 0
  simp only[waF,hsq2]at hsim ⊢;exact dY hsim
end Go.Proofs.YtigedpfipifefaaGreatDoor
