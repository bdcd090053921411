/- The row of CoreEnds: the walk's contract, put into the row's own words. No condition. -/
import Derived.Test.YtennnelammaapaaGreatDoorWorkBL
import Derived.Test.YtennnelammaapaaGreatDoorRows
import Derived.Test.YtennnelammaapaaGreatDoorCards
import Derived.Test.YtennnelammaapaaGreatDoorTie
import Derived.LaidMore
import Derived.Lay
import Derived.SevenTiedAt
set_option linter.unusedSimpArgs false
set_option linter.unusedVariables false
set_option linter.unusedSectionVars false
set_option maxRecDepth 100000
set_option maxHeartbeats 16000000
namespace Go.Proofs.YtennnelammaapaaGreatDoor
section
def pC(t:Thr):Nat:=if walksK t.call=true then 2 * (16-t.at_.toNat)+(if t.has.length=1 then 4 else 5)else if turnsK t.call=true then 9-t.has.length else 3
def sT(l:List Nd)(t:Thr):Bool:=match t.has.getLast? with
 |none=>false
 |some h=>walksK t.call&& !(dirI h&&decide (findN l ((wnames t.call).take t.at_.toNat)=(h,0)))
def oK(l:List Nd)(nd:Nat)(w g:Bool)(t:Thr):Nat:=
 if t.ended=true then 0 else if t.done=true then t.has.length+2-g.toNat else pC t+37 * (nd-1)+37 * (sT l t).toNat-w.toNat
def lI(t:Tbl)(i:Nat):Bool:=t.waits.any fun w=>decide (w.thr=(i:Int))
def ndC(l:List Thr):Nat:=(l.map (·.done)).count false
def aGo(x:Cor)(i:Nat):Nat:=match x.ths[i]? with
 |none=>0
 |some t=>oK x.m.log.nodes (ndC x.ths) (lI x.t i) (oT x.g i) t
def sumC(x:Cor):Nat:=((List.range x.ths.length).map (aGo x)).sum
theorem aMv(f g:Nat→Nat)(n:Nat)(h:∀j,j<n→g j≤f j):((List.range n).map g).sum≤((List.range n).map f).sum:=by
 induction n with
 |zero=>simp
 |succ n ih=>
  rw[List.range_succ];have:=ih fun j hj=>h j (by omega)
  have:=h n (by omega)
  simp only[zA9,zAw,zAZ,zCM,List.sum_cons,List.sum_nil];omega
theorem aTa(f g:Nat→Nat)(n i:Nat)(hi:i<n)(h:∀j,j<n→g j≤f j)(hlt:g i<f i):((List.range n).map g).sum<((List.range n).map f).sum:=by
 induction n with
 |zero=>omega
 |succ n ih=>
  rw[List.range_succ];have h1:=h n (by omega)
  simp only[zA9,zAw,zAZ,zCM,List.sum_cons,List.sum_nil];by_cases e:i=n
  ·subst e;have:=aMv f g i fun j hj=>h j (by omega)
   omega
  ·have:=ih (by omega) fun j hj=>h j (by omega)
   omega
theorem sU(l:List Nd):∀(a:List Txt) {x y:Int} (b:List Txt),dH l x a=(y,0)→dH l x (a++b)=dH l y b
 |[],x,y,b,h=>by
  have e:x=y:=zAx Prod.fst h;rw[←e];rfl
 |s::a,x,y,b,h=>by
  rw[iH]at h;rw[zA0,iH];split at h
  ·rename_i hd;rw[zAl hd];cases hc:childI l x s with
   |none=>rw[hc]at h;simp at h
   |some i=>
    rw[hc]at h;exact sU l a b h
  ·simp at h
theorem aBD{l:List Nd}{t:Thr}(h:TW l t)(hd:t.done=false):3≤pC t∧pC t≤37:=by
 unfold pC;split
 ·split<;>omega
 ·split
  ·rename_i ht;have h1:=(h.turn hd ht).length_le;have h2:=qB l t.call;omega
  ·omega
theorem aEL{l:List Nd}{t:Thr}(hw:TW l t){k:Int}(h:nextT l t=⟨1,k⟩):pC (afterT t ⟨1,k⟩)+1≤pC t∧(sT l (afterT t ⟨1,k⟩)=true→sT l t=true):=by
 have hx:=hS l t;rw[h]at hx;obtain⟨q1,q2,q3,q4, -, -, -, -, -,q5⟩:=jF t k;unfold pC sT;rw[q2,q5,q1];generalize hu:(⟨1,k⟩:Trn)=u at hx;cases hx with
 |none=>cases hu
 |back=>cases hu
 |wait=>cases hu
 |leave=>cases hu
 |plain=>cases hu
 |turn hd he ht=>
  have hnw:walksK t.call=false:=by
   cases hw:walksK t.call with
   |false=>rfl
   |true=>rw[rW hw]at ht;cases ht
  obtain⟨-,h2⟩:=aCx (aC4 _ _) (hw.turn hd ht) hu.symm;have h3:=h2.length_le;have h4:=qB l t.call;simp only[zAa,zAc,zAv]at h3;simp only[hnw,ht,zAa,zAc,zAv,zAz,zA3,zBc];refine⟨by omega,?_⟩
  split<;>simp
 |walk _ hd he ht hwk hs=>
  obtain⟨w1,w2,w3,w4,w5⟩:=hw.walk hd hwk;subst hu;cases hs with
  |root h0=>
   have ha:=w4 h0;simp only[hwk,h0,ha,zAW,zAv,zAc,zCg,zBc,zAN];refine⟨by simp,fun h=>?_⟩
   have e:findN l (List.take (Int.toNat 0) (wnames t.call))=(0,0):=rfl;have e2:dirI 0=true:=rfl;simp only[show(0:Nat)=1↔False by simp,false_and,zA3,e,e2]at h
   simp at h
  |down here i s h0 ha hs hc hdi=>
   have hlt:t.at_.toNat<(wnames t.call).length:=(eT.1 hs).1;have hl:=pZ t.call;have hw1:IntKind.i64.wrap (t.at_+1)=t.at_+1:=wI;have e1:(t.at_+1).toNat=t.at_.toNat+1:=by omega
   simp only[hwk,h0,zAc,zAv,zA0,zAW,and_self,zBc,hw1,e1];refine⟨by rw[zAe (by omega:¬0+1+1=1)];omega,fun h=>?_⟩
   by_cases hon:dirI here=true∧findN l (List.take t.at_.toNat (wnames t.call))=(here,0)
   ·exfalso;have e2:List.take (t.at_.toNat+1) (wnames t.call)=List.take t.at_.toNat (wnames t.call)++[s]:=by
     rw[List.take_add_one,hs];rfl
    have e3:findN l (List.take (t.at_.toNat+1) (wnames t.call))=(k,0):=by
     rw[e2,findN,sU l _ [s] hon.2,iH,zAl hon.1,hc];rfl
    simp[e3,hdi]at h
   ·simp only[zCg,zAN,zA4,Bool.and_eq_false_iff,zA1];by_cases hd1:dirI here=true
    ·exact .inr fun e=>hon ⟨hd1,e⟩
    ·exact .inl (by simpa using hd1)
theorem aMw{l:List Nd}{t:Thr}(hw:TW l t)(hn:t.has.Nodup)(hd:t.done=false){k:Int}(h:nextT l t=⟨2,k⟩):pC (afterT t ⟨2,k⟩)+37 * (sT l (afterT t ⟨2,k⟩)).toNat+1≤pC t+37 * (sT l t).toNat:=by
 have hx:=hS l t;rw[h]at hx;obtain⟨q1,q2,q3,q4, -, -, -, -, -,q5⟩:=kZ t k;unfold pC sT;rw[q2,q5,q1];generalize hu:(⟨2,k⟩:Trn)=u at hx;cases hx with
 |none=>cases hu
 |back _ _ hd'=>rw[hd]at hd';cases hd'
 |wait=>cases hu
 |leave=>cases hu
 |plain=>cases hu
 |turn hd he ht=>
  rcases lZ (has:=t.has) (locksT l t.call)with q|q
  ·rw[←hu]at q;exact absurd q (by decide:(2:Int)≠1)
  ·rw[q]at hu;cases hu
 |walk _ _ he ht hwk hs=>
  obtain⟨w1,w2,w3,w4,w5⟩:=hw.walk hd hwk;subst hu;cases hs with
  |pass a b r h0=>
   rw[h0]at w1 hn;have hr:r=[]:=by cases r with
    |nil=>rfl
    |cons=>simp at w1
   subst hr;have hne:k∉[b]:=(zB8.1 hn).1;simp only[hwk,h0,aUp hne,hd];simp;omega
  |anew here h0 hf hdi hne hc=>
   have hoff:(dirI k&&decide (findN l (List.take t.at_.toNat (wnames t.call))=(k,0)))=false:=by
    rw[zB2];intro hon;simp only[zAu,zAF]at hon;have e:=sU l _ (List.drop t.at_.toNat (wnames t.call)) hon.2;rw[zAS]at e;have e':findN l (wnames t.call)=dH l k (List.drop t.at_.toNat (wnames t.call)):=e;rw[e']at hf hdi hne;cases hdr:List.drop t.at_.toNat (wnames t.call)with
    |nil=>rw[hdr]at hne;exact hne rfl
    |cons s r=>
     rw[hdr,iH,zAl hon.1]at hf hdi;have hs:(wnames t.call)[t.at_.toNat]?=some s:=by
      have:=zAx (·[0]?) hdr;simpa using this
     cases hci:childI l k s with
     |none=>rw[hci]at hf;simp at hf
     |some i=>
      rw[hci]at hf hdi;have hdi2:=hc s i w2 hs hci;cases r with
      |nil=>simp only[dH]at hdi;rw[hdi2]at hdi;cases hdi
      |cons s2 r2=>
       simp only[iH,zAe (show ¬dirI i=true by rw[hdi2];simp)]at hf
       simp at hf
   simp only[hwk,h0,zA5,List.filter_nil,zA7,zBQ,zAz,zA3,zCg,List.getLast?_nil,hoff,hd,zBc,and_self,zAv,zAc];simp
end
section
def Fll(x y:Cor)(who:Nat):Prop:=y.ths.length=x.ths.length∧∀(i:Nat) t t',x.ths[i]?=some t→y.ths[i]?=some t'→
 oK y.m.log.nodes (ndC y.ths) (lI y.t i) (oT y.g i) t'+(if i=who then 1 else 0)≤oK x.m.log.nodes (ndC x.ths) (lI x.t i) (oT x.g i) t
theorem Fll.sum{x y:Cor}{who:Nat}(h:Fll x y who)(hi:who<x.ths.length):sumC y<sumC x:=by
 have key:∀i,i<x.ths.length→aGo y i+(if i=who then 1 else 0)≤aGo x i:=fun i hi=>by
  have hy:i<y.ths.length:=by rw[h.1];exact hi
  unfold aGo;rw[zAb hi,zAb hy];exact h.2 i _ _ (zAb hi) (zAb hy)
 unfold sumC;rw[h.1];refine aTa _ _ _ who hi (fun j hj=>?_) ?_
 ·have:=key j hj;omega
 ·have:=key who hi;rw[zAl rfl]at this;omega
theorem yP{l:List Thr}{i:Nat}{t t':Thr}(ht:l[i]?=some t)(h:t'.done=t.done):ndC (l.set i t')=ndC l:=by
 unfold ndC;congr 1;refine List.ext_getElem? fun j=>?_
 rw[zAP,zAP,zBe];split
 ·rename_i e;subst e;rw[zAl (eT.1 ht).1,ht];simp[h]
 ·rfl
theorem aWj{l:List Thr}{i:Nat}{t t':Thr}(ht:l[i]?=some t)(h:t.done=false)(h':t'.done=true):ndC (l.set i t')+1=ndC l:=by
 obtain⟨hi,ht⟩:=eT.1 ht;unfold ndC;rw[List.map_set,List.count_set (by simpa using hi)]
 have hp:0<(l.map (·.done)).count false:=List.count_pos_iff.2 (zAm.2 ⟨t,ht▸zAK hi,h⟩);simp only[List.getElem_map,ht,h,h'];simp;omega
theorem aTb{l:List Thr}{t:Thr}(h:t∈l)(hd:t.done=false):0<ndC l:=List.count_pos_iff.2 (zAm.2 ⟨t,h,hd⟩)
theorem aBE{x:Cor}{who:Nat}(hw:∀w∈x.t.waits,w.thr≠who):lI x.t who=false:=by
 unfold lI;rw[zCa];intro w h;simpa using hw w h
theorem mV{l:List Nd}{nd:Nat}{w g:Bool}{t:Thr}(he:t.ended=false)(hd:t.done=false):oK l nd w g t=pC t+37 * (nd-1)+37 * (sT l t).toNat-w.toNat:=by
 unfold oK;rw[he,hd];rfl
theorem mW{l:List Nd}{nd:Nat}{w g:Bool}{t:Thr}(he:t.ended=false)(hd:t.done=true):oK l nd w g t=t.has.length+2-g.toNat:=by
 unfold oK;rw[he,hd];rfl
theorem aAC{l:List Nd}{nd:Nat}{w g:Bool}{t:Thr}(he:t.ended=true):oK l nd w g t=0:=by
 unfold oK;rw[he];rfl
theorem aGp{x:Cor}(c:CI x){who:Nat}(hg:oT x.g who=true):Fll x (mR false who x) who:=by
 unfold mR;rw[zAe (by decide)]
 obtain⟨ns,hns⟩:∃ns,(aC9 x.g x.ops.length).2=ns:=⟨_,rfl⟩;rw[hns];have hat:=aCC x.time ns x.ths;have hnd:ndC (ns.foldl (kF x.time) x.ths)=ndC x.ths:=by
  unfold ndC;congr 1;refine List.ext_getElem? fun i=>?_
  rw[zAP,zAP,hat,Option.map_map];congr 1;funext t;simp only[Function.comp];split<;>rfl
 have hin:∀(i:Nat) t,x.ths[i]?=some t→oT x.g i=true→t.done=true∧t.ended=false∧((i:Int)∈ns∨oT (aC9 x.g x.ops.length).1 i=true)∧(t.upto≤x.ops.length→(i:Int)∈ns):=fun i t ht h=>by
  obtain⟨w,hw,e⟩:=zBX.1 h;have e:w.thr=(i:Int):=zAQ e;obtain⟨j,t2,e2,h2,h3,h4, -, -,h5, -⟩:=c.gr w hw;have:j=i:=by omega
  subst this;rw[ht]at h2;cases h2;have hmem:w.upto≤max x.g.kept x.ops.length→(j:Int)∈ns:=fun hle=>by
   rw[←hns];exact zAm.2 ⟨w,zBb.2 ⟨hw,zAj hle⟩,e⟩
  refine⟨h3,h4,?_,fun hle=>hmem (by omega)⟩
  by_cases hle:w.upto≤max x.g.kept x.ops.length
  ·exact .inl (hmem hle)
  ·exact .inr (zBX.2 ⟨w,zBb.2 ⟨hw,by simpa using hle⟩,zAj e⟩)
 refine⟨aEB _ _ _,fun i t t' ht ht'=>?_⟩
 simp only at ht' ⊢;rw[hat,ht]at ht';cases ht';rw[hnd];split
 ·rename_i hm;rw[aAC rfl];obtain⟨w,hw,e⟩:∃w∈x.g.waits,w.thr=(i:Int):=by
   rw[←hns]at hm;obtain⟨w,hw,e⟩:=zAm.1 hm;exact⟨w,(zBb.1 hw).1,e⟩
  obtain⟨h1,h2, -⟩:=hin i t ht (zBX.2 ⟨w,hw,zAj e⟩);rw[mW h2 h1];have:(oT x.g i).toNat≤1:=Bool.toNat_le _;split<;>omega
 ·rename_i hm;have hne:i≠who:=fun e=>by
   subst e;obtain⟨-, -, -,h3⟩:=hin i t ht hg;exact hm (h3 (c.up t (zAp ht)).2)
  rw[zAe hne];unfold oK;split
  ·exact zAo _
  ·split
   ·cases hgi:oT x.g i with
    |false=>simp only[zBL];omega
    |true=>
     rcases(hin i t ht hgi).2.2.1 with h|h
     ·exact absurd h hm
     ·rw[h];exact zAf _
   ·exact zAf _
theorem aGq(t:Tbl)(n k:Int):match(bX t n k).2 with
  |none=>(bX t n k).1.waits=t.waits
  |some j=>(⟨k,j⟩:Hld)∈t.waits∧(bX t n k).1.waits=t.waits.erase ⟨k,j⟩:=by
 unfold bX;by_cases h:t.held.contains ⟨k,n⟩=true
 ·rw[zAl h];cases hf:t.waits.find? fun w=>decide (w.lock=k)with
  |none=>rfl
  |some w=>
   have e:w=⟨k,w.thr⟩:=by have:=zBz hf;cases w;simp at this;rw[this]
   simp only;rw[←e];exact⟨zAT hf,rfl⟩
 ·rw[zAe h]
theorem aGr{x:Cor}(c:CI x){who:Nat}{t:Thr}{k:Int}(ht:x.ths[who]?=some t)(hw:∀w∈x.t.waits,w.thr≠who)(hn:nextT x.m.log.nodes t=⟨1,k⟩):Fll x (vZ who k x) who:=by
 have htw:=c.tw t (zAp ht);obtain⟨h1,h2,h3,h4⟩:=tJ c.mi.nodes.frs htw hn;obtain⟨a1,a2,a3,a4,a5,a6, -⟩:=jF t k;obtain⟨l1,l2⟩:=aEL htw hn;have hno:=aBE hw;have hgt:=aBD htw h2;unfold vZ aBP;cases hf:mQ x.t.held k with
 |none=>
  simp only[zBc];rw[fY ht];refine⟨zAG,fun i u u' hu hu'=>?_⟩
  simp only at hu' ⊢;rw[yP ht a3];show oK _ _ (lI x.t i) _ _+_≤_;rw[zBe]at hu';split at hu'
  ·rename_i e;subst e;rw[zAl (eT.1 ht).1]at hu';cases hu';rw[ht]at hu;cases hu;rw[zAl rfl,mV h1 h2,mV (by rw[a4];exact h1) (by rw[a3];exact h2),hno]
   cases ho:sT x.m.log.nodes (afterT t ⟨1,k⟩)with
   |false=>simp only[zBL];omega
   |true=>rw[l2 ho];simp only[zBL];omega
  ·rename_i e;rw[hu]at hu';cases hu';rw[zAe (zBs e)];exact zAf _
 |some j=>
  have hj:j≠who:=fun e=>by
   obtain⟨i,e1, -,hk⟩:=(c.ti.heldH k j).1 (tE hf);have:i=who:=by omega
   rw[this,nS ht]at hk;exact h3 hk
  have hnc:x.t.waits.contains (⟨k,who⟩:Hld)=false:=by
   rw[zB2];intro e;exact hw _ (by simpa using e) rfl
  simp only[zAe hj,hnc,zAz,zA3];refine⟨rfl,fun i u u' hu hu'=>?_⟩
  rw[hu]at hu';cases hu';have hwb:lI ⟨x.t.held,x.t.waits++[⟨k,who⟩]⟩ i=(lI x.t i||decide (who=i)):=by
   unfold lI;simp only[List.any_append,List.any_cons,List.any_nil,Bool.or_false];congr 1;exact zCv.2 (by omega)
  simp only[hwb];by_cases e:i=who
  ·subst e;rw[ht]at hu;cases hu;rw[zAl rfl,mV h1 h2,mV h1 h2,hno];simp;omega
  ·rw[zAe e,zAg (zBs e),Bool.or_false];exact zAf _
theorem aGs{x:Cor}(c:CI x){who:Nat}{t:Thr}{k:Int}(ht:x.ths[who]?=some t)(hw:∀w∈x.t.waits,w.thr≠who)(hg:oT x.g who=false)(hn:nextT x.m.log.nodes t=⟨2,k⟩):Fll x (wA who k x) who:=by
 have hi:=(eT.1 ht).1;have htw:=c.tw t (zAp ht);have hnd:t.has.Nodup:=by rw[←nS ht];exact c.ti.hasU who
 obtain⟨h1,h2,h3⟩:=aCy htw hnd hn;obtain⟨a1,a2,a3,a4,a5,a6, -⟩:=kZ t k;have hno:=aBE hw;have hfw:=aGq x.t who k;have hself:∀nd w g,w=false→g=false→oK x.m.log.nodes nd w g (afterT t ⟨2,k⟩)+1≤oK x.m.log.nodes nd w g t:=by
  rintro nd w g rfl rfl;cases hd:t.done with
  |true=>
   rw[mW h1 hd,mW (by rw[a4];exact h1) (by rw[a3];exact hd),a1]
   have:(t.has.filter fun x=> !decide (x=k)).length<t.has.length:=List.length_filter_lt_length_iff_exists.2 ⟨k,h2,by simp⟩
   simp only[zBL];omega
  |false=>
   have:=aMw htw hnd hd hn;have:=aBD htw hd;rw[mV h1 hd,mV (by rw[a4];exact h1) (by rw[a3];exact hd)]
   simp only[zBL];omega
 unfold wA;cases hf:(bX x.t who k).2 with
 |none=>
  rw[hf]at hfw;simp only at hfw ⊢;rw[fY ht];refine⟨zAG,fun i u u' hu hu'=>?_⟩
  simp only at hu' ⊢;have hwb:lI (bX x.t who k).1 i=lI x.t i:=by unfold lI;rw[hfw]
  rw[yP ht a3,hwb];rw[zBe]at hu';split at hu'
  ·rename_i e;subst e;try rw[zAl hi]at hu'
   cases hu';rw[ht]at hu;cases hu;rw[zAl rfl];exact hself _ _ _ hno hg
  ·rename_i e;rw[hu]at hu';cases hu';rw[zAe (zBs e)];exact zAf _
 |some j=>
  rw[hf]at hfw;simp only at hfw ⊢;obtain⟨hjw,hfe⟩:=hfw;obtain⟨-,hj⟩:=c.ti.free hi (by rw[nS ht];exact h2)
  obtain⟨j',ej,hj',hne, -⟩:=hj j hf;subst ej;obtain⟨j2,t2,e2,ht2,hn2,htw2,hd2,hg2⟩:=c.got hjw;have:j2=j':=by simp only at e2;omega
  subst this;simp only at hn2 htw2;obtain⟨b1,b2,b3,b4⟩:=tJ c.mi.nodes.frs (c.tw t2 (zAp ht2)) hn2;obtain⟨c1,c2,c3,c4, -⟩:=jF t2 k;obtain⟨l1,l2⟩:=aEL (c.tw t2 (zAp ht2)) hn2;have hgt:=aBD (c.tw t2 (zAp ht2)) b2;have hth:vY (mY x.ths who fun t=>afterT t ⟨2,k⟩) ⟨k,(j2:Int)⟩=(x.ths.set who (afterT t ⟨2,k⟩)).set j2 (afterT t2 ⟨1,k⟩):=by
   rw[fY ht,aX2 (t:=t2) rfl (by rw[zAA (zBs hne)];exact ht2)]
  rw[hth];have hwb:∀i:Nat,lI (bX x.t who k).1 i=(lI x.t i&& !decide (i=j2)):=fun i=>by
   unfold lI;rw[hfe];rw[zBo];simp only[zBX,zAu,zAF,zA4,zA1];constructor
   ·rintro⟨w,hw1,hw2⟩;have:=(tF c.ti.waitU hjw w).1 hw1;exact⟨⟨w,this.1,hw2⟩,fun e=>this.2 (by rw[hw2,e])⟩
   ·rintro⟨⟨w,hw1,hw2⟩,hne2⟩;exact⟨w,(tF c.ti.waitU hjw w).2 ⟨hw1,fun e=>hne2 (by rw[hw2]at e;exact Int.ofNat.inj e)⟩,hw2⟩
  refine⟨by simp,fun i u u' hu hu'=>?_⟩
  simp only at hu' ⊢;rw[yP (by rw[zAA (zBs hne)];exact ht2) c3,yP ht a3,hwb]
  rw[zBe]at hu';split at hu'
  ·rename_i e;subst e;rw[zAl (by rw[zAG];exact hj')]at hu'
   cases hu';rw[ht2]at hu;cases hu;have hwt:lI x.t j2=true:=zBX.2 ⟨_,hjw,by simp⟩
   rw[zAe hne,mV b1 b2,mV (by rw[c4];exact b1) (by rw[c3];exact b2),hwt]
   cases ho:sT x.m.log.nodes (afterT t2 ⟨1,k⟩)with
   |false=>simp;omega
   |true=>rw[l2 ho];simp;omega
  ·rename_i e;rw[zAg (zBs e),zBx,Bool.and_true];rw[zBe]at hu';split at hu'
   ·rename_i e;subst e;try rw[zAl hi]at hu'
    cases hu';rw[ht]at hu;cases hu;rw[zAl rfl];exact hself _ _ _ hno hg
   ·rename_i e;rw[hu]at hu';cases hu';rw[zAe (zBs e)];exact zAf _
theorem aGt{x:Cor}(c:CI x){who:Nat}{t:Thr}{k:Int}(ht:x.ths[who]?=some t)(hg:oT x.g who=false)(hn:nextT x.m.log.nodes t=⟨4,k⟩):Fll x (aBk who t x) who:=by
 have hi:=(eT.1 ht).1;obtain⟨-,h2,h3,h4,h5⟩:=aIH hn;unfold aBk zJ;by_cases hle:t.upto≤x.g.kept
 ·simp only[zAl hle,zBc];unfold kF;rw[fY ht];refine⟨zAG,fun i u u' hu hu'=>?_⟩
  simp only at hu' ⊢;rw[yP (t':={t with ended:=true,end_:=x.time}) ht rfl]
  rw[zBe]at hu';split at hu'
  ·rename_i e;subst e;try rw[zAl hi]at hu'
   cases hu';rw[ht]at hu;cases hu;rw[zAl rfl,aAC rfl,mW h2 h3,hg];simp
  ·rename_i e;rw[hu]at hu';cases hu';rw[zAe (zBs e)];exact zAf _
 ·simp only[zAe hle,hg,zAz,zA3];refine⟨rfl,fun i u u' hu hu'=>?_⟩
  rw[hu]at hu';cases hu';have hgb:oT ⟨x.g.kept,x.g.waits++[⟨who,t.upto⟩]⟩ i=(oT x.g i||decide (who=i)):=by
   unfold oT;simp only[List.any_append,List.any_cons,List.any_nil,Bool.or_false];congr 1;exact zCv.2 (by omega)
  simp only[hgb];by_cases e:i=who
  ·subst e;rw[ht]at hu;cases hu;rw[zAl rfl,mW h2 h3,mW h2 h3,hg];simp
  ·rw[zAe e,zAg (zBs e),Bool.or_false];exact zAf _
theorem aEM{x:Cor}(c:CI x){who:Nat}{t:Thr}{k:Int}(ht:x.ths[who]?=some t)(hg:oT x.g who=false)(hn:nextT x.m.log.nodes t=⟨5,k⟩):Fll x (aBl who x) who:=by
 have hi:=(eT.1 ht).1;obtain⟨-,h2,h3,h4,h5⟩:=aBp hn;unfold aBl;rw[fY ht];refine⟨zAG,fun i u u' hu hu'=>?_⟩
 simp only at hu' ⊢;rw[yP ht (by simp[afterT])]
 rw[zBe]at hu';split at hu'
 ·rename_i e;subst e;try rw[zAl hi]at hu'
  cases hu';rw[ht]at hu;cases hu;rw[zAl rfl,aAC (by simp[afterT]),mW h2 h3,hg]
  simp
 ·rename_i e;rw[hu]at hu';cases hu';rw[zAe (zBs e)];exact zAf _
theorem aHH{l l':List Nd}{nd':Nat}{w w' g g':Bool}{t t':Thr}(hd:t.done=false)(he:t.ended=false)(hd':t'.done=false)(hnd:1≤nd')(h3:3≤pC t)(h:(pC t'=pC t∧(w'=w∨sT l' t'=false))∨(pC t'≤37∧sT l' t'=false)):oK l' nd' w' g' t'≤oK l (nd'+1) w g t:=by
 have b1:(sT l' t').toNat≤1:=Bool.toNat_le _;have b2:w'.toNat≤1:=Bool.toNat_le _;have b3:w.toNat≤1:=Bool.toNat_le _;rw[mV he hd];cases he':t'.ended with
 |true=>rw[aAC he'];omega
 |false=>
  rw[mV he' hd'];have e:37 * (nd'+1-1)=37 * (nd'-1)+37:=by omega
  rw[e];rcases h with⟨h1,h2|h2⟩|⟨h1,h2⟩
  ·rw[h1,h2];omega
  ·rw[h1,h2];simp only[zBL];omega
  ·rw[h2];simp only[zBL];omega
theorem aMx{l:List Nd}{t:Thr}(h:walksK t.call=false):sT l t=false:=by
 unfold sT;split
 ·rfl
 ·rw[h];rfl
theorem aHI{l:List Nd}{t:Thr}(h:t.has=[]):sT l t=false:=by
 unfold sT;rw[h];rfl
theorem aMy{x:Cor}(c:CI x){who:Nat}{t t':Thr}(ht:x.ths[who]?=some t)(hw:∀w∈x.t.waits,w.thr≠who)(hg:oT x.g who=false)(hn:nextT x.m.log.nodes t=⟨3,0⟩)(h1:t'.has=t.has)(h2:t'.done=true)(l':List Nd)(nd nd':Nat)(w' g':Bool):oK l' nd' w' g' t'+1≤oK x.m.log.nodes nd (lI x.t who) (oT x.g who) t:=by
 obtain⟨he,hd⟩:=wF hn;have htw:=c.tw t (zAp ht);have hlt:t.has.length+2<pC t:=by
  unfold pC;split
  ·rename_i hwk;obtain⟨here,hh, -⟩:=(aDe hd hn).2 (rW hwk) hwk;rw[hh];simp
  ·split
   ·rename_i htu;have h1:=(htw.turn hd htu).length_le;have h2:=qB x.m.log.nodes t.call;omega
   ·rename_i hwk htu;rw[htw.plain hd (by simpa using hwk) (by simpa using htu)]
    decide
 rw[mV he hd,aBE hw];unfold oK;split
 ·simp only[zBL];omega
 ·simp only[h2,h1,zBc,zBL];omega
theorem aI5{x:Cor}(c:CI x){who:Nat}{t:Thr}(ht:x.ths[who]?=some t)(hw:∀w∈x.t.waits,w.thr≠who)(hg:oT x.g who=false)(hn:nextT x.m.log.nodes t=⟨3,0⟩):Fll x (aFH who t.call x) who:=by
 obtain⟨he,hd⟩:=wF hn;have hi:=(eT.1 ht).1;unfold aFH;obtain⟨t1,ht1⟩:∃t1,aVN x (doM x.m t.call) t=t1:=⟨_,rfl⟩;have d1:t1.call=t.call∧t1.has=t.has∧t1.done=true:=by rw[←ht1];exact⟨rfl,rfl,rfl⟩
 have hnd:=aWj (t':=t1) ht hd d1.2.2;have hpos:∀(i:Nat) u,i≠who→x.ths[i]?=some u→u.done=false→1≤ndC (x.ths.set who t1):=fun i u hne hu hdu=>aTb (t:=u) (zAp (i:=i) (by rw[zAA (zBs hne)];exact hu)) hdu
 have hend:∀(i:Nat) u,x.ths[i]?=some u→u.done=false→u.ended=false:=fun i u hu hdu=>by
  cases h:u.ended with
  |false=>rfl
  |true=>rw[((c.tw u (zAp hu)).ended h).1]at hdu;cases hdu
 split
 ·rename_i hk;obtain⟨hW,hA⟩:=aV5 c ht hw hn hk.1 d1.2.1;have e:aEp who (kG who x (doM x.m t.call))={kG who x (doM x.m t.call)with t:=((List.range (x.ths.set who t1).length).foldl (mS who) (x.t,x.ths.set who t1)).1,ths:=((List.range (x.ths.set who t1).length).foldl (mS who) (x.t,x.ths.set who t1)).2}:=by
   unfold aEp kG;rw[fY ht,ht1]
  rw[e];generalize(List.range (x.ths.set who t1).length).foldl (mS who) (x.t,x.ths.set who t1)=s at *;obtain⟨a1,a2,a3,a4⟩:=hA;have hndS:ndC s.2=ndC (x.ths.set who t1):=by
   unfold ndC;congr 1;refine List.ext_getElem? fun i=>?_
   rw[zAP,zAP];cases hs:s.2[i]? with
   |none=>rw[List.getElem?_eq_none_iff,a1]at hs;rw[zBt hs]
   |some t'=>
    obtain⟨u,q1,q2, -⟩:=a3 i t' hs;rw[q1];simp[q2.2.1]
  refine⟨by rw[a1];exact zAG,fun i u u' hu hu'=>?_⟩
  simp only at hu' ⊢;rw[hndS];obtain⟨v,q1,q2,q3,q4⟩:=a3 i u' hu';by_cases e:i=who
  ·subst e;rw[zAU hi]at q1;cases q1;rw[ht]at hu;cases hu;rw[zAl rfl,q4 (.inl rfl)];exact aMy c ht hw hg hn d1.2.1 d1.2.2 _ _ _ _ _
  ·rw[zAA (zBs e),hu]at q1;cases q1;rw[zAe e];cases hdu:u.done with
   |true=>
    have hl:lateT u=false:=by unfold lateT;rw[hdu];simp
    rw[q4 (.inr hl)];unfold oK;split
    ·exact zAo _
    ·exact zAf _
   |false=>
    have htw:=c.tw u (zAp hu);rw[←hnd];refine aHH hdu (hend i u hu hdu) (by rw[q2.2.1];exact hdu) (hpos i u e hu hdu) (aBD htw hdu).1 ?_
    cases hl:lateT u with
    |true=>
     have hwk:walksK u.call=true:=by unfold lateT at hl;simp only[zAu]at hl;exact hl.1
     obtain⟨b1,b2⟩:=(q3 e hl).1 (by rw[zAG];exact(eT.1 hu).1)
     refine .inr ⟨?_,aHI b1⟩;unfold pC;rw[q2.1,hwk,b1,b2,zAl rfl];decide
    |false=>
     have hwk:walksK u.call=false:=by unfold lateT at hl;rw[hdu]at hl;simpa using hl
     rw[q4 (.inr hl)];exact .inl ⟨rfl,.inr (aMx hwk)⟩
 ·rename_i hk;unfold kG;rw[fY ht,ht1];refine⟨zAG,fun i u u' hu hu'=>?_⟩
  simp only at hu' ⊢;by_cases e:i=who
  ·subst e;rw[zAU hi]at hu';cases hu';rw[ht]at hu;cases hu;rw[zAl rfl];exact aMy c ht hw hg hn d1.2.1 d1.2.2 _ _ _ _ _
  ·rw[zAA (zBs e),hu]at hu';cases hu';rw[zAe e];cases hdu:u.done with
   |true=>
    unfold oK;split
    ·exact zAo _
    ·exact zAf _
   |false=>
    rw[←hnd];exact aHH hdu (hend i u hu hdu) hdu (hpos i u e hu hdu) (aBD (c.tw u (zAp hu)) hdu).1 (.inl ⟨rfl,.inl rfl⟩)
theorem aGu{x:Cor}(c:CI x)(p:Int)(h:doneC x=false):sumC (jL x p false)<sumC x:=by
 obtain⟨who,hp⟩:∃who,kY x p=some who:=by
  unfold kY;rw[zAe (aIU c h)];exact⟨_,rfl⟩
 obtain⟨t,ht,he,hw, -⟩:=aAz (tK hp);have hi:=(eT.1 ht).1;unfold jL;rw[hp];simp only;unfold goC;have hgd:x.ths.getD who (th0 ca0)=t:=by rw[zAh,ht];rfl
 rw[hgd];cases hg:oT x.g who with
 |true=>rw[zAl rfl];exact(aGp c.tick hg).sum hi
 |false=>
  rw[zAe (by decide)]
  have key:∀u,nextT x.m.log.nodes t=u→(u.kind=1∨u.kind=2∨u=⟨3,0⟩∨u.kind=4∨u.kind=5)→sumC (rT who t u (zL x))<sumC x:=by
   rintro⟨a,k⟩ hu hk;unfold rT;simp only at hk ⊢;by_cases k1:a=1
   ·subst k1;rw[zAl rfl];exact(aGr c.tick ht hw hu).sum hi
   rw[zAe k1];by_cases k2:a=2
   ·subst k2;rw[zAl rfl];exact(aGs c.tick ht hw hg hu).sum hi
   rw[zAe k2];by_cases k3:a=3
   ·subst k3;have hk0:k=0:=by
     rcases hk with h|h|h|h|h
     ·exact absurd h k1
     ·exact absurd h k2
     ·cases h;rfl
     ·exact absurd h (by decide)
     ·exact absurd h (by decide)
    subst hk0;rw[zAl rfl];exact(aI5 c.tick ht hw hg hu).sum hi
   rw[zAe k3];by_cases k4:a=4
   ·subst k4;rw[zAl rfl];exact(aGt c.tick ht hg hu).sum hi
   rw[zAe k4];by_cases k5:a=5
   ·subst k5;rw[zAl rfl];exact(aEM c.tick ht hg hu).sum hi
   ·rcases hk with h|h|h|h|h
    ·exact absurd h k1
    ·exact absurd h k2
    ·cases h;exact absurd rfl k3
    ·exact absurd h k4
    ·exact absurd h k5
  exact key _ rfl (yB _ he)
theorem aI6{x:Cor}(h:∀t∈x.ths,t.has=[]∧t.at_=0∧t.done=false):sumC x≤37 * (x.ths.length * x.ths.length):=by
 have hnd:ndC x.ths≤x.ths.length:=by unfold ndC;exact zAO List.count_le_length (by simp)
 have key:∀i,i<x.ths.length→aGo x i≤37 * x.ths.length:=fun i hi=>by
  unfold aGo;rw[zAb hi];obtain⟨h1,h2,h3⟩:=h _ (zAK hi);have hw:pC x.ths[i]≤37:=by unfold pC;rw[h1,h2];split<;>(try split)<;>decide
  simp only;unfold oK;rw[h3,aHI h1];split
  ·exact zAo _
  ·simp;omega
 have:=aMv (fun _=>37 * x.ths.length) (aGo x) x.ths.length key
 unfold sumC;refine zAO this ?_;have key2:∀(c n:Nat),((List.range n).map fun _=>c).sum=n * c:=fun c n=>by
  induction n with
  |zero=>simp
  |succ n ih=>rw[List.range_succ,zA9,zCM,ih,Nat.succ_mul];simp
 rw[key2,Nat.mul_left_comm];exact zAf _
end
section
structure SI (i:Nat) (x:Cor):Prop where
 b:CB 0 x
 len:x.ths.length=i
 new:∀t∈x.ths,t.has=[]∧t.at_=0∧t.done=false
theorem SI.start{i:Nat}{x:Cor}(s:SI i x)(hi:i<40){k:Cal}(hk:CS k):SI (i+1) (eC x k).1∧(eC x k).2=((i:Int),0):=by
 have hb:=s.b.start hk;have hn:¬(40:Int)≤(x.ths.length:Int):=by rw[s.len];omega
 unfold eC at hb ⊢;rw[zAe hn]at hb ⊢;refine⟨⟨hb,by simp only[zAa,List.length_singleton,s.len],fun t ht=>?_⟩,by rw[s.len]⟩
 rcases zAy.1 ht with h|h
 ·exact s.new t h
 ·rw[zAq]at h;subst h;exact⟨rfl,rfl,rfl⟩
structure EI (n k:Nat) (x:Cor):Prop where
 b:CB k x
 len:x.ths.length=n
 fall:doneC x=false→sumC x+k≤37 * (n * n)
theorem SI.go{n:Nat}{x:Cor}(s:SI n x):EI n 0 x:=⟨s.b,s.len,fun _=>by have:=aI6 s.new;rw[s.len]at this;exact this⟩
theorem EI.step{n k:Nat}{x:Cor}(e:EI n k x)(h:doneC x=false)(p:Int):EI n (k+1) (jL x p false):=by
 refine⟨e.b.step p false,(e.b.ci.goes p false).1.1.trans e.len,fun _=>?_⟩
 have h1:=aGu e.b.ci p h;have h2:=e.fall h;omega
theorem EI.over{n k:Nat}{x:Cor}(e:EI n k x)(hk:45 * n * n≤k):doneC x=true:=by
 cases h:doneC x with
 |true=>rfl
 |false=>
  have h2:=e.fall h;have h3:45 * n * n=45 * (n * n):=Nat.mul_assoc ..;have h4:n * n=0:=by omega
  have h5:n=0:=by cases n with|zero=>rfl|succ n=>simp at h4
  have h6:=e.len;rw[h5]at h6;have h7:x.ths=[]:=zAE h6;unfold doneC at h;rw[h7]at h;cases h
end
section
def wW:List Pl:=[.pure 0,.free,.free,.pure 0,.pure 0,.pure 0,.free,.free,.free,.free,.eff [true,true,true,true],.eff [false,false,false,false],.free,.free]
attribute [go_sem] wW
theorem aPK(b b2:Bool)(l:List Cal)(ps:List Int)(H:AHeap):bH Tryz.prog 4 [.sl b (l.map dS),.sl b2 (ps.map bK)] H (.bool true):=by
 refine fO Tryz.func4 ?_;have hfew:=aG7 b l 10;have hnw:=sG 0;obtain⟨x0,hx0⟩:∃x0,tP 0=(x0,0):=⟨_,rfl⟩;have hb0:=uS hx0;have hs0:SI 0 x0:=by
  have e:x0.ths=[]:=by
   have:=zAx (fun z:Cor×Int=>z.1.ths) hx0
   exact this.symm.trans rfl
  exact⟨hb0,by rw[e];rfl,fun t ht=>by rw[e]at ht;cases ht⟩
 rw[hx0]at hnw;have haw:=mB;simp only[eM,iN,kE]at hnw;cases hfe:qG l 10 with
 |false=>
  rw[hfe]at hfew;repeat' first|(refine gS ?_;simp only[go_sem])|refine gA ?_|(refine gD ?_ ?_<;>intro h<;>try exact aA h)|fail
  all_goals exact dY (.refl _)
 |true=>
 rw[hfe]at hfew;obtain⟨hcs,hl10⟩:=aS3 hfe;cases hpl:decide ((100:Int)<(ps.length:Int))with
 |true=>
  repeat' first|(refine gS ?_;simp only[go_sem,hpl])|refine gA ?_|(refine gD ?_ ?_<;>intro h<;>try exact aA h)|fail
  exact dY (.refl _)
 |false=>
 have hp100:ps.length≤100:=by have:=of_decide_eq_false hpl;omega
 repeat' first|(refine gS ?_;simp only[go_sem,hpl])|refine gA ?_|(refine gD ?_ ?_<;>intro h<;>try exact aA h)|fail
 refine aI (ι:=Nat×Cor×AHeap) (fun s=>[(0,.sl b (l.map dS)),(1,.sl b2 (ps.map bK)),(5,.bool true),(6,.ref H.length 0 0),(8,.int .i64 s.1)]) (fun s=>H++(.cells 0 (eM s.2.1).cells::s.2.2)) (fun s=>s.1≤l.length∧SI s.1 s.2.1) (fun s=>l.length-s.1) (0,x0,[]) ⟨zAo _,hs0⟩ ?_ rfl ?_
 ·simp[go_sem]
 rintro⟨k,x,M⟩ ⟨hk,hs⟩;simp only at hk hs ⊢;obtain⟨G,hG⟩:∃G,H++(.cells 0 (eM x).cells::M)=G:=⟨_,rfl⟩;rw[hG];have g0:hget G H.length=.cells 0 (eM x).cells:=by rw[←hG];simp only[go_sem]
 have g1:=aG g0 trivial;have g2:=cC g0 trivial;have gs:∀X,aB G H.length X=H++(X::M):=fun X=>by rw[←hG];simp only[go_sem]
 by_cases hlt:k<l.length
 ·have hgd:=aN dS hlt;have hcc:=hcs _ (zAK hlt);obtain⟨c,hce⟩:∃c,c=l[k]:=⟨_,rfl⟩;rw[←hce]at hgd hcc;have hst:=sH false false false false false false false false false x c (by have:=hs.b.ci.n;omega)
  obtain⟨hs2,he2⟩:=hs.start (by omega) hcc
  obtain⟨⟨y,n,e⟩,hy⟩:∃y,eC x c=y:=⟨_,rfl⟩;rw[hy]at hst hs2 he2;obtain⟨rfl,rfl⟩:=Prod.mk.inj he2;simp only[iN,kE,dS]at hst hgd g0 hs2;have hli:decide ((k:Int)<(l.length:Int))=true:=dT;have hk0:((0:Int)≤(k:Int))=True:=zAC (by omega)
  have hki:((k:Int)<(l.length:Int))=True:=zAC (by omega)
  repeat' first|((first|refine mx [8] wW ?_|refine gS ?_);simp only[go_sem,g0,g1,g2,hgd,hli,hlt,hki,hk0,iN,kE])|refine gA ?_|(refine gD ?_ ?_<;>intro h<;>try exact aA h)|fail
  exact⟨(k+1,y,M++[.cells 0 (eM y).cells]),⟨hlt,hs2⟩,by simp only;omega,zAx _ (aS hlt (by omega)),by rw[gs];simp;rfl⟩
 ·have hke:k=l.length:=by omega
  have hli:decide ((k:Int)<(l.length:Int))=false:=dF;repeat' first|(refine gS ?_;simp only[go_sem,hli])|refine gA ?_|(refine gD ?_ ?_<;>intro h<;>try exact aA h)|fail
  rw[hke]at hs;obtain⟨n,hn⟩:∃n,45 * l.length * l.length=n:=⟨_,rfl⟩;have hn2:n≤4500:=by
   rw[←hn];have:l.length≤10:=by omega
   exact Nat.mul_le_mul (Nat.mul_le_mul (zAf 45) this) this
  have hm1:IntKind.i64.wrap (45 * (l.length:Int))=((45 * l.length:Nat):Int):=by rw[wI];push_cast;rfl
  have hm2:IntKind.i64.wrap (((45 * l.length:Nat):Int) * (l.length:Int))=(n:Int):=by
   have e:((45 * l.length:Nat):Int) * (l.length:Int)=(n:Int):=by rw[←hn];push_cast;rfl
   rw[e,wI]
  refine aI (ι:=Nat×Cor×AHeap) (fun s=>[(0,.sl b (l.map dS)),(1,.sl b2 (ps.map bK)),(5,.bool true),(6,.ref H.length 0 0),(12,.int .i64 s.1)]) (fun s=>H++(.cells 0 (eM s.2.1).cells::s.2.2)) (fun s=>EI l.length s.1 s.2.1∧s.1≤n) (fun s=>n-s.1) (0,x,M) ⟨hs.go,zAo _⟩ ?_ hG.symm ?_
  ·simp[go_sem]
  clear hG g0 g1 g2 gs hli;rintro⟨q,z,N⟩ ⟨he,hq⟩;simp only at he hq ⊢;obtain⟨G,hG⟩:∃G,H++(.cells 0 (eM z).cells::N)=G:=⟨_,rfl⟩;rw[hG];have g0:hget G H.length=.cells 0 (eM z).cells:=by rw[←hG];simp only[go_sem]
  have gs:∀X,aB G H.length X=H++(X::N):=fun X=>by rw[←hG];simp only[go_sem]
  have hdn:=aAw false false false false false false false false false z;simp only[iN,kE,eM]at hdn g0;cases hd:doneC z with
  |true=>
   rw[hd]at hdn;obtain⟨z1,z2,z3⟩:=he.b.ci.quiet hd;have e1:decide ((z.t.held.length:Int)=0)=true:=by rw[z1];rfl
   have e2:decide ((z.t.waits.length:Int)=0)=true:=by rw[z2];rfl
   have e3:decide ((z.g.waits.length:Int)=0)=true:=by rw[z3];rfl
   cases hm3:decide ((q:Int)<(n:Int))with
   |true=>
    repeat' first|(refine gS ?_;simp only[go_sem,g0,hm1,hm2,hm3,e1,e2,e3])|refine gA ?_|(refine gD ?_ ?_<;>intro h<;>try exact aA h)|fail
    exact oF hG (by simp only[go_sem]) (.refl _)
   |false=>
    repeat' first|(refine gS ?_;simp only[go_sem,g0,hm1,hm2,hm3,e1,e2,e3])|refine gA ?_|(refine gD ?_ ?_<;>intro h<;>try exact aA h)|fail
    exact oF hG (by simp only[go_sem]) (.refl _)
  |false=>
   rw[hd]at hdn;have hlt2:q<n:=by
    rcases zCk q n with h|h
    ·exact h
    ·have:=he.over (by omega)
     rw[hd]at this;cases this
   have hm3:decide ((q:Int)<(n:Int))=true:=dT;obtain⟨pk,hpk⟩:∃pk:Int,pk=if 0<ps.length then ps.getD (q % ps.length) 0 else q:=⟨_,rfl⟩
   have hst:=wR z pk false he.b (by omega)
   have he2:=he.step hd pk;simp only[iN,kE,eM]at hst;by_cases hps:0<ps.length
   ·rw[zAl hps]at hpk;have hmod:q % ps.length<ps.length:=Nat.mod_lt _ hps;have hgp:=aN bK hmod;have hpe:ps[q % ps.length]=pk:=by rw[hpk,zAh,zAb hmod];rfl
    have ew:(q:Int).tmod (ps.length:Int)=((q % ps.length:Nat):Int):=by rw[zBN (by omega)];push_cast;rfl
    have d0:decide ((ps.length:Int)=0)=false:=dF;have d1:decide ((0:Int)<(ps.length:Int))=true:=dT;have d2:decide (((q % ps.length:Nat):Int)<(ps.length:Int))=true:=dT;rw[hpe]at hgp;repeat' first|(refine gS ?_;simp only[go_sem,g0,hm1,hm2,hm3,hgp,bK,ew,d0,d1,d2])|refine gA ?_|(refine gD ?_ ?_<;>intro h<;>try exact aA h)|fail
    exact⟨(q+1,jL z pk false,N),⟨he2,hlt2⟩,by simp only;omega,zAx _ (aS hlt2 (by omega)),by rw[gs];rfl⟩
   ·rw[zAe hps]at hpk;have d1:decide ((0:Int)<(ps.length:Int))=false:=dF;rw[hpk]at hst;repeat' first|(refine gS ?_;simp only[go_sem,g0,hm1,hm2,hm3,d1])|refine gA ?_|(refine gD ?_ ?_<;>intro h<;>try exact aA h)|fail
    exact⟨(q+1,jL z q false,N),⟨by rw[←hpk];exact he2,hlt2⟩,by simp only;omega,zAx _ (aS hlt2 (by omega)),by rw[gs];rfl⟩
open Go.ChangeShapes Go.WideShapes Go.ChangeAt Go.RowKit
theorem aBF(os:Os)(started:os.Started)(H:Type)(enc:TypeId×Value→H):
  ReturnsInHanded {} Tryz.checked os 4 .any (fun w args=>(Rows.coreEndsSpec.pre enc Tryz.prog Tryz.f4 Rows.coreEndsRow.domain false w args∧laidMetH Tryz.prog Rows.coreEndsRow.laid w)∧sizedMet enc Tryz.prog Tryz.f4 (OpenSpec.ofChange Rows.coreEndsSpec) false w args) (Rows.coreEndsSpec.post enc Tryz.prog Tryz.f4 false true false false):=by
 refine returnsInHanded_of_change_and (C:=Tryz.checked) (X:=fun w _=>laidMetH Tryz.prog Rows.coreEndsRow.laid w) (fun _ _ _ hh h=>h.of_heap hh) own started (by kernel_rfl) Tryz.func4
  (ChangeSpec.witness_shaped (enc:=enc) (C:=Tryz.checked) (os:=os) (X:=fun w _=>laidMetH Tryz.prog Rows.coreEndsRow.laid w) false (World.laidAll Tryz.prog os Rows.coreEndsRow.laid) #[.slice none 0 0,.slice none 0 0] 8 (World.laidAll_os _ _ _)
   (World.shaped_of_ZipB (by kernel_rfl) (by kernel_rfl)) (by kernel_rfl) (by kernel_rfl) (by kernel_rfl)
   (by rw[MakeChecks.laidMetH_plain _ _ _ (by kernel_rfl)];exact laidMet_laidAll _ (by kernel_rfl) (by kernel_rfl))) ?_
 intro W base args ds gs before hval0 hW hcnd _ hL _;have hval:∀(j:Nat) t v,Tryz.f4.params[j]?=some t→args[j]?=some v→Value.okWide Tryz.prog W .any base t v:=hval0;have hW':=hW;obtain⟨p,q,hA0,hV,rfl,hfz,hnd⟩:=hW;have hA:DataW.TrodAll enc Tryz.prog W 0 (fun _=>true) true Tryz.f4.params.toList args.toList ds p:=hA0
 rw[Tryz.params4]at hA hval;obtain⟨v0,vs0,d0,ds0,p0,q0,hargs,rfl,rfl,h0,r0⟩:=trodAll_cons hA;obtain⟨v1,vs1,d1,ds1,p1,q1,rfl,rfl,rfl,h1,r1⟩:=trodAll_cons r0;obtain⟨rfl,rfl,rfl⟩:=trodAll_nil r1;obtain rfl:args= #[v0,v1]:=by cases args;simp_all
 obtain⟨rfl,rfl⟩:=trodVars_none hV;have lt0:∀x∈p0,x.block<W.heap.size:=by obtain⟨m,hm⟩:=h0;exact DataW.trod_lt m _ _ _ hm
 obtain⟨x0,s0,w0⟩:=nE (by kernel_rfl) (hval 0 57 v0 rfl rfl) h0
 obtain⟨l0,rfl,ll0⟩:=aKF s0;have lt1:∀x∈p1,x.block<W.heap.size:=by obtain⟨m,hm⟩:=h1;exact DataW.trod_lt m _ _ _ hm
 obtain⟨x1,s1,w1⟩:=nE (by kernel_rfl) (hval 1 51 v1 rfl rfl) h1
 obtain⟨l1,rfl,ll1⟩:=aOb s1;refine(kL (aPK false false l0 l1 []) (lX (jJ w0 (jJ w1 oO)))).mono fun e W' ⟨he,bel⟩=>?_
 subst he;exact⟨_,rfl,_,_,_,[],_,[],hW',trodAll_mk1 (shut_bool Tryz.underlying4 _),(trodAll_cons_mk (Below.trod nF (by kernel_rfl) (zAQ (by kernel_rfl)) h0 bel lt0) (trodAll_cons_mk (Below.trod nF (by kernel_rfl) (zAQ (by kernel_rfl)) h1 bel lt1) trodAll_mk0)),rfl,bel.frame _,fun h=>by cases h⟩
theorem sR{a b:Bool}(h:a=true)(k:b=true):(a&&b)=true:=by rw[h,k];rfl
theorem aGv:Tryz.pinned.checked.prog.funcNamed Rows.coreEndsRow.func=some 4:=by kernel_rfl
theorem aGw:joinedFacts Tryz.pinned.checked.prog 4 Tryz.f4 Rows.coreEndsSpec Rows.coreEndsRow=true:=by
 unfold joinedFacts;repeat' refine sR ?_ ?_
 all_goals(as_aux_lemma=>kernel_rfl)
theorem aEN:Rows.CoreEndsSaid:=
 OpenClaim.holds_of_wide 4 Tryz.f4 rfl rfl rfl rfl rfl rfl rfl ⟨rfl,rfl,rfl,rfl,rfl⟩ rfl rfl rfl rfl rfl aGv Tryz.func4 aGw
  (zAQ (by kernel_rfl)) (by unfold Func.isWrapper;first|(rw[zAl (by decide+kernel)];kernel_rfl)|(rw[zAe (by decide+kernel)];exact⟨rfl,rfl⟩))
  (fun os started H enc _=>aBF os started H enc)
theorem provedCoreEnds:Rows.CoreEndsCardSaid:=
 Claim7.holds_tied_plain_at .later [] [.data,.pinned] true (true,"93fba198f5d2af12b2f6eb48584f4df6b621c8d2cb8552a9ff7f35d8a508c024") true aEN (fun _ h=>by cases h) (by kernel_rfl) (fun _ h=>by cases h) coreEnds_row_tie rfl ⟨rfl,rfl⟩ (by kernel_rfl) rfl
  (fun f fn hf hfn=>by
   obtain rfl:f=4:=zBa ((show Tryz.prog.funcNamed "gunwale/gunwalelaw21.CoreEnds" =some 4 by kernel_rfl).symm.trans hf)|>.symm
   obtain rfl:fn=Tryz.f4:=(zBa (Tryz.func4.symm.trans hfn)).symm;exact⟨by kernel_rfl,fun j t ht=>by
    rw[Tryz.params4]at ht;have hm:t∈[57,51]:=by simpa using zBf ht
    have hall:([57,51].all fun u=> !Tryz.prog.wantsStandIn u)=true:=by kernel_rfl
    exact(show Tryz.prog.wantsStandIn t=false by simpa using zAJ.1 hall t hm)⟩)
  (by kernel_rfl)
end
end Go.Proofs.YtennnelammaapaaGreatDoor
