/- The texts 39 of 51 beneath the rows of this seat (joined by program): the abstract machine, and what the functions answer. No condition. -/
import Derived.Test.YthhdnjiodklmmaaGreatDoorWorkBB
import Derived.Test.YthhdnjiodklmmaaGreatDoorWorkBC
import Derived.Test.YthhdnjiodklmmaaGreatDoorWorkBK
set_option linter.unusedSimpArgs false
set_option linter.unusedVariables false
set_option linter.unusedSectionVars false
/- What is done at the desk of calls that make, write, read, move, remove and list. No condition but what is known of a replica. -/
namespace Go.Gw
open Go Go.Aw Go.Proofs.YthhdnjiodklmmaaGreatDoor
structure CS (c:Cal):Prop where
 path:c.path.length≤1048576
 to:c.to.length≤1048576
 data:c.data.length≤1048576
theorem aB4{l:List Nd}{p:Txt}{dir:Int}{s:Txt}(h:abvN l p=(dir,s,0)):s.length≤80:=by
 obtain⟨ns,hn, -, -⟩:=aBY h
 exact tO (vA hn s (by simp))
end Go.Gw
namespace Go.Proofs.YthhdnjiodklmmaaGreatDoor
open Go Go.Aw Go.Gw
set_option linter.unusedSimpArgs false
set_option linter.unusedVariables false
set_option maxRecDepth 20000
set_option maxHeartbeats 4000000
theorem aGe{i j:Nat}{c:Cal}{d:Dsk}{G:AHeap}(hb:KB i j c d G)(hs:DS d.m)(hc:CS c)(hl:d.ops.length≤1000000):vH Tryz.prog 67 i j c (qP c d) G:=by
 refine bJ Tryz.func67 rfl (Nat.le_of_ble_eq_true rfl) ?_
 have r0:=hb.b1;have r1:=aT hb.b1 trivial;have r2:=aT hb.b2 trivial;have hne:=hb.ne;have hl1:=hb.lt1;have hl2:=hb.lt2;have r3:=hb.r3;have r4:=hb.r4;have hnl:=aC G i;simp only[dkC]at r0 r1;have qs:=lE hl1 hl2 hne rfl
 unfold qP
 by_cases h1:c.path=[47]
 ·have d1:decide (c.path=[47])=true:=decide_eq_true h1
  rw[if_pos h1]
  repeat' first|(refine gS ?_;simp only[go_sem,r0,r1,r2,r3,r4,hnl,qs,aC,d1])|refine gA ?_|(refine gD (fun h=>?_) (fun h=>?_)<;>try exact aA h)|fail
  exact cN hb rfl hb.own.symm
 have d1:decide (c.path=[47])=false:=decide_eq_false h1
 rw[if_neg h1]
 have hab:=aN4 false d.m.log.nodes c.path (by have:=hs.nodes;omega) hc.path
 obtain⟨⟨dir,s,e⟩,ha⟩:∃x,abvN d.m.log.nodes c.path=x:=⟨_,rfl⟩
 rw[ha]at hab ⊢
 simp only[aHG]at hab
 by_cases he:e=0
 ·subst he
  simp only[if_true]
  have hch:=yV false d.m.log.nodes dir s (by have:=hs.nodes;omega)
  cases hcn:childN d.m.log.nodes dir s with
  |some n=>
   simp only[hcn,qH,Option.map_some,Option.getD_some,Option.isSome_some]at hch
   simp only[Option.isSome_some,if_true]
   have ct0:=ct hab gL;have ct1:=ct hch gY;repeat' first|((first|refine gK ?_|refine gS ?_);simp only[go_sem,r0,r1,r2,r3,r4,hnl,qs,aC,d1])|refine gA ?_|(refine gD (fun h=>?_) (fun h=>?_)<;>try exact aA h)|fail
   exact cN hb rfl hb.own.symm
  |none=>
   simp only[hcn,qH,Option.map_none,Option.getD_none,Option.isSome_none]at hch
   rw[if_neg (by simp)]
   have hnx:=fun L=>aCK j c d i (by have:=hs.ents;omega) (G++L) (hb.app L).b1
   have hnx0:=aCK j c d i (by have:=hs.ents;omega) G hb.b1
   obtain⟨⟨st,f⟩,hn⟩:∃x,nextD d.m=x:=⟨_,rfl⟩
   simp only[hn,stA]at hnx hnx0 ⊢
   by_cases hf:f=0
   ·subst hf
    rw[if_pos rfl]
    have hid:=aV4 st.c st.r (decide (c.kind=1))
    have ct0:=ct hab gL;have ct1:=ct hch gY;have ct2:=ct hid aEb;repeat' first|((first|refine gK ?_|refine aV (hnx0) eF ?_|refine aW (hnx0) eF ?_|refine aX (fun _=>hnx0) eF ?_|refine gS ?_);simp only[go_sem,r0,r1,r2,r3,r4,hnl,qs,aC,d1])|refine gA ?_|(refine gD (fun h=>?_) (fun h=>?_)<;>try exact aA h)|fail
    refine bE (zB (hb.app _) hs (o:=⟨yH,1,idI st.c st.r (decide (c.kind=1)),dir,s,[]⟩) ⟨by have:=aB4 ha;simp only;omega,by simp⟩ hl) oU ?_
    rintro v H' ⟨rfl,rfl⟩
    rw[hb.happ]
    simp only[go_sem]
    repeat' first|(refine gS ?_;simp only[go_sem])|refine gA ?_|(refine gD (fun h=>?_) (fun h=>?_)<;>try exact aA h)|fail
    exact lH hb rfl rfl
   ·have hd:decide (f=0)=false:=decide_eq_false hf
    rw[if_neg hf]
    have ct0:=ct hab gL;have ct1:=ct hch gY;repeat' first|((first|refine gK ?_|refine aV (hnx0) eF ?_|refine aW (hnx0) eF ?_|refine aX (fun _=>hnx0) eF ?_|refine gS ?_);simp only[go_sem,r0,r1,r2,r3,r4,hnl,qs,aC,d1,hd])|refine gA ?_|(refine gD (fun h=>?_) (fun h=>?_)<;>try exact aA h)|fail
    exact lH hb rfl hb.own.symm
 ·have hd:decide (e=0)=false:=decide_eq_false he
  simp only[if_neg he]
  have ct0:=ct hab gL;repeat' first|((first|refine gK ?_|refine gS ?_);simp only[go_sem,r0,r1,r2,r3,r4,hnl,qs,aC,d1,hd])|refine gA ?_|(refine gD (fun h=>?_) (fun h=>?_)<;>try exact aA h)|fail
  exact cN hb rfl hb.own.symm
theorem aKn{i j:Nat}{c:Cal}{d:Dsk}{G:AHeap}(hb:KB i j c d G)(hs:DS d.m)(hc:CS c)(hl:d.ops.length≤1000000):vH Tryz.prog 68 i j c (qQ c d) G:=by
 refine bJ Tryz.func68 rfl (Nat.le_of_ble_eq_true rfl) ?_
 have r0:=hb.b1;have r1:=aT hb.b1 trivial;have r2:=aT hb.b2 trivial;have hne:=hb.ne;have hl1:=hb.lt1;have hl2:=hb.lt2;have r3:=hb.r3;have r4:=hb.r4;have hnl:=aC G i;simp only[dkC]at r0 r1;have qs:=lE hl1 hl2 hne rfl
 unfold qQ
 have hat:=aHH false d.m.log.nodes c.path (by have:=hs.nodes;omega) hc.path
 obtain⟨⟨id,e⟩,ha⟩:∃x,atN d.m.log.nodes c.path=x:=⟨_,rfl⟩
 rw[ha]at hat ⊢
 simp only[sB]at hat
 by_cases he:e=0
 ·subst he
  simp only[if_true]
  have hdd:=uH id
  cases hdi:dirI id with
  |true=>
   rw[hdi]at hdd
   rw[if_pos rfl]
   have ct0:=ct hat bQ;have ct1:=ct hdd dA;repeat' first|((first|refine gK ?_|refine gS ?_);simp only[go_sem,r0,r1,r2,r3,r4,hnl,qs,aC])|refine gA ?_|(refine gD (fun h=>?_) (fun h=>?_)<;>try exact aA h)|fail
   exact cN hb rfl hb.own.symm
  |false=>
   rw[hdi]at hdd
   rw[if_neg (by simp)]
   have ct0:=ct hat bQ;have ct1:=ct hdd dA;repeat' first|((first|refine gK ?_|refine gS ?_);simp only[go_sem,r0,r1,r2,r3,r4,hnl,qs,aC])|refine gA ?_|(refine gD (fun h=>?_) (fun h=>?_)<;>try exact aA h)|fail
   refine bE (zB hb hs (o:=⟨yH,2,id,0,[],c.data⟩) ⟨by simp,by have:=hc.data;simp only;omega⟩ hl) oU ?_
   rintro v H' ⟨rfl,rfl⟩
   simp only[go_sem]
   repeat' first|(refine gS ?_;simp only[go_sem])|refine gA ?_|(refine gD (fun h=>?_) (fun h=>?_)<;>try exact aA h)|fail
   exact cN hb rfl rfl
 ·have hd:decide (e=0)=false:=decide_eq_false he
  simp only[if_neg he]
  have ct0:=ct hat bQ;repeat' first|((first|refine gK ?_|refine gS ?_);simp only[go_sem,r0,r1,r2,r3,r4,hnl,qs,aC,hd])|refine gA ?_|(refine gD (fun h=>?_) (fun h=>?_)<;>try exact aA h)|fail
  exact cN hb rfl hb.own.symm
theorem aA1{m:Mdl}(hs:DS m){n:Int}{l:List Nd}(h:eG m n=some l):l.length≤1000000:=by
 unfold eG at h
 split at h
 ·cases h;exact hs.nodes
 ·obtain⟨s,hf,rfl⟩:=Option.map_eq_some_iff.1 h
  exact hs.snap s (List.mem_of_find?_eq_some hf)
theorem aMQ{i j:Nat}{c:Cal}{d:Dsk}{G:AHeap}(hb:KB i j c d G)(hs:DS d.m)(hc:CS c)(hsm:∀l,eG d.m c.n=some l→SmN l):vH Tryz.prog 69 i j c (nG c d) G:=by
 refine bJ Tryz.func69 rfl (Nat.le_of_ble_eq_true rfl) ?_
 have r0:=hb.b1;have r1:=aT hb.b1 trivial;have r2:=aT hb.b2 trivial;have hne:=hb.ne;have hl1:=hb.lt1;have hl2:=hb.lt2;have r3:=hb.r3;have r4:=hb.r4;have hnl:=aC G i;simp only[dkC]at r0 r1;have qs:=lE hl1 hl2 hne rfl
 unfold nG
 have hnd:=aGa d.m c.n i _ hs.snaps G hb.b1
 cases hn:eG d.m c.n with
 |none=>
  rw[hn]at hnd
  simp only[aAV]at hnd
  repeat' first|((first|refine aV (hnd) bN ?_|refine aW (hnd) bN ?_|refine aX (fun _=>hnd) bN ?_|refine gS ?_);simp only[go_sem,r0,r1,r2,r3,r4,hnl,qs,aC])|refine gA ?_|(refine gD (fun h=>?_) (fun h=>?_)<;>try exact aA h)|fail
  exact cN hb rfl hb.own.symm
 |some l=>
  rw[hn]at hnd
  simp only[aAV]at hnd
  have hl:l.length≤1000000:=aA1 hs hn
  have hat:=aHH false l c.path (by omega) hc.path
  simp only
  obtain⟨⟨id,e⟩,ha⟩:∃x,atN l c.path=x:=⟨_,rfl⟩
  rw[ha]at hat ⊢
  simp only[sB]at hat
  by_cases he:e=0
  ·subst he
   simp only[if_true]
   have hdd:=uH id
   cases hdi:dirI id with
   |true=>
    rw[hdi]at hdd
    rw[if_pos rfl]
    have ct0:=ct hat bQ;have ct1:=ct hdd dA;repeat' first|((first|refine gK ?_|refine aV (hnd) bN ?_|refine aW (hnd) bN ?_|refine aX (fun _=>hnd) bN ?_|refine gS ?_);simp only[go_sem,r0,r1,r2,r3,r4,hnl,qs,aC])|refine gA ?_|(refine gD (fun h=>?_) (fun h=>?_)<;>try exact aA h)|fail
    exact cN hb rfl hb.own.symm
   |false=>
    rw[hdi]at hdd
    rw[if_neg (by simp)]
    have hf:=aQl false l id
    simp only[ndV,ndA]at hf
    have ct0:=ct hat bQ;have ct1:=ct hdd dA;have ct2:=ct hf aEc;repeat' first|((first|refine gK ?_|refine aV (hnd) bN ?_|refine aW (hnd) bN ?_|refine aX (fun _=>hnd) bN ?_|refine gS ?_);simp only[go_sem,r0,r1,r2,r3,r4,hnl,qs,aC])|refine gA ?_|(refine gD (fun h=>?_) (fun h=>?_)<;>try exact aA h)|fail
    exact lH hb rfl (hb.one (d':={d with a:={d.a with data:=((findI l id).getD nd0).data}}) rfl)
  ·have hd:decide (e=0)=false:=decide_eq_false he
   simp only[if_neg he]
   have ct0:=ct hat bQ;repeat' first|((first|refine gK ?_|refine aV (hnd) bN ?_|refine aW (hnd) bN ?_|refine aX (fun _=>hnd) bN ?_|refine gS ?_);simp only[go_sem,r0,r1,r2,r3,r4,hnl,qs,aC,hd])|refine gA ?_|(refine gD (fun h=>?_) (fun h=>?_)<;>try exact aA h)|fail
   exact cN hb rfl hb.own.symm
theorem aUA{i j:Nat}{c:Cal}{d:Dsk}{G:AHeap}(hb:KB i j c d G)(hs:DS d.m)(hc:CS c)(hsm:∀l,eG d.m c.n=some l→SmN l):vH Tryz.prog 72 i j c (lsD c d) G:=by
 refine bJ Tryz.func72 rfl (Nat.le_of_ble_eq_true rfl) ?_
 have r0:=hb.b1;have r1:=aT hb.b1 trivial;have r2:=aT hb.b2 trivial;have hne:=hb.ne;have hl1:=hb.lt1;have hl2:=hb.lt2;have r3:=hb.r3;have r4:=hb.r4;have hnl:=aC G i;simp only[dkC]at r0 r1;have qs:=lE hl1 hl2 hne rfl
 unfold lsD
 have hnd:=aGa d.m c.n i _ hs.snaps G hb.b1
 cases hn:eG d.m c.n with
 |none=>
  rw[hn]at hnd
  simp only[aAV]at hnd
  repeat' first|((first|refine aV (hnd) bN ?_|refine aW (hnd) bN ?_|refine aX (fun _=>hnd) bN ?_|refine gS ?_);simp only[go_sem,r0,r1,r2,r3,r4,hnl,qs,aC])|refine gA ?_|(refine gD (fun h=>?_) (fun h=>?_)<;>try exact aA h)|fail
  exact cN hb rfl hb.own.symm
 |some l=>
  rw[hn]at hnd
  simp only[aAV]at hnd
  have hl:l.length≤1000000:=aA1 hs hn
  have hat:=aHH false l c.path (by omega) hc.path
  simp only
  obtain⟨⟨id,e⟩,ha⟩:∃x,atN l c.path=x:=⟨_,rfl⟩
  rw[ha]at hat ⊢
  simp only[sB]at hat
  by_cases he:e=0
  ·subst he
   simp only[if_true]
   have hdd:=uH id
   cases hdi:dirI id with
   |true=>
    rw[hdi]at hdd
    rw[if_pos rfl]
    have hf:=aVd false l id (by omega) (hsm l hn)
    have ct0:=ct hat bQ;have ct1:=ct hdd dA;have ct2:=ct hf aEd;repeat' first|((first|refine gK ?_|refine aV (hnd) bN ?_|refine aW (hnd) bN ?_|refine aX (fun _=>hnd) bN ?_|refine gS ?_);simp only[go_sem,r0,r1,r2,r3,r4,hnl,qs,aC])|refine gA ?_|(refine gD (fun h=>?_) (fun h=>?_)<;>try exact aA h)|fail
    exact cN hb rfl (hb.one (d':={d with a:={d.a with names:=xS l id}}) rfl)
   |false=>
    rw[hdi]at hdd
    rw[if_neg (by simp)]
    have ct0:=ct hat bQ;have ct1:=ct hdd dA;repeat' first|((first|refine gK ?_|refine aV (hnd) bN ?_|refine aW (hnd) bN ?_|refine aX (fun _=>hnd) bN ?_|refine gS ?_);simp only[go_sem,r0,r1,r2,r3,r4,hnl,qs,aC])|refine gA ?_|(refine gD (fun h=>?_) (fun h=>?_)<;>try exact aA h)|fail
    exact cN hb rfl hb.own.symm
  ·have hd:decide (e=0)=false:=decide_eq_false he
   simp only[if_neg he]
   have ct0:=ct hat bQ;repeat' first|((first|refine gK ?_|refine aV (hnd) bN ?_|refine aW (hnd) bN ?_|refine aX (fun _=>hnd) bN ?_|refine gS ?_);simp only[go_sem,r0,r1,r2,r3,r4,hnl,qs,aC,hd])|refine gA ?_|(refine gD (fun h=>?_) (fun h=>?_)<;>try exact aA h)|fail
   exact cN hb rfl hb.own.symm
theorem aHN{i j:Nat}{c:Cal}{d:Dsk}{G:AHeap}(hb:KB i j c d G)(hs:DS d.m)(hc:CS c)(hl:d.ops.length≤1000000):vH Tryz.prog 71 i j c (pF c d) G:=by
 refine bJ Tryz.func71 rfl (Nat.le_of_ble_eq_true rfl) ?_
 have r0:=hb.b1;have r1:=aT hb.b1 trivial;have r2:=aT hb.b2 trivial;have hne:=hb.ne;have hl1:=hb.lt1;have hl2:=hb.lt2;have r3:=hb.r3;have r4:=hb.r4;have hnl:=aC G i;simp only[dkC]at r0 r1;have qs:=lE hl1 hl2 hne rfl
 unfold pF
 by_cases h1:c.path=[47]
 ·have d1:decide (c.path=[47])=true:=decide_eq_true h1
  rw[if_pos h1]
  repeat' first|(refine gS ?_;simp only[go_sem,r0,r1,r2,r3,r4,hnl,qs,aC,d1])|refine gA ?_|(refine gD (fun h=>?_) (fun h=>?_)<;>try exact aA h)|fail
  exact cN hb rfl hb.own.symm
 have d1:decide (c.path=[47])=false:=decide_eq_false h1
 rw[if_neg h1]
 have hat:=aHH false d.m.log.nodes c.path (by have:=hs.nodes;omega) hc.path
 obtain⟨⟨id,e⟩,ha⟩:∃x,atN d.m.log.nodes c.path=x:=⟨_,rfl⟩
 rw[ha]at hat ⊢
 simp only[sB]at hat
 by_cases he:e=0
 ·subst he
  simp only[if_true]
  have hsp:=aCv c.path hc.path
  unfold uR at hsp
  cases hn:dJ c.path with
  |none=>
   simp only[hn]at hsp
   have ct0:=ct hat bQ;have ct1:=ct hsp eE;repeat' first|((first|refine gK ?_|refine gS ?_);simp only[go_sem,r0,r1,r2,r3,r4,hnl,qs,aC,d1])|refine gA ?_|(refine gD (fun h=>?_) (fun h=>?_)<;>try exact aA h)|fail
   exact cN hb rfl hb.own.symm
  |some ns=>
   simp only[hn,d1]at hsp
   cases ns with
   |nil=>
    have ct0:=ct hat bQ;have ct1:=ct hsp eE;repeat' first|((first|refine gK ?_|refine gS ?_);simp only[go_sem,r0,r1,r2,r3,r4,hnl,qs,aC,d1])|refine gA ?_|(refine gD (fun h=>?_) (fun h=>?_)<;>try exact aA h)|fail
    exact cN hb rfl hb.own.symm
   |cons x xs=>
    have hlen:=xR hn
    rw[List.length_cons]at hlen
    have hw:IntKind.i64.wrap (((xs.length+1:Nat):Int)-1)=(xs.length:Int):=by rw[wrap_i64 (by omega) (by omega)];omega
    have hd:decide (((xs.length+1:Nat):Int)=0)=false:=decide_eq_false (by omega)
    have hgd:(AV.str x::xs.map AV.str).getD xs.length .top=.str ((x::xs).getLast (by simp)):=by
     rw[←List.map_cons (f:=AV.str),bA AV.str (by simp),List.getLast_eq_getElem];simp
    have hlt:xs.length<xs.length+1:=Nat.lt_succ_self _
    have hsm:((x::xs).getLast (by simp)).length≤80:=tO (vA hn _ (List.getLast_mem _))
    obtain⟨s,hse⟩:∃s,(x::xs).getLast (by simp)=s:=⟨_,rfl⟩
    rw[hse]at hgd hsm
    simp only[hse]
    have ct0:=ct hat bQ;have ct1:=ct hsp eE;repeat' first|((first|refine gK ?_|refine gS ?_);simp only[go_sem,r0,r1,r2,r3,r4,hnl,qs,aC,d1,hw,hd,hgd,hlt])|refine gA ?_|(refine gD (fun h=>?_) (fun h=>?_)<;>try exact aA h)|fail
    refine bE (zB hb hs (o:=⟨yH,1,id,2,s,[]⟩) ⟨by simp only;omega,by simp⟩ hl) oU ?_
    rintro v H' ⟨rfl,rfl⟩
    simp only[go_sem]
    repeat' first|(refine gS ?_;simp only[go_sem])|refine gA ?_|(refine gD (fun h=>?_) (fun h=>?_)<;>try exact aA h)|fail
    exact cN hb rfl rfl
 ·have hd:decide (e=0)=false:=decide_eq_false he
  simp only[if_neg he]
  have ct0:=ct hat bQ;repeat' first|((first|refine gK ?_|refine gS ?_);simp only[go_sem,r0,r1,r2,r3,r4,hnl,qs,aC,d1,hd])|refine gA ?_|(refine gD (fun h=>?_) (fun h=>?_)<;>try exact aA h)|fail
  exact cN hb rfl hb.own.symm
theorem aMR{i j:Nat}{c:Cal}{d:Dsk}{G:AHeap}(hb:KB i j c d G)(hs:DS d.m)(hc:CS c)(hl:d.ops.length≤1000000):vH Tryz.prog 70 i j c (aAJ c d) G:=by
 refine bJ Tryz.func70 rfl (Nat.le_of_ble_eq_true rfl) ?_
 have r0:=hb.b1;have r1:=aT hb.b1 trivial;have r2:=aT hb.b2 trivial;have hne:=hb.ne;have hl1:=hb.lt1;have hl2:=hb.lt2;have r3:=hb.r3;have r4:=hb.r4;have hnl:=aC G i;simp only[dkC]at r0 r1;have qs:=lE hl1 hl2 hne rfl
 unfold aAJ
 by_cases h1:c.path=[47]
 ·have d1:decide (c.path=[47])=true:=decide_eq_true h1
  rw[if_pos (.inl h1)]
  repeat' first|(refine gS ?_;simp only[go_sem,r0,r1,r2,r3,r4,hnl,qs,aC,d1])|refine gA ?_|(refine gD (fun h=>?_) (fun h=>?_)<;>try exact aA h)|fail
  exact cN hb rfl hb.own.symm
 have d1:decide (c.path=[47])=false:=decide_eq_false h1
 by_cases h2:c.to=[47]
 ·have d2:decide (c.to=[47])=true:=decide_eq_true h2
  rw[if_pos (.inr h2)]
  repeat' first|(refine gS ?_;simp only[go_sem,r0,r1,r2,r3,r4,hnl,qs,aC,d1,d2])|refine gA ?_|(refine gD (fun h=>?_) (fun h=>?_)<;>try exact aA h)|fail
  exact cN hb rfl hb.own.symm
 have d2:decide (c.to=[47])=false:=decide_eq_false h2
 rw[if_neg (by rintro(h|h)<;>contradiction)]
 have hat:=aHH false d.m.log.nodes c.path (by have:=hs.nodes;omega) hc.path
 obtain⟨⟨id,e⟩,ha⟩:∃x,atN d.m.log.nodes c.path=x:=⟨_,rfl⟩
 rw[ha]at hat ⊢
 simp only[sB]at hat
 by_cases he:e=0
 ·subst he
  simp only[if_true]
  have hab:=aN4 false d.m.log.nodes c.to (by have:=hs.nodes;omega) hc.to
  obtain⟨⟨dir,s,f⟩,hbv⟩:∃x,abvN d.m.log.nodes c.to=x:=⟨_,rfl⟩
  rw[hbv]at hab ⊢
  simp only[aHG]at hab
  by_cases hf:f=0
  ·subst hf
   simp only[if_true]
   have hch:=yV false d.m.log.nodes dir s (by have:=hs.nodes;omega)
   cases hcn:childN d.m.log.nodes dir s with
   |some n=>
    simp only[hcn,qH,Option.map_some,Option.getD_some,Option.isSome_some]at hch
    simp only[Option.isSome_some,if_true]
    have ct0:=ct hat bQ;have ct1:=ct hab gL;have ct2:=ct hch gY;repeat' first|((first|refine gK ?_|refine gS ?_);simp only[go_sem,r0,r1,r2,r3,r4,hnl,qs,aC,d1,d2])|refine gA ?_|(refine gD (fun h=>?_) (fun h=>?_)<;>try exact aA h)|fail
    exact cN hb rfl hb.own.symm
   |none=>
    simp only[hcn,qH,Option.map_none,Option.getD_none,Option.isSome_none]at hch
    rw[if_neg (by simp)]
    by_cases hdi:dir=id
    ·have dd:decide (dir=id)=true:=decide_eq_true hdi
     rw[if_pos (.inl hdi)]
     have ct0:=ct hat bQ;have ct1:=ct hab gL;have ct2:=ct hch gY;repeat' first|((first|refine gK ?_|refine gS ?_);simp only[go_sem,r0,r1,r2,r3,r4,hnl,qs,aC,d1,d2,dd])|refine gA ?_|(refine gD (fun h=>?_) (fun h=>?_)<;>try exact aA h)|fail
     exact cN hb rfl hb.own.symm
    have dd:decide (dir=id)=false:=decide_eq_false hdi
    have hup:=aJk false d.m.log.nodes dir (by have:=hs.nodes;omega)
    have hct:=uP false (nM d.m.log.nodes dir) id
    have hca:((nM d.m.log.nodes dir).any fun x=>decide (x=id))=(nM d.m.log.nodes dir).contains id:=by rw[Bool.eq_iff_iff];simp
    cases hin:(nM d.m.log.nodes dir).contains id with
    |true=>
     rw[if_pos (.inr rfl)]
     simp only[hca,hin]at hct
     have ct0:=ct hat bQ;have ct1:=ct hab gL;have ct2:=ct hch gY;have ct3:=ct hup aBB;have ct4:=ct hct lY;repeat' first|((first|refine gK ?_|refine gS ?_);simp only[go_sem,r0,r1,r2,r3,r4,hnl,qs,aC,d1,d2,dd])|refine gA ?_|(refine gD (fun h=>?_) (fun h=>?_)<;>try exact aA h)|fail
     exact cN hb rfl hb.own.symm
    |false=>
     rw[if_neg (by rintro(h|h)<;>contradiction)]
     simp only[hca,hin]at hct
     have ct0:=ct hat bQ;have ct1:=ct hab gL;have ct2:=ct hch gY;have ct3:=ct hup aBB;have ct4:=ct hct lY;repeat' first|((first|refine gK ?_|refine gS ?_);simp only[go_sem,r0,r1,r2,r3,r4,hnl,qs,aC,d1,d2,dd])|refine gA ?_|(refine gD (fun h=>?_) (fun h=>?_)<;>try exact aA h)|fail
     refine bE (zB hb hs (o:=⟨yH,1,id,dir,s,[]⟩) ⟨by have:=aB4 hbv;simp only;omega,by simp⟩ hl) oU ?_
     rintro v H' ⟨rfl,rfl⟩
     simp only[go_sem]
     repeat' first|(refine gS ?_;simp only[go_sem])|refine gA ?_|(refine gD (fun h=>?_) (fun h=>?_)<;>try exact aA h)|fail
     exact cN hb rfl rfl
  ·have hd:decide (f=0)=false:=decide_eq_false hf
   simp only[if_neg hf]
   have ct0:=ct hat bQ;have ct1:=ct hab gL;repeat' first|((first|refine gK ?_|refine gS ?_);simp only[go_sem,r0,r1,r2,r3,r4,hnl,qs,aC,d1,d2,hd])|refine gA ?_|(refine gD (fun h=>?_) (fun h=>?_)<;>try exact aA h)|fail
   exact cN hb rfl hb.own.symm
 ·have hd:decide (e=0)=false:=decide_eq_false he
  simp only[if_neg he]
  have ct0:=ct hat bQ;repeat' first|((first|refine gK ?_|refine gS ?_);simp only[go_sem,r0,r1,r2,r3,r4,hnl,qs,aC,d1,d2,hd])|refine gA ?_|(refine gD (fun h=>?_) (fun h=>?_)<;>try exact aA h)|fail
  exact cN hb rfl hb.own.symm
end Go.Proofs.YthhdnjiodklmmaaGreatDoor
