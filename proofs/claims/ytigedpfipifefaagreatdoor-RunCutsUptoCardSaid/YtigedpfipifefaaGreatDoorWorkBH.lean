/- What the functions of this seat answer (34 of 40). No condition. -/
import Derived.Test.YtigedpfipifefaaGreatDoorWorkBE
set_option linter.unusedSimpArgs false
set_option linter.unusedVariables false
set_option maxRecDepth 100000
set_option maxHeartbeats 16000000
namespace Go.Proofs.YtigedpfipifefaaGreatDoor
theorem aCh{c:Cal}(h1:c.path.length≤1048576)(h2:c.to.length≤1048576)(h3:c.data.length≤1048576)(h4:c.n≤9223372036854775807):(pN c).length≤45+c.path.length+c.to.length+c.data.length:=by
 unfold pN;split
 ·simp
 ·rename_i p hp;have h0:=lJ hp;have a0:=bU (n:=c.kind.toNat) (by omega)
  have a1:=jN (p:=p) (q:=1) (t:=c.path) (by omega)
  have a2:=jN (p:=p) (q:=2) (t:=c.to) (by omega)
  have a3:=jN (p:=p) (q:=4) (t:=c.data) (by omega)
  have a4:(iE p c.n).length≤9:=by
   unfold iE;split
   ·simp
   ·exact bU (by omega)
  simp only[zAa];omega
theorem uJ{o:Ord}(h:gN o=true):o.call.path.length≤1000∧o.call.to.length≤1000∧o.call.data.length≤5000∧o.picks.length≤1000:=by
 unfold gN aDS aNC at h;simp at h;omega
theorem aEl{l:List Ord}{n:Int}(h:vO l n=true):(∀o∈l,gN o=true)∧(l.length:Int)≤n:=by
 unfold vO at h;simp only[zAc,zAx,zAz]at h;exact h
structure OJ (o:Ord):Prop where
 n:o.call.n≤9223372036854775807
 pick:o.pick≤9223372036854775807
theorem yL{o:Ord}(h:gN o=true)(hi:OJ o):OS o:=by
 have:=uJ h;exact⟨by omega,by omega,by omega,hi.n,hi.pick,by omega⟩
theorem OS.om{o:Ord}(h:OS o):OM o:=⟨⟨by have:=h.path;omega,by have:=h.to;omega,by have:=h.data;omega,h.n⟩,h.pick,by have:=h.picks;omega⟩
theorem aCi{o:Ord}(h:gN o=true)(hi:OJ o)(hc:bZ o=true):(nK o).length≤8054:=by
 have hs:=yL h hi;have:=uJ h;have hk:=oN hc;have a0:=bU (n:=o.kind.toNat) (by omega)
 have a1:=aCh hs.path hs.to hs.data hs.n;have a2:=bU (n:=o.pick.toNat) (by have:=hs.pick;omega)
 have a3:=jM (t:=o.picks) (by omega)
 unfold nK;rw[zAa]
 (repeat' split)<;>first|omega|(simp;omega)
theorem aBk:∀(l:List Ord),(∀o∈l,gN o=true)→(∀o∈l,OJ o)→l.all bZ=true→(iJ l).length≤8054 * l.length
 |[],_,_,_=>by simp[iJ]
 |o::l,h,hi,hc=>by
  rw[List.all_cons,zAc]at hc;have:=aBk l (fun x hx=>h x (by simp[hx])) (fun x hx=>hi x (by simp[hx])) hc.2
  have:=aCi (h o (by simp)) (hi o (by simp)) hc.1
  rw[gY,zAa,zAt];omega
theorem yM{r s:Int}{l:List Ord}{w:Txt}(h:eD r s l=some w)(hf:vO l 60=true)(hi:∀o∈l,OJ o):w.length≤1048576:=by
 obtain⟨a1,a2,a3,a4,a5,rfl⟩:=jL h;obtain⟨h1,h2⟩:=aEl hf;have:=aBk l h1 hi a5;have:=bU (n:=r.toNat) (by omega)
 have:=bU (n:=s.toNat) (by omega)
 simp only[zAa];omega
theorem yN:∀(k:Nat) (b:Txt) (l:List Ord),b.length≤1048576→eI k b=some l→(∀o∈l,OS o)∧l.length≤b.length
 |0,b,l,_,h=>by
  rw[eI]at h;split at h
  ·cases h;exact⟨fun o ho=>(by cases ho),by simp⟩
  ·cases h
 |k+1,b,l,hb,h=>by
  rw[eI]at h;split at h
  ·cases h;exact⟨fun o ho=>(by cases ho),by simp⟩
  ·simp only[zAQ,zAy,zBc]at h;obtain⟨o,r,h1,m,h2,rfl⟩:=h;obtain⟨e1,e2,e3⟩:=gX h1 (by omega)
   obtain⟨i1,i2⟩:=yN k r m (by omega) h2
   refine⟨fun x hx=>?_,by rw[zAt];omega⟩
   rcases zAC.1 hx with rfl|hx
   ·exact yK h1 hb
   ·exact i1 x hx
theorem aEm{b:Txt}{r s:Int}{l:List Ord}(hb:b.length≤1048576)(h:cW b=some (r,s,l)):(∀o∈l,OS o)∧l.length≤b.length∧r≤9223372036854775807∧s≤9223372036854775807:=by
 unfold cW at h;simp only[zAQ,zBc]at h;obtain⟨x,r0,h0,y,r1,h1,m,h2,h3⟩:=h;split at h3
 ·cases h3;have e0:=bR h0;have e1:=bR h1;obtain⟨a,b⟩:=yN _ _ _ (by omega) h2
  exact⟨a,by omega,(jK h0).2,(jK h1).2⟩
 ·cases h3
theorem oQ(o:Option Txt):∃w e,rW o=.tup [.str w,.int .i64 e]∧(o=none∧w=[]∧e=240∨o=some w∧e=0):=by
 cases o with
 |none=>exact⟨_,_,rfl,.inl ⟨rfl,rfl,rfl⟩⟩
 |some w=>exact⟨_,_,rfl,.inr ⟨rfl,rfl⟩⟩
theorem sB(o:Option (Int×Int×List Ord)):∃r s f l e,sA o=.tup [.int .i64 r,.int .i64 s,.sl f (l.map eH),.int .i64 e]∧(o=none∧r=0∧s=0∧l=[]∧e=240∨o=some (r,s,l)∧e=0):=by
 cases o with
 |none=>exact⟨_,_,_,[],_,rfl,.inl ⟨rfl,rfl,rfl,rfl,rfl⟩⟩
 |some p=>exact⟨_,_,_,_,_,rfl,.inr ⟨rfl,rfl⟩⟩
theorem aCj{r s:Int}{l:List Ord}{w:Txt}(h:eD r s l=some w):w≠[]:=by
 obtain⟨-, -, -, -, -,rfl⟩:=jL h;exact aDW _ _
theorem aGF(haw:∀H,bJ Tryz.prog 8 [] H (.bool true))(r s:Int)(f:Bool)(l:List Ord)(b:Txt)(H:AHeap):bJ Tryz.prog 3 [.int .i64 r,.int .i64 s,.sl f (l.map eH),.str b] H (.bool true):=by
 refine uR fun k1 k2 k3 k4=>?_
 have hr:=(mD k1).2;have hs:=(mD k2).2;have hi:∀o∈l,OJ o:=fun o ho=>by
  have:=wJ k3 o ho;exact⟨(mD (this _ (by simp:AV.int .i64 o.call.n∈_))).2,(mD (this _ (by simp:AV.int .i64 o.pick∈_))).2⟩
 refine fO Tryz.func3 ?_;have hf:=aBf f l 60;cases hfw:vO l 60 with
 |false=>
  rw[hfw]at hf;repeat' first|(refine gS ?_;simp only[go_sem])|refine gA ?_|(refine gD ?_ ?_<;>intro h<;>try exact aD h)|fail
  exact cU (.of rfl)
 |true=>
  rw[hfw]at hf;obtain⟨hsh,hln⟩:=aEl hfw;have ho:∀o∈l,OS o:=fun o h=>yL (hsh o h) (hi o h)
  by_cases hb:b.length≤5000
  ·have hd:decide ((5000:Int)<(b.length:Int))=false:=dF;have hw:=lD f r s l hr hs ho (by omega)
   obtain⟨w,e,hwe,hW⟩:=oQ (eD r s l);have hwl:w.length≤1048576:=by
    rcases hW with⟨-,rfl, -⟩|⟨h, -⟩
    ·simp
    ·exact yM h hfw hi
   have h1:=nO w hwl;have h2:=nO b (by omega)
   obtain⟨r1,s1,f1,l1,e1,hr1,hR1⟩:=sB (cW w);obtain⟨r2,s2,f2,l2,e2,hr2,hR2⟩:=sB (cW b);have hb2:r2≤9223372036854775807∧s2≤9223372036854775807∧(∀o∈l2,OS o)∧l2.length≤1048576:=by
    rcases hR2 with⟨-,rfl,rfl,rfl, -⟩|⟨h, -⟩
    ·simp
    ·obtain⟨a1,a2,a3,a4⟩:=aEm (by omega) h
     exact⟨a3,a4,a1,by omega⟩
   have h3:=lD f2 r2 s2 l2 hb2.1 hb2.2.1 hb2.2.2.1 hb2.2.2.2;obtain⟨v,k,hvh,hV⟩:=oQ (eD r2 s2 l2);have h4:=rV f1 f l1 l;rw[hwe]at hw;rw[hr1]at h1;rw[hr2]at h2;rw[hvh]at h3;repeat' first|(refine gS ?_;simp only[go_sem,hd])|refine gA ?_|(refine gD ?_ ?_<;>intro h<;>try exact aD h)|fail
   obtain⟨B0,hB0⟩:∃B0,(decide (0≤r)&&decide (r≤63)&&decide (0≤s)&&decide (s≤1000))=B0:=⟨_,rfl⟩;rw[hB0];refine dU (ι:=Unit) (fun _=>[(0,.int .i64 r),(1,.int .i64 s),(2,.sl f (l.map eH)),(3,.str b),(9,.bool true),(10,.str w),(11,.int .i64 e),(12,.int .i64 r1),(13,.int .i64 s1),(14,.sl f1 (l1.map eH)),(15,.int .i64 e1),(16,.int .i64 r2),(17,.int .i64 s2),(18,.sl f2 (l2.map eH)),(19,.int .i64 e2),(20,.str v),(21,.int .i64 k),(22,.bool (B0&&l.all bZ))]) (fun _=>H) (fun _=>True) ?_ fun _ _=>?_
   ·refine aH (ι:=Nat) (fun i=>[(0,.int .i64 r),(1,.int .i64 s),(2,.sl f (l.map eH)),(3,.str b),(9,.bool true),(10,.str w),(11,.int .i64 e),(12,.int .i64 r1),(13,.int .i64 s1),(14,.sl f1 (l1.map eH)),(15,.int .i64 e1),(16,.int .i64 r2),(17,.int .i64 s2),(18,.sl f2 (l2.map eH)),(19,.int .i64 e2),(20,.str v),(21,.int .i64 k),(22,.bool (B0&&(l.take i).all bZ)),(23,.int .i64 i)]) (fun _=>H) (fun i=>i≤l.length) (fun i=>l.length-i) 0 (zAv _) ?_ rfl ?_
    ·simp[go_sem]
    intro i hil;by_cases hlt:i<l.length
    ·have hp:=bO eH hlt;have hli:decide ((i:Int)<(l.length:Int))=true:=dT;have ho1:=ho _ (zAK hlt);have hk:=fZ l[i] ho1.path ho1.to;have hs1:(B0&&(l.take (i+1)).all bZ)=(B0&&(l.take i).all bZ&&bZ l[i]):=by rw[zAl hlt,zBZ,Bool.and_assoc];simp
     have hw9:=cA hlt (by omega)
     generalize l[i]=o at *;cases hZ:(B0&&(l.take i).all bZ)with
     |false=>
      rw[hZ]at hs1;repeat' first|(refine gS ?_;simp only[go_sem,hp,hli,hZ])|refine gA ?_|(refine gD ?_ ?_<;>intro h<;>try exact aD h)|fail
      exact⟨i+1,hlt,by omega,by rw[hs1];simp,zA5 _ hw9⟩
     |true=>
      rw[hZ]at hs1;simp only[eH]at hk;repeat' first|(refine gS ?_;simp only[go_sem,hp,hli,hZ,eH])|refine gA ?_|(refine gD ?_ ?_<;>intro h<;>try exact aD h)|fail
      exact⟨i+1,hlt,by omega,by rw[hs1];simp,zA5 _ hw9⟩
    ·have hie:i=l.length:=by omega
     subst hie;repeat' first|(refine gS ?_;simp only[go_sem,hlt])|refine gA ?_|(refine gD ?_ ?_<;>intro h<;>try exact aD h)|fail
     exact⟨(),by rw[zAG]⟩
   ·repeat' first|(refine gS ?_;simp only[go_sem])|refine gA ?_|(refine gD ?_ ?_<;>intro h<;>try exact aD h)|fail
    refine cU (.of (zA5 _ ?_));have hsc:lC r s l=(B0&&l.all bZ):=by rw[←hB0];unfold lC;simp only[Bool.and_assoc]
    rw[lL,hsc]at hW;rw[zAc,zAc];refine⟨⟨?_,?_⟩,?_⟩
    ·rcases hW with⟨-,rfl,rfl⟩|⟨h1,rfl⟩
     ·simp
     ·have hrw:=aAj (fun o h=>(ho o h).om) (by rw[lL,hsc];exact h1)
      rw[hrw]at hR1;rcases hR1 with⟨h, -⟩|⟨h,rfl⟩
      ·cases h
      ·cases h;simp
    ·rcases hW with⟨h1, -,rfl⟩|⟨h1,rfl⟩
     ·cases hq:(B0&&l.all bZ)with
      |false=>rfl
      |true=>rw[hq]at h1;simp at h1
     ·cases hq:(B0&&l.all bZ)with
      |false=>rw[hq]at h1;simp at h1
      |true=>rfl
    ·rcases hR2 with⟨-,rfl,rfl,rfl,rfl⟩|⟨h1,rfl⟩
     ·simp
     ·rw[(xU (by omega) h1).1]at hV
      rcases hV with⟨h, -⟩|⟨h,rfl⟩
      ·cases h
      ·cases h;simp
  ·have hd:decide ((5000:Int)<(b.length:Int))=true:=dT;repeat' first|(refine gS ?_;simp only[go_sem,hd])|refine gA ?_|(refine gD ?_ ?_<;>intro h<;>try exact aD h)|fail
   exact cU (.of rfl)
theorem aGG(haw:∀H,bJ Tryz.prog 8 [] H (.bool true))(r s c:Int)(f:Bool)(l:List Ord)(hos:∀o∈l,OS o)(hll:l.length≤1048576)(H:AHeap):
  bJ Tryz.prog 6 [.int .u8 r,.int .u16 s,.sl f (l.map eH),.int .u16 c] H (.bool true):=by
 refine uR fun k1 k2 k3 k4=>?_
 have hr:=uP k1;have hs:=uP k2;have hc:=uP k4;have hi:∀o∈l,OJ o:=fun o ho=>⟨(hos o ho).n,(hos o ho).pick⟩
 refine fO Tryz.func6 ?_;have hr':0≤r∧r≤255:=hr;have hs':0≤s∧s≤65535:=hs;have hc':0≤c∧c≤65535:=hc;obtain⟨R,hR,hRb⟩:∃R,IntKind.i64.wrap (r.tmod 64)=R∧0≤R∧R≤63:=⟨_,rfl,by rw[zAO hr'.1,wI];omega⟩
 obtain⟨S,hS,hSb⟩:∃S,IntKind.i64.wrap (s.tmod 1001)=S∧0≤S∧S≤1000:=⟨_,rfl,by rw[zAO hs'.1,wI];omega⟩
 have hwc:IntKind.i64.wrap c=c:=wI;have hw:=lD f R S l (by omega) (by omega) hos hll
 obtain⟨w,e,hwe,hW⟩:=oQ (eD R S l);rw[hwe]at hw;have hf:=aBf f l 60;obtain⟨fw,hfw⟩:∃fw,vO l 60=fw:=⟨_,rfl⟩;rw[hfw]at hf;by_cases hgo:fw=true∧e=0
 ·obtain⟨rfl,rfl⟩:=hgo;have hWs:eD R S l=some w:=by rcases hW with⟨-, -,h⟩|⟨h, -⟩;cases h;exact h
  have hwn:=aCj hWs;have hwl:=yM hWs hfw hi;have hwp:=zAR.2 hwn;have hdn:decide (w=[])=false:=zAh hwn;obtain⟨K,hK,hKl⟩:∃K:Nat,c.tmod (w.length:Int)=(K:Int)∧K<w.length:=by
   refine⟨(c % (w.length:Int)).toNat,?_,?_⟩
   ·have h0:=Int.emod_nonneg c (show(w.length:Int)≠0 by omega)
    have h1:=Int.emod_lt_of_pos c (show(0:Int)<w.length by omega)
    rw[zAO hc'.1];omega
   ·have h0:=Int.emod_nonneg c (show(w.length:Int)≠0 by omega)
    have h1:=Int.emod_lt_of_pos c (show(0:Int)<w.length by omega)
    omega
  have h1:=nO (w.take K) (by rw[zAX];omega)
  obtain⟨r1,s1,f1,l1,e1,hr1,hR1⟩:=sB (cW (w.take K));rw[hr1]at h1;have hkl:(K≤w.length)=True:=zBf (by omega)
  have hw0:¬((w.length:Int)=0):=by omega
  rcases hR1 with⟨-,rfl,rfl,rfl,rfl⟩|⟨hrd,rfl⟩
  ·repeat' first|(refine gS ?_;simp only[go_sem,hR,hS,hwc,hdn,hK,hkl])|refine gA ?_|(refine gD ?_ ?_<;>intro h<;>try exact aD h)|fail
   exact cU (.of (zA5 _ (by simp)))
  ·obtain⟨q1,q2,q3,q4⟩:=aD0 (fun o h=>(hos o h).om) hWs (by omega) hKl hrd
   have hsm:=rV f1 false l1 (l.take l1.length);rw[←q4,zAg rfl]at hsm;have hmn:min (l1.length:Int) (l.length:Int)=(l1.length:Int):=by omega
   have hde:decide ((l1.length:Int)=(l.length:Int))=false:=dF;have hmt:List.take l1.length (l.map eH)=l1.map eH:=by rw[←List.map_take,←q4]
   have hln:(l1.length≤l.length)=True:=zBf (by omega)
   have hdl:decide ((l1.length:Int)<(l.length:Int))=true:=dT;subst q1 q2;repeat' first|(refine gS ?_;simp only[go_sem,hR,hS,hwc,hdn,hK,hkl,hmn,hde,hmt,hln,hdl])|refine gA ?_|(refine gD ?_ ?_<;>intro h<;>try exact aD h)|fail
   exact cU (.of rfl)
 ·repeat' first|(refine gS ?_;simp only[go_sem,hR,hS])|refine gA ?_|(refine gD ?_ ?_<;>intro h<;>try exact aD h)|fail
  ·refine cU (.of (zA5 _ ?_));rcases hW with⟨-,rfl,rfl⟩|⟨h1,rfl⟩
   ·simp
   ·cases fw
    ·simp
    ·exact absurd ⟨rfl,rfl⟩ hgo
  ·exfalso;simp at h;exact hgo ⟨h.1.1,h.1.2⟩
end Go.Proofs.YtigedpfipifefaaGreatDoor
