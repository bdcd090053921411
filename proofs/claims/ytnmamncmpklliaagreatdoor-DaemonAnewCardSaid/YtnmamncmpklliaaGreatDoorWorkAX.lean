/- What the functions of this seat answer (24 of 53). No condition. -/
import Derived.Test.YtnmamncmpklliaaGreatDoorWorkAW
set_option linter.unusedSimpArgs false
set_option linter.unusedVariables false
set_option maxRecDepth 100000
set_option maxHeartbeats 16000000
namespace Go.Proofs.YtnmamncmpklliaaGreatDoor
variable{d:ft}
structure GF (w:bO):Prop where
 bM:eY w.bw
 tq:0<=w.seq/\w.seq<=1000
 qE:0<=w.next/\w.next<=1000001
 uc:0<=w.end_/\w.end_<=65536
 wt:w.waits.length<=1000000
 sp:0<=w.eo/\w.eo<=1000001
 wl:∀p∈w.waits,p.length<=1073741824
 uF:0<=w.fg/\w.fg<=1000001
theorem xw(t:ag)(off:Nat)(s:ag):(iD t off s).length=t.length:=by
 unfold iD;simp only[bF,eK,fT];omega
theorem FE(h:eY d)(a n:Nat)(U:((a+n:Nat):Int)<=d.size):(jr d a n).length=n * 16:=by
 have hs:=h.size;have key:∀(l:List gA) (t:ag),(l.foldl (xO a n) t).length=t.length:=by
  intro l;induction l with
  |nil=>intro t;rfl
  |cons p l J=>
   intro t;rw[mG,J];unfold xO;split
   ·exact xw _ _ _
   ·rfl
 rw[Wf,key,eK,fT];omega
theorem DN(h:eY d):eY (lM d):=by
 refine⟨?_,by simp[lM]⟩
 have hs:=h.size;have hl:=FE h 0 d.size.toNat iV
 unfold n0 lM;simp only[cV,gU,List.all_nil,and_true];omega
theorem Js(w:bO)(a:Nat)(s:ag):∃d:ft,(gd w a s).1={w with bw:=d}/\d.size=w.bw.size:=by
 unfold gd oZ
 (repeat' split)<;>exact⟨_,rfl,rfl⟩
theorem N6(n:Int)(p:ag):(gG n p).1.length<=1000000:=by
 unfold gG;split
 ·simp
 ·rename_i h;have h1:=oQ (n:=n.toNat) iV
  have h2:=y5 (t:=p) iV
  have h3:(o3 (ct n.toNat++gF p)).length<=40022:=by unfold o3;rw[bF,bF];have:(u9 (tI<|ct n.toNat++gF p)).length=4:=rfl;omega
  have h4:=y5 (t:=o3 (ct n.toNat++gF p)) iV
  have J:(l1 n.toNat p).length<=40031:=by unfold l1;omega
  show(hg n.toNat p).length<=_;unfold hg;rw[yx _ _ (AL _ _<|bd _),Fq _ _<|bd _];omega
theorem U8(n:Int)(p:ag)(h:(gG n p).2=0):(gG n p).1≠[]:=λe=>by
 unfold gG at h e;split at h
 ·simp at h
 ·rename_i J;rw[aj J]at e;have al:(hg n.toNat p).length=0:=by rw[show hg n.toNat p=[]from e];rfl
  unfold hg at al;rw[yx _ _ (AL _ _<|bd _),Fq _ _<|bd _]at al;have:0<(l1 n.toNat p).length:=by unfold l1 gF ct;simp;omega
  omega
def Ts:List cu:=[.free,.pure 0,.pure 0,.pure 0,.free,.pure 0,.pure 0,.pure 0,.pure 0,.pure 0,.free,.pure 0,.pure 0,.pure 0,.pure 0,.free,.pure 0,.free,.eff [false,true,true,true,true,true,true,true,true,true,false,true,true],.free]
def Tt:List cu:=[.free,.free,.free,.free,.pure 0,.pure 0,.pure 0,.pure 0,.free,.pure 0,.pure 0,.pure 0,.pure 0,.pure 0,.pure 0,.pure 0,.pure 0,.eff [false,true,true,true,false,true,true,true,false,true,true,true],.pure 0,.pure 0,.pure 0,.eff [false,true,true,false,false,true,true,true,true,false,false,false],.pure 0,.pure 0,.pure 0,.eff [false,true,true,false,false,false,false,false,false]]
attribute [go_sem] Ts Tt
theorem aJn(f g:Bool)(w:bO)(hw:GF w)(s:ag)(hs:s.length<=1073741824)(H:ab):
  aM Tryz.prog 82 [dN f g w,.str s] H (.aQ [dN false false (rB w s).1,.int .i64 (rB w s).2]):=by
 refine aZ Tryz.func82 ?_;unfold rB;by_cases h1:w.marked=0
 ·have d1:decide (w.marked=0)=true:=cD h1;rw[aj (by simpa using h1)]
  by_cases h2:200<=w.seq
  ·have d2:decide (200<=w.seq)=true:=cD h2;rw[aA h2];repeat' first|(refine ae ?_;simp only[go_sem,dN,d1,d2])|refine ao ?_|fail
   exact aV<|pq f g w 193
  ·have d2:decide (200<=w.seq)=false:=bN h2;rw[aj h2];obtain⟨n,af⟩:∃n:Nat,w.next=n:=⟨w.next.toNat,by have:=hw.qE;omega⟩
   have Mk:n<=1000001:=by have:=hw.qE;omega
   have hm:=Xe n iV s hs
   rw[<-af]at hm;rw[show w.next.toNat=n by omega]
   by_cases h3:40000<(hf n s).length
   ·simp only[aA h3]at hm;rw[aA h3];simp only[dN];repeat' first|(refine ae ?_;simp only[go_sem,d1,d2])|refine ao ?_|fail
    exact aV<|pq f g w 130
   ·simp only[aj h3]at hm;rw[aj h3];simp only[dN];have ad:=Ks (w.seq+1) (hf n s) iV
    have K:IntKind.i64.wrap (w.seq+1)=w.seq+1:=by have:=hw.tq;exact bI
    have hsz:=hw.bM.size;obtain⟨z,aT⟩:∃z:Nat,w.bw.size=z:=⟨w.bw.size.toNat,iV⟩
    have h7:=F5 z iV
    rw[<-aT]at h7;rw[show w.bw.size.toNat=z by omega]
    have ek:(gG (w.seq+1) (hf n s)).1.length<=1000000:=N6 _ _;obtain⟨q,aJ⟩:∃q,gG (w.seq+1) (hf n s)=q:=⟨_,rfl⟩;rw[aJ]at ad ek ⊢;obtain⟨T,e⟩:=q;simp only at ad ek ⊢;by_cases h4:e=0
    ·subst h4;rw[aj kk]
     have EO:IntKind.i64.wrap ((T.length:Int).tdiv 16)=((T.length / 16:Nat):Int):=by rw[zk iV,bI];omega
     by_cases b4:bj z<T.length / 16
     ·have d5:decide ((bj z:Int)<((T.length / 16:Nat):Int))=true:=cK;rw[aA b4];repeat' first|(refine ae ?_;simp only[go_sem,d1,d2,K,EO,d5])|refine ao ?_|fail
      exact aV<|pq f g w 120
     ·have d5:decide ((bj z:Int)<((T.length / 16:Nat):Int))=false:=cQ;rw[aj b4];repeat' first|(refine ae ?_;simp only[go_sem,d1,d2,K,EO,d5])|refine ao ?_|fail
      refine dU (FR f g w _) aK ?_;rintro v H' ⟨rfl,rfl⟩;simp only[go_sem];refine aW ?_;have vJ:∀A B C,dD (H.length+3) f g w (H++[A,B,C,.cells 0<|im f g w (H.length+4),.cells 0 [.ref (H.length+3) 0 0]]):=λA B C=>⟨nb,nb⟩
      refine dU (U6 (vJ _ _ _) hw.bM) aK ?_;rintro v H' ⟨rfl,rfl⟩;simp only[go_sem,im];have U:(eB w).seq=w.seq:=by unfold eB;split<;>rfl
      have mu:(eB w).next=w.next:=by unfold eB;split<;>rfl
      have mv:(eB w).waits=w.waits:=by unfold eB;split<;>rfl
      have O:(eB w).bw.size=w.bw.size:=by unfold eB;split<;>rfl
      obtain⟨q,Ip⟩:∃q:Nat,w.seq+1=q:=⟨(w.seq+1).toNat,by have:=hw.tq;omega⟩
      have aXQ:q<=1000:=iV
      have oY:=KF z q iV iV
      rw[<-aT,<-Ip]at oY;rw[show(w.seq+1).toNat=q by omega]
      have V:dT z q<=1000000:=by unfold dT bj;split<;>omega
      have ed:eY (eB w).bw:=by
       unfold eB;split
       ·exact DN hw.bM
       ·exact hw.bM
      obtain⟨J,fH⟩:∃J,eB w=J:=⟨_,rfl⟩;rw[fH]at U O mu mv ed ⊢;repeat' first|((first|refine mx [15] Ts ?_|refine mx [18] Tt ?_|refine ae ?_);simp only[go_sem,U,O,K])|refine ao ?_|fail
      have Ib:∀F A B C,dD (H.length+3) F g J (H++[A,B,C,.cells 0<|im F g J (H.length+4),.cells 0 [.ref (H.length+3) 0 0]]):=λF A B C=>⟨nb,nb⟩
      have l5:=λF A B C=>F4 (Ib F A B C) ed (dT z q) T iV V
      simp only[im,U,O]at l5;refine CV (l5 (f||w.iy) _ _ _) (by exact aK) ?_
      simp only[go_sem];obtain⟨d2,Z,gl⟩:=Js J (dT z q) T;obtain⟨X,cS⟩:∃X,gd J (dT z q) T=X:=⟨_,rfl⟩;rw[cS]at Z ⊢;obtain⟨dE,al⟩:=X;simp only at Z ⊢;subst Z;refine⟨⟨by simp only[U],by simp only[gl,O]⟩,?_⟩
      by_cases I:al=0
      ·subst I;rw[aj kk]
       repeat' first|((first|refine mx [15] Ts ?_|refine mx [18] Tt ?_|refine ae ?_);simp only[go_sem,U])|refine ao ?_|fail
       rw[<-mu,<-mv,<-U];exact aV<|pq false g {J with bw:=d2,marked:=1,fg:=J.next,kQ:=J.waits.length} 0
      ·have d6:decide (al=0)=false:=bN I;rw[aA I];repeat' first|(refine ae ?_;simp only[go_sem,d6])|refine ao ?_|fail
       exact aV<|pq f g w al
    ·have d4:decide (e=0)=false:=bN h4;rw[aA h4];repeat' first|(refine ae ?_;simp only[go_sem,d1,d2,K,d4])|refine ao ?_|fail
     exact aV<|pq f g w e
 ·have d1:decide (w.marked=0)=false:=bN h1;rw[aA h1];refine bP dN.eq_1 ?_;exact aV<|pq f g w 140
end Go.Proofs.YtnmamncmpklliaaGreatDoor
