/- What functions answer. No condition. -/
import Derived.Test.YtnmamncmpklliaaGreatDoorWorkO
import Derived.Test.YtnmamncmpklliaaGreatDoorWorkS
set_option linter.unusedSimpArgs false
set_option linter.unusedVariables false
set_option maxRecDepth 100000
set_option maxHeartbeats 16000000
namespace Go.Proofs.YtnmamncmpklliaaGreatDoor
variable{w:cj}{v:I}{o:Ord}{d:cB}{i b j k:Nat}{f g:Bool}{G H:ab}{l:List bF}{n e s:Int}{t:bF}{u:fk}{cs args:List I}{m:di}{has:Nat->List Int}{P:Program}{T lY:al}{K:I->ab->Prop}
open Go.Proofs.Tryz
def rz(w:cj)(o:bk):cj×Int:=
 if(tQ [] o).2≠0 then(w,(tQ [] o).2)else
 let a:=xS w (tQ [] o).1
 if a.2.2≠0 then(w,a.2.2)else(a.1,0)
def sk(w:cj)(l:List bk):cj×Int:=
 let s:=zv l
 if s.2≠0 then(w,s.2)else
 let m:=uY w s.1
 if m.2≠0 then(w,m.2)else
 let p:=tw<|n7 m.1
 if p.2≠0 then(w,p.2)else(p.1,0)
def u0(w:cj)(l:List bk):cj×Int:=
 let s:=qb w
 if s.2≠0 then sk w l else(n7 s.1,0)
structure gq (w:cj):Prop where
 bO:qM w.bG=true
 lo:w.bG.loose.length<=100000
 cl:w.iQ=false->w.bG.loose=[]
 Bb:w.marked=0
 uS:w.fP=0
 S7:w.lg=0
 u5:0<=w.seq/\w.seq<=201
 qh:1<=w.next/\w.next<=1000001
 uq:0<=w.end_/\w.end_<=65536
 sp:0<=w.eB/\w.eB<=1000000
 wt:(w.waits.length:Int)<w.next
 wl:∀p∈w.waits,p.length<=40000
theorem gq.wP(h:gq w):HD w:=
 ⟨⟨h.bO,oC h.lo⟩,oC h.u5,oC h.qh,h.uq,by have:=h.wt;have:=h.qh;omega,oC h.sp,λp ad=>oC<|h.wl p ad,by rw[h.uS];omega⟩
theorem gq.append(h:gq w)(p:al)(ad:p.length<=40000):gq (xS w p).1:=by
 unfold xS;split
 ·exact h
 ·rename_i J;have:=h.qh;have hw:IntKind.i64.wrap (w.next+1)=w.next+1:=bS;refine⟨h.bO,h.lo,h.cl,h.Bb,h.uS,h.S7,h.u5,⟨by simp only;omega,by simp only;omega⟩,h.uq,h.sp,?_,λq aM=>?_⟩
  ·have:=h.wt;simp only[bw,cd,dZ];omega
  ·rcases fH.1 aM with aM|aM
   ·exact h.wl q aM
   ·rw[dH.1 aM];exact ad
theorem gq.put(h:gq w)(o)(hs:hR o):gq (rz w o).1:=by
 unfold rz;split
 ·exact h
 ·simp only;split
  ·exact h
  ·rename_i h1 h2;by_cases J:40000<(tQ [] o).1.length\/1000000<w.next
   ·unfold xS at h2;rw[aC J]at h2;simp at h2
   ·exact h.append (tQ [] o).1 gf
theorem OL(h:gq w):(gu w).bG.loose=[]/\qM (gu w).bG=true/\(gu w).bG.size=w.bG.size/\(gu w).iQ=false:=by
 unfold gu;cases hd:w.iQ with
 |true=>exact⟨rfl,(Gu h.wP.bO).ok,rfl,rfl⟩
 |false=>exact⟨h.cl hd,h.bO,rfl,hd⟩
theorem Kd(w)(hk:fI w.bG)(a)(s):(gi w a s).1.bG.loose.length<=w.bG.loose.length+65536/\(w.bG.loose.length<=900000->fI (gi w a s).1.bG)/\(gi w a s).1={w with bG:=(gi w a s).1.bG}/\(gi w a s).1.bG.size=w.bG.size:=by
 have hsz:=hk.size;unfold gi;split
 ·rename_i he;unfold pw at he ⊢;split at he
  ·simp at he
  split at he
  ·simp at he
  ·rename_i h1 h2;rw[ar h2];have ad:(qf (a:Int).toNat (jR s)).length=dz s:=by unfold qf jR;simp
   refine⟨j9,λhl=>?_,rfl,rfl⟩;have:=Uv hk a s gf;unfold pw at this;rw[ar h2]at this;exact this
 ·exact⟨Nat.le_add_right _ _,λ_=>hk,rfl,rfl⟩
theorem gq.oT(h:gq w)(hs:(qb w).2=0):gq (n7 (qb w).1):=by
 have a1:=h.wP.bO.size;obtain⟨s1,s2,mb,GR⟩:=OL h;have sync:∀v,fI v.bG->v.marked=0->v.fP=0->v.lg=0->(0<=v.seq/\v.seq<=201)->(1<=v.next/\v.next<=1000001)->(0<=v.end_/\v.end_<=65536)->(0<=v.eB/\v.eB<=1000000)->(v.waits.length:Int)<v.next->(∀p∈v.waits,p.length<=40000)->gq (n7 v):=λv hk m1 m2 m3 O S V Z I z=>by unfold n7 x6;rw[ar (oq m1)];exact⟨(Gu hk).ok,by simp[nR],λ_=>rfl,m1,m2,m3,O,S,V,Z,I,z⟩
 unfold qb at hs ⊢;rw[ar (oq h.Bb)]at hs ⊢;simp only at hs ⊢;split at hs
 ·rename_i e;exact absurd hs e
 rename_i ax;split at hs
 ·simp at hs
 rename_i aq;rw[ar ax,ar aq];split at hs
 ·rename_i aU;rw[aC aU];exact sync w h.wP.bO h.Bb h.uS h.S7 h.u5 h.qh h.uq h.sp h.wt h.wl
 rename_i aU;rw[ar aU];split at hs
 ·rename_i e;exact absurd hs e
 rename_i bf;rw[ar bf];have lK:fI (gu w).bG:=⟨s2,by rw[s1];simp⟩
 obtain⟨cm,U,j3,tq⟩:=Kd (gu w) lK w.end_.toNat (qa (w.eB+1) w.waits).1;have U:=U<|by rw[s1];simp
 have J:∀f:cj->Int,(∀v d b,f {v with bG:=d,iQ:=b}=f v)->f (gu w)=f w:=λf aA=>by unfold gu x6;split<;>first|exact aA _ _ _|rfl
 have g1:=J cj.marked λ_ _ _=>rfl;have g2:=J cj.fP λ_ _ _=>rfl;have g3:=J cj.lg λ_ _ _=>rfl;have g4:=J cj.seq λ_ _ _=>rfl;have g5:=J cj.next λ_ _ _=>rfl;have:=h.qh;have:=h.uq;rw[j3];exact sync _ U (by simp only;rw[g1];exact h.Bb) (by simp only;rw[g2];exact h.uS) (by simp only;rw[g3];exact h.S7) (by simp only;rw[g4];exact h.u5) (by simp only;rw[g5];exact h.qh)
  ⟨by simp only;omega,by simp only;omega⟩ ⟨by simp only;omega,by simp only;omega⟩ (by simp only[g5,dZ];omega) (λp ad=>p2 ad)
theorem JK(w)(f:cj->Int)(J:∀(v) (d) (b),f {v with bG:=d,iQ:=b}=f v):f (gu w)=f w:=by
 unfold gu x6;split
 ·exact J _ _ _
 ·rfl
structure KZ (w v:cj):Prop where
 bO:fI v.bG
 lo:v.bG.loose.length<=65536
 Bb:v.marked=1
 uS:v.fP=w.next
 u5:v.seq=w.seq
 qh:v.next=w.next
 sp:v.eB=w.eB
 wt:v.waits=w.waits
 uq:v.end_=w.end_
 s2:w.seq<200
theorem gq.mark(h:gq w)(s)(hm:(uY w s).2=0):KZ w (uY w s).1:=by
 obtain⟨s1,s2,I,z⟩:=OL h;have S:fI (gu w).bG:=⟨s2,by rw[s1];simp⟩
 unfold uY at hm ⊢;rw[ar (oq h.Bb)]at hm ⊢;split at hm
 ·simp at hm
 rename_i ax;rw[ar ax];split at hm
 ·simp at hm
 rename_i V;rw[ar V];simp only at hm ⊢;split at hm
 ·rename_i e;exact absurd hm e
 rename_i aU;rw[ar aU];split at hm
 ·simp at hm
 rename_i bf;rw[ar bf];split at hm
 ·rename_i e;exact absurd hm e
 rename_i Z;rw[ar Z];obtain⟨O,U,J,tq⟩:=Kd (gu w) S (hV w.bG.size.toNat (w.seq+1).toNat) (hE (w.seq+1)<|nb w.next.toNat s).1;have U:=U<|by rw[s1];simp
 rw[s1]at O;refine⟨U,oq O,rfl,rfl,?_,?_,?_,?_,?_,gf⟩
 ·rw[J];exact JK w cj.seq λ_ _ _=>rfl
 ·rw[J];exact JK w cj.next λ_ _ _=>rfl
 ·rw[J];exact JK w cj.eB λ_ _ _=>rfl
 ·rw[J];exact(by unfold gu;split<;>rfl)
 ·rw[J];exact JK w cj.end_ λ_ _ _=>rfl
theorem KZ.sync{v:cj}(h:gq w)(m:KZ w v):HD (n7 v)/\gq (tw<|n7 v).1/\(tw (n7 v)).2=0:=by
 have hk:=Gu m.bO;have af:=h.qh;have S:=h.wt;have hsz:=hk.size;have V:=h.sp;have Z:=h.u5;have h2:=m.s2;have e:n7 v={v with bG:=nR v.bG,iQ:=false,marked:=2,kept:=max v.eB (v.fP-1)}:=by unfold n7 x6;rw[aC (by rw[m.Bb];decide)]
 have I:bY (nR v.bG).size.toNat<=16384:=by unfold bY;omega
 obtain⟨U,J,O,z⟩:=Kd {v with bG:=nR v.bG,iQ:=false,marked:=2,kept:=max v.eB<|v.fP-1,seq:=v.seq+1,base:=v.fP,end_:=(2 * bY (nR v.bG).size.toNat:Nat),eB:=max v.eB<|v.fP-1,waits:=v.waits.drop (min (max v.lg 0) v.waits.length).toNat} hk (2 * bY (nR v.bG).size.toNat) (fM<|((nR v.bG).size.toNat-2 * bY (nR v.bG).size.toNat) * 16);have J:=J<|by simp[nR]
 rw[e];refine⟨⟨hk,by simp only[m.u5];omega,by simp only[m.qh];omega,?_,by simp only[m.wt];omega,by simp only[m.sp];omega,λp ad=>by rw[m.wt]at ad;have:=h.wl p ad;omega,by simp only[m.uS];omega⟩,?_,?_⟩
 ·simp only[m.uq];exact h.uq
 ·unfold tw;rw[ar (by simp[hk.ok])]
  simp only;rw[O];refine⟨J.ok,e1 U<|show 0+65536<=100000 by omega,nofun,rfl,rfl,rfl,by simp only[m.u5];omega,by simp only[m.qh];omega,by simp only;omega,by simp only[m.sp,m.uS];omega,?_,λp ad=>h.wl p ?_⟩
  ·simp only[m.wt,m.qh,hp];omega
  ·rw[m.wt]at ad;exact zJ ad
 ·unfold tw;rw[ar (by simp[hk.ok])]
theorem gq.vD(h:gq w)(l):gq (sk w l).1:=by
 unfold sk;simp only;split
 ·exact h
 split
 ·exact h
 split
 ·exact h
 exact(KZ.sync h (h.mark _ j9)).2.1
theorem gq.kept(h:gq w)(l):gq (u0 w l).1:=by
 unfold u0;simp only;split
 ·exact h.vD l
 ·exact h.oT j9
theorem gq.eB{w:cj}(h:gq w)(hs:(qb w).2=0):fI (qb w).1.bG/\IntKind.i64.wrap ((qb w).1.fP-1)=(qb w).1.fP-1:=by
 obtain⟨s1,s2,S,V⟩:=OL h;unfold qb at hs ⊢;rw[ar (oq h.Bb)]at hs ⊢;simp only at hs ⊢;split at hs
 ·rename_i e;exact absurd hs e
 rename_i ax;rw[ar ax];split at hs
 ·simp at hs
 rename_i J;rw[ar J];split at hs
 ·rename_i aU;rw[aC aU];exact⟨h.wP.bO,(by rw[h.uS];rfl)⟩
 rename_i aU;rw[ar aU];split at hs
 ·rename_i e;exact absurd hs e
 rename_i bf;rw[ar bf];obtain⟨Z,U,O,I⟩:=Kd (gu w) (⟨s2,by rw[s1];simp⟩) w.end_.toNat (qa (w.eB+1) w.waits).1
 refine⟨U (by rw[s1];simp),?_⟩
 have:(gi (gu w) w.end_.toNat (qa (w.eB+1) w.waits).1).1.fP=0:=by rw[O];exact(JK w cj.fP λ_ _ _=>rfl).trans h.uS
 simp only[this];rfl
theorem XD{o:bk}(h:cp o=true):(jB o).length<=200:=by
 obtain⟨hk,h1,h2,h3,h4⟩:=W9 h;have S:=jq (n:=o.at_.c.toNat) gf;have V:=jq (n:=o.at_.r.toNat) gf;have Z:=jq (n:=o.kind.toNat) gf;have I:=jq (n:=o.node.toNat) gf;unfold cp at h;simp only[dp]at h;have J:=h.2;unfold jB;simp only[bw];by_cases U:o.kind=1
 ·rw[aC U]at J ⊢;unfold vr at J;simp only[dp]at J;have af:=Lc J.1.2;have z:=jq (n:=o.parent.toNat) j9;have O:=kX (t:=o.name) gf;rw[bw];omega
 ·rw[ar U]at J ⊢;unfold w9 at J;simp only[dp,iK]at J;have O:=kX (t:=o.data) gf;omega
theorem aIr(o):(tQ [] o).1.length<=200:=by
 unfold tQ;split
 ·rename_i h;exact XD h
 ·simp
theorem WR:∀(l:List bk),(∀o∈l,cp o=true)->(l.flatMap jB).length<=200 * l.length
 |[],_=>hW
 |o::l,h=>by
  rw[nj,bw,cd];have:=XD<|h o hW
  have:=WR l λx J=>h x j9;omega
theorem VW(w):(gu w).bG.size=w.bG.size:=by unfold gu x6;split<;>rfl
theorem GK(w)(a)(s):(gi w a s).1.bG.size=w.bG.size/\(gi w a s).1={w with bG:=(gi w a s).1.bG}:=by
 unfold gi;split
 ·unfold pw
  (repeat' split)<;>exact⟨rfl,rfl⟩
 ·exact⟨rfl,rfl⟩
theorem XE(w):(n7 w).bG.size=w.bG.size:=by unfold n7 x6;split<;>rfl
theorem aIs(w):(qb w).1.bG.size=w.bG.size:=by
 unfold qb
 (repeat' first|split|simp)<;>first|rfl|exact((GK _ _ _).1.trans (VW w))
theorem aJ5(w)(s):(uY w s).1.bG.size=w.bG.size:=by
 unfold uY
 (repeat' first|split|simp)<;>first|rfl|exact((GK _ _ _).1.trans (VW w))
theorem aJ6(w):(tw w).1.bG.size=w.bG.size:=by
 unfold tw;split
 ·rfl
 ·exact(GK _ _ _).1
theorem aLd(w)(o):(rz w o).1.bG.size=w.bG.size:=by
 unfold rz xS
 (repeat' first|split|simp)<;>rfl
theorem XF(w)(l):(sk w l).1.bG.size=w.bG.size:=by
 unfold sk
 (repeat' first|split|simp)<;>first|rfl|exact((aJ6 _).trans ((XE _).trans (aJ5 _ _)))
theorem aJ7(w)(l):(u0 w l).1.bG.size=w.bG.size:=by
 unfold u0;simp only;split
 ·exact XF w l
 ·exact(XE _).trans<|aIs w
theorem VG(w)(a)(s):(gi w a s).1.bG.loose.length<=w.bG.loose.length+dz s:=by
 unfold gi;split
 ·unfold pw;have ad:(qf (a:Int).toNat (jR s)).length=dz s:=by unfold qf jR;simp
  (repeat' split)<;>first|exact Nat.le_add_right _ _|(simp only[bw];omega)
 ·exact Nat.le_add_right _ _
theorem aJ8{d:gh}(hk:fI d)(hl:d.loose=[])(ay:(j6 d).2.2.2=0):gq (j6 d).1/\(j6 d).1.bG.size=d.size:=by
 have hsz:=hk.size;obtain⟨aW,bA,iv⟩:=Oy d 2;unfold j6 at ay ⊢;simp only at ay ⊢;split at ay
 ·cases ay
 rename_i aM;rw[ar aM];obtain⟨iO,mr⟩:=bA aM;obtain⟨z,aY,a6,bb⟩:=Pa (l5 d (2 * bY d.size.toNat)<|d.size.toNat-2 * bY d.size.toNat).length (l5 d (2 * bY d.size.toNat)<|d.size.toNat-2 * bY d.size.toNat) (mD d 2).2.1;have mB:=Gt hk (2 * bY d.size.toNat) (d.size.toNat-2 * bY d.size.toNat)<|by unfold bY;omega
 have Sn:bY d.size.toNat<=d.size.toNat / 4:=by unfold bY;omega
 have bb:=bb mr;unfold qt at *;generalize nf (l5 d (2 * bY d.size.toNat)<|d.size.toNat-2 * bY d.size.toNat).length (l5 d (2 * bY d.size.toNat)<|d.size.toNat-2 * bY d.size.toNat) (mD d 2).2.1=R at *;obtain⟨rs,c⟩:=R;generalize mD d 2=X at *;obtain⟨q,bs,st⟩:=X;generalize bY d.size.toNat=z4 at *;simp only at *;have O:∀k,dz (fM<|k * 16)=k:=λk=>by unfold dz;rw[Gr];omega
 obtain⟨U,J⟩:∃U:cj,U={bG:=d,seq:=q,base:=bs,next:=bs+rs.length,end_:=(2 * z4+c:Nat),eB:=bs+rs.length-1,kept:=bs+rs.length-1,waits:=[],iQ:=true,marked:=0,fP:=0,lg:=0}:=⟨_,rfl⟩
 rw[<-J];obtain⟨s1,s2⟩:=GK U (2 * z4+c)<|fM ((d.size.toNat-(2 * z4+c)) * 16);have m1:=VG U (2 * z4+c)<|fM ((d.size.toNat-(2 * z4+c)) * 16);have k1:=Pb (w:=U) (by rw[J];exact hk) (2 * z4+c) (fM ((d.size.toNat-(2 * z4+c)) * 16))<|by rw[J,O];simp only;rw[hl];simp;omega
 generalize(gi U (2 * z4+c) (fM<|(d.size.toNat-(2 * z4+c)) * 16)).1=S at *;have d0:U.bG=d:=by rw[J]
 rw[O,d0,hl]at m1;simp only[dZ]at m1;obtain⟨t1,t2⟩:=GK S (hV d.size.toNat (q+1))<|fM (z4 * 16);have m2:=VG S (hV d.size.toNat (q+1))<|fM (z4 * 16);have k2:=Pb k1 (hV d.size.toNat (q+1)) (fM (z4 * 16))<|by rw[O];omega
 generalize(gi S (hV d.size.toNat<|q+1) (fM<|z4 * 16)).1=V at *;rw[O]at m2;refine⟨?_,t1.trans<|s1.trans (by rw[d0])⟩
 have Z:V={U with bG:=V.bG}:=by rw[t2,s2]
 have f:=fun{α:Type} (g:cj->α) (I:∀w d,g {w with bG:=d}=g w)=>(show g V=g U by rw[Z];exact I _ _)
 refine⟨k2.ok,gf,λh=>?_,?_,?_,?_,?_,?_,?_,?_,?_,?_⟩
 ·rw[f cj.iQ λ_ _=>rfl,J]at h;cases h
 ·rw[f cj.marked λ_ _=>rfl,J]
 ·rw[f cj.fP λ_ _=>rfl,J]
 ·rw[f cj.lg λ_ _=>rfl,J]
 ·rw[f cj.seq λ_ _=>rfl,J];simp only;omega
 ·rw[f cj.next λ_ _=>rfl,J];simp only;omega
 ·rw[f cj.end_ λ_ _=>rfl,J];simp only;omega
 ·rw[f cj.eB λ_ _=>rfl,J];simp only;omega
 ·rw[f cj.waits λ_ _=>rfl,f cj.next λ_ _=>rfl,J];simp only[dZ];omega
 ·rw[f cj.waits λ_ _=>rfl,J];intro p ad;cases ad
def jT(f g:Bool)(w:cj):List I:=(ei f g w).cells
theorem Qq(n:Nat)(f g:Bool)(w:cj):ed n (.cells 0<|jT f g w):=λx J=>by simp only[jT,ei,I.cells,db,mh,mj]at J;rcases J with rfl|rfl|rfl|rfl|rfl|rfl|rfl|rfl|rfl|rfl|rfl|rfl|rfl|rfl;all_goals first|exact .int _ _|exact .str _|exact .bool _|exact(b9.sl _ _ λx J=>by obtain⟨y, -,rfl⟩:=bP.1 J;simp only[go_sem]).cl _
theorem aLe(J:az G i=.cells 0 (jT f g w))(hd:gq w)(o:bk)(hs:hR o):
  cV prog 72 [.ref i 0 0,bt o] G (λv H'=>v=.int .i64 (rz w o).2/\H'=an G i (.cells 0<|jT (if(rz w o).2=0 then false else f) (if(rz w o).2=0 then false else g) (rz w o).1)):=by
 refine h9 func72 ?_;have hi:=cZ J trivial;have g1:=bE J trivial;have g4:=hU J trivial;have ad:=YD [] o hs hW;have V:=λv=>Qq G.length false false v;have own:=(kf J trivial).symm;unfold rz;obtain⟨q,aM⟩:∃q,tQ [] o=q:=⟨_,rfl⟩;have O:(tQ [] o).1.length<=1073741824:=oC<|aIr o
 rw[aM]at ad O ⊢;obtain⟨T,e⟩:=q;simp only at ad O ⊢;simp only[bt]at ad ⊢;by_cases he:e=0
 ·subst he;rw[ar hW];have S:=aFB f g w T (oC hd.wP.wt) O;obtain⟨a,Z⟩:∃a,xS w T=a:=⟨_,rfl⟩;rw[Z]at S ⊢;obtain⟨z,n,ax⟩:=a;simp only[ei]at S;simp only[jT,ei,I.cells]at J g1 g4;simp only;by_cases U:ax=0
  ·subst U;rw[ar hW,aC rfl,aC rfl];repeat' first|(refine ae ?_;simp only[go_sem,J,g1,g4])|refine ai ?_|fail
   exact⟨_,_,_,rfl,bc _ _ _,ns<|V z,.cl _<|.int _ _,rfl,rfl⟩
  ·have d1:decide (ax=0)=false:=b0 U;rw[aC U,ar U,ar U];repeat' first|(refine ae ?_;simp only[go_sem,J,g1,g4,d1])|refine ai ?_|fail
   exact⟨G,_,_,rfl,rfl,λ_ _ h=>.inl h,.cl _<|.int _ _,rfl,own⟩
 ·have d1:decide (e=0)=false:=b0 he;rw[aC he,ar he,ar he];repeat' first|(refine ae ?_;simp only[go_sem,d1])|refine ai ?_|fail
  exact⟨G,_,_,rfl,rfl,λ_ _ h=>.inl h,.cl _<|.int _ _,rfl,own⟩
theorem XG(J:az G i=.cells 0 (jT f g w))(hd:gq w)(b:Bool)(l:List bk)(hs:∀o∈l,hR o)(af:l.length<=1000000)(hl:(l.flatMap jB).length<=1000000000):
  cV prog 41 [.ref i 0 0,.sl b<|l.map bt] G (λv H'=>v=.int .i64 (sk w l).2/\H'=an G i (.cells 0<|jT (if(sk w l).2=0 then false else f) (if(sk w l).2=0 then false else g) (sk w l).1)):=by
 refine h9 func41 ?_;have hi:=cZ J trivial;have g1:=bE J trivial;have g4:=hU J trivial;have ad:=aHN l b hs af hl;have eG:=λv=>Qq G.length false false v;have own:=(kf J trivial).symm;unfold sk;have O:(zv l).1.length<=1073741824:=by unfold zv;split<;>simp only[dZ]<;>omega
 obtain⟨q,aM⟩:∃q,zv l=q:=⟨_,rfl⟩;rw[aM]at ad O ⊢;obtain⟨T,e⟩:=q;simp only at ad O ⊢;by_cases he:e=0
 ·subst he;rw[ar hW];have hm:=aIV f g w hd.wP T O;have S:=hd.mark T;obtain⟨V,jO⟩:∃V,uY w T=V:=⟨_,rfl⟩;rw[jO]at hm S ⊢;obtain⟨v,ax⟩:=V;simp only at hm S ⊢;simp only[jT,ei,I.cells]at J g1 g4;simp only[ei]at hm;by_cases U:ax=0
  ·subst U;rw[ar hW];have Z:=S rfl;obtain⟨m1,m2,m3⟩:=Z.sync hd;have C1:=X4 false false v Z.bO (by rw[Z.uS];have:=hd.qh;exact bS)
   have z:=aIW false false (n7 v) m1;rw[m3]at z;rw[m3,ar hW,aC rfl,aC rfl];generalize(tw (n7 v)).1=cY at *;generalize n7 v=c5 at *;simp only[ei]at C1 z;repeat' first|(refine ae ?_;simp only[go_sem,J,g1,g4])|refine ai ?_|fail
   exact⟨_,_,_,rfl,bc _ _ _,ns<|eG cY,.cl _<|.int _ _,rfl,rfl⟩
  ·have d1:decide (ax=0)=false:=b0 U;rw[aC U,ar U,ar U];repeat' first|(refine ae ?_;simp only[go_sem,J,g1,g4,d1])|refine ai ?_|fail
   exact⟨G,_,_,rfl,rfl,λ_ _ h=>.inl h,.cl _<|.int _ _,rfl,own⟩
 ·have d1:decide (e=0)=false:=b0 he;rw[aC he,ar he,ar he];repeat' first|(refine ae ?_;simp only[go_sem,d1])|refine ai ?_|fail
  exact⟨G,[],_,hW,rfl,λ_ _ h=>.inl h,.cl _<|.int _ _,rfl,own⟩
theorem aJ9(J:az G i=.cells 0 (jT f g w))(hd:gq w)(b:Bool)(l:List bk)(hs:∀o∈l,hR o)(af:l.length<=1000000)(hl:(l.flatMap jB).length<=1000000000):
  cV prog 71 [.ref i 0 0,.sl b<|l.map bt] G (λv H'=>v=.int .i64 (u0 w l).2/\H'=an G i (.cells 0<|jT (if(u0 w l).2=0 then false else f) (if(u0 w l).2=0 then false else g) (u0 w l).1)):=by
 refine h9 func71 ?_;have hi:=cZ J trivial;have g1:=bE J trivial;have g4:=hU J trivial;have z:=λf g v=>Qq G.length f g v;have ad:=aHv f g w hd.wP;have aG:∀L,_:=λL=>XG (G:=G++L) (bE J trivial L) hd b l hs af hl;unfold u0;have O:=hd.oT;have U:=X4 false false (qb w).1;obtain⟨q,aM⟩:∃q,qb w=q:=⟨_,rfl⟩;rw[aM]at ad O U ⊢;obtain⟨v,e⟩:=q;simp only at ad O U ⊢;simp only[ei]at ad;have S:=g4;have V:=J;simp only[jT,ei,I.cells]at V g1 g4;by_cases he:e=0
 ·subst he;rw[ar hW,aC rfl,aC rfl];have ev:=O rfl;have Z:=hd.eB<|by rw[aM]
  rw[aM]at Z;have U:=U Z.1 Z.2;generalize n7 v=cY at *;simp only[ei]at U;repeat' first|(refine ae ?_;simp only[go_sem,V,g1,g4])|refine ai ?_|fail
  exact⟨_,_,_,rfl,bc _ _ _,ns<|z false false cY,.cl _<|.int _ _,rfl,rfl⟩
 ·have d1:decide (e=0)=false:=b0 he;rw[aC he];repeat' first|(refine ae ?_;simp only[go_sem,V,g1,g4,d1])|refine ai ?_|fail
  refine c4 (aG _) aI ?_;rintro x H' ⟨rfl,rfl⟩;rw[S];simp only[go_sem];refine a7 ?_;exact⟨_,_,_,rfl,bc _ _ _,ns<|z _ _ _,.cl _<|.int _ _,rfl,rfl⟩
def qn(d:eR)(c:cg):eR×Int×Int:=
 let s:=sa d.c c
 if s.2.2≠0 then(d,0,s.2.2)else({d with c:=s.1},s.2.1,0)
def uQ(d:eR):eR×Int:=
 let s:=sk d.w d.c.ops
 if s.2≠0 then(d,s.2)else({d with w:=s.1},0)
theorem WS(d:eR)(c:cg)(af:d.c.aE.length<=1000)(H:ab):aO prog 27 [ez d,cy c] H (.aN [ez (qn d c).1,.int .i64 (qn d c).2.1,.int .i64 (qn d c).2.2]):=by
 refine bg func27 ?_;have hs:=aIn false false false false false false false false false d.c c af;unfold qn;obtain⟨q,aM⟩:∃q,sa d.c c=q:=⟨_,rfl⟩;rw[aM]at hs ⊢;obtain⟨x,n,e⟩:=q;simp only[nM,jk,lx,cy]at hs ⊢;by_cases he:e=0
 ·subst he;rw[ar hW];repeat' first|((first|refine cI (hs _) ?_|refine ae ?_);simp only[go_sem,fq])|refine ai ?_|fail
  exact aX<|.refl _
 ·have d1:decide (e=0)=false:=b0 he;rw[aC he];repeat' first|((first|refine cI (hs _) ?_|refine ae ?_);simp only[go_sem,fq,d1])|refine ai ?_|fail
  exact aX<|.refl _
theorem XH(d:eR)(hd:gq d.w)(hs:∀o∈d.c.ops,hR o)(af:d.c.ops.length<=1000000)(hl:(d.c.ops.flatMap jB).length<=1000000000)(H:ab):aO prog 19 [ez d] H (.aN [ez (uQ d).1,.int .i64 (uQ d).2]):=by
 refine bg func19 ?_;have J:∀A B,_:=λA B=>XG (i:=H.length+2) (f:=false) (g:=false) (w:=d.w) (G:=H++[A,B,.cells 0<|jT false false d.w]) mZ hd false d.c.ops hs af hl
 unfold uQ;obtain⟨q,aM⟩:∃q,sk d.w d.c.ops=q:=⟨_,rfl⟩;rw[aM]at J ⊢;obtain⟨w,e⟩:=q;simp only[jT,ei,I.cells,ite_self]at J ⊢;refine bL fq.eq_1 ?_;refine c4 (J _ _) aI ?_;rintro v H' ⟨rfl,rfl⟩;simp only[go_sem];by_cases he:e=0
 ·subst he;rw[ar hW];repeat' first|(refine ae ?_;simp only[go_sem])|refine ai ?_|fail
  exact aX<|.refl _
 ·have d1:decide (e=0)=false:=b0 he;rw[aC he];refine hH ?_;exact aX<|.refl _
theorem aIt(J:az G i=.cells 0 (jT f g w))(hd:gq w)(cC:al)(ad:cC.length<=1073741824):
  aO prog 34 [.ref i 0 0,.str cC] G (ha true<|qN w.bG cC):=by
 refine bg func34 ?_;have g1:=bE J trivial;have U:=aIj f hd.wP.bO cC ad;simp only[jT,ei,I.cells]at J g1;simp only[ha]at U ⊢;refine hH ?_;exact aX<|.refl _
theorem aIu{x:bM}(c:eL x)(fV:∀(i:Nat) t,x.aE[i]?=some t->t.ended=false->∃w∈x.t.waits,w.aZ=(i:Int)):∀(m:Nat) (w:dI),w∈x.t.waits->w.lock≠1->x.m.log.nodes.length-dep x.m.log.nodes w.lock<m->
  ∃(j:Nat) (t:bF) (a:Int),x.aE[j]?=some t/\t.done=false/\t.ended=false/\fZ t.call=true/\a∈t.has/\a≠1/\(a=w.lock\/w.lock∈hS x.m.log.nodes a)
 |0,_,_,_,h=>absurd h<|Nat.not_lt_zero _
 |m+1,w,hw,hk,hm=>by
  have O:=c.iX.nodes.lA;obtain⟨i,e,hi,c9,h,S,hl⟩:=c.hN.sw w hw;obtain⟨j,Ax,au,U⟩:=(c.hN.pY h.lock h.aZ).1 S;have ag:=dn au;rw[pA ag,hl]at U;have Z:=c.kt _<|dy ag;generalize x.aE[j]=t at *;have he:t.ended=false:=by
   cases he:t.ended with
   |false=>rfl
   |true=>have:=(Z.ended he).2;rw[this]at U;cases U
  obtain⟨v,aF,bn⟩:=fV j t ag he;have af:=c.wt v aF j bn t ag;obtain⟨-,hd,aYI, -⟩:=Bk O Z af;have J:=uJ x.m.log.nodes t;rw[af]at J;generalize hu:(⟨1,v.lock⟩:fk)=u at J;cases J with
  |none=>cases hu
  |back=>cases hu
  |wait=>cases hu
  |leave=>cases hu
  |plain=>cases hu
  |nE _ _ jy=>exact⟨j,t,w.lock,ag,hd,he,jy,U,hk,.inl rfl⟩
  |walk _ _ _ jy j2 hs=>
   cases hs with
   |root S=>rw[S]at U;cases U
   |pass=>cases hu
   |vD=>cases hu
   |here=>cases hu
   |down here e4 s S ay hs ao eH=>
    simp only[fk.mk.injEq,true_and]at hu;subst hu;rw[S,dH]at U;obtain⟨n,M0,mA,I,aYy⟩:=VO O ao;have z:par x.m.log.nodes v.lock=some w.lock:=by
     unfold par;rw[<-mA,Lg O.cG M0];simp only;rw[ar,I,U];intro e;have ay:=((Z.walk hd j2).2.2.2.2 here (by rw[S];simp)).2.2
     omega
    have aPc:=zC O.wf z;have hle:=B0 O.wf v.lock;obtain⟨Nn,t2,a,aL,aR,bC,cD,ej,kr,V⟩:=aIu c fV m v aF gf gf;refine⟨Nn,t2,a,aL,aR,bC,cD,ej,kr,.inr ?_⟩;have df:=Kk O.wf z;rcases V with V|V
    ·rw[V,df];simp
    ·exact Ug O.wf a v.lock (lU _ V) _ z
structure ot (a b:bF):Prop where
 call:b.call=a.call
 mU:b.mU=a.mU
 ended:a.ended=true->b=a
 done:a.done=true->b.done=true/\b.mark=a.mark/\b.upto=a.upto/\(b.bZ=a.bZ\/a.call.kind=12/\b.bZ={dD with err:=120})
theorem ot.refl(a):ot a a:=⟨rfl,rfl,λ_=>rfl,λh=>⟨h,rfl,rfl,.inl rfl⟩⟩
theorem ot.alike{a b:bF}(h:nn a b)(he:a.ended=true->b=a):ot a b:=⟨h.1,h.2.2.2.2.2.1,he,λhd=>⟨h.2.1.trans hd,h.2.2.2.2.2.2.1,h.2.2.2.1,.inl h.2.2.2.2.1⟩⟩
def lV(l k:List bF):Prop:=k.length=l.length/\∀(i:Nat) t,l[i]?=some t->∃t',k[i]?=some t'/\ot t t'
theorem lV.refl(l):lV l l:=⟨rfl,λi t h=>⟨t,h,ot.refl t⟩⟩
theorem ot.trans{a b d:bF}(h:ot a b)(k:ot b d):ot a d:=by
 refine⟨k.call.trans h.call,k.mU.trans h.mU,λhe=>?_,λhd=>?_⟩
 ·have e:=h.ended he;subst e;exact k.ended he
 ·obtain⟨h1,h2,h3,h4⟩:=h.done hd;obtain⟨k1,k2,k3,k4⟩:=k.done h1;refine⟨k1,k2.trans h2,k3.trans h3,?_⟩;rcases k4 with k4|⟨k4,J⟩
  ·rcases h4 with h4|⟨h4,U⟩
   ·exact .inl<|k4.trans h4
   ·exact .inr ⟨h4,k4.trans U⟩
  ·exact .inr ⟨by rw[<-h.call];exact k4,J⟩
theorem lV.trans{a b d:List bF}(h:lV a b)(k:lV b d):lV a d:=⟨k.1.trans h.1,λi t ag=>by obtain⟨t1,h1,h2⟩:=h.2 i t ag;obtain⟨t2,k1,k2⟩:=k.2 i t1 h1;exact⟨t2,k1,h2.trans k2⟩⟩
theorem Bi(l)(n)(f)(i:Nat):(hx l n f)[i]?=l[i]?.map λt=>if n=i then f t else t:=by
 unfold hx;split
 ·rw[yr];by_cases e:n.toNat=i
  ·have J:n=i:=gf;rw[aC e,aC gf,e,gg,dn gf];simp[J]
  ·have J:¬n=i:=gf;rw[ar e];simp[J]
 ·cases hi:l[i]? with
  |none=>rfl
  |some t=>have:=(cu.1 hi).1;have J:¬n=i:=gf;simp[J]
theorem Dz(l)(n)(f):(hx l n f).length=l.length:=by unfold hx;split<;>simp
theorem Dq{f:bF->bF}(h:∀(i:Nat) t,n=i->l[i]?=some t->ot t (f t)):lV l (hx l n f):=by
 refine⟨Dz _ _ _,λi t ag=>?_⟩;rw[Bi,ag];refine⟨_,rfl,?_⟩;split
 ·rename_i e;exact h i t e ag
 ·exact ot.refl t
theorem O1{who:Nat}(f)(ag:l[who]?=some t)(h:ot t (f t)):lV l (hx l who f):=Dq λi u e hu=>j9
theorem VX(t)(k)(he:t.ended=false):ot t (dE t ⟨1,k⟩):=ot.alike (Zo t k) λh=>j9
theorem WT{w:dI}(h:∀(i:Nat) t,w.aZ=i->l[i]?=some t->t.ended=false):lV l (mc l w):=Dq λi t e ag=>VX t _<|h i t e ag
theorem VY:∀(g:List dI) {l:List bF},(∀w∈g,∀(i:Nat) t,w.aZ=(i:Int)->l[i]?=some t->t.ended=false)->lV l (g.foldl mc l)
 |[],l,_=>lV.refl l
 |w::g,l,h=>by
  have h1:=WT<|h w hW
  refine h1.trans<|VY g λv J i t e ag=>?_
  unfold mc at ag;rw[Bi]at ag;obtain⟨u,hu,U⟩:=gA.1 ag;have:=h v (lU _ J) i u e hu;rw[<-U];split<;>exact this
structure zU (x y:bM):Prop where
 aE:lV x.aE y.aE
 kept:x.g.kept<=y.g.kept
 ops:x.ops<+:y.ops
theorem zU.refl(x):zU x x:=⟨lV.refl _,jU _,oh _⟩
theorem VZ{x:bM}(c:eL x)(who:Nat)(full)(S:iC x.g who=true):zU x (qi full who x):=by
 have U:∀w∈x.g.waits,∀(i:Nat) t,w.aZ=i->x.aE[i]?=some t->t.done=true/\t.ended=false/\t.call.kind=12:=λw hw i t e ag=>by obtain⟨e4,t',lZ,h1,h2,h3,h4, -⟩:=c.oI w hw;have:e4=i:=gf;subst this;rw[ag]at h1;cases h1;exact⟨h2,h3,h4⟩
 obtain⟨V,Z,I⟩:∃w∈x.g.waits,w.aZ=who:=by unfold iC at S;obtain⟨w,h1,h2⟩:=List.any_eq_true.1 S;exact⟨w,h1,nI h2⟩
 have J:∀(t),t.ended=false->ot t (vA x.time t):=λt he=>⟨rfl,rfl,λh=>(by rw[he]at h;cases h),λh=>⟨h,rfl,rfl,.inl rfl⟩⟩
 unfold qi;cases full with
 |true=>
  rw[aC rfl];refine⟨?_,jU _,oh _⟩;refine lV.trans (Dq λi t e ag=>?_) (Dq (f:=λt=>{t with ended:=true,end_:=x.time}) λi t e ag=>?_)
  ·obtain⟨h1,h2,h3⟩:=U V Z i t (by rw[I];exact e) ag
   exact⟨rfl,rfl,λh=>(by rw[h2]at h;cases h),λh=>⟨h,rfl,rfl,.inr ⟨h3,rfl⟩⟩⟩
  ·rw[Bi]at ag;obtain⟨u,hu,O⟩:=gA.1 ag;obtain⟨h1,h2,h3⟩:=U V Z i u (by rw[I];exact e) hu
   refine J t ?_;rw[<-O];split<;>exact h2
 |false=>
  rw[ar ko];refine⟨⟨Ly _ _ _,λj u z=>?_⟩,?_,oh _⟩
  ·show ∃t',(List.foldl (mE x.time) x.aE _)[j]?=some t'/\_;rw[Pd,z];refine⟨_,rfl,?_⟩;split
   ·rename_i I9;obtain⟨w,gI,O⟩:=bP.1 I9;exact J u (U w (mg.1 gI).1 j u O z).2.1
   ·exact ot.refl u
  ·show x.g.kept<=max x.g.kept x.ops.length;omega
theorem WU{x:bM}{who:Nat}(hN:hf x.t x.aE.length (js x.aE))(z:∀w∈x.t.waits,∀(i:Nat) t,w.aZ=i->x.aE[i]?=some t->t.ended=false)(AW:∀(i:Nat) t,x.aE[i]?=some t->t.ended=true->t.done=true):
  ∀(k),k<=x.aE.length->lV x.aE ((List.range k).foldl (lQ who) (x.t,x.aE)).2/\hf ((List.range k).foldl (lQ who) (x.t,x.aE)).1 x.aE.length (js ((List.range k).foldl (lQ who) (x.t,x.aE)).2)/\(∀w∈((List.range k).foldl (lQ who) (x.t,x.aE)).1.waits,w∈x.t.waits)/\∀(i:Nat) t',((List.range k).foldl (lQ who) (x.t,x.aE)).2[i]?=some t'->∃t,x.aE[i]?=some t/\nn t t':=by
 intro k;induction k with
 |zero=>exact λ_=>⟨lV.refl _,hN,λw h=>h,λi t h=>⟨t,h,nn.refl t⟩⟩
 |succ k aB=>
  intro hk;obtain⟨h1,h2,h3,h4⟩:=aB gf;rw[BG,yl];simp only[qC,Hg];generalize(List.range k).foldl (lQ who) (x.t,x.aE)=s at *;have Z:k<s.2.length:=by rw[h1.1];omega
  have O:=dn Z;unfold lQ;rw[ZZ,gg,O,o0];split
  ·rename_i hl;simp only[dp]at hl;obtain⟨d1,d2,d3⟩:=h2.drop (i:=k) gf;obtain⟨u,hu,I⟩:=h4 k _ O;have aT:s.2[k].ended=false:=by
    cases he:s.2[k].ended with
    |false=>rfl
    |true=>
     have:=AW k u hu<|by rw[<-I.2.2.1];exact he
     have V:=hl.2;unfold jS at V;rw[I.2.1,this]at V;simp at V
   have j1:lV s.2 (hx s.2 k pz):=Dq λi t e ag=>by have:i=k:=gf;subst this;rw[O]at ag;cases ag;exact⟨rfl,rfl,λh=>(by rw[aT]at h;cases h),λh=>⟨h,rfl,rfl,.inl rfl⟩⟩
   have J:∀(i) t',(hx s.2 k pz)[i]?=some t'->∃t,x.aE[i]?=some t/\nn t t':=λi t' h=>by
    rw[Bi]at h;obtain⟨v,aF,e⟩:=gA.1 h;obtain⟨t,S,U⟩:=h4 i v aF;refine⟨t,S,?_⟩;rw[<-e];split
    ·exact U.trans ⟨rfl,rfl,rfl,rfl,rfl,rfl,rfl,rfl⟩
    ·exact U
   have Sj:∀w∈(kC s.1 k).2,∃j:Nat,w.aZ=j/\j<(hx s.2 k pz).length:=λw hw=>by obtain⟨j,S,U, -⟩:=d2 w hw;exact⟨j,S,by rw[Dz,h1.1];exact U⟩
   obtain⟨g1,g2,g3⟩:=QQ (kC s.1 k).2 (hx s.2 k pz) Sj;refine⟨(h1.trans j1).trans<|VY _ λw hw i t e ag=>?_,?_,λw hw=>h3 w (d3 w hw).1,λi t' h=>?_⟩
   ·obtain⟨j,S,U,bC,cD, -⟩:=d2 w hw;obtain⟨v,SA,SB⟩:=J i t ag;rw[SB.2.2.1];exact z w (h3 w cD) i v e SA
   ·rw[g2];have:js (hx s.2 k pz)=kW (js s.2) k []:=by
     rw[nz O,x8 Z];rfl
    rw[this];exact d1
   ·obtain⟨t1,cx,a2, -⟩:=g3 i t' h;obtain⟨t,aW,bA⟩:=J i t1 cx;exact⟨t,aW,bA.trans a2⟩
  ·exact⟨h1,h2,h3,h4⟩
theorem aGH{x:bM}{who:Nat}(hN:hf x.t x.aE.length (js x.aE))(J:∀w∈x.t.waits,∀(i:Nat) t,w.aZ=i->x.aE[i]?=some t->t.ended=false)(U:∀(i:Nat) t,x.aE[i]?=some t->t.ended=true->t.done=true):lV x.aE (ED who x).aE:=(WU hN J U _ (bh _)).1
theorem XI{x:bM}(c:eL x){who:Nat}(ag:x.aE[who]?=some t)(r):
  hf (kN who x r).t (kN who x r).aE.length (js (kN who x r).aE)/\(∀w∈(kN who x r).t.waits,∀(i:Nat) t,w.aZ=i->(kN who x r).aE[i]?=some t->t.ended=false)/\∀(i:Nat) t,(kN who x r).aE[i]?=some t->t.ended=true->t.done=true:=by
 refine⟨?_,?_,?_⟩
 ·show hf x.t (hx x.aE who _).length (js<|hx x.aE who _);rw[nz ag,kx,x8<|(cu.1 ag).1,QH (l:=(EP x r t).has)<|(pA ag).trans rfl];exact c.hN
 ·intro w hw i u h hu;have J:(hx x.aE who (EP x r))[i]?=some u:=hu;rw[Bi]at J;obtain⟨v,U,O⟩:=gA.1 J;have:=(Bk c.iX.nodes.lA (c.kt v<|dy U) (c.wt w hw i h v U)).1;rw[<-O];split
  ·exact this
  ·exact this
 ·intro i u h S;have J:(hx x.aE who (EP x r))[i]?=some u:=h;rw[Bi]at J;obtain⟨v,U,O⟩:=gA.1 J;rw[<-O]at S ⊢;split
  ·rfl
  ·rename_i V;rw[ar V]at S;exact((c.kt v (dy U)).ended S).1
theorem V0{x:bM}(c:eL x){who:Nat}(ag:x.aE[who]?=some t)(he:t.ended=false):zU x (tC who t (fX x.m.log.nodes t) x):=by
 have hi:=(cu.1 ag).1;have O:∀{p:Prop},t.ended=true->p:=λh=>by rw[he]at h;cases h
 have V:∀(i:Nat) u,who=(i:Int)->x.aE[i]?=some u->u=t:=λi u e h=>by have:i=who:=gf;subst this;rw[ag]at h;exact(tH h).symm
 have s8:=λw hw i u e hu=>by have af:=c.wt w hw i e u hu;exact(Bk c.iX.nodes.lA (c.kt u<|dy hu) af).1
 generalize hu:fX x.m.log.nodes t=u;obtain⟨a,k⟩:=u;unfold tC;simp only;by_cases k1:a=1
 ·subst k1;rw[aC rfl];unfold BX;split
  ·exact⟨O1 (λt=>dE t ⟨1,k⟩) ag<|VX t k he,jU _,oh _⟩
  ·exact⟨lV.refl _,jU _,oh _⟩
 rw[ar k1];by_cases k2:a=2
 ·subst k2;rw[aC rfl];have Z:lV x.aE (hx x.aE who λt=>dE t ⟨2,k⟩):=Dq λi u e h=>by
   rw[V i u e h];obtain⟨-,a2,a3,a4,a5,mP,K3,K4,a9, -⟩:=JJ t k;exact ot.alike ⟨a2,a3,a4,a5,mP,K3,K4,a9⟩ O
  obtain⟨h1,h2,h3⟩:=VP (c.kt t<|dy ag) (by rw[<-pA ag];exact c.hN.uy who) hu
  obtain⟨-,au⟩:=c.hN.free hi<|by rw[pA ag];exact h2
  unfold BY;cases aA:(fE x.t who k).2 with
  |none=>exact⟨Z,jU _,oh _⟩
  |some j=>
   refine⟨Z.trans<|WT λi u e h=>?_,jU _,oh _⟩
   obtain⟨e4,Ax,dB,aT,AV⟩:=au j aA;rw[Bi]at h;obtain⟨v,aF,aq⟩:=gA.1 h;have:=s8 _ AV i v e aF;rw[<-aq];split
   ·rw[(JJ v k).2.2.2.1];exact this
   ·exact this
 rw[ar k2];by_cases k3:a=3
 ·rw[aC k3];unfold EI;have hd:=by
   have J:=uJ x.m.log.nodes t;rw[hu,k3]at J;generalize S:(⟨3,k⟩:fk)=z at J;cases J with
   |none=>cases S
   |back=>cases S
   |wait=>cases S
   |leave=>cases S
   |plain hd=>exact hd
   |nE hd=>exact hd
   |walk _ hd=>exact hd
  have U:lV x.aE (kN who x<|eM x.m t.call).aE:=Dq λi u e h=>by rw[V i u e h];exact⟨rfl,rfl,O,λh=>by rw[hd]at h;cases h⟩
  have I:x.ops<+:(kN who x (eM x.m t.call)).ops:=List.prefix_append _ _;split
  ·obtain⟨cw,cL,dx⟩:=XI c ag<|eM x.m t.call;exact⟨U.trans<|aGH cw cL dx,jU _,I⟩
  ·exact⟨U,jU _,I⟩
 rw[ar k3];by_cases k4:a=4
 ·rw[aC k4];unfold B9 yB;split
  ·split
   ·exact⟨O1 (λt=>{t with ended:=true,end_:=x.time}) ag ⟨rfl,rfl,O,λh=>⟨h,rfl,rfl,.inl rfl⟩⟩,jU _,oh _⟩
   ·exact zU.refl x
  ·split
   ·exact⟨lV.refl _,jU _,oh _⟩
   ·exact⟨lV.refl _,jU _,oh _⟩
 rw[ar k4];by_cases gQ:a=5
 ·rw[aC gQ];unfold Et;exact⟨O1 (λt=>{dE t ⟨5,0⟩with end_:=x.time}) ag ⟨rfl,rfl,O,λh=>⟨h,rfl,rfl,.inl rfl⟩⟩,jU _,oh _⟩
 ·rw[ar gQ];exact zU.refl x
theorem eL.goes{x:bM}(c:eL x)(p)(full):zU x (mJ x p full):=by
 unfold mJ;cases ad:wL x p with
 |none=>exact zU.refl x
 |some who=>
  obtain⟨t,ag,he,hw, -⟩:=P1<|Pc ad;simp;unfold AF;have J:x.aE.getD who (so eK)=t:=j9;rw[J];cases U:iC x.g who with
  |true=>have:=VZ c.tick who full U;exact⟨this.1,this.2,this.3⟩
  |false=>have:=V0 c.tick ag he;exact⟨this.1,this.2,this.3⟩
def UQ:List cK:=[.aQ,.ah 0,.ah 0,.ah 0,.ah 0,.aQ,.aQ,.ah 0,.ah 0,.ah 0,.ah 0,.ah 0,.ah 0,.bW [false,true]]
def UR:List cK:=[.aQ,.ah 0,.ah 0,.ah 0,.ah 0,.aQ,.ah 0,.ah 0,.ah 0,.aQ,.ah 0,.ah 0,.ah 0,.ah 0,.aQ,.ah 0,.ah 0,.ah 0,.ah 0,.ah 0,.aQ,.ah 0,.ah 0,.ah 0,.ah 0,.ah 0,.bW []]
def US:List cK:=[.aQ,.ah 0,.ah 0,.ah 0,.ah 0,.ah 0,.ah 0,.aQ,.ah 0,.ah 0,.ah 0,.ah 0,.ah 0,.ah 0,.ah 0,.ah 0,.ah 0,.ah 0,.ah 0,.bW []]
attribute [go_sem] UQ UR US
theorem O2{who:Int}{x:bM}(J:hr i j who u x G)(hl:x.aE.length<=40)(n:Int):sO prog 168 [.int .i64 n] i j who u {x with aE:=mE x.time x.aE n} G:=by
 refine h9 func168 ?_;have Z:=nB [(2,UQ)];have U:=J.aW;have O:=bE J.aW trivial;have I:=J.bA;have z:=bE J.bA trivial;have a6:=J.a6;have bb:=J.bb;have dm:=J.dm;have ey:=J.ey;simp only[fc]at U O dm ey;have bI:=uZ J.eV J.fF J.ne;have ig:=en (enc:=aZ) (s:=18) (λ_=>rfl) x.aE;unfold mE hx;by_cases ay:0<=n
 ·have d0:decide (0<=n)=true:=dr ay;by_cases h1:n<x.aE.length
  ·have d1:decide (n<(x.aE.length:Int))=true:=dr h1;obtain⟨k,rfl⟩:∃k:Nat,n=(k:Int):=⟨n.toNat,gf⟩;have hk:k<x.aE.length:=gf;rw[aC ⟨ay,h1⟩,h5,gg,dn hk,o0];have cw:=Bg (enc:=aZ) (s:=18) (f:=8) (X:=[.bool true]) (λ_=>rfl) hk ko {x.aE[k]with ended:=true} rfl
   have S:=Bg (enc:=aZ) (s:=18) (f:=12) (X:=[.int .i64 x.time]) (D:=x.aE.set k {x.aE[k]with ended:=true}) (k:=k) (λ_=>rfl) (by rw[kx];exact hk) hW {x.aE[k]with ended:=true,end_:=x.time} (by rw[Hc];rfl)
   rw[List.set_set]at S;have cH:(aV aZ (x.aE.set k {x.aE[k]with ended:=true})).length=x.aE.length * 18:=by rw[en (enc:=aZ) (s:=18) (λ_=>rfl),kx]
   have V:k * 18+13<=x.aE.length * 18:=gf;have hX:(k * 18+13<=x.aE.length * 18)=True:=b1 V;have a1:((0:Int)<=(k:Int)/\(k:Int)<(x.aE.length:Int))=True:=b1 ⟨ay,h1⟩;refine bL @bc ?_;exact KH J<|J.aE hW
  ·have d1:decide (n<(x.aE.length:Int))=false:=b0 h1;rw[ar (λh=>h1 h.2)];refine bL @bc ?_;exact KH J J.own.symm
 ·have d0:decide (0<=n)=false:=b0 ay;rw[ar (λh=>ay h.1)];refine bL @bc ?_;exact KH J J.own.symm
theorem J6{who:Nat}{x:bM}(J:hr i j who u x G)(hl:x.aE.length<=40)(ag:x.aE[who]?=some t)(hs:sN t):sO prog 203 [] i j who u {x with aE:=hx x.aE who λt=>dE t u} G:=by
 refine h9 func203 ?_;have z:=nB [(0,UR)];obtain⟨hk,rfl⟩:=cu.1 ag;rw[nz ag];have U:=J.aW;have O:=bE J.aW trivial;have aY:=J.bA;have ks:=bE J.bA trivial;have a6:=J.a6;have bb:=J.bb;have dm:=J.dm;have ey:=J.ey;simp only[fc]at U O dm ey;have bI:=uZ J.eV J.fF J.ne;have ig:=en (enc:=aZ) (s:=18) (λ_=>rfl) x.aE;have S:=X6 false false false x.aE[who] u hs;have V:=Bt (enc:=aZ) (s:=18) (λ_=>rfl) hk;have Z:=KE (enc:=aZ) (s:=18) (λ_=>rfl) hk<|dE x.aE[who] u
 simp only[aZ,iJ,kT,ru,I.cells]at S V Z;refine bL @bc ?_;exact KH J<|J.aE hW
theorem YW{who:Int}{x:bM}(J:hr i j who u x G)(hl:x.aE.length<=40)(h:dI)(hs:∀t∈x.aE,sN t):sO prog 205 [bB h] i j who u {x with aE:=mc x.aE h} G:=by
 refine h9 func205 ?_;have iy:=nB [(3,US)];obtain⟨U,n⟩:=h;have O:=J.aW;have S:=bE J.aW trivial;have aY:=J.bA;have ks:=bE J.bA trivial;have a6:=J.a6;have bb:=J.bb;have dm:=J.dm;have ey:=J.ey;simp only[fc]at O S dm ey;have bI:=uZ J.eV J.fF J.ne;have ig:=en (enc:=aZ) (s:=18) (λ_=>rfl) x.aE;unfold mc hx;by_cases ay:0<=n
 ·have d0:decide (0<=n)=true:=dr ay;by_cases h1:n<x.aE.length
  ·have d1:decide (n<(x.aE.length:Int))=true:=dr h1;obtain⟨k,rfl⟩:∃k:Nat,n=(k:Int):=⟨n.toNat,gf⟩;have hk:k<x.aE.length:=gf;rw[aC ⟨ay,h1⟩,h5,gg,dn hk,o0];have V:=X6 false false false x.aE[k] ⟨1,U⟩ (hs _ (fQ hk));have Z:=Bt (enc:=aZ) (s:=18) (λ_=>rfl) hk;have z:=KE (enc:=aZ) (s:=18) (λ_=>rfl) hk<|dE x.aE[k] ⟨1,U⟩
   simp only[aZ,iJ,kT,ru,I.cells]at V Z z;refine bL (hj bB.eq_1 @bc) ?_;exact qc J<|J.aE hW
  ·have d1:decide (n<(x.aE.length:Int))=false:=b0 h1;rw[ar (λh=>h1 h.2)];refine bL (hj bB.eq_1 @bc) ?_;exact qc J J.own.symm
 ·have d0:decide (0<=n)=false:=b0 ay;rw[ar (λh=>ay h.1)];refine bL (hj bB.eq_1 @bc) ?_;exact qc J J.own.symm
structure tT (x:bM):Prop where
 n:x.aE.length<=40
 wK:∀t∈x.aE,sN t
 held:x.t.held.length<=1000000
 waits:x.t.waits.length<=1000000
 IM:x.g.waits.length<=1000000
theorem hr.next{who:Int}{x:bM}(h:hr i j who u x G)(J U:bM)(L:ab):fb (fb G i j who u J++L) i j who u U=fb G i j who u U++L:=by rw[(h.put J).pV,h.sq]
def TL:List cK:=[.aQ,.ah 0,.ah 0,.ah 0,.ah 0,.aQ,.ah 0,.ah 0,.ah 0,.aQ,.ah 0,.ah 0,.ah 0,.ah 0,.ah 0,.aQ,.aQ,.aQ,.bW [true,true,true,true,true,true,true,true,true,true,true,true],.bW [],.aQ]
def UT:List cK:=[.aQ,.ah 0,.ah 0,.ah 0,.ah 0,.aQ,.ah 0,.ah 0,.ah 0,.aQ,.ah 0,.ah 0,.ah 0,.ah 0,.ah 0,.aQ,.aQ,.aQ,.aQ,.bW [true,true,true,true,true,true,true,true,true,true,true,true],.bW [],.aQ,.aQ]
def UU:List cK:=[.aQ,.ah 0,.ah 0,.ah 0,.ah 0,.aQ,.ah 0,.ah 0,.ah 0,.aQ,.ah 0,.ah 0,.ah 0,.ah 0,.aQ,.ah 0,.ah 0,.ah 0,.ah 0,.ah 0,.ah 0,.ah 0,.aQ,.aQ,.aQ,.bW [true,true,true,true,true,true,true,true,true,true,true,true,true,true,true,true,true,true],.bW [],.aQ]
def UW:List cK:=[.aQ,.ah 0,.ah 0,.ah 0,.ah 0,.aQ,.ah 0,.ah 0,.ah 0,.aQ,.ah 0,.ah 0,.ah 0,.ah 0,.ah 0,.ah 0,.bW [false,true]]
attribute [go_sem] TL UT UU UW
theorem aKa{who:Nat}{x:bM}(J:hr i j who u x G)(U:tT x)(ag:x.aE[who]?=some t)(hu:u.kind=1):sO prog 171 [] i j who u (BX who u.lock x) G:=by
 refine h9 func171 ?_;have O:=J.aW;have S:=bE J.aW trivial;have V:=J.bA;have Z:=bE J.bA trivial;have a6:=J.a6;have bb:=J.bb;have dm:=J.dm;have ey:=J.ey;simp only[fc]at O S dm ey;have I:=uZ J.eV J.fF J.ne;have z:=aM7 false false x.t who u.lock U.held U.waits;unfold BX;obtain⟨⟨t1,b⟩,aw⟩:∃r,yM x.t who u.lock=r:=⟨_,rfl⟩;rw[aw]at z ⊢;simp only[gp,Fc]at z;have h1:=J.one (x':={x with t:=t1}) rfl
 simp only[fc]at h1;cases b with
 |false=>
  repeat' first|((first|refine mx [0] TL ?_|refine ae ?_);simp only[go_sem,O,S,V,a6,bb,dm,ey,Z,I,bc,h1])|refine ai ?_|fail
  exact qc J rfl
 |true=>
  repeat' first|((first|refine mx [0] TL ?_|refine ae ?_);simp only[go_sem,O,S,V,a6,bb,dm,ey,Z,I,bc,h1])|refine ai ?_|fail
  refine c4 (J6 ((J.put {x with t:=t1}).app _) U.n ag<|U.wK _ (dy ag)) aI ?_
  rintro v H' ⟨rfl,rfl⟩;rw[J.next];simp only[go_sem];repeat' first|(refine ae ?_;simp only[go_sem])|refine ai ?_|fail
  obtain⟨yc,ul⟩:=u;simp only at hu;subst hu;exact qc J rfl
theorem aKb{who:Nat}{x:bM}(J:hr i j who u x G)(U:tT x)(Z:∀t∈(hx x.aE who λt=>dE t u),sN t)(ag:x.aE[who]?=some t)(hu:u.kind=2):sO prog 172 [] i j who u (BY who u.lock x) G:=by
 refine h9 func172 ?_;have iy:=nB [(0,UT)];have I:=J.aW;have z:=bE J.aW trivial;have aY:=J.bA;have ks:=bE J.bA trivial;have a6:=J.a6;have bb:=J.bb;have dm:=J.dm;have ey:=J.ey;simp only[fc]at I z dm ey;have bI:=uZ J.eV J.fF J.ne;have O:=aMi false false x.t who u.lock U.held U.waits;unfold BY;obtain⟨⟨t1,b⟩,aw⟩:∃r,fE x.t who u.lock=r:=⟨_,rfl⟩;rw[aw]at O ⊢;simp only[gp]at O;have h1:=J.one (x':={x with t:=t1}) rfl
 simp only[fc]at h1;obtain⟨yc,ul⟩:=u;simp only at hu;subst hu;cases b with
 |none=>
  simp only[DO,DP]at O;refine bL @bc ?_;refine c4 (J6 ((J.put {x with t:=t1}).app _) U.n ag<|U.wK _ (dy ag)) aI ?_
  rintro v H' ⟨rfl,rfl⟩;rw[J.next];simp only[go_sem];repeat' first|(refine ae ?_;simp only[go_sem])|refine ai ?_|fail
  exact qc J rfl
 |some n=>
  simp only[o0,wX]at O;refine bL @bc ?_;refine c4 (J6 ((J.put {x with t:=t1}).app _) U.n ag<|U.wK _ (dy ag)) aI ?_
  rintro v H' ⟨rfl,rfl⟩;rw[J.next];have S:=(J.put {x with t:=t1,aE:=hx x.aE who λt=>dE t ⟨2,ul⟩}).app [bD.cells 0 [.sl false (t1.held.map bB),.sl false<|t1.waits.map bB]]
  have V:=S.aW;have bC:=bE V trivial;simp only[fc]at V bC;simp only[go_sem];refine hH ?_;refine c4 (YW S (by simp only[Dz];exact U.n) ⟨ul,n⟩ Z) aI ?_
  rintro v H' ⟨rfl,rfl⟩;rw[J.next];simp only[go_sem];repeat' first|(refine ae ?_;simp only[go_sem])|refine ai ?_|fail
  exact qc J rfl
theorem aKc{who:Nat}{x:bM}(J:hr i j who u x G)(U:tT x)(ag:x.aE[who]?=some t):sO prog 174 [] i j who u (B9 who t x) G:=by
 refine h9 func174 ?_;have z:=nB [(0,UU)];have S:=J.aW;have V:=bE J.aW trivial;have aY:=J.bA;have ks:=bE J.bA trivial;have a6:=J.a6;have bb:=J.bb;have dm:=J.dm;have ey:=J.ey;simp only[fc]at S V dm ey;have bI:=uZ J.eV J.fF J.ne;have O:=aJ3 false x.g who t.upto U.IM;have ig:=en (enc:=aZ) (s:=18) (λ_=>rfl) x.aE;have hk:=(cu.1 ag).1;have oK:(aV aZ x.aE).getD (who * 18+9) .top=.int .i64 t.upto:=by
  unfold aV;rw[gg,Bc (s:=18) (es:=x.aE.map aZ) (k:=who) (j:=9) (e:=aZ t) (x:=.int .i64 t.upto) (λe he=>by(obtain⟨x, -,rfl⟩:=bP.1 he;rfl)) (by rw[nk,ag];rfl) rfl]
  rfl
 have fO:((0:Int)<=(who:Int)/\(who:Int)<(x.aE.length:Int))=True:=b1 ⟨gf,gf⟩;have gl:(who * 18+9<x.aE.length * 18)=True:=b1 gf;unfold B9;obtain⟨⟨t1,b⟩,Z⟩:∃r,yB x.g who t.upto=r:=⟨_,rfl⟩;rw[Z]at O ⊢;simp only[mw]at O;have h1:=J.one (x':={x with g:=t1}) rfl
 have h2:=λL=>bX (J.put {x with g:=t1}).aW trivial L
 simp only[fc]at h1 h2;cases b with
 |false=>refine bL @bc ?_;exact qc J rfl
 |true=>
  refine bL @bc ?_;have I:=(J.put {x with g:=t1}).app [bD.cells 0 [.int .i64 t1.kept,.sl false<|t1.waits.map dR]]
  refine c4 (O2 I U.n who) aI ?_;rintro v H' ⟨rfl,rfl⟩;rw[J.next];simp only[go_sem];repeat' first|(refine ae ?_;simp only[go_sem])|refine ai ?_|fail
  exact qc J rfl
theorem aIv{who:Nat}{x:bM}(U:hr i j who u x G)(O:tT x)(ag:x.aE[who]?=some t)(hu:u=⟨5,0⟩):sO prog 175 [] i j who u (Et who x) G:=by
 subst hu;refine h9 func175 ?_;have iy:=nB [(1,UW)];refine a7 ?_;refine c4 (J6 U O.n ag<|O.wK _ (dy ag)) aI ?_;rintro v H' ⟨rfl,rfl⟩;have hk:=(cu.1 ag).1;unfold Et;rw[nz ag,nz ag];have J:=U.put {x with aE:=x.aE.set who (dE t ⟨5,0⟩)}
 obtain⟨S,V⟩:∃S,fb G i j who ⟨5,0⟩ {x with aE:=x.aE.set who (dE t ⟨5,0⟩)}=S:=⟨_,rfl⟩;rw[V]at J ⊢;have ig:(aV aZ (x.aE.set who<|dE t ⟨5,0⟩)).length=x.aE.length * 18:=by rw[en (enc:=aZ) (s:=18) (λ_=>rfl),kx]
 have Z:=Bg (enc:=aZ) (s:=18) (f:=12) (X:=[.int .i64 x.time]) (D:=x.aE.set who<|dE t ⟨5,0⟩) (k:=who) (λ_=>rfl) (by rw[kx];exact hk) hW {dE t ⟨5,0⟩with end_:=x.time} (by rw[Hc];rfl)
 rw[List.set_set]at Z;have fO:((0:Int)<=(who:Int)/\(who:Int)<(x.aE.length:Int))=True:=b1 ⟨gf,gf⟩;have gl:(who * 18+13<=x.aE.length * 18)=True:=b1 gf;have I:=J.aW;have aY:=J.bA;have z:=λv Y=>dK J.fF<|.cells v Y
 simp only[fc,kx]at I;simp only[go_sem];refine hH ?_;refine KH U ?_;rw[J.aE (l:=x.aE.set who {dE t ⟨5,0⟩with end_:=x.time}) hW,<-V,U.sq]
def JL:List cK:=[.ah 0,.ah 0,.ah 0,.ah 0,.ah 0,.ah 0,.ah 0,.bW [false,true,true,true,true,true,true],.aQ,.bW [true,true,true,true,true,true],.ah 0,.ah 0,.ah 0,.ah 0,.bW [false,true,true,true]]
def JM:List cK:=[.ah 0,.ah 0,.ah 0,.ah 0,.ah 0,.ah 0,.ah 0,.ah 0,.ah 0,.aQ,.ah 0,.ah 0,.bW [false,true]]
def JN:List cK:=[.ah 0,.ah 0,.ah 0,.ah 0,.ah 0,.bW [false,true,true,true]]
def JO:List cK:=[.ah 0,.ah 0,.ah 0,.ah 0,.ah 0,.ah 0,.ah 0,.ah 0,.ah 0,.ah 0,.ah 0,.ah 0,.aQ,.aQ,.aQ,.bW [true,true,true,true,true,true,true,true,true,true,true,true],.bW [],.aQ]
attribute [go_sem] JL JM JN JO
theorem aKd:LM prog 166 dR 2:=(LR 2 [.int .i64 0,.int .i64 0] func166 WQ).o
theorem aEu{X Y:List I}{off:Nat}(hl:X.length=Y.length)(O:off+X.length<=cs.length)(h:∀(i:Nat) (x y:I),X[i]?=some x->Y[i]?=some y->eT x y):∀(i:Nat) (x y:I),(du cs off X)[i]?=some x->(du cs off Y)[i]?=some y->eT x y:=λi x y J U=>by
 rw[Lx O]at J;rw[Lx (by rw[<-hl];exact O),<-hl]at U
 split at J
 ·rename_i hi;rw[aC hi]at U;exact h _ x y J U
 ·rename_i hi;rw[ar hi,J]at U;cases U;exact .refl x
theorem aIw(h1:az G b=.cells 0 [.ref i 0 0])(h2:az G i=.cells 0 cs)(h3:cs.getD 14 .top=.int .i64 n)(h4:14<cs.length)(s:mO):aO prog 165 [dR s,.ref b 0 0] G (.bool<|decide (s.aZ=n)):=by refine bg func165 ?_;have g1:=bE h1 trivial;have g2:=bE h2 trivial;refine bL dR.eq_1 ?_;exact aX<|.refl _
theorem aIx{who:Nat}{x:bM}(J:hr i j who u x G)(a1:tT x)(ag:x.aE[who]?=some t):sO prog 118 [.bool true] i j who u (qi true who x) G:=by
 refine h9 func118 ?_;have iy:=nB [(3,JL),(4,JM),(5,JN),(6,JO)];have hk:=(cu.1 ag).1;have U:=J.aW;have S:=bE J.aW trivial;have Z:=J.bA;have I:=bE J.bA trivial;have a6:=J.a6;have bb:=J.bb;have dm:=J.dm;have ey:=J.ey;simp only[fc]at U S dm ey;have z:=uZ J.eV J.fF J.ne;refine bL @bc ?_;refine qj (WO false x.g.waits (oC a1.IM) _) aI ?_;have eG:=U;have iT:i<G.length:=J.eV;simp only[go_sem,U,S,Z,a6,bb,dm,ey,I,z,bc];repeat' first|(refine ae ?_;simp only[go_sem,U,S,Z,a6,bb,dm,ey,I,z,bc])|refine ai ?_|fail
 refine qj ((aKd x.g.waits (λw=>decide<|w.aZ=(who:Int)) (G.length+1) 1 x.g.waits.length x.g.waits.length rfl (bh _) (oC a1.IM) (λdC=>az dC G.length=.cells 0 [.ref i 0 0]/\az dC i=.cells 0 (fc j who u x)) (λdC b h=>⟨bN h.1 gf b,bN h.2 gf b⟩) (λdC L h=>⟨bX h.1 trivial L,bX h.2 trivial L⟩) _
  (fn:=.func 165) (fs:=[]) (cs:=[.ref G.length 0 0]) mZ (λs dC aP=>Or.inl ⟨aI,aIw aP.1 aP.2 rfl (by simp[fc]) s⟩) ⟨mZ,bX J.aW trivial _⟩).TP hW) aI ?_
 obtain⟨W,gG⟩:∃W,W=x.g.waits.filter λw=> !decide (w.aZ=(who:Int)):=⟨_,rfl⟩;rw[<-gG];simp only[go_sem,U,S,Z,a6,bb,dm,ey,I,z,bc];refine aJr (v:=0) (vb:=1) (s:=2) (lc:=x.g.waits.length) (cs:=(fc j who u x).set 10<|.osl 2 (G.length+1) 1 0 (W.map dR).length x.g.waits.length) (bs:=aV dR W) i (G.length+1) 10 (W.map dR) [] gf (by rw[dq];simp only[go_sem,U,S,Z,a6,bb,dm,ey,I,z,bc];rfl) rfl (by simp only[go_sem,U,S,Z,a6,bb,dm,ey,I,z,bc]) ko (cE _).symm (λe he=>by(obtain⟨x, -,rfl⟩:=bP.1 he;rfl)) ?_
 have h1:=J.one (x':={x with g:={x.g with waits:=W}}) rfl
 simp only[fc]at h1;simp only[fc,go_sem,U,S,Z,a6,bb,dm,ey,I,z,bc,h1];have O:=(J.put {x with g:={x.g with waits:=W}}).app [.cells 0 [.ref i 0 0],.gone]
 have g0:az (fb G i j who u {x with g:={x.g with waits:=W}}++[.cells 0 [.ref i 0 0],.gone]) G.length=.cells 0 [.ref i 0 0]:=by
  have:=Bh G i j who u {x with g:={x.g with waits:=W}}
  rw[<-this];exact uP _ _
 obtain⟨cO,eN⟩:∃cO,fb G i j who u {x with g:={x.g with waits:=W}}++[.cells 0 [.ref i 0 0],.gone]=cO:=⟨_,rfl⟩;rw[eN]at O g0 ⊢;have aW:=O.aW;have bA:=O.bA;have iv:=O.fF;have ig:=en (enc:=aZ) (s:=18) (λ_=>rfl) x.aE;have hX:(who * 18+18<=x.aE.length * 18)=True:=b1 gf;have fO:((0:Int)<=(who:Int)/\(who:Int)<(x.aE.length:Int))=True:=b1 ⟨gf,gf⟩;simp only[fc]at aW bA;have QX:=λv Y=>dK iv<|.cells v Y
 iterate 2 first|((first|refine mx [3] JL ?_|refine mx [4] JM ?_|refine mx [5] JN ?_|refine mx [6] JO ?_|refine ae ?_);simp only[go_sem,aW,bA,QX,g0,ig,hX,fO])|refine ai ?_|fail
 have n2:x.aE[who]=t:=(cu.1 ag).2;obtain⟨V,IX⟩:∃V,x.aE.set who {t with bZ:={dD with err:=120}}=V:=⟨_,rfl⟩;have cH:V.length=x.aE.length:=by rw[<-IX,kx]
 have nw:=Bg (enc:=aZ) (s:=18) (f:=13) (X:=[.int .i64 120,.str [],.sl false [],.int .i64 0,.sl false []]) (λ_=>rfl) hk hW {t with bZ:={dD with err:=120}} (by rw[n2];rfl)
 rw[IX]at nw;refine Lu (v:=1) (cs:=du (aV aZ x.aE) (who * 18+13) [.int .i64 120,.str [],.sl true [],.int .i64 0,.sl true []]) j (aV aZ V) (QX _ _) ?_ ?_ ?_
 ·rw[<-nw,HM (by rw[ig];simp;omega),HM<|by rw[ig];simp;omega]
 ·rw[<-nw];exact aEu rfl (by rw[ig];simp;omega)<|de (.refl _) (de (.refl _) (de (.sl _ _) (de (.refl _) (de (.sl _ _) kZ))))
 have hz:=O.put {x with g:={x.g with waits:=W},aE:=V}
 rw[jd,O.aE cH];have g2:∀dV,az (fb cO i j who u dV) G.length=.cells 0 [.ref i 0 0]:=λdV=>by unfold fb;exact bN (bN g0 (oC J.fF) _) gf _
 have c1:=hz.aW;simp only[fc]at c1;repeat' first|((first|refine mx [3] JL ?_|refine mx [4] JM ?_|refine mx [5] JN ?_|refine mx [6] JO ?_|refine ae ?_);simp only[go_sem,c1,g2])|refine ai ?_|fail
 refine qj (O2 hz (by rw[cH];exact a1.n) who) aI ?_
 rw[O.sq];have iw:=(O.put {x with g:={x.g with waits:=W},aE:=mE x.time V who}).aW
 have xJ:(mE x.time V who).length=x.aE.length:=by unfold mE;rw[Dz,cH]
 simp only[fc,xJ]at iw;simp only[go_sem,iw,g2];repeat' first|(refine ae ?_;simp only[go_sem,iw,g2])|refine ai ?_|fail
 rw[<-eN,J.next];refine qc J ?_;unfold qi;rw[aC rfl,nz ag,IX,gG]
theorem aIy{who:Nat}{x:bM}(J:hr i j who u x G)(I:tT x)(aD:x.ops.length<=1073741824):sO prog 118 [.bool false] i j who u (qi false who x) G:=by
 refine h9 func118 ?_;have iy:=nB [(3,JL),(4,JM),(5,JN),(6,JO)];have bd:=J.aW;have aS:=bE J.aW trivial;have aY:=J.bA;have ks:=bE J.bA trivial;have a6:=J.a6;have bb:=J.bb;have dm:=J.dm;have ey:=J.ey;simp only[fc]at bd aS dm ey;have bI:=uZ J.eV J.fF J.ne;have ki:=aJ4 false x.g x.ops.length I.IM;unfold qi;rw[ar ko];obtain⟨⟨t1,U⟩,aw⟩:∃r,Aj x.g x.ops.length=r:=⟨_,rfl⟩;have b3:U.length<=1000000:=by have:=b7 (λr=>r.2.length) aw;simp only[Aj,dq]at this;rw[<-this];exact e1 (o1 ..) I.IM
 rw[aw]at ki ⊢;simp only[mw]at ki;have h1:=J.one (x':={x with g:=t1}) rfl
 simp only[fc]at h1;refine bL @bc ?_;obtain⟨O,S⟩:∃O,[bD.cells 0 [.ref i 0 0],bD.cells 0 [.int .i64 t1.kept,.sl false<|t1.waits.map dR]]=O:=⟨_,rfl⟩;obtain⟨X,V⟩:∃X:Nat->bM,(λq=>{x with g:=t1,aE:=(U.take q).foldl (mE x.time) x.aE})=X:=⟨_,rfl⟩
 have z:∀q,(X q).aE.length=x.aE.length:=λq=>by rw[<-V];exact Ly _ _ _
 have aOS:∀q,(X q).time=x.time:=λq=>by rw[<-V]
 have g0:∀q,az (fb G i j who u (X q)++O) G.length=.cells 0 [.ref i 0 0]:=λq=>by rw[<-S];exact tl<|Bh ..
 rw[S];refine c7 (ι:=Nat) (λs=>[(2,.ref G.length 0 0),(63,.sl false<|U.map bu),(64,.int .i64 U.length),(65,.int .i64 s)]) (λs=>fb G i j who u (X s)++O) (λs=>s<=U.length) (λs=>U.length-s) 0 (cb _) ?_ (by rw[<-V];rfl) ?_
 ·simp[go_sem]
 rintro q aM;by_cases Z:q<U.length
 ·have bl:decide ((q:Int)<(U.length:Int))=true:=cS;have ad:=ek bu Z;have hw:=eb Z gf;have g1:=g0 q;simp only[bu]at ad;refine hH ?_;refine c4 (O2 ((J.put (X q)).app O) (by rw[z];exact I.n) U[q]) aI ?_
  rintro v H' ⟨rfl,rfl⟩;rw[J.next];simp only[go_sem];refine a7 ?_;refine⟨q+1,Z,gf,b7 _ hw,?_⟩;rw[aOS,<-V];simp only;rw[hc Z,yl];rfl
 ·have l2:q=U.length:=gf;subst l2;have bl:decide ((U.length:Int)<(U.length:Int))=false:=hW;refine hH ?_;refine qc J ?_;rw[<-V];simp only[fe]
theorem aKe(n:Nat)(ay:0<n)(af:n<=1048576)(H:ab):cV prog 234 [.sl true [],.int .i64 n] H (λv H'=>v=.osl 7 H.length 1 0 0 n/\∃cs,cs.length=n * 7/\H'=H++[.cells 1 cs]):=by
 refine mS func234 ?_;have h1:decide ((n:Int)<0)=false:=dA;have h2:decide ((0:Int)<(n:Int))=true:=cS;have h3:IntKind.i64.wrap ((n:Int)-IntKind.i64.wrap 0)=n:=by rw[show IntKind.i64.wrap 0=0 from rfl,bS];omega
 have h4:(n * 72<=140737488355328)=True:=b1 gf;have J:((0:Int)<(n:Int))=True:=b1 gf;have U:IntKind.i64.wrap ((n:Int)-IntKind.i64.wrap (0-0))=n:=h3;repeat' first|(refine ae ?_;simp only[go_sem,h1,h2,h3,h4,J,U,h5,dZ,Int.natCast_zero,vk,Int.toNat_zero,List.take_nil])|refine ai ?_|fail
 refine⟨_,?_,rfl⟩;simp[List.flatMap_replicate,I.cells,List.length_flatten]
theorem aKf(H:ab):aO prog 234 [.sl true [],.int .i64 0] H (.sl true []):=by
 refine bg func234 ?_;have h1:decide ((0:Int)<0)=false:=rfl;have h3:IntKind.i64.wrap ((0:Int)-IntKind.i64.wrap 0)=0:=rfl;have J:IntKind.i64.wrap ((0:Int)-IntKind.i64.wrap (0-0))=0:=rfl;repeat' first|(refine ae ?_;simp only[go_sem,h1,h3,J,h5,dZ,Int.natCast_zero])|refine ai ?_|fail
 exact bJ<|.refl _
theorem OM(l:List bk):∀e∈l.map bt,e.cells.length=7:=λe he=>by(obtain⟨x, -,rfl⟩:=bP.1 he;rfl)
theorem Pr(l:List bk):((l.map bt).flatMap I.cells).all I.one=true:=by
 induction l with
 |nil=>rfl
 |cons x l J=>rw[dO,nj,Hl,J];rfl
theorem Lr{n v lc:Nat}(D:List bk)(af:n<=i)(J:az H i=.cells v cs)(U:cs=aV bt D)(hk:D.length=k):cJ n H (.osl 7 i v 0 k lc) (.sl false<|D.map bt):=
 q8 (es:=D.map bt) (rest:=[]) af J (U.trans (cE _).symm) (by rw[dq,hk]) (λe he=>by(obtain⟨x, -,rfl⟩:=bP.1 he;rfl)) (λe he=>by(obtain⟨x, -,rfl⟩:=bP.1 he;simp only[go_sem]))
theorem aGI(f f1 f2:Bool)(J U:List bk)(h2:J.length<=100000)(h3:U.length<=100000)(H:ab):
  aO prog 207 [.sl f [.sl f1 (J.map bt),.sl f2<|U.map bt]] H (.sl false<|(J++U).map bt):=by
 refine bg func207 ?_;obtain⟨n,af⟩:∃n,J.length+U.length=n:=⟨_,rfl⟩;have dw:IntKind.i64.wrap (0+(J.length:Int))=(J.length:Int):=by rw[bS];omega
 have dQ:IntKind.i64.wrap ((J.length:Int)+(U.length:Int))=(n:Int):=by rw[bS];omega
 have rY:decide ((J.length:Int)<0)=false:=dA;have ie:decide ((n:Int)<0)=false:=dA;have S:IntKind.i64.wrap (0+1)=1:=rfl;have O:IntKind.i64.wrap (1+1)=2:=rfl;repeat' first|(refine ae ?_;simp only[go_sem])|refine ai ?_|fail
 refine sX 3 ?_;unfold pS;repeat' first|(refine ae ?_;simp only[go_sem,dw,rY,S,dQ,ie,O,Int.reduceLT])|refine ai ?_|fail
 have gO:(List.flatMap I.cells (J.map bt)).length=J.length * 7:=en (enc:=bt) (s:=7) (λ_=>rfl) J;have jg:(List.flatMap I.cells (U.map bt)).length=U.length * 7:=en (enc:=bt) (s:=7) (λ_=>rfl) U;by_cases oL:n=0
 ·have ax:J=[]:=iL gf;have Z:U=[]:=iL gf;subst oL ax Z;have aP:=aKf;repeat' first|(refine ae ?_;simp only[go_sem,Int.natCast_zero])|refine ai ?_|fail
  refine sX 3 ?_;unfold pS;repeat' first|(refine ae ?_;simp only[go_sem,S,O,Int.reduceLT,jm])|refine ai ?_|fail
  exact⟨_,_,rfl,Lr (v:=2) (cs:=[]) [] (bh _) mZ rfl rfl,rfl⟩
 refine c4 (aKe n gf gf H) aI λv H' aF=>?_;obtain⟨rfl,cs,ao,rfl⟩:=aF;have V:((0:Nat)=n)=False:=eq_false gf;by_cases lp:J=[]
 ·subst lp;have cH:U.length=n:=oq af;have g1:du cs 0 (List.flatMap I.cells<|U.map bt)=aV bt U:=by
   have:=JZ (A:=[]) (B:=[]) (X:=List.flatMap I.cells (U.map bt)) (C:=cs)<|by rw[jg,ao,cH]
   simpa[aV]using this
  have aL:0<=cs.length:=cb _;simp only[go_sem];repeat' first|(refine ae ?_;simp only[go_sem,V])|refine ai ?_|fail
  refine sX 3 ?_;unfold pS;repeat' first|(refine ae ?_;simp only[go_sem,V,S,O,Int.reduceLT,jm,DQ,List.all_nil,g1,ao])|refine ai ?_|fail
  refine⟨⟨gf,gf,OM _,Pr _⟩,?_⟩;repeat' first|(refine ae ?_;simp only[go_sem,O,Int.reduceLT])|refine ai ?_|fail
  refine⟨_,_,rfl,Lr (v:=1) (cs:=aV bt U) U (bh _) mZ rfl rfl,rfl⟩
 obtain⟨c1,c2,rfl,jt,rX⟩:∃c1 c2,cs=c1++c2/\c1.length=J.length * 7/\c2.length=U.length * 7:=⟨cs.take<|J.length * 7,cs.drop<|J.length * 7,hW,nc,nc⟩;simp only[go_sem];repeat' first|(refine ae ?_;simp only[go_sem,V])|refine ai ?_|fail
 refine sX 3 ?_;unfold pS;repeat' first|(refine ae ?_;simp only[go_sem,V,S,O,Int.reduceLT])|refine ai ?_|fail
 have g1:du (c1++c2) 0 (List.flatMap I.cells<|J.map bt)=aV bt J++c2:=by
  have:=JZ (A:=[]) (B:=c2) (X:=List.flatMap I.cells (J.map bt)) (C:=c1)<|by rw[gO,jt]
  simpa[aV]using this
 rw[g1];rw[bw]at ao;refine⟨⟨gf,gf,OM _,Pr _⟩,?_⟩;have RT:(aV bt J).length=J.length * 7:=gO;by_cases z:U=[]
 ·subst z;have ax:(J.length=n)=True:=b1<|oq af
  have Z:c2=[]:=iL rX;subst Z;have aU:J.length * 72<=140737488355328:=gf;repeat' first|(refine ae ?_;simp only[go_sem,ax,S,O,Int.reduceLT,cE,jm,DQ,dZ,wU,aU,dq,List.all_nil,RT])|refine ai ?_|fail
  refine⟨_,_,rfl,Lr (v:=2) (cs:=aV bt J) J (bh _) mZ rfl rfl,?_⟩;first|rfl|rw[cE]
 ·have Hn:0<U.length:=nH.2 z;have ax:(J.length=n)=False:=eq_false gf;repeat' first|(refine ae ?_;simp only[go_sem,ax,S,O,Int.reduceLT,RT])|refine ai ?_|fail
  have g2:du (aV bt J++c2) (J.length * 7) (List.flatMap I.cells<|U.map bt)=aV bt (J++U):=by
   have:=JZ (A:=aV bt J) (B:=[]) (X:=List.flatMap I.cells (U.map bt)) (C:=c2)<|by rw[jg,rX]
   rw[RT]at this;rw[iP];simpa[aV]using this
  rw[g2];refine⟨⟨gf,gf,OM _,Pr _⟩,?_⟩;repeat' first|(refine ae ?_;simp only[go_sem,O,Int.reduceLT])|refine ai ?_|fail
  exact⟨_,_,rfl,Lr (v:=1) (cs:=aV bt<|J++U) (J++U) (bh _) mZ rfl (by rw[bw]),rfl⟩
theorem XJ(h:l[k]?=some t):List.take 5 (List.drop (k * 18)<|aV aZ l)=(cy t.call).cells:=by obtain⟨hk,rfl⟩:=cu.1 h;have:=b7 (List.take 5)<|Bt (enc:=aZ) (s:=18) (λ_=>rfl) hk;rw[List.take_take]at this;exact this
theorem aIz{f:Nat}{y:I}(h:l[k]?=some t)(J:(aZ t).cells[f]?=some y):(aV aZ l).getD (k * 18+f) .top=y:=by
 unfold aV;rw[gg,Bc (s:=18) (es:=l.map aZ) (k:=k) (j:=f) (e:=aZ t) (x:=y) (λe he=>by(obtain⟨x, -,rfl⟩:=bP.1 he;rfl)) (by rw[nk,h];rfl) J]
 rfl
def TM:List cK:=[.ah 0,.ah 0,.ah 0,.ah 0,.ah 0,.aQ,.ah 0,.ah 0,.ah 0,.ah 0,.ah 0,.aQ,.ah 0,.ah 0,.ah 0,.ah 0,.bW []]
attribute [go_sem] TM
theorem aKg{who:Nat}{x:bM}(O:hr i j who u x G)(aP:az G b=.cells 0 [.ref i 0 0])(hl:x.aE.length<=40)(ag:x.aE[k]?=some t)(ad:t.call.path.length<=1048576):aO prog 235 [.int .i64 k,.ref b 0 0] G (.bool<|B8 who k t):=by
 refine bg func235 ?_;have S:=O.aW;have aY:=O.bA;have hk:=(cu.1 ag).1;have ig:=en (enc:=aZ) (s:=18) (λ_=>rfl) x.aE;have V:=XJ ag;have kJ:=aIz (f:=7) ag rfl;have J:=aMl t.call ad;have fO:((0:Int)<=(k:Int)/\(k:Int)<(x.aE.length:Int))=True:=b1 ⟨gf,gf⟩;have gl:(k * 18+5<=x.aE.length * 18)=True:=b1 gf;have F7:(k * 18+7<x.aE.length * 18)=True:=b1 gf;have Z:(if fZ t.call=false/\hB t.call=true then I.aN [.sl false ((hQ t.call).map I.str),.bool true]else .aN [.sl true [],.bool false])=.aN [(if hB t.call=true then .sl false ((hQ t.call).map I.str)else .sl true []),.bool<|hB t.call]:=by
  cases hw:hB t.call with
  |true=>rw[aC ⟨W8 hw,rfl⟩];rfl
  |false=>rw[ar (λh=>p2 h.2)];rfl
 rw[Z]at J;obtain⟨N,z⟩:∃N,(if hB t.call=true then I.sl false ((hQ t.call).map I.str)else .sl true [])=N:=⟨_,rfl⟩
 rw[z]at J;simp only[fc,cy,I.cells]at S V J;unfold B8;refine hH ?_;have U:decide ((k:Int)=(who:Int))=decide (k=who):=decide_eq_decide.2 gf;exact bJ<|.of (by rw[U])
def hC(who:Nat)(x:bM)(q:Nat):bM:={x with t:=((List.range q).foldl (lQ who) (x.t,x.aE)).1,aE:=((List.range q).foldl (lQ who) (x.t,x.aE)).2}
theorem aFk{who q:Nat}{x:bM}(h:(hC who x q).aE[q]?=some t):hC who x (q+1)=(if B8 who q t=true then{hC who x q with t:=(kC (hC who x q).t q).1,aE:=(kC (hC who x q).t q).2.foldl mc (hx (hC who x q).aE q pz)}else hC who x q):=by unfold hC at *;rw[BG,yl];simp only[qC,Hg]at h ⊢;generalize(List.range q).foldl (lQ who) (x.t,x.aE)=s at *;unfold lQ;rw[gg,h,o0];split<;>rfl
def Ds(x:bM)(k p:Nat):bM:={x with t:=(kC x.t k).1,aE:=((kC x.t k).2.take p).foldl mc (hx x.aE k pz)}
theorem aKh{who:Nat}{x:bM}(J:hr i j who u x G)(n:Nat)(af:x.aE.length=n)(O:∀q,q<=n->tT (hC who x q)/\(hC who x q).aE.length=n)(ad:∀q t,q<n->(hC who x q).aE[q]?=some t->t.call.path.length<=1048576)
  (gl:∀q p,q<n->∀t∈(Ds (hC who x q) q p).aE,sN t) (hd:∀q,q<n->(kC (hC who x q).t q).2.length<=1000000):sO prog 208 [] i j who u (ED who x) G:=by
 refine h9 func208 ?_;have Z:=J.aW;have z:=bE J.aW trivial;have aY:=J.bA;have ks:=bE J.bA trivial;have a6:=J.a6;have bb:=J.bb;have dm:=J.dm;have ey:=J.ey;simp only[fc]at Z z dm ey;have bI:=uZ J.eV J.fF J.ne;have IP:=(O 0 (cb _)).1.n;repeat' first|((first|refine mx [8] TM ?_|refine ae ?_);simp only[go_sem,Z,z,aY,a6,bb,dm,ey,ks,bI,bc])|refine ai ?_|fail
 have SJ:hC who x 0=x:=rfl;rw[af];refine c7 (ι:=Nat×ab) (λs=>[(1,.ref G.length 0 0),(2,.func (.func 235) [] [.ref G.length 0 0]),(14,.int .i64 n),(15,.int .i64 s.1)]) (λs=>fb G i j who u (hC who x s.1)++(.cells 0 [.ref i 0 0]::s.2)) (λs=>s.1<=n) (λs=>n-s.1) (0,[]) (cb _) ?_ (by rw[SJ,J.own]) ?_
 ·simp[go_sem]
 rintro⟨q,L⟩ aM;simp only at aM ⊢;by_cases av:q<n
 ·have bl:decide ((q:Int)<(n:Int))=true:=cS;have hw:IntKind.i64.wrap ((q:Int)+1)=((q+1:Nat):Int):=by rw[wrap_i64 (by have:=O 0<|cb _;have:=this.1.n;have:=(O 0 (cb _)).2;omega) (by have:=(O 0 (cb _)).1.n;have:=(O 0 (cb _)).2;omega)];rfl
  obtain⟨X,dk⟩:∃X,hC who x q=X:=⟨_,rfl⟩;obtain⟨Jw,aPP⟩:=O q aM;have aBN:=ad q;have aCb:=gl q;have RI:=hd q av;rw[dk]at Jw aPP aBN aCb RI;have aX6:=Jw.n;have Si:q<X.aE.length:=gf;have ag:=dn Si;obtain⟨t,aBZ⟩:∃t,X.aE[q]=t:=⟨_,rfl⟩;rw[aBZ]at ag;have RF:=(J.put X).app (.cells 0 [.ref i 0 0]::L);have S:az (fb G i j who u X++(.cells 0 [.ref i 0 0]::L)) G.length=.cells 0 [.ref i 0 0]:=tl<|Bh ..;have AW:=aKg RF S gf ag<|aBN t av ag
  have V:=aFk (who:=who) (x:=x) (q:=q) (t:=t)<|by rw[dk];exact ag
  rw[dk]at V;rw[dk];refine hH ?_;refine pT (first:=[]) (cap:=[.ref G.length 0 0]) AW aI ?_
  rintro v H' ⟨rfl,rfl⟩;cases gP:B8 who q t with
  |false=>rw[gP,ar ko]at V;simp only[go_sem];refine a7 ?_;exact⟨(q+1,L),av,by simp only;omega,b7 _ hw,by simp only[V]⟩
  |true=>
   rw[gP,aC rfl]at V;obtain⟨U,aAX⟩:∃U,fb G i j who u X++(.cells 0 [.ref i 0 0]::L)=U:=⟨_,rfl⟩;rw[aAX]at RF S ⊢;have kI:=J;have J:=RF;have Z:=J.aW;have z:=bE J.aW trivial;have aY:=J.bA;have ks:=bE J.bA trivial;have a6:=J.a6;have bb:=J.bb;have dm:=J.dm;have ey:=J.ey;simp only[fc]at Z z dm ey;have bI:=uZ J.eV J.fF J.ne;have ig:=en (enc:=aZ) (s:=18) (λ_=>rfl) X.aE;have ju:=aIo false false X.t q Jw.held Jw.waits;obtain⟨⟨t1,ps⟩,aw⟩:∃r,kC X.t q=r:=⟨_,rfl⟩;rw[aw]at ju V RI;have s6:=aJf false false false t<|Jw.wK _ (dy ag);have fC:=Bt (enc:=aZ) (s:=18) (λ_=>rfl) Si
   rw[aBZ]at fC;have aj:=KE (enc:=aZ) (s:=18) (λ_=>rfl) Si<|pz t
   simp only[aZ,iJ,kT,gp,I.cells]at s6 fC aj ju;have FE:=bE S trivial;have FF:∀X Y L,az (an (an U j X) i Y++L) G.length=.cells 0 [.ref i 0 0]:=λX Y L=>bX (bN (bN S (oC kI.fF) _) (oC kI.eV) _) trivial L;have aPl:∀Y L,az (an U i Y++L) G.length=.cells 0 [.ref i 0 0]:=λY L=>bX (bN S (oC kI.eV) _) trivial L;have fO:((0:Int)<=(q:Int)/\(q:Int)<(X.aE.length:Int))=True:=b1 ⟨gf,gf⟩;simp only[go_sem];repeat' first|((first|refine mx [8] TM ?_|refine ae ?_);simp only[go_sem,Z,z,aY,a6,bb,dm,ey,ks,bI,bc,S,FE,FF,aPl,ig,fC,aj,fO])|refine ai ?_|fail
   obtain⟨P,iy⟩:∃P:Nat->bM,(λp=>Ds X q p)=P:=⟨_,rfl⟩;have Rt:∀p,(P p).aE.length=X.aE.length:=λp=>by
    rw[<-iy];unfold Ds;simp only;generalize List.take p (kC X.t q).2=l;have:∀(l:List dI) (k:List bF),(l.foldl mc k).length=k.length:=λl=>by
     induction l with
     |nil=>exact λk=>rfl
     |cons w l aB=>intro k;rw[qC,aB];exact Dz _ _ _
    rw[this,Dz]
   have aPm:∀Y L,az (fb U i j who u Y++L) G.length=.cells 0 [.ref i 0 0]:=λY L=>FF _ _ L;have aOI:∀p,p<ps.length->P (p+1)={P p with aE:=mc (P p).aE ps[p]! }:=λp ad=>by rw[<-iy];unfold Ds;simp only[aw];rw[hc ad,yl,getElem!_pos ps p ad];rfl
   refine c7 (ι:=Nat×ab) (λs=>[(1,.ref G.length 0 0),(2,.func (.func 235) [] [.ref G.length 0 0]),(14,.int .i64 n),(15,.int .i64 q),(53,.sl false<|ps.map bB),(54,.int .i64 ps.length),(55,.int .i64 s.1)]) (λs=>fb U i j who u (P s.1)++(.cells 0 [.sl false (t1.held.map bB),.sl false<|t1.waits.map bB]::s.2)) (λs=>s.1<=ps.length) (λs=>ps.length-s.1) (0,[]) (cb _) ?_ ?_ ?_
   ·simp[go_sem]
   ·rw[<-iy];unfold fb fc Ds;simp only[rC,Hg,aw,nz ag,kx]
   rintro⟨p,qF⟩ ad;simp only at ad ⊢;by_cases ji:p<ps.length
   ·have bl:decide ((p:Int)<(ps.length:Int))=true:=cS;have cA:=ek bB ji;have Ng:IntKind.i64.wrap ((p:Int)+1)=((p+1:Nat):Int):=eb ji (by simp only at RI;omega)
    obtain⟨fS,lF⟩:∃fS,fb U i j who u (P p)++(.cells 0 [.sl false (t1.held.map bB),.sl false<|t1.waits.map bB]::qF)=fS:=⟨_,rfl⟩;have vN:=(J.put (P p)).app (.cells 0 [.sl false (t1.held.map bB),.sl false<|t1.waits.map bB]::qF);have RU:=aPm (P p) (.cells 0 [.sl false (t1.held.map bB),.sl false<|t1.waits.map bB]::qF);rw[lF]at vN RU ⊢;have aPn:=bE RU trivial;repeat' first|(refine ae ?_;simp only[go_sem,bl,cA,bB,RU,aPn])|refine ai ?_|fail
    refine c4 (YW (vN.app _) (by rw[Rt];omega) ps[p] (by rw[<-iy];exact aCb p av)) aI ?_
    rintro v H' ⟨rfl,rfl⟩;rw[<-lF,c6,mf,J.next];simp only[go_sem];refine a7 ?_;refine⟨(p+1,qF++[.cells 0 [.int .i64 ps[p].lock,.int .i64 ps[p].aZ]]),ji,by simp only;omega,b7 _ Ng,?_⟩
    rw[aOI p ji,getElem!_pos ps p ji]
   ·have xK:p=ps.length:=gf;subst xK;have bl:decide ((ps.length:Int)<(ps.length:Int))=false:=hW;repeat' first|(refine ae ?_;simp only[go_sem,bl])|refine ai ?_|fail
    have aOH:P ps.length=hC who x (q+1):=by rw[V,<-iy];unfold Ds;simp only[aw,fe]
    refine⟨(q+1,L++(.cells 0 [.sl false (t1.held.map bB),.sl false<|t1.waits.map bB]::qF)),av,by simp only;omega,b7 _ hw,?_⟩
    rw[aOH,<-aAX,kI.next,c6];rfl
 ·have l2:q=n:=gf;subst l2;have bl:decide ((q:Int)<(q:Int))=false:=hW;refine hH ?_;refine qc J ?_;unfold hC ED;rw[af]
structure Uz (who:Nat) (x:bM):Prop where
 z:∀q,q<=x.aE.length->tT (hC who x q)/\(hC who x q).aE.length=x.aE.length
 p:∀q t,q<x.aE.length->(hC who x q).aE[q]?=some t->t.call.path.length<=1048576
 t:∀q p,q<x.aE.length->∀t∈(Ds (hC who x q) q p).aE,sN t
 d:∀q,q<x.aE.length->(kC (hC who x q).t q).2.length<=1000000
theorem aLf{who:Nat}{x:bM}(J:hr i j who u x G)(a1:tT x)(hm:fJ x.m)(ag:x.aE[who]?=some t)(ao:o3 t.call)(hu:u=⟨3,0⟩)(aD:x.ops.length<=10000)(yZ:(eM x.m t.call).2.1.names.length<=1048576/\(eM x.m t.call).2.1.events.length<=1048576)(V:t.call.kind=13->(eM x.m t.call).2.1.err=0->Uz who (kN who x<|eM x.m t.call)):sO prog 173 [] i j who u (EI who t.call x) G:=by
 refine h9 func173 ?_;subst hu;have bd:=J.aW;have aS:=bE J.aW trivial;have aY:=J.bA;have ks:=bE J.bA trivial;have a6:=J.a6;have bb:=J.bb;have dm:=J.dm;have ey:=J.ey;simp only[fc]at bd aS dm ey;have bI:=uZ J.eV J.fF J.ne;have hk:=(cu.1 ag).1;have ig:=en (enc:=aZ) (s:=18) (λ_=>rfl) x.aE;have CE:=XJ ag;have lH:=aM4 false false false false x.m hm t.call ao;unfold EI;obtain⟨⟨m,a,o⟩,aw⟩:∃r,eM x.m t.call=r:=⟨_,rfl⟩;rw[aw]at lH yZ V ⊢;simp only[lf,tr,cy,Fj,Cl,I.cells]at lH CE;have fO:((0:Int)<=(who:Int)/\(who:Int)<(x.aE.length:Int))=True:=b1 ⟨gf,gf⟩;have gl:(who * 18+5<=x.aE.length * 18)=True:=b1 gf;have xJ:o.length<=1000:=by have h1:=QB hm t.call;have h2:=(QY hm t.call).cap;rw[aw]at h1 h2;simp only at h1 h2;omega
 have kj:=aGI true false false x.ops o gf gf;obtain⟨ln,F4⟩:∃ln,{t with bZ:=a}=ln:=⟨_,rfl⟩;obtain⟨ni,F5⟩:∃ni,{ln with mark:=x.time}=ni:=⟨_,rfl⟩;obtain⟨U,SO⟩:∃U,{ni with upto:=((x.ops++o).length:Int)}=U:=⟨_,rfl⟩;have n2:x.aE[who]=t:=(cu.1 ag).2;have cw:=Bg (enc:=aZ) (s:=18) (f:=13) (X:=[.int .i64 a.err,.str a.data,.sl false (a.names.map I.str),.int .i64 a.n,.sl false (a.events.map dt)]) (λ_=>rfl) hk hW ln<|by rw[n2,<-F4];rfl
 have cL:=Bg (enc:=aZ) (s:=18) (f:=11) (X:=[.int .i64 x.time]) (D:=x.aE.set who ln) (k:=who) (λ_=>rfl) (by rw[kx];exact hk) hW ni<|by rw[Hc,<-F5];rfl
 have dx:=Bg (enc:=aZ) (s:=18) (f:=9) (X:=[.int .i64 ((x.ops++o).length:Int)]) (D:=x.aE.set who ni) (k:=who) (λ_=>rfl) (by rw[kx];exact hk) hW U<|by rw[Hc,<-SO];rfl
 rw[List.set_set]at cL dx;have cM:∀y,(aV aZ (x.aE.set who y)).length=x.aE.length * 18:=λy=>by rw[en (enc:=aZ) (s:=18) (λ_=>rfl),kx]
 have F7:(who * 18+18<=x.aE.length * 18)=True:=b1 gf;have SP:(who * 18+12<=x.aE.length * 18)=True:=b1 gf;have aQE:(who * 18+10<=x.aE.length * 18)=True:=b1 gf;simp only[bw]at dx;repeat' first|((first|refine No (id:=1) [.aQ,.ah 3,.ah 3,.ah 3,.ah 3,.aQ,.ah 3,.ah 3,.ah 3,.ah 3,.aQ,.aQ,.aQ,.aQ] [.bW [],.bW [],.aQ] 14 31 62 3 4 uW rfl ma ma ma ma ?_|refine ae ?_);simp only[go_sem,bd,aS,aY,a6,bb,dm,ey,ks,bI,bc,ig,CE,fO,gl,F7,SP,aQE,cM,cw,cL,dx])|refine ai ?_|fail
 obtain⟨S,Z⟩:∃S:bM,S={x with m:=m,ops:=x.ops++o,aE:=x.aE.set who U}:=⟨_,rfl⟩;have aj:fb G i j who ⟨3,0⟩ S=an (an G j<|.cells 1 (aV aZ S.aE)) i (.cells 0<|fc j who ⟨3,0⟩ S):=rfl;obtain⟨L,gW⟩:∃L,[bD.cells 2 [.sl false (m.log.entries.map dT),.sl false<|m.log.nodes.map bj,.int .i64 m.seen,.int .i64 m.rep,.sl false<|m.dh.map jj,.sl false<|m.cq.map dY,.int .i64 m.next],bD.cells 2 [.int .i64 a.err,.str a.data,.sl false<|a.names.map I.str,.int .i64 a.n,.sl false<|a.events.map dt]]=L:=⟨_,rfl⟩;have aYL:=Z;rw[Z]at aj;simp only[fc,kx]at aj;rw[<-aj,<-Z,gW];have lM:=a1.wK _<|dy ag;have aJ:U.call=t.call/\U.has=t.has/\U.bZ=a:=by rw[<-SO,<-F5,<-F4];exact⟨rfl,rfl,rfl⟩
 have C3:S.aE[who]?=some U:=by rw[Z];exact rB hk
 have hz:=J.put S;refine c4 (J6 (hz.app L) (by rw[Z];simp only[kx];exact a1.n) C3 ⟨by rw[aJ.1];exact lM.1,by rw[aJ.2.1];exact lM.2.1,by rw[aJ.2.2];exact yZ.1,by rw[aJ.2.2];exact yZ.2⟩) aI ?_
 rintro v H' ⟨rfl,rfl⟩;rw[J.next];rw[nz C3];obtain⟨O,F2⟩:∃O:bM,O={S with aE:=S.aE.set who (dE U ⟨3,0⟩)}:=⟨_,rfl⟩;rw[<-F2];have vN:=(J.put O).app L;have SK:O.aE=x.aE.set who (dE U ⟨3,0⟩):=by rw[F2,Z];simp only[List.set_set]
 have c1:=vN.aW;have c2:=vN.bA;have iw:∀k,az (fb G i j who ⟨3,0⟩ O++L) (G.length+k)=L.getD k .gone:=λk=>zy<|Bh ..
 have oK:(aV aZ O.aE).getD (who * 18) .top=.int .i64 t.call.kind:=by
  unfold aV;have:=Bc (s:=18) (es:=O.aE.map aZ) (k:=who) (j:=0) (e:=aZ<|dE U ⟨3,0⟩) (x:=.int .i64 (dE U ⟨3,0⟩).call.kind) (λe he=>by(obtain⟨x, -,rfl⟩:=bP.1 he;rfl)) (by rw[nk,SK,rB hk];rfl) rfl
  rw[wU]at this;rw[gg,this,<-aJ.1];rfl
 have jN:(aV aZ O.aE).length=x.aE.length * 18:=by rw[SK];exact cM _
 have A6:O.aE.length=x.aE.length:=by rw[SK,kx]
 have SQ:(who * 18<x.aE.length * 18)=True:=b1 gf;rw[<-gW]at c1 c2 iw ⊢;simp only[fc,A6]at c1;have y3:kN who x (m,a,o)=O:=by unfold kN;rw[nz ag,F2,Z];simp only[List.set_set];rw[<-SO,<-F5,<-F4];rfl
 rw[y3];simp only[go_sem];by_cases k1:t.call.kind=13
 ·have d1:decide (t.call.kind=13)=true:=dr k1;by_cases k2:a.err=0
  ·have d2:decide (a.err=0)=true:=dr k2;rw[aC ⟨k1,k2⟩];repeat' first|((first|refine No (id:=1) [.aQ,.ah 3,.ah 3,.ah 3,.ah 3,.aQ,.ah 3,.ah 3,.ah 3,.ah 3,.aQ,.aQ,.aQ,.aQ] [.bW [],.bW [],.aQ] 14 31 62 3 4 uW rfl ma ma ma ma ?_|refine ae ?_);simp only[go_sem,c1,c2,iw,oK,jN,fO,SQ,d1,d2])|refine ai ?_|fail
   rw[gW];have V:=V k1 k2;rw[y3]at V;refine c4 (aKh vN _ rfl V.z V.p V.t V.d) aI ?_;rintro v H' ⟨rfl,rfl⟩;rw[J.next];simp only[go_sem];repeat' first|(refine ae ?_;simp only[go_sem])|refine ai ?_|fail
   exact qc J rfl
  ·have d2:decide (a.err=0)=false:=b0 k2;rw[ar λh=>k2 h.2];repeat' first|((first|refine No (id:=1) [.aQ,.ah 3,.ah 3,.ah 3,.ah 3,.aQ,.ah 3,.ah 3,.ah 3,.ah 3,.aQ,.aQ,.aQ,.aQ] [.bW [],.bW [],.aQ] 14 31 62 3 4 uW rfl ma ma ma ma ?_|refine ae ?_);simp only[go_sem,c1,c2,iw,oK,jN,fO,SQ,d1,d2])|refine ai ?_|fail
   exact qc J rfl
 ·have d1:decide (t.call.kind=13)=false:=b0 k1;rw[ar λh=>k1 h.1];repeat' first|((first|refine No (id:=1) [.aQ,.ah 3,.ah 3,.ah 3,.ah 3,.aQ,.ah 3,.ah 3,.ah 3,.ah 3,.aQ,.aQ,.aQ,.aQ] [.bW [],.bW [],.aQ] 14 31 62 3 4 uW rfl ma ma ma ma ?_|refine ae ?_);simp only[go_sem,c1,c2,iw,oK,jN,fO,SQ,d1])|refine ai ?_|fail
  exact qc J rfl
structure tS (a:om):Prop where
 err:a.err<=9223372036854775807
 data:a.data.length<=20000
 nl:a.names.length<=1000
 Gy:∀s∈a.names,s.length<=20000
 n:a.n<=9223372036854775807
 el:a.events.length<=1000
 bn:∀e∈a.events,e.kind<=9223372036854775807/\e.path.length<=20000
structure D7 (x:eS):Prop where
 path:x.path.length<=20000
 id:x.id<=9223372036854775807
 data:x.data.length<=20000
theorem aH3(l)(d):(yD l d).length<=l.length:=by
 unfold yD;split
 ·rw[(Gx _).length_eq,dq];exact L8 l d
 ·exact cb _
theorem aGJ(h:fJ m){l:List aH}(hl:qe m n=some l):∀x∈l,x.data.length<=64:=by
 unfold qe at hl;split at hl
 ·cases hl;exact λx J=>(h.nodes.dg x J).data
 ·obtain⟨s,hs,rfl⟩:=gA.1 hl;exact λx J=>((h.snap s (sD hs)).dg x J).data
theorem Ps(l:List aH):∀(J:List al) (i:Int),(iU l i J).2<=1000
 |[],i=>by simp[iU]
 |s::J,i=>by
  unfold iU;split
  ·split
   ·exact Ps l J _
   ·decide
  ·decide
theorem aMn(l)(p):(ft l p).2<=1000:=by
 unfold ft;split
 ·decide
 ·exact Ps l _ _
theorem aLg(l)(p):(jn l p).2.2<=1000:=by
 unfold jn
 (repeat' split)<;>first|(show 0<=1000;decide)|decide|exact Ps l _ _
theorem XK(m):(gJ m).2<=1000:=by
 unfold gJ
 (repeat' split)<;>first|(show 0<=1000;decide)|decide
theorem aLh(g)(o):nG g o<=1000:=by
 unfold nG
 (repeat' split)<;>decide
def BL(e:e7):Prop:=e.kind<=9223372036854775807/\e.path.length<=20000
structure zV (m:di):Prop where
 w:∀w∈m.cq,∀e∈w.b2,BL e
 n:m.next<=9223372036854775807
structure Ht (m:di) (d:cB):Prop where
 a:tS d.a
 v:d.m.cq=m.cq/\d.m.next=m.next
 o:∀x∈d.ops,cp x=true
structure BU (m:di) (r:Int×cB):Prop where
 e:r.1<=1000
 d:r.1=0->Ht m r.2
theorem hh:tS dD:=⟨ko,ko,ko,by simp[dD],ko,ko,by simp[dD]⟩
theorem BU.err(h:e<=1000)(ay:e≠0):BU m (e,d):=⟨h,λq=>absurd q ay⟩
theorem YJ(h:Ht m d)(o):BU m (oj d o):=by
 unfold oj;split
 ·rename_i ay;refine⟨hW,λ_=>⟨h.a,h.v,λx J=>?_⟩⟩;rcases fH.1 J with J|J
  ·exact h.o x J
  ·rw[dH.1 J];unfold nG at ay;split at ay
   ·cases ay
   ·rename_i h1;simpa using h1
 ·rename_i h;exact .err (aLh _ _) h
theorem aLi(h:Ht m d)(o):BU m (sR d o):=by
 unfold sR;have hk:=YJ h {o with at_:=(gJ d.m).1}
 split
 ·split
  ·rename_i h;exact⟨hW,λ_=>⟨(hk.d h).a,(hk.d h).v,(hk.d h).o⟩⟩
  ·exact hk
 ·rename_i h;exact .err (XK _) h
theorem XL{m:di}:∀(l:List bk) {d:cB},Ht m d->BU m (mR d l)
 |[],d,h=>⟨by show 0<=1000;decide,λ_=>h⟩
 |o::l,d,h=>by
  unfold mR;have hk:=YJ h o;split
  ·rename_i h;exact XL l<|hk.d h
  ·exact hk
structure yA (r:Int×cB):Prop where
 e:r.1<=1000
 a:r.1=0->tS r.2.a
 v:r.1=0->zV r.2.m
 o:r.1=0->∀x∈r.2.ops,cp x=true
theorem BU.r{r:Int×cB}(h:BU m r)(v:zV m):yA r:=⟨h.e,λq=>(h.d q).a,λq=>⟨by rw[(h.d q).v.1];exact v.w,by rw[(h.d q).v.2];exact v.n⟩,λq=>(h.d q).o⟩
theorem yA.err(h:e<=1000)(ay:e≠0):yA (e,d):=⟨h,λq=>absurd q ay,λq=>absurd q ay,λq=>absurd q ay⟩
theorem yA.ok(h:tS d.a)(v:zV d.m)(o:∀x∈d.ops,cp x=true:=by intro x J;cases J):yA (0,d):=⟨hW,λ_=>h,λ_=>v,λ_=>o⟩
theorem XM(n):IntKind.i64.wrap n<=9223372036854775807:=by
 unfold IntKind.wrap;simp;split
 ·omega
 ·rename_i h;simp[IntKind.bits,IntKind.signed]at h ⊢;omega
theorem aKi{l:List aH}{q:Int}(h:rH q l)(d):(yD l d).length<=1000/\∀s∈yD l d,s.length<=20000:=by
 refine⟨e1 (aH3 l d)<|e1 h.len hW,λs hs=>?_⟩
 unfold yD at hs;split at hs
 ·obtain⟨p,ad,rfl⟩:=bP.1<|(Gx _).mem_iff.1 hs;rw[<-(Bj l d).2 p ad];exact e1 (h.dg _ (Kf l d p ad).1).name hW
 ·cases hs
theorem aGK(h:fJ m){l:List aH}(hl:qe m n=some l):rH m.seen l:=by
 unfold qe at hl;split at hl
 ·cases hl;exact h.nodes
 ·obtain⟨s,hs,rfl⟩:=gA.1 hl;exact h.snap s<|sD hs
theorem aKj{l:List o5}(h:∀w∈l,∀e∈w.b2,BL e):∀w∈vy n l,∀e∈w.b2,BL e:=by
 induction l with
 |nil=>exact h
 |cons x l J=>
  unfold vy;split
  ·intro w hw;rcases db.1 hw with rfl|hw
   ·intro e he;cases he
   ·exact h w j9
  ·intro w hw;rcases db.1 hw with rfl|hw
   ·exact h w hW
   ·exact J (λv U=>h v j9) w hw
theorem aMo(h:fJ m)(v:zV m)(c):yA (jD c ⟨m,dD,[]⟩):=by
 have d0:Ht m ⟨m,dD,[]⟩:=⟨hh,⟨rfl,rfl⟩,λx J=>p2 J⟩;have ad:=λo=>(aLi d0 o).r v;have U:=λl p q d=>yA.err (d:=d) (aMn l p) q;have a2:=λl p q d=>yA.err (d:=d) (aLg l p) q;have a3:=λm q d=>yA.err (d:=d) (XK m) q;unfold jD;split
 ·unfold Am
  (repeat' split)<;>first|exact ad _|exact .err ko ko|exact a2 _ _ (by assumption) _|exact a3 _ (by assumption) _
 split
 ·unfold Aa
  (repeat' split)<;>first|exact ad _|exact .err ko ko|exact U _ _ (by assumption) _
 split
 ·unfold EA
  (repeat' split)<;>first|exact .err ko ko|exact U _ _ (by assumption) _|skip
  rename_i l hl _ _;refine .ok ⟨hh.err,?_,hh.nl,hh.Gy,hh.n,hh.el,hh.bn⟩ v;simp only;cases S:z6 l (ft l c.path).1 with
  |none=>decide
  |some n=>
   unfold z6 at S;split at S
   ·exact e1 (aGJ h hl n (sD S)) ko
   ·cases S
 split
 ·unfold Ad
  (repeat' split)<;>first|exact ad _|exact .err ko ko|exact U _ _ (by assumption) _|exact a2 _ _ (by assumption) _
 split
 ·unfold BA
  (repeat' split)<;>first|exact ad _|exact .err ko ko|exact U _ _ (by assumption) _
 split
 ·unfold Gl
  (repeat' split)<;>first|exact .err ko ko|exact U _ _ (by assumption) _|skip
  rename_i l hl _ _;obtain⟨Z,fr⟩:=aKi (aGK h hl) (ft l c.path).1;exact .ok ⟨hh.err,hh.data,Z,fr,hh.n,hh.el,hh.bn⟩ v
 split
 ·unfold ET;split
  ·exact .err ko ko
  ·exact .ok ⟨hh.err,hh.data,hh.nl,hh.Gy,v.n,hh.el,hh.bn⟩ ⟨v.w,XM _⟩
 split
 ·unfold EU;split
  ·exact .err ko ko
  ·exact .ok hh ⟨λw hw=>v.w w (mg.1 hw).1,v.n⟩
 split
 ·unfold EK
  (repeat' split)<;>first|exact .err ko ko|exact U _ _ (by assumption) _|skip
  refine .ok ⟨hh.err,hh.data,hh.nl,hh.Gy,v.n,hh.el,hh.bn⟩ ⟨λw hw=>?_,XM _⟩;rcases fH.1 hw with hw|hw
  ·exact v.w w hw
  ·rw[dH.1 hw];intro e he;cases he
 split
 ·unfold EV;split
  ·exact .err ko ko
  ·rename_i w hw;have hm:=sD hw;exact .ok ⟨hh.err,hh.data,hh.nl,hh.Gy,hh.n,e1 (h.watch _ hm).2.1 ko,v.w w hm⟩ ⟨aKj v.w,v.n⟩
 split
 ·exact .ok hh v
 ·unfold Cj;split
  ·exact .err ko ko
  split
  ·exact .err ko ko
  rename_i l I hl;have hs:=XL (gw m.log [] l) d0;split
  ·rename_i he;have O:=(hs.d he).a;have V:=(hs.r v).v he;exact .ok ⟨O.err,O.data,O.nl,O.Gy,by simp only at hl ⊢;omega,O.el,O.bn⟩ ⟨V.w,V.n⟩ (hs.d he).o
  ·exact hs.r v
theorem aLj{l:List aH}(h:cG l=true){n:aH}(af:n∈l):gd n.id=true:=((zl l).1 h).1 n af
theorem XN{l:List aH}{q:Int}(U:cG l=true)(h:rH q l)(out:List Int):∀(k:Nat) (dir:Int) (p:al),∀x∈Br l out k dir p,x.path.length<=p.length+81 * k/\x.id<=134217856/\x.data.length<=64
 |0,dir,p,x,J=>p2 J
 |k+1,dir,p,x,J=>by
  obtain⟨s,hs,J⟩:=vf.1 J;cases hl:hA s (fA l dir)with
  |none=>rw[hl]at J;cases J
  |some n=>
   rw[hl]at J;have hm:=Wp hl;have af:=Kf l dir _ hm;have hk:=(Bj l dir).2 _ hm;simp only at af hk J;have h1:=(h.dg n af.1).name;have h3:=(BB.1 (aLj U af.1)).2;rw[hk]at h1;rcases db.1 J with rfl|J
   ·exact⟨j9,j9,((h.dg n af.1).data)⟩
   ·split at J
    ·have:=XN U h out k n.id _ x J;simp only[bw,cd]at this;exact⟨gf,this.2⟩
    ·cases J
theorem Pt{l:List aH}{q:Int}(h:rH q l)(dir):∀x∈jz l dir,D7 x:=λx J=>by
 unfold jz at J;split at J
 ·rename_i U;have:=XN U h _ _ _ _ x J;have:=h.len;simp at *;exact⟨gf,gf,gf⟩
 ·cases J
theorem aJD{l:List aH}{q:Int}(h:rH q l):(jz l 0).length<=1000:=by have:=h.len;exact e1 (Qz h.lA.wf (rfl)) gf
theorem aLk{a b:List eS}(U:∀x∈a,D7 x)(J:∀x∈b,D7 x):∀e∈xj a b,BL e:=λe he=>by
 rcases fH.1 he with he|he
 ·rcases fH.1 he with he|he
  ·obtain⟨t,ag,rfl⟩:=bP.1 he;exact⟨(by simp:(1:Int)<=9223372036854775807),(U t j9).path⟩
  ·obtain⟨t,ag,rfl⟩:=bP.1 he;exact⟨(by simp:(2:Int)<=9223372036854775807),(J t (mg.1 ag).1).path⟩
 ·obtain⟨t,ag,rfl⟩:=bP.1 he;exact⟨(by simp:(3:Int)<=9223372036854775807),(J t (mg.1 ag).1).path⟩
theorem aLl{e l:List e7}(he:∀x∈e,BL x)(hl:∀x∈l,BL x)(o):∀x∈(ox e o l).1,BL x:=λx J=>by
 unfold ox at J;split at J
 ·exact he x J
 ·split at J
  ·rcases fH.1 J with J|J
   ·rcases fH.1 J with J|J
    ·exact he x J
    ·exact hl x<|yp J
   ·rw[dH.1 J];exact⟨hW,hW⟩
  ·rcases fH.1 J with J|J
   ·exact he x J
   ·exact hl x J
theorem Qo(h:e<=1000):tS (Fq e):=⟨by show e<=_;omega,hh.data,hh.nl,hh.Gy,hh.n,hh.el,hh.bn⟩
theorem QG(h:fJ m)(v:zV m)(c):tS (eM m c).2.1/\zV (eM m c).1/\∀o∈(eM m c).2.2,cp o=true:=by
 unfold eM;split
 ·exact⟨Qo ko,v,λx J=>j9⟩
 have hw:=aMo h v c;split
 ·rename_i ay;split
  ·exact⟨hw.a ay,hw.v ay,λx J=>j9⟩
  ·refine⟨hw.a ay,⟨λw hm=>?_,(hw.v ay).n⟩,hw.o ay⟩;obtain⟨w',U,rfl⟩:=bP.1 hm;exact aLl ((hw.v ay).w w' U) (aLk (Pt h.nodes _)<|Pt (Q0 h j9 ay).nodes _) _
 ·exact⟨Qo hw.e,v,λx J=>p2 J⟩
theorem aH4(t)(n k):(yM t n k).1.held.length<=t.held.length+1:=by
 unfold yM;split
 ·simp
 ·split
  ·simp
  ·split<;>simp
theorem V1(t)(n k):(fE t n k).1.held.length<=t.held.length:=by
 unfold fE;split
 ·rename_i h;have hm:=oq h;have h1:=List.length_erase_of_mem hm;have h2:=List.length_pos_of_mem hm;split
  ·simp;omega
  ·simp;omega
 ·exact bh _
theorem N4(n:Int):∀(l:List dI) (s:fw×List dI),(oF n l s).1.held.length<=s.1.held.length/\(oF n l s).2.length<=s.2.length+l.length
 |[],s=>⟨bh _,bh _⟩
 |h::l,s=>by
  have J:=V1 s.1 n h.lock;unfold oF;split
  ·split
   ·obtain⟨h1,h2⟩:=N4 n l ((fE s.1 n h.lock).1,s.2);simp at h1 h2 ⊢;omega
   ·rename_i k hk;obtain⟨h1,h2⟩:=N4 n l ((fE s.1 n h.lock).1,s.2++[⟨h.lock,k⟩]);simp at h1 h2 ⊢;omega
  ·obtain⟨h1,h2⟩:=N4 n l s;simp only[cd];omega
theorem O3(t)(n):(kC t n).1.held.length<=t.held.length/\(kC t n).2.length<=t.held.length:=by obtain⟨h1,h2⟩:=N4 n t.held (⟨t.held,t.waits.filter λw=> !decide (w.aZ=n)⟩,[]);simp at h1 h2;exact⟨h1,h2⟩
theorem NL{α:Type}[DecidableEq α]:∀{l k:List α},l.Nodup->(∀x∈l,x∈k)->l.length<=k.length
 |[],_,_,_=>cb _
 |a::l,k,h,hs=>by
  rw[tK]at h;have U:=hs a hW;have h1:=NL (k:=k.erase a) h.2 λx J=>(List.mem_erase_of_ne λe=>h.1 j9).2<|hs x j9
  rw[List.length_erase_of_mem U]at h1;have h2:=List.length_pos_of_mem U;simp;omega
theorem aH5{t:fw}{n:Nat}(h:hf t n has):t.waits.length<=n:=by
 have h1:=NL (l:=t.waits.map λw=>w.aZ.toNat) (k:=List.range n) (by
  unfold List.Nodup;rw[List.pairwise_map];refine h.yi.imp_of_mem fun{a b} U O S e=>S ?_;obtain⟨i,V, -⟩:=h.sw a U;obtain⟨j,Z, -⟩:=h.sw b O;omega) λx J=>by obtain⟨w,hw,rfl⟩:=bP.1 J;obtain⟨i,V,hi, -⟩:=h.sw w hw;exact Hf.2 gf
 simpa using h1
theorem XO{t:fw}{n:Nat}(h:hf t n has)(hi:i<n):(has i).length<=t.held.length:=by
 have h1:=NL (l:=(has i).map λk=>(⟨k,i⟩)) (k:=t.held) (by
  unfold List.Nodup;rw[List.pairwise_map];exact(h.uy i).imp λh e=>h (dI.mk.inj e).1) λx J=>by obtain⟨k,hk,rfl⟩:=bP.1 J;exact(h.pY k i).2 ⟨i,rfl,hi,hk⟩
 simpa using h1
theorem YK{x:bM}(c:eL x):x.g.waits.length<=40:=by
 have h1:=NL (l:=x.g.waits.map λw=>w.aZ.toNat) (k:=List.range x.aE.length) (by
  unfold List.Nodup;rw[List.pairwise_map];refine c.AG.imp_of_mem fun{a b} U O S e=>S ?_;obtain⟨i, -,V, -⟩:=c.oI a U;obtain⟨j, -,Z, -⟩:=c.oI b O;omega) λx J=>by obtain⟨w,hw,rfl⟩:=bP.1 J;obtain⟨i,t,V,hi, -⟩:=c.oI w hw;have:=(cu.1 hi).1;exact Hf.2 gf
 have:=c.n;simp at h1;omega
def nq(t:bF):Prop:=t.call.path.length<=1048576/\tS t.bZ
theorem aH6(t)(u):(dE t u).call=t.call/\(dE t u).bZ=t.bZ:=by
 unfold dE
 (repeat' split)<;>exact⟨rfl,rfl⟩
theorem GZ(h:nq t)(u):nq (dE t u):=by obtain⟨h1,h2⟩:=aH6 t u;unfold nq;rw[h1,h2];exact h
theorem aCQ(h:nq t)(k:t.has.length<=1048576):sN t:=⟨h.1,k,e1 h.2.nl hW,e1 h.2.el hW⟩
theorem tk{p:bF->Prop}{f:bF->bF}(h:∀t∈l,p t)(J:∀t∈l,p t->p (f t)):∀t∈hx l n f,p t:=λt ag=>by
 obtain⟨i,hi⟩:=Oz.1 ag;rw[Bi]at hi;obtain⟨u,hu,e⟩:=gA.1 hi;have hm:=dy hu;rw[<-e];split
 ·exact J _ hm<|h _ hm
 ·exact h _ hm
theorem Zc(h:∀t∈l,nq t)(w):∀t∈mc l w,nq t:=tk h λ_ _ h=>GZ h _
theorem PX:∀(g:List dI) {l:List bF},(∀t∈l,nq t)->∀t∈g.foldl mc l,nq t
 |[],_,h=>h
 |w::g,_,h=>PX g<|Zc h w
theorem PY(h:∀t∈l,nq t)(time n):∀t∈mE time l n,nq t:=tk h λ_ _ h=>h
theorem XP(time:Int):∀(J:List Int) {l:List bF},(∀t∈l,nq t)->∀t∈J.foldl (mE time) l,nq t
 |[],_,h=>h
 |n::J,_,h=>XP time J<|PY h time n
theorem Pu(who:Nat):∀(J:List Nat) (s:fw×List bF),(∀t∈s.2,nq t)->(∀t∈(J.foldl (lQ who) s).2,nq t)/\(J.foldl (lQ who) s).1.held.length<=s.1.held.length
 |[],_,h=>⟨h,bh _⟩
 |n::J,s,h=>by
  have h1:(∀t∈(lQ who s n).2,nq t)/\(lQ who s n).1.held.length<=s.1.held.length:=by
   unfold lQ;split
   ·exact⟨PX _<|tk h λ_ _ h=>h,(O3 _ _).1⟩
   ·exact⟨h,bh _⟩
  obtain⟨h2,h3⟩:=Pu who J (lQ who s n) h1.1;exact⟨h2,e1 h3 h1.2⟩
theorem aMp(h:∀t∈l,t.has.length<=b)(w):∀t∈mc l w,t.has.length<=b+1:=tk (λt ag=>e1 (h t ag)<|oi _) λt ag _=>by rw[(Dy _ _).1,bw];exact Nat.succ_le_succ<|h t ag
theorem YL:∀(g:List dI) {l:List bF} {b:Nat},(∀t∈l,t.has.length<=b)->∀t∈g.foldl mc l,t.has.length<=b+g.length
 |[],_,_,h=>h
 |w::g,_,b,h=>by have:=YL g<|aMp h w;intro t ag;have:=this t ag;simp;omega
theorem Zd{x:bM}{q:Nat}(hN:hf x.t x.aE.length (js x.aE))(af:x.aE.length<=40)(U:x.t.held.length<=q)(aM:q<=100000)(O:x.g.waits.length<=40)(J:∀t∈x.aE,nq t):tT x:=by
 refine⟨af,λt ag=>aCQ (J t ag) ?_,gf,oC<|aH5 hN,gf⟩
 obtain⟨i,hi⟩:=Oz.1 ag;have:=XO hN (cu.1 hi).1;rw[pA hi]at this;omega
structure jV (q:Nat) (x:bM):Prop where
 ci:eL x
 held:x.t.held.length<=q
 q:∀t∈x.aE,nq t
 ll:zV x.m
 op:∀o∈x.ops,cp o=true
theorem jV.Q7{q:Nat}{x:bM}(b:jV q x)(aM:q<=100000):tT x:=Zd b.ci.hN b.ci.n b.held aM (YK b.ci) b.q
theorem jV.tick{q:Nat}{x:bM}(b:jV q x):jV q (BZ x):=⟨b.ci.tick,b.held,b.q,b.ll,b.op⟩
theorem jV.up{q r:Nat}{x:bM}(b:jV q x)(h:q<=r):jV r x:=⟨b.ci,e1 b.held h,b.q,b.ll,b.op⟩
theorem YM{r:Int}{x:bM}(h:mG r=(x,0)):jV 0 x:=by
 have hi:=aKN h;unfold mG at h;split at h
 ·rename_i ay;cases h;refine⟨hi,bh _,λt ag=>(p2 ag),?_,λt ag=>(p2 ag)⟩;unfold og at ay ⊢;split at ay
  ·rename_i h1;rw[aC h1];exact⟨λw hw=>(p2 hw),(by simp:(1:Int)<=9223372036854775807)⟩
  ·cases ay
 ·rename_i ay;exact absurd (b7 Prod.snd h) ay
theorem jV.start{q:Nat}{x:bM}(b:jV q x){k:cg}(hk:o3 k):jV q (sa x k).1:=by
 refine⟨b.ci.start hk,?_,?_,by unfold sa;split<;>exact b.ll,by unfold sa;split<;>exact b.op⟩
 ·unfold sa;split<;>exact b.held
 ·unfold sa;split
  ·exact b.q
  ·intro t ag;rcases fH.1 ag with h|h
   ·exact b.q t h
   ·rw[dH]at h;subst h;exact⟨hk.path,hh⟩
theorem YN{q:Nat}{x:bM}(b:jV q x)(who){r:di×om×List bk}(J:tS r.2.1):∀t∈(kN who x r).aE,nq t:=tk b.q λt ag h=>GZ (t:={t with bZ:=r.2.1,mark:=x.time,upto:=((x.ops++r.2.2).length)}) ⟨h.1,J⟩ ⟨3,0⟩
structure OF (q:Nat) (y:bM):Prop where
 h:y.t.held.length<=q
 q:∀t∈y.aE,nq t
 v:zV y.m
 o:∀o∈y.ops,cp o=true
theorem aJE{q:Nat}{x:bM}(b:jV q x)(full)(who):OF q (qi full who x):=by
 unfold qi;split
 ·exact⟨b.held,PY (tk (f:=λt=>{t with bZ:={dD with err:=120}}) b.q λt _ h=>⟨h.1,Qo ko⟩) _ _,b.ll,b.op⟩
 ·exact⟨b.held,XP _ _ b.q,b.ll,b.op⟩
theorem aJF{q:Nat}{x:bM}(b:jV q x)(who)(t)(u):OF (q+1) (tC who t u x):=by
 have S:=b.held;have ay:x.t.held.length<=q+1:=gf;unfold tC;by_cases k1:u.kind=1
 ·rw[aC k1];have:=aH4 x.t who u.lock;unfold BX;split
  ·exact⟨by simp only;omega,tk (f:=λt=>dE t ⟨1,u.lock⟩) b.q λt _ h=>GZ h _,b.ll,b.op⟩
  ·exact⟨by simp only;omega,b.q,b.ll,b.op⟩
 rw[ar k1];by_cases k2:u.kind=2
 ·rw[aC k2];have:=V1 x.t who u.lock;unfold BY;split
  ·exact⟨by simp only;omega,tk b.q λt _ h=>(GZ h _),b.ll,b.op⟩
  ·exact⟨by simp only;omega,Zc (tk b.q λt _ h=>(GZ h _)) _,b.ll,b.op⟩
 rw[ar k2];by_cases k3:u.kind=3
 ·rw[aC k3];obtain⟨d1,d2,d3⟩:=QG b.ci.iX b.ll t.call;have aM:=YN b who d1;have J:=λo J=>(fH.1 J).elim (b.op o)<|d3 o
  unfold EI;split
  ·obtain⟨O,a2⟩:=Pu who (List.range (kN who x<|eM x.m t.call).aE.length) ((kN who x (eM x.m t.call)).t,(kN who x (eM x.m t.call)).aE) aM;exact⟨e1 a2 ay,O,d2,J⟩
  ·exact⟨ay,aM,d2,J⟩
 rw[ar k3];by_cases k4:u.kind=4
 ·rw[aC k4];unfold B9;split
  ·exact⟨ay,PY b.q _ _,b.ll,b.op⟩
  ·exact⟨ay,b.q,b.ll,b.op⟩
 rw[ar k4];by_cases U:u.kind=5
 ·rw[aC U];exact⟨ay,tk (f:=λt=>{dE t ⟨5,0⟩with end_:=x.time}) b.q λt _ h=>(GZ h ⟨5,0⟩),b.ll,b.op⟩
 ·rw[ar U];exact⟨ay,b.q,b.ll,b.op⟩
theorem jV.step{q:Nat}{x:bM}(b:jV q x)(p)(full):jV (q+1) (mJ x p full):=by
 have h:OF (q+1) (mJ x p full):=by
  unfold mJ;cases wL x p with
  |none=>exact⟨e1 b.held<|oi _,b.q,b.ll,b.op⟩
  |some who=>
   simp;unfold AF;split
   ·have:=aJE b.tick full who;exact⟨e1 this.h<|oi _,this.q,this.v,this.o⟩
   ·exact aJF b.tick _ _ _
 exact⟨b.ci.step p full,h.h,h.q,h.v,h.o⟩
theorem jV.vD{q:Nat}{x:bM}(b:jV q x)(aM:q<=100000){who:Nat}(ag:x.aE[who]?=some t):Uz who (kN who x<|eM x.m t.call):=by
 have J:=YN b who (QG b.ci.iX b.ll t.call).1;obtain⟨O,S,V⟩:=XI b.ci ag<|eM x.m t.call;have Z:(kN who x (eM x.m t.call)).t.held.length<=q:=b.held;have hl:(kN who x (eM x.m t.call)).aE.length=x.aE.length:=Dz _ _ _;have I:(kN who x (eM x.m t.call)).g.waits.length<=40:=show x.g.waits.length<=40 from YK b.ci
 have af:=b.ci.n;generalize kN who x (eM x.m t.call)=y at *;have key:∀k,k<=y.aE.length->tT (hC who y k)/\(hC who y k).aE.length=y.aE.length/\(∀t∈(hC who y k).aE,nq t)/\(hC who y k).t.held.length<=q/\∀t∈(hC who y k).aE,t.has.length<=q:=λk hk=>by
  obtain⟨k1,k2, -, -⟩:=WU O S V k hk;obtain⟨U,a2⟩:=Pu who (List.range k) (y.t,y.aE) J;have e:(hC who y k).aE.length=y.aE.length:=k1.1;have hN:hf (hC who y k).t (hC who y k).aE.length (js (hC who y k).aE):=by rw[e];exact k2
  have hd:(hC who y k).t.held.length<=q:=e1 a2 Z;refine⟨Zd hN gf hd aM I U,e,U,hd,λt ag=>?_⟩;obtain⟨i,hi⟩:=Oz.1 ag;have:=XO hN (cu.1 hi).1;rw[pA hi]at this;omega
 refine⟨λk hk=>⟨(key k hk).1,(key k hk).2.1⟩,λk t hk h=>((key k gf).2.2.1 t (dy h)).1,λk p hk t h=>?_,λk hk=>?_⟩
 ·obtain⟨-, -,k3,k4,z⟩:=key k gf;have hd:=(O3 (hC who y k).t k).2;refine aCQ (PX _ (tk (f:=pz) k3 λ_ _ h=>h) t h) ?_;have:=YL (((kC (hC who y k).t k).2.take p)) (tk z λ_ _ _=>cb _) t h;rw[gK]at this;omega
 ·have hd:=(O3 (hC who y k).t k).2;have:=(key k gf).2.2.2.1;omega
theorem aGL(f1 f2 f3 f4 b:Bool)(m:di)(ops:List bk)(aA:Fit m.log ops.length)(hl:ops.length<=100000)(aD:∀o∈ops,hR o)(H:ab):
  aO prog 18 [lf f1 f2 f3 f4 m,.sl b<|ops.map bt] H (lf false false false false<|Dw m ops):=by
 refine bg func18 ?_;have hm:=aK8 f1 f2 b m.log ops aA aD;simp only[rj,Cf,Dl]at hm;refine bL (hj lf.eq_1 tr.eq_1) ?_;refine Lu H.length (.sl false ((eX m.log ops).entries.map dT)::.sl false ((eX m.log ops).nodes.map bj)::.int .i64 m.seen::.int .i64 m.rep::.sl false (m.dh.map jj)::.sl false (m.cq.map dY)::[.int .i64 m.next]) (v:=0)
  (cs:=.sl false ((eX m.log ops).entries.map dT)::.sl false ((eX m.log ops).nodes.map bj)::.int .i64 m.seen::.int .i64 m.rep::.sl f3 (m.dh.map jj)::.sl f4 (m.cq.map dY)::[.int .i64 m.next]) mZ rfl (de (.refl _)<|de (.refl _) (de (.refl _) (de (.refl _) (de (.sl _ _) (de (.sl _ _) (de (.refl _) kZ)))))) ?_
 simp only[go_sem];obtain⟨Z,U⟩:∃B:List I,B=[.sl true [],.sl true [],.int .i64 0,.int .i64 0,.sl true [],.sl true [],.int .i64 0]:=⟨_,rfl⟩;rw[<-U];obtain⟨g,aP⟩:∃g,g=eX m.log ops:=⟨_,rfl⟩;rw[<-aP];obtain⟨R,eY⟩:∃R,R=Dw m ops:=⟨_,rfl⟩;rw[<-eY];obtain⟨O,p6⟩:∃O,O=ops.foldl (λn o=>if cp o=true then mK n o.at_ else n) m.seen:=⟨_,rfl⟩
 have z:R={m with log:=g,seen:=O}:=by rw[eY,aP,p6];rfl
 refine c7 (ι:=Nat×Int×ab) (λs=>[(2,.ref H.length 0 0),(4,.ref (H.length+1) 0 0),(15,.sl b<|ops.map bt),(16,.int .i64 ops.length),(17,.int .i64 s.1)])
  (λs=>H++(.cells 0 (lf false false false false {m with log:=g,seen:=s.2.1}).cells::.cells 0 Z::s.2.2))
  (λs=>s.1<=ops.length/\O=(ops.drop s.1).foldl (λn o=>if cp o=true then mK n o.at_ else n) s.2.1) (λs=>ops.length-s.1) (0,m.seen,[]) ⟨cb _,by simp[p6]⟩ ?_ ?_ ?_
 ·simp[go_sem]
 ·simp[lf,tr,I.cells]
 rintro⟨k,s,M⟩ ⟨hk,hs⟩;simp only at hk hs ⊢;obtain⟨G,a7⟩:∃G,H++(.cells 0 (lf false false false false {m with log:=g,seen:=s}).cells::.cells 0 Z::M)=G:=⟨_,rfl⟩;by_cases J:k<ops.length
 ·rw[a7];have g0:az G H.length=.cells 0 (lf false false false false {m with log:=g,seen:=s}).cells:=by rw[<-a7];simp only[go_sem]
  have g1:=bE g0 trivial;have g2:=hU g0 trivial;have gs:∀X,an G H.length X=H++(X::.cells 0 Z::M):=λX=>by rw[<-a7];simp only[go_sem]
  have S:=ek bt J;have ju:=ir J;rw[ju,qC]at hs;have gH:=aD _<|fQ J;obtain⟨o,Sf⟩:∃o,o=ops[k]:=⟨_,rfl⟩;rw[<-Sf]at S hs gH;have bq:=DJ o gH;have FU:=Y2 s o.at_ true;simp only[bt]at S bq;have V:decide ((k:Int)<(ops.length:Int))=true:=cS;have hw:=eb J gf
  cases hO:cp o with
  |true=>
   rw[hO]at bq;rw[hO,aC rfl]at hs;repeat' first|(refine ae ?_;simp only[go_sem,g0,g1,g2,lf,tr,S,V,J])|refine ai ?_|fail
   exact⟨(k+1,mK s o.at_,M++[.cells 0 (bt o).cells]),⟨J,hs⟩,by simp only;omega,b7 _ hw,by rw[gs];simp[bt,I.cells]⟩
  |false=>
   rw[hO]at bq;rw[hO,ar hW]at hs;repeat' first|(refine ae ?_;simp only[go_sem,g0,g1,g2,lf,tr,S,V,J])|refine ai ?_|fail
   exact⟨(k+1,s,M++[.cells 0 (bt o).cells]),⟨J,hs⟩,by simp only;omega,b7 _ hw,by rw[<-a7];simp[bt,lf,tr,I.cells]⟩
 ·have k8:k=ops.length:=gf;have V:decide ((k:Int)<(ops.length:Int))=false:=dA;rw[k8,qD]at hs;repeat' first|(refine ae ?_;simp only[go_sem,lf,tr,V,U])|refine ai ?_|fail
  rw[z];exact aX<|.of (by rw[hs];rfl)
def zE(e:e7):al:=jf [e.kind]++dj e.path
def yh(t:bF):al:=if t.done=true then
 jf [if t.ended=true then 2 else 1,t.bZ.err]++dj t.bZ.data++jf [(t.bZ.names.length:Int)]++t.bZ.names.flatMap dj++jf [t.bZ.n,(t.bZ.events.length:Int)]++t.bZ.events.flatMap zE else jf [0]
theorem ur{f:FuncId}{R J:List I}{L:ab}(hw:jG i j k T R G)(O:BV P f i j args (G++L) v lY J)(ok:jr P f=true)
  (hk:∀k1 U,jG i j k1 lY J U->U.length=G.length->(∀k t R',gR U i j k t R'=gR G i j k t R')->K v (U++L)):oR P (.func (.func f) [] []) (.ref i 0 0::args) (G++L) K:=by
 refine c4 O ok ?_;rintro x H' ⟨rfl,k1,rfl⟩;rw[hw.pV];exact hk k1 _ (hw.put k1 lY J) (Dx _ _ _ _ _ _) λk t R'=>hw.sq k1 k lY t J R'
theorem KI{α:Type}(f:α->al){l:List α}{q:Nat}(h:q<l.length):(l.take (q+1)).flatMap f=(l.take q).flatMap f++f l[q]:=by rw[hc h,qx];simp
theorem x7{α:Type}{f:α->al}{l:List α}{c:Nat}(h:∀x∈l,(f x).length<=c):∀q,((l.take q).flatMap f).length<=c * q
 |0=>hW
 |q+1=>by
  have J:=x7 h q;by_cases aM:q<l.length
  ·have:=h _<|fQ aM;rw[KI f aM,bw,Nat.mul_add];omega
  ·rw[qy gf]at J ⊢;rw[Nat.mul_add];omega
theorem nN{l:List Int}(h:∀n∈l,n<=9223372036854775807):(jf l).length<=9 * l.length:=by
 have:=x7 (f:=λn:Int=>bT n.toNat) (c:=9) (λn af=>jq (oC<|h n af)) l.length
 rwa[fe]at this
theorem aGM(t:bF)(hw:jG i j k T [] H)(aG:tS t.bZ)(aa:T.length<=100000000000):
  BV prog 51 i j [aZ t] H (.aN []) (T++yh t) []:=by
 refine h9 func51 ?_;unfold yh aZ;cases kJ:t.done with
 |false=>
  rw[ar nofun];repeat' first|(refine ae ?_;simp only[go_sem,kJ])|refine bp ?_|(refine bz ?_ ?_<;>intro h<;>try exact bx h)|fail
  refine ur hw (rU true [0] (hw.app _) hW hW gf) aI λk1 cO dw cM tf=>?_;simp only[go_sem];repeat' first|(refine ae ?_;simp only[go_sem])|refine bp ?_|(refine bz ?_ ?_<;>intro h<;>try exact bx h)|fail
  exact rb hw hW (.cl _ (.aN _ λ_ _ J=>by simp at J))<|dw.own.symm.trans (tf _ _ _)
 |true=>
  rw[aC rfl];obtain⟨h1,h2,h3,h4,b6,dP,lE⟩:=aG;obtain⟨z,a1⟩:∃z:Int,z=if t.ended=true then 2 else 1:=⟨_,rfl⟩
  have F7:z<=2:=by rw[a1];split<;>omega
  rw[<-a1];obtain⟨B,Z⟩:∃B:List I,B=[.int .i64 t.call.kind,.str t.call.path,.str t.call.to,.str t.call.data,.int .i64 t.call.n,.sl false<|t.has.map bu,.int .i64 t.at_,.bool true,.bool t.ended,.int .i64 t.upto,.int .i64 t.mU,.int .i64 t.mark,.int .i64 t.end_,.int .i64 t.bZ.err,.str t.bZ.data,.sl false<|t.bZ.names.map I.str,.int .i64 t.bZ.n,.sl false<|t.bZ.events.map dt]:=⟨_,rfl⟩;rw[<-Z];have aX8:=b7 I.agg Z;repeat' first|(refine ae ?_;simp only[go_sem,Z])|refine bp ?_|fail
  refine kA rfl (λh=>nomatch h) λ_=>?_;refine HQ ?_;repeat' first|(refine ae ?_;simp only[go_sem])|refine bp ?_|fail
  rw[<-Z];refine Ky (ι:=Unit) (λ_=>[(0,.ref i 0 0),(3,.ref H.length 0 0),(4,.int .i64 z)]) (λ_=>H++[.cells 0 B]) (λ_=>True) ?_ λ_ _=>?_
  ·cases he:t.ended<;>rw[he]at a1<;>simp at a1<;>subst a1
   ·repeat' first|(refine ae ?_;simp only[go_sem])|refine bp ?_|(refine bz ?_ ?_<;>intro h<;>try exact bx h)|fail
    exact⟨(),trivial⟩
   ·repeat' first|(refine ae ?_;simp only[go_sem])|refine bp ?_|(refine bz ?_ ?_<;>intro h<;>try exact bx h)|fail
    exact⟨(),trivial⟩
  rw[Z];repeat' first|(refine ae ?_;simp only[go_sem])|refine bp ?_|(refine bz ?_ ?_<;>intro h<;>try exact bx h)|fail
  rw[<-Z];obtain⟨C,O⟩:∃C:List I,C=[.int .i64 t.bZ.err,.str t.bZ.data,.sl false<|t.bZ.names.map I.str,.int .i64 t.bZ.n,.sl false<|t.bZ.events.map dt]:=⟨_,rfl⟩;rw[<-O];have cx:=nN (l:=[z,t.bZ.err]) nc
  have a2:=kX (t:=t.bZ.data) gf;have a3:=nN (l:=[(t.bZ.names.length:Int)]) nc;have a4:=x7 (f:=dj) (l:=t.bZ.names) (c:=20009) λx J=>e1 (kX (oC<|h4 x J)) (oC<|h4 x J)
  have a5:=nN (l:=[t.bZ.n,(t.bZ.events.length:Int)]) nc;have mP:=x7 (f:=zE) (l:=t.bZ.events) (c:=20018) (λx J=>by have:=lE x J;have aW:=kX (t:=x.path) gf;have bA:=nN (l:=[x.kind]) nc;unfold zE;simp only[bw,cd,dZ]at *;omega)
  simp only[cd,dZ]at cx a3 a5;refine ur hw (rU true [z,t.bZ.err] (hw.app _) nc hW gf) aI λk1 cO dw cM tf=>?_;rw[<-cM];obtain⟨w7,CC⟩:∃w7,w7=T++jf [z,t.bZ.err]:=⟨_,rfl⟩;have aW:w7.length<=T.length+18:=by rw[CC,bw];omega
  rw[<-CC]at dw;simp only[go_sem];rw[O];repeat' first|(refine ae ?_;simp only[go_sem])|refine bp ?_|(refine bz ?_ ?_<;>intro h<;>try exact bx h)|fail
  rw[<-O];refine ur dw (Bf t.bZ.data (dw.app _) gf gf) aI λk2 dd dQ cH n2=>?_;rw[<-cH];obtain⟨lY,AL⟩:∃lY,lY=w7++dj t.bZ.data:=⟨_,rfl⟩;have bA:lY.length<=w7.length+20009:=by rw[AL,bw];omega
  rw[<-AL]at dQ;simp only[go_sem];rw[O];repeat' first|(refine ae ?_;simp only[go_sem])|refine bp ?_|(refine bz ?_ ?_<;>intro h<;>try exact bx h)|fail
  rw[<-O];refine ur dQ (rU true [(t.bZ.names.length:Int)] (dQ.app _) nc hW gf) aI λk3 fS q6 jN C3=>?_;rw[<-jN];obtain⟨Ed,Rv⟩:∃Ed,Ed=lY++jf [(t.bZ.names.length:Int)]:=⟨_,rfl⟩;have iv:Ed.length<=lY.length+9:=by rw[Rv,bw];omega
  rw[<-Rv]at q6;simp only[go_sem];rw[O];repeat' first|(refine ae ?_;simp only[go_sem])|refine bp ?_|(refine bz ?_ ?_<;>intro h<;>try exact bx h)|fail
  rw[<-O];obtain⟨D,bR⟩:∃D:Nat->al,∀q,D q=Ed++(t.bZ.names.take q).flatMap dj:=⟨_,λ_=>rfl⟩;refine c7 (ι:=Nat×Nat) (λx=>[(0,.ref i 0 0),(5,.ref (fS.length+1) 0 0),(37,.sl false<|t.bZ.names.map I.str),(38,.int .i64 t.bZ.names.length),(39,.int .i64 x.1)]) (λx=>gR fS i j x.2 (D x.1) []++[.cells 0 B,.cells 0 C]) (λx=>x.1<=t.bZ.names.length) (λx=>t.bZ.names.length-x.1) (0,k3) (cb _) ?_ (by rw[bR];simp[q6.own]) ?_
  ·simp[go_sem]
  rintro⟨q,S⟩ aM;simp only at aM ⊢;have Ju:=q6.put S (D q) [];have aBw:=Dx fS i j S (D q) [];have aBW:=λk t R'=>q6.sq S k (D q) t [] R';have Q1:(D q).length<=Ed.length+20009 * q:=by rw[bR,bw];have:=a4 q;omega
  generalize gR fS i j S (D q) []=w3 at *;rw[<-aBw];by_cases U:q<t.bZ.names.length
  ·have cA:=ek I.str U;have V:decide ((q:Int)<(t.bZ.names.length:Int))=true:=cS;have qT:D (q+1)=D q++dj t.bZ.names[q]:=by rw[bR,bR,KI dj U,c6]
   have ij:=h4 _<|fQ U;generalize t.bZ.names[q]=x at *;repeat' first|(refine ae ?_;simp only[go_sem,cA,V,U])|refine bp ?_|(refine bz ?_ ?_<;>intro h<;>try exact bx h)|fail
   refine ur Ju (Bf x (Ju.app _) gf gf) aI λgQ mm A5 ph zd=>?_;simp only[go_sem];repeat' first|(refine ae ?_;simp only[go_sem])|refine bp ?_|(refine bz ?_ ?_<;>intro h<;>try exact bx h)|fail
   refine⟨(q+1,gQ),U,by simp only;omega,b7 _<|eb U gf,?_⟩
   simp only;rw[qT,<-aBW,<-zd,A5.own]
  have l2:q=t.bZ.names.length:=gf;subst l2;have V:decide ((t.bZ.names.length:Int)<(t.bZ.names.length:Int))=false:=dA;obtain⟨HA,MF⟩:∃HA,HA=D t.bZ.names.length:=⟨_,rfl⟩;rw[<-MF]at Ju Q1;have MF:HA=Ed++t.bZ.names.flatMap dj:=by rw[MF,bR,fe]
  rw[O];repeat' first|(refine ae ?_;simp only[go_sem,V])|refine bp ?_|(refine bz ?_ ?_<;>intro h<;>try exact bx h)|fail
  rw[<-O];refine ur Ju (rU true [t.bZ.n,(t.bZ.events.length:Int)] (Ju.app _) nc hW gf) aI λgQ mm A5 ph zd=>?_;rw[<-ph];obtain⟨ou,s4⟩:∃ou,ou=HA++jf [t.bZ.n,(t.bZ.events.length:Int)]:=⟨_,rfl⟩;have mr:ou.length<=HA.length+18:=by rw[s4,bw];omega
  rw[<-s4]at A5;simp only[go_sem];rw[O];repeat' first|(refine ae ?_;simp only[go_sem])|refine bp ?_|(refine bz ?_ ?_<;>intro h<;>try exact bx h)|fail
  rw[<-O];obtain⟨E,eF⟩:∃E:Nat->al,∀q,E q=ou++(t.bZ.events.take q).flatMap zE:=⟨_,λ_=>rfl⟩;refine c7 (ι:=Nat×Nat×ab) (λx=>[(0,.ref i 0 0),(56,.sl false<|t.bZ.events.map dt),(57,.int .i64 t.bZ.events.length),(58,.int .i64 x.1)]) (λx=>gR mm i j x.2.1 (E x.1) []++x.2.2) (λx=>x.1<=t.bZ.events.length) (λx=>t.bZ.events.length-x.1) (0,gQ,[.cells 0 B,.cells 0 C]) (cb _) ?_ (by rw[eF];simp[A5.own]) ?_
  ·simp[go_sem]
  rintro⟨q,S,M⟩ aM;simp only at aM ⊢;have SF:=A5.put S (E q) [];have aYv:=Dx mm i j S (E q) [];have aBX:=λk t R'=>A5.sq S k (E q) t [] R';have aNc:(E q).length<=ou.length+20018 * q:=by rw[eF,bw];have:=mP q;omega
  generalize gR mm i j S (E q) []=pJ at *;by_cases U:q<t.bZ.events.length
  ·have cA:=ek dt U;have V:decide ((q:Int)<(t.bZ.events.length:Int))=true:=cS;have yW:E (q+1)=E q++zE t.bZ.events[q]:=by rw[eF,eF,KI zE U,c6]
   have ij:=lE _<|fQ U;generalize t.bZ.events[q]=x at *;simp only[dt]at cA;have aM2:=nN (l:=[x.kind]) nc
   simp only[cd,dZ]at aM2;have SG:=SF.app M;have CA:=λk t=>SF.pV k t [] M;obtain⟨UE,aOy⟩:∃UE,pJ++M=UE:=⟨_,rfl⟩;rw[aOy]at SG CA ⊢;repeat' first|(refine ae ?_;simp only[go_sem,cA,V,U])|refine bp ?_|(refine bz ?_ ?_<;>intro h<;>try exact bx h)|fail
   refine ur SG (rU true [x.kind] (SG.app _) nc hW gf) aI λA7 UD SE aBv aQl=>?_;obtain⟨K1,Rx⟩:∃K1,K1=E q++jf [x.kind]:=⟨_,rfl⟩;have QX:K1.length<=(E q).length+9:=by rw[Rx,bw];omega
   rw[<-Rx]at SE;simp only[go_sem];rw[<-aBv];repeat' first|(refine ae ?_;simp only[go_sem])|refine bp ?_|(refine bz ?_ ?_<;>intro h<;>try exact bx h)|fail
   refine ur SE (Bf x.path (SE.app _) gf gf) aI λDg aS7 aB4 aYu aQm=>?_;simp only[go_sem];repeat' first|(refine ae ?_;simp only[go_sem])|refine bp ?_|(refine bz ?_ ?_<;>intro h<;>try exact bx h)|fail
   refine⟨(q+1,Dg,M++[.cells 0 (dt x).cells]),U,by simp only;omega,b7 _<|eb U gf,?_⟩
   simp only;rw[<-c6,<-aBX,<-CA,<-aQl,<-aQm,yW,show E q++zE x=K1++dj x.path by(rw[Rx,c6];rfl),aB4.own]
   rfl
  have l2:q=t.bZ.events.length:=gf;subst l2;have V:decide ((t.bZ.events.length:Int)<(t.bZ.events.length:Int))=false:=dA;repeat' first|(refine ae ?_;simp only[go_sem,V])|refine bp ?_|(refine bz ?_ ?_<;>intro h<;>try exact bx h)|fail
  rw[ph,aBw,jN,cH,cM];refine rb hw hW (.cl _<|.aN _ λ_ _ J=>by simp at J) (k':=S) ?_
  rw[<-tf,<-n2,<-C3,<-aBW,<-zd,<-aBX];refine SF.own.symm.trans ?_;rw[eF,fe,s4,MF,Rv,AL,CC];simp only[c6]
def zF(x:eS):al:=dj x.path++(jf [x.id]++dj x.data)
def Qp(aE:List bF)(dN:List eS):al:=jf [(aE.length:Int)]++aE.flatMap yh++jf [(dN.length:Int)]++dN.flatMap zF
def lC(d:eR):al:=Qp d.c.aE<|jz d.c.m.log.nodes 0
theorem V2(h:tS t.bZ):(yh t).length<=41000000:=by
 obtain⟨h1,h2,h3,h4,V,Z,U⟩:=h;have a2:=kX (t:=t.bZ.data) gf;have a3:=nN (l:=[(t.bZ.names.length:Int)]) nc;have a4:=x7 (f:=dj) (l:=t.bZ.names) (c:=20009) (λx J=>e1 (kX (oC<|h4 x J)) (oC<|h4 x J)) t.bZ.names.length
 have a5:=nN (l:=[t.bZ.n,(t.bZ.events.length:Int)]) nc;have O:=x7 (f:=zE) (l:=t.bZ.events) (c:=20018) (λx J=>by have:=U x J;have aW:=kX (t:=x.path) gf;have bA:=nN (l:=[x.kind]) nc;unfold zE;simp only[bw,cd,dZ]at *;omega) t.bZ.events.length
 have S:∀z:Int,z<=2->(jf [z,t.bZ.err]).length<=18:=λz I=>nN (l:=[z,t.bZ.err]) nc;rw[fe]at a4 O;have K3:(jf [0]).length<=9:=nN (l:=[0]) hW;have K4:=S (if t.ended=true then 2 else 1)<|by split<;>omega
 simp only[cd,dZ]at a3 a5;unfold yh;split
 ·simp only[bw];omega
 ·omega
theorem V3{x:eS}(h:D7 x):(zF x).length<=40027:=by
 have aW:=kX (t:=x.path) (oC h.path);have bA:=nN (l:=[x.id]) (by have:=h.id;simp;omega)
 have iv:=kX (t:=x.data) (oC h.data);have:=h.path;have:=h.data;unfold zF;simp only[bw,cd,dZ]at *;omega
structure rK (H:ab) (A:List I) (k:Nat) (T:al) (G:ab):Prop where
 w:jG (H.length+1) (H.length+2) k T [] G
 a:az G H.length=.cells 0 A
 p:∃M,G=H++M
theorem rK.app{H:ab}{A:List I}{k:Nat}{T:al}{G:ab}(h:rK H A k T G)(L:ab):rK H A k T (G++L):=
 ⟨h.w.app L,bX h.a trivial L,by obtain⟨M,rfl⟩:=h.p;exact⟨M++L,c6 ..⟩⟩
theorem Ba{f:FuncId}{A:List I}(h:rK H A k T G)(O:BV P f (H.length+1) (H.length+2) args G v lY [])(ok:jr P f=true)
  (hk:∀k1 J,rK H A k1 lY J->J.length=G.length->(∀m,H.length+2<m->az J m=az G m)->K v J):oR P (.func (.func f) [] []) (.ref (H.length+1) 0 0::args) G K:=by
 refine c4 O ok ?_;rintro x H' ⟨rfl,k1,rfl⟩;have U:∀m,m≠H.length+1->m≠H.length+2->az (gR G (H.length+1) (H.length+2) k1 lY []) m=az G m:=λm h1 h2=>bN (bN rfl (λe=>h2 e.symm) _) (λe=>h1 e.symm) _;refine hk k1 _ ⟨h.w.put k1 lY [],(U _ gf gf).trans h.a,?_⟩ (Dx _ _ _ _ _ _) λm hm=>U m gf gf;obtain⟨M,rfl⟩:=h.p;unfold gR;exact lz (lz ⟨M,rfl⟩ gf _) gf _
theorem Ls(d:eR)(ag:∀t∈d.c.aE,tS t.bZ)(af:d.c.aE.length<=40)(hw:kz d.c.m.log.nodes)(hl:d.c.m.log.nodes.length<=1073741824)(hm:rI d.c.m.log.nodes)(hi:∀x∈jz d.c.m.log.nodes 0,D7 x)(bK:(jz d.c.m.log.nodes 0).length<=1000)(H:ab):
  aO prog 25 [ez d] H (.str<|lC d):=by
 refine bg func25 ?_;have ta:=P5 false d.c.m.log.nodes 0 hw ko hl hm;unfold lC Qp;obtain⟨U,aPw⟩:∃U,U=jz d.c.m.log.nodes 0:=⟨_,rfl⟩;rw[<-aPw]at ta hi bK ⊢;unfold ez fq;iterate 4 first|(refine ae ?_;simp only[go_sem])|refine bp ?_|(refine bz ?_ ?_<;>intro h<;>try exact bx h)|fail
 refine uM (v:=0) (cs:=[.sl true []]) (H.length+1) 0 1 mZ rfl ?_;simp only[go_sem];repeat' first|(refine ae ?_;simp only[go_sem])|refine bp ?_|(refine bz ?_ ?_<;>intro h<;>try exact bx h)|fail
 obtain⟨A,cc⟩:∃A,A=(ez d).cells:=⟨_,rfl⟩;simp only[fq,I.cells]at cc;rw[<-cc];obtain⟨nK,uw⟩:∃nK,H++[.cells 0 A,.cells 0 [.osl 1 (H.length+2) 1 0 0 0],.cells 1 []]=nK:=⟨_,rfl⟩;have cU:rK H A 0 [] nK:=uw▸⟨jG.aCs H _ [],mZ,_,rfl⟩;rw[uw];have cx:=nN (l:=[(d.c.aE.length:Int)]) nc;have a2:=x7 (f:=yh) (l:=d.c.aE) (c:=41000000) λx J=>V2 (ag x J);have a3:=nN (l:=[(U.length:Int)]) nc;have a4:=x7 (f:=zF) (l:=U) (c:=40027) λx J=>V3 (hi x J);simp only[cd,dZ]at cx a3;refine Ba cU (rU true [(d.c.aE.length:Int)] cU.w nc hW hW) aI λk1 cO c5 cM ev=>?_;rw[jb]at c5;obtain⟨D,Z⟩:∃D:Nat->al,∀q,D q=jf [(d.c.aE.length:Int)]++(d.c.aE.take q).flatMap yh:=⟨_,λ_=>rfl⟩;have aL:=c5.a;rw[cc]at aL;simp only[go_sem];repeat' first|(refine ae ?_;simp only[go_sem,aL])|refine ai ?_|fail
 refine c7 (ι:=Nat×Nat×ab) (λx=>[(1,.ref H.length 0 0),(3,.ref (H.length+1) 0 0),(17,.sl false<|d.c.aE.map aZ),(18,.int .i64 d.c.aE.length),(19,.int .i64 x.1)]) (λx=>x.2.2) (λx=>x.1<=d.c.aE.length/\rK H A x.2.1 (D x.1) x.2.2) (λx=>d.c.aE.length-x.1) (0,k1,cO) ⟨cb _,by rw[Z];simpa using c5⟩ ?_ rfl ?_
 ·simp[go_sem]
 rintro⟨q,tp,G⟩ ⟨aM,O⟩;simp only at aM O ⊢;have Q1:(D q).length<=9+41000000 * q:=by rw[Z,bw];have:=a2 q;omega
 by_cases S:q<d.c.aE.length
 ·have z:=ek aZ S;have V:decide ((q:Int)<(d.c.aE.length:Int))=true:=cS;have qT:D (q+1)=D q++yh d.c.aE[q]:=by rw[Z,Z,KI yh S,c6]
  have ij:=ag _<|fQ S;generalize d.c.aE[q]=x at *;simp only[aZ]at z;repeat' first|(refine ae ?_;simp only[go_sem,z,V,S])|refine ai ?_|fail
  refine Ba (O.app _) (aGM x (O.app _).w ij gf) aI λgQ mm e5 ph MV=>?_;simp only[go_sem];repeat' first|(refine ae ?_;simp only[go_sem])|refine ai ?_|fail
  exact⟨(q+1,gQ,mm),⟨S,qT▸e5⟩,by simp only;omega,b7 _<|eb S gf,rfl⟩
 have l2:q=d.c.aE.length:=gf;subst l2;have V:decide ((d.c.aE.length:Int)<(d.c.aE.length:Int))=false:=dA;obtain⟨w7,CC⟩:∃w7,w7=D d.c.aE.length:=⟨_,rfl⟩;rw[<-CC]at O Q1;rw[Z,fe]at CC;have aR:=O.a;rw[cc]at aR;repeat' first|(refine ae ?_;simp only[go_sem,V,aR])|refine ai ?_|fail
 refine Ba O (rU true [(U.length:Int)] O.w nc hW gf) aI λk2 dd cY cH ew=>?_;obtain⟨E,eF⟩:∃E:Nat->al,∀q,E q=w7++jf [(U.length:Int)]++(U.take q).flatMap zF:=⟨_,λ_=>rfl⟩;simp only[go_sem];repeat' first|(refine ae ?_;simp only[go_sem])|refine ai ?_|fail
 refine c7 (ι:=Nat×Nat×ab) (λx=>[(3,.ref (H.length+1) 0 0),(36,.sl false<|U.map dM),(37,.int .i64 U.length),(38,.int .i64 x.1)]) (λx=>x.2.2) (λx=>x.1<=U.length/\rK H A x.2.1 (E x.1) x.2.2) (λx=>U.length-x.1) (0,k2,dd) ⟨cb _,by rw[eF];simpa using cY⟩ ?_ rfl ?_
 ·simp[go_sem]
 rintro⟨q,tp,G⟩ ⟨aM,O⟩;simp only at aM O ⊢;have aNc:(E q).length<=w7.length+9+40027 * q:=by rw[eF,bw,bw];have:=a4 q;omega
 by_cases S:q<U.length
 ·have z:=ek dM S;have V:decide ((q:Int)<(U.length:Int))=true:=cS;have yW:E (q+1)=E q++zF U[q]:=by rw[eF,eF,KI zF S,<-c6]
  have ij:=hi _<|fQ S;generalize U[q]=x at *;simp only[dM]at z;have hy:=O.w.fF;obtain⟨cw,cL,dx⟩:=ij;have aW:=kX (t:=x.path) gf
  have bA:=nN (l:=[x.id]) nc;simp only[cd,dZ]at bA;repeat' first|(refine ae ?_;simp only[go_sem,z,V,S])|refine ai ?_|fail
  refine Ba (O.app _) (Bf x.path (O.app _).w gf gf) aI λgQ mm e5 ph MV=>?_;have i5:az mm G.length=.cells 0 [.str x.path,.int .i64 x.id,.str x.data]:=(MV _ hy).trans mZ;obtain⟨ou,s4⟩:∃ou,ou=E q++dj x.path:=⟨_,rfl⟩;have ui:ou.length<=(E q).length+20009:=by rw[s4,bw];omega
  rw[<-s4]at e5;simp only[go_sem];repeat' first|(refine ae ?_;simp only[go_sem,i5])|refine ai ?_|fail
  refine Ba e5 (rU true [x.id] e5.w nc hW gf) aI λre pJ sr FH aPG=>?_;have i6:az pJ G.length=.cells 0 [.str x.path,.int .i64 x.id,.str x.data]:=(aPG _ hy).trans i5;obtain⟨K0,Rw⟩:∃K0,K0=ou++jf [x.id]:=⟨_,rfl⟩;have As:K0.length<=ou.length+9:=by rw[Rw,bw];omega
  rw[<-Rw]at sr;simp only[go_sem];repeat' first|(refine ae ?_;simp only[go_sem,i6])|refine ai ?_|fail
  refine Ba sr (Bf x.data sr.w gf gf) aI λA7 UD Od aBv aYs=>?_;simp only[go_sem];repeat' first|(refine ae ?_;simp only[go_sem])|refine ai ?_|fail
  refine⟨(q+1,A7,UD),⟨S,?_⟩,by simp only;omega,b7 _<|eb S gf,rfl⟩
  rw[show E (q+1)=K0++dj x.data by(rw[yW,Rw,s4];simp only[zF,c6])]
  exact Od
 have l2:q=U.length:=gf;subst l2;have V:decide ((U.length:Int)<(U.length:Int))=false:=dA;obtain⟨lY,AL⟩:∃lY,lY=E U.length:=⟨_,rfl⟩;rw[<-AL]at O;rw[eF,fe,CC]at AL;have bC:=O.w.aW;have cD:=O.w.bA;unfold rA at bC;simp only[c6]at AL;simp only[<-AL];repeat' first|(refine ae ?_;simp only[go_sem,V,bC,cD])|refine ai ?_|fail
 obtain⟨M,rfl⟩:=O.p;exact⟨M,.str lY,rfl,.cl _<|.str _,rfl⟩
theorem aGN{c:cg}(h1:c.path.length<=1048576)(h2:c.to.length<=1048576)(h3:c.data.length<=1048576)(h4:c.n<=9223372036854775807):(ub c).length<=45+c.path.length+c.to.length+c.data.length:=by
 unfold ub;split
 ·simp
 ·rename_i p ad;have ay:=NY ad;have a0:=jq (n:=c.kind.toNat) gf;have J:=GG (p:=p) (q:=1) (t:=c.path) gf;have a2:=GG (p:=p) (q:=2) (t:=c.to) gf;have a3:=GG (p:=p) (q:=4) (t:=c.data) gf;have a4:(rk p c.n).length<=9:=by
   unfold rk;split
   ·simp
   ·exact jq gf
  simp only[bw];omega
theorem V4(h:uO o=true):o.call.path.length<=1000/\o.call.to.length<=1000/\o.call.data.length<=5000/\o.cC.length<=1000:=by unfold uO DL KC at h;simp at h;omega
theorem PZ{l:List Ord}(h:xe l n=true):(∀o∈l,uO o=true)/\(l.length:Int)<=n:=by unfold xe at h;simp only[dp,fu,iK]at h;exact h
structure BQ (o:Ord):Prop where
 n:o.call.n<=9223372036854775807
 pick:o.pick<=9223372036854775807
theorem aH7(h:uO o=true)(hi:BQ o):lX o:=by have:=V4 h;exact⟨gf,gf,gf,hi.n,hi.pick,gf⟩
theorem lX.aRD(h:lX o):BR o:=⟨⟨oC h.path,oC h.to,oC h.data,h.n⟩,h.pick,oC h.cC⟩
theorem aGO(h:uO o=true)(hi:BQ o)(J:gF o=true):(sA o).length<=8054:=by
 have hs:=aH7 h hi;have:=V4 h;have hk:=Uu J;have a0:=jq (n:=o.kind.toNat) gf;have U:=aGN hs.path hs.to hs.data hs.n;have a2:=jq (n:=o.pick.toNat) (oC hs.pick);have a3:=kX (t:=o.cC) gf;unfold sA;rw[bw]
 (repeat' split)<;>first|omega|(simp;omega)
theorem XQ:∀(l:List Ord),(∀o∈l,uO o=true)->(∀o∈l,BQ o)->l.all gF=true->(sI l).length<=8054 * l.length
 |[],_,_,_=>by simp[sI]
 |o::l,h,hi,U=>by
  rw[List.all_cons,dp]at U;have:=XQ l (λx J=>h x<|by simp[J]) (λx J=>hi x<|by simp[J]) U.2
  have:=aGO (h o hW) (hi o hW) U.1;rw[Ur,bw,cd];omega
theorem O4{r:Int}{l:List Ord}{w:al}(h:oP r s l=some w)(J:xe l 60=true)(hi:∀o∈l,BQ o):w.length<=1048576:=by obtain⟨U,a2,a3,a4,a5,rfl⟩:=NZ h;obtain⟨h1,h2⟩:=PZ J;have:=XQ l h1 hi a5;have:=jq (n:=r.toNat) gf;have:=jq (n:=s.toNat) gf;simp only[bw];omega
theorem WV:∀(k:Nat) (b:al) (l:List Ord),b.length<=1048576->mC k b=some l->(∀o∈l,lX o)/\l.length<=b.length
 |0,b,l,_,h=>by
  rw[mC]at h;split at h
  ·cases h;exact⟨λo U=>(p2 U),hW⟩
  ·cases h
 |k+1,b,l,O,h=>by
  rw[mC]at h;split at h
  ·cases h;exact⟨λo U=>(p2 U),hW⟩
  ·simp only[kv,gA,sE]at h;obtain⟨o,r,h1,m,h2,rfl⟩:=h;obtain⟨ax,S,aU⟩:=Gq h1 gf;obtain⟨i1,i2⟩:=WV k r m gf h2;refine⟨λx J=>?_,by rw[cd];omega⟩
   rcases db.1 J with rfl|J
   ·exact Xe h1 O
   ·exact i1 x J
theorem aH8{b:al}{r:Int}{l:List Ord}(J:b.length<=1048576)(h:k6 b=some (r,s,l)):(∀o∈l,lX o)/\l.length<=b.length/\r<=9223372036854775807/\s<=9223372036854775807:=by
 unfold k6 at h;simp only[kv,sE]at h;obtain⟨x,U,ay,y,O,h1,m,h2,h3⟩:=h;split at h3
 ·cases h3;have S:=hg ay;have ax:=hg h1;obtain⟨a,b⟩:=WV _ _ _ gf h2;exact⟨a,gf,(GF ay).2,(GF h1).2⟩
 ·cases h3
theorem ON(o:Option al):∃w e,Ir o=.aN [.str w,.int .i64 e]/\(o=none/\w=[]/\e=240\/o=some w/\e=0):=by
 cases o with
 |none=>exact⟨_,_,rfl,.inl ⟨rfl,rfl,rfl⟩⟩
 |some w=>exact⟨_,_,rfl,.inr ⟨rfl,rfl⟩⟩
end Go.Proofs.YtnmamncmpklliaaGreatDoor
