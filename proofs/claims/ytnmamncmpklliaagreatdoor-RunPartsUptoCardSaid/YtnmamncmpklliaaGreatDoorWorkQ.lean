/- What functions answer. No condition. -/
import Derived.Test.YtnmamncmpklliaaGreatDoorWorkJ
import Derived.Test.YtnmamncmpklliaaGreatDoorWorkM
import Derived.Test.YtnmamncmpklliaaGreatDoorWorkP
set_option linter.unusedSimpArgs false
set_option linter.unusedVariables false
set_option linter.unusedSectionVars false
set_option maxRecDepth 100000
set_option maxHeartbeats 16000000
namespace Go.Proofs.YtnmamncmpklliaaGreatDoor
variable{aE:List bF}{i who n j h v lc:Nat}{t a b t2:bF}{x y:bM}{w:dI}{has:Nat->List Int}{k e:Int}{es:List (I×I×Nat)}{G H:ab}{ps:List (Bool×List e7)}{α:Type}{cs:List I}{c:cg}{d:cB}{yj eQ dV gn vc sy Kt Ku Kv Kw Km Kn Ko Kp Kq Kr Ks:I}{P:Program}
open Go.Proofs.Tryz
def js(aE:List bF)(i:Nat):List Int:=(aE[i]?.map (·.has)).getD []
theorem pA(h:aE[i]?=some t):js aE i=t.has:=by unfold js;rw[h];rfl
theorem x8(hi:i<aE.length):js (aE.set i t)=kW (js aE) i t.has:=by unfold js kW;grind
structure eL (x:bM):Prop where
 iX:fJ x.m
 cs:∀t∈x.aE,o3 t.call
 n:x.aE.length<=40
 hN:hf x.t x.aE.length (js x.aE)
 kt:∀t∈x.aE,ov x.m.log.nodes t
 wt:∀w∈x.t.waits,∀i:Nat,w.aZ=i->∀t,x.aE[i]?=some t->fX x.m.log.nodes t=⟨1,w.lock⟩
 AG:x.g.waits.Pairwise λa b=>a.aZ≠b.aZ
 oI:∀w∈x.g.waits,∃(i:Nat) (t:bF),w.aZ=i/\x.aE[i]?=some t/\t.done=true/\t.ended=false/\t.call.kind=12/\t.has=[]/\w.upto=t.upto/\x.g.kept<w.upto
 kp:0<=x.g.kept/\x.g.kept<=x.ops.length
 up:∀t∈x.aE,0<=t.upto/\t.upto<=x.ops.length
 DD:∀t∈x.aE,t.call.kind=12->t.ended=true->t.bZ.err=0->t.upto<=x.g.kept
 ops:x.ops.length<=x.m.log.entries.length+2000
theorem eL.tick(c:eL x):eL (BZ x):=⟨c.iX,c.cs,c.n,c.hN,c.kt,c.wt,c.AG,c.oI,c.kp,c.up,c.DD,c.ops⟩
theorem aKN{r:Int}(h:mG r=(x,0)):eL x:=by
 unfold mG at h;split at h
 ·rename_i ay;obtain⟨m,hm⟩:∃m,og r=(m,0):=⟨(og r).1,Prod.ext rfl ay⟩;rw[hm]at h;cases h;refine⟨Zu hm,λt ag=>?_,cb _,Zv,λt ag=>?_,λw hw=>?_,.nil,λw hw=>?_,⟨jU 0,jU 0⟩,λt ag=>?_,λt ag=>?_,?_⟩
  ·cases ag
  ·cases ag
  ·cases hw
  ·cases hw
  ·cases ag
  ·cases ag
  ·exact cb _
 grind
theorem eL.start{x:bM}(c:eL x){k:cg}(hk:o3 k):eL (sa x k).1:=by
 unfold sa;split
 ·exact c
 ·rename_i hl;have hi:∀(i:Nat) t,x.aE[i]?=some t->(x.aE++[{so k with mU:=IntKind.i64.wrap (x.time+1)}])[i]?=some t:=λi t h=>by
   grind
  have U:js (x.aE++[{so k with mU:=IntKind.i64.wrap (x.time+1)}])=js x.aE:=by
   funext i;unfold js;rw[List.getElem?_append];split
   ·rfl
   ·rename_i h;rw[wW (by omega:x.aE.length<=i)]
    cases i-x.aE.length<;>rfl
  have hm:∀t∈x.aE++[{so k with mU:=IntKind.i64.wrap (x.time+1)}],t∈x.aE\/t={so k with mU:=IntKind.i64.wrap (x.time+1)}:=λt ag=>oq ag
  refine⟨c.iX,λt ag=>?_,?_,?_,λt ag=>?_,λw hw i e t ag=>?_,c.AG,λw hw=>?_,c.kp,λt ag=>?_,λt ag=>?_,c.ops⟩
  ·rcases hm t ag with h|rfl
   ·exact c.cs t h
   ·exact hk
  ·simp only[bw,cd,dZ];omega
  ·simp only[bw,cd,dZ,U];exact c.hN.start<|by unfold js;rw[wW (bh _)];rfl
  ·rcases hm t ag with h|rfl
   ·exact c.kt t h
   ·exact⟨λh=>(p2 h),λ_ _=>⟨cb _,jU 0,(by decide:(0:Int)<=16),λ_=>rfl,λk hk=>(p2 hk)⟩,λ_ _=>List.nil_prefix,λ_ _ _=>rfl⟩
  ·obtain⟨j,O,J, -⟩:=c.hN.sw w hw;have K:i=j:=gf;subst K;refine c.wt w hw i e t ?_;have:=hi i _<|dn J;rw[this]at ag;rw[dn J,ag]
  ·obtain⟨i,t,h1,h2,h3⟩:=c.oI w hw;exact⟨i,t,h1,hi i t h2,h3⟩
  ·rcases hm t ag with h|rfl
   ·exact c.up t h
   ·exact⟨jU 0,(by simp:0<=(x.ops.length:Int))⟩
  ·rcases hm t ag with h|rfl
   ·exact c.DD t h
   ·intro _ h;cases h
theorem eL.gen(c:eL x)(hm:y.m=x.m)(K:y.ops=x.ops)(J:y.g=x.g)(hl:y.aE.length=x.aE.length)(O:hf y.t x.aE.length (js y.aE))
  (S:∀(i:Nat) t',y.aE[i]?=some t'->∃t,x.aE[i]?=some t/\t'.call=t.call/\t'.upto=t.upto/\t'.bZ=t.bZ/\t'.ended=t.ended/\ov x.m.log.nodes t'/\(t'=t\/∀w∈x.g.waits,w.aZ≠i))
  (hw:∀w∈y.t.waits,∀i:Nat,w.aZ=i->∀t,y.aE[i]?=some t->fX x.m.log.nodes t=⟨1,w.lock⟩):eL y:=by
 have U:∀t'∈y.aE,∃t∈x.aE,t'.call=t.call/\t'.upto=t.upto/\t'.bZ=t.bZ/\t'.ended=t.ended/\ov x.m.log.nodes t':=λt' h=>by grind [List.getElem?_of_mem,dy]
 refine⟨by rw[hm];exact c.iX,λt ag=>?_,by rw[hl];exact c.n,by rw[hl];exact O,λt ag=>?_,by rw[hm];exact hw,by rw[J];exact c.AG,λw h=>?_,by rw[J,K];exact c.kp,λt ag=>?_,λt ag=>?_,by rw[K,hm];exact c.ops⟩
 ·obtain⟨t0,ay,h1, -⟩:=U t ag;rw[h1];exact c.cs _ ay
 ·obtain⟨t0,ay, -, -, -, -,h1⟩:=U t ag;rw[hm];exact h1
 ·rw[J]at h ⊢;obtain⟨i,t,h1,h2,h3⟩:=c.oI w h;have hi:i<y.aE.length:=j9;obtain⟨t0,g1, -, -, -, -, -,g2⟩:=S i _<|dn hi;rw[h2]at g1;cases g1;rcases g2 with g2|g2
  ·exact⟨i,t,h1,by rw[<-g2];exact dn hi,h3⟩
  ·exact absurd h1<|g2 w h
 ·obtain⟨t0,ay, -,h1, -⟩:=U t ag;rw[h1,K];exact c.up _ ay
 ·obtain⟨t0,ay,h1,h2,h3,h4, -⟩:=U t ag;rw[h1,h2,h3,h4,J];exact c.DD _ ay
theorem Pc{p:Int}(h:wL x p=some who):who∈kG x:=by
 unfold wL at h;split at h
 ·cases h
 ·rename_i af;have hl:=nH.2 af;have h2:p % ((kG x).length)<(kG x).length:=Int.emod_lt_of_pos _ gf;grind
theorem aIm:i∈kG x↔∃t,x.aE[i]?=some t/\sg x (t,i)=true:=by grind [kG,bP,mg,sE,List.mem_zipIdx_iff_getElem?]
theorem P1(h:i∈kG x):∃t,x.aE[i]?=some t/\t.ended=false/\(∀w∈x.t.waits,w.aZ≠i)/\(iC x.g i=true->z7 x.g=some (i:Int)):=by obtain⟨t,h1,h2⟩:=aIm.1 h;grind [sg,yt,QI,vt]
theorem nz{l:List bF}(h:l[i]?=some t)(f):hx l i f=l.set i (f t):=by unfold hx;grind
theorem EW{g:o4}{n:Int}:iC g n=false↔∀w∈g.waits,w.aZ≠n:=by unfold iC;simp
theorem XA{l:List dI}{n:Int}(h:∀w∈l,w.aZ≠n):vt l n=none:=by unfold vt;simpa using h
theorem eL.take{x:bM}(c:eL x){who:Nat}{t:bF}{k:Int}(ag:x.aE[who]?=some t)(hw:∀w∈x.t.waits,w.aZ≠who)(S:iC x.g who=false)(af:fX x.m.log.nodes t=⟨1,k⟩):eL (BX who k x):=by
 have hi:=(cu.1 ag).1;obtain⟨h1,h2,h3,h4⟩:=Bk c.iX.nodes.lA (c.kt t<|dy ag) af;obtain⟨T,a2,a3,a4,a5,V, -⟩:=Dy t k;have K:=pA ag;unfold BX yM;cases O:xk x.t.held k with
 |none=>
  simp only[dW];rw[nz ag];have U:=c.hN.take hi (XA hw) O;rw[K,<-T,<-x8 hi]at U;refine c.gen rfl rfl rfl hW U (λi t' h=>?_) (λw J i e t' h=>?_)
  ·rw[yr]at h;split at h
   ·rename_i e;subst e;cases h;exact⟨t,ag,a2,a5,V,a4,h4,.inr<|EW.1 S⟩
   ·exact⟨t',h,rfl,rfl,rfl,rfl,c.kt t'<|dy h,.inl rfl⟩
  ·have Z:who≠i:=λI=>hw w J<|by rw[e,I]
   rw[gS Z]at h;exact c.wt w J i e t' h
 |some j=>
  have z:j≠who:=λe=>by
   have:=(c.hN.pY k j).1<|ZC O;obtain⟨i,ax, -,hk⟩:=this;have:i=who:=gf
   rw[this,K]at hk;exact h3 hk
  have FL:x.t.waits.contains (⟨k,who⟩)=false:=j9;simp only[ar z,FL,mM,gB];have U:=c.hN.wait hi (XA hw) (by rw[K];exact h3) O
  refine c.gen rfl rfl rfl rfl U (λi t' h=>⟨t',h,rfl,rfl,rfl,rfl,c.kt t' (dy h),.inl rfl⟩) λw J i e t' h=>?_;rw[fH,dH]at J;rcases J with J|rfl
  ·exact c.wt w J i e t' h
  ·have:i=who:=by simp only at e;omega
   subst this;rw[ag]at h;cases h;exact af
theorem eL.aAH(c:eL x)(hw:w∈x.t.waits):∃(j:Nat) (t:bF),w.aZ=j/\x.aE[j]?=some t/\fX x.m.log.nodes t=⟨1,w.lock⟩/\ov x.m.log.nodes (dE t ⟨1,w.lock⟩)/\t.done=false/\∀v∈x.g.waits,v.aZ≠j:=by obtain⟨j,e,J, -⟩:=c.hN.sw w hw;have ag:=dn J;have af:=c.wt w hw j e _ ag;obtain⟨-,h2, -,h4⟩:=Bk c.iX.nodes.lA (c.kt _<|dy ag) af;refine⟨j,_,e,ag,af,h4,h2,λv U K=>?_⟩;obtain⟨i,t,g1,g2,g3, -⟩:=c.oI v U;grind
theorem aGG{t:fw}(h:hf t n has){j:Int}(J:(fE t i k).2=some j):∀w∈(fE t i k).1.waits,w.aZ≠j:=by
 unfold fE at J ⊢;split at J
 ·rename_i U;rw[aC U];split at J
  ·cases J
  ·rename_i w hw;cases J;exact λv K=>((ZD h.yi (sD hw) v).1 K).2
 ·cases J
theorem eL.aOg(c:eL x)(ag:x.aE[who]?=some t)(hw:∀w∈x.t.waits,w.aZ≠who)(aP:iC x.g who=false)(af:fX x.m.log.nodes t=⟨2,k⟩):eL (BY who k x):=by
 have hi:=(cu.1 ag).1;have S:=pA ag;have iB:t.has.Nodup:=by rw[<-S];exact c.hN.uy who
 obtain⟨h1,h2,h3⟩:=VP (c.kt t<|dy ag) iB af;obtain⟨cx,a2,a3,a4,a5,mP, -⟩:=JJ t k;obtain⟨J,au⟩:=c.hN.free hi<|by rw[S];exact h2
 have C8:∀w∈(fE x.t who k).1.waits,w∈x.t.waits:=λw h=>by grind [fE,List.mem_of_mem_erase]
 unfold BY;cases T:(fE x.t who k).2 with
 |none=>
  simp only;rw[nz ag];rw[T]at J;simp only[xn]at J;rw[S,<-cx,<-x8 hi]at J;refine c.gen rfl rfl rfl hW J (λi t' h=>?_) (λw V i e t' h=>?_)
  ·rw[yr]at h;split at h
   ·rename_i e;subst e;cases h;exact⟨t,ag,a2,a5,mP,a4,h3,.inr<|EW.1 aP⟩
   ·exact⟨t',h,rfl,rfl,rfl,rfl,c.kt t'<|dy h,.inl rfl⟩
  ·have K:=C8 w V;have Z:who≠i:=λU=>hw w K<|by rw[e,U]
   rw[gS Z]at h;exact c.wt w K i e t' h
 |some j=>
  obtain⟨e4,Ax,dB,Z,AV⟩:=au j T;subst Ax;obtain⟨q9,t2,U,I,mA,O,ie,FF⟩:=c.aAH AV;have:q9=e4:=by simp only at U;omega
  subst this;simp only at mA O;rw[T]at J;simp only[xn,h5]at J;obtain⟨aW,bA,iv,iO,mr,pO, -⟩:=Dy t2 k;rw[pA I,S,<-cx,<-aW,<-x8 hi,<-x8 (by rw[kx];exact dB)]at J
  simp only;rw[nz ag];unfold mc;rw[nz (by rw[gS (ka Z)];exact I)]
  refine c.gen rfl rfl rfl hW J (λi t' h=>?_) (λw V i e t' h=>?_)
  ·rw[yr]at h;split at h
   ·rename_i e;subst e;rw[aC (by rw[kx];exact dB)]at h
    cases h;exact⟨t2,I,bA,mr,pO,iO,O,.inr FF⟩
   ·rw[yr]at h;split at h
    ·rename_i e;subst e;cases h;exact⟨t,ag,a2,a5,mP,a4,h3,.inr<|EW.1 aP⟩
    ·exact⟨t',h,rfl,rfl,rfl,rfl,c.kt t'<|dy h,.inl rfl⟩
  ·have K:=C8 w V;have z:who≠i:=λU=>hw w K<|by rw[e,U]
   have aP4:q9≠i:=λU=>by exact aGG c.hN T w V<|by rw[e,U]
   rw[gS aP4,gS z]at h;exact c.wt w K i e t' h
def vA(time:Int)(t:bF):bF:={t with ended:=true,end_:=time}
theorem Y4(time:Int)(l:List bF)(n:Int)(i:Nat):(mE time l n)[i]?=l[i]?.map λt=>if n=(i:Int)then vA time t else t:=by
 unfold mE hx;split
 ·rw[yr];by_cases e:n.toNat=i
  ·have J:n=i:=gf;rw[aC e,aC gf,e,gg,dn gf];simp[J,vA]
  ·have J:¬n=i:=gf;rw[ar e];simp[J]
 ·cases hi:l[i]? with
  |none=>rfl
  |some t=>have:=(cu.1 hi).1;have J:¬n=i:=gf;simp[J]
theorem Pd(time:Int):∀(J:List Int) (l:List bF) (i:Nat),(J.foldl (mE time) l)[i]?=l[i]?.map λt=>if(i:Int)∈J then vA time t else t
 |[],l,i=>hW
 |n::J,l,i=>by rw[qC,Pd time J,Y4,zK];congr 1;funext t;by_cases h1:n=i<;>by_cases h2:(i:Int)∈J<;>simp[h1,vA,eq_comm]
theorem Ly(time)(J:List Int)(l):(J.foldl (mE time) l).length=l.length:=by
 induction J generalizing l with
 |nil=>rfl
 |cons n J U=>
  rw[qC,U];unfold mE hx;split
  ·rw[kx]
  ·rfl
theorem ZQ{l k:List bF}(h:∀i:Nat,l[i]?.map (·.has)=k[i]?.map (·.has)):js l=js k:=funext λi=>by unfold js;rw[h]
theorem eL.oT(c:eL x)(full)(T:iC x.g who=true):eL (qi full who x):=by
 obtain⟨S,V,l3⟩:∃w∈x.g.waits,w.aZ=who:=by unfold iC at T;obtain⟨w,h1,h2⟩:=List.any_eq_true.1 T;exact⟨w,h1,nI h2⟩
 have O:=c.oI
 -- those of the group are done, and have nothing
 have bK:∀w∈x.g.waits,∀(i:Nat) t,w.aZ=i->x.aE[i]?=some t->t.done=true/\t.ended=false/\t.call.kind=12/\t.has=[]/\w.upto=t.upto/\x.g.kept<w.upto:=λw hw i t e ag=>by obtain⟨e4,t',U,h1,h2⟩:=O w hw;have:e4=i:=gf;subst this;rw[ag]at h1;cases h1;exact h2
 have M4:∀v∈x.t.waits,∀w∈x.g.waits,v.aZ≠w.aZ:=λv aF w hw e=>by obtain⟨j,t,ax,ag,af, -,hd,c9⟩:=c.aAH aF;exact c9 w hw<|by rw[<-e,ax]
 cases full with
 |true=>
  unfold qi;rw[aC rfl];obtain⟨i,t,e,ag,h1,h2,h3,h4,b6,dP⟩:=O S V;have:i=who:=gf;subst this;have hi:=(cu.1 ag).1;rw[nz ag];have J:∀j,(mE x.time (x.aE.set i {t with bZ:={dD with err:=120}}) i)[j]?=if i=j then some (vA x.time {t with bZ:={dD with err:=120}})else x.aE[j]?:=λj=>by
   rw[Y4,yr];by_cases e:i=j
   ·subst e;simp[hi]
   ·have:¬(i=(j:Int)):=gf;simp[e,this]
  have hlen:(mE x.time (x.aE.set i {t with bZ:={dD with err:=120}}) i).length=x.aE.length:=by
   have:=Ly x.time [i] (x.aE.set i {t with bZ:={dD with err:=120}})
   rw[kx]at this;exact this
  generalize mE x.time (x.aE.set i {t with bZ:={dD with err:=120}}) i=L at *
  have hm:∀t'∈L,t'=vA x.time {t with bZ:={dD with err:=120}}\/t'∈x.aE:=λt' C2=>by
   obtain⟨j,K⟩:=List.getElem?_of_mem C2;rw[J]at K;split at K
   ·exact .inl (tH K).symm
   ·exact .inr<|dy K
  have Z:=dy ag;refine⟨c.iX,λt' h=>?_,by rw[hlen];exact c.n,?_,λt' h=>?_,λw hw j U t' h=>?_,c.AG.sublist List.filter_sublist,λw hw=>?_,c.kp,λt' h=>?_,λt' h=>?_,c.ops⟩
  ·rcases hm t' h with rfl|h
   ·exact c.cs t Z
   ·exact c.cs t' h
  ·rw[hlen,ZQ (k:=x.aE) λj=>by
    rw[J];split
    ·rename_i e;subst e;rw[ag];rfl
    ·rfl]
   exact c.hN
  ·rcases hm t' h with rfl|h
   ·exact ov.um h1 λ_=>h4
   ·exact c.kt t' h
  ·rw[J]at h;split at h
   ·rename_i aq;exact absurd (show w.aZ=S.aZ by rw[l3,U,aq])<|M4 w hw S V
   ·exact c.wt w hw j U t' h
  ·rw[mg]at hw;obtain⟨j,t',I,aR,bC⟩:=O w hw.1;have aT:¬i=j:=λe=>by have:=hw.2;rw[I,e]at this;simp at this
   exact⟨j,t',I,by rw[J,ar aT];exact aR,bC⟩
  ·rcases hm t' h with rfl|h
   ·exact c.up t Z
   ·exact c.up t' h
  ·rcases hm t' h with rfl|h
   ·intro _ _ h;exact absurd h<|show ¬(120:Int)=0 by decide
   ·exact c.DD t' h
 |false=>
  unfold qi Aj;rw[ar ko];have hk:max x.g.kept (x.ops.length:Int)=x.ops.length:=oC c.kp;have z:∀w∈x.g.waits,w.upto<=max x.g.kept (x.ops.length:Int):=λw hw=>by obtain⟨i,t,e,ag, -, -, -, -,b6, -⟩:=O w hw;have:=(c.up t (dy ag)).2;omega
  have gO:(x.g.waits.filter λw=> !decide (w.upto<=max x.g.kept (x.ops.length:Int)))=[]:=by rw[List.filter_eq_nil_iff];intro w hw;simp[z w hw]
  have jg:(x.g.waits.filter λw=>decide<|w.upto<=max x.g.kept (x.ops.length:Int))=x.g.waits:=by rw[List.filter_eq_self];intro w hw;simp[z w hw]
  rw[gO,jg];have J:=Pd x.time (x.g.waits.map (·.aZ)) x.aE;have hlen:=Ly x.time (x.g.waits.map (·.aZ)) x.aE;generalize(x.g.waits.map (·.aZ)).foldl (mE x.time) x.aE=L at *;have hm:∀(j:Nat) t',L[j]?=some t'->∃t,x.aE[j]?=some t/\(t'=t\/t'=vA x.time t/\t.done=true/\t.has=[]):=λj t' h=>by
   rw[J]at h;obtain⟨t,h1,h2⟩:=gA.1 h;refine⟨t,h1,?_⟩;split at h2
   ·rename_i I9;obtain⟨w,hw,e⟩:=bP.1 I9;have:=bK w hw j t e h1;exact .inr ⟨h2.symm,this.1,this.2.2.2.1⟩
   ·exact .inl h2.symm
  have q1:∀t'∈L,∃t∈x.aE,(t'=t\/t'=vA x.time t/\t.done=true/\t.has=[]):=λt' h=>by obtain⟨j,K⟩:=List.getElem?_of_mem h;obtain⟨t,h1,h2⟩:=hm j t' K;exact⟨t,dy h1,h2⟩
  refine⟨c.iX,λt' h=>?_,by rw[hlen];exact c.n,?_,λt' h=>?_,λw hw j U t' h=>?_,.nil,λw hw=>(p2 hw),⟨?_,?_⟩,λt' h=>?_,λt' h=>?_,c.ops⟩
  ·obtain⟨t,ag,rfl|⟨rfl, -⟩⟩:=q1 t' h
   ·exact c.cs _ ag
   ·exact c.cs t ag
  ·rw[hlen,ZQ (k:=x.aE) λj=>by
    rw[J,zK];cases x.aE[j]? with
    |none=>rfl
    |some t=>simp only[vj,Function.comp];split<;>rfl]
   exact c.hN
  ·obtain⟨t,ag,rfl|⟨rfl,h1,h2⟩⟩:=q1 t' h
   ·exact c.kt _ ag
   ·exact ov.um h1 λ_=>h2
  ·obtain⟨t,ag,rfl|⟨rfl,h1,h2⟩⟩:=hm j t' h
   ·exact c.wt w hw j U _ ag
   ·have af:=c.wt w hw j U t ag;have:=(Bk c.iX.nodes.lA (c.kt t<|dy ag) af).2.1;rw[h1]at this;cases this
  ·show 0<=max x.g.kept (x.ops.length:Int);rw[hk];omega
  ·show max x.g.kept (x.ops.length:Int)<=x.ops.length;rw[hk];omega
  ·obtain⟨t,ag,rfl|⟨rfl, -⟩⟩:=q1 t' h
   ·exact c.up _ ag
   ·exact c.up t ag
  ·obtain⟨t,ag,rfl|⟨rfl, -⟩⟩:=q1 t' h
   ·intro _ _ _;have:=(c.up _ ag).2;show _<=max x.g.kept (x.ops.length:Int);omega
   ·intro _ _ _;have:=(c.up _ ag).2;show t.upto<=max x.g.kept (x.ops.length:Int);omega
theorem aRQ(y:List UInt8)(w:I)(clock:Nat):∀(es:List (I×I×Nat)),iV .string es->iV .string (hG (.str y) w es clock)/\
  (∀x,(eJ (.str x) (hG (.str y) w es clock)).map (·.2)=if x=y then some w else(eJ (.str x) es).map (·.2)):=by
 intro es;induction es with
 |nil=>
  intro _;refine⟨λp ad=>?_,λx=>?_⟩
  ·simp only[hG,eJ,jb,dH]at ad;subst ad;rfl
  grind [hG,eJ,jb,dH,iW]
 |cons q es T=>
  obtain⟨k,v,b⟩:=q;intro hk;have V:kd .string k=true:=hk (k,v,b) hW;have S:iV .string es:=λp ad=>hk p<|lU _ ad
  cases k<;>simp only[kd,mM]at V;rename_i z;by_cases O:y=z
  ·subst O;have e:hG (.str y) w ((I.str y,v,b)::es) clock=(.str y,w,b)::es:=by simp[hG,eJ,iW]
   rw[e];refine⟨λp ad=>?_,λx=>?_⟩
   ·rcases db.1 ad with rfl|ad
    ·rfl
    ·exact S p ad
   ·simp only[eJ,iW];by_cases h:x=y<;>simp[h]
  ·have Z:iW (.str y) (.str z)=false:=by simp[iW,O]
   rw[OP Z];obtain⟨i1,i2⟩:=T S;refine⟨λp ad=>?_,λx=>?_⟩
   ·rcases db.1 ad with rfl|ad
    ·rfl
    ·exact i1 p ad
   ·have:=i2 x;simp only[eJ,iW];by_cases h:x=z
    ·subst h;have U:¬x=y:=λe=>O e.symm;simp[U]
    ·simp only[b0 h,vn,zK];by_cases U:x=y
     ·rw[aC U]at this ⊢;cases J:eJ (.str x) (hG (.str y) w es clock)with
      |none=>rw[J]at this;cases this
      |some v=>rw[J]at this;simpa using this
     ·rw[ar U]at this ⊢;cases J:eJ (.str x) (hG (.str y) w es clock)with
      |none=>rw[J]at this;cases K:eJ (.str x) es with
       |none=>rfl
       |some v=>rw[K]at this;cases this
      |some v=>rw[J]at this;cases K:eJ (.str x) es with
       |none=>rw[K]at this;cases this
       |some u=>rw[K]at this;simpa using this
structure yw (l:List eS) (es:List (I×I×Nat)):Prop where
 rf:iV .string es
 at_:∀p:al,(eJ (.str p) es).map (·.2)=(zh p l).map dM
 cl:∀n,∀p∈es,cN n p.1/\cN n p.2.1
theorem aCf:yw [] []:=⟨λp ad=>j9,λx=>rfl,λn p ad=>j9⟩
theorem aNq(n)(x):cN n (dM x):=.agg _ λi y J=>by
 have:=dy J;simp at this;rcases this with rfl|rfl|rfl
 ·exact .str _
 ·exact .int _ _
 ·exact .str _
theorem aCg{l:List eS}(h:yw l es)(x)(clock):yw (l++[x]) (hG (.str x.path) (dM x) es clock):=by obtain⟨i1,i2⟩:=aRQ x.path (dM x) clock es h.rf;refine⟨i1,λp=>?_,λn=>Yb (.str _) (aNq n x) (h.cl n) clock⟩;rw[i2,h.at_];unfold zh;grind
theorem yw.yes{l:List eS}(h:yw l es){p:al}{x:eS}(J:zh p l=some x):∃j,eJ (.str p) es=some (j,dM x):=by have:=h.at_ p;simp_all
theorem yw.no{l:List eS}(h:yw l es){p:al}(J:zh p l=none):eJ (.str p) es=none:=by have:=h.at_ p;rw[J]at this;exact Option.map_eq_none_iff.1 this
def jZ(b2:List e7):List I:=(b2.map dt).flatMap I.cells
theorem aMJ(a:List e7)(x:e7):jZ (a++[x])=jZ a++[.int .i64 x.kind,.str x.path]:=by simp[jZ,dt,I.cells]
theorem QT(a):(jZ a).length=a.length * 2:=by
 induction a with
 |nil=>rfl
 |cons x a J=>have:jZ (x::a)=[.int .i64 x.kind,.str x.path]++jZ a:=rfl;grind
def rT(G:ab)(h:Nat)(b2:List e7):ab:=an (an G (h+1) (.cells (b2.length+1) (jZ b2))) h<|.cells 0 [.osl 2 (h+1) (b2.length+1) 0 b2.length b2.length]
theorem aNY(J:h+1<G.length)(b2)(L):rT (G++L) h b2=rT G h b2++L:=by unfold rT;rw[gU J,gU<|by rw[bc];omega]
theorem L5(G)(h)(b2):(rT G h b2).length=G.length:=by unfold rT;rw[bc,bc]
theorem LS{B:bD}(b2)(J:az G j=B)(h1:j≠h)(h2:j≠h+1):az (rT G h b2) j=B:=by exact bN (bN J gf _) gf _
structure sK (h:Nat) (b2:List e7) (G:ab):Prop where
 fL:az G h=.cells 0 [.osl 2 (h+1) (b2.length+1) 0 b2.length b2.length]
 aW:az G (h+1)=.cells (b2.length+1) (jZ b2)
theorem sK.lt{b2:List e7}(k:sK h b2 G):h+1<G.length:=cZ k.aW trivial
theorem sK.app{b2:List e7}(k:sK h b2 G)(L):sK h b2 (G++L):=⟨bX k.fL trivial L,bX k.aW trivial L⟩
theorem sK.set{b2:List e7}(k:sK h b2 G)(hi:h+1<i)(X):sK h b2 (an G i X):=⟨bN k.fL gf X,bN k.aW gf X⟩
theorem sK.put(hl:h+1<G.length)(es):sK h es (rT G h es):=
 ⟨dK (by rw[bc];omega) _,bN (dK hl _) gf _⟩
theorem aNZ(k n)(b2):ed n (.cells k<|jZ b2):=λx J=>by
 unfold jZ at J;rw[vf]at J;obtain⟨y,U,J⟩:=J;obtain⟨t, -,rfl⟩:=bP.1 U;simp[dt,I.cells]at J;rcases J with rfl|rfl
 ·exact .int _ _
 ·exact .str _
theorem ZR(b2)(af:h+1<n):∀(j:Nat) (b),(rT G h b2)[j]?=some b->G[j]?=some b\/ed n b:=λj b U=>by
 rcases LD (b:=.cells 0 [.osl 2 (h+1) (b2.length+1) 0 b2.length b2.length]) (λx J=>by rw[dH]at J;subst J;exact .osl _ _ _ _ _ _ gf) j b U with q|q
 ·exact LD (aNZ _ _ b2) j b q
 ·exact .inr q
def uN(ps:List (Bool×List e7)):List I:=ps.map λp=>.sl p.1<|p.2.map dt
def ho(ps:List (Bool×List e7))(i:Nat):List e7:=(ps.take i).flatMap (·.2)
theorem S2(h:i<ps.length):ho ps (i+1)=ho ps i++ps[i].2:=by unfold ho;rw[hc h,qx,List.flatMap_singleton]
theorem aRa(ps:List (Bool×List e7))(i:Nat):(ho ps i).length<=(ho ps ps.length).length:=by
 unfold ho;rw[fe];conv=>rhs;rw[<-sF i ps,qx,bw]
 omega
def Mt:I:=.agg [.int .i64 0,.str []]
theorem aN8(n:Nat):(List.flatMap I.cells (List.replicate n Mt)).length=n * 2:=by
 induction n with
 |zero=>rfl
 |succ n J=>rw[zH,nj,bw,J];simp[Mt,I.cells];omega
theorem aAE(h:i<ps.length):(uN ps).getD i .top=.sl ps[i].1 (ps[i].2.map dt):=by simp[uN,h]
theorem aNX(l:List e7):List.flatMap I.cells (l.map dt)=jZ l:=rfl
theorem aNW(a b:List e7):jZ (a++b)=jZ a++jZ b:=by simp[jZ]
theorem aRE(l:List e7):(jZ l).all I.one=true:=by rw[fu];intro x J;unfold jZ at J;rw[vf]at J;obtain⟨y,U,J⟩:=J;obtain⟨t, -,rfl⟩:=bP.1 U;simp only[dt,I.cells,db,mh,mj]at J;rcases J with rfl|rfl<;>rfl
theorem aAf(l:List e7):(∀e∈l.map dt,e.cells.length=2)=True:=b1 λe he=>by obtain⟨x,_,rfl⟩:=bP.1 he;rfl
def aCL:List cK:=[.ah 0,.ah 0,.aQ,.aQ,.aQ,.ah 0,.aQ,.aQ,.ah 0,.aQ,.bW []]
def aCM:List cK:=[.ah 0,.ah 0,.aQ,.ah 0,.aQ,.ah 0,.ah 0,.ah 0,.aQ,.ah 0,.ah 0,.aQ,.aQ,.ah 0,.aQ,.ah 0,.bW [false,true,true,true],.aQ]
attribute [go_sem] aCL aCM
theorem Ud(f:Bool)(ps:List (Bool×List e7))(ad:ps.length<=1073741824)(hl:(ho ps ps.length).length<=4294967296)(H:ab):
  aO prog 317 [.sl f (uN ps)] H (.sl false<|(ho ps ps.length).map dt):=by
 refine bg func317 ?_;have hle:=aRa ps;have hlen:(uN ps).length=ps.length:=by simp[uN]
 refine hH ?_;refine n8 (ι:=Unit) (λ_=>[(0,.sl f<|uN ps),(3,.int .i64 (ho ps ps.length).length)]) (λ_=>H) (λ_=>True) ?_ λ_ _=>?_
 ·refine c7 (ι:=Nat) (λi=>[(0,.sl f<|uN ps),(3,.int .i64 (ho ps i).length),(9,.sl f<|uN ps),(10,.int .i64 ps.length),(11,.int .i64 i)]) (λ_=>H) (λi=>i<=ps.length) (λi=>ps.length-i) 0 (cb _) ?_ rfl ?_
  ·simp[go_sem,ho]
  intro i hi;by_cases J:i<ps.length
  ·have O:=aAE J;have h1:=hle<|i+1;rw[S2 J,bw]at h1;have hw:IntKind.i64.wrap (((ho ps i).length:Int)+(ps[i].2.length:Int))=((ho ps (i+1)).length:Int):=by rw[bS,S2 J,bw];omega
   refine hH ?_;exact⟨i+1,J,gf,rfl,b7 _<|eb J gf⟩
  ·have U:i=ps.length:=gf;subst U;repeat' first|(refine ae ?_;simp only[go_sem])|refine ai ?_|fail
   exact⟨(),trivial⟩
 obtain⟨n,af⟩:∃n,n=(ho ps ps.length).length:=⟨_,rfl⟩;rw[<-af];rw[<-af]at hl hle;have K:=aN8 n;have V:Mt=.agg [.int .i64 0,.str []]:=rfl;repeat' first|(refine ae ?_;simp only[go_sem,hlen,<-V,K])|refine ai ?_|fail
 obtain⟨Z,z⟩:∃Z,Z=List.flatMap I.cells (List.replicate n Mt):=⟨_,rfl⟩;rw[<-z]at K ⊢;refine c7 (ι:=Nat) (λi=>[(3,.int .i64 (ho ps i).length),(6,.osl 2 H.length 1 0 n n),(22,.sl f<|uN ps),(23,.int .i64 ps.length),(24,.int .i64 i)]) (λi=>H++[.cells 1 (jZ (ho ps i)++Z.drop ((ho ps i).length * 2))]) (λi=>i<=ps.length) (λi=>ps.length-i) 0 (cb _) ?_ ?_ ?_
 ·simp[go_sem,ho]
 ·simp[ho,jZ]
 intro i hi;by_cases J:i<ps.length
 ·have O:=aAE J;have h1:=hle<|i+1;have hs:=S2 J;rw[hs,bw]at h1;have hw:IntKind.i64.wrap (((ho ps i).length:Int)+(ps[i].2.length:Int))=((ho ps (i+1)).length:Int):=by rw[bS,hs,bw];omega
  have S:(jZ (ho ps i)).length=(ho ps i).length * 2:=QT _;have T:(jZ ps[i].2).length=ps[i].2.length * 2:=QT _;have ee:du (jZ (ho ps i)++Z.drop ((ho ps i).length * 2)) ((ho ps i).length * 2) (jZ ps[i].2)=jZ (ho ps<|i+1)++Z.drop ((ho ps (i+1)).length * 2):=by rw[rW S,T,ym,hs,aNW,bw,c6,o2]
  repeat' first|(refine ae ?_;simp only[go_sem,J,O,hlen,hw,aNX,ee,S,T,aRE,aAf,hp,K])|refine ai ?_|fail
  exact⟨i+1,J,gf,⟨rfl,b7 _<|eb J gf⟩,rfl⟩
 ·have U:i=ps.length:=gf;subst U;repeat' first|(refine ae ?_;simp only[go_sem,J])|refine ai ?_|fail
  exact uV (cs:=jZ (ho ps ps.length)++Z.drop ((ho ps ps.length).length * 2)) (es:=(ho ps ps.length).map dt) (rest:=Z.drop<|(ho ps ps.length).length * 2) (bh _) mZ rfl (by rw[dq,af]) (λe he=>by obtain⟨x,_,rfl⟩:=bP.1 he;rfl) (λe he=>by obtain⟨x,_,rfl⟩:=bP.1 he;exact mZ) rfl
theorem aCN(f o:Bool)(e:List e7)(he:e.length<=1073741824)(u:Nat)(H:ab)(hu:az H u=.cells 0 [.sl f (e.map dt),.bool o]):aO prog 318 [.ref u 0 0] H (.int .i64 ((8-e.length:Nat):Int)):=by
 refine bg func318 ?_;have hw:max (IntKind.i64.wrap<|8-(e.length:Int)) 0=((8-e.length:Nat):Int):=by rw[bS];omega
 refine hH ?_;exact bJ<|.refl _
theorem S1(f f1:Bool)(a:List e7)(J:a.length<=1073741824)(H:ab):aO prog 317 [.sl f [.sl f1 (a.map dt)]] H (.sl false<|a.map dt):=by
 have h1:=Ud f [(f1,a)] hW (by simp[ho];omega) H
 simpa[uN,ho]using h1
theorem aQ8(f f1 f2:Bool)(a b:List e7)(J:a.length<=1073741824)(U:b.length<=1073741824)(H:ab):aO prog 317 [.sl f [.sl f1 (a.map dt),.sl f2<|b.map dt]] H (.sl false<|(a++b).map dt):=by
 have h1:=Ud f [(f1,a),(f2,b)] hW (by simp[ho];omega) H
 simpa[uN,ho]using h1
theorem aQ9(f f1 f2 f3:Bool)(a b c:List e7)(J:a.length<=1073741824)(U:b.length<=1073741824)(K:c.length<=1073741824)(H:ab):aO prog 317 [.sl f [.sl f1 (a.map dt),.sl f2<|b.map dt,.sl f3<|c.map dt]] H (.sl false<|(a++b++c).map dt):=by
 have h1:=Ud f [(f1,a),(f2,b),(f3,c)] hW (by simp[ho];omega) H
 simpa[uN,ho]using h1
theorem aSS(f f2 o:Bool)(e l:List e7)(he:e.length<=1073741824)(hl:l.length<=1073741824)(H:ab):aO prog 278 [.agg [.sl f (e.map dt),.bool o],.sl f2<|l.map dt] H (.agg [.sl false ((ox e o l).1.map dt),.bool (ox e o l).2]):=by
 refine bg func278 ?_;have J:=nB [(7,aCL)];cases o with
 |true=>
  have h1:=S1 true f e he;unfold ox;repeat' first|(refine ae ?_;simp only[go_sem])|refine ai ?_|fail
  exact aX<|.refl _
 |false=>
  have ad:ox e false l=if 8-e.length<l.length then(e++l.take (8-e.length)++[⟨9,[]⟩],true)else(e++l,false):=rfl
  have h3:=aQ9 true f true true e (l.take<|8-e.length) [⟨9,[]⟩] he (by rw[gK];omega) hW
  have h2:=aQ8 true f f2 e l he hl;have ag:List.take (8-e.length) (List.map dt l)=List.map dt (l.take<|8-e.length):=vl.symm;by_cases hs:8-e.length<l.length
  ·rw[ad,aC hs];have U:8-e.length<=l.length:=gf;repeat' first|(refine ae ?_;simp only[go_sem])|refine ai ?_|fail
   refine pT (aCN f false e he H.length _ mZ) aI ?_;rintro v H' ⟨rfl,rfl⟩;simp only[go_sem];refine hH ?_;exact aX<|.refl _
  ·rw[ad,ar hs];repeat' first|(refine ae ?_;simp only[go_sem])|refine ai ?_|fail
   refine pT (aCN f false e he H.length _ mZ) aI ?_;rintro v H' ⟨rfl,rfl⟩;simp only[go_sem];refine hH ?_;exact aX<|.refl _
theorem aSU(f o:Bool)(e:List e7)(n:Int)(he:e.length<=1073741824)(H:ab):aO prog 313 [.agg [.sl f (e.map dt),.bool o],.int .i64 n] H (.aN [.agg [.sl false ((e.drop (min n.toNat e.length)).map dt),.bool o],.sl false<|(e.take (min n.toNat e.length)).map dt]):=by
 refine bg func313 ?_;obtain⟨k,hk⟩:∃k,k=min n.toNat e.length:=⟨_,rfl⟩;have J:min (max n 0) (e.length:Int)=(k:Int):=gf;have U:k<=e.length:=gf;have h1:=S1 true f (e.drop k)<|by rw[hp];omega
 have h2:=S1 true true (e.take k)<|by rw[gK];omega
 have t1:List.take k (List.map dt e)=List.map dt (e.take k):=vl.symm;have t2:List.drop k (List.map dt e)=List.map dt (e.drop k):=yk.symm;rw[<-hk];repeat' first|((first|refine mx [2] aCM ?_|refine ae ?_);simp only[go_sem,J,U,t1,t2,aAf])|refine ai ?_|fail
 exact aX<|.refl _
theorem Ct{enc:α->I}{s k:Nat}{D:List α}(af:n<=i)(J:az H i=.cells v (aV enc D))(hk:D.length=k)(hs:∀x,(enc x).cells.length=s)(ad:∀x,b9<|enc x):cJ n H (.osl s i v 0 k lc) (.sl false<|D.map enc):=
 q8 (es:=D.map enc) (rest:=[]) af J (cE _).symm (by rw[dq,hk]) (λe he=>by(obtain⟨x, -,rfl⟩:=bP.1 he;exact hs x)) (λe he=>by(obtain⟨x, -,rfl⟩:=bP.1 he;exact ad x))
theorem ZX{enc:α->I}{s k:Nat}{D:List α}(af:n<=i)(U:az H i=.cells v cs)(hk:D.length=k)(hl:cs.length=D.length * s)(hs:∀x,(enc x).cells.length=s)
  (h:∀(m:Nat) (x y:I),cs[m]?=some x->(aV enc D)[m]?=some y->cJ n H x y):cJ n H (.osl s i v 0 k lc) (.sl false<|D.map enc):=
 .osl s i v 0 k lc cs _ af U (by rw[dq,hk]) (by rw[hl,hk];omega) (λe he=>by(obtain⟨x, -,rfl⟩:=bP.1 he;exact hs x)) λq j e x y he K J=>h (q * s+j) x y (by rwa[lr]at J) (Bc (λe he=>by(obtain⟨x, -,rfl⟩:=bP.1 he;exact hs x)) he K)
theorem ZS{A B C:List I}(K:∀x∈A,b9 x)(h:∀(m:Nat) (x y:I),B[m]?=some x->C[m]?=some y->cJ n H x y):∀(m:Nat) (x y:I),(A++B)[m]?=some x->(A++C)[m]?=some y->cJ n H x y:=λm x y J U=>by
 by_cases hm:m<A.length
 ·rw[jc hm]at J U;rw[J]at U;cases U;exact .cl _<|(K x (dy J)).cl _
 ·rw[pH gf]at J U;exact h _ x y J U
theorem IC{d':cB}{L:ab}(h:gL i j c d G){v:I}(U:v=.int .i64 e)(K:d'.ops=d.ops)(hl:cs.length=18)
  (O:∀(m:Nat) (x y:I),cs[m]?=some x->(fN j c d')[m]?=some y->cJ G.length (an G i (.cells 0 cs)++L) x y):
  ∃A S H1 y,an G i (.cells 0 cs)++L=A++S/\A.length=G.length/\H1.length=G.length/\Ck G.length (an G i (.cells 0 cs)++L) A H1 G/\cJ G.length (an G i (.cells 0 cs)++L) v y/\(y=.int .i64 e/\H1=gC G i j c d'):=by
 subst U;refine⟨_,L,_,_,rfl,bc _ _ _,Ia _ _ _ _ _,λk a b J hk=>?_,.cl _<|.int _ _,rfl,rfl⟩
 rw[<-h.one K]at hk;by_cases e:i=k
 ·subst e;rw[an,rB h.eV]at J hk;cases J;cases hk;exact .inr ⟨0,cs,_,rfl,rfl,hl,O⟩
 ·rw[an,gS e]at J hk;rw[J]at hk;cases hk;exact .inl ⟨rfl,.inl J⟩
theorem Q8(h:gL i j c d G){v:I}(K:v=.int .i64 e)(L:ab):
  ∃A O H1 y,G++L=A++O/\A.length=G.length/\H1.length=G.length/\Ck G.length (G++L) A H1 G/\cJ G.length (G++L) v y/\(y=.int .i64 e/\H1=gC G i j c d):=by
 subst K;exact⟨G,L,G,_,rfl,rfl,rfl,λk a b J U=>by(rw[J]at U;cases U;exact .inl ⟨rfl,.inl J⟩),.cl _<|.int _ _,rfl,h.own.symm⟩
theorem Mq(h:gL i j c d G){v:I}(J:v=.int .i64 e):
  ∃A U H1 y,G=A++U/\A.length=G.length/\H1.length=G.length/\Ck G.length G A H1 G/\cJ G.length G v y/\(y=.int .i64 e/\H1=gC G i j c d):=by
 have:=Q8 h J [];rwa[cE]at this
def aCH:List cK:=[.aQ,.ah 0,.ah 0,.ah 0,.ah 0,.aQ,.ah 0,.ah 0,.ah 0,.ah 0,.ah 0,.ah 0,.aQ,.bW [true,true,true,true,true,true,true,true,true,true],.bW []]
def aCI:List cK:=[.aQ,.aQ,.ah 0,.ah 0,.ah 0,.ah 0,.bW [false,true,true,true],.ah 1,.aQ,.bW [true,true,true,true],.ah 0,.ah 0,.ah 0,.bW [false,true,true]]
def aCJ:List cK:=[.aQ,.aQ,.ah 0,.ah 0,.ah 0,.ah 0,.bW [false,true,true,true],.aQ,.ah 1,.ah 1,.ah 1,.ah 1,.aQ,.aQ,.aQ,.bW [true,true,true,true,true,true,true],.ah 0,.ah 0,.ah 0,.bW [false,true,true]]
def J2:List cK:=[.ah 0,.ah 0,.ah 0,.ah 0,.ah 0,.ah 0,.bW [false,true,true,true,true,true],.aQ,.bW [true,true,true,true,true],.ah 0,.ah 0,.ah 0,.bW [false,true,true]]
attribute [go_sem] aCH aCI aCJ J2
theorem aNL(J:gL i j c d G):rP prog 275 i j c (0,d) G:=by refine h9 func275 ?_;refine a7 ?_;exact jX J rfl J.own.symm
theorem aNK(J:gL i j c d G)(hs:oo d.m):rP prog 271 i j c (ET d) G:=by
 refine HV func271 ?_;have iy:=nB [(4,aCH),(5,aCI)];have K:=J.aW;have O:=bE J.aW trivial;have S:=bE J.bA trivial;have z:=J.ne;have cM:=J.eV;have T:=J.fF;have a6:=J.a6;have bb:=J.bb;have V:=bc G i;simp only[fN]at K O;have Z:=od cM T z rfl;unfold ET;by_cases U:(8:Int)<=(d.m.dh.length:Int)
 ·have d8:decide ((8:Int)<=(d.m.dh.length:Int))=true:=dr U;rw[aC U];refine hH ?_;exact Mq J rfl
 have d8:decide ((8:Int)<=(d.m.dh.length:Int))=false:=b0 U;rw[ar U];have qW:=Ye false d.m.log.nodes (oC hs.nodes);refine hH ?_;refine qj (ZE false d.m.dh (oC hs.dh) _) aI ?_;have eh:=en (enc:=jj) (s:=2) (λ_=>rfl) d.m.dh;have jw:(∀e,e=I.agg [.int .i64 d.m.next,.sl false<|d.m.log.nodes.map bj]->e.cells.length=2)=True:=b1 λe he=>by rw[he];rfl
 have iA:((d.m.dh.length+1) * 32<=140737488355328)=True:=b1 (oC hs.dh);simp only[go_sem,K,O,S,a6,bb,V,Z,bc,eh,jw,iA];refine hH ?_;refine IC J rfl rfl rfl ?_;unfold fN;repeat' first|exact fx|refine ds ?_ ?_|exact .cl _ (.int _ _)|exact .cl _ (.str _)|exact .cl _ (EY _ _ _)|exact .cl _ (EX _ _ _)|exact .cl _ (EZ _ _ _)|exact .cl _ (E0 _ _ _)|exact .cl _ (E1 _ _ _)|exact .cl _ (E2 _ _ _)|exact .cl _<|.osl _ _ _ _ _ _ T
 exact Ct gf (by rw[iP];simp only[go_sem,K,O,S,a6,bb,V,Z,bc];rfl) hW (λ_=>rfl) λx=>mZ
theorem aNO(J:gL i j c d G)(hs:oo d.m)(ao:o3 c):rP prog 273 i j c (EK c d) G:=by
 refine HV func273 ?_;have iy:=nB [(9,aCJ)];have K:=J.aW;have O:=bE J.aW trivial;have S:=bE J.bA trivial;have aT:=J.ne;have cM:=J.eV;have T:=J.fF;have a6:=J.a6;have bb:=J.bb;have V:=bc G i;simp only[fN]at K O;have Z:=od cM T aT rfl;unfold EK;have z:=EL false d.m.log.nodes c.path (oC hs.nodes) ao.path;obtain⟨⟨id,e⟩,aG⟩:∃x,ft d.m.log.nodes c.path=x:=⟨_,rfl⟩;rw[aG]at z ⊢;simp only[u4]at z;by_cases he:e=0
 ·subst he;simp only[dW];have iz:=va id;cases eH:dv id with
  |false=>rw[eH]at iz;rw[ar hW];refine hH ?_;exact Mq J rfl
  |true=>
   rw[eH]at iz;rw[aC rfl];by_cases U:(8:Int)<=(d.m.cq.length:Int)
   ·have d8:decide ((8:Int)<=(d.m.cq.length:Int))=true:=dr U;rw[aC U];refine hH ?_;exact Mq J rfl
   have d8:decide ((8:Int)<=(d.m.cq.length:Int))=false:=b0 U;rw[ar U];refine hH ?_;refine qj (Ma false d.m.cq (oC hs.cq) _) aI ?_;have eh:=en (enc:=dY) (s:=4) (λ_=>rfl) d.m.cq;have jw:(∀e,e=I.agg [.int .i64 d.m.next,.int .i64 id,.sl true [],.bool false]->e.cells.length=4)=True:=b1 λe he=>by rw[he];rfl
   have iA:((d.m.cq.length+1) * 48<=140737488355328)=True:=b1 (oC hs.cq);simp only[go_sem,K,O,S,a6,bb,V,Z,bc,eh,jw,iA];refine hH ?_;refine IC J rfl rfl rfl ?_;unfold fN;repeat' first|exact fx|refine ds ?_ ?_|exact .cl _ (.int _ _)|exact .cl _ (.str _)|exact .cl _ (EY _ _ _)|exact .cl _ (EX _ _ _)|exact .cl _ (EZ _ _ _)|exact .cl _ (E0 _ _ _)|exact .cl _ (E1 _ _ _)|exact .cl _ (E2 _ _ _)|exact .cl _<|.osl _ _ _ _ _ _ T
   refine ZX (bh _) (by simp only[go_sem,K,O,S,a6,bb,V,Z,bc];rfl) hW (by simp only[bw,eh,cd,dZ];omega) (λ_=>rfl) ?_
   rw[iP];refine ZS (zD (λx=>mZ) _) ?_;repeat' first|exact fx|refine ds ?_ ?_|exact .cl _ (.int _ _)|exact .cl _ (.bool _)|exact .Kc _ _<|(b9.sl true [] (λ_ h=>p2 h)).cl _
 ·have hd:decide (e=0)=false:=b0 he;simp only[ar he];refine hH ?_;exact Mq J rfl
theorem aAm{n:Int}(k:Nat)(hk:az G k=.cells 0 [.ref i 0 0])(hi:az G i=.cells 0 [yj,eQ,dV,gn,vc,sy,Kt,Ku,Kv,Kw,Km,Kn,Ko,Kp,Kq,Kr,.int .i64 n,Ks])(s:Ec):aO prog 305 [jj s,.ref k 0 0] G (.bool<|decide (s.n=n)):=by refine bg func305 ?_;have J:=bE hk trivial;have U:=bE hi trivial;refine bL jj.eq_1 ?_;exact aX<|.refl _
theorem aAn{n:Int}(k:Nat)(hk:az G k=.cells 0 [.ref i 0 0])(hi:az G i=.cells 0 [yj,eQ,dV,gn,vc,sy,Kt,Ku,Kv,Kw,Km,Kn,Ko,Kp,Kq,Kr,.int .i64 n,Ks])(s:o5):aO prog 306 [dY s,.ref k 0 0] G (.bool<|decide (s.n=n)):=by refine bg func306 ?_;have J:=bE hk trivial;have U:=bE hi trivial;refine bL dY.eq_1 ?_;exact aX<|.refl _
theorem aRM{n:Int}(k:Nat)(hk:az G k=.cells 0 [.ref i 0 0])(hi:az G i=.cells 0 [yj,eQ,dV,gn,vc,sy,Kt,Ku,Kv,Kw,Km,Kn,Ko,Kp,Kq,Kr,.int .i64 n,Ks])(s:o5):aO prog 312 [dY s,.ref k 0 0] G (.bool<|decide (s.n=n)):=by refine bg func312 ?_;have J:=bE hk trivial;have U:=bE hi trivial;refine bL dY.eq_1 ?_;exact aX<|.refl _
theorem aNA(V:gL i j c d G)(hs:oo d.m):rP prog 272 i j c (EU c d) G:=by
 refine HV func272 ?_;have iy:=nB [(5,J2),(6,J2)];have J:=V.aW;have U:=bE V.aW trivial;have K:=bE V.bA trivial;have aT:=V.ne;have cM:=V.eV;have cH:=V.fF;have a6:=V.a6;have bb:=V.bb;have O:=bc G i;simp only[fN]at J U;have S:=od cM cH aT rfl;have Z:∀H,az H G.length=.cells 0 [.ref i 0 0]->az H i=.cells 0 (fN j c d)->aO prog 307 [.sl false (d.m.dh.map jj),.func (.func 305) [] [.ref G.length 0 0]] H (.bool<|d.m.dh.any λs=>decide (s.n=c.n)):=
  λH h1 h2=>aLY false d.m.dh (.func 305) [] [.ref G.length 0 0] (λs=>decide<|s.n=c.n) H (λs=>.mk (first:=[]) (λL=>aAm G.length (bX h1 trivial L) (bX h2 trivial L) s) aI)
 have z:∀H,az H G.length=.cells 0 [.ref i 0 0]->az H i=.cells 0 (fN j c d)->aO prog 308 [.sl false (d.m.cq.map dY),.func (.func 306) [] [.ref G.length 0 0]] H (.bool<|d.m.cq.any λs=>decide (s.n=c.n)):=
  λH h1 h2=>aLZ false d.m.cq (.func 306) [] [.ref G.length 0 0] (λs=>decide<|s.n=c.n) H (λs=>.mk (first:=[]) (λL=>aAn G.length (bX h1 trivial L) (bX h2 trivial L) s) aI)
 simp only[fN]at Z z;unfold EU;have aBp:=hs.dh;have vV:=hs.cq;by_cases c9:(!(d.m.dh.any λs=>decide<|s.n=c.n)&& !(d.m.cq.any λw=>decide<|w.n=c.n))=true
 ·rw[aC c9];simp only[dp,yt]at c9;rw[c9.1]at Z;rw[c9.2]at z;repeat' first|((first|refine ia (Z _ (by simp only[go_sem,J,U,K,a6,bb,O,S,bc])<|by simp only[go_sem,J,U,K,a6,bb,O,S,bc]) aI ?_|refine kg (Z _ (by simp only[go_sem,J,U,K,a6,bb,O,S,bc])<|by simp only[go_sem,J,U,K,a6,bb,O,S,bc]) aI ?_|refine kh (λ_=>Z _ (by simp only[go_sem,J,U,K,a6,bb,O,S,bc])<|by simp only[go_sem,J,U,K,a6,bb,O,S,bc]) aI ?_|refine ia (z _ (by simp only[go_sem,J,U,K,a6,bb,O,S,bc])<|by simp only[go_sem,J,U,K,a6,bb,O,S,bc]) aI ?_|refine kg (z _ (by simp only[go_sem,J,U,K,a6,bb,O,S,bc])<|by simp only[go_sem,J,U,K,a6,bb,O,S,bc]) aI ?_|refine kh (λ_=>z _ (by simp only[go_sem,J,U,K,a6,bb,O,S,bc])<|by simp only[go_sem,J,U,K,a6,bb,O,S,bc]) aI ?_|refine mx [5,6] J2 ?_|refine ae ?_);simp only[go_sem,J,U,K,a6,bb,O,S,bc])|refine ai ?_|fail
  exact Q8 V rfl _
 rw[ar c9];obtain⟨A,cc⟩:∃A,d.m.dh.any (λs=>decide<|s.n=c.n)=A:=⟨_,rfl⟩
 obtain⟨B,cf⟩:∃B,d.m.cq.any (λs=>decide<|s.n=c.n)=B:=⟨_,rfl⟩;rw[cc,cf]at c9;rw[cc]at Z;rw[cf]at z;have fin:∀n:Nat,n=n:=λ_=>rfl;have k1:¬i=G.length:=gf;cases A<;>cases B
 ·exact absurd rfl c9
 all_goals
  repeat' first|((first|refine ia (Z _ (by simp only[go_sem,J,U,K,a6,bb,O,S,bc])<|by simp only[go_sem,J,U,K,a6,bb,O,S,bc]) aI ?_|refine kg (Z _ (by simp only[go_sem,J,U,K,a6,bb,O,S,bc])<|by simp only[go_sem,J,U,K,a6,bb,O,S,bc]) aI ?_|refine kh (λ_=>Z _ (by simp only[go_sem,J,U,K,a6,bb,O,S,bc])<|by simp only[go_sem,J,U,K,a6,bb,O,S,bc]) aI ?_|refine ia (z _ (by simp only[go_sem,J,U,K,a6,bb,O,S,bc])<|by simp only[go_sem,J,U,K,a6,bb,O,S,bc]) aI ?_|refine kg (z _ (by simp only[go_sem,J,U,K,a6,bb,O,S,bc])<|by simp only[go_sem,J,U,K,a6,bb,O,S,bc]) aI ?_|refine kh (λ_=>z _ (by simp only[go_sem,J,U,K,a6,bb,O,S,bc])<|by simp only[go_sem,J,U,K,a6,bb,O,S,bc]) aI ?_|refine mx [5,6] J2 ?_|refine ae ?_);simp only[go_sem,J,U,K,a6,bb,O,S,bc])|refine ai ?_|fail
  refine qj (ZE false d.m.dh gf _) aI ?_;simp only[go_sem,J,U,K,a6,bb,O,S,bc];repeat' first|refine hH ?_|(refine bz ?_ ?_<;>intro h<;>try exact bx h)|fail
  refine qj ((aL1 d.m.dh (λs=>decide<|s.n=c.n) (G.length+1) 1 d.m.dh.length d.m.dh.length rfl (bh _) gf (λT=>az T G.length=.cells 0 [.ref i 0 0]/\az T i=.cells 0 (fN j c d)) (λT b h=>⟨bN h.1 gf b,bN h.2 gf b⟩) (λT L h=>⟨bX h.1 trivial L,bX h.2 trivial L⟩) _
   (fn:=.func 305) (fs:=[]) (cs:=[.ref G.length 0 0]) (by first|(simp only[go_sem,J,U,K,a6,bb,O,S,bc];done)|(simp only[go_sem,J,U,K,a6,bb,O,S,bc];rfl)) (λs T aP=>Or.inl ⟨aI,aAm G.length aP.1 aP.2 s⟩) ⟨(by first|(simp only[go_sem,J,U,K,a6,bb,O,S,bc];done)|(simp only[go_sem,J,U,K,a6,bb,O,S,bc];rfl)),(by first|(simp only[go_sem,J,U,K,a6,bb,O,S,bc];done)|(simp only[go_sem,J,U,K,a6,bb,O,S,bc];rfl))⟩).TP hW) aI ?_
  simp only[go_sem,J,U,K,a6,bb,O,S,bc];refine hH ?_;refine qj (Ma false d.m.cq gf _) aI ?_;simp only[go_sem,J,U,K,a6,bb,O,S,bc];repeat' first|refine hH ?_|(refine bz ?_ ?_<;>intro h<;>try exact bx h)|fail
  refine qj ((aL2 d.m.cq (λs=>decide<|s.n=c.n) (G.length+2) 1 d.m.cq.length d.m.cq.length rfl (bh _) gf (λT=>az T G.length=.cells 0 [.ref i 0 0]/\az T i=.cells 0 [.sl false (d.m.log.entries.map dT),.sl false<|d.m.log.nodes.map bj,.int .i64 d.m.seen,.int .i64 d.m.rep,.osl 2 (G.length+1) 1 0 (d.m.dh.filter λs=> !decide (s.n=c.n)).length d.m.dh.length,.sl false<|d.m.cq.map dY,.int .i64 d.m.next,
 .int .i64 d.a.err,.str d.a.data,.sl false<|d.a.names.map I.str,.int .i64 d.a.n,.sl false<|d.a.events.map dt,
 .int .i64 c.kind,.str c.path,.str c.to,.str c.data,.int .i64 c.n,.osl 7 j (d.ops.length+1) 0 d.ops.length d.ops.length]) (λT b h=>⟨bN h.1 gf b,bN h.2 gf b⟩) (λT L h=>⟨bX h.1 trivial L,bX h.2 trivial L⟩) _
   (fn:=.func 306) (fs:=[]) (cs:=[.ref G.length 0 0]) (by first|(simp only[go_sem,J,U,K,a6,bb,O,S,bc];done)|(simp only[go_sem,J,U,K,a6,bb,O,S,bc];rfl)) (λs T aP=>Or.inl ⟨aI,aAn G.length aP.1 aP.2 s⟩) ⟨(by first|(simp only[go_sem,J,U,K,a6,bb,O,S,bc];done)|(simp only[go_sem,J,U,K,a6,bb,O,S,bc];rfl)),(by first|(simp only[go_sem,J,U,K,a6,bb,O,S,bc];done)|(simp only[go_sem,J,U,K,a6,bb,O,S,bc];rfl))⟩).TP (by simp[bc])) aI ?_
  simp only[go_sem,J,U,K,a6,bb,O,S,bc];refine hH ?_;refine IC V rfl rfl rfl ?_;unfold fN;repeat' first|exact fx|refine ds ?_ ?_|exact .cl _ (.int _ _)|exact .cl _ (.str _)|exact .cl _ (EY _ _ _)|exact .cl _ (EX _ _ _)|exact .cl _ (EZ _ _ _)|exact .cl _ (E0 _ _ _)|exact .cl _ (E1 _ _ _)|exact .cl _ (E2 _ _ _)|exact .cl _ (.osl _ _ _ _ _ _ cH)
  ·exact Ct gf (by first|(simp only[go_sem,J,U,K,a6,bb,O,S,bc];done)|(simp only[go_sem,J,U,K,a6,bb,O,S,bc];rfl)) rfl (λ_=>rfl) λx=>mZ
  ·exact Ct gf (by first|(simp only[go_sem,J,U,K,a6,bb,O,S,bc];done)|(simp only[go_sem,J,U,K,a6,bb,O,S,bc];rfl)) rfl (λ_=>rfl) λx=>mZ
@[go_sem] theorem aYS(all os:List Oper)(pp:List cK)(k:Nat)(fs:List Bool)(α:a8)(H:ab)(U:List ab)(J:il)(K:a8->ab->Prop)(dst:Option Tmp)(ty t:TypeId)(pos:String)(after:Array Edge)(x:Array (Nat×Operand)):
  e8 P all (.bW fs::pp) (⟨dst,.build t x,ty,pos,after,none⟩::os) k α H U J K=((cr P (.build t x) (bn α) H).s/\rL fs J (cr P (.build t x) (bn α) H).H/\e8 P all pp os (k+1) (cP dst (cr P (.build t x) (bn α) H).v α) (cr P (.build t x) (bn α) H).H (H::U) (oU fs J) K):=
 aAv (A:=(cr P (.build t x) (bn α) H).s) (b:=(cr P (.build t x) (bn α) H).v) (G:=(cr P (.build t x) (bn α) H).H) (W:=λH1=>rL fs J H1) (X:=λv H1=>e8 P all pp os (k+1) (cP dst v α) H1 (H::U) (oU fs J) K)
def Tf:List cK:=[.ah 0,.ah 0,.bW [false,true],.ah 1,.ah 1,.bW [false,true,true],.bW [true,true],.bW [true,true],.bW [true,true],.aQ]
def J1:List cK:=[.aQ,.aQ,.ah 0,.ah 0,.ah 0,.ah 0,.ah 0,.aQ,.bW [true,false,true,true,true],.ah 0,.ah 0,.ah 0,.bW [false,true,true]]
attribute [go_sem] Tf J1
theorem aAg:DX prog 256 bB 2:=HJ 2 16 func256
def rN(n:Nat)(f1 f2:Bool)(t:fw):ab:=[.cells 0 (gp f1 f2 t).cells,.cells 1<|aV bB t.held,.cells 1<|aV bB t.waits,.cells 0 [.osl 2 (n+1) 1 0 t.held.length t.held.length,.osl 2 (n+2) 1 0 t.waits.length t.waits.length]]
theorem QP(f1 f2:Bool)(t:fw)(h1:t.held.length<=1000000)(h2:t.waits.length<=1000000)(H:ab):
  cV prog 226 [gp f1 f2 t] H (λv H'=>v=.ref (H.length+3) 0 0/\H'=H++rN H.length f1 f2 t):=by
 refine uf func226 ?_;have O:=nB [(1,Tf)];refine bL gp.eq_1 ?_;refine qj (aAg f1 t.held gf _) aI ?_;have S:=en (enc:=bB) (s:=2) (λ_=>rfl) t.held;have T:=en (enc:=bB) (s:=2) (λ_=>rfl) t.waits;simp only[go_sem];repeat' first|((first|refine mx [1] Tf ?_|refine ae ?_);simp only[go_sem,gp])|refine ai ?_|fail
 refine qj (aAg f2 t.waits gf _) aI ?_;simp only[go_sem];refine bL gp.eq_1 ?_;refine⟨_,[],_,(cE _).symm,hW,G1 λb K=>?_,.cl _<|.ref _ _ _ hW,rfl,rfl⟩
 have U:∀(n v:Nat) (l:List dI),ed n (.cells v<|aV bB l):=λn v l=>LA (λx=>mZ) n v l
 simp only[db,mh,mj]at K;rcases K with rfl|rfl|rfl|rfl
 ·intro x J;simp only[db,mh,mj]at J;rcases J with rfl|rfl
  ·exact(b9.sl _ _ λe he=>by(obtain⟨x,_,rfl⟩:=bP.1 he;simp only[go_sem])).cl _
  ·exact(b9.sl _ _ λe he=>by(obtain⟨x,_,rfl⟩:=bP.1 he;simp only[go_sem])).cl _
 ·exact U _ _ _
 ·exact U _ _ _
 ·intro x J;simp only[db,mh,mj]at J;rcases J with rfl|rfl
  ·exact .osl _ _ _ _ _ _ hW
  ·exact .osl _ _ _ _ _ _ hW
def Fc(r:fw×Bool):I:=.aN [gp false false r.1,.bool r.2]
theorem Mw(t:fw){a b:I}(J:cJ n H a (.sl false<|t.held.map bB))(U:cJ n H b (.sl false<|t.waits.map bB)):cJ n H (.agg [a,b]) (gp false false t):=.agg _ _ rfl<|ds J (ds U fx)
theorem AD{k:Nat}(D:List dI)(af:n<=i)(J:az H i=.cells v cs)(U:cs=aV bB D)(hk:D.length=k):cJ n H (.osl 2 i v 0 k lc) (.sl false<|D.map bB):=
 Ct af (by rw[J,U]) hk (λ_=>rfl) (λx=>mZ)
theorem SV:tW prog 198 bB 2:=H9 2 func198
theorem aQL:LQ prog 198 bB 2:=SV.o
theorem aOU(l:List dI)(p:dI->Bool)(i v lc n:Nat)(af:n=l.length)(U:n<=lc)(hl:n<=1073741824){fn:Fn}{fs:List I}(H:ab)(K:az H i=.cells v (aV bB l))
  (O:∀x,kb prog (.func fn fs cs) [bB x] H (λr S=>r=.bool (p x)/\S=H)):
  aO prog 229 [.osl 2 i v 0 n lc,.func fn fs cs] H (.bool<|l.any p):=by
 refine bg func229 ?_;have J:=aQL l p i v lc n af U hl H K O;repeat' first|((first|refine hI J ?_|refine ae ?_);simp only[go_sem])|refine ai ?_|fail
 exact bJ<|.of (by rw[HH])
theorem aQ6(hi:az G i=.cells 0 (bB w).cells)(s:dI):aO prog 228 [bB s,.ref i 0 0] G (.bool<|decide (s=w)):=by refine bg func228 ?_;have J:=bE hi trivial;simp only[bB,I.cells]at hi J;refine bL bB.eq_1 ?_;exact aX<|.of (by cases s;cases w;simp)
theorem aM7(f1 f2:Bool)(t:fw)(n k:Int)(h1:t.held.length<=1000000)(h2:t.waits.length<=1000000)(H:ab):aO prog 202 [gp f1 f2 t,.int .i64 n,.int .i64 k] H (Fc<|yM t n k):=by
 refine bg func202 ?_;have O:=aLB f1 f2 t k;have T:=QP f1 f2 t h1 h2;simp only[gp,L7]at O T;have J:=en (enc:=bB) (s:=2) (λ_=>rfl) t.held;have U:=en (enc:=bB) (s:=2) (λ_=>rfl) t.waits;repeat' first|(refine ae ?_;simp only[go_sem,gp])|refine ai ?_|fail
 refine c4 (T _) aI ?_;rintro v H' ⟨rfl,rfl⟩;unfold rN gp;simp only[go_sem];unfold yM;cases V:xk t.held k with
 |none=>
  rw[V]at O;repeat' first|((first|refine mx [7,11] J1 ?_|refine ae ?_);simp only[go_sem,J,U])|refine ai ?_|fail
  refine⟨⟨λe he=>by rw[he];rfl,gf⟩,?_⟩
  repeat' first|(refine ae ?_;simp only[go_sem,J,U])|refine ai ?_|fail
  exact⟨_,Fc (⟨t.held++[⟨k,n⟩],t.waits⟩,true),rfl,.aN _ _ rfl<|ds (Mw ⟨t.held++[⟨k,n⟩],t.waits⟩ (AD _ gf (by simp only[go_sem];try rfl) (iP ..).symm hW) (AD _ gf (by simp only[go_sem];try rfl) rfl rfl)) (ds (.cl _ (.bool _)) fx),rfl⟩
 |some j=>
  rw[V]at O;by_cases K:j=n
  ·have S:decide (j=n)=true:=dr K;simp only[aC K];repeat' first|((first|refine mx [7,11] J1 ?_|refine ae ?_);simp only[go_sem,J,U,S,o0])|refine ai ?_|fail
   exact⟨_,Fc (t,true),rfl,.aN _ _ rfl<|ds (Mw t (AD _ gf (by simp only[go_sem];try rfl) rfl rfl) (AD _ gf (by simp only[go_sem];try rfl) rfl rfl)) (ds (.cl _ (.bool _)) fx),rfl⟩
  ·have S:decide (j=n)=false:=b0 K;simp only[ar K];repeat' first|((first|refine mx [7,11] J1 ?_|refine ae ?_);simp only[go_sem,J,U,S,o0])|refine ai ?_|fail
   refine ia (aOU t.waits (λs=>decide (s=⟨k,n⟩)) (H.length+4) 1 t.waits.length t.waits.length rfl (bh _) gf _ mZ λx=>Or.inl ⟨aI,aQ6 (w:=⟨k,n⟩) (by simp only[go_sem];try rfl) x⟩) aI ?_
   have Z:(t.waits.any λs=>decide<|s=⟨k,n⟩)=t.waits.contains ⟨k,n⟩:=by rw[List.contains_eq_any_beq];congr 1;funext s;simp[eq_comm,Bool.beq_eq_decide_eq]
   rw[Z];cases I:t.waits.contains ⟨k,n⟩with
   |true=>
    simp only[go_sem];repeat' first|refine a7 ?_|(refine bz ?_ ?_<;>intro h<;>try exact bx h)|fail
    exact⟨_,Fc (t,false),rfl,.aN _ _ rfl<|ds (Mw t (AD _ gf (by simp only[go_sem];try rfl) rfl rfl) (AD _ gf (by simp only[go_sem];try rfl) rfl rfl)) (ds (.cl _ (.bool _)) fx),rfl⟩
   |false=>
    simp only[go_sem];repeat' first|((first|refine mx [7,11] J1 ?_|refine ae ?_);simp only[go_sem,J,U])|refine ai ?_|fail
    refine⟨⟨λe he=>by rw[he];rfl,gf⟩,?_⟩
    repeat' first|(refine ae ?_;simp only[go_sem,J,U])|refine ai ?_|fail
    exact⟨_,Fc (⟨t.held,t.waits++[⟨k,n⟩]⟩,false),rfl,.aN _ _ rfl<|ds (Mw ⟨t.held,t.waits++[⟨k,n⟩]⟩ (AD _ gf (by simp only[go_sem];try rfl) rfl rfl) (AD _ gf (by simp only[go_sem];try rfl) (iP ..).symm hW)) (ds (.cl _ (.bool _)) fx),rfl⟩
def ND:List cK:=[.aQ,.aQ,.ah 0,.aQ,.aQ,.ah 0,.bW [],.aQ]
attribute [go_sem] ND
theorem aQM:tW prog 198 bB 2:=SV
theorem aBl(w x:dI):(decide (w.lock=x.lock)&&decide (w.aZ=x.aZ))=decide (w=x):=by cases w;cases x;simp
theorem aRe(l:List dI)(w:dI)(i v lc n:Nat)(af:n=l.length)(jv:n<=lc)(hl:n<=1073741824)(rest:List I)(H:ab)(J:az H i=.cells v (aV bB l++rest)):
  aO prog 262 [.osl 2 i v 0 n lc,bB w] H (.int .i64<|e3 (λx=>decide (w=x)) l):=by
 refine bg func262 ?_;have O:(aV bB l).length=n * 2:=by rw[en (s:=2) (λ_=>rfl),af]
 have T:∀k,k<n->k * 2+2<=(aV bB l++rest).length:=λk hk=>by rw[bw,O];omega
 have V:=bE J trivial;repeat' first|(refine ae ?_;simp only[go_sem,J,bB])|refine ai ?_|fail
 refine c7 (ι:=Nat) (λk=>[(0,.osl 2 i v 0 n lc),(3,.ref H.length 0 0),(7,.int .i64 n),(8,.int .i64 k)]) (λ_=>H++[.cells 0 [.int .i64 w.lock,.int .i64 w.aZ]]) (λk=>k<=n/\∀q (hk:q<k) (ew:q<l.length),decide (w=l[q])=false) (λk=>n-k) 0 ⟨cb _,λq hk=>gf⟩ ?_ rfl ?_
 ·simp[go_sem]
 ·rintro k ⟨hk,U⟩;by_cases K:k<l.length
  ·have ad:=LL (enc:=bB) (s:=2) (λ_=>rfl) K rest;simp only[bB,I.cells]at ad;have S:decide ((k:Int)<(n:Int))=true:=cS;have hw:=eb K gf;have jN:=T k gf;repeat' first|(refine ae ?_;simp only[go_sem,J,V,S,ad,O])|refine bp ?_|(refine bz ?_ ?_<;>intro h<;>try exact bx h)|fail
   ·rw[aBl]at h;exact aX<|.of (by rw[G2 _ l k K (λq aM=>U q aM gf) h])
   ·rw[aBl]at h;refine⟨k+1,⟨gf,λq aM Z=>?_⟩,gf,b7 _ hw⟩;by_cases e:q=k
    ·subst e;simpa using h
    ·simpa using U q gf Z
  ·have z:k=n:=gf;subst z;have S:decide ((k:Int)<(k:Int))=false:=hW;refine hH ?_;exact aX<|.of (by rw[G3 _ l λq hk=>U q gf hk])
theorem aCl(l:List dI)(a i v lc n:Nat)(af:n=l.length)(aG:a<n)(hl:lc<=1073741824)(rest:List I)(H:ab)(K:az H i=.cells v (aV bB l++rest))(aw:(aV bB l++rest).length=lc * 2)(T:∀x∈rest,b9 x):
  cV prog 263 [.osl 2 i v 0 n lc,.int .i64 a,.int .i64 ((a+1:Nat):Int)] H (λr H'=>∃U,r=.osl 2 i v 0 (n-1) lc/\H'=an H i (.cells v<|aV bB (l.eraseIdx a)++U)/\(aV bB (l.eraseIdx a)++U).length=lc * 2/\∀x∈U,b9 x):=by
 refine h9 func263 ?_;have O:(aV bB l).length=n * 2:=by rw[en (s:=2) (λ_=>rfl),af]
 have h1:=bE K trivial;have d0:decide (((a:Nat):Int)=((a+1:Nat):Int))=false:=dA;repeat' first|((first|refine mx [5] ND ?_|refine ae ?_);simp only[go_sem,K,O,d0])|refine ai ?_|fail
 have b3:n<=lc:=by rw[bw,O]at aw;omega
 refine⟨⟨gf,gf,gf,gf⟩,?_⟩;have Fx:(a=lc)=False:=eq_false gf;have I2:List.take ((n-(a+1)) * 2) (List.drop ((a+1) * 2)<|aV bB l++rest)=aV bB (l.drop<|a+1):=by
  have e:aV bB l=aV bB (l.take<|a+1)++aV bB (l.drop<|a+1):=by rw[<-iP,sF]
  have ax:(aV bB (l.take<|a+1)).length=(a+1) * 2:=by rw[en (s:=2) (λ_=>rfl),gK,Nat.min_eq_left gf]
  have S:(aV bB (l.drop<|a+1)).length=(n-(a+1)) * 2:=by rw[en (s:=2) (λ_=>rfl),hp,af]
  rw[e,c6,<-ax,BI,<-S,yn]
 have q2:(aV bB (l.drop<|a+1)).all I.one=true:=by rw[fu];intro x J;unfold aV at J;simp only[vf,bP]at J;obtain⟨_,⟨y,_,rfl⟩,J⟩:=J;simp only[bB,I.cells,db,mh,mj]at J;rcases J with rfl|rfl<;>rfl
 obtain⟨R,eY,V,z⟩:∃R,du (aV bB l++rest) (a * 2) (aV bB<|l.drop (a+1))=aV bB (l.eraseIdx a)++R/\R.length=2+rest.length/\∀x∈R,b9 x:=by
  have ax:(aV bB (l.take a)).length=a * 2:=by rw[en (s:=2) (λ_=>rfl),gK,Nat.min_eq_left gf]
  have cW:aV bB l++rest=aV bB (l.take a)++(aV bB (l.drop a)++rest):=by rw[<-c6,<-iP,sF]
  have S:=rW (A:=aV bB<|l.take a) (B:=aV bB (l.drop a)++rest) (off:=a * 2) (X:=aV bB<|l.drop (a+1)) ax;rw[<-cW]at S;refine⟨_,by rw[S,List.eraseIdx_eq_take_drop_succ,iP,c6],?_,λx J=>?_⟩
  rotate_left
  ·rcases fH.1 (zJ J)with J|J
   ·exact zD (λx=>mZ) _ x J
   ·exact T x J
  rw[hp,bw,en (s:=2) λ_=>rfl,en (s:=2) λ_=>rfl,hp,hp];omega
 have MU:=cZ K trivial;have aL:∀X,az (an H i<|.cells v X) i=.cells v X:=λX=>dK MU _
 repeat' first|((first|refine mx [5] ND ?_|refine ae ?_);simp only[go_sem,K,O,d0,Fx,I2,q2,eY,gB])|refine bp ?_|(refine bz ?_ ?_<;>intro h<;>try exact bx h)|fail
 have aBB:n * 2+rest.length=lc * 2:=by rw[<-O,<-bw];exact aw
 have cW:a+(n-(a+1))=n-1:=gf;refine⟨⟨gf,gf,gf⟩,?_⟩;rw[cW];have MM:(aV bB (l.eraseIdx a)).length=(n-1) * 2:=by rw[en (s:=2) (λ_=>rfl),List.length_eraseIdx,aC gf,af]
 have a1:∀Z:List I,du (aV bB (l.eraseIdx a)++R) ((n-1) * 2) Z=aV bB (l.eraseIdx a)++(Z++R.drop Z.length):=λZ=>rW MM;have M0:((n-1:Nat):Int)=(n:Int)-1:=gf;repeat' first|((first|refine mx [5] ND ?_|refine ae ?_);simp only[go_sem,K,O,aL,MM,V,a1])|refine ai ?_|fail
 rw[jd];have ax:n-(n-1)=1:=gf;rw[ax];have CW:∀x∈([.int .i64 0,.int .i64 0]:List I)++R.drop 2,b9 x:=λx J=>by
  rcases fH.1 J with J|J
  ·simp only[db,mh,mj]at J;rcases J with rfl|rfl<;>exact .int _ _
  ·exact z x<|zJ J
 refine⟨_,[],.osl 2 i v 0 (n-1) lc,(cE _).symm,by rw[bc],ns λx J=>?_,.cl _<|.osl _ _ _ _ _ _ MU,[.int .i64 0,.int .i64 0]++R.drop 2,rfl,rfl,?_,CW⟩
 ·rcases fH.1 J with J|J
  ·exact(zD (λx=>mZ) _ x J).cl _
  ·exact(CW x J).cl _
 ·simp only[bw,cd,dZ,hp];omega
def Tg:List cK:=[.aQ,.aQ,.ah 0,.ah 0,.ah 0,.ah 0,.ah 0,.aQ,.bW [true,false,true,true,true],.ah 0,.ah 0,.ah 0,.bW [false,true,true]]
attribute [go_sem] Tg
structure sL (p aB hM hP jE kq lw:Nat) (t:fw) (G:ab):Prop where
 ad:az G p=.cells 0 [.osl 2 aB hP 0 t.held.length kq,.osl 2 hM jE 0 t.waits.length lw]
 h1:∃r,az G aB=.cells hP (aV bB t.held++r)/\(aV bB t.held++r).length=kq * 2/\∀x∈r,b9 x
 h2:∃r,az G hM=.cells jE (aV bB t.waits++r)/\(aV bB t.waits++r).length=lw * 2/\∀x∈r,b9 x
def Iy(o:Option Int):I:=.aN [.int .i64 (o.getD 0),.bool o.isSome]
theorem aRd{n:Int}(hi:az G i=.cells 0 [.int .i64 n])(s:dI):aO prog 264 [bB s,.ref i 0 0] G (.bool<|decide (s.lock=n)):=by refine bg func264 ?_;have J:=bE hi trivial;refine bL bB.eq_1 ?_;exact aX<|.refl _
theorem Gj{J:ab}{b:bD}(h:∀(j:Nat) (c:bD),H[j]?=some c->J[j]?=some c\/ed n c)(U:ed n b):∀(j:Nat) (c:bD),(an H i b)[j]?=some c->J[j]?=some c\/ed n c:=λj c K=>(ns U j c K).elim (h j c) .inr
theorem Rm(l:List dI)(r:List I)(U:∀x∈r,b9 x)(n v:Nat):ed n (.cells v<|aV bB l++r):=λx J=>(fH.1 J).elim (λh=>(zD (λx=>mZ) _ x h).cl _) λh=>(U x h).cl _
theorem Ru{a b c d e f:Nat}(h1:i<n)(h2:j<n):ed n (.cells 0 [.osl 2 i a 0 b c,.osl 2 j d 0 e f]):=λx J=>by simp only[db,mh,mj]at J;rcases J with rfl|rfl<;>exact .osl _ _ _ _ _ _<|by assumption
theorem aAu[DecidableEq α](p:α->Bool)(l:List α)(a:Nat)(h:e3 p l=(a:Int))(J:a<l.length):p l[a]=true/\l.erase l[a]=l.eraseIdx a:=by
 induction l generalizing a with
 |nil=>simp at J
 |cons x l K=>
  unfold e3 at h;cases ad:p x with
  |true=>simp only[ad,dW]at h;have:a=0:=gf;subst this;exact⟨ad,hW⟩
  |false=>
   simp only[ad,mM,gB]at h;have:=HF p l;split at h
   ·omega
   ·obtain⟨a,rfl⟩:∃b,a=b+1:=⟨a-1,gf⟩;obtain⟨i1,i2⟩:=K a gf<|oq J;refine⟨i1,?_⟩;rw[List.getElem_cons_succ,List.erase_cons_tail,i2,List.eraseIdx_cons_succ];intro U;rw[rD]at U;rw[<-U,ad]at i1;exact absurd i1 ko
theorem ZY{p U K O S T lw:Nat}{t:fw}(hs:sL p U K O S T lw t G)(d1:p≠U)(d2:p≠K)(d3:U≠K)(aW:T<=1000000)(bA:lw<=1000000)(n k:Int):
  cV prog 231 [.ref p 0 0,.int .i64 n,.int .i64 k] G (λv H'=>v=Iy (fE t n k).2/\sL p U K O S T lw (fE t n k).1 H'/\H'.length=G.length/\∀j,j≠p->j≠U->j≠K->az H' j=az G j):=by
 refine h9 func231 ?_;obtain⟨ad,⟨aS,h1,cm,tB⟩,⟨aY,h2,cT,Kj⟩⟩:=hs;have vH:=bE ad trivial;have g1:=bE h1 trivial;have g2:=bE h2 trivial;have ax:(aV bB t.held).length=t.held.length * 2:=en (enc:=bB) (s:=2) (λ_=>rfl) _;have aq:(aV bB t.waits).length=t.waits.length * 2:=en (enc:=bB) (s:=2) (λ_=>rfl) _;have c1:t.held.length<=T:=by rw[bw,ax]at cm;omega
 have c2:t.waits.length<=lw:=by rw[bw,aq]at cT;omega
 have p0:∀H,az H U=.cells O (aV bB t.held++aS)->aO prog 262 [.osl 2 U O 0 t.held.length T,bB ⟨k,n⟩] H (.int .i64<|e3 (λx=>decide ((⟨k,n⟩:dI)=x)) t.held):=λH h=>aRe t.held ⟨k,n⟩ U O T t.held.length rfl c1 gf aS H h
 simp only[bB]at p0;unfold fE;rcases HO (λx:dI=>decide<|(⟨k,n⟩:dI)=x) t.held with⟨aL,aR⟩|⟨a,aG,aL,aR⟩
 ·rw[aL]at p0;have c9:¬t.held.contains ⟨k,n⟩=true:=λao=>by
   have:=List.find?_eq_none.1 aR ⟨k,n⟩<|oq ao
   simp at this
  simp only[ar c9];repeat' first|((first|refine ia (p0 _<|by simp only[go_sem,ad,vH,h1,g1,Int.reduceLT]) aI ?_|refine kg (p0 _<|by simp only[go_sem,ad,vH,h1,g1,Int.reduceLT]) aI ?_|refine kh (λ_=>p0 _<|by simp only[go_sem,ad,vH,h1,g1,Int.reduceLT]) aI ?_|refine ae ?_);simp only[go_sem,ad,vH,h1,g1,Int.reduceLT])|refine bp ?_|(refine bz ?_ ?_<;>intro h<;>try exact bx h)|fail
  exact⟨G,_,Iy none,rfl,rfl,λi b h=>.inl h,eT.qR (.refl _) mZ,rfl,⟨ad,⟨aS,h1,cm,tB⟩,⟨aY,h2,cT,Kj⟩⟩,rfl,λ_ _ _ _=>rfl⟩
 ·rw[aL]at p0;have aCa:t.held[a]=⟨k,n⟩:=by have:=List.find?_some aR;simpa[eq_comm]using this
  have q7:t.held.contains ⟨k,n⟩=true:=by simp only[G9];rw[<-aCa];exact fQ aG
  have uk:decide ((a:Int)<0)=false:=dA;have Og:IntKind.i64.wrap ((a:Int)+1)=((a+1:Nat):Int):=eb aG gf;simp only[aC q7];repeat' first|((first|refine ia (p0 _<|by simp only[go_sem,ad,vH,h1,g1,uk,Og]) aI ?_|refine kg (p0 _<|by simp only[go_sem,ad,vH,h1,g1,uk,Og]) aI ?_|refine kh (λ_=>p0 _<|by simp only[go_sem,ad,vH,h1,g1,uk,Og]) aI ?_|refine ae ?_);simp only[go_sem,ad,vH,h1,g1,uk,Og])|refine bp ?_|(refine bz ?_ ?_<;>intro h<;>try exact bx h)|fail
  have s1:=hU h1 trivial;refine c4 (aCl t.held a U O T t.held.length rfl aG gf aS _ (g1 _) cm tB) aI ?_;rintro v H' ⟨V,rfl,rfl,JF,TR⟩;rw[s1];obtain⟨D,bR⟩:∃D,D=t.held.eraseIdx a:=⟨_,rfl⟩;have Ft:t.held.erase ⟨k,n⟩=D:=by rw[bR,<-aCa];exact(aAu _ _ _ aL aG).2
  have rV:D.length=t.held.length-1:=by rw[bR,List.length_eraseIdx,aC aG]
  rw[<-bR]at JF ⊢;have i1:=cZ h1 trivial;have ip:=cZ ad trivial;obtain⟨cO,eN⟩:∃cO,an G U (.cells O<|aV bB D++V)=cO:=⟨_,rfl⟩;have cw:az cO U=.cells O (aV bB D++V):=by rw[<-eN];exact dK i1 _
  have pp:az cO p=.cells 0 [.osl 2 U O 0 t.held.length T,.osl 2 K S 0 t.waits.length lw]:=by rw[<-eN];exact bN ad gf _
  have cL:az cO K=.cells S (aV bB t.waits++aY):=by rw[<-eN];exact bN h2 gf _
  have aOi:=bE pp trivial;have TE:=hU pp trivial;rw[eN];simp only[go_sem];repeat' first|(refine ae ?_;simp only[go_sem,aOi,TE])|refine ai ?_|fail
  have jp:=cZ pp trivial;obtain⟨Z,hy⟩:∃Z,an cO p (.cells 0 [.osl 2 U O 0 (t.held.length-1) T,.osl 2 K S 0 t.waits.length lw])=Z:=⟨_,rfl⟩;have t1:az Z p=.cells 0 [.osl 2 U O 0 (t.held.length-1) T,.osl 2 K S 0 t.waits.length lw]:=by rw[<-hy];exact dK jp _
  have t2:az Z U=.cells O (aV bB D++V):=by rw[<-hy];exact bN cw gf _
  have t3:az Z K=.cells S (aV bB t.waits++aY):=by rw[<-hy];exact bN cL gf _
  have Ki:Z.length=G.length:=by rw[<-hy,bc,<-eN,bc]
  have aCh:∀(i:Nat) (b:bD),Z[i]?=some b->G[i]?=some b\/ed G.length b:=by rw[<-hy,<-eN];exact Gj (Gj (λ_ _ h=>.inl h) (Rm D V TR _ _))<|Ru i1 (cZ h2 trivial)
  have aCz:∀j,j≠p->j≠U->j≠K->az Z j=az G j:=λj cx a2 a3=>by rw[<-hy,<-eN,ht<|ka cx,ht<|ka a2]
  have yT:=bE t1 trivial;have oI:=bE t2 trivial;have gs:=bE t3 trivial;have l8:∀L:List bD,az (Z++.cells 0 [.int .i64 k]::L) G.length=.cells 0 [.int .i64 k]:=λL=>tl Ki;have aPx:aO prog 198 [.osl 2 K S 0 t.waits.length lw,.func (.func 264) [] [.ref G.length 0 0]] (Z++[.cells 0 [.int .i64 k]]) (.int .i64<|e3 (λx:dI=>decide (x.lock=k)) t.waits):=
   aQM t.waits (λx:dI=>decide<|x.lock=k) K S lw t.waits.length rfl c2 gf aY _ (gs _) λx=>.inl ⟨aI,aRd (l8 []) x⟩
  rw[hy];simp only[yT,go_sem];repeat' first|(refine ae ?_;simp only[go_sem,yT])|refine ai ?_|fail
  refine c4 aPx aI ?_;rintro _ _ ⟨rfl,rfl⟩;rcases HO (λx:dI=>decide<|x.lock=k) t.waits with⟨lp,z2⟩|⟨b,aa,lp,z2⟩
  ·rw[lp];simp only[z2];simp only[go_sem];repeat' first|(refine ae ?_;simp only[go_sem,yT,oI,gs,Int.reduceLT])|refine bp ?_|(refine bz ?_ ?_<;>intro h<;>try exact bx h)|fail
   exact⟨Z,_,Iy none,rfl,Ki,aCh,eT.qR (.refl _) mZ,rfl,⟨by rw[Ft,rV];exact t1,⟨V,by rw[Ft];exact t2,by rw[Ft];exact JF,TR⟩,⟨aY,t3,cT,Kj⟩⟩,Ki,aCz⟩
  ·rw[lp];simp only[z2];have aNz:decide ((b:Int)<0)=false:=dA;have aSP:IntKind.i64.wrap ((b:Int)+1)=((b+1:Nat):Int):=eb aa gf;have zb:=LL (enc:=bB) (s:=2) (λ_=>rfl) aa aY;simp only[bB,I.cells]at zb;have pW:b * 2+2<=(aV bB t.waits++aY).length:=by rw[bw,aq];omega
   have s2:=hU t3 trivial;simp only[go_sem];repeat' first|(refine ae ?_;simp only[go_sem,yT,oI,gs,aNz,aSP,zb,l8])|refine ai ?_|fail
   refine c4 (aCl t.waits b K S lw t.waits.length rfl aa gf aY _ (gs _) cT Kj) aI ?_;rintro v H' ⟨zu,rfl,rfl,aCj,aDm⟩;rw[s2];obtain⟨E,eF⟩:∃E,E=t.waits.eraseIdx b:=⟨_,rfl⟩;have IU:t.waits.erase t.waits[b]=E:=by rw[eF];exact(aAu _ _ _ lp aa).2
   have Fu:E.length=t.waits.length-1:=by rw[eF,List.length_eraseIdx,aC aa]
   rw[<-eF]at aCj ⊢;obtain⟨fS,lF⟩:∃fS,an Z K (.cells S<|aV bB E++zu)=fS:=⟨_,rfl⟩;have t1:az fS p=.cells 0 [.osl 2 U O 0 (t.held.length-1) T,.osl 2 K S 0 t.waits.length lw]:=by rw[<-lF];exact bN t1 gf _
   have t2:az fS U=.cells O (aV bB D++V):=by rw[<-lF];exact bN t2 gf _
   have t3:az fS K=.cells S (aV bB E++zu):=by rw[<-lF];exact dK (cZ t3 trivial) _
   have aSz:fS.length=G.length:=by rw[<-lF,bc,Ki]
   have yT:=bE t1 trivial;have TE:=hU t1 trivial;rw[lF];simp only[go_sem];repeat' first|((first|refine mx [10] Tg ?_|refine ae ?_);simp only[go_sem,yT,TE])|refine bp ?_|(refine bz ?_ ?_<;>intro h<;>try exact bx h)|fail
   have jp:=cZ t1 trivial;obtain⟨w3,Cy⟩:∃w3,an fS p (.cells 0 [.osl 2 U O 0 (t.held.length-1) T,.osl 2 K S 0 (t.waits.length-1) lw])=w3:=⟨_,rfl⟩;have t1:az w3 p=.cells 0 [.osl 2 U O 0 (t.held.length-1) T,.osl 2 K S 0 (t.waits.length-1) lw]:=by rw[<-Cy];exact dK jp _
   have t2:az w3 U=.cells O (aV bB D++V):=by rw[<-Cy];exact bN t2 gf _
   have t3:az w3 K=.cells S (aV bB E++zu):=by rw[<-Cy];exact bN t3 gf _
   have aSA:w3.length=G.length:=by rw[<-Cy,bc,aSz]
   have yT:=bE t1 trivial;have oI:=bE t2 trivial;have aDd:=hU t2 trivial;have gm:∀B L,az (w3++B::.cells 0 [.int .i64 t.waits[b].lock,.int .i64 t.waits[b].aZ]::L) (Z.length+1)=.cells 0 [.int .i64 t.waits[b].lock,.int .i64 t.waits[b].aZ]:=λB L=>zy (k:=1) gf;have av:t.held.length-1+1<=T:=gf;have ib:(aV bB D).length=(t.held.length-1) * 2:=by rw[en (enc:=bB) (s:=2) (λ_=>rfl),rV]
   have aT:(t.held.length-1=T)=False:=eq_false gf;have ee:=λa b=>rW (B:=V) (X:=[.int .i64 a,.int .i64 b]) ib;rw[Cy];simp only[yT,gm,go_sem];repeat' first|((first|refine mx [10] Tg ?_|refine ae ?_);simp only[go_sem,yT,oI,aDd,gm,aT,JF])|refine bp ?_|(refine bz ?_ ?_<;>intro h<;>try exact bx h)|fail
   have aAW:aV bB (D++[t.waits[b]])=aV bB D++[.int .i64 t.waits[b].lock,.int .i64 t.waits[b].aZ]:=iP ..;have aQh:du (aV bB D++V) ((t.held.length-1) * 2) [.int .i64 t.waits[b].lock,.int .i64 t.waits[b].aZ]=aV bB (D++[t.waits[b]])++V.drop 2:=by rw[ee,aAW,c6];rfl
   obtain⟨mm,AH⟩:∃mm,an w3 U (.cells O<|aV bB (D++[t.waits[b]])++V.drop 2)=mm:=⟨_,rfl⟩;have TF:az mm p=.cells 0 [.osl 2 U O 0 (t.held.length-1) T,.osl 2 K S 0 (t.waits.length-1) lw]:=by rw[<-AH];exact bN t1 gf _
   have aSx:az mm K=.cells S (aV bB E++zu):=by rw[<-AH];exact bN t3 gf _
   have aSw:az mm U=.cells O (aV bB (D++[t.waits[b]])++V.drop 2):=by rw[<-AH];exact dK (cZ t2 trivial) _
   have aOj:=bE TF trivial;have aSv:=hU TF trivial;have Dr:∀B L,az (mm++B::.cells 0 [.int .i64 t.waits[b].lock,.int .i64 t.waits[b].aZ]::L) (Z.length+1)=.cells 0 [.int .i64 t.waits[b].lock,.int .i64 t.waits[b].aZ]:=λB L=>zy (k:=1)<|by rw[<-AH,bc];omega
   simp only[oI,aT,gB,aQh,aDd,AH,aOj,aSv,JF,go_sem];obtain⟨z,Cz⟩:∃z,an mm p (.cells 0 [.osl 2 U O 0 (t.held.length-1+1) T,.osl 2 K S 0 (t.waits.length-1) lw])=z:=⟨_,rfl⟩;have t1:az z p=.cells 0 [.osl 2 U O 0 (t.held.length-1+1) T,.osl 2 K S 0 (t.waits.length-1) lw]:=by rw[<-Cz];exact dK (cZ TF trivial) _
   have t2:az z U=.cells O (aV bB (D++[t.waits[b]])++V.drop 2):=by rw[<-Cz];exact bN aSw gf _
   have t3:az z K=.cells S (aV bB E++zu):=by rw[<-Cz];exact bN aSx gf _
   have aDi:z.length=G.length:=by rw[<-Cz,bc,<-AH,bc,aSA]
   have aOk:=bE t1 trivial;have Ny:∀B L,az (z++B::.cells 0 [.int .i64 t.waits[b].lock,.int .i64 t.waits[b].aZ]::L) (Z.length+1)=.cells 0 [.int .i64 t.waits[b].lock,.int .i64 t.waits[b].aZ]:=λB L=>zy (k:=1) gf;rw[Cz];simp only[Dr,aOk,go_sem];refine⟨⟨bh _,av,λe he=>by rw[he];rfl⟩,?_⟩
   repeat' first|(refine ae ?_;simp only[go_sem,Ny])|refine bp ?_|(refine bz ?_ ?_<;>intro h<;>try exact bx h)|fail
   have DG:∀x∈V.drop 2,b9 x:=λx J=>TR x<|zJ J
   have aQV:∀(i:Nat) (b:bD),z[i]?=some b->G[i]?=some b\/ed G.length b:=by rw[<-Cz,<-AH,<-Cy,<-lF];exact Gj (Gj (Gj (Gj aCh (Rm E zu aDm _ _)) (Ru i1 (cZ h2 trivial))) (Rm _ _ DG _ _))<|Ru i1 (cZ h2 trivial)
   have aRz:∀j,j≠p->j≠U->j≠K->az z j=az G j:=λj cx a2 a3=>by rw[<-Cz,<-AH,<-Cy,<-lF,ht<|ka cx,ht<|ka a2,ht<|ka cx,ht<|ka a3,aCz j cx a2 a3]
   refine⟨z,_,_,rfl,aDi,aQV,eT.qR (.refl _) mZ,rfl,⟨by rw[Ft,IU,bw,rV,Fu];exact t1,⟨V.drop 2,by rw[Ft];exact t2,by rw[Ft,aAW,bw,bw,hp,ib];rw[bw,ib]at JF;simp only[cd,dZ];omega,DG⟩,⟨zu,by rw[IU];exact t3,by rw[IU];exact aCj,aDm⟩⟩,aDi,aRz⟩
theorem Lz{H':ab}(hl:H.length<=H'.length)(h:∀j,j<H.length->az H' j=az H j):∃L,H'=H++L:=by
 refine⟨H'.drop H.length,?_⟩;refine List.ext_getElem? λj=>?_;rw[List.getElem?_append];split
 ·rename_i J;have:=h j J;simp only[az,gg]at this;rw[dn J,dn gf]at this ⊢;exact b7 some this
 ·rw[List.getElem?_drop];congr 1;omega
theorem H8{k:Nat}{r:List I}(D:List dI)(af:n<=i)(J:az H i=.cells v cs)(U:cs=aV bB D++r)(hk:D.length=k):cJ n H (.osl 2 i v 0 k lc) (.sl false<|D.map bB):=
 q8 (es:=D.map bB) (rest:=r) af J U (by rw[dq,hk]) (λe he=>by(obtain⟨x, -,rfl⟩:=bP.1 he;rfl)) (λe he=>by(obtain⟨x, -,rfl⟩:=bP.1 he;simp only[go_sem]))
theorem aAa(f1 f2:Bool)(t:fw)(H:ab):sL (H.length+3) (H.length+1) (H.length+2) 1 1 t.held.length t.waits.length t (H++rN H.length f1 f2 t):=by have U:=en (enc:=bB) (s:=2) (λ_=>rfl) t.held;have K:=en (enc:=bB) (s:=2) (λ_=>rfl) t.waits;unfold rN;exact⟨mZ,⟨[],by simp only[go_sem];try simp,by simp[U],λx J=>p2 J⟩,⟨[],by simp only[go_sem];try simp,by simp[K],λx J=>p2 J⟩⟩
theorem aMi(f1 f2:Bool)(t:fw)(n k:Int)(h1:t.held.length<=1000000)(h2:t.waits.length<=1000000)(H:ab):aO prog 204 [gp f1 f2 t,.int .i64 n,.int .i64 k] H (.aN [gp false false (fE t n k).1,.int .i64<|(fE t n k).2.getD 0,.bool (fE t n k).2.isSome]):=by
 refine bg func204 ?_;have S:=QP f1 f2 t h1 h2;simp only[gp]at S;refine bL gp.eq_1 ?_;obtain⟨J,K⟩:∃J,H++[bD.cells 0 [.sl f1 (t.held.map bB),.sl f2<|t.waits.map bB],bD.cells 0 [.sl true [],.sl true []]]=J:=⟨_,rfl⟩;rw[K];have T:J.length=H.length+2:=by rw[<-K];simp
 have g6:az J (H.length+1)=.cells 0 [.sl true [],.sl true []]:=by rw[<-K];simp only[go_sem]
 refine c4 (S _) aI ?_;rintro v H' ⟨rfl,rfl⟩;have hs:=aAa f1 f2 t J;have g6:=bX g6 trivial<|rN J.length f1 f2 t;have I:(J++rN J.length f1 f2 t).length=H.length+6:=by rw[bw,T];rfl
 have V:∀j,j<H.length->az (J++rN J.length f1 f2 t) j=az H j:=λj O=>by rw[<-K,c6];simp only[az,gg];rw[jc O]
 obtain⟨G,a7⟩:∃G,J++rN J.length f1 f2 t=G:=⟨_,rfl⟩;rw[a7]at hs g6 I V ⊢;rw[T]at hs;have hs:sL (H.length+5) (H.length+3) (H.length+4) 1 1 t.held.length t.waits.length t G:=hs;simp only[go_sem];refine hH ?_;refine c4 (ZY hs gf gf gf h1 h2 n k) aI ?_;rintro v H' ⟨rfl,⟨aL,⟨z,aR, -, -⟩,⟨aY,bC, -, -⟩⟩,cH,Z⟩;have g7:az H' (H.length+1)=.cells 0 [.sl true [],.sl true []]:=by rw[Z _ gf gf gf];exact g6
 unfold Iy;have g8:=λv X=>dK (cZ g7 trivial)<|.cells v X
 simp only[go_sem];refine hH ?_;obtain⟨X,U⟩:∃X,an H' (H.length+1) (bD.cells 0 [.osl 2 (H.length+3) 1 0 (fE t n k).1.held.length t.held.length,.osl 2 (H.length+4) 1 0 (fE t n k).1.waits.length t.waits.length])=X:=⟨_,rfl⟩;have dV:az X (H.length+3)=.cells 1 (aV bB (fE t n k).1.held++z):=by rw[<-U];exact bN aR gf _
 have gn:az X (H.length+4)=.cells 1 (aV bB (fE t n k).1.waits++aY):=by rw[<-U];exact bN bC gf _
 obtain⟨L,gW⟩:=Lz (H:=H) (H':=X) (by rw[<-U,bc];omega) λj O=>by rw[<-U,ht gf,Z _ gf gf gf,V j O]
 rw[U];exact⟨L,.aN [gp false false (fE t n k).1,.int .i64<|(fE t n k).2.getD 0,.bool (fE t n k).2.isSome],gW,.aN _ _ rfl<|ds (.agg _ _ rfl (ds (H8 _ gf dV rfl rfl) (ds (H8 _ gf gn rfl rfl) fx))) (ds (.cl _ (.int _ _)) (ds (.cl _ (.bool _)) fx)),rfl⟩
theorem aMK:Hu prog 280 bB 2:=LR 2 [.int .i64 0,.int .i64 0] func280 SV
theorem aMj{n:Int}(hi:az G i=.cells 0 [.int .i64 n])(s:dI):aO prog 281 [bB s,.ref i 0 0] G (.bool<|decide (s.aZ=n)):=by refine bg func281 ?_;have J:=bE hi trivial;refine bL bB.eq_1 ?_;exact aX<|.refl _
theorem QH{l:List Int}(h:has i=l):kW has i l=has:=funext λj=>by
 by_cases e:j=i
 ·subst e;rw[me,h]
 ·exact j8 _ e _
theorem eL.one(c:eL x){t':bF}(ag:x.aE[who]?=some t)(hw:∀w∈x.t.waits,w.aZ≠who)(z:iC x.g who=false)(h1:t'.call=t.call)(h2:t'.has=t.has)(h3:t'.done=true)(h4:t'.ended=true->t'.has=[])
  (b6:0<=t'.upto/\t'.upto<=y.ops.length) (dP:t'.call.kind=12->t'.ended=true->t'.bZ.err=0->t'.upto<=y.g.kept) (S:y.aE=x.aE.set who t') (U:y.t=x.t) (T:y.g=x.g) (p1:fJ y.m) (nY:y.ops.length<=y.m.log.entries.length+2000) (hle:x.ops.length<=y.ops.length)
  (p7:∀(i) t2,i≠who->x.aE[i]?=some t2->ov y.m.log.nodes t2) (l3:∀w∈x.t.waits,∀(i:Nat),w.aZ=i->i≠who->∀t2,x.aE[i]?=some t2->fX y.m.log.nodes t2=⟨1,w.lock⟩):eL y:=by
 have hi:=(cu.1 ag).1;have hm:∀t2∈y.aE,t2=t'\/∃i,i≠who/\x.aE[i]?=some t2:=λt2 h=>by
  rw[S]at h;obtain⟨i,V⟩:=List.getElem?_of_mem h;rw[yr]at V;split at V
  ·exact .inl (tH V).symm
  ·rename_i e;exact .inr ⟨i,λK=>e K.symm,V⟩
 have Jh:=dy ag;refine⟨p1,λt2 h=>?_,by rw[S,kx];exact c.n,?_,λt2 h=>?_,λw h i e t2 Z=>?_,by rw[T];exact c.AG,λw h=>?_,?_,λt2 h=>?_,λt2 h=>?_,nY⟩
 ·rcases hm t2 h with rfl|⟨i, -,J⟩
  ·rw[h1];exact c.cs t Jh
  ·exact c.cs t2<|dy J
 ·rw[S,U,kx,x8 hi,QH<|by rw[h2];exact pA ag];exact c.hN
 ·rcases hm t2 h with rfl|⟨i,O,J⟩
  ·exact ov.um h3 h4
  ·exact p7 i t2 O J
 ·rw[U]at h;have O:who≠i:=λK=>hw w h<|by rw[e,K]
  rw[S,gS O]at Z;exact l3 w h i e (ka O) t2 Z
 ·rw[T]at h ⊢;obtain⟨i,t2,I,aR,bC⟩:=c.oI w h;have O:who≠i:=λK=>EW.1 z w h<|by rw[I,K]
  exact⟨i,t2,I,j9,bC⟩
 ·rw[T];have:=c.kp;omega
 ·rcases hm t2 h with rfl|⟨i, -,J⟩
  ·exact b6
  ·have:=c.up t2<|dy J;omega
 ·rcases hm t2 h with rfl|⟨i, -,J⟩
  ·exact dP
  ·rw[T];exact c.DD t2<|dy J
theorem eL.leave(c:eL x)(ag:x.aE[who]?=some t)(hw:∀w∈x.t.waits,w.aZ≠who)(J:iC x.g who=false)(af:fX x.m.log.nodes t=⟨5,k⟩):eL (Et who x):=by obtain⟨-,h2,h3,h4,U⟩:=Xg af;unfold Et;rw[nz ag];exact c.one (t':={t with ended:=true,end_:=x.time}) ag hw J rfl rfl h3 (λ_=>h4) (c.up t (dy ag)) (λh=>absurd h U) rfl rfl rfl c.iX c.ops (bh _) (λi t2 _ h=>c.kt t2 (dy h)) λw h i e _ t2 K=>c.wt w h i e t2 K
theorem eL.wait(c:eL x)(ag:x.aE[who]?=some t)(hw:∀w∈x.t.waits,w.aZ≠who)(J:iC x.g who=false)(af:fX x.m.log.nodes t=⟨4,k⟩):eL (B9 who t x):=by
 obtain⟨-,h2,h3,h4,K⟩:=aLx af;unfold B9 yB;by_cases hu:t.upto<=x.g.kept
 ·rw[aC hu];have e:mE x.time x.aE who=x.aE.set who (vA x.time t):=nz ag _;rw[e];exact c.one (t':=vA x.time t) ag hw J rfl rfl h3 (λ_=>h4) (c.up t (dy ag)) (λ_ _ _=>hu) rfl rfl rfl c.iX c.ops (bh _) (λi t2 _ h=>c.kt t2 (dy h)) λw h i e _ t2 O=>c.wt w h i e t2 O
 ·rw[ar hu,J];simp only[mM,gB];refine⟨c.iX,c.cs,c.n,c.hN,c.kt,c.wt,?_,λw h=>?_,c.kp,c.up,c.DD,c.ops⟩
  ·rw[List.pairwise_append];refine⟨c.AG,List.pairwise_singleton _ _,λa S b U=>?_⟩;rw[dH]at U;subst U;exact EW.1 J a S
  ·rw[fH,dH]at h;rcases h with h|rfl
   ·exact c.oI w h
   ·exact⟨who,t,rfl,ag,h3,h2,K,h4,rfl,j9⟩
theorem aSJ{l:List aH}{names:List al}{here i:Int}{s:al}(h:t.has=[here])(ay:0<=t.at_)(hs:names[t.at_.toNat]?=some s)(J:kB l here s=some i)(hd:dv i=true):vd l names t=⟨1,i⟩:=by unfold vd;rw[h];simp[aC ay,hs];obtain⟨n,af,rfl⟩:=gA.1 J;rw[af];simp[aC hd]
theorem aSC{has bO:List Int}(h:has++[k]<+:bO)(hk:k∉has):nF has bO=⟨1,k⟩:=by obtain⟨r,rfl⟩:=h;rw[c6,Yc _ _ λy h=>h,KU,OV j9]
theorem Z2(c:eL x)(ag:x.aE[who]?=some t){O:List aH}{ops:List bk}(V:ml O)(S:zN x.m.log.nodes t O ops)(aT:i≠who)(h2:x.aE[i]?=some t2):
  ov O t2/\∀k,fX x.m.log.nodes t2=⟨1,k⟩->fX O t2=⟨1,k⟩:=by
 have Z:=c.iX.nodes.lA;have hw:=c.kt t2<|dy h2;have hi:=(cu.1 h2).1;have Nf:=(cu.1 ag).1;have I:∀k,k∈t2.has->k∉t.has:=λk hk ew=>aT<|c.hN.Tc hi Nf (by rw[pA h2];exact hk) (by rw[pA ag];exact ew)
 -- the locks of one that turns the tree, and has some
 have z:t2.done=false->fZ t2.call=true->t2.has<+:iH O t2.call/\∀k,t2.has++[k]<+:iH x.m.log.nodes t2.call->t2.has++[k]<+:iH O t2.call:=λhd U=>by
  have ad:=hw.nE hd U;by_cases T:fZ t.call=false
  ·have:=aLw Z V S T t2.call;exact⟨ad.trans this,λk hk=>hk.trans this⟩
  ·have tf:1∈t.has\/O=x.m.log.nodes:=by
    cases S with
    |none h=>exact .inr h
    |born o n hk ad af ag=>exact absurd ag T
    |wrote o hk aD n af ad ag=>exact absurd ag T
    |gx o hk n af ad aM ag h1=>exact .inl h1
   rcases tf with h1|h1
   ·have he:t2.has=[]:=by
     cases K:t2.has with
     |nil=>rfl
     |cons a r=>rw[K]at ad;have:=(List.cons_prefix_cons.1 ad).1;exact absurd h1<|I 1 (by rw[K,this];simp)
    rw[he];refine⟨List.nil_prefix,λk hk=>?_⟩;have:=(List.cons_prefix_cons.1 hk).1;subst this;exact⟨_,rfl⟩
   ·rw[h1];exact⟨ad,λ_ h=>h⟩
 refine⟨⟨hw.ended,hw.walk,λhd U=>(z hd U).1,hw.plain⟩,λk af=>?_⟩;have J:=uJ x.m.log.nodes t2;rw[af]at J;generalize hu:(⟨1,k⟩:fk)=u at J;cases J with
 |none=>cases hu
 |back=>cases hu
 |wait=>cases hu
 |leave=>cases hu
 |plain=>cases hu
 |nE hd he U=>
  obtain⟨aL,aR⟩:=P6 (Pk _ _) (hw.nE hd U) hu.symm;unfold fX;rw[ar (by simp[he]),ar (by simp[hd]),aC U]
  exact(aSC ((z hd U).2 k aR) aL).trans hu
 |walk _ hd he U j2 hs=>
  unfold fX;rw[ar (by simp[he]),ar (by simp[hd]),ar (by simp[U]),aC j2]
  cases hs with
  |root K=>cases hu;unfold vd;rw[K]
  |down here j s K ay hs ao nU=>
   cases hu;have MB:=((hw.walk hd j2).2.2.2.2 here (by rw[K];simp)).2.1
   exact aSJ K ay hs (by rw[aLv Z V S (I here<|by rw[K];simp) MB];exact ao) nU
  |pass=>cases hu
  |vD=>cases hu
  |here=>cases hu
theorem eL.aMQ(c:eL x)(ag:x.aE[who]?=some t)(hw:∀w∈x.t.waits,w.aZ≠who)(S:iC x.g who=false)(af:fX x.m.log.nodes t=⟨3,0⟩)(hk:t.call.kind≠13\/(eM x.m t.call).2.1.err≠0):eL (kN who x<|eM x.m t.call):=by
 obtain⟨he,hd⟩:=QO af;have J:=QY c.iX t.call;have K:=aLu c.iX hd af hk;have hl:=QB c.iX t.call;unfold kN;rw[nz ag];refine c.one (t':=EP x (eM x.m t.call) t) ag hw S rfl rfl rfl (λh=>?_) ?_ (λ_ h=>?_) rfl rfl rfl J ?_ ?_ (λi t2 U h=>(Z2 c ag J.nodes.lA K U h).1) (λw h i e U t2 O=>(Z2 c ag J.nodes.lA K U O).2 _<|c.wt w h i e t2 O)
 ·have:t.ended=true:=h;rw[he]at this;cases this
 ·exact⟨by show 0<=((x.ops++(eM x.m t.call).2.2).length:Int);omega,jU _⟩
 ·have:t.ended=true:=h;rw[he]at this;cases this
 ·have:=c.ops;simp;omega
 ·simp only[bw];omega
def jS(t:bF):Bool:=hB t.call&& !t.done
theorem ZZ(who n)(t):B8 who n t=(!decide (n=who)&&jS t):=by unfold B8 jS;rw[Bool.and_assoc]
def nn(a b:bF):Prop:=b.call=a.call/\b.done=a.done/\b.ended=a.ended/\b.upto=a.upto/\b.bZ=a.bZ/\b.mU=a.mU/\b.mark=a.mark/\b.end_=a.end_
theorem nn.refl(a):nn a a:=⟨rfl,rfl,rfl,rfl,rfl,rfl,rfl,rfl⟩
theorem nn.trans{c:bF}(h:nn a b)(k:nn b c):nn a c:=by grind [bF,nn]
theorem Zo(t)(k):nn t (dE t ⟨1,k⟩):=by obtain⟨-,a2,a3,a4,a5,J,U,K,a9, -⟩:=Dy t k;exact⟨a2,a3,a4,a5,J,U,K,a9⟩
theorem nn.late(h:nn a b):jS b=jS a:=by unfold jS;rw[h.1,h.2.1]
theorem aOh{l:List bF}(e:w.aZ=j)(h:l[j]?=some t):mc l w=l.set j (dE t ⟨1,w.lock⟩):=by unfold mc;rw[e];exact nz h _
theorem QQ:∀(g:List dI) (l:List bF),(∀h∈g,∃j:Nat,h.aZ=(j:Int)/\j<l.length)->
  (g.foldl mc l).length=l.length/\js (g.foldl mc l)=J0 (js l) g/\∀(i:Nat) t',(g.foldl mc l)[i]?=some t'->∃t,l[i]?=some t/\nn t t'/\(t'=t\/∃h∈g,h.aZ=(i:Int))/\∀k∈t'.has,k∈t.has\/∃h∈g,h.lock=k
 |[],l,_=>⟨rfl,rfl,λi t' h=>⟨t',h,nn.refl _,.inl rfl,λk hk=>.inl hk⟩⟩
 |w::g,l,K=>by
  obtain⟨j,e,U⟩:=K w hW;have ag:=dn U;have an:=aOh e ag;obtain⟨O,S,T⟩:=QQ g (mc l w) λh Z=>j9;rw[qC];refine⟨O.trans j9,?_,λi t' h=>?_⟩
  ·rw[S];show J0 (js<|mc l w) g=J0 (kW (js l) w.aZ.toNat<|js l w.aZ.toNat++[w.lock]) g;rw[an,x8 U,(Dy _ _).1,e,h5,pA ag]
  ·obtain⟨t1,h1,h2,h3,h4⟩:=T i t' h;rw[an,yr]at h1;split at h1
   ·rename_i V;subst V;cases h1;refine⟨_,ag,(Zo _ _).trans h2,.inr ⟨w,hW,e⟩,λk hk=>?_⟩;rcases h4 k hk with q|⟨v,J,q⟩
    ·rw[(Dy _ _).1,fH,dH]at q;rcases q with q|q
     ·exact .inl q
     ·exact .inr ⟨w,hW,q.symm⟩
    ·exact .inr ⟨v,by simp[J],q⟩
   ·refine⟨t1,h1,h2,?_,λk hk=>?_⟩
    ·rcases h3 with h3|⟨v,J,q⟩
     ·exact .inl h3
     ·exact .inr ⟨v,by simp[J],q⟩
    ·rcases h4 k hk with q|⟨v,J,q⟩
     ·exact .inl q
     ·exact .inr ⟨v,by simp[J],q⟩
structure w2 (who:Nat) (lW:List bF) (yz:List dI) (n:Nat) (s:fw×List bF):Prop where
 len:s.2.length=lW.length
 hN:hf s.1 lW.length (js s.2)
 wK:∀(i:Nat) t',s.2[i]?=some t'->∃t,lW[i]?=some t/\nn t t'/\(i≠who->jS t=true->(i<n->t'.has=[]/\t'.at_=0)/\∀k∈t'.has,k≠1)/\(i=who\/jS t=false->t'=t)
 wt:∀w∈s.1.waits,w∈yz/\∀(i:Nat) t,w.aZ=(i:Int)->lW[i]?=some t->i≠who->jS t=true->n<=i
theorem w2.step{J:List bF}{V:List dI}{s:fw×List bF}(h:w2 who J V n s)(af:n<J.length)
  (gG:∀w∈V,w.aZ≠who/\∀(i:Nat) t,w.aZ=i->J[i]?=some t->jS t=false->w.lock=1):w2 who J V (n+1) (lQ who s n):=by
 have xH:n<s.2.length:=by rw[h.len];exact af
 have ag:=dn xH;obtain⟨t,ay,h1,h2,h3⟩:=h.wK n _ ag;unfold lQ;rw[ZZ,gg,ag,o0];by_cases hl:(!decide (n=who)&&jS s.2[n])=true
 ·rw[aC hl];simp only[dp,yt,wY]at hl;obtain⟨aT,Z⟩:=hl;have U:jS t=true:=by rw[<-h1.late];exact Z
  obtain⟨-,ev⟩:=h2 aT U;obtain⟨d1,d2,d3⟩:=h.hN.drop af;rw[pA ag]at d2;generalize hs:s.2[n]=t0 at *;rw[nz ag];have s6:(pz t0).has=[]:=rfl;have an:=x8 (t:=pz t0) xH;rw[s6]at an;rw[<-an]at d1;have Sj:∀w∈(kC s.1 n).2,∃j:Nat,w.aZ=j/\j<(s.2.set n (pz t0)).length:=λw hw=>by obtain⟨j,O,S, -⟩:=d2 w hw;exact⟨j,O,by rw[kx,h.len];exact S⟩
  obtain⟨g1,g2,g3⟩:=QQ (kC s.1 n).2 (s.2.set n<|pz t0) Sj
  -- who gets a lock is on its way, and has not begun anew yet
  have az:∀w∈(kC s.1 n).2,∀(i:Nat) t,w.aZ=i->J[i]?=some t->i≠n/\i≠who/\jS t=true/\n<=i/\w.lock≠1:=λw hw i t e hi=>by
   obtain⟨j,O,S,bC,cD,ej⟩:=d2 w hw;have:j=i:=gf;subst this;obtain⟨I,z⟩:=h.wt w cD;obtain⟨v1,v2⟩:=gG w I;have dw:=ev _ ej;have AW:jS t=true:=by
    cases Z:jS t with
    |true=>rfl
    |false=>exact absurd (v2 j t e hi Z) dw
   have AV:j≠who:=λK=>v1<|by rw[e,K]
   exact⟨bC,AV,AW,z j t e hi AV AW,dw⟩
  refine⟨by rw[g1,kx];exact h.len,by rw[g2];exact d1,λi t' hi=>?_,λw hw=>?_⟩
  ·obtain⟨t1,T,a2,a3,a4⟩:=g3 i t' hi;rw[yr]at T;split at T
   ·rename_i e;subst e;cases T;have tc:=λw hw e=>(az w hw n t e ay).1 rfl;have ax:t'=pz t0:=by
     rcases a3 with a3|⟨w,hw,q⟩
     ·exact a3
     ·exact absurd q<|tc w hw
    subst ax;refine⟨t,ay,h1.trans ⟨rfl,rfl,rfl,rfl,rfl,rfl,rfl,rfl⟩,λ_ _=>⟨λ_=>⟨rfl,rfl⟩,λk hk=>p2 hk⟩,λq=>?_⟩;rcases q with q|q
    ·exact absurd q aT
    ·rw[U]at q;cases q
   ·rename_i e;obtain⟨t2,aW,bA,iv,iO⟩:=h.wK i t1 T;refine⟨t2,aW,bA.trans a2,λc1 c2=>⟨λbK=>?_,λk hk=>?_⟩,λq=>?_⟩
    ·have I9:i<n:=gf;have ax:t'=t1:=by
      rcases a3 with a3|⟨w,hw,q⟩
      ·exact a3
      ·have:=(az w hw i t2 q aW).2.2.2.1;omega
     rw[ax];exact(iv c1 c2).1 I9
    ·rcases a4 k hk with q|⟨w,hw,q⟩
     ·exact(iv c1 c2).2 k q
     ·obtain⟨j,O,S, -⟩:=d2 w hw;rw[<-q];exact(az w hw j _ O (dn S)).2.2.2.2
    ·have ax:t'=t1:=by
      rcases a3 with a3|⟨w,hw,aRV⟩
      ·exact a3
      ·obtain⟨-,lp,z2, -⟩:=az w hw i t2 aRV aW;rcases q with q|q
       ·exact absurd q lp
       ·rw[z2]at q;cases q
     rw[ax];exact iO q
  ·obtain⟨I,z⟩:=d3 w hw;obtain⟨v1,v2⟩:=h.wt w I;refine⟨v1,λi t3 e hi c1 c2=>?_⟩;have:=v2 i t3 e hi c1 c2;have bK:i≠n:=λK=>z<|by rw[e,K]
   omega
 ·rw[ar hl];refine⟨h.len,h.hN,λi t' hi=>?_,λw hw=>?_⟩
  ·obtain⟨t2,aW,bA,iv,iO⟩:=h.wK i t' hi;refine⟨t2,aW,bA,λc1 c2=>⟨λbK=>?_,(iv c1 c2).2⟩,iO⟩;by_cases e:i=n
   ·subst e;rw[ag]at hi;cases hi;rw[ay]at aW;cases aW;exact absurd (by rw[h1.late,c2];simp[c1]) hl
   ·exact(iv c1 c2).1 gf
  ·obtain⟨v1,v2⟩:=h.wt w hw;refine⟨v1,λi t3 e hi c1 c2=>?_⟩;have:=v2 i t3 e hi c1 c2;have bK:i≠n:=λK=>by
    subst K;rw[ay]at hi;cases hi;exact hl<|by rw[h1.late,c2];simp[c1]
   omega
theorem w2.all{who:Nat}{J:List bF}{U:List dI}{s:fw×List bF}(h:w2 who J U 0 s)
  (K:∀w∈U,w.aZ≠who/\∀(i:Nat) t,w.aZ=(i:Int)->J[i]?=some t->jS t=false->w.lock=1):∀k,k<=J.length->w2 who J U k ((List.range k).foldl (lQ who) s)
 |0,_=>h
 |k+1,hk=>by rw[BG,yl];exact(w2.all h K k gf).step gf K
theorem TQ(c:eL x)(ag:x.aE[who]?=some t)(h1:1∈t.has)(S:i≠who)(h2:x.aE[i]?=some t2)(hd:t2.done=false)(U:fZ t2.call=true):t2.has=[]/\∀k,fX x.m.log.nodes t2=⟨1,k⟩->k=1:=by
 have ad:=(c.kt t2 (dy h2)).nE hd U;have he:t2.has=[]:=by
  cases K:t2.has with
  |nil=>rfl
  |cons a r=>rw[K]at ad;have:=(List.cons_prefix_cons.1 ad).1;exact absurd (c.hN.Tc (k:=1) (cu.1 h2).1 (cu.1 ag).1 (by rw[pA h2,K,this];simp)<|by rw[pA ag];exact h1) S
 refine⟨he,λk hk=>?_⟩;have J:=uJ x.m.log.nodes t2;rw[hk]at J;generalize hu:(⟨1,k⟩:fk)=u at J;cases J with
 |none=>cases hu
 |back=>cases hu
 |wait=>cases hu
 |leave=>cases hu
 |plain=>cases hu
 |nE=>have:=(P6 (Pk _ _) ad hu.symm).2;rw[he]at this;exact(List.cons_prefix_cons.1 this).1
 |walk _ _ _ O=>rw[U]at O;cases O
theorem aSD{l:List aH}(he:t.ended=false)(hd:t.done=false)(J:fZ t.call=true)(U:t.has=[]):fX l t=⟨1,1⟩:=by unfold fX;rw[ar j9,ar j9,aC J,U];rfl
theorem aRl(c:eL x){t1:bF}(ag:x.aE[who]?=some t)(hw:∀w∈x.t.waits,w.aZ≠who)(af:fX x.m.log.nodes t=⟨3,0⟩)(hk:t.call.kind=13)(d1:t1.has=t.has):
  (∀w∈x.t.waits,w.aZ≠who/\∀(i:Nat) t2,w.aZ=i->(x.aE.set who t1)[i]?=some t2->jS t2=false->w.lock=1)/\w2 who (x.aE.set who t1) x.t.waits (x.aE.set who t1).length ((List.range (x.aE.set who t1).length).foldl (lQ who) (x.t,x.aE.set who t1)):=by
 obtain⟨he,hd⟩:=QO af;have hi:=(cu.1 ag).1;have z:fZ t.call=true:=by unfold fZ;rw[hk];rfl
 have h1:=(Qs hd af).1 z 1<|by simp[iH]
 have V:∀i t2,(x.aE.set who t1)[i]?=some t2->(i=who/\t2=t1)\/(i≠who/\x.aE[i]?=some t2):=λi t2 h=>by grind
 have Z:∀w∈x.t.waits,w.aZ≠who/\∀(i:Nat) t2,w.aZ=i->(x.aE.set who t1)[i]?=some t2->jS t2=false->w.lock=1:=λw K=>by
  refine⟨hw w K,λi t2 e h hl=>?_⟩;rcases V i t2 h with⟨O, -⟩|⟨S,h⟩
  ·exact absurd (by rw[e,O])<|hw w K
  ·have T:=c.wt w K i e t2 h;obtain⟨aL,I, -⟩:=Bk c.iX.nodes.lA (c.kt t2<|dy h) T;have j2:=by unfold jS at hl;rw[I]at hl;simpa using hl
   have jy:=by
    have J:=uJ x.m.log.nodes t2;rw[T]at J;generalize hu:(⟨1,w.lock⟩:fk)=u at J;cases J with
    |none=>cases hu
    |back=>cases hu
    |wait=>cases hu
    |leave=>cases hu
    |plain=>cases hu
    |nE _ _ h=>exact h
    |walk _ _ _ _ h=>rw[j2]at h;cases h
   exact(TQ c ag h1 S h I jy).2 _ T
 have ay:w2 who (x.aE.set who t1) x.t.waits 0 (x.t,x.aE.set who t1):=by
  refine⟨rfl,?_,λi t' h=>⟨t',h,nn.refl _,λS U=>⟨λh=>absurd h<|Nat.not_lt_zero _,λk hk=>?_⟩,λ_=>rfl⟩,λw hw=>⟨hw,λ_ _ _ _ _ _=>cb _⟩⟩
  ·rw[kx,x8 hi,QH<|by rw[d1];exact pA ag];exact c.hN
  ·rcases V i t' h with⟨O, -⟩|⟨-,h⟩
   ·exact absurd O S
   ·unfold jS at U;simp only[dp,yt]at U;exact(((c.kt t' (dy h)).walk U.2 U.1).2.2.2.2 k hk).1
 exact⟨Z,w2.all ay Z _<|bh _⟩
theorem eL.merge(c:eL x)(ag:x.aE[who]?=some t)(hw:∀w∈x.t.waits,w.aZ≠who)(aP:iC x.g who=false)(af:fX x.m.log.nodes t=⟨3,0⟩)(hk:t.call.kind=13):eL (ED who<|kN who x (eM x.m t.call)):=by
 obtain⟨he,hd⟩:=QO af;have hi:=(cu.1 ag).1;have p1:=QY c.iX t.call;have hl:=QB c.iX t.call;have ik:fZ t.call=true:=by unfold fZ;rw[hk];rfl
 have h1:=(Qs hd af).1 ik 1<|by simp[iH]
 have lI:=p1.nodes.lA;unfold ED kN;rw[nz ag];generalize aw:eM x.m t.call=r at *;obtain⟨t1,tf⟩:∃t1,EP x r t=t1:=⟨_,rfl⟩;have d1:t1.call=t.call/\t1.has=t.has/\t1.done=true/\t1.ended=t.ended/\t1.upto=((x.ops++r.2.2).length):=by rw[<-tf];exact⟨rfl,rfl,rfl,rfl,rfl⟩
 rw[tf];simp only;have hlen:(x.aE.set who t1).length=x.aE.length:=kx;have Z:∀i t2,(x.aE.set who t1)[i]?=some t2->(i=who/\t2=t1)\/(i≠who/\x.aE[i]?=some t2):=λi t2 h=>by grind
 obtain⟨gG,cc⟩:=aRl c ag hw af hk d1.2.1;generalize(List.range (x.aE.set who t1).length).foldl (lQ who) (x.t,x.aE.set who t1)=s at *;obtain⟨z,a2,a3,a4⟩:=cc;rw[hlen]at z a2 a3 a4;have hm:∀t'∈s.2,∃(i:Nat) (t2:bF),s.2[i]?=some t'/\(x.aE.set who t1)[i]?=some t2/\nn t2 t':=λt' h=>by obtain⟨i,I⟩:=List.getElem?_of_mem h;obtain⟨t2,K,U, -⟩:=a3 i t' I;exact⟨i,t2,I,K,U⟩
 -- what another thread is behind it
 have k9:∀(i) t',s.2[i]?=some t'->i≠who->∃t2,x.aE[i]?=some t2/\nn t2 t'/\(jS t2=true->t'.has=[]/\t'.at_=0)/\(jS t2=false->t'=t2):=λi t' h S=>by
  obtain⟨t2,K,U,O,V⟩:=a3 i t' h;rcases Z i t2 K with⟨e, -⟩|⟨-,K⟩
  ·exact absurd e S
  ·exact⟨t2,K,U,λhl=>(O S hl).1 (cu.1 K).1,λhl=>V<|.inr hl⟩
 have Sp:∀t',s.2[who]?=some t'->t'=t1:=λt' h=>by
  obtain⟨t2,K,U,O,V⟩:=a3 who t' h;rcases Z who t2 K with⟨-,e⟩|⟨S, -⟩
  ·rw[V (.inl rfl),e]
  ·exact absurd rfl S
 refine⟨p1,λt' h=>?_,by show s.2.length<=40;rw[z];exact c.n,by show hf s.1 s.2.length (js s.2);rw[z];exact a2,λt' h=>?_,λw gI i e t' h=>?_,c.AG,λw h=>?_,?_,λt' h=>?_,λt' h=>?_,?_⟩
 ·obtain⟨i,t2,K,U,O⟩:=hm t' h;rw[O.1];rcases Z i t2 U with⟨-,e⟩|⟨-,U⟩
  ·rw[e,d1.1];exact c.cs t<|dy ag
  ·exact c.cs t2<|dy U
 ·obtain⟨i,I⟩:=List.getElem?_of_mem h;by_cases S:i=who
  ·subst S;rw[Sp t' I];exact ov.um d1.2.2.1 λh=>by rw[d1.2.2.2.1,he]at h;cases h
  ·obtain⟨t2,K,U,O,V⟩:=k9 i t' I S;have dQ:=c.kt t2<|dy K;cases T:jS t2 with
   |true=>
    obtain⟨aW,bA⟩:=O T;have j2:=by unfold jS at T;simp only[dp]at T;exact T.1
    refine⟨λh=>?_,λ_ _=>?_,λ_ h=>?_,λ_ h=>?_⟩
    ·rw[U.2.2.1]at h;exact⟨by rw[U.2.1];exact(dQ.ended h).1,aW⟩
    ·rw[aW,bA];exact⟨cb _,jU 0,ko,λ_=>rfl,λk hk=>(p2 hk)⟩
    ·rw[U.1,W8 j2]at h;cases h
    ·rw[U.1,j2]at h;cases h
   |false=>rw[V T];refine⟨dQ.ended,dQ.walk,λie jy=>?_,dQ.plain⟩;rw[(TQ c ag h1 S K ie jy).1];exact List.nil_prefix
 ·obtain⟨c5,cY⟩:=a4 w gI;have S:i≠who:=λaq=>hw w c5<|by rw[e,aq]
  obtain⟨t2,K,U,O,V⟩:=k9 i t' h S;have r5:(x.aE.set who t1)[i]?=some t2:=by rw[gS (ka S)];exact K
  have hX:=(cu.1 K).1;have T:jS t2=false:=by
   cases T:jS t2 with
   |false=>rfl
   |true=>have:=cY i t2 e r5 S T;omega
  rw[V T];have mA:=c.wt w c5 i e t2 K;obtain⟨cw,cL, -⟩:=Bk c.iX.nodes.lA (c.kt t2<|dy K) mA;have ev:=(gG w c5).2 i t2 e r5 T;have J:=uJ x.m.log.nodes t2;rw[mA]at J;have jy:fZ t2.call=true:=by
   generalize hu:(⟨1,w.lock⟩:fk)=u at J;cases J with
   |none=>cases hu
   |back=>cases hu
   |wait=>cases hu
   |leave=>cases hu
   |plain=>cases hu
   |nE _ _ h=>exact h
   |walk _ _ _ _ h=>unfold jS at T;rw[h,cL]at T;cases T
  rw[ev];exact aSD cw cL jy (TQ c ag h1 S K cL jy).1
 ·obtain⟨i,t2,K,U,O⟩:=c.oI w h;have S:i≠who:=λaq=>EW.1 aP w h<|by rw[K,aq]
  have hX:i<s.2.length:=by rw[z];exact(cu.1 U).1
  obtain⟨t3,aW,bA,iv,iO⟩:=k9 i _ (dn hX) S;rw[U]at aW;cases aW;have T:jS t2=false:=by unfold jS;rw[O.1];simp
  refine⟨i,t2,K,?_,O⟩;rw[<-iO T];exact dn hX
 ·have:=c.kp;show 0<=x.g.kept/\x.g.kept<=((x.ops++r.2.2).length);rw[bw];omega
 ·obtain⟨i,t2,K,U,O⟩:=hm t' h;rw[O.2.2.2.1];rcases Z i t2 U with⟨-,e⟩|⟨-,U⟩
  ·rw[e,d1.2.2.2.2];exact⟨gf,jU _⟩
  ·have:=c.up t2<|dy U;show 0<=t2.upto/\t2.upto<=((x.ops++r.2.2).length);rw[bw];omega
 ·obtain⟨i,t2,K,U,O⟩:=hm t' h;rw[O.1,O.2.2.1,O.2.2.2.1,O.2.2.2.2.1];rcases Z i t2 U with⟨-,e⟩|⟨-,U⟩
  ·intro _ h;rw[e,d1.2.2.2.1,he]at h;cases h
  ·exact c.DD t2<|dy U
 ·have:=c.ops;show(x.ops++r.2.2).length<=r.1.log.entries.length+2000;rw[bw];omega
theorem eL.nE(c:eL x)(ag:x.aE[who]?=some t)(he:t.ended=false)(hw:∀w∈x.t.waits,w.aZ≠who)(J:iC x.g who=false):eL (tC who t (fX x.m.log.nodes t) x):=by
 have key:∀u,fX x.m.log.nodes t=u->(u.kind=1\/u.kind=2\/u=⟨3,0⟩\/u.kind=4\/u.kind=5)->eL (tC who t u x):=by
  rintro⟨a,k⟩ hu hk;unfold tC;by_cases k1:a=1
  ·subst k1;exact c.take ag hw J hu
  rw[ar k1];by_cases k2:a=2
  ·subst k2;exact c.aOg ag hw J hu
  rw[ar k2];by_cases k3:a=3
  ·subst k3;have O:k=0:=j9;subst O;rw[aC rfl];unfold EI;split
   ·rename_i h;exact c.merge ag hw J hu h.1
   ·rename_i h;refine c.aMQ ag hw J hu ?_;by_cases U:t.call.kind=13
    ·exact .inr λay=>h ⟨U,ay⟩
    ·exact .inl U
  rw[ar k3];by_cases k4:a=4
  ·subst k4;exact c.wait ag hw J hu
  rw[ar k4];by_cases K:a=5
  ·subst K;exact c.leave ag hw J hu
  ·rw[ar K];exact c
 exact key _ rfl<|Ya _ he
theorem eL.step(c:eL x)(p)(full):eL (mJ x p full):=by
 unfold mJ;cases ad:wL x p with
 |none=>exact c
 |some who=>
  obtain⟨t,ag,he,hw, -⟩:=P1<|Pc ad;simp;unfold AF;have U:x.aE.getD who (so eK)=t:=j9;rw[U];cases J:iC x.g who with
  |true=>exact c.tick.oT full J
  |false=>exact c.tick.nE ag he hw J
section
open Go.ChangeShapes Go.WideShapes Go.ChangeAt Go.RowKit
theorem aMV:n5 prog 9=false:=ma
theorem aM8{x:I}(h:∃ys,x=mF prog 9 ys/\jW prog 9 ys/\(n5 prog 9=true\/ys.length=1)):∃n,x=.str n:=by obtain⟨ys,rfl,h,_⟩:=h;obtain⟨s,rfl,_⟩:=Iv underlying9 h;exact⟨s,by rw[mF,ar<|by rw[aMV];decide];rfl⟩
end
section
open Go.ChangeShapes Go.WideShapes Go.ChangeAt Go.RowKit
theorem aMT:n5 prog 58=true:=ma
theorem aQ3:rh prog 58=true:=ma
theorem aMU:n5 prog 22=false:=ma
theorem aQ4:rh prog 22=true:=ma
theorem aNk{ys:List I}(h:jW prog 58 ys):∃a,ys=(da a).cells:=by obtain⟨V,J,rfl,h1,U⟩:=yN<|ZB underlying58 aQ3 h;obtain⟨Z,K,rfl,h2,O⟩:=yN U;obtain⟨z,S,rfl,h3,a6⟩:=yN O;obtain⟨Ot,T,rfl,h4,bb⟩:=yN a6;obtain rfl:=ZP bb;obtain⟨s,rfl,_⟩:=EJ underlying3 h1;obtain⟨c,rfl⟩:=aNj h2;obtain⟨p,rfl,_⟩:=EJ underlying3 h3;obtain⟨f,rfl,_⟩:=Iv underlying9 h4;exact⟨⟨s,c,p,f⟩,rfl⟩
theorem aRf{J:List (List I)}(h:∀z∈J,jW prog 58 z):∃l,J.map (mF prog 58)=List.map da l/\l.length=J.length:=by
 induction J with
 |nil=>exact⟨[],rfl,rfl⟩
 |cons z J U=>
  obtain⟨p,rfl⟩:=aNk<|h z hW;obtain⟨l,h1,h2⟩:=U λz K=>h z<|by simp[K]
  refine⟨p::l,?_,by simp[h2]⟩
  rw[dO,dO,h1,mF,aC aMT];rfl
theorem Yk{x:I}(h:∃ys,x=mF prog 22 ys/\jW prog 22 ys/\(n5 prog 22=true\/ys.length=1)):∃l,x=.sl false (List.map da l)/\l.length<=maxLen:=by
 obtain⟨ys,rfl,h,_⟩:=h;obtain⟨U,rfl,hl,J⟩:=aLQ underlying22 aQ4 h;obtain⟨l,h1,h2⟩:=aRf J;refine⟨l,?_,by rw[h2];exact hl⟩
 rw[mF,ar (by rw[aMU];decide),h1];rfl
end
end Go.Proofs.YtnmamncmpklliaaGreatDoor
