/- What the functions of this seat answer (29 of 40). No condition. -/
import Derived.Test.YtigedpfipifefaaGreatDoorWorkAT
import Derived.Test.YtigedpfipifefaaGreatDoorWorkAY
set_option linter.unusedSimpArgs false
set_option linter.unusedVariables false
set_option maxRecDepth 100000
set_option maxHeartbeats 16000000
namespace Go.Proofs.YtigedpfipifefaaGreatDoor
theorem vT:∀(k m:Nat) (b:Txt),b.length≤k→b.length≤m→kB k b=kB m b:=by
 intro k;induction k with
 |zero=>intro m b h _;rw[zAu (by omega:b.length=0)];cases m<;>rfl
 |succ k ih=>
  intro m b h hm;cases m with
  |zero=>rw[zAu (by omega:b.length=0)];rfl
  |succ m=>
   rw[kB,kB];split
   ·rfl
   ·rename_i hb;have:=zAR.2 hb;rw[ih m (b.drop 14) (by simp;omega) (by simp;omega)]
theorem lM{b:Txt}(h:b≠[]):jC b=b.take 14::jC (b.drop 14):=by
 have:=zAR.2 h;unfold jC;obtain⟨k,hk⟩:∃k,b.length=k+1:=⟨b.length-1,by omega⟩
 rw[hk,kB,zAk h,vT k (b.drop 14).length (b.drop 14) (by simp;omega) (zAb _)]
theorem oO:∀(n:Nat) (b:Txt),b.length≤n→∀p∈jC b,p.length≤14:=by
 intro n;induction n with
 |zero=>intro b h p hp;rw[zAu (by omega:b.length=0)]at hp;cases hp
 |succ n ih=>
  intro b h p hp;by_cases hb:b=[]
  ·subst hb;cases hp
  ·have:=zAR.2 hb;rw[lM hb]at hp;rcases zAC.1 hp with rfl|hp
   ·simp;omega
   ·exact ih _ (by simp;omega) p hp
theorem aCb{H M N:AHeap}{n:Nat}(h:∀(k:Nat) (b:ABlk),M[k]?=some b→N[k]?=some b∨ClB n b)(j:Nat)(b:ABlk)(hj:(H++M)[j]?=some b):(H++N)[j]?=some b∨ClB n b:=by
 by_cases hlt:j<H.length
 ·rw[zAf hlt]at hj ⊢;exact .inl hj
 ·rw[zAw (by omega)]at hj ⊢;exact h _ _ hj
theorem aAv:∀(i:Nat) (b:Txt),(jC b)[i]?=if 14 * i<b.length then some ((b.drop (14 * i)).take 14)else none:=by
 intro i;induction i with
 |zero=>
  intro b;by_cases hb:b=[]
  ·subst hb;rfl
  ·have:=zAR.2 hb;rw[lM hb,zAp (by omega)];rfl
 |succ i ih=>
  intro b;by_cases hb:b=[]
  ·subst hb;rfl
  ·rw[lM hb,zA1,ih,List.drop_drop,zBa,show 14+14 * i=14 * (i+1) by omega]
   by_cases h:14 * (i+1)<b.length
   ·rw[zAp h,zAp (by omega)]
   ·rw[zAk h,zAk (by omega)]
theorem mL:∀(n:Nat) (b:Txt),b.length≤n→(jC b).length=(b.length+13) / 14:=by
 intro n;induction n with
 |zero=>intro b h;rw[zAu (by omega:b.length=0)];rfl
 |succ n ih=>
  intro b h;by_cases hb:b=[]
  ·subst hb;rfl
  ·have:=zAR.2 hb;rw[lM hb,zAt,ih _ (by simp;omega),zBa]
   omega
theorem rX{m:UInt8}{p:Txt}(h:p.length≤14):(eO m p).length=16:=by unfold eO fA;simp;omega
theorem iX(m:UInt8):∀(l:List Txt),(∀p∈l,p.length≤14)→(l.flatMap (eO m)).length=16 * l.length
 |[],_=>rfl
 |p::l,h=>by
  rw[zAF,zAa,rX (h p (by simp)),iX m l fun q hq=>h q (by simp[hq]),zAt]
  omega
theorem vU(m:UInt8){p:Txt}(h:p.length≤14):bI [.int .u8 m.toNat,.int .u8 0,.int .u8 0,.int .u8 0,.int .u8 0,.int .u8 0,.int .u8 0,.int .u8 0,.int .u8 0,.int .u8 0,.int .u8 0,.int .u8 0,.int .u8 0,.int .u8 0,.int .u8 0,.int .u8 m.toNat] 1 (bA p)=bA (eO m p):=by
 unfold bI eO bA;simp only[zAV,List.map_append,zBr];rw[show ∀(a:AV) (l:List AV),List.take 1 (a::l)=[a]from fun _ _=>rfl,zAs]
 show _::([]++_++_)=_;congr 1;rw[zAJ];congr 1;rw[show ∀(a:AV) (l:List AV),List.drop (1+p.length) (a::l)=l.drop p.length from fun a l=>by rw[Nat.add_comm];rfl]
 rw[show([.int .u8 0,.int .u8 0,.int .u8 0,.int .u8 0,.int .u8 0,.int .u8 0,.int .u8 0,.int .u8 0,.int .u8 0,.int .u8 0,.int .u8 0,.int .u8 0,.int .u8 0,.int .u8 0,AV.int .u8 m.toNat]:List AV)=(fA 14).map (fun b=>AV.int .u8 b.toNat)++[AV.int .u8 m.toNat]from rfl,List.drop_append_of_le_length (by rw[zAs,lK];exact h)]
 congr 1;unfold fA;rw[List.map_replicate,List.map_replicate,List.drop_replicate]
def uF:List Pl:=[.pure 0,.pure 0,.pure 0,.pure 0,.pure 0,.eff [false,false,true,false,false],.pure 0,.eff [false,false]]
def uG:List Pl:=[.pure 0,.pure 0,.eff [false,false],.eff []]
attribute [go_sem] uF uG
theorem aGw(n:Nat)(hn:n≤1000000)(H:AHeap):bJ Tryz.prog 75 [.int .i64 n] H (.int .u8 (aBa n).toNat):=by
 refine fO Tryz.func75 ?_;repeat' first|(refine gS ?_;simp only[go_sem])|refine gA ?_|(refine gD ?_ ?_<;>intro h<;>try exact aD h)|fail
 exact cU (.of (by
  have h1:((n:Int)).tmod 250=((n % 250:Nat):Int):=by rw[zAO (by omega)];omega
  rw[h1,wI];unfold aBa;rw[xS (by omega)]
  simp[IntKind.wrap,IntKind.signed,IntKind.bits];omega))
theorem aCc{j v n lc y:Nat}{cs:List AV}(J:Nat→AHeap→Prop)(hn:n≤1073741824)(hlc:n≤lc)(hl:∀i G,J i G→hget G j=.cells v cs)
  (hY:∀i G,14 * i<n→J i G→AYield Tryz.prog y [.osl 1 j v (14 * i) (min 14 (n-14 * i)) (min 14 (n-14 * i))] G (fun w G'=>w=.bool true∧J (i+1) G')) (H:AHeap) (h0:J 0 H):
  ACalls Tryz.prog 112 [.func (.yield y) [] [],.cptr [.osl 1 j v 0 n lc]] H (fun _ H'=>J ((n+13) / 14) H'):=by
 refine aW Tryz.func112 ?_;repeat' first|(refine gS ?_;simp only[go_sem])|refine gA ?_|(refine gD ?_ ?_<;>intro h<;>try exact aD h)|fail
 refine aH (ι:=Nat×AHeap) (fun s=>[(0,.func (.yield y) [] []),(1,.cptr [.osl 1 j v 0 n lc]),(3,.int .i64 (14 * s.1:Nat))]) (fun s=>s.2) (fun s=>s.1≤(n+13) / 14∧J s.1 s.2) (fun s=>n-s.1) (0,H) ⟨zAv _,h0⟩ ?_ rfl ?_
 ·simp[go_sem]
 rintro⟨i,G⟩ ⟨hi,hJ⟩;simp only at hi hJ ⊢;have g0:=hl i G hJ;by_cases hlt:14 * i<n
 ·have hd:decide (((14 * i:Nat):Int)<(n:Int))=true:=dT;have hw:IntKind.i64.wrap (((14 * i:Nat):Int)+14)=((14 * (i+1):Nat):Int):=by rw[wI];omega
  have hm:min ((14 * (i+1):Nat):Int) (n:Int)=((14 * i+min 14 (n-14 * i):Nat):Int):=by omega
  repeat' first|(refine gS ?_;simp only[go_sem,hd,hw,hm,g0,zAo,Nat.add_sub_cancel_left])|refine gA ?_|(refine gD ?_ ?_<;>intro h<;>try exact aD h)|fail
  refine kR (hY i G hlt hJ) ?_;rintro w G' ⟨rfl,hJ'⟩;simp only[go_sem];repeat' first|(refine gS ?_;simp only[go_sem,hw])|refine gA ?_|(refine gD ?_ ?_<;>intro h<;>try exact aD h)|fail
  exact⟨(i+1,G'),⟨by omega,hJ'⟩,by simp only;omega,rfl,rfl⟩
 ·have hd:decide (((14 * i:Nat):Int)<(n:Int))=false:=dF;repeat' first|(refine gS ?_;simp only[go_sem,hd,g0])|refine gA ?_|(refine gD ?_ ?_<;>intro h<;>try exact aD h)|fail
  rw[show(n+13) / 14=i by omega]
  exact hJ
theorem aCd{j v n lc:Nat}{H:AHeap}(hj:j<H.length):bJ Tryz.prog 74 [.osl 1 j v 0 n lc] H (.func (.func 112) [] [.cptr [.osl 1 j v 0 n lc]]):=by
 refine fO Tryz.func74 ?_;repeat' first|(refine gS ?_;simp only[go_sem])|refine gA ?_|(refine gD ?_ ?_<;>intro h<;>try exact aD h)|fail
 refine⟨_,_,rfl,?_,rfl⟩;refine .func _ _ _ _ _ rfl rfl iO (fI (pP (zAb _) (by simp only[go_sem]) ?_) iO)
 simp only[zAq,forall_eq];exact .osl _ _ _ _ _ _ hj
theorem aGx(n:Int)(p:Txt)(hp:p.length≤1073741824)(H:AHeap):bJ Tryz.prog 47 [.int .i64 n,.str p] H (.tup [.str (aBc n p).1,.int .i64 (aBc n p).2]):=by
 refine fO Tryz.func47 ?_;unfold aBc;by_cases hbad:n<1∨1000000<n∨40000<p.length
 ·have hc:(decide (n<1)||decide (1000000<n)||decide ((40000:Int)<(p.length:Int)))=true:=by simp;omega
  rw[zAp hbad];repeat' first|(refine gS ?_;simp only[go_sem,hc])|refine gA ?_|(refine gD ?_ ?_<;>intro h<;>try exact aD h)|fail
  all_goals first|exact dY (.refl _)|(exfalso;simp at h;omega)
 rw[zAk hbad];obtain⟨m,rfl⟩:∃m:Nat,n=m:=⟨n.toNat,by omega⟩
 have hc:(decide ((m:Int)<1)||decide ((1000000:Int)<(m:Int))||decide ((40000:Int)<(p.length:Int)))=false:=by simp;omega
 have h9:=bU (n:=m) (by omega)
 have h1:∀H,bJ Tryz.prog 33 [.str [],.sl true [.int .i64 m]] H (.tup [.str (aV m),.int .i64 0]):=fun H=>by simpa using kC [] m true (by omega) (by simp) H
 have h2:=rS (aV m) p (by omega) (by omega) (by omega)
 have hl2:=jM (t:=p) (by omega)
 have h3:=aJH (aV m++bW p) (by rw[zAa];omega)
 have hl3:(lW (aV m++bW p)).length≤40022:=by unfold lW;rw[zAa,zAa];have:(aGm (aBY (aV m++bW p))).length=4:=rfl;omega
 have h4:∀H,bJ Tryz.prog 17 [.str [],.str (lW (aV m++bW p))] H (.str (pE m p)):=fun H=>by simpa[pE]using rS [] (lW (aV m++bW p)) (by simp) (by omega) (by simp;omega) H
 have hl4:(pE m p).length≤40031:=by have:=jM (t:=lW (aV m++bW p)) (by omega);unfold pE;omega
 have hmk:=aGw m (by omega)
 rw[Int.toNat_natCast];unfold aBb;generalize lW (aV m++bW p)=S at *;generalize pE m p=B at *;generalize aBa m=mk at *;repeat' first|(refine gS ?_;simp only[go_sem,hc])|refine gA ?_|(refine gD ?_ ?_<;>intro h<;>try exact aD h)|fail
 refine cS (aCd (by simp)) cO ?_
 simp only[go_sem];repeat' first|(refine gS ?_;simp only[go_sem])|refine gA ?_|(refine gD ?_ ?_<;>intro h<;>try exact aD h)|fail
 refine jG (v:=0) (cs:=[.sl true []]) (H.length+2) 0 1 (by simp only[go_sem]) rfl ?_
 simp only[go_sem];refine zQ [(2,.ref H.length 0 0),(9,.ref (H.length+2) 0 0),(36,.func (.func 112) [] [.cptr [.osl 1 (H.length+1) 1 0 B.length B.length]])] (by simp[go_sem]) ?_
 refine jV rfl cO fun y LB hLB=>?_
 obtain⟨O,hO⟩:∃O:Nat→Txt,∀i,O i=((jC B).take i).flatMap (eO mk):=⟨_,fun _=>rfl⟩
 let J:Nat→AHeap→Prop:=fun i G=>G=H++[.cells 0 [.int .i64 m],.cells 1 (bA B),.cells 0 [.osl 1 (H.length+3) (i+1) 0 (16 * i) (16 * i)],.cells (i+1) (bA (O i)),LB]
 refine(aCc (cs:=bA B) J (by omega) (zAb _) (fun i G e=>by rw[e];simp only[go_sem]) (fun i G hi e=>?_) _ (by simp[J,hO,bA])).mono fun _ G e=>?_
 ·simp only[J]at e;have hk:=aAv i B;rw[zAp hi]at hk;obtain⟨Pc,hPc⟩:∃Pc,Pc=(B.drop (14 * i)).take 14:=⟨_,rfl⟩;have hPl:Pc.length=min 14 (B.length-14 * i):=by rw[hPc,zAX,zBa]
  have hOs:O (i+1)=O i++eO mk Pc:=by rw[hO,hO,List.take_add_one,hk,←hPc,zBi];simp
  have hOl:(O i).length=16 * i:=by
   rw[hO,iX mk _ fun p hp=>oO _ B (zAb _) p (List.mem_of_mem_take hp),zAX,mL _ B (zAb _)]
   omega
  have htk:List.take (min 14 (B.length-14 * i) * 1) (List.drop (14 * i) (bA B))=bA Pc:=by
   unfold bA;rw[←List.map_drop,←List.map_take,zAo,hPc];congr 1;rw[List.take_eq_take_iff,zBa];omega
  have hKb:min 14 (B.length-14 * i)≤14∧14 * i+min 14 (B.length-14 * i)≤B.length:=by omega
  have hsc:=vU mk (p:=Pc) (by omega)
  have hsl:=rX (m:=mk) (p:=Pc) (by omega)
  have htk16:List.take 16 (bA (eO mk Pc))=bA (eO mk Pc):=zAT (by rw[fS];omega)
  have hlen4:(H++[ABlk.cells 0 [.int .i64 m],.cells 1 (bA B),.cells 0 [.osl 1 (H.length+3) 1 0 0 0],.cells 1 []]).length=H.length+4:=by simp
  refine oF (i:=H.length+4) (by rw[e];simp only[go_sem]) hLB rfl rfl rfl rfl fun BB fin hBB hlB hf1 hf2=>?_
  simp only[oY];refine gV rfl ?_;rw[e];generalize min 14 (B.length-14 * i)=K at *;simp only[go_sem];generalize eO mk Pc=Sx at *;generalize O i=Oi at *;have hl8:((16 * i+16) * 1≤140737488355328)=True:=zBf (by omega)
  repeat' first|((first|refine mx [9] uF ?_|refine mx [11] uG ?_|refine gS ?_);simp only[go_sem,htk,hsc,hsl,htk16,hOl,hPl,hl8])|refine gA ?_|(refine gD ?_ ?_<;>intro h<;>try exact aD h)|fail
  refine⟨?_,H++[.cells 0 [.int .i64 m],.cells 1 (bA B),.cells 0 [.osl 1 (H.length+3) (i+2) 0 (16 * i+16) (16 * i+16)],.cells (i+2) (bA Oi++bA Sx),BB],[.cells 0 (bA Sx)],?_,?_,?_,rfl,?_⟩
  ·simp only[go_sem]
  ·simp
  ·simp
  ·exact aCb fun k b hk=>match k,hk with
    |0,h=>.inl h
    |1,h=>.inl h
    |2,h=>.inr (by cases h;intro x hx;rw[zAq.1 hx];exact .osl _ _ _ _ _ _ (by simp))
    |3,h=>.inr (by cases h;rw[←qJ];exact aHL _ _ _)
    |4,h=>.inl h
    |(k+5),h=>by cases h
  ·rw[hf1];simp only[J,go_sem,hOs,qJ,Nat.mul_add]
 ·simp only[J]at e;have hcl:=mL _ B (zAb _);rw[hO,←hcl,zAG]at e;have hsl:=iX mk (jC B) (oO _ B (zAb _));generalize(jC B).flatMap (eO mk)=W at *;rw[←hsl]at e;rw[show(H++[ABlk.cells 0 [.int .i64 m],.cells 1 (bA B),.cells 0 [.osl 1 (H.length+3) 1 0 0 0],.cells 1 []]).length=H.length+4 by simp]
  refine .inl ⟨.ready,by simp,by rw[e];simp only[go_sem];exact hLB,fun X=>?_⟩
  rw[e];simp only[go_sem];repeat' first|(refine gS ?_;simp only[go_sem])|refine gA ?_|(refine gD ?_ ?_<;>intro h<;>try exact aD h)|fail
  exact dY (.refl _)
end Go.Proofs.YtigedpfipifefaaGreatDoor
