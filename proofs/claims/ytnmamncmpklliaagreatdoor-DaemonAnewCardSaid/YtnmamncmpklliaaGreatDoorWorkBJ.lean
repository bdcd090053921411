/- What the functions of this seat answer (36 of 53). No condition. -/
import Derived.Test.YtnmamncmpklliaaGreatDoorWorkAW
import Derived.Test.YtnmamncmpklliaaGreatDoorWorkBI
set_option linter.unusedSimpArgs false
set_option linter.unusedVariables false
set_option maxRecDepth 100000
set_option maxHeartbeats 16000000
namespace Go.Proofs.YtnmamncmpklliaaGreatDoor
variable{has:Nat->List Int}{bM:List Int}{k:Int}{t t2 a:bz}{i who n j clock h la:Nat}{s:List UInt8}{aC:List bz}{x y:bK}{w:dx}{es ps kS:List (I×I×Nat)}{q:I×I×Nat}{o:I×I×Nat->Bool}{m:List (ag×aE)}{b:Bool}{G:ab}{B:bE}{F:FuncId}
open Go.Proofs.Tryz
structure oG (l:List aE) (t:bz):Prop where
 ended:t.ended=true->t.done=true/\t.has=[]
 walk:t.done=false->hA t.call=true->t.has.length<=2/\0<=t.at_/\t.at_<=16/\(t.has=[]->t.at_=0)/\∀k∈t.has,k≠1/\k≠2/\0<=k
 nO:t.done=false->fQ t.call=true->t.has<+:iq l t.call
 plain:t.done=false->hA t.call=false->fQ t.call=false->t.has=[]
theorem VV{c:b8}(h:hA c=true):fQ c=false:=by
 cases ah:fQ c with
 |false=>rfl
 |true=>rw[Uo ah]at h;cases h
theorem C2(t:bz)(k:Int):(dt t ⟨1,k⟩).has=t.has++[k]/\(dt t ⟨1,k⟩).call=t.call/\(dt t ⟨1,k⟩).done=t.done/\(dt t ⟨1,k⟩).ended=t.ended/\(dt t ⟨1,k⟩).upto=t.upto/\(dt t ⟨1,k⟩).ec=t.ec/\(dt t ⟨1,k⟩).mm=t.mm/\(dt t ⟨1,k⟩).mark=t.mark/\(dt t ⟨1,k⟩).end_=t.end_/\
  (dt t ⟨1,k⟩).at_=if t.has.length=1/\hA t.call=true then IntKind.i64.wrap (t.at_+1)else t.at_:=by
 unfold dt;exact⟨rfl,rfl,rfl,rfl,rfl,rfl,rfl,rfl,rfl,rfl⟩
theorem Jh(t:bz)(k:Int):(dt t ⟨2,k⟩).has=t.has.filter (λx=> !decide (x=k))/\(dt t ⟨2,k⟩).call=t.call/\(dt t ⟨2,k⟩).done=t.done/\(dt t ⟨2,k⟩).ended=t.ended/\(dt t ⟨2,k⟩).upto=t.upto/\(dt t ⟨2,k⟩).ec=t.ec/\(dt t ⟨2,k⟩).mm=t.mm/\(dt t ⟨2,k⟩).mark=t.mark/\(dt t ⟨2,k⟩).end_=t.end_/\
  (dt t ⟨2,k⟩).at_=if t.has.filter (λx=> !decide (x=k))=[]/\t.done=false/\hA t.call=true then 0 else t.at_:=by
 unfold dt;exact⟨rfl,rfl,rfl,rfl,rfl,rfl,rfl,rfl,rfl,rfl⟩
theorem Pp{has:List Int}(af:bM.Nodup)(ad:has<+:bM)(h:nP has bM=⟨1,k⟩):k∉has/\has++[k]<+:bM:=by
 obtain⟨rest,rfl⟩:=ad;rw[Xr _ _ (λy h=>h)]at h
 cases rest with
 |nil=>cases h
 |cons a r=>
  have U:a∉has:=λJ=>(List.nodup_append.1 af).2.2 a J a kk rfl
  rw[Og (by simpa using U)]at h
  cases h;exact⟨U,⟨r,kk⟩⟩
theorem I6{has:List Int}:∀(bM:List Int),(nP has bM).kind=1\/nP has bM=⟨3,0⟩
 |[]=>.inr rfl
 |a::bM=>by
  unfold nP;split
  ·exact I6 bM
  ·exact .inl rfl
inductive zA (l:List aE) (names:List ag) (t:bz):eZ->Prop
 |root (h:t.has=[]):zA l names t ⟨1,0⟩
 |pass (a b:Int) (r:List Int) (h:t.has=a::b::r):zA l names t ⟨2,a⟩
 |down (here i:Int) (s:ag) (h:t.has=[here]) (aw:0<=t.at_) (hs:names[t.at_.toNat]?=some s) (au:jy l here s=some i) (hd:dm i=true):zA l names t ⟨1,i⟩
 |vl (here:Int) (h:t.has=[here]) (ax:(fp l names).2=0) (hd:dm (fp l names).1=true) (af:(fp l names).1≠here) (au:∀s i,0<=t.at_->names[t.at_.toNat]?=some s->jy l here s=some i->dm i=false):zA l names t ⟨2,here⟩
 |here (here:Int) (h:t.has=[here]):zA l names t ⟨3,0⟩
theorem aDT(l:List aE)(names:List ag)(t:bz):zA l names t (uW l names t):=by
 unfold uW;split
 ·rename_i h;exact .root h
 ·rename_i h;rw[h];exact .pass _ _ _ h
 ·rename_i here h;have K:∀J:(∀s i,0<=t.at_->names[t.at_.toNat]?=some s->jy l here s=some i->dm i=false),zA l names t (if(fp l names).2=0/\dm (fp l names).1=true/\(fp l names).1≠here then⟨2,here⟩else⟨3,0⟩):=λJ=>by
   split
   ·rename_i h1;exact .vl here h h1.1 h1.2.1 h1.2.2 J
   ·exact .here here h
  split
  ·rename_i n U;obtain⟨s,hs,J⟩:=ni.1 U;split at hs
   ·rename_i aw;split
    ·rename_i hd;exact .down here n.id s h aw hs (by unfold jy;rw[J];rfl) hd
    ·rename_i hd;refine K λO i _ av al=>?_
     rw[hs]at av;cases av;unfold jy at al;rw[J]at al;cases al;simpa using hd
   ·cases hs
  ·rename_i U;refine K λs i aw hs J=>?_
   rw[aA aw,hs]at U;simp only[fZ]at U;unfold jy at J;rw[U]at J;cases J
inductive zx (l:List aE) (t:bz):eZ->Prop
 |none (h:t.ended=true):zx l t ⟨0,0⟩
 |back (k:Int) (r:List Int) (h:t.done=true) (he:t.ended=false) (an:t.has=k::r):zx l t ⟨2,k⟩
 |wait (h:t.done=true) (he:t.ended=false) (an:t.has=[]) (hk:t.call.kind=12):zx l t ⟨4,0⟩
 |leave (h:t.done=true) (he:t.ended=false) (an:t.has=[]) (hk:t.call.kind≠12):zx l t ⟨5,0⟩
 |nO (h:t.done=false) (he:t.ended=false) (ah:fQ t.call=true):zx l t (nP t.has<|iq l t.call)
 |walk (u:eZ) (h:t.done=false) (he:t.ended=false) (ah:fQ t.call=false) (hw:hA t.call=true) (hs:zA l (hB t.call) t u):zx l t u
 |plain (h:t.done=false) (he:t.ended=false) (ah:fQ t.call=false) (hw:hA t.call=false):zx l t ⟨3,0⟩
theorem uz(l:List aE)(t:bz):zx l t (ev l t):=by
 unfold ev;split
 ·rename_i h;exact .none h
 rename_i he;split
 ·rename_i h;split
  ·rename_i J;exact .back _ _ h (by simpa using he) J
  ·rename_i J;split
   ·rename_i hk;exact .wait h (by simpa using he) J hk
   ·rename_i hk;exact .leave h (by simpa using he) J hk
 rename_i h;split
 ·rename_i ah;exact .nO (by simpa using h) (by simpa using he) ah
 rename_i ah;split
 ·rename_i hw;exact .walk _ (by simpa using h) (by simpa using he) (by simpa using ah) hw<|aDT l _ t
 ·rename_i hw;exact .plain (by simpa using h) (by simpa using he) (by simpa using ah)<|by simpa using hw
theorem OD(l:List aE)(he:t.ended=false):(ev l t).kind=1\/(ev l t).kind=2\/ev l t=⟨3,0⟩\/(ev l t).kind=4\/(ev l t).kind=5:=by
 have J:=uz l t;generalize ev l t=u at J ⊢;cases J with
 |none h=>rw[he]at h;cases h
 |back=>exact .inr<|.inl rfl
 |wait=>exact .inr<|.inr (.inr (.inl rfl))
 |leave=>exact .inr<|.inr (.inr (.inr rfl))
 |plain=>exact .inr<|.inr (.inl rfl)
 |nO=>
  rcases I6 (has:=t.has) (iq l t.call)with q|q
  ·exact .inl q
  ·exact .inr<|.inr (.inl q)
 |walk _ _ _ _ _ hs=>
  cases hs with
  |root=>exact .inl rfl
  |down=>exact .inl rfl
  |pass=>exact .inr<|.inl rfl
  |vl=>exact .inr<|.inl rfl
  |here=>exact .inr<|.inr (.inl rfl)
theorem Xz{l:List aE}(J:mg l){d i:Int}{s:ag}(h:jy l d s=some i):∃n∈l,n.id=i/\n.parent=d/\128<=i:=by
 unfold jy at h;obtain⟨n,af,rfl⟩:=hC.1 h;obtain⟨-,h1,h2⟩:=FC af;exact⟨n,h1,rfl,h2,(Bg.1 (BP J h1)).1⟩
theorem zK{l:List aE}(T:mg l)(hw:oG l t)(h:ev l t=⟨1,k⟩):t.ended=false/\t.done=false/\k∉t.has/\oG l (dt t ⟨1,k⟩):=by
 have af:=uz l t;rw[h]at af;obtain⟨aP,K,bH,V, -, -, -, -, -,Z⟩:=C2 t k;generalize dt t ⟨1,k⟩=t' at *;generalize hu:(⟨1,k⟩:eZ)=u at af;cases af with
 |none=>cases hu
 |back=>cases hu
 |wait=>cases hu
 |leave=>cases hu
 |plain=>cases hu
 |nO hd he ah=>
  have ad:=hw.nO hd ah;obtain⟨h1,h2⟩:=Pp (OP l t.call) ad hu.symm;exact⟨he,hd,h1,⟨λh=>(by rw[V,he]at h;cases h),λ_ h=>(by rw[K,Uo ah]at h;cases h),λ_ _=>by rw[aP,K];exact h2,λ_ _ h=>(by rw[K,ah]at h;cases h)⟩⟩
 |walk _ hd he ah O hs=>
  obtain⟨c3,a2,a3,a4,a5⟩:=hw.walk hd O;have key:∀i,k=i->k∉t.has->(k≠1/\k≠2/\0<=k)->(t'.has.length<=2/\0<=t'.at_/\t'.at_<=16)->oG l t':=λi _ h1 h2 h3=>⟨λh=>(by rw[V,he]at h;cases h),λ_ _=>⟨h3.1,h3.2.1,h3.2.2,λh=>by rw[aP]at h;simp at h,λx J=>by
   rw[aP,e4,dF]at J;rcases J with J|rfl
   ·exact a5 x J
   ·exact h2⟩,λ_ h=>(by rw[K,ah]at h;cases h),λ_ h=>(by rw[K,O]at h;cases h)⟩
  cases hs with
  |root U=>
   cases hu;refine⟨he,hd,by rw[U];simp,key 0 rfl (by rw[U];simp) l9 ?_⟩
   rw[aP,Z,U,aj kk]
   exact⟨kk,a2,a3⟩
  |down here i s U aw hs I eC=>
   cases hu;obtain⟨n,af,av,al,aY⟩:=Xz T I;have aN:k≠here:=λe=>by
    obtain⟨m,hm,bu⟩:=hC.1 I;have mQ:dm here=true:=by rw[<-e];exact eC
    have:=(aG7 T mQ hm).1;omega
   have z:k∉t.has:=by rw[U];simpa using aN
   have hl:t.at_.toNat<(hB t.call).length:=(cj.1 hs).1;have kL:=Oh t.call;refine⟨he,hd,z,key k rfl z iV ?_⟩
   rw[aP,Z,U,aA ⟨rfl,O⟩,bI];exact⟨kk,iV,iV⟩
  |pass=>cases hu
  |vl=>cases hu
  |here=>cases hu
theorem aGZ{l:List Int}(af:l.Nodup):(l.filter λx=> !decide (x=k)).length<=l.length/\∀x∈l.filter (λx=> !decide (x=k)),x∈l:=⟨pd ..,λx J=>(lV.1 J).1⟩
theorem XA{l:List aE}(hw:oG l t)(af:t.has.Nodup)(h:ev l t=⟨2,k⟩):t.ended=false/\k∈t.has/\oG l (dt t ⟨2,k⟩):=by
 have J:=uz l t;rw[h]at J;obtain⟨aP,T,K,V, -, -, -, -, -,Z⟩:=Jh t k;obtain⟨f1,f2⟩:=aGZ af (k:=k);generalize dt t ⟨2,k⟩=t' at *;generalize hu:(⟨2,k⟩:eZ)=u at J;cases J with
 |none=>cases hu
 |wait=>cases hu
 |leave=>cases hu
 |plain=>cases hu
 |back k' r hd he U=>
  cases hu;exact⟨he,by rw[U];simp,⟨λh=>(by rw[V,he]at h;cases h),λh=>(by rw[K,hd]at h;cases h),λh=>(by rw[K,hd]at h;cases h),λh=>(by rw[K,hd]at h;cases h)⟩⟩
 |nO hd he ah=>
  rcases I6 (has:=t.has) (iq l t.call)with q|q
  ·rw[<-hu]at q;cases q
  ·rw[<-hu]at q;cases q
 |walk _ hd he ah O hs=>
  obtain⟨I,a2,a3,a4,a5⟩:=hw.walk hd O;have fin:k∈t.has->t.ended=false/\k∈t.has/\oG l t':=λhk=>by
   refine⟨he,hk,⟨λh=>(by rw[V,he]at h;cases h),λ_ _=>?_,λ_ h=>(by rw[T,ah]at h;cases h),λ_ h=>(by rw[T,O]at h;cases h)⟩⟩
   rw[aP,Z];refine⟨iV,?_,?_,λe=>?_,λx J=>a5 x<|f2 x J⟩
   ·split<;>omega
   ·split<;>omega
   ·rw[aA ⟨e,hd,O⟩]
  cases hs with
  |root=>cases hu
  |down=>cases hu
  |here=>cases hu
  |pass a b r U=>cases hu;exact fin<|by rw[U];simp
  |vl here U=>cases hu;exact fin<|by rw[U];simp
theorem Qb{l:List aE}(h:ev l t=⟨3,0⟩):t.ended=false/\t.done=false:=by
 have J:=uz l t;rw[h]at J;generalize hu:(⟨3,0⟩:eZ)=u at J;cases J with
 |none=>cases hu
 |back=>cases hu
 |wait=>cases hu
 |leave=>cases hu
 |plain hd he=>exact⟨he,hd⟩
 |nO hd he=>exact⟨he,hd⟩
 |walk _ hd he=>exact⟨he,hd⟩
theorem aLq{l:List aE}(h:ev l t=⟨4,k⟩):k=0/\t.ended=false/\t.done=true/\t.has=[]/\t.call.kind=12:=by
 have J:=uz l t;rw[h]at J;generalize hu:(⟨4,k⟩:eZ)=u at J;cases J with
 |none=>cases hu
 |back=>cases hu
 |leave=>cases hu
 |plain=>cases hu
 |wait hd he U hk=>cases hu;exact⟨rfl,he,hd,U,hk⟩
 |nO hd he ah=>
  rcases I6 (has:=t.has) (iq l t.call)with q|q<;>(rw[<-hu]at q;cases q)
 |walk _ hd he ah K hs=>cases hs<;>cases hu
theorem Wi{l:List aE}(h:ev l t=⟨5,k⟩):k=0/\t.ended=false/\t.done=true/\t.has=[]/\t.call.kind≠12:=by
 have J:=uz l t;rw[h]at J;generalize hu:(⟨5,k⟩:eZ)=u at J;cases J with
 |none=>cases hu
 |back=>cases hu
 |wait=>cases hu
 |plain=>cases hu
 |leave hd he U hk=>cases hu;exact⟨rfl,he,hd,U,hk⟩
 |nO hd he ah=>
  rcases I6 (has:=t.has) (iq l t.call)with q|q<;>(rw[<-hu]at q;cases q)
 |walk _ hd he ah K hs=>cases hs<;>cases hu
theorem oG.rW{l:List aE}(h:t.done=true)(he:t.ended=true->t.has=[]):oG l t:=
 ⟨λe=>⟨h,he e⟩,λe=>(by rw[h]at e;cases e),λe=>(by rw[h]at e;cases e),λe=>(by rw[h]at e;cases e)⟩
def jj(aC:List bz)(i:Nat):List Int:=(aC[i]?.map (·.has)).getD []
theorem pT(h:aC[i]?=some t):jj aC i=t.has:=by unfold jj;rw[h];rfl
theorem xY(hi:i<aC.length):jj (aC.set i t)=kY (jj aC) i t.has:=by
 funext j;unfold jj kY;rw[wH];grind
structure eP (x:bK):Prop where
 hT:fk x.m
 cs:∀t∈x.aC,np t.call
 n:x.aC.length<=40
 hN:gV x.t x.aC.length (jj x.aC)
 kA:∀t∈x.aC,oG x.m.log.nodes t
 wt:∀w∈x.t.waits,∀i:Nat,w.aU=i->∀t,x.aC[i]?=some t->ev x.m.log.nodes t=⟨1,w.lock⟩
 Ah:x.g.waits.Pairwise λa b=>a.aU≠b.aU
 oS:∀w∈x.g.waits,∃(i:Nat) (t:bz),w.aU=i/\x.aC[i]?=some t/\t.done=true/\t.ended=false/\t.call.kind=12/\t.has=[]/\w.upto=t.upto/\x.g.kept<w.upto
 kt:0<=x.g.kept/\x.g.kept<=x.ops.length
 up:∀t∈x.aC,0<=t.upto/\t.upto<=x.ops.length
 A7:∀t∈x.aC,t.call.kind=12->t.ended=true->t.ec.err=0->t.upto<=x.g.kept
 ops:x.ops.length<=x.m.log.entries.length+2000
theorem eP.tick(c:eP x):eP (wk x):=⟨c.hT,c.cs,c.n,c.hN,c.kA,c.wt,c.Ah,c.oS,c.kt,c.up,c.A7,c.ops⟩
theorem aK2{r:Int}(h:k7 r=(x,0)):eP x:=by
 unfold k7 at h;split at h
 ·rename_i aw;obtain⟨m,hm⟩:∃m,j2 r=(m,0):=⟨(j2 r).1,oB rfl aw⟩;rw[hm]at h;cases h;have hl:m.log=⟨[],[]⟩:=by
   unfold j2 at hm;split at hm
   ·cases hm;rfl
   ·cases hm
  refine⟨YM hm,λt ah=>?_,bW _,YN,λt ah=>?_,λw hw=>?_,.nil,λw hw=>?_,⟨jP 0,jP 0⟩,λt ah=>?_,λt ah=>?_,?_⟩
  ·cases ah
  ·cases ah
  ·cases hw
  ·cases hw
  ·cases ah
  ·cases ah
  ·exact bW _
 grind
theorem eP.start{x:bK}(c:eP x){k:b8}(hk:np k):eP (pv x k).1:=by
 unfold pv;split
 ·exact c
 ·rename_i hl;have hi:∀(i:Nat) t,x.aC[i]?=some t->(x.aC++[{pb k with mm:=IntKind.i64.wrap (x.time+1)}])[i]?=some t:=λi t h=>by
   grind
  have U:jj (x.aC++[{pb k with mm:=IntKind.i64.wrap (x.time+1)}])=jj x.aC:=by
   funext i;unfold jj;rw[List.getElem?_append];split
   ·rfl
   ·rename_i h;rw[tA (by omega:x.aC.length<=i)]
    cases i-x.aC.length<;>rfl
  have hm:∀t∈x.aC++[{pb k with mm:=IntKind.i64.wrap (x.time+1)}],t∈x.aC\/t={pb k with mm:=IntKind.i64.wrap (x.time+1)}:=λt ah=>by simpa using ah
  refine⟨c.hT,λt ah=>?_,?_,?_,λt ah=>?_,λw hw i e t ah=>?_,c.Ah,λw hw=>?_,c.kt,λt ah=>?_,λt ah=>?_,c.ops⟩
  ·rcases hm t ah with h|rfl
   ·exact c.cs t h
   ·exact hk
  ·simp only[bF,cg,eg];omega
  ·simp only[bF,cg,eg,U];exact c.hN.start<|by unfold jj;rw[tA (bd _)];rfl
  ·rcases hm t ah with h|rfl
   ·exact c.kA t h
   ·exact⟨λh=>(by cases h),λ_ _=>⟨bW _,jP 0,(by decide:(0:Int)<=16),λ_=>rfl,λk hk=>(by cases hk)⟩,λ_ _=>List.nil_prefix,λ_ _ _=>rfl⟩
  ·obtain⟨j,al,J, -⟩:=c.hN.sr w hw;have K:i=j:=iV
   subst K;refine c.wt w hw i e t ?_;have:=hi i _<|da J;rw[this]at ah;rw[da J,ah]
  ·obtain⟨i,t,h1,h2,h3⟩:=c.oS w hw;exact⟨i,t,h1,hi i t h2,h3⟩
  ·rcases hm t ah with h|rfl
   ·exact c.up t h
   ·exact⟨jP 0,(by simp:(0:Int)<=(x.ops.length:Int))⟩
  ·rcases hm t ah with h|rfl
   ·exact c.A7 t h
   ·intro _ h;cases h
theorem eP.gen(c:eP x)(hm:y.m=x.m)(K:y.ops=x.ops)(J:y.g=x.g)(hl:y.aC.length=x.aC.length)(O:gV y.t x.aC.length (jj y.aC))
  (T:∀(i:Nat) t',y.aC[i]?=some t'->∃t,x.aC[i]?=some t/\t'.call=t.call/\t'.upto=t.upto/\t'.ec=t.ec/\t'.ended=t.ended/\oG x.m.log.nodes t'/\(t'=t\/∀w∈x.g.waits,w.aU≠i))
  (hw:∀w∈y.t.waits,∀i:Nat,w.aU=i->∀t,y.aC[i]?=some t->ev x.m.log.nodes t=⟨1,w.lock⟩):eP y:=by
 have U:∀t'∈y.aC,∃t∈x.aC,t'.call=t.call/\t'.upto=t.upto/\t'.ec=t.ec/\t'.ended=t.ended/\oG x.m.log.nodes t':=λt' h=>by
  grind [List.getElem?_of_mem,ds]
 refine⟨by rw[hm];exact c.hT,λt ah=>?_,by rw[hl];exact c.n,by rw[hl];exact O,λt ah=>?_,by rw[hm];exact hw,by rw[J];exact c.Ah,λw h=>?_,by rw[J,K];exact c.kt,λt ah=>?_,λt ah=>?_,by rw[K,hm];exact c.ops⟩
 ·obtain⟨t0,aw,h1, -⟩:=U t ah;rw[h1];exact c.cs _ aw
 ·obtain⟨t0,aw, -, -, -, -,h1⟩:=U t ah;rw[hm];exact h1
 ·rw[J]at h ⊢;obtain⟨i,t,h1,h2,h3⟩:=c.oS w h;have hi:i<y.aC.length:=by rw[hl];exact(cj.1 h2).1
  obtain⟨t0,g1, -, -, -, -, -,g2⟩:=T i _<|da hi;rw[h2]at g1;cases g1;rcases g2 with g2|g2
  ·exact⟨i,t,h1,by rw[<-g2];exact da hi,h3⟩
  ·exact absurd h1<|g2 w h
 ·obtain⟨t0,aw, -,h1, -⟩:=U t ah;rw[h1,K];exact c.up _ aw
 ·obtain⟨t0,aw,h1,h2,h3,h4, -⟩:=U t ah;rw[h1,h2,h3,h4,J];exact c.A7 _ aw
theorem OE{p:Int}(h:uQ x p=some who):who∈jV x:=by
 unfold uQ at h;split at h
 ·cases h
 ·rename_i af;have hl:0<(jV x).length:=pe.2 af;have h1:0<=p % ((jV x).length:Int):=Int.emod_nonneg _ iV
  have h2:p % ((jV x).length:Int)<(jV x).length:=Int.emod_lt_of_pos _ iV
  grind
theorem aGx:i∈jV x↔∃t,x.aC[i]?=some t/\sj x (t,i)=true:=by
 grind [jV,bJ,lV,Prod.exists,List.mem_zipIdx_iff_getElem?]
theorem Pl(h:i∈jV x):∃t,x.aC[i]?=some t/\t.ended=false/\(∀w∈x.t.waits,w.aU≠i)/\(iE x.g i=true->zD x.g=some (i:Int)):=by
 obtain⟨t,h1,h2⟩:=aGx.1 h;grind [sj,sB,P6,vc]
theorem nK{l:List bz}(h:l[i]?=some t)(f:bz->bz):hv l (i:Int) f=l.set i (f t):=by
 have hi:=(cj.1 h).1;unfold hv;grind
theorem El{g:nU}{n:Int}:iE g n=false↔∀w∈g.waits,w.aU≠n:=by
 unfold iE;rw[List.any_eq_false];simp
theorem Xn{l:List dx}{n:Int}(h:∀w∈l,w.aU≠n):vc l n=none:=by
 unfold vc;rw[Option.map_eq_none_iff,wF];simpa using h
theorem eP.take{x:bK}(c:eP x){who:Nat}{t:bz}{k:Int}(ah:x.aC[who]?=some t)(hw:∀w∈x.t.waits,w.aU≠who)(T:iE x.g who=false)(af:ev x.m.log.nodes t=⟨1,k⟩):eP (xW who k x):=by
 have hi:=(cj.1 ah).1;obtain⟨h1,h2,h3,h4⟩:=zK c.hT.nodes.l0 (c.kA t<|ds ah) af;obtain⟨V,a2,a3,a4,a5,Z, -⟩:=C2 t k;have K:=pT ah;unfold xW yl;cases O:w0 x.t.held k with
 |none=>
  simp only[dG];rw[nK ah];have U:=c.hN.take hi (Xn hw) O;rw[K,<-V,<-xY hi]at U;refine c.gen rfl rfl rfl kk U (λi t' h=>?_) (λw J i e t' h=>?_)
  ·rw[wH]at h;split at h
   ·rename_i e;subst e;cases h;exact⟨t,ah,a2,a5,Z,a4,h4,.inr<|El.1 T⟩
   ·exact⟨t',h,rfl,rfl,rfl,rfl,c.kA t'<|ds h,.inl rfl⟩
  ·have I:who≠i:=λal=>hw w J<|by rw[e,al]
   rw[gC I]at h;exact c.wt w J i e t' h
 |some j=>
  have z:j≠who:=λe=>by
   have:=(c.hN.qg k j).1<|YT O;obtain⟨i,av, -,hk⟩:=this;have:i=who:=iV
   rw[this,K]at hk;exact h3 hk
  have E2:x.t.waits.contains (⟨k,who⟩:dx)=false:=by
   rw[wB];intro e;exact hw _ (by simpa using e) rfl
  simp only[aj z,E2,mE,gz];have U:=c.hN.wait hi (Xn hw) (by rw[K];exact h3) O
  refine c.gen rfl rfl rfl rfl U (λi t' h=>⟨t',h,rfl,rfl,rfl,rfl,c.kA t' (ds h),.inl rfl⟩) λw J i e t' h=>?_
  rw[e4,dF]at J;rcases J with J|rfl
  ·exact c.wt w J i e t' h
  ·have:i=who:=by simp only at e;omega
   subst this;rw[ah]at h;cases h;exact af
theorem eP.ZR(c:eP x)(hw:w∈x.t.waits):∃(j:Nat) (t:bz),w.aU=j/\x.aC[j]?=some t/\ev x.m.log.nodes t=⟨1,w.lock⟩/\oG x.m.log.nodes (dt t ⟨1,w.lock⟩)/\t.done=false/\∀v∈x.g.waits,v.aU≠j:=by
 obtain⟨j,e,J, -⟩:=c.hN.sr w hw;have ah:=da J;have af:=c.wt w hw j e _ ah;obtain⟨-,h2, -,h4⟩:=zK c.hT.nodes.l0 (c.kA _<|ds ah) af;refine⟨j,_,e,ah,af,h4,h2,λv U al=>?_⟩
 obtain⟨i,t,g1,g2,g3, -⟩:=c.oS v U;grind
theorem aFQ{t:fl}(h:gV t n has){j:Int}(J:(fy t i k).2=some j):∀w∈(fy t i k).1.waits,w.aU≠j:=by
 unfold fy at J ⊢;split at J
 ·rename_i U;rw[aA U];split at J
  ·cases J
  ·rename_i w hw;cases J;simp only;exact λv K=>((YU h.xU (sC hw) v).1 K).2
 ·cases J
theorem eP.aNx(c:eP x)(ah:x.aC[who]?=some t)(hw:∀w∈x.t.waits,w.aU≠who)(aL:iE x.g who=false)(af:ev x.m.log.nodes t=⟨2,k⟩):eP (xX who k x):=by
 have hi:=(cj.1 ah).1;have O:=pT ah;have jn:t.has.Nodup:=by rw[<-O];exact c.hN.uh who
 obtain⟨h1,h2,h3⟩:=XA (c.kA t<|ds ah) jn af;obtain⟨c3,a2,a3,a4,a5,yf, -⟩:=Jh t k;obtain⟨J,aq⟩:=c.hN.free hi<|by rw[O];exact h2
 have CG:∀w∈(fy x.t who k).1.waits,w∈x.t.waits:=λw h=>by
  grind [fy,List.mem_of_mem_erase]
 unfold xX;cases T:(fy x.t who k).2 with
 |none=>
  simp only;rw[nK ah];rw[T]at J;simp only[w2]at J;rw[O,<-c3,<-xY hi]at J;refine c.gen rfl rfl rfl kk J (λi t' h=>?_) (λw V i e t' h=>?_)
  ·rw[wH]at h;split at h
   ·rename_i e;subst e;cases h;exact⟨t,ah,a2,a5,yf,a4,h3,.inr<|El.1 aL⟩
   ·exact⟨t',h,rfl,rfl,rfl,rfl,c.kA t'<|ds h,.inl rfl⟩
  ·have U:=CG w V;have Z:who≠i:=λal=>hw w U<|by rw[e,al]
   rw[gC Z]at h;exact c.wt w U i e t' h
 |some j=>
  obtain⟨eW,Aa,cF,Z,yL⟩:=aq j T;subst Aa;obtain⟨rj,t2,al,I,nB,K,iz,L9⟩:=c.ZR yL;have:rj=eW:=by simp only at al;omega
  subst this;simp only at nB K;rw[T]at J;simp only[w2,e5]at J;obtain⟨aO,bo,hG,gW,mM,p4, -⟩:=C2 t2 k;rw[pT I,O,<-c3,<-aO,<-xY hi,<-xY (by rw[kB];exact cF)]at J
  simp only;rw[nK ah];unfold mf;rw[nK (t:=t2) (by rw[gC (ka Z)];exact I)]
  refine c.gen rfl rfl rfl kk J (λi t' h=>?_) (λw V i e t' h=>?_)
  ·rw[wH]at h;split at h
   ·rename_i e;subst e;rw[aA (by rw[kB];exact cF)]at h
    cases h;exact⟨t2,I,bo,mM,p4,gW,K,.inr L9⟩
   ·rw[wH]at h;split at h
    ·rename_i e;subst e;cases h;exact⟨t,ah,a2,a5,yf,a4,h3,.inr<|El.1 aL⟩
    ·exact⟨t',h,rfl,rfl,rfl,rfl,c.kA t'<|ds h,.inl rfl⟩
  ·have U:=CG w V;have z:who≠i:=λal=>hw w U<|by rw[e,al]
   have aPl:rj≠i:=λal=>by
    exact aFQ c.hN T w V<|by rw[e,al]
   rw[gC aPl,gC z]at h;exact c.wt w U i e t' h
def vj(time:Int)(t:bz):bz:={t with ended:=true,end_:=time}
theorem Yn(time:Int)(l:List bz)(n:Int)(i:Nat):(my time l n)[i]?=l[i]?.map λt=>if n=(i:Int)then vj time t else t:=by
 unfold my hv;split
 ·rename_i h;rw[wH];by_cases e:n.toNat=i
  ·have al:n=(i:Int):=iV
   have hi:i<l.length:=iV
   rw[aA e,aA iV,e,et,da hi]
   simp[al,vj]
  ·have al:¬n=(i:Int):=iV
   rw[aj e];simp[al]
 ·rename_i h;cases hi:l[i]? with
  |none=>rfl
  |some t=>
   have:=(cj.1 hi).1;have al:¬n=(i:Int):=iV
   simp[al]
theorem Pq(time:Int):∀(J:List Int) (l:List bz) (i:Nat),(J.foldl (my time) l)[i]?=l[i]?.map λt=>if(i:Int)∈J then vj time t else t
 |[],l,i=>kk
 |n::J,l,i=>by
  rw[mG,Pq time J,Yn,Option.map_map];congr 1;funext t;simp only[Function.comp,cU];by_cases h1:n=(i:Int)<;>by_cases h2:(i:Int)∈J<;>simp[h1,h2,vj,eq_comm]
theorem Lb(time:Int)(J:List Int)(l:List bz):(J.foldl (my time) l).length=l.length:=by
 induction J generalizing l with
 |nil=>rfl
 |cons n J U=>
  rw[mG,U];unfold my hv;split
  ·rw[kB]
  ·rfl
theorem Y9{l k:List bz}(h:∀i:Nat,l[i]?.map (·.has)=k[i]?.map (·.has)):jj l=jj k:=funext λi=>by unfold jj;rw[h]
theorem eP.lO(c:eP x)(full:Bool)(Z:iE x.g who=true):eP (mw full who x):=by
 obtain⟨V,I,l5⟩:∃w∈x.g.waits,w.aU=(who:Int):=by
  unfold iE at Z;obtain⟨w,h1,h2⟩:=List.any_eq_true.1 Z;exact⟨w,h1,lT h2⟩
 have O:=c.oS
 -- those of the group are done, and have nothing
 have bL:∀w∈x.g.waits,∀(i:Nat) t,w.aU=(i:Int)->x.aC[i]?=some t->t.done=true/\t.ended=false/\t.call.kind=12/\t.has=[]/\w.upto=t.upto/\x.g.kept<w.upto:=λw hw i t e ah=>by
  obtain⟨eW,t',U,h1,h2⟩:=O w hw;have:eW=i:=iV
  subst this;rw[ah]at h1;cases h1;exact h2
 have Mm:∀v∈x.t.waits,∀w∈x.g.waits,v.aU≠w.aU:=λv aG w hw e=>by
  obtain⟨j,t,av,ah,af, -,hd,cH⟩:=c.ZR aG;exact cH w hw<|by rw[<-e,av]
 cases full with
 |true=>
  unfold mw;rw[aA rfl];obtain⟨i,t,e,ah,h1,h2,h3,h4,b4,db⟩:=O V I;have:i=who:=iV
  subst this;have hi:=(cj.1 ah).1;rw[nK ah];have J:∀j:Nat,(my x.time (x.aC.set i {t with ec:={du with err:=120}}) i)[j]?=if i=j then some (vj x.time {t with ec:={du with err:=120}})else x.aC[j]?:=λj=>by
   rw[Yn,wH];by_cases e:i=j
   ·subst e;simp[hi]
   ·have:¬((i:Int)=(j:Int)):=iV
    simp[e,this]
  have hlen:(my x.time (x.aC.set i {t with ec:={du with err:=120}}) i).length=x.aC.length:=by
   have:=Lb x.time [(i:Int)] (x.aC.set i {t with ec:={du with err:=120}})
   rw[kB]at this;exact this
  generalize my x.time (x.aC.set i {t with ec:={du with err:=120}}) i=L at *
  have hm:∀t'∈L,t'=vj x.time {t with ec:={du with err:=120}}\/t'∈x.aC:=λt' Cy=>by
   obtain⟨j,K⟩:=List.getElem?_of_mem Cy;rw[J]at K;split at K
   ·exact .inl (qP K).symm
   ·exact .inr<|ds K
  have z:=ds ah;refine⟨c.hT,λt' h=>?_,by rw[hlen];exact c.n,?_,λt' h=>?_,λw hw j U t' h=>?_,c.Ah.sublist List.filter_sublist,λw hw=>?_,c.kt,λt' h=>?_,λt' h=>?_,c.ops⟩
  ·rcases hm t' h with rfl|h
   ·exact c.cs t z
   ·exact c.cs t' h
  ·rw[hlen,Y9 (k:=x.aC) λj=>by
    rw[J];split
    ·rename_i e;subst e;rw[ah];rfl
    ·rfl]
   exact c.hN
  ·rcases hm t' h with rfl|h
   ·exact oG.rW h1 λ_=>h4
   ·exact c.kA t' h
  ·rw[J]at h;split at h
   ·rename_i al;exact absurd (show w.aU=V.aU by rw[l5,U,al])<|Mm w hw V I
   ·exact c.wt w hw j U t' h
  ·rw[lV]at hw;obtain⟨j,t',aP,aR,bH⟩:=O w hw.1;have aN:¬i=j:=λe=>by have:=hw.2;rw[aP,e]at this;simp at this
   exact⟨j,t',aP,by rw[J,aj aN];exact aR,bH⟩
  ·rcases hm t' h with rfl|h
   ·exact c.up t z
   ·exact c.up t' h
  ·rcases hm t' h with rfl|h
   ·intro _ _ h;exact absurd h<|show ¬(120:Int)=0 by decide
   ·exact c.A7 t' h
 |false=>
  unfold mw zV;rw[aj l9]
  have hk:max x.g.kept (x.ops.length:Int)=x.ops.length:=by have:=c.kt;omega
  have fA:∀w∈x.g.waits,w.upto<=max x.g.kept (x.ops.length:Int):=λw hw=>by
   obtain⟨i,t,e,ah, -, -, -, -,b4, -⟩:=O w hw;have:=(c.up t (ds ah)).2;omega
  have gK:(x.g.waits.filter λw=> !decide (w.upto<=max x.g.kept (x.ops.length:Int)))=[]:=by
   rw[List.filter_eq_nil_iff];intro w hw;simp[fA w hw]
  have iX:(x.g.waits.filter λw=>decide<|w.upto<=max x.g.kept (x.ops.length:Int))=x.g.waits:=by
   rw[List.filter_eq_self];intro w hw;simp[fA w hw]
  rw[gK,iX];have J:=Pq x.time (x.g.waits.map (·.aU)) x.aC;have hlen:=Lb x.time (x.g.waits.map (·.aU)) x.aC;generalize(x.g.waits.map (·.aU)).foldl (my x.time) x.aC=L at *;have hm:∀(j:Nat) t',L[j]?=some t'->∃t,x.aC[j]?=some t/\(t'=t\/t'=vj x.time t/\t.done=true/\t.has=[]):=λj t' h=>by
   rw[J]at h;obtain⟨t,h1,h2⟩:=hC.1 h;refine⟨t,h1,?_⟩;split at h2
   ·rename_i H5;obtain⟨w,hw,e⟩:=bJ.1 H5;have:=bL w hw j t e h1;exact .inr ⟨h2.symm,this.1,this.2.2.2.1⟩
   ·exact .inl h2.symm
  have T:∀t'∈L,∃t∈x.aC,(t'=t\/t'=vj x.time t/\t.done=true/\t.has=[]):=λt' h=>by
   obtain⟨j,K⟩:=List.getElem?_of_mem h;obtain⟨t,h1,h2⟩:=hm j t' K;exact⟨t,ds h1,h2⟩
  refine⟨c.hT,λt' h=>?_,by rw[hlen];exact c.n,?_,λt' h=>?_,λw hw j U t' h=>?_,.nil,λw hw=>(by cases hw),⟨?_,?_⟩,λt' h=>?_,λt' h=>?_,c.ops⟩
  ·obtain⟨t,ah,rfl|⟨rfl, -⟩⟩:=T t' h
   ·exact c.cs _ ah
   ·exact c.cs t ah
  ·rw[hlen,Y9 (k:=x.aC) λj=>by
    rw[J,Option.map_map];cases x.aC[j]? with
    |none=>rfl
    |some t=>simp only[wC,Function.comp];split<;>rfl]
   exact c.hN
  ·obtain⟨t,ah,rfl|⟨rfl,h1,h2⟩⟩:=T t' h
   ·exact c.kA _ ah
   ·exact oG.rW h1 λ_=>h2
  ·obtain⟨t,ah,rfl|⟨rfl,h1,h2⟩⟩:=hm j t' h
   ·exact c.wt w hw j U _ ah
   ·have af:=c.wt w hw j U t ah;have:=(zK c.hT.nodes.l0 (c.kA t<|ds ah) af).2.1;rw[h1]at this;cases this
  ·show 0<=max x.g.kept (x.ops.length:Int);rw[hk];omega
  ·show max x.g.kept (x.ops.length:Int)<=x.ops.length;rw[hk];omega
  ·obtain⟨t,ah,rfl|⟨rfl, -⟩⟩:=T t' h
   ·exact c.up _ ah
   ·exact c.up t ah
  ·obtain⟨t,ah,rfl|⟨rfl, -⟩⟩:=T t' h
   ·intro _ _ _;have:=(c.up _ ah).2;show _<=max x.g.kept (x.ops.length:Int);omega
   ·intro _ _ _;have:=(c.up _ ah).2;show t.upto<=max x.g.kept (x.ops.length:Int);omega
structure DF (xs:List Int) (es:List (I×I×Nat)):Prop where
 rk:iH (.int .i64) es
 at_:∀x:Int,(eD (.int .i64 x) es).map (·.2)=if x∈xs then some (.bool true)else none
 cl:∀n,∀p∈es,cM n p.1/\cM n p.2.1
theorem aQX:DF [] []:=⟨λp ad=>(by cases ad),λx=>rfl,λn p ad=>(by cases ad)⟩
theorem aQ8(y:Int)(clock:Nat):∀(es:List (I×I×Nat)),iH (.int .i64) es->iH (.int .i64) (hL (.int .i64 y) (.bool true) es clock)/\
  (∀x:Int,(eD (.int .i64 x) (hL (.int .i64 y) (.bool true) es clock)).map (·.2)=if x=y then some (.bool true)else(eD (.int .i64 x) es).map (·.2)):=by
 intro es;induction es with
 |nil=>
  intro _;refine⟨λp ad=>?_,λx=>?_⟩
  ·simp only[hL,eD,ju,dF]at ad;subst ad;rfl
  grind [hL,eD,ju,dF,iM]
 |cons q es Z=>
  obtain⟨k,w,b⟩:=q;intro hk;have O:jR (.int .i64) k=true:=hk (k,w,b) kk
  have V:iH (.int .i64) es:=λp ad=>hk p<|lU _ ad
  cases k<;>simp only[jR,mE]at O;rename_i sh z;rw[gU]at O;subst O;by_cases T:y=z
  ·subst T;have e:hL (.int .i64 y) (.bool true) ((I.int .i64 y,w,b)::es) clock=(.int .i64 y,.bool true,b)::es:=by simp[hL,eD,iM]
   rw[e];refine⟨λp ad=>?_,λx=>?_⟩
   ·rcases cU.1 ad with rfl|ad
    ·rfl
    ·exact V p ad
   ·simp only[eD,iM];by_cases h:x=y<;>simp[h]
  ·have aN:iM (.int .i64 y) (.int .i64 z)=false:=by simp[iM,T]
   rw[O0 aN];obtain⟨i1,i2⟩:=Z V;refine⟨λp ad=>?_,λx=>?_⟩
   ·rcases cU.1 ad with rfl|ad
    ·rfl
    ·exact i1 p ad
   ·have:=i2 x;simp only[eD,iM];by_cases h:x=z
    ·subst h;have U:¬x=y:=λe=>T e.symm
     simp[U]
    ·simp only[bN h,sI,Option.map_map];by_cases U:x=y
     ·rw[aA U]at this ⊢;cases J:eD (.int .i64 x) (hL (.int .i64 y) (.bool true) es clock)with
      |none=>rw[J]at this;cases this
      |some v=>rw[J]at this;simpa using this
     ·rw[aj U]at this ⊢;cases J:eD (.int .i64 x) (hL (.int .i64 y) (.bool true) es clock)with
      |none=>rw[J]at this;cases K:eD (.int .i64 x) es with
       |none=>rfl
       |some v=>rw[K]at this;cases this
      |some v=>rw[J]at this;cases K:eD (.int .i64 x) es with
       |none=>rw[K]at this;cases this
       |some u=>rw[K]at this;simpa using this
theorem aBV{x v:I}(J:cM n x)(U:cM n v)(h:∀p∈es,cM n p.1/\cM n p.2.1)(clock:Nat):∀p∈hL x v es clock,cM n p.1/\cM n p.2.1:=by
 grind [hL,List.mem_iff_getElem?]
theorem aBO{xs:List Int}(h:DF xs es)(y:Int)(clock:Nat):DF (xs++[y]) (hL (.int .i64 y) (.bool true) es clock):=by
 obtain⟨i1,i2⟩:=aQ8 y clock es h.rk;refine⟨i1,λx=>?_,λn=>aBV (.int _ _) (.bool _) (h.cl n) clock⟩
 rw[i2,h.at_];grind
structure wN (es:List (I×I×Nat)):Prop where
 rk:iH .string es
 de:(es.map (·.1)).Nodup
theorem wN.filter(h:wN es)(f:I×I×Nat->Bool):wN (es.filter f):=
 ⟨λp ad=>h.rk p (lV.1 ad).1,List.Nodup.sublist (List.Sublist.map _ List.filter_sublist) h.de⟩
theorem wN.at_(h:wN es){p:I×I×Nat}(ad:p∈es)(hs:p.1=.str s):∃j,eD (.str s) es=some (j,p.2.1)/\es[j]?=some p:=by
 obtain⟨hk,af⟩:=h;induction es with
 |nil=>cases ad
 |cons q es U=>
  obtain⟨k,w,b⟩:=q;rw[dz,u1]at af;have K:jR .string k=true:=hk (k,w,b) kk
  cases k<;>simp only[jR,mE]at K;rename_i t;rcases cU.1 ad with rfl|J
  ·simp only at hs;cases hs;simp[eD,iM]
  ·have O:¬s=t:=λe=>af.1<|by subst e;rw[<-hs];exact bJ.2 ⟨p,J,rfl⟩
   obtain⟨j,h1,h2⟩:=U J (λp ad=>hk p<|lU _ ad) af.2
   exact⟨j+1,by simp[eD,iM,O,h1],by simpa using h2⟩
theorem erase_filter{α β:Type}[BEq β][LawfulBEq β](f:α->β):∀(l:List α) (j:Nat) (p:α),(l.map f).Nodup->l[j]?=some p->l.eraseIdx j=l.filter (λq=> !(f q==f p)):=by
 intro l;induction l with
 |nil=>intro j p _ h;cases h
 |cons x l J=>
  intro j p af h;rw[dz,u1]at af;cases j with
  |zero=>
   cases h;rw[List.eraseIdx_cons_zero,sE,aj kk]
   symm
   rw[List.filter_eq_self];grind
  |succ j=>
   rw[tD]at h;rw[List.eraseIdx_cons_succ,sE,aA,J j p af.2 h];simp only[sB,beq_eq_false_iff_ne];intro e;exact af.1<|e▸bJ.2 ⟨p,ds h,rfl⟩
theorem aM0(h:wN es)(J:mJ es clock){p:I×I×Nat}(ad:p∈es)(hs:p.1=.str s):delKey (.str s) es=es.filter λq=> !(q.2.2==p.2.2):=by
 obtain⟨j,h1,h2⟩:=h.at_ ad hs;unfold delKey;rw[h1];exact erase_filter (λq:I×I×Nat=>q.2.2) es j p J.de h2
def nG(es:List (I×I×Nat))(o:I×I×Nat->Bool)(ps:List (I×I×Nat)):List (I×I×Nat):=es.filter λq=> !((ps.map (·.2.2)).contains q.2.2&&o q)
theorem aQs(es:List (I×I×Nat))(o:I×I×Nat->Bool):nG es o []=es:=by
 unfold nG;rw[List.filter_eq_self];intro q _;simp
theorem aCe(J:mJ es clock){p:I×I×Nat}(ad:p∈es)(aJ:q∈es)(e:q.2.2=p.2.2):q=p:=by
 have av:=J.find ad;have al:=J.find aJ;rw[e,av]at al;cases al;rfl
theorem aQu(J:mJ es clock){p:I×I×Nat}(ad:p∈es)(h:o p=true):nG es o (ps++[p])=(nG es o ps).filter λq=> !(q.2.2==p.2.2):=by
 unfold nG;rw[List.filter_filter];refine List.filter_congr λq aJ=>?_
 simp only[nQ,dz,hj];by_cases e:q.2.2=p.2.2
 ·have:=aCe J ad aJ e;subst this;simp[h]
 ·grind
theorem aQt(J:mJ es clock){p:I×I×Nat}(ad:p∈es)(h:o p=false):nG es o (ps++[p])=nG es o ps:=by
 unfold nG;refine List.filter_congr λq aJ=>?_
 simp only[nQ,dz,hj];by_cases e:q.2.2=p.2.2
 ·have:=aCe J ad aJ e;subst this;simp[h]
 ·grind
theorem aBs:leftOf (nG es o ps) (ps.map (·.2.2))=leftOf es (ps.map (·.2.2)):=by
 unfold leftOf nG;rw[List.filter_filter];refine List.filter_congr λq aJ=>?_
 cases(ps.map (·.2.2)).contains q.2.2<;>simp
theorem aQr(h:ps.Perm es):nG es o ps=es.filter λq=> !o q:=by
 unfold nG;refine List.filter_congr λq aJ=>?_
 have:(ps.map (·.2.2)).contains q.2.2=true:=by
  rw[Dp];exact bJ.2 ⟨q,h.mem_iff.2 aJ,rfl⟩
 rw[this,sH]
def nd(xs:List Int)(q:I×I×Nat):Bool:=match q.2.1 with
 |.agg (.int _ i::_)=>xs.contains i
 |_=>false
theorem aQL(h:(m.map (·.1)).Nodup):wN (fR 0 m) where
 rk:=OZ 0 m
 de:=by
  rw[aBA];induction m with
  |nil=>exact List.nodup_nil
  |cons p m U=>
   rw[dz,u1]at h;rw[dz,dz,u1];refine⟨λJ=>?_,U h.2⟩
   obtain⟨s,hs,e⟩:=bJ.1 J;cases e;exact h.1 hs
theorem aQK(xs:List Int):∀(b:Nat) (m:List (ag×aE)),((fR b m).filter λq=> !nd xs q).map (·.1)=((m.filter λp=> !xs.contains p.2.id).map (·.1)).map I.str:=by
 intro b m;induction m generalizing b with
 |nil=>rfl
 |cons p m J=>
  have e:nd xs (I.str p.1,ba p.2,b)=xs.contains p.2.id:=rfl;rw[fR,sE,sE,e];split
  ·rw[dz,J];rfl
  ·exact J _
theorem aQJ{b:Nat}(h:q∈fR b m):∃p∈m,q.1=.str p.1/\q.2.1=ba p.2:=by
 induction m generalizing b with
 |nil=>cases h
 |cons p m J=>
  rcases cU.1 h with rfl|h
  ·exact⟨p,kk,rfl,rfl⟩
  ·obtain⟨r,U,e⟩:=J h;exact⟨r,lU _ U,e⟩
theorem aQB{b:Nat}{p:ag×aE}(h:p∈m):∃k,(I.str p.1,ba p.2,k)∈fR b m:=by
 induction m generalizing b with
 |nil=>cases h
 |cons x m J=>
  rcases cU.1 h with rfl|h
  ·exact⟨b,by simp[fR]⟩
  ·obtain⟨k,hk⟩:=J (b:=b+1) h;exact⟨k,lU _ hk⟩
def sc(fI:List eQ):List I:=(fI.map dL).flatMap I.cells
theorem aP8(a:List eQ)(x:eQ):sc (a++[x])=sc a++[.str x.path,.int .i64 x.id,.str x.data]:=by
 simp[sc,dL,I.cells]
theorem aP9(a:List eQ):(sc a).length=a.length * 3:=by
 induction a with
 |nil=>rfl
 |cons x a J=>
  have:sc (x::a)=[.str x.path,.int .i64 x.id,.str x.data]++sc a:=by simp[sc,dL,I.cells]
  grind
def lL(G:ab)(h:Nat)(fI:List eQ):ab:=ar (ar G (h+5) (.cells (fI.length+1) (sc fI))) (h+3)<|.cells 0 [.osl 3 (h+5) (fI.length+1) 0 fI.length fI.length]
theorem aBj(G:ab)(h:Nat)(a b:List eQ):lL (lL G h a) h b=lL G h b:=by
 unfold lL;rw[ub (ar G (h+5) _) _ _ (show h+3≠h+5 by omega),jS,jS]
theorem R7(U:h+5<G.length)(J:List eQ)(L:ab):lL (G++L) h J=lL G h J++L:=by
 unfold lL;rw[hX U,hX<|by rw[bc];omega]
theorem MD(G:ab)(h:Nat)(J:List eQ):(lL G h J).length=G.length:=by unfold lL;rw[bc,bc]
theorem ME(J:List eQ)(U:ay G j=B)(h1:j≠h+3)(h2:j≠h+5):ay (lL G h J) j=B:=by
 unfold lL;exact bY (bY U iV _) iV _
structure sM (F:FuncId) (b:Bool) (l:List aE) (kS:List (I×I×Nat)) (la h:Nat) (fI:List eQ) (G:ab):Prop where
 gb:ay G h=.cells 0 [.sl b (l.map ba)]
 aO:ay G (h+1)=.map kS la
 bo:ay G (h+2)=.cells 0 [.map (h+1)]
 hG:ay G (h+3)=.cells 0 [.osl 3 (h+5) (fI.length+1) 0 fI.length fI.length]
 gW:ay G (h+4)=.cells 0 [.func (.func F) [] [.ref h 0 0,.ref (h+2) 0 0,.ref (h+3) 0 0,.ref (h+4) 0 0]]
 mM:ay G (h+5)=.cells (fI.length+1) (sc fI)
theorem sM.lt{l:List aE}{J:List eQ}(k:sM F b l kS la h J G):h+5<G.length:=dk k.mM trivial
theorem sM.app{l:List aE}{J:List eQ}(k:sM F b l kS la h J G)(L:ab):sM F b l kS la h J (G++L):=
 ⟨b3 k.gb trivial L,b3 k.aO trivial L,b3 k.bo trivial L,b3 k.hG trivial L,b3 k.gW trivial L,b3 k.mM trivial L⟩
theorem sM.put{l:List aE}{U:List eQ}(k:sM F b l kS la h U G)(J:List eQ):sM F b l kS la h J (lL G h J):=
 ⟨ME J k.gb iV iV,ME J k.aO iV iV,ME J k.bo iV iV,dR (by rw[bc];exact dk k.hG trivial) _,ME J k.gW iV iV,
  bY (dR k.lt _) iV _⟩
theorem sM.own{l:List aE}{J:List eQ}(k:sM F b l kS la h J G):lL G h J=G:=by
 unfold lL;rw[lr k.mM trivial,lr k.hG trivial]
theorem aQc(k n:Nat)(U:List eQ):ep n (.cells k<|sc U):=λx J=>by
 unfold sc at J;rw[u2]at J;obtain⟨y,K,J⟩:=J;obtain⟨t, -,rfl⟩:=bJ.1 K;simp only[dL,I.cells,cU,lj,lk]at J;rcases J with rfl|rfl|rfl
 ·exact .str _
 ·exact .int _ _
 ·exact .str _
theorem aQa(U:List eQ)(af:h+5<n):∀(j:Nat) (b:bE),(lL G h U)[j]?=some b->G[j]?=some b\/ep n b:=λj b K=>by
 rcases Lw (n:=n) (b:=.cells 0 [.osl 3 (h+5) (U.length+1) 0 U.length U.length]) (λx J=>by rw[dF]at J;subst J;exact .osl _ _ _ _ _ _ iV) j b K with q|q
 ·exact Lw (aQc _ _ U) j b q
 ·exact .inr q
theorem aQb{l:List aE}(au:cp l=true)(hw:ln l)(hl:l.length<=1073741824)(af:tO l){out:List Int}(aD:DF out kS)(la u:Nat):
  ∀(k:Nat) (dir:Int) (path:ag) (fI:List eQ) (G:ab),dm dir=true->l.length<k+dep l dir->path.length<=dep l dir * 1073741825->fI.length+(qY l out dir path).length<=1073741824->
   sM 95 b l kS la u fI G->
   dp prog 95 [.int .i64 dir,.str path,.ref u 0 0,.ref (u+2) 0 0,.ref (u+3) 0 0,.ref (u+4) 0 0] G (λv dw=>v=.aQ []/\dw=lL G u (fI++qY l out dir path)):=by
 intro k;induction k with
 |zero=>intro dir path fI G _ hk;have:=BO hw dir;omega
 |succ k aB=>
 intro dir path fI G hd hk ad aJ aa;refine tU func95 ?_;have ak:=aa.lt;have a0:=aa.gb;repeat' first|(refine ae ?_;simp only[go_sem,a0])|refine ao ?_|fail
 refine dU (P0 b l dir hl G) aK ?_;rintro v H' ⟨rfl,rfl⟩;simp only[go_sem];obtain⟨es,vE⟩:∃es,es=fR 0 (fz l dir):=⟨_,rfl⟩;obtain⟨cl,dV⟩:∃n,n=(fz l dir).length:=⟨_,rfl⟩;have bn:mJ es cl:=by rw[vE,dV];exact aBB _
 have oY:wN es:=by rw[vE];exact aQL (A9 l dir).1
 rw[<-vE,<-dV];repeat' first|(refine ae ?_;simp only[go_sem])|refine ao ?_|fail
 -- what is left out goes from the map
 refine qD (ι:=ab) (λ_=>[(1,.str path),(2,.ref u 0 0),(3,.ref (u+2) 0 0),(4,.ref (u+3) 0 0),(5,.ref (u+4) 0 0),(8,.map G.length)]) (λL=>G++.map (es.filter λq=> !nd out q) cl::L) (λ_=>True) ?_ λlX _=>?_
 ·refine cE (ι:=List (I×I×Nat)×ab) (λs=>[(1,.str path),(2,.ref u 0 0),(3,.ref (u+2) 0 0),(4,.ref (u+3) 0 0),(5,.ref (u+4) 0 0),(8,.map G.length),(19,.iter<|G.length+1)]) (λs=>G++.map (nG es (nd out) s.1) cl::.iI G.length cl (s.1.map (·.2.2)) cl::s.2) (λs=>tM es s.1) (λs=>es.length-s.1.length)
   ([],[]) ⟨λp ad=>(by cases ad),kk⟩ (by simp[go_sem]) (by rw[aQs];rfl) ?_
  rintro⟨ps,L⟩ aW;simp only at aW ⊢;have Mo:mJ (nG es (nd out) ps) cl:=bn.filter _;have aAY:wN (nG es (nd out) ps):=oY.filter _;repeat' first|(refine ae ?_;simp only[go_sem])|refine ao ?_|fail
  refine⟨G.length+1,G.length,cl,ps.map (·.2.2),cl,nG es (nd out) ps,cl,rfl,nb,nb,λp ad=>⟨Mo.lt p ad,Mo.lt p ad⟩,λhe=>?_,λp ad=>?_⟩
  ·simp only[go_sem];repeat' first|(refine ae ?_;simp only[go_sem])|refine ao ?_|fail
   rw[aBs]at he;rw[aQr (aW.perm bn he)];exact⟨.iI G.length cl (ps.map (·.2.2)) cl::L,rfl⟩
  ·have ek:p∈nG es (nd out) ps:=(lV.1 ad).1;have Im:=ad;rw[aBs]at Im;obtain⟨gg,xh⟩:=aW.step Im;have g3:=Mo.Zz ek<|ps.map (·.2.2);have uo:=xh;rw[vE]at uo;obtain⟨⟨s,n⟩,hm,av,al⟩:=aQJ uo;simp only at av al;simp only[go_sem];obtain⟨O,T⟩:∃O,G++.map (nG es (nd out) ps) cl::.iI G.length cl (ps.map (·.2.2)++[p.2.2]) cl::L=O:=⟨_,rfl⟩;have fE:ay O G.length=.map (nG es (nd out) ps) cl:=by rw[<-T];simp only[go_sem]
   have c1:ay O (G.length+1)=.iI G.length cl (ps.map (·.2.2)++[p.2.2]) cl:=by rw[<-T];simp only[go_sem]
   have c2:ay O (u+2)=.cells 0 [.map (u+1)]:=by rw[<-T];exact(aa.app _).bo
   have iS:ay O (u+1)=.map kS la:=by rw[<-T];exact(aa.app _).aO
   have d0:=gN fE trivial;have d2:=bC c2 trivial;have d3:=bC iS trivial;have d1:=bC fE trivial;have k1:iH .string (nG es (nd out) ps)=True:=b5 aAY.rk;have k2:iH (.int .i64) kS=True:=b5 aD.rk;have aOq:=aM0 aAY Mo ek av;rw[T];rw[av]at g3;rw[al]at g3;rw[av,al];have e1:=aD.at_ n.id;have aAN:nd out p=out.contains n.id:=by unfold nd;rw[al];rfl
   have r3:es.length-(ps++[p]).length<es.length-ps.length:=by
    have:=gg.len;simp only[bF,cg,eg]at this ⊢;omega
   by_cases pD:n.id∈out
   ·rw[aA pD]at e1;obtain⟨⟨j,w⟩,aq,dI⟩:=hC.1 e1;simp only at dI;subst dI;have od:nd out p=true:=by rw[aAN];simpa using pD
    have hle:=aQu (ps:=ps) bn xh od;rw[<-aOq]at hle;repeat' first|(refine ae ?_;simp only[go_sem,g3,fE,c1,c2,iS,d0,d1,d2,d3,k1,k2,aq,ba])|refine ao ?_|fail
    refine⟨(ps++[p],L++[.cells 0 (ba n).cells]),gg,r3,?_⟩;rw[hle,<-T];simp[ar,ba,I.cells]
   ·rw[aj pD]at e1;have aq:=Option.map_eq_none_iff.1 e1;have s8:nd out p=false:=by rw[aAN];simpa using pD
    have hle:=aQt (ps:=ps) bn xh s8;repeat' first|(refine ae ?_;simp only[go_sem,g3,fE,c1,c2,iS,d0,d1,d2,d3,k1,k2,aq,ba])|refine ao ?_|fail
    refine⟨(ps++[p],L++[.cells 0 (ba n).cells]),gg,r3,?_⟩;rw[hle,<-T];simp[ba,I.cells]
 -- the names in order
 have aPr:mJ (es.filter λq=> !nd out q) cl:=bn.filter _
 have aOZ:(es.filter λq=> !nd out q).map (·.1)=(((fz l dir).filter λp=> !out.contains p.2.id).map (·.1)).map I.str:=by rw[vE];exact aQK out 0 _
 have jF:Bv (((fz l dir).filter λp=> !out.contains p.2.id).map (·.1)):=λs hs=>by
  obtain⟨p,ad,rfl⟩:=bJ.1 hs;exact S4 af dir _<|bJ.2 ⟨p,(lV.1 ad).1,rfl⟩
 have dH:(es.filter λq=> !nd out q).length<=1073741824:=by
  have h1:=pd (λq=> !nd out q) es
  have h2:es.length=(fz l dir).length:=by rw[vE,Za]
  have h3:=Lt l dir;omega
 repeat' first|(refine ae ?_;simp only[go_sem])|refine ao ?_|fail
 refine hY (aB8 aPr G.length aOZ jF dH _ nb) aK ?_
 simp only[go_sem];show _;obtain⟨U,eJ⟩:∃U,U=ym l out dir:=⟨_,rfl⟩;have aPp:qU (((fz l dir).filter λp=> !out.contains p.2.id).map (·.1))=U:=by rw[eJ];rfl
 rw[aPp];repeat' first|(refine ae ?_;simp only[go_sem])|refine ao ?_|fail
 have b7:U.length<=1073741824:=by
  have h1:U.length=(((fz l dir).filter λp=> !out.contains p.2.id).map (·.1)).length:=by rw[eJ];exact(Fw _).length_eq
  have h2:=pd (λp:ag×aE=> !out.contains p.2.id)<|fz l dir
  have h3:=Lt l dir;rw[cv]at h1;omega
 obtain⟨V,Rc⟩:∃V,V=es.filter λq=> !nd out q:=⟨_,rfl⟩
 have aAX:wN V:=by rw[Rc];exact oY.filter _
 have E9:=XT au hw out hd path;rw[<-eJ]at E9;rw[<-Rc];refine cE (ι:=Nat×ab) (λs=>[(1,.str path),(2,.ref u 0 0),(3,.ref (u+2) 0 0),(4,.ref (u+3) 0 0),(5,.ref (u+4) 0 0),(8,.map G.length),(32,.sl false<|U.map I.str),(33,.int .i64 U.length),(34,.int .i64 s.1)])
  (λs=>lL G u (fI++(U.take s.1).flatMap (p2 l out dir path))++.map V cl::s.2) (λs=>s.1<=U.length) (λs=>U.length-s.1) (0,lX) (bW _) ?_ ?_ ?_
 ·simp[go_sem]
 ·rw[Du,J5,cA,aa.own]
 rintro⟨i,L⟩ hi;simp only at hi ⊢;obtain⟨K,H6⟩:∃x,x=fI++(U.take i).flatMap (p2 l out dir path):=⟨_,rfl⟩;rw[<-H6];obtain⟨O,T⟩:∃O,lL G u K++.map V cl::L=O:=⟨_,rfl⟩;have Z:sM 95 b l kS la u K O:=by rw[<-T];exact(aa.put K).app _
 have fE:ay O G.length=.map V cl:=by rw[<-T];exact ur<|MD G u K
 rw[T];by_cases z:i<U.length
 ·have pD:U[i]∈ym l out dir:=by rw[<-eJ];exact ga z
  obtain⟨n,EY,RO,cH⟩:=YL pD;have E4:U[i].length<=1073741824:=S4 af dir _<|bJ.2 ⟨(U[i],n),RO,rfl⟩;obtain⟨q,Ip⟩:=aQB (b:=0) RO;have oc:(I.str U[i],ba n,q)∈V:=by rw[Rc,vE];exact lV.2 ⟨Ip,by unfold nd;simpa[ba]using cH⟩
  obtain⟨j,aq, -⟩:=aAX.at_ oc rfl;simp only at aq;have k1:iH .string V=True:=b5 aAX.rk;obtain⟨vN,aXM, -⟩:=D3 au hd RO;have Ci:=yi hw vN;have ek:(path.length+1)+U[i].length<=dep l n.id * 1073741825:=iV
  have h8:(U.take (i+1)).flatMap (p2 l out dir path)=(U.take i).flatMap (p2 l out dir path)++p2 l out dir path U[i]:=by
   rw[fj z,tE,List.flatMap_singleton]
  have vO:p2 l out dir path U[i]=⟨path++(47::U[i]),n.id,n.data⟩::(if dm n.id=true then qY l out n.id (path++(47::U[i]))else[]):=by unfold p2;rw[EY]
  have hsz:K.length+(p2 l out dir path U[i]).length<=1073741824:=by
   have h1:((U.take (i+1)).flatMap (p2 l out dir path)).length<=(qY l out dir path).length:=by
    rw[E9];conv=>rhs;rw[<-pY (i+1) U,tE,bF]
    omega
   rw[h8,bF]at h1;rw[H6,bF];omega
  have jl:=BO hw n.id;have bb:=bC Z.hG trivial;have bf:=bC Z.gW trivial;have dC:=bC Z.mM trivial;have jM:=gN Z.mM trivial;have Sb:=Z.lt;have aB0:∀c L,ay (ar O (u+5) c++L) (u+3)=_:=λc L=>b3 (bY Z.hG iV c) trivial L
  have aCz:∀c c' L,ar (ar O (u+5) c++L) (u+3) c'=ar (ar O (u+5) c) (u+3) c'++L:=λc c' L=>hX (by rw[bc];omega) L c'
  have aB1:∀c c' L,ay (ar (ar O (u+5) c) (u+3) c'++L) (u+4)=_:=λc c' L=>b3 (bY (bY Z.gW iV c) iV c') trivial L
  have aB9:∀c c' L,ay (ar (ar O (u+5) c) (u+3) c'++L) O.length=L.getD 0 .gone:=λc c' L=>ur<|by rw[bc,bc]
  have hI:(sc K).length=K.length * 3:=aP9 _;have jE:((K.length+1) * 40<=140737488355328)=True:=b5 (by rw[vO]at hsz;simp only[cg]at hsz;omega)
  have dZ:dq [I.osl 3 (u+5) (K.length+1) 0 K.length K.length] 0 [.osl 3 (u+5) (K.length+2) 0 (K.length+1) (K.length+1)]=[.osl 3 (u+5) (K.length+2) 0 (K.length+1) (K.length+1)]:=rfl;have ck:(U.map I.str).getD i .top=.str U[i]:=by simp[z]
  have j0:(∀e,e=I.agg [.str (path++47::U[i]),.int .i64 n.id,.str n.data]->e.cells.length=3)=True:=b5 λe he=>by rw[he];rfl
  obtain⟨x,J⟩:∃x:eQ,x=⟨path++(47::U[i]),n.id,n.data⟩:=⟨_,rfl⟩;have xi:∀Y,ar (ar O (u+5)<|.cells (K.length+2) (sc K++[.str (path++47::U[i]),.int .i64 n.id,.str n.data])) (u+3) (.cells 0 [.osl 3 (u+5) (K.length+2) 0 (K.length+1) (K.length+1)])++Y=lL (O++Y) u (K++[x]):=λY=>by
   rw[R7 Z.lt,J];unfold lL;rw[aP8,bF];rfl
  have vD:∀xu Y,lL (O++Y) u xu=lL G u xu++.map V cl::(L++Y):=λxu Y=>by
   rw[R7 Z.lt,<-T,R7 (by rw[MD];exact ak),aBj]
   simp
  rw[<-J]at vO;have r3:U.length-(i+1)<U.length-i:=iV
  cases lG:dm n.id with
  |false=>
   repeat' first|((first|refine cx (uV _) ?_|refine ae ?_);simp only[go_sem,fE,ck,aq,k1,ba,z,hI,j0,jE,dZ,bb,bf,dC,jM,aB0,aCz,aB1,aB9,lG])|refine ao ?_|fail
   refine⟨(i+1,L++[.cells 0 (ba n).cells]),z,r3,bU _<|dA z iV,?_⟩
   rw[xi,vD,h8,vO,lG,aj kk,H6,dr]
   rfl
  |true=>
   repeat' first|((first|refine cx (uV _) ?_|refine ae ?_);simp only[go_sem,fE,ck,aq,k1,ba,z,hI,j0,jE,dZ,bb,bf,dC,jM,aB0,aCz,aB1,aB9,lG])|refine ao ?_|fail
   rw[xi];have LW:=(Z.app [.cells 0 [.int .i64 n.id,.int .i64 n.parent,.str n.name,.int .i64 n.fJ.c,.int .i64 n.fJ.r,.str n.data,.int .i64 n.wrote.c,.int .i64 n.wrote.r]]).put<|K++[x];rw[vO,lG,aA rfl,cg]at hsz;refine qd (aB n.id (path++47::U[i]) (K++[x]) _ lG iV (by rw[bF,cg];omega) (by rw[bF,List.length_singleton];omega) LW) aK ?_
   rintro v H' ⟨rfl,rfl⟩;rw[aBj];simp only[go_sem];repeat' first|(refine ae ?_;simp only[go_sem])|refine ao ?_|fail
   refine⟨(i+1,L++[.cells 0 (ba n).cells]),z,r3,bU _<|dA z iV,?_⟩
   rw[vD,h8,vO,lG,aA rfl,H6,dr];rfl
 ·have eV:i=U.length:=iV
  repeat' first|(refine ae ?_;simp only[go_sem,z])|refine ao ?_|fail
  refine⟨lL G u K,.map V cl::L,.aQ [],T.symm,by rw[MD];exact bd _,by rw[MD];exact aQa K ak,.cl _<|.aQ _ λ_ _ J=>by simp at J,rfl,?_⟩
  rw[H6,eV,eG,E9]
theorem Yo(b:Bool)(l:List aE)(dir:Int)(hw:ln l)(hd:dm dir=true)(hl:l.length<=1073741824)(af:tO l)(H:ab):aM prog 52 [.sl b (l.map ba),.int .i64 dir] H (.sl false<|(mO l dir).map dL):=by
 refine aZ func52 ?_;unfold mO;cases hs:cp l with
 |false=>
  rw[aj kk,hj]
  repeat' first|((first|refine cx (lN _ _) ?_|refine ae ?_);simp only[go_sem,hs])|refine ao ?_|fail
  exact aV<|.sl _ _
 |true=>
  rw[aA rfl];have z:=OY b l dir hl;obtain⟨up,K⟩:∃up,up=og l dir:=⟨_,rfl⟩;rw[<-K]at z;have sg:iH (.int .i64) []=True:=b5 λp ad=>by cases ad
  have Fc:up.length<=1073741824:=by
   rw[K,og,aA hs];exact fr (P7 hw _ _) hl
  repeat' first|((first|refine cx (lN _ _) ?_|refine ae ?_);simp only[go_sem,hs,sg])|refine ao ?_|fail
  have cY:ay (H++[.cells 0 [.sl b (l.map ba)]]) H.length=.cells 0 [.sl b (l.map ba)]:=nb
  refine qD (ι:=List (I×I×Nat)×Nat) (λ_=>[(1,.int .i64 dir),(2,.ref H.length 0 0),(5,.ref (H.length+2) 0 0)]) (λs=>H++[.cells 0 [.sl b (l.map ba)],.map s.1 s.2,.cells 0 [.map (H.length+1)]]) (λs=>DF (dir::up) s.1) ?_ fun⟨kS,la⟩ J=>?_
  ·refine cE (ι:=Nat×List (I×I×Nat)×Nat) (λs=>[(1,.int .i64 dir),(2,.ref H.length 0 0),(5,.ref (H.length+2) 0 0),(18,.sl false<|up.map bq),(19,.int .i64 up.length),(20,.int .i64 s.1)]) (λs=>H++[.cells 0 [.sl b (l.map ba)],.map s.2.1 s.2.2,.cells 0 [.map (H.length+1)]])
    (λs=>s.1<=up.length/\DF (dir::up.take s.1) s.2.1) (λs=>up.length-s.1) (0,hL (.int .i64 dir) (.bool true) [] 0,_) ⟨bW _,aBO aQX dir 0⟩ ?_ rfl ?_
   ·simp[go_sem]
   rintro⟨i,kS,la⟩ ⟨hi,J⟩;simp only at hi J ⊢;by_cases U:i<up.length
   ·have ck:(up.map bq).getD i .top=bq up[i]:=by simp[U]
    have k1:iH (.int .i64) kS=True:=b5 J.rk;have O:=aBO J up[i] la;have h8:dir::up.take i++[up[i]]=dir::up.take (i+1):=by rw[fj U];rfl
    rw[h8]at O;repeat' first|(refine ae ?_;simp only[go_sem,U,ck,bq,k1])|refine ao ?_|fail
    refine⟨(i+1,_,_),⟨U,O⟩,by simp only;omega,bU _<|dA U iV,rfl⟩
   ·have eV:i=up.length:=iV
    rw[eV,eG]at J;repeat' first|(refine ae ?_;simp only[go_sem,U])|refine ao ?_|fail
    exact⟨(kS,la),J,rfl⟩
  simp only;have Cu:dir::up=zZ l dir:=by rw[K];rfl
  rw[Cu]at J;refine zH (ι:=Unit) (λ_=>[(1,.int .i64 dir),(2,.ref H.length 0 0),(5,.ref (H.length+2) 0 0),(8,.ref (H.length+3) 0 0)]) (λ_=>H++[.cells 0 [.sl b (l.map ba)],.map kS la,.cells 0 [.map (H.length+1)],.cells 0 [.sl true []]]) (λ_=>True) ?_ λ_ _=>?_
  ·repeat' first|(refine ae ?_;simp only[go_sem])|refine ao ?_|fail
   exact⟨(),trivial⟩
  refine zH (ι:=Unit) (λ_=>[(1,.int .i64 dir),(2,.ref H.length 0 0),(5,.ref (H.length+2) 0 0),(8,.ref (H.length+3) 0 0),(9,.ref (H.length+4) 0 0)]) (λ_=>H++[.cells 0 [.sl b (l.map ba)],.map kS la,.cells 0 [.map (H.length+1)],.cells 0 [.sl true []],.cells 0 [.ea]]) (λ_=>True) ?_ λ_ _=>?_
  ·repeat' first|(refine ae ?_;simp only[go_sem])|refine ao ?_|fail
   exact⟨(),trivial⟩
  refine zH (ι:=Unit) (λ_=>[(1,.int .i64 dir),(2,.ref H.length 0 0),(5,.ref (H.length+2) 0 0),(8,.ref (H.length+3) 0 0),(9,.ref (H.length+4) 0 0)]) (λ_=>H++[.cells 0 [.sl b (l.map ba)],.map kS la,.cells 0 [.map (H.length+1)],.cells 0 [.sl true []],.cells 0 [.func (.func 95) [] [.ref H.length 0 0,.ref (H.length+2) 0 0,.ref (H.length+3) 0 0,.ref (H.length+4) 0 0]]]) (λ_=>True) ?_ λ_ _=>?_
  ·repeat' first|(refine ae ?_;simp only[go_sem])|refine ao ?_|fail
   exact⟨(),trivial⟩
  refine AX (H.length+3) 0 3 (by simp only[go_sem];rfl) rfl ?_
  simp only[go_sem];have T:sM 95 b l kS la H.length [] (H++[.cells 0 [.sl b (l.map ba)],.map kS la,.cells 0 [.map (H.length+1)],.cells 0 [.osl 3 (H.length+5) 1 0 0 0],.cells 0 [.func (.func 95) [] [.ref H.length 0 0,.ref (H.length+2) 0 0,.ref (H.length+3) 0 0,.ref (H.length+4) 0 0]],.cells 1 []]):=
   ⟨nb,nb,nb,by first|(simp only[go_sem];done)|(simp only[go_sem];rfl),nb,by first|(simp only[go_sem];done)|(simp only[go_sem];rfl)⟩
  have qe:=PJ hs hw (zZ l dir) dir [] hd;have jl:=BO hw dir;repeat' first|(refine ae ?_;simp only[go_sem])|refine ao ?_|fail
  refine qd (aQb hs hw hl af J la H.length (l.length+1) dir [] [] _ hd iV (bW _) (by rw[eg];omega) T) aK ?_
  rintro v H' ⟨rfl,rfl⟩;rw[ju];have V:=T.put<|qY l (zZ l dir) dir [];have iS:=V.hG;have Z:=V.mM;simp only[go_sem];repeat' first|(refine ae ?_;simp only[go_sem,iS])|refine ao ?_|fail
  obtain⟨L,hp⟩:=(show ∃L,lL (H++_) H.length (qY l (zZ l dir) dir [])=H++L from mZ (mZ ⟨_,rfl⟩ iV _) iV _)
  rw[hp]at Z ⊢;exact uH (cs:=sc<|qY l (zZ l dir) dir []) (es:=(qY l (zZ l dir) dir []).map dL) (rest:=[]) iV Z (by rw[cA];rfl) kk (λe he=>by obtain⟨x,_,rfl⟩:=bJ.1 he;rfl) (λe he=>by obtain⟨x,_,rfl⟩:=bJ.1 he;exact nb) rfl
theorem aRa(y:List UInt8)(w:I)(clock:Nat):∀(es:List (I×I×Nat)),iH .string es->iH .string (hL (.str y) w es clock)/\
  (∀x,(eD (.str x) (hL (.str y) w es clock)).map (·.2)=if x=y then some w else(eD (.str x) es).map (·.2)):=by
 intro es;induction es with
 |nil=>
  intro _;refine⟨λp ad=>?_,λx=>?_⟩
  ·simp only[hL,eD,ju,dF]at ad;subst ad;rfl
  grind [hL,eD,ju,dF,iM]
 |cons q es V=>
  obtain⟨k,v,b⟩:=q;intro hk;have Z:jR .string k=true:=hk (k,v,b) kk
  have T:iH .string es:=λp ad=>hk p<|lU _ ad
  cases k<;>simp only[jR,mE]at Z;rename_i z;by_cases O:y=z
  ·subst O;have e:hL (.str y) w ((I.str y,v,b)::es) clock=(.str y,w,b)::es:=by simp[hL,eD,iM]
   rw[e];refine⟨λp ad=>?_,λx=>?_⟩
   ·rcases cU.1 ad with rfl|ad
    ·rfl
    ·exact T p ad
   ·simp only[eD,iM];by_cases h:x=y<;>simp[h]
  ·have aN:iM (.str y) (.str z)=false:=by simp[iM,O]
   rw[O0 aN];obtain⟨i1,i2⟩:=V T;refine⟨λp ad=>?_,λx=>?_⟩
   ·rcases cU.1 ad with rfl|ad
    ·rfl
    ·exact i1 p ad
   ·have:=i2 x;simp only[eD,iM];by_cases h:x=z
    ·subst h;have U:¬x=y:=λe=>O e.symm
     simp[U]
    ·simp only[bN h,sI,Option.map_map];by_cases U:x=y
     ·rw[aA U]at this ⊢;cases J:eD (.str x) (hL (.str y) w es clock)with
      |none=>rw[J]at this;cases this
      |some v=>rw[J]at this;simpa using this
     ·rw[aj U]at this ⊢;cases J:eD (.str x) (hL (.str y) w es clock)with
      |none=>rw[J]at this;cases K:eD (.str x) es with
       |none=>rfl
       |some v=>rw[K]at this;cases this
      |some v=>rw[J]at this;cases K:eD (.str x) es with
       |none=>rw[K]at this;cases this
       |some u=>rw[K]at this;simpa using this
structure x9 (l:List eQ) (es:List (I×I×Nat)):Prop where
 rk:iH .string es
 at_:∀p:ag,(eD (.str p) es).map (·.2)=(y0 p l).map dL
 cl:∀n,∀p∈es,cM n p.1/\cM n p.2.1
theorem aBk:x9 [] []:=⟨λp ad=>(by cases ad),λx=>rfl,λn p ad=>(by cases ad)⟩
theorem aMV(n:Nat)(x:eQ):cM n (dL x):=.agg _ λi y J=>by
 have:=ds J;simp only[cU,lj,lk]at this;rcases this with rfl|rfl|rfl
 ·exact .str _
 ·exact .int _ _
 ·exact .str _
theorem aBl{l:List eQ}(h:x9 l es)(x:eQ)(clock:Nat):x9 (l++[x]) (hL (.str x.path) (dL x) es clock):=by
 obtain⟨i1,i2⟩:=aRa x.path (dL x) clock es h.rk;refine⟨i1,λp=>?_,λn=>aBV (.str _) (aMV n x) (h.cl n) clock⟩
 rw[i2,h.at_];unfold y0;grind
theorem x9.yes{l:List eQ}(h:x9 l es){p:ag}{x:eQ}(J:y0 p l=some x):∃j,eD (.str p) es=some (j,dL x):=by
 have:=h.at_ p;simp_all
theorem x9.no{l:List eQ}(h:x9 l es){p:ag}(J:y0 p l=none):eD (.str p) es=none:=by
 have:=h.at_ p;rw[J]at this;exact Option.map_eq_none_iff.1 this
def jA(bV:List eb):List I:=(bV.map c9).flatMap I.cells
theorem aNa(a:List eb)(x:eb):jA (a++[x])=jA a++[.int .i64 x.kind,.str x.path]:=by
 simp[jA,c9,I.cells]
theorem Qy(a:List eb):(jA a).length=a.length * 2:=by
 induction a with
 |nil=>rfl
 |cons x a J=>
  have:jA (x::a)=[.int .i64 x.kind,.str x.path]++jA a:=by simp[jA,c9,I.cells]
  grind
def q2(G:ab)(h:Nat)(bV:List eb):ab:=ar (ar G (h+1) (.cells (bV.length+1) (jA bV))) h<|.cells 0 [.osl 2 (h+1) (bV.length+1) 0 bV.length bV.length]
theorem aNd(J:h+1<G.length)(bV:List eb)(L:ab):q2 (G++L) h bV=q2 G h bV++L:=by
 unfold q2;rw[hX J,hX<|by rw[bc];omega]
theorem LM(G:ab)(h:Nat)(bV:List eb):(q2 G h bV).length=G.length:=by unfold q2;rw[bc,bc]
theorem Lc(bV:List eb)(J:ay G j=B)(h1:j≠h)(h2:j≠h+1):ay (q2 G h bV) j=B:=by
 unfold q2;exact bY (bY J iV _) iV _
structure sK (h:Nat) (bV:List eb) (G:ab):Prop where
 gb:ay G h=.cells 0 [.osl 2 (h+1) (bV.length+1) 0 bV.length bV.length]
 aO:ay G (h+1)=.cells (bV.length+1) (jA bV)
theorem sK.lt{bV:List eb}(k:sK h bV G):h+1<G.length:=dk k.aO trivial
theorem sK.app{bV:List eb}(k:sK h bV G)(L:ab):sK h bV (G++L):=⟨b3 k.gb trivial L,b3 k.aO trivial L⟩
theorem sK.set{bV:List eb}(k:sK h bV G)(hi:h+1<i)(X:bE):sK h bV (ar G i X):=⟨bY k.gb iV X,bY k.aO iV X⟩
theorem sK.put(hl:h+1<G.length)(es:List eb):sK h es (q2 G h es):=
 ⟨dR (by rw[bc];omega) _,bY (dR hl _) iV _⟩
theorem aNe(k n:Nat)(bV:List eb):ep n (.cells k<|jA bV):=λx J=>by
 unfold jA at J;rw[u2]at J;obtain⟨y,U,J⟩:=J;obtain⟨t, -,rfl⟩:=bJ.1 U;simp only[c9,I.cells,cU,lj,lk]at J;rcases J with rfl|rfl
 ·exact .int _ _
 ·exact .str _
theorem ZA(bV:List eb)(af:h+1<n):∀(j:Nat) (b:bE),(q2 G h bV)[j]?=some b->G[j]?=some b\/ep n b:=λj b U=>by
 rcases Lw (n:=n) (b:=.cells 0 [.osl 2 (h+1) (bV.length+1) 0 bV.length bV.length]) (λx J=>by rw[dF]at J;subst J;exact .osl _ _ _ _ _ _ iV) j b U with q|q
 ·exact Lw (aNe _ _ bV) j b q
 ·exact .inr q
def uC(ps:List (Bool×List eb)):List I:=ps.map λp=>.sl p.1<|p.2.map c9
def hc(ps:List (Bool×List eb))(i:Nat):List eb:=(ps.take i).flatMap (·.2)
theorem Se{ps:List (Bool×List eb)}(h:i<ps.length):hc ps (i+1)=hc ps i++ps[i].2:=by
 unfold hc;rw[fj h,tE,List.flatMap_singleton]
theorem aQq(ps:List (Bool×List eb))(i:Nat):(hc ps i).length<=(hc ps ps.length).length:=by
 unfold hc;rw[eG];conv=>rhs;rw[<-pY i ps,tE,bF]
 omega
def LN:I:=.agg [.int .i64 0,.str []]
theorem aNm(n:Nat):(List.flatMap I.cells (List.replicate n LN)).length=n * 2:=by
 induction n with
 |zero=>rfl
 |succ n J=>rw[zo,nj,bF,J];simp[LN,I.cells];omega
theorem ZL{ps:List (Bool×List eb)}(h:i<ps.length):(uC ps).getD i .top=.sl ps[i].1 (ps[i].2.map c9):=by simp[uC,h]
theorem aNc(l:List eb):List.flatMap I.cells (l.map c9)=jA l:=rfl
theorem aNb(a b:List eb):jA (a++b)=jA a++jA b:=by simp[jA]
theorem aQU(l:List eb):(jA l).all I.one=true:=by
 rw[gm];intro x J;unfold jA at J;rw[u2]at J;obtain⟨y,U,J⟩:=J;obtain⟨t, -,rfl⟩:=bJ.1 U;simp only[c9,I.cells,cU,lj,lk]at J;rcases J with rfl|rfl<;>rfl
theorem Zq(l:List eb):(∀e∈l.map c9,e.cells.length=2)=True:=b5 λe he=>by
 obtain⟨x,_,rfl⟩:=bJ.1 he;rfl
def aBR:List cu:=[.pure 0,.pure 0,.free,.free,.free,.pure 0,.free,.free,.pure 0,.free,.eff [false,false,false,false]]
def aBS:List cu:=[.pure 0,.pure 0,.free,.pure 0,.free,.pure 0,.pure 0,.pure 0,.free,.pure 0,.pure 0,.free,.free,.pure 0,.free,.pure 0,.eff [false,true,true,true,false,false,false,false,false,false],.free]
attribute [go_sem] aBR aBS
theorem TD(f:Bool)(ps:List (Bool×List eb))(ad:ps.length<=1073741824)(hl:(hc ps ps.length).length<=4294967296)(H:ab):
  aM prog 317 [.sl f (uC ps)] H (.sl false<|(hc ps ps.length).map c9):=by
 refine aZ func317 ?_;have hle:=aQq ps;have hlen:(uC ps).length=ps.length:=by simp[uC]
 refine hH ?_;refine qD (ι:=Unit) (λ_=>[(0,.sl f<|uC ps),(3,.int .i64 (hc ps ps.length).length)]) (λ_=>H) (λ_=>True) ?_ λ_ _=>?_
 ·refine cE (ι:=Nat) (λi=>[(0,.sl f<|uC ps),(3,.int .i64 (hc ps i).length),(9,.sl f<|uC ps),(10,.int .i64 ps.length),(11,.int .i64 i)]) (λ_=>H) (λi=>i<=ps.length) (λi=>ps.length-i) 0 (bW _) ?_ rfl ?_
  ·simp[go_sem,hc]
  intro i hi;by_cases J:i<ps.length
  ·have O:=ZL J;have h1:=hle<|i+1;rw[Se J,bF]at h1;have hw:IntKind.i64.wrap (((hc ps i).length:Int)+(ps[i].2.length:Int))=((hc ps (i+1)).length:Int):=by rw[bI,Se J,bF];omega
   refine hH ?_;exact⟨i+1,J,iV,rfl,bU _<|dA J iV⟩
  ·have U:i=ps.length:=iV
   subst U;repeat' first|(refine ae ?_;simp only[go_sem])|refine ao ?_|fail
   exact⟨(),trivial⟩
 obtain⟨n,af⟩:∃n,n=(hc ps ps.length).length:=⟨_,rfl⟩;rw[<-af];rw[<-af]at hl hle;have K:=aNm n;have z:LN=.agg [.int .i64 0,.str []]:=rfl;repeat' first|(refine ae ?_;simp only[go_sem,hlen,<-z,K])|refine ao ?_|fail
 obtain⟨Z,ny⟩:∃Z,Z=List.flatMap I.cells (List.replicate n LN):=⟨_,rfl⟩;rw[<-ny]at K ⊢;refine cE (ι:=Nat) (λi=>[(3,.int .i64 (hc ps i).length),(6,.osl 2 H.length 1 0 n n),(22,.sl f<|uC ps),(23,.int .i64 ps.length),(24,.int .i64 i)]) (λi=>H++[.cells 1 (jA (hc ps i)++Z.drop ((hc ps i).length * 2))]) (λi=>i<=ps.length) (λi=>ps.length-i) 0 (bW _) ?_ ?_ ?_
 ·simp[go_sem,hc]
 ·simp[hc,jA]
 intro i hi;by_cases J:i<ps.length
 ·have O:=ZL J;have h1:=hle<|i+1;have hs:=Se J;rw[hs,bF]at h1;have hw:IntKind.i64.wrap (((hc ps i).length:Int)+(ps[i].2.length:Int))=((hc ps (i+1)).length:Int):=by rw[bI,hs,bF];omega
  have T:(jA (hc ps i)).length=(hc ps i).length * 2:=Qy _;have V:(jA ps[i].2).length=ps[i].2.length * 2:=Qy _;have dZ:dq (jA (hc ps i)++Z.drop ((hc ps i).length * 2)) ((hc ps i).length * 2) (jA ps[i].2)=jA (hc ps<|i+1)++Z.drop ((hc ps (i+1)).length * 2):=by
   rw[rS T,V,sD,hs,aNb,bF,dr,pg]
  repeat' first|(refine ae ?_;simp only[go_sem,J,O,hlen,hw,aNc,dZ,T,V,aQU,Zq,fT,K])|refine ao ?_|fail
  exact⟨i+1,J,iV,⟨rfl,bU _<|dA J iV⟩,rfl⟩
 ·have U:i=ps.length:=iV
  subst U;repeat' first|(refine ae ?_;simp only[go_sem,J])|refine ao ?_|fail
  exact uH (cs:=jA (hc ps ps.length)++Z.drop ((hc ps ps.length).length * 2)) (es:=(hc ps ps.length).map c9) (rest:=Z.drop<|(hc ps ps.length).length * 2) (bd _) nb rfl (by rw[cv,af]) (λe he=>by obtain⟨x,_,rfl⟩:=bJ.1 he;rfl) (λe he=>by obtain⟨x,_,rfl⟩:=bJ.1 he;exact nb) rfl
theorem aBT(f o:Bool)(e:List eb)(he:e.length<=1073741824)(u:Nat)(H:ab)(hu:ay H u=.cells 0 [.sl f (e.map c9),.bool o]):aM prog 318 [.ref u 0 0] H (.int .i64 ((8-e.length:Nat):Int)):=by
 refine aZ func318 ?_;have hw:max (IntKind.i64.wrap<|8-(e.length:Int)) 0=((8-e.length:Nat):Int):=by rw[bI];omega
 refine hH ?_;exact bD<|.refl _
theorem Sd(f f1:Bool)(a:List eb)(J:a.length<=1073741824)(H:ab):aM prog 317 [.sl f [.sl f1 (a.map c9)]] H (.sl false<|a.map c9):=by
 have h1:=TD f [(f1,a)] kk (by simp[hc];omega) H
 simpa[uC,hc]using h1
theorem aQo(f f1 f2:Bool)(a b:List eb)(J:a.length<=1073741824)(U:b.length<=1073741824)(H:ab):aM prog 317 [.sl f [.sl f1 (a.map c9),.sl f2<|b.map c9]] H (.sl false<|(a++b).map c9):=by
 have h1:=TD f [(f1,a),(f2,b)] kk (by simp[hc];omega) H
 simpa[uC,hc]using h1
theorem aQp(f f1 f2 f3:Bool)(a b c:List eb)(J:a.length<=1073741824)(U:b.length<=1073741824)(K:c.length<=1073741824)(H:ab):aM prog 317 [.sl f [.sl f1 (a.map c9),.sl f2<|b.map c9,.sl f3<|c.map c9]] H (.sl false<|(a++b++c).map c9):=by
 have h1:=TD f [(f1,a),(f2,b),(f3,c)] kk (by simp[hc];omega) H
 simpa[uC,hc]using h1
theorem aME(f f2 o:Bool)(e l:List eb)(he:e.length<=1073741824)(hl:l.length<=1073741824)(H:ab):aM prog 278 [.agg [.sl f (e.map c9),.bool o],.sl f2<|l.map c9] H (.agg [.sl false ((oI e o l).1.map c9),.bool (oI e o l).2]):=by
 refine aZ func278 ?_;have J:=o9 [(7,aBR)];cases o with
 |true=>
  have h1:=Sd true f e he;unfold oI;repeat' first|(refine ae ?_;simp only[go_sem])|refine ao ?_|fail
  exact aV<|.refl _
 |false=>
  have ad:oI e false l=if 8-e.length<l.length then(e++l.take (8-e.length)++[⟨9,[]⟩],true)else(e++l,false):=rfl
  have h3:=aQp true f true true e (l.take<|8-e.length) [⟨9,[]⟩] he (by rw[eK];omega) kk
  have h2:=aQo true f f2 e l he hl;have ah:List.take (8-e.length) (List.map c9 l)=List.map c9 (l.take<|8-e.length):=rI.symm;by_cases hs:8-e.length<l.length
  ·rw[ad,aA hs];have U:8-e.length<=l.length:=iV
   repeat' first|(refine ae ?_;simp only[go_sem])|refine ao ?_|fail
   refine qd (aBT f false e he H.length _ nb) aK ?_
   rintro v H' ⟨rfl,rfl⟩;simp only[go_sem];refine hH ?_;exact aV<|.refl _
  ·rw[ad,aj hs];repeat' first|(refine ae ?_;simp only[go_sem])|refine ao ?_|fail
   refine qd (aBT f false e he H.length _ nb) aK ?_
   rintro v H' ⟨rfl,rfl⟩;simp only[go_sem];refine hH ?_;exact aV<|.refl _
theorem aMj(f o:Bool)(e:List eb)(n:Int)(he:e.length<=1073741824)(H:ab):aM prog 313 [.agg [.sl f (e.map c9),.bool o],.int .i64 n] H (.aQ [.agg [.sl false ((e.drop (min n.toNat e.length)).map c9),.bool o],.sl false<|(e.take (min n.toNat e.length)).map c9]):=by
 refine aZ func313 ?_;obtain⟨k,hk⟩:∃k,k=min n.toNat e.length:=⟨_,rfl⟩;have J:min (max n 0) (e.length:Int)=(k:Int):=iV
 have U:k<=e.length:=iV
 have h1:=Sd true f (e.drop k)<|by rw[fT];omega
 have h2:=Sd true true (e.take k)<|by rw[eK];omega
 have t1:List.take k (List.map c9 e)=List.map c9 (e.take k):=rI.symm;have t2:List.drop k (List.map c9 e)=List.map c9 (e.drop k):=uY.symm;rw[<-hk];repeat' first|((first|refine mx [2] aBS ?_|refine ae ?_);simp only[go_sem,J,U,t1,t2,Zq])|refine ao ?_|fail
 exact aV<|.refl _
theorem Hx(kind:Int)(path:ag)(bV:List eb)(u:Nat)(hl:bV.length<=4294967296)(G:ab)(U:sK u bV G):
  dp prog 319 [.int .i64 kind,.str path,.ref u 0 0] G (λv K=>v=.aQ []/\K=q2 G u (bV++[⟨kind,path⟩])):=by
 refine tU func319 ?_;have gb:=U.gb;have aO:=U.aO;have O:=U.lt;have T:∀c,ay (ar G (u+1) c) u=_:=λc=>bY gb iV c
 have V:(jA bV).length=bV.length * 2:=Qy _;have Z:(∀e,e=I.agg [.int .i64 kind,.str path]->e.cells.length=2)=True:=b5 λe he=>by rw[he];rfl
 have z:((bV.length+1) * 24<=140737488355328)=True:=b5 iV
 have dZ:dq [I.osl 2 (u+1) (bV.length+1) 0 bV.length bV.length] 0 [.osl 2 (u+1) (bV.length+2) 0 (bV.length+1) (bV.length+1)]=[.osl 2 (u+1) (bV.length+2) 0 (bV.length+1) (bV.length+1)]:=rfl;have xi:ar (ar G (u+1)<|.cells (bV.length+2) (jA bV++[.int .i64 kind,.str path])) u (.cells 0 [.osl 2 (u+1) (bV.length+2) 0 (bV.length+1) (bV.length+1)])=q2 G u (bV++[⟨kind,path⟩]):=by
  unfold q2;rw[aNa,bF];rfl
 repeat' first|(refine ae ?_;simp only[go_sem,gb,aO,T,V,Z,z,dZ])|refine ao ?_|fail
 rw[xi];exact⟨_,[],.aQ [],(cA _).symm,by rw[LM];exact bd _,by rw[LM];exact ZA _ O,.cl _<|.aQ _ λ_ _ J=>by simp at J,rfl,rfl⟩
theorem aQ5(l:List eQ):∀e∈l.map dL,b6 e:=λe he=>by obtain⟨x,_,rfl⟩:=bJ.1 he;exact nb
theorem aQd(k:Nat)(b:Bool)(l:List eQ):cM k (.sl b<|l.map dL):=(b6.sl b _ (aQ5 l)).cl k
theorem aMN(b:Bool)(l:List eQ)(H:ab):aM prog 320 [.sl b (l.map dL)] H (.func (.func 331) [] [.cptr [.sl b (l.map dL)]]):=by
 refine aZ func320 ?_;refine aW ?_;refine⟨_,_,rfl,?_,rfl⟩;refine .func _ _ _ _ _ rfl rfl fw<|dj (Dj (bd _) nb ?_) fw
 simp only[dF,forall_eq];exact aQd _ _ _
theorem aMM(b:Bool)(l:List eQ)(y:Nat)(J:Nat->ab->Prop)(T:∀i (h:i<l.length) G,J (i+1) G->sJ prog y [.int .i64 i,dL l[i]] G (λv U=>v=.bool true/\J i U))(hl:l.length<=4294967296)(H:ab)(aw:J l.length H):
  dp prog 331 [.func (.yield y) [] [],.cptr [.sl b (l.map dL)]] H (λ_ G=>J 0 G):=by
 refine p3 func331 ?_;have hw:IntKind.i64.wrap ((l.length:Int)-1)=(l.length:Int)-1:=bI;refine hH ?_;refine cE (ι:=Int×ab) (λs=>[(0,.func (.yield y) [] []),(1,.cptr [.sl b (l.map dL)]),(3,.int .i64 s.1)]) (λs=>s.2) (λs=>∃k:Nat,s.1=(k:Int)-1/\k<=l.length/\J k s.2) (λs=>(s.1+1).toNat) ((l.length:Int)-1,H) ⟨l.length,rfl,bd _,aw⟩ ?_ rfl ?_
 ·simp[go_sem]
 rintro⟨v,G⟩ ⟨k,V,hk,gP⟩;simp only at V hk gP ⊢;cases k with
 |zero=>
  have K:v= -1:=iV
  subst K;repeat' first|(refine ae ?_;simp only[go_sem])|refine ao ?_|fail
  exact gP
 |succ i=>
  have K:v=(i:Int):=iV
  subst K;have Z:(l.map dL).getD i .top=dL l[i]:=by simp[show i<l.length from hk]
  have O:decide (0<=(i:Int))=true:=cK;have I:IntKind.i64.wrap ((i:Int)-1)=(i:Int)-1:=bI;have z:=T i hk G gP;repeat' first|(refine ae ?_;simp only[go_sem,Z,O,dL,hk])|refine ao ?_|fail
  refine Km z ?_;rintro v U ⟨rfl,HM⟩;simp only[go_sem];repeat' first|(refine ae ?_;simp only[go_sem,I])|refine ao ?_|fail
  exact⟨((i:Int)-1,U),⟨i,rfl,iV,HM⟩,by simp only;omega,rfl,rfl⟩
theorem Ti{l:List Int}(h:has i=l):kY has i l=has:=funext λj=>by
 by_cases e:j=i
 ·subst e;rw[mb,h]
 ·exact j7 _ e _
theorem eP.one(c:eP x){t':bz}(ah:x.aC[who]?=some t)(hw:∀w∈x.t.waits,w.aU≠who)(I:iE x.g who=false)(h1:t'.call=t.call)(h2:t'.has=t.has)(h3:t'.done=true)(h4:t'.ended=true->t'.has=[])
  (z:0<=t'.upto/\t'.upto<=y.ops.length) (db:t'.call.kind=12->t'.ended=true->t'.ec.err=0->t'.upto<=y.g.kept) (K:y.aC=x.aC.set who t') (O:y.t=x.t) (T:y.g=x.g) (oW:fk y.m) (ql:y.ops.length<=y.m.log.entries.length+2000) (hle:x.ops.length<=y.ops.length)
  (vS:∀(i:Nat) t2,i≠who->x.aC[i]?=some t2->oG y.m.log.nodes t2) (l5:∀w∈x.t.waits,∀(i:Nat),w.aU=i->i≠who->∀t2,x.aC[i]?=some t2->ev y.m.log.nodes t2=⟨1,w.lock⟩):eP y:=by
 have hi:=(cj.1 ah).1;have hm:∀t2∈y.aC,t2=t'\/∃i:Nat,i≠who/\x.aC[i]?=some t2:=λt2 h=>by
  rw[K]at h;obtain⟨i,V⟩:=List.getElem?_of_mem h;rw[wH]at V;split at V
  ·exact .inl (qP V).symm
  ·rename_i e;exact .inr ⟨i,λal=>e al.symm,V⟩
 have vL:=ds ah;refine⟨oW,λt2 h=>?_,by rw[K,kB];exact c.n,?_,λt2 h=>?_,λw h i e t2 Z=>?_,by rw[T];exact c.Ah,λw h=>?_,?_,λt2 h=>?_,λt2 h=>?_,ql⟩
 ·rcases hm t2 h with rfl|⟨i, -,J⟩
  ·rw[h1];exact c.cs t vL
  ·exact c.cs t2<|ds J
 ·rw[K,O,kB,xY hi,Ti<|by rw[h2];exact pT ah];exact c.hN
 ·rcases hm t2 h with rfl|⟨i,U,J⟩
  ·exact oG.rW h3 h4
  ·exact vS i t2 U J
 ·rw[O]at h;have U:who≠i:=λal=>hw w h<|by rw[e,al]
  rw[K,gC U]at Z;exact l5 w h i e (ka U) t2 Z
 ·rw[T]at h ⊢;obtain⟨i,t2,aP,aR,bH⟩:=c.oS w h;have U:who≠i:=λal=>El.1 I w h<|by rw[aP,al]
  exact⟨i,t2,aP,by rw[K,gC U];exact aR,bH⟩
 ·rw[T];have:=c.kt;omega
 ·rcases hm t2 h with rfl|⟨i, -,J⟩
  ·exact z
  ·have:=c.up t2<|ds J;omega
 ·rcases hm t2 h with rfl|⟨i, -,J⟩
  ·exact db
  ·rw[T];exact c.A7 t2<|ds J
theorem eP.leave(c:eP x)(ah:x.aC[who]?=some t)(hw:∀w∈x.t.waits,w.aU≠who)(J:iE x.g who=false)(af:ev x.m.log.nodes t=⟨5,k⟩):eP (zJ who x):=by
 obtain⟨-,h2,h3,h4,U⟩:=Wi af;have K:=ds ah;unfold zJ;rw[nK ah];have he:({dt t ⟨5,0⟩with end_:=x.time}:bz)={t with ended:=true,end_:=x.time}:=rfl
 rw[he];exact c.one (t':={t with ended:=true,end_:=x.time}) ah hw J rfl rfl h3 (λ_=>h4) (c.up t K) (λh=>absurd h U) rfl rfl rfl c.hT c.ops (bd _) (λi t2 _ h=>c.kA t2 (ds h)) λw h i e _ t2 O=>c.wt w h i e t2 O
theorem eP.wait(c:eP x)(ah:x.aC[who]?=some t)(hw:∀w∈x.t.waits,w.aU≠who)(J:iE x.g who=false)(af:ev x.m.log.nodes t=⟨4,k⟩):eP (wY who t x):=by
 obtain⟨-,h2,h3,h4,K⟩:=aLq af;have O:=ds ah;unfold wY wx;by_cases hu:t.upto<=x.g.kept
 ·rw[aA hu];simp only[dG];have e:my x.time x.aC who=x.aC.set who (vj x.time t):=nK ah _;rw[e];exact c.one (t':=vj x.time t) ah hw J rfl rfl h3 (λ_=>h4) (c.up t O) (λ_ _ _=>hu) rfl rfl rfl c.hT c.ops (bd _) (λi t2 _ h=>c.kA t2 (ds h)) λw h i e _ t2 T=>c.wt w h i e t2 T
 ·rw[aj hu,J];simp only[mE,gz];refine⟨c.hT,c.cs,c.n,c.hN,c.kA,c.wt,?_,λw h=>?_,c.kt,c.up,c.A7,c.ops⟩
  ·rw[List.pairwise_append];refine⟨c.Ah,List.pairwise_singleton _ _,λa V b U=>?_⟩
   rw[dF]at U;subst U;exact El.1 J a V
  ·rw[e4,dF]at h;rcases h with h|rfl
   ·exact c.oS w h
   ·exact⟨who,t,rfl,ah,h3,h2,K,h4,rfl,by simp only;omega⟩
theorem aRZ{l:List aE}{names:List ag}{here i:Int}{s:ag}(h:t.has=[here])(aw:0<=t.at_)(hs:names[t.at_.toNat]?=some s)(J:jy l here s=some i)(hd:dm i=true):uW l names t=⟨1,i⟩:=by
 unfold uW;rw[h];simp only[aA aw,hs,fZ];unfold jy at J;obtain⟨n,af,rfl⟩:=hC.1 J;rw[af];simp only[aA hd]
theorem aRT{has:List Int}(h:has++[k]<+:bM)(hk:k∉has):nP has bM=⟨1,k⟩:=by
 obtain⟨r,rfl⟩:=h;rw[dr,Xr _ _ λy h=>h,J1,Og<|by simpa using hk]
theorem Ze(c:eP x)(ah:x.aC[who]?=some t){O:List aE}{ops:List aX}(Z:mg O)(T:zr x.m.log.nodes t O ops)(aN:i≠who)(h2:x.aC[i]?=some t2):
  oG O t2/\∀k,ev x.m.log.nodes t2=⟨1,k⟩->ev O t2=⟨1,k⟩:=by
 have I:=c.hT.nodes.l0;have hw:=c.kA t2<|ds h2;have hi:=(cj.1 h2).1;have Mv:=(cj.1 ah).1;have z:∀k,k∈t2.has->k∉t.has:=λk hk ee=>aN<|c.hN.Ss hi Mv (by rw[pT h2];exact hk) (by rw[pT ah];exact ee)
 -- the locks of one that turns the tree, and has some
 have EY:t2.done=false->fQ t2.call=true->t2.has<+:iq O t2.call/\∀k,t2.has++[k]<+:iq x.m.log.nodes t2.call->t2.has++[k]<+:iq O t2.call:=λhd U=>by
  have ad:=hw.nO hd U;by_cases V:fQ t.call=false
  ·have:=aLj I Z T V t2.call;exact⟨ad.trans this,λk hk=>hk.trans this⟩
  ·have Cz:(1:Int)∈t.has\/O=x.m.log.nodes:=by
    cases T with
    |none h=>exact .inr h
    |born o n hk ad af ah=>exact absurd ah V
    |wrote o hk aD n af ad ah=>exact absurd ah V
    |fJ o hk n af ad aJ ah h1=>exact .inl h1
   rcases Cz with h1|h1
   ·have he:t2.has=[]:=by
     cases K:t2.has with
     |nil=>rfl
     |cons a r=>
      rw[K]at ad;have:a=1:=(List.cons_prefix_cons.1 ad).1;exact absurd h1<|z 1 (by rw[K,this];simp)
    rw[he];refine⟨List.nil_prefix,λk hk=>?_⟩
    have:k=1:=(List.cons_prefix_cons.1 hk).1;subst this;exact⟨_,rfl⟩
   ·rw[h1];exact⟨ad,λ_ h=>h⟩
 refine⟨⟨hw.ended,hw.walk,λhd U=>(EY hd U).1,hw.plain⟩,λk af=>?_⟩
 have J:=uz x.m.log.nodes t2;rw[af]at J;generalize hu:(⟨1,k⟩:eZ)=u at J;cases J with
 |none=>cases hu
 |back=>cases hu
 |wait=>cases hu
 |leave=>cases hu
 |plain=>cases hu
 |nO hd he U=>
  obtain⟨aP,aR⟩:=Pp (OP _ _) (hw.nO hd U) hu.symm;unfold ev;rw[aj (by simp[he]),aj (by simp[hd]),aA U]
  exact(aRT ((EY hd U).2 k aR) aP).trans hu
 |walk _ hd he U jH hs=>
  unfold ev;rw[aj (by simp[he]),aj (by simp[hd]),aj (by simp[U]),aA jH]
  cases hs with
  |root K=>cases hu;unfold uW;rw[K]
  |down here j s K aw hs au n8=>
   cases hu;have LU:=((hw.walk hd jH).2.2.2.2 here (by rw[K];simp)).2.1
   exact aRZ K aw hs (by rw[aLi I Z T (z here<|by rw[K];simp) LU];exact au) n8
  |pass=>cases hu
  |vl=>cases hu
  |here=>cases hu
theorem eP.aMt(c:eP x)(ah:x.aC[who]?=some t)(hw:∀w∈x.t.waits,w.aU≠who)(T:iE x.g who=false)(af:ev x.m.log.nodes t=⟨3,0⟩)(hk:t.call.kind≠13\/(er x.m t.call).2.1.err≠0):eP (j1 who x<|er x.m t.call):=by
 obtain⟨he,hd⟩:=Qb af;have J:=Qj c.hT t.call;have K:=aLh c.hT hd af hk;have hl:=P5 c.hT t.call;unfold j1;rw[nK ah];refine c.one (t':=Ew x (er x.m t.call) t) ah hw T rfl rfl rfl (λh=>?_) ?_ (λ_ h=>?_) rfl rfl rfl J ?_ ?_ (λi t2 U h=>(Ze c ah J.nodes.l0 K U h).1) (λw h i e U t2 O=>(Ze c ah J.nodes.l0 K U O).2 _<|c.wt w h i e t2 O)
 ·have:t.ended=true:=h;rw[he]at this;cases this
 ·exact⟨by show(0:Int)<=((x.ops++(er x.m t.call).2.2).length:Int);omega,jP _⟩
 ·have:t.ended=true:=h;rw[he]at this;cases this
 ·have:=c.ops;simp only[bF];omega
 ·simp only[bF];omega
def jL(t:bz):Bool:=hA t.call&& !t.done
theorem aBq(who n)(t):BM who n t=(!decide (n=who)&&jL t):=by unfold BM jL;rw[Bool.and_assoc]
def nm(a b:bz):Prop:=b.call=a.call/\b.done=a.done/\b.ended=a.ended/\b.upto=a.upto/\b.ec=a.ec/\b.mm=a.mm/\b.mark=a.mark/\b.end_=a.end_
theorem nm.refl(a):nm a a:=⟨rfl,rfl,rfl,rfl,rfl,rfl,rfl,rfl⟩
theorem nm.trans{b c:bz}(h:nm a b)(k:nm b c):nm a c:=by
 grind [bz,nm]
theorem Zg(t)(k):nm t (dt t ⟨1,k⟩):=by
 obtain⟨-,a2,a3,a4,a5,J,U,K,a9, -⟩:=C2 t k;exact⟨a2,a3,a4,a5,J,U,K,a9⟩
theorem nm.late{b:bz}(h:nm a b):jL b=jL a:=by unfold jL;rw[h.1,h.2.1]
theorem aNy{l:List bz}(e:w.aU=j)(h:l[j]?=some t):mf l w=l.set j (dt t ⟨1,w.lock⟩):=by
 unfold mf;rw[e];exact nK h _
theorem QH:∀(g:List dx) (l:List bz),(∀h∈g,∃j:Nat,h.aU=(j:Int)/\j<l.length)->
  (g.foldl mf l).length=l.length/\jj (g.foldl mf l)=Ja (jj l) g/\∀(i:Nat) t',(g.foldl mf l)[i]?=some t'->∃t,l[i]?=some t/\nm t t'/\(t'=t\/∃h∈g,h.aU=(i:Int))/\∀k∈t'.has,k∈t.has\/∃h∈g,h.lock=k
 |[],l,_=>⟨rfl,rfl,λi t' h=>⟨t',h,nm.refl _,.inl rfl,λk hk=>.inl hk⟩⟩
 |w::g,l,K=>by
  obtain⟨j,e,U⟩:=K w kk
  have ah:=da U;have ar:=aNy e ah;obtain⟨aP,O,T⟩:=QH g (mf l w) λh V=>kr
  rw[mG];refine⟨aP.trans kr,?_,λi t' h=>?_⟩
  ·rw[O];show Ja (jj<|mf l w) g=Ja (kY (jj l) w.aU.toNat<|jj l w.aU.toNat++[w.lock]) g;rw[ar,xY U,(C2 _ _).1,e,e5,pT ah]
  ·obtain⟨t1,h1,h2,h3,h4⟩:=T i t' h;rw[ar,wH]at h1;split at h1
   ·rename_i al;subst al;cases h1;refine⟨_,ah,(Zg _ _).trans h2,.inr ⟨w,kk,e⟩,λk hk=>?_⟩
    rcases h4 k hk with q|⟨v,J,q⟩
    ·rw[(C2 _ _).1,e4,dF]at q;rcases q with q|q
     ·exact .inl q
     ·exact .inr ⟨w,kk,q.symm⟩
    ·exact .inr ⟨v,by simp[J],q⟩
   ·refine⟨t1,h1,h2,?_,λk hk=>?_⟩
    ·rcases h3 with h3|⟨v,J,q⟩
     ·exact .inl h3
     ·exact .inr ⟨v,by simp[J],q⟩
    ·rcases h4 k hk with q|⟨v,J,q⟩
     ·exact .inl q
     ·exact .inr ⟨v,by simp[J],q⟩
structure wK (who:Nat) (lX:List bz) (yd:List dx) (n:Nat) (s:fl×List bz):Prop where
 len:s.2.length=lX.length
 hN:gV s.1 lX.length (jj s.2)
 qH:∀(i:Nat) t',s.2[i]?=some t'->∃t,lX[i]?=some t/\nm t t'/\(i≠who->jL t=true->(i<n->t'.has=[]/\t'.at_=0)/\∀k∈t'.has,k≠1)/\(i=who\/jL t=false->t'=t)
 wt:∀w∈s.1.waits,w∈yd/\∀(i:Nat) t,w.aU=(i:Int)->lX[i]?=some t->i≠who->jL t=true->n<=i
theorem wK.step{J:List bz}{T:List dx}{s:fl×List bz}(h:wK who J T n s)(af:n<J.length)
  (gh:∀w∈T,w.aU≠who/\∀(i:Nat) t,w.aU=i->J[i]?=some t->jL t=false->w.lock=1):wK who J T (n+1) (lR who s n):=by
 have Cs:n<s.2.length:=by rw[h.len];exact af
 have ah:=da Cs;obtain⟨t,aw,h1,h2,h3⟩:=h.qH n _ ah;unfold lR;rw[aBq,et,ah,pW];by_cases hl:(!decide (n=who)&&jL s.2[n])=true
 ·rw[aA hl];simp only[cV,sB,wG]at hl;obtain⟨aN,V⟩:=hl;have U:jL t=true:=by rw[<-h1.late];exact V
  obtain⟨-,ed⟩:=h2 aN U;obtain⟨d1,d2,d3⟩:=h.hN.drop af;rw[pT ah]at d2;generalize hs:s.2[n]=t0 at *;rw[nK ah];have s6:(pR t0).has=[]:=rfl;have ar:=xY (t:=pR t0) Cs;rw[s6]at ar;rw[<-ar]at d1;have RD:∀w∈(kH s.1 n).2,∃j:Nat,w.aU=j/\j<(s.2.set n (pR t0)).length:=λw hw=>by
   obtain⟨j,aP,K, -⟩:=d2 w hw;exact⟨j,aP,by rw[kB,h.len];exact K⟩
  obtain⟨g1,g2,g3⟩:=QH (kH s.1 n).2 (s.2.set n<|pR t0) RD
  -- who gets a lock is on its way, and has not begun anew yet
  have ay:∀w∈(kH s.1 n).2,∀(i:Nat) t,w.aU=i->J[i]?=some t->i≠n/\i≠who/\jL t=true/\n<=i/\w.lock≠1:=λw hw i t e hi=>by
   obtain⟨j,aP,K,bH,cC,ez⟩:=d2 w hw;have:j=i:=iV
   subst this;obtain⟨Z,I⟩:=h.wt w cC;obtain⟨v1,v2⟩:=gh w Z;have fH:=ed _ ez;have Az:jL t=true:=by
    cases V:jL t with
    |true=>rfl
    |false=>exact absurd (v2 j t e hi V) fH
   have yL:j≠who:=λal=>v1<|by rw[e,al]
   exact⟨bH,yL,Az,I j t e hi yL Az,fH⟩
  refine⟨by rw[g1,kB];exact h.len,by rw[g2];exact d1,λi t' hi=>?_,λw hw=>?_⟩
  ·obtain⟨t1,O,a2,a3,a4⟩:=g3 i t' hi;rw[wH]at O;split at O
   ·rename_i e;subst e;cases O;have s8:=λw hw e=>(ay w hw n t e aw).1 rfl
    have av:t'=pR t0:=by
     rcases a3 with a3|⟨w,hw,q⟩
     ·exact a3
     ·exact absurd q<|s8 w hw
    subst av;refine⟨t,aw,h1.trans ⟨rfl,rfl,rfl,rfl,rfl,rfl,rfl,rfl⟩,λ_ _=>⟨λ_=>⟨rfl,rfl⟩,λk hk=>by cases hk⟩,λq=>?_⟩
    rcases q with q|q
    ·exact absurd q aN
    ·rw[U]at q;cases q
   ·rename_i e;obtain⟨t2,aO,bo,hG,gW⟩:=h.qH i t1 O;refine⟨t2,aO,bo.trans a2,λc1 c2=>⟨λz=>?_,λk hk=>?_⟩,λq=>?_⟩
    ·have H5:i<n:=iV
     have av:t'=t1:=by
      rcases a3 with a3|⟨w,hw,q⟩
      ·exact a3
      ·have:=(ay w hw i t2 q aO).2.2.2.1;omega
     rw[av];exact(hG c1 c2).1 H5
    ·rcases a4 k hk with q|⟨w,hw,q⟩
     ·exact(hG c1 c2).2 k q
     ·obtain⟨j,aP,K, -⟩:=d2 w hw;rw[<-q];exact(ay w hw j _ aP (da K)).2.2.2.2
    ·have av:t'=t1:=by
      rcases a3 with a3|⟨w,hw,j5⟩
      ·exact a3
      ·obtain⟨-,jO,z2, -⟩:=ay w hw i t2 j5 aO;rcases q with q|q
       ·exact absurd q jO
       ·rw[z2]at q;cases q
     rw[av];exact gW q
  ·obtain⟨Z,I⟩:=d3 w hw;obtain⟨v1,v2⟩:=h.wt w Z;refine⟨v1,λi t3 e hi c1 c2=>?_⟩
   have:=v2 i t3 e hi c1 c2;have z:i≠n:=λal=>I<|by rw[e,al]
   omega
 ·rw[aj hl];refine⟨h.len,h.hN,λi t' hi=>?_,λw hw=>?_⟩
  ·obtain⟨t2,aO,bo,hG,gW⟩:=h.qH i t' hi;refine⟨t2,aO,bo,λc1 c2=>⟨λz=>?_,(hG c1 c2).2⟩,gW⟩
   by_cases e:i=n
   ·subst e;rw[ah]at hi;cases hi;rw[aw]at aO;cases aO;exact absurd (by rw[h1.late,c2];simp[c1]) hl
   ·exact(hG c1 c2).1 iV
  ·obtain⟨v1,v2⟩:=h.wt w hw;refine⟨v1,λi t3 e hi c1 c2=>?_⟩
   have:=v2 i t3 e hi c1 c2;have z:i≠n:=λal=>by
    subst al;rw[aw]at hi;cases hi;exact hl<|by rw[h1.late,c2];simp[c1]
   omega
theorem wK.all{who:Nat}{J:List bz}{U:List dx}{s:fl×List bz}(h:wK who J U 0 s)
  (K:∀w∈U,w.aU≠who/\∀(i:Nat) t,w.aU=(i:Int)->J[i]?=some t->jL t=false->w.lock=1):∀k,k<=J.length->wK who J U k ((List.range k).foldl (lR who) s)
 |0,_=>h
 |k+1,hk=>by
  rw[zp,u0];exact(wK.all h K k iV).step iV K
theorem Te(c:eP x)(ah:x.aC[who]?=some t)(h1:1∈t.has)(T:i≠who)(h2:x.aC[i]?=some t2)(hd:t2.done=false)(U:fQ t2.call=true):t2.has=[]/\∀k,ev x.m.log.nodes t2=⟨1,k⟩->k=1:=by
 have ad:=(c.kA t2 (ds h2)).nO hd U;have he:t2.has=[]:=by
  cases K:t2.has with
  |nil=>rfl
  |cons a r=>
   rw[K]at ad;have:=(List.cons_prefix_cons.1 ad).1;exact absurd (c.hN.Ss (k:=1) (cj.1 h2).1 (cj.1 ah).1 (by rw[pT h2,K,this];simp)<|by rw[pT ah];exact h1) T
 refine⟨he,λk hk=>?_⟩
 have J:=uz x.m.log.nodes t2;rw[hk]at J;generalize hu:(⟨1,k⟩:eZ)=u at J;cases J with
 |none=>cases hu
 |back=>cases hu
 |wait=>cases hu
 |leave=>cases hu
 |plain=>cases hu
 |nO=>
  have:=(Pp (OP _ _) ad hu.symm).2;rw[he]at this;exact(List.cons_prefix_cons.1 this).1
 |walk _ _ _ O=>rw[U]at O;cases O
theorem aRU{l:List aE}(he:t.ended=false)(hd:t.done=false)(J:fQ t.call=true)(U:t.has=[]):ev l t=⟨1,1⟩:=by
 unfold ev;rw[aj kr,aj kr,aA J,U]
 rfl
theorem aQC(c:eP x){t1:bz}(ah:x.aC[who]?=some t)(hw:∀w∈x.t.waits,w.aU≠who)(af:ev x.m.log.nodes t=⟨3,0⟩)(hk:t.call.kind=13)(d1:t1.has=t.has):
  (∀w∈x.t.waits,w.aU≠who/\∀(i:Nat) t2,w.aU=i->(x.aC.set who t1)[i]?=some t2->jL t2=false->w.lock=1)/\wK who (x.aC.set who t1) x.t.waits (x.aC.set who t1).length ((List.range (x.aC.set who t1).length).foldl (lR who) (x.t,x.aC.set who t1)):=by
 obtain⟨he,hd⟩:=Qb af;have hi:=(cj.1 ah).1;have z:fQ t.call=true:=by unfold fQ;rw[hk];rfl
 have h1:=(PL hd af).1 z 1<|by simp[iq]
 have V:∀i t2,(x.aC.set who t1)[i]?=some t2->(i=who/\t2=t1)\/(i≠who/\x.aC[i]?=some t2):=λi t2 h=>by
  grind
 have Z:∀w∈x.t.waits,w.aU≠who/\∀(i:Nat) t2,w.aU=i->(x.aC.set who t1)[i]?=some t2->jL t2=false->w.lock=1:=λw K=>by
  refine⟨hw w K,λi t2 e h hl=>?_⟩
  rcases V i t2 h with⟨al, -⟩|⟨O,h⟩
  ·exact absurd (by rw[e,al])<|hw w K
  ·have T:=c.wt w K i e t2 h;obtain⟨aP,I, -⟩:=zK c.hT.nodes.l0 (c.kA t2<|ds h) T;have jH:=by unfold jL at hl;rw[I]at hl;simpa using hl
   have jq:=by
    have J:=uz x.m.log.nodes t2;rw[T]at J;generalize hu:(⟨1,w.lock⟩:eZ)=u at J;cases J with
    |none=>cases hu
    |back=>cases hu
    |wait=>cases hu
    |leave=>cases hu
    |plain=>cases hu
    |nO _ _ h=>exact h
    |walk _ _ _ _ h=>rw[jH]at h;cases h
   exact(Te c ah h1 O h I jq).2 _ T
 have aw:wK who (x.aC.set who t1) x.t.waits 0 (x.t,x.aC.set who t1):=by
  refine⟨rfl,?_,λi t' h=>⟨t',h,nm.refl _,λO U=>⟨λh=>absurd h<|Nat.not_lt_zero _,λk hk=>?_⟩,λ_=>rfl⟩,λw hw=>⟨hw,λ_ _ _ _ _ _=>bW _⟩⟩
  ·rw[kB,xY hi,Ti<|by rw[d1];exact pT ah];exact c.hN
  ·rcases V i t' h with⟨al, -⟩|⟨-,h⟩
   ·exact absurd al O
   ·unfold jL at U;simp only[cV,sB]at U;exact(((c.kA t' (ds h)).walk U.2 U.1).2.2.2.2 k hk).1
 exact⟨Z,wK.all aw Z _<|bd _⟩
theorem eP.merge(c:eP x)(ah:x.aC[who]?=some t)(hw:∀w∈x.t.waits,w.aU≠who)(aL:iE x.g who=false)(af:ev x.m.log.nodes t=⟨3,0⟩)(hk:t.call.kind=13):eP (zT who<|j1 who x (er x.m t.call)):=by
 obtain⟨he,hd⟩:=Qb af;have hi:=(cj.1 ah).1;have oW:=Qj c.hT t.call;have hl:=P5 c.hT t.call;have h8:fQ t.call=true:=by unfold fQ;rw[hk];rfl
 have h1:=(PL hd af).1 h8 1<|by simp[iq]
 have lI:=oW.nodes.l0;unfold zT j1;rw[nK ah];generalize az:er x.m t.call=r at *;obtain⟨t1,Cz⟩:∃t1,Ew x r t=t1:=⟨_,rfl⟩;have d1:t1.call=t.call/\t1.has=t.has/\t1.done=true/\t1.ended=t.ended/\t1.upto=((x.ops++r.2.2).length):=by rw[<-Cz];exact⟨rfl,rfl,rfl,rfl,rfl⟩
 rw[Cz];simp only;have hlen:(x.aC.set who t1).length=x.aC.length:=kB;have Z:∀i t2,(x.aC.set who t1)[i]?=some t2->(i=who/\t2=t1)\/(i≠who/\x.aC[i]?=some t2):=λi t2 h=>by
  grind
 obtain⟨gh,bZ⟩:=aQC c ah hw af hk d1.2.1;generalize(List.range (x.aC.set who t1).length).foldl (lR who) (x.t,x.aC.set who t1)=s at *;obtain⟨z,a2,a3,a4⟩:=bZ;rw[hlen]at z a2 a3 a4;have hm:∀t'∈s.2,∃(i:Nat) (t2:bz),s.2[i]?=some t'/\(x.aC.set who t1)[i]?=some t2/\nm t2 t':=λt' h=>by
  obtain⟨i,I⟩:=List.getElem?_of_mem h;obtain⟨t2,aP,U, -⟩:=a3 i t' I;exact⟨i,t2,I,aP,U⟩
 -- what another thread is behind it
 have k6:∀(i) t',s.2[i]?=some t'->i≠who->∃t2,x.aC[i]?=some t2/\nm t2 t'/\(jL t2=true->t'.has=[]/\t'.at_=0)/\(jL t2=false->t'=t2):=λi t' h O=>by
  obtain⟨t2,aP,U,K,V⟩:=a3 i t' h;rcases Z i t2 aP with⟨e, -⟩|⟨-,aP⟩
  ·exact absurd e O
  ·exact⟨t2,aP,U,λhl=>(K O hl).1 (cj.1 aP).1,λhl=>V<|.inr hl⟩
 have RI:∀t',s.2[who]?=some t'->t'=t1:=λt' h=>by
  obtain⟨t2,aP,U,K,V⟩:=a3 who t' h;rcases Z who t2 aP with⟨-,e⟩|⟨O, -⟩
  ·rw[V (.inl rfl),e]
  ·exact absurd rfl O
 refine⟨oW,λt' h=>?_,by show s.2.length<=40;rw[z];exact c.n,by show gV s.1 s.2.length (jj s.2);rw[z];exact a2,λt' h=>?_,λw gQ i e t' h=>?_,c.Ah,λw h=>?_,?_,λt' h=>?_,λt' h=>?_,?_⟩
 ·obtain⟨i,t2,aP,U,K⟩:=hm t' h;rw[K.1];rcases Z i t2 U with⟨-,e⟩|⟨-,U⟩
  ·rw[e,d1.1];exact c.cs t<|ds ah
  ·exact c.cs t2<|ds U
 ·obtain⟨i,I⟩:=List.getElem?_of_mem h;by_cases O:i=who
  ·subst O;rw[RI t' I];exact oG.rW d1.2.2.1 λh=>by rw[d1.2.2.2.1,he]at h;cases h
  ·obtain⟨t2,aP,U,K,V⟩:=k6 i t' I O;have dI:=c.kA t2<|ds aP;cases T:jL t2 with
   |true=>
    obtain⟨aO,bo⟩:=K T;have jH:=by unfold jL at T;simp only[cV]at T;exact T.1
    refine⟨λh=>?_,λ_ _=>?_,λ_ h=>?_,λ_ h=>?_⟩
    ·rw[U.2.2.1]at h;exact⟨by rw[U.2.1];exact(dI.ended h).1,aO⟩
    ·rw[aO,bo];exact⟨bW _,jP 0,l9,λ_=>rfl,λk hk=>(by cases hk)⟩
    ·rw[U.1,VV jH]at h;cases h
    ·rw[U.1,jH]at h;cases h
   |false=>
    rw[V T];refine⟨dI.ended,dI.walk,λiz jq=>?_,dI.plain⟩
    rw[(Te c ah h1 O aP iz jq).1];exact List.nil_prefix
 ·obtain⟨cP,dE⟩:=a4 w gQ;have O:i≠who:=λal=>hw w cP<|by rw[e,al]
  obtain⟨t2,aP,U,K,V⟩:=k6 i t' h O;have qp:(x.aC.set who t1)[i]?=some t2:=by rw[gC (ka O)];exact aP
  have hS:=(cj.1 aP).1;have T:jL t2=false:=by
   cases T:jL t2 with
   |false=>rfl
   |true=>have:=dE i t2 e qp O T;omega
  rw[V T];have nB:=c.wt w cP i e t2 aP;obtain⟨cq,cT, -⟩:=zK c.hT.nodes.l0 (c.kA t2<|ds aP) nB;have ed:=(gh w cP).2 i t2 e qp T;have J:=uz x.m.log.nodes t2;rw[nB]at J;have jq:fQ t2.call=true:=by
   generalize hu:(⟨1,w.lock⟩:eZ)=u at J;cases J with
   |none=>cases hu
   |back=>cases hu
   |wait=>cases hu
   |leave=>cases hu
   |plain=>cases hu
   |nO _ _ h=>exact h
   |walk _ _ _ _ h=>unfold jL at T;rw[h,cT]at T;cases T
  rw[ed];exact aRU cq cT jq (Te c ah h1 O aP cT jq).1
 ·obtain⟨i,t2,aP,U,K⟩:=c.oS w h;have O:i≠who:=λal=>El.1 aL w h<|by rw[aP,al]
  have hS:i<s.2.length:=by rw[z];exact(cj.1 U).1
  obtain⟨t3,aO,bo,hG,gW⟩:=k6 i _ (da hS) O;rw[U]at aO;cases aO;have T:jL t2=false:=by unfold jL;rw[K.1];simp
  refine⟨i,t2,aP,?_,K⟩;rw[<-gW T];exact da hS
 ·have:=c.kt;show 0<=x.g.kept/\x.g.kept<=((x.ops++r.2.2).length);rw[bF];omega
 ·obtain⟨i,t2,aP,U,K⟩:=hm t' h;rw[K.2.2.2.1];rcases Z i t2 U with⟨-,e⟩|⟨-,U⟩
  ·rw[e,d1.2.2.2.2];exact⟨iV,jP _⟩
  ·have:=c.up t2<|ds U;show 0<=t2.upto/\t2.upto<=((x.ops++r.2.2).length);rw[bF];omega
 ·obtain⟨i,t2,aP,U,K⟩:=hm t' h;rw[K.1,K.2.2.1,K.2.2.2.1,K.2.2.2.2.1];rcases Z i t2 U with⟨-,e⟩|⟨-,U⟩
  ·intro _ h;rw[e,d1.2.2.2.1,he]at h;cases h
  ·exact c.A7 t2<|ds U
 ·have:=c.ops;show(x.ops++r.2.2).length<=r.1.log.entries.length+2000;rw[bF];omega
theorem eP.nO(c:eP x)(ah:x.aC[who]?=some t)(he:t.ended=false)(hw:∀w∈x.t.waits,w.aU≠who)(J:iE x.g who=false):eP (nJ who t (ev x.m.log.nodes t) x):=by
 have key:∀u,ev x.m.log.nodes t=u->(u.kind=1\/u.kind=2\/u=⟨3,0⟩\/u.kind=4\/u.kind=5)->eP (nJ who t u x):=by
  rintro⟨a,k⟩ hu hk;unfold nJ;by_cases k1:a=1
  ·subst k1;exact c.take ah hw J hu
  rw[aj k1];by_cases k2:a=2
  ·subst k2;exact c.aNx ah hw J hu
  rw[aj k2];by_cases k3:a=3
  ·subst k3;have O:k=0:=kr
   subst O;rw[aA rfl];unfold yt;split
   ·rename_i h;exact c.merge ah hw J hu h.1
   ·rename_i h;refine c.aMt ah hw J hu ?_;by_cases U:t.call.kind=13
    ·exact .inr λaw=>h ⟨U,aw⟩
    ·exact .inl U
  rw[aj k3];by_cases k4:a=4
  ·subst k4;exact c.wait ah hw J hu
  rw[aj k4];by_cases K:a=5
  ·subst K;exact c.leave ah hw J hu
  ·rw[aj K];exact c
 exact key _ rfl<|OD _ he
theorem eP.step(c:eP x)(p)(full):eP (ig x p full):=by
 unfold ig;cases ad:uQ x p with
 |none=>exact c
 |some who=>
  obtain⟨t,ah,he,hw, -⟩:=Pl<|OE ad;simp;unfold ue;have U:x.aC.getD who (pb oO)=t:=kr
  rw[U];cases J:iE x.g who with
  |true=>exact c.tick.lO full J
  |false=>exact c.tick.nO ah he hw J
theorem aLV{x:bK}(c:eP x)(z:∀(i:Nat) t,x.aC[i]?=some t->t.ended=false->∃w∈x.t.waits,w.aU=(i:Int)):∀(m:Nat) (w:dx),w∈x.t.waits->w.lock≠1->x.m.log.nodes.length-dep x.m.log.nodes w.lock<m->
  ∃(j:Nat) (t:bz) (a:Int),x.aC[j]?=some t/\t.done=false/\t.ended=false/\fQ t.call=true/\a∈t.has/\a≠1/\(a=w.lock\/w.lock∈gZ x.m.log.nodes a)
 |0,_,_,_,h=>absurd h<|Nat.not_lt_zero _
 |m+1,w,hw,hk,hm=>by
  have K:=c.hT.nodes.l0;obtain⟨i,e,hi,cH,h,O,hl⟩:=c.hN.sr w hw;obtain⟨j,Aa,aq,U⟩:=(c.hN.qg h.lock h.aU).1 O;have ah:=da aq;rw[pT ah,hl]at U;have V:=c.kA _<|ds ah;generalize x.aC[j]=t at *;have he:t.ended=false:=by
   cases he:t.ended with
   |false=>rfl
   |true=>have:=(V.ended he).2;rw[this]at U;cases U
  obtain⟨v,aG,bm⟩:=z j t ah he;have af:=c.wt v aG j bm t ah;obtain⟨-,hd,aXU, -⟩:=zK K V af;have J:=uz x.m.log.nodes t;rw[af]at J;generalize hu:(⟨1,v.lock⟩:eZ)=u at J;cases J with
  |none=>cases hu
  |back=>cases hu
  |wait=>cases hu
  |leave=>cases hu
  |plain=>cases hu
  |nO _ _ jq=>exact⟨j,t,w.lock,ah,hd,he,jq,U,hk,.inl rfl⟩
  |walk _ _ _ jq jH hs=>
   cases hs with
   |root O=>rw[O]at U;cases U
   |pass=>cases hu
   |vl=>cases hu
   |here=>cases hu
   |down here eW s O aw hs au eC=>
    simp only[eZ.mk.injEq,true_and]at hu;subst hu;rw[O,dF]at U;obtain⟨n,E1,nB,Z,aXK⟩:=Xz K au;have I:par x.m.log.nodes v.lock=some w.lock:=by
     unfold par;rw[<-nB,KW K.cp E1];simp only;rw[aj,Z,U];intro e;have aw:=((V.walk hd jH).2.2.2.2 here (by rw[O];simp)).2.2
     omega
    have aOr:=yi K.wf I;have hle:=BO K.wf v.lock;obtain⟨xq,t2,a,aP,aR,bH,cC,ez,ky,T⟩:=aLV c z m v aG iV iV
    refine⟨xq,t2,a,aP,aR,bH,cC,ez,ky,.inr ?_⟩;have dc:=J7 K.wf I;rcases T with T|T
    ·rw[T,dc];simp
    ·exact Qf K.wf a v.lock (lU _ T) _ I
end Go.Proofs.YtnmamncmpklliaaGreatDoor
