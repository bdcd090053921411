/- What functions answer. No condition. -/
import Derived.Test.YtnmamncmpklliaaGreatDoorWorkI
set_option linter.unusedSimpArgs false
set_option linter.unusedVariables false
set_option linter.unusedSectionVars false
set_option maxRecDepth 100000
set_option maxHeartbeats 16000000
namespace Go.Proofs.YtnmamncmpklliaaGreatDoor
variable{b f g:Bool}{H G:ab}{n j v lc i h clock lh:Nat}{m:List (al×aH)}{p q:I×I×Nat}{r:al}{t:bF}{d x k:Int}{w:cj}{s:List UInt8}{o:I×I×Nat->Bool}{br:List Int}{c:cg}{hZ:List aH}{ops:List bk}{es ps kR:List (I×I×Nat)}{F:FuncId}
open Go.Proofs.Tryz
theorem W7(n:Int)(H:ab):aO prog 156 [.int .u32 n] H (.str<|yJ n):=by refine bg func156 ?_;refine a7 ?_;exact bJ<|.of rfl
theorem Wk(k:Nat)(n:Int):Af (k+1) n=Af k (sB n):=rfl
theorem aFZ(n:Int):Af 0 n=n:=rfl
theorem aF0(o:BinOp)(a b:Int):0<=eg o .u32 a b/\eg o .u32 a b<=4294967295:=by unfold eg;simp only[IntKind.wrap,IntKind.signed,IntKind.bits];split<;>simp<;>omega
theorem aKT(n:Int)(c:UInt8)(H:ab):aO prog 197 [.int .u32 n,.int .u8 c.toNat] H (.int .u32<|Ag n c):=by
 refine bg func197 ?_;have O:∀m:Int,0<=m->m<=4294967295->m.fdiv (2 ^ min 31 32)=0\/m.fdiv (2 ^ min 31 32)=1:=λm ay h1=>by rw[Int.fdiv_eq_ediv_of_nonneg _ ko];simp;omega
 have K:=aF0;iterate 2 first|(refine ae ?_;simp only[go_sem])|refine ai ?_|fail
 refine aDQ (ι:=Int×Nat) 0 (λs=>[(0,.int .u32 s.1),(4,.int .u32 0),(5,.int .i64 s.2)]) (λ_=>H) (λs=>1<=s.2/\s.2<=8/\0<=s.1/\s.1<=4294967295/\Af s.2 s.1=Ag n c) (λs=>s.2) (by rfl) (by rfl) ?_ ?_
 ·obtain⟨m,hm⟩:∃m,m=eg .xor .u32 n (IntKind.u32.wrap<|IntKind.u32.wrap c.toNat * 2 ^ min 24 32):=⟨_,rfl⟩;have J:=O m (by rw[hm];exact(K ..).1)<|by rw[hm];exact(K ..).2
  have hs:Af 7 (sB m)=Ag n c:=by rw[Ag,<-hm];exact(Wk 7 m).symm
  have U:0<=sB m/\sB m<=4294967295:=by unfold sB;exact K ..
  have hw:IntKind.i64.wrap (8-1)=((7:Nat):Int):=rfl;have e:=sB.eq_1 m;rcases J with J|J;all_goals
   rw[J]at e;repeat' first|(refine ae ?_;simp only[go_sem,<-hm,J,hw])|refine ai ?_|fail
   exact X0 ⟨rfl,(sB m,7),⟨hW,hW,U.1,U.2,hs⟩,by rw[e];simp[go_sem],rfl⟩
 ·rintro⟨m,k⟩ ⟨h1,h2,h3,h4,S⟩;simp only at h1 h2 h3 h4 S;obtain⟨q,rfl⟩:∃q,k=q+1:=⟨k-1,gf⟩;have hs:Af q (sB m)=Ag n c:=by rw[<-S,Wk]
  have U:0<=sB m/\sB m<=4294967295:=by unfold sB;exact K ..
  have hw:IntKind.i64.wrap (((q+1:Nat):Int)-1)=(q:Int):=by rw[bS];omega
  have e:=sB.eq_1 m;rcases O m h3 h4 with J|J;all_goals
   rw[J]at e;by_cases aM:q=0
   ·subst aM;refine hH ?_;exact bJ<|.of (by rw[<-hs,aFZ,e];rfl)
   ·have hd:decide ((0:Int)<(q:Int))=true:=cS;refine hH ?_;exact X0 ⟨rfl,(sB m,q),⟨⟨by simp only;omega,by simp only;omega,U.1,U.2,hs⟩,by simp only;omega⟩,by rw[e];simp[go_sem],rfl⟩
theorem Yz(s:al)(f:Bool)(hs:s.length<=1073741824)(H:ab):aO prog 157 [.sl f [.str s]] H (.int .u32<|uc s):=by
 refine bg func157 ?_;refine a7 ?_;refine sX 2 ?_;unfold pS;repeat' first|(refine ae ?_;simp only[go_sem])|refine ai ?_|fail
 refine Wy (ι:=Unit) (λ_=>[(3,.int .u32<|uc s),(7,.sl f [.str s]),(8,.int .i64 1),(9,.int .i64 0)]) (λ_=>H) (λ_=>True) ?_ λ_ _=>?_
 ·refine c7 (ι:=Nat) (λi=>[(3,.int .u32<|(s.take i).foldl Ag 4294967295),(5,.str s),(7,.sl f [.str s]),(8,.int .i64 1),(9,.int .i64 0),(14,.int .i64 s.length),(15,.int .i64 i)]) (λ_=>H) (λi=>i<=s.length) (λi=>s.length-i) 0 (cb _) ?_ rfl ?_
  ·simp[go_sem]
  intro i hi;by_cases J:i<s.length
  ·have K:decide ((i:Int)<(s.length:Int))=true:=cS;have hw:=eb J gf;have O:s.getD i 0=s[i]:=by simp[J]
   have S:=aKT ((s.take i).foldl Ag 4294967295) s[i];refine hH ?_;exact⟨i+1,J,gf,by rw[hc J,yl];rfl,rfl⟩
  ·have U:i=s.length:=gf;subst U;refine hH ?_;exact⟨(),by rw[fe];rfl⟩
 ·have hw:IntKind.i64.wrap (0+1)=1:=rfl;refine hH ?_;exact bJ<|.of rfl
theorem aKU(s:al)(hs:s.length<=1073741824)(H:ab):aO prog 110 [.str s] H (.str<|se s):=by refine bg func110 ?_;have h1:=Yz s true hs;have h2:=W7<|uc s;have h3:(yJ (uc s)).length=4:=rfl;refine hH ?_;exact bJ<|.of rfl
theorem aD3:∀(k m:Nat) (b:al),b.length<=k->b.length<=m->zk k b=zk m b:=by
 intro k;induction k with
 |zero=>intro m b h _;rw[iL (by omega:b.length=0)];cases m<;>rfl
 |succ k J=>
  intro m b h hm;cases m with
  |zero=>rw[iL (by omega:b.length=0)];rfl
  |succ m=>
   rw[zk,zk];split
   ·rfl
   ·rename_i U;have:=nH.2 U;rw[J m (b.drop 14) nc nc]
theorem N0{b:al}(h:b≠[]):wx b=b.take 14::wx (b.drop 14):=by have:=nH.2 h;unfold wx;obtain⟨k,hk⟩:∃k,b.length=k+1:=⟨b.length-1,gf⟩;rw[hk,zk,ar h,aD3 k (b.drop 14).length (b.drop 14) nc<|bh _]
theorem Gs:∀(n:Nat) (b:al),b.length<=n->∀p∈wx b,p.length<=14:=by
 intro n;induction n with
 |zero=>intro b h p ad;rw[iL (by omega:b.length=0)]at ad;cases ad
 |succ n U=>
  intro b h p ad;by_cases J:b=[]
  ·subst J;cases ad
  ·have:=nH.2 J;rw[N0 J]at ad;rcases db.1 ad with rfl|ad
   ·simp;omega
   ·exact U _ nc p ad
theorem Wl{M N:ab}(h:∀(k:Nat) (b:bD),M[k]?=some b->N[k]?=some b\/ed n b)(j:Nat)(b:bD)(J:(H++M)[j]?=some b):(H++N)[j]?=some b\/ed n b:=by
 by_cases U:j<H.length
 ·rw[jc U]at J ⊢;exact .inl J
 ·rw[pH gf]at J ⊢;exact h _ _ J
theorem aEY:∀(i:Nat) (b:al),(wx b)[i]?=if 14 * i<b.length then some ((b.drop (14 * i)).take 14)else none:=by
 intro i;induction i with
 |zero=>
  intro b;by_cases J:b=[]
  ·subst J;rfl
  ·have:=nH.2 J;rw[N0 J,aC gf];rfl
 |succ i U=>
  intro b;by_cases J:b=[]
  ·subst J;rfl
  ·rw[N0 J,vi,U,ym,hp,show 14+14 * i=14 * (i+1) by omega]
   by_cases h:14 * (i+1)<b.length
   ·rw[aC h,aC gf]
   ·rw[ar h,ar gf]
theorem JV:∀(n:Nat) (b:al),b.length<=n->(wx b).length=(b.length+13) / 14:=by
 intro n;induction n with
 |zero=>intro b h;rw[iL (by omega:b.length=0)];rfl
 |succ n U=>
  intro b h;by_cases J:b=[]
  ·subst J;rfl
  ·have:=nH.2 J;rw[N0 J,cd,U _ nc,hp];omega
theorem U9{m:UInt8}{p:al}(h:p.length<=14):(qQ m p).length=16:=by unfold qQ fM;simp;omega
theorem Db(m:UInt8):∀(l:List al),(∀p∈l,p.length<=14)->(l.flatMap (qQ m)).length=16 * l.length
 |[],_=>rfl
 |p::l,h=>by
  rw[nj,bw,U9<|h p hW,Db m l λq aM=>h q (by simp[aM]),cd]
  omega
theorem aD4(m:UInt8){p:al}(h:p.length<=14):du [.int .u8 m.toNat,.int .u8 0,.int .u8 0,.int .u8 0,.int .u8 0,.int .u8 0,.int .u8 0,.int .u8 0,.int .u8 0,.int .u8 0,.int .u8 0,.int .u8 0,.int .u8 0,.int .u8 0,.int .u8 0,.int .u8 m.toNat] 1 (ck p)=ck (qQ m p):=by
 unfold du qQ ck;simp only[dO,qz,jm];rw[show ∀(a:I) (l:List I),List.take 1 (a::l)=[a]from λ_ _=>rfl,dq]
 show _::([]++_++_)=_;congr 1;rw[jb];congr 1;rw[show ∀(a:I) (l:List I),List.drop (1+p.length) (a::l)=l.drop p.length from λa l=>by rw[Nat.add_comm];rfl]
 rw[show([.int .u8 0,.int .u8 0,.int .u8 0,.int .u8 0,.int .u8 0,.int .u8 0,.int .u8 0,.int .u8 0,.int .u8 0,.int .u8 0,.int .u8 0,.int .u8 0,.int .u8 0,.int .u8 0,I.int .u8 m.toNat]:List I)=(fM 14).map (λb=>I.int .u8 b.toNat)++[I.int .u8 m.toNat]from rfl,List.drop_append_of_le_length<|by rw[dq,Gr];exact h]
 congr 1;unfold fM;rw[List.map_replicate,List.map_replicate,List.drop_replicate]
def Wm:List cK:=[.ah 0,.ah 0,.ah 0,.ah 0,.ah 0,.bW [false,false,true],.ah 0,.bW []]
def VK:List cK:=[.ah 0,.ah 0,.bW [],.bW []]
attribute [go_sem] Wm VK
theorem X1(n:Nat)(af:n<=1000000)(H:ab):aO prog 112 [.int .i64 n] H (.int .u8 (zB n).toNat):=by
 refine bg func112 ?_;repeat' first|(refine ae ?_;simp only[go_sem])|refine ai ?_|fail
 exact bJ (.of (by
  have h1:((n:Int)).tmod 250=((n % 250:Nat):Int):=by rw[wR gf];omega
  rw[h1,bS];unfold zB;rw[HW gf];simp[IntKind.wrap,IntKind.signed,IntKind.bits];omega))
theorem aF1{y:Nat}{cs:List I}(J:Nat->ab->Prop)(af:n<=1073741824)(T:n<=lc)(hl:∀i G,J i G->az G j=.cells v cs)
  (K:∀i G,14 * i<n->J i G->sJ prog y [.osl 1 j v (14 * i) (min 14<|n-14 * i) (min 14<|n-14 * i)] G (λw U=>w=.bool true/\J (i+1) U)) (H:ab) (ay:J 0 H):
  cV prog 158 [.func (.yield y) [] [],.cptr [.osl 1 j v 0 n lc]] H (λ_ H'=>J ((n+13) / 14) H'):=by
 refine mS func158 ?_;refine a7 ?_;refine c7 (ι:=Nat×ab) (λs=>[(0,.func (.yield y) [] []),(1,.cptr [.osl 1 j v 0 n lc]),(3,.int .i64 (14 * s.1:Nat))]) (λs=>s.2) (λs=>s.1<=(n+13) / 14/\J s.1 s.2) (λs=>n-s.1) (0,H) ⟨cb _,ay⟩ ?_ rfl ?_
 ·simp[go_sem]
 rintro⟨i,G⟩ ⟨hi,hj⟩;simp only at hi hj ⊢;have g0:=hl i G hj;by_cases O:14 * i<n
 ·have hd:decide (((14 * i:Nat):Int)<(n:Int))=true:=cS;have hw:IntKind.i64.wrap (((14 * i:Nat):Int)+14)=((14 * (i+1):Nat):Int):=by rw[bS];omega
  have hm:min ((14 * (i+1):Nat):Int) (n:Int)=((14 * i+min 14 (n-14 * i):Nat):Int):=gf;repeat' first|(refine ae ?_;simp only[go_sem,hd,hw,hm,g0,mi,Nat.add_sub_cancel_left])|refine ai ?_|fail
  refine NQ (K i G O hj) ?_;rintro w U ⟨rfl,S⟩;simp only[go_sem];refine hH ?_;exact⟨(i+1,U),⟨gf,S⟩,by simp only;omega,rfl,rfl⟩
 ·have hd:decide (((14 * i:Nat):Int)<(n:Int))=false:=dA;refine hH ?_;rw[show(n+13) / 14=i by omega]
  exact hj
theorem aFA(J:j<H.length):aO prog 111 [.osl 1 j v 0 n lc] H (.func (.func 158) [] [.cptr [.osl 1 j v 0 n lc]]):=by
 refine bg func111 ?_;refine a7 ?_;refine⟨_,_,rfl,?_,rfl⟩;refine .func _ _ _ _ _ rfl rfl fx<|ds (DE (bh _) mZ ?_) fx
 simp only[dH,zM];exact .osl _ _ _ _ _ _ J
theorem Li(n:Int)(p:al)(ad:p.length<=1073741824)(H:ab):aO prog 62 [.int .i64 n,.str p] H (.aN [.str (hE n p).1,.int .i64 (hE n p).2]):=by
 refine bg func62 ?_;unfold hE;by_cases AO:n<1\/1000000<n\/40000<p.length
 ·have ao:(decide (n<1)||decide (1000000<n)||decide ((40000:Int)<(p.length:Int)))=true:=nc
  rw[aC AO];refine hH ?_;all_goals first|exact aX (.refl _)|(exfalso;simp at h;omega)
 rw[ar AO];obtain⟨m,rfl⟩:∃m:Nat,n=m:=⟨n.toNat,gf⟩;have ao:(decide ((m:Int)<1)||decide ((1000000:Int)<(m:Int))||decide ((40000:Int)<(p.length:Int)))=false:=nc
 have vI:=jq (n:=m) gf;have h1:∀H,aO prog 49 [.str [],.sl true [.int .i64 m]] H (.aN [.str (bT m),.int .i64 0]):=λH=>by simpa using Be [] m true gf hW H
 have h2:=zt (bT m) p gf gf gf;have cH:=kX (t:=p) gf;have h3:=aKU (bT m++dj p)<|by rw[bw];omega
 have jN:(se (bT m++dj p)).length<=40022:=by unfold se;rw[bw,bw];have:(yJ (uc<|bT m++dj p)).length=4:=rfl;omega
 have h4:∀H,aO prog 24 [.str [],.str<|se (bT m++dj p)] H (.str<|qg m p):=λH=>by simpa[qg]using zt [] (se (bT m++dj p)) hW gf nc H
 have aPN:(qg m p).length<=40031:=by have:=kX (t:=se<|bT m++dj p) gf;unfold qg;omega
 have R8:=X1 m gf;rw[h5];unfold wJ;generalize se (bT m++dj p)=S at *;generalize qg m p=B at *;generalize zB m=mk at *;refine hH ?_;refine ia (aFA hW) aI ?_;simp only[go_sem];refine a7 ?_;refine uM (v:=0) (cs:=[.sl true []]) (H.length+2) 0 1 mZ rfl ?_;simp only[go_sem];refine H2 [(2,.ref H.length 0 0),(9,.ref (H.length+2) 0 0),(36,.func (.func 158) [] [.cptr [.osl 1 (H.length+1) 1 0 B.length B.length]])] (by simp[go_sem]) ?_
 refine J7 rfl aI λy dJ lG=>?_;obtain⟨O,hO⟩:∃O:Nat->al,∀i,O i=((wx B).take i).flatMap (qQ mk):=⟨_,λ_=>rfl⟩;let T:Nat->ab->Prop:=λi G=>G=H++[.cells 0 [.int .i64 m],.cells 1<|ck B,.cells 0 [.osl 1 (H.length+3) (i+1) 0 (16 * i) (16 * i)],.cells (i+1)<|ck (O i),dJ]
 refine(aF1 (cs:=ck B) T gf (bh _) (λi G e=>by rw[e];simp only[go_sem]) (λi G hi e=>?_) _ (by simp[T,hO,ck])).mono λ_ G e=>?_
 ·simp only[T]at e;have hk:=aEY i B;rw[aC hi]at hk;obtain⟨U,V⟩:∃U,U=(B.drop (14 * i)).take 14:=⟨_,rfl⟩;have Rt:U.length=min 14 (B.length-14 * i):=by rw[V,gK,hp]
  have Z:O (i+1)=O i++qQ mk U:=by rw[hO,hO,Hj,hk,<-V,qx];simp
  have I:(O i).length=16 * i:=by
   rw[hO,Db mk _ λp ad=>Gs _ B (bh _) p<|yp ad,gK,JV _ B<|bh _]
   omega
  have ik:List.take (min 14 (B.length-14 * i) * 1) (List.drop (14 * i)<|ck B)=ck U:=by unfold ck;rw[<-yk,<-vl,mi,V];congr 1;rw[List.take_eq_take_iff,hp];omega
  have aYc:min 14 (B.length-14 * i)<=14/\14 * i+min 14 (B.length-14 * i)<=B.length:=gf;have pt:=aD4 mk (p:=U) gf;have z:=U9 (m:=mk) (p:=U) gf;have aQn:List.take 16 (ck<|qQ mk U)=ck (qQ mk U):=qy<|by rw[qO];omega
  have aBy:(H++[bD.cells 0 [.int .i64 m],.cells 1<|ck B,.cells 0 [.osl 1 (H.length+3) 1 0 0 0],.cells 1 []]).length=H.length+4:=hW
  refine KL (i:=H.length+4) (by rw[e];simp only[go_sem]) lG rfl rfl rfl rfl λjF fin Cx xE gO jg=>?_
  simp only[w8];refine uu rfl ?_;rw[e];generalize min 14 (B.length-14 * i)=K at *;simp only[go_sem];generalize qQ mk U=Sx at *;generalize O i=Oi at *;have iA:((16 * i+16) * 1<=140737488355328)=True:=b1 gf;repeat' first|((first|refine mx [9] Wm ?_|refine mx [11] VK ?_|refine ae ?_);simp only[go_sem,ik,pt,z,aQn,I,Rt,iA])|refine ai ?_|fail
  refine⟨?_,H++[.cells 0 [.int .i64 m],.cells 1<|ck B,.cells 0 [.osl 1 (H.length+3) (i+2) 0 (16 * i+16) (16 * i+16)],.cells (i+2)<|ck Oi++ck Sx,jF],[.cells 0 (ck Sx)],?_,?_,?_,rfl,?_⟩
  ·simp only[go_sem]
  ·simp
  ·simp
  ·exact Wl λk b hk=>match k,hk with
    |0,h=>.inl h
    |1,h=>.inl h
    |2,h=>.inr (by cases h;intro x J;rw[dH.1 J];exact .osl _ _ _ _ _ _ hW)
    |3,h=>.inr (by cases h;rw[<-wE];exact Ql _ _ _)
    |4,h=>.inl h
    |(k+5),h=>p2 h
  ·rw[gO];simp only[T,go_sem,Z,wE,Nat.mul_add]
 ·simp only[T]at e;have eG:=JV _ B<|bh _;rw[hO,<-eG,fe]at e;have z:=Db mk (wx B)<|Gs _ B (bh _);generalize(wx B).flatMap (qQ mk)=W at *;rw[<-z]at e;rw[show(H++[bD.cells 0 [.int .i64 m],.cells 1<|ck B,.cells 0 [.osl 1 (H.length+3) 1 0 0 0],.cells 1 []]).length=H.length+4 by simp]
  refine .inl ⟨.ready,hW,by rw[e];simp only[go_sem];exact lG,λX=>?_⟩
  rw[e];simp only[go_sem];repeat' first|(refine ae ?_;simp only[go_sem])|refine ai ?_|fail
  exact aX<|.refl _
@[go_sem] theorem aU2{ι:Type}(F:ι->a8)(J:ι->ab)(pre:ι->Prop)(Q:c3)(ch:List PanicEntry)(α:a8)(H:ab):xd F J pre Q (.panic ch) α H=Q (.panic ch) α H:=rfl
theorem Y7(h:i<G.length):
  (∀X L k,az (an G i X++L) (G.length+k)=L.getD k .gone)/\(∀X L,az (an G i X++L) G.length=L.getD 0 .gone)/\(∀X L k Y,an (an G i X++L) (G.length+k) Y=an G i X++L.set k Y)/\(∀X L Y,an (an G i X++L) G.length Y=an G i X++L.set 0 Y)/\
  (∀v X L,az (an G i (.cells v X)++L) i=.cells v X)/\(∀X L Y,an (an G i X++L) i Y=an G i Y++L):=by
 have J:=λX=>bc G i X;refine⟨λX L k=>?_,λX L=>tl<|J X,λX L k Y=>GS (J X) Y,λX L Y=>On (J X) Y,λv X L=>bX (b:=.cells v X) (dK h _) trivial L,λX L Y=>by rw[gU (by rw[J];exact h),jd]⟩
 rw[<-J X];exact Bn _ _ _
theorem aHz{p:Int}{b:al}{n:Int}(h:ua p b=some (n,r)):r.length<=b.length:=by
 unfold ua at h;split at h
 ·cases h;exact bh _
 ·exact Nat.le_of_lt<|hg h
def PL(b:al):I:=match k5 b with
 |none=>.aN [cy eK,.str [],.int .i64 180]
 |some (c,r)=>.aN [cy c,.str r,.int .i64 0]
def brk:Value:=.iface 294<|.agg #[.int .i64 180]
def UL:List cK:=[.aQ,.ah 0,.ah 0,.bW [true,true],.bW [true,true],.bW []]
def UM:List cK:=[.ah 0,.ah 0,.ah 0,.bW [true,true],.bW [],.bW []]
attribute [go_sem] UL UM
theorem YA(b:al)(J:b.length<=1073741824)(i:Nat)(U:az H i=.cells 0 [.str b]){n:Int}(ag:dS b=some (n,r)):
  cV prog 192 [.ref i 0 0] H (λx H'=>x=.int .i64 n/\H'=an H i (.cells 0 [.str r])):=by
 refine mS func192 ?_;have K:=xR b J;simp only[sd,ag]at K;repeat' first|(refine ae ?_;simp only[go_sem,U])|refine ai ?_|fail
theorem YB(b:al)(J:b.length<=1073741824)(i:Nat)(U:az H i=.cells 0 [.str b])(ag:dS b=none):
  vo prog 192 [.ref i 0 0] H (λv H'=>v=brk/\H'=H):=by
 refine T1 func192 rfl (ve rfl) ?_;have K:=xR b J;simp only[sd,ag]at K;repeat' first|(refine ae ?_;simp only[go_sem,U])|refine bp ?_|fail
 refine kA rfl (λ_=>?_) λh=>nomatch h;refine xp 2 _ (by rfl) (by rfl) (by rfl) ?_
 simp only[go_sem,yo,rC];exact Nz rfl rfl ⟨rfl,rfl⟩
theorem Pm(b:al)(J:b.length<=1073741824)(i:Nat)(U:az H i=.cells 0 [.str b]){t:al}(ag:ix b=some (t,r)):
  cV prog 193 [.ref i 0 0] H (λx H'=>x=.str t/\H'=an H i (.cells 0 [.str r])):=by
 refine mS func193 ?_;have K:=zj b J;simp only[wG,ag]at K;repeat' first|(refine ae ?_;simp only[go_sem,U])|refine ai ?_|fail
theorem Pn(b:al)(J:b.length<=1073741824)(i:Nat)(U:az H i=.cells 0 [.str b])(ag:ix b=none):
  vo prog 193 [.ref i 0 0] H (λv H'=>v=brk/\H'=H):=by
 refine T1 func193 rfl (ve rfl) ?_;have K:=zj b J;simp only[wG,ag]at K;repeat' first|(refine ae ?_;simp only[go_sem,U])|refine bp ?_|fail
 refine kA rfl (λ_=>?_) λh=>nomatch h;refine xp 2 _ (by rfl) (by rfl) (by rfl) ?_
 simp only[go_sem,yo,rC];exact Nz rfl rfl ⟨rfl,rfl⟩
theorem aI9(b:al)(aa:b.length<=1048576)(i:Nat)(ak:az H i=.cells 0 [.str b]):
  (k5 b=none->vo prog 152 [.ref i 0 0] H (λv H'=>v=brk/\∃r L,H'=an H i (.cells 0 [.str r])++L))/\
  (∀c r,k5 b=some (c,r)->cV prog 152 [.ref i 0 0] H (λv H'=>v=cy c/\∃L,H'=an H i (.cells 0 [.str r])++L)):=by
 have key:=aI8 (args:=[.ref i 0 0]) (H:=H) (X:=λv H'=>(v=brk/\∃r L,H'=an H i (.cells 0 [.str r])++L)/\k5 b=none) (R:=λv H'=>∃c r,k5 b=some (c,r)/\v=cy c/\∃L,H'=an H i (.cells 0 [.str r])++L) func152 ?_
 ·exact⟨λaf=>(key.1 λv H' ⟨c,r,e,_⟩=>by rw[af]at e;cases e).mono λv H' q=>q.1,λc r hs=>(key.2 λv H' q=>by rw[hs]at q;cases q.2).mono λv H' ⟨c',ql,e,q⟩=>by rw[hs]at e;cases e;exact q⟩
 have Jm:∀{f:FuncId} {args:List I} {r:al} {L:ab},vo prog f args (an H i (.cells 0 [.str r])++L) (λv H'=>v=brk/\H'=an H i (.cells 0 [.str r])++L)->k5 b=none->vo prog f args (an H i (.cells 0 [.str r])++L) (λv H'=>(v=brk/\∃r L,H'=an H i (.cells 0 [.str r])++L)/\k5 b=none):=λh af=>h.mono λv _ e=>⟨⟨e.1,_,_,e.2⟩,af⟩;cases ay:dS b with
 |none=>
  have Z:k5 b=none:=by unfold k5;rw[ay];rfl
  have af:=Jm (r:=b) (by rw[kf ak trivial];exact YB b gf i (bE ak trivial [.cells 0 [.int .i64 0,.str [],.str [],.str [],.int .i64 0]]) ay) Z
  rw[kf ak trivial]at af;iterate 3 first|(refine ae ?_;simp only[go_sem])|refine bp ?_|(refine bz ?_ ?_<;>intro h<;>try exact bx h)|fail
  refine xp 1 _ (by rfl) (by rfl) (by rfl) ?_
  simp only[go_sem,yo,rC];exact Gi rfl rfl aI af
 |some p=>
  obtain⟨K,T⟩:=p;have af:=YA b gf i (bE ak trivial [.cells 0 [.int .i64 0,.str [],.str [],.str [],.int .i64 0]]) ay;have hi:=cZ ak trivial;have cW:=hg ay;have vX:=PS K;have s1:=λL X=>gU hi L X;have U:=Y7 hi;have s2:=λX=>bc H i X;have cX:k5 b=(py K).bind λp=>(la p 1 T).bind fun(a,O)=>(la p 2 O).bind fun(t,S)=>(la p 4 S).bind fun(d,a6)=>(ua p a6).bind fun(n,bb)=>if kY ⟨K,a,t,d,n⟩=true then some (⟨K,a,t,d,n⟩,bb)else none:=by unfold k5;rw[ay];rfl
  iterate 4 first|(refine ae ?_;simp only[go_sem])|refine bp ?_|(refine bz ?_ ?_<;>intro h<;>try exact bx h)|fail
  refine c4 af aI ?_;rintro v H' ⟨rfl,rfl⟩;rw[s1];simp only[go_sem];cases ad:py K with
  |none=>
   rw[ad]at vX cX;repeat' first|(refine ae ?_;simp only[go_sem,s2,U])|refine bp ?_|fail
   refine kA rfl (λ_=>?_) λh=>nomatch h;refine xp 2 _ (by rfl) (by rfl) (by rfl) ?_
   simp only[go_sem,yo,rC];exact Nz rfl rfl ⟨⟨rfl,_,_,rfl⟩,by rw[cX];rfl⟩
  |some p=>
   rw[ad]at vX cX;simp only[o0,wX,e6]at vX cX;repeat' first|(refine ae ?_;simp only[go_sem,s2,U])|refine bp ?_|fail
   refine kA rfl (λh=>nomatch h) λ_=>?_;refine HQ ?_;repeat' first|(refine ae ?_;simp only[go_sem,U])|refine bp ?_|fail
   refine Ky (ι:=al×al) (λ_=>[(0,.ref i 0 0),(2,.ref H.length 0 0),(3,.ref (H.length+1) 0 0),(4,.int .i64 p)]) (λs=>an H i (.cells 0 [.str s.2])++[.cells 0 [.int .i64 0,.str [],.str [],.str [],.int .i64 0],.cells 0 [.int .i64 K,.str s.1,.str [],.str [],.int .i64 0]]) (λs=>la p 1 T=some s) ?_ fun⟨a,O⟩ h1=>?_
   ·by_cases e9:eg .and .i64 p 1=0
    ·have e:la p 1 T=some ([],T):=by unfold la;rw[aC e9]
     repeat' first|(refine ae ?_;simp only[go_sem,e9,U])|refine bp ?_|(refine bz ?_ ?_<;>intro h<;>try exact bx h)|fail
     exact⟨_,e,by simp[go_sem]⟩
    have e:la p 1 T=ix T:=by unfold la;rw[ar e9]
    have hd:(!decide (eg .and .i64 p 1=0))=true:=by rw[b0 e9];rfl
    have V:=U.2.2.2.2.1 0 [.str T] [.cells 0 [.int .i64 0,.str [],.str [],.str [],.int .i64 0],.cells 0 [.int .i64 K,.str [],.str [],.str [],.int .i64 0]];cases h:ix T with
    |none=>
     have Z:k5 b=none:=by rw[cX,e,h];rfl
     have J:=Jm (Pn T gf i V h) Z;refine kA rfl (λ_=>?_) λw=>absurd hd (by rw[w];decide)
     refine xp 1 _ (by rfl) (by rfl) (by rfl) ?_
     simp only[go_sem,yo,rC];exact Gi rfl rfl aI J
    |some y=>
     obtain⟨z,ni⟩:=y;have J:=Pm T gf i V h;refine kA rfl (λ_=>?_) λw=>absurd hd (by rw[w];decide)
     repeat' first|(refine ae ?_;simp only[go_sem])|refine bp ?_|(refine bz ?_ ?_<;>intro h<;>try exact bx h)|fail
     refine c4 J aI ?_;rintro v H' ⟨rfl,rfl⟩;simp only[go_sem,U];repeat' first|(refine ae ?_;simp only[go_sem,U])|refine bp ?_|(refine bz ?_ ?_<;>intro h<;>try exact bx h)|fail
     exact⟨(z,ni),e.trans h,rfl⟩
   rw[h1]at cX;simp only[e6]at cX;have ax:O.length<=T.length:=oC<|wh h1
   simp only;repeat' first|(refine ae ?_;simp only[go_sem,U])|refine bp ?_|fail
   refine Ky (ι:=al×al) (λ_=>[(0,.ref i 0 0),(2,.ref H.length 0 0),(3,.ref (H.length+1) 0 0),(4,.int .i64 p)]) (λs=>an H i (.cells 0 [.str s.2])++[.cells 0 [.int .i64 0,.str [],.str [],.str [],.int .i64 0],.cells 0 [.int .i64 K,.str a,.str s.1,.str [],.int .i64 0]]) (λs=>la p 2 O=some s) ?_ fun⟨t,S⟩ h2=>?_
   ·by_cases hz:eg .and .i64 p 2=0
    ·have e:la p 2 O=some ([],O):=by unfold la;rw[aC hz]
     repeat' first|(refine ae ?_;simp only[go_sem,hz,U])|refine bp ?_|(refine bz ?_ ?_<;>intro h<;>try exact bx h)|fail
     exact⟨_,e,by simp[go_sem]⟩
    have e:la p 2 O=ix O:=by unfold la;rw[ar hz]
    have hd:(!decide (eg .and .i64 p 2=0))=true:=by rw[b0 hz];rfl
    have V:=U.2.2.2.2.1 0 [.str O] [.cells 0 [.int .i64 0,.str [],.str [],.str [],.int .i64 0],.cells 0 [.int .i64 K,.str a,.str [],.str [],.int .i64 0]];cases h:ix O with
    |none=>
     have Z:k5 b=none:=by rw[cX,e,h];rfl
     have J:=Jm (Pn O gf i V h) Z;refine kA rfl (λ_=>?_) λw=>absurd hd (by rw[w];decide)
     refine xp 1 _ (by rfl) (by rfl) (by rfl) ?_
     simp only[go_sem,yo,rC];exact Gi rfl rfl aI J
    |some y=>
     obtain⟨z,ni⟩:=y;have J:=Pm O gf i V h;refine kA rfl (λ_=>?_) λw=>absurd hd (by rw[w];decide)
     repeat' first|(refine ae ?_;simp only[go_sem])|refine ai ?_|fail
     refine c4 J aI ?_;rintro v H' ⟨rfl,rfl⟩;simp only[go_sem,U];repeat' first|(refine ae ?_;simp only[go_sem,U])|refine ai ?_|fail
     exact⟨(z,ni),e.trans h,rfl⟩
   rw[h2]at cX;simp only[e6]at cX;have aq:S.length<=O.length:=oC<|wh h2
   simp only;repeat' first|(refine ae ?_;simp only[go_sem,U])|refine bp ?_|fail
   refine Ky (ι:=al×al) (λ_=>[(0,.ref i 0 0),(2,.ref H.length 0 0),(3,.ref (H.length+1) 0 0),(4,.int .i64 p)]) (λs=>an H i (.cells 0 [.str s.2])++[.cells 0 [.int .i64 0,.str [],.str [],.str [],.int .i64 0],.cells 0 [.int .i64 K,.str a,.str t,.str s.1,.int .i64 0]]) (λs=>la p 4 S=some s) ?_ fun⟨d,a6⟩ h3=>?_
   ·by_cases MJ:eg .and .i64 p 4=0
    ·have e:la p 4 S=some ([],S):=by unfold la;rw[aC MJ]
     repeat' first|(refine ae ?_;simp only[go_sem,MJ,U])|refine bp ?_|(refine bz ?_ ?_<;>intro h<;>try exact bx h)|fail
     exact⟨_,e,by simp[go_sem]⟩
    have e:la p 4 S=ix S:=by unfold la;rw[ar MJ]
    have hd:(!decide (eg .and .i64 p 4=0))=true:=by rw[b0 MJ];rfl
    have V:=U.2.2.2.2.1 0 [.str S] [.cells 0 [.int .i64 0,.str [],.str [],.str [],.int .i64 0],.cells 0 [.int .i64 K,.str a,.str t,.str [],.int .i64 0]];cases h:ix S with
    |none=>
     have Z:k5 b=none:=by rw[cX,e,h];rfl
     have J:=Jm (Pn S gf i V h) Z;refine kA rfl (λ_=>?_) λw=>absurd hd (by rw[w];decide)
     refine xp 1 _ (by rfl) (by rfl) (by rfl) ?_
     simp only[go_sem,yo,rC];exact Gi rfl rfl aI J
    |some y=>
     obtain⟨z,ni⟩:=y;have J:=Pm S gf i V h;refine kA rfl (λ_=>?_) λw=>absurd hd (by rw[w];decide)
     repeat' first|(refine ae ?_;simp only[go_sem])|refine ai ?_|fail
     refine c4 J aI ?_;rintro v H' ⟨rfl,rfl⟩;simp only[go_sem,U];repeat' first|(refine ae ?_;simp only[go_sem,U])|refine ai ?_|fail
     exact⟨(z,ni),e.trans h,rfl⟩
   rw[h3]at cX;simp only[e6]at cX;have aU:a6.length<=S.length:=oC<|wh h3
   simp only;repeat' first|(refine ae ?_;simp only[go_sem,U])|refine bp ?_|fail
   refine Ky (ι:=Int×al) (λ_=>[(0,.ref i 0 0),(2,.ref H.length 0 0),(3,.ref (H.length+1) 0 0),(4,.int .i64 p)]) (λs=>an H i (.cells 0 [.str s.2])++[.cells 0 [.int .i64 0,.str [],.str [],.str [],.int .i64 0],.cells 0 [.int .i64 K,.str a,.str t,.str d,.int .i64 s.1]]) (λs=>ua p a6=some s) ?_ fun⟨n,bb⟩ h4=>?_
   ·by_cases MK:eg .and .i64 p 8=0
    ·have e:ua p a6=some (0,a6):=by unfold ua;rw[aC MK]
     repeat' first|(refine ae ?_;simp only[go_sem,MK,U])|refine bp ?_|(refine bz ?_ ?_<;>intro h<;>try exact bx h)|fail
     exact⟨_,e,by simp[go_sem]⟩
    have e:ua p a6=dS a6:=by unfold ua;rw[ar MK]
    have hd:(!decide (eg .and .i64 p 8=0))=true:=by rw[b0 MK];rfl
    have V:=U.2.2.2.2.1 0 [.str a6] [.cells 0 [.int .i64 0,.str [],.str [],.str [],.int .i64 0],.cells 0 [.int .i64 K,.str a,.str t,.str d,.int .i64 0]];cases h:dS a6 with
    |none=>
     have Z:k5 b=none:=by rw[cX,e,h];rfl
     have J:=Jm (YB a6 gf i V h) Z;refine kA rfl (λ_=>?_) λw=>absurd hd (by rw[w];decide)
     refine xp 1 _ (by rfl) (by rfl) (by rfl) ?_
     simp only[go_sem,yo,rC];exact Gi rfl rfl aI J
    |some y=>
     obtain⟨z,ni⟩:=y;have J:=YA a6 gf i V h;refine kA rfl (λ_=>?_) λw=>absurd hd (by rw[w];decide)
     repeat' first|(refine ae ?_;simp only[go_sem])|refine ai ?_|fail
     refine c4 J aI ?_;rintro v H' ⟨rfl,rfl⟩;simp only[go_sem,U];repeat' first|(refine ae ?_;simp only[go_sem,U])|refine ai ?_|fail
     exact⟨(z,ni),e.trans h,rfl⟩
   rw[h4]at cX;simp only[e6]at cX;have bf:bb.length<=a6.length:=aHz h4;simp only;have cm:=wh h1;have cT:=wh h2;have eZ:=Ld ⟨K,a,t,d,n⟩ (by simp only;omega)<|by simp only;omega
   simp only[cy]at eZ;cases ao:kY ⟨K,a,t,d,n⟩with
   |false=>
    rw[ao]at eZ cX;repeat' first|(refine ae ?_;simp only[go_sem,U])|refine bp ?_|fail
    refine kA rfl (λ_=>?_) λh=>nomatch h;refine xp 2 _ (by rfl) (by rfl) (by rfl) ?_
    simp only[go_sem,yo,rC];exact Nz rfl rfl ⟨⟨rfl,_,_,rfl⟩,by rw[cX];rfl⟩
   |true=>
    rw[ao]at eZ cX;repeat' first|(refine ae ?_;simp only[go_sem,U])|refine bp ?_|(refine bz ?_ ?_<;>intro h<;>try exact bx h)|fail
    exact⟨⟨K,a,t,d,n⟩,bb,cX,rfl,_,rfl⟩
theorem aL9(i1 i2 i3:I)(G:ab):tR prog 151 [i1,i2,i3] G none (λH'=>∃L,H'=G++L):=by
 refine U7 .nilIface func151 rfl (ve rfl) rfl rfl rfl rfl rfl (by rfl) (λc=>.nilIface) ?_
 simp only[go_sem];repeat' first|(refine ae ?_;simp only[go_sem])|refine ai ?_|fail
 exact⟨_,rfl⟩
theorem aMa(H:ab)(J U K O S y z:I)(M:ab):tR prog 151 [.ref H.length 0 0,.ref (H.length+1) 0 0,.ref (H.length+2) 0 0] (H++(.cells 0 [J,U,K,O,S]::.cells 0 [y]::.cells 0 [z]::M)) (some brk)
  (λH'=>∃M,H'=H++(.cells 0 (cy eK).cells::.cells 0 [.str []]::.cells 0 [.int .i64 180]::M)):=by
 refine U7 (.iface 294<|.agg [.int .i64 180]) func151 rfl (ve rfl) rfl rfl rfl rfl rfl (by rfl) (λc=>?_) ?_
 ·refine .iface _ _ _<|.agg _ _ rfl λj x v h1 h2=>?_
  cases j with
  |zero=>cases h1;cases h2;exact .int _ _<|By.1 rfl
  |succ j=>cases h1
 have m1:∀x:bD,(M++[x]).getD M.length .gone=x:=λx=>hW;have m2:∀x y:bD,(M++[x]).set M.length y=M++[y]:=λx y=>hW;simp only[go_sem];have T:=nB [(2,UL)];refine hH ?_;exact⟨_,rfl⟩
theorem aJa(b:al)(U:b.length<=1048576)(H:ab):aO prog 100 [.str b] H (PL b):=by
 refine aHy ?_;refine aD2 (g:=151) func100 rfl (ve rfl) rfl rfl ko rfl rfl rfl rfl aI ?_;have J:=aI9 b U (H.length+3) (H:=H++[.cells 0 [.int .i64 0,.str [],.str [],.str [],.int .i64 0],.cells 0 [.str []],.cells 0 [.int .i64 0],.cells 0 [.str b]]) mZ;unfold PL;cases ag:k5 b with
 |none=>
  have ad:=J.1 ag;iterate 4 first|(refine ae ?_;simp only[go_sem])|refine ai ?_|fail
  refine xp 0 _ (by rfl) (by rfl) (by rfl) ?_
  simp only[go_sem,yo,rC];refine Gi rfl rfl aI<|ad.mono ?_;rintro v H' ⟨rfl,r,L,rfl⟩;simp only[go_sem];refine(aMa H _ _ _ _ _ _ _ _).mono ?_;rintro H' ⟨M,rfl⟩;simp only[go_sem,cy,eK,I.cells];exact aX<|.refl _
 |some p=>
  obtain⟨c,r⟩:=p;repeat' first|(refine ae ?_;simp only[go_sem])|refine ai ?_|fail
  refine c4 (J.2 c r ag) aI ?_;rintro v H' ⟨rfl,L,rfl⟩;unfold cy;simp only[go_sem];repeat' first|((first|refine mx [4] UM ?_|refine ae ?_);simp only[go_sem])|refine ai ?_|fail
  refine(aL9 _ _ _ _).mono ?_;rintro H' ⟨M,rfl⟩;simp only[go_sem];exact aX<|.refl _
theorem Dj{P:Program}{f:FuncId}{first args cap:List I}{H1:ab}{v:I}{K:I->ab->Prop}(h:cV P f (first++args++cap) H (λx H'=>x=v/\H'=H1))(ok:jr P f=true)(hk:K v H1):Ek P true (.func (.func f) first cap) args H K:=
 ⟨v,H1,λ_=>Or.inl ⟨ok,h⟩,λh=>by(cases h),hk⟩
theorem X2(n:Int):fI (qs n):=by
 refine⟨?_,by simp[qs]⟩
 obtain⟨z,J⟩:∃z:Nat,min (max n 0) 65536=(z:Int):=⟨(min (max n 0) 65536).toNat,gf⟩;unfold qM qs;rw[J];simp[fM];omega
theorem Uv{d:gh}(h:fI d)(a:Nat)(s:al)(aA:d.loose.length+dz s<=1000000):fI (pw d a s).1:=by
 unfold pw;split
 ·exact h
 split
 ·exact h
 ·have hs:=h.size;refine⟨?_,by simp only[bw];unfold qf jR;simpa using aA⟩
  unfold qM;simp only[dp,iK,Hl];have:=h.ok;unfold qM at this;simp only[dp,iK]at this;refine⟨this.1,this.2.1,this.2.2.1,this.2.2.2,?_⟩;rw[fu];intro p ad;unfold qf at ad;obtain⟨i,hi,rfl⟩:=bP.1 ad;have hi:=Hf.1 hi;have U:(jR s).length=dz s:=by unfold jR;simp
  have J:((jR s).getD i []).length=16:=by rw[gg,dn hi];unfold jR;simp[yK];simp[fM];omega
  unfold wH;simp only[dp,iK];rename_i h1 h2;refine⟨gf,gf,J⟩
def gi(w:cj)(a:Nat)(s:al):cj×Int:=if(pw w.bG a s).2=0 then({w with bG:=(pw w.bG a s).1},0)else(w,(pw w.bG a s).2)
def zX:al:=wJ 1<|nb 1 []
def tP(size:Int):cj×Int:=
 let n:=(qs size).size.toNat
 let w:=(gi {tN with bG:=qs size,seq:=1,base:=1,next:=1,end_:=(2 * bY n:Nat)} (hV n 1) zX).1
 if bY n<zX.length / 16 then(tN,120)else({w with bG:=nR w.bG,iQ:=false},0)
def Oh(f g:Bool)(w:cj):List I:=[.int .i64 w.bG.size,.str w.bG.jJ,.sl f<|w.bG.loose.map fa,.int .i64 w.seq,.int .i64 w.base,.int .i64 w.next,.int .i64 w.end_,.int .i64 w.eB,.int .i64 w.kept,.sl g<|w.waits.map I.str,.bool w.iQ,.int .i64 w.marked,.int .i64 w.fP,.int .i64 w.lg]
def iG(f g:Bool)(w:cj)(j:Nat):List I:=[.int .i64 w.bG.size,.str w.bG.jJ,.sl f<|w.bG.loose.map fa,.int .i64 w.seq,.int .i64 w.base,.int .i64 w.next,.int .i64 w.end_,.int .i64 w.eB,.int .i64 w.kept,.sl g<|w.waits.map I.str,.bool w.iQ,.int .i64 w.marked,.int .i64 w.fP,.int .i64 w.lg,
 .func (.func 113) [] [.ref j 0 0]]
structure dJ (i:Nat) (f g:Bool) (w:cj) (G:ab):Prop where
 aW:az G i=.cells 0 (iG f g w<|i+1)
 bA:az G (i+1)=.cells 0 [.ref i 0 0]
def T2:List cK:=[.ah 0,.ah 0,.ah 0,.ah 0,.aQ,.bW [false,true,true,true],.aQ]
def T3:List cK:=[.aQ,.ah 0,.ah 0,.ah 0,.ah 0,.ah 0,.aQ,.ah 0,.ah 0,.ah 0,.ah 0,.ah 0,.aQ,.bW [false,true,true,true,true,true,true,false,true,true]]
attribute [go_sem] T2 T3
theorem GH(f g:Bool)(w:cj)(H:ab):cV prog 64 [ei f g w] H (λv H'=>v=.ref (H.length+1) 0 0/\H'=H++[.cells 0 (Oh f g w),.cells 0<|iG f g w (H.length+2),.cells 0 [.ref (H.length+1) 0 0]]):=by refine mS func64 ?_;refine bL ei.eq_1 ?_;rfl
theorem aMb(U:j<n)(f g:Bool)(w:cj):ed n (.cells 0<|iG f g w j):=λx J=>by simp only[iG,db,mh,mj]at J;rcases J with rfl|rfl|rfl|rfl|rfl|rfl|rfl|rfl|rfl|rfl|rfl|rfl|rfl|rfl|rfl;all_goals first|exact .int _ _|exact .str _|exact .bool _|exact Xq hW (λx J=>by rw[dH.1 J];exact .ref _ _ _ U)|exact(b9.sl _ _ λx J=>by obtain⟨y, -,rfl⟩:=bP.1 J;simp only[go_sem]).cl _
theorem O5(J:dJ i f g w G)(hk:fI w.bG):cV prog 67 [.ref i 0 0] G (λv H'=>v=.aN []/\H'=an G i (.cells 0<|iG true g {w with bG:=nR w.bG,iQ:=false} (i+1))):=by
 refine mS func67 ?_;have g0:=J.aW;have hi:=cZ g0 trivial;have s1:=λv X=>dK hi<|.cells v X
 have s2:=jd G i;have aA:=aH0 f hk;unfold iG at g0;unfold ha at aA;refine hH ?_;rfl
theorem GI(J:dJ i f g w G)(hk:fI w.bG)(a:Nat)(s:al)(hs:s.length<=1073741824)(U:a<=1000000):
  cV prog 113 [.int .i64 a,.str s,.ref (i+1) 0 0] G (λv H'=>v=.int .i64 (gi w a s).2/\H'=an G i (.cells 0<|iG (if(gi w a s).2=0 then false else f) g (gi w a s).1 (i+1))):=by
 refine h9 func113 ?_;have g0:=J.aW;have g2:=J.bA;have hi:=cZ g0 trivial;have K:=cZ g2 trivial;have g1:=bE g0 trivial;have g3:=bE g2 trivial;have g4:=hU g0 trivial;have hw:=aFY f hk a s hs U;have O:=aMb K;unfold iG at g0 g1;unfold ha at hw;unfold gi;by_cases he:(pw w.bG a s).2=0
 ·rw[aC he,aC rfl];rw[he]at hw;refine hH ?_;exact⟨_,_,_,rfl,bc _ _ _,ns<|O false g {w with bG:=(pw w.bG a s).1},.cl _<|.int _ _,rfl,rfl⟩
 ·rw[ar he,ar he];have hd:decide ((pw w.bG a s).2=0)=false:=b0 he;refine hH ?_;exact⟨G,_,_,rfl,rfl,λ_ _ h=>.inl h,.cl _<|.int _ _,rfl,(kf J.aW trivial).symm⟩
theorem GY(n:Nat)(af:n<=1000000)(H:ab):aO prog 63 [.int .i64 n] H (.int .i64<|bY n):=by
 refine bg func63 ?_;repeat' first|(refine ae ?_;simp only[go_sem])|refine ai ?_|fail
 exact bJ<|.of (by rw[zG gf,bS];rfl)
theorem Lj(n q:Nat)(af:n<=1000000)(aM:q<=1000000)(H:ab):aO prog 66 [.int .i64 n,.int .i64 q] H (.int .i64<|hV n q):=by
 refine bg func66 ?_;have J:=GY n af;have h1:((q:Int)).tmod 2=((q % 2:Nat):Int):=by rw[wR gf];omega
 have hw:IntKind.i64.wrap ((q % 2:Nat):Int)=((q % 2:Nat):Int):=bS;unfold hV;by_cases h:q % 2=0
 ·rw[h]at h1 hw;rw[aC h];refine hH ?_;exact bJ<|.of rfl
 ·have hd:decide (((q % 2:Nat):Int)=0)=false:=dA;rw[ar h];refine hH ?_;exact bJ<|.of rfl
theorem O6(n:Nat)(af:n<=1000000)(H:ab):aO prog 65 [.int .i64 n] H (.int .i64 (2 * bY n:Nat)):=by
 refine bg func65 ?_;have J:=GY n af;have hw:IntKind.i64.wrap (2 * (bY n:Int))=((2 * bY n:Nat):Int):=by unfold bY;rw[bS];omega
 refine hH ?_;exact bJ<|.of rfl
theorem X3(n:Nat)(af:n<=1000000000)(s:al)(hs:s.length<=1073741824)(H:ab):aO prog 61 [.int .i64 n,.str s] H (if 40000<(nb n s).length then .aN [.str [],.int .i64 130]else .aN [.str (nb n s),.int .i64 0]):=by
 refine bg func61 ?_;have J:=jq (n:=n) gf;have h1:∀H,aO prog 49 [.str [],.sl true [.int .i64 n]] H (.aN [.str (bT n),.int .i64 0]):=λH=>by simpa using Be [] n true gf hW H
 have h2:∀H,aO prog 24 [.str (bT n),.str s] H (.str<|nb n s):=zt (bT n) s gf gf gf
 generalize nb n s=T at *;by_cases ao:40000<T.length
 ·have hd:decide ((40000:Int)<(T.length:Int))=true:=cS;rw[aC ao];refine hH ?_;exact bJ<|.of rfl
 ·have hd:decide ((40000:Int)<(T.length:Int))=false:=dA;rw[ar ao];refine hH ?_;exact bJ<|.of rfl
theorem VL:zX.length=16:=by
 unfold zX wJ;rw[Db _ _ (Gs _ _<|bh _),JV _ _<|bh _];have h1:bT 1=[1]:=by simp[bT,kO]
 have ay:dj []=[0]:=by simp[dj,bT,kO]
 have h2:(nb 1 [])=[1,0]:=by unfold nb;rw[h1,ay];rfl
 have h3:bT 2=[2]:=by simp[bT,kO]
 have h4:(se (bT 1++dj [1,0])).length=8:=by unfold se dj;rw[h1,show List.length ([1,0]:al)=2 from rfl,h3];rfl
 have J:bT 8=[8]:=by simp[bT,kO]
 have U:(qg 1 (nb 1 [])).length=9:=by rw[h2];unfold qg;rw[show ∀t:al,dj t=bT t.length++t from λ_=>rfl,bw,h4,J];rfl
 rw[U]
theorem o9(f g:Bool)(w:cj)(e:Int):eT (.aN [ei f g w,.int .i64 e]) (.aN [ei false false w,.int .i64 e]):=by refine .aN _ _ rfl<|de ?_ (de (.refl _) kZ);refine .agg _ _ rfl ?_;repeat' first|exact kZ|refine de ?_ ?_|exact .refl _|exact .sl _ _
theorem aKV(n:Int)(H:ab):aO prog 31 [.int .i64 n] H (.aN [ei false false (tP n).1,.int .i64 (tP n).2]):=by
 refine bg func31 ?_;have hk:=X2 n;have hd:=aLc n;have lL:(qs n).loose=[]:=rfl;unfold tP;generalize qs n=d at *;obtain⟨k1,k2,k3,k4⟩:=hk.size;obtain⟨z,a1⟩:∃z:Nat,d.size=z:=⟨d.size.toNat,gf⟩;rw[show d.size.toNat=z by omega]
 have Jh:∀H,aO prog 61 [.int .i64 1,.str []] H (.aN [.str (nb 1 []),.int .i64 0]):=λH=>by have:=X3 1 gf [] hW H;rwa[ar (by unfold nb;simp[bT,kO,dj])]at this
 have hK:∀H,aO prog 62 [.int .i64 1,.str<|nb 1 []] H (.aN [.str zX,.int .i64 0]):=λH=>by
  have:=Li 1 (nb 1 []) (by unfold nb;simp[bT,kO,dj]) H
  unfold hE at this;rwa[ar (by unfold nb;simp[bT,kO,dj])]at this
 have U:=VL;have hsz:=GY z gf;have aj:=O6 z gf;have oN:=Lj z 1 gf gf;have dw:IntKind.i64.wrap (((16:Nat):Int).tdiv 16)=1:=rfl;generalize zX=K at *;rw[<-a1]at hsz aj oN;unfold ha at hd;by_cases AT:bY z<1
 ·have T:decide ((bY z:Int)<1)=true:=cS;rw[U];rw[aC gf];repeat' first|(refine ae ?_;simp only[go_sem,U,dw,T])|refine ai ?_|fail
  exact aX<|o9 true true tN 120
 ·have T:decide ((bY z:Int)<1)=false:=dA;rw[U];rw[ar gf];repeat' first|((first|refine mx [6] T2 ?_|refine mx [7] T3 ?_|refine ae ?_);simp only[go_sem,U,dw,T])|refine ai ?_|fail
  obtain⟨J,O⟩:∃J:cj,J={tN with bG:=d,seq:=1,base:=1,next:=1,end_:=(2 * bY z:Nat)}:=⟨_,rfl⟩
  have Nd:I.agg [.int .i64 d.size,.str d.jJ,.sl true<|d.loose.map fa,.int .i64 1,.int .i64 1,.int .i64 1,.int .i64 (2 * bY z:Nat),.int .i64 0,.int .i64 0,.sl true [],.bool false,.int .i64 0,.int .i64 0,.int .i64 0]=ei true true J:=by rw[O];rfl
  rw[<-O,Nd];have V:fI J.bG:=by rw[O];exact hk
  refine qj (GH true true J _) aI ?_;simp only[go_sem];have Z:J.seq=1:=by rw[O]
  have aYH:∀H,aO prog 66 [.int .i64 d.size,.int .i64 1] H (.int .i64<|hV z 1):=oN;have aQj:hV z 1<=1000000:=by have:hV z 1=z / 4:=rfl;omega
  repeat' first|((first|refine mx [6] T2 ?_|refine mx [7] T3 ?_|refine ae ?_);simp only[go_sem,iG,Z])|refine ai ?_|fail
  have vZ:∀A B C,dJ (H.length+3) true true J (H++[A,B,C,.cells 0<|iG true true J (H.length+4),.cells 0 [.ref (H.length+3) 0 0]]):=λA B C=>⟨mZ,mZ⟩
  have ti:=λA B C=>GI (vZ A B C) V (hV z 1) K gf aQj;simp only[iG,Z]at ti;refine Dj (ti _ _ _) aI ?_;have Sw:(gi J (hV z 1) K).1.seq=1:=by unfold gi;split<;>exact Z
  have aPM:fI (gi J (hV z 1) K).1.bG:=by
   unfold gi;have CQ:dz K=1:=by unfold dz;rw[U]
   split
   ·exact Uv V _ _<|by rw[CQ,O,show({tN with bG:=d,seq:=1,base:=1,next:=1,end_:=(2 * bY z:Nat)}:cj).bG.loose=[]from lL];decide
   ·exact V
  simp only[go_sem,Sw];refine a7 ?_;generalize(gi J (hV z 1) K).1=S at *;have aPR:∀f A B C,dJ (H.length+3) f true S (H++[A,B,C,.cells 0<|iG f true S (H.length+4),.cells 0 [.ref (H.length+3) 0 0]]):=λf A B C=>⟨mZ,mZ⟩
  have eh:=λf A B C=>O5 (aPR f A B C) aPM;simp only[iG,Sw]at eh;refine c4 (eh _ _ _ _) aI ?_;rintro v H' ⟨rfl,rfl⟩;simp only[go_sem];refine a7 ?_;have CY:=o9 true true {S with bG:=nR S.bG,iQ:=false} 0
  simp only[ei,Sw]at CY ⊢;exact aX CY
def xS(w:cj)(p:al):cj×Int×Int:=
 if 40000<p.length\/1000000<w.next then(w,0,130)else({w with waits:=w.waits++[p],next:=IntKind.i64.wrap (w.next+1)},w.next,0)
def qa(n:Int):List al->al×Int
 |[]=>([],0)
 |p::l=>if(hE n p).2=0 then((hE n p).1++(qa (n+1) l).1,(qa (n+1) l).2)else([],(hE n p).2)
def x6(w:cj):cj:={w with bG:=nR w.bG,iQ:=false}
def gu(w:cj):cj:=if w.iQ=true then x6 w else w
def qb(w:cj):cj×Int:=
 if w.marked≠0 then(w,140)else
 let s:=qa (w.eB+1) w.waits
 if s.2≠0 then(w,s.2)else
 if w.bG.size-w.end_<((s.1.length / 16:Nat):Int)then(w,120)else
 if w.waits=[]then(w,0)else
 let x:=gi (gu w) w.end_.toNat s.1
 if x.2≠0 then(w,x.2)else({x.1 with end_:=w.end_+(s.1.length / 16:Nat),eB:=w.next-1,waits:=[]},0)
def n7(w:cj):cj:=
 let x:=x6 w
 if w.marked≠0 then{x with marked:=2,kept:=max w.eB (w.fP-1)}else{x with kept:=w.eB}
def uY(w:cj)(state:al):cj×Int:=
 if w.marked≠0 then(w,140)else
 if 200<=w.seq then(w,193)else
 if 40000<(nb w.next.toNat state).length then(w,130)else
 let s:=hE (w.seq+1)<|nb w.next.toNat state
 if s.2≠0 then(w,s.2)else
 if bY w.bG.size.toNat<s.1.length / 16 then(w,120)else
 let x:=gi (gu w) (hV w.bG.size.toNat (w.seq+1).toNat) s.1
 if x.2≠0 then(w,x.2)else({x.1 with marked:=1,fP:=w.next,lg:=w.waits.length},0)
def tw(w:cj):cj×Int:=
 if w.marked≠2\/qM w.bG=false then(w,140)else
 let a:=2 * bY w.bG.size.toNat
 let y:={w with seq:=w.seq+1,base:=w.fP,end_:=(a:Nat),eB:=max w.eB<|w.fP-1,waits:=w.waits.drop (min (max w.lg 0) w.waits.length).toNat}
 ({(gi y a (fM<|(w.bG.size.toNat-a) * 16)).1 with iQ:=true,marked:=0,fP:=0,lg:=0},0)
def Vv:List cK:=[.aQ,.aQ,.ah 0,.ah 0,.ah 0,.ah 0,.aQ,.ah 0,.ah 0,.ah 0,.ah 0,.aQ,.ah 0,.ah 0,.ah 0,.ah 0,.bW [false,true,true]]
attribute [go_sem] Vv
theorem Ov(f g:Bool)(w:cj):eT (ei f g w) (ei false false w):=by refine .agg _ _ rfl ?_;repeat' first|exact kZ|refine de ?_ ?_|exact .refl _|exact .sl _ _
theorem aHA(f g:Bool)(w:cj)(n e:Int):eT (.aN [ei f g w,.int .i64 n,.int .i64 e]) (.aN [ei false false w,.int .i64 n,.int .i64 e]):=
 .aN _ _ rfl (de (Ov f g w)<|de (.refl _) (de (.refl _) kZ))
theorem aJb(w:cj){s t:I}(hs:eT s (.sl false<|w.bG.loose.map fa):=by exact .sl _ _)(h:cJ n H t (.sl false<|w.waits.map I.str))(ad:b9 s:=by simp only[go_sem]):
  cJ n H (.agg [.int .i64 w.bG.size,.str w.bG.jJ,s,.int .i64 w.seq,.int .i64 w.base,.int .i64 w.next,.int .i64 w.end_,.int .i64 w.eB,.int .i64 w.kept,t,.bool w.iQ,.int .i64 w.marked,.int .i64 w.fP,.int .i64 w.lg]) (ei false false w):=by
 refine .agg _ _ rfl ?_;repeat' first|exact fx|refine ds ?_ ?_|exact .cl _ (.int _ _)|exact .cl _ (.bool _)|exact .cl _ (.str _)|exact h|exact eT.qR hs ad
theorem O7(n:Nat)(af:n<=1000000)(H:ab):aO prog 108 [.int .i64 n] H (.str<|fM (n * 16)):=by
 refine bg func108 ?_;have hw:IntKind.i64.wrap ((n:Int) * 16)=((n * 16:Nat):Int):=by rw[bS];omega
 refine hH ?_;exact aX<|.refl _
theorem VM(J:dJ i f g w G)(hk:fI w.bG):
  cV prog 136 [.ref i 0 0] G (λv H'=>v=.aN []/\H'=an G i (.cells 0<|iG (f||w.iQ) g (gu w) (i+1))):=by
 refine mS func136 ?_;have g0:=J.aW;have aA:=O5 J hk;unfold gu;cases hd:w.iQ with
 |false=>
  have U:=kf J.aW trivial;unfold iG at g0;repeat' first|(refine ae ?_;simp only[go_sem,g0,hd])|refine ai ?_|fail
  exact U.symm
 |true=>
  unfold iG at g0;refine hH ?_;refine c4 aA aI ?_;rintro v H' ⟨rfl,rfl⟩;simp only[go_sem];repeat' first|(refine ae ?_;simp only[go_sem])|refine ai ?_|fail
  rfl
theorem aFB(f g:Bool)(w:cj)(p:al)(af:w.waits.length<=1000000)(ad:p.length<=1073741824)(H:ab):
  aO prog 123 [ei f g w,.str p] H (.aN [ei false false (xS w p).1,.int .i64 (xS w p).2.1,.int .i64 (xS w p).2.2]):=by
 refine bg func123 ?_;unfold xS;by_cases U:40000<p.length\/1000000<w.next
 ·have ao:(decide ((40000:Int)<(p.length:Int))||decide (1000000<w.next))=true:=nc
  rw[aC U];refine bL ei.eq_1 ?_;exact aX<|aHA f g w 0 130
 ·have ao:(decide ((40000:Int)<(p.length:Int))||decide (1000000<w.next))=false:=nc
  rw[ar U];have ag:List.take w.waits.length (w.waits.map I.str)=w.waits.map I.str:=qy hW;have J:(∀x:I,x∈w.waits.map I.str->x.cells.length=1)=True:=b1 λx J=>by obtain⟨y, -,rfl⟩:=bP.1 J;rfl
  have he:(∀e:I,e=I.str p->e.cells.length=1)=True:=b1 λe h=>by rw[h];rfl
  have K:((w.waits.length+1) * 16<=140737488355328)=True:=b1 gf;refine bL ei.eq_1 ?_;refine⟨_,.aN [ei false false {w with waits:=w.waits++[p],next:=IntKind.i64.wrap (w.next+1)},.int .i64 w.next,.int .i64 0],rfl,.aN _ _ rfl<|ds (aJb {w with waits:=w.waits++[p],next:=IntKind.i64.wrap (w.next+1)} (s:=.sl f (w.bG.loose.map fa)) (.sl _ _) ?_ mZ) (ds (.cl _ (.int _ _)) (ds (.cl _ (.int _ _)) fx)),rfl⟩
  refine q8 (es:=(w.waits++[p]).map I.str) (rest:=[]) gf (by simp only[go_sem];rfl) (by simp;rfl) hW (λe he=>by obtain⟨y, -,rfl⟩:=bP.1 he;rfl) (λe he=>by obtain⟨y, -,rfl⟩:=bP.1 he;simp only[go_sem])
theorem X4(f g:Bool)(w:cj)(hk:fI w.bG)(J:IntKind.i64.wrap (w.fP-1)=w.fP-1)(H:ab):aO prog 84 [ei f g w] H (ei false false<|n7 w):=by
 refine bg func84 ?_;refine bL ei.eq_1 ?_;refine c4 (GH f g w _) aI ?_;rintro v H' ⟨rfl,rfl⟩;simp only[go_sem];refine a7 ?_;have U:∀A B C,dJ (H.length+3) f g w (H++[A,B,C,.cells 0<|iG f g w (H.length+4),.cells 0 [.ref (H.length+3) 0 0]]):=λA B C=>⟨mZ,mZ⟩
 refine c4 (O5 (U _ _ _) hk) aI ?_;rintro v H' ⟨rfl,rfl⟩;simp only[go_sem,iG];repeat' first|((first|refine mx [6] Vv ?_|refine ae ?_);simp only[go_sem])|refine bp ?_|(refine bz ?_ ?_<;>intro h<;>try exact bx h)|fail
 ·have hm:¬w.marked=0:=oq h;unfold n7;rw[aC hm];have hd:IntKind.i64.wrap (w.fP-1)=w.fP-1:=J;rw[hd];exact aX<|Ov true g {x6 w with marked:=2,kept:=max w.eB (w.fP-1)}
 ·have hm:w.marked=0:=oq h;unfold n7;rw[ar (oq hm)];exact aX<|Ov true g {x6 w with kept:=w.eB}
def kB(l:List aH)(dir:Int)(s:al):Option Int:=(fz l dir s).map (·.id)
theorem N1(l:List aH)(a:Int)(s:al)(J:List al):iU l a (s::J)=if dv a=true then(match kB l a s with|some i=>iU l i J|none=>(0,80))else(0,81):=by grind [iU,kB,fz]
theorem Uw{A B:List aH}{x:aH}{dir:Int}(h:x.parent≠dir):fA (A++x::B) dir=fA (A++B) dir:=by
 have:px dir x=false:=by unfold px;rw[b0 h];rfl
 simp[fA,mo,this]
theorem aEZ{l:List aH}(aA:ml l){o:bk}(O:refused l o=false)(hk:o.kind=1){h:Int}(h1:h≠o.parent)(h2:∀n,fi l o.node=some n->n.parent≠h)(s):fz (eo l o) h s=fz l h s:=by
 unfold fz;rw[(Lo _ _)];congr 2;rw[ya O];have ad:(jI l o).parent≠h:=by grind [NI]
 have U:=Gg l o;obtain⟨A,B,K,V,S,T,⟨e,Z⟩|⟨n,af,e, -⟩⟩:=Le aA.cG o.node
 ·rw[sC,nd,U,<-S,<-T,c6,KU,Uw ad,<-e]
 ·obtain⟨x,J⟩:∃x,jI l o=x:=⟨_,rfl⟩;rw[J]at U ad ⊢;rw[e,P2 (by rw[U];exact K) j9,Uw ad,Uw<|h2 n (by rw[e];exact G4 K af)]
theorem UN{l:List aH}(aA:ml l){o:bk}(hk:o.kind=2)(U:cp o=true)(K:∃n∈l,n.id=o.node)(h)(s):kB (eo l o) h s=kB l h s:=by
 obtain⟨J, -⟩:=W6 aA hk U K;unfold kB;rw[J,aLt (λn=>(OB _ n).2.1) (λn=>(OB _ n).2.2.1) (λn=>(OB _ n).2.2.2) _ (by rw[<-J,Lo]),zK]
 congr 1;funext n;exact(OB o n).1
theorem aJc{l:List aH}{names:List al}(h:vd l names t=⟨3,0⟩):∃here,t.has=[here]/\((fp l names).2=0->dv (fp l names).1=true->(fp l names).1=here):=by unfold vd at h;grind
theorem X5{has:List Int}:∀{bO:List Int},nF has bO=⟨3,0⟩->∀k∈bO,k∈has
 |[],_,k,h=>j9
 |a::bO,h,k,hk=>by
  unfold nF at h;split at h
  ·rename_i J;rcases db.1 hk with rfl|hk
   ·simpa using J
   ·exact X5 h k hk
  ·cases h
theorem Qs{l:List aH}(hd:t.done=false)(h:fX l t=⟨3,0⟩):
  (fZ t.call=true->∀k∈iH l t.call,k∈t.has)/\(fZ t.call=false->hB t.call=true->∃here,t.has=[here]/\((fp l (hQ t.call)).2=0->dv (fp l<|hQ t.call).1=true->(fp l (hQ t.call)).1=here)):=by
 unfold fX at h;split at h
 ·cases h
 rw[ar j9]at h;refine⟨λag=>?_,λag hw=>?_⟩
 ·rw[aC ag]at h;exact X5 h
 ·rw[ar j9,aC hw]at h;exact aJc h
theorem PM{l:List aH}{p:al}{J:List al}{s:al}(af:gD p=some (J++[s]))(aA:fp l J=(d,0))(hd:dv d=true):gv l p=some d:=by grind [gv,List.dropLast_concat,List,Int,gD,fp,dv]
theorem aHB:d∈jQ br (some d):=by unfold jQ;simp;split<;>simp_all
theorem aHC:∀x∈br,∀o,x∈jQ br o:=λx J o=>by
 ·unfold jQ;split
  ·split<;>simp_all
  ·exact J
theorem Ux{l:List aH}{p:al}(ad:p∈nt c)(h:gv l p=some d):d∈iH l c:=by
 have key:∀(ps:List al) (br:List Int),(d∈br\/p∈ps)->d∈ps.foldl (λbr p=>jQ br<|gv l p) br:=by
  intro ps;induction ps with
  |nil=>intro br h;simpa using h
  |cons q ps U=>
   intro br J;refine U _ ?_;rcases J with J|J
   ·exact .inl<|aHC _ J _
   ·grind [db,aHB]
 exact lU _<|(TG l (zr l c)).mem_iff.2 (key _ _ (.inr ad))
theorem PN{l:List aH}(aA:ml l){p:al}{id:Int}(ad:p≠[47])(h:ft l p=(id,0)):∃J s d n,gD p=some (J++[s])/\fp l J=(d,0)/\dv d=true/\fz l d s=some n/\n.id=id/\n.parent=d/\fi l id=some n:=by
 unfold ft at h;cases af:gD p with
 |none=>rw[af]at h;cases h
 |some J=>
  rw[af]at h;rcases List.eq_nil_or_concat J with rfl|⟨xs,s,rfl⟩
  ·exact absurd (aEd af) ad
  ·simp only at h;unfold fp at h;rw[List.concat_eq_append,aLJ]at h;split at h
   ·rename_i ay;obtain⟨d,hd⟩:∃d,iU l 0 xs=(d,0):=⟨_,Prod.ext rfl ay⟩;rw[hd]at h;simp[iU]at h;split at h
    ·rename_i U;split at h
     ·rename_i n ao;obtain⟨h1,h2,h3⟩:=GB ao;refine⟨xs,s,d,n,hW,hd,U,ao,(Prod.mk.inj h).1,h3,?_⟩;rw[<-(Prod.mk.inj h).1];exact Lg aA.cG h2
     ·cases h
    ·cases h
   ·rename_i ay;rw[h]at ay;exact absurd rfl ay
inductive zN (l:List aH) (t:bF) (hZ:List aH):List bk->Prop
 |none (h:hZ=l):zN l t hZ []
 |born (o:bk) (n:aH) (hk:o.kind=1) (ad:o.parent∈t.has) (af:∀x∈l,x.id<o.node/\x.parent≠o.node) (ag:fZ t.call=false) (hl:hZ=l++[n]) (hi:n.id=o.node) (aM:n.parent=o.parent) (aT:o.parent≠o.node) (ay:fz l o.parent n.name=Option.none) (ao:fz (l++[n]) n.parent n.name=some n) (hd:dv o.parent=true):zN l t hZ [o]
 |wrote (o:bk) (hk:o.kind=2) (aD:cp o=true) (n:aH) (af:fi l o.node=some n) (ad:n.parent∈t.has) (ag:fZ t.call=false) (hl:hZ=eo l o):zN l t hZ [o]
 |gx (o:bk) (hk:o.kind=1) (n:aH) (af:fi l o.node=some n) (ad:n.parent∈t.has) (aM:o.parent=2\/o.parent∈t.has) (ag:fZ t.call=true) (h1:(1:Int)∈t.has) (aw:refused l o=false) (hl:hZ=eo l o):zN l t hZ [o]
theorem aLu{m:di}(h:fJ m)(hd:t.done=false)(h3:fX m.log.nodes t=⟨3,0⟩)(hk:t.call.kind≠13\/(eM m t.call).2.1.err≠0):zN m.log.nodes t (eM m t.call).1.log.nodes (eM m t.call).2.2:=by
 by_cases he:(eM m t.call).2.1.err=0
 ·obtain⟨ao,hw⟩:=ZT he;have hk:t.call.kind≠13:=hk.resolve_right λh=>h he;obtain⟨V,M4⟩:=Qs hd h3;have S:=h.nodes.lA;by_cases k1:t.call.kind=1\/t.call.kind=2
  ·have ag:fZ t.call=false:=by unfold fZ;rw[dA,dA,dA];rfl
   have j2:hB t.call=true:=by unfold hB;rcases k1 with e|e<;>rw[e]<;>rfl
   obtain⟨dir,s,k⟩:=aNb h k1 he;obtain⟨here,ak,J⟩:=M4 ag j2;obtain⟨Z,af,aA,eH⟩:=Pg k.aMO;have dQ:hQ t.call=Z:=by unfold hQ;rw[af];simp only;rw[ar gf,List.dropLast_concat]
   rw[dQ,aA]at J;have e:=J rfl eH;rw[k.aNG];refine .born _ (xo m t.call dir s) rfl ?_ (λx J=>?_) ag k.nodes rfl rfl k.ne k.none_ k.child eH
   ·show dir∈t.has;rw[ak];exact dH.2 e
   ·refine⟨?_,(k.new x J).2⟩;have ad:=((zl _).1 k.aNm).2;rw[List.pairwise_append]at ad;exact ad.2.2 x J _<|dH.2 rfl
  by_cases k3:t.call.kind=3
  ·have ag:fZ t.call=false:=by unfold fZ;rw[k3];rfl
   have j2:hB t.call=true:=by unfold hB;rw[k3];rfl
   obtain⟨here,ak,J⟩:=M4 ag j2;have U:jD t.call ⟨m,dD,[]⟩=Aa t.call ⟨m,dD,[]⟩:=by unfold jD;rw[ar gf,aC k3]
   rw[U]at hw;rcases Qw (c:=t.call) (d:=⟨m,dD,[]⟩) h (QJ ao k3)with⟨e,he,ax⟩|⟨id,ax,K,aU,bf,O⟩
   ·rw[ax]at hw;exact absurd hw he
   simp only at ax aU bf O;have CV:t.call.path≠[47]:=λe=>by rw[e]at ax;have:ft m.log.nodes [47]=(0,0):=rfl;rw[this]at ax;cases ax;cases K
   obtain⟨Z,s,d,n,I,z,bC,cD,ej,kr,wC⟩:=PN S CV ax;have dQ:hQ t.call=Z:=by unfold hQ;rw[I];simp only;rw[ar gf,List.dropLast_concat]
   rw[dQ,z]at J;have e:=J rfl bC;have lH:eM m t.call=(Kh m (wB m<|Is m t.call id),dD,[Is m t.call id]):=by
    unfold eM;rw[ar (by rw[ao];simp),U,O]
    rfl
   rw[lH];exact .wrote _ rfl bf n wC (by rw[ak,kr,<-e];exact dH.2 rfl) ag<|HU h aU bf rfl
  have y9:∀{id dir:Int} {s:al},(gJ m).2=0->cp (sQ m id dir s)=true->jD t.call ⟨m,dD,[]⟩=Cr ⟨m,dD,[]⟩ (sQ m id dir s)->eM m t.call=(Kh m (wB m<|sQ m id dir s),dD,[sQ m id dir s]):=λ_ _ e=>by
   unfold eM;rw[ar (by rw[ao];simp),e]
   rfl
  by_cases gQ:t.call.kind=5
  ·have ag:fZ t.call=true:=by unfold fZ;rw[gQ];rfl
   have U:jD t.call ⟨m,dD,[]⟩=Ad t.call ⟨m,dD,[]⟩:=by unfold jD;rw[ar gf,ar gf,ar gf,aC gQ]
   rw[U]at hw;rcases QF (c:=t.call) (d:=⟨m,dD,[]⟩) h with⟨e,he,ax⟩|⟨id,dir,s,cw,cL,ax,K,aU,eA,fr,T,bf,O⟩
   ·rw[ax]at hw;exact absurd hw he
   simp only at ax K aU fr T bf O;obtain⟨Z,oY,d,n,I,z,bC,cD,ej,kr,wC⟩:=PN S cw ax;obtain⟨aYU,aS,aY,a6⟩:=Pg K;have p4:nt t.call=[t.call.path,t.call.to]:=by unfold nt;rw[aC gQ]
   rw[y9 T bf (by rw[U,O])]
   refine .gx _ rfl n wC ?_ (.inr ?_) ag (V ag _<|by simp[iH]) ?_ (HU h T bf rfl)
   ·rw[kr];exact V ag _<|Ux (by rw[p4];simp) (PM I z bC)
   ·exact V ag _<|Ux (p:=t.call.to) (by rw[p4];simp) (PM aS aY a6)
   ·unfold refused;rw[S.cG,bf];have j1:n4 m.log.nodes dir=hS m.log.nodes dir:=aC S.cG;rw[j1]at fr;have:uT m.log.nodes (sQ m id dir s)=false:=by
     unfold uT;show(decide (dir=id)||_)=false
     rw[b0 eA,DT];rw[DW];intro x J e;have K:x=id:=nI e;rw[K]at J;have J:id∈hS m.log.nodes dir:=J;have:(hS m.log.nodes dir).contains id=true:=oq J;rw[this]at fr;cases fr
    rw[this];rfl
  by_cases re:t.call.kind=6
  ·have ag:fZ t.call=true:=by unfold fZ;rw[re];rfl
   have U:jD t.call ⟨m,dD,[]⟩=BA t.call ⟨m,dD,[]⟩:=by unfold jD;rw[ar gf,ar gf,ar gf,ar gf,aC re]
   rw[U]at hw;rcases Qr (c:=t.call) (d:=⟨m,dD,[]⟩) h with⟨e,he,ax⟩|⟨id,s,cw,ax, -,T,bf,O⟩
   ·rw[ax]at hw;exact absurd hw he
   simp only at ax T bf O;obtain⟨Z,oY,d,n,I,z,bC,cD,ej,kr,wC⟩:=PN S cw ax;have p4:nt t.call=[t.call.path]:=by unfold nt;rw[ar gf,aC re]
   rw[y9 T bf (by rw[U,O])]
   refine .gx _ rfl n wC ?_ (.inl rfl) ag (V ag _<|by simp[iH]) ?_ (HU h T bf rfl)
   ·rw[kr];exact V ag _<|Ux (by rw[p4];simp) (PM I z bC)
   ·have jh:=QE bf;unfold refused;rw[S.cG,bf];have h2:hS m.log.nodes 2=[]:=by
     unfold hS;cases m.log.nodes.length with
     |zero=>rfl
     |succ k=>
      have:fi m.log.nodes 2=none:=by unfold fi;rw[List.find?_eq_none];intro x J e;have K:x.id=2:=oq e;have:=Ce S J;rw[K]at this;cases this
      unfold k0;rw[this]
    have:uT m.log.nodes (sQ m id 2 s)=false:=by
     unfold uT;show(decide ((2:Int)=id)||(hS m.log.nodes 2).any _)=false
     rw[h2,b0 (λe=>by have:=jh.2.2.2.2.2.2.1;rw[show(sQ m id 2 s).node=id from rfl,<-e]at this;cases this)]
     rfl
    rw[this];rfl
  ·have hs:=PC h t.call;generalize eM m t.call=r at hs he ⊢;cases hs with
   |err e vR=>exact .none rfl
   |put o eO=>omega
   |oT nA a aG h1=>rw[h1];exact .none rfl
   |merge l eO=>exact absurd eO hk
 ·have hs:=PC h t.call;generalize eM m t.call=r at hs he hk ⊢;cases hs with
  |err e vR=>exact .none rfl
  |put o eO=>exact absurd rfl he
  |oT nA a aG=>exact absurd aG he
  |merge l eO=>exact absurd rfl he
theorem aLv{l:List aH}(aA:ml l)(gb:ml hZ)(h:zN l t hZ ops)(h1:d∉t.has)(h2:d≠2)(s):kB hZ d s=kB l d s:=by
 cases h with
 |none h=>rw[h]
 |born o n hk ad af ag hl hi aM aT ay ao hd=>rw[hl]at gb ⊢;unfold kB;rw[Pf gb.cG aA.cG (λe=>h1 j9)]
 |wrote o hk J n af ad ag hl=>rw[hl];exact UN aA hk J ⟨n,(B6 af).1,(B6 af).2⟩ d s
 |gx o hk n af ad aM ag K U hl=>rw[hl];unfold kB;rw[aEZ aA U hk (λe=>j9) (λm hm e=>j9)]
section
variable {l:List aH} {n:aH} (aA:ml l) (gb:ml (l++[n])) (af:∀x∈l,x.id<n.id/\x.parent≠n.id) (aT:n.parent≠n.id) (ay:fz l n.parent n.name=none) (ao:fz (l++[n]) n.parent n.name=some n)
include aA gb ay in
theorem aFC{names:List al}(h:iU l x names=(d,0)):iU (l++[n]) x names=(d,0):=
 aLs (λy s m hm=>⟨m,by rw[Pf gb.cG aA.cG (λe=>by rw[<-e.1,<-e.2,ay]at hm;cases hm)];exact hm,rfl⟩) names x d h
include aA gb af aT ao in
theorem VN:∀(names:List al) {x d:Int},x≠n.id->iU (l++[n]) x names=(d,0)->iU l x names=(d,0)\/d=n.id
 |[],x,d,_,h=>.inl h
 |s::names,x,d,J,h=>by
  rw[N1]at h ⊢;split at h
  ·rename_i S;rw[aC S];by_cases K:n.parent=x/\n.name=s
   ·cases aM:kB (l++[n]) x s with
    |none=>rw[aM]at h;cases h
    |some i=>
     rw[aM]at h;simp only at h;have hi:i=n.id:=by unfold kB at aM;rw[<-K.1,<-K.2,ao]at aM;exact(tH aM).symm
     subst hi;right;cases names with
     |nil=>exact(Prod.mk.inj h).1.symm
     |cons s2 V=>
      rw[N1]at h;split at h
      ·cases O:kB (l++[n]) n.id s2 with
       |none=>rw[O]at h;cases h
       |some j=>
        unfold kB at O;obtain⟨z,T, -⟩:=gA.1 O;obtain⟨-,U,z2⟩:=GB T;rcases fH.1 U with U|U
        ·exact absurd z2 (af _ U).2
        ·rw[dH]at U;subst U;exact absurd z2 aT
      ·cases h
   ·have e:kB (l++[n]) x s=kB l x s:=by unfold kB;rw[Pf gb.cG aA.cG K]
    rw[e]at h;cases aM:kB l x s with
    |none=>rw[aM]at h;cases h
    |some i=>rw[aM]at h;simp only at h ⊢;refine VN names ?_ h;unfold kB at aM;obtain⟨m,hm,rfl⟩:=gA.1 aM;have:=(af m (GB hm).2.1).1;omega
  ·cases h
include aA af in
theorem aHD(J:x≠n.id):par (l++[n]) x=par l x:=by
 unfold par;have:fi (l++[n]) x=fi l x:=by
  unfold fi;rw[List.find?_append];cases List.find? (λn=>decide<|n.id=x) l with
  |some m=>rfl
  |none=>(simp;exact λe=>J e.symm)
 rw[this]
include aA gb af in
theorem T4(J:x≠n.id):n4 (l++[n]) x=n4 l x/\n.id∉n4 l x:=by
 have U:∀y,y≠n.id->∀p,par l y=some p->p≠n.id:=λy _ p ad e=>by
  unfold par at ad;split at ad
  ·cases ad
  ·rename_i m hm;split at ad
   ·cases ad
   ·cases ad;exact(af m (B6 hm).1).2 e
 unfold n4;rw[aC aA.cG,aC gb.cG];refine⟨?_,λh=>Wd (C:=λy=>y≠n.id) U _ x J _ h rfl⟩;have h1:=Vf (l:=l) (a:=l++[n]) (C:=λy=>y≠n.id) U (λy K=>aHD aA af K) (l++[n]).length x J;have h2:=Gh aA.wf (k:=(l++[n]).length) hW x;unfold hS at h2 ⊢;rw[h1,h2]
include aA gb af aT ay ao in
theorem aHE(p:al):(∀d,gv l p=some d->gv (l++[n]) p=some d)/\(∀d,gv (l++[n]) p=some d->gv l p=some d\/d=n.id):=by
 unfold gv;cases gD p with
 |none=>exact⟨λ_ h=>(p2 h),λ_ h=>(p2 h)⟩
 |some U=>
  cases U with
  |nil=>exact⟨λ_ h=>(p2 h),λ_ h=>(p2 h)⟩
  |cons x xs=>
   simp only;refine⟨λd h=>?_,λd h=>?_⟩
   ·split at h
    ·rename_i J;cases h;have e:fp l (x::xs).dropLast=((fp l (x::xs).dropLast).1,0):=Prod.ext rfl J.1;have:=aFC aA gb ay e;unfold fp at this ⊢;rw[this,aC ⟨rfl,J.2⟩]
    ·cases h
   ·split at h
    ·rename_i J;cases h;have e:iU (l++[n]) 0 (x::xs).dropLast=((fp (l++[n]) (x::xs).dropLast).1,0):=Prod.ext rfl J.1;have K:(0:Int)≠n.id:=λe=>by
      have:=Ce gb (n:=n) hW;rw[<-e]at this;cases this
     rcases VN aA gb af aT ao _ K e with q|q
     ·left;unfold fp at q J ⊢;rw[q,aC ⟨rfl,oq J.2⟩]
     ·exact .inr q
    ·cases h
include aA gb af aT ay ao in
theorem aEE(c:cg):iH l c<+:iH (l++[n]) c:=by
 have hd:=λp=>aHE aA gb af aT ay ao p;have K:∀p d,gv l p=some d->d<n.id:=λp d h=>by
  unfold gv at h;split at h
  ·split at h
   ·rename_i x xs _ V;cases h;rcases QL (l:=l) (names:=(x::xs).dropLast) (d:=(fp l (x::xs).dropLast).1) (Prod.ext rfl V.1)with⟨-,e⟩|⟨m,hm,e⟩
    ·rw[e];have:=Ce gb (n:=n) hW;have:=(BB.1 this).1;omega
    ·rw[<-e];exact(af m hm).1
   ·cases h
  ·cases h
 have S:∀{a b:Int},a≠n.id->oH (l++[n]) b a=oH l b a:=λJ=>by unfold oH;rw[(T4 aA gb af J).1]
 have T:∀{a:Int},a≠n.id->oH (l++[n]) n.id a=false:=λJ=>by unfold oH;rw[(T4 aA gb af J).1];have:=(T4 aA gb af J).2;simpa using this
 unfold iH zr nt;refine(List.prefix_cons_inj 1).2 ?_;have one:∀p,nQ l ([p].foldl (λbr p=>jQ br<|gv l p) [])<+:nQ (l++[n]) ([p].foldl (λbr p=>jQ br<|gv (l++[n]) p) []):=λp=>by
  simp only[qC,Hg];cases h:gv l p with
  |none=>exact List.nil_prefix
  |some d=>rw[(hd p).1 d h];exact oh _
 split
 ·simp only[qC,Hg];cases J:gv l c.path with
  |some a=>
   rw[(hd _).1 a J];cases U:gv l c.to with
   |some b=>
    rw[(hd _).1 b U];have h1:=K _ _ J;have h2:=K _ _ U;have h3:=S (a:=a) (b:=b) gf;have h4:=S (a:=b) (b:=a) gf;simp only[jQ,List.contains_nil,mM,gB,jb];split
    ·exact oh _
    ·simp only[mf,jb,nQ,h3,h4];exact oh _
   |none=>
    cases Z:gv (l++[n]) c.to with
    |none=>exact oh _
    |some I=>
     rcases(hd _).2 I Z with q|q
     ·rw[U]at q;cases q
     ·have h1:=K _ _ J;subst q;have h3:=T (a:=a) gf;have h4:¬n.id<a:=gf;have O:¬n.id=a:=gf;simp[jQ,nQ,h3,h4,O]
  |none=>
   cases U:gv l c.to with
   |none=>simp[jQ,nQ]
   |some b=>
    rw[(hd _).1 b U];have h1:=K _ _ U;cases z:gv (l++[n]) c.path with
    |none=>exact oh _
    |some cQ=>
     rcases(hd _).2 cQ z with q|q
     ·rw[J]at q;cases q
     ·subst q;have h3:=T (a:=b) gf;have O:¬b=n.id:=gf;simp[jQ,nQ,h3,h1,O]
 ·split
  ·exact one _
  ·exact oh _
end
theorem aEA{l:List aH}(aA:ml l){o:bk}(hk:o.kind=2)(U:cp o=true)(K:∃n∈l,n.id=o.node)(c):iH (eo l o) c=iH l c:=by
 obtain⟨V,S⟩:=W6 aA hk U K;have ad:∀(J) (x),iU (eo l o) x J=iU l x J:=by
  intro J;induction J with
  |nil=>intro x;rfl
  |cons s J T=>
   intro x;rw[N1,N1,(UN aA hk U K)];cases kB l x s with
   |none=>rfl
   |some i=>simp only[T]
 have hd:∀p,gv (eo l o) p=gv l p:=λp=>by unfold gv fp;simp only[ad]
 have O:∀a b,oH (eo l o) a b=oH l a b:=λa b=>by unfold oH n4;rw[Lo,aC aA.cG,aC aA.cG];have e:(eo l o).length=l.length:=j9;have:=Vf (λ_ _ _ _=>trivial) (λy _=>We aA.cG S hk y) l.length b trivial;unfold hS;rw[e,this]
 have hO:∀br,nQ (eo l o) br=nQ l br:=λbr=>by
  unfold nQ;split
  ·rw[O,O]
  ·rfl
 unfold iH zr;rw[hO];simp only[hd]
theorem aLw{l:List aH}(aA:ml l)(gb:ml hZ)(h:zN l t hZ ops)(ag:fZ t.call=false)(c):iH l c<+:iH hZ c:=by
 cases h with
 |none h=>rw[h];exact oh _
 |born o n hk ad af ag hl hi aM aT ay ao hd=>rw[hl]at gb ⊢;exact aEE aA gb (λx J=>j9) gf j9 ao c
 |wrote o hk K n af ad ag hl=>rw[hl,aEA aA hk K ⟨n,(B6 af).1,(B6 af).2⟩];exact oh _
 |gx o hk n af ad aM U=>rw[ag]at U;cases U
structure ov (l:List aH) (t:bF):Prop where
 ended:t.ended=true->t.done=true/\t.has=[]
 walk:t.done=false->hB t.call=true->t.has.length<=2/\0<=t.at_/\t.at_<=16/\(t.has=[]->t.at_=0)/\∀k∈t.has,k≠1/\k≠2/\0<=k
 nE:t.done=false->fZ t.call=true->t.has<+:iH l t.call
 plain:t.done=false->hB t.call=false->fZ t.call=false->t.has=[]
theorem W8(h:hB c=true):fZ c=false:=by
 cases ag:fZ c with
 |false=>rfl
 |true=>rw[U3 ag]at h;cases h
theorem Dy(t)(k):(dE t ⟨1,k⟩).has=t.has++[k]/\(dE t ⟨1,k⟩).call=t.call/\(dE t ⟨1,k⟩).done=t.done/\(dE t ⟨1,k⟩).ended=t.ended/\(dE t ⟨1,k⟩).upto=t.upto/\(dE t ⟨1,k⟩).bZ=t.bZ/\(dE t ⟨1,k⟩).mU=t.mU/\(dE t ⟨1,k⟩).mark=t.mark/\(dE t ⟨1,k⟩).end_=t.end_/\
  (dE t ⟨1,k⟩).at_=if t.has.length=1/\hB t.call=true then IntKind.i64.wrap (t.at_+1)else t.at_:=by
 exact⟨rfl,rfl,rfl,rfl,rfl,rfl,rfl,rfl,rfl,rfl⟩
theorem JJ(t)(k):(dE t ⟨2,k⟩).has=t.has.filter (λx=> !decide (x=k))/\(dE t ⟨2,k⟩).call=t.call/\(dE t ⟨2,k⟩).done=t.done/\(dE t ⟨2,k⟩).ended=t.ended/\(dE t ⟨2,k⟩).upto=t.upto/\(dE t ⟨2,k⟩).bZ=t.bZ/\(dE t ⟨2,k⟩).mU=t.mU/\(dE t ⟨2,k⟩).mark=t.mark/\(dE t ⟨2,k⟩).end_=t.end_/\
  (dE t ⟨2,k⟩).at_=if t.has.filter (λx=> !decide (x=k))=[]/\t.done=false/\hB t.call=true then 0 else t.at_:=by
 exact⟨rfl,rfl,rfl,rfl,rfl,rfl,rfl,rfl,rfl,rfl⟩
theorem P6{has bO:List Int}(af:bO.Nodup)(ad:has<+:bO)(h:nF has bO=⟨1,k⟩):k∉has/\has++[k]<+:bO:=by
 obtain⟨rest,rfl⟩:=ad;rw[Yc _ _ (λy h=>h)]at h;cases rest with
 |nil=>cases h
 |cons a r=>have U:=λJ=>(List.nodup_append.1 af).2.2 a J a hW rfl;rw[OV j9]at h;cases h;exact⟨U,⟨r,hW⟩⟩
theorem JY{has:List Int}:∀(bO:List Int),(nF has bO).kind=1\/nF has bO=⟨3,0⟩
 |[]=>.inr rfl
 |a::bO=>by
  unfold nF;split
  ·exact JY bO
  ·exact .inl rfl
inductive zW (l:List aH) (names:List al) (t:bF):fk->Prop
 |root (h:t.has=[]):zW l names t ⟨1,0⟩
 |pass (a b:Int) (r:List Int) (h:t.has=a::b::r):zW l names t ⟨2,a⟩
 |down (here i:Int) (s:al) (h:t.has=[here]) (ay:0<=t.at_) (hs:names[t.at_.toNat]?=some s) (ao:kB l here s=some i) (hd:dv i=true):zW l names t ⟨1,i⟩
 |vD (here:Int) (h:t.has=[here]) (aA:(fp l names).2=0) (hd:dv (fp l names).1=true) (af:(fp l names).1≠here) (ao:∀s i,0<=t.at_->names[t.at_.toNat]?=some s->kB l here s=some i->dv i=false):zW l names t ⟨2,here⟩
 |here (here:Int) (h:t.has=[here]):zW l names t ⟨3,0⟩
theorem aEF(l)(names)(t):zW l names t (vd l names t):=by
 unfold vd;split
 ·rename_i h;exact .root h
 ·rename_i h;rw[h];exact .pass _ _ _ h
 ·rename_i here h;have K:∀ao,zW l names t (if(fp l names).2=0/\dv (fp l names).1=true/\(fp l names).1≠here then⟨2,here⟩else⟨3,0⟩):=λao=>by
   split
   ·rename_i h1;exact .vD here h h1.1 h1.2.1 h1.2.2 ao
   ·exact .here here h
  split
  ·rename_i n J;obtain⟨s,hs,ao⟩:=kv.1 J;split at hs
   ·rename_i ay;split
    ·rename_i hd;exact .down here n.id s h ay hs (by unfold kB;rw[ao];rfl) hd
    ·rename_i hd;refine K λO i _ ax U=>?_;rw[hs]at ax;cases ax;unfold kB at U;rw[ao]at U;cases U;simpa using hd
   ·cases hs
  ·rename_i J;refine K λs i ay hs ao=>?_;rw[aC ay,hs]at J;simp at J;unfold kB at ao;rw[J]at ao;cases ao
inductive zR (l:List aH) (t:bF):fk->Prop
 |none (h:t.ended=true):zR l t ⟨0,0⟩
 |back (k:Int) (r:List Int) (h:t.done=true) (he:t.ended=false) (ak:t.has=k::r):zR l t ⟨2,k⟩
 |wait (h:t.done=true) (he:t.ended=false) (ak:t.has=[]) (hk:t.call.kind=12):zR l t ⟨4,0⟩
 |leave (h:t.done=true) (he:t.ended=false) (ak:t.has=[]) (hk:t.call.kind≠12):zR l t ⟨5,0⟩
 |nE (h:t.done=false) (he:t.ended=false) (ag:fZ t.call=true):zR l t (nF t.has<|iH l t.call)
 |walk (u:fk) (h:t.done=false) (he:t.ended=false) (ag:fZ t.call=false) (hw:hB t.call=true) (hs:zW l (hQ t.call) t u):zR l t u
 |plain (h:t.done=false) (he:t.ended=false) (ag:fZ t.call=false) (hw:hB t.call=false):zR l t ⟨3,0⟩
theorem uJ(l)(t):zR l t (fX l t):=by
 unfold fX;split
 ·rename_i h;exact .none h
 rename_i he;split
 ·rename_i h;split
  ·rename_i J;exact .back _ _ h (oq he) J
  ·rename_i J;split
   ·rename_i hk;exact .wait h (oq he) J hk
   ·rename_i hk;exact .leave h (oq he) J hk
 rename_i h;split
 ·rename_i ag;exact .nE (oq h) (oq he) ag
 rename_i ag;split
 ·rename_i hw;exact .walk _ (oq h) (oq he) (oq ag) hw<|aEF l _ t
 ·rename_i hw;exact .plain (oq h) j9 (oq ag)<|oq hw
theorem Ya(l)(he:t.ended=false):(fX l t).kind=1\/(fX l t).kind=2\/fX l t=⟨3,0⟩\/(fX l t).kind=4\/(fX l t).kind=5:=by
 have J:=uJ l t;generalize fX l t=u at J ⊢;cases J with
 |none h=>rw[he]at h;cases h
 |back=>exact .inr<|.inl rfl
 |wait=>exact .inr<|.inr (.inr (.inl rfl))
 |leave=>exact .inr<|.inr (.inr (.inr rfl))
 |plain=>exact .inr<|.inr (.inl rfl)
 |nE=>
  rcases JY (iH l t.call)with q|q
  ·exact .inl q
  ·exact .inr<|.inr (.inl q)
 |walk _ _ _ _ _ hs=>
  cases hs with
  |root=>exact .inl rfl
  |down=>exact .inl rfl
  |pass=>exact .inr<|.inl rfl
  |vD=>exact .inr<|.inl rfl
  |here=>exact .inr<|.inr (.inl rfl)
theorem VO{l:List aH}(aA:ml l){i:Int}{s:al}(h:kB l d s=some i):∃n∈l,n.id=i/\n.parent=d/\128<=i:=by obtain⟨n,af,rfl⟩:=gA.1 h;obtain⟨-,h1,h2⟩:=GB af;exact⟨n,h1,rfl,h2,(BB.1 (Ce aA h1)).1⟩
theorem Bk{l:List aH}(aA:ml l)(hw:ov l t)(h:fX l t=⟨1,k⟩):t.ended=false/\t.done=false/\k∉t.has/\ov l (dE t ⟨1,k⟩):=by
 have af:=uJ l t;rw[h]at af;obtain⟨O,K,bC,T, -, -, -, -, -,V⟩:=Dy t k;generalize dE t ⟨1,k⟩=t' at *;generalize hu:(⟨1,k⟩:fk)=u at af;cases af with
 |none=>cases hu
 |back=>cases hu
 |wait=>cases hu
 |leave=>cases hu
 |plain=>cases hu
 |nE hd he ag=>have ad:=hw.nE hd ag;obtain⟨h1,h2⟩:=P6 (Pk l t.call) ad hu.symm;exact⟨he,hd,h1,⟨λh=>(by rw[T,he]at h;cases h),λ_ h=>(by rw[K,U3 ag]at h;cases h),λ_ _=>by rw[O,K];exact h2,λ_ _ h=>(by rw[K,ag]at h;cases h)⟩⟩
 |walk _ hd he ag S hs=>
  obtain⟨cx,a2,a3,a4,a5⟩:=hw.walk hd S;have key:∀i,k=i->k∉t.has->(k≠1/\k≠2/\0<=k)->(t'.has.length<=2/\0<=t'.at_/\t'.at_<=16)->ov l t':=λi _ h1 h2 h3=>⟨λh=>(by rw[T,he]at h;cases h),λ_ _=>⟨h3.1,h3.2.1,h3.2.2,λh=>by rw[O]at h;simp at h,λx J=>j9⟩,λ_ h=>(by rw[K,ag]at h;cases h),λ_ h=>(by rw[K,S]at h;cases h)⟩
  cases hs with
  |root U=>
   cases hu;refine⟨he,hd,by rw[U];simp,key 0 rfl (by rw[U];simp) ko ?_⟩
   rw[O,V,U,ar hW];exact⟨hW,a2,a3⟩
  |down here i s U ay hs ao I=>
   cases hu;obtain⟨n,af,ax,aq,aU⟩:=VO aA ao;have aT:k≠here:=λe=>by
    obtain⟨m,hm,bf⟩:=gA.1 ao;have z:dv here=true:=by rw[<-e];exact I
    have:=(aHT aA z hm).1;omega
   have Z:k∉t.has:=by rw[U];simpa using aT
   have hl:=(cu.1 hs).1;have IN:=OW t.call;refine⟨he,hd,Z,key k rfl Z gf ?_⟩;rw[O,V,U,aC ⟨rfl,S⟩,bS];exact⟨hW,gf,gf⟩
  |pass=>cases hu
  |vD=>cases hu
  |here=>cases hu
theorem aHF{l:List Int}(af:l.Nodup):(l.filter λx=> !decide (x=k)).length<=l.length/\∀x∈l.filter (λx=> !decide (x=k)),x∈l:=⟨o1 ..,λx J=>(mg.1 J).1⟩
theorem VP{l:List aH}(hw:ov l t)(af:t.has.Nodup)(h:fX l t=⟨2,k⟩):t.ended=false/\k∈t.has/\ov l (dE t ⟨2,k⟩):=by
 have J:=uJ l t;rw[h]at J;obtain⟨T,V,K,O, -, -, -, -, -,Z⟩:=JJ t k;obtain⟨f1,f2⟩:=aHF af (k:=k);generalize dE t ⟨2,k⟩=t' at *;generalize hu:(⟨2,k⟩:fk)=u at J;cases J with
 |none=>cases hu
 |wait=>cases hu
 |leave=>cases hu
 |plain=>cases hu
 |back k' r hd he U=>cases hu;exact⟨he,by rw[U];simp,⟨λh=>(by rw[O,he]at h;cases h),λh=>(by rw[K,hd]at h;cases h),λh=>(by rw[K,hd]at h;cases h),λh=>(by rw[K,hd]at h;cases h)⟩⟩
 |nE hd he ag=>
  rcases JY (iH l t.call)with q|q
  ·rw[<-hu]at q;cases q
  ·rw[<-hu]at q;cases q
 |walk _ hd he ag S hs=>
  obtain⟨I,a2,a3,a4,a5⟩:=hw.walk hd S;have fin:k∈t.has->t.ended=false/\k∈t.has/\ov l t':=λhk=>by
   refine⟨he,hk,⟨λh=>(by rw[O,he]at h;cases h),λ_ _=>?_,λ_ h=>(by rw[V,ag]at h;cases h),λ_ h=>j9⟩⟩
   rw[T,Z];refine⟨gf,?_,?_,λe=>?_,λx J=>a5 x<|f2 x J⟩
   ·split<;>omega
   ·split<;>omega
   ·rw[aC ⟨e,hd,S⟩]
  cases hs with
  |root=>cases hu
  |down=>cases hu
  |here=>cases hu
  |pass a b r U=>cases hu;exact fin<|by rw[U];simp
  |vD here U=>cases hu;exact fin<|by rw[U];simp
theorem QO{l:List aH}(h:fX l t=⟨3,0⟩):t.ended=false/\t.done=false:=by
 have J:=uJ l t;rw[h]at J;generalize hu:(⟨3,0⟩:fk)=u at J;cases J with
 |none=>cases hu
 |back=>cases hu
 |wait=>cases hu
 |leave=>cases hu
 |plain hd he=>exact⟨he,hd⟩
 |nE hd he=>exact⟨he,hd⟩
 |walk _ hd he=>exact⟨he,hd⟩
theorem aLx{l:List aH}(h:fX l t=⟨4,k⟩):k=0/\t.ended=false/\t.done=true/\t.has=[]/\t.call.kind=12:=by
 have J:=uJ l t;rw[h]at J;generalize hu:(⟨4,k⟩:fk)=u at J;cases J with
 |none=>cases hu
 |back=>cases hu
 |leave=>cases hu
 |plain=>cases hu
 |wait hd he U hk=>cases hu;exact⟨rfl,he,hd,U,hk⟩
 |nE hd he ag=>rcases JY (iH l t.call)with q|q<;>(rw[<-hu]at q;cases q)
 |walk _ hd he ag K hs=>cases hs<;>cases hu
theorem Xg{l:List aH}(h:fX l t=⟨5,k⟩):k=0/\t.ended=false/\t.done=true/\t.has=[]/\t.call.kind≠12:=by
 have J:=uJ l t;rw[h]at J;generalize hu:(⟨5,k⟩:fk)=u at J;cases J with
 |none=>cases hu
 |back=>cases hu
 |wait=>cases hu
 |plain=>cases hu
 |leave hd he U hk=>cases hu;exact⟨rfl,he,hd,U,hk⟩
 |nE hd he ag=>rcases JY (iH l t.call)with q|q<;>(rw[<-hu]at q;cases q)
 |walk _ hd he ag K hs=>cases hs<;>cases hu
theorem ov.um{l:List aH}(h:t.done=true)(he:t.ended=true->t.has=[]):ov l t:=
 ⟨λe=>⟨h,he e⟩,λe=>j9,λe=>j9,λe=>j9⟩
theorem QB{m:di}(h:fJ m)(c:cg):(eM m c).1.log.entries.length=m.log.entries.length+(eM m c).2.2.length:=by
 have hs:=PC h c;generalize eM m c=r at hs ⊢;cases hs with
 |err e he=>rfl
 |put o hk af U K=>
  have hl:=(Aq af).2.2.2.2.2;have O:∀x∈dU m.log,x.at_≠o.at_:=λx J e=>by have:=h.uj x J;rw[e,K]at this;simp only at this;omega
  show(fo m.log o).entries.length=_;rw[<-Il,QN h.nS U O hl,P3,Il];rfl
 |oT V a K h1 h2 h3 h4=>simp only[h1];rfl
 |merge l hk S ao=>
  obtain⟨f1,f2⟩:=aLG m.log l [] .nil (λo U=>p2 U);have T:∀o∈gw m.log [] l,cp o=true:=λo J=>by
   rcases L9 _ _ _ o J with h|h
   ·cases h
   ·exact Ew S o h
  have a2:=(aLX (gw m.log [] l) h.nS T f1 f2 ao).2;have:(Dm m l).log.entries.length=m.log.entries.length+(gw m.log [] l).length:=a2;simp only;split
  ·exact this
  ·exact this
structure Ea (xs:List Int) (es:List (I×I×Nat)):Prop where
 rf:iV (.int .i64) es
 at_:∀x:Int,(eJ (.int .i64 x) es).map (·.2)=if x∈xs then some (.bool true)else none
 cl:∀n,∀p∈es,cN n p.1/\cN n p.2.1
theorem aMB:Ea [] []:=⟨λp ad=>j9,λx=>rfl,λn p ad=>j9⟩
theorem aFD(y:Int)(clock:Nat):∀(es:List (I×I×Nat)),iV (.int .i64) es->iV (.int .i64) (hG (.int .i64 y) (.bool true) es clock)/\
  (∀x:Int,(eJ (.int .i64 x) (hG (.int .i64 y) (.bool true) es clock)).map (·.2)=if x=y then some (.bool true)else(eJ (.int .i64 x) es).map (·.2)):=by
 intro es;induction es with
 |nil=>
  intro _;refine⟨λp ad=>?_,λx=>?_⟩
  ·simp only[hG,eJ,jb,dH]at ad;subst ad;rfl
  grind [hG,eJ,jb,dH,iW]
 |cons q es V=>
  obtain⟨k,w,b⟩:=q;intro hk;have O:kd (.int .i64) k=true:=hk (k,w,b) hW;have T:iV (.int .i64) es:=λp ad=>hk p<|lU _ ad
  cases k<;>simp only[kd,mM]at O;rename_i Z z;rw[iK]at O;subst O;by_cases S:y=z
  ·subst S;have e:hG (.int .i64 y) (.bool true) ((I.int .i64 y,w,b)::es) clock=(.int .i64 y,.bool true,b)::es:=by simp[hG,eJ,iW]
   rw[e];refine⟨λp ad=>?_,λx=>?_⟩
   ·rcases db.1 ad with rfl|ad
    ·rfl
    ·exact T p ad
   ·simp only[eJ,iW];by_cases h:x=y<;>simp[h]
  ·have aT:iW (.int .i64 y) (.int .i64 z)=false:=by simp[iW,S]
   rw[OP aT];obtain⟨i1,i2⟩:=V T;refine⟨λp ad=>?_,λx=>?_⟩
   ·rcases db.1 ad with rfl|ad
    ·rfl
    ·exact i1 p ad
   ·have:=i2 x;simp only[eJ,iW];by_cases h:x=z
    ·subst h;have U:¬x=y:=λe=>S e.symm;simp[U]
    ·simp only[b0 h,vn,zK];by_cases U:x=y
     ·rw[aC U]at this ⊢;cases J:eJ (.int .i64 x) (hG (.int .i64 y) (.bool true) es clock)with
      |none=>rw[J]at this;cases this
      |some v=>rw[J]at this;simpa using this
     ·rw[ar U]at this ⊢;cases J:eJ (.int .i64 x) (hG (.int .i64 y) (.bool true) es clock)with
      |none=>rw[J]at this;cases K:eJ (.int .i64 x) es with
       |none=>rfl
       |some v=>rw[K]at this;cases this
      |some v=>rw[J]at this;cases K:eJ (.int .i64 x) es with
       |none=>rw[K]at this;cases this
       |some u=>rw[K]at this;simpa using this
theorem Yb{x v:I}(J:cN n x)(U:cN n v)(h:∀p∈es,cN n p.1/\cN n p.2.1)(clock):∀p∈hG x v es clock,cN n p.1/\cN n p.2.1:=by grind [hG,Oz]
theorem ZV{xs:List Int}(h:Ea xs es)(y)(clock):Ea (xs++[y]) (hG (.int .i64 y) (.bool true) es clock):=by obtain⟨i1,i2⟩:=aFD y clock es h.rf;refine⟨i1,λx=>?_,λn=>Yb (.int _ _) (.bool _) (h.cl n) clock⟩;rw[i2,h.at_];grind
structure w6 (es:List (I×I×Nat)):Prop where
 rf:iV .string es
 dg:(es.map (·.1)).Nodup
theorem w6.filter(h:w6 es)(f):w6 (es.filter f):=
 ⟨λp ad=>h.rf p (mg.1 ad).1,List.Nodup.sublist (List.Sublist.map _ List.filter_sublist) h.dg⟩
theorem w6.at_(h:w6 es)(ad:p∈es)(hs:p.1=.str s):∃j,eJ (.str s) es=some (j,p.2.1)/\es[j]?=some p:=by
 obtain⟨hk,af⟩:=h;induction es with
 |nil=>cases ad
 |cons q es J=>
  obtain⟨k,w,b⟩:=q;rw[dO,tK]at af;have U:=hk (k,w,b) hW;cases k<;>simp only[kd,mM]at U;rename_i t;rcases db.1 ad with rfl|K
  ·cases hs;simp[eJ,iW]
  ·have aT:¬s=t:=λe=>af.1 j9;obtain⟨j,h1,h2⟩:=J K (λp ad=>hk p<|lU _ ad) af.2;exact⟨j+1,by simp[eJ,iW,aT,h1],j9⟩
theorem aD5{α β:Type}[BEq β][LawfulBEq β](f:α->β):∀(l:List α) (j) (p),(l.map f).Nodup->l[j]?=some p->l.eraseIdx j=l.filter (λq=> !(f q==f p)):=by
 intro l;induction l with
 |nil=>intro j p _ h;cases h
 |cons x l J=>
  intro j p af h;rw[dO,tK]at af;cases j with
  |zero=>
   cases h;rw[List.eraseIdx_cons_zero,sG,ar hW];symm
   rw[List.filter_eq_self];grind
  |succ j=>rw[List.eraseIdx_cons_succ,sG,J j p af.2 h];simp;intro e;exact af.1<|e▸bP.2 ⟨p,dy h,rfl⟩
theorem aKW(h:w6 es)(J:mN es clock)(ad:p∈es)(hs:p.1=.str s):L6 (.str s) es=es.filter λq=> !(q.2.2==p.2.2):=by obtain⟨j,h1,h2⟩:=h.at_ ad hs;unfold L6;rw[h1];exact aD5 (λq:I×I×Nat=>q.2.2) es j p J.dg h2
def oZ(es:List (I×I×Nat))(o:I×I×Nat->Bool)(ps:List (I×I×Nat)):List (I×I×Nat):=es.filter λq=> !((ps.map (·.2.2)).contains q.2.2&&o q)
theorem aLy(es)(o):oZ es o []=es:=by unfold oZ;simp
theorem Vw(J:mN es clock)(ad:p∈es)(aM:q∈es)(e:q.2.2=p.2.2):q=p:=by have U:=J.find aM;rw[e,(J.find ad)]at U;cases U;rfl
theorem aLz(J:mN es clock)(ad:p∈es)(h:o p=true):oZ es o (ps++[p])=(oZ es o ps).filter λq=> !(q.2.2==p.2.2):=by
 unfold oZ;rw[List.filter_filter];refine List.filter_congr λq aM=>?_;by_cases e:q.2.2=p.2.2
 ·have:=Vw J ad aM e;subst this;simp[h]
 ·grind
theorem aMc(J:mN es clock)(ad:p∈es)(h:o p=false):oZ es o (ps++[p])=oZ es o ps:=by
 refine List.filter_congr λq aM=>?_;by_cases e:q.2.2=p.2.2
 ·have:=Vw J ad aM e;subst this;simp[h]
 ·grind
theorem Zr:vC (oZ es o ps) (ps.map (·.2.2))=vC es (ps.map (·.2.2)):=by unfold vC oZ;rw[List.filter_filter];refine List.filter_congr λq aM=>?_;cases(ps.map (·.2.2)).contains q.2.2<;>simp
theorem aLA(h:ps.Perm es):oZ es o ps=es.filter λq=> !o q:=by refine List.filter_congr λq aM=>?_;have:(ps.map (·.2.2)).contains q.2.2=true:=j9;rw[this,vk]
def mT(xs:List Int)(q:I×I×Nat):Bool:=match q.2.1 with
 |.agg (.int _ i::_)=>xs.contains i
 |_=>false
theorem aHG(h:(m.map (·.1)).Nodup):w6 (fY 0 m) where
 rf:=OT 0 m
 dg:=by
  rw[ZU];induction m with
  |nil=>exact List.nodup_nil
  |cons p m U=>rw[dO,tK]at h;rw[dO,dO,tK];refine⟨λJ=>?_,U h.2⟩;obtain⟨s,hs,e⟩:=bP.1 J;cases e;exact h.1 hs
theorem aMC(xs):∀(b) (m),((fY b m).filter λq=> !mT xs q).map (·.1)=((m.filter λp=> !xs.contains p.2.id).map (·.1)).map I.str:=by
 intro b m;induction m generalizing b with
 |nil=>rfl
 |cons p m J=>
  have e:mT xs (I.str p.1,bj p.2,b)=xs.contains p.2.id:=rfl;rw[fY,sG,sG,e];split
  ·rw[dO,J];rfl
  ·exact J _
theorem aMD{b:Nat}(h:q∈fY b m):∃p∈m,q.1=.str p.1/\q.2.1=bj p.2:=by
 induction m generalizing b with
 |nil=>cases h
 |cons p m J=>
  rcases db.1 h with rfl|h
  ·exact⟨p,hW,rfl,rfl⟩
  ·obtain⟨r,U,e⟩:=J h;exact⟨r,lU _ U,e⟩
theorem aME{b:Nat}{p:al×aH}(h:p∈m):∃k,(I.str p.1,bj p.2,k)∈fY b m:=by
 induction m generalizing b with
 |nil=>cases h
 |cons x m J=>
  rcases db.1 h with rfl|h
  ·exact⟨b,by simp[fY]⟩
  ·obtain⟨k,hk⟩:=J h;exact⟨k,lU _ hk⟩
def r8(dN:List eS):List I:=(dN.map dM).flatMap I.cells
theorem aMF(a:List eS)(x:eS):r8 (a++[x])=r8 a++[.str x.path,.int .i64 x.id,.str x.data]:=by simp[r8,dM,I.cells]
theorem aMG(a:List eS):(r8 a).length=a.length * 3:=by
 induction a with
 |nil=>rfl
 |cons x a J=>
  have:r8 (x::a)=[.str x.path,.int .i64 x.id,.str x.data]++r8 a:=by simp[r8,dM,I.cells]
  grind
def lO(G:ab)(h:Nat)(dN:List eS):ab:=an (an G (h+5) (.cells (dN.length+1) (r8 dN))) (h+3)<|.cells 0 [.osl 3 (h+5) (dN.length+1) 0 dN.length dN.length]
theorem Zy(G:ab)(h:Nat)(a b:List eS):lO (lO G h a) h b=lO G h b:=by unfold lO;rw[sW (an G (h+5) _) _ _ (show h+3≠h+5 by omega),jd,jd]
theorem QS(U:h+5<G.length)(J:List eS)(L:ab):lO (G++L) h J=lO G h J++L:=by unfold lO;rw[gU U,gU<|by rw[bc];omega]
theorem Md(G:ab)(h:Nat)(J:List eS):(lO G h J).length=G.length:=by unfold lO;rw[bc,bc]
theorem Lp{B:bD}(J:List eS)(U:az G j=B)(h1:j≠h+3)(h2:j≠h+5):az (lO G h J) j=B:=by unfold lO;exact bN (bN U gf _) gf _
structure sM (F:FuncId) (b:Bool) (l:List aH) (kR:List (I×I×Nat)) (lh h:Nat) (dN:List eS) (G:ab):Prop where
 fL:az G h=.cells 0 [.sl b (l.map bj)]
 aW:az G (h+1)=.map kR lh
 bA:az G (h+2)=.cells 0 [.map (h+1)]
 iv:az G (h+3)=.cells 0 [.osl 3 (h+5) (dN.length+1) 0 dN.length dN.length]
 iO:az G (h+4)=.cells 0 [.func (.func F) [] [.ref h 0 0,.ref (h+2) 0 0,.ref (h+3) 0 0,.ref (h+4) 0 0]]
 mr:az G (h+5)=.cells (dN.length+1) (r8 dN)
theorem sM.lt{l:List aH}{J:List eS}(k:sM F b l kR lh h J G):h+5<G.length:=cZ k.mr trivial
theorem sM.app{l:List aH}{J:List eS}(k:sM F b l kR lh h J G)(L:ab):sM F b l kR lh h J (G++L):=
 ⟨bX k.fL trivial L,bX k.aW trivial L,bX k.bA trivial L,bX k.iv trivial L,bX k.iO trivial L,bX k.mr trivial L⟩
theorem sM.put{l:List aH}{U:List eS}(k:sM F b l kR lh h U G)(J:List eS):sM F b l kR lh h J (lO G h J):=
 ⟨Lp J k.fL gf gf,Lp J k.aW gf gf,Lp J k.bA gf gf,dK (by rw[bc];exact cZ k.iv trivial) _,Lp J k.iO gf gf,
  bN (dK k.lt _) gf _⟩
theorem sM.own{l:List aH}{J:List eS}(k:sM F b l kR lh h J G):lO G h J=G:=by unfold lO;rw[kf k.mr trivial,kf k.iv trivial]
theorem aKX(k n:Nat)(U:List eS):ed n (.cells k<|r8 U):=λx J=>by
 unfold r8 at J;rw[vf]at J;obtain⟨y,K,J⟩:=J;obtain⟨t, -,rfl⟩:=bP.1 K;simp only[dM,I.cells,db,mh,mj]at J;rcases J with rfl|rfl|rfl
 ·exact .str _
 ·exact .int _ _
 ·exact .str _
theorem aMd(U:List eS)(af:h+5<n):∀(j:Nat) (b:bD),(lO G h U)[j]?=some b->G[j]?=some b\/ed n b:=λj b K=>by
 rcases LD (n:=n) (b:=.cells 0 [.osl 3 (h+5) (U.length+1) 0 U.length U.length]) (λx J=>by rw[dH]at J;subst J;exact .osl _ _ _ _ _ _ gf) j b K with q|q
 ·exact LD (aKX _ _ U) j b q
 ·exact .inr q
theorem aMe{l:List aH}(ao:cG l=true)(hw:kz l)(hl:l.length<=1073741824)(af:rI l){out:List Int}(aD:Ea out kR)(lh u:Nat):
  ∀(k:Nat) (dir:Int) (path:al) (z:List eS) (G:ab),dv dir=true->l.length<k+dep l dir->path.length<=dep l dir * 1073741825->z.length+(qK l out dir path).length<=1073741824->
   sM 95 b l kR lh u z G->
   cV prog 95 [.int .i64 dir,.str path,.ref u 0 0,.ref (u+2) 0 0,.ref (u+3) 0 0,.ref (u+4) 0 0] G (λv dC=>v=.aN []/\dC=lO G u (z++qK l out dir path)):=by
 intro k;induction k with
 |zero=>intro dir path z G _ hk;have:=B0 hw dir;omega
 |succ k aB=>
 intro dir path z G hd hk ad aM aa;refine uf func95 ?_;have av:=aa.lt;have a0:=aa.fL;repeat' first|(refine ae ?_;simp only[go_sem,a0])|refine ai ?_|fail
 refine c4 (Qe b l dir hl G) aI ?_;rintro v H' ⟨rfl,rfl⟩;simp only[go_sem];obtain⟨es,s9⟩:∃es,es=fY 0 (fA l dir):=⟨_,rfl⟩;obtain⟨cl,eG⟩:∃n,n=(fA l dir).length:=⟨_,rfl⟩;have bq:mN es cl:=by rw[s9,eG];exact Z9 _
 have oN:w6 es:=by rw[s9];exact aHG (Bj l dir).1
 rw[<-s9,<-eG];repeat' first|(refine ae ?_;simp only[go_sem])|refine ai ?_|fail
 -- what is left out goes from the map
 refine n8 (ι:=ab) (λ_=>[(1,.str path),(2,.ref u 0 0),(3,.ref (u+2) 0 0),(4,.ref (u+3) 0 0),(5,.ref (u+4) 0 0),(8,.map G.length)]) (λL=>G++.map (es.filter λq=> !mT out q) cl::L) (λ_=>True) ?_ λlW _=>?_
 ·refine c7 (ι:=List (I×I×Nat)×ab) (λs=>[(1,.str path),(2,.ref u 0 0),(3,.ref (u+2) 0 0),(4,.ref (u+3) 0 0),(5,.ref (u+4) 0 0),(8,.map G.length),(19,.iter<|G.length+1)]) (λs=>G++.map (oZ es (mT out) s.1) cl::.iY G.length cl (s.1.map (·.2.2)) cl::s.2) (λs=>tV es s.1) (λs=>es.length-s.1.length)
   ([],[]) ⟨λp ad=>(p2 ad),hW⟩ (by simp[go_sem]) (by rw[aLy];rfl) ?_
  rintro⟨ps,L⟩ a7;simp only at a7 ⊢;have M8:mN (oZ es (mT out) ps) cl:=bq.filter _;have aBS:w6 (oZ es (mT out) ps):=oN.filter _;repeat' first|(refine ae ?_;simp only[go_sem])|refine ai ?_|fail
  refine⟨G.length+1,G.length,cl,ps.map (·.2.2),cl,oZ es (mT out) ps,cl,rfl,mZ,mZ,λp ad=>⟨M8.lt p ad,M8.lt p ad⟩,λhe=>?_,λp ad=>?_⟩
  ·simp only[go_sem];repeat' first|(refine ae ?_;simp only[go_sem])|refine ai ?_|fail
   rw[Zr]at he;rw[aLA (a7.perm bq he)];exact⟨.iY G.length cl (ps.map (·.2.2)) cl::L,rfl⟩
  ·have dL:p∈oZ es (mT out) ps:=(mg.1 ad).1;have za:=ad;rw[Zr]at za;obtain⟨hy,xK⟩:=a7.step za;have g3:=M8.aAt dL<|ps.map (·.2.2);have uD:=xK;rw[s9]at uD;obtain⟨⟨s,n⟩,hm,ax,aq⟩:=aMD uD;simp only at ax aq;simp only[go_sem];obtain⟨O,S⟩:∃O,G++.map (oZ es (mT out) ps) cl::.iY G.length cl (ps.map (·.2.2)++[p.2.2]) cl::L=O:=⟨_,rfl⟩;have e2:az O G.length=.map (oZ es (mT out) ps) cl:=by rw[<-S];simp only[go_sem]
   have c1:az O (G.length+1)=.iY G.length cl (ps.map (·.2.2)++[p.2.2]) cl:=by rw[<-S];simp only[go_sem]
   have c2:az O (u+2)=.cells 0 [.map (u+1)]:=by rw[<-S];exact(aa.app _).bA
   have iw:az O (u+1)=.map kR lh:=by rw[<-S];exact(aa.app _).aW
   have d0:=hU e2 trivial;have d2:=bE c2 trivial;have d3:=bE iw trivial;have d1:=bE e2 trivial;have k1:iV .string (oZ es (mT out) ps)=True:=b1 aBS.rf;have k2:iV (.int .i64) kR=True:=b1 aD.rf;have aPb:=aKW aBS M8 dL ax;rw[S];rw[ax]at g3;rw[aq]at g3;rw[ax,aq];have fC:=aD.at_ n.id;have aBJ:mT out p=out.contains n.id:=by unfold mT;rw[aq];rfl
   have r2:es.length-(ps++[p]).length<es.length-ps.length:=by have:=hy.len;simp only[bw,cd,dZ]at this ⊢;omega
   by_cases pk:n.id∈out
   ·rw[aC pk]at fC;obtain⟨⟨j,w⟩,au,dQ⟩:=gA.1 fC;simp only at dQ;subst dQ;have q7:mT out p=true:=by rw[aBJ];simpa using pk
    have hle:=aLz (ps:=ps) bq xK q7;rw[<-aPb]at hle;repeat' first|(refine ae ?_;simp only[go_sem,g3,e2,c1,c2,iw,d0,d1,d2,d3,k1,k2,au,bj])|refine ai ?_|fail
    refine⟨(ps++[p],L++[.cells 0 (bj n).cells]),hy,r2,?_⟩;rw[hle,<-S];simp[an,bj,I.cells]
   ·rw[ar pk]at fC;have au:=Option.map_eq_none_iff.1 fC;have tc:mT out p=false:=by rw[aBJ];simpa using pk
    have hle:=aMc (ps:=ps) bq xK tc;repeat' first|(refine ae ?_;simp only[go_sem,g3,e2,c1,c2,iw,d0,d1,d2,d3,k1,k2,au,bj])|refine ai ?_|fail
    refine⟨(ps++[p],L++[.cells 0 (bj n).cells]),hy,r2,?_⟩;rw[hle,<-S];simp[bj,I.cells]
 -- the names in order
 have aP7:mN (es.filter λq=> !mT out q) cl:=bq.filter _;have aPK:(es.filter λq=> !mT out q).map (·.1)=(((fA l dir).filter λp=> !out.contains p.2.id).map (·.1)).map I.str:=by rw[s9];exact aMC out 0 _
 have n1:BT (((fA l dir).filter λp=> !out.contains p.2.id).map (·.1)):=λs hs=>by obtain⟨p,ad,rfl⟩:=bP.1 hs;exact TD af dir _<|bP.2 ⟨p,(mg.1 ad).1,rfl⟩
 have eh:(es.filter λq=> !mT out q).length<=1073741824:=by
  have h1:=o1 (λq=> !mT out q) es;have h2:es.length=(fA l dir).length:=by rw[s9,ZO]
  have h3:=L8 l dir;omega
 repeat' first|(refine ae ?_;simp only[go_sem])|refine ai ?_|fail
 refine ia (aC1 aP7 G.length aPK n1 eh _ mZ) aI ?_;simp only[go_sem];show _;obtain⟨U,eP⟩:∃U,U=Ak l out dir:=⟨_,rfl⟩;have aP6:qH (((fA l dir).filter λp=> !out.contains p.2.id).map (·.1))=U:=by rw[eP];rfl
 rw[aP6];repeat' first|(refine ae ?_;simp only[go_sem])|refine ai ?_|fail
 have b3:U.length<=1073741824:=by
  have h1:U.length=(((fA l dir).filter λp=> !out.contains p.2.id).map (·.1)).length:=by rw[eP];exact(Gx _).length_eq
  have h2:=o1 (λp:al×aH=> !out.contains p.2.id)<|fA l dir
  have h3:=L8 l dir;rw[dq]at h1;omega
 obtain⟨T,RP⟩:∃T,T=es.filter λq=> !mT out q:=⟨_,rfl⟩;have aBR:w6 T:=by rw[RP];exact oN.filter _
 have FV:=YI ao hw out hd path;rw[<-eP]at FV;rw[<-RP];refine c7 (ι:=Nat×ab) (λs=>[(1,.str path),(2,.ref u 0 0),(3,.ref (u+2) 0 0),(4,.ref (u+3) 0 0),(5,.ref (u+4) 0 0),(8,.map G.length),(32,.sl false<|U.map I.str),(33,.int .i64 U.length),(34,.int .i64 s.1)])
  (λs=>lO G u (z++(U.take s.1).flatMap (pN l out dir path))++.map T cl::s.2) (λs=>s.1<=U.length) (λs=>U.length-s.1) (0,lW) (cb _) ?_ ?_ ?_
 ·simp[go_sem]
 ·rw[rC,DQ,cE,aa.own]
 rintro⟨i,L⟩ hi;simp only at hi ⊢;obtain⟨K,Ja⟩:∃x,x=z++(U.take i).flatMap (pN l out dir path):=⟨_,rfl⟩;rw[<-Ja];obtain⟨O,S⟩:∃O,lO G u K++.map T cl::L=O:=⟨_,rfl⟩;have V:sM 95 b l kR lh u K O:=by rw[<-S];exact(aa.put K).app _
 have e2:az O G.length=.map T cl:=by rw[<-S];exact tl<|Md G u K
 rw[S];by_cases Z:i<U.length
 ·have pk:U[i]∈Ak l out dir:=by rw[<-eP];exact fQ Z
  obtain⟨n,CO,Sv,c9⟩:=Zt pk;have FN:U[i].length<=1073741824:=TD af dir _<|bP.2 ⟨(U[i],n),Sv,rfl⟩;obtain⟨q,Sh⟩:=aME (b:=0) Sv;have l2:(I.str U[i],bj n,q)∈T:=by rw[RP,s9];exact mg.2 ⟨Sh,by unfold mT;simpa[bj]using c9⟩
  obtain⟨j,au, -⟩:=aBR.at_ l2 rfl;simp only at au;have k1:iV .string T=True:=b1 aBR.rf;obtain⟨v8,aYz, -⟩:=Ev ao hd Sv;have CG:=zC hw v8;have dL:(path.length+1)+U[i].length<=dep l n.id * 1073741825:=gf;have ik:(U.take (i+1)).flatMap (pN l out dir path)=(U.take i).flatMap (pN l out dir path)++pN l out dir path U[i]:=by rw[hc Z,qx,List.flatMap_singleton]
  have AY:pN l out dir path U[i]=⟨path++(47::U[i]),n.id,n.data⟩::(if dv n.id=true then qK l out n.id (path++(47::U[i]))else[]):=by unfold pN;rw[CO]
  have hsz:K.length+(pN l out dir path U[i]).length<=1073741824:=by
   have h1:((U.take (i+1)).flatMap (pN l out dir path)).length<=(qK l out dir path).length:=by
    rw[FV];conv=>rhs;rw[<-sF (i+1) U,qx,bw]
    omega
   rw[ik,bw]at h1;rw[Ja,bw];omega
  have iS:=B0 hw n.id;have a6:=bE V.iv trivial;have bb:=bE V.iO trivial;have dm:=bE V.mr trivial;have e5:=hU V.mr trivial;have SZ:=V.lt;have aCS:∀c L,az (an O (u+5) c++L) (u+3)=_:=λc L=>bX (bN V.iv gf c) trivial L;have aDw:∀c c' L,an (an O (u+5) c++L) (u+3) c'=an (an O (u+5) c) (u+3) c'++L:=λc c' L=>gU (by rw[bc];omega) L c'
  have aCT:∀c c' L,az (an (an O (u+5) c) (u+3) c'++L) (u+4)=_:=λc c' L=>bX (bN (bN V.iO gf c) gf c') trivial L;have aC2:∀c c' L,az (an (an O (u+5) c) (u+3) c'++L) O.length=L.getD 0 .gone:=λc c' L=>tl<|by rw[bc,bc]
  have hn:(r8 K).length=K.length * 3:=aMG _;have jO:((K.length+1) * 40<=140737488355328)=True:=b1 (by rw[AY]at hsz;simp only[cd]at hsz;omega)
  have ee:du [I.osl 3 (u+5) (K.length+1) 0 K.length K.length] 0 [.osl 3 (u+5) (K.length+2) 0 (K.length+1) (K.length+1)]=[.osl 3 (u+5) (K.length+2) 0 (K.length+1) (K.length+1)]:=rfl;have cA:(U.map I.str).getD i .top=.str U[i]:=by simp[Z]
  have jw:(∀e,e=I.agg [.str (path++47::U[i]),.int .i64 n.id,.str n.data]->e.cells.length=3)=True:=b1 λe he=>by rw[he];rfl
  obtain⟨x,J⟩:∃x:eS,x=⟨path++(47::U[i]),n.id,n.data⟩:=⟨_,rfl⟩;have nw:∀Y,an (an O (u+5)<|.cells (K.length+2) (r8 K++[.str (path++47::U[i]),.int .i64 n.id,.str n.data])) (u+3) (.cells 0 [.osl 3 (u+5) (K.length+2) 0 (K.length+1) (K.length+1)])++Y=lO (O++Y) u (K++[x]):=λY=>by rw[QS V.lt,J];unfold lO;rw[aMF,bw];rfl
  have s8:∀xN Y,lO (O++Y) u xN=lO G u xN++.map T cl::(L++Y):=λxN Y=>by
   rw[QS V.lt,<-S,QS (by rw[Md];exact av),Zy]
   simp
  rw[<-J]at AY;have r2:U.length-(i+1)<U.length-i:=gf;cases kJ:dv n.id with
  |false=>
   repeat' first|((first|refine cI (va _) ?_|refine ae ?_);simp only[go_sem,e2,cA,au,k1,bj,Z,hn,jw,jO,ee,a6,bb,dm,e5,aCS,aDw,aCT,aC2,kJ])|refine ai ?_|fail
   refine⟨(i+1,L++[.cells 0 (bj n).cells]),Z,r2,b7 _<|eb Z gf,?_⟩
   rw[nw,s8,ik,AY,kJ,ar hW,Ja,c6];rfl
  |true=>
   repeat' first|((first|refine cI (va _) ?_|refine ae ?_);simp only[go_sem,e2,cA,au,k1,bj,Z,hn,jw,jO,ee,a6,bb,dm,e5,aCS,aDw,aCT,aC2,kJ])|refine ai ?_|fail
   rw[nw];have MD:=(V.app [.cells 0 [.int .i64 n.id,.int .i64 n.parent,.str n.name,.int .i64 n.gx.c,.int .i64 n.gx.r,.str n.data,.int .i64 n.wrote.c,.int .i64 n.wrote.r]]).put<|K++[x];rw[AY,kJ,aC rfl,cd]at hsz;refine pT (aB n.id (path++47::U[i]) (K++[x]) _ kJ gf (by rw[bw,cd];omega) (by rw[bw,List.length_singleton];omega) MD) aI ?_
   rintro v H' ⟨rfl,rfl⟩;rw[Zy];simp only[go_sem];repeat' first|(refine ae ?_;simp only[go_sem])|refine ai ?_|fail
   refine⟨(i+1,L++[.cells 0 (bj n).cells]),Z,r2,b7 _<|eb Z gf,?_⟩
   rw[s8,ik,AY,kJ,aC rfl,Ja,c6];rfl
 ·have eI:i=U.length:=gf;repeat' first|(refine ae ?_;simp only[go_sem,Z])|refine ai ?_|fail
  refine⟨lO G u K,.map T cl::L,.aN [],S.symm,by rw[Md];exact bh _,by rw[Md];exact aMd K av,.cl _<|.aN _ λ_ _ J=>by simp at J,rfl,?_⟩
  rw[Ja,eI,fe,FV]
theorem P5(b:Bool)(l:List aH)(dir:Int)(hw:kz l)(hd:dv dir=true)(hl:l.length<=1073741824)(af:rI l)(H:ab):aO prog 52 [.sl b (l.map bj),.int .i64 dir] H (.sl false<|(jz l dir).map dM):=by
 refine bg func52 ?_;unfold jz;cases hs:cG l with
 |false=>
  rw[ar hW,jm];repeat' first|((first|refine cI (lP _ _) ?_|refine ae ?_);simp only[go_sem,hs])|refine ai ?_|fail
  exact aX<|.sl _ _
 |true=>
  rw[aC rfl];have Z:=PE b l dir hl;obtain⟨up,K⟩:∃up,up=n4 l dir:=⟨_,rfl⟩;rw[<-K]at Z;have z:iV (.int .i64) []=True:=b1 λp ad=>p2 ad;have FZ:up.length<=1073741824:=by rw[K,n4,aC hs];exact e1 (Pe hw _ _) hl
  repeat' first|((first|refine cI (lP _ _) ?_|refine ae ?_);simp only[go_sem,hs,z])|refine ai ?_|fail
  have cW:az (H++[.cells 0 [.sl b (l.map bj)]]) H.length=.cells 0 [.sl b (l.map bj)]:=mZ;refine n8 (ι:=List (I×I×Nat)×Nat) (λ_=>[(1,.int .i64 dir),(2,.ref H.length 0 0),(5,.ref (H.length+2) 0 0)]) (λs=>H++[.cells 0 [.sl b (l.map bj)],.map s.1 s.2,.cells 0 [.map (H.length+1)]]) (λs=>Ea (dir::up) s.1) ?_ fun⟨kR,lh⟩ J=>?_
  ·refine c7 (ι:=Nat×List (I×I×Nat)×Nat) (λs=>[(1,.int .i64 dir),(2,.ref H.length 0 0),(5,.ref (H.length+2) 0 0),(18,.sl false<|up.map bu),(19,.int .i64 up.length),(20,.int .i64 s.1)]) (λs=>H++[.cells 0 [.sl b (l.map bj)],.map s.2.1 s.2.2,.cells 0 [.map (H.length+1)]])
    (λs=>s.1<=up.length/\Ea (dir::up.take s.1) s.2.1) (λs=>up.length-s.1) (0,hG (.int .i64 dir) (.bool true) [] 0,_) ⟨cb _,ZV aMB dir 0⟩ ?_ rfl ?_
   ·simp[go_sem]
   rintro⟨i,kR,lh⟩ ⟨hi,J⟩;simp only at hi J ⊢;by_cases U:i<up.length
   ·have cA:(up.map bu).getD i .top=bu up[i]:=by simp[U]
    have k1:iV (.int .i64) kR=True:=b1 J.rf;have O:=ZV J up[i] lh;have ik:dir::up.take i++[up[i]]=dir::up.take (i+1):=by rw[hc U];rfl
    rw[ik]at O;repeat' first|(refine ae ?_;simp only[go_sem,U,cA,bu,k1])|refine ai ?_|fail
    refine⟨(i+1,_,_),⟨U,O⟩,by simp only;omega,b7 _<|eb U gf,rfl⟩
   ·have eI:i=up.length:=gf;rw[eI,fe]at J;repeat' first|(refine ae ?_;simp only[go_sem,U])|refine ai ?_|fail
    exact⟨(kR,lh),J,rfl⟩
  simp only;have CU:dir::up=Ao l dir:=by rw[K];rfl
  rw[CU]at J;refine Al (ι:=Unit) (λ_=>[(1,.int .i64 dir),(2,.ref H.length 0 0),(5,.ref (H.length+2) 0 0),(8,.ref (H.length+3) 0 0)]) (λ_=>H++[.cells 0 [.sl b (l.map bj)],.map kR lh,.cells 0 [.map (H.length+1)],.cells 0 [.sl true []]]) (λ_=>True) ?_ λ_ _=>?_
  ·repeat' first|(refine ae ?_;simp only[go_sem])|refine ai ?_|fail
   exact⟨(),trivial⟩
  refine Al (ι:=Unit) (λ_=>[(1,.int .i64 dir),(2,.ref H.length 0 0),(5,.ref (H.length+2) 0 0),(8,.ref (H.length+3) 0 0),(9,.ref (H.length+4) 0 0)]) (λ_=>H++[.cells 0 [.sl b (l.map bj)],.map kR lh,.cells 0 [.map (H.length+1)],.cells 0 [.sl true []],.cells 0 [.ef]]) (λ_=>True) ?_ λ_ _=>?_
  ·repeat' first|(refine ae ?_;simp only[go_sem])|refine ai ?_|fail
   exact⟨(),trivial⟩
  refine Al (ι:=Unit) (λ_=>[(1,.int .i64 dir),(2,.ref H.length 0 0),(5,.ref (H.length+2) 0 0),(8,.ref (H.length+3) 0 0),(9,.ref (H.length+4) 0 0)]) (λ_=>H++[.cells 0 [.sl b (l.map bj)],.map kR lh,.cells 0 [.map (H.length+1)],.cells 0 [.sl true []],.cells 0 [.func (.func 95) [] [.ref H.length 0 0,.ref (H.length+2) 0 0,.ref (H.length+3) 0 0,.ref (H.length+4) 0 0]]]) (λ_=>True) ?_ λ_ _=>?_
  ·repeat' first|(refine ae ?_;simp only[go_sem])|refine ai ?_|fail
   exact⟨(),trivial⟩
  refine uM (H.length+3) 0 3 (by simp only[go_sem];rfl) rfl ?_
  simp only[go_sem];have S:sM 95 b l kR lh H.length [] (H++[.cells 0 [.sl b (l.map bj)],.map kR lh,.cells 0 [.map (H.length+1)],.cells 0 [.osl 3 (H.length+5) 1 0 0 0],.cells 0 [.func (.func 95) [] [.ref H.length 0 0,.ref (H.length+2) 0 0,.ref (H.length+3) 0 0,.ref (H.length+4) 0 0]],.cells 1 []]):=
   ⟨mZ,mZ,mZ,by first|(simp only[go_sem];done)|(simp only[go_sem];rfl),mZ,by first|(simp only[go_sem];done)|(simp only[go_sem];rfl)⟩
  have pW:=QM hs hw (Ao l dir) dir [] hd;have iS:=B0 hw dir;repeat' first|(refine ae ?_;simp only[go_sem])|refine ai ?_|fail
  refine pT (aMe hs hw hl af J lh H.length (l.length+1) dir [] [] _ hd gf (cb _) (by rw[dZ];omega) S) aI ?_
  rintro v H' ⟨rfl,rfl⟩;rw[jb];have T:=S.put<|qK l (Ao l dir) dir [];have iw:=T.iv;have V:=T.mr;simp only[go_sem];repeat' first|(refine ae ?_;simp only[go_sem,iw])|refine ai ?_|fail
  obtain⟨L,gW⟩:=(show ∃L,lO (H++_) H.length (qK l (Ao l dir) dir [])=H++L from lz (lz ⟨_,rfl⟩ gf _) gf _)
  rw[gW]at V ⊢;exact uV (cs:=r8<|qK l (Ao l dir) dir []) (es:=(qK l (Ao l dir) dir []).map dM) (rest:=[]) gf V (by rw[cE];rfl) hW (λe he=>by obtain⟨x,_,rfl⟩:=bP.1 he;rfl) (λe he=>by obtain⟨x,_,rfl⟩:=bP.1 he;exact mZ) rfl
theorem Zz(r s:Int)(l:List Ord):oP r s l=if yC r s l=true then some (bT r.toNat++(bT s.toNat++sI l))else none:=rfl
def Ir(o:Option al):I:=match o with
 |none=>.aN [.str [],.int .i64 240]
 |some w=>.aN [.str w,.int .i64 0]
theorem aST(H:ab)(a b:bD)(k:Nat)(T:al)(R:List I):gR (H++[a,b]) H.length (H.length+1) k T R=H++[.cells 0 (rA (H.length+1) k T R),.cells (k+1)<|ck T]:=by unfold gR;rw[Ll,O0];rfl
theorem jG.new(H:ab)(R:List I):jG H.length (H.length+1) 0 [] R (H++[.cells 0 (.osl 1 (H.length+1) 1 0 0 0::R),.cells 1 []]):=
 ⟨gf,by rw[uP];rfl,by rw[Bn];rfl⟩
theorem KG(f:Bool)(r s:Int)(l:List Ord)(J:r<=9223372036854775807)(hs:s<=9223372036854775807)(U:∀o∈l,lX o)(hl:l.length<=1048576)(H:ab):
  aO prog 22 [.int .i64 r,.int .i64 s,.sl f<|l.map da] H (Ir<|oP r s l):=by
 refine bg func22 ?_;iterate 4 first|(refine ae ?_;simp only[go_sem])|refine ai ?_|fail
 refine uM (v:=0) (cs:=[.sl true []]) H.length 0 1 mZ rfl ?_;simp only[go_sem];have hw:=jG.new H [];repeat' first|(refine ae ?_;simp only[go_sem])|refine ai ?_|fail
 refine c4 (Yd f r s l hw hW J hs U hl hW) aI ?_;rintro v H' ⟨rfl,k,T,rfl,cX⟩;rw[aST,Zz];unfold rA;cases K:yC r s l with
 |false=>
  rw[ar ko];unfold Ir;simp only[go_sem];repeat' first|(refine ae ?_;simp only[go_sem])|refine ai ?_|fail
  exact aX<|.refl _
 |true=>
  have e:=cX K;rw[jb]at e;rw[aC rfl,<-e];unfold Ir;simp only[go_sem];repeat' first|(refine ae ?_;simp only[go_sem])|refine ai ?_|fail
  exact aX<|.refl _
end Go.Proofs.YtnmamncmpklliaaGreatDoor
