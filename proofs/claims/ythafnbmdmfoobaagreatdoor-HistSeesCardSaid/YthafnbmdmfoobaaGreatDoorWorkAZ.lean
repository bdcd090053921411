/- What the functions of this seat answer (26 of 40). No condition. -/
import Derived.Test.YthafnbmdmfoobaaGreatDoorWorkAY
set_option linter.unusedSimpArgs false
set_option linter.unusedVariables false
set_option maxRecDepth 100000
set_option maxHeartbeats 16000000
namespace Go.Proofs.YthafnbmdmfoobaaGreatDoor
section
theorem aET(y:List UInt8)(w:I)(clock:Nat):∀(es:List (I×I×Nat)),iy .string es->iy .string (hB (.str y) w es clock)∧
  (∀x,(eL (.str x) (hB (.str y) w es clock)).map (·.2)=if x=y then some w else(eL (.str x) es).map (·.2)):=by
 intro es;induction es with
 |nil=>
  intro _;refine⟨fun p ae=>?_,fun x=>?_⟩
  ·simp only[hB,eL,gK,dA]at ae;subst ae;rfl
  grind [hB,eL,gK,dA,iA]
 |cons q es ay=>
  obtain⟨k,v,b⟩:=q;intro hk;have j1:jE .string k=true:=hk (k,v,b) (by simp)
  have hX:iy .string es:=fun p ae=>hk p (lf _ ae)
  cases k<;>simp only[jE,ht]at j1;rename_i z;by_cases l0:y=z
  ·subst l0;have e:hB (.str y) w ((I.str y,v,b)::es) clock=(.str y,w,b)::es:=by simp[hB,eL,iA]
   rw[e];refine⟨fun p ae=>?_,fun x=>?_⟩
   ·rcases c7.1 ae with rfl|ae
    ·rfl
    ·exact hX p ae
   ·simp only[eL,iA];by_cases h:x=y<;>simp[h]
  ·have aP:iA (.str y) (.str z)=false:=by simp[iA,l0]
   rw[Go.Proofs.YthafnbmdmfoobaaGreatDoor.Ll aP];obtain⟨i1,i2⟩:=ay hX;refine⟨fun p ae=>?_,fun x=>?_⟩
   ·rcases c7.1 ae with rfl|ae
    ·rfl
    ·exact i1 p ae
   ·have:=i2 x;simp only[eL,iA];by_cases h:x=z
    ·subst h;have cV:¬x=y:=fun e=>l0 e.symm
     simp[cV]
    ·simp only[b8 h,qi,Option.map_map];by_cases cV:x=y
     ·rw[aF cV]at this ⊢;cases tG:eL (.str x) (hB (.str y) w es clock)with
      |none=>rw[tG]at this;cases this
      |some v=>rw[tG]at this;simpa using this
     ·rw[az cV]at this ⊢;cases tG:eL (.str x) (hB (.str y) w es clock)with
      |none=>rw[tG]at this;cases eb:eL (.str x) es with
       |none=>rfl
       |some v=>rw[eb]at this;cases this
      |some v=>rw[tG]at this;cases eb:eL (.str x) es with
       |none=>rw[eb]at this;cases this
       |some u=>rw[eb]at this;simpa using this
structure vN (l:List eZ) (es:List (I×I×Nat)):Prop where
 p6:iy .string es
 at_:∀p:aM,(eL (.str p) es).map (·.2)=(wV p l).map dY
 cl:∀n,∀p∈es,cX n p.1∧cX n p.2.1
theorem UP:vN [] []:=⟨fun p ae=>(by cases ae),fun x=>rfl,fun n p ae=>(by cases ae)⟩
theorem aGu(n:Nat)(x:eZ):cX n (dY x):=.agg _ fun i y aG=>by
 have:=df aG;simp only[c7,jB,jD]at this;rcases this with rfl|rfl|rfl
 ·exact .str _
 ·exact .int _ _
 ·exact .str _
theorem UQ{l:List eZ}{es:List (I×I×Nat)}(h:vN l es)(x:eZ)(clock:Nat):vN (l++[x]) (hB (.str x.path) (dY x) es clock):=by
 obtain⟨i1,i2⟩:=aET x.path (dY x) clock es h.p6;refine⟨i1,fun p=>?_,fun n=>UD (.str _) (aGu n x) (h.cl n) clock⟩
 rw[i2,h.at_];unfold wV;grind
theorem vN.yes{l:List eZ}{es:List (I×I×Nat)}(h:vN l es){p:aM}{x:eZ}(J:wV p l=some x):∃j,eL (.str p) es=some (j,dY x):=by
 have:=h.at_ p;simp_all
theorem vN.no{l:List eZ}{es:List (I×I×Nat)}(h:vN l es){p:aM}(J:wV p l=none):eL (.str p) es=none:=by
 have:=h.at_ p;rw[J]at this;exact Hq.1 this
def jn(bV:List dS):List I:=(bV.map ct).flatMap I.cells
theorem aEU(a:List dS)(x:dS):jn (a++[x])=jn a++[.int .i64 x.kind,.str x.path]:=by
 simp[jn,ct,I.cells]
theorem LM(a:List dS):(jn a).length=a.length * 2:=by
 induction a with
 |nil=>rfl
 |cons x a ay=>
  have:jn (x::a)=[.int .i64 x.kind,.str x.path]++jn a:=by simp[jn,ct,I.cells]
  grind
def pM(G:ab)(h:Nat)(bV:List dS):ab:=ai (ai G (h+1) (.cells (bV.length+1) (jn bV))) h (.cells 0 [.osl 2 (h+1) (bV.length+1) 0 bV.length bV.length])
theorem aHn{G:ab}{h:Nat}(ah:h+1<G.length)(bV:List dS)(L:ab):pM (G++L) h bV=pM G h bV++L:=by
 unfold pM;rw[gW ah,gW (by rw[aX];omega)]
theorem Ih(G:ab)(h:Nat)(bV:List dS):(pM G h bV).length=G.length:=by unfold pM;rw[aX,aX]
theorem H4{G:ab}{h j:Nat}{B:bu}(bV:List dS)(aw:ao G j=B)(h1:j≠h)(h2:j≠h+1):ao (pM G h bV) j=B:=by
 unfold pM;exact bM (bM aw (by omega) _) (by omega) _
structure q2 (h:Nat) (bV:List dS) (G:ab):Prop where
 eT:ao G h=.cells 0 [.osl 2 (h+1) (bV.length+1) 0 bV.length bV.length]
 aV:ao G (h+1)=.cells (bV.length+1) (jn bV)
theorem q2.lt{h:Nat}{bV:List dS}{G:ab}(k:q2 h bV G):h+1<G.length:=c8 k.aV trivial
theorem q2.app{h:Nat}{bV:List dS}{G:ab}(k:q2 h bV G)(L:ab):q2 h bV (G++L):=⟨bQ k.eT trivial L,bQ k.aV trivial L⟩
theorem q2.set{h:Nat}{bV:List dS}{G:ab}(k:q2 h bV G){i:Nat}(hi:h+1<i)(X:bu):q2 h bV (ai G i X):=⟨bM k.eT (by omega) X,bM k.aV (by omega) X⟩
theorem q2.put{h:Nat}{G:ab}(hl:h+1<G.length)(es:List dS):q2 h es (pM G h es):=
 ⟨dT (by rw[aX];omega) _,bM (dT hl _) (by omega) _⟩
theorem aEV(k n:Nat)(bV:List dS):dp n (.cells k (jn bV)):=fun x J=>by
 unfold jn at J;rw[rZ]at J;obtain⟨y,aG,J⟩:=J;obtain⟨t, -,rfl⟩:=bP.1 aG;simp only[ct,I.cells,c7,jB,jD]at J;rcases J with rfl|rfl
 ·exact .int _ _
 ·exact .str _
theorem TM{G:ab}{h n:Nat}(bV:List dS)(ag:h+1<n):∀(j:Nat) (b:bu),(pM G h bV)[j]?=some b->G[j]?=some b∨dp n b:=fun j b aw=>by
 rcases AN (n:=n) (b:=.cells 0 [.osl 2 (h+1) (bV.length+1) 0 bV.length bV.length]) (fun x J=>by rw[dA]at J;subst J;exact .osl _ _ _ _ _ _ (by omega)) j b aw with q|q
 ·exact AN (aEV _ _ bV) j b q
 ·exact .inr q
end
section
theorem EH(kind:Int)(path:aM)(bV:List dS)(u:Nat)(hl:bV.length<=4294967296)(G:ab)(bK:q2 u bV G):
  c5 Tryz.prog 152 [.int .i64 kind,.str path,.ref u 0 0] G (fun v dt=>v=.a0 []∧dt=pM G u (bV++[⟨kind,path⟩])):=by
 refine pD Tryz.func152 ?_;have eT:=bK.eT;have aV:=bK.aV;have ak:=bK.lt;have a8:∀c,ao (ai G (u+1) c) u=_:=fun c=>bM eT (by omega) c
 have fk:(jn bV).length=bV.length * 2:=LM _;have jN:(∀e,e=I.agg [.int .i64 kind,.str path]->e.cells.length=2)=True:=bJ (fun e he=>by rw[he];rfl)
 have iK:((bV.length+1) * 24<=140737488355328)=True:=bJ (by omega)
 have dK:dw [I.osl 2 (u+1) (bV.length+1) 0 bV.length bV.length] 0 [.osl 2 (u+1) (bV.length+2) 0 (bV.length+1) (bV.length+1)]=[.osl 2 (u+1) (bV.length+2) 0 (bV.length+1) (bV.length+1)]:=rfl;have o7:ai (ai G (u+1) (.cells (bV.length+2) (jn bV++[.int .i64 kind,.str path]))) u (.cells 0 [.osl 2 (u+1) (bV.length+2) 0 (bV.length+1) (bV.length+1)])=pM G u (bV++[⟨kind,path⟩]):=by
  unfold pM;rw[aEU,bt];rfl
 repeat' first|(refine ad ?_;simp only[go_sem,eT,aV,a8,fk,jN,iK,dK])|refine af ?_|fail
 rw[o7];exact⟨_,[],.a0 [],(b2 _).symm,by rw[Ih];exact bk _,by rw[Ih];exact TM _ ak,.cl _ (.a0 _ fun _ _ J=>by simp at J),rfl,rfl⟩
theorem aEW(l:List eZ):∀e∈l.map dY,bO e:=fun e he=>by obtain⟨x,_,rfl⟩:=bP.1 he;exact(by simp only[go_sem])
theorem aGv(k:Nat)(b:Bool)(l:List eZ):cX k (.sl b (l.map dY)):=(bO.sl b _ (aEW l)).cl k
theorem aHo(b:Bool)(l:List eZ)(H:ab):aY Tryz.prog 153 [.sl b (l.map dY)] H (.func (.func 186) [] [.cptr [.sl b (l.map dY)]]):=by
 refine bh Tryz.func153 ?_;refine aT ?_;refine⟨_,_,rfl,?_,rfl⟩;refine .func _ _ _ _ _ rfl rfl gY (dV (Hy (bk _) (by simp only[go_sem]) ?_) gY)
 simp only[dA,forall_eq];exact aGv _ _ _
theorem aGY(b:Bool)(l:List eZ)(y:Nat)(iP:Nat->ab->Prop)(tt:∀i (h:i<l.length) G,iP (i+1) G->vL Tryz.prog y [.int .i64 i,dY l[i]] G (fun v dt=>v=.bool true∧iP i dt))(hl:l.length<=4294967296)(H:ab)(aC:iP l.length H):
  c5 Tryz.prog 186 [.func (.yield y) [] [],.cptr [.sl b (l.map dY)]] H (fun _ G=>iP 0 G):=by
 refine uM Tryz.func186 ?_;have hw:IntKind.i64.wrap ((l.length:Int)-1)=(l.length:Int)-1:=cB;refine bW ?_;refine b5 (ι:=Int×ab) (fun s=>[(0,.func (.yield y) [] []),(1,.cptr [.sl b (l.map dY)]),(3,.int .i64 s.1)]) (fun s=>s.2) (fun s=>∃k:Nat,s.1=(k:Int)-1∧k<=l.length∧iP k s.2) (fun s=>(s.1+1).toNat) ((l.length:Int)-1,H) ⟨l.length,rfl,bk _,aC⟩ ?_ rfl ?_
 ·simp[go_sem]
 rintro⟨v,G⟩ ⟨k,aL,hk,hC⟩;simp only at aL hk hC ⊢;cases k with
 |zero=>
  have nK:v= -1:=by omega
  subst nK;repeat' first|(refine ad ?_;simp only[go_sem])|refine af ?_|fail
  exact hC
 |succ i=>
  have nK:v=(i:Int):=by omega
  subst nK;have cG:(l.map dY).getD i .top=dY l[i]:=by simp[show i<l.length from hk]
  have aJt:decide (0<=(i:Int))=true:=b1;have bT:IntKind.i64.wrap ((i:Int)-1)=(i:Int)-1:=cB;have aG:=tt i hk G hC;repeat' first|(refine ad ?_;simp only[go_sem,cG,aJt,dY,hk])|refine af ?_|fail
  refine Po aG ?_;rintro v dt ⟨rfl,NR⟩;simp only[go_sem];repeat' first|(refine ad ?_;simp only[go_sem,bT])|refine af ?_|fail
  exact⟨((i:Int)-1,dt),⟨i,rfl,by omega,NR⟩,by simp only;omega,rfl,rfl⟩
end
section
def iT(aq:List ba)(i:Nat):List Int:=(aq[i]?.map (·.has)).getD []
theorem oG{aq:List ba}{i:Nat}{t:ba}(h:aq[i]?=some t):iT aq i=t.has:=by unfold iT;rw[h];rfl
theorem vy{aq:List ba}{i:Nat}{t:ba}(hi:i<aq.length):iT (aq.set i t)=kH (iT aq) i t.has:=by
 funext j;unfold iT kH;rw[uA];grind
structure eC (x:bn):Prop where
 iz:ey x.m
 cs:∀t∈x.aq,jh t.call
 n:x.aq.length<=40
 hE:gN x.t x.aq.length (iT x.aq)
 j4:∀t∈x.aq,nt x.m.log.nodes t
 wt:∀w∈x.t.waits,∀i:Nat,w.aR=i->∀t,x.aq[i]?=some t->fM x.m.log.nodes t=⟨1,w.lock⟩
 x5:x.g.waits.Pairwise fun a b=>a.aR≠b.aR
 iS:∀w∈x.g.waits,∃(i:Nat) (t:ba),w.aR=i∧x.aq[i]?=some t∧t.done=true∧t.ended=false∧t.call.kind=12∧t.has=[]∧w.upto=t.upto∧x.g.kept<w.upto
 iL:0<=x.g.kept∧x.g.kept<=x.ops.length
 up:∀t∈x.aq,0<=t.upto∧t.upto<=x.ops.length
 AV:∀t∈x.aq,t.call.kind=12->t.ended=true->t.bp.err=0->t.upto<=x.g.kept
 ops:x.ops.length=x.m.log.entries.length
theorem eC.tick{x:bn}(c:eC x):eC (p8 x):=⟨c.iz,c.cs,c.n,c.hE,c.j4,c.wt,c.x5,c.iS,c.iL,c.up,c.AV,c.ops⟩
theorem aGw{r:Int}{x:bn}(h:nR r=(x,0)):eC x:=by
 unfold nR at h;split at h
 ·rename_i aC;obtain⟨m,hm⟩:∃m,ng r=(m,0):=⟨(ng r).1,Prod.ext rfl aC⟩;rw[hm]at h;cases h;have hl:m.log=⟨[],[]⟩:=by
   unfold ng at hm;split at hm
   ·cases hm;rfl
   ·cases hm
  refine⟨TB hm,fun t aj=>?_,bG _,aFn,fun t aj=>?_,fun w hw=>?_,.nil,fun w hw=>?_,⟨iM 0,iM 0⟩,fun t aj=>?_,fun t aj=>?_,?_⟩
  ·cases aj
  ·cases aj
  ·cases hw
  ·cases hw
  ·cases aj
  ·cases aj
  ·show _=m.log.entries.length;rw[hl];rfl
 grind
theorem eC.start{x:bn}(c:eC x){k:b3}(hk:jh k):eC (mc x k).1:=by
 unfold mc;split
 ·exact c
 ·rename_i hl;have hi:∀(i:Nat) t,x.aq[i]?=some t->(x.aq++[{nU k with dJ:=IntKind.i64.wrap (x.time+1)}])[i]?=some t:=fun i t h=>by
   grind
  have nF:iT (x.aq++[{nU k with dJ:=IntKind.i64.wrap (x.time+1)}])=iT x.aq:=by
   funext i;unfold iT;rw[List.getElem?_append];split
   ·rfl
   ·rename_i h;rw[yW (by omega:x.aq.length<=i)]
    cases i-x.aq.length<;>rfl
  have hm:∀t∈x.aq++[{nU k with dJ:=IntKind.i64.wrap (x.time+1)}],t∈x.aq∨t={nU k with dJ:=IntKind.i64.wrap (x.time+1)}:=fun t aj=>by simpa using aj
  refine⟨c.iz,fun t aj=>?_,?_,?_,fun t aj=>?_,fun w hw i e t aj=>?_,c.x5,fun w hw=>?_,c.iL,fun t aj=>?_,fun t aj=>?_,c.ops⟩
  ·rcases hm t aj with h|rfl
   ·exact c.cs t h
   ·exact hk
  ·simp only[bt,cm,ew];omega
  ·simp only[bt,cm,ew,nF];exact c.hE.start (by unfold iT;rw[yW (bk _)];rfl)
  ·rcases hm t aj with h|rfl
   ·exact c.j4 t h
   ·exact⟨fun h=>(by cases h),fun _ _=>⟨bG _,iM 0,(by decide:(0:Int)<=16),fun _=>rfl,fun k hk=>(by cases hk)⟩,fun _ _=>List.nil_prefix,fun _ _ _=>rfl⟩
  ·obtain⟨j,au,aw, -⟩:=c.hE.qU w hw;have gp:i=j:=by omega
   subst gp;refine c.wt w hw i e t ?_;have:=hi i _ (c0 aw);rw[this]at aj;rw[c0 aw,aj]
  ·obtain⟨i,t,h1,h2,h3⟩:=c.iS w hw;exact⟨i,t,h1,hi i t h2,h3⟩
  ·rcases hm t aj with h|rfl
   ·exact c.up t h
   ·exact⟨iM 0,(by simp[nU]:(0:Int)<=(x.ops.length:Int))⟩
  ·rcases hm t aj with h|rfl
   ·exact c.AV t h
   ·intro _ h;cases h
theorem eC.gen{x y:bn}(c:eC x)(hm:y.m=x.m)(aN:y.ops=x.ops)(aJ:y.g=x.g)(hl:y.aq.length=x.aq.length)(nJ:gN y.t x.aq.length (iT y.aq))
  (Ai:∀(i:Nat) t',y.aq[i]?=some t'->∃t,x.aq[i]?=some t∧t'.call=t.call∧t'.upto=t.upto∧t'.bp=t.bp∧t'.ended=t.ended∧nt x.m.log.nodes t'∧(t'=t∨∀w∈x.g.waits,w.aR≠i))
  (hw:∀w∈y.t.waits,∀i:Nat,w.aR=i->∀t,y.aq[i]?=some t->fM x.m.log.nodes t=⟨1,w.lock⟩):eC y:=by
 have m8:∀t'∈y.aq,∃t∈x.aq,t'.call=t.call∧t'.upto=t.upto∧t'.bp=t.bp∧t'.ended=t.ended∧nt x.m.log.nodes t':=fun t' h=>by
  grind [List.getElem?_of_mem,df]
 refine⟨by rw[hm];exact c.iz,fun t aj=>?_,by rw[hl];exact c.n,by rw[hl];exact nJ,fun t aj=>?_,by rw[hm];exact hw,by rw[aJ];exact c.x5,fun w h=>?_,by rw[aJ,aN];exact c.iL,fun t aj=>?_,fun t aj=>?_,by rw[aN,hm];exact c.ops⟩
 ·obtain⟨t0,aC,h1, -⟩:=m8 t aj;rw[h1];exact c.cs _ aC
 ·obtain⟨t0,aC, -, -, -, -,h1⟩:=m8 t aj;rw[hm];exact h1
 ·rw[aJ]at h ⊢;obtain⟨i,t,h1,h2,h3⟩:=c.iS w h;have hi:i<y.aq.length:=by rw[hl];exact(cA.1 h2).1
  obtain⟨t0,aZ, -, -, -, -, -,a7⟩:=Ai i _ (c0 hi);rw[h2]at aZ;cases aZ;rcases a7 with a7|a7
  ·exact⟨i,t,h1,by rw[<-a7];exact c0 hi,h3⟩
  ·exact absurd h1 (a7 w h)
 ·obtain⟨t0,aC, -,h1, -⟩:=m8 t aj;rw[h1,aN];exact c.up _ aC
 ·obtain⟨t0,aC,h1,h2,h3,h4, -⟩:=m8 t aj;rw[h1,h2,h3,h4,aJ];exact c.AV _ aC
theorem L1{x:bn}{p:Int}{who:Nat}(h:vS x p=some who):who∈jM x:=by
 unfold vS at h;split at h
 ·cases h
 ·rename_i ag;have hl:0<(jM x).length:=vF.2 ag;have h1:0<=p % ((jM x).length:Int):=Int.emod_nonneg _ (by omega)
  have h2:p % ((jM x).length:Int)<(jM x).length:=Int.emod_lt_of_pos _ (by omega)
  grind
theorem aBX{x:bn}{i:Nat}:i∈jM x↔∃t,x.aq[i]?=some t∧qI x (t,i)=true:=by
 grind [jM,bP,km,Prod.exists,List.mem_zipIdx_iff_getElem?]
theorem MK{x:bn}{i:Nat}(h:i∈jM x):∃t,x.aq[i]?=some t∧t.ended=false∧(∀w∈x.t.waits,w.aR≠i)∧(ie x.g i=true->xK x.g=some (i:Int)):=by
 obtain⟨t,h1,h2⟩:=aBX.1 h;grind [qI,nk,Qd,um]
theorem mr{l:List ba}{i:Nat}{t:ba}(h:l[i]?=some t)(f:ba->ba):gJ l (i:Int) f=l.set i (f t):=by
 have hi:=(cA.1 h).1;unfold gJ;grind
theorem BX{g:ns}{n:Int}:ie g n=false↔∀w∈g.waits,w.aR≠n:=by
 unfold ie;rw[Hn];simp
theorem S0{l:List cM}{n:Int}(h:∀w∈l,w.aR≠n):um l n=none:=by
 unfold um;rw[Hq,ux];simpa using h
theorem eC.take{x:bn}(c:eC x){who:Nat}{t:ba}{k:Int}(aj:x.aq[who]?=some t)(hw:∀w∈x.t.waits,w.aR≠who)(aJ:ie x.g who=false)(ag:fM x.m.log.nodes t=⟨1,k⟩):eC (vT who k x):=by
 have hi:=(cA.1 aj).1;obtain⟨h1,h2,h3,h4⟩:=xP c.iz.nodes.lU (c.j4 t (df aj)) ag;obtain⟨dq,bZ,dO,kc,oL,s7, -⟩:=AP t k;have ah:=oG aj;unfold vT v8;cases an:uk x.t.held k with
 |none=>
  simp only[dI];rw[mr aj];have nJ:=c.hE.take hi (S0 hw) an;rw[ah,<-dq,<-vy hi]at nJ;refine c.gen rfl rfl rfl (by simp) nJ (fun i t' h=>?_) (fun w gq i e t' h=>?_)
  ·rw[uA]at h;split at h
   ·rename_i e;subst e;cases h;exact⟨t,aj,bZ,oL,s7,kc,h4,.inr (BX.1 aJ)⟩
   ·exact⟨t',h,rfl,rfl,rfl,rfl,c.j4 t' (df h),.inl rfl⟩
  ·have aP:who≠i:=fun au=>hw w gq (by rw[e,au])
   rw[gS aP]at h;exact c.wt w gq i e t' h
 |some j=>
  have aw:j≠who:=fun e=>by
   have:=(c.hE.o4 k j).1 (Rb an);obtain⟨i,ar, -,hk⟩:=this;have:i=who:=by omega
   rw[this,ah]at hk;exact h3 hk
  have CE:x.t.waits.contains (⟨k,who⟩:cM)=false:=by
   rw[vC];intro e;exact hw _ (by simpa using e) rfl
  simp only[az aw,CE,ht,eF];have nJ:=c.hE.wait hi (S0 hw) (by rw[ah];exact h3) an
  refine c.gen rfl rfl rfl rfl nJ (fun i t' h=>⟨t',h,rfl,rfl,rfl,rfl,c.j4 t' (df h),.inl rfl⟩) (fun w gq i e t' h=>?_)
  rw[eX,dA]at gq;rcases gq with gq|rfl
  ·exact c.wt w gq i e t' h
  ·have:i=who:=by simp only at e;omega
   subst this;rw[aj]at h;cases h;exact ag
theorem eC.Vk{x:bn}(c:eC x){w:cM}(hw:w∈x.t.waits):∃(j:Nat) (t:ba),w.aR=j∧x.aq[j]?=some t∧fM x.m.log.nodes t=⟨1,w.lock⟩∧nt x.m.log.nodes (dj t ⟨1,w.lock⟩)∧t.done=false∧∀v∈x.g.waits,v.aR≠j:=by
 obtain⟨j,e,aw, -⟩:=c.hE.qU w hw;have aj:=c0 aw;have ag:=c.wt w hw j e _ aj;obtain⟨-,h2, -,h4⟩:=xP c.iz.nodes.lU (c.j4 _ (df aj)) ag;refine⟨j,_,e,aj,ag,h4,h2,fun v aL au=>?_⟩
 obtain⟨i,t,aZ,a7,ch, -⟩:=c.iS v aL;grind
theorem aAm{t:eS}{n:Nat}{has:Nat->List Int}(h:gN t n has){i:Nat}{k j:Int}(aw:(fo t i k).2=some j):∀w∈(fo t i k).1.waits,w.aR≠j:=by
 unfold fo at aw ⊢;split at aw
 ·rename_i al;rw[aF al];split at aw
  ·cases aw
  ·rename_i w hw;cases aw;simp only[hw];exact fun v aL=>((Ry h.vw (rV hw) v).1 aL).2
 ·cases aw
theorem eC.aIw{x:bn}(c:eC x){who:Nat}{t:ba}{k:Int}(aj:x.aq[who]?=some t)(hw:∀w∈x.t.waits,w.aR≠who)(aJ:ie x.g who=false)(ag:fM x.m.log.nodes t=⟨2,k⟩):eC (vU who k x):=by
 have hi:=(cA.1 aj).1;have ah:=oG aj;have fz:t.has.Nodup:=by rw[<-ah];exact c.hE.sn who
 obtain⟨h1,h2,h3⟩:=Th (c.j4 t (df aj)) fz ag;obtain⟨dq,bZ,dO,kc,oL,s7, -⟩:=C7 t k;obtain⟨nJ,aw⟩:=c.hE.free hi (by rw[ah];exact h2)
 have Am:∀w∈(fo x.t who k).1.waits,w∈x.t.waits:=fun w h=>by
  grind [fo,List.mem_of_mem_erase]
 unfold vU;cases an:(fo x.t who k).2 with
 |none=>
  simp only;rw[mr aj];rw[an]at nJ;simp only[vp]at nJ;rw[ah,<-dq,<-vy hi]at nJ;refine c.gen rfl rfl rfl (by simp) nJ (fun i t' h=>?_) (fun w gq i e t' h=>?_)
  ·rw[uA]at h;split at h
   ·rename_i e;subst e;cases h;exact⟨t,aj,bZ,oL,s7,kc,h3,.inr (BX.1 aJ)⟩
   ·exact⟨t',h,rfl,rfl,rfl,rfl,c.j4 t' (df h),.inl rfl⟩
  ·have bT:=Am w gq;have aP:who≠i:=fun au=>hw w bT (by rw[e,au])
   rw[gS aP]at h;exact c.wt w bT i e t' h
 |some j=>
  obtain⟨eV,xX,cv,aP,ye⟩:=aw j an;subst xX;obtain⟨p2,t2,au,p0,rq,Ww,Cs,Jn⟩:=c.Vk ye;have:p2=eV:=by simp only at au;omega
  subst this;simp only at rq Ww;rw[an]at nJ;simp only[vp,j6]at nJ;obtain⟨aV,bm,iE,ir,oQ,qm, -⟩:=AP t2 k;rw[oG p0,ah,<-dq,<-aV,<-vy hi,<-vy (by rw[gj];exact cv)]at nJ
  simp only;rw[mr aj];unfold kJ;rw[mr (t:=t2) (by rw[gS (kn aP)];exact p0)]
  refine c.gen rfl rfl rfl (by simp) nJ (fun i t' h=>?_) (fun w gq i e t' h=>?_)
  ·rw[uA]at h;split at h
   ·rename_i e;subst e;rw[aF (by rw[gj];exact cv)]at h
    cases h;exact⟨t2,p0,bm,oQ,qm,ir,Ww,.inr Jn⟩
   ·rw[uA]at h;split at h
    ·rename_i e;subst e;cases h;exact⟨t,aj,bZ,oL,s7,kc,h3,.inr (BX.1 aJ)⟩
    ·exact⟨t',h,rfl,rfl,rfl,rfl,c.j4 t' (df h),.inl rfl⟩
  ·have bT:=Am w gq;have aJ6:who≠i:=fun au=>hw w bT (by rw[e,au])
   have aJ7:p2≠i:=fun au=>by
    exact aAm c.hE an w gq (by rw[e,au])
   rw[gS aJ7,gS aJ6]at h;exact c.wt w bT i e t' h
end
section
def te(time:Int)(t:ba):ba:={t with ended:=true,end_:=time}
theorem T3(time:Int)(l:List ba)(n:Int)(i:Nat):(kF time l n)[i]?=l[i]?.map fun t=>if n=(i:Int)then te time t else t:=by
 unfold kF gJ;split
 ·rename_i h;rw[uA];by_cases e:n.toNat=i
  ·have au:n=(i:Int):=by omega
   have hi:i<l.length:=by omega
   rw[aF e,aF (by omega),e,eP,c0 hi]
   simp[au,te]
  ·have au:¬n=(i:Int):=by omega
   rw[az e];simp[au]
 ·rename_i h;cases hi:l[i]? with
  |none=>rfl
  |some t=>
   have:=(cA.1 hi).1;have au:¬n=(i:Int):=by omega
   simp[au]
theorem ML(time:Int):∀(b7:List Int) (l:List ba) (i:Nat),(b7.foldl (kF time) l)[i]?=l[i]?.map fun t=>if(i:Int)∈b7 then te time t else t
 |[],l,i=>by simp
 |n::b7,l,i=>by
  rw[nZ,ML time b7,T3,Option.map_map];congr 1;funext t;simp only[Function.comp,c7];by_cases h1:n=(i:Int)<;>by_cases h2:(i:Int)∈b7<;>simp[h1,h2,te,eq_comm]
theorem Io(time:Int)(b7:List Int)(l:List ba):(b7.foldl (kF time) l).length=l.length:=by
 induction b7 generalizing l with
 |nil=>rfl
 |cons n b7 ay=>
  rw[nZ,ay];unfold kF gJ;split
  ·rw[gj]
  ·rfl
theorem UJ{l k:List ba}(h:∀i:Nat,l[i]?.map (·.has)=k[i]?.map (·.has)):iT l=iT k:=funext fun i=>by unfold iT;rw[h]
theorem eC.ot{x:bn}(c:eC x){who:Nat}(full:Bool)(aJ:ie x.g who=true):eC (mS full who x):=by
 obtain⟨ds,eW,CL⟩:∃w∈x.g.waits,w.aR=(who:Int):=by
  unfold ie at aJ;obtain⟨w,h1,h2⟩:=List.any_eq_true.1 aJ;exact⟨w,h1,mB h2⟩
 have Jq:=c.iS
 -- those of the group are done, and have nothing
 have bS:∀w∈x.g.waits,∀(i:Nat) t,w.aR=(i:Int)->x.aq[i]?=some t->t.done=true∧t.ended=false∧t.call.kind=12∧t.has=[]∧w.upto=t.upto∧x.g.kept<w.upto:=fun w hw i t e aj=>by
  obtain⟨eV,t',ku,h1,h2⟩:=Jq w hw;have:eV=i:=by omega
  subst this;rw[aj]at h1;cases h1;exact h2
 have pV:∀v∈x.t.waits,∀w∈x.g.waits,v.aR≠w.aR:=fun v aL w hw e=>by
  obtain⟨j,t,ar,aj,ag, -,hd,bX⟩:=c.Vk aL;exact bX w hw (by rw[<-e,ar])
 cases full with
 |true=>
  unfold mS;rw[aF rfl];obtain⟨i,t,e,aj,h1,h2,h3,h4,cz,eK⟩:=Jq ds eW;have:i=who:=by omega
  subst this;have hi:=(cA.1 aj).1;rw[mr aj];have Aj:∀j:Nat,(kF x.time (x.aq.set i {t with bp:={c2 with err:=120}}) i)[j]?=if i=j then some (te x.time {t with bp:={c2 with err:=120}})else x.aq[j]?:=fun j=>by
   rw[T3,uA];by_cases e:i=j
   ·subst e;simp[hi]
   ·have:¬((i:Int)=(j:Int)):=by omega
    simp[e,this]
  have hlen:(kF x.time (x.aq.set i {t with bp:={c2 with err:=120}}) i).length=x.aq.length:=by
   have:=Io x.time [(i:Int)] (x.aq.set i {t with bp:={c2 with err:=120}})
   rw[gj]at this;exact this
  generalize kF x.time (x.aq.set i {t with bp:={c2 with err:=120}}) i=L at *
  have hm:∀t'∈L,t'=te x.time {t with bp:={c2 with err:=120}}∨t'∈x.aq:=fun t' rv=>by
   obtain⟨j,aw⟩:=List.getElem?_of_mem rv;rw[Aj]at aw;split at aw
   ·exact .inl (nY aw).symm
   ·exact .inr (df aw)
  have u1:=df aj;refine⟨c.iz,fun t' h=>?_,by rw[hlen];exact c.n,?_,fun t' h=>?_,fun w hw j ku t' h=>?_,c.x5.sublist List.filter_sublist,fun w hw=>?_,c.iL,fun t' h=>?_,fun t' h=>?_,c.ops⟩
  ·rcases hm t' h with rfl|h
   ·exact c.cs t u1
   ·exact c.cs t' h
  ·rw[hlen,UJ (k:=x.aq) fun j=>by
    rw[Aj];split
    ·rename_i e;subst e;rw[aj];rfl
    ·rfl]
   exact c.hE
  ·rcases hm t' h with rfl|h
   ·exact nt.oT h1 fun _=>h4
   ·exact c.j4 t' h
  ·rw[Aj]at h;split at h
   ·rename_i au;exact absurd (show w.aR=ds.aR by rw[CL,ku,au]) (pV w hw ds eW)
   ·exact c.wt w hw j ku t' h
  ·rw[km]at hw;obtain⟨j,t',aQ,aO,bF⟩:=Jq w hw.1;have aP:¬i=j:=fun e=>by have:=hw.2;rw[aQ,e]at this;simp at this
   exact⟨j,t',aQ,by rw[Aj,az aP];exact aO,bF⟩
  ·rcases hm t' h with rfl|h
   ·exact c.up t u1
   ·exact c.up t' h
  ·rcases hm t' h with rfl|h
   ·intro _ _ h;exact absurd h (show ¬(120:Int)=0 by decide)
   ·exact c.AV t' h
 |false=>
  unfold mS wa;rw[az (by decide)]
  have hk:max x.g.kept (x.ops.length:Int)=x.ops.length:=by have:=c.iL;omega
  have fi:∀w∈x.g.waits,w.upto<=max x.g.kept (x.ops.length:Int):=fun w hw=>by
   obtain⟨i,t,e,aj, -, -, -, -,cz, -⟩:=Jq w hw;have:=(c.up t (df aj)).2;omega
  have gC:(x.g.waits.filter fun w=> !decide (w.upto<=max x.g.kept (x.ops.length:Int)))=[]:=by
   rw[List.filter_eq_nil_iff];intro w hw;simp[fi w hw]
  have iI:(x.g.waits.filter fun w=>decide (w.upto<=max x.g.kept (x.ops.length:Int)))=x.g.waits:=by
   rw[List.filter_eq_self];intro w hw;simp[fi w hw]
  rw[gC,iI];have Aj:=ML x.time (x.g.waits.map (·.aR)) x.aq;have hlen:=Io x.time (x.g.waits.map (·.aR)) x.aq;generalize(x.g.waits.map (·.aR)).foldl (kF x.time) x.aq=L at *;have hm:∀(j:Nat) t',L[j]?=some t'->∃t,x.aq[j]?=some t∧(t'=t∨t'=te x.time t∧t.done=true∧t.has=[]):=fun j t' h=>by
   rw[Aj]at h;obtain⟨t,h1,h2⟩:=jC.1 h;refine⟨t,h1,?_⟩;split at h2
   ·rename_i Fp;obtain⟨w,hw,e⟩:=bP.1 Fp;have:=bS w hw j t e h1;exact .inr ⟨h2.symm,this.1,this.2.2.2.1⟩
   ·exact .inl h2.symm
  have rp:∀t'∈L,∃t∈x.aq,(t'=t∨t'=te x.time t∧t.done=true∧t.has=[]):=fun t' h=>by
   obtain⟨j,aw⟩:=List.getElem?_of_mem h;obtain⟨t,h1,h2⟩:=hm j t' aw;exact⟨t,df h1,h2⟩
  refine⟨c.iz,fun t' h=>?_,by rw[hlen];exact c.n,?_,fun t' h=>?_,fun w hw j ku t' h=>?_,.nil,fun w hw=>(by cases hw),⟨?_,?_⟩,fun t' h=>?_,fun t' h=>?_,c.ops⟩
  ·obtain⟨t,aj,rfl|⟨rfl, -⟩⟩:=rp t' h
   ·exact c.cs _ aj
   ·exact c.cs t aj
  ·rw[hlen,UJ (k:=x.aq) fun j=>by
    rw[Aj,Option.map_map];cases x.aq[j]? with
    |none=>rfl
    |some t=>simp only[rY,Function.comp];split<;>rfl]
   exact c.hE
  ·obtain⟨t,aj,rfl|⟨rfl,h1,h2⟩⟩:=rp t' h
   ·exact c.j4 _ aj
   ·exact nt.oT h1 fun _=>h2
  ·obtain⟨t,aj,rfl|⟨rfl,h1,h2⟩⟩:=hm j t' h
   ·exact c.wt w hw j ku _ aj
   ·have ag:=c.wt w hw j ku t aj;have:=(xP c.iz.nodes.lU (c.j4 t (df aj)) ag).2.1;rw[h1]at this;cases this
  ·show 0<=max x.g.kept (x.ops.length:Int);rw[hk];omega
  ·show max x.g.kept (x.ops.length:Int)<=x.ops.length;rw[hk];omega
  ·obtain⟨t,aj,rfl|⟨rfl, -⟩⟩:=rp t' h
   ·exact c.up _ aj
   ·exact c.up t aj
  ·obtain⟨t,aj,rfl|⟨rfl, -⟩⟩:=rp t' h
   ·intro _ _ _;have:=(c.up _ aj).2;show _<=max x.g.kept (x.ops.length:Int);omega
   ·intro _ _ _;have:=(c.up _ aj).2;show t.upto<=max x.g.kept (x.ops.length:Int);omega
end
section
theorem PG{has:Nat->List Int}{i:Nat}{l:List Int}(h:has i=l):kH has i l=has:=funext fun j=>by
 by_cases e:j=i
 ·subst e;rw[lu,h]
 ·exact jH _ e _
theorem eC.one{x y:bn}(c:eC x){who:Nat}{t t':ba}(aj:x.aq[who]?=some t)(hw:∀w∈x.t.waits,w.aR≠who)(aJ:ie x.g who=false)(h1:t'.call=t.call)(h2:t'.has=t.has)(h3:t'.done=true)(h4:t'.ended=true->t'.has=[])
  (cz:0<=t'.upto∧t'.upto<=y.ops.length) (eK:t'.call.kind=12->t'.ended=true->t'.bp.err=0->t'.upto<=y.g.kept) (Ai:y.aq=x.aq.set who t') (Wu:y.t=x.t) (su:y.g=x.g) (gF:ey y.m) (Ac:y.ops.length=y.m.log.entries.length) (hle:x.ops.length<=y.ops.length)
  (tO:∀(i:Nat) t2,i≠who->x.aq[i]?=some t2->nt y.m.log.nodes t2) (CL:∀w∈x.t.waits,∀(i:Nat),w.aR=i->i≠who->∀t2,x.aq[i]?=some t2->fM y.m.log.nodes t2=⟨1,w.lock⟩):eC y:=by
 have hi:=(cA.1 aj).1;have hm:∀t2∈y.aq,t2=t'∨∃i:Nat,i≠who∧x.aq[i]?=some t2:=fun t2 h=>by
  rw[Ai]at h;obtain⟨i,cv⟩:=List.getElem?_of_mem h;rw[uA]at cv;split at cv
  ·exact .inl (nY cv).symm
  ·rename_i e;exact .inr ⟨i,fun au=>e au.symm,cv⟩
 have u1:=df aj;refine⟨gF,fun t2 h=>?_,by rw[Ai,gj];exact c.n,?_,fun t2 h=>?_,fun w h i e t2 Ci=>?_,by rw[su];exact c.x5,fun w h=>?_,?_,fun t2 h=>?_,fun t2 h=>?_,Ac⟩
 ·rcases hm t2 h with rfl|⟨i, -,dr⟩
  ·rw[h1];exact c.cs t u1
  ·exact c.cs t2 (df dr)
 ·rw[Ai,Wu,gj,vy hi,PG (by rw[h2];exact oG aj)];exact c.hE
 ·rcases hm t2 h with rfl|⟨i,aP,dr⟩
  ·exact nt.oT h3 h4
  ·exact tO i t2 aP dr
 ·rw[Wu]at h;have aP:who≠i:=fun au=>hw w h (by rw[e,au])
  rw[Ai,gS aP]at Ci;exact CL w h i e (kn aP) t2 Ci
 ·rw[su]at h ⊢;obtain⟨i,t2,aQ,aO,bF⟩:=c.iS w h;have aP:who≠i:=fun au=>BX.1 aJ w h (by rw[aQ,au])
  exact⟨i,t2,aQ,by rw[Ai,gS aP];exact aO,bF⟩
 ·rw[su];have:=c.iL;omega
 ·rcases hm t2 h with rfl|⟨i, -,dr⟩
  ·exact cz
  ·have:=c.up t2 (df dr);omega
 ·rcases hm t2 h with rfl|⟨i, -,dr⟩
  ·exact eK
  ·rw[su];exact c.AV t2 (df dr)
theorem eC.leave{x:bn}(c:eC x){who:Nat}{t:ba}(aj:x.aq[who]?=some t)(hw:∀w∈x.t.waits,w.aR≠who)(aJ:ie x.g who=false){k:Int}(ag:fM x.m.log.nodes t=⟨5,k⟩):eC (xL who x):=by
 obtain⟨-,h2,h3,h4,cz⟩:=Lo ag;have u1:=df aj;unfold xL;rw[mr aj];have he:({dj t ⟨5,0⟩with end_:=x.time}:ba)={t with ended:=true,end_:=x.time}:=rfl
 rw[he];exact c.one (t':={t with ended:=true,end_:=x.time}) aj hw aJ rfl rfl h3 (fun _=>h4) (c.up t u1) (fun h=>absurd h cz) rfl rfl rfl c.iz c.ops (bk _) (fun i t2 _ h=>c.j4 t2 (df h)) (fun w h i e _ t2 dr=>c.wt w h i e t2 dr)
theorem eC.wait{x:bn}(c:eC x){who:Nat}{t:ba}(aj:x.aq[who]?=some t)(hw:∀w∈x.t.waits,w.aR≠who)(aJ:ie x.g who=false){k:Int}(ag:fM x.m.log.nodes t=⟨4,k⟩):eC (vY who t x):=by
 obtain⟨-,h2,h3,h4,cz⟩:=Ti ag;have u1:=df aj;unfold vY vV;by_cases hu:t.upto<=x.g.kept
 ·rw[aF hu];simp only[dI];have e:kF x.time x.aq who=x.aq.set who (te x.time t):=mr aj _;rw[e];exact c.one (t':=te x.time t) aj hw aJ rfl rfl h3 (fun _=>h4) (c.up t u1) (fun _ _ _=>hu) rfl rfl rfl c.iz c.ops (bk _) (fun i t2 _ h=>c.j4 t2 (df h)) (fun w h i e _ t2 dr=>c.wt w h i e t2 dr)
 ·rw[az hu,aJ];simp only[ht,eF];refine⟨c.iz,c.cs,c.n,c.hE,c.j4,c.wt,?_,fun w h=>?_,c.iL,c.up,c.AV,c.ops⟩
  ·rw[uw];refine⟨c.x5,DF _ _,fun a aD b aa=>?_⟩
   rw[dA]at aa;subst aa;exact BX.1 aJ a aD
  ·rw[eX,dA]at h;rcases h with h|rfl
   ·exact c.iS w h
   ·exact⟨who,t,rfl,aj,h3,h2,cz,h4,rfl,by simp only;omega⟩
theorem aL5{l:List aB}{names:List aM}{t:ba}{here i:Int}{s:aM}(h:t.has=[here])(aC:0<=t.at_)(hs:names[t.at_.toNat]?=some s)(al:jl l here s=some i)(hd:dy i=true):sZ l names t=⟨1,i⟩:=by
 unfold sZ;rw[h];simp only[aF aC,hs,lb];unfold jl at al;obtain⟨n,ag,rfl⟩:=jC.1 al;rw[ag];simp only[aF hd]
theorem aLU{has cp:List Int}{k:Int}(h:has++[k]<+:cp)(hk:k∉has):mW has cp=⟨1,k⟩:=by
 obtain⟨r,rfl⟩:=h;rw[cr,Uz _ _ (fun y h=>h),List.singleton_append,Lv (by simpa using hk)]
theorem UT{x:bn}(c:eC x){who:Nat}{t:ba}(aj:x.aq[who]?=some t){g6:List aB}{ops:List bf}(dF:lN g6)(aD:xu x.m.log.nodes t g6 ops){i:Nat}(aP:i≠who){t2:ba}(h2:x.aq[i]?=some t2):
  nt g6 t2∧∀k,fM x.m.log.nodes t2=⟨1,k⟩->fM g6 t2=⟨1,k⟩:=by
 have an:=c.iz.nodes.lU;have hw:=c.j4 t2 (df h2);have hi:=(cA.1 h2).1;have Al:=(cA.1 aj).1;have bX:∀k,k∈t2.has->k∉t.has:=fun k hk eb=>aP (c.hE.O7 hi Al (by rw[oG h2];exact hk) (by rw[oG aj];exact eb))
 -- the locks of one that turns the tree, and has some
 have uY:t2.done=false->fC t2.call=true->t2.has<+:ij g6 t2.call∧∀k,t2.has++[k]<+:ij x.m.log.nodes t2.call->t2.has++[k]<+:ij g6 t2.call:=fun hd iX=>by
  have ae:=hw.l5 hd iX;by_cases OJ:fC t.call=false
  ·have:=aGM an dF aD OJ t2.call;exact⟨ae.trans this,fun k hk=>hk.trans this⟩
  ·have Ah:(1:Int)∈t.has∨g6=x.m.log.nodes:=by
    cases aD with
    |none h=>exact .inr h
    |born o n hk ae ag aj=>exact absurd aj OJ
    |wrote o hk aN n ag ae aj=>exact absurd aj OJ
    |fB o hk n ag ae aS aj h1=>exact .inl h1
   rcases Ah with h1|h1
   ·have he:t2.has=[]:=by
     cases ah:t2.has with
     |nil=>rfl
     |cons a r=>
      rw[ah]at ae;have:a=1:=(List.cons_prefix_cons.1 ae).1;exact absurd h1 (bX 1 (by rw[ah,this];simp))
    rw[he];refine⟨List.nil_prefix,fun k hk=>?_⟩
    have:k=1:=(List.cons_prefix_cons.1 hk).1;subst this;exact⟨_,rfl⟩
   ·rw[h1];exact⟨ae,fun _ h=>h⟩
 refine⟨⟨hw.ended,hw.walk,fun hd iX=>(uY hd iX).1,hw.plain⟩,fun k ag=>?_⟩
 have J:=sL x.m.log.nodes t2;rw[ag]at J;generalize hu:(⟨1,k⟩:eR)=u at J;cases J with
 |none=>cases hu
 |back=>cases hu
 |wait=>cases hu
 |leave=>cases hu
 |plain=>cases hu
 |l5 hd he iX=>
  obtain⟨aQ,aO⟩:=MM (M9 _ _) (hw.l5 hd iX) hu.symm;unfold fM;rw[az (by simp[he]),az (by simp[hd]),aF iX]
  exact(aLU ((uY hd iX).2 k aO) aQ).trans hu
 |walk _ hd he iX ju hs=>
  unfold fM;rw[az (by simp[he]),az (by simp[hd]),az (by simp[iX]),aF ju]
  cases hs with
  |root ah=>cases hu;unfold sZ;rw[ah]
  |down here j s ah aC hs al m5=>
   cases hu;have Ci:=((hw.walk hd ju).2.2.2.2 here (by rw[ah];simp)).2.1
   exact aL5 ah aC hs (by rw[aGL an dF aD (bX here (by rw[ah];simp)) Ci];exact al) m5
  |pass=>cases hu
  |xW=>cases hu
  |here=>cases hu
theorem eC.aHR{x:bn}(c:eC x){who:Nat}{t:ba}(aj:x.aq[who]?=some t)(hw:∀w∈x.t.waits,w.aR≠who)(aJ:ie x.g who=false)(ag:fM x.m.log.nodes t=⟨3,0⟩)(hk:t.call.kind≠13∨(dz x.m t.call).2.1.err≠0):eC (jQ who x (dz x.m t.call)):=by
 obtain⟨he,hd⟩:=Ip ag;have gF:=xO c.iz t.call;have aD:=aGK c.iz hd ag hk;have hl:=Nf c.iz t.call;unfold jQ;rw[mr aj];refine c.one (t':=xU x (dz x.m t.call) t) aj hw aJ rfl rfl rfl (fun h=>?_) ?_ (fun _ h=>?_) rfl rfl rfl gF ?_ ?_ (fun i t2 aP h=>(UT c aj gF.nodes.lU aD aP h).1) (fun w h i e aP t2 dr=>(UT c aj gF.nodes.lU aD aP dr).2 _ (c.wt w h i e t2 dr))
 ·have:t.ended=true:=h;rw[he]at this;cases this
 ·exact⟨by show(0:Int)<=((x.ops++(dz x.m t.call).2.2).length:Int);omega,iM _⟩
 ·have:t.ended=true:=h;rw[he]at this;cases this
 ·simp only[bt];rw[hl,c.ops]
 ·simp only[bt];omega
end
section
def jv(t:ba):Bool:=gR t.call&& !t.done
theorem WT(who n:Nat)(t:ba):zq who n t=(!decide (n=who)&&jv t):=by unfold zq jv;rw[Bool.and_assoc]
def l8(a b:ba):Prop:=b.call=a.call∧b.done=a.done∧b.ended=a.ended∧b.upto=a.upto∧b.bp=a.bp∧b.dJ=a.dJ∧b.mark=a.mark∧b.end_=a.end_
theorem l8.refl(a:ba):l8 a a:=⟨rfl,rfl,rfl,rfl,rfl,rfl,rfl,rfl⟩
theorem l8.trans{a b c:ba}(h:l8 a b)(k:l8 b c):l8 a c:=by
 grind [ba,l8]
theorem H5(t:ba)(k:Int):l8 t (dj t ⟨1,k⟩):=by
 obtain⟨-,bZ,dO,kc,oL,s7,D7,D8,D9, -⟩:=AP t k;exact⟨bZ,dO,kc,oL,s7,D7,D8,D9⟩
theorem l8.late{a b:ba}(h:l8 a b):jv b=jv a:=by unfold jv;rw[h.1,h.2.1]
theorem aIy{l:List ba}{w:cM}{j:Nat}{t:ba}(e:w.aR=(j:Int))(h:l[j]?=some t):kJ l w=l.set j (dj t ⟨1,w.lock⟩):=by
 unfold kJ;rw[e];exact mr h _
theorem NB:∀(g:List cM) (l:List ba),(∀h∈g,∃j:Nat,h.aR=(j:Int)∧j<l.length)->
  (g.foldl kJ l).length=l.length∧iT (g.foldl kJ l)=EA (iT l) g∧∀(i:Nat) t',(g.foldl kJ l)[i]?=some t'->∃t,l[i]?=some t∧l8 t t'∧(t'=t∨∃h∈g,h.aR=(i:Int))∧∀k∈t'.has,k∈t.has∨∃h∈g,h.lock=k
 |[],l,_=>⟨rfl,rfl,fun i t' h=>⟨t',h,l8.refl _,.inl rfl,fun k hk=>.inl hk⟩⟩
 |w::g,l,aJ=>by
  obtain⟨j,e,aw⟩:=aJ w (by simp)
  have aj:=c0 aw;have ai:=aIy e aj;have hl:(kJ l w).length=l.length:=by rw[ai,gj]
  obtain⟨aQ,aO,bF⟩:=NB g (kJ l w) (fun h ah=>by grind)
  rw[nZ];refine⟨aQ.trans hl,?_,fun i t' h=>?_⟩
  ·rw[aO];show EA (iT (kJ l w)) g=EA (kH (iT l) w.aR.toNat (iT l w.aR.toNat++[w.lock])) g;rw[ai,vy aw,(AP _ _).1,e,j6,oG aj]
  ·obtain⟨t1,h1,h2,h3,h4⟩:=bF i t' h;rw[ai,uA]at h1;split at h1
   ·rename_i au;subst au;cases h1;refine⟨_,aj,(H5 _ _).trans h2,.inr ⟨w,by simp,e⟩,fun k hk=>?_⟩
    rcases h4 k hk with q|⟨v,aL,q⟩
    ·rw[(AP _ _).1,eX,dA]at q;rcases q with q|q
     ·exact .inl q
     ·exact .inr ⟨w,by simp,q.symm⟩
    ·exact .inr ⟨v,by simp[aL],q⟩
   ·refine⟨t1,h1,h2,?_,fun k hk=>?_⟩
    ·rcases h3 with h3|⟨v,aL,q⟩
     ·exact .inl h3
     ·exact .inr ⟨v,by simp[aL],q⟩
    ·rcases h4 k hk with q|⟨v,aL,q⟩
     ·exact .inl q
     ·exact .inr ⟨v,by simp[aL],q⟩
structure uC (who:Nat) (lk:List ba) (vR:List cM) (n:Nat) (s:eS×List ba):Prop where
 len:s.2.length=lk.length
 hE:gN s.1 lk.length (iT s.2)
 uq:∀(i:Nat) t',s.2[i]?=some t'->∃t,lk[i]?=some t∧l8 t t'∧(i≠who->jv t=true->(i<n->t'.has=[]∧t'.at_=0)∧∀k∈t'.has,k≠1)∧(i=who∨jv t=false->t'=t)
 wt:∀w∈s.1.waits,w∈vR∧∀(i:Nat) t,w.aR=(i:Int)->lk[i]?=some t->i≠who->jv t=true->n<=i
theorem uC.step{who:Nat}{lk:List ba}{vR:List cM}{n:Nat}{s:eS×List ba}(h:uC who lk vR n s)(ag:n<lk.length)
  (hg:∀w∈vR,w.aR≠who∧∀(i:Nat) t,w.aR=(i:Int)->lk[i]?=some t->jv t=false->w.lock=1):uC who lk vR (n+1) (k6 who s n):=by
 have Aa:n<s.2.length:=by rw[h.len];exact ag
 have aj:=c0 Aa;obtain⟨t,aC,h1,h2,h3⟩:=h.uq n _ aj;unfold k6;rw[WT,eP,aj,oJ];by_cases hl:(!decide (n=who)&&jv s.2[n])=true
 ·rw[aF hl];simp only[dD,nk,nm]at hl;obtain⟨aP,ak⟩:=hl;have Jx:jv t=true:=by rw[<-h1.late];exact ak
  obtain⟨-,hX⟩:=h2 aP Jx;obtain⟨d1,d2,d3⟩:=h.hE.drop ag;rw[oG aj]at d2;generalize hs:s.2[n]=t0 at *;rw[mr aj];have rk:(nS t0).has=[]:=rfl;have ai:=vy (t:=nS t0) Aa;rw[rk]at ai;rw[<-ai]at d1;have OB:∀w∈(jX s.1 n).2,∃j:Nat,w.aR=(j:Int)∧j<(s.2.set n (nS t0)).length:=fun w hw=>by
   obtain⟨j,aQ,aO, -⟩:=d2 w hw;exact⟨j,aQ,by rw[gj,h.len];exact aO⟩
  obtain⟨aZ,a7,ch⟩:=NB (jX s.1 n).2 (s.2.set n (nS t0)) OB
  -- who gets a lock is on its way, and has not begun anew yet
  have ao:∀w∈(jX s.1 n).2,∀(i:Nat) t,w.aR=(i:Int)->lk[i]?=some t->i≠n∧i≠who∧jv t=true∧n<=i∧w.lock≠1:=fun w hw i t e hi=>by
   obtain⟨j,aQ,aO,bF,c9,eA⟩:=d2 w hw;have:j=i:=by omega
   subst this;obtain⟨c4,dm⟩:=h.wt w c9;obtain⟨v1,v2⟩:=hg w c4;have ca:w.lock≠1:=hX _ eA;have yg:jv t=true:=by
    cases ak:jv t with
    |true=>rfl
    |false=>exact absurd (v2 j t e hi ak) ca
   have ye:j≠who:=fun au=>v1 (by rw[e,au])
   exact⟨bF,ye,yg,dm j t e hi ye yg,ca⟩
  refine⟨by rw[aZ,gj];exact h.len,by rw[a7];exact d1,fun i t' hi=>?_,fun w hw=>?_⟩
  ·obtain⟨t1,dq,bZ,dO,kc⟩:=ch i t' hi;rw[uA]at dq;split at dq
   ·rename_i e;subst e;cases dq;have ru:∀w∈(jX s.1 n).2,w.aR≠(n:Int):=fun w hw e=>(ao w hw n t e aC).1 rfl
    have ar:t'=nS t0:=by
     rcases dO with dO|⟨w,hw,q⟩
     ·exact dO
     ·exact absurd q (ru w hw)
    subst ar;refine⟨t,aC,h1.trans ⟨rfl,rfl,rfl,rfl,rfl,rfl,rfl,rfl⟩,fun _ _=>⟨fun _=>⟨rfl,rfl⟩,fun k hk=>by cases hk⟩,fun q=>?_⟩
    rcases q with q|q
    ·exact absurd q aP
    ·rw[Jx]at q;cases q
   ·rename_i e;obtain⟨t2,aV,bm,iE,ir⟩:=h.uq i t1 dq;refine⟨t2,aV,bm.trans bZ,fun cc cI=>⟨fun bS=>?_,fun k hk=>?_⟩,fun q=>?_⟩
    ·have Fp:i<n:=by omega
     have ar:t'=t1:=by
      rcases dO with dO|⟨w,hw,q⟩
      ·exact dO
      ·have:=(ao w hw i t2 q aV).2.2.2.1;omega
     rw[ar];exact(iE cc cI).1 Fp
    ·rcases kc k hk with q|⟨w,hw,q⟩
     ·exact(iE cc cI).2 k q
     ·obtain⟨j,aQ,aO, -⟩:=d2 w hw;rw[<-q];exact(ao w hw j _ aQ (c0 aO)).2.2.2.2
    ·have ar:t'=t1:=by
      rcases dO with dO|⟨w,hw,aLs⟩
      ·exact dO
      ·obtain⟨-,jA,la, -⟩:=ao w hw i t2 aLs aV;rcases q with q|q
       ·exact absurd q jA
       ·rw[la]at q;cases q
     rw[ar];exact ir q
  ·obtain⟨c4,dm⟩:=d3 w hw;obtain⟨v1,v2⟩:=h.wt w c4;refine⟨v1,fun i t3 e hi cc cI=>?_⟩
   have:=v2 i t3 e hi cc cI;have bS:i≠n:=fun au=>dm (by rw[e,au])
   omega
 ·rw[az hl];refine⟨h.len,h.hE,fun i t' hi=>?_,fun w hw=>?_⟩
  ·obtain⟨t2,aV,bm,iE,ir⟩:=h.uq i t' hi;refine⟨t2,aV,bm,fun cc cI=>⟨fun bS=>?_,(iE cc cI).2⟩,ir⟩
   by_cases e:i=n
   ·subst e;rw[aj]at hi;cases hi;rw[aC]at aV;cases aV;exact absurd (by rw[h1.late,cI];simp[cc]) hl
   ·exact(iE cc cI).1 (by omega)
  ·obtain⟨v1,v2⟩:=h.wt w hw;refine⟨v1,fun i t3 e hi cc cI=>?_⟩
   have:=v2 i t3 e hi cc cI;have bS:i≠n:=fun au=>by
    subst au;rw[aC]at hi;cases hi;exact hl (by rw[h1.late,cI];simp[cc])
   omega
theorem uC.all{who:Nat}{lk:List ba}{vR:List cM}{s:eS×List ba}(h:uC who lk vR 0 s)
  (hg:∀w∈vR,w.aR≠who∧∀(i:Nat) t,w.aR=(i:Int)->lk[i]?=some t->jv t=false->w.lock=1):∀k,k<=lk.length->uC who lk vR k ((List.range k).foldl (k6 who) s)
 |0,_=>h
 |k+1,hk=>by
  rw[List.range_succ,s4];exact(uC.all h hg k (by omega)).step (by omega) hg
theorem PE{x:bn}(c:eC x){who:Nat}{t:ba}(aj:x.aq[who]?=some t)(h1:(1:Int)∈t.has){i:Nat}(aP:i≠who){t2:ba}(h2:x.aq[i]?=some t2)(hd:t2.done=false)(iX:fC t2.call=true):t2.has=[]∧∀k,fM x.m.log.nodes t2=⟨1,k⟩->k=1:=by
 have ae:=(c.j4 t2 (df h2)).l5 hd iX;have he:t2.has=[]:=by
  cases ah:t2.has with
  |nil=>rfl
  |cons a r=>
   rw[ah]at ae;have:a=1:=(List.cons_prefix_cons.1 ae).1;exact absurd (c.hE.O7 (k:=1) (cA.1 h2).1 (cA.1 aj).1 (by rw[oG h2,ah,this];simp) (by rw[oG aj];exact h1)) aP
 refine⟨he,fun k hk=>?_⟩
 have J:=sL x.m.log.nodes t2;rw[hk]at J;generalize hu:(⟨1,k⟩:eR)=u at J;cases J with
 |none=>cases hu
 |back=>cases hu
 |wait=>cases hu
 |leave=>cases hu
 |plain=>cases hu
 |l5=>
  have:=(MM (M9 _ _) ae hu.symm).2;rw[he]at this;exact(List.cons_prefix_cons.1 this).1
 |walk _ _ _ rv=>rw[iX]at rv;cases rv
theorem aLV{l:List aB}{t:ba}(he:t.ended=false)(hd:t.done=false)(iX:fC t.call=true)(ah:t.has=[]):fM l t=⟨1,1⟩:=by
 unfold fM;rw[az (by simp[he]),az (by simp[hd]),aF iX,ah]
 rfl
theorem aK5{x:bn}(c:eC x){who:Nat}{t t1:ba}(aj:x.aq[who]?=some t)(hw:∀w∈x.t.waits,w.aR≠who)(ag:fM x.m.log.nodes t=⟨3,0⟩)(hk:t.call.kind=13)(d1:t1.has=t.has):
  (∀w∈x.t.waits,w.aR≠who∧∀(i:Nat) t2,w.aR=(i:Int)->(x.aq.set who t1)[i]?=some t2->jv t2=false->w.lock=1)∧uC who (x.aq.set who t1) x.t.waits (x.aq.set who t1).length ((List.range (x.aq.set who t1).length).foldl (k6 who) (x.t,x.aq.set who t1)):=by
 obtain⟨he,hd⟩:=Ip ag;have hi:=(cA.1 aj).1;have ry:fC t.call=true:=by unfold fC;rw[hk];rfl
 have h1:(1:Int)∈t.has:=(M7 hd ag).1 ry 1 (by simp[ij])
 have hlen:(x.aq.set who t1).length=x.aq.length:=gj;have fj:∀i t2,(x.aq.set who t1)[i]?=some t2->(i=who∧t2=t1)∨(i≠who∧x.aq[i]?=some t2):=fun i t2 h=>by
  grind
 have hg:∀w∈x.t.waits,w.aR≠who∧∀(i:Nat) t2,w.aR=(i:Int)->(x.aq.set who t1)[i]?=some t2->jv t2=false->w.lock=1:=fun w gq=>by
  refine⟨hw w gq,fun i t2 e h hl=>?_⟩
  rcases fj i t2 h with⟨au, -⟩|⟨aP,h⟩
  ·exact absurd (by rw[e,au]) (hw w gq)
  ·have rq:=c.wt w gq i e t2 h;obtain⟨aQ,aO, -⟩:=xP c.iz.nodes.lU (c.j4 t2 (df h)) rq;have ju:gR t2.call=false:=by unfold jv at hl;rw[aO]at hl;simpa using hl
   have iX:fC t2.call=true:=by
    have J:=sL x.m.log.nodes t2;rw[rq]at J;generalize hu:(⟨1,w.lock⟩:eR)=u at J;cases J with
    |none=>cases hu
    |back=>cases hu
    |wait=>cases hu
    |leave=>cases hu
    |plain=>cases hu
    |l5 _ _ h=>exact h
    |walk _ _ _ _ h=>rw[ju]at h;cases h
   exact(PE c aj h1 aP h aO iX).2 _ rq
 have aC:uC who (x.aq.set who t1) x.t.waits 0 (x.t,x.aq.set who t1):=by
  refine⟨rfl,?_,fun i t' h=>⟨t',h,l8.refl _,fun aP ak=>⟨fun h=>absurd h (Nat.not_lt_zero _),fun k hk=>?_⟩,fun _=>rfl⟩,fun w hw=>⟨hw,fun _ _ _ _ _ _=>bG _⟩⟩
  ·rw[hlen,vy hi,PG (by rw[d1];exact oG aj)];exact c.hE
  ·rcases fj i t' h with⟨au, -⟩|⟨-,h⟩
   ·exact absurd au aP
   ·unfold jv at ak;simp only[dD,nk]at ak;exact(((c.j4 t' (df h)).walk ak.2 ak.1).2.2.2.2 k hk).1
 exact⟨hg,uC.all aC hg _ (bk _)⟩
theorem eC.merge{x:bn}(c:eC x){who:Nat}{t:ba}(aj:x.aq[who]?=some t)(hw:∀w∈x.t.waits,w.aR≠who)(aJ:ie x.g who=false)(ag:fM x.m.log.nodes t=⟨3,0⟩)(hk:t.call.kind=13):eC (BU who (jQ who x (dz x.m t.call))):=by
 obtain⟨he,hd⟩:=Ip ag;have hi:=(cA.1 aj).1;have gF:=xO c.iz t.call;have hl:=Nf c.iz t.call;have ry:fC t.call=true:=by unfold fC;rw[hk];rfl
 have h1:(1:Int)∈t.has:=(M7 hd ag).1 ry 1 (by simp[ij])
 have lY:=gF.nodes.lU;unfold BU jQ;rw[mr aj];generalize ax:dz x.m t.call=r at *;obtain⟨t1,Ah⟩:∃t1,xU x r t=t1:=⟨_,rfl⟩;have d1:t1.call=t.call∧t1.has=t.has∧t1.done=true∧t1.ended=t.ended∧t1.upto=((x.ops++r.2.2).length:Int):=by rw[<-Ah];exact⟨rfl,rfl,rfl,rfl,rfl⟩
 rw[Ah];simp only;have hlen:(x.aq.set who t1).length=x.aq.length:=gj;have fj:∀i t2,(x.aq.set who t1)[i]?=some t2->(i=who∧t2=t1)∨(i≠who∧x.aq[i]?=some t2):=fun i t2 h=>by
  grind
 obtain⟨hg,cf⟩:=aK5 c aj hw ag hk d1.2.1;generalize(List.range (x.aq.set who t1).length).foldl (k6 who) (x.t,x.aq.set who t1)=s at *;obtain⟨dq,bZ,dO,kc⟩:=cf;rw[hlen]at dq bZ dO kc;have hm:∀t'∈s.2,∃(i:Nat) (t2:ba),s.2[i]?=some t'∧(x.aq.set who t1)[i]?=some t2∧l8 t2 t':=fun t' h=>by
  obtain⟨i,cv⟩:=List.getElem?_of_mem h;obtain⟨t2,aQ,aO, -⟩:=dO i t' cv;exact⟨i,t2,cv,aQ,aO⟩
 -- what another thread is behind it
 have kB:∀(i:Nat) t',s.2[i]?=some t'->i≠who->∃t2,x.aq[i]?=some t2∧l8 t2 t'∧(jv t2=true->t'.has=[]∧t'.at_=0)∧(jv t2=false->t'=t2):=fun i t' h aP=>by
  obtain⟨t2,aQ,aO,bF,c9⟩:=dO i t' h;rcases fj i t2 aQ with⟨e, -⟩|⟨-,aQ⟩
  ·exact absurd e aP
  ·exact⟨t2,aQ,aO,fun hl=>(bF aP hl).1 (cA.1 aQ).1,fun hl=>c9 (.inr hl)⟩
 have aKp:∀t',s.2[who]?=some t'->t'=t1:=fun t' h=>by
  obtain⟨t2,aQ,aO,bF,c9⟩:=dO who t' h;rcases fj who t2 aQ with⟨-,e⟩|⟨aP, -⟩
  ·rw[c9 (.inl rfl),e]
  ·exact absurd rfl aP
 refine⟨gF,fun t' h=>?_,by show s.2.length<=40;rw[dq];exact c.n,by show gN s.1 s.2.length (iT s.2);rw[dq];exact bZ,fun t' h=>?_,fun w gq i e t' h=>?_,c.x5,fun w h=>?_,?_,fun t' h=>?_,fun t' h=>?_,?_⟩
 ·obtain⟨i,t2,aQ,aO,bF⟩:=hm t' h;rw[bF.1];rcases fj i t2 aO with⟨-,e⟩|⟨-,aO⟩
  ·rw[e,d1.1];exact c.cs t (df aj)
  ·exact c.cs t2 (df aO)
 ·obtain⟨i,cv⟩:=List.getElem?_of_mem h;by_cases aP:i=who
  ·subst aP;rw[aKp t' cv];exact nt.oT d1.2.2.1 fun h=>by rw[d1.2.2.2.1,he]at h;cases h
  ·obtain⟨t2,aQ,aO,bF,c9⟩:=kB i t' cv aP;have bT:=c.j4 t2 (df aQ);cases ak:jv t2 with
   |true=>
    obtain⟨aV,bm⟩:=bF ak;have ju:gR t2.call=true:=by unfold jv at ak;simp only[dD]at ak;exact ak.1
    refine⟨fun h=>?_,fun _ _=>?_,fun _ h=>?_,fun _ h=>?_⟩
    ·rw[aO.2.2.1]at h;exact⟨by rw[aO.2.1];exact(bT.ended h).1,aV⟩
    ·rw[aV,bm];exact⟨bG _,iM 0,(by decide:(0:Int)<=16),fun _=>rfl,fun k hk=>(by cases hk)⟩
    ·rw[aO.1,Sc ju]at h;cases h
    ·rw[aO.1,ju]at h;cases h
   |false=>
    rw[c9 ak];refine⟨bT.ended,bT.walk,fun Cs iX=>?_,bT.plain⟩
    rw[(PE c aj h1 aP aQ Cs iX).1];exact List.nil_prefix
 ·obtain⟨c4,dm⟩:=kc w gq;have aP:i≠who:=fun au=>hw w c4 (by rw[e,au])
  obtain⟨t2,aQ,aO,bF,c9⟩:=kB i t' h aP;have Ae:(x.aq.set who t1)[i]?=some t2:=by rw[gS (kn aP)];exact aQ
  have hV:=(cA.1 aQ).1;have ak:jv t2=false:=by
   cases ak:jv t2 with
   |false=>rfl
   |true=>have:=dm i t2 e Ae aP ak;omega
  rw[c9 ak];have rq:=c.wt w c4 i e t2 aQ;obtain⟨cK,dc, -⟩:=xP c.iz.nodes.lU (c.j4 t2 (df aQ)) rq;have hX:=(hg w c4).2 i t2 e Ae ak;have J:=sL x.m.log.nodes t2;rw[rq]at J;have iX:fC t2.call=true:=by
   generalize hu:(⟨1,w.lock⟩:eR)=u at J;cases J with
   |none=>cases hu
   |back=>cases hu
   |wait=>cases hu
   |leave=>cases hu
   |plain=>cases hu
   |l5 _ _ h=>exact h
   |walk _ _ _ _ h=>unfold jv at ak;rw[h,dc]at ak;cases ak
  rw[hX];exact aLV cK dc iX (PE c aj h1 aP aQ dc iX).1
 ·obtain⟨i,t2,aQ,aO,bF⟩:=c.iS w h;have aP:i≠who:=fun au=>BX.1 aJ w h (by rw[aQ,au])
  have hV:i<s.2.length:=by rw[dq];exact(cA.1 aO).1
  obtain⟨t3,aV,bm,iE,ir⟩:=kB i _ (c0 hV) aP;rw[aO]at aV;cases aV;have ak:jv t2=false:=by unfold jv;rw[bF.1];simp
  refine⟨i,t2,aQ,?_,bF⟩;rw[<-ir ak];exact c0 hV
 ·have:=c.iL;show 0<=x.g.kept∧x.g.kept<=((x.ops++r.2.2).length:Int);rw[bt];omega
 ·obtain⟨i,t2,aQ,aO,bF⟩:=hm t' h;rw[bF.2.2.2.1];rcases fj i t2 aO with⟨-,e⟩|⟨-,aO⟩
  ·rw[e,d1.2.2.2.2];exact⟨by omega,iM _⟩
  ·have:=c.up t2 (df aO);show 0<=t2.upto∧t2.upto<=((x.ops++r.2.2).length:Int);rw[bt];omega
 ·obtain⟨i,t2,aQ,aO,bF⟩:=hm t' h;rw[bF.1,bF.2.2.1,bF.2.2.2.1,bF.2.2.2.2.1];rcases fj i t2 aO with⟨-,e⟩|⟨-,aO⟩
  ·intro _ h;rw[e,d1.2.2.2.1,he]at h;cases h
  ·exact c.AV t2 (df aO)
 ·show(x.ops++r.2.2).length=r.1.log.entries.length;rw[bt,hl,c.ops]
theorem eC.l5{x:bn}(c:eC x){who:Nat}{t:ba}(aj:x.aq[who]?=some t)(he:t.ended=false)(hw:∀w∈x.t.waits,w.aR≠who)(aJ:ie x.g who=false):eC (oA who t (fM x.m.log.nodes t) x):=by
 have key:∀u,fM x.m.log.nodes t=u->(u.kind=1∨u.kind=2∨u=⟨3,0⟩∨u.kind=4∨u.kind=5)->eC (oA who t u x):=by
  rintro⟨a,k⟩ hu hk;unfold oA;simp only at hk ⊢;by_cases k1:a=1
  ·subst k1;rw[aF rfl];exact c.take aj hw aJ hu
  rw[az k1];by_cases k2:a=2
  ·subst k2;rw[aF rfl];exact c.aIw aj hw aJ hu
  rw[az k2];by_cases k3:a=3
  ·subst k3;have j1:k=0:=by
    rcases hk with h|h|h|h|h
    ·exact absurd h k1
    ·exact absurd h k2
    ·cases h;rfl
    ·exact absurd h (by decide)
    ·exact absurd h (by decide)
   subst j1;rw[aF rfl];unfold xT;split
   ·rename_i h;exact c.merge aj hw aJ hu h.1
   ·rename_i h;refine c.aHR aj hw aJ hu ?_;by_cases uS:t.call.kind=13
    ·exact .inr fun aC=>h ⟨uS,aC⟩
    ·exact .inl uS
  rw[az k3];by_cases k4:a=4
  ·subst k4;rw[aF rfl];exact c.wait aj hw aJ hu
  rw[az k4];by_cases kE:a=5
  ·subst kE;rw[aF rfl];exact c.leave aj hw aJ hu
  ·rw[az kE];exact c
 exact key _ rfl (L0 _ he)
theorem eC.step{x:bn}(c:eC x)(p:Int)(full:Bool):eC (ow x p full):=by
 unfold ow;cases ae:vS x p with
 |none=>exact c
 |some who=>
  obtain⟨t,aj,he,hw, -⟩:=MK (L1 ae);simp only;unfold wo;have cG:x.aq.getD who (nU sf)=t:=by grind
  rw[cG];cases aJ:ie x.g who with
  |true=>rw[aF rfl];exact c.tick.ot full aJ
  |false=>rw[az (by decide)];exact c.tick.l5 aj he hw aJ
end
section
theorem aGZ{x:bn}(c:eC x)(fi:∀(i:Nat) t,x.aq[i]?=some t->t.ended=false->∃w∈x.t.waits,w.aR=(i:Int)):∀(m:Nat) (w:cM),w∈x.t.waits->w.lock≠1->x.m.log.nodes.length-dep x.m.log.nodes w.lock<m->
  ∃(j:Nat) (t:ba) (a:Int),x.aq[j]?=some t∧t.done=false∧t.ended=false∧fC t.call=true∧a∈t.has∧a≠1∧(a=w.lock∨w.lock∈g0 x.m.log.nodes a)
 |0,_,_,_,h=>absurd h (Nat.not_lt_zero _)
 |m+1,w,hw,hk,hm=>by
  have lY:=c.iz.nodes.lU;obtain⟨i,e,hi,bX,h,ah,hl⟩:=c.hE.qU w hw;obtain⟨j,xX,aw,lD⟩:=(c.hE.o4 h.lock h.aR).1 ah;have aj:=c0 aw;rw[oG aj,hl]at lD;have tO:=c.j4 _ (df aj);generalize x.aq[j]=t at *;have he:t.ended=false:=by
   cases he:t.ended with
   |false=>rfl
   |true=>have:=(tO.ended he).2;rw[this]at lD;cases lD
  obtain⟨v,aL,bb⟩:=fi j t aj he;have ag:=c.wt v aL j bb t aj;obtain⟨-,hd,aSM, -⟩:=xP lY tO ag;have J:=sL x.m.log.nodes t;rw[ag]at J;generalize hu:(⟨1,v.lock⟩:eR)=u at J;cases J with
  |none=>cases hu
  |back=>cases hu
  |wait=>cases hu
  |leave=>cases hu
  |plain=>cases hu
  |l5 _ _ iX=>exact⟨j,t,w.lock,aj,hd,he,iX,lD,hk,.inl rfl⟩
  |walk _ _ _ iX ju hs=>
   cases hs with
   |root ah=>rw[ah]at lD;cases lD
   |pass=>cases hu
   |xW=>cases hu
   |here=>cases hu
   |down here eV s ah aC hs al fl=>
    simp only[eR.mk.injEq,true_and]at hu;subst hu;rw[ah,dA]at lD;obtain⟨n,JA,rq,aJ4,aSF⟩:=Tg lY al;have ym:par x.m.log.nodes v.lock=some w.lock:=by
     unfold par;rw[<-rq,H9 lY.cC JA];simp only;rw[az,aJ4,lD];intro e;have aC:=((tO.walk hd ju).2.2.2.2 here (by rw[ah];simp)).2.2
     omega
    have aJg:=vW lY.wf ym;have hle:=zl lY.wf v.lock;obtain⟨kD,t2,a,aQ,aO,bF,c9,eA,j3,rM⟩:=aGZ c fi m v aL (by omega) (by omega)
    refine⟨kD,t2,a,aQ,aO,bF,c9,eA,j3,.inr ?_⟩;have c3:=Hr lY.wf ym;rcases rM with rM|rM
    ·rw[rM,c3];simp
    ·exact LV lY.wf a v.lock (lf _ rM) _ ym
end
section
structure nr (a b:ba):Prop where
 call:b.call=a.call
 dJ:b.dJ=a.dJ
 ended:a.ended=true->b=a
 done:a.done=true->b.done=true∧b.mark=a.mark∧b.upto=a.upto∧(b.bp=a.bp∨a.call.kind=12∧b.bp={c2 with err:=120})
theorem nr.refl(a:ba):nr a a:=⟨rfl,rfl,fun _=>rfl,fun h=>⟨h,rfl,rfl,.inl rfl⟩⟩
theorem nr.alike{a b:ba}(h:l8 a b)(he:a.ended=true->b=a):nr a b:=⟨h.1,h.2.2.2.2.2.1,he,fun hd=>⟨h.2.1.trans hd,h.2.2.2.2.2.2.1,h.2.2.2.1,.inl h.2.2.2.2.1⟩⟩
def lj(l k:List ba):Prop:=k.length=l.length∧∀(i:Nat) t,l[i]?=some t->∃t',k[i]?=some t'∧nr t t'
theorem lj.refl(l:List ba):lj l l:=⟨rfl,fun i t h=>⟨t,h,nr.refl t⟩⟩
theorem nr.trans{a b d:ba}(h:nr a b)(k:nr b d):nr a d:=by
 refine⟨k.call.trans h.call,k.dJ.trans h.dJ,fun he=>?_,fun hd=>?_⟩
 ·have e:=h.ended he;subst e;exact k.ended he
 ·obtain⟨h1,h2,h3,h4⟩:=h.done hd;obtain⟨k1,k2,k3,k4⟩:=k.done h1;refine⟨k1,k2.trans h2,k3.trans h3,?_⟩;rcases k4 with k4|⟨k4,kE⟩
  ·rcases h4 with h4|⟨h4,cz⟩
   ·exact .inl (k4.trans h4)
   ·exact .inr ⟨h4,k4.trans cz⟩
  ·exact .inr ⟨by rw[<-h.call];exact k4,kE⟩
theorem lj.trans{a b d:List ba}(h:lj a b)(k:lj b d):lj a d:=⟨k.1.trans h.1,fun i t aj=>by
 obtain⟨t1,h1,h2⟩:=h.2 i t aj;obtain⟨t2,k1,k2⟩:=k.2 i t1 h1;exact⟨t2,k1,h2.trans k2⟩⟩
theorem wc(l:List ba)(n:Int)(f:ba->ba)(i:Nat):(gJ l n f)[i]?=l[i]?.map fun t=>if n=(i:Int)then f t else t:=by
 unfold gJ;split
 ·rename_i h;rw[uA];by_cases e:n.toNat=i
  ·have au:n=(i:Int):=by omega
   have hi:i<l.length:=by omega
   rw[aF e,aF (by omega),e,eP,c0 hi]
   simp[au]
  ·have au:¬n=(i:Int):=by omega
   rw[az e];simp[au]
 ·rename_i h;cases hi:l[i]? with
  |none=>rfl
  |some t=>
   have:=(cA.1 hi).1;have au:¬n=(i:Int):=by omega
   simp[au]
theorem yT(l:List ba)(n:Int)(f:ba->ba):(gJ l n f).length=l.length:=by unfold gJ;split<;>simp
theorem zK{l:List ba}{n:Int}{f:ba->ba}(h:∀(i:Nat) t,n=(i:Int)->l[i]?=some t->nr t (f t)):lj l (gJ l n f):=by
 refine⟨yT _ _ _,fun i t aj=>?_⟩
 rw[wc,aj];refine⟨_,rfl,?_⟩;split
 ·rename_i e;exact h i t e aj
 ·exact nr.refl t
theorem NA{l:List ba}{who:Nat}{t:ba}(f:ba->ba)(aj:l[who]?=some t)(h:nr t (f t)):lj l (gJ l who f):=zK fun i u e hu=>by
 have:i=who:=by omega
 subst this;rw[aj]at hu;cases hu;exact h
theorem Vj(t:ba)(k:Int)(he:t.ended=false):nr t (dj t ⟨1,k⟩):=nr.alike (H5 t k) fun h=>by rw[he]at h;cases h
theorem Vh{l:List ba}{w:cM}(h:∀(i:Nat) t,w.aR=(i:Int)->l[i]?=some t->t.ended=false):lj l (kJ l w):=zK fun i t e aj=>Vj t _ (h i t e aj)
theorem Vi:∀(g:List cM) {l:List ba},(∀w∈g,∀(i:Nat) t,w.aR=(i:Int)->l[i]?=some t->t.ended=false)->lj l (g.foldl kJ l)
 |[],l,_=>lj.refl l
 |w::g,l,h=>by
  rw[nZ];have h1:=Vh (h w (by simp))
  refine h1.trans (Vi g fun v aL i t e aj=>?_)
  unfold kJ at aj;rw[wc]at aj;obtain⟨u,hu,au⟩:=jC.1 aj;have:=h v (lf _ aL) i u e hu;rw[<-au];split<;>exact this
structure Br (x y:bn):Prop where
 aq:lj x.aq y.aq
 kept:x.g.kept<=y.g.kept
 ops:x.ops<+:y.ops
theorem Br.refl(x:bn):Br x x:=⟨lj.refl _,iM _,nn _⟩
theorem aGQ{x:bn}(c:eC x)(who:Nat)(full:Bool)(aJ:ie x.g who=true):Br x (mS full who x):=by
 have bS:∀w∈x.g.waits,∀(i:Nat) t,w.aR=(i:Int)->x.aq[i]?=some t->t.done=true∧t.ended=false∧t.call.kind=12:=fun w hw i t e aj=>by
  obtain⟨eV,t',ku,h1,h2,h3,h4, -⟩:=c.iS w hw;have:eV=i:=by omega
  subst this;rw[aj]at h1;cases h1;exact⟨h2,h3,h4⟩
 obtain⟨ds,eW,dP⟩:∃w∈x.g.waits,w.aR=(who:Int):=by
  unfold ie at aJ;obtain⟨w,h1,h2⟩:=List.any_eq_true.1 aJ;exact⟨w,h1,mB h2⟩
 have Wf:∀(t:ba),t.ended=false->nr t (te x.time t):=fun t he=>⟨rfl,rfl,fun h=>(by rw[he]at h;cases h),fun h=>⟨h,rfl,rfl,.inl rfl⟩⟩
 unfold mS;cases full with
 |true=>
  rw[aF rfl];refine⟨?_,iM _,nn _⟩;refine lj.trans (zK (n:=who) (f:=fun t=>{t with bp:={c2 with err:=120}}) (fun i t e aj=>?_)) (zK (n:=who) (f:=fun t=>{t with ended:=true,end_:=x.time}) (fun i t e aj=>?_))
  ·obtain⟨h1,h2,h3⟩:=bS ds eW i t (by rw[dP];exact e) aj
   exact⟨rfl,rfl,fun h=>(by rw[h2]at h;cases h),fun h=>⟨h,rfl,rfl,.inr ⟨h3,rfl⟩⟩⟩
  ·rw[wc]at aj;obtain⟨u,hu,au⟩:=jC.1 aj;obtain⟨h1,h2,h3⟩:=bS ds eW i u (by rw[dP];exact e) hu
   refine Wf t ?_;rw[<-au];split<;>exact h2
 |false=>
  rw[az (by decide)]
  refine⟨⟨Io _ _ _,fun j u aw=>?_⟩,?_,nn _⟩
  ·show ∃t',(List.foldl (kF x.time) x.aq _)[j]?=some t'∧_;rw[ML,aw];refine⟨_,rfl,?_⟩;split
   ·rename_i Fp;obtain⟨w,gq,au⟩:=bP.1 Fp;exact Wf u (bS w (km.1 gq).1 j u au aw).2.1
   ·exact nr.refl u
  ·show x.g.kept<=max x.g.kept (x.ops.length:Int);omega
theorem M1{x:bn}{who:Nat}(hE:gN x.t x.aq.length (iT x.aq))(tB:∀w∈x.t.waits,∀(i:Nat) t,w.aR=(i:Int)->x.aq[i]?=some t->t.ended=false)(yg:∀(i:Nat) t,x.aq[i]?=some t->t.ended=true->t.done=true):
  ∀(k:Nat),k<=x.aq.length->lj x.aq ((List.range k).foldl (k6 who) (x.t,x.aq)).2∧gN ((List.range k).foldl (k6 who) (x.t,x.aq)).1 x.aq.length (iT ((List.range k).foldl (k6 who) (x.t,x.aq)).2)∧(∀w∈((List.range k).foldl (k6 who) (x.t,x.aq)).1.waits,w∈x.t.waits)∧∀(i:Nat) t',((List.range k).foldl (k6 who) (x.t,x.aq)).2[i]?=some t'->∃t,x.aq[i]?=some t∧l8 t t':=by
 intro k;induction k with
 |zero=>exact fun _=>⟨lj.refl _,hE,fun w h=>h,fun i t h=>⟨t,h,l8.refl t⟩⟩
 |succ k ay=>
  intro hk;obtain⟨h1,h2,h3,h4⟩:=ay (by omega)
  rw[List.range_succ,s4];simp only[nZ,Bc];generalize(List.range k).foldl (k6 who) (x.t,x.aq)=s at *;have mK:k<s.2.length:=by rw[h1.1];omega
  have lE:=c0 mK;unfold k6;rw[WT,eP,lE,oJ];split
  ·rename_i hl;simp only[dD]at hl;obtain⟨d1,d2,d3⟩:=h2.drop (i:=k) (by omega)
   obtain⟨u,hu,aD⟩:=h4 k _ lE;have aP:s.2[k].ended=false:=by
    cases he:s.2[k].ended with
    |false=>rfl
    |true=>
     have:=yg k u hu (by rw[<-aD.2.2.1];exact he)
     have cO:=hl.2;unfold jv at cO;rw[aD.2.1,this]at cO;simp at cO
   have jO:lj s.2 (gJ s.2 k nS):=zK fun i t e aj=>by
    have:i=k:=by omega
    subst this;rw[lE]at aj;cases aj;exact⟨rfl,rfl,fun h=>(by rw[aP]at h;cases h),fun h=>⟨h,rfl,rfl,.inl rfl⟩⟩
   have VD:∀(i:Nat) t',(gJ s.2 k nS)[i]?=some t'->∃t,x.aq[i]?=some t∧l8 t t':=fun i t' h=>by
    rw[wc]at h;obtain⟨v,aL,e⟩:=jC.1 h;obtain⟨t,aQ,aO⟩:=h4 i v aL;refine⟨t,aQ,?_⟩;rw[<-e];split
    ·exact aO.trans ⟨rfl,rfl,rfl,rfl,rfl,rfl,rfl,rfl⟩
    ·exact aO
   have OB:∀w∈(jX s.1 k).2,∃j:Nat,w.aR=(j:Int)∧j<(gJ s.2 k nS).length:=fun w hw=>by
    obtain⟨j,aQ,aO, -⟩:=d2 w hw;exact⟨j,aQ,by rw[yT,h1.1];exact aO⟩
   obtain⟨aZ,a7,ch⟩:=NB (jX s.1 k).2 (gJ s.2 k nS) OB;refine⟨(h1.trans jO).trans (Vi _ fun w hw i t e aj=>?_),?_,fun w hw=>h3 w (d3 w hw).1,fun i t' h=>?_⟩
   ·obtain⟨j,aQ,aO,bF,c9, -⟩:=d2 w hw;obtain⟨v,OL,OM⟩:=VD i t aj;rw[OM.2.2.1];exact tB w (h3 w c9) i v e OL
   ·rw[a7];have:iT (gJ s.2 k nS)=kH (iT s.2) k []:=by
     rw[mr lE,vy mK];rfl
    rw[this];exact d1
   ·obtain⟨t1,dq,bZ, -⟩:=ch i t' h;obtain⟨t,aV,bm⟩:=VD i t1 dq;exact⟨t,aV,bm.trans bZ⟩
  ·exact⟨h1,h2,h3,h4⟩
theorem aHY{x:bn}{who:Nat}(hE:gN x.t x.aq.length (iT x.aq))(tB:∀w∈x.t.waits,∀(i:Nat) t,w.aR=(i:Int)->x.aq[i]?=some t->t.ended=false)(yg:∀(i:Nat) t,x.aq[i]?=some t->t.ended=true->t.done=true):lj x.aq (BU who x).aq:=(M1 hE tB yg _ (bk _)).1
theorem Na{x:bn}(c:eC x){who:Nat}{t:ba}(aj:x.aq[who]?=some t)(r:cb×hS×List bf):
  gN (jQ who x r).t (jQ who x r).aq.length (iT (jQ who x r).aq)∧(∀w∈(jQ who x r).t.waits,∀(i:Nat) t,w.aR=(i:Int)->(jQ who x r).aq[i]?=some t->t.ended=false)∧∀(i:Nat) t,(jQ who x r).aq[i]?=some t->t.ended=true->t.done=true:=by
 have hi:=(cA.1 aj).1;refine⟨?_,?_,?_⟩
 ·show gN x.t (gJ x.aq who _).length (iT (gJ x.aq who _));rw[mr aj,gj,vy hi,PG (l:=(xU x r t).has) ((oG aj).trans rfl)];exact c.hE
 ·intro w hw i u h hu;have dr:(gJ x.aq who (xU x r))[i]?=some u:=hu;rw[wc]at dr;obtain⟨v,aL,au⟩:=jC.1 dr;have:=(xP c.iz.nodes.lU (c.j4 v (df aL)) (c.wt w hw i h v aL)).1;rw[<-au];split
  ·exact this
  ·exact this
 ·intro i u h mh;have dr:(gJ x.aq who (xU x r))[i]?=some u:=h;rw[wc]at dr;obtain⟨v,aL,au⟩:=jC.1 dr;rw[<-au]at mh ⊢;split
  ·rfl
  ·rename_i aP;rw[az aP]at mh;exact((c.j4 v (df aL)).ended mh).1
theorem aGR{x:bn}(c:eC x){who:Nat}{t:ba}(aj:x.aq[who]?=some t)(he:t.ended=false):Br x (oA who t (fM x.m.log.nodes t) x):=by
 have hi:=(cA.1 aj).1;have bX:∀{p:Prop},t.ended=true->p:=fun h=>by rw[he]at h;cases h
 have Al:∀(i:Nat) u,(who:Int)=(i:Int)->x.aq[i]?=some u->u=t:=fun i u e h=>by
  have:i=who:=by omega
  subst this;rw[aj]at h;exact(nY h).symm
 have tB:∀w∈x.t.waits,∀(i:Nat) u,w.aR=(i:Int)->x.aq[i]?=some u->u.ended=false:=fun w hw i u e hu=>by
  have ag:=c.wt w hw i e u hu;exact(xP c.iz.nodes.lU (c.j4 u (df hu)) ag).1
 generalize hu:fM x.m.log.nodes t=u;obtain⟨a,k⟩:=u;unfold oA;simp only;by_cases k1:a=1
 ·subst k1;rw[aF rfl];unfold vT;split
  ·exact⟨NA (fun t=>dj t ⟨1,k⟩) aj (Vj t k he),iM _,nn _⟩
  ·exact⟨lj.refl _,iM _,nn _⟩
 rw[az k1];by_cases k2:a=2
 ·subst k2;rw[aF rfl];have Jm:lj x.aq (gJ x.aq who fun t=>dj t ⟨2,k⟩):=zK fun i u e h=>by
   rw[Al i u e h];obtain⟨-,bZ,dO,kc,oL,s7,D7,D8,D9, -⟩:=C7 t k;exact nr.alike ⟨bZ,dO,kc,oL,s7,D7,D8,D9⟩ bX
  obtain⟨h1,h2,h3⟩:=Th (c.j4 t (df aj)) (by rw[<-oG aj];exact c.hE.sn who) hu
  obtain⟨-,aw⟩:=c.hE.free hi (by rw[oG aj];exact h2)
  unfold vU;cases an:(fo x.t who k).2 with
  |none=>exact⟨Jm,iM _,nn _⟩
  |some j=>
   refine⟨Jm.trans (Vh fun i u e h=>?_),iM _,nn _⟩
   obtain⟨eV,xX,cv,aP,ye⟩:=aw j an;rw[wc]at h;obtain⟨v,aL,au⟩:=jC.1 h;have:=tB _ ye i v e aL;rw[<-au];split
   ·rw[(C7 v k).2.2.2.1];exact this
   ·exact this
 rw[az k2];by_cases k3:a=3
 ·rw[aF k3];unfold xT;have hd:t.done=false:=by
   have J:=sL x.m.log.nodes t;rw[hu,k3]at J;generalize a2:(⟨3,k⟩:eR)=z at J;cases J with
   |none=>cases a2
   |back=>cases a2
   |wait=>cases a2
   |leave=>cases a2
   |plain hd=>exact hd
   |l5 hd=>exact hd
   |walk _ hd=>exact hd
  have VB:lj x.aq (jQ who x (dz x.m t.call)).aq:=zK fun i u e h=>by
   rw[Al i u e h];exact⟨rfl,rfl,bX,fun h=>by rw[hd]at h;cases h⟩
  have Ac:x.ops<+:(jQ who x (dz x.m t.call)).ops:=List.prefix_append _ _;split
  ·obtain⟨cK,dc,ei⟩:=Na c aj (dz x.m t.call);exact⟨VB.trans (aHY cK dc ei),iM _,Ac⟩
  ·exact⟨VB,iM _,Ac⟩
 rw[az k3];by_cases k4:a=4
 ·rw[aF k4];unfold vY vV;split
  ·split
   ·exact⟨NA (fun t=>{t with ended:=true,end_:=x.time}) aj ⟨rfl,rfl,bX,fun h=>⟨h,rfl,rfl,.inl rfl⟩⟩,iM _,nn _⟩
   ·exact Br.refl x
  ·split
   ·exact⟨lj.refl _,iM _,nn _⟩
   ·exact⟨lj.refl _,iM _,nn _⟩
 rw[az k4];by_cases kE:a=5
 ·rw[aF kE];unfold xL;exact⟨NA (fun t=>{dj t ⟨5,0⟩with end_:=x.time}) aj ⟨rfl,rfl,bX,fun h=>⟨h,rfl,rfl,.inl rfl⟩⟩,iM _,nn _⟩
 ·rw[az kE];exact Br.refl x
end
end Go.Proofs.YthafnbmdmfoobaaGreatDoor
