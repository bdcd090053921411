/- What the functions of this seat answer (27 of 38). No condition. -/
import Derived.Test.YtennnelammaapaaGreatDoorWorkAZ
set_option linter.unusedSimpArgs false
set_option linter.unusedVariables false
set_option maxRecDepth 100000
set_option maxHeartbeats 16000000
namespace Go.Proofs.YtennnelammaapaaGreatDoor
section
theorem aO2(y:List UInt8)(w:AV)(clock:Nat):∀(es:List (AV×AV×Nat)),keysIn .string es→keysIn .string (eO (.str y) w es clock)∧
  (∀x,(keyAt (.str x) (eO (.str y) w es clock)).map (·.2)=if x=y then some w else(keyAt (.str x) es).map (·.2)):=by
 intro es;induction es with
 |nil=>
  intro _;refine⟨fun p hp=>?_,fun x=>?_⟩
  ·simp only[eO,keyAt,zAW,zAq]at hp;subst hp;rfl
  grind [eO,keyAt,zAW,zAq,mF]
 |cons q es ih=>
  obtain⟨k,v,b⟩:=q;intro hk;have hk0:aHR .string k=true:=hk (k,v,b) (by simp)
  have hk1:keysIn .string es:=fun p hp=>hk p (zAR _ hp)
  cases k<;>simp only[aHR,zAz]at hk0;rename_i z;by_cases hyz:y=z
  ·subst hyz;have e:eO (.str y) w ((AV.str y,v,b)::es) clock=(.str y,w,b)::es:=by simp[eO,keyAt,mF]
   rw[e];refine⟨fun p hp=>?_,fun x=>?_⟩
   ·rcases zAs.1 hp with rfl|hp
    ·rfl
    ·exact hk1 p hp
   ·simp only[keyAt,mF];by_cases h:x=y<;>simp[h]
  ·have hne:mF (.str y) (.str z)=false:=by simp[mF,hyz]
   rw[Go.Proofs.YtennnelammaapaaGreatDoor.zE hne];obtain⟨i1,i2⟩:=ih hk1;refine⟨fun p hp=>?_,fun x=>?_⟩
   ·rcases zAs.1 hp with rfl|hp
    ·rfl
    ·exact i1 p hp
   ·have:=i2 x;simp only[keyAt,mF];by_cases h:x=z
    ·subst h;have hxy:¬x=y:=fun e=>hyz e.symm
     simp[hxy]
    ·simp only[zAg h,zCn,Option.map_map];by_cases hxy:x=y
     ·rw[zAl hxy]at this ⊢;cases hkk:keyAt (.str x) (eO (.str y) w es clock)with
      |none=>rw[hkk]at this;cases this
      |some v=>rw[hkk]at this;simpa using this
     ·rw[zAe hxy]at this ⊢;cases hkk:keyAt (.str x) (eO (.str y) w es clock)with
      |none=>rw[hkk]at this;cases hk2:keyAt (.str x) es with
       |none=>rfl
       |some v=>rw[hk2]at this;cases this
      |some v=>rw[hkk]at this;cases hk2:keyAt (.str x) es with
       |none=>rw[hk2]at this;cases this
       |some u=>rw[hk2]at this;simpa using this
structure ItM (l:List Itm) (es:List (AV×AV×Nat)):Prop where
 ki:keysIn .string es
 at_:∀p:Txt,(keyAt (.str p) es).map (·.2)=(lookI p l).map itA
 cl:∀n,∀p∈es,Cl n p.1∧Cl n p.2.1
theorem aW1:ItM [] []:=⟨fun p hp=>(by cases hp),fun x=>rfl,fun n p hp=>(by cases hp)⟩
theorem aSM(n:Nat)(x:Itm):Cl n (itA x):=.agg _ fun i y hy=>by
 have:=zAp hy;simp only[zAs,zAH,zBv]at this;rcases this with rfl|rfl|rfl
 ·exact .str _
 ·exact .int _ _
 ·exact .str _
theorem aW2{l:List Itm}{es:List (AV×AV×Nat)}(h:ItM l es)(x:Itm)(clock:Nat):ItM (l++[x]) (eO (.str x.path) (itA x) es clock):=by
 obtain⟨i1,i2⟩:=aO2 x.path (itA x) clock es h.ki;refine⟨i1,fun p=>?_,fun n=>aUy (.str _) (aSM n x) (h.cl n) clock⟩
 rw[i2,h.at_];unfold lookI;grind
theorem ItM.yes{l:List Itm}{es:List (AV×AV×Nat)}(h:ItM l es){p:Txt}{x:Itm}(hx:lookI p l=some x):∃j,keyAt (.str p) es=some (j,itA x):=by
 have:=h.at_ p;simp_all
theorem ItM.no{l:List Itm}{es:List (AV×AV×Nat)}(h:ItM l es){p:Txt}(hx:lookI p l=none):keyAt (.str p) es=none:=by
 have:=h.at_ p;rw[hx]at this;exact zCi.1 this
def evC(evs:List Evt):List AV:=(evs.map fF).flatMap AV.cells
theorem aO3(a:List Evt)(x:Evt):evC (a++[x])=evC a++[.int .i64 x.kind,.str x.path]:=by
 simp[evC,fF,AV.cells]
theorem aDk(a:List Evt):(evC a).length=a.length * 2:=by
 induction a with
 |nil=>rfl
 |cons x a ih=>
  have:evC (x::a)=[.int .i64 x.kind,.str x.path]++evC a:=by simp[evC,fF,AV.cells]
  grind
def evH(G:AHeap)(h:Nat)(evs:List Evt):AHeap:=aB (aB G (h+1) (.cells (evs.length+1) (evC evs))) h (.cells 0 [.osl 2 (h+1) (evs.length+1) 0 evs.length evs.length])
theorem aW3{G:AHeap}{h:Nat}(hh:h+1<G.length)(evs:List Evt)(L:AHeap):evH (G++L) h evs=evH G h evs++L:=by
 unfold evH;rw[bD hh,bD (by rw[aC];omega)]
theorem aHo(G:AHeap)(h:Nat)(evs:List Evt):(evH G h evs).length=G.length:=by unfold evH;rw[aC,aC]
theorem aF9{G:AHeap}{h j:Nat}{B:ABlk}(evs:List Evt)(hj:hget G j=B)(h1:j≠h)(h2:j≠h+1):hget (evH G h evs) j=B:=by
 unfold evH;exact aH (aH hj (by omega) _) (by omega) _
structure EB (h:Nat) (evs:List Evt) (G:AHeap):Prop where
 b0:hget G h=.cells 0 [.osl 2 (h+1) (evs.length+1) 0 evs.length evs.length]
 b1:hget G (h+1)=.cells (evs.length+1) (evC evs)
theorem EB.lt{h:Nat}{evs:List Evt}{G:AHeap}(k:EB h evs G):h+1<G.length:=aV k.b1 trivial
theorem EB.app{h:Nat}{evs:List Evt}{G:AHeap}(k:EB h evs G)(L:AHeap):EB h evs (G++L):=⟨aD k.b0 trivial L,aD k.b1 trivial L⟩
theorem EB.set{h:Nat}{evs:List Evt}{G:AHeap}(k:EB h evs G){i:Nat}(hi:h+1<i)(X:ABlk):EB h evs (aB G i X):=⟨aH k.b0 (by omega) X,aH k.b1 (by omega) X⟩
theorem EB.put{h:Nat}{G:AHeap}(hl:h+1<G.length)(es:List Evt):EB h es (evH G h es):=
 ⟨aX (by rw[aC];omega) _,aH (aX hl _) (by omega) _⟩
theorem aO4(k n:Nat)(evs:List Evt):ClB n (.cells k (evC evs)):=fun x hx=>by
 unfold evC at hx;rw[zBC]at hx;obtain⟨y,hy,hx⟩:=hx;obtain⟨t, -,rfl⟩:=zAm.1 hy;simp only[fF,AV.cells,zAs,zAH,zBv]at hx;rcases hx with rfl|rfl
 ·exact .int _ _
 ·exact .str _
theorem aLK{G:AHeap}{h n:Nat}(evs:List Evt)(hn:h+1<n):∀(j:Nat) (b:ABlk),(evH G h evs)[j]?=some b→G[j]?=some b∨ClB n b:=fun j b hj=>by
 rcases pY (n:=n) (b:=.cells 0 [.osl 2 (h+1) (evs.length+1) 0 evs.length evs.length]) (fun x hx=>by rw[zAq]at hx;subst hx;exact .osl _ _ _ _ _ _ (by omega)) j b hj with q|q
 ·exact pY (aO4 _ _ evs) j b q
 ·exact .inr q
end
section
theorem aX1(kind:Int)(path:Txt)(evs:List Evt)(u:Nat)(hl:evs.length≤4294967296)(G:AHeap)(hB:EB u evs G):
  ACalls Tryz.prog 177 [.int .i64 kind,.str path,.ref u 0 0] G (fun v G'=>v=.tup []∧G'=evH G u (evs++[⟨kind,path⟩])):=by
 refine aQ Tryz.func177 ?_;have b0:=hB.b0;have b1:=hB.b1;have hlt:=hB.lt;have r0:∀c,hget (aB G (u+1) c) u=_:=fun c=>aH b0 (by omega) c
 have hcs:(evC evs).length=evs.length * 2:=aDk _;have hq1:(∀e,e=AV.agg [.int .i64 kind,.str path]→e.cells.length=2)=True:=zAC (fun e he=>by rw[he];rfl)
 have hq2:((evs.length+1) * 24≤140737488355328)=True:=zAC (by omega)
 have hsp:bG [AV.osl 2 (u+1) (evs.length+1) 0 evs.length evs.length] 0 [.osl 2 (u+1) (evs.length+2) 0 (evs.length+1) (evs.length+1)]=[.osl 2 (u+1) (evs.length+2) 0 (evs.length+1) (evs.length+1)]:=rfl;have hput:aB (aB G (u+1) (.cells (evs.length+2) (evC evs++[.int .i64 kind,.str path]))) u (.cells 0 [.osl 2 (u+1) (evs.length+2) 0 (evs.length+1) (evs.length+1)])=evH G u (evs++[⟨kind,path⟩]):=by
  unfold evH;rw[aO3,zAa];rfl
 repeat' first|(refine gS ?_;simp only[go_sem,b0,b1,r0,hcs,hq1,hq2,hsp])|refine gA ?_|(refine gD ?_ ?_<;>intro h<;>try exact aA h)|fail
 rw[hput];exact⟨_,[],.tup [],(zAd _).symm,by rw[aHo];exact zAf _,by rw[aHo];exact aLK _ hlt,.cl _ (.tup _ fun _ _ hx=>by simp at hx),rfl,rfl⟩
theorem aO5(l:List Itm):∀e∈l.map itA,Pur e:=fun e he=>by obtain⟨x,_,rfl⟩:=zAm.1 he;exact(by simp only[go_sem])
theorem aSN(k:Nat)(b:Bool)(l:List Itm):Cl k (.sl b (l.map itA)):=(Pur.sl b _ (aO5 l)).cl k
theorem aW4(b:Bool)(l:List Itm)(H:AHeap):bH Tryz.prog 178 [.sl b (l.map itA)] H (.func (.func 195) [] [.cptr [.sl b (l.map itA)]]):=by
 refine fO Tryz.func178 ?_;repeat' first|(refine gS ?_;simp only[go_sem])|refine gA ?_|(refine gD ?_ ?_<;>intro h<;>try exact aA h)|fail
 refine⟨_,_,rfl,?_,rfl⟩;refine .func _ _ _ _ _ rfl rfl bN (aT (aAk (zAf _) (by simp only[go_sem]) ?_) bN)
 simp only[zAq,forall_eq];exact aSN _ _ _
theorem aV3(b:Bool)(l:List Itm)(y:Nat)(J:Nat→AHeap→Prop)(hY:∀i (h:i<l.length) G,J (i+1) G→AYield Tryz.prog y [.int .i64 i,itA l[i]] G (fun v G'=>v=.bool true∧J i G'))(hl:l.length≤4294967296)(H:AHeap)(h0:J l.length H):
  ACalls Tryz.prog 195 [.func (.yield y) [] [],.cptr [.sl b (l.map itA)]] H (fun _ G=>J 0 G):=by
 refine aW Tryz.func195 ?_;have hw:IntKind.i64.wrap ((l.length:Int)-1)=(l.length:Int)-1:=wI;repeat' first|(refine gS ?_;simp only[go_sem,hw])|refine gA ?_|(refine gD ?_ ?_<;>intro h<;>try exact aA h)|fail
 refine aI (ι:=Int×AHeap) (fun s=>[(0,.func (.yield y) [] []),(1,.cptr [.sl b (l.map itA)]),(3,.int .i64 s.1)]) (fun s=>s.2) (fun s=>∃k:Nat,s.1=(k:Int)-1∧k≤l.length∧J k s.2) (fun s=>(s.1+1).toNat) ((l.length:Int)-1,H) ⟨l.length,rfl,zAf _,h0⟩ ?_ rfl ?_
 ·simp[go_sem]
 rintro⟨v,G⟩ ⟨k,hv,hk,hJ⟩;simp only at hv hk hJ ⊢;cases k with
 |zero=>
  have hv':v= -1:=by omega
  subst hv';repeat' first|(refine gS ?_;simp only[go_sem])|refine gA ?_|(refine gD ?_ ?_<;>intro h<;>try exact aA h)|fail
  exact hJ
 |succ i=>
  have hv':v=(i:Int):=by omega
  subst hv';have hgd:(l.map itA).getD i .top=itA l[i]:=by simp[show i<l.length from hk]
  have hge:decide (0≤(i:Int))=true:=dT;have hw2:IntKind.i64.wrap ((i:Int)-1)=(i:Int)-1:=wI;have hy:=hY i hk G hJ;repeat' first|(refine gS ?_;simp only[go_sem,hgd,hge,itA,hk])|refine gA ?_|(refine gD ?_ ?_<;>intro h<;>try exact aA h)|fail
  refine rD hy ?_;rintro v G' ⟨rfl,hJ'⟩;simp only[go_sem];repeat' first|(refine gS ?_;simp only[go_sem,hw2])|refine gA ?_|(refine gD ?_ ?_<;>intro h<;>try exact aA h)|fail
  exact⟨((i:Int)-1,G'),⟨i,rfl,by omega,hJ'⟩,by simp only;omega,rfl,rfl⟩
end
section
def hasC(ths:List Thr)(i:Nat):List Int:=(ths[i]?.map (·.has)).getD []
theorem nS{ths:List Thr}{i:Nat}{t:Thr}(h:ths[i]?=some t):hasC ths i=t.has:=by unfold hasC;rw[h];rfl
theorem wL{ths:List Thr}{i:Nat}{t:Thr}(hi:i<ths.length):hasC (ths.set i t)=mZ (hasC ths) i t.has:=by
 funext j;unfold hasC mZ;rw[zBe];grind
structure CI (x:Cor):Prop where
 mi:MI x.m
 cs:∀t∈x.ths,CS t.call
 n:x.ths.length≤40
 ti:TI x.t x.ths.length (hasC x.ths)
 tw:∀t∈x.ths,TW x.m.log.nodes t
 wt:∀w∈x.t.waits,∀i:Nat,w.thr=i→∀t,x.ths[i]?=some t→nextT x.m.log.nodes t=⟨1,w.lock⟩
 gu:x.g.waits.Pairwise fun a b=>a.thr≠b.thr
 gr:∀w∈x.g.waits,∃(i:Nat) (t:Thr),w.thr=i∧x.ths[i]?=some t∧t.done=true∧t.ended=false∧t.call.kind=12∧t.has=[]∧w.upto=t.upto∧x.g.kept<w.upto
 kp:0≤x.g.kept∧x.g.kept≤x.ops.length
 up:∀t∈x.ths,0≤t.upto∧t.upto≤x.ops.length
 sy:∀t∈x.ths,t.call.kind=12→t.ended=true→t.ans.err=0→t.upto≤x.g.kept
 ops:x.ops.length=x.m.log.entries.length
theorem CI.tick{x:Cor}(c:CI x):CI (zL x):=⟨c.mi,c.cs,c.n,c.ti,c.tw,c.wt,c.gu,c.gr,c.kp,c.up,c.sy,c.ops⟩
theorem aSO{r:Int}{x:Cor}(h:tP r=(x,0)):CI x:=by
 unfold tP at h;split at h
 ·rename_i h0;obtain⟨m,hm⟩:∃m,aAe r=(m,0):=⟨(aAe r).1,Prod.ext rfl h0⟩;rw[hm]at h;cases h;have hl:m.log=⟨[],[]⟩:=by
   unfold aAe at hm;split at hm
   ·cases hm;rfl
   ·cases hm
  refine⟨aSt hm,fun t ht=>?_,zAo _,aSr,fun t ht=>?_,fun w hw=>?_,.nil,fun w hw=>?_,⟨zBY 0,zBY 0⟩,fun t ht=>?_,fun t ht=>?_,?_⟩
  ·cases ht
  ·cases ht
  ·cases hw
  ·cases hw
  ·cases ht
  ·cases ht
  ·show _=m.log.entries.length;rw[hl];rfl
 ·rename_i h0;exact absurd (zAx Prod.snd h) h0
theorem CI.start{x:Cor}(c:CI x){k:Cal}(hk:CS k):CI (eC x k).1:=by
 unfold eC;split
 ·exact c
 ·rename_i hl;have hi:∀(i:Nat) t,x.ths[i]?=some t→(x.ths++[{th0 k with begin_:=IntKind.i64.wrap (x.time+1)}])[i]?=some t:=fun i t h=>by
   rw[zAt (eT.1 h).1];exact h
  have hnew:hasC (x.ths++[{th0 k with begin_:=IntKind.i64.wrap (x.time+1)}])=hasC x.ths:=by
   funext i;unfold hasC;rw[List.getElem?_append];split
   ·rfl
   ·rename_i h;rw[zBt (by omega:x.ths.length≤i)]
    cases i-x.ths.length<;>rfl
  have hm:∀t∈x.ths++[{th0 k with begin_:=IntKind.i64.wrap (x.time+1)}],t∈x.ths∨t={th0 k with begin_:=IntKind.i64.wrap (x.time+1)}:=fun t ht=>by simpa using ht
  refine⟨c.mi,fun t ht=>?_,?_,?_,fun t ht=>?_,fun w hw i e t ht=>?_,c.gu,fun w hw=>?_,c.kp,fun t ht=>?_,fun t ht=>?_,c.ops⟩
  ·rcases hm t ht with h|rfl
   ·exact c.cs t h
   ·exact hk
  ·simp only[zAa,zAc,zAv];omega
  ·simp only[zAa,zAc,zAv,hnew];exact c.ti.start (by unfold hasC;rw[zBt (zAf _)];rfl)
  ·rcases hm t ht with h|rfl
   ·exact c.tw t h
   ·exact⟨fun h=>(by cases h),fun _ _=>⟨zAo _,zBY 0,(by decide:(0:Int)≤16),fun _=>rfl,fun k hk=>(by cases hk)⟩,fun _ _=>List.nil_prefix,fun _ _ _=>rfl⟩
  ·obtain⟨j,e2,hj, -⟩:=c.ti.waitH w hw;have hij:i=j:=by omega
   subst hij;refine c.wt w hw i e t ?_;have:=hi i _ (zAb hj);rw[this]at ht;rw[zAb hj,ht]
  ·obtain⟨i,t,h1,h2,h3⟩:=c.gr w hw;exact⟨i,t,h1,hi i t h2,h3⟩
  ·rcases hm t ht with h|rfl
   ·exact c.up t h
   ·exact⟨zBY 0,(by simp[th0]:(0:Int)≤(x.ops.length:Int))⟩
  ·rcases hm t ht with h|rfl
   ·exact c.sy t h
   ·intro _ h;cases h
theorem CI.gen{x y:Cor}(c:CI x)(hm:y.m=x.m)(ho:y.ops=x.ops)(hg:y.g=x.g)(hl:y.ths.length=x.ths.length)(hti:TI y.t x.ths.length (hasC y.ths))
  (hth:∀(i:Nat) t',y.ths[i]?=some t'→∃t,x.ths[i]?=some t∧t'.call=t.call∧t'.upto=t.upto∧t'.ans=t.ans∧t'.ended=t.ended∧TW x.m.log.nodes t'∧(t'=t∨∀w∈x.g.waits,w.thr≠i))
  (hw:∀w∈y.t.waits,∀i:Nat,w.thr=i→∀t,y.ths[i]?=some t→nextT x.m.log.nodes t=⟨1,w.lock⟩):CI y:=by
 have hmem:∀t'∈y.ths,∃t∈x.ths,t'.call=t.call∧t'.upto=t.upto∧t'.ans=t.ans∧t'.ended=t.ended∧TW x.m.log.nodes t':=fun t' h=>by
  obtain⟨i,hi⟩:=List.getElem?_of_mem h;obtain⟨t,h1,h2,h3,h4,h5,h6, -⟩:=hth i t' hi;exact⟨t,zAp h1,h2,h3,h4,h5,h6⟩
 refine⟨by rw[hm];exact c.mi,fun t ht=>?_,by rw[hl];exact c.n,by rw[hl];exact hti,fun t ht=>?_,by rw[hm];exact hw,by rw[hg];exact c.gu,fun w h=>?_,by rw[hg,ho];exact c.kp,fun t ht=>?_,fun t ht=>?_,by rw[ho,hm];exact c.ops⟩
 ·obtain⟨t0,h0,h1, -⟩:=hmem t ht;rw[h1];exact c.cs _ h0
 ·obtain⟨t0,h0, -, -, -, -,h1⟩:=hmem t ht;rw[hm];exact h1
 ·rw[hg]at h ⊢;obtain⟨i,t,h1,h2,h3⟩:=c.gr w h;have hi:i<y.ths.length:=by rw[hl];exact(eT.1 h2).1
  obtain⟨t0,g1, -, -, -, -, -,g2⟩:=hth i _ (zAb hi);rw[h2]at g1;cases g1;rcases g2 with g2|g2
  ·exact⟨i,t,h1,by rw[←g2];exact zAb hi,h3⟩
  ·exact absurd h1 (g2 w h)
 ·obtain⟨t0,h0, -,h1, -⟩:=hmem t ht;rw[h1,ho];exact c.up _ h0
 ·obtain⟨t0,h0,h1,h2,h3,h4, -⟩:=hmem t ht;rw[h1,h2,h3,h4,hg];exact c.sy _ h0
theorem tK{x:Cor}{p:Int}{who:Nat}(h:kY x p=some who):who∈cW x:=by
 unfold kY at h;split at h
 ·cases h
 ·rename_i hn;have hl:0<(cW x).length:=zBl.2 hn;have h1:0≤p % ((cW x).length:Int):=Int.emod_nonneg _ (by omega)
  have h2:p % ((cW x).length:Int)<(cW x).length:=Int.emod_lt_of_pos _ (by omega)
  have h3:(p % ((cW x).length:Int)).toNat<(cW x).length:=by omega
  cases h;rw[zAh,zAb h3];exact zAK _
theorem aLL{x:Cor}{i:Nat}:i∈cW x↔∃t,x.ths[i]?=some t∧nN x (t,i)=true:=by
 unfold cW;simp only[zAm,zBb,Prod.exists,List.mem_zipIdx_iff_getElem?];constructor
 ·rintro⟨t,j,⟨h1,h2⟩,rfl⟩;exact⟨t,h1,h2⟩
 ·rintro⟨t,h1,h2⟩;exact⟨t,i,⟨h1,h2⟩,rfl⟩
theorem aAz{x:Cor}{i:Nat}(h:i∈cW x):∃t,x.ths[i]?=some t∧t.ended=false∧(∀w∈x.t.waits,w.thr≠i)∧(oT x.g i=true→zK x.g=some (i:Int)):=by
 obtain⟨t,h1,h2⟩:=aLL.1 h;unfold nN at h2;simp only[zAu,zA4,zB9,zAF]at h2;refine⟨t,h1,h2.1.1,xW ?_,fun h=>?_⟩
 ·cases hw:nM x.t.waits i with
  |none=>rfl
  |some k=>rw[hw]at h2;simp at h2
 ·rcases h2.2 with q|q
  ·rw[h]at q;cases q
  ·exact q
theorem fY{l:List Thr}{i:Nat}{t:Thr}(h:l[i]?=some t)(f:Thr→Thr):mY l (i:Int) f=l.set i (f t):=by
 have hi:=(eT.1 h).1;unfold mY;rw[zAl ⟨by omega,by omega⟩,zAI,zAh,h]
 rfl
theorem aSP{g:Grp}{n:Int}:oT g n=false↔∀w∈g.waits,w.thr≠n:=by
 unfold oT;rw[zCa];simp
theorem aHp{l:List Hld}{n:Int}(h:∀w∈l,w.thr≠n):nM l n=none:=by
 unfold nM;rw[zCi,zBi];simpa using h
theorem CI.take{x:Cor}(c:CI x){who:Nat}{t:Thr}{k:Int}(ht:x.ths[who]?=some t)(hw:∀w∈x.t.waits,w.thr≠who)(hg:oT x.g who=false)(hn:nextT x.m.log.nodes t=⟨1,k⟩):CI (vZ who k x):=by
 have hi:=(eT.1 ht).1;obtain⟨h1,h2,h3,h4⟩:=tJ c.mi.nodes.frs (c.tw t (zAp ht)) hn;obtain⟨a1,a2,a3,a4,a5,a6, -⟩:=jF t k;have hh:=nS ht;unfold vZ aBP;cases hf:mQ x.t.held k with
 |none=>
  simp only[zBc];rw[fY ht];have hti:=c.ti.take hi (aHp hw) hf;rw[hh,←a1,←wL hi]at hti;refine c.gen rfl rfl rfl (by simp) hti (fun i t' h=>?_) (fun w hw' i e t' h=>?_)
  ·rw[zBe]at h;split at h
   ·rename_i e;subst e;cases h;exact⟨t,ht,a2,a5,a6,a4,h4,.inr (aSP.1 hg)⟩
   ·exact⟨t',h,rfl,rfl,rfl,rfl,c.tw t' (zAp h),.inl rfl⟩
  ·have hne:who≠i:=fun e2=>hw w hw' (by rw[e,e2])
   rw[zAA hne]at h;exact c.wt w hw' i e t' h
 |some j=>
  have hj:j≠who:=fun e=>by
   have:=(c.ti.heldH k j).1 (tE hf);obtain⟨i,e1, -,hk⟩:=this;have:i=who:=by omega
   rw[this,hh]at hk;exact h3 hk
  have hnc:x.t.waits.contains (⟨k,who⟩:Hld)=false:=by
   rw[zB2];intro e;exact hw _ (by simpa using e) rfl
  simp only[zAe hj,hnc,zAz,zA3];have hti:=c.ti.wait hi (aHp hw) (by rw[hh];exact h3) hf
  refine c.gen rfl rfl rfl rfl hti (fun i t' h=>⟨t',h,rfl,rfl,rfl,rfl,c.tw t' (zAp h),.inl rfl⟩) (fun w hw' i e t' h=>?_)
  rw[zAy,zAq]at hw';rcases hw' with hw'|rfl
  ·exact c.wt w hw' i e t' h
  ·have:i=who:=by simp only at e;omega
   subst this;rw[ht]at h;cases h;exact hn
theorem CI.got{x:Cor}(c:CI x){w:Hld}(hw:w∈x.t.waits):∃(j:Nat) (t:Thr),w.thr=j∧x.ths[j]?=some t∧nextT x.m.log.nodes t=⟨1,w.lock⟩∧TW x.m.log.nodes (afterT t ⟨1,w.lock⟩)∧t.done=false∧∀v∈x.g.waits,v.thr≠j:=by
 obtain⟨j,e,hj, -⟩:=c.ti.waitH w hw;have ht:=zAb hj;have hn:=c.wt w hw j e _ ht;obtain⟨-,h2, -,h4⟩:=tJ c.mi.nodes.frs (c.tw _ (zAp ht)) hn;refine⟨j,_,e,ht,hn,h4,h2,fun v hv e2=>?_⟩
 obtain⟨i,t,g1,g2,g3, -⟩:=c.gr v hv;have:i=j:=by omega
 subst this;rw[ht]at g2;cases g2;rw[h2]at g3;cases g3
theorem aIT{t:Tbl}{n:Nat}{has:Nat→List Int}(h:TI t n has){i:Nat}{k j:Int}(hj:(bX t i k).2=some j):∀w∈(bX t i k).1.waits,w.thr≠j:=by
 unfold bX at hj ⊢;split at hj
 ·rename_i hc;rw[zAl hc];split at hj
  ·cases hj
  ·rename_i w hw;cases hj;simp only[hw];exact fun v hv=>((tF h.waitU (zAT hw) v).1 hv).2
 ·cases hj
theorem CI.give{x:Cor}(c:CI x){who:Nat}{t:Thr}{k:Int}(ht:x.ths[who]?=some t)(hw:∀w∈x.t.waits,w.thr≠who)(hg:oT x.g who=false)(hn:nextT x.m.log.nodes t=⟨2,k⟩):CI (wA who k x):=by
 have hi:=(eT.1 ht).1;have hh:=nS ht;have hnd:t.has.Nodup:=by rw[←hh];exact c.ti.hasU who
 obtain⟨h1,h2,h3⟩:=aCy (c.tw t (zAp ht)) hnd hn;obtain⟨a1,a2,a3,a4,a5,a6, -⟩:=kZ t k;obtain⟨hti,hj⟩:=c.ti.free hi (by rw[hh];exact h2)
 have hws:∀w∈(bX x.t who k).1.waits,w∈x.t.waits:=fun w h=>by
  unfold bX at h;split at h
  ·split at h
   ·exact h
   ·exact List.mem_of_mem_erase h
  ·exact h
 unfold wA;cases hf:(bX x.t who k).2 with
 |none=>
  simp only;rw[fY ht];rw[hf]at hti;simp only[tX]at hti;rw[hh,←a1,←wL hi]at hti;refine c.gen rfl rfl rfl (by simp) hti (fun i t' h=>?_) (fun w hw' i e t' h=>?_)
  ·rw[zBe]at h;split at h
   ·rename_i e;subst e;cases h;exact⟨t,ht,a2,a5,a6,a4,h3,.inr (aSP.1 hg)⟩
   ·exact⟨t',h,rfl,rfl,rfl,rfl,c.tw t' (zAp h),.inl rfl⟩
  ·have hw2:=hws w hw';have hne:who≠i:=fun e2=>hw w hw2 (by rw[e,e2])
   rw[zAA hne]at h;exact c.wt w hw2 i e t' h
 |some j=>
  obtain⟨i',ej,hi',hne,hjw⟩:=hj j hf;subst ej;obtain⟨j',t2,e2,ht2,hn2,htw2,hd2,hg2⟩:=c.got hjw;have:j'=i':=by simp only at e2;omega
  subst this;simp only at hn2 htw2;rw[hf]at hti;simp only[tX,zAI]at hti;obtain⟨b1,b2,b3,b4,b5,b6, -⟩:=jF t2 k;rw[nS ht2,hh,←a1,←b1,←wL hi,←wL (by rw[zAG];exact hi')]at hti
  simp only;rw[fY ht];unfold vY;rw[fY (t:=t2) (by rw[zAA (zBs hne)];exact ht2)]
  refine c.gen rfl rfl rfl (by simp) hti (fun i t' h=>?_) (fun w hw' i e t' h=>?_)
  ·rw[zBe]at h;split at h
   ·rename_i e;subst e;rw[zAl (by rw[zAG];exact hi')]at h
    cases h;exact⟨t2,ht2,b2,b5,b6,b4,htw2,.inr hg2⟩
   ·rw[zBe]at h;split at h
    ·rename_i e;subst e;cases h;exact⟨t,ht,a2,a5,a6,a4,h3,.inr (aSP.1 hg)⟩
    ·exact⟨t',h,rfl,rfl,rfl,rfl,c.tw t' (zAp h),.inl rfl⟩
  ·have hw2:=hws w hw';have hne1:who≠i:=fun e2=>hw w hw2 (by rw[e,e2])
   have hne2:j'≠i:=fun e2=>by
    exact aIT c.ti hf w hw' (by rw[e,e2])
   rw[zAA hne2,zAA hne1]at h;exact c.wt w hw2 i e t' h
end
section
def aHq(time:Int)(t:Thr):Thr:={t with ended:=true,end_:=time}
theorem aO6(time:Int)(l:List Thr)(n:Int)(i:Nat):(kF time l n)[i]?=l[i]?.map fun t=>if n=(i:Int)then aHq time t else t:=by
 unfold kF mY;split
 ·rename_i h;rw[zBe];by_cases e:n.toNat=i
  ·have e2:n=(i:Int):=by omega
   have hi:i<l.length:=by omega
   rw[zAl e,zAl (by omega),e,zAh,zAb hi]
   simp[e2,aHq]
  ·have e2:¬n=(i:Int):=by omega
   rw[zAe e];simp[e2]
 ·rename_i h;cases hi:l[i]? with
  |none=>rfl
  |some t=>
   have:=(eT.1 hi).1;have e2:¬n=(i:Int):=by omega
   simp[e2]
theorem aCC(time:Int):∀(ns:List Int) (l:List Thr) (i:Nat),(ns.foldl (kF time) l)[i]?=l[i]?.map fun t=>if(i:Int)∈ns then aHq time t else t
 |[],l,i=>by simp
 |n::ns,l,i=>by
  rw[zBy,aCC time ns,aO6,Option.map_map];congr 1;funext t;simp only[Function.comp,zAs];by_cases h1:n=(i:Int)<;>by_cases h2:(i:Int)∈ns<;>simp[h1,h2,aHq,eq_comm]
theorem aEB(time:Int)(ns:List Int)(l:List Thr):(ns.foldl (kF time) l).length=l.length:=by
 induction ns generalizing l with
 |nil=>rfl
 |cons n ns ih=>
  rw[zBy,ih];unfold kF mY;split
  ·rw[zAG]
  ·rfl
theorem aV4{l k:List Thr}(h:∀i:Nat,l[i]?.map (·.has)=k[i]?.map (·.has)):hasC l=hasC k:=funext fun i=>by unfold hasC;rw[h]
theorem CI.keep{x:Cor}(c:CI x){who:Nat}(full:Bool)(hg:oT x.g who=true):CI (mR full who x):=by
 obtain⟨w0,hw0,hwt⟩:∃w∈x.g.waits,w.thr=(who:Int):=by
  unfold oT at hg;obtain⟨w,h1,h2⟩:=zBX.1 hg;exact⟨w,h1,zAQ h2⟩
 have hgr:=c.gr
 -- those of the group are done, and have nothing
 have hin:∀w∈x.g.waits,∀(i:Nat) t,w.thr=(i:Int)→x.ths[i]?=some t→t.done=true∧t.ended=false∧t.call.kind=12∧t.has=[]∧w.upto=t.upto∧x.g.kept<w.upto:=fun w hw i t e ht=>by
  obtain⟨i',t',e',h1,h2⟩:=hgr w hw;have:i'=i:=by omega
  subst this;rw[ht]at h1;cases h1;exact h2
 have hnw:∀v∈x.t.waits,∀w∈x.g.waits,v.thr≠w.thr:=fun v hv w hw e=>by
  obtain⟨j,t,e1,ht,hn, -,hd,hno⟩:=c.got hv;exact hno w hw (by rw[←e,e1])
 cases full with
 |true=>
  unfold mR;rw[zAl rfl];obtain⟨i,t,e,ht,h1,h2,h3,h4,h5,h6⟩:=hgr w0 hw0;have:i=who:=by omega
  subst this;have hi:=(eT.1 ht).1;rw[fY ht];have hths:∀j:Nat,(kF x.time (x.ths.set i {t with ans:={an0 with err:=120}}) i)[j]?=if i=j then some (aHq x.time {t with ans:={an0 with err:=120}})else x.ths[j]?:=fun j=>by
   rw[aO6,zBe];by_cases e:i=j
   ·subst e;simp[hi]
   ·have:¬((i:Int)=(j:Int)):=by omega
    simp[e,this]
  have hlen:(kF x.time (x.ths.set i {t with ans:={an0 with err:=120}}) i).length=x.ths.length:=by
   have:=aEB x.time [(i:Int)] (x.ths.set i {t with ans:={an0 with err:=120}})
   rw[zAG]at this;exact this
  generalize kF x.time (x.ths.set i {t with ans:={an0 with err:=120}}) i=L at *
  have hm:∀t'∈L,t'=aHq x.time {t with ans:={an0 with err:=120}}∨t'∈x.ths:=fun t' ht'=>by
   obtain⟨j,hj⟩:=List.getElem?_of_mem ht';rw[hths]at hj;split at hj
   ·exact .inl (zBa hj).symm
   ·exact .inr (zAp hj)
  have hmt:=zAp ht;refine⟨c.mi,fun t' h=>?_,by rw[hlen];exact c.n,?_,fun t' h=>?_,fun w hw j e' t' h=>?_,c.gu.sublist List.filter_sublist,fun w hw=>?_,c.kp,fun t' h=>?_,fun t' h=>?_,c.ops⟩
  ·rcases hm t' h with rfl|h
   ·exact c.cs t hmt
   ·exact c.cs t' h
  ·rw[hlen,aV4 (k:=x.ths) fun j=>by
    rw[hths];split
    ·rename_i e;subst e;rw[ht];rfl
    ·rfl]
   exact c.ti
  ·rcases hm t' h with rfl|h
   ·exact TW.did h1 fun _=>h4
   ·exact c.tw t' h
  ·rw[hths]at h;split at h
   ·rename_i e2;exact absurd (show w.thr=w0.thr by rw[hwt,e',e2]) (hnw w hw w0 hw0)
   ·exact c.wt w hw j e' t' h
  ·rw[zBb]at hw;obtain⟨j,t',q1,q2,q3⟩:=hgr w hw.1;have hne:¬i=j:=fun e=>by have:=hw.2;rw[q1,e]at this;simp at this
   exact⟨j,t',q1,by rw[hths,zAe hne];exact q2,q3⟩
  ·rcases hm t' h with rfl|h
   ·exact c.up t hmt
   ·exact c.up t' h
  ·rcases hm t' h with rfl|h
   ·intro _ _ h;exact absurd h (show ¬(120:Int)=0 by decide)
   ·exact c.sy t' h
 |false=>
  unfold mR aC9;rw[zAe (by decide)]
  have hk:max x.g.kept (x.ops.length:Int)=x.ops.length:=by have:=c.kp;omega
  have hall:∀w∈x.g.waits,w.upto≤max x.g.kept (x.ops.length:Int):=fun w hw=>by
   obtain⟨i,t,e,ht, -, -, -, -,h5, -⟩:=hgr w hw;have:=(c.up t (zAp ht)).2;omega
  have hf1:(x.g.waits.filter fun w=> !decide (w.upto≤max x.g.kept (x.ops.length:Int)))=[]:=by
   rw[List.filter_eq_nil_iff];intro w hw;simp[hall w hw]
  have hf2:(x.g.waits.filter fun w=>decide (w.upto≤max x.g.kept (x.ops.length:Int)))=x.g.waits:=by
   rw[List.filter_eq_self];intro w hw;simp[hall w hw]
  rw[hf1,hf2];have hths:=aCC x.time (x.g.waits.map (·.thr)) x.ths;have hlen:=aEB x.time (x.g.waits.map (·.thr)) x.ths;generalize(x.g.waits.map (·.thr)).foldl (kF x.time) x.ths=L at *;have hm:∀(j:Nat) t',L[j]?=some t'→∃t,x.ths[j]?=some t∧(t'=t∨t'=aHq x.time t∧t.done=true∧t.has=[]):=fun j t' h=>by
   rw[hths]at h;obtain⟨t,h1,h2⟩:=zAM.1 h;refine⟨t,h1,?_⟩;split at h2
   ·rename_i hin';obtain⟨w,hw,e⟩:=zAm.1 hin';have:=hin w hw j t e h1;exact .inr ⟨h2.symm,this.1,this.2.2.2.1⟩
   ·exact .inl h2.symm
  have hm2:∀t'∈L,∃t∈x.ths,(t'=t∨t'=aHq x.time t∧t.done=true∧t.has=[]):=fun t' h=>by
   obtain⟨j,hj⟩:=List.getElem?_of_mem h;obtain⟨t,h1,h2⟩:=hm j t' hj;exact⟨t,zAp h1,h2⟩
  refine⟨c.mi,fun t' h=>?_,by rw[hlen];exact c.n,?_,fun t' h=>?_,fun w hw j e' t' h=>?_,.nil,fun w hw=>(by cases hw),⟨?_,?_⟩,fun t' h=>?_,fun t' h=>?_,c.ops⟩
  ·obtain⟨t,ht,rfl|⟨rfl, -⟩⟩:=hm2 t' h
   ·exact c.cs _ ht
   ·exact c.cs t ht
  ·rw[hlen,aV4 (k:=x.ths) fun j=>by
    rw[hths,Option.map_map];cases x.ths[j]? with
    |none=>rfl
    |some t=>simp only[zCm,Function.comp];split<;>rfl]
   exact c.ti
  ·obtain⟨t,ht,rfl|⟨rfl,h1,h2⟩⟩:=hm2 t' h
   ·exact c.tw _ ht
   ·exact TW.did h1 fun _=>h2
  ·obtain⟨t,ht,rfl|⟨rfl,h1,h2⟩⟩:=hm j t' h
   ·exact c.wt w hw j e' _ ht
   ·have hn:=c.wt w hw j e' t ht;have:=(tJ c.mi.nodes.frs (c.tw t (zAp ht)) hn).2.1;rw[h1]at this;cases this
  ·show 0≤max x.g.kept (x.ops.length:Int);rw[hk];omega
  ·show max x.g.kept (x.ops.length:Int)≤x.ops.length;rw[hk];omega
  ·obtain⟨t,ht,rfl|⟨rfl, -⟩⟩:=hm2 t' h
   ·exact c.up _ ht
   ·exact c.up t ht
  ·obtain⟨t,ht,rfl|⟨rfl, -⟩⟩:=hm2 t' h
   ·intro _ _ _;have:=(c.up _ ht).2;show _≤max x.g.kept (x.ops.length:Int);omega
   ·intro _ _ _;have:=(c.up _ ht).2;show t.upto≤max x.g.kept (x.ops.length:Int);omega
end
section
theorem updH_self{has:Nat→List Int}{i:Nat}{l:List Int}(h:has i=l):mZ has i l=has:=funext fun j=>by
 by_cases e:j=i
 ·subst e;rw[bY,h]
 ·exact cH _ e _
theorem CI.one{x y:Cor}(c:CI x){who:Nat}{t t':Thr}(ht:x.ths[who]?=some t)(hw:∀w∈x.t.waits,w.thr≠who)(hg:oT x.g who=false)(h1:t'.call=t.call)(h2:t'.has=t.has)(h3:t'.done=true)(h4:t'.ended=true→t'.has=[])
  (h5:0≤t'.upto∧t'.upto≤y.ops.length) (h6:t'.call.kind=12→t'.ended=true→t'.ans.err=0→t'.upto≤y.g.kept) (hth:y.ths=x.ths.set who t') (htb:y.t=x.t) (hkp:y.g=x.g) (hmi:MI y.m) (hops:y.ops.length=y.m.log.entries.length) (hle:x.ops.length≤y.ops.length)
  (htw:∀(i:Nat) t2,i≠who→x.ths[i]?=some t2→TW y.m.log.nodes t2) (hwt:∀w∈x.t.waits,∀(i:Nat),w.thr=i→i≠who→∀t2,x.ths[i]?=some t2→nextT y.m.log.nodes t2=⟨1,w.lock⟩):CI y:=by
 have hi:=(eT.1 ht).1;have hm:∀t2∈y.ths,t2=t'∨∃i:Nat,i≠who∧x.ths[i]?=some t2:=fun t2 h=>by
  rw[hth]at h;obtain⟨i,hi'⟩:=List.getElem?_of_mem h;rw[zBe]at hi';split at hi'
  ·exact .inl (zBa hi').symm
  ·rename_i e;exact .inr ⟨i,fun e2=>e e2.symm,hi'⟩
 have hmt:=zAp ht;refine⟨hmi,fun t2 h=>?_,by rw[hth,zAG];exact c.n,?_,fun t2 h=>?_,fun w h i e t2 h2'=>?_,by rw[hkp];exact c.gu,fun w h=>?_,?_,fun t2 h=>?_,fun t2 h=>?_,hops⟩
 ·rcases hm t2 h with rfl|⟨i, -,h'⟩
  ·rw[h1];exact c.cs t hmt
  ·exact c.cs t2 (zAp h')
 ·rw[hth,htb,zAG,wL hi,updH_self (by rw[h2];exact nS ht)];exact c.ti
 ·rcases hm t2 h with rfl|⟨i,hne,h'⟩
  ·exact TW.did h3 h4
  ·exact htw i t2 hne h'
 ·rw[htb]at h;have hne:who≠i:=fun e2=>hw w h (by rw[e,e2])
  rw[hth,zAA hne]at h2';exact hwt w h i e (zBs hne) t2 h2'
 ·rw[hkp]at h ⊢;obtain⟨i,t2,q1,q2,q3⟩:=c.gr w h;have hne:who≠i:=fun e2=>aSP.1 hg w h (by rw[q1,e2])
  exact⟨i,t2,q1,by rw[hth,zAA hne];exact q2,q3⟩
 ·rw[hkp];have:=c.kp;omega
 ·rcases hm t2 h with rfl|⟨i, -,h'⟩
  ·exact h5
  ·have:=c.up t2 (zAp h');omega
 ·rcases hm t2 h with rfl|⟨i, -,h'⟩
  ·exact h6
  ·rw[hkp];exact c.sy t2 (zAp h')
theorem CI.leave{x:Cor}(c:CI x){who:Nat}{t:Thr}(ht:x.ths[who]?=some t)(hw:∀w∈x.t.waits,w.thr≠who)(hg:oT x.g who=false){k:Int}(hn:nextT x.m.log.nodes t=⟨5,k⟩):CI (aBl who x):=by
 obtain⟨-,h2,h3,h4,h5⟩:=aBp hn;have hmt:=zAp ht;unfold aBl;rw[fY ht];have he:({afterT t ⟨5,0⟩with end_:=x.time}:Thr)={t with ended:=true,end_:=x.time}:=rfl
 rw[he];exact c.one (t':={t with ended:=true,end_:=x.time}) ht hw hg rfl rfl h3 (fun _=>h4) (c.up t hmt) (fun h=>absurd h h5) rfl rfl rfl c.mi c.ops (zAf _) (fun i t2 _ h=>c.tw t2 (zAp h)) (fun w h i e _ t2 h'=>c.wt w h i e t2 h')
theorem CI.wait{x:Cor}(c:CI x){who:Nat}{t:Thr}(ht:x.ths[who]?=some t)(hw:∀w∈x.t.waits,w.thr≠who)(hg:oT x.g who=false){k:Int}(hn:nextT x.m.log.nodes t=⟨4,k⟩):CI (aBk who t x):=by
 obtain⟨-,h2,h3,h4,h5⟩:=aIH hn;have hmt:=zAp ht;unfold aBk zJ;by_cases hu:t.upto≤x.g.kept
 ·rw[zAl hu];simp only[zBc];have e:kF x.time x.ths who=x.ths.set who (aHq x.time t):=fY ht _;rw[e];exact c.one (t':=aHq x.time t) ht hw hg rfl rfl h3 (fun _=>h4) (c.up t hmt) (fun _ _ _=>hu) rfl rfl rfl c.mi c.ops (zAf _) (fun i t2 _ h=>c.tw t2 (zAp h)) (fun w h i e _ t2 h'=>c.wt w h i e t2 h')
 ·rw[zAe hu,hg];simp only[zAz,zA3];refine⟨c.mi,c.cs,c.n,c.ti,c.tw,c.wt,?_,fun w h=>?_,c.kp,c.up,c.sy,c.ops⟩
  ·rw[zBZ];refine⟨c.gu,List.pairwise_singleton _ _,fun a ha b hb=>?_⟩
   rw[zAq]at hb;subst hb;exact aSP.1 hg a ha
  ·rw[zAy,zAq]at h;rcases h with h|rfl
   ·exact c.gr w h
   ·exact⟨who,t,rfl,ht,h3,h2,h5,h4,rfl,by simp only;omega⟩
theorem walk_down{l:List Nd}{names:List Txt}{t:Thr}{here i:Int}{s:Txt}(h:t.has=[here])(h0:0≤t.at_)(hs:names[t.at_.toNat]?=some s)(hc:childI l here s=some i)(hd:dirI i=true):vT l names t=⟨1,i⟩:=by
 unfold vT;rw[h];simp only[zAl h0,hs,zA6];unfold childI at hc;obtain⟨n,hn,rfl⟩:=zAM.1 hc;rw[hn];simp only[zAl hd]
theorem turn_ask{has ks:List Int}{k:Int}(h:has++[k]<+:ks)(hk:k∉has):turnN has ks=⟨1,k⟩:=by
 obtain⟨r,rfl⟩:=h;rw[zAr,aUq _ _ (fun y h=>h),List.singleton_append,aBc (by simpa using hk)]
theorem act_keep{x:Cor}(c:CI x){who:Nat}{t:Thr}(ht:x.ths[who]?=some t){l':List Nd}{ops:List Opn}(hf':Frs l')(ha:ActS x.m.log.nodes t l' ops){i:Nat}(hne:i≠who){t2:Thr}(h2:x.ths[i]?=some t2):
  TW l' t2∧∀k,nextT x.m.log.nodes t2=⟨1,k⟩→nextT l' t2=⟨1,k⟩:=by
 have hf:=c.mi.nodes.frs;have hw:=c.tw t2 (zAp h2);have hi:=(eT.1 h2).1;have hwho:=(eT.1 ht).1;have hno:∀k,k∈t2.has→k∉t.has:=fun k hk hk2=>hne (c.ti.oneN hi hwho (by rw[nS h2];exact hk) (by rw[nS ht];exact hk2))
 -- the locks of one that turns the tree, and has some
 have hlk:t2.done=false→turnsK t2.call=true→t2.has<+:locksT l' t2.call∧∀k,t2.has++[k]<+:locksT x.m.log.nodes t2.call→t2.has++[k]<+:locksT l' t2.call:=fun hd htu=>by
  have hp:=hw.turn hd htu;by_cases htt:turnsK t.call=false
  ·have:=aUt hf hf' ha htt t2.call;exact⟨hp.trans this,fun k hk=>hk.trans this⟩
  ·have ht1:(1:Int)∈t.has∨l'=x.m.log.nodes:=by
    cases ha with
    |none h=>exact .inr h
    |born o n hk hp hn ht=>exact absurd ht htt
    |wrote o hk ho n hn hp ht=>exact absurd ht htt
    |moved o hk n hn hp hq ht h1=>exact .inl h1
   rcases ht1 with h1|h1
   ·have he:t2.has=[]:=by
     cases hh:t2.has with
     |nil=>rfl
     |cons a r=>
      rw[hh]at hp;have:a=1:=(List.cons_prefix_cons.1 hp).1;exact absurd h1 (hno 1 (by rw[hh,this];simp))
    rw[he];refine⟨List.nil_prefix,fun k hk=>?_⟩
    have:k=1:=(List.cons_prefix_cons.1 hk).1;subst this;exact⟨_,rfl⟩
   ·rw[h1];exact⟨hp,fun _ h=>h⟩
 refine⟨⟨hw.ended,hw.walk,fun hd htu=>(hlk hd htu).1,hw.plain⟩,fun k hn=>?_⟩
 have hx:=hS x.m.log.nodes t2;rw[hn]at hx;generalize hu:(⟨1,k⟩:Trn)=u at hx;cases hx with
 |none=>cases hu
 |back=>cases hu
 |wait=>cases hu
 |leave=>cases hu
 |plain=>cases hu
 |turn hd he htu=>
  obtain⟨q1,q2⟩:=aCx (aC4 _ _) (hw.turn hd htu) hu.symm;unfold nextT;rw[zAe (by simp[he]),zAe (by simp[hd]),zAl htu]
  exact(turn_ask ((hlk hd htu).2 k q2) q1).trans hu
 |walk _ hd he htu hwk hs=>
  unfold nextT;rw[zAe (by simp[he]),zAe (by simp[hd]),zAe (by simp[htu]),zAl hwk]
  cases hs with
  |root hh=>cases hu;unfold vT;rw[hh]
  |down here j s hh h0 hs hc hdj=>
   cases hu;have h2':=((hw.walk hd hwk).2.2.2.2 here (by rw[hh];simp)).2.1
   exact walk_down hh h0 hs (by rw[aUs hf hf' ha (hno here (by rw[hh];simp)) h2'];exact hc) hdj
  |pass=>cases hu
  |anew=>cases hu
  |here=>cases hu
theorem CI.act0{x:Cor}(c:CI x){who:Nat}{t:Thr}(ht:x.ths[who]?=some t)(hw:∀w∈x.t.waits,w.thr≠who)(hg:oT x.g who=false)(hn:nextT x.m.log.nodes t=⟨3,0⟩)(hk:t.call.kind≠13∨(doM x.m t.call).2.1.err≠0):CI (kG who x (doM x.m t.call)):=by
 obtain⟨he,hd⟩:=wF hn;have hmi:=aVQ c.mi t.call;have ha:=aIE c.mi hd hn hk;have hl:=aSx c.mi t.call;unfold kG;rw[fY ht];refine c.one (t':=aVN x (doM x.m t.call) t) ht hw hg rfl rfl rfl (fun h=>?_) ?_ (fun _ h=>?_) rfl rfl rfl hmi ?_ ?_ (fun i t2 hne h=>(act_keep c ht hmi.nodes.frs ha hne h).1) (fun w h i e hne t2 h'=>(act_keep c ht hmi.nodes.frs ha hne h').2 _ (c.wt w h i e t2 h'))
 ·have:t.ended=true:=h;rw[he]at this;cases this
 ·exact⟨by show(0:Int)≤((x.ops++(doM x.m t.call).2.2).length:Int);omega,zBY _⟩
 ·have:t.ended=true:=h;rw[he]at this;cases this
 ·simp only[zAa];rw[hl,c.ops]
 ·simp only[zAa];omega
end
section
def lateT(t:Thr):Bool:=walksK t.call&& !t.done
theorem late_eq(who n:Nat)(t:Thr):aEo who n t=(!decide (n=who)&&lateT t):=by unfold aEo lateT;rw[Bool.and_assoc]
def Alk(a b:Thr):Prop:=b.call=a.call∧b.done=a.done∧b.ended=a.ended∧b.upto=a.upto∧b.ans=a.ans∧b.begin_=a.begin_∧b.mark=a.mark∧b.end_=a.end_
theorem Alk.refl(a:Thr):Alk a a:=⟨rfl,rfl,rfl,rfl,rfl,rfl,rfl,rfl⟩
theorem Alk.trans{a b c:Thr}(h:Alk a b)(k:Alk b c):Alk a c:=by
 obtain⟨h1,h2,h3,h4,h5,h6,h7,h8⟩:=h;obtain⟨k1,k2,k3,k4,k5,k6,k7,k8⟩:=k;exact⟨k1.trans h1,k2.trans h2,k3.trans h3,k4.trans h4,k5.trans h5,k6.trans h6,k7.trans h7,k8.trans h8⟩
theorem alike_lock(t:Thr)(k:Int):Alk t (afterT t ⟨1,k⟩):=by
 obtain⟨-,a2,a3,a4,a5,a6,a7,a8,a9, -⟩:=jF t k;exact⟨a2,a3,a4,a5,a6,a7,a8,a9⟩
theorem Alk.late{a b:Thr}(h:Alk a b):lateT b=lateT a:=by unfold lateT;rw[h.1,h.2.1]
theorem aX2{l:List Thr}{w:Hld}{j:Nat}{t:Thr}(e:w.thr=(j:Int))(h:l[j]?=some t):vY l w=l.set j (afterT t ⟨1,w.lock⟩):=by
 unfold vY;rw[e];exact fY h _
theorem got_fold:∀(g:List Hld) (l:List Thr),(∀h∈g,∃j:Nat,h.thr=(j:Int)∧j<l.length)→
  (g.foldl vY l).length=l.length∧hasC (g.foldl vY l)=aQA (hasC l) g∧∀(i:Nat) t',(g.foldl vY l)[i]?=some t'→∃t,l[i]?=some t∧Alk t t'∧(t'=t∨∃h∈g,h.thr=(i:Int))∧∀k∈t'.has,k∈t.has∨∃h∈g,h.lock=k
 |[],l,_=>⟨rfl,rfl,fun i t' h=>⟨t',h,Alk.refl _,.inl rfl,fun k hk=>.inl hk⟩⟩
 |w::g,l,hg=>by
  obtain⟨j,e,hj⟩:=hg w (by simp)
  have ht:=zAb hj;have aB:=aX2 e ht;have hl:(vY l w).length=l.length:=by rw[aB,zAG]
  obtain⟨q1,q2,q3⟩:=got_fold g (vY l w) (fun h hh=>by rw[hl];exact hg h (zAR _ hh))
  rw[zBy];refine⟨q1.trans hl,?_,fun i t' h=>?_⟩
  ·rw[q2];show aQA (hasC (vY l w)) g=aQA (mZ (hasC l) w.thr.toNat (hasC l w.thr.toNat++[w.lock])) g;rw[aB,wL hj,(jF _ _).1,e,zAI,nS ht]
  ·obtain⟨t1,h1,h2,h3,h4⟩:=q3 i t' h;rw[aB,zBe]at h1;split at h1
   ·rename_i e2;subst e2;cases h1;refine⟨_,ht,(alike_lock _ _).trans h2,.inr ⟨w,by simp,e⟩,fun k hk=>?_⟩
    rcases h4 k hk with q|⟨v,hv,q⟩
    ·rw[(jF _ _).1,zAy,zAq]at q;rcases q with q|q
     ·exact .inl q
     ·exact .inr ⟨w,by simp,q.symm⟩
    ·exact .inr ⟨v,by simp[hv],q⟩
   ·refine⟨t1,h1,h2,?_,fun k hk=>?_⟩
    ·rcases h3 with h3|⟨v,hv,q⟩
     ·exact .inl h3
     ·exact .inr ⟨v,by simp[hv],q⟩
    ·rcases h4 k hk with q|⟨v,hv,q⟩
     ·exact .inl q
     ·exact .inr ⟨v,by simp[hv],q⟩
structure AN (who:Nat) (L0:List Thr) (W0:List Hld) (n:Nat) (s:Tbl×List Thr):Prop where
 len:s.2.length=L0.length
 ti:TI s.1 L0.length (hasC s.2)
 th:∀(i:Nat) t',s.2[i]?=some t'→∃t,L0[i]?=some t∧Alk t t'∧(i≠who→lateT t=true→(i<n→t'.has=[]∧t'.at_=0)∧∀k∈t'.has,k≠1)∧(i=who∨lateT t=false→t'=t)
 wt:∀w∈s.1.waits,w∈W0∧∀(i:Nat) t,w.thr=(i:Int)→L0[i]?=some t→i≠who→lateT t=true→n≤i
theorem AN.step{who:Nat}{L0:List Thr}{W0:List Hld}{n:Nat}{s:Tbl×List Thr}(h:AN who L0 W0 n s)(hn:n<L0.length)
  (hW:∀w∈W0,w.thr≠who∧∀(i:Nat) t,w.thr=(i:Int)→L0[i]?=some t→lateT t=false→w.lock=1):AN who L0 W0 (n+1) (mS who s n):=by
 have hn':n<s.2.length:=by rw[h.len];exact hn
 have ht:=zAb hn';obtain⟨t,h0,h1,h2,h3⟩:=h.th n _ ht;unfold mS;rw[late_eq,zAh,ht,zBh];by_cases hl:(!decide (n=who)&&lateT s.2[n])=true
 ·rw[zAl hl];simp only[zAu,zA4,zA1]at hl;obtain⟨hne,hlt⟩:=hl;have hlt0:lateT t=true:=by rw[←h1.late];exact hlt
  obtain⟨-,hk1⟩:=h2 hne hlt0;obtain⟨d1,d2,d3⟩:=h.ti.drop hn;rw[nS ht]at d2;generalize hs:s.2[n]=t0 at *;rw[fY ht];have hag:(rI t0).has=[]:=rfl;have aB:=wL (t:=rI t0) hn';rw[hag]at aB;rw[←aB]at d1;have hrec:∀w∈(dropT s.1 n).2,∃j:Nat,w.thr=(j:Int)∧j<(s.2.set n (rI t0)).length:=fun w hw=>by
   obtain⟨j,q1,q2, -⟩:=d2 w hw;exact⟨j,q1,by rw[zAG,h.len];exact q2⟩
  obtain⟨g1,g2,g3⟩:=got_fold (dropT s.1 n).2 (s.2.set n (rI t0)) hrec
  -- who gets a lock is on its way, and has not begun anew yet
  have hget:∀w∈(dropT s.1 n).2,∀(i:Nat) t,w.thr=(i:Int)→L0[i]?=some t→i≠n∧i≠who∧lateT t=true∧n≤i∧w.lock≠1:=fun w hw i t e hi=>by
   obtain⟨j,q1,q2,q3,q4,q5⟩:=d2 w hw;have:j=i:=by omega
   subst this;obtain⟨w1,w2⟩:=h.wt w q4;obtain⟨v1,v2⟩:=hW w w1;have hw1:w.lock≠1:=hk1 _ q5;have hlate:lateT t=true:=by
    cases hlt:lateT t with
    |true=>rfl
    |false=>exact absurd (v2 j t e hi hlt) hw1
   have hjw:j≠who:=fun e2=>v1 (by rw[e,e2])
   exact⟨q3,hjw,hlate,w2 j t e hi hjw hlate,hw1⟩
  refine⟨by rw[g1,zAG];exact h.len,by rw[g2];exact d1,fun i t' hi=>?_,fun w hw=>?_⟩
  ·obtain⟨t1,a1,a2,a3,a4⟩:=g3 i t' hi;rw[zBe]at a1;split at a1
   ·rename_i e;subst e;cases a1;have hnot:∀w∈(dropT s.1 n).2,w.thr≠(n:Int):=fun w hw e=>(hget w hw n t e h0).1 rfl
    have e1:t'=rI t0:=by
     rcases a3 with a3|⟨w,hw,q⟩
     ·exact a3
     ·exact absurd q (hnot w hw)
    subst e1;refine⟨t,h0,h1.trans ⟨rfl,rfl,rfl,rfl,rfl,rfl,rfl,rfl⟩,fun _ _=>⟨fun _=>⟨rfl,rfl⟩,fun k hk=>by cases hk⟩,fun q=>?_⟩
    rcases q with q|q
    ·exact absurd q hne
    ·rw[hlt0]at q;cases q
   ·rename_i e;obtain⟨t2,b1,b2,b3,b4⟩:=h.th i t1 a1;refine⟨t2,b1,b2.trans a2,fun c1 c2=>⟨fun hin=>?_,fun k hk=>?_⟩,fun q=>?_⟩
    ·have hin':i<n:=by omega
     have e1:t'=t1:=by
      rcases a3 with a3|⟨w,hw,q⟩
      ·exact a3
      ·have:=(hget w hw i t2 q b1).2.2.2.1;omega
     rw[e1];exact(b3 c1 c2).1 hin'
    ·rcases a4 k hk with q|⟨w,hw,q⟩
     ·exact(b3 c1 c2).2 k q
     ·obtain⟨j,q1,q2, -⟩:=d2 w hw;rw[←q];exact(hget w hw j _ q1 (zAb q2)).2.2.2.2
    ·have e1:t'=t1:=by
      rcases a3 with a3|⟨w,hw,q'⟩
      ·exact a3
      ·obtain⟨-,z1,z2, -⟩:=hget w hw i t2 q' b1;rcases q with q|q
       ·exact absurd q z1
       ·rw[z2]at q;cases q
     rw[e1];exact b4 q
  ·obtain⟨w1,w2⟩:=d3 w hw;obtain⟨v1,v2⟩:=h.wt w w1;refine⟨v1,fun i t3 e hi c1 c2=>?_⟩
   have:=v2 i t3 e hi c1 c2;have hin:i≠n:=fun e2=>w2 (by rw[e,e2])
   omega
 ·rw[zAe hl];refine⟨h.len,h.ti,fun i t' hi=>?_,fun w hw=>?_⟩
  ·obtain⟨t2,b1,b2,b3,b4⟩:=h.th i t' hi;refine⟨t2,b1,b2,fun c1 c2=>⟨fun hin=>?_,(b3 c1 c2).2⟩,b4⟩
   by_cases e:i=n
   ·subst e;rw[ht]at hi;cases hi;rw[h0]at b1;cases b1;exact absurd (by rw[h1.late,c2];simp[c1]) hl
   ·exact(b3 c1 c2).1 (by omega)
  ·obtain⟨v1,v2⟩:=h.wt w hw;refine⟨v1,fun i t3 e hi c1 c2=>?_⟩
   have:=v2 i t3 e hi c1 c2;have hin:i≠n:=fun e2=>by
    subst e2;rw[h0]at hi;cases hi;exact hl (by rw[h1.late,c2];simp[c1])
   omega
theorem AN.all{who:Nat}{L0:List Thr}{W0:List Hld}{s:Tbl×List Thr}(h:AN who L0 W0 0 s)
  (hW:∀w∈W0,w.thr≠who∧∀(i:Nat) t,w.thr=(i:Int)→L0[i]?=some t→lateT t=false→w.lock=1):∀k,k≤L0.length→AN who L0 W0 k ((List.range k).foldl (mS who) s)
 |0,_=>h
 |k+1,hk=>by
  rw[List.range_succ,zBF];exact(AN.all h hW k (by omega)).step (by omega) hW
theorem turner_only{x:Cor}(c:CI x){who:Nat}{t:Thr}(ht:x.ths[who]?=some t)(h1:(1:Int)∈t.has){i:Nat}(hne:i≠who){t2:Thr}(h2:x.ths[i]?=some t2)(hd:t2.done=false)(htu:turnsK t2.call=true):t2.has=[]∧∀k,nextT x.m.log.nodes t2=⟨1,k⟩→k=1:=by
 have hp:=(c.tw t2 (zAp h2)).turn hd htu;have he:t2.has=[]:=by
  cases hh:t2.has with
  |nil=>rfl
  |cons a r=>
   rw[hh]at hp;have:a=1:=(List.cons_prefix_cons.1 hp).1;exact absurd (c.ti.oneN (k:=1) (eT.1 h2).1 (eT.1 ht).1 (by rw[nS h2,hh,this];simp) (by rw[nS ht];exact h1)) hne
 refine⟨he,fun k hk=>?_⟩
 have hx:=hS x.m.log.nodes t2;rw[hk]at hx;generalize hu:(⟨1,k⟩:Trn)=u at hx;cases hx with
 |none=>cases hu
 |back=>cases hu
 |wait=>cases hu
 |leave=>cases hu
 |plain=>cases hu
 |turn=>
  have:=(aCx (aC4 _ _) hp hu.symm).2;rw[he]at this;exact(List.cons_prefix_cons.1 this).1
 |walk _ _ _ ht'=>rw[htu]at ht';cases ht'
theorem turns_next{l:List Nd}{t:Thr}(he:t.ended=false)(hd:t.done=false)(htu:turnsK t.call=true)(hh:t.has=[]):nextT l t=⟨1,1⟩:=by
 unfold nextT;rw[zAe (by simp[he]),zAe (by simp[hd]),zAl htu,hh]
 rfl
theorem aV5{x:Cor}(c:CI x){who:Nat}{t t1:Thr}(ht:x.ths[who]?=some t)(hw:∀w∈x.t.waits,w.thr≠who)(hn:nextT x.m.log.nodes t=⟨3,0⟩)(hk:t.call.kind=13)(d1:t1.has=t.has):
  (∀w∈x.t.waits,w.thr≠who∧∀(i:Nat) t2,w.thr=(i:Int)→(x.ths.set who t1)[i]?=some t2→lateT t2=false→w.lock=1)∧AN who (x.ths.set who t1) x.t.waits (x.ths.set who t1).length ((List.range (x.ths.set who t1).length).foldl (mS who) (x.t,x.ths.set who t1)):=by
 obtain⟨he,hd⟩:=wF hn;have hi:=(eT.1 ht).1;have htk:turnsK t.call=true:=by unfold turnsK;rw[hk];rfl
 have h1:(1:Int)∈t.has:=(aDe hd hn).1 htk 1 (by simp[locksT])
 have hlen:(x.ths.set who t1).length=x.ths.length:=zAG;have hat:∀i t2,(x.ths.set who t1)[i]?=some t2→(i=who∧t2=t1)∨(i≠who∧x.ths[i]?=some t2):=fun i t2 h=>by
  rw[zBe]at h;split at h
  ·rename_i e;subst e;cases h;exact .inl ⟨rfl,rfl⟩
  ·rename_i e;exact .inr ⟨fun e2=>e e2.symm,h⟩
 have hW:∀w∈x.t.waits,w.thr≠who∧∀(i:Nat) t2,w.thr=(i:Int)→(x.ths.set who t1)[i]?=some t2→lateT t2=false→w.lock=1:=fun w hw'=>by
  refine⟨hw w hw',fun i t2 e h hl=>?_⟩
  rcases hat i t2 h with⟨e2, -⟩|⟨hne,h⟩
  ·exact absurd (by rw[e,e2]) (hw w hw')
  ·have hn2:=c.wt w hw' i e t2 h;obtain⟨q1,q2, -⟩:=tJ c.mi.nodes.frs (c.tw t2 (zAp h)) hn2;have hwk:walksK t2.call=false:=by unfold lateT at hl;rw[q2]at hl;simpa using hl
   have htu:turnsK t2.call=true:=by
    have hx:=hS x.m.log.nodes t2;rw[hn2]at hx;generalize hu:(⟨1,w.lock⟩:Trn)=u at hx;cases hx with
    |none=>cases hu
    |back=>cases hu
    |wait=>cases hu
    |leave=>cases hu
    |plain=>cases hu
    |turn _ _ h=>exact h
    |walk _ _ _ _ h=>rw[hwk]at h;cases h
   exact(turner_only c ht h1 hne h q2 htu).2 _ hn2
 have h0:AN who (x.ths.set who t1) x.t.waits 0 (x.t,x.ths.set who t1):=by
  refine⟨rfl,?_,fun i t' h=>⟨t',h,Alk.refl _,fun hne hlt=>⟨fun h=>absurd h (Nat.not_lt_zero _),fun k hk=>?_⟩,fun _=>rfl⟩,fun w hw=>⟨hw,fun _ _ _ _ _ _=>zAo _⟩⟩
  ·rw[hlen,wL hi,updH_self (by rw[d1];exact nS ht)];exact c.ti
  ·rcases hat i t' h with⟨e2, -⟩|⟨-,h⟩
   ·exact absurd e2 hne
   ·unfold lateT at hlt;simp only[zAu,zA4]at hlt;exact(((c.tw t' (zAp h)).walk hlt.2 hlt.1).2.2.2.2 k hk).1
 exact⟨hW,AN.all h0 hW _ (zAf _)⟩
theorem CI.merge{x:Cor}(c:CI x){who:Nat}{t:Thr}(ht:x.ths[who]?=some t)(hw:∀w∈x.t.waits,w.thr≠who)(hg:oT x.g who=false)(hn:nextT x.m.log.nodes t=⟨3,0⟩)(hk:t.call.kind=13):CI (aEp who (kG who x (doM x.m t.call))):=by
 obtain⟨he,hd⟩:=wF hn;have hi:=(eT.1 ht).1;have hmi:=aVQ c.mi t.call;have hl:=aSx c.mi t.call;have htk:turnsK t.call=true:=by unfold turnsK;rw[hk];rfl
 have h1:(1:Int)∈t.has:=(aDe hd hn).1 htk 1 (by simp[locksT])
 have hfr:=hmi.nodes.frs;unfold aEp kG;rw[fY ht];generalize hr:doM x.m t.call=r at *;obtain⟨t1,ht1⟩:∃t1,aVN x r t=t1:=⟨_,rfl⟩;have d1:t1.call=t.call∧t1.has=t.has∧t1.done=true∧t1.ended=t.ended∧t1.upto=((x.ops++r.2.2).length:Int):=by rw[←ht1];exact⟨rfl,rfl,rfl,rfl,rfl⟩
 rw[ht1];simp only;have hlen:(x.ths.set who t1).length=x.ths.length:=zAG;have hat:∀i t2,(x.ths.set who t1)[i]?=some t2→(i=who∧t2=t1)∨(i≠who∧x.ths[i]?=some t2):=fun i t2 h=>by
  rw[zBe]at h;split at h
  ·rename_i e;subst e;cases h;exact .inl ⟨rfl,rfl⟩
  ·rename_i e;exact .inr ⟨fun e2=>e e2.symm,h⟩
 obtain⟨hW,hA⟩:=aV5 c ht hw hn hk d1.2.1;generalize(List.range (x.ths.set who t1).length).foldl (mS who) (x.t,x.ths.set who t1)=s at *;obtain⟨a1,a2,a3,a4⟩:=hA;rw[hlen]at a1 a2 a3 a4;have hm:∀t'∈s.2,∃(i:Nat) (t2:Thr),s.2[i]?=some t'∧(x.ths.set who t1)[i]?=some t2∧Alk t2 t':=fun t' h=>by
  obtain⟨i,hi'⟩:=List.getElem?_of_mem h;obtain⟨t2,q1,q2, -⟩:=a3 i t' hi';exact⟨i,t2,hi',q1,q2⟩
 -- what another thread is behind it
 have hoth:∀(i:Nat) t',s.2[i]?=some t'→i≠who→∃t2,x.ths[i]?=some t2∧Alk t2 t'∧(lateT t2=true→t'.has=[]∧t'.at_=0)∧(lateT t2=false→t'=t2):=fun i t' h hne=>by
  obtain⟨t2,q1,q2,q3,q4⟩:=a3 i t' h;rcases hat i t2 q1 with⟨e, -⟩|⟨-,q1⟩
  ·exact absurd e hne
  ·exact⟨t2,q1,q2,fun hl=>(q3 hne hl).1 (eT.1 q1).1,fun hl=>q4 (.inr hl)⟩
 have hself:∀t',s.2[who]?=some t'→t'=t1:=fun t' h=>by
  obtain⟨t2,q1,q2,q3,q4⟩:=a3 who t' h;rcases hat who t2 q1 with⟨-,e⟩|⟨hne, -⟩
  ·rw[q4 (.inl rfl),e]
  ·exact absurd rfl hne
 refine⟨hmi,fun t' h=>?_,by show s.2.length≤40;rw[a1];exact c.n,by show TI s.1 s.2.length (hasC s.2);rw[a1];exact a2,fun t' h=>?_,fun w hw' i e t' h=>?_,c.gu,fun w h=>?_,?_,fun t' h=>?_,fun t' h=>?_,?_⟩
 ·obtain⟨i,t2,q1,q2,q3⟩:=hm t' h;rw[q3.1];rcases hat i t2 q2 with⟨-,e⟩|⟨-,q2⟩
  ·rw[e,d1.1];exact c.cs t (zAp ht)
  ·exact c.cs t2 (zAp q2)
 ·obtain⟨i,hi'⟩:=List.getElem?_of_mem h;by_cases hne:i=who
  ·subst hne;rw[hself t' hi'];exact TW.did d1.2.2.1 fun h=>by rw[d1.2.2.2.1,he]at h;cases h
  ·obtain⟨t2,q1,q2,q3,q4⟩:=hoth i t' hi' hne;have hw2:=c.tw t2 (zAp q1);cases hlt:lateT t2 with
   |true=>
    obtain⟨b1,b2⟩:=q3 hlt;have hwk:walksK t2.call=true:=by unfold lateT at hlt;simp only[zAu]at hlt;exact hlt.1
    refine⟨fun h=>?_,fun _ _=>?_,fun _ h=>?_,fun _ h=>?_⟩
    ·rw[q2.2.2.1]at h;exact⟨by rw[q2.2.1];exact(hw2.ended h).1,b1⟩
    ·rw[b1,b2];exact⟨zAo _,zBY 0,(by decide:(0:Int)≤16),fun _=>rfl,fun k hk=>(by cases hk)⟩
    ·rw[q2.1,rW hwk]at h;cases h
    ·rw[q2.1,hwk]at h;cases h
   |false=>
    rw[q4 hlt];refine⟨hw2.ended,hw2.walk,fun hd2 htu=>?_,hw2.plain⟩
    rw[(turner_only c ht h1 hne q1 hd2 htu).1];exact List.nil_prefix
 ·obtain⟨w1,w2⟩:=a4 w hw';have hne:i≠who:=fun e2=>hw w w1 (by rw[e,e2])
  obtain⟨t2,q1,q2,q3,q4⟩:=hoth i t' h hne;have hs2:(x.ths.set who t1)[i]?=some t2:=by rw[zAA (zBs hne)];exact q1
  have hi2:=(eT.1 q1).1;have hlt:lateT t2=false:=by
   cases hlt:lateT t2 with
   |false=>rfl
   |true=>have:=w2 i t2 e hs2 hne hlt;omega
  rw[q4 hlt];have hn2:=c.wt w w1 i e t2 q1;obtain⟨p1,p2, -⟩:=tJ c.mi.nodes.frs (c.tw t2 (zAp q1)) hn2;have hk1:=(hW w w1).2 i t2 e hs2 hlt;have hx:=hS x.m.log.nodes t2;rw[hn2]at hx;have htu:turnsK t2.call=true:=by
   generalize hu:(⟨1,w.lock⟩:Trn)=u at hx;cases hx with
   |none=>cases hu
   |back=>cases hu
   |wait=>cases hu
   |leave=>cases hu
   |plain=>cases hu
   |turn _ _ h=>exact h
   |walk _ _ _ _ h=>unfold lateT at hlt;rw[h,p2]at hlt;cases hlt
  rw[hk1];exact turns_next p1 p2 htu (turner_only c ht h1 hne q1 p2 htu).1
 ·obtain⟨i,t2,q1,q2,q3⟩:=c.gr w h;have hne:i≠who:=fun e2=>aSP.1 hg w h (by rw[q1,e2])
  have hi2:i<s.2.length:=by rw[a1];exact(eT.1 q2).1
  obtain⟨t3,b1,b2,b3,b4⟩:=hoth i _ (zAb hi2) hne;rw[q2]at b1;cases b1;have hlt:lateT t2=false:=by unfold lateT;rw[q3.1];simp
  refine⟨i,t2,q1,?_,q3⟩;rw[←b4 hlt];exact zAb hi2
 ·have:=c.kp;show 0≤x.g.kept∧x.g.kept≤((x.ops++r.2.2).length:Int);rw[zAa];omega
 ·obtain⟨i,t2,q1,q2,q3⟩:=hm t' h;rw[q3.2.2.2.1];rcases hat i t2 q2 with⟨-,e⟩|⟨-,q2⟩
  ·rw[e,d1.2.2.2.2];exact⟨by omega,zBY _⟩
  ·have:=c.up t2 (zAp q2);show 0≤t2.upto∧t2.upto≤((x.ops++r.2.2).length:Int);rw[zAa];omega
 ·obtain⟨i,t2,q1,q2,q3⟩:=hm t' h;rw[q3.1,q3.2.2.1,q3.2.2.2.1,q3.2.2.2.2.1];rcases hat i t2 q2 with⟨-,e⟩|⟨-,q2⟩
  ·intro _ h;rw[e,d1.2.2.2.1,he]at h;cases h
  ·exact c.sy t2 (zAp q2)
 ·show(x.ops++r.2.2).length=r.1.log.entries.length;rw[zAa,hl,c.ops]
theorem CI.turn{x:Cor}(c:CI x){who:Nat}{t:Thr}(ht:x.ths[who]?=some t)(he:t.ended=false)(hw:∀w∈x.t.waits,w.thr≠who)(hg:oT x.g who=false):CI (rT who t (nextT x.m.log.nodes t) x):=by
 have key:∀u,nextT x.m.log.nodes t=u→(u.kind=1∨u.kind=2∨u=⟨3,0⟩∨u.kind=4∨u.kind=5)→CI (rT who t u x):=by
  rintro⟨a,k⟩ hu hk;unfold rT;simp only at hk ⊢;by_cases k1:a=1
  ·subst k1;rw[zAl rfl];exact c.take ht hw hg hu
  rw[zAe k1];by_cases k2:a=2
  ·subst k2;rw[zAl rfl];exact c.give ht hw hg hu
  rw[zAe k2];by_cases k3:a=3
  ·subst k3;have hk0:k=0:=by
    rcases hk with h|h|h|h|h
    ·exact absurd h k1
    ·exact absurd h k2
    ·cases h;rfl
    ·exact absurd h (by decide)
    ·exact absurd h (by decide)
   subst hk0;rw[zAl rfl];unfold aFH;split
   ·rename_i h;exact c.merge ht hw hg hu h.1
   ·rename_i h;refine c.act0 ht hw hg hu ?_;by_cases h13:t.call.kind=13
    ·exact .inr fun h0=>h ⟨h13,h0⟩
    ·exact .inl h13
  rw[zAe k3];by_cases k4:a=4
  ·subst k4;rw[zAl rfl];exact c.wait ht hw hg hu
  rw[zAe k4];by_cases k5:a=5
  ·subst k5;rw[zAl rfl];exact c.leave ht hw hg hu
  ·rw[zAe k5];exact c
 exact key _ rfl (yB _ he)
theorem CI.step{x:Cor}(c:CI x)(p:Int)(full:Bool):CI (jL x p full):=by
 unfold jL;cases hp:kY x p with
 |none=>exact c
 |some who=>
  obtain⟨t,ht,he,hw, -⟩:=aAz (tK hp);simp only;unfold goC;have hgd:x.ths.getD who (th0 ca0)=t:=by rw[zAh,ht];rfl
  rw[hgd];cases hg:oT x.g who with
  |true=>rw[zAl rfl];exact c.tick.keep full hg
  |false=>rw[zAe (by decide)];exact c.tick.turn ht he hw hg
end
section
theorem aUB{x:Cor}(h:doneC x=true):cW x=[]:=by
 rw[List.eq_nil_iff_forall_not_mem];intro i hi;obtain⟨t,h1,h2, -⟩:=aAz hi;unfold doneC at h;rw[zAJ.1 h t (zAp h1)]at h2;cases h2
theorem aV6{x:Cor}(c:CI x)(hall:∀(i:Nat) t,x.ths[i]?=some t→t.ended=false→∃w∈x.t.waits,w.thr=(i:Int)):∀(m:Nat) (w:Hld),w∈x.t.waits→w.lock≠1→x.m.log.nodes.length-dep x.m.log.nodes w.lock<m→
  ∃(j:Nat) (t:Thr) (a:Int),x.ths[j]?=some t∧t.done=false∧t.ended=false∧turnsK t.call=true∧a∈t.has∧a≠1∧(a=w.lock∨w.lock∈cN x.m.log.nodes a)
 |0,_,_,_,h=>absurd h (Nat.not_lt_zero _)
 |m+1,w,hw,hk,hm=>by
  have hfr:=c.mi.nodes.frs;obtain⟨i,e,hi,hno,h,hh,hl⟩:=c.ti.waitH w hw;obtain⟨j,ej,hj,hkj⟩:=(c.ti.heldH h.lock h.thr).1 hh;have ht:=zAb hj;rw[nS ht,hl]at hkj;have htw:=c.tw _ (zAp ht);generalize x.ths[j]=t at *;have he:t.ended=false:=by
   cases he:t.ended with
   |false=>rfl
   |true=>have:=(htw.ended he).2;rw[this]at hkj;cases hkj
  obtain⟨v,hv,ev⟩:=hall j t ht he;have hn:=c.wt v hv j ev t ht;obtain⟨-,hd,hvk, -⟩:=tJ hfr htw hn;have hx:=hS x.m.log.nodes t;rw[hn]at hx;generalize hu:(⟨1,v.lock⟩:Trn)=u at hx;cases hx with
  |none=>cases hu
  |back=>cases hu
  |wait=>cases hu
  |leave=>cases hu
  |plain=>cases hu
  |turn _ _ htu=>exact⟨j,t,w.lock,ht,hd,he,htu,hkj,hk,.inl rfl⟩
  |walk _ _ _ htu hwk hs=>
   cases hs with
   |root hh=>rw[hh]at hkj;cases hkj
   |pass=>cases hu
   |anew=>cases hu
   |here=>cases hu
   |down here i' s hh h0 hs hc hdi=>
    simp only[Trn.mk.injEq,true_and]at hu;subst hu;rw[hh,zAq]at hkj;obtain⟨n,hn1,hn2,hn3,hn4⟩:=aIG hfr hc;have hpar:par x.m.log.nodes v.lock=some w.lock:=by
     unfold par;rw[←hn2,aG2 hfr.chk hn1];simp only;rw[zAe,hn3,hkj];intro e;have h0:=((htw.walk hd hwk).2.2.2.2 here (by rw[hh];simp)).2.2
     omega
    have hdep:=aAu hfr.wf hpar;have hle:=aC2 hfr.wf v.lock;obtain⟨j2,t2,a,q1,q2,q3,q4,q5,q6,q7⟩:=aV6 c hall m v hv (by omega) (by omega)
    refine⟨j2,t2,a,q1,q2,q3,q4,q5,q6,.inr ?_⟩;have hab:=xV hfr.wf hpar;rcases q7 with q7|q7
    ·rw[q7,hab];simp
    ·exact aC0 hfr.wf a v.lock (zAR _ q7) _ hpar
theorem aIU{x:Cor}(c:CI x)(h:doneC x=false):cW x≠[]:=by
 intro hno;have hab:∀(i:Nat) t,x.ths[i]?=some t→nN x (t,i)=false:=fun i t ht=>by
  cases hb:nN x (t,i)with
  |false=>rfl
  |true=>have:=aLL.2 ⟨t,ht,hb⟩;rw[hno]at this;cases this
 -- the first one of the group would be able
 have hg:x.g.waits=[]:=by
  cases hw:x.g.waits with
  |nil=>rfl
  |cons w ws=>
   obtain⟨i,t,e,ht,h1,h2,h3,h4, -⟩:=c.gr w (by rw[hw];simp)
   have:=hab i t ht;unfold nN at this;have hnw:nM x.t.waits i=none:=aHp fun v hv e2=>by
    obtain⟨j,t2,e3,ht2,hn, -,hd, -⟩:=c.got hv;have:j=i:=by omega
    subst this;rw[ht]at ht2;cases ht2;rw[h1]at hd;cases hd
   have hl:zK x.g=some (i:Int):=by unfold zK;rw[hw];simp[e]
   simp[h2,hnw,hl]at this
 have hall:∀(i:Nat) t,x.ths[i]?=some t→t.ended=false→∃w∈x.t.waits,w.thr=(i:Int):=fun i t ht he=>by
  have:=hab i t ht;unfold nN at this;have hin:oT x.g i=false:=aSP.2 fun w hw=>by rw[hg]at hw;cases hw
  simp only[he,hin,zBx,zAN,Bool.true_or,Bool.and_true,Bool.not_eq_false']at this;cases hw:nM x.t.waits i with
  |none=>rw[hw]at this;cases this
  |some k=>exact⟨_,aUr hw,rfl⟩
 obtain⟨i,t,ht,he⟩:∃(i:Nat) (t:Thr),x.ths[i]?=some t∧t.ended=false:=by
  unfold doneC at h;rw[List.all_eq_false]at h;obtain⟨t,h1,h2⟩:=h;obtain⟨i,hi⟩:=List.getElem?_of_mem h1;exact⟨i,t,hi,by simpa using h2⟩
 obtain⟨w,hw,e⟩:=hall i t ht he
 -- somebody waits for a directory
 obtain⟨v,hv,hv1⟩:∃v∈x.t.waits,v.lock≠1:=by
  by_cases h1:w.lock=1
  ·obtain⟨i',e',hi', -,hh,hhm,hl⟩:=c.ti.waitH w hw;obtain⟨j,ej,hj,hkj⟩:=(c.ti.heldH hh.lock hh.thr).1 hhm;have htj:=zAb hj;rw[nS htj,hl,h1]at hkj;have htw:=c.tw _ (zAp htj);have hej:x.ths[j].ended=false:=by
    cases he:x.ths[j].ended with
    |false=>rfl
    |true=>have:=(htw.ended he).2;rw[this]at hkj;cases hkj
   obtain⟨v,hv,ev⟩:=hall j _ htj hej;obtain⟨-, -,q, -⟩:=tJ c.mi.nodes.frs htw (c.wt v hv j ev _ htj);exact⟨v,hv,fun e1=>q (by rw[e1];exact hkj)⟩
  ·exact⟨w,hw,h1⟩
 obtain⟨j,t1,a,q1,q2,q3,q4,q5,q6, -⟩:=aV6 c hall _ v hv hv1 (zA8 _)
 -- who turns the tree waits for a directory above one that it has
 obtain⟨u,hu,eu⟩:=hall j t1 q1 q3;have hp:=(c.tw t1 (zAp q1)).turn q2 q4;have h1:(1:Int)∈t1.has:=by
  cases hh:t1.has with
  |nil=>rw[hh]at q5;cases q5
  |cons b r=>rw[hh]at hp;rw[(List.cons_prefix_cons.1 hp).1];simp
 have hn:=c.wt u hu j eu t1 q1;have hx:=hS x.m.log.nodes t1;rw[hn]at hx;have hlk:u.lock∉t1.has∧t1.has++[u.lock]<+:locksT x.m.log.nodes t1.call:=by
  generalize hu':(⟨1,u.lock⟩:Trn)=z at hx;cases hx with
  |none=>cases hu'
  |back=>cases hu'
  |wait=>cases hu'
  |leave=>cases hu'
  |plain=>cases hu'
  |turn=>exact aCx (aC4 _ _) hp hu'.symm
  |walk _ _ _ h=>rw[q4]at h;cases h
 have hu1:u.lock≠1:=fun e=>hlk.1 (by rw[e];exact h1)
 obtain⟨j2,t2,a2,p1,p2,p3,p4,p5,p6,p7⟩:=aV6 c hall _ u hu hu1 (zA8 _);have hjj:j2=j:=by
  have hp2:=(c.tw t2 (zAp p1)).turn p2 p4;have h12:(1:Int)∈t2.has:=by
   cases hh:t2.has with
   |nil=>rw[hh]at p5;cases p5
   |cons b r=>rw[hh]at hp2;rw[(List.cons_prefix_cons.1 hp2).1];simp
  exact c.ti.oneN (k:=1) (eT.1 p1).1 (eT.1 q1).1 (by rw[nS p1];exact h12) (by rw[nS q1];exact h1)
 subst hjj;rw[q1]at p1;cases p1;have hab2:u.lock∈cN x.m.log.nodes a2:=p7.resolve_left fun e=>hlk.1 (by rw[←e];exact p5)
 -- but the upper one is asked for first
 obtain⟨hk1,r,hr⟩:=hlk;have hlen:=qB x.m.log.nodes t1.call;have hO:∃ds,locksT x.m.log.nodes t1.call=1::gZ x.m.log.nodes ds:=⟨_,rfl⟩;obtain⟨ds,hds⟩:=hO;have hsh:t1.has=[1,a2]∧r=[]:=by
  rw[←hr]at hlen hds;cases hh:t1.has with
  |nil=>rw[hh]at p5;cases p5
  |cons b s=>
   rw[hh]at hds hlen p5;have hb:b=1:=(zBn hds).1;subst hb;have:a2∈s:=(zAs.1 p5).resolve_left p6;cases s with
   |nil=>cases this
   |cons b2 s2=>
    simp only[zA0,zAc,zAa,zAv]at hlen;have h1:s2=[]:=zAE (by omega)
    have h2:r=[]:=zAE (by omega)
    subst h1;rw[zAq]at this;subst this;exact⟨rfl,h2⟩
 rw[hsh.1,hsh.2]at hr;have hr':gZ x.m.log.nodes ds=[a2,u.lock]:=by
  rw[←hr]at hds;exact(zBn hds).2.symm
 have hB:fX x.m.log.nodes u.lock a2=true:=by
  unfold fX kM;rw[zAl c.mi.nodes.frs.chk];simpa using hab2
 have hB':fX x.m.log.nodes a2 u.lock=false:=by
  cases hb:fX x.m.log.nodes a2 u.lock with
  |false=>rfl
  |true=>
   unfold fX kM at hb;rw[zAl c.mi.nodes.frs.chk]at hb;have hb':a2∈cN x.m.log.nodes u.lock:=by simpa using hb
   have h1:=aKR c.mi.nodes.frs.wf _ rfl hb';have h2:=aKR c.mi.nodes.frs.wf _ rfl hab2;omega
 unfold gZ at hr';split at hr'
 ·rename_i p q;split at hr'
  ·rename_i hc;simp only[List.cons.injEq,and_true]at hr';obtain⟨e1,e2⟩:=hr';rw[e1,e2]at hc;simp[hB]at hc
  ·rename_i hc;simp only[List.cons.injEq,and_true]at hr';obtain⟨e1,e2⟩:=hr';rw[e1,e2]at hc;simp[hB,hB']at hc
 ·rename_i hne;exact hne a2 u.lock hr'
end
section
def mineC(x:Cor)(i:Nat):List Hld:=(hasC x.ths i).map fun k=>⟨k,i⟩
theorem aUC{x:Cor}(c:CI x):((x.ths.map fun t=>t.has.length).sum)=x.t.held.length:=by
 have hp:((List.range x.ths.length).flatMap (mineC x)).Perm x.t.held:=by
  rw[List.perm_ext_iff_of_nodup]
  ·intro h;obtain⟨k,j⟩:=h;rw[c.ti.heldH,zBC];constructor
   ·rintro⟨i,hi,hk⟩;unfold mineC at hk;obtain⟨k',hk',e⟩:=zAm.1 hk;cases e;exact⟨i,rfl,List.mem_range.1 hi,hk'⟩
   ·rintro⟨i,rfl,hi,hk⟩;exact⟨i,List.mem_range.2 hi,zAm.2 ⟨k,hk,rfl⟩⟩
  ·unfold List.Nodup;rw[List.pairwise_flatMap];refine⟨fun i _=>?_,?_⟩
   ·unfold mineC;rw[List.pairwise_map];exact(c.ti.hasU i).imp fun h e=>h (Hld.mk.inj e).1
   ·refine List.nodup_range.imp fun h a ha b hb e=>h ?_
    unfold mineC at ha hb;obtain⟨k,_,rfl⟩:=zAm.1 ha;obtain⟨k',_,rfl⟩:=zAm.1 hb;have:=(Hld.mk.inj e).2;omega
  ·exact c.ti.heldU.imp fun h e=>h (by rw[e])
 rw[←hp.length_eq,List.length_flatMap];congr 1;refine List.ext_getElem (by simp) fun i h1 h2=>?_
 simp only[List.getElem_map,List.getElem_range,mineC,zAn];rw[nS (zAb (by simpa using h1))]
theorem CI.holds{x:Cor}(c:CI x){i:Nat}{t:Thr}(ht:x.ths[i]?=some t){k:Int}(hk:k∈t.has):mQ x.t.held k=some (i:Int):=
 c.ti.hold ((c.ti.heldH k i).2 ⟨i,rfl,(eT.1 ht).1,by rw[nS ht];exact hk⟩)
theorem CI.idle{x:Cor}(c:CI x){i:Nat}{t:Thr}(ht:x.ths[i]?=some t)(he:t.ended=true):t.has=[]∧nM x.t.waits i=none:=by
 refine⟨((c.tw t (zAp ht)).ended he).2,aHp fun w hw e=>?_⟩
 have hn:=c.wt w hw i e t ht;have:=(tJ c.mi.nodes.frs (c.tw t (zAp ht)) hn).1;rw[he]at this;cases this
theorem CI.quiet{x:Cor}(c:CI x)(h:doneC x=true):x.t.held=[]∧x.t.waits=[]∧x.g.waits=[]:=by
 unfold doneC at h;have hall:=zAJ.1 h;refine⟨?_,?_,?_⟩
 ·rw[List.eq_nil_iff_forall_not_mem];rintro⟨k,j⟩ hm;obtain⟨i, -,hi,hk⟩:=(c.ti.heldH k j).1 hm;have ht:=zAb hi;rw[nS ht,(c.idle ht (hall _ (zAK hi))).1]at hk;cases hk
 ·rw[List.eq_nil_iff_forall_not_mem];intro w hw;obtain⟨j,t,e,ht,hn, -,hd, -⟩:=c.got hw;have:=((c.tw t (zAp ht)).ended (hall t (zAp ht))).1;rw[hd]at this;cases this
 ·rw[List.eq_nil_iff_forall_not_mem];intro w hw;obtain⟨i,t,e,ht,h1,h2, -⟩:=c.gr w hw;rw[hall t (zAp ht)]at h2;cases h2
structure Goes (a b:Thr):Prop where
 call:b.call=a.call
 begin_:b.begin_=a.begin_
 ended:a.ended=true→b=a
 done:a.done=true→b.done=true∧b.mark=a.mark∧b.upto=a.upto∧(b.ans=a.ans∨a.call.kind=12∧b.ans={an0 with err:=120})
theorem Goes.refl(a:Thr):Goes a a:=⟨rfl,rfl,fun _=>rfl,fun h=>⟨h,rfl,rfl,.inl rfl⟩⟩
theorem Goes.alike{a b:Thr}(h:Alk a b)(he:a.ended=true→b=a):Goes a b:=⟨h.1,h.2.2.2.2.2.1,he,fun hd=>⟨h.2.1.trans hd,h.2.2.2.2.2.2.1,h.2.2.2.1,.inl h.2.2.2.2.1⟩⟩
def GoesAll(l k:List Thr):Prop:=k.length=l.length∧∀(i:Nat) t,l[i]?=some t→∃t',k[i]?=some t'∧Goes t t'
theorem GoesAll.refl(l:List Thr):GoesAll l l:=⟨rfl,fun i t h=>⟨t,h,Goes.refl t⟩⟩
theorem Goes.trans{a b d:Thr}(h:Goes a b)(k:Goes b d):Goes a d:=by
 refine⟨k.call.trans h.call,k.begin_.trans h.begin_,fun he=>?_,fun hd=>?_⟩
 ·have e:=h.ended he;subst e;exact k.ended he
 ·obtain⟨h1,h2,h3,h4⟩:=h.done hd;obtain⟨k1,k2,k3,k4⟩:=k.done h1;refine⟨k1,k2.trans h2,k3.trans h3,?_⟩;rcases k4 with k4|⟨k4,k5⟩
  ·rcases h4 with h4|⟨h4,h5⟩
   ·exact .inl (k4.trans h4)
   ·exact .inr ⟨h4,k4.trans h5⟩
  ·exact .inr ⟨by rw[←h.call];exact k4,k5⟩
theorem GoesAll.trans{a b d:List Thr}(h:GoesAll a b)(k:GoesAll b d):GoesAll a d:=⟨k.1.trans h.1,fun i t ht=>by
 obtain⟨t1,h1,h2⟩:=h.2 i t ht;obtain⟨t2,k1,k2⟩:=k.2 i t1 h1;exact⟨t2,k1,h2.trans k2⟩⟩
theorem aW5(l:List Thr)(n:Int)(f:Thr→Thr)(i:Nat):(mY l n f)[i]?=l[i]?.map fun t=>if n=(i:Int)then f t else t:=by
 unfold mY;split
 ·rename_i h;rw[zBe];by_cases e:n.toNat=i
  ·have e2:n=(i:Int):=by omega
   have hi:i<l.length:=by omega
   rw[zAl e,zAl (by omega),e,zAh,zAb hi]
   simp[e2]
  ·have e2:¬n=(i:Int):=by omega
   rw[zAe e];simp[e2]
 ·rename_i h;cases hi:l[i]? with
  |none=>rfl
  |some t=>
   have:=(eT.1 hi).1;have e2:¬n=(i:Int):=by omega
   simp[e2]
theorem aAA(l:List Thr)(n:Int)(f:Thr→Thr):(mY l n f).length=l.length:=by unfold mY;split<;>simp
theorem goes_upd{l:List Thr}{n:Int}{f:Thr→Thr}(h:∀(i:Nat) t,n=(i:Int)→l[i]?=some t→Goes t (f t)):GoesAll l (mY l n f):=by
 refine⟨aAA _ _ _,fun i t ht=>?_⟩
 rw[aW5,ht];refine⟨_,rfl,?_⟩;split
 ·rename_i e;exact h i t e ht
 ·exact Goes.refl t
theorem goes_who{l:List Thr}{who:Nat}{t:Thr}(f:Thr→Thr)(ht:l[who]?=some t)(h:Goes t (f t)):GoesAll l (mY l who f):=goes_upd fun i u e hu=>by
 have:i=who:=by omega
 subst this;rw[ht]at hu;cases hu;exact h
theorem goes_lock(t:Thr)(k:Int)(he:t.ended=false):Goes t (afterT t ⟨1,k⟩):=Goes.alike (alike_lock t k) fun h=>by rw[he]at h;cases h
theorem goes_got{l:List Thr}{w:Hld}(h:∀(i:Nat) t,w.thr=(i:Int)→l[i]?=some t→t.ended=false):GoesAll l (vY l w):=goes_upd fun i t e ht=>goes_lock t _ (h i t e ht)
theorem goes_gots:∀(g:List Hld) {l:List Thr},(∀w∈g,∀(i:Nat) t,w.thr=(i:Int)→l[i]?=some t→t.ended=false)→GoesAll l (g.foldl vY l)
 |[],l,_=>GoesAll.refl l
 |w::g,l,h=>by
  rw[zBy];have h1:=goes_got (h w (by simp))
  refine h1.trans (goes_gots g fun v hv i t e ht=>?_)
  unfold vY at ht;rw[aW5]at ht;obtain⟨u,hu,e2⟩:=zAM.1 ht;have:=h v (zAR _ hv) i u e hu;rw[←e2];split<;>exact this
structure StepR (x y:Cor):Prop where
 ths:GoesAll x.ths y.ths
 kept:x.g.kept≤y.g.kept
 ops:x.ops<+:y.ops
theorem StepR.refl(x:Cor):StepR x x:=⟨GoesAll.refl _,zBY _,zBD _⟩
theorem aUD{x:Cor}(c:CI x)(who:Nat)(full:Bool)(hg:oT x.g who=true):StepR x (mR full who x):=by
 have hin:∀w∈x.g.waits,∀(i:Nat) t,w.thr=(i:Int)→x.ths[i]?=some t→t.done=true∧t.ended=false∧t.call.kind=12:=fun w hw i t e ht=>by
  obtain⟨i',t',e',h1,h2,h3,h4, -⟩:=c.gr w hw;have:i'=i:=by omega
  subst this;rw[ht]at h1;cases h1;exact⟨h2,h3,h4⟩
 obtain⟨w0,hw0,e0⟩:∃w∈x.g.waits,w.thr=(who:Int):=by
  unfold oT at hg;obtain⟨w,h1,h2⟩:=zBX.1 hg;exact⟨w,h1,zAQ h2⟩
 have hover:∀(t:Thr),t.ended=false→Goes t (aHq x.time t):=fun t he=>⟨rfl,rfl,fun h=>(by rw[he]at h;cases h),fun h=>⟨h,rfl,rfl,.inl rfl⟩⟩
 unfold mR;cases full with
 |true=>
  rw[zAl rfl];refine⟨?_,zBY _,zBD _⟩;refine GoesAll.trans (goes_upd (n:=who) (f:=fun t=>{t with ans:={an0 with err:=120}}) (fun i t e ht=>?_)) (goes_upd (n:=who) (f:=fun t=>{t with ended:=true,end_:=x.time}) (fun i t e ht=>?_))
  ·obtain⟨h1,h2,h3⟩:=hin w0 hw0 i t (by rw[e0];exact e) ht
   exact⟨rfl,rfl,fun h=>(by rw[h2]at h;cases h),fun h=>⟨h,rfl,rfl,.inr ⟨h3,rfl⟩⟩⟩
  ·rw[aW5]at ht;obtain⟨u,hu,e2⟩:=zAM.1 ht;obtain⟨h1,h2,h3⟩:=hin w0 hw0 i u (by rw[e0];exact e) hu
   refine hover t ?_;rw[←e2];split<;>exact h2
 |false=>
  rw[zAe (by decide)]
  refine⟨⟨aEB _ _ _,fun j u hj=>?_⟩,?_,zBD _⟩
  ·show ∃t',(List.foldl (kF x.time) x.ths _)[j]?=some t'∧_;rw[aCC,hj];refine⟨_,rfl,?_⟩;split
   ·rename_i hin';obtain⟨w,hw',e2⟩:=zAm.1 hin';exact hover u (hin w (zBb.1 hw').1 j u e2 hj).2.1
   ·exact Goes.refl u
  ·show x.g.kept≤max x.g.kept (x.ops.length:Int);omega
theorem aV7{x:Cor}{who:Nat}(ti:TI x.t x.ths.length (hasC x.ths))(hend:∀w∈x.t.waits,∀(i:Nat) t,w.thr=(i:Int)→x.ths[i]?=some t→t.ended=false)(hlate:∀(i:Nat) t,x.ths[i]?=some t→t.ended=true→t.done=true):
  ∀(k:Nat),k≤x.ths.length→GoesAll x.ths ((List.range k).foldl (mS who) (x.t,x.ths)).2∧TI ((List.range k).foldl (mS who) (x.t,x.ths)).1 x.ths.length (hasC ((List.range k).foldl (mS who) (x.t,x.ths)).2)∧(∀w∈((List.range k).foldl (mS who) (x.t,x.ths)).1.waits,w∈x.t.waits)∧∀(i:Nat) t',((List.range k).foldl (mS who) (x.t,x.ths)).2[i]?=some t'→∃t,x.ths[i]?=some t∧Alk t t':=by
 intro k;induction k with
 |zero=>exact fun _=>⟨GoesAll.refl _,ti,fun w h=>h,fun i t h=>⟨t,h,Alk.refl t⟩⟩
 |succ k ih=>
  intro hk;obtain⟨h1,h2,h3,h4⟩:=ih (by omega)
  rw[List.range_succ,zBF];simp only[zBy,zCt];generalize(List.range k).foldl (mS who) (x.t,x.ths)=s at *;have hks:k<s.2.length:=by rw[h1.1];omega
  have hkt:=zAb hks;unfold mS;rw[late_eq,zAh,hkt,zBh];split
  ·rename_i hl;simp only[zAu]at hl;obtain⟨d1,d2,d3⟩:=h2.drop (i:=k) (by omega)
   obtain⟨u,hu,ha⟩:=h4 k _ hkt;have hne:s.2[k].ended=false:=by
    cases he:s.2[k].ended with
    |false=>rfl
    |true=>
     have:=hlate k u hu (by rw[←ha.2.2.1];exact he)
     have hl2:=hl.2;unfold lateT at hl2;rw[ha.2.1,this]at hl2;simp at hl2
   have hup:GoesAll s.2 (mY s.2 k rI):=goes_upd fun i t e ht=>by
    have:i=k:=by omega
    subst this;rw[hkt]at ht;cases ht;exact⟨rfl,rfl,fun h=>(by rw[hne]at h;cases h),fun h=>⟨h,rfl,rfl,.inl rfl⟩⟩
   have halike:∀(i:Nat) t',(mY s.2 k rI)[i]?=some t'→∃t,x.ths[i]?=some t∧Alk t t':=fun i t' h=>by
    rw[aW5]at h;obtain⟨v,hv,e⟩:=zAM.1 h;obtain⟨t,q1,q2⟩:=h4 i v hv;refine⟨t,q1,?_⟩;rw[←e];split
    ·exact q2.trans ⟨rfl,rfl,rfl,rfl,rfl,rfl,rfl,rfl⟩
    ·exact q2
   have hrec:∀w∈(dropT s.1 k).2,∃j:Nat,w.thr=(j:Int)∧j<(mY s.2 k rI).length:=fun w hw=>by
    obtain⟨j,q1,q2, -⟩:=d2 w hw;exact⟨j,q1,by rw[aAA,h1.1];exact q2⟩
   obtain⟨g1,g2,g3⟩:=got_fold (dropT s.1 k).2 (mY s.2 k rI) hrec;refine⟨(h1.trans hup).trans (goes_gots _ fun w hw i t e ht=>?_),?_,fun w hw=>h3 w (d3 w hw).1,fun i t' h=>?_⟩
   ·obtain⟨j,q1,q2,q3,q4, -⟩:=d2 w hw;obtain⟨v,hv1,hv2⟩:=halike i t ht;rw[hv2.2.2.1];exact hend w (h3 w q4) i v e hv1
   ·rw[g2];have:hasC (mY s.2 k rI)=mZ (hasC s.2) k []:=by
     rw[fY hkt,wL hks];rfl
    rw[this];exact d1
   ·obtain⟨t1,a1,a2, -⟩:=g3 i t' h;obtain⟨t,b1,b2⟩:=halike i t1 a1;exact⟨t,b1,b2.trans a2⟩
  ·exact⟨h1,h2,h3,h4⟩
theorem anew_goes{x:Cor}{who:Nat}(ti:TI x.t x.ths.length (hasC x.ths))(hend:∀w∈x.t.waits,∀(i:Nat) t,w.thr=(i:Int)→x.ths[i]?=some t→t.ended=false)(hlate:∀(i:Nat) t,x.ths[i]?=some t→t.ended=true→t.done=true):GoesAll x.ths (aEp who x).ths:=(aV7 ti hend hlate _ (zAf _)).1
theorem aW6{x:Cor}(c:CI x){who:Nat}{t:Thr}(ht:x.ths[who]?=some t)(r:Mdl×Ans×List Opn):
  TI (kG who x r).t (kG who x r).ths.length (hasC (kG who x r).ths)∧(∀w∈(kG who x r).t.waits,∀(i:Nat) t,w.thr=(i:Int)→(kG who x r).ths[i]?=some t→t.ended=false)∧∀(i:Nat) t,(kG who x r).ths[i]?=some t→t.ended=true→t.done=true:=by
 have hi:=(eT.1 ht).1;refine⟨?_,?_,?_⟩
 ·show TI x.t (mY x.ths who _).length (hasC (mY x.ths who _));rw[fY ht,zAG,wL hi,updH_self (l:=(aVN x r t).has) ((nS ht).trans rfl)];exact c.ti
 ·intro w hw i u h hu;have h':(mY x.ths who (aVN x r))[i]?=some u:=hu;rw[aW5]at h';obtain⟨v,hv,e2⟩:=zAM.1 h';have:=(tJ c.mi.nodes.frs (c.tw v (zAp hv)) (c.wt w hw i h v hv)).1;rw[←e2];split
  ·exact this
  ·exact this
 ·intro i u h hen;have h':(mY x.ths who (aVN x r))[i]?=some u:=h;rw[aW5]at h';obtain⟨v,hv,e2⟩:=zAM.1 h';rw[←e2]at hen ⊢;split
  ·rfl
  ·rename_i hne;rw[zAe hne]at hen;exact((c.tw v (zAp hv)).ended hen).1
theorem aUE{x:Cor}(c:CI x){who:Nat}{t:Thr}(ht:x.ths[who]?=some t)(he:t.ended=false):StepR x (rT who t (nextT x.m.log.nodes t) x):=by
 have hi:=(eT.1 ht).1;have hno:∀{p:Prop},t.ended=true→p:=fun h=>by rw[he]at h;cases h
 have hwho:∀(i:Nat) u,(who:Int)=(i:Int)→x.ths[i]?=some u→u=t:=fun i u e h=>by
  have:i=who:=by omega
  subst this;rw[ht]at h;exact(zBa h).symm
 have hend:∀w∈x.t.waits,∀(i:Nat) u,w.thr=(i:Int)→x.ths[i]?=some u→u.ended=false:=fun w hw i u e hu=>by
  have hn:=c.wt w hw i e u hu;exact(tJ c.mi.nodes.frs (c.tw u (zAp hu)) hn).1
 generalize hu:nextT x.m.log.nodes t=u;obtain⟨a,k⟩:=u;unfold rT;simp only;by_cases k1:a=1
 ·subst k1;rw[zAl rfl];unfold vZ;split
  ·exact⟨goes_who (fun t=>afterT t ⟨1,k⟩) ht (goes_lock t k he),zBY _,zBD _⟩
  ·exact⟨GoesAll.refl _,zBY _,zBD _⟩
 rw[zAe k1];by_cases k2:a=2
 ·subst k2;rw[zAl rfl];have hg1:GoesAll x.ths (mY x.ths who fun t=>afterT t ⟨2,k⟩):=goes_upd fun i u e h=>by
   rw[hwho i u e h];obtain⟨-,a2,a3,a4,a5,a6,a7,a8,a9, -⟩:=kZ t k;exact Goes.alike ⟨a2,a3,a4,a5,a6,a7,a8,a9⟩ hno
  obtain⟨h1,h2,h3⟩:=aCy (c.tw t (zAp ht)) (by rw[←nS ht];exact c.ti.hasU who) hu
  obtain⟨-,hj⟩:=c.ti.free hi (by rw[nS ht];exact h2)
  unfold wA;cases hf:(bX x.t who k).2 with
  |none=>exact⟨hg1,zBY _,zBD _⟩
  |some j=>
   refine⟨hg1.trans (goes_got fun i u e h=>?_),zBY _,zBD _⟩
   obtain⟨i',ej,hi',hne,hjw⟩:=hj j hf;rw[aW5]at h;obtain⟨v,hv,e2⟩:=zAM.1 h;have:=hend _ hjw i v e hv;rw[←e2];split
   ·rw[(kZ v k).2.2.2.1];exact this
   ·exact this
 rw[zAe k2];by_cases k3:a=3
 ·rw[zAl k3];unfold aFH;have hd:t.done=false:=by
   have hx:=hS x.m.log.nodes t;rw[hu,k3]at hx;generalize hz:(⟨3,k⟩:Trn)=z at hx;cases hx with
   |none=>cases hz
   |back=>cases hz
   |wait=>cases hz
   |leave=>cases hz
   |plain hd=>exact hd
   |turn hd=>exact hd
   |walk _ hd=>exact hd
  have hact:GoesAll x.ths (kG who x (doM x.m t.call)).ths:=goes_upd fun i u e h=>by
   rw[hwho i u e h];exact⟨rfl,rfl,hno,fun h=>by rw[hd]at h;cases h⟩
  have hops:x.ops<+:(kG who x (doM x.m t.call)).ops:=List.prefix_append _ _;split
  ·obtain⟨p1,p2,p3⟩:=aW6 c ht (doM x.m t.call);exact⟨hact.trans (anew_goes p1 p2 p3),zBY _,hops⟩
  ·exact⟨hact,zBY _,hops⟩
 rw[zAe k3];by_cases k4:a=4
 ·rw[zAl k4];unfold aBk zJ;split
  ·split
   ·exact⟨goes_who (fun t=>{t with ended:=true,end_:=x.time}) ht ⟨rfl,rfl,hno,fun h=>⟨h,rfl,rfl,.inl rfl⟩⟩,zBY _,zBD _⟩
   ·exact StepR.refl x
  ·split
   ·exact⟨GoesAll.refl _,zBY _,zBD _⟩
   ·exact⟨GoesAll.refl _,zBY _,zBD _⟩
 rw[zAe k4];by_cases k5:a=5
 ·rw[zAl k5];unfold aBl;exact⟨goes_who (fun t=>{afterT t ⟨5,0⟩with end_:=x.time}) ht ⟨rfl,rfl,hno,fun h=>⟨h,rfl,rfl,.inl rfl⟩⟩,zBY _,zBD _⟩
 ·rw[zAe k5];exact StepR.refl x
theorem CI.goes{x:Cor}(c:CI x)(p:Int)(full:Bool):StepR x (jL x p full):=by
 unfold jL;cases hp:kY x p with
 |none=>exact StepR.refl x
 |some who=>
  obtain⟨t,ht,he,hw, -⟩:=aAz (tK hp);simp only;unfold goC;have hgd:x.ths.getD who (th0 ca0)=t:=by rw[zAh,ht];rfl
  rw[hgd];cases hg:oT x.g who with
  |true=>rw[zAl rfl];have:=aUD c.tick who full hg;exact⟨this.1,this.2,this.3⟩
  |false=>rw[zAe (by decide)];have:=aUE c.tick ht he;exact⟨this.1,this.2,this.3⟩
end
end Go.Proofs.YtennnelammaapaaGreatDoor
