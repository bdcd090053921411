/- What the functions of this seat answer (2 of 40). No condition. -/
import Derived.Test.YtigedpfipifefaaGreatDoorWorkAA
import Derived.Laws.Append
import Derived.MapKept
import Derived.Still
import Derived.Laws.BytesArg
import Derived.Lib.ConvBytes
set_option linter.unusedSimpArgs false
set_option linter.unusedVariables false
set_option linter.unusedSectionVars false
set_option maxRecDepth 100000
set_option maxHeartbeats 16000000
namespace Go.Proofs.YtigedpfipifefaaGreatDoor
section
variable {P:Program}
def Ctx.draw(c:Ctx):Ctx:={c with w:={c.w with drawn:=c.w.drawn+1}}
theorem Ext.draw(c:Ctx):Ext c c.draw:=⟨zAb _,zAb _,fun _ h=>⟨h,rfl⟩,fun _ _=>zAb _,fun _ _ _=>⟨rfl,rfl,fun _=>rfl⟩,rfl,rfl,rfl,rfl⟩
theorem St.draw{c:Ctx}{H:AHeap}(h:St c H):St c.draw H:=
 ⟨h.gl.mono (Ext.draw c),h.n,h.lt,h.inj,h.st,fun i b hi=>(h.rep i b hi).mono (Ext.draw c) (by rw[h.n];grind) (fun _ _ hv=>hv) rfl (fun _=>rfl)⟩
def Ctx.fix(c:Ctx)(o:Obj):Ctx:={c with w:=c.w.alloc o,stable:=fun b=>c.stable b∨b=c.w.heap.size}
theorem Ext.fix{c:Ctx}{H:AHeap}(hst:St c H)(o:Obj):Ext c (c.fix o) where
 n:=zAb _
 size:=by simp[Ctx.fix]
 st:=fun b hb=>⟨.inl hb,lR (hst.st b hb).1⟩
 ver:=fun _ _=>zAb _
 blk:=fun i hi _=>⟨rfl,rfl,fun hd=>by unfold bsize Ctx.fix;simp only;rw[lR (hst.lt i hi hd)]⟩
 os:=rfl
 tape:=rfl
 output:=rfl
 base:=rfl
theorem St.fix{c:Ctx}{H:AHeap}(hst:St c H)(o:Obj):St (c.fix o) H where
 gl:=hst.gl.mono (Ext.fix hst o)
 n:=hst.n
 lt:=fun i hi hd=>by have:=hst.lt i hi hd;simp[Ctx.fix];omega
 inj:=hst.inj
 st:=fun k hk=>by
  rcases hk with hk|rfl
  ·obtain⟨h1,h2⟩:=hst.st k hk;exact⟨by simp[Ctx.fix];omega,h2⟩
  ·refine⟨by simp[Ctx.fix],fun i b hi hb hd=>?_⟩
   have:=hst.lt i (by rw[hst.n];grind) hd
   simp only[Ctx.fix];omega
 rep:=fun i b hi=>by
  have hin:i<c.n:=by rw[hst.n];exact(eT.1 hi).1
  exact(hst.rep i b hi).mono (Ext.fix hst o) hin (fun _ _ hv=>hv) rfl (fun hd=>lR (hst.lt i hin hd))
def cI(x:AV)(H:AHeap):List AV:=
 match x with
 |.sl _ es=>es.flatMap AV.cells
 |.osl s i _ off len _=>match hget H i with
  |.cells _ cs=>(cs.drop off).take (len * s)
  |_=>[]
 |.str s=>s.map fun b=>.int .u8 b.toNat
 |_=>[]
def cE(x:AV):Nat:=
 match x with
 |.sl _ es=>es.length
 |.osl _ _ _ _ len _=>len
 |.str s=>s.length
 |_=>0
def oS(x:AV)(n:Nat)(H:AHeap):Prop:=
 match x with
 |.sl _ es=>∀e∈es,e.cells.length=n
 |.osl s i v off len lc=>s=n∧mQ H (.osl s i v off len lc)∧match hget H i with
  |.cells _ cs=>off+len * s≤cs.length
  |_=>False
 |.str _=>n=1
 |_=>False
theorem dW{es:List AV}{s:Nat}(h:∀e∈es,e.cells.length=s):(es.flatMap AV.cells).length=es.length * s:=by
 induction es<;>grind
theorem mR{es:List AV}{s:Nat}(h:∀e∈es,e.cells.length=s)(k j:Nat)(hj:j<s):(es.flatMap AV.cells)[k * s+j]?=(es[k]?).bind fun e=>e.cells[j]?:=by
 induction es generalizing k with
 |nil=>simp
 |cons e es ih=>
  have he:=h e (by simp)
  rw[zAF];cases k with
  |zero=>grind
  |succ k=>
   grind
theorem qF{c:Ctx}{H:AHeap}{x:AV}{v:Value}{n:Nat}(hst:St c H)(hx:Rep c x v)(hok:oS x n H):
  (Builtin.lenOf v).run P c.w=.ok (cE x) c.w∧(cI x H).length=cE x * n∧
  ∃us:Array Value,(Builtin.firstCells n (cE x) v).run P c.w=.ok us c.w∧us.size=(cI x H).length∧(∀(i:Nat) (y:AV) (u:Value),(cI x H)[i]?=some y→us[i]?=some u→Rep c y u):=by
 cases x<;>simp only[oS]at hok;case sl full es=>
  obtain⟨base,len,cap,s,vs,rfl,rfl,h2,h3,h4,h5,h6⟩:=hx.sl_inv;refine⟨by simp[Builtin.lenOf,cE],by simp only[cI,cE];exact dW hok,?_⟩
  simp only[cI,cE];by_cases hne:es=[]
  ·subst hne;cases base with
   |none=>simp[Builtin.firstCells]
   |some a=>exact⟨#[],by simp[Builtin.firstCells,loadCells,loadCellsFrom],by simp,by simp⟩
  ·obtain⟨a,rfl,a2,a3,a4⟩:=h4 hne;obtain⟨e0,he0⟩:=List.exists_mem_of_ne_nil es hne;have hs:s=n:=by rw[←h5 e0 he0,hok e0 he0]
   subst hs;have hcell:∀m,m<es.length * s→c.w.cell? (a.add m)=some (vs (m / s) (m % s)):=by
    intro m hm;have hs0:0<s:=by
     rcases Nat.eq_zero_or_pos s with h|h
     ·subst h;omega
     ·exact h
    have h7:=a4 (m / s) (m % s) ((Nat.div_lt_iff_lt_mul hs0).2 hm) (Nat.mod_lt _ hs0);rwa[Nat.mul_comm,Nat.div_add_mod]at h7
   refine⟨_,by simp only[Builtin.firstCells];exact run_loadCells (P:=P) c.w a _ (fun m=>vs (m / s) (m % s)) hcell,by simp[dW hok],fun i y u hi hu=>?_⟩
   have hlt:i<es.length * s:=by
    have:=(eT.1 hi).1;rwa[dW hok]at this
   have hs0:0<s:=by
    rcases Nat.eq_zero_or_pos s with h|h
    ·subst h;omega
    ·exact h
   simp[hlt]at hu;subst hu;have h8:=mR hok (i / s) (i % s) (Nat.mod_lt _ hs0);rw[Nat.mul_comm,Nat.div_add_mod]at h8;rw[h8]at hi;cases hk:es[i / s]? with
   |none=>rw[hk]at hi;cases hi
   |some e=>rw[hk]at hi;exact h6 _ _ _ _ hk hi
 case osl s i v off len lc=>
  obtain⟨rfl,hl,hok⟩:=hok;have hv:=wB hst hl;simp only[cI,cE];cases hh:hget H i with
  |cells ver cs=>
   simp only[hh]at hok ⊢;obtain⟨base,cap,rfl,h1,h1',h2,h3⟩:=hx.osl_inv hv;refine⟨by simp[Builtin.lenOf],by simp;omega,?_⟩
   cases hd:c.vd i with
   |true=>
    obtain⟨rfl,rfl⟩:=h2 hd;cases base with
    |none=>exact⟨#[],by simp[Builtin.firstCells],by simp,by simp⟩
    |some a=>exact⟨#[],by simp[Builtin.firstCells,loadCells,loadCellsFrom],by simp,by simp⟩
   |false=>
    obtain⟨p1,m,p2,p3⟩:=h3 hd;rcases p1 with p1|rfl
    ·have h0:len=0:=by omega
     subst h0;cases base with
     |none=>exact⟨#[],by simp[Builtin.firstCells],by simp,by simp⟩
     |some a=>exact⟨#[],by simp[Builtin.firstCells,loadCells,loadCellsFrom],by simp,by simp⟩
    ·obtain⟨_,_,vs,e,fr,hb,hl',hf,hr⟩:=hst.cells hh hd;refine⟨_,by simp only[Builtin.firstCells];exact run_loadCells (P:=P) c.w _ _ (fun j=>vs.getD (off+j) undef) (fun j hj=>by rw[uM,mA hb];simp[show off+j<vs.size by omega]),by simp;omega,fun k y u hk hu=>?_⟩
     rw[List.getElem?_take,List.getElem?_drop]at hk;split at hk
     ·rename_i hlt;simp[hlt]at hu;subst hu;have hlt':=(eT.1 hk).1;refine hr _ _ _ hk ?_;simp[show off+k<vs.size by omega]
     ·cases hk
  |_=>simp[hh]at hok
 case str s=>
  subst hok;rw[hx.str_inv];have e:(Builtin.firstCells 1 (cE (.str s)) (.string ⟨s.toArray⟩)).run P c.w=.ok (s.map fun b=>Value.int .u8 b.toNat).toArray c.w:=by
   simp only[Builtin.firstCells,Sem.run_pure,cE];congr 1;apply Array.ext'
   simp[ByteArray.data_extract,List.map_take]
  refine⟨by simp[Builtin.lenOf,cE,aM9],by simp[cI,cE],_,e,by simp[cI],fun i y u hi hu=>?_⟩
  simp only[cI,zAY,zAy]at hi;obtain⟨b,hb,rfl⟩:=hi;rw[List.getElem?_toArray,zAY,hb]at hu;cases hu;exact .int _ _ (aCx.2 ⟨by omega,by have:=b.toNat_lt;omega⟩)
theorem aLp{w:World}{b:Nat}{vs:Array Value}{e:TypeId}{fr:Nat×Nat}(h:w.heap[b]?=some (.cells vs e fr)):bsize w b=some vs.size:=by simp[bsize,h]
def jP(P:Program)(e:TypeId):Bool:=(P.underlying e).isSome&&(aGN P e).known&&((aGN P e).cells.length==P.cellsOf e)
def jQ(P:Program)(t:TypeId):Bool:=
 match P.underlying t with
 |some (.int _)=>false
 |some _=>true
 |none=>false
def gP(P:Program)(ts tx:TypeId)(s x:AV)(H:AHeap):Res:=
 match P.underlying ts with
 |some (.slice e)=>
  match s with
  |.sl full es=>⟨.osl (P.cellsOf e) H.length 1 0 (es.length+cE x) (es.length+cE x),H++[.cells 1 (es.flatMap AV.cells++cI x H)],
    jP P e=true∧jQ P tx=true∧full=true∧(es=[]∨cE x≠0)∧(∀x∈es,x.cells.length=P.cellsOf e)∧oS x (P.cellsOf e) H∧(es.length+cE x) * P.bytesOf e≤140737488355328∧P.bytesOf e≠0⟩
  |.osl sz i v off len lc=>
   match hget H i with
   |.cells ver cs=>
    if len=lc then
     ⟨.osl sz i (v+1) 0 (len+cE x) (len+cE x),aA H i (.cells (v+1) (cs++cI x H)),
      jP P e=true∧jQ P tx=true∧v=ver∧v≠0∧off=0∧sz=P.cellsOf e∧len * sz=cs.length∧oS x sz H∧(len+cE x) * P.bytesOf e≤140737488355328∧P.bytesOf e≠0∧(cI x H).all AV.one=true⟩
    else
     ⟨.osl sz i v off (len+cE x) lc,aA H i (.cells v (bI cs (off+len * sz) (cI x H))),
      jP P e=true∧jQ P tx=true∧v=ver∧sz=P.cellsOf e∧off+lc * sz≤cs.length∧len+cE x≤lc∧oS x sz H∧(cI x H).all AV.one=true⟩
   |_=>⟨.top,H,False⟩
  |_=>⟨.top,H,False⟩
 |_=>⟨.top,H,False⟩
theorem aGQ{n b:Nat}(h:n * b≤140737488355328)(h0:b≠0):n≤9223372036854775807:=by
 have:=Nat.le_mul_of_pos_right n (Nat.pos_of_ne_zero h0);omega
theorem qG(z:Array Value)(n:Nat):(Builtin.zeroCells z n).size=n * z.size:=by simp[Builtin.zeroCells]
theorem aBp{w:World}{ts tx ty e:TypeId}{s x:Value}{base:Option Addr}{len cap n:Nat}{old new:Array Value}(hu:P.underlying ts=some (.slice e))(hok:jP P e=true)(hni:jQ P tx=true)
  (hn:(Builtin.lenOf x).run P w=.ok n w) (hs:s=.slice base len cap) (hgt:cap<len+n) (hb:(len+n) * P.bytesOf e≤140737488355328) (hb0:P.bytesOf e≠0)
  (hold:(Builtin.firstCells (P.cellsOf e) len s).run P {w with drawn:=w.drawn+1}=.ok old {w with drawn:=w.drawn+1})
  (hnew:(Builtin.firstCells (P.cellsOf e) n x).run P {w with drawn:=w.drawn+1}=.ok new {w with drawn:=w.drawn+1}):
  ∃(nc:Nat) (rest:Array Value),len+n≤nc∧rest.size=(nc-(len+n)) * P.cellsOf e∧
   (Builtin.append_ #[ts,tx] ty #[s,x]).run P w=.ok (.slice (some ⟨w.heap.size,0,none⟩) (len+n) nc) (World.alloc {w with drawn:=w.drawn+1} (.cells (old++new++rest) e)):=by
 simp only[jP,zAc,beq_iff_eq]at hok;obtain⟨⟨h1,h2⟩,h3⟩:=hok;obtain⟨d,hd⟩:=Option.isSome_iff_exists.1 h1;obtain⟨i,hi,hci⟩:=zA hd;obtain⟨z,hz1,hz2⟩:=aGO (P:=P) h2 {w:=w,n:=0,blk:=fun _=>0,ver:=fun _=>0,vd:=fun _=>true,stable:=fun _=>False,base:=(0,[])}
 have hzs:z.cells.size=P.cellsOf e:=by rw[(hz2.cells h2).1,h3]
 have hbytes:i.bytes=P.bytesOf e:=by simp[Program.bytesOf,hi]
 have hnx:∃dx,P.underlying tx=some dx∧(∀k,dx≠.int k):=by
  grind [jQ]
 obtain⟨dx,hdx,hdxi⟩:=hnx;have hzero:(match dx with|.int _=>true|_=>false)=false:=by
  simp_all
 subst hs;have hng:¬(len+n≤cap):=by omega
 have hcap:Builtin.nextslicecap (len+n) cap * i.bytes≤281474976710656:=by rw[hbytes];exact growslice_fits hgt hb
 have hmax:¬(((len+n:Nat):Int)>IntKind.i64.max∧(False∨i.bytes=0)):=by rw[hbytes];simp[hb0]
 let nc:=(len+n)+(w.tape w.drawn (.appendCap (len+n) cap e)) % (2 ^ 63-(len+n))
 refine⟨nc,Builtin.zeroCells z.cells (nc-(len+n)),by omega,by rw[qG,hzs],?_⟩
 have hc1:¬(Builtin.nextslicecap (len+n) cap * i.bytes>281474976710656):=by omega
 have hdec:decide (Builtin.nextslicecap (len+n) cap * i.bytes>281474976710656)=false:=by simpa using hcap
 simp only[World.drew_eq]at hold hnew ⊢;have hnc:(Question.appendCap (len+n) cap e).cut (w.tape w.drawn (.appendCap (len+n) cap e))=nc:=rfl;simp[Builtin.append_,run_underlying hu,oR hd,run_underlying hdx,hn,hng,hb0,typeInfo,hi,hbytes,Question.forced,hold,hnew,hz1,newRow];rw[zAk (by rw[←hbytes];omega),hnc]
theorem aBq{w w':World}{ts tx ty e:TypeId}{x:Value}{base:Option Addr}{len cap n:Nat}{new:Array Value}(hu:P.underlying ts=some (.slice e))(hok:jP P e=true)(hni:jQ P tx=true)
  (hn:(Builtin.lenOf x).run P w=.ok n w) (hle:len+n≤cap) (hnew:(Builtin.firstCells (P.cellsOf e) n x).run P w=.ok new w)
  (hst:∀a,base=some a→(storeCells (a.add (len * P.cellsOf e)) new.toList).run P w=.ok () w') (hw:base=none→w'=w):
  (Builtin.append_ #[ts,tx] ty #[.slice base len cap,x]).run P w=.ok (.slice base (len+n) cap) w':=by
 simp only[jP,zAc,beq_iff_eq]at hok;obtain⟨⟨h1,h2⟩,h3⟩:=hok;obtain⟨d,hd⟩:=Option.isSome_iff_exists.1 h1;have hnx:∃dx,P.underlying tx=some dx∧(∀k,dx≠.int k):=by
  unfold jQ at hni;cases hux:P.underlying tx with
  |none=>rw[hux]at hni;cases hni
  |some dx=>exact⟨dx,rfl,fun k hk=>by rw[hux,hk]at hni;cases hni⟩
 obtain⟨dx,hdx,hdxi⟩:=hnx;have hzero:(match dx with|.int _=>true|_=>false)=false:=by
  cases dx<;>first|rfl|exact absurd rfl (hdxi _)
 cases base with
 |none=>
  rw[hw rfl];simp[Builtin.append_,run_underlying hu,oR hd,run_underlying hdx,hn,hle,hnew]
 |some a=>
  have:=hst a rfl;simp[Builtin.append_,run_underlying hu,oR hd,run_underlying hdx,hn,hle,hnew,this]
def Ctx.void(c:Ctx):Ctx:=
 {w:=c.w,n:=c.n+1,blk:=c.blk,ver:=fun i=>if i=c.n then 1 else c.ver i,vd:=fun i=>if i=c.n then true else c.vd i,stable:=c.stable,base:=c.base}
theorem Ext.void(c:Ctx):Ext c c.void:=
 ⟨zBS _,zAb _,fun _ h=>⟨h,rfl⟩,fun i hi=>by grind [Ctx.void],fun i hi _=>⟨rfl,by simp[Ctx.void,show ¬i=c.n by omega],fun _=>rfl⟩,rfl,rfl,rfl,rfl⟩
theorem St.void{c:Ctx}{H:AHeap}(hst:St c H):St c.void (H++[.cells 1 []]):=by
 have hn:=hst.n;have hi':∀{i:Nat} {b:ABlk},(H++[.cells 1 []])[i]?=some b→c.void.vd i=false→i<c.n∧H[i]?=some b∧c.vd i=false:=by
  intro i b hi hd;have hli:i<H.length+1:=by simpa using(eT.1 hi).1
  simp only[Ctx.void]at hd;grind
 refine⟨hst.gl.mono (Ext.void c),by simp[Ctx.void,hn],fun i hi hd=>?_,fun i j b b' hi hj hb hb' di dj he=>?_,fun k hk=>?_,fun i b hi=>?_⟩
 ·simp only[Ctx.void]at hi hd ⊢;by_cases h:i=c.n
  ·simp[h]at hd
  ·simp only[h,zBd]at hd;exact hst.lt i (by omega) hd
 ·obtain⟨h1,h2,h3⟩:=hi' hi di;obtain⟨g1,g2,g3⟩:=hi' hj dj;exact hst.inj i j b b' h2 g2 hb hb' h3 g3 he
 ·obtain⟨h1,h2⟩:=hst.st k hk;refine⟨h1,fun i b hi hb hd=>?_⟩
  obtain⟨g1,g2,g3⟩:=hi' hi hd;exact h2 i b g2 hb g3
 ·have hli:i<H.length+1:=by simpa using(eT.1 hi).1
  by_cases h:i=c.n
  ·subst h;rw[hn]at hi;simp at hi;subst hi;exact .void 1 (by simp[Ctx.void]) (by simp[Ctx.void])
  ·rw[zAf (by omega)]at hi
   exact(hst.rep i b hi).mono (Ext.void c) (by omega) (fun j hj hv=>by simp[Ctx.void,show ¬j=c.n by omega,hv]) (by simp[Ctx.void,h]) (fun _=>rfl)
def Ctx.rever(c:Ctx)(i:Nat):Ctx:={c with ver:=fun j=>if j=i then c.ver i+1 else c.ver j}
theorem Ext.rever(c:Ctx)(i:Nat):Ext c (c.rever i):=by
 refine⟨zAb _,zAb _,fun _ h=>⟨h,rfl⟩,fun j hj=>?_,fun j hj _=>⟨rfl,rfl,fun _=>rfl⟩,rfl,rfl,rfl,rfl⟩
 grind [Ctx.rever]
theorem St.rebump{c:Ctx}{H:AHeap}(hst:St c H){i ver:Nat}{B B':ABlk}(hi:H[i]?=some B)(hv:ver≠0)(hver:c.ver i=ver)(hB:BRep (c.rever i) i B')(hBl0:B.live:=by trivial):
  Ext c (c.rever i)∧St (c.rever i) (aA H i B'):=by
 have hlt:i<H.length:=(eT.1 hi).1;refine⟨Ext.rever c i,⟨hst.gl.mono (Ext.rever c i),by simp[aA,Ctx.rever,hst.n],hst.lt,fun j k b b' hj hk hb hb' dj dk he=>?_,fun k hk=>⟨(hst.st k hk).1,fun j b hj hb hd=>?_⟩,fun j b hj=>?_⟩⟩
 ·simp only[aA]at hj hk;have h1:∃x,H[j]?=some x∧x.live:=by
   grind
  have h2:∃x,H[k]?=some x∧x.live:=by
   by_cases h:k=i
   ·subst h;exact⟨B,hi,hBl0⟩
   ·rw[zAU (by omega)]at hk;exact⟨b',hk,hb'⟩
  obtain⟨x,x1,x2⟩:=h1;obtain⟨y,y1,y2⟩:=h2;exact hst.inj j k x y x1 y1 x2 y2 dj dk he
 ·simp only[aA]at hj;by_cases h:j=i
  ·subst h;exact(hst.st k hk).2 j B hi hBl0 hd
  ·rw[zAU (by omega)]at hj;exact(hst.st k hk).2 j b hj hb hd
 ·by_cases h:j=i
  ·subst h;simp[aA,hlt]at hj;subst hj;exact hB
  ·simp only[aA]at hj;rw[zAU (by omega)]at hj
   have hjn:j<c.n:=by rw[hst.n];exact(eT.1 hj).1
   refine(hst.rep j b hj).mono (Ext.rever c i) hjn (fun k _ hk0=>?_) (by simp[Ctx.rever,h]) (fun _=>rfl)
   simp only[Ctx.rever];have:k≠i:=fun e=>hv (by rw[←hver,←e];exact hk0)
   simp[this,hk0]
theorem aGR{c:Ctx}{xs ys:List AV}{us vs rest:Array Value}(h1:us.size=xs.length)(h2:∀(i:Nat) (y:AV) (u:Value),xs[i]?=some y→us[i]?=some u→Rep c y u)
  (h3:vs.size=ys.length) (h4:∀(i:Nat) (y:AV) (u:Value),ys[i]?=some y→vs[i]?=some u→Rep c y u) (i:Nat) (y:AV) (u:Value) (hi:(xs++ys)[i]?=some y) (hu:(us++vs++rest)[i]?=some u):Rep c y u:=by
 grind
theorem aEw{c:Ctx}{H:AHeap}{ts tx ty:TypeId}{s x:AV}{vs vx:Value}(hst:St c H)(hsr:Rep c s vs)(hx:Rep c x vx)(hs:(gP P ts tx s x H).s):
  aPN P (Builtin.append_ #[ts,tx] ty #[vs,vx]) c (gP P ts tx s x H).v (gP P ts tx s x H).H:=by
 unfold gP at *;cases hu:P.underlying ts with
 |none=>simp[hu]at hs
 |some dts=>
  cases dts<;>simp only[hu]at hs;case slice e=>
   simp only;cases s<;>simp only at hs;case sl full es=>
    obtain⟨hok,hni,rfl,hz,hes,hsrc,hb,hb0⟩:=hs;simp only;have hsl:oS (.sl true es) (P.cellsOf e) H:=hes;obtain⟨q1,q2,us,q3,q4,q5⟩:=qF (P:=P) hst hx hsrc;obtain⟨base,len,cap,sz,vs',rfl,rfl,g2,g3,g4, -⟩:=hsr.sl_inv;have hcap:=g3 rfl;subst hcap;by_cases hn:cE x=0
    · -- nothing is appended to nothing
      have hes0:es=[]:=hz.resolve_right (fun h=>h hn)
      subst hes0;have hus:us= #[]:=by
       have:us.size=0:=by rw[q4,q2,hn];simp
       exact Array.eq_empty_of_size_eq_zero this
      have hrun:=aBq (P:=P) (w':=c.w) (ty:=ty) (base:=base) (len:=0) (cap:=0) hu hok hni q1 (by omega) q3 (fun a _=>by rw[hus];simp[storeCells]) (fun _=>rfl)
      have hcs:cI x H=[]:=zAu (by rw[q2,hn];simp)
      refine⟨c.void,_,hrun,?_,Ext.void c,?_⟩
      ·rw[hcs];exact hst.void
      ·rw[hn];refine .osl _ _ _ _ _ _ _ (by simp[Ctx.void,hst.n]) (by simp[Ctx.void,hst.n]) rfl (by simp) (fun _ _=>⟨rfl,rfl,base,rfl⟩) (fun _ hd=>by simp[Ctx.void,hst.n]at hd)
    ·obtain⟨-,p2,os',p3,p4,p5⟩:=qF (P:=P) hst.draw (hsr.mono (Ext.draw c)) hsl;obtain⟨-, -,us',r3,r4,r5⟩:=qF (P:=P) hst.draw (hx.mono (Ext.draw c)) hsrc;obtain⟨nc,rest,k1,k2,k3⟩:=aBp (P:=P) (ty:=ty) (w:=c.w) hu hok hni q1 rfl (by omega) hb hb0 p3 r3
     have hS:=hst.draw.push (.cells (os'++us'++rest) e) (B:=.cells 1 (es.flatMap AV.cells++cI x H)) 1 (by
      refine .cells _ _ _ e (0,0) (by simp[Ctx.push]) (by simp[Ctx.push]) (by simp only[Ctx.push,zBy];exact qB _ _) ?_ (.inr (zAb _)) (fun i y u hi hu=>?_)
      ·simp only[zAa,Array.size_append];rw[p4,r4];simp only[cI];omega
      ·exact(aGR p4 p5 r4 r5 i y u hi hu).mono (Ext.push hst.draw _ 1))
     refine⟨_,_,k3,hS,(Ext.draw c).trans (Ext.push hst.draw _ 1),?_⟩;refine .osl _ _ _ _ _ _ _ (by simp[Ctx.push,Ctx.draw,hst.n]) (by simp[Ctx.push,Ctx.draw,hst.n]) rfl (aGQ hb hb0) (fun _ hd=>by simp[Ctx.push,Ctx.draw,hst.n]at hd) (fun _ _=>?_)
     refine⟨_,nc,(os'++us'++rest).size,rfl,zAb _,k1,.inr (by simp[Ctx.push,Ctx.draw,hst.n]),?_,?_⟩
     ·simp only[bsize,Ctx.push,Ctx.draw,hst.n,zBy];have:=qB {c.w with drawn:=c.w.drawn+1} (.cells (os'++us'++rest) e)
      simp only at this;rw[this]
     ·simp only[Array.size_append];rw[p4,r4,k2];have e1:(cI (.sl true es) H).length=es.length * P.cellsOf e:=p2;rw[e1,q2,←zBF,←zBF];have:es.length+cE x+(nc-(es.length+cE x))=nc:=by omega
      rw[this];omega
   case osl sz i v off len lc=>
    simp only;cases hh:hget H i with
    |cells ver cs=>
     simp only[hh]at hs ⊢;by_cases hll:len=lc
     ·rw[zAp hll]at hs ⊢;subst hll;obtain⟨hok,hni,rfl,hv0,rfl,rfl,hlen,hsrc,hb,hb0,hone⟩:=hs;have hver:=hst.ver_eq hh;have hslr:oS (.osl (P.cellsOf e) i v 0 len len) (P.cellsOf e) H:=by
       refine⟨rfl,by simp[mQ,hh],?_⟩
       simp only[hh];omega
      obtain⟨q1,q2,us,q3,q4,q5⟩:=qF (P:=P) hst hx hsrc;obtain⟨base,cap,rfl,g2,g2',g3,g4⟩:=hsr.osl_inv hver;have hi:i<c.n:=by rw[hst.n];exact bC hh trivial
      have hsome:=eS hh trivial;by_cases hroom:len+cE x≤cap
      · -- it fits
        cases hd:c.vd i with
        |true=>
         obtain⟨rfl,rfl⟩:=g3 hd;have hn:cE x=0:=by omega
         have hcs0:cs=[]:=zAu (by omega)
         have hsc:cI x H=[]:=zAu (by rw[q2,hn];simp)
         have hus:us= #[]:=Array.eq_empty_of_size_eq_zero (by rw[q4,q2,hn];simp)
         have hrun:=aBq (P:=P) (w':=c.w) (ty:=ty) (base:=base) (len:=0) (cap:=0) hu hok hni q1 (by omega) q3 (fun a _=>by rw[hus];simp[storeCells]) (fun _=>rfl)
         obtain⟨hx',hs'⟩:=hst.rebump (B':=.cells (v+1) (cs++cI x H)) hsome hv0 hver (by
          rw[hcs0,hsc];exact .void _ (by simp[Ctx.rever,hver]) (by simp[Ctx.rever,hd]))
         refine⟨c.rever i,_,hrun,hs',hx',?_⟩;rw[hn];exact .osl _ _ _ _ _ _ _ hi (by simp[Ctx.rever,hver]) rfl (by omega) (fun _ _=>⟨rfl,rfl,base,rfl⟩) (fun _ hd'=>by simp[Ctx.rever,hd]at hd')
        |false=>
         obtain⟨p1,m,p2,p3⟩:=g4 hd;obtain⟨_,_,vs',e',fr,hb',hl',hf,hr⟩:=hst.cells hh hd;have hm:vs'.size=m:=by simp[bsize,hb']at p2;exact p2
         rcases Nat.eq_zero_or_pos cap with hc0|hcpos
         · -- no room at all: nothing is appended
           subst hc0;have hn:cE x=0:=by omega
           have hl0:len=0:=by omega
           subst hl0;have hsc:cI x H=[]:=zAu (by rw[q2,hn];simp)
           have hus:us= #[]:=Array.eq_empty_of_size_eq_zero (by rw[q4,q2,hn];simp)
           have hrun:=aBq (P:=P) (w':=c.w) (ty:=ty) (base:=base) (len:=0) (cap:=0) hu hok hni q1 (by omega) q3 (fun a _=>by rw[hus];simp[storeCells]) (fun _=>rfl)
           obtain⟨hx',hs'⟩:=hst.rebump (B':=.cells (v+1) (cs++cI x H)) hsome hv0 hver (by
            rw[hsc,zAj];refine .cells _ _ vs' e' fr (by simp[Ctx.rever,hver]) (by simp[Ctx.rever,hd]) (by simpa[Ctx.rever]using hb') hl' hf (fun j y u h1 h2=>(hr j y u h1 h2).mono (Ext.rever c i)))
           refine⟨c.rever i,_,hrun,hs',hx',?_⟩;rw[hn];exact .osl _ _ _ _ _ _ _ hi (by simp[Ctx.rever,hver]) rfl (by omega) (fun _ hd'=>by simp[Ctx.rever,hd]at hd') (fun _ _=>⟨_,0,m,rfl,zAb _,zAb _,.inl rfl,by simpa[Ctx.rever]using p2,by omega⟩)
         ·have hbase:base=some ⟨c.blk i,0,none⟩:=p1.resolve_left (by omega)
          subst hbase;have hmul:(len+cE x) * P.cellsOf e≤cap * P.cellsOf e:=Nat.mul_le_mul_right _ hroom;have hmul':(len+cE x) * P.cellsOf e=len * P.cellsOf e+cE x * P.cellsOf e:=zBF _ _ _;have honeu:∀u∈us.toList,u.oneCell'=true:=by
           intro u hu';obtain⟨k,hk1,hk2⟩:=List.getElem_of_mem hu';simp only[Array.length_toList]at hk1;have hy:(cI x H)[k]?=some ((cI x H)[k]'(by omega)):=zAd (by omega)
           exact(q5 k _ u hy (by rw[←hk2];simp)).one (zAx.1 hone _ (zAK _))
          have hst1:=run_storeCells (P:=P) (w:=c.w) (b:=c.blk i) (off:=len * P.cellsOf e) us.toList hb' (by simp;rw[q4,q2];omega) hf honeu
          have hrun:=aBq (P:=P) (ty:=ty) (base:=some ⟨c.blk i,0,none⟩) (len:=len) (cap:=cap) hu hok hni q1 hroom q3 (fun a ha=>by cases ha;rw[uM,zBn];exact hst1) (fun h=>by cases h)
          obtain⟨hlt,he⟩:=zAW.1 hb';have hvs:(spliceV vs' (len * P.cellsOf e) us.toList).size=vs'.size:=size_spliceV _ _ _;obtain⟨hx',hs'⟩:=hst.bump (B':=.cells (v+1) (cs++cI x H)) hsome trivial (by rw[hver];exact hv0) (World.putCells c.w (c.blk i) (spliceV vs' (len * P.cellsOf e) us.toList) e' fr) (c.blk i) (by simp[World.putCells]) (by simpa[World.putCells]using hlt) (.inr ⟨rfl,hd⟩)
           (fun b _ hne=>heap_putCells_other hne) rfl rfl rfl (by
            refine .cells _ _ (spliceV vs' (len * P.cellsOf e) us.toList) e' fr (by simp[Ctx.bump,hver]) (by simp[Ctx.bump]) (by simp only[Ctx.bump,zBy];exact heap_putCells_same hlt) (by rw[hvs,zAa,q2];omega) (by rw[hvs];exact hf) (fun j y u h1 h2=>?_)
            refine Rep.mono (c:=c) (hst.bump_ext hsome trivial (by rw[hver];exact hv0) _ _ (by simp[World.putCells]) (.inr ⟨rfl,hd⟩) (fun b _ hne=>heap_putCells_other hne) rfl rfl rfl) ?_
            rw[get_spliceV' _ _ _ (cI x H).length (by simpa using q4) (by rw[q2];omega)]at h2
            by_cases hj:j<cs.length
            ·rw[zAf hj]at h1;rw[zAk (by omega)]at h2
             exact hr _ _ _ h1 h2
            ·rw[zAw (by omega)]at h1
             have hlt2:=(eT.1 h1).1;rw[zAp (by omega)]at h2
             rw[hlen]at h2;exact q5 _ _ _ h1 (by simpa using h2))
          refine⟨c.bump i _ _,_,hrun,hs',hx',?_⟩;exact .osl _ _ _ _ _ _ _ hi (by simp[Ctx.bump,hver]) rfl (aGQ hb hb0) (fun _ hd'=>by simp[Ctx.bump]at hd') (fun _ _=>⟨_,cap,m,rfl,zAb _,hroom,.inr (by simp[Ctx.bump]),by rw[←hm,←hvs];exact aLp (by simp only[Ctx.bump,zBy];exact heap_putCells_same hlt),p3⟩)
      · -- a new array
        obtain⟨-,p2,os',p3,p4,p5⟩:=qF (P:=P) hst.draw (hsr.mono (Ext.draw c)) hslr;obtain⟨-, -,us',r3,r4,r5⟩:=qF (P:=P) hst.draw (hx.mono (Ext.draw c)) hsrc;obtain⟨nc,rest,k1,k2,k3⟩:=aBp (P:=P) (ty:=ty) (w:=c.w) hu hok hni q1 rfl (by omega) hb hb0 p3 r3
        have hold:cI (.osl (P.cellsOf e) i v 0 len len) H=cs:=by
         simp only[cI,hh,List.drop_zero];rw[hlen,zAG]
        rw[hold]at p4 p5;obtain⟨hx',hs'⟩:=hst.draw.bump (B':=.cells (v+1) (cs++cI x H)) hsome trivial (by simpa[Ctx.draw,hver]using hv0) (World.alloc {c.w with drawn:=c.w.drawn+1} (.cells (os'++us'++rest) e)) c.w.heap.size (by simp[Ctx.draw]) (by simp) (.inl (by simp[Ctx.draw]))
         (fun b hlt _=>lR (by simpa[Ctx.draw]using hlt)) rfl rfl rfl (by
          refine .cells _ _ _ e (0,0) (by simp[Ctx.bump,Ctx.draw,hver]) (by simp[Ctx.bump]) (by simp only[Ctx.bump,zBy];exact qB _ _) ?_ (.inr (zAb _)) (fun j y u hi hu=>?_)
          ·simp only[zAa,Array.size_append];omega
          ·exact(aGR p4 p5 r4 r5 j y u hi hu).mono (hst.draw.bump_ext hsome trivial (by simpa[Ctx.draw,hver]using hv0) _ _ (by simp[Ctx.draw]) (.inl (by simp[Ctx.draw])) (fun b hlt _=>lR (by simpa[Ctx.draw]using hlt)) rfl rfl rfl))
        refine⟨c.draw.bump i _ _,_,k3,hs',(Ext.draw c).trans hx',?_⟩;refine .osl _ _ _ _ _ _ _ hi (by simp[Ctx.bump,Ctx.draw,hver]) rfl (aGQ hb hb0) (fun _ hd=>by simp[Ctx.bump]at hd) (fun _ _=>?_)
        refine⟨_,nc,(os'++us'++rest).size,rfl,zAb _,k1,.inr (by simp[Ctx.bump]),?_,?_⟩
        ·exact aLp (by simp only[Ctx.bump,zBy];exact qB _ _)
        ·simp only[Array.size_append];rw[p4,r4,k2,q2,←hlen,←zBF,←zBF];have:len+cE x+(nc-(len+cE x))=nc:=by omega
         rw[this];omega
     ·rw[zAk hll]at hs ⊢;obtain⟨hok,hni,rfl,rfl,hlc,hle,hsrc,hone⟩:=hs;have hver:=hst.ver_eq hh;obtain⟨q1,q2,us,q3,q4,q5⟩:=qF (P:=P) hst hx hsrc;obtain⟨base,cap,rfl,g2,g2',g3,g4⟩:=hsr.osl_inv hver;have hi:i<c.n:=by rw[hst.n];exact bC hh trivial
      cases hd:c.vd i with
      |true=>have:=g3 hd;omega
      |false=>
       obtain⟨p1,m,p2,p3⟩:=g4 hd;have hbase:base=some ⟨c.blk i,off,none⟩:=p1.resolve_left (by omega)
       subst hbase;have honeu:∀u∈us.toList,u.oneCell'=true:=by
        intro u hu';obtain⟨k,hk1,hk2⟩:=List.getElem_of_mem hu';simp only[Array.length_toList]at hk1;have hy:(cI x H)[k]?=some ((cI x H)[k]'(by omega)):=zAd (by omega)
        exact(q5 k _ u hy (by rw[←hk2];simp)).one (zAx.1 hone _ (zAK _))
       have hmul:(len+cE x) * P.cellsOf e≤lc * P.cellsOf e:=Nat.mul_le_mul_right _ hle;have hmul':(len+cE x) * P.cellsOf e=len * P.cellsOf e+cE x * P.cellsOf e:=zBF _ _ _;obtain⟨w',hw',hx',hs'⟩:=hst.putCells (P:=P) hh hd (off:=off+len * P.cellsOf e) (ys:=cI x H) (us:=us.toList) (by rw[q2];omega) (by simpa using q4) (fun k y u h1 h2=>q5 k y u h1 (by simpa using h2)) honeu
       have hrun:=aBq (P:=P) (ty:=ty) (base:=some ⟨c.blk i,off,none⟩) (len:=len) (cap:=cap) hu hok hni q1 (by omega) q3 (fun a ha=>by cases ha;rw[uM];exact hw') (fun h=>by cases h)
       refine⟨{c with w:=w'},_,hrun,hs',hx',?_⟩
       refine Rep.mono hx' (.osl _ _ _ _ _ _ _ hi (by rw[hver];exact zAb _) rfl hsr.osl_R (fun _ hd'=>by rw[hd]at hd';cases hd') (fun _ _=>⟨_,cap,m,rfl,hle,g2',.inr rfl,p2,p3⟩))
    |_=>simp[hh]at hs
end
section
variable {P:Program}
def zB(P:Program)(t:TypeId)(l c:AV)(H:AHeap):Res:=
 match P.underlying t,l,c with
 |some (.slice e),.int _ l,.int _ c=>⟨.osl (P.cellsOf e) H.length 1 0 l.toNat c.toNat,H++[.cells 1 ((List.replicate c.toNat (aGN P e)).flatMap AV.cells)],
   jP P e=true∧0≤l∧l≤c∧c≤9223372036854775807∧c.toNat * P.bytesOf e≤140737488355328⟩
 |_,_,_=>⟨.top,H,False⟩
theorem wrap_i64_id{n:Int}(h1: -9223372036854775808≤n)(h2:n≤9223372036854775807):IntKind.i64.wrap n=n:=by
 grind [IntKind.wrap,IntKind.signed,IntKind.bits]
theorem aBr{c:Ctx}{H:AHeap}{t:TypeId}{l k:AV}{vl vk:Value}(hst:St c H)(hl:Rep c l vl)(hk:Rep c k vk)(hs:(zB P t l k H).s):
  aPN P (Instr.makeSlice t vl vk) c (zB P t l k H).v (zB P t l k H).H:=by
 unfold zB at *;split at hs
 ·rename_i e k1 l k2 n hu;obtain⟨hok,h0,hle,hmax,hb⟩:=hs;rw[hl.int_inv,hk.int_inv];simp only[jP,zAc,beq_iff_eq]at hok;obtain⟨⟨q1,q2⟩,q3⟩:=hok;obtain⟨d,hd⟩:=Option.isSome_iff_exists.1 q1;obtain⟨i,hi,hci⟩:=zA hd;obtain⟨z,hz1,hz2⟩:=aGO (P:=P) q2 c;have hzs:z.cells.size=P.cellsOf e:=by rw[(hz2.cells q2).1,q3]
  have hbytes:P.bytesOf e=i.bytes:=by simp[Program.bytesOf,hi]
  have hw1:IntKind.i64.wrap l=l:=wrap_i64_id (by omega) (by omega)
  have hw2:IntKind.i64.wrap n=n:=wrap_i64_id (by omega) (by omega)
  have hn:((n.toNat:Nat):Int)=n:=by omega
  have hbn:(i.bytes:Int) * n≤140737488355328:=by
   grind
  let zc:Array Value:=if n.toNat * P.cellsOf e=0 then #[]else z.cells
  let ws:Array Value:=(Array.range (n.toNat * P.cellsOf e)).map fun k=>zc[k % zc.size]!
  have hrun:(Instr.makeSlice t (.int k1 l) (.int k2 n)).run P c.w=.ok (.slice (some ⟨c.w.heap.size,0,none⟩) l.toNat n.toNat) (c.w.alloc (.cells ws e)):=by
   have c1:(decide (n<0)||decide ((i.bytes:Int) * n>2 ^ 48))=false:=by
    rw[Bool.or_eq_false_iff];exact⟨by simp;omega,by simp;omega⟩
   have c2:((decide (n<0)||decide ((i.bytes:Int) * n>2 ^ 48))||decide (l<0)||decide (l>n))=false:=by
    rw[c1,Bool.false_or,Bool.or_eq_false_iff];exact⟨by simp;omega,by simp;omega⟩
   have hroom:¬(n.toNat * i.bytes>roomBytes):=by
    rw[hbytes]at hb;have:roomBytes=140737488355328:=rfl;omega
   simp only[Instr.makeSlice,Sem.run_bind,run_underlying hu,Result.andThen_ok,asInt,asIntOf,Sem.run_pure,typeInfo,run_program,hi,hw1,hw2,c2,zAr,zBd,askRoom,hroom,oR hd];by_cases hz:n.toNat * P.cellsOf e=0
   ·simp only[hz,zBy,Sem.run_pure,Result.andThen_ok,newRow,Sem.run_bind];simp only[ws,zc,hz,zBy];rfl
   ·simp only[hz,zBd,Sem.run_bind,hz1,Sem.run_pure,Result.andThen_ok,newRow];simp only[ws,zc,hz,zBd];rfl
  have hws:ws.size=n.toNat * P.cellsOf e:=by simp[ws]
  have hcell:∀x∈List.replicate n.toNat (aGN P e),x.cells.length=P.cellsOf e:=fun x hx=>by rw[(List.mem_replicate.1 hx).2];exact q3
  have hlen:=dW hcell;rw[zBu]at hlen;have hS:=hst.push (.cells ws e) (B:=.cells 1 ((List.replicate n.toNat (aGN P e)).flatMap AV.cells)) 1 (by
   refine .cells _ _ ws e (0,0) (by simp[Ctx.push]) (by simp[Ctx.push]) (by simp only[Ctx.push,zBy];exact qB _ _) (by rw[hlen,hws];exact zAb _) (.inr (zAb _)) (fun j y u hj hu=>?_)
   have hjl:j<n.toNat * P.cellsOf e:=by have:=(eT.1 hj).1;omega
   have hs0:0<P.cellsOf e:=Nat.pos_of_ne_zero fun h=>by rw[h,Nat.mul_zero]at hjl;omega
   have hm:j % P.cellsOf e<P.cellsOf e:=Nat.mod_lt _ hs0;have hdiv:j / P.cellsOf e * P.cellsOf e+j % P.cellsOf e=j:=by rw[Nat.mul_comm];exact Nat.div_add_mod _ _
   have h1:=mR hcell (j / P.cellsOf e) (j % P.cellsOf e) hm;rw[hdiv,hj]at h1;have hdl:j / P.cellsOf e<n.toNat:=Nat.div_lt_of_lt_mul (by rw[Nat.mul_comm];exact hjl)
   rw[List.getElem?_replicate,zAp hdl,zAn]at h1;have hzc:zc=z.cells:=zAk (by omega)
   have h2:ws[j]?=some (zc[j % zc.size]!):=by simp only[ws,Array.getElem?_map];rw[zAZ (by simpa using hjl)];simp
   rw[h2,hzc,hzs]at hu;cases hu;refine Rep.mono (Ext.push hst _ 1) ((hz2.cells q2).2 _ _ _ h1.symm ?_);rw[getElem!_pos z.cells (j % P.cellsOf e) (by omega)]
   exact zAZ _)
  refine⟨_,_,hrun,hS,Ext.push hst _ 1,?_⟩;refine .osl _ _ _ _ _ _ _ (by simp[Ctx.push,hst.n]) (by simp[Ctx.push,hst.n]) rfl (by omega) (fun _ hd=>by simp[Ctx.push,hst.n]at hd) (fun _ _=>?_)
  refine⟨_,n.toNat,n.toNat * P.cellsOf e,rfl,by omega,zAb _,.inr (by simp[Ctx.push,hst.n]),?_,by omega⟩
  simp only[bsize,Ctx.push,hst.n,zBy];rw[qB];exact zA5 some hws
 ·exact hs.elim
def aO4(P:Program)(t:TypeId)(d x:AV)(H:AHeap):Res:=
 match P.underlying t,d with
 |some (.slice e),.osl sz i v off len _=>match hget H i with
  |.cells ver cs=>⟨.int .i64 (cE x),aA H i (.cells ver (bI cs off (cI x H))),
    v=ver∧(P.underlying e).isSome=true∧sz=P.cellsOf e∧off+len * sz≤cs.length∧cE x≤len∧oS x sz H∧(cI x H).all AV.one=true⟩
  |_=>⟨.top,H,False⟩
 |_,_=>⟨.top,H,False⟩
theorem acopy_sound{c:Ctx}{H:AHeap}{t u ty:TypeId}{d x:AV}{vd vx:Value}(hst:St c H)(hd:Rep c d vd)(hx:Rep c x vx)(hs:(aO4 P t d x H).s):
  aPN P (Builtin.copy_ #[t,u] ty #[vd,vx]) c (aO4 P t d x H).v (aO4 P t d x H).H:=by
 unfold aO4 at *;split at hs
 ·rename_i e sz i v off len lc hu;cases hh:hget H i with
  |cells ver cs=>
   simp only[hh]at hs ⊢;obtain⟨rfl,hde,rfl,hle,hn,hsrc,hone⟩:=hs;obtain⟨de,hde⟩:=Option.isSome_iff_exists.1 hde;have hver:=hst.ver_eq hh;have hR:=hd.osl_R;obtain⟨q1,q2,us,q3,q4,q5⟩:=qF (P:=P) hst hx hsrc;obtain⟨base,cap,rfl,g2,g2',g3,g4⟩:=hd.osl_inv hver;have hi:i<c.n:=by rw[hst.n];exact bC hh trivial
   have hmin:Nat.min (cE x) len=cE x:=Nat.min_eq_left hn;have hsome:=eS hh trivial;have honeu:∀u∈us.toList,u.oneCell'=true:=by
    intro u hu';obtain⟨k,hk1,hk2⟩:=List.getElem_of_mem hu';simp only[Array.length_toList]at hk1;have hy:(cI x H)[k]?=some ((cI x H)[k]'(by omega)):=zAd (by omega)
    exact(q5 k _ u hy (by rw[←hk2];simp)).one (zAx.1 hone _ (zAK _))
   cases hvd:c.vd i with
   |true=>
    obtain⟨rfl,rfl⟩:=g3 hvd;have hn0:cE x=0:=by omega
    have hsc:cI x H=[]:=zAu (by rw[q2,hn0];simp)
    have hus:us= #[]:=Array.eq_empty_of_size_eq_zero (by rw[q4,hsc];rfl)
    have hcs:bI cs off []=cs:=by simp[bI]
    have hset0:aA H i (.cells v cs)=H:=by
     unfold aA;apply List.ext_getElem?
     intro j;by_cases hj:j=i
     ·subst hj;rw[zA0 (by rw[←hst.n];exact hi),hsome]
     ·rw[zAU (fun q=>hj q.symm)]
    refine⟨c,.int .i64 (cE x),?_,?_,Ext.refl c,.int _ _ (aAG.2 (by omega))⟩
    ·cases base with
     |none=>simp only[Builtin.copy_,List.getElem?_toArray,zBG,zA1,Sem.run_bind,run_underlying hu,Result.andThen_ok,q1,hmin,oR hde,q3,Sem.run_pure,goInt]
     |some a=>simp[Builtin.copy_,List.getElem?_toArray,zBG,zA1,Sem.run_bind,run_underlying hu,Result.andThen_ok,q1,hn0,oR hde,hn0▸q3,Sem.run_pure,goInt,hus,storeCells]
    ·rw[hsc,hcs,hset0];exact hst
   |false=>
    obtain⟨p1,m,p2,p3⟩:=g4 hvd;have hmul:cE x * P.cellsOf e≤len * P.cellsOf e:=Nat.mul_le_mul_right _ hn;obtain⟨w',hw',hx',hs'⟩:=hst.putCells (P:=P) hh hvd (off:=off) (ys:=cI x H) (us:=us.toList) (by rw[q2];omega) (by simpa using q4) (fun k y u h1 h2=>q5 k y u h1 (by simpa using h2)) honeu
    rcases Nat.eq_zero_or_pos cap with hc0|hcpos
    ·have hn0:cE x=0:=by omega
     have hsc:cI x H=[]:=zAu (by rw[q2,hn0];simp)
     have hus:us= #[]:=Array.eq_empty_of_size_eq_zero (by rw[q4,hsc];rfl)
     have hcs:bI cs off []=cs:=by simp[bI]
     have hset0:aA H i (.cells v cs)=H:=by
      unfold aA;apply List.ext_getElem?
      intro j;by_cases hj:j=i
      ·subst hj;rw[zA0 (by rw[←hst.n];exact hi),hsome]
      ·rw[zAU (fun q=>hj q.symm)]
     refine⟨c,.int .i64 (cE x),?_,?_,Ext.refl c,.int _ _ (aAG.2 (by omega))⟩
     ·cases base with
      |none=>simp only[Builtin.copy_,List.getElem?_toArray,zBG,zA1,Sem.run_bind,run_underlying hu,Result.andThen_ok,q1,hmin,oR hde,q3,Sem.run_pure,goInt]
      |some a=>simp only[Builtin.copy_,List.getElem?_toArray,zBG,zA1,Sem.run_bind,run_underlying hu,Result.andThen_ok,q1,hmin,oR hde,q3,hus,storeCells,Sem.run_pure,goInt]
     ·rw[hsc,hcs,hset0];exact hst
    ·have hbase:base=some ⟨c.blk i,off,none⟩:=p1.resolve_left (by omega)
     subst hbase;refine⟨{c with w:=w'},.int .i64 (cE x),?_,hs',hx',.int _ _ (aAG.2 (by omega))⟩
     simp only[Builtin.copy_,List.getElem?_toArray,zBG,zA1,Sem.run_bind,run_underlying hu,Result.andThen_ok,q1,hmin,oR hde,q3,hw',Sem.run_pure,goInt]
  |_=>simp[hh]at hs
 ·exact hs.elim
def aNU(P:Program)(t:TypeId)(d x:AV)(H:AHeap):Res:=
 match d,x with
 |.osl sz i v off len lc,.str s=>aO4 P t (.osl sz i v off len lc) (.str (s.take len)) H
 |d,x=>aO4 P t d x H
theorem copy_str(w:World)(t u ty:TypeId)(base:Option Addr)(len cap:Nat)(s:List UInt8):
  (Builtin.copy_ #[t,u] ty #[.slice base len cap,.string ⟨s.toArray⟩]).run P w=(Builtin.copy_ #[t,u] ty #[.slice base len cap,.string ⟨(s.take len).toArray⟩]).run P w:=by
 have h1:Nat.min (ByteArray.size ⟨s.toArray⟩) len=Nat.min (ByteArray.size ⟨(s.take len).toArray⟩) len:=by
  simp only[ByteArray.size,List.size_toArray,zAX];show min s.length len=min (min len s.length) len;omega
 have h2:((⟨s.toArray⟩:ByteArray).extract 0 (Nat.min (ByteArray.size ⟨(s.take len).toArray⟩) len)).data=((⟨(s.take len).toArray⟩:ByteArray).extract 0 (Nat.min (ByteArray.size ⟨(s.take len).toArray⟩) len)).data:=by
  rw[ByteArray.data_extract,ByteArray.data_extract];apply Array.ext'
  simp only[Array.toList_extract,List.extract_eq_take_drop,List.drop_zero,Nat.sub_zero];rw[List.take_take,Nat.min_eq_left (Nat.min_le_right _ _)]
 simp only[Builtin.copy_,List.getElem?_toArray,zBG,zA1,Builtin.lenOf,Builtin.firstCells,Sem.run_bind,Sem.run_pure];congr 1;funext d w';cases d<;>first|rfl|(simp only[Sem.run_bind,Sem.run_pure,Result.andThen_ok,h1,h2])
theorem acopyS_sound{c:Ctx}{H:AHeap}{t u ty:TypeId}{d x:AV}{vd vx:Value}(hst:St c H)(hd:Rep c d vd)(hx:Rep c x vx)(hs:(aNU P t d x H).s):
  aPN P (Builtin.copy_ #[t,u] ty #[vd,vx]) c (aNU P t d x H).v (aNU P t d x H).H:=by
 unfold aNU at *;split at hs
 ·rename_i sz i v off len lc s;have h0:=hs;unfold aO4 at h0;split at h0
  ·rename_i e sz' i' v' off' len' lc' hu heq;cases heq;cases hh:hget H i with
   |cells ver cs=>
    simp only[hh]at h0;obtain⟨rfl, -⟩:=h0;obtain⟨base,cap,rfl, -⟩:=hd.osl_inv (hst.ver_eq hh);have hR:=hx.str_R;rw[hx.str_inv];have:=acopy_sound (u:=u) (ty:=ty) hst hd (Rep.str (c:=c) (s.take len) (by rw[zAX];omega)) hs
    obtain⟨c',v',r1,r2⟩:=this;exact⟨c',v',by rw[copy_str];exact r1,r2⟩
   |_=>simp[hh]at h0
  ·exact h0.elim
 ·exact acopy_sound hst hd hx hs
def aNV(P:Program)(t:TypeId)(x:AV)(H:AHeap):Res:=
 match P.underlying t,x with
 |some (.slice e),.osl sz i v off len _=>match hget H i with
  |.cells ver cs=>⟨.tup [],aA H i (.cells ver (bI cs off ((List.replicate len (aGN P e)).flatMap AV.cells))),
    v=ver∧jP P e=true∧sz=P.cellsOf e∧off+len * sz≤cs.length∧(aGN P e).cells.all AV.one=true⟩
  |_=>⟨.top,H,False⟩
 |_,_=>⟨.top,H,False⟩
theorem aBs{H:AHeap}{i:Nat}{b:ABlk}(h:H[i]?=some b):aA H i b=H:=by
 unfold aA;apply List.ext_getElem?
 grind
theorem aclear_sound{c:Ctx}{H:AHeap}{t ty:TypeId}{x:AV}{vx:Value}(hst:St c H)(hx:Rep c x vx)(hs:(aNV P t x H).s):
  aPN P (Builtin.clear_ #[t] ty #[vx]) c (aNV P t x H).v (aNV P t x H).H:=by
 unfold aNV at *;split at hs
 ·rename_i e sz i v off len lc hu;cases hh:hget H i with
  |cells ver cs=>
   simp only[hh]at hs ⊢;obtain⟨rfl,hok,rfl,hle,hone⟩:=hs;simp only[jP,zAc,beq_iff_eq]at hok;obtain⟨⟨q1,q2⟩,q3⟩:=hok;obtain⟨de,hde⟩:=Option.isSome_iff_exists.1 q1;obtain⟨z,hz1,hz2⟩:=aGO (P:=P) q2 c;have hzs:z.cells.size=P.cellsOf e:=by rw[(hz2.cells q2).1,q3]
   have hver:=hst.ver_eq hh;obtain⟨base,cap,rfl,g2,g2',g3,g4⟩:=hx.osl_inv hver;have hsome:=eS hh trivial;have hcell:∀x∈List.replicate len (aGN P e),x.cells.length=P.cellsOf e:=fun x hx=>by grind
   have hlen:=dW hcell;rw[zBu]at hlen;rcases Nat.eq_zero_or_pos len with h0|hpos
   ·subst h0;have e0:bI cs off ((List.replicate 0 (aGN P e)).flatMap AV.cells)=cs:=by simp[bI]
    rw[e0,aBs hsome];refine⟨c,.tuple #[],?_,hst,Ext.refl c,.tup [] _ rfl (by simp)⟩
    cases base<;>simp[Builtin.clear_,List.getElem?_toArray,Sem.run_bind,run_underlying hu]
   ·cases hvd:c.vd i with
    |true=>have:=(g3 hvd).1;omega
    |false=>
     obtain⟨p1,m,p2,p3⟩:=g4 hvd;have hbase:base=some ⟨c.blk i,off,none⟩:=p1.resolve_left (by omega)
     subst hbase;have hzl:(Builtin.zeroCells z.cells len).size=len * P.cellsOf e:=by rw[qG,hzs]
     have hget:∀(k:Nat) (y:AV) (u:Value),((List.replicate len (aGN P e)).flatMap AV.cells)[k]?=some y→(Builtin.zeroCells z.cells len).toList[k]?=some u→Rep c y u:=by
      intro k y u hk hu';have hkl:k<len * P.cellsOf e:=by have:=(eT.1 hk).1;omega
      have hs0:0<P.cellsOf e:=Nat.pos_of_ne_zero fun h=>by rw[h,Nat.mul_zero]at hkl;omega
      have hm:k % P.cellsOf e<P.cellsOf e:=Nat.mod_lt _ hs0;have hdiv:k / P.cellsOf e * P.cellsOf e+k % P.cellsOf e=k:=by rw[Nat.mul_comm];exact Nat.div_add_mod _ _
      have h1:=mR hcell (k / P.cellsOf e) (k % P.cellsOf e) hm;rw[hdiv,hk]at h1;have hdl:k / P.cellsOf e<len:=Nat.div_lt_of_lt_mul (by rw[Nat.mul_comm];exact hkl)
      rw[List.getElem?_replicate,zAp hdl,zAn]at h1;have h2:(Builtin.zeroCells z.cells len)[k]?=some (z.cells[k % z.cells.size]!):=by
       simp only[Builtin.zeroCells,Array.getElem?_map];rw[zAZ (by simpa[hzs]using hkl)];simp
      rw[zBo,h2,hzs]at hu';cases hu';refine(hz2.cells q2).2 _ _ _ h1.symm ?_;rw[getElem!_pos z.cells (k % P.cellsOf e) (by omega)]
      exact zAZ _
     obtain⟨w',hw',hx',hs'⟩:=hst.putCells (P:=P) hh hvd (off:=off) (ys:=(List.replicate len (aGN P e)).flatMap AV.cells) (us:=(Builtin.zeroCells z.cells len).toList) (by omega) (by rw[Array.length_toList,hzl,hlen]) hget (by
      intro u hu';obtain⟨k,hk1,hk2⟩:=List.getElem_of_mem hu';have hk1':k<len * P.cellsOf e:=by rw[Array.length_toList,hzl]at hk1;exact hk1
      have hy:((List.replicate len (aGN P e)).flatMap AV.cells)[k]?=some (((List.replicate len (aGN P e)).flatMap AV.cells)[k]'(by omega)):=zAd (by omega)
      refine(hget k _ u hy (by rw[←hk2];exact zAd hk1)).one ?_
      obtain⟨x,hx1,hx2⟩:=List.mem_flatMap.1 (zAK (show k<((List.replicate len (aGN P e)).flatMap AV.cells).length by omega))
      rw[(List.mem_replicate.1 hx1).2]at hx2;exact zAx.1 hone _ hx2)
     obtain⟨n,rfl⟩:∃n,len=n+1:=⟨len-1,by omega⟩
     refine⟨{c with w:=w'},.tuple #[],?_,hs',hx',.tup [] _ rfl (by simp)⟩
     simp[Builtin.clear_,List.getElem?_toArray,Sem.run_bind,run_underlying hu,hz1,hw']
  |_=>simp[hh]at hs
 ·exact hs.elim
def mS(P:Program)(ts tx:TypeId)(s x:AV)(H:AHeap):Res:=
 match s with
 |.sl full (e0::es)=>
  if cE x=0 then
   match P.underlying ts with
   |some (.slice e)=>⟨.sl full (e0::es),H,jP P e=true∧jQ P tx=true∧oS x (P.cellsOf e) H⟩
   |_=>⟨.top,H,False⟩
  else gP P ts tx (.sl full (e0::es)) x H
 |s=>gP P ts tx s x H
theorem aappendZ_sound{c:Ctx}{H:AHeap}{ts tx ty:TypeId}{s x:AV}{vs vx:Value}(hst:St c H)(hsr:Rep c s vs)(hx:Rep c x vx)(hs:(mS P ts tx s x H).s):
  aPN P (Builtin.append_ #[ts,tx] ty #[vs,vx]) c (mS P ts tx s x H).v (mS P ts tx s x H).H:=by
 unfold mS at *;split at hs
 ·rename_i full e0 es;by_cases hn:cE x=0
  ·simp only[zAp hn]at hs ⊢;cases hu:P.underlying ts with
   |none=>simp[hu]at hs
   |some d=>
    cases d<;>simp only[hu]at hs ⊢;case slice e=>
     obtain⟨hok,hni,hsrc⟩:=hs;obtain⟨q1,q2,us,q3,q4,q5⟩:=qF (P:=P) hst hx hsrc;obtain⟨base,len,cap,sz,vs',rfl, -⟩:=hsr.sl_inv;have hle:len≤cap:=by cases hsr;assumption
     have hus:us= #[]:=by
      have:us.size=0:=by rw[q4,q2,hn];simp
      exact Array.eq_empty_of_size_eq_zero this
     have hrun:=aBq (P:=P) (w':=c.w) (ty:=ty) (base:=base) (len:=len) (cap:=cap) hu hok hni q1 (by omega) q3 (fun a _=>by rw[hus];simp[storeCells]) (fun _=>rfl)
     rw[hn,Nat.add_zero]at hrun;exact⟨c,_,hrun,hst,Ext.refl c,hsr⟩
  ·simp only[zAk hn]at hs ⊢;exact aEw hst hsr hx hs
 ·exact aEw hst hsr hx hs
def aNW(P:Program)(t:TypeId)(x:AV)(H:AHeap):Res:=
 match P.underlying t,x with
 |some .string,.str s=>⟨.iter H.length,H++[.siter s 0],True⟩
 |_,_=>⟨.top,H,False⟩
theorem arange_sound{c:Ctx}{H:AHeap}{t:TypeId}{x:AV}{vx:Value}(hst:St c H)(hx:Rep c x vx)(hs:(aNW P t x H).s):
  aPN P (Instr.range t vx) c (aNW P t x H).v (aNW P t x H).H:=by
 unfold aNW at *;split at hs
 ·rename_i s hu;rw[hx.str_inv];have hS:=hst.push (.stringIter ⟨s.toArray⟩ 0) (B:=.siter s 0) 0 (.siter s 0 (by simp[Ctx.push]) (by simp[Ctx.push]) (by grind [Ctx.push,qB]) hx.str_R)
  refine⟨_,.pointer (some ⟨c.w.heap.size,0,none⟩),?_,hS,Ext.push hst _ 0,?_⟩
  ·simp[Instr.range,run_underlying hu,Ctx.push]
  ·exact .iter _ _ (by simp[Ctx.push,hst.n]) rfl (fun _=>by simp[Ctx.push,hst.n])
 ·exact hs.elim
def dR(s:List UInt8)(pos:Nat):Nat×Nat:=Utf8.decode ⟨s.toArray⟩ pos
theorem runeAt_lt(s:List UInt8)(pos:Nat):(dR s pos).1<2147483648:=by
 grind [dR,Utf8.decode,Utf8.runeError]
def aLq(x:AV)(b:Bool)(H:AHeap):Res:=
 match x,b with
 |.iter i,true=>match hget H i with
  |.siter s pos=>if pos<s.length then⟨.tup [.bool true,.int .i64 pos,.int .i32 (dR s pos).1],aA H i (.siter s (pos+(dR s pos).2)),True⟩else⟨.tup [.bool false],H,True⟩
  |_=>⟨.top,H,False⟩
 |_,_=>⟨.top,H,False⟩
theorem rep_tup1{c:Ctx}{x:AV}{u:Value}(h1:Rep c x u):Rep c (.tup [x]) (.tuple #[u]):=
 .tup _ _ rfl fun i z w p q=>by
  grind
theorem rep_tup3{c:Ctx}{x y z:AV}{u v w:Value}(h1:Rep c x u)(h2:Rep c y v)(h3:Rep c z w):Rep c (.tup [x,y,z]) (.tuple #[u,v,w]):=
 .tup _ _ rfl fun i z w p q=>by
  grind
theorem aGS{c:Ctx}{H:AHeap}{x:AV}{vx:Value}{b:Bool}{ty:TypeId}(hst:St c H)(hx:Rep c x vx)(hs:(aLq x b H).s):
  aPN P (Instr.next vx b ty) c (aLq x b H).v (aLq x b H).H:=by
 unfold aLq at *;split at hs
 ·rename_i i;cases hh:hget H i with
  |siter s pos=>
   simp only[hh]at hs ⊢;have hsome:=eS hh trivial;have hin:i<c.n:=by rw[hst.n];exact bC hh trivial
   have hrep:=hst.rep i _ hsome;cases hrep with
   |siter _ _ hv hd hb hsl=>
    cases hx with
    |iter _ _ _ _ hval=>
     obtain⟨-,rfl⟩:=hval hv;have hget:=run_getObj_obj (P:=P) hb (by simp)
     by_cases hp:pos<s.length
     rotate_left
     ·have hn:¬pos<(ByteArray.mk s.toArray).size:=by rw[aM9];exact hp
      simp only[hp,zBd];refine⟨c,.tuple #[.bool false],?_,hst,Ext.refl c,rep_tup1 (.bool _)⟩;simp[Instr.next,hget,hn]
     ·have hn:pos<(ByteArray.mk s.toArray).size:=by rw[aM9];exact hp
      simp only[hp,zBy];obtain⟨hlt',he⟩:=zAW.1 hb;let w':World:={c.w with heap:=c.w.heap.setIfInBounds (c.blk i) (.stringIter ⟨s.toArray⟩ (pos+(dR s pos).2))}
      have hsame:w'.heap[c.blk i]?=some (.stringIter ⟨s.toArray⟩ (pos+(dR s pos).2)):=by simp[w',hlt']
      have hoth:∀b,b≠c.blk i→w'.heap[b]?=c.w.heap[b]?:=fun b hne=>by
       simp only[w'];rw[Array.getElem?_setIfInBounds_ne (fun q=>hne q.symm)]
      obtain⟨hx',hs'⟩:=hst.update (B':=.siter s (pos+(dR s pos).2)) hsome trivial hd w' (by simp[w']) hoth (by simp[bsize,hsame,hb]) rfl rfl rfl (.siter _ _ hv hd hsame hsl)
      refine⟨{c with w:=w'},.tuple #[.bool true,goInt pos,.int .i32 (dR s pos).1],?_,hs',hx',?_⟩
      ·have aA:(setObj (c.blk i) (.stringIter ⟨s.toArray⟩ (pos+(dR s pos).2))).run P c.w=.ok () w':=by
        simp only[setObj,Sem.run,hb,w']
       simp only[dR]at aA;simp[Instr.next,hget,hn,aA,dR]
      ·exact rep_tup3 (.bool _) (.int _ _ (aAG.2 (by omega))) (.int _ _ (aE1.2 (by have:=runeAt_lt s pos;omega)))
  |_=>simp[hh]at hs
 ·exact hs.elim
end
section
variable {P:Program}
def aLr:TypeDesc→AV→Bool
 |.string,.str _=>true
 |.int k,.int k' _=>decide (k'=k)
 |_,_=>false
def oT:AV→AV→Bool
 |.str s,.str t=>decide (s=t)
 |.int _ a,.int _ b=>decide (a=b)
 |_,_=>false
def keyAt(x:AV):List (AV×AV×Nat)→Option (Nat×AV)
 |[]=>none
 |(y,v,_)::es=>bif oT x y then some (0,v)else(keyAt x es).map fun z=>(z.1+1,z.2)
def keysIn(d:TypeDesc)(es:List (AV×AV×Nat)):Prop:=∀p∈es,aLr d p.1=true
theorem isKey_of{c:Ctx}{d:TypeDesc}{x:AV}{v:Value}(hx:Rep c x v)(h:aLr d x=true):MapKept.IsKey d v:=by
 cases d<;>cases x<;>simp[aLr]at h
 ·rename_i k k' n;subst h;rw[hx.int_inv];rfl
 ·rw[hx.str_inv];trivial
theorem sameNow_key{c:Ctx}{d:TypeDesc}{x y:AV}{u v:Value}(hx:Rep c x u)(hy:Rep c y v)(h1:aLr d x=true)(h2:aLr d y=true):Instr.sameNow d u v=some (oT x y):=by
 cases d<;>cases x<;>simp[aLr]at h1<;>cases y<;>simp[aLr]at h2
 ·rename_i k k1 a k2 b;subst h1;subst h2;rw[hx.int_inv,hy.int_inv];simp[Instr.sameNow,oT];rfl
 ·rename_i a b;rw[hx.str_inv,hy.str_inv];show some ((⟨a.toArray⟩:ByteArray)==⟨b.toArray⟩)=_;congr 1;by_cases h:a=b
  ·subst h;rw[oT,zAg rfl];exact(MapKept.bytes_beq _ _).2 rfl
  ·have h2:¬((⟨a.toArray⟩:ByteArray)=⟨b.toArray⟩):=fun e=>h (by simpa using zA5 (fun x:ByteArray=>x.data.toList) e)
   rw[oT,zAh h];exact zBB.2 fun q=>h2 ((MapKept.bytes_beq _ _).1 q)
theorem keyEq_eq{d:TypeDesc}{x y:AV}(h1:aLr d x=true)(h2:aLr d y=true)(h:oT x y=true):x=y:=by
 cases d<;>cases x<;>simp[aLr]at h1<;>cases y<;>simp[aLr]at h2<;>simp[oT]at h
 ·subst h1;subst h2;subst h;rfl
 ·subst h;rfl
theorem findNow_key{c:Ctx}{d:TypeDesc}{x:AV}{u:Value}(hx:Rep c x u)(hk:aLr d x=true):∀(es:List (AV×AV×Nat)) (ents:List MapEntry) (i:Nat),ents.length=es.length→keysIn d es→
  (∀(j:Nat) (p:AV×AV×Nat) (e:MapEntry),es[j]?=some p→ents[j]?=some e→Rep c p.1 e.key∧Rep c p.2.1 e.val∧e.born=p.2.2)→
  match keyAt x es with
  |none=>Instr.findNow d u ents i=some none
  |some (j,y)=>∃v,Instr.findNow d u ents i=some (some (i+j,v))∧Rep c y v∧j<es.length∧(es[j]?).map (·.1)=some x
 |[],[],i,_,_,_=>rfl
 |p::es,e::ents,i,hl,hks,h=>by
  obtain⟨h1,h2,h3⟩:=h 0 p e rfl rfl;have hkp:=hks p (by simp)
  have ih:=findNow_key hx hk es ents (i+1) (by simpa using hl) (fun q hq=>hks q (by simp[hq])) (fun j q f hq hf=>h (j+1) q f (by simpa using hq) (by simpa using hf))
  have hsame:=sameNow_key hx h1 hk hkp;obtain⟨p1,p2,p3⟩:=p;simp only at h1 h2 hkp hsame;cases hb:oT x p1 with
  |true=>
   rw[hb]at hsame;simp only[keyAt,hb,cond_true];exact⟨e.val,by rw[Instr.findNow,hsame];rfl,h2,by simp,by rw[keyEq_eq hk hkp hb];rfl⟩
  |false=>
   rw[hb]at hsame;simp only[keyAt,hb,zCc];have hstep:Instr.findNow d u (e::ents) i=Instr.findNow d u ents (i+1):=by rw[Instr.findNow,hsame]
   grind
def aAJ(P:Program)(t:TypeId):Option (TypeDesc×TypeId):=
 match P.underlying t with
 |some (.map k e)=>match P.underlying k with
  |some .string=>some (.string,e)
  |some (.int q)=>some (.int q,e)
  |_=>none
 |_=>none
def aFa(P:Program)(t:TypeId):TypeDesc:=match aAJ P t with
 |some (d,_)=>d
 |none=>.bool
def aFb(P:Program)(t:TypeId):TypeId:=match aAJ P t with
 |some (_,e)=>e
 |none=>0
theorem mapTy_of{t:TypeId}(h:(aAJ P t).isSome=true):∃k,P.underlying t=some (.map k (aFb P t))∧P.underlying k=some (aFa P t):=by
 grind [Option.isSome_iff_exists,aFb,aFa,aAJ]
def aNX(P:Program)(t:TypeId)(o:Option (Nat×AV))(ok:Bool):BR:=match o with
 |some (_,v)=>⟨bif ok then .tup [v,.bool true]else v,True⟩
 |none=>⟨bif ok then .tup [aGN P (aFb P t),.bool false]else aGN P (aFb P t),(aGN P (aFb P t)).known=true⟩
def aNY(P:Program)(t:TypeId)(k:AV)(ok:Bool):ABlk→BR
 |.map es _=>⟨(aNX P t (keyAt k es) ok).v,keysIn (aFa P t) es∧(aNX P t (keyAt k es) ok).s⟩
 |_=>bad
def aFc(P:Program)(t:TypeId)(x k:AV)(ok:Bool)(H:AHeap):BR:=
 match x with
 |.map i=>⟨(aNY P t k ok (hget H i)).v,(aAJ P t).isSome=true∧aLr (aFa P t) k=true∧(aNY P t k ok (hget H i)).s⟩
 |.nilmap=>⟨(aNX P t none ok).v,(aAJ P t).isSome=true∧aLr (aFa P t) k=true∧(aNX P t none ok).s⟩
 |_=>bad
theorem Rep.map_inv{c:Ctx}{i:Nat}{v:Value}(h:Rep c (.map i) v)(hv:c.ver i=0):v=.map (some (c.blk i)):=by
 cases h with|map _ _ _ _ h=>exact(h hv).2
theorem rep_tup2{c:Ctx}{x y:AV}{u v:Value}(h1:Rep c x u)(h2:Rep c y v):Rep c (.tup [x,y]) (.tuple #[u,v]):=
 .tup _ _ rfl fun i z w p q=>by
  grind
theorem aEx{c:Ctx}{H:AHeap}{t:TypeId}{x k:AV}{vx vk:Value}{ok:Bool}(hst:St c H)(hx:Rep c x vx)(hk:Rep c k vk)(hs:(aFc P t x k ok H).s):
  ∃v,(Instr.lookup t vx vk ok).run P c.w=.ok v c.w∧Rep c (aFc P t x k ok H).v v:=by
 unfold aFc at *;split at hs
 ·rename_i i;obtain⟨hm,hkd,hs⟩:=hs;obtain⟨kt,ht,hkt⟩:=mapTy_of hm;cases hh:hget H i<;>simp only[hh,aNY,bad]at hs ⊢;rename_i es clock;obtain⟨_,hv,_,ents,hb,hl,hr⟩:=hst.map hh;obtain rfl:=hx.map_inv hv;have hck:=MapKept.run_checkKey (P:=P) (w:=c.w) hkt (isKey_of hk hkd) ents.isEmpty 9999;have hf:=findNow_key hk hkd es ents.toList 0 (by simpa using hl) hs.1 (fun j p f hp hf=>hr j p f hp (by simpa using hf))
  replace hs:=hs.2;cases hka:keyAt k es with
  |none=>
   rw[hka]at hs hf;obtain⟨z,hz,hrz⟩:=aGO (P:=P) (t:=aFb P t) hs c;have hfk:=MapKept.run_findKey (P:=P) (w:=c.w) hkt hf;cases ok with
   |true=>exact⟨.tuple #[z,.bool false],by simp[Instr.lookup,run_underlying ht,MapKept.run_getObj_map hb,hck,hfk,hz,Result.andThen],rep_tup2 hrz (.bool false)⟩
   |false=>exact⟨z,by simp[Instr.lookup,run_underlying ht,MapKept.run_getObj_map hb,hck,hfk,hz,Result.andThen],hrz⟩
  |some y=>
   obtain⟨j,v⟩:=y;rw[hka]at hs hf;obtain⟨u,hu,hru,_⟩:=hf;have hfk:=MapKept.run_findKey (P:=P) (w:=c.w) hkt hu;cases ok with
   |true=>exact⟨.tuple #[u,.bool true],by simp[Instr.lookup,run_underlying ht,MapKept.run_getObj_map hb,hck,hfk,Result.andThen],rep_tup2 hru (.bool true)⟩
   |false=>exact⟨u,by simp[Instr.lookup,run_underlying ht,MapKept.run_getObj_map hb,hck,hfk,Result.andThen],hru⟩
 ·obtain⟨hm,hkd,hs⟩:=hs;obtain⟨kt,ht,hkt⟩:=mapTy_of hm;cases hx;have hck:=MapKept.run_checkKey (P:=P) (w:=c.w) hkt (isKey_of hk hkd) true 9999;have hfk:=MapKept.run_findKey (P:=P) (w:=c.w) (k:=vk) (l:=[]) (a:=none) hkt rfl;obtain⟨z,hz,hrz⟩:=aGO (P:=P) (t:=aFb P t) hs c;cases ok with
  |true=>exact⟨.tuple #[z,.bool false],by simp[Instr.lookup,run_underlying ht,hck,hfk,hz,Result.andThen],rep_tup2 hrz (.bool false)⟩
  |false=>exact⟨z,by simp[Instr.lookup,run_underlying ht,hck,hfk,hz,Result.andThen],hrz⟩
 ·exact hs.elim
def aCC(H:AHeap):Res:=⟨.map H.length,H++[.map [] 0],True⟩
theorem aCD{c:Ctx}{H:AHeap}{t:TypeId}(hst:St c H):aPN P (Instr.makeMap t none) c (aCC H).v (aCC H).H:=by
 have hS:=hst.push (.map #[] 0) (B:=.map [] 0) 0 (.map [] 0 #[] (by simp[Ctx.push]) (by simp[Ctx.push]) (by grind [Ctx.push,qB]) rfl (fun j p e h=>by simp at h))
 refine⟨_,.map (some c.w.heap.size),?_,hS,Ext.push hst _ 0,?_⟩
 ·simp[Instr.makeMap,Ctx.push]
 ·exact .map _ _ (by simp[Ctx.push,hst.n]) rfl (fun _=>by simp[Ctx.push,hst.n])
def nS(x v:AV)(es:List (AV×AV×Nat))(clock:Nat):List (AV×AV×Nat):=
 match keyAt x es with
 |some (j,_)=>es.modify j fun p=>(x,v,p.2.2)
 |none=>es++[(x,v,clock)]
def jD(x:AV)(es:List (AV×AV×Nat))(clock:Nat):Nat:=match keyAt x es with|some _=>clock|none=>clock+1
theorem mapTurn{c:Ctx}{H:AHeap}{i:Nat}{es:List (AV×AV×Nat)}{clock:Nat}(hst:St c H)(hh:hget H i=.map es clock)(es':List (AV×AV×Nat))(clock':Nat)(ents':Array MapEntry)(hl':ents'.size=es'.length)
  (hr':∀(j:Nat) (p:AV×AV×Nat) (f:MapEntry),es'[j]?=some p→ents'[j]?=some f→Rep c p.1 f.key∧Rep c p.2.1 f.val∧f.born=p.2.2):
  Ext c {c with w:={c.w with heap:=c.w.heap.setIfInBounds (c.blk i) (.map ents' clock')}}∧St {c with w:={c.w with heap:=c.w.heap.setIfInBounds (c.blk i) (.map ents' clock')}} (aA H i (.map es' clock')):=by
 obtain⟨hin,hv,hd,ents,hb,hl,hr⟩:=hst.map hh;have hsome:=eS hh trivial;obtain⟨hlt',he⟩:=zAW.1 hb;let w':World:={c.w with heap:=c.w.heap.setIfInBounds (c.blk i) (.map ents' clock')}
 have hsame:w'.heap[c.blk i]?=some (.map ents' clock'):=by simp[w',hlt']
 have hoth:∀b,b≠c.blk i→w'.heap[b]?=c.w.heap[b]?:=fun b hne=>by
  grind
 have hbs:bsize w' (c.blk i)=bsize c.w (c.blk i):=by simp[bsize,hsame,hb]
 have hx:Ext c {c with w:=w'}:=by
  refine⟨zAb _,by simp[w'],fun b hb'=>⟨hb',hoth b fun e=>(hst.st b hb').2 i _ hsome trivial hd e.symm⟩,fun _ _=>zAb _,fun j hj _=>⟨rfl,rfl,fun _=>?_⟩,rfl,rfl,rfl,rfl⟩
  by_cases h:c.blk j=c.blk i
  ·simp only[h];exact hbs
  ·simp only[bsize];rw[hoth _ h]
 exact hst.update (B':=.map es' clock') hsome trivial hd w' (by simp[w']) hoth hbs rfl rfl rfl (.map _ _ ents' hv hd hsame hl' fun j p f hp hf=>by
  obtain⟨q1,q2,q3⟩:=hr' j p f hp hf;exact⟨q1.mono hx,q2.mono hx,q3⟩)
def aO5(P:Program)(t:TypeId)(k v:AV)(H:AHeap)(i:Nat):ABlk→Res
 |.map es clock=>⟨.top,aA H i (.map (nS k v es clock) (jD k es clock)),keysIn (aFa P t) es⟩
 |_=>⟨.top,H,False⟩
def fR(P:Program)(t:TypeId)(x k v:AV)(H:AHeap):Res:=
 match x with
 |.map i=>⟨.top,(aO5 P t k v H i (hget H i)).H,(aAJ P t).isSome=true∧aLr (aFa P t) k=true∧(aO5 P t k v H i (hget H i)).s⟩
 |_=>⟨.top,H,False⟩
theorem nT{c:Ctx}{H:AHeap}{t:TypeId}{x k v:AV}{vx vk vv:Value}(hst:St c H)(hx:Rep c x vx)(hk:Rep c k vk)(hvv:Rep c v vv)(hs:(fR P t x k v H).s):
  ∃c',(Instr.mapUpdate t vx vk vv).run P c.w=.ok () c'.w∧St c' (fR P t x k v H).H∧Ext c c':=by
 unfold fR at *;split at hs
 ·rename_i i;obtain⟨hm,hkd,hs⟩:=hs;obtain⟨kt,ht,hkt⟩:=mapTy_of hm;cases hh:hget H i<;>simp only[hh,aO5]at hs ⊢;rename_i es clock;obtain⟨hin,hv,hd,ents,hb,hl,hr⟩:=hst.map hh;obtain rfl:=hx.map_inv hv;have hkey:=isKey_of hk hkd;have hck:=MapKept.run_checkKey (P:=P) (w:=c.w) hkt hkey false 9999;have hf:=findNow_key hk hkd es ents.toList 0 (by simpa using hl) hs (fun j p f hp hf=>hr j p f hp (by simpa using hf))
  unfold nS jD;cases hka:keyAt k es with
  |none=>
   rw[hka]at hf;have hfk:=MapKept.run_findKey (P:=P) (w:=c.w) hkt hf;obtain⟨k1,k2⟩:=mapTurn hst hh (es++[(k,v,clock)]) (clock+1) (ents.push {key:=vk,val:=vv,born:=clock}) (by simp[hl]) (fun j p f hp hf'=>by
    grind)
   exact⟨_,by simp[Instr.mapUpdate,run_underlying ht,MapKept.run_getObj_map hb,hck,hfk,MapKept.run_setObj_map _ hb,Result.andThen],k2,k1⟩
  |some y=>
   obtain⟨j,y⟩:=y;rw[hka]at hf;obtain⟨u,hu,hru,hj,hkj⟩:=hf;have hfk:=MapKept.run_findKey (P:=P) (w:=c.w) hkt hu;have hje:j<ents.size:=by omega
   rw[zBn]at hfk;have hee:ents[j]?=some ents[j]:=zAZ hje;have hpj:es[j]?=some es[j]:=zAd hj;have hkey2:ents[j].key=vk:=by
    have h1:=(hr j _ _ hpj hee).1;rw[hpj]at hkj;simp only[zBL,zBM]at hkj;rw[hkj]at h1;cases hd':aFa P t<;>rw[hd']at hkd<;>cases k<;>simp[aLr]at hkd
    ·exact h1.int_inv.trans hk.int_inv.symm
    ·exact h1.str_inv.trans hk.str_inv.symm
   have hkeep:=MapKept.run_keyThatStays (P:=P) (w:=c.w) hkey;obtain⟨k1,k2⟩:=mapTurn hst hh (es.modify j fun p=>(k,v,p.2.2)) clock (ents.modify j fun e=>{e with key:=vk,val:=vv}) (by simp[hl]) (fun q p f hp hf'=>by
    by_cases hq:q=j
    ·subst hq;rw[List.getElem?_modify_eq,hpj]at hp;rw[Array.getElem?_modify,zAp rfl,hee]at hf';cases hp;cases hf';exact⟨hk,hvv,(hr q _ _ hpj hee).2.2⟩
    ·rw[List.getElem?_modify_ne _ _ (fun e=>hq e.symm)]at hp
     rw[Array.getElem?_modify,zAk (fun e=>hq e.symm)]at hf'
     exact hr q p f hp hf')
   exact⟨_,by simp[Instr.mapUpdate,run_underlying ht,MapKept.run_getObj_map hb,hck,hfk,hee,hkey2,hkeep,MapKept.run_setObj_map _ hb,Result.andThen],k2,k1⟩
 ·exact hs.elim
def delKey(x:AV)(es:List (AV×AV×Nat)):List (AV×AV×Nat):=match keyAt x es with
 |some (j,_)=>es.eraseIdx j
 |none=>es
def aO6(P:Program)(t:TypeId)(k:AV)(H:AHeap)(i:Nat):ABlk→Res
 |.map es clock=>⟨.tup [],aA H i (.map (delKey k es) clock),keysIn (aFa P t) es⟩
 |_=>⟨.top,H,False⟩
def aNa(P:Program)(t:TypeId)(x k:AV)(H:AHeap):Res:=
 match x with
 |.map i=>⟨.tup [],(aO6 P t k H i (hget H i)).H,(aAJ P t).isSome=true∧aLr (aFa P t) k=true∧(aO6 P t k H i (hget H i)).s⟩
 |_=>⟨.top,H,False⟩
theorem rep_tup0(c:Ctx):Rep c (.tup []) (.tuple #[]):=.tup _ _ rfl fun i x v h=>by simp at h
theorem adelete_sound{c:Ctx}{H:AHeap}{t u ty:TypeId}{x k:AV}{vx vk:Value}(hst:St c H)(hx:Rep c x vx)(hk:Rep c k vk)(hs:(aNa P t x k H).s):
  aPN P (Builtin.delete_ #[t,u] ty #[vx,vk]) c (aNa P t x k H).v (aNa P t x k H).H:=by
 unfold aNa at *;split at hs
 ·rename_i i;obtain⟨hm,hkd,hs⟩:=hs;obtain⟨kt,ht,hkt⟩:=mapTy_of hm;cases hh:hget H i<;>simp only[hh,aO6]at hs ⊢;rename_i es clock;obtain⟨hin,hv,hd,ents,hb,hl,hr⟩:=hst.map hh;obtain rfl:=hx.map_inv hv;have hck:=MapKept.run_checkKey (P:=P) (w:=c.w) hkt (isKey_of hk hkd) ents.isEmpty 9999;have hf:=findNow_key hk hkd es ents.toList 0 (by simpa using hl) hs (fun j p f hp hf=>hr j p f hp (by simpa using hf))
  unfold delKey;cases hka:keyAt k es with
  |none=>
   rw[hka]at hf;have hfk:=MapKept.run_findKey (P:=P) (w:=c.w) hkt hf;obtain⟨k1,k2⟩:=mapTurn hst hh es clock ents hl hr;exact⟨_,.tuple #[],by simp[Builtin.delete_,run_underlying ht,MapKept.run_getObj_map hb,hck,hfk,MapKept.run_setObj_map _ hb,Result.andThen],k2,k1,rep_tup0 _⟩
  |some y=>
   obtain⟨j,y⟩:=y;rw[hka]at hf;obtain⟨u',hu,hru,hj,hkj⟩:=hf;have hfk:=MapKept.run_findKey (P:=P) (w:=c.w) hkt hu;rw[zBn]at hfk;have hje:j<ents.size:=by omega
   obtain⟨k1,k2⟩:=mapTurn hst hh (es.eraseIdx j) clock (ents.eraseIdxIfInBounds j) (by simp[Array.eraseIdxIfInBounds,hje,List.length_eraseIdx,hj,hl]) (fun q p f hp hf'=>by
    have e1:(ents.eraseIdxIfInBounds j)[q]?=(ents.toList.eraseIdx j)[q]?:=by
     rw[Array.eraseIdxIfInBounds,dif_pos hje,←zBo,Array.toList_eraseIdx]
    rw[e1]at hf';rw[List.getElem?_eraseIdx]at hp hf';split at hp
    ·rename_i h;rw[zAp h]at hf';exact hr q p f hp (by simpa using hf')
    ·rename_i h;rw[zAk h]at hf';exact hr (q+1) p f hp (by simpa using hf'))
   exact⟨_,.tuple #[],by simp[Builtin.delete_,run_underlying ht,MapKept.run_getObj_map hb,hck,hfk,MapKept.run_setObj_map _ hb,Result.andThen],k2,k1,rep_tup0 _⟩
 ·exact hs.elim
def aO7(H:AHeap)(i:Nat):ABlk→Res
 |.map _ clock=>⟨.tup [],aA H i (.map [] clock),True⟩
 |_=>⟨.top,H,False⟩
def aNb(P:Program)(t:TypeId)(x:AV)(H:AHeap):Res:=
 match x with
 |.map i=>⟨.tup [],(aO7 H i (hget H i)).H,(aAJ P t).isSome=true∧(aO7 H i (hget H i)).s⟩
 |x=>aNV P t x H
theorem aclearM_sound{c:Ctx}{H:AHeap}{t ty:TypeId}{x:AV}{vx:Value}(hst:St c H)(hx:Rep c x vx)(hs:(aNb P t x H).s):
  aPN P (Builtin.clear_ #[t] ty #[vx]) c (aNb P t x H).v (aNb P t x H).H:=by
 unfold aNb at *;split at hs
 ·rename_i i;obtain⟨hm,hs⟩:=hs;obtain⟨kt,ht,hkt⟩:=mapTy_of hm;cases hh:hget H i<;>simp only[hh,aO7]at hs ⊢;rename_i es clock;obtain⟨hin,hv,hd,ents,hb,hl,hr⟩:=hst.map hh;obtain rfl:=hx.map_inv hv;obtain⟨k1,k2⟩:=mapTurn hst hh [] clock #[] rfl (fun q p f hp=>by simp at hp)
  exact⟨_,.tuple #[],by simp[Builtin.clear_,run_underlying ht,MapKept.run_getObj_map hb,MapKept.run_setObj_map _ hb,Result.andThen],k2,k1,rep_tup0 _⟩
 ·exact aclear_sound hst hx hs
def aO8(H:AHeap)(i:Nat):ABlk→Res
 |.map _ clock=>⟨.iter H.length,H++[.miter i clock [] clock],True⟩
 |_=>⟨.top,H,False⟩
def aFd(P:Program)(t:TypeId)(x:AV)(H:AHeap):Res:=
 match x with
 |.map i=>⟨.iter H.length,(aO8 H i (hget H i)).H,(aAJ P t).isSome=true∧(aO8 H i (hget H i)).s⟩
 |x=>aNW P t x H
theorem aEy{c:Ctx}{H:AHeap}{t:TypeId}{x:AV}{vx:Value}(hst:St c H)(hx:Rep c x vx)(hs:(aFd P t x H).s):
  aPN P (Instr.range t vx) c (aFd P t x H).v (aFd P t x H).H:=by
 unfold aFd at *;split at hs
 ·rename_i i;obtain⟨hm,hs⟩:=hs;obtain⟨kt,ht,hkt⟩:=mapTy_of hm;cases hh:hget H i<;>simp only[hh,aO8]at hs ⊢;rename_i es clock;obtain⟨hin,hv,hd,ents,hb,hl,hr⟩:=hst.map hh;obtain rfl:=hx.map_inv hv;have hS:=hst.push (.mapIter (some (c.blk i)) clock #[] clock) (B:=.miter i clock [] clock) 0
   (.miter i clock [] clock (by simp[Ctx.push]) (by simp[Ctx.push]) (by simp[Ctx.push];omega) (by grind [Ctx.push]) (by simp[Ctx.push,show ¬i=c.n by omega,hd])
    (by simp only[Ctx.push,zBy,zAk (show ¬i=c.n by omega)];exact qB _ _))
  refine⟨_,.pointer (some ⟨c.w.heap.size,0,none⟩),?_,hS,Ext.push hst _ 0,?_⟩
  ·simp[Instr.range,run_underlying ht,MapKept.run_getObj_map hb,Ctx.push,Result.andThen]
  ·exact .iter _ _ (by simp[Ctx.push,hst.n]) rfl (fun _=>by simp[Ctx.push,hst.n])
 ·exact arange_sound hst hx hs
def zC(es:List (AV×AV×Nat))(seen:List Nat):List (AV×AV×Nat):=es.filter fun p=> !seen.contains p.2.2
def aGT(x:AV)(H:AHeap)(K:AV→AHeap→Prop):Prop:=
 ∃i m since seen stepped es clock,x=.iter i∧hget H i=.miter m since seen stepped∧hget H m=.map es clock∧(∀p∈es,p.2.2<stepped∧p.2.2<since)∧
  (zC es seen=[]→K (.tup [.bool false]) H)∧∀p∈zC es seen,K (.tup [.bool true,p.1,p.2.1]) (aA H i (.miter m since (seen++[p.2.2]) clock))
theorem run_choose_some(w:World)(q:Question):∃j w',(choose q).run P w=.ok j w'∧(w'=w∨w'={w with drawn:=w.drawn+1})∧(j=0∨∃a,j=q.cut a):=by
 rw[run_choose];split
 ·grind
 grind
theorem aFe{c:Ctx}{H:AHeap}{ty:TypeId}{x:AV}{vx:Value}{K:AV→AHeap→Prop}(hst:St c H)(hx:Rep c x vx)(h:aGT x H K):
  ∃c' v x' H',(Instr.next vx false ty).run P c.w=.ok v c'.w∧St c' H'∧Ext c c'∧Rep c' x' v∧K x' H':=by
 obtain⟨i,m,since,seen,stepped,es,clock,rfl,hi,hm,hold,h0,h1⟩:=h;obtain⟨hin,hv,hd,ents,hb,hl,hr⟩:=hst.map hm;have hsome:=eS hi trivial;have hrep:=hst.rep i _ hsome;cases hrep with
 |miter _ _ _ _ iv idd imn imv imd ih=>
  cases hx with
  |iter _ _ _ _ hval=>
   obtain⟨-,rfl⟩:=hval iv;have hget:=run_getObj_obj (P:=P) ih (by simp)
   have hent:∀e∈ents,e.born<stepped∧e.born<since:=by
    intro e he;obtain⟨j,hj⟩:=Array.getElem?_of_mem he;have hjl:=(zAW.1 hj).1;have hp:es[j]?=some (es[j]'(by omega)):=zAd (by omega)
    obtain⟨-, -,q⟩:=hr j _ e hp hj;rw[q];exact hold _ (zAA hp)
   have hnot:(!seen.toArray.isEmpty&& !ents.isEmpty&&ents.all fun e=>decide (e.born≥stepped))=false:=by
    by_cases hem:ents= #[]
    ·simp[hem]
    ·obtain⟨e,he⟩:=Array.exists_mem_of_ne_empty _ hem;have:=(hent e he).1;have hall:(ents.all fun e=>decide (e.born≥stepped))=false:=by
      rw[zBB];intro q;have:=Array.all_eq_true'.1 q e he;simp at this;omega
     rw[hall,Bool.and_false]
   obtain⟨left,hleft⟩:∃left,ents.filter (fun e=> !seen.toArray.contains e.born)=left:=⟨_,rfl⟩
   have hold':left.filter (fun e=>decide (e.born<since))=left:=by
    rw[Array.filter_eq_self];intro e he;rw[←hleft,Array.mem_filter]at he;exact zAg (hent e he.1).2
   have hnew:left.filter (fun e=>decide (e.born≥since))= #[]:=by
    rw[Array.filter_eq_empty_iff];intro e he;rw[←hleft,Array.mem_filter]at he;have:=(hent e he.1).2;simp;omega
   have hlm:∀e,e∈left→∃p∈zC es seen,Rep c p.1 e.key∧Rep c p.2.1 e.val∧e.born=p.2.2:=by
    intro e he;rw[←hleft,Array.mem_filter]at he;obtain⟨he,hs⟩:=he;obtain⟨j,hj⟩:=Array.getElem?_of_mem he;have hjl:=(zAW.1 hj).1;have hp:es[j]?=some (es[j]'(by omega)):=zAd (by omega)
    obtain⟨q1,q2,q3⟩:=hr j _ e hp hj;refine⟨_,List.mem_filter.2 ⟨zAA hp,?_⟩,q1,q2,q3⟩;rw[←q3];simpa using hs
   have hl0:left= #[]→zC es seen=[]:=by
    intro e;rw[List.eq_nil_iff_forall_not_mem];intro p hp;obtain⟨hp,hs⟩:=List.mem_filter.1 hp;obtain⟨j,hj⟩:=List.getElem?_of_mem hp;have hjl:=(eT.1 hj).1;have he:ents[j]?=some (ents[j]'(by omega)):=zAZ (by omega)
    obtain⟨-, -,q3⟩:=hr j p _ hj he;have:ents[j]'(by omega)∈left:=by
     rw[←hleft,Array.mem_filter];refine⟨Array.getElem_mem _,?_⟩;rw[q3];simpa using hs
    rw[e]at this;simp at this
   have hstep:∀w',(w'=c.w∨w'={c.w with drawn:=c.w.drawn+1})→∃c0:Ctx,c0.w=w'∧St c0 H∧Ext c c0∧c0.blk=c.blk∧(∀b:Nat,c0.w.heap[b]?=c.w.heap[b]?)∧c0.ver=c.ver∧c0.vd=c.vd∧c0.n=c.n:=by
    rintro w' (rfl|rfl)
    ·exact⟨c,rfl,hst,Ext.refl c,rfl,fun _=>rfl,rfl,rfl,rfl⟩
    ·exact⟨c.draw,rfl,hst.draw,Ext.draw c,rfl,fun _=>rfl,rfl,rfl,rfl⟩
   by_cases hle:left= #[]
   ·have hf:(Question.mapNext 1).forced=true:=by simp[Question.forced]
    refine⟨c,.tuple #[.bool false],.tup [.bool false],H,?_,hst,Ext.refl c,rep_tup1 (.bool _),h0 (hl0 hle)⟩;rw[hle]at hleft;simp only[Instr.next,hget,Sem.run_bind,Result.andThen_ok,MapKept.run_getObj_map hb,hnot,zAr,zBd,hleft];simp[hf]
   ·obtain⟨n,hn⟩:∃n,left.size=n+1:=⟨left.size-1,by have:left.size≠0:=fun q=>hle (Array.eq_empty_of_size_eq_zero q);omega⟩
    obtain⟨j,w',hch,hw',hj⟩:=run_choose_some (P:=P) c.w (.mapNext left.size);have hjlt:j<left.size:=by
     rw[run_choose]at hch;split at hch
     ·cases hch;omega
     ·cases hch;rename_i hf;simp only[Question.cut];exact Nat.mod_lt _ (by omega)
    have hje:left[j]?=some left[j]:=zAZ hjlt;obtain⟨p,hp,q1,q2,q3⟩:=hlm left[j] (Array.getElem_mem _);obtain⟨c0,e1,e2,e3,e4,e5,e6,e7,e8⟩:=hstep w' hw';have hb0:c0.w.heap[c0.blk i]?=some (.mapIter (some (c.blk m)) since seen.toArray stepped):=by rw[e4,e5];exact ih
    obtain⟨hlt',he⟩:=zAW.1 hb0;let o':Obj:=.mapIter (some (c.blk m)) since (seen++[p.2.2]).toArray clock
    let w2:World:={c0.w with heap:=c0.w.heap.setIfInBounds (c0.blk i) o'}
    have hsame:w2.heap[c0.blk i]?=some o':=by simp[w2,hlt']
    have hoth:∀b,b≠c0.blk i→w2.heap[b]?=c0.w.heap[b]?:=fun b hne=>by
     simp only[w2];rw[Array.getElem?_setIfInBounds_ne (fun q=>hne q.symm)]
    obtain⟨hx',hs'⟩:=e2.update (B':=.miter m since (seen++[p.2.2]) clock) hsome trivial (by rw[e7];exact idd) w2 (by simp[w2]) hoth (by simp[bsize,hsame,hb0,o']) rfl rfl rfl
     (.miter m since (seen++[p.2.2]) clock (by rw[e6];exact iv) (by rw[e7];exact idd) (by rw[e8];exact imn) (by rw[e6];exact imv) (by rw[e7];exact imd) (by rw[hsame,e4]))
    refine⟨{c0 with w:=w2},.tuple #[.bool true,left[j].key,left[j].val],.tup [.bool true,p.1,p.2.1],_,?_,hs',e3.trans hx',rep_tup3 (.bool _) ((q1.mono e3).mono hx') ((q2.mono e3).mono hx'),h1 p hp⟩
    have aA:(setObj (c.blk i) o').run P w'=.ok () w2:=by
     rw[←e1,←e4];simp only[setObj,Sem.run,hb0,w2]
    have hne:¬left.isEmpty=true:=by simpa using hle
    have ho':(Obj.mapIter (some (c.blk m)) since (seen.toArray.push left[j].born) clock)=o':=by simp[o',q3]
    simp only[Instr.next,hget,Sem.run_bind,Result.andThen_ok,MapKept.run_getObj_map hb,hnot,zAr,zBd,hleft,hold',hnew,zAk hne,Array.append_empty,Array.empty_append,Array.size_map,hch,Array.getElem?_map,hje,zBL,ho',aA,Sem.run_pure]
def aPQ(P:Program)(t:TypeId)(x:AV):BR:=
 match x,P.underlying t with
 |.sl true es,some (.slice _)=>⟨.int .i64 es.length,True⟩
 |_,_=>bad
theorem acap_sound{c:Ctx}{t ty:TypeId}{x:AV}{vx:Value}(hx:Rep c x vx)(hs:(aPQ P t x).s):∃v,(Builtin.cap_ #[t] ty #[vx]).run P c.w=.ok v c.w∧Rep c (aPQ P t x).v v:=by
 unfold aPQ at *;split at hs
 ·rename_i es e hu;have hR:=hx.sl_R;obtain⟨base,len,cap,s,vs,rfl,rfl,g2,g3, -⟩:=hx.sl_inv;have hcap:=g3 rfl;subst hcap;exact⟨.int .i64 es.length,by simp[Builtin.cap_,run_underlying hu,goInt],.int _ _ (aAG.2 (by omega))⟩
 ·exact hs.elim
def aNZ(P:Program)(t:TypeId):Bool:=match P.underlying t with
 |some (.int _)=>true
 |_=>false
def aLs(P:Program)(ts tx:TypeId)(s x:AV)(H:AHeap):Res:=
 match x with
 |.int k n=>match s,P.underlying ts with
  |.sl true [],some (.slice e)=>⟨.osl (P.cellsOf e) H.length 1 0 n.toNat n.toNat,H++[.cells 1 ((List.replicate n.toNat (aGN P e)).flatMap AV.cells)],
    k=.i64∧aNZ P tx=true∧jP P e=true∧0<n∧n.toNat * P.bytesOf e≤140737488355328∧P.bytesOf e≠0⟩
  |_,_=>⟨.top,H,False⟩
 |x=>mS P ts tx s x H
theorem aappendI_sound{c:Ctx}{H:AHeap}{ts tx ty:TypeId}{s x:AV}{vs vx:Value}(hst:St c H)(hsr:Rep c s vs)(hx:Rep c x vx)(hs:(aLs P ts tx s x H).s):
  aPN P (Builtin.append_ #[ts,tx] ty #[vs,vx]) c (aLs P ts tx s x H).v (aLs P ts tx s x H).H:=by
 unfold aLs at *;split at hs
 ·rename_i k n;split at hs
  ·rename_i e hu;obtain⟨rfl,hit,hok,hn0,hb,hb0⟩:=hs;have hok':=hok;simp only[jP,zAc,beq_iff_eq]at hok;obtain⟨⟨h1,h2⟩,h3⟩:=hok;obtain⟨d,hd⟩:=Option.isSome_iff_exists.1 h1;obtain⟨i,hi,hci⟩:=zA hd;obtain⟨z,hz1,hz2⟩:=aGO (P:=P) h2 c;have hzs:z.cells.size=P.cellsOf e:=by rw[(hz2.cells h2).1,h3]
   have hbytes:i.bytes=P.bytesOf e:=by simp[Program.bytesOf,hi]
   have hdx:∃q,P.underlying tx=some (.int q):=by
    unfold aNZ at hit;split at hit
    ·rename_i q h;exact⟨q,h⟩
    ·cases hit
   obtain⟨q,hdx⟩:=hdx;have hR:=hx.int_R;rw[aAG]at hR;obtain rfl:=hx.int_inv;obtain⟨base,len,cap,sz,vs',rfl,rfl,g2,g3, -⟩:=hsr.sl_inv;have hcap:=g3 rfl;subst hcap;obtain⟨m,hm⟩:∃m:Nat,n=m:=⟨n.toNat,by omega⟩
   subst hm;simp only[Int.toNat_natCast]at hb ⊢;have hwrap:IntKind.i64.wrap (m:Int)=m:=wrap_i64_id (by omega) (by omega)
   have hng:¬(0+m≤0):=by omega
   have hcap:Builtin.nextslicecap (0+m) 0 * i.bytes≤281474976710656:=by rw[hbytes];exact growslice_fits (by omega) (by rw[zBn];exact hb)
   let nc:=m+(c.w.tape c.w.drawn (.appendCap m 0 e)) % (2 ^ 63-m)
   have hnc:(Question.appendCap m 0 e).cut (c.w.tape c.w.drawn (.appendCap m 0 e))=nc:=rfl;let cells:Array Value:=(if m * P.cellsOf e=0 then #[]else Builtin.zeroCells z.cells m)++Builtin.zeroCells z.cells (nc-m)
   have hai:∀w,(asInt (.int .i64 (m:Int))).run P w=.ok (m:Int) w:=fun w=>by simp[asInt,asIntOf]
   have hfc:∀w,(Builtin.firstCells (P.cellsOf e) 0 (.slice base 0 0)).run P w=.ok #[] w:=fun w=>by
    cases base<;>simp[Builtin.firstCells,loadCells,loadCellsFrom]
   have hrun:(Builtin.append_ #[ts,tx] ty #[.slice base 0 0,.int .i64 m]).run P c.w=.ok (.slice (some ⟨c.w.heap.size,0,none⟩) m nc) (World.alloc {c.w with drawn:=c.w.drawn+1} (.cells cells e)):=by
    rw[zBn]at hcap;have hdec:¬(Builtin.nextslicecap m 0 * P.bytesOf e>281474976710656):=by rw[←hbytes];omega
    have hdec':Builtin.nextslicecap m 0 * P.bytesOf e≤281474976710656:=by omega
    have hm0:¬m=0:=by omega
    have hmneg:¬((m:Int)<0):=by omega
    have hmaxi:¬((9223372036854775807:Int)<(m:Int)):=by omega
    have hl2:¬(281474976710656:Int)<(m:Int) * (P.bytesOf e:Int):=by
     rw[←Int.natCast_mul];omega
    by_cases hsz:m * P.cellsOf e=0
    ·have hs0:P.cellsOf e=0:=(Nat.mul_eq_zero.1 hsz).resolve_left hm0;simp only[hs0]at hfc;simp[Builtin.append_,run_underlying hu,oR hd,run_underlying hdx,hai,hwrap,hmneg,typeInfo,hi,hbytes,hl2,hm0,hs0,hdec,hmaxi,hb0,Question.forced,hz1,newRow,hfc,cells,hnc]
    ·have hs0:¬P.cellsOf e=0:=fun h=>hsz (by rw[h];rfl)
     simp[Builtin.append_,run_underlying hu,oR hd,run_underlying hdx,hai,hwrap,hmneg,typeInfo,hi,hbytes,hl2,hm0,hs0,hdec,hmaxi,hb0,Question.forced,hz1,newRow,hfc,cells,hnc];rw[zAk hsz,zAk hsz]
   have hzl:(if m * P.cellsOf e=0 then #[]else Builtin.zeroCells z.cells m).size=m * P.cellsOf e:=by
    split
    ·rename_i h;rw[h];rfl
    ·rw[qG,hzs]
   have hcell:∀x∈List.replicate m (aGN P e),x.cells.length=P.cellsOf e:=fun x hx=>by rw[(List.mem_replicate.1 hx).2];exact h3
   have hfl:=dW hcell;rw[zBu]at hfl;have hrest:(Builtin.zeroCells z.cells (nc-m)).size=(nc-m) * P.cellsOf e:=by rw[qG,hzs]
   have hcsz:cells.size=m * P.cellsOf e+(nc-m) * P.cellsOf e:=by simp only[cells,Array.size_append];rw[hzl,hrest]
   have hncm:m≤nc:=by omega
   have hS:=hst.draw.push (.cells cells e) (B:=.cells 1 ((List.replicate m (aGN P e)).flatMap AV.cells)) 1 (by
    refine .cells _ _ _ e (0,0) (by simp[Ctx.push]) (by simp[Ctx.push]) (by simp only[Ctx.push,zBy];exact qB _ _) (by rw[hfl,hcsz];omega) (.inr (zAb _)) (fun k y u hk hu'=>?_)
    have hkl:k<m * P.cellsOf e:=by have:=(eT.1 hk).1;omega
    have hs0:0<P.cellsOf e:=Nat.pos_of_ne_zero fun h=>by rw[h,Nat.mul_zero]at hkl;omega
    have hm:k % P.cellsOf e<P.cellsOf e:=Nat.mod_lt _ hs0;have hdiv:k / P.cellsOf e * P.cellsOf e+k % P.cellsOf e=k:=by rw[Nat.mul_comm];exact Nat.div_add_mod _ _
    have g1:=mR hcell (k / P.cellsOf e) (k % P.cellsOf e) hm;rw[hdiv,hk]at g1;have hdl:k / P.cellsOf e<m:=Nat.div_lt_of_lt_mul (by rw[Nat.mul_comm];exact hkl)
    rw[List.getElem?_replicate,zAp hdl,zAn]at g1;have hne:¬m * P.cellsOf e=0:=by omega
    have g2:cells[k]?=some (z.cells[k % z.cells.size]!):=by
     simp only[cells,zAk hne];rw[zAH (by rw[qG,hzs];exact hkl)]
     simp only[Builtin.zeroCells,Array.getElem?_map];rw[zAZ (by simpa[hzs]using hkl)];simp
    rw[g2,hzs]at hu';cases hu';refine(((hz2.cells h2).2 _ _ _ g1.symm ?_).mono (Ext.draw c)).mono (Ext.push hst.draw _ 1);rw[getElem!_pos z.cells (k % P.cellsOf e) (by omega)]
    exact zAZ _)
   refine⟨_,_,hrun,hS,(Ext.draw c).trans (Ext.push hst.draw _ 1),?_⟩;refine .osl _ _ _ _ _ _ _ (by simp[Ctx.push,Ctx.draw,hst.n]) (by simp[Ctx.push,Ctx.draw,hst.n]) rfl (by omega) (fun _ hd=>by simp[Ctx.push,Ctx.draw,hst.n]at hd) (fun _ _=>?_)
   refine⟨_,nc,cells.size,rfl,zAb _,hncm,.inr (by simp[Ctx.push,Ctx.draw,hst.n]),?_,?_⟩
   ·simp only[bsize,Ctx.push,Ctx.draw,hst.n,zBy];have:=qB {c.w with drawn:=c.w.drawn+1} (.cells cells e)
    simp only at this;rw[this]
   ·rw[hcsz,←zBF,zBn];exact Nat.mul_le_mul_right _ (by omega)
  ·exact hs.elim
 ·exact aappendZ_sound hst hsr hx hs
def aLt(stepped:Nat)(seen:List Nat):ABlk→BR
 |.map es clock=>match seen.getLast? with
  |some k=>match es.find? (fun p=>p.2.2==k)with
   |some p=>⟨.tup [p.1,p.2.1],clock=stepped⟩
   |none=>bad
  |none=>bad
 |_=>bad
def aO9(H:AHeap):ABlk→BR
 |.miter m _ seen stepped=>aLt stepped seen (hget H m)
 |_=>bad
def aHW(x:AV)(H:AHeap):BR:=match x with
 |.iter i=>aO9 H (hget H i)
 |_=>bad
theorem find_born{c:Ctx}(k:Nat):∀(es:List (AV×AV×Nat)) (ents:List MapEntry),ents.length=es.length→(∀(j:Nat) (p:AV×AV×Nat) (e:MapEntry),es[j]?=some p→ents[j]?=some e→Rep c p.1 e.key∧Rep c p.2.1 e.val∧e.born=p.2.2)→
  ∀p,es.find? (fun p=>p.2.2==k)=some p→∃e,ents.find? (fun e=>e.born==k)=some e∧Rep c p.1 e.key∧Rep c p.2.1 e.val:=by
 intro es;induction es with
 |nil=>intro ents _ _ p h;cases h
 |cons q es ih=>
  intro ents hl hr p h;cases ents with
  |nil=>simp at hl
  |cons e ents=>
   obtain⟨h1,h2,h3⟩:=hr 0 q e rfl rfl;rw[List.find?_cons]at h ⊢;rw[h3];cases hq:(q.2.2==k)with
   |true=>grind
   |false=>
    rw[hq]at h;exact ih ents (by simpa using hl) (fun j p e hp he=>hr (j+1) p e (by simpa using hp) (by simpa using he)) p h
theorem aFf{c:Ctx}{H:AHeap}{x:AV}{vx:Value}(hst:St c H)(hx:Rep c x vx)(hs:(aHW x H).s):
  ∃v,(Instr.entry vx).run P c.w=.ok v c.w∧Rep c (aHW x H).v v:=by
 unfold aHW at *;split at hs
 ·rename_i i;cases hh:hget H i<;>simp only[hh,aO9,bad]at hs ⊢;rename_i m since seen stepped;have hrep:=hst.rep i _ (eS hh trivial);cases hrep with
  |miter _ _ _ _ iv idd imn imv imd ih=>
   cases hx with
   |iter _ _ _ _ hval=>
    obtain⟨-,rfl⟩:=hval iv;have hgo:=run_getObj_obj (P:=P) ih (by simp)
    cases hm:hget H m<;>simp only[hm,aLt,bad]at hs ⊢;rename_i es clock;obtain⟨hin,hv,hd,ents,hb,hl,hr⟩:=hst.map hm;cases hk:seen.getLast? with
    |none=>rw[hk]at hs;exact hs.elim
    |some k=>
     rw[hk]at hs;simp only at hs ⊢;cases hf:es.find? (fun p=>p.2.2==k)with
     |none=>rw[hf]at hs;exact hs.elim
     |some p=>
      rw[hf]at hs;simp only at hs ⊢;obtain⟨e,he,hr1,hr2⟩:=find_born (c:=c) k es ents.toList (by simpa using hl) (fun j p e hp he=>hr j p e hp (by simpa using he)) p hf
      have hbk:seen.toArray.back?=some k:=by simpa using hk
      have he':ents.find? (fun e=>e.born==k)=some e:=by rw[←Array.find?_toList];exact he
      subst hs;exact⟨.tuple #[e.key,e.val],by simp[Instr.entry,hgo,hbk,MapKept.run_getObj_map hb,he',Result.andThen],rep_tup2 hr1 hr2⟩
 ·exact hs.elim
end
section
variable {P:Program}
def aun(op:UnOp)(x:AV):BR:=
 match op,x with
 |.not,.bool b=>⟨.bool (!b),True⟩
 |.neg,.int k n=>⟨.int k (k.wrap (0-n)),True⟩
 |_,_=>bad
theorem aJ3{c:Ctx}{op:UnOp}{x:AV}{vx:Value}(hx:Rep c x vx)(hs:(aun op x).s)(w:World):∃v,(Op.unary op vx).run P w=.ok v w∧Rep c (aun op x).v v:=by
 unfold aun at *;split at hs
 ·rw[hx.bool_inv];exact⟨_,by simp[Op.unary],.bool _⟩
 ·rw[hx.int_inv];exact⟨_,by simp[Op.unary,Op.intArith],.int _ _ (aLm _ _)⟩
 ·exact hs.elim
def isK:Operand→Bool
 |.const _=>true
 |_=>false
def qH:AV→Bool
 |.nilIface=>true
 |_=>false
def aHX(P:Program)(t:TypeId):Bool:=
 match P.underlying t with
 |some (.interface _)=>true
 |_=>false
def aN0(P:Program)(k:Bool)(op:BinOp)(t:TypeId)(x y:AV):BR:=
 match op,x,y with
 |.eql,.nilIface,.nilIface=>⟨.bool true,k=true∧aHX P t=true⟩
 |.neq,.nilIface,.nilIface=>⟨.bool false,k=true∧aHX P t=true⟩
 |.eql,.iface _ _,.nilIface=>⟨.bool false,aHX P t=true⟩
 |.neq,.iface _ _,.nilIface=>⟨.bool true,aHX P t=true⟩
 |.eql,.nilIface,.iface _ _=>⟨.bool false,aHX P t=true⟩
 |.neq,.nilIface,.iface _ _=>⟨.bool true,aHX P t=true⟩
 |_,_,_=>bad
def aCE(P:Program)(k:Bool)(op:BinOp)(t:TypeId)(x y:AV):BR:=
 bif qH x||qH y then aN0 P k op t x y else cL P op t x y
theorem isIf_t{t:TypeId}(h:aHX P t=true):∃ms,P.underlying t=some (.interface ms):=by
 unfold aHX at h;split at h
 ·rename_i ms hu;exact⟨ms,hu⟩
 ·cases h
theorem run_eqIf(d:Nat){t:TypeId}{ms:Array (String×TypeId)}(hu:P.underlying t=some (.interface ms))(w:World):
  (Op.equalIn (d+1) t .nilIface .nilIface).run P w=.ok true w∧(∀u v,(Op.equalIn (d+1) t .nilIface (.iface u v)).run P w=.ok false w)∧∀u v,(Op.equalIn (d+1) t (.iface u v) .nilIface).run P w=.ok false w:=
 ⟨by simp[Op.equalIn,run_underlying hu],fun _ _=>by simp[Op.equalIn,run_underlying hu],fun _ _=>by simp[Op.equalIn,run_underlying hu]⟩
theorem run_equalIf{t:TypeId}{ms:Array (String×TypeId)}(hu:P.underlying t=some (.interface ms))(w:World):
  (Op.equal t .nilIface .nilIface).run P w=.ok true w∧(∀u v,(Op.equal t .nilIface (.iface u v)).run P w=.ok false w)∧∀u v,(Op.equal t (.iface u v) .nilIface).run P w=.ok false w:=run_eqIf 9999 hu w
theorem run_guardIf(op:BinOp)(t:TypeId)(X Y:Operand)(w:World):(∀u v,(eqGuard op t X Y .nilIface (.iface u v)).run P w=.ok () w)∧(∀u v,(eqGuard op t X Y (.iface u v) .nilIface).run P w=.ok () w)∧((isK X||isK Y)=true→(eqGuard op t X Y .nilIface .nilIface).run P w=.ok () w):=by
 refine⟨fun u v=>?_,fun u v=>?_,fun h=>?_⟩
 ·cases op<;>rfl
 ·cases op<;>rfl
 ·cases X<;>cases Y<;>first|(cases h;done)|(cases op<;>rfl)
theorem aGU{c:Ctx}{op:BinOp}{t:TypeId}{x y:AV}{vx vy:Value}{X Y:Operand}(hx:Rep c x vx)(hy:Rep c y vy)(hs:(aCE P (isK X||isK Y) op t x y).s)(w:World):
  ∃v,(do eqGuard op t X Y vx vy;binOp op t vx vy:Sem Value).run P w=.ok v w∧Rep c (aCE P (isK X||isK Y) op t x y).v v:=by
 unfold aCE at *;cases hn:qH x||qH y with
 |false=>rw[hn,zCc]at hs;rw[zCc];exact aBin_sound hx hy hs w
 |true=>
  rw[hn,cond_true]at hs;rw[cond_true];unfold aN0 at *;split at hs
  ·obtain⟨hc,hi⟩:=hs;obtain⟨ms,hu⟩:=isIf_t hi;cases hx;cases hy;exact⟨.bool true,by simp only[Sem.run_bind,(run_guardIf .eql t X Y w).2.2 hc,Result.andThen_ok,binOp,(run_equalIf hu w).1,Sem.run_pure],.bool _⟩
  ·obtain⟨hc,hi⟩:=hs;obtain⟨ms,hu⟩:=isIf_t hi;cases hx;cases hy;exact⟨.bool false,by simp only[Sem.run_bind,(run_guardIf .neq t X Y w).2.2 hc,Result.andThen_ok,binOp,(run_equalIf hu w).1,Sem.run_pure,zBs],.bool _⟩
  ·obtain⟨ms,hu⟩:=isIf_t hs;cases hx;cases hy;exact⟨.bool false,by simp only[Sem.run_bind,(run_guardIf .eql t X Y w).2.1,Result.andThen_ok,binOp,(run_equalIf hu w).2.2,Sem.run_pure],.bool _⟩
  ·obtain⟨ms,hu⟩:=isIf_t hs;cases hx;cases hy;exact⟨.bool true,by simp only[Sem.run_bind,(run_guardIf .neq t X Y w).2.1,Result.andThen_ok,binOp,(run_equalIf hu w).2.2,Sem.run_pure,zA8],.bool _⟩
  ·obtain⟨ms,hu⟩:=isIf_t hs;cases hx;cases hy;exact⟨.bool false,by simp only[Sem.run_bind,(run_guardIf .eql t X Y w).1,Result.andThen_ok,binOp,(run_equalIf hu w).2.1,Sem.run_pure],.bool _⟩
  ·obtain⟨ms,hu⟩:=isIf_t hs;cases hx;cases hy;exact⟨.bool true,by simp only[Sem.run_bind,(run_guardIf .neq t X Y w).1,Result.andThen_ok,binOp,(run_equalIf hu w).2.1,Sem.run_pure,zA8],.bool _⟩
  ·exact hs.elim
def u8N:AV→Int
 |.int _ n=>n
 |_=>0
def aPS:AV→Bool
 |.int .u8 _=>true
 |_=>false
def aPT(P:Program)(t:TypeId):Bool:=match P.underlying t with
 |some (.slice e)=>(match P.underlying e with|some (.int .u8)=>true|_=>false)
 |_=>false
def aPa(P:Program)(src dst:TypeId)(x:AV):BR:=
 match P.underlying dst,x with
 |some (.int k),.int _ n=>⟨.int k (k.wrap n),(P.underlying src).isSome=true⟩
 |some .string,.str s=>⟨.str s,(P.underlying src).isSome=true⟩
 |some .string,.sl _ es=>⟨.str (es.map fun e=>UInt8.ofNat (u8N e).toNat),aPT P src=true∧es.all aPS=true⟩
 |_,_=>bad
theorem isU8_t{e:AV}(h:aPS e=true):e=.int .u8 (u8N e):=by
 unfold aPS at h;split at h
 ·rfl
 ·cases h
theorem aconv_sound{c:Ctx}{src dst:TypeId}{x:AV}{vx:Value}(hx:Rep c x vx)(hs:(aPa P src dst x).s):∃v,(convert src dst vx).run P c.w=.ok v c.w∧Rep c (aPa P src dst x).v v:=by
 unfold aPa at *;split at hs
 ·rename_i k k' n hu;obtain⟨d,hd⟩:=Option.isSome_iff_exists.1 hs;rw[hx.int_inv];refine⟨_,?_,.int _ _ (aLm _ _)⟩;simp only[convert,Sem.run_bind,run_underlying hd,run_underlying hu,Result.andThen_ok];rfl
 ·rename_i s hu;obtain⟨d,hd⟩:=Option.isSome_iff_exists.1 hs;rw[hx.str_inv];refine⟨_,?_,.str _ hx.str_R⟩;simp only[convert,Sem.run_bind,run_underlying hd,run_underlying hu,Result.andThen_ok];cases d<;>rfl
 ·rename_i f es hu;obtain⟨h1,h2⟩:=hs;have hR:=hx.sl_R;unfold aPT at h1;split at h1
  ·rename_i e he;split at h1
   ·rename_i hb;obtain⟨base,len,cap,s,vs,rfl,rfl, -, -,q4,q5,q6⟩:=hx.sl_inv;refine⟨.string ⟨(es.map fun e=>UInt8.ofNat (u8N e).toNat).toArray⟩,?_,.str _ (by simpa using hR)⟩
    rw[run_convert_bytes_string c.w src dst e base _ cap he hb hu];cases base with
    |none=>
     have hn:es=[]:=by
      cases es with
      |nil=>rfl
      |cons x es=>obtain⟨a,ha, -⟩:=q4 (by simp);cases ha
     subst hn;simp[Conv.bytesToString];rfl
    |some a=>
     have hl:(loadCells a es.length).run P c.w=.ok ((es.map u8N).map (Value.int .u8)).toArray c.w:=by
      have:=run_loadCells_list (P:=P) c.w a ((es.map u8N).map (Value.int .u8)) (fun j v hj=>by
       rw[zBC,zAY,zAy]at hj;obtain⟨x,hx1,rfl⟩:=hj;have hjl:=(eT.1 hx1).1;have hxm:=zAA hx1;have hu8:=isU8_t (zAx.1 h2 x hxm);obtain⟨a',ha, -, -,ha4⟩:=q4 (by intro hn;rw[hn]at hjl;simp at hjl)
       cases ha;have hs1:s=1:=by rw[←q5 x hxm,hu8];rfl
       subst hs1;have hc:=ha4 j 0 hjl (by omega)
       have hr:=q6 j x 0 x hx1 (by rw[hu8];rfl)
       rw[hu8]at hr;rw[zAo,Nat.add_zero]at hc;rw[hc,hr.int_inv];rfl)
      simpa using this
     rw[run_bytesToString c.w a es.length cap (es.map u8N) hl,foldl_push_bytes];simp[ByteArray.empty,ByteArray.emptyWithCapacity];rfl
   ·cases h1
  ·cases h1
 ·exact hs.elim
def aCF(x:AV)(i:Nat):BR:=
 match x with
 |.tup vs=>⟨vs.getD i .top,i<vs.length⟩
 |_=>bad
theorem qI{c:Ctx}{x:AV}{i:Nat}{vx:Value}(hx:Rep c x vx)(hs:(aCF x i).s)(w:World):∃v,(Instr.extract vx i).run P w=.ok v w∧Rep c (aCF x i).v v:=by
 unfold aCF at *;split at hs
 ·rename_i vs;obtain⟨us,rfl,h1,h2⟩:=hx.tup_inv;have hg:vs[i]?=some vs[i]:=zAd hs;have hu:us[i]?=some (us[i]'(by omega)):=zAZ (by omega)
  rw[aE6 _ _ _ _ hg];exact⟨_,by simp[Instr.extract,hu],h2 _ _ _ hg hu⟩
 ·exact hs.elim
def aCG(P:Program)(t:TypeId):Bool:=
 match P.underlying t with
 |some (.interface _)=>false
 |some _=>true
 |none=>false
theorem aCH{t:TypeId}(h:aCG P t=true)(v:Value)(w:World):(Instr.makeInterface t v).run P w=.ok (.iface t v) w:=by
 unfold aCG at h;cases hu:P.underlying t with
 |none=>rw[hu]at h;cases h
 |some d=>
  rw[hu]at h;simp only[Instr.makeInterface,Sem.run_bind,run_underlying hu,Result.andThen_ok];cases d<;>first|rfl|cases h
def aFg(P:Program)(x:AV)(t:TypeId)(ok:Bool):BR:=
 match x with
 |.iface u v=>bif u==t then⟨bif ok then .tup [v,.bool true]else v,aCG P t=true⟩else bif ok then⟨.tup [aGN P t,.bool false],aCG P t=true∧(aGN P t).known=true⟩else bad
 |.nilIface=>bif ok then⟨.tup [aGN P t,.bool false],aCG P t=true∧(aGN P t).known=true⟩else bad
 |_=>bad
theorem sE{c:Ctx}{x:AV}{t xt:TypeId}{ok:Bool}{vx:Value}(hx:Rep c x vx)(hs:(aFg P x t ok).s)(w:World):∃v,(Instr.typeAssert vx xt t ok).run P w=.ok v w∧Rep c (aFg P x t ok).v v:=by
 have hu:∀(hc:aCG P t=true),∃d,P.underlying t=some d∧∀ms,d≠.interface ms:=by
  intro hc;unfold aCG at hc;cases hu:P.underlying t with
  |none=>rw[hu]at hc;cases hc
  |some d=>exact⟨d,rfl,fun ms e=>by rw[hu,e]at hc;cases hc⟩
 unfold aFg at *;split at hs
 ·rename_i u v;cases hx with
  |iface _ _ v' hv=>
   cases hut:u==t with
   |true=>
    simp only[hut,cond_true]at hs ⊢;obtain⟨d,hd,hdi⟩:=hu hs;have he:u=t:=by simpa using hut
    subst he;cases ok with
    |true=>exact⟨.tuple #[v',.bool true],by cases d<;>first|exact absurd rfl (hdi _)|simp[Instr.typeAssert,run_underlying hd],rep_tup2 hv (.bool _)⟩
    |false=>exact⟨v',by cases d<;>first|exact absurd rfl (hdi _)|simp[Instr.typeAssert,run_underlying hd],hv⟩
   |false=>
    simp only[hut,zCc]at hs ⊢;have he:¬u=t:=by simpa using hut
    cases ok with
    |true=>
     simp only[cond_true]at hs ⊢;obtain⟨hc,hk⟩:=hs;obtain⟨d,hd,hdi⟩:=hu hc;obtain⟨z,hz1,hz2⟩:=aGO (P:=P) hk c;exact⟨.tuple #[z,.bool false],by cases d<;>first|exact absurd rfl (hdi _)|simp[Instr.typeAssert,run_underlying hd,he,hz1],rep_tup2 hz2 (.bool _)⟩
    |false=>exact hs.elim
 ·cases hx;cases ok with
  |true=>
   simp only[cond_true]at hs ⊢;obtain⟨hc,hk⟩:=hs;obtain⟨d,hd,hdi⟩:=hu hc;obtain⟨z,hz1,hz2⟩:=aGO (P:=P) hk c;exact⟨.tuple #[z,.bool false],by cases d<;>first|exact absurd rfl (hdi _)|simp[Instr.typeAssert,run_underlying hd,hz1],rep_tup2 hz2 (.bool _)⟩
  |false=>exact hs.elim
 ·exact hs.elim
def aPU(x y:AV):BR:=
 match x,y with
 |.int k a,.int k' b=>⟨.int k (max a b),k=k'⟩
 |_,_=>bad
def aPV(x y:AV):BR:=
 match x,y with
 |.int k a,.int k' b=>⟨.int k (min a b),k=k'⟩
 |_,_=>bad
def wC(P:Program)(t:TypeId)(n:Nat)(ps:List (Nat×AV)):BR:=
 match P.underlying t with
 |some (.slice e)=>⟨.sl true (ps.map (·.2)),jP P e=true∧ps.map (·.1)=List.range n∧(ps.all fun p=>p.2.known&&(p.2.cells.length==P.cellsOf e))=true∧n * P.cellsOf e≤16777216∧P.cellsOf e≠0⟩
 |_=>bad
theorem fill_seq{s:Nat}:∀(vs:List (Nat×Value)) (i0:Nat) (us:Array Value),vs.map (·.1)=List.range' i0 vs.length→(∀p∈vs,p.2.cells.size=s)→(i0+vs.length) * s≤us.size→
  ∃ws,Instr.fill (fun i=>some (i * s,s)) us vs=some ws∧ws.size=us.size∧(∀idx,idx<i0 * s→ws[idx]?=us[idx]?)∧∀(k j:Nat) (p:Nat×Value),vs[k]?=some p→j<s→ws[(i0+k) * s+j]?=p.2.cells[j]?
 |[],i0,us,_,_,_=>⟨us,rfl,rfl,fun _ _=>rfl,by simp⟩
 |(i,v)::vs,i0,us,hm,hs,hle=>by
  simp only[zAV,zAt,zBI,List.cons.injEq]at hm;obtain⟨rfl,hm⟩:=hm;have hv:v.cells.size=s:=hs (i,v) (by simp)
  simp only[zAt]at hle;have hle2:(i+1) * s≤us.size:=zA7 (Nat.mul_le_mul_right s (by omega)) hle
  have e1:(i+1) * s=i * s+s:=by rw[zBF];omega
  obtain⟨ws,g1,g2,g3,g4⟩:=fill_seq vs (i+1) (spliceV us (i * s) v.cells.toList) hm (fun p hp=>hs p (by simp[hp])) (by rw[size_spliceV,show i+1+vs.length=i+(vs.length+1) by omega];exact hle)
  refine⟨ws,?_,by rw[g2,size_spliceV],fun idx hidx=>?_,fun k j p hk hj=>?_⟩
  ·unfold Instr.fill;have hcond:¬((decide (v.cells.size≠s)||decide (i * s+v.cells.size>us.size))=true):=by simp;omega
   simp only[hcond,zBd];rw[fold_spliceV];exact g1
  ·rw[g3 idx (by omega),get_spliceV' _ _ _ s (by simpa using hv) (by omega),zAk (by omega)]
  ·cases k with
   |zero=>
    simp at hk;subst hk;rw[Nat.add_zero,g3 _ (by omega),get_spliceV' _ _ _ s (by simpa using hv) (by omega),zAp (by omega)]
    simp
   |succ k=>
    rw[show i+(k+1)=i+1+k by omega]
    exact g4 k j p (by simpa using hk) hj
theorem aAK{c:Ctx}{H:AHeap}{t:TypeId}{n:Nat}{ps:List (Nat×AV)}{vs:Array (Nat×Value)}(hst:St c H)(hm:vs.toList.map (·.1)=ps.map (·.1))
  (hp:∀(k:Nat) (p:Nat×AV) (q:Nat×Value),ps[k]?=some p→vs[k]?=some q→Rep c p.2 q.2) (hs:(wC P t n ps).s):
  aPN P (Instr.buildSlice t n vs) c (wC P t n ps).v H:=by
 unfold wC at *;cases hu:P.underlying t with
 |none=>simp[hu,bad]at hs
 |some d=>
  cases d<;>simp only[hu,bad]at hs;case slice e=>
   simp only;obtain⟨hok,hr,hall,hmax,hne⟩:=hs;simp only[jP,zAc,beq_iff_eq]at hok;obtain⟨⟨h1,h2⟩,h3⟩:=hok;obtain⟨d,hd⟩:=Option.isSome_iff_exists.1 h1;obtain⟨z,hz1,hz2⟩:=aGO (P:=P) h2 c;have hzs:z.cells.size=P.cellsOf e:=by rw[(hz2.cells h2).1,h3]
   have hlen:vs.toList.length=ps.length:=by have:=zA5 List.length hm;simpa using this
   have hn:ps.length=n:=by have:=zA5 List.length hr;simpa using this
   have hpv:∀(k:Nat) (p:Nat×AV) (q:Nat×Value),ps[k]?=some p→vs[k]?=some q→q.2.cells.size=P.cellsOf e∧p.2.cells.length=P.cellsOf e∧∀(i:Nat) (y:AV) (u:Value),p.2.cells[i]?=some y→q.2.cells[i]?=some u→Rep c y u:=by
    intro k p q h1 h2;have h4:=zAx.1 hall p (zAA h1);simp only[zAc,beq_iff_eq]at h4;obtain⟨g1,g2⟩:=(hp k p q h1 h2).cells h4.1;exact⟨by rw[g1,h4.2],h4.2,g2⟩
   have hvsz:∀q∈vs.toList,q.2.cells.size=P.cellsOf e:=by
    intro q hq;obtain⟨k,hk,hk2⟩:=List.getElem_of_mem hq;simp only[Array.length_toList]at hk;exact(hpv k _ q (zAd (by rw[←hlen];simpa using hk)) (by rw[←hk2];simp[hk])).1
   let za:Array Value:=if n * P.cellsOf e=0 then #[]else z.cells
   obtain⟨ws,g1,g2, -,g4⟩:=fill_seq (s:=P.cellsOf e) vs.toList 0 ((Array.range (n * P.cellsOf e)).map fun k=>za[k % za.size]!) (by rw[hm,hr,hlen,hn,List.range_eq_range']) hvsz (by simp[hlen,hn])
   have hrun:(Instr.buildSlice t n vs).run P c.w=.ok (.slice (some ⟨c.w.heap.size,0,none⟩) n n) (c.w.alloc (.cells ws e)):=by
    have hmx:¬(n * P.cellsOf e>16777216):=by omega
    simp only[Instr.buildSlice,Sem.run_bind,run_underlying hu,Result.andThen_ok,oR hd];rw[zAk hmx];by_cases h0:n * P.cellsOf e=0
    ·have hza:za= #[]:=zAp h0;rw[hza]at g1;rw[zAp h0];simp only[Sem.run_bind,Sem.run_pure,Result.andThen_ok];rw[g1];rfl
    ·have hza:za=z.cells:=zAk h0;rw[hza]at g1;rw[zAk h0];simp only[Sem.run_bind,hz1,Sem.run_pure,Result.andThen_ok];rw[g1];rfl
   refine⟨c.fix (.cells ws e),_,hrun,hst.fix _,Ext.fix hst _,?_⟩;refine .sl _ _ _ _ _ (P.cellsOf e) (fun k j=>((vs[k]?).bind fun q=>q.2.cells[j]?).getD undef) (by simp[hn]) (zAb _) (fun _=>rfl) (fun _=>⟨_,rfl,rfl,.inr rfl,fun k j hk hj=>?_⟩) (fun x hx=>?_) (fun k x j y hk hj=>?_) (by have:=Nat.le_mul_of_pos_right n (Nat.pos_of_ne_zero hne);omega)
   ·simp only[zAs]at hk;have hkv:vs[k]?=some (vs[k]'(by rw[←hlen]at hk;simpa using hk)):=zAZ _
    have h5:=g4 k j _ (by rw[zBo];exact hkv) hj
    have hb:(c.fix (.cells ws e)).w.heap[c.w.heap.size]?=some (.cells ws e):=qB _ _;rw[uM,mA hb,zBn];rw[zBn]at h5;rw[h5,hkv];have hsz:=hvsz (vs[k]'(by rw[←hlen]at hk;simpa using hk)) (by simp)
    simp[show j<(vs[k]'(by rw[←hlen]at hk;simpa using hk)).2.cells.size by omega]
   ·obtain⟨p,hp1,rfl⟩:=zAi.1 hx;have h4:=zAx.1 hall p hp1;simp only[zAc,beq_iff_eq]at h4;exact h4.2
   ·simp only[zAY,zAy]at hk;obtain⟨p,hp1,rfl⟩:=hk;have hlt:=(eT.1 hp1).1;have hkv:vs[k]?=some (vs[k]'(by rw[←hlen]at hlt;simpa using hlt)):=zAZ _
    obtain⟨q1,q2,q3⟩:=hpv k p _ hp1 hkv;have hj2:=(eT.1 hj).1;rw[hkv];refine Rep.mono (Ext.fix hst _) (q3 j y _ hj ?_);simp[show j<(vs[k]'(by rw[←hlen]at hlt;simpa using hlt)).2.cells.size by omega]
def aCI(P:Program)(b:Builtin)(ts:List TypeId)(xs:List AV)(H:AHeap):Res:=
 match b,ts,xs with
 |.len,[t],[x]=>⟨(aPP P t x H).v,H,(aPP P t x H).s⟩
 |.append,[t,u],[s,x]=>aLs P t u s x H
 |.copy,[t,_],[d,x]=>aNU P t d x H
 |.clear,[t],[x]=>aNb P t x H
 |.delete,[t,_],[x,k]=>aNa P t x k H
 |.cap,[t],[x]=>⟨(aPQ P t x).v,H,(aPQ P t x).s⟩
 |.max,_,[x,y]=>⟨(aPU x y).v,H,(aPU x y).s⟩
 |.min,_,[x,y]=>⟨(aPV x y).v,H,(aPV x y).s⟩
 |_,_,_=>⟨.top,H,False⟩
theorem amax_sound{c:Ctx}{x y:AV}{ts:Array TypeId}{ty:TypeId}{vx vy:Value}(hx:Rep c x vx)(hy:Rep c y vy)(hs:(aPU x y).s)(w:World):∃v,(Builtin.max_ ts ty #[vx,vy]).run P w=.ok v w∧Rep c (aPU x y).v v:=by
 unfold aPU at *;split at hs
 ·rename_i k a k' b;subst hs;rw[hx.int_inv,hy.int_inv];refine⟨.int k (max a b),?_,.int _ _ (by have h1:=hx.int_R;have h2:=hy.int_R;unfold inR at *;omega)⟩
  simp only[Builtin.max_,List.foldlM_cons,List.foldlM_nil,Builtin.max2,Sem.run_bind,Sem.run_pure,Result.andThen_ok];congr 2;split<;>omega
 ·exact hs.elim
theorem amin_sound{c:Ctx}{x y:AV}{ts:Array TypeId}{ty:TypeId}{vx vy:Value}(hx:Rep c x vx)(hy:Rep c y vy)(hs:(aPV x y).s)(w:World):∃v,(Builtin.min_ ts ty #[vx,vy]).run P w=.ok v w∧Rep c (aPV x y).v v:=by
 unfold aPV at *;split at hs
 ·rename_i k a k' b;subst hs;rw[hx.int_inv,hy.int_inv];refine⟨.int k (min a b),?_,.int _ _ (by have h1:=hx.int_R;have h2:=hy.int_R;unfold inR at *;omega)⟩
  simp only[Builtin.min_,List.foldlM_cons,List.foldlM_nil,Builtin.min2,Sem.run_bind,Sem.run_pure,Result.andThen_ok];congr 2;split<;>omega
 ·exact hs.elim
def RepA(c:Ctx)(xs:List AV)(vs:Array Value):Prop:=vs.size=xs.length∧∀(i:Nat) (x:AV) (v:Value),xs[i]?=some x→vs[i]?=some v→Rep c x v
theorem RepA.one{c:Ctx}{x:AV}{vs:Array Value}(h:RepA c [x] vs):∃u,vs= #[u]∧Rep c x u:=by
 obtain⟨h1,h2⟩:=h;obtain⟨l⟩:=vs
 match l,h1 with
 |[u],_=>exact⟨u,rfl,h2 0 _ _ rfl rfl⟩
theorem RepA.two{c:Ctx}{x y:AV}{vs:Array Value}(h:RepA c [x,y] vs):∃u v,vs= #[u,v]∧Rep c x u∧Rep c y v:=by
 obtain⟨h1,h2⟩:=h;obtain⟨l⟩:=vs
 match l,h1 with
 |[u,v],_=>exact⟨u,v,rfl,h2 0 _ _ rfl rfl,h2 1 _ _ rfl rfl⟩
theorem aCJ{c:Ctx}{H:AHeap}{b:Builtin}{ts:Array TypeId}{ty:TypeId}{cs:Array Bool}{xs:List AV}{vs:Array Value}(hst:St c H)(hx:RepA c xs vs)(hs:(aCI P b ts.toList xs H).s):
  ∃c' v,(builtin b ts ty cs vs).run P c.w=.ok (.value v) c'.w∧St c' (aCI P b ts.toList xs H).H∧Ext c c'∧Rep c' (aCI P b ts.toList xs H).v v:=by
 obtain⟨tl⟩:=ts;simp only[List.toList_toArray]at hs ⊢;unfold aCI at *;split at hs
 ·obtain⟨u,rfl,hu⟩:=hx.one;obtain⟨v,h1,h2⟩:=alen_sound (P:=P) (ty:=ty) hst hu hs;exact⟨c,v,by simp only[builtin,Sem.run_bind];rw[h1];rfl,hst,Ext.refl c,h2⟩
 ·obtain⟨u,u',rfl,hu,hu'⟩:=hx.two;obtain⟨c',v,h1,h2,h3,h4⟩:=aappendI_sound (P:=P) (ty:=ty) hst hu hu' hs;exact⟨c',v,by simp only[builtin,Sem.run_bind];rw[h1];rfl,h2,h3,h4⟩
 ·obtain⟨u,u',rfl,hu,hu'⟩:=hx.two;obtain⟨c',v,h1,h2,h3,h4⟩:=acopyS_sound (P:=P) (ty:=ty) hst hu hu' hs;exact⟨c',v,by simp only[builtin,Sem.run_bind];rw[h1];rfl,h2,h3,h4⟩
 ·obtain⟨u,rfl,hu⟩:=hx.one;obtain⟨c',v,h1,h2,h3,h4⟩:=aclearM_sound (P:=P) (ty:=ty) hst hu hs;exact⟨c',v,by simp only[builtin,Sem.run_bind];rw[h1];rfl,h2,h3,h4⟩
 ·obtain⟨u,u',rfl,hu,hu'⟩:=hx.two;obtain⟨c',v,h1,h2,h3,h4⟩:=adelete_sound (P:=P) (ty:=ty) hst hu hu' hs;exact⟨c',v,by simp only[builtin,Sem.run_bind];rw[h1];rfl,h2,h3,h4⟩
 ·obtain⟨u,rfl,hu⟩:=hx.one;obtain⟨v,h1,h2⟩:=acap_sound (P:=P) (ty:=ty) (c:=c) hu hs;exact⟨c,v,by simp only[builtin,Sem.run_bind];rw[h1];rfl,hst,Ext.refl c,h2⟩
 ·obtain⟨u,u',rfl,hu,hu'⟩:=hx.two;obtain⟨v,h1,h2⟩:=amax_sound (P:=P) (ts:=⟨tl⟩) (ty:=ty) hu hu' hs c.w;exact⟨c,v,by simp only[builtin,Sem.run_bind];rw[h1];rfl,hst,Ext.refl c,h2⟩
 ·obtain⟨u,u',rfl,hu,hu'⟩:=hx.two;obtain⟨v,h1,h2⟩:=amin_sound (P:=P) (ts:=⟨tl⟩) (ty:=ty) hu hu' hs c.w;exact⟨c,v,by simp only[builtin,Sem.run_bind];rw[h1];rfl,hst,Ext.refl c,h2⟩
 ·exact hs.elim
end
section
variable {P:Program}
def bA(t:List UInt8):List AV:=t.map fun b=>.int .u8 b.toNat
def rowT(cs:List AV):List UInt8:=cs.map fun e=>UInt8.ofNat (u8N e).toNat
def rowOk(cs:List AV):Bool:=cs.all aPS
theorem aN1(t:List UInt8):t.map (fun b=>AV.int .u8 b.toNat)=bA t:=rfl
theorem fS(t:List UInt8):(bA t).length=t.length:=zAs _
theorem aLu(t:List UInt8):rowOk (bA t)=true:=by unfold rowOk;rw[zAx];intro x hx;obtain⟨b,_,rfl⟩:=zAi.1 hx;rfl
theorem aNc(t:List UInt8):rowT (bA t)=t:=by
 unfold rowT bA;rw[zBC];conv=>rhs;rw[←List.map_id t]
 apply List.map_congr_left
 intro x _;simp[u8N]
theorem aNd(t:List UInt8):List.take (t.length * 1) (bA t)=bA t:=zAT (by rw[fS];omega)
theorem qJ(s t:List UInt8):bA (s++t)=bA s++bA t:=List.map_append
theorem aN2(t:List UInt8):(bA t).all AV.one=true:=by rw[zAx];intro x hx;obtain⟨b,_,rfl⟩:=zAi.1 hx;rfl
def aCK(P:Program)(src dst:TypeId)(x:AV)(H:AHeap):Res:=
 match x with
 |.osl s i v off len lc=>⟨.str (rowT (cI (.osl s i v off len lc) H)),H,
   P.underlying dst=some .string∧aPT P src=true∧oS (.osl s i v off len lc) 1 H∧rowOk (cI (.osl s i v off len lc) H)=true⟩
 |.str s=>bif aPT P dst then⟨.osl 1 H.length 1 0 s.length s.length,H++[.cells 1 (cI (.str s) H)],(P.underlying src).isSome=true⟩else ofBRH (aPa P src dst (.str s)) H
 |x=>ofBRH (aPa P src dst x) H
where ofBRH (r:BR) (H:AHeap):Res:=⟨r.v,H,r.s⟩
theorem u8Sl_t{t:TypeId}(h:aPT P t=true):∃e,P.underlying t=some (.slice e)∧P.underlying e=some (.int .u8):=by
 unfold aPT at h;split at h
 ·rename_i e he;split at h
  ·rename_i hb;exact⟨e,he,hb⟩
  ·cases h
 ·cases h
theorem bytesWorld_eq(w:World)(e:TypeId)(s:ByteArray):Lib.bytesWorld w e s=World.alloc {w with drawn:=w.drawn+1} (.cells (Lib.bytesCells w e s) e ((Lib.bytesCells w e s).size,(Lib.bytesCells w e s).size+1)):=by
 simp only[Lib.bytesWorld,World.freeze,World.alloc,World.drew,Nat.one_ne_zero,zBd];congr 1;apply Array.ext'
 simp only[Array.toList_modify,Array.toList_push];apply List.ext_getElem?
 intro j;rw[List.getElem?_modify];by_cases h:w.heap.size=j
 ·subst h;simp[List.getElem?_append]
 ·simp[h,List.getElem?_append];by_cases h2:j<w.heap.size
  ·simp[h2]
  ·rw[zAk h2,zAk h2,zBq (by simp;omega),zBq (by simp;omega)]
theorem aFh{c:Ctx}{H:AHeap}{src dst:TypeId}{x:AV}{vx:Value}(hst:St c H)(hx:Rep c x vx)(hs:(aCK P src dst x H).s):
  aPN P (convert src dst vx) c (aCK P src dst x H).v (aCK P src dst x H).H:=by
 unfold aCK at *;split at hs
 ·rename_i s i v off len lc;obtain⟨h1,h2,h3,h4⟩:=hs;obtain⟨e,he,hb⟩:=u8Sl_t h2;obtain⟨q1,q2,us,q3,q4,q5⟩:=qF (P:=P) hst hx h3;obtain⟨rfl,hl, -⟩:=h3;obtain⟨base,cap,rfl,g1,g2, -⟩:=hx.osl_inv (wB hst hl);have hR:=hx.osl_R;have hus:us=((cI (.osl 1 i v off len lc) H).map fun y=>Value.int .u8 (u8N y)).toArray:=by
   apply Array.ext
   ·simpa using q4
   ·intro k k1 k2;have k3:k<(cI (.osl 1 i v off len lc) H).length:=by omega
    have hu:=q5 k _ _ (zAd k3) (zAZ k1);rw[isU8_t (zAx.1 h4 _ (zAK k3))]at hu;rw[hu.int_inv];simp
  refine⟨c,.string ⟨((cI (.osl 1 i v off len lc) H).map fun y=>UInt8.ofNat (u8N y).toNat).toArray⟩,?_,hst,Ext.refl c,.str _ (by simp only[cE]at q2;unfold rowT;simp;omega)⟩
  rw[run_convert_bytes_string c.w src dst e base _ cap he hb h1];simp only[cE]at q2 q3;cases base with
  |none=>
   have hn:cI (.osl 1 i v off len lc) H=[]:=by
    simp only[Builtin.firstCells]at q3;cases q3;exact zAu (by simpa using q4.symm)
   rw[hn];simp[Conv.bytesToString];rfl
  |some a=>
   have hl:(loadCells a len).run P c.w=.ok (((cI (.osl 1 i v off len lc) H).map u8N).map (Value.int .u8)).toArray c.w:=by
    rw[zBC];simp only[Builtin.firstCells,zAo]at q3;rw[q3,hus];rfl
   rw[run_bytesToString c.w a len cap _ hl,foldl_push_bytes];simp[ByteArray.empty,ByteArray.emptyWithCapacity];rfl
 ·rename_i s;cases hu:aPT P dst with
  |false=>
   simp only[hu,zCc,aCK.ofBRH]at hs ⊢;obtain⟨v,h1,h2⟩:=aconv_sound (P:=P) hx hs;exact⟨c,v,h1,hst,Ext.refl c,h2⟩
  |true=>
   simp only[hu,cond_true]at hs ⊢;obtain⟨e,he,hb⟩:=u8Sl_t hu;obtain⟨d,hd⟩:=Option.isSome_iff_exists.1 hs;have hR:=hx.str_R;have hsz:(⟨s.toArray⟩:ByteArray).size=s.length:=by simp[ByteArray.size]
   have hcap:s.length≤grownCap c.w s.length 0 e:=by simp[grownCap,Question.cut]
   have hbs:(Lib.bytesCells c.w e ⟨s.toArray⟩).size=grownCap c.w s.length 0 e:=by simp[Lib.bytesCells,hsz];omega
   rw[hx.str_inv];have hrun:=Lib.run_convert_string_bytes (P:=P) c.w src dst e ⟨s.toArray⟩ hd he hb;rw[bytesWorld_eq,hsz]at hrun;refine⟨_,_,hrun,hst.draw.push (.cells (Lib.bytesCells c.w e ⟨s.toArray⟩) e ((Lib.bytesCells c.w e ⟨s.toArray⟩).size,(Lib.bytesCells c.w e ⟨s.toArray⟩).size+1)) (B:=.cells 1 (cI (.str s) H)) 1 ?_,(Ext.draw c).trans (Ext.push hst.draw _ 1),?_⟩
   ·refine .cells _ _ _ e _ (by simp[Ctx.push]) (by simp[Ctx.push]) (by simp only[Ctx.push,zBy];exact qB _ _) (by rw[hbs];simp[cI];omega) (.inl (zAb _)) (fun j y u hj hu=>?_)
    simp only[cI,zAY,zAy]at hj;obtain⟨b,hb1,rfl⟩:=hj;have hjl:=(eT.1 hb1).1;have:(Lib.bytesCells c.w e ⟨s.toArray⟩)[j]?=some (.int .u8 b.toNat):=by
     simp only[Lib.bytesCells];rw[zAH (by simpa using hjl)]
     simp[hb1]
    rw[this]at hu;cases hu;exact .int _ _ (aCx.2 ⟨by omega,by have:=b.toNat_lt;omega⟩)
   ·refine .osl _ _ _ _ _ _ _ (by simp[Ctx.push,Ctx.draw,hst.n]) (by simp[Ctx.push,Ctx.draw,hst.n]) rfl hR (fun _ hd=>by simp[Ctx.push,Ctx.draw,hst.n]at hd) (fun _ _=>?_)
    refine⟨_,grownCap c.w s.length 0 e,grownCap c.w s.length 0 e,rfl,zAb _,hcap,.inr (by simp[Ctx.push,Ctx.draw,hst.n]),?_,by omega⟩
    simp only[bsize,Ctx.push,Ctx.draw,hst.n,zBy];rw[qB];exact zA5 some hbs
 ·simp only[aCK.ofBRH]at hs ⊢;obtain⟨v,h1,h2⟩:=aconv_sound (P:=P) hx hs;exact⟨c,v,h1,hst,Ext.refl c,h2⟩
end
end Go.Proofs.YtigedpfipifefaaGreatDoor
