/- What the functions of this seat answer (2 of 40). No condition. -/
import Derived.Test.YthafnbmdmfoobaaGreatDoorWorkAA
import Derived.Laws.Append
import Derived.MapKept
import Derived.Still
import Derived.Laws.BytesArg
set_option linter.unusedSimpArgs false
set_option linter.unusedVariables false
set_option linter.unusedSectionVars false
set_option maxRecDepth 100000
set_option maxHeartbeats 16000000
namespace Go.Proofs.YthafnbmdmfoobaaGreatDoor
section
variable {P:Program}
def Ctx.draw(c:Ctx):Ctx:={c with w:={c.w with drawn:=c.w.drawn+1}}
theorem Ext.draw(c:Ctx):Ext c c.draw:=⟨bk _,bk _,fun _ h=>⟨h,rfl⟩,fun _ _=>bk _,fun _ _ _=>⟨rfl,rfl,fun _=>rfl⟩,rfl,rfl,rfl,rfl⟩
theorem bA.draw{c:Ctx}{H:ab}(h:bA c H):bA c.draw H:=
 ⟨h.n,h.lt,h.inj,h.st,fun i b hi=>(h.rep i b hi).mono (Ext.draw c) (by rw[h.n];grind) (fun _ _ aL=>aL) rfl (fun _=>rfl)⟩
def Ctx.fix(c:Ctx)(o:Obj):Ctx:={c with w:=c.w.alloc o,jy:=fun b=>c.jy b∨b=c.w.heap.size}
theorem Ext.fix{c:Ctx}{H:ab}(av:bA c H)(o:Obj):Ext c (c.fix o) where
 n:=bk _
 size:=by simp[Ctx.fix]
 st:=fun b aa=>⟨.inl aa,uP (av.st b aa).1⟩
 bg:=fun _ _=>bk _
 aE:=fun i hi _=>⟨rfl,rfl,fun hd=>by unfold bsize Ctx.fix;simp only;rw[uP (av.lt i hi hd)]⟩
 os:=rfl
 tape:=rfl
 output:=rfl
 base:=rfl
theorem bA.fix{c:Ctx}{H:ab}(av:bA c H)(o:Obj):bA (c.fix o) H where
 n:=av.n
 lt:=fun i hi hd=>by have:=av.lt i hi hd;simp[Ctx.fix];omega
 inj:=av.inj
 st:=fun k hk=>by
  rcases hk with hk|rfl
  ·obtain⟨h1,h2⟩:=av.st k hk;exact⟨by simp[Ctx.fix];omega,h2⟩
  ·refine⟨by simp[Ctx.fix],fun i b hi aa hd=>?_⟩
   have:=av.lt i (by rw[av.n];grind) hd
   simp only[Ctx.fix];omega
 rep:=fun i b hi=>by
  have bS:i<c.n:=by rw[av.n];exact(cA.1 hi).1
  exact(av.rep i b hi).mono (Ext.fix av o) bS (fun _ _ aL=>aL) rfl (fun hd=>uP (av.lt i bS hd))
def gz(x:I)(H:ab):List I:=
 match x with
 |.sl _ es=>es.flatMap I.cells
 |.osl s i _ off len _=>match ao H i with
  |.cells _ cs=>(cs.drop off).take (len * s)
  |_=>[]
 |.str s=>s.map fun b=>.int .u8 b.toNat
 |_=>[]
def fa(x:I):Nat:=
 match x with
 |.sl _ es=>es.length
 |.osl _ _ _ _ len _=>len
 |.str s=>s.length
 |_=>0
def s8(x:I)(n:Nat)(H:ab):Prop:=
 match x with
 |.sl _ es=>∀e∈es,e.cells.length=n
 |.osl s i v off len lc=>s=n∧ni H (.osl s i v off len lc)∧match ao H i with
  |.cells _ cs=>off+len * s<=cs.length
  |_=>False
 |.str _=>n=1
 |_=>False
theorem CO{es:List I}{s:Nat}(h:∀e∈es,e.cells.length=s):(es.flatMap I.cells).length=es.length * s:=by
 induction es<;>grind
theorem KP{es:List I}{s:Nat}(h:∀e∈es,e.cells.length=s)(k j:Nat)(aw:j<s):(es.flatMap I.cells)[k * s+j]?=(es[k]?).bind fun e=>e.cells[j]?:=by
 induction es generalizing k with
 |nil=>simp
 |cons e es ay=>
  have he:=h e (by simp)
  rw[qe];cases k with
  |zero=>grind
  |succ k=>
   grind
theorem vX{c:Ctx}{H:ab}{x:I}{v:Value}{n:Nat}(av:bA c H)(J:aK c x v)(bl:s8 x n H):
  (Builtin.lenOf v).run P c.w=.ok (fa x) c.w∧(gz x H).length=fa x * n∧
  ∃us:Array Value,(Builtin.firstCells n (fa x) v).run P c.w=.ok us c.w∧us.size=(gz x H).length∧(∀(i:Nat) (y:I) (u:Value),(gz x H)[i]?=some y->us[i]?=some u->aK c y u):=by
 cases x<;>simp only[s8]at bl;case sl full es=>
  obtain⟨base,len,cap,s,vs,rfl,rfl,h2,h3,h4,cz,eK⟩:=J.pj;refine⟨by simp[Builtin.lenOf,fa],by simp only[gz,fa];exact CO bl,?_⟩
  simp only[gz,fa];by_cases aP:es=[]
  ·subst aP;cases base with
   |none=>simp[Builtin.firstCells]
   |some a=>exact⟨#[],by simp[Builtin.firstCells,loadCells,loadCellsFrom],by simp,by simp⟩
  ·obtain⟨a,rfl,bZ,dO,kc⟩:=h4 aP;obtain⟨dP,lX⟩:=List.exists_mem_of_ne_nil es aP;have hs:s=n:=by rw[<-cz dP lX,bl dP lX]
   subst hs;have pT:∀m,m<es.length * s->c.w.cell? (a.add m)=some (vs (m / s) (m % s)):=by
    intro m hm;have nH:0<s:=by
     rcases Nat.eq_zero_or_pos s with h|h
     ·subst h;omega
     ·exact h
    have lz:=kc (m / s) (m % s) ((Nat.div_lt_iff_lt_mul nH).2 hm) (Nat.mod_lt _ nH);rwa[Nat.mul_comm,Nat.div_add_mod]at lz
   refine⟨_,by simp only[Builtin.firstCells];exact run_loadCells (P:=P) c.w a _ (fun m=>vs (m / s) (m % s)) pT,by simp[CO bl],fun i y u hi hu=>?_⟩
   have ak:i<es.length * s:=by
    have:=(cA.1 hi).1;rwa[CO bl]at this
   have nH:0<s:=by
    rcases Nat.eq_zero_or_pos s with h|h
    ·subst h;omega
    ·exact h
   simp[ak]at hu;subst hu;have lW:=KP bl (i / s) (i % s) (Nat.mod_lt _ nH);rw[Nat.mul_comm,Nat.div_add_mod]at lW;rw[lW]at hi;cases hk:es[i / s]? with
   |none=>rw[hk]at hi;cases hi
   |some e=>rw[hk]at hi;exact eK _ _ _ _ hk hi
 case osl s i v off len lc=>
  obtain⟨rfl,hl,bl⟩:=bl;have aL:=v9 av hl;simp only[gz,fa];cases ah:ao H i with
  |cells bg cs=>
   simp only[ah]at bl ⊢;obtain⟨base,cap,rfl,h1,Ch,h2,h3⟩:=J.ph aL;refine⟨by simp[Builtin.lenOf],by simp;omega,?_⟩
   cases hd:c.dR i with
   |true=>
    obtain⟨rfl,rfl⟩:=h2 hd;cases base with
    |none=>exact⟨#[],by simp[Builtin.firstCells],by simp,by simp⟩
    |some a=>exact⟨#[],by simp[Builtin.firstCells,loadCells,loadCellsFrom],by simp,by simp⟩
   |false=>
    obtain⟨cK,m,dc,ei⟩:=h3 hd;rcases cK with cK|rfl
    ·have aC:len=0:=by omega
     subst aC;cases base with
     |none=>exact⟨#[],by simp[Builtin.firstCells],by simp,by simp⟩
     |some a=>exact⟨#[],by simp[Builtin.firstCells,loadCells,loadCellsFrom],by simp,by simp⟩
    ·obtain⟨_,_,vs,e,cd,aa,sw,an,ax⟩:=av.cells ah hd;refine⟨_,by simp only[Builtin.firstCells];exact run_loadCells (P:=P) c.w _ _ (fun j=>vs.getD (off+j) undef) (fun j aw=>by rw[rR,AA aa];simp[show off+j<vs.size by omega]),by simp;omega,fun k y u hk hu=>?_⟩
     rw[List.getElem?_take,List.getElem?_drop]at hk;split at hk
     ·rename_i ak;simp[ak]at hu;subst hu;have CB:=(cA.1 hk).1;refine ax _ _ _ hk ?_;simp[show off+k<vs.size by omega]
     ·cases hk
  |_=>simp[ah]at bl
 case str s=>
  subst bl;rw[J.nT];have e:(Builtin.firstCells 1 (fa (.str s)) (.string ⟨s.toArray⟩)).run P c.w=.ok (s.map fun b=>Value.int .u8 b.toNat).toArray c.w:=by
   simp only[Builtin.firstCells,Sem.run_pure,fa];congr 1;apply Array.ext'
   simp[ByteArray.data_extract,rX]
  refine⟨by simp[Builtin.lenOf,fa,uL],by simp[gz,fa],_,e,by simp[gz],fun i y u hi hu=>?_⟩
  simp only[gz,nj,jC]at hi;obtain⟨b,aa,rfl⟩:=hi;rw[List.getElem?_toArray,nj,aa]at hu;cases hu;exact .int _ _ (H2.2 ⟨by omega,by have:=b.toNat_lt;omega⟩)
theorem UG{w:World}{b:Nat}{vs:Array Value}{e:TypeId}{cd:Nat×Nat}(h:w.heap[b]?=some (.cells vs e cd)):bsize w b=some vs.size:=by simp[bsize,h]
def nQ(P:Program)(e:TypeId):Bool:=(P.underlying e).isSome&&(eN P e).known&&((eN P e).cells.length==P.cellsOf e)
def vl(P:Program)(t:TypeId):Bool:=
 match P.underlying t with
 |some (.int _)=>false
 |some _=>true
 |none=>false
def tY(P:Program)(ts eO:TypeId)(s x:I)(H:ab):kK:=
 match P.underlying ts with
 |some (.slice e)=>
  match s with
  |.sl full es=>⟨.osl (P.cellsOf e) H.length 1 0 (es.length+fa x) (es.length+fa x),H++[.cells 1 (es.flatMap I.cells++gz x H)],
    nQ P e=true∧vl P eO=true∧full=true∧(es=[]∨fa x≠0)∧(∀x∈es,x.cells.length=P.cellsOf e)∧s8 x (P.cellsOf e) H∧(es.length+fa x) * P.bytesOf e<=140737488355328∧P.bytesOf e≠0⟩
  |.osl sz i v off len lc=>
   match ao H i with
   |.cells bg cs=>
    if len=lc then
     ⟨.osl sz i (v+1) 0 (len+fa x) (len+fa x),ai H i (.cells (v+1) (cs++gz x H)),
      nQ P e=true∧vl P eO=true∧v=bg∧v≠0∧off=0∧sz=P.cellsOf e∧len * sz=cs.length∧s8 x sz H∧(len+fa x) * P.bytesOf e<=140737488355328∧P.bytesOf e≠0∧(gz x H).all I.one=true⟩
    else
     ⟨.osl sz i v off (len+fa x) lc,ai H i (.cells v (dw cs (off+len * sz) (gz x H))),
      nQ P e=true∧vl P eO=true∧v=bg∧sz=P.cellsOf e∧off+lc * sz<=cs.length∧len+fa x<=lc∧s8 x sz H∧(gz x H).all I.one=true⟩
   |_=>⟨.top,H,False⟩
  |_=>⟨.top,H,False⟩
 |_=>⟨.top,H,False⟩
theorem Nd{n b:Nat}(h:n * b<=140737488355328)(aC:b≠0):n<=9223372036854775807:=by
 have:=Nat.le_mul_of_pos_right n (Nat.pos_of_ne_zero aC);omega
theorem Ef(z:Array Value)(n:Nat):(Builtin.zeroCells z n).size=n * z.size:=by simp[Builtin.zeroCells]
theorem SZ{w:World}{ts eO ty e:TypeId}{s x:Value}{base:Option Addr}{len cap n:Nat}{W2 new:Array Value}(hu:P.underlying ts=some (.slice e))(bl:nQ P e=true)(lG:vl P eO=true)
  (ag:(Builtin.lenOf x).run P w=.ok n w) (hs:s=.slice base len cap) (kR:cap<len+n) (aa:(len+n) * P.bytesOf e<=140737488355328) (iG:P.bytesOf e≠0)
  (hold:(Builtin.firstCells (P.cellsOf e) len s).run P {w with drawn:=w.drawn+1}=.ok W2 {w with drawn:=w.drawn+1})
  (nF:(Builtin.firstCells (P.cellsOf e) n x).run P {w with drawn:=w.drawn+1}=.ok new {w with drawn:=w.drawn+1}):
  ∃(k5:Nat) (rest:Array Value),len+n<=k5∧rest.size=(k5-(len+n)) * P.cellsOf e∧
   (Builtin.append_ #[ts,eO] ty #[s,x]).run P w=.ok (.slice (some ⟨w.heap.size,0,none⟩) (len+n) k5) (World.alloc {w with drawn:=w.drawn+1} (.cells (W2++new++rest) e)):=by
 simp only[nQ,dD,qj]at bl;obtain⟨⟨h1,h2⟩,h3⟩:=bl;obtain⟨d,hd⟩:=Option.isSome_iff_exists.1 h1;obtain⟨i,hi,VK⟩:=J7 hd;obtain⟨z,gr,ix⟩:=sb (P:=P) h2 {w:=w,n:=0,aE:=fun _=>0,bg:=fun _=>0,dR:=fun _=>true,jy:=fun _=>False,base:=0}
 have qw:z.cells.size=P.cellsOf e:=by rw[(ix.cells h2).1,h3]
 have tv:i.bytes=P.bytesOf e:=by simp[Program.bytesOf,hi]
 have mL:∃sg,P.underlying eO=some sg∧(∀k,sg≠.int k):=by
  grind [vl]
 obtain⟨sg,tz,VO⟩:=mL;have hzero:(match sg with|.int _=>true|_=>false)=false:=by
  simp_all
 subst hs;have V9:¬(len+n<=cap):=by omega
 have mf:Builtin.nextslicecap (len+n) cap * i.bytes<=281474976710656:=by rw[tv];exact growslice_fits kR aa
 have pU:¬(((len+n:Nat):Int)>IntKind.i64.max∧(False∨i.bytes=0)):=by rw[tv];simp[iG]
 let k5:=(len+n)+(w.tape w.drawn (.appendCap (len+n) cap e)) % (2 ^ 63-(len+n))
 refine⟨k5,Builtin.zeroCells z.cells (k5-(len+n)),by omega,by rw[Ef,qw],?_⟩
 have kP:¬(Builtin.nextslicecap (len+n) cap * i.bytes>281474976710656):=by omega
 have N5:decide (Builtin.nextslicecap (len+n) cap * i.bytes>281474976710656)=false:=by simpa using mf
 simp only[World.drew_eq]at hold nF ⊢;have CE:(Question.appendCap (len+n) cap e).cut (w.tape w.drawn (.appendCap (len+n) cap e))=k5:=rfl;simp[Builtin.append_,run_underlying hu,hP hd,run_underlying tz,ag,V9,iG,typeInfo,hi,tv,Question.forced,hold,nF,gr,newRow];rw[az (by rw[<-tv];omega),CE]
theorem BN{w w':World}{ts eO ty e:TypeId}{x:Value}{base:Option Addr}{len cap n:Nat}{new:Array Value}(hu:P.underlying ts=some (.slice e))(bl:nQ P e=true)(lG:vl P eO=true)
  (ag:(Builtin.lenOf x).run P w=.ok n w) (hle:len+n<=cap) (nF:(Builtin.firstCells (P.cellsOf e) n x).run P w=.ok new w)
  (av:∀a,base=some a->(storeCells (a.add (len * P.cellsOf e)) new.toList).run P w=.ok () w') (hw:base=none->w'=w):
  (Builtin.append_ #[ts,eO] ty #[.slice base len cap,x]).run P w=.ok (.slice base (len+n) cap) w':=by
 simp only[nQ,dD,qj]at bl;obtain⟨⟨h1,h2⟩,h3⟩:=bl;obtain⟨d,hd⟩:=Option.isSome_iff_exists.1 h1;have mL:∃sg,P.underlying eO=some sg∧(∀k,sg≠.int k):=by
  unfold vl at lG;cases Wx:P.underlying eO with
  |none=>rw[Wx]at lG;cases lG
  |some sg=>exact⟨sg,rfl,fun k hk=>by rw[Wx,hk]at lG;cases lG⟩
 obtain⟨sg,tz,VO⟩:=mL;have hzero:(match sg with|.int _=>true|_=>false)=false:=by
  cases sg<;>first|rfl|exact absurd rfl (VO _)
 cases base with
 |none=>
  rw[hw rfl];simp[Builtin.append_,run_underlying hu,hP hd,run_underlying tz,ag,hle,nF]
 |some a=>
  have:=av a rfl;simp[Builtin.append_,run_underlying hu,hP hd,run_underlying tz,ag,hle,nF,this]
def Ctx.void(c:Ctx):Ctx:=
 {w:=c.w,n:=c.n+1,aE:=c.aE,bg:=fun i=>if i=c.n then 1 else c.bg i,dR:=fun i=>if i=c.n then true else c.dR i,jy:=c.jy,base:=c.base}
theorem Ext.void(c:Ctx):Ext c c.void:=
 ⟨pq _,bk _,fun _ h=>⟨h,rfl⟩,fun i hi=>by grind [Ctx.void],fun i hi _=>⟨rfl,by simp[Ctx.void,show ¬i=c.n by omega],fun _=>rfl⟩,rfl,rfl,rfl,rfl⟩
theorem bA.void{c:Ctx}{H:ab}(av:bA c H):bA c.void (H++[.cells 1 []]):=by
 have ag:=av.n;have cv:∀{i:Nat} {b:bu},(H++[.cells 1 []])[i]?=some b->c.void.dR i=false->i<c.n∧H[i]?=some b∧c.dR i=false:=by
  intro i b hi hd;have aH:i<H.length+1:=by simpa using(cA.1 hi).1
  simp only[Ctx.void]at hd;grind
 refine⟨by simp[Ctx.void,ag],fun i hi hd=>?_,fun i j b cN hi aw aa fQ re fH he=>?_,fun k hk=>?_,fun i b hi=>?_⟩
 ·simp only[Ctx.void]at hi hd ⊢;by_cases h:i=c.n
  ·simp[h]at hd
  ·simp only[h,eF]at hd;exact av.lt i (by omega) hd
 ·obtain⟨h1,h2,h3⟩:=cv hi re;obtain⟨aZ,a7,ch⟩:=cv aw fH;exact av.inj i j b cN h2 a7 aa fQ h3 ch he
 ·obtain⟨h1,h2⟩:=av.st k hk;refine⟨h1,fun i b hi aa hd=>?_⟩
  obtain⟨aZ,a7,ch⟩:=cv hi hd;exact h2 i b a7 aa ch
 ·have aH:i<H.length+1:=by simpa using(cA.1 hi).1
  by_cases h:i=c.n
  ·subst h;rw[ag]at hi;simp at hi;subst hi;exact .void 1 (by simp[Ctx.void]) (by simp[Ctx.void])
  ·rw[iC (by omega)]at hi
   exact(av.rep i b hi).mono (Ext.void c) (by omega) (fun j aw aL=>by simp[Ctx.void,show ¬j=c.n by omega,aL]) (by simp[Ctx.void,h]) (fun _=>rfl)
def Ctx.k7(c:Ctx)(i:Nat):Ctx:={c with bg:=fun j=>if j=i then c.bg i+1 else c.bg j}
theorem Ext.k7(c:Ctx)(i:Nat):Ext c (c.k7 i):=by
 refine⟨bk _,bk _,fun _ h=>⟨h,rfl⟩,fun j aw=>?_,fun j aw _=>⟨rfl,rfl,fun _=>rfl⟩,rfl,rfl,rfl,rfl⟩
 grind [Ctx.k7]
theorem bA.Xh{c:Ctx}{H:ab}(av:bA c H){i bg:Nat}{B B':bu}(hi:H[i]?=some B)(aL:bg≠0)(hL:c.bg i=bg)(bK:kp (c.k7 i) i B')(Vn:B.live:=by trivial):
  Ext c (c.k7 i)∧bA (c.k7 i) (ai H i B'):=by
 have ak:i<H.length:=(cA.1 hi).1;refine⟨Ext.k7 c i,⟨by simp[ai,Ctx.k7,av.n],av.lt,fun j k b cN aw hk aa fQ fH g1 he=>?_,fun k hk=>⟨(av.st k hk).1,fun j b aw aa hd=>?_⟩,fun j b aw=>?_⟩⟩
 ·simp only[ai]at aw hk;have h1:∃x,H[j]?=some x∧x.live:=by
   grind
  have h2:∃x,H[k]?=some x∧x.live:=by
   by_cases h:k=i
   ·subst h;exact⟨B,hi,Vn⟩
   ·rw[gS (by omega)]at hk;exact⟨cN,hk,fQ⟩
  obtain⟨x,fr,dZ⟩:=h1;obtain⟨y,nV,oH⟩:=h2;exact av.inj j k x y fr nV dZ oH fH g1 he
 ·simp only[ai]at aw;by_cases h:j=i
  ·subst h;exact(av.st k hk).2 j B hi Vn hd
  ·rw[gS (by omega)]at aw;exact(av.st k hk).2 j b aw aa hd
 ·by_cases h:j=i
  ·subst h;simp[ai,ak]at aw;subst aw;exact bK
  ·simp only[ai]at aw;rw[gS (by omega)]at aw
   have yd:j<c.n:=by rw[av.n];exact(cA.1 aw).1
   refine(av.rep j b aw).mono (Ext.k7 c i) yd (fun k _ j1=>?_) (by simp[Ctx.k7,h]) (fun _=>rfl)
   simp only[Ctx.k7];have:k≠i:=fun e=>aL (by rw[<-hL,<-e];exact j1)
   simp[this,j1]
theorem Uh{c:Ctx}{xs ys:List I}{us vs rest:Array Value}(h1:us.size=xs.length)(h2:∀(i:Nat) (y:I) (u:Value),xs[i]?=some y->us[i]?=some u->aK c y u)
  (h3:vs.size=ys.length) (h4:∀(i:Nat) (y:I) (u:Value),ys[i]?=some y->vs[i]?=some u->aK c y u) (i:Nat) (y:I) (u:Value) (hi:(xs++ys)[i]?=some y) (hu:(us++vs++rest)[i]?=some u):aK c y u:=by
 grind
theorem TU{c:Ctx}{H:ab}{ts eO ty:TypeId}{s x:I}{vs ck:Value}(av:bA c H)(nI:aK c s vs)(J:aK c x ck)(hs:(tY P ts eO s x H).s):
  n7 P (Builtin.append_ #[ts,eO] ty #[vs,ck]) c (tY P ts eO s x H).v (tY P ts eO s x H).H:=by
 unfold tY at *;cases hu:P.underlying ts with
 |none=>simp[hu]at hs
 |some aIe=>
  cases aIe<;>simp only[hu]at hs;case slice e=>
   simp only;cases s<;>simp only at hs;case sl full es=>
    obtain⟨bl,lG,rfl,a2,tC,tN,aa,iG⟩:=hs;simp only;have pY:s8 (.sl true es) (P.cellsOf e) H:=tC;obtain⟨aQ,aO,us,bF,c9,eA⟩:=vX (P:=P) av J tN;obtain⟨base,len,cap,sz,vu,rfl,rfl,a7,ch,fc, -⟩:=nI.pj;have mf:=ch rfl;subst mf;by_cases ag:fa x=0
    · -- nothing is appended to nothing
      have aJk:es=[]:=a2.resolve_right (fun h=>h ag)
      subst aJk;have rA:us= #[]:=by
       have:us.size=0:=by rw[c9,aO,ag];simp
       exact Array.eq_empty_of_size_eq_zero this
      have iV:=BN (P:=P) (w':=c.w) (ty:=ty) (base:=base) (len:=0) (cap:=0) hu bl lG aQ (by omega) bF (fun a _=>by rw[rA];simp[storeCells]) (fun _=>rfl)
      have fk:gz x H=[]:=jg (by rw[aO,ag];simp)
      refine⟨c.void,_,iV,?_,Ext.void c,?_⟩
      ·rw[fk];exact av.void
      ·rw[ag];refine .osl _ _ _ _ _ _ _ (by simp[Ctx.void,av.n]) (by simp[Ctx.void,av.n]) rfl (by simp) (fun _ _=>⟨rfl,rfl,base,rfl⟩) (fun _ hd=>by simp[Ctx.void,av.n]at hd)
    ·obtain⟨-,dc,C8,ei,oy,yH⟩:=vX (P:=P) av.draw (nI.mono (Ext.draw c)) pY;obtain⟨-, -,Dv,a1,a4,eh⟩:=vX (P:=P) av.draw (J.mono (Ext.draw c)) tN;obtain⟨k5,rest,k1,k2,k3⟩:=SZ (P:=P) (ty:=ty) (w:=c.w) hu bl lG aQ rfl (by omega) aa iG ei a1
     have hf:=av.draw.push (.cells (C8++Dv++rest) e) (B:=.cells 1 (es.flatMap I.cells++gz x H)) 1 (by
      refine .cells _ _ _ e (0,0) (by simp[Ctx.push]) (by simp[Ctx.push]) (by simp only[Ctx.push,dI];exact pg _ _) ?_ (.inr (bk _)) (fun i y u hi hu=>?_)
      ·simp only[bt,Array.size_append];rw[oy,a4];simp only[gz];omega
      ·exact(Uh oy yH a4 eh i y u hi hu).mono (Ext.push av.draw _ 1))
     refine⟨_,_,k3,hf,(Ext.draw c).trans (Ext.push av.draw _ 1),?_⟩;refine .osl _ _ _ _ _ _ _ (by simp[Ctx.push,Ctx.draw,av.n]) (by simp[Ctx.push,Ctx.draw,av.n]) rfl (Nd aa iG) (fun _ hd=>by simp[Ctx.push,Ctx.draw,av.n]at hd) (fun _ _=>?_)
     refine⟨_,k5,(C8++Dv++rest).size,rfl,bk _,k1,.inr (by simp[Ctx.push,Ctx.draw,av.n]),?_,?_⟩
     ·simp only[bsize,Ctx.push,Ctx.draw,av.n,dI];have:=pg {c.w with drawn:=c.w.drawn+1} (.cells (C8++Dv++rest) e)
      simp only at this;rw[this]
     ·simp only[Array.size_append];rw[oy,a4,k2];have ar:(gz (.sl true es) H).length=es.length * P.cellsOf e:=dc;rw[ar,aO,<-n1,<-n1];have:es.length+fa x+(k5-(es.length+fa x))=k5:=by omega
      rw[this];omega
   case osl sz i v off len lc=>
    simp only;cases ah:ao H i with
    |cells bg cs=>
     simp only[ah]at hs ⊢;by_cases wE:len=lc
     ·rw[aF wE]at hs ⊢;subst wE;obtain⟨bl,lG,rfl,Ak,rfl,rfl,hlen,tN,aa,iG,qv⟩:=hs;have hL:=av.qP ah;have aKq:s8 (.osl (P.cellsOf e) i v 0 len len) (P.cellsOf e) H:=by
       refine⟨rfl,by simp[ni,ah],?_⟩
       simp only[ah];omega
      obtain⟨aQ,aO,us,bF,c9,eA⟩:=vX (P:=P) av J tN;obtain⟨base,cap,rfl,a7,IV,ch,fc⟩:=nI.ph hL;have hi:i<c.n:=by rw[av.n];exact c8 ah trivial
      have iW:=kd ah trivial;by_cases FI:len+fa x<=cap
      · -- it fits
        cases hd:c.dR i with
        |true=>
         obtain⟨rfl,rfl⟩:=ch hd;have ag:fa x=0:=by omega
         have aJc:cs=[]:=jg (by omega)
         have wJ:gz x H=[]:=jg (by rw[aO,ag];simp)
         have rA:us= #[]:=Array.eq_empty_of_size_eq_zero (by rw[c9,aO,ag];simp)
         have iV:=BN (P:=P) (w':=c.w) (ty:=ty) (base:=base) (len:=0) (cap:=0) hu bl lG aQ (by omega) bF (fun a _=>by rw[rA];simp[storeCells]) (fun _=>rfl)
         obtain⟨ho,ic⟩:=av.Xh (B':=.cells (v+1) (cs++gz x H)) iW Ak hL (by
          rw[aJc,wJ];exact .void _ (by simp[Ctx.k7,hL]) (by simp[Ctx.k7,hd]))
         refine⟨c.k7 i,_,iV,ic,ho,?_⟩;rw[ag];exact .osl _ _ _ _ _ _ _ hi (by simp[Ctx.k7,hL]) rfl (by omega) (fun _ _=>⟨rfl,rfl,base,rfl⟩) (fun _ hn=>by simp[Ctx.k7,hd]at hn)
        |false=>
         obtain⟨cK,m,dc,ei⟩:=fc hd;obtain⟨_,_,vu,ku,cd,fQ,sw,an,ax⟩:=av.cells ah hd;have hm:vu.size=m:=by simp[bsize,fQ]at dc;exact dc
         rcases Nat.eq_zero_or_pos cap with wB|aJb
         · -- no room at all: nothing is appended
           subst wB;have ag:fa x=0:=by omega
           have lF:len=0:=by omega
           subst lF;have wJ:gz x H=[]:=jg (by rw[aO,ag];simp)
           have rA:us= #[]:=Array.eq_empty_of_size_eq_zero (by rw[c9,aO,ag];simp)
           have iV:=BN (P:=P) (w':=c.w) (ty:=ty) (base:=base) (len:=0) (cap:=0) hu bl lG aQ (by omega) bF (fun a _=>by rw[rA];simp[storeCells]) (fun _=>rfl)
           obtain⟨ho,ic⟩:=av.Xh (B':=.cells (v+1) (cs++gz x H)) iW Ak hL (by
            rw[wJ,b2];refine .cells _ _ vu ku cd (by simp[Ctx.k7,hL]) (by simp[Ctx.k7,hd]) (by simpa[Ctx.k7]using fQ) sw an (fun j y u h1 h2=>(ax j y u h1 h2).mono (Ext.k7 c i)))
           refine⟨c.k7 i,_,iV,ic,ho,?_⟩;rw[ag];exact .osl _ _ _ _ _ _ _ hi (by simp[Ctx.k7,hL]) rfl (by omega) (fun _ hn=>by simp[Ctx.k7,hd]at hn) (fun _ _=>⟨_,0,m,rfl,bk _,bk _,.inl rfl,by simpa[Ctx.k7]using dc,by omega⟩)
         ·have pS:base=some ⟨c.aE i,0,none⟩:=cK.resolve_left (by omega)
          subst pS;have hmul:(len+fa x) * P.cellsOf e<=cap * P.cellsOf e:=vI _ FI;have aJ3:(len+fa x) * P.cellsOf e=len * P.cellsOf e+fa x * P.cellsOf e:=n1 _ _ _;have FD:∀u∈us.toList,u.oneCell'=true:=by
           intro u kC;obtain⟨k,hX,eb⟩:=s5 kC;simp only[Array.length_toList]at hX;have aG:(gz x H)[k]?=some ((gz x H)[k]'(by omega)):=c0 (by omega)
           exact(eA k _ u aG (by rw[<-eb];simp)).one (gT.1 qv _ (hv _))
          have aKs:=Xo (P:=P) (w:=c.w) (b:=c.aE i) (off:=len * P.cellsOf e) us.toList fQ (by simp;rw[c9,aO];omega) an FD
          have iV:=BN (P:=P) (ty:=ty) (base:=some ⟨c.aE i,0,none⟩) (len:=len) (cap:=cap) hu bl lG aQ FI bF (fun a aD=>by cases aD;rw[rR,mC];exact aKs) (fun h=>by cases h)
          obtain⟨ak,he⟩:=qg.1 fQ;have ON:(my vu (len * P.cellsOf e) us.toList).size=vu.size:=AT _ _ _;obtain⟨ho,ic⟩:=av.bump (B':=.cells (v+1) (cs++gz x H)) iW trivial (by rw[hL];exact Ak) (World.jS c.w (c.aE i) (my vu (len * P.cellsOf e) us.toList) ku cd) (c.aE i) (by simp[World.jS]) (by simpa[World.jS]using ak) (.inr ⟨rfl,hd⟩)
           (fun b _ aP=>Fh aP) rfl rfl rfl (by
            refine .cells _ _ (my vu (len * P.cellsOf e) us.toList) ku cd (by simp[Ctx.bump,hL]) (by simp[Ctx.bump]) (by simp only[Ctx.bump,dI];exact Fi ak) (by rw[ON,bt,aO];omega) (by rw[ON];exact an) (fun j y u h1 h2=>?_)
            refine aK.mono (c:=c) (av.II iW trivial (by rw[hL];exact Ak) _ _ (by simp[World.jS]) (.inr ⟨rfl,hd⟩) (fun b _ aP=>Fh aP) rfl rfl rfl) ?_
            rw[IY _ _ _ (gz x H).length (by simpa using c9) (by rw[aO];omega)]at h2
            by_cases aw:j<cs.length
            ·rw[iC aw]at h1;rw[az (by omega)]at h2
             exact ax _ _ _ h1 h2
            ·rw[qf (by omega)]at h1
             have gb:=(cA.1 h1).1;rw[aF (by omega)]at h2
             rw[hlen]at h2;exact eA _ _ _ h1 (by simpa using h2))
          refine⟨c.bump i _ _,_,iV,ic,ho,?_⟩;exact .osl _ _ _ _ _ _ _ hi (by simp[Ctx.bump,hL]) rfl (Nd aa iG) (fun _ hn=>by simp[Ctx.bump]at hn) (fun _ _=>⟨_,cap,m,rfl,bk _,FI,.inr (by simp[Ctx.bump]),by rw[<-hm,<-ON];exact UG (by simp only[Ctx.bump,dI];exact Fi ak),ei⟩)
      · -- a new array
        obtain⟨-,dc,C8,ei,oy,yH⟩:=vX (P:=P) av.draw (nI.mono (Ext.draw c)) aKq;obtain⟨-, -,Dv,a1,a4,eh⟩:=vX (P:=P) av.draw (J.mono (Ext.draw c)) tN;obtain⟨k5,rest,k1,k2,k3⟩:=SZ (P:=P) (ty:=ty) (w:=c.w) hu bl lG aQ rfl (by omega) aa iG ei a1
        have hold:gz (.osl (P.cellsOf e) i v 0 len len) H=cs:=by
         simp only[gz,ah,List.drop_zero];rw[hlen,eQ]
        rw[hold]at oy yH;obtain⟨ho,ic⟩:=av.draw.bump (B':=.cells (v+1) (cs++gz x H)) iW trivial (by simpa[Ctx.draw,hL]using Ak) (World.alloc {c.w with drawn:=c.w.drawn+1} (.cells (C8++Dv++rest) e)) c.w.heap.size (by simp[Ctx.draw]) (by simp) (.inl (by simp[Ctx.draw]))
         (fun b ak _=>uP (by simpa[Ctx.draw]using ak)) rfl rfl rfl (by
          refine .cells _ _ _ e (0,0) (by simp[Ctx.bump,Ctx.draw,hL]) (by simp[Ctx.bump]) (by simp only[Ctx.bump,dI];exact pg _ _) ?_ (.inr (bk _)) (fun j y u hi hu=>?_)
          ·simp only[bt,Array.size_append];omega
          ·exact(Uh oy yH a4 eh j y u hi hu).mono (av.draw.II iW trivial (by simpa[Ctx.draw,hL]using Ak) _ _ (by simp[Ctx.draw]) (.inl (by simp[Ctx.draw])) (fun b ak _=>uP (by simpa[Ctx.draw]using ak)) rfl rfl rfl))
        refine⟨c.draw.bump i _ _,_,k3,ic,(Ext.draw c).trans ho,?_⟩;refine .osl _ _ _ _ _ _ _ hi (by simp[Ctx.bump,Ctx.draw,hL]) rfl (Nd aa iG) (fun _ hd=>by simp[Ctx.bump]at hd) (fun _ _=>?_)
        refine⟨_,k5,(C8++Dv++rest).size,rfl,bk _,k1,.inr (by simp[Ctx.bump]),?_,?_⟩
        ·exact UG (by simp only[Ctx.bump,dI];exact pg _ _)
        ·simp only[Array.size_append];rw[oy,a4,k2,aO,<-hlen,<-n1,<-n1];have:len+fa x+(k5-(len+fa x))=k5:=by omega
         rw[this];omega
     ·rw[az wE]at hs ⊢;obtain⟨bl,lG,rfl,rfl,gE,hle,tN,qv⟩:=hs;have hL:=av.qP ah;obtain⟨aQ,aO,us,bF,c9,eA⟩:=vX (P:=P) av J tN;obtain⟨base,cap,rfl,a7,IV,ch,fc⟩:=nI.ph hL;have hi:i<c.n:=by rw[av.n];exact c8 ah trivial
      cases hd:c.dR i with
      |true=>have:=ch hd;omega
      |false=>
       obtain⟨cK,m,dc,ei⟩:=fc hd;have pS:base=some ⟨c.aE i,off,none⟩:=cK.resolve_left (by omega)
       subst pS;have FD:∀u∈us.toList,u.oneCell'=true:=by
        intro u kC;obtain⟨k,hX,eb⟩:=s5 kC;simp only[Array.length_toList]at hX;have aG:(gz x H)[k]?=some ((gz x H)[k]'(by omega)):=c0 (by omega)
        exact(eA k _ u aG (by rw[<-eb];simp)).one (gT.1 qv _ (hv _))
       have hmul:(len+fa x) * P.cellsOf e<=lc * P.cellsOf e:=vI _ hle;have aJ3:(len+fa x) * P.cellsOf e=len * P.cellsOf e+fa x * P.cellsOf e:=n1 _ _ _;obtain⟨w',gq,ho,ic⟩:=av.jS (P:=P) ah hd (off:=off+len * P.cellsOf e) (ys:=gz x H) (us:=us.toList) (by rw[aO];omega) (by simpa using c9) (fun k y u h1 h2=>eA k y u h1 (by simpa using h2)) FD
       have iV:=BN (P:=P) (ty:=ty) (base:=some ⟨c.aE i,off,none⟩) (len:=len) (cap:=cap) hu bl lG aQ (by omega) bF (fun a aD=>by cases aD;rw[rR];exact gq) (fun h=>by cases h)
       refine⟨{c with w:=w'},_,iV,ic,ho,?_⟩
       refine aK.mono ho (.osl _ _ _ _ _ _ _ hi (by rw[hL];exact bk _) rfl nI.Gh (fun _ hn=>by rw[hd]at hn;cases hn) (fun _ _=>⟨_,cap,m,rfl,hle,IV,.inr rfl,dc,ei⟩))
    |_=>simp[ah]at hs
end
section
variable {P:Program}
def BL(P:Program)(t:TypeId)(l c:I)(H:ab):kK:=
 match P.underlying t,l,c with
 |some (.slice e),.int _ l,.int _ c=>⟨.osl (P.cellsOf e) H.length 1 0 l.toNat c.toNat,H++[.cells 1 ((List.replicate c.toNat (eN P e)).flatMap I.cells)],
   nQ P e=true∧0<=l∧l<=c∧c<=9223372036854775807∧c.toNat * P.bytesOf e<=140737488355328⟩
 |_,_,_=>⟨.top,H,False⟩
theorem PZ{n:Int}(h1: -9223372036854775808<=n)(h2:n<=9223372036854775807):IntKind.i64.wrap n=n:=by
 grind [IntKind.wrap,IntKind.signed,IntKind.bits]
theorem ZN{c:Ctx}{H:ab}{t:TypeId}{l k:I}{Dw qb:Value}(av:bA c H)(hl:aK c l Dw)(hk:aK c k qb)(hs:(BL P t l k H).s):
  n7 P (Instr.makeSlice t Dw qb) c (BL P t l k H).v (BL P t l k H).H:=by
 unfold BL at *;split at hs
 ·rename_i e k1 l k2 n hu;obtain⟨bl,aC,hle,pU,aa⟩:=hs;rw[hl.iZ,hk.iZ];simp only[nQ,dD,qj]at bl;obtain⟨⟨aQ,aO⟩,bF⟩:=bl;obtain⟨d,hd⟩:=Option.isSome_iff_exists.1 aQ;obtain⟨i,hi,VK⟩:=J7 hd;obtain⟨z,gr,ix⟩:=sb (P:=P) aO c;have qw:z.cells.size=P.cellsOf e:=by rw[(ix.cells aO).1,bF]
  have tv:P.bytesOf e=i.bytes:=by simp[Program.bytesOf,hi]
  have ca:IntKind.i64.wrap l=l:=PZ (by omega) (by omega)
  have bT:IntKind.i64.wrap n=n:=PZ (by omega) (by omega)
  have ag:((n.toNat:Nat):Int)=n:=by omega
  have aSn:(i.bytes:Int) * n<=140737488355328:=by
   grind
  let Bh:Array Value:=if n.toNat * P.cellsOf e=0 then #[]else z.cells
  let ws:Array Value:=(Array.range (n.toNat * P.cellsOf e)).map fun k=>Bh[k % Bh.size]!
  have iV:(Instr.makeSlice t (.int k1 l) (.int k2 n)).run P c.w=.ok (.slice (some ⟨c.w.heap.size,0,none⟩) l.toNat n.toNat) (c.w.alloc (.cells ws e)):=by
   have cc:(decide (n<0)||decide ((i.bytes:Int) * n>2 ^ 48))=false:=by
    rw[xl];exact⟨by simp;omega,by simp;omega⟩
   have cI:((decide (n<0)||decide ((i.bytes:Int) * n>2 ^ 48))||decide (l<0)||decide (l>n))=false:=by
    rw[cc,vK,xl];exact⟨by simp;omega,by simp;omega⟩
   have FI:¬(n.toNat * i.bytes>roomBytes):=by
    rw[tv]at aa;have:roomBytes=140737488355328:=rfl;omega
   simp only[Instr.makeSlice,Sem.run_bind,run_underlying hu,Result.andThen_ok,asInt,asIntOf,Sem.run_pure,typeInfo,run_program,hi,ca,bT,cI,ht,eF,askRoom,FI,hP hd];by_cases a2:n.toNat * P.cellsOf e=0
   ·simp only[a2,dI,Sem.run_pure,Result.andThen_ok,newRow,Sem.run_bind];simp only[ws,Bh,a2,dI];rfl
   ·simp only[a2,eF,Sem.run_bind,gr,Sem.run_pure,Result.andThen_ok,newRow];simp only[ws,Bh,a2,eF];rfl
  have Am:ws.size=n.toNat * P.cellsOf e:=by simp[ws]
  have pT:∀x∈List.replicate n.toNat (eN P e),x.cells.length=P.cellsOf e:=fun x J=>by rw[(y2.1 J).2];exact bF
  have hlen:=CO pT;rw[List.length_replicate]at hlen;have hf:=av.push (.cells ws e) (B:=.cells 1 ((List.replicate n.toNat (eN P e)).flatMap I.cells)) 1 (by
   refine .cells _ _ ws e (0,0) (by simp[Ctx.push]) (by simp[Ctx.push]) (by simp only[Ctx.push,dI];exact pg _ _) (by rw[hlen,Am];exact bk _) (.inr (bk _)) (fun j y u aw hu=>?_)
   have lC:j<n.toNat * P.cellsOf e:=by have:=(cA.1 aw).1;omega
   have nH:0<P.cellsOf e:=Nat.pos_of_ne_zero fun h=>by rw[h,Nat.mul_zero]at lC;omega
   have hm:j % P.cellsOf e<P.cellsOf e:=Nat.mod_lt _ nH;have hdiv:j / P.cellsOf e * P.cellsOf e+j % P.cellsOf e=j:=by rw[Nat.mul_comm];exact Nat.div_add_mod _ _
   have h1:=KP pT (j / P.cellsOf e) (j % P.cellsOf e) hm;rw[hdiv,aw]at h1;have iw:j / P.cellsOf e<n.toNat:=Nat.div_lt_of_lt_mul (by rw[Nat.mul_comm];exact lC)
   rw[List.getElem?_replicate,aF iw,lb]at h1;have aKJ:Bh=z.cells:=az (by omega)
   have h2:ws[j]?=some (Bh[j % Bh.size]!):=by simp only[ws,Array.getElem?_map];rw[mY (by simpa using lC)];simp
   rw[h2,aKJ,qw]at hu;cases hu;refine aK.mono (Ext.push av _ 1) ((ix.cells aO).2 _ _ _ h1.symm ?_);rw[getElem!_pos z.cells (j % P.cellsOf e) (by omega)]
   exact mY _)
  refine⟨_,_,iV,hf,Ext.push av _ 1,?_⟩;refine .osl _ _ _ _ _ _ _ (by simp[Ctx.push,av.n]) (by simp[Ctx.push,av.n]) rfl (by omega) (fun _ hd=>by simp[Ctx.push,av.n]at hd) (fun _ _=>?_)
  refine⟨_,n.toNat,n.toNat * P.cellsOf e,rfl,by omega,bk _,.inr (by simp[Ctx.push,av.n]),?_,by omega⟩
  simp only[bsize,Ctx.push,av.n,dI];rw[pg];exact bH some Am
 ·exact hs.elim
def B6(P:Program)(t:TypeId)(d x:I)(H:ab):kK:=
 match P.underlying t,d with
 |some (.slice e),.osl sz i v off len _=>match ao H i with
  |.cells bg cs=>⟨.int .i64 (fa x),ai H i (.cells bg (dw cs off (gz x H))),
    v=bg∧(P.underlying e).isSome=true∧sz=P.cellsOf e∧off+len * sz<=cs.length∧fa x<=len∧s8 x sz H∧(gz x H).all I.one=true⟩
  |_=>⟨.top,H,False⟩
 |_,_=>⟨.top,H,False⟩
theorem aHQ{c:Ctx}{H:ab}{t u ty:TypeId}{d x:I}{dR ck:Value}(av:bA c H)(hd:aK c d dR)(J:aK c x ck)(hs:(B6 P t d x H).s):
  n7 P (Builtin.copy_ #[t,u] ty #[dR,ck]) c (B6 P t d x H).v (B6 P t d x H).H:=by
 unfold B6 at *;split at hs
 ·rename_i e sz i v off len lc hu;cases ah:ao H i with
  |cells bg cs=>
   simp only[ah]at hs ⊢;obtain⟨rfl,rm,rfl,hle,ag,tN,qv⟩:=hs;obtain⟨zB,rm⟩:=Option.isSome_iff_exists.1 rm;have hL:=av.qP ah;have e2:=hd.Gh;obtain⟨aQ,aO,us,bF,c9,eA⟩:=vX (P:=P) av J tN;obtain⟨base,cap,rfl,a7,IV,ch,fc⟩:=hd.ph hL;have hi:i<c.n:=by rw[av.n];exact c8 ah trivial
   have Jz:Nat.min (fa x) len=fa x:=uu ag;have iW:=kd ah trivial;have FD:∀u∈us.toList,u.oneCell'=true:=by
    intro u kC;obtain⟨k,hX,eb⟩:=s5 kC;simp only[Array.length_toList]at hX;have aG:(gz x H)[k]?=some ((gz x H)[k]'(by omega)):=c0 (by omega)
    exact(eA k _ u aG (by rw[<-eb];simp)).one (gT.1 qv _ (hv _))
   cases tP:c.dR i with
   |true=>
    obtain⟨rfl,rfl⟩:=ch tP;have u2:fa x=0:=by omega
    have wJ:gz x H=[]:=jg (by rw[aO,u2];simp)
    have rA:us= #[]:=Array.eq_empty_of_size_eq_zero (by rw[c9,wJ];rfl)
    have fk:dw cs off []=cs:=by simp[dw]
    have OF:ai H i (.cells v cs)=H:=by
     unfold ai;apply List.ext_getElem?
     intro j;by_cases aw:j=i
     ·subst aw;rw[oI (by rw[<-av.n];exact hi),iW]
     ·rw[gS (fun q=>aw q.symm)]
    refine⟨c,.int .i64 (fa x),?_,?_,Ext.refl c,.int _ _ (oM.2 (by omega))⟩
    ·cases base with
     |none=>simp only[Builtin.copy_,List.getElem?_toArray,y0,vz,Sem.run_bind,run_underlying hu,Result.andThen_ok,aQ,Jz,hP rm,bF,Sem.run_pure,goInt]
     |some a=>simp[Builtin.copy_,List.getElem?_toArray,y0,vz,Sem.run_bind,run_underlying hu,Result.andThen_ok,aQ,u2,hP rm,u2▸bF,Sem.run_pure,goInt,rA,storeCells]
    ·rw[wJ,fk,OF];exact av
   |false=>
    obtain⟨cK,m,dc,ei⟩:=fc tP;have hmul:fa x * P.cellsOf e<=len * P.cellsOf e:=vI _ ag;obtain⟨w',gq,ho,ic⟩:=av.jS (P:=P) ah tP (off:=off) (ys:=gz x H) (us:=us.toList) (by rw[aO];omega) (by simpa using c9) (fun k y u h1 h2=>eA k y u h1 (by simpa using h2)) FD
    rcases Nat.eq_zero_or_pos cap with wB|aJb
    ·have u2:fa x=0:=by omega
     have wJ:gz x H=[]:=jg (by rw[aO,u2];simp)
     have rA:us= #[]:=Array.eq_empty_of_size_eq_zero (by rw[c9,wJ];rfl)
     have fk:dw cs off []=cs:=by simp[dw]
     have OF:ai H i (.cells v cs)=H:=by
      unfold ai;apply List.ext_getElem?
      intro j;by_cases aw:j=i
      ·subst aw;rw[oI (by rw[<-av.n];exact hi),iW]
      ·rw[gS (fun q=>aw q.symm)]
     refine⟨c,.int .i64 (fa x),?_,?_,Ext.refl c,.int _ _ (oM.2 (by omega))⟩
     ·cases base with
      |none=>simp only[Builtin.copy_,List.getElem?_toArray,y0,vz,Sem.run_bind,run_underlying hu,Result.andThen_ok,aQ,Jz,hP rm,bF,Sem.run_pure,goInt]
      |some a=>simp only[Builtin.copy_,List.getElem?_toArray,y0,vz,Sem.run_bind,run_underlying hu,Result.andThen_ok,aQ,Jz,hP rm,bF,rA,storeCells,Sem.run_pure,goInt]
     ·rw[wJ,fk,OF];exact av
    ·have pS:base=some ⟨c.aE i,off,none⟩:=cK.resolve_left (by omega)
     subst pS;refine⟨{c with w:=w'},.int .i64 (fa x),?_,ic,ho,.int _ _ (oM.2 (by omega))⟩
     simp only[Builtin.copy_,List.getElem?_toArray,y0,vz,Sem.run_bind,run_underlying hu,Result.andThen_ok,aQ,Jz,hP rm,bF,gq,Sem.run_pure,goInt]
  |_=>simp[ah]at hs
 ·exact hs.elim
def B4(P:Program)(t:TypeId)(x:I)(H:ab):kK:=
 match P.underlying t,x with
 |some (.slice e),.osl sz i v off len _=>match ao H i with
  |.cells bg cs=>⟨.a0 [],ai H i (.cells bg (dw cs off ((List.replicate len (eN P e)).flatMap I.cells))),
    v=bg∧nQ P e=true∧sz=P.cellsOf e∧off+len * sz<=cs.length∧(eN P e).cells.all I.one=true⟩
  |_=>⟨.top,H,False⟩
 |_,_=>⟨.top,H,False⟩
theorem MJ{H:ab}{i:Nat}{b:bu}(h:H[i]?=some b):ai H i b=H:=by
 unfold ai;apply List.ext_getElem?
 grind
theorem aHP{c:Ctx}{H:ab}{t ty:TypeId}{x:I}{ck:Value}(av:bA c H)(J:aK c x ck)(hs:(B4 P t x H).s):
  n7 P (Builtin.clear_ #[t] ty #[ck]) c (B4 P t x H).v (B4 P t x H).H:=by
 unfold B4 at *;split at hs
 ·rename_i e sz i v off len lc hu;cases ah:ao H i with
  |cells bg cs=>
   simp only[ah]at hs ⊢;obtain⟨rfl,bl,rfl,hle,qv⟩:=hs;simp only[nQ,dD,qj]at bl;obtain⟨⟨aQ,aO⟩,bF⟩:=bl;obtain⟨zB,rm⟩:=Option.isSome_iff_exists.1 aQ;obtain⟨z,gr,ix⟩:=sb (P:=P) aO c;have qw:z.cells.size=P.cellsOf e:=by rw[(ix.cells aO).1,bF]
   have hL:=av.qP ah;obtain⟨base,cap,rfl,a7,IV,ch,fc⟩:=J.ph hL;have iW:=kd ah trivial;have pT:∀x∈List.replicate len (eN P e),x.cells.length=P.cellsOf e:=fun x J=>by grind
   have hlen:=CO pT;rw[List.length_replicate]at hlen;rcases Nat.eq_zero_or_pos len with aC|tL
   ·subst aC;have dP:dw cs off ((List.replicate 0 (eN P e)).flatMap I.cells)=cs:=by simp[dw]
    rw[dP,MJ iW];refine⟨c,.tuple #[],?_,av,Ext.refl c,.a0 [] _ rfl (by simp)⟩
    cases base<;>simp[Builtin.clear_,List.getElem?_toArray,Sem.run_bind,run_underlying hu]
   ·cases tP:c.dR i with
    |true=>have:=(ch tP).1;omega
    |false=>
     obtain⟨cK,m,dc,ei⟩:=fc tP;have pS:base=some ⟨c.aE i,off,none⟩:=cK.resolve_left (by omega)
     subst pS;have sB:(Builtin.zeroCells z.cells len).size=len * P.cellsOf e:=by rw[Ef,qw]
     have ao:∀(k:Nat) (y:I) (u:Value),((List.replicate len (eN P e)).flatMap I.cells)[k]?=some y->(Builtin.zeroCells z.cells len).toList[k]?=some u->aK c y u:=by
      intro k y u hk kC;have gD:k<len * P.cellsOf e:=by have:=(cA.1 hk).1;omega
      have nH:0<P.cellsOf e:=Nat.pos_of_ne_zero fun h=>by rw[h,Nat.mul_zero]at gD;omega
      have hm:k % P.cellsOf e<P.cellsOf e:=Nat.mod_lt _ nH;have hdiv:k / P.cellsOf e * P.cellsOf e+k % P.cellsOf e=k:=by rw[Nat.mul_comm];exact Nat.div_add_mod _ _
      have h1:=KP pT (k / P.cellsOf e) (k % P.cellsOf e) hm;rw[hdiv,hk]at h1;have iw:k / P.cellsOf e<len:=Nat.div_lt_of_lt_mul (by rw[Nat.mul_comm];exact gD)
      rw[List.getElem?_replicate,aF iw,lb]at h1;have h2:(Builtin.zeroCells z.cells len)[k]?=some (z.cells[k % z.cells.size]!):=by
       simp only[Builtin.zeroCells,Array.getElem?_map];rw[mY (by simpa[qw]using gD)];simp
      rw[vD,h2,qw]at kC;cases kC;refine(ix.cells aO).2 _ _ _ h1.symm ?_;rw[getElem!_pos z.cells (k % P.cellsOf e) (by omega)]
      exact mY _
     obtain⟨w',gq,ho,ic⟩:=av.jS (P:=P) ah tP (off:=off) (ys:=(List.replicate len (eN P e)).flatMap I.cells) (us:=(Builtin.zeroCells z.cells len).toList) (by omega) (by rw[Array.length_toList,sB,hlen]) ao (by
      intro u kC;obtain⟨k,hX,eb⟩:=s5 kC;have aSy:k<len * P.cellsOf e:=by rw[Array.length_toList,sB]at hX;exact hX
      have aG:((List.replicate len (eN P e)).flatMap I.cells)[k]?=some (((List.replicate len (eN P e)).flatMap I.cells)[k]'(by omega)):=c0 (by omega)
      refine(ao k _ u aG (by rw[<-eb];exact c0 hX)).one ?_
      obtain⟨x,kU,gI⟩:=rZ.1 (hv (show k<((List.replicate len (eN P e)).flatMap I.cells).length by omega))
      rw[(y2.1 kU).2]at gI;exact gT.1 qv _ gI)
     obtain⟨n,rfl⟩:∃n,len=n+1:=⟨len-1,by omega⟩
     refine⟨{c with w:=w'},.tuple #[],?_,ic,ho,.a0 [] _ rfl (by simp)⟩
     simp[Builtin.clear_,List.getElem?_toArray,Sem.run_bind,run_underlying hu,gr,gq]
  |_=>simp[ah]at hs
 ·exact hs.elim
def vv(P:Program)(ts eO:TypeId)(s x:I)(H:ab):kK:=
 match s with
 |.sl full (dP::es)=>
  if fa x=0 then
   match P.underlying ts with
   |some (.slice e)=>⟨.sl full (dP::es),H,nQ P e=true∧vl P eO=true∧s8 x (P.cellsOf e) H⟩
   |_=>⟨.top,H,False⟩
  else tY P ts eO (.sl full (dP::es)) x H
 |s=>tY P ts eO s x H
theorem aHL{c:Ctx}{H:ab}{ts eO ty:TypeId}{s x:I}{vs ck:Value}(av:bA c H)(nI:aK c s vs)(J:aK c x ck)(hs:(vv P ts eO s x H).s):
  n7 P (Builtin.append_ #[ts,eO] ty #[vs,ck]) c (vv P ts eO s x H).v (vv P ts eO s x H).H:=by
 unfold vv at *;split at hs
 ·rename_i full dP es;by_cases ag:fa x=0
  ·simp only[aF ag]at hs ⊢;cases hu:P.underlying ts with
   |none=>simp[hu]at hs
   |some d=>
    cases d<;>simp only[hu]at hs ⊢;case slice e=>
     obtain⟨bl,lG,tN⟩:=hs;obtain⟨aQ,aO,us,bF,c9,eA⟩:=vX (P:=P) av J tN;obtain⟨base,len,cap,sz,vu,rfl, -⟩:=nI.pj;have hle:len<=cap:=by cases nI;assumption
     have rA:us= #[]:=by
      have:us.size=0:=by rw[c9,aO,ag];simp
      exact Array.eq_empty_of_size_eq_zero this
     have iV:=BN (P:=P) (w':=c.w) (ty:=ty) (base:=base) (len:=len) (cap:=cap) hu bl lG aQ (by omega) bF (fun a _=>by rw[rA];simp[storeCells]) (fun _=>rfl)
     rw[ag,uz]at iV;exact⟨c,_,iV,av,Ext.refl c,nI⟩
  ·simp only[az ag]at hs ⊢;exact TU av nI J hs
 ·exact TU av nI J hs
def B5(P:Program)(t:TypeId)(x:I)(H:ab):kK:=
 match P.underlying t,x with
 |some .string,.str s=>⟨.iter H.length,H++[.k8 s 0],True⟩
 |_,_=>⟨.top,H,False⟩
theorem aHZ{c:Ctx}{H:ab}{t:TypeId}{x:I}{ck:Value}(av:bA c H)(J:aK c x ck)(hs:(B5 P t x H).s):
  n7 P (Instr.range t ck) c (B5 P t x H).v (B5 P t x H).H:=by
 unfold B5 at *;split at hs
 ·rename_i s hu;rw[J.nT];have hf:=av.push (.stringIter ⟨s.toArray⟩ 0) (B:=.k8 s 0) 0 (.k8 s 0 (by simp[Ctx.push]) (by simp[Ctx.push]) (by grind [Ctx.push,pg]) J.AU)
  refine⟨_,.pointer (some ⟨c.w.heap.size,0,none⟩),?_,hf,Ext.push av _ 0,?_⟩
  ·simp[Instr.range,run_underlying hu,Ctx.push]
  ·exact .iter _ _ (by simp[Ctx.push,av.n]) rfl (fun _=>by simp[Ctx.push,av.n])
 ·exact hs.elim
def iY(s:List UInt8)(pos:Nat):Nat×Nat:=Utf8.decode ⟨s.toArray⟩ pos
theorem aLF(s:List UInt8)(pos:Nat):(iY s pos).1<2147483648:=by
 grind [iY,Utf8.decode,Utf8.runeError]
def BY(x:I)(b:Bool)(H:ab):kK:=
 match x,b with
 |.iter i,true=>match ao H i with
  |.k8 s pos=>if pos<s.length then⟨.a0 [.bool true,.int .i64 pos,.int .i32 (iY s pos).1],ai H i (.k8 s (pos+(iY s pos).2)),True⟩else⟨.a0 [.bool false],H,True⟩
  |_=>⟨.top,H,False⟩
 |_,_=>⟨.top,H,False⟩
theorem Xk{c:Ctx}{x:I}{u:Value}(h1:aK c x u):aK c (.a0 [x]) (.tuple #[u]):=
 .a0 _ _ rfl fun i z w p q=>by
  grind
theorem Xl{c:Ctx}{x y z:I}{u v w:Value}(h1:aK c x u)(h2:aK c y v)(h3:aK c z w):aK c (.a0 [x,y,z]) (.tuple #[u,v,w]):=
 .a0 _ _ rfl fun i z w p q=>by
  grind
theorem aFg{c:Ctx}{H:ab}{x:I}{ck:Value}{b:Bool}{ty:TypeId}(av:bA c H)(J:aK c x ck)(hs:(BY x b H).s):
  n7 P (Instr.next ck b ty) c (BY x b H).v (BY x b H).H:=by
 unfold BY at *;split at hs
 ·rename_i i;cases ah:ao H i with
  |k8 s pos=>
   simp only[ah]at hs ⊢;have iW:=kd ah trivial;have bS:i<c.n:=by rw[av.n];exact c8 ah trivial
   have u3:=av.rep i _ iW;cases u3 with
   |k8 _ _ aL hd aa pY=>
    cases J with
    |iter _ _ _ _ gG=>
     obtain⟨-,rfl⟩:=gG aL;have ao:=Ks (P:=P) aa (by simp)
     by_cases ae:pos<s.length
     rotate_left
     ·have ag:¬pos<(ByteArray.mk s.toArray).size:=by rw[uL];exact ae
      simp only[ae,eF];refine⟨c,.tuple #[.bool false],?_,av,Ext.refl c,Xk (.bool _)⟩;simp[Instr.next,ao,ag]
     ·have ag:pos<(ByteArray.mk s.toArray).size:=by rw[uL];exact ae
      simp only[ae,dI];obtain⟨CB,he⟩:=qg.1 aa;let w':World:={c.w with heap:=c.w.heap.setIfInBounds (c.aE i) (.stringIter ⟨s.toArray⟩ (pos+(iY s pos).2))}
      have oi:w'.heap[c.aE i]?=some (.stringIter ⟨s.toArray⟩ (pos+(iY s pos).2)):=by simp[w',CB]
      have kB:∀b,b≠c.aE i->w'.heap[b]?=c.w.heap[b]?:=fun b aP=>by
       simp only[w'];rw[Array.getElem?_setIfInBounds_ne (fun q=>aP q.symm)]
      obtain⟨ho,ic⟩:=av.update (B':=.k8 s (pos+(iY s pos).2)) iW trivial hd w' (by simp[w']) kB (by simp[bsize,oi,aa]) rfl rfl rfl (.k8 _ _ aL hd oi pY)
      refine⟨{c with w:=w'},.tuple #[.bool true,goInt pos,.int .i32 (iY s pos).1],?_,ic,ho,?_⟩
      ·have ai:(setObj (c.aE i) (.stringIter ⟨s.toArray⟩ (pos+(iY s pos).2))).run P c.w=.ok () w':=by
        simp only[setObj,Sem.run,aa,w']
       simp only[iY]at ai;simp[Instr.next,ao,ag,ai,iY]
      ·exact Xl (.bool _) (.int _ _ (oM.2 (by omega))) (.int _ _ (T1.2 (by have:=aLF s pos;omega)))
  |_=>simp[ah]at hs
 ·exact hs.elim
end
section
variable {P:Program}
def jE:TypeDesc->I->Bool
 |.string,.str _=>true
 |.int k,.int k' _=>decide (k'=k)
 |_,_=>false
def iA:I->I->Bool
 |.str s,.str t=>decide (s=t)
 |.int _ a,.int _ b=>decide (a=b)
 |_,_=>false
def eL(x:I):List (I×I×Nat)->Option (Nat×I)
 |[]=>none
 |(y,v,_)::es=>bif iA x y then some (0,v)else(eL x es).map fun z=>(z.1+1,z.2)
def iy(d:TypeDesc)(es:List (I×I×Nat)):Prop:=∀p∈es,jE d p.1=true
theorem JQ{c:Ctx}{d:TypeDesc}{x:I}{v:Value}(J:aK c x v)(h:jE d x=true):MapKept.IsKey d v:=by
 cases d<;>cases x<;>simp[jE]at h
 ·rename_i k k' n;subst h;rw[J.iZ];rfl
 ·rw[J.nT];trivial
theorem aLI{c:Ctx}{d:TypeDesc}{x y:I}{u v:Value}(J:aK c x u)(aG:aK c y v)(h1:jE d x=true)(h2:jE d y=true):Instr.sameNow d u v=some (iA x y):=by
 cases d<;>cases x<;>simp[jE]at h1<;>cases y<;>simp[jE]at h2
 ·rename_i k k1 a k2 b;subst h1;subst h2;rw[J.iZ,aG.iZ];simp[Instr.sameNow,iA];rfl
 ·rename_i a b;rw[J.nT,aG.nT];show some ((⟨a.toArray⟩:ByteArray)==⟨b.toArray⟩)=_;congr 1;by_cases h:a=b
  ·subst h;rw[iA,cF rfl];exact(MapKept.bytes_beq _ _).2 rfl
  ·have h2:¬((⟨a.toArray⟩:ByteArray)=⟨b.toArray⟩):=fun e=>h (by simpa using bH (fun x:ByteArray=>x.data.toList) e)
   rw[iA,b8 h];exact vC.2 fun q=>h2 ((MapKept.bytes_beq _ _).1 q)
theorem aKR{d:TypeDesc}{x y:I}(h1:jE d x=true)(h2:jE d y=true)(h:iA x y=true):x=y:=by
 cases d<;>cases x<;>simp[jE]at h1<;>cases y<;>simp[jE]at h2<;>simp[iA]at h
 ·subst h1;subst h2;subst h;rfl
 ·subst h;rfl
theorem IU{c:Ctx}{d:TypeDesc}{x:I}{u:Value}(J:aK c x u)(hk:jE d x=true):∀(es:List (I×I×Nat)) (db:List MapEntry) (i:Nat),db.length=es.length->iy d es->
  (∀(j:Nat) (p:I×I×Nat) (e:MapEntry),es[j]?=some p->db[j]?=some e->aK c p.1 e.key∧aK c p.2.1 e.val∧e.born=p.2.2)->
  match eL x es with
  |none=>Instr.findNow d u db i=some none
  |some (j,y)=>∃v,Instr.findNow d u db i=some (some (i+j,v))∧aK c y v∧j<es.length∧(es[j]?).map (·.1)=some x
 |[],[],i,_,_,_=>rfl
 |p::es,e::db,i,hl,mK,h=>by
  obtain⟨h1,h2,h3⟩:=h 0 p e rfl rfl;have su:=mK p (by simp)
  have ay:=IU J hk es db (i+1) (by simpa using hl) (fun q aS=>mK q (by simp[aS])) (fun j q f aS an=>h (j+1) q f (by simpa using aS) (by simpa using an))
  have oi:=aLI J h1 hk su;obtain⟨cK,dc,ei⟩:=p;simp only at h1 h2 su oi;cases aa:iA x cK with
  |true=>
   rw[aa]at oi;simp only[eL,aa,cond_true];exact⟨e.val,by rw[Instr.findNow,oi];rfl,h2,by simp,by rw[aKR hk su aa];rfl⟩
  |false=>
   rw[aa]at oi;simp only[eL,aa,qi];have CI:Instr.findNow d u (e::db) i=Instr.findNow d u db (i+1):=by rw[Instr.findNow,oi]
   grind
def pB(P:Program)(t:TypeId):Option (TypeDesc×TypeId):=
 match P.underlying t with
 |some (.map k e)=>match P.underlying k with
  |some .string=>some (.string,e)
  |some (.int q)=>some (.int q,e)
  |_=>none
 |_=>none
def pC(P:Program)(t:TypeId):TypeDesc:=match pB P t with
 |some (d,_)=>d
 |none=>.bool
def sc(P:Program)(t:TypeId):TypeId:=match pB P t with
 |some (_,e)=>e
 |none=>0
theorem C1{t:TypeId}(h:(pB P t).isSome=true):∃k,P.underlying t=some (.map k (sc P t))∧P.underlying k=some (pC P t):=by
 grind [Option.isSome_iff_exists,sc,pC,pB]
def EG(P:Program)(t:TypeId)(o:Option (Nat×I))(ok:Bool):h7:=match o with
 |some (_,v)=>⟨bif ok then .a0 [v,.bool true]else v,True⟩
 |none=>⟨bif ok then .a0 [eN P (sc P t),.bool false]else eN P (sc P t),(eN P (sc P t)).known=true⟩
def IC(P:Program)(t:TypeId)(k:I)(ok:Bool):bu->h7
 |.map es _=>⟨(EG P t (eL k es) ok).v,iy (pC P t) es∧(EG P t (eL k es) ok).s⟩
 |_=>bad
def Ey(P:Program)(t:TypeId)(x k:I)(ok:Bool)(H:ab):h7:=
 match x with
 |.map i=>⟨(IC P t k ok (ao H i)).v,(pB P t).isSome=true∧jE (pC P t) k=true∧(IC P t k ok (ao H i)).s⟩
 |.hQ=>⟨(EG P t none ok).v,(pB P t).isSome=true∧jE (pC P t) k=true∧(EG P t none ok).s⟩
 |_=>bad
theorem aK.Gd{c:Ctx}{i:Nat}{v:Value}(h:aK c (.map i) v)(aL:c.bg i=0):v=.map (some (c.aE i)):=by
 cases h with|map _ _ _ _ h=>exact(h aL).2
theorem AQ{c:Ctx}{x y:I}{u v:Value}(h1:aK c x u)(h2:aK c y v):aK c (.a0 [x,y]) (.tuple #[u,v]):=
 .a0 _ _ rfl fun i z w p q=>by
  grind
theorem aCC{c:Ctx}{H:ab}{t:TypeId}{x k:I}{ck qb:Value}{ok:Bool}(av:bA c H)(J:aK c x ck)(hk:aK c k qb)(hs:(Ey P t x k ok H).s):
  ∃v,(Instr.lookup t ck qb ok).run P c.w=.ok v c.w∧aK c (Ey P t x k ok H).v v:=by
 unfold Ey at *;split at hs
 ·rename_i i;obtain⟨hm,fW,hs⟩:=hs;obtain⟨F1,aj,lE⟩:=C1 hm;cases ah:ao H i<;>simp only[ah,IC,bad]at hs ⊢;rename_i es clock;obtain⟨_,aL,_,db,aa,hl,ax⟩:=av.map ah;obtain rfl:=J.Gd aL;have kx:=MapKept.run_checkKey (P:=P) (w:=c.w) lE (JQ hk fW) db.isEmpty 9999;have an:=IU hk fW es db.toList 0 (by simpa using hl) hs.1 (fun j p f ae an=>ax j p f ae (by simpa using an))
  replace hs:=hs.2;cases ss:eL k es with
  |none=>
   rw[ss]at hs an;obtain⟨z,a2,FK⟩:=sb (P:=P) (t:=sc P t) hs c;have nC:=MapKept.run_findKey (P:=P) (w:=c.w) lE an;cases ok with
   |true=>exact⟨.tuple #[z,.bool false],by simp[Instr.lookup,run_underlying aj,MapKept.run_getObj_map aa,kx,nC,a2,Result.andThen],AQ FK (.bool false)⟩
   |false=>exact⟨z,by simp[Instr.lookup,run_underlying aj,MapKept.run_getObj_map aa,kx,nC,a2,Result.andThen],FK⟩
  |some y=>
   obtain⟨j,v⟩:=y;rw[ss]at hs an;obtain⟨u,hu,JH,_⟩:=an;have nC:=MapKept.run_findKey (P:=P) (w:=c.w) lE hu;cases ok with
   |true=>exact⟨.tuple #[u,.bool true],by simp[Instr.lookup,run_underlying aj,MapKept.run_getObj_map aa,kx,nC,Result.andThen],AQ JH (.bool true)⟩
   |false=>exact⟨u,by simp[Instr.lookup,run_underlying aj,MapKept.run_getObj_map aa,kx,nC,Result.andThen],JH⟩
 ·obtain⟨hm,fW,hs⟩:=hs;obtain⟨F1,aj,lE⟩:=C1 hm;cases J;have kx:=MapKept.run_checkKey (P:=P) (w:=c.w) lE (JQ hk fW) true 9999;have nC:=MapKept.run_findKey (P:=P) (w:=c.w) (k:=qb) (l:=[]) (a:=none) lE rfl;obtain⟨z,a2,FK⟩:=sb (P:=P) (t:=sc P t) hs c;cases ok with
  |true=>exact⟨.tuple #[z,.bool false],by simp[Instr.lookup,run_underlying aj,kx,nC,a2,Result.andThen],AQ FK (.bool false)⟩
  |false=>exact⟨z,by simp[Instr.lookup,run_underlying aj,kx,nC,a2,Result.andThen],FK⟩
 ·exact hs.elim
def Im(H:ab):kK:=⟨.map H.length,H++[.map [] 0],True⟩
theorem aA6{c:Ctx}{H:ab}{t:TypeId}(av:bA c H):n7 P (Instr.makeMap t none) c (Im H).v (Im H).H:=by
 have hf:=av.push (.map #[] 0) (B:=.map [] 0) 0 (.map [] 0 #[] (by simp[Ctx.push]) (by simp[Ctx.push]) (by grind [Ctx.push,pg]) rfl (fun j p e h=>by simp at h))
 refine⟨_,.map (some c.w.heap.size),?_,hf,Ext.push av _ 0,?_⟩
 ·simp[Instr.makeMap,Ctx.push]
 ·exact .map _ _ (by simp[Ctx.push,av.n]) rfl (fun _=>by simp[Ctx.push,av.n])
def hB(x v:I)(es:List (I×I×Nat))(clock:Nat):List (I×I×Nat):=
 match eL x es with
 |some (j,_)=>es.modify j fun p=>(x,v,p.2.2)
 |none=>es++[(x,v,clock)]
def pQ(x:I)(es:List (I×I×Nat))(clock:Nat):Nat:=match eL x es with|some _=>clock|none=>clock+1
theorem Gc{c:Ctx}{H:ab}{i:Nat}{es:List (I×I×Nat)}{clock:Nat}(av:bA c H)(ah:ao H i=.map es clock)(pL:List (I×I×Nat))(Cc:Nat)(xY:Array MapEntry)(sw:xY.size=pL.length)
  (ib:∀(j:Nat) (p:I×I×Nat) (f:MapEntry),pL[j]?=some p->xY[j]?=some f->aK c p.1 f.key∧aK c p.2.1 f.val∧f.born=p.2.2):
  Ext c {c with w:={c.w with heap:=c.w.heap.setIfInBounds (c.aE i) (.map xY Cc)}}∧bA {c with w:={c.w with heap:=c.w.heap.setIfInBounds (c.aE i) (.map xY Cc)}} (ai H i (.map pL Cc)):=by
 obtain⟨bS,aL,hd,db,aa,hl,ax⟩:=av.map ah;have iW:=kd ah trivial;obtain⟨CB,he⟩:=qg.1 aa;let w':World:={c.w with heap:=c.w.heap.setIfInBounds (c.aE i) (.map xY Cc)}
 have oi:w'.heap[c.aE i]?=some (.map xY Cc):=by simp[w',CB]
 have kB:∀b,b≠c.aE i->w'.heap[b]?=c.w.heap[b]?:=fun b aP=>by
  grind
 have qq:bsize w' (c.aE i)=bsize c.w (c.aE i):=by simp[bsize,oi,aa]
 have J:Ext c {c with w:=w'}:=by
  refine⟨bk _,by simp[w'],fun b fQ=>⟨fQ,kB b fun e=>(av.st b fQ).2 i _ iW trivial hd e.symm⟩,fun _ _=>bk _,fun j aw _=>⟨rfl,rfl,fun _=>?_⟩,rfl,rfl,rfl,rfl⟩
  by_cases h:c.aE j=c.aE i
  ·simp only[h];exact qq
  ·simp only[bsize];rw[kB _ h]
 exact av.update (B':=.map pL Cc) iW trivial hd w' (by simp[w']) kB qq rfl rfl rfl (.map _ _ xY aL hd oi sw fun j p f ae an=>by
  obtain⟨aQ,aO,bF⟩:=ib j p f ae an;exact⟨aQ.mono J,aO.mono J,bF⟩)
def ID(P:Program)(t:TypeId)(k v:I)(H:ab)(i:Nat):bu->kK
 |.map es clock=>⟨.top,ai H i (.map (hB k v es clock) (pQ k es clock)),iy (pC P t) es⟩
 |_=>⟨.top,H,False⟩
def sK(P:Program)(t:TypeId)(x k v:I)(H:ab):kK:=
 match x with
 |.map i=>⟨.top,(ID P t k v H i (ao H i)).H,(pB P t).isSome=true∧jE (pC P t) k=true∧(ID P t k v H i (ao H i)).s⟩
 |_=>⟨.top,H,False⟩
theorem XQ{c:Ctx}{H:ab}{t:TypeId}{x k v:I}{ck qb KL:Value}(av:bA c H)(J:aK c x ck)(hk:aK c k qb)(aKA:aK c v KL)(hs:(sK P t x k v H).s):
  ∃c',(Instr.mapUpdate t ck qb KL).run P c.w=.ok () c'.w∧bA c' (sK P t x k v H).H∧Ext c c':=by
 unfold sK at *;split at hs
 ·rename_i i;obtain⟨hm,fW,hs⟩:=hs;obtain⟨F1,aj,lE⟩:=C1 hm;cases ah:ao H i<;>simp only[ah,ID]at hs ⊢;rename_i es clock;obtain⟨bS,aL,hd,db,aa,hl,ax⟩:=av.map ah;obtain rfl:=J.Gd aL;have VZ:=JQ hk fW;have kx:=MapKept.run_checkKey (P:=P) (w:=c.w) lE VZ false 9999;have an:=IU hk fW es db.toList 0 (by simpa using hl) hs (fun j p f ae an=>ax j p f ae (by simpa using an))
  unfold hB pQ;cases ss:eL k es with
  |none=>
   rw[ss]at an;have nC:=MapKept.run_findKey (P:=P) (w:=c.w) lE an;obtain⟨k1,k2⟩:=Gc av ah (es++[(k,v,clock)]) (clock+1) (db.push {key:=qb,val:=KL,born:=clock}) (by simp[hl]) (fun j p f ae dF=>by
    grind)
   exact⟨_,by simp[Instr.mapUpdate,run_underlying aj,MapKept.run_getObj_map aa,kx,nC,MapKept.run_setObj_map _ aa,Result.andThen],k2,k1⟩
  |some y=>
   obtain⟨j,y⟩:=y;rw[ss]at an;obtain⟨u,hu,JH,aw,lD⟩:=an;have nC:=MapKept.run_findKey (P:=P) (w:=c.w) lE hu;have lB:j<db.size:=by omega
   rw[mC]at nC;have qs:db[j]?=some db[j]:=mY lB;have lH:es[j]?=some es[j]:=c0 aw;have aJL:db[j].key=qb:=by
    have h1:=(ax j _ _ lH qs).1;rw[lH]at lD;simp only[rY,yZ]at lD;rw[lD]at h1;cases hn:pC P t<;>rw[hn]at fW<;>cases k<;>simp[jE]at fW
    ·exact h1.iZ.trans hk.iZ.symm
    ·exact h1.nT.trans hk.nT.symm
   have Jt:=MapKept.run_keyThatStays (P:=P) (w:=c.w) VZ;obtain⟨k1,k2⟩:=Gc av ah (es.modify j fun p=>(k,v,p.2.2)) clock (db.modify j fun e=>{e with key:=qb,val:=KL}) (by simp[hl]) (fun q p f ae dF=>by
    by_cases aS:q=j
    ·subst aS;rw[List.getElem?_modify_eq,lH]at ae;rw[Array.getElem?_modify,aF rfl,qs]at dF;cases ae;cases dF;exact⟨hk,aKA,(ax q _ _ lH qs).2.2⟩
    ·rw[List.getElem?_modify_ne _ _ (fun e=>aS e.symm)]at ae
     rw[Array.getElem?_modify,az (fun e=>aS e.symm)]at dF
     exact ax q p f ae dF)
   exact⟨_,by simp[Instr.mapUpdate,run_underlying aj,MapKept.run_getObj_map aa,kx,nC,qs,aJL,Jt,MapKept.run_setObj_map _ aa,Result.andThen],k2,k1⟩
 ·exact hs.elim
def delKey(x:I)(es:List (I×I×Nat)):List (I×I×Nat):=match eL x es with
 |some (j,_)=>es.eraseIdx j
 |none=>es
def IE(P:Program)(t:TypeId)(k:I)(H:ab)(i:Nat):bu->kK
 |.map es clock=>⟨.a0 [],ai H i (.map (delKey k es) clock),iy (pC P t) es⟩
 |_=>⟨.top,H,False⟩
def B0(P:Program)(t:TypeId)(x k:I)(H:ab):kK:=
 match x with
 |.map i=>⟨.a0 [],(IE P t k H i (ao H i)).H,(pB P t).isSome=true∧jE (pC P t) k=true∧(IE P t k H i (ao H i)).s⟩
 |_=>⟨.top,H,False⟩
theorem Pg(c:Ctx):aK c (.a0 []) (.tuple #[]):=.a0 _ _ rfl fun i x v h=>by simp at h
theorem aHU{c:Ctx}{H:ab}{t u ty:TypeId}{x k:I}{ck qb:Value}(av:bA c H)(J:aK c x ck)(hk:aK c k qb)(hs:(B0 P t x k H).s):
  n7 P (Builtin.delete_ #[t,u] ty #[ck,qb]) c (B0 P t x k H).v (B0 P t x k H).H:=by
 unfold B0 at *;split at hs
 ·rename_i i;obtain⟨hm,fW,hs⟩:=hs;obtain⟨F1,aj,lE⟩:=C1 hm;cases ah:ao H i<;>simp only[ah,IE]at hs ⊢;rename_i es clock;obtain⟨bS,aL,hd,db,aa,hl,ax⟩:=av.map ah;obtain rfl:=J.Gd aL;have kx:=MapKept.run_checkKey (P:=P) (w:=c.w) lE (JQ hk fW) db.isEmpty 9999;have an:=IU hk fW es db.toList 0 (by simpa using hl) hs (fun j p f ae an=>ax j p f ae (by simpa using an))
  unfold delKey;cases ss:eL k es with
  |none=>
   rw[ss]at an;have nC:=MapKept.run_findKey (P:=P) (w:=c.w) lE an;obtain⟨k1,k2⟩:=Gc av ah es clock db hl ax;exact⟨_,.tuple #[],by simp[Builtin.delete_,run_underlying aj,MapKept.run_getObj_map aa,kx,nC,MapKept.run_setObj_map _ aa,Result.andThen],k2,k1,Pg _⟩
  |some y=>
   obtain⟨j,y⟩:=y;rw[ss]at an;obtain⟨ur,hu,JH,aw,lD⟩:=an;have nC:=MapKept.run_findKey (P:=P) (w:=c.w) lE hu;rw[mC]at nC;have lB:j<db.size:=by omega
   obtain⟨k1,k2⟩:=Gc av ah (es.eraseIdx j) clock (db.eraseIdxIfInBounds j) (by simp[Array.eraseIdxIfInBounds,lB,List.length_eraseIdx,aw,hl]) (fun q p f ae dF=>by
    have ar:(db.eraseIdxIfInBounds j)[q]?=(db.toList.eraseIdx j)[q]?:=by
     rw[Array.eraseIdxIfInBounds,dif_pos lB,<-vD,Array.toList_eraseIdx]
    rw[ar]at dF;rw[List.getElem?_eraseIdx]at ae dF;split at ae
    ·rename_i h;rw[aF h]at dF;exact ax q p f ae (by simpa using dF)
    ·rename_i h;rw[az h]at dF;exact ax (q+1) p f ae (by simpa using dF))
   exact⟨_,.tuple #[],by simp[Builtin.delete_,run_underlying aj,MapKept.run_getObj_map aa,kx,nC,MapKept.run_setObj_map _ aa,Result.andThen],k2,k1,Pg _⟩
 ·exact hs.elim
def IF(H:ab)(i:Nat):bu->kK
 |.map _ clock=>⟨.a0 [],ai H i (.map [] clock),True⟩
 |_=>⟨.top,H,False⟩
def B1(P:Program)(t:TypeId)(x:I)(H:ab):kK:=
 match x with
 |.map i=>⟨.a0 [],(IF H i (ao H i)).H,(pB P t).isSome=true∧(IF H i (ao H i)).s⟩
 |x=>B4 P t x H
theorem aHO{c:Ctx}{H:ab}{t ty:TypeId}{x:I}{ck:Value}(av:bA c H)(J:aK c x ck)(hs:(B1 P t x H).s):
  n7 P (Builtin.clear_ #[t] ty #[ck]) c (B1 P t x H).v (B1 P t x H).H:=by
 unfold B1 at *;split at hs
 ·rename_i i;obtain⟨hm,hs⟩:=hs;obtain⟨F1,aj,lE⟩:=C1 hm;cases ah:ao H i<;>simp only[ah,IF]at hs ⊢;rename_i es clock;obtain⟨bS,aL,hd,db,aa,hl,ax⟩:=av.map ah;obtain rfl:=J.Gd aL;obtain⟨k1,k2⟩:=Gc av ah [] clock #[] rfl (fun q p f ae=>by simp at ae)
  exact⟨_,.tuple #[],by simp[Builtin.clear_,run_underlying aj,MapKept.run_getObj_map aa,MapKept.run_setObj_map _ aa,Result.andThen],k2,k1,Pg _⟩
 ·exact aHP av J hs
def IG(H:ab)(i:Nat):bu->kK
 |.map _ clock=>⟨.iter H.length,H++[.h0 i clock [] clock],True⟩
 |_=>⟨.top,H,False⟩
def BV(P:Program)(t:TypeId)(x:I)(H:ab):kK:=
 match x with
 |.map i=>⟨.iter H.length,(IG H i (ao H i)).H,(pB P t).isSome=true∧(IG H i (ao H i)).s⟩
 |x=>B5 P t x H
theorem aCD{c:Ctx}{H:ab}{t:TypeId}{x:I}{ck:Value}(av:bA c H)(J:aK c x ck)(hs:(BV P t x H).s):
  n7 P (Instr.range t ck) c (BV P t x H).v (BV P t x H).H:=by
 unfold BV at *;split at hs
 ·rename_i i;obtain⟨hm,hs⟩:=hs;obtain⟨F1,aj,lE⟩:=C1 hm;cases ah:ao H i<;>simp only[ah,IG]at hs ⊢;rename_i es clock;obtain⟨bS,aL,hd,db,aa,hl,ax⟩:=av.map ah;obtain rfl:=J.Gd aL;have hf:=av.push (.mapIter (some (c.aE i)) clock #[] clock) (B:=.h0 i clock [] clock) 0
   (.h0 i clock [] clock (by simp[Ctx.push]) (by simp[Ctx.push]) (by simp[Ctx.push];omega) (by grind [Ctx.push]) (by simp[Ctx.push,show ¬i=c.n by omega,hd])
    (by simp only[Ctx.push,dI,az (show ¬i=c.n by omega)];exact pg _ _))
  refine⟨_,.pointer (some ⟨c.w.heap.size,0,none⟩),?_,hf,Ext.push av _ 0,?_⟩
  ·simp[Instr.range,run_underlying aj,MapKept.run_getObj_map aa,Ctx.push,Result.andThen]
  ·exact .iter _ _ (by simp[Ctx.push,av.n]) rfl (fun _=>by simp[Ctx.push,av.n])
 ·exact aHZ av J hs
def td(es:List (I×I×Nat))(seen:List Nat):List (I×I×Nat):=es.filter fun p=> !seen.contains p.2.2
def Iw(x:I)(H:ab)(K:I->ab->Prop):Prop:=
 ∃i m since seen kl es clock,x=.iter i∧ao H i=.h0 m since seen kl∧ao H m=.map es clock∧(∀p∈es,p.2.2<kl∧p.2.2<since)∧
  (td es seen=[]->K (.a0 [.bool false]) H)∧∀p∈td es seen,K (.a0 [.bool true,p.1,p.2.1]) (ai H i (.h0 m since (seen++[p.2.2]) clock))
theorem aLD(w:World)(q:Question):∃j w',(choose q).run P w=.ok j w'∧(w'=w∨w'={w with drawn:=w.drawn+1})∧(j=0∨∃a,j=q.cut a):=by
 rw[run_choose];split
 ·grind
 grind
theorem aDh{c:Ctx}{H:ab}{ty:TypeId}{x:I}{ck:Value}{K:I->ab->Prop}(av:bA c H)(J:aK c x ck)(h:Iw x H K):
  ∃c' v x' H',(Instr.next ck false ty).run P c.w=.ok v c'.w∧bA c' H'∧Ext c c'∧aK c' x' v∧K x' H':=by
 obtain⟨i,m,since,seen,kl,es,clock,rfl,hi,hm,hold,aC,h1⟩:=h;obtain⟨bS,aL,hd,db,aa,hl,ax⟩:=av.map hm;have iW:=kd hi trivial;have u3:=av.rep i _ iW;cases u3 with
 |h0 _ _ _ _ JR OY WN WO WM ay=>
  cases J with
  |iter _ _ _ _ gG=>
   obtain⟨-,rfl⟩:=gG JR;have ao:=Ks (P:=P) ay (by simp)
   have N8:∀e∈db,e.born<kl∧e.born<since:=by
    intro e he;obtain⟨j,aw⟩:=Array.getElem?_of_mem he;have lC:=(qg.1 aw).1;have ae:es[j]?=some (es[j]'(by omega)):=c0 (by omega)
    obtain⟨-, -,q⟩:=ax j _ e ae aw;rw[q];exact hold _ (df ae)
   have ru:(!seen.toArray.isEmpty&& !db.isEmpty&&db.all fun e=>decide (e.born>=kl))=false:=by
    by_cases Ji:db= #[]
    ·simp[Ji]
    ·obtain⟨e,he⟩:=Array.exists_mem_of_ne_empty _ Ji;have:=(N8 e he).1;have fi:(db.all fun e=>decide (e.born>=kl))=false:=by
      rw[vC];intro q;have:=Array.all_eq_true'.1 q e he;simp at this;omega
     rw[fi,Bool.and_false]
   obtain⟨left,z6⟩:∃left,db.filter (fun e=> !seen.toArray.contains e.born)=left:=⟨_,rfl⟩
   have aKc:left.filter (fun e=>decide (e.born<since))=left:=by
    rw[Array.filter_eq_self];intro e he;rw[<-z6,Array.mem_filter]at he;exact cF (N8 e he.1).2
   have nF:left.filter (fun e=>decide (e.born>=since))= #[]:=by
    rw[Array.filter_eq_empty_iff];intro e he;rw[<-z6,Array.mem_filter]at he;have:=(N8 e he.1).2;simp;omega
   have Jw:∀e,e∈left->∃p∈td es seen,aK c p.1 e.key∧aK c p.2.1 e.val∧e.born=p.2.2:=by
    intro e he;rw[<-z6,Array.mem_filter]at he;obtain⟨he,hs⟩:=he;obtain⟨j,aw⟩:=Array.getElem?_of_mem he;have lC:=(qg.1 aw).1;have ae:es[j]?=some (es[j]'(by omega)):=c0 (by omega)
    obtain⟨aQ,aO,bF⟩:=ax j _ e ae aw;refine⟨_,km.2 ⟨df ae,?_⟩,aQ,aO,bF⟩;rw[<-bF];simpa using hs
   have lF:left= #[]->td es seen=[]:=by
    intro e;rw[List.eq_nil_iff_forall_not_mem];intro p ae;obtain⟨ae,hs⟩:=km.1 ae;obtain⟨j,aw⟩:=List.getElem?_of_mem ae;have lC:=(cA.1 aw).1;have he:db[j]?=some (db[j]'(by omega)):=mY (by omega)
    obtain⟨-, -,bF⟩:=ax j p _ aw he;have:db[j]'(by omega)∈left:=by
     rw[<-z6,Array.mem_filter];refine⟨Array.getElem_mem _,?_⟩;rw[bF];simpa using hs
    rw[e]at this;simp at this
   have CI:∀w',(w'=c.w∨w'={c.w with drawn:=c.w.drawn+1})->∃fG:Ctx,fG.w=w'∧bA fG H∧Ext c fG∧fG.aE=c.aE∧(∀b:Nat,fG.w.heap[b]?=c.w.heap[b]?)∧fG.bg=c.bg∧fG.dR=c.dR∧fG.n=c.n:=by
    rintro w' (rfl|rfl)
    ·exact⟨c,rfl,av,Ext.refl c,rfl,fun _=>rfl,rfl,rfl,rfl⟩
    ·exact⟨c.draw,rfl,av.draw,Ext.draw c,rfl,fun _=>rfl,rfl,rfl,rfl⟩
   by_cases hle:left= #[]
   ·have an:(Question.mapNext 1).forced=true:=by simp[Question.forced]
    refine⟨c,.tuple #[.bool false],.a0 [.bool false],H,?_,av,Ext.refl c,Xk (.bool _),aC (lF hle)⟩;rw[hle]at z6;simp only[Instr.next,ao,Sem.run_bind,Result.andThen_ok,MapKept.run_getObj_map aa,ru,ht,eF,z6];simp[an]
   ·obtain⟨n,ag⟩:∃n,left.size=n+1:=⟨left.size-1,by have:left.size≠0:=fun q=>hle (Array.eq_empty_of_size_eq_zero q);omega⟩
    obtain⟨j,w',iH,gq,aw⟩:=aLD (P:=P) c.w (.mapNext left.size);have aJH:j<left.size:=by
     rw[run_choose]at iH;split at iH
     ·cases iH;omega
     ·cases iH;rename_i an;simp only[Question.cut];exact Nat.mod_lt _ (by omega)
    have lB:left[j]?=some left[j]:=mY aJH;obtain⟨p,ae,aQ,aO,bF⟩:=Jw left[j] (Array.getElem_mem _);obtain⟨fG,ar,au,bd,bE,cE,h8,ny,sh⟩:=CI w' gq;have iG:fG.w.heap[fG.aE i]?=some (.mapIter (some (c.aE m)) since seen.toArray kl):=by rw[bE,cE];exact ay
    obtain⟨CB,he⟩:=qg.1 iG;let yA:Obj:=.mapIter (some (c.aE m)) since (seen++[p.2.2]).toArray clock
    let dm:World:={fG.w with heap:=fG.w.heap.setIfInBounds (fG.aE i) yA}
    have oi:dm.heap[fG.aE i]?=some yA:=by simp[dm,CB]
    have kB:∀b,b≠fG.aE i->dm.heap[b]?=fG.w.heap[b]?:=fun b aP=>by
     simp only[dm];rw[Array.getElem?_setIfInBounds_ne (fun q=>aP q.symm)]
    obtain⟨ho,ic⟩:=au.update (B':=.h0 m since (seen++[p.2.2]) clock) iW trivial (by rw[ny];exact OY) dm (by simp[dm]) kB (by simp[bsize,oi,iG,yA]) rfl rfl rfl
     (.h0 m since (seen++[p.2.2]) clock (by rw[h8];exact JR) (by rw[ny];exact OY) (by rw[sh];exact WN) (by rw[h8];exact WO) (by rw[ny];exact WM) (by rw[oi,bE]))
    refine⟨{fG with w:=dm},.tuple #[.bool true,left[j].key,left[j].val],.a0 [.bool true,p.1,p.2.1],_,?_,ic,bd.trans ho,Xl (.bool _) ((aQ.mono bd).mono ho) ((aO.mono bd).mono ho),h1 p ae⟩
    have ai:(setObj (c.aE i) yA).run P w'=.ok () dm:=by
     rw[<-ar,<-bE];simp only[setObj,Sem.run,iG,dm]
    have aP:¬left.isEmpty=true:=by simpa using hle
    have og:(Obj.mapIter (some (c.aE m)) since (seen.toArray.push left[j].born) clock)=yA:=by simp[yA,bF]
    simp only[Instr.next,ao,Sem.run_bind,Result.andThen_ok,MapKept.run_getObj_map aa,ru,ht,eF,z6,aKc,nF,az aP,Array.append_empty,Array.empty_append,Array.size_map,iH,Array.getElem?_map,lB,rY,og,ai,Sem.run_pure]
def B9(P:Program)(t:TypeId)(x:I):h7:=
 match x,P.underlying t with
 |.sl true es,some (.slice _)=>⟨.int .i64 es.length,True⟩
 |_,_=>bad
theorem aHN{c:Ctx}{t ty:TypeId}{x:I}{ck:Value}(J:aK c x ck)(hs:(B9 P t x).s):∃v,(Builtin.cap_ #[t] ty #[ck]).run P c.w=.ok v c.w∧aK c (B9 P t x).v v:=by
 unfold B9 at *;split at hs
 ·rename_i es e hu;have e2:=J.Kv;obtain⟨base,len,cap,s,vs,rfl,rfl,a7,ch, -⟩:=J.pj;have mf:=ch rfl;subst mf;exact⟨.int .i64 es.length,by simp[Builtin.cap_,run_underlying hu,goInt],.int _ _ (oM.2 (by omega))⟩
 ·exact hs.elim
def Nk(P:Program)(t:TypeId):Bool:=match P.underlying t with
 |some (.int _)=>true
 |_=>false
def BZ(P:Program)(ts eO:TypeId)(s x:I)(H:ab):kK:=
 match x with
 |.int k n=>match s,P.underlying ts with
  |.sl true [],some (.slice e)=>⟨.osl (P.cellsOf e) H.length 1 0 n.toNat n.toNat,H++[.cells 1 ((List.replicate n.toNat (eN P e)).flatMap I.cells)],
    k=.i64∧Nk P eO=true∧nQ P e=true∧0<n∧n.toNat * P.bytesOf e<=140737488355328∧P.bytesOf e≠0⟩
  |_,_=>⟨.top,H,False⟩
 |x=>vv P ts eO s x H
theorem aHK{c:Ctx}{H:ab}{ts eO ty:TypeId}{s x:I}{vs ck:Value}(av:bA c H)(nI:aK c s vs)(J:aK c x ck)(hs:(BZ P ts eO s x H).s):
  n7 P (Builtin.append_ #[ts,eO] ty #[vs,ck]) c (BZ P ts eO s x H).v (BZ P ts eO s x H).H:=by
 unfold BZ at *;split at hs
 ·rename_i k n;split at hs
  ·rename_i e hu;obtain⟨rfl,tF,bl,u2,aa,iG⟩:=hs;have aSI:=bl;simp only[nQ,dD,qj]at bl;obtain⟨⟨h1,h2⟩,h3⟩:=bl;obtain⟨d,hd⟩:=Option.isSome_iff_exists.1 h1;obtain⟨i,hi,VK⟩:=J7 hd;obtain⟨z,gr,ix⟩:=sb (P:=P) h2 c;have qw:z.cells.size=P.cellsOf e:=by rw[(ix.cells h2).1,h3]
   have tv:i.bytes=P.bytesOf e:=by simp[Program.bytesOf,hi]
   have tz:∃q,P.underlying eO=some (.int q):=by
    unfold Nk at tF;split at tF
    ·rename_i q h;exact⟨q,h⟩
    ·cases tF
   obtain⟨q,tz⟩:=tz;have e2:=J.Ar;rw[oM]at e2;obtain rfl:=J.iZ;obtain⟨base,len,cap,sz,vu,rfl,rfl,a7,ch, -⟩:=nI.pj;have mf:=ch rfl;subst mf;obtain⟨m,hm⟩:∃m:Nat,n=m:=⟨n.toNat,by omega⟩
   subst hm;simp only[j6]at aa ⊢;have WH:IntKind.i64.wrap (m:Int)=m:=PZ (by omega) (by omega)
   have V9:¬(0+m<=0):=by omega
   have mf:Builtin.nextslicecap (0+m) 0 * i.bytes<=281474976710656:=by rw[tv];exact growslice_fits (by omega) (by rw[mC];exact aa)
   let k5:=m+(c.w.tape c.w.drawn (.appendCap m 0 e)) % (2 ^ 63-m)
   have CE:(Question.appendCap m 0 e).cut (c.w.tape c.w.drawn (.appendCap m 0 e))=k5:=rfl;let cells:Array Value:=(if m * P.cellsOf e=0 then #[]else Builtin.zeroCells z.cells m)++Builtin.zeroCells z.cells (k5-m)
   have VC:∀w,(asInt (.int .i64 (m:Int))).run P w=.ok (m:Int) w:=fun w=>by simp[asInt,asIntOf]
   have Ob:∀w,(Builtin.firstCells (P.cellsOf e) 0 (.slice base 0 0)).run P w=.ok #[] w:=fun w=>by
    cases base<;>simp[Builtin.firstCells,loadCells,loadCellsFrom]
   have iV:(Builtin.append_ #[ts,eO] ty #[.slice base 0 0,.int .i64 m]).run P c.w=.ok (.slice (some ⟨c.w.heap.size,0,none⟩) m k5) (World.alloc {c.w with drawn:=c.w.drawn+1} (.cells cells e)):=by
    rw[mC]at mf;have N5:¬(Builtin.nextslicecap m 0 * P.bytesOf e>281474976710656):=by rw[<-tv];omega
    have aSu:Builtin.nextslicecap m 0 * P.bytesOf e<=281474976710656:=by omega
    have uZ:¬m=0:=by omega
    have V6:¬((m:Int)<0):=by omega
    have V5:¬((9223372036854775807:Int)<(m:Int)):=by omega
    have cO:¬(281474976710656:Int)<(m:Int) * (P.bytesOf e:Int):=by
     rw[<-Int.natCast_mul];omega
    by_cases hsz:m * P.cellsOf e=0
    ·have nH:P.cellsOf e=0:=(Nat.mul_eq_zero.1 hsz).resolve_left uZ;simp only[nH]at Ob;simp[Builtin.append_,run_underlying hu,hP hd,run_underlying tz,VC,WH,V6,typeInfo,hi,tv,cO,uZ,nH,N5,V5,iG,Question.forced,gr,newRow,Ob,cells,CE]
    ·have nH:¬P.cellsOf e=0:=fun h=>hsz (by rw[h];rfl)
     simp[Builtin.append_,run_underlying hu,hP hd,run_underlying tz,VC,WH,V6,typeInfo,hi,tv,cO,uZ,nH,N5,V5,iG,Question.forced,gr,newRow,Ob,cells,CE];rw[az hsz,az hsz]
   have sB:(if m * P.cellsOf e=0 then #[]else Builtin.zeroCells z.cells m).size=m * P.cellsOf e:=by
    split
    ·rename_i h;rw[h];rfl
    ·rw[Ef,qw]
   have pT:∀x∈List.replicate m (eN P e),x.cells.length=P.cellsOf e:=fun x J=>by rw[(y2.1 J).2];exact h3
   have eu:=CO pT;rw[List.length_replicate]at eu;have OD:(Builtin.zeroCells z.cells (k5-m)).size=(k5-m) * P.cellsOf e:=by rw[Ef,qw]
   have VM:cells.size=m * P.cellsOf e+(k5-m) * P.cellsOf e:=by simp only[cells,Array.size_append];rw[sB,OD]
   have aJ5:m<=k5:=by omega
   have hf:=av.draw.push (.cells cells e) (B:=.cells 1 ((List.replicate m (eN P e)).flatMap I.cells)) 1 (by
    refine .cells _ _ _ e (0,0) (by simp[Ctx.push]) (by simp[Ctx.push]) (by simp only[Ctx.push,dI];exact pg _ _) (by rw[eu,VM];omega) (.inr (bk _)) (fun k y u hk kC=>?_)
    have gD:k<m * P.cellsOf e:=by have:=(cA.1 hk).1;omega
    have nH:0<P.cellsOf e:=Nat.pos_of_ne_zero fun h=>by rw[h,Nat.mul_zero]at gD;omega
    have hm:k % P.cellsOf e<P.cellsOf e:=Nat.mod_lt _ nH;have hdiv:k / P.cellsOf e * P.cellsOf e+k % P.cellsOf e=k:=by rw[Nat.mul_comm];exact Nat.div_add_mod _ _
    have aZ:=KP pT (k / P.cellsOf e) (k % P.cellsOf e) hm;rw[hdiv,hk]at aZ;have iw:k / P.cellsOf e<m:=Nat.div_lt_of_lt_mul (by rw[Nat.mul_comm];exact gD)
    rw[List.getElem?_replicate,aF iw,lb]at aZ;have aP:¬m * P.cellsOf e=0:=by omega
    have a7:cells[k]?=some (z.cells[k % z.cells.size]!):=by
     simp only[cells,az aP];rw[A7 (by rw[Ef,qw];exact gD)]
     simp only[Builtin.zeroCells,Array.getElem?_map];rw[mY (by simpa[qw]using gD)];simp
    rw[a7,qw]at kC;cases kC;refine(((ix.cells h2).2 _ _ _ aZ.symm ?_).mono (Ext.draw c)).mono (Ext.push av.draw _ 1);rw[getElem!_pos z.cells (k % P.cellsOf e) (by omega)]
    exact mY _)
   refine⟨_,_,iV,hf,(Ext.draw c).trans (Ext.push av.draw _ 1),?_⟩;refine .osl _ _ _ _ _ _ _ (by simp[Ctx.push,Ctx.draw,av.n]) (by simp[Ctx.push,Ctx.draw,av.n]) rfl (by omega) (fun _ hd=>by simp[Ctx.push,Ctx.draw,av.n]at hd) (fun _ _=>?_)
   refine⟨_,k5,cells.size,rfl,bk _,aJ5,.inr (by simp[Ctx.push,Ctx.draw,av.n]),?_,?_⟩
   ·simp only[bsize,Ctx.push,Ctx.draw,av.n,dI];have:=pg {c.w with drawn:=c.w.drawn+1} (.cells cells e)
    simp only at this;rw[this]
   ·rw[VM,<-n1,mC];exact vI _ (by omega)
  ·exact hs.elim
 ·exact aHL av nI J hs
def Iy(kl:Nat)(seen:List Nat):bu->h7
 |.map es clock=>match seen.getLast? with
  |some k=>match es.find? (fun p=>p.2.2==k)with
   |some p=>⟨.a0 [p.1,p.2.1],clock=kl⟩
   |none=>bad
  |none=>bad
 |_=>bad
def Nm(H:ab):bu->h7
 |.h0 m _ seen kl=>Iy kl seen (ao H m)
 |_=>bad
def EE(x:I)(H:ab):h7:=match x with
 |.iter i=>Nm H (ao H i)
 |_=>bad
theorem find_born{c:Ctx}(k:Nat):∀(es:List (I×I×Nat)) (db:List MapEntry),db.length=es.length->(∀(j:Nat) (p:I×I×Nat) (e:MapEntry),es[j]?=some p->db[j]?=some e->aK c p.1 e.key∧aK c p.2.1 e.val∧e.born=p.2.2)->
  ∀p,es.find? (fun p=>p.2.2==k)=some p->∃e,db.find? (fun e=>e.born==k)=some e∧aK c p.1 e.key∧aK c p.2.1 e.val:=by
 intro es;induction es with
 |nil=>intro db _ _ p h;cases h
 |cons q es ay=>
  intro db hl ax p h;cases db with
  |nil=>simp at hl
  |cons e db=>
   obtain⟨h1,h2,h3⟩:=ax 0 q e rfl rfl;rw[List.find?_cons]at h ⊢;rw[h3];cases aS:(q.2.2==k)with
   |true=>grind
   |false=>
    rw[aS]at h;exact ay db (by simpa using hl) (fun j p e ae he=>ax (j+1) p e (by simpa using ae) (by simpa using he)) p h
theorem aDi{c:Ctx}{H:ab}{x:I}{ck:Value}(av:bA c H)(J:aK c x ck)(hs:(EE x H).s):
  ∃v,(Instr.entry ck).run P c.w=.ok v c.w∧aK c (EE x H).v v:=by
 unfold EE at *;split at hs
 ·rename_i i;cases ah:ao H i<;>simp only[ah,Nm,bad]at hs ⊢;rename_i m since seen kl;have u3:=av.rep i _ (kd ah trivial);cases u3 with
  |h0 _ _ _ _ JR OY WN WO WM ay=>
   cases J with
   |iter _ _ _ _ gG=>
    obtain⟨-,rfl⟩:=gG JR;have Fl:=Ks (P:=P) ay (by simp)
    cases hm:ao H m<;>simp only[hm,Iy,bad]at hs ⊢;rename_i es clock;obtain⟨bS,aL,hd,db,aa,hl,ax⟩:=av.map hm;cases hk:seen.getLast? with
    |none=>rw[hk]at hs;exact hs.elim
    |some k=>
     rw[hk]at hs;simp only at hs ⊢;cases an:es.find? (fun p=>p.2.2==k)with
     |none=>rw[an]at hs;exact hs.elim
     |some p=>
      rw[an]at hs;simp only at hs ⊢;obtain⟨e,he,FH,o8⟩:=find_born (c:=c) k es db.toList (by simpa using hl) (fun j p e ae he=>ax j p e ae (by simpa using he)) p an
      have zT:seen.toArray.back?=some k:=by simpa using hk
      have tA:db.find? (fun e=>e.born==k)=some e:=by rw[<-Array.find?_toList];exact he
      subst hs;exact⟨.tuple #[e.key,e.val],by simp[Instr.entry,Fl,zT,MapKept.run_getObj_map aa,tA,Result.andThen],AQ FH o8⟩
 ·exact hs.elim
end
section
variable {P:Program}
def EI(op:UnOp)(x:I):h7:=
 match op,x with
 |.not,.bool b=>⟨.bool (!b),True⟩
 |.neg,.int k n=>⟨.int k (k.wrap (0-n)),True⟩
 |_,_=>bad
theorem aGj{c:Ctx}{op:UnOp}{x:I}{ck:Value}(J:aK c x ck)(hs:(EI op x).s)(w:World):∃v,(Op.unary op ck).run P w=.ok v w∧aK c (EI op x).v v:=by
 unfold EI at *;split at hs
 ·rw[J.ra];exact⟨_,by simp[Op.unary],.bool _⟩
 ·rw[J.iZ];exact⟨_,by simp[Op.unary,Op.intArith],.int _ _ (sE _ _)⟩
 ·exact hs.elim
def rC:Operand->Bool
 |.const _=>true
 |_=>false
def uF:I->Bool
 |.nilIface=>true
 |_=>false
def tf(P:Program)(t:TypeId):Bool:=
 match P.underlying t with
 |some (.interface _)=>true
 |_=>false
def Nl(P:Program)(k:Bool)(op:BinOp)(t:TypeId)(x y:I):h7:=
 match op,x,y with
 |.eql,.nilIface,.nilIface=>⟨.bool true,k=true∧tf P t=true⟩
 |.neq,.nilIface,.nilIface=>⟨.bool false,k=true∧tf P t=true⟩
 |.eql,.iface _ _,.nilIface=>⟨.bool false,tf P t=true⟩
 |.neq,.iface _ _,.nilIface=>⟨.bool true,tf P t=true⟩
 |.eql,.nilIface,.iface _ _=>⟨.bool false,tf P t=true⟩
 |.neq,.nilIface,.iface _ _=>⟨.bool true,tf P t=true⟩
 |_,_,_=>bad
def zw(P:Program)(k:Bool)(op:BinOp)(t:TypeId)(x y:I):h7:=
 bif uF x||uF y then Nl P k op t x y else e0 P op t x y
theorem CQ{t:TypeId}(h:tf P t=true):∃ms,P.underlying t=some (.interface ms):=by
 unfold tf at h;split at h
 ·rename_i ms hu;exact⟨ms,hu⟩
 ·cases h
theorem aLE(d:Nat){t:TypeId}{ms:Array (String×TypeId)}(hu:P.underlying t=some (.interface ms))(w:World):
  (Op.equalIn (d+1) t .nilIface .nilIface).run P w=.ok true w∧(∀u v,(Op.equalIn (d+1) t .nilIface (.iface u v)).run P w=.ok false w)∧∀u v,(Op.equalIn (d+1) t (.iface u v) .nilIface).run P w=.ok false w:=
 ⟨by simp[Op.equalIn,run_underlying hu],fun _ _=>by simp[Op.equalIn,run_underlying hu],fun _ _=>by simp[Op.equalIn,run_underlying hu]⟩
theorem Di{t:TypeId}{ms:Array (String×TypeId)}(hu:P.underlying t=some (.interface ms))(w:World):
  (Op.equal t .nilIface .nilIface).run P w=.ok true w∧(∀u v,(Op.equal t .nilIface (.iface u v)).run P w=.ok false w)∧∀u v,(Op.equal t (.iface u v) .nilIface).run P w=.ok false w:=aLE 9999 hu w
theorem Dj(op:BinOp)(t:TypeId)(X Y:Operand)(w:World):(∀u v,(eqGuard op t X Y .nilIface (.iface u v)).run P w=.ok () w)∧(∀u v,(eqGuard op t X Y (.iface u v) .nilIface).run P w=.ok () w)∧((rC X||rC Y)=true->(eqGuard op t X Y .nilIface .nilIface).run P w=.ok () w):=by
 refine⟨fun u v=>?_,fun u v=>?_,fun h=>?_⟩
 ·cases op<;>rfl
 ·cases op<;>rfl
 ·cases X<;>cases Y<;>first|(cases h;done)|(cases op<;>rfl)
theorem aFh{c:Ctx}{op:BinOp}{t:TypeId}{x y:I}{ck iB:Value}{X Y:Operand}(J:aK c x ck)(aG:aK c y iB)(hs:(zw P (rC X||rC Y) op t x y).s)(w:World):
  ∃v,(do eqGuard op t X Y ck iB;binOp op t ck iB:Sem Value).run P w=.ok v w∧aK c (zw P (rC X||rC Y) op t x y).v v:=by
 unfold zw at *;cases ag:uF x||uF y with
 |false=>rw[ag,qi]at hs;rw[qi];exact aFk J aG hs w
 |true=>
  rw[ag,cond_true]at hs;rw[cond_true];unfold Nl at *;split at hs
  ·obtain⟨al,hi⟩:=hs;obtain⟨ms,hu⟩:=CQ hi;cases J;cases aG;exact⟨.bool true,by simp only[Sem.run_bind,(Dj .eql t X Y w).2.2 al,Result.andThen_ok,binOp,(Di hu w).1,Sem.run_pure],.bool _⟩
  ·obtain⟨al,hi⟩:=hs;obtain⟨ms,hu⟩:=CQ hi;cases J;cases aG;exact⟨.bool false,by simp only[Sem.run_bind,(Dj .neq t X Y w).2.2 al,Result.andThen_ok,binOp,(Di hu w).1,Sem.run_pure,vA],.bool _⟩
  ·obtain⟨ms,hu⟩:=CQ hs;cases J;cases aG;exact⟨.bool false,by simp only[Sem.run_bind,(Dj .eql t X Y w).2.1,Result.andThen_ok,binOp,(Di hu w).2.2,Sem.run_pure],.bool _⟩
  ·obtain⟨ms,hu⟩:=CQ hs;cases J;cases aG;exact⟨.bool true,by simp only[Sem.run_bind,(Dj .neq t X Y w).2.1,Result.andThen_ok,binOp,(Di hu w).2.2,Sem.run_pure,s3],.bool _⟩
  ·obtain⟨ms,hu⟩:=CQ hs;cases J;cases aG;exact⟨.bool false,by simp only[Sem.run_bind,(Dj .eql t X Y w).1,Result.andThen_ok,binOp,(Di hu w).2.1,Sem.run_pure],.bool _⟩
  ·obtain⟨ms,hu⟩:=CQ hs;cases J;cases aG;exact⟨.bool true,by simp only[Sem.run_bind,(Dj .neq t X Y w).1,Result.andThen_ok,binOp,(Di hu w).2.1,Sem.run_pure,s3],.bool _⟩
  ·exact hs.elim
def AY:I->Int
 |.int _ n=>n
 |_=>0
def IH:I->Bool
 |.int .u8 _=>true
 |_=>false
def Np(P:Program)(t:TypeId):Bool:=match P.underlying t with
 |some (.slice e)=>(match P.underlying e with|some (.int .u8)=>true|_=>false)
 |_=>false
def EF(P:Program)(src dst:TypeId)(x:I):h7:=
 match P.underlying dst,x with
 |some (.int k),.int _ n=>⟨.int k (k.wrap n),(P.underlying src).isSome=true⟩
 |some .string,.str s=>⟨.str s,(P.underlying src).isSome=true⟩
 |some .string,.sl _ es=>⟨.str (es.map fun e=>UInt8.ofNat (AY e).toNat),Np P src=true∧es.all IH=true⟩
 |_,_=>bad
theorem aKO{e:I}(h:IH e=true):e=.int .u8 (AY e):=by
 unfold IH at h;split at h
 ·rfl
 ·cases h
theorem aFi{c:Ctx}{src dst:TypeId}{x:I}{ck:Value}(J:aK c x ck)(hs:(EF P src dst x).s):∃v,(convert src dst ck).run P c.w=.ok v c.w∧aK c (EF P src dst x).v v:=by
 unfold EF at *;split at hs
 ·rename_i k k' n hu;obtain⟨d,hd⟩:=Option.isSome_iff_exists.1 hs;rw[J.iZ];refine⟨_,?_,.int _ _ (sE _ _)⟩;simp only[convert,Sem.run_bind,run_underlying hd,run_underlying hu,Result.andThen_ok];rfl
 ·rename_i s hu;obtain⟨d,hd⟩:=Option.isSome_iff_exists.1 hs;rw[J.nT];refine⟨_,?_,.str _ J.AU⟩;simp only[convert,Sem.run_bind,run_underlying hd,run_underlying hu,Result.andThen_ok];cases d<;>rfl
 ·rename_i f es hu;obtain⟨h1,h2⟩:=hs;have e2:=J.Kv;unfold Np at h1;split at h1
  ·rename_i e he;split at h1
   ·rename_i aa;obtain⟨base,len,cap,s,vs,rfl,rfl, -, -,c9,eA,j3⟩:=J.pj;refine⟨.string ⟨(es.map fun e=>UInt8.ofNat (AY e).toNat).toArray⟩,?_,.str _ (by simpa using e2)⟩
    rw[run_convert_bytes_string c.w src dst e base _ cap he aa hu];cases base with
    |none=>
     have ag:es=[]:=by
      cases es with
      |nil=>rfl
      |cons x es=>obtain⟨a,aD, -⟩:=c9 (by simp);cases aD
     subst ag;simp[Conv.bytesToString];rfl
    |some a=>
     have hl:(loadCells a es.length).run P c.w=.ok ((es.map AY).map (Value.int .u8)).toArray c.w:=by
      have:=run_loadCells_list (P:=P) c.w a ((es.map AY).map (Value.int .u8)) (fun j v aw=>by
       rw[rW,nj,jC]at aw;obtain⟨x,kU,rfl⟩:=aw;have lC:=(cA.1 kU).1;have FV:=df kU;have OK:=aKO (gT.1 h2 x FV);obtain⟨gx,aD, -, -,aI2⟩:=c9 (by intro ag;rw[ag]at lC;simp at lC)
       cases aD;have JI:s=1:=by rw[<-eA x FV,OK];rfl
       subst JI;have al:=aI2 j 0 lC (by omega)
       have ax:=j3 j x 0 x kU (by rw[OK];rfl)
       rw[OK]at ax;rw[eE,uz]at al;rw[al,ax.iZ];rfl)
      simpa using this
     rw[run_bytesToString c.w a es.length cap (es.map AY) hl,foldl_push_bytes];simp[ByteArray.empty,ByteArray.emptyWithCapacity];rfl
   ·cases h1
  ·cases h1
 ·exact hs.elim
def Es(x:I)(i:Nat):h7:=
 match x with
 |.a0 vs=>⟨vs.getD i .top,i<vs.length⟩
 |_=>bad
theorem aA7{c:Ctx}{x:I}{i:Nat}{ck:Value}(J:aK c x ck)(hs:(Es x i).s)(w:World):∃v,(Instr.extract ck i).run P w=.ok v w∧aK c (Es x i).v v:=by
 unfold Es at *;split at hs
 ·rename_i vs;obtain⟨us,rfl,h1,h2⟩:=J.Xz;have aJ:vs[i]?=some vs[i]:=c0 hs;have hu:us[i]?=some (us[i]'(by omega)):=mY (by omega)
  rw[Iz _ _ _ _ aJ];exact⟨_,by simp[Instr.extract,hu],h2 _ _ _ aJ hu⟩
 ·exact hs.elim
def wb(P:Program)(t:TypeId):Bool:=
 match P.underlying t with
 |some (.interface _)=>false
 |some _=>true
 |none=>false
theorem aA8{t:TypeId}(h:wb P t=true)(v:Value)(w:World):(Instr.makeInterface t v).run P w=.ok (.iface t v) w:=by
 unfold wb at h;cases hu:P.underlying t with
 |none=>rw[hu]at h;cases h
 |some d=>
  rw[hu]at h;simp only[Instr.makeInterface,Sem.run_bind,run_underlying hu,Result.andThen_ok];cases d<;>first|rfl|cases h
def Ez(P:Program)(x:I)(t:TypeId)(ok:Bool):h7:=
 match x with
 |.iface u v=>bif u==t then⟨bif ok then .a0 [v,.bool true]else v,wb P t=true⟩else bif ok then⟨.a0 [eN P t,.bool false],wb P t=true∧(eN P t).known=true⟩else bad
 |.nilIface=>bif ok then⟨.a0 [eN P t,.bool false],wb P t=true∧(eN P t).known=true⟩else bad
 |_=>bad
theorem aCE{c:Ctx}{x:I}{t xt:TypeId}{ok:Bool}{ck:Value}(J:aK c x ck)(hs:(Ez P x t ok).s)(w:World):∃v,(Instr.typeAssert ck xt t ok).run P w=.ok v w∧aK c (Ez P x t ok).v v:=by
 have hu:∀(al:wb P t=true),∃d,P.underlying t=some d∧∀ms,d≠.interface ms:=by
  intro al;unfold wb at al;cases hu:P.underlying t with
  |none=>rw[hu]at al;cases al
  |some d=>exact⟨d,rfl,fun ms e=>by rw[hu,e]at al;cases al⟩
 unfold Ez at *;split at hs
 ·rename_i u v;cases J with
  |iface _ _ ev aL=>
   cases JL:u==t with
   |true=>
    simp only[JL,cond_true]at hs ⊢;obtain⟨d,hd,fl⟩:=hu hs;have he:u=t:=by simpa using JL
    subst he;cases ok with
    |true=>exact⟨.tuple #[ev,.bool true],by cases d<;>first|exact absurd rfl (fl _)|simp[Instr.typeAssert,run_underlying hd],AQ aL (.bool _)⟩
    |false=>exact⟨ev,by cases d<;>first|exact absurd rfl (fl _)|simp[Instr.typeAssert,run_underlying hd],aL⟩
   |false=>
    simp only[JL,qi]at hs ⊢;have he:¬u=t:=by simpa using JL
    cases ok with
    |true=>
     simp only[cond_true]at hs ⊢;obtain⟨al,hk⟩:=hs;obtain⟨d,hd,fl⟩:=hu al;obtain⟨z,gr,ix⟩:=sb (P:=P) hk c;exact⟨.tuple #[z,.bool false],by cases d<;>first|exact absurd rfl (fl _)|simp[Instr.typeAssert,run_underlying hd,he,gr],AQ ix (.bool _)⟩
    |false=>exact hs.elim
 ·cases J;cases ok with
  |true=>
   simp only[cond_true]at hs ⊢;obtain⟨al,hk⟩:=hs;obtain⟨d,hd,fl⟩:=hu al;obtain⟨z,gr,ix⟩:=sb (P:=P) hk c;exact⟨.tuple #[z,.bool false],by cases d<;>first|exact absurd rfl (fl _)|simp[Instr.typeAssert,run_underlying hd,gr],AQ ix (.bool _)⟩
  |false=>exact hs.elim
 ·exact hs.elim
def Ca(x y:I):h7:=
 match x,y with
 |.int k a,.int k' b=>⟨.int k (max a b),k=k'⟩
 |_,_=>bad
def Cb(x y:I):h7:=
 match x,y with
 |.int k a,.int k' b=>⟨.int k (min a b),k=k'⟩
 |_,_=>bad
def Ej(P:Program)(t:TypeId)(n:Nat)(ps:List (Nat×I)):h7:=
 match P.underlying t with
 |some (.slice e)=>⟨.sl true (ps.map (·.2)),nQ P e=true∧ps.map (·.1)=List.range n∧(ps.all fun p=>p.2.known&&(p.2.cells.length==P.cellsOf e))=true∧n * P.cellsOf e<=16777216∧P.cellsOf e≠0⟩
 |_=>bad
theorem U9{s:Nat}:∀(vs:List (Nat×Value)) (i0:Nat) (us:Array Value),vs.map (·.1)=List.range' i0 vs.length->(∀p∈vs,p.2.cells.size=s)->(i0+vs.length) * s<=us.size->
  ∃ws,Instr.fill (fun i=>some (i * s,s)) us vs=some ws∧ws.size=us.size∧(∀idx,idx<i0 * s->ws[idx]?=us[idx]?)∧∀(k j:Nat) (p:Nat×Value),vs[k]?=some p->j<s->ws[(i0+k) * s+j]?=p.2.cells[j]?
 |[],i0,us,_,_,_=>⟨us,rfl,rfl,fun _ _=>rfl,by simp⟩
 |(i,v)::vs,i0,us,hm,hs,hle=>by
  simp only[dn,cm,List.range'_succ,List.cons.injEq]at hm;obtain⟨rfl,hm⟩:=hm;have aL:v.cells.size=s:=hs (i,v) (by simp)
  simp only[cm]at hle;have aSD:(i+1) * s<=us.size:=gU (vI s (by omega)) hle
  have ar:(i+1) * s=i * s+s:=by rw[n1];omega
  obtain⟨ws,aZ,a7,ch,fc⟩:=U9 vs (i+1) (my us (i * s) v.cells.toList) hm (fun p ae=>hs p (by simp[ae])) (by rw[AT,show i+1+vs.length=i+(vs.length+1) by omega];exact hle)
  refine⟨ws,?_,by rw[a7,AT],fun idx fI=>?_,fun k j p hk aw=>?_⟩
  ·unfold Instr.fill;have N3:¬((decide (v.cells.size≠s)||decide (i * s+v.cells.size>us.size))=true):=by simp;omega
   simp only[N3,eF];rw[Va];exact aZ
  ·rw[ch idx (by omega),IY _ _ _ s (by simpa using aL) (by omega),az (by omega)]
  ·cases k with
   |zero=>
    simp at hk;subst hk;rw[uz,ch _ (by omega),IY _ _ _ s (by simpa using aL) (by omega),aF (by omega)]
    simp
   |succ k=>
    rw[show i+(k+1)=i+1+k by omega]
    exact fc k j p (by simpa using hk) aw
theorem ZA{c:Ctx}{H:ab}{t:TypeId}{n:Nat}{ps:List (Nat×I)}{vs:Array (Nat×Value)}(av:bA c H)(hm:vs.toList.map (·.1)=ps.map (·.1))
  (ae:∀(k:Nat) (p:Nat×I) (q:Nat×Value),ps[k]?=some p->vs[k]?=some q->aK c p.2 q.2) (hs:(Ej P t n ps).s):
  n7 P (Instr.buildSlice t n vs) c (Ej P t n ps).v H:=by
 unfold Ej at *;cases hu:P.underlying t with
 |none=>simp[hu,bad]at hs
 |some d=>
  cases d<;>simp only[hu,bad]at hs;case slice e=>
   simp only;obtain⟨bl,ax,fi,pU,aP⟩:=hs;simp only[nQ,dD,qj]at bl;obtain⟨⟨h1,h2⟩,h3⟩:=bl;obtain⟨d,hd⟩:=Option.isSome_iff_exists.1 h1;obtain⟨z,gr,ix⟩:=sb (P:=P) h2 c;have qw:z.cells.size=P.cellsOf e:=by rw[(ix.cells h2).1,h3]
   have hlen:vs.toList.length=ps.length:=by have:=bH List.length hm;simpa using this
   have ag:ps.length=n:=by have:=bH List.length ax;simpa using this
   have Wl:∀(k:Nat) (p:Nat×I) (q:Nat×Value),ps[k]?=some p->vs[k]?=some q->q.2.cells.size=P.cellsOf e∧p.2.cells.length=P.cellsOf e∧∀(i:Nat) (y:I) (u:Value),p.2.cells[i]?=some y->q.2.cells[i]?=some u->aK c y u:=by
    intro k p q h1 h2;have h4:=gT.1 fi p (df h1);simp only[dD,qj]at h4;obtain⟨aZ,a7⟩:=(ae k p q h1 h2).cells h4.1;exact⟨by rw[aZ,h4.2],h4.2,a7⟩
   have Wy:∀q∈vs.toList,q.2.cells.size=P.cellsOf e:=by
    intro q aS;obtain⟨k,hk,eb⟩:=s5 aS;simp only[Array.length_toList]at hk;exact(Wl k _ q (c0 (by rw[<-hlen];simpa using hk)) (by rw[<-eb];simp[hk])).1
   let Lc:Array Value:=if n * P.cellsOf e=0 then #[]else z.cells
   obtain⟨ws,aZ,a7, -,fc⟩:=U9 (s:=P.cellsOf e) vs.toList 0 ((Array.range (n * P.cellsOf e)).map fun k=>Lc[k % Lc.size]!) (by rw[hm,ax,hlen,ag,List.range_eq_range']) Wy (by simp[hlen,ag])
   have iV:(Instr.buildSlice t n vs).run P c.w=.ok (.slice (some ⟨c.w.heap.size,0,none⟩) n n) (c.w.alloc (.cells ws e)):=by
    have Fy:¬(n * P.cellsOf e>16777216):=by omega
    simp only[Instr.buildSlice,Sem.run_bind,run_underlying hu,Result.andThen_ok,hP hd];rw[az Fy];by_cases aC:n * P.cellsOf e=0
    ·have OW:Lc= #[]:=aF aC;rw[OW]at aZ;rw[aF aC];simp only[Sem.run_bind,Sem.run_pure,Result.andThen_ok];rw[aZ];rfl
    ·have OW:Lc=z.cells:=az aC;rw[OW]at aZ;rw[az aC];simp only[Sem.run_bind,gr,Sem.run_pure,Result.andThen_ok];rw[aZ];rfl
   refine⟨c.fix (.cells ws e),_,iV,av.fix _,Ext.fix av _,?_⟩;refine .sl _ _ _ _ _ (P.cellsOf e) (fun k j=>((vs[k]?).bind fun q=>q.2.cells[j]?).getD undef) (by simp[ag]) (bk _) (fun _=>rfl) (fun _=>⟨_,rfl,rfl,.inr rfl,fun k j hk aw=>?_⟩) (fun x J=>?_) (fun k x j y hk aw=>?_) (by have:=Nat.le_mul_of_pos_right n (Nat.pos_of_ne_zero aP);omega)
   ·simp only[cP]at hk;have Ft:vs[k]?=some (vs[k]'(by rw[<-hlen]at hk;simpa using hk)):=mY _
    have cz:=fc k j _ (by rw[vD];exact Ft) aw
    have aa:(c.fix (.cells ws e)).w.heap[c.w.heap.size]?=some (.cells ws e):=pg _ _;rw[rR,AA aa,mC];rw[mC]at cz;rw[cz,Ft];have hsz:=Wy (vs[k]'(by rw[<-hlen]at hk;simpa using hk)) (by simp)
    simp[show j<(vs[k]'(by rw[<-hlen]at hk;simpa using hk)).2.cells.size by omega]
   ·obtain⟨p,sA,rfl⟩:=bP.1 J;have h4:=gT.1 fi p sA;simp only[dD,qj]at h4;exact h4.2
   ·simp only[nj,jC]at hk;obtain⟨p,sA,rfl⟩:=hk;have ak:=(cA.1 sA).1;have Ft:vs[k]?=some (vs[k]'(by rw[<-hlen]at ak;simpa using ak)):=mY _
    obtain⟨aQ,aO,bF⟩:=Wl k p _ sA Ft;have z3:=(cA.1 aw).1;rw[Ft];refine aK.mono (Ext.fix av _) (bF j y _ aw ?_);simp[show j<(vs[k]'(by rw[<-hlen]at ak;simpa using ak)).2.cells.size by omega]
def BT(P:Program)(b:Builtin)(ts:List TypeId)(xs:List I)(H:ab):kK:=
 match b,ts,xs with
 |.len,[t],[x]=>⟨(B8 P t x H).v,H,(B8 P t x H).s⟩
 |.append,[t,u],[s,x]=>BZ P t u s x H
 |.copy,[t,_],[d,x]=>B6 P t d x H
 |.clear,[t],[x]=>B1 P t x H
 |.delete,[t,_],[x,k]=>B0 P t x k H
 |.cap,[t],[x]=>⟨(B9 P t x).v,H,(B9 P t x).s⟩
 |.max,_,[x,y]=>⟨(Ca x y).v,H,(Ca x y).s⟩
 |.min,_,[x,y]=>⟨(Cb x y).v,H,(Cb x y).s⟩
 |_,_,_=>⟨.top,H,False⟩
theorem aHW{c:Ctx}{x y:I}{ts:Array TypeId}{ty:TypeId}{ck iB:Value}(J:aK c x ck)(aG:aK c y iB)(hs:(Ca x y).s)(w:World):∃v,(Builtin.max_ ts ty #[ck,iB]).run P w=.ok v w∧aK c (Ca x y).v v:=by
 unfold Ca at *;split at hs
 ·rename_i k a k' b;subst hs;rw[J.iZ,aG.iZ];refine⟨.int k (max a b),?_,.int _ _ (by have h1:=J.Ar;have h2:=aG.Ar;unfold mn at *;omega)⟩
  simp only[Builtin.max_,List.foldlM_cons,List.foldlM_nil,Builtin.max2,Sem.run_bind,Sem.run_pure,Result.andThen_ok];congr 2;split<;>omega
 ·exact hs.elim
theorem aHX{c:Ctx}{x y:I}{ts:Array TypeId}{ty:TypeId}{ck iB:Value}(J:aK c x ck)(aG:aK c y iB)(hs:(Cb x y).s)(w:World):∃v,(Builtin.min_ ts ty #[ck,iB]).run P w=.ok v w∧aK c (Cb x y).v v:=by
 unfold Cb at *;split at hs
 ·rename_i k a k' b;subst hs;rw[J.iZ,aG.iZ];refine⟨.int k (min a b),?_,.int _ _ (by have h1:=J.Ar;have h2:=aG.Ar;unfold mn at *;omega)⟩
  simp only[Builtin.min_,List.foldlM_cons,List.foldlM_nil,Builtin.min2,Sem.run_bind,Sem.run_pure,Result.andThen_ok];congr 2;split<;>omega
 ·exact hs.elim
def za(c:Ctx)(xs:List I)(vs:Array Value):Prop:=vs.size=xs.length∧∀(i:Nat) (x:I) (v:Value),xs[i]?=some x->vs[i]?=some v->aK c x v
theorem za.one{c:Ctx}{x:I}{vs:Array Value}(h:za c [x] vs):∃u,vs= #[u]∧aK c x u:=by
 obtain⟨h1,h2⟩:=h;obtain⟨l⟩:=vs
 match l,h1 with
 |[u],_=>exact⟨u,rfl,h2 0 _ _ rfl rfl⟩
theorem za.two{c:Ctx}{x y:I}{vs:Array Value}(h:za c [x,y] vs):∃u v,vs= #[u,v]∧aK c x u∧aK c y v:=by
 obtain⟨h1,h2⟩:=h;obtain⟨l⟩:=vs
 match l,h1 with
 |[u,v],_=>exact⟨u,v,rfl,h2 0 _ _ rfl rfl,h2 1 _ _ rfl rfl⟩
theorem aA9{c:Ctx}{H:ab}{b:Builtin}{ts:Array TypeId}{ty:TypeId}{cs:Array Bool}{xs:List I}{vs:Array Value}(av:bA c H)(J:za c xs vs)(hs:(BT P b ts.toList xs H).s):
  ∃c' v,(builtin b ts ty cs vs).run P c.w=.ok (.value v) c'.w∧bA c' (BT P b ts.toList xs H).H∧Ext c c'∧aK c' (BT P b ts.toList xs H).v v:=by
 obtain⟨yP⟩:=ts;simp only[List.toList_toArray]at hs ⊢;unfold BT at *;split at hs
 ·obtain⟨u,rfl,hu⟩:=J.one;obtain⟨v,h1,h2⟩:=aHV (P:=P) (ty:=ty) av hu hs;exact⟨c,v,by simp only[builtin,Sem.run_bind];rw[h1];rfl,av,Ext.refl c,h2⟩
 ·obtain⟨u,ur,rfl,hu,kC⟩:=J.two;obtain⟨c',v,h1,h2,h3,h4⟩:=aHK (P:=P) (ty:=ty) av hu kC hs;exact⟨c',v,by simp only[builtin,Sem.run_bind];rw[h1];rfl,h2,h3,h4⟩
 ·obtain⟨u,ur,rfl,hu,kC⟩:=J.two;obtain⟨c',v,h1,h2,h3,h4⟩:=aHQ (P:=P) (ty:=ty) av hu kC hs;exact⟨c',v,by simp only[builtin,Sem.run_bind];rw[h1];rfl,h2,h3,h4⟩
 ·obtain⟨u,rfl,hu⟩:=J.one;obtain⟨c',v,h1,h2,h3,h4⟩:=aHO (P:=P) (ty:=ty) av hu hs;exact⟨c',v,by simp only[builtin,Sem.run_bind];rw[h1];rfl,h2,h3,h4⟩
 ·obtain⟨u,ur,rfl,hu,kC⟩:=J.two;obtain⟨c',v,h1,h2,h3,h4⟩:=aHU (P:=P) (ty:=ty) av hu kC hs;exact⟨c',v,by simp only[builtin,Sem.run_bind];rw[h1];rfl,h2,h3,h4⟩
 ·obtain⟨u,rfl,hu⟩:=J.one;obtain⟨v,h1,h2⟩:=aHN (P:=P) (ty:=ty) (c:=c) hu hs;exact⟨c,v,by simp only[builtin,Sem.run_bind];rw[h1];rfl,av,Ext.refl c,h2⟩
 ·obtain⟨u,ur,rfl,hu,kC⟩:=J.two;obtain⟨v,h1,h2⟩:=aHW (P:=P) (ts:=⟨yP⟩) (ty:=ty) hu kC hs c.w;exact⟨c,v,by simp only[builtin,Sem.run_bind];rw[h1];rfl,av,Ext.refl c,h2⟩
 ·obtain⟨u,ur,rfl,hu,kC⟩:=J.two;obtain⟨v,h1,h2⟩:=aHX (P:=P) (ts:=⟨yP⟩) (ty:=ty) hu kC hs c.w;exact⟨c,v,by simp only[builtin,Sem.run_bind];rw[h1];rfl,av,Ext.refl c,h2⟩
 ·exact hs.elim
end
end Go.Proofs.YthafnbmdmfoobaaGreatDoor
