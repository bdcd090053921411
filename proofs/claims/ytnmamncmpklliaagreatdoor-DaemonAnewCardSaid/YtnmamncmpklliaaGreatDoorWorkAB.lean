/- What the functions of this seat answer (2 of 53). No condition. -/
import Derived.Test.YtnmamncmpklliaaGreatDoorWorkAA
import Derived.Laws.Append
import Derived.MapKept
set_option linter.unusedSimpArgs false
set_option linter.unusedVariables false
set_option linter.unusedSectionVars false
set_option maxRecDepth 100000
set_option maxHeartbeats 16000000
namespace Go.Proofs.YtnmamncmpklliaaGreatDoor
variable{es:List I}{s n b len cap i:Nat}{c:Ctx}{H:ab}{x k y:I}{v b2 rE u cO:Value}{w:World}{vs new:Array Value}{e ts tx ty t:TypeId}{base:Option Addr}{d:TypeDesc}{P:Program}
def Ctx.draw(c:Ctx):Ctx:={c with w:={c.w with drawn:=c.w.drawn+1}}
theorem Ext.draw(c):Ext c c.draw:=⟨bd _,bd _,λ_ h=>⟨h,rfl⟩,λ_ _=>bd _,λ_ _ _=>⟨rfl,rfl,λ_=>rfl⟩,rfl,⟨rfl,oA _⟩,rfl,rfl⟩
theorem bp.draw{c:Ctx}{H:ab}(h:bp c H):bp c.draw H:=
 ⟨h.jX.mono<|Ext.draw c,h.n,h.lt,h.inj,h.st,λi b hi=>(h.rep i b hi).mono (Ext.draw c) (by rw[h.n];grind) (λ_ _ J=>J) rfl λ_=>rfl⟩
def Ctx.fix(c:Ctx)(o:Obj):Ctx:={c with w:=c.w.alloc o,hh:=λb=>c.hh b\/b=c.w.heap.size}
theorem Ext.fix{c:Ctx}{H:ab}(J:bp c H)(o:Obj):Ext c (c.fix o) where
 n:=bd _
 size:=by simp[Ctx.fix]
 st:=λb U=>⟨.inl U,uA (J.st b U).1⟩
 a1:=λ_ _=>bd _
 bl:=λi hi _=>⟨rfl,rfl,λhd=>by unfold bsize Ctx.fix;rw[uA (J.lt i hi hd)]⟩
 os:=rfl
 tape:=⟨rfl,bd _⟩
 output:=rfl
 base:=rfl
theorem bp.fix{c:Ctx}{H:ab}(J:bp c H)(o):bp (c.fix o) H where
 jX:=J.jX.mono<|Ext.fix J o
 n:=J.n
 lt:=λi hi hd=>by have:=J.lt i hi hd;simp[Ctx.fix];omega
 inj:=J.inj
 st:=λk hk=>by
  rcases hk with hk|rfl
  ·obtain⟨h1,h2⟩:=J.st k hk;exact⟨by simp[Ctx.fix];omega,h2⟩
  ·refine⟨by simp[Ctx.fix],λi b hi O hd=>?_⟩
   have:=J.lt i (by rw[J.n];grind) hd
   simp[Ctx.fix];omega
 rep:=λi b hi=>by
  have U:i<c.n:=by rw[J.n];exact(cj.1 hi).1
  exact(J.rep i b hi).mono (Ext.fix J o) U (λ_ _ K=>K) rfl λhd=>uA (J.lt i U hd)
def e8(x:I)(H:ab):List I:=
 match x with
 |.sl _ es=>es.flatMap I.cells
 |.osl s i _ off len _=>match ay H i with
  |.cells _ cs=>(cs.drop off).take<|len * s
  |_=>[]
 |.str s=>s.map λb=>.int .u8 b.toNat
 |_=>[]
def fa(x:I):Nat:=
 match x with
 |.sl _ es=>es.length
 |.osl _ _ _ _ len _=>len
 |.str s=>s.length
 |_=>0
def tr(x:I)(n:Nat)(H:ab):Prop:=
 match x with
 |.sl _ es=>∀e∈es,e.cells.length=n
 |.osl s i v off len lc=>s=n/\nh H (.osl s i v off len lc)/\match ay H i with
  |.cells _ cs=>off+len * s<=cs.length
  |_=>False
 |.str _=>n=1
 |_=>False
theorem EE(h:∀e∈es,e.cells.length=s):(es.flatMap I.cells).length=es.length * s:=by
 induction es<;>grind
theorem Nw(h:∀e∈es,e.cells.length=s)(k j)(J:j<s):(es.flatMap I.cells)[k * s+j]?=(es[k]?).bind λe=>e.cells[j]?:=by
 induction es generalizing k with
 |nil=>simp
 |cons e es U=>
  cases k with
  |zero=>grind
  |succ k=>
   grind
theorem tj(z:bp c H)(J:aI c x v)(U:tr x n H):
  (Builtin.lenOf v).run P c.w=.ok (fa x) c.w/\(e8 x H).length=fa x * n/\
  ∃us:Array Value,(Builtin.firstCells n (fa x) v).run P c.w=.ok us c.w/\us.size=(e8 x H).length/\(∀(i:Nat) (y:I) (u:Value),(e8 x H)[i]?=some y->us[i]?=some u->aI c y u):=by
 cases x<;>simp only[tr]at U;case sl full es=>
  obtain⟨base,len,cap,s,vs,rfl,rfl,h2,h3,h4,b4,db⟩:=J.qG;refine⟨by simp[Builtin.lenOf,fa],by simp only[e8,fa];exact EE U,?_⟩
  simp only[e8,fa];by_cases O:es=[]
  ·subst O;cases base with
   |none=>simp[Builtin.firstCells]
   |some a=>exact⟨#[],by simp[Builtin.firstCells,loadCells,loadCellsFrom],kk,kk⟩
  ·obtain⟨a,rfl,a2,a3,a4⟩:=h4 O;obtain⟨cY,lH⟩:=List.exists_mem_of_ne_nil es O;have hs:s=n:=by rw[<-b4 cY lH,U cY lH]
   subst hs;have px:∀m,m<es.length * s->c.w.cell? (a.add m)=some (vs (m / s)<|m % s):=by
    intro m hm;have K:0<s:=by
     rcases Nat.eq_zero_or_pos s with h|h
     ·subst h;omega
     ·exact h
    have nv:=a4 (m / s) (m % s) ((Nat.div_lt_iff_lt_mul K).2 hm)<|Nat.mod_lt _ K;rwa[qR,Nat.div_add_mod]at nv
   refine⟨_,by simp only[Builtin.firstCells];exact run_loadCells c.w a _ (λm=>vs (m / s)<|m % s) px,by simp[EE U],λi y u hi hu=>?_⟩
   have T:=by
    have:=(cj.1 hi).1;rwa[EE U]at this
   have K:0<s:=by
    rcases Nat.eq_zero_or_pos s with h|h
    ·subst h;omega
    ·exact h
   simp[T]at hu;subst hu;have lB:=Nw U (i / s) (i % s)<|Nat.mod_lt _ K;rw[qR,Nat.div_add_mod]at lB;rw[lB]at hi;cases hk:es[i / s]? with
   |none=>rw[hk]at hi;cases hi
   |some e=>rw[hk]at hi;exact db _ _ _ _ hk hi
 case osl s i v off len lc=>
  obtain⟨rfl,hl,U⟩:=U;have aG:=wQ z hl;simp only[e8,fa];cases V:ay H i with
  |cells a1 cs=>
   simp only[V]at U ⊢;obtain⟨base,cap,rfl,h1,EF,h2,h3⟩:=J.l8 aG;refine⟨by simp[Builtin.lenOf],nX,?_⟩
   cases hd:c.cO i with
   |true=>
    obtain⟨rfl,rfl⟩:=h2 hd;cases base with
    |none=>exact⟨#[],by simp[Builtin.firstCells],kk,kk⟩
    |some a=>exact⟨#[],by simp[Builtin.firstCells,loadCells,loadCellsFrom],kk,kk⟩
   |false=>
    obtain⟨cq,m,cT,dP⟩:=h3 hd;rcases cq with cq|rfl
    ·have aw:len=0:=iV
     subst aw;cases base with
     |none=>exact⟨#[],by simp[Builtin.firstCells],kk,kk⟩
     |some a=>exact⟨#[],by simp[Builtin.firstCells,loadCells,loadCellsFrom],kk,kk⟩
    ·obtain⟨_,_,vs,e,bT,Z,pB,ax,az⟩:=z.cells V hd;refine⟨_,by simp only[Builtin.firstCells];exact run_loadCells c.w _ _ (λj=>vs.getD (off+j) undef) (λj aq=>by rw[p0,AY Z];simp[show off+j<vs.size by omega]),nX,λk y u hk hu=>?_⟩
     rw[Dv,zm]at hk;split at hk
     ·rename_i T;simp[T]at hu;subst hu;have yP:=(cj.1 hk).1;refine az _ _ _ hk ?_;simp[show off+k<vs.size by omega]
     ·cases hk
  |_=>simp[V]at U
 case str s=>
  subst U;rw[J.ng];have e:(Builtin.firstCells 1 (fa<|.str s) (.string ⟨s.toArray⟩)).run P c.w=.ok (s.map λb=>Value.int .u8 b.toNat).toArray c.w:=by
   simp only[Builtin.firstCells,Sem.run_pure,fa];congr 1;apply Array.ext'
   simp[ByteArray.data_extract]
  refine⟨by simp[Builtin.lenOf,fa,yu],by simp[e8,fa],_,e,by simp[e8],λi y u hi hu=>?_⟩
  simp only[e8,mF,hC]at hi;obtain⟨b,Z,rfl⟩:=hi;rw[List.getElem?_toArray,mF,Z]at hu;cases hu;exact .int _ _<|KO.2 ⟨iV,by have:=b.toNat_lt;omega⟩
theorem Lu{J:Nat×Nat}(h:w.heap[b]?=some (.cells vs e J)):bsize w b=some vs.size:=by simp[bsize,h]
def o5(P:Program)(e:TypeId):Bool:=(P.underlying e).isSome&&(eM P e).known&&((eM P e).cells.length==P.cellsOf e)
def xJ(P:Program)(t:TypeId):Bool:=
 match P.underlying t with
 |some (.int _)=>false
 |some _=>true
 |none=>false
def xB(P:Program)(ts tx:TypeId)(s x:I)(H:ab):kc:=
 match P.underlying ts with
 |some (.slice e)=>
  match s with
  |.sl full es=>⟨.osl (P.cellsOf e) H.length 1 0 (es.length+fa x)<|es.length+fa x,H++[.cells 1 (es.flatMap I.cells++e8 x H)],
    o5 P e=true/\xJ P tx=true/\full=true/\(es=[]\/fa x≠0)/\(∀x∈es,x.cells.length=P.cellsOf e)/\tr x (P.cellsOf e) H/\(es.length+fa x) * P.bytesOf e<=140737488355328/\P.bytesOf e≠0⟩
  |.osl sz i v off len lc=>
   match ay H i with
   |.cells a1 cs=>
    if len=lc then
     ⟨.osl sz i (v+1) 0 (len+fa x)<|len+fa x,ar H i<|.cells (v+1) (cs++e8 x H),
      o5 P e=true/\xJ P tx=true/\v=a1/\v≠0/\off=0/\sz=P.cellsOf e/\len * sz=cs.length/\tr x sz H/\(len+fa x) * P.bytesOf e<=140737488355328/\P.bytesOf e≠0/\(e8 x H).all I.one=true⟩
    else
     ⟨.osl sz i v off (len+fa x) lc,ar H i<|.cells v (dq cs (off+len * sz) (e8 x H)),
      o5 P e=true/\xJ P tx=true/\v=a1/\sz=P.cellsOf e/\off+lc * sz<=cs.length/\len+fa x<=lc/\tr x sz H/\(e8 x H).all I.one=true⟩
   |_=>⟨.top,H,False⟩
  |_=>⟨.top,H,False⟩
 |_=>⟨.top,H,False⟩
theorem PN(h:n * b<=140737488355328)(aw:b≠0):n<=9223372036854775807:=by
 have:=Nat.le_mul_of_pos_right n<|Nat.pos_of_ne_zero aw;omega
theorem GO(z:Array Value)(n:Nat):(Builtin.zeroCells z n).size=n * z.size:=by simp[Builtin.zeroCells]
theorem Pk{s x:Value}{U:Array Value}(hu:P.underlying ts=some (.slice e))(V:o5 P e=true)(kp:xJ P tx=true)
  (af:(Builtin.lenOf x).run P w=.ok n w) (hs:s=.slice base len cap) (I:cap<len+n) (aa:(len+n) * P.bytesOf e<=140737488355328) (l2:P.bytesOf e≠0)
  (hold:(Builtin.firstCells (P.cellsOf e) len s).run P {w with drawn:=w.drawn+1}=.ok U {w with drawn:=w.drawn+1})
  (Z:(Builtin.firstCells (P.cellsOf e) n x).run P {w with drawn:=w.drawn+1}=.ok new {w with drawn:=w.drawn+1}):
  ∃(J:Nat) (rest:Array Value),len+n<=J/\rest.size=(J-(len+n)) * P.cellsOf e/\
   (Builtin.append_ #[ts,tx] ty #[s,x]).run P w=.ok (.slice (some ⟨w.heap.size,0,none⟩) (len+n) J) (World.alloc {w with drawn:=w.drawn+1} (.cells (U++new++rest) e)):=by
 simp only[o5,cV,rK]at V;obtain⟨⟨h1,h2⟩,h3⟩:=V;obtain⟨d,hd⟩:=hV.1 h1;obtain⟨i,hi,aAm⟩:=KP hd;obtain⟨z,gu,gl⟩:=uG h2 {w:=w,n:=0,bl:=λ_=>0,a1:=λ_=>0,cO:=λ_=>true,hh:=λ_=>False,base:=(0,[])}
 have sa:z.cells.size=P.cellsOf e:=by rw[(gl.cells h2).1,h3]
 have O:i.bytes=P.bytesOf e:=by simp[Program.bytesOf,hi]
 have mr:∃K,P.underlying tx=some K/\(∀k,K≠.int k):=by
  grind [xJ]
 obtain⟨K,vA,aOu⟩:=mr;have hzero:(match K with|.int _=>true|_=>false)=false:=by
  simp_all
 subst hs;have T:¬(len+n<=cap):=iV
 have mq:Builtin.nextslicecap (len+n) cap * i.bytes<=281474976710656:=by rw[O];exact growslice_fits I aa
 let J:=(len+n)+(w.tape w.drawn (.appendCap (len+n) cap e)) % (2 ^ 63-(len+n))
 refine⟨J,Builtin.zeroCells z.cells<|J-(len+n),iV,by rw[GO,sa],?_⟩
 have jY:=iV
 have Q7:=by simpa using mq
 simp only[World.drew_eq]at hold Z ⊢;have E2:(Question.appendCap (len+n) cap e).cut (w.tape w.drawn<|.appendCap (len+n) cap e)=J:=rfl;simp[Builtin.append_,run_underlying hu,gT hd,run_underlying vA,af,T,l2,typeInfo,hi,O,Question.forced,hold,Z,gu,newRow];rw[aj (by rw[<-O];omega),E2]
theorem zY{w':World}{x:Value}(hu:P.underlying ts=some (.slice e))(O:o5 P e=true)(J:xJ P tx=true)
  (af:(Builtin.lenOf x).run P w=.ok n w) (hle:len+n<=cap) (T:(Builtin.firstCells (P.cellsOf e) n x).run P w=.ok new w)
  (Z:∀a,base=some a->(storeCells (a.add<|len * P.cellsOf e) new.toList).run P w=.ok () w') (hw:base=none->w'=w):
  (Builtin.append_ #[ts,tx] ty #[.slice base len cap,x]).run P w=.ok (.slice base (len+n) cap) w':=by
 simp only[o5,cV,rK]at O;obtain⟨⟨h1,h2⟩,h3⟩:=O;obtain⟨d,hd⟩:=hV.1 h1;have I:∃U,P.underlying tx=some U/\(∀k,U≠.int k):=by
  unfold xJ at J;cases K:P.underlying tx with
  |none=>rw[K]at J;cases J
  |some U=>exact⟨U,rfl,λk hk=>by rw[K,hk]at J;cases J⟩
 obtain⟨U,V,z⟩:=I;cases base with
 |none=>
  rw[hw rfl];simp[Builtin.append_,run_underlying hu,gT hd,run_underlying V,af,hle,T]
 |some a=>
  have:=Z a rfl;simp[Builtin.append_,run_underlying hu,gT hd,run_underlying V,af,hle,T,this]
def Ctx.void(c:Ctx):Ctx:=
 {w:=c.w,n:=c.n+1,bl:=c.bl,a1:=λi=>if i=c.n then 1 else c.a1 i,cO:=λi=>if i=c.n then true else c.cO i,hh:=c.hh,base:=c.base}
theorem Ext.void(c:Ctx):Ext c c.void:=
 ⟨oA _,bd _,λ_ h=>⟨h,rfl⟩,λi hi=>by grind [Ctx.void],λi hi _=>⟨rfl,by simp[Ctx.void,show ¬i=c.n by omega],λ_=>rfl⟩,rfl,⟨rfl,bd _⟩,rfl,rfl⟩
theorem bp.void{c:Ctx}{H:ab}(J:bp c H):bp c.void (H++[.cells 1 []]):=by
 have af:=J.n;have U:∀{i:Nat} {b:bE},(H++[.cells 1 []])[i]?=some b->c.void.cO i=false->i<c.n/\H[i]?=some b/\c.cO i=false:=by
  intro i b hi hd;simp only[Ctx.void]at hd;grind
 refine⟨J.jX.mono<|Ext.void c,by simp[Ctx.void,af],λi hi hd=>?_,λi j b T hi O K V fF eH he=>?_,λk hk=>?_,λi b hi=>?_⟩
 ·simp only[Ctx.void]at hi hd ⊢;by_cases h:i=c.n
  ·simp[h]at hd
  ·simp only[h,gz]at hd;exact J.lt i iV hd
 ·obtain⟨h1,h2,h3⟩:=U hi fF;obtain⟨g1,g2,g3⟩:=U O eH;exact J.inj i j b T h2 g2 K V h3 g3 he
 ·obtain⟨h1,h2⟩:=J.st k hk;refine⟨h1,λi b hi K hd=>?_⟩
  obtain⟨g1,g2,g3⟩:=U hi hd;exact h2 i b g2 K g3
 ·have I:=by simpa using(cj.1 hi).1
  by_cases h:i=c.n
  ·subst h;rw[af]at hi;simp at hi;subst hi;exact .void 1 (by simp[Ctx.void])<|by simp[Ctx.void]
  ·rw[iP iV]at hi
   exact(J.rep i b hi).mono (Ext.void c) iV (λj O Z=>by simp[Ctx.void,show ¬j=c.n by omega,Z]) (by simp[Ctx.void,h]) λ_=>rfl
def Ctx.iK(c:Ctx)(i:Nat):Ctx:={c with a1:=λj=>if j=i then c.a1 i+1 else c.a1 j}
theorem Ext.iK(c:Ctx)(i:Nat):Ext c (c.iK i):=by
 refine⟨bd _,bd _,λ_ h=>⟨h,rfl⟩,λj J=>?_,λj J _=>⟨rfl,rfl,λ_=>rfl⟩,rfl,⟨rfl,bd _⟩,rfl,rfl⟩
 grind [Ctx.iK]
theorem bp.SN(U:bp c H){a1:Nat}{B B':bE}(hi:H[i]?=some B)(V:a1≠0)(Z:c.a1 i=a1)(I:fL (c.iK i) i B')(K:B.live:=by trivial):
  Ext c (c.iK i)/\bp (c.iK i) (ar H i B'):=by
 have z:=(cj.1 hi).1;refine⟨Ext.iK c i,⟨U.jX.mono<|Ext.iK c i,by simp[ar,Ctx.iK,U.n],U.lt,λj k b cB J hk O ew eH gf he=>?_,λk hk=>⟨(U.st k hk).1,λj b J O hd=>?_⟩,λj b J=>?_⟩⟩
 ·simp only[ar]at J hk;have h1:∃x,H[j]?=some x/\x.live:=by
   grind
  have h2:∃x,H[k]?=some x/\x.live:=kr
  obtain⟨x,fY,dW⟩:=h1;obtain⟨y,wy,wz⟩:=h2;exact U.inj j k x y fY wy dW wz eH gf he
 ·simp only[ar]at J;by_cases h:j=i
  ·subst h;exact(U.st k hk).2 j B hi K hd
  ·rw[gC iV]at J;exact(U.st k hk).2 j b J O hd
 ·by_cases h:j=i
  ·subst h;simp[ar,z]at J;subst J;exact I
  ·simp only[ar]at J;rw[gC iV]at J
   refine(U.rep j b J).mono (Ext.iK c i) (by rw[U.n];exact(cj.1 J).1) (λk _ T=>?_) (by simp[Ctx.iK,h]) λ_=>rfl
   simp only[Ctx.iK];have:k≠i:=λe=>V<|by rw[<-Z,<-e];exact T
   simp[this,T]
theorem PO{xs ys:List I}{us rest:Array Value}(h1:us.size=xs.length)(h2:∀(i:Nat) (y) (u),xs[i]?=some y->us[i]?=some u->aI c y u)
  (h3:vs.size=ys.length) (h4:∀(i:Nat) (y) (u),ys[i]?=some y->vs[i]?=some u->aI c y u) (i:Nat) (y) (u) (hi:(xs++ys)[i]?=some y) (hu:(us++vs++rest)[i]?=some u):aI c y u:=kr
theorem Yj{s:I}{vs:Value}(U:bp c H)(kN:aI c s vs)(J:aI c x b2)(hs:(xB P ts tx s x H).s):
  mj P (Builtin.append_ #[ts,tx] ty #[vs,b2]) c (xB P ts tx s x H).v (xB P ts tx s x H).H:=by
 unfold xB at *;cases hu:P.underlying ts with
 |none=>simp[hu]at hs
 |some aM5=>
  cases aM5<;>simp only[hu]at hs;case slice e=>
   simp only;cases s<;>simp only at hs;case sl full es=>
    obtain⟨Z,z,rfl,aT,vE,r9,aa,l2⟩:=hs;simp only;have h7:tr (.sl true es) (P.cellsOf e) H:=vE;obtain⟨aP,O,us,bH,cC,ez⟩:=tj (P:=P) U J r9;obtain⟨base,len,cap,sz,mD,rfl,rfl,g2,g3,g4, -⟩:=kN.qG;have mq:=g3 rfl;subst mq;by_cases af:fa x=0
    · -- nothing is appended to nothing
      have aOv:es=[]:=aT.resolve_right λh=>h af
      subst aOv;have pH:us= #[]:=by
       have:us.size=0:=by rw[cC,O,af];simp
       exact tF this
      have hr:=zY (P:=P) (w':=c.w) (ty:=ty) (base:=base) (len:=0) (cap:=0) hu Z z aP iV bH (λa _=>by rw[pH];simp[storeCells]) λ_=>rfl
      have hI:e8 x H=[]:=iO<|by rw[O,af];simp
      refine⟨c.void,_,hr,?_,Ext.void c,?_⟩
      ·rw[hI];exact U.void
      ·rw[af];refine .osl _ _ _ _ _ _ _ (by simp[Ctx.void,U.n]) (by simp[Ctx.void,U.n]) rfl kk (λ_ _=>⟨rfl,rfl,base,rfl⟩) λ_ hd=>by simp[Ctx.void,U.n]at hd
    ·obtain⟨-,cT,xH,dP,mA,xI⟩:=tj (P:=P) U.draw (kN.mono<|Ext.draw c) h7;obtain⟨-, -,xT,bb,bf,dC⟩:=tj (P:=P) U.draw (J.mono<|Ext.draw c) r9;obtain⟨kR,rest,k1,k2,k3⟩:=Pk (P:=P) (ty:=ty) (w:=c.w) hu Z z aP rfl iV aa l2 dP bb
     have lE:=U.draw.push (.cells (xH++xT++rest) e) (B:=.cells 1<|es.flatMap I.cells++e8 x H) 1 (by
      refine .cells _ _ _ e (0,0) (by simp[Ctx.push]) (by simp[Ctx.push]) (by simp only[Ctx.push,dG];exact mo _ _) ?_ (.inr<|bd _) (λi y u hi hu=>?_)
      ·simp only[bF,Array.size_append];rw[mA,bf];simp only[e8];omega
      ·exact(PO mA xI bf dC i y u hi hu).mono<|Ext.push U.draw _ 1)
     refine⟨_,_,k3,lE,(Ext.draw c).trans<|Ext.push U.draw _ 1,?_⟩;refine .osl _ _ _ _ _ _ _ (by simp[Ctx.push,Ctx.draw,U.n]) (by simp[Ctx.push,Ctx.draw,U.n]) rfl (PN aa l2) (λ_ hd=>by simp[Ctx.push,Ctx.draw,U.n]at hd) λ_ _=>?_
     refine⟨_,kR,(xH++xT++rest).size,rfl,bd _,k1,.inr (by simp[Ctx.push,Ctx.draw,U.n]),?_,?_⟩
     ·simp only[bsize,Ctx.push,Ctx.draw,U.n,dG];have:=mo {c.w with drawn:=c.w.drawn+1} (.cells (xH++xT++rest) e)
      simp only at this;rw[this]
     ·simp only[Array.size_append];rw[mA,bf,k2];have av:(e8 (.sl true es) H).length=es.length * P.cellsOf e:=cT;rw[av,O,<-pg,<-pg];have:es.length+fa x+(kR-(es.length+fa x))=kR:=iV
      rw[this];omega
   case osl sz i v off len lc=>
    simp only;cases T:ay H i with
    |cells a1 cs=>
     simp only[T]at hs ⊢;by_cases EZ:len=lc
     ·rw[aA EZ]at hs ⊢;subst EZ;obtain⟨Z,z,rfl,AI,rfl,rfl,hlen,r9,aa,l2,ra⟩:=hs;have K:=U.qN T;have RN:tr (.osl (P.cellsOf e) i v 0 len len) (P.cellsOf e) H:=by
       refine⟨rfl,by simp[nh,T],?_⟩
       simp only[T];omega
      obtain⟨aP,O,us,bH,cC,ez⟩:=tj (P:=P) U J r9;obtain⟨base,cap,rfl,g2,HD,g3,g4⟩:=kN.l8 K;have hi:i<c.n:=by rw[U.n];exact dk T trivial
      have jo:=kG T trivial;by_cases qo:len+fa x<=cap
      · -- it fits
        cases hd:c.cO i with
        |true=>
         obtain⟨rfl,rfl⟩:=g3 hd;have af:fa x=0:=iV
         have aOn:cs=[]:=iO iV
         have r8:e8 x H=[]:=iO<|by rw[O,af];simp
         have pH:us= #[]:=tF<|by rw[cC,O,af];simp
         have hr:=zY (P:=P) (w':=c.w) (ty:=ty) (base:=base) (len:=0) (cap:=0) hu Z z aP iV bH (λa _=>by rw[pH];simp[storeCells]) λ_=>rfl
         obtain⟨V,gj⟩:=U.SN (B':=.cells (v+1)<|cs++e8 x H) jo AI K (by
          rw[aOn,r8];exact .void _ (by simp[Ctx.iK,K])<|by simp[Ctx.iK,hd])
         refine⟨c.iK i,_,hr,gj,V,?_⟩;rw[af];exact .osl _ _ _ _ _ _ _ hi (by simp[Ctx.iK,K]) rfl iV (λ_ _=>⟨rfl,rfl,base,rfl⟩) λ_ gJ=>by simp[Ctx.iK,hd]at gJ
        |false=>
         obtain⟨cq,m,cT,dP⟩:=g4 hd;obtain⟨_,_,mD,jz,bT,ew,pB,ax,az⟩:=U.cells T hd;have hm:mD.size=m:=by simp[bsize,ew]at cT;exact cT
         rcases Nat.eq_zero_or_pos cap with yG|aOm
         · -- no room at all: nothing is appended
           subst yG;have af:fa x=0:=iV
           have ko:len=0:=iV
           subst ko;have r8:e8 x H=[]:=iO<|by rw[O,af];simp
           have pH:us= #[]:=tF<|by rw[cC,O,af];simp
           have hr:=zY (P:=P) (w':=c.w) (ty:=ty) (base:=base) (len:=0) (cap:=0) hu Z z aP iV bH (λa _=>by rw[pH];simp[storeCells]) λ_=>rfl
           obtain⟨V,gj⟩:=U.SN (B':=.cells (v+1)<|cs++e8 x H) jo AI K (by
            rw[r8,cA];refine .cells _ _ mD jz bT (by simp[Ctx.iK,K]) (by simp[Ctx.iK,hd]) (by simpa[Ctx.iK]using ew) pB ax λj y u h1 h2=>(az j y u h1 h2).mono (Ext.iK c i))
           refine⟨c.iK i,_,hr,gj,V,?_⟩;rw[af];exact .osl _ _ _ _ _ _ _ hi (by simp[Ctx.iK,K]) rfl iV (λ_ gJ=>by simp[Ctx.iK,hd]at gJ) λ_ _=>⟨_,0,m,rfl,bd _,bd _,.inl rfl,by simpa[Ctx.iK]using cT,iV⟩
         ·have n7:base=some ⟨c.bl i,0,none⟩:=cq.resolve_left iV
          subst n7;have hmul:(len+fa x) * P.cellsOf e<=cap * P.cellsOf e:=wA _ qo;have aPg:(len+fa x) * P.cellsOf e=len * P.cellsOf e+fa x * P.cellsOf e:=pg _ _ _;have Ct:∀u∈us.toList,u.oneCell'=true:=by
           intro u kq;obtain⟨k,ed,ee⟩:=List.getElem_of_mem kq;simp only[Array.length_toList]at ed;have aH:(e8 x H)[k]?=some ((e8 x H)[k]'(by omega)):=da iV
           exact(ez k _ u aH (by rw[<-ee];simp)).one<|gm.1 ra _ (ga _)
          have RQ:=SP (P:=P) (w:=c.w) (b:=c.bl i) (off:=len * P.cellsOf e) us.toList ew (by simp;rw[cC,O];omega) ax Ct
          have hr:=zY (P:=P) (ty:=ty) (base:=some ⟨c.bl i,0,none⟩) (len:=len) (cap:=cap) hu Z z aP qo bH (λa aF=>by cases aF;rw[p0,j9];exact RQ) λh=>by cases h
          obtain⟨ak,he⟩:=sF.1 ew;have AJ:(lp mD (len * P.cellsOf e) us.toList).size=mD.size:=zL _ _ _;obtain⟨V,gj⟩:=U.bump (B':=.cells (v+1)<|cs++e8 x H) jo trivial (by rw[K];exact AI) (World.putCells c.w (c.bl i) (lp mD (len * P.cellsOf e) us.toList) jz bT) (c.bl i) (by simp[World.putCells]) (by simpa[World.putCells]using ak) (.inr ⟨rfl,hd⟩)
           (λb _ aN=>yH aN) rfl rfl rfl (by
            refine .cells _ _ (lp mD (len * P.cellsOf e) us.toList) jz bT (by simp[Ctx.bump,K]) (by simp[Ctx.bump]) (by simp only[Ctx.bump,dG];exact vC ak) (by rw[AJ,bF,O];omega) (by rw[AJ];exact ax) λj y u h1 h2=>?_
            refine aI.mono (c:=c) (U.Ex jo trivial (by rw[K];exact AI) _ _ (by simp[World.putCells]) (.inr ⟨rfl,hd⟩) (λb _ aN=>yH aN) rfl rfl rfl) ?_
            rw[GY _ _ _ (e8 x H).length (by simpa using cC) (by rw[O];omega)]at h2
            by_cases aq:j<cs.length
            ·rw[iP aq]at h1;rw[aj iV]at h2
             exact az _ _ _ h1 h2
            ·rw[pX iV]at h1
             have gi:=(cj.1 h1).1;rw[aA iV]at h2
             rw[hlen]at h2;exact ez _ _ _ h1<|by simpa using h2)
          refine⟨c.bump i _ _,_,hr,gj,V,?_⟩;exact .osl _ _ _ _ _ _ _ hi (by simp[Ctx.bump,K]) rfl (PN aa l2) (λ_ gJ=>by simp[Ctx.bump]at gJ) λ_ _=>⟨_,cap,m,rfl,bd _,qo,.inr (by simp[Ctx.bump]),by rw[<-hm,<-AJ];exact Lu (by simp only[Ctx.bump,dG];exact vC ak),dP⟩
      · -- a new array
        obtain⟨-,cT,xH,dP,mA,xI⟩:=tj (P:=P) U.draw (kN.mono<|Ext.draw c) RN;obtain⟨-, -,xT,bb,bf,dC⟩:=tj (P:=P) U.draw (J.mono<|Ext.draw c) r9;obtain⟨kR,rest,k1,k2,k3⟩:=Pk (P:=P) (ty:=ty) (w:=c.w) hu Z z aP rfl iV aa l2 dP bb
        have hold:e8 (.osl (P.cellsOf e) i v 0 len len) H=cs:=by
         simp only[e8,T,x4];rw[hlen,eG]
        rw[hold]at mA xI;obtain⟨V,gj⟩:=U.draw.bump (B':=.cells (v+1)<|cs++e8 x H) jo trivial (by simpa[Ctx.draw,K]using AI) (World.alloc {c.w with drawn:=c.w.drawn+1} (.cells (xH++xT++rest) e)) c.w.heap.size (by simp[Ctx.draw]) kk (.inl<|by simp[Ctx.draw])
         (λb ak _=>uA<|by simpa[Ctx.draw]using ak) rfl rfl rfl (by
          refine .cells _ _ _ e (0,0) (by simp[Ctx.bump,Ctx.draw,K]) (by simp[Ctx.bump]) (by simp only[Ctx.bump,dG];exact mo _ _) ?_ (.inr<|bd _) (λj y u hi hu=>?_)
          ·simp only[bF,Array.size_append];omega
          ·exact(PO mA xI bf dC j y u hi hu).mono<|U.draw.Ex jo trivial (by simpa[Ctx.draw,K]using AI) _ _ (by simp[Ctx.draw]) (.inl (by simp[Ctx.draw])) (λb ak _=>uA (by simpa[Ctx.draw]using ak)) rfl rfl rfl)
        refine⟨c.draw.bump i _ _,_,k3,gj,(Ext.draw c).trans V,?_⟩;refine .osl _ _ _ _ _ _ _ hi (by simp[Ctx.bump,Ctx.draw,K]) rfl (PN aa l2) (λ_ hd=>by simp[Ctx.bump]at hd) λ_ _=>?_
        refine⟨_,kR,(xH++xT++rest).size,rfl,bd _,k1,.inr (by simp[Ctx.bump]),?_,?_⟩
        ·exact Lu<|by simp only[Ctx.bump,dG];exact mo _ _
        ·simp only[Array.size_append];rw[mA,bf,k2,O,<-hlen,<-pg,<-pg];have:len+fa x+(kR-(len+fa x))=kR:=iV
         rw[this];omega
     ·rw[aj EZ]at hs ⊢;obtain⟨Z,z,rfl,rfl,jm,hle,r9,ra⟩:=hs;have K:=U.qN T;obtain⟨aP,O,us,bH,cC,ez⟩:=tj (P:=P) U J r9;obtain⟨base,cap,rfl,g2,HD,g3,g4⟩:=kN.l8 K;have hi:i<c.n:=by rw[U.n];exact dk T trivial
      cases hd:c.cO i with
      |true=>have:=g3 hd;omega
      |false=>
       obtain⟨cq,m,cT,dP⟩:=g4 hd;have n7:base=some ⟨c.bl i,off,none⟩:=cq.resolve_left iV
       subst n7;have Ct:∀u∈us.toList,u.oneCell'=true:=by
        intro u kq;obtain⟨k,ed,ee⟩:=List.getElem_of_mem kq;simp only[Array.length_toList]at ed;have aH:(e8 x H)[k]?=some ((e8 x H)[k]'(by omega)):=da iV
        exact(ez k _ u aH (by rw[<-ee];simp)).one<|gm.1 ra _ (ga _)
       have hmul:(len+fa x) * P.cellsOf e<=lc * P.cellsOf e:=wA _ hle;have aPg:(len+fa x) * P.cellsOf e=len * P.cellsOf e+fa x * P.cellsOf e:=pg _ _ _;obtain⟨w',gQ,V,gj⟩:=U.putCells (P:=P) T hd (off:=off+len * P.cellsOf e) (ys:=e8 x H) (us:=us.toList) (by rw[O];omega) (by simpa using cC) (λk y u h1 h2=>ez k y u h1<|by simpa using h2) Ct
       have hr:=zY (P:=P) (ty:=ty) (base:=some ⟨c.bl i,off,none⟩) (len:=len) (cap:=cap) hu Z z aP iV bH (λa aF=>by cases aF;rw[p0];exact gQ) λh=>by cases h
       refine⟨{c with w:=w'},_,hr,gj,V,?_⟩
       refine aI.mono V<|.osl _ _ _ _ _ _ _ hi (by rw[K];exact bd _) rfl kN.FB (λ_ gJ=>by rw[hd]at gJ;cases gJ) (λ_ _=>⟨_,cap,m,rfl,hle,HD,.inr rfl,cT,dP⟩)
    |_=>simp[T]at hs
def D2(P:Program)(t:TypeId)(l c:I)(H:ab):kc:=
 match P.underlying t,l,c with
 |some (.slice e),.int _ l,.int _ c=>⟨.osl (P.cellsOf e) H.length 1 0 l.toNat c.toNat,H++[.cells 1 ((List.replicate c.toNat (eM P e)).flatMap I.cells)],
   o5 P e=true/\0<=l/\l<=c/\c<=9223372036854775807/\c.toNat * P.bytesOf e<=140737488355328⟩
 |_,_,_=>⟨.top,H,False⟩
theorem TE{n:Int}(h1: -9223372036854775808<=n)(h2:n<=9223372036854775807):IntKind.i64.wrap n=n:=by
 grind [IntKind.wrap,IntKind.signed,IntKind.bits]
theorem aEA{l:I}{F1:Value}(U:bp c H)(hl:aI c l F1)(hk:aI c k rE)(hs:(D2 P t l k H).s):
  mj P (Instr.makeSlice t F1 rE) c (D2 P t l k H).v (D2 P t l k H).H:=by
 unfold D2 at *;split at hs
 ·rename_i e k1 l k2 n hu;obtain⟨bn,aw,hle,r1,aa⟩:=hs;rw[hl.iF,hk.iF];simp only[o5,cV,rK]at bn;obtain⟨⟨aP,T⟩,bH⟩:=bn;obtain⟨d,hd⟩:=hV.1 aP;obtain⟨i,hi,aAm⟩:=KP hd;obtain⟨z,gu,gl⟩:=uG T c;have sa:z.cells.size=P.cellsOf e:=by rw[(gl.cells T).1,bH]
  have xa:P.bytesOf e=i.bytes:=by simp[Program.bytesOf,hi]
  have fH:IntKind.i64.wrap l=l:=TE iV iV
  have dI:IntKind.i64.wrap n=n:=TE iV iV
  have af:=iV
  have aXx:i.bytes * n<=140737488355328:=by
   grind
  let K:=if n.toNat * P.cellsOf e=0 then #[]else z.cells
  let ws:=(Array.range (n.toNat * P.cellsOf e)).map λk=>K[k % K.size]!
  have hr:(Instr.makeSlice t (.int k1 l) (.int k2 n)).run P c.w=.ok (.slice (some ⟨c.w.heap.size,0,none⟩) l.toNat n.toNat) (c.w.alloc<|.cells ws e):=by
   have c1:(decide (n<0)||decide (i.bytes * n>2 ^ 48))=false:=by
    rw[Bool.or_eq_false_iff];exact⟨nX,nX⟩
   have c2:((decide (n<0)||decide (i.bytes * n>2 ^ 48))||decide (l<0)||decide (l>n))=false:=by
    rw[c1,Bool.false_or,Bool.or_eq_false_iff];exact⟨nX,nX⟩
   have qo:¬(n.toNat * i.bytes>roomBytes):=by
    rw[xa]at aa;have:roomBytes=140737488355328:=rfl;omega
   simp only[Instr.makeSlice,Sem.run_bind,run_underlying hu,Result.andThen_ok,asInt,asIntOf,Sem.run_pure,typeInfo,run_program,hi,fH,dI,c2,mE,gz,askRoom,qo,gT hd];by_cases O:n.toNat * P.cellsOf e=0
   ·simp only[O,dG,Sem.run_pure,Result.andThen_ok,newRow,Sem.run_bind];simp only[ws,K,O,dG];rfl
   ·simp only[O,gz,Sem.run_bind,gu,Sem.run_pure,Result.andThen_ok,newRow];simp only[ws,K,O,gz];rfl
  have CG:ws.size=n.toNat * P.cellsOf e:=by simp[ws]
  have px:∀x∈List.replicate n.toNat (eM P e),x.cells.length=P.cellsOf e:=λx J=>by rw[(List.mem_replicate.1 J).2];exact bH
  have hlen:=EE px;rw[zl]at hlen;have lE:=U.push (.cells ws e) (B:=.cells 1<|(List.replicate n.toNat (eM P e)).flatMap I.cells) 1 (by
   refine .cells _ _ ws e (0,0) (by simp[Ctx.push]) (by simp[Ctx.push]) (by simp only[Ctx.push,dG];exact mo _ _) (by rw[hlen,CG];exact bd _) (.inr (bd _)) λj y u aq hu=>?_
   have V:j<n.toNat * P.cellsOf e:=by have:=(cj.1 aq).1;omega
   have nD:0<P.cellsOf e:=Nat.pos_of_ne_zero λh=>by rw[h,Nat.mul_zero]at V;omega
   have hm:j % P.cellsOf e<P.cellsOf e:=Nat.mod_lt _ nD;have hdiv:j / P.cellsOf e * P.cellsOf e+j % P.cellsOf e=j:=by rw[qR];exact Nat.div_add_mod _ _
   have h1:=Nw px (j / P.cellsOf e) (j % P.cellsOf e) hm;rw[hdiv,aq]at h1;have jl:j / P.cellsOf e<n.toNat:=Nat.div_lt_of_lt_mul<|by rw[qR];exact V
   rw[List.getElem?_replicate,aA jl,fZ]at h1;have Z:K=z.cells:=aj iV
   have h2:ws[j]?=some (K[j % K.size]!):=by simp only[ws,Array.getElem?_map];rw[mc (by simpa using V)];simp
   rw[h2,Z,sa]at hu;cases hu;refine aI.mono (Ext.push U _ 1)<|(gl.cells T).2 _ _ _ h1.symm ?_;rw[getElem!_pos z.cells (j % P.cellsOf e) iV]
   exact mc _)
  refine⟨_,_,hr,lE,Ext.push U _ 1,?_⟩;refine .osl _ _ _ _ _ _ _ (by simp[Ctx.push,U.n]) (by simp[Ctx.push,U.n]) rfl iV (λ_ hd=>by simp[Ctx.push,U.n]at hd) λ_ _=>?_
  refine⟨_,n.toNat,n.toNat * P.cellsOf e,rfl,iV,bd _,.inr (by simp[Ctx.push,U.n]),?_,iV⟩
  simp only[bsize,Ctx.push,U.n,dG];rw[mo];exact bU some CG
 ·exact hs.elim
def z7(P:Program)(t:TypeId)(d x:I)(H:ab):kc:=
 match P.underlying t,d with
 |some (.slice e),.osl sz i v off len _=>match ay H i with
  |.cells a1 cs=>⟨.int .i64<|fa x,ar H i<|.cells a1 (dq cs off (e8 x H)),
    v=a1/\(P.underlying e).isSome=true/\sz=P.cellsOf e/\off+len * sz<=cs.length/\fa x<=len/\tr x sz H/\(e8 x H).all I.one=true⟩
  |_=>⟨.top,H,False⟩
 |_,_=>⟨.top,H,False⟩
theorem Zd{u:TypeId}{d:I}(U:bp c H)(hd:aI c d cO)(J:aI c x b2)(hs:(z7 P t d x H).s):
  mj P (Builtin.copy_ #[t,u] ty #[cO,b2]) c (z7 P t d x H).v (z7 P t d x H).H:=by
 unfold z7 at *;split at hs
 ·rename_i e sz i v off len lc hu;cases O:ay H i with
  |cells a1 cs=>
   simp only[O]at hs ⊢;obtain⟨rfl,K,rfl,hle,af,r9,ra⟩:=hs;obtain⟨B4,K⟩:=hV.1 K;have eR:=U.qN O;have jh:=hd.FB;obtain⟨aP,aR,us,T,cC,ez⟩:=tj (P:=P) U J r9;obtain⟨base,cap,rfl,g2,HD,g3,g4⟩:=hd.l8 eR;have hi:i<c.n:=by rw[U.n];exact dk O trivial
   have Mj:=uX af;have jo:=kG O trivial;have Ct:∀u∈us.toList,u.oneCell'=true:=by
    intro u kq;obtain⟨k,ed,ee⟩:=List.getElem_of_mem kq;simp only[Array.length_toList]at ed;have aH:(e8 x H)[k]?=some ((e8 x H)[k]'(by omega)):=da iV
    exact(ez k _ u aH (by rw[<-ee];simp)).one<|gm.1 ra _ (ga _)
   cases vT:c.cO i with
   |true=>
    obtain⟨rfl,rfl⟩:=g3 vT;have V:fa x=0:=iV
    have Z:=iO<|by rw[aR,V];simp
    have pH:=tF<|by rw[cC,Z];rfl
    have hI:dq cs off []=cs:=by simp[dq]
    have RK:ar H i (.cells v cs)=H:=by
     unfold ar;apply x3
     intro j;by_cases z:j=i
     ·subst z;rw[rH (by rw[<-U.n];exact hi),jo]
     ·rw[gC (λq=>z q.symm)]
    refine⟨c,.int .i64<|fa x,?_,?_,Ext.refl c,.int _ _<|rR.2 iV⟩
    ·cases base with
     |none=>simp only[Builtin.copy_,List.getElem?_toArray,List.getElem?_cons_zero,tD,Sem.run_bind,run_underlying hu,Result.andThen_ok,aP,Mj,gT K,T,Sem.run_pure,goInt]
     |some a=>simp[Builtin.copy_,Sem.run_bind,run_underlying hu,Result.andThen_ok,aP,V,gT K,V▸T,Sem.run_pure,goInt,pH,storeCells]
    ·rw[Z,hI,RK];exact U
   |false=>
    obtain⟨cq,m,cT,dP⟩:=g4 vT;have hmul:fa x * P.cellsOf e<=len * P.cellsOf e:=wA _ af;obtain⟨w',gQ,fP,gj⟩:=U.putCells (P:=P) O vT (off:=off) (by rw[aR];omega) (by simpa using cC) (λk y u h1 h2=>ez k y u h1<|by simpa using h2) Ct
    rcases Nat.eq_zero_or_pos cap with yG|aOm
    ·have V:fa x=0:=iV
     have Z:=iO<|by rw[aR,V];simp
     have pH:=tF<|by rw[cC,Z];rfl
     have hI:dq cs off []=cs:=by simp[dq]
     have RK:ar H i (.cells v cs)=H:=by
      unfold ar;apply x3
      intro j;by_cases z:j=i
      ·subst z;rw[rH (by rw[<-U.n];exact hi),jo]
      ·rw[gC (λq=>z q.symm)]
     refine⟨c,.int .i64<|fa x,?_,?_,Ext.refl c,.int _ _<|rR.2 iV⟩
     ·cases base with
      |none=>simp only[Builtin.copy_,List.getElem?_toArray,List.getElem?_cons_zero,tD,Sem.run_bind,run_underlying hu,Result.andThen_ok,aP,Mj,gT K,T,Sem.run_pure,goInt]
      |some a=>simp only[Builtin.copy_,List.getElem?_toArray,List.getElem?_cons_zero,tD,Sem.run_bind,run_underlying hu,Result.andThen_ok,aP,Mj,gT K,T,pH,storeCells,Sem.run_pure,goInt]
     ·rw[Z,hI,RK];exact U
    ·have n7:=cq.resolve_left iV
     subst n7;refine⟨{c with w:=w'},.int .i64<|fa x,?_,gj,fP,.int _ _<|rR.2 iV⟩
     simp only[Builtin.copy_,List.getElem?_toArray,List.getElem?_cons_zero,tD,Sem.run_bind,run_underlying hu,Result.andThen_ok,aP,Mj,gT K,T,gQ,Sem.run_pure,goInt]
  |_=>simp[O]at hs
 ·exact hs.elim
def Ek(P:Program)(t:TypeId)(d x:I)(H:ab):kc:=
 match d,x with
 |.osl sz i v off len lc,.str s=>z7 P t (.osl sz i v off len lc) (.str<|s.take len) H
 |d,x=>z7 P t d x H
theorem aMX(w)(t u ty)(base)(len cap)(s:List UInt8):
  (Builtin.copy_ #[t,u] ty #[.slice base len cap,.string ⟨s.toArray⟩]).run P w=(Builtin.copy_ #[t,u] ty #[.slice base len cap,.string ⟨(s.take len).toArray⟩]).run P w:=by
 have h1:Nat.min (ByteArray.size ⟨s.toArray⟩) len=Nat.min (ByteArray.size ⟨(s.take len).toArray⟩) len:=by
  simp only[ByteArray.size,List.size_toArray,eK];show min s.length len=min (min len s.length) len;omega
 have h2:((⟨s.toArray⟩:ByteArray).extract 0 (Nat.min (ByteArray.size ⟨(s.take len).toArray⟩) len)).data=((⟨(s.take len).toArray⟩:ByteArray).extract 0 (Nat.min (ByteArray.size ⟨(s.take len).toArray⟩) len)).data:=by
  rw[ByteArray.data_extract,ByteArray.data_extract];apply Array.ext'
  simp only[Array.toList_extract,List.extract_eq_take_drop,x4,Nat.sub_zero];rw[Dr,uX<|Nat.min_le_right _ _]
 simp only[Builtin.copy_,List.getElem?_toArray,List.getElem?_cons_zero,tD,Builtin.lenOf,Builtin.firstCells,Sem.run_bind];congr 1;funext d w';cases d<;>first|rfl|(simp only[Sem.run_bind,Sem.run_pure,Result.andThen_ok,h1,h2])
theorem aH1{u:TypeId}{d:I}(U:bp c H)(hd:aI c d cO)(J:aI c x b2)(hs:(Ek P t d x H).s):
  mj P (Builtin.copy_ #[t,u] ty #[cO,b2]) c (Ek P t d x H).v (Ek P t d x H).H:=by
 unfold Ek at *;split at hs
 ·rename_i sz i v off len lc s;have aw:=hs;unfold z7 at aw;split at aw
  ·rename_i e T eW O V Z IX hu heq;cases heq;cases K:ay H i with
   |cells a1 cs=>
    simp[K]at aw;obtain⟨rfl, -⟩:=aw;obtain⟨base,cap,rfl, -⟩:=hd.l8<|U.qN K;have jh:=J.zh;rw[J.ng];have:=Zd (u:=u) (ty:=ty) U hd (aI.str (s.take len) kr) hs
    obtain⟨c',O,z,a8⟩:=this;exact⟨c',O,by rw[aMX];exact z,a8⟩
   |_=>simp[K]at aw
  ·exact aw.elim
 ·exact Zd U hd J hs
def Et(P:Program)(t:TypeId)(x:I)(H:ab):kc:=
 match P.underlying t,x with
 |some (.slice e),.osl sz i v off len _=>match ay H i with
  |.cells a1 cs=>⟨.aQ [],ar H i<|.cells a1 (dq cs off ((List.replicate len (eM P e)).flatMap I.cells)),
    v=a1/\o5 P e=true/\sz=P.cellsOf e/\off+len * sz<=cs.length/\(eM P e).cells.all I.one=true⟩
  |_=>⟨.top,H,False⟩
 |_,_=>⟨.top,H,False⟩
theorem YR{b:bE}(h:H[i]?=some b):ar H i b=H:=by
 unfold ar;apply x3
 grind
theorem aMs(O:bp c H)(J:aI c x b2)(hs:(Et P t x H).s):
  mj P (Builtin.clear_ #[t] ty #[b2]) c (Et P t x H).v (Et P t x H).H:=by
 unfold Et at *;split at hs
 ·rename_i e sz i v off len lc hu;cases U:ay H i with
  |cells a1 cs=>
   simp only[U]at hs ⊢;obtain⟨rfl,bn,rfl,hle,ra⟩:=hs;simp only[o5,cV,rK]at bn;obtain⟨⟨aP,T⟩,bH⟩:=bn;obtain⟨B4,q7⟩:=hV.1 aP;obtain⟨z,gu,gl⟩:=uG T c;have V:z.cells.size=P.cellsOf e:=by rw[(gl.cells T).1,bH]
   have eR:=O.qN U;obtain⟨base,cap,rfl,g2,HD,g3,g4⟩:=J.l8 eR;have jo:=kG U trivial;have px:∀x∈List.replicate len (eM P e),x.cells.length=P.cellsOf e:=λx J=>kr
   have hlen:=EE px;rw[zl]at hlen;rcases Nat.eq_zero_or_pos len with aw|ta
   ·subst aw;have cY:dq cs off ((List.replicate 0 (eM P e)).flatMap I.cells)=cs:=by simp[dq]
    rw[cY,YR jo];refine⟨c,.tuple #[],?_,O,Ext.refl c,.aQ [] _ rfl kk⟩
    cases base<;>simp[Builtin.clear_,run_underlying hu]
   ·cases Z:c.cO i with
    |true=>have:=(g3 Z).1;omega
    |false=>
     obtain⟨cq,m,cT,dP⟩:=g4 Z;have n7:=cq.resolve_left iV
     subst n7;have qu:(Builtin.zeroCells z.cells len).size=len * P.cellsOf e:=by rw[GO,V]
     have ay:∀(k:Nat) (y) (u),((List.replicate len (eM P e)).flatMap I.cells)[k]?=some y->(Builtin.zeroCells z.cells len).toList[k]?=some u->aI c y u:=by
      intro k y u hk K;have nA:k<len * P.cellsOf e:=by have:=(cj.1 hk).1;omega
      have nD:0<P.cellsOf e:=Nat.pos_of_ne_zero λh=>by rw[h,Nat.mul_zero]at nA;omega
      have hm:k % P.cellsOf e<P.cellsOf e:=Nat.mod_lt _ nD;have hdiv:k / P.cellsOf e * P.cellsOf e+k % P.cellsOf e=k:=by rw[qR];exact Nat.div_add_mod _ _
      have h1:=Nw px (k / P.cellsOf e) (k % P.cellsOf e) hm;rw[hdiv,hk]at h1;have jl:=Nat.div_lt_of_lt_mul<|by rw[qR];exact nA
      rw[List.getElem?_replicate,aA jl,fZ]at h1;have h2:(Builtin.zeroCells z.cells len)[k]?=some (z.cells[k % z.cells.size]!):=by
       simp only[Builtin.zeroCells,Array.getElem?_map];rw[mc (by simpa[V]using nA)];simp
      rw[x1,h2,V]at K;cases K;refine(gl.cells T).2 _ _ _ h1.symm ?_;rw[getElem!_pos z.cells (k % P.cellsOf e) iV]
      exact mc _
     obtain⟨w',gQ,fP,gj⟩:=O.putCells (P:=P) U Z (off:=off) iV (by rw[Array.length_toList,qu,hlen]) ay (by
      intro u K;obtain⟨k,ed,ee⟩:=List.getElem_of_mem K;have aAv:=by rw[Array.length_toList,qu]at ed;exact ed
      have aH:((List.replicate len (eM P e)).flatMap I.cells)[k]?=some (((List.replicate len (eM P e)).flatMap I.cells)[k]'(by omega)):=da iV
      refine(ay k _ u aH (by rw[<-ee];exact da ed)).one ?_
      obtain⟨x,mV,qt⟩:=u2.1<|ga (show k<((List.replicate len (eM P e)).flatMap I.cells).length by omega)
      rw[(List.mem_replicate.1 mV).2]at qt;exact gm.1 ra _ qt)
     obtain⟨n,rfl⟩:∃n,len=n+1:=⟨len-1,iV⟩
     refine⟨{c with w:=w'},.tuple #[],?_,gj,fP,.aQ [] _ rfl kk⟩
     simp[Builtin.clear_,Sem.run_bind,run_underlying hu,gu,gQ]
  |_=>simp[U]at hs
 ·exact hs.elim
def yj(P:Program)(ts tx:TypeId)(s x:I)(H:ab):kc:=
 match s with
 |.sl full (cY::es)=>
  if fa x=0 then
   match P.underlying ts with
   |some (.slice e)=>⟨.sl full (cY::es),H,o5 P e=true/\xJ P tx=true/\tr x (P.cellsOf e) H⟩
   |_=>⟨.top,H,False⟩
  else xB P ts tx (.sl full (cY::es)) x H
 |s=>xB P ts tx s x H
theorem aMl{s:I}{vs:Value}(K:bp c H)(U:aI c s vs)(J:aI c x b2)(hs:(yj P ts tx s x H).s):
  mj P (Builtin.append_ #[ts,tx] ty #[vs,b2]) c (yj P ts tx s x H).v (yj P ts tx s x H).H:=by
 unfold yj at *;split at hs
 ·rename_i full cY es;by_cases af:fa x=0
  ·simp only[aA af]at hs ⊢;cases hu:P.underlying ts with
   |none=>simp[hu]at hs
   |some d=>
    cases d<;>simp only[hu]at hs ⊢;case slice e=>
     obtain⟨T,V,Z⟩:=hs;obtain⟨aP,z,us,bH,cC,ez⟩:=tj K J Z;obtain⟨base,len,cap,sz,mD,rfl, -⟩:=U.qG;have hle:len<=cap:=by cases U;assumption
     have pH:=by
      have:us.size=0:=by rw[cC,z,af];simp
      exact tF this
     have O:=zY (ty:=ty) (base:=base) (len:=len) (cap:=cap) hu T V aP iV bH (λa _=>by rw[pH];simp[storeCells]) λ_=>rfl
     rw[af,rJ]at O;exact⟨c,_,O,K,Ext.refl c,U⟩
  ·simp only[aj af]at hs ⊢;exact Yj K U J hs
 ·exact Yj K U J hs
def Eu(P:Program)(t:TypeId)(x:I)(H:ab):kc:=
 match P.underlying t,x with
 |some .string,.str s=>⟨.iter H.length,H++[.mB s 0],True⟩
 |_,_=>⟨.top,H,False⟩
theorem aMz(U:bp c H)(J:aI c x b2)(hs:(Eu P t x H).s):
  mj P (Instr.range t b2) c (Eu P t x H).v (Eu P t x H).H:=by
 unfold Eu at *;split at hs
 ·rename_i s hu;rw[J.ng];refine⟨_,.pointer<|some ⟨c.w.heap.size,0,none⟩,?_,(U.push (.stringIter ⟨s.toArray⟩ 0) 0 (.mB s 0 (by simp[Ctx.push]) (by simp[Ctx.push]) (by grind [Ctx.push,mo]) J.zh)),Ext.push U _ 0,?_⟩
  ·simp[Instr.range,run_underlying hu,Ctx.push]
  ·exact .iter _ _ (by simp[Ctx.push,U.n]) rfl λ_=>by simp[Ctx.push,U.n]
 ·exact hs.elim
def jB(s:List UInt8)(pos:Nat):Nat×Nat:=Utf8.decode ⟨s.toArray⟩ pos
theorem aRx(s:List UInt8)(pos:Nat):(jB s pos).1<2147483648:=by
 grind [jB,Utf8.decode,Utf8.runeError]
def En(x:I)(b:Bool)(H:ab):kc:=
 match x,b with
 |.iter i,true=>match ay H i with
  |.mB s pos=>if pos<s.length then⟨.aQ [.bool true,.int .i64 pos,.int .i32 (jB s pos).1],ar H i<|.mB s (pos+(jB s pos).2),True⟩else⟨.aQ [.bool false],H,True⟩
  |_=>⟨.top,H,False⟩
 |_,_=>⟨.top,H,False⟩
theorem aB6(h1:aI c x u):aI c (.aQ [x]) (.tuple #[u]):=
 .aQ _ _ rfl λi z w p q=>kr
theorem aB7{z:I}{w:Value}(h1:aI c x u)(h2:aI c y v)(h3:aI c z w):aI c (.aQ [x,y,z]) (.tuple #[u,v,w]):=
 .aQ _ _ rfl λi z w p q=>kr
theorem aJz{b:Bool}(U:bp c H)(J:aI c x b2)(hs:(En x b H).s):
  mj P (Instr.next b2 b ty) c (En x b H).v (En x b H).H:=by
 unfold En at *;split at hs
 ·rename_i i;cases K:ay H i with
  |mB s pos=>
   simp only[K]at hs ⊢;have T:=kG K trivial;have bL:i<c.n:=by rw[U.n];exact dk K trivial
   have I:=U.rep i _ T;cases I with
   |mB _ _ V hd O z=>
    cases J with
    |iter _ _ _ _ gk=>
     obtain⟨-,rfl⟩:=gk V;have ay:=M6 (P:=P) O kk
     by_cases ad:pos<s.length
     rotate_left
     ·have af:¬pos<(ByteArray.mk s.toArray).size:=by rw[yu];exact ad
      simp only[ad,gz];refine⟨c,.tuple #[.bool false],?_,U,Ext.refl c,aB6<|.bool _⟩;simp[Instr.next,ay,af]
     ·have af:pos<(ByteArray.mk s.toArray).size:=by rw[yu];exact ad
      simp only[ad,dG];obtain⟨yP,he⟩:=sF.1 O;let w':={c.w with heap:=c.w.heap.setIfInBounds (c.bl i) (.stringIter ⟨s.toArray⟩<|pos+(jB s pos).2)}
      have Z:w'.heap[c.bl i]?=some (.stringIter ⟨s.toArray⟩<|pos+(jB s pos).2):=by simp[w',yP]
      have k6:∀b,b≠c.bl i->w'.heap[b]?=c.w.heap[b]?:=λb aN=>kr
      obtain⟨fP,gj⟩:=U.update T trivial hd w' (by simp[w']) k6 (by simp[bsize,Z,O]) rfl rfl rfl<|.mB _ _ V hd Z z
      refine⟨{c with w:=w'},.tuple #[.bool true,goInt pos,.int .i32 (jB s pos).1],?_,gj,fP,?_⟩
      ·have ar:(setObj (c.bl i) (.stringIter ⟨s.toArray⟩<|pos+(jB s pos).2)).run P c.w=.ok () w':=by
        simp only[setObj,Sem.run,O,w']
       simp only[jB]at ar;simp[Instr.next,ay,af,ar,jB]
      ·exact aB7 (.bool _) (.int _ _ (rR.2 iV))<|.int _ _ (Yg.2 (by have:=aRx s pos;omega))
  |_=>simp[K]at hs
 ·exact hs.elim
def jR:TypeDesc->I->Bool
 |.string,.str _=>true
 |.int k,.int k' _=>decide<|k'=k
 |_,_=>false
def iM:I->I->Bool
 |.str s,.str t=>decide<|s=t
 |.int _ a,.int _ b=>decide<|a=b
 |_,_=>false
def eD(x:I):List (I×I×Nat)->Option (Nat×I)
 |[]=>none
 |(y,v,_)::es=>bif iM x y then some (0,v)else(eD x es).map λz=>(z.1+1,z.2)
def iH(d:TypeDesc)(es:List (I×I×Nat)):Prop:=∀p∈es,jR d p.1=true
theorem MC(J:aI c x v)(h:jR d x=true):MapKept.IsKey d v:=by
 cases d<;>cases x<;>simp[jR]at h
 ·subst h;rw[J.iF];rfl
 ·rw[J.ng];trivial
theorem aRz(J:aI c x u)(U:aI c y v)(h1:jR d x=true)(h2:jR d y=true):Instr.sameNow d u v=some (iM x y):=by
 cases d<;>cases x<;>simp[jR]at h1<;>cases y<;>simp[jR]at h2
 ·subst h1;subst h2;rw[J.iF,U.iF];simp[Instr.sameNow,iM];rfl
 ·rename_i a b;rw[J.ng,U.ng];show some ((⟨a.toArray⟩:ByteArray)==⟨b.toArray⟩)=_;congr 1;by_cases h:a=b
  ·subst h;rw[iM,cD rfl];exact(MapKept.bytes_beq _ _).2 rfl
  ·rw[iM,bN h];exact wB.2 λq=>(λe=>h kr)<|(MapKept.bytes_beq _ _).1 q
theorem aQg(h1:jR d x=true)(h2:jR d y=true)(h:iM x y=true):x=y:=by
 cases d<;>cases x<;>simp[jR]at h1<;>cases y<;>simp[jR]at h2<;>simp[iM]at h
 ·subst h1;subst h2;subst h;rfl
 ·subst h;rfl
theorem LP{c:Ctx}{d:TypeDesc}{x:I}{u:Value}(J:aI c x u)(hk:jR d x=true):∀(es:List (I×I×Nat)) (cZ:List MapEntry) (i:Nat),cZ.length=es.length->iH d es->
  (∀(j:Nat) (p:I×I×Nat) (e:MapEntry),es[j]?=some p->cZ[j]?=some e->aI c p.1 e.key/\aI c p.2.1 e.val/\e.born=p.2.2)->
  match eD x es with
  |none=>Instr.findNow d u cZ i=some none
  |some (j,y)=>∃v,Instr.findNow d u cZ i=some (some (i+j,v))/\aI c y v/\j<es.length/\(es[j]?).map (·.1)=some x
 |[],[],i,_,_,_=>rfl
 |p::es,e::cZ,i,hl,O,h=>by
  obtain⟨h1,h2,h3⟩:=h 0 p e rfl rfl;have T:=O p kk
  have z:=LP J hk es cZ (i+1) (by simpa using hl) (λq aJ=>O q (by simp[aJ])) λj q f aJ V=>h (j+1) q f (by simpa using aJ) (by simpa using V)
  have K:=aRz J h1 hk T;obtain⟨Z,cT,dP⟩:=p;cases U:iM x Z with
  |true=>
   rw[U]at K;simp only[eD,U,tG];exact⟨e.val,by rw[Instr.findNow,K];rfl,h2,kk,by rw[aQg hk T U];rfl⟩
  |false=>
   rw[U]at K;simp only[eD,U];have E9:Instr.findNow d u (e::cZ) i=Instr.findNow d u cZ (i+1):=by rw[Instr.findNow,K]
   grind
def qW(P:Program)(t:TypeId):Option (TypeDesc×TypeId):=
 match P.underlying t with
 |some (.map k e)=>match P.underlying k with
  |some .string=>some (.string,e)
  |some (.int q)=>some (.int q,e)
  |_=>none
 |_=>none
def qX(P:Program)(t:TypeId):TypeDesc:=match qW P t with
 |some (d,_)=>d
 |none=>.bool
def w1(P:Program)(t:TypeId):TypeId:=match qW P t with
 |some (_,e)=>e
 |none=>0
theorem Fx(h:(qW P t).isSome=true):∃k,P.underlying t=some (.map k<|w1 P t)/\P.underlying k=some (qX P t):=by
 grind [hV,w1,qX,qW]
def Hr(P:Program)(t:TypeId)(o:Option (Nat×I))(ok:Bool):hW:=match o with
 |some (_,v)=>⟨bif ok then .aQ [v,.bool true]else v,True⟩
 |none=>⟨bif ok then .aQ [eM P (w1 P t),.bool false]else eM P (w1 P t),(eM P (w1 P t)).known=true⟩
def Lv(P:Program)(t:TypeId)(k:I)(ok:Bool):bE->hW
 |.map es _=>⟨(Hr P t (eD k es) ok).v,iH (qX P t) es/\(Hr P t (eD k es) ok).s⟩
 |_=>bad
def Hk(P:Program)(t:TypeId)(x k:I)(ok:Bool)(H:ab):hW:=
 match x with
 |.map i=>⟨(Lv P t k ok (ay H i)).v,(qW P t).isSome=true/\jR (qX P t) k=true/\(Lv P t k ok (ay H i)).s⟩
 |.iu=>⟨(Hr P t none ok).v,(qW P t).isSome=true/\jR (qX P t) k=true/\(Hr P t none ok).s⟩
 |_=>bad
theorem aI.I0(h:aI c (.map i) v)(J:c.a1 i=0):v=.map (some<|c.bl i):=by
 cases h with|map _ _ _ _ h=>exact(h J).2
theorem BK(h1:aI c x u)(h2:aI c y v):aI c (.aQ [x,y]) (.tuple #[u,v]):=
 .aQ _ _ rfl λi z w p q=>kr
theorem aH8{ok:Bool}(ai:bp c H)(J:aI c x b2)(hk:aI c k rE)(hs:(Hk P t x k ok H).s):
  ∃v,(Instr.lookup t b2 rE ok).run P c.w=.ok v c.w/\aI c (Hk P t x k ok H).v v:=by
 unfold Hk at *;split at hs
 ·rename_i i;obtain⟨hm,I,hs⟩:=hs;obtain⟨IL,ah,O⟩:=Fx hm;cases an:ay H i<;>simp only[an,Lv,bad]at hs ⊢;rename_i es clock;obtain⟨_,aG,_,cZ,aa,hl,az⟩:=ai.map an;obtain rfl:=J.I0 aG;have K:=MapKept.run_checkKey (w:=c.w) O (MC hk I) cZ.isEmpty 9999;have T:=LP hk I es cZ.toList 0 (by simpa using hl) hs.1 λj p f ad T=>az j p f ad (by simpa using T)
  replace hs:=hs.2;cases uk:eD k es with
  |none=>
   rw[uk]at hs T;obtain⟨z,V,Z⟩:=uG hs c;have U:=MapKept.run_findKey (w:=c.w) O T;cases ok with
   |true=>exact⟨.tuple #[z,.bool false],by simp[Instr.lookup,run_underlying ah,MapKept.run_getObj_map aa,K,U,V,Result.andThen],BK Z<|.bool false⟩
   |false=>exact⟨z,by simp[Instr.lookup,run_underlying ah,MapKept.run_getObj_map aa,K,U,V,Result.andThen],Z⟩
  |some y=>
   obtain⟨j,v⟩:=y;rw[uk]at hs T;obtain⟨u,hu,Ms,_⟩:=T;have U:=MapKept.run_findKey (w:=c.w) O hu;cases ok with
   |true=>exact⟨.tuple #[u,.bool true],by simp[Instr.lookup,run_underlying ah,MapKept.run_getObj_map aa,K,U,Result.andThen],BK Ms<|.bool true⟩
   |false=>exact⟨u,by simp[Instr.lookup,run_underlying ah,MapKept.run_getObj_map aa,K,U,Result.andThen],Ms⟩
 ·obtain⟨hm,I,hs⟩:=hs;obtain⟨IL,ah,O⟩:=Fx hm;cases J;have K:=MapKept.run_checkKey (w:=c.w) O (MC hk I) true 9999;have U:=MapKept.run_findKey (w:=c.w) (k:=rE) (l:=[]) O rfl;obtain⟨z,V,Z⟩:=uG hs c;cases ok with
  |true=>exact⟨.tuple #[z,.bool false],by simp[Instr.lookup,run_underlying ah,K,U,V,Result.andThen],BK Z<|.bool false⟩
  |false=>exact⟨z,by simp[Instr.lookup,run_underlying ah,K,U,V,Result.andThen],Z⟩
 ·exact hs.elim
def La(H:ab):kc:=⟨.map H.length,H++[.map [] 0],True⟩
theorem aFG(J:bp c H):mj P (Instr.makeMap t none) c (La H).v (La H).H:=by
 refine⟨_,.map<|some c.w.heap.size,?_,(J.push (.map #[] 0) 0 (.map [] 0 #[] (by simp[Ctx.push]) (by simp[Ctx.push]) (by grind [Ctx.push,mo]) rfl (λj p e h=>kk))),Ext.push J _ 0,?_⟩
 ·simp[Instr.makeMap,Ctx.push]
 ·exact .map _ _ (by simp[Ctx.push,J.n]) rfl λ_=>by simp[Ctx.push,J.n]
def hL(x v:I)(es:List (I×I×Nat))(clock:Nat):List (I×I×Nat):=
 match eD x es with
 |some (j,_)=>es.modify j λp=>(x,v,p.2.2)
 |none=>es++[(x,v,clock)]
def q4(x:I)(es:List (I×I×Nat))(clock:Nat):Nat:=match eD x es with|some _=>clock|none=>clock+1
theorem IZ{es:List (I×I×Nat)}{clock:Nat}(O:bp c H)(Z:ay H i=.map es clock)(T)(U)(K)(pB:K.size=T.length)
  (h6:∀(j:Nat) (p) (f),T[j]?=some p->K[j]?=some f->aI c p.1 f.key/\aI c p.2.1 f.val/\f.born=p.2.2):
  Ext c {c with w:={c.w with heap:=c.w.heap.setIfInBounds (c.bl i) (.map K U)}}/\bp {c with w:={c.w with heap:=c.w.heap.setIfInBounds (c.bl i) (.map K U)}} (ar H i (.map T U)):=by
 obtain⟨bL,aG,hd,cZ,z,hl,az⟩:=O.map Z;have jo:=kG Z trivial;obtain⟨yP,he⟩:=sF.1 z;let w':={c.w with heap:=c.w.heap.setIfInBounds (c.bl i) (.map K U)}
 have qq:w'.heap[c.bl i]?=some (.map K U):=kr
 have V:∀b,b≠c.bl i->w'.heap[b]?=c.w.heap[b]?:=λb aN=>by
  grind
 have q5:bsize w' (c.bl i)=bsize c.w (c.bl i):=by simp[bsize,qq,z]
 have J:Ext c {c with w:=w'}:=by
  refine⟨bd _,by simp[w'],λb ew=>⟨ew,V b λe=>(O.st b ew).2 i _ jo trivial hd e.symm⟩,λ_ _=>bd _,λj aq _=>⟨rfl,rfl,λ_=>?_⟩,rfl,⟨rfl,bd _⟩,rfl,rfl⟩
  by_cases h:c.bl j=c.bl i
  ·simp only[h];exact q5
  ·simp only[bsize];rw[V _ h]
 exact O.update jo trivial hd w' (by simp[w']) V q5 rfl rfl rfl (.map _ _ K aG hd qq pB λj p f ad ax=>by
  obtain⟨aP,aR,bH⟩:=h6 j p f ad ax;exact⟨aP.mono J,aR.mono J,bH⟩)
def LD(P:Program)(t:TypeId)(k v:I)(H:ab)(i:Nat):bE->kc
 |.map es clock=>⟨.top,ar H i<|.map (hL k v es clock) (q4 k es clock),iH (qX P t) es⟩
 |_=>⟨.top,H,False⟩
def xv(P:Program)(t:TypeId)(x k v:I)(H:ab):kc:=
 match x with
 |.map i=>⟨.top,(LD P t k v H i (ay H i)).H,(qW P t).isSome=true/\jR (qX P t) k=true/\(LD P t k v H i (ay H i)).s⟩
 |_=>⟨.top,H,False⟩
theorem aCJ{v:I}{T:Value}(ai:bp c H)(J:aI c x b2)(hk:aI c k rE)(aPL:aI c v T)(hs:(xv P t x k v H).s):
  ∃c',(Instr.mapUpdate t b2 rE T).run P c.w=.ok () c'.w/\bp c' (xv P t x k v H).H/\Ext c c':=by
 unfold xv at *;split at hs
 ·rename_i i;obtain⟨hm,V,hs⟩:=hs;obtain⟨IL,ah,l3⟩:=Fx hm;cases Z:ay H i<;>simp only[Z,LD]at hs ⊢;rename_i es clock;obtain⟨bL,aG,hd,cZ,z,hl,az⟩:=ai.map Z;obtain rfl:=J.I0 aG;have K:=MC hk V;have lF:=MapKept.run_checkKey (w:=c.w) l3 K false 9999;have U:=LP hk V es cZ.toList 0 (by simpa using hl) hs λj p f ad U=>az j p f ad (by simpa using U)
  unfold hL q4;cases uk:eD k es with
  |none=>
   rw[uk]at U;have oU:=MapKept.run_findKey (w:=c.w) l3 U;obtain⟨k1,k2⟩:=IZ ai Z (es++[(k,v,clock)]) (clock+1) (cZ.push {key:=rE,val:=T,born:=clock}) (by simp[hl]) (λj p f ad O=>by
    grind)
   exact⟨_,by simp[Instr.mapUpdate,run_underlying ah,MapKept.run_getObj_map z,lF,oU,MapKept.run_setObj_map _ z,Result.andThen],k2,k1⟩
  |some y=>
   obtain⟨j,y⟩:=y;rw[uk]at U;obtain⟨u,hu,Ms,aq,lJ⟩:=U;have oU:=MapKept.run_findKey (w:=c.w) l3 hu;have q8:j<cZ.size:=iV
   rw[j9]at oU;have r0:=mc q8;have r5:=da aq;have aOY:cZ[j].key=rE:=by
    have h1:=(az j _ _ r5 r0).1;rw[r5]at lJ;simp only[wC,Option.some.injEq]at lJ;rw[lJ]at h1;cases gJ:qX P t<;>rw[gJ]at V<;>cases k<;>simp[jR]at V
    ·exact h1.iF.trans hk.iF.symm
    ·exact h1.ng.trans hk.ng.symm
   have Mf:=MapKept.run_keyThatStays (P:=P) (w:=c.w) K;obtain⟨k1,k2⟩:=IZ ai Z (es.modify j λp=>(k,v,p.2.2)) clock (cZ.modify j λe=>{e with key:=rE,val:=T}) (by simp[hl]) (λq p f ad O=>by
    by_cases aJ:q=j
    ·subst aJ;rw[List.getElem?_modify_eq,r5]at ad;rw[Array.getElem?_modify,aA rfl,r0]at O;cases ad;cases O;exact⟨hk,aPL,(az q _ _ r5 r0).2.2⟩
    ·rw[List.getElem?_modify_ne _ _ (λe=>aJ e.symm)]at ad
     rw[Array.getElem?_modify,aj λe=>aJ e.symm]at O
     exact az q p f ad O)
   exact⟨_,by simp[Instr.mapUpdate,run_underlying ah,MapKept.run_getObj_map z,lF,oU,r0,aOY,Mf,MapKept.run_setObj_map _ z,Result.andThen],k2,k1⟩
 ·exact hs.elim
def delKey(x:I)(es:List (I×I×Nat)):List (I×I×Nat):=match eD x es with
 |some (j,_)=>es.eraseIdx j
 |none=>es
def LF(P:Program)(t:TypeId)(k:I)(H:ab)(i:Nat):bE->kc
 |.map es clock=>⟨.aQ [],ar H i<|.map (delKey k es) clock,iH (qX P t) es⟩
 |_=>⟨.top,H,False⟩
def Ei(P:Program)(t:TypeId)(x k:I)(H:ab):kc:=
 match x with
 |.map i=>⟨.aQ [],(LF P t k H i (ay H i)).H,(qW P t).isSome=true/\jR (qX P t) k=true/\(LF P t k H i (ay H i)).s⟩
 |_=>⟨.top,H,False⟩
theorem SO(c):aI c (.aQ []) (.tuple #[]):=.aQ _ _ rfl λi x v h=>kk
theorem aH9{u:TypeId}(I:bp c H)(J:aI c x b2)(hk:aI c k rE)(hs:(Ei P t x k H).s):
  mj P (Builtin.delete_ #[t,u] ty #[b2,rE]) c (Ei P t x k H).v (Ei P t x k H).H:=by
 unfold Ei at *;split at hs
 ·rename_i i;obtain⟨hm,fO,hs⟩:=hs;obtain⟨IL,ah,z⟩:=Fx hm;cases O:ay H i<;>simp only[O,LF]at hs ⊢;rename_i es clock;obtain⟨bL,aG,hd,cZ,T,hl,V⟩:=I.map O;obtain rfl:=J.I0 aG;have lF:=MapKept.run_checkKey (w:=c.w) z (MC hk fO) cZ.isEmpty 9999;have U:=LP hk fO es cZ.toList 0 (by simpa using hl) hs λj p f ad U=>V j p f ad (by simpa using U)
  unfold delKey;cases uk:eD k es with
  |none=>
   rw[uk]at U;have Z:=MapKept.run_findKey (w:=c.w) z U;obtain⟨k1,k2⟩:=IZ I O es clock cZ hl V;exact⟨_,.tuple #[],by simp[Builtin.delete_,run_underlying ah,MapKept.run_getObj_map T,lF,Z,MapKept.run_setObj_map _ T,Result.andThen],k2,k1,SO _⟩
  |some y=>
   obtain⟨j,y⟩:=y;rw[uk]at U;obtain⟨wo,hu,Ms,aq,lJ⟩:=U;have Z:=MapKept.run_findKey (w:=c.w) z hu;rw[j9]at Z;have q8:j<cZ.size:=iV
   obtain⟨k1,k2⟩:=IZ I O (es.eraseIdx j) clock (cZ.eraseIdxIfInBounds j) (by simp[Array.eraseIdxIfInBounds,List.length_eraseIdx,aq,hl]) (λq p f ad K=>by
    have av:(cZ.eraseIdxIfInBounds j)[q]?=(cZ.toList.eraseIdx j)[q]?:=by
     rw[Array.eraseIdxIfInBounds,dif_pos q8,<-x1,Array.toList_eraseIdx]
    rw[av]at K;rw[List.getElem?_eraseIdx]at ad K;split at ad
    ·rename_i h;rw[aA h]at K;exact V q p f ad<|by simpa using K
    ·rename_i h;rw[aj h]at K;exact V (q+1) p f ad<|by simpa using K)
   exact⟨_,.tuple #[],by simp[Builtin.delete_,run_underlying ah,MapKept.run_getObj_map T,lF,Z,MapKept.run_setObj_map _ T,Result.andThen],k2,k1,SO _⟩
 ·exact hs.elim
def LA(H:ab)(i:Nat):bE->kc
 |.map _ clock=>⟨.aQ [],ar H i<|.map [] clock,True⟩
 |_=>⟨.top,H,False⟩
def Eg(P:Program)(t:TypeId)(x:I)(H:ab):kc:=
 match x with
 |.map i=>⟨.aQ [],(LA H i (ay H i)).H,(qW P t).isSome=true/\(LA H i (ay H i)).s⟩
 |x=>Et P t x H
theorem aIa(U:bp c H)(J:aI c x b2)(hs:(Eg P t x H).s):
  mj P (Builtin.clear_ #[t] ty #[b2]) c (Eg P t x H).v (Eg P t x H).H:=by
 unfold Eg at *;split at hs
 ·rename_i i;obtain⟨hm,hs⟩:=hs;obtain⟨V,ah,Z⟩:=Fx hm;cases K:ay H i<;>simp[K,LA]at hs ⊢;rename_i es clock;obtain⟨I,T,hd,cZ,O,hl,z⟩:=U.map K;obtain rfl:=J.I0 T;obtain⟨k1,k2⟩:=IZ U K [] clock #[] rfl (λq p f ad=>kk)
  exact⟨_,.tuple #[],by simp[Builtin.clear_,run_underlying ah,MapKept.run_getObj_map O,MapKept.run_setObj_map _ O],k2,k1,SO _⟩
 ·exact aMs U J hs
def LB(H:ab)(i:Nat):bE->kc
 |.map _ clock=>⟨.iter H.length,H++[.iI i clock [] clock],True⟩
 |_=>⟨.top,H,False⟩
def Eh(P:Program)(t:TypeId)(x:I)(H:ab):kc:=
 match x with
 |.map i=>⟨.iter H.length,(LB H i (ay H i)).H,(qW P t).isSome=true/\(LB H i (ay H i)).s⟩
 |x=>Eu P t x H
theorem aIb(U:bp c H)(J:aI c x b2)(hs:(Eh P t x H).s):
  mj P (Instr.range t b2) c (Eh P t x H).v (Eh P t x H).H:=by
 unfold Eh at *;split at hs
 ·rename_i i;obtain⟨hm,hs⟩:=hs;obtain⟨Z,ah,I⟩:=Fx hm;cases K:ay H i<;>simp only[K,LB]at hs ⊢;rename_i es clock;obtain⟨z,O,hd,cZ,T,hl,az⟩:=U.map K;obtain rfl:=J.I0 O;have V:=U.push (.mapIter (some<|c.bl i) clock #[] clock) 0
   (.iI i clock [] clock (by simp[Ctx.push]) (by simp[Ctx.push]) (by simp[Ctx.push];omega) (by grind [Ctx.push]) (by simp[Ctx.push,hd])
    (by simp only[Ctx.push,dG,aj<|show ¬i=c.n by omega];exact mo _ _))
  refine⟨_,.pointer<|some ⟨c.w.heap.size,0,none⟩,?_,V,Ext.push U _ 0,?_⟩
  ·simp[Instr.range,run_underlying ah,MapKept.run_getObj_map T,Ctx.push]
  ·exact .iter _ _ (by simp[Ctx.push,U.n]) rfl λ_=>by simp[Ctx.push,U.n]
 ·exact aMz U J hs
def leftOf(es:List (I×I×Nat))(seen:List Nat):List (I×I×Nat):=es.filter λp=> !seen.contains p.2.2
def Ls(x:I)(H:ab)(K:I->ab->Prop):Prop:=
 ∃i m since seen kU es clock,x=.iter i/\ay H i=.iI m since seen kU/\ay H m=.map es clock/\(∀p∈es,p.2.2<kU/\p.2.2<since)/\
  (leftOf es seen=[]->K (.aQ [.bool false]) H)/\∀p∈leftOf es seen,K (.aQ [.bool true,p.1,p.2.1])<|ar H i (.iI m since (seen++[p.2.2]) clock)
theorem aRu(w)(q):∃j w',(choose q).run P w=.ok j w'/\(w'=w\/w'={w with drawn:=w.drawn+1})/\(j=0\/∃a,j=q.cut a):=by
 rw[run_choose];split
 ·grind
 grind
theorem aHO{K:I->ab->Prop}(ai:bp c H)(J:aI c x b2)(h:Ls x H K):
  ∃c' v x' H',(Instr.next b2 false ty).run P c.w=.ok v c'.w/\bp c' H'/\Ext c c'/\aI c' x' v/\K x' H':=by
 obtain⟨i,m,since,seen,kU,es,clock,rfl,hi,hm,hold,aw,h1⟩:=h;obtain⟨bL,aG,hd,cZ,aa,hl,az⟩:=ai.map hm;have jo:=kG hi trivial;have r7:=ai.rep i _ jo;cases r7 with
 |iI _ _ _ _ MF R6 aBh aBi aBg aB=>
  cases J with
  |iter _ _ _ _ gk=>
   obtain⟨-,rfl⟩:=gk MF;have ay:=M6 (P:=P) aB kk
   have Rb:∀e∈cZ,e.born<kU/\e.born<since:=by
    intro e he;obtain⟨j,O⟩:=Array.getElem?_of_mem he;have iC:=(sF.1 O).1;have ad:es[j]?=some (es[j]'(by omega)):=da iV
    obtain⟨-, -,q⟩:=az j _ e ad O;rw[q];exact hold _<|ds ad
   have s8:(!seen.toArray.isEmpty&& !cZ.isEmpty&&cZ.all λe=>decide<|e.born>=kU)=false:=by
    by_cases L5:cZ= #[]
    ·simp[L5]
    ·obtain⟨e,he⟩:=Array.exists_mem_of_ne_empty _ L5;have:=(Rb e he).1;have fA:(cZ.all λe=>decide<|e.born>=kU)=false:=by
      rw[wB];intro q;have:=Array.all_eq_true'.1 q e he;simp at this;omega
     rw[fA,Bool.and_false]
   obtain⟨left,V⟩:∃left,cZ.filter (λe=> !seen.toArray.contains e.born)=left:=⟨_,rfl⟩
   have aPs:left.filter (λe=>decide<|e.born<since)=left:=by
    rw[Array.filter_eq_self];intro e he;rw[<-V,Array.mem_filter]at he;exact cD (Rb e he.1).2
   have nC:left.filter (λe=>decide<|e.born>=since)= #[]:=by
    rw[Array.filter_eq_empty_iff];intro e he;rw[<-V,Array.mem_filter]at he;have:=(Rb e he.1).2;simp;omega
   have Rs:∀e,e∈left->∃p∈leftOf es seen,aI c p.1 e.key/\aI c p.2.1 e.val/\e.born=p.2.2:=by
    intro e he;rw[<-V,Array.mem_filter]at he;obtain⟨he,hs⟩:=he;obtain⟨j,O⟩:=Array.getElem?_of_mem he;have iC:=(sF.1 O).1;have ad:es[j]?=some (es[j]'(by omega)):=da iV
    obtain⟨aP,aR,Z⟩:=az j _ e ad O;refine⟨_,lV.2 ⟨ds ad,?_⟩,aP,aR,Z⟩;rw[<-Z];simpa using hs
   have ko:left= #[]->leftOf es seen=[]:=by
    intro e;rw[List.eq_nil_iff_forall_not_mem];intro p ad;obtain⟨ad,hs⟩:=lV.1 ad;obtain⟨j,O⟩:=List.getElem?_of_mem ad;have iC:=(cj.1 O).1;have he:cZ[j]?=some (cZ[j]'(by omega)):=mc iV
    obtain⟨-, -,Z⟩:=az j p _ O he;have:cZ[j]'(by omega)∈left:=by
     rw[<-V,Array.mem_filter];refine⟨Array.getElem_mem _,?_⟩;rw[Z];simpa using hs
    rw[e]at this;simp at this
   have E9:∀w',(w'=c.w\/w'={c.w with drawn:=c.w.drawn+1})->∃U,U.w=w'/\bp U H/\Ext c U/\U.bl=c.bl/\(∀b:Nat,U.w.heap[b]?=c.w.heap[b]?)/\U.a1=c.a1/\U.cO=c.cO/\U.n=c.n:=by
    rintro w' (rfl|rfl)
    ·exact⟨c,rfl,ai,Ext.refl c,rfl,λ_=>rfl,rfl,rfl,rfl⟩
    ·exact⟨c.draw,rfl,ai.draw,Ext.draw c,rfl,λ_=>rfl,rfl,rfl,rfl⟩
   by_cases hle:left= #[]
   ·have ax:(Question.mapNext 1).forced=true:=by simp[Question.forced]
    refine⟨c,.tuple #[.bool false],.aQ [.bool false],H,?_,ai,Ext.refl c,aB6<|.bool _,aw<|ko hle⟩;rw[hle]at V;simp only[Instr.next,ay,Sem.run_bind,Result.andThen_ok,MapKept.run_getObj_map aa,s8,mE,gz,V];simp[ax]
   ·obtain⟨n,af⟩:∃n,left.size=n+1:=⟨left.size-1,by have:left.size≠0:=λq=>hle<|tF q;omega⟩
    obtain⟨j,w',iW,gQ,O⟩:=aRu (P:=P) c.w<|.mapNext left.size;have aOS:j<left.size:=by
     rw[run_choose]at iW;split at iW
     ·cases iW;omega
     ·cases iW;rename_i ax;simp only[Question.cut];exact Nat.mod_lt _ iV
    have q8:=mc aOS;obtain⟨p,ad,aP,aR,Z⟩:=Rs left[j] (Array.getElem_mem _);obtain⟨U,av,al,aY,bu,b9,gH,mN,p9⟩:=E9 w' gQ;have l2:U.w.heap[U.bl i]?=some (.mapIter (some<|c.bl m) since seen.toArray kU):=by rw[bu,b9];exact aB
    obtain⟨yP,he⟩:=sF.1 l2;let z:Obj:=.mapIter (some<|c.bl m) since (seen++[p.2.2]).toArray clock
    let T:={U.w with heap:=U.w.heap.setIfInBounds (U.bl i) z}
    have qq:T.heap[U.bl i]?=some z:=by simp[T,yP]
    have k6:∀b,b≠U.bl i->T.heap[b]?=U.w.heap[b]?:=λb aN=>by
     simp only[T];rw[Array.getElem?_setIfInBounds_ne (λq=>aN q.symm)]
    obtain⟨fP,gj⟩:=al.update jo trivial (by rw[mN];exact R6) T (by simp[T]) k6 (by simp[bsize,qq,l2,z]) rfl rfl rfl
     (.iI m since (seen++[p.2.2]) clock (by rw[gH];exact MF) (by rw[mN];exact R6) (by rw[p9];exact aBh) (by rw[gH];exact aBi) (by rw[mN];exact aBg) (by rw[qq,bu]))
    refine⟨{U with w:=T},.tuple #[.bool true,left[j].key,left[j].val],.aQ [.bool true,p.1,p.2.1],_,?_,gj,aY.trans fP,aB7 (.bool _) ((aP.mono aY).mono fP)<|(aR.mono aY).mono fP,h1 p ad⟩
    have ar:(setObj (c.bl i) z).run P w'=.ok () T:=by
     rw[<-av,<-bu];simp only[setObj,Sem.run,l2,T]
    have aN:¬left.isEmpty=true:=by simpa using hle
    have pE:(Obj.mapIter (some<|c.bl m) since (seen.toArray.push left[j].born) clock)=z:=by simp[z,Z]
    simp only[Instr.next,ay,Sem.run_bind,Result.andThen_ok,MapKept.run_getObj_map aa,s8,mE,gz,V,aPs,nC,aj aN,Array.append_empty,Array.empty_append,Array.size_map,iW,Array.getElem?_map,q8,wC,pE,ar,Sem.run_pure]
def Eo(P:Program)(t:TypeId)(x:I):hW:=
 match x,P.underlying t with
 |.sl true es,some (.slice _)=>⟨.int .i64 es.length,True⟩
 |_,_=>bad
theorem aJ0(J:aI c x b2)(hs:(Eo P t x).s):∃v,(Builtin.cap_ #[t] ty #[b2]).run P c.w=.ok v c.w/\aI c (Eo P t x).v v:=by
 unfold Eo at *;split at hs
 ·rename_i es e hu;have K:=J.M8;obtain⟨base,len,cap,s,vs,rfl,rfl,g2,g3, -⟩:=J.qG;have U:=g3 rfl;subst U;exact⟨.int .i64 es.length,by simp[Builtin.cap_,run_underlying hu,goInt],.int _ _<|rR.2 iV⟩
 ·exact hs.elim
def Qc(P:Program)(t:TypeId):Bool:=match P.underlying t with
 |some (.int _)=>true
 |_=>false
def Ee(P:Program)(ts tx:TypeId)(s x:I)(H:ab):kc:=
 match x with
 |.int k n=>match s,P.underlying ts with
  |.sl true [],some (.slice e)=>⟨.osl (P.cellsOf e) H.length 1 0 n.toNat n.toNat,H++[.cells 1 ((List.replicate n.toNat (eM P e)).flatMap I.cells)],
    k=.i64/\Qc P tx=true/\o5 P e=true/\0<n/\n.toNat * P.bytesOf e<=140737488355328/\P.bytesOf e≠0⟩
  |_,_=>⟨.top,H,False⟩
 |x=>yj P ts tx s x H
theorem aFH{s:I}{vs:Value}(U:bp c H)(kN:aI c s vs)(J:aI c x b2)(hs:(Ee P ts tx s x H).s):
  mj P (Builtin.append_ #[ts,tx] ty #[vs,b2]) c (Ee P ts tx s x H).v (Ee P ts tx s x H).H:=by
 unfold Ee at *;split at hs
 ·rename_i k n;split at hs
  ·rename_i e hu;obtain⟨rfl,vI,bn,oX,aa,l2⟩:=hs;have aXO:=bn;simp only[o5,cV,rK]at bn;obtain⟨⟨h1,h2⟩,h3⟩:=bn;obtain⟨d,hd⟩:=hV.1 h1;obtain⟨i,hi,aAm⟩:=KP hd;obtain⟨z,gu,gl⟩:=uG h2 c;have O:z.cells.size=P.cellsOf e:=by rw[(gl.cells h2).1,h3]
   have xa:i.bytes=P.bytesOf e:=by simp[Program.bytesOf,hi]
   have vA:∃q,P.underlying tx=some (.int q):=by
    unfold Qc at vI;split at vI
    ·rename_i q h;exact⟨q,h⟩
    ·cases vI
   obtain⟨q,vA⟩:=vA;have jh:=J.CM;rw[rR]at jh;obtain rfl:=J.iF;obtain⟨base,len,cap,sz,mD,rfl,rfl,g2,g3, -⟩:=kN.qG;have mq:=g3 rfl;subst mq;obtain⟨m,hm⟩:∃m:Nat,n=m:=⟨n.toNat,iV⟩
   subst hm;simp only[e5]at aa ⊢;have T:IntKind.i64.wrap m=m:=TE iV iV
   have aAJ:=iV
   have mq:Builtin.nextslicecap (0+m) 0 * i.bytes<=281474976710656:=by rw[xa];exact growslice_fits iV<|by rw[j9];exact aa
   let K:=m+(c.w.tape c.w.drawn (.appendCap m 0 e)) % (2 ^ 63-m)
   have E2:(Question.appendCap m 0 e).cut (c.w.tape c.w.drawn<|.appendCap m 0 e)=K:=rfl;let cells:=(if m * P.cellsOf e=0 then #[]else Builtin.zeroCells z.cells m)++Builtin.zeroCells z.cells (K-m)
   have V:∀w,(asInt (.int .i64 m)).run P w=.ok m w:=λw=>by simp[asInt,asIntOf]
   have Rf:∀w,(Builtin.firstCells (P.cellsOf e) 0 (.slice base 0 0)).run P w=.ok #[] w:=λw=>by
    cases base<;>simp[Builtin.firstCells,loadCells,loadCellsFrom]
   have hr:(Builtin.append_ #[ts,tx] ty #[.slice base 0 0,.int .i64 m]).run P c.w=.ok (.slice (some ⟨c.w.heap.size,0,none⟩) m K) (World.alloc {c.w with drawn:=c.w.drawn+1} (.cells cells e)):=by
    rw[j9]at mq;have Q7:¬(Builtin.nextslicecap m 0 * P.bytesOf e>281474976710656):=by rw[<-xa];omega
    have aXB:Builtin.nextslicecap m 0 * P.bytesOf e<=281474976710656:=iV
    have yQ:¬m=0:=iV
    have Z:¬((m:Int)<0):=iV
    have aAF:¬((9223372036854775807:Int)<(m:Int)):=iV
    have c8:¬(281474976710656:Int)<(m:Int) * (P.bytesOf e:Int):=by
     rw[<-Int.natCast_mul];omega
    by_cases hsz:m * P.cellsOf e=0
    ·have nD:P.cellsOf e=0:=(Nat.mul_eq_zero.1 hsz).resolve_left yQ;simp only[nD]at Rf;simp[Builtin.append_,run_underlying hu,gT hd,run_underlying vA,V,T,Z,typeInfo,hi,xa,c8,yQ,nD,Q7,aAF,l2,Question.forced,gu,newRow,Rf,cells,E2]
    ·have nD:¬P.cellsOf e=0:=λh=>hsz<|by rw[h];rfl
     simp[Builtin.append_,run_underlying hu,gT hd,run_underlying vA,V,T,Z,typeInfo,hi,xa,c8,yQ,Q7,aAF,l2,Question.forced,gu,newRow,Rf,cells,E2];rw[aj hsz,aj hsz]
   have qu:(if m * P.cellsOf e=0 then #[]else Builtin.zeroCells z.cells m).size=m * P.cellsOf e:=by
    split
    ·rename_i h;rw[h];rfl
    ·rw[GO,O]
   have px:∀x∈List.replicate m (eM P e),x.cells.length=P.cellsOf e:=λx J=>by rw[(List.mem_replicate.1 J).2];exact h3
   have dH:=EE px;rw[zl]at dH;have RE:(Builtin.zeroCells z.cells (K-m)).size=(K-m) * P.cellsOf e:=by rw[GO,O]
   have aAo:cells.size=m * P.cellsOf e+(K-m) * P.cellsOf e:=by simp only[cells,Array.size_append];rw[qu,RE]
   have aPj:m<=K:=iV
   have lE:=U.draw.push (.cells cells e) (B:=.cells 1<|(List.replicate m (eM P e)).flatMap I.cells) 1 (by
    refine .cells _ _ _ e (0,0) (by simp[Ctx.push]) (by simp[Ctx.push]) (by simp only[Ctx.push,dG];exact mo _ _) (by rw[dH,aAo];omega) (.inr (bd _)) λk y u hk kq=>?_
    have nA:k<m * P.cellsOf e:=by have:=(cj.1 hk).1;omega
    have nD:0<P.cellsOf e:=Nat.pos_of_ne_zero λh=>by rw[h,Nat.mul_zero]at nA;omega
    have hm:k % P.cellsOf e<P.cellsOf e:=Nat.mod_lt _ nD;have hdiv:k / P.cellsOf e * P.cellsOf e+k % P.cellsOf e=k:=by rw[qR];exact Nat.div_add_mod _ _
    have g1:=Nw px (k / P.cellsOf e) (k % P.cellsOf e) hm;rw[hdiv,hk]at g1;have jl:k / P.cellsOf e<m:=Nat.div_lt_of_lt_mul<|by rw[qR];exact nA
    rw[List.getElem?_replicate,aA jl,fZ]at g1;have aN:¬m * P.cellsOf e=0:=iV
    have g2:cells[k]?=some (z.cells[k % z.cells.size]!):=by
     simp only[cells,aj aN];rw[Bi (by rw[GO,O];exact nA)]
     simp only[Builtin.zeroCells,Array.getElem?_map];rw[mc (by simpa[O]using nA)];simp
    rw[g2,O]at kq;cases kq;refine(((gl.cells h2).2 _ _ _ g1.symm ?_).mono (Ext.draw c)).mono<|Ext.push U.draw _ 1;rw[getElem!_pos z.cells (k % P.cellsOf e) iV]
    exact mc _)
   refine⟨_,_,hr,lE,(Ext.draw c).trans<|Ext.push U.draw _ 1,?_⟩;refine .osl _ _ _ _ _ _ _ (by simp[Ctx.push,Ctx.draw,U.n]) (by simp[Ctx.push,Ctx.draw,U.n]) rfl iV (λ_ hd=>by simp[Ctx.push,Ctx.draw,U.n]at hd) λ_ _=>?_
   refine⟨_,K,cells.size,rfl,bd _,aPj,.inr (by simp[Ctx.push,Ctx.draw,U.n]),?_,?_⟩
   ·simp only[bsize,Ctx.push,Ctx.draw,U.n,dG];have:=mo {c.w with drawn:=c.w.drawn+1} (.cells cells e)
    simp only at this;rw[this]
   ·rw[aAo,<-pg,j9];exact wA _ iV
  ·exact hs.elim
 ·exact aMl U kN J hs
def Ly(kU:Nat)(seen:List Nat):bE->hW
 |.map es clock=>match seen.getLast? with
  |some k=>match es.find? (λp=>p.2.2==k)with
   |some p=>⟨.aQ [p.1,p.2.1],clock=kU⟩
   |none=>bad
  |none=>bad
 |_=>bad
def Qk(H:ab):bE->hW
 |.iI m _ seen kU=>Ly kU seen<|ay H m
 |_=>bad
def Hl(x:I)(H:ab):hW:=match x with
 |.iter i=>Qk H<|ay H i
 |_=>bad
theorem find_born(k:Nat):∀(es:List (I×I×Nat)) (cZ:List MapEntry),cZ.length=es.length->(∀(j:Nat) (p:I×I×Nat) (e:MapEntry),es[j]?=some p->cZ[j]?=some e->aI c p.1 e.key/\aI c p.2.1 e.val/\e.born=p.2.2)->
  ∀p,es.find? (λp=>p.2.2==k)=some p->∃e,cZ.find? (λe=>e.born==k)=some e/\aI c p.1 e.key/\aI c p.2.1 e.val:=by
 intro es;induction es with
 |nil=>intro cZ _ _ p h;cases h
 |cons q es U=>
  intro cZ hl J p h;cases cZ with
  |nil=>simp at hl
  |cons e cZ=>
   obtain⟨h1,h2,h3⟩:=J 0 q e rfl rfl;rw[List.find?_cons]at h ⊢;rw[h3];cases aJ:(q.2.2==k)with
   |true=>grind
   |false=>
    rw[aJ]at h;exact U cZ kr (λj p e ad he=>J (j+1) p e kr<|by simpa using he) p h
theorem aHP(K:bp c H)(J:aI c x b2)(hs:(Hl x H).s):
  ∃v,(Instr.entry b2).run P c.w=.ok v c.w/\aI c (Hl x H).v v:=by
 unfold Hl at *;split at hs
 ·rename_i i;cases O:ay H i<;>simp only[O,Qk,bad]at hs ⊢;rename_i m since seen kU;have T:=K.rep i _<|kG O trivial;cases T with
  |iI _ _ _ _ V R6 Z I z aB=>
   cases J with
   |iter _ _ _ _ gk=>
    obtain⟨-,rfl⟩:=gk V;have mT:=M6 (P:=P) aB kk
    cases hm:ay H m<;>simp only[hm,Ly,bad]at hs ⊢;rename_i es clock;obtain⟨bL,aG,hd,cZ,aa,hl,az⟩:=K.map hm;cases hk:seen.getLast? with
    |none=>rw[hk]at hs;exact hs.elim
    |some k=>
     rw[hk]at hs;simp only at hs ⊢;cases U:es.find? (λp=>p.2.2==k)with
     |none=>rw[U]at hs;exact hs.elim
     |some p=>
      rw[U]at hs;obtain⟨e,he,E6,pF⟩:=find_born k es cZ.toList (by simpa using hl) (λj p e ad he=>az j p e ad<|by simpa using he) p U
      have vy:=by simpa using hk
      have vB:cZ.find? (λe=>e.born==k)=some e:=kr
      subst hs;exact⟨.tuple #[e.key,e.val],by simp[Instr.entry,mT,vy,MapKept.run_getObj_map aa,vB,Result.andThen],BK E6 pF⟩
 ·exact hs.elim
end Go.Proofs.YtnmamncmpklliaaGreatDoor
