/- The texts 1 of 8 beneath the rows of this seat (joined by program): the abstract machine, and what the functions answer. No condition. -/
import Derived.Calls
import Derived.RangeFuncLeaves
import Derived.RangeFuncRecord
import Derived.OrdersIn
import Derived.Laws.World
import Derived.Laws.Sem
import Derived.Laws.StructEq
import Derived.Laws.Cells
import Derived.Laws.Slices
import Derived.Laws.Append
import Derived.MapKept
set_option linter.unusedSimpArgs false
set_option linter.unusedVariables false
set_option linter.unusedSectionVars false
/- The abstract values of a Go program, the abstract heap, and what it means that a concrete value in a concrete world is represented by an abstract one. No condition. -/
namespace Go.Aw
open Go
inductive AV where
 |int (k:IntKind) (n:Int)
 |bool (b:Bool)
 |str (s:List UInt8)
 |agg (cs:List AV)
 |tup (vs:List AV)
 |sl (full:Bool) (es:List AV)
 |cptr (cs:List AV)
 |ref (i ver off:Nat)
 |osl (s i ver off len lc:Nat)
 |nilptr
 |map (i:Nat)
 |nilmap
 |iter (i:Nat)
 |func (fn:Fn) (first captured:List AV)
 |nilfunc
 |iface (t:TypeId) (v:AV)
 |nilIface
 |opt (g:Bool) (v:AV)
 |top
instance:Inhabited AV:=⟨.top⟩
def AV.cells:AV→List AV
 |.agg cs=>cs
 |v=>[v]
structure Ctx where
 w:World
 n:Nat
 blk:Nat→Nat
 ver:Nat→Nat
 vd:Nat→Bool
 stable:Nat→Prop
 base:Nat
def bsize(w:World)(b:Nat):Option Nat:=
 match w.heap[b]? with
 |some (.cells vs _ _)=>some vs.size
 |_=>none
def inR(k:IntKind)(n:Int):Prop:=k.min≤n∧n≤k.max
theorem fD(k:IntKind)(n:Int):inR k (k.wrap n):=by
 unfold inR IntKind.wrap IntKind.min IntKind.max
 cases k<;>simp[IntKind.bits,IntKind.signed]<;>(try split)<;>omega
theorem aHJ(k:IntKind):k.min≤0∧0≤k.max:=by cases k<;>decide
theorem sL{k:IntKind}{n m:Int}(h:inR k n)(h1:0≤n→0≤m∧m≤n)(h2:n<0→n≤m∧m≤0):inR k m:=by
 obtain⟨p,q⟩:=aHJ k
 obtain⟨h3,h4⟩:=h
 by_cases h0:0≤n
 ·have:=h1 h0;exact⟨by omega,by omega⟩
 ·have:=h2 (by omega);exact⟨by omega,by omega⟩
theorem aCX{n:Int}:inR .i64 n↔ -9223372036854775808≤n∧n≤9223372036854775807:=Iff.rfl
theorem aE3{n:Int}:inR .u8 n↔0≤n∧n≤255:=Iff.rfl
theorem aHK{n:Int}:inR .i32 n↔ -2147483648≤n∧n≤2147483647:=Iff.rfl
def wX(k:IntKind)(n:Int):Bool:=decide (k.min≤n)&&decide (n≤k.max)
theorem oF{k:IntKind}{n:Int}:wX k n=true↔inR k n:=by simp[wX,inR]
inductive Rep (c:Ctx):AV→Value→Prop
 |int (k:IntKind) (n:Int) (hr:inR k n):Rep c (.int k n) (.int k n)
 |bool (b:Bool):Rep c (.bool b) (.bool b)
 |str (s:List UInt8) (hr:s.length≤9223372036854775807):Rep c (.str s) (.string ⟨s.toArray⟩)
 |agg (cs:List AV) (vs:Array Value) (hl:vs.size=cs.length) (h:∀(i:Nat) (x:AV) (v:Value),cs[i]?=some x→vs[i]?=some v→Rep c x v):Rep c (.agg cs) (.agg vs)
 |tup (cs:List AV) (vs:Array Value) (hl:vs.size=cs.length) (h:∀(i:Nat) (x:AV) (v:Value),cs[i]?=some x→vs[i]?=some v→Rep c x v):Rep c (.tup cs) (.tuple vs)
 |sl (full:Bool) (es:List AV) (base:Option Addr) (len cap s:Nat) (vs:Nat→Nat→Value) (hlen:len=es.length) (hcap:len≤cap) (hfull:full=true→cap=len)
   (hb:es≠[]→∃a,base=some a∧a.spot=none∧c.stable a.block∧∀k j,k<es.length→j<s→c.w.cell? (a.add (k * s+j))=some (vs k j))
   (hs:∀e∈es,e.cells.length=s)
   (hr:∀(k:Nat) (e:AV) (j:Nat) (x:AV),es[k]?=some e→e.cells[j]?=some x→Rep c x (vs k j)) (hmax:len≤9223372036854775807):Rep c (.sl full es) (.slice base len cap)
 |cptr (cs:List AV) (a:Addr) (vs:Nat→Value) (hspot:a.spot=none) (hst:c.stable a.block) (hc:∀j,j<cs.length→c.w.cell? (a.add j)=some (vs j))
   (hr:∀(j:Nat) (x:AV),cs[j]?=some x→Rep c x (vs j)):Rep c (.cptr cs) (.pointer (some a))
 |ref (i v off:Nat) (val:Value) (hi:i<c.n) (hv:v≤c.ver i) (ho:val.oneCell'=true) (h:c.ver i=v→c.vd i=false∧val=.pointer (some ⟨c.blk i,off,none⟩)):Rep c (.ref i v off) val
 |osl (s i v off len lc:Nat) (val:Value) (hi:i<c.n) (hv:v≤c.ver i) (ho:val.oneCell'=true) (hmax:lc≤9223372036854775807)
   (h1:c.ver i=v→c.vd i=true→len=0∧lc=0∧∃base,val=.slice base 0 0)
   (h2:c.ver i=v→c.vd i=false→∃base cap m,val=.slice base len cap∧len≤lc∧lc≤cap∧(cap=0∨base=some ⟨c.blk i,off,none⟩)∧bsize c.w (c.blk i)=some m∧off+cap * s≤m):Rep c (.osl s i v off len lc) val
 |nilptr:Rep c .nilptr (.pointer none)
 |map (i:Nat) (val:Value) (hi:i<c.n) (ho:val.oneCell'=true) (h:c.ver i=0→c.vd i=false∧val=.map (some (c.blk i))):Rep c (.map i) val
 |nilmap:Rep c .nilmap (.map none)
 |iter (i:Nat) (val:Value) (hi:i<c.n) (ho:val.oneCell'=true) (h:c.ver i=0→c.vd i=false∧val=.pointer (some ⟨c.blk i,0,none⟩)):Rep c (.iter i) val
 |func (fn:Fn) (fs cs:List AV) (vf vc:Array Value) (hf:vf.size=fs.length) (hc:vc.size=cs.length)
   (h1:∀(i:Nat) (x:AV) (v:Value),fs[i]?=some x→vf[i]?=some v→Rep c x v) (h2:∀(i:Nat) (x:AV) (v:Value),cs[i]?=some x→vc[i]?=some v→Rep c x v):Rep c (.func fn fs cs) (.func fn vf vc)
 |nilfunc:Rep c .nilfunc .nilFunc
 |iface (t:TypeId) (x:AV) (v:Value) (h:Rep c x v):Rep c (.iface t x) (.iface t v)
 |nilIface:Rep c .nilIface .nilIface
 |opt (g:Bool) (x:AV) (v:Value) (h1:g=true→Rep c x v) (h2:g=false→v=undef):Rep c (.opt g x) v
 |top (v:Value):Rep c .top v
structure Ext (c c':Ctx):Prop where
 n:c.n≤c'.n
 size:c.w.heap.size≤c'.w.heap.size
 st:∀b,c.stable b→c'.stable b∧c'.w.heap[b]?=c.w.heap[b]?
 ver:∀i,i<c.n→c.ver i≤c'.ver i
 blk:∀i,i<c.n→c'.ver i=c.ver i→c'.blk i=c.blk i∧c'.vd i=c.vd i∧(c.vd i=false→bsize c'.w (c.blk i)=bsize c.w (c.blk i))
 os:c'.w.os=c.w.os
 tape:c'.w.tape=c.w.tape
 output:c'.w.output=c.w.output
 base:c'.base=c.base
theorem Ext.refl(c:Ctx):Ext c c:=⟨Nat.le_refl _,Nat.le_refl _,fun _ h=>⟨h,rfl⟩,fun _ _=>Nat.le_refl _,fun _ _ _=>⟨rfl,rfl,fun _=>rfl⟩,rfl,rfl,rfl,rfl⟩
theorem Ext.trans{a b c:Ctx}(h:Ext a b)(k:Ext b c):Ext a c where
 n:=Nat.le_trans h.n k.n
 size:=Nat.le_trans h.size k.size
 st:=fun x hx=>⟨(k.st x (h.st x hx).1).1,((k.st x (h.st x hx).1).2).trans (h.st x hx).2⟩
 ver:=fun i hi=>Nat.le_trans (h.ver i hi) (k.ver i (Nat.lt_of_lt_of_le hi h.n))
 blk:=fun i hi he=>by
  have h1:=h.ver i hi
  have h2:=k.ver i (Nat.lt_of_lt_of_le hi h.n)
  have e1:b.ver i=a.ver i:=by omega
  have e2:c.ver i=b.ver i:=by omega
  obtain⟨p1,p2,p3⟩:=h.blk i hi e1
  obtain⟨q1,q2,q3⟩:=k.blk i (Nat.lt_of_lt_of_le hi h.n) e2
  rw[p1,p2]at q3
  exact⟨q1.trans p1,q2.trans p2,fun hd=>(q3 hd).trans (p3 hd)⟩
 os:=k.os.trans h.os
 tape:=k.tape.trans h.tape
 output:=k.output.trans h.output
 base:=k.base.trans h.base
theorem nV{w w':World}{a:Addr}(h:w'.heap[a.block]?=w.heap[a.block]?):w'.cell? a=w.cell? a:=by
 unfold World.cell?
 rw[h]
theorem Addr.add_block(a:Addr)(n:Nat):(a.add n).block=a.block:=by
 unfold Addr.add
 split<;>rfl
structure Ext0 (c c':Ctx):Prop where
 n:c.n≤c'.n
 st:∀b,c.stable b→c'.stable b
 cell:∀a:Addr,c.stable a.block→c'.w.cell? a=c.w.cell? a
 ver:∀i,i<c.n→c.ver i≤c'.ver i
 blk:∀i,i<c.n→c'.ver i=c.ver i→c'.blk i=c.blk i∧c'.vd i=c.vd i∧(c.vd i=false→bsize c'.w (c.blk i)=bsize c.w (c.blk i))
theorem Ext.ext0{c c':Ctx}(h:Ext c c'):Ext0 c c':=⟨h.n,fun b hb=>(h.st b hb).1,fun _ ha=>nV (h.st _ ha).2,h.ver,h.blk⟩
theorem Rep.mono0{c c':Ctx}(hx:Ext0 c c'){x:AV}{v:Value}(h:Rep c x v):Rep c' x v:=by
 induction h with
 |int k n hr=>exact .int k n hr
 |bool b=>exact .bool b
 |str s hr=>exact .str s hr
 |agg cs vs hl _ ih=>exact .agg cs vs hl ih
 |tup cs vs hl _ ih=>exact .tup cs vs hl ih
 |sl full es base len cap s vs hlen hcap hfull hb hs _ hmax ih=>
  refine .sl full es base len cap s vs hlen hcap hfull (fun hne=>?_) hs ih hmax
  obtain⟨a,e1,e2,e3,e4⟩:=hb hne
  refine⟨a,e1,e2,hx.st _ e3,fun k j hk hj=>?_⟩
  rw[hx.cell _ (by rw[Addr.add_block];exact e3)]
  exact e4 k j hk hj
 |cptr cs a vs hspot hst hc _ ih=>
  refine .cptr cs a vs hspot (hx.st _ hst) (fun j hj=>?_) ih
  rw[hx.cell _ (by rw[Addr.add_block];exact hst)]
  exact hc j hj
 |ref i v off val hi hv ho h=>
  refine .ref i v off val (Nat.lt_of_lt_of_le hi hx.n) (Nat.le_trans hv (hx.ver i hi)) ho (fun e=>?_)
  have h1:=hx.ver i hi
  have e1:c'.ver i=c.ver i:=by omega
  rw[(hx.blk i hi e1).1,(hx.blk i hi e1).2.1]
  exact h (by omega)
 |osl s i v off len lc val hi hv ho hmax h1 h2=>
  have hle:=hx.ver i hi
  refine .osl s i v off len lc val (Nat.lt_of_lt_of_le hi hx.n) (Nat.le_trans hv hle) ho hmax (fun e d=>?_) (fun e d=>?_)
  ·have e1:c'.ver i=c.ver i:=by omega
   exact h1 (by omega) (by rw[←(hx.blk i hi e1).2.1];exact d)
  ·have e1:c'.ver i=c.ver i:=by omega
   obtain⟨p1,p2,p3⟩:=hx.blk i hi e1
   rw[p2]at d
   obtain⟨base,cap,m,q1,q2,q2',q3,q4,q5⟩:=h2 (by omega) d
   exact⟨base,cap,m,q1,q2,q2',by rw[p1];exact q3,by rw[p1,p3 d];exact q4,q5⟩
 |nilptr=>exact .nilptr
 |map i val hi ho h=>
  refine .map i val (Nat.lt_of_lt_of_le hi hx.n) ho (fun e=>?_)
  have h1:=hx.ver i hi
  have e1:c'.ver i=c.ver i:=by omega
  rw[(hx.blk i hi e1).1,(hx.blk i hi e1).2.1]
  exact h (by omega)
 |nilmap=>exact .nilmap
 |iter i val hi ho h=>
  refine .iter i val (Nat.lt_of_lt_of_le hi hx.n) ho (fun e=>?_)
  have h1:=hx.ver i hi
  have e1:c'.ver i=c.ver i:=by omega
  rw[(hx.blk i hi e1).1,(hx.blk i hi e1).2.1]
  exact h (by omega)
 |func fn fs cs vf vc hf hc _ _ ih1 ih2=>exact .func fn fs cs vf vc hf hc ih1 ih2
 |nilfunc=>exact .nilfunc
 |iface t x v _ ih=>exact .iface t x v ih
 |nilIface=>exact .nilIface
 |opt g x v _ h2 ih=>exact .opt g x v ih h2
 |top v=>exact .top v
theorem Rep.mono{c c':Ctx}(hx:Ext c c'){x:AV}{v:Value}(h:Rep c x v):Rep c' x v:=h.mono0 hx.ext0
abbrev AF:=List (Nat×AV)
def look:AF→Nat→AV
 |[],_=>.top
 |(d,v)::α,t=>bif d==t then v else look α t
inductive ABlk where
 |cells (ver:Nat) (cs:List AV)
 |map (es:List (AV×AV×Nat)) (clock:Nat)
 |miter (m:Nat) (since:Nat) (seen:List Nat) (stepped:Nat)
 |siter (s:List UInt8) (pos:Nat)
 |loop (l:Nat) (α:AF) (N:Nat) (st:LoopState) (pe:Option Code) (ps:Array Tmp) (ars bd:Code)
 |gone
abbrev AHeap:=List ABlk
def ABlk.live:ABlk→Prop
 |.gone=>False
 |_=>True
inductive BRep (c:Ctx) (i:Nat):ABlk→Prop
 |cells (ver:Nat) (cs:List AV) (vs:Array Value) (e:TypeId) (fr:Nat×Nat) (hv:c.ver i=ver) (hd:c.vd i=false) (hh:c.w.heap[c.blk i]?=some (.cells vs e fr)) (hl:cs.length≤vs.size) (hf:vs.size≤fr.1∨fr.2≤fr.1)
   (h:∀(j:Nat) (x:AV) (v:Value),cs[j]?=some x→vs[j]?=some v→Rep c x v):BRep c i (.cells ver cs)
 |void (ver:Nat) (hv:c.ver i=ver) (hd:c.vd i=true):BRep c i (.cells ver [])
 |map (es:List (AV×AV×Nat)) (clock:Nat) (ents:Array MapEntry) (hv:c.ver i=0) (hd:c.vd i=false) (hh:c.w.heap[c.blk i]?=some (.map ents clock)) (hl:ents.size=es.length)
   (h:∀(j:Nat) (p:AV×AV×Nat) (e:MapEntry),es[j]?=some p→ents[j]?=some e→Rep c p.1 e.key∧Rep c p.2.1 e.val∧e.born=p.2.2):BRep c i (.map es clock)
 |miter (m since:Nat) (seen:List Nat) (stepped:Nat) (hv:c.ver i=0) (hd:c.vd i=false) (hm:m<c.n) (hmv:c.ver m=0) (hmd:c.vd m=false) (hh:c.w.heap[c.blk i]?=some (.mapIter (some (c.blk m)) since seen.toArray stepped)):BRep c i (.miter m since seen stepped)
 |siter (s:List UInt8) (pos:Nat) (hv:c.ver i=0) (hd:c.vd i=false) (hh:c.w.heap[c.blk i]?=some (.stringIter ⟨s.toArray⟩ pos)) (hsl:s.length≤9223372036854775807):BRep c i (.siter s pos)
 |loop (l:Nat) (α:AF) (N:Nat) (st:LoopState) (pe:Option Code) (ps:Array Tmp) (ars bd:Code) (fn D:Nat) (ts:Array Value) (hv:c.ver i=0) (hd:c.vd i=false) (hl:c.blk i=l)
   (hh:c.w.heap[c.blk i]?=some (.loop {state:=st,pending:=pe,fn:=fn,tmps:=ts,params:=ps,assign:=ars,body:=bd,defers:=D})) (hN:ts.size=N) (hr:∀t,Rep c (look α t) (ts.getD t undef)):BRep c i (.loop l α N st pe ps ars bd)
 |gone (hd:c.vd i=true):BRep c i .gone
structure St (c:Ctx) (H:AHeap):Prop where
 n:c.n=H.length
 lt:∀i,i<c.n→c.vd i=false→c.blk i<c.w.heap.size
 inj:∀i j b b',H[i]?=some b→H[j]?=some b'→b.live→b'.live→c.vd i=false→c.vd j=false→c.blk i=c.blk j→i=j
 st:∀k,c.stable k→k<c.w.heap.size∧∀i b,H[i]?=some b→b.live→c.vd i=false→c.blk i≠k
 rep:∀i b,H[i]?=some b→BRep c i b
def Marks(c:Ctx)(ds:List Deferred):Prop:=
 c.base≤c.w.heap.size∧∃Ds:List Nat,ds=Ds.map (fun D=>{target:=.collected D,args:= #[]})∧Ds.Nodup∧∀D∈Ds,c.base≤D∧c.stable D∧c.w.heap[D]?=some (.deferred (some []))
theorem Marks.mono{c c':Ctx}{ds:List Deferred}(hx:Ext c c')(h:Marks c ds):Marks c' ds:=by
 obtain⟨h0,Ds,e,hn,h⟩:=h
 refine⟨by rw[hx.base];exact Nat.le_trans h0 hx.size,Ds,e,hn,fun D hD=>?_⟩
 obtain⟨h1,h2,h3⟩:=h D hD
 exact⟨by rw[hx.base];exact h1,(hx.st D h2).1,((hx.st D h2).2).trans h3⟩
structure ARep (c:Ctx) (N:Nat) (α:AF) (a:Act):Prop where
 size:a.tmps.size=N
 defers:Marks c a.defers
 rep:∀t,Rep c (look α t) (a.tmps.getD t undef)
theorem ARep.mono{c c':Ctx}{N:Nat}{α:AF}{a:Act}(hx:Ext c c')(h:ARep c N α a):ARep c' N α a:=
 ⟨h.size,h.defers.mono hx,fun t=>(h.rep t).mono hx⟩
def bU(dst:Option Tmp)(v:AV)(α:AF):AF:=
 match dst with
 |some d=>(d,v)::α
 |none=>α
def xJ(N:Nat):Option Tmp→Bool
 |some d=>Nat.blt d N
 |none=>true
theorem ARep.put{c:Ctx}{N:Nat}{α:AF}{a:Act}{dst:Option Tmp}{x:AV}{v:Value}(h:ARep c N α a)(hd:xJ N dst=true)(hv:Rep c x v):ARep c N (bU dst x α) (a.put dst v):=by
 cases dst with
 |none=>exact h
 |some d=>
  have hlt:d<a.tmps.size:=by rw[h.size];simpa[xJ,Nat.blt_eq]using hd
  refine⟨by simp[Act.put,h.size],h.defers,fun t=>?_⟩
  simp only[bU,look,Act.put]
  by_cases hdt:d=t
  ·subst hdt
   simp[hlt,hv]
  ·have hb:(d==t)=false:=by simp[hdt]
   rw[hb,cond_false]
   have:=h.rep t
   simpa[Array.getD_eq_getD_getElem?,Array.getElem?_setIfInBounds_ne hdt]using this
theorem ARep.weaken{c:Ctx}{N:Nat}{α β:AF}{a:Act}(h:ARep c N α a)(hb:∀t,look β t=.top∨look β t=look α t):ARep c N β a:=by
 refine⟨h.size,h.defers,fun t=>?_⟩
 rcases hb t with e|e
 ·rw[e];exact .top _
 ·rw[e];exact h.rep t
abbrev bL:=Exit→AF→AHeap→Prop
def wf(r:Option Nat):Fence:={fn:=fun _=>True,depth:=none,alive:=false,round:=r}
def uF:Code→Bool
 |.seq x y=>uF x&&uF y
 |.cond _ x y=>uF x&&uF y
 |.block _ x=>uF x
 |.loop x=>uF x
 |.scope x=>uF x
 |.rangeFunc _ _ _ _=>false
 |_=>true
def aw(P:Program)(N:Nat)(code:Code)(Q:bL)(α:AF)(H:AHeap):Prop:=
 ∀(r:Option Nat) (c:Ctx) (a:Act),(r=none∨uF code=true)→St c H→ARep c N α a→
  code.wpIn (wf r) 0 P (fun e a' w'=>∃c' α' H',c'.w=w'∧St c' H'∧Ext c c'∧ARep c' N α' a'∧Q e α' H') a c.w
theorem fl2{r:Option Nat}{a b:Bool}(h:r=none∨(a&&b)=true):(r=none∨a=true)∧(r=none∨b=true):=by
 rcases h with h|h
 ·exact⟨.inl h,.inl h⟩
 ·rw[Bool.and_eq_true]at h;exact⟨.inr h.1,.inr h.2⟩
def RepAll(c:Ctx)(xs:List AV)(vs:Array Value):Prop:=vs.size=xs.length∧∀(i:Nat) (x:AV) (v:Value),xs[i]?=some x→vs[i]?=some v→Rep c x v
def ACalls(P:Program)(f:FuncId)(args:List AV)(H:AHeap)(R:AV→AHeap→Prop):Prop:=
 ∀(c:Ctx) (vs:Array Value),St c H→RepAll c args vs→
  Calls P f vs c.w (fun e w'=>∃c' x v H',e=.returned v∧c'.w=w'∧St c' H'∧Ext c c'∧Rep c' x v∧R x H')
def cN(P:Program)(f:FuncId)(args:List AV)(H:AHeap)(x:AV):Prop:=ACalls P f args H (fun x' H'=>x'=x∧H'=H)
theorem ACalls.mono{P:Program}{f:FuncId}{args:List AV}{H:AHeap}{R R':AV→AHeap→Prop}(h:ACalls P f args H R)(hr:∀x H',R x H'→R' x H'):ACalls P f args H R':=
 fun c vs hs ha=>(h c vs hs ha).mono fun _ _ ⟨c',x,v,H',e1,e2,e3,e4,e5,e6⟩=>⟨c',x,v,H',e1,e2,e3,e4,e5,hr _ _ e6⟩
theorem tO{P:Program}{N:Nat}{code:Code}{Q Q':bL}{α:AF}{H:AHeap}(h:aw P N code Q α H)(hq:∀e α H,Q e α H→Q' e α H):aw P N code Q' α H:=
 fun r c a hr hs ha=>wpIn_mono (h r c a hr hs ha)fun _ _ _ ⟨c',α',H',e1,e2,e3,e4,e5⟩=>⟨c',α',H',e1,e2,e3,e4,hq _ _ _ e5⟩
theorem nE{P:Program}{N:Nat}{code:Code}{Q:bL}{α β:AF}{H:AHeap}(h:aw P N code Q β H)(hb:∀t,look β t=.top∨look β t=look α t):aw P N code Q α H:=
 fun r c a hr hs ha=>h r c a hr hs (ha.weaken hb)
theorem aHL{P:Program}{N:Nat}{Q:bL}{α:AF}{H:AHeap}(h:Q .normal α H):aw P N .skip Q α H:=
 fun _ c _ _ hs ha=>wpIn_skip ⟨c,α,H,rfl,hs,Ext.refl c,ha,h⟩
theorem aMl{P:Program}{N:Nat}{Q:bL}{α:AF}{H:AHeap}(h:Q .ret α H):aw P N .ret Q α H:=
 fun _ c _ _ hs ha=>wpIn_ret ⟨c,α,H,rfl,hs,Ext.refl c,ha,h⟩
theorem aHM{P:Program}{N id:Nat}{Q:bL}{α:AF}{H:AHeap}(h:Q (.exit id) α H):aw P N (.exit id) Q α H:=
 fun _ c _ _ hs ha=>wpIn_exit ⟨c,α,H,rfl,hs,Ext.refl c,ha,h⟩
theorem aE4{P:Program}{N l:Nat}{Q:bL}{α:AF}{H:AHeap}(h:Q .normal α H):aw P N (.label l) Q α H:=
 fun _ c _ _ hs ha=>wpIn_label ⟨c,α,H,rfl,hs,Ext.refl c,ha,h⟩
def uG(P:Program)(N:Nat)(y:Code)(Q:bL):bL
 |.normal,α,H=>aw P N y Q α H
 |e,α,H=>Q e α H
theorem yY{P:Program}{N:Nat}{x y:Code}{Q:bL}{α:AF}{H:AHeap}(h:aw P N x (uG P N y Q) α H):aw P N (.seq x y) Q α H:=by
 intro r c a hr hs ha
 have hr:=fl2 hr
 refine wpIn_seq (wpIn_mono (h r c a hr.1 hs ha)fun e a' w' ⟨c',α',H',e1,e2,e3,e4,e5⟩=>?_)
 cases e with
 |normal=>
  subst e1
  exact wpIn_mono (e5 r c' a' hr.2 e2 e4)fun e a'' w'' ⟨c'',α'',H'',g1,g2,g3,g4,g5⟩=>⟨c'',α'',H'',g1,g2,e3.trans g3,g4,g5⟩
 |exit id=>exact⟨c',α',H',e1,e2,e3,e4,e5⟩
 |goto l=>exact⟨c',α',H',e1,e2,e3,e4,e5⟩
 |ret=>exact⟨c',α',H',e1,e2,e3,e4,e5⟩
 |panic ch=>exact⟨c',α',H',e1,e2,e3,e4,e5⟩
 |outgrown=>exact⟨c',α',H',e1,e2,e3,e4,e5⟩
def lK(id:Nat)(Q:bL):bL
 |.exit id',α,H=>bif id'==id then Q .normal α H else Q (.exit id') α H
 |e,α,H=>Q e α H
theorem aE5{P:Program}{N id:Nat}{x:Code}{Q:bL}{α:AF}{H:AHeap}(h:aw P N x (lK id Q) α H):aw P N (.block id x) Q α H:=by
 intro r c a hr hs ha
 refine wpIn_block (wpIn_mono (h r c a hr hs ha)fun e a' w' ⟨c',α',H',e1,e2,e3,e4,e5⟩=>?_)
 cases e with
 |exit id'=>
  simp only[lK]at e5
  simp only[Exit.inBlock]
  by_cases hi:id'=id
  ·simp only[hi,if_true]
   rw[hi,beq_self_eq_true,cond_true]at e5
   exact⟨c',α',H',e1,e2,e3,e4,e5⟩
  ·simp only[hi,if_false]
   have:(id'==id)=false:=by simp[hi]
   rw[this,cond_false]at e5
   exact⟨c',α',H',e1,e2,e3,e4,e5⟩
 |normal=>exact⟨c',α',H',e1,e2,e3,e4,e5⟩
 |goto l=>exact⟨c',α',H',e1,e2,e3,e4,e5⟩
 |ret=>exact⟨c',α',H',e1,e2,e3,e4,e5⟩
 |panic ch=>exact⟨c',α',H',e1,e2,e3,e4,e5⟩
 |outgrown=>exact⟨c',α',H',e1,e2,e3,e4,e5⟩
def aKG{ι:Type}(F:ι→AF)(Hp:ι→AHeap)(pre:ι→Prop)(m:ι→Nat)(x:ι)(Q:bL):bL
 |.normal,α,H=>∃y,pre y∧m y<m x∧(∀t,look (F y) t=.top∨look (F y) t=look α t)∧H=Hp y
 |e,α,H=>Q e α H
theorem aBx{F:Fence}{n:Nat}{P:Program}{Q:Exit→Act→World→Prop}{a:Act}{w:World}{body:Code}{ι:Type}(I:ι→Act→World→Prop)(m:ι→Nat)(x₀:ι)(h₀:I x₀ a w)
  (round:∀x a w,I x a w→body.wpIn F n P (Exit.then (fun a' w'=>∃y,I y a' w'∧m y<m x) Q) a w):(Code.loop body).wpIn F n P Q a w:=by
 intro b k cs hro hb hr
 have key:∀n x a w,m x=n→I x a w→
   ∃e a' w',Q e a' w'∧ArrivesIn (Machine.fenced P F) P (lone (b.atR a (.code body::.inLoop body::k)) cs w) b k cs e a' w':=by
  intro n
  induction n using Nat.strongRecOn with
  |_ n ih=>
   intro x a w hn hI
   obtain⟨e,a₁,w₁,hq,harr⟩:=round x a w hI b (.inLoop body::k) cs hro hb hr
   cases e with
   |normal=>
    obtain⟨y,hI₁,hlt⟩:=hq
    obtain⟨e₂,a₂,w₂,hq₂,harr₂⟩:=ih (m y) (hn▸hlt) y a₁ w₁ rfl hI₁
    exact⟨e₂,a₂,w₂,hq₂,.of_steps (StepsIn.trans harr (.one (fenced_calm hb hr rfl) stepR_inLoop)) harr₂⟩
   |exit id=>exact⟨_,a₁,w₁,hq,.pass (x:=.inLoop body) rfl (fun _ _=>.inl (by simp)) harr⟩
   |goto l=>exact⟨_,a₁,w₁,hq,.pass (x:=.inLoop body) rfl (fun _ _=>.inl (by simp)) harr⟩
   |ret=>exact⟨_,a₁,w₁,hq,.pass (x:=.inLoop body) rfl (fun _ _=>.inl (by simp)) harr⟩
   |panic ch=>exact⟨_,a₁,w₁,hq,.pass (x:=.inLoop body) rfl (fun _ _=>.inl (by simp)) harr⟩
   |outgrown=>exact⟨_,a₁,w₁,hq,.pass (x:=.inLoop body) rfl (fun _ _=>.inl (by simp)) harr⟩
 obtain⟨e,a',w',hq,harr⟩:=key _ x₀ a w rfl h₀
 exact⟨e,a',w',hq,.of_steps (.one (fenced_calm hb hr rfl) stepR_loop) harr⟩
theorem aHN{P:Program}{N:Nat}{body:Code}{Q:bL}{α:AF}{H:AHeap}{ι:Type}(F:ι→AF)(Hp:ι→AHeap)(pre:ι→Prop)(m:ι→Nat)(x₀:ι)(h0:pre x₀)
  (hF:∀t,look (F x₀) t=.top∨look (F x₀) t=look α t) (hH:H=Hp x₀)
  (round:∀x,pre x→aw P N body (aKG F Hp pre m x Q) (F x) (Hp x)):aw P N (.loop body) Q α H:=by
 intro r c a hr hs ha
 subst hH
 refine aBx (fun x a w=>pre x∧∃c',c'.w=w∧St c' (Hp x)∧Ext c c'∧ARep c' N (F x) a) m x₀ ⟨h0,c,rfl,hs,Ext.refl c,ha.weaken hF⟩ ?_
 rintro x a w ⟨hp,c',rfl,hs',hx',ha'⟩
 refine wpIn_mono (round x hp r c' a hr hs' ha')fun e a' w' ⟨c'',α',H',e1,e2,e3,e4,e5⟩=>?_
 cases e with
 |normal=>
  obtain⟨y,p1,p2,p3,p4⟩:=e5
  exact⟨y,⟨p1,c'',e1,p4▸e2,hx'.trans e3,e4.weaken p3⟩,p2⟩
 |exit id=>exact⟨c'',α',H',e1,e2,hx'.trans e3,e4,e5⟩
 |goto l=>exact⟨c'',α',H',e1,e2,hx'.trans e3,e4,e5⟩
 |ret=>exact⟨c'',α',H',e1,e2,hx'.trans e3,e4,e5⟩
 |panic ch=>exact⟨c'',α',H',e1,e2,hx'.trans e3,e4,e5⟩
 |outgrown=>exact⟨c'',α',H',e1,e2,hx'.trans e3,e4,e5⟩
def dH:Value→AV
 |.int k n=>bif wX k n then .int k n else .top
 |.bool b=>.bool b
 |.string s=>bif Nat.ble s.data.toList.length 9223372036854775807 then .str s.data.toList else .top
 |.pointer none=>.nilptr
 |.slice none 0 0=>.sl true []
 |.map none=>.nilmap
 |.nilFunc=>.nilfunc
 |.nilIface=>.nilIface
 |_=>.top
theorem aDH(c:Ctx):Rep c (.sl true []) (.slice none 0 0):=
 .sl true [] none 0 0 0 (fun _ _=>undef) rfl (Nat.le_refl _) (fun _=>rfl) (fun h=>absurd rfl h) (by simp) (by simp) (by omega)
theorem uH(c:Ctx)(v:Value):Rep c (dH v) v:=by
 unfold dH
 split
 ·rename_i k n
  cases h:wX k n with
  |true=>exact .int _ _ (oF.1 h)
  |false=>exact .top _
 ·exact .bool _
 ·rename_i s
  cases h:Nat.ble s.data.toList.length 9223372036854775807 with
  |true=>simpa using Rep.str (c:=c) s.data.toList (Nat.le_of_ble_eq_true h)
  |false=>exact .top _
 ·exact .nilptr
 ·exact aDH c
 ·exact .nilmap
 ·exact .nilfunc
 ·exact .nilIface
 ·exact .top _
def pT:Value→AV
 |.agg cs=>.agg (cs.toList.map dH)
 |.tuple vs=>bif vs.size==0 then .tup []else .top
 |v=>dH v
theorem sM(c:Ctx)(v:Value):Rep c (pT v) v:=by
 cases v with
 |agg cs=>
  refine .agg _ _ (by simp)fun i x v h1 h2=>?_
  simp only[List.getElem?_map,Option.map_eq_some_iff]at h1
  obtain⟨u,h1,rfl⟩:=h1
  rw[Array.getElem?_toList,h2]at h1
  cases h1
  exact uH c v
 |tuple vs=>
  simp only[pT]
  by_cases h:vs.size=0
  ·have:(vs.size==0)=true:=by simp[h]
   rw[this]
   exact .tup [] _ h (by simp)
  ·have:(vs.size==0)=false:=by simpa using h
   rw[this]
   exact .top _
 |_=>simp only[pT];exact uH c _
def ev(α:AF):Operand→AV
 |.tmp t=>look α t
 |.const v=>pT v
 |.global _=>.top
 |.func f=>.func (.func f) [] []
theorem aE6{c:Ctx}{N:Nat}{α:AF}{a:Act}(h:ARep c N α a)(x:Operand):Rep c (ev α x) (a.eval x):=by
 cases x with
 |tmp t=>exact h.rep t
 |const v=>exact sM c v
 |global g=>exact .top _
 |func f=>exact .func _ [] [] _ _ rfl rfl (by simp) (by simp)
end Go.Aw
/- The operations of the abstract machine that only compute, and what they have to do with the model's own. No condition. -/
namespace Go.Aw
open Go
set_option linter.unusedSimpArgs false
variable {P:Program}
def Does(P:Program)(o:Oper)(ρ:Operand→AV)(H:AHeap)(R:AV→AHeap→Prop):Prop:=
 ∀(r:Option Nat) (c:Ctx) (a:Act) (next:Act→World→Prop) (Q:Exit→Act→World→Prop),St c H→(∀x∈o.op.operands.toList,Rep c (ρ x) (a.eval x))→
  (∀c' x v H',St c' H'→Ext c c'→Rep c' x v→R x H'→next (a.put o.dst v) c'.w)→o.wpIn (wf r) 0 P a c.w next Q
def Sm(o:Oper):Prop:=∀r ρ,o.semAt r ρ=execOp ρ o
theorem owp{r:Option Nat}{o:Oper}{a:Act}{w:World}{next:Act→World→Prop}{Q:Exit→Act→World→Prop}(hd:Sm o)(h:o.uponIn (wf r) 0 P a next Q ((execOp a.eval o).run P w)):o.wpIn (wf r) 0 P a w next Q:=
 ⟨fun _ _=>trivial,by rw[hd];exact h⟩
def Runs(P:Program)(s:Sem Value)(c:Ctx)(x:AV)(H':AHeap):Prop:=∃c' v,s.run P c.w=.ok v c'.w∧St c' H'∧Ext c c'∧Rep c' x v
theorem Runs.pure{s:Sem Value}{c:Ctx}{x:AV}{v:Value}{H:AHeap}(h:s.run P c.w=.ok v c.w)(hs:St c H)(hr:Rep c x v):Runs P s c x H:=⟨c,v,h,hs,Ext.refl c,hr⟩
theorem Rep.int_inv{c:Ctx}{k:IntKind}{n:Int}{v:Value}(h:Rep c (.int k n) v):v=.int k n:=by cases h;rfl
theorem Rep.int_R{c:Ctx}{k:IntKind}{n:Int}{v:Value}(h:Rep c (.int k n) v):inR k n:=by cases h;assumption
theorem Rep.str_R{c:Ctx}{s:List UInt8}{v:Value}(h:Rep c (.str s) v):s.length≤9223372036854775807:=by cases h;assumption
theorem Rep.sl_R{c:Ctx}{f:Bool}{es:List AV}{v:Value}(h:Rep c (.sl f es) v):es.length≤9223372036854775807:=by
 cases h with|sl _ _ _ _ _ _ _ h1 _ _ _ _ _ h2=>rw[←h1];exact h2
theorem Rep.osl_R{c:Ctx}{s i v off len lc:Nat}{val:Value}(h:Rep c (.osl s i v off len lc) val):lc≤9223372036854775807:=by cases h;assumption
theorem Rep.bool_inv{c:Ctx}{b:Bool}{v:Value}(h:Rep c (.bool b) v):v=.bool b:=by cases h;rfl
theorem Rep.str_inv{c:Ctx}{s:List UInt8}{v:Value}(h:Rep c (.str s) v):v=.string ⟨s.toArray⟩:=by cases h;rfl
theorem Rep.agg_inv{c:Ctx}{cs:List AV}{v:Value}(h:Rep c (.agg cs) v):∃vs:Array Value,v=.agg vs∧vs.size=cs.length∧∀(i:Nat) (x:AV) (v:Value),cs[i]?=some x→vs[i]?=some v→Rep c x v:=by
 cases h with|agg _ vs hl h=>exact⟨vs,rfl,hl,h⟩
theorem Rep.tup_inv{c:Ctx}{cs:List AV}{v:Value}(h:Rep c (.tup cs) v):∃vs:Array Value,v=.tuple vs∧vs.size=cs.length∧∀(i:Nat) (x:AV) (v:Value),cs[i]?=some x→vs[i]?=some v→Rep c x v:=by
 cases h with|tup _ vs hl h=>exact⟨vs,rfl,hl,h⟩
def dZ(op:BinOp)(k:IntKind)(x y:Int):Int:=
 match op with
 |.and=>k.wrap (BitVec.ofInt k.bits x&&&BitVec.ofInt k.bits y).toNat
 |.or=>k.wrap (BitVec.ofInt k.bits x|||BitVec.ofInt k.bits y).toNat
 |.xor=>k.wrap (BitVec.ofInt k.bits x ^^^ BitVec.ofInt k.bits y).toNat
 |_=>k.wrap (BitVec.ofInt k.bits x&&& ~~~(BitVec.ofInt k.bits y)).toNat
structure BR where
 v:AV
 s:Prop
def tP:BR:=⟨.top,False⟩
def cS(op:BinOp)(k:IntKind)(a b:Int):BR:=
 match op with
 |.add=>⟨.int k (k.wrap (a+b)),True⟩
 |.sub=>⟨.int k (k.wrap (a-b)),True⟩
 |.mul=>⟨.int k (k.wrap (a * b)),True⟩
 |.quo=>⟨.int k (k.wrap (a.tdiv b)),b≠0⟩
 |.rem=>⟨.int k (a.tmod b),b≠0⟩
 |.and=>⟨.int k (dZ .and k a b),True⟩
 |.or=>⟨.int k (dZ .or k a b),True⟩
 |.xor=>⟨.int k (dZ .xor k a b),True⟩
 |.andNot=>⟨.int k (dZ .andNot k a b),True⟩
 |.eql=>⟨.bool (decide (a=b)),True⟩
 |.neq=>⟨.bool (!decide (a=b)),True⟩
 |.lss=>⟨.bool (decide (a<b)),True⟩
 |.leq=>⟨.bool (decide (a≤b)),True⟩
 |.gtr=>⟨.bool (decide (b<a)),True⟩
 |.geq=>⟨.bool (decide (b≤a)),True⟩
 |.shl=>⟨.int k (k.wrap (a * 2 ^ (min b.toNat k.bits))),0≤b⟩
 |.shr=>⟨.int k (a.fdiv (2 ^ (min b.toNat k.bits))),0≤b⟩
def pU(op:BinOp)(a b:List UInt8):BR:=
 match op with
 |.add=>⟨.str (a++b),a.length+b.length≤9223372036854775807⟩
 |.eql=>⟨.bool (decide (a=b)),True⟩
 |.neq=>⟨.bool (!decide (a=b)),True⟩
 |.lss=>⟨.bool (Op.bytesLess a b),True⟩
 |.leq=>⟨.bool (Op.bytesLess a b||decide (a=b)),True⟩
 |.gtr=>⟨.bool (!(Op.bytesLess a b||decide (a=b))),True⟩
 |.geq=>⟨.bool (!Op.bytesLess a b),True⟩
 |_=>tP
def apart(P:Program)(t:TypeId)(off:Nat)(cs:List AV):BR:=
 match P.underlying t with
 |some (.struct _)|some (.array _ _)=>⟨.agg ((cs.drop off).take (P.cellsOf t)),True⟩
 |some _=>⟨cs.getD off .top,off<cs.length⟩
 |none=>tP
structure ER where
 b:Bool
 s:Prop
mutual
def aEq(P:Program):Nat→TypeId→AV→AV→ER
 |0,_,_,_=>⟨false,False⟩
 |d+1,t,x,y=>
  match P.underlying t,x,y with
  |some .bool,.bool a,.bool b=>⟨a==b,True⟩
  |some (.int _),.int k a,.int k' b=>⟨decide (a=b),k=k'⟩
  |some .string,.str a,.str b=>⟨decide (a=b),True⟩
  |some (.struct fs),.agg xs,.agg ys=>⟨(uI P d xs ys fs.toList).b,P.stoodInHeld t=false∧(uI P d xs ys fs.toList).s⟩
  |_,_,_=>⟨false,False⟩
def uI(P:Program):Nat→List AV→List AV→List Field→ER
 |_,_,_,[]=>⟨true,True⟩
 |0,_,_,_::_=>⟨false,False⟩
 |d+1,xs,ys,f::fs=>
  ⟨(aEq P d f.type (apart P f.type f.offset xs).v (apart P f.type f.offset ys).v).b&&(uI P d xs ys fs).b,
    f.name≠ "_" ∧(apart P f.type f.offset xs).s∧(apart P f.type f.offset ys).s∧(aEq P d f.type (apart P f.type f.offset xs).v (apart P f.type f.offset ys).v).s∧(uI P d xs ys fs).s⟩
end
theorem oG{t:TypeId}{d:TypeDesc}(h:P.underlying t=some d):∃i,P.info? t=some i∧P.cellsOf t=i.size:=by
 unfold Program.underlying at h
 cases hi:P.info? t with
 |none=>rw[hi]at h;cases h
 |some i=>exact⟨i,rfl,by simp[Program.cellsOf,hi]⟩
theorem mL{t:TypeId}{d:TypeDesc}(h:P.underlying t=some d)(w:World):(sizeOf t).run P w=.ok (P.cellsOf t) w:=by
 obtain⟨i,h1,h2⟩:=oG h
 simp[sizeOf,typeInfo,h1,h2]
def TypeDesc.isAgg:TypeDesc→Bool
 |.struct _|.array _ _=>true
 |_=>false
theorem nF{t:TypeId}{d:TypeDesc}(h:P.underlying t=some d)(w:World):(isAgg t).run P w=.ok (TypeDesc.isAgg d) w:=by
 unfold isAgg
 rw[Sem.run_bind,run_underlying h]
 cases d<;>rfl
theorem yZ{c:Ctx}{cs:List AV}{vs:Array Value}(hl:vs.size=cs.length)(h:∀(i:Nat) (x:AV) (v:Value),cs[i]?=some x→vs[i]?=some v→Rep c x v)(off n:Nat):
  Rep c (.agg ((cs.drop off).take n)) (.agg (vs.extract off (off+n))):=by
 refine .agg _ _ (by simp[hl];omega)fun i x v h1 h2=>?_
 rw[Array.getElem?_extract]at h2
 rw[List.getElem?_take,List.getElem?_drop]at h1
 split at h1
 ·split at h2
  ·exact h _ _ _ h1 h2
  ·cases h2
 ·cases h1
theorem sN{c:Ctx}{cs:List AV}{vs:Array Value}(hl:vs.size=cs.length)(h:∀(i:Nat) (x:AV) (v:Value),cs[i]?=some x→vs[i]?=some v→Rep c x v){t:TypeId}{off:Nat}(hs:(apart P t off cs).s):
  ∃v,(∀w,(part t vs off).run P w=.ok v w)∧Rep c (apart P t off cs).v v:=by
 unfold apart at *
 cases hu:P.underlying t with
 |none=>simp[hu,tP]at hs
 |some d=>
  simp only[hu]at hs ⊢
  by_cases ha:TypeDesc.isAgg d=true
  ·refine⟨.agg (vs.extract off (off+P.cellsOf t)),fun w=>?_,?_⟩
   ·simp[part,nF hu,ha,mL hu]
   ·cases d<;>simp only[TypeDesc.isAgg,Bool.false_eq_true]at ha<;>exact yZ hl h off _
  ·have ha:TypeDesc.isAgg d=false:=by simpa using ha
   have hlt:off<cs.length:=by cases d<;>first|exact hs|(simp[TypeDesc.isAgg]at ha)
   have hv:vs[off]?=some (vs[off]'(by omega)):=Array.getElem?_eq_getElem (by omega)
   have hx:cs[off]?=some (cs[off]):=List.getElem?_eq_getElem hlt
   refine⟨vs[off]'(by omega),fun w=>?_,?_⟩
   ·simp[part,nF hu,ha,hv]
   ·have:Rep c (cs.getD off .top) (vs[off]'(by omega)):=by rw[List.getD_eq_getElem?_getD,hx];exact h _ _ _ hx hv
    cases d<;>first|exact this|(simp[TypeDesc.isAgg]at ha)
theorem xK(c:Ctx)(d:Nat):
  (∀(t:TypeId) (x y:AV) (vx vy:Value) (D:Nat) (w:World),d≤D→(aEq P d t x y).s→Rep c x vx→Rep c y vy→(Op.equalIn D t vx vy).run P w=.ok (aEq P d t x y).b w)∧
  (∀(fs:List Field) (xs ys:List AV) (vx vy:Array Value) (D:Nat) (w:World),d≤D→(uI P d xs ys fs).s→Rep c (.agg xs) (.agg vx)→Rep c (.agg ys) (.agg vy)→
   (Op.eqFields D vx vy fs).run P w=.ok (uI P d xs ys fs).b w):=by
 induction d with
 |zero=>
  refine⟨fun t x y vx vy D w _ hs=>by simp[aEq]at hs,fun fs xs ys vx vy D w _ hs _ _=>?_⟩
  cases fs with
  |nil=>simp[Op.eqFields,uI]
  |cons f fs=>simp[uI]at hs
 |succ d ih=>
  obtain⟨ih1,ih2⟩:=ih
  refine⟨fun t x y vx vy D w hD hs hx hy=>?_,fun fs xs ys vx vy D w hD hs hx hy=>?_⟩
  ·obtain⟨D,rfl⟩:∃D',D=D'+1:=⟨D-1,by omega⟩
   unfold aEq at hs ⊢
   split at hs
   ·rename_i hu
    rw[hx.bool_inv,hy.bool_inv]
    exact run_equalIn_bool' w _ _ _ _ hu
   ·rename_i hu
    rw[hx.int_inv,hy.int_inv]
    subst hs
    rw[run_equalIn_int w _ _ _ _ _ _ hu]
    rfl
   ·rename_i a b hu
    rw[hx.str_inv,hy.str_inv,run_equalIn_string w _ _ _ _ hu]
    simp only[ByteArray.toList_mk]
    congr 1
    rw[Bool.eq_iff_iff]
    simp
   ·rename_i fs xs ys hu
    obtain⟨hst,hs⟩:=hs
    obtain⟨vx,rfl,hx1,hx2⟩:=hx.agg_inv
    obtain⟨vy,rfl,hy1,hy2⟩:=hy.agg_inv
    have hfs:P.fieldsOf t=fs:=by simp[Program.fieldsOf,hu]
    rw[run_equalIn_struct w D t vx vy (by rw[hfs];exact hu) hst,hfs]
    exact ih2 fs.toList xs ys vx vy D w (by omega) hs hx hy
   ·exact hs.elim
  ·cases fs with
   |nil=>simp[Op.eqFields,uI]
   |cons f fs=>
    unfold uI at hs ⊢
    obtain⟨h0,h1,h2,h3,h4⟩:=hs
    obtain⟨vx',hvx,hx1,hx2⟩:=hx.agg_inv
    obtain⟨vy',hvy,hy1,hy2⟩:=hy.agg_inv
    cases hvx
    cases hvy
    obtain⟨px,hpx,rpx⟩:=sN (P:=P) hx1 hx2 h1
    obtain⟨py,hpy,rpy⟩:=sN (P:=P) hy1 hy2 h2
    have e1:=ih1 f.type _ _ px py D w (by omega) h3 rpx rpy
    have e2:=ih2 fs xs ys vx vy D w (by omega) h4 hx hy
    have hn:(f.name≠ "_")=True:=by simp[h0]
    simp only[Op.eqFields,hn,if_true,Sem.run_bind,hpx,hpy,Result.andThen_ok,e1,Sem.run_ite,Sem.run_pure,e2]
    cases(aEq P d f.type (apart P f.type f.offset xs).v (apart P f.type f.offset ys).v).b<;>simp
def dF(P:Program)(op:BinOp)(t:TypeId)(x y:AV):BR:=
 match op,x,y with
 |.shl,.int k a,.int _ b=>cS .shl k a b
 |.shr,.int k a,.int _ b=>cS .shr k a b
 |op,.int k a,.int k' b=>⟨(cS op k a b).v,k=k'∧(cS op k a b).s⟩
 |op,.str a,.str b=>pU op a b
 |.eql,.bool a,.bool b=>⟨.bool (a==b),P.underlying t=some .bool⟩
 |.neq,.bool a,.bool b=>⟨.bool (!(a==b)),P.underlying t=some .bool⟩
 |.eql,.agg xs,.agg ys=>⟨.bool (aEq P 30 t (.agg xs) (.agg ys)).b,P.eqGuardType P.depth t=false∧(aEq P 30 t (.agg xs) (.agg ys)).s⟩
 |.neq,.agg xs,.agg ys=>⟨.bool (!(aEq P 30 t (.agg xs) (.agg ys)).b),P.eqGuardType P.depth t=false∧(aEq P 30 t (.agg xs) (.agg ys)).s⟩
 |_,_,_=>tP
theorem aCY(s:List UInt8):(ByteArray.mk s.toArray).size=s.length:=by simp[ByteArray.size]
theorem aDI(a b:List UInt8):(ByteArray.mk a.toArray)++(ByteArray.mk b.toArray)=ByteArray.mk (a++b).toArray:=by
 apply ByteArray.ext
 simp[ByteArray.data_append]
theorem aE7{k:IntKind}{a:Int}(b:Int)(h:inR k a):inR k (a.tmod b):=by
 refine sL h (fun h0=>⟨Int.tmod_nonneg b h0,?_⟩) (fun h0=>?_)
 ·have h1:=Int.natAbs_tmod a b
  have h2:=Nat.mod_le a.natAbs b.natAbs
  have h3:=Int.tmod_nonneg b h0
  omega
 ·have h1:=Int.natAbs_tmod a b
  have h2:=Nat.mod_le a.natAbs b.natAbs
  have h3:0≤(-a).tmod b:=Int.tmod_nonneg b (by omega)
  rw[Int.neg_tmod]at h3
  omega
theorem aE8{k:IntKind}{a:Int}(m:Nat)(h:inR k a):inR k (a.fdiv (2 ^ m)):=by
 have hp:(0:Int)<2 ^ m:=Int.pow_pos (by decide)
 rw[Int.fdiv_eq_ediv_of_nonneg _ (by omega)]
 refine sL h (fun h0=>⟨Int.ediv_nonneg h0 (by omega),Int.ediv_le_self _ h0⟩) (fun h0=>?_)
 have h1:a / 2 ^ m<0:=Int.ediv_neg_of_neg_of_pos h0 hp
 have h2:a≤a / 2 ^ m:=by
  apply Int.le_ediv_of_mul_le hp
  have h3:(1:Int)≤2 ^ m:=by omega
  have:=Int.mul_le_mul_of_nonpos_left (a:=a) (by omega:a≤0) h3
  omega
 omega
theorem aBy{c:Ctx}{op:BinOp}{t:TypeId}{x y:AV}{vx vy:Value}{X Y:Operand}(hx:Rep c x vx)(hy:Rep c y vy)(hs:(dF P op t x y).s)(w:World):
  ∃v,(do eqGuard op t X Y vx vy;binOp op t vx vy:Sem Value).run P w=.ok v w∧Rep c (dF P op t x y).v v:=by
 unfold dF at hs ⊢
 split at hs
 ·rw[hx.int_inv,hy.int_inv]
  simp only[cS]at hs
  refine⟨_,?_,.int _ _ (fD _ _)⟩
  simp[eqGuard,binOp,Op.shift,Int.not_lt.2 hs]
 ·rw[hx.int_inv,hy.int_inv]
  simp only[cS]at hs
  refine⟨_,?_,.int _ _ (aE8 _ hx.int_R)⟩
  simp[eqGuard,binOp,Op.shift,Int.not_lt.2 hs]
 ·rename_i k a k' b h1 h2
  rw[hx.int_inv,hy.int_inv]
  obtain⟨rfl,hs⟩:=hs
  cases op<;>simp only[cS]at hs ⊢
  case shl=>simp at h1
  case shr=>simp at h2
  case add=>exact⟨_,by simp[eqGuard,binOp,Op.intArith],.int _ _ (fD _ _)⟩
  case sub=>exact⟨_,by simp[eqGuard,binOp,Op.intArith],.int _ _ (fD _ _)⟩
  case mul=>exact⟨_,by simp[eqGuard,binOp,Op.intArith],.int _ _ (fD _ _)⟩
  case quo=>exact⟨_,by simp[eqGuard,binOp,Op.intDiv,hs],.int _ _ (fD _ _)⟩
  case rem=>exact⟨_,by simp[eqGuard,binOp,Op.intDiv,hs],.int _ _ (aE7 _ hx.int_R)⟩
  case and=>exact⟨_,by first|(simp[eqGuard,binOp,Op.intBits];done)|(simp[eqGuard,binOp,Op.intBits];rfl),.int _ _ (fD _ _)⟩
  case or=>exact⟨_,by first|(simp[eqGuard,binOp,Op.intBits];done)|(simp[eqGuard,binOp,Op.intBits];rfl),.int _ _ (fD _ _)⟩
  case xor=>exact⟨_,by first|(simp[eqGuard,binOp,Op.intBits];done)|(simp[eqGuard,binOp,Op.intBits];rfl),.int _ _ (fD _ _)⟩
  case andNot=>exact⟨_,by simp only[eqGuard,binOp,ne_eq,not_true_eq_false,if_false,Op.intBits,Sem.run_bind];rfl,.int _ _ (fD _ _)⟩
  case eql=>exact⟨_,by first|(simp[eqGuard,binOp,Op.intCmp];done)|(simp[eqGuard,binOp,Op.intCmp];rfl),.bool _⟩
  case neq=>exact⟨_,by first|(simp[eqGuard,binOp,Op.intCmp];done)|(simp[eqGuard,binOp,Op.intCmp];rfl),.bool _⟩
  case lss=>exact⟨_,by first|(simp[eqGuard,binOp,Op.intCmp];done)|(simp[eqGuard,binOp,Op.intCmp];rfl),.bool _⟩
  case leq=>exact⟨_,by first|(simp[eqGuard,binOp,Op.intCmp];done)|(simp[eqGuard,binOp,Op.intCmp];rfl),.bool _⟩
  case gtr=>exact⟨_,by first|(simp[eqGuard,binOp,Op.intCmp];done)|(simp[eqGuard,binOp,Op.intCmp];rfl),.bool _⟩
  case geq=>exact⟨_,by first|(simp[eqGuard,binOp,Op.intCmp];done)|(simp[eqGuard,binOp,Op.intCmp];rfl),.bool _⟩
 ·rename_i a b
  rw[hx.str_inv,hy.str_inv]
  have e:(a==b)=decide (a=b):=by rw[Bool.eq_iff_iff];simp
  cases op<;>simp only[pU,tP]at hs ⊢
  case add=>
   refine⟨_,?_,.str _ (by simpa using hs)⟩
   have hm:¬((((ByteArray.mk a.toArray).size+(ByteArray.mk b.toArray).size:Nat):Int)>IntKind.i64.max):=by
    have:IntKind.i64.max=9223372036854775807:=by decide
    rw[this,aCY,aCY]
    omega
   have e1:(binOp .add t (.string ⟨a.toArray⟩) (.string ⟨b.toArray⟩)).run P w=.ok (.string ⟨(a++b).toArray⟩) w:=by
    simp only[binOp,Op.stringOp]
    rw[if_neg hm,aDI]
    rfl
   simp[eqGuard,e1]
  case eql=>exact⟨_,by first|(simp[eqGuard,binOp,Op.stringOp,e];done)|(simp[eqGuard,binOp,Op.stringOp,e];rfl),.bool _⟩
  case neq=>exact⟨_,by first|(simp[eqGuard,binOp,Op.stringOp,e];done)|(simp[eqGuard,binOp,Op.stringOp,e];rfl),.bool _⟩
  case lss=>exact⟨_,by first|(simp[eqGuard,binOp,Op.stringOp,e];done)|(simp[eqGuard,binOp,Op.stringOp,e];rfl),.bool _⟩
  case leq=>exact⟨_,by first|(simp[eqGuard,binOp,Op.stringOp,e];done)|(simp[eqGuard,binOp,Op.stringOp,e];rfl),.bool _⟩
  case gtr=>exact⟨_,by first|(simp[eqGuard,binOp,Op.stringOp,e];done)|(simp[eqGuard,binOp,Op.stringOp,e];rfl),.bool _⟩
  case geq=>exact⟨_,by first|(simp[eqGuard,binOp,Op.stringOp,e];done)|(simp[eqGuard,binOp,Op.stringOp,e];rfl),.bool _⟩
 ·rw[hx.bool_inv,hy.bool_inv]
  exact⟨_,by first|(simp[eqGuard,binOp,Op.equal,Op.maxDepth,run_equalIn_bool' w _ _ _ _ hs];done)|(simp[eqGuard,binOp,Op.equal,Op.maxDepth,run_equalIn_bool' w _ _ _ _ hs];rfl),.bool _⟩
 ·rw[hx.bool_inv,hy.bool_inv]
  refine⟨_,by first|(simp[eqGuard,binOp,Op.equal,Op.maxDepth,run_equalIn_bool' w _ _ _ _ hs];done)|(simp[eqGuard,binOp,Op.equal,Op.maxDepth,run_equalIn_bool' w _ _ _ _ hs];rfl),.bool _⟩
 ·rename_i xs ys
  obtain⟨hg,hs⟩:=hs
  obtain⟨vx',rfl,_,_⟩:=hx.agg_inv
  obtain⟨vy',rfl,_,_⟩:=hy.agg_inv
  refine⟨_,?_,.bool _⟩
  rw[Sem.run_bind,run_eqGuard_agg w .eql t X Y vx' vy' hg,Result.andThen_ok,run_eql_struct,(xK (P:=P) c 30).1 t _ _ _ _ 10000 w (by omega) hs hx hy,Result.andThen_ok]
 ·rename_i xs ys
  obtain⟨hg,hs⟩:=hs
  obtain⟨vx',rfl,_,_⟩:=hx.agg_inv
  obtain⟨vy',rfl,_,_⟩:=hy.agg_inv
  refine⟨_,?_,.bool _⟩
  rw[Sem.run_bind,run_eqGuard_agg w .neq t X Y vx' vy' hg,Result.andThen_ok,run_neq_struct,(xK (P:=P) c 30).1 t _ _ _ _ 10000 w (by omega) hs hx hy,Result.andThen_ok]
 ·exact hs.elim
end Go.Aw
/- The operations of the abstract machine that read, write, or lay memory. No condition. -/
namespace Go.Aw
open Go
set_option linter.unusedSimpArgs false
variable {P:Program}
structure Res where
 v:AV
 H:AHeap
 s:Prop
def hget(H:AHeap)(i:Nat):ABlk:=H.getD i .gone
def aD(H:AHeap)(i:Nat)(b:ABlk):AHeap:=H.set i b
theorem cZ{H:AHeap}{i:Nat}{b:ABlk}(h:hget H i=b)(hb:b.live):H[i]?=some b:=by
 unfold hget at h
 rw[List.getD_eq_getElem?_getD]at h
 cases hi:H[i]? with
 |none=>rw[hi]at h;subst h;exact hb.elim
 |some x=>rw[hi]at h;simp at h;rw[h]
def uJ(P:Program)(t:TypeId)(cs:List AV)(off:Nat):BR:=
 match P.underlying t with
 |some (.struct _)|some (.array _ _)=>⟨.agg ((cs.drop off).take (P.cellsOf t)),off+P.cellsOf t≤cs.length⟩
 |some _=>⟨cs.getD off .top,off<cs.length⟩
 |none=>tP
theorem tJ{t:TypeId}{d:TypeDesc}(hu:P.underlying t=some d)(ha:TypeDesc.isAgg d=true)(w:World)(a:Addr)(f:Nat→Value)(h:∀j,j<P.cellsOf t→w.cell? (a.add j)=some (f j)):
  (loadVar t a).run P w=.ok (.agg ((List.range (P.cellsOf t)).map f).toArray) w:=by
 simp[loadVar,nF hu,ha,mL hu,run_loadCells (P:=P) w a _ f h]
theorem tK{t:TypeId}{d:TypeDesc}(hu:P.underlying t=some d)(ha:TypeDesc.isAgg d=false)(w:World)(a:Addr)(v:Value)(h:w.cell? a=some v):
  (loadVar t a).run P w=.ok v w:=by
 simp[loadVar,nF hu,ha,h]
theorem sO{c:Ctx}{t:TypeId}{cs:List AV}{off:Nat}{a:Addr}{vs:Nat→Value}(hs:(uJ P t cs off).s)
  (hc:∀j,j<cs.length→c.w.cell? (a.add j)=some (vs j)) (hr:∀(j:Nat) (x:AV),cs[j]?=some x→Rep c x (vs j)) (ha0:a.spot=none):
  ∃v,(loadVar t (a.add off)).run P c.w=.ok v c.w∧Rep c (uJ P t cs off).v v:=by
 have hadd:∀m n,(a.add m).add n=a.add (m+n):=by
  intro m n
  obtain⟨b,o,s⟩:=a
  simp only at ha0
  subst ha0
  unfold Addr.add
  by_cases hm:m=0<;>by_cases hn:n=0<;>simp[hm,hn,Nat.add_assoc]
 unfold uJ at *
 cases hu:P.underlying t with
 |none=>simp[hu,tP]at hs
 |some d=>
  simp only[hu]at hs ⊢
  by_cases hag:TypeDesc.isAgg d=true
  ·have hle:off+P.cellsOf t≤cs.length:=by cases d<;>first|exact hs|(simp[TypeDesc.isAgg]at hag)
   refine⟨_,tJ hu hag c.w _ (fun j=>vs (off+j)) (fun j hj=>by rw[hadd];exact hc _ (by omega)),?_⟩
   have:Rep c (.agg ((cs.drop off).take (P.cellsOf t))) (.agg ((List.range (P.cellsOf t)).map fun j=>vs (off+j)).toArray):=by
    refine .agg _ _ (by simp;omega)fun i x v h1 h2=>?_
    rw[List.getElem?_take,List.getElem?_drop]at h1
    split at h1
    ·rename_i hlt
     simp[hlt]at h2
     subst h2
     exact hr _ _ h1
    ·cases h1
   cases d<;>first|exact this|(simp[TypeDesc.isAgg]at hag)
  ·have hag:TypeDesc.isAgg d=false:=by simpa using hag
   have hlt:off<cs.length:=by cases d<;>first|exact hs|(simp[TypeDesc.isAgg]at hag)
   have hx:cs[off]?=some cs[off]:=List.getElem?_eq_getElem hlt
   refine⟨_,tK hu hag c.w _ _ (hc _ hlt),?_⟩
   have:Rep c (cs.getD off .top) (vs off):=by rw[List.getD_eq_getElem?_getD,hx];exact hr _ _ hx
   cases d<;>first|exact this|(simp[TypeDesc.isAgg]at hag)
theorem jO{w:World}{b:Nat}{vs:Array Value}{e:TypeId}{fr:Nat×Nat}(h:w.heap[b]?=some (.cells vs e fr))(off:Nat):w.cell? ⟨b,off,none⟩=vs[off]?:=by
 simp[World.cell?,h]
theorem rB(b off n:Nat):(Addr.mk b off none).add n=⟨b,off+n,none⟩:=by
 unfold Addr.add
 split
 ·rename_i h;simp[h]
 ·rfl
def sQ(P:Program)(t:TypeId)(x:AV)(H:AHeap):BR:=
 match x with
 |.cptr cs=>uJ P t cs 0
 |.ref i v off=>
  match hget H i with
  |.cells ver cs=>⟨(uJ P t cs off).v,v=ver∧(uJ P t cs off).s⟩
  |_=>tP
 |_=>tP
theorem bP{H:AHeap}{i:Nat}{b:ABlk}(h:hget H i=b)(hb:b.live):i<H.length:=(List.getElem?_eq_some_iff.1 (cZ h hb)).1
theorem St.cells{c:Ctx}{H:AHeap}(h:St c H){i ver:Nat}{cs:List AV}(hi:hget H i=.cells ver cs)(hd:c.vd i=false):
  i<c.n∧c.ver i=ver∧∃vs e fr,c.w.heap[c.blk i]?=some (.cells vs e fr)∧cs.length≤vs.size∧(vs.size≤fr.1∨fr.2≤fr.1)∧∀(j:Nat) (x:AV) (v:Value),cs[j]?=some x→vs[j]?=some v→Rep c x v:=by
 have h1:=cZ hi trivial
 have h2:=h.rep i _ h1
 refine⟨by rw[h.n];exact bP hi trivial,?_⟩
 cases h2 with
 |cells _ _ vs e fr hv hd hh hl hf hr=>exact⟨hv,vs,e,fr,hh,hl,hf,hr⟩
 |void _ hv hd'=>rw[hd]at hd';cases hd'
theorem St.ver_eq{c:Ctx}{H:AHeap}(h:St c H){i ver:Nat}{cs:List AV}(hi:hget H i=.cells ver cs):c.ver i=ver:=by
 have h2:=h.rep i _ (cZ hi trivial)
 cases h2 with
 |cells _ _ _ _ _ hv=>exact hv
 |void _ hv=>exact hv
theorem sR{c:Ctx}{H:AHeap}{t:TypeId}{x:AV}{vx:Value}(hst:St c H)(hx:Rep c x vx)(hs:(sQ P t x H).s):
  ∃v,(Instr.loadAt t vx).run P c.w=.ok v c.w∧Rep c (sQ P t x H).v v:=by
 unfold sQ at *
 split at hs
 ·rename_i cs
  cases hx with
  |cptr _ a vs hspot hst' hc hr=>
   obtain⟨v,h1,h2⟩:=sO (P:=P) (c:=c) (a:=a) hs hc hr hspot
   refine⟨v,?_,h2⟩
   have:a.add 0=a:=by simp[Addr.add]
   rw[this]at h1
   simp[Instr.loadAt,Instr.sureAddr,h1]
 ·rename_i i v off
  split at hs
  ·rename_i ver cs hh
   obtain⟨hv,hs⟩:=hs
   have hver:=hst.ver_eq hh
   simp only[hh]
   cases hx with
   |ref _ _ _ _ _ _ _ hval=>
    obtain⟨hd,hval⟩:=hval (by omega)
    obtain⟨hi,_,vs,e,fr,hb,hl,hf,hr⟩:=hst.cells hh hd
    rw[hval]
    obtain⟨u,h1,h2⟩:=sO (P:=P) (c:=c) (t:=t) (cs:=cs) (off:=off) (a:=⟨c.blk i,0,none⟩) (vs:=fun j=>vs.getD j undef) hs
     (fun j hj=>by rw[rB,jO hb];simp[Array.getElem?_eq_getElem (show 0+j<vs.size by omega),show j<vs.size by omega])
     (fun j y hj=>by
      have hlt:j<cs.length:=(List.getElem?_eq_some_iff.1 hj).1
      refine hr j y _ hj ?_
      simp[Array.getElem?_eq_getElem (show j<vs.size by omega),show j<vs.size by omega]) rfl
    refine⟨u,?_,h2⟩
    rw[rB,Nat.zero_add]at h1
    simp[Instr.loadAt,Instr.sureAddr,h1]
  ·exact hs.elim
 ·exact hs.elim
def Ctx.push(c:Ctx)(o:Obj)(v0:Nat:=0):Ctx:=
 {w:=c.w.alloc o,n:=c.n+1,blk:=fun i=>if i=c.n then c.w.heap.size else c.blk i,ver:=fun i=>if i=c.n then v0 else c.ver i,vd:=fun i=>if i=c.n then false else c.vd i,stable:=c.stable,base:=c.base}
theorem kS{w:World}{o:Obj}{b:Nat}(h:b<w.heap.size):(w.alloc o).heap[b]?=w.heap[b]?:=by
 show(w.heap.push o)[b]?=_
 rw[Array.getElem?_push,if_neg (by omega)]
theorem jP(w:World)(o:Obj):(w.alloc o).heap[w.heap.size]?=some o:=by
 show(w.heap.push o)[w.heap.size]?=_
 simp
theorem Ext.push{c:Ctx}{H:AHeap}(hst:St c H)(o:Obj)(v0:Nat:=0):Ext c (c.push o v0)where
 n:=Nat.le_succ _
 size:=by simp[Ctx.push]
 st:=fun b hb=>⟨hb,kS (hst.st b hb).1⟩
 ver:=fun i hi=>by simp[Ctx.push,show ¬i=c.n by omega]
 blk:=fun i hi _=>by
  refine⟨by simp[Ctx.push,show ¬i=c.n by omega],by simp[Ctx.push,show ¬i=c.n by omega],fun hd=>?_⟩
  unfold bsize Ctx.push
  simp only
  rw[kS (hst.lt i hi hd)]
 os:=rfl
 tape:=rfl
 output:=rfl
 base:=rfl
theorem BRep.mono0{c c':Ctx}{i:Nat}{B:ABlk}(hx:Ext0 c c')(hi:i<c.n)(hv:∀i,i<c.n→c.ver i=0→c'.ver i=0)(hvi:c'.ver i=c.ver i)(hh:c.vd i=false→c'.w.heap[c.blk i]?=c.w.heap[c.blk i]?)(h:BRep c i B):BRep c' i B:=by
 obtain⟨e1,e2, -⟩:=hx.blk i hi hvi
 cases h with
 |cells ver cs vs e fr h0 hd h1 h2 h3 h4=>exact .cells ver cs vs e fr (hvi.trans h0) (e2.trans hd) (by rw[e1];exact(hh hd).trans h1) h2 h3 fun j x v p q=>(h4 j x v p q).mono0 hx
 |void ver h0 hd=>exact .void ver (hvi.trans h0) (e2.trans hd)
 |map es clock ents h0 hd h1 h2 h3=>exact .map es clock ents (hvi.trans h0) (e2.trans hd) (by rw[e1];exact(hh hd).trans h1) h2 fun j p e q r=>⟨(h3 j p e q r).1.mono0 hx,(h3 j p e q r).2.1.mono0 hx,(h3 j p e q r).2.2⟩
 |miter m since seen stepped h0 hd h1 h2 h3 h4=>
  obtain⟨m1,m2, -⟩:=hx.blk m h1 (by rw[hv m h1 h2,h2])
  exact .miter m since seen stepped (hvi.trans h0) (e2.trans hd) (Nat.lt_of_lt_of_le h1 hx.n) (hv m h1 h2) (m2.trans h3) (by rw[e1,m1];exact(hh hd).trans h4)
 |siter s pos h0 hd h1 hsl=>exact .siter s pos (hvi.trans h0) (e2.trans hd) (by rw[e1];exact(hh hd).trans h1) hsl
 |loop l α N st pe ps ars bd fn D ts h0 hd hl h1 h2 h3=>exact .loop l α N st pe ps ars bd fn D ts (hvi.trans h0) (e2.trans hd) (e1.trans hl) (by rw[e1];exact(hh hd).trans h1) h2 fun t=>(h3 t).mono0 hx
 |gone hd=>exact .gone (e2.trans hd)
theorem BRep.mono{c c':Ctx}{i:Nat}{B:ABlk}(hx:Ext c c')(hi:i<c.n)(hv:∀i,i<c.n→c.ver i=0→c'.ver i=0)(hvi:c'.ver i=c.ver i)(hh:c.vd i=false→c'.w.heap[c.blk i]?=c.w.heap[c.blk i]?)(h:BRep c i B):BRep c' i B:=
 h.mono0 hx.ext0 hi hv hvi hh
theorem St.push{c:Ctx}{H:AHeap}(hst:St c H)(o:Obj){B:ABlk}(v0:Nat:=0)(hB:BRep (c.push o v0) c.n B):St (c.push o v0) (H++[B])where
 n:=by simp[Ctx.push,hst.n]
 lt:=fun i hi hd=>by
  simp only[Ctx.push]at hi hd ⊢
  by_cases h:i=c.n
  ·simp[h]
  ·simp only[h,if_false,World.size_alloc]at hd ⊢
   have:=hst.lt i (by omega) hd
   omega
 inj:=fun i j b b' hi hj hb hb' di dj he=>by
  have hli:i<H.length+1:=by simpa using(List.getElem?_eq_some_iff.1 hi).1
  have hlj:j<H.length+1:=by simpa using(List.getElem?_eq_some_iff.1 hj).1
  have hn:=hst.n
  simp only[Ctx.push]at he di dj
  by_cases h1:i=c.n<;>by_cases h2:j=c.n
  ·omega
  ·simp only[h1,h2,if_true,if_false]at he dj
   have:=hst.lt j (by omega) dj
   omega
  ·simp only[h1,h2,if_true,if_false]at he di
   have:=hst.lt i (by omega) di
   omega
  ·simp only[h1,h2,if_false]at he di dj
   rw[List.getElem?_append_left (by omega)]at hi hj
   exact hst.inj i j b b' hi hj hb hb' di dj he
 st:=fun k hk=>by
  obtain⟨h1,h2⟩:=hst.st k hk
  refine⟨by simp[Ctx.push];omega,fun i b hi hb hd=>?_⟩
  have hli:i<H.length+1:=by simpa using(List.getElem?_eq_some_iff.1 hi).1
  have hn:=hst.n
  simp only[Ctx.push]at hd ⊢
  by_cases h:i=c.n
  ·simp only[h,if_true];omega
  ·simp only[h,if_false]at hd ⊢
   rw[List.getElem?_append_left (by omega)]at hi
   exact h2 i b hi hb hd
 rep:=fun i b hi=>by
  have hli:i<H.length+1:=by simpa using(List.getElem?_eq_some_iff.1 hi).1
  have hn:=hst.n
  by_cases h:i=c.n
  ·subst h
   rw[hn]at hi
   simp at hi
   subst hi
   exact hB
  ·rw[List.getElem?_append_left (by omega)]at hi
   exact(hst.rep i b hi).mono (Ext.push hst o v0) (by omega) (fun j hj hv=>by simp[Ctx.push,show ¬j=c.n by omega,hv]) (by simp[Ctx.push,h]) (fun hd=>kS (hst.lt i (by omega) hd))
def Ctx.bump(c:Ctx)(i:Nat)(w':World)(b':Nat):Ctx:=
 {w:=w',n:=c.n,blk:=fun j=>if j=i then b' else c.blk j,ver:=fun j=>if j=i then c.ver i+1 else c.ver j,vd:=fun j=>if j=i then false else c.vd j,stable:=c.stable,base:=c.base}
theorem St.bump_ext{c:Ctx}{H:AHeap}(hst:St c H){i:Nat}{B:ABlk}(hi:H[i]?=some B)(hl:B.live)(hv:c.ver i≠0)(w':World)(b':Nat)(hsz:c.w.heap.size≤w'.heap.size)
  (hnew:b'≥c.w.heap.size∨(b'=c.blk i∧c.vd i=false)) (hoth:∀b,b<c.w.heap.size→b≠b'→w'.heap[b]?=c.w.heap[b]?) (hos:w'.os=c.w.os) (htape:w'.tape=c.w.tape) (hout:w'.output=c.w.output):Ext c (c.bump i w' b'):=by
 have hn:=hst.n
 have hne:∀k,c.stable k→k≠b':=by
  intro k hk e
  rcases hnew with h|⟨h,hd⟩
  ·have:=(hst.st k hk).1;omega
  ·exact(hst.st k hk).2 i B hi hl hd (by rw[←h,←e])
 refine⟨Nat.le_refl _,hsz,fun b hb=>⟨hb,hoth b (hst.st b hb).1 (hne b hb)⟩,fun j hj=>?_,fun j hj he=>?_,hos,htape,hout,rfl⟩
 ·simp only[Ctx.bump]
  split
  ·rename_i h;subst h;omega
  ·omega
 ·simp only[Ctx.bump]at he
  by_cases h:j=i
  ·subst h
   simp at he
  ·refine⟨by simp[Ctx.bump,h],by simp[Ctx.bump,h],fun hd=>?_⟩
   have hjb:=hst.lt j hj hd
   by_cases hjl:c.blk j=b'
   ·rcases hnew with h1|⟨h1,h2⟩
    ·omega
    · -- another block at the same place: then it is not live, or it is i
      cases hHj:H[j]? with
      |none=>rw[List.getElem?_eq_none_iff]at hHj;omega
      |some Bj=>
       by_cases hbl:Bj.live
       ·exact absurd (hst.inj j i Bj B hHj hi hbl hl hd h2 (by rw[hjl,h1])) h
       ·have:=hst.rep j Bj hHj
        cases this with
        |gone hd'=>rw[hd]at hd';cases hd'
        |_=>exact absurd trivial hbl
   ·simp only[bsize,Ctx.bump]
    rw[hoth _ hjb hjl]
theorem St.bump{c:Ctx}{H:AHeap}(hst:St c H){i:Nat}{B B':ABlk}(hi:H[i]?=some B)(hl:B.live)(hv:c.ver i≠0)(w':World)(b':Nat)(hsz:c.w.heap.size≤w'.heap.size)(hb':b'<w'.heap.size)
  (hnew:b'≥c.w.heap.size∨(b'=c.blk i∧c.vd i=false)) (hoth:∀b,b<c.w.heap.size→b≠b'→w'.heap[b]?=c.w.heap[b]?) (hos:w'.os=c.w.os) (htape:w'.tape=c.w.tape) (hout:w'.output=c.w.output)
  (hB:BRep (c.bump i w' b') i B'):Ext c (c.bump i w' b')∧St (c.bump i w' b') (aD H i B'):=by
 have hlt:i<H.length:=(List.getElem?_eq_some_iff.1 hi).1
 have hn:=hst.n
 have hne:∀k,c.stable k→k≠b':=by
  intro k hk e
  rcases hnew with h|⟨h,hd⟩
  ·have:=(hst.st k hk).1;omega
  ·exact(hst.st k hk).2 i B hi hl hd (by rw[←h,←e])
 have hx:=hst.bump_ext hi hl hv w' b' hsz hnew hoth hos htape hout
 refine⟨hx,?_⟩
 have hfar:∀j Bj,j≠i→H[j]?=some Bj→Bj.live→c.vd j=false→c.blk j≠b':=by
  intro j Bj hji hj hbl hd e
  have hjn:j<c.n:=by rw[hn];exact(List.getElem?_eq_some_iff.1 hj).1
  rcases hnew with h1|⟨h1,h2⟩
  ·have:=hst.lt j hjn hd;omega
  ·exact hji (hst.inj j i Bj B hj hi hbl hl hd h2 (by rw[e,h1]))
 refine⟨by simp[aD,Ctx.bump,hn],fun j hj hdj=>?_,fun j k b b'' hj hk hb hb'' dj dk he=>?_,fun k hk=>?_,fun j b hj=>?_⟩
 ·simp only[Ctx.bump]at hj hdj ⊢
  by_cases h:j=i
  ·simp only[h,if_true];exact hb'
  ·simp only[h,if_false]at hdj ⊢
   have:=hst.lt j hj hdj
   omega
 ·simp only[Ctx.bump,aD]at *
  by_cases h1:j=i<;>by_cases h2:k=i
  ·omega
  ·simp only[h1,h2,if_true,if_false]at he dk
   rw[List.getElem?_set_ne (by omega)]at hk
   exact absurd he.symm (hfar k b'' h2 hk hb'' dk)
  ·simp only[h1,h2,if_true,if_false]at he dj
   rw[List.getElem?_set_ne (by omega)]at hj
   exact absurd he (hfar j b h1 hj hb dj)
  ·simp only[h1,h2,if_false]at he dj dk
   rw[List.getElem?_set_ne (by omega)]at hj hk
   exact hst.inj j k b b'' hj hk hb hb'' dj dk he
 ·obtain⟨h1,h2⟩:=hst.st k hk
  refine⟨by simp only[Ctx.bump];omega,fun j b hj hb hdj=>?_⟩
  simp only[Ctx.bump,aD]at *
  by_cases h:j=i
  ·simp only[h,if_true];exact fun e=>hne k hk e.symm
  ·simp only[h,if_false]at hdj ⊢
   rw[List.getElem?_set_ne (by omega)]at hj
   exact h2 j b hj hb hdj
 ·by_cases h:j=i
  ·subst h
   simp[aD,hlt]at hj
   subst hj
   exact hB
  ·simp only[aD]at hj
   rw[List.getElem?_set_ne (by omega)]at hj
   have h1:=hst.rep j b hj
   have hjn:j<c.n:=by rw[hn];exact(List.getElem?_eq_some_iff.1 hj).1
   refine h1.mono hx hjn (fun k _ hk0=>?_) (by simp[Ctx.bump,h]) (fun hdj=>?_)
   ·simp only[Ctx.bump]
    have:k≠i:=fun e=>hv (e▸hk0)
    simp[this,hk0]
   ·by_cases hbl:b.live
    ·exact hoth _ (hst.lt j hjn hdj) (hfar j b h hj hbl hdj)
    ·cases h1 with
     |gone hd'=>rw[hdj]at hd';cases hd'
     |_=>exact absurd trivial hbl
theorem St.update{c:Ctx}{H:AHeap}(hst:St c H){i:Nat}{B B':ABlk}(hi:H[i]?=some B)(hl:B.live)(hd:c.vd i=false)(w':World)(hsz:w'.heap.size=c.w.heap.size)
  (hoth:∀b,b≠c.blk i→w'.heap[b]?=c.w.heap[b]?) (hbs:bsize w' (c.blk i)=bsize c.w (c.blk i)) (hos:w'.os=c.w.os) (htape:w'.tape=c.w.tape) (hout:w'.output=c.w.output)
  (hB:BRep {c with w:=w'} i B'):Ext c {c with w:=w'}∧St {c with w:=w'} (aD H i B'):=by
 have hlt:i<H.length:=(List.getElem?_eq_some_iff.1 hi).1
 have hx:Ext c {c with w:=w'}:=by
  refine⟨Nat.le_refl _,by simp[hsz],fun b hb=>⟨hb,hoth b fun e=>(hst.st b hb).2 i B hi hl hd e.symm⟩,fun _ _=>Nat.le_refl _,fun j hj _=>⟨rfl,rfl,fun _=>?_⟩,hos,htape,hout,rfl⟩
  by_cases h:c.blk j=c.blk i
  ·simp only[h];exact hbs
  ·simp only[bsize];rw[hoth _ h]
 refine⟨hx,?_⟩
 refine⟨by simp[aD,hst.n],fun j hj hdj=>by simpa[hsz]using hst.lt j hj hdj,fun j k b b' hj hk hb hb' dj dk he=>?_,fun k hk=>?_,fun j b hj=>?_⟩
 ·by_cases h1:j=i
  ·by_cases h2:k=i
   ·omega
   ·subst h1
    simp only[aD]at hk
    rw[List.getElem?_set_ne (by omega)]at hk
    exact hst.inj j k B b' hi hk hl hb' dj dk he
  ·simp only[aD]at hj hk
   rw[List.getElem?_set_ne (by omega)]at hj
   by_cases h2:k=i
   ·subst h2
    exact hst.inj j k b B hj hi hb hl dj dk he
   ·rw[List.getElem?_set_ne (by omega)]at hk
    exact hst.inj j k b b' hj hk hb hb' dj dk he
 ·obtain⟨h1,h2⟩:=hst.st k hk
  refine⟨by simpa[hsz]using h1,fun j b hj hb hdj=>?_⟩
  by_cases h:j=i
  ·subst h;exact h2 j B hi hl hdj
  ·simp only[aD]at hj
   rw[List.getElem?_set_ne (by omega)]at hj
   exact h2 j b hj hb hdj
 ·by_cases h:j=i
  ·subst h
   simp[aD,hlt]at hj
   subst hj
   exact hB
  ·simp only[aD]at hj
   rw[List.getElem?_set_ne (by omega)]at hj
   have h1:=hst.rep j b hj
   have hjn:j<c.n:=by rw[hst.n];exact(List.getElem?_eq_some_iff.1 hj).1
   by_cases hbl:b.live
   ·exact h1.mono hx hjn (fun _ _ hv=>hv) rfl (fun hdj=>hoth _ fun e=>h (hst.inj j i b B hj hi hbl hl hdj hd e))
   ·cases h1 with
    |gone hd=>exact .gone hd
    |_=>exact absurd trivial hbl
def AV.one:AV→Bool
 |.agg _|.tup _|.opt _ _|.top=>false
 |_=>true
theorem Rep.one{c:Ctx}{x:AV}{v:Value}(h:Rep c x v)(ho:x.one=true):v.oneCell'=true:=by
 cases h<;>first|rfl|assumption|(simp[AV.one]at ho)
theorem cells_one{v:Value}(h:v.oneCell'=true):v.cells= #[v]:=by
 cases v<;>first|rfl|(simp[Value.oneCell']at h)
def AV.known:AV→Bool
 |.agg _=>true
 |x=>x.one
theorem Rep.cells{c:Ctx}{x:AV}{v:Value}(h:Rep c x v)(hk:x.known=true):
  v.cells.size=x.cells.length∧∀(i:Nat) (y:AV) (u:Value),x.cells[i]?=some y→v.cells[i]?=some u→Rep c y u:=by
 cases x with
 |agg cs=>
  obtain⟨vs,rfl,h1,h2⟩:=h.agg_inv
  exact⟨h1,h2⟩
 |tup _=>simp[AV.known,AV.one]at hk
 |opt _ _=>simp[AV.known,AV.one]at hk
 |top=>simp[AV.known,AV.one]at hk
 |_=>
  have ho:=h.one rfl
  rw[cells_one ho]
  refine⟨rfl,fun i y u h1 h2=>?_⟩
  cases i with
  |zero=>simp[AV.cells]at h1 h2;subst h1;subst h2;exact h
  |succ i=>simp[AV.cells]at h1
def cT(cs:List AV)(off:Nat)(xs:List AV):List AV:=cs.take off++xs++cs.drop (off+xs.length)
def bCv(vs:Array Value)(off:Nat):List Value→Array Value
 |[]=>vs
 |x::xs=>bCv (vs.setIfInBounds off x) (off+1) xs
theorem zA(vs:Array Value)(off:Nat)(xs:List Value):(bCv vs off xs).size=vs.size:=by
 induction xs generalizing vs off with
 |nil=>rfl
 |cons x xs ih=>simp[bCv,ih]
theorem get_spliceV(vs:Array Value)(off:Nat)(xs:List Value)(h:off+xs.length≤vs.size)(j:Nat):
  (bCv vs off xs)[j]?=if off≤j∧j<off+xs.length then xs[j-off]? else vs[j]?:=by
 induction xs generalizing vs off with
 |nil=>simp[bCv];omega
 |cons x xs ih=>
  simp only[List.length_cons]at h
  rw[bCv,ih _ _ (by simp;omega),Array.getElem?_setIfInBounds]
  by_cases h1:j=off
  ·subst h1
   have h5:j<vs.size:=by omega
   have h6:¬(j+1≤j):=by omega
   simp[h5,h6]
  ·by_cases h2:off+1≤j∧j<off+1+xs.length
   ·have e:j-off=(j-(off+1))+1:=by omega
    have h3:off≤j∧j<off+(xs.length+1):=by omega
    simp[h2,h3,e]
   ·have h3:¬(off≤j∧j<off+(xs.length+1)):=by omega
    have h4:¬off=j:=by omega
    simp[h2,h3,h4]
theorem zB(vs:Array Value)(off:Nat)(xs:List Value)(n:Nat)(hn:xs.length=n)(h:off+n≤vs.size)(j:Nat):
  (bCv vs off xs)[j]?=if off≤j∧j<off+n then xs[j-off]? else vs[j]?:=by
 subst hn
 exact get_spliceV vs off xs h j
def World.putCells(w:World)(b:Nat)(vs:Array Value)(e:TypeId)(fr:Nat×Nat):World:={w with heap:=w.heap.setIfInBounds b (.cells vs e fr)}
theorem heap_putCells_same{w:World}{b:Nat}{vs:Array Value}{e:TypeId}{fr:Nat×Nat}(h:b<w.heap.size):(World.putCells w b vs e fr).heap[b]?=some (.cells vs e fr):=by
 simp[World.putCells,h]
theorem heap_putCells_other{w:World}{b k:Nat}{vs:Array Value}{e:TypeId}{fr:Nat×Nat}(h:k≠b):(World.putCells w b vs e fr).heap[k]?=w.heap[k]?:=by
 simp[World.putCells,Array.getElem?_setIfInBounds_ne (Ne.symm h)]
theorem setCell_cells{w:World}{b off:Nat}{vs:Array Value}{e:TypeId}{fr:Nat×Nat}(h:w.heap[b]?=some (.cells vs e fr))(v:Value):
  w.setCell ⟨b,off,none⟩ v=World.putCells w b (vs.setIfInBounds off v) e fr:=by
 obtain⟨hlt,he⟩:=Array.getElem?_eq_some_iff.1 h
 unfold World.setCell World.putCells
 congr 1
 apply Array.ext_getElem?
 intro i
 rw[Array.getElem?_modify,Array.getElem?_setIfInBounds]
 by_cases hi:b=i
 ·subst hi
  simp[hlt,he]
 ·simp[hi]
theorem putCells_self{w:World}{b:Nat}{vs:Array Value}{e:TypeId}{fr:Nat×Nat}(h:w.heap[b]?=some (.cells vs e fr)):World.putCells w b vs e fr=w:=by
 obtain⟨hlt,he⟩:=Array.getElem?_eq_some_iff.1 h
 have:w.heap.setIfInBounds b (.cells vs e fr)=w.heap:=by
  apply Array.ext_getElem?
  intro i
  rw[Array.getElem?_setIfInBounds]
  by_cases hi:b=i
  ·subst hi
   simp[hlt,he]
  ·simp[hi]
 unfold World.putCells
 rw[this]
theorem putCells_putCells{w:World}{b:Nat}{vs us:Array Value}{e:TypeId}{fr:Nat×Nat}:World.putCells (World.putCells w b vs e fr) b us e fr=World.putCells w b us e fr:=by
 unfold World.putCells
 simp
theorem run_storeCells{w:World}{b off:Nat}{vs:Array Value}{e:TypeId}{fr:Nat×Nat}(xs:List Value)(hb:w.heap[b]?=some (.cells vs e fr))(hle:off+xs.length≤vs.size)(hf:vs.size≤fr.1∨fr.2≤fr.1)
  (ho:∀x∈xs,x.oneCell'=true):(storeCells ⟨b,off,none⟩ xs).run P w=.ok () (World.putCells w b (bCv vs off xs) e fr):=by
 have key:∀(xs:List Value) (i:Nat) (w:World) (vs:Array Value),w.heap[b]?=some (.cells vs e fr)→off+i+xs.length≤vs.size→(vs.size≤fr.1∨fr.2≤fr.1)→(∀x∈xs,x.oneCell'=true)→
   (storeCells ⟨b,off,none⟩ xs i).run P w=.ok () (World.putCells w b (bCv vs (off+i) xs) e fr):=by
  intro xs
  induction xs with
  |nil=>
   intro i w vs hb _ _ _
   simp only[storeCells,Sem.run_pure,bCv]
   rw[putCells_self hb]
  |cons x xs ih=>
   intro i w vs hb hle hf ho
   simp only[List.length_cons]at hle
   obtain⟨hlt,he⟩:=Array.getElem?_eq_some_iff.1 hb
   have hcell:w.cell? ⟨b,off+i,none⟩=some (vs[off+i]'(by omega)):=by rw[jO hb];exact Array.getElem?_eq_getElem (by omega)
   have hfr:w.frozen? ⟨b,off+i,none⟩=false:=by
    simp only[World.frozen?,hb]
    by_cases h1:fr.1≤off+i<;>by_cases h2:off+i<fr.2<;>simp[h1,h2]
    omega
   have h1:(store (Addr.mk b off none|>.add i) x).run P w=.ok () (World.putCells w b (vs.setIfInBounds (off+i) x) e fr):=by
    rw[run_store P w _ x .plain (ho x (by simp)),rB,hcell]
    simp only[hfr,Bool.false_eq_true,if_false]
    rw[setCell_cells hb]
   simp only[storeCells,Sem.run_bind,h1,Result.andThen_ok]
   rw[ih (i+1) _ (vs.setIfInBounds (off+i) x) (heap_putCells_same hlt) (by simp;omega) (by simpa using hf) (fun y hy=>ho y (by simp[hy])),putCells_putCells]
   rfl
 exact key xs 0 w vs hb (by simpa using hle) hf ho
def aBz(P:Program)(t:TypeId)(x y:AV)(H:AHeap):Res:=
 match x with
 |.ref i v off=>
  match hget H i with
  |.cells ver cs=>⟨.top,aD H i (.cells ver (cT cs off y.cells)),v=ver∧off+y.cells.length≤cs.length∧(P.underlying t).isSome=true∧P.cellsOf t=y.cells.length∧y.known=true∧y.cells.all AV.one=true⟩
  |_=>⟨.top,H,False⟩
 |_=>⟨.top,H,False⟩
theorem length_splice{cs:List AV}{off:Nat}{xs:List AV}(h:off+xs.length≤cs.length):(cT cs off xs).length=cs.length:=by
 simp[cT];omega
theorem get_splice{cs:List AV}{off:Nat}{xs:List AV}(h:off+xs.length≤cs.length)(j:Nat):
  (cT cs off xs)[j]?=if off≤j∧j<off+xs.length then xs[j-off]? else cs[j]?:=by
 unfold cT
 by_cases h1:j<off
 ·have h2:¬(off≤j∧j<off+xs.length):=by omega
  simp only[h2,if_false]
  rw[List.append_assoc,List.getElem?_append_left (by simp;omega),List.getElem?_take_of_lt h1]
 ·by_cases h2:j<off+xs.length
  ·have h3:off≤j∧j<off+xs.length:=by omega
   simp only[h3,and_self,if_true]
   rw[List.append_assoc,List.getElem?_append_right (by simp;omega),List.getElem?_append_left (by simp;omega)]
   congr 1
   simp;omega
  ·have h3:¬(off≤j∧j<off+xs.length):=by omega
   simp only[h3,if_false]
   rw[List.getElem?_append_right (by simp;omega),List.getElem?_drop]
   congr 1
   simp;omega
theorem St.putCells{c:Ctx}{H:AHeap}(hst:St c H){i ver off:Nat}{cs:List AV}(hi:hget H i=.cells ver cs)(hd:c.vd i=false){ys:List AV}{us:List Value}(hle:off+ys.length≤cs.length)(hul:us.length=ys.length)
  (hr:∀(k:Nat) (y:AV) (u:Value),ys[k]?=some y→us[k]?=some u→Rep c y u) (ho:∀u∈us,u.oneCell'=true):
  ∃w',(storeCells ⟨c.blk i,off,none⟩ us).run P c.w=.ok () w'∧Ext c {c with w:=w'}∧St {c with w:=w'} (aD H i (.cells ver (cT cs off ys))):=by
 obtain⟨hin,hver,vs,e,fr,hb,hl,hf,hrep⟩:=hst.cells hi hd
 obtain⟨hlt,he⟩:=Array.getElem?_eq_some_iff.1 hb
 have hrun:=run_storeCells (P:=P) (off:=off) us hb (by omega) hf ho
 refine⟨_,hrun,?_⟩
 have hbs:bsize (World.putCells c.w (c.blk i) (bCv vs off us) e fr) (c.blk i)=bsize c.w (c.blk i):=by
  simp[bsize,heap_putCells_same hlt,hb,zA]
 have hx:Ext c {c with w:=World.putCells c.w (c.blk i) (bCv vs off us) e fr}:=by
  refine⟨Nat.le_refl _,by simp[World.putCells],fun b hb'=>⟨hb',heap_putCells_other fun e=>(hst.st b hb').2 i _ (cZ hi trivial) trivial hd e.symm⟩,fun _ _=>Nat.le_refl _,fun j hj _=>⟨rfl,rfl,fun _=>?_⟩,rfl,rfl,rfl,rfl⟩
  by_cases h:c.blk j=c.blk i
  ·simp only[h];exact hbs
  ·simp only[bsize];rw[heap_putCells_other h]
 refine hst.update (cZ hi trivial) trivial hd _ (by simp[World.putCells]) (fun b hb'=>heap_putCells_other hb') hbs rfl rfl rfl ?_
 refine .cells _ _ (bCv vs off us) e fr hver hd (heap_putCells_same hlt) (by rw[length_splice hle,zA];exact hl) (by rw[zA];exact hf)fun j x v h1 h2=>?_
 rw[get_splice hle]at h1
 rw[get_spliceV _ _ _ (by omega),hul]at h2
 refine Rep.mono hx ?_
 split at h1
 ·rename_i hc
  simp only[hc,and_self,if_true]at h2
  exact hr _ _ _ h1 h2
 ·rename_i hc
  simp only[hc,if_false]at h2
  exact hrep j x v h1 h2
theorem aHO{c:Ctx}{H:AHeap}{t:TypeId}{x y:AV}{vx vy:Value}(hst:St c H)(hx:Rep c x vx)(hy:Rep c y vy)(hs:(aBz P t x y H).s):
  ∃w',(Instr.storeAt t vx vy).run P c.w=.ok () w'∧Ext c {c with w:=w'}∧St {c with w:=w'} (aBz P t x y H).H:=by
 unfold aBz at *
 split at hs
 ·rename_i i v off
  split at hs
  ·rename_i ver cs hh
   obtain⟨hv,hle,hu,hsz,hk,ho⟩:=hs
   obtain⟨d,hu⟩:=Option.isSome_iff_exists.1 hu
   have hver:=hst.ver_eq hh
   simp only[hh]
   cases hx with
   |ref _ _ _ _ _ _ _ hval=>
    obtain⟨hd,hval⟩:=hval (by omega)
    rw[hval]
    obtain⟨h1,h2⟩:=hy.cells hk
    have hone:∀u∈vy.cells.toList,u.oneCell'=true:=by
     intro u hu'
     obtain⟨k,hk1,hk2⟩:=List.getElem_of_mem hu'
     simp only[Array.length_toList]at hk1
     have hy1:y.cells[k]?=some (y.cells[k]'(by omega)):=List.getElem?_eq_getElem (by omega)
     have:=h2 k _ u hy1 (by rw[←hk2];simp)
     exact this.one (List.all_eq_true.1 ho _ (List.getElem_mem _))
    obtain⟨w',hrun,h3,h4⟩:=hst.putCells (P:=P) hh hd (off:=off) (ys:=y.cells) (us:=vy.cells.toList) hle (by simpa using h1) (fun k z u p q=>h2 k z u p (by simpa using q)) hone
    refine⟨w',?_,h3,h4⟩
    simp[Instr.storeAt,Instr.sureAddr,storeVar,mL hu,hsz,h1,hrun]
  ·exact hs.elim
 ·exact hs.elim
end Go.Aw
/- More operations of the abstract machine: boxes, built values, addresses, slices, texts. No condition. -/
namespace Go.Aw
open Go
set_option linter.unusedSimpArgs false
variable {P:Program}
def bDW(x:AV)(H:AHeap):Res:=⟨.ref H.length 0 0,H++[.cells 0 x.cells],x.known=true⟩
theorem push_ref{c:Ctx}(o:Obj):Rep (c.push o) (.ref c.n 0 0) (.pointer (some ⟨c.w.heap.size,0,none⟩)):=
 .ref _ _ _ _ (by simp[Ctx.push]) (by simp) rfl (fun _=>by simp[Ctx.push])
theorem aMm{c:Ctx}{H:AHeap}{t:TypeId}{x:AV}{v:Value}(hst:St c H)(hx:Rep c x v)(hs:(bDW x H).s):
  Runs P (Instr.box t v) c (bDW x H).v (bDW x H).H:=by
 refine⟨c.push (.cells v.cells t),.pointer (some ⟨c.w.heap.size,0,none⟩),?_,?_,Ext.push hst _,?_⟩
 ·simp[Instr.box,newVar,newRow,Ctx.push]
 ·refine hst.push _ 0 ?_
  obtain⟨h1,h2⟩:=hx.cells hs
  refine .cells _ _ v.cells t (0,0) (by simp[Ctx.push]) (by simp[Ctx.push]) (by simp only[Ctx.push,if_true];exact jP _ _) (by omega) (.inr (Nat.le_refl _))fun j y u p q=>(h2 j y u p q).mono (Ext.push hst _)
 ·have:=push_ref (c:=c) (.cells v.cells t)
  rw[hst.n]at this
  exact this
def aU(P:Program)(t:TypeId):AV:=
 match P.info? t with
 |some i=>(match i.zero with|some z=>pT z|none=>.top)
 |none=>.top
theorem sT{t:TypeId}(h:(aU P t).known=true)(c:Ctx):∃z,(∀w,(zeroValue t).run P w=.ok z w)∧Rep c (aU P t) z:=by
 unfold aU at *
 cases hi:P.info? t with
 |none=>simp[hi,AV.known,AV.one]at h
 |some i=>
  cases hz:i.zero with
  |none=>simp[hi,hz,AV.known,AV.one]at h
  |some z=>
   simp only[hi,hz]
   exact⟨z,fun w=>by simp[zeroValue,typeInfo,hi,hz],sM c z⟩
def aMn(P:Program)(t:TypeId)(H:AHeap):Res:=bDW (aU P t) H
theorem aHP{c:Ctx}{H:AHeap}{t:TypeId}(hst:St c H)(hs:(aMn P t H).s):Runs P (Instr.alloc t true (.tuple #[])) c (aMn P t H).v (aMn P t H).H:=by
 obtain⟨z,h1,h2⟩:=sT (P:=P) hs c
 obtain⟨c',v,k1,k2,k3,k4⟩:=aMm (P:=P) (t:=t) hst h2 hs
 refine⟨c',v,?_,k2,k3,k4⟩
 simp only[Instr.box,Sem.run_bind]at k1
 simp only[Instr.alloc,Sem.run_bind,h1,Result.andThen_ok]
 exact k1
def bDX(P:Program)(d:TypeDesc)(i:Nat):Option (Nat×Nat):=
 match d with
 |.struct fs=>match fs[i]? with
  |some f=>some (f.offset,P.cellsOf f.type)
  |none=>none
 |.array _ e=>some (i * P.cellsOf e,P.cellsOf e)
 |_=>none
def bEE(pl:Nat→Option (Nat×Nat)):List AV→List (Nat×AV)→Option (List AV)
 |cs,[]=>some cs
 |cs,(i,x)::r=>
  match pl i with
  |some (off,n)=>bif (x.cells.length==n)&&Nat.ble (off+n) cs.length&&x.known then bEE pl (cT cs off x.cells) r else none
  |none=>none
theorem aHQ(cells:Array Value)(off:Nat)(v:Array Value):
  v.zipIdx.foldl (fun cs (p:Value×Nat)=>cs.setIfInBounds (off+p.2) p.1) cells=bCv cells off v.toList:=by
 rw[←Array.foldl_toList,Array.toList_zipIdx]
 have key:∀(l:List Value) (k:Nat) (cells:Array Value),(l.zipIdx k).foldl (fun cs (p:Value×Nat)=>cs.setIfInBounds (off+p.2) p.1) cells=bCv cells (off+k) l:=by
  intro l
  induction l with
  |nil=>intro k cells;rfl
  |cons x xs ih=>
   intro k cells
   simp only[List.zipIdx_cons,List.foldl_cons,bCv]
   exact ih (k+1) _
 exact key v.toList 0 cells
theorem afill_sound{c:Ctx}{pl:Nat→Option (Nat×Nat)}:∀(ps:List (Nat×AV)) (vs:List (Nat×Value)) (cs:List AV) (us:Array Value) (r:List AV),vs.map (·.1)=ps.map (·.1)→
  (∀(k:Nat) (p:Nat×AV) (q:Nat×Value),ps[k]?=some p→vs[k]?=some q→Rep c p.2 q.2)→us.size=cs.length→
  (∀(j:Nat) (x:AV) (v:Value),cs[j]?=some x→us[j]?=some v→Rep c x v)→bEE pl cs ps=some r→
  ∃ws,Instr.fill pl us vs=some ws∧ws.size=r.length∧r.length=cs.length∧∀(j:Nat) (x:AV) (v:Value),r[j]?=some x→ws[j]?=some v→Rep c x v
 |[],[],cs,us,r,_,_,hsz,hr,h=>by
  simp only[bEE,Option.some.injEq]at h
  subst h
  exact⟨us,rfl,hsz,rfl,hr⟩
 |[],_::_,_,_,_,hm,_,_,_,_=>by simp at hm
 |_::_,[],_,_,_,hm,_,_,_,_=>by simp at hm
 |(i,x)::ps,(i',v)::vs,cs,us,r,hm,hp,hsz,hr,h=>by
  simp only[List.map_cons,List.cons.injEq]at hm
  obtain⟨rfl,hm⟩:=hm
  unfold bEE at h
  cases hpl:pl i' with
  |none=>rw[hpl]at h;cases h
  |some on=>
   obtain⟨off,n⟩:=on
   rw[hpl]at h
   simp only at h
   cases hc:((x.cells.length==n)&&Nat.ble (off+n) cs.length&&x.known)with
   |false=>rw[hc]at h;cases h
   |true=>
    rw[hc,cond_true]at h
    simp only[Bool.and_eq_true,beq_iff_eq,Nat.ble_eq]at hc
    obtain⟨⟨h1,h2⟩,h3⟩:=hc
    have hxv:Rep c x v:=hp 0 _ _ rfl rfl
    obtain⟨q1,q2⟩:=hxv.cells h3
    have hle:off+x.cells.length≤cs.length:=by omega
    have hgoal:=afill_sound ps vs (cT cs off x.cells) (bCv us off v.cells.toList) r hm (fun k p q hk hk'=>hp (k+1) p q hk hk')
     (by rw[zA,length_splice hle];exact hsz)
     (fun j y u hj hj'=>by
      rw[get_splice hle]at hj
      rw[zB _ _ _ x.cells.length (by simpa using q1) (by omega)]at hj'
      split at hj
      ·rename_i hcc
       rw[if_pos hcc]at hj'
       exact q2 _ _ _ hj (by simpa using hj')
      ·rename_i hcc
       rw[if_neg hcc]at hj'
       exact hr _ _ _ hj hj') h
    obtain⟨ws,g1,g2,g3,g4⟩:=hgoal
    refine⟨ws,?_,g2,by rw[g3,length_splice hle],g4⟩
    unfold Instr.fill
    rw[hpl]
    have hcond:¬((decide (v.cells.size≠n)||decide (off+v.cells.size>us.size))=true):=by simp;omega
    simp only[hcond,if_false]
    rw[aHQ]
    exact g1
def aE9(P:Program)(t:TypeId)(ps:List (Nat×AV)):BR:=
 match P.underlying t with
 |some d=>match bEE (bDX P d) (aU P t).cells ps with
  |some cs=>⟨.agg cs,(aU P t).known=true∧TypeDesc.isAgg d=true⟩
  |none=>tP
 |none=>tP
theorem mapM_places(fs:List Field)(w:World)(h:∀f∈fs,∃d,P.underlying f.type=some d):
  (fs.mapM (fun f=>(do pure (f.offset,←sizeOf f.type):Sem (Nat×Nat)))).run P w=.ok (fs.map fun f=>(f.offset,P.cellsOf f.type)) w:=by
 induction fs with
 |nil=>simp
 |cons f fs ih=>
  obtain⟨d,hd⟩:=h f (by simp)
  have e:=ih (fun g hg=>h g (by simp[hg]))
  simp only[List.mapM_cons,Sem.run_bind,mL hd,Result.andThen_ok,Sem.run_pure,e,List.map_cons]
def aYs(P:Program)(d:TypeDesc):Bool:=
 match d with
 |.struct fs=>fs.toList.all fun f=>(P.underlying f.type).isSome
 |.array _ e=>(P.underlying e).isSome
 |_=>false
theorem aHR{c:Ctx}{t:TypeId}{ps:List (Nat×AV)}{vs:Array (Nat×Value)}(hm:vs.toList.map (·.1)=ps.map (·.1))
  (hp:∀(k:Nat) (p:Nat×AV) (q:Nat×Value),ps[k]?=some p→vs[k]?=some q→Rep c p.2 q.2) (hs:(aE9 P t ps).s) (hf:∀d,P.underlying t=some d→aYs P d=true) (w:World):
  ∃v,(Instr.build t vs).run P w=.ok v w∧Rep c (aE9 P t ps).v v:=by
 unfold aE9 at *
 cases hu:P.underlying t with
 |none=>simp[hu,tP]at hs
 |some d=>
  simp only[hu]at hs ⊢
  cases hfl:bEE (bDX P d) (aU P t).cells ps with
  |none=>simp[hfl,tP]at hs
  |some cs=>
   simp only[hfl]at hs ⊢
   obtain⟨hk,hag⟩:=hs
   obtain⟨z,hz1,hz2⟩:=sT (P:=P) hk c
   obtain⟨q1,q2⟩:=hz2.cells hk
   obtain⟨ws,g1,g2,g3,g4⟩:=afill_sound ps vs.toList (aU P t).cells z.cells cs hm (fun k p q h1 h2=>hp k p q h1 (by simpa using h2)) q1 q2 hfl
   have hfo:=hf d hu
   refine⟨.agg ws,?_,.agg _ _ g2 g4⟩
   cases d<;>simp only[TypeDesc.isAgg,Bool.false_eq_true]at hag
   case struct fs=>
    have hall:∀f∈fs.toList,∃d,P.underlying f.type=some d:=fun f hf'=>Option.isSome_iff_exists.1 (by simpa using List.all_eq_true.1 hfo f hf')
    have e:=mapM_places (P:=P) fs.toList w hall
    have hpl:(fun x=>((fs.toList.map fun f=>(f.offset,P.cellsOf f.type)).toArray)[x]?)=bDX P (.struct fs):=by
     funext x
     simp only[bDX]
     rw[List.getElem?_toArray,List.getElem?_map,Array.getElem?_toList]
     cases fs[x]?<;>rfl
    simp only[Instr.build,Sem.run_bind,hz1,Result.andThen_ok,run_underlying hu,Array.mapM_eq_mapM_toList,Sem.run_map,e]
    rw[hpl,g1]
    rfl
   case array n el=>
    obtain⟨d',hd'⟩:=Option.isSome_iff_exists.1 hfo
    have hpl:(fun i=>some (i * P.cellsOf el,P.cellsOf el))=bDX P (.array n el):=rfl
    simp only[Instr.build,Sem.run_bind,hz1,Result.andThen_ok,run_underlying hu,mL hd']
    rw[hpl,g1]
    rfl
def uK(P:Program)(t:TypeId)(f:Nat)(x:AV):BR:=
 match P.underlying t with
 |some (.struct fs)=>
  match fs[f]? with
  |some fd=>
   match x with
   |.ref i v off=>⟨.ref i v (off+fd.offset),(P.underlying fd.type).isSome=true∧P.cellsOf fd.type≠0⟩
   |.cptr cs=>⟨.cptr (cs.drop fd.offset),(P.underlying fd.type).isSome=true∧P.cellsOf fd.type≠0⟩
   |_=>tP
  |none=>tP
 |_=>tP
theorem Addr.add_add{a:Addr}(h:a.spot=none)(m n:Nat):(a.add m).add n=a.add (m+n):=by
 obtain⟨b,o,s⟩:=a
 simp only at h
 subst h
 unfold Addr.add
 by_cases hm:m=0<;>by_cases hn:n=0<;>simp[hm,hn,Nat.add_assoc]
theorem Addr.add_spot{a:Addr}(h:a.spot=none)(m:Nat):(a.add m).spot=none:=by
 unfold Addr.add
 split
 ·exact h
 ·rfl
theorem rep_cptr_drop{c:Ctx}{cs:List AV}{a:Addr}(h:Rep c (.cptr cs) (.pointer (some a)))(n:Nat):Rep c (.cptr (cs.drop n)) (.pointer (some (a.add n))):=by
 cases h with
 |cptr _ _ vs hspot hst hc hr=>
  refine .cptr _ _ (fun j=>vs (n+j)) (Addr.add_spot hspot n) (by rw[Addr.add_block];exact hst) (fun j hj=>?_) (fun j x hx=>?_)
  ·rw[Addr.add_add hspot]
   simp at hj
   exact hc _ (by omega)
  ·rw[List.getElem?_drop]at hx
   exact hr _ _ hx
theorem aAr{c:Ctx}{i v off:Nat}{val:Value}(h:Rep c (.ref i v off) val)(hv:c.ver i=v)(n:Nat):∃a,val=.pointer (some a)∧Rep c (.ref i v (off+n)) (.pointer (some (a.add n))):=by
 cases h with
 |ref _ _ _ _ hi hv' ho hval=>
  obtain⟨hd,hval⟩:=hval hv
  refine⟨_,hval,.ref _ _ _ _ hi hv' rfl fun _=>⟨hd,?_⟩⟩
  rw[rB]
def tQ(H:AHeap)(x:AV):Prop:=
 match x with
 |.ref i v _=>match hget H i with
  |.cells ver _=>v=ver
  |_=>False
 |.osl _ i v _ _ _=>match hget H i with
  |.cells ver _=>v=ver
  |_=>False
 |_=>True
theorem aKI{c:Ctx}{H:AHeap}(hst:St c H){i v off:Nat}(h:tQ H (.ref i v off)):c.ver i=v:=by
 unfold tQ at h
 simp only at h
 cases hh:hget H i with
 |cells ver cs=>rw[hh]at h;simp only at h;rw[h];exact hst.ver_eq hh
 |_=>rw[hh]at h;exact h.elim
theorem aKJ{c:Ctx}{H:AHeap}(hst:St c H){s i v off len lc:Nat}(h:tQ H (.osl s i v off len lc)):c.ver i=v:=by
 unfold tQ at h
 simp only at h
 cases hh:hget H i with
 |cells ver cs=>rw[hh]at h;simp only at h;rw[h];exact hst.ver_eq hh
 |_=>rw[hh]at h;exact h.elim
theorem aDJ{c:Ctx}{H:AHeap}{t:TypeId}{f:Nat}{x:AV}{vx:Value}(hst:St c H)(hx:Rep c x vx)(hl:tQ H x)(hs:(uK P t f x).s)(w:World):
  ∃v,(Instr.fieldAt t vx f).run P w=.ok v w∧Rep c (uK P t f x).v v:=by
 unfold uK at *
 cases hu:P.underlying t with
 |none=>simp[hu,tP]at hs
 |some d=>
  cases d<;>simp only[hu,tP]at hs
  case struct fs=>
   simp only
   cases hf:fs[f]? with
   |none=>simp[hf]at hs
   |some fd=>
    simp only[hf]at hs
    cases x<;>simp only at hs
    case ref i v off=>
     obtain⟨hsome,hne⟩:=hs
     obtain⟨d,hd⟩:=Option.isSome_iff_exists.1 hsome
     obtain⟨a,rfl,hr⟩:=aAr hx (aKI hst hl) fd.offset
     exact⟨_,by simp[Instr.fieldAt,run_underlying hu,hf,Instr.sureAddr,fieldPlace,mL hd,hne],hr⟩
    case cptr cs=>
     obtain⟨hsome,hne⟩:=hs
     obtain⟨d,hd⟩:=Option.isSome_iff_exists.1 hsome
     cases hx with
     |cptr _ a vs h1 h2 h3 h4=>
      exact⟨_,by simp[Instr.fieldAt,run_underlying hu,hf,Instr.sureAddr,fieldPlace,mL hd,hne],rep_cptr_drop (.cptr cs a vs h1 h2 h3 h4) _⟩
def uL(P:Program)(t:TypeId)(x ix:AV):BR:=
 match P.underlying t with
 |some (.slice e)=>
  match x,ix with
  |.sl _ es,.int _ i=>⟨.cptr (es.getD i.toNat .top).cells,0≤i∧i<es.length∧(P.underlying e).isSome=true∧P.cellsOf e=(es.getD i.toNat .top).cells.length⟩
  |.osl s j v off len _,.int _ i=>⟨.ref j v (off+i.toNat * s),0≤i∧i<len∧(P.underlying e).isSome=true∧P.cellsOf e=s∧s≠0⟩
  |_,_=>tP
 |some (.array n e)=>
  match x,ix with
  |.ref j v off,.int _ i=>⟨.ref j v (off+i.toNat * P.cellsOf e),0≤i∧i<n∧(P.underlying e).isSome=true⟩
  |.cptr cs,.int _ i=>⟨.cptr (cs.drop (i.toNat * P.cellsOf e)),0≤i∧i<n∧(P.underlying e).isSome=true⟩
  |_,_=>tP
 |_=>tP
theorem Rep.sl_inv{c:Ctx}{full:Bool}{es:List AV}{v:Value}(h:Rep c (.sl full es) v):∃base len cap s,∃vs:Nat→Nat→Value,v=.slice base len cap∧len=es.length∧len≤cap∧(full=true→cap=len)∧
  (es≠[]→∃a,base=some a∧a.spot=none∧c.stable a.block∧∀k j,k<es.length→j<s→c.w.cell? (a.add (k * s+j))=some (vs k j))∧(∀e∈es,e.cells.length=s)∧
  (∀(k:Nat) (e:AV) (j:Nat) (x:AV),es[k]?=some e→e.cells[j]?=some x→Rep c x (vs k j)):=by
 cases h with
 |sl _ _ base len cap s vs h1 h2 h3 h4 h5 h6 _=>exact⟨base,len,cap,s,vs,rfl,h1,h2,h3,h4,h5,h6⟩
theorem Rep.osl_inv{c:Ctx}{s i v off len lc:Nat}{val:Value}(h:Rep c (.osl s i v off len lc) val)(hv:c.ver i=v):
  ∃base cap,val=.slice base len cap∧len≤lc∧lc≤cap∧(c.vd i=true→len=0∧cap=0)∧(c.vd i=false→(cap=0∨base=some ⟨c.blk i,off,none⟩)∧∃m,bsize c.w (c.blk i)=some m∧off+cap * s≤m):=by
 cases h with
 |osl _ _ _ _ _ _ _ hi hv' ho hmax h1 h2=>
  cases hd:c.vd i with
  |true=>
   obtain⟨rfl,rfl,base,rfl⟩:=h1 hv hd
   exact⟨base,0,rfl,Nat.le_refl _,Nat.le_refl _,(fun _=>⟨rfl,rfl⟩),(fun h=>by cases h)⟩
  |false=>
   obtain⟨base,cap,m,q1,q2,q2',q3,q4,q5⟩:=h2 hv hd
   exact⟨base,cap,q1,q2,q2',(fun h=>by cases h),(fun _=>⟨q3,m,q4,q5⟩)⟩
theorem aHS{α:Type}(l:List α)(i:Nat)(d x:α)(h:l[i]?=some x):l.getD i d=x:=by
 rw[List.getD_eq_getElem?_getD,h];rfl
theorem aDK{c:Ctx}{H:AHeap}{t:TypeId}{x ix:AV}{vx vi:Value}(hst:St c H)(hx:Rep c x vx)(hi:Rep c ix vi)(hl:tQ H x)(hs:(uL P t x ix).s)(w:World):
  ∃v,(Instr.indexAt t vx vi).run P w=.ok v w∧Rep c (uL P t x ix).v v:=by
 unfold uL at *
 cases hu:P.underlying t with
 |none=>simp[hu,tP]at hs
 |some d=>
  cases d<;>simp only[hu,tP]at hs
  case slice e=>
   simp only
   cases x<;>cases ix<;>simp only at hs ⊢
   case sl.int full es k i=>
    obtain⟨h0,h1,h2,h3⟩:=hs
    obtain⟨d,hd⟩:=Option.isSome_iff_exists.1 h2
    obtain⟨base,len,cap,s,vs,rfl,rfl,q2,q3,q4,q5,q6⟩:=hx.sl_inv
    rw[hi.int_inv]
    have hlt:i.toNat<es.length:=by omega
    have hne:es≠[]:=by intro e;rw[e]at hlt;simp at hlt
    obtain⟨a,rfl,a2,a3,a4⟩:=q4 hne
    have hget:es[i.toNat]?=some es[i.toNat]:=List.getElem?_eq_getElem hlt
    rw[aHS _ _ _ _ hget]at h3 ⊢
    have hsz:s=P.cellsOf e:=by rw[h3];exact(q5 _ (List.getElem_mem hlt)).symm
    subst hsz
    refine⟨.pointer (some (a.add (i.toNat * P.cellsOf e))),?_,?_⟩
    ·simp[Instr.indexAt,asIntOf,run_underlying hu,mL hd,h0,h1]
    ·refine .cptr _ _ (fun j=>vs i.toNat j) (Addr.add_spot a2 _) (by rw[Addr.add_block];exact a3) (fun j hj=>?_) (fun j y hy=>q6 _ _ _ _ hget hy)
     rw[Addr.add_add a2]
     exact a4 _ _ hlt (by omega)
   case osl.int s j v off len lc k i=>
    obtain⟨h0,h1,h2,h3,h4⟩:=hs
    obtain⟨d,hd⟩:=Option.isSome_iff_exists.1 h2
    have hv:=aKJ hst hl
    obtain⟨base,cap,rfl,p1,p1',p2,p3⟩:=hx.osl_inv hv
    rw[hi.int_inv]
    cases hvd:c.vd j with
    |true=>have:=p2 hvd;omega
    |false=>
     obtain⟨p4,m,p5,p6⟩:=p3 hvd
     rcases p4 with p4|rfl
     ·omega
     ·refine⟨.pointer (some ⟨c.blk j,off+i.toNat * s,none⟩),?_,?_⟩
      ·simp[Instr.indexAt,asIntOf,run_underlying hu,mL hd,h0,h1,h3,rB]
      ·cases hx with
       |osl _ _ _ _ _ _ _ hi' hv'=>exact .ref _ _ _ _ hi' hv' rfl fun _=>⟨hvd,rfl⟩
  case array n e=>
   simp only
   cases x<;>cases ix<;>simp only at hs ⊢
   case ref.int j v off k i=>
    obtain⟨h0,h1,h2⟩:=hs
    obtain⟨d,hd⟩:=Option.isSome_iff_exists.1 h2
    obtain⟨a,rfl,hr⟩:=aAr hx (aKI hst hl) (i.toNat * P.cellsOf e)
    rw[hi.int_inv]
    exact⟨_,by simp[Instr.indexAt,asIntOf,run_underlying hu,mL hd,h0,h1,Instr.sureAddr],hr⟩
   case cptr.int cs k i=>
    obtain⟨h0,h1,h2⟩:=hs
    obtain⟨d,hd⟩:=Option.isSome_iff_exists.1 h2
    rw[hi.int_inv]
    cases hx with
    |cptr _ a vs g1 g2 g3 g4=>
     exact⟨_,by simp[Instr.indexAt,asIntOf,run_underlying hu,mL hd,h0,h1,Instr.sureAddr],rep_cptr_drop (.cptr cs a vs g1 g2 g3 g4) _⟩
end Go.Aw
/- More operations of the abstract machine: parts, texts' bytes, lengths, slices of slices and of texts, conversions, built slices. No condition. -/
namespace Go.Aw
open Go
set_option linter.unusedSimpArgs false
variable {P:Program}
def aMo(P:Program)(t:TypeId)(f:Nat)(x:AV):BR:=
 match P.underlying t,x with
 |some (.struct fs),.agg cs=>match fs[f]? with
  |some fd=>apart P fd.type fd.offset cs
  |none=>tP
 |_,_=>tP
theorem aHT{c:Ctx}{t:TypeId}{f:Nat}{x:AV}{vx:Value}(hx:Rep c x vx)(hs:(aMo P t f x).s)(w:World):
  ∃v,(Instr.field t vx f).run P w=.ok v w∧Rep c (aMo P t f x).v v:=by
 unfold aMo at *
 split at hs
 ·rename_i fs cs hu
  cases hf:fs[f]? with
  |none=>simp[hf,tP]at hs
  |some fd=>
   simp only[hf]at hs ⊢
   obtain⟨vs,rfl,h1,h2⟩:=hx.agg_inv
   obtain⟨v,g1,g2⟩:=sN (P:=P) h1 h2 hs
   exact⟨v,by simp[Instr.field,run_underlying hu,hf,asAgg,g1],g2⟩
 ·exact hs.elim
def aMp(P:Program)(t:TypeId)(x ix:AV):BR:=
 match P.underlying t,x,ix with
 |some .string,.str s,.int _ i=>⟨.int .u8 (s.getD i.toNat 0).toNat,0≤i∧i<s.length⟩
 |some (.array n e),.agg cs,.int _ i=>⟨(apart P e (i.toNat * P.cellsOf e) cs).v,0≤i∧i<n∧(apart P e (i.toNat * P.cellsOf e) cs).s⟩
 |_,_,_=>tP
theorem getElem?_mk(s:List UInt8)(i:Nat):(ByteArray.mk s.toArray)[i]?=s[i]?:=by
 by_cases h:i<s.length
 ·rw[ByteArray.getElem?_lt' _ _ (by simpa[ByteArray.size]using h),List.getElem?_eq_getElem h]
  rfl
 ·rw[ByteArray.getElem?_ge' _ _ (by simpa[ByteArray.size]using h),List.getElem?_eq_none (by omega)]
theorem aHU{c:Ctx}{t:TypeId}{x ix:AV}{vx vi:Value}(hx:Rep c x vx)(hi:Rep c ix vi)(hs:(aMp P t x ix).s)(w:World):
  ∃v,(Instr.index t vx vi).run P w=.ok v w∧Rep c (aMp P t x ix).v v:=by
 unfold aMp at *
 split at hs
 ·rename_i s k i hu
  obtain⟨h0,h1⟩:=hs
  rw[hx.str_inv,hi.int_inv]
  have hlt:i.toNat<s.length:=by omega
  have hg:s[i.toNat]?=some s[i.toNat]:=List.getElem?_eq_getElem hlt
  rw[aHS _ _ _ _ hg]
  refine⟨_,?_,.int _ _ (aE3.2 ⟨by omega,by have:=s[i.toNat].toNat_lt;omega⟩)⟩
  simp[Instr.index,asIntOf,run_underlying hu,h0,getElem?_mk,hg]
 ·rename_i n e cs k i hu
  obtain⟨h0,h1,h2⟩:=hs
  rw[hi.int_inv]
  obtain⟨vs,rfl,g1,g2⟩:=hx.agg_inv
  obtain⟨v,q1,q2⟩:=sN (P:=P) g1 g2 h2
  have he:∃d,P.underlying e=some d:=by
   unfold apart at h2
   cases hue:P.underlying e with
   |none=>rw[hue]at h2;exact h2.elim
   |some d=>exact⟨d,rfl⟩
  obtain⟨d,hd⟩:=he
  exact⟨v,by simp[Instr.index,asIntOf,run_underlying hu,h0,h1,mL hd,q1],q2⟩
 ·exact hs.elim
def aYt(P:Program)(t:TypeId)(x:AV)(H:AHeap):BR:=
 match P.underlying t,x with
 |some .string,.str s=>⟨.int .i64 s.length,True⟩
 |some (.slice _),.sl _ es=>⟨.int .i64 es.length,True⟩
 |some (.slice _),.osl s i v off len lc=>⟨.int .i64 len,tQ H (.osl s i v off len lc)⟩
 |some (.array n _),_=>⟨.int .i64 n,n≤9223372036854775807⟩
 |some (.map _ _),.nilmap=>⟨.int .i64 0,True⟩
 |some (.map _ _),.map i=>match hget H i with
  |.map es _=>⟨.int .i64 es.length,es.length≤9223372036854775807⟩
  |_=>tP
 |_,_=>tP
theorem run_getObj_obj{w:World}{b:Nat}{o:Obj}(h:w.heap[b]?=some o)(hc:∀c e f,o≠.cells c e f):(getObj b).run P w=.ok o w:=by
 unfold getObj
 simp only[Sem.run,h]
theorem St.map{c:Ctx}{H:AHeap}(h:St c H){i:Nat}{es:List (AV×AV×Nat)}{clock:Nat}(hi:hget H i=.map es clock):
  i<c.n∧c.ver i=0∧c.vd i=false∧∃ents:Array MapEntry,c.w.heap[c.blk i]?=some (.map ents clock)∧ents.size=es.length∧
   ∀(j:Nat) (p:AV×AV×Nat) (e:MapEntry),es[j]?=some p→ents[j]?=some e→Rep c p.1 e.key∧Rep c p.2.1 e.val∧e.born=p.2.2:=by
 have h2:=h.rep i _ (cZ hi trivial)
 cases h2 with
 |map _ _ ents hv hd hh hl hr=>exact⟨by rw[h.n];exact bP hi trivial,hv,hd,ents,hh,hl,hr⟩
theorem aMq{c:Ctx}{H:AHeap}{t ty:TypeId}{x:AV}{vx:Value}(hst:St c H)(hx:Rep c x vx)(hs:(aYt P t x H).s):
  ∃v,(Builtin.len_ #[t] ty #[vx]).run P c.w=.ok v c.w∧Rep c (aYt P t x H).v v:=by
 unfold aYt at *
 split at hs
 ·rename_i s hu
  rw[hx.str_inv]
  exact⟨_,by simp[Builtin.len_,run_underlying hu,goInt,aCY],.int _ _ (aCX.2 (by have:=hx.str_R;omega))⟩
 ·rename_i e full es hu
  have hR:=hx.sl_R
  obtain⟨base,len,cap,s,vs,rfl,rfl, -⟩:=hx.sl_inv
  exact⟨_,by simp[Builtin.len_,run_underlying hu,goInt],.int _ _ (aCX.2 (by omega))⟩
 ·rename_i e s i v off len lc hu
  have hR:=hx.osl_R
  obtain⟨base,cap,rfl,hle, -⟩:=hx.osl_inv (aKJ (s:=s) (off:=off) (len:=len) (lc:=lc) hst hs)
  exact⟨_,by simp[Builtin.len_,run_underlying hu,goInt],.int _ _ (aCX.2 (by omega))⟩
 ·rename_i n e hu
  exact⟨_,by simp[Builtin.len_,run_underlying hu,goInt],.int _ _ (aCX.2 (by omega))⟩
 ·rename_i k e hu
  cases hx
  exact⟨_,by simp[Builtin.len_,run_underlying hu,goInt],.int _ _ (aCX.2 (by omega))⟩
 ·rename_i k e i hu
  split at hs
  ·rename_i es clock hh
   obtain⟨hi,hv,hd,ents,hb,hl,hr⟩:=hst.map hh
   simp only[hh]
   cases hx with
   |map _ _ _ _ hval=>
    rw[(hval hv).2]
    refine⟨_,?_,.int _ _ (aCX.2 (by omega))⟩
    have hg:=run_getObj_obj (P:=P) hb (by simp)
    simp[Builtin.len_,run_underlying hu,hg,goInt,hl]
  ·exact hs.elim
 ·exact hs.elim
def aMr(P:Program)(t:TypeId)(x:AV)(lo hi mx:Option AV)(H:AHeap):BR:=
 match P.underlying t,x,lo,hi,mx with
 |some .string,.str s,none,none,none=>⟨.str s,True⟩
 |some .string,.str s,some (.int _ l),none,none=>⟨.str (s.drop l.toNat),0≤l∧l≤s.length⟩
 |some .string,.str s,none,some (.int _ h),none=>⟨.str (s.take h.toNat),0≤h∧h≤s.length⟩
 |some .string,.str s,some (.int _ l),some (.int _ h),none=>⟨.str ((s.take h.toNat).drop l.toNat),0≤l∧l≤h∧h≤s.length⟩
 |some (.slice e),.sl full es,none,none,none=>⟨.sl full es,(P.underlying e).isSome=true⟩
 |some (.slice e),.sl full es,some (.int _ l),none,none=>⟨.sl full (es.drop l.toNat),0≤l∧l≤es.length∧(P.underlying e).isSome=true∧∀x∈es,x.cells.length=P.cellsOf e⟩
 |some (.slice e),.sl full es,none,some (.int _ h),none=>⟨.sl (full&&decide (h=(es.length:Int))) (es.take h.toNat),0≤h∧h≤es.length∧(P.underlying e).isSome=true⟩
 |some (.slice e),.sl _ es,some (.int _ l),some (.int _ h),none=>⟨.sl false ((es.take h.toNat).drop l.toNat),0≤l∧l≤h∧h≤es.length∧(P.underlying e).isSome=true∧∀x∈es,x.cells.length=P.cellsOf e⟩
 |some (.slice e),.sl _ es,none,some (.int _ h),some (.int _ m)=>⟨.sl true (es.take h.toNat),0≤h∧h≤es.length∧m=h∧(P.underlying e).isSome=true⟩
 |some (.slice e),.sl _ es,some (.int _ l),some (.int _ h),some (.int _ m)=>⟨.sl true ((es.take h.toNat).drop l.toNat),0≤l∧l≤h∧h≤es.length∧m=h∧(P.underlying e).isSome=true∧∀x∈es,x.cells.length=P.cellsOf e⟩
 |some (.slice e),.osl s i v off len lc,none,none,none=>⟨.osl s i v off len lc,tQ H (.osl s i v off len lc)∧(P.underlying e).isSome=true⟩
 |some (.slice e),.osl s i v off len lc,none,some (.int _ h),none=>⟨.osl s i v off h.toNat lc,tQ H (.osl s i v off len lc)∧(P.underlying e).isSome=true∧0≤h∧h≤lc⟩
 |some (.slice e),.osl s i v off len lc,some (.int _ l),none,none=>⟨.osl s i v (off+l.toNat * s) (len-l.toNat) (lc-l.toNat),tQ H (.osl s i v off len lc)∧(P.underlying e).isSome=true∧P.cellsOf e=s∧0≤l∧l≤len⟩
 |some (.slice e),.osl s i v off len lc,some (.int _ l),some (.int _ h),none=>⟨.osl s i v (off+l.toNat * s) (h.toNat-l.toNat) (lc-l.toNat),tQ H (.osl s i v off len lc)∧(P.underlying e).isSome=true∧P.cellsOf e=s∧0≤l∧l≤h∧h≤lc⟩
 |some (.slice e),.osl s i v off len lc,some (.int _ l),some (.int _ h),some (.int _ m)=>⟨.osl s i v (off+l.toNat * s) (h.toNat-l.toNat) (m.toNat-l.toNat),tQ H (.osl s i v off len lc)∧(P.underlying e).isSome=true∧P.cellsOf e=s∧0≤l∧l≤h∧h≤m∧m≤lc⟩
 |_,_,_,_,_=>tP
theorem extract_mk(s:List UInt8)(l h:Nat):(ByteArray.mk s.toArray).extract l h=ByteArray.mk ((s.take h).drop l).toArray:=by
 apply ByteArray.ext
 simp[ByteArray.data_extract,List.extract_eq_take_drop,List.drop_take]
theorem run_bound(k:IntKind)(i:Int)(y:Nat)(code:BoundsCode)(h0:0≤i)(h1:i≤y)(w:World):(Instr.sliceBound (.int k i) y code).run P w=.ok i.toNat w:=run_sliceBound (P:=P) w k i y code h0 h1
theorem rep_sl_part{c:Ctx}{full full':Bool}{es:List AV}{base:Option Addr}{len cap:Nat}(h:Rep c (.sl full es) (.slice base len cap))(l k m sz:Nat)(hl:l≤k)(hk:k≤es.length)(hm:k≤m)(_:m≤cap)
  (hf:full'=true→m=k) (hsz:l≠0→∀x∈es,x.cells.length=sz):
  Rep c (.sl full' ((es.take k).drop l)) (.slice (if m=l then base else base.map (·.add (l * sz))) (k-l) (m-l)):=by
 have hR:=h.sl_R
 obtain⟨b,n,cp,s,vs,he,h1,h2,h3,h4,h5,h6⟩:=h.sl_inv
 cases he
 refine .sl _ _ _ _ _ s (fun i j=>vs (l+i) j) (by simp;omega) (by omega) (fun hf'=>by rw[hf hf']) (fun hne=>?_) (fun e he=>h5 e ?_) (fun i e j x hi hj=>?_) (by omega)
 ·have hlen:((es.take k).drop l).length≠0:=fun e=>hne (List.eq_nil_of_length_eq_zero e)
  simp at hlen
  have hne':es≠[]:=by intro e;rw[e]at hk;simp at hk;omega
  obtain⟨a,rfl,a2,a3,a4⟩:=h4 hne'
  have hml:¬m=l:=by omega
  rw[if_neg hml]
  refine⟨a.add (l * sz),rfl,Addr.add_spot a2 _,by rw[Addr.add_block];exact a3,fun i j hi hj=>?_⟩
  simp at hi
  rw[Addr.add_add a2]
  have hs:l=0∨sz=s:=by
   rcases Nat.eq_zero_or_pos l with h0|h0
   ·exact .inl h0
   ·right
    have h7:es[0]?=some (es[0]'(by omega)):=List.getElem?_eq_getElem (by omega)
    have h8:=List.getElem_mem (l:=es) (n:=0) (by omega)
    rw[←hsz (by omega) _ h8,h5 _ h8]
  have e1:l * sz+(i * s+j)=(l+i) * s+j:=by
   rcases hs with h0|rfl
   ·simp[h0]
   ·rw[Nat.add_mul];omega
  rw[e1]
  exact a4 _ _ (by omega) hj
 ·exact List.mem_of_mem_take (List.mem_of_mem_drop he)
 ·rw[List.getElem?_drop,List.getElem?_take]at hi
  split at hi
  ·exact h6 _ _ _ _ hi hj
  ·cases hi
theorem rep_osl_part{c:Ctx}{s i v off len lc:Nat}{base:Option Addr}{cap:Nat}(hv:c.ver i=v)(h:Rep c (.osl s i v off len lc) (.slice base len cap))(l k m lc':Nat)(hl:l≤k)(hk:k≤lc')(hk2:lc'≤m)(hm:m≤cap)(hlc:lc'≤lc):
  Rep c (.osl s i v (off+l * s) (k-l) (lc'-l)) (.slice (if m=l then base else base.map (·.add (l * s))) (k-l) (m-l)):=by
 obtain⟨b,cp,he,h1,h1',h2,h3⟩:=h.osl_inv hv
 cases he
 cases h with
 |osl _ _ _ _ _ _ _ hi hv' ho hmax g1 g2=>
  refine .osl _ _ _ _ _ _ _ hi hv' rfl (by omega) (fun e d=>?_) (fun e d=>?_)
  ·obtain⟨rfl,rfl⟩:=h2 d
   have e1:l=0:=by omega
   have e2:k=0:=by omega
   have e3:m=0:=by omega
   have e4:lc'=0:=by omega
   subst e1
   subst e2
   subst e3
   subst e4
   exact⟨rfl,rfl,_,rfl⟩
  ·obtain⟨p1,n,p2,p3⟩:=h3 d
   refine⟨_,_,n,rfl,by omega,by omega,?_,p2,?_⟩
   ·rcases p1 with p1|rfl
    ·left;omega
    ·by_cases hcl:m=l
     ·left;omega
     ·right
      rw[if_neg hcl]
      simp[rB]
   ·have e5:l * s+(m-l) * s=m * s:=by rw[←Nat.add_mul];congr 1;omega
    have e6:m * s≤cap * s:=Nat.mul_le_mul_right s hm
    omega
theorem aHV{c:Ctx}{H:AHeap}{t:TypeId}{x:AV}{vx:Value}{lo hi mx:Option AV}{vl vh vm:Option Value}(hst:St c H)(hx:Rep c x vx)
  (hlo:∀y,lo=some y→∃u,vl=some u∧Rep c y u) (hlo':lo=none→vl=none) (hhi:∀y,hi=some y→∃u,vh=some u∧Rep c y u) (hhi':hi=none→vh=none)
  (hmx:∀y,mx=some y→∃u,vm=some u∧Rep c y u) (hmx':mx=none→vm=none) (hs:(aMr P t x lo hi mx H).s) (w:World):
  ∃v,(Instr.sliceAt t vx vl vh vm).run P w=.ok v w∧Rep c (aMr P t x lo hi mx H).v v:=by
 have inv:∀{o:Option AV} {u:Option Value} {k:IntKind} {n:Int},(∀y,o=some y→∃u',u=some u'∧Rep c y u')→o=some (.int k n)→u=some (.int k n):=by
  intro o u k n h1 h2
  obtain⟨u',h3,h4⟩:=h1 _ h2
  rw[h3,h4.int_inv]
 unfold aMr at *
 split at hs
 ·rename_i s hu
  rw[hlo' rfl,hhi' rfl,hmx' rfl,hx.str_inv]
  exact⟨_,by simp[Instr.sliceAt,Instr.slice,run_underlying hu,Instr.sliceBounds,extract_mk,aCY],.str _ hx.str_R⟩
 ·rename_i s k l hu
  obtain⟨h0,h1⟩:=hs
  rw[inv hlo rfl,hhi' rfl,hmx' rfl,hx.str_inv]
  refine⟨_,?_,.str _ (by have:=hx.str_R;simp only[List.length_drop,List.length_take];omega)⟩
  simp[Instr.sliceAt,Instr.slice,run_underlying hu,Instr.sliceBounds,run_bound (P:=P) k l s.length _ h0 h1,extract_mk,aCY]
 ·rename_i s k h hu
  obtain⟨h0,h1⟩:=hs
  rw[hlo' rfl,inv hhi rfl,hmx' rfl,hx.str_inv]
  refine⟨_,?_,.str _ (by have:=hx.str_R;simp only[List.length_drop,List.length_take];omega)⟩
  simp[Instr.sliceAt,Instr.slice,run_underlying hu,Instr.sliceBounds,run_bound (P:=P) k h s.length _ h0 h1,extract_mk,aCY]
 ·rename_i s k l k' h hu
  obtain⟨h0,h1,h2⟩:=hs
  rw[inv hlo rfl,inv hhi rfl,hmx' rfl,hx.str_inv]
  refine⟨_,?_,.str _ (by have:=hx.str_R;simp only[List.length_drop,List.length_take];omega)⟩
  have e1:=run_bound (P:=P) k' h s.length .sliceAlen (by omega) h2 w
  have e2:=run_bound (P:=P) k l h.toNat .sliceB h0 (by omega) w
  simp[Instr.sliceAt,Instr.slice,run_underlying hu,Instr.sliceBounds,aCY,e1,e2,extract_mk]
 ·rename_i e full es hu
  obtain⟨d,hd⟩:=Option.isSome_iff_exists.1 hs
  rw[hlo' rfl,hhi' rfl,hmx' rfl]
  obtain⟨base,len,cap,s,vs,rfl,h1,h2,h3, -⟩:=hx.sl_inv
  refine⟨_,by simp[Instr.sliceAt,Instr.slice,run_underlying hu,Instr.sliceBounds,mL hd];rfl,?_⟩
  have:=rep_sl_part (full':=full) hx 0 es.length cap (P.cellsOf e) (Nat.zero_le _) (Nat.le_refl _) (by omega) (Nat.le_refl _) (fun hf=>by rw[h3 hf,h1]) (fun h=>absurd rfl h)
  simp[Addr.add]at this ⊢
  rw[h1]
  exact this
 ·rename_i e full es k l hu
  obtain⟨h0,h1,hd,hsz⟩:=hs
  obtain⟨d,hd⟩:=Option.isSome_iff_exists.1 hd
  rw[inv hlo rfl,hhi' rfl,hmx' rfl]
  obtain⟨base,len,cap,s,vs,rfl,rfl,h2,h3, -⟩:=hx.sl_inv
  have e2:=run_bound (P:=P) k l es.length .sliceB h0 h1 w
  refine⟨_,by simp[Instr.sliceAt,Instr.slice,run_underlying hu,Instr.sliceBounds,mL hd,e2];rfl,?_⟩
  have:=rep_sl_part (full':=full) hx l.toNat es.length cap (P.cellsOf e) (by omega) (Nat.le_refl _) (by omega) (Nat.le_refl _) (fun hf=>by rw[h3 hf]) (fun _=>hsz)
  simpa using this
 ·rename_i e full es k h hu
  obtain⟨h0,h1,hd⟩:=hs
  obtain⟨d,hd⟩:=Option.isSome_iff_exists.1 hd
  rw[hlo' rfl,inv hhi rfl,hmx' rfl]
  obtain⟨base,len,cap,s,vs,rfl,rfl,h2,h3, -⟩:=hx.sl_inv
  have e2:=run_bound (P:=P) k h cap .sliceAcap h0 (by omega) w
  refine⟨_,by simp[Instr.sliceAt,Instr.slice,run_underlying hu,Instr.sliceBounds,mL hd,e2];rfl,?_⟩
  have:=rep_sl_part (full':=full&&decide (h=(es.length:Int))) hx 0 h.toNat cap (P.cellsOf e) (Nat.zero_le _) (by omega) (by omega) (Nat.le_refl _) (fun hf=>by
   rw[Bool.and_eq_true,decide_eq_true_eq]at hf
   have:=h3 hf.1
   omega) (fun h=>absurd rfl h)
  simpa[Addr.add]using this
 ·rename_i e full es k l k' h hu
  obtain⟨h0,h1,h1',hd,hsz⟩:=hs
  obtain⟨d,hd⟩:=Option.isSome_iff_exists.1 hd
  rw[inv hlo rfl,inv hhi rfl,hmx' rfl]
  obtain⟨base,len,cap,s,vs,rfl,rfl,h2,h3, -⟩:=hx.sl_inv
  have e1:=run_bound (P:=P) k' h cap .sliceAcap (by omega) (by omega) w
  have e2:=run_bound (P:=P) k l h.toNat .sliceB h0 (by omega) w
  refine⟨_,by simp[Instr.sliceAt,Instr.slice,run_underlying hu,Instr.sliceBounds,mL hd,e1,e2];rfl,?_⟩
  exact rep_sl_part (full':=false) hx l.toNat h.toNat cap (P.cellsOf e) (by omega) (by omega) (by omega) (Nat.le_refl _) (fun hf=>by cases hf) (fun _=>hsz)
 ·rename_i e full es k h k' m hu
  obtain⟨h0,h1,rfl,hd⟩:=hs
  obtain⟨d,hd⟩:=Option.isSome_iff_exists.1 hd
  rw[hlo' rfl,inv hhi rfl,inv hmx rfl]
  obtain⟨base,len,cap,s,vs,rfl,rfl,h2,h3, -⟩:=hx.sl_inv
  have e1:=run_bound (P:=P) k' m cap .slice3Acap h0 (by omega) w
  have e2:=run_bound (P:=P) k m m.toNat .slice3B h0 (by omega) w
  refine⟨_,by simp[Instr.sliceAt,Instr.slice,run_underlying hu,Instr.sliceBounds,mL hd,e1,e2];rfl,?_⟩
  have:=rep_sl_part (full':=true) hx 0 m.toNat m.toNat (P.cellsOf e) (Nat.zero_le _) (by omega) (Nat.le_refl _) (by omega) (fun _=>rfl) (fun h=>absurd rfl h)
  simpa[Addr.add]using this
 ·rename_i e full es k l k' h k'' m hu
  obtain⟨h0,h1,h1',rfl,hd,hsz⟩:=hs
  obtain⟨d,hd⟩:=Option.isSome_iff_exists.1 hd
  rw[inv hlo rfl,inv hhi rfl,inv hmx rfl]
  obtain⟨base,len,cap,s,vs,rfl,rfl,h2,h3, -⟩:=hx.sl_inv
  have e0:=run_bound (P:=P) k'' m cap .slice3Acap (by omega) (by omega) w
  have e1:=run_bound (P:=P) k' m m.toNat .slice3B (by omega) (by omega) w
  have e2:=run_bound (P:=P) k l m.toNat .slice3C h0 (by omega) w
  refine⟨_,by simp[Instr.sliceAt,Instr.slice,run_underlying hu,Instr.sliceBounds,mL hd,e0,e1,e2];rfl,?_⟩
  exact rep_sl_part (full':=true) hx l.toNat m.toNat m.toNat (P.cellsOf e) (by omega) (by omega) (by omega) (by omega) (fun _=>rfl) (fun _=>hsz)
 ·rename_i e s i v off len lc hu
  obtain⟨hl,hd⟩:=hs
  obtain⟨d,hd⟩:=Option.isSome_iff_exists.1 hd
  have hv:=aKJ hst hl
  rw[hlo' rfl,hhi' rfl,hmx' rfl]
  obtain⟨base,cap,rfl,h1, -⟩:=hx.osl_inv hv
  refine⟨_,by simp[Instr.sliceAt,Instr.slice,run_underlying hu,Instr.sliceBounds,mL hd];rfl,?_⟩
  simp[Addr.add]
  exact hx
 ·rename_i e s i v off len lc k h hu
  obtain⟨hl,hd,h0,h1⟩:=hs
  obtain⟨d,hd⟩:=Option.isSome_iff_exists.1 hd
  have hv:=aKJ hst hl
  rw[hlo' rfl,inv hhi rfl,hmx' rfl]
  obtain⟨base,cap,rfl,h2,h3, -⟩:=hx.osl_inv hv
  have e2:=run_bound (P:=P) k h cap .sliceAcap h0 (by omega) w
  refine⟨_,by simp[Instr.sliceAt,Instr.slice,run_underlying hu,Instr.sliceBounds,mL hd,e2];rfl,?_⟩
  have:=rep_osl_part hv hx 0 h.toNat cap lc (Nat.zero_le _) (by omega) h3 (Nat.le_refl _) (Nat.le_refl _)
  simpa[Addr.add]using this
 ·rename_i e s i v off len lc k l hu
  obtain⟨hl,hd,rfl,h0,h1⟩:=hs
  obtain⟨d,hd⟩:=Option.isSome_iff_exists.1 hd
  have hv:=aKJ hst hl
  rw[inv hlo rfl,hhi' rfl,hmx' rfl]
  obtain⟨base,cap,rfl,h2,h3, -⟩:=hx.osl_inv hv
  have e2:=run_bound (P:=P) k l len .sliceB h0 h1 w
  refine⟨_,by simp[Instr.sliceAt,Instr.slice,run_underlying hu,Instr.sliceBounds,mL hd,e2];rfl,?_⟩
  exact rep_osl_part hv hx l.toNat len cap lc (by omega) h2 h3 (Nat.le_refl _) (Nat.le_refl _)
 ·rename_i e s i v off len lc k l k' h hu
  obtain⟨hl,hd,rfl,h0,h1,h1'⟩:=hs
  obtain⟨d,hd⟩:=Option.isSome_iff_exists.1 hd
  have hv:=aKJ hst hl
  rw[inv hlo rfl,inv hhi rfl,hmx' rfl]
  obtain⟨base,cap,rfl,h2,h3, -⟩:=hx.osl_inv hv
  have e1:=run_bound (P:=P) k' h cap .sliceAcap (by omega) (by omega) w
  have e2:=run_bound (P:=P) k l h.toNat .sliceB h0 (by omega) w
  refine⟨_,by simp[Instr.sliceAt,Instr.slice,run_underlying hu,Instr.sliceBounds,mL hd,e1,e2];rfl,?_⟩
  exact rep_osl_part hv hx l.toNat h.toNat cap lc (by omega) (by omega) h3 (Nat.le_refl _) (Nat.le_refl _)
 ·rename_i e s i v off len lc k l k' h k'' m hu
  obtain⟨hl,hd,rfl,h0,h1,h1',h1''⟩:=hs
  obtain⟨d,hd⟩:=Option.isSome_iff_exists.1 hd
  have hv:=aKJ hst hl
  rw[inv hlo rfl,inv hhi rfl,inv hmx rfl]
  obtain⟨base,cap,rfl,h2,h3, -⟩:=hx.osl_inv hv
  have e0:=run_bound (P:=P) k'' m cap .slice3Acap (by omega) (by omega) w
  have e1:=run_bound (P:=P) k' h m.toNat .slice3B (by omega) (by omega) w
  have e2:=run_bound (P:=P) k l h.toNat .slice3C h0 (by omega) w
  refine⟨_,by simp[Instr.sliceAt,Instr.slice,run_underlying hu,Instr.sliceBounds,mL hd,e0,e1,e2];rfl,?_⟩
  exact rep_osl_part hv hx l.toNat h.toNat m.toNat m.toNat (by omega) (by omega) (Nat.le_refl _) (by omega) (by omega)
 ·exact hs.elim
end Go.Aw
/- More operations of the abstract machine: append, copy, built slices, interfaces, tuples, conversions. No condition. -/
namespace Go.Aw
open Go
set_option linter.unusedSimpArgs false
variable {P:Program}
def Ctx.draw(c:Ctx):Ctx:={c with w:={c.w with drawn:=c.w.drawn+1}}
theorem Ext.draw(c:Ctx):Ext c c.draw:=⟨Nat.le_refl _,Nat.le_refl _,fun _ h=>⟨h,rfl⟩,fun _ _=>Nat.le_refl _,fun _ _ _=>⟨rfl,rfl,fun _=>rfl⟩,rfl,rfl,rfl,rfl⟩
theorem St.draw{c:Ctx}{H:AHeap}(h:St c H):St c.draw H:=
 ⟨h.n,h.lt,h.inj,h.st,fun i b hi=>(h.rep i b hi).mono (Ext.draw c) (by rw[h.n];exact(List.getElem?_eq_some_iff.1 hi).1) (fun _ _ hv=>hv) rfl (fun _=>rfl)⟩
def Ctx.fix(c:Ctx)(o:Obj):Ctx:={c with w:=c.w.alloc o,stable:=fun b=>c.stable b∨b=c.w.heap.size}
theorem Ext.fix{c:Ctx}{H:AHeap}(hst:St c H)(o:Obj):Ext c (c.fix o)where
 n:=Nat.le_refl _
 size:=by simp[Ctx.fix]
 st:=fun b hb=>⟨.inl hb,kS (hst.st b hb).1⟩
 ver:=fun _ _=>Nat.le_refl _
 blk:=fun i hi _=>⟨rfl,rfl,fun hd=>by unfold bsize Ctx.fix;simp only;rw[kS (hst.lt i hi hd)]⟩
 os:=rfl
 tape:=rfl
 output:=rfl
 base:=rfl
theorem St.fix{c:Ctx}{H:AHeap}(hst:St c H)(o:Obj):St (c.fix o) H where
 n:=hst.n
 lt:=fun i hi hd=>by have:=hst.lt i hi hd;simp[Ctx.fix];omega
 inj:=hst.inj
 st:=fun k hk=>by
  rcases hk with hk|rfl
  ·obtain⟨h1,h2⟩:=hst.st k hk
   exact⟨by simp[Ctx.fix];omega,h2⟩
  ·refine⟨by simp[Ctx.fix],fun i b hi hb hd=>?_⟩
   have:=hst.lt i (by rw[hst.n];exact(List.getElem?_eq_some_iff.1 hi).1) hd
   simp only[Ctx.fix]
   omega
 rep:=fun i b hi=>by
  have hin:i<c.n:=by rw[hst.n];exact(List.getElem?_eq_some_iff.1 hi).1
  exact(hst.rep i b hi).mono (Ext.fix hst o) hin (fun _ _ hv=>hv) rfl (fun hd=>kS (hst.lt i hin hd))
def aYu(x:AV)(H:AHeap):List AV:=
 match x with
 |.sl _ es=>es.flatMap AV.cells
 |.osl s i _ off len _=>match hget H i with
  |.cells _ cs=>(cs.drop off).take (len * s)
  |_=>[]
 |.str s=>s.map fun b=>.int .u8 b.toNat
 |_=>[]
def aFa(x:AV):Nat:=
 match x with
 |.sl _ es=>es.length
 |.osl _ _ _ _ len _=>len
 |.str s=>s.length
 |_=>0
def aYv(x:AV)(n:Nat)(H:AHeap):Prop:=
 match x with
 |.sl _ es=>∀e∈es,e.cells.length=n
 |.osl s i v off len lc=>s=n∧tQ H (.osl s i v off len lc)∧match hget H i with
  |.cells _ cs=>off+len * s≤cs.length
  |_=>False
 |.str _=>n=1
 |_=>False
theorem length_flatMap_cells{es:List AV}{s:Nat}(h:∀e∈es,e.cells.length=s):(es.flatMap AV.cells).length=es.length * s:=by
 induction es with
 |nil=>simp
 |cons e es ih=>
  rw[List.flatMap_cons,List.length_append,ih (fun x hx=>h x (by simp[hx])),h e (by simp),List.length_cons,Nat.add_mul]
  omega
theorem get_flatMap_cells{es:List AV}{s:Nat}(h:∀e∈es,e.cells.length=s)(k j:Nat)(hj:j<s):(es.flatMap AV.cells)[k * s+j]?=(es[k]?).bind fun e=>e.cells[j]?:=by
 induction es generalizing k with
 |nil=>simp
 |cons e es ih=>
  have he:=h e (by simp)
  rw[List.flatMap_cons]
  cases k with
  |zero=>rw[List.getElem?_append_left (by omega)];simp
  |succ k=>
   rw[List.getElem?_append_right (by rw[he,Nat.add_mul];omega),he]
   have:(k+1) * s+j-s=k * s+j:=by rw[Nat.add_mul];omega
   rw[this,ih (fun x hx=>h x (by simp[hx]))]
   simp
theorem srcCells_sound{c:Ctx}{H:AHeap}{x:AV}{v:Value}{n:Nat}(hst:St c H)(hx:Rep c x v)(hok:aYv x n H):
  (Builtin.lenOf v).run P c.w=.ok (aFa x) c.w∧(aYu x H).length=aFa x * n∧
  ∃us:Array Value,(Builtin.firstCells n (aFa x) v).run P c.w=.ok us c.w∧us.size=(aYu x H).length∧(∀(i:Nat) (y:AV) (u:Value),(aYu x H)[i]?=some y→us[i]?=some u→Rep c y u):=by
 cases x<;>simp only[aYv]at hok
 case sl full es=>
  obtain⟨base,len,cap,s,vs,rfl,rfl,h2,h3,h4,h5,h6⟩:=hx.sl_inv
  refine⟨by simp[Builtin.lenOf,aFa],by simp only[aYu,aFa];exact length_flatMap_cells hok,?_⟩
  simp only[aYu,aFa]
  by_cases hne:es=[]
  ·subst hne
   cases base with
   |none=>exact⟨#[],by simp[Builtin.firstCells],by simp,by simp⟩
   |some a=>exact⟨#[],by simp[Builtin.firstCells,loadCells,loadCellsFrom],by simp,by simp⟩
  ·obtain⟨a,rfl,a2,a3,a4⟩:=h4 hne
   obtain⟨e0,he0⟩:=List.exists_mem_of_ne_nil es hne
   have hs:s=n:=by rw[←h5 e0 he0,hok e0 he0]
   subst hs
   have hcell:∀m,m<es.length * s→c.w.cell? (a.add m)=some (vs (m / s) (m % s)):=by
    intro m hm
    have hs0:0<s:=by
     rcases Nat.eq_zero_or_pos s with h|h
     ·subst h;omega
     ·exact h
    have h7:=a4 (m / s) (m % s) ((Nat.div_lt_iff_lt_mul hs0).2 hm) (Nat.mod_lt _ hs0)
    rwa[Nat.mul_comm,Nat.div_add_mod]at h7
   refine⟨_,by simp only[Builtin.firstCells];exact run_loadCells (P:=P) c.w a _ (fun m=>vs (m / s) (m % s)) hcell,by simp[length_flatMap_cells hok],fun i y u hi hu=>?_⟩
   have hlt:i<es.length * s:=by
    have:=(List.getElem?_eq_some_iff.1 hi).1
    rwa[length_flatMap_cells hok]at this
   have hs0:0<s:=by
    rcases Nat.eq_zero_or_pos s with h|h
    ·subst h;omega
    ·exact h
   simp[hlt]at hu
   subst hu
   have h8:=get_flatMap_cells hok (i / s) (i % s) (Nat.mod_lt _ hs0)
   rw[Nat.mul_comm,Nat.div_add_mod]at h8
   rw[h8]at hi
   cases hk:es[i / s]? with
   |none=>rw[hk]at hi;cases hi
   |some e=>rw[hk]at hi;exact h6 _ _ _ _ hk hi
 case osl s i v off len lc=>
  obtain⟨rfl,hl,hok⟩:=hok
  have hv:=aKJ hst hl
  simp only[aYu,aFa]
  cases hh:hget H i with
  |cells ver cs=>
   simp only[hh]at hok ⊢
   obtain⟨base,cap,rfl,h1,h1',h2,h3⟩:=hx.osl_inv hv
   refine⟨by simp[Builtin.lenOf],by simp;omega,?_⟩
   cases hd:c.vd i with
   |true=>
    obtain⟨rfl,rfl⟩:=h2 hd
    cases base with
    |none=>exact⟨#[],by simp[Builtin.firstCells],by simp,by simp⟩
    |some a=>exact⟨#[],by simp[Builtin.firstCells,loadCells,loadCellsFrom],by simp,by simp⟩
   |false=>
    obtain⟨p1,m,p2,p3⟩:=h3 hd
    rcases p1 with p1|rfl
    ·have h0:len=0:=by omega
     subst h0
     cases base with
     |none=>exact⟨#[],by simp[Builtin.firstCells],by simp,by simp⟩
     |some a=>exact⟨#[],by simp[Builtin.firstCells,loadCells,loadCellsFrom],by simp,by simp⟩
    ·obtain⟨_,_,vs,e,fr,hb,hl',hf,hr⟩:=hst.cells hh hd
     refine⟨_,by simp only[Builtin.firstCells];exact run_loadCells (P:=P) c.w _ _ (fun j=>vs.getD (off+j) undef) (fun j hj=>by rw[rB,jO hb];simp[show off+j<vs.size by omega]),by simp;omega,fun k y u hk hu=>?_⟩
     rw[List.getElem?_take,List.getElem?_drop]at hk
     split at hk
     ·rename_i hlt
      simp[hlt]at hu
      subst hu
      have hlt':=(List.getElem?_eq_some_iff.1 hk).1
      refine hr _ _ _ hk ?_
      simp[show off+k<vs.size by omega]
     ·cases hk
  |_=>simp[hh]at hok
 case str s=>
  subst hok
  rw[hx.str_inv]
  have e:(Builtin.firstCells 1 (aFa (.str s)) (.string ⟨s.toArray⟩)).run P c.w=.ok (s.map fun b=>Value.int .u8 b.toNat).toArray c.w:=by
   simp only[Builtin.firstCells,Sem.run_pure,aFa]
   congr 1
   apply Array.ext'
   simp[ByteArray.data_extract,List.map_take]
  refine⟨by simp[Builtin.lenOf,aFa,aCY],by simp[aYu,aFa],_,e,by simp[aYu],fun i y u hi hu=>?_⟩
  simp only[aYu,List.getElem?_map,Option.map_eq_some_iff]at hi
  obtain⟨b,hb,rfl⟩:=hi
  rw[List.getElem?_toArray,List.getElem?_map,hb]at hu
  cases hu
  exact .int _ _ (aE3.2 ⟨by omega,by have:=b.toNat_lt;omega⟩)
theorem bsize_of{w:World}{b:Nat}{vs:Array Value}{e:TypeId}{fr:Nat×Nat}(h:w.heap[b]?=some (.cells vs e fr)):bsize w b=some vs.size:=by simp[bsize,h]
def aS(P:Program)(e:TypeId):Bool:=(P.underlying e).isSome&&(aU P e).known&&((aU P e).cells.length==P.cellsOf e)
def aL(P:Program)(t:TypeId):Bool:=
 match P.underlying t with
 |some (.int _)=>false
 |some _=>true
 |none=>false
def tR(P:Program)(ts tx:TypeId)(s x:AV)(H:AHeap):Res:=
 match P.underlying ts with
 |some (.slice e)=>
  match s with
  |.sl full es=>⟨.osl (P.cellsOf e) H.length 1 0 (es.length+aFa x) (es.length+aFa x),H++[.cells 1 (es.flatMap AV.cells++aYu x H)],
    aS P e=true∧aL P tx=true∧full=true∧(es=[]∨aFa x≠0)∧(∀x∈es,x.cells.length=P.cellsOf e)∧aYv x (P.cellsOf e) H∧(es.length+aFa x) * P.bytesOf e≤140737488355328∧P.bytesOf e≠0⟩
  |.osl sz i v off len lc=>
   match hget H i with
   |.cells ver cs=>
    if len=lc then
     ⟨.osl sz i (v+1) 0 (len+aFa x) (len+aFa x),aD H i (.cells (v+1) (cs++aYu x H)),
      aS P e=true∧aL P tx=true∧v=ver∧v≠0∧off=0∧sz=P.cellsOf e∧len * sz=cs.length∧aYv x sz H∧(len+aFa x) * P.bytesOf e≤140737488355328∧P.bytesOf e≠0∧(aYu x H).all AV.one=true⟩
    else
     ⟨.osl sz i v off (len+aFa x) lc,aD H i (.cells v (cT cs (off+len * sz) (aYu x H))),
      aS P e=true∧aL P tx=true∧v=ver∧sz=P.cellsOf e∧off+lc * sz≤cs.length∧len+aFa x≤lc∧aYv x sz H∧(aYu x H).all AV.one=true⟩
   |_=>⟨.top,H,False⟩
  |_=>⟨.top,H,False⟩
 |_=>⟨.top,H,False⟩
theorem le_of_bytes{n b:Nat}(h:n * b≤140737488355328)(h0:b≠0):n≤9223372036854775807:=by
 have:=Nat.le_mul_of_pos_right n (Nat.pos_of_ne_zero h0)
 omega
theorem size_zeroCells(z:Array Value)(n:Nat):(Builtin.zeroCells z n).size=n * z.size:=by simp[Builtin.zeroCells]
theorem run_append_grow'{w:World}{ts tx ty e:TypeId}{s x:Value}{base:Option Addr}{len cap n:Nat}{old new:Array Value}(hu:P.underlying ts=some (.slice e))(hok:aS P e=true)(hni:aL P tx=true)
  (hn:(Builtin.lenOf x).run P w=.ok n w) (hs:s=.slice base len cap) (hgt:cap<len+n) (hb:(len+n) * P.bytesOf e≤140737488355328) (hb0:P.bytesOf e≠0)
  (hold:(Builtin.firstCells (P.cellsOf e) len s).run P {w with drawn:=w.drawn+1}=.ok old {w with drawn:=w.drawn+1})
  (hnew:(Builtin.firstCells (P.cellsOf e) n x).run P {w with drawn:=w.drawn+1}=.ok new {w with drawn:=w.drawn+1}):
  ∃(nc:Nat) (rest:Array Value),len+n≤nc∧rest.size=(nc-(len+n)) * P.cellsOf e∧
   (Builtin.append_ #[ts,tx] ty #[s,x]).run P w=.ok (.slice (some ⟨w.heap.size,0,none⟩) (len+n) nc) (World.alloc {w with drawn:=w.drawn+1} (.cells (old++new++rest) e)):=by
 simp only[aS,Bool.and_eq_true,beq_iff_eq]at hok
 obtain⟨⟨h1,h2⟩,h3⟩:=hok
 obtain⟨d,hd⟩:=Option.isSome_iff_exists.1 h1
 obtain⟨i,hi,hci⟩:=oG hd
 obtain⟨z,hz1,hz2⟩:=sT (P:=P) h2 {w:=w,n:=0,blk:=fun _=>0,ver:=fun _=>0,vd:=fun _=>true,stable:=fun _=>False,base:=0}
 have hzs:z.cells.size=P.cellsOf e:=by rw[(hz2.cells h2).1,h3]
 have hbytes:i.bytes=P.bytesOf e:=by simp[Program.bytesOf,hi]
 have hnx:∃dx,P.underlying tx=some dx∧(∀k,dx≠.int k):=by
  unfold aL at hni
  cases hux:P.underlying tx with
  |none=>rw[hux]at hni;cases hni
  |some dx=>exact⟨dx,rfl,fun k hk=>by rw[hux,hk]at hni;cases hni⟩
 obtain⟨dx,hdx,hdxi⟩:=hnx
 have hzero:(match dx with|.int _=>true|_=>false)=false:=by
  cases dx<;>first|rfl|exact absurd rfl (hdxi _)
 subst hs
 have hng:¬(len+n≤cap):=by omega
 have hcap:Builtin.nextslicecap (len+n) cap * i.bytes≤281474976710656:=by rw[hbytes];exact growslice_fits hgt hb
 have hmax:¬(((len+n:Nat):Int)>IntKind.i64.max∧(False∨i.bytes=0)):=by rw[hbytes];simp[hb0]
 let nc:=(len+n)+(w.tape w.drawn (.appendCap (len+n) cap e)) % (2 ^ 63-(len+n))
 refine⟨nc,Builtin.zeroCells z.cells (nc-(len+n)),by omega,by rw[size_zeroCells,hzs],?_⟩
 have hc1:¬(Builtin.nextslicecap (len+n) cap * i.bytes>281474976710656):=by omega
 have hdec:decide (Builtin.nextslicecap (len+n) cap * i.bytes>281474976710656)=false:=by simpa using hcap
 simp only[World.drew_eq]at hold hnew ⊢
 have hnc:(Question.appendCap (len+n) cap e).cut (w.tape w.drawn (.appendCap (len+n) cap e))=nc:=rfl
 simp[Builtin.append_,run_underlying hu,mL hd,run_underlying hdx,hn,hng,hb0,typeInfo,hi,hbytes,Question.forced,hold,hnew,hz1,newRow]
 rw[if_neg (by rw[←hbytes];omega),hnc]
theorem run_append_room'{w w':World}{ts tx ty e:TypeId}{x:Value}{base:Option Addr}{len cap n:Nat}{new:Array Value}(hu:P.underlying ts=some (.slice e))(hok:aS P e=true)(hni:aL P tx=true)
  (hn:(Builtin.lenOf x).run P w=.ok n w) (hle:len+n≤cap) (hnew:(Builtin.firstCells (P.cellsOf e) n x).run P w=.ok new w)
  (hst:∀a,base=some a→(storeCells (a.add (len * P.cellsOf e)) new.toList).run P w=.ok () w') (hw:base=none→w'=w):
  (Builtin.append_ #[ts,tx] ty #[.slice base len cap,x]).run P w=.ok (.slice base (len+n) cap) w':=by
 simp only[aS,Bool.and_eq_true,beq_iff_eq]at hok
 obtain⟨⟨h1,h2⟩,h3⟩:=hok
 obtain⟨d,hd⟩:=Option.isSome_iff_exists.1 h1
 have hnx:∃dx,P.underlying tx=some dx∧(∀k,dx≠.int k):=by
  unfold aL at hni
  cases hux:P.underlying tx with
  |none=>rw[hux]at hni;cases hni
  |some dx=>exact⟨dx,rfl,fun k hk=>by rw[hux,hk]at hni;cases hni⟩
 obtain⟨dx,hdx,hdxi⟩:=hnx
 have hzero:(match dx with|.int _=>true|_=>false)=false:=by
  cases dx<;>first|rfl|exact absurd rfl (hdxi _)
 cases base with
 |none=>
  rw[hw rfl]
  simp[Builtin.append_,run_underlying hu,mL hd,run_underlying hdx,hn,hle,hnew]
 |some a=>
  have:=hst a rfl
  simp[Builtin.append_,run_underlying hu,mL hd,run_underlying hdx,hn,hle,hnew,this]
def Ctx.void(c:Ctx):Ctx:=
 {w:=c.w,n:=c.n+1,blk:=c.blk,ver:=fun i=>if i=c.n then 1 else c.ver i,vd:=fun i=>if i=c.n then true else c.vd i,stable:=c.stable,base:=c.base}
theorem Ext.void(c:Ctx):Ext c c.void:=
 ⟨Nat.le_succ _,Nat.le_refl _,fun _ h=>⟨h,rfl⟩,fun i hi=>by simp[Ctx.void,show ¬i=c.n by omega],fun i hi _=>⟨rfl,by simp[Ctx.void,show ¬i=c.n by omega],fun _=>rfl⟩,rfl,rfl,rfl,rfl⟩
theorem St.void{c:Ctx}{H:AHeap}(hst:St c H):St c.void (H++[.cells 1 []]):=by
 have hn:=hst.n
 have hi':∀{i:Nat} {b:ABlk},(H++[.cells 1 []])[i]?=some b→c.void.vd i=false→i<c.n∧H[i]?=some b∧c.vd i=false:=by
  intro i b hi hd
  have hli:i<H.length+1:=by simpa using(List.getElem?_eq_some_iff.1 hi).1
  simp only[Ctx.void]at hd
  by_cases h:i=c.n
  ·simp[h]at hd
  ·simp only[h,if_false]at hd
   rw[List.getElem?_append_left (by omega)]at hi
   exact⟨by omega,hi,hd⟩
 refine⟨by simp[Ctx.void,hn],fun i hi hd=>?_,fun i j b b' hi hj hb hb' di dj he=>?_,fun k hk=>?_,fun i b hi=>?_⟩
 ·simp only[Ctx.void]at hi hd ⊢
  by_cases h:i=c.n
  ·simp[h]at hd
  ·simp only[h,if_false]at hd
   exact hst.lt i (by omega) hd
 ·obtain⟨h1,h2,h3⟩:=hi' hi di
  obtain⟨g1,g2,g3⟩:=hi' hj dj
  exact hst.inj i j b b' h2 g2 hb hb' h3 g3 he
 ·obtain⟨h1,h2⟩:=hst.st k hk
  refine⟨h1,fun i b hi hb hd=>?_⟩
  obtain⟨g1,g2,g3⟩:=hi' hi hd
  exact h2 i b g2 hb g3
 ·have hli:i<H.length+1:=by simpa using(List.getElem?_eq_some_iff.1 hi).1
  by_cases h:i=c.n
  ·subst h
   rw[hn]at hi
   simp at hi
   subst hi
   exact .void 1 (by simp[Ctx.void]) (by simp[Ctx.void])
  ·rw[List.getElem?_append_left (by omega)]at hi
   exact(hst.rep i b hi).mono (Ext.void c) (by omega) (fun j hj hv=>by simp[Ctx.void,show ¬j=c.n by omega,hv]) (by simp[Ctx.void,h]) (fun _=>rfl)
def Ctx.rever(c:Ctx)(i:Nat):Ctx:={c with ver:=fun j=>if j=i then c.ver i+1 else c.ver j}
theorem Ext.rever(c:Ctx)(i:Nat):Ext c (c.rever i):=by
 refine⟨Nat.le_refl _,Nat.le_refl _,fun _ h=>⟨h,rfl⟩,fun j hj=>?_,fun j hj _=>⟨rfl,rfl,fun _=>rfl⟩,rfl,rfl,rfl,rfl⟩
 simp only[Ctx.rever]
 split
 ·rename_i h;subst h;omega
 ·omega
theorem St.rebump{c:Ctx}{H:AHeap}(hst:St c H){i ver:Nat}{B B':ABlk}(hi:H[i]?=some B)(hv:ver≠0)(hver:c.ver i=ver)(hB:BRep (c.rever i) i B')(hBl0:B.live:=by trivial):
  Ext c (c.rever i)∧St (c.rever i) (aD H i B'):=by
 have hlt:i<H.length:=(List.getElem?_eq_some_iff.1 hi).1
 refine⟨Ext.rever c i,⟨by simp[aD,Ctx.rever,hst.n],hst.lt,fun j k b b' hj hk hb hb' dj dk he=>?_,fun k hk=>⟨(hst.st k hk).1,fun j b hj hb hd=>?_⟩,fun j b hj=>?_⟩⟩
 ·simp only[aD]at hj hk
  have h1:∃x,H[j]?=some x∧x.live:=by
   by_cases h:j=i
   ·subst h;exact⟨B,hi,hBl0⟩
   ·rw[List.getElem?_set_ne (by omega)]at hj;exact⟨b,hj,hb⟩
  have h2:∃x,H[k]?=some x∧x.live:=by
   by_cases h:k=i
   ·subst h;exact⟨B,hi,hBl0⟩
   ·rw[List.getElem?_set_ne (by omega)]at hk;exact⟨b',hk,hb'⟩
  obtain⟨x,x1,x2⟩:=h1
  obtain⟨y,y1,y2⟩:=h2
  exact hst.inj j k x y x1 y1 x2 y2 dj dk he
 ·simp only[aD]at hj
  by_cases h:j=i
  ·subst h;exact(hst.st k hk).2 j B hi hBl0 hd
  ·rw[List.getElem?_set_ne (by omega)]at hj;exact(hst.st k hk).2 j b hj hb hd
 ·by_cases h:j=i
  ·subst h
   simp[aD,hlt]at hj
   subst hj
   exact hB
  ·simp only[aD]at hj
   rw[List.getElem?_set_ne (by omega)]at hj
   have hjn:j<c.n:=by rw[hst.n];exact(List.getElem?_eq_some_iff.1 hj).1
   refine(hst.rep j b hj).mono (Ext.rever c i) hjn (fun k _ hk0=>?_) (by simp[Ctx.rever,h]) (fun _=>rfl)
   simp only[Ctx.rever]
   have:k≠i:=fun e=>hv (by rw[←hver,←e];exact hk0)
   simp[this,hk0]
theorem rep_append3{c:Ctx}{xs ys:List AV}{us vs rest:Array Value}(h1:us.size=xs.length)(h2:∀(i:Nat) (y:AV) (u:Value),xs[i]?=some y→us[i]?=some u→Rep c y u)
  (h3:vs.size=ys.length) (h4:∀(i:Nat) (y:AV) (u:Value),ys[i]?=some y→vs[i]?=some u→Rep c y u) (i:Nat) (y:AV) (u:Value) (hi:(xs++ys)[i]?=some y) (hu:(us++vs++rest)[i]?=some u):Rep c y u:=by
 by_cases hlt:i<xs.length
 ·rw[List.getElem?_append_left hlt]at hi
  rw[Array.append_assoc,Array.getElem?_append_left (by omega)]at hu
  exact h2 _ _ _ hi hu
 ·rw[List.getElem?_append_right (by omega)]at hi
  have hlt2:=(List.getElem?_eq_some_iff.1 hi).1
  rw[Array.append_assoc,Array.getElem?_append_right (by omega),Array.getElem?_append_left (by omega),h1]at hu
  exact h4 _ _ _ hi hu
set_option maxHeartbeats 1600000 in
theorem aappend_sound{c:Ctx}{H:AHeap}{ts tx ty:TypeId}{s x:AV}{vs vx:Value}(hst:St c H)(hsr:Rep c s vs)(hx:Rep c x vx)(hs:(tR P ts tx s x H).s):
  Runs P (Builtin.append_ #[ts,tx] ty #[vs,vx]) c (tR P ts tx s x H).v (tR P ts tx s x H).H:=by
 unfold tR at *
 cases hu:P.underlying ts with
 |none=>simp[hu]at hs
 |some dts=>
  cases dts<;>simp only[hu]at hs
  case slice e=>
   simp only
   cases s<;>simp only at hs
   case sl full es=>
    obtain⟨hok,hni,rfl,hz,hes,hsrc,hb,hb0⟩:=hs
    simp only
    have hsl:aYv (.sl true es) (P.cellsOf e) H:=hes
    obtain⟨q1,q2,us,q3,q4,q5⟩:=srcCells_sound (P:=P) hst hx hsrc
    obtain⟨base,len,cap,sz,vs',rfl,rfl,g2,g3,g4, -⟩:=hsr.sl_inv
    have hcap:=g3 rfl
    subst hcap
    by_cases hn:aFa x=0
    · -- nothing is appended to nothing
      have hes0:es=[]:=hz.resolve_right (fun h=>h hn)
      subst hes0
      have hus:us= #[]:=by
       have:us.size=0:=by rw[q4,q2,hn];simp
       exact Array.eq_empty_of_size_eq_zero this
      have hrun:=run_append_room' (P:=P) (w':=c.w) (ty:=ty) (base:=base) (len:=0) (cap:=0) hu hok hni q1 (by omega) q3 (fun a _=>by rw[hus];simp[storeCells]) (fun _=>rfl)
      have hcs:aYu x H=[]:=List.eq_nil_of_length_eq_zero (by rw[q2,hn];simp)
      refine⟨c.void,_,hrun,?_,Ext.void c,?_⟩
      ·rw[hcs]
       exact hst.void
      ·rw[hn]
       refine .osl _ _ _ _ _ _ _ (by simp[Ctx.void,hst.n]) (by simp[Ctx.void,hst.n]) rfl (by simp) (fun _ _=>⟨rfl,rfl,base,rfl⟩) (fun _ hd=>by simp[Ctx.void,hst.n]at hd)
    ·obtain⟨-,p2,os',p3,p4,p5⟩:=srcCells_sound (P:=P) hst.draw (hsr.mono (Ext.draw c)) hsl
     obtain⟨-, -,us',r3,r4,r5⟩:=srcCells_sound (P:=P) hst.draw (hx.mono (Ext.draw c)) hsrc
     obtain⟨nc,rest,k1,k2,k3⟩:=run_append_grow' (P:=P) (ty:=ty) (w:=c.w) hu hok hni q1 rfl (by omega) hb hb0 p3 r3
     have hS:=hst.draw.push (.cells (os'++us'++rest) e) (B:=.cells 1 (es.flatMap AV.cells++aYu x H)) 1 (by
      refine .cells _ _ _ e (0,0) (by simp[Ctx.push]) (by simp[Ctx.push]) (by simp only[Ctx.push,if_true];exact jP _ _) ?_ (.inr (Nat.le_refl _)) (fun i y u hi hu=>?_)
      ·simp only[List.length_append,Array.size_append];rw[p4,r4];simp only[aYu];omega
      ·exact(rep_append3 p4 p5 r4 r5 i y u hi hu).mono (Ext.push hst.draw _ 1))
     refine⟨_,_,k3,hS,(Ext.draw c).trans (Ext.push hst.draw _ 1),?_⟩
     refine .osl _ _ _ _ _ _ _ (by simp[Ctx.push,Ctx.draw,hst.n]) (by simp[Ctx.push,Ctx.draw,hst.n]) rfl (le_of_bytes hb hb0) (fun _ hd=>by simp[Ctx.push,Ctx.draw,hst.n]at hd) (fun _ _=>?_)
     refine⟨_,nc,(os'++us'++rest).size,rfl,Nat.le_refl _,k1,.inr (by simp[Ctx.push,Ctx.draw,hst.n]),?_,?_⟩
     ·simp only[bsize,Ctx.push,Ctx.draw,hst.n,if_true]
      have:=jP {c.w with drawn:=c.w.drawn+1} (.cells (os'++us'++rest) e)
      simp only at this
      rw[this]
     ·simp only[Array.size_append]
      rw[p4,r4,k2]
      have e1:(aYu (.sl true es) H).length=es.length * P.cellsOf e:=p2
      rw[e1,q2,←Nat.add_mul,←Nat.add_mul]
      have:es.length+aFa x+(nc-(es.length+aFa x))=nc:=by omega
      rw[this]
      omega
   case osl sz i v off len lc=>
    simp only
    cases hh:hget H i with
    |cells ver cs=>
     simp only[hh]at hs ⊢
     by_cases hll:len=lc
     ·rw[if_pos hll]at hs ⊢
      subst hll
      obtain⟨hok,hni,rfl,hv0,rfl,rfl,hlen,hsrc,hb,hb0,hone⟩:=hs
      have hver:=hst.ver_eq hh
      have hslr:aYv (.osl (P.cellsOf e) i v 0 len len) (P.cellsOf e) H:=by
       refine⟨rfl,by simp[tQ,hh],?_⟩
       simp only[hh];omega
      obtain⟨q1,q2,us,q3,q4,q5⟩:=srcCells_sound (P:=P) hst hx hsrc
      obtain⟨base,cap,rfl,g2,g2',g3,g4⟩:=hsr.osl_inv hver
      have hi:i<c.n:=by rw[hst.n];exact bP hh trivial
      have hsome:=cZ hh trivial
      by_cases hroom:len+aFa x≤cap
      · -- it fits
        cases hd:c.vd i with
        |true=>
         obtain⟨rfl,rfl⟩:=g3 hd
         have hn:aFa x=0:=by omega
         have hcs0:cs=[]:=List.eq_nil_of_length_eq_zero (by omega)
         have hsc:aYu x H=[]:=List.eq_nil_of_length_eq_zero (by rw[q2,hn];simp)
         have hus:us= #[]:=Array.eq_empty_of_size_eq_zero (by rw[q4,q2,hn];simp)
         have hrun:=run_append_room' (P:=P) (w':=c.w) (ty:=ty) (base:=base) (len:=0) (cap:=0) hu hok hni q1 (by omega) q3 (fun a _=>by rw[hus];simp[storeCells]) (fun _=>rfl)
         obtain⟨hx',hs'⟩:=hst.rebump (B':=.cells (v+1) (cs++aYu x H)) hsome hv0 hver (by
          rw[hcs0,hsc]
          exact .void _ (by simp[Ctx.rever,hver]) (by simp[Ctx.rever,hd]))
         refine⟨c.rever i,_,hrun,hs',hx',?_⟩
         rw[hn]
         exact .osl _ _ _ _ _ _ _ hi (by simp[Ctx.rever,hver]) rfl (by omega) (fun _ _=>⟨rfl,rfl,base,rfl⟩) (fun _ hd'=>by simp[Ctx.rever,hd]at hd')
        |false=>
         obtain⟨p1,m,p2,p3⟩:=g4 hd
         obtain⟨_,_,vs',e',fr,hb',hl',hf,hr⟩:=hst.cells hh hd
         have hm:vs'.size=m:=by simp[bsize,hb']at p2;exact p2
         rcases Nat.eq_zero_or_pos cap with hc0|hcpos
         · -- no room at all: nothing is appended
           subst hc0
           have hn:aFa x=0:=by omega
           have hl0:len=0:=by omega
           subst hl0
           have hsc:aYu x H=[]:=List.eq_nil_of_length_eq_zero (by rw[q2,hn];simp)
           have hus:us= #[]:=Array.eq_empty_of_size_eq_zero (by rw[q4,q2,hn];simp)
           have hrun:=run_append_room' (P:=P) (w':=c.w) (ty:=ty) (base:=base) (len:=0) (cap:=0) hu hok hni q1 (by omega) q3 (fun a _=>by rw[hus];simp[storeCells]) (fun _=>rfl)
           obtain⟨hx',hs'⟩:=hst.rebump (B':=.cells (v+1) (cs++aYu x H)) hsome hv0 hver (by
            rw[hsc,List.append_nil]
            refine .cells _ _ vs' e' fr (by simp[Ctx.rever,hver]) (by simp[Ctx.rever,hd]) (by simpa[Ctx.rever]using hb') hl' hf (fun j y u h1 h2=>(hr j y u h1 h2).mono (Ext.rever c i)))
           refine⟨c.rever i,_,hrun,hs',hx',?_⟩
           rw[hn]
           exact .osl _ _ _ _ _ _ _ hi (by simp[Ctx.rever,hver]) rfl (by omega) (fun _ hd'=>by simp[Ctx.rever,hd]at hd') (fun _ _=>⟨_,0,m,rfl,Nat.le_refl _,Nat.le_refl _,.inl rfl,by simpa[Ctx.rever]using p2,by omega⟩)
         ·have hbase:base=some ⟨c.blk i,0,none⟩:=p1.resolve_left (by omega)
          subst hbase
          have hmul:(len+aFa x) * P.cellsOf e≤cap * P.cellsOf e:=Nat.mul_le_mul_right _ hroom
          have hmul':(len+aFa x) * P.cellsOf e=len * P.cellsOf e+aFa x * P.cellsOf e:=Nat.add_mul _ _ _
          have honeu:∀u∈us.toList,u.oneCell'=true:=by
           intro u hu'
           obtain⟨k,hk1,hk2⟩:=List.getElem_of_mem hu'
           simp only[Array.length_toList]at hk1
           have hy:(aYu x H)[k]?=some ((aYu x H)[k]'(by omega)):=List.getElem?_eq_getElem (by omega)
           exact(q5 k _ u hy (by rw[←hk2];simp)).one (List.all_eq_true.1 hone _ (List.getElem_mem _))
          have hst1:=run_storeCells (P:=P) (w:=c.w) (b:=c.blk i) (off:=len * P.cellsOf e) us.toList hb' (by simp;rw[q4,q2];omega) hf honeu
          have hrun:=run_append_room' (P:=P) (ty:=ty) (base:=some ⟨c.blk i,0,none⟩) (len:=len) (cap:=cap) hu hok hni q1 hroom q3 (fun a ha=>by cases ha;rw[rB,Nat.zero_add];exact hst1) (fun h=>by cases h)
          obtain⟨hlt,he⟩:=Array.getElem?_eq_some_iff.1 hb'
          have hvs:(bCv vs' (len * P.cellsOf e) us.toList).size=vs'.size:=zA _ _ _
          obtain⟨hx',hs'⟩:=hst.bump (B':=.cells (v+1) (cs++aYu x H)) hsome trivial (by rw[hver];exact hv0) (World.putCells c.w (c.blk i) (bCv vs' (len * P.cellsOf e) us.toList) e' fr) (c.blk i) (by simp[World.putCells]) (by simpa[World.putCells]using hlt) (.inr ⟨rfl,hd⟩)
           (fun b _ hne=>heap_putCells_other hne) rfl rfl rfl (by
            refine .cells _ _ (bCv vs' (len * P.cellsOf e) us.toList) e' fr (by simp[Ctx.bump,hver]) (by simp[Ctx.bump]) (by simp only[Ctx.bump,if_true];exact heap_putCells_same hlt) (by rw[hvs,List.length_append,q2];omega) (by rw[hvs];exact hf) (fun j y u h1 h2=>?_)
            refine Rep.mono (c:=c) (hst.bump_ext hsome trivial (by rw[hver];exact hv0) _ _ (by simp[World.putCells]) (.inr ⟨rfl,hd⟩) (fun b _ hne=>heap_putCells_other hne) rfl rfl rfl) ?_
            rw[zB _ _ _ (aYu x H).length (by simpa using q4) (by rw[q2];omega)]at h2
            by_cases hj:j<cs.length
            ·rw[List.getElem?_append_left hj]at h1
             rw[if_neg (by omega)]at h2
             exact hr _ _ _ h1 h2
            ·rw[List.getElem?_append_right (by omega)]at h1
             have hlt2:=(List.getElem?_eq_some_iff.1 h1).1
             rw[if_pos (by omega)]at h2
             rw[hlen]at h2
             exact q5 _ _ _ h1 (by simpa using h2))
          refine⟨c.bump i _ _,_,hrun,hs',hx',?_⟩
          exact .osl _ _ _ _ _ _ _ hi (by simp[Ctx.bump,hver]) rfl (le_of_bytes hb hb0) (fun _ hd'=>by simp[Ctx.bump]at hd') (fun _ _=>⟨_,cap,m,rfl,Nat.le_refl _,hroom,.inr (by simp[Ctx.bump]),by rw[←hm,←hvs];exact bsize_of (by simp only[Ctx.bump,if_true];exact heap_putCells_same hlt),p3⟩)
      · -- a new array
        obtain⟨-,p2,os',p3,p4,p5⟩:=srcCells_sound (P:=P) hst.draw (hsr.mono (Ext.draw c)) hslr
        obtain⟨-, -,us',r3,r4,r5⟩:=srcCells_sound (P:=P) hst.draw (hx.mono (Ext.draw c)) hsrc
        obtain⟨nc,rest,k1,k2,k3⟩:=run_append_grow' (P:=P) (ty:=ty) (w:=c.w) hu hok hni q1 rfl (by omega) hb hb0 p3 r3
        have hold:aYu (.osl (P.cellsOf e) i v 0 len len) H=cs:=by
         simp only[aYu,hh,List.drop_zero]
         rw[hlen,List.take_length]
        rw[hold]at p4 p5
        obtain⟨hx',hs'⟩:=hst.draw.bump (B':=.cells (v+1) (cs++aYu x H)) hsome trivial (by simpa[Ctx.draw,hver]using hv0) (World.alloc {c.w with drawn:=c.w.drawn+1} (.cells (os'++us'++rest) e)) c.w.heap.size (by simp[Ctx.draw]) (by simp) (.inl (by simp[Ctx.draw]))
         (fun b hlt _=>kS (by simpa[Ctx.draw]using hlt)) rfl rfl rfl (by
          refine .cells _ _ _ e (0,0) (by simp[Ctx.bump,Ctx.draw,hver]) (by simp[Ctx.bump]) (by simp only[Ctx.bump,if_true];exact jP _ _) ?_ (.inr (Nat.le_refl _)) (fun j y u hi hu=>?_)
          ·simp only[List.length_append,Array.size_append];omega
          ·exact(rep_append3 p4 p5 r4 r5 j y u hi hu).mono (hst.draw.bump_ext hsome trivial (by simpa[Ctx.draw,hver]using hv0) _ _ (by simp[Ctx.draw]) (.inl (by simp[Ctx.draw])) (fun b hlt _=>kS (by simpa[Ctx.draw]using hlt)) rfl rfl rfl))
        refine⟨c.draw.bump i _ _,_,k3,hs',(Ext.draw c).trans hx',?_⟩
        refine .osl _ _ _ _ _ _ _ hi (by simp[Ctx.bump,Ctx.draw,hver]) rfl (le_of_bytes hb hb0) (fun _ hd=>by simp[Ctx.bump]at hd) (fun _ _=>?_)
        refine⟨_,nc,(os'++us'++rest).size,rfl,Nat.le_refl _,k1,.inr (by simp[Ctx.bump]),?_,?_⟩
        ·exact bsize_of (by simp only[Ctx.bump,if_true];exact jP _ _)
        ·simp only[Array.size_append]
         rw[p4,r4,k2,q2,←hlen,←Nat.add_mul,←Nat.add_mul]
         have:len+aFa x+(nc-(len+aFa x))=nc:=by omega
         rw[this]
         omega
     ·rw[if_neg hll]at hs ⊢
      obtain⟨hok,hni,rfl,rfl,hlc,hle,hsrc,hone⟩:=hs
      have hver:=hst.ver_eq hh
      obtain⟨q1,q2,us,q3,q4,q5⟩:=srcCells_sound (P:=P) hst hx hsrc
      obtain⟨base,cap,rfl,g2,g2',g3,g4⟩:=hsr.osl_inv hver
      have hi:i<c.n:=by rw[hst.n];exact bP hh trivial
      cases hd:c.vd i with
      |true=>have:=g3 hd;omega
      |false=>
       obtain⟨p1,m,p2,p3⟩:=g4 hd
       have hbase:base=some ⟨c.blk i,off,none⟩:=p1.resolve_left (by omega)
       subst hbase
       have honeu:∀u∈us.toList,u.oneCell'=true:=by
        intro u hu'
        obtain⟨k,hk1,hk2⟩:=List.getElem_of_mem hu'
        simp only[Array.length_toList]at hk1
        have hy:(aYu x H)[k]?=some ((aYu x H)[k]'(by omega)):=List.getElem?_eq_getElem (by omega)
        exact(q5 k _ u hy (by rw[←hk2];simp)).one (List.all_eq_true.1 hone _ (List.getElem_mem _))
       have hmul:(len+aFa x) * P.cellsOf e≤lc * P.cellsOf e:=Nat.mul_le_mul_right _ hle
       have hmul':(len+aFa x) * P.cellsOf e=len * P.cellsOf e+aFa x * P.cellsOf e:=Nat.add_mul _ _ _
       obtain⟨w',hw',hx',hs'⟩:=hst.putCells (P:=P) hh hd (off:=off+len * P.cellsOf e) (ys:=aYu x H) (us:=us.toList) (by rw[q2];omega) (by simpa using q4) (fun k y u h1 h2=>q5 k y u h1 (by simpa using h2)) honeu
       have hrun:=run_append_room' (P:=P) (ty:=ty) (base:=some ⟨c.blk i,off,none⟩) (len:=len) (cap:=cap) hu hok hni q1 (by omega) q3 (fun a ha=>by cases ha;rw[rB];exact hw') (fun h=>by cases h)
       refine⟨{c with w:=w'},_,hrun,hs',hx',?_⟩
       refine Rep.mono hx' (.osl _ _ _ _ _ _ _ hi (by rw[hver];exact Nat.le_refl _) rfl hsr.osl_R (fun _ hd'=>by rw[hd]at hd';cases hd') (fun _ _=>⟨_,cap,m,rfl,hle,g2',.inr rfl,p2,p3⟩))
    |_=>simp[hh]at hs
end Go.Aw
/- More operations of the abstract machine: slices that are made, copy, ranges over texts. No condition. -/
namespace Go.Aw
open Go
set_option linter.unusedSimpArgs false
variable {P:Program}
def aBA(P:Program)(t:TypeId)(l c:AV)(H:AHeap):Res:=
 match P.underlying t,l,c with
 |some (.slice e),.int _ l,.int _ c=>⟨.osl (P.cellsOf e) H.length 1 0 l.toNat c.toNat,H++[.cells 1 ((List.replicate c.toNat (aU P e)).flatMap AV.cells)],
   aS P e=true∧0≤l∧l≤c∧c≤9223372036854775807∧c.toNat * P.bytesOf e≤140737488355328⟩
 |_,_,_=>⟨.top,H,False⟩
theorem wrap_i64_id{n:Int}(h1: -9223372036854775808≤n)(h2:n≤9223372036854775807):IntKind.i64.wrap n=n:=by
 simp only[IntKind.wrap,IntKind.signed,IntKind.bits,Bool.true_and]
 split
 ·rename_i h;have h:=of_decide_eq_true h;omega
 ·rename_i h;have h:¬n % 2 ^ 64≥2 ^ (64-1):=fun q=>h (decide_eq_true q);omega
theorem aDL{c:Ctx}{H:AHeap}{t:TypeId}{l k:AV}{vl vk:Value}(hst:St c H)(hl:Rep c l vl)(hk:Rep c k vk)(hs:(aBA P t l k H).s):
  Runs P (Instr.makeSlice t vl vk) c (aBA P t l k H).v (aBA P t l k H).H:=by
 unfold aBA at *
 split at hs
 ·rename_i e k1 l k2 n hu
  obtain⟨hok,h0,hle,hmax,hb⟩:=hs
  rw[hl.int_inv,hk.int_inv]
  simp only[aS,Bool.and_eq_true,beq_iff_eq]at hok
  obtain⟨⟨q1,q2⟩,q3⟩:=hok
  obtain⟨d,hd⟩:=Option.isSome_iff_exists.1 q1
  obtain⟨i,hi,hci⟩:=oG hd
  obtain⟨z,hz1,hz2⟩:=sT (P:=P) q2 c
  have hzs:z.cells.size=P.cellsOf e:=by rw[(hz2.cells q2).1,q3]
  have hbytes:P.bytesOf e=i.bytes:=by simp[Program.bytesOf,hi]
  have hw1:IntKind.i64.wrap l=l:=wrap_i64_id (by omega) (by omega)
  have hw2:IntKind.i64.wrap n=n:=wrap_i64_id (by omega) (by omega)
  have hn:((n.toNat:Nat):Int)=n:=by omega
  have hbn:(i.bytes:Int) * n≤140737488355328:=by
   rw[hbytes,Nat.mul_comm]at hb
   have h2:((i.bytes * n.toNat:Nat):Int)≤((140737488355328:Nat):Int):=Int.ofNat_le.2 hb
   rw[Int.natCast_mul,hn]at h2
   omega
  let zc:Array Value:=if n.toNat * P.cellsOf e=0 then #[]else z.cells
  let ws:Array Value:=(Array.range (n.toNat * P.cellsOf e)).map fun k=>zc[k % zc.size]!
  have hrun:(Instr.makeSlice t (.int k1 l) (.int k2 n)).run P c.w=.ok (.slice (some ⟨c.w.heap.size,0,none⟩) l.toNat n.toNat) (c.w.alloc (.cells ws e)):=by
   have c1:(decide (n<0)||decide ((i.bytes:Int) * n>2 ^ 48))=false:=by
    rw[Bool.or_eq_false_iff];exact⟨by simp;omega,by simp;omega⟩
   have c2:((decide (n<0)||decide ((i.bytes:Int) * n>2 ^ 48))||decide (l<0)||decide (l>n))=false:=by
    rw[c1,Bool.false_or,Bool.or_eq_false_iff];exact⟨by simp;omega,by simp;omega⟩
   have hroom:¬(n.toNat * i.bytes>roomBytes):=by
    rw[hbytes]at hb
    have:roomBytes=140737488355328:=rfl
    omega
   simp only[Instr.makeSlice,Sem.run_bind,run_underlying hu,Result.andThen_ok,asInt,asIntOf,Sem.run_pure,typeInfo,run_program,hi,hw1,hw2,c2,Bool.false_eq_true,if_false,askRoom,hroom,mL hd]
   by_cases hz:n.toNat * P.cellsOf e=0
   ·simp only[hz,if_true,Sem.run_pure,Result.andThen_ok,newRow,Sem.run_bind]
    simp only[ws,zc,hz,if_true]
    rfl
   ·simp only[hz,if_false,Sem.run_bind,hz1,Sem.run_pure,Result.andThen_ok,newRow]
    simp only[ws,zc,hz,if_false]
    rfl
  have hws:ws.size=n.toNat * P.cellsOf e:=by simp[ws]
  have hcell:∀x∈List.replicate n.toNat (aU P e),x.cells.length=P.cellsOf e:=fun x hx=>by rw[(List.mem_replicate.1 hx).2];exact q3
  have hlen:=length_flatMap_cells hcell
  rw[List.length_replicate]at hlen
  have hS:=hst.push (.cells ws e) (B:=.cells 1 ((List.replicate n.toNat (aU P e)).flatMap AV.cells)) 1 (by
   refine .cells _ _ ws e (0,0) (by simp[Ctx.push]) (by simp[Ctx.push]) (by simp only[Ctx.push,if_true];exact jP _ _) (by rw[hlen,hws];exact Nat.le_refl _) (.inr (Nat.le_refl _)) (fun j y u hj hu=>?_)
   have hjl:j<n.toNat * P.cellsOf e:=by have:=(List.getElem?_eq_some_iff.1 hj).1;omega
   have hs0:0<P.cellsOf e:=Nat.pos_of_ne_zero fun h=>by rw[h,Nat.mul_zero]at hjl;omega
   have hm:j % P.cellsOf e<P.cellsOf e:=Nat.mod_lt _ hs0
   have hdiv:j / P.cellsOf e * P.cellsOf e+j % P.cellsOf e=j:=by rw[Nat.mul_comm];exact Nat.div_add_mod _ _
   have h1:=get_flatMap_cells hcell (j / P.cellsOf e) (j % P.cellsOf e) hm
   rw[hdiv,hj]at h1
   have hdl:j / P.cellsOf e<n.toNat:=Nat.div_lt_of_lt_mul (by rw[Nat.mul_comm];exact hjl)
   rw[List.getElem?_replicate,if_pos hdl,Option.bind_some]at h1
   have hzc:zc=z.cells:=if_neg (by omega)
   have h2:ws[j]?=some (zc[j % zc.size]!):=by simp only[ws,Array.getElem?_map];rw[Array.getElem?_eq_getElem (by simpa using hjl)];simp
   rw[h2,hzc,hzs]at hu
   cases hu
   refine Rep.mono (Ext.push hst _ 1) ((hz2.cells q2).2 _ _ _ h1.symm ?_)
   rw[getElem!_pos z.cells (j % P.cellsOf e) (by omega)]
   exact Array.getElem?_eq_getElem _)
  refine⟨_,_,hrun,hS,Ext.push hst _ 1,?_⟩
  refine .osl _ _ _ _ _ _ _ (by simp[Ctx.push,hst.n]) (by simp[Ctx.push,hst.n]) rfl (by omega) (fun _ hd=>by simp[Ctx.push,hst.n]at hd) (fun _ _=>?_)
  refine⟨_,n.toNat,n.toNat * P.cellsOf e,rfl,by omega,Nat.le_refl _,.inr (by simp[Ctx.push,hst.n]),?_,by omega⟩
  simp only[bsize,Ctx.push,hst.n,if_true]
  rw[jP]
  exact congrArg some hws
 ·exact hs.elim
def aYw(P:Program)(t:TypeId)(d x:AV)(H:AHeap):Res:=
 match P.underlying t,d with
 |some (.slice e),.osl sz i v off len _=>match hget H i with
  |.cells ver cs=>⟨.int .i64 (aFa x),aD H i (.cells ver (cT cs off (aYu x H))),
    v=ver∧(P.underlying e).isSome=true∧sz=P.cellsOf e∧off+len * sz≤cs.length∧aFa x≤len∧aYv x sz H∧(aYu x H).all AV.one=true⟩
  |_=>⟨.top,H,False⟩
 |_,_=>⟨.top,H,False⟩
theorem aKK{c:Ctx}{H:AHeap}{t u ty:TypeId}{d x:AV}{vd vx:Value}(hst:St c H)(hd:Rep c d vd)(hx:Rep c x vx)(hs:(aYw P t d x H).s):
  Runs P (Builtin.copy_ #[t,u] ty #[vd,vx]) c (aYw P t d x H).v (aYw P t d x H).H:=by
 unfold aYw at *
 split at hs
 ·rename_i e sz i v off len lc hu
  cases hh:hget H i with
  |cells ver cs=>
   simp only[hh]at hs ⊢
   obtain⟨rfl,hde,rfl,hle,hn,hsrc,hone⟩:=hs
   obtain⟨de,hde⟩:=Option.isSome_iff_exists.1 hde
   have hver:=hst.ver_eq hh
   have hR:=hd.osl_R
   obtain⟨q1,q2,us,q3,q4,q5⟩:=srcCells_sound (P:=P) hst hx hsrc
   obtain⟨base,cap,rfl,g2,g2',g3,g4⟩:=hd.osl_inv hver
   have hi:i<c.n:=by rw[hst.n];exact bP hh trivial
   have hmin:Nat.min (aFa x) len=aFa x:=Nat.min_eq_left hn
   have hsome:=cZ hh trivial
   have honeu:∀u∈us.toList,u.oneCell'=true:=by
    intro u hu'
    obtain⟨k,hk1,hk2⟩:=List.getElem_of_mem hu'
    simp only[Array.length_toList]at hk1
    have hy:(aYu x H)[k]?=some ((aYu x H)[k]'(by omega)):=List.getElem?_eq_getElem (by omega)
    exact(q5 k _ u hy (by rw[←hk2];simp)).one (List.all_eq_true.1 hone _ (List.getElem_mem _))
   cases hvd:c.vd i with
   |true=>
    obtain⟨rfl,rfl⟩:=g3 hvd
    have hn0:aFa x=0:=by omega
    have hsc:aYu x H=[]:=List.eq_nil_of_length_eq_zero (by rw[q2,hn0];simp)
    have hus:us= #[]:=Array.eq_empty_of_size_eq_zero (by rw[q4,hsc];rfl)
    have hcs:cT cs off []=cs:=by simp[cT]
    have hset0:aD H i (.cells v cs)=H:=by
     unfold aD
     apply List.ext_getElem?
     intro j
     by_cases hj:j=i
     ·subst hj;rw[List.getElem?_set_self (by rw[←hst.n];exact hi),hsome]
     ·rw[List.getElem?_set_ne (fun q=>hj q.symm)]
    refine⟨c,.int .i64 (aFa x),?_,?_,Ext.refl c,.int _ _ (aCX.2 (by omega))⟩
    ·cases base with
     |none=>simp only[Builtin.copy_,List.getElem?_toArray,List.getElem?_cons_zero,List.getElem?_cons_succ,Sem.run_bind,run_underlying hu,Result.andThen_ok,q1,hmin,mL hde,q3,Sem.run_pure,goInt]
     |some a=>simp[Builtin.copy_,List.getElem?_toArray,List.getElem?_cons_zero,List.getElem?_cons_succ,Sem.run_bind,run_underlying hu,Result.andThen_ok,q1,hn0,mL hde,hn0▸q3,Sem.run_pure,goInt,hus,storeCells]
    ·rw[hsc,hcs,hset0];exact hst
   |false=>
    obtain⟨p1,m,p2,p3⟩:=g4 hvd
    have hmul:aFa x * P.cellsOf e≤len * P.cellsOf e:=Nat.mul_le_mul_right _ hn
    obtain⟨w',hw',hx',hs'⟩:=hst.putCells (P:=P) hh hvd (off:=off) (ys:=aYu x H) (us:=us.toList) (by rw[q2];omega) (by simpa using q4) (fun k y u h1 h2=>q5 k y u h1 (by simpa using h2)) honeu
    rcases Nat.eq_zero_or_pos cap with hc0|hcpos
    ·have hn0:aFa x=0:=by omega
     have hsc:aYu x H=[]:=List.eq_nil_of_length_eq_zero (by rw[q2,hn0];simp)
     have hus:us= #[]:=Array.eq_empty_of_size_eq_zero (by rw[q4,hsc];rfl)
     have hcs:cT cs off []=cs:=by simp[cT]
     have hset0:aD H i (.cells v cs)=H:=by
      unfold aD
      apply List.ext_getElem?
      intro j
      by_cases hj:j=i
      ·subst hj;rw[List.getElem?_set_self (by rw[←hst.n];exact hi),hsome]
      ·rw[List.getElem?_set_ne (fun q=>hj q.symm)]
     refine⟨c,.int .i64 (aFa x),?_,?_,Ext.refl c,.int _ _ (aCX.2 (by omega))⟩
     ·cases base with
      |none=>simp only[Builtin.copy_,List.getElem?_toArray,List.getElem?_cons_zero,List.getElem?_cons_succ,Sem.run_bind,run_underlying hu,Result.andThen_ok,q1,hmin,mL hde,q3,Sem.run_pure,goInt]
      |some a=>simp only[Builtin.copy_,List.getElem?_toArray,List.getElem?_cons_zero,List.getElem?_cons_succ,Sem.run_bind,run_underlying hu,Result.andThen_ok,q1,hmin,mL hde,q3,hus,storeCells,Sem.run_pure,goInt]
     ·rw[hsc,hcs,hset0];exact hst
    ·have hbase:base=some ⟨c.blk i,off,none⟩:=p1.resolve_left (by omega)
     subst hbase
     refine⟨{c with w:=w'},.int .i64 (aFa x),?_,hs',hx',.int _ _ (aCX.2 (by omega))⟩
     simp only[Builtin.copy_,List.getElem?_toArray,List.getElem?_cons_zero,List.getElem?_cons_succ,Sem.run_bind,run_underlying hu,Result.andThen_ok,q1,hmin,mL hde,q3,hw',Sem.run_pure,goInt]
  |_=>simp[hh]at hs
 ·exact hs.elim
def bDY(P:Program)(t:TypeId)(x:AV)(H:AHeap):Res:=
 match P.underlying t,x with
 |some (.slice e),.osl sz i v off len _=>match hget H i with
  |.cells ver cs=>⟨.tup [],aD H i (.cells ver (cT cs off ((List.replicate len (aU P e)).flatMap AV.cells))),
    v=ver∧aS P e=true∧sz=P.cellsOf e∧off+len * sz≤cs.length∧(aU P e).cells.all AV.one=true⟩
  |_=>⟨.top,H,False⟩
 |_,_=>⟨.top,H,False⟩
theorem aDM{H:AHeap}{i:Nat}{b:ABlk}(h:H[i]?=some b):aD H i b=H:=by
 unfold aD
 apply List.ext_getElem?
 intro j
 have hi:=(List.getElem?_eq_some_iff.1 h).1
 by_cases hj:j=i
 ·subst hj;rw[List.getElem?_set_self hi,h]
 ·rw[List.getElem?_set_ne (fun q=>hj q.symm)]
theorem aclear_sound{c:Ctx}{H:AHeap}{t ty:TypeId}{x:AV}{vx:Value}(hst:St c H)(hx:Rep c x vx)(hs:(bDY P t x H).s):
  Runs P (Builtin.clear_ #[t] ty #[vx]) c (bDY P t x H).v (bDY P t x H).H:=by
 unfold bDY at *
 split at hs
 ·rename_i e sz i v off len lc hu
  cases hh:hget H i with
  |cells ver cs=>
   simp only[hh]at hs ⊢
   obtain⟨rfl,hok,rfl,hle,hone⟩:=hs
   simp only[aS,Bool.and_eq_true,beq_iff_eq]at hok
   obtain⟨⟨q1,q2⟩,q3⟩:=hok
   obtain⟨de,hde⟩:=Option.isSome_iff_exists.1 q1
   obtain⟨z,hz1,hz2⟩:=sT (P:=P) q2 c
   have hzs:z.cells.size=P.cellsOf e:=by rw[(hz2.cells q2).1,q3]
   have hver:=hst.ver_eq hh
   obtain⟨base,cap,rfl,g2,g2',g3,g4⟩:=hx.osl_inv hver
   have hsome:=cZ hh trivial
   have hcell:∀x∈List.replicate len (aU P e),x.cells.length=P.cellsOf e:=fun x hx=>by rw[(List.mem_replicate.1 hx).2];exact q3
   have hlen:=length_flatMap_cells hcell
   rw[List.length_replicate]at hlen
   rcases Nat.eq_zero_or_pos len with h0|hpos
   ·subst h0
    have e0:cT cs off ((List.replicate 0 (aU P e)).flatMap AV.cells)=cs:=by simp[cT]
    rw[e0,aDM hsome]
    refine⟨c,.tuple #[],?_,hst,Ext.refl c,.tup [] _ rfl (by simp)⟩
    cases base<;>simp[Builtin.clear_,List.getElem?_toArray,Sem.run_bind,run_underlying hu]
   ·cases hvd:c.vd i with
    |true=>have:=(g3 hvd).1;omega
    |false=>
     obtain⟨p1,m,p2,p3⟩:=g4 hvd
     have hbase:base=some ⟨c.blk i,off,none⟩:=p1.resolve_left (by omega)
     subst hbase
     have hzl:(Builtin.zeroCells z.cells len).size=len * P.cellsOf e:=by rw[size_zeroCells,hzs]
     have hget:∀(k:Nat) (y:AV) (u:Value),((List.replicate len (aU P e)).flatMap AV.cells)[k]?=some y→(Builtin.zeroCells z.cells len).toList[k]?=some u→Rep c y u:=by
      intro k y u hk hu'
      have hkl:k<len * P.cellsOf e:=by have:=(List.getElem?_eq_some_iff.1 hk).1;omega
      have hs0:0<P.cellsOf e:=Nat.pos_of_ne_zero fun h=>by rw[h,Nat.mul_zero]at hkl;omega
      have hm:k % P.cellsOf e<P.cellsOf e:=Nat.mod_lt _ hs0
      have hdiv:k / P.cellsOf e * P.cellsOf e+k % P.cellsOf e=k:=by rw[Nat.mul_comm];exact Nat.div_add_mod _ _
      have h1:=get_flatMap_cells hcell (k / P.cellsOf e) (k % P.cellsOf e) hm
      rw[hdiv,hk]at h1
      have hdl:k / P.cellsOf e<len:=Nat.div_lt_of_lt_mul (by rw[Nat.mul_comm];exact hkl)
      rw[List.getElem?_replicate,if_pos hdl,Option.bind_some]at h1
      have h2:(Builtin.zeroCells z.cells len)[k]?=some (z.cells[k % z.cells.size]!):=by
       simp only[Builtin.zeroCells,Array.getElem?_map];rw[Array.getElem?_eq_getElem (by simpa[hzs]using hkl)];simp
      rw[Array.getElem?_toList,h2,hzs]at hu'
      cases hu'
      refine(hz2.cells q2).2 _ _ _ h1.symm ?_
      rw[getElem!_pos z.cells (k % P.cellsOf e) (by omega)]
      exact Array.getElem?_eq_getElem _
     obtain⟨w',hw',hx',hs'⟩:=hst.putCells (P:=P) hh hvd (off:=off) (ys:=(List.replicate len (aU P e)).flatMap AV.cells) (us:=(Builtin.zeroCells z.cells len).toList) (by omega) (by rw[Array.length_toList,hzl,hlen]) hget (by
      intro u hu'
      obtain⟨k,hk1,hk2⟩:=List.getElem_of_mem hu'
      have hk1':k<len * P.cellsOf e:=by rw[Array.length_toList,hzl]at hk1;exact hk1
      have hy:((List.replicate len (aU P e)).flatMap AV.cells)[k]?=some (((List.replicate len (aU P e)).flatMap AV.cells)[k]'(by omega)):=List.getElem?_eq_getElem (by omega)
      refine(hget k _ u hy (by rw[←hk2];exact List.getElem?_eq_getElem hk1)).one ?_
      obtain⟨x,hx1,hx2⟩:=List.mem_flatMap.1 (List.getElem_mem (show k<((List.replicate len (aU P e)).flatMap AV.cells).length by omega))
      rw[(List.mem_replicate.1 hx1).2]at hx2
      exact List.all_eq_true.1 hone _ hx2)
     obtain⟨n,rfl⟩:∃n,len=n+1:=⟨len-1,by omega⟩
     refine⟨{c with w:=w'},.tuple #[],?_,hs',hx',.tup [] _ rfl (by simp)⟩
     simp[Builtin.clear_,List.getElem?_toArray,Sem.run_bind,run_underlying hu,hz1,hw']
  |_=>simp[hh]at hs
 ·exact hs.elim
def pV(P:Program)(ts tx:TypeId)(s x:AV)(H:AHeap):Res:=
 match s with
 |.sl full (e0::es)=>
  if aFa x=0 then
   match P.underlying ts with
   |some (.slice e)=>⟨.sl full (e0::es),H,aS P e=true∧aL P tx=true∧aYv x (P.cellsOf e) H⟩
   |_=>⟨.top,H,False⟩
  else tR P ts tx (.sl full (e0::es)) x H
 |s=>tR P ts tx s x H
theorem aappendZ_sound{c:Ctx}{H:AHeap}{ts tx ty:TypeId}{s x:AV}{vs vx:Value}(hst:St c H)(hsr:Rep c s vs)(hx:Rep c x vx)(hs:(pV P ts tx s x H).s):
  Runs P (Builtin.append_ #[ts,tx] ty #[vs,vx]) c (pV P ts tx s x H).v (pV P ts tx s x H).H:=by
 unfold pV at *
 split at hs
 ·rename_i full e0 es
  by_cases hn:aFa x=0
  ·simp only[if_pos hn]at hs ⊢
   cases hu:P.underlying ts with
   |none=>simp[hu]at hs
   |some d=>
    cases d<;>simp only[hu]at hs ⊢
    case slice e=>
     obtain⟨hok,hni,hsrc⟩:=hs
     obtain⟨q1,q2,us,q3,q4,q5⟩:=srcCells_sound (P:=P) hst hx hsrc
     obtain⟨base,len,cap,sz,vs',rfl, -⟩:=hsr.sl_inv
     have hle:len≤cap:=by cases hsr;assumption
     have hus:us= #[]:=by
      have:us.size=0:=by rw[q4,q2,hn];simp
      exact Array.eq_empty_of_size_eq_zero this
     have hrun:=run_append_room' (P:=P) (w':=c.w) (ty:=ty) (base:=base) (len:=len) (cap:=cap) hu hok hni q1 (by omega) q3 (fun a _=>by rw[hus];simp[storeCells]) (fun _=>rfl)
     rw[hn,Nat.add_zero]at hrun
     exact⟨c,_,hrun,hst,Ext.refl c,hsr⟩
  ·simp only[if_neg hn]at hs ⊢
   exact aappend_sound hst hsr hx hs
 ·exact aappend_sound hst hsr hx hs
def bDZ(P:Program)(t:TypeId)(x:AV)(H:AHeap):Res:=
 match P.underlying t,x with
 |some .string,.str s=>⟨.iter H.length,H++[.siter s 0],True⟩
 |_,_=>⟨.top,H,False⟩
theorem arange_sound{c:Ctx}{H:AHeap}{t:TypeId}{x:AV}{vx:Value}(hst:St c H)(hx:Rep c x vx)(hs:(bDZ P t x H).s):
  Runs P (Instr.range t vx) c (bDZ P t x H).v (bDZ P t x H).H:=by
 unfold bDZ at *
 split at hs
 ·rename_i s hu
  rw[hx.str_inv]
  have hS:=hst.push (.stringIter ⟨s.toArray⟩ 0) (B:=.siter s 0) 0 (.siter s 0 (by simp[Ctx.push]) (by simp[Ctx.push]) (by simp only[Ctx.push,if_true];exact jP _ _) hx.str_R)
  refine⟨_,.pointer (some ⟨c.w.heap.size,0,none⟩),?_,hS,Ext.push hst _ 0,?_⟩
  ·simp[Instr.range,run_underlying hu,Ctx.push]
  ·exact .iter _ _ (by simp[Ctx.push,hst.n]) rfl (fun _=>by simp[Ctx.push,hst.n])
 ·exact hs.elim
def eX(s:List UInt8)(pos:Nat):Nat×Nat:=Utf8.decode ⟨s.toArray⟩ pos
theorem runeAt_lt(s:List UInt8)(pos:Nat):(eX s pos).1<2147483648:=by
 unfold eX Utf8.decode
 simp only[]
 have he:Utf8.runeError<2147483648:=by decide
 split
 ·simp only[];omega
 ·split
  ·split<;>simp only[]<;>omega
  ·split
   ·split<;>simp only[]<;>omega
   ·split
    ·split<;>simp only[]<;>omega
    ·exact he
def aYx(x:AV)(b:Bool)(H:AHeap):Res:=
 match x,b with
 |.iter i,true=>match hget H i with
  |.siter s pos=>if pos<s.length then⟨.tup [.bool true,.int .i64 pos,.int .i32 (eX s pos).1],aD H i (.siter s (pos+(eX s pos).2)),True⟩else⟨.tup [.bool false],H,True⟩
  |_=>⟨.top,H,False⟩
 |_,_=>⟨.top,H,False⟩
theorem rep_tup1{c:Ctx}{x:AV}{u:Value}(h1:Rep c x u):Rep c (.tup [x]) (.tuple #[u]):=
 .tup _ _ rfl fun i z w p q=>by
  match i,p,q with
  |0,p,q=>simp at p q;subst p;subst q;exact h1
  |i+1,p,_=>simp at p
theorem rep_tup3{c:Ctx}{x y z:AV}{u v w:Value}(h1:Rep c x u)(h2:Rep c y v)(h3:Rep c z w):Rep c (.tup [x,y,z]) (.tuple #[u,v,w]):=
 .tup _ _ rfl fun i z w p q=>by
  match i,p,q with
  |0,p,q=>simp at p q;subst p;subst q;exact h1
  |1,p,q=>simp at p q;subst p;subst q;exact h2
  |2,p,q=>simp at p q;subst p;subst q;exact h3
  |i+3,p,_=>simp at p
theorem aKL{c:Ctx}{H:AHeap}{x:AV}{vx:Value}{b:Bool}{ty:TypeId}(hst:St c H)(hx:Rep c x vx)(hs:(aYx x b H).s):
  Runs P (Instr.next vx b ty) c (aYx x b H).v (aYx x b H).H:=by
 unfold aYx at *
 split at hs
 ·rename_i i
  cases hh:hget H i with
  |siter s pos=>
   simp only[hh]at hs ⊢
   have hsome:=cZ hh trivial
   have hin:i<c.n:=by rw[hst.n];exact bP hh trivial
   have hrep:=hst.rep i _ hsome
   cases hrep with
   |siter _ _ hv hd hb hsl=>
    cases hx with
    |iter _ _ _ _ hval=>
     obtain⟨-,rfl⟩:=hval hv
     have hget:=run_getObj_obj (P:=P) hb (by simp)
     by_cases hp:pos<s.length
     rotate_left
     ·have hn:¬pos<(ByteArray.mk s.toArray).size:=by rw[aCY];exact hp
      simp only[hp,if_false]
      refine⟨c,.tuple #[.bool false],?_,hst,Ext.refl c,rep_tup1 (.bool _)⟩
      simp[Instr.next,hget,hn]
     ·have hn:pos<(ByteArray.mk s.toArray).size:=by rw[aCY];exact hp
      simp only[hp,if_true]
      obtain⟨hlt',he⟩:=Array.getElem?_eq_some_iff.1 hb
      let w':World:={c.w with heap:=c.w.heap.setIfInBounds (c.blk i) (.stringIter ⟨s.toArray⟩ (pos+(eX s pos).2))}
      have hsame:w'.heap[c.blk i]?=some (.stringIter ⟨s.toArray⟩ (pos+(eX s pos).2)):=by simp[w',hlt']
      have hoth:∀b,b≠c.blk i→w'.heap[b]?=c.w.heap[b]?:=fun b hne=>by
       simp only[w'];rw[Array.getElem?_setIfInBounds_ne (fun q=>hne q.symm)]
      obtain⟨hx',hs'⟩:=hst.update (B':=.siter s (pos+(eX s pos).2)) hsome trivial hd w' (by simp[w']) hoth (by simp[bsize,hsame,hb]) rfl rfl rfl (.siter _ _ hv hd hsame hsl)
      refine⟨{c with w:=w'},.tuple #[.bool true,goInt pos,.int .i32 (eX s pos).1],?_,hs',hx',?_⟩
      ·have aD:(setObj (c.blk i) (.stringIter ⟨s.toArray⟩ (pos+(eX s pos).2))).run P c.w=.ok () w':=by
        simp only[setObj,Sem.run,hb,w']
       simp only[eX]at aD
       simp[Instr.next,hget,hn,aD,eX]
      ·exact rep_tup3 (.bool _) (.int _ _ (aCX.2 (by omega))) (.int _ _ (aHK.2 (by have:=runeAt_lt s pos;omega)))
  |_=>simp[hh]at hs
 ·exact hs.elim
end Go.Aw
/- The abstract machine: maps whose keys are strings, or integers: made, looked up, written, deleted from, cleared, gone through. No condition. -/
namespace Go.Aw
open Go
variable {P:Program}
def aYy:TypeDesc→AV→Bool
 |.string,.str _=>true
 |.int k,.int k' _=>decide (k'=k)
 |_,_=>false
def sU:AV→AV→Bool
 |.str s,.str t=>decide (s=t)
 |.int _ a,.int _ b=>decide (a=b)
 |_,_=>false
def keyAt(x:AV):List (AV×AV×Nat)→Option (Nat×AV)
 |[]=>none
 |(y,v,_)::es=>bif sU x y then some (0,v)else(keyAt x es).map fun z=>(z.1+1,z.2)
def keysIn(d:TypeDesc)(es:List (AV×AV×Nat)):Prop:=∀p∈es,aYy d p.1=true
theorem isKey_of{c:Ctx}{d:TypeDesc}{x:AV}{v:Value}(hx:Rep c x v)(h:aYy d x=true):MapKept.IsKey d v:=by
 cases d<;>cases x<;>simp[aYy]at h
 ·rename_i k k' n;subst h;rw[hx.int_inv];rfl
 ·rw[hx.str_inv];trivial
theorem sameNow_key{c:Ctx}{d:TypeDesc}{x y:AV}{u v:Value}(hx:Rep c x u)(hy:Rep c y v)(h1:aYy d x=true)(h2:aYy d y=true):Instr.sameNow d u v=some (sU x y):=by
 cases d<;>cases x<;>simp[aYy]at h1<;>cases y<;>simp[aYy]at h2
 ·rename_i k k1 a k2 b
  subst h1;subst h2
  rw[hx.int_inv,hy.int_inv]
  simp[Instr.sameNow,sU]
  rfl
 ·rename_i a b
  rw[hx.str_inv,hy.str_inv]
  show some ((⟨a.toArray⟩:ByteArray)==⟨b.toArray⟩)=_
  congr 1
  by_cases h:a=b
  ·subst h;rw[sU,decide_eq_true rfl];exact(MapKept.bytes_beq _ _).2 rfl
  ·have h2:¬((⟨a.toArray⟩:ByteArray)=⟨b.toArray⟩):=fun e=>h (by simpa using congrArg (fun x:ByteArray=>x.data.toList) e)
   rw[sU,decide_eq_false h]
   exact Bool.eq_false_iff.2 fun q=>h2 ((MapKept.bytes_beq _ _).1 q)
theorem keyEq_eq{d:TypeDesc}{x y:AV}(h1:aYy d x=true)(h2:aYy d y=true)(h:sU x y=true):x=y:=by
 cases d<;>cases x<;>simp[aYy]at h1<;>cases y<;>simp[aYy]at h2<;>simp[sU]at h
 ·subst h1;subst h2;subst h;rfl
 ·subst h;rfl
theorem findNow_key{c:Ctx}{d:TypeDesc}{x:AV}{u:Value}(hx:Rep c x u)(hk:aYy d x=true):∀(es:List (AV×AV×Nat)) (ents:List MapEntry) (i:Nat),ents.length=es.length→keysIn d es→
  (∀(j:Nat) (p:AV×AV×Nat) (e:MapEntry),es[j]?=some p→ents[j]?=some e→Rep c p.1 e.key∧Rep c p.2.1 e.val∧e.born=p.2.2)→
  match keyAt x es with
  |none=>Instr.findNow d u ents i=some none
  |some (j,y)=>∃v,Instr.findNow d u ents i=some (some (i+j,v))∧Rep c y v∧j<es.length∧(es[j]?).map (·.1)=some x
 |[],[],i,_,_,_=>rfl
 |p::es,e::ents,i,hl,hks,h=>by
  obtain⟨h1,h2,h3⟩:=h 0 p e rfl rfl
  have hkp:=hks p (by simp)
  have ih:=findNow_key hx hk es ents (i+1) (by simpa using hl) (fun q hq=>hks q (by simp[hq])) (fun j q f hq hf=>h (j+1) q f (by simpa using hq) (by simpa using hf))
  have hsame:=sameNow_key hx h1 hk hkp
  obtain⟨p1,p2,p3⟩:=p
  simp only at h1 h2 hkp hsame
  cases hb:sU x p1 with
  |true=>
   rw[hb]at hsame
   simp only[keyAt,hb,cond_true]
   exact⟨e.val,by rw[Instr.findNow,hsame];rfl,h2,by simp,by rw[keyEq_eq hk hkp hb];rfl⟩
  |false=>
   rw[hb]at hsame
   simp only[keyAt,hb,cond_false]
   have hstep:Instr.findNow d u (e::ents) i=Instr.findNow d u ents (i+1):=by rw[Instr.findNow,hsame]
   rw[hstep]
   cases hka:keyAt x es with
   |none=>rw[hka]at ih;exact ih
   |some y=>
    rw[hka]at ih
    obtain⟨v,g1,g2,g3,g4⟩:=ih
    exact⟨v,by rw[g1];simp only[Option.some.injEq,Prod.mk.injEq,and_true];omega,g2,by simp only[List.length_cons];omega,by simpa using g4⟩
def aFb(P:Program)(t:TypeId):Option (TypeDesc×TypeId):=
 match P.underlying t with
 |some (.map k e)=>match P.underlying k with
  |some .string=>some (.string,e)
  |some (.int q)=>some (.int q,e)
  |_=>none
 |_=>none
theorem mapTy_some{t e:TypeId}{d:TypeDesc}(h:aFb P t=some (d,e)):∃k,P.underlying t=some (.map k e)∧P.underlying k=some d:=by
 unfold aFb at h
 split at h
 ·rename_i k e' ht
  split at h
  ·rename_i hk;cases h;exact⟨k,ht,hk⟩
  ·rename_i hk;cases h;exact⟨k,ht,hk⟩
  ·cases h
 ·cases h
def aMs(P:Program)(t:TypeId):TypeDesc:=match aFb P t with
 |some (d,_)=>d
 |none=>.bool
def aMt(P:Program)(t:TypeId):TypeId:=match aFb P t with
 |some (_,e)=>e
 |none=>0
theorem mapTy_of{t:TypeId}(h:(aFb P t).isSome=true):∃k,P.underlying t=some (.map k (aMt P t))∧P.underlying k=some (aMs P t):=by
 obtain⟨⟨d,e⟩,he⟩:=Option.isSome_iff_exists.1 h
 unfold aMt aMs
 rw[he]
 exact mapTy_some he
def bD0(P:Program)(t:TypeId)(o:Option (Nat×AV))(ok:Bool):BR:=match o with
 |some (_,v)=>⟨bif ok then .tup [v,.bool true]else v,True⟩
 |none=>⟨bif ok then .tup [aU P (aMt P t),.bool false]else aU P (aMt P t),(aU P (aMt P t)).known=true⟩
def bD1(P:Program)(t:TypeId)(k:AV)(ok:Bool):ABlk→BR
 |.map es _=>⟨(bD0 P t (keyAt k es) ok).v,keysIn (aMs P t) es∧(bD0 P t (keyAt k es) ok).s⟩
 |_=>tP
def aHW(P:Program)(t:TypeId)(x k:AV)(ok:Bool)(H:AHeap):BR:=
 match x with
 |.map i=>⟨(bD1 P t k ok (hget H i)).v,(aFb P t).isSome=true∧aYy (aMs P t) k=true∧(bD1 P t k ok (hget H i)).s⟩
 |.nilmap=>⟨(bD0 P t none ok).v,(aFb P t).isSome=true∧aYy (aMs P t) k=true∧(bD0 P t none ok).s⟩
 |_=>tP
theorem Rep.map_inv{c:Ctx}{i:Nat}{v:Value}(h:Rep c (.map i) v)(hv:c.ver i=0):v=.map (some (c.blk i)):=by
 cases h with|map _ _ _ _ h=>exact(h hv).2
theorem aAs{c:Ctx}{x y:AV}{u v:Value}(h1:Rep c x u)(h2:Rep c y v):Rep c (.tup [x,y]) (.tuple #[u,v]):=
 .tup _ _ rfl fun i z w p q=>by
  match i,p,q with
  |0,p,q=>simp at p q;subst p;subst q;exact h1
  |1,p,q=>simp at p q;subst p;subst q;exact h2
  |i+2,p,_=>simp at p
theorem aHi{c:Ctx}{H:AHeap}{t:TypeId}{x k:AV}{vx vk:Value}{ok:Bool}(hst:St c H)(hx:Rep c x vx)(hk:Rep c k vk)(hs:(aHW P t x k ok H).s):
  ∃v,(Instr.lookup t vx vk ok).run P c.w=.ok v c.w∧Rep c (aHW P t x k ok H).v v:=by
 unfold aHW at *
 split at hs
 ·rename_i i
  obtain⟨hm,hkd,hs⟩:=hs
  obtain⟨kt,ht,hkt⟩:=mapTy_of hm
  cases hh:hget H i<;>simp only[hh,bD1,tP]at hs ⊢
  rename_i es clock
  obtain⟨_,hv,_,ents,hb,hl,hr⟩:=hst.map hh
  obtain rfl:=hx.map_inv hv
  have hck:=MapKept.run_checkKey (P:=P) (w:=c.w) hkt (isKey_of hk hkd) ents.isEmpty 9999
  have hf:=findNow_key hk hkd es ents.toList 0 (by simpa using hl) hs.1 (fun j p f hp hf=>hr j p f hp (by simpa using hf))
  replace hs:=hs.2
  cases hka:keyAt k es with
  |none=>
   rw[hka]at hs hf
   obtain⟨z,hz,hrz⟩:=sT (P:=P) (t:=aMt P t) hs c
   have hfk:=MapKept.run_findKey (P:=P) (w:=c.w) hkt hf
   cases ok with
   |true=>exact⟨.tuple #[z,.bool false],by simp[Instr.lookup,run_underlying ht,MapKept.run_getObj_map hb,hck,hfk,hz,Result.andThen],aAs hrz (.bool false)⟩
   |false=>exact⟨z,by simp[Instr.lookup,run_underlying ht,MapKept.run_getObj_map hb,hck,hfk,hz,Result.andThen],hrz⟩
  |some y=>
   obtain⟨j,v⟩:=y
   rw[hka]at hs hf
   obtain⟨u,hu,hru,_⟩:=hf
   have hfk:=MapKept.run_findKey (P:=P) (w:=c.w) hkt hu
   cases ok with
   |true=>exact⟨.tuple #[u,.bool true],by simp[Instr.lookup,run_underlying ht,MapKept.run_getObj_map hb,hck,hfk,Result.andThen],aAs hru (.bool true)⟩
   |false=>exact⟨u,by simp[Instr.lookup,run_underlying ht,MapKept.run_getObj_map hb,hck,hfk,Result.andThen],hru⟩
 ·obtain⟨hm,hkd,hs⟩:=hs
  obtain⟨kt,ht,hkt⟩:=mapTy_of hm
  cases hx
  have hck:=MapKept.run_checkKey (P:=P) (w:=c.w) hkt (isKey_of hk hkd) true 9999
  have hfk:=MapKept.run_findKey (P:=P) (w:=c.w) (k:=vk) (l:=[]) (a:=none) hkt rfl
  obtain⟨z,hz,hrz⟩:=sT (P:=P) (t:=aMt P t) hs c
  cases ok with
  |true=>exact⟨.tuple #[z,.bool false],by simp[Instr.lookup,run_underlying ht,hck,hfk,hz,Result.andThen],aAs hrz (.bool false)⟩
  |false=>exact⟨z,by simp[Instr.lookup,run_underlying ht,hck,hfk,hz,Result.andThen],hrz⟩
 ·exact hs.elim
def aFc(H:AHeap):Res:=⟨.map H.length,H++[.map [] 0],True⟩
theorem aFd{c:Ctx}{H:AHeap}{t:TypeId}(hst:St c H):Runs P (Instr.makeMap t none) c (aFc H).v (aFc H).H:=by
 have hS:=hst.push (.map #[] 0) (B:=.map [] 0) 0 (.map [] 0 #[] (by simp[Ctx.push]) (by simp[Ctx.push]) (by simp only[Ctx.push,if_true];exact jP _ _) rfl (fun j p e h=>by simp at h))
 refine⟨_,.map (some c.w.heap.size),?_,hS,Ext.push hst _ 0,?_⟩
 ·simp[Instr.makeMap,Ctx.push]
 ·exact .map _ _ (by simp[Ctx.push,hst.n]) rfl (fun _=>by simp[Ctx.push,hst.n])
def rC(x v:AV)(es:List (AV×AV×Nat))(clock:Nat):List (AV×AV×Nat):=
 match keyAt x es with
 |some (j,_)=>es.modify j fun p=>(x,v,p.2.2)
 |none=>es++[(x,v,clock)]
def kY(x:AV)(es:List (AV×AV×Nat))(clock:Nat):Nat:=match keyAt x es with|some _=>clock|none=>clock+1
theorem mapTurn{c:Ctx}{H:AHeap}{i:Nat}{es:List (AV×AV×Nat)}{clock:Nat}(hst:St c H)(hh:hget H i=.map es clock)(es':List (AV×AV×Nat))(clock':Nat)(ents':Array MapEntry)(hl':ents'.size=es'.length)
  (hr':∀(j:Nat) (p:AV×AV×Nat) (f:MapEntry),es'[j]?=some p→ents'[j]?=some f→Rep c p.1 f.key∧Rep c p.2.1 f.val∧f.born=p.2.2):
  Ext c {c with w:={c.w with heap:=c.w.heap.setIfInBounds (c.blk i) (.map ents' clock')}}∧St {c with w:={c.w with heap:=c.w.heap.setIfInBounds (c.blk i) (.map ents' clock')}} (aD H i (.map es' clock')):=by
 obtain⟨hin,hv,hd,ents,hb,hl,hr⟩:=hst.map hh
 have hsome:=cZ hh trivial
 obtain⟨hlt',he⟩:=Array.getElem?_eq_some_iff.1 hb
 let w':World:={c.w with heap:=c.w.heap.setIfInBounds (c.blk i) (.map ents' clock')}
 have hsame:w'.heap[c.blk i]?=some (.map ents' clock'):=by simp[w',hlt']
 have hoth:∀b,b≠c.blk i→w'.heap[b]?=c.w.heap[b]?:=fun b hne=>by
  simp only[w'];rw[Array.getElem?_setIfInBounds_ne (fun q=>hne q.symm)]
 have hbs:bsize w' (c.blk i)=bsize c.w (c.blk i):=by simp[bsize,hsame,hb]
 have hx:Ext c {c with w:=w'}:=by
  refine⟨Nat.le_refl _,by simp[w'],fun b hb'=>⟨hb',hoth b fun e=>(hst.st b hb').2 i _ hsome trivial hd e.symm⟩,fun _ _=>Nat.le_refl _,fun j hj _=>⟨rfl,rfl,fun _=>?_⟩,rfl,rfl,rfl,rfl⟩
  by_cases h:c.blk j=c.blk i
  ·simp only[h];exact hbs
  ·simp only[bsize];rw[hoth _ h]
 exact hst.update (B':=.map es' clock') hsome trivial hd w' (by simp[w']) hoth hbs rfl rfl rfl (.map _ _ ents' hv hd hsame hl' fun j p f hp hf=>by
  obtain⟨q1,q2,q3⟩:=hr' j p f hp hf
  exact⟨q1.mono hx,q2.mono hx,q3⟩)
def bEF(P:Program)(t:TypeId)(k v:AV)(H:AHeap)(i:Nat):ABlk→Res
 |.map es clock=>⟨.top,aD H i (.map (rC k v es clock) (kY k es clock)),keysIn (aMs P t) es⟩
 |_=>⟨.top,H,False⟩
def iD(P:Program)(t:TypeId)(x k v:AV)(H:AHeap):Res:=
 match x with
 |.map i=>⟨.top,(bEF P t k v H i (hget H i)).H,(aFb P t).isSome=true∧aYy (aMs P t) k=true∧(bEF P t k v H i (hget H i)).s⟩
 |_=>⟨.top,H,False⟩
theorem rD{c:Ctx}{H:AHeap}{t:TypeId}{x k v:AV}{vx vk vv:Value}(hst:St c H)(hx:Rep c x vx)(hk:Rep c k vk)(hvv:Rep c v vv)(hs:(iD P t x k v H).s):
  ∃c',(Instr.mapUpdate t vx vk vv).run P c.w=.ok () c'.w∧St c' (iD P t x k v H).H∧Ext c c':=by
 unfold iD at *
 split at hs
 ·rename_i i
  obtain⟨hm,hkd,hs⟩:=hs
  obtain⟨kt,ht,hkt⟩:=mapTy_of hm
  cases hh:hget H i<;>simp only[hh,bEF]at hs ⊢
  rename_i es clock
  obtain⟨hin,hv,hd,ents,hb,hl,hr⟩:=hst.map hh
  obtain rfl:=hx.map_inv hv
  have hkey:=isKey_of hk hkd
  have hck:=MapKept.run_checkKey (P:=P) (w:=c.w) hkt hkey false 9999
  have hf:=findNow_key hk hkd es ents.toList 0 (by simpa using hl) hs (fun j p f hp hf=>hr j p f hp (by simpa using hf))
  unfold rC kY
  cases hka:keyAt k es with
  |none=>
   rw[hka]at hf
   have hfk:=MapKept.run_findKey (P:=P) (w:=c.w) hkt hf
   obtain⟨k1,k2⟩:=mapTurn hst hh (es++[(k,v,clock)]) (clock+1) (ents.push {key:=vk,val:=vv,born:=clock}) (by simp[hl]) (fun j p f hp hf'=>by
    by_cases hj:j<es.length
    ·rw[List.getElem?_append_left hj]at hp
     rw[Array.getElem?_push_lt (by omega)]at hf'
     exact hr j p f hp (by rw[←hf'];exact Array.getElem?_eq_getElem (by omega))
    ·have hje:j=es.length:=by
      have:=(List.getElem?_eq_some_iff.1 hp).1
      simp at this;omega
     subst hje
     simp at hp
     rw[←hl,Array.getElem?_push_size]at hf'
     cases hf'
     subst hp
     exact⟨hk,hvv,rfl⟩)
   exact⟨_,by simp[Instr.mapUpdate,run_underlying ht,MapKept.run_getObj_map hb,hck,hfk,MapKept.run_setObj_map _ hb,Result.andThen],k2,k1⟩
  |some y=>
   obtain⟨j,y⟩:=y
   rw[hka]at hf
   obtain⟨u,hu,hru,hj,hkj⟩:=hf
   have hfk:=MapKept.run_findKey (P:=P) (w:=c.w) hkt hu
   have hje:j<ents.size:=by omega
   rw[Nat.zero_add]at hfk
   have hee:ents[j]?=some ents[j]:=Array.getElem?_eq_getElem hje
   have hpj:es[j]?=some es[j]:=List.getElem?_eq_getElem hj
   have hkey2:ents[j].key=vk:=by
    have h1:=(hr j _ _ hpj hee).1
    rw[hpj]at hkj
    simp only[Option.map_some,Option.some.injEq]at hkj
    rw[hkj]at h1
    cases hd':aMs P t<;>rw[hd']at hkd<;>cases k<;>simp[aYy]at hkd
    ·exact h1.int_inv.trans hk.int_inv.symm
    ·exact h1.str_inv.trans hk.str_inv.symm
   have hkeep:=MapKept.run_keyThatStays (P:=P) (w:=c.w) hkey
   obtain⟨k1,k2⟩:=mapTurn hst hh (es.modify j fun p=>(k,v,p.2.2)) clock (ents.modify j fun e=>{e with key:=vk,val:=vv}) (by simp[hl]) (fun q p f hp hf'=>by
    by_cases hq:q=j
    ·subst hq
     rw[List.getElem?_modify_eq,hpj]at hp
     rw[Array.getElem?_modify,if_pos rfl,hee]at hf'
     cases hp
     cases hf'
     exact⟨hk,hvv,(hr q _ _ hpj hee).2.2⟩
    ·rw[List.getElem?_modify_ne _ _ (fun e=>hq e.symm)]at hp
     rw[Array.getElem?_modify,if_neg (fun e=>hq e.symm)]at hf'
     exact hr q p f hp hf')
   exact⟨_,by simp[Instr.mapUpdate,run_underlying ht,MapKept.run_getObj_map hb,hck,hfk,hee,hkey2,hkeep,MapKept.run_setObj_map _ hb,Result.andThen],k2,k1⟩
 ·exact hs.elim
def delKey(x:AV)(es:List (AV×AV×Nat)):List (AV×AV×Nat):=match keyAt x es with
 |some (j,_)=>es.eraseIdx j
 |none=>es
def bEG(P:Program)(t:TypeId)(k:AV)(H:AHeap)(i:Nat):ABlk→Res
 |.map es clock=>⟨.tup [],aD H i (.map (delKey k es) clock),keysIn (aMs P t) es⟩
 |_=>⟨.top,H,False⟩
def aHX(P:Program)(t:TypeId)(x k:AV)(H:AHeap):Res:=
 match x with
 |.map i=>⟨.tup [],(bEG P t k H i (hget H i)).H,(aFb P t).isSome=true∧aYy (aMs P t) k=true∧(bEG P t k H i (hget H i)).s⟩
 |_=>⟨.top,H,False⟩
theorem rep_tup0(c:Ctx):Rep c (.tup []) (.tuple #[]):=.tup _ _ rfl fun i x v h=>by simp at h
theorem aHj{c:Ctx}{H:AHeap}{t u ty:TypeId}{x k:AV}{vx vk:Value}(hst:St c H)(hx:Rep c x vx)(hk:Rep c k vk)(hs:(aHX P t x k H).s):
  Runs P (Builtin.delete_ #[t,u] ty #[vx,vk]) c (aHX P t x k H).v (aHX P t x k H).H:=by
 unfold aHX at *
 split at hs
 ·rename_i i
  obtain⟨hm,hkd,hs⟩:=hs
  obtain⟨kt,ht,hkt⟩:=mapTy_of hm
  cases hh:hget H i<;>simp only[hh,bEG]at hs ⊢
  rename_i es clock
  obtain⟨hin,hv,hd,ents,hb,hl,hr⟩:=hst.map hh
  obtain rfl:=hx.map_inv hv
  have hck:=MapKept.run_checkKey (P:=P) (w:=c.w) hkt (isKey_of hk hkd) ents.isEmpty 9999
  have hf:=findNow_key hk hkd es ents.toList 0 (by simpa using hl) hs (fun j p f hp hf=>hr j p f hp (by simpa using hf))
  unfold delKey
  cases hka:keyAt k es with
  |none=>
   rw[hka]at hf
   have hfk:=MapKept.run_findKey (P:=P) (w:=c.w) hkt hf
   obtain⟨k1,k2⟩:=mapTurn hst hh es clock ents hl hr
   exact⟨_,.tuple #[],by simp[Builtin.delete_,run_underlying ht,MapKept.run_getObj_map hb,hck,hfk,MapKept.run_setObj_map _ hb,Result.andThen],k2,k1,rep_tup0 _⟩
  |some y=>
   obtain⟨j,y⟩:=y
   rw[hka]at hf
   obtain⟨u',hu,hru,hj,hkj⟩:=hf
   have hfk:=MapKept.run_findKey (P:=P) (w:=c.w) hkt hu
   rw[Nat.zero_add]at hfk
   have hje:j<ents.size:=by omega
   obtain⟨k1,k2⟩:=mapTurn hst hh (es.eraseIdx j) clock (ents.eraseIdxIfInBounds j) (by simp[Array.eraseIdxIfInBounds,hje,List.length_eraseIdx,hj,hl]) (fun q p f hp hf'=>by
    have e1:(ents.eraseIdxIfInBounds j)[q]?=(ents.toList.eraseIdx j)[q]?:=by
     rw[Array.eraseIdxIfInBounds,dif_pos hje,←Array.getElem?_toList,Array.toList_eraseIdx]
    rw[e1]at hf'
    rw[List.getElem?_eraseIdx]at hp hf'
    split at hp
    ·rename_i h;rw[if_pos h]at hf';exact hr q p f hp (by simpa using hf')
    ·rename_i h;rw[if_neg h]at hf';exact hr (q+1) p f hp (by simpa using hf'))
   exact⟨_,.tuple #[],by simp[Builtin.delete_,run_underlying ht,MapKept.run_getObj_map hb,hck,hfk,MapKept.run_setObj_map _ hb,Result.andThen],k2,k1,rep_tup0 _⟩
 ·exact hs.elim
def bEH(H:AHeap)(i:Nat):ABlk→Res
 |.map _ clock=>⟨.tup [],aD H i (.map [] clock),True⟩
 |_=>⟨.top,H,False⟩
def aHY(P:Program)(t:TypeId)(x:AV)(H:AHeap):Res:=
 match x with
 |.map i=>⟨.tup [],(bEH H i (hget H i)).H,(aFb P t).isSome=true∧(bEH H i (hget H i)).s⟩
 |x=>bDY P t x H
theorem aHk{c:Ctx}{H:AHeap}{t ty:TypeId}{x:AV}{vx:Value}(hst:St c H)(hx:Rep c x vx)(hs:(aHY P t x H).s):
  Runs P (Builtin.clear_ #[t] ty #[vx]) c (aHY P t x H).v (aHY P t x H).H:=by
 unfold aHY at *
 split at hs
 ·rename_i i
  obtain⟨hm,hs⟩:=hs
  obtain⟨kt,ht,hkt⟩:=mapTy_of hm
  cases hh:hget H i<;>simp only[hh,bEH]at hs ⊢
  rename_i es clock
  obtain⟨hin,hv,hd,ents,hb,hl,hr⟩:=hst.map hh
  obtain rfl:=hx.map_inv hv
  obtain⟨k1,k2⟩:=mapTurn hst hh [] clock #[] rfl (fun q p f hp=>by simp at hp)
  exact⟨_,.tuple #[],by simp[Builtin.clear_,run_underlying ht,MapKept.run_getObj_map hb,MapKept.run_setObj_map _ hb,Result.andThen],k2,k1,rep_tup0 _⟩
 ·exact aclear_sound hst hx hs
def bEI(H:AHeap)(i:Nat):ABlk→Res
 |.map _ clock=>⟨.iter H.length,H++[.miter i clock [] clock],True⟩
 |_=>⟨.top,H,False⟩
def aHZ(P:Program)(t:TypeId)(x:AV)(H:AHeap):Res:=
 match x with
 |.map i=>⟨.iter H.length,(bEI H i (hget H i)).H,(aFb P t).isSome=true∧(bEI H i (hget H i)).s⟩
 |x=>bDZ P t x H
theorem aHl{c:Ctx}{H:AHeap}{t:TypeId}{x:AV}{vx:Value}(hst:St c H)(hx:Rep c x vx)(hs:(aHZ P t x H).s):
  Runs P (Instr.range t vx) c (aHZ P t x H).v (aHZ P t x H).H:=by
 unfold aHZ at *
 split at hs
 ·rename_i i
  obtain⟨hm,hs⟩:=hs
  obtain⟨kt,ht,hkt⟩:=mapTy_of hm
  cases hh:hget H i<;>simp only[hh,bEI]at hs ⊢
  rename_i es clock
  obtain⟨hin,hv,hd,ents,hb,hl,hr⟩:=hst.map hh
  obtain rfl:=hx.map_inv hv
  have hS:=hst.push (.mapIter (some (c.blk i)) clock #[] clock) (B:=.miter i clock [] clock) 0
   (.miter i clock [] clock (by simp[Ctx.push]) (by simp[Ctx.push]) (by simp[Ctx.push];omega) (by simp[Ctx.push,show ¬i=c.n by omega,hv]) (by simp[Ctx.push,show ¬i=c.n by omega,hd])
    (by simp only[Ctx.push,if_true,if_neg (show ¬i=c.n by omega)];exact jP _ _))
  refine⟨_,.pointer (some ⟨c.w.heap.size,0,none⟩),?_,hS,Ext.push hst _ 0,?_⟩
  ·simp[Instr.range,run_underlying ht,MapKept.run_getObj_map hb,Ctx.push,Result.andThen]
  ·exact .iter _ _ (by simp[Ctx.push,hst.n]) rfl (fun _=>by simp[Ctx.push,hst.n])
 ·exact arange_sound hst hx hs
def aMu(es:List (AV×AV×Nat))(seen:List Nat):List (AV×AV×Nat):=es.filter fun p=> !seen.contains p.2.2
def aKM(x:AV)(H:AHeap)(K:AV→AHeap→Prop):Prop:=
 ∃i m since seen stepped es clock,x=.iter i∧hget H i=.miter m since seen stepped∧hget H m=.map es clock∧(∀p∈es,p.2.2<stepped∧p.2.2<since)∧
  (aMu es seen=[]→K (.tup [.bool false]) H)∧∀p∈aMu es seen,K (.tup [.bool true,p.1,p.2.1]) (aD H i (.miter m since (seen++[p.2.2]) clock))
theorem run_choose_some(w:World)(q:Question):∃j w',(choose q).run P w=.ok j w'∧(w'=w∨w'={w with drawn:=w.drawn+1})∧(j=0∨∃a,j=q.cut a):=by
 rw[run_choose]
 split
 ·exact⟨0,w,rfl,.inl rfl,.inl rfl⟩
 ·exact⟨_,_,rfl,.inr rfl,.inr ⟨_,rfl⟩⟩
theorem aH0{c:Ctx}{H:AHeap}{ty:TypeId}{x:AV}{vx:Value}{K:AV→AHeap→Prop}(hst:St c H)(hx:Rep c x vx)(h:aKM x H K):
  ∃c' v x' H',(Instr.next vx false ty).run P c.w=.ok v c'.w∧St c' H'∧Ext c c'∧Rep c' x' v∧K x' H':=by
 obtain⟨i,m,since,seen,stepped,es,clock,rfl,hi,hm,hold,h0,h1⟩:=h
 obtain⟨hin,hv,hd,ents,hb,hl,hr⟩:=hst.map hm
 have hsome:=cZ hi trivial
 have hrep:=hst.rep i _ hsome
 cases hrep with
 |miter _ _ _ _ iv idd imn imv imd ih=>
  cases hx with
  |iter _ _ _ _ hval=>
   obtain⟨-,rfl⟩:=hval iv
   have hget:=run_getObj_obj (P:=P) ih (by simp)
   have hent:∀e∈ents,e.born<stepped∧e.born<since:=by
    intro e he
    obtain⟨j,hj⟩:=Array.getElem?_of_mem he
    have hjl:=(Array.getElem?_eq_some_iff.1 hj).1
    have hp:es[j]?=some (es[j]'(by omega)):=List.getElem?_eq_getElem (by omega)
    obtain⟨-, -,q⟩:=hr j _ e hp hj
    rw[q]
    exact hold _ (List.mem_of_getElem? hp)
   have hnot:(!seen.toArray.isEmpty&& !ents.isEmpty&&ents.all fun e=>decide (e.born≥stepped))=false:=by
    by_cases hem:ents= #[]
    ·simp[hem]
    ·obtain⟨e,he⟩:=Array.exists_mem_of_ne_empty _ hem
     have:=(hent e he).1
     have hall:(ents.all fun e=>decide (e.born≥stepped))=false:=by
      rw[Bool.eq_false_iff]
      intro q
      have:=Array.all_eq_true'.1 q e he
      simp at this
      omega
     rw[hall,Bool.and_false]
   obtain⟨left,hleft⟩:∃left,ents.filter (fun e=> !seen.toArray.contains e.born)=left:=⟨_,rfl⟩
   have hold':left.filter (fun e=>decide (e.born<since))=left:=by
    rw[Array.filter_eq_self]
    intro e he
    rw[←hleft,Array.mem_filter]at he
    exact decide_eq_true (hent e he.1).2
   have hnew:left.filter (fun e=>decide (e.born≥since))= #[]:=by
    rw[Array.filter_eq_empty_iff]
    intro e he
    rw[←hleft,Array.mem_filter]at he
    have:=(hent e he.1).2
    simp;omega
   have hlm:∀e,e∈left→∃p∈aMu es seen,Rep c p.1 e.key∧Rep c p.2.1 e.val∧e.born=p.2.2:=by
    intro e he
    rw[←hleft,Array.mem_filter]at he
    obtain⟨he,hs⟩:=he
    obtain⟨j,hj⟩:=Array.getElem?_of_mem he
    have hjl:=(Array.getElem?_eq_some_iff.1 hj).1
    have hp:es[j]?=some (es[j]'(by omega)):=List.getElem?_eq_getElem (by omega)
    obtain⟨q1,q2,q3⟩:=hr j _ e hp hj
    refine⟨_,List.mem_filter.2 ⟨List.mem_of_getElem? hp,?_⟩,q1,q2,q3⟩
    rw[←q3]
    simpa using hs
   have hl0:left= #[]→aMu es seen=[]:=by
    intro e
    rw[List.eq_nil_iff_forall_not_mem]
    intro p hp
    obtain⟨hp,hs⟩:=List.mem_filter.1 hp
    obtain⟨j,hj⟩:=List.getElem?_of_mem hp
    have hjl:=(List.getElem?_eq_some_iff.1 hj).1
    have he:ents[j]?=some (ents[j]'(by omega)):=Array.getElem?_eq_getElem (by omega)
    obtain⟨-, -,q3⟩:=hr j p _ hj he
    have:ents[j]'(by omega)∈left:=by
     rw[←hleft,Array.mem_filter]
     refine⟨Array.getElem_mem _,?_⟩
     rw[q3]
     simpa using hs
    rw[e]at this
    simp at this
   have hstep:∀w',(w'=c.w∨w'={c.w with drawn:=c.w.drawn+1})→∃c0:Ctx,c0.w=w'∧St c0 H∧Ext c c0∧c0.blk=c.blk∧(∀b:Nat,c0.w.heap[b]?=c.w.heap[b]?)∧c0.ver=c.ver∧c0.vd=c.vd∧c0.n=c.n:=by
    rintro w' (rfl|rfl)
    ·exact⟨c,rfl,hst,Ext.refl c,rfl,fun _=>rfl,rfl,rfl,rfl⟩
    ·exact⟨c.draw,rfl,hst.draw,Ext.draw c,rfl,fun _=>rfl,rfl,rfl,rfl⟩
   by_cases hle:left= #[]
   ·have hf:(Question.mapNext 1).forced=true:=by simp[Question.forced]
    refine⟨c,.tuple #[.bool false],.tup [.bool false],H,?_,hst,Ext.refl c,rep_tup1 (.bool _),h0 (hl0 hle)⟩
    rw[hle]at hleft
    simp only[Instr.next,hget,Sem.run_bind,Result.andThen_ok,MapKept.run_getObj_map hb,hnot,Bool.false_eq_true,if_false,hleft]
    simp[hf]
   ·obtain⟨n,hn⟩:∃n,left.size=n+1:=⟨left.size-1,by have:left.size≠0:=fun q=>hle (Array.eq_empty_of_size_eq_zero q);omega⟩
    obtain⟨j,w',hch,hw',hj⟩:=run_choose_some (P:=P) c.w (.mapNext left.size)
    have hjlt:j<left.size:=by
     rw[run_choose]at hch
     split at hch
     ·cases hch;omega
     ·cases hch
      rename_i hf
      simp only[Question.cut]
      exact Nat.mod_lt _ (by omega)
    have hje:left[j]?=some left[j]:=Array.getElem?_eq_getElem hjlt
    obtain⟨p,hp,q1,q2,q3⟩:=hlm left[j] (Array.getElem_mem _)
    obtain⟨c0,e1,e2,e3,e4,e5,e6,e7,e8⟩:=hstep w' hw'
    have hb0:c0.w.heap[c0.blk i]?=some (.mapIter (some (c.blk m)) since seen.toArray stepped):=by rw[e4,e5];exact ih
    obtain⟨hlt',he⟩:=Array.getElem?_eq_some_iff.1 hb0
    let o':Obj:=.mapIter (some (c.blk m)) since (seen++[p.2.2]).toArray clock
    let w2:World:={c0.w with heap:=c0.w.heap.setIfInBounds (c0.blk i) o'}
    have hsame:w2.heap[c0.blk i]?=some o':=by simp[w2,hlt']
    have hoth:∀b,b≠c0.blk i→w2.heap[b]?=c0.w.heap[b]?:=fun b hne=>by
     simp only[w2];rw[Array.getElem?_setIfInBounds_ne (fun q=>hne q.symm)]
    obtain⟨hx',hs'⟩:=e2.update (B':=.miter m since (seen++[p.2.2]) clock) hsome trivial (by rw[e7];exact idd) w2 (by simp[w2]) hoth (by simp[bsize,hsame,hb0,o']) rfl rfl rfl
     (.miter m since (seen++[p.2.2]) clock (by rw[e6];exact iv) (by rw[e7];exact idd) (by rw[e8];exact imn) (by rw[e6];exact imv) (by rw[e7];exact imd) (by rw[hsame,e4]))
    refine⟨{c0 with w:=w2},.tuple #[.bool true,left[j].key,left[j].val],.tup [.bool true,p.1,p.2.1],_,?_,hs',e3.trans hx',rep_tup3 (.bool _) ((q1.mono e3).mono hx') ((q2.mono e3).mono hx'),h1 p hp⟩
    have aD:(setObj (c.blk i) o').run P w'=.ok () w2:=by
     rw[←e1,←e4]
     simp only[setObj,Sem.run,hb0,w2]
    have hne:¬left.isEmpty=true:=by simpa using hle
    have ho':(Obj.mapIter (some (c.blk m)) since (seen.toArray.push left[j].born) clock)=o':=by simp[o',q3]
    simp only[Instr.next,hget,Sem.run_bind,Result.andThen_ok,MapKept.run_getObj_map hb,hnot,Bool.false_eq_true,if_false,hleft,hold',hnew,if_neg hne,Array.append_empty,Array.empty_append,Array.size_map,hch,Array.getElem?_map,hje,Option.map_some,ho',aD,Sem.run_pure]
def aYz(P:Program)(t:TypeId)(x:AV):BR:=
 match x,P.underlying t with
 |.sl true es,some (.slice _)=>⟨.int .i64 es.length,True⟩
 |_,_=>tP
theorem aMv{c:Ctx}{t ty:TypeId}{x:AV}{vx:Value}(hx:Rep c x vx)(hs:(aYz P t x).s):∃v,(Builtin.cap_ #[t] ty #[vx]).run P c.w=.ok v c.w∧Rep c (aYz P t x).v v:=by
 unfold aYz at *
 split at hs
 ·rename_i es e hu
  have hR:=hx.sl_R
  obtain⟨base,len,cap,s,vs,rfl,rfl,g2,g3, -⟩:=hx.sl_inv
  have hcap:=g3 rfl
  subst hcap
  exact⟨.int .i64 es.length,by simp[Builtin.cap_,run_underlying hu,goInt],.int _ _ (aCX.2 (by omega))⟩
 ·exact hs.elim
def bD2(P:Program)(t:TypeId):Bool:=match P.underlying t with
 |some (.int _)=>true
 |_=>false
def aFe(P:Program)(ts tx:TypeId)(s x:AV)(H:AHeap):Res:=
 match x with
 |.int k n=>match s,P.underlying ts with
  |.sl true [],some (.slice e)=>⟨.osl (P.cellsOf e) H.length 1 0 n.toNat n.toNat,H++[.cells 1 ((List.replicate n.toNat (aU P e)).flatMap AV.cells)],
    k=.i64∧bD2 P tx=true∧aS P e=true∧0<n∧n.toNat * P.bytesOf e≤140737488355328∧P.bytesOf e≠0⟩
  |_,_=>⟨.top,H,False⟩
 |x=>pV P ts tx s x H
theorem aFf{c:Ctx}{H:AHeap}{ts tx ty:TypeId}{s x:AV}{vs vx:Value}(hst:St c H)(hsr:Rep c s vs)(hx:Rep c x vx)(hs:(aFe P ts tx s x H).s):
  Runs P (Builtin.append_ #[ts,tx] ty #[vs,vx]) c (aFe P ts tx s x H).v (aFe P ts tx s x H).H:=by
 unfold aFe at *
 split at hs
 ·rename_i k n
  split at hs
  ·rename_i e hu
   obtain⟨rfl,hit,hok,hn0,hb,hb0⟩:=hs
   have hok':=hok
   simp only[aS,Bool.and_eq_true,beq_iff_eq]at hok
   obtain⟨⟨h1,h2⟩,h3⟩:=hok
   obtain⟨d,hd⟩:=Option.isSome_iff_exists.1 h1
   obtain⟨i,hi,hci⟩:=oG hd
   obtain⟨z,hz1,hz2⟩:=sT (P:=P) h2 c
   have hzs:z.cells.size=P.cellsOf e:=by rw[(hz2.cells h2).1,h3]
   have hbytes:i.bytes=P.bytesOf e:=by simp[Program.bytesOf,hi]
   have hdx:∃q,P.underlying tx=some (.int q):=by
    unfold bD2 at hit
    split at hit
    ·rename_i q h;exact⟨q,h⟩
    ·cases hit
   obtain⟨q,hdx⟩:=hdx
   have hR:=hx.int_R
   rw[aCX]at hR
   obtain rfl:=hx.int_inv
   obtain⟨base,len,cap,sz,vs',rfl,rfl,g2,g3, -⟩:=hsr.sl_inv
   have hcap:=g3 rfl
   subst hcap
   obtain⟨m,hm⟩:∃m:Nat,n=m:=⟨n.toNat,by omega⟩
   subst hm
   simp only[Int.toNat_natCast]at hb ⊢
   have hwrap:IntKind.i64.wrap (m:Int)=m:=wrap_i64_id (by omega) (by omega)
   have hng:¬(0+m≤0):=by omega
   have hcap:Builtin.nextslicecap (0+m) 0 * i.bytes≤281474976710656:=by rw[hbytes];exact growslice_fits (by omega) (by rw[Nat.zero_add];exact hb)
   let nc:=m+(c.w.tape c.w.drawn (.appendCap m 0 e)) % (2 ^ 63-m)
   have hnc:(Question.appendCap m 0 e).cut (c.w.tape c.w.drawn (.appendCap m 0 e))=nc:=rfl
   let cells:Array Value:=(if m * P.cellsOf e=0 then #[]else Builtin.zeroCells z.cells m)++Builtin.zeroCells z.cells (nc-m)
   have hai:∀w,(asInt (.int .i64 (m:Int))).run P w=.ok (m:Int) w:=fun w=>by simp[asInt,asIntOf]
   have hfc:∀w,(Builtin.firstCells (P.cellsOf e) 0 (.slice base 0 0)).run P w=.ok #[] w:=fun w=>by
    cases base<;>simp[Builtin.firstCells,loadCells,loadCellsFrom]
   have hrun:(Builtin.append_ #[ts,tx] ty #[.slice base 0 0,.int .i64 m]).run P c.w=.ok (.slice (some ⟨c.w.heap.size,0,none⟩) m nc) (World.alloc {c.w with drawn:=c.w.drawn+1} (.cells cells e)):=by
    rw[Nat.zero_add]at hcap
    have hdec:¬(Builtin.nextslicecap m 0 * P.bytesOf e>281474976710656):=by rw[←hbytes];omega
    have hdec':Builtin.nextslicecap m 0 * P.bytesOf e≤281474976710656:=by omega
    have hm0:¬m=0:=by omega
    have hmneg:¬((m:Int)<0):=by omega
    have hmaxi:¬((9223372036854775807:Int)<(m:Int)):=by omega
    have hl2:¬(281474976710656:Int)<(m:Int) * (P.bytesOf e:Int):=by
     rw[←Int.natCast_mul];omega
    by_cases hsz:m * P.cellsOf e=0
    ·have hs0:P.cellsOf e=0:=(Nat.mul_eq_zero.1 hsz).resolve_left hm0
     simp only[hs0]at hfc
     simp[Builtin.append_,run_underlying hu,mL hd,run_underlying hdx,hai,hwrap,hmneg,typeInfo,hi,hbytes,hl2,hm0,hs0,hdec,hmaxi,hb0,Question.forced,hz1,newRow,hfc,cells,hnc]
    ·have hs0:¬P.cellsOf e=0:=fun h=>hsz (by rw[h];rfl)
     simp[Builtin.append_,run_underlying hu,mL hd,run_underlying hdx,hai,hwrap,hmneg,typeInfo,hi,hbytes,hl2,hm0,hs0,hdec,hmaxi,hb0,Question.forced,hz1,newRow,hfc,cells,hnc]
     rw[if_neg hsz,if_neg hsz]
   have hzl:(if m * P.cellsOf e=0 then #[]else Builtin.zeroCells z.cells m).size=m * P.cellsOf e:=by
    split
    ·rename_i h;rw[h];rfl
    ·rw[size_zeroCells,hzs]
   have hcell:∀x∈List.replicate m (aU P e),x.cells.length=P.cellsOf e:=fun x hx=>by rw[(List.mem_replicate.1 hx).2];exact h3
   have hfl:=length_flatMap_cells hcell
   rw[List.length_replicate]at hfl
   have hrest:(Builtin.zeroCells z.cells (nc-m)).size=(nc-m) * P.cellsOf e:=by rw[size_zeroCells,hzs]
   have hcsz:cells.size=m * P.cellsOf e+(nc-m) * P.cellsOf e:=by simp only[cells,Array.size_append];rw[hzl,hrest]
   have hncm:m≤nc:=by omega
   have hS:=hst.draw.push (.cells cells e) (B:=.cells 1 ((List.replicate m (aU P e)).flatMap AV.cells)) 1 (by
    refine .cells _ _ _ e (0,0) (by simp[Ctx.push]) (by simp[Ctx.push]) (by simp only[Ctx.push,if_true];exact jP _ _) (by rw[hfl,hcsz];omega) (.inr (Nat.le_refl _)) (fun k y u hk hu'=>?_)
    have hkl:k<m * P.cellsOf e:=by have:=(List.getElem?_eq_some_iff.1 hk).1;omega
    have hs0:0<P.cellsOf e:=Nat.pos_of_ne_zero fun h=>by rw[h,Nat.mul_zero]at hkl;omega
    have hm:k % P.cellsOf e<P.cellsOf e:=Nat.mod_lt _ hs0
    have hdiv:k / P.cellsOf e * P.cellsOf e+k % P.cellsOf e=k:=by rw[Nat.mul_comm];exact Nat.div_add_mod _ _
    have g1:=get_flatMap_cells hcell (k / P.cellsOf e) (k % P.cellsOf e) hm
    rw[hdiv,hk]at g1
    have hdl:k / P.cellsOf e<m:=Nat.div_lt_of_lt_mul (by rw[Nat.mul_comm];exact hkl)
    rw[List.getElem?_replicate,if_pos hdl,Option.bind_some]at g1
    have hne:¬m * P.cellsOf e=0:=by omega
    have g2:cells[k]?=some (z.cells[k % z.cells.size]!):=by
     simp only[cells,if_neg hne]
     rw[Array.getElem?_append_left (by rw[size_zeroCells,hzs];exact hkl)]
     simp only[Builtin.zeroCells,Array.getElem?_map];rw[Array.getElem?_eq_getElem (by simpa[hzs]using hkl)];simp
    rw[g2,hzs]at hu'
    cases hu'
    refine(((hz2.cells h2).2 _ _ _ g1.symm ?_).mono (Ext.draw c)).mono (Ext.push hst.draw _ 1)
    rw[getElem!_pos z.cells (k % P.cellsOf e) (by omega)]
    exact Array.getElem?_eq_getElem _)
   refine⟨_,_,hrun,hS,(Ext.draw c).trans (Ext.push hst.draw _ 1),?_⟩
   refine .osl _ _ _ _ _ _ _ (by simp[Ctx.push,Ctx.draw,hst.n]) (by simp[Ctx.push,Ctx.draw,hst.n]) rfl (by omega) (fun _ hd=>by simp[Ctx.push,Ctx.draw,hst.n]at hd) (fun _ _=>?_)
   refine⟨_,nc,cells.size,rfl,Nat.le_refl _,hncm,.inr (by simp[Ctx.push,Ctx.draw,hst.n]),?_,?_⟩
   ·simp only[bsize,Ctx.push,Ctx.draw,hst.n,if_true]
    have:=jP {c.w with drawn:=c.w.drawn+1} (.cells cells e)
    simp only at this
    rw[this]
   ·rw[hcsz,←Nat.add_mul,Nat.zero_add]
    exact Nat.mul_le_mul_right _ (by omega)
  ·exact hs.elim
 ·exact aappendZ_sound hst hsr hx hs
def aYA(stepped:Nat)(seen:List Nat):ABlk→BR
 |.map es clock=>match seen.getLast? with
  |some k=>match es.find? (fun p=>p.2.2==k)with
   |some p=>⟨.tup [p.1,p.2.1],clock=stepped⟩
   |none=>tP
  |none=>tP
 |_=>tP
def bEJ(H:AHeap):ABlk→BR
 |.miter m _ seen stepped=>aYA stepped seen (hget H m)
 |_=>tP
def aMw(x:AV)(H:AHeap):BR:=match x with
 |.iter i=>bEJ H (hget H i)
 |_=>tP
theorem find_born{c:Ctx}(k:Nat):∀(es:List (AV×AV×Nat)) (ents:List MapEntry),ents.length=es.length→(∀(j:Nat) (p:AV×AV×Nat) (e:MapEntry),es[j]?=some p→ents[j]?=some e→Rep c p.1 e.key∧Rep c p.2.1 e.val∧e.born=p.2.2)→
  ∀p,es.find? (fun p=>p.2.2==k)=some p→∃e,ents.find? (fun e=>e.born==k)=some e∧Rep c p.1 e.key∧Rep c p.2.1 e.val:=by
 intro es
 induction es with
 |nil=>intro ents _ _ p h;cases h
 |cons q es ih=>
  intro ents hl hr p h
  cases ents with
  |nil=>simp at hl
  |cons e ents=>
   obtain⟨h1,h2,h3⟩:=hr 0 q e rfl rfl
   rw[List.find?_cons]at h ⊢
   rw[h3]
   cases hq:(q.2.2==k)with
   |true=>rw[hq]at h;cases h;exact⟨e,rfl,h1,h2⟩
   |false=>
    rw[hq]at h
    exact ih ents (by simpa using hl) (fun j p e hp he=>hr (j+1) p e (by simpa using hp) (by simpa using he)) p h
theorem aH1{c:Ctx}{H:AHeap}{x:AV}{vx:Value}(hst:St c H)(hx:Rep c x vx)(hs:(aMw x H).s):
  ∃v,(Instr.entry vx).run P c.w=.ok v c.w∧Rep c (aMw x H).v v:=by
 unfold aMw at *
 split at hs
 ·rename_i i
  cases hh:hget H i<;>simp only[hh,bEJ,tP]at hs ⊢
  rename_i m since seen stepped
  have hrep:=hst.rep i _ (cZ hh trivial)
  cases hrep with
  |miter _ _ _ _ iv idd imn imv imd ih=>
   cases hx with
   |iter _ _ _ _ hval=>
    obtain⟨-,rfl⟩:=hval iv
    have hgo:=run_getObj_obj (P:=P) ih (by simp)
    cases hm:hget H m<;>simp only[hm,aYA,tP]at hs ⊢
    rename_i es clock
    obtain⟨hin,hv,hd,ents,hb,hl,hr⟩:=hst.map hm
    cases hk:seen.getLast? with
    |none=>rw[hk]at hs;exact hs.elim
    |some k=>
     rw[hk]at hs
     simp only at hs ⊢
     cases hf:es.find? (fun p=>p.2.2==k)with
     |none=>rw[hf]at hs;exact hs.elim
     |some p=>
      rw[hf]at hs
      simp only at hs ⊢
      obtain⟨e,he,hr1,hr2⟩:=find_born (c:=c) k es ents.toList (by simpa using hl) (fun j p e hp he=>hr j p e hp (by simpa using he)) p hf
      have hbk:seen.toArray.back?=some k:=by simpa using hk
      have he':ents.find? (fun e=>e.born==k)=some e:=by rw[←Array.find?_toList];exact he
      subst hs
      exact⟨.tuple #[e.key,e.val],by simp[Instr.entry,hgo,hbk,MapKept.run_getObj_map hb,he',Result.andThen],aAs hr1 hr2⟩
 ·exact hs.elim
end Go.Aw
