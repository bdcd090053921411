/- What the functions of this seat answer (1 of 40). No condition. -/
import Derived.Calls
import Derived.RangeFuncLeaves
import Derived.RangeFuncRecord
import Derived.OrdersIn
import Derived.Laws.World
import Derived.Laws.Sem
import Derived.Laws.StructEq
import Derived.Laws.Cells
import Derived.Laws.Slices
namespace Go
theorem eT:type_of% @List.getElem?_eq_some_iff:=@List.getElem?_eq_some_iff
theorem zAa:type_of% @List.length_append:=@List.length_append
theorem zAb:type_of% @Nat.le_refl:=@Nat.le_refl
theorem zAc:type_of% @Bool.and_eq_true:=@Bool.and_eq_true
theorem zAd:type_of% @List.getElem?_eq_getElem:=@List.getElem?_eq_getElem
theorem zAe:type_of% @List.append_assoc:=@List.append_assoc
theorem zAf:type_of% @List.getElem?_append_left:=@List.getElem?_append_left
theorem zAg:type_of% @decide_eq_true:=@decide_eq_true
theorem zAh:type_of% @decide_eq_false:=@decide_eq_false
theorem zAi:type_of% @List.mem_map:=@List.mem_map
theorem zAj:type_of% @List.append_nil:=@List.append_nil
theorem zAk:type_of% @if_neg:=@if_neg
theorem zAl:type_of% @List.take_succ_eq_append_getElem:=@List.take_succ_eq_append_getElem
theorem zAm:type_of% @List.getD_eq_getElem?_getD:=@List.getD_eq_getElem?_getD
theorem zAn:type_of% @Option.bind_some:=@Option.bind_some
theorem zAo:type_of% @Nat.mul_one:=@Nat.mul_one
theorem zAp:type_of% @if_pos:=@if_pos
theorem zAq:type_of% @List.mem_singleton:=@List.mem_singleton
theorem zAr:type_of% @Bool.false_eq_true:=@Bool.false_eq_true
theorem zAs:type_of% @List.length_map:=@List.length_map
theorem zAt:type_of% @List.length_cons:=@List.length_cons
theorem zAu:type_of% @List.eq_nil_of_length_eq_zero:=@List.eq_nil_of_length_eq_zero
theorem zAv:type_of% @Nat.zero_le:=@Nat.zero_le
theorem zAw:type_of% @List.getElem?_append_right:=@List.getElem?_append_right
theorem zAx:type_of% @List.all_eq_true:=@List.all_eq_true
theorem zAy:type_of% @Option.map_eq_some_iff:=@Option.map_eq_some_iff
theorem zAz:type_of% @decide_eq_true_eq:=@decide_eq_true_eq
theorem zAA:type_of% @List.mem_of_getElem?:=@List.mem_of_getElem?
theorem zAB:type_of% @of_decide_eq_true:=@of_decide_eq_true
theorem zAC:type_of% @List.mem_cons:=@List.mem_cons
theorem zAD:type_of% @List.take_succ_cons:=@List.take_succ_cons
theorem zAE:type_of% @Bool.true_and:=@Bool.true_and
theorem zAF:type_of% @List.flatMap_cons:=@List.flatMap_cons
theorem zAG:type_of% @List.take_length:=@List.take_length
theorem zAH:type_of% @Array.getElem?_append_left:=@Array.getElem?_append_left
theorem zAI:type_of% @Int.tdiv_eq_ediv_of_nonneg:=@Int.tdiv_eq_ediv_of_nonneg
theorem zAJ:type_of% @List.nil_append:=@List.nil_append
theorem zAK:type_of% @List.getElem_mem:=@List.getElem_mem
theorem zAL:type_of% @Nat.lt_succ_self:=@Nat.lt_succ_self
theorem zAM:type_of% @List.mem_append:=@List.mem_append
theorem zAN:type_of% @Array.getElem?_append_right:=@Array.getElem?_append_right
theorem zAO:type_of% @Int.tmod_eq_emod_of_nonneg:=@Int.tmod_eq_emod_of_nonneg
theorem zAP:type_of% @Nat.le_of_ble_eq_true:=@Nat.le_of_ble_eq_true
theorem zAQ:type_of% @Option.bind_eq_some_iff:=@Option.bind_eq_some_iff
theorem zAR:type_of% @List.length_pos_iff:=@List.length_pos_iff
theorem zAS:type_of% @List.take_zero:=@List.take_zero
theorem zAT:type_of% @List.take_of_length_le:=@List.take_of_length_le
theorem zAU:type_of% @List.getElem?_set_ne:=@List.getElem?_set_ne
theorem zAV:type_of% @List.map_cons:=@List.map_cons
theorem zAW:type_of% @Array.getElem?_eq_some_iff:=@Array.getElem?_eq_some_iff
theorem zAX:type_of% @List.length_take:=@List.length_take
theorem zAY:type_of% @List.getElem?_map:=@List.getElem?_map
theorem zAZ:type_of% @Array.getElem?_eq_getElem:=@Array.getElem?_eq_getElem
theorem zA0:type_of% @List.getElem?_set_self:=@List.getElem?_set_self
theorem zA1:type_of% @List.getElem?_cons_succ:=@List.getElem?_cons_succ
theorem zA2:type_of% @decide_eq_false_iff_not:=@decide_eq_false_iff_not
theorem zA3:type_of% @Nat.lt_of_lt_of_le:=@Nat.lt_of_lt_of_le
theorem zA4:type_of% @List.drop_eq_getElem_cons:=@List.drop_eq_getElem_cons
theorem zA5:type_of% @congrArg:=@congrArg
theorem zA6:type_of% @Array.toList_append:=@Array.toList_append
theorem zA7:type_of% @Nat.le_trans:=@Nat.le_trans
theorem zA8:type_of% @Bool.not_false:=@Bool.not_false
theorem zA9:type_of% @Array.getD_eq_getD_getElem?:=@Array.getD_eq_getD_getElem?
theorem zBa:type_of% @List.length_drop:=@List.length_drop
theorem zBb:type_of% @List.replicate_succ:=@List.replicate_succ
theorem zBc:type_of% @Prod.exists:=@Prod.exists
theorem zBd:type_of% @if_false:=@if_false
theorem zBe:type_of% @Array.mem_of_getElem?:=@Array.mem_of_getElem?
theorem zBf:type_of% @eq_true:=@eq_true
theorem zBg:type_of% @Array.setIfInBounds_comm:=@Array.setIfInBounds_comm
theorem zBh:type_of% @Option.some.inj:=@Option.some.inj
theorem zBi:type_of% @List.flatMap_append:=@List.flatMap_append
theorem zBj:type_of% @List.drop_eq_nil_of_le:=@List.drop_eq_nil_of_le
theorem zBk:type_of% @Int.fdiv_eq_ediv_of_nonneg:=@Int.fdiv_eq_ediv_of_nonneg
theorem zBl:type_of% @List.not_mem_nil:=@List.not_mem_nil
theorem zBm:type_of% @Nat.mod_eq_of_lt:=@Nat.mod_eq_of_lt
theorem zBn:type_of% @Nat.zero_add:=@Nat.zero_add
theorem zBo:type_of% @Array.getElem?_toList:=@Array.getElem?_toList
theorem zBp:type_of% @Array.append_assoc:=@Array.append_assoc
theorem zBq:type_of% @List.getElem?_eq_none:=@List.getElem?_eq_none
theorem zBr:type_of% @List.map_nil:=@List.map_nil
theorem zBs:type_of% @Bool.not_true:=@Bool.not_true
theorem zBt:type_of% @List.contains_iff_mem:=@List.contains_iff_mem
theorem zBu:type_of% @List.length_replicate:=@List.length_replicate
theorem zBv:type_of% @BitVec.toNat_ofNat:=@BitVec.toNat_ofNat
theorem zBw:type_of% @List.length_singleton:=@List.length_singleton
theorem zBx:type_of% @Bool.false_and:=@Bool.false_and
theorem zBy:type_of% @if_true:=@if_true
theorem zBz:type_of% @List.pairwise_iff_getElem:=@List.pairwise_iff_getElem
theorem zBA:type_of% @BitVec.ofInt_natCast:=@BitVec.ofInt_natCast
theorem zBB:type_of% @Bool.eq_false_iff:=@Bool.eq_false_iff
theorem zBC:type_of% @List.map_map:=@List.map_map
theorem zBE:type_of% @Prod.mk.injEq:=@Prod.mk.injEq
theorem zBF:type_of% @Nat.add_mul:=@Nat.add_mul
theorem zBG:type_of% @List.getElem?_cons_zero:=@List.getElem?_cons_zero
theorem zBH:type_of% @Int.toNat_of_nonneg:=@Int.toNat_of_nonneg
theorem zBI:type_of% @List.range'_succ:=@List.range'_succ
theorem zBJ:type_of% @Array.getElem?_eq_none:=@Array.getElem?_eq_none
theorem zBK:type_of% @List.nodup_cons:=@List.nodup_cons
theorem zBL:type_of% @Option.map_some:=@Option.map_some
theorem zBM:type_of% @Option.some.injEq:=@Option.some.injEq
theorem zBN:type_of% @Array.mem_toList_iff:=@Array.mem_toList_iff
theorem zBO:type_of% @List.mem_cons_of_mem:=@List.mem_cons_of_mem
theorem zBQ:type_of% @List.flatMap_nil:=@List.flatMap_nil
theorem zBR:type_of% @List.flatMap_map:=@List.flatMap_map
theorem zBS:type_of% @Nat.le_succ:=@Nat.le_succ
theorem zBV:type_of% @decide_false:=@decide_false
theorem zBZ:type_of% @List.all_append:=@List.all_append
theorem zCc:type_of% @cond_false:=@cond_false
end Go
set_option linter.unusedSimpArgs false
set_option linter.unusedVariables false
set_option linter.unusedSectionVars false
set_option maxRecDepth 100000
set_option maxHeartbeats 16000000
namespace Go.Proofs.YtigedpfipifefaaGreatDoor
section
inductive AV where
 |int (k:IntKind) (n:Int)
 |bool (b:Bool)
 |str (s:List UInt8)
 |agg (cs:List AV)
 |tup (vs:List AV)
 |sl (full:Bool) (es:List AV)
 |cptr (cs:List AV)
 |ref (i ver off:Nat)
 |osl (s i ver off len lc:Nat)
 |nilptr
 |map (i:Nat)
 |nilmap
 |iter (i:Nat)
 |func (fn:Fn) (first captured:List AV)
 |nilfunc
 |iface (t:TypeId) (v:AV)
 |nilIface
 |opt (g:Bool) (v:AV)
 |top
instance:Inhabited AV:=⟨.top⟩
def AV.cells:AV→List AV
 |.agg cs=>cs
 |v=>[v]
structure Ctx where
 w:World
 n:Nat
 blk:Nat→Nat
 ver:Nat→Nat
 vd:Nat→Bool
 stable:Nat→Prop
 base:Nat×List Deferred
def bsize(w:World)(b:Nat):Option Nat:=
 match w.heap[b]? with
 |some (.cells vs _ _)=>some vs.size
 |_=>none
def inR(k:IntKind)(n:Int):Prop:=k.min≤n∧n≤k.max
theorem aLm(k:IntKind)(n:Int):inR k (k.wrap n):=by
 unfold inR IntKind.wrap IntKind.min IntKind.max;cases k<;>simp[IntKind.bits,IntKind.signed]<;>(try split)<;>omega
theorem aE0(k:IntKind):k.min≤0∧0≤k.max:=by cases k<;>decide
theorem aGL{k:IntKind}{n m:Int}(h:inR k n)(h1:0≤n→0≤m∧m≤n)(h2:n<0→n≤m∧m≤0):inR k m:=by
 obtain⟨p,q⟩:=aE0 k;obtain⟨h3,h4⟩:=h;by_cases h0:0≤n
 ·have:=h1 h0;exact⟨by omega,by omega⟩
 ·have:=h2 (by omega);exact⟨by omega,by omega⟩
theorem aAG{n:Int}:inR .i64 n↔ -9223372036854775808≤n∧n≤9223372036854775807:=Iff.rfl
theorem aCx{n:Int}:inR .u8 n↔0≤n∧n≤255:=Iff.rfl
theorem aE1{n:Int}:inR .i32 n↔ -2147483648≤n∧n≤2147483647:=Iff.rfl
def vY(k:IntKind)(n:Int):Bool:=decide (k.min≤n)&&decide (n≤k.max)
theorem lZ{k:IntKind}{n:Int}:vY k n=true↔inR k n:=by simp[vY,inR]
inductive Rep (c:Ctx):AV→Value→Prop
 |int (k:IntKind) (n:Int) (hr:inR k n):Rep c (.int k n) (.int k n)
 |bool (b:Bool):Rep c (.bool b) (.bool b)
 |str (s:List UInt8) (hr:s.length≤9223372036854775807):Rep c (.str s) (.string ⟨s.toArray⟩)
 |agg (cs:List AV) (vs:Array Value) (hl:vs.size=cs.length) (h:∀(i:Nat) (x:AV) (v:Value),cs[i]?=some x→vs[i]?=some v→Rep c x v):Rep c (.agg cs) (.agg vs)
 |tup (cs:List AV) (vs:Array Value) (hl:vs.size=cs.length) (h:∀(i:Nat) (x:AV) (v:Value),cs[i]?=some x→vs[i]?=some v→Rep c x v):Rep c (.tup cs) (.tuple vs)
 |sl (full:Bool) (es:List AV) (base:Option Addr) (len cap s:Nat) (vs:Nat→Nat→Value) (hlen:len=es.length) (hcap:len≤cap) (hfull:full=true→cap=len)
   (hb:es≠[]→∃a,base=some a∧a.spot=none∧c.stable a.block∧∀k j,k<es.length→j<s→c.w.cell? (a.add (k * s+j))=some (vs k j))
   (hs:∀e∈es,e.cells.length=s)
   (hr:∀(k:Nat) (e:AV) (j:Nat) (x:AV),es[k]?=some e→e.cells[j]?=some x→Rep c x (vs k j)) (hmax:len≤9223372036854775807):Rep c (.sl full es) (.slice base len cap)
 |cptr (cs:List AV) (a:Addr) (vs:Nat→Value) (hspot:a.spot=none) (hst:c.stable a.block) (hc:∀j,j<cs.length→c.w.cell? (a.add j)=some (vs j))
   (hr:∀(j:Nat) (x:AV),cs[j]?=some x→Rep c x (vs j)):Rep c (.cptr cs) (.pointer (some a))
 |ref (i v off:Nat) (val:Value) (hi:i<c.n) (hv:v≤c.ver i) (ho:val.oneCell'=true) (h:c.ver i=v→c.vd i=false∧val=.pointer (some ⟨c.blk i,off,none⟩)):Rep c (.ref i v off) val
 |osl (s i v off len lc:Nat) (val:Value) (hi:i<c.n) (hv:v≤c.ver i) (ho:val.oneCell'=true) (hmax:lc≤9223372036854775807)
   (h1:c.ver i=v→c.vd i=true→len=0∧lc=0∧∃base,val=.slice base 0 0)
   (h2:c.ver i=v→c.vd i=false→∃base cap m,val=.slice base len cap∧len≤lc∧lc≤cap∧(cap=0∨base=some ⟨c.blk i,off,none⟩)∧bsize c.w (c.blk i)=some m∧off+cap * s≤m):Rep c (.osl s i v off len lc) val
 |nilptr:Rep c .nilptr (.pointer none)
 |map (i:Nat) (val:Value) (hi:i<c.n) (ho:val.oneCell'=true) (h:c.ver i=0→c.vd i=false∧val=.map (some (c.blk i))):Rep c (.map i) val
 |nilmap:Rep c .nilmap (.map none)
 |iter (i:Nat) (val:Value) (hi:i<c.n) (ho:val.oneCell'=true) (h:c.ver i=0→c.vd i=false∧val=.pointer (some ⟨c.blk i,0,none⟩)):Rep c (.iter i) val
 |func (fn:Fn) (fs cs:List AV) (vf vc:Array Value) (hf:vf.size=fs.length) (hc:vc.size=cs.length)
   (h1:∀(i:Nat) (x:AV) (v:Value),fs[i]?=some x→vf[i]?=some v→Rep c x v) (h2:∀(i:Nat) (x:AV) (v:Value),cs[i]?=some x→vc[i]?=some v→Rep c x v):Rep c (.func fn fs cs) (.func fn vf vc)
 |nilfunc:Rep c .nilfunc .nilFunc
 |iface (t:TypeId) (x:AV) (v:Value) (h:Rep c x v):Rep c (.iface t x) (.iface t v)
 |nilIface:Rep c .nilIface .nilIface
 |opt (g:Bool) (x:AV) (v:Value) (h1:g=true→Rep c x v) (h2:g=false→v=undef):Rep c (.opt g x) v
 |top (v:Value):Rep c .top v
structure Ext (c c':Ctx):Prop where
 n:c.n≤c'.n
 size:c.w.heap.size≤c'.w.heap.size
 st:∀b,c.stable b→c'.stable b∧c'.w.heap[b]?=c.w.heap[b]?
 ver:∀i,i<c.n→c.ver i≤c'.ver i
 blk:∀i,i<c.n→c'.ver i=c.ver i→c'.blk i=c.blk i∧c'.vd i=c.vd i∧(c.vd i=false→bsize c'.w (c.blk i)=bsize c.w (c.blk i))
 os:c'.w.os=c.w.os
 tape:c'.w.tape=c.w.tape
 output:c'.w.output=c.w.output
 base:c'.base=c.base
theorem Ext.refl(c:Ctx):Ext c c:=⟨zAb _,zAb _,fun _ h=>⟨h,rfl⟩,fun _ _=>zAb _,fun _ _ _=>⟨rfl,rfl,fun _=>rfl⟩,rfl,rfl,rfl,rfl⟩
theorem Ext.trans{a b c:Ctx}(h:Ext a b)(k:Ext b c):Ext a c where
 n:=zA7 h.n k.n
 size:=zA7 h.size k.size
 st:=fun x hx=>⟨(k.st x (h.st x hx).1).1,((k.st x (h.st x hx).1).2).trans (h.st x hx).2⟩
 ver:=fun i hi=>zA7 (h.ver i hi) (k.ver i (zA3 hi h.n))
 blk:=fun i hi he=>by
  have h1:=h.ver i hi;have h2:=k.ver i (zA3 hi h.n);have e1:b.ver i=a.ver i:=by omega
  have e2:c.ver i=b.ver i:=by omega
  obtain⟨p1,p2,p3⟩:=h.blk i hi e1;obtain⟨q1,q2,q3⟩:=k.blk i (zA3 hi h.n) e2;grind
 os:=k.os.trans h.os
 tape:=k.tape.trans h.tape
 output:=k.output.trans h.output
 base:=k.base.trans h.base
theorem lQ{w w':World}{a:Addr}(h:w'.heap[a.block]?=w.heap[a.block]?):w'.cell? a=w.cell? a:=by
 unfold World.cell?;rw[h]
theorem Addr.add_block(a:Addr)(n:Nat):(a.add n).block=a.block:=by
 unfold Addr.add;split<;>rfl
structure Ext0 (c c':Ctx):Prop where
 n:c.n≤c'.n
 st:∀b,c.stable b→c'.stable b
 cell:∀a:Addr,c.stable a.block→c'.w.cell? a=c.w.cell? a
 ver:∀i,i<c.n→c.ver i≤c'.ver i
 blk:∀i,i<c.n→c'.ver i=c.ver i→c'.blk i=c.blk i∧c'.vd i=c.vd i∧(c.vd i=false→bsize c'.w (c.blk i)=bsize c.w (c.blk i))
theorem Ext.ext0{c c':Ctx}(h:Ext c c'):Ext0 c c':=⟨h.n,fun b hb=>(h.st b hb).1,fun _ ha=>lQ (h.st _ ha).2,h.ver,h.blk⟩
theorem Rep.mono0{c c':Ctx}(hx:Ext0 c c'){x:AV}{v:Value}(h:Rep c x v):Rep c' x v:=by
 induction h with
 |int k n hr=>exact .int k n hr
 |bool b=>exact .bool b
 |str s hr=>exact .str s hr
 |agg cs vs hl _ ih=>exact .agg cs vs hl ih
 |tup cs vs hl _ ih=>exact .tup cs vs hl ih
 |sl full es base len cap s vs hlen hcap hfull hb hs _ hmax ih=>
  refine .sl full es base len cap s vs hlen hcap hfull (fun hne=>?_) hs ih hmax
  obtain⟨a,e1,e2,e3,e4⟩:=hb hne;refine⟨a,e1,e2,hx.st _ e3,fun k j hk hj=>?_⟩
  rw[hx.cell _ (by rw[Addr.add_block];exact e3)]
  exact e4 k j hk hj
 |cptr cs a vs hspot hst hc _ ih=>
  refine .cptr cs a vs hspot (hx.st _ hst) (fun j hj=>?_) ih
  rw[hx.cell _ (by rw[Addr.add_block];exact hst)]
  exact hc j hj
 |ref i v off val hi hv ho h=>
  refine .ref i v off val (zA3 hi hx.n) (zA7 hv (hx.ver i hi)) ho (fun e=>?_)
  have h1:=hx.ver i hi;have e1:c'.ver i=c.ver i:=by omega
  rw[(hx.blk i hi e1).1,(hx.blk i hi e1).2.1];exact h (by omega)
 |osl s i v off len lc val hi hv ho hmax h1 h2=>
  have hle:=hx.ver i hi;refine .osl s i v off len lc val (zA3 hi hx.n) (zA7 hv hle) ho hmax (fun e d=>?_) (fun e d=>?_)
  ·have e1:c'.ver i=c.ver i:=by omega
   exact h1 (by omega) (by rw[←(hx.blk i hi e1).2.1];exact d)
  ·have e1:c'.ver i=c.ver i:=by omega
   obtain⟨p1,p2,p3⟩:=hx.blk i hi e1;rw[p2]at d;obtain⟨base,cap,m,q1,q2,q2',q3,q4,q5⟩:=h2 (by omega) d
   exact⟨base,cap,m,q1,q2,q2',by rw[p1];exact q3,by rw[p1,p3 d];exact q4,q5⟩
 |nilptr=>exact .nilptr
 |map i val hi ho h=>
  refine .map i val (zA3 hi hx.n) ho (fun e=>?_)
  have h1:=hx.ver i hi;have e1:c'.ver i=c.ver i:=by omega
  rw[(hx.blk i hi e1).1,(hx.blk i hi e1).2.1];exact h (by omega)
 |nilmap=>exact .nilmap
 |iter i val hi ho h=>
  refine .iter i val (zA3 hi hx.n) ho (fun e=>?_)
  have h1:=hx.ver i hi;have e1:c'.ver i=c.ver i:=by omega
  rw[(hx.blk i hi e1).1,(hx.blk i hi e1).2.1];exact h (by omega)
 |func fn fs cs vf vc hf hc _ _ ih1 ih2=>exact .func fn fs cs vf vc hf hc ih1 ih2
 |nilfunc=>exact .nilfunc
 |iface t x v _ ih=>exact .iface t x v ih
 |nilIface=>exact .nilIface
 |opt g x v _ h2 ih=>exact .opt g x v ih h2
 |top v=>exact .top v
theorem Rep.mono{c c':Ctx}(hx:Ext c c'){x:AV}{v:Value}(h:Rep c x v):Rep c' x v:=h.mono0 hx.ext0
abbrev AF:=List (Nat×AV)
def look:AF→Nat→AV
 |[],_=>.top
 |(d,v)::α,t=>bif d==t then v else look α t
inductive ABlk where
 |cells (ver:Nat) (cs:List AV)
 |map (es:List (AV×AV×Nat)) (clock:Nat)
 |miter (m:Nat) (since:Nat) (seen:List Nat) (stepped:Nat)
 |siter (s:List UInt8) (pos:Nat)
 |loop (l:Nat) (α:AF) (N:Nat) (st:LoopState) (pe:Option Code) (ps:Array Tmp) (ars bd:Code)
 |gone
abbrev AHeap:=List ABlk
def ABlk.live:ABlk→Prop
 |.gone=>False
 |_=>True
inductive BRep (c:Ctx) (i:Nat):ABlk→Prop
 |cells (ver:Nat) (cs:List AV) (vs:Array Value) (e:TypeId) (fr:Nat×Nat) (hv:c.ver i=ver) (hd:c.vd i=false) (hh:c.w.heap[c.blk i]?=some (.cells vs e fr)) (hl:cs.length≤vs.size) (hf:vs.size≤fr.1∨fr.2≤fr.1)
   (h:∀(j:Nat) (x:AV) (v:Value),cs[j]?=some x→vs[j]?=some v→Rep c x v):BRep c i (.cells ver cs)
 |void (ver:Nat) (hv:c.ver i=ver) (hd:c.vd i=true):BRep c i (.cells ver [])
 |map (es:List (AV×AV×Nat)) (clock:Nat) (ents:Array MapEntry) (hv:c.ver i=0) (hd:c.vd i=false) (hh:c.w.heap[c.blk i]?=some (.map ents clock)) (hl:ents.size=es.length)
   (h:∀(j:Nat) (p:AV×AV×Nat) (e:MapEntry),es[j]?=some p→ents[j]?=some e→Rep c p.1 e.key∧Rep c p.2.1 e.val∧e.born=p.2.2):BRep c i (.map es clock)
 |miter (m since:Nat) (seen:List Nat) (stepped:Nat) (hv:c.ver i=0) (hd:c.vd i=false) (hm:m<c.n) (hmv:c.ver m=0) (hmd:c.vd m=false) (hh:c.w.heap[c.blk i]?=some (.mapIter (some (c.blk m)) since seen.toArray stepped)):BRep c i (.miter m since seen stepped)
 |siter (s:List UInt8) (pos:Nat) (hv:c.ver i=0) (hd:c.vd i=false) (hh:c.w.heap[c.blk i]?=some (.stringIter ⟨s.toArray⟩ pos)) (hsl:s.length≤9223372036854775807):BRep c i (.siter s pos)
 |loop (l:Nat) (α:AF) (N:Nat) (st:LoopState) (pe:Option Code) (ps:Array Tmp) (ars bd:Code) (fn D:Nat) (ts:Array Value) (hv:c.ver i=0) (hd:c.vd i=false) (hl:c.blk i=l)
   (hh:c.w.heap[c.blk i]?=some (.loop {state:=st,pending:=pe,fn:=fn,tmps:=ts,params:=ps,assign:=ars,body:=bd,defers:=D})) (hN:ts.size=N) (hr:∀t,Rep c (look α t) (ts.getD t undef)):BRep c i (.loop l α N st pe ps ars bd)
 |gone (hd:c.vd i=true):BRep c i .gone
-- The variables of packages of which it is known what they are (nothing writes them).
def aOZ:List (Nat×List Value):=[(0,[.int .u32 0,.int .u32 79764919])]
def Laid(c:Ctx):Prop:=∀p∈aOZ,c.stable p.1∧∀(j:Nat) (x:Value),p.2[j]?=some x→c.w.cell? ⟨p.1,j,none⟩=some x
theorem Laid.go{c c':Ctx}(h:Laid c)(h1:∀b,c.stable b→c'.stable b)(h2:∀a:Addr,c.stable a.block→c'.w.cell? a=c.w.cell? a):Laid c':=
 fun p hp=>⟨h1 _ (h p hp).1,fun j x hj=>(h2 _ (h p hp).1).trans ((h p hp).2 j x hj)⟩
theorem Laid.mono0{c c':Ctx}(h:Laid c)(hx:Ext0 c c'):Laid c':=h.go hx.st hx.cell
theorem Laid.mono{c c':Ctx}(h:Laid c)(hx:Ext c c'):Laid c':=h.mono0 hx.ext0
structure St (c:Ctx) (H:AHeap):Prop where
 gl:Laid c
 n:c.n=H.length
 lt:∀i,i<c.n→c.vd i=false→c.blk i<c.w.heap.size
 inj:∀i j b b',H[i]?=some b→H[j]?=some b'→b.live→b'.live→c.vd i=false→c.vd j=false→c.blk i=c.blk j→i=j
 st:∀k,c.stable k→k<c.w.heap.size∧∀i b,H[i]?=some b→b.live→c.vd i=false→c.blk i≠k
 rep:∀i b,H[i]?=some b→BRep c i b
def Marks(c:Ctx)(ds:List Deferred):Prop:=
 c.base.1≤c.w.heap.size∧∃Ds:List Nat,ds=Ds.map (fun D=>{target:=.collected D,args:= #[]})++c.base.2∧Ds.Nodup∧∀D∈Ds,c.base.1≤D∧c.stable D∧c.w.heap[D]?=some (.deferred (some []))
theorem Marks.mono{c c':Ctx}{ds:List Deferred}(hx:Ext c c')(h:Marks c ds):Marks c' ds:=by
 obtain⟨h0,Ds,e,hn,h⟩:=h;refine⟨by rw[hx.base];exact zA7 h0 hx.size,Ds,by rw[hx.base];exact e,hn,fun D hD=>?_⟩
 obtain⟨h1,h2,h3⟩:=h D hD;exact⟨by rw[hx.base];exact h1,(hx.st D h2).1,((hx.st D h2).2).trans h3⟩
structure ARep (c:Ctx) (N:Nat) (α:AF) (a:Act):Prop where
 size:a.tmps.size=N
 defers:Marks c a.defers
 rep:∀t,Rep c (look α t) (a.tmps.getD t undef)
theorem ARep.mono{c c':Ctx}{N:Nat}{α:AF}{a:Act}(hx:Ext c c')(h:ARep c N α a):ARep c' N α a:=
 ⟨h.size,h.defers.mono hx,fun t=>(h.rep t).mono hx⟩
def aX(dst:Option Tmp)(v:AV)(α:AF):AF:=
 match dst with
 |some d=>(d,v)::α
 |none=>α
def pZ(N:Nat):Option Tmp→Bool
 |some d=>Nat.blt d N
 |none=>true
theorem ARep.put{c:Ctx}{N:Nat}{α:AF}{a:Act}{dst:Option Tmp}{x:AV}{v:Value}(h:ARep c N α a)(hd:pZ N dst=true)(hv:Rep c x v):ARep c N (aX dst x α) (a.put dst v):=by
 cases dst with
 |none=>exact h
 |some d=>
  have hlt:d<a.tmps.size:=by rw[h.size];simpa[pZ,Nat.blt_eq]using hd
  refine⟨by simp[Act.put,h.size],h.defers,fun t=>?_⟩
  simp only[aX,look,Act.put];by_cases hdt:d=t
  ·subst hdt;simp[hlt,hv]
  ·have hb:(d==t)=false:=by simp[hdt]
   rw[hb,zCc];have:=h.rep t;simp_all
theorem ARep.weaken{c:Ctx}{N:Nat}{α β:AF}{a:Act}(h:ARep c N α a)(hb:∀t,look β t=.top∨look β t=look α t):ARep c N β a:=by
 refine⟨h.size,h.defers,fun t=>?_⟩
 rcases hb t with e|e
 ·rw[e];exact .top _
 ·rw[e];exact h.rep t
abbrev aT:=Exit→AF→AHeap→Prop
def wf(r:Option Nat):Fence:={fn:=fun _=>True,depth:=none,alive:=false,round:=r}
def aHQ:Code→Bool
 |.seq x y=>aHQ x&&aHQ y
 |.cond _ x y=>aHQ x&&aHQ y
 |.block _ x=>aHQ x
 |.loop x=>aHQ x
 |.scope x=>aHQ x
 |.rangeFunc _ _ _ _=>false
 |_=>true
def aw(P:Program)(N:Nat)(code:Code)(Q:aT)(α:AF)(H:AHeap):Prop:=
 ∀(r:Option Nat) (c:Ctx) (a:Act),(r=none∨aHQ code=true)→St c H→ARep c N α a→
  code.wpIn (wf r) 0 P (fun e a' w'=>∃c' α' H',c'.w=w'∧St c' H'∧Ext c c'∧ARep c' N α' a'∧Q e α' H') a c.w
theorem fl2{r:Option Nat}{a b:Bool}(h:r=none∨(a&&b)=true):(r=none∨a=true)∧(r=none∨b=true):=by
 grind
def RepAll(c:Ctx)(xs:List AV)(vs:Array Value):Prop:=vs.size=xs.length∧∀(i:Nat) (x:AV) (v:Value),xs[i]?=some x→vs[i]?=some v→Rep c x v
def ACalls(P:Program)(f:FuncId)(args:List AV)(H:AHeap)(R:AV→AHeap→Prop):Prop:=
 ∀(c:Ctx) (vs:Array Value),St c H→RepAll c args vs→
  Calls P f vs c.w (fun e w'=>∃c' x v H',e=.returned v∧c'.w=w'∧St c' H'∧Ext c c'∧Rep c' x v∧R x H')
def bJ(P:Program)(f:FuncId)(args:List AV)(H:AHeap)(x:AV):Prop:=ACalls P f args H (fun x' H'=>x'=x∧H'=H)
theorem ACalls.mono{P:Program}{f:FuncId}{args:List AV}{H:AHeap}{R R':AV→AHeap→Prop}(h:ACalls P f args H R)(hr:∀x H',R x H'→R' x H'):ACalls P f args H R':=
 fun c vs hs ha=>(h c vs hs ha).mono fun _ _ ⟨c',x,v,H',e1,e2,e3,e4,e5,e6⟩=>⟨c',x,v,H',e1,e2,e3,e4,e5,hr _ _ e6⟩
theorem jO{P:Program}{N:Nat}{code:Code}{Q Q':aT}{α:AF}{H:AHeap}(h:aw P N code Q α H)(hq:∀e α H,Q e α H→Q' e α H):aw P N code Q' α H:=
 fun r c a hr hs ha=>wpIn_mono (h r c a hr hs ha) fun _ _ _ ⟨c',α',H',e1,e2,e3,e4,e5⟩=>⟨c',α',H',e1,e2,e3,e4,hq _ _ _ e5⟩
theorem lE{P:Program}{N:Nat}{code:Code}{Q:aT}{α β:AF}{H:AHeap}(h:aw P N code Q β H)(hb:∀t,look β t=.top∨look β t=look α t):aw P N code Q α H:=
 fun r c a hr hs ha=>h r c a hr hs (ha.weaken hb)
theorem aE2{P:Program}{N:Nat}{Q:aT}{α:AF}{H:AHeap}(h:Q .normal α H):aw P N .skip Q α H:=
 fun _ c _ _ hs ha=>wpIn_skip ⟨c,α,H,rfl,hs,Ext.refl c,ha,h⟩
theorem aNR{P:Program}{N:Nat}{Q:aT}{α:AF}{H:AHeap}(h:Q .ret α H):aw P N .ret Q α H:=
 fun _ c _ _ hs ha=>wpIn_ret ⟨c,α,H,rfl,hs,Ext.refl c,ha,h⟩
theorem aM6{P:Program}{N id:Nat}{Q:aT}{α:AF}{H:AHeap}(h:Q (.exit id) α H):aw P N (.exit id) Q α H:=
 fun _ c _ _ hs ha=>wpIn_exit ⟨c,α,H,rfl,hs,Ext.refl c,ha,h⟩
theorem aLn{P:Program}{N l:Nat}{Q:aT}{α:AF}{H:AHeap}(h:Q .normal α H):aw P N (.label l) Q α H:=
 fun _ c _ _ hs ha=>wpIn_label ⟨c,α,H,rfl,hs,Ext.refl c,ha,h⟩
def mP(P:Program)(N:Nat)(y:Code)(Q:aT):aT
 |.normal,α,H=>aw P N y Q α H
 |e,α,H=>Q e α H
theorem aCy{P:Program}{N:Nat}{x y:Code}{Q:aT}{α:AF}{H:AHeap}(h:aw P N x (mP P N y Q) α H):aw P N (.seq x y) Q α H:=by
 intro r c a hr hs ha;have hr:=fl2 hr;refine wpIn_seq (wpIn_mono (h r c a hr.1 hs ha) fun e a' w' ⟨c',α',H',e1,e2,e3,e4,e5⟩=>?_)
 cases e with
 |normal=>
  subst e1;exact wpIn_mono (e5 r c' a' hr.2 e2 e4) fun e a'' w'' ⟨c'',α'',H'',g1,g2,g3,g4,g5⟩=>⟨c'',α'',H'',g1,g2,e3.trans g3,g4,g5⟩
 |exit id=>exact⟨c',α',H',e1,e2,e3,e4,e5⟩
 |goto l=>exact⟨c',α',H',e1,e2,e3,e4,e5⟩
 |ret=>exact⟨c',α',H',e1,e2,e3,e4,e5⟩
 |panic ch=>exact⟨c',α',H',e1,e2,e3,e4,e5⟩
 |outgrown=>exact⟨c',α',H',e1,e2,e3,e4,e5⟩
def fQ(id:Nat)(Q:aT):aT
 |.exit id',α,H=>bif id'==id then Q .normal α H else Q (.exit id') α H
 |e,α,H=>Q e α H
theorem aCz{P:Program}{N id:Nat}{x:Code}{Q:aT}{α:AF}{H:AHeap}(h:aw P N x (fQ id Q) α H):aw P N (.block id x) Q α H:=by
 intro r c a hr hs ha;refine wpIn_block (wpIn_mono (h r c a hr hs ha) fun e a' w' ⟨c',α',H',e1,e2,e3,e4,e5⟩=>?_)
 cases e with
 |exit id'=>
  grind [fQ,Exit.inBlock]
 |normal=>exact⟨c',α',H',e1,e2,e3,e4,e5⟩
 |goto l=>exact⟨c',α',H',e1,e2,e3,e4,e5⟩
 |ret=>exact⟨c',α',H',e1,e2,e3,e4,e5⟩
 |panic ch=>exact⟨c',α',H',e1,e2,e3,e4,e5⟩
 |outgrown=>exact⟨c',α',H',e1,e2,e3,e4,e5⟩
def aO0{ι:Type}(F:ι→AF)(Hp:ι→AHeap)(pre:ι→Prop)(m:ι→Nat)(x:ι)(Q:aT):aT
 |.normal,α,H=>∃y,pre y∧m y<m x∧(∀t,look (F y) t=.top∨look (F y) t=look α t)∧H=Hp y
 |e,α,H=>Q e α H
theorem wp_loop_ix{F:Fence}{n:Nat}{P:Program}{Q:Exit→Act→World→Prop}{a:Act}{w:World}{body:Code}{ι:Type}(I:ι→Act→World→Prop)(m:ι→Nat)(x₀:ι)(h₀:I x₀ a w)
  (round:∀x a w,I x a w→body.wpIn F n P (Exit.then (fun a' w'=>∃y,I y a' w'∧m y<m x) Q) a w):(Code.loop body).wpIn F n P Q a w:=by
 intro b k cs hro hb hr;have key:∀n x a w,m x=n→I x a w→
   ∃e a' w',Q e a' w'∧ArrivesIn (Machine.fenced P F) P (lone (b.atR a (.code body::.inLoop body::k)) cs w) b k cs e a' w':=by
  intro n;induction n using Nat.strongRecOn with
  |_ n ih=>
   intro x a w hn hI;obtain⟨e,a₁,w₁,hq,harr⟩:=round x a w hI b (.inLoop body::k) cs hro hb hr;cases e with
   |normal=>
    obtain⟨y,hI₁,hlt⟩:=hq;obtain⟨e₂,a₂,w₂,hq₂,harr₂⟩:=ih (m y) (hn▸hlt) y a₁ w₁ rfl hI₁;exact⟨e₂,a₂,w₂,hq₂,.of_steps (StepsIn.trans harr (.one (fenced_calm hb hr rfl) stepR_inLoop)) harr₂⟩
   |exit id=>exact⟨_,a₁,w₁,hq,.pass (x:=.inLoop body) rfl (fun _ _=>.inl (by simp)) harr⟩
   |goto l=>exact⟨_,a₁,w₁,hq,.pass (x:=.inLoop body) rfl (fun _ _=>.inl (by simp)) harr⟩
   |ret=>exact⟨_,a₁,w₁,hq,.pass (x:=.inLoop body) rfl (fun _ _=>.inl (by simp)) harr⟩
   |panic ch=>exact⟨_,a₁,w₁,hq,.pass (x:=.inLoop body) rfl (fun _ _=>.inl (by simp)) harr⟩
   |outgrown=>exact⟨_,a₁,w₁,hq,.pass (x:=.inLoop body) rfl (fun _ _=>.inl (by simp)) harr⟩
 obtain⟨e,a',w',hq,harr⟩:=key _ x₀ a w rfl h₀;exact⟨e,a',w',hq,.of_steps (.one (fenced_calm hb hr rfl) stepR_loop) harr⟩
theorem aE3{P:Program}{N:Nat}{body:Code}{Q:aT}{α:AF}{H:AHeap}{ι:Type}(F:ι→AF)(Hp:ι→AHeap)(pre:ι→Prop)(m:ι→Nat)(x₀:ι)(h0:pre x₀)
  (hF:∀t,look (F x₀) t=.top∨look (F x₀) t=look α t) (hH:H=Hp x₀)
  (round:∀x,pre x→aw P N body (aO0 F Hp pre m x Q) (F x) (Hp x)):aw P N (.loop body) Q α H:=by
 intro r c a hr hs ha;subst hH;refine wp_loop_ix (fun x a w=>pre x∧∃c',c'.w=w∧St c' (Hp x)∧Ext c c'∧ARep c' N (F x) a) m x₀ ⟨h0,c,rfl,hs,Ext.refl c,ha.weaken hF⟩ ?_
 rintro x a w ⟨hp,c',rfl,hs',hx',ha'⟩;refine wpIn_mono (round x hp r c' a hr hs' ha') fun e a' w' ⟨c'',α',H',e1,e2,e3,e4,e5⟩=>?_
 cases e with
 |normal=>
  obtain⟨y,p1,p2,p3,p4⟩:=e5;exact⟨y,⟨p1,c'',e1,p4▸e2,hx'.trans e3,e4.weaken p3⟩,p2⟩
 |exit id=>exact⟨c'',α',H',e1,e2,hx'.trans e3,e4,e5⟩
 |goto l=>exact⟨c'',α',H',e1,e2,hx'.trans e3,e4,e5⟩
 |ret=>exact⟨c'',α',H',e1,e2,hx'.trans e3,e4,e5⟩
 |panic ch=>exact⟨c'',α',H',e1,e2,hx'.trans e3,e4,e5⟩
 |outgrown=>exact⟨c'',α',H',e1,e2,hx'.trans e3,e4,e5⟩
def cZ:Value→AV
 |.int k n=>bif vY k n then .int k n else .top
 |.bool b=>.bool b
 |.string s=>bif Nat.ble s.data.toList.length 9223372036854775807 then .str s.data.toList else .top
 |.pointer none=>.nilptr
 |.slice none 0 0=>.sl true []
 |.map none=>.nilmap
 |.nilFunc=>.nilfunc
 |.nilIface=>.nilIface
 |_=>.top
theorem rep_slnil(c:Ctx):Rep c (.sl true []) (.slice none 0 0):=
 .sl true [] none 0 0 0 (fun _ _=>undef) rfl (zAb _) (fun _=>rfl) (fun h=>absurd rfl h) (by simp) (by simp) (by omega)
theorem aHR(c:Ctx)(v:Value):Rep c (cZ v) v:=by
 unfold cZ;split
 ·rename_i k n;cases h:vY k n with
  |true=>exact .int _ _ (lZ.1 h)
  |false=>exact .top _
 ·exact .bool _
 ·rename_i s;cases h:Nat.ble s.data.toList.length 9223372036854775807 with
  |true=>simpa using Rep.str (c:=c) s.data.toList (zAP h)
  |false=>exact .top _
 ·exact .nilptr
 ·exact rep_slnil c
 ·exact .nilmap
 ·exact .nilfunc
 ·exact .nilIface
 ·exact .top _
def aM7:Value→AV
 |.agg cs=>.agg (cs.toList.map cZ)
 |.tuple vs=>bif vs.size==0 then .tup []else .top
 |v=>cZ v
theorem aGM(c:Ctx)(v:Value):Rep c (aM7 v) v:=by
 cases v with
 |agg cs=>
  refine .agg _ _ (by simp) fun i x v h1 h2=>?_
  simp only[zAY,zAy]at h1;obtain⟨u,h1,rfl⟩:=h1;rw[zBo,h2]at h1;cases h1;exact aHR c v
 |tuple vs=>
  simp only[aM7];by_cases h:vs.size=0
  ·have:(vs.size==0)=true:=by simp[h]
   rw[this];exact .tup [] _ h (by simp)
  ·have:(vs.size==0)=false:=by simpa using h
   rw[this];exact .top _
 |_=>simp only[aM7];exact aHR c _
def ev(α:AF):Operand→AV
 |.tmp t=>look α t
 |.const v=>aM7 v
 |.global _=>.top
 |.func f=>.func (.func f) [] []
theorem uL{c:Ctx}{N:Nat}{α:AF}{a:Act}(h:ARep c N α a)(x:Operand):Rep c (ev α x) (a.eval x):=by
 cases x with
 |tmp t=>exact h.rep t
 |const v=>exact aGM c v
 |global g=>exact .top _
 |func f=>exact .func _ [] [] _ _ rfl rfl (by simp) (by simp)
end
section
variable {P:Program}
def Does(P:Program)(o:Oper)(ρ:Operand→AV)(H:AHeap)(R:AV→AHeap→Prop):Prop:=
 ∀(r:Option Nat) (c:Ctx) (a:Act) (next:Act→World→Prop) (Q:Exit→Act→World→Prop),St c H→(∀x∈o.op.operands.toList,Rep c (ρ x) (a.eval x))→
  (∀c' x v H',St c' H'→Ext c c'→Rep c' x v→R x H'→next (a.put o.dst v) c'.w)→o.wpIn (wf r) 0 P a c.w next Q
def Sm(o:Oper):Prop:=∀r ρ,o.semAt r ρ=execOp ρ o
theorem owp{r:Option Nat}{o:Oper}{a:Act}{w:World}{next:Act→World→Prop}{Q:Exit→Act→World→Prop}(hd:Sm o)(h:o.uponIn (wf r) 0 P a next Q ((execOp a.eval o).run P w)):o.wpIn (wf r) 0 P a w next Q:=
 ⟨fun _ _=>trivial,by rw[hd];exact h⟩
def aPN(P:Program)(s:Sem Value)(c:Ctx)(x:AV)(H':AHeap):Prop:=∃c' v,s.run P c.w=.ok v c'.w∧St c' H'∧Ext c c'∧Rep c' x v
theorem Rep.int_inv{c:Ctx}{k:IntKind}{n:Int}{v:Value}(h:Rep c (.int k n) v):v=.int k n:=by cases h;rfl
theorem Rep.int_R{c:Ctx}{k:IntKind}{n:Int}{v:Value}(h:Rep c (.int k n) v):inR k n:=by cases h;assumption
theorem Rep.str_R{c:Ctx}{s:List UInt8}{v:Value}(h:Rep c (.str s) v):s.length≤9223372036854775807:=by cases h;assumption
theorem Rep.sl_R{c:Ctx}{f:Bool}{es:List AV}{v:Value}(h:Rep c (.sl f es) v):es.length≤9223372036854775807:=by
 cases h with|sl _ _ _ _ _ _ _ h1 _ _ _ _ _ h2=>rw[←h1];exact h2
theorem Rep.osl_R{c:Ctx}{s i v off len lc:Nat}{val:Value}(h:Rep c (.osl s i v off len lc) val):lc≤9223372036854775807:=by cases h;assumption
theorem Rep.bool_inv{c:Ctx}{b:Bool}{v:Value}(h:Rep c (.bool b) v):v=.bool b:=by cases h;rfl
theorem Rep.str_inv{c:Ctx}{s:List UInt8}{v:Value}(h:Rep c (.str s) v):v=.string ⟨s.toArray⟩:=by cases h;rfl
theorem Rep.agg_inv{c:Ctx}{cs:List AV}{v:Value}(h:Rep c (.agg cs) v):∃vs:Array Value,v=.agg vs∧vs.size=cs.length∧∀(i:Nat) (x:AV) (v:Value),cs[i]?=some x→vs[i]?=some v→Rep c x v:=by
 cases h with|agg _ vs hl h=>exact⟨vs,rfl,hl,h⟩
theorem Rep.tup_inv{c:Ctx}{cs:List AV}{v:Value}(h:Rep c (.tup cs) v):∃vs:Array Value,v=.tuple vs∧vs.size=cs.length∧∀(i:Nat) (x:AV) (v:Value),cs[i]?=some x→vs[i]?=some v→Rep c x v:=by
 cases h with|tup _ vs hl h=>exact⟨vs,rfl,hl,h⟩
def aY(op:BinOp)(k:IntKind)(x y:Int):Int:=
 match op with
 |.and=>k.wrap (BitVec.ofInt k.bits x&&&BitVec.ofInt k.bits y).toNat
 |.or=>k.wrap (BitVec.ofInt k.bits x|||BitVec.ofInt k.bits y).toNat
 |.xor=>k.wrap (BitVec.ofInt k.bits x ^^^ BitVec.ofInt k.bits y).toNat
 |_=>k.wrap (BitVec.ofInt k.bits x&&& ~~~(BitVec.ofInt k.bits y)).toNat
structure BR where
 v:AV
 s:Prop
def bad:BR:=⟨.top,False⟩
def dI(op:BinOp)(k:IntKind)(a b:Int):BR:=
 match op with
 |.add=>⟨.int k (k.wrap (a+b)),True⟩
 |.sub=>⟨.int k (k.wrap (a-b)),True⟩
 |.mul=>⟨.int k (k.wrap (a * b)),True⟩
 |.quo=>⟨.int k (k.wrap (a.tdiv b)),b≠0⟩
 |.rem=>⟨.int k (a.tmod b),b≠0⟩
 |.and=>⟨.int k (aY .and k a b),True⟩
 |.or=>⟨.int k (aY .or k a b),True⟩
 |.xor=>⟨.int k (aY .xor k a b),True⟩
 |.andNot=>⟨.int k (aY .andNot k a b),True⟩
 |.eql=>⟨.bool (decide (a=b)),True⟩
 |.neq=>⟨.bool (!decide (a=b)),True⟩
 |.lss=>⟨.bool (decide (a<b)),True⟩
 |.leq=>⟨.bool (decide (a≤b)),True⟩
 |.gtr=>⟨.bool (decide (b<a)),True⟩
 |.geq=>⟨.bool (decide (b≤a)),True⟩
 |.shl=>⟨.int k (k.wrap (a * 2 ^ (min b.toNat k.bits))),0≤b⟩
 |.shr=>⟨.int k (a.fdiv (2 ^ (min b.toNat k.bits))),0≤b⟩
def aAH(op:BinOp)(a b:List UInt8):BR:=
 match op with
 |.add=>⟨.str (a++b),a.length+b.length≤9223372036854775807⟩
 |.eql=>⟨.bool (decide (a=b)),True⟩
 |.neq=>⟨.bool (!decide (a=b)),True⟩
 |.lss=>⟨.bool (Op.bytesLess a b),True⟩
 |.leq=>⟨.bool (Op.bytesLess a b||decide (a=b)),True⟩
 |.gtr=>⟨.bool (!(Op.bytesLess a b||decide (a=b))),True⟩
 |.geq=>⟨.bool (!Op.bytesLess a b),True⟩
 |_=>bad
def apart(P:Program)(t:TypeId)(off:Nat)(cs:List AV):BR:=
 match P.underlying t with
 |some (.struct _)|some (.array _ _)=>⟨.agg ((cs.drop off).take (P.cellsOf t)),True⟩
 |some _=>⟨cs.getD off .top,off<cs.length⟩
 |none=>bad
structure ER where
 b:Bool
 s:Prop
mutual
def aEq(P:Program):Nat→TypeId→AV→AV→ER
 |0,_,_,_=>⟨false,False⟩
 |d+1,t,x,y=>
  match P.underlying t,x,y with
  |some .bool,.bool a,.bool b=>⟨a==b,True⟩
  |some (.int _),.int k a,.int k' b=>⟨decide (a=b),k=k'⟩
  |some .string,.str a,.str b=>⟨decide (a=b),True⟩
  |some (.struct fs),.agg xs,.agg ys=>⟨(aPO P d xs ys fs.toList).b,P.stoodInHeld t=false∧(aPO P d xs ys fs.toList).s⟩
  |_,_,_=>⟨false,False⟩
def aPO(P:Program):Nat→List AV→List AV→List Field→ER
 |_,_,_,[]=>⟨true,True⟩
 |0,_,_,_::_=>⟨false,False⟩
 |d+1,xs,ys,f::fs=>
  ⟨(aEq P d f.type (apart P f.type f.offset xs).v (apart P f.type f.offset ys).v).b&&(aPO P d xs ys fs).b,
    f.name≠ "_" ∧(apart P f.type f.offset xs).s∧(apart P f.type f.offset ys).s∧(aEq P d f.type (apart P f.type f.offset xs).v (apart P f.type f.offset ys).v).s∧(aPO P d xs ys fs).s⟩
end
theorem zA{t:TypeId}{d:TypeDesc}(h:P.underlying t=some d):∃i,P.info? t=some i∧P.cellsOf t=i.size:=by
 grind [Program.underlying,Program.cellsOf]
theorem oR{t:TypeId}{d:TypeDesc}(h:P.underlying t=some d)(w:World):(sizeOf t).run P w=.ok (P.cellsOf t) w:=by
 obtain⟨i,h1,h2⟩:=zA h;simp[sizeOf,typeInfo,h1,h2]
def TypeDesc.isAgg:TypeDesc→Bool
 |.struct _|.array _ _=>true
 |_=>false
theorem run_isAgg{t:TypeId}{d:TypeDesc}(h:P.underlying t=some d)(w:World):(isAgg t).run P w=.ok (TypeDesc.isAgg d) w:=by
 unfold isAgg;rw[Sem.run_bind,run_underlying h];cases d<;>rfl
theorem rep_agg_part{c:Ctx}{cs:List AV}{vs:Array Value}(hl:vs.size=cs.length)(h:∀(i:Nat) (x:AV) (v:Value),cs[i]?=some x→vs[i]?=some v→Rep c x v)(off n:Nat):
  Rep c (.agg ((cs.drop off).take n)) (.agg (vs.extract off (off+n))):=by
 refine .agg _ _ (by simp[hl];omega) fun i x v h1 h2=>?_
 grind
theorem apart_sound{c:Ctx}{cs:List AV}{vs:Array Value}(hl:vs.size=cs.length)(h:∀(i:Nat) (x:AV) (v:Value),cs[i]?=some x→vs[i]?=some v→Rep c x v){t:TypeId}{off:Nat}(hs:(apart P t off cs).s):
  ∃v,(∀w,(part t vs off).run P w=.ok v w)∧Rep c (apart P t off cs).v v:=by
 unfold apart at *;cases hu:P.underlying t with
 |none=>simp[hu,bad]at hs
 |some d=>
  simp only[hu]at hs ⊢;by_cases ha:TypeDesc.isAgg d=true
  ·refine⟨.agg (vs.extract off (off+P.cellsOf t)),fun w=>?_,?_⟩
   ·simp[part,run_isAgg hu,ha,oR hu]
   ·cases d<;>simp only[TypeDesc.isAgg,zAr]at ha<;>exact rep_agg_part hl h off _
  ·have ha:TypeDesc.isAgg d=false:=by simpa using ha
   have hlt:off<cs.length:=by cases d<;>first|exact hs|(simp[TypeDesc.isAgg]at ha)
   have hv:vs[off]?=some (vs[off]'(by omega)):=zAZ (by omega)
   have hx:cs[off]?=some (cs[off]):=zAd hlt;refine⟨vs[off]'(by omega),fun w=>?_,?_⟩
   ·simp[part,run_isAgg hu,ha,hv]
   ·have:Rep c (cs.getD off .top) (vs[off]'(by omega)):=by rw[zAm,hx];exact h _ _ _ hx hv
    cases d<;>first|exact this|(simp[TypeDesc.isAgg]at ha)
theorem aEq_sound(c:Ctx)(d:Nat):
  (∀(t:TypeId) (x y:AV) (vx vy:Value) (D:Nat) (w:World),d≤D→(aEq P d t x y).s→Rep c x vx→Rep c y vy→(Op.equalIn D t vx vy).run P w=.ok (aEq P d t x y).b w)∧
  (∀(fs:List Field) (xs ys:List AV) (vx vy:Array Value) (D:Nat) (w:World),d≤D→(aPO P d xs ys fs).s→Rep c (.agg xs) (.agg vx)→Rep c (.agg ys) (.agg vy)→
   (Op.eqFields D vx vy fs).run P w=.ok (aPO P d xs ys fs).b w):=by
 induction d with
 |zero=>
  refine⟨fun t x y vx vy D w _ hs=>by simp[aEq]at hs,fun fs xs ys vx vy D w _ hs _ _=>?_⟩
  cases fs with
  |nil=>simp[Op.eqFields,aPO]
  |cons f fs=>simp[aPO]at hs
 |succ d ih=>
  obtain⟨ih1,ih2⟩:=ih;refine⟨fun t x y vx vy D w hD hs hx hy=>?_,fun fs xs ys vx vy D w hD hs hx hy=>?_⟩
  ·obtain⟨D,rfl⟩:∃D',D=D'+1:=⟨D-1,by omega⟩
   unfold aEq at hs ⊢;split at hs
   ·rename_i hu;rw[hx.bool_inv,hy.bool_inv];exact run_equalIn_bool' w _ _ _ _ hu
   ·rename_i hu;rw[hx.int_inv,hy.int_inv];subst hs;rw[run_equalIn_int w _ _ _ _ _ _ hu];rfl
   ·rename_i a b hu;rw[hx.str_inv,hy.str_inv,run_equalIn_string w _ _ _ _ hu];simp only[ByteArray.toList_mk];congr 1;rw[Bool.eq_iff_iff];simp
   ·rename_i fs xs ys hu;obtain⟨hst,hs⟩:=hs;obtain⟨vx,rfl,hx1,hx2⟩:=hx.agg_inv;obtain⟨vy,rfl,hy1,hy2⟩:=hy.agg_inv;have hfs:P.fieldsOf t=fs:=by simp[Program.fieldsOf,hu]
    rw[run_equalIn_struct w D t vx vy (by rw[hfs];exact hu) hst,hfs]
    exact ih2 fs.toList xs ys vx vy D w (by omega) hs hx hy
   ·exact hs.elim
  ·cases fs with
   |nil=>simp[Op.eqFields,aPO]
   |cons f fs=>
    unfold aPO at hs ⊢;obtain⟨h0,h1,h2,h3,h4⟩:=hs;obtain⟨vx',hvx,hx1,hx2⟩:=hx.agg_inv;obtain⟨vy',hvy,hy1,hy2⟩:=hy.agg_inv;cases hvx;cases hvy;obtain⟨px,hpx,rpx⟩:=apart_sound (P:=P) hx1 hx2 h1;obtain⟨py,hpy,rpy⟩:=apart_sound (P:=P) hy1 hy2 h2;have e1:=ih1 f.type _ _ px py D w (by omega) h3 rpx rpy
    have e2:=ih2 fs xs ys vx vy D w (by omega) h4 hx hy
    have hn:(f.name≠ "_")=True:=by simp[h0]
    simp only[Op.eqFields,hn,zBy,Sem.run_bind,hpx,hpy,Result.andThen_ok,e1,Sem.run_ite,Sem.run_pure,e2];cases(aEq P d f.type (apart P f.type f.offset xs).v (apart P f.type f.offset ys).v).b<;>simp
def cL(P:Program)(op:BinOp)(t:TypeId)(x y:AV):BR:=
 match op,x,y with
 |.shl,.int k a,.int _ b=>dI .shl k a b
 |.shr,.int k a,.int _ b=>dI .shr k a b
 |op,.int k a,.int k' b=>⟨(dI op k a b).v,k=k'∧(dI op k a b).s⟩
 |op,.str a,.str b=>aAH op a b
 |.eql,.bool a,.bool b=>⟨.bool (a==b),P.underlying t=some .bool⟩
 |.neq,.bool a,.bool b=>⟨.bool (!(a==b)),P.underlying t=some .bool⟩
 |.eql,.agg xs,.agg ys=>⟨.bool (aEq P 30 t (.agg xs) (.agg ys)).b,P.eqGuardType P.depth t=false∧(aEq P 30 t (.agg xs) (.agg ys)).s⟩
 |.neq,.agg xs,.agg ys=>⟨.bool (!(aEq P 30 t (.agg xs) (.agg ys)).b),P.eqGuardType P.depth t=false∧(aEq P 30 t (.agg xs) (.agg ys)).s⟩
 |_,_,_=>bad
theorem aM9(s:List UInt8):(ByteArray.mk s.toArray).size=s.length:=by simp[ByteArray.size]
theorem append_mk(a b:List UInt8):(ByteArray.mk a.toArray)++(ByteArray.mk b.toArray)=ByteArray.mk (a++b).toArray:=by
 apply ByteArray.ext
 simp[ByteArray.data_append]
theorem tmod_inR{k:IntKind}{a:Int}(b:Int)(h:inR k a):inR k (a.tmod b):=by
 refine aGL h (fun h0=>⟨Int.tmod_nonneg b h0,?_⟩) (fun h0=>?_)
 ·have h1:=Int.natAbs_tmod a b;have h2:=Nat.mod_le a.natAbs b.natAbs;grind
 ·have h1:=Int.natAbs_tmod a b;have h2:=Nat.mod_le a.natAbs b.natAbs;have h3:0≤(-a).tmod b:=Int.tmod_nonneg b (by omega)
  rw[Int.neg_tmod]at h3;omega
theorem fdiv_inR{k:IntKind}{a:Int}(m:Nat)(h:inR k a):inR k (a.fdiv (2 ^ m)):=by
 have hp:(0:Int)<2 ^ m:=Int.pow_pos (by decide)
 rw[zBk _ (by omega)]
 refine aGL h (fun h0=>⟨Int.ediv_nonneg h0 (by omega),Int.ediv_le_self _ h0⟩) (fun h0=>?_)
 have h1:a / 2 ^ m<0:=Int.ediv_neg_of_neg_of_pos h0 hp;have h2:a≤a / 2 ^ m:=by
  apply Int.le_ediv_of_mul_le hp
  have h3:(1:Int)≤2 ^ m:=by omega
  have:=Int.mul_le_mul_of_nonpos_left (a:=a) (by omega:a≤0) h3
  omega
 omega
theorem aBin_sound{c:Ctx}{op:BinOp}{t:TypeId}{x y:AV}{vx vy:Value}{X Y:Operand}(hx:Rep c x vx)(hy:Rep c y vy)(hs:(cL P op t x y).s)(w:World):
  ∃v,(do eqGuard op t X Y vx vy;binOp op t vx vy:Sem Value).run P w=.ok v w∧Rep c (cL P op t x y).v v:=by
 unfold cL at hs ⊢;split at hs
 ·rw[hx.int_inv,hy.int_inv];simp only[dI]at hs;refine⟨_,?_,.int _ _ (aLm _ _)⟩;simp[eqGuard,binOp,Op.shift,Int.not_lt.2 hs]
 ·rw[hx.int_inv,hy.int_inv];simp only[dI]at hs;refine⟨_,?_,.int _ _ (fdiv_inR _ hx.int_R)⟩;simp[eqGuard,binOp,Op.shift,Int.not_lt.2 hs]
 ·rename_i k a k' b h1 h2;rw[hx.int_inv,hy.int_inv];obtain⟨rfl,hs⟩:=hs;cases op<;>simp only[dI]at hs ⊢;case shl=>simp at h1
  case shr=>simp at h2
  case add=>exact⟨_,by simp[eqGuard,binOp,Op.intArith],.int _ _ (aLm _ _)⟩
  case sub=>exact⟨_,by simp[eqGuard,binOp,Op.intArith],.int _ _ (aLm _ _)⟩
  case mul=>exact⟨_,by simp[eqGuard,binOp,Op.intArith],.int _ _ (aLm _ _)⟩
  case quo=>exact⟨_,by simp[eqGuard,binOp,Op.intDiv,hs],.int _ _ (aLm _ _)⟩
  case rem=>exact⟨_,by simp[eqGuard,binOp,Op.intDiv,hs],.int _ _ (tmod_inR _ hx.int_R)⟩
  case and=>exact⟨_,by first|(simp[eqGuard,binOp,Op.intBits];done)|(simp[eqGuard,binOp,Op.intBits];rfl),.int _ _ (aLm _ _)⟩
  case or=>exact⟨_,by first|(simp[eqGuard,binOp,Op.intBits];done)|(simp[eqGuard,binOp,Op.intBits];rfl),.int _ _ (aLm _ _)⟩
  case xor=>exact⟨_,by first|(simp[eqGuard,binOp,Op.intBits];done)|(simp[eqGuard,binOp,Op.intBits];rfl),.int _ _ (aLm _ _)⟩
  case andNot=>exact⟨_,by simp only[eqGuard,binOp,ne_eq,not_true_eq_false,zBd,Op.intBits,Sem.run_bind];rfl,.int _ _ (aLm _ _)⟩
  case eql=>exact⟨_,by first|(simp[eqGuard,binOp,Op.intCmp];done)|(simp[eqGuard,binOp,Op.intCmp];rfl),.bool _⟩
  case neq=>exact⟨_,by first|(simp[eqGuard,binOp,Op.intCmp];done)|(simp[eqGuard,binOp,Op.intCmp];rfl),.bool _⟩
  case lss=>exact⟨_,by first|(simp[eqGuard,binOp,Op.intCmp];done)|(simp[eqGuard,binOp,Op.intCmp];rfl),.bool _⟩
  case leq=>exact⟨_,by first|(simp[eqGuard,binOp,Op.intCmp];done)|(simp[eqGuard,binOp,Op.intCmp];rfl),.bool _⟩
  case gtr=>exact⟨_,by first|(simp[eqGuard,binOp,Op.intCmp];done)|(simp[eqGuard,binOp,Op.intCmp];rfl),.bool _⟩
  case geq=>exact⟨_,by first|(simp[eqGuard,binOp,Op.intCmp];done)|(simp[eqGuard,binOp,Op.intCmp];rfl),.bool _⟩
 ·rename_i a b;rw[hx.str_inv,hy.str_inv];have e:(a==b)=decide (a=b):=by rw[Bool.eq_iff_iff];simp
  cases op<;>simp only[aAH,bad]at hs ⊢;case add=>
   refine⟨_,?_,.str _ (by simpa using hs)⟩
   have hm:¬((((ByteArray.mk a.toArray).size+(ByteArray.mk b.toArray).size:Nat):Int)>IntKind.i64.max):=by
    have:IntKind.i64.max=9223372036854775807:=by decide
    rw[this,aM9,aM9];omega
   have e1:(binOp .add t (.string ⟨a.toArray⟩) (.string ⟨b.toArray⟩)).run P w=.ok (.string ⟨(a++b).toArray⟩) w:=by
    simp only[binOp,Op.stringOp];rw[zAk hm,append_mk];rfl
   simp[eqGuard,e1]
  case eql=>exact⟨_,by first|(simp[eqGuard,binOp,Op.stringOp,e];done)|(simp[eqGuard,binOp,Op.stringOp,e];rfl),.bool _⟩
  case neq=>exact⟨_,by first|(simp[eqGuard,binOp,Op.stringOp,e];done)|(simp[eqGuard,binOp,Op.stringOp,e];rfl),.bool _⟩
  case lss=>exact⟨_,by first|(simp[eqGuard,binOp,Op.stringOp,e];done)|(simp[eqGuard,binOp,Op.stringOp,e];rfl),.bool _⟩
  case leq=>exact⟨_,by first|(simp[eqGuard,binOp,Op.stringOp,e];done)|(simp[eqGuard,binOp,Op.stringOp,e];rfl),.bool _⟩
  case gtr=>exact⟨_,by first|(simp[eqGuard,binOp,Op.stringOp,e];done)|(simp[eqGuard,binOp,Op.stringOp,e];rfl),.bool _⟩
  case geq=>exact⟨_,by first|(simp[eqGuard,binOp,Op.stringOp,e];done)|(simp[eqGuard,binOp,Op.stringOp,e];rfl),.bool _⟩
 ·rw[hx.bool_inv,hy.bool_inv];exact⟨_,by first|(simp[eqGuard,binOp,Op.equal,Op.maxDepth,run_equalIn_bool' w _ _ _ _ hs];done)|(simp[eqGuard,binOp,Op.equal,Op.maxDepth,run_equalIn_bool' w _ _ _ _ hs];rfl),.bool _⟩
 ·rw[hx.bool_inv,hy.bool_inv];refine⟨_,by first|(simp[eqGuard,binOp,Op.equal,Op.maxDepth,run_equalIn_bool' w _ _ _ _ hs];done)|(simp[eqGuard,binOp,Op.equal,Op.maxDepth,run_equalIn_bool' w _ _ _ _ hs];rfl),.bool _⟩
 ·rename_i xs ys;obtain⟨hg,hs⟩:=hs;obtain⟨vx',rfl,_,_⟩:=hx.agg_inv;obtain⟨vy',rfl,_,_⟩:=hy.agg_inv;refine⟨_,?_,.bool _⟩;rw[Sem.run_bind,run_eqGuard_agg w .eql t X Y vx' vy' hg,Result.andThen_ok,run_eql_struct,(aEq_sound (P:=P) c 30).1 t _ _ _ _ 10000 w (by omega) hs hx hy,Result.andThen_ok]
 ·rename_i xs ys;obtain⟨hg,hs⟩:=hs;obtain⟨vx',rfl,_,_⟩:=hx.agg_inv;obtain⟨vy',rfl,_,_⟩:=hy.agg_inv;refine⟨_,?_,.bool _⟩;rw[Sem.run_bind,run_eqGuard_agg w .neq t X Y vx' vy' hg,Result.andThen_ok,run_neq_struct,(aEq_sound (P:=P) c 30).1 t _ _ _ _ 10000 w (by omega) hs hx hy,Result.andThen_ok]
 ·exact hs.elim
end
section
variable {P:Program}
structure Res where
 v:AV
 H:AHeap
 s:Prop
def hget(H:AHeap)(i:Nat):ABlk:=H.getD i .gone
def aA(H:AHeap)(i:Nat)(b:ABlk):AHeap:=H.set i b
theorem eS{H:AHeap}{i:Nat}{b:ABlk}(h:hget H i=b)(hb:b.live):H[i]?=some b:=by
 unfold hget at h;rw[zAm]at h;cases hi:H[i]? with
 |none=>rw[hi]at h;subst h;exact hb.elim
 |some x=>rw[hi]at h;simp at h;rw[h]
def aO2(P:Program)(t:TypeId)(cs:List AV)(off:Nat):BR:=
 match P.underlying t with
 |some (.struct _)|some (.array _ _)=>⟨.agg ((cs.drop off).take (P.cellsOf t)),off+P.cellsOf t≤cs.length⟩
 |some _=>⟨cs.getD off .top,off<cs.length⟩
 |none=>bad
theorem run_loadVar_agg{t:TypeId}{d:TypeDesc}(hu:P.underlying t=some d)(ha:TypeDesc.isAgg d=true)(w:World)(a:Addr)(f:Nat→Value)(h:∀j,j<P.cellsOf t→w.cell? (a.add j)=some (f j)):
  (loadVar t a).run P w=.ok (.agg ((List.range (P.cellsOf t)).map f).toArray) w:=by
 simp[loadVar,run_isAgg hu,ha,oR hu,run_loadCells (P:=P) w a _ f h]
theorem run_loadVar_one{t:TypeId}{d:TypeDesc}(hu:P.underlying t=some d)(ha:TypeDesc.isAgg d=false)(w:World)(a:Addr)(v:Value)(h:w.cell? a=some v):
  (loadVar t a).run P w=.ok v w:=by
 simp[loadVar,run_isAgg hu,ha,h]
theorem aread_sound{c:Ctx}{t:TypeId}{cs:List AV}{off:Nat}{a:Addr}{vs:Nat→Value}(hs:(aO2 P t cs off).s)
  (hc:∀j,j<cs.length→c.w.cell? (a.add j)=some (vs j)) (hr:∀(j:Nat) (x:AV),cs[j]?=some x→Rep c x (vs j)) (ha0:a.spot=none):
  ∃v,(loadVar t (a.add off)).run P c.w=.ok v c.w∧Rep c (aO2 P t cs off).v v:=by
 have hadd:∀m n,(a.add m).add n=a.add (m+n):=by
  grind [Addr.add,Nat.add_assoc]
 unfold aO2 at *;cases hu:P.underlying t with
 |none=>simp[hu,bad]at hs
 |some d=>
  simp only[hu]at hs ⊢;by_cases hag:TypeDesc.isAgg d=true
  ·have hle:off+P.cellsOf t≤cs.length:=by grind [TypeDesc.isAgg]
   refine⟨_,run_loadVar_agg hu hag c.w _ (fun j=>vs (off+j)) (fun j hj=>by rw[hadd];exact hc _ (by omega)),?_⟩
   have:Rep c (.agg ((cs.drop off).take (P.cellsOf t))) (.agg ((List.range (P.cellsOf t)).map fun j=>vs (off+j)).toArray):=by
    refine .agg _ _ (by simp;omega) fun i x v h1 h2=>?_
    rw[List.getElem?_take,List.getElem?_drop]at h1;split at h1
    ·rename_i hlt;simp[hlt]at h2;subst h2;exact hr _ _ h1
    ·cases h1
   cases d<;>first|exact this|(simp[TypeDesc.isAgg]at hag)
  ·have hag:TypeDesc.isAgg d=false:=by simpa using hag
   have hlt:off<cs.length:=by cases d<;>first|exact hs|(simp[TypeDesc.isAgg]at hag)
   have hx:cs[off]?=some cs[off]:=zAd hlt;refine⟨_,run_loadVar_one hu hag c.w _ _ (hc _ hlt),?_⟩;have:Rep c (cs.getD off .top) (vs off):=by rw[zAm,hx];exact hr _ _ hx
   cases d<;>first|exact this|(simp[TypeDesc.isAgg]at hag)
theorem mA{w:World}{b:Nat}{vs:Array Value}{e:TypeId}{fr:Nat×Nat}(h:w.heap[b]?=some (.cells vs e fr))(off:Nat):w.cell? ⟨b,off,none⟩=vs[off]?:=by
 simp[World.cell?,h]
theorem uM(b off n:Nat):(Addr.mk b off none).add n=⟨b,off+n,none⟩:=by
 unfold Addr.add;split
 ·rename_i h;simp[h]
 ·rfl
def aAI(P:Program)(t:TypeId)(x:AV)(H:AHeap):BR:=
 match x with
 |.cptr cs=>aO2 P t cs 0
 |.ref i v off=>
  match hget H i with
  |.cells ver cs=>⟨(aO2 P t cs off).v,v=ver∧(aO2 P t cs off).s⟩
  |_=>bad
 |_=>bad
theorem bC{H:AHeap}{i:Nat}{b:ABlk}(h:hget H i=b)(hb:b.live):i<H.length:=(eT.1 (eS h hb)).1
theorem St.cells{c:Ctx}{H:AHeap}(h:St c H){i ver:Nat}{cs:List AV}(hi:hget H i=.cells ver cs)(hd:c.vd i=false):
  i<c.n∧c.ver i=ver∧∃vs e fr,c.w.heap[c.blk i]?=some (.cells vs e fr)∧cs.length≤vs.size∧(vs.size≤fr.1∨fr.2≤fr.1)∧∀(j:Nat) (x:AV) (v:Value),cs[j]?=some x→vs[j]?=some v→Rep c x v:=by
 have h1:=eS hi trivial;have h2:=h.rep i _ h1;refine⟨by rw[h.n];exact bC hi trivial,?_⟩
 cases h2 with
 |cells _ _ vs e fr hv hd hh hl hf hr=>grind
 |void _ hv hd'=>rw[hd]at hd';cases hd'
theorem St.ver_eq{c:Ctx}{H:AHeap}(h:St c H){i ver:Nat}{cs:List AV}(hi:hget H i=.cells ver cs):c.ver i=ver:=by
 have h2:=h.rep i _ (eS hi trivial);cases h2 with
 |cells _ _ _ _ _ hv=>exact hv
 |void _ hv=>exact hv
theorem vZ{c:Ctx}{H:AHeap}{t:TypeId}{x:AV}{vx:Value}(hst:St c H)(hx:Rep c x vx)(hs:(aAI P t x H).s):
  ∃v,(Instr.loadAt t vx).run P c.w=.ok v c.w∧Rep c (aAI P t x H).v v:=by
 unfold aAI at *;split at hs
 ·rename_i cs;cases hx with
  |cptr _ a vs hspot hst' hc hr=>
   obtain⟨v,h1,h2⟩:=aread_sound (P:=P) (c:=c) (a:=a) hs hc hr hspot;refine⟨v,?_,h2⟩;have:a.add 0=a:=by simp[Addr.add]
   rw[this]at h1;simp[Instr.loadAt,Instr.sureAddr,h1]
 ·rename_i i v off;split at hs
  ·rename_i ver cs hh;obtain⟨hv,hs⟩:=hs;have hver:=hst.ver_eq hh;simp only[hh];cases hx with
   |ref _ _ _ _ _ _ _ hval=>
    obtain⟨hd,hval⟩:=hval (by omega)
    obtain⟨hi,_,vs,e,fr,hb,hl,hf,hr⟩:=hst.cells hh hd;rw[hval];obtain⟨u,h1,h2⟩:=aread_sound (P:=P) (c:=c) (t:=t) (cs:=cs) (off:=off) (a:=⟨c.blk i,0,none⟩) (vs:=fun j=>vs.getD j undef) hs
     (fun j hj=>by rw[uM,mA hb];simp[zAZ (show 0+j<vs.size by omega),show j<vs.size by omega])
     (fun j y hj=>by
      have hlt:j<cs.length:=(eT.1 hj).1;refine hr j y _ hj ?_;simp[zAZ (show j<vs.size by omega),show j<vs.size by omega]) rfl
    refine⟨u,?_,h2⟩;rw[uM,zBn]at h1;simp[Instr.loadAt,Instr.sureAddr,h1]
  ·exact hs.elim
 ·exact hs.elim
def Ctx.push(c:Ctx)(o:Obj)(v0:Nat:=0):Ctx:=
 {w:=c.w.alloc o,n:=c.n+1,blk:=fun i=>if i=c.n then c.w.heap.size else c.blk i,ver:=fun i=>if i=c.n then v0 else c.ver i,vd:=fun i=>if i=c.n then false else c.vd i,stable:=c.stable,base:=c.base}
theorem lR{w:World}{o:Obj}{b:Nat}(h:b<w.heap.size):(w.alloc o).heap[b]?=w.heap[b]?:=by
 show(w.heap.push o)[b]?=_;rw[Array.getElem?_push,zAk (by omega)]
theorem qB(w:World)(o:Obj):(w.alloc o).heap[w.heap.size]?=some o:=by
 show(w.heap.push o)[w.heap.size]?=_;simp
theorem Ext.push{c:Ctx}{H:AHeap}(hst:St c H)(o:Obj)(v0:Nat:=0):Ext c (c.push o v0) where
 n:=zBS _
 size:=by simp[Ctx.push]
 st:=fun b hb=>⟨hb,lR (hst.st b hb).1⟩
 ver:=fun i hi=>by grind [Ctx.push]
 blk:=fun i hi _=>by
  refine⟨by simp[Ctx.push,show ¬i=c.n by omega],by simp[Ctx.push,show ¬i=c.n by omega],fun hd=>?_⟩
  unfold bsize Ctx.push;simp only;rw[lR (hst.lt i hi hd)]
 os:=rfl
 tape:=rfl
 output:=rfl
 base:=rfl
theorem BRep.mono0{c c':Ctx}{i:Nat}{B:ABlk}(hx:Ext0 c c')(hi:i<c.n)(hv:∀i,i<c.n→c.ver i=0→c'.ver i=0)(hvi:c'.ver i=c.ver i)(hh:c.vd i=false→c'.w.heap[c.blk i]?=c.w.heap[c.blk i]?)(h:BRep c i B):BRep c' i B:=by
 obtain⟨e1,e2, -⟩:=hx.blk i hi hvi;cases h with
 |cells ver cs vs e fr h0 hd h1 h2 h3 h4=>exact .cells ver cs vs e fr (hvi.trans h0) (e2.trans hd) (by rw[e1];exact(hh hd).trans h1) h2 h3 fun j x v p q=>(h4 j x v p q).mono0 hx
 |void ver h0 hd=>exact .void ver (hvi.trans h0) (e2.trans hd)
 |map es clock ents h0 hd h1 h2 h3=>exact .map es clock ents (hvi.trans h0) (e2.trans hd) (by rw[e1];exact(hh hd).trans h1) h2 fun j p e q r=>⟨(h3 j p e q r).1.mono0 hx,(h3 j p e q r).2.1.mono0 hx,(h3 j p e q r).2.2⟩
 |miter m since seen stepped h0 hd h1 h2 h3 h4=>
  obtain⟨m1,m2, -⟩:=hx.blk m h1 (by rw[hv m h1 h2,h2])
  exact .miter m since seen stepped (hvi.trans h0) (e2.trans hd) (zA3 h1 hx.n) (hv m h1 h2) (m2.trans h3) (by rw[e1,m1];exact(hh hd).trans h4)
 |siter s pos h0 hd h1 hsl=>exact .siter s pos (hvi.trans h0) (e2.trans hd) (by rw[e1];exact(hh hd).trans h1) hsl
 |loop l α N st pe ps ars bd fn D ts h0 hd hl h1 h2 h3=>exact .loop l α N st pe ps ars bd fn D ts (hvi.trans h0) (e2.trans hd) (e1.trans hl) (by rw[e1];exact(hh hd).trans h1) h2 fun t=>(h3 t).mono0 hx
 |gone hd=>exact .gone (e2.trans hd)
theorem BRep.mono{c c':Ctx}{i:Nat}{B:ABlk}(hx:Ext c c')(hi:i<c.n)(hv:∀i,i<c.n→c.ver i=0→c'.ver i=0)(hvi:c'.ver i=c.ver i)(hh:c.vd i=false→c'.w.heap[c.blk i]?=c.w.heap[c.blk i]?)(h:BRep c i B):BRep c' i B:=
 h.mono0 hx.ext0 hi hv hvi hh
theorem St.push{c:Ctx}{H:AHeap}(hst:St c H)(o:Obj){B:ABlk}(v0:Nat:=0)(hB:BRep (c.push o v0) c.n B):St (c.push o v0) (H++[B]) where
 gl:=hst.gl.mono (Ext.push hst o v0)
 n:=by simp[Ctx.push,hst.n]
 lt:=fun i hi hd=>by
  simp only[Ctx.push]at hi hd ⊢;by_cases h:i=c.n
  ·simp[h]
  ·simp only[h,zBd,World.size_alloc]at hd ⊢;have:=hst.lt i (by omega) hd
   omega
 inj:=fun i j b b' hi hj hb hb' di dj he=>by
  have hli:i<H.length+1:=by grind
  have hlj:j<H.length+1:=by simpa using(eT.1 hj).1
  have hn:=hst.n;simp only[Ctx.push]at he di dj;by_cases h1:i=c.n<;>by_cases h2:j=c.n
  ·omega
  ·simp only[h1,h2,zBy,zBd]at he dj;have:=hst.lt j (by omega) dj
   omega
  ·simp only[h1,h2,zBy,zBd]at he di;have:=hst.lt i (by omega) di
   omega
  ·simp only[h1,h2,zBd]at he di dj;rw[zAf (by omega)]at hi hj
   exact hst.inj i j b b' hi hj hb hb' di dj he
 st:=fun k hk=>by
  obtain⟨h1,h2⟩:=hst.st k hk;refine⟨by simp[Ctx.push];omega,fun i b hi hb hd=>?_⟩
  have hli:i<H.length+1:=by simpa using(eT.1 hi).1
  have hn:=hst.n;simp only[Ctx.push]at hd ⊢;by_cases h:i=c.n
  ·simp only[h,zBy];omega
  ·simp only[h,zBd]at hd ⊢;rw[zAf (by omega)]at hi
   exact h2 i b hi hb hd
 rep:=fun i b hi=>by
  have hli:i<H.length+1:=by simpa using(eT.1 hi).1
  have hn:=hst.n;by_cases h:i=c.n
  ·subst h;rw[hn]at hi;simp at hi;subst hi;exact hB
  ·rw[zAf (by omega)]at hi
   exact(hst.rep i b hi).mono (Ext.push hst o v0) (by omega) (fun j hj hv=>by simp[Ctx.push,show ¬j=c.n by omega,hv]) (by simp[Ctx.push,h]) (fun hd=>lR (hst.lt i (by omega) hd))
def Ctx.bump(c:Ctx)(i:Nat)(w':World)(b':Nat):Ctx:=
 {w:=w',n:=c.n,blk:=fun j=>if j=i then b' else c.blk j,ver:=fun j=>if j=i then c.ver i+1 else c.ver j,vd:=fun j=>if j=i then false else c.vd j,stable:=c.stable,base:=c.base}
theorem St.bump_ext{c:Ctx}{H:AHeap}(hst:St c H){i:Nat}{B:ABlk}(hi:H[i]?=some B)(hl:B.live)(hv:c.ver i≠0)(w':World)(b':Nat)(hsz:c.w.heap.size≤w'.heap.size)
  (hnew:b'≥c.w.heap.size∨(b'=c.blk i∧c.vd i=false)) (hoth:∀b,b<c.w.heap.size→b≠b'→w'.heap[b]?=c.w.heap[b]?) (hos:w'.os=c.w.os) (htape:w'.tape=c.w.tape) (hout:w'.output=c.w.output):Ext c (c.bump i w' b'):=by
 have hn:=hst.n;have hne:∀k,c.stable k→k≠b':=by
  intro k hk e;rcases hnew with h|⟨h,hd⟩
  ·have:=(hst.st k hk).1;omega
  ·exact(hst.st k hk).2 i B hi hl hd (by rw[←h,←e])
 refine⟨zAb _,hsz,fun b hb=>⟨hb,hoth b (hst.st b hb).1 (hne b hb)⟩,fun j hj=>?_,fun j hj he=>?_,hos,htape,hout,rfl⟩
 ·grind [Ctx.bump]
 ·simp only[Ctx.bump]at he;by_cases h:j=i
  ·subst h;simp at he
  ·refine⟨by simp[Ctx.bump,h],by simp[Ctx.bump,h],fun hd=>?_⟩
   have hjb:=hst.lt j hj hd;by_cases hjl:c.blk j=b'
   ·rcases hnew with h1|⟨h1,h2⟩
    ·omega
    · -- another block at the same place: then it is not live, or it is i
      cases hHj:H[j]? with
      |none=>rw[List.getElem?_eq_none_iff]at hHj;omega
      |some Bj=>
       by_cases hbl:Bj.live
       ·exact absurd (hst.inj j i Bj B hHj hi hbl hl hd h2 (by rw[hjl,h1])) h
       ·have:=hst.rep j Bj hHj;cases this with
        |gone hd'=>rw[hd]at hd';cases hd'
        |_=>exact absurd trivial hbl
   ·simp only[bsize,Ctx.bump];rw[hoth _ hjb hjl]
theorem St.bump{c:Ctx}{H:AHeap}(hst:St c H){i:Nat}{B B':ABlk}(hi:H[i]?=some B)(hl:B.live)(hv:c.ver i≠0)(w':World)(b':Nat)(hsz:c.w.heap.size≤w'.heap.size)(hb':b'<w'.heap.size)
  (hnew:b'≥c.w.heap.size∨(b'=c.blk i∧c.vd i=false)) (hoth:∀b,b<c.w.heap.size→b≠b'→w'.heap[b]?=c.w.heap[b]?) (hos:w'.os=c.w.os) (htape:w'.tape=c.w.tape) (hout:w'.output=c.w.output)
  (hB:BRep (c.bump i w' b') i B'):Ext c (c.bump i w' b')∧St (c.bump i w' b') (aA H i B'):=by
 have hlt:i<H.length:=(eT.1 hi).1;have hn:=hst.n;have hne:∀k,c.stable k→k≠b':=by
  intro k hk e;rcases hnew with h|⟨h,hd⟩
  ·have:=(hst.st k hk).1;omega
  ·exact(hst.st k hk).2 i B hi hl hd (by rw[←h,←e])
 have hx:=hst.bump_ext hi hl hv w' b' hsz hnew hoth hos htape hout;refine⟨hx,?_⟩;have hfar:∀j Bj,j≠i→H[j]?=some Bj→Bj.live→c.vd j=false→c.blk j≠b':=by
  intro j Bj hji hj hbl hd e;have hjn:j<c.n:=by rw[hn];exact(eT.1 hj).1
  rcases hnew with h1|⟨h1,h2⟩
  ·have:=hst.lt j hjn hd;omega
  ·exact hji (hst.inj j i Bj B hj hi hbl hl hd h2 (by rw[e,h1]))
 refine⟨hst.gl.mono hx,by simp[aA,Ctx.bump,hn],fun j hj hdj=>?_,fun j k b b'' hj hk hb hb'' dj dk he=>?_,fun k hk=>?_,fun j b hj=>?_⟩
 ·simp only[Ctx.bump]at hj hdj ⊢;by_cases h:j=i
  ·simp only[h,zBy];exact hb'
  ·simp only[h,zBd]at hdj ⊢;have:=hst.lt j hj hdj;omega
 ·simp only[Ctx.bump,aA]at *;by_cases h1:j=i<;>by_cases h2:k=i
  ·omega
  ·simp only[h1,h2,zBy,zBd]at he dk;rw[zAU (by omega)]at hk
   exact absurd he.symm (hfar k b'' h2 hk hb'' dk)
  ·simp only[h1,h2,zBy,zBd]at he dj;rw[zAU (by omega)]at hj
   exact absurd he (hfar j b h1 hj hb dj)
  ·simp only[h1,h2,zBd]at he dj dk;rw[zAU (by omega)]at hj hk
   exact hst.inj j k b b'' hj hk hb hb'' dj dk he
 ·obtain⟨h1,h2⟩:=hst.st k hk;refine⟨by simp only[Ctx.bump];omega,fun j b hj hb hdj=>?_⟩
  simp only[Ctx.bump,aA]at *;by_cases h:j=i
  ·simp only[h,zBy];exact fun e=>hne k hk e.symm
  ·simp only[h,zBd]at hdj ⊢;rw[zAU (by omega)]at hj
   exact h2 j b hj hb hdj
 ·by_cases h:j=i
  ·subst h;simp[aA,hlt]at hj;subst hj;exact hB
  ·simp only[aA]at hj;rw[zAU (by omega)]at hj
   have h1:=hst.rep j b hj;have hjn:j<c.n:=by rw[hn];exact(eT.1 hj).1
   refine h1.mono hx hjn (fun k _ hk0=>?_) (by simp[Ctx.bump,h]) (fun hdj=>?_)
   ·simp only[Ctx.bump];have:k≠i:=fun e=>hv (e▸hk0)
    simp[this,hk0]
   ·by_cases hbl:b.live
    ·exact hoth _ (hst.lt j hjn hdj) (hfar j b h hj hbl hdj)
    ·cases h1 with
     |gone hd'=>rw[hdj]at hd';cases hd'
     |_=>exact absurd trivial hbl
theorem St.update{c:Ctx}{H:AHeap}(hst:St c H){i:Nat}{B B':ABlk}(hi:H[i]?=some B)(hl:B.live)(hd:c.vd i=false)(w':World)(hsz:w'.heap.size=c.w.heap.size)
  (hoth:∀b,b≠c.blk i→w'.heap[b]?=c.w.heap[b]?) (hbs:bsize w' (c.blk i)=bsize c.w (c.blk i)) (hos:w'.os=c.w.os) (htape:w'.tape=c.w.tape) (hout:w'.output=c.w.output)
  (hB:BRep {c with w:=w'} i B'):Ext c {c with w:=w'}∧St {c with w:=w'} (aA H i B'):=by
 have hlt:i<H.length:=(eT.1 hi).1;have hx:Ext c {c with w:=w'}:=by
  refine⟨zAb _,by simp[hsz],fun b hb=>⟨hb,hoth b fun e=>(hst.st b hb).2 i B hi hl hd e.symm⟩,fun _ _=>zAb _,fun j hj _=>⟨rfl,rfl,fun _=>?_⟩,hos,htape,hout,rfl⟩
  by_cases h:c.blk j=c.blk i
  ·simp only[h];exact hbs
  ·simp only[bsize];rw[hoth _ h]
 refine⟨hx,?_⟩;refine⟨hst.gl.mono hx,by simp[aA,hst.n],fun j hj hdj=>by simpa[hsz]using hst.lt j hj hdj,fun j k b b' hj hk hb hb' dj dk he=>?_,fun k hk=>?_,fun j b hj=>?_⟩
 ·by_cases h1:j=i
  ·by_cases h2:k=i
   ·omega
   ·subst h1;simp only[aA]at hk;rw[zAU (by omega)]at hk
    exact hst.inj j k B b' hi hk hl hb' dj dk he
  ·simp only[aA]at hj hk;rw[zAU (by omega)]at hj
   by_cases h2:k=i
   ·subst h2;exact hst.inj j k b B hj hi hb hl dj dk he
   ·rw[zAU (by omega)]at hk
    exact hst.inj j k b b' hj hk hb hb' dj dk he
 ·obtain⟨h1,h2⟩:=hst.st k hk;refine⟨by simpa[hsz]using h1,fun j b hj hb hdj=>?_⟩
  by_cases h:j=i
  ·subst h;exact h2 j B hi hl hdj
  ·simp only[aA]at hj;rw[zAU (by omega)]at hj
   exact h2 j b hj hb hdj
 ·by_cases h:j=i
  ·subst h;simp[aA,hlt]at hj;subst hj;exact hB
  ·simp only[aA]at hj;rw[zAU (by omega)]at hj
   have h1:=hst.rep j b hj;have hjn:j<c.n:=by rw[hst.n];exact(eT.1 hj).1
   by_cases hbl:b.live
   ·exact h1.mono hx hjn (fun _ _ hv=>hv) rfl (fun hdj=>hoth _ fun e=>h (hst.inj j i b B hj hi hbl hl hdj hd e))
   ·cases h1 with
    |gone hd=>exact .gone hd
    |_=>exact absurd trivial hbl
def AV.one:AV→Bool
 |.agg _|.tup _|.opt _ _|.top=>false
 |_=>true
theorem Rep.one{c:Ctx}{x:AV}{v:Value}(h:Rep c x v)(ho:x.one=true):v.oneCell'=true:=by
 cases h<;>first|rfl|assumption|(simp[AV.one]at ho)
theorem cells_one{v:Value}(h:v.oneCell'=true):v.cells= #[v]:=by
 cases v<;>first|rfl|(simp[Value.oneCell']at h)
def AV.known:AV→Bool
 |.agg _=>true
 |x=>x.one
theorem Rep.cells{c:Ctx}{x:AV}{v:Value}(h:Rep c x v)(hk:x.known=true):
  v.cells.size=x.cells.length∧∀(i:Nat) (y:AV) (u:Value),x.cells[i]?=some y→v.cells[i]?=some u→Rep c y u:=by
 cases x with
 |agg cs=>
  obtain⟨vs,rfl,h1,h2⟩:=h.agg_inv;exact⟨h1,h2⟩
 |tup _=>simp[AV.known,AV.one]at hk
 |opt _ _=>simp[AV.known,AV.one]at hk
 |top=>simp[AV.known,AV.one]at hk
 |_=>
  have ho:=h.one rfl;rw[cells_one ho];refine⟨rfl,fun i y u h1 h2=>?_⟩
  cases i with
  |zero=>simp[AV.cells]at h1 h2;subst h1;subst h2;exact h
  |succ i=>simp[AV.cells]at h1
def bI(cs:List AV)(off:Nat)(xs:List AV):List AV:=cs.take off++xs++cs.drop (off+xs.length)
def spliceV(vs:Array Value)(off:Nat):List Value→Array Value
 |[]=>vs
 |x::xs=>spliceV (vs.setIfInBounds off x) (off+1) xs
theorem size_spliceV(vs:Array Value)(off:Nat)(xs:List Value):(spliceV vs off xs).size=vs.size:=by
 induction xs generalizing vs off with
 |nil=>rfl
 |cons x xs ih=>simp[spliceV,ih]
theorem get_spliceV(vs:Array Value)(off:Nat)(xs:List Value)(h:off+xs.length≤vs.size)(j:Nat):
  (spliceV vs off xs)[j]?=if off≤j∧j<off+xs.length then xs[j-off]? else vs[j]?:=by
 induction xs generalizing vs off with
 |nil=>simp[spliceV];omega
 |cons x xs ih=>
  simp only[zAt]at h;rw[spliceV,ih _ _ (by simp;omega),Array.getElem?_setIfInBounds]
  grind
theorem get_spliceV'(vs:Array Value)(off:Nat)(xs:List Value)(n:Nat)(hn:xs.length=n)(h:off+n≤vs.size)(j:Nat):
  (spliceV vs off xs)[j]?=if off≤j∧j<off+n then xs[j-off]? else vs[j]?:=by
 subst hn;exact get_spliceV vs off xs h j
def World.putCells(w:World)(b:Nat)(vs:Array Value)(e:TypeId)(fr:Nat×Nat):World:={w with heap:=w.heap.setIfInBounds b (.cells vs e fr)}
theorem heap_putCells_same{w:World}{b:Nat}{vs:Array Value}{e:TypeId}{fr:Nat×Nat}(h:b<w.heap.size):(World.putCells w b vs e fr).heap[b]?=some (.cells vs e fr):=by
 simp[World.putCells,h]
theorem heap_putCells_other{w:World}{b k:Nat}{vs:Array Value}{e:TypeId}{fr:Nat×Nat}(h:k≠b):(World.putCells w b vs e fr).heap[k]?=w.heap[k]?:=by
 simp[World.putCells,Array.getElem?_setIfInBounds_ne (Ne.symm h)]
theorem setCell_cells{w:World}{b off:Nat}{vs:Array Value}{e:TypeId}{fr:Nat×Nat}(h:w.heap[b]?=some (.cells vs e fr))(v:Value):
  w.setCell ⟨b,off,none⟩ v=World.putCells w b (vs.setIfInBounds off v) e fr:=by
 obtain⟨hlt,he⟩:=zAW.1 h;unfold World.setCell World.putCells;congr 1;grind
theorem putCells_self{w:World}{b:Nat}{vs:Array Value}{e:TypeId}{fr:Nat×Nat}(h:w.heap[b]?=some (.cells vs e fr)):World.putCells w b vs e fr=w:=by
 obtain⟨hlt,he⟩:=zAW.1 h;have:w.heap.setIfInBounds b (.cells vs e fr)=w.heap:=by
  grind
 unfold World.putCells;rw[this]
theorem putCells_putCells{w:World}{b:Nat}{vs us:Array Value}{e:TypeId}{fr:Nat×Nat}:World.putCells (World.putCells w b vs e fr) b us e fr=World.putCells w b us e fr:=by
 unfold World.putCells;simp
theorem run_storeCells{w:World}{b off:Nat}{vs:Array Value}{e:TypeId}{fr:Nat×Nat}(xs:List Value)(hb:w.heap[b]?=some (.cells vs e fr))(hle:off+xs.length≤vs.size)(hf:vs.size≤fr.1∨fr.2≤fr.1)
  (ho:∀x∈xs,x.oneCell'=true):(storeCells ⟨b,off,none⟩ xs).run P w=.ok () (World.putCells w b (spliceV vs off xs) e fr):=by
 have key:∀(xs:List Value) (i:Nat) (w:World) (vs:Array Value),w.heap[b]?=some (.cells vs e fr)→off+i+xs.length≤vs.size→(vs.size≤fr.1∨fr.2≤fr.1)→(∀x∈xs,x.oneCell'=true)→
   (storeCells ⟨b,off,none⟩ xs i).run P w=.ok () (World.putCells w b (spliceV vs (off+i) xs) e fr):=by
  intro xs;induction xs with
  |nil=>
   intro i w vs hb _ _ _;simp only[storeCells,Sem.run_pure,spliceV];rw[putCells_self hb]
  |cons x xs ih=>
   intro i w vs hb hle hf ho;simp only[zAt]at hle;obtain⟨hlt,he⟩:=zAW.1 hb;have hcell:w.cell? ⟨b,off+i,none⟩=some (vs[off+i]'(by omega)):=by rw[mA hb];grind
   have hfr:w.frozen? ⟨b,off+i,none⟩=false:=by
    simp only[World.frozen?,hb];by_cases h1:fr.1≤off+i<;>by_cases h2:off+i<fr.2<;>simp[h1,h2];omega
   have h1:(store (Addr.mk b off none|>.add i) x).run P w=.ok () (World.putCells w b (vs.setIfInBounds (off+i) x) e fr):=by
    rw[run_store P w _ x .plain (ho x (by simp)),uM,hcell]
    simp only[hfr,zAr,zBd];rw[setCell_cells hb]
   simp only[storeCells,Sem.run_bind,h1,Result.andThen_ok];rw[ih (i+1) _ (vs.setIfInBounds (off+i) x) (heap_putCells_same hlt) (by simp;omega) (by simpa using hf) (fun y hy=>ho y (by simp[hy])),putCells_putCells]
   rfl
 simp_all
def qC(P:Program)(t:TypeId)(x y:AV)(H:AHeap):Res:=
 match x with
 |.ref i v off=>
  match hget H i with
  |.cells ver cs=>⟨.top,aA H i (.cells ver (bI cs off y.cells)),v=ver∧off+y.cells.length≤cs.length∧(P.underlying t).isSome=true∧P.cellsOf t=y.cells.length∧y.known=true∧y.cells.all AV.one=true⟩
  |_=>⟨.top,H,False⟩
 |_=>⟨.top,H,False⟩
theorem length_splice{cs:List AV}{off:Nat}{xs:List AV}(h:off+xs.length≤cs.length):(bI cs off xs).length=cs.length:=by
 simp[bI];omega
theorem get_splice{cs:List AV}{off:Nat}{xs:List AV}(h:off+xs.length≤cs.length)(j:Nat):
  (bI cs off xs)[j]?=if off≤j∧j<off+xs.length then xs[j-off]? else cs[j]?:=by
 unfold bI;by_cases h1:j<off
 ·grind []
 grind
theorem St.putCells{c:Ctx}{H:AHeap}(hst:St c H){i ver off:Nat}{cs:List AV}(hi:hget H i=.cells ver cs)(hd:c.vd i=false){ys:List AV}{us:List Value}(hle:off+ys.length≤cs.length)(hul:us.length=ys.length)
  (hr:∀(k:Nat) (y:AV) (u:Value),ys[k]?=some y→us[k]?=some u→Rep c y u) (ho:∀u∈us,u.oneCell'=true):
  ∃w',(storeCells ⟨c.blk i,off,none⟩ us).run P c.w=.ok () w'∧Ext c {c with w:=w'}∧St {c with w:=w'} (aA H i (.cells ver (bI cs off ys))):=by
 obtain⟨hin,hver,vs,e,fr,hb,hl,hf,hrep⟩:=hst.cells hi hd;obtain⟨hlt,he⟩:=zAW.1 hb;have hrun:=run_storeCells (P:=P) (off:=off) us hb (by omega) hf ho
 refine⟨_,hrun,?_⟩;have hbs:bsize (World.putCells c.w (c.blk i) (spliceV vs off us) e fr) (c.blk i)=bsize c.w (c.blk i):=by
  simp[bsize,heap_putCells_same hlt,hb,size_spliceV]
 have hx:Ext c {c with w:=World.putCells c.w (c.blk i) (spliceV vs off us) e fr}:=by
  refine⟨zAb _,by simp[World.putCells],fun b hb'=>⟨hb',heap_putCells_other fun e=>(hst.st b hb').2 i _ (eS hi trivial) trivial hd e.symm⟩,fun _ _=>zAb _,fun j hj _=>⟨rfl,rfl,fun _=>?_⟩,rfl,rfl,rfl,rfl⟩
  by_cases h:c.blk j=c.blk i
  ·simp only[h];exact hbs
  ·simp only[bsize];rw[heap_putCells_other h]
 refine hst.update (eS hi trivial) trivial hd _ (by simp[World.putCells]) (fun b hb'=>heap_putCells_other hb') hbs rfl rfl rfl ?_
 refine .cells _ _ (spliceV vs off us) e fr hver hd (heap_putCells_same hlt) (by grind [length_splice,size_spliceV]) (by rw[size_spliceV];exact hf) fun j x v h1 h2=>?_
 rw[get_splice hle]at h1;rw[get_spliceV _ _ _ (by omega),hul]at h2
 refine Rep.mono hx ?_;split at h1
 ·rename_i hc;simp only[hc,and_self,zBy]at h2;exact hr _ _ _ h1 h2
 ·rename_i hc;simp only[hc,zBd]at h2;exact hrep j x v h1 h2
theorem uN{c:Ctx}{H:AHeap}{t:TypeId}{x y:AV}{vx vy:Value}(hst:St c H)(hx:Rep c x vx)(hy:Rep c y vy)(hs:(qC P t x y H).s):
  ∃w',(Instr.storeAt t vx vy).run P c.w=.ok () w'∧Ext c {c with w:=w'}∧St {c with w:=w'} (qC P t x y H).H:=by
 unfold qC at *;split at hs
 ·rename_i i v off;split at hs
  ·rename_i ver cs hh;obtain⟨hv,hle,hu,hsz,hk,ho⟩:=hs;obtain⟨d,hu⟩:=Option.isSome_iff_exists.1 hu;have hver:=hst.ver_eq hh;simp only[hh];cases hx with
   |ref _ _ _ _ _ _ _ hval=>
    obtain⟨hd,hval⟩:=hval (by omega)
    rw[hval];obtain⟨h1,h2⟩:=hy.cells hk;have hone:∀u∈vy.cells.toList,u.oneCell'=true:=by
     intro u hu';obtain⟨k,hk1,hk2⟩:=List.getElem_of_mem hu';simp only[Array.length_toList]at hk1;have hy1:y.cells[k]?=some (y.cells[k]'(by omega)):=zAd (by omega)
     have:=h2 k _ u hy1 (by rw[←hk2];simp)
     exact this.one (zAx.1 ho _ (zAK _))
    obtain⟨w',hrun,h3,h4⟩:=hst.putCells (P:=P) hh hd (off:=off) (ys:=y.cells) (us:=vy.cells.toList) hle (by simpa using h1) (fun k z u p q=>h2 k z u p (by simpa using q)) hone
    refine⟨w',?_,h3,h4⟩;simp[Instr.storeAt,Instr.sureAddr,storeVar,oR hu,hsz,h1,hrun]
  ·exact hs.elim
 ·exact hs.elim
end
section
variable {P:Program}
def aNS(x:AV)(H:AHeap):Res:=⟨.ref H.length 0 0,H++[.cells 0 x.cells],x.known=true⟩
theorem push_ref{c:Ctx}(o:Obj):Rep (c.push o) (.ref c.n 0 0) (.pointer (some ⟨c.w.heap.size,0,none⟩)):=
 .ref _ _ _ _ (by simp[Ctx.push]) (by simp) rfl (fun _=>by simp[Ctx.push])
theorem aHS{c:Ctx}{H:AHeap}{t:TypeId}{x:AV}{v:Value}(hst:St c H)(hx:Rep c x v)(hs:(aNS x H).s):
  aPN P (Instr.box t v) c (aNS x H).v (aNS x H).H:=by
 refine⟨c.push (.cells v.cells t),.pointer (some ⟨c.w.heap.size,0,none⟩),?_,?_,Ext.push hst _,?_⟩
 ·simp[Instr.box,newVar,newRow,Ctx.push]
 ·refine hst.push _ 0 ?_;obtain⟨h1,h2⟩:=hx.cells hs;refine .cells _ _ v.cells t (0,0) (by simp[Ctx.push]) (by simp[Ctx.push]) (by grind [Ctx.push,qB]) (by omega) (.inr (zAb _)) fun j y u p q=>(h2 j y u p q).mono (Ext.push hst _)
 ·have:=push_ref (c:=c) (.cells v.cells t);rw[hst.n]at this;exact this
def aGN(P:Program)(t:TypeId):AV:=
 match P.info? t with
 |some i=>(match i.zero with|some z=>aM7 z|none=>.top)
 |none=>.top
theorem aGO{t:TypeId}(h:(aGN P t).known=true)(c:Ctx):∃z,(∀w,(zeroValue t).run P w=.ok z w)∧Rep c (aGN P t) z:=by
 unfold aGN at *;cases hi:P.info? t with
 |none=>simp[hi,AV.known,AV.one]at h
 |some i=>
  cases hz:i.zero with
  |none=>simp[hi,hz,AV.known,AV.one]at h
  |some z=>
   simp only[hi,hz];exact⟨z,fun w=>by simp[zeroValue,typeInfo,hi,hz],aGM c z⟩
def aHT(P:Program)(t:TypeId)(H:AHeap):Res:=aNS (aGN P t) H
theorem uO{c:Ctx}{H:AHeap}{t:TypeId}(hst:St c H)(hs:(aHT P t H).s):aPN P (Instr.alloc t true (.tuple #[])) c (aHT P t H).v (aHT P t H).H:=by
 obtain⟨z,h1,h2⟩:=aGO (P:=P) hs c;obtain⟨c',v,k1,k2,k3,k4⟩:=aHS (P:=P) (t:=t) hst h2 hs;grind [Instr.box,Sem.run_bind,Instr.alloc,Result.andThen_ok,Ctx,aHT,aPN]
def aNT(P:Program)(d:TypeDesc)(i:Nat):Option (Nat×Nat):=
 match d with
 |.struct fs=>match fs[i]? with
  |some f=>some (f.offset,P.cellsOf f.type)
  |none=>none
 |.array _ e=>some (i * P.cellsOf e,P.cellsOf e)
 |_=>none
def aO3(pl:Nat→Option (Nat×Nat)):List AV→List (Nat×AV)→Option (List AV)
 |cs,[]=>some cs
 |cs,(i,x)::r=>
  match pl i with
  |some (off,n)=>bif (x.cells.length==n)&&Nat.ble (off+n) cs.length&&x.known then aO3 pl (bI cs off x.cells) r else none
  |none=>none
theorem fold_spliceV(cells:Array Value)(off:Nat)(v:Array Value):
  v.zipIdx.foldl (fun cs (p:Value×Nat)=>cs.setIfInBounds (off+p.2) p.1) cells=spliceV cells off v.toList:=by
 rw[←Array.foldl_toList,Array.toList_zipIdx];have key:∀(l:List Value) (k:Nat) (cells:Array Value),(l.zipIdx k).foldl (fun cs (p:Value×Nat)=>cs.setIfInBounds (off+p.2) p.1) cells=spliceV cells (off+k) l:=by
  intro l;induction l with
  |nil=>intro k cells;rfl
  |cons x xs ih=>
   intro k cells;simp only[List.zipIdx_cons,List.foldl_cons,spliceV];exact ih (k+1) _
 exact key v.toList 0 cells
theorem afill_sound{c:Ctx}{pl:Nat→Option (Nat×Nat)}:∀(ps:List (Nat×AV)) (vs:List (Nat×Value)) (cs:List AV) (us:Array Value) (r:List AV),vs.map (·.1)=ps.map (·.1)→
  (∀(k:Nat) (p:Nat×AV) (q:Nat×Value),ps[k]?=some p→vs[k]?=some q→Rep c p.2 q.2)→us.size=cs.length→
  (∀(j:Nat) (x:AV) (v:Value),cs[j]?=some x→us[j]?=some v→Rep c x v)→aO3 pl cs ps=some r→
  ∃ws,Instr.fill pl us vs=some ws∧ws.size=r.length∧r.length=cs.length∧∀(j:Nat) (x:AV) (v:Value),r[j]?=some x→ws[j]?=some v→Rep c x v
 |[],[],cs,us,r,_,_,hsz,hr,h=>by
  simp only[aO3,zBM]at h;subst h;exact⟨us,rfl,hsz,rfl,hr⟩
 |[],_::_,_,_,_,hm,_,_,_,_=>by simp at hm
 |_::_,[],_,_,_,hm,_,_,_,_=>by simp at hm
 |(i,x)::ps,(i',v)::vs,cs,us,r,hm,hp,hsz,hr,h=>by
  simp only[zAV,List.cons.injEq]at hm;obtain⟨rfl,hm⟩:=hm;unfold aO3 at h;cases hpl:pl i' with
  |none=>rw[hpl]at h;cases h
  |some on=>
   obtain⟨off,n⟩:=on;rw[hpl]at h;simp only at h;cases hc:((x.cells.length==n)&&Nat.ble (off+n) cs.length&&x.known)with
   |false=>rw[hc]at h;cases h
   |true=>
    rw[hc,cond_true]at h;simp only[zAc,beq_iff_eq,Nat.ble_eq]at hc;obtain⟨⟨h1,h2⟩,h3⟩:=hc;have hxv:Rep c x v:=hp 0 _ _ rfl rfl;obtain⟨q1,q2⟩:=hxv.cells h3;have hle:off+x.cells.length≤cs.length:=by omega
    have hgoal:=afill_sound ps vs (bI cs off x.cells) (spliceV us off v.cells.toList) r hm (fun k p q hk hk'=>hp (k+1) p q hk hk')
     (by rw[size_spliceV,length_splice hle];exact hsz)
     (fun j y u hj hj'=>by
      rw[get_splice hle]at hj;rw[get_spliceV' _ _ _ x.cells.length (by simpa using q1) (by omega)]at hj'
      split at hj
      ·rename_i hcc;rw[zAp hcc]at hj';exact q2 _ _ _ hj (by simpa using hj')
      ·rename_i hcc;rw[zAk hcc]at hj';exact hr _ _ _ hj hj') h
    obtain⟨ws,g1,g2,g3,g4⟩:=hgoal;refine⟨ws,?_,g2,by rw[g3,length_splice hle],g4⟩
    unfold Instr.fill;rw[hpl];have hcond:¬((decide (v.cells.size≠n)||decide (off+v.cells.size>us.size))=true):=by simp;omega
    simp only[hcond,zBd];rw[fold_spliceV];exact g1
def aCA(P:Program)(t:TypeId)(ps:List (Nat×AV)):BR:=
 match P.underlying t with
 |some d=>match aO3 (aNT P d) (aGN P t).cells ps with
  |some cs=>⟨.agg cs,(aGN P t).known=true∧TypeDesc.isAgg d=true⟩
  |none=>bad
 |none=>bad
theorem mapM_places(fs:List Field)(w:World)(h:∀f∈fs,∃d,P.underlying f.type=some d):
  (fs.mapM (fun f=>(do pure (f.offset,←sizeOf f.type):Sem (Nat×Nat)))).run P w=.ok (fs.map fun f=>(f.offset,P.cellsOf f.type)) w:=by
 induction fs with
 |nil=>simp
 |cons f fs ih=>
  obtain⟨d,hd⟩:=h f (by simp)
  have e:=ih (fun g hg=>h g (by simp[hg]))
  simp only[List.mapM_cons,Sem.run_bind,oR hd,Result.andThen_ok,Sem.run_pure,e,zAV]
def aLo(P:Program)(d:TypeDesc):Bool:=
 match d with
 |.struct fs=>fs.toList.all fun f=>(P.underlying f.type).isSome
 |.array _ e=>(P.underlying e).isSome
 |_=>false
theorem aE5{c:Ctx}{t:TypeId}{ps:List (Nat×AV)}{vs:Array (Nat×Value)}(hm:vs.toList.map (·.1)=ps.map (·.1))
  (hp:∀(k:Nat) (p:Nat×AV) (q:Nat×Value),ps[k]?=some p→vs[k]?=some q→Rep c p.2 q.2) (hs:(aCA P t ps).s) (hf:∀d,P.underlying t=some d→aLo P d=true) (w:World):
  ∃v,(Instr.build t vs).run P w=.ok v w∧Rep c (aCA P t ps).v v:=by
 unfold aCA at *;cases hu:P.underlying t with
 |none=>simp[hu,bad]at hs
 |some d=>
  simp only[hu]at hs ⊢;cases hfl:aO3 (aNT P d) (aGN P t).cells ps with
  |none=>simp[hfl,bad]at hs
  |some cs=>
   simp only[hfl]at hs ⊢;obtain⟨hk,hag⟩:=hs;obtain⟨z,hz1,hz2⟩:=aGO (P:=P) hk c;obtain⟨q1,q2⟩:=hz2.cells hk;obtain⟨ws,g1,g2,g3,g4⟩:=afill_sound ps vs.toList (aGN P t).cells z.cells cs hm (fun k p q h1 h2=>hp k p q h1 (by simpa using h2)) q1 q2 hfl
   have hfo:=hf d hu;refine⟨.agg ws,?_,.agg _ _ g2 g4⟩;cases d<;>simp only[TypeDesc.isAgg,zAr]at hag;case struct fs=>
    have hall:∀f∈fs.toList,∃d,P.underlying f.type=some d:=fun f hf'=>Option.isSome_iff_exists.1 (by simpa using zAx.1 hfo f hf')
    have e:=mapM_places (P:=P) fs.toList w hall;have hpl:(fun x=>((fs.toList.map fun f=>(f.offset,P.cellsOf f.type)).toArray)[x]?)=aNT P (.struct fs):=by
     funext x;simp only[aNT];rw[List.getElem?_toArray,zAY,zBo];cases fs[x]?<;>rfl
    simp only[Instr.build,Sem.run_bind,hz1,Result.andThen_ok,run_underlying hu,Array.mapM_eq_mapM_toList,Sem.run_map,e];rw[hpl,g1];rfl
   case array n el=>
    obtain⟨d',hd'⟩:=Option.isSome_iff_exists.1 hfo;have hpl:(fun i=>some (i * P.cellsOf el,P.cellsOf el))=aNT P (.array n el):=rfl
    simp only[Instr.build,Sem.run_bind,hz1,Result.andThen_ok,run_underlying hu,oR hd'];rw[hpl,g1];rfl
def qD(P:Program)(t:TypeId)(f:Nat)(x:AV):BR:=
 match P.underlying t with
 |some (.struct fs)=>
  match fs[f]? with
  |some fd=>
   match x with
   |.ref i v off=>⟨.ref i v (off+fd.offset),(P.underlying fd.type).isSome=true∧P.cellsOf fd.type≠0⟩
   |.cptr cs=>⟨.cptr (cs.drop fd.offset),(P.underlying fd.type).isSome=true∧P.cellsOf fd.type≠0⟩
   |_=>bad
  |none=>bad
 |_=>bad
theorem Addr.add_add{a:Addr}(h:a.spot=none)(m n:Nat):(a.add m).add n=a.add (m+n):=by
 grind [Addr.add,Nat.add_assoc]
theorem Addr.add_spot{a:Addr}(h:a.spot=none)(m:Nat):(a.add m).spot=none:=by
 unfold Addr.add;split
 ·exact h
 ·rfl
theorem rep_cptr_drop{c:Ctx}{cs:List AV}{a:Addr}(h:Rep c (.cptr cs) (.pointer (some a)))(n:Nat):Rep c (.cptr (cs.drop n)) (.pointer (some (a.add n))):=by
 cases h with
 |cptr _ _ vs hspot hst hc hr=>
  refine .cptr _ _ (fun j=>vs (n+j)) (Addr.add_spot hspot n) (by rw[Addr.add_block];exact hst) (fun j hj=>?_) (fun j x hx=>?_)
  ·rw[Addr.add_add hspot];simp at hj;exact hc _ (by omega)
  grind
theorem wA{c:Ctx}{i v off:Nat}{val:Value}(h:Rep c (.ref i v off) val)(hv:c.ver i=v)(n:Nat):∃a,val=.pointer (some a)∧Rep c (.ref i v (off+n)) (.pointer (some (a.add n))):=by
 cases h with
 |ref _ _ _ _ hi hv' ho hval=>
  obtain⟨hd,hval⟩:=hval hv;refine⟨_,hval,.ref _ _ _ _ hi hv' rfl fun _=>⟨hd,?_⟩⟩
  rw[uM]
def mQ(H:AHeap)(x:AV):Prop:=
 match x with
 |.ref i v _=>match hget H i with
  |.cells ver _=>v=ver
  |_=>False
 |.osl _ i v _ _ _=>match hget H i with
  |.cells ver _=>v=ver
  |_=>False
 |_=>True
theorem aGP{c:Ctx}{H:AHeap}(hst:St c H){i v off:Nat}(h:mQ H (.ref i v off)):c.ver i=v:=by
 unfold mQ at h;simp only at h;cases hh:hget H i with
 |cells ver cs=>rw[hh]at h;simp only at h;rw[h];exact hst.ver_eq hh
 |_=>rw[hh]at h;exact h.elim
theorem wB{c:Ctx}{H:AHeap}(hst:St c H){s i v off len lc:Nat}(h:mQ H (.osl s i v off len lc)):c.ver i=v:=by
 unfold mQ at h;simp only at h;cases hh:hget H i with
 |cells ver cs=>rw[hh]at h;simp only at h;rw[h];exact hst.ver_eq hh
 |_=>rw[hh]at h;exact h.elim
theorem aBn{c:Ctx}{H:AHeap}{t:TypeId}{f:Nat}{x:AV}{vx:Value}(hst:St c H)(hx:Rep c x vx)(hl:mQ H x)(hs:(qD P t f x).s)(w:World):
  ∃v,(Instr.fieldAt t vx f).run P w=.ok v w∧Rep c (qD P t f x).v v:=by
 unfold qD at *;cases hu:P.underlying t with
 |none=>simp[hu,bad]at hs
 |some d=>
  cases d<;>simp only[hu,bad]at hs;case struct fs=>
   simp only;cases hf:fs[f]? with
   |none=>simp[hf]at hs
   |some fd=>
    simp only[hf]at hs;cases x<;>simp only at hs;case ref i v off=>
     obtain⟨hsome,hne⟩:=hs;obtain⟨d,hd⟩:=Option.isSome_iff_exists.1 hsome;obtain⟨a,rfl,hr⟩:=wA hx (aGP hst hl) fd.offset;exact⟨_,by simp[Instr.fieldAt,run_underlying hu,hf,Instr.sureAddr,fieldPlace,oR hd,hne],hr⟩
    case cptr cs=>
     obtain⟨hsome,hne⟩:=hs;obtain⟨d,hd⟩:=Option.isSome_iff_exists.1 hsome;cases hx with
     |cptr _ a vs h1 h2 h3 h4=>
      exact⟨_,by simp[Instr.fieldAt,run_underlying hu,hf,Instr.sureAddr,fieldPlace,oR hd,hne],rep_cptr_drop (.cptr cs a vs h1 h2 h3 h4) _⟩
def qE(P:Program)(t:TypeId)(x ix:AV):BR:=
 match P.underlying t with
 |some (.slice e)=>
  match x,ix with
  |.sl _ es,.int _ i=>⟨.cptr (es.getD i.toNat .top).cells,0≤i∧i<es.length∧(P.underlying e).isSome=true∧P.cellsOf e=(es.getD i.toNat .top).cells.length⟩
  |.osl s j v off len _,.int _ i=>⟨.ref j v (off+i.toNat * s),0≤i∧i<len∧(P.underlying e).isSome=true∧P.cellsOf e=s∧s≠0⟩
  |_,_=>bad
 |some (.array n e)=>
  match x,ix with
  |.ref j v off,.int _ i=>⟨.ref j v (off+i.toNat * P.cellsOf e),0≤i∧i<n∧(P.underlying e).isSome=true⟩
  |.cptr cs,.int _ i=>⟨.cptr (cs.drop (i.toNat * P.cellsOf e)),0≤i∧i<n∧(P.underlying e).isSome=true⟩
  |_,_=>bad
 |_=>bad
theorem Rep.sl_inv{c:Ctx}{full:Bool}{es:List AV}{v:Value}(h:Rep c (.sl full es) v):∃base len cap s,∃vs:Nat→Nat→Value,v=.slice base len cap∧len=es.length∧len≤cap∧(full=true→cap=len)∧
  (es≠[]→∃a,base=some a∧a.spot=none∧c.stable a.block∧∀k j,k<es.length→j<s→c.w.cell? (a.add (k * s+j))=some (vs k j))∧(∀e∈es,e.cells.length=s)∧
  (∀(k:Nat) (e:AV) (j:Nat) (x:AV),es[k]?=some e→e.cells[j]?=some x→Rep c x (vs k j)):=by
 cases h with
 |sl _ _ base len cap s vs h1 h2 h3 h4 h5 h6 _=>exact⟨base,len,cap,s,vs,rfl,h1,h2,h3,h4,h5,h6⟩
theorem Rep.osl_inv{c:Ctx}{s i v off len lc:Nat}{val:Value}(h:Rep c (.osl s i v off len lc) val)(hv:c.ver i=v):
  ∃base cap,val=.slice base len cap∧len≤lc∧lc≤cap∧(c.vd i=true→len=0∧cap=0)∧(c.vd i=false→(cap=0∨base=some ⟨c.blk i,off,none⟩)∧∃m,bsize c.w (c.blk i)=some m∧off+cap * s≤m):=by
 cases h with
 |osl _ _ _ _ _ _ _ hi hv' ho hmax h1 h2=>
  cases hd:c.vd i with
  |true=>
   grind
  |false=>
   simp_all
theorem aE6{α:Type}(l:List α)(i:Nat)(d x:α)(h:l[i]?=some x):l.getD i d=x:=by
 rw[zAm,h];rfl
theorem aBo{c:Ctx}{H:AHeap}{t:TypeId}{x ix:AV}{vx vi:Value}(hst:St c H)(hx:Rep c x vx)(hi:Rep c ix vi)(hl:mQ H x)(hs:(qE P t x ix).s)(w:World):
  ∃v,(Instr.indexAt t vx vi).run P w=.ok v w∧Rep c (qE P t x ix).v v:=by
 unfold qE at *;cases hu:P.underlying t with
 |none=>simp[hu,bad]at hs
 |some d=>
  cases d<;>simp only[hu,bad]at hs;case slice e=>
   simp only;cases x<;>cases ix<;>simp only at hs ⊢;case sl.int full es k i=>
    obtain⟨h0,h1,h2,h3⟩:=hs;obtain⟨d,hd⟩:=Option.isSome_iff_exists.1 h2;obtain⟨base,len,cap,s,vs,rfl,rfl,q2,q3,q4,q5,q6⟩:=hx.sl_inv;rw[hi.int_inv];have hlt:i.toNat<es.length:=by omega
    have hne:es≠[]:=by intro e;rw[e]at hlt;simp at hlt
    obtain⟨a,rfl,a2,a3,a4⟩:=q4 hne;have hget:es[i.toNat]?=some es[i.toNat]:=zAd hlt;rw[aE6 _ _ _ _ hget]at h3 ⊢;have hsz:s=P.cellsOf e:=by rw[h3];exact(q5 _ (zAK hlt)).symm
    subst hsz;refine⟨.pointer (some (a.add (i.toNat * P.cellsOf e))),?_,?_⟩
    ·simp[Instr.indexAt,asIntOf,run_underlying hu,oR hd,h0,h1]
    ·refine .cptr _ _ (fun j=>vs i.toNat j) (Addr.add_spot a2 _) (by rw[Addr.add_block];exact a3) (fun j hj=>?_) (fun j y hy=>q6 _ _ _ _ hget hy)
     rw[Addr.add_add a2];exact a4 _ _ hlt (by omega)
   case osl.int s j v off len lc k i=>
    obtain⟨h0,h1,h2,h3,h4⟩:=hs;obtain⟨d,hd⟩:=Option.isSome_iff_exists.1 h2;have hv:=wB hst hl;obtain⟨base,cap,rfl,p1,p1',p2,p3⟩:=hx.osl_inv hv;rw[hi.int_inv];cases hvd:c.vd j with
    |true=>have:=p2 hvd;omega
    |false=>
     obtain⟨p4,m,p5,p6⟩:=p3 hvd;rcases p4 with p4|rfl
     ·omega
     ·refine⟨.pointer (some ⟨c.blk j,off+i.toNat * s,none⟩),?_,?_⟩
      ·simp[Instr.indexAt,asIntOf,run_underlying hu,oR hd,h0,h1,h3,uM]
      ·cases hx with
       |osl _ _ _ _ _ _ _ hi' hv'=>exact .ref _ _ _ _ hi' hv' rfl fun _=>⟨hvd,rfl⟩
  case array n e=>
   simp only;cases x<;>cases ix<;>simp only at hs ⊢;case ref.int j v off k i=>
    obtain⟨h0,h1,h2⟩:=hs;obtain⟨d,hd⟩:=Option.isSome_iff_exists.1 h2;obtain⟨a,rfl,hr⟩:=wA hx (aGP hst hl) (i.toNat * P.cellsOf e);rw[hi.int_inv];exact⟨_,by simp[Instr.indexAt,asIntOf,run_underlying hu,oR hd,h0,h1,Instr.sureAddr],hr⟩
   case cptr.int cs k i=>
    obtain⟨h0,h1,h2⟩:=hs;obtain⟨d,hd⟩:=Option.isSome_iff_exists.1 h2;rw[hi.int_inv];cases hx with
    |cptr _ a vs g1 g2 g3 g4=>
     exact⟨_,by simp[Instr.indexAt,asIntOf,run_underlying hu,oR hd,h0,h1,Instr.sureAddr],rep_cptr_drop (.cptr cs a vs g1 g2 g3 g4) _⟩
end
section
variable {P:Program}
def aHU(P:Program)(t:TypeId)(f:Nat)(x:AV):BR:=
 match P.underlying t,x with
 |some (.struct fs),.agg cs=>match fs[f]? with
  |some fd=>apart P fd.type fd.offset cs
  |none=>bad
 |_,_=>bad
theorem aE7{c:Ctx}{t:TypeId}{f:Nat}{x:AV}{vx:Value}(hx:Rep c x vx)(hs:(aHU P t f x).s)(w:World):
  ∃v,(Instr.field t vx f).run P w=.ok v w∧Rep c (aHU P t f x).v v:=by
 unfold aHU at *;split at hs
 ·rename_i fs cs hu;cases hf:fs[f]? with
  |none=>simp[hf,bad]at hs
  |some fd=>
   simp only[hf]at hs ⊢;obtain⟨vs,rfl,h1,h2⟩:=hx.agg_inv;obtain⟨v,g1,g2⟩:=apart_sound (P:=P) h1 h2 hs;exact⟨v,by simp[Instr.field,run_underlying hu,hf,asAgg,g1],g2⟩
 ·exact hs.elim
def aHV(P:Program)(t:TypeId)(x ix:AV):BR:=
 match P.underlying t,x,ix with
 |some .string,.str s,.int _ i=>⟨.int .u8 (s.getD i.toNat 0).toNat,0≤i∧i<s.length⟩
 |some (.array n e),.agg cs,.int _ i=>⟨(apart P e (i.toNat * P.cellsOf e) cs).v,0≤i∧i<n∧(apart P e (i.toNat * P.cellsOf e) cs).s⟩
 |_,_,_=>bad
theorem getElem?_mk(s:List UInt8)(i:Nat):(ByteArray.mk s.toArray)[i]?=s[i]?:=by
 by_cases h:i<s.length
 ·rw[ByteArray.getElem?_lt' _ _ (by simpa[ByteArray.size]using h),zAd h]
  rfl
 ·rw[ByteArray.getElem?_ge' _ _ (by simpa[ByteArray.size]using h),zBq (by omega)]
theorem aE8{c:Ctx}{t:TypeId}{x ix:AV}{vx vi:Value}(hx:Rep c x vx)(hi:Rep c ix vi)(hs:(aHV P t x ix).s)(w:World):
  ∃v,(Instr.index t vx vi).run P w=.ok v w∧Rep c (aHV P t x ix).v v:=by
 unfold aHV at *;split at hs
 ·rename_i s k i hu;obtain⟨h0,h1⟩:=hs;rw[hx.str_inv,hi.int_inv];have hlt:i.toNat<s.length:=by omega
  have hg:s[i.toNat]?=some s[i.toNat]:=zAd hlt;rw[aE6 _ _ _ _ hg];refine⟨_,?_,.int _ _ (aCx.2 ⟨by omega,by have:=s[i.toNat].toNat_lt;omega⟩)⟩
  simp[Instr.index,asIntOf,run_underlying hu,h0,getElem?_mk,hg]
 ·rename_i n e cs k i hu;obtain⟨h0,h1,h2⟩:=hs;rw[hi.int_inv];obtain⟨vs,rfl,g1,g2⟩:=hx.agg_inv;obtain⟨v,q1,q2⟩:=apart_sound (P:=P) g1 g2 h2;have he:∃d,P.underlying e=some d:=by
   unfold apart at h2;cases hue:P.underlying e with
   |none=>rw[hue]at h2;exact h2.elim
   |some d=>exact⟨d,rfl⟩
  obtain⟨d,hd⟩:=he;exact⟨v,by simp[Instr.index,asIntOf,run_underlying hu,h0,h1,oR hd,q1],q2⟩
 ·exact hs.elim
def aPP(P:Program)(t:TypeId)(x:AV)(H:AHeap):BR:=
 match P.underlying t,x with
 |some .string,.str s=>⟨.int .i64 s.length,True⟩
 |some (.slice _),.sl _ es=>⟨.int .i64 es.length,True⟩
 |some (.slice _),.osl s i v off len lc=>⟨.int .i64 len,mQ H (.osl s i v off len lc)⟩
 |some (.array n _),_=>⟨.int .i64 n,n≤9223372036854775807⟩
 |some (.map _ _),.nilmap=>⟨.int .i64 0,True⟩
 |some (.map _ _),.map i=>match hget H i with
  |.map es _=>⟨.int .i64 es.length,es.length≤9223372036854775807⟩
  |_=>bad
 |_,_=>bad
theorem run_getObj_obj{w:World}{b:Nat}{o:Obj}(h:w.heap[b]?=some o)(hc:∀c e f,o≠.cells c e f):(getObj b).run P w=.ok o w:=by
 unfold getObj;simp only[Sem.run,h]
theorem St.map{c:Ctx}{H:AHeap}(h:St c H){i:Nat}{es:List (AV×AV×Nat)}{clock:Nat}(hi:hget H i=.map es clock):
  i<c.n∧c.ver i=0∧c.vd i=false∧∃ents:Array MapEntry,c.w.heap[c.blk i]?=some (.map ents clock)∧ents.size=es.length∧
   ∀(j:Nat) (p:AV×AV×Nat) (e:MapEntry),es[j]?=some p→ents[j]?=some e→Rep c p.1 e.key∧Rep c p.2.1 e.val∧e.born=p.2.2:=by
 have h2:=h.rep i _ (eS hi trivial);cases h2 with
 |map _ _ ents hv hd hh hl hr=>exact⟨by rw[h.n];exact bC hi trivial,hv,hd,ents,hh,hl,hr⟩
theorem alen_sound{c:Ctx}{H:AHeap}{t ty:TypeId}{x:AV}{vx:Value}(hst:St c H)(hx:Rep c x vx)(hs:(aPP P t x H).s):
  ∃v,(Builtin.len_ #[t] ty #[vx]).run P c.w=.ok v c.w∧Rep c (aPP P t x H).v v:=by
 unfold aPP at *;split at hs
 ·rename_i s hu;rw[hx.str_inv];exact⟨_,by simp[Builtin.len_,run_underlying hu,goInt,aM9],.int _ _ (aAG.2 (by have:=hx.str_R;omega))⟩
 ·rename_i e full es hu;have hR:=hx.sl_R;obtain⟨base,len,cap,s,vs,rfl,rfl, -⟩:=hx.sl_inv;exact⟨_,by simp[Builtin.len_,run_underlying hu,goInt],.int _ _ (aAG.2 (by omega))⟩
 ·rename_i e s i v off len lc hu;have hR:=hx.osl_R;obtain⟨base,cap,rfl,hle, -⟩:=hx.osl_inv (wB (s:=s) (off:=off) (len:=len) (lc:=lc) hst hs);exact⟨_,by simp[Builtin.len_,run_underlying hu,goInt],.int _ _ (aAG.2 (by omega))⟩
 ·rename_i n e hu;exact⟨_,by simp[Builtin.len_,run_underlying hu,goInt],.int _ _ (aAG.2 (by omega))⟩
 ·rename_i k e hu;cases hx;exact⟨_,by simp[Builtin.len_,run_underlying hu,goInt],.int _ _ (aAG.2 (by omega))⟩
 ·rename_i k e i hu;split at hs
  ·rename_i es clock hh;obtain⟨hi,hv,hd,ents,hb,hl,hr⟩:=hst.map hh;simp only[hh];cases hx with
   |map _ _ _ _ hval=>
    rw[(hval hv).2];refine⟨_,?_,.int _ _ (aAG.2 (by omega))⟩
    have hg:=run_getObj_obj (P:=P) hb (by simp)
    simp[Builtin.len_,run_underlying hu,hg,goInt,hl]
  ·exact hs.elim
 ·exact hs.elim
def aCB(P:Program)(t:TypeId)(x:AV)(lo hi mx:Option AV)(H:AHeap):BR:=
 match P.underlying t,x,lo,hi,mx with
 |some .string,.str s,none,none,none=>⟨.str s,True⟩
 |some .string,.str s,some (.int _ l),none,none=>⟨.str (s.drop l.toNat),0≤l∧l≤s.length⟩
 |some .string,.str s,none,some (.int _ h),none=>⟨.str (s.take h.toNat),0≤h∧h≤s.length⟩
 |some .string,.str s,some (.int _ l),some (.int _ h),none=>⟨.str ((s.take h.toNat).drop l.toNat),0≤l∧l≤h∧h≤s.length⟩
 |some (.slice e),.sl full es,none,none,none=>⟨.sl full es,(P.underlying e).isSome=true⟩
 |some (.slice e),.sl full es,some (.int _ l),none,none=>⟨.sl full (es.drop l.toNat),0≤l∧l≤es.length∧(P.underlying e).isSome=true∧∀x∈es,x.cells.length=P.cellsOf e⟩
 |some (.slice e),.sl full es,none,some (.int _ h),none=>⟨.sl (full&&decide (h=(es.length:Int))) (es.take h.toNat),0≤h∧h≤es.length∧(P.underlying e).isSome=true⟩
 |some (.slice e),.sl _ es,some (.int _ l),some (.int _ h),none=>⟨.sl false ((es.take h.toNat).drop l.toNat),0≤l∧l≤h∧h≤es.length∧(P.underlying e).isSome=true∧∀x∈es,x.cells.length=P.cellsOf e⟩
 |some (.slice e),.sl _ es,none,some (.int _ h),some (.int _ m)=>⟨.sl true (es.take h.toNat),0≤h∧h≤es.length∧m=h∧(P.underlying e).isSome=true⟩
 |some (.slice e),.sl _ es,some (.int _ l),some (.int _ h),some (.int _ m)=>⟨.sl true ((es.take h.toNat).drop l.toNat),0≤l∧l≤h∧h≤es.length∧m=h∧(P.underlying e).isSome=true∧∀x∈es,x.cells.length=P.cellsOf e⟩
 |some (.slice e),.osl s i v off len lc,none,none,none=>⟨.osl s i v off len lc,mQ H (.osl s i v off len lc)∧(P.underlying e).isSome=true⟩
 |some (.slice e),.osl s i v off len lc,none,some (.int _ h),none=>⟨.osl s i v off h.toNat lc,mQ H (.osl s i v off len lc)∧(P.underlying e).isSome=true∧0≤h∧h≤lc⟩
 |some (.slice e),.osl s i v off len lc,some (.int _ l),none,none=>⟨.osl s i v (off+l.toNat * s) (len-l.toNat) (lc-l.toNat),mQ H (.osl s i v off len lc)∧(P.underlying e).isSome=true∧P.cellsOf e=s∧0≤l∧l≤len⟩
 |some (.slice e),.osl s i v off len lc,some (.int _ l),some (.int _ h),none=>⟨.osl s i v (off+l.toNat * s) (h.toNat-l.toNat) (lc-l.toNat),mQ H (.osl s i v off len lc)∧(P.underlying e).isSome=true∧P.cellsOf e=s∧0≤l∧l≤h∧h≤lc⟩
 |some (.slice e),.osl s i v off len lc,some (.int _ l),some (.int _ h),some (.int _ m)=>⟨.osl s i v (off+l.toNat * s) (h.toNat-l.toNat) (m.toNat-l.toNat),mQ H (.osl s i v off len lc)∧(P.underlying e).isSome=true∧P.cellsOf e=s∧0≤l∧l≤h∧h≤m∧m≤lc⟩
 |some (.array n e),.ref i v off,none,none,none=>⟨.osl (P.cellsOf e) i v off n n,arrOk P H i v off n e⟩
 |some (.array n e),.ref i v off,some (.int _ l),none,none=>⟨.osl (P.cellsOf e) i v (off+l.toNat * P.cellsOf e) (n-l.toNat) (n-l.toNat),arrOk P H i v off n e∧0≤l∧l≤n⟩
 |some (.array n e),.ref i v off,none,some (.int _ h),none=>⟨.osl (P.cellsOf e) i v off h.toNat n,arrOk P H i v off n e∧0≤h∧h≤n⟩
 |some (.array n e),.ref i v off,some (.int _ l),some (.int _ h),none=>⟨.osl (P.cellsOf e) i v (off+l.toNat * P.cellsOf e) (h.toNat-l.toNat) (n-l.toNat),arrOk P H i v off n e∧0≤l∧l≤h∧h≤n⟩
 |_,_,_,_,_=>bad
where arrOk (P:Program) (H:AHeap) (i v off n:Nat) (e:TypeId):Prop:=mQ H (.ref i v off)∧(P.underlying e).isSome=true∧n≤9223372036854775807∧(match hget H i with|.cells _ cs=>off+n * P.cellsOf e≤cs.length|_=>False)
theorem rep_arr{c:Ctx}{H:AHeap}{i v off n:Nat}{e:TypeId}{vx:Value}(hst:St c H)(hx:Rep c (.ref i v off) vx)(h:aCB.arrOk P H i v off n e):
  c.ver i=v∧∃a,vx=.pointer (some a)∧Rep c (.osl (P.cellsOf e) i v off n n) (.slice (some a) n n):=by
 obtain⟨h1,h2,h3,h4⟩:=h;have hv:=aGP hst h1;refine⟨hv,?_⟩;cases hx with
 |ref _ _ _ _ hi hv' ho hval=>
  obtain⟨hd,rfl⟩:=hval hv;cases hh:hget H i with
  |cells ver cs=>
   rw[hh]at h4;simp only at h4;obtain⟨_,_,vs,e',fr,hb,hl, -, -⟩:=hst.cells hh hd;exact⟨_,rfl,.osl _ _ _ _ _ _ _ hi hv' rfl h3 (fun _ hd'=>by rw[hd]at hd';cases hd') (fun _ _=>⟨_,n,vs.size,rfl,zAb _,zAb _,.inr rfl,by simp[bsize,hb],by omega⟩)⟩
  |_=>rw[hh]at h4;exact h4.elim
theorem extract_mk(s:List UInt8)(l h:Nat):(ByteArray.mk s.toArray).extract l h=ByteArray.mk ((s.take h).drop l).toArray:=by
 apply ByteArray.ext
 simp[ByteArray.data_extract,List.extract_eq_take_drop,List.drop_take]
theorem run_bound(k:IntKind)(i:Int)(y:Nat)(code:BoundsCode)(h0:0≤i)(h1:i≤y)(w:World):(Instr.sliceBound (.int k i) y code).run P w=.ok i.toNat w:=run_sliceBound (P:=P) w k i y code h0 h1
theorem rep_sl_part{c:Ctx}{full full':Bool}{es:List AV}{base:Option Addr}{len cap:Nat}(h:Rep c (.sl full es) (.slice base len cap))(l k m sz:Nat)(hl:l≤k)(hk:k≤es.length)(hm:k≤m)(_:m≤cap)
  (hf:full'=true→m=k) (hsz:l≠0→∀x∈es,x.cells.length=sz):
  Rep c (.sl full' ((es.take k).drop l)) (.slice (if m=l then base else base.map (·.add (l * sz))) (k-l) (m-l)):=by
 have hR:=h.sl_R;obtain⟨b,n,cp,s,vs,he,h1,h2,h3,h4,h5,h6⟩:=h.sl_inv;cases he;refine .sl _ _ _ _ _ s (fun i j=>vs (l+i) j) (by simp;omega) (by omega) (fun hf'=>by rw[hf hf']) (fun hne=>?_) (fun e he=>h5 e ?_) (fun i e j x hi hj=>?_) (by omega)
 ·have hlen:((es.take k).drop l).length≠0:=fun e=>hne (zAu e)
  simp at hlen;have hne':es≠[]:=by grind
  obtain⟨a,rfl,a2,a3,a4⟩:=h4 hne';have hml:¬m=l:=by omega
  rw[zAk hml];refine⟨a.add (l * sz),rfl,Addr.add_spot a2 _,by rw[Addr.add_block];exact a3,fun i j hi hj=>?_⟩
  simp at hi;rw[Addr.add_add a2];have hs:l=0∨sz=s:=by
   rcases Nat.eq_zero_or_pos l with h0|h0
   ·exact .inl h0
   ·right;have h7:es[0]?=some (es[0]'(by omega)):=zAd (by omega)
    have h8:=zAK (l:=es) (n:=0) (by omega)
    rw[←hsz (by omega) _ h8,h5 _ h8]
  have e1:l * sz+(i * s+j)=(l+i) * s+j:=by
   rcases hs with h0|rfl
   ·simp[h0]
   ·rw[zBF];omega
  rw[e1];exact a4 _ _ (by omega) hj
 ·exact List.mem_of_mem_take (List.mem_of_mem_drop he)
 ·rw[List.getElem?_drop,List.getElem?_take]at hi;split at hi
  ·exact h6 _ _ _ _ hi hj
  ·cases hi
theorem rep_osl_part{c:Ctx}{s i v off len lc:Nat}{base:Option Addr}{cap:Nat}(hv:c.ver i=v)(h:Rep c (.osl s i v off len lc) (.slice base len cap))(l k m lc':Nat)(hl:l≤k)(hk:k≤lc')(hk2:lc'≤m)(hm:m≤cap)(hlc:lc'≤lc):
  Rep c (.osl s i v (off+l * s) (k-l) (lc'-l)) (.slice (if m=l then base else base.map (·.add (l * s))) (k-l) (m-l)):=by
 obtain⟨b,cp,he,h1,h1',h2,h3⟩:=h.osl_inv hv;cases he;cases h with
 |osl _ _ _ _ _ _ _ hi hv' ho hmax g1 g2=>
  refine .osl _ _ _ _ _ _ _ hi hv' rfl (by omega) (fun e d=>?_) (fun e d=>?_)
  ·grind
  ·obtain⟨p1,n,p2,p3⟩:=h3 d;refine⟨_,_,n,rfl,by omega,by omega,?_,p2,?_⟩
   ·rcases p1 with p1|rfl
    ·left;omega
    ·by_cases hcl:m=l
     ·left;omega
     ·right;rw[zAk hcl];simp[uM]
   ·have e5:l * s+(m-l) * s=m * s:=by rw[←zBF];congr 1;omega
    have e6:m * s≤cap * s:=Nat.mul_le_mul_right s hm;omega
theorem aE9{c:Ctx}{H:AHeap}{t:TypeId}{x:AV}{vx:Value}{lo hi mx:Option AV}{vl vh vm:Option Value}(hst:St c H)(hx:Rep c x vx)
  (hlo:∀y,lo=some y→∃u,vl=some u∧Rep c y u) (hlo':lo=none→vl=none) (hhi:∀y,hi=some y→∃u,vh=some u∧Rep c y u) (hhi':hi=none→vh=none)
  (hmx:∀y,mx=some y→∃u,vm=some u∧Rep c y u) (hmx':mx=none→vm=none) (hs:(aCB P t x lo hi mx H).s) (w:World):
  ∃v,(Instr.sliceAt t vx vl vh vm).run P w=.ok v w∧Rep c (aCB P t x lo hi mx H).v v:=by
 have inv:∀{o:Option AV} {u:Option Value} {k:IntKind} {n:Int},(∀y,o=some y→∃u',u=some u'∧Rep c y u')→o=some (.int k n)→u=some (.int k n):=by
  intro o u k n h1 h2;obtain⟨u',h3,h4⟩:=h1 _ h2;rw[h3,h4.int_inv]
 unfold aCB at *;split at hs
 ·rename_i s hu;rw[hlo' rfl,hhi' rfl,hmx' rfl,hx.str_inv];exact⟨_,by simp[Instr.sliceAt,Instr.slice,run_underlying hu,Instr.sliceBounds,extract_mk,aM9],.str _ hx.str_R⟩
 ·rename_i s k l hu;obtain⟨h0,h1⟩:=hs;rw[inv hlo rfl,hhi' rfl,hmx' rfl,hx.str_inv];refine⟨_,?_,.str _ (by have:=hx.str_R;simp only[zBa,zAX];omega)⟩
  simp[Instr.sliceAt,Instr.slice,run_underlying hu,Instr.sliceBounds,run_bound (P:=P) k l s.length _ h0 h1,extract_mk,aM9]
 ·rename_i s k h hu;obtain⟨h0,h1⟩:=hs;rw[hlo' rfl,inv hhi rfl,hmx' rfl,hx.str_inv];refine⟨_,?_,.str _ (by have:=hx.str_R;simp only[zBa,zAX];omega)⟩
  simp[Instr.sliceAt,Instr.slice,run_underlying hu,Instr.sliceBounds,run_bound (P:=P) k h s.length _ h0 h1,extract_mk,aM9]
 ·rename_i s k l k' h hu;obtain⟨h0,h1,h2⟩:=hs;rw[inv hlo rfl,inv hhi rfl,hmx' rfl,hx.str_inv];refine⟨_,?_,.str _ (by have:=hx.str_R;simp only[zBa,zAX];omega)⟩
  have e1:=run_bound (P:=P) k' h s.length .sliceAlen (by omega) h2 w
  have e2:=run_bound (P:=P) k l h.toNat .sliceB h0 (by omega) w
  simp[Instr.sliceAt,Instr.slice,run_underlying hu,Instr.sliceBounds,aM9,e1,e2,extract_mk]
 ·rename_i e full es hu;obtain⟨d,hd⟩:=Option.isSome_iff_exists.1 hs;rw[hlo' rfl,hhi' rfl,hmx' rfl];obtain⟨base,len,cap,s,vs,rfl,h1,h2,h3, -⟩:=hx.sl_inv;refine⟨_,by simp[Instr.sliceAt,Instr.slice,run_underlying hu,Instr.sliceBounds,oR hd];rfl,?_⟩
  have:=rep_sl_part (full':=full) hx 0 es.length cap (P.cellsOf e) (zAv _) (zAb _) (by omega) (zAb _) (fun hf=>by rw[h3 hf,h1]) (fun h=>absurd rfl h)
  simp[Addr.add]at this ⊢;rw[h1];exact this
 ·rename_i e full es k l hu;obtain⟨h0,h1,hd,hsz⟩:=hs;obtain⟨d,hd⟩:=Option.isSome_iff_exists.1 hd;rw[inv hlo rfl,hhi' rfl,hmx' rfl];obtain⟨base,len,cap,s,vs,rfl,rfl,h2,h3, -⟩:=hx.sl_inv;have e2:=run_bound (P:=P) k l es.length .sliceB h0 h1 w;refine⟨_,by simp[Instr.sliceAt,Instr.slice,run_underlying hu,Instr.sliceBounds,oR hd,e2];rfl,?_⟩
  have:=rep_sl_part (full':=full) hx l.toNat es.length cap (P.cellsOf e) (by omega) (zAb _) (by omega) (zAb _) (fun hf=>by rw[h3 hf]) (fun _=>hsz)
  simpa using this
 ·rename_i e full es k h hu;obtain⟨h0,h1,hd⟩:=hs;obtain⟨d,hd⟩:=Option.isSome_iff_exists.1 hd;rw[hlo' rfl,inv hhi rfl,hmx' rfl];obtain⟨base,len,cap,s,vs,rfl,rfl,h2,h3, -⟩:=hx.sl_inv;have e2:=run_bound (P:=P) k h cap .sliceAcap h0 (by omega) w
  refine⟨_,by simp[Instr.sliceAt,Instr.slice,run_underlying hu,Instr.sliceBounds,oR hd,e2];rfl,?_⟩
  have:=rep_sl_part (full':=full&&decide (h=(es.length:Int))) hx 0 h.toNat cap (P.cellsOf e) (zAv _) (by omega) (by omega) (zAb _) (fun hf=>by
   rw[zAc,zAz]at hf;have:=h3 hf.1;omega) (fun h=>absurd rfl h)
  simpa[Addr.add]using this
 ·rename_i e full es k l k' h hu;obtain⟨h0,h1,h1',hd,hsz⟩:=hs;obtain⟨d,hd⟩:=Option.isSome_iff_exists.1 hd;rw[inv hlo rfl,inv hhi rfl,hmx' rfl];obtain⟨base,len,cap,s,vs,rfl,rfl,h2,h3, -⟩:=hx.sl_inv;have e1:=run_bound (P:=P) k' h cap .sliceAcap (by omega) (by omega) w
  have e2:=run_bound (P:=P) k l h.toNat .sliceB h0 (by omega) w
  refine⟨_,by simp[Instr.sliceAt,Instr.slice,run_underlying hu,Instr.sliceBounds,oR hd,e1,e2];rfl,?_⟩
  exact rep_sl_part (full':=false) hx l.toNat h.toNat cap (P.cellsOf e) (by omega) (by omega) (by omega) (zAb _) (fun hf=>by cases hf) (fun _=>hsz)
 ·rename_i e full es k h k' m hu;obtain⟨h0,h1,rfl,hd⟩:=hs;obtain⟨d,hd⟩:=Option.isSome_iff_exists.1 hd;rw[hlo' rfl,inv hhi rfl,inv hmx rfl];obtain⟨base,len,cap,s,vs,rfl,rfl,h2,h3, -⟩:=hx.sl_inv;have e1:=run_bound (P:=P) k' m cap .slice3Acap h0 (by omega) w
  have e2:=run_bound (P:=P) k m m.toNat .slice3B h0 (by omega) w
  refine⟨_,by simp[Instr.sliceAt,Instr.slice,run_underlying hu,Instr.sliceBounds,oR hd,e1,e2];rfl,?_⟩
  have:=rep_sl_part (full':=true) hx 0 m.toNat m.toNat (P.cellsOf e) (zAv _) (by omega) (zAb _) (by omega) (fun _=>rfl) (fun h=>absurd rfl h)
  simpa[Addr.add]using this
 ·rename_i e full es k l k' h k'' m hu;obtain⟨h0,h1,h1',rfl,hd,hsz⟩:=hs;obtain⟨d,hd⟩:=Option.isSome_iff_exists.1 hd;rw[inv hlo rfl,inv hhi rfl,inv hmx rfl];obtain⟨base,len,cap,s,vs,rfl,rfl,h2,h3, -⟩:=hx.sl_inv;have e0:=run_bound (P:=P) k'' m cap .slice3Acap (by omega) (by omega) w
  have e1:=run_bound (P:=P) k' m m.toNat .slice3B (by omega) (by omega) w
  have e2:=run_bound (P:=P) k l m.toNat .slice3C h0 (by omega) w
  refine⟨_,by simp[Instr.sliceAt,Instr.slice,run_underlying hu,Instr.sliceBounds,oR hd,e0,e1,e2];rfl,?_⟩
  exact rep_sl_part (full':=true) hx l.toNat m.toNat m.toNat (P.cellsOf e) (by omega) (by omega) (by omega) (by omega) (fun _=>rfl) (fun _=>hsz)
 ·rename_i e s i v off len lc hu;obtain⟨hl,hd⟩:=hs;obtain⟨d,hd⟩:=Option.isSome_iff_exists.1 hd;have hv:=wB hst hl;rw[hlo' rfl,hhi' rfl,hmx' rfl];obtain⟨base,cap,rfl,h1, -⟩:=hx.osl_inv hv;refine⟨_,by simp[Instr.sliceAt,Instr.slice,run_underlying hu,Instr.sliceBounds,oR hd];rfl,?_⟩
  simp[Addr.add];exact hx
 ·rename_i e s i v off len lc k h hu;obtain⟨hl,hd,h0,h1⟩:=hs;obtain⟨d,hd⟩:=Option.isSome_iff_exists.1 hd;have hv:=wB hst hl;rw[hlo' rfl,inv hhi rfl,hmx' rfl];obtain⟨base,cap,rfl,h2,h3, -⟩:=hx.osl_inv hv;have e2:=run_bound (P:=P) k h cap .sliceAcap h0 (by omega) w
  refine⟨_,by simp[Instr.sliceAt,Instr.slice,run_underlying hu,Instr.sliceBounds,oR hd,e2];rfl,?_⟩
  have:=rep_osl_part hv hx 0 h.toNat cap lc (zAv _) (by omega) h3 (zAb _) (zAb _)
  simpa[Addr.add]using this
 ·rename_i e s i v off len lc k l hu;obtain⟨hl,hd,rfl,h0,h1⟩:=hs;obtain⟨d,hd⟩:=Option.isSome_iff_exists.1 hd;have hv:=wB hst hl;rw[inv hlo rfl,hhi' rfl,hmx' rfl];obtain⟨base,cap,rfl,h2,h3, -⟩:=hx.osl_inv hv;have e2:=run_bound (P:=P) k l len .sliceB h0 h1 w;refine⟨_,by simp[Instr.sliceAt,Instr.slice,run_underlying hu,Instr.sliceBounds,oR hd,e2];rfl,?_⟩
  exact rep_osl_part hv hx l.toNat len cap lc (by omega) h2 h3 (zAb _) (zAb _)
 ·rename_i e s i v off len lc k l k' h hu;obtain⟨hl,hd,rfl,h0,h1,h1'⟩:=hs;obtain⟨d,hd⟩:=Option.isSome_iff_exists.1 hd;have hv:=wB hst hl;rw[inv hlo rfl,inv hhi rfl,hmx' rfl];obtain⟨base,cap,rfl,h2,h3, -⟩:=hx.osl_inv hv;have e1:=run_bound (P:=P) k' h cap .sliceAcap (by omega) (by omega) w
  have e2:=run_bound (P:=P) k l h.toNat .sliceB h0 (by omega) w
  refine⟨_,by simp[Instr.sliceAt,Instr.slice,run_underlying hu,Instr.sliceBounds,oR hd,e1,e2];rfl,?_⟩
  exact rep_osl_part hv hx l.toNat h.toNat cap lc (by omega) (by omega) h3 (zAb _) (zAb _)
 ·rename_i e s i v off len lc k l k' h k'' m hu;obtain⟨hl,hd,rfl,h0,h1,h1',h1''⟩:=hs;obtain⟨d,hd⟩:=Option.isSome_iff_exists.1 hd;have hv:=wB hst hl;rw[inv hlo rfl,inv hhi rfl,inv hmx rfl];obtain⟨base,cap,rfl,h2,h3, -⟩:=hx.osl_inv hv;have e0:=run_bound (P:=P) k'' m cap .slice3Acap (by omega) (by omega) w
  have e1:=run_bound (P:=P) k' h m.toNat .slice3B (by omega) (by omega) w
  have e2:=run_bound (P:=P) k l h.toNat .slice3C h0 (by omega) w
  refine⟨_,by simp[Instr.sliceAt,Instr.slice,run_underlying hu,Instr.sliceBounds,oR hd,e0,e1,e2];rfl,?_⟩
  exact rep_osl_part hv hx l.toNat h.toNat m.toNat m.toNat (by omega) (by omega) (zAb _) (by omega) (by omega)
 ·rename_i n e i v off hu;obtain⟨hv,a,rfl,hr⟩:=rep_arr hst hx hs;obtain⟨d,hd⟩:=Option.isSome_iff_exists.1 hs.2.1;rw[hlo' rfl,hhi' rfl,hmx' rfl];refine⟨_,by simp[Instr.sliceAt,Instr.sureAddr,run_underlying hu,Instr.sliceBounds,oR hd];rfl,?_⟩
  simpa[Addr.add]using hr
 ·rename_i n e i v off k l hu;obtain⟨hs,h0,h1⟩:=hs;obtain⟨hv,a,rfl,hr⟩:=rep_arr hst hx hs;obtain⟨d,hd⟩:=Option.isSome_iff_exists.1 hs.2.1;rw[inv hlo rfl,hhi' rfl,hmx' rfl];have e2:=run_bound (P:=P) k l n .sliceB h0 h1 w;refine⟨_,by simp[Instr.sliceAt,Instr.sureAddr,run_underlying hu,Instr.sliceBounds,oR hd,e2];rfl,?_⟩
  simpa[apply_ite]using rep_osl_part hv hr l.toNat n n n (by omega) (zAb _) (zAb _) (zAb _) (zAb _)
 ·rename_i n e i v off k h hu;obtain⟨hs,h0,h1⟩:=hs;obtain⟨hv,a,rfl,hr⟩:=rep_arr hst hx hs;obtain⟨d,hd⟩:=Option.isSome_iff_exists.1 hs.2.1;rw[hlo' rfl,inv hhi rfl,hmx' rfl];have e2:=run_bound (P:=P) k h n .sliceAlen h0 h1 w;refine⟨_,by simp[Instr.sliceAt,Instr.sureAddr,run_underlying hu,Instr.sliceBounds,oR hd,e2];rfl,?_⟩
  simpa[Addr.add]using rep_osl_part hv hr 0 h.toNat n n (zAv _) (by omega) (zAb _) (zAb _) (zAb _)
 ·rename_i n e i v off k l k' h hu;obtain⟨hs,h0,h1,h2⟩:=hs;obtain⟨hv,a,rfl,hr⟩:=rep_arr hst hx hs;obtain⟨d,hd⟩:=Option.isSome_iff_exists.1 hs.2.1;rw[inv hlo rfl,inv hhi rfl,hmx' rfl];have e1:=run_bound (P:=P) k' h n .sliceAlen (by omega) h2 w
  have e2:=run_bound (P:=P) k l h.toNat .sliceB h0 (by omega) w
  refine⟨_,by simp[Instr.sliceAt,Instr.sureAddr,run_underlying hu,Instr.sliceBounds,oR hd,e1,e2];rfl,?_⟩
  simpa[apply_ite]using rep_osl_part hv hr l.toNat h.toNat n n (by omega) (by omega) (zAb _) (zAb _) (zAb _)
 ·exact hs.elim
end
end Go.Proofs.YtigedpfipifefaaGreatDoor
