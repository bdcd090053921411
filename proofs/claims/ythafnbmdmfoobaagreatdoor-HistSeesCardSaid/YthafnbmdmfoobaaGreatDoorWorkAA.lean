/- What the functions of this seat answer (1 of 40). No condition. -/
import Derived.Calls
import Derived.RangeFuncLeaves
import Derived.RangeFuncRecord
import Derived.OrdersIn
import Derived.Laws.World
import Derived.Laws.Sem
import Derived.Laws.StructEq
import Derived.Laws.Cells
import Derived.Laws.Slices
namespace Go
theorem bt:type_of% @List.length_append:=@List.length_append
theorem cA:type_of% @List.getElem?_eq_some_iff:=@List.getElem?_eq_some_iff
theorem eB:type_of% @List.take_succ_eq_append_getElem:=@List.take_succ_eq_append_getElem
theorem b8:type_of% @decide_eq_false:=@decide_eq_false
theorem c0:type_of% @List.getElem?_eq_getElem:=@List.getElem?_eq_getElem
theorem b2:type_of% @List.append_nil:=@List.append_nil
theorem cr:type_of% @List.append_assoc:=@List.append_assoc
theorem cm:type_of% @List.length_cons:=@List.length_cons
theorem eo:type_of% @List.drop_eq_getElem_cons:=@List.drop_eq_getElem_cons
theorem eP:type_of% @List.getD_eq_getElem?_getD:=@List.getD_eq_getElem?_getD
theorem az:type_of% @if_neg:=@if_neg
theorem bG:type_of% @Nat.zero_le:=@Nat.zero_le
theorem bk:type_of% @Nat.le_refl:=@Nat.le_refl
theorem cF:type_of% @decide_eq_true:=@decide_eq_true
theorem cP:type_of% @List.length_map:=@List.length_map
theorem bP:type_of% @List.mem_map:=@List.mem_map
theorem dA:type_of% @List.mem_singleton:=@List.mem_singleton
theorem aF:type_of% @if_pos:=@if_pos
theorem df:type_of% @List.mem_of_getElem?:=@List.mem_of_getElem?
theorem c7:type_of% @List.mem_cons:=@List.mem_cons
theorem dD:type_of% @Bool.and_eq_true:=@Bool.and_eq_true
theorem iC:type_of% @List.getElem?_append_left:=@List.getElem?_append_left
theorem ew:type_of% @List.length_nil:=@List.length_nil
theorem bH:type_of% @congrArg:=@congrArg
theorem dn:type_of% @List.map_cons:=@List.map_cons
theorem eQ:type_of% @List.take_length:=@List.take_length
theorem eX:type_of% @List.mem_append:=@List.mem_append
theorem e8:type_of% @List.length_take:=@List.length_take
theorem gi:type_of% @List.cons_append:=@List.cons_append
theorem bJ:type_of% @eq_true:=@eq_true
theorem jf:type_of% @List.take_append_drop:=@List.take_append_drop
theorem ht:type_of% @Bool.false_eq_true:=@Bool.false_eq_true
theorem gK:type_of% @List.nil_append:=@List.nil_append
theorem jg:type_of% @List.eq_nil_of_length_eq_zero:=@List.eq_nil_of_length_eq_zero
theorem gL:type_of% @List.length_drop:=@List.length_drop
theorem eE:type_of% @Nat.mul_one:=@Nat.mul_one
theorem gS:type_of% @List.getElem?_set_ne:=@List.getElem?_set_ne
theorem gj:type_of% @List.length_set:=@List.length_set
theorem gT:type_of% @List.all_eq_true:=@List.all_eq_true
theorem jB:type_of% @List.not_mem_nil:=@List.not_mem_nil
theorem hv:type_of% @List.getElem_mem:=@List.getElem_mem
theorem j6:type_of% @Int.toNat_natCast:=@Int.toNat_natCast
theorem hG:type_of% @Bool.true_and:=@Bool.true_and
theorem hR:type_of% @decide_eq_true_eq:=@decide_eq_true_eq
theorem jC:type_of% @Option.map_eq_some_iff:=@Option.map_eq_some_iff
theorem gU:type_of% @Nat.le_trans:=@Nat.le_trans
theorem qf:type_of% @List.getElem?_append_right:=@List.getElem?_append_right
theorem ld:type_of% @List.filter_append:=@List.filter_append
theorem lf:type_of% @List.mem_cons_of_mem:=@List.mem_cons_of_mem
theorem l7:type_of% @List.drop_length:=@List.drop_length
theorem rV:type_of% @List.mem_of_find?_eq_some:=@List.mem_of_find?_eq_some
theorem oI:type_of% @List.getElem?_set_self:=@List.getElem?_set_self
theorem mB:type_of% @of_decide_eq_true:=@of_decide_eq_true
theorem im:type_of% @List.map_nil:=@List.map_nil
theorem lb:type_of% @Option.bind_some:=@Option.bind_some
theorem nW:type_of% @Nat.lt_succ_self:=@Nat.lt_succ_self
theorem nX:type_of% @List.length_filter_le:=@List.length_filter_le
theorem qd:type_of% @List.pairwise_cons:=@List.pairwise_cons
theorem nj:type_of% @List.getElem?_map:=@List.getElem?_map
theorem nk:type_of% @Bool.not_eq_true':=@Bool.not_eq_true'
theorem nm:type_of% @decide_eq_false_iff_not:=@decide_eq_false_iff_not
theorem km:type_of% @List.mem_filter:=@List.mem_filter
theorem qe:type_of% @List.flatMap_cons:=@List.flatMap_cons
theorem mX:type_of% @List.filter_cons:=@List.filter_cons
theorem eF:type_of% @if_false:=@if_false
theorem dI:type_of% @if_true:=@if_true
theorem xm:type_of% @List.pairwise_iff_getElem:=@List.pairwise_iff_getElem
theorem oJ:type_of% @Option.getD_some:=@Option.getD_some
theorem qh:type_of% @Bool.eq_iff_iff:=@Bool.eq_iff_iff
theorem xn:type_of% @Option.bind_eq_some_iff:=@Option.bind_eq_some_iff
theorem nY:type_of% @Option.some.inj:=@Option.some.inj
theorem vE:type_of% @List.getElem_set_self:=@List.getElem_set_self
theorem uv:type_of% @List.length_singleton:=@List.length_singleton
theorem mY:type_of% @Array.getElem?_eq_getElem:=@Array.getElem?_eq_getElem
theorem uw:type_of% @List.pairwise_append:=@List.pairwise_append
theorem ux:type_of% @List.find?_eq_none:=@List.find?_eq_none
theorem xo:type_of% @Array.mem_of_getElem?:=@Array.mem_of_getElem?
theorem Bb:type_of% @Int.tdiv_eq_ediv_of_nonneg:=@Int.tdiv_eq_ediv_of_nonneg
theorem vF:type_of% @List.length_pos_iff:=@List.length_pos_iff
theorem pr:type_of% @List.cons.inj:=@List.cons.inj
theorem nZ:type_of% @List.foldl_cons:=@List.foldl_cons
theorem n0:type_of% @List.map_append:=@List.map_append
theorem vG:type_of% @List.mem_of_mem_drop:=@List.mem_of_mem_drop
theorem vH:type_of% @Nat.lt_of_lt_of_le:=@Nat.lt_of_lt_of_le
theorem xp:type_of% @Option.isSome_some:=@Option.isSome_some
theorem jD:type_of% @or_false:=@or_false
theorem pt:type_of% @decide_true:=@decide_true
theorem rZ:type_of% @List.mem_flatMap:=@List.mem_flatMap
theorem s4:type_of% @List.foldl_append:=@List.foldl_append
theorem A7:type_of% @Array.getElem?_append_left:=@Array.getElem?_append_left
theorem DH:type_of% @Int.tmod_eq_emod_of_nonneg:=@Int.tmod_eq_emod_of_nonneg
theorem s0:type_of% @List.take_left:=@List.take_left
theorem rX:type_of% @List.map_take:=@List.map_take
theorem vB:type_of% @Bool.not_eq_true:=@Bool.not_eq_true
theorem pq:type_of% @Nat.le_succ:=@Nat.le_succ
theorem iM:type_of% @Int.le_refl:=@Int.le_refl
theorem yV:type_of% @List.filterMap_cons:=@List.filterMap_cons
theorem DI:type_of% @Array.setIfInBounds_comm:=@Array.setIfInBounds_comm
theorem yW:type_of% @List.getElem?_eq_none:=@List.getElem?_eq_none
theorem s3:type_of% @Bool.not_false:=@Bool.not_false
theorem Hj:type_of% @Array.getElem?_append_right:=@Array.getElem?_append_right
theorem Hk:type_of% @Array.getD_eq_getD_getElem?:=@Array.getD_eq_getD_getElem?
theorem rY:type_of% @Option.map_some:=@Option.map_some
theorem A8:type_of% @Option.isSome_none:=@Option.isSome_none
theorem uu:type_of% @Nat.min_eq_left:=@Nat.min_eq_left
theorem K7:type_of% @List.set_eq_take_append_cons_drop:=@List.set_eq_take_append_cons_drop
theorem xl:type_of% @Bool.or_eq_false_iff:=@Bool.or_eq_false_iff
theorem mC:type_of% @Nat.zero_add:=@Nat.zero_add
theorem qg:type_of% @Array.getElem?_eq_some_iff:=@Array.getElem?_eq_some_iff
theorem A9:type_of% @Array.toList_append:=@Array.toList_append
theorem Ba:type_of% @List.replicate_succ:=@List.replicate_succ
theorem vC:type_of% @Bool.eq_false_iff:=@Bool.eq_false_iff
theorem Hl:type_of% @List.getElem_append_right:=@List.getElem_append_right
theorem DJ:type_of% @Nat.le_of_ble_eq_true:=@Nat.le_of_ble_eq_true
theorem vD:type_of% @Array.getElem?_toList:=@Array.getElem?_toList
theorem A6:type_of% @List.contains_iff_mem:=@List.contains_iff_mem
theorem DE:type_of% @List.dropLast_eq_take:=@List.dropLast_eq_take
theorem nn:type_of% @List.prefix_refl:=@List.prefix_refl
theorem vz:type_of% @List.getElem?_cons_succ:=@List.getElem?_cons_succ
theorem vA:type_of% @Bool.not_true:=@Bool.not_true
theorem DF:type_of% @List.pairwise_singleton:=@List.pairwise_singleton
theorem rW:type_of% @List.map_map:=@List.map_map
theorem xj:type_of% @Bool.false_and:=@Bool.false_and
theorem xk:type_of% @List.mem_range:=@List.mem_range
theorem DG:type_of% @List.getD_cons_zero:=@List.getD_cons_zero
theorem DM:type_of% @List.getD_cons_succ:=@List.getD_cons_succ
theorem s5:type_of% @List.getElem_of_mem:=@List.getElem_of_mem
theorem yY:type_of% @List.find?_some:=@List.find?_some
theorem xq:type_of% @Bool.or_eq_true:=@Bool.or_eq_true
theorem DN:type_of% @List.take_set_of_le:=@List.take_set_of_le
theorem Ho:type_of% @List.drop_eq_nil_of_le:=@List.drop_eq_nil_of_le
theorem kn:type_of% @Ne.symm:=@Ne.symm
theorem Be:type_of% @Option.getD_none:=@Option.getD_none
theorem vJ:type_of% @Nat.add_assoc:=@Nat.add_assoc
theorem vK:type_of% @Bool.false_or:=@Bool.false_or
theorem xr:type_of% @List.take_zero:=@List.take_zero
theorem La:type_of% @List.mem_or_eq_of_mem_set:=@List.mem_or_eq_of_mem_set
theorem Bf:type_of% @Option.map_none:=@Option.map_none
theorem yZ:type_of% @Option.some.injEq:=@Option.some.injEq
theorem r1:type_of% @List.nodup_cons:=@List.nodup_cons
theorem uA:type_of% @List.getElem?_set:=@List.getElem?_set
theorem Lb:type_of% @List.getElem_append_left:=@List.getElem_append_left
theorem y0:type_of% @List.getElem?_cons_zero:=@List.getElem?_cons_zero
theorem y1:type_of% @List.map_drop:=@List.map_drop
theorem Hp:type_of% @List.drop_set_of_lt:=@List.drop_set_of_lt
theorem DO:type_of% @decide_eq_decide:=@decide_eq_decide
theorem Bg:type_of% @List.drop_drop:=@List.drop_drop
theorem Hq:type_of% @Option.map_eq_none_iff:=@Option.map_eq_none_iff
theorem y2:type_of% @List.mem_replicate:=@List.mem_replicate
theorem DP:type_of% @decide_false:=@decide_false
theorem uz:type_of% @Nat.add_zero:=@Nat.add_zero
theorem yX:type_of% @Int.le_trans:=@Int.le_trans
theorem Hm:type_of% @List.mem_iff_getElem?:=@List.mem_iff_getElem?
theorem qi:type_of% @cond_false:=@cond_false
theorem Hn:type_of% @List.any_eq_false:=@List.any_eq_false
theorem K8:type_of% @Array.mem_toList_iff:=@Array.mem_toList_iff
theorem vI:type_of% @Nat.mul_le_mul_right:=@Nat.mul_le_mul_right
theorem K9:type_of% @List.mem_append_left:=@List.mem_append_left
theorem Bc:type_of% @List.foldl_nil:=@List.foldl_nil
theorem DL:type_of% @List.flatMap_nil:=@List.flatMap_nil
theorem n1:type_of% @Nat.add_mul:=@Nat.add_mul
theorem Bd:type_of% @Nat.lt_or_ge:=@Nat.lt_or_ge
theorem qj:type_of% @beq_iff_eq:=@beq_iff_eq
theorem uy:type_of% @eq_false:=@eq_false
theorem DK:type_of% @Classical.em:=@Classical.em
end Go
set_option linter.unusedSimpArgs false
set_option linter.unusedVariables false
set_option linter.unusedSectionVars false
set_option maxRecDepth 100000
set_option maxHeartbeats 16000000
namespace Go.Proofs.YthafnbmdmfoobaaGreatDoor
section
inductive I where
 |int (k:IntKind) (n:Int)
 |bool (b:Bool)
 |str (s:List UInt8)
 |agg (cs:List I)
 |a0 (vs:List I)
 |sl (full:Bool) (es:List I)
 |cptr (cs:List I)
 |ref (i bg off:Nat)
 |osl (s i bg off len lc:Nat)
 |hp
 |map (i:Nat)
 |hQ
 |iter (i:Nat)
 |func (fn:Fn) (first captured:List I)
 |en
 |iface (t:TypeId) (v:I)
 |nilIface
 |opt (g:Bool) (v:I)
 |top
instance:Inhabited I:=⟨.top⟩
def I.cells:I->List I
 |.agg cs=>cs
 |v=>[v]
structure Ctx where
 w:World
 n:Nat
 aE:Nat->Nat
 bg:Nat->Nat
 dR:Nat->Bool
 jy:Nat->Prop
 base:Nat
def bsize(w:World)(b:Nat):Option Nat:=
 match w.heap[b]? with
 |some (.cells vs _ _)=>some vs.size
 |_=>none
def mn(k:IntKind)(n:Int):Prop:=k.min<=n∧n<=k.max
theorem sE(k:IntKind)(n:Int):mn k (k.wrap n):=by
 unfold mn IntKind.wrap IntKind.min IntKind.max;cases k<;>simp[IntKind.bits,IntKind.signed]<;>(try split)<;>omega
theorem aC8(k:IntKind):k.min<=0∧0<=k.max:=by cases k<;>decide
theorem QN{k:IntKind}{n m:Int}(h:mn k n)(h1:0<=n->0<=m∧m<=n)(h2:n<0->n<=m∧m<=0):mn k m:=by
 obtain⟨p,q⟩:=aC8 k;obtain⟨h3,h4⟩:=h;by_cases aC:0<=n
 ·have:=h1 aC;exact⟨by omega,by omega⟩
 ·have:=h2 (by omega);exact⟨by omega,by omega⟩
theorem oM{n:Int}:mn .i64 n↔ -9223372036854775808<=n∧n<=9223372036854775807:=Iff.rfl
theorem H2{n:Int}:mn .u8 n↔0<=n∧n<=255:=Iff.rfl
theorem T1{n:Int}:mn .i32 n↔ -2147483648<=n∧n<=2147483647:=Iff.rfl
def uG(k:IntKind)(n:Int):Bool:=decide (k.min<=n)&&decide (n<=k.max)
theorem AZ{k:IntKind}{n:Int}:uG k n=true↔mn k n:=by simp[uG,mn]
inductive aK (c:Ctx):I->Value->Prop
 |int (k:IntKind) (n:Int) (ax:mn k n):aK c (.int k n) (.int k n)
 |bool (b:Bool):aK c (.bool b) (.bool b)
 |str (s:List UInt8) (ax:s.length<=9223372036854775807):aK c (.str s) (.string ⟨s.toArray⟩)
 |agg (cs:List I) (vs:Array Value) (hl:vs.size=cs.length) (h:∀(i:Nat) (x:I) (v:Value),cs[i]?=some x->vs[i]?=some v->aK c x v):aK c (.agg cs) (.agg vs)
 |a0 (cs:List I) (vs:Array Value) (hl:vs.size=cs.length) (h:∀(i:Nat) (x:I) (v:Value),cs[i]?=some x->vs[i]?=some v->aK c x v):aK c (.a0 cs) (.tuple vs)
 |sl (full:Bool) (es:List I) (base:Option Addr) (len cap s:Nat) (vs:Nat->Nat->Value) (hlen:len=es.length) (mf:len<=cap) (VS:full=true->cap=len)
   (aa:es≠[]->∃a,base=some a∧a.spot=none∧c.jy a.block∧∀k j,k<es.length->j<s->c.w.cell? (a.add (k * s+j))=some (vs k j))
   (hs:∀e∈es,e.cells.length=s)
   (ax:∀(k:Nat) (e:I) (j:Nat) (x:I),es[k]?=some e->e.cells[j]?=some x->aK c x (vs k j)) (pU:len<=9223372036854775807):aK c (.sl full es) (.slice base len cap)
 |cptr (cs:List I) (a:Addr) (vs:Nat->Value) (Af:a.spot=none) (av:c.jy a.block) (al:∀j,j<cs.length->c.w.cell? (a.add j)=some (vs j))
   (ax:∀(j:Nat) (x:I),cs[j]?=some x->aK c x (vs j)):aK c (.cptr cs) (.pointer (some a))
 |ref (i v off:Nat) (val:Value) (hi:i<c.n) (aL:v<=c.bg i) (aN:val.oneCell'=true) (h:c.bg i=v->c.dR i=false∧val=.pointer (some ⟨c.aE i,off,none⟩)):aK c (.ref i v off) val
 |osl (s i v off len lc:Nat) (val:Value) (hi:i<c.n) (aL:v<=c.bg i) (aN:val.oneCell'=true) (pU:lc<=9223372036854775807)
   (h1:c.bg i=v->c.dR i=true->len=0∧lc=0∧∃base,val=.slice base 0 0)
   (h2:c.bg i=v->c.dR i=false->∃base cap m,val=.slice base len cap∧len<=lc∧lc<=cap∧(cap=0∨base=some ⟨c.aE i,off,none⟩)∧bsize c.w (c.aE i)=some m∧off+cap * s<=m):aK c (.osl s i v off len lc) val
 |hp:aK c .hp (.pointer none)
 |map (i:Nat) (val:Value) (hi:i<c.n) (aN:val.oneCell'=true) (h:c.bg i=0->c.dR i=false∧val=.map (some (c.aE i))):aK c (.map i) val
 |hQ:aK c .hQ (.map none)
 |iter (i:Nat) (val:Value) (hi:i<c.n) (aN:val.oneCell'=true) (h:c.bg i=0->c.dR i=false∧val=.pointer (some ⟨c.aE i,0,none⟩)):aK c (.iter i) val
 |func (fn:Fn) (fs cs:List I) (rP vt:Array Value) (an:rP.size=fs.length) (al:vt.size=cs.length)
   (h1:∀(i:Nat) (x:I) (v:Value),fs[i]?=some x->rP[i]?=some v->aK c x v) (h2:∀(i:Nat) (x:I) (v:Value),cs[i]?=some x->vt[i]?=some v->aK c x v):aK c (.func fn fs cs) (.func fn rP vt)
 |en:aK c .en .nilFunc
 |iface (t:TypeId) (x:I) (v:Value) (h:aK c x v):aK c (.iface t x) (.iface t v)
 |nilIface:aK c .nilIface .nilIface
 |opt (g:Bool) (x:I) (v:Value) (h1:g=true->aK c x v) (h2:g=false->v=undef):aK c (.opt g x) v
 |top (v:Value):aK c .top v
structure Ext (c c':Ctx):Prop where
 n:c.n<=c'.n
 size:c.w.heap.size<=c'.w.heap.size
 st:∀b,c.jy b->c'.jy b∧c'.w.heap[b]?=c.w.heap[b]?
 bg:∀i,i<c.n->c.bg i<=c'.bg i
 aE:∀i,i<c.n->c'.bg i=c.bg i->c'.aE i=c.aE i∧c'.dR i=c.dR i∧(c.dR i=false->bsize c'.w (c.aE i)=bsize c.w (c.aE i))
 os:c'.w.os=c.w.os
 tape:c'.w.tape=c.w.tape
 output:c'.w.output=c.w.output
 base:c'.base=c.base
theorem Ext.refl(c:Ctx):Ext c c:=⟨bk _,bk _,fun _ h=>⟨h,rfl⟩,fun _ _=>bk _,fun _ _ _=>⟨rfl,rfl,fun _=>rfl⟩,rfl,rfl,rfl,rfl⟩
theorem Ext.trans{a b c:Ctx}(h:Ext a b)(k:Ext b c):Ext a c where
 n:=gU h.n k.n
 size:=gU h.size k.size
 st:=fun x J=>⟨(k.st x (h.st x J).1).1,((k.st x (h.st x J).1).2).trans (h.st x J).2⟩
 bg:=fun i hi=>gU (h.bg i hi) (k.bg i (vH hi h.n))
 aE:=fun i hi he=>by
  have h1:=h.bg i hi;have h2:=k.bg i (vH hi h.n);have ar:b.bg i=a.bg i:=by omega
  have au:c.bg i=b.bg i:=by omega
  obtain⟨cK,dc,ei⟩:=h.aE i hi ar;obtain⟨aQ,aO,bF⟩:=k.aE i (vH hi h.n) au;grind
 os:=k.os.trans h.os
 tape:=k.tape.trans h.tape
 output:=k.output.trans h.output
 base:=k.base.trans h.base
theorem XB{w w':World}{a:Addr}(h:w'.heap[a.block]?=w.heap[a.block]?):w'.cell? a=w.cell? a:=by
 unfold World.cell?;rw[h]
theorem Addr.B7(a:Addr)(n:Nat):(a.add n).block=a.block:=by
 unfold Addr.add;split<;>rfl
structure Bl (c c':Ctx):Prop where
 n:c.n<=c'.n
 st:∀b,c.jy b->c'.jy b
 cell:∀a:Addr,c.jy a.block->c'.w.cell? a=c.w.cell? a
 bg:∀i,i<c.n->c.bg i<=c'.bg i
 aE:∀i,i<c.n->c'.bg i=c.bg i->c'.aE i=c.aE i∧c'.dR i=c.dR i∧(c.dR i=false->bsize c'.w (c.aE i)=bsize c.w (c.aE i))
theorem Ext.U7{c c':Ctx}(h:Ext c c'):Bl c c':=⟨h.n,fun b aa=>(h.st b aa).1,fun _ aD=>XB (h.st _ aD).2,h.bg,h.aE⟩
theorem aK.tZ{c c':Ctx}(J:Bl c c'){x:I}{v:Value}(h:aK c x v):aK c' x v:=by
 induction h with
 |int k n ax=>exact .int k n ax
 |bool b=>exact .bool b
 |str s ax=>exact .str s ax
 |agg cs vs hl _ ay=>exact .agg cs vs hl ay
 |a0 cs vs hl _ ay=>exact .a0 cs vs hl ay
 |sl full es base len cap s vs hlen mf VS aa hs _ pU ay=>
  refine .sl full es base len cap s vs hlen mf VS (fun aP=>?_) hs ay pU
  obtain⟨a,ar,au,bd,bE⟩:=aa aP;refine⟨a,ar,au,J.st _ bd,fun k j hk aw=>?_⟩
  rw[J.cell _ (by rw[Addr.B7];exact bd)]
  exact bE k j hk aw
 |cptr cs a vs Af av al _ ay=>
  refine .cptr cs a vs Af (J.st _ av) (fun j aw=>?_) ay
  rw[J.cell _ (by rw[Addr.B7];exact av)]
  exact al j aw
 |ref i v off val hi aL aN h=>
  refine .ref i v off val (vH hi J.n) (gU aL (J.bg i hi)) aN (fun e=>?_)
  have h1:=J.bg i hi;have ar:c'.bg i=c.bg i:=by omega
  rw[(J.aE i hi ar).1,(J.aE i hi ar).2.1];exact h (by omega)
 |osl s i v off len lc val hi aL aN pU h1 h2=>
  have hle:=J.bg i hi;refine .osl s i v off len lc val (vH hi J.n) (gU aL hle) aN pU (fun e d=>?_) (fun e d=>?_)
  ·have ar:c'.bg i=c.bg i:=by omega
   exact h1 (by omega) (by rw[<-(J.aE i hi ar).2.1];exact d)
  ·have ar:c'.bg i=c.bg i:=by omega
   obtain⟨cK,dc,ei⟩:=J.aE i hi ar;rw[dc]at d;obtain⟨base,cap,m,aQ,aO,aLt,bF,c9,eA⟩:=h2 (by omega) d
   exact⟨base,cap,m,aQ,aO,aLt,by rw[cK];exact bF,by rw[cK,ei d];exact c9,eA⟩
 |hp=>exact .hp
 |map i val hi aN h=>
  refine .map i val (vH hi J.n) aN (fun e=>?_)
  have h1:=J.bg i hi;have ar:c'.bg i=c.bg i:=by omega
  rw[(J.aE i hi ar).1,(J.aE i hi ar).2.1];exact h (by omega)
 |hQ=>exact .hQ
 |iter i val hi aN h=>
  refine .iter i val (vH hi J.n) aN (fun e=>?_)
  have h1:=J.bg i hi;have ar:c'.bg i=c.bg i:=by omega
  rw[(J.aE i hi ar).1,(J.aE i hi ar).2.1];exact h (by omega)
 |func fn fs cs rP vt an al _ _ tU sD=>exact .func fn fs cs rP vt an al tU sD
 |en=>exact .en
 |iface t x v _ ay=>exact .iface t x v ay
 |nilIface=>exact .nilIface
 |opt g x v _ h2 ay=>exact .opt g x v ay h2
 |top v=>exact .top v
theorem aK.mono{c c':Ctx}(J:Ext c c'){x:I}{v:Value}(h:aK c x v):aK c' x v:=h.tZ J.U7
abbrev a5:=List (Nat×I)
def look:a5->Nat->I
 |[],_=>.top
 |(d,v)::α,t=>bif d==t then v else look α t
inductive bu where
 |cells (bg:Nat) (cs:List I)
 |map (es:List (I×I×Nat)) (clock:Nat)
 |h0 (m:Nat) (since:Nat) (seen:List Nat) (kl:Nat)
 |k8 (s:List UInt8) (pos:Nat)
 |loop (l:Nat) (α:a5) (N:Nat) (st:LoopState) (h5:Option Code) (ps:Array Tmp) (mE dX:Code)
 |gone
abbrev ab:=List bu
def bu.live:bu->Prop
 |.gone=>False
 |_=>True
inductive kp (c:Ctx) (i:Nat):bu->Prop
 |cells (bg:Nat) (cs:List I) (vs:Array Value) (e:TypeId) (cd:Nat×Nat) (aL:c.bg i=bg) (hd:c.dR i=false) (ah:c.w.heap[c.aE i]?=some (.cells vs e cd)) (hl:cs.length<=vs.size) (an:vs.size<=cd.1∨cd.2<=cd.1)
   (h:∀(j:Nat) (x:I) (v:Value),cs[j]?=some x->vs[j]?=some v->aK c x v):kp c i (.cells bg cs)
 |void (bg:Nat) (aL:c.bg i=bg) (hd:c.dR i=true):kp c i (.cells bg [])
 |map (es:List (I×I×Nat)) (clock:Nat) (db:Array MapEntry) (aL:c.bg i=0) (hd:c.dR i=false) (ah:c.w.heap[c.aE i]?=some (.map db clock)) (hl:db.size=es.length)
   (h:∀(j:Nat) (p:I×I×Nat) (e:MapEntry),es[j]?=some p->db[j]?=some e->aK c p.1 e.key∧aK c p.2.1 e.val∧e.born=p.2.2):kp c i (.map es clock)
 |h0 (m since:Nat) (seen:List Nat) (kl:Nat) (aL:c.bg i=0) (hd:c.dR i=false) (hm:m<c.n) (wG:c.bg m=0) (CD:c.dR m=false) (ah:c.w.heap[c.aE i]?=some (.mapIter (some (c.aE m)) since seen.toArray kl)):kp c i (.h0 m since seen kl)
 |k8 (s:List UInt8) (pos:Nat) (aL:c.bg i=0) (hd:c.dR i=false) (ah:c.w.heap[c.aE i]?=some (.stringIter ⟨s.toArray⟩ pos)) (pY:s.length<=9223372036854775807):kp c i (.k8 s pos)
 |loop (l:Nat) (α:a5) (N:Nat) (st:LoopState) (h5:Option Code) (ps:Array Tmp) (mE dX:Code) (fn D:Nat) (ts:Array Value) (aL:c.bg i=0) (hd:c.dR i=false) (hl:c.aE i=l)
   (ah:c.w.heap[c.aE i]?=some (.loop {state:=st,pending:=h5,fn:=fn,tmps:=ts,params:=ps,assign:=mE,body:=dX,defers:=D})) (hc:ts.size=N) (ax:∀t,aK c (look α t) (ts.getD t undef)):kp c i (.loop l α N st h5 ps mE dX)
 |gone (hd:c.dR i=true):kp c i .gone
structure bA (c:Ctx) (H:ab):Prop where
 n:c.n=H.length
 lt:∀i,i<c.n->c.dR i=false->c.aE i<c.w.heap.size
 inj:∀i j b cN,H[i]?=some b->H[j]?=some cN->b.live->cN.live->c.dR i=false->c.dR j=false->c.aE i=c.aE j->i=j
 st:∀k,c.jy k->k<c.w.heap.size∧∀i b,H[i]?=some b->b.live->c.dR i=false->c.aE i≠k
 rep:∀i b,H[i]?=some b->kp c i b
def Marks(c:Ctx)(bc:List Deferred):Prop:=
 c.base<=c.w.heap.size∧∃nq:List Nat,bc=nq.map (fun D=>{target:=.collected D,args:= #[]})∧nq.Nodup∧∀D∈nq,c.base<=D∧c.jy D∧c.w.heap[D]?=some (.deferred (some []))
theorem Marks.mono{c c':Ctx}{bc:List Deferred}(J:Ext c c')(h:Marks c bc):Marks c' bc:=by
 obtain⟨aC,nq,e,ag,h⟩:=h;refine⟨by rw[J.base];exact gU aC J.size,nq,e,ag,fun D cD=>?_⟩
 obtain⟨h1,h2,h3⟩:=h D cD;exact⟨by rw[J.base];exact h1,(J.st D h2).1,((J.st D h2).2).trans h3⟩
structure ko (c:Ctx) (N:Nat) (α:a5) (a:Act):Prop where
 size:a.tmps.size=N
 defers:Marks c a.defers
 rep:∀t,aK c (look α t) (a.tmps.getD t undef)
theorem ko.mono{c c':Ctx}{N:Nat}{α:a5}{a:Act}(J:Ext c c')(h:ko c N α a):ko c' N α a:=
 ⟨h.size,h.defers.mono J,fun t=>(h.rep t).mono J⟩
def cY(dst:Option Tmp)(v:I)(α:a5):a5:=
 match dst with
 |some d=>(d,v)::α
 |none=>α
def BC(N:Nat):Option Tmp->Bool
 |some d=>Nat.blt d N
 |none=>true
theorem ko.put{c:Ctx}{N:Nat}{α:a5}{a:Act}{dst:Option Tmp}{x:I}{v:Value}(h:ko c N α a)(hd:BC N dst=true)(aL:aK c x v):ko c N (cY dst x α) (a.put dst v):=by
 cases dst with
 |none=>exact h
 |some d=>
  have ak:d<a.tmps.size:=by rw[h.size];simpa[BC,Nat.blt_eq]using hd
  refine⟨by simp[Act.put,h.size],h.defers,fun t=>?_⟩
  simp only[cY,look,Act.put];by_cases o2:d=t
  ·subst o2;simp[ak,aL]
  ·have aa:(d==t)=false:=by simp[o2]
   rw[aa,qi];have:=h.rep t;simp_all
theorem ko.weaken{c:Ctx}{N:Nat}{α β:a5}{a:Act}(h:ko c N α a)(aa:∀t,look β t=.top∨look β t=look α t):ko c N β a:=by
 refine⟨h.size,h.defers,fun t=>?_⟩
 rcases aa t with e|e
 ·rw[e];exact .top _
 ·rw[e];exact h.rep t
abbrev dU:=Exit->a5->ab->Prop
def wf(r:Option Nat):Fence:={fn:=fun _=>True,depth:=none,alive:=false,round:=r}
def tb:Code->Bool
 |.seq x y=>tb x&&tb y
 |.cond _ x y=>tb x&&tb y
 |.block _ x=>tb x
 |.loop x=>tb x
 |.scope x=>tb x
 |.rangeFunc _ _ _ _=>false
 |_=>true
def di(P:Program)(N:Nat)(code:Code)(Q:dU)(α:a5)(H:ab):Prop:=
 ∀(r:Option Nat) (c:Ctx) (a:Act),(r=none∨tb code=true)->bA c H->ko c N α a->
  code.wpIn (wf r) 0 P (fun e gx w'=>∃c' c1 H',c'.w=w'∧bA c' H'∧Ext c c'∧ko c' N c1 gx∧Q e c1 H') a c.w
theorem Nw{r:Option Nat}{a b:Bool}(h:r=none∨(a&&b)=true):(r=none∨a=true)∧(r=none∨b=true):=by
 grind
def r4(c:Ctx)(xs:List I)(vs:Array Value):Prop:=vs.size=xs.length∧∀(i:Nat) (x:I) (v:Value),xs[i]?=some x->vs[i]?=some v->aK c x v
def c5(P:Program)(f:FuncId)(args:List I)(H:ab)(R:I->ab->Prop):Prop:=
 ∀(c:Ctx) (vs:Array Value),bA c H->r4 c args vs->
  Calls P f vs c.w (fun e w'=>∃c' x v H',e=.returned v∧c'.w=w'∧bA c' H'∧Ext c c'∧aK c' x v∧R x H')
def aY(P:Program)(f:FuncId)(args:List I)(H:ab)(x:I):Prop:=c5 P f args H (fun x' H'=>x'=x∧H'=H)
theorem c5.mono{P:Program}{f:FuncId}{args:List I}{H:ab}{R R':I->ab->Prop}(h:c5 P f args H R)(ax:∀x H',R x H'->R' x H'):c5 P f args H R':=
 fun c vs hs aD=>(h c vs hs aD).mono fun _ _ ⟨c',x,v,H',ar,au,bd,bE,cE,h8⟩=>⟨c',x,v,H',ar,au,bd,bE,cE,ax _ _ h8⟩
theorem Hx{P:Program}{N:Nat}{code:Code}{Q Qq:dU}{α:a5}{H:ab}(h:di P N code Q α H)(aS:∀e α H,Q e α H->Qq e α H):di P N code Qq α H:=
 fun r c a ax hs aD=>wpIn_mono (h r c a ax hs aD) fun _ _ _ ⟨c',c1,H',ar,au,bd,bE,cE⟩=>⟨c',c1,H',ar,au,bd,bE,aS _ _ _ cE⟩
theorem Kw{P:Program}{N:Nat}{code:Code}{Q:dU}{α β:a5}{H:ab}(h:di P N code Q β H)(aa:∀t,look β t=.top∨look β t=look α t):di P N code Q α H:=
 fun r c a ax hs aD=>h r c a ax hs (aD.weaken aa)
theorem SR{P:Program}{N:Nat}{Q:dU}{α:a5}{H:ab}(h:Q .normal α H):di P N .skip Q α H:=
 fun _ c _ _ hs aD=>wpIn_skip ⟨c,α,H,rfl,hs,Ext.refl c,aD,h⟩
theorem aFj{P:Program}{N:Nat}{Q:dU}{α:a5}{H:ab}(h:Q .ret α H):di P N .ret Q α H:=
 fun _ c _ _ hs aD=>wpIn_ret ⟨c,α,H,rfl,hs,Ext.refl c,aD,h⟩
theorem aC9{P:Program}{N id:Nat}{Q:dU}{α:a5}{H:ab}(h:Q (.exit id) α H):di P N (.exit id) Q α H:=
 fun _ c _ _ hs aD=>wpIn_exit ⟨c,α,H,rfl,hs,Ext.refl c,aD,h⟩
theorem aA3{P:Program}{N l:Nat}{Q:dU}{α:a5}{H:ab}(h:Q .normal α H):di P N (.label l) Q α H:=
 fun _ c _ _ hs aD=>wpIn_label ⟨c,α,H,rfl,hs,Ext.refl c,aD,h⟩
def zh(P:Program)(N:Nat)(y:Code)(Q:dU):dU
 |.normal,α,H=>di P N y Q α H
 |e,α,H=>Q e α H
theorem w6{P:Program}{N:Nat}{x y:Code}{Q:dU}{α:a5}{H:ab}(h:di P N x (zh P N y Q) α H):di P N (.seq x y) Q α H:=by
 intro r c a ax hs aD;have ax:=Nw ax;refine wpIn_seq (wpIn_mono (h r c a ax.1 hs aD) fun e gx w' ⟨c',c1,H',ar,au,bd,bE,cE⟩=>?_)
 cases e with
 |normal=>
  subst ar;exact wpIn_mono (cE r c' gx ax.2 au bE) fun e aMv aTa ⟨tg,aMs,D4,aZ,a7,ch,fc,tm⟩=>⟨tg,aMs,D4,aZ,a7,bd.trans ch,fc,tm⟩
 |exit id=>exact⟨c',c1,H',ar,au,bd,bE,cE⟩
 |goto l=>exact⟨c',c1,H',ar,au,bd,bE,cE⟩
 |ret=>exact⟨c',c1,H',ar,au,bd,bE,cE⟩
 |panic EK=>exact⟨c',c1,H',ar,au,bd,bE,cE⟩
 |outgrown=>exact⟨c',c1,H',ar,au,bd,bE,cE⟩
def w7(id:Nat)(Q:dU):dU
 |.exit Aq,α,H=>bif Aq==id then Q .normal α H else Q (.exit Aq) α H
 |e,α,H=>Q e α H
theorem Lx{P:Program}{N id:Nat}{x:Code}{Q:dU}{α:a5}{H:ab}(h:di P N x (w7 id Q) α H):di P N (.block id x) Q α H:=by
 intro r c a ax hs aD;refine wpIn_block (wpIn_mono (h r c a ax hs aD) fun e gx w' ⟨c',c1,H',ar,au,bd,bE,cE⟩=>?_)
 cases e with
 |exit Aq=>
  grind [w7,Exit.inBlock]
 |normal=>exact⟨c',c1,H',ar,au,bd,bE,cE⟩
 |goto l=>exact⟨c',c1,H',ar,au,bd,bE,cE⟩
 |ret=>exact⟨c',c1,H',ar,au,bd,bE,cE⟩
 |panic EK=>exact⟨c',c1,H',ar,au,bd,bE,cE⟩
 |outgrown=>exact⟨c',c1,H',ar,au,bd,bE,cE⟩
def Ug{ι:Type}(F:ι->a5)(hH:ι->ab)(pre:ι->Prop)(m:ι->Nat)(x:ι)(Q:dU):dU
 |.normal,α,H=>∃y,pre y∧m y<m x∧(∀t,look (F y) t=.top∨look (F y) t=look α t)∧H=hH y
 |e,α,H=>Q e α H
theorem YJ{F:Fence}{n:Nat}{P:Program}{Q:Exit->Act->World->Prop}{a:Act}{w:World}{body:Code}{ι:Type}(Hu:ι->Act->World->Prop)(m:ι->Nat)(rQ:ι)(aKL:Hu rQ a w)
  (round:∀x a w,Hu x a w->body.wpIn F n P (Exit.then (fun gx w'=>∃y,Hu y gx w'∧m y<m x) Q) a w):(Code.loop body).wpIn F n P Q a w:=by
 intro b k cs OE aa ax;have key:∀n x a w,m x=n->Hu x a w->
   ∃e gx w',Q e gx w'∧ArrivesIn (Machine.fenced P F) P (lone (b.atR a (.code body::.inLoop body::k)) cs w) b k cs e gx w':=by
  intro n;induction n using Nat.strongRecOn with
  |_ n ay=>
   intro x a w ag NQ;obtain⟨e,oP,qc,aS,pR⟩:=round x a w NQ b (.inLoop body::k) cs OE aa ax;cases e with
   |normal=>
    obtain⟨y,aIQ,ak⟩:=aS;obtain⟨aIm,UW,XN,aKl,aI5⟩:=ay (m y) (ag▸ak) y oP qc rfl aIQ;exact⟨aIm,UW,XN,aKl,.of_steps (StepsIn.trans pR (.one (fenced_calm aa ax rfl) stepR_inLoop)) aI5⟩
   |exit id=>exact⟨_,oP,qc,aS,.pass (x:=.inLoop body) rfl (fun _ _=>.inl (by simp)) pR⟩
   |goto l=>exact⟨_,oP,qc,aS,.pass (x:=.inLoop body) rfl (fun _ _=>.inl (by simp)) pR⟩
   |ret=>exact⟨_,oP,qc,aS,.pass (x:=.inLoop body) rfl (fun _ _=>.inl (by simp)) pR⟩
   |panic EK=>exact⟨_,oP,qc,aS,.pass (x:=.inLoop body) rfl (fun _ _=>.inl (by simp)) pR⟩
   |outgrown=>exact⟨_,oP,qc,aS,.pass (x:=.inLoop body) rfl (fun _ _=>.inl (by simp)) pR⟩
 obtain⟨e,gx,w',aS,pR⟩:=key _ rQ a w rfl aKL;exact⟨e,gx,w',aS,.of_steps (.one (fenced_calm aa ax rfl) stepR_loop) pR⟩
theorem aDa{P:Program}{N:Nat}{body:Code}{Q:dU}{α:a5}{H:ab}{ι:Type}(F:ι->a5)(hH:ι->ab)(pre:ι->Prop)(m:ι->Nat)(rQ:ι)(aC:pre rQ)
  (lA:∀t,look (F rQ) t=.top∨look (F rQ) t=look α t) (bW:H=hH rQ)
  (round:∀x,pre x->di P N body (Ug F hH pre m x Q) (F x) (hH x)):di P N (.loop body) Q α H:=by
 intro r c a ax hs aD;subst bW;refine YJ (fun x a w=>pre x∧∃c',c'.w=w∧bA c' (hH x)∧Ext c c'∧ko c' N (F x) a) m rQ ⟨aC,c,rfl,hs,Ext.refl c,aD.weaken lA⟩ ?_
 rintro x a w ⟨ae,c',rfl,ic,ho,rj⟩;refine wpIn_mono (round x ae r c' a ax ic rj) fun e gx w' ⟨tg,c1,H',ar,au,bd,bE,cE⟩=>?_
 cases e with
 |normal=>
  obtain⟨y,cK,dc,ei,oy⟩:=cE;exact⟨y,⟨cK,tg,ar,oy▸au,ho.trans bd,bE.weaken ei⟩,dc⟩
 |exit id=>exact⟨tg,c1,H',ar,au,ho.trans bd,bE,cE⟩
 |goto l=>exact⟨tg,c1,H',ar,au,ho.trans bd,bE,cE⟩
 |ret=>exact⟨tg,c1,H',ar,au,ho.trans bd,bE,cE⟩
 |panic EK=>exact⟨tg,c1,H',ar,au,ho.trans bd,bE,cE⟩
 |outgrown=>exact⟨tg,c1,H',ar,au,ho.trans bd,bE,cE⟩
def kM:Value->I
 |.int k n=>bif uG k n then .int k n else .top
 |.bool b=>.bool b
 |.string s=>bif Nat.ble s.data.toList.length 9223372036854775807 then .str s.data.toList else .top
 |.pointer none=>.hp
 |.slice none 0 0=>.sl true []
 |.map none=>.hQ
 |.nilFunc=>.en
 |.nilIface=>.nilIface
 |_=>.top
theorem Z6(c:Ctx):aK c (.sl true []) (.slice none 0 0):=
 .sl true [] none 0 0 0 (fun _ _=>undef) rfl (bk _) (fun _=>rfl) (fun h=>absurd rfl h) (by simp) (by simp) (by omega)
theorem Q5(c:Ctx)(v:Value):aK c (kM v) v:=by
 unfold kM;split
 ·rename_i k n;cases h:uG k n with
  |true=>exact .int _ _ (AZ.1 h)
  |false=>exact .top _
 ·exact .bool _
 ·rename_i s;cases h:Nat.ble s.data.toList.length 9223372036854775807 with
  |true=>simpa using aK.str (c:=c) s.data.toList (DJ h)
  |false=>exact .top _
 ·exact .hp
 ·exact Z6 c
 ·exact .hQ
 ·exact .en
 ·exact .nilIface
 ·exact .top _
def Dx:Value->I
 |.agg cs=>.agg (cs.toList.map kM)
 |.tuple vs=>bif vs.size==0 then .a0 []else .top
 |v=>kM v
theorem Lk(c:Ctx)(v:Value):aK c (Dx v) v:=by
 cases v with
 |agg cs=>
  refine .agg _ _ (by simp) fun i x v h1 h2=>?_
  simp only[nj,jC]at h1;obtain⟨u,h1,rfl⟩:=h1;rw[vD,h2]at h1;cases h1;exact Q5 c v
 |tuple vs=>
  simp only[Dx];by_cases h:vs.size=0
  ·have:(vs.size==0)=true:=by simp[h]
   rw[this];exact .a0 [] _ h (by simp)
  ·have:(vs.size==0)=false:=by simpa using h
   rw[this];exact .top _
 |_=>simp only[Dx];exact Q5 c _
def bb(α:a5):Operand->I
 |.tmp t=>look α t
 |.const v=>Dx v
 |.global _=>.top
 |.func f=>.func (.func f) [] []
theorem Tr{c:Ctx}{N:Nat}{α:a5}{a:Act}(h:ko c N α a)(x:Operand):aK c (bb α x) (a.eval x):=by
 cases x with
 |tmp t=>exact h.rep t
 |const v=>exact Lk c v
 |global g=>exact .top _
 |func f=>exact .func _ [] [] _ _ rfl rfl (by simp) (by simp)
end
section
variable {P:Program}
def pw(P:Program)(o:Oper)(ρ:Operand->I)(H:ab)(R:I->ab->Prop):Prop:=
 ∀(r:Option Nat) (c:Ctx) (a:Act) (next:Act->World->Prop) (Q:Exit->Act->World->Prop),bA c H->(∀x∈o.op.operands.toList,aK c (ρ x) (a.eval x))->
  (∀c' x v H',bA c' H'->Ext c c'->aK c' x v->R x H'->next (a.put o.dst v) c'.w)->o.wpIn (wf r) 0 P a c.w next Q
def Hv(o:Oper):Prop:=∀r ρ,o.semAt r ρ=execOp ρ o
theorem yG{r:Option Nat}{o:Oper}{a:Act}{w:World}{next:Act->World->Prop}{Q:Exit->Act->World->Prop}(hd:Hv o)(h:o.uponIn (wf r) 0 P a next Q ((execOp a.eval o).run P w)):o.wpIn (wf r) 0 P a w next Q:=
 ⟨fun _ _=>trivial,by rw[hd];exact h⟩
def n7(P:Program)(s:Sem Value)(c:Ctx)(x:I)(H':ab):Prop:=∃c' v,s.run P c.w=.ok v c'.w∧bA c' H'∧Ext c c'∧aK c' x v
theorem aK.iZ{c:Ctx}{k:IntKind}{n:Int}{v:Value}(h:aK c (.int k n) v):v=.int k n:=by cases h;rfl
theorem aK.Ar{c:Ctx}{k:IntKind}{n:Int}{v:Value}(h:aK c (.int k n) v):mn k n:=by cases h;assumption
theorem aK.AU{c:Ctx}{s:List UInt8}{v:Value}(h:aK c (.str s) v):s.length<=9223372036854775807:=by cases h;assumption
theorem aK.Kv{c:Ctx}{f:Bool}{es:List I}{v:Value}(h:aK c (.sl f es) v):es.length<=9223372036854775807:=by
 cases h with|sl _ _ _ _ _ _ _ h1 _ _ _ _ _ h2=>rw[<-h1];exact h2
theorem aK.Gh{c:Ctx}{s i v off len lc:Nat}{val:Value}(h:aK c (.osl s i v off len lc) val):lc<=9223372036854775807:=by cases h;assumption
theorem aK.ra{c:Ctx}{b:Bool}{v:Value}(h:aK c (.bool b) v):v=.bool b:=by cases h;rfl
theorem aK.nT{c:Ctx}{s:List UInt8}{v:Value}(h:aK c (.str s) v):v=.string ⟨s.toArray⟩:=by cases h;rfl
theorem aK.sd{c:Ctx}{cs:List I}{v:Value}(h:aK c (.agg cs) v):∃vs:Array Value,v=.agg vs∧vs.size=cs.length∧∀(i:Nat) (x:I) (v:Value),cs[i]?=some x->vs[i]?=some v->aK c x v:=by
 cases h with|agg _ vs hl h=>exact⟨vs,rfl,hl,h⟩
theorem aK.Xz{c:Ctx}{cs:List I}{v:Value}(h:aK c (.a0 cs) v):∃vs:Array Value,v=.tuple vs∧vs.size=cs.length∧∀(i:Nat) (x:I) (v:Value),cs[i]?=some x->vs[i]?=some v->aK c x v:=by
 cases h with|a0 _ vs hl h=>exact⟨vs,rfl,hl,h⟩
def qG(op:BinOp)(k:IntKind)(x y:Int):Int:=
 match op with
 |.and=>k.wrap (BitVec.ofInt k.bits x&&&BitVec.ofInt k.bits y).toNat
 |.or=>k.wrap (BitVec.ofInt k.bits x|||BitVec.ofInt k.bits y).toNat
 |.xor=>k.wrap (BitVec.ofInt k.bits x ^^^ BitVec.ofInt k.bits y).toNat
 |_=>k.wrap (BitVec.ofInt k.bits x&&& ~~~(BitVec.ofInt k.bits y)).toNat
structure h7 where
 v:I
 s:Prop
def bad:h7:=⟨.top,False⟩
def lv(op:BinOp)(k:IntKind)(a b:Int):h7:=
 match op with
 |.add=>⟨.int k (k.wrap (a+b)),True⟩
 |.sub=>⟨.int k (k.wrap (a-b)),True⟩
 |.mul=>⟨.int k (k.wrap (a * b)),True⟩
 |.quo=>⟨.int k (k.wrap (a.tdiv b)),b≠0⟩
 |.rem=>⟨.int k (a.tmod b),b≠0⟩
 |.and=>⟨.int k (qG .and k a b),True⟩
 |.or=>⟨.int k (qG .or k a b),True⟩
 |.xor=>⟨.int k (qG .xor k a b),True⟩
 |.andNot=>⟨.int k (qG .andNot k a b),True⟩
 |.eql=>⟨.bool (decide (a=b)),True⟩
 |.neq=>⟨.bool (!decide (a=b)),True⟩
 |.lss=>⟨.bool (decide (a<b)),True⟩
 |.leq=>⟨.bool (decide (a<=b)),True⟩
 |.gtr=>⟨.bool (decide (b<a)),True⟩
 |.geq=>⟨.bool (decide (b<=a)),True⟩
 |.shl=>⟨.int k (k.wrap (a * 2 ^ (min b.toNat k.bits))),0<=b⟩
 |.shr=>⟨.int k (a.fdiv (2 ^ (min b.toNat k.bits))),0<=b⟩
def GR(op:BinOp)(a b:List UInt8):h7:=
 match op with
 |.add=>⟨.str (a++b),a.length+b.length<=9223372036854775807⟩
 |.eql=>⟨.bool (decide (a=b)),True⟩
 |.neq=>⟨.bool (!decide (a=b)),True⟩
 |.lss=>⟨.bool (Op.bytesLess a b),True⟩
 |.leq=>⟨.bool (Op.bytesLess a b||decide (a=b)),True⟩
 |.gtr=>⟨.bool (!(Op.bytesLess a b||decide (a=b))),True⟩
 |.geq=>⟨.bool (!Op.bytesLess a b),True⟩
 |_=>bad
def apart(P:Program)(t:TypeId)(off:Nat)(cs:List I):h7:=
 match P.underlying t with
 |some (.struct _)|some (.array _ _)=>⟨.agg ((cs.drop off).take (P.cellsOf t)),True⟩
 |some _=>⟨cs.getD off .top,off<cs.length⟩
 |none=>bad
structure Qo where
 b:Bool
 s:Prop
mutual
def oN(P:Program):Nat->TypeId->I->I->Qo
 |0,_,_,_=>⟨false,False⟩
 |d+1,t,x,y=>
  match P.underlying t,x,y with
  |some .bool,.bool a,.bool b=>⟨a==b,True⟩
  |some (.int _),.int k a,.int k' b=>⟨decide (a=b),k=k'⟩
  |some .string,.str a,.str b=>⟨decide (a=b),True⟩
  |some (.struct fs),.agg xs,.agg ys=>⟨(tc P d xs ys fs.toList).b,P.stoodInHeld t=false∧(tc P d xs ys fs.toList).s⟩
  |_,_,_=>⟨false,False⟩
def tc(P:Program):Nat->List I->List I->List Field->Qo
 |_,_,_,[]=>⟨true,True⟩
 |0,_,_,_::_=>⟨false,False⟩
 |d+1,xs,ys,f::fs=>
  ⟨(oN P d f.type (apart P f.type f.offset xs).v (apart P f.type f.offset ys).v).b&&(tc P d xs ys fs).b,
    f.name≠ "_" ∧(apart P f.type f.offset xs).s∧(apart P f.type f.offset ys).s∧(oN P d f.type (apart P f.type f.offset xs).v (apart P f.type f.offset ys).v).s∧(tc P d xs ys fs).s⟩
end
theorem J7{t:TypeId}{d:TypeDesc}(h:P.underlying t=some d):∃i,P.info? t=some i∧P.cellsOf t=i.size:=by
 grind [Program.underlying,Program.cellsOf]
theorem hP{t:TypeId}{d:TypeDesc}(h:P.underlying t=some d)(w:World):(sizeOf t).run P w=.ok (P.cellsOf t) w:=by
 obtain⟨i,h1,h2⟩:=J7 h;simp[sizeOf,typeInfo,h1,h2]
def TypeDesc.isAgg:TypeDesc->Bool
 |.struct _|.array _ _=>true
 |_=>false
theorem Kx{t:TypeId}{d:TypeDesc}(h:P.underlying t=some d)(w:World):(isAgg t).run P w=.ok (TypeDesc.isAgg d) w:=by
 unfold isAgg;rw[Sem.run_bind,run_underlying h];cases d<;>rfl
theorem Yk{c:Ctx}{cs:List I}{vs:Array Value}(hl:vs.size=cs.length)(h:∀(i:Nat) (x:I) (v:Value),cs[i]?=some x->vs[i]?=some v->aK c x v)(off n:Nat):
  aK c (.agg ((cs.drop off).take n)) (.agg (vs.extract off (off+n))):=by
 refine .agg _ _ (by simp[hl];omega) fun i x v h1 h2=>?_
 grind
theorem HG{c:Ctx}{cs:List I}{vs:Array Value}(hl:vs.size=cs.length)(h:∀(i:Nat) (x:I) (v:Value),cs[i]?=some x->vs[i]?=some v->aK c x v){t:TypeId}{off:Nat}(hs:(apart P t off cs).s):
  ∃v,(∀w,(part t vs off).run P w=.ok v w)∧aK c (apart P t off cs).v v:=by
 unfold apart at *;cases hu:P.underlying t with
 |none=>simp[hu,bad]at hs
 |some d=>
  simp only[hu]at hs ⊢;by_cases aD:TypeDesc.isAgg d=true
  ·refine⟨.agg (vs.extract off (off+P.cellsOf t)),fun w=>?_,?_⟩
   ·simp[part,Kx hu,aD,hP hu]
   ·cases d<;>simp only[TypeDesc.isAgg,ht]at aD<;>exact Yk hl h off _
  ·have aD:TypeDesc.isAgg d=false:=by simpa using aD
   have ak:off<cs.length:=by cases d<;>first|exact hs|(simp[TypeDesc.isAgg]at aD)
   have aL:vs[off]?=some (vs[off]'(by omega)):=mY (by omega)
   have J:cs[off]?=some (cs[off]):=c0 ak;refine⟨vs[off]'(by omega),fun w=>?_,?_⟩
   ·simp[part,Kx hu,aD,aL]
   ·have:aK c (cs.getD off .top) (vs[off]'(by omega)):=by rw[eP,J];exact h _ _ _ J aL
    cases d<;>first|exact this|(simp[TypeDesc.isAgg]at aD)
theorem Rx(c:Ctx)(d:Nat):
  (∀(t:TypeId) (x y:I) (ck iB:Value) (D:Nat) (w:World),d<=D->(oN P d t x y).s->aK c x ck->aK c y iB->(Op.equalIn D t ck iB).run P w=.ok (oN P d t x y).b w)∧
  (∀(fs:List Field) (xs ys:List I) (ck iB:Array Value) (D:Nat) (w:World),d<=D->(tc P d xs ys fs).s->aK c (.agg xs) (.agg ck)->aK c (.agg ys) (.agg iB)->
   (Op.eqFields D ck iB fs).run P w=.ok (tc P d xs ys fs).b w):=by
 induction d with
 |zero=>
  refine⟨fun t x y ck iB D w _ hs=>by simp[oN]at hs,fun fs xs ys ck iB D w _ hs _ _=>?_⟩
  cases fs with
  |nil=>simp[Op.eqFields,tc]
  |cons f fs=>simp[tc]at hs
 |succ d ay=>
  obtain⟨tU,sD⟩:=ay;refine⟨fun t x y ck iB D w cD hs J aG=>?_,fun fs xs ys ck iB D w cD hs J aG=>?_⟩
  ·obtain⟨D,rfl⟩:∃Qm,D=Qm+1:=⟨D-1,by omega⟩
   unfold oN at hs ⊢;split at hs
   ·rename_i hu;rw[J.ra,aG.ra];exact run_equalIn_bool' w _ _ _ _ hu
   ·rename_i hu;rw[J.iZ,aG.iZ];subst hs;rw[run_equalIn_int w _ _ _ _ _ _ hu];rfl
   ·rename_i a b hu;rw[J.nT,aG.nT,run_equalIn_string w _ _ _ _ hu];simp only[ByteArray.toList_mk];congr 1;rw[qh];simp
   ·rename_i fs xs ys hu;obtain⟨av,hs⟩:=hs;obtain⟨ck,rfl,kU,gI⟩:=J.sd;obtain⟨iB,rfl,wM,CM⟩:=aG.sd;have Jk:P.fieldsOf t=fs:=by simp[Program.fieldsOf,hu]
    rw[run_equalIn_struct w D t ck iB (by rw[Jk];exact hu) av,Jk]
    exact sD fs.toList xs ys ck iB D w (by omega) hs J aG
   ·exact hs.elim
  ·cases fs with
   |nil=>simp[Op.eqFields,tc]
   |cons f fs=>
    unfold tc at hs ⊢;obtain⟨aC,h1,h2,h3,h4⟩:=hs;obtain⟨KM,aKB,kU,gI⟩:=J.sd;obtain⟨KN,aKC,wM,CM⟩:=aG.sd;cases aKB;cases aKC;obtain⟨aLq,JE,aLA⟩:=HG (P:=P) kU gI h1;obtain⟨aLr,aKh,aLB⟩:=HG (P:=P) wM CM h2;have ar:=tU f.type _ _ aLq aLr D w (by omega) h3 aLA aLB
    have au:=sD fs xs ys ck iB D w (by omega) h4 J aG
    have ag:(f.name≠ "_")=True:=by simp[aC]
    simp only[Op.eqFields,ag,dI,Sem.run_bind,JE,aKh,Result.andThen_ok,ar,Sem.run_ite,Sem.run_pure,au];cases(oN P d f.type (apart P f.type f.offset xs).v (apart P f.type f.offset ys).v).b<;>simp
def e0(P:Program)(op:BinOp)(t:TypeId)(x y:I):h7:=
 match op,x,y with
 |.shl,.int k a,.int _ b=>lv .shl k a b
 |.shr,.int k a,.int _ b=>lv .shr k a b
 |op,.int k a,.int k' b=>⟨(lv op k a b).v,k=k'∧(lv op k a b).s⟩
 |op,.str a,.str b=>GR op a b
 |.eql,.bool a,.bool b=>⟨.bool (a==b),P.underlying t=some .bool⟩
 |.neq,.bool a,.bool b=>⟨.bool (!(a==b)),P.underlying t=some .bool⟩
 |.eql,.agg xs,.agg ys=>⟨.bool (oN P 30 t (.agg xs) (.agg ys)).b,P.eqGuardType P.depth t=false∧(oN P 30 t (.agg xs) (.agg ys)).s⟩
 |.neq,.agg xs,.agg ys=>⟨.bool (!(oN P 30 t (.agg xs) (.agg ys)).b),P.eqGuardType P.depth t=false∧(oN P 30 t (.agg xs) (.agg ys)).s⟩
 |_,_,_=>bad
theorem uL(s:List UInt8):(ByteArray.mk s.toArray).size=s.length:=by simp[ByteArray.size]
theorem Z7(a b:List UInt8):(ByteArray.mk a.toArray)++(ByteArray.mk b.toArray)=ByteArray.mk (a++b).toArray:=by
 apply ByteArray.ext
 simp[ByteArray.data_append]
theorem aA4{k:IntKind}{a:Int}(b:Int)(h:mn k a):mn k (a.tmod b):=by
 refine QN h (fun aC=>⟨Int.tmod_nonneg b aC,?_⟩) (fun aC=>?_)
 ·have h1:=Int.natAbs_tmod a b;have h2:=Nat.mod_le a.natAbs b.natAbs;grind
 ·have h1:=Int.natAbs_tmod a b;have h2:=Nat.mod_le a.natAbs b.natAbs;have h3:0<=(-a).tmod b:=Int.tmod_nonneg b (by omega)
  rw[Int.neg_tmod]at h3;omega
theorem aA5{k:IntKind}{a:Int}(m:Nat)(h:mn k a):mn k (a.fdiv (2 ^ m)):=by
 have ae:(0:Int)<2 ^ m:=Int.pow_pos (by decide)
 rw[Int.fdiv_eq_ediv_of_nonneg _ (by omega)]
 refine QN h (fun aC=>⟨Int.ediv_nonneg aC (by omega),Int.ediv_le_self _ aC⟩) (fun aC=>?_)
 have h1:a / 2 ^ m<0:=Int.ediv_neg_of_neg_of_pos aC ae;have h2:a<=a / 2 ^ m:=by
  apply Int.le_ediv_of_mul_le ae
  have h3:(1:Int)<=2 ^ m:=by omega
  have:=Int.mul_le_mul_of_nonpos_left (a:=a) (by omega:a<=0) h3
  omega
 omega
theorem aFk{c:Ctx}{op:BinOp}{t:TypeId}{x y:I}{ck iB:Value}{X Y:Operand}(J:aK c x ck)(aG:aK c y iB)(hs:(e0 P op t x y).s)(w:World):
  ∃v,(do eqGuard op t X Y ck iB;binOp op t ck iB:Sem Value).run P w=.ok v w∧aK c (e0 P op t x y).v v:=by
 unfold e0 at hs ⊢;split at hs
 ·rw[J.iZ,aG.iZ];simp only[lv]at hs;refine⟨_,?_,.int _ _ (sE _ _)⟩;simp[eqGuard,binOp,Op.shift,Int.not_lt.2 hs]
 ·rw[J.iZ,aG.iZ];simp only[lv]at hs;refine⟨_,?_,.int _ _ (aA5 _ J.Ar)⟩;simp[eqGuard,binOp,Op.shift,Int.not_lt.2 hs]
 ·rename_i k a k' b h1 h2;rw[J.iZ,aG.iZ];obtain⟨rfl,hs⟩:=hs;cases op<;>simp only[lv]at hs ⊢;case shl=>simp at h1
  case shr=>simp at h2
  case add=>exact⟨_,by simp[eqGuard,binOp,Op.intArith],.int _ _ (sE _ _)⟩
  case sub=>exact⟨_,by simp[eqGuard,binOp,Op.intArith],.int _ _ (sE _ _)⟩
  case mul=>exact⟨_,by simp[eqGuard,binOp,Op.intArith],.int _ _ (sE _ _)⟩
  case quo=>exact⟨_,by simp[eqGuard,binOp,Op.intDiv,hs],.int _ _ (sE _ _)⟩
  case rem=>exact⟨_,by simp[eqGuard,binOp,Op.intDiv,hs],.int _ _ (aA4 _ J.Ar)⟩
  case and=>exact⟨_,by first|(simp[eqGuard,binOp,Op.intBits];done)|(simp[eqGuard,binOp,Op.intBits];rfl),.int _ _ (sE _ _)⟩
  case or=>exact⟨_,by first|(simp[eqGuard,binOp,Op.intBits];done)|(simp[eqGuard,binOp,Op.intBits];rfl),.int _ _ (sE _ _)⟩
  case xor=>exact⟨_,by first|(simp[eqGuard,binOp,Op.intBits];done)|(simp[eqGuard,binOp,Op.intBits];rfl),.int _ _ (sE _ _)⟩
  case andNot=>exact⟨_,by simp only[eqGuard,binOp,ne_eq,not_true_eq_false,eF,Op.intBits,Sem.run_bind];rfl,.int _ _ (sE _ _)⟩
  case eql=>exact⟨_,by first|(simp[eqGuard,binOp,Op.intCmp];done)|(simp[eqGuard,binOp,Op.intCmp];rfl),.bool _⟩
  case neq=>exact⟨_,by first|(simp[eqGuard,binOp,Op.intCmp];done)|(simp[eqGuard,binOp,Op.intCmp];rfl),.bool _⟩
  case lss=>exact⟨_,by first|(simp[eqGuard,binOp,Op.intCmp];done)|(simp[eqGuard,binOp,Op.intCmp];rfl),.bool _⟩
  case leq=>exact⟨_,by first|(simp[eqGuard,binOp,Op.intCmp];done)|(simp[eqGuard,binOp,Op.intCmp];rfl),.bool _⟩
  case gtr=>exact⟨_,by first|(simp[eqGuard,binOp,Op.intCmp];done)|(simp[eqGuard,binOp,Op.intCmp];rfl),.bool _⟩
  case geq=>exact⟨_,by first|(simp[eqGuard,binOp,Op.intCmp];done)|(simp[eqGuard,binOp,Op.intCmp];rfl),.bool _⟩
 ·rename_i a b;rw[J.nT,aG.nT];have e:(a==b)=decide (a=b):=by rw[qh];simp
  cases op<;>simp only[GR,bad]at hs ⊢;case add=>
   refine⟨_,?_,.str _ (by simpa using hs)⟩
   have hm:¬((((ByteArray.mk a.toArray).size+(ByteArray.mk b.toArray).size:Nat):Int)>IntKind.i64.max):=by
    have:IntKind.i64.max=9223372036854775807:=by decide
    rw[this,uL,uL];omega
   have ar:(binOp .add t (.string ⟨a.toArray⟩) (.string ⟨b.toArray⟩)).run P w=.ok (.string ⟨(a++b).toArray⟩) w:=by
    simp only[binOp,Op.stringOp];rw[az hm,Z7];rfl
   simp[eqGuard,ar]
  case eql=>exact⟨_,by first|(simp[eqGuard,binOp,Op.stringOp,e];done)|(simp[eqGuard,binOp,Op.stringOp,e];rfl),.bool _⟩
  case neq=>exact⟨_,by first|(simp[eqGuard,binOp,Op.stringOp,e];done)|(simp[eqGuard,binOp,Op.stringOp,e];rfl),.bool _⟩
  case lss=>exact⟨_,by first|(simp[eqGuard,binOp,Op.stringOp,e];done)|(simp[eqGuard,binOp,Op.stringOp,e];rfl),.bool _⟩
  case leq=>exact⟨_,by first|(simp[eqGuard,binOp,Op.stringOp,e];done)|(simp[eqGuard,binOp,Op.stringOp,e];rfl),.bool _⟩
  case gtr=>exact⟨_,by first|(simp[eqGuard,binOp,Op.stringOp,e];done)|(simp[eqGuard,binOp,Op.stringOp,e];rfl),.bool _⟩
  case geq=>exact⟨_,by first|(simp[eqGuard,binOp,Op.stringOp,e];done)|(simp[eqGuard,binOp,Op.stringOp,e];rfl),.bool _⟩
 ·rw[J.ra,aG.ra];exact⟨_,by first|(simp[eqGuard,binOp,Op.equal,Op.maxDepth,run_equalIn_bool' w _ _ _ _ hs];done)|(simp[eqGuard,binOp,Op.equal,Op.maxDepth,run_equalIn_bool' w _ _ _ _ hs];rfl),.bool _⟩
 ·rw[J.ra,aG.ra];refine⟨_,by first|(simp[eqGuard,binOp,Op.equal,Op.maxDepth,run_equalIn_bool' w _ _ _ _ hs];done)|(simp[eqGuard,binOp,Op.equal,Op.maxDepth,run_equalIn_bool' w _ _ _ _ hs];rfl),.bool _⟩
 ·rename_i xs ys;obtain⟨aJ,hs⟩:=hs;obtain⟨KM,rfl,_,_⟩:=J.sd;obtain⟨KN,rfl,_,_⟩:=aG.sd;refine⟨_,?_,.bool _⟩;rw[Sem.run_bind,run_eqGuard_agg w .eql t X Y KM KN aJ,Result.andThen_ok,run_eql_struct,(Rx (P:=P) c 30).1 t _ _ _ _ 10000 w (by omega) hs J aG,Result.andThen_ok]
 ·rename_i xs ys;obtain⟨aJ,hs⟩:=hs;obtain⟨KM,rfl,_,_⟩:=J.sd;obtain⟨KN,rfl,_,_⟩:=aG.sd;refine⟨_,?_,.bool _⟩;rw[Sem.run_bind,run_eqGuard_agg w .neq t X Y KM KN aJ,Result.andThen_ok,run_neq_struct,(Rx (P:=P) c 30).1 t _ _ _ _ 10000 w (by omega) hs J aG,Result.andThen_ok]
 ·exact hs.elim
end
section
variable {P:Program}
structure kK where
 v:I
 H:ab
 s:Prop
def ao(H:ab)(i:Nat):bu:=H.getD i .gone
def ai(H:ab)(i:Nat)(b:bu):ab:=H.set i b
theorem kd{H:ab}{i:Nat}{b:bu}(h:ao H i=b)(aa:b.live):H[i]?=some b:=by
 unfold ao at h;rw[eP]at h;cases hi:H[i]? with
 |none=>rw[hi]at h;subst h;exact aa.elim
 |some x=>rw[hi]at h;simp at h;rw[h]
def zi(P:Program)(t:TypeId)(cs:List I)(off:Nat):h7:=
 match P.underlying t with
 |some (.struct _)|some (.array _ _)=>⟨.agg ((cs.drop off).take (P.cellsOf t)),off+P.cellsOf t<=cs.length⟩
 |some _=>⟨cs.getD off .top,off<cs.length⟩
 |none=>bad
theorem X7{t:TypeId}{d:TypeDesc}(hu:P.underlying t=some d)(aD:TypeDesc.isAgg d=true)(w:World)(a:Addr)(f:Nat->Value)(h:∀j,j<P.cellsOf t->w.cell? (a.add j)=some (f j)):
  (loadVar t a).run P w=.ok (.agg ((List.range (P.cellsOf t)).map f).toArray) w:=by
 simp[loadVar,Kx hu,aD,hP hu,run_loadCells (P:=P) w a _ f h]
theorem X8{t:TypeId}{d:TypeDesc}(hu:P.underlying t=some d)(aD:TypeDesc.isAgg d=false)(w:World)(a:Addr)(v:Value)(h:w.cell? a=some v):
  (loadVar t a).run P w=.ok v w:=by
 simp[loadVar,Kx hu,aD,h]
theorem QO{c:Ctx}{t:TypeId}{cs:List I}{off:Nat}{a:Addr}{vs:Nat->Value}(hs:(zi P t cs off).s)
  (al:∀j,j<cs.length->c.w.cell? (a.add j)=some (vs j)) (ax:∀(j:Nat) (x:I),cs[j]?=some x->aK c x (vs j)) (aSm:a.spot=none):
  ∃v,(loadVar t (a.add off)).run P c.w=.ok v c.w∧aK c (zi P t cs off).v v:=by
 have aI4:∀m n,(a.add m).add n=a.add (m+n):=by
  grind [Addr.add,vJ]
 unfold zi at *;cases hu:P.underlying t with
 |none=>simp[hu,bad]at hs
 |some d=>
  simp only[hu]at hs ⊢;by_cases rk:TypeDesc.isAgg d=true
  ·have hle:off+P.cellsOf t<=cs.length:=by grind [TypeDesc.isAgg]
   refine⟨_,X7 hu rk c.w _ (fun j=>vs (off+j)) (fun j aw=>by rw[aI4];exact al _ (by omega)),?_⟩
   have:aK c (.agg ((cs.drop off).take (P.cellsOf t))) (.agg ((List.range (P.cellsOf t)).map fun j=>vs (off+j)).toArray):=by
    refine .agg _ _ (by simp;omega) fun i x v h1 h2=>?_
    rw[List.getElem?_take,List.getElem?_drop]at h1;split at h1
    ·rename_i ak;simp[ak]at h2;subst h2;exact ax _ _ h1
    ·cases h1
   cases d<;>first|exact this|(simp[TypeDesc.isAgg]at rk)
  ·have rk:TypeDesc.isAgg d=false:=by simpa using rk
   have ak:off<cs.length:=by cases d<;>first|exact hs|(simp[TypeDesc.isAgg]at rk)
   have J:cs[off]?=some cs[off]:=c0 ak;refine⟨_,X8 hu rk c.w _ _ (al _ ak),?_⟩;have:aK c (cs.getD off .top) (vs off):=by rw[eP,J];exact ax _ _ J
   cases d<;>first|exact this|(simp[TypeDesc.isAgg]at rk)
theorem AA{w:World}{b:Nat}{vs:Array Value}{e:TypeId}{cd:Nat×Nat}(h:w.heap[b]?=some (.cells vs e cd))(off:Nat):w.cell? ⟨b,off,none⟩=vs[off]?:=by
 simp[World.cell?,h]
theorem rR(b off n:Nat):(Addr.mk b off none).add n=⟨b,off+n,none⟩:=by
 unfold Addr.add;split
 ·rename_i h;simp[h]
 ·rfl
def xF(P:Program)(t:TypeId)(x:I)(H:ab):h7:=
 match x with
 |.cptr cs=>zi P t cs 0
 |.ref i v off=>
  match ao H i with
  |.cells bg cs=>⟨(zi P t cs off).v,v=bg∧(zi P t cs off).s⟩
  |_=>bad
 |_=>bad
theorem c8{H:ab}{i:Nat}{b:bu}(h:ao H i=b)(aa:b.live):i<H.length:=(cA.1 (kd h aa)).1
theorem bA.cells{c:Ctx}{H:ab}(h:bA c H){i bg:Nat}{cs:List I}(hi:ao H i=.cells bg cs)(hd:c.dR i=false):
  i<c.n∧c.bg i=bg∧∃vs e cd,c.w.heap[c.aE i]?=some (.cells vs e cd)∧cs.length<=vs.size∧(vs.size<=cd.1∨cd.2<=cd.1)∧∀(j:Nat) (x:I) (v:Value),cs[j]?=some x->vs[j]?=some v->aK c x v:=by
 have h1:=kd hi trivial;have h2:=h.rep i _ h1;refine⟨by rw[h.n];exact c8 hi trivial,?_⟩
 cases h2 with
 |cells _ _ vs e cd aL hd ah hl an ax=>grind
 |void _ aL hn=>rw[hd]at hn;cases hn
theorem bA.qP{c:Ctx}{H:ab}(h:bA c H){i bg:Nat}{cs:List I}(hi:ao H i=.cells bg cs):c.bg i=bg:=by
 have h2:=h.rep i _ (kd hi trivial);cases h2 with
 |cells _ _ _ _ _ aL=>exact aL
 |void _ aL=>exact aL
theorem QP{c:Ctx}{H:ab}{t:TypeId}{x:I}{ck:Value}(av:bA c H)(J:aK c x ck)(hs:(xF P t x H).s):
  ∃v,(Instr.loadAt t ck).run P c.w=.ok v c.w∧aK c (xF P t x H).v v:=by
 unfold xF at *;split at hs
 ·rename_i cs;cases J with
  |cptr _ a vs Af Ws al ax=>
   obtain⟨v,h1,h2⟩:=QO (P:=P) (c:=c) (a:=a) hs al ax Af;refine⟨v,?_,h2⟩;have:a.add 0=a:=by simp[Addr.add]
   rw[this]at h1;simp[Instr.loadAt,Instr.sureAddr,h1]
 ·rename_i i v off;split at hs
  ·rename_i bg cs ah;obtain⟨aL,hs⟩:=hs;have hL:=av.qP ah;simp only[ah];cases J with
   |ref _ _ _ _ _ _ _ gG=>
    obtain⟨hd,gG⟩:=gG (by omega)
    obtain⟨hi,_,vs,e,cd,aa,hl,an,ax⟩:=av.cells ah hd;rw[gG];obtain⟨u,h1,h2⟩:=QO (P:=P) (c:=c) (t:=t) (cs:=cs) (off:=off) (a:=⟨c.aE i,0,none⟩) (vs:=fun j=>vs.getD j undef) hs
     (fun j aw=>by rw[rR,AA aa];simp[mY (show 0+j<vs.size by omega),show j<vs.size by omega])
     (fun j y aw=>by
      have ak:j<cs.length:=(cA.1 aw).1;refine ax j y _ aw ?_;simp[mY (show j<vs.size by omega),show j<vs.size by omega]) rfl
    refine⟨u,?_,h2⟩;rw[rR,mC]at h1;simp[Instr.loadAt,Instr.sureAddr,h1]
  ·exact hs.elim
 ·exact hs.elim
def Ctx.push(c:Ctx)(o:Obj)(v0:Nat:=0):Ctx:=
 {w:=c.w.alloc o,n:=c.n+1,aE:=fun i=>if i=c.n then c.w.heap.size else c.aE i,bg:=fun i=>if i=c.n then v0 else c.bg i,dR:=fun i=>if i=c.n then false else c.dR i,jy:=c.jy,base:=c.base}
theorem uP{w:World}{o:Obj}{b:Nat}(h:b<w.heap.size):(w.alloc o).heap[b]?=w.heap[b]?:=by
 show(w.heap.push o)[b]?=_;rw[Array.getElem?_push,az (by omega)]
theorem pg(w:World)(o:Obj):(w.alloc o).heap[w.heap.size]?=some o:=by
 show(w.heap.push o)[w.heap.size]?=_;simp
theorem Ext.push{c:Ctx}{H:ab}(av:bA c H)(o:Obj)(v0:Nat:=0):Ext c (c.push o v0) where
 n:=pq _
 size:=by simp[Ctx.push]
 st:=fun b aa=>⟨aa,uP (av.st b aa).1⟩
 bg:=fun i hi=>by grind [Ctx.push]
 aE:=fun i hi _=>by
  refine⟨by simp[Ctx.push,show ¬i=c.n by omega],by simp[Ctx.push,show ¬i=c.n by omega],fun hd=>?_⟩
  unfold bsize Ctx.push;simp only;rw[uP (av.lt i hi hd)]
 os:=rfl
 tape:=rfl
 output:=rfl
 base:=rfl
theorem kp.tZ{c c':Ctx}{i:Nat}{B:bu}(J:Bl c c')(hi:i<c.n)(aL:∀i,i<c.n->c.bg i=0->c'.bg i=0)(wL:c'.bg i=c.bg i)(ah:c.dR i=false->c'.w.heap[c.aE i]?=c.w.heap[c.aE i]?)(h:kp c i B):kp c' i B:=by
 obtain⟨ar,au, -⟩:=J.aE i hi wL;cases h with
 |cells bg cs vs e cd aC hd h1 h2 h3 h4=>exact .cells bg cs vs e cd (wL.trans aC) (au.trans hd) (by rw[ar];exact(ah hd).trans h1) h2 h3 fun j x v p q=>(h4 j x v p q).tZ J
 |void bg aC hd=>exact .void bg (wL.trans aC) (au.trans hd)
 |map es clock db aC hd h1 h2 h3=>exact .map es clock db (wL.trans aC) (au.trans hd) (by rw[ar];exact(ah hd).trans h1) h2 fun j p e q r=>⟨(h3 j p e q r).1.tZ J,(h3 j p e q r).2.1.tZ J,(h3 j p e q r).2.2⟩
 |h0 m since seen kl aC hd h1 h2 h3 h4=>
  obtain⟨l1,k0, -⟩:=J.aE m h1 (by rw[aL m h1 h2,h2])
  exact .h0 m since seen kl (wL.trans aC) (au.trans hd) (vH h1 J.n) (aL m h1 h2) (k0.trans h3) (by rw[ar,l1];exact(ah hd).trans h4)
 |k8 s pos aC hd h1 pY=>exact .k8 s pos (wL.trans aC) (au.trans hd) (by rw[ar];exact(ah hd).trans h1) pY
 |loop l α N st h5 ps mE dX fn D ts aC hd hl h1 h2 h3=>exact .loop l α N st h5 ps mE dX fn D ts (wL.trans aC) (au.trans hd) (ar.trans hl) (by rw[ar];exact(ah hd).trans h1) h2 fun t=>(h3 t).tZ J
 |gone hd=>exact .gone (au.trans hd)
theorem kp.mono{c c':Ctx}{i:Nat}{B:bu}(J:Ext c c')(hi:i<c.n)(aL:∀i,i<c.n->c.bg i=0->c'.bg i=0)(wL:c'.bg i=c.bg i)(ah:c.dR i=false->c'.w.heap[c.aE i]?=c.w.heap[c.aE i]?)(h:kp c i B):kp c' i B:=
 h.tZ J.U7 hi aL wL ah
theorem bA.push{c:Ctx}{H:ab}(av:bA c H)(o:Obj){B:bu}(v0:Nat:=0)(bK:kp (c.push o v0) c.n B):bA (c.push o v0) (H++[B]) where
 n:=by simp[Ctx.push,av.n]
 lt:=fun i hi hd=>by
  simp only[Ctx.push]at hi hd ⊢;by_cases h:i=c.n
  ·simp[h]
  ·simp only[h,eF,World.size_alloc]at hd ⊢;have:=av.lt i (by omega) hd
   omega
 inj:=fun i j b cN hi aw aa fQ re fH he=>by
  have aH:i<H.length+1:=by grind
  have uX:j<H.length+1:=by simpa using(cA.1 aw).1
  have ag:=av.n;simp only[Ctx.push]at he re fH;by_cases h1:i=c.n<;>by_cases h2:j=c.n
  ·omega
  ·simp only[h1,h2,dI,eF]at he fH;have:=av.lt j (by omega) fH
   omega
  ·simp only[h1,h2,dI,eF]at he re;have:=av.lt i (by omega) re
   omega
  ·simp only[h1,h2,eF]at he re fH;rw[iC (by omega)]at hi aw
   exact av.inj i j b cN hi aw aa fQ re fH he
 st:=fun k hk=>by
  obtain⟨h1,h2⟩:=av.st k hk;refine⟨by simp[Ctx.push];omega,fun i b hi aa hd=>?_⟩
  have aH:i<H.length+1:=by simpa using(cA.1 hi).1
  have ag:=av.n;simp only[Ctx.push]at hd ⊢;by_cases h:i=c.n
  ·simp only[h,dI];omega
  ·simp only[h,eF]at hd ⊢;rw[iC (by omega)]at hi
   exact h2 i b hi aa hd
 rep:=fun i b hi=>by
  have aH:i<H.length+1:=by simpa using(cA.1 hi).1
  have ag:=av.n;by_cases h:i=c.n
  ·subst h;rw[ag]at hi;simp at hi;subst hi;exact bK
  ·rw[iC (by omega)]at hi
   exact(av.rep i b hi).mono (Ext.push av o v0) (by omega) (fun j aw aL=>by simp[Ctx.push,show ¬j=c.n by omega,aL]) (by simp[Ctx.push,h]) (fun hd=>uP (av.lt i (by omega) hd))
def Ctx.bump(c:Ctx)(i:Nat)(w':World)(cN:Nat):Ctx:=
 {w:=w',n:=c.n,aE:=fun j=>if j=i then cN else c.aE j,bg:=fun j=>if j=i then c.bg i+1 else c.bg j,dR:=fun j=>if j=i then false else c.dR j,jy:=c.jy,base:=c.base}
theorem bA.II{c:Ctx}{H:ab}(av:bA c H){i:Nat}{B:bu}(hi:H[i]?=some B)(hl:B.live)(aL:c.bg i≠0)(w':World)(cN:Nat)(hsz:c.w.heap.size<=w'.heap.size)
  (nF:cN>=c.w.heap.size∨(cN=c.aE i∧c.dR i=false)) (kB:∀b,b<c.w.heap.size->b≠cN->w'.heap[b]?=c.w.heap[b]?) (yk:w'.os=c.w.os) (FO:w'.tape=c.w.tape) (Ad:w'.output=c.w.output):Ext c (c.bump i w' cN):=by
 have ag:=av.n;have aP:∀k,c.jy k->k≠cN:=by
  intro k hk e;rcases nF with h|⟨h,hd⟩
  ·have:=(av.st k hk).1;omega
  ·exact(av.st k hk).2 i B hi hl hd (by rw[<-h,<-e])
 refine⟨bk _,hsz,fun b aa=>⟨aa,kB b (av.st b aa).1 (aP b aa)⟩,fun j aw=>?_,fun j aw he=>?_,yk,FO,Ad,rfl⟩
 ·grind [Ctx.bump]
 ·simp only[Ctx.bump]at he;by_cases h:j=i
  ·subst h;simp at he
  ·refine⟨by simp[Ctx.bump,h],by simp[Ctx.bump,h],fun hd=>?_⟩
   have aJE:=av.lt j aw hd;by_cases lC:c.aE j=cN
   ·rcases nF with h1|⟨h1,h2⟩
    ·omega
    · -- another block at the same place: then it is not live, or it is i
      cases NP:H[j]? with
      |none=>rw[List.getElem?_eq_none_iff]at NP;omega
      |some xv=>
       by_cases rl:xv.live
       ·exact absurd (av.inj j i xv B NP hi rl hl hd h2 (by rw[lC,h1])) h
       ·have:=av.rep j xv NP;cases this with
        |gone hn=>rw[hd]at hn;cases hn
        |_=>exact absurd trivial rl
   ·simp only[bsize,Ctx.bump];rw[kB _ aJE lC]
theorem bA.bump{c:Ctx}{H:ab}(av:bA c H){i:Nat}{B B':bu}(hi:H[i]?=some B)(hl:B.live)(aL:c.bg i≠0)(w':World)(cN:Nat)(hsz:c.w.heap.size<=w'.heap.size)(fQ:cN<w'.heap.size)
  (nF:cN>=c.w.heap.size∨(cN=c.aE i∧c.dR i=false)) (kB:∀b,b<c.w.heap.size->b≠cN->w'.heap[b]?=c.w.heap[b]?) (yk:w'.os=c.w.os) (FO:w'.tape=c.w.tape) (Ad:w'.output=c.w.output)
  (bK:kp (c.bump i w' cN) i B'):Ext c (c.bump i w' cN)∧bA (c.bump i w' cN) (ai H i B'):=by
 have ak:i<H.length:=(cA.1 hi).1;have ag:=av.n;have aP:∀k,c.jy k->k≠cN:=by
  intro k hk e;rcases nF with h|⟨h,hd⟩
  ·have:=(av.st k hk).1;omega
  ·exact(av.st k hk).2 i B hi hl hd (by rw[<-h,<-e])
 have J:=av.II hi hl aL w' cN hsz nF kB yk FO Ad;refine⟨J,?_⟩;have Oa:∀j xv,j≠i->H[j]?=some xv->xv.live->c.dR j=false->c.aE j≠cN:=by
  intro j xv hW aw rl hd e;have yd:j<c.n:=by rw[ag];exact(cA.1 aw).1
  rcases nF with h1|⟨h1,h2⟩
  ·have:=av.lt j yd hd;omega
  ·exact hW (av.inj j i xv B aw hi rl hl hd h2 (by rw[e,h1]))
 refine⟨by simp[ai,Ctx.bump,ag],fun j aw m5=>?_,fun j k b zz aw hk aa VF fH g1 he=>?_,fun k hk=>?_,fun j b aw=>?_⟩
 ·simp only[Ctx.bump]at aw m5 ⊢;by_cases h:j=i
  ·simp only[h,dI];exact fQ
  ·simp only[h,eF]at m5 ⊢;have:=av.lt j aw m5;omega
 ·simp only[Ctx.bump,ai]at *;by_cases h1:j=i<;>by_cases h2:k=i
  ·omega
  ·simp only[h1,h2,dI,eF]at he g1;rw[gS (by omega)]at hk
   exact absurd he.symm (Oa k zz h2 hk VF g1)
  ·simp only[h1,h2,dI,eF]at he fH;rw[gS (by omega)]at aw
   exact absurd he (Oa j b h1 aw aa fH)
  ·simp only[h1,h2,eF]at he fH g1;rw[gS (by omega)]at aw hk
   exact av.inj j k b zz aw hk aa VF fH g1 he
 ·obtain⟨h1,h2⟩:=av.st k hk;refine⟨by simp only[Ctx.bump];omega,fun j b aw aa m5=>?_⟩
  simp only[Ctx.bump,ai]at *;by_cases h:j=i
  ·simp only[h,dI];exact fun e=>aP k hk e.symm
  ·simp only[h,eF]at m5 ⊢;rw[gS (by omega)]at aw
   exact h2 j b aw aa m5
 ·by_cases h:j=i
  ·subst h;simp[ai,ak]at aw;subst aw;exact bK
  ·simp only[ai]at aw;rw[gS (by omega)]at aw
   have h1:=av.rep j b aw;have yd:j<c.n:=by rw[ag];exact(cA.1 aw).1
   refine h1.mono J yd (fun k _ j1=>?_) (by simp[Ctx.bump,h]) (fun m5=>?_)
   ·simp only[Ctx.bump];have:k≠i:=fun e=>aL (e▸j1)
    simp[this,j1]
   ·by_cases rl:b.live
    ·exact kB _ (av.lt j yd m5) (Oa j b h aw rl m5)
    ·cases h1 with
     |gone hn=>rw[m5]at hn;cases hn
     |_=>exact absurd trivial rl
theorem bA.update{c:Ctx}{H:ab}(av:bA c H){i:Nat}{B B':bu}(hi:H[i]?=some B)(hl:B.live)(hd:c.dR i=false)(w':World)(hsz:w'.heap.size=c.w.heap.size)
  (kB:∀b,b≠c.aE i->w'.heap[b]?=c.w.heap[b]?) (qq:bsize w' (c.aE i)=bsize c.w (c.aE i)) (yk:w'.os=c.w.os) (FO:w'.tape=c.w.tape) (Ad:w'.output=c.w.output)
  (bK:kp {c with w:=w'} i B'):Ext c {c with w:=w'}∧bA {c with w:=w'} (ai H i B'):=by
 have ak:i<H.length:=(cA.1 hi).1;have J:Ext c {c with w:=w'}:=by
  refine⟨bk _,by simp[hsz],fun b aa=>⟨aa,kB b fun e=>(av.st b aa).2 i B hi hl hd e.symm⟩,fun _ _=>bk _,fun j aw _=>⟨rfl,rfl,fun _=>?_⟩,yk,FO,Ad,rfl⟩
  by_cases h:c.aE j=c.aE i
  ·simp only[h];exact qq
  ·simp only[bsize];rw[kB _ h]
 refine⟨J,?_⟩;refine⟨by simp[ai,av.n],fun j aw m5=>by simpa[hsz]using av.lt j aw m5,fun j k b cN aw hk aa fQ fH g1 he=>?_,fun k hk=>?_,fun j b aw=>?_⟩
 ·by_cases h1:j=i
  ·by_cases h2:k=i
   ·omega
   ·subst h1;simp only[ai]at hk;rw[gS (by omega)]at hk
    exact av.inj j k B cN hi hk hl fQ fH g1 he
  ·simp only[ai]at aw hk;rw[gS (by omega)]at aw
   by_cases h2:k=i
   ·subst h2;exact av.inj j k b B aw hi aa hl fH g1 he
   ·rw[gS (by omega)]at hk
    exact av.inj j k b cN aw hk aa fQ fH g1 he
 ·obtain⟨h1,h2⟩:=av.st k hk;refine⟨by simpa[hsz]using h1,fun j b aw aa m5=>?_⟩
  by_cases h:j=i
  ·subst h;exact h2 j B hi hl m5
  ·simp only[ai]at aw;rw[gS (by omega)]at aw
   exact h2 j b aw aa m5
 ·by_cases h:j=i
  ·subst h;simp[ai,ak]at aw;subst aw;exact bK
  ·simp only[ai]at aw;rw[gS (by omega)]at aw
   have h1:=av.rep j b aw;have yd:j<c.n:=by rw[av.n];exact(cA.1 aw).1
   by_cases rl:b.live
   ·exact h1.mono J yd (fun _ _ aL=>aL) rfl (fun m5=>kB _ fun e=>h (av.inj j i b B aw hi rl hl m5 hd e))
   ·cases h1 with
    |gone hd=>exact .gone hd
    |_=>exact absurd trivial rl
def I.one:I->Bool
 |.agg _|.a0 _|.opt _ _|.top=>false
 |_=>true
theorem aK.one{c:Ctx}{x:I}{v:Value}(h:aK c x v)(aN:x.one=true):v.oneCell'=true:=by
 cases h<;>first|rfl|assumption|(simp[I.one]at aN)
theorem aH2{v:Value}(h:v.oneCell'=true):v.cells= #[v]:=by
 cases v<;>first|rfl|(simp[Value.oneCell']at h)
def I.known:I->Bool
 |.agg _=>true
 |x=>x.one
theorem aK.cells{c:Ctx}{x:I}{v:Value}(h:aK c x v)(hk:x.known=true):
  v.cells.size=x.cells.length∧∀(i:Nat) (y:I) (u:Value),x.cells[i]?=some y->v.cells[i]?=some u->aK c y u:=by
 cases x with
 |agg cs=>
  obtain⟨vs,rfl,h1,h2⟩:=h.sd;exact⟨h1,h2⟩
 |a0 _=>simp[I.known,I.one]at hk
 |opt _ _=>simp[I.known,I.one]at hk
 |top=>simp[I.known,I.one]at hk
 |_=>
  have aN:=h.one rfl;rw[aH2 aN];refine⟨rfl,fun i y u h1 h2=>?_⟩
  cases i with
  |zero=>simp[I.cells]at h1 h2;subst h1;subst h2;exact h
  |succ i=>simp[I.cells]at h1
def dw(cs:List I)(off:Nat)(xs:List I):List I:=cs.take off++xs++cs.drop (off+xs.length)
def my(vs:Array Value)(off:Nat):List Value->Array Value
 |[]=>vs
 |x::xs=>my (vs.setIfInBounds off x) (off+1) xs
theorem AT(vs:Array Value)(off:Nat)(xs:List Value):(my vs off xs).size=vs.size:=by
 induction xs generalizing vs off with
 |nil=>rfl
 |cons x xs ay=>simp[my,ay]
theorem Vd(vs:Array Value)(off:Nat)(xs:List Value)(h:off+xs.length<=vs.size)(j:Nat):
  (my vs off xs)[j]?=if off<=j∧j<off+xs.length then xs[j-off]? else vs[j]?:=by
 induction xs generalizing vs off with
 |nil=>simp[my];omega
 |cons x xs ay=>
  simp only[cm]at h;rw[my,ay _ _ (by simp;omega),Array.getElem?_setIfInBounds]
  grind
theorem IY(vs:Array Value)(off:Nat)(xs:List Value)(n:Nat)(ag:xs.length=n)(h:off+n<=vs.size)(j:Nat):
  (my vs off xs)[j]?=if off<=j∧j<off+n then xs[j-off]? else vs[j]?:=by
 subst ag;exact Vd vs off xs h j
def World.jS(w:World)(b:Nat)(vs:Array Value)(e:TypeId)(cd:Nat×Nat):World:={w with heap:=w.heap.setIfInBounds b (.cells vs e cd)}
theorem Fi{w:World}{b:Nat}{vs:Array Value}{e:TypeId}{cd:Nat×Nat}(h:b<w.heap.size):(World.jS w b vs e cd).heap[b]?=some (.cells vs e cd):=by
 simp[World.jS,h]
theorem Fh{w:World}{b k:Nat}{vs:Array Value}{e:TypeId}{cd:Nat×Nat}(h:k≠b):(World.jS w b vs e cd).heap[k]?=w.heap[k]?:=by
 simp[World.jS,Array.getElem?_setIfInBounds_ne (kn h)]
theorem aLK{w:World}{b off:Nat}{vs:Array Value}{e:TypeId}{cd:Nat×Nat}(h:w.heap[b]?=some (.cells vs e cd))(v:Value):
  w.setCell ⟨b,off,none⟩ v=World.jS w b (vs.setIfInBounds off v) e cd:=by
 obtain⟨ak,he⟩:=qg.1 h;unfold World.setCell World.jS;congr 1;grind
theorem aLn{w:World}{b:Nat}{vs:Array Value}{e:TypeId}{cd:Nat×Nat}(h:w.heap[b]?=some (.cells vs e cd)):World.jS w b vs e cd=w:=by
 obtain⟨ak,he⟩:=qg.1 h;have:w.heap.setIfInBounds b (.cells vs e cd)=w.heap:=by
  grind
 unfold World.jS;rw[this]
theorem aLm{w:World}{b:Nat}{vs us:Array Value}{e:TypeId}{cd:Nat×Nat}:World.jS (World.jS w b vs e cd) b us e cd=World.jS w b us e cd:=by
 unfold World.jS;simp
theorem Xo{w:World}{b off:Nat}{vs:Array Value}{e:TypeId}{cd:Nat×Nat}(xs:List Value)(aa:w.heap[b]?=some (.cells vs e cd))(hle:off+xs.length<=vs.size)(an:vs.size<=cd.1∨cd.2<=cd.1)
  (aN:∀x∈xs,x.oneCell'=true):(storeCells ⟨b,off,none⟩ xs).run P w=.ok () (World.jS w b (my vs off xs) e cd):=by
 have key:∀(xs:List Value) (i:Nat) (w:World) (vs:Array Value),w.heap[b]?=some (.cells vs e cd)->off+i+xs.length<=vs.size->(vs.size<=cd.1∨cd.2<=cd.1)->(∀x∈xs,x.oneCell'=true)->
   (storeCells ⟨b,off,none⟩ xs i).run P w=.ok () (World.jS w b (my vs (off+i) xs) e cd):=by
  intro xs;induction xs with
  |nil=>
   intro i w vs aa _ _ _;simp only[storeCells,Sem.run_pure,my];rw[aLn aa]
  |cons x xs ay=>
   intro i w vs aa hle an aN;simp only[cm]at hle;obtain⟨ak,he⟩:=qg.1 aa;have pT:w.cell? ⟨b,off+i,none⟩=some (vs[off+i]'(by omega)):=by rw[AA aa];grind
   have lY:w.frozen? ⟨b,off+i,none⟩=false:=by
    simp only[World.frozen?,aa];by_cases h1:cd.1<=off+i<;>by_cases h2:off+i<cd.2<;>simp[h1,h2];omega
   have h1:(store (Addr.mk b off none|>.add i) x).run P w=.ok () (World.jS w b (vs.setIfInBounds (off+i) x) e cd):=by
    rw[run_store P w _ x .plain (aN x (by simp)),rR,pT]
    simp only[lY,ht,eF];rw[aLK aa]
   simp only[storeCells,Sem.run_bind,h1,Result.andThen_ok];rw[ay (i+1) _ (vs.setIfInBounds (off+i) x) (Fi ak) (by simp;omega) (by simpa using an) (fun y aG=>aN y (by simp[aG])),aLm]
   rfl
 simp_all
def zn(P:Program)(t:TypeId)(x y:I)(H:ab):kK:=
 match x with
 |.ref i v off=>
  match ao H i with
  |.cells bg cs=>⟨.top,ai H i (.cells bg (dw cs off y.cells)),v=bg∧off+y.cells.length<=cs.length∧(P.underlying t).isSome=true∧P.cellsOf t=y.cells.length∧y.known=true∧y.cells.all I.one=true⟩
  |_=>⟨.top,H,False⟩
 |_=>⟨.top,H,False⟩
theorem Eh{cs:List I}{off:Nat}{xs:List I}(h:off+xs.length<=cs.length):(dw cs off xs).length=cs.length:=by
 simp[dw];omega
theorem H3{cs:List I}{off:Nat}{xs:List I}(h:off+xs.length<=cs.length)(j:Nat):
  (dw cs off xs)[j]?=if off<=j∧j<off+xs.length then xs[j-off]? else cs[j]?:=by
 unfold dw;by_cases h1:j<off
 ·grind []
 grind
theorem bA.jS{c:Ctx}{H:ab}(av:bA c H){i bg off:Nat}{cs:List I}(hi:ao H i=.cells bg cs)(hd:c.dR i=false){ys:List I}{us:List Value}(hle:off+ys.length<=cs.length)(JK:us.length=ys.length)
  (ax:∀(k:Nat) (y:I) (u:Value),ys[k]?=some y->us[k]?=some u->aK c y u) (aN:∀u∈us,u.oneCell'=true):
  ∃w',(storeCells ⟨c.aE i,off,none⟩ us).run P c.w=.ok () w'∧Ext c {c with w:=w'}∧bA {c with w:=w'} (ai H i (.cells bg (dw cs off ys))):=by
 obtain⟨bS,hL,vs,e,cd,aa,hl,an,u3⟩:=av.cells hi hd;obtain⟨ak,he⟩:=qg.1 aa;have iV:=Xo (P:=P) (off:=off) us aa (by omega) an aN
 refine⟨_,iV,?_⟩;have qq:bsize (World.jS c.w (c.aE i) (my vs off us) e cd) (c.aE i)=bsize c.w (c.aE i):=by
  simp[bsize,Fi ak,aa,AT]
 have J:Ext c {c with w:=World.jS c.w (c.aE i) (my vs off us) e cd}:=by
  refine⟨bk _,by simp[World.jS],fun b fQ=>⟨fQ,Fh fun e=>(av.st b fQ).2 i _ (kd hi trivial) trivial hd e.symm⟩,fun _ _=>bk _,fun j aw _=>⟨rfl,rfl,fun _=>?_⟩,rfl,rfl,rfl,rfl⟩
  by_cases h:c.aE j=c.aE i
  ·simp only[h];exact qq
  ·simp only[bsize];rw[Fh h]
 refine av.update (kd hi trivial) trivial hd _ (by simp[World.jS]) (fun b fQ=>Fh fQ) qq rfl rfl rfl ?_
 refine .cells _ _ (my vs off us) e cd hL hd (Fi ak) (by grind [Eh,AT]) (by rw[AT];exact an) fun j x v h1 h2=>?_
 rw[H3 hle]at h1;rw[Vd _ _ _ (by omega),JK]at h2
 refine aK.mono J ?_;split at h1
 ·rename_i al;simp only[al,and_self,dI]at h2;exact ax _ _ _ h1 h2
 ·rename_i al;simp only[al,eF]at h2;exact u3 j x v h1 h2
theorem aDb{c:Ctx}{H:ab}{t:TypeId}{x y:I}{ck iB:Value}(av:bA c H)(J:aK c x ck)(aG:aK c y iB)(hs:(zn P t x y H).s):
  ∃w',(Instr.storeAt t ck iB).run P c.w=.ok () w'∧Ext c {c with w:=w'}∧bA {c with w:=w'} (zn P t x y H).H:=by
 unfold zn at *;split at hs
 ·rename_i i v off;split at hs
  ·rename_i bg cs ah;obtain⟨aL,hle,hu,hsz,hk,aN⟩:=hs;obtain⟨d,hu⟩:=Option.isSome_iff_exists.1 hu;have hL:=av.qP ah;simp only[ah];cases J with
   |ref _ _ _ _ _ _ _ gG=>
    obtain⟨hd,gG⟩:=gG (by omega)
    rw[gG];obtain⟨h1,h2⟩:=aG.cells hk;have qv:∀u∈iB.cells.toList,u.oneCell'=true:=by
     intro u kC;obtain⟨k,hX,eb⟩:=s5 kC;simp only[Array.length_toList]at hX;have wM:y.cells[k]?=some (y.cells[k]'(by omega)):=c0 (by omega)
     have:=h2 k _ u wM (by rw[<-eb];simp)
     exact this.one (gT.1 aN _ (hv _))
    obtain⟨w',iV,h3,h4⟩:=av.jS (P:=P) ah hd (off:=off) (ys:=y.cells) (us:=iB.cells.toList) hle (by simpa using h1) (fun k z u p q=>h2 k z u p (by simpa using q)) qv
    refine⟨w',?_,h3,h4⟩;simp[Instr.storeAt,Instr.sureAddr,storeVar,hP hu,hsz,h1,iV]
  ·exact hs.elim
 ·exact hs.elim
end
section
variable {P:Program}
def B2(x:I)(H:ab):kK:=⟨.ref H.length 0 0,H++[.cells 0 x.cells],x.known=true⟩
theorem aLl{c:Ctx}(o:Obj):aK (c.push o) (.ref c.n 0 0) (.pointer (some ⟨c.w.heap.size,0,none⟩)):=
 .ref _ _ _ _ (by simp[Ctx.push]) (by simp) rfl (fun _=>by simp[Ctx.push])
theorem Uv{c:Ctx}{H:ab}{t:TypeId}{x:I}{v:Value}(av:bA c H)(J:aK c x v)(hs:(B2 x H).s):
  n7 P (Instr.box t v) c (B2 x H).v (B2 x H).H:=by
 refine⟨c.push (.cells v.cells t),.pointer (some ⟨c.w.heap.size,0,none⟩),?_,?_,Ext.push av _,?_⟩
 ·simp[Instr.box,newVar,newRow,Ctx.push]
 ·refine av.push _ 0 ?_;obtain⟨h1,h2⟩:=J.cells hs;refine .cells _ _ v.cells t (0,0) (by simp[Ctx.push]) (by simp[Ctx.push]) (by grind [Ctx.push,pg]) (by omega) (.inr (bk _)) fun j y u p q=>(h2 j y u p q).mono (Ext.push av _)
 ·have:=aLl (c:=c) (.cells v.cells t);rw[av.n]at this;exact this
def eN(P:Program)(t:TypeId):I:=
 match P.info? t with
 |some i=>(match i.zero with|some z=>Dx z|none=>.top)
 |none=>.top
theorem sb{t:TypeId}(h:(eN P t).known=true)(c:Ctx):∃z,(∀w,(zeroValue t).run P w=.ok z w)∧aK c (eN P t) z:=by
 unfold eN at *;cases hi:P.info? t with
 |none=>simp[hi,I.known,I.one]at h
 |some i=>
  cases a2:i.zero with
  |none=>simp[hi,a2,I.known,I.one]at h
  |some z=>
   simp only[hi,a2];exact⟨z,fun w=>by simp[zeroValue,typeInfo,hi,a2],Lk c z⟩
def BW(P:Program)(t:TypeId)(H:ab):kK:=B2 (eN P t) H
theorem aDc{c:Ctx}{H:ab}{t:TypeId}(av:bA c H)(hs:(BW P t H).s):n7 P (Instr.alloc t true (.tuple #[])) c (BW P t H).v (BW P t H).H:=by
 obtain⟨z,h1,h2⟩:=sb (P:=P) hs c;obtain⟨c',v,k1,k2,k3,k4⟩:=Uv (P:=P) (t:=t) av h2 hs;grind [Instr.box,Sem.run_bind,Instr.alloc,Result.andThen_ok,Ctx,BW,n7]
def B3(P:Program)(d:TypeDesc)(i:Nat):Option (Nat×Nat):=
 match d with
 |.struct fs=>match fs[i]? with
  |some f=>some (f.offset,P.cellsOf f.type)
  |none=>none
 |.array _ e=>some (i * P.cellsOf e,P.cellsOf e)
 |_=>none
def zy(pl:Nat->Option (Nat×Nat)):List I->List (Nat×I)->Option (List I)
 |cs,[]=>some cs
 |cs,(i,x)::r=>
  match pl i with
  |some (off,n)=>bif (x.cells.length==n)&&Nat.ble (off+n) cs.length&&x.known then zy pl (dw cs off x.cells) r else none
  |none=>none
theorem Va(cells:Array Value)(off:Nat)(v:Array Value):
  v.zipIdx.foldl (fun cs (p:Value×Nat)=>cs.setIfInBounds (off+p.2) p.1) cells=my cells off v.toList:=by
 rw[<-Array.foldl_toList,Array.toList_zipIdx];have key:∀(l:List Value) (k:Nat) (cells:Array Value),(l.zipIdx k).foldl (fun cs (p:Value×Nat)=>cs.setIfInBounds (off+p.2) p.1) cells=my cells (off+k) l:=by
  intro l;induction l with
  |nil=>intro k cells;rfl
  |cons x xs ay=>
   intro k cells;simp only[List.zipIdx_cons,nZ,my];exact ay (k+1) _
 exact key v.toList 0 cells
theorem UU{c:Ctx}{pl:Nat->Option (Nat×Nat)}:∀(ps:List (Nat×I)) (vs:List (Nat×Value)) (cs:List I) (us:Array Value) (r:List I),vs.map (·.1)=ps.map (·.1)->
  (∀(k:Nat) (p:Nat×I) (q:Nat×Value),ps[k]?=some p->vs[k]?=some q->aK c p.2 q.2)->us.size=cs.length->
  (∀(j:Nat) (x:I) (v:Value),cs[j]?=some x->us[j]?=some v->aK c x v)->zy pl cs ps=some r->
  ∃ws,Instr.fill pl us vs=some ws∧ws.size=r.length∧r.length=cs.length∧∀(j:Nat) (x:I) (v:Value),r[j]?=some x->ws[j]?=some v->aK c x v
 |[],[],cs,us,r,_,_,hsz,ax,h=>by
  simp only[zy,yZ]at h;subst h;exact⟨us,rfl,hsz,rfl,ax⟩
 |[],_::_,_,_,_,hm,_,_,_,_=>by simp at hm
 |_::_,[],_,_,_,hm,_,_,_,_=>by simp at hm
 |(i,x)::ps,(eV,v)::vs,cs,us,r,hm,ae,hsz,ax,h=>by
  simp only[dn,List.cons.injEq]at hm;obtain⟨rfl,hm⟩:=hm;unfold zy at h;cases iU:pl eV with
  |none=>rw[iU]at h;cases h
  |some on=>
   obtain⟨off,n⟩:=on;rw[iU]at h;simp only at h;cases al:((x.cells.length==n)&&Nat.ble (off+n) cs.length&&x.known)with
   |false=>rw[al]at h;cases h
   |true=>
    rw[al,cond_true]at h;simp only[dD,qj,Nat.ble_eq]at al;obtain⟨⟨h1,h2⟩,h3⟩:=al;have aKF:aK c x v:=ae 0 _ _ rfl rfl;obtain⟨aQ,aO⟩:=aKF.cells h3;have hle:off+x.cells.length<=cs.length:=by omega
    have aJu:=UU ps vs (dw cs off x.cells) (my us off v.cells.toList) r hm (fun k p q hk fy=>ae (k+1) p q hk fy)
     (by rw[AT,Eh hle];exact hsz)
     (fun j y u aw mi=>by
      rw[H3 hle]at aw;rw[IY _ _ _ x.cells.length (by simpa using aQ) (by omega)]at mi
      split at aw
      ·rename_i hj;rw[aF hj]at mi;exact aO _ _ _ aw (by simpa using mi)
      ·rename_i hj;rw[az hj]at mi;exact ax _ _ _ aw mi) h
    obtain⟨ws,aZ,a7,ch,fc⟩:=aJu;refine⟨ws,?_,a7,by rw[ch,Eh hle],fc⟩
    unfold Instr.fill;rw[iU];have N3:¬((decide (v.cells.size≠n)||decide (off+v.cells.size>us.size))=true):=by simp;omega
    simp only[N3,eF];rw[Va];exact aZ
def BS(P:Program)(t:TypeId)(ps:List (Nat×I)):h7:=
 match P.underlying t with
 |some d=>match zy (B3 P d) (eN P t).cells ps with
  |some cs=>⟨.agg cs,(eN P t).known=true∧TypeDesc.isAgg d=true⟩
  |none=>bad
 |none=>bad
theorem aK3(fs:List Field)(w:World)(h:∀f∈fs,∃d,P.underlying f.type=some d):
  (fs.mapM (fun f=>(do pure (f.offset,<-sizeOf f.type):Sem (Nat×Nat)))).run P w=.ok (fs.map fun f=>(f.offset,P.cellsOf f.type)) w:=by
 induction fs with
 |nil=>simp
 |cons f fs ay=>
  obtain⟨d,hd⟩:=h f (by simp)
  have e:=ay (fun g aJ=>h g (by simp[aJ]))
  simp only[List.mapM_cons,Sem.run_bind,hP hd,Result.andThen_ok,Sem.run_pure,e,dn]
def UF(P:Program)(d:TypeDesc):Bool:=
 match d with
 |.struct fs=>fs.toList.all fun f=>(P.underlying f.type).isSome
 |.array _ e=>(P.underlying e).isSome
 |_=>false
theorem aDd{c:Ctx}{t:TypeId}{ps:List (Nat×I)}{vs:Array (Nat×Value)}(hm:vs.toList.map (·.1)=ps.map (·.1))
  (ae:∀(k:Nat) (p:Nat×I) (q:Nat×Value),ps[k]?=some p->vs[k]?=some q->aK c p.2 q.2) (hs:(BS P t ps).s) (an:∀d,P.underlying t=some d->UF P d=true) (w:World):
  ∃v,(Instr.build t vs).run P w=.ok v w∧aK c (BS P t ps).v v:=by
 unfold BS at *;cases hu:P.underlying t with
 |none=>simp[hu,bad]at hs
 |some d=>
  simp only[hu]at hs ⊢;cases eu:zy (B3 P d) (eN P t).cells ps with
  |none=>simp[eu,bad]at hs
  |some cs=>
   simp only[eu]at hs ⊢;obtain⟨hk,rk⟩:=hs;obtain⟨z,gr,ix⟩:=sb (P:=P) hk c;obtain⟨aQ,aO⟩:=ix.cells hk;obtain⟨ws,aZ,a7,ch,fc⟩:=UU ps vs.toList (eN P t).cells z.cells cs hm (fun k p q h1 h2=>ae k p q h1 (by simpa using h2)) aQ aO eu
   have Cv:=an d hu;refine⟨.agg ws,?_,.agg _ _ a7 fc⟩;cases d<;>simp only[TypeDesc.isAgg,ht]at rk;case struct fs=>
    have fi:∀f∈fs.toList,∃d,P.underlying f.type=some d:=fun f dF=>Option.isSome_iff_exists.1 (by simpa using gT.1 Cv f dF)
    have e:=aK3 (P:=P) fs.toList w fi;have iU:(fun x=>((fs.toList.map fun f=>(f.offset,P.cellsOf f.type)).toArray)[x]?)=B3 P (.struct fs):=by
     funext x;simp only[B3];rw[List.getElem?_toArray,nj,vD];cases fs[x]?<;>rfl
    simp only[Instr.build,Sem.run_bind,gr,Result.andThen_ok,run_underlying hu,Array.mapM_eq_mapM_toList,Sem.run_map,e];rw[iU,aZ];rfl
   case array n el=>
    obtain⟨d',hn⟩:=Option.isSome_iff_exists.1 Cv;have iU:(fun i=>some (i * P.cellsOf el,P.cellsOf el))=B3 P (.array n el):=rfl
    simp only[Instr.build,Sem.run_bind,gr,Result.andThen_ok,run_underlying hu,hP hn];rw[iU,aZ];rfl
def Bt(P:Program)(t:TypeId)(f:Nat)(x:I):h7:=
 match P.underlying t with
 |some (.struct fs)=>
  match fs[f]? with
  |some fd=>
   match x with
   |.ref i v off=>⟨.ref i v (off+fd.offset),(P.underlying fd.type).isSome=true∧P.cellsOf fd.type≠0⟩
   |.cptr cs=>⟨.cptr (cs.drop fd.offset),(P.underlying fd.type).isSome=true∧P.cellsOf fd.type≠0⟩
   |_=>bad
  |none=>bad
 |_=>bad
theorem Addr.add_add{a:Addr}(h:a.spot=none)(m n:Nat):(a.add m).add n=a.add (m+n):=by
 grind [Addr.add,vJ]
theorem Addr.Nn{a:Addr}(h:a.spot=none)(m:Nat):(a.add m).spot=none:=by
 unfold Addr.add;split
 ·exact h
 ·rfl
theorem Xj{c:Ctx}{cs:List I}{a:Addr}(h:aK c (.cptr cs) (.pointer (some a)))(n:Nat):aK c (.cptr (cs.drop n)) (.pointer (some (a.add n))):=by
 cases h with
 |cptr _ _ vs Af av al ax=>
  refine .cptr _ _ (fun j=>vs (n+j)) (Addr.Nn Af n) (by rw[Addr.B7];exact av) (fun j aw=>?_) (fun j x J=>?_)
  ·rw[Addr.add_add Af];simp at aw;exact al _ (by omega)
  grind
theorem H0{c:Ctx}{i v off:Nat}{val:Value}(h:aK c (.ref i v off) val)(aL:c.bg i=v)(n:Nat):∃a,val=.pointer (some a)∧aK c (.ref i v (off+n)) (.pointer (some (a.add n))):=by
 cases h with
 |ref _ _ _ _ hi nK aN gG=>
  obtain⟨hd,gG⟩:=gG aL;refine⟨_,gG,.ref _ _ _ _ hi nK rfl fun _=>⟨hd,?_⟩⟩
  rw[rR]
def ni(H:ab)(x:I):Prop:=
 match x with
 |.ref i v _=>match ao H i with
  |.cells bg _=>v=bg
  |_=>False
 |.osl _ i v _ _ _=>match ao H i with
  |.cells bg _=>v=bg
  |_=>False
 |_=>True
theorem Nc{c:Ctx}{H:ab}(av:bA c H){i v off:Nat}(h:ni H (.ref i v off)):c.bg i=v:=by
 unfold ni at h;simp only at h;cases ah:ao H i with
 |cells bg cs=>rw[ah]at h;simp only at h;rw[h];exact av.qP ah
 |_=>rw[ah]at h;exact h.elim
theorem v9{c:Ctx}{H:ab}(av:bA c H){s i v off len lc:Nat}(h:ni H (.osl s i v off len lc)):c.bg i=v:=by
 unfold ni at h;simp only at h;cases ah:ao H i with
 |cells bg cs=>rw[ah]at h;simp only at h;rw[h];exact av.qP ah
 |_=>rw[ah]at h;exact h.elim
theorem ZL{c:Ctx}{H:ab}{t:TypeId}{f:Nat}{x:I}{ck:Value}(av:bA c H)(J:aK c x ck)(hl:ni H x)(hs:(Bt P t f x).s)(w:World):
  ∃v,(Instr.fieldAt t ck f).run P w=.ok v w∧aK c (Bt P t f x).v v:=by
 unfold Bt at *;cases hu:P.underlying t with
 |none=>simp[hu,bad]at hs
 |some d=>
  cases d<;>simp only[hu,bad]at hs;case struct fs=>
   simp only;cases an:fs[f]? with
   |none=>simp[an]at hs
   |some fd=>
    simp only[an]at hs;cases x<;>simp only at hs;case ref i v off=>
     obtain⟨iW,aP⟩:=hs;obtain⟨d,hd⟩:=Option.isSome_iff_exists.1 iW;obtain⟨a,rfl,ax⟩:=H0 J (Nc av hl) fd.offset;exact⟨_,by simp[Instr.fieldAt,run_underlying hu,an,Instr.sureAddr,fieldPlace,hP hd,aP],ax⟩
    case cptr cs=>
     obtain⟨iW,aP⟩:=hs;obtain⟨d,hd⟩:=Option.isSome_iff_exists.1 iW;cases J with
     |cptr _ a vs h1 h2 h3 h4=>
      exact⟨_,by simp[Instr.fieldAt,run_underlying hu,an,Instr.sureAddr,fieldPlace,hP hd,aP],Xj (.cptr cs a vs h1 h2 h3 h4) _⟩
def Bu(P:Program)(t:TypeId)(x qA:I):h7:=
 match P.underlying t with
 |some (.slice e)=>
  match x,qA with
  |.sl _ es,.int _ i=>⟨.cptr (es.getD i.toNat .top).cells,0<=i∧i<es.length∧(P.underlying e).isSome=true∧P.cellsOf e=(es.getD i.toNat .top).cells.length⟩
  |.osl s j v off len _,.int _ i=>⟨.ref j v (off+i.toNat * s),0<=i∧i<len∧(P.underlying e).isSome=true∧P.cellsOf e=s∧s≠0⟩
  |_,_=>bad
 |some (.array n e)=>
  match x,qA with
  |.ref j v off,.int _ i=>⟨.ref j v (off+i.toNat * P.cellsOf e),0<=i∧i<n∧(P.underlying e).isSome=true⟩
  |.cptr cs,.int _ i=>⟨.cptr (cs.drop (i.toNat * P.cellsOf e)),0<=i∧i<n∧(P.underlying e).isSome=true⟩
  |_,_=>bad
 |_=>bad
theorem aK.pj{c:Ctx}{full:Bool}{es:List I}{v:Value}(h:aK c (.sl full es) v):∃base len cap s,∃vs:Nat->Nat->Value,v=.slice base len cap∧len=es.length∧len<=cap∧(full=true->cap=len)∧
  (es≠[]->∃a,base=some a∧a.spot=none∧c.jy a.block∧∀k j,k<es.length->j<s->c.w.cell? (a.add (k * s+j))=some (vs k j))∧(∀e∈es,e.cells.length=s)∧
  (∀(k:Nat) (e:I) (j:Nat) (x:I),es[k]?=some e->e.cells[j]?=some x->aK c x (vs k j)):=by
 cases h with
 |sl _ _ base len cap s vs h1 h2 h3 h4 cz eK _=>exact⟨base,len,cap,s,vs,rfl,h1,h2,h3,h4,cz,eK⟩
theorem aK.ph{c:Ctx}{s i v off len lc:Nat}{val:Value}(h:aK c (.osl s i v off len lc) val)(aL:c.bg i=v):
  ∃base cap,val=.slice base len cap∧len<=lc∧lc<=cap∧(c.dR i=true->len=0∧cap=0)∧(c.dR i=false->(cap=0∨base=some ⟨c.aE i,off,none⟩)∧∃m,bsize c.w (c.aE i)=some m∧off+cap * s<=m):=by
 cases h with
 |osl _ _ _ _ _ _ _ hi nK aN pU h1 h2=>
  cases hd:c.dR i with
  |true=>
   grind
  |false=>
   simp_all
theorem Iz{α:Type}(l:List α)(i:Nat)(d x:α)(h:l[i]?=some x):l.getD i d=x:=by
 rw[eP,h];rfl
theorem ZM{c:Ctx}{H:ab}{t:TypeId}{x qA:I}{ck GQ:Value}(av:bA c H)(J:aK c x ck)(hi:aK c qA GQ)(hl:ni H x)(hs:(Bu P t x qA).s)(w:World):
  ∃v,(Instr.indexAt t ck GQ).run P w=.ok v w∧aK c (Bu P t x qA).v v:=by
 unfold Bu at *;cases hu:P.underlying t with
 |none=>simp[hu,bad]at hs
 |some d=>
  cases d<;>simp only[hu,bad]at hs;case slice e=>
   simp only;cases x<;>cases qA<;>simp only at hs ⊢;case sl.int full es k i=>
    obtain⟨aC,h1,h2,h3⟩:=hs;obtain⟨d,hd⟩:=Option.isSome_iff_exists.1 h2;obtain⟨base,len,cap,s,vs,rfl,rfl,aO,bF,c9,eA,j3⟩:=J.pj;rw[hi.iZ];have ak:i.toNat<es.length:=by omega
    have aP:es≠[]:=by intro e;rw[e]at ak;simp at ak
    obtain⟨a,rfl,bZ,dO,kc⟩:=c9 aP;have ao:es[i.toNat]?=some es[i.toNat]:=c0 ak;rw[Iz _ _ _ _ ao]at h3 ⊢;have hsz:s=P.cellsOf e:=by rw[h3];exact(eA _ (hv ak)).symm
    subst hsz;refine⟨.pointer (some (a.add (i.toNat * P.cellsOf e))),?_,?_⟩
    ·simp[Instr.indexAt,asIntOf,run_underlying hu,hP hd,aC,h1]
    ·refine .cptr _ _ (fun j=>vs i.toNat j) (Addr.Nn bZ _) (by rw[Addr.B7];exact dO) (fun j aw=>?_) (fun j y aG=>j3 _ _ _ _ ao aG)
     rw[Addr.add_add bZ];exact kc _ _ ak (by omega)
   case osl.int s j v off len lc k i=>
    obtain⟨aC,h1,h2,h3,h4⟩:=hs;obtain⟨d,hd⟩:=Option.isSome_iff_exists.1 h2;have aL:=v9 av hl;obtain⟨base,cap,rfl,cK,aS0,dc,ei⟩:=J.ph aL;rw[hi.iZ];cases tP:c.dR j with
    |true=>have:=dc tP;omega
    |false=>
     obtain⟨oy,m,yH,O8⟩:=ei tP;rcases oy with oy|rfl
     ·omega
     ·refine⟨.pointer (some ⟨c.aE j,off+i.toNat * s,none⟩),?_,?_⟩
      ·simp[Instr.indexAt,asIntOf,run_underlying hu,hP hd,aC,h1,h3,rR]
      ·cases J with
       |osl _ _ _ _ _ _ _ cv nK=>exact .ref _ _ _ _ cv nK rfl fun _=>⟨tP,rfl⟩
  case array n e=>
   simp only;cases x<;>cases qA<;>simp only at hs ⊢;case ref.int j v off k i=>
    obtain⟨aC,h1,h2⟩:=hs;obtain⟨d,hd⟩:=Option.isSome_iff_exists.1 h2;obtain⟨a,rfl,ax⟩:=H0 J (Nc av hl) (i.toNat * P.cellsOf e);rw[hi.iZ];exact⟨_,by simp[Instr.indexAt,asIntOf,run_underlying hu,hP hd,aC,h1,Instr.sureAddr],ax⟩
   case cptr.int cs k i=>
    obtain⟨aC,h1,h2⟩:=hs;obtain⟨d,hd⟩:=Option.isSome_iff_exists.1 h2;rw[hi.iZ];cases J with
    |cptr _ a vs aZ a7 ch fc=>
     exact⟨_,by simp[Instr.indexAt,asIntOf,run_underlying hu,hP hd,aC,h1,Instr.sureAddr],Xj (.cptr cs a vs aZ a7 ch fc) _⟩
end
section
variable {P:Program}
def EB(P:Program)(t:TypeId)(f:Nat)(x:I):h7:=
 match P.underlying t,x with
 |some (.struct fs),.agg cs=>match fs[f]? with
  |some fd=>apart P fd.type fd.offset cs
  |none=>bad
 |_,_=>bad
theorem aDe{c:Ctx}{t:TypeId}{f:Nat}{x:I}{ck:Value}(J:aK c x ck)(hs:(EB P t f x).s)(w:World):
  ∃v,(Instr.field t ck f).run P w=.ok v w∧aK c (EB P t f x).v v:=by
 unfold EB at *;split at hs
 ·rename_i fs cs hu;cases an:fs[f]? with
  |none=>simp[an,bad]at hs
  |some fd=>
   simp only[an]at hs ⊢;obtain⟨vs,rfl,h1,h2⟩:=J.sd;obtain⟨v,aZ,a7⟩:=HG (P:=P) h1 h2 hs;exact⟨v,by simp[Instr.field,run_underlying hu,an,asAgg,aZ],a7⟩
 ·exact hs.elim
def EC(P:Program)(t:TypeId)(x qA:I):h7:=
 match P.underlying t,x,qA with
 |some .string,.str s,.int _ i=>⟨.int .u8 (s.getD i.toNat 0).toNat,0<=i∧i<s.length⟩
 |some (.array n e),.agg cs,.int _ i=>⟨(apart P e (i.toNat * P.cellsOf e) cs).v,0<=i∧i<n∧(apart P e (i.toNat * P.cellsOf e) cs).s⟩
 |_,_,_=>bad
theorem getElem?_mk(s:List UInt8)(i:Nat):(ByteArray.mk s.toArray)[i]?=s[i]?:=by
 by_cases h:i<s.length
 ·rw[ByteArray.getElem?_lt' _ _ (by simpa[ByteArray.size]using h),c0 h]
  rfl
 ·rw[ByteArray.getElem?_ge' _ _ (by simpa[ByteArray.size]using h),yW (by omega)]
theorem aDf{c:Ctx}{t:TypeId}{x qA:I}{ck GQ:Value}(J:aK c x ck)(hi:aK c qA GQ)(hs:(EC P t x qA).s)(w:World):
  ∃v,(Instr.index t ck GQ).run P w=.ok v w∧aK c (EC P t x qA).v v:=by
 unfold EC at *;split at hs
 ·rename_i s k i hu;obtain⟨aC,h1⟩:=hs;rw[J.nT,hi.iZ];have ak:i.toNat<s.length:=by omega
  have aJ:s[i.toNat]?=some s[i.toNat]:=c0 ak;rw[Iz _ _ _ _ aJ];refine⟨_,?_,.int _ _ (H2.2 ⟨by omega,by have:=s[i.toNat].toNat_lt;omega⟩)⟩
  simp[Instr.index,asIntOf,run_underlying hu,aC,getElem?_mk,aJ]
 ·rename_i n e cs k i hu;obtain⟨aC,h1,h2⟩:=hs;rw[hi.iZ];obtain⟨vs,rfl,aZ,a7⟩:=J.sd;obtain⟨v,aQ,aO⟩:=HG (P:=P) aZ a7 h2;have he:∃d,P.underlying e=some d:=by
   unfold apart at h2;cases aKy:P.underlying e with
   |none=>rw[aKy]at h2;exact h2.elim
   |some d=>exact⟨d,rfl⟩
  obtain⟨d,hd⟩:=he;exact⟨v,by simp[Instr.index,asIntOf,run_underlying hu,aC,h1,hP hd,aQ],aO⟩
 ·exact hs.elim
def B8(P:Program)(t:TypeId)(x:I)(H:ab):h7:=
 match P.underlying t,x with
 |some .string,.str s=>⟨.int .i64 s.length,True⟩
 |some (.slice _),.sl _ es=>⟨.int .i64 es.length,True⟩
 |some (.slice _),.osl s i v off len lc=>⟨.int .i64 len,ni H (.osl s i v off len lc)⟩
 |some (.array n _),_=>⟨.int .i64 n,n<=9223372036854775807⟩
 |some (.map _ _),.hQ=>⟨.int .i64 0,True⟩
 |some (.map _ _),.map i=>match ao H i with
  |.map es _=>⟨.int .i64 es.length,es.length<=9223372036854775807⟩
  |_=>bad
 |_,_=>bad
theorem Ks{w:World}{b:Nat}{o:Obj}(h:w.heap[b]?=some o)(al:∀c e f,o≠.cells c e f):(getObj b).run P w=.ok o w:=by
 unfold getObj;simp only[Sem.run,h]
theorem bA.map{c:Ctx}{H:ab}(h:bA c H){i:Nat}{es:List (I×I×Nat)}{clock:Nat}(hi:ao H i=.map es clock):
  i<c.n∧c.bg i=0∧c.dR i=false∧∃db:Array MapEntry,c.w.heap[c.aE i]?=some (.map db clock)∧db.size=es.length∧
   ∀(j:Nat) (p:I×I×Nat) (e:MapEntry),es[j]?=some p->db[j]?=some e->aK c p.1 e.key∧aK c p.2.1 e.val∧e.born=p.2.2:=by
 have h2:=h.rep i _ (kd hi trivial);cases h2 with
 |map _ _ db aL hd ah hl ax=>exact⟨by rw[h.n];exact c8 hi trivial,aL,hd,db,ah,hl,ax⟩
theorem aHV{c:Ctx}{H:ab}{t ty:TypeId}{x:I}{ck:Value}(av:bA c H)(J:aK c x ck)(hs:(B8 P t x H).s):
  ∃v,(Builtin.len_ #[t] ty #[ck]).run P c.w=.ok v c.w∧aK c (B8 P t x H).v v:=by
 unfold B8 at *;split at hs
 ·rename_i s hu;rw[J.nT];exact⟨_,by simp[Builtin.len_,run_underlying hu,goInt,uL],.int _ _ (oM.2 (by have:=J.AU;omega))⟩
 ·rename_i e full es hu;have e2:=J.Kv;obtain⟨base,len,cap,s,vs,rfl,rfl, -⟩:=J.pj;exact⟨_,by simp[Builtin.len_,run_underlying hu,goInt],.int _ _ (oM.2 (by omega))⟩
 ·rename_i e s i v off len lc hu;have e2:=J.Gh;obtain⟨base,cap,rfl,hle, -⟩:=J.ph (v9 (s:=s) (off:=off) (len:=len) (lc:=lc) av hs);exact⟨_,by simp[Builtin.len_,run_underlying hu,goInt],.int _ _ (oM.2 (by omega))⟩
 ·rename_i n e hu;exact⟨_,by simp[Builtin.len_,run_underlying hu,goInt],.int _ _ (oM.2 (by omega))⟩
 ·rename_i k e hu;cases J;exact⟨_,by simp[Builtin.len_,run_underlying hu,goInt],.int _ _ (oM.2 (by omega))⟩
 ·rename_i k e i hu;split at hs
  ·rename_i es clock ah;obtain⟨hi,aL,hd,db,aa,hl,ax⟩:=av.map ah;simp only[ah];cases J with
   |map _ _ _ _ gG=>
    rw[(gG aL).2];refine⟨_,?_,.int _ _ (oM.2 (by omega))⟩
    have aJ:=Ks (P:=P) aa (by simp)
    simp[Builtin.len_,run_underlying hu,aJ,goInt,hl]
  ·exact hs.elim
 ·exact hs.elim
def ED(P:Program)(t:TypeId)(x:I)(lo hi mx:Option I)(H:ab):h7:=
 match P.underlying t,x,lo,hi,mx with
 |some .string,.str s,none,none,none=>⟨.str s,True⟩
 |some .string,.str s,some (.int _ l),none,none=>⟨.str (s.drop l.toNat),0<=l∧l<=s.length⟩
 |some .string,.str s,none,some (.int _ h),none=>⟨.str (s.take h.toNat),0<=h∧h<=s.length⟩
 |some .string,.str s,some (.int _ l),some (.int _ h),none=>⟨.str ((s.take h.toNat).drop l.toNat),0<=l∧l<=h∧h<=s.length⟩
 |some (.slice e),.sl full es,none,none,none=>⟨.sl full es,(P.underlying e).isSome=true⟩
 |some (.slice e),.sl full es,some (.int _ l),none,none=>⟨.sl full (es.drop l.toNat),0<=l∧l<=es.length∧(P.underlying e).isSome=true∧∀x∈es,x.cells.length=P.cellsOf e⟩
 |some (.slice e),.sl full es,none,some (.int _ h),none=>⟨.sl (full&&decide (h=(es.length:Int))) (es.take h.toNat),0<=h∧h<=es.length∧(P.underlying e).isSome=true⟩
 |some (.slice e),.sl _ es,some (.int _ l),some (.int _ h),none=>⟨.sl false ((es.take h.toNat).drop l.toNat),0<=l∧l<=h∧h<=es.length∧(P.underlying e).isSome=true∧∀x∈es,x.cells.length=P.cellsOf e⟩
 |some (.slice e),.sl _ es,none,some (.int _ h),some (.int _ m)=>⟨.sl true (es.take h.toNat),0<=h∧h<=es.length∧m=h∧(P.underlying e).isSome=true⟩
 |some (.slice e),.sl _ es,some (.int _ l),some (.int _ h),some (.int _ m)=>⟨.sl true ((es.take h.toNat).drop l.toNat),0<=l∧l<=h∧h<=es.length∧m=h∧(P.underlying e).isSome=true∧∀x∈es,x.cells.length=P.cellsOf e⟩
 |some (.slice e),.osl s i v off len lc,none,none,none=>⟨.osl s i v off len lc,ni H (.osl s i v off len lc)∧(P.underlying e).isSome=true⟩
 |some (.slice e),.osl s i v off len lc,none,some (.int _ h),none=>⟨.osl s i v off h.toNat lc,ni H (.osl s i v off len lc)∧(P.underlying e).isSome=true∧0<=h∧h<=lc⟩
 |some (.slice e),.osl s i v off len lc,some (.int _ l),none,none=>⟨.osl s i v (off+l.toNat * s) (len-l.toNat) (lc-l.toNat),ni H (.osl s i v off len lc)∧(P.underlying e).isSome=true∧P.cellsOf e=s∧0<=l∧l<=len⟩
 |some (.slice e),.osl s i v off len lc,some (.int _ l),some (.int _ h),none=>⟨.osl s i v (off+l.toNat * s) (h.toNat-l.toNat) (lc-l.toNat),ni H (.osl s i v off len lc)∧(P.underlying e).isSome=true∧P.cellsOf e=s∧0<=l∧l<=h∧h<=lc⟩
 |some (.slice e),.osl s i v off len lc,some (.int _ l),some (.int _ h),some (.int _ m)=>⟨.osl s i v (off+l.toNat * s) (h.toNat-l.toNat) (m.toNat-l.toNat),ni H (.osl s i v off len lc)∧(P.underlying e).isSome=true∧P.cellsOf e=s∧0<=l∧l<=h∧h<=m∧m<=lc⟩
 |_,_,_,_,_=>bad
theorem extract_mk(s:List UInt8)(l h:Nat):(ByteArray.mk s.toArray).extract l h=ByteArray.mk ((s.take h).drop l).toArray:=by
 apply ByteArray.ext
 simp[ByteArray.data_extract,List.extract_eq_take_drop,List.drop_take]
theorem mU(k:IntKind)(i:Int)(y:Nat)(code:BoundsCode)(aC:0<=i)(h1:i<=y)(w:World):(Instr.sliceBound (.int k i) y code).run P w=.ok i.toNat w:=run_sliceBound (P:=P) w k i y code aC h1
theorem Dh{c:Ctx}{full full':Bool}{es:List I}{base:Option Addr}{len cap:Nat}(h:aK c (.sl full es) (.slice base len cap))(l k m sz:Nat)(hl:l<=k)(hk:k<=es.length)(hm:k<=m)(_:m<=cap)
  (an:full'=true->m=k) (hsz:l≠0->∀x∈es,x.cells.length=sz):
  aK c (.sl full' ((es.take k).drop l)) (.slice (if m=l then base else base.map (·.add (l * sz))) (k-l) (m-l)):=by
 have e2:=h.Kv;obtain⟨b,n,aH4,s,vs,he,h1,h2,h3,h4,cz,eK⟩:=h.pj;cases he;refine .sl _ _ _ _ _ s (fun i j=>vs (l+i) j) (by simp;omega) (by omega) (fun dF=>by rw[an dF]) (fun aP=>?_) (fun e he=>cz e ?_) (fun i e j x hi aw=>?_) (by omega)
 ·have hlen:((es.take k).drop l).length≠0:=fun e=>aP (jg e)
  simp at hlen;have JB:es≠[]:=by grind
  obtain⟨a,rfl,bZ,dO,kc⟩:=h4 JB;have yj:¬m=l:=by omega
  rw[az yj];refine⟨a.add (l * sz),rfl,Addr.Nn bZ _,by rw[Addr.B7];exact dO,fun i j hi aw=>?_⟩
  simp at hi;rw[Addr.add_add bZ];have hs:l=0∨sz=s:=by
   rcases Nat.eq_zero_or_pos l with aC|aC
   ·exact .inl aC
   ·right;have lz:es[0]?=some (es[0]'(by omega)):=c0 (by omega)
    have lW:=hv (l:=es) (n:=0) (by omega)
    rw[<-hsz (by omega) _ lW,cz _ lW]
  have ar:l * sz+(i * s+j)=(l+i) * s+j:=by
   rcases hs with aC|rfl
   ·simp[aC]
   ·rw[n1];omega
  rw[ar];exact kc _ _ (by omega) aw
 ·exact List.mem_of_mem_take (vG he)
 ·rw[List.getElem?_drop,List.getElem?_take]at hi;split at hi
  ·exact eK _ _ _ _ hi aw
  ·cases hi
theorem Kr{c:Ctx}{s i v off len lc:Nat}{base:Option Addr}{cap:Nat}(aL:c.bg i=v)(h:aK c (.osl s i v off len lc) (.slice base len cap))(l k m JW:Nat)(hl:l<=k)(hk:k<=JW)(eb:JW<=m)(hm:m<=cap)(gE:JW<=lc):
  aK c (.osl s i v (off+l * s) (k-l) (JW-l)) (.slice (if m=l then base else base.map (·.add (l * s))) (k-l) (m-l)):=by
 obtain⟨b,aH4,he,h1,Ch,h2,h3⟩:=h.ph aL;cases he;cases h with
 |osl _ _ _ _ _ _ _ hi nK aN pU aZ a7=>
  refine .osl _ _ _ _ _ _ _ hi nK rfl (by omega) (fun e d=>?_) (fun e d=>?_)
  ·grind
  ·obtain⟨cK,n,dc,ei⟩:=h3 d;refine⟨_,_,n,rfl,by omega,by omega,?_,dc,?_⟩
   ·rcases cK with cK|rfl
    ·left;omega
    ·by_cases eM:m=l
     ·left;omega
     ·right;rw[az eM];simp[rR]
   ·have cE:l * s+(m-l) * s=m * s:=by rw[<-n1];congr 1;omega
    have h8:m * s<=cap * s:=vI s hm;omega
theorem aDg{c:Ctx}{H:ab}{t:TypeId}{x:I}{ck:Value}{lo hi mx:Option I}{Dw hF PS:Option Value}(av:bA c H)(J:aK c x ck)
  (mj:∀y,lo=some y->∃u,Dw=some u∧aK c y u) (z8:lo=none->Dw=none) (wC:∀y,hi=some y->∃u,hF=some u∧aK c y u) (Cy:hi=none->hF=none)
  (Fy:∀y,mx=some y->∃u,PS=some u∧aK c y u) (sy:mx=none->PS=none) (hs:(ED P t x lo hi mx H).s) (w:World):
  ∃v,(Instr.sliceAt t ck Dw hF PS).run P w=.ok v w∧aK c (ED P t x lo hi mx H).v v:=by
 have inv:∀{o:Option I} {u:Option Value} {k:IntKind} {n:Int},(∀y,o=some y->∃ur,u=some ur∧aK c y ur)->o=some (.int k n)->u=some (.int k n):=by
  intro o u k n h1 h2;obtain⟨ur,h3,h4⟩:=h1 _ h2;rw[h3,h4.iZ]
 unfold ED at *;split at hs
 ·rename_i s hu;rw[z8 rfl,Cy rfl,sy rfl,J.nT];exact⟨_,by simp[Instr.sliceAt,Instr.slice,run_underlying hu,Instr.sliceBounds,extract_mk,uL],.str _ J.AU⟩
 ·rename_i s k l hu;obtain⟨aC,h1⟩:=hs;rw[inv mj rfl,Cy rfl,sy rfl,J.nT];refine⟨_,?_,.str _ (by have:=J.AU;simp only[gL,e8];omega)⟩
  simp[Instr.sliceAt,Instr.slice,run_underlying hu,Instr.sliceBounds,mU (P:=P) k l s.length _ aC h1,extract_mk,uL]
 ·rename_i s k h hu;obtain⟨aC,h1⟩:=hs;rw[z8 rfl,inv wC rfl,sy rfl,J.nT];refine⟨_,?_,.str _ (by have:=J.AU;simp only[gL,e8];omega)⟩
  simp[Instr.sliceAt,Instr.slice,run_underlying hu,Instr.sliceBounds,mU (P:=P) k h s.length _ aC h1,extract_mk,uL]
 ·rename_i s k l k' h hu;obtain⟨aC,h1,h2⟩:=hs;rw[inv mj rfl,inv wC rfl,sy rfl,J.nT];refine⟨_,?_,.str _ (by have:=J.AU;simp only[gL,e8];omega)⟩
  have ar:=mU (P:=P) k' h s.length .sliceAlen (by omega) h2 w
  have au:=mU (P:=P) k l h.toNat .sliceB aC (by omega) w
  simp[Instr.sliceAt,Instr.slice,run_underlying hu,Instr.sliceBounds,uL,ar,au,extract_mk]
 ·rename_i e full es hu;obtain⟨d,hd⟩:=Option.isSome_iff_exists.1 hs;rw[z8 rfl,Cy rfl,sy rfl];obtain⟨base,len,cap,s,vs,rfl,h1,h2,h3, -⟩:=J.pj;refine⟨_,by simp[Instr.sliceAt,Instr.slice,run_underlying hu,Instr.sliceBounds,hP hd];rfl,?_⟩
  have:=Dh (full':=full) J 0 es.length cap (P.cellsOf e) (bG _) (bk _) (by omega) (bk _) (fun an=>by rw[h3 an,h1]) (fun h=>absurd rfl h)
  simp[Addr.add]at this ⊢;rw[h1];exact this
 ·rename_i e full es k l hu;obtain⟨aC,h1,hd,hsz⟩:=hs;obtain⟨d,hd⟩:=Option.isSome_iff_exists.1 hd;rw[inv mj rfl,Cy rfl,sy rfl];obtain⟨base,len,cap,s,vs,rfl,rfl,h2,h3, -⟩:=J.pj;have au:=mU (P:=P) k l es.length .sliceB aC h1 w;refine⟨_,by simp[Instr.sliceAt,Instr.slice,run_underlying hu,Instr.sliceBounds,hP hd,au];rfl,?_⟩
  have:=Dh (full':=full) J l.toNat es.length cap (P.cellsOf e) (by omega) (bk _) (by omega) (bk _) (fun an=>by rw[h3 an]) (fun _=>hsz)
  simpa using this
 ·rename_i e full es k h hu;obtain⟨aC,h1,hd⟩:=hs;obtain⟨d,hd⟩:=Option.isSome_iff_exists.1 hd;rw[z8 rfl,inv wC rfl,sy rfl];obtain⟨base,len,cap,s,vs,rfl,rfl,h2,h3, -⟩:=J.pj;have au:=mU (P:=P) k h cap .sliceAcap aC (by omega) w
  refine⟨_,by simp[Instr.sliceAt,Instr.slice,run_underlying hu,Instr.sliceBounds,hP hd,au];rfl,?_⟩
  have:=Dh (full':=full&&decide (h=(es.length:Int))) J 0 h.toNat cap (P.cellsOf e) (bG _) (by omega) (by omega) (bk _) (fun an=>by
   rw[dD,hR]at an;have:=h3 an.1;omega) (fun h=>absurd rfl h)
  simpa[Addr.add]using this
 ·rename_i e full es k l k' h hu;obtain⟨aC,h1,Ch,hd,hsz⟩:=hs;obtain⟨d,hd⟩:=Option.isSome_iff_exists.1 hd;rw[inv mj rfl,inv wC rfl,sy rfl];obtain⟨base,len,cap,s,vs,rfl,rfl,h2,h3, -⟩:=J.pj;have ar:=mU (P:=P) k' h cap .sliceAcap (by omega) (by omega) w
  have au:=mU (P:=P) k l h.toNat .sliceB aC (by omega) w
  refine⟨_,by simp[Instr.sliceAt,Instr.slice,run_underlying hu,Instr.sliceBounds,hP hd,ar,au];rfl,?_⟩
  exact Dh (full':=false) J l.toNat h.toNat cap (P.cellsOf e) (by omega) (by omega) (by omega) (bk _) (fun an=>by cases an) (fun _=>hsz)
 ·rename_i e full es k h k' m hu;obtain⟨aC,h1,rfl,hd⟩:=hs;obtain⟨d,hd⟩:=Option.isSome_iff_exists.1 hd;rw[z8 rfl,inv wC rfl,inv Fy rfl];obtain⟨base,len,cap,s,vs,rfl,rfl,h2,h3, -⟩:=J.pj;have ar:=mU (P:=P) k' m cap .slice3Acap aC (by omega) w
  have au:=mU (P:=P) k m m.toNat .slice3B aC (by omega) w
  refine⟨_,by simp[Instr.sliceAt,Instr.slice,run_underlying hu,Instr.sliceBounds,hP hd,ar,au];rfl,?_⟩
  have:=Dh (full':=true) J 0 m.toNat m.toNat (P.cellsOf e) (bG _) (by omega) (bk _) (by omega) (fun _=>rfl) (fun h=>absurd rfl h)
  simpa[Addr.add]using this
 ·rename_i e full es k l k' h OZ m hu;obtain⟨aC,h1,Ch,rfl,hd,hsz⟩:=hs;obtain⟨d,hd⟩:=Option.isSome_iff_exists.1 hd;rw[inv mj rfl,inv wC rfl,inv Fy rfl];obtain⟨base,len,cap,s,vs,rfl,rfl,h2,h3, -⟩:=J.pj;have dP:=mU (P:=P) OZ m cap .slice3Acap (by omega) (by omega) w
  have ar:=mU (P:=P) k' m m.toNat .slice3B (by omega) (by omega) w
  have au:=mU (P:=P) k l m.toNat .slice3C aC (by omega) w
  refine⟨_,by simp[Instr.sliceAt,Instr.slice,run_underlying hu,Instr.sliceBounds,hP hd,dP,ar,au];rfl,?_⟩
  exact Dh (full':=true) J l.toNat m.toNat m.toNat (P.cellsOf e) (by omega) (by omega) (by omega) (by omega) (fun _=>rfl) (fun _=>hsz)
 ·rename_i e s i v off len lc hu;obtain⟨hl,hd⟩:=hs;obtain⟨d,hd⟩:=Option.isSome_iff_exists.1 hd;have aL:=v9 av hl;rw[z8 rfl,Cy rfl,sy rfl];obtain⟨base,cap,rfl,h1, -⟩:=J.ph aL;refine⟨_,by simp[Instr.sliceAt,Instr.slice,run_underlying hu,Instr.sliceBounds,hP hd];rfl,?_⟩
  simp[Addr.add];exact J
 ·rename_i e s i v off len lc k h hu;obtain⟨hl,hd,aC,h1⟩:=hs;obtain⟨d,hd⟩:=Option.isSome_iff_exists.1 hd;have aL:=v9 av hl;rw[z8 rfl,inv wC rfl,sy rfl];obtain⟨base,cap,rfl,h2,h3, -⟩:=J.ph aL;have au:=mU (P:=P) k h cap .sliceAcap aC (by omega) w
  refine⟨_,by simp[Instr.sliceAt,Instr.slice,run_underlying hu,Instr.sliceBounds,hP hd,au];rfl,?_⟩
  have:=Kr aL J 0 h.toNat cap lc (bG _) (by omega) h3 (bk _) (bk _)
  simpa[Addr.add]using this
 ·rename_i e s i v off len lc k l hu;obtain⟨hl,hd,rfl,aC,h1⟩:=hs;obtain⟨d,hd⟩:=Option.isSome_iff_exists.1 hd;have aL:=v9 av hl;rw[inv mj rfl,Cy rfl,sy rfl];obtain⟨base,cap,rfl,h2,h3, -⟩:=J.ph aL;have au:=mU (P:=P) k l len .sliceB aC h1 w;refine⟨_,by simp[Instr.sliceAt,Instr.slice,run_underlying hu,Instr.sliceBounds,hP hd,au];rfl,?_⟩
  exact Kr aL J l.toNat len cap lc (by omega) h2 h3 (bk _) (bk _)
 ·rename_i e s i v off len lc k l k' h hu;obtain⟨hl,hd,rfl,aC,h1,Ch⟩:=hs;obtain⟨d,hd⟩:=Option.isSome_iff_exists.1 hd;have aL:=v9 av hl;rw[inv mj rfl,inv wC rfl,sy rfl];obtain⟨base,cap,rfl,h2,h3, -⟩:=J.ph aL;have ar:=mU (P:=P) k' h cap .sliceAcap (by omega) (by omega) w
  have au:=mU (P:=P) k l h.toNat .sliceB aC (by omega) w
  refine⟨_,by simp[Instr.sliceAt,Instr.slice,run_underlying hu,Instr.sliceBounds,hP hd,ar,au];rfl,?_⟩
  exact Kr aL J l.toNat h.toNat cap lc (by omega) (by omega) h3 (bk _) (bk _)
 ·rename_i e s i v off len lc k l k' h OZ m hu;obtain⟨hl,hd,rfl,aC,h1,Ch,aSi⟩:=hs;obtain⟨d,hd⟩:=Option.isSome_iff_exists.1 hd;have aL:=v9 av hl;rw[inv mj rfl,inv wC rfl,inv Fy rfl];obtain⟨base,cap,rfl,h2,h3, -⟩:=J.ph aL;have dP:=mU (P:=P) OZ m cap .slice3Acap (by omega) (by omega) w
  have ar:=mU (P:=P) k' h m.toNat .slice3B (by omega) (by omega) w
  have au:=mU (P:=P) k l h.toNat .slice3C aC (by omega) w
  refine⟨_,by simp[Instr.sliceAt,Instr.slice,run_underlying hu,Instr.sliceBounds,hP hd,dP,ar,au];rfl,?_⟩
  exact Kr aL J l.toNat h.toNat m.toNat m.toNat (by omega) (by omega) (bk _) (by omega) (by omega)
 ·exact hs.elim
end
end Go.Proofs.YthafnbmdmfoobaaGreatDoor
