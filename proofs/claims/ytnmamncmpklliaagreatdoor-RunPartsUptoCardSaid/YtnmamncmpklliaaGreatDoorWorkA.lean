/- What functions answer. No condition. -/
import Derived.KernelRfl
import Derived.Calls
import Derived.RangeFuncLeaves
import Derived.RangeFuncRecord
import Derived.OrdersIn
import Derived.Laws.World
import Derived.Laws.Sem
import Derived.Laws.StructEq
import Derived.Laws.Cells
import Derived.Laws.Slices
import Derived.Laws.Append
import Derived.MapKept
namespace Go
theorem bw:type_of% @List.length_append:=@List.length_append
theorem cu:type_of% @List.getElem?_eq_some_iff:=@List.getElem?_eq_some_iff
theorem b0:type_of% @decide_eq_false:=@decide_eq_false
theorem ar:type_of% @if_neg:=@if_neg
theorem cd:type_of% @List.length_cons:=@List.length_cons
theorem dn:type_of% @List.getElem?_eq_getElem:=@List.getElem?_eq_getElem
theorem aC:type_of% @if_pos:=@if_pos
theorem bh:type_of% @Nat.le_refl:=@Nat.le_refl
theorem c6:type_of% @List.append_assoc:=@List.append_assoc
theorem cE:type_of% @List.append_nil:=@List.append_nil
theorem gg:type_of% @List.getD_eq_getElem?_getD:=@List.getD_eq_getElem?_getD
theorem dp:type_of% @Bool.and_eq_true:=@Bool.and_eq_true
theorem bP:type_of% @List.mem_map:=@List.mem_map
theorem hc:type_of% @List.take_succ_eq_append_getElem:=@List.take_succ_eq_append_getElem
theorem dy:type_of% @List.mem_of_getElem?:=@List.mem_of_getElem?
theorem dq:type_of% @List.length_map:=@List.length_map
theorem dr:type_of% @decide_eq_true:=@decide_eq_true
theorem iL:type_of% @List.eq_nil_of_length_eq_zero:=@List.eq_nil_of_length_eq_zero
theorem dZ:type_of% @List.length_nil:=@List.length_nil
theorem cb:type_of% @Nat.zero_le:=@Nat.zero_le
theorem dH:type_of% @List.mem_singleton:=@List.mem_singleton
theorem e6:type_of% @Option.bind_some:=@Option.bind_some
theorem gA:type_of% @Option.map_eq_some_iff:=@Option.map_eq_some_iff
theorem ir:type_of% @List.drop_eq_getElem_cons:=@List.drop_eq_getElem_cons
theorem dO:type_of% @List.map_cons:=@List.map_cons
theorem jc:type_of% @List.getElem?_append_left:=@List.getElem?_append_left
theorem db:type_of% @List.mem_cons:=@List.mem_cons
theorem fu:type_of% @List.all_eq_true:=@List.all_eq_true
theorem fe:type_of% @List.take_length:=@List.take_length
theorem h5:type_of% @Int.toNat_natCast:=@Int.toNat_natCast
theorem kv:type_of% @Option.bind_eq_some_iff:=@Option.bind_eq_some_iff
theorem fQ:type_of% @List.getElem_mem:=@List.getElem_mem
theorem b7:type_of% @congrArg:=@congrArg
theorem e1:type_of% @Nat.le_trans:=@Nat.le_trans
theorem iK:type_of% @decide_eq_true_eq:=@decide_eq_true_eq
theorem b1:type_of% @eq_true:=@eq_true
theorem gK:type_of% @List.length_take:=@List.length_take
theorem fH:type_of% @List.mem_append:=@List.mem_append
theorem gS:type_of% @List.getElem?_set_ne:=@List.getElem?_set_ne
theorem hp:type_of% @List.length_drop:=@List.length_drop
theorem jb:type_of% @List.nil_append:=@List.nil_append
theorem pH:type_of% @List.getElem?_append_right:=@List.getElem?_append_right
theorem lq:type_of% @Array.getElem?_eq_getElem:=@Array.getElem?_eq_getElem
theorem qy:type_of% @List.take_of_length_le:=@List.take_of_length_le
theorem mf:type_of% @List.cons_append:=@List.cons_append
theorem nj:type_of% @List.flatMap_cons:=@List.flatMap_cons
theorem nH:type_of% @List.length_pos_iff:=@List.length_pos_iff
theorem nI:type_of% @of_decide_eq_true:=@of_decide_eq_true
theorem wR:type_of% @Int.tmod_eq_emod_of_nonneg:=@Int.tmod_eq_emod_of_nonneg
theorem oh:type_of% @List.prefix_refl:=@List.prefix_refl
theorem jm:type_of% @List.map_nil:=@List.map_nil
theorem kx:type_of% @List.length_set:=@List.length_set
theorem nk:type_of% @List.getElem?_map:=@List.getElem?_map
theorem lU:type_of% @List.mem_cons_of_mem:=@List.mem_cons_of_mem
theorem wQ:type_of% @Array.getElem?_append_left:=@Array.getElem?_append_left
theorem rB:type_of% @List.getElem?_set_self:=@List.getElem?_set_self
theorem mM:type_of% @Bool.false_eq_true:=@Bool.false_eq_true
theorem sD:type_of% @List.mem_of_find?_eq_some:=@List.mem_of_find?_eq_some
theorem zG:type_of% @Int.tdiv_eq_ediv_of_nonneg:=@Int.tdiv_eq_ediv_of_nonneg
theorem ve:type_of% @Nat.le_of_ble_eq_true:=@Nat.le_of_ble_eq_true
theorem o0:type_of% @Option.getD_some:=@Option.getD_some
theorem BD:type_of% @Array.getElem?_append_right:=@Array.getElem?_append_right
theorem qx:type_of% @List.flatMap_append:=@List.flatMap_append
theorem mh:type_of% @List.not_mem_nil:=@List.not_mem_nil
theorem tI:type_of% @Nat.lt_of_lt_of_le:=@Nat.lt_of_lt_of_le
theorem wW:type_of% @List.getElem?_eq_none:=@List.getElem?_eq_none
theorem wX:type_of% @Option.isSome_some:=@Option.isSome_some
theorem wY:type_of% @decide_eq_false_iff_not:=@decide_eq_false_iff_not
theorem sF:type_of% @List.take_append_drop:=@List.take_append_drop
theorem yo:type_of% @List.take_succ_cons:=@List.take_succ_cons
theorem sG:type_of% @List.filter_cons:=@List.filter_cons
theorem jU:type_of% @Int.le_refl:=@Int.le_refl
theorem rC:type_of% @List.take_zero:=@List.take_zero
theorem yp:type_of% @List.mem_of_mem_take:=@List.mem_of_mem_take
theorem mi:type_of% @Nat.mul_one:=@Nat.mul_one
theorem vm:type_of% @Array.getElem?_toList:=@Array.getElem?_toList
theorem lr:type_of% @Nat.zero_add:=@Nat.zero_add
theorem dW:type_of% @if_true:=@if_true
theorem BE:type_of% @Array.mem_of_getElem?:=@Array.mem_of_getElem?
theorem He:type_of% @Array.getD_eq_getD_getElem?:=@Array.getD_eq_getD_getElem?
theorem qA:type_of% @Array.getElem?_eq_some_iff:=@Array.getElem?_eq_some_iff
theorem qB:type_of% @decide_true:=@decide_true
theorem tJ:type_of% @Array.eq_empty_of_size_eq_zero:=@Array.eq_empty_of_size_eq_zero
theorem tK:type_of% @List.nodup_cons:=@List.nodup_cons
theorem qC:type_of% @List.foldl_cons:=@List.foldl_cons
theorem yq:type_of% @Bool.not_eq_true:=@Bool.not_eq_true
theorem qD:type_of% @List.drop_length:=@List.drop_length
theorem DR:type_of% @Array.toList_append:=@Array.toList_append
theorem BF:type_of% @List.mem_map_of_mem:=@List.mem_map_of_mem
theorem oi:type_of% @Nat.le_succ:=@Nat.le_succ
theorem zH:type_of% @List.replicate_succ:=@List.replicate_succ
theorem o1:type_of% @List.length_filter_le:=@List.length_filter_le
theorem qz:type_of% @List.map_append:=@List.map_append
theorem vi:type_of% @List.getElem?_cons_succ:=@List.getElem?_cons_succ
theorem DP:type_of% @Option.isSome_none:=@Option.isSome_none
theorem tH:type_of% @Option.some.inj:=@Option.some.inj
theorem wS:type_of% @List.filter_append:=@List.filter_append
theorem yl:type_of% @List.foldl_append:=@List.foldl_append
theorem sE:type_of% @Prod.exists:=@Prod.exists
theorem vj:type_of% @Option.map_some:=@Option.map_some
theorem zI:type_of% @List.length_replicate:=@List.length_replicate
theorem Hb:type_of% @List.dropLast_eq_take:=@List.dropLast_eq_take
theorem Hc:type_of% @List.getElem_set_self:=@List.getElem_set_self
theorem KP:type_of% @Array.setIfInBounds_comm:=@Array.setIfInBounds_comm
theorem DQ:type_of% @List.flatMap_nil:=@List.flatMap_nil
theorem wT:type_of% @Nat.mul_le_mul_right:=@Nat.mul_le_mul_right
theorem vk:type_of% @Bool.true_and:=@Bool.true_and
theorem vl:type_of% @List.map_take:=@List.map_take
theorem wU:type_of% @Nat.add_zero:=@Nat.add_zero
theorem ym:type_of% @List.drop_drop:=@List.drop_drop
theorem yn:type_of% @List.take_left:=@List.take_left
theorem wV:type_of% @Bool.eq_false_iff:=@Bool.eq_false_iff
theorem Hd:type_of% @Int.toNat_of_nonneg:=@Int.toNat_of_nonneg
theorem mg:type_of% @List.mem_filter:=@List.mem_filter
theorem gB:type_of% @if_false:=@if_false
theorem KN:type_of% @Array.getElem?_eq_none:=@Array.getElem?_eq_none
theorem vf:type_of% @List.mem_flatMap:=@List.mem_flatMap
theorem DO:type_of% @Option.getD_none:=@Option.getD_none
theorem G8:type_of% @Array.append_assoc:=@Array.append_assoc
theorem vh:type_of% @Nat.add_assoc:=@Nat.add_assoc
theorem G9:type_of% @List.contains_iff_mem:=@List.contains_iff_mem
theorem yk:type_of% @List.map_drop:=@List.map_drop
theorem Ha:type_of% @BitVec.toNat_ofNat:=@BitVec.toNat_ofNat
theorem KO:type_of% @List.takeWhile_prefix:=@List.takeWhile_prefix
theorem KR:type_of% @List.pairwise_iff_getElem:=@List.pairwise_iff_getElem
theorem KS:type_of% @Array.mem_toList_iff:=@Array.mem_toList_iff
theorem zJ:type_of% @List.mem_of_mem_drop:=@List.mem_of_mem_drop
theorem KT:type_of% @BitVec.ofInt_natCast:=@BitVec.ofInt_natCast
theorem h6:type_of% @Option.isSome_iff_exists:=@Option.isSome_iff_exists
theorem DV:type_of% @Option.map_none:=@Option.map_none
theorem Hi:type_of% @List.length_range:=@List.length_range
theorem Hj:type_of% @List.take_add_one:=@List.take_add_one
theorem DW:type_of% @List.any_eq_false:=@List.any_eq_false
theorem BG:type_of% @List.range_succ:=@List.range_succ
theorem yr:type_of% @List.getElem?_set:=@List.getElem?_set
theorem sH:type_of% @List.map_map:=@List.map_map
theorem wZ:type_of% @List.getElem_of_mem:=@List.getElem_of_mem
theorem BH:type_of% @List.range'_succ:=@List.range'_succ
theorem Hk:type_of% @Nat.mod_eq_of_lt:=@Nat.mod_eq_of_lt
theorem BI:type_of% @List.drop_left:=@List.drop_left
theorem zK:type_of% @Option.map_map:=@Option.map_map
theorem BJ:type_of% @Nat.lt_or_ge:=@Nat.lt_or_ge
theorem o2:type_of% @Nat.add_mul:=@Nat.add_mul
theorem zL:type_of% @Bool.eq_iff_iff:=@Bool.eq_iff_iff
theorem KU:type_of% @List.singleton_append:=@List.singleton_append
theorem Hl:type_of% @List.all_append:=@List.all_append
theorem Oz:type_of% @List.mem_iff_getElem?:=@List.mem_iff_getElem?
theorem yt:type_of% @Bool.not_eq_true':=@Bool.not_eq_true'
theorem mj:type_of% @or_false:=@or_false
theorem DS:type_of% @Prod.mk.injEq:=@Prod.mk.injEq
theorem KQ:type_of% @List.range_eq_range':=@List.range_eq_range'
theorem ka:type_of% @Ne.symm:=@Ne.symm
theorem tM:type_of% @cond_true:=@cond_true
theorem Hf:type_of% @List.mem_range:=@List.mem_range
theorem Hg:type_of% @List.foldl_nil:=@List.foldl_nil
theorem vn:type_of% @cond_false:=@cond_false
theorem Hh:type_of% @decide_false:=@decide_false
theorem DT:type_of% @Bool.false_or:=@Bool.false_or
theorem DU:type_of% @List.cons.inj:=@List.cons.inj
theorem rD:type_of% @beq_iff_eq:=@beq_iff_eq
theorem tL:type_of% @Int.le_trans:=@Int.le_trans
theorem zM:type_of% @forall_eq:=@forall_eq
end Go
set_option linter.unusedSimpArgs false
set_option linter.unusedVariables false
set_option linter.unusedSectionVars false
set_option maxRecDepth 100000
set_option maxHeartbeats 16000000
namespace Go.Proofs.YtnmamncmpklliaaGreatDoor
theorem gf{p:Prop}(h:p:=by omega):p:=h
theorem hW{p:Prop}(h:p:=by simp):p:=h
theorem j9{p:Prop}(h:p:=by grind):p:=h
theorem ko{p:Prop}(h:p:=by decide):p:=h
theorem ma{p:Prop}(h:p:=by kernel_rfl):p:=h
theorem mZ{p:Prop}(h:p:=by simp only[go_sem]):p:=h
theorem nc{p:Prop}(h:p:=by simp;omega):p:=h
theorem nP{p:Prop}(h:p:=by simp_all):p:=h
theorem oq{p q:Prop}(h:p)(t:p->q:=by intro h;simpa using h):q:=t h
theorem oC{p q:Prop}(h:p)(t:p->q:=by intro h;omega):q:=t h
theorem p2{p q:Prop}(h:p)(t:p->q:=by intro h;cases h):q:=t h
variable{n:Int}{w w':World}{v val b4 jl ll ry u c0:Value}{N b id s f i off len lc ba cap:Nat}{r:Option Nat}{P:Program}{code body:Code}{Q:Exit->Act->World->Prop}{ι:Type}{o:Oper}{d:TypeDesc}{e ty ts tx:TypeId}{bH:Nat×Nat}{us new:Array Value}{full:Bool}{base:Option Addr}
inductive I where
 |int (k:IntKind) (n:Int)
 |bool (b:Bool)
 |str (s:List UInt8)
 |agg (cs:List I)
 |aN (vs:List I)
 |sl (full:Bool) (es:List I)
 |cptr (cs:List I)
 |ref (i ba off:Nat)
 |osl (s i ba off len lc:Nat)
 |dX
 |map (i:Nat)
 |iI
 |iter (i:Nat)
 |func (fn:Fn) (first captured:List I)
 |ef
 |iface (t:TypeId) (v:I)
 |nilIface
 |opt (g:Bool) (v:I)
 |top
variable{x y r9:I}{es cs xs:List I}
instance:Inhabited I:=⟨.top⟩
def I.cells:I->List I
 |.agg cs=>cs
 |v=>[v]
structure Ctx where
 w:World
 n:Nat
 bo:Nat->Nat
 ba:Nat->Nat
 c0:Nat->Bool
 hb:Nat->Prop
 base:Nat×List Deferred
variable{c c':Ctx}
def bsize(w:World)(b:Nat):Option Nat:=
 match w.heap[b]? with
 |some (.cells vs _ _)=>some vs.size
 |_=>none
def l6(k:IntKind)(n:Int):Prop:=k.min<=n/\n<=k.max
theorem vx(k:IntKind)(n:Int):l6 k (k.wrap n):=by unfold l6 IntKind.wrap IntKind.min IntKind.max;cases k<;>simp[IntKind.bits,IntKind.signed]<;>(try split)<;>omega
theorem aIK(k:IntKind):k.min<=0/\0<=k.max:=by cases k<;>decide
theorem Y3{k:IntKind}{m:Int}(h:l6 k n)(h1:0<=n->0<=m/\m<=n)(h2:n<0->n<=m/\m<=0):l6 k m:=by
 obtain⟨p,q⟩:=aIK k;obtain⟨h3,h4⟩:=h;by_cases ay:0<=n
 ·have:=h1 ay;exact⟨gf,gf⟩
 ·have:=h2 gf;exact⟨gf,gf⟩
theorem rO:l6 .i64 n↔ -9223372036854775808<=n/\n<=9223372036854775807:=Iff.rfl
theorem LN:l6 .u8 n↔0<=n/\n<=255:=Iff.rfl
theorem YX:l6 .i32 n↔ -2147483648<=n/\n<=2147483647:=Iff.rfl
def xg(k:IntKind)(n:Int):Bool:=decide (k.min<=n)&&decide (n<=k.max)
theorem By{k:IntKind}:xg k n=true↔l6 k n:=by simp[xg,l6]
inductive aK (c:Ctx):I->Value->Prop
 |int (k:IntKind) (n:Int) (aw:l6 k n):aK c (.int k n) (.int k n)
 |bool (b:Bool):aK c (.bool b) (.bool b)
 |str (s:List UInt8) (aw:s.length<=9223372036854775807):aK c (.str s) (.string ⟨s.toArray⟩)
 |agg (cs:List I) (vs:Array Value) (hl:vs.size=cs.length) (h:∀(i:Nat) (x:I) (v:Value),cs[i]?=some x->vs[i]?=some v->aK c x v):aK c (.agg cs) (.agg vs)
 |aN (cs:List I) (vs:Array Value) (hl:vs.size=cs.length) (h:∀(i:Nat) (x:I) (v:Value),cs[i]?=some x->vs[i]?=some v->aK c x v):aK c (.aN cs) (.tuple vs)
 |sl (full:Bool) (es:List I) (base:Option Addr) (len cap s:Nat) (vs:Nat->Nat->Value) (hlen:len=es.length) (my:len<=cap) (AT:full=true->cap=len)
   (aa:es≠[]->∃a,base=some a/\a.spot=none/\c.hb a.block/\∀k j,k<es.length->j<s->c.w.cell? (a.add (k * s+j))=some (vs k j))
   (hs:∀e∈es,e.cells.length=s)
   (aw:∀(k:Nat) (e:I) (j:Nat) (x:I),es[k]?=some e->e.cells[j]?=some x->aK c x (vs k j)) (r0:len<=9223372036854775807):aK c (.sl full es) (.slice base len cap)
 |cptr (cs:List I) (a:Addr) (vs:Nat->Value) (CZ:a.spot=none) (aj:c.hb a.block) (ao:∀j,j<cs.length->c.w.cell? (a.add j)=some (vs j))
   (aw:∀(j:Nat) (x:I),cs[j]?=some x->aK c x (vs j)):aK c (.cptr cs) (.pointer<|some a)
 |ref (i v off:Nat) (val:Value) (hi:i<c.n) (aF:v<=c.ba i) (aD:val.oneCell'=true) (h:c.ba i=v->c.c0 i=false/\val=.pointer (some ⟨c.bo i,off,none⟩)):aK c (.ref i v off) val
 |osl (s i v off len lc:Nat) (val:Value) (hi:i<c.n) (aF:v<=c.ba i) (aD:val.oneCell'=true) (r0:lc<=9223372036854775807)
   (h1:c.ba i=v->c.c0 i=true->len=0/\lc=0/\∃base,val=.slice base 0 0)
   (h2:c.ba i=v->c.c0 i=false->∃base cap m,val=.slice base len cap/\len<=lc/\lc<=cap/\(cap=0\/base=some ⟨c.bo i,off,none⟩)/\bsize c.w (c.bo i)=some m/\off+cap * s<=m):aK c (.osl s i v off len lc) val
 |dX:aK c .dX (.pointer none)
 |map (i:Nat) (val:Value) (hi:i<c.n) (aD:val.oneCell'=true) (h:c.ba i=0->c.c0 i=false/\val=.map (some<|c.bo i)):aK c (.map i) val
 |iI:aK c .iI (.map none)
 |iter (i:Nat) (val:Value) (hi:i<c.n) (aD:val.oneCell'=true) (h:c.ba i=0->c.c0 i=false/\val=.pointer (some ⟨c.bo i,0,none⟩)):aK c (.iter i) val
 |func (fn:Fn) (fs cs:List I) (rv wM:Array Value) (aA:rv.size=fs.length) (ao:wM.size=cs.length)
   (h1:∀(i:Nat) (x:I) (v:Value),fs[i]?=some x->rv[i]?=some v->aK c x v) (h2:∀(i:Nat) (x:I) (v:Value),cs[i]?=some x->wM[i]?=some v->aK c x v):aK c (.func fn fs cs) (.func fn rv wM)
 |ef:aK c .ef .nilFunc
 |iface (t:TypeId) (x:I) (v:Value) (h:aK c x v):aK c (.iface t x) (.iface t v)
 |nilIface:aK c .nilIface .nilIface
 |opt (g:Bool) (x:I) (v:Value) (h1:g=true->aK c x v) (h2:g=false->v=undef):aK c (.opt g x) v
 |top (v:Value):aK c .top v
structure Ext (c c':Ctx):Prop where
 n:c.n<=c'.n
 size:c.w.heap.size<=c'.w.heap.size
 st:∀b,c.hb b->c'.hb b/\c'.w.heap[b]?=c.w.heap[b]?
 ba:∀i,i<c.n->c.ba i<=c'.ba i
 bo:∀i,i<c.n->c'.ba i=c.ba i->c'.bo i=c.bo i/\c'.c0 i=c.c0 i/\(c.c0 i=false->bsize c'.w (c.bo i)=bsize c.w (c.bo i))
 os:c'.w.os=c.w.os
 tape:c'.w.tape=c.w.tape/\c.w.drawn<=c'.w.drawn
 output:c'.w.output=c.w.output
 base:c'.base=c.base
theorem Ext.refl(c:Ctx):Ext c c:=⟨bh _,bh _,λ_ h=>⟨h,rfl⟩,λ_ _=>bh _,λ_ _ _=>⟨rfl,rfl,λ_=>rfl⟩,rfl,⟨rfl,bh _⟩,rfl,rfl⟩
theorem Ext.trans{a b c:Ctx}(h:Ext a b)(k:Ext b c):Ext a c where
 n:=e1 h.n k.n
 size:=e1 h.size k.size
 st:=λx J=>⟨(k.st x (h.st x J).1).1,((k.st x (h.st x J).1).2).trans (h.st x J).2⟩
 ba:=λi hi=>e1 (h.ba i hi)<|k.ba i (tI hi h.n)
 bo:=λi hi he=>by
  have h1:=h.ba i hi;have h2:=k.ba i<|tI hi h.n;have ax:b.ba i=a.ba i:=gf
  have U:c.ba i=b.ba i:=gf;obtain⟨K,O,S⟩:=h.bo i hi ax;obtain⟨T,V,Z⟩:=k.bo i (tI hi h.n) U;grind
 os:=k.os.trans h.os
 tape:=⟨k.tape.1.trans h.tape.1,e1 h.tape.2 k.tape.2⟩
 output:=k.output.trans h.output
 base:=k.base.trans h.base
theorem aDo{a:Addr}(h:w'.heap[a.block]?=w.heap[a.block]?):w'.cell? a=w.cell? a:=by unfold World.cell?;rw[h]
theorem Addr.Fb(a:Addr)(n:Nat):(a.add n).block=a.block:=by unfold Addr.add;split<;>rfl
structure zQ (c c':Ctx):Prop where
 n:c.n<=c'.n
 st:∀b,c.hb b->c'.hb b
 cell:∀a:Addr,c.hb a.block->c'.w.cell? a=c.w.cell? a
 ba:∀i,i<c.n->c.ba i<=c'.ba i
 bo:∀i,i<c.n->c'.ba i=c.ba i->c'.bo i=c.bo i/\c'.c0 i=c.c0 i/\(c.c0 i=false->bsize c'.w (c.bo i)=bsize c.w (c.bo i))
theorem Ext.Rc(h:Ext c c'):zQ c c':=⟨h.n,λb J=>(h.st b J).1,λ_ U=>aDo (h.st _ U).2,h.ba,h.bo⟩
theorem aK.n9(J:zQ c c')(h:aK c x v):aK c' x v:=by
 induction h with
 |int k n O=>exact .int k n O
 |bool b=>exact .bool b
 |str s O=>exact .str s O
 |agg cs vs hl _ U=>exact .agg cs vs hl U
 |aN cs vs hl _ U=>exact .aN cs vs hl U
 |sl full es base len cap s vs hlen my AT aa hs _ S U=>
  refine .sl full es base len cap s vs hlen my AT (λaT=>?_) hs U S;obtain⟨a,ax,aq,aU,bf⟩:=aa aT;refine⟨a,ax,aq,J.st _ aU,λk j hk T=>?_⟩;rw[J.cell _ (by rw[Addr.Fb];exact aU)]
  exact bf k j hk T
 |cptr cs a vs CZ z V _ U=>
  refine .cptr cs a vs CZ (J.st _ z) (λj T=>?_) U;rw[J.cell _ (by rw[Addr.Fb];exact z)]
  exact V j T
 |ref i v off val hi Z K h=>refine .ref i v off val (tI hi J.n) (e1 Z (J.ba i hi)) K λe=>?_;have h1:=J.ba i hi;have ax:c'.ba i=c.ba i:=gf;rw[(J.bo i hi ax).1,(J.bo i hi ax).2.1];exact h gf
 |osl s i v off len lc val hi Z K S h1 h2=>
  have hle:=J.ba i hi;refine .osl s i v off len lc val (tI hi J.n) (e1 Z hle) K S (λe d=>?_) (λe d=>?_)
  ·have ax:c'.ba i=c.ba i:=gf;exact h1 gf<|by rw[<-(J.bo i hi ax).2.1];exact d
  ·have ax:c'.ba i=c.ba i:=gf;obtain⟨cw,cL,dx⟩:=J.bo i hi ax;rw[cL]at d;obtain⟨base,cap,m,aL,aR,I,bC,cD,ej⟩:=h2 gf d;exact⟨base,cap,m,aL,aR,I,by rw[cw];exact bC,by rw[cw,dx d];exact cD,ej⟩
 |dX=>exact .dX
 |map i val hi K h=>refine .map i val (tI hi J.n) K λe=>?_;have h1:=J.ba i hi;have ax:c'.ba i=c.ba i:=gf;rw[(J.bo i hi ax).1,(J.bo i hi ax).2.1];exact h gf
 |iI=>exact .iI
 |iter i val hi K h=>refine .iter i val (tI hi J.n) K λe=>?_;have h1:=J.ba i hi;have ax:c'.ba i=c.ba i:=gf;rw[(J.bo i hi ax).1,(J.bo i hi ax).2.1];exact h gf
 |func fn fs cs rv wM aA V _ _ wi uK=>exact .func fn fs cs rv wM aA V wi uK
 |ef=>exact .ef
 |iface t x v _ U=>exact .iface t x v U
 |nilIface=>exact .nilIface
 |opt g x v _ h2 U=>exact .opt g x v U h2
 |top v=>exact .top v
theorem aK.mono(J:Ext c c')(h:aK c x v):aK c' x v:=h.n9 J.Rc
abbrev a8:=List<|Nat×I
variable{β:a8}
def look:a8->Nat->I
 |[],_=>.top
 |(d,v)::α,t=>bif d==t then v else look α t
inductive bD where
 |cells (ba:Nat) (cs:List I)
 |map (es:List (I×I×Nat)) (clock:Nat)
 |iY (m:Nat) (since:Nat) (seen:List Nat) (kS:Nat)
 |mI (s:List UInt8) (pos:Nat)
 |dc (t:TypeId) (ba:Nat) (cs:List I)
 |loop (l:Nat) (α:a8) (N:Nat) (st:LoopState) (iq:Option Code) (ps:Array Tmp) (nr ec:Code)
 |gone
variable{B B':bD}
abbrev ab:=List bD
variable{H:ab}
def bD.live:bD->Prop
 |.gone=>False
 |_=>True
inductive fR (c:Ctx) (i:Nat):bD->Prop
 |cells (ba:Nat) (cs:List I) (vs:Array Value) (e:TypeId) (bH:Nat×Nat) (aF:c.ba i=ba) (hd:c.c0 i=false) (ak:c.w.heap[c.bo i]?=some (.cells vs e bH)) (hl:cs.length<=vs.size) (aA:vs.size<=bH.1\/bH.2<=bH.1)
   (h:∀(j:Nat) (x:I) (v:Value),cs[j]?=some x->vs[j]?=some v->aK c x v):fR c i (.cells ba cs)
 |void (ba:Nat) (aF:c.ba i=ba) (hd:c.c0 i=true):fR c i (.cells ba [])
 |map (es:List (I×I×Nat)) (clock:Nat) (c8:Array MapEntry) (aF:c.ba i=0) (hd:c.c0 i=false) (ak:c.w.heap[c.bo i]?=some (.map c8 clock)) (hl:c8.size=es.length)
   (h:∀(j:Nat) (p:I×I×Nat) (e:MapEntry),es[j]?=some p->c8[j]?=some e->aK c p.1 e.key/\aK c p.2.1 e.val/\e.born=p.2.2):fR c i (.map es clock)
 |iY (m since:Nat) (seen:List Nat) (kS:Nat) (aF:c.ba i=0) (hd:c.c0 i=false) (hm:m<c.n) (y9:c.ba m=0) (FK:c.c0 m=false) (ak:c.w.heap[c.bo i]?=some (.mapIter (some<|c.bo m) since seen.toArray kS)):fR c i (.iY m since seen kS)
 |mI (s:List UInt8) (pos:Nat) (aF:c.ba i=0) (hd:c.c0 i=false) (ak:c.w.heap[c.bo i]?=some (.stringIter ⟨s.toArray⟩ pos)) (ij:s.length<=9223372036854775807):fR c i (.mI s pos)
 |loop (l:Nat) (α:a8) (N:Nat) (st:LoopState) (iq:Option Code) (ps:Array Tmp) (nr ec:Code) (fn D:Nat) (ts:Array Value) (aF:c.ba i=0) (hd:c.c0 i=false) (hl:c.bo i=l)
   (ak:c.w.heap[c.bo i]?=some (.loop {state:=st,pending:=iq,fn:=fn,tmps:=ts,params:=ps,assign:=nr,body:=ec,defers:=D})) (eu:ts.size=N) (aw:∀t,aK c (look α t)<|ts.getD t undef):fR c i (.loop l α N st iq ps nr ec)
 |dc (t:TypeId) (ba:Nat) (cs:List I) (vs:Array Value) (aF:c.ba i=ba) (hd:c.c0 i=false) (ak:c.w.heap[c.bo i]?=some (.cells vs t (0,0))) (hl:cs.length<=vs.size) (a1:(ba=0->vs.size=cs.length)/\(cs.head?=some .dX->vs[1]?=some (.slice none 0 0)))
   (h:∀(j:Nat) (x:I) (v:Value),cs[j]?=some x->vs[j]?=some v->aK c x v):fR c i (.dc t ba cs)
 |pE (t:TypeId) (ba:Nat) (aF:c.ba i=ba) (hd:c.c0 i=true):fR c i (.dc t ba [])
 |gone (hd:c.c0 i=true):fR c i .gone
-- The variables of packages of which it is known what they are (nothing writes them).
def aAb:List (Nat×List Value):=[(0,[.int .u32 0,.int .u32 79764919])]
def Laid(c:Ctx):Prop:=∀p∈aAb,c.hb p.1/\∀(j:Nat) (x:Value),p.2[j]?=some x->c.w.cell? ⟨p.1,j,none⟩=some x
theorem Laid.go(h:Laid c)(h1:∀b,c.hb b->c'.hb b)(h2:∀a:Addr,c.hb a.block->c'.w.cell? a=c.w.cell? a):Laid c':=
 λp ad=>⟨h1 _ (h p ad).1,λj x J=>(h2 _ (h p ad).1).trans<|(h p ad).2 j x J⟩
theorem Laid.n9(h:Laid c)(J:zQ c c'):Laid c':=h.go J.st J.cell
theorem Laid.mono(h:Laid c)(J:Ext c c'):Laid c':=h.n9 J.Rc
structure bm (c:Ctx) (H:ab):Prop where
 j0:Laid c
 n:c.n=H.length
 lt:∀i,i<c.n->c.c0 i=false->c.bo i<c.w.heap.size
 inj:∀i j b cR,H[i]?=some b->H[j]?=some cR->b.live->cR.live->c.c0 i=false->c.c0 j=false->c.bo i=c.bo j->i=j
 st:∀k,c.hb k->k<c.w.heap.size/\∀i b,H[i]?=some b->b.live->c.c0 i=false->c.bo i≠k
 rep:∀i b,H[i]?=some b->fR c i b
def Marks(c:Ctx)(br:List Deferred):Prop:=
 c.base.1<=c.w.heap.size/\∃iN:List Nat,br=iN.map (λD=>{target:=.collected D,args:= #[]})++c.base.2/\iN.Nodup/\∀D∈iN,c.base.1<=D/\c.hb D/\c.w.heap[D]?=some (.deferred<|some [])
theorem Marks.mono{br:List Deferred}(J:Ext c c')(h:Marks c br):Marks c' br:=by
 obtain⟨ay,U,e,af,h⟩:=h;refine⟨by rw[J.base];exact e1 ay J.size,U,by rw[J.base];exact e,af,λD K=>?_⟩
 obtain⟨h1,h2,h3⟩:=h D K;exact⟨by rw[J.base];exact h1,(J.st D h2).1,((J.st D h2).2).trans h3⟩
structure iM (c:Ctx) (N:Nat) (α:a8) (a:Act):Prop where
 size:a.tmps.size=N
 defers:Marks c a.defers
 rep:∀t,aK c (look α t)<|a.tmps.getD t undef
theorem iM.mono{c c':Ctx}{N:Nat}{α:a8}{a:Act}(J:Ext c c')(h:iM c N α a):iM c' N α a:=
 ⟨h.size,h.defers.mono J,λt=>(h.rep t).mono J⟩
def cP(dst:Option Tmp)(v:I)(α:a8):a8:=
 match dst with
 |some d=>(d,v)::α
 |none=>α
def It(N:Nat):Option Tmp->Bool
 |some d=>Nat.blt d N
 |none=>true
theorem iM.put{c:Ctx}{N:Nat}{α:a8}{a:Act}{dst:Option Tmp}{x:I}{v:Value}(h:iM c N α a)(hd:It N dst=true)(U:aK c x v):iM c N (cP dst x α) (a.put dst v):=by
 cases dst with
 |none=>exact h
 |some d=>
  have K:d<a.tmps.size:=by rw[h.size];simpa[It,Nat.blt_eq]using hd
  refine⟨by simp[Act.put,h.size],h.defers,λt=>?_⟩
  simp only[cP,look,Act.put];by_cases J:d=t
  ·subst J;simp[K,U]
  ·have O:(d==t)=false:=by simp[J]
   rw[O,vn];have:=h.rep t;simp_all
theorem iM.weaken{α:a8}{a:Act}(h:iM c N α a)(J:∀t,look β t=.top\/look β t=look α t):iM c N β a:=by
 refine⟨h.size,h.defers,λt=>?_⟩;rcases J t with e|e
 ·rw[e];exact .top _
 ·rw[e];exact h.rep t
abbrev c3:=Exit->a8->ab->Prop
def wf(r:Option Nat):Fence:={fn:=λ_=>True,depth:=none,alive:=false,round:=r}
def ug:Code->Bool
 |.seq x y=>ug x&&ug y
 |.cond _ x y=>ug x&&ug y
 |.block _ x=>ug x
 |.loop x=>ug x
 |.scope x=>ug x
 |.rangeFunc _ _ _ _=>false
 |_=>true
def cF(P:Program)(N:Nat)(code:Code)(Q:c3)(α:a8)(H:ab):Prop:=
 ∀(r:Option Nat) (c:Ctx) (a:Act),(r=none\/ug code=true)->bm c H->iM c N α a->
  code.wpIn (wf r) 0 P (λe cQ w'=>∃c' ct H',c'.w=w'/\bm c' H'/\Ext c c'/\iM c' N ct cQ/\Q e ct H') a c.w
theorem Rg{a b:Bool}(h:r=none\/(a&&b)=true):(r=none\/a=true)/\(r=none\/b=true):=by grind
def qG(c:Ctx)(xs:List I)(vs:Array Value):Prop:=vs.size=xs.length/\∀(i:Nat) (x:I) (v:Value),xs[i]?=some x->vs[i]?=some v->aK c x v
def cV(P:Program)(f:FuncId)(args:List I)(H:ab)(R:I->ab->Prop):Prop:=
 ∀(c:Ctx) (vs:Array Value),bm c H->qG c args vs->
  Calls P f vs c.w (λe w'=>∃c' x v H',e=.returned v/\c'.w=w'/\bm c' H'/\Ext c c'/\aK c' x v/\R x H')
def aO(P:Program)(f:FuncId)(args:List I)(H:ab)(x:I):Prop:=cV P f args H λx' H'=>x'=x/\H'=H
theorem cV.mono{P:Program}{f:FuncId}{args:List I}{H:ab}{R R':I->ab->Prop}(h:cV P f args H R)(J:∀x H',R x H'->R' x H'):cV P f args H R':=
 λc vs hs U=>(h c vs hs U).mono λ_ _ ⟨c',x,v,H',ax,K,aU,bf,O,S⟩=>⟨c',x,v,H',ax,K,aU,bf,O,J _ _ S⟩
theorem Bv{Q J:c3}{α:a8}(h:cF P N code Q α H)(aM:∀e α H,Q e α H->J e α H):cF P N code J α H:=
 λr c a U hs K=>wpIn_mono (h r c a U hs K) λ_ _ _ ⟨c',O,H',ax,S,aU,bf,T⟩=>⟨c',O,H',ax,S,aU,bf,aM _ _ _ T⟩
theorem Ke{Q:c3}{α:a8}(h:cF P N code Q β H)(J:∀t,look β t=.top\/look β t=look α t):cF P N code Q α H:=
 λr c a U hs K=>h r c a U hs<|K.weaken J
theorem HQ{Q:c3}{α:a8}(h:Q .normal α H):cF P N .skip Q α H:=
 λ_ c _ _ hs J=>wpIn_skip ⟨c,α,H,rfl,hs,Ext.refl c,J,h⟩
theorem aMv{Q:c3}{α:a8}(h:Q .ret α H):cF P N .ret Q α H:=
 λ_ c _ _ hs J=>wpIn_ret ⟨c,α,H,rfl,hs,Ext.refl c,J,h⟩
theorem aMq{Q:c3}{α:a8}(h:Q (.exit id) α H):cF P N (.exit id) Q α H:=
 λ_ c _ _ hs J=>wpIn_exit ⟨c,α,H,rfl,hs,Ext.refl c,J,h⟩
theorem aLD{l:Nat}{Q:c3}{α:a8}(h:Q .normal α H):cF P N (.label l) Q α H:=
 λ_ c _ _ hs J=>wpIn_label ⟨c,α,H,rfl,hs,Ext.refl c,J,h⟩
def wN(P:Program)(N:Nat)(y:Code)(Q:c3):c3
 |.normal,α,H=>cF P N y Q α H
 |e,α,H=>Q e α H
theorem HR{x y:Code}{Q:c3}{α:a8}(h:cF P N x (wN P N y Q) α H):cF P N (.seq x y) Q α H:=by
 intro r c a O hs T;have O:=Rg O;refine wpIn_seq<|wpIn_mono (h r c a O.1 hs T) λe V w' ⟨c',K,H',ax,J,aU,bf,U⟩=>?_;cases e with
 |normal=>subst ax;exact wpIn_mono (U r c' V O.2 J bf) λe K2 Z ⟨I,S,z,g1,g2,g3,g4,g5⟩=>⟨I,S,z,g1,g2,aU.trans g3,g4,g5⟩
 |exit id=>exact⟨c',K,H',ax,J,aU,bf,U⟩
 |goto l=>exact⟨c',K,H',ax,J,aU,bf,U⟩
 |ret=>exact⟨c',K,H',ax,J,aU,bf,U⟩
 |panic ch=>exact⟨c',K,H',ax,J,aU,bf,U⟩
 |outgrown=>exact⟨c',K,H',ax,J,aU,bf,U⟩
def ri(id:Nat)(Q:c3):c3
 |.exit Dc,α,H=>bif Dc==id then Q .normal α H else Q (.exit Dc) α H
 |e,α,H=>Q e α H
theorem Yf{x:Code}{Q:c3}{α:a8}(h:cF P N x (ri id Q) α H):cF P N (.block id x) Q α H:=by
 intro r c a O hs S;refine wpIn_block<|wpIn_mono (h r c a O hs S) λe T w' ⟨c',J,H',ax,U,aU,bf,K⟩=>?_;cases e with
 |exit V=>grind [ri,Exit.inBlock]
 |normal=>exact⟨c',J,H',ax,U,aU,bf,K⟩
 |goto l=>exact⟨c',J,H',ax,U,aU,bf,K⟩
 |ret=>exact⟨c',J,H',ax,U,aU,bf,K⟩
 |panic ch=>exact⟨c',J,H',ax,U,aU,bf,K⟩
 |outgrown=>exact⟨c',J,H',ax,U,aU,bf,K⟩
def aAc{ι:Type}(F:ι->a8)(eW:ι->ab)(pre:ι->Prop)(m:ι->Nat)(x:ι)(Q:c3):c3
 |.normal,α,H=>∃y,pre y/\m y<m x/\(∀t,look (F y) t=.top\/look (F y) t=look α t)/\H=eW y
 |e,α,H=>Q e α H
theorem aSR{F:Fence}{n:Nat}{a:Act}(S:ι->Act->World->Prop)(m:ι->Nat)(tD:ι)(T:S tD a w)
  (round:∀x a w,S x a w->body.wpIn F n P (Exit.then (λU w'=>∃y,S y U w'/\m y<m x) Q) a w):(Code.loop body).wpIn F n P Q a w:=by
 intro b k cs A1 V Z;have key:∀n x a w,m x=n->S x a w->
   ∃e U w',Q e U w'/\ArrivesIn (Machine.fenced P F) P (lone (b.atR a (.code body::.inLoop body::k)) cs w) b k cs e U w':=by
  intro n;induction n using Nat.strongRecOn with
  |_ n aB=>
   intro x a w af mX;obtain⟨e,K,O,aM,J⟩:=round x a w mX b (.inLoop body::k) cs A1 V Z;cases e with
   |normal=>obtain⟨y,I,av⟩:=aM;obtain⟨IE,Z7,z,Jn,I0⟩:=aB (m y) (af▸av) y K O rfl I;exact⟨IE,Z7,z,Jn,.of_steps (StepsIn.trans J<|.one (fenced_calm V Z rfl) stepR_inLoop) I0⟩
   |exit id=>exact⟨_,K,O,aM,.pass (x:=.inLoop body) rfl (λ_ _=>.inl hW) J⟩
   |goto l=>exact⟨_,K,O,aM,.pass (x:=.inLoop body) rfl (λ_ _=>.inl hW) J⟩
   |ret=>exact⟨_,K,O,aM,.pass (x:=.inLoop body) rfl (λ_ _=>.inl hW) J⟩
   |panic ch=>exact⟨_,K,O,aM,.pass (x:=.inLoop body) rfl (λ_ _=>.inl hW) J⟩
   |outgrown=>exact⟨_,K,O,aM,.pass (x:=.inLoop body) rfl (λ_ _=>.inl hW) J⟩
 obtain⟨e,U,w',aM,J⟩:=key _ tD a w rfl T;exact⟨e,U,w',aM,.of_steps (.one (fenced_calm V Z rfl) stepR_loop) J⟩
theorem ZN{Q:c3}{α:a8}(F:ι->a8)(V:ι->ab)(pre:ι->Prop)(m:ι->Nat)(S:ι)(ay:pre S)
  (Z:∀t,look (F S) t=.top\/look (F S) t=look α t) (hH:H=V S)
  (round:∀x,pre x->cF P N body (aAc F V pre m x Q) (F x) (V x)):cF P N (.loop body) Q α H:=by
 intro r c a I hs z;subst hH;refine aSR (λx a w=>pre x/\∃c',c'.w=w/\bm c' (V x)/\Ext c c'/\iM c' N (F x) a) m S ⟨ay,c,rfl,hs,Ext.refl c,z.weaken Z⟩ ?_;rintro x a w ⟨ad,c',rfl,gk,J,s5⟩;refine wpIn_mono (round x ad r c' a I gk s5) λe cQ w' ⟨U,T,H',ax,K,aU,bf,O⟩=>?_;cases e with
 |normal=>obtain⟨y,cw,cL,dx,mH⟩:=O;exact⟨y,⟨cw,U,ax,mH▸K,J.trans aU,bf.weaken dx⟩,cL⟩
 |exit id=>exact⟨U,T,H',ax,K,J.trans aU,bf,O⟩
 |goto l=>exact⟨U,T,H',ax,K,J.trans aU,bf,O⟩
 |ret=>exact⟨U,T,H',ax,K,J.trans aU,bf,O⟩
 |panic ch=>exact⟨U,T,H',ax,K,J.trans aU,bf,O⟩
 |outgrown=>exact⟨U,T,H',ax,K,J.trans aU,bf,O⟩
def kE:Value->I
 |.int k n=>bif xg k n then .int k n else .top
 |.bool b=>.bool b
 |.string s=>bif Nat.ble s.data.toList.length 9223372036854775807 then .str s.data.toList else .top
 |.pointer none=>.dX
 |.slice none 0 0=>.sl true []
 |.map none=>.iI
 |.nilFunc=>.ef
 |.nilIface=>.nilIface
 |_=>.top
theorem aR8(c:Ctx):aK c (.sl true []) (.slice none 0 0):=
 .sl true [] none 0 0 0 (λ_ _=>undef) rfl (bh _) (λ_=>rfl) (λh=>absurd rfl h) hW hW gf
theorem Qu(c:Ctx)(v:Value):aK c (kE v) v:=by
 unfold kE;split
 ·rename_i k n;cases h:xg k n with
  |true=>exact .int _ _<|By.1 h
  |false=>exact .top _
 ·exact .bool _
 ·rename_i s;cases h:Nat.ble s.data.toList.length 9223372036854775807 with
  |true=>simpa using aK.str (c:=c) s.data.toList<|ve h
  |false=>exact .top _
 ·exact .dX
 ·exact aR8 c
 ·exact .iI
 ·exact .ef
 ·exact .nilIface
 ·exact .top _
def E6:Value->I
 |.agg cs=>.agg<|cs.toList.map kE
 |.tuple vs=>bif vs.size==0 then .aN []else .top
 |v=>kE v
theorem Qt(c:Ctx)(v:Value):aK c (E6 v) v:=by
 cases v with
 |agg cs=>refine .agg _ _ hW λi x v h1 h2=>?_;simp only[nk,gA]at h1;obtain⟨u,h1,rfl⟩:=h1;rw[vm,h2]at h1;cases h1;exact Qu c v
 |tuple vs=>
  simp only[E6];by_cases h:vs.size=0
  ·have:(vs.size==0)=true:=by simp[h]
   rw[this];exact .aN [] _ h hW
  ·have:(vs.size==0)=false:=oq h;rw[this];exact .top _
 |_=>simp only[E6];exact Qu c _
def bn(α:a8):Operand->I
 |.tmp t=>look α t
 |.const v=>E6 v
 |.global _=>.top
 |.func f=>.func (.func f) [] []
theorem HS{α:a8}{a:Act}(h:iM c N α a)(x:Operand):aK c (bn α x) (a.eval x):=by
 cases x with
 |tmp t=>exact h.rep t
 |const v=>exact Qt c v
 |global g=>exact .top _
 |func f=>exact .func _ [] [] _ _ rfl rfl hW hW
def pI(P:Program)(o:Oper)(ρ:Operand->I)(H:ab)(R:I->ab->Prop):Prop:=
 ∀(r:Option Nat) (c:Ctx) (a:Act) (next:Act->World->Prop) (Q:Exit->Act->World->Prop),bm c H->(∀x∈o.op.operands.toList,aK c (ρ x)<|a.eval x)->
  (∀c' x v H',bm c' H'->Ext c c'->aK c' x v->R x H'->next (a.put o.dst v) c'.w)->o.wpIn (wf r) 0 P a c.w next Q
def Hy(o:Oper):Prop:=∀r ρ,o.semAt r ρ=execOp ρ o
theorem wA{a:Act}{next:Act->World->Prop}(hd:Hy o)(h:o.uponIn (wf r) 0 P a next Q ((execOp a.eval o).run P w)):o.wpIn (wf r) 0 P a w next Q:=
 ⟨λ_ _=>trivial,by rw[hd];exact h⟩
def mq(P:Program)(s:Sem Value)(c:Ctx)(x:I)(H':ab):Prop:=∃c' v,s.run P c.w=.ok v c'.w/\bm c' H'/\Ext c c'/\aK c' x v
theorem aNH{ρ:Operand->I}{H':ab}(hd:Hy o)(s:(Operand->Value)->Sem Value)(he:∀ρ,execOp ρ o=(do pure (.value<|<-s ρ)))
  (h:∀(c) (a:Act),bm c H->(∀x∈o.op.operands.toList,aK c (ρ x)<|a.eval x)->mq P (s a.eval) c x H'):pI P o ρ H (λx' J=>x'=x/\J=H'):=by
 intro r c a next Q hs hρ hk
 obtain⟨c',v,h1,h2,h3,h4⟩:=h c a hs hρ;refine wA hd ?_;rw[he,Sem.run_bind,h1];exact hk c' x v H' h2 h3 h4 ⟨rfl,rfl⟩
theorem aK.iD{k:IntKind}(h:aK c (.int k n) v):v=.int k n:=by cases h;rfl
theorem aK.Dd{k:IntKind}(h:aK c (.int k n) v):l6 k n:=by cases h;assumption
theorem aK.zx{s:List UInt8}(h:aK c (.str s) v):s.length<=9223372036854775807:=by cases h;assumption
theorem aK.NS{f:Bool}(h:aK c (.sl f es) v):es.length<=9223372036854775807:=by cases h with|sl _ _ _ _ _ _ _ h1 _ _ _ _ _ h2=>rw[<-h1];exact h2
theorem aK.Gz{v:Nat}(h:aK c (.osl s i v off len lc) val):lc<=9223372036854775807:=by cases h;assumption
theorem aK.sT{b:Bool}(h:aK c (.bool b) v):v=.bool b:=by cases h;rfl
theorem aK.nh{s:List UInt8}(h:aK c (.str s) v):v=.string ⟨s.toArray⟩:=by cases h;rfl
theorem aK.uh(h:aK c (.agg cs) v):∃vs,v=.agg vs/\vs.size=cs.length/\∀(i:Nat) (x) (v),cs[i]?=some x->vs[i]?=some v->aK c x v:=by cases h with|agg _ vs hl h=>exact⟨vs,rfl,hl,h⟩
theorem aK.aDk(h:aK c (.aN cs) v):∃vs,v=.tuple vs/\vs.size=cs.length/\∀(i:Nat) (x) (v),cs[i]?=some x->vs[i]?=some v->aK c x v:=by cases h with|aN _ vs hl h=>exact⟨vs,rfl,hl,h⟩
def eg(op:BinOp)(k:IntKind)(x y:Int):Int:=
 match op with
 |.and=>k.wrap (BitVec.ofInt k.bits x&&&BitVec.ofInt k.bits y).toNat
 |.or=>k.wrap (BitVec.ofInt k.bits x|||BitVec.ofInt k.bits y).toNat
 |.xor=>k.wrap (BitVec.ofInt k.bits x ^^^ BitVec.ofInt k.bits y).toNat
 |_=>k.wrap (BitVec.ofInt k.bits x&&& ~~~(BitVec.ofInt k.bits y)).toNat
structure h7 where
 v:I
 s:Prop
def bad:h7:=⟨.top,False⟩
def l0(op:BinOp)(k:IntKind)(a b:Int):h7:=
 match op with
 |.add=>⟨.int k<|k.wrap (a+b),True⟩
 |.sub=>⟨.int k<|k.wrap (a-b),True⟩
 |.mul=>⟨.int k<|k.wrap (a * b),True⟩
 |.quo=>⟨.int k<|k.wrap (a.tdiv b),b≠0⟩
 |.rem=>⟨.int k<|a.tmod b,b≠0⟩
 |.and=>⟨.int k<|eg .and k a b,True⟩
 |.or=>⟨.int k<|eg .or k a b,True⟩
 |.xor=>⟨.int k<|eg .xor k a b,True⟩
 |.andNot=>⟨.int k<|eg .andNot k a b,True⟩
 |.eql=>⟨.bool<|decide (a=b),True⟩
 |.neq=>⟨.bool<|!decide (a=b),True⟩
 |.lss=>⟨.bool<|decide (a<b),True⟩
 |.leq=>⟨.bool<|decide (a<=b),True⟩
 |.gtr=>⟨.bool<|decide (b<a),True⟩
 |.geq=>⟨.bool<|decide (b<=a),True⟩
 |.shl=>⟨.int k<|k.wrap (a * 2 ^ (min b.toNat k.bits)),0<=b⟩
 |.shr=>⟨.int k<|a.fdiv (2 ^ (min b.toNat k.bits)),0<=b⟩
def H4(op:BinOp)(a b:List UInt8):h7:=
 match op with
 |.add=>⟨.str<|a++b,a.length+b.length<=9223372036854775807⟩
 |.eql=>⟨.bool<|decide (a=b),True⟩
 |.neq=>⟨.bool<|!decide (a=b),True⟩
 |.lss=>⟨.bool<|Op.bytesLess a b,True⟩
 |.leq=>⟨.bool<|Op.bytesLess a b||decide (a=b),True⟩
 |.gtr=>⟨.bool<|!(Op.bytesLess a b||decide (a=b)),True⟩
 |.geq=>⟨.bool<|!Op.bytesLess a b,True⟩
 |_=>bad
def apart(P:Program)(t:TypeId)(off:Nat)(cs:List I):h7:=
 match P.underlying t with
 |some (.struct _)|some (.array _ _)=>⟨.agg<|(cs.drop off).take (P.cellsOf t),True⟩
 |some _=>⟨cs.getD off .top,off<cs.length⟩
 |none=>bad
structure UC where
 b:Bool
 s:Prop
mutual
def pM(P:Program):Nat->TypeId->I->I->UC
 |0,_,_,_=>⟨false,False⟩
 |d+1,t,x,y=>
  match P.underlying t,x,y with
  |some .bool,.bool a,.bool b=>⟨a==b,True⟩
  |some (.int _),.int k a,.int k' b=>⟨decide<|a=b,k=k'⟩
  |some .string,.str a,.str b=>⟨decide<|a=b,True⟩
  |some (.struct fs),.agg xs,.agg ys=>⟨(vE P d xs ys fs.toList).b,P.stoodInHeld t=false/\(vE P d xs ys fs.toList).s⟩
  |_,_,_=>⟨false,False⟩
def vE(P:Program):Nat->List I->List I->List Field->UC
 |_,_,_,[]=>⟨true,True⟩
 |0,_,_,_::_=>⟨false,False⟩
 |d+1,xs,ys,f::fs=>
  ⟨(pM P d f.type (apart P f.type f.offset xs).v (apart P f.type f.offset ys).v).b&&(vE P d xs ys fs).b,
    f.name≠ "_" /\(apart P f.type f.offset xs).s/\(apart P f.type f.offset ys).s/\(pM P d f.type (apart P f.type f.offset xs).v (apart P f.type f.offset ys).v).s/\(vE P d xs ys fs).s⟩
end
theorem info_of_underlying{t:TypeId}(h:P.underlying t=some d):∃i,P.info? t=some i/\P.cellsOf t=i.size:=by grind [Program.underlying,Program.cellsOf]
theorem gT{t:TypeId}(h:P.underlying t=some d)(w:World):(sizeOf t).run P w=.ok (P.cellsOf t) w:=by obtain⟨i,h1,h2⟩:=info_of_underlying h;simp[sizeOf,typeInfo,h1,h2]
def TypeDesc.isAgg:TypeDesc->Bool
 |.struct _|.array _ _=>true
 |_=>false
theorem NP{t:TypeId}(h:P.underlying t=some d)(w):(isAgg t).run P w=.ok (TypeDesc.isAgg d) w:=by unfold isAgg;rw[Sem.run_bind,run_underlying h];cases d<;>rfl
theorem aR6{vs:Array Value}(hl:vs.size=cs.length)(h:∀(i:Nat) (x) (v),cs[i]?=some x->vs[i]?=some v->aK c x v)(off n):
  aK c (.agg<|(cs.drop off).take n) (.agg<|vs.extract off (off+n)):=by
 refine .agg _ _ j9 λi x v h1 h2=>?_;grind
theorem Mf{vs:Array Value}(hl:vs.size=cs.length)(h:∀(i:Nat) (x:I) (v:Value),cs[i]?=some x->vs[i]?=some v->aK c x v){t:TypeId}(hs:(apart P t off cs).s):
  ∃v,(∀w,(part t vs off).run P w=.ok v w)/\aK c (apart P t off cs).v v:=by
 unfold apart at *;cases hu:P.underlying t with
 |none=>simp[hu,bad]at hs
 |some d=>
  simp only[hu]at hs ⊢;by_cases U:TypeDesc.isAgg d=true
  ·refine⟨.agg<|vs.extract off (off+P.cellsOf t),λw=>?_,?_⟩
   ·simp[part,NP hu,U,gT hu]
   ·cases d<;>simp only[TypeDesc.isAgg,mM]at U<;>exact aR6 hl h off _
  ·have O:=by cases d<;>first|exact hs|(simp[TypeDesc.isAgg]at U)
   have K:vs[off]?=some (vs[off]'(by omega)):=lq<|_
   have J:=dn O;refine⟨vs[off]'(by omega),λw=>?_,?_⟩
   ·simp[part,NP hu,U,K]
   ·have:aK c (cs.getD off .top) (vs[off]'(by omega)):=by rw[gg,J];exact h _ _ _ J K
    cases d<;>first|exact this|(simp[TypeDesc.isAgg]at U)
theorem Wo(c:Ctx)(d:Nat):
  (∀(t:TypeId) (x y:I) (b4 jl:Value) (D:Nat) (w:World),d<=D->(pM P d t x y).s->aK c x b4->aK c y jl->(Op.equalIn D t b4 jl).run P w=.ok (pM P d t x y).b w)/\
  (∀(fs:List Field) (xs ys:List I) (b4 jl:Array Value) (D:Nat) (w:World),d<=D->(vE P d xs ys fs).s->aK c (.agg xs) (.agg b4)->aK c (.agg ys) (.agg jl)->
   (Op.eqFields D b4 jl fs).run P w=.ok (vE P d xs ys fs).b w):=by
 induction d with
 |zero=>
  refine⟨λt x y b4 jl D w _ hs=>by simp[pM]at hs,λfs xs ys b4 jl D w _ hs _ _=>?_⟩
  cases fs with
  |nil=>simp[Op.eqFields,vE]
  |cons f fs=>simp[vE]at hs
 |succ d aB=>
  obtain⟨wi,uK⟩:=aB;refine⟨λt x y b4 jl D w bR hs J U=>?_,λfs xs ys b4 jl D w bR hs J U=>?_⟩
  ·obtain⟨D,rfl⟩:∃UA,D=UA+1:=⟨D-1,gf⟩;unfold pM at hs ⊢;split at hs
   ·rename_i hu;rw[J.sT,U.sT];exact run_equalIn_bool' w _ _ _ _ hu
   ·rename_i hu;rw[J.iD,U.iD];subst hs;rw[run_equalIn_int w _ _ _ _ _ _ hu];rfl
   ·rename_i a b hu;rw[J.nh,U.nh,run_equalIn_string w _ _ _ _ hu];congr 1;rw[zL];simp
   ·rename_i fs xs ys hu;obtain⟨aj,hs⟩:=hs;obtain⟨b4,rfl,l4,oO⟩:=J.uh;obtain⟨jl,rfl,F4,F5⟩:=U.uh;have FD:P.fieldsOf t=fs:=by simp[Program.fieldsOf,hu]
    rw[run_equalIn_struct w D t b4 jl (by rw[FD];exact hu) aj,FD]
    exact uK fs.toList xs ys b4 jl D w gf hs J U
   ·exact hs.elim
  ·cases fs with
   |nil=>simp[Op.eqFields,vE]
   |cons f fs=>
    unfold vE at hs ⊢;obtain⟨ay,h1,h2,h3,h4⟩:=hs;obtain⟨Ob,K,l4,oO⟩:=J.uh;obtain⟨Oc,O,F4,F5⟩:=U.uh;cases K;cases O;obtain⟨S,Na,T⟩:=Mf l4 oO h1;obtain⟨V,Z,z⟩:=Mf F4 F5 h2;have aq:=uK fs xs ys b4 jl D w gf h4 J U;have af:(f.name≠ "_")=True:=by simp[ay]
    simp only[Op.eqFields,af,dW,Sem.run_bind,Na,Z,Result.andThen_ok,(wi f.type _ _ S V D w gf h3 T z),Sem.run_ite,Sem.run_pure,aq];cases(pM P d f.type (apart P f.type f.offset xs).v (apart P f.type f.offset ys).v).b<;>simp
def fm(P:Program)(op:BinOp)(t:TypeId)(x y:I):h7:=
 match op,x,y with
 |.shl,.int k a,.int _ b=>l0 .shl k a b
 |.shr,.int k a,.int _ b=>l0 .shr k a b
 |op,.int k a,.int k' b=>⟨(l0 op k a b).v,k=k'/\(l0 op k a b).s⟩
 |op,.str a,.str b=>H4 op a b
 |.eql,.bool a,.bool b=>⟨.bool<|a==b,P.underlying t=some .bool⟩
 |.neq,.bool a,.bool b=>⟨.bool<|!(a==b),P.underlying t=some .bool⟩
 |.eql,.agg xs,.agg ys=>⟨.bool (pM P 30 t (.agg xs)<|.agg ys).b,P.eqGuardType P.depth t=false/\(pM P 30 t (.agg xs) (.agg ys)).s⟩
 |.neq,.agg xs,.agg ys=>⟨.bool<|!(pM P 30 t (.agg xs) (.agg ys)).b,P.eqGuardType P.depth t=false/\(pM P 30 t (.agg xs) (.agg ys)).s⟩
 |_,_,_=>bad
theorem zw(s:List UInt8):(ByteArray.mk s.toArray).size=s.length:=rfl
theorem aM0(a b:List UInt8):(ByteArray.mk a.toArray)++(ByteArray.mk b.toArray)=ByteArray.mk (a++b).toArray:=rfl
theorem aSB{k:IntKind}{a:Int}(b:Int)(h:l6 k a):l6 k (a.tmod b):=by
 refine Y3 h (λay=>⟨Int.tmod_nonneg b ay,?_⟩) (λay=>?_)
 ·have h1:=Int.natAbs_tmod a b;have h2:=Nat.mod_le a.natAbs b.natAbs;grind
 ·have h1:=Int.natAbs_tmod a b;have h2:=Nat.mod_le a.natAbs b.natAbs;have h3:0<=(-a).tmod b:=Int.tmod_nonneg b gf;rw[Int.neg_tmod]at h3;omega
theorem aN5{k:IntKind}{a:Int}(m)(h:l6 k a):l6 k (a.fdiv<|2 ^ m):=by
 have ad:(0:Int)<2 ^ m:=Int.pow_pos hW;rw[Int.fdiv_eq_ediv_of_nonneg _ gf];refine Y3 h (λay=>⟨Int.ediv_nonneg ay gf,Int.ediv_le_self _ ay⟩) λay=>?_;have h1:=Int.ediv_neg_of_neg_of_pos ay ad;have h2:a<=a / 2 ^ m:=by
  apply Int.le_ediv_of_mul_le ad
  have h3:(1:Int)<=2 ^ m:=gf;have:=Int.mul_le_mul_of_nonpos_left (by omega:a<=0) h3
  omega
 omega
theorem aKm{op:BinOp}{t:TypeId}{X Y:Operand}(J:aK c x b4)(U:aK c y jl)(hs:(fm P op t x y).s)(w:World):
  ∃v,(do eqGuard op t X Y b4 jl;binOp op t b4 jl:Sem Value).run P w=.ok v w/\aK c (fm P op t x y).v v:=by
 unfold fm at hs ⊢;split at hs
 ·rw[J.iD,U.iD];simp only[l0]at hs;refine⟨_,?_,.int _ _<|vx _ _⟩;simp[eqGuard,binOp,Op.shift,Int.not_lt.2 hs]
 ·rw[J.iD,U.iD];simp only[l0]at hs;refine⟨_,?_,.int _ _<|aN5 _ J.Dd⟩;simp[eqGuard,binOp,Op.shift,Int.not_lt.2 hs]
 ·rename_i k a k' b h1 h2;rw[J.iD,U.iD];obtain⟨rfl,hs⟩:=hs;cases op<;>simp only[l0]at hs ⊢;case shl=>simp at h1
  case shr=>simp at h2
  case add=>exact⟨_,by simp[eqGuard,binOp,Op.intArith],.int _ _<|vx _ _⟩
  case sub=>exact⟨_,by simp[eqGuard,binOp,Op.intArith],.int _ _<|vx _ _⟩
  case mul=>exact⟨_,by simp[eqGuard,binOp,Op.intArith],.int _ _<|vx _ _⟩
  case quo=>exact⟨_,by simp[eqGuard,binOp,Op.intDiv,hs],.int _ _<|vx _ _⟩
  case rem=>exact⟨_,by simp[eqGuard,binOp,Op.intDiv,hs],.int _ _<|aSB _ J.Dd⟩
  case and=>exact⟨_,by first|(simp[eqGuard,binOp,Op.intBits];done)|(simp[eqGuard,binOp,Op.intBits];rfl),.int _ _<|vx _ _⟩
  case or=>exact⟨_,by first|(simp[eqGuard,binOp,Op.intBits];done)|(simp[eqGuard,binOp,Op.intBits];rfl),.int _ _<|vx _ _⟩
  case xor=>exact⟨_,by first|(simp[eqGuard,binOp,Op.intBits];done)|(simp[eqGuard,binOp,Op.intBits];rfl),.int _ _<|vx _ _⟩
  case andNot=>exact⟨_,by simp only[eqGuard,binOp,ne_eq,not_true_eq_false,gB,Op.intBits,Sem.run_bind];rfl,.int _ _<|vx _ _⟩
  case eql=>exact⟨_,by first|(simp[eqGuard,binOp,Op.intCmp];done)|(simp[eqGuard,binOp,Op.intCmp];rfl),.bool _⟩
  case neq=>exact⟨_,by first|(simp[eqGuard,binOp,Op.intCmp];done)|(simp[eqGuard,binOp,Op.intCmp];rfl),.bool _⟩
  case lss=>exact⟨_,by first|(simp[eqGuard,binOp,Op.intCmp];done)|(simp[eqGuard,binOp,Op.intCmp];rfl),.bool _⟩
  case leq=>exact⟨_,by first|(simp[eqGuard,binOp,Op.intCmp];done)|(simp[eqGuard,binOp,Op.intCmp];rfl),.bool _⟩
  case gtr=>exact⟨_,by first|(simp[eqGuard,binOp,Op.intCmp];done)|(simp[eqGuard,binOp,Op.intCmp];rfl),.bool _⟩
  case geq=>exact⟨_,by first|(simp[eqGuard,binOp,Op.intCmp];done)|(simp[eqGuard,binOp,Op.intCmp];rfl),.bool _⟩
 ·rename_i a b;rw[J.nh,U.nh];have e:(a==b)=decide (a=b):=by rw[zL];simp
  cases op<;>simp only[H4,bad]at hs ⊢;case add=>
   refine⟨_,?_,.str _<|oq hs⟩
   have hm:¬((((ByteArray.mk a.toArray).size+(ByteArray.mk b.toArray).size:Nat))>IntKind.i64.max):=by have:IntKind.i64.max=9223372036854775807:=ko;rw[this,zw,zw];omega
   have ax:(binOp .add t (.string ⟨a.toArray⟩) (.string ⟨b.toArray⟩)).run P w=.ok (.string ⟨(a++b).toArray⟩) w:=by simp only[binOp,Op.stringOp];rw[ar hm,aM0];rfl
   simp[eqGuard,ax]
  case eql=>exact⟨_,by first|(simp[eqGuard,binOp,Op.stringOp,e];done)|(simp[eqGuard,binOp,Op.stringOp,e];rfl),.bool _⟩
  case neq=>exact⟨_,by first|(simp[eqGuard,binOp,Op.stringOp,e];done)|(simp[eqGuard,binOp,Op.stringOp,e];rfl),.bool _⟩
  case lss=>exact⟨_,by first|(simp[eqGuard,binOp,Op.stringOp];done)|(simp[eqGuard,binOp,Op.stringOp,e];rfl),.bool _⟩
  case leq=>exact⟨_,by first|(simp[eqGuard,binOp,Op.stringOp,e];done)|(simp[eqGuard,binOp,Op.stringOp,e];rfl),.bool _⟩
  case gtr=>exact⟨_,by first|(simp[eqGuard,binOp,Op.stringOp,e];done)|(simp[eqGuard,binOp,Op.stringOp,e];rfl),.bool _⟩
  case geq=>exact⟨_,by first|(simp[eqGuard,binOp,Op.stringOp];done)|(simp[eqGuard,binOp,Op.stringOp,e];rfl),.bool _⟩
 ·rw[J.sT,U.sT];exact⟨_,by first|(simp[eqGuard,binOp,Op.equal,Op.maxDepth,run_equalIn_bool' w _ _ _ _ hs];done)|(simp[eqGuard,binOp,Op.equal,Op.maxDepth,run_equalIn_bool' w _ _ _ _ hs];rfl),.bool _⟩
 ·rw[J.sT,U.sT];refine⟨_,by first|(simp[eqGuard,binOp,Op.equal,Op.maxDepth,run_equalIn_bool' w _ _ _ _ hs];done)|(simp[eqGuard,binOp,Op.equal,Op.maxDepth,run_equalIn_bool' w _ _ _ _ hs];rfl),.bool _⟩
 ·rename_i xs ys;obtain⟨K,hs⟩:=hs;obtain⟨O,rfl,_,_⟩:=J.uh;obtain⟨S,rfl,_,_⟩:=U.uh;refine⟨_,?_,.bool _⟩;rw[Sem.run_bind,run_eqGuard_agg w .eql t X Y O S K,Result.andThen_ok,run_eql_struct,(Wo c 30).1 t _ _ _ _ 10000 w gf hs J U,Result.andThen_ok]
 ·rename_i xs ys;obtain⟨K,hs⟩:=hs;obtain⟨O,rfl,_,_⟩:=J.uh;obtain⟨S,rfl,_,_⟩:=U.uh;refine⟨_,?_,.bool _⟩;rw[Sem.run_bind,run_eqGuard_agg w .neq t X Y O S K,Result.andThen_ok,run_neq_struct,(Wo c 30).1 t _ _ _ _ 10000 w gf hs J U,Result.andThen_ok]
 ·exact hs.elim
structure kc where
 v:I
 H:ab
 s:Prop
def az(H:ab)(i:Nat):bD:=H.getD i .gone
def an(H:ab)(i:Nat)(b:bD):ab:=H.set i b
theorem kD{b:bD}(h:az H i=b)(J:b.live):H[i]?=some b:=by
 unfold az at h;rw[gg]at h;cases hi:H[i]? with
 |none=>rw[hi]at h;subst h;exact J.elim
 |some x=>rw[hi]at h;simp at h;rw[h]
def Cn(P:Program)(t:TypeId)(cs:List I)(off:Nat):h7:=
 match P.underlying t with
 |some (.struct _)|some (.array _ _)=>⟨.agg<|(cs.drop off).take (P.cellsOf t),off+P.cellsOf t<=cs.length⟩
 |some _=>⟨cs.getD off .top,off<cs.length⟩
 |none=>bad
theorem aSe{t:TypeId}(hu:P.underlying t=some d)(J:TypeDesc.isAgg d=true)(w)(a)(f)(h:∀j,j<P.cellsOf t->w.cell? (a.add j)=some (f j)):
  (loadVar t a).run P w=.ok (.agg ((List.range (P.cellsOf t)).map f).toArray) w:=by
 simp[loadVar,NP hu,J,gT hu,run_loadCells w a _ f h]
theorem aSf{t:TypeId}(hu:P.underlying t=some d)(J:TypeDesc.isAgg d=false)(w)(a)(v)(h:w.cell? a=some v):
  (loadVar t a).run P w=.ok v w:=by
 simp[loadVar,NP hu,J,h]
theorem Z4{t:TypeId}{a:Addr}{vs:Nat->Value}(hs:(Cn P t cs off).s)
  (O:∀j,j<cs.length->c.w.cell? (a.add j)=some (vs j)) (S:∀(j:Nat) (x:I),cs[j]?=some x->aK c x (vs j)) (T:a.spot=none):
  ∃v,(loadVar t (a.add off)).run P c.w=.ok v c.w/\aK c (Cn P t cs off).v v:=by
 have V:∀m n,(a.add m).add n=a.add (m+n):=by grind [Addr.add,vh]
 unfold Cn at *;cases hu:P.underlying t with
 |none=>simp[hu,bad]at hs
 |some d=>
  simp only[hu]at hs ⊢;by_cases U:TypeDesc.isAgg d=true
  ·have hle:off+P.cellsOf t<=cs.length:=by grind [TypeDesc.isAgg]
   refine⟨_,aSe hu U c.w _ (λj=>vs<|off+j) (λj Z=>by rw[V];exact O _ gf),?_⟩
   have:aK c (.agg<|(cs.drop off).take (P.cellsOf t)) (.agg ((List.range (P.cellsOf t)).map λj=>vs<|off+j).toArray):=by
    refine .agg _ _ nc λi x v h1 h2=>?_;rw[List.getElem?_take,List.getElem?_drop]at h1;split at h1
    ·rename_i K;simp[K]at h2;subst h2;exact S _ _ h1
    ·cases h1
   cases d<;>first|exact this|(simp[TypeDesc.isAgg]at U)
  ·have U:=oq U;have K:=by cases d<;>first|exact hs|(simp[TypeDesc.isAgg]at U)
   have J:=dn K;refine⟨_,aSf hu U c.w _ _<|O _ K,?_⟩;have:aK c (cs.getD off .top) (vs off):=j9
   cases d<;>first|exact this|(simp[TypeDesc.isAgg]at U)
theorem Bz{vs:Array Value}(h:w.heap[b]?=some (.cells vs e bH))(off):w.cell? ⟨b,off,none⟩=vs[off]?:=by simp[World.cell?,h]
theorem pL(b off n):(Addr.mk b off none).add n=⟨b,off+n,none⟩:=by
 unfold Addr.add;split
 ·rename_i h;simp[h]
 ·rfl
def An(P:Program)(t:TypeId)(x:I)(H:ab):h7:=
 match x with
 |.cptr cs=>Cn P t cs 0
 |.ref i v off=>
  match az H i with
  |.cells ba cs=>⟨(Cn P t cs off).v,v=ba/\(Cn P t cs off).s⟩
  |_=>bad
 |_=>bad
theorem cZ{b:bD}(h:az H i=b)(J:b.live):i<H.length:=(cu.1 (kD h J)).1
theorem bm.cells{c:Ctx}{H:ab}(h:bm c H){i ba:Nat}{cs:List I}(hi:az H i=.cells ba cs)(hd:c.c0 i=false):
  i<c.n/\c.ba i=ba/\∃vs e bH,c.w.heap[c.bo i]?=some (.cells vs e bH)/\cs.length<=vs.size/\(vs.size<=bH.1\/bH.2<=bH.1)/\∀(j:Nat) (x) (v),cs[j]?=some x->vs[j]?=some v->aK c x v:=by
 refine⟨by rw[h.n];exact cZ hi trivial,?_⟩
 cases(h.rep i _ (kD hi trivial))with
 |cells _ _ vs e bH U hd K hl O S=>grind
 |void _ U J=>rw[hd]at J;cases J
theorem bm.qw(h:bm c H)(hi:az H i=.cells ba cs):c.ba i=ba:=by
 cases(h.rep i _ (kD hi trivial))with
 |cells _ _ _ _ _ J=>exact J
 |void _ J=>exact J
theorem Wn{t:TypeId}(S:bm c H)(J:aK c x b4)(hs:(An P t x H).s):
  ∃v,(Instr.loadAt t b4).run P c.w=.ok v c.w/\aK c (An P t x H).v v:=by
 unfold An at *;split at hs
 ·cases J with
  |cptr _ a vs V Z I U=>
   obtain⟨v,h1,h2⟩:=Z4 hs I U V;refine⟨v,?_,h2⟩;have:a.add 0=a:=by simp[Addr.add]
   rw[this]at h1;simp[Instr.loadAt,Instr.sureAddr,h1]
 ·rename_i i v off;split at hs
  ·rename_i ba cs T;obtain⟨aF,hs⟩:=hs;have e0:=S.qw T;cases J with
   |ref _ _ _ _ _ _ _ K=>
    obtain⟨hd,K⟩:=K gf;obtain⟨hi,_,vs,e,bH,z,hl,aA,U⟩:=S.cells T hd;rw[K];obtain⟨u,h1,h2⟩:=Z4 (a:=⟨c.bo i,0,none⟩) (vs:=λj=>vs.getD j undef) hs
     (λj O=>by rw[pL,Bz z];simp[show j<vs.size by omega])
     (λj y O=>by have av:=(cu.1 O).1;refine U j y _ O ?_;simp[show j<vs.size by omega]) rfl
    refine⟨u,?_,h2⟩;rw[pL,lr]at h1;simp[Instr.loadAt,Instr.sureAddr,h1]
  ·exact hs.elim
 ·exact hs.elim
def Ctx.push(c:Ctx)(o:Obj)(v0:Nat:=0):Ctx:=
 {w:=c.w.alloc o,n:=c.n+1,bo:=λi=>if i=c.n then c.w.heap.size else c.bo i,ba:=λi=>if i=c.n then v0 else c.ba i,c0:=λi=>if i=c.n then false else c.c0 i,hb:=c.hb,base:=c.base}
theorem ud{o:Obj}(h:b<w.heap.size):(w.alloc o).heap[b]?=w.heap[b]?:=by show(w.heap.push o)[b]?=_;rw[Array.getElem?_push,ar gf]
theorem mv(w:World)(o):(w.alloc o).heap[w.heap.size]?=some o:=by show(w.heap.push o)[w.heap.size]?=_;simp
theorem Ext.push{c:Ctx}{H:ab}(J:bm c H)(o:Obj)(v0:Nat:=0):Ext c (c.push o v0) where
 n:=oi _
 size:=by simp[Ctx.push]
 st:=λb U=>⟨U,ud (J.st b U).1⟩
 ba:=λi hi=>by grind [Ctx.push]
 bo:=λi hi _=>by
  refine⟨by simp[Ctx.push,show ¬i=c.n by omega],by simp[Ctx.push,show ¬i=c.n by omega],λhd=>?_⟩
  unfold bsize Ctx.push;rw[ud (J.lt i hi hd)]
 os:=rfl
 tape:=⟨rfl,bh _⟩
 output:=rfl
 base:=rfl
theorem fR.n9{c c':Ctx}{i:Nat}{B:bD}(J:zQ c c')(hi:i<c.n)(O:∀i,i<c.n->c.ba i=0->c'.ba i=0)(U:c'.ba i=c.ba i)(S:c.c0 i=false->c'.w.heap[c.bo i]?=c.w.heap[c.bo i]?)(h:fR c i B):fR c' i B:=by
 obtain⟨ax,K, -⟩:=J.bo i hi U;cases h with
 |cells ba cs vs e bH ay hd h1 h2 h3 h4=>exact .cells ba cs vs e bH (U.trans ay) (K.trans hd) j9 h2 h3 λj x v p q=>(h4 j x v p q).n9 J
 |void ba ay hd=>exact .void ba (U.trans ay)<|K.trans hd
 |map es clock c8 ay hd h1 h2 h3=>exact .map es clock c8 (U.trans ay) (K.trans hd) (by rw[ax];exact(S hd).trans h1) h2 λj p e q r=>⟨(h3 j p e q r).1.n9 J,(h3 j p e q r).2.1.n9 J,(h3 j p e q r).2.2⟩
 |iY m since seen T ay hd h1 h2 h3 h4=>obtain⟨m1,m2, -⟩:=J.bo m h1 j9;exact .iY m since seen T (U.trans ay) (K.trans hd) (tI h1 J.n) (O m h1 h2) (m2.trans h3) j9
 |mI s pos ay hd h1 V=>exact .mI s pos (U.trans ay) (K.trans hd) j9 V
 |loop l α N st Z ps I ec fn D ts ay hd hl h1 h2 h3=>exact .loop l α N st Z ps I ec fn D ts (U.trans ay) (K.trans hd) (ax.trans hl) j9 h2 λt=>(h3 t).n9 J
 |dc t ba cs vs ay hd h1 h2 z h4=>exact .dc t ba cs vs (U.trans ay) (K.trans hd) j9 h2 z λj x v p q=>(h4 j x v p q).n9 J
 |pE t ba ay hd=>exact .pE t ba (U.trans ay)<|K.trans hd
 |gone hd=>exact .gone<|K.trans hd
theorem fR.mono(J:Ext c c')(hi:i<c.n)(U:∀i,i<c.n->c.ba i=0->c'.ba i=0)(K:c'.ba i=c.ba i)(O:c.c0 i=false->c'.w.heap[c.bo i]?=c.w.heap[c.bo i]?)(h:fR c i B):fR c' i B:=
 h.n9 J.Rc hi U K O
theorem bm.push{c:Ctx}{H:ab}(J:bm c H)(o){B:bD}(v0:Nat:=0)(V:fR (c.push o v0) c.n B):bm (c.push o v0) (H++[B]) where
 j0:=J.j0.mono<|Ext.push J o v0
 n:=by simp[Ctx.push,J.n]
 lt:=λi hi hd=>by
  simp only[Ctx.push]at hi hd ⊢;by_cases h:i=c.n
  ·simp[h]
  ·simp only[h,gB,World.size_alloc]at hd ⊢;have:=J.lt i gf hd;omega
 inj:=λi j b Z hi O S I U K he=>by
  have T:i<H.length+1:=j9;have z:=by simpa using(cu.1 O).1
  have af:=J.n;simp only[Ctx.push]at he U K;by_cases h1:i=c.n<;>by_cases h2:j=c.n
  ·omega
  ·simp only[h1,h2,dW,gB]at he K;have:=J.lt j gf K;omega
  ·simp only[h1,h2,dW,gB]at he U;have:=J.lt i gf U;omega
  ·simp only[h1,h2,gB]at he U K;rw[jc gf]at hi O;exact J.inj i j b Z hi O S I U K he
 st:=λk hk=>by
  obtain⟨h1,h2⟩:=J.st k hk;refine⟨by simp[Ctx.push];omega,λi b hi S hd=>?_⟩
  have T:=by simpa using(cu.1 hi).1
  have af:=J.n;simp only[Ctx.push]at hd ⊢;by_cases h:i=c.n
  ·simp only[h,dW];omega
  ·simp only[h,gB]at hd ⊢;rw[jc gf]at hi;exact h2 i b hi S hd
 rep:=λi b hi=>by
  have T:=by simpa using(cu.1 hi).1
  have af:=J.n;by_cases h:i=c.n
  ·subst h;rw[af]at hi;simp at hi;subst hi;exact V
  ·rw[jc gf]at hi;exact(J.rep i b hi).mono (Ext.push J o v0) gf (λj O aF=>by simp[Ctx.push,show ¬j=c.n by omega,aF]) (by simp[Ctx.push,h]) λhd=>ud (J.lt i gf hd)
def Ctx.bump(c:Ctx)(i:Nat)(w':World)(cR:Nat):Ctx:=
 {w:=w',n:=c.n,bo:=λj=>if j=i then cR else c.bo j,ba:=λj=>if j=i then c.ba i+1 else c.ba j,c0:=λj=>if j=i then false else c.c0 j,hb:=c.hb,base:=c.base}
theorem bm.Ff(J:bm c H)(hi:H[i]?=some B)(hl:B.live)(aF:c.ba i≠0)(w':World)(U:Nat)(hsz:c.w.heap.size<=w'.heap.size)
  (V:U>=c.w.heap.size\/(U=c.bo i/\c.c0 i=false)) (Z:∀b,b<c.w.heap.size->b≠U->w'.heap[b]?=c.w.heap[b]?) (gH:w'.os=c.w.os) (I:(w'.tape,w'.drawn)=(c.w.tape,c.w.drawn)) (CU:w'.output=c.w.output):Ext c (c.bump i w' U):=by
 have af:=J.n;have aT:∀k,c.hb k->k≠U:=by
  intro k hk e;rcases V with h|⟨h,hd⟩
  ·have:=(J.st k hk).1;omega
  ·exact(J.st k hk).2 i B hi hl hd j9
 refine⟨bh _,hsz,λb K=>⟨K,Z b (J.st b K).1<|aT b K⟩,λj z=>?_,λj z he=>?_,gH,⟨b7 Prod.fst I,Nat.le_of_eq (b7 Prod.snd I).symm⟩,CU,rfl⟩
 ·grind [Ctx.bump]
 ·simp only[Ctx.bump]at he;by_cases h:j=i
  ·subst h;simp at he
  ·refine⟨by simp[Ctx.bump,h],by simp[Ctx.bump,h],λhd=>?_⟩
   have O:=J.lt j z hd;by_cases pe:c.bo j=U
   ·rcases V with h1|⟨h1,h2⟩
    ·omega
    · -- another block at the same place: then it is not live, or it is i
      cases S:H[j]? with
      |none=>rw[List.getElem?_eq_none_iff]at S;omega
      |some T=>
       by_cases pW:T.live
       ·exact absurd (J.inj j i T B S hi pW hl hd h2<|by rw[pe,h1]) h
       ·have:=J.rep j T S;cases this with
        |gone gN=>rw[hd]at gN;cases gN
        |_=>exact absurd trivial pW
   ·simp only[bsize,Ctx.bump];rw[Z _ O pe]
theorem bm.bump{c:Ctx}{H:ab}(K:bm c H){i:Nat}{B B':bD}(hi:H[i]?=some B)(hl:B.live)(aF:c.ba i≠0)(w':World)(O:Nat)(hsz:c.w.heap.size<=w'.heap.size)(eC:O<w'.heap.size)
  (oM:O>=c.w.heap.size\/(O=c.bo i/\c.c0 i=false)) (k9:∀b,b<c.w.heap.size->b≠O->w'.heap[b]?=c.w.heap[b]?) (gH:w'.os=c.w.os) (C4:(w'.tape,w'.drawn)=(c.w.tape,c.w.drawn)) (CU:w'.output=c.w.output)
  (cf:fR (c.bump i w' O) i B'):Ext c (c.bump i w' O)/\bm (c.bump i w' O) (an H i B'):=by
 have av:=(cu.1 hi).1;have af:=K.n;have aT:∀k,c.hb k->k≠O:=by
  intro k hk e;rcases oM with h|⟨h,hd⟩
  ·have:=(K.st k hk).1;omega
  ·exact(K.st k hk).2 i B hi hl hd<|by rw[<-h,<-e]
 have J:=K.Ff hi hl aF w' O hsz oM k9 gH C4 CU;refine⟨J,?_⟩;have RQ:∀j V,j≠i->H[j]?=some V->V.live->c.c0 j=false->c.bo j≠O:=by
  intro j V kk U Z hd e;have I:j<c.n:=by rw[af];exact(cu.1 U).1
  rcases oM with h1|⟨h1,h2⟩
  ·have:=K.lt j I hd;omega
  ·exact kk<|K.inj j i V B U hi Z hl hd h2 (by rw[e,h1])
 refine⟨K.j0.mono J,by simp[an,Ctx.bump,af],λj U S=>?_,λj k b Cm U hk z T fB gj he=>?_,λk hk=>?_,λj b U=>?_⟩
 ·simp only[Ctx.bump]at U S ⊢;by_cases h:j=i
  ·simp only[h,dW];exact eC
  ·simp only[h,gB]at S ⊢;have:=K.lt j U S;omega
 ·simp only[Ctx.bump,an]at *;by_cases h1:j=i<;>by_cases h2:k=i
  ·omega
  ·simp only[h1,h2,dW,gB]at he gj;rw[gS gf]at hk;exact absurd he.symm<|RQ k Cm h2 hk T gj
  ·simp only[h1,h2,dW,gB]at he fB;rw[gS gf]at U;exact absurd he<|RQ j b h1 U z fB
  ·simp only[h1,h2,gB]at he fB gj;rw[gS gf]at U hk;exact K.inj j k b Cm U hk z T fB gj he
 ·obtain⟨h1,h2⟩:=K.st k hk;refine⟨by simp only[Ctx.bump];omega,λj b U z S=>?_⟩
  simp only[Ctx.bump,an]at *;by_cases h:j=i
  ·simp only[h,dW];exact λe=>aT k hk e.symm
  ·simp only[h,gB]at S ⊢;rw[gS gf]at U;exact h2 j b U z S
 ·by_cases h:j=i
  ·subst h;simp[an,av]at U;subst U;exact cf
  ·simp only[an]at U;rw[gS gf]at U;have h1:=K.rep j b U;have I:j<c.n:=by rw[af];exact(cu.1 U).1
   refine h1.mono J I (λk _ kK=>?_) (by simp[Ctx.bump,h]) (λS=>?_)
   ·simp only[Ctx.bump];have:k≠i:=λe=>aF<|e▸kK
    simp[this,kK]
   ·by_cases Z:b.live
    ·exact k9 _ (K.lt j I S)<|RQ j b h U Z S
    ·cases h1 with
     |gone gN=>rw[S]at gN;cases gN
     |_=>exact absurd trivial Z
theorem bm.update(K:bm c H)(hi:H[i]?=some B)(hl:B.live)(hd:c.c0 i=false)(w')(hsz:w'.heap.size=c.w.heap.size)
  (T:∀b,b≠c.bo i->w'.heap[b]?=c.w.heap[b]?) (qV:bsize w' (c.bo i)=bsize c.w (c.bo i)) (gH:w'.os=c.w.os) (I:(w'.tape,w'.drawn)=(c.w.tape,c.w.drawn)) (CU:w'.output=c.w.output)
  (cf:fR {c with w:=w'} i B'):Ext c {c with w:=w'}/\bm {c with w:=w'} (an H i B'):=by
 have av:=(cu.1 hi).1;have J:Ext c {c with w:=w'}:=by
  refine⟨bh _,by simp[hsz],λb O=>⟨O,T b λe=>(K.st b O).2 i B hi hl hd e.symm⟩,λ_ _=>bh _,λj U _=>⟨rfl,rfl,λ_=>?_⟩,gH,⟨b7 Prod.fst I,Nat.le_of_eq (b7 Prod.snd I).symm⟩,CU,rfl⟩
  by_cases h:c.bo j=c.bo i
  ·simp only[h];exact qV
  ·simp only[bsize];rw[T _ h]
 refine⟨J,?_⟩;refine⟨K.j0.mono J,by simp[an,K.n],λj U S=>by simpa[hsz]using K.lt j U S,λj k b z U hk O eC V Z he=>?_,λk hk=>?_,λj b U=>?_⟩
 ·by_cases h1:j=i
  ·by_cases h2:k=i
   ·omega
   ·subst h1;simp only[an]at hk;rw[gS gf]at hk;exact K.inj j k B z hi hk hl eC V Z he
  ·simp only[an]at U hk;rw[gS gf]at U;by_cases h2:k=i
   ·subst h2;exact K.inj j k b B U hi O hl V Z he
   ·rw[gS gf]at hk;exact K.inj j k b z U hk O eC V Z he
 ·obtain⟨h1,h2⟩:=K.st k hk;refine⟨by simpa[hsz]using h1,λj b U O S=>?_⟩
  by_cases h:j=i
  ·subst h;exact h2 j B hi hl S
  ·simp only[an]at U;rw[gS gf]at U;exact h2 j b U O S
 ·by_cases h:j=i
  ·subst h;simp[an,av]at U;subst U;exact cf
  ·simp only[an]at U;rw[gS gf]at U;have h1:=K.rep j b U;by_cases pW:b.live
   ·exact h1.mono J (by rw[K.n];exact(cu.1 U).1) (λ_ _ aF=>aF) rfl λS=>T _ λe=>h (K.inj j i b B U hi pW hl S hd e)
   ·cases h1 with
    |gone hd=>exact .gone hd
    |_=>exact absurd trivial pW
def I.one:I->Bool
 |.agg _|.aN _|.opt _ _|.top=>false
 |_=>true
theorem aK.one{c:Ctx}{x:I}{v:Value}(h:aK c x v)(J:x.one=true):v.oneCell'=true:=by cases h<;>first|rfl|assumption|(simp[I.one]at J)
theorem cells_one(h:v.oneCell'=true):v.cells= #[v]:=by cases v<;>first|rfl|(simp[Value.oneCell']at h)
def I.known:I->Bool
 |.agg _=>true
 |x=>x.one
theorem aK.cells{c:Ctx}{x:I}{v:Value}(h:aK c x v)(hk:x.known=true):
  v.cells.size=x.cells.length/\∀(i:Nat) (y:I) (u:Value),x.cells[i]?=some y->v.cells[i]?=some u->aK c y u:=by
 cases x with
 |agg cs=>obtain⟨vs,rfl,h1,h2⟩:=h.uh;exact⟨h1,h2⟩
 |aN _=>simp[I.known,I.one]at hk
 |opt _ _=>simp[I.known,I.one]at hk
 |top=>simp[I.known,I.one]at hk
 |_=>
  rw[cells_one (h.one rfl)];refine⟨rfl,λi y u h1 h2=>?_⟩;cases i with
  |zero=>simp[I.cells]at h1 h2;subst h1;subst h2;exact h
  |succ i=>simp[I.cells]at h1
def du(cs:List I)(off:Nat)(xs:List I):List I:=cs.take off++xs++cs.drop (off+xs.length)
def lv(vs:Array Value)(off:Nat):List Value->Array Value
 |[]=>vs
 |x::xs=>lv (vs.setIfInBounds off x) (off+1) xs
theorem Ab(vs:Array Value)(off:Nat)(xs:List Value):(lv vs off xs).size=vs.size:=by
 induction xs generalizing vs off with
 |nil=>rfl
 |cons x xs J=>simp[lv,J]
theorem aAF(vs)(off)(xs)(h:off+xs.length<=vs.size)(j):
  (lv vs off xs)[j]?=if off<=j/\j<off+xs.length then xs[j-off]? else vs[j]?:=by
 induction xs generalizing vs off with
 |nil=>simp[lv];omega
 |cons x xs J=>rw[lv];grind
theorem HT(vs)(off)(xs)(n)(af:xs.length=n)(h:off+n<=vs.size)(j):
  (lv vs off xs)[j]?=if off<=j/\j<off+n then xs[j-off]? else vs[j]?:=by
 subst af;exact aAF vs off xs h j
def World.putCells(w:World)(b:Nat)(vs:Array Value)(e:TypeId)(bH:Nat×Nat):World:={w with heap:=w.heap.setIfInBounds b (.cells vs e bH)}
theorem vS{vs:Array Value}(h:b<w.heap.size):(World.putCells w b vs e bH).heap[b]?=some (.cells vs e bH):=by simp[World.putCells,h]
theorem y1{k:Nat}{vs:Array Value}(h:k≠b):(World.putCells w b vs e bH).heap[k]?=w.heap[k]?:=by simp[World.putCells,Array.getElem?_setIfInBounds_ne<|ka h]
theorem TB{vs:Array Value}(h:w.heap[b]?=some (.cells vs e bH))(v:Value):
  w.setCell ⟨b,off,none⟩ v=World.putCells w b (vs.setIfInBounds off v) e bH:=by
 unfold World.setCell World.putCells;congr 1;grind
theorem aCO{vs:Array Value}(h:w.heap[b]?=some (.cells vs e bH)):World.putCells w b vs e bH=w:=by have:w.heap.setIfInBounds b (.cells vs e bH)=w.heap:=j9;unfold World.putCells;rw[this]
theorem aRO{vs:Array Value}:World.putCells (World.putCells w b vs e bH) b us e bH=World.putCells w b us e bH:=by unfold World.putCells;simp
theorem Tu{vs:Array Value}(xs)(J:w.heap[b]?=some (.cells vs e bH))(hle:off+xs.length<=vs.size)(K:vs.size<=bH.1\/bH.2<=bH.1)
  (U:∀x∈xs,x.oneCell'=true):(storeCells ⟨b,off,none⟩ xs).run P w=.ok () (World.putCells w b (lv vs off xs) e bH):=by
 have key:∀(xs) (i) (w) (vs),w.heap[b]?=some (.cells vs e bH)->off+i+xs.length<=vs.size->(vs.size<=bH.1\/bH.2<=bH.1)->(∀x∈xs,x.oneCell'=true)->
   (storeCells ⟨b,off,none⟩ xs i).run P w=.ok () (World.putCells w b (lv vs (off+i) xs) e bH):=by
  intro xs;induction xs with
  |nil=>intro i w vs J _ _ _;simp only[storeCells,Sem.run_pure,lv];rw[aCO J]
  |cons x xs O=>
   intro i w vs J hle K U;simp only[cd]at hle;obtain⟨S,he⟩:=qA.1 J;have T:w.cell? ⟨b,off+i,none⟩=some (vs[off+i]'(by omega)):=by rw[Bz J];grind
   have V:w.frozen? ⟨b,off+i,none⟩=false:=by simp only[World.frozen?,J];by_cases h1:bH.1<=off+i<;>by_cases h2:off+i<bH.2<;>simp[h1,h2];omega
   have h1:(store (Addr.mk b off none|>.add i) x).run P w=.ok () (World.putCells w b (vs.setIfInBounds (off+i) x) e bH):=by rw[run_store P w _ x .plain (U x hW),pL,T];simp only[V,mM,gB];rw[TB J]
   simp only[storeCells,Sem.run_bind,h1,Result.andThen_ok];rw[O (i+1) _ (vs.setIfInBounds (off+i) x) (vS S) nc (oq K) (λy Z=>U y<|by simp[Z]),aRO]
   rfl
 simp_all
def yE(P:Program)(t:TypeId)(x y:I)(H:ab):kc:=
 match x with
 |.ref i v off=>
  match az H i with
  |.cells ba cs=>⟨.top,an H i<|.cells ba (du cs off y.cells),v=ba/\off+y.cells.length<=cs.length/\(P.underlying t).isSome=true/\P.cellsOf t=y.cells.length/\y.known=true/\y.cells.all I.one=true⟩
  |_=>⟨.top,H,False⟩
 |_=>⟨.top,H,False⟩
theorem HM(h:off+xs.length<=cs.length):(du cs off xs).length=cs.length:=by simp[du];omega
theorem Lx(h:off+xs.length<=cs.length)(j):
  (du cs off xs)[j]?=if off<=j/\j<off+xs.length then xs[j-off]? else cs[j]?:=by
 unfold du;by_cases h1:j<off
 ·grind []
 grind
theorem bm.putCells{c:Ctx}{H:ab}(K:bm c H){i ba off:Nat}{cs:List I}(hi:az H i=.cells ba cs)(hd:c.c0 i=false){ys:List I}{us:List Value}(hle:off+ys.length<=cs.length)(z:us.length=ys.length)
  (aw:∀(k:Nat) (y) (u),ys[k]?=some y->us[k]?=some u->aK c y u) (aD:∀u∈us,u.oneCell'=true):
  ∃w',(storeCells ⟨c.bo i,off,none⟩ us).run P c.w=.ok () w'/\Ext c {c with w:=w'}/\bm {c with w:=w'} (an H i (.cells ba<|du cs off ys)):=by
 obtain⟨bK,e0,vs,e,bH,O,hl,T,n0⟩:=K.cells hi hd;obtain⟨V,he⟩:=qA.1 O;refine⟨_,(Tu (P:=P) (off:=off) us O gf T aD),?_⟩;have Z:bsize (World.putCells c.w (c.bo i) (lv vs off us) e bH) (c.bo i)=bsize c.w (c.bo i):=by simp[bsize,vS V,O,Ab]
 have J:Ext c {c with w:=World.putCells c.w (c.bo i) (lv vs off us) e bH}:=by
  refine⟨bh _,by simp[World.putCells],λb U=>⟨U,y1 λe=>(K.st b U).2 i _ (kD hi trivial) trivial hd e.symm⟩,λ_ _=>bh _,λj au _=>⟨rfl,rfl,λ_=>?_⟩,rfl,⟨rfl,bh _⟩,rfl,rfl⟩
  by_cases h:c.bo j=c.bo i
  ·simp only[h];exact Z
  ·simp only[bsize];rw[y1 h]
 refine K.update (kD hi trivial) trivial hd _ (by simp[World.putCells]) (λb U=>y1 U) Z rfl rfl rfl ?_
 refine .cells _ _ (lv vs off us) e bH e0 hd (vS V) (by grind [HM,Ab]) (by rw[Ab];exact T) λj x v h1 h2=>?_
 rw[Lx hle]at h1;rw[aAF _ _ _ gf,z]at h2;refine aK.mono J ?_;split at h1
 ·rename_i S;simp only[S,and_self,dW]at h2;exact aw _ _ _ h1 h2
 ·rename_i S;simp only[S,gB]at h2;exact n0 j x v h1 h2
theorem VI{t:TypeId}(K:bm c H)(J:aK c x b4)(S:aK c y jl)(hs:(yE P t x y H).s):
  ∃w',(Instr.storeAt t b4 jl).run P c.w=.ok () w'/\Ext c {c with w:=w'}/\bm {c with w:=w'} (yE P t x y H).H:=by
 unfold yE at *;split at hs
 ·split at hs
  ·rename_i ba cs O;obtain⟨aF,hle,hu,hsz,hk,T⟩:=hs;obtain⟨d,hu⟩:=h6.1 hu;have e0:=K.qw O;cases J with
   |ref _ _ _ _ _ _ _ U=>
    obtain⟨hd,U⟩:=U gf;rw[U];obtain⟨h1,h2⟩:=S.cells hk;have V:∀u∈jl.cells.toList,u.oneCell'=true:=by intro u Z;obtain⟨k,I,ew⟩:=wZ Z;simp only[Array.length_toList]at I;have:=h2 k _ u (dn gf) j9;exact this.one<|fu.1 T _ (fQ _)
    obtain⟨w',gX,h3,h4⟩:=K.putCells (P:=P) O hd hle (oq h1) (λk z u p q=>h2 k z u p<|oq q) V;refine⟨w',?_,h3,h4⟩;simp[Instr.storeAt,Instr.sureAddr,storeVar,gT hu,hsz,h1,gX]
  ·exact hs.elim
 ·exact hs.elim
def E7(x:I)(H:ab):kc:=⟨.ref H.length 0 0,H++[.cells 0 x.cells],x.known=true⟩
theorem aRN(o):aK (c.push o) (.ref c.n 0 0) (.pointer<|some ⟨c.w.heap.size,0,none⟩):=
 .ref _ _ _ _ (by simp[Ctx.push]) hW rfl (λ_=>by simp[Ctx.push])
theorem Zg{t:TypeId}(U:bm c H)(J:aK c x v)(hs:(E7 x H).s):
  mq P (Instr.box t v) c (E7 x H).v (E7 x H).H:=by
 refine⟨c.push<|.cells v.cells t,.pointer<|some ⟨c.w.heap.size,0,none⟩,?_,?_,Ext.push U _,?_⟩
 ·simp[Instr.box,newVar,newRow,Ctx.push]
 ·refine U.push _ 0 ?_;obtain⟨h1,h2⟩:=J.cells hs;refine .cells _ _ v.cells t (0,0) (by simp[Ctx.push]) (by simp[Ctx.push]) (by grind [Ctx.push,mv]) gf (.inr<|bh _) λj y u p q=>(h2 j y u p q).mono<|Ext.push U _
 ·have:=aRN (c:=c)<|.cells v.cells t;rw[U.n]at this;exact this
def eU(P:Program)(t:TypeId):I:=
 match P.info? t with
 |some i=>(match i.zero with|some z=>E6 z|none=>.top)
 |none=>.top
theorem u3{t:TypeId}(h:(eU P t).known=true)(c:Ctx):∃z,(∀w,(zeroValue t).run P w=.ok z w)/\aK c (eU P t) z:=by
 unfold eU at *;cases hi:P.info? t with
 |none=>simp[hi,I.known,I.one]at h
 |some i=>
  cases J:i.zero with
  |none=>simp[hi,J,I.known,I.one]at h
  |some z=>simp[J];exact⟨z,λw=>by simp[zeroValue,typeInfo,hi,J],Qt c z⟩
def ER(P:Program)(t:TypeId)(H:ab):kc:=E7 (eU P t) H
theorem VJ{t:TypeId}(J:bm c H)(hs:(ER P t H).s):mq P (Instr.alloc t true<|.tuple #[]) c (ER P t H).v (ER P t H).H:=by obtain⟨z,h1,h2⟩:=u3 hs c;obtain⟨c',v,k1,k2,k3,k4⟩:=Zg (P:=P) (t:=t) J h2 hs;grind [Instr.box,Sem.run_bind,Instr.alloc,Result.andThen_ok,Ctx,ER,mq]
def E8(P:Program)(d:TypeDesc)(i:Nat):Option (Nat×Nat):=
 match d with
 |.struct fs=>match fs[i]? with
  |some f=>some (f.offset,P.cellsOf f.type)
  |none=>none
 |.array _ e=>some (i * P.cellsOf e,P.cellsOf e)
 |_=>none
def Co(pl:Nat->Option (Nat×Nat)):List I->List (Nat×I)->Option (List I)
 |cs,[]=>some cs
 |cs,(i,x)::r=>
  match pl i with
  |some (off,n)=>bif (x.cells.length==n)&&Nat.ble (off+n) cs.length&&x.known then Co pl (du cs off x.cells) r else none
  |none=>none
theorem YY(cells)(off)(v:Array Value):
  v.zipIdx.foldl (λcs p=>cs.setIfInBounds (off+p.2) p.1) cells=lv cells off v.toList:=by
 rw[<-Array.foldl_toList,Array.toList_zipIdx];have key:∀(l) (k) (cells),(l.zipIdx k).foldl (λcs p=>cs.setIfInBounds (off+p.2) p.1) cells=lv cells (off+k) l:=by
  intro l;induction l with
  |nil=>intro k cells;rfl
  |cons x xs J=>intro k cells;exact J (k+1) _
 exact key v.toList 0 cells
theorem Z3{c:Ctx}{pl:Nat->Option (Nat×Nat)}:∀(ps:List (Nat×I)) (vs:List (Nat×Value)) (cs:List I) (us:Array Value) (r:List I),vs.map (·.1)=ps.map (·.1)->
  (∀(k:Nat) (p:Nat×I) (q:Nat×Value),ps[k]?=some p->vs[k]?=some q->aK c p.2 q.2)->us.size=cs.length->
  (∀(j:Nat) (x:I) (v:Value),cs[j]?=some x->us[j]?=some v->aK c x v)->Co pl cs ps=some r->
  ∃ws,Instr.fill pl us vs=some ws/\ws.size=r.length/\r.length=cs.length/\∀(j:Nat) (x:I) (v:Value),r[j]?=some x->ws[j]?=some v->aK c x v
 |[],[],cs,us,r,_,_,hsz,O,h=>by simp only[Co,Option.some.injEq]at h;subst h;exact⟨us,rfl,hsz,rfl,O⟩
 |[],_::_,_,_,_,hm,_,_,_,_=>by simp at hm
 |_::_,[],_,_,_,hm,_,_,_,_=>by simp at hm
 |(i,x)::ps,(z,v)::vs,cs,us,r,hm,ad,hsz,O,h=>by
  simp only[dO,List.cons.injEq]at hm;obtain⟨rfl,hm⟩:=hm;unfold Co at h;cases S:pl z with
  |none=>rw[S]at h;cases h
  |some on=>
   obtain⟨off,n⟩:=on;rw[S]at h;simp only at h;cases U:((x.cells.length==n)&&Nat.ble (off+n) cs.length&&x.known)with
   |false=>rw[U]at h;cases h
   |true=>
    rw[U,tM]at h;simp only[dp,rD,Nat.ble_eq]at U;obtain⟨⟨h1,h2⟩,h3⟩:=U;have T:aK c x v:=ad 0 _ _ rfl rfl;obtain⟨aL,aR⟩:=T.cells h3;have hle:off+x.cells.length<=cs.length:=gf;have V:=Z3 ps vs (du cs off x.cells) (lv us off v.cells.toList) r hm (λk p q hk eO=>ad (k+1) p q hk eO)
     (by rw[Ab,HM hle];exact hsz)
     (λj y u K J=>by
      rw[Lx hle]at K;rw[HT _ _ _ x.cells.length (oq aL) gf]at J;split at K
      ·rename_i Z;rw[aC Z]at J;exact aR _ _ _ K<|oq J
      ·rename_i Z;rw[ar Z]at J;exact O _ _ _ K J) h
    obtain⟨ws,g1,g2,g3,g4⟩:=V;refine⟨ws,?_,g2,by rw[g3,HM hle],g4⟩
    unfold Instr.fill;rw[S];have RG:¬((decide (v.cells.size≠n)||decide (off+v.cells.size>us.size))=true):=nc
    simp only[RG];rw[YY];exact g1
def EG(P:Program)(t:TypeId)(ps:List (Nat×I)):h7:=
 match P.underlying t with
 |some d=>match Co (E8 P d) (eU P t).cells ps with
  |some cs=>⟨.agg cs,(eU P t).known=true/\TypeDesc.isAgg d=true⟩
  |none=>bad
 |none=>bad
theorem aRj(fs:List Field)(w)(h:∀f∈fs,∃d,P.underlying f.type=some d):
  (fs.mapM (λf=>(do pure (f.offset,<-sizeOf f.type):Sem (Nat×Nat)))).run P w=.ok (fs.map λf=>(f.offset,P.cellsOf f.type)) w:=by
 induction fs with
 |nil=>simp
 |cons f fs J=>obtain⟨d,hd⟩:=h f hW;simp only[List.mapM_cons,Sem.run_bind,gT hd,Result.andThen_ok,Sem.run_pure,(J (λg U=>h g j9)),dO]
def ZA(P:Program)(d:TypeDesc):Bool:=
 match d with
 |.struct fs=>fs.toList.all λf=>(P.underlying f.type).isSome
 |.array _ e=>(P.underlying e).isSome
 |_=>false
theorem aIL{t:TypeId}{ps:List (Nat×I)}{vs:Array (Nat×Value)}(hm:vs.toList.map (·.1)=ps.map (·.1))
  (ad:∀(k:Nat) (p:Nat×I) (q:Nat×Value),ps[k]?=some p->vs[k]?=some q->aK c p.2 q.2) (hs:(EG P t ps).s) (S:∀d,P.underlying t=some d->ZA P d=true) (w:World):
  ∃v,(Instr.build t vs).run P w=.ok v w/\aK c (EG P t ps).v v:=by
 unfold EG at *;cases hu:P.underlying t with
 |none=>simp[hu,bad]at hs
 |some d=>
  simp only[hu]at hs ⊢;cases J:Co (E8 P d) (eU P t).cells ps with
  |none=>simp[J,bad]at hs
  |some cs=>
   simp only[J]at hs ⊢;obtain⟨hk,T⟩:=hs;obtain⟨z,K,V⟩:=u3 hk c;obtain⟨Z,aR⟩:=V.cells hk;obtain⟨ws,g1,g2,g3,g4⟩:=Z3 ps vs.toList (eU P t).cells z.cells cs hm (λk p q h1 h2=>ad k p q h1<|oq h2) Z aR J
   have O:=S d hu;refine⟨.agg ws,?_,.agg _ _ g2 g4⟩;cases d<;>simp only[TypeDesc.isAgg,mM]at T;case struct fs=>
    have e:=aRj fs.toList w λf gb=>h6.1 (by simpa using fu.1 O f gb)
    have U:(λx=>((fs.toList.map λf=>(f.offset,P.cellsOf f.type)).toArray)[x]?)=E8 P (.struct fs):=by funext x;simp only[E8];rw[List.getElem?_toArray,nk,vm];cases fs[x]?<;>rfl
    simp only[Instr.build,Sem.run_bind,K,Result.andThen_ok,run_underlying hu,Array.mapM_eq_mapM_toList,Sem.run_map,e];rw[U,g1];rfl
   case array n el=>obtain⟨d',gN⟩:=h6.1 O;have U:(λi=>some (i * P.cellsOf el,P.cellsOf el))=E8 P (.array n el):=rfl;simp only[Instr.build,Sem.run_bind,K,Result.andThen_ok,run_underlying hu,gT gN];rw[U,g1];rfl
def Ei(P:Program)(t:TypeId)(f:Nat)(x:I):h7:=
 match P.underlying t with
 |some (.struct fs)=>
  match fs[f]? with
  |some fd=>
   match x with
   |.ref i v off=>⟨.ref i v<|off+fd.offset,(P.underlying fd.type).isSome=true/\P.cellsOf fd.type≠0⟩
   |.cptr cs=>⟨.cptr<|cs.drop fd.offset,(P.underlying fd.type).isSome=true/\P.cellsOf fd.type≠0⟩
   |_=>bad
  |none=>bad
 |_=>bad
theorem Addr.add_add{a:Addr}(h:a.spot=none)(m n):(a.add m).add n=a.add (m+n):=by grind [Addr.add,vh]
theorem Addr.QV{a:Addr}(h:a.spot=none)(m):(a.add m).spot=none:=by
 unfold Addr.add;split
 ·exact h
 ·rfl
theorem aCY{a:Addr}(h:aK c (.cptr cs) (.pointer<|some a))(n):aK c (.cptr<|cs.drop n) (.pointer<|some (a.add n)):=by
 cases h with
 |cptr _ _ vs U K O T=>
  refine .cptr _ _ (λj=>vs<|n+j) (Addr.QV U n) (by rw[Addr.Fb];exact K) (λj S=>?_) (λj x J=>?_)
  ·rw[Addr.add_add U];simp at S;exact O _ gf
  grind
theorem Ln{v:Nat}(h:aK c (.ref i v off) val)(U:c.ba i=v)(n):∃a,val=.pointer (some a)/\aK c (.ref i v<|off+n) (.pointer<|some (a.add n)):=by
 cases h with
 |ref _ _ _ _ hi K O J=>obtain⟨hd,J⟩:=J U;refine⟨_,J,.ref _ _ _ _ hi K rfl λ_=>⟨hd,?_⟩⟩;rw[pL]
def mQ(H:ab)(x:I):Prop:=
 match x with
 |.ref i v _=>match az H i with
  |.cells ba _=>v=ba
  |_=>False
 |.osl _ i v _ _ _=>match az H i with
  |.cells ba _=>v=ba
  |_=>False
 |_=>True
theorem L3(U:bm c H){v:Nat}(h:mQ H (.ref i v off)):c.ba i=v:=by
 unfold mQ at h;simp at h;cases J:az H i with
 |cells ba cs=>rw[J]at h;rw[h];exact U.qw J
 |_=>rw[J]at h;exact h.elim
theorem xh(U:bm c H){v:Nat}(h:mQ H (.osl s i v off len lc)):c.ba i=v:=by
 unfold mQ at h;simp at h;cases J:az H i with
 |cells ba cs=>rw[J]at h;rw[h];exact U.qw J
 |_=>rw[J]at h;exact h.elim
theorem aFt{t:TypeId}(S:bm c H)(J:aK c x b4)(hl:mQ H x)(hs:(Ei P t f x).s)(w):
  ∃v,(Instr.fieldAt t b4 f).run P w=.ok v w/\aK c (Ei P t f x).v v:=by
 unfold Ei at *;cases hu:P.underlying t with
 |none=>simp[hu,bad]at hs
 |some d=>
  cases d<;>simp[hu,bad]at hs;case struct fs=>
   simp;cases U:fs[f]? with
   |none=>simp[U]at hs
   |some fd=>
    simp only[U]at hs;cases x<;>simp only at hs;case ref i v off=>obtain⟨K,O⟩:=hs;obtain⟨d,hd⟩:=h6.1 K;obtain⟨a,rfl,T⟩:=Ln J (L3 S hl) fd.offset;exact⟨_,by simp[Instr.fieldAt,run_underlying hu,U,Instr.sureAddr,fieldPlace,gT hd,O],T⟩
    case cptr cs=>
     obtain⟨K,O⟩:=hs;obtain⟨d,hd⟩:=h6.1 K;cases J with
     |cptr _ a vs h1 h2 h3 h4=>exact⟨_,by simp[Instr.fieldAt,run_underlying hu,U,Instr.sureAddr,fieldPlace,gT hd,O],aCY (.cptr cs a vs h1 h2 h3 h4) _⟩
def Ej(P:Program)(t:TypeId)(x r9:I):h7:=
 match P.underlying t with
 |some (.slice e)=>
  match x,r9 with
  |.sl _ es,.int _ i=>⟨.cptr (es.getD i.toNat .top).cells,0<=i/\i<es.length/\(P.underlying e).isSome=true/\P.cellsOf e=(es.getD i.toNat .top).cells.length⟩
  |.osl s j v off len _,.int _ i=>⟨.ref j v<|off+i.toNat * s,0<=i/\i<len/\(P.underlying e).isSome=true/\P.cellsOf e=s/\s≠0⟩
  |_,_=>bad
 |some (.array n e)=>
  match x,r9 with
  |.ref j v off,.int _ i=>⟨.ref j v<|off+i.toNat * P.cellsOf e,0<=i/\i<n/\(P.underlying e).isSome=true⟩
  |.cptr cs,.int _ i=>⟨.cptr<|cs.drop (i.toNat * P.cellsOf e),0<=i/\i<n/\(P.underlying e).isSome=true⟩
  |_,_=>bad
 |_=>bad
theorem aK.qm(h:aK c (.sl full es) v):∃base len cap s,∃vs:Nat->Nat->Value,v=.slice base len cap/\len=es.length/\len<=cap/\(full=true->cap=len)/\
  (es≠[]->∃a,base=some a/\a.spot=none/\c.hb a.block/\∀k j,k<es.length->j<s->c.w.cell? (a.add (k * s+j))=some (vs k j))/\(∀e∈es,e.cells.length=s)/\
  (∀(k) (e) (j) (x),es[k]?=some e->e.cells[j]?=some x->aK c x (vs k j)):=by
 cases h with
 |sl _ _ base len cap s vs h1 h2 h3 h4 J U _=>exact⟨base,len,cap,s,vs,rfl,h1,h2,h3,h4,J,U⟩
theorem aK.l9{v:Nat}(h:aK c (.osl s i v off len lc) val)(J:c.ba i=v):
  ∃base cap,val=.slice base len cap/\len<=lc/\lc<=cap/\(c.c0 i=true->len=0/\cap=0)/\(c.c0 i=false->(cap=0\/base=some ⟨c.bo i,off,none⟩)/\∃m,bsize c.w (c.bo i)=some m/\off+cap * s<=m):=by
 cases h with
 |osl _ _ _ _ _ _ _ hi U K O h1 h2=>
  cases hd:c.c0 i with
  |true=>grind
  |false=>simp_all
theorem H5{α:Type}(l:List α)(i)(d x)(h:l[i]?=some x):l.getD i d=x:=j9
theorem aFu{t:TypeId}(O:bm c H)(J:aK c x b4)(hi:aK c r9 ll)(hl:mQ H x)(hs:(Ej P t x r9).s)(w):
  ∃v,(Instr.indexAt t b4 ll).run P w=.ok v w/\aK c (Ej P t x r9).v v:=by
 unfold Ej at *;cases hu:P.underlying t with
 |none=>simp[hu,bad]at hs
 |some d=>
  cases d<;>simp only[hu,bad]at hs;case slice e=>
   simp only;cases x<;>cases r9<;>simp only at hs ⊢;case sl.int full es k i=>
    obtain⟨ay,h1,h2,h3⟩:=hs;obtain⟨d,hd⟩:=h6.1 h2;obtain⟨base,len,cap,s,vs,rfl,rfl,aR,bC,T,V,Z⟩:=J.qm;rw[hi.iD];have U:i.toNat<es.length:=gf;have I:es≠[]:=by intro e;rw[e]at U;simp at U
    obtain⟨a,rfl,a2,a3,a4⟩:=T I;have az:=dn U;rw[H5 _ _ _ _ az]at h3 ⊢;have hsz:s=P.cellsOf e:=by rw[h3];exact(V _ (fQ U)).symm
    subst hsz;refine⟨.pointer<|some (a.add (i.toNat * P.cellsOf e)),?_,?_⟩
    ·simp[Instr.indexAt,asIntOf,run_underlying hu,gT hd,ay,h1]
    ·refine .cptr _ _ (λj=>vs i.toNat j) (Addr.QV a2 _) (by rw[Addr.Fb];exact a3) (λj au=>?_) λj y z=>Z _ _ _ _ az z
     rw[Addr.add_add a2];exact a4 _ _ U gf
   case osl.int s j v off len lc k i=>
    obtain⟨ay,h1,h2,h3,h4⟩:=hs;obtain⟨d,hd⟩:=h6.1 h2;have aF:=xh O hl;obtain⟨base,cap,rfl,cw,aY1,cL,dx⟩:=J.l9 aF;rw[hi.iD];cases K:c.c0 j with
    |true=>have:=cL K;omega
    |false=>
     obtain⟨S,m,zo,aRH⟩:=dx K;rcases S with S|rfl
     ·omega
     ·refine⟨.pointer<|some ⟨c.bo j,off+i.toNat * s,none⟩,?_,?_⟩
      ·simp[Instr.indexAt,asIntOf,run_underlying hu,gT hd,ay,h1,h3,pL]
      ·cases J with
       |osl _ _ _ _ _ _ _ dB kM=>exact .ref _ _ _ _ dB kM rfl λ_=>⟨K,rfl⟩
  case array n e=>
   simp only;cases x<;>cases r9<;>simp only at hs ⊢;case ref.int j v off k i=>obtain⟨ay,h1,h2⟩:=hs;obtain⟨d,hd⟩:=h6.1 h2;obtain⟨a,rfl,aw⟩:=Ln J (L3 O hl)<|i.toNat * P.cellsOf e;rw[hi.iD];exact⟨_,by simp[Instr.indexAt,asIntOf,run_underlying hu,gT hd,ay,h1,Instr.sureAddr],aw⟩
   case cptr.int cs k i=>
    obtain⟨ay,h1,h2⟩:=hs;obtain⟨d,hd⟩:=h6.1 h2;rw[hi.iD];cases J with
    |cptr _ a vs g1 g2 g3 g4=>exact⟨_,by simp[Instr.indexAt,asIntOf,run_underlying hu,gT hd,ay,h1,Instr.sureAddr],aCY (.cptr cs a vs g1 g2 g3 g4) _⟩
def Ip(P:Program)(t:TypeId)(f:Nat)(x:I):h7:=
 match P.underlying t,x with
 |some (.struct fs),.agg cs=>match fs[f]? with
  |some fd=>apart P fd.type fd.offset cs
  |none=>bad
 |_,_=>bad
theorem aIM{t:TypeId}(J:aK c x b4)(hs:(Ip P t f x).s)(w:World):
  ∃v,(Instr.field t b4 f).run P w=.ok v w/\aK c (Ip P t f x).v v:=by
 unfold Ip at *;split at hs
 ·rename_i fs cs hu;cases U:fs[f]? with
  |none=>simp[U,bad]at hs
  |some fd=>simp[U]at hs ⊢;obtain⟨vs,rfl,h1,h2⟩:=J.uh;obtain⟨v,g1,g2⟩:=Mf h1 h2 hs;exact⟨v,by simp[Instr.field,run_underlying hu,U,asAgg,g1],g2⟩
 ·exact hs.elim
def Iq(P:Program)(t:TypeId)(x r9:I):h7:=
 match P.underlying t,x,r9 with
 |some .string,.str s,.int _ i=>⟨.int .u8 (s.getD i.toNat 0).toNat,0<=i/\i<s.length⟩
 |some (.array n e),.agg cs,.int _ i=>⟨(apart P e (i.toNat * P.cellsOf e) cs).v,0<=i/\i<n/\(apart P e (i.toNat * P.cellsOf e) cs).s⟩
 |_,_,_=>bad
theorem getElem?_mk(s:List UInt8)(i:Nat):(ByteArray.mk s.toArray)[i]?=s[i]?:=by
 by_cases h:i<s.length
 ·rw[ByteArray.getElem?_lt' _ _ (_),dn h];rfl
 ·rw[ByteArray.getElem?_ge' _ _ (by simpa[ByteArray.size]using h),wW gf]
theorem aIN{t:TypeId}(J:aK c x b4)(hi:aK c r9 ll)(hs:(Iq P t x r9).s)(w):
  ∃v,(Instr.index t b4 ll).run P w=.ok v w/\aK c (Iq P t x r9).v v:=by
 unfold Iq at *;split at hs
 ·rename_i s k i hu;obtain⟨ay,h1⟩:=hs;rw[J.nh,hi.iD];have O:i.toNat<s.length:=gf;have K:=dn O;rw[H5 _ _ _ _ K];refine⟨_,?_,.int _ _<|LN.2 ⟨gf,oC<|s[i.toNat].toNat_lt⟩⟩
  simp[Instr.index,asIntOf,run_underlying hu,ay,getElem?_mk,K]
 ·rename_i n e cs k i hu;obtain⟨ay,h1,h2⟩:=hs;rw[hi.iD];obtain⟨vs,rfl,g1,g2⟩:=J.uh;obtain⟨v,S,T⟩:=Mf g1 g2 h2;have he:∃d,P.underlying e=some d:=by
   unfold apart at h2;cases U:P.underlying e with
   |none=>rw[U]at h2;exact h2.elim
   |some d=>exact⟨d,rfl⟩
  obtain⟨d,hd⟩:=he;exact⟨v,by simp[Instr.index,asIntOf,run_underlying hu,ay,h1,gT hd,S],T⟩
 ·exact hs.elim
def E3(P:Program)(t:TypeId)(x:I)(H:ab):h7:=
 match P.underlying t,x with
 |some .string,.str s=>⟨.int .i64 s.length,True⟩
 |some (.slice _),.sl _ es=>⟨.int .i64 es.length,True⟩
 |some (.slice _),.osl s i v off len lc=>⟨.int .i64 len,mQ H<|.osl s i v off len lc⟩
 |some (.array n _),_=>⟨.int .i64 n,n<=9223372036854775807⟩
 |some (.map _ _),.iI=>⟨.int .i64 0,True⟩
 |some (.map _ _),.map i=>match az H i with
  |.map es _=>⟨.int .i64 es.length,es.length<=9223372036854775807⟩
  |_=>bad
 |_,_=>bad
theorem NO{o:Obj}(h:w.heap[b]?=some o)(J:∀c e f,o≠.cells c e f):(getObj b).run P w=.ok o w:=by unfold getObj;simp[Sem.run,h]
theorem bm.map{c:Ctx}{H:ab}(h:bm c H){i:Nat}{es:List (I×I×Nat)}{clock:Nat}(hi:az H i=.map es clock):
  i<c.n/\c.ba i=0/\c.c0 i=false/\∃c8,c.w.heap[c.bo i]?=some (.map c8 clock)/\c8.size=es.length/\
   ∀(j:Nat) (p) (e),es[j]?=some p->c8[j]?=some e->aK c p.1 e.key/\aK c p.2.1 e.val/\e.born=p.2.2:=by
 cases(h.rep i _ (kD hi trivial))with
 |map _ _ c8 J hd U hl K=>exact⟨by rw[h.n];exact cZ hi trivial,J,hd,c8,U,hl,K⟩
theorem aKn{t:TypeId}(U:bm c H)(J:aK c x b4)(hs:(E3 P t x H).s):
  ∃v,(Builtin.len_ #[t] ty #[b4]).run P c.w=.ok v c.w/\aK c (E3 P t x H).v v:=by
 unfold E3 at *;split at hs
 ·rename_i s hu;rw[J.nh];exact⟨_,by simp[Builtin.len_,run_underlying hu,goInt,zw],.int _ _<|rO.2 (oC J.zx)⟩
 ·rename_i e full es hu;have K:=J.NS;obtain⟨base,len,cap,s,vs,rfl,rfl, -⟩:=J.qm;exact⟨_,by simp[Builtin.len_,run_underlying hu,goInt],.int _ _<|rO.2 gf⟩
 ·rename_i e s i v off len lc hu;have K:=J.Gz;obtain⟨base,cap,rfl,hle, -⟩:=J.l9<|xh (s:=s) (off:=off) (len:=len) (lc:=lc) U hs;exact⟨_,by simp[Builtin.len_,run_underlying hu,goInt],.int _ _<|rO.2 gf⟩
 ·rename_i n e hu;exact⟨_,by simp[Builtin.len_,run_underlying hu,goInt],.int _ _<|rO.2 gf⟩
 ·rename_i k e hu;cases J;exact⟨_,by simp[Builtin.len_,run_underlying hu,goInt],.int _ _<|rO.2 gf⟩
 ·rename_i k e i hu;split at hs
  ·rename_i es clock O;obtain⟨hi,S,hd,c8,T,hl,I⟩:=U.map O;simp only;cases J with
   |map _ _ _ _ V=>
    rw[(V S).2];refine⟨_,?_,.int _ _<|rO.2 gf⟩
    have Z:=NO (P:=P) T hW;simp[Builtin.len_,run_underlying hu,Z,goInt,hl]
  ·exact hs.elim
 ·exact hs.elim
def Ci(P:Program)(t:TypeId)(x:I)(lo hi mx:Option I)(H:ab):h7:=
 match P.underlying t,x,lo,hi,mx with
 |some .string,.str s,none,none,none=>⟨.str s,True⟩
 |some .string,.str s,some<|.int _ l,none,none=>⟨.str<|s.drop l.toNat,0<=l/\l<=s.length⟩
 |some .string,.str s,none,some<|.int _ h,none=>⟨.str<|s.take h.toNat,0<=h/\h<=s.length⟩
 |some .string,.str s,some<|.int _ l,some<|.int _ h,none=>⟨.str<|(s.take h.toNat).drop l.toNat,0<=l/\l<=h/\h<=s.length⟩
 |some (.slice e),.sl full es,none,none,none=>⟨.sl full es,(P.underlying e).isSome=true⟩
 |some (.slice e),.sl full es,some<|.int _ l,none,none=>⟨.sl full<|es.drop l.toNat,0<=l/\l<=es.length/\(P.underlying e).isSome=true/\∀x∈es,x.cells.length=P.cellsOf e⟩
 |some (.slice e),.sl full es,none,some<|.int _ h,none=>⟨.sl (full&&decide (h=(es.length:Int)))<|es.take h.toNat,0<=h/\h<=es.length/\(P.underlying e).isSome=true⟩
 |some (.slice e),.sl _ es,some<|.int _ l,some<|.int _ h,none=>⟨.sl false<|(es.take h.toNat).drop l.toNat,0<=l/\l<=h/\h<=es.length/\(P.underlying e).isSome=true/\∀x∈es,x.cells.length=P.cellsOf e⟩
 |some (.slice e),.sl _ es,none,some<|.int _ h,some (.int _ m)=>⟨.sl true<|es.take h.toNat,0<=h/\h<=es.length/\m=h/\(P.underlying e).isSome=true⟩
 |some (.slice e),.sl _ es,some<|.int _ l,some<|.int _ h,some (.int _ m)=>⟨.sl true<|(es.take h.toNat).drop l.toNat,0<=l/\l<=h/\h<=es.length/\m=h/\(P.underlying e).isSome=true/\∀x∈es,x.cells.length=P.cellsOf e⟩
 |some (.slice e),.osl s i v off len lc,none,none,none=>⟨.osl s i v off len lc,mQ H (.osl s i v off len lc)/\(P.underlying e).isSome=true⟩
 |some (.slice e),.osl s i v off len lc,none,some<|.int _ h,none=>⟨.osl s i v off h.toNat lc,mQ H (.osl s i v off len lc)/\(P.underlying e).isSome=true/\0<=h/\h<=lc⟩
 |some (.slice e),.osl s i v off len lc,some<|.int _ l,none,none=>⟨.osl s i v (off+l.toNat * s) (len-l.toNat)<|lc-l.toNat,mQ H (.osl s i v off len lc)/\(P.underlying e).isSome=true/\P.cellsOf e=s/\0<=l/\l<=len⟩
 |some (.slice e),.osl s i v off len lc,some<|.int _ l,some<|.int _ h,none=>⟨.osl s i v (off+l.toNat * s) (h.toNat-l.toNat)<|lc-l.toNat,mQ H (.osl s i v off len lc)/\(P.underlying e).isSome=true/\P.cellsOf e=s/\0<=l/\l<=h/\h<=lc⟩
 |some (.slice e),.osl s i v off len lc,some<|.int _ l,some<|.int _ h,some (.int _ m)=>⟨.osl s i v (off+l.toNat * s) (h.toNat-l.toNat)<|m.toNat-l.toNat,mQ H (.osl s i v off len lc)/\(P.underlying e).isSome=true/\P.cellsOf e=s/\0<=l/\l<=h/\h<=m/\m<=lc⟩
 |some (.array n e),.ref i v off,none,none,none=>⟨.osl (P.cellsOf e) i v off n n,arrOk P H i v off n e⟩
 |some (.array n e),.ref i v off,some<|.int _ l,none,none=>⟨.osl (P.cellsOf e) i v (off+l.toNat * P.cellsOf e) (n-l.toNat)<|n-l.toNat,arrOk P H i v off n e/\0<=l/\l<=n⟩
 |some (.array n e),.ref i v off,none,some<|.int _ h,none=>⟨.osl (P.cellsOf e) i v off h.toNat n,arrOk P H i v off n e/\0<=h/\h<=n⟩
 |some (.array n e),.ref i v off,some<|.int _ l,some<|.int _ h,none=>⟨.osl (P.cellsOf e) i v (off+l.toNat * P.cellsOf e) (h.toNat-l.toNat)<|n-l.toNat,arrOk P H i v off n e/\0<=l/\l<=h/\h<=n⟩
 |_,_,_,_,_=>bad
where arrOk (P:Program) (H:ab) (i v off n:Nat) (e:TypeId):Prop:=mQ H (.ref i v off)/\(P.underlying e).isSome=true/\n<=9223372036854775807/\(match az H i with|.cells _ cs=>off+n * P.cellsOf e<=cs.length|_=>False)
theorem NN{v n:Nat}(K:bm c H)(J:aK c (.ref i v off) b4)(h:Ci.arrOk P H i v off n e):
  c.ba i=v/\∃a,b4=.pointer (some a)/\aK c (.osl (P.cellsOf e) i v off n n) (.slice (some a) n n):=by
 obtain⟨h1,h2,h3,h4⟩:=h;have O:=L3 K h1;refine⟨O,?_⟩;cases J with
 |ref _ _ _ _ hi S Z T=>
  obtain⟨hd,rfl⟩:=T O;cases U:az H i with
  |cells ba cs=>rw[U]at h4;obtain⟨_,_,vs,I,bH,V,hl, -, -⟩:=K.cells U hd;exact⟨_,rfl,.osl _ _ _ _ _ _ _ hi S rfl h3 (λ_ z=>j9) λ_ _=>⟨_,n,vs.size,rfl,bh _,bh _,.inr rfl,by simp[bsize,V],gf⟩⟩
  |_=>rw[U]at h4;exact h4.elim
theorem extract_mk(s:List UInt8)(l h):(ByteArray.mk s.toArray).extract l h=ByteArray.mk ((s.take h).drop l).toArray:=by
 apply ByteArray.ext
 simp[List.drop_take]
theorem lS(k)(i:Int)(y:Nat)(code)(ay:0<=i)(h1:i<=y)(w):(Instr.sliceBound (.int k i) y code).run P w=.ok i.toNat w:=run_sliceBound w k i y code ay h1
theorem GQ{full':Bool}(h:aK c (.sl full es) (.slice base len cap))(l k m sz)(hl:l<=k)(hk:k<=es.length)(hm:k<=m)(_:m<=cap)
  (O:full'=true->m=k) (hsz:l≠0->∀x∈es,x.cells.length=sz):
  aK c (.sl full'<|(es.take k).drop l) (.slice (if m=l then base else base.map (·.add (l * sz))) (k-l)<|m-l):=by
 have eY:=h.NS;obtain⟨b,n,S,s,vs,he,h1,h2,h3,h4,U,T⟩:=h.qm;cases he;refine .sl _ _ _ _ _ s (λi j=>vs (l+i) j) nc gf (λV=>by rw[O V]) (λZ=>?_) (λe he=>U e ?_) (λi e j x hi J=>?_) gf
 ·have hlen:=λe=>Z<|iL e
  simp at hlen;have I:es≠[]:=j9;obtain⟨a,rfl,a2,a3,a4⟩:=h4 I;have z:¬m=l:=gf;rw[ar z];refine⟨a.add<|l * sz,rfl,Addr.QV a2 _,by rw[Addr.Fb];exact a3,λi j hi J=>?_⟩
  simp at hi;rw[Addr.add_add a2];have hs:l=0\/sz=s:=by
   rcases Nat.eq_zero_or_pos l with ay|ay
   ·exact .inl ay
   ·right;have K:=fQ (l:=es) (n:=0) gf;rw[<-hsz gf _ K,U _ K]
  have ax:l * sz+(i * s+j)=(l+i) * s+j:=j9;rw[ax];exact a4 _ _ gf J
 ·exact yp<|zJ he
 ·rw[List.getElem?_drop,List.getElem?_take]at hi;split at hi
  ·exact T _ _ _ _ hi J
  ·cases hi
theorem DA{v:Nat}(K:c.ba i=v)(h:aK c (.osl s i v off len lc) (.slice base len cap))(l k m J)(hl:l<=k)(hk:k<=J)(Z:J<=m)(hm:m<=cap)(I:J<=lc):
  aK c (.osl s i v (off+l * s) (k-l)<|J-l) (.slice (if m=l then base else base.map (·.add (l * s))) (k-l)<|m-l):=by
 obtain⟨b,O,he,h1,z,h2,h3⟩:=h.l9 K;cases he;cases h with
 |osl _ _ _ _ _ _ _ hi S aD r0 g1 g2=>
  refine .osl _ _ _ _ _ _ _ hi S rfl gf (λe d=>?_) (λe d=>?_)
  ·grind
  ·obtain⟨U,n,T,dx⟩:=h3 d;refine⟨_,_,n,rfl,gf,gf,?_,T,?_⟩
   ·rcases U with U|rfl
    ·left;omega
    ·by_cases V:m=l
     ·left;omega
     ·rw[ar V];simp[pL]
   ·have b8:l * s+(m-l) * s=m * s:=by rw[<-o2];congr 1;omega
    have hv:=wT s hm;omega
theorem aIO{t:TypeId}{lo hi mx:Option I}{G0 hP TZ:Option Value}(V:bm c H)(J:aK c x b4)
  (T:∀y,lo=some y->∃u,G0=some u/\aK c y u) (Z:lo=none->G0=none) (S:∀y,hi=some y->∃u,hP=some u/\aK c y u) (z:hi=none->hP=none)
  (v7:∀y,mx=some y->∃u,TZ=some u/\aK c y u) (O:mx=none->TZ=none) (hs:(Ci P t x lo hi mx H).s) (w):
  ∃v,(Instr.sliceAt t b4 G0 hP TZ).run P w=.ok v w/\aK c (Ci P t x lo hi mx H).v v:=by
 have inv:∀{o:Option I} {u:Option Value} {k:IntKind} {n:Int},(∀y,o=some y->∃lT,u=some lT/\aK c y lT)->o=some (.int k n)->u=some (.int k n):=by intro o u k n h1 h2;obtain⟨lT,h3,h4⟩:=h1 _ h2;rw[h3,h4.iD]
 unfold Ci at *;split at hs
 ·rename_i s hu;rw[Z rfl,z rfl,O rfl,J.nh];exact⟨_,by simp[Instr.sliceAt,Instr.slice,run_underlying hu,Instr.sliceBounds],.str _ J.zx⟩
 ·rename_i s k l hu;obtain⟨ay,h1⟩:=hs;rw[inv T rfl,z rfl,O rfl,J.nh];refine⟨_,?_,.str _ (by have:=J.zx;simp only[hp];omega)⟩
  simp[Instr.sliceAt,Instr.slice,run_underlying hu,Instr.sliceBounds,lS k l s.length _ ay h1,extract_mk,zw]
 ·rename_i s k h hu;obtain⟨ay,h1⟩:=hs;rw[Z rfl,inv S rfl,O rfl,J.nh];refine⟨_,?_,.str _ (by have:=J.zx;simp only[gK];omega)⟩
  simp[Instr.sliceAt,Instr.slice,run_underlying hu,Instr.sliceBounds,lS k h s.length _ ay h1,extract_mk,zw]
 ·rename_i s k l k' h hu;obtain⟨ay,h1,h2⟩:=hs;rw[inv T rfl,inv S rfl,O rfl,J.nh];refine⟨_,?_,.str _ (by have:=J.zx;simp only[hp,gK];omega)⟩
  have ax:=lS (P:=P) k' h s.length .sliceAlen gf h2 w;have U:=lS (P:=P) k l h.toNat .sliceB ay gf w;simp[Instr.sliceAt,Instr.slice,run_underlying hu,Instr.sliceBounds,zw,ax,U,extract_mk]
 ·rename_i e full es hu;obtain⟨d,hd⟩:=h6.1 hs;rw[Z rfl,z rfl,O rfl];obtain⟨base,len,cap,s,vs,rfl,h1,h2,h3, -⟩:=J.qm;refine⟨_,by simp[Instr.sliceAt,Instr.slice,run_underlying hu,Instr.sliceBounds,gT hd];rfl,?_⟩
  have:=GQ J 0 es.length cap (P.cellsOf e) (cb _) (bh _) gf (bh _) (λaA=>by rw[h3 aA,h1]) λh=>absurd rfl h
  simp[Addr.add]at this ⊢;rw[h1];exact this
 ·rename_i e full es k l hu;obtain⟨ay,h1,hd,hsz⟩:=hs;obtain⟨d,hd⟩:=h6.1 hd;rw[inv T rfl,z rfl,O rfl];obtain⟨base,len,cap,s,vs,rfl,rfl,h2,h3, -⟩:=J.qm;have U:=lS (P:=P) k l es.length .sliceB ay h1 w;refine⟨_,by simp[Instr.sliceAt,Instr.slice,run_underlying hu,Instr.sliceBounds,gT hd,U];rfl,?_⟩
  have:=GQ J l.toNat es.length cap (P.cellsOf e) gf (bh _) gf (bh _) (λaA=>by rw[h3 aA]) λ_=>hsz
  simpa using this
 ·rename_i e full es k h hu;obtain⟨ay,h1,hd⟩:=hs;obtain⟨d,hd⟩:=h6.1 hd;rw[Z rfl,inv S rfl,O rfl];obtain⟨base,len,cap,s,vs,rfl,rfl,h2,h3, -⟩:=J.qm;have U:=lS (P:=P) k h cap .sliceAcap ay gf w;refine⟨_,by simp[Instr.sliceAt,Instr.slice,run_underlying hu,Instr.sliceBounds,gT hd,U];rfl,?_⟩
  have:=GQ (full':=full&&decide (h=(es.length:Int))) J 0 h.toNat cap (P.cellsOf e) (cb _) gf gf (bh _) (λaA=>by rw[dp,iK]at aA;have:=h3 aA.1;omega) (λh=>absurd rfl h)
  simpa[Addr.add]using this
 ·rename_i e full es k l k' h hu;obtain⟨ay,h1,Fs,hd,hsz⟩:=hs;obtain⟨d,hd⟩:=h6.1 hd;rw[inv T rfl,inv S rfl,O rfl];obtain⟨base,len,cap,s,vs,rfl,rfl,h2,h3, -⟩:=J.qm;have ax:=lS (P:=P) k' h cap .sliceAcap gf gf w;have U:=lS (P:=P) k l h.toNat .sliceB ay gf w;refine⟨_,by simp[Instr.sliceAt,Instr.slice,run_underlying hu,Instr.sliceBounds,gT hd,ax,U];rfl,?_⟩
  exact GQ (full':=false) J l.toNat h.toNat cap (P.cellsOf e) gf gf gf (bh _) (λaA=>p2 aA) λ_=>hsz
 ·rename_i e full es k h k' m hu;obtain⟨ay,h1,rfl,hd⟩:=hs;obtain⟨d,hd⟩:=h6.1 hd;rw[Z rfl,inv S rfl,inv v7 rfl];obtain⟨base,len,cap,s,vs,rfl,rfl,h2,h3, -⟩:=J.qm;have ax:=lS (P:=P) k' m cap .slice3Acap ay gf w;have U:=lS (P:=P) k m m.toNat .slice3B ay gf w;refine⟨_,by simp[Instr.sliceAt,Instr.slice,run_underlying hu,Instr.sliceBounds,gT hd,ax,U];rfl,?_⟩
  have:=GQ (full':=true) J 0 m.toNat m.toNat (P.cellsOf e) (cb _) gf (bh _) gf (λ_=>rfl) λh=>absurd rfl h;simpa[Addr.add]using this
 ·rename_i e full es k l k' h SX m hu;obtain⟨ay,h1,Fs,rfl,hd,hsz⟩:=hs;obtain⟨d,hd⟩:=h6.1 hd;rw[inv T rfl,inv S rfl,inv v7 rfl];obtain⟨base,len,cap,s,vs,rfl,rfl,h2,h3, -⟩:=J.qm;have cW:=lS (P:=P) SX m cap .slice3Acap gf gf w;have ax:=lS (P:=P) k' m m.toNat .slice3B gf gf w;have U:=lS (P:=P) k l m.toNat .slice3C ay gf w;refine⟨_,by simp[Instr.sliceAt,Instr.slice,run_underlying hu,Instr.sliceBounds,gT hd,cW,ax,U];rfl,?_⟩
  exact GQ (full':=true) J l.toNat m.toNat m.toNat (P.cellsOf e) gf gf gf gf (λ_=>rfl) λ_=>hsz
 ·rename_i e s i v off len lc hu;obtain⟨hl,hd⟩:=hs;obtain⟨d,hd⟩:=h6.1 hd;have K:=xh V hl;rw[Z rfl,z rfl,O rfl];obtain⟨base,cap,rfl,h1, -⟩:=J.l9 K;refine⟨_,by simp[Instr.sliceAt,Instr.slice,run_underlying hu,Instr.sliceBounds,gT hd];rfl,?_⟩
  simp[Addr.add];exact J
 ·rename_i e s i v off len lc k h hu;obtain⟨hl,hd,ay,h1⟩:=hs;obtain⟨d,hd⟩:=h6.1 hd;have K:=xh V hl;rw[Z rfl,inv S rfl,O rfl];obtain⟨base,cap,rfl,h2,h3, -⟩:=J.l9 K;have U:=lS (P:=P) k h cap .sliceAcap ay gf w;refine⟨_,by simp[Instr.sliceAt,Instr.slice,run_underlying hu,Instr.sliceBounds,gT hd,U];rfl,?_⟩
  have:=DA K J 0 h.toNat cap lc (cb _) gf h3 (bh _)<|bh _
  simpa[Addr.add]using this
 ·rename_i e s i v off len lc k l hu;obtain⟨hl,hd,rfl,ay,h1⟩:=hs;obtain⟨d,hd⟩:=h6.1 hd;have K:=xh V hl;rw[inv T rfl,z rfl,O rfl];obtain⟨base,cap,rfl,h2,h3, -⟩:=J.l9 K;have U:=lS (P:=P) k l len .sliceB ay h1 w;refine⟨_,by simp[Instr.sliceAt,Instr.slice,run_underlying hu,Instr.sliceBounds,gT hd,U];rfl,?_⟩
  exact DA K J l.toNat len cap lc gf h2 h3 (bh _)<|bh _
 ·rename_i e s i v off len lc k l k' h hu;obtain⟨hl,hd,rfl,ay,h1,Fs⟩:=hs;obtain⟨d,hd⟩:=h6.1 hd;have K:=xh V hl;rw[inv T rfl,inv S rfl,O rfl];obtain⟨base,cap,rfl,h2,h3, -⟩:=J.l9 K;have ax:=lS (P:=P) k' h cap .sliceAcap gf gf w;have U:=lS (P:=P) k l h.toNat .sliceB ay gf w;refine⟨_,by simp[Instr.sliceAt,Instr.slice,run_underlying hu,Instr.sliceBounds,gT hd,ax,U];rfl,?_⟩
  exact DA K J l.toNat h.toNat cap lc gf gf h3 (bh _)<|bh _
 ·rename_i e s i v off len lc k l k' h SX m hu;obtain⟨hl,hd,rfl,ay,h1,Fs,aX5⟩:=hs;obtain⟨d,hd⟩:=h6.1 hd;have K:=xh V hl;rw[inv T rfl,inv S rfl,inv v7 rfl];obtain⟨base,cap,rfl,h2,h3, -⟩:=J.l9 K;have cW:=lS (P:=P) SX m cap .slice3Acap gf gf w;have ax:=lS (P:=P) k' h m.toNat .slice3B gf gf w;have U:=lS (P:=P) k l h.toNat .slice3C ay gf w;refine⟨_,by simp[Instr.sliceAt,Instr.slice,run_underlying hu,Instr.sliceBounds,gT hd,cW,ax,U];rfl,?_⟩
  exact DA K J l.toNat h.toNat m.toNat m.toNat gf gf (bh _) gf gf
 ·rename_i n e i v off hu;obtain⟨K,a,rfl,aw⟩:=NN V J hs;obtain⟨d,hd⟩:=h6.1 hs.2.1;rw[Z rfl,z rfl,O rfl];refine⟨_,by simp[Instr.sliceAt,Instr.sureAddr,run_underlying hu,Instr.sliceBounds,gT hd];rfl,?_⟩
  simpa[Addr.add]using aw
 ·rename_i n e i v off k l hu;obtain⟨hs,ay,h1⟩:=hs;obtain⟨K,a,rfl,aw⟩:=NN V J hs;obtain⟨d,hd⟩:=h6.1 hs.2.1;rw[inv T rfl,z rfl,O rfl];have U:=lS (P:=P) k l n .sliceB ay h1 w;refine⟨_,by simp[Instr.sliceAt,Instr.sureAddr,run_underlying hu,Instr.sliceBounds,gT hd,U];rfl,?_⟩
  simpa[apply_ite]using DA K aw l.toNat n n n gf (bh _) (bh _) (bh _) (bh _)
 ·rename_i n e i v off k h hu;obtain⟨hs,ay,h1⟩:=hs;obtain⟨K,a,rfl,aw⟩:=NN V J hs;obtain⟨d,hd⟩:=h6.1 hs.2.1;rw[Z rfl,inv S rfl,O rfl];have U:=lS (P:=P) k h n .sliceAlen ay h1 w;refine⟨_,by simp[Instr.sliceAt,Instr.sureAddr,run_underlying hu,Instr.sliceBounds,gT hd,U];rfl,?_⟩
  simpa[Addr.add]using DA K aw 0 h.toNat n n (cb _) gf (bh _) (bh _) (bh _)
 ·rename_i n e i v off k l k' h hu;obtain⟨hs,ay,h1,h2⟩:=hs;obtain⟨K,a,rfl,aw⟩:=NN V J hs;obtain⟨d,hd⟩:=h6.1 hs.2.1;rw[inv T rfl,inv S rfl,O rfl];have ax:=lS (P:=P) k' h n .sliceAlen gf h2 w;have U:=lS (P:=P) k l h.toNat .sliceB ay gf w;refine⟨_,by simp[Instr.sliceAt,Instr.sureAddr,run_underlying hu,Instr.sliceBounds,gT hd,ax,U];rfl,?_⟩
  simpa[apply_ite]using DA K aw l.toNat h.toNat n n gf gf (bh _) (bh _) (bh _)
 ·exact hs.elim
def Ctx.draw(c:Ctx):Ctx:={c with w:={c.w with drawn:=c.w.drawn+1}}
theorem Ext.draw(c):Ext c c.draw:=⟨bh _,bh _,λ_ h=>⟨h,rfl⟩,λ_ _=>bh _,λ_ _ _=>⟨rfl,rfl,λ_=>rfl⟩,rfl,⟨rfl,oi _⟩,rfl,rfl⟩
theorem bm.draw{c:Ctx}{H:ab}(h:bm c H):bm c.draw H:=
 ⟨h.j0.mono<|Ext.draw c,h.n,h.lt,h.inj,h.st,λi b hi=>(h.rep i b hi).mono (Ext.draw c) (by rw[h.n];grind) (λ_ _ J=>J) rfl λ_=>rfl⟩
def Ctx.fix(c:Ctx)(o:Obj):Ctx:={c with w:=c.w.alloc o,hb:=λb=>c.hb b\/b=c.w.heap.size}
theorem Ext.fix{c:Ctx}{H:ab}(J:bm c H)(o:Obj):Ext c (c.fix o) where
 n:=bh _
 size:=by simp[Ctx.fix]
 st:=λb U=>⟨.inl U,ud (J.st b U).1⟩
 ba:=λ_ _=>bh _
 bo:=λi hi _=>⟨rfl,rfl,λhd=>by unfold bsize Ctx.fix;rw[ud (J.lt i hi hd)]⟩
 os:=rfl
 tape:=⟨rfl,bh _⟩
 output:=rfl
 base:=rfl
theorem bm.fix{c:Ctx}{H:ab}(J:bm c H)(o):bm (c.fix o) H where
 j0:=J.j0.mono<|Ext.fix J o
 n:=J.n
 lt:=λi hi hd=>by have:=J.lt i hi hd;simp[Ctx.fix];omega
 inj:=J.inj
 st:=λk hk=>by
  rcases hk with hk|rfl
  ·obtain⟨h1,h2⟩:=J.st k hk;exact⟨by simp[Ctx.fix];omega,h2⟩
  ·refine⟨by simp[Ctx.fix],λi b hi O hd=>?_⟩
   have:=J.lt i (by rw[J.n];grind) hd
   simp[Ctx.fix];omega
 rep:=λi b hi=>by
  have U:i<c.n:=by rw[J.n];exact(cu.1 hi).1
  exact(J.rep i b hi).mono (Ext.fix J o) U (λ_ _ K=>K) rfl λhd=>ud (J.lt i U hd)
def fj(x:I)(H:ab):List I:=
 match x with
 |.sl _ es=>es.flatMap I.cells
 |.osl s i _ off len _=>match az H i with
  |.cells _ cs=>(cs.drop off).take<|len * s
  |_=>[]
 |.str s=>s.map λb=>.int .u8 b.toNat
 |_=>[]
def fg(x:I):Nat:=
 match x with
 |.sl _ es=>es.length
 |.osl _ _ _ _ len _=>len
 |.str s=>s.length
 |_=>0
def sS(x:I)(n:Nat)(H:ab):Prop:=
 match x with
 |.sl _ es=>∀e∈es,e.cells.length=n
 |.osl s i v off len lc=>s=n/\mQ H (.osl s i v off len lc)/\match az H i with
  |.cells _ cs=>off+len * s<=cs.length
  |_=>False
 |.str _=>n=1
 |_=>False
theorem Gk(h:∀e∈es,e.cells.length=s):(es.flatMap I.cells).length=es.length * s:=by induction es<;>grind
theorem My(h:∀e∈es,e.cells.length=s)(k j)(J:j<s):(es.flatMap I.cells)[k * s+j]?=(es[k]?).bind λe=>e.cells[j]?:=by
 induction es generalizing k with
 |nil=>simp
 |cons e es U=>
  cases k with
  |zero=>grind
  |succ k=>grind
theorem sP{n:Nat}(Z:bm c H)(J:aK c x v)(U:sS x n H):
  (Builtin.lenOf v).run P c.w=.ok (fg x) c.w/\(fj x H).length=fg x * n/\
  ∃us:Array Value,(Builtin.firstCells n (fg x) v).run P c.w=.ok us c.w/\us.size=(fj x H).length/\(∀(i:Nat) (y:I) (u:Value),(fj x H)[i]?=some y->us[i]?=some u->aK c y u):=by
 cases x<;>simp only[sS]at U;case sl full es=>
  obtain⟨base,len,cap,s,vs,rfl,rfl,h2,h3,h4,b6,dP⟩:=J.qm;refine⟨by simp[Builtin.lenOf,fg],by simp only[fj,fg];exact Gk U,?_⟩
  simp only[fj,fg];by_cases O:es=[]
  ·subst O;cases base with
   |none=>simp[Builtin.firstCells]
   |some a=>exact⟨#[],by simp[Builtin.firstCells,loadCells,loadCellsFrom],hW,hW⟩
  ·obtain⟨a,rfl,a2,a3,a4⟩:=h4 O;obtain⟨z,mz⟩:=List.exists_mem_of_ne_nil es O;have hs:s=n:=by rw[<-b6 z mz,U z mz]
   subst hs;have pc:∀m,m<es.length * s->c.w.cell? (a.add m)=some (vs (m / s)<|m % s):=by
    intro m hm;have K:0<s:=by
     rcases Nat.eq_zero_or_pos s with h|h
     ·subst h;omega
     ·exact h
    have lE:=a4 (m / s) (m % s) ((Nat.div_lt_iff_lt_mul K).2 hm)<|Nat.mod_lt _ K;rwa[Nat.mul_comm,Nat.div_add_mod]at lE
   refine⟨_,by simp only[Builtin.firstCells];exact run_loadCells c.w a _ (λm=>vs (m / s)<|m % s) pc,by simp[Gk U],λi y u hi hu=>?_⟩
   have S:=by have:=(cu.1 hi).1;rwa[Gk U]at this
   have K:0<s:=by
    rcases Nat.eq_zero_or_pos s with h|h
    ·subst h;omega
    ·exact h
   simp[S]at hu;subst hu;have l1:=My U (i / s) (i % s)<|Nat.mod_lt _ K;rw[Nat.mul_comm,Nat.div_add_mod]at l1;rw[l1]at hi;cases hk:es[i / s]? with
   |none=>rw[hk]at hi;cases hi
   |some e=>rw[hk]at hi;exact dP _ _ _ _ hk hi
 case osl s i v off len lc=>
  obtain⟨rfl,hl,U⟩:=U;have aF:=xh Z hl;simp only[fj,fg];cases T:az H i with
  |cells ba cs=>
   simp only[T]at U ⊢;obtain⟨base,cap,rfl,h1,Fs,h2,h3⟩:=J.l9 aF;refine⟨by simp[Builtin.lenOf],nc,?_⟩
   cases hd:c.c0 i with
   |true=>
    obtain⟨rfl,rfl⟩:=h2 hd;cases base with
    |none=>exact⟨#[],by simp[Builtin.firstCells],hW,hW⟩
    |some a=>exact⟨#[],by simp[Builtin.firstCells,loadCells,loadCellsFrom],hW,hW⟩
   |false=>
    obtain⟨cw,m,cL,dx⟩:=h3 hd;rcases cw with cw|rfl
    ·have ay:len=0:=gf;subst ay;cases base with
     |none=>exact⟨#[],by simp[Builtin.firstCells],hW,hW⟩
     |some a=>exact⟨#[],by simp[Builtin.firstCells,loadCells,loadCellsFrom],hW,hW⟩
    ·obtain⟨_,_,vs,e,bH,V,pg,aA,aw⟩:=Z.cells T hd;refine⟨_,by simp only[Builtin.firstCells];exact run_loadCells c.w _ _ (λj=>vs.getD (off+j) undef) (λj au=>by rw[pL,Bz V];simp[show off+j<vs.size by omega]),nc,λk y u hk hu=>?_⟩
     rw[List.getElem?_take,List.getElem?_drop]at hk;split at hk
     ·rename_i S;simp[S]at hu;subst hu;have y8:=(cu.1 hk).1;refine aw _ _ _ hk ?_;simp[show off+k<vs.size by omega]
     ·cases hk
  |_=>simp[T]at U
 case str s=>
  subst U;rw[J.nh];have e:(Builtin.firstCells 1 (fg<|.str s) (.string ⟨s.toArray⟩)).run P c.w=.ok (s.map λb=>Value.int .u8 b.toNat).toArray c.w:=by simp only[Builtin.firstCells,Sem.run_pure,fg];congr 1;apply Array.ext';simp[ByteArray.data_extract]
  refine⟨by simp[Builtin.lenOf,fg,zw],by simp[fj,fg],_,e,by simp[fj],λi y u hi hu=>?_⟩
  simp only[fj,nk,gA]at hi;obtain⟨b,V,rfl⟩:=hi;rw[List.getElem?_toArray,nk,V]at hu;cases hu;exact .int _ _<|LN.2 ⟨gf,oC b.toNat_lt⟩
theorem Mk{vs:Array Value}(h:w.heap[b]?=some (.cells vs e bH)):bsize w b=some vs.size:=by simp[bsize,h]
def ow(P:Program)(e:TypeId):Bool:=(P.underlying e).isSome&&(eU P e).known&&((eU P e).cells.length==P.cellsOf e)
def xm(P:Program)(t:TypeId):Bool:=
 match P.underlying t with
 |some (.int _)=>false
 |some _=>true
 |none=>false
def xi(P:Program)(ts tx:TypeId)(s x:I)(H:ab):kc:=
 match P.underlying ts with
 |some (.slice e)=>
  match s with
  |.sl full es=>⟨.osl (P.cellsOf e) H.length 1 0 (es.length+fg x)<|es.length+fg x,H++[.cells 1 (es.flatMap I.cells++fj x H)],
    ow P e=true/\xm P tx=true/\full=true/\(es=[]\/fg x≠0)/\(∀x∈es,x.cells.length=P.cellsOf e)/\sS x (P.cellsOf e) H/\(es.length+fg x) * P.bytesOf e<=140737488355328/\P.bytesOf e≠0⟩
  |.osl sz i v off len lc=>
   match az H i with
   |.cells ba cs=>
    if len=lc then
     ⟨.osl sz i (v+1) 0 (len+fg x)<|len+fg x,an H i<|.cells (v+1) (cs++fj x H),
      ow P e=true/\xm P tx=true/\v=ba/\v≠0/\off=0/\sz=P.cellsOf e/\len * sz=cs.length/\sS x sz H/\(len+fg x) * P.bytesOf e<=140737488355328/\P.bytesOf e≠0/\(fj x H).all I.one=true⟩
    else
     ⟨.osl sz i v off (len+fg x) lc,an H i<|.cells v (du cs (off+len * sz) (fj x H)),
      ow P e=true/\xm P tx=true/\v=ba/\sz=P.cellsOf e/\off+lc * sz<=cs.length/\len+fg x<=lc/\sS x sz H/\(fj x H).all I.one=true⟩
   |_=>⟨.top,H,False⟩
  |_=>⟨.top,H,False⟩
 |_=>⟨.top,H,False⟩
theorem S4{n:Nat}(h:n * b<=140737488355328)(ay:b≠0):n<=9223372036854775807:=by have:=Nat.le_mul_of_pos_right n<|Nat.pos_of_ne_zero ay;omega
theorem size_zeroCells(z:Array Value)(n:Nat):(Builtin.zeroCells z n).size=n * z.size:=by simp[Builtin.zeroCells]
theorem Tt{s x:Value}{n:Nat}{U:Array Value}(hu:P.underlying ts=some (.slice e))(T:ow P e=true)(km:xm P tx=true)
  (af:(Builtin.lenOf x).run P w=.ok n w) (hs:s=.slice base len cap) (Z:cap<len+n) (I:(len+n) * P.bytesOf e<=140737488355328) (kI:P.bytesOf e≠0)
  (hold:(Builtin.firstCells (P.cellsOf e) len s).run P {w with drawn:=w.drawn+1}=.ok U {w with drawn:=w.drawn+1})
  (V:(Builtin.firstCells (P.cellsOf e) n x).run P {w with drawn:=w.drawn+1}=.ok new {w with drawn:=w.drawn+1}):
  ∃(J:Nat) (rest:Array Value),len+n<=J/\rest.size=(J-(len+n)) * P.cellsOf e/\
   (Builtin.append_ #[ts,tx] ty #[s,x]).run P w=.ok (.slice (some ⟨w.heap.size,0,none⟩) (len+n) J) (World.alloc {w with drawn:=w.drawn+1} (.cells (U++new++rest) e)):=by
 simp only[ow,dp,rD]at T;obtain⟨⟨h1,h2⟩,h3⟩:=T;obtain⟨d,hd⟩:=h6.1 h1;obtain⟨i,hi,aBg⟩:=info_of_underlying hd;obtain⟨z,fO,gl⟩:=u3 h2 {w:=w,n:=0,bo:=λ_=>0,ba:=λ_=>0,c0:=λ_=>true,hb:=λ_=>False,base:=(0,[])};have r7:z.cells.size=P.cellsOf e:=by rw[(gl.cells h2).1,h3]
 have O:i.bytes=P.bytesOf e:=by simp[Program.bytesOf,hi]
 have nv:∃K,P.underlying tx=some K/\(∀k,K≠.int k):=by grind [xm]
 obtain⟨K,vQ,aPe⟩:=nv;have hzero:(match K with|.int _=>true|_=>false)=false:=by simp_all
 subst hs;have S:¬(len+n<=cap):=gf;have my:Builtin.nextslicecap (len+n) cap * i.bytes<=281474976710656:=by rw[O];exact growslice_fits Z I
 let J:=(len+n)+(w.tape w.drawn (.appendCap (len+n) cap e)) % (2 ^ 63-(len+n))
 refine⟨J,Builtin.zeroCells z.cells<|J-(len+n),gf,by rw[size_zeroCells,r7],?_⟩
 have jt:=gf;have RJ:=oq my;simp only[World.drew_eq]at hold V ⊢;have FL:(Question.appendCap (len+n) cap e).cut (w.tape w.drawn<|.appendCap (len+n) cap e)=J:=rfl;simp[Builtin.append_,run_underlying hu,gT hd,run_underlying vQ,af,S,kI,typeInfo,hi,O,Question.forced,hold,V,fO,newRow];rw[ar (by rw[<-O];omega),FL]
theorem Bl{x:Value}{n:Nat}(hu:P.underlying ts=some (.slice e))(O:ow P e=true)(J:xm P tx=true)
  (af:(Builtin.lenOf x).run P w=.ok n w) (hle:len+n<=cap) (S:(Builtin.firstCells (P.cellsOf e) n x).run P w=.ok new w)
  (V:∀a,base=some a->(storeCells (a.add<|len * P.cellsOf e) new.toList).run P w=.ok () w') (hw:base=none->w'=w):
  (Builtin.append_ #[ts,tx] ty #[.slice base len cap,x]).run P w=.ok (.slice base (len+n) cap) w':=by
 simp only[ow,dp,rD]at O;obtain⟨⟨h1,h2⟩,h3⟩:=O;obtain⟨d,hd⟩:=h6.1 h1;have Z:∃U,P.underlying tx=some U/\(∀k,U≠.int k):=by
  unfold xm at J;cases K:P.underlying tx with
  |none=>rw[K]at J;cases J
  |some U=>exact⟨U,rfl,λk hk=>by rw[K,hk]at J;cases J⟩
 obtain⟨U,T,I⟩:=Z;cases base with
 |none=>rw[hw rfl];simp[Builtin.append_,run_underlying hu,gT hd,run_underlying T,af,hle,S]
 |some a=>have:=V a rfl;simp[Builtin.append_,run_underlying hu,gT hd,run_underlying T,af,hle,S,this]
def Ctx.void(c:Ctx):Ctx:=
 {w:=c.w,n:=c.n+1,bo:=c.bo,ba:=λi=>if i=c.n then 1 else c.ba i,c0:=λi=>if i=c.n then true else c.c0 i,hb:=c.hb,base:=c.base}
theorem Ext.void(c:Ctx):Ext c c.void:=
 ⟨oi _,bh _,λ_ h=>⟨h,rfl⟩,λi hi=>by grind [Ctx.void],λi hi _=>⟨rfl,by simp[Ctx.void,show ¬i=c.n by omega],λ_=>rfl⟩,rfl,⟨rfl,bh _⟩,rfl,rfl⟩
theorem bm.void{c:Ctx}{H:ab}(J:bm c H):bm c.void (H++[.cells 1 []]):=by
 have af:=J.n;have U:∀{i:Nat} {b:bD},(H++[.cells 1 []])[i]?=some b->c.void.c0 i=false->i<c.n/\H[i]?=some b/\c.c0 i=false:=by intro i b hi hd;simp only[Ctx.void]at hd;grind
 refine⟨J.j0.mono<|Ext.void c,by simp[Ctx.void,af],λi hi hd=>?_,λi j b S hi O K T V Z he=>?_,λk hk=>?_,λi b hi=>?_⟩
 ·simp only[Ctx.void]at hi hd ⊢;by_cases h:i=c.n
  ·simp[h]at hd
  ·simp only[h,gB]at hd;exact J.lt i gf hd
 ·obtain⟨h1,h2,h3⟩:=U hi V;obtain⟨g1,g2,g3⟩:=U O Z;exact J.inj i j b S h2 g2 K T h3 g3 he
 ·obtain⟨h1,h2⟩:=J.st k hk;refine⟨h1,λi b hi K hd=>?_⟩;obtain⟨g1,g2,g3⟩:=U hi hd;exact h2 i b g2 K g3
 ·have z:=by simpa using(cu.1 hi).1
  by_cases h:i=c.n
  ·subst h;rw[af]at hi;simp at hi;subst hi;exact .void 1 (by simp[Ctx.void])<|by simp[Ctx.void]
  ·rw[jc gf]at hi;exact(J.rep i b hi).mono (Ext.void c) gf (λj O I=>by simp[Ctx.void,show ¬j=c.n by omega,I]) (by simp[Ctx.void,h]) λ_=>rfl
def Ctx.iZ(c:Ctx)(i:Nat):Ctx:={c with ba:=λj=>if j=i then c.ba i+1 else c.ba j}
theorem Ext.iZ(c:Ctx)(i:Nat):Ext c (c.iZ i):=by refine⟨bh _,bh _,λ_ h=>⟨h,rfl⟩,λj J=>?_,λj J _=>⟨rfl,rfl,λ_=>rfl⟩,rfl,⟨rfl,bh _⟩,rfl,rfl⟩;grind [Ctx.iZ]
theorem bm.Tq(U:bm c H)(hi:H[i]?=some B)(T:ba≠0)(V:c.ba i=ba)(Z:fR (c.iZ i) i B')(K:B.live:=by trivial):
  Ext c (c.iZ i)/\bm (c.iZ i) (an H i B'):=by
 have I:=(cu.1 hi).1;refine⟨Ext.iZ c i,⟨U.j0.mono<|Ext.iZ c i,by simp[an,Ctx.iZ,U.n],U.lt,λj k b cR J hk O eC z gj he=>?_,λk hk=>⟨(U.st k hk).1,λj b J O hd=>?_⟩,λj b J=>?_⟩⟩
 ·simp only[an]at J hk;have h1:∃x,H[j]?=some x/\x.live:=by
   grind
  have h2:∃x,H[k]?=some x/\x.live:=j9;obtain⟨x,eQ,dV⟩:=h1;obtain⟨y,ln,ni⟩:=h2;exact U.inj j k x y eQ ln dV ni z gj he
 ·simp only[an]at J;by_cases h:j=i
  ·subst h;exact(U.st k hk).2 j B hi K hd
  ·rw[gS gf]at J;exact(U.st k hk).2 j b J O hd
 ·by_cases h:j=i
  ·subst h;simp[an,I]at J;subst J;exact Z
  ·simp only[an]at J;rw[gS gf]at J;refine(U.rep j b J).mono (Ext.iZ c i) (by rw[U.n];exact(cu.1 J).1) (λk _ S=>?_) (by simp[Ctx.iZ,h]) λ_=>rfl
   simp only[Ctx.iZ];have:k≠i:=λe=>T<|by rw[<-V,<-e];exact S
   simp[this,S]
theorem Tr{ys:List I}{vs rest:Array Value}(h1:us.size=xs.length)(h2:∀(i:Nat) (y) (u),xs[i]?=some y->us[i]?=some u->aK c y u)
  (h3:vs.size=ys.length) (h4:∀(i:Nat) (y) (u),ys[i]?=some y->vs[i]?=some u->aK c y u) (i:Nat) (y) (u) (hi:(xs++ys)[i]?=some y) (hu:(us++vs++rest)[i]?=some u):aK c y u:=j9
theorem Z0{s:I}{vs:Value}(U:bm c H)(kL:aK c s vs)(J:aK c x b4)(hs:(xi P ts tx s x H).s):
  mq P (Builtin.append_ #[ts,tx] ty #[vs,b4]) c (xi P ts tx s x H).v (xi P ts tx s x H).H:=by
 unfold xi at *;cases hu:P.underlying ts with
 |none=>simp[hu]at hs
 |some aNN=>
  cases aNN<;>simp only[hu]at hs;case slice e=>
   simp only;cases s<;>simp only at hs;case sl full es=>
    obtain⟨V,Z,rfl,a1,s9,r6,aa,kI⟩:=hs;simp only;have ij:sS (.sl true es) (P.cellsOf e) H:=s9;obtain⟨z,O,us,bC,cD,ej⟩:=sP (P:=P) U J r6;obtain⟨base,len,cap,sz,mL,rfl,rfl,g2,g3,g4, -⟩:=kL.qm;have my:=g3 rfl;subst my;by_cases af:fg x=0
    · -- nothing is appended to nothing
      have aPg:es=[]:=a1.resolve_right λh=>h af;subst aPg;have pv:us= #[]:=by
       have:us.size=0:=by rw[cD,O,af];simp
       exact tJ this
      have gX:=Bl (P:=P) (w':=c.w) (ty:=ty) (base:=base) (len:=0) (cap:=0) hu V Z z gf bC (λa _=>by rw[pv];simp[storeCells]) λ_=>rfl
      have hn:fj x H=[]:=iL<|by rw[O,af];simp
      refine⟨c.void,_,gX,?_,Ext.void c,?_⟩
      ·rw[hn];exact U.void
      ·rw[af];refine .osl _ _ _ _ _ _ _ (by simp[Ctx.void,U.n]) (by simp[Ctx.void,U.n]) rfl hW (λ_ _=>⟨rfl,rfl,base,rfl⟩) λ_ hd=>by simp[Ctx.void,U.n]at hd
    ·obtain⟨-,cL,x4,dx,mH,zo⟩:=sP (P:=P) U.draw (kL.mono<|Ext.draw c) ij;obtain⟨-, -,ye,a6,bb,dm⟩:=sP (P:=P) U.draw (J.mono<|Ext.draw c) r6;obtain⟨kQ,rest,k1,k2,k3⟩:=Tt (P:=P) (ty:=ty) (w:=c.w) hu V Z z rfl gf aa kI dx a6;have hJ:=U.draw.push (.cells (x4++ye++rest) e) (B:=.cells 1<|es.flatMap I.cells++fj x H) 1 (by
      refine .cells _ _ _ e (0,0) (by simp[Ctx.push]) (by simp[Ctx.push]) (by simp only[Ctx.push,dW];exact mv _ _) ?_ (.inr<|bh _) (λi y u hi hu=>?_)
      ·simp only[bw,Array.size_append];rw[mH,bb];simp only[fj];omega
      ·exact(Tr mH zo bb dm i y u hi hu).mono<|Ext.push U.draw _ 1)
     refine⟨_,_,k3,hJ,(Ext.draw c).trans<|Ext.push U.draw _ 1,?_⟩;refine .osl _ _ _ _ _ _ _ (by simp[Ctx.push,Ctx.draw,U.n]) (by simp[Ctx.push,Ctx.draw,U.n]) rfl (S4 aa kI) (λ_ hd=>by simp[Ctx.push,Ctx.draw,U.n]at hd) λ_ _=>?_
     refine⟨_,kQ,(x4++ye++rest).size,rfl,bh _,k1,.inr (by simp[Ctx.push,Ctx.draw,U.n]),?_,?_⟩
     ·simp only[bsize,Ctx.push,Ctx.draw,U.n,dW];have:=mv {c.w with drawn:=c.w.drawn+1} (.cells (x4++ye++rest) e)
      simp only at this;rw[this]
     ·simp only[Array.size_append];rw[mH,bb,k2];have ax:(fj (.sl true es) H).length=es.length * P.cellsOf e:=cL;rw[ax,O,<-o2,<-o2];have:es.length+fg x+(kQ-(es.length+fg x))=kQ:=gf;rw[this];omega
   case osl sz i v off len lc=>
    simp only;cases S:az H i with
    |cells ba cs=>
     simp only[S]at hs ⊢;by_cases xG:len=lc
     ·rw[aC xG]at hs ⊢;subst xG;obtain⟨V,Z,rfl,A4,rfl,rfl,hlen,r6,aa,kI,q2⟩:=hs;have K:=U.qw S;have Su:sS (.osl (P.cellsOf e) i v 0 len len) (P.cellsOf e) H:=by
       refine⟨rfl,by simp[mQ,S],?_⟩
       simp only[S];omega
      obtain⟨z,O,us,bC,cD,ej⟩:=sP (P:=P) U J r6;obtain⟨base,cap,rfl,g2,II,g3,g4⟩:=kL.l9 K;have hi:i<c.n:=by rw[U.n];exact cZ S trivial
      have jx:=kD S trivial;by_cases pr:len+fg x<=cap
      · -- it fits
        cases hd:c.c0 i with
        |true=>
         obtain⟨rfl,rfl⟩:=g3 hd;have af:fg x=0:=gf;have aO6:cs=[]:=iL gf;have pt:fj x H=[]:=iL<|by rw[O,af];simp
         have pv:us= #[]:=tJ<|by rw[cD,O,af];simp
         have gX:=Bl (P:=P) (w':=c.w) (ty:=ty) (base:=base) (len:=0) (cap:=0) hu V Z z gf bC (λa _=>by rw[pv];simp[storeCells]) λ_=>rfl
         obtain⟨T,gk⟩:=U.Tq (B':=.cells (v+1)<|cs++fj x H) jx A4 K (by
          rw[aO6,pt];exact .void _ (by simp[Ctx.iZ,K])<|by simp[Ctx.iZ,hd])
         refine⟨c.iZ i,_,gX,gk,T,?_⟩;rw[af];exact .osl _ _ _ _ _ _ _ hi (by simp[Ctx.iZ,K]) rfl gf (λ_ _=>⟨rfl,rfl,base,rfl⟩) λ_ gN=>by simp[Ctx.iZ,hd]at gN
        |false=>
         obtain⟨cw,m,cL,dx⟩:=g4 hd;obtain⟨_,_,mL,lZ,bH,eC,pg,aA,aw⟩:=U.cells S hd;have hm:mL.size=m:=by simp[bsize,eC]at cL;exact cL
         rcases Nat.eq_zero_or_pos cap with y0|aO5
         · -- no room at all: nothing is appended
           subst y0;have af:fg x=0:=gf;have lL:len=0:=gf;subst lL;have pt:fj x H=[]:=iL<|by rw[O,af];simp
           have pv:us= #[]:=tJ<|by rw[cD,O,af];simp
           have gX:=Bl (P:=P) (w':=c.w) (ty:=ty) (base:=base) (len:=0) (cap:=0) hu V Z z gf bC (λa _=>by rw[pv];simp[storeCells]) λ_=>rfl
           obtain⟨T,gk⟩:=U.Tq (B':=.cells (v+1)<|cs++fj x H) jx A4 K (by
            rw[pt,cE];refine .cells _ _ mL lZ bH (by simp[Ctx.iZ,K]) (by simp[Ctx.iZ,hd]) (by simpa[Ctx.iZ]using eC) pg aA λj y u h1 h2=>(aw j y u h1 h2).mono (Ext.iZ c i))
           refine⟨c.iZ i,_,gX,gk,T,?_⟩;rw[af];exact .osl _ _ _ _ _ _ _ hi (by simp[Ctx.iZ,K]) rfl gf (λ_ gN=>by simp[Ctx.iZ,hd]at gN) λ_ _=>⟨_,0,m,rfl,bh _,bh _,.inl rfl,by simpa[Ctx.iZ]using cL,gf⟩
         ·have jL:base=some ⟨c.bo i,0,none⟩:=cw.resolve_left gf;subst jL;have hmul:(len+fg x) * P.cellsOf e<=cap * P.cellsOf e:=wT _ pr;have aPZ:(len+fg x) * P.cellsOf e=len * P.cellsOf e+fg x * P.cellsOf e:=o2 _ _ _;have CT:∀u∈us.toList,u.oneCell'=true:=by
           intro u kn;obtain⟨k,ev,ew⟩:=wZ kn;simp only[Array.length_toList]at ev;have aJ:(fj x H)[k]?=some ((fj x H)[k]'(by omega)):=dn gf
           exact(ej k _ u aJ (by rw[<-ew];simp)).one<|fu.1 q2 _ (fQ _)
          have Sy:=Tu (P:=P) (w:=c.w) (b:=c.bo i) (off:=len * P.cellsOf e) us.toList eC (by simp;rw[cD,O];omega) aA CT
          have gX:=Bl (P:=P) (ty:=ty) (base:=some ⟨c.bo i,0,none⟩) (len:=len) (cap:=cap) hu V Z z pr bC (λa aG=>by cases aG;rw[pL,lr];exact Sy) λh=>p2 h
          obtain⟨av,he⟩:=qA.1 eC;have F0:(lv mL (len * P.cellsOf e) us.toList).size=mL.size:=Ab _ _ _;obtain⟨T,gk⟩:=U.bump (B':=.cells (v+1)<|cs++fj x H) jx trivial (by rw[K];exact A4) (World.putCells c.w (c.bo i) (lv mL (len * P.cellsOf e) us.toList) lZ bH) (c.bo i) (by simp[World.putCells]) (by simpa[World.putCells]using av) (.inr ⟨rfl,hd⟩)
           (λb _ aT=>y1 aT) rfl rfl rfl (by
            refine .cells _ _ (lv mL (len * P.cellsOf e) us.toList) lZ bH (by simp[Ctx.bump,K]) (by simp[Ctx.bump]) (by simp only[Ctx.bump,dW];exact vS av) (by rw[F0,bw,O];omega) (by rw[F0];exact aA) λj y u h1 h2=>?_
            refine aK.mono (c:=c) (U.Ff jx trivial (by rw[K];exact A4) _ _ (by simp[World.putCells]) (.inr ⟨rfl,hd⟩) (λb _ aT=>y1 aT) rfl rfl rfl) ?_
            rw[HT _ _ _ (fj x H).length (oq cD) (by rw[O];omega)]at h2
            by_cases au:j<cs.length
            ·rw[jc au]at h1;rw[ar gf]at h2;exact aw _ _ _ h1 h2
            ·rw[pH gf]at h1;have gP:=(cu.1 h1).1;rw[aC gf]at h2;rw[hlen]at h2;exact ej _ _ _ h1<|oq h2)
          refine⟨c.bump i _ _,_,gX,gk,T,?_⟩;exact .osl _ _ _ _ _ _ _ hi (by simp[Ctx.bump,K]) rfl (S4 aa kI) (λ_ gN=>by simp[Ctx.bump]at gN) λ_ _=>⟨_,cap,m,rfl,bh _,pr,.inr (by simp[Ctx.bump]),by rw[<-hm,<-F0];exact Mk (by simp only[Ctx.bump,dW];exact vS av),dx⟩
      · -- a new array
        obtain⟨-,cL,x4,dx,mH,zo⟩:=sP (P:=P) U.draw (kL.mono<|Ext.draw c) Su;obtain⟨-, -,ye,a6,bb,dm⟩:=sP (P:=P) U.draw (J.mono<|Ext.draw c) r6;obtain⟨kQ,rest,k1,k2,k3⟩:=Tt (P:=P) (ty:=ty) (w:=c.w) hu V Z z rfl gf aa kI dx a6;have hold:fj (.osl (P.cellsOf e) i v 0 len len) H=cs:=by simp only[fj,S,List.drop_zero];rw[hlen,fe]
        rw[hold]at mH zo;obtain⟨T,gk⟩:=U.draw.bump (B':=.cells (v+1)<|cs++fj x H) jx trivial (by simpa[Ctx.draw,K]using A4) (World.alloc {c.w with drawn:=c.w.drawn+1} (.cells (x4++ye++rest) e)) c.w.heap.size (by simp[Ctx.draw]) hW (.inl<|by simp[Ctx.draw])
         (λb av _=>ud<|by simpa[Ctx.draw]using av) rfl rfl rfl (by
          refine .cells _ _ _ e (0,0) (by simp[Ctx.bump,Ctx.draw,K]) (by simp[Ctx.bump]) (by simp only[Ctx.bump,dW];exact mv _ _) ?_ (.inr<|bh _) (λj y u hi hu=>?_)
          ·simp only[bw,Array.size_append];omega
          ·exact(Tr mH zo bb dm j y u hi hu).mono<|U.draw.Ff jx trivial (by simpa[Ctx.draw,K]using A4) _ _ (by simp[Ctx.draw]) (.inl (by simp[Ctx.draw])) (λb av _=>ud (by simpa[Ctx.draw]using av)) rfl rfl rfl)
        refine⟨c.draw.bump i _ _,_,k3,gk,(Ext.draw c).trans T,?_⟩;refine .osl _ _ _ _ _ _ _ hi (by simp[Ctx.bump,Ctx.draw,K]) rfl (S4 aa kI) (λ_ hd=>by simp[Ctx.bump]at hd) λ_ _=>?_
        refine⟨_,kQ,(x4++ye++rest).size,rfl,bh _,k1,.inr (by simp[Ctx.bump]),?_,?_⟩
        ·exact Mk<|by simp only[Ctx.bump,dW];exact mv _ _
        ·simp only[Array.size_append];rw[mH,bb,k2,O,<-hlen,<-o2,<-o2];have:len+fg x+(kQ-(len+fg x))=kQ:=gf;rw[this];omega
     ·rw[ar xG]at hs ⊢;obtain⟨V,Z,rfl,rfl,jv,hle,r6,q2⟩:=hs;have K:=U.qw S;obtain⟨z,O,us,bC,cD,ej⟩:=sP (P:=P) U J r6;obtain⟨base,cap,rfl,g2,II,g3,g4⟩:=kL.l9 K;have hi:i<c.n:=by rw[U.n];exact cZ S trivial
      cases hd:c.c0 i with
      |true=>have:=g3 hd;omega
      |false=>
       obtain⟨cw,m,cL,dx⟩:=g4 hd;have jL:base=some ⟨c.bo i,off,none⟩:=cw.resolve_left gf;subst jL;have CT:∀u∈us.toList,u.oneCell'=true:=by
        intro u kn;obtain⟨k,ev,ew⟩:=wZ kn;simp only[Array.length_toList]at ev;have aJ:(fj x H)[k]?=some ((fj x H)[k]'(by omega)):=dn gf
        exact(ej k _ u aJ (by rw[<-ew];simp)).one<|fu.1 q2 _ (fQ _)
       have hmul:(len+fg x) * P.cellsOf e<=lc * P.cellsOf e:=wT _ hle;have aPZ:(len+fg x) * P.cellsOf e=len * P.cellsOf e+fg x * P.cellsOf e:=o2 _ _ _;obtain⟨w',gI,T,gk⟩:=U.putCells (P:=P) S hd (off:=off+len * P.cellsOf e) (ys:=fj x H) (us:=us.toList) (by rw[O];omega) (oq cD) (λk y u h1 h2=>ej k y u h1<|oq h2) CT
       have gX:=Bl (P:=P) (ty:=ty) (base:=some ⟨c.bo i,off,none⟩) (len:=len) (cap:=cap) hu V Z z gf bC (λa aG=>by cases aG;rw[pL];exact gI) λh=>p2 h
       refine⟨{c with w:=w'},_,gX,gk,T,?_⟩
       refine aK.mono T<|.osl _ _ _ _ _ _ _ hi (by rw[K];exact bh _) rfl kL.Gz (λ_ gN=>by rw[hd]at gN;cases gN) (λ_ _=>⟨_,cap,m,rfl,hle,II,.inr rfl,cL,dx⟩)
    |_=>simp[S]at hs
def Ey(P:Program)(t:TypeId)(l c:I)(H:ab):kc:=
 match P.underlying t,l,c with
 |some (.slice e),.int _ l,.int _ c=>⟨.osl (P.cellsOf e) H.length 1 0 l.toNat c.toNat,H++[.cells 1 ((List.replicate c.toNat (eU P e)).flatMap I.cells)],
   ow P e=true/\0<=l/\l<=c/\c<=9223372036854775807/\c.toNat * P.bytesOf e<=140737488355328⟩
 |_,_,_=>⟨.top,H,False⟩
theorem Ue(h1: -9223372036854775808<=n)(h2:n<=9223372036854775807):IntKind.i64.wrap n=n:=by grind [IntKind.wrap,IntKind.signed,IntKind.bits]
theorem aFv{t:TypeId}{l k:I}{Z:Value}(U:bm c H)(hl:aK c l Z)(hk:aK c k ry)(hs:(Ey P t l k H).s):
  mq P (Instr.makeSlice t Z ry) c (Ey P t l k H).v (Ey P t l k H).H:=by
 unfold Ey at *;split at hs
 ·rename_i e k1 l k2 n hu;obtain⟨bq,ay,hle,r0,aa⟩:=hs;rw[hl.iD,hk.iD];simp only[ow,dp,rD]at bq;obtain⟨⟨aL,S⟩,bC⟩:=bq;obtain⟨d,hd⟩:=h6.1 aL;obtain⟨i,hi,aBg⟩:=info_of_underlying hd;obtain⟨z,fO,gl⟩:=u3 S c;have r7:z.cells.size=P.cellsOf e:=by rw[(gl.cells S).1,bC]
  have xy:P.bytesOf e=i.bytes:=by simp[Program.bytesOf,hi]
  have dw:IntKind.i64.wrap l=l:=Ue gf gf;have dQ:IntKind.i64.wrap n=n:=Ue gf gf;have af:=gf;have aYk:i.bytes * n<=140737488355328:=by grind
  let K:=if n.toNat * P.cellsOf e=0 then #[]else z.cells
  let ws:=(Array.range (n.toNat * P.cellsOf e)).map λk=>K[k % K.size]!
  have gX:(Instr.makeSlice t (.int k1 l) (.int k2 n)).run P c.w=.ok (.slice (some ⟨c.w.heap.size,0,none⟩) l.toNat n.toNat) (c.w.alloc<|.cells ws e):=by
   have c1:(decide (n<0)||decide (i.bytes * n>2 ^ 48))=false:=by rw[Bool.or_eq_false_iff];exact⟨nc,nc⟩
   have c2:((decide (n<0)||decide (i.bytes * n>2 ^ 48))||decide (l<0)||decide (l>n))=false:=by rw[c1,DT,Bool.or_eq_false_iff];exact⟨nc,nc⟩
   have pr:¬(n.toNat * i.bytes>roomBytes):=by rw[xy]at aa;have:roomBytes=140737488355328:=rfl;omega
   simp only[Instr.makeSlice,Sem.run_bind,run_underlying hu,Result.andThen_ok,asInt,asIntOf,Sem.run_pure,typeInfo,run_program,hi,dw,dQ,c2,mM,gB,askRoom,pr,gT hd];by_cases O:n.toNat * P.cellsOf e=0
   ·simp only[O,dW,Sem.run_pure,Result.andThen_ok,newRow,Sem.run_bind];simp only[ws,K,O,dW];rfl
   ·simp only[O,gB,Sem.run_bind,fO,Sem.run_pure,Result.andThen_ok,newRow];simp only[ws,K,O,gB];rfl
  have C8:ws.size=n.toNat * P.cellsOf e:=by simp[ws]
  have pc:∀x∈List.replicate n.toNat (eU P e),x.cells.length=P.cellsOf e:=λx J=>by rw[(List.mem_replicate.1 J).2];exact bC
  have hlen:=Gk pc;rw[zI]at hlen;have hJ:=U.push (.cells ws e) (B:=.cells 1<|(List.replicate n.toNat (eU P e)).flatMap I.cells) 1 (by
   refine .cells _ _ ws e (0,0) (by simp[Ctx.push]) (by simp[Ctx.push]) (by simp only[Ctx.push,dW];exact mv _ _) (by rw[hlen,C8];exact bh _) (.inr (bh _)) λj y u au hu=>?_
   have T:j<n.toNat * P.cellsOf e:=oC<|(cu.1 au).1
   have lM:0<P.cellsOf e:=Nat.pos_of_ne_zero λh=>by rw[h,Nat.mul_zero]at T;omega
   have hm:j % P.cellsOf e<P.cellsOf e:=Nat.mod_lt _ lM;have hdiv:j / P.cellsOf e * P.cellsOf e+j % P.cellsOf e=j:=by rw[Nat.mul_comm];exact Nat.div_add_mod _ _
   have h1:=My pc (j / P.cellsOf e) (j % P.cellsOf e) hm;rw[hdiv,au]at h1;have iS:j / P.cellsOf e<n.toNat:=Nat.div_lt_of_lt_mul<|by rw[Nat.mul_comm];exact T
   rw[List.getElem?_replicate,aC iS,e6]at h1;have V:K=z.cells:=ar gf;have h2:ws[j]?=some (K[j % K.size]!):=by simp only[ws,Array.getElem?_map];rw[lq (oq T)];simp
   rw[h2,V,r7]at hu;cases hu;refine aK.mono (Ext.push U _ 1)<|(gl.cells S).2 _ _ _ h1.symm ?_;rw[getElem!_pos z.cells (j % P.cellsOf e) gf]
   exact lq _)
  refine⟨_,_,gX,hJ,Ext.push U _ 1,?_⟩;refine .osl _ _ _ _ _ _ _ (by simp[Ctx.push,U.n]) (by simp[Ctx.push,U.n]) rfl gf (λ_ hd=>by simp[Ctx.push,U.n]at hd) λ_ _=>?_
  refine⟨_,n.toNat,n.toNat * P.cellsOf e,rfl,gf,bh _,.inr (by simp[Ctx.push,U.n]),?_,gf⟩
  simp only[bsize,Ctx.push,U.n,dW];rw[mv];exact b7 some C8
 ·exact hs.elim
def Ar(P:Program)(t:TypeId)(d x:I)(H:ab):kc:=
 match P.underlying t,d with
 |some (.slice e),.osl sz i v off len _=>match az H i with
  |.cells ba cs=>⟨.int .i64<|fg x,an H i<|.cells ba (du cs off (fj x H)),
    v=ba/\(P.underlying e).isSome=true/\sz=P.cellsOf e/\off+len * sz<=cs.length/\fg x<=len/\sS x sz H/\(fj x H).all I.one=true⟩
  |_=>⟨.top,H,False⟩
 |_,_=>⟨.top,H,False⟩
theorem Z1{t u:TypeId}{d:I}(U:bm c H)(hd:aK c d c0)(J:aK c x b4)(hs:(Ar P t d x H).s):
  mq P (Builtin.copy_ #[t,u] ty #[c0,b4]) c (Ar P t d x H).v (Ar P t d x H).H:=by
 unfold Ar at *;split at hs
 ·rename_i e sz i v off len lc hu;cases O:az H i with
  |cells ba cs=>
   simp only[O]at hs ⊢;obtain⟨rfl,K,rfl,hle,af,r6,q2⟩:=hs;obtain⟨Cq,K⟩:=h6.1 K;have e0:=U.qw O;have eY:=hd.Gz;obtain⟨S,aR,us,T,cD,ej⟩:=sP (P:=P) U J r6;obtain⟨base,cap,rfl,g2,II,g3,g4⟩:=hd.l9 e0;have hi:i<c.n:=by rw[U.n];exact cZ O trivial
   have MZ:=Nat.min_eq_left af;have jx:=kD O trivial;have CT:∀u∈us.toList,u.oneCell'=true:=by
    intro u kn;obtain⟨k,ev,ew⟩:=wZ kn;simp only[Array.length_toList]at ev;have aJ:(fj x H)[k]?=some ((fj x H)[k]'(by omega)):=dn gf
    exact(ej k _ u aJ (by rw[<-ew];simp)).one<|fu.1 q2 _ (fQ _)
   cases wc:c.c0 i with
   |true=>
    obtain⟨rfl,rfl⟩:=g3 wc;have V:fg x=0:=gf;have Z:=iL<|by rw[aR,V];simp
    have pv:=tJ<|by rw[cD,Z];rfl
    have hn:du cs off []=cs:=by simp[du]
    have Sr:an H i (.cells v cs)=H:=by
     unfold an;apply List.ext_getElem?;intro j;by_cases z:j=i
     ·subst z;rw[rB (by rw[<-U.n];exact hi),jx]
     ·rw[gS (λq=>z q.symm)]
    refine⟨c,.int .i64<|fg x,?_,?_,Ext.refl c,.int _ _<|rO.2 gf⟩
    ·cases base with
     |none=>simp only[Builtin.copy_,List.getElem?_toArray,List.getElem?_cons_zero,vi,Sem.run_bind,run_underlying hu,Result.andThen_ok,S,MZ,gT K,T,Sem.run_pure,goInt]
     |some a=>simp[Builtin.copy_,Sem.run_bind,run_underlying hu,Result.andThen_ok,S,V,gT K,V▸T,Sem.run_pure,goInt,pv,storeCells]
    ·rw[Z,hn,Sr];exact U
   |false=>
    obtain⟨cw,m,cL,dx⟩:=g4 wc;have hmul:fg x * P.cellsOf e<=len * P.cellsOf e:=wT _ af;obtain⟨w',gI,fW,gk⟩:=U.putCells (P:=P) O wc (off:=off) (by rw[aR];omega) (oq cD) (λk y u h1 h2=>ej k y u h1<|oq h2) CT
    rcases Nat.eq_zero_or_pos cap with y0|aO5
    ·have V:fg x=0:=gf;have Z:=iL<|by rw[aR,V];simp
     have pv:=tJ<|by rw[cD,Z];rfl
     have hn:du cs off []=cs:=by simp[du]
     have Sr:an H i (.cells v cs)=H:=by
      unfold an;apply List.ext_getElem?;intro j;by_cases z:j=i
      ·subst z;rw[rB (by rw[<-U.n];exact hi),jx]
      ·rw[gS (λq=>z q.symm)]
     refine⟨c,.int .i64<|fg x,?_,?_,Ext.refl c,.int _ _<|rO.2 gf⟩
     ·cases base with
      |none=>simp only[Builtin.copy_,List.getElem?_toArray,List.getElem?_cons_zero,vi,Sem.run_bind,run_underlying hu,Result.andThen_ok,S,MZ,gT K,T,Sem.run_pure,goInt]
      |some a=>simp only[Builtin.copy_,List.getElem?_toArray,List.getElem?_cons_zero,vi,Sem.run_bind,run_underlying hu,Result.andThen_ok,S,MZ,gT K,T,pv,storeCells,Sem.run_pure,goInt]
     ·rw[Z,hn,Sr];exact U
    ·have jL:=cw.resolve_left gf;subst jL;refine⟨{c with w:=w'},.int .i64<|fg x,?_,gk,fW,.int _ _<|rO.2 gf⟩
     simp only[Builtin.copy_,List.getElem?_toArray,List.getElem?_cons_zero,vi,Sem.run_bind,run_underlying hu,Result.andThen_ok,S,MZ,gT K,T,gI,Sem.run_pure,goInt]
  |_=>simp[O]at hs
 ·exact hs.elim
def ES(P:Program)(t:TypeId)(d x:I)(H:ab):kc:=
 match d,x with
 |.osl sz i v off len lc,.str s=>Ar P t (.osl sz i v off len lc) (.str<|s.take len) H
 |d,x=>Ar P t d x H
theorem aNv(w)(t u ty)(base)(len cap)(s:List UInt8):
  (Builtin.copy_ #[t,u] ty #[.slice base len cap,.string ⟨s.toArray⟩]).run P w=(Builtin.copy_ #[t,u] ty #[.slice base len cap,.string ⟨(s.take len).toArray⟩]).run P w:=by
 have h1:Nat.min (ByteArray.size ⟨s.toArray⟩) len=Nat.min (ByteArray.size ⟨(s.take len).toArray⟩) len:=by simp only[ByteArray.size,List.size_toArray,gK];show min s.length len=min (min len s.length) len;omega
 have h2:((⟨s.toArray⟩:ByteArray).extract 0 (Nat.min (ByteArray.size ⟨(s.take len).toArray⟩) len)).data=((⟨(s.take len).toArray⟩:ByteArray).extract 0 (Nat.min (ByteArray.size ⟨(s.take len).toArray⟩) len)).data:=by rw[ByteArray.data_extract,ByteArray.data_extract];apply Array.ext';simp only[Array.toList_extract,List.extract_eq_take_drop,List.drop_zero,Nat.sub_zero];rw[List.take_take,Nat.min_eq_left<|Nat.min_le_right _ _]
 simp only[Builtin.copy_,List.getElem?_toArray,List.getElem?_cons_zero,vi,Builtin.lenOf,Builtin.firstCells,Sem.run_bind];congr 1;funext d w';cases d<;>first|rfl|(simp only[Sem.run_bind,Sem.run_pure,Result.andThen_ok,h1,h2])
theorem aIP{t u:TypeId}{d:I}(U:bm c H)(hd:aK c d c0)(J:aK c x b4)(hs:(ES P t d x H).s):
  mq P (Builtin.copy_ #[t,u] ty #[c0,b4]) c (ES P t d x H).v (ES P t d x H).H:=by
 unfold ES at *;split at hs
 ·rename_i sz i v off len lc s;have ay:=hs;unfold Ar at ay;split at ay
  ·rename_i e S e4 O T V JP hu heq;cases heq;cases K:az H i with
   |cells ba cs=>
    simp[K]at ay;obtain⟨rfl, -⟩:=ay;obtain⟨base,cap,rfl, -⟩:=hd.l9<|U.qw K;have eY:=J.zx;rw[J.nh];have:=Z1 (u:=u) (ty:=ty) U hd (aK.str (s.take len) j9) hs
    obtain⟨c',O,Z,z⟩:=this;exact⟨c',O,by rw[aNv];exact Z,z⟩
   |_=>simp[K]at ay
  ·exact ay.elim
 ·exact Z1 U hd J hs
def E9(P:Program)(t:TypeId)(x:I)(H:ab):kc:=
 match P.underlying t,x with
 |some (.slice e),.osl sz i v off len _=>match az H i with
  |.cells ba cs=>⟨.aN [],an H i<|.cells ba (du cs off ((List.replicate len (eU P e)).flatMap I.cells)),
    v=ba/\ow P e=true/\sz=P.cellsOf e/\off+len * sz<=cs.length/\(eU P e).cells.all I.one=true⟩
  |_=>⟨.top,H,False⟩
 |_,_=>⟨.top,H,False⟩
theorem Zx{b:bD}(h:H[i]?=some b):an H i b=H:=by unfold an;apply List.ext_getElem?;grind
theorem aMP{t:TypeId}(O:bm c H)(J:aK c x b4)(hs:(E9 P t x H).s):
  mq P (Builtin.clear_ #[t] ty #[b4]) c (E9 P t x H).v (E9 P t x H).H:=by
 unfold E9 at *;split at hs
 ·rename_i e sz i v off len lc hu;cases U:az H i with
  |cells ba cs=>
   simp only[U]at hs ⊢;obtain⟨rfl,bq,rfl,hle,q2⟩:=hs;simp only[ow,dp,rD]at bq;obtain⟨⟨aL,S⟩,bC⟩:=bq;obtain⟨Cq,qX⟩:=h6.1 aL;obtain⟨z,fO,gl⟩:=u3 S c;have T:z.cells.size=P.cellsOf e:=by rw[(gl.cells S).1,bC]
   have e0:=O.qw U;obtain⟨base,cap,rfl,g2,II,g3,g4⟩:=J.l9 e0;have jx:=kD U trivial;have pc:∀x∈List.replicate len (eU P e),x.cells.length=P.cellsOf e:=λx J=>j9;have hlen:=Gk pc;rw[zI]at hlen;rcases Nat.eq_zero_or_pos len with ay|uE
   ·subst ay;have cW:du cs off ((List.replicate 0 (eU P e)).flatMap I.cells)=cs:=by simp[du]
    rw[cW,Zx jx];refine⟨c,.tuple #[],?_,O,Ext.refl c,.aN [] _ rfl hW⟩;cases base<;>simp[Builtin.clear_,run_underlying hu]
   ·cases V:c.c0 i with
    |true=>have:=(g3 V).1;omega
    |false=>
     obtain⟨cw,m,cL,dx⟩:=g4 V;have jL:=cw.resolve_left gf;subst jL;have p8:(Builtin.zeroCells z.cells len).size=len * P.cellsOf e:=by rw[size_zeroCells,T]
     have az:∀(k:Nat) (y) (u),((List.replicate len (eU P e)).flatMap I.cells)[k]?=some y->(Builtin.zeroCells z.cells len).toList[k]?=some u->aK c y u:=by
      intro k y u hk K;have Z:k<len * P.cellsOf e:=oC<|(cu.1 hk).1;have lM:0<P.cellsOf e:=Nat.pos_of_ne_zero λh=>by rw[h,Nat.mul_zero]at Z;omega
      have hm:k % P.cellsOf e<P.cellsOf e:=Nat.mod_lt _ lM;have hdiv:k / P.cellsOf e * P.cellsOf e+k % P.cellsOf e=k:=by rw[Nat.mul_comm];exact Nat.div_add_mod _ _
      have h1:=My pc (k / P.cellsOf e) (k % P.cellsOf e) hm;rw[hdiv,hk]at h1;have iS:=Nat.div_lt_of_lt_mul<|by rw[Nat.mul_comm];exact Z
      rw[List.getElem?_replicate,aC iS,e6]at h1;have h2:(Builtin.zeroCells z.cells len)[k]?=some (z.cells[k % z.cells.size]!):=by simp only[Builtin.zeroCells,Array.getElem?_map];rw[lq (by simpa[T]using Z)];simp
      rw[vm,h2,T]at K;cases K;refine(gl.cells S).2 _ _ _ h1.symm ?_;rw[getElem!_pos z.cells (k % P.cellsOf e) gf];exact lq _
     obtain⟨w',gI,fW,gk⟩:=O.putCells (P:=P) U V (off:=off) gf (by rw[Array.length_toList,p8,hlen]) az (by
      intro u K;obtain⟨k,ev,ew⟩:=wZ K;have aBr:=by rw[Array.length_toList,p8]at ev;exact ev
      have aJ:((List.replicate len (eU P e)).flatMap I.cells)[k]?=some (((List.replicate len (eU P e)).flatMap I.cells)[k]'(by omega)):=dn gf
      refine(az k _ u aJ (by rw[<-ew];exact dn ev)).one ?_
      obtain⟨x,l4,oO⟩:=vf.1<|fQ (show k<((List.replicate len (eU P e)).flatMap I.cells).length by omega)
      rw[(List.mem_replicate.1 l4).2]at oO;exact fu.1 q2 _ oO)
     obtain⟨n,rfl⟩:∃n,len=n+1:=⟨len-1,gf⟩;refine⟨{c with w:=w'},.tuple #[],?_,gk,fW,.aN [] _ rfl hW⟩
     simp[Builtin.clear_,Sem.run_bind,run_underlying hu,fO,gI]
  |_=>simp[U]at hs
 ·exact hs.elim
def yF(P:Program)(ts tx:TypeId)(s x:I)(H:ab):kc:=
 match s with
 |.sl full (cW::es)=>
  if fg x=0 then
   match P.underlying ts with
   |some (.slice e)=>⟨.sl full (cW::es),H,ow P e=true/\xm P tx=true/\sS x (P.cellsOf e) H⟩
   |_=>⟨.top,H,False⟩
  else xi P ts tx (.sl full (cW::es)) x H
 |s=>xi P ts tx s x H
theorem aMM{s:I}{vs:Value}(K:bm c H)(U:aK c s vs)(J:aK c x b4)(hs:(yF P ts tx s x H).s):
  mq P (Builtin.append_ #[ts,tx] ty #[vs,b4]) c (yF P ts tx s x H).v (yF P ts tx s x H).H:=by
 unfold yF at *;split at hs
 ·rename_i full cW es;by_cases af:fg x=0
  ·simp only[aC af]at hs ⊢;cases hu:P.underlying ts with
   |none=>simp[hu]at hs
   |some d=>
    cases d<;>simp only[hu]at hs ⊢;case slice e=>
     obtain⟨S,T,V⟩:=hs;obtain⟨Z,z,us,bC,cD,ej⟩:=sP K J V;obtain⟨base,len,cap,sz,mL,rfl, -⟩:=U.qm;have hle:len<=cap:=by cases U;assumption
     have pv:=by
      have:us.size=0:=by rw[cD,z,af];simp
      exact tJ this
     have O:=Bl (ty:=ty) (base:=base) (len:=len) (cap:=cap) hu S T Z gf bC (λa _=>by rw[pv];simp[storeCells]) λ_=>rfl
     rw[af,wU]at O;exact⟨c,_,O,K,Ext.refl c,U⟩
  ·simp only[ar af]at hs ⊢;exact Z0 K U J hs
 ·exact Z0 K U J hs
def Fa(P:Program)(t:TypeId)(x:I)(H:ab):kc:=
 match P.underlying t,x with
 |some .string,.str s=>⟨.iter H.length,H++[.mI s 0],True⟩
 |_,_=>⟨.top,H,False⟩
theorem aM1{t:TypeId}(U:bm c H)(J:aK c x b4)(hs:(Fa P t x H).s):
  mq P (Instr.range t b4) c (Fa P t x H).v (Fa P t x H).H:=by
 unfold Fa at *;split at hs
 ·rename_i s hu;rw[J.nh];refine⟨_,.pointer<|some ⟨c.w.heap.size,0,none⟩,?_,(U.push (.stringIter ⟨s.toArray⟩ 0) 0 (.mI s 0 (by simp[Ctx.push]) (by simp[Ctx.push]) (by grind [Ctx.push,mv]) J.zx)),Ext.push U _ 0,?_⟩
  ·simp[Instr.range,run_underlying hu,Ctx.push]
  ·exact .iter _ _ (by simp[Ctx.push,U.n]) rfl λ_=>by simp[Ctx.push,U.n]
 ·exact hs.elim
def jK(s:List UInt8)(pos:Nat):Nat×Nat:=Utf8.decode ⟨s.toArray⟩ pos
theorem aSg(s:List UInt8)(pos:Nat):(jK s pos).1<2147483648:=by grind [jK,Utf8.decode,Utf8.runeError]
def E4(x:I)(b:Bool)(H:ab):kc:=
 match x,b with
 |.iter i,true=>match az H i with
  |.mI s pos=>if pos<s.length then⟨.aN [.bool true,.int .i64 pos,.int .i32 (jK s pos).1],an H i<|.mI s (pos+(jK s pos).2),True⟩else⟨.aN [.bool false],H,True⟩
  |_=>⟨.top,H,False⟩
 |_,_=>⟨.top,H,False⟩
theorem aCZ(h1:aK c x u):aK c (.aN [x]) (.tuple #[u]):=
 .aN _ _ rfl λi z w p q=>j9
theorem aC0{z:I}{w:Value}(h1:aK c x u)(h2:aK c y v)(h3:aK c z w):aK c (.aN [x,y,z]) (.tuple #[u,v,w]):=
 .aN _ _ rfl λi z w p q=>j9
theorem aJW{b:Bool}(U:bm c H)(J:aK c x b4)(hs:(E4 x b H).s):
  mq P (Instr.next b4 b ty) c (E4 x b H).v (E4 x b H).H:=by
 unfold E4 at *;split at hs
 ·rename_i i;cases K:az H i with
  |mI s pos=>
   simp only[K]at hs ⊢;have S:=kD K trivial;have bK:i<c.n:=by rw[U.n];exact cZ K trivial
   have Z:=U.rep i _ S;cases Z with
   |mI _ _ T hd O I=>
    cases J with
    |iter _ _ _ _ z=>
     obtain⟨-,rfl⟩:=z T;have az:=NO (P:=P) O hW;by_cases ad:pos<s.length
     rotate_left
     ·have af:¬pos<(ByteArray.mk s.toArray).size:=by rw[zw];exact ad
      simp only[ad,gB];refine⟨c,.tuple #[.bool false],?_,U,Ext.refl c,aCZ<|.bool _⟩;simp[Instr.next,az,af]
     ·have af:pos<(ByteArray.mk s.toArray).size:=by rw[zw];exact ad
      simp only[ad,dW];obtain⟨y8,he⟩:=qA.1 O;let w':={c.w with heap:=c.w.heap.setIfInBounds (c.bo i) (.stringIter ⟨s.toArray⟩<|pos+(jK s pos).2)}
      have V:w'.heap[c.bo i]?=some (.stringIter ⟨s.toArray⟩<|pos+(jK s pos).2):=by simp[w',y8]
      have k9:∀b,b≠c.bo i->w'.heap[b]?=c.w.heap[b]?:=λb aT=>j9;obtain⟨fW,gk⟩:=U.update S trivial hd w' (by simp[w']) k9 (by simp[bsize,V,O]) rfl rfl rfl<|.mI _ _ T hd V I
      refine⟨{c with w:=w'},.tuple #[.bool true,goInt pos,.int .i32 (jK s pos).1],?_,gk,fW,?_⟩
      ·have an:(setObj (c.bo i) (.stringIter ⟨s.toArray⟩<|pos+(jK s pos).2)).run P c.w=.ok () w':=by
        simp only[setObj,Sem.run,O,w']
       simp only[jK]at an;simp[Instr.next,az,af,an,jK]
      ·exact aC0 (.bool _) (.int _ _ (rO.2 gf))<|.int _ _ (YX.2 (oC<|aSg s pos))
  |_=>simp[K]at hs
 ·exact hs.elim
def kd:TypeDesc->I->Bool
 |.string,.str _=>true
 |.int k,.int k' _=>decide<|k'=k
 |_,_=>false
def iW:I->I->Bool
 |.str s,.str t=>decide<|s=t
 |.int _ a,.int _ b=>decide<|a=b
 |_,_=>false
def eJ(x:I):List (I×I×Nat)->Option (Nat×I)
 |[]=>none
 |(y,v,_)::es=>bif iW x y then some (0,v)else(eJ x es).map λz=>(z.1+1,z.2)
def iV(d:TypeDesc)(es:List (I×I×Nat)):Prop:=∀p∈es,kd d p.1=true
theorem Nk(J:aK c x v)(h:kd d x=true):MapKept.IsKey d v:=by
 cases d<;>cases x<;>simp[kd]at h
 ·subst h;rw[J.iD];rfl
 ·rw[J.nh];trivial
theorem aSj(J:aK c x u)(U:aK c y v)(h1:kd d x=true)(h2:kd d y=true):Instr.sameNow d u v=some (iW x y):=by
 cases d<;>cases x<;>simp[kd]at h1<;>cases y<;>simp[kd]at h2
 ·subst h1;subst h2;rw[J.iD,U.iD];simp[Instr.sameNow,iW];rfl
 ·rename_i a b;rw[J.nh,U.nh];show some ((⟨a.toArray⟩:ByteArray)==⟨b.toArray⟩)=_;congr 1;by_cases h:a=b
  ·subst h;rw[iW,dr rfl];exact(MapKept.bytes_beq _ _).2 rfl
  ·rw[iW,b0 h];exact wV.2 λq=>(λe=>h j9)<|(MapKept.bytes_beq _ _).1 q
theorem aQZ(h1:kd d x=true)(h2:kd d y=true)(h:iW x y=true):x=y:=by
 cases d<;>cases x<;>simp[kd]at h1<;>cases y<;>simp[kd]at h2<;>simp[iW]at h
 ·subst h1;subst h2;subst h;rfl
 ·subst h;rfl
theorem Mv{c:Ctx}{d:TypeDesc}{x:I}{u:Value}(J:aK c x u)(hk:kd d x=true):∀(es:List (I×I×Nat)) (c8:List MapEntry) (i:Nat),c8.length=es.length->iV d es->
  (∀(j:Nat) (p:I×I×Nat) (e:MapEntry),es[j]?=some p->c8[j]?=some e->aK c p.1 e.key/\aK c p.2.1 e.val/\e.born=p.2.2)->
  match eJ x es with
  |none=>Instr.findNow d u c8 i=some none
  |some (j,y)=>∃v,Instr.findNow d u c8 i=some (some (i+j,v))/\aK c y v/\j<es.length/\(es[j]?).map (·.1)=some x
 |[],[],i,_,_,_=>rfl
 |p::es,e::c8,i,hl,O,h=>by
  obtain⟨h1,h2,h3⟩:=h 0 p e rfl rfl;have S:=O p hW;have Z:=Mv J hk es c8 (i+1) (oq hl) (λq aM=>O q (by simp[aM])) λj q f aM T=>h (j+1) q f (oq aM) (oq T)
  have K:=aSj J h1 hk S;obtain⟨V,z,dx⟩:=p;cases U:iW x V with
  |true=>rw[U]at K;simp only[eJ,U,tM];exact⟨e.val,by rw[Instr.findNow,K];rfl,h2,hW,by rw[aQZ hk S U];rfl⟩
  |false=>
   rw[U]at K;simp only[eJ,U];have FV:Instr.findNow d u (e::c8) i=Instr.findNow d u c8 (i+1):=by rw[Instr.findNow,K]
   grind
def qI(P:Program)(t:TypeId):Option (TypeDesc×TypeId):=
 match P.underlying t with
 |some (.map k e)=>match P.underlying k with
  |some .string=>some (.string,e)
  |some (.int q)=>some (.int q,e)
  |_=>none
 |_=>none
def qJ(P:Program)(t:TypeId):TypeDesc:=match qI P t with
 |some (d,_)=>d
 |none=>.bool
def xl(P:Program)(t:TypeId):TypeId:=match qI P t with
 |some (_,e)=>e
 |none=>0
theorem Gv{t:TypeId}(h:(qI P t).isSome=true):∃k,P.underlying t=some (.map k<|xl P t)/\P.underlying k=some (qJ P t):=by grind [h6,xl,qJ,qI]
def Iw(P:Program)(t:TypeId)(o:Option (Nat×I))(ok:Bool):h7:=match o with
 |some (_,v)=>⟨bif ok then .aN [v,.bool true]else v,True⟩
 |none=>⟨bif ok then .aN [eU P (xl P t),.bool false]else eU P (xl P t),(eU P (xl P t)).known=true⟩
def Mc(P:Program)(t:TypeId)(k:I)(ok:Bool):bD->h7
 |.map es _=>⟨(Iw P t (eJ k es) ok).v,iV (qJ P t) es/\(Iw P t (eJ k es) ok).s⟩
 |_=>bad
def Im(P:Program)(t:TypeId)(x k:I)(ok:Bool)(H:ab):h7:=
 match x with
 |.map i=>⟨(Mc P t k ok (az H i)).v,(qI P t).isSome=true/\kd (qJ P t) k=true/\(Mc P t k ok (az H i)).s⟩
 |.iI=>⟨(Iw P t none ok).v,(qI P t).isSome=true/\kd (qJ P t) k=true/\(Iw P t none ok).s⟩
 |_=>bad
theorem aK.JS(h:aK c (.map i) v)(J:c.ba i=0):v=.map (some<|c.bo i):=by cases h with|map _ _ _ _ h=>exact(h J).2
theorem Ca(h1:aK c x u)(h2:aK c y v):aK c (.aN [x,y]) (.tuple #[u,v]):=
 .aN _ _ rfl λi z w p q=>j9
theorem aIh{t:TypeId}{k:I}{ok:Bool}(aj:bm c H)(J:aK c x b4)(hk:aK c k ry)(hs:(Im P t x k ok H).s):
  ∃v,(Instr.lookup t b4 ry ok).run P c.w=.ok v c.w/\aK c (Im P t x k ok H).v v:=by
 unfold Im at *;split at hs
 ·rename_i i;obtain⟨hm,Z,hs⟩:=hs;obtain⟨JE,ag,O⟩:=Gv hm;cases ak:az H i<;>simp only[ak,Mc,bad]at hs ⊢;rename_i es clock;obtain⟨_,aF,_,c8,aa,hl,aw⟩:=aj.map ak;obtain rfl:=J.JS aF;have K:=MapKept.run_checkKey (w:=c.w) O (Nk hk Z) c8.isEmpty 9999;have S:=Mv hk Z es c8.toList 0 (oq hl) hs.1 λj p f ad S=>aw j p f ad (oq S);replace hs:=hs.2;cases uA:eJ k es with
  |none=>
   rw[uA]at hs S;obtain⟨z,T,V⟩:=u3 hs c;have U:=MapKept.run_findKey (w:=c.w) O S;cases ok with
   |true=>exact⟨.tuple #[z,.bool false],by simp[Instr.lookup,run_underlying ag,MapKept.run_getObj_map aa,K,U,T,Result.andThen],Ca V<|.bool false⟩
   |false=>exact⟨z,by simp[Instr.lookup,run_underlying ag,MapKept.run_getObj_map aa,K,U,T,Result.andThen],V⟩
  |some y=>
   obtain⟨j,v⟩:=y;rw[uA]at hs S;obtain⟨u,hu,Nb,_⟩:=S;have U:=MapKept.run_findKey (w:=c.w) O hu;cases ok with
   |true=>exact⟨.tuple #[u,.bool true],by simp[Instr.lookup,run_underlying ag,MapKept.run_getObj_map aa,K,U,Result.andThen],Ca Nb<|.bool true⟩
   |false=>exact⟨u,by simp[Instr.lookup,run_underlying ag,MapKept.run_getObj_map aa,K,U,Result.andThen],Nb⟩
 ·obtain⟨hm,Z,hs⟩:=hs;obtain⟨JE,ag,O⟩:=Gv hm;cases J;have K:=MapKept.run_checkKey (w:=c.w) O (Nk hk Z) true 9999;have U:=MapKept.run_findKey (w:=c.w) (k:=ry) (l:=[]) O rfl;obtain⟨z,T,V⟩:=u3 hs c;cases ok with
  |true=>exact⟨.tuple #[z,.bool false],by simp[Instr.lookup,run_underlying ag,K,U,T,Result.andThen],Ca V<|.bool false⟩
  |false=>exact⟨z,by simp[Instr.lookup,run_underlying ag,K,U,T,Result.andThen],V⟩
 ·exact hs.elim
def LO(H:ab):kc:=⟨.map H.length,H++[.map [] 0],True⟩
theorem aGq{t:TypeId}(J:bm c H):mq P (Instr.makeMap t none) c (LO H).v (LO H).H:=by
 refine⟨_,.map<|some c.w.heap.size,?_,(J.push (.map #[] 0) 0 (.map [] 0 #[] (by simp[Ctx.push]) (by simp[Ctx.push]) (by grind [Ctx.push,mv]) rfl (λj p e h=>hW))),Ext.push J _ 0,?_⟩
 ·simp[Instr.makeMap,Ctx.push]
 ·exact .map _ _ (by simp[Ctx.push,J.n]) rfl λ_=>by simp[Ctx.push,J.n]
def hG(x v:I)(es:List (I×I×Nat))(clock:Nat):List (I×I×Nat):=
 match eJ x es with
 |some (j,_)=>es.modify j λp=>(x,v,p.2.2)
 |none=>es++[(x,v,clock)]
def qS(x:I)(es:List (I×I×Nat))(clock:Nat):Nat:=match eJ x es with|some _=>clock|none=>clock+1
theorem JR{es:List (I×I×Nat)}{clock:Nat}(O:bm c H)(V:az H i=.map es clock)(S)(U)(K)(pg:K.size=S.length)
  (hL:∀(j:Nat) (p) (f),S[j]?=some p->K[j]?=some f->aK c p.1 f.key/\aK c p.2.1 f.val/\f.born=p.2.2):
  Ext c {c with w:={c.w with heap:=c.w.heap.setIfInBounds (c.bo i) (.map K U)}}/\bm {c with w:={c.w with heap:=c.w.heap.setIfInBounds (c.bo i) (.map K U)}} (an H i (.map S U)):=by
 obtain⟨bK,aF,hd,c8,Z,hl,aw⟩:=O.map V;have z:=kD V trivial;obtain⟨y8,he⟩:=qA.1 Z;let w':={c.w with heap:=c.w.heap.setIfInBounds (c.bo i) (.map K U)};have p5:w'.heap[c.bo i]?=some (.map K U):=j9;have T:∀b,b≠c.bo i->w'.heap[b]?=c.w.heap[b]?:=λb aT=>by grind
 have qV:bsize w' (c.bo i)=bsize c.w (c.bo i):=by simp[bsize,p5,Z]
 have J:Ext c {c with w:=w'}:=by
  refine⟨bh _,by simp[w'],λb eC=>⟨eC,T b λe=>(O.st b eC).2 i _ z trivial hd e.symm⟩,λ_ _=>bh _,λj au _=>⟨rfl,rfl,λ_=>?_⟩,rfl,⟨rfl,bh _⟩,rfl,rfl⟩
  by_cases h:c.bo j=c.bo i
  ·simp only[h];exact qV
  ·simp only[bsize];rw[T _ h]
 exact O.update z trivial hd w' (by simp[w']) T qV rfl rfl rfl (.map _ _ K aF hd p5 pg λj p f ad aA=>by obtain⟨aL,aR,bC⟩:=hL j p f ad aA;exact⟨aL.mono J,aR.mono J,bC⟩)
def Mh(P:Program)(t:TypeId)(k v:I)(H:ab)(i:Nat):bD->kc
 |.map es clock=>⟨.top,an H i<|.map (hG k v es clock) (qS k es clock),iV (qJ P t) es⟩
 |_=>⟨.top,H,False⟩
def xP(P:Program)(t:TypeId)(x k v:I)(H:ab):kc:=
 match x with
 |.map i=>⟨.top,(Mh P t k v H i (az H i)).H,(qI P t).isSome=true/\kd (qJ P t) k=true/\(Mh P t k v H i (az H i)).s⟩
 |_=>⟨.top,H,False⟩
theorem aDB{t:TypeId}{k v:I}{S:Value}(aj:bm c H)(J:aK c x b4)(hk:aK c k ry)(aQt:aK c v S)(hs:(xP P t x k v H).s):
  ∃c',(Instr.mapUpdate t b4 ry S).run P c.w=.ok () c'.w/\bm c' (xP P t x k v H).H/\Ext c c':=by
 unfold xP at *;split at hs
 ·rename_i i;obtain⟨hm,T,hs⟩:=hs;obtain⟨JE,ag,kl⟩:=Gv hm;cases V:az H i<;>simp only[V,Mh]at hs ⊢;rename_i es clock;obtain⟨bK,aF,hd,c8,Z,hl,z⟩:=aj.map V;obtain rfl:=J.JS aF;have K:=Nk hk T;have eZ:=MapKept.run_checkKey (w:=c.w) kl K false 9999;have U:=Mv hk T es c8.toList 0 (oq hl) hs λj p f ad U=>z j p f ad (oq U);unfold hG qS;cases uA:eJ k es with
  |none=>
   rw[uA]at U;have oJ:=MapKept.run_findKey (w:=c.w) kl U;obtain⟨k1,k2⟩:=JR aj V (es++[(k,v,clock)]) (clock+1) (c8.push {key:=ry,val:=S,born:=clock}) (by simp[hl]) (λj p f ad O=>by grind)
   exact⟨_,by simp[Instr.mapUpdate,run_underlying ag,MapKept.run_getObj_map Z,eZ,oJ,MapKept.run_setObj_map _ Z,Result.andThen],k2,k1⟩
  |some y=>
   obtain⟨j,y⟩:=y;rw[uA]at U;obtain⟨u,hu,Nb,au,lJ⟩:=U;have oJ:=MapKept.run_findKey (w:=c.w) kl hu;have tb:j<c8.size:=gf;rw[lr]at oJ;have rZ:=lq tb;have r3:=dn au;have aPJ:c8[j].key=ry:=by
    have h1:=(z j _ _ r3 rZ).1;rw[r3]at lJ;simp only[vj,Option.some.injEq]at lJ;rw[lJ]at h1;cases gN:qJ P t<;>rw[gN]at T<;>cases k<;>simp[kd]at T
    ·exact h1.iD.trans hk.iD.symm
    ·exact h1.nh.trans hk.nh.symm
   have MW:=MapKept.run_keyThatStays (P:=P) (w:=c.w) K;obtain⟨k1,k2⟩:=JR aj V (es.modify j λp=>(k,v,p.2.2)) clock (c8.modify j λe=>{e with key:=ry,val:=S}) (by simp[hl]) (λq p f ad O=>by
    by_cases aM:q=j
    ·subst aM;rw[List.getElem?_modify_eq,r3]at ad;rw[Array.getElem?_modify,aC rfl,rZ]at O;cases ad;cases O;exact⟨hk,aQt,(z q _ _ r3 rZ).2.2⟩
    ·rw[List.getElem?_modify_ne _ _ (λe=>aM e.symm)]at ad;rw[Array.getElem?_modify,ar λe=>aM e.symm]at O;exact z q p f ad O)
   exact⟨_,by simp[Instr.mapUpdate,run_underlying ag,MapKept.run_getObj_map Z,eZ,oJ,rZ,aPJ,MW,MapKept.run_setObj_map _ Z,Result.andThen],k2,k1⟩
 ·exact hs.elim
def L6(x:I)(es:List (I×I×Nat)):List (I×I×Nat):=match eJ x es with
 |some (j,_)=>es.eraseIdx j
 |none=>es
def Mi(P:Program)(t:TypeId)(k:I)(H:ab)(i:Nat):bD->kc
 |.map es clock=>⟨.aN [],an H i<|.map (L6 k es) clock,iV (qJ P t) es⟩
 |_=>⟨.top,H,False⟩
def EM(P:Program)(t:TypeId)(x k:I)(H:ab):kc:=
 match x with
 |.map i=>⟨.aN [],(Mi P t k H i (az H i)).H,(qI P t).isSome=true/\kd (qJ P t) k=true/\(Mi P t k H i (az H i)).s⟩
 |_=>⟨.top,H,False⟩
theorem Ts(c):aK c (.aN []) (.tuple #[]):=.aN _ _ rfl λi x v h=>hW
theorem aIi{t u:TypeId}{k:I}(Z:bm c H)(J:aK c x b4)(hk:aK c k ry)(hs:(EM P t x k H).s):
  mq P (Builtin.delete_ #[t,u] ty #[b4,ry]) c (EM P t x k H).v (EM P t x k H).H:=by
 unfold EM at *;split at hs
 ·rename_i i;obtain⟨hm,fD,hs⟩:=hs;obtain⟨JE,ag,z⟩:=Gv hm;cases O:az H i<;>simp only[O,Mi]at hs ⊢;rename_i es clock;obtain⟨bK,aF,hd,c8,S,hl,T⟩:=Z.map O;obtain rfl:=J.JS aF;have eZ:=MapKept.run_checkKey (w:=c.w) z (Nk hk fD) c8.isEmpty 9999;have U:=Mv hk fD es c8.toList 0 (oq hl) hs λj p f ad U=>T j p f ad (oq U);unfold L6;cases uA:eJ k es with
  |none=>rw[uA]at U;have V:=MapKept.run_findKey (w:=c.w) z U;obtain⟨k1,k2⟩:=JR Z O es clock c8 hl T;exact⟨_,.tuple #[],by simp[Builtin.delete_,run_underlying ag,MapKept.run_getObj_map S,eZ,V,MapKept.run_setObj_map _ S,Result.andThen],k2,k1,Ts _⟩
  |some y=>
   obtain⟨j,y⟩:=y;rw[uA]at U;obtain⟨lT,hu,Nb,au,lJ⟩:=U;have V:=MapKept.run_findKey (w:=c.w) z hu;rw[lr]at V;have tb:j<c8.size:=gf;obtain⟨k1,k2⟩:=JR Z O (es.eraseIdx j) clock (c8.eraseIdxIfInBounds j) (by simp[Array.eraseIdxIfInBounds,List.length_eraseIdx,au,hl]) (λq p f ad K=>by
    have ax:(c8.eraseIdxIfInBounds j)[q]?=(c8.toList.eraseIdx j)[q]?:=by rw[Array.eraseIdxIfInBounds,dif_pos tb,<-vm,Array.toList_eraseIdx]
    rw[ax]at K;rw[List.getElem?_eraseIdx]at ad K;split at ad
    ·rename_i h;rw[aC h]at K;exact T q p f ad<|oq K
    ·rename_i h;rw[ar h]at K;exact T (q+1) p f ad<|oq K)
   exact⟨_,.tuple #[],by simp[Builtin.delete_,run_underlying ag,MapKept.run_getObj_map S,eZ,V,MapKept.run_setObj_map _ S,Result.andThen],k2,k1,Ts _⟩
 ·exact hs.elim
def Mj(H:ab)(i:Nat):bD->kc
 |.map _ clock=>⟨.aN [],an H i<|.map [] clock,True⟩
 |_=>⟨.top,H,False⟩
def EN(P:Program)(t:TypeId)(x:I)(H:ab):kc:=
 match x with
 |.map i=>⟨.aN [],(Mj H i (az H i)).H,(qI P t).isSome=true/\(Mj H i (az H i)).s⟩
 |x=>E9 P t x H
theorem aH1{t:TypeId}(U:bm c H)(J:aK c x b4)(hs:(EN P t x H).s):
  mq P (Builtin.clear_ #[t] ty #[b4]) c (EN P t x H).v (EN P t x H).H:=by
 unfold EN at *;split at hs
 ·rename_i i;obtain⟨hm,hs⟩:=hs;obtain⟨T,ag,V⟩:=Gv hm;cases K:az H i<;>simp[K,Mj]at hs ⊢;rename_i es clock;obtain⟨Z,S,hd,c8,O,hl,I⟩:=U.map K;obtain rfl:=J.JS S;obtain⟨k1,k2⟩:=JR U K [] clock #[] rfl (λq p f ad=>hW);exact⟨_,.tuple #[],by simp[Builtin.clear_,run_underlying ag,MapKept.run_getObj_map O,MapKept.run_setObj_map _ O],k2,k1,Ts _⟩
 ·exact aMP U J hs
def Mg(H:ab)(i:Nat):bD->kc
 |.map _ clock=>⟨.iter H.length,H++[.iY i clock [] clock],True⟩
 |_=>⟨.top,H,False⟩
def EO(P:Program)(t:TypeId)(x:I)(H:ab):kc:=
 match x with
 |.map i=>⟨.iter H.length,(Mg H i (az H i)).H,(qI P t).isSome=true/\(Mg H i (az H i)).s⟩
 |x=>Fa P t x H
theorem aH2{t:TypeId}(U:bm c H)(J:aK c x b4)(hs:(EO P t x H).s):
  mq P (Instr.range t b4) c (EO P t x H).v (EO P t x H).H:=by
 unfold EO at *;split at hs
 ·rename_i i;obtain⟨hm,hs⟩:=hs;obtain⟨V,ag,Z⟩:=Gv hm;cases K:az H i<;>simp only[K,Mg]at hs ⊢;rename_i es clock;obtain⟨I,O,hd,c8,S,hl,z⟩:=U.map K;obtain rfl:=J.JS O;have T:=U.push (.mapIter (some<|c.bo i) clock #[] clock) 0
   (.iY i clock [] clock (by simp[Ctx.push]) (by simp[Ctx.push]) (by simp[Ctx.push];omega) (by grind [Ctx.push]) (by simp[Ctx.push,hd])
    (by simp only[Ctx.push,dW,ar<|show ¬i=c.n by omega];exact mv _ _))
  refine⟨_,.pointer<|some ⟨c.w.heap.size,0,none⟩,?_,T,Ext.push U _ 0,?_⟩
  ·simp[Instr.range,run_underlying ag,MapKept.run_getObj_map S,Ctx.push]
  ·exact .iter _ _ (by simp[Ctx.push,U.n]) rfl λ_=>by simp[Ctx.push,U.n]
 ·exact aM1 U J hs
def vC(es:List (I×I×Nat))(seen:List Nat):List (I×I×Nat):=es.filter λp=> !seen.contains p.2.2
def L1(x:I)(H:ab)(K:I->ab->Prop):Prop:=
 ∃i m since seen kS es clock,x=.iter i/\az H i=.iY m since seen kS/\az H m=.map es clock/\(∀p∈es,p.2.2<kS/\p.2.2<since)/\
  (vC es seen=[]->K (.aN [.bool false]) H)/\∀p∈vC es seen,K (.aN [.bool true,p.1,p.2.1])<|an H i (.iY m since (seen++[p.2.2]) clock)
theorem aSd(w)(q):∃j w',(choose q).run P w=.ok j w'/\(w'=w\/w'={w with drawn:=w.drawn+1})/\(j=0\/∃a,j=q.cut a):=by
 rw[run_choose];split
 ·grind
 grind
theorem aIE{K:I->ab->Prop}(z:bm c H)(J:aK c x b4)(h:L1 x H K):
  ∃c' v x' H',(Instr.next b4 false ty).run P c.w=.ok v c'.w/\bm c' H'/\Ext c c'/\aK c' x' v/\K x' H':=by
 obtain⟨i,m,since,seen,kS,es,clock,rfl,hi,hm,hold,ay,h1⟩:=h;obtain⟨bK,aF,hd,c8,aa,hl,aw⟩:=z.map hm;have jx:=kD hi trivial;have n0:=z.rep i _ jx;cases n0 with
 |iY _ _ _ _ Nl SU aCd aCe aCc aB=>
  cases J with
  |iter _ _ _ _ hY=>
   obtain⟨-,rfl⟩:=hY Nl;have az:=NO (P:=P) aB hW;have RO:∀e∈c8,e.born<kS/\e.born<since:=by
    intro e he;obtain⟨j,O⟩:=Array.getElem?_of_mem he;have pe:=(qA.1 O).1;have ad:es[j]?=some (es[j]'(by omega)):=dn gf
    obtain⟨-, -,q⟩:=aw j _ e ad O;rw[q];exact hold _<|dy ad
   have tc:(!seen.toArray.isEmpty&& !c8.isEmpty&&c8.all λe=>decide<|e.born>=kS)=false:=by
    by_cases MN:c8= #[]
    ·simp[MN]
    ·obtain⟨e,he⟩:=Array.exists_mem_of_ne_empty _ MN;have:=(RO e he).1;have fV:(c8.all λe=>decide<|e.born>=kS)=false:=by
      rw[wV];intro q;have:=Array.all_eq_true'.1 q e he;simp at this;omega
     rw[fV,Bool.and_false]
   obtain⟨left,T⟩:∃left,c8.filter (λe=> !seen.toArray.contains e.born)=left:=⟨_,rfl⟩;have aP8:left.filter (λe=>decide<|e.born<since)=left:=by rw[Array.filter_eq_self];intro e he;rw[<-T,Array.mem_filter]at he;exact dr (RO e he.1).2
   have oM:left.filter (λe=>decide<|e.born>=since)= #[]:=by rw[Array.filter_eq_empty_iff];intro e he;rw[<-T,Array.mem_filter]at he;have:=(RO e he.1).2;simp;omega
   have R5:∀e,e∈left->∃p∈vC es seen,aK c p.1 e.key/\aK c p.2.1 e.val/\e.born=p.2.2:=by
    intro e he;rw[<-T,Array.mem_filter]at he;obtain⟨he,hs⟩:=he;obtain⟨j,O⟩:=Array.getElem?_of_mem he;have pe:=(qA.1 O).1;have ad:es[j]?=some (es[j]'(by omega)):=dn gf
    obtain⟨aL,aR,V⟩:=aw j _ e ad O;refine⟨_,mg.2 ⟨dy ad,?_⟩,aL,aR,V⟩;rw[<-V];simpa using hs
   have lL:left= #[]->vC es seen=[]:=by
    intro e;rw[List.eq_nil_iff_forall_not_mem];intro p ad;obtain⟨ad,hs⟩:=mg.1 ad;obtain⟨j,O⟩:=List.getElem?_of_mem ad;have pe:=(cu.1 O).1;have he:c8[j]?=some (c8[j]'(by omega)):=lq gf
    obtain⟨-, -,V⟩:=aw j p _ O he;have:c8[j]'(by omega)∈left:=by rw[<-T,Array.mem_filter];refine⟨Array.getElem_mem _,?_⟩;rw[V];simpa using hs
    rw[e]at this;simp at this
   have FV:∀w',(w'=c.w\/w'={c.w with drawn:=c.w.drawn+1})->∃U,U.w=w'/\bm U H/\Ext c U/\U.bo=c.bo/\(∀b:Nat,U.w.heap[b]?=c.w.heap[b]?)/\U.ba=c.ba/\U.c0=c.c0/\U.n=c.n:=by
    rintro w' (rfl|rfl)
    ·exact⟨c,rfl,z,Ext.refl c,rfl,λ_=>rfl,rfl,rfl,rfl⟩
    ·exact⟨c.draw,rfl,z.draw,Ext.draw c,rfl,λ_=>rfl,rfl,rfl,rfl⟩
   by_cases hle:left= #[]
   ·have aA:(Question.mapNext 1).forced=true:=by simp[Question.forced]
    refine⟨c,.tuple #[.bool false],.aN [.bool false],H,?_,z,Ext.refl c,aCZ<|.bool _,ay<|lL hle⟩;rw[hle]at T;simp only[Instr.next,az,Sem.run_bind,Result.andThen_ok,MapKept.run_getObj_map aa,tc,mM,gB,T];simp[aA]
   ·obtain⟨n,af⟩:∃n,left.size=n+1:=⟨left.size-1,by have:left.size≠0:=λq=>hle<|tJ q;omega⟩
    obtain⟨j,w',jM,gI,O⟩:=aSd (P:=P) c.w<|.mapNext left.size;have aPD:j<left.size:=by
     rw[run_choose]at jM;split at jM
     ·cases jM;omega
     ·cases jM;rename_i aA;simp only[Question.cut];exact Nat.mod_lt _ gf
    have tb:=lq aPD;obtain⟨p,ad,aL,aR,V⟩:=R5 left[j] (Array.getElem_mem _);obtain⟨U,ax,aq,aU,bf,b8,hv,nO,hF⟩:=FV w' gI;have kI:U.w.heap[U.bo i]?=some (.mapIter (some<|c.bo m) since seen.toArray kS):=by rw[bf,b8];exact aB
    obtain⟨y8,he⟩:=qA.1 kI;let Z:Obj:=.mapIter (some<|c.bo m) since (seen++[p.2.2]).toArray clock;let S:={U.w with heap:=U.w.heap.setIfInBounds (U.bo i) Z}
    have p5:S.heap[U.bo i]?=some Z:=by simp[S,y8]
    have k9:∀b,b≠U.bo i->S.heap[b]?=U.w.heap[b]?:=λb aT=>by simp only[S];rw[Array.getElem?_setIfInBounds_ne (λq=>aT q.symm)]
    obtain⟨fW,gk⟩:=aq.update jx trivial (by rw[nO];exact SU) S (by simp[S]) k9 (by simp[bsize,p5,kI,Z]) rfl rfl rfl
     (.iY m since (seen++[p.2.2]) clock (by rw[hv];exact Nl) (by rw[nO];exact SU) (by rw[hF];exact aCd) (by rw[hv];exact aCe) (by rw[nO];exact aCc) (by rw[p5,bf]))
    refine⟨{U with w:=S},.tuple #[.bool true,left[j].key,left[j].val],.aN [.bool true,p.1,p.2.1],_,?_,gk,aU.trans fW,aC0 (.bool _) ((aL.mono aU).mono fW)<|(aR.mono aU).mono fW,h1 p ad⟩
    have an:(setObj (c.bo i) Z).run P w'=.ok () S:=by rw[<-ax,<-bf];simp only[setObj,Sem.run,kI,S]
    have aT:¬left.isEmpty=true:=oq hle;have pn:(Obj.mapIter (some<|c.bo m) since (seen.toArray.push left[j].born) clock)=Z:=by simp[Z,V]
    simp only[Instr.next,az,Sem.run_bind,Result.andThen_ok,MapKept.run_getObj_map aa,tc,mM,gB,T,aP8,oM,ar aT,Array.append_empty,Array.empty_append,Array.size_map,jM,Array.getElem?_map,tb,vj,pn,an,Sem.run_pure]
def E5(P:Program)(t:TypeId)(x:I):h7:=
 match x,P.underlying t with
 |.sl true es,some (.slice _)=>⟨.int .i64 es.length,True⟩
 |_,_=>bad
theorem aKo{t:TypeId}(J:aK c x b4)(hs:(E5 P t x).s):∃v,(Builtin.cap_ #[t] ty #[b4]).run P c.w=.ok v c.w/\aK c (E5 P t x).v v:=by
 unfold E5 at *;split at hs
 ·rename_i es e hu;have K:=J.NS;obtain⟨base,len,cap,s,vs,rfl,rfl,g2,g3, -⟩:=J.qm;have U:=g3 rfl;subst U;exact⟨.int .i64 es.length,by simp[Builtin.cap_,run_underlying hu,goInt],.int _ _<|rO.2 gf⟩
 ·exact hs.elim
def QR(P:Program)(t:TypeId):Bool:=match P.underlying t with
 |some (.int _)=>true
 |_=>false
def EH(P:Program)(ts tx:TypeId)(s x:I)(H:ab):kc:=
 match x with
 |.int k n=>match s,P.underlying ts with
  |.sl true [],some (.slice e)=>⟨.osl (P.cellsOf e) H.length 1 0 n.toNat n.toNat,H++[.cells 1 ((List.replicate n.toNat (eU P e)).flatMap I.cells)],
    k=.i64/\QR P tx=true/\ow P e=true/\0<n/\n.toNat * P.bytesOf e<=140737488355328/\P.bytesOf e≠0⟩
  |_,_=>⟨.top,H,False⟩
 |x=>yF P ts tx s x H
theorem aGr{s:I}{vs:Value}(U:bm c H)(kL:aK c s vs)(J:aK c x b4)(hs:(EH P ts tx s x H).s):
  mq P (Builtin.append_ #[ts,tx] ty #[vs,b4]) c (EH P ts tx s x H).v (EH P ts tx s x H).H:=by
 unfold EH at *;split at hs
 ·rename_i k n;split at hs
  ·rename_i e hu;obtain⟨rfl,ta,bq,oL,aa,kI⟩:=hs;have M7:=bq;simp only[ow,dp,rD]at bq;obtain⟨⟨h1,h2⟩,h3⟩:=bq;obtain⟨d,hd⟩:=h6.1 h1;obtain⟨i,hi,aBg⟩:=info_of_underlying hd;obtain⟨z,fO,gl⟩:=u3 h2 c;have O:z.cells.size=P.cellsOf e:=by rw[(gl.cells h2).1,h3]
   have xy:i.bytes=P.bytesOf e:=by simp[Program.bytesOf,hi]
   have vQ:∃q,P.underlying tx=some (.int q):=by
    unfold QR at ta;split at ta
    ·rename_i q h;exact⟨q,h⟩
    ·cases ta
   obtain⟨q,vQ⟩:=vQ;have eY:=J.Dd;rw[rO]at eY;obtain rfl:=J.iD;obtain⟨base,len,cap,sz,mL,rfl,rfl,g2,g3, -⟩:=kL.qm;have my:=g3 rfl;subst my;obtain⟨m,hm⟩:∃m:Nat,n=m:=⟨n.toNat,gf⟩;subst hm;simp only[h5]at aa ⊢;have S:IntKind.i64.wrap m=m:=Ue gf gf;have aBG:=gf;have my:Builtin.nextslicecap (0+m) 0 * i.bytes<=281474976710656:=by rw[xy];exact growslice_fits gf<|by rw[lr];exact aa
   let K:=m+(c.w.tape c.w.drawn (.appendCap m 0 e)) % (2 ^ 63-m)
   have FL:(Question.appendCap m 0 e).cut (c.w.tape c.w.drawn<|.appendCap m 0 e)=K:=rfl;let cells:=(if m * P.cellsOf e=0 then #[]else Builtin.zeroCells z.cells m)++Builtin.zeroCells z.cells (K-m)
   have T:∀w,(asInt (.int .i64 m)).run P w=.ok m w:=λw=>by simp[asInt,asIntOf]
   have RR:∀w,(Builtin.firstCells (P.cellsOf e) 0 (.slice base 0 0)).run P w=.ok #[] w:=λw=>by cases base<;>simp[Builtin.firstCells,loadCells,loadCellsFrom]
   have gX:(Builtin.append_ #[ts,tx] ty #[.slice base 0 0,.int .i64 m]).run P c.w=.ok (.slice (some ⟨c.w.heap.size,0,none⟩) m K) (World.alloc {c.w with drawn:=c.w.drawn+1} (.cells cells e)):=by
    rw[lr]at my;have RJ:¬(Builtin.nextslicecap m 0 * P.bytesOf e>281474976710656):=by rw[<-xy];omega
    have aYo:Builtin.nextslicecap m 0 * P.bytesOf e<=281474976710656:=gf;have CP:¬m=0:=gf;have V:¬((m:Int)<0):=gf;have Z:¬((9223372036854775807:Int)<(m:Int)):=gf;have cH:¬(281474976710656:Int)<(m:Int) * (P.bytesOf e:Int):=by rw[<-Int.natCast_mul];omega
    by_cases hsz:m * P.cellsOf e=0
    ·have lM:P.cellsOf e=0:=(Nat.mul_eq_zero.1 hsz).resolve_left CP;simp only[lM]at RR;simp[Builtin.append_,run_underlying hu,gT hd,run_underlying vQ,T,S,V,typeInfo,hi,xy,cH,CP,lM,RJ,Z,kI,Question.forced,fO,newRow,RR,cells,FL]
    ·have lM:¬P.cellsOf e=0:=λh=>hsz<|by rw[h];rfl
     simp[Builtin.append_,run_underlying hu,gT hd,run_underlying vQ,T,S,V,typeInfo,hi,xy,cH,CP,RJ,Z,kI,Question.forced,fO,newRow,RR,cells,FL];rw[ar hsz,ar hsz]
   have p8:(if m * P.cellsOf e=0 then #[]else Builtin.zeroCells z.cells m).size=m * P.cellsOf e:=by
    split
    ·rename_i h;rw[h];rfl
    ·rw[size_zeroCells,O]
   have pc:∀x∈List.replicate m (eU P e),x.cells.length=P.cellsOf e:=λx J=>by rw[(List.mem_replicate.1 J).2];exact h3
   have eh:=Gk pc;rw[zI]at eh;have Sl:(Builtin.zeroCells z.cells (K-m)).size=(K-m) * P.cellsOf e:=by rw[size_zeroCells,O]
   have aBk:cells.size=m * P.cellsOf e+(K-m) * P.cellsOf e:=by simp only[cells,Array.size_append];rw[p8,Sl]
   have aP2:m<=K:=gf;have hJ:=U.draw.push (.cells cells e) (B:=.cells 1<|(List.replicate m (eU P e)).flatMap I.cells) 1 (by
    refine .cells _ _ _ e (0,0) (by simp[Ctx.push]) (by simp[Ctx.push]) (by simp only[Ctx.push,dW];exact mv _ _) (by rw[eh,aBk];omega) (.inr (bh _)) λk y u hk kn=>?_
    have nW:k<m * P.cellsOf e:=oC<|(cu.1 hk).1
    have lM:0<P.cellsOf e:=Nat.pos_of_ne_zero λh=>by rw[h,Nat.mul_zero]at nW;omega
    have hm:k % P.cellsOf e<P.cellsOf e:=Nat.mod_lt _ lM;have hdiv:k / P.cellsOf e * P.cellsOf e+k % P.cellsOf e=k:=by rw[Nat.mul_comm];exact Nat.div_add_mod _ _
    have g1:=My pc (k / P.cellsOf e) (k % P.cellsOf e) hm;rw[hdiv,hk]at g1;have iS:k / P.cellsOf e<m:=Nat.div_lt_of_lt_mul<|by rw[Nat.mul_comm];exact nW
    rw[List.getElem?_replicate,aC iS,e6]at g1;have aT:¬m * P.cellsOf e=0:=gf;have g2:cells[k]?=some (z.cells[k % z.cells.size]!):=by
     simp only[cells,ar aT];rw[wQ (by rw[size_zeroCells,O];exact nW)]
     simp only[Builtin.zeroCells,Array.getElem?_map];rw[lq (by simpa[O]using nW)];simp
    rw[g2,O]at kn;cases kn;refine(((gl.cells h2).2 _ _ _ g1.symm ?_).mono (Ext.draw c)).mono<|Ext.push U.draw _ 1;rw[getElem!_pos z.cells (k % P.cellsOf e) gf]
    exact lq _)
   refine⟨_,_,gX,hJ,(Ext.draw c).trans<|Ext.push U.draw _ 1,?_⟩;refine .osl _ _ _ _ _ _ _ (by simp[Ctx.push,Ctx.draw,U.n]) (by simp[Ctx.push,Ctx.draw,U.n]) rfl gf (λ_ hd=>by simp[Ctx.push,Ctx.draw,U.n]at hd) λ_ _=>?_
   refine⟨_,K,cells.size,rfl,bh _,aP2,.inr (by simp[Ctx.push,Ctx.draw,U.n]),?_,?_⟩
   ·simp only[bsize,Ctx.push,Ctx.draw,U.n,dW];have:=mv {c.w with drawn:=c.w.drawn+1} (.cells cells e)
    simp only at this;rw[this]
   ·rw[aBk,<-o2,lr];exact wT _ gf
  ·exact hs.elim
 ·exact aMM U kL J hs
def Me(kS:Nat)(seen:List Nat):bD->h7
 |.map es clock=>match seen.getLast? with
  |some k=>match es.find? (λp=>p.2.2==k)with
   |some p=>⟨.aN [p.1,p.2.1],clock=kS⟩
   |none=>bad
  |none=>bad
 |_=>bad
def QZ(H:ab):bD->h7
 |.iY m _ seen kS=>Me kS seen<|az H m
 |_=>bad
def Io(x:I)(H:ab):h7:=match x with
 |.iter i=>QZ H<|az H i
 |_=>bad
theorem find_born(k:Nat):∀(es:List (I×I×Nat)) (c8:List MapEntry),c8.length=es.length->(∀(j:Nat) (p:I×I×Nat) (e:MapEntry),es[j]?=some p->c8[j]?=some e->aK c p.1 e.key/\aK c p.2.1 e.val/\e.born=p.2.2)->
  ∀p,es.find? (λp=>p.2.2==k)=some p->∃e,c8.find? (λe=>e.born==k)=some e/\aK c p.1 e.key/\aK c p.2.1 e.val:=by
 intro es;induction es with
 |nil=>intro c8 _ _ p h;cases h
 |cons q es U=>
  intro c8 hl J p h;cases c8 with
  |nil=>simp at hl
  |cons e c8=>
   obtain⟨h1,h2,h3⟩:=J 0 q e rfl rfl;rw[List.find?_cons]at h ⊢;rw[h3];cases aM:(q.2.2==k)with
   |true=>grind
   |false=>rw[aM]at h;exact U c8 j9 (λj p e ad he=>J (j+1) p e j9<|oq he) p h
theorem aIF(K:bm c H)(J:aK c x b4)(hs:(Io x H).s):
  ∃v,(Instr.entry b4).run P c.w=.ok v c.w/\aK c (Io x H).v v:=by
 unfold Io at *;split at hs
 ·rename_i i;cases O:az H i<;>simp only[O,QZ,bad]at hs ⊢;rename_i m since seen kS;have S:=K.rep i _<|kD O trivial;cases S with
  |iY _ _ _ _ T SU V Z I z=>
   cases J with
   |iter _ _ _ _ hY=>
    obtain⟨-,rfl⟩:=hY T;have vU:=NO (P:=P) z hW;cases hm:az H m<;>simp only[hm,Me,bad]at hs ⊢;rename_i es clock;obtain⟨bK,aF,hd,c8,aa,hl,aw⟩:=K.map hm;cases hk:seen.getLast? with
    |none=>rw[hk]at hs;exact hs.elim
    |some k=>
     rw[hk]at hs;simp only at hs ⊢;cases U:es.find? (λp=>p.2.2==k)with
     |none=>rw[U]at hs;exact hs.elim
     |some p=>
      rw[U]at hs;obtain⟨e,he,AZ,nZ⟩:=find_born k es c8.toList (oq hl) (λj p e ad he=>aw j p e ad<|oq he) p U
      have vO:=oq hk;have vR:c8.find? (λe=>e.born==k)=some e:=j9;subst hs;exact⟨.tuple #[e.key,e.val],by simp[Instr.entry,vU,vO,MapKept.run_getObj_map aa,vR,Result.andThen],Ca AZ nZ⟩
 ·exact hs.elim
end Go.Proofs.YtnmamncmpklliaaGreatDoor
