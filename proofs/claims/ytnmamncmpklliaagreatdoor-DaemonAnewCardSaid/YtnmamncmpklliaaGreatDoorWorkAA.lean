/- What the functions of this seat answer (1 of 53). No condition. -/
import Derived.KernelRfl
import Derived.Calls
import Derived.RangeFuncLeaves
import Derived.RangeFuncRecord
import Derived.OrdersIn
import Derived.Laws.World
import Derived.Laws.Sem
import Derived.Laws.StructEq
import Derived.Laws.Cells
import Derived.Laws.Slices
namespace Go
theorem bF:type_of% @List.length_append:=@List.length_append
theorem bN:type_of% @decide_eq_false:=@decide_eq_false
theorem cj:type_of% @List.getElem?_eq_some_iff:=@List.getElem?_eq_some_iff
theorem aj:type_of% @if_neg:=@if_neg
theorem et:type_of% @List.getD_eq_getElem?_getD:=@List.getD_eq_getElem?_getD
theorem fj:type_of% @List.take_succ_eq_append_getElem:=@List.take_succ_eq_append_getElem
theorem cg:type_of% @List.length_cons:=@List.length_cons
theorem da:type_of% @List.getElem?_eq_getElem:=@List.getElem?_eq_getElem
theorem bd:type_of% @Nat.le_refl:=@Nat.le_refl
theorem aA:type_of% @if_pos:=@if_pos
theorem cv:type_of% @List.length_map:=@List.length_map
theorem cD:type_of% @decide_eq_true:=@decide_eq_true
theorem bJ:type_of% @List.mem_map:=@List.mem_map
theorem cA:type_of% @List.append_nil:=@List.append_nil
theorem dr:type_of% @List.append_assoc:=@List.append_assoc
theorem bW:type_of% @Nat.zero_le:=@Nat.zero_le
theorem cV:type_of% @Bool.and_eq_true:=@Bool.and_eq_true
theorem ij:type_of% @List.drop_eq_getElem_cons:=@List.drop_eq_getElem_cons
theorem ds:type_of% @List.mem_of_getElem?:=@List.mem_of_getElem?
theorem iO:type_of% @List.eq_nil_of_length_eq_zero:=@List.eq_nil_of_length_eq_zero
theorem e5:type_of% @Int.toNat_natCast:=@Int.toNat_natCast
theorem eg:type_of% @List.length_nil:=@List.length_nil
theorem iP:type_of% @List.getElem?_append_left:=@List.getElem?_append_left
theorem iw:type_of% @List.take_of_length_le:=@List.take_of_length_le
theorem dF:type_of% @List.mem_singleton:=@List.mem_singleton
theorem eG:type_of% @List.take_length:=@List.take_length
theorem eK:type_of% @List.length_take:=@List.length_take
theorem dz:type_of% @List.map_cons:=@List.map_cons
theorem bU:type_of% @congrArg:=@congrArg
theorem fZ:type_of% @Option.bind_some:=@Option.bind_some
theorem fT:type_of% @List.length_drop:=@List.length_drop
theorem cU:type_of% @List.mem_cons:=@List.mem_cons
theorem gU:type_of% @decide_eq_true_eq:=@decide_eq_true_eq
theorem gm:type_of% @List.all_eq_true:=@List.all_eq_true
theorem ga:type_of% @List.getElem_mem:=@List.getElem_mem
theorem hC:type_of% @Option.map_eq_some_iff:=@Option.map_eq_some_iff
theorem iN:type_of% @List.cons_append:=@List.cons_append
theorem e4:type_of% @List.mem_append:=@List.mem_append
theorem gC:type_of% @List.getElem?_set_ne:=@List.getElem?_set_ne
theorem b5:type_of% @eq_true:=@eq_true
theorem fr:type_of% @Nat.le_trans:=@Nat.le_trans
theorem ni:type_of% @Option.bind_eq_some_iff:=@Option.bind_eq_some_iff
theorem pX:type_of% @List.getElem?_append_right:=@List.getElem?_append_right
theorem lT:type_of% @of_decide_eq_true:=@of_decide_eq_true
theorem ju:type_of% @List.nil_append:=@List.nil_append
theorem hj:type_of% @List.map_nil:=@List.map_nil
theorem mF:type_of% @List.getElem?_map:=@List.getElem?_map
theorem nj:type_of% @List.flatMap_cons:=@List.flatMap_cons
theorem lj:type_of% @List.not_mem_nil:=@List.not_mem_nil
theorem pe:type_of% @List.length_pos_iff:=@List.length_pos_iff
theorem pY:type_of% @List.take_append_drop:=@List.take_append_drop
theorem mc:type_of% @Array.getElem?_eq_getElem:=@Array.getElem?_eq_getElem
theorem rH:type_of% @List.getElem?_set_self:=@List.getElem?_set_self
theorem oy:type_of% @List.drop_length:=@List.drop_length
theorem kB:type_of% @List.length_set:=@List.length_set
theorem mE:type_of% @Bool.false_eq_true:=@Bool.false_eq_true
theorem zk:type_of% @Int.tdiv_eq_ediv_of_nonneg:=@Int.tdiv_eq_ediv_of_nonneg
theorem sA:type_of% @List.mem_of_mem_drop:=@List.mem_of_mem_drop
theorem tA:type_of% @List.getElem?_eq_none:=@List.getElem?_eq_none
theorem pd:type_of% @List.length_filter_le:=@List.length_filter_le
theorem pW:type_of% @Option.getD_some:=@Option.getD_some
theorem Bf:type_of% @Int.tmod_eq_emod_of_nonneg:=@Int.tmod_eq_emod_of_nonneg
theorem tB:type_of% @Nat.lt_of_lt_of_le:=@Nat.lt_of_lt_of_le
theorem j9:type_of% @Nat.zero_add:=@Nat.zero_add
theorem wG:type_of% @decide_eq_false_iff_not:=@decide_eq_false_iff_not
theorem sC:type_of% @List.mem_of_find?_eq_some:=@List.mem_of_find?_eq_some
theorem uZ:type_of% @List.mem_of_mem_take:=@List.mem_of_mem_take
theorem nQ:type_of% @List.map_append:=@List.map_append
theorem pf:type_of% @Bool.eq_iff_iff:=@Bool.eq_iff_iff
theorem mG:type_of% @List.foldl_cons:=@List.foldl_cons
theorem qO:type_of% @List.mem_range:=@List.mem_range
theorem Bi:type_of% @Array.getElem?_append_left:=@Array.getElem?_append_left
theorem me:type_of% @Nat.mul_one:=@Nat.mul_one
theorem Gc:type_of% @List.drop_append_of_le_length:=@List.drop_append_of_le_length
theorem dG:type_of% @if_true:=@if_true
theorem zn:type_of% @Option.isSome_some:=@Option.isSome_some
theorem tE:type_of% @List.flatMap_append:=@List.flatMap_append
theorem qP:type_of% @Option.some.inj:=@Option.some.inj
theorem sD:type_of% @List.drop_drop:=@List.drop_drop
theorem qQ:type_of% @decide_true:=@decide_true
theorem tF:type_of% @Array.eq_empty_of_size_eq_zero:=@Array.eq_empty_of_size_eq_zero
theorem x2:type_of% @Bool.not_eq_true:=@Bool.not_eq_true
theorem rI:type_of% @List.map_take:=@List.map_take
theorem sE:type_of% @List.filter_cons:=@List.filter_cons
theorem oA:type_of% @Nat.le_succ:=@Nat.le_succ
theorem zo:type_of% @List.replicate_succ:=@List.replicate_succ
theorem hV:type_of% @Option.isSome_iff_exists:=@Option.isSome_iff_exists
theorem rJ:type_of% @Nat.add_zero:=@Nat.add_zero
theorem u0:type_of% @List.foldl_append:=@List.foldl_append
theorem JY:type_of% @Array.getElem?_append_right:=@Array.getElem?_append_right
theorem tD:type_of% @List.getElem?_cons_succ:=@List.getElem?_cons_succ
theorem JZ:type_of% @Array.getD_eq_getD_getElem?:=@Array.getD_eq_getD_getElem?
theorem Dn:type_of% @Option.isSome_none:=@Option.isSome_none
theorem uX:type_of% @Nat.min_eq_left:=@Nat.min_eq_left
theorem wD:type_of% @List.filter_append:=@List.filter_append
theorem lV:type_of% @List.mem_filter:=@List.mem_filter
theorem gz:type_of% @if_false:=@if_false
theorem F8:type_of% @Array.toList_append:=@Array.toList_append
theorem Bh:type_of% @List.length_range:=@List.length_range
theorem uY:type_of% @List.map_drop:=@List.map_drop
theorem xZ:type_of% @List.drop_left:=@List.drop_left
theorem x0:type_of% @List.take_left:=@List.take_left
theorem wE:type_of% @not_not_intro:=@not_not_intro
theorem x1:type_of% @Array.getElem?_toList:=@Array.getElem?_toList
theorem F9:type_of% @Array.mem_of_getElem?:=@Array.mem_of_getElem?
theorem Dp:type_of% @List.contains_iff_mem:=@List.contains_iff_mem
theorem zl:type_of% @List.length_replicate:=@List.length_replicate
theorem Ga:type_of% @List.getElem_set_self:=@List.getElem_set_self
theorem Gb:type_of% @List.dropLast_eq_take:=@List.dropLast_eq_take
theorem zm:type_of% @List.getElem?_drop:=@List.getElem?_drop
theorem J0:type_of% @Array.setIfInBounds_comm:=@Array.setIfInBounds_comm
theorem lk:type_of% @or_false:=@or_false
theorem wF:type_of% @List.find?_eq_none:=@List.find?_eq_none
theorem NP:type_of% @List.take_append_of_le_length:=@List.take_append_of_le_length
theorem oz:type_of% @List.prefix_refl:=@List.prefix_refl
theorem wA:type_of% @Nat.mul_le_mul_right:=@Nat.mul_le_mul_right
theorem lU:type_of% @List.mem_cons_of_mem:=@List.mem_cons_of_mem
theorem tC:type_of% @Nat.add_assoc:=@Nat.add_assoc
theorem sB:type_of% @Bool.not_eq_true':=@Bool.not_eq_true'
theorem wB:type_of% @Bool.eq_false_iff:=@Bool.eq_false_iff
theorem Dm:type_of% @Option.map_none:=@Option.map_none
theorem wC:type_of% @Option.map_some:=@Option.map_some
theorem F7:type_of% @Int.toNat_of_nonneg:=@Int.toNat_of_nonneg
theorem JW:type_of% @Array.getElem?_eq_none:=@Array.getElem?_eq_none
theorem JX:type_of% @List.drop_eq_nil_of_le:=@List.drop_eq_nil_of_le
theorem oB:type_of% @Prod.ext:=@Prod.ext
theorem ka:type_of% @Ne.symm:=@Ne.symm
theorem sF:type_of% @Array.getElem?_eq_some_iff:=@Array.getElem?_eq_some_iff
theorem u2:type_of% @List.mem_flatMap:=@List.mem_flatMap
theorem Ds:type_of% @Nat.mod_eq_of_lt:=@Nat.mod_eq_of_lt
theorem Dt:type_of% @Option.getD_none:=@Option.getD_none
theorem sG:type_of% @List.map_map:=@List.map_map
theorem sH:type_of% @Bool.true_and:=@Bool.true_and
theorem Gg:type_of% @Nat.le_of_ble_eq_true:=@Nat.le_of_ble_eq_true
theorem Gh:type_of% @BitVec.toNat_ofNat:=@BitVec.toNat_ofNat
theorem J2:type_of% @List.takeWhile_prefix:=@List.takeWhile_prefix
theorem J3:type_of% @BitVec.ofInt_natCast:=@BitVec.ofInt_natCast
theorem Gi:type_of% @List.take_add_one:=@List.take_add_one
theorem zp:type_of% @List.range_succ:=@List.range_succ
theorem wH:type_of% @List.getElem?_set:=@List.getElem?_set
theorem J4:type_of% @List.drop_replicate:=@List.drop_replicate
theorem J5:type_of% @List.flatMap_nil:=@List.flatMap_nil
theorem rK:type_of% @beq_iff_eq:=@beq_iff_eq
theorem sI:type_of% @cond_false:=@cond_false
theorem Du:type_of% @List.take_zero:=@List.take_zero
theorem Bj:type_of% @List.foldl_nil:=@List.foldl_nil
theorem Dv:type_of% @List.getElem?_take:=@List.getElem?_take
theorem J6:type_of% @Nat.add_sub_cancel:=@Nat.add_sub_cancel
theorem Bk:type_of% @Nat.lt_or_ge:=@Nat.lt_or_ge
theorem pg:type_of% @Nat.add_mul:=@Nat.add_mul
theorem Ge:type_of% @decide_false:=@decide_false
theorem jP:type_of% @Int.le_refl:=@Int.le_refl
theorem J1:type_of% @List.singleton_append:=@List.singleton_append
theorem x3:type_of% @List.ext_getElem?:=@List.ext_getElem?
theorem Dq:type_of% @List.cons.inj:=@List.cons.inj
theorem tG:type_of% @cond_true:=@cond_true
theorem x4:type_of% @List.drop_zero:=@List.drop_zero
theorem Dr:type_of% @List.take_take:=@List.take_take
theorem Gf:type_of% @List.flatMap_map:=@List.flatMap_map
theorem qR:type_of% @Nat.mul_comm:=@Nat.mul_comm
theorem u1:type_of% @List.nodup_cons:=@List.nodup_cons
theorem x5:type_of% @eq_false:=@eq_false
end Go
set_option linter.unusedSimpArgs false
set_option linter.unusedVariables false
set_option linter.unusedSectionVars false
set_option maxRecDepth 100000
set_option maxHeartbeats 16000000
namespace Go.Proofs.YtnmamncmpklliaaGreatDoor
theorem iV{p:Prop}(h:p:=by omega):p:=h
theorem kk{p:Prop}(h:p:=by simp):p:=h
theorem kr{p:Prop}(h:p:=by grind):p:=h
theorem l9{p:Prop}(h:p:=by decide):p:=h
theorem n2{p:Prop}(h:p:=by kernel_rfl):p:=h
theorem nb{p:Prop}(h:p:=by simp only[go_sem]):p:=h
theorem nX{p:Prop}(h:p:=by simp;omega):p:=h
theorem oE{p:Prop}(h:p:=by simp_all):p:=h
variable{n:Int}{w:World}{v val b2 jb lh:Value}{N b id f i off len lc cap:Nat}{r:Option Nat}{P:Program}{code body:Code}{Q:Exit->Act->World->Prop}{ι:Type}{o:Oper}{s:List UInt8}{d:TypeDesc}{e:TypeId}{bT:Nat×Nat}{full:Bool}{base:Option Addr}
inductive I where
 |int (k:IntKind) (n:Int)
 |bool (b:Bool)
 |str (s:List UInt8)
 |agg (cs:List I)
 |aQ (vs:List I)
 |sl (full:Bool) (es:List I)
 |cptr (cs:List I)
 |ref (i a1 off:Nat)
 |osl (s i a1 off len lc:Nat)
 |dO
 |map (i:Nat)
 |iu
 |iter (i:Nat)
 |func (fn:Fn) (first captured:List I)
 |ea
 |iface (t:TypeId) (v:I)
 |nilIface
 |opt (g:Bool) (v:I)
 |top
variable{x sd:I}{es cs xs:List I}
instance:Inhabited I:=⟨.top⟩
def I.cells:I->List I
 |.agg cs=>cs
 |v=>[v]
structure Ctx where
 w:World
 n:Nat
 bl:Nat->Nat
 a1:Nat->Nat
 cO:Nat->Bool
 hh:Nat->Prop
 base:Nat×List Deferred
variable{c c':Ctx}
def bsize(w:World)(b:Nat):Option Nat:=
 match w.heap[b]? with
 |some (.cells vs _ _)=>some vs.size
 |_=>none
def l6(k:IntKind)(n:Int):Prop:=k.min<=n/\n<=k.max
theorem vh(k:IntKind)(n:Int):l6 k (k.wrap n):=by
 unfold l6 IntKind.wrap IntKind.min IntKind.max;cases k<;>simp[IntKind.bits,IntKind.signed]<;>(try split)<;>omega
theorem aHU(k:IntKind):k.min<=0/\0<=k.max:=by cases k<;>decide
theorem Yv{k:IntKind}{m:Int}(h:l6 k n)(h1:0<=n->0<=m/\m<=n)(h2:n<0->n<=m/\m<=0):l6 k m:=by
 obtain⟨p,q⟩:=aHU k;obtain⟨h3,h4⟩:=h;by_cases aw:0<=n
 ·have:=h1 aw;exact⟨iV,iV⟩
 ·have:=h2 iV;exact⟨iV,iV⟩
theorem rR:l6 .i64 n↔ -9223372036854775808<=n/\n<=9223372036854775807:=Iff.rfl
theorem KO:l6 .u8 n↔0<=n/\n<=255:=Iff.rfl
theorem Yg:l6 .i32 n↔ -2147483648<=n/\n<=2147483647:=Iff.rfl
def wZ(k:IntKind)(n:Int):Bool:=decide (k.min<=n)&&decide (n<=k.max)
theorem Dl{k:IntKind}:wZ k n=true↔l6 k n:=by simp[wZ,l6]
inductive aI (c:Ctx):I->Value->Prop
 |int (k:IntKind) (n:Int) (az:l6 k n):aI c (.int k n) (.int k n)
 |bool (b:Bool):aI c (.bool b) (.bool b)
 |str (s:List UInt8) (az:s.length<=9223372036854775807):aI c (.str s) (.string ⟨s.toArray⟩)
 |agg (cs:List I) (vs:Array Value) (hl:vs.size=cs.length) (h:∀(i:Nat) (x:I) (v:Value),cs[i]?=some x->vs[i]?=some v->aI c x v):aI c (.agg cs) (.agg vs)
 |aQ (cs:List I) (vs:Array Value) (hl:vs.size=cs.length) (h:∀(i:Nat) (x:I) (v:Value),cs[i]?=some x->vs[i]?=some v->aI c x v):aI c (.aQ cs) (.tuple vs)
 |sl (full:Bool) (es:List I) (base:Option Addr) (len cap s:Nat) (vs:Nat->Nat->Value) (hlen:len=es.length) (mq:len<=cap) (Av:full=true->cap=len)
   (aa:es≠[]->∃a,base=some a/\a.spot=none/\c.hh a.block/\∀k j,k<es.length->j<s->c.w.cell? (a.add (k * s+j))=some (vs k j))
   (hs:∀e∈es,e.cells.length=s)
   (az:∀(k:Nat) (e:I) (j:Nat) (x:I),es[k]?=some e->e.cells[j]?=some x->aI c x (vs k j)) (r1:len<=9223372036854775807):aI c (.sl full es) (.slice base len cap)
 |cptr (cs:List I) (a:Addr) (vs:Nat->Value) (Cw:a.spot=none) (ai:c.hh a.block) (au:∀j,j<cs.length->c.w.cell? (a.add j)=some (vs j))
   (az:∀(j:Nat) (x:I),cs[j]?=some x->aI c x (vs j)):aI c (.cptr cs) (.pointer<|some a)
 |ref (i v off:Nat) (val:Value) (hi:i<c.n) (aG:v<=c.a1 i) (aD:val.oneCell'=true) (h:c.a1 i=v->c.cO i=false/\val=.pointer (some ⟨c.bl i,off,none⟩)):aI c (.ref i v off) val
 |osl (s i v off len lc:Nat) (val:Value) (hi:i<c.n) (aG:v<=c.a1 i) (aD:val.oneCell'=true) (r1:lc<=9223372036854775807)
   (h1:c.a1 i=v->c.cO i=true->len=0/\lc=0/\∃base,val=.slice base 0 0)
   (h2:c.a1 i=v->c.cO i=false->∃base cap m,val=.slice base len cap/\len<=lc/\lc<=cap/\(cap=0\/base=some ⟨c.bl i,off,none⟩)/\bsize c.w (c.bl i)=some m/\off+cap * s<=m):aI c (.osl s i v off len lc) val
 |dO:aI c .dO (.pointer none)
 |map (i:Nat) (val:Value) (hi:i<c.n) (aD:val.oneCell'=true) (h:c.a1 i=0->c.cO i=false/\val=.map (some<|c.bl i)):aI c (.map i) val
 |iu:aI c .iu (.map none)
 |iter (i:Nat) (val:Value) (hi:i<c.n) (aD:val.oneCell'=true) (h:c.a1 i=0->c.cO i=false/\val=.pointer (some ⟨c.bl i,0,none⟩)):aI c (.iter i) val
 |func (fn:Fn) (fs cs:List I) (so wq:Array Value) (ax:so.size=fs.length) (au:wq.size=cs.length)
   (h1:∀(i:Nat) (x:I) (v:Value),fs[i]?=some x->so[i]?=some v->aI c x v) (h2:∀(i:Nat) (x:I) (v:Value),cs[i]?=some x->wq[i]?=some v->aI c x v):aI c (.func fn fs cs) (.func fn so wq)
 |ea:aI c .ea .nilFunc
 |iface (t:TypeId) (x:I) (v:Value) (h:aI c x v):aI c (.iface t x) (.iface t v)
 |nilIface:aI c .nilIface .nilIface
 |opt (g:Bool) (x:I) (v:Value) (h1:g=true->aI c x v) (h2:g=false->v=undef):aI c (.opt g x) v
 |top (v:Value):aI c .top v
structure Ext (c c':Ctx):Prop where
 n:c.n<=c'.n
 size:c.w.heap.size<=c'.w.heap.size
 st:∀b,c.hh b->c'.hh b/\c'.w.heap[b]?=c.w.heap[b]?
 a1:∀i,i<c.n->c.a1 i<=c'.a1 i
 bl:∀i,i<c.n->c'.a1 i=c.a1 i->c'.bl i=c.bl i/\c'.cO i=c.cO i/\(c.cO i=false->bsize c'.w (c.bl i)=bsize c.w (c.bl i))
 os:c'.w.os=c.w.os
 tape:c'.w.tape=c.w.tape/\c.w.drawn<=c'.w.drawn
 output:c'.w.output=c.w.output
 base:c'.base=c.base
theorem Ext.refl(c:Ctx):Ext c c:=⟨bd _,bd _,λ_ h=>⟨h,rfl⟩,λ_ _=>bd _,λ_ _ _=>⟨rfl,rfl,λ_=>rfl⟩,rfl,⟨rfl,bd _⟩,rfl,rfl⟩
theorem Ext.trans{a b c:Ctx}(h:Ext a b)(k:Ext b c):Ext a c where
 n:=fr h.n k.n
 size:=fr h.size k.size
 st:=λx J=>⟨(k.st x (h.st x J).1).1,((k.st x (h.st x J).1).2).trans (h.st x J).2⟩
 a1:=λi hi=>fr (h.a1 i hi)<|k.a1 i (tB hi h.n)
 bl:=λi hi he=>by
  have h1:=h.a1 i hi;have h2:=k.a1 i<|tB hi h.n;have av:b.a1 i=a.a1 i:=iV
  have al:c.a1 i=b.a1 i:=iV
  obtain⟨U,K,O⟩:=h.bl i hi av;obtain⟨aP,T,V⟩:=k.bl i (tB hi h.n) al;grind
 os:=k.os.trans h.os
 tape:=⟨k.tape.1.trans h.tape.1,fr h.tape.2 k.tape.2⟩
 output:=k.output.trans h.output
 base:=k.base.trans h.base
theorem aCu{w':World}{a:Addr}(h:w'.heap[a.block]?=w.heap[a.block]?):w'.cell? a=w.cell? a:=by
 unfold World.cell?;rw[h]
theorem Addr.Ev(a:Addr)(n:Nat):(a.add n).block=a.block:=by
 unfold Addr.add;split<;>rfl
structure Bo (c c':Ctx):Prop where
 n:c.n<=c'.n
 st:∀b,c.hh b->c'.hh b
 cell:∀a:Addr,c.hh a.block->c'.w.cell? a=c.w.cell? a
 a1:∀i,i<c.n->c.a1 i<=c'.a1 i
 bl:∀i,i<c.n->c'.a1 i=c.a1 i->c'.bl i=c.bl i/\c'.cO i=c.cO i/\(c.cO i=false->bsize c'.w (c.bl i)=bsize c.w (c.bl i))
theorem Ext.Qz(h:Ext c c'):Bo c c':=⟨h.n,λb J=>(h.st b J).1,λ_ U=>aCu (h.st _ U).2,h.a1,h.bl⟩
theorem aI.rn(J:Bo c c')(h:aI c x v):aI c' x v:=by
 induction h with
 |int k n O=>exact .int k n O
 |bool b=>exact .bool b
 |str s O=>exact .str s O
 |agg cs vs hl _ U=>exact .agg cs vs hl U
 |aQ cs vs hl _ U=>exact .aQ cs vs hl U
 |sl full es base len cap s vs hlen mq Av aa hs _ T U=>
  refine .sl full es base len cap s vs hlen mq Av (λaN=>?_) hs U T
  obtain⟨a,av,al,aY,bu⟩:=aa aN;refine⟨a,av,al,J.st _ aY,λk j hk V=>?_⟩
  rw[J.cell _ (by rw[Addr.Ev];exact aY)]
  exact bu k j hk V
 |cptr cs a vs Cw ai Z _ U=>
  refine .cptr cs a vs Cw (J.st _ ai) (λj V=>?_) U
  rw[J.cell _ (by rw[Addr.Ev];exact ai)]
  exact Z j V
 |ref i v off val hi I K h=>
  refine .ref i v off val (tB hi J.n) (fr I (J.a1 i hi)) K λe=>?_
  have h1:=J.a1 i hi;have av:c'.a1 i=c.a1 i:=iV
  rw[(J.bl i hi av).1,(J.bl i hi av).2.1];exact h iV
 |osl s i v off len lc val hi I K T h1 h2=>
  have hle:=J.a1 i hi;refine .osl s i v off len lc val (tB hi J.n) (fr I hle) K T (λe d=>?_) (λe d=>?_)
  ·have av:c'.a1 i=c.a1 i:=iV
   exact h1 iV<|by rw[<-(J.bl i hi av).2.1];exact d
  ·have av:c'.a1 i=c.a1 i:=iV
   obtain⟨cq,cT,dP⟩:=J.bl i hi av;rw[cT]at d;obtain⟨base,cap,m,aP,aR,z,bH,cC,ez⟩:=h2 iV d
   exact⟨base,cap,m,aP,aR,z,by rw[cq];exact bH,by rw[cq,dP d];exact cC,ez⟩
 |dO=>exact .dO
 |map i val hi K h=>
  refine .map i val (tB hi J.n) K λe=>?_
  have h1:=J.a1 i hi;have av:c'.a1 i=c.a1 i:=iV
  rw[(J.bl i hi av).1,(J.bl i hi av).2.1];exact h iV
 |iu=>exact .iu
 |iter i val hi K h=>
  refine .iter i val (tB hi J.n) K λe=>?_
  have h1:=J.a1 i hi;have av:c'.a1 i=c.a1 i:=iV
  rw[(J.bl i hi av).1,(J.bl i hi av).2.1];exact h iV
 |func fn fs cs so wq ax Z _ _ vW uy=>exact .func fn fs cs so wq ax Z vW uy
 |ea=>exact .ea
 |iface t x v _ U=>exact .iface t x v U
 |nilIface=>exact .nilIface
 |opt g x v _ h2 U=>exact .opt g x v U h2
 |top v=>exact .top v
theorem aI.mono(J:Ext c c')(h:aI c x v):aI c' x v:=h.rn J.Qz
abbrev a7:=List<|Nat×I
variable{β:a7}
def look:a7->Nat->I
 |[],_=>.top
 |(d,v)::α,t=>bif d==t then v else look α t
inductive bE where
 |cells (a1:Nat) (cs:List I)
 |map (es:List (I×I×Nat)) (clock:Nat)
 |iI (m:Nat) (since:Nat) (seen:List Nat) (kU:Nat)
 |mB (s:List UInt8) (pos:Nat)
 |c5 (t:TypeId) (a1:Nat) (cs:List I)
 |loop (l:Nat) (α:a7) (N:Nat) (st:LoopState) (ic:Option Code) (ps:Array Tmp) (ns dS:Code)
 |gone
variable{B:bE}
abbrev ab:=List bE
variable{H:ab}
def bE.live:bE->Prop
 |.gone=>False
 |_=>True
inductive fL (c:Ctx) (i:Nat):bE->Prop
 |cells (a1:Nat) (cs:List I) (vs:Array Value) (e:TypeId) (bT:Nat×Nat) (aG:c.a1 i=a1) (hd:c.cO i=false) (an:c.w.heap[c.bl i]?=some (.cells vs e bT)) (hl:cs.length<=vs.size) (ax:vs.size<=bT.1\/bT.2<=bT.1)
   (h:∀(j:Nat) (x:I) (v:Value),cs[j]?=some x->vs[j]?=some v->aI c x v):fL c i (.cells a1 cs)
 |void (a1:Nat) (aG:c.a1 i=a1) (hd:c.cO i=true):fL c i (.cells a1 [])
 |map (es:List (I×I×Nat)) (clock:Nat) (cZ:Array MapEntry) (aG:c.a1 i=0) (hd:c.cO i=false) (an:c.w.heap[c.bl i]?=some (.map cZ clock)) (hl:cZ.size=es.length)
   (h:∀(j:Nat) (p:I×I×Nat) (e:MapEntry),es[j]?=some p->cZ[j]?=some e->aI c p.1 e.key/\aI c p.2.1 e.val/\e.born=p.2.2):fL c i (.map es clock)
 |iI (m since:Nat) (seen:List Nat) (kU:Nat) (aG:c.a1 i=0) (hd:c.cO i=false) (hm:m<c.n) (yR:c.a1 m=0) (E0:c.cO m=false) (an:c.w.heap[c.bl i]?=some (.mapIter (some<|c.bl m) since seen.toArray kU)):fL c i (.iI m since seen kU)
 |mB (s:List UInt8) (pos:Nat) (aG:c.a1 i=0) (hd:c.cO i=false) (an:c.w.heap[c.bl i]?=some (.stringIter ⟨s.toArray⟩ pos)) (h7:s.length<=9223372036854775807):fL c i (.mB s pos)
 |loop (l:Nat) (α:a7) (N:Nat) (st:LoopState) (ic:Option Code) (ps:Array Tmp) (ns dS:Code) (fn D:Nat) (ts:Array Value) (aG:c.a1 i=0) (hd:c.cO i=false) (hl:c.bl i=l)
   (an:c.w.heap[c.bl i]?=some (.loop {state:=st,pending:=ic,fn:=fn,tmps:=ts,params:=ps,assign:=ns,body:=dS,defers:=D})) (eU:ts.size=N) (az:∀t,aI c (look α t)<|ts.getD t undef):fL c i (.loop l α N st ic ps ns dS)
 |c5 (t:TypeId) (a1:Nat) (cs:List I) (vs:Array Value) (aG:c.a1 i=a1) (hd:c.cO i=false) (an:c.w.heap[c.bl i]?=some (.cells vs t (0,0))) (hl:cs.length<=vs.size) (aT:(a1=0->vs.size=cs.length)/\(cs.head?=some .dO->vs[1]?=some (.slice none 0 0)))
   (h:∀(j:Nat) (x:I) (v:Value),cs[j]?=some x->vs[j]?=some v->aI c x v):fL c i (.c5 t a1 cs)
 |pQ (t:TypeId) (a1:Nat) (aG:c.a1 i=a1) (hd:c.cO i=true):fL c i (.c5 t a1 [])
 |gone (hd:c.cO i=true):fL c i .gone
-- The variables of packages of which it is known what they are (nothing writes them).
def Zm:List (Nat×List Value):=[(0,[.int .u32 0,.int .u32 79764919])]
def Laid(c:Ctx):Prop:=∀p∈Zm,c.hh p.1/\∀(j:Nat) (x:Value),p.2[j]?=some x->c.w.cell? ⟨p.1,j,none⟩=some x
theorem Laid.go(h:Laid c)(h1:∀b,c.hh b->c'.hh b)(h2:∀a:Addr,c.hh a.block->c'.w.cell? a=c.w.cell? a):Laid c':=
 λp ad=>⟨h1 _ (h p ad).1,λj x J=>(h2 _ (h p ad).1).trans<|(h p ad).2 j x J⟩
theorem Laid.rn(h:Laid c)(J:Bo c c'):Laid c':=h.go J.st J.cell
theorem Laid.mono(h:Laid c)(J:Ext c c'):Laid c':=h.rn J.Qz
structure bp (c:Ctx) (H:ab):Prop where
 jX:Laid c
 n:c.n=H.length
 lt:∀i,i<c.n->c.cO i=false->c.bl i<c.w.heap.size
 inj:∀i j b cB,H[i]?=some b->H[j]?=some cB->b.live->cB.live->c.cO i=false->c.cO j=false->c.bl i=c.bl j->i=j
 st:∀k,c.hh k->k<c.w.heap.size/\∀i b,H[i]?=some b->b.live->c.cO i=false->c.bl i≠k
 rep:∀i b,H[i]?=some b->fL c i b
def Marks(c:Ctx)(bk:List Deferred):Prop:=
 c.base.1<=c.w.heap.size/\∃nS:List Nat,bk=nS.map (λD=>{target:=.collected D,args:= #[]})++c.base.2/\nS.Nodup/\∀D∈nS,c.base.1<=D/\c.hh D/\c.w.heap[D]?=some (.deferred<|some [])
theorem Marks.mono{bk:List Deferred}(J:Ext c c')(h:Marks c bk):Marks c' bk:=by
 obtain⟨aw,U,e,af,h⟩:=h;refine⟨by rw[J.base];exact fr aw J.size,U,by rw[J.base];exact e,af,λD K=>?_⟩
 obtain⟨h1,h2,h3⟩:=h D K;exact⟨by rw[J.base];exact h1,(J.st D h2).1,((J.st D h2).2).trans h3⟩
structure kD (c:Ctx) (N:Nat) (α:a7) (a:Act):Prop where
 size:a.tmps.size=N
 defers:Marks c a.defers
 rep:∀t,aI c (look α t)<|a.tmps.getD t undef
theorem kD.mono{c c':Ctx}{N:Nat}{α:a7}{a:Act}(J:Ext c c')(h:kD c N α a):kD c' N α a:=
 ⟨h.size,h.defers.mono J,λt=>(h.rep t).mono J⟩
def cJ(dst:Option Tmp)(v:I)(α:a7):a7:=
 match dst with
 |some d=>(d,v)::α
 |none=>α
def LC(N:Nat):Option Tmp->Bool
 |some d=>Nat.blt d N
 |none=>true
theorem kD.put{c:Ctx}{N:Nat}{α:a7}{a:Act}{dst:Option Tmp}{x:I}{v:Value}(h:kD c N α a)(hd:LC N dst=true)(U:aI c x v):kD c N (cJ dst x α) (a.put dst v):=by
 cases dst with
 |none=>exact h
 |some d=>
  have K:d<a.tmps.size:=by rw[h.size];simpa[LC,Nat.blt_eq]using hd
  refine⟨by simp[Act.put,h.size],h.defers,λt=>?_⟩
  simp only[cJ,look,Act.put];by_cases J:d=t
  ·subst J;simp[K,U]
  ·have O:(d==t)=false:=by simp[J]
   rw[O,sI];have:=h.rep t;simp_all
theorem kD.weaken{α:a7}{a:Act}(h:kD c N α a)(J:∀t,look β t=.top\/look β t=look α t):kD c N β a:=by
 refine⟨h.size,h.defers,λt=>?_⟩
 rcases J t with e|e
 ·rw[e];exact .top _
 ·rw[e];exact h.rep t
abbrev cX:=Exit->a7->ab->Prop
def wf(r:Option Nat):Fence:={fn:=λ_=>True,depth:=none,alive:=false,round:=r}
def tV:Code->Bool
 |.seq x y=>tV x&&tV y
 |.cond _ x y=>tV x&&tV y
 |.block _ x=>tV x
 |.loop x=>tV x
 |.scope x=>tV x
 |.rangeFunc _ _ _ _=>false
 |_=>true
def cI(P:Program)(N:Nat)(code:Code)(Q:cX)(α:a7)(H:ab):Prop:=
 ∀(r:Option Nat) (c:Ctx) (a:Act),(r=none\/tV code=true)->bp c H->kD c N α a->
  code.wpIn (wf r) 0 P (λe gM w'=>∃c' cG H',c'.w=w'/\bp c' H'/\Ext c c'/\kD c' N cG gM/\Q e cG H') a c.w
theorem QC{a b:Bool}(h:r=none\/(a&&b)=true):(r=none\/a=true)/\(r=none\/b=true):=by
 grind
def sN(c:Ctx)(xs:List I)(vs:Array Value):Prop:=vs.size=xs.length/\∀(i:Nat) (x:I) (v:Value),xs[i]?=some x->vs[i]?=some v->aI c x v
def dp(P:Program)(f:FuncId)(args:List I)(H:ab)(R:I->ab->Prop):Prop:=
 ∀(c:Ctx) (vs:Array Value),bp c H->sN c args vs->
  Calls P f vs c.w (λe w'=>∃c' x v H',e=.returned v/\c'.w=w'/\bp c' H'/\Ext c c'/\aI c' x v/\R x H')
def aM(P:Program)(f:FuncId)(args:List I)(H:ab)(x:I):Prop:=dp P f args H λx' H'=>x'=x/\H'=H
theorem dp.mono{P:Program}{f:FuncId}{args:List I}{H:ab}{R R':I->ab->Prop}(h:dp P f args H R)(J:∀x H',R x H'->R' x H'):dp P f args H R':=
 λc vs hs U=>(h c vs hs U).mono λ_ _ ⟨c',x,v,H',av,al,K,O,T,V⟩=>⟨c',x,v,H',av,al,K,O,T,J _ _ V⟩
theorem GH{Q J:cX}{α:a7}(h:cI P N code Q α H)(aJ:∀e α H,Q e α H->J e α H):cI P N code J α H:=
 λr c a U hs K=>wpIn_mono (h r c a U hs K) λ_ _ _ ⟨c',O,H',av,al,T,V,Z⟩=>⟨c',O,H',av,al,T,V,aJ _ _ _ Z⟩
theorem NO{Q:cX}{α:a7}(h:cI P N code Q β H)(J:∀t,look β t=.top\/look β t=look α t):cI P N code Q α H:=
 λr c a U hs K=>h r c a U hs<|K.weaken J
theorem Pj{Q:cX}{α:a7}(h:Q .normal α H):cI P N .skip Q α H:=
 λ_ c _ _ hs J=>wpIn_skip ⟨c,α,H,rfl,hs,Ext.refl c,J,h⟩
theorem aL2{Q:cX}{α:a7}(h:Q .ret α H):cI P N .ret Q α H:=
 λ_ c _ _ hs J=>wpIn_ret ⟨c,α,H,rfl,hs,Ext.refl c,J,h⟩
theorem aLH{Q:cX}{α:a7}(h:Q (.exit id) α H):cI P N (.exit id) Q α H:=
 λ_ c _ _ hs J=>wpIn_exit ⟨c,α,H,rfl,hs,Ext.refl c,J,h⟩
theorem aLt{l:Nat}{Q:cX}{α:a7}(h:Q .normal α H):cI P N (.label l) Q α H:=
 λ_ c _ _ hs J=>wpIn_label ⟨c,α,H,rfl,hs,Ext.refl c,J,h⟩
def wP(P:Program)(N:Nat)(y:Code)(Q:cX):cX
 |.normal,α,H=>cI P N y Q α H
 |e,α,H=>Q e α H
theorem GX{x y:Code}{Q:cX}{α:a7}(h:cI P N x (wP P N y Q) α H):cI P N (.seq x y) Q α H:=by
 intro r c a T hs Z;have T:=QC T;refine wpIn_seq<|wpIn_mono (h r c a T.1 hs Z) λe I w' ⟨c',O,H',av,al,J,U,K⟩=>?_
 cases e with
 |normal=>
  subst av;exact wpIn_mono (K r c' I T.2 al U) λe z aYq ⟨w4,V,Bq,g1,g2,g3,g4,g5⟩=>⟨w4,V,Bq,g1,g2,J.trans g3,g4,g5⟩
 |exit id=>exact⟨c',O,H',av,al,J,U,K⟩
 |goto l=>exact⟨c',O,H',av,al,J,U,K⟩
 |ret=>exact⟨c',O,H',av,al,J,U,K⟩
 |panic nZ=>exact⟨c',O,H',av,al,J,U,K⟩
 |outgrown=>exact⟨c',O,H',av,al,J,U,K⟩
def rm(id:Nat)(Q:cX):cX
 |.exit CL,α,H=>bif CL==id then Q .normal α H else Q (.exit CL) α H
 |e,α,H=>Q e α H
theorem Xx{x:Code}{Q:cX}{α:a7}(h:cI P N x (rm id Q) α H):cI P N (.block id x) Q α H:=by
 intro r c a T hs V;refine wpIn_block<|wpIn_mono (h r c a T hs V) λe Z w' ⟨c',J,H',av,al,U,K,O⟩=>?_
 cases e with
 |exit I=>
  grind [rm,Exit.inBlock]
 |normal=>exact⟨c',J,H',av,al,U,K,O⟩
 |goto l=>exact⟨c',J,H',av,al,U,K,O⟩
 |ret=>exact⟨c',J,H',av,al,U,K,O⟩
 |panic z=>exact⟨c',J,H',av,al,U,K,O⟩
 |outgrown=>exact⟨c',J,H',av,al,U,K,O⟩
def Zn{ι:Type}(F:ι->a7)(e6:ι->ab)(pre:ι->Prop)(m:ι->Nat)(x:ι)(Q:cX):cX
 |.normal,α,H=>∃y,pre y/\m y<m x/\(∀t,look (F y) t=.top\/look (F y) t=look α t)/\H=e6 y
 |e,α,H=>Q e α H
theorem aR4{F:Fence}{n:Nat}{a:Act}(T:ι->Act->World->Prop)(m:ι->Nat)(tt:ι)(V:T tt a w)
  (round:∀x a w,T x a w->body.wpIn F n P (Exit.then (λU w'=>∃y,T y U w'/\m y<m x) Q) a w):(Code.loop body).wpIn F n P Q a w:=by
 intro b k cs AF Z I;have key:∀n x a w,m x=n->T x a w->
   ∃e U w',Q e U w'/\ArrivesIn (Machine.fenced P F) P (lone (b.atR a (.code body::.inLoop body::k)) cs w) b k cs e U w':=by
  intro n;induction n using Nat.strongRecOn with
  |_ n aB=>
   intro x a w af s4;obtain⟨e,K,O,aJ,J⟩:=round x a w s4 b (.inLoop body::k) cs AF Z I;cases e with
   |normal=>
    obtain⟨y,z,ak⟩:=aJ;obtain⟨HA,Zj,aCF,Iq,HQ⟩:=aB (m y) (af▸ak) y K O rfl z;exact⟨HA,Zj,aCF,Iq,.of_steps (StepsIn.trans J<|.one (fenced_calm Z I rfl) stepR_inLoop) HQ⟩
   |exit id=>exact⟨_,K,O,aJ,.pass (x:=.inLoop body) rfl (λ_ _=>.inl kk) J⟩
   |goto l=>exact⟨_,K,O,aJ,.pass (x:=.inLoop body) rfl (λ_ _=>.inl kk) J⟩
   |ret=>exact⟨_,K,O,aJ,.pass (x:=.inLoop body) rfl (λ_ _=>.inl kk) J⟩
   |panic nZ=>exact⟨_,K,O,aJ,.pass (x:=.inLoop body) rfl (λ_ _=>.inl kk) J⟩
   |outgrown=>exact⟨_,K,O,aJ,.pass (x:=.inLoop body) rfl (λ_ _=>.inl kk) J⟩
 obtain⟨e,U,w',aJ,J⟩:=key _ tt a w rfl V;exact⟨e,U,w',aJ,.of_steps (.one (fenced_calm Z I rfl) stepR_loop) J⟩
theorem Yh{Q:cX}{α:a7}(F:ι->a7)(I:ι->ab)(pre:ι->Prop)(m:ι->Nat)(V:ι)(aw:pre V)
  (z:∀t,look (F V) t=.top\/look (F V) t=look α t) (hH:H=I V)
  (round:∀x,pre x->cI P N body (Zn F I pre m x Q) (F x) (I x)):cI P N (.loop body) Q α H:=by
 intro r c a az hs aF;subst hH;refine aR4 (λx a w=>pre x/\∃c',c'.w=w/\bp c' (I x)/\Ext c c'/\kD c' N (F x) a) m V ⟨aw,c,rfl,hs,Ext.refl c,aF.weaken z⟩ ?_
 rintro x a w ⟨ad,c',rfl,gj,J,s5⟩;refine wpIn_mono (round x ad r c' a az gj s5) λe gM w' ⟨U,Z,H',av,al,K,O,T⟩=>?_
 cases e with
 |normal=>
  obtain⟨y,cq,cT,dP,mA⟩:=T;exact⟨y,⟨cq,U,av,mA▸al,J.trans K,O.weaken dP⟩,cT⟩
 |exit id=>exact⟨U,Z,H',av,al,J.trans K,O,T⟩
 |goto l=>exact⟨U,Z,H',av,al,J.trans K,O,T⟩
 |ret=>exact⟨U,Z,H',av,al,J.trans K,O,T⟩
 |panic nZ=>exact⟨U,Z,H',av,al,J.trans K,O,T⟩
 |outgrown=>exact⟨U,Z,H',av,al,J.trans K,O,T⟩
def kI:Value->I
 |.int k n=>bif wZ k n then .int k n else .top
 |.bool b=>.bool b
 |.string s=>bif Nat.ble s.data.toList.length 9223372036854775807 then .str s.data.toList else .top
 |.pointer none=>.dO
 |.slice none 0 0=>.sl true []
 |.map none=>.iu
 |.nilFunc=>.ea
 |.nilIface=>.nilIface
 |_=>.top
theorem aRr(c:Ctx):aI c (.sl true []) (.slice none 0 0):=
 .sl true [] none 0 0 0 (λ_ _=>undef) rfl (bd _) (λ_=>rfl) (λh=>absurd rfl h) kk kk iV
theorem PT(c:Ctx)(v:Value):aI c (kI v) v:=by
 unfold kI;split
 ·rename_i k n;cases h:wZ k n with
  |true=>exact .int _ _<|Dl.1 h
  |false=>exact .top _
 ·exact .bool _
 ·rename_i s;cases h:Nat.ble s.data.toList.length 9223372036854775807 with
  |true=>simpa using aI.str (c:=c) s.data.toList<|Gg h
  |false=>exact .top _
 ·exact .dO
 ·exact aRr c
 ·exact .iu
 ·exact .ea
 ·exact .nilIface
 ·exact .top _
def Ep:Value->I
 |.agg cs=>.agg<|cs.toList.map kI
 |.tuple vs=>bif vs.size==0 then .aQ []else .top
 |v=>kI v
theorem PM(c:Ctx)(v:Value):aI c (Ep v) v:=by
 cases v with
 |agg cs=>
  refine .agg _ _ kk λi x v h1 h2=>?_
  simp only[mF,hC]at h1;obtain⟨u,h1,rfl⟩:=h1;rw[x1,h2]at h1;cases h1;exact PT c v
 |tuple vs=>
  simp only[Ep];by_cases h:vs.size=0
  ·have:(vs.size==0)=true:=by simp[h]
   rw[this];exact .aQ [] _ h kk
  ·have:(vs.size==0)=false:=by simpa using h
   rw[this];exact .top _
 |_=>simp only[Ep];exact PT c _
def bm(α:a7):Operand->I
 |.tmp t=>look α t
 |.const v=>Ep v
 |.global _=>.top
 |.func f=>.func (.func f) [] []
theorem YJ{α:a7}{a:Act}(h:kD c N α a)(x:Operand):aI c (bm α x) (a.eval x):=by
 cases x with
 |tmp t=>exact h.rep t
 |const v=>exact PM c v
 |global g=>exact .top _
 |func f=>exact .func _ [] [] _ _ rfl rfl kk kk
def pZ(P:Program)(o:Oper)(ρ:Operand->I)(H:ab)(R:I->ab->Prop):Prop:=
 ∀(r:Option Nat) (c:Ctx) (a:Act) (next:Act->World->Prop) (Q:Exit->Act->World->Prop),bp c H->(∀x∈o.op.operands.toList,aI c (ρ x)<|a.eval x)->
  (∀c' x v H',bp c' H'->Ext c c'->aI c' x v->R x H'->next (a.put o.dst v) c'.w)->o.wpIn (wf r) 0 P a c.w next Q
def GB(o:Oper):Prop:=∀r ρ,o.semAt r ρ=execOp ρ o
theorem y8{a:Act}{next:Act->World->Prop}(hd:GB o)(h:o.uponIn (wf r) 0 P a next Q ((execOp a.eval o).run P w)):o.wpIn (wf r) 0 P a w next Q:=
 ⟨λ_ _=>trivial,by rw[hd];exact h⟩
def mj(P:Program)(s:Sem Value)(c:Ctx)(x:I)(H':ab):Prop:=∃c' v,s.run P c.w=.ok v c'.w/\bp c' H'/\Ext c c'/\aI c' x v
theorem aM4{ρ:Operand->I}{H':ab}(hd:GB o)(s:(Operand->Value)->Sem Value)(he:∀ρ,execOp ρ o=(do pure (.value<|<-s ρ)))
  (h:∀(c) (a:Act),bp c H->(∀x∈o.op.operands.toList,aI c (ρ x)<|a.eval x)->mj P (s a.eval) c x H'):pZ P o ρ H (λx' J=>x'=x/\J=H'):=by
 intro r c a next Q hs hρ hk
 obtain⟨c',v,h1,h2,h3,h4⟩:=h c a hs hρ;refine y8 hd ?_;rw[he,Sem.run_bind,h1];exact hk c' x v H' h2 h3 h4 ⟨rfl,rfl⟩
theorem aI.iF{k:IntKind}(h:aI c (.int k n) v):v=.int k n:=by cases h;rfl
theorem aI.CM{k:IntKind}(h:aI c (.int k n) v):l6 k n:=by cases h;assumption
theorem aI.zh(h:aI c (.str s) v):s.length<=9223372036854775807:=by cases h;assumption
theorem aI.M8{f:Bool}(h:aI c (.sl f es) v):es.length<=9223372036854775807:=by
 cases h with|sl _ _ _ _ _ _ _ h1 _ _ _ _ _ h2=>rw[<-h1];exact h2
theorem aI.FB{s v:Nat}(h:aI c (.osl s i v off len lc) val):lc<=9223372036854775807:=by cases h;assumption
theorem aI.sT{b:Bool}(h:aI c (.bool b) v):v=.bool b:=by cases h;rfl
theorem aI.ng(h:aI c (.str s) v):v=.string ⟨s.toArray⟩:=by cases h;rfl
theorem aI.tW(h:aI c (.agg cs) v):∃vs,v=.agg vs/\vs.size=cs.length/\∀(i:Nat) (x) (v),cs[i]?=some x->vs[i]?=some v->aI c x v:=by
 cases h with|agg _ vs hl h=>exact⟨vs,rfl,hl,h⟩
theorem aI.aCq(h:aI c (.aQ cs) v):∃vs,v=.tuple vs/\vs.size=cs.length/\∀(i:Nat) (x) (v),cs[i]?=some x->vs[i]?=some v->aI c x v:=by
 cases h with|aQ _ vs hl h=>exact⟨vs,rfl,hl,h⟩
def na(op:BinOp)(k:IntKind)(x y:Int):Int:=
 match op with
 |.and=>k.wrap (BitVec.ofInt k.bits x&&&BitVec.ofInt k.bits y).toNat
 |.or=>k.wrap (BitVec.ofInt k.bits x|||BitVec.ofInt k.bits y).toNat
 |.xor=>k.wrap (BitVec.ofInt k.bits x ^^^ BitVec.ofInt k.bits y).toNat
 |_=>k.wrap (BitVec.ofInt k.bits x&&& ~~~(BitVec.ofInt k.bits y)).toNat
structure hW where
 v:I
 s:Prop
def bad:hW:=⟨.top,False⟩
def lZ(op:BinOp)(k:IntKind)(a b:Int):hW:=
 match op with
 |.add=>⟨.int k<|k.wrap (a+b),True⟩
 |.sub=>⟨.int k<|k.wrap (a-b),True⟩
 |.mul=>⟨.int k<|k.wrap (a * b),True⟩
 |.quo=>⟨.int k<|k.wrap (a.tdiv b),b≠0⟩
 |.rem=>⟨.int k<|a.tmod b,b≠0⟩
 |.and=>⟨.int k<|na .and k a b,True⟩
 |.or=>⟨.int k<|na .or k a b,True⟩
 |.xor=>⟨.int k<|na .xor k a b,True⟩
 |.andNot=>⟨.int k<|na .andNot k a b,True⟩
 |.eql=>⟨.bool<|decide (a=b),True⟩
 |.neq=>⟨.bool<|!decide (a=b),True⟩
 |.lss=>⟨.bool<|decide (a<b),True⟩
 |.leq=>⟨.bool<|decide (a<=b),True⟩
 |.gtr=>⟨.bool<|decide (b<a),True⟩
 |.geq=>⟨.bool<|decide (b<=a),True⟩
 |.shl=>⟨.int k<|k.wrap (a * 2 ^ (min b.toNat k.bits)),0<=b⟩
 |.shr=>⟨.int k<|a.fdiv (2 ^ (min b.toNat k.bits)),0<=b⟩
def Ha(op:BinOp)(a b:List UInt8):hW:=
 match op with
 |.add=>⟨.str<|a++b,a.length+b.length<=9223372036854775807⟩
 |.eql=>⟨.bool<|decide (a=b),True⟩
 |.neq=>⟨.bool<|!decide (a=b),True⟩
 |.lss=>⟨.bool<|Op.bytesLess a b,True⟩
 |.leq=>⟨.bool<|Op.bytesLess a b||decide (a=b),True⟩
 |.gtr=>⟨.bool<|!(Op.bytesLess a b||decide (a=b)),True⟩
 |.geq=>⟨.bool<|!Op.bytesLess a b,True⟩
 |_=>bad
def apart(P:Program)(t:TypeId)(off:Nat)(cs:List I):hW:=
 match P.underlying t with
 |some (.struct _)|some (.array _ _)=>⟨.agg<|(cs.drop off).take (P.cellsOf t),True⟩
 |some _=>⟨cs.getD off .top,off<cs.length⟩
 |none=>bad
structure TW where
 b:Bool
 s:Prop
mutual
def p1(P:Program):Nat->TypeId->I->I->TW
 |0,_,_,_=>⟨false,False⟩
 |d+1,t,x,y=>
  match P.underlying t,x,y with
  |some .bool,.bool a,.bool b=>⟨a==b,True⟩
  |some (.int _),.int k a,.int k' b=>⟨decide<|a=b,k=k'⟩
  |some .string,.str a,.str b=>⟨decide<|a=b,True⟩
  |some (.struct fs),.agg xs,.agg ys=>⟨(vm P d xs ys fs.toList).b,P.stoodInHeld t=false/\(vm P d xs ys fs.toList).s⟩
  |_,_,_=>⟨false,False⟩
def vm(P:Program):Nat->List I->List I->List Field->TW
 |_,_,_,[]=>⟨true,True⟩
 |0,_,_,_::_=>⟨false,False⟩
 |d+1,xs,ys,f::fs=>
  ⟨(p1 P d f.type (apart P f.type f.offset xs).v (apart P f.type f.offset ys).v).b&&(vm P d xs ys fs).b,
    f.name≠ "_" /\(apart P f.type f.offset xs).s/\(apart P f.type f.offset ys).s/\(p1 P d f.type (apart P f.type f.offset xs).v (apart P f.type f.offset ys).v).s/\(vm P d xs ys fs).s⟩
end
theorem KP{t:TypeId}(h:P.underlying t=some d):∃i,P.info? t=some i/\P.cellsOf t=i.size:=by
 grind [Program.underlying,Program.cellsOf]
theorem gT{t:TypeId}(h:P.underlying t=some d)(w:World):(sizeOf t).run P w=.ok (P.cellsOf t) w:=by
 obtain⟨i,h1,h2⟩:=KP h;simp[sizeOf,typeInfo,h1,h2]
def TypeDesc.isAgg:TypeDesc->Bool
 |.struct _|.array _ _=>true
 |_=>false
theorem M7{t:TypeId}(h:P.underlying t=some d)(w):(isAgg t).run P w=.ok (TypeDesc.isAgg d) w:=by
 unfold isAgg;rw[Sem.run_bind,run_underlying h];cases d<;>rfl
theorem aRp{vs:Array Value}(hl:vs.size=cs.length)(h:∀(i:Nat) (x) (v),cs[i]?=some x->vs[i]?=some v->aI c x v)(off n):
  aI c (.agg<|(cs.drop off).take n) (.agg<|vs.extract off (off+n)):=by
 refine .agg _ _ kr λi x v h1 h2=>?_
 grind
theorem Lz{vs:Array Value}(hl:vs.size=cs.length)(h:∀(i:Nat) (x:I) (v:Value),cs[i]?=some x->vs[i]?=some v->aI c x v){t:TypeId}(hs:(apart P t off cs).s):
  ∃v,(∀w,(part t vs off).run P w=.ok v w)/\aI c (apart P t off cs).v v:=by
 unfold apart at *;cases hu:P.underlying t with
 |none=>simp[hu,bad]at hs
 |some d=>
  simp only[hu]at hs ⊢;by_cases U:TypeDesc.isAgg d=true
  ·refine⟨.agg<|vs.extract off (off+P.cellsOf t),λw=>?_,?_⟩
   ·simp[part,M7 hu,U,gT hu]
   ·cases d<;>simp only[TypeDesc.isAgg,mE]at U<;>exact aRp hl h off _
  ·have O:=by cases d<;>first|exact hs|(simp[TypeDesc.isAgg]at U)
   have K:vs[off]?=some (vs[off]'(by omega)):=mc<|_
   have J:=da O;refine⟨vs[off]'(by omega),λw=>?_,?_⟩
   ·simp[part,M7 hu,U,K]
   ·have:aI c (cs.getD off .top) (vs[off]'(by omega)):=by rw[et,J];exact h _ _ _ J K
    cases d<;>first|exact this|(simp[TypeDesc.isAgg]at U)
theorem Vz(c:Ctx)(d:Nat):
  (∀(t:TypeId) (x y:I) (b2 jb:Value) (D:Nat) (w:World),d<=D->(p1 P d t x y).s->aI c x b2->aI c y jb->(Op.equalIn D t b2 jb).run P w=.ok (p1 P d t x y).b w)/\
  (∀(fs:List Field) (xs ys:List I) (b2 jb:Array Value) (D:Nat) (w:World),d<=D->(vm P d xs ys fs).s->aI c (.agg xs) (.agg b2)->aI c (.agg ys) (.agg jb)->
   (Op.eqFields D b2 jb fs).run P w=.ok (vm P d xs ys fs).b w):=by
 induction d with
 |zero=>
  refine⟨λt x y b2 jb D w _ hs=>by simp[p1]at hs,λfs xs ys b2 jb D w _ hs _ _=>?_⟩
  cases fs with
  |nil=>simp[Op.eqFields,vm]
  |cons f fs=>simp[vm]at hs
 |succ d aB=>
  obtain⟨vW,uy⟩:=aB;refine⟨λt x y b2 jb D w cc hs J U=>?_,λfs xs ys b2 jb D w cc hs J U=>?_⟩
  ·obtain⟨D,rfl⟩:∃TT,D=TT+1:=⟨D-1,iV⟩
   unfold p1 at hs ⊢;split at hs
   ·rename_i hu;rw[J.sT,U.sT];exact run_equalIn_bool' w _ _ _ _ hu
   ·rename_i hu;rw[J.iF,U.iF];subst hs;rw[run_equalIn_int w _ _ _ _ _ _ hu];rfl
   ·rename_i a b hu;rw[J.ng,U.ng,run_equalIn_string w _ _ _ _ hu];congr 1;rw[pf];simp
   ·rename_i fs xs ys hu;obtain⟨ai,hs⟩:=hs;obtain⟨b2,rfl,mV,qt⟩:=J.tW;obtain⟨jb,rfl,Fg,Fh⟩:=U.tW;have ET:P.fieldsOf t=fs:=by simp[Program.fieldsOf,hu]
    rw[run_equalIn_struct w D t b2 jb (by rw[ET];exact hu) ai,ET]
    exact uy fs.toList xs ys b2 jb D w iV hs J U
   ·exact hs.elim
  ·cases fs with
   |nil=>simp[Op.eqFields,vm]
   |cons f fs=>
    unfold vm at hs ⊢;obtain⟨aw,h1,h2,h3,h4⟩:=hs;obtain⟨Nu,K,mV,qt⟩:=J.tW;obtain⟨Nv,O,Fg,Fh⟩:=U.tW;cases K;cases O;obtain⟨T,Mr,V⟩:=Lz mV qt h1;obtain⟨Z,z,aRt⟩:=Lz Fg Fh h2;have al:=uy fs xs ys b2 jb D w iV h4 J U
    have af:(f.name≠ "_")=True:=by simp[aw]
    simp only[Op.eqFields,af,dG,Sem.run_bind,Mr,z,Result.andThen_ok,(vW f.type _ _ T Z D w iV h3 V aRt),Sem.run_ite,Sem.run_pure,al]
    cases(p1 P d f.type (apart P f.type f.offset xs).v (apart P f.type f.offset ys).v).b<;>simp
def fo(P:Program)(op:BinOp)(t:TypeId)(x y:I):hW:=
 match op,x,y with
 |.shl,.int k a,.int _ b=>lZ .shl k a b
 |.shr,.int k a,.int _ b=>lZ .shr k a b
 |op,.int k a,.int k' b=>⟨(lZ op k a b).v,k=k'/\(lZ op k a b).s⟩
 |op,.str a,.str b=>Ha op a b
 |.eql,.bool a,.bool b=>⟨.bool<|a==b,P.underlying t=some .bool⟩
 |.neq,.bool a,.bool b=>⟨.bool<|!(a==b),P.underlying t=some .bool⟩
 |.eql,.agg xs,.agg ys=>⟨.bool (p1 P 30 t (.agg xs)<|.agg ys).b,P.eqGuardType P.depth t=false/\(p1 P 30 t (.agg xs) (.agg ys)).s⟩
 |.neq,.agg xs,.agg ys=>⟨.bool<|!(p1 P 30 t (.agg xs) (.agg ys)).b,P.eqGuardType P.depth t=false/\(p1 P 30 t (.agg xs) (.agg ys)).s⟩
 |_,_,_=>bad
theorem yu(s:List UInt8):(ByteArray.mk s.toArray).size=s.length:=rfl
theorem aMy(a b:List UInt8):(ByteArray.mk a.toArray)++(ByteArray.mk b.toArray)=ByteArray.mk (a++b).toArray:=rfl
theorem aRR{k:IntKind}{a:Int}(b:Int)(h:l6 k a):l6 k (a.tmod b):=by
 refine Yv h (λaw=>⟨Int.tmod_nonneg b aw,?_⟩) (λaw=>?_)
 ·have h1:=Int.natAbs_tmod a b;have h2:=Nat.mod_le a.natAbs b.natAbs;grind
 ·have h1:=Int.natAbs_tmod a b;have h2:=Nat.mod_le a.natAbs b.natAbs;have h3:0<=(-a).tmod b:=Int.tmod_nonneg b iV
  rw[Int.neg_tmod]at h3;omega
theorem aNk{k:IntKind}{a:Int}(m)(h:l6 k a):l6 k (a.fdiv<|2 ^ m):=by
 have ad:(0:Int)<2 ^ m:=Int.pow_pos kk
 rw[Int.fdiv_eq_ediv_of_nonneg _ iV]
 refine Yv h (λaw=>⟨Int.ediv_nonneg aw iV,Int.ediv_le_self _ aw⟩) λaw=>?_
 have h1:=Int.ediv_neg_of_neg_of_pos aw ad;have h2:a<=a / 2 ^ m:=by
  apply Int.le_ediv_of_mul_le ad
  have h3:(1:Int)<=2 ^ m:=iV
  have:=Int.mul_le_mul_of_nonpos_left (by omega:a<=0) h3
  omega
 omega
theorem aJ3{op:BinOp}{t:TypeId}{y:I}{X Y:Operand}(J:aI c x b2)(U:aI c y jb)(hs:(fo P op t x y).s)(w:World):
  ∃v,(do eqGuard op t X Y b2 jb;binOp op t b2 jb:Sem Value).run P w=.ok v w/\aI c (fo P op t x y).v v:=by
 unfold fo at hs ⊢;split at hs
 ·rw[J.iF,U.iF];simp only[lZ]at hs;refine⟨_,?_,.int _ _<|vh _ _⟩;simp[eqGuard,binOp,Op.shift,Int.not_lt.2 hs]
 ·rw[J.iF,U.iF];simp only[lZ]at hs;refine⟨_,?_,.int _ _<|aNk _ J.CM⟩;simp[eqGuard,binOp,Op.shift,Int.not_lt.2 hs]
 ·rename_i k a k' b h1 h2;rw[J.iF,U.iF];obtain⟨rfl,hs⟩:=hs;cases op<;>simp only[lZ]at hs ⊢;case shl=>simp at h1
  case shr=>simp at h2
  case add=>exact⟨_,by simp[eqGuard,binOp,Op.intArith],.int _ _<|vh _ _⟩
  case sub=>exact⟨_,by simp[eqGuard,binOp,Op.intArith],.int _ _<|vh _ _⟩
  case mul=>exact⟨_,by simp[eqGuard,binOp,Op.intArith],.int _ _<|vh _ _⟩
  case quo=>exact⟨_,by simp[eqGuard,binOp,Op.intDiv,hs],.int _ _<|vh _ _⟩
  case rem=>exact⟨_,by simp[eqGuard,binOp,Op.intDiv,hs],.int _ _<|aRR _ J.CM⟩
  case and=>exact⟨_,by first|(simp[eqGuard,binOp,Op.intBits];done)|(simp[eqGuard,binOp,Op.intBits];rfl),.int _ _<|vh _ _⟩
  case or=>exact⟨_,by first|(simp[eqGuard,binOp,Op.intBits];done)|(simp[eqGuard,binOp,Op.intBits];rfl),.int _ _<|vh _ _⟩
  case xor=>exact⟨_,by first|(simp[eqGuard,binOp,Op.intBits];done)|(simp[eqGuard,binOp,Op.intBits];rfl),.int _ _<|vh _ _⟩
  case andNot=>exact⟨_,by simp only[eqGuard,binOp,ne_eq,not_true_eq_false,gz,Op.intBits,Sem.run_bind];rfl,.int _ _<|vh _ _⟩
  case eql=>exact⟨_,by first|(simp[eqGuard,binOp,Op.intCmp];done)|(simp[eqGuard,binOp,Op.intCmp];rfl),.bool _⟩
  case neq=>exact⟨_,by first|(simp[eqGuard,binOp,Op.intCmp];done)|(simp[eqGuard,binOp,Op.intCmp];rfl),.bool _⟩
  case lss=>exact⟨_,by first|(simp[eqGuard,binOp,Op.intCmp];done)|(simp[eqGuard,binOp,Op.intCmp];rfl),.bool _⟩
  case leq=>exact⟨_,by first|(simp[eqGuard,binOp,Op.intCmp];done)|(simp[eqGuard,binOp,Op.intCmp];rfl),.bool _⟩
  case gtr=>exact⟨_,by first|(simp[eqGuard,binOp,Op.intCmp];done)|(simp[eqGuard,binOp,Op.intCmp];rfl),.bool _⟩
  case geq=>exact⟨_,by first|(simp[eqGuard,binOp,Op.intCmp];done)|(simp[eqGuard,binOp,Op.intCmp];rfl),.bool _⟩
 ·rename_i a b;rw[J.ng,U.ng];have e:(a==b)=decide (a=b):=by rw[pf];simp
  cases op<;>simp only[Ha,bad]at hs ⊢;case add=>
   refine⟨_,?_,.str _<|by simpa using hs⟩
   have hm:¬((((ByteArray.mk a.toArray).size+(ByteArray.mk b.toArray).size:Nat))>IntKind.i64.max):=by
    have:IntKind.i64.max=9223372036854775807:=l9
    rw[this,yu,yu];omega
   have av:(binOp .add t (.string ⟨a.toArray⟩) (.string ⟨b.toArray⟩)).run P w=.ok (.string ⟨(a++b).toArray⟩) w:=by
    simp only[binOp,Op.stringOp];rw[aj hm,aMy];rfl
   simp[eqGuard,av]
  case eql=>exact⟨_,by first|(simp[eqGuard,binOp,Op.stringOp,e];done)|(simp[eqGuard,binOp,Op.stringOp,e];rfl),.bool _⟩
  case neq=>exact⟨_,by first|(simp[eqGuard,binOp,Op.stringOp,e];done)|(simp[eqGuard,binOp,Op.stringOp,e];rfl),.bool _⟩
  case lss=>exact⟨_,by first|(simp[eqGuard,binOp,Op.stringOp];done)|(simp[eqGuard,binOp,Op.stringOp,e];rfl),.bool _⟩
  case leq=>exact⟨_,by first|(simp[eqGuard,binOp,Op.stringOp,e];done)|(simp[eqGuard,binOp,Op.stringOp,e];rfl),.bool _⟩
  case gtr=>exact⟨_,by first|(simp[eqGuard,binOp,Op.stringOp,e];done)|(simp[eqGuard,binOp,Op.stringOp,e];rfl),.bool _⟩
  case geq=>exact⟨_,by first|(simp[eqGuard,binOp,Op.stringOp];done)|(simp[eqGuard,binOp,Op.stringOp,e];rfl),.bool _⟩
 ·rw[J.sT,U.sT];exact⟨_,by first|(simp[eqGuard,binOp,Op.equal,Op.maxDepth,run_equalIn_bool' w _ _ _ _ hs];done)|(simp[eqGuard,binOp,Op.equal,Op.maxDepth,run_equalIn_bool' w _ _ _ _ hs];rfl),.bool _⟩
 ·rw[J.sT,U.sT];refine⟨_,by first|(simp[eqGuard,binOp,Op.equal,Op.maxDepth,run_equalIn_bool' w _ _ _ _ hs];done)|(simp[eqGuard,binOp,Op.equal,Op.maxDepth,run_equalIn_bool' w _ _ _ _ hs];rfl),.bool _⟩
 ·rename_i xs ys;obtain⟨K,hs⟩:=hs;obtain⟨O,rfl,_,_⟩:=J.tW;obtain⟨T,rfl,_,_⟩:=U.tW;refine⟨_,?_,.bool _⟩;rw[Sem.run_bind,run_eqGuard_agg w .eql t X Y O T K,Result.andThen_ok,run_eql_struct,(Vz c 30).1 t _ _ _ _ 10000 w iV hs J U,Result.andThen_ok]
 ·rename_i xs ys;obtain⟨K,hs⟩:=hs;obtain⟨O,rfl,_,_⟩:=J.tW;obtain⟨T,rfl,_,_⟩:=U.tW;refine⟨_,?_,.bool _⟩;rw[Sem.run_bind,run_eqGuard_agg w .neq t X Y O T K,Result.andThen_ok,run_neq_struct,(Vz c 30).1 t _ _ _ _ 10000 w iV hs J U,Result.andThen_ok]
 ·exact hs.elim
structure kc where
 v:I
 H:ab
 s:Prop
def ay(H:ab)(i:Nat):bE:=H.getD i .gone
def ar(H:ab)(i:Nat)(b:bE):ab:=H.set i b
theorem kG{b:bE}(h:ay H i=b)(J:b.live):H[i]?=some b:=by
 unfold ay at h;rw[et]at h;cases hi:H[i]? with
 |none=>rw[hi]at h;subst h;exact J.elim
 |some x=>rw[hi]at h;simp at h;rw[h]
def BZ(P:Program)(t:TypeId)(cs:List I)(off:Nat):hW:=
 match P.underlying t with
 |some (.struct _)|some (.array _ _)=>⟨.agg<|(cs.drop off).take (P.cellsOf t),off+P.cellsOf t<=cs.length⟩
 |some _=>⟨cs.getD off .top,off<cs.length⟩
 |none=>bad
theorem aRv{t:TypeId}(hu:P.underlying t=some d)(J:TypeDesc.isAgg d=true)(w)(a)(f)(h:∀j,j<P.cellsOf t->w.cell? (a.add j)=some (f j)):
  (loadVar t a).run P w=.ok (.agg ((List.range (P.cellsOf t)).map f).toArray) w:=by
 simp[loadVar,M7 hu,J,gT hu,run_loadCells w a _ f h]
theorem aRw{t:TypeId}(hu:P.underlying t=some d)(J:TypeDesc.isAgg d=false)(w)(a)(v)(h:w.cell? a=some v):
  (loadVar t a).run P w=.ok v w:=by
 simp[loadVar,M7 hu,J,h]
theorem Zh{t:TypeId}{a:Addr}{vs:Nat->Value}(hs:(BZ P t cs off).s)
  (O:∀j,j<cs.length->c.w.cell? (a.add j)=some (vs j)) (T:∀(j:Nat) (x:I),cs[j]?=some x->aI c x (vs j)) (V:a.spot=none):
  ∃v,(loadVar t (a.add off)).run P c.w=.ok v c.w/\aI c (BZ P t cs off).v v:=by
 have Z:∀m n,(a.add m).add n=a.add (m+n):=by
  grind [Addr.add,tC]
 unfold BZ at *;cases hu:P.underlying t with
 |none=>simp[hu,bad]at hs
 |some d=>
  simp only[hu]at hs ⊢;by_cases U:TypeDesc.isAgg d=true
  ·have hle:off+P.cellsOf t<=cs.length:=by grind [TypeDesc.isAgg]
   refine⟨_,aRv hu U c.w _ (λj=>vs<|off+j) (λj z=>by rw[Z];exact O _ iV),?_⟩
   have:aI c (.agg<|(cs.drop off).take (P.cellsOf t)) (.agg ((List.range (P.cellsOf t)).map λj=>vs<|off+j).toArray):=by
    refine .agg _ _ nX λi x v h1 h2=>?_
    rw[Dv,zm]at h1;split at h1
    ·rename_i K;simp[K]at h2;subst h2;exact T _ _ h1
    ·cases h1
   cases d<;>first|exact this|(simp[TypeDesc.isAgg]at U)
  ·have U:=by simpa using U
   have K:=by cases d<;>first|exact hs|(simp[TypeDesc.isAgg]at U)
   have J:=da K;refine⟨_,aRw hu U c.w _ _<|O _ K,?_⟩;have:aI c (cs.getD off .top) (vs off):=kr
   cases d<;>first|exact this|(simp[TypeDesc.isAgg]at U)
theorem AY{vs:Array Value}(h:w.heap[b]?=some (.cells vs e bT))(off):w.cell? ⟨b,off,none⟩=vs[off]?:=by
 simp[World.cell?,h]
theorem p0(b off n):(Addr.mk b off none).add n=⟨b,off+n,none⟩:=by
 unfold Addr.add;split
 ·rename_i h;simp[h]
 ·rfl
def zX(P:Program)(t:TypeId)(x:I)(H:ab):hW:=
 match x with
 |.cptr cs=>BZ P t cs 0
 |.ref i v off=>
  match ay H i with
  |.cells a1 cs=>⟨(BZ P t cs off).v,v=a1/\(BZ P t cs off).s⟩
  |_=>bad
 |_=>bad
theorem dk{b:bE}(h:ay H i=b)(J:b.live):i<H.length:=(cj.1 (kG h J)).1
theorem bp.cells{c:Ctx}{H:ab}(h:bp c H){i a1:Nat}{cs:List I}(hi:ay H i=.cells a1 cs)(hd:c.cO i=false):
  i<c.n/\c.a1 i=a1/\∃vs e bT,c.w.heap[c.bl i]?=some (.cells vs e bT)/\cs.length<=vs.size/\(vs.size<=bT.1\/bT.2<=bT.1)/\∀(j:Nat) (x) (v),cs[j]?=some x->vs[j]?=some v->aI c x v:=by
 refine⟨by rw[h.n];exact dk hi trivial,?_⟩
 cases(h.rep i _ (kG hi trivial))with
 |cells _ _ vs e bT U hd K hl O T=>grind
 |void _ U J=>rw[hd]at J;cases J
theorem bp.qN(h:bp c H){a1:Nat}(hi:ay H i=.cells a1 cs):c.a1 i=a1:=by
 cases(h.rep i _ (kG hi trivial))with
 |cells _ _ _ _ _ J=>exact J
 |void _ J=>exact J
theorem VN{t:TypeId}(T:bp c H)(J:aI c x b2)(hs:(zX P t x H).s):
  ∃v,(Instr.loadAt t b2).run P c.w=.ok v c.w/\aI c (zX P t x H).v v:=by
 unfold zX at *;split at hs
 ·cases J with
  |cptr _ a vs Z I z U=>
   obtain⟨v,h1,h2⟩:=Zh hs z U Z;refine⟨v,?_,h2⟩;have:a.add 0=a:=by simp[Addr.add]
   rw[this]at h1;simp[Instr.loadAt,Instr.sureAddr,h1]
 ·rename_i i v off;split at hs
  ·rename_i a1 cs V;obtain⟨aG,hs⟩:=hs;have eR:=T.qN V;cases J with
   |ref _ _ _ _ _ _ _ K=>
    obtain⟨hd,K⟩:=K iV
    obtain⟨hi,_,vs,e,bT,aa,hl,ax,U⟩:=T.cells V hd;rw[K];obtain⟨u,h1,h2⟩:=Zh (a:=⟨c.bl i,0,none⟩) (vs:=λj=>vs.getD j undef) hs
     (λj O=>by rw[p0,AY aa];simp[show j<vs.size by omega])
     (λj y O=>by
      have ak:=(cj.1 O).1;refine U j y _ O ?_;simp[show j<vs.size by omega]) rfl
    refine⟨u,?_,h2⟩;rw[p0,j9]at h1;simp[Instr.loadAt,Instr.sureAddr,h1]
  ·exact hs.elim
 ·exact hs.elim
def Ctx.push(c:Ctx)(o:Obj)(v0:Nat:=0):Ctx:=
 {w:=c.w.alloc o,n:=c.n+1,bl:=λi=>if i=c.n then c.w.heap.size else c.bl i,a1:=λi=>if i=c.n then v0 else c.a1 i,cO:=λi=>if i=c.n then false else c.cO i,hh:=c.hh,base:=c.base}
theorem uA{o:Obj}(h:b<w.heap.size):(w.alloc o).heap[b]?=w.heap[b]?:=by
 show(w.heap.push o)[b]?=_;rw[Array.getElem?_push,aj iV]
theorem mo(w:World)(o):(w.alloc o).heap[w.heap.size]?=some o:=by
 show(w.heap.push o)[w.heap.size]?=_;simp
theorem Ext.push{c:Ctx}{H:ab}(J:bp c H)(o:Obj)(v0:Nat:=0):Ext c (c.push o v0) where
 n:=oA _
 size:=by simp[Ctx.push]
 st:=λb U=>⟨U,uA (J.st b U).1⟩
 a1:=λi hi=>by grind [Ctx.push]
 bl:=λi hi _=>by
  refine⟨by simp[Ctx.push,show ¬i=c.n by omega],by simp[Ctx.push,show ¬i=c.n by omega],λhd=>?_⟩
  unfold bsize Ctx.push;rw[uA (J.lt i hi hd)]
 os:=rfl
 tape:=⟨rfl,bd _⟩
 output:=rfl
 base:=rfl
theorem fL.rn{c c':Ctx}{i:Nat}{B:bE}(J:Bo c c')(hi:i<c.n)(K:∀i,i<c.n->c.a1 i=0->c'.a1 i=0)(U:c'.a1 i=c.a1 i)(O:c.cO i=false->c'.w.heap[c.bl i]?=c.w.heap[c.bl i]?)(h:fL c i B):fL c' i B:=by
 obtain⟨av,al, -⟩:=J.bl i hi U;cases h with
 |cells a1 cs vs e bT aw hd h1 h2 h3 h4=>exact .cells a1 cs vs e bT (U.trans aw) (al.trans hd) kr h2 h3 λj x v p q=>(h4 j x v p q).rn J
 |void a1 aw hd=>exact .void a1 (U.trans aw)<|al.trans hd
 |map es clock cZ aw hd h1 h2 h3=>exact .map es clock cZ (U.trans aw) (al.trans hd) (by rw[av];exact(O hd).trans h1) h2 λj p e q r=>⟨(h3 j p e q r).1.rn J,(h3 j p e q r).2.1.rn J,(h3 j p e q r).2.2⟩
 |iI m since seen T aw hd h1 h2 h3 h4=>
  obtain⟨m1,m2, -⟩:=J.bl m h1 kr
  exact .iI m since seen T (U.trans aw) (al.trans hd) (tB h1 J.n) (K m h1 h2) (m2.trans h3) kr
 |mB s pos aw hd h1 V=>exact .mB s pos (U.trans aw) (al.trans hd) kr V
 |loop l α N st Z ps I dS fn D ts aw hd hl h1 h2 h3=>exact .loop l α N st Z ps I dS fn D ts (U.trans aw) (al.trans hd) (av.trans hl) kr h2 λt=>(h3 t).rn J
 |c5 t a1 cs vs aw hd h1 h2 z h4=>exact .c5 t a1 cs vs (U.trans aw) (al.trans hd) kr h2 z λj x v p q=>(h4 j x v p q).rn J
 |pQ t a1 aw hd=>exact .pQ t a1 (U.trans aw)<|al.trans hd
 |gone hd=>exact .gone<|al.trans hd
theorem fL.mono(J:Ext c c')(hi:i<c.n)(U:∀i,i<c.n->c.a1 i=0->c'.a1 i=0)(K:c'.a1 i=c.a1 i)(O:c.cO i=false->c'.w.heap[c.bl i]?=c.w.heap[c.bl i]?)(h:fL c i B):fL c' i B:=
 h.rn J.Qz hi U K O
theorem bp.push{c:Ctx}{H:ab}(J:bp c H)(o){B:bE}(v0:Nat:=0)(T:fL (c.push o v0) c.n B):bp (c.push o v0) (H++[B]) where
 jX:=J.jX.mono<|Ext.push J o v0
 n:=by simp[Ctx.push,J.n]
 lt:=λi hi hd=>by
  simp only[Ctx.push]at hi hd ⊢;by_cases h:i=c.n
  ·simp[h]
  ·simp only[h,gz,World.size_alloc]at hd ⊢;have:=J.lt i iV hd
   omega
 inj:=λi j b V hi U K Z fF eH he=>by
  have O:i<H.length+1:=kr
  have I:=by simpa using(cj.1 U).1
  have af:=J.n;simp only[Ctx.push]at he fF eH;by_cases h1:i=c.n<;>by_cases h2:j=c.n
  ·omega
  ·simp only[h1,h2,dG,gz]at he eH;have:=J.lt j iV eH
   omega
  ·simp only[h1,h2,dG,gz]at he fF;have:=J.lt i iV fF
   omega
  ·simp only[h1,h2,gz]at he fF eH;rw[iP iV]at hi U
   exact J.inj i j b V hi U K Z fF eH he
 st:=λk hk=>by
  obtain⟨h1,h2⟩:=J.st k hk;refine⟨by simp[Ctx.push];omega,λi b hi K hd=>?_⟩
  have O:=by simpa using(cj.1 hi).1
  have af:=J.n;simp only[Ctx.push]at hd ⊢;by_cases h:i=c.n
  ·simp only[h,dG];omega
  ·simp only[h,gz]at hd ⊢;rw[iP iV]at hi
   exact h2 i b hi K hd
 rep:=λi b hi=>by
  have O:=by simpa using(cj.1 hi).1
  have af:=J.n;by_cases h:i=c.n
  ·subst h;rw[af]at hi;simp at hi;subst hi;exact T
  ·rw[iP iV]at hi
   exact(J.rep i b hi).mono (Ext.push J o v0) iV (λj U z=>by simp[Ctx.push,show ¬j=c.n by omega,z]) (by simp[Ctx.push,h]) λhd=>uA (J.lt i iV hd)
def Ctx.bump(c:Ctx)(i:Nat)(w':World)(cB:Nat):Ctx:=
 {w:=w',n:=c.n,bl:=λj=>if j=i then cB else c.bl j,a1:=λj=>if j=i then c.a1 i+1 else c.a1 j,cO:=λj=>if j=i then false else c.cO j,hh:=c.hh,base:=c.base}
theorem bp.Ex(J:bp c H)(hi:H[i]?=some B)(hl:B.live)(aG:c.a1 i≠0)(w':World)(U:Nat)(hsz:c.w.heap.size<=w'.heap.size)
  (Z:U>=c.w.heap.size\/(U=c.bl i/\c.cO i=false)) (I:∀b,b<c.w.heap.size->b≠U->w'.heap[b]?=c.w.heap[b]?) (iZ:w'.os=c.w.os) (z:(w'.tape,w'.drawn)=(c.w.tape,c.w.drawn)) (Cu:w'.output=c.w.output):Ext c (c.bump i w' U):=by
 have af:=J.n;have aN:∀k,c.hh k->k≠U:=by
  intro k hk e;rcases Z with h|⟨h,hd⟩
  ·have:=(J.st k hk).1;omega
  ·exact(J.st k hk).2 i B hi hl hd kr
 refine⟨bd _,hsz,λb K=>⟨K,I b (J.st b K).1<|aN b K⟩,λj aq=>?_,λj aq he=>?_,iZ,⟨bU Prod.fst z,Nat.le_of_eq (bU Prod.snd z).symm⟩,Cu,rfl⟩
 ·grind [Ctx.bump]
 ·simp only[Ctx.bump]at he;by_cases h:j=i
  ·subst h;simp at he
  ·refine⟨by simp[Ctx.bump,h],by simp[Ctx.bump,h],λhd=>?_⟩
   have O:=J.lt j aq hd;by_cases iC:c.bl j=U
   ·rcases Z with h1|⟨h1,h2⟩
    ·omega
    · -- another block at the same place: then it is not live, or it is i
      cases T:H[j]? with
      |none=>rw[List.getElem?_eq_none_iff]at T;omega
      |some V=>
       by_cases qe:V.live
       ·exact absurd (J.inj j i V B T hi qe hl hd h2<|by rw[iC,h1]) h
       ·have:=J.rep j V T;cases this with
        |gone gJ=>rw[hd]at gJ;cases gJ
        |_=>exact absurd trivial qe
   ·simp only[bsize,Ctx.bump];rw[I _ O iC]
theorem bp.bump{c:Ctx}{H:ab}(K:bp c H){i:Nat}{B B':bE}(hi:H[i]?=some B)(hl:B.live)(aG:c.a1 i≠0)(w':World)(O:Nat)(hsz:c.w.heap.size<=w'.heap.size)(ew:O<w'.heap.size)
  (nC:O>=c.w.heap.size\/(O=c.bl i/\c.cO i=false)) (k6:∀b,b<c.w.heap.size->b≠O->w'.heap[b]?=c.w.heap[b]?) (iZ:w'.os=c.w.os) (CA:(w'.tape,w'.drawn)=(c.w.tape,c.w.drawn)) (Cu:w'.output=c.w.output)
  (bX:fL (c.bump i w' O) i B'):Ext c (c.bump i w' O)/\bp (c.bump i w' O) (ar H i B'):=by
 have ak:=(cj.1 hi).1;have af:=K.n;have aN:∀k,c.hh k->k≠O:=by
  intro k hk e;rcases nC with h|⟨h,hd⟩
  ·have:=(K.st k hk).1;omega
  ·exact(K.st k hk).2 i B hi hl hd<|by rw[<-h,<-e]
 have J:=K.Ex hi hl aG w' O hsz nC k6 iZ CA Cu;refine⟨J,?_⟩;have Re:∀j Z,j≠i->H[j]?=some Z->Z.live->c.cO j=false->c.bl j≠O:=by
  intro j Z km U I hd e;have z:j<c.n:=by rw[af];exact(cj.1 U).1
  rcases nC with h1|⟨h1,h2⟩
  ·have:=K.lt j z hd;omega
  ·exact km<|K.inj j i Z B U hi I hl hd h2 (by rw[e,h1])
 refine⟨K.jX.mono J,by simp[ar,Ctx.bump,af],λj U T=>?_,λj k b BY U hk aa V eH gf he=>?_,λk hk=>?_,λj b U=>?_⟩
 ·simp only[Ctx.bump]at U T ⊢;by_cases h:j=i
  ·simp only[h,dG];exact ew
  ·simp only[h,gz]at T ⊢;have:=K.lt j U T;omega
 ·simp only[Ctx.bump,ar]at *;by_cases h1:j=i<;>by_cases h2:k=i
  ·omega
  ·simp only[h1,h2,dG,gz]at he gf;rw[gC iV]at hk
   exact absurd he.symm<|Re k BY h2 hk V gf
  ·simp only[h1,h2,dG,gz]at he eH;rw[gC iV]at U
   exact absurd he<|Re j b h1 U aa eH
  ·simp only[h1,h2,gz]at he eH gf;rw[gC iV]at U hk
   exact K.inj j k b BY U hk aa V eH gf he
 ·obtain⟨h1,h2⟩:=K.st k hk;refine⟨by simp only[Ctx.bump];omega,λj b U aa T=>?_⟩
  simp only[Ctx.bump,ar]at *;by_cases h:j=i
  ·simp only[h,dG];exact λe=>aN k hk e.symm
  ·simp only[h,gz]at T ⊢;rw[gC iV]at U
   exact h2 j b U aa T
 ·by_cases h:j=i
  ·subst h;simp[ar,ak]at U;subst U;exact bX
  ·simp only[ar]at U;rw[gC iV]at U
   have h1:=K.rep j b U;have z:j<c.n:=by rw[af];exact(cj.1 U).1
   refine h1.mono J z (λk _ dY=>?_) (by simp[Ctx.bump,h]) (λT=>?_)
   ·simp only[Ctx.bump];have:k≠i:=λe=>aG<|e▸dY
    simp[this,dY]
   ·by_cases I:b.live
    ·exact k6 _ (K.lt j z T)<|Re j b h U I T
    ·cases h1 with
     |gone gJ=>rw[T]at gJ;cases gJ
     |_=>exact absurd trivial I
theorem bp.update(K:bp c H){B':bE}(hi:H[i]?=some B)(hl:B.live)(hd:c.cO i=false)(w')(hsz:w'.heap.size=c.w.heap.size)
  (V:∀b,b≠c.bl i->w'.heap[b]?=c.w.heap[b]?) (q5:bsize w' (c.bl i)=bsize c.w (c.bl i)) (iZ:w'.os=c.w.os) (I:(w'.tape,w'.drawn)=(c.w.tape,c.w.drawn)) (Cu:w'.output=c.w.output)
  (bX:fL {c with w:=w'} i B'):Ext c {c with w:=w'}/\bp {c with w:=w'} (ar H i B'):=by
 have ak:=(cj.1 hi).1;have J:Ext c {c with w:=w'}:=by
  refine⟨bd _,by simp[hsz],λb O=>⟨O,V b λe=>(K.st b O).2 i B hi hl hd e.symm⟩,λ_ _=>bd _,λj U _=>⟨rfl,rfl,λ_=>?_⟩,iZ,⟨bU Prod.fst I,Nat.le_of_eq (bU Prod.snd I).symm⟩,Cu,rfl⟩
  by_cases h:c.bl j=c.bl i
  ·simp only[h];exact q5
  ·simp only[bsize];rw[V _ h]
 refine⟨J,?_⟩;refine⟨K.jX.mono J,by simp[ar,K.n],λj U T=>by simpa[hsz]using K.lt j U T,λj k b z U hk O ew eH Z he=>?_,λk hk=>?_,λj b U=>?_⟩
 ·by_cases h1:j=i
  ·by_cases h2:k=i
   ·omega
   ·subst h1;simp only[ar]at hk;rw[gC iV]at hk
    exact K.inj j k B z hi hk hl ew eH Z he
  ·simp only[ar]at U hk;rw[gC iV]at U
   by_cases h2:k=i
   ·subst h2;exact K.inj j k b B U hi O hl eH Z he
   ·rw[gC iV]at hk
    exact K.inj j k b z U hk O ew eH Z he
 ·obtain⟨h1,h2⟩:=K.st k hk;refine⟨by simpa[hsz]using h1,λj b U O T=>?_⟩
  by_cases h:j=i
  ·subst h;exact h2 j B hi hl T
  ·simp only[ar]at U;rw[gC iV]at U
   exact h2 j b U O T
 ·by_cases h:j=i
  ·subst h;simp[ar,ak]at U;subst U;exact bX
  ·simp only[ar]at U;rw[gC iV]at U
   have h1:=K.rep j b U;by_cases qe:b.live
   ·exact h1.mono J (by rw[K.n];exact(cj.1 U).1) (λ_ _ aG=>aG) rfl λT=>V _ λe=>h (K.inj j i b B U hi qe hl T hd e)
   ·cases h1 with
    |gone hd=>exact .gone hd
    |_=>exact absurd trivial qe
def I.one:I->Bool
 |.agg _|.aQ _|.opt _ _|.top=>false
 |_=>true
theorem aI.one{c:Ctx}{x:I}{v:Value}(h:aI c x v)(J:x.one=true):v.oneCell'=true:=by
 cases h<;>first|rfl|assumption|(simp[I.one]at J)
theorem cells_one(h:v.oneCell'=true):v.cells= #[v]:=by
 cases v<;>first|rfl|(simp[Value.oneCell']at h)
def I.known:I->Bool
 |.agg _=>true
 |x=>x.one
theorem aI.cells{c:Ctx}{x:I}{v:Value}(h:aI c x v)(hk:x.known=true):
  v.cells.size=x.cells.length/\∀(i:Nat) (y:I) (u:Value),x.cells[i]?=some y->v.cells[i]?=some u->aI c y u:=by
 cases x with
 |agg cs=>
  obtain⟨vs,rfl,h1,h2⟩:=h.tW;exact⟨h1,h2⟩
 |aQ _=>simp[I.known,I.one]at hk
 |opt _ _=>simp[I.known,I.one]at hk
 |top=>simp[I.known,I.one]at hk
 |_=>
  rw[cells_one (h.one rfl)];refine⟨rfl,λi y u h1 h2=>?_⟩
  cases i with
  |zero=>simp[I.cells]at h1 h2;subst h1;subst h2;exact h
  |succ i=>simp[I.cells]at h1
def dq(cs:List I)(off:Nat)(xs:List I):List I:=cs.take off++xs++cs.drop (off+xs.length)
def lp(vs:Array Value)(off:Nat):List Value->Array Value
 |[]=>vs
 |x::xs=>lp (vs.setIfInBounds off x) (off+1) xs
theorem zL(vs:Array Value)(off:Nat)(xs:List Value):(lp vs off xs).size=vs.size:=by
 induction xs generalizing vs off with
 |nil=>rfl
 |cons x xs J=>simp[lp,J]
theorem ZM(vs)(off)(xs)(h:off+xs.length<=vs.size)(j):
  (lp vs off xs)[j]?=if off<=j/\j<off+xs.length then xs[j-off]? else vs[j]?:=by
 induction xs generalizing vs off with
 |nil=>simp[lp];omega
 |cons x xs J=>
  rw[lp];grind
theorem GY(vs)(off)(xs)(n)(af:xs.length=n)(h:off+n<=vs.size)(j):
  (lp vs off xs)[j]?=if off<=j/\j<off+n then xs[j-off]? else vs[j]?:=by
 subst af;exact ZM vs off xs h j
def World.putCells(w:World)(b:Nat)(vs:Array Value)(e:TypeId)(bT:Nat×Nat):World:={w with heap:=w.heap.setIfInBounds b (.cells vs e bT)}
theorem vC{vs:Array Value}(h:b<w.heap.size):(World.putCells w b vs e bT).heap[b]?=some (.cells vs e bT):=by
 simp[World.putCells,h]
theorem yH{k:Nat}{vs:Array Value}(h:k≠b):(World.putCells w b vs e bT).heap[k]?=w.heap[k]?:=by
 simp[World.putCells,Array.getElem?_setIfInBounds_ne<|ka h]
theorem S1{vs:Array Value}(h:w.heap[b]?=some (.cells vs e bT))(v:Value):
  w.setCell ⟨b,off,none⟩ v=World.putCells w b (vs.setIfInBounds off v) e bT:=by
 unfold World.setCell World.putCells;congr 1;grind
theorem aBU{vs:Array Value}(h:w.heap[b]?=some (.cells vs e bT)):World.putCells w b vs e bT=w:=by
 have:w.heap.setIfInBounds b (.cells vs e bT)=w.heap:=kr
 unfold World.putCells;rw[this]
theorem aQ7{vs us:Array Value}:World.putCells (World.putCells w b vs e bT) b us e bT=World.putCells w b us e bT:=by
 unfold World.putCells;simp
theorem SP{vs:Array Value}(xs)(J:w.heap[b]?=some (.cells vs e bT))(hle:off+xs.length<=vs.size)(K:vs.size<=bT.1\/bT.2<=bT.1)
  (U:∀x∈xs,x.oneCell'=true):(storeCells ⟨b,off,none⟩ xs).run P w=.ok () (World.putCells w b (lp vs off xs) e bT):=by
 have key:∀(xs) (i) (w) (vs),w.heap[b]?=some (.cells vs e bT)->off+i+xs.length<=vs.size->(vs.size<=bT.1\/bT.2<=bT.1)->(∀x∈xs,x.oneCell'=true)->
   (storeCells ⟨b,off,none⟩ xs i).run P w=.ok () (World.putCells w b (lp vs (off+i) xs) e bT):=by
  intro xs;induction xs with
  |nil=>
   intro i w vs J _ _ _;simp only[storeCells,Sem.run_pure,lp];rw[aBU J]
  |cons x xs O=>
   intro i w vs J hle K U;simp only[cg]at hle;obtain⟨T,he⟩:=sF.1 J;have V:w.cell? ⟨b,off+i,none⟩=some (vs[off+i]'(by omega)):=by rw[AY J];grind
   have Z:w.frozen? ⟨b,off+i,none⟩=false:=by
    simp only[World.frozen?,J];by_cases h1:bT.1<=off+i<;>by_cases h2:off+i<bT.2<;>simp[h1,h2];omega
   have h1:(store (Addr.mk b off none|>.add i) x).run P w=.ok () (World.putCells w b (vs.setIfInBounds (off+i) x) e bT):=by
    rw[run_store P w _ x .plain (U x kk),p0,V]
    simp only[Z,mE,gz];rw[S1 J]
   simp only[storeCells,Sem.run_bind,h1,Result.andThen_ok];rw[O (i+1) _ (vs.setIfInBounds (off+i) x) (vC T) nX (by simpa using K) (λy I=>U y<|by simp[I]),aQ7]
   rfl
 simp_all
def BL(P:Program)(t:TypeId)(x y:I)(H:ab):kc:=
 match x with
 |.ref i v off=>
  match ay H i with
  |.cells a1 cs=>⟨.top,ar H i<|.cells a1 (dq cs off y.cells),v=a1/\off+y.cells.length<=cs.length/\(P.underlying t).isSome=true/\P.cellsOf t=y.cells.length/\y.known=true/\y.cells.all I.one=true⟩
  |_=>⟨.top,H,False⟩
 |_=>⟨.top,H,False⟩
theorem GP(h:off+xs.length<=cs.length):(dq cs off xs).length=cs.length:=by
 simp[dq];omega
theorem KQ(h:off+xs.length<=cs.length)(j):
  (dq cs off xs)[j]?=if off<=j/\j<off+xs.length then xs[j-off]? else cs[j]?:=by
 unfold dq;by_cases h1:j<off
 ·grind []
 grind
theorem bp.putCells{c:Ctx}{H:ab}(K:bp c H){i a1 off:Nat}{cs:List I}(hi:ay H i=.cells a1 cs)(hd:c.cO i=false){ys:List I}{us:List Value}(hle:off+ys.length<=cs.length)(Fc:us.length=ys.length)
  (az:∀(k:Nat) (y) (u),ys[k]?=some y->us[k]?=some u->aI c y u) (aD:∀u∈us,u.oneCell'=true):
  ∃w',(storeCells ⟨c.bl i,off,none⟩ us).run P c.w=.ok () w'/\Ext c {c with w:=w'}/\bp {c with w:=w'} (ar H i (.cells a1<|dq cs off ys)):=by
 obtain⟨bL,eR,vs,e,bT,O,hl,V,r7⟩:=K.cells hi hd;obtain⟨Z,he⟩:=sF.1 O;refine⟨_,(SP (P:=P) (off:=off) us O iV V aD),?_⟩
 have z:bsize (World.putCells c.w (c.bl i) (lp vs off us) e bT) (c.bl i)=bsize c.w (c.bl i):=by
  simp[bsize,vC Z,O,zL]
 have J:Ext c {c with w:=World.putCells c.w (c.bl i) (lp vs off us) e bT}:=by
  refine⟨bd _,by simp[World.putCells],λb U=>⟨U,yH λe=>(K.st b U).2 i _ (kG hi trivial) trivial hd e.symm⟩,λ_ _=>bd _,λj aq _=>⟨rfl,rfl,λ_=>?_⟩,rfl,⟨rfl,bd _⟩,rfl,rfl⟩
  by_cases h:c.bl j=c.bl i
  ·simp only[h];exact z
  ·simp only[bsize];rw[yH h]
 refine K.update (kG hi trivial) trivial hd _ (by simp[World.putCells]) (λb U=>yH U) z rfl rfl rfl ?_
 refine .cells _ _ (lp vs off us) e bT eR hd (vC Z) (by grind [GP,zL]) (by rw[zL];exact V) λj x v h1 h2=>?_
 rw[KQ hle]at h1;rw[ZM _ _ _ iV,Fc]at h2
 refine aI.mono J ?_;split at h1
 ·rename_i T;simp only[T,and_self,dG]at h2;exact az _ _ _ h1 h2
 ·rename_i T;simp only[T,gz]at h2;exact r7 j x v h1 h2
theorem aHV{t:TypeId}{y:I}(K:bp c H)(J:aI c x b2)(T:aI c y jb)(hs:(BL P t x y H).s):
  ∃w',(Instr.storeAt t b2 jb).run P c.w=.ok () w'/\Ext c {c with w:=w'}/\bp {c with w:=w'} (BL P t x y H).H:=by
 unfold BL at *;split at hs
 ·split at hs
  ·rename_i a1 cs O;obtain⟨aG,hle,hu,hsz,hk,V⟩:=hs;obtain⟨d,hu⟩:=hV.1 hu;have eR:=K.qN O;cases J with
   |ref _ _ _ _ _ _ _ U=>
    obtain⟨hd,U⟩:=U iV
    rw[U];obtain⟨h1,h2⟩:=T.cells hk;have Z:∀u∈jb.cells.toList,u.oneCell'=true:=by
     intro u kq;obtain⟨k,ed,ee⟩:=List.getElem_of_mem kq;simp only[Array.length_toList]at ed;have:=h2 k _ u (da iV) kr
     exact this.one<|gm.1 V _ (ga _)
    obtain⟨w',hr,h3,h4⟩:=K.putCells (P:=P) O hd hle (by simpa using h1) (λk z u p q=>h2 k z u p<|by simpa using q) Z
    refine⟨w',?_,h3,h4⟩;simp[Instr.storeAt,Instr.sureAddr,storeVar,gT hu,hsz,h1,hr]
  ·exact hs.elim
 ·exact hs.elim
def Er(x:I)(H:ab):kc:=⟨.ref H.length 0 0,H++[.cells 0 x.cells],x.known=true⟩
theorem aQ6(o):aI (c.push o) (.ref c.n 0 0) (.pointer<|some ⟨c.w.heap.size,0,none⟩):=
 .ref _ _ _ _ (by simp[Ctx.push]) kk rfl (λ_=>by simp[Ctx.push])
theorem YK{t:TypeId}(U:bp c H)(J:aI c x v)(hs:(Er x H).s):
  mj P (Instr.box t v) c (Er x H).v (Er x H).H:=by
 refine⟨c.push<|.cells v.cells t,.pointer<|some ⟨c.w.heap.size,0,none⟩,?_,?_,Ext.push U _,?_⟩
 ·simp[Instr.box,newVar,newRow,Ctx.push]
 ·refine U.push _ 0 ?_;obtain⟨h1,h2⟩:=J.cells hs;refine .cells _ _ v.cells t (0,0) (by simp[Ctx.push]) (by simp[Ctx.push]) (by grind [Ctx.push,mo]) iV (.inr<|bd _) λj y u p q=>(h2 j y u p q).mono<|Ext.push U _
 ·have:=aQ6 (c:=c)<|.cells v.cells t;rw[U.n]at this;exact this
def eM(P:Program)(t:TypeId):I:=
 match P.info? t with
 |some i=>(match i.zero with|some z=>Ep z|none=>.top)
 |none=>.top
theorem uG{t:TypeId}(h:(eM P t).known=true)(c:Ctx):∃z,(∀w,(zeroValue t).run P w=.ok z w)/\aI c (eM P t) z:=by
 unfold eM at *;cases hi:P.info? t with
 |none=>simp[hi,I.known,I.one]at h
 |some i=>
  cases J:i.zero with
  |none=>simp[hi,J,I.known,I.one]at h
  |some z=>
   simp[J];exact⟨z,λw=>by simp[zeroValue,typeInfo,hi,J],PM c z⟩
def Ej(P:Program)(t:TypeId)(H:ab):kc:=Er (eM P t) H
theorem aHW{t:TypeId}(J:bp c H)(hs:(Ej P t H).s):mj P (Instr.alloc t true<|.tuple #[]) c (Ej P t H).v (Ej P t H).H:=by
 obtain⟨z,h1,h2⟩:=uG hs c;obtain⟨c',v,k1,k2,k3,k4⟩:=YK (P:=P) (t:=t) J h2 hs;grind [Instr.box,Sem.run_bind,Instr.alloc,Result.andThen_ok,Ctx,Ej,mj]
def Es(P:Program)(d:TypeDesc)(i:Nat):Option (Nat×Nat):=
 match d with
 |.struct fs=>match fs[i]? with
  |some f=>some (f.offset,P.cellsOf f.type)
  |none=>none
 |.array _ e=>some (i * P.cellsOf e,P.cellsOf e)
 |_=>none
def B0(pl:Nat->Option (Nat×Nat)):List I->List (Nat×I)->Option (List I)
 |cs,[]=>some cs
 |cs,(i,x)::r=>
  match pl i with
  |some (off,n)=>bif (x.cells.length==n)&&Nat.ble (off+n) cs.length&&x.known then B0 pl (dq cs off x.cells) r else none
  |none=>none
theorem Yi(cells)(off)(v:Array Value):
  v.zipIdx.foldl (λcs p=>cs.setIfInBounds (off+p.2) p.1) cells=lp cells off v.toList:=by
 rw[<-Array.foldl_toList,Array.toList_zipIdx];have key:∀(l) (k) (cells),(l.zipIdx k).foldl (λcs p=>cs.setIfInBounds (off+p.2) p.1) cells=lp cells (off+k) l:=by
  intro l;induction l with
  |nil=>intro k cells;rfl
  |cons x xs J=>
   intro k cells;exact J (k+1) _
 exact key v.toList 0 cells
theorem Zf{c:Ctx}{pl:Nat->Option (Nat×Nat)}:∀(ps:List (Nat×I)) (vs:List (Nat×Value)) (cs:List I) (us:Array Value) (r:List I),vs.map (·.1)=ps.map (·.1)->
  (∀(k:Nat) (p:Nat×I) (q:Nat×Value),ps[k]?=some p->vs[k]?=some q->aI c p.2 q.2)->us.size=cs.length->
  (∀(j:Nat) (x:I) (v:Value),cs[j]?=some x->us[j]?=some v->aI c x v)->B0 pl cs ps=some r->
  ∃ws,Instr.fill pl us vs=some ws/\ws.size=r.length/\r.length=cs.length/\∀(j:Nat) (x:I) (v:Value),r[j]?=some x->ws[j]?=some v->aI c x v
 |[],[],cs,us,r,_,_,hsz,O,h=>by
  simp only[B0,Option.some.injEq]at h;subst h;exact⟨us,rfl,hsz,rfl,O⟩
 |[],_::_,_,_,_,hm,_,_,_,_=>by simp at hm
 |_::_,[],_,_,_,hm,_,_,_,_=>by simp at hm
 |(i,x)::ps,(eW,v)::vs,cs,us,r,hm,ad,hsz,O,h=>by
  simp only[dz,List.cons.injEq]at hm;obtain⟨rfl,hm⟩:=hm;unfold B0 at h;cases T:pl eW with
  |none=>rw[T]at h;cases h
  |some on=>
   obtain⟨off,n⟩:=on;rw[T]at h;simp only at h;cases U:((x.cells.length==n)&&Nat.ble (off+n) cs.length&&x.known)with
   |false=>rw[U]at h;cases h
   |true=>
    rw[U,tG]at h;simp only[cV,rK,Nat.ble_eq]at U;obtain⟨⟨h1,h2⟩,h3⟩:=U;have V:aI c x v:=ad 0 _ _ rfl rfl;obtain⟨aP,aR⟩:=V.cells h3;have hle:off+x.cells.length<=cs.length:=iV
    have Z:=Zf ps vs (dq cs off x.cells) (lp us off v.cells.toList) r hm (λk p q hk ff=>ad (k+1) p q hk ff)
     (by rw[zL,GP hle];exact hsz)
     (λj y u K J=>by
      rw[KQ hle]at K;rw[GY _ _ _ x.cells.length (by simpa using aP) iV]at J
      split at K
      ·rename_i z;rw[aA z]at J;exact aR _ _ _ K<|by simpa using J
      ·rename_i z;rw[aj z]at J;exact O _ _ _ K J) h
    obtain⟨ws,g1,g2,g3,g4⟩:=Z;refine⟨ws,?_,g2,by rw[g3,GP hle],g4⟩
    unfold Instr.fill;rw[T];have Q4:¬((decide (v.cells.size≠n)||decide (off+v.cells.size>us.size))=true):=nX
    simp only[Q4];rw[Yi];exact g1
def Ed(P:Program)(t:TypeId)(ps:List (Nat×I)):hW:=
 match P.underlying t with
 |some d=>match B0 (Es P d) (eM P t).cells ps with
  |some cs=>⟨.agg cs,(eM P t).known=true/\TypeDesc.isAgg d=true⟩
  |none=>bad
 |none=>bad
theorem aQz(fs:List Field)(w)(h:∀f∈fs,∃d,P.underlying f.type=some d):
  (fs.mapM (λf=>(do pure (f.offset,<-sizeOf f.type):Sem (Nat×Nat)))).run P w=.ok (fs.map λf=>(f.offset,P.cellsOf f.type)) w:=by
 induction fs with
 |nil=>simp
 |cons f fs J=>
  obtain⟨d,hd⟩:=h f kk
  simp only[List.mapM_cons,Sem.run_bind,gT hd,Result.andThen_ok,Sem.run_pure,(J (λg U=>h g kr)),dz]
def Y3(P:Program)(d:TypeDesc):Bool:=
 match d with
 |.struct fs=>fs.toList.all λf=>(P.underlying f.type).isSome
 |.array _ e=>(P.underlying e).isSome
 |_=>false
theorem aHX{t:TypeId}{ps:List (Nat×I)}{vs:Array (Nat×Value)}(hm:vs.toList.map (·.1)=ps.map (·.1))
  (ad:∀(k:Nat) (p:Nat×I) (q:Nat×Value),ps[k]?=some p->vs[k]?=some q->aI c p.2 q.2) (hs:(Ed P t ps).s) (T:∀d,P.underlying t=some d->Y3 P d=true) (w:World):
  ∃v,(Instr.build t vs).run P w=.ok v w/\aI c (Ed P t ps).v v:=by
 unfold Ed at *;cases hu:P.underlying t with
 |none=>simp[hu,bad]at hs
 |some d=>
  simp only[hu]at hs ⊢;cases J:B0 (Es P d) (eM P t).cells ps with
  |none=>simp[J,bad]at hs
  |some cs=>
   simp only[J]at hs ⊢;obtain⟨hk,V⟩:=hs;obtain⟨z,K,Z⟩:=uG hk c;obtain⟨aP,aR⟩:=Z.cells hk;obtain⟨ws,g1,g2,g3,g4⟩:=Zf ps vs.toList (eM P t).cells z.cells cs hm (λk p q h1 h2=>ad k p q h1<|by simpa using h2) aP aR J
   have O:=T d hu;refine⟨.agg ws,?_,.agg _ _ g2 g4⟩;cases d<;>simp only[TypeDesc.isAgg,mE]at V;case struct fs=>
    have e:=aQz fs.toList w λf fU=>hV.1 (by simpa using gm.1 O f fU)
    have U:(λx=>((fs.toList.map λf=>(f.offset,P.cellsOf f.type)).toArray)[x]?)=Es P (.struct fs):=by
     funext x;simp only[Es];rw[List.getElem?_toArray,mF,x1];cases fs[x]?<;>rfl
    simp only[Instr.build,Sem.run_bind,K,Result.andThen_ok,run_underlying hu,Array.mapM_eq_mapM_toList,Sem.run_map,e];rw[U,g1];rfl
   case array n el=>
    obtain⟨d',gJ⟩:=hV.1 O;have U:(λi=>some (i * P.cellsOf el,P.cellsOf el))=Es P (.array n el):=rfl
    simp only[Instr.build,Sem.run_bind,K,Result.andThen_ok,run_underlying hu,gT gJ];rw[U,g1];rfl
def DP(P:Program)(t:TypeId)(f:Nat)(x:I):hW:=
 match P.underlying t with
 |some (.struct fs)=>
  match fs[f]? with
  |some fd=>
   match x with
   |.ref i v off=>⟨.ref i v<|off+fd.offset,(P.underlying fd.type).isSome=true/\P.cellsOf fd.type≠0⟩
   |.cptr cs=>⟨.cptr<|cs.drop fd.offset,(P.underlying fd.type).isSome=true/\P.cellsOf fd.type≠0⟩
   |_=>bad
  |none=>bad
 |_=>bad
theorem Addr.add_add{a:Addr}(h:a.spot=none)(m n):(a.add m).add n=a.add (m+n):=by
 grind [Addr.add,tC]
theorem Addr.Qh{a:Addr}(h:a.spot=none)(m):(a.add m).spot=none:=by
 unfold Addr.add;split
 ·exact h
 ·rfl
theorem aB5{a:Addr}(h:aI c (.cptr cs) (.pointer<|some a))(n):aI c (.cptr<|cs.drop n) (.pointer<|some (a.add n)):=by
 cases h with
 |cptr _ _ vs U K O V=>
  refine .cptr _ _ (λj=>vs<|n+j) (Addr.Qh U n) (by rw[Addr.Ev];exact K) (λj T=>?_) (λj x J=>?_)
  ·rw[Addr.add_add U];simp at T;exact O _ iV
  grind
theorem KN{v:Nat}(h:aI c (.ref i v off) val)(U:c.a1 i=v)(n):∃a,val=.pointer (some a)/\aI c (.ref i v<|off+n) (.pointer<|some (a.add n)):=by
 cases h with
 |ref _ _ _ _ hi K O J=>
  obtain⟨hd,J⟩:=J U;refine⟨_,J,.ref _ _ _ _ hi K rfl λ_=>⟨hd,?_⟩⟩
  rw[p0]
def nh(H:ab)(x:I):Prop:=
 match x with
 |.ref i v _=>match ay H i with
  |.cells a1 _=>v=a1
  |_=>False
 |.osl _ i v _ _ _=>match ay H i with
  |.cells a1 _=>v=a1
  |_=>False
 |_=>True
theorem Lr(U:bp c H){v:Nat}(h:nh H (.ref i v off)):c.a1 i=v:=by
 unfold nh at h;simp at h;cases J:ay H i with
 |cells a1 cs=>rw[J]at h;rw[h];exact U.qN J
 |_=>rw[J]at h;exact h.elim
theorem wQ(U:bp c H){s v:Nat}(h:nh H (.osl s i v off len lc)):c.a1 i=v:=by
 unfold nh at h;simp at h;cases J:ay H i with
 |cells a1 cs=>rw[J]at h;rw[h];exact U.qN J
 |_=>rw[J]at h;exact h.elim
theorem aEy{t:TypeId}(T:bp c H)(J:aI c x b2)(hl:nh H x)(hs:(DP P t f x).s)(w):
  ∃v,(Instr.fieldAt t b2 f).run P w=.ok v w/\aI c (DP P t f x).v v:=by
 unfold DP at *;cases hu:P.underlying t with
 |none=>simp[hu,bad]at hs
 |some d=>
  cases d<;>simp[hu,bad]at hs;case struct fs=>
   simp;cases U:fs[f]? with
   |none=>simp[U]at hs
   |some fd=>
    simp only[U]at hs;cases x<;>simp only at hs;case ref i v off=>
     obtain⟨K,O⟩:=hs;obtain⟨d,hd⟩:=hV.1 K;obtain⟨a,rfl,V⟩:=KN J (Lr T hl) fd.offset;exact⟨_,by simp[Instr.fieldAt,run_underlying hu,U,Instr.sureAddr,fieldPlace,gT hd,O],V⟩
    case cptr cs=>
     obtain⟨K,O⟩:=hs;obtain⟨d,hd⟩:=hV.1 K;cases J with
     |cptr _ a vs h1 h2 h3 h4=>
      exact⟨_,by simp[Instr.fieldAt,run_underlying hu,U,Instr.sureAddr,fieldPlace,gT hd,O],aB5 (.cptr cs a vs h1 h2 h3 h4) _⟩
def DQ(P:Program)(t:TypeId)(x sd:I):hW:=
 match P.underlying t with
 |some (.slice e)=>
  match x,sd with
  |.sl _ es,.int _ i=>⟨.cptr (es.getD i.toNat .top).cells,0<=i/\i<es.length/\(P.underlying e).isSome=true/\P.cellsOf e=(es.getD i.toNat .top).cells.length⟩
  |.osl s j v off len _,.int _ i=>⟨.ref j v<|off+i.toNat * s,0<=i/\i<len/\(P.underlying e).isSome=true/\P.cellsOf e=s/\s≠0⟩
  |_,_=>bad
 |some (.array n e)=>
  match x,sd with
  |.ref j v off,.int _ i=>⟨.ref j v<|off+i.toNat * P.cellsOf e,0<=i/\i<n/\(P.underlying e).isSome=true⟩
  |.cptr cs,.int _ i=>⟨.cptr<|cs.drop (i.toNat * P.cellsOf e),0<=i/\i<n/\(P.underlying e).isSome=true⟩
  |_,_=>bad
 |_=>bad
theorem aI.qG(h:aI c (.sl full es) v):∃base len cap s,∃vs:Nat->Nat->Value,v=.slice base len cap/\len=es.length/\len<=cap/\(full=true->cap=len)/\
  (es≠[]->∃a,base=some a/\a.spot=none/\c.hh a.block/\∀k j,k<es.length->j<s->c.w.cell? (a.add (k * s+j))=some (vs k j))/\(∀e∈es,e.cells.length=s)/\
  (∀(k) (e) (j) (x),es[k]?=some e->e.cells[j]?=some x->aI c x (vs k j)):=by
 cases h with
 |sl _ _ base len cap s vs h1 h2 h3 h4 J U _=>exact⟨base,len,cap,s,vs,rfl,h1,h2,h3,h4,J,U⟩
theorem aI.l8{s v:Nat}(h:aI c (.osl s i v off len lc) val)(J:c.a1 i=v):
  ∃base cap,val=.slice base len cap/\len<=lc/\lc<=cap/\(c.cO i=true->len=0/\cap=0)/\(c.cO i=false->(cap=0\/base=some ⟨c.bl i,off,none⟩)/\∃m,bsize c.w (c.bl i)=some m/\off+cap * s<=m):=by
 cases h with
 |osl _ _ _ _ _ _ _ hi U K O h1 h2=>
  cases hd:c.cO i with
  |true=>
   grind
  |false=>
   simp_all
theorem Lh{α:Type}(l:List α)(i)(d x)(h:l[i]?=some x):l.getD i d=x:=kr
theorem aEz{t:TypeId}(O:bp c H)(J:aI c x b2)(hi:aI c sd lh)(hl:nh H x)(hs:(DQ P t x sd).s)(w):
  ∃v,(Instr.indexAt t b2 lh).run P w=.ok v w/\aI c (DQ P t x sd).v v:=by
 unfold DQ at *;cases hu:P.underlying t with
 |none=>simp[hu,bad]at hs
 |some d=>
  cases d<;>simp only[hu,bad]at hs;case slice e=>
   simp only;cases x<;>cases sd<;>simp only at hs ⊢;case sl.int full es k i=>
    obtain⟨aw,h1,h2,h3⟩:=hs;obtain⟨d,hd⟩:=hV.1 h2;obtain⟨base,len,cap,s,vs,rfl,rfl,aR,bH,V,Z,I⟩:=J.qG;rw[hi.iF];have U:i.toNat<es.length:=iV
    have z:es≠[]:=by intro e;rw[e]at U;simp at U
    obtain⟨a,rfl,a2,a3,a4⟩:=V z;have ay:=da U;rw[Lh _ _ _ _ ay]at h3 ⊢;have hsz:s=P.cellsOf e:=by rw[h3];exact(Z _ (ga U)).symm
    subst hsz;refine⟨.pointer<|some (a.add (i.toNat * P.cellsOf e)),?_,?_⟩
    ·simp[Instr.indexAt,asIntOf,run_underlying hu,gT hd,aw,h1]
    ·refine .cptr _ _ (λj=>vs i.toNat j) (Addr.Qh a2 _) (by rw[Addr.Ev];exact a3) (λj aq=>?_) λj y aH=>I _ _ _ _ ay aH
     rw[Addr.add_add a2];exact a4 _ _ U iV
   case osl.int s j v off len lc k i=>
    obtain⟨aw,h1,h2,h3,h4⟩:=hs;obtain⟨d,hd⟩:=hV.1 h2;have aG:=wQ O hl;obtain⟨base,cap,rfl,cq,Sv,cT,dP⟩:=J.l8 aG;rw[hi.iF];cases K:c.cO j with
    |true=>have:=cT K;omega
    |false=>
     obtain⟨T,m,xI,aQY⟩:=dP K;rcases T with T|rfl
     ·omega
     ·refine⟨.pointer<|some ⟨c.bl j,off+i.toNat * s,none⟩,?_,?_⟩
      ·simp[Instr.indexAt,asIntOf,run_underlying hu,gT hd,aw,h1,h3,p0]
      ·cases J with
       |osl _ _ _ _ _ _ _ cF kO=>exact .ref _ _ _ _ cF kO rfl λ_=>⟨K,rfl⟩
  case array n e=>
   simp only;cases x<;>cases sd<;>simp only at hs ⊢;case ref.int j v off k i=>
    obtain⟨aw,h1,h2⟩:=hs;obtain⟨d,hd⟩:=hV.1 h2;obtain⟨a,rfl,az⟩:=KN J (Lr O hl)<|i.toNat * P.cellsOf e;rw[hi.iF];exact⟨_,by simp[Instr.indexAt,asIntOf,run_underlying hu,gT hd,aw,h1,Instr.sureAddr],az⟩
   case cptr.int cs k i=>
    obtain⟨aw,h1,h2⟩:=hs;obtain⟨d,hd⟩:=hV.1 h2;rw[hi.iF];cases J with
    |cptr _ a vs g1 g2 g3 g4=>
     exact⟨_,by simp[Instr.indexAt,asIntOf,run_underlying hu,gT hd,aw,h1,Instr.sureAddr],aB5 (.cptr cs a vs g1 g2 g3 g4) _⟩
def Hm(P:Program)(t:TypeId)(f:Nat)(x:I):hW:=
 match P.underlying t,x with
 |some (.struct fs),.agg cs=>match fs[f]? with
  |some fd=>apart P fd.type fd.offset cs
  |none=>bad
 |_,_=>bad
theorem aHY{t:TypeId}(J:aI c x b2)(hs:(Hm P t f x).s)(w:World):
  ∃v,(Instr.field t b2 f).run P w=.ok v w/\aI c (Hm P t f x).v v:=by
 unfold Hm at *;split at hs
 ·rename_i fs cs hu;cases U:fs[f]? with
  |none=>simp[U,bad]at hs
  |some fd=>
   simp[U]at hs ⊢;obtain⟨vs,rfl,h1,h2⟩:=J.tW;obtain⟨v,g1,g2⟩:=Lz h1 h2 hs;exact⟨v,by simp[Instr.field,run_underlying hu,U,asAgg,g1],g2⟩
 ·exact hs.elim
def Hn(P:Program)(t:TypeId)(x sd:I):hW:=
 match P.underlying t,x,sd with
 |some .string,.str s,.int _ i=>⟨.int .u8 (s.getD i.toNat 0).toNat,0<=i/\i<s.length⟩
 |some (.array n e),.agg cs,.int _ i=>⟨(apart P e (i.toNat * P.cellsOf e) cs).v,0<=i/\i<n/\(apart P e (i.toNat * P.cellsOf e) cs).s⟩
 |_,_,_=>bad
theorem getElem?_mk(s:List UInt8)(i:Nat):(ByteArray.mk s.toArray)[i]?=s[i]?:=by
 by_cases h:i<s.length
 ·rw[ByteArray.getElem?_lt' _ _ (_),da h];rfl
 ·rw[ByteArray.getElem?_ge' _ _ (by simpa[ByteArray.size]using h),tA iV]
theorem aHZ{t:TypeId}(J:aI c x b2)(hi:aI c sd lh)(hs:(Hn P t x sd).s)(w):
  ∃v,(Instr.index t b2 lh).run P w=.ok v w/\aI c (Hn P t x sd).v v:=by
 unfold Hn at *;split at hs
 ·rename_i s k i hu;obtain⟨aw,h1⟩:=hs;rw[J.ng,hi.iF];have O:i.toNat<s.length:=iV
  have K:=da O;rw[Lh _ _ _ _ K];refine⟨_,?_,.int _ _<|KO.2 ⟨iV,by have:=s[i.toNat].toNat_lt;omega⟩⟩
  simp[Instr.index,asIntOf,run_underlying hu,aw,getElem?_mk,K]
 ·rename_i n e cs k i hu;obtain⟨aw,h1,h2⟩:=hs;rw[hi.iF];obtain⟨vs,rfl,g1,g2⟩:=J.tW;obtain⟨v,aP,T⟩:=Lz g1 g2 h2;have he:∃d,P.underlying e=some d:=by
   unfold apart at h2;cases U:P.underlying e with
   |none=>rw[U]at h2;exact h2.elim
   |some d=>exact⟨d,rfl⟩
  obtain⟨d,hd⟩:=he;exact⟨v,by simp[Instr.index,asIntOf,run_underlying hu,aw,h1,gT hd,aP],T⟩
 ·exact hs.elim
def Em(P:Program)(t:TypeId)(x:I)(H:ab):hW:=
 match P.underlying t,x with
 |some .string,.str s=>⟨.int .i64 s.length,True⟩
 |some (.slice _),.sl _ es=>⟨.int .i64 es.length,True⟩
 |some (.slice _),.osl s i v off len lc=>⟨.int .i64 len,nh H<|.osl s i v off len lc⟩
 |some (.array n _),_=>⟨.int .i64 n,n<=9223372036854775807⟩
 |some (.map _ _),.iu=>⟨.int .i64 0,True⟩
 |some (.map _ _),.map i=>match ay H i with
  |.map es _=>⟨.int .i64 es.length,es.length<=9223372036854775807⟩
  |_=>bad
 |_,_=>bad
theorem M6{o:Obj}(h:w.heap[b]?=some o)(J:∀c e f,o≠.cells c e f):(getObj b).run P w=.ok o w:=by
 unfold getObj;simp[Sem.run,h]
theorem bp.map{c:Ctx}{H:ab}(h:bp c H){i:Nat}{es:List (I×I×Nat)}{clock:Nat}(hi:ay H i=.map es clock):
  i<c.n/\c.a1 i=0/\c.cO i=false/\∃cZ,c.w.heap[c.bl i]?=some (.map cZ clock)/\cZ.size=es.length/\
   ∀(j:Nat) (p) (e),es[j]?=some p->cZ[j]?=some e->aI c p.1 e.key/\aI c p.2.1 e.val/\e.born=p.2.2:=by
 cases(h.rep i _ (kG hi trivial))with
 |map _ _ cZ J hd U hl K=>exact⟨by rw[h.n];exact dk hi trivial,J,hd,cZ,U,hl,K⟩
theorem aJ4{t ty:TypeId}(U:bp c H)(J:aI c x b2)(hs:(Em P t x H).s):
  ∃v,(Builtin.len_ #[t] ty #[b2]).run P c.w=.ok v c.w/\aI c (Em P t x H).v v:=by
 unfold Em at *;split at hs
 ·rename_i s hu;rw[J.ng];exact⟨_,by simp[Builtin.len_,run_underlying hu,goInt,yu],.int _ _<|rR.2 (by have:=J.zh;omega)⟩
 ·rename_i e full es hu;have K:=J.M8;obtain⟨base,len,cap,s,vs,rfl,rfl, -⟩:=J.qG;exact⟨_,by simp[Builtin.len_,run_underlying hu,goInt],.int _ _<|rR.2 iV⟩
 ·rename_i e s i v off len lc hu;have K:=J.FB;obtain⟨base,cap,rfl,hle, -⟩:=J.l8<|wQ (s:=s) (off:=off) (len:=len) (lc:=lc) U hs;exact⟨_,by simp[Builtin.len_,run_underlying hu,goInt],.int _ _<|rR.2 iV⟩
 ·rename_i n e hu;exact⟨_,by simp[Builtin.len_,run_underlying hu,goInt],.int _ _<|rR.2 iV⟩
 ·rename_i k e hu;cases J;exact⟨_,by simp[Builtin.len_,run_underlying hu,goInt],.int _ _<|rR.2 iV⟩
 ·rename_i k e i hu;split at hs
  ·rename_i es clock O;obtain⟨hi,T,hd,cZ,V,hl,z⟩:=U.map O;simp only;cases J with
   |map _ _ _ _ Z=>
    rw[(Z T).2];refine⟨_,?_,.int _ _<|rR.2 iV⟩
    have I:=M6 (P:=P) V kk
    simp[Builtin.len_,run_underlying hu,I,goInt,hl]
  ·exact hs.elim
 ·exact hs.elim
def BW(P:Program)(t:TypeId)(x:I)(lo hi mx:Option I)(H:ab):hW:=
 match P.underlying t,x,lo,hi,mx with
 |some .string,.str s,none,none,none=>⟨.str s,True⟩
 |some .string,.str s,some<|.int _ l,none,none=>⟨.str<|s.drop l.toNat,0<=l/\l<=s.length⟩
 |some .string,.str s,none,some<|.int _ h,none=>⟨.str<|s.take h.toNat,0<=h/\h<=s.length⟩
 |some .string,.str s,some<|.int _ l,some<|.int _ h,none=>⟨.str<|(s.take h.toNat).drop l.toNat,0<=l/\l<=h/\h<=s.length⟩
 |some (.slice e),.sl full es,none,none,none=>⟨.sl full es,(P.underlying e).isSome=true⟩
 |some (.slice e),.sl full es,some<|.int _ l,none,none=>⟨.sl full<|es.drop l.toNat,0<=l/\l<=es.length/\(P.underlying e).isSome=true/\∀x∈es,x.cells.length=P.cellsOf e⟩
 |some (.slice e),.sl full es,none,some<|.int _ h,none=>⟨.sl (full&&decide (h=(es.length:Int)))<|es.take h.toNat,0<=h/\h<=es.length/\(P.underlying e).isSome=true⟩
 |some (.slice e),.sl _ es,some<|.int _ l,some<|.int _ h,none=>⟨.sl false<|(es.take h.toNat).drop l.toNat,0<=l/\l<=h/\h<=es.length/\(P.underlying e).isSome=true/\∀x∈es,x.cells.length=P.cellsOf e⟩
 |some (.slice e),.sl _ es,none,some<|.int _ h,some (.int _ m)=>⟨.sl true<|es.take h.toNat,0<=h/\h<=es.length/\m=h/\(P.underlying e).isSome=true⟩
 |some (.slice e),.sl _ es,some<|.int _ l,some<|.int _ h,some (.int _ m)=>⟨.sl true<|(es.take h.toNat).drop l.toNat,0<=l/\l<=h/\h<=es.length/\m=h/\(P.underlying e).isSome=true/\∀x∈es,x.cells.length=P.cellsOf e⟩
 |some (.slice e),.osl s i v off len lc,none,none,none=>⟨.osl s i v off len lc,nh H (.osl s i v off len lc)/\(P.underlying e).isSome=true⟩
 |some (.slice e),.osl s i v off len lc,none,some<|.int _ h,none=>⟨.osl s i v off h.toNat lc,nh H (.osl s i v off len lc)/\(P.underlying e).isSome=true/\0<=h/\h<=lc⟩
 |some (.slice e),.osl s i v off len lc,some<|.int _ l,none,none=>⟨.osl s i v (off+l.toNat * s) (len-l.toNat)<|lc-l.toNat,nh H (.osl s i v off len lc)/\(P.underlying e).isSome=true/\P.cellsOf e=s/\0<=l/\l<=len⟩
 |some (.slice e),.osl s i v off len lc,some<|.int _ l,some<|.int _ h,none=>⟨.osl s i v (off+l.toNat * s) (h.toNat-l.toNat)<|lc-l.toNat,nh H (.osl s i v off len lc)/\(P.underlying e).isSome=true/\P.cellsOf e=s/\0<=l/\l<=h/\h<=lc⟩
 |some (.slice e),.osl s i v off len lc,some<|.int _ l,some<|.int _ h,some (.int _ m)=>⟨.osl s i v (off+l.toNat * s) (h.toNat-l.toNat)<|m.toNat-l.toNat,nh H (.osl s i v off len lc)/\(P.underlying e).isSome=true/\P.cellsOf e=s/\0<=l/\l<=h/\h<=m/\m<=lc⟩
 |some (.array n e),.ref i v off,none,none,none=>⟨.osl (P.cellsOf e) i v off n n,arrOk P H i v off n e⟩
 |some (.array n e),.ref i v off,some<|.int _ l,none,none=>⟨.osl (P.cellsOf e) i v (off+l.toNat * P.cellsOf e) (n-l.toNat)<|n-l.toNat,arrOk P H i v off n e/\0<=l/\l<=n⟩
 |some (.array n e),.ref i v off,none,some<|.int _ h,none=>⟨.osl (P.cellsOf e) i v off h.toNat n,arrOk P H i v off n e/\0<=h/\h<=n⟩
 |some (.array n e),.ref i v off,some<|.int _ l,some<|.int _ h,none=>⟨.osl (P.cellsOf e) i v (off+l.toNat * P.cellsOf e) (h.toNat-l.toNat)<|n-l.toNat,arrOk P H i v off n e/\0<=l/\l<=h/\h<=n⟩
 |_,_,_,_,_=>bad
where arrOk (P:Program) (H:ab) (i v off n:Nat) (e:TypeId):Prop:=nh H (.ref i v off)/\(P.underlying e).isSome=true/\n<=9223372036854775807/\(match ay H i with|.cells _ cs=>off+n * P.cellsOf e<=cs.length|_=>False)
theorem M5{v n:Nat}(K:bp c H)(J:aI c (.ref i v off) b2)(h:BW.arrOk P H i v off n e):
  c.a1 i=v/\∃a,b2=.pointer (some a)/\aI c (.osl (P.cellsOf e) i v off n n) (.slice (some a) n n):=by
 obtain⟨h1,h2,h3,h4⟩:=h;have O:=Lr K h1;refine⟨O,?_⟩;cases J with
 |ref _ _ _ _ hi T I V=>
  obtain⟨hd,rfl⟩:=V O;cases U:ay H i with
  |cells a1 cs=>
   rw[U]at h4;obtain⟨_,_,vs,z,bT,Z,hl, -, -⟩:=K.cells U hd;exact⟨_,rfl,.osl _ _ _ _ _ _ _ hi T rfl h3 (λ_ gJ=>kr) λ_ _=>⟨_,n,vs.size,rfl,bd _,bd _,.inr rfl,by simp[bsize,Z],iV⟩⟩
  |_=>rw[U]at h4;exact h4.elim
theorem extract_mk(s:List UInt8)(l h):(ByteArray.mk s.toArray).extract l h=ByteArray.mk ((s.take h).drop l).toArray:=by
 apply ByteArray.ext
 simp[List.drop_take]
theorem lS(k)(i:Int)(y:Nat)(code)(aw:0<=i)(h1:i<=y)(w):(Instr.sliceBound (.int k i) y code).run P w=.ok i.toNat w:=run_sliceBound w k i y code aw h1
theorem FP{full':Bool}(h:aI c (.sl full es) (.slice base len cap))(l k m sz)(hl:l<=k)(hk:k<=es.length)(hm:k<=m)(_:m<=cap)
  (O:full'=true->m=k) (hsz:l≠0->∀x∈es,x.cells.length=sz):
  aI c (.sl full'<|(es.take k).drop l) (.slice (if m=l then base else base.map (·.add (l * sz))) (k-l)<|m-l):=by
 have jh:=h.M8;obtain⟨b,n,T,s,vs,he,h1,h2,h3,h4,U,V⟩:=h.qG;cases he;refine .sl _ _ _ _ _ s (λi j=>vs (l+i) j) nX iV (λZ=>by rw[O Z]) (λI=>?_) (λe he=>U e ?_) (λi e j x hi J=>?_) iV
 ·have hlen:=λe=>I<|iO e
  simp at hlen;have z:es≠[]:=kr
  obtain⟨a,rfl,a2,a3,a4⟩:=h4 z;have r2:¬m=l:=iV
  rw[aj r2];refine⟨a.add<|l * sz,rfl,Addr.Qh a2 _,by rw[Addr.Ev];exact a3,λi j hi J=>?_⟩
  simp at hi;rw[Addr.add_add a2];have hs:l=0\/sz=s:=by
   rcases Nat.eq_zero_or_pos l with aw|aw
   ·exact .inl aw
   ·right;have K:=ga (l:=es) (n:=0) iV
    rw[<-hsz iV _ K,U _ K]
  have av:l * sz+(i * s+j)=(l+i) * s+j:=kr
  rw[av];exact a4 _ _ iV J
 ·exact uZ<|sA he
 ·rw[zm,Dv]at hi;split at hi
  ·exact V _ _ _ _ hi J
  ·cases hi
theorem C4{s v:Nat}(K:c.a1 i=v)(h:aI c (.osl s i v off len lc) (.slice base len cap))(l k m J)(hl:l<=k)(hk:k<=J)(I:J<=m)(hm:m<=cap)(z:J<=lc):
  aI c (.osl s i v (off+l * s) (k-l)<|J-l) (.slice (if m=l then base else base.map (·.add (l * s))) (k-l)<|m-l):=by
 obtain⟨b,O,he,h1,EF,h2,h3⟩:=h.l8 K;cases he;cases h with
 |osl _ _ _ _ _ _ _ hi T aD r1 g1 g2=>
  refine .osl _ _ _ _ _ _ _ hi T rfl iV (λe d=>?_) (λe d=>?_)
  ·grind
  ·obtain⟨U,n,V,dP⟩:=h3 d;refine⟨_,_,n,rfl,iV,iV,?_,V,?_⟩
   ·rcases U with U|rfl
    ·left;omega
    ·by_cases Z:m=l
     ·left;omega
     ·rw[aj Z];simp[p0]
   ·have b9:l * s+(m-l) * s=m * s:=by rw[<-pg];congr 1;omega
    have gH:=wA s hm;omega
theorem aH0{t:TypeId}{lo hi mx:Option I}{F1 hP Tx:Option Value}(V:bp c H)(J:aI c x b2)
  (T:∀y,lo=some y->∃u,F1=some u/\aI c y u) (Z:lo=none->F1=none) (O:∀y,hi=some y->∃u,hP=some u/\aI c y u) (z:hi=none->hP=none)
  (Ih:∀y,mx=some y->∃u,Tx=some u/\aI c y u) (K:mx=none->Tx=none) (hs:(BW P t x lo hi mx H).s) (w):
  ∃v,(Instr.sliceAt t b2 F1 hP Tx).run P w=.ok v w/\aI c (BW P t x lo hi mx H).v v:=by
 have inv:∀{o:Option I} {u:Option Value} {k:IntKind} {n:Int},(∀y,o=some y->∃wo,u=some wo/\aI c y wo)->o=some (.int k n)->u=some (.int k n):=by
  intro o u k n h1 h2;obtain⟨wo,h3,h4⟩:=h1 _ h2;rw[h3,h4.iF]
 unfold BW at *;split at hs
 ·rename_i s hu;rw[Z rfl,z rfl,K rfl,J.ng];exact⟨_,by simp[Instr.sliceAt,Instr.slice,run_underlying hu,Instr.sliceBounds],.str _ J.zh⟩
 ·rename_i s k l hu;obtain⟨aw,h1⟩:=hs;rw[inv T rfl,z rfl,K rfl,J.ng];refine⟨_,?_,.str _ (by have:=J.zh;simp only[fT];omega)⟩
  simp[Instr.sliceAt,Instr.slice,run_underlying hu,Instr.sliceBounds,lS k l s.length _ aw h1,extract_mk,yu]
 ·rename_i s k h hu;obtain⟨aw,h1⟩:=hs;rw[Z rfl,inv O rfl,K rfl,J.ng];refine⟨_,?_,.str _ (by have:=J.zh;simp only[eK];omega)⟩
  simp[Instr.sliceAt,Instr.slice,run_underlying hu,Instr.sliceBounds,lS k h s.length _ aw h1,extract_mk,yu]
 ·rename_i s k l k' h hu;obtain⟨aw,h1,h2⟩:=hs;rw[inv T rfl,inv O rfl,K rfl,J.ng];refine⟨_,?_,.str _ (by have:=J.zh;simp only[fT,eK];omega)⟩
  have av:=lS (P:=P) k' h s.length .sliceAlen iV h2 w
  have al:=lS (P:=P) k l h.toNat .sliceB aw iV w
  simp[Instr.sliceAt,Instr.slice,run_underlying hu,Instr.sliceBounds,yu,av,al,extract_mk]
 ·rename_i e full es hu;obtain⟨d,hd⟩:=hV.1 hs;rw[Z rfl,z rfl,K rfl];obtain⟨base,len,cap,s,vs,rfl,h1,h2,h3, -⟩:=J.qG;refine⟨_,by simp[Instr.sliceAt,Instr.slice,run_underlying hu,Instr.sliceBounds,gT hd];rfl,?_⟩
  have:=FP J 0 es.length cap (P.cellsOf e) (bW _) (bd _) iV (bd _) (λax=>by rw[h3 ax,h1]) λh=>absurd rfl h
  simp[Addr.add]at this ⊢;rw[h1];exact this
 ·rename_i e full es k l hu;obtain⟨aw,h1,hd,hsz⟩:=hs;obtain⟨d,hd⟩:=hV.1 hd;rw[inv T rfl,z rfl,K rfl];obtain⟨base,len,cap,s,vs,rfl,rfl,h2,h3, -⟩:=J.qG;have al:=lS (P:=P) k l es.length .sliceB aw h1 w;refine⟨_,by simp[Instr.sliceAt,Instr.slice,run_underlying hu,Instr.sliceBounds,gT hd,al];rfl,?_⟩
  have:=FP J l.toNat es.length cap (P.cellsOf e) iV (bd _) iV (bd _) (λax=>by rw[h3 ax]) λ_=>hsz
  simpa using this
 ·rename_i e full es k h hu;obtain⟨aw,h1,hd⟩:=hs;obtain⟨d,hd⟩:=hV.1 hd;rw[Z rfl,inv O rfl,K rfl];obtain⟨base,len,cap,s,vs,rfl,rfl,h2,h3, -⟩:=J.qG;have al:=lS (P:=P) k h cap .sliceAcap aw iV w
  refine⟨_,by simp[Instr.sliceAt,Instr.slice,run_underlying hu,Instr.sliceBounds,gT hd,al];rfl,?_⟩
  have:=FP (full':=full&&decide (h=(es.length:Int))) J 0 h.toNat cap (P.cellsOf e) (bW _) iV iV (bd _) (λax=>by
   rw[cV,gU]at ax;have:=h3 ax.1;omega) (λh=>absurd rfl h)
  simpa[Addr.add]using this
 ·rename_i e full es k l k' h hu;obtain⟨aw,h1,EF,hd,hsz⟩:=hs;obtain⟨d,hd⟩:=hV.1 hd;rw[inv T rfl,inv O rfl,K rfl];obtain⟨base,len,cap,s,vs,rfl,rfl,h2,h3, -⟩:=J.qG;have av:=lS (P:=P) k' h cap .sliceAcap iV iV w
  have al:=lS (P:=P) k l h.toNat .sliceB aw iV w
  refine⟨_,by simp[Instr.sliceAt,Instr.slice,run_underlying hu,Instr.sliceBounds,gT hd,av,al];rfl,?_⟩
  exact FP (full':=false) J l.toNat h.toNat cap (P.cellsOf e) iV iV iV (bd _) (λax=>by cases ax) λ_=>hsz
 ·rename_i e full es k h k' m hu;obtain⟨aw,h1,rfl,hd⟩:=hs;obtain⟨d,hd⟩:=hV.1 hd;rw[Z rfl,inv O rfl,inv Ih rfl];obtain⟨base,len,cap,s,vs,rfl,rfl,h2,h3, -⟩:=J.qG;have av:=lS (P:=P) k' m cap .slice3Acap aw iV w
  have al:=lS (P:=P) k m m.toNat .slice3B aw iV w
  refine⟨_,by simp[Instr.sliceAt,Instr.slice,run_underlying hu,Instr.sliceBounds,gT hd,av,al];rfl,?_⟩
  have:=FP (full':=true) J 0 m.toNat m.toNat (P.cellsOf e) (bW _) iV (bd _) iV (λ_=>rfl) λh=>absurd rfl h
  simpa[Addr.add]using this
 ·rename_i e full es k l k' h R9 m hu;obtain⟨aw,h1,EF,rfl,hd,hsz⟩:=hs;obtain⟨d,hd⟩:=hV.1 hd;rw[inv T rfl,inv O rfl,inv Ih rfl];obtain⟨base,len,cap,s,vs,rfl,rfl,h2,h3, -⟩:=J.qG;have cY:=lS (P:=P) R9 m cap .slice3Acap iV iV w
  have av:=lS (P:=P) k' m m.toNat .slice3B iV iV w
  have al:=lS (P:=P) k l m.toNat .slice3C aw iV w
  refine⟨_,by simp[Instr.sliceAt,Instr.slice,run_underlying hu,Instr.sliceBounds,gT hd,cY,av,al];rfl,?_⟩
  exact FP (full':=true) J l.toNat m.toNat m.toNat (P.cellsOf e) iV iV iV iV (λ_=>rfl) λ_=>hsz
 ·rename_i e s i v off len lc hu;obtain⟨hl,hd⟩:=hs;obtain⟨d,hd⟩:=hV.1 hd;have U:=wQ V hl;rw[Z rfl,z rfl,K rfl];obtain⟨base,cap,rfl,h1, -⟩:=J.l8 U;refine⟨_,by simp[Instr.sliceAt,Instr.slice,run_underlying hu,Instr.sliceBounds,gT hd];rfl,?_⟩
  simp[Addr.add];exact J
 ·rename_i e s i v off len lc k h hu;obtain⟨hl,hd,aw,h1⟩:=hs;obtain⟨d,hd⟩:=hV.1 hd;have U:=wQ V hl;rw[Z rfl,inv O rfl,K rfl];obtain⟨base,cap,rfl,h2,h3, -⟩:=J.l8 U;have al:=lS (P:=P) k h cap .sliceAcap aw iV w
  refine⟨_,by simp[Instr.sliceAt,Instr.slice,run_underlying hu,Instr.sliceBounds,gT hd,al];rfl,?_⟩
  have:=C4 U J 0 h.toNat cap lc (bW _) iV h3 (bd _)<|bd _
  simpa[Addr.add]using this
 ·rename_i e s i v off len lc k l hu;obtain⟨hl,hd,rfl,aw,h1⟩:=hs;obtain⟨d,hd⟩:=hV.1 hd;have U:=wQ V hl;rw[inv T rfl,z rfl,K rfl];obtain⟨base,cap,rfl,h2,h3, -⟩:=J.l8 U;have al:=lS (P:=P) k l len .sliceB aw h1 w;refine⟨_,by simp[Instr.sliceAt,Instr.slice,run_underlying hu,Instr.sliceBounds,gT hd,al];rfl,?_⟩
  exact C4 U J l.toNat len cap lc iV h2 h3 (bd _)<|bd _
 ·rename_i e s i v off len lc k l k' h hu;obtain⟨hl,hd,rfl,aw,h1,EF⟩:=hs;obtain⟨d,hd⟩:=hV.1 hd;have U:=wQ V hl;rw[inv T rfl,inv O rfl,K rfl];obtain⟨base,cap,rfl,h2,h3, -⟩:=J.l8 U;have av:=lS (P:=P) k' h cap .sliceAcap iV iV w
  have al:=lS (P:=P) k l h.toNat .sliceB aw iV w
  refine⟨_,by simp[Instr.sliceAt,Instr.slice,run_underlying hu,Instr.sliceBounds,gT hd,av,al];rfl,?_⟩
  exact C4 U J l.toNat h.toNat cap lc iV iV h3 (bd _)<|bd _
 ·rename_i e s i v off len lc k l k' h R9 m hu;obtain⟨hl,hd,rfl,aw,h1,EF,aXp⟩:=hs;obtain⟨d,hd⟩:=hV.1 hd;have U:=wQ V hl;rw[inv T rfl,inv O rfl,inv Ih rfl];obtain⟨base,cap,rfl,h2,h3, -⟩:=J.l8 U;have cY:=lS (P:=P) R9 m cap .slice3Acap iV iV w
  have av:=lS (P:=P) k' h m.toNat .slice3B iV iV w
  have al:=lS (P:=P) k l h.toNat .slice3C aw iV w
  refine⟨_,by simp[Instr.sliceAt,Instr.slice,run_underlying hu,Instr.sliceBounds,gT hd,cY,av,al];rfl,?_⟩
  exact C4 U J l.toNat h.toNat m.toNat m.toNat iV iV (bd _) iV iV
 ·rename_i n e i v off hu;obtain⟨U,a,rfl,az⟩:=M5 V J hs;obtain⟨d,hd⟩:=hV.1 hs.2.1;rw[Z rfl,z rfl,K rfl];refine⟨_,by simp[Instr.sliceAt,Instr.sureAddr,run_underlying hu,Instr.sliceBounds,gT hd];rfl,?_⟩
  simpa[Addr.add]using az
 ·rename_i n e i v off k l hu;obtain⟨hs,aw,h1⟩:=hs;obtain⟨U,a,rfl,az⟩:=M5 V J hs;obtain⟨d,hd⟩:=hV.1 hs.2.1;rw[inv T rfl,z rfl,K rfl];have al:=lS (P:=P) k l n .sliceB aw h1 w;refine⟨_,by simp[Instr.sliceAt,Instr.sureAddr,run_underlying hu,Instr.sliceBounds,gT hd,al];rfl,?_⟩
  simpa[apply_ite]using C4 U az l.toNat n n n iV (bd _) (bd _) (bd _) (bd _)
 ·rename_i n e i v off k h hu;obtain⟨hs,aw,h1⟩:=hs;obtain⟨U,a,rfl,az⟩:=M5 V J hs;obtain⟨d,hd⟩:=hV.1 hs.2.1;rw[Z rfl,inv O rfl,K rfl];have al:=lS (P:=P) k h n .sliceAlen aw h1 w;refine⟨_,by simp[Instr.sliceAt,Instr.sureAddr,run_underlying hu,Instr.sliceBounds,gT hd,al];rfl,?_⟩
  simpa[Addr.add]using C4 U az 0 h.toNat n n (bW _) iV (bd _) (bd _) (bd _)
 ·rename_i n e i v off k l k' h hu;obtain⟨hs,aw,h1,h2⟩:=hs;obtain⟨U,a,rfl,az⟩:=M5 V J hs;obtain⟨d,hd⟩:=hV.1 hs.2.1;rw[inv T rfl,inv O rfl,K rfl];have av:=lS (P:=P) k' h n .sliceAlen iV h2 w
  have al:=lS (P:=P) k l h.toNat .sliceB aw iV w
  refine⟨_,by simp[Instr.sliceAt,Instr.sureAddr,run_underlying hu,Instr.sliceBounds,gT hd,av,al];rfl,?_⟩
  simpa[apply_ite]using C4 U az l.toNat h.toNat n n iV iV (bd _) (bd _) (bd _)
 ·exact hs.elim
end Go.Proofs.YtnmamncmpklliaaGreatDoor
