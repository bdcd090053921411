/- What functions answer. No condition. -/
import Derived.Test.YtnmamncmpklliaaGreatDoorWorkB
import Derived.Attr
import Derived.Scope
import Derived.KernelRfl
import Derived.RangeFuncIn
import Derived.LoopNIn
import Derived.Test.YtnmamncmpklliaaGreatDoorChecked
import Derived.Laws.Bits64
set_option linter.unusedSimpArgs false
set_option linter.unusedVariables false
set_option linter.unusedSectionVars false
set_option maxRecDepth 100000
set_option maxHeartbeats 16000000
namespace Go.Proofs.YtnmamncmpklliaaGreatDoor
variable{N v i lc w j:Nat}{y z code body hD ec:Code}{Q:c3}{α:a8}{H L G M cz H1:ab}{args cs es first cap br rest:List I}{R:I->ab->Prop}{g:Bool}{K X W:I->Prop}{fn:Func}{c:Ctx}{B q p A C r:Prop}{a u:I}{listed:Array Bool}{gZ j5 o:Oper}{ops:Array Oper}{all:List Oper}{id:Int}{bU:List ab}{P:Program}{ps:Array Tmp}{acc:List Int}
open Go.Proofs.Tryz
section
variable (v:I)
@[go_sem] theorem aWH(t:Tmp):Cw (.tmp t) v=v:=rfl
@[go_sem] theorem aVD:Cw (.global 0) v=.cptr [.int .u32 0,.int .u32 79764919]:=rfl
end
theorem kA{x:Operand}{b:Bool}(J:bn α x=.bool b)(h1:b=true->cF P N y Q α H)(h2:b=false->cF P N z Q α H):cF P N (.cond x y z) Q α H:=by intro r c a S hs U;have:=HS U x;rw[J]at this;exact wpIn_cond_split this.sT (λO=>h1 O r c a (Rg S).1 hs U) λO=>h2 O r c a (Rg S).2 hs U
@[go_sem] theorem aTy(N:Nat)(y:Code)(Q:c3)(α:a8)(H:ab):wN P N y Q .normal α H=cF P N y Q α H:=rfl
@[go_sem] theorem aVE(N:Nat)(y:Code)(Q:c3)(α:a8)(H:ab):wN P N y Q .ret α H=Q .ret α H:=rfl
@[go_sem] theorem aT7(N i:Nat)(y:Code)(Q:c3)(α:a8)(H:ab):wN P N y Q (.exit i) α H=Q (.exit i) α H:=rfl
@[go_sem] theorem aTl(i:Nat)(Q:c3)(α:a8)(H:ab):ri i Q .normal α H=Q .normal α H:=rfl
@[go_sem] theorem aT8(i:Nat)(Q:c3)(α:a8)(H:ab):ri i Q .ret α H=Q .ret α H:=rfl
@[go_sem] theorem aTY(i j:Nat)(Q:c3)(α:a8)(H:ab):ri i Q (.exit j) α H=if j=i then Q .normal α H else Q (.exit j) α H:=by simp only[ri];by_cases h:j=i<;>simp[h]
attribute [go_sem] aAc qp tj oX tE List.map_cons List.map_nil mV
@[go_sem] theorem Vk(d:Nat)(v:I)(α:a8)(t:Nat):look ((d,v)::α) t=if d=t then v else look α t:=by
 simp only[look];by_cases h:d=t
 ·simp[h]
 ·have J:(d==t)=false:=oq h;simp[h,J]
@[go_sem] theorem aVY(t:Nat):look [] t=.top:=rfl
attribute [go_sem] cP bn dF E6 if_true if_false
@[go_sem] theorem aT9(n:Int)(h1: -9223372036854775808<=n)(h2:n<=9223372036854775807):kE (.int .i64 n)=.int .i64 n:=by have:xg .i64 n=true:=By.2<|rO.2 ⟨h1,h2⟩;simp[kE,this]
@[go_sem] theorem aVF(n:Int)(h1:0<=n)(h2:n<=255):kE (.int .u8 n)=.int .u8 n:=by have:xg .u8 n=true:=By.2<|LN.2 ⟨h1,h2⟩;simp[kE,this]
@[go_sem] theorem aUa(n:Int)(h1: -2147483648<=n)(h2:n<=2147483647):kE (.int .i32 n)=.int .i32 n:=by have:xg .i32 n=true:=By.2<|YX.2 ⟨h1,h2⟩;simp[kE,this]
@[go_sem] theorem aUb(n:Int)(h1:0<=n)(h2:n<=18446744073709551615):kE (.int .u64 n)=.int .u64 n:=by have:xg .u64 n=true:=By.2 ⟨h1,h2⟩;simp[kE,this]
@[go_sem] theorem aUB(n:Int)(h1:0<=n)(h2:n<=4294967295):kE (.int .u32 n)=.int .u32 n:=by have:xg .u32 n=true:=By.2 ⟨h1,h2⟩;simp[kE,this]
@[go_sem] theorem aUC(n:Int)(h1:0<=n)(h2:n<=65535):kE (.int .u16 n)=.int .u16 n:=by have:xg .u16 n=true:=By.2 ⟨h1,h2⟩;simp[kE,this]
@[go_sem] theorem aTZ(b:Bool):kE (.bool b)=.bool b:=rfl
@[go_sem] theorem aTm:kE (.pointer none)=.dX:=rfl
@[go_sem] theorem aTz:kE (.slice none 0 0)=.sl true []:=rfl
@[go_sem] theorem aTn:kE (.map none)=.iI:=rfl
@[go_sem] theorem aTa:kE .nilFunc=.ef:=rfl
@[go_sem] theorem aTA:kE .nilIface=.nilIface:=rfl
@[go_sem] theorem aKK(s:ByteArray)(h:s.data.toList.length<=9223372036854775807):kE (.string s)=.str s.data.toList:=by have:Nat.ble s.data.toList.length 9223372036854775807=true:=Nat.ble_eq_true_of_le h;simp only[kE,this,tM]
@[go_sem] theorem aUD{α:Type}(l:List α):(l.toArray).toList=l:=rfl
def jP:Op->Bool
 |.pick _ _ _=>false
 |.call ⟨.builtin _,_,_⟩=>true
 |.call _=>false
 |.next _ b=>b
 |.binOp _ _ _ _ _=>false
 |_=>true
def l7:Op->Bool
 |.pick _ _ _=>false
 |.call ⟨.builtin _,_,_⟩=>true
 |.call _=>false
 |_=>true
theorem fl{b:Bool}(h:b=true):b=true:=h
def ob(op:Op):List Operand:=op.operands.toList
@[go_sem] theorem aVG(x:Operand):jP (.move x)=true:=fl rfl
@[go_sem] theorem aVH(x:Operand):l7 (.move x)=true:=fl rfl
@[go_sem] theorem aVZ(x:Operand):ob (.move x)=[x]:=rfl
@[go_sem] theorem aT0(x:Operand):jP (.assign x)=true:=fl rfl
@[go_sem] theorem aT1(x:Operand):l7 (.assign x)=true:=fl rfl
@[go_sem] theorem aUE(t:TypeId):jP (.alloc t)=true:=fl rfl
@[go_sem] theorem aUF(t:TypeId):l7 (.alloc t)=true:=fl rfl
@[go_sem] theorem aVM(t:TypeId)(x:Operand):jP (.box t x)=true:=fl rfl
@[go_sem] theorem aVN(t:TypeId)(x:Operand):l7 (.box t x)=true:=fl rfl
@[go_sem] theorem aUG(t:TypeId)(ps:Array (Nat×Operand)):jP (.build t ps)=true:=fl rfl
@[go_sem] theorem aUH(t:TypeId)(ps:Array (Nat×Operand)):l7 (.build t ps)=true:=fl rfl
@[go_sem] theorem aVI(t:TypeId)(ps:Array (Nat×Operand)):ob (.build t ps)=(ps.toList.map (·.2)):=rfl
@[go_sem] theorem aTh(t:TypeId)(n:Nat)(ps:Array (Nat×Operand)):jP (.buildSlice t n ps)=true:=fl rfl
@[go_sem] theorem aTi(t:TypeId)(n:Nat)(ps:Array (Nat×Operand)):l7 (.buildSlice t n ps)=true:=fl rfl
@[go_sem] theorem aVJ(t:TypeId)(x:Operand):jP (.load t x)=true:=fl rfl
@[go_sem] theorem aVK(t:TypeId)(x:Operand):l7 (.load t x)=true:=fl rfl
@[go_sem] theorem aVO(t:TypeId)(x:Operand):ob (.load t x)=[x]:=rfl
@[go_sem] theorem aUI(t:TypeId)(x y:Operand):jP (.store t x y)=true:=fl rfl
@[go_sem] theorem aUJ(t:TypeId)(x y:Operand):l7 (.store t x y)=true:=fl rfl
@[go_sem] theorem aTo(x:Operand):jP (.nilCheck x)=true:=fl rfl
@[go_sem] theorem aTp(x:Operand):l7 (.nilCheck x)=true:=fl rfl
@[go_sem] theorem aTB(x:Operand):ob (.nilCheck x)=[x]:=rfl
@[go_sem] theorem aUK(op:BinOp)(t t':TypeId)(x y:Operand):l7 (.binOp op t x y t')=true:=fl rfl
@[go_sem] theorem aVL(op:BinOp)(t t':TypeId)(x y:Operand):ob (.binOp op t x y t')=[x,y]:=rfl
@[go_sem] theorem aVd(op:UnOp)(t:TypeId)(x:Operand):jP (.unOp op t x)=true:=fl rfl
@[go_sem] theorem aVe(op:UnOp)(t:TypeId)(x:Operand):l7 (.unOp op t x)=true:=fl rfl
@[go_sem] theorem aVP(op:UnOp)(t:TypeId)(x:Operand):ob (.unOp op t x)=[x]:=rfl
@[go_sem] theorem aTC(s d:TypeId)(x:Operand):jP (.convert s d x)=true:=fl rfl
@[go_sem] theorem aTD(s d:TypeId)(x:Operand):l7 (.convert s d x)=true:=fl rfl
@[go_sem] theorem aT2(s d:TypeId)(x:Operand):ob (.convert s d x)=[x]:=rfl
@[go_sem] theorem aUL(t:TypeId)(x:Operand):jP (.makeInterface t x)=true:=fl rfl
@[go_sem] theorem aTq(fn:Go.Fn)(f cs:Array Operand):jP (.makeFunc fn f cs)=true:=fl rfl
@[go_sem] theorem aUM(t:TypeId)(x:Operand)(lo hi mx:Option Operand):jP (.slice t x lo hi mx)=true:=fl rfl
@[go_sem] theorem aUN(t:TypeId)(x:Operand)(lo hi mx:Option Operand):l7 (.slice t x lo hi mx)=true:=fl rfl
@[go_sem] theorem aVf(t:TypeId)(x:Operand)(lo hi mx:Option Operand):ob (.slice t x lo hi mx)=(#[x]++lo.toArray++hi.toArray++mx.toArray).toList:=rfl
@[go_sem] theorem aTb(t:TypeId)(x:Operand)(f:Nat):jP (.fieldAddr t x f)=true:=fl rfl
@[go_sem] theorem aTc(t:TypeId)(x:Operand)(f:Nat):l7 (.fieldAddr t x f)=true:=fl rfl
@[go_sem] theorem aTr(t:TypeId)(x:Operand)(f:Nat):ob (.fieldAddr t x f)=[x]:=rfl
@[go_sem] theorem aTd(t:TypeId)(x i:Operand):jP (.indexAddr t x i)=true:=fl rfl
@[go_sem] theorem aTe(t:TypeId)(x i:Operand):l7 (.indexAddr t x i)=true:=fl rfl
@[go_sem] theorem aTs(t:TypeId)(x i:Operand):ob (.indexAddr t x i)=[x,i]:=rfl
@[go_sem] theorem aUO(t:TypeId)(x i:Operand):jP (.index t x i)=true:=fl rfl
@[go_sem] theorem aUP(t:TypeId)(x i:Operand):l7 (.index t x i)=true:=fl rfl
@[go_sem] theorem aVg(t:TypeId)(x i:Operand):ob (.index t x i)=[x,i]:=rfl
@[go_sem] theorem aTj(x:Operand)(u t:TypeId)(b:Bool):jP (.typeAssert x u t b)=true:=fl rfl
@[go_sem] theorem aTE(x:Operand)(i:Nat):jP (.extract x i)=true:=fl rfl
@[go_sem] theorem aTF(x:Operand)(i:Nat):l7 (.extract x i)=true:=fl rfl
@[go_sem] theorem aTf(t:TypeId)(x y:Operand):jP (.makeSlice t x y)=true:=fl rfl
@[go_sem] theorem aUQ(t:TypeId)(x:Operand):jP (.range t x)=true:=fl rfl
@[go_sem] theorem aVh(x:Operand):jP (.next x true)=true:=fl rfl
@[go_sem] theorem aTG(b:Builtin)(xs:Array Operand)(ts:Array TypeId):jP (.call ⟨.builtin b,xs,ts⟩)=true:=fl rfl
@[go_sem] theorem aTH(b:Builtin)(xs:Array Operand)(ts:Array TypeId):l7 (.call ⟨.builtin b,xs,ts⟩)=true:=fl rfl
@[go_sem] theorem aT3(b:Builtin)(xs:Array Operand)(ts:Array TypeId):ob (.call ⟨.builtin b,xs,ts⟩)=((#[]:Array Operand)++xs).toList:=rfl
@[go_sem] theorem aTI(t:TypeId):jP (.makeMap t none)=true:=fl rfl
@[go_sem] theorem aT4(t:TypeId)(x y:Operand)(b:Bool):jP (.lookup t x y b)=true:=fl rfl
@[go_sem] theorem aT5(t:TypeId)(x y:Operand)(b:Bool):l7 (.lookup t x y b)=true:=fl rfl
@[go_sem] theorem aUR(x:Operand):jP (.entry x)=true:=fl rfl
@[go_sem] theorem aTg(t:TypeId)(x y z:Operand):jP (.mapUpdate t x y z)=true:=fl rfl
@[go_sem] theorem aT6(t:TypeId)(x y z:Operand):jP (.insert t x y z)=true:=fl rfl
attribute [go_sem] cr su
@[go_sem] theorem aVQ(s:List UInt8):kd .string (.str s)=true:=fl rfl
@[go_sem] theorem aVR(k:IntKind)(n:Int):kd (.int k) (.int k n)=true:=by simp[kd]
section
variable (all os:List Oper) (α:a8) (H:ab) (k:a8->ab->Prop) (kp:a8->Prop) (dst:Option Tmp) (ty:TypeId) (pos:String) (after:Array Edge)
def LG(P:Program)(all os:List Oper)(dst:Option Tmp)(α:a8)(k:a8->ab->Prop):I->ab->Prop:=λv H'=>gE P all os (cP dst v α) H' k
def P8(P:Program)(all os:List Oper)(dst:Option Tmp)(g:Bool)(α:a8)(k:a8->ab->Prop):I->ab->Prop:=λv H=>gE P all os (cP dst (.opt g v) α) H k
def Yn(P:Program)(all:List Oper)(H:ab)(os:List Oper)(dst:Option Tmp)(α:a8)(kp:a8->Prop):I->Prop:=λv=>ib P all H os (cP dst v α) kp
def Yo(P:Program)(all:List Oper)(H:ab)(os:List Oper)(dst:Option Tmp)(g:Bool)(α:a8)(kp:a8->Prop):I->Prop:=λv=>ib P all H os (cP dst (.opt g v) α) kp
def Zh(P:Program)(all os:List Oper)(dst:Option Tmp)(α:a8)(H:ab)(k:a8->ab->Prop):I->Prop:=λv=>gE P all os (cP dst v α) H k
@[go_sem] theorem aVS:gE P all [] α H k=k α H:=rfl
@[go_sem] theorem aVi:ib P all H [] α kp=kp α:=rfl
@[go_sem] theorem aVj(x y z:Operand):gE P all (⟨dst,.pick x y z,ty,pos,after,none⟩::os) α H k=
  ((kF true (bn α x) (bn α y) (bn α z)).s/\gE P all os (cP dst (kF true (bn α x) (bn α y)<|bn α z).v α) H k):=rfl
@[go_sem] theorem aUS(f:Operand)(xs:Array Operand)(ts:Array TypeId):gE P all (⟨dst,.call ⟨.value f,xs,ts⟩,ty,pos,after,none⟩::os) α H k=
  oR P (bn α f) (xs.toList.map<|bn α) H (LG P all os dst α k):=rfl
@[go_sem] theorem aUd(r:Operand)(m:String)(xs:Array Operand)(ts:Array TypeId):gE P all (⟨dst,.call ⟨.invoke r m,xs,ts⟩,ty,pos,after,none⟩::os) α H k=
  oR P (sZ P m<|bn α r) (xs.toList.map<|bn α) H (LG P all os dst α k):=rfl
@[go_sem] theorem aTJ(r:Operand)(m:String)(xs:Array Operand)(ts:Array TypeId)(j:Nat)(w:Bool):gE P all (⟨dst,.call ⟨.invoke r m,xs,ts⟩,ty,pos,after,some (j,w)⟩::os) α H k=
  (ja (bV α<|bQ all j)/\ly (cv (bV α<|bQ all j) w) α (r::xs.toList)/\
    En P (cv (bV α<|bQ all j) w) (sZ P m<|dF α r) (xs.toList.map<|dF α) H (P8 P all os dst (cv (bV α<|bQ all j) w) α k)):=rfl
@[go_sem] theorem aUT(x y z:Operand)(j:Nat)(w:Bool):gE P all (⟨dst,.pick x y z,ty,pos,after,some (j,w)⟩::os) α H k=
  (ja (bV α<|bQ all j)/\((cv (bV α<|bQ all j) w)=true->(kF (cv (bV α<|bQ all j) w) (bn α x) (bn α y) (bn α z)).s)/\
    gE P all os (cP dst (.opt (cv (bV α<|bQ all j) w) (kF (cv (bV α (bQ all j)) w) (bn α x) (bn α y)<|bn α z).v) α) H k):=rfl
@[go_sem] theorem aUe(f:Operand)(xs:Array Operand)(ts:Array TypeId)(j:Nat)(w:Bool):gE P all (⟨dst,.call ⟨.value f,xs,ts⟩,ty,pos,after,some (j,w)⟩::os) α H k=
  (ja (bV α<|bQ all j)/\ly (cv (bV α<|bQ all j) w) α (f::xs.toList)/\
   En P (cv (bV α<|bQ all j) w) (dF α f) (xs.toList.map<|dF α) H (P8 P all os dst (cv (bV α<|bQ all j) w) α k)):=rfl
@[go_sem] theorem aUU(x y z:Operand):ib P all H (⟨dst,.pick x y z,ty,pos,after,none⟩::os) α kp=
  ((kF true (bn α x) (bn α y) (bn α z)).s/\ib P all H os (cP dst (kF true (bn α x) (bn α y)<|bn α z).v α) kp):=rfl
@[go_sem] theorem aUf(f:Operand)(xs:Array Operand)(ts:Array TypeId):ib P all H (⟨dst,.call ⟨.value f,xs,ts⟩,ty,pos,after,none⟩::os) α kp=
  tu P true (bn α f) (xs.toList.map<|bn α) H (Yn P all H os dst α kp):=rfl
@[go_sem] theorem aUg(x y z:Operand)(j:Nat)(w:Bool):ib P all H (⟨dst,.pick x y z,ty,pos,after,some (j,w)⟩::os) α kp=
  (ja (bV α<|bQ all j)/\((cv (bV α<|bQ all j) w)=true->(kF (cv (bV α<|bQ all j) w) (bn α x) (bn α y) (bn α z)).s)/\
    ib P all H os (cP dst (.opt (cv (bV α<|bQ all j) w) (kF (cv (bV α (bQ all j)) w) (bn α x) (bn α y)<|bn α z).v) α) kp):=rfl
@[go_sem] theorem aTK(f:Operand)(xs:Array Operand)(ts:Array TypeId)(j:Nat)(w:Bool):ib P all H (⟨dst,.call ⟨.value f,xs,ts⟩,ty,pos,after,some (j,w)⟩::os) α kp=
  (ja (bV α<|bQ all j)/\ly (cv (bV α<|bQ all j) w) α (f::xs.toList)/\
   tu P (cv (bV α<|bQ all j) w) (dF α f) (xs.toList.map<|dF α) H (Yo P all H os dst (cv (bV α<|bQ all j) w) α kp)):=rfl
@[go_sem] theorem aVk(x:Operand):gE P all (⟨dst,.next x false,ty,pos,after,none⟩::os) α H k=L1 (bn α x) H (LG P all os dst α k):=rfl
@[go_sem] theorem aUV(op:BinOp)(t t':TypeId)(x y:Operand):gE P all (⟨dst,.binOp op t x y t',ty,pos,after,none⟩::os) α H k=
  bif ny op&&Bm y then Ig P t H (bn α x) (Zh P all os dst α H k)
  else((B2 P (tm x||tm y) op t (bn α x) (bn α y)).s/\gE P all os (cP dst (B2 P (tm x||tm y) op t (bn α x)<|bn α y).v α) H k):=rfl
@[go_sem] theorem aVT(op:Op)(h:jP op=true):gE P all (⟨dst,op,ty,pos,after,none⟩::os) α H k=
  ((cr P op (bn α) H).s/\gE P all os (cP dst (cr P op (bn α) H).v α) (cr P op (bn α) H).H k):=by
 cases op<;>first|rfl|(cases h;done)|skip
 ·rename_i x b;cases b<;>first|rfl|cases h
 ·rename_i c;obtain⟨ce,xs,ts⟩:=c;cases ce<;>first|rfl|cases h
@[go_sem] theorem aVl(op:Op)(j:Nat)(w:Bool)(h:l7 op=true):gE P all (⟨dst,op,ty,pos,after,some (j,w)⟩::os) α H k=
  (ja (bV α<|bQ all j)/\ly (cv (bV α<|bQ all j) w) α (ob op)/\(cv (bV α<|bQ all j) w=true->(cr P op (dF α) H).s/\(cr P op (dF α) H).H=H)/\
   gE P all os (cP dst (.opt (cv (bV α<|bQ all j) w) (cr P op (dF α) H).v) α) H k):=by
 cases op<;>first|rfl|(cases h;done)|skip
 rename_i c;obtain⟨ce,xs,ts⟩:=c;cases ce<;>first|rfl|cases h
@[go_sem] theorem aVm(op:Op)(h:l7 op=true):ib P all H (⟨dst,op,ty,pos,after,none⟩::os) α kp=
  ((cr P op (bn α) H).s/\(cr P op (bn α) H).H=H/\ib P all H os (cP dst (cr P op (bn α) H).v α) kp):=by
 cases op<;>first|rfl|(cases h;done)|skip
 rename_i c;obtain⟨ce,xs,ts⟩:=c;cases ce<;>first|rfl|cases h
@[go_sem] theorem aUW(op:Op)(j:Nat)(w:Bool)(h:l7 op=true):ib P all H (⟨dst,op,ty,pos,after,some (j,w)⟩::os) α kp=
  (ja (bV α<|bQ all j)/\ly (cv (bV α<|bQ all j) w) α (ob op)/\(cv (bV α<|bQ all j) w=true->(cr P op (dF α) H).s/\(cr P op (dF α) H).H=H)/\
   ib P all H os (cP dst (.opt (cv (bV α<|bQ all j) w) (cr P op (dF α) H).v) α) kp):=by
 cases op<;>first|rfl|(cases h;done)|skip
 rename_i c;obtain⟨ce,xs,ts⟩:=c;cases ce<;>first|rfl|cases h
end
attribute [go_sem] true_and and_true implies_true and_self not_true_eq_false Bool.not_true Bool.not_false eq_self decide_true decide_false Bool.true_eq_false Bool.false_eq_true List.getD_cons_zero List.getD_cons_succ List.getD_nil List.set_cons_zero List.set_cons_succ List.length_cons List.length_nil List.length_append List.append_assoc List.cons_append List.nil_append List.append_nil List.drop_zero List.drop_succ_cons List.drop_nil List.take_zero List.take_succ_cons List.take_nil Option.map_some Option.map_none Nat.zero_add Nat.add_zero Nat.add_assoc List.size_toArray List.toList_toArray Int.toNat_natCast Array.toList_append Array.toList_empty
@[go_sem] theorem uP(h L:ab):az (h++L) h.length=L.getD 0 .gone:=by simp only[az,gg];rw[pH (bh _)];simp
@[go_sem] theorem Bn(h L:ab)(k:Nat):az (h++L) (h.length+k)=L.getD k .gone:=by simp only[az,gg];rw[pH gf];simp
@[go_sem] theorem O0(h L:ab)(b:bD):an (h++L) h.length b=h++L.set 0 b:=by simp[an]
@[go_sem] theorem Ll(h L:ab)(k:Nat)(b:bD):an (h++L) (h.length+k) b=h++L.set k b:=by simp[an]
section
variable (P) (t:TypeId) (k:IntKind) (a b:Int) (s u:List UInt8) (x y:Bool)
@[go_sem] theorem aVU:fm P .add t (.int k a) (.int k b)=⟨.int k<|k.wrap (a+b),True⟩:=by simp[fm,l0]
@[go_sem] theorem aVV:fm P .sub t (.int k a) (.int k b)=⟨.int k<|k.wrap (a-b),True⟩:=by simp[fm,l0]
@[go_sem] theorem aWl:fm P .mul t (.int k a) (.int k b)=⟨.int k<|k.wrap (a * b),True⟩:=by simp[fm,l0]
@[go_sem] theorem aWm:fm P .quo t (.int k a) (.int k b)=⟨.int k<|k.wrap (a.tdiv b),b≠0⟩:=by simp[fm,l0]
@[go_sem] theorem aWn:fm P .rem t (.int k a) (.int k b)=⟨.int k<|a.tmod b,b≠0⟩:=by simp[fm,l0]
@[go_sem] theorem aWo:fm P .and t (.int k a) (.int k b)=⟨.int k<|eg .and k a b,True⟩:=by simp[fm,l0]
@[go_sem] theorem aWI:fm P .or t (.int k a) (.int k b)=⟨.int k<|eg .or k a b,True⟩:=by simp[fm,l0]
@[go_sem] theorem aWp:fm P .xor t (.int k a) (.int k b)=⟨.int k<|eg .xor k a b,True⟩:=by simp[fm,l0]
@[go_sem] theorem aWq:fm P .eql t (.int k a) (.int k b)=⟨.bool<|decide (a=b),True⟩:=by simp[fm,l0]
@[go_sem] theorem aWr:fm P .neq t (.int k a) (.int k b)=⟨.bool<|!decide (a=b),True⟩:=by simp[fm,l0]
@[go_sem] theorem aWs:fm P .lss t (.int k a) (.int k b)=⟨.bool<|decide (a<b),True⟩:=by simp[fm,l0]
@[go_sem] theorem aWt:fm P .leq t (.int k a) (.int k b)=⟨.bool<|decide (a<=b),True⟩:=by simp[fm,l0]
@[go_sem] theorem aWu:fm P .gtr t (.int k a) (.int k b)=⟨.bool<|decide (b<a),True⟩:=by simp[fm,l0]
@[go_sem] theorem aWv:fm P .geq t (.int k a) (.int k b)=⟨.bool<|decide (b<=a),True⟩:=by simp[fm,l0]
@[go_sem] theorem aWw(k':IntKind):fm P .shl t (.int k a) (.int k' b)=⟨.int k<|k.wrap (a * 2 ^ (min b.toNat k.bits)),0<=b⟩:=by simp[fm,l0]
@[go_sem] theorem aWx(k':IntKind):fm P .shr t (.int k a) (.int k' b)=⟨.int k<|a.fdiv (2 ^ (min b.toNat k.bits)),0<=b⟩:=by simp[fm,l0]
@[go_sem] theorem aVn:fm P .add t (.str s) (.str u)=⟨.str<|s++u,s.length+u.length<=9223372036854775807⟩:=by simp[fm,H4]
@[go_sem] theorem aVo:fm P .eql t (.str s) (.str u)=⟨.bool<|decide (s=u),True⟩:=by simp[fm,H4]
@[go_sem] theorem aVp:fm P .neq t (.str s) (.str u)=⟨.bool<|!decide (s=u),True⟩:=by simp[fm,H4]
@[go_sem] theorem aVq:fm P .eql t (.bool x) (.bool y)=⟨.bool<|x==y,P.underlying t=some .bool⟩:=by simp[fm]
@[go_sem] theorem aVr(xs ys:List I):fm P .eql t (.agg xs) (.agg ys)=⟨.bool (pM P 30 t (.agg xs)<|.agg ys).b,P.eqGuardType P.depth t=false/\(pM P 30 t (.agg xs) (.agg ys)).s⟩:=by simp[fm]
@[go_sem] theorem aVs(xs ys:List I):fm P .neq t (.agg xs) (.agg ys)=⟨.bool<|!(pM P 30 t (.agg xs) (.agg ys)).b,P.eqGuardType P.depth t=false/\(pM P 30 t (.agg xs) (.agg ys)).s⟩:=by simp[fm]
end
@[go_sem] theorem aVt(cs:List I):(I.agg cs).cells=cs:=rfl
@[go_sem] theorem aVu(k:IntKind)(n:Int):I.cells (.int k n)=[.int k n]:=rfl
@[go_sem] theorem aUX(b:Bool):I.cells (.bool b)=[.bool b]:=rfl
@[go_sem] theorem aVv(s:List UInt8):I.cells (.str s)=[.str s]:=rfl
@[go_sem] theorem aWy(f:Bool)(es:List I):I.cells (.sl f es)=[.sl f es]:=rfl
@[go_sem] theorem aVw(i v o:Nat):I.cells (.ref i v o)=[.ref i v o]:=rfl
@[go_sem] theorem aVx(a b c d e f:Nat):I.cells (.osl a b c d e f)=[.osl a b c d e f]:=rfl
@[go_sem] theorem aTL:I.cells (.dX)=[.dX]:=rfl
@[go_sem] theorem aVy(i:Nat):I.cells (.map i)=[.map i]:=rfl
@[go_sem] theorem aTM:I.cells (.iI)=[.iI]:=rfl
@[go_sem] theorem aUY(f:Fn)(a b:List I):I.cells (.func f a b)=[.func f a b]:=rfl
@[go_sem] theorem aTO:I.cells (.ef)=[.ef]:=rfl
@[go_sem] theorem aVz{α:Type}:(none:Option α).toArray.toList=[]:=rfl
@[go_sem] theorem aVA{α:Type}(x:α):(some x).toArray.toList=[x]:=rfl
@[go_sem] theorem aVB:ny .eql=true:=rfl
@[go_sem] theorem aVC:ny .neq=false:=rfl
@[go_sem] theorem aU3:ny .add=false:=rfl
@[go_sem] theorem aU4:ny .sub=false:=rfl
@[go_sem] theorem aU5:ny .mul=false:=rfl
@[go_sem] theorem aU6:ny .quo=false:=rfl
@[go_sem] theorem aU7:ny .rem=false:=rfl
@[go_sem] theorem aU8:ny .and=false:=rfl
@[go_sem] theorem aWz:ny .or=false:=rfl
@[go_sem] theorem aU9:ny .xor=false:=rfl
@[go_sem] theorem aVa:ny .shl=false:=rfl
@[go_sem] theorem aVb:ny .shr=false:=rfl
@[go_sem] theorem aVc:ny .lss=false:=rfl
@[go_sem] theorem aV0:ny .leq=false:=rfl
@[go_sem] theorem aV1:ny .gtr=false:=rfl
@[go_sem] theorem aV2:ny .geq=false:=rfl
@[go_sem] theorem aUZ(t:Nat):Bm (.tmp t)=false:=rfl
@[go_sem] theorem aTN(v:Value):Bm (.const v)=DH v:=rfl
@[go_sem] theorem aUq(k:IntKind)(n:Int):DH (.int k n)=false:=rfl
@[go_sem] theorem aUr(s:ByteArray):DH (.string s)=false:=rfl
@[go_sem] theorem aUh:DH .nilIface=false:=rfl
@[go_sem] theorem aV3:DH (.slice none 0 0)=true:=rfl
attribute [go_sem] Ig
attribute [go_sem] Io QZ tm PH B2 Ey Ar ES E9 Fa E4 sZ LO Im Mc Iw xP Mh EM Mi EN Mj EO Mg bad E5 EH QR
section
variable {P:Program}
@[go_sem] theorem aTt(ts tx:TypeId)(f:Bool)(x:I)(H:ab):yF P ts tx (.sl f []) x H=xi P ts tx (.sl f []) x H:=rfl
@[go_sem] theorem aTu(ts tx:TypeId)(s i v o l c:Nat)(x:I)(H:ab):yF P ts tx (.osl s i v o l c) x H=xi P ts tx (.osl s i v o l c) x H:=rfl
end
section
@[go_sem] theorem aUs(k:IntKind)(n:Int):x1 (.int k n)=false:=rfl
@[go_sem] theorem aUi(b:Bool):x1 (.bool b)=false:=rfl
@[go_sem] theorem aUt(s:List UInt8):x1 (.str s)=false:=rfl
@[go_sem] theorem aUu(s:List I):x1 (.agg s)=false:=rfl
@[go_sem] theorem aTv(t:TypeId)(x:I):x1 (.iface t x)=false:=rfl
@[go_sem] theorem aUv:x1 .nilIface=true:=rfl
end
@[go_sem] theorem aUw(cs:List I)(n:Nat):du cs n []=cs:=by simp[du]
@[go_sem] theorem aUj(c x:I)(cs xs:List I):du (c::cs) 0 (x::xs)=x::du cs 0 xs:=by simp[du]
@[go_sem] theorem aUk(c:I)(cs xs:List I)(n:Nat):du (c::cs) (n+1) xs=c::du cs n xs:=by simp[du,Nat.add_right_comm n 1]
attribute [go_sem] E7 I.known I.one An Cn yE Ei Ej mQ Ci Ip Iq E3 xi fg fj sS El zp zp.ofBRH Ci.arrOk u9 Ib Ah J8 Kl EB EC JG EG Co E8 GA Ic apart Ix kF Em HX DI Nj cv ja false_implies P7 LW aF2 bV ly bQ ER bad pM vE List.all_cons List.all_nil Bool.and_true Bool.true_and Bool.and_false Bool.false_and Bool.or_false Bool.or_true Bool.false_or Bool.true_or Bool.not_not List.flatMap_cons List.flatMap_nil List.flatMap_nil ge_iff_le gt_iff_lt beq_self_eq_true BEq.rfl List.mem_cons List.not_mem_nil forall_eq_or_imp forall_const or_false false_or ne_eq reduceCtorEq
@[go_sem] theorem aWJ(a b:Nat):Nat.ble a b=decide (a<=b):=by rw[zL];simp
attribute [go_sem] aKk qO aGt aIG aIH Y5
attribute [go_sem] decide_true decide_false Bool.cond_true Bool.cond_false
@[go_sem] theorem aWA(b x:Bool):(bif b then x else false)=(b&&x):=by cases b<;>rfl
@[go_sem] theorem aWK(b x:Bool):(bif b then true else x)=(b||x):=by cases b<;>rfl
@[go_sem] theorem aWB(p:Prop):(p->p)=True:=hW
@[go_sem] theorem aUl(p:Prop)[Decidable p]:(decide p=true)=p:=hW
@[go_sem] theorem aUm(p:Prop)[Decidable p]:(decide p=false)=¬p:=hW
@[go_sem] theorem aWC(b:Bool):((!b)=true)=(b=false):=hW
@[go_sem] theorem aWD(b:Bool):((!b)=false)=(b=true):=hW
@[go_sem] theorem aWE(a b:Bool):((a&&b)=true)=(a=true/\b=true):=hW
@[go_sem] theorem aWL(a b:Bool):((a||b)=false)=(a=false/\b=false):=hW
theorem ia{f:FuncId}{x:I}{k:I->ab->Prop}(h:aO P f args H x)(ok:jr P f=true)(hk:k x H):oR P (.func (.func f) [] []) args H k:=
 Or.inl ⟨ok,by
  simp only[jb,cE];exact h.mono λy H' ⟨ax,J⟩=>by subst ax;subst J;exact hk⟩
theorem c4{f:FuncId}{k:I->ab->Prop}(h:cV P f args H R)(ok:jr P f=true)(hk:∀x H',R x H'->k x H'):oR P (.func (.func f) [] []) args H k:=
 Or.inl ⟨ok,by
  simp only[jb,cE];exact h.mono hk⟩
theorem kg{f:FuncId}{x:I}(h:aO P f args H x)(ok:jr P f=true)(hk:K x):tu P g (.func (.func f) [] []) args H K:=
 ⟨x,λ_=>Or.inl ⟨ok,by
  simp only[jb,cE];exact h⟩,hk⟩
theorem Xn{l:Nat}{K:I->ab->Prop}(h:oR P (.func (.yield l) [] []) args H K):En P true (.func (.yield l) [] []) args H K:=Or.inr ⟨rfl,h⟩
theorem Xo{f:I}{K:I->ab->Prop}(h:tu P g f args H (λv=>K v H)):En P g f args H K:=Or.inl h
theorem aKy{f:FuncId}{x:I}(J:P.funcs[f]?=some fn)(U:fn.body=some code)(af:args.length<=fn.ntmps)
  (h:cF P fn.ntmps code (qp P fn.results.toList λv H'=>∃L y,H'=H++L/\cJ H.length H' v y/\y=x) (mV 0 args) H):aO P f args H x:=
 aGp J U af h
theorem wrap_i64{n:Int}(h1: -9223372036854775808<=n)(h2:n<=9223372036854775807):IntKind.i64.wrap n=n:=by
 simp only[IntKind.wrap,IntKind.signed,IntKind.bits,vk];split
 ·rename_i h;have h:=nI h;omega
 ·rename_i h;have h:¬n % 2 ^ 64>=2 ^ (64-1):=λq=>h<|dr q;omega
def Bo:Nat->I->Bool
 |_,.int _ _|_,.bool _|_,.str _|_,.dX|_,.iI|_,.ef|_,.nilIface|_,.top=>true
 |k+1,.agg cs=>cs.all<|Bo k
 |k+1,.aN cs=>cs.all<|Bo k
 |k+1,.iface _ x=>Bo k x
 |_,_=>false
theorem WE{n:Nat}:∀(k:Nat) {x:I},Bo k x=true->cN n x:=by
 intro k;induction k with
 |zero=>intro x h;cases x<;>first|(simp[Bo]at h;done)|constructor
 |succ k J=>
  intro x h;cases x<;>first
   |(simp[Bo]at h;done)
   |(rename_i cs;exact .agg cs λi y U=>J<|fu.1 h y (dy U))
   |(rename_i cs;exact .aN cs λi y U=>J<|fu.1 h y (dy U))
   |(rename_i t y;exact .iface t y<|J h)
   |constructor
theorem TT{n k:Nat}{v x:I}(hk:Bo k v=true)(he:v=x):∃J y,H++L=H++J/\cJ n (H++L) v y/\y=x:=
 ⟨L,v,rfl,.cl _<|WE k hk,he⟩
theorem aEj{n k:Nat}{v x:I}(hk:Bo k v=true)(he:v=x):∃J y,H=H++J/\cJ n H v y/\y=x:=
 ⟨[],v,(cE H).symm,.cl _<|WE k hk,he⟩
@[go_sem] def yG:a8->a8->Prop
 |[],_=>True
 |(k,v)::β,α=>look α k=v/\yG β α
theorem xu{α:a8}:∀{β:a8},yG β α->∀t,look β t=.top\/look β t=look α t
 |[],_,t=>.inl rfl
 |(k,v)::β,h,t=>by
  rw[Vk];by_cases e:k=t
  ·subst e;rw[aC rfl];exact .inr h.1.symm
  ·rw[ar e];exact xu h.2 t
def H6{ι:Type}(F:ι->a8)(eW:ι->ab)(pre:ι->Prop)(m:ι->Nat)(x:ι)(Q:c3):c3
 |.normal,α,H=>∃y,pre y/\m y<m x/\yG (F y) α/\H=eW y
 |e,α,H=>Q e α H
section
variable {ι:Type} (F:ι->a8) (eW:ι->ab) (pre:ι->Prop) (m:ι->Nat) (x:ι) (Q:c3) (α:a8) (H:ab)
@[go_sem] theorem aTw:H6 F eW pre m x Q .normal α H=∃y,pre y/\m y<m x/\yG (F y) α/\H=eW y:=rfl
@[go_sem] theorem aUx(i:Nat):H6 F eW pre m x Q (.exit i) α H=Q (.exit i) α H:=rfl
@[go_sem] theorem aV4:H6 F eW pre m x Q .ret α H=Q .ret α H:=rfl
end
theorem c7{ι:Type}(F:ι->a8)(eW:ι->ab)(pre:ι->Prop)(m:ι->Nat)(U:ι)(ay:pre U)
  (O:yG (F U) α) (hH:H=eW U) (round:∀x,pre x->cF P N body (H6 F eW pre m x Q) (F x) (eW x)):cF P N (.loop body) Q α H:=
 ZN F eW pre m U ay (xu O) hH λx J=>Bv (round x J) λe S H' h=>by
  cases e<;>first
   |exact h
   |(obtain⟨y,h1,h2,h3,h4⟩:=h;exact⟨y,h1,h2,xu h3,h4⟩)
def Ctx.stop(c:Ctx)(i:Nat)(S:Prop:=True):Ctx:=
 {w:=c.w,n:=c.n,bo:=c.bo,ba:=λj=>if j=i then c.ba i+1 else c.ba j,c0:=λj=>if j=i then true else c.c0 j,hb:=λb=>c.hb b\/(S/\c.c0 i=false/\b=c.bo i),base:=c.base}
theorem Ext.stop(c:Ctx)(i:Nat)(S:Prop:=True):Ext c (c.stop i S) where
 n:=bh _
 size:=bh _
 st:=λ_ h=>⟨.inl h,rfl⟩
 ba:=λj _=>by
  simp[Ctx.stop];split
  ·rename_i h;subst h;omega
  ·omega
 bo:=λj _ he=>by
  simp only[Ctx.stop]at he ⊢;by_cases h:j=i
  ·subst h;rw[aC rfl]at he;omega
  ·simp[h]
 os:=rfl
 tape:=⟨rfl,bh _⟩
 output:=rfl
 base:=rfl
theorem bm.aDf{B:bD}(S:Prop)(h:bm c H)(hi:H[i]?=some B)(hl:B.live)(e0:c.ba i≠0):bm (c.stop i S) (an H i .gone):=by
 have av:i<c.n:=by rw[h.n];exact(cu.1 hi).1
 have az:∀{j b},(an H i .gone)[j]?=some b->b.live->j≠i/\H[j]?=some b:=by
  intro j b U V;by_cases e:j=i
  ·subst e;rw[an,rB<|by rw[<-h.n];exact av]at U
   cases U;exact V.elim
  ·rw[an,gS λq=>e q.symm]at U;exact⟨e,U⟩
 constructor
 ·exact h.j0.go (λ_ V=>.inl V) λ_ _=>rfl
 ·simp[an,Ctx.stop,h.n]
 ·intro j U hd;simp only[Ctx.stop]at hd ⊢;split at hd
  ·cases hd
  ·exact h.lt j U hd
 ·intro j k b cR U hk V eC fB gj he;obtain⟨eA,g1⟩:=az U V;obtain⟨fr,g2⟩:=az hk eC;simp only[Ctx.stop,ar eA,ar fr]at fB gj he;exact h.inj j k b cR g1 g2 V eC fB gj he
 ·intro k hk;rcases hk with hk|⟨-,hd,rfl⟩
  ·obtain⟨h1,h2⟩:=h.st k hk;refine⟨h1,λj b U V fB=>?_⟩;obtain⟨eA,g1⟩:=az U V;simp only[Ctx.stop,ar eA]at fB;exact h2 j b g1 V fB
  ·refine⟨h.lt i av hd,λj b U V fB e=>?_⟩;obtain⟨eA,g1⟩:=az U V;simp only[Ctx.stop,ar eA]at fB;exact eA<|h.inj j i b _ g1 hi V hl fB hd e
 ·intro j b U;by_cases e:j=i
  ·subst e;rw[an,rB<|by rw[<-h.n];exact av]at U
   cases U;exact .gone<|by simp[Ctx.stop]
  ·rw[an,gS λq=>e q.symm]at U;have J:=Ext.stop c i S;cases h.rep j b U with
   |cells ba cs vs ty bH O T I Z ej kr=>exact .cells ba cs vs _ bH (by simpa[Ctx.stop,e]using O) (by simpa[Ctx.stop,e]using T) I Z ej λk x u p q=>(kr k x u p q).mono J
   |void ba O T=>exact .void ba (by simpa[Ctx.stop,e]using O)<|by simpa[Ctx.stop,e]using T
   |dc t ba cs vs O T I Z aR1 kr=>exact .dc t ba cs vs (by simpa[Ctx.stop,e]using O) (by simpa[Ctx.stop,e]using T) I Z aR1 λk x u p q=>(kr k x u p q).mono J
   |pE t ba O T=>exact .pE t ba (by simpa[Ctx.stop,e]using O)<|by simpa[Ctx.stop,e]using T
   |map es clock c8 O T I Z ej=>exact .map es clock c8 (by simpa[Ctx.stop,e]using O) (by simpa[Ctx.stop,e]using T) I Z λk p u g1 g2=>let⟨aS,aY,a6⟩:=ej k p u g1 g2;⟨aS.mono J,aY.mono J,a6⟩
   |iY m since seen kS O T I Z ej kr=>
    have hm:m≠i:=λr=>e0<|r▸Z
    exact .iY m since seen kS (by simpa[Ctx.stop,e]using O) (by simpa[Ctx.stop,e]using T) I (by simpa[Ctx.stop,hm]using Z) (by simpa[Ctx.stop,hm]using ej) kr
   |mI s pos O T I Z=>exact .mI s pos (by simpa[Ctx.stop,e]using O) (by simpa[Ctx.stop,e]using T) I Z
   |loop l α N st iq ps nr ec fn D ts O T I Z ej kr=>exact .loop l α N st iq ps nr ec fn D ts (by simpa[Ctx.stop,e]using O) (by simpa[Ctx.stop,e]using T) I Z ej λt=>(kr t).mono J
   |gone O=>exact .gone<|by simpa[Ctx.stop,e]using O
theorem bm.stop(h:bm c H)(J:az H i=.cells v cs)(U:v≠0):bm (c.stop i) (an H i .gone):=h.aDf True (kD J trivial) trivial<|by rw[h.qw J];exact U
theorem Bc{s:Nat}:∀{es:List I},(∀e∈es,e.cells.length=s)->∀{k j:Nat} {e x:I},es[k]?=some e->e.cells[j]?=some x->(es.flatMap I.cells)[k * s+j]?=some x
 |[],_,k,j,e,x,hk,_=>j9
 |J::es,hs,0,j,e,x,hk,U=>j9
 |J::es,hs,k+1,j,e,x,hk,U=>by
  rw[nj,pH j9,(hs J hW),show(k+1) * s+j-s=k * s+j by rw[o2];omega]
  exact Bc (λe he=>hs e<|by simp[he]) hk U
theorem J9{s:Nat}:∀{es:List I},(∀e∈es,e.cells.length=s)->(es.flatMap I.cells).length=es.length * s
 |[],_=>hW
 |J::es,hs=>by rw[nj,bw,hs J hW,J9 (λe he=>hs e j9),cd,o2];omega
theorem WG{s:Nat}{val:Value}(h:bm c H)(U:az H i=.cells v cs)(rest)(V:cs=es.flatMap I.cells++rest)(hs:∀e∈es,e.cells.length=s)
  (J:aK c (.osl s i v 0 es.length lc) val):aK (c.stop i) (.sl false es) val:=by
 have Z:=h.qw U;obtain⟨base,cap,rfl,g1,IH,g2,g3⟩:=J.l9 Z;cases hd:c.c0 i with
 |true=>obtain⟨aL,rfl⟩:=g2 hd;have:=iL aL;subst this;exact .sl _ _ _ _ _ s (λ_ _=>undef) rfl (bh _) (λh=>p2 h) (λh=>absurd rfl h) hW hW hW
 |false=>
  obtain⟨cw,m,cL,dx⟩:=g3 hd;obtain⟨_,_,vs,e,bH,aa,pg,aA,CX⟩:=h.cells U hd;have eh:=J9 hs;refine .sl _ _ _ _ _ s (λk j=>vs.getD (k * s+j) undef) rfl gf (λh=>p2 h) (λaT=>?_) hs (λk x j y hk O=>?_) (oC J.Gz)
  ·have hlen:=nH.2 aT;have jL:=cw.resolve_left gf;refine⟨_,jL,rfl,.inr ⟨trivial,hd,rfl⟩,λk j hk O=>?_⟩;have b6:=by
    have:(k+1) * s<=es.length * s:=wT s gf;rw[o2]at this;omega
   have S:k * s+j<vs.size:=by rw[V,bw]at pg;omega
   rw[pL];show(c.w.cell? _)=_;rw[Bz aa];simp[S]
  ·have y0:=Bc hs hk O;have T:cs[k * s+j]?=some y:=j9;have S:=(cu.1 T).1;exact(CX _ _ _ T (by simp[show k * s+j<vs.size by omega])).mono<|Ext.stop c i
theorem Vl(y:I)(α:a8)(t:Nat):∀ts:List Nat,look (ts.map (λt=>(t,y))++α) t=if t∈ts then y else look α t
 |[]=>rfl
 |d::ts=>by
  rw[dO,mf,Vk,Vl y α t ts];by_cases e:d=t
  ·subst e;simp
  ·have:¬t=d:=λq=>e q.symm;simp[e,this]
theorem aEs{s:Nat}(ts:List Nat)(es rest:List I)(J:∀t∈ts,look α t=.osl s i v 0 es.length lc)(T:az H i=.cells v cs)(Z:v≠0)
  (hn:cs=es.flatMap I.cells++rest) (hs:∀e∈es,e.cells.length=s) (h:cF P N code Q (ts.map (λt=>(t,.sl false es))++α) (an H i .gone)):cF P N code Q α H:=by
 intro r c a U V O;have S:=Ext.stop c i;refine wpIn_mono (h r (c.stop i) a U (V.stop T Z) ⟨O.size,O.defers.mono S,λt=>?_⟩) λ_ _ _ ⟨c',ct,H',ax,aq,aU,bf,b8⟩=>⟨c',ct,H',ax,aq,S.trans aU,bf,b8⟩;rw[Vl];by_cases ag:t∈ts
 ·rw[aC ag];have U:=O.rep t;rw[J t ag]at U;exact WG V T rest hn hs U
 ·rw[ar ag];exact(O.rep t).mono S
theorem A8{s:Nat}(ts:List Nat)(es)(J:∀t∈ts,look α t=.osl s i v 0 es.length lc)(U:az H i=.cells v cs)(O:v≠0)
  (S:cs=es.flatMap I.cells) (hs:∀e∈es,e.cells.length=s) (h:cF P N code Q (ts.map (λt=>(t,.sl false es))++α) (an H i .gone)):cF P N code Q α H:=
 aEs ts es [] J U O nP hs h
inductive Ok:I->Prop
 |int (k:IntKind) (n:Int) (h:l6 k n):Ok (.int k n)
 |bool (b:Bool):Ok (.bool b)
 |str (s:List UInt8) (h:s.length<=9223372036854775807):Ok (.str s)
 |agg (cs:List I) (h:∀x∈cs,Ok x):Ok (.agg cs)
 |aN (cs:List I) (h:∀x∈cs,Ok x):Ok (.aN cs)
 |sl (f:Bool) (es:List I) (hl:es.length<=9223372036854775807) (h:∀e∈es,∀x∈e.cells,Ok x):Ok (.sl f es)
 |cptr (cs:List I):Ok (.cptr cs)
 |ref (i v off:Nat):Ok (.ref i v off)
 |osl (s i v off len lc:Nat) (h:lc<=9223372036854775807):Ok (.osl s i v off len lc)
 |dX:Ok .dX
 |map (i:Nat):Ok (.map i)
 |iI:Ok .iI
 |iter (i:Nat):Ok (.iter i)
 |func (fn:Fn) (fs cs:List I):Ok (.func fn fs cs)
 |ef:Ok .ef
 |iface (t:TypeId) (x:I) (h:Ok x):Ok (.iface t x)
 |nilIface:Ok .nilIface
 |opt (g:Bool) (x:I) (h:g=true->Ok x):Ok (.opt g x)
 |top:Ok .top
theorem zi{α:Type}{l:List α}{x:α}(h:x∈l):∃i:Nat,l[i]?=some x:=by obtain⟨i,hi,he⟩:=wZ h;exact⟨i,by rw[dn hi,he]⟩
theorem aK.ok{x:I}{v:Value}(h:aK c x v):Ok x:=by
 induction h with
 |int k n h=>exact .int k n h
 |bool b=>exact .bool b
 |str s h=>exact .str s h
 |agg cs vs hl _ U=>exact .agg cs λx J=>let⟨i,hi⟩:=zi J;let⟨v,O⟩:=De hl hi;U i x v hi O
 |aN cs vs hl _ U=>exact .aN cs λx J=>let⟨i,hi⟩:=zi J;let⟨v,O⟩:=De hl hi;U i x v hi O
 |sl full es base len cap s vs hlen _ _ _ _ _ T U=>exact .sl full es gf λe he x J=>let⟨k,hk⟩:=zi he;let⟨j,S⟩:=zi J;U k e j x hk S
 |cptr cs=>exact .cptr cs
 |ref i v off=>exact .ref i v off
 |osl s i v off len lc val _ _ _ h=>exact .osl s i v off len lc h
 |dX=>exact .dX
 |map i=>exact .map i
 |iI=>exact .iI
 |iter i=>exact .iter i
 |func fn fs cs=>exact .func fn fs cs
 |ef=>exact .ef
 |iface t x _ _ U=>exact .iface t x U
 |nilIface=>exact .nilIface
 |opt g x _ _ _ U=>exact .opt g x U
 |top=>exact .top
theorem Lt{k:IntKind}{n:Int}(h:Ok (.int k n)):l6 k n:=by cases h;assumption
theorem HK{n:Int}(h:Ok (.int .i64 n)): -9223372036854775808<=n/\n<=9223372036854775807:=rO.1<|Lt h
theorem aKz(h:Ok (.agg cs)):∀x∈cs,Ok x:=by cases h;assumption
theorem wO{f:Bool}(h:Ok (.sl f es)):es.length<=9223372036854775807:=by cases h;assumption
theorem aKA{f:Bool}(h:Ok (.sl f es)):∀e∈es,∀x∈e.cells,Ok x:=by cases h;assumption
theorem Of{α:Type}{f:Bool}{g:α->List I}{l:List α}(h:Ok (.sl f<|l.map λx=>.agg (g x))):∀x∈l,∀y∈g x,Ok y:=
 λx J y U=>aKA h _ (BF J) y U
theorem qG.ok{c:Ctx}{xs:List I}{vs:Array Value}(h:qG c xs vs):∀x∈xs,Ok x:=λx J=>
 let⟨i,hi⟩:=zi J
 let⟨v,U⟩:=De h.1 hi
 (h.2 i x v hi U).ok
theorem aF5{f:FuncId}(h:(∀x∈args,Ok x)->cV P f args H R):cV P f args H R:=
 λc vs hs J=>h J.ok c vs hs J
theorem PF{f:FuncId}{x:I}(h:(∀x∈args,Ok x)->aO P f args H x):aO P f args H x:=aF5 h
theorem Pv{f:FuncId}{x:I}(h:Ok a->aO P f [a] H x):aO P f [a] H x:=PF λk=>h<|k _ hW
theorem xX{f:FuncId}{b:I}{x:I}(h:Ok a->Ok b->aO P f [a,b] H x):aO P f [a,b] H x:=PF λk=>h (k _ hW)<|k _ hW
theorem Pw{f:FuncId}{b d:I}{x:I}(h:Ok a->Ok b->Ok d->aO P f [a,b,d] H x):aO P f [a,b,d] H x:=PF λk=>h (k _ hW) (k _ hW)<|k _ hW
def Yp(Q:c3):c3
 |.goto _,_,_=>False
 |e,α,H=>Q e α H
section
variable (Q:c3) (α:a8) (H:ab)
@[go_sem] theorem aUy:Yp Q .ret α H=Q .ret α H:=rfl
end
theorem aEt{F:Fence}{n:Nat}{c:Code}{Q:Exit->Act->World->Prop}{a:Act}{w:World}(h:c.wpIn F n P (Exit.noGoto Q) a w):(Code.scope c).wpIn F n P Q a w:=by
 intro b k cs Z T V;have ay:(lone (b.atR a (.code (.scope c)::k)) cs w).fenced P F:=fenced_calm T V rfl;have O:step P (lone (b.atR a (.code (.scope c)::k)) cs w)=.next (lone (b.atR a (.code c::.inScope c::k)) cs w):=step_lone_go<|by simp[stepG,stepG.exec,Frame.atR]
 obtain⟨e,J,U,aM,S⟩:=h b (.inScope c::k) cs Z T V;have s1:step P (lone (b.atR J (.inScope c::k)) cs U)=.next (lone (b.atR J k) cs U):=step_lone_go<|by simp[stepG,stepG.exec,Frame.atR]
 cases e with
 |normal=>exact⟨.normal,J,U,aM,.head ay O<|StepsIn.trans S (.one (fenced_calm T V rfl) s1)⟩
 |exit id=>exact⟨.exit id,J,U,aM,λk' hk=>.head ay O<|S.1 k' (by simp[exitTo,hk]),λI hk=>let⟨k₁,h1,h2⟩:=S.2 I (by simp[exitTo,hk]);⟨k₁,h1,.head ay O h2⟩⟩
 |goto l=>exact aM.elim
 |ret=>exact⟨_,J,U,aM,.of_steps (.one ay O) S⟩
 |panic ch=>exact⟨_,J,U,aM,.of_steps (.one ay O) S⟩
 |outgrown=>exact⟨_,J,U,aM,.of_steps (.one ay O) S⟩
theorem WH{x:Code}(h:cF P N x (Yp Q) α H):cF P N (.scope x) Q α H:=by
 intro r c a U hs O;refine aEt<|wpIn_mono (h r c a U hs O) λe V w' ⟨c',S,H',ax,T,aU,bf,J⟩=>?_;cases e with
 |goto l=>exact J.elim
 |_=>exact⟨c',S,H',ax,T,aU,bf,J⟩
theorem oz{f:FuncId}{x:I}{k:I->ab->Prop}(h:aO P f (first++args++cap) H x)(ok:jr P f=true)(hk:k x H):oR P (.func (.func f) first cap) args H k:=
 Or.inl ⟨ok,h.mono λy H' ⟨ax,J⟩=>by subst ax;subst J;exact hk⟩
theorem pT{f:FuncId}{k:I->ab->Prop}(h:cV P f (first++args++cap) H R)(ok:jr P f=true)(hk:∀x H',R x H'->k x H'):oR P (.func (.func f) first cap) args H k:=
 Or.inl ⟨ok,h.mono hk⟩
theorem oA{f:FuncId}{x:I}(h:g=true->aO P f (first++args++cap) H x)(ok:jr P f=true)(hk:K x):tu P g (.func (.func f) first cap) args H K:=
 ⟨x,λJ=>Or.inl ⟨ok,h J⟩,hk⟩
theorem Tz{f:I}(v:I)(hk:K v):tu P false f args H K:=⟨v,(λh=>p2 h),hk⟩
def yu(P:Program)(f:I)(args:List I)(H:ab)(x:I):Prop:=∀L,kb P f args (H++L) λv H'=>v=x/\H'=H++L
theorem yu.mk{f:FuncId}{x:I}(h:∀L,aO P f (first++args++cap) (H++L) x)(ok:jr P f=true):yu P (.func (.func f) first cap) args H x:=
 λL=>Or.inl ⟨ok,h L⟩
theorem aIA{f:I}{x:I}{k:I->ab->Prop}(h:yu P f args H x)(hk:k x (H++L)):oR P f args (H++L) k:=by exact(h L).mono λy H' ⟨ax,J⟩=>by subst ax;subst J;exact hk
theorem OY{f:I}{x:I}{k:I->ab->Prop}(h:yu P f args H x)(hk:k x H):oR P f args H k:=by
 have h1:=aIA (L:=[]) (k:=k) h<|by rw[cE];exact hk
 rwa[cE]at h1
theorem bX{b:bD}(h:az H i=b)(J:b.live)(L:ab):az (H++L) i=b:=by have U:=cZ h J;have h1:=kD h J;simp only[az,gg];rw[jc U,h1];rfl
theorem gU(h:i<H.length)(L:ab)(b:bD):an (H++L) i b=an H i b++L:=by unfold an;rw[List.set_append_left _ _ h]
inductive eT:I->I->Prop
 |refl (x:I):eT x x
 |sl (f:Bool) (es:List I):eT (.sl f es) (.sl false es)
 |agg (cs br:List I) (hl:cs.length=br.length) (h:∀(i:Nat) (x y:I),cs[i]?=some x->br[i]?=some y->eT x y):eT (.agg cs) (.agg br)
 |aN (cs br:List I) (hl:cs.length=br.length) (h:∀(i:Nat) (x y:I),cs[i]?=some x->br[i]?=some y->eT x y):eT (.aN cs) (.aN br)
 |iface (t:TypeId) (x y:I) (h:eT x y):eT (.iface t x) (.iface t y)
 |top (x:I):eT x .top
theorem eT.of{x y:I}(h:x=y):eT x y:=h▸.refl x
theorem kZ:∀(i:Nat) (x y),([])[i]?=some x->([])[i]?=some y->eT x y:=λ_ _ _ h=>hW
theorem de{b:I}(h:eT a b)(hs:∀(i:Nat) (x y:I),cs[i]?=some x->br[i]?=some y->eT x y):∀(i:Nat) (x y:I),(a::cs)[i]?=some x->(b::br)[i]?=some y->eT x y
 |0,x,y,J,U=>j9
 |i+1,x,y,J,U=>hs i x y j9 j9
theorem aK.aSn{x y:I}(h:eT x y):∀{v:Value},aK c x v->aK c y v:=by
 induction h with
 |refl x=>exact λh=>h
 |sl f es=>intro v U;cases U with|sl _ _ base len cap s vs h1 h2 h3 h4 T V Z=>exact .sl false es base len cap s vs h1 h2 (λh=>j9) h4 T V Z
 |agg cs br hl _ O=>
  intro v U;cases U with
  |agg _ vs h1 h2=>refine .agg br vs gf λi y u S hu=>?_;grind
 |aN cs br hl _ O=>
  intro v U;cases U with
  |aN _ vs h1 h2=>refine .aN br vs gf λi y u S hu=>?_;have av:=(cu.1 S).1;have J:cs[i]?=some (cs[i]'(_)):=dn gf;exact O i _ y J S<|h2 i _ u J hu
 |iface t x y _ O=>
  intro v U;cases U with
  |iface _ _ dG aF=>exact .iface t y dG<|O aF
 |top x=>exact λ_=>.top _
theorem bm.aSo(O:bm c H)(ak:az H i=.cells v cs)(hl:cs.length=br.length)(hs:∀(i:Nat) (x y),cs[i]?=some x->br[i]?=some y->eT x y):bm c (an H i<|.cells v br):=by
 have hi:=kD ak trivial;have az:∀{j:Nat} {b:bD},(an H i (.cells v br))[j]?=some b->(j=i/\b=.cells v br)\/(j≠i/\H[j]?=some b):=by
  intro j b U;by_cases e:j=i
  ·grind [an,rB]
  ·rw[an,gS λq=>e q.symm]at U;exact .inr ⟨e,U⟩
 have T:∀{j:Nat} {b:bD},(an H i (.cells v br))[j]?=some b->b.live->∃V,H[j]?=some V/\V.live:=by
  intro j b U S;rcases az U with⟨rfl,rfl⟩|⟨_,h⟩
  ·exact⟨_,hi,trivial⟩
  ·exact⟨_,h,S⟩
 refine⟨O.j0,by simp[an,O.n],O.lt,λj k b V U hk S eC Z gj he=>?_,λk hk=>?_,λj b U=>?_⟩
 ·obtain⟨aW,g1,g2⟩:=T U S;obtain⟨bA,g3,g4⟩:=T hk eC;exact O.inj j k aW bA g1 g3 g2 g4 Z gj he
 ·obtain⟨h1,h2⟩:=O.st k hk;refine⟨h1,λj b U S Z=>?_⟩;obtain⟨aW,g1,g2⟩:=T U S;exact h2 j aW g1 g2 Z
 ·rcases az U with⟨rfl,rfl⟩|⟨_,h⟩
  ·cases(O.rep j _ hi)with
   |cells _ _ vs e bH I aR bC cD ej kr=>
    refine .cells _ _ vs e bH I aR bC gf ej λm y u aJ hu=>?_;have gP:=(cu.1 aJ).1;have J:cs[m]?=some (cs[m]'(by omega)):=dn gf
    exact(kr m _ u J hu).aSn<|hs m _ y J aJ
   |void _ I aR=>
    have:=iL<|oq hl.symm
    subst this;exact .void _ I aR
  ·exact O.rep j b h
theorem Lu(i)(br)(J:az H i=.cells v cs)(hl:cs.length=br.length)(hs:∀(i:Nat) (x y),cs[i]?=some x->br[i]?=some y->eT x y)(h:cF P N code Q α (an H i<|.cells v br)):cF P N code Q α H:=
 λr c a U O S=>h r c a U (O.aSo J hl hs) S
theorem xU(t s:Nat)(J:look α t=.sl true [])(h:cF P N code Q ((t,.osl s H.length 1 0 0 0)::α) (H++[.cells 1 []])):cF P N code Q α H:=by
 intro r c a U O S;have T:=Ext.void c;refine wpIn_mono (h r c.void a U O.void ⟨S.size,S.defers.mono T,λu=>?_⟩) λ_ _ _ ⟨c',V,H',ax,Z,aU,bf,I⟩=>⟨c',V,H',ax,Z,T.trans aU,bf,I⟩;rw[look];by_cases e:t=u
 ·subst e;rw[beq_self_eq_true,tM];have U:=S.rep t;rw[J]at U;generalize a.tmps.getD t undef=val at U;cases U with
  |sl _ _ base len cap oY vs h1 h2 h3 h4 b6 dP lE=>have my:=h3 rfl;subst h1;subst my;exact .osl _ _ _ _ _ _ _ (by simp[Ctx.void,O.n]) (by simp[Ctx.void,O.n]) rfl gf (λ_ _=>⟨rfl,rfl,base,rfl⟩) λ_ hd=>by simp[Ctx.void,O.n]at hd
 ·have aa:(t==u)=false:=oq e;rw[aa];exact(S.rep u).mono T
inductive b9:I->Prop
 |int (k n):b9 (.int k n)
 |bool (b):b9 (.bool b)
 |str (s):b9 (.str s)
 |agg (cs:List I) (h:∀x∈cs,b9 x):b9 (.agg cs)
 |aN (cs:List I) (h:∀x∈cs,b9 x):b9 (.aN cs)
 |sl (f) (es:List I) (h:∀x∈es,b9 x):b9 (.sl f es)
 |dX:b9 .dX
 |iI:b9 .iI
 |ef:b9 .ef
 |iface (t x) (h:b9 x):b9 (.iface t x)
 |nilIface:b9 .nilIface
 |top:b9 .top
theorem b9.cells{x:I}(h:b9 x):∀y∈x.cells,b9 y:=by grind [I.cells,dH,b9]
theorem b9.cl{x:I}(h:b9 x)(n):cN n x:=by
 induction h with
 |int k m=>exact .int k m
 |bool b=>exact .bool b
 |str s=>exact .str s
 |agg cs _ U=>exact .agg cs λi x J=>U x<|dy J
 |aN cs _ U=>exact .aN cs λi x J=>U x<|dy J
 |sl f es _ U=>
  refine .sl f es λk e j x hk S=>?_;have key:∀e,cN n e->∀x∈e.cells,cN n x:=by
   intro e he x J;cases e with
   |agg cs=>cases he with|agg _ O=>obtain⟨i,hi⟩:=zi J;exact O i x hi
   |_=>simp[I.cells]at J;subst J;exact he
  grind
 |dX=>exact .dX
 |iI=>exact .iI
 |ef=>exact .ef
 |iface t x _ U=>exact .iface t x U
 |nilIface=>exact .nilIface
 |top=>exact .top
section
variable (k:IntKind) (n:Int) (b f:Bool) (s:List UInt8) (cs:List I) (t:TypeId) (x:I)
def Cd(l:List I):Prop:=∀x∈l,b9 x
section
variable {α:Type}
@[go_sem] theorem aWZ(k)(n):b9 (.int k n)=True:=b1<|.int k n
@[go_sem] theorem aWM(b):b9 (.bool b)=True:=b1<|.bool b
@[go_sem] theorem aW0(s):b9 (.str s)=True:=b1<|.str s
@[go_sem] theorem aWN:b9 .nilIface=True:=b1 .nilIface
@[go_sem] theorem aW1(cs):b9 (.agg cs)=Cd cs:=propext ⟨λh=>by cases h;assumption,.agg cs⟩
@[go_sem] theorem aW2(cs):b9 (.aN cs)=Cd cs:=propext ⟨λh=>by cases h;assumption,.aN cs⟩
@[go_sem] theorem aXf(f)(cs):b9 (.sl f cs)=Cd cs:=propext ⟨λh=>by cases h;assumption,.sl f cs⟩
@[go_sem] theorem aWF(t)(x):b9 (.iface t x)=b9 x:=propext ⟨λh=>by cases h;assumption,.iface t x⟩
@[go_sem] theorem aWO:Cd []=True:=b1 λ_ h=>j9
@[go_sem] theorem aWG(x)(l):Cd (x::l)=(b9 x/\Cd l):=propext List.forall_mem_cons
@[go_sem] theorem aWP(f)(l:List α)(h:∀x,b9<|f x):Cd (l.map f)=True:=b1 λx J=>j9
end
end
theorem eT.qR{n:Nat}{x y:I}(h:eT x y):b9 x->cJ n H x y:=by
 induction h with
 |refl x=>exact λad=>.cl x<|ad.cl n
 |sl f es=>exact λad=>.Kc f es<|ad.cl n
 |agg cs br hl _ U=>exact λad=>.agg cs br hl λi x y J O=>U i x y J O (by cases ad with|agg _ h=>exact h x<|dy J)
 |aN cs br hl _ U=>exact λad=>.aN cs br hl λi x y J O=>U i x y J O (by cases ad with|aN _ h=>exact h x<|dy J)
 |iface t x y _ U=>exact λad=>.iface t x y<|U (by cases ad with|iface _ _ h=>exact h)
 |top x=>exact λ_=>.any x
theorem done{n:Nat}{v x:I}(ad:b9 v)(hs:eT v x):∃J y,H++L=H++J/\cJ n (H++L) v y/\y=x:=⟨L,x,rfl,hs.qR ad,rfl⟩
theorem Cb{n:Nat}{v x:I}(ad:b9 v)(hs:eT v x):∃J y,H=H++J/\cJ n H v y/\y=x:=⟨[],x,(cE H).symm,hs.qR ad,rfl⟩
theorem Qf{n:Nat}{v x:I}(a7:H++L=G)(ad:b9 v)(hs:eT v x):∃J y,G++M=H++J/\cJ n (G++M) v y/\y=x:=⟨L++M,x,j9,hs.qR ad,rfl⟩
theorem PG{n:Nat}{v x:I}(a7:H++L=G)(ad:b9 v)(hs:eT v x):∃J y,G=H++J/\cJ n G v y/\y=x:=⟨L,x,a7.symm,hs.qR ad,rfl⟩
theorem aLW(a7:H++L=G):G++M=H++(L++M):=j9
theorem q8{n:Nat}{s k:Nat}(af:n<=i)(O:az H i=.cells v cs)(S:cs=es.flatMap I.cells++rest)(hk:es.length=k)(hs:∀e∈es,e.cells.length=s)(ad:∀e∈es,b9 e):
  cJ n H (.osl s i v 0 k lc) (.sl false es):=by
 have T:=J9 hs;refine .osl s i v 0 k lc cs es af O hk j9 hs λk j e x y he U J=>?_;have h1:=Bc hs he U;rw[lr,S,jc<|(cu.1 h1).1,h1]at J;cases J;exact .cl _<|(b9.cells (ad e (dy he)) _ (dy U)).cl n
theorem uV{s k:Nat}{x:I}(af:H.length<=i)(U:az (H++L) i=.cells v cs)(O:cs=es.flatMap I.cells++rest)(hk:es.length=k)(hs:∀e∈es,e.cells.length=s)(ad:∀e∈es,b9 e)(J:x=.sl false es):
  ∃S y,H++L=H++S/\cJ H.length (H++L) (.osl s i v 0 k lc) y/\y=x:=⟨L,x,rfl,by rw[J];exact q8 af U O hk hs ad,rfl⟩
def ed(n:Nat):bD->Prop
 |.cells _ cs|.dc _ _ cs=>∀x∈cs,cN n x
 |.map es _=>∀p∈es,cN n p.1/\cN n p.2.1
 |.iY m _ _ _=>m<n
 |.loop _ α _ _ _ _ _ _=>∀t,cN n<|look α t
 |_=>True
theorem bm.Fg(h:bm c H){b:bD}(hi:H[i]?=some b):ed c.n b:=by
 cases h.rep i b hi with
 |cells ba cs vs e V _ _ _ hl _ U=>exact λx J=>let⟨j,O⟩:=zi J;(U j x _ O (lq j9)).cl
 |void|pE=>exact λx J=>nP
 |dc _ ba cs vs _ _ _ hl _ U=>exact λx J=>let⟨j,O⟩:=zi J;(U j x _ O (lq j9)).cl
 |map es clock c8 _ _ _ hl U=>exact λp ad=>let⟨j,O⟩:=zi ad;let⟨S,T,_⟩:=U j p _ O (lq (oC<|(cu.1 O).1));⟨S.cl,T.cl⟩
 |iY m _ _ _ _ _ hm=>exact hm
 |mI=>trivial
 |loop _ _ _ _ _ _ _ _ _ _ _ _ _ _ _ _ U=>exact λt=>(U t).cl
 |gone=>trivial
theorem bm.Fk{n:Nat}(af:n=H.length)(S:bm c (H++L))(eG:∀(i:Nat) (b:bD),H[i]?=some b->ed n b):bm (c.drop n) H where
 j0:=S.j0.drop n
 n:=af
 lt:=λi hi hd=>by have dB:i<n:=hi;exact S.lt i (by rw[S.n];simp;omega) hd
 inj:=λi j b cR hi V Z eC sY fB he=>by have h1:=(cu.1 hi).1;have h2:=(cu.1 V).1;exact S.inj i j b cR j9 j9 Z eC sY fB he
 st:=λk hk=>by
  have ig:=S.n;rw[bw]at ig;rcases hk with hk|⟨i,h1,h2,h3,rfl⟩
  ·obtain⟨I,aR⟩:=S.st k hk;exact⟨I,λj b V Z hd=>aR j b (by rw[jc (cu.1 V).1];exact V) Z hd⟩
  ·refine⟨S.lt i h2 h3,λj b V Z hd e=>?_⟩;have nu:=(cu.1 V).1;have av:i<(H++L).length:=by rw[bw];omega
   have hi:=dn av;by_cases y5:((H++L)[i]).live
   ·have:=S.inj j i b _ j9 hi Z y5 hd h3 e;omega
   ·have T:=S.rep i _ hi;generalize(H++L)[i]=bi at T y5;cases T with
    |gone gN=>rw[h3]at gN;cases gN
    |_=>exact y5 trivial
 rep:=λi b hi=>by
  have dB:=(cu.1 hi).1;have h1:=S.rep i b<|by rw[jc dB];exact hi
  have h2:=eG i b hi;cases h1 with
  |cells ba cs vs e bH U hd O hl aA T=>exact .cells ba cs vs e bH U hd O hl aA λj x v J kM=>(T j x v J kM).drop<|h2 x (dy J)
  |void ba U hd=>exact .void ba U hd
  |dc t ba cs vs U hd O hl a1 T=>exact .dc t ba cs vs U hd O hl a1 λj x v J kM=>(T j x v J kM).drop<|h2 x (dy J)
  |pE t ba U hd=>exact .pE t ba U hd
  |map es clock c8 U hd O hl T=>exact .map es clock c8 U hd O hl λj p e ad he=>let⟨g1,g2,g3⟩:=T j p e ad he;let⟨I,aR⟩:=h2 p<|dy ad;⟨g1.drop I,g2.drop aR,g3⟩
  |iY m since seen kS U hd hm y9 FK O=>exact .iY m since seen kS U hd h2 y9 FK O
  |mI s pos U hd O ij=>exact .mI s pos U hd O ij
  |loop l α N st iq ps nr ec fn D ts U hd hl O eu T=>exact .loop l α N st iq ps nr ec fn D ts U hd hl O eu λt=>(T t).drop<|h2 t
  |gone hd=>exact .gone hd
theorem aF6{f:FuncId}(J:P.funcs[f]?=some fn)(U:fn.body=some code)(af:args.length<=fn.ntmps)
  (h:cF P fn.ntmps code (qp P fn.results.toList λv H'=>∃H1 L y,H'=H1++L/\H1.length=H.length/\(∀(i:Nat) (b:bD),H1[i]?=some b->H[i]?=some b\/ed H.length b)/\cJ H.length H' v y/\R y H1) (mV 0 args) H):cV P f args H R:=by
 intro c vs hs O;refine(F9 J U af h c vs hs O).mono λe w' ⟨c',x,v,H',ax,S,aU,bf,T,H1,L,y,V,Z,I,nO,hF⟩=>?_;subst V;refine⟨c'.drop c.n,y,v,H1,ax,S,bm.Fk (by rw[hs.n,Z]) aU λi b hi=>?_,bf.drop,?_,hF⟩
 ·rcases I i b hi with h|h
  ·exact hs.Fg h
  ·rw[hs.n];exact h
 ·have:=nO.sound aU T;rwa[<-hs.n]at this
theorem cN.mono{n m:Nat}(h:n<=m){x:I}(k:cN n x):cN m x:=by
 induction k with
 |int k n=>exact .int k n
 |bool b=>exact .bool b
 |str s=>exact .str s
 |agg cs _ J=>exact .agg cs J
 |aN cs _ J=>exact .aN cs J
 |sl f es _ J=>exact .sl f es J
 |cptr cs _ J=>exact .cptr cs J
 |ref i v off q=>exact .ref i v off gf
 |osl s i v off len lc q=>exact .osl s i v off len lc gf
 |dX=>exact .dX
 |map i q=>exact .map i gf
 |iI=>exact .iI
 |iter i q=>exact .iter i gf
 |func fn fs cs _ _ U O=>exact .func fn fs cs U O
 |ef=>exact .ef
 |iface t x _ J=>exact .iface t x J
 |nilIface=>exact .nilIface
 |opt g x _ J=>exact .opt g x J
 |top=>exact .top
theorem ed.mono{n m:Nat}(h:n<=m){b:bD}(k:ed n b):ed m b:=by
 cases b with
 |cells v cs=>exact λx J=>(k x J).mono h
 |dc=>exact λx J=>(k x J).mono h
 |map es cl=>exact λp ad=>⟨(k p ad).1.mono h,(k p ad).2.mono h⟩
 |iY=>exact tI k h
 |loop=>exact λt=>(k t).mono h
 |mI=>trivial
 |gone=>trivial
theorem Ext.aAo{c':Ctx}(h:Ext c c'){n:Nat}(af:c.n<=n):Ext c (c'.drop n):=
 ⟨af,h.size,λb J=>⟨.inl (h.st b J).1,(h.st b J).2⟩,h.ba,h.bo,h.os,h.tape,h.output,h.base⟩
theorem aEk{f:FuncId}(U:P.funcs[f]?=some fn)(O:fn.body=some code)(af:args.length<=fn.ntmps)
  (h:cF P fn.ntmps code (qp P fn.results.toList λv H'=>∃H1 L y,H'=H1++L/\H.length<=H1.length/\(∀(i:Nat) (b:bD),H1[i]?=some b->H[i]?=some b\/ed H1.length b)/\cJ H1.length H' v y/\R y H1) (mV 0 args) H):cV P f args H R:=by
 intro c vs hs S;refine(F9 U O af h c vs hs S).mono λe w' ⟨c',x,v,H',ax,T,aU,bf,V,H1,L,y,Z,J,I,nO,hF⟩=>?_;subst Z;refine⟨c'.drop H1.length,y,v,H1,ax,T,bm.Fk rfl aU λi b hi=>?_,bf.aAo (by rw[hs.n];exact J),nO.sound aU V,hF⟩
 rcases I i b hi with h|h
 ·exact(hs.Fg h).mono<|by rw[hs.n];exact J
 ·exact h
section before
variable (ops:Array Oper)
def np(listed:Array Bool):Prop:=∀q o,listed.getD q false=true->ops[q]?=some o->∀e∈o.after,Region.binds .any e=true->listed.getD e.on false=true
def rG(i q:Nat):Prop:=∀listed,np ops listed->listed.getD q false=true->listed.getD i false=true
def rE(i j:Nat):Prop:=∀listed,np ops listed->j∈Region.ready .any ops listed->listed.getD i false=true
def tF(i j:Nat):Bool:=
 match ops[j]? with
 |some o=>o.after.any λe=>Region.binds .any e&&e.on==i
 |none=>false
variable {ops}
theorem Vm(h:tF ops i j=true):∃o e,ops[j]?=some o/\e∈o.after/\Region.binds .any e=true/\e.on=i:=by grind [tF,Array.any_eq_true']
theorem rG.refl(i):rG ops i i:=λ_ _ h=>h
theorem rG.trans{k:Nat}(h:rG ops i j)(cz:rG ops j k):rG ops i k:=λl J hk=>h l J<|cz l J hk
theorem rG.dir(h:tF ops i j=true):rG ops i j:=λl J U=>by obtain⟨o,e,O,he,S,rfl⟩:=Vm h;exact J j o U O e he S
theorem rE.dir{q:Nat}(h:tF ops q j=true)(hl:rG ops i q):rE ops i j:=λl U O=>by obtain⟨o,e,S,he,T,rfl⟩:=Vm h;obtain⟨_,Z,J,V⟩:=mem_ready.1 O;rw[S]at J;cases J;exact hl l U<|V e he T
theorem np.set(T:np ops listed)(V:j∈Region.ready .any ops listed):np ops (listed.setIfInBounds j true):=by
 intro q o aM U e he O;by_cases J:j=q
 ·subst J;obtain⟨_,I,S,Z⟩:=mem_ready.1 V;rw[U]at S;cases S;exact getD_set_true<|Z e he O
 ·rw[getD_set_ne false J]at aM;exact getD_set_true<|T q o aM U e he O
theorem Dt(J:np ops listed)(hi:i∈Region.ready .any ops listed)(U:j∈Region.ready .any ops listed):¬rE ops i j:=λh=>by grind [mem_ready,BJ,KN,Nat,Array,Bool,np,Region.ready,rE]
end before
section tree
variable (P) (N:Nat) (ops:Array Oper) (eff:Nat->Bool)
abbrev tY:=List<|Nat×ab
abbrev il:=List<|Nat×(ab->Prop)
def ga(o:Oper)(α:a8)(v:I)(h cz:ab):Prop:=ea P N ops h o α λdG H'=>dG=v/\H'=cz
def tz(i:Nat)(K:a8->ab->tY->il->Prop)(α:a8)(H:ab)(bU:tY)(cn:il):Prop:=
 match ops[i]? with
 |none=>K α H bU cn
 |some o=>
  if eff i=true then ∃v H1,ga P N ops o α v H H1/\(∀p∈cn,¬rE ops p.1 i->p.2 H1)/\K (cP o.dst v α) H1 ((i,H)::bU) cn
  else ∃v,ga P N ops o α v H H/\(∀e∈bU,¬rE ops e.1 i->ga P N ops o α v e.2 e.2)/\K (cP o.dst v α) H bU ((i,λh=>ga P N ops o α v h h)::cn)
def tG(K:a8->ab->Prop):Nat->Array Bool->a8->ab->tY->il->Prop
 |0,listed,α,H,_,_=>Region.ready .any ops listed=[]/\K α H
 |fuel+1,listed,α,H,bU,cn=>(Region.ready .any ops listed=[]->K α H)/\∀i∈Region.ready .any ops listed,tz P N ops eff i (tG K fuel<|listed.setIfInBounds i true) α H bU cn
variable {P} {N} {ops} {eff}
theorem ga.alike{o:Oper}{α β:a8}{v:I}{h cz:ab}(J:Alike α β)(k:ga P N ops o α v h cz):ga P N ops o β v h cz:=ea.alike J k
theorem ga.put{v:I}{h:ab}(k:ga P N ops gZ α v h cz)(U:∀d,j5.dst=some d->d∉gZ.looksAt ops):ga P N ops gZ (cP j5.dst u α) v h cz:=
 λr c a next Q h1 h2 h3 hk=>k r c a next Q h1 h2 (λt ag=>by have:=h3 t ag;rwa[Nu λx J e=>U x J<|e▸ag]at this) hk
theorem ga.Bx{v:I}{h:ab}(k:ga P N ops gZ (cP j5.dst u α) v h cz)(U:∀d,j5.dst=some d->d∉gZ.looksAt ops):ga P N ops gZ α v h cz:=
 λr c a next Q h1 h2 h3 hk=>k r c a next Q h1 h2 (λt ag=>by
  rw[Nu λx J e=>U x J<|e▸ag]
  exact h3 t ag) hk
def zS(p q:il):Prop:=∀x∈q,∃y∈p,y.1=x.1/\∀h,y.2 h->x.2 h
theorem zS.refl(p):zS p p:=λx J=>⟨x,J,rfl,λ_ h=>h⟩
theorem zS.cons{p q:il}{i:Nat}{O S:ab->Prop}(h:∀x,O x->S x)(U:zS p q):zS ((i,O)::p) ((i,S)::q):=by
 intro x J;cases J with
 |head=>exact⟨_,.head _,rfl,h⟩
 |tail _ J=>obtain⟨y,T,h1,h2⟩:=U x J;exact⟨y,.tail _ T,h1,h2⟩
theorem zS.swap{p:il}{S U T O:ab->Prop}(h:∀x,S x->U x)(k:∀x,T x->O x):zS ((j,T)::(i,S)::p) ((i,U)::(j,O)::p):=by
 intro x J;cases J with
 |head=>simp_all
 |tail _ J=>
  cases J with
  |head=>exact⟨_,.head _,rfl,k⟩
  |tail _ J=>exact⟨x,.tail _<|.tail _ J,rfl,λ_ h=>h⟩
theorem Dh{K:a8->ab->Prop}(bL:∀α β H,Alike α β->K α H->K β H):∀(n:Nat) (listed:Array Bool) (α β:a8) (H:ab) (bU:tY) (cn U:il),Alike α β->zS cn U->
  tG P N ops eff K n listed α H bU cn->tG P N ops eff K n listed β H bU U
 |0,_,_,_,_,_,_,_,J,_,h=>⟨h.1,bL _ _ _ J h.2⟩
 |n+1,listed,α,β,H,bU,cn,U,J,ad,h=>by
  refine⟨λay=>bL _ _ _ J<|h.1 ay,λi hi=>?_⟩
  have:=h.2 i hi;unfold tz at this ⊢;split
  ·rename_i O;simp[O]at this;exact Dh bL n _ _ _ _ _ _ _ J ad this
  ·rename_i o O;simp only[O]at this;split
   ·rename_i he;rw[aC he]at this;obtain⟨v,H1,h1,h2,h3⟩:=this;refine⟨v,H1,h1.alike J,λp T S=>?_,Dh bL n _ _ _ _ _ _ _ (J.put _ _) ad h3⟩;obtain⟨y,V,ax,Z⟩:=ad p T;exact Z _<|h2 y V j9
   ·rename_i he;rw[ar he]at this;obtain⟨v,h1,h2,h3⟩:=this;exact⟨v,h1.alike J,λe I S=>(h2 e I S).alike J,Dh bL n _ _ _ _ _ _ _ (J.put _ _) (.cons (λ_ h=>h.alike J) ad) h3⟩
def Head(P:Program)(N:Nat)(ops:Array Oper)(eff:Nat->Bool)(i:Nat)(gZ:Oper)(v:I)(H1:ab)(α:a8)(H:ab)(bU:tY)(cn:il):Prop:=
 ga P N ops gZ α v H H1/\(eff i=true->∀p∈cn,¬rE ops p.1 i->p.2 H1)/\(eff i=false->H1=H/\∀e∈bU,¬rE ops e.1 i->ga P N ops gZ α v e.2 e.2)
theorem Head.tz{K:a8->ab->tY->il->Prop}{i:Nat}{gZ:Oper}{v:I}{H1:ab}{α:a8}{H:ab}{bU:tY}{cn:il}(hi:ops[i]?=some gZ)(h:Head P N ops eff i gZ v H1 α H bU cn)
  (hk:K (cP gZ.dst v α) H1 (if eff i=true then(i,H)::bU else bU) (if eff i=true then cn else(i,λh=>ga P N ops gZ α v h h)::cn)):tz P N ops eff i K α H bU cn:=by
 unfold Go.Proofs.YtnmamncmpklliaaGreatDoor.tz;simp only[hi];cases he:eff i with
 |true=>grind [Nat,Oper,Head,cP]
 |false=>rw[he]at hk;obtain⟨ax,J⟩:=h.2.2 he;subst ax;exact⟨v,h.1,J,hk⟩
theorem NH{K:a8->ab->Prop}(bL:∀α β H,Alike α β->K α H->K β H){v:I}(hi:ops[i]?=some gZ)(vJ:eff i=true->∀j,eff j=true->j≠i->∀listed,np ops listed->i∈Region.ready .any ops listed->j∈Region.ready .any ops listed->False):
  ∀(fuel) (listed) (α) (H H1) (bU) (cn),np ops listed->
   (∀j j5,ops[j]?=some j5->j≠i->listed.getD j true=false->(∀e∈j5.after,Region.binds .any e=true->e.on≠i)->gZ.apart ops j5=true)->
   i∈Region.ready .any ops listed->Head P N ops eff i gZ v H1 α H bU cn->
   tG P N ops eff K fuel (listed.setIfInBounds i true) (cP gZ.dst v α) H1 (if eff i=true then(i,H)::bU else bU) (if eff i=true then cn else(i,λh=>ga P N ops gZ α v h h)::cn)->
   tG P N ops eff K (fuel+1) listed α H bU cn:=by
 intro fuel;induction fuel with
 |zero=>
  intro listed α H H1 bU cn _ _ S T ak;refine⟨λh=>(by rw[h]at S;cases S),λj au=>?_⟩
  by_cases O:j=i
  ·subst O;exact T.tz hi ak
  ·have:=ready_mono au O;rw[ak.1]at this;cases this
 |succ fuel aB=>
  intro listed α H H1 bU cn eG I4 S T ak;refine⟨λh=>(by rw[h]at S;cases S),λj au=>?_⟩
  by_cases O:j=i
  ·subst O;exact T.tz hi ak
  ·have h1:=ak.2 j<|ready_mono au O;obtain⟨Jc,j5,Jj,fV⟩:=mem_ready.1 au;have M1:=Dt eG S au;have tc:∀e∈j5.after,Region.binds .any e=true->e.on≠i:=λe he U heq=>by
    have h1:=fV e he U;have ay:=(mem_ready.1 S).1;rw[heq]at h1;rcases BJ i listed.size with cz|cz
    ·simp[cz]at ay h1;rw[ay]at h1;cases h1
    ·simp[KN cz]at h1
   obtain⟨V,cL,Z⟩:=Oper.apart_spec<|I4 j j5 Jj O Jc tc;have I1:=eG.set au;have I5:∀k ok,ops[k]?=some ok->k≠i->(listed.setIfInBounds j true).getD k true=false->
     (∀e∈ok.after,Region.binds .any e=true->e.on≠i)->gZ.apart ops ok=true:=λk ok hk Jd Jr c9=>by
    refine I4 k ok hk Jd ?_ c9;by_cases CL:j=k
    ·subst CL;exact Jc
    ·rw[getD_set_ne true CL]at Jr;exact Jr
   have hL:=ready_mono S<|ka O;unfold tz at h1 ⊢;simp only[Jj]at h1 ⊢;cases CH:eff j with
   |true=>
    rw[CH,aC rfl]at h1;rw[aC rfl];obtain⟨u,BN,F6,r3,lJ⟩:=h1;cases J:eff i with
    |true=>exact(vJ J j CH O listed eG S au).elim
    |false=>
     obtain⟨ax,aq⟩:=T.2.2 J;subst ax;simp only[J,mM,gB]at r3 lJ;have aQC:=r3 (i,λh=>ga P N ops gZ α v h h) (.head _) M1;refine⟨u,BN,F6.Bx V,λp ad U=>r3 p (.tail _ ad) U,?_⟩;refine aB (listed.setIfInBounds j true) (cP j5.dst u α) BN BN ((j,H1)::bU) cn I1 I5 hL ⟨ga.put aQC Z,λh=>(by rw[J]at h;cases h),λ_=>⟨rfl,λe he U=>?_⟩⟩ ?_
     ·cases he with
      |head=>exact T.1.put Z
      |tail _ he=>exact(aq e he U).put Z
     ·simp only[J,mM,gB];rw[KP _ _ O];exact Dh bL _ _ _ _ _ _ _ _ (IJ cL) (.cons (λ_ h=>h.put Z)<|.refl _) lJ
   |false=>
    rw[CH,ar hW]at h1;rw[ar hW];obtain⟨u,F6,I7,lJ⟩:=h1;cases J:eff i with
    |true=>
     simp only[J,dW]at I7 lJ;have aQD:=(I7 (i,H) (.head _) M1).Bx V;refine⟨u,aQD,λe he U=>(I7 e (.tail _ he) U).Bx V,?_⟩;refine aB (listed.setIfInBounds j true) (cP j5.dst u α) H H1 bU _ I1 I5 hL ⟨T.1.put Z,λ_ p ad U=>?_,λh=>(by rw[J]at h;cases h)⟩ ?_
     ·cases ad with
      |head=>exact F6.Bx V
      |tail _ ad=>exact T.2.1 J p ad U
     ·simp only[J,dW];rw[KP _ _ O];exact Dh bL _ _ _ _ _ _ _ _ (IJ cL) (.cons (λ_ h=>h.Bx V)<|.refl _) lJ
    |false=>
     obtain⟨ax,aq⟩:=T.2.2 J;subst ax;simp only[J,mM,gB]at I7 lJ;refine⟨u,F6.Bx V,λe he U=>(I7 e he U).Bx V,?_⟩;refine aB (listed.setIfInBounds j true) (cP j5.dst u α) H1 H1 bU _ I1 I5 hL ⟨T.1.put Z,λh=>(by rw[J]at h;cases h),λ_=>⟨rfl,λe he U=>(aq e he U).put Z⟩⟩ ?_
     simp only[J,mM,gB];rw[KP _ _ O];exact Dh bL _ _ _ _ _ _ _ _ (IJ cL) (.swap (λ_ h=>h.put Z) λ_ h=>h.Bx V) lJ
def Ih(P:Program)(N:Nat)(ops:Array Oper)(eff:Nat->Bool)(K:a8->ab->Prop):List Oper->Nat->a8->ab->tY->il->Prop
 |[],_,α,H,_,_=>K α H
 |o::os,k,α,H,bU,cn=>∃v H1,Head P N ops eff k o v H1 α H bU cn/\
   Ih P N ops eff K os (k+1) (cP o.dst v α) H1 (if eff k=true then(k,H)::bU else bU) (if eff k=true then cn else(k,λh=>ga P N ops o α v h h)::cn)
theorem WI{K:a8->ab->Prop}(bL:∀α β H,Alike α β->K α H->K β H)(U:∀i j,eff i=true->eff j=true->j≠i->∀listed,np ops listed->i∈Region.ready .any ops listed->j∈Region.ready .any ops listed->False):
  ∀(l:List Oper) (k:Nat) (listed:Array Bool) (α:a8) (H:ab) (bU:tY) (cn:il),(∀j,l[j]?=ops[k+j]?)->np ops listed->
  Region.lexFrom .any ops l.length k listed=true->Ih P N ops eff K l k α H bU cn->tG P N ops eff K l.length listed α H bU cn
 |[],_,_,_,_,_,_,_,_,J,h=>⟨by simpa[Region.lexFrom]using J,h⟩
 |o::l,k,listed,α,H,bU,cn,hl,O,J,h=>by
  have ay:=by simpa using(hl 0).symm
  simp[Region.lexFrom]at J;obtain⟨⟨T,V⟩,Z⟩:=J;obtain⟨v,H1,I,hk⟩:=h;have S:=oq T;exact NH bL ay (λhe j au aT=>U k j he au aT) l.length listed α H H1 bU cn O (Region.free_spec ay V) S I
   (WI bL U l (k+1) _ _ _ _ _ (λj=>by have:=hl<|j+1;grind) (O.set S) Z hk)
theorem Np{r:Option Nat}{Q:Exit->Act->World->Prop}{K:a8->ab->Prop}(hd:tn N ops=true)(O:Ctx)(bL:∀α H c a,K α H->bm c H->Ext O c->iM c N α a->Q .normal a c.w):
  ∀(n:Nat) (listed:Array Bool) (α:a8) (H:ab) (bU:tY) (cn:il) (c:Ctx) (a:Act),bm c H->Ext O c->iM c N α a->tG P N ops eff K n listed α H bU cn->wpAnyIn (wf r) 0 P .any ops Q n listed a c.w
 |0,_,_,_,_,_,_,_,hs,J,U,h=>⟨h.1,bL _ _ _ _ h.2 hs J U⟩
 |n+1,listed,α,H,bU,cn,c,a,hs,J,U,h=>by
  refine⟨λay=>bL _ _ _ _ (h.1 ay) hs J U,λi hi=>?_⟩;have h1:=h.2 i hi;unfold tz at h1;unfold wpOpIn;split
  ·rename_i S;simp only[S]at h1;exact Np hd O bL n _ _ _ _ _ _ _ hs J U h1
  ·rename_i o S;simp only[S]at h1;have go:∀v H1 T V,ga P N ops o α v H H1->tG P N ops eff K n (listed.setIfInBounds i true) (cP o.dst v α) H1 T V->
     if Region.wanted o (yielded ops a.tmps)then o.wpIn (wf r) 0 P a c.w (wpAnyIn (wf r) 0 P .any ops Q n<|listed.setIfInBounds i true) Q else(∀f,o.about P c.w a.eval=some f->(wf r).fn f)/\wpAnyIn (wf r) 0 P .any ops Q n (listed.setIfInBounds i true) (a.put o.dst undef) c.w:=by
    intro v H1 T V Z hk;have:=Z r c a (wpAnyIn (wf r) 0 P .any ops Q n<|listed.setIfInBounds i true) Q hs U.size (λt _=>U.rep t) λc' x dG H' g1 g2 g3 g4=>by obtain⟨ax,I⟩:=g4;rw[I]at g1;rw[ax]at g3;exact Np hd O bL n _ _ _ _ _ _ _ g1 (J.trans g2) ((U.mono g2).put (fu.1 hd o j9) g3) hk
    by_cases hw:Region.wanted o (yielded ops a.tmps)=true
    ·rw[aC hw]at this ⊢;exact this
    ·rw[ar hw]at this ⊢;exact⟨λ_ _=>trivial,this⟩
   grind
end tree
section aOt
variable {ops:Array Oper}
def ra(ops:Array Oper):List Nat->Bool
 |a::b::l=>tF ops a b&&ra ops (b::l)
 |_=>true
theorem Gn:∀{a:Nat} {l:List Nat},ra ops (a::l)=true->∀j∈l,rE ops a j/\rG ops a j
 |a,[],_,j,U=>j9
 |a,b::l,h,j,U=>by
  rw[ra,dp]at h;cases U with
  |head=>exact⟨.dir h.1<|.refl _,.dir h.1⟩
  |tail _ U=>
   obtain⟨_,h2⟩:=Gn h.2 j U;have key:∀{b:Nat} {l:List Nat},ra ops (b::l)=true->∀x,rG ops x b->∀j∈l,rE ops x j:=by
    intro b l;induction l generalizing b with
    |nil=>intro _ x _ j U;cases U
    |cons c l O=>
     intro h x J j U;rw[ra,dp]at h;cases U with
     |head=>exact .dir h.1 J
     |tail _ U=>exact O h.2 x (J.trans<|.dir h.1) j U
   exact⟨key h.2 a (.dir h.1) j U,(rG.dir h.1).trans h2⟩
theorem Vh{a:Nat}{l:List Nat}(h:ra ops (a::l)=true):ra ops l=true:=by
 cases l with
 |nil=>rfl
 |cons b l=>rw[ra,dp]at h;exact h.2
theorem OZ:∀{l:List Nat},ra ops l=true->∀i j,i∈l->j∈l->j≠i->rE ops i j\/rE ops j i
 |[],_,i,_,hi,_,_=>j9
 |a::l,h,i,j,hi,J,U=>by
  cases hi with
  |head=>
   cases J with
   |head=>exact absurd rfl U
   |tail _ J=>exact .inl (Gn h j J).1
  |tail _ hi=>
   cases J with
   |head=>exact .inr (Gn h i hi).1
   |tail _ J=>exact OZ (Vh h) i j hi J U
end aOt
inductive cK where
 |aQ
 |ah (w:Nat)
 |bW (fs:List Bool)
def zq:Op->Bool
 |.move _|.assign _|.build _ _|.buildSlice _ _ _|.binOp _ _ _ _ _|.unOp _ _ _|.makeInterface _ _|.makeFunc _ _ _|.field _ _ _|.typeAssert _ _ _ _|.extract _ _|.pick _ _ _=>true
 |_=>false
def nC(P:Program)(all:List Oper)(h:ab)(o:Oper)(α:a8)(v:I):Prop:=
 match o with
 |⟨_,op,_,_,_,guard⟩=>
  match guard,op with
  |none,.pick x y z=>(kF true (bn α x) (bn α y) (bn α z)).s/\v=(kF true (bn α x) (bn α y) (bn α z)).v
  |none,.call ⟨.value f,xs,_⟩=>kb P (bn α f) (xs.toList.map (bn α)) h λdG H'=>dG=v/\H'=h
  |none,.call ⟨.invoke r m,xs,_⟩=>kb P (sZ P m (bn α r)) (xs.toList.map (bn α)) h λdG H'=>dG=v/\H'=h
  |none,op=>(cr P op (bn α) h).s/\(cr P op (bn α) h).H=h/\v=(cr P op (bn α) h).v
  |some (j,want),.pick x y z=>
   ja (bV α<|bQ all j)/\((cv (bV α<|bQ all j) want)=true->(kF (cv (bV α<|bQ all j) want) (bn α x) (bn α y) (bn α z)).s)/\
    v=.opt (cv (bV α<|bQ all j) want) (kF (cv (bV α (bQ all j)) want) (bn α x) (bn α y)<|bn α z).v
  |some (j,want),.call ⟨.value f,xs,_⟩=>
   ja (bV α<|bQ all j)/\ly (cv (bV α<|bQ all j) want) α (f::xs.toList)/\
    ∃u,(cv (bV α<|bQ all j) want=true->kb P (dF α f) (xs.toList.map<|dF α) h (λdG H'=>dG=u/\H'=h))/\v=.opt (cv (bV α<|bQ all j) want) u
  |some (j,want),op=>
   ja (bV α<|bQ all j)/\ly (cv (bV α<|bQ all j) want) α op.operands.toList/\((cv (bV α<|bQ all j) want)=true->(cr P op (dF α) h).s/\(cr P op (dF α) h).H=h)/\
    v=.opt (cv (bV α<|bQ all j) want) (cr P op (dF α) h).v
theorem nC.ga{h:ab}{v:I}(k:nC P ops.toList h o α v):ga P N ops o α v h h:=by
 obtain⟨dst,op,ty,pos,after,guard⟩:=o;dsimp only[nC]at k;split at k
 ·obtain⟨h1,rfl⟩:=k;exact ea.oa rfl<|Gf rfl rfl h1
 ·exact ea.oa rfl<|zf rfl k
 ·exact ea.oa rfl<|Ge rfl k
 ·obtain⟨h1,h2,rfl⟩:=k;exact(ea.oa rfl (yP h1)).mono λv H' ⟨ax,O⟩=>⟨ax,O.trans h2⟩
 ·obtain⟨h1,h2,rfl⟩:=k;exact ea.wz rfl h1 (bn α) (λc a _ hl x J=>pR λt ag=>hl t<|pP (by subst ag;exact J))
   (λU=>Gf rfl U<|h2 U)
 ·obtain⟨h1,h2,u,h3,rfl⟩:=k;exact ea.wz rfl h1 (dF α) (λc a U hl x J=>uo (pR λt ag=>hl t<|pP (by subst ag;exact J)) (sV h2 x<|by simpa[Op.operands,Call.operands]using J) U)
   (λU=>zf rfl<|h3 U)
 ·obtain⟨h1,h2,h3,rfl⟩:=k;exact ea.wz rfl h1 (dF α) (λc a U hl x J=>uo (pR λt ag=>hl t<|pP j9) (sV h2 x J) U)
   (λU=>(yP (h3 U).1).mono λv H' ⟨ax,O⟩=>⟨ax,O.trans (h3 U).2⟩)
theorem U0{op:Op}(J:zq op=true)(ρ:Operand->I)(h cz:ab):(cr P op ρ cz).s=(cr P op ρ h).s/\(cr P op ρ cz).v=(cr P op ρ h).v/\(cr P op ρ cz).H=cz:=by cases op<;>first|(simp[zq]at J;done)|exact⟨rfl,rfl,rfl⟩|skip
theorem JH{h:ab}{v:I}(J:zq o.op=true)(k:nC P all h o α v):nC P all cz o α v:=by
 obtain⟨dst,op,ty,pos,after,guard⟩:=o;dsimp only[nC]at k ⊢;split at k
 ·exact k
 ·simp[zq]at J
 ·simp[zq]at J
 ·obtain⟨ax,U,aU⟩:=U0 (P:=P) J (bn α) h cz;grind
 ·exact k
 ·simp[zq]at J
 ·obtain⟨ax,U,aU⟩:=U0 J (dF α) h cz;rw[<-ax,<-U]at k;exact⟨k.1,k.2.1,λO=>⟨(k.2.2.1 O).1,aU⟩,k.2.2.2⟩
def rL:List Bool->il->ab->Prop
 |true::fs,p::ps,h=>p.2 h/\rL fs ps h
 |false::fs,_::ps,h=>rL fs ps h
 |_,_,_=>True
def oU{α:Type}:List Bool->List α->List α
 |true::fs,p::ps=>p::oU fs ps
 |false::fs,_::ps=>oU fs ps
 |_,_=>[]
def vu:Nat->List ab->(ab->Prop)->Prop
 |n+1,h::hs,w1=>w1 h/\vu n hs w1
 |_,_,_=>True
def ZK(P:Program)(all:List Oper)(o:Oper)(α:a8)(H:ab):Prop:=
 match o.guard with
 |none=>(cr P o.op (bn α) H).s
 |some (j,want)=>ja (bV α<|bQ all j)/\ly (cv (bV α<|bQ all j) want) α o.op.operands.toList/\(cv (bV α<|bQ all j) want=true->(cr P o.op (dF α) H).s)
def ZL(P:Program)(all:List Oper)(o:Oper)(α:a8)(H:ab):I:=
 match o.guard with
 |none=>(cr P o.op (bn α) H).v
 |some (j,want)=>.opt (cv (bV α<|bQ all j) want) (cr P o.op (dF α) H).v
def ZM(P:Program)(all:List Oper)(o:Oper)(α:a8)(H:ab):ab:=
 match o.guard with
 |none=>(cr P o.op (bn α) H).H
 |some (j,want)=>bif cv (bV α<|bQ all j) want then(cr P o.op (dF α) H).H else H
theorem ea.aCB{v:I}{want:Bool}(O:o.guard=some (j,want))(S:ja (bV α<|bQ ops.toList j))
  (ρ) (hρ:∀(c) (a:Act),cv (bV α<|bQ ops.toList j) want=true->(∀t∈o.looksAt ops,aK c (look α t)<|a.tmps.getD t undef)->∀x∈o.op.operands.toList,aK c (ρ x)<|a.eval x)
  (h:cv (bV α<|bQ ops.toList j) want=true->pI P o ρ H (λJ H'=>J=v/\H'=H1)):
  ea P N ops H o α (λJ H'=>J=.opt (cv (bV α<|bQ ops.toList j) want) v/\H'=bif cv (bV α<|bQ ops.toList j) want then H1 else H):=by
 intro r c a next Q hs hsz hl hk
 rw[Tx O hl S];cases U:cv (bV α<|bQ ops.toList j) want with
 |true=>
  rw[U]at hk;refine h U r c a next Q hs (hρ c a U hl) λc' x J H' h1 h2 h3 h4=>?_
  obtain⟨rfl,rfl⟩:=h4;exact hk c' _ J _ h1 h2 (.opt _ _ _ (λ_=>h3) λh=>j9) ⟨rfl,rfl⟩
 |false=>rw[U]at hk;exact hk c _ undef H hs (Ext.refl c) (.opt _ _ _ (λh=>j9) λ_=>rfl) ⟨rfl,rfl⟩
theorem aIB(h:ZK P ops.toList o α H):ga P N ops o α (ZL P ops.toList o α H) H (ZM P ops.toList o α H):=by
 obtain⟨dst,op,ty,pos,after,guard⟩:=o;cases guard with
 |none=>exact ea.oa rfl<|yP h
 |some g=>
  obtain⟨h1,h2,h3⟩:=h;exact ea.aCB rfl h1 (dF α)
   (λc a U hl x J=>uo (pR λt ag=>hl t<|pP j9) (sV h2 x J) U)
   (λU=>yP<|h3 U)
def LU(P:Program)(all:List Oper)(o:Oper)(α:a8)(H:ab)(v:I)(H1:ab):Prop:=
 match o with
 |⟨_,.call ⟨.value f,xs,_⟩,_,_,_,none⟩=>kb P (bn α f) (xs.toList.map (bn α)) H λdG H'=>dG=v/\H'=H1
 |⟨_,.call ⟨.value f,xs,_⟩,_,_,_,some (j,want)⟩=>ja (bV α<|bQ all j)/\ly (cv (bV α<|bQ all j) want) α (f::xs.toList)/\
   ∃u,(cv (bV α<|bQ all j) want=true->kb P (dF α f) (xs.toList.map<|dF α) H (λdG H'=>dG=u/\H'=H1))/\(cv (bV α<|bQ all j) want=false->H1=H)/\v=.opt (cv (bV α<|bQ all j) want) u
 |o=>ZK P all o α H/\v=ZL P all o α H/\H1=ZM P all o α H
theorem Xp{v:I}(h:LU P ops.toList o α H v H1):ga P N ops o α v H H1:=by
 unfold LU at h;split at h
 ·exact ea.oa rfl<|zf rfl h
 ·obtain⟨h1,h2,u,h3,h4,rfl⟩:=h;refine ea.mono (ea.aCB rfl h1 (dF α) (λc a U hl x J=>uo (pR λt ag=>hl t<|pP j9) (sV h2 x<|by simpa[Op.operands,Call.operands]using J) U)
   (λU=>zf rfl<|h3 U)) λS H' ⟨ax,O⟩=>⟨ax,O.trans ?_⟩
  grind
 ·obtain⟨h1,rfl,rfl⟩:=h;exact aIB h1
def e8(P:Program)(all:List Oper):List cK->List Oper->Nat->a8->ab->List ab->il->(a8->ab->Prop)->Prop
 |[],[],_,α,H,_,_,ep=>ep α H
 |.aQ::ps,o::os,k,α,H,bU,cn,ep=>∃v,nC P all H o α v/\e8 P all ps os (k+1) (cP o.dst v α) H bU cn ep
 |.ah w::ps,o::os,k,α,H,bU,cn,ep=>∃v,nC P all H o α v/\vu w bU (λh=>nC P all h o α v)/\
   e8 P all ps os (k+1) (cP o.dst v α) H bU ((k,λh=>nC P all h o α v)::cn) ep
 |.bW fs::ps,o::os,k,α,H,bU,cn,ep=>∃v H1,LU P all o α H v H1/\rL fs cn H1/\
   e8 P all ps os (k+1) (cP o.dst v α) H1 (H::bU) (oU fs cn) ep
 |_,_,_,_,_,_,_,_=>False
def z1(d:Nat->Bool):List Bool->List Nat->Bool
 |[],ps=>ps.all d
 |f::fs,p::ps=>(f||d p)&&z1 d fs ps
 |_::_,[]=>false
def x2(ops:Array Oper):List Oper->List cK->Nat->List Nat->List Nat->Bool
 |[],[],_,_,_=>true
 |o::os,.aQ::ps,k,fU,cn=>zq o.op&&x2 ops os ps (k+1) fU cn
 |_::os,.ah w::ps,k,fU,cn=>(match fU[w]? with|some e=>tF ops e k|none=>true)&&x2 ops os ps (k+1) fU (k::cn)
 |_::os,.bW fs::ps,k,fU,cn=>(match fU with|e::_=>tF ops e k|[]=>true)&&z1 (λx=>tF ops x k) fs cn&&x2 ops os ps (k+1) (k::fU) (oU fs cn)
 |_,_,_,_,_=>false
def mu:List cK->Nat->List Nat
 |[],_=>[]
 |.bW _::ps,k=>k::mu ps (k+1)
 |_::ps,k=>mu ps<|k+1
theorem Df:∀(pl:List cK) (k i:Nat),i∈mu pl k->k<=i
 |[],_,_,h=>p2 h
 |.bW _::ps,k,i,h=>by
  cases h with
  |head=>exact bh _
  |tail _ h=>exact e1 (oi _)<|Df ps (k+1) i h
 |.aQ::ps,k,i,h=>e1 (oi _)<|Df ps (k+1) i h
 |.ah _::ps,k,i,h=>e1 (oi _)<|Df ps (k+1) i h
theorem Vn{U:ab->Prop}:∀{w:Nat} {hs:List ab},vu w hs U->∀i h,i<w->hs[i]?=some h->U h
 |0,_,_,_,_,hi,_=>absurd hi<|Nat.not_lt_zero _
 |w+1,[],_,i,h,_,J=>j9
 |w+1,g::hs,k,0,h,_,J=>by simp at J;subst J;exact k.1
 |w+1,g::hs,k,i+1,h,hi,J=>Vn k.2 i h (Nat.lt_of_succ_lt_succ hi) j9
def D4(ops:Array Oper):List Nat->Prop
 |a::b::l=>tF ops b a=true/\D4 ops (b::l)
 |_=>True
theorem D4.tail{a:Nat}{l:List Nat}(h:D4 ops (a::l)):D4 ops l:=by
 cases l with
 |nil=>trivial
 |cons b l=>exact h.2
theorem Uj{ops:Array Oper}:∀{l:List Nat},D4 ops l->∀(p q a b:Nat),p<=q->l[p]?=some a->l[q]?=some b->rG ops b a
 |[],_,p,_,_,_,_,h,_=>by simp at h
 |x::l,J,0,0,a,b,_,h1,h2=>by simp at h1 h2;subst h1;subst h2;exact .refl _
 |x::l,J,p+1,0,_,_,h,_,_=>absurd h<|Nat.not_succ_le_zero p
 |x::l,J,p+1,q+1,a,b,h,h1,h2=>Uj J.tail p q a b (Nat.le_of_succ_le_succ h) j9 j9
 |x::l,J,0,q+1,a,b,_,h1,h2=>by
  simp at h1;subst h1;cases l with
  |nil=>simp at h2
  |cons y l=>exact(Uj J.tail 0 q y b (cb _) hW j9).trans<|.dir J.1
theorem Uk{ops:Array Oper}{k:Nat}{h:ab}:∀{fs:List Bool} {ps:il},rL fs ps h->z1 (λx=>tF ops x k) fs (ps.map (·.1))=true->∀p∈ps,p.2 h\/tF ops p.1 k=true
 |[],_,_,J,_,ad=>.inr<|fu.1 J _ (BF ad)
 |_::_,[],_,_,_,ad=>p2 ad
 |true::fs,q::ps,U,J,p,ad=>by
  cases ad with
  |head=>exact .inl U.1
  |tail _ ad=>exact Uk U.2 (by simpa[z1]using J) p ad
 |false::fs,q::ps,U,J,p,ad=>by
  simp only[dO,z1,DT,dp]at J;cases ad with
  |head=>exact .inr J.1
  |tail _ ad=>exact Uk (show rL fs ps h from U) J.2 p ad
theorem Ul{β:Type}(f:(Nat×(ab->Prop))->β):∀(fs:List Bool) (ps:il),(oU fs ps).map f=oU fs (ps.map f)
 |[],ps=>rfl
 |true::fs,[]=>rfl
 |false::fs,[]=>rfl
 |true::fs,p::ps=>by simp[oU,Ul f fs ps]
 |false::fs,p::ps=>by simp[oU,Ul f fs ps]
theorem TU{ops:Array Oper}{k:Nat}:∀{fs:List Bool} {ps:il},z1 (λx=>tF ops x k) fs (ps.map (·.1))=true->∀p∈ps,p∈oU fs ps\/tF ops p.1 k=true
 |[],_,J,_,ad=>.inr<|fu.1 J _ (BF ad)
 |_::_,[],_,_,ad=>p2 ad
 |true::fs,q::ps,J,p,ad=>by
  cases ad with
  |head=>exact .inl<|.head _
  |tail _ ad=>exact(TU (by simpa[z1]using J) p ad).imp (.tail _) id
 |false::fs,q::ps,J,p,ad=>by
  simp only[dO,z1,DT,dp]at J;cases ad with
  |head=>exact .inr J.1
  |tail _ ad=>exact(TU J.2 p ad).imp id id
def aKB(ops:Array Oper)(fU:List Nat)(lk sp:il):Prop:=
 ∀p∈lk,(∃e l,fU=e::l/\rG ops p.1 e)\/(∀h,p.2 h)\/∃q∈sp,q.1=p.1/\∀h,q.2 h->p.2 h
theorem Nv{N:Nat}{ops:Array Oper}{Z:List cK}{K:a8->ab->Prop}(eu:True):
  ∀(os:List Oper) (pl:List cK) (k:Nat) (α:a8) (H:ab) (J:List Nat) (bU:List ab) (S sp:il),x2 ops os pl k J (sp.map (·.1))=true->
   (∀i,k<=i->(i∈mu Z 0↔i∈mu pl k))->J.length=bU.length->D4 ops J->aKB ops J S sp->
   e8 P ops.toList pl os k α H bU sp K->Ih P N ops (λi=>(mu Z 0).contains i) K os k α H (J.zip bU) S
 |[],[],_,_,_,_,_,_,_,_,_,_,_,_,h=>h
 |o::os,.aQ::pl,k,α,H,J,bU,S,sp,ad,he,hl,T,U,h=>by
  rw[x2,dp]at ad;obtain⟨v,h1,h2⟩:=h;have I:(mu Z 0).contains k=false:=by rw[<-yq,G9,he k<|bh _];intro hm;have:=Df pl (k+1) k hm;omega
  refine⟨v,H,⟨h1.ga,λq=>Bool.noConfusion<|I.symm.trans q,λ_=>⟨rfl,λe _ _=>(JH ad.1 h1).ga⟩⟩,?_⟩
  simp only[I,mM,gB];refine Nv eu os pl (k+1) _ H J bU _ sp ad.2 (λi hi=>he i gf) hl T ?_ h2;intro p O;cases O with
  |head=>exact .inr<|.inl λh=>(JH ad.1 h1).ga
  |tail _ O=>exact U p O
 |o::os,.ah w::pl,k,α,H,J,bU,S,sp,ad,he,hl,T,U,h=>by
  rw[x2,dp]at ad;obtain⟨v,h1,h2,h3⟩:=h;have I:(mu Z 0).contains k=false:=by rw[<-yq,G9,he k<|bh _];intro hm;have:=Df pl (k+1) k hm;omega
  refine⟨v,H,⟨h1.ga,λq=>Bool.noConfusion<|I.symm.trans q,λ_=>⟨rfl,λe rZ aa=>?_⟩⟩,?_⟩
  ·obtain⟨i,hi⟩:=List.getElem?_of_mem rZ;rw[List.getElem?_zip_eq_some]at hi;by_cases hw:i<w
   ·exact(Vn h2 i e.2 hw hi.2).ga
   ·have hle:=(cu.1 hi.1).1;have uH:J[w]?=some (J[w]'(by omega)):=dn gf
    rw[uH]at ad;exact absurd (.dir ad.1<|Uj T w i _ _ gf uH hi.1) aa
  ·simp only[I,mM,gB];refine Nv eu os pl (k+1) _ H J bU _ _ (oq ad.2) (λi hi=>he i gf) hl T ?_ h3;intro p O;cases O with
   |head=>exact .inr<|.inr ⟨_,.head _,rfl,λh ak=>ak.ga⟩
   |tail _ O=>
    rcases U p O with q|q|⟨q,aM,V,aR⟩
    ·exact .inl q
    ·exact .inr<|.inl q
    ·exact .inr<|.inr ⟨q,.tail _ aM,V,aR⟩
 |o::os,.bW fs::pl,k,α,H,J,bU,S,sp,ad,he,hl,T,U,h=>by
  simp only[x2,dp]at ad;obtain⟨⟨jM,a1⟩,Sl⟩:=ad;obtain⟨v,H1,h1,h2,h3⟩:=h;have rZ:(mu Z 0).contains k=true:=by rw[G9,he k<|bh _];exact .head _
  refine⟨_,_,⟨Xp h1,λ_ p O aa=>?_,λq=>Bool.noConfusion<|rZ.symm.trans q⟩,?_⟩
  ·rcases U p O with⟨e,l,vR,q⟩|q|⟨q,aM,V,aR⟩
   ·rw[vR]at jM;exact absurd (.dir jM q) aa
   ·exact q _
   ·rcases Uk h2 a1 q aM with r|r
    ·exact aR _ r
    ·rw[V]at r;exact absurd (.dir r<|.refl _) aa
  ·simp only[rZ,dW];refine Nv eu os pl (k+1) _ _ (k::J) (H::bU) S _ (by rw[Ul];exact Sl) (λi hi=>?_) (by simp[hl]) ?_ ?_ h3
   ·rw[he i gf];constructor
    ·intro hm;cases hm with
     |head=>omega
     |tail _ hm=>exact hm
    ·exact .tail _
   ·cases J with
    |nil=>trivial
    |cons e l=>exact⟨jM,T⟩
   ·intro p O;rcases U p O with⟨e,l,vR,q⟩|q|⟨q,aM,V,aR⟩
    ·rw[vR]at jM;exact .inl ⟨k,J,rfl,q.trans<|.dir jM⟩
    ·exact .inr<|.inl q
    ·rcases TU a1 q aM with r|r
     ·exact .inr<|.inr ⟨q,r,V,aR⟩
     ·rw[V]at r;exact .inl ⟨k,J,rfl,.dir r⟩
theorem Vi{k k':a8->ab->Prop}(hk:∀α H,k α H->k' α H)(pl:List cK):∀(l:List Oper) (n:Nat) (α:a8) (H:ab) (bU:List ab) (cn:il),e8 P all pl l n α H bU cn k->e8 P all pl l n α H bU cn k':=by
 induction pl with
 |nil=>grind [List,Oper,Nat,e8]
 |cons p ps J=>
  intro l n α H bU cn h;cases l with
  |nil=>cases p<;>exact h
  |cons o os=>
   cases p with
   |aQ=>grind [List,Oper,Nat,e8]
   |ah w=>obtain⟨v,h1,h2,h3⟩:=h;grind [List,Oper,Nat,e8]
   |bW fs=>obtain⟨v,H1,h1,h2,h3⟩:=h;exact⟨v,H1,h1,h2,J _ _ _ _ _ _ h3⟩
theorem aDr{id:Nat}(J:List cK)(hm:P.follows .mixedOrders=true)(hd:tn N ops=true)(T:Region.lexB .any ops=true)
  (ad:(x2 ops ops.toList J 0 [] []&&ra ops (mu J 0))=true) (h:e8 P ops.toList J ops.toList 0 α H [] [] (λU H'=>Q .normal U H')):cF P N (.region id ops true) Q α H:=by
 intro r c a _ hs V;simp only[Region.lexB,dp]at T ad;refine wpIn_region_any hm ?_;have h1:=Vi (k':=λU H'=>∃β,Alike U β/\Q .normal β H') (λU H' aM=>⟨U,λ_=>rfl,aM⟩) _ _ _ _ _ _ _ h;have h2:=Nv (N:=N) trivial ops.toList J 0 α H [] [] [] [] ad.1 (λ_ _=>Iff.rfl) rfl trivial (λp ad=>p2 ad) h1;have Z:∀i j,(mu J 0).contains i=true->(mu J 0).contains j=true->j≠i->∀listed,np ops listed->i∈Region.ready .any ops listed->j∈Region.ready .any ops listed->False:=by
  intro i j hi I aT listed S h1 h2;rcases OZ ad.2 i j (G9.1 hi) (G9.1 I) aT with q|q
  ·exact Dt S h1 h2 q
  ·exact Dt S h2 h1 q
 have y0:np ops (Array.replicate ops.size false):=by intro q o aM;rw[He]at aM;grind
 have h4:=Np (r:=r) (Q:=vq N c Q) hd c (λU H' c' cQ ⟨β,O,aM⟩ gk fW s5=>⟨c',β,H',rfl,gk,fW,s5.weaken λt=>.inr (O t).symm,aM⟩)
  ops.toList.length (Array.replicate ops.size false) α H _ _ c.draw a hs.draw (Ext.draw c) (V.mono<|Ext.draw c) (WI (λα β H O ⟨Ho,aP,aM⟩=>⟨Ho,λt=>(O t).symm.trans<|aP t,aM⟩) Z ops.toList 0 (Array.replicate ops.size false) α H _ _ hW y0 j9 h2)
 exact h4
theorem aN0{b:I}:(∃v,(A/\B/\v=b)/\X v)=(A/\B/\X b):=
 propext ⟨fun⟨_,⟨h1,h2,e⟩,x⟩=>⟨h1,h2,e▸x⟩,fun⟨h1,h2,x⟩=>⟨b,⟨h1,h2,rfl⟩,x⟩⟩
theorem aN1{b:I}:(∃v,(A/\B/\C/\v=b)/\X v)=(A/\B/\C/\X b):=
 propext ⟨fun⟨_,⟨h1,h2,h3,e⟩,x⟩=>⟨h1,h2,h3,e▸x⟩,fun⟨h1,h2,h3,x⟩=>⟨b,⟨h1,h2,h3,rfl⟩,x⟩⟩
theorem aN2{b:I}:(∃v,(A/\B/\v=b)/\W v/\X v)=(A/\B/\W b/\X b):=
 propext ⟨fun⟨_,⟨h1,h2,e⟩,y,x⟩=>⟨h1,h2,e▸y,e▸x⟩,fun⟨h1,h2,y,x⟩=>⟨b,⟨h1,h2,rfl⟩,y,x⟩⟩
theorem aN3{b:I}:(∃v,(A/\B/\C/\v=b)/\W v/\X v)=(A/\B/\C/\W b/\X b):=
 propext ⟨fun⟨_,⟨h1,h2,h3,e⟩,y,x⟩=>⟨h1,h2,h3,e▸y,e▸x⟩,fun⟨h1,h2,h3,y,x⟩=>⟨b,⟨h1,h2,h3,rfl⟩,y,x⟩⟩
theorem aAv{b:I}{W:ab->Prop}{X:I->ab->Prop}:(∃v H1,(A/\v=b/\H1=G)/\W H1/\X v H1)=(A/\W G/\X b G):=
 propext ⟨fun⟨_,_,⟨h1,e,J⟩,y,x⟩=>j9,fun⟨h1,y,x⟩=>⟨b,G,⟨h1,rfl,rfl⟩,y,x⟩⟩
attribute [go_sem] rL oU vu
@[go_sem] theorem aWf(ps h):rL [] ps h=True:=by cases ps<;>rfl
@[go_sem] theorem aV5{α:Type}(ps:List α):oU [] ps=[]:=by cases ps<;>rfl
def Ek(P:Program)(g:Bool)(f:I)(xs:List I)(H:ab)(K:I->ab->Prop):Prop:=
 ∃v H1,(g=true->kb P f xs H (λdG H'=>dG=v/\H'=H1))/\(g=false->H1=H)/\K v H1
def wu(P:Program)(g:Bool)(f:I)(xs:List I)(v:I):ab->Prop:=λh=>g=true->kb P f xs h (λdG H'=>dG=v/\H'=h)
def HY(P:Program)(g:Bool)(f:I)(xs:List I)(H:ab)(w:Nat)(bU:List ab)(K:I->Prop):Prop:=∃v,wu P g f xs v H/\vu w bU (wu P g f xs v)/\K v
section
variable (all os:List Oper) (pp:List cK) (w k:Nat) (fs:List Bool) (α:a8) (H:ab) (bU:List ab) (cn:il) (ep:a8->ab->Prop) (dst:Option Tmp) (ty:TypeId) (pos:String) (after:Array Edge)
def PO(P:Program)(all:List Oper)(pp:List cK)(os:List Oper)(k:Nat)(dst:Option Tmp)(α:a8)(H:ab)(bU:List ab)(cn:il)(ep:a8->ab->Prop)(f:I)(xs:List I):I->Prop:=
 λv=>e8 P all pp os (k+1) (cP dst v α) H bU ((k,wu P true f xs v)::cn) ep
def aKC(P:Program)(all:List Oper)(pp:List cK)(os:List Oper)(k:Nat)(dst:Option Tmp)(g:Bool)(α:a8)(H:ab)(bU:List ab)(cn:il)(ep:a8->ab->Prop)(f:I)(xs:List I):I->Prop:=
 λv=>e8 P all pp os (k+1) (cP dst (.opt g v) α) H bU ((k,wu P g f xs v)::cn) ep
@[go_sem] theorem aYT:e8 P all [] [] k α H bU cn ep=ep α H:=rfl
@[go_sem] theorem aWg(f)(xs)(ts):e8 P all (.ah w::pp) (⟨dst,.call ⟨.value f,xs,ts⟩,ty,pos,after,none⟩::os) k α H bU cn ep=
  HY P true (bn α f) (xs.toList.map<|bn α) H w bU (PO P all pp os k dst α H bU cn ep (bn α f)<|xs.toList.map (bn α)):=by
 have e:∀v,(λh=>nC P all h ⟨dst,.call ⟨.value f,xs,ts⟩,ty,pos,after,none⟩ α v)=wu P true (bn α f) (xs.toList.map<|bn α) v:=λv=>funext λh=>propext ⟨λk _=>k,λk=>k rfl⟩
 show(∃v,(λh=>nC P all h ⟨dst,.call ⟨.value f,xs,ts⟩,ty,pos,after,none⟩ α v) H/\vu w bU (λh=>nC P all h ⟨dst,.call ⟨.value f,xs,ts⟩,ty,pos,after,none⟩ α v)/\e8 P all pp os (k+1) (cP dst v α) H bU ((k,λh=>nC P all h ⟨dst,.call ⟨.value f,xs,ts⟩,ty,pos,after,none⟩ α v)::cn) ep)=_;simp[e,(λv=>congrFun (e v) H)];rfl
@[go_sem] theorem aV6(r)(m)(xs)(ts):e8 P all (.ah w::pp) (⟨dst,.call ⟨.invoke r m,xs,ts⟩,ty,pos,after,none⟩::os) k α H bU cn ep=
  HY P true (sZ P m<|bn α r) (xs.toList.map<|bn α) H w bU (PO P all pp os k dst α H bU cn ep (sZ P m (bn α r))<|xs.toList.map (bn α)):=by
 have e:∀v,(λh=>nC P all h ⟨dst,.call ⟨.invoke r m,xs,ts⟩,ty,pos,after,none⟩ α v)=wu P true (sZ P m<|bn α r) (xs.toList.map<|bn α) v:=λv=>funext λh=>propext ⟨λk _=>k,λk=>k rfl⟩
 show(∃v,(λh=>nC P all h ⟨dst,.call ⟨.invoke r m,xs,ts⟩,ty,pos,after,none⟩ α v) H/\vu w bU (λh=>nC P all h ⟨dst,.call ⟨.invoke r m,xs,ts⟩,ty,pos,after,none⟩ α v)/\e8 P all pp os (k+1) (cP dst v α) H bU ((k,λh=>nC P all h ⟨dst,.call ⟨.invoke r m,xs,ts⟩,ty,pos,after,none⟩ α v)::cn) ep)=_;simp[e,(λv=>congrFun (e v) H)];rfl
def Yq(P:Program)(all:List Oper)(pp:List cK)(os:List Oper)(k:Nat)(fs:List Bool)(dst:Option Tmp)(g:Bool)(α:a8)(H:ab)(bU:List ab)(cn:il)(ep:a8->ab->Prop):I->ab->Prop:=
 λv H1=>rL fs cn H1/\e8 P all pp os (k+1) (cP dst (.opt g v) α) H1 (H::bU) (oU fs cn) ep
def Yr(P:Program)(all:List Oper)(pp:List cK)(os:List Oper)(k:Nat)(fs:List Bool)(dst:Option Tmp)(α:a8)(H:ab)(bU:List ab)(cn:il)(ep:a8->ab->Prop):I->ab->Prop:=
 λv H1=>rL fs cn H1/\e8 P all pp os (k+1) (cP dst v α) H1 (H::bU) (oU fs cn) ep
@[go_sem] theorem aWh(f:Operand)(xs:Array Operand)(ts:Array TypeId):e8 P all (.bW fs::pp) (⟨dst,.call ⟨.value f,xs,ts⟩,ty,pos,after,none⟩::os) k α H bU cn ep=
  Ek P true (bn α f) (xs.toList.map<|bn α) H (Yr P all pp os k fs dst α H bU cn ep):=
 propext ⟨fun⟨v,H1,h1,h2⟩=>⟨v,H1,λ_=>h1,λh=>j9,h2⟩,fun⟨v,H1,h1,_,h2⟩=>⟨v,H1,h1 rfl,h2⟩⟩
@[go_sem] theorem aV7(f:Operand)(xs:Array Operand)(ts:Array TypeId)(j:Nat)(cU:Bool):e8 P all (.bW fs::pp) (⟨dst,.call ⟨.value f,xs,ts⟩,ty,pos,after,some (j,cU)⟩::os) k α H bU cn ep=
  (ja (bV α<|bQ all j)/\ly (cv (bV α<|bQ all j) cU) α (f::xs.toList)/\
   Ek P (cv (bV α<|bQ all j) cU) (dF α f) (xs.toList.map<|dF α) H (Yq P all pp os k fs dst (cv (bV α<|bQ all j) cU) α H bU cn ep)):=
 propext ⟨fun⟨_,H1,⟨h1,h2,u,h3,h4,rfl⟩,J⟩=>⟨h1,h2,u,H1,h3,h4,J⟩,fun⟨h1,h2,u,H1,h3,h4,J⟩=>⟨_,H1,⟨h1,h2,u,h3,h4,rfl⟩,J⟩⟩
@[go_sem] theorem aWQ(x y z:Operand):e8 P all (.aQ::pp) (⟨dst,.pick x y z,ty,pos,after,none⟩::os) k α H bU cn ep=
  ((kF true (bn α x) (bn α y) (bn α z)).s/\e8 P all pp os (k+1) (cP dst (kF true (bn α x) (bn α y)<|bn α z).v α) H bU cn ep):=
 propext ⟨fun⟨_,⟨h1,e⟩,x⟩=>⟨h1,e▸x⟩,fun⟨h1,x⟩=>⟨_,⟨h1,rfl⟩,x⟩⟩
def aMw(g:Bool)(v:I):I:=.opt g v
attribute [go_sem] aMw
section
variable (op:Op) (h:l7 op=true) (j:Nat) (cU:Bool) (v:I)
include h
theorem Vj:nC P all H ⟨dst,op,ty,pos,after,none⟩ α v=((cr P op (bn α) H).s/\(cr P op (bn α) H).H=H/\v=(cr P op (bn α) H).v):=by
 cases op<;>first|rfl|(cases h)|skip
 rename_i c;obtain⟨ce,xs,ts⟩:=c;cases ce<;>first|rfl|cases h
theorem U1:nC P all H ⟨dst,op,ty,pos,after,some (j,cU)⟩ α v=(ja (bV α<|bQ all j)/\ly (cv (bV α<|bQ all j) cU) α (ob op)/\((cv (bV α<|bQ all j) cU)=true->(cr P op (dF α) H).s/\(cr P op (dF α) H).H=H)/\v=.opt (cv (bV α<|bQ all j) cU) (cr P op (dF α) H).v):=by
 cases op<;>first|rfl|(cases h)|skip
 rename_i c;obtain⟨ce,xs,ts⟩:=c;cases ce<;>first|rfl|cases h
@[go_sem] theorem aW3:e8 P all (.aQ::pp) (⟨dst,op,ty,pos,after,none⟩::os) k α H bU cn ep=
  ((cr P op (bn α) H).s/\(cr P op (bn α) H).H=H/\e8 P all pp os (k+1) (cP dst (cr P op (bn α) H).v α) H bU cn ep):=by
 simp only[e8,Vj (h:=h)];exact aN0
@[go_sem] theorem aWR:e8 P all (.aQ::pp) (⟨dst,op,ty,pos,after,some (j,cU)⟩::os) k α H bU cn ep=
  (ja (bV α<|bQ all j)/\ly (cv (bV α<|bQ all j) cU) α (ob op)/\((cv (bV α<|bQ all j) cU)=true->(cr P op (dF α) H).s/\(cr P op (dF α) H).H=H)/\e8 P all pp os (k+1) (cP dst (.opt (cv (bV α<|bQ all j) cU) (cr P op (dF α) H).v) α) H bU cn ep):=by
 simp only[e8,U1 (h:=h)];exact aN1
@[go_sem] theorem aW4:e8 P all (.ah w::pp) (⟨dst,op,ty,pos,after,none⟩::os) k α H bU cn ep=
  ((cr P op (bn α) H).s/\(cr P op (bn α) H).H=H/\vu w bU (λh=>(cr P op (bn α) h).s/\(cr P op (bn α) h).H=h/\(cr P op (bn α) H).v=(cr P op (bn α) h).v)/\
    e8 P all pp os (k+1) (cP dst (cr P op (bn α) H).v α) H bU ((k,λh=>(cr P op (bn α) h).s/\(cr P op (bn α) h).H=h/\(cr P op (bn α) H).v=(cr P op (bn α) h).v)::cn) ep):=by
 simp only[e8,Vj (h:=h)];exact aN2
@[go_sem] theorem aWS:e8 P all (.ah w::pp) (⟨dst,op,ty,pos,after,some (j,cU)⟩::os) k α H bU cn ep=
  (ja (bV α<|bQ all j)/\ly (cv (bV α<|bQ all j) cU) α (ob op)/\((cv (bV α<|bQ all j) cU)=true->(cr P op (dF α) H).s/\(cr P op (dF α) H).H=H)/\
   vu w bU (λh=>ja (bV α<|bQ all j)/\ly (cv (bV α<|bQ all j) cU) α (ob op)/\((cv (bV α<|bQ all j) cU)=true->(cr P op (dF α) h).s/\(cr P op (dF α) h).H=h)/\I.opt (cv (bV α<|bQ all j) cU) (cr P op (dF α) H).v=.opt (cv (bV α<|bQ all j) cU) (cr P op (dF α) h).v)/\
   e8 P all pp os (k+1) (cP dst (.opt (cv (bV α<|bQ all j) cU) (cr P op (dF α) H).v) α) H bU ((k,λh=>ja (bV α<|bQ all j)/\ly (cv (bV α<|bQ all j) cU) α (ob op)/\((cv (bV α<|bQ all j) cU)=true->(cr P op (dF α) h).s/\(cr P op (dF α) h).H=h)/\I.opt (cv (bV α<|bQ all j) cU) (cr P op (dF α) H).v=.opt (cv (bV α<|bQ all j) cU) (cr P op (dF α) h).v)::cn) ep):=by
 simp only[e8,U1 (h:=h)];exact aN3
theorem aHh(H1):LU P all ⟨dst,op,ty,pos,after,none⟩ α H v H1=((cr P op (bn α) H).s/\v=(cr P op (bn α) H).v/\H1=(cr P op (bn α) H).H):=by
 cases op<;>first|rfl|(done)|skip
 rename_i c;obtain⟨ce,xs,ts⟩:=c;cases ce<;>first|rfl|cases h
@[go_sem] theorem aW5:e8 P all (.bW fs::pp) (⟨dst,op,ty,pos,after,none⟩::os) k α H bU cn ep=
  ((cr P op (bn α) H).s/\rL fs cn (cr P op (bn α) H).H/\e8 P all pp os (k+1) (cP dst (cr P op (bn α) H).v α) (cr P op (bn α) H).H (H::bU) (oU fs cn) ep):=by
 simp only[e8,aHh (h:=h)];exact aAv
end
end
@[go_sem] theorem aV8(all os)(pp)(k)(fs)(dst)(g)(α)(H)(bU)(cn)(ep)(v)(H1):
  Yq P all pp os k fs dst g α H bU cn ep v H1=(rL fs cn H1/\e8 P all pp os (k+1) (cP dst (.opt g v) α) H1 (H::bU) (oU fs cn) ep):=rfl
@[go_sem] theorem aV9(all os)(pp)(k)(fs)(dst)(α)(H)(bU)(cn)(ep)(v)(H1):
  Yr P all pp os k fs dst α H bU cn ep v H1=(rL fs cn H1/\e8 P all pp os (k+1) (cP dst v α) H1 (H::bU) (oU fs cn) ep):=rfl
theorem Vo{f:FuncId}{x:I}{h:ab}(J:∀h,aO P f args h x)(ok:jr P f=true):wu P g (.func (.func f) [] []) args x h:=
 λ_=>Or.inl ⟨ok,by simp;exact J h⟩
theorem oB{f:FuncId}{x:I}(U:∀h,aO P f (first++args++cap) h x)(ok:jr P f=true)(hk:K x):HY P g (.func (.func f) first cap) args H w bU K:=by
 have J:∀h,wu P g (.func (.func f) first cap) args x h:=λh _=>Or.inl ⟨ok,U h⟩
 refine⟨x,J H,?_,hk⟩;have:∀(w) (hs),vu w hs (wu P g (.func (.func f) first cap) args x):=by
  intro w;induction w with
  |zero=>intro hs;trivial
  |succ w O=>intro hs;cases hs with
   |nil=>trivial
   |cons h hs=>exact⟨J h,O hs⟩
 exact this w bU
theorem kh{f:FuncId}{x:I}(J:∀h,aO P f args h x)(ok:jr P f=true)(hk:K x):HY P g (.func (.func f) [] []) args H w bU K:=by
 refine⟨x,Vo J ok,?_,hk⟩;have:∀(w) (hs),vu w hs (wu P g (.func (.func f) [] []) args x):=by
  intro w;induction w with
  |zero=>intro hs;trivial
  |succ w U=>intro hs;cases hs with
   |nil=>trivial
   |cons h hs=>exact⟨Vo J ok,U hs⟩
 exact this w bU
attribute [go_sem] LG P8 Yn Yo PO aKC Zh TypeDesc.isAgg Option.isSome_some Option.isSome_none Bool.false_eq_true Bool.true_eq_false not_true_eq_false not_false_eq_true true_and and_true and_self List.getElem?_toArray List.getElem?_cons_zero List.getElem?_cons_succ List.getElem?_nil List.length_map List.append_eq List.range_zero List.cons_append List.nil_append Nat.one_ne_zero implies_true
attribute [go_sem] Nat.reduceEqDiff Nat.reduceAdd Nat.reduceSub Nat.reduceMul Nat.reduceLeDiff Nat.reduceLT Nat.reduceBEq Int.reduceNeg Int.reduceLE Int.reduceLT Int.reduceToNat String.reduceEq
attribute [go_sem ↓] reduceIte
section
variable {P:Program} {f:FuncId} {args:List I} {x:I} {H:ab}
theorem Ml{k:I->ab->Prop}(h:∀H,aO P f args H x)(ok:jr P f=true)(hk:k x H):oR P (.func (.func f) [] []) args H k:=ia (h H) ok hk
theorem Mn{k:I->Prop}(h:∀H,aO P f args H x)(ok:jr P f=true)(hk:k x):tu P g (.func (.func f) [] []) args H k:=kg (h H) ok hk
theorem Mm{k:I->Prop}(h:∀H,aO P f args H x)(ok:jr P f=true)(hk:k x):HY P g (.func (.func f) [] []) args H w bU k:=kh (λH=>h H) ok hk
theorem o8(h:aO P f args H x)(ok:jr P f=true):wu P g (.func (.func f) [] []) args x H:=
 λ_=>Or.inl ⟨ok,by simp only[jb,cE];exact h⟩
end
def aQR:Code->Bool
 |.skip|.ret|.exit _|.label _=>true
 |_=>false
def Ii:Code->Exit
 |.ret=>.ret
 |.exit i=>.exit i
 |_=>.normal
theorem Ph{c:Code}(J:aQR c=true)(h:Q (Ii c) α H):cF P N c Q α H:=by
 cases c<;>first
  |exact HQ h
  |exact aMv h
  |exact aMq h
  |exact aLD h
  |cases J
@[go_sem] theorem aWa:Ii .skip=.normal:=rfl
@[go_sem] theorem aWi:Ii .ret=.ret:=rfl
@[go_sem] theorem aWb(i:Nat):Ii (.exit i)=.exit i:=rfl
@[go_sem] theorem aUz(i:Nat):Ii (.label i)=.normal:=rfl
section
variable {P:Program} {f:FuncId} {fn:Func} {code:Code} {args:List I} {H:ab} {x:I} {R:I->ab->Prop}
theorem bg(J:P.funcs[f]?=some fn)(h:cF P fn.ntmps code (qp P fn.results.toList λv H'=>∃L y,H'=H++L/\cJ H.length H' v y/\y=x) (mV 0 args) H)(U:fn.body=some code:=by rfl)(af:args.length<=fn.ntmps:=by exact ve rfl):aO P f args H x:=aKy J U af h
theorem h9(J:P.funcs[f]?=some fn)(h:cF P fn.ntmps code (qp P fn.results.toList λv H'=>∃H1 L y,H'=H1++L/\H1.length=H.length/\(∀(i:Nat) (b:bD),H1[i]?=some b->H[i]?=some b\/ed H.length b)/\cJ H.length H' v y/\R y H1) (mV 0 args) H)(U:fn.body=some code:=by rfl)(af:args.length<=fn.ntmps:=by exact ve rfl):cV P f args H R:=aF6 J U af h
theorem uf(J:P.funcs[f]?=some fn)(h:cF P fn.ntmps code (qp P fn.results.toList λv H'=>∃H1 L y,H'=H1++L/\H.length<=H1.length/\(∀(i:Nat) (b:bD),H1[i]?=some b->H[i]?=some b\/ed H1.length b)/\cJ H1.length H' v y/\R y H1) (mV 0 args) H)(U:fn.body=some code:=by rfl)(af:args.length<=fn.ntmps:=by exact ve rfl):cV P f args H R:=aEk J U af h
theorem mS(J:P.funcs[f]?=some fn)(h:cF P fn.ntmps code (qp P fn.results.toList R) (mV 0 args) H)(U:fn.body=some code:=by rfl)(af:args.length<=fn.ntmps:=by exact ve rfl):cV P f args H R:=F9 J U af h
end
theorem aX{n:Nat}{v x:I}(hs:eT v x)(ad:b9 v:=by simp only[go_sem]):∃J y,H++L=H++J/\cJ n (H++L) v y/\y=x:=done ad hs
theorem bJ{n:Nat}{v x:I}(hs:eT v x)(ad:b9 v:=by simp only[go_sem]):∃J y,H=H++J/\cJ n H v y/\y=x:=Cb ad hs
theorem cS[Decidable p](h:p:=by omega):decide p=true:=dr h
theorem dA[Decidable p](h:¬p:=by omega):decide p=false:=b0 h
theorem bS{n:Int}(h1: -9223372036854775808<=n:=by omega)(h2:n<=9223372036854775807:=by omega):IntKind.i64.wrap n=n:=wrap_i64 h1 h2
theorem cI{c:Prop}(h:c)(k:q)(t:c->q->p:=by first|exact λh k=>Ml h aI k|exact λh k=>Mn h aI k|exact λh k=>Mm h aI k):p:=t h k
theorem hI{c:Prop}(h:c)(k:q)(t:c->q->p:=by first|exact λh k=>ia h aI k|exact λh k=>kg h aI k|exact λh k=>kh (λ_=>h) aI k):p:=t h k
theorem AE{c:Prop}(h:c)(k:q)(t:c->q->p:=by first|exact λh k=>oz h aI k|exact λh k=>oA (λ_=>h) aI k|exact λh k=>oB (λ_=>h) aI k):p:=t h k
theorem ae(k:q)(t:q->p:=by first|exact λk=>Tz (.bool false) k|exact λk=>uu rfl k|exact λk=>S6 uW rfl ma k|exact λk=>Ph rfl k|exact λk=>Ml (by assumption) aI k|exact λk=>Mn (by assumption) aI k|exact λk=>Mm (by assumption) aI k):p:=t k
theorem aAy{g:Prop}(k:q)(e:(p/\q)=g:=by with_reducible rfl)(t:p:=by first|exact o8 ((by assumption:∀H,aO _ _ _ H _) _) aI|omega|(intros;simp_all;done)|(simp;omega)):g:=e▸⟨t,k⟩
theorem aAz{g:Prop}(k:q/\r)(e:((p/\q)/\r)=g:=by with_reducible rfl)(t:p:=by exact o8 ((by assumption:∀H,aO _ _ _ H _) _) aI):g:=e▸⟨⟨t,k.1⟩,k.2⟩
theorem bp(k:q)(t:q->p:=by first|exact λk=>Xn k|exact λk=>Xo k|exact λk=>HR k|exact λk=>Yf k|exact λk=>WH k|exact λk=>aAy k|exact λk=>aAz k):p:=t k
theorem bz{x:Operand}{b:Bool}(h1:b=true->cF P N y Q α H)(h2:b=false->cF P N z Q α H)(J:bn α x=.bool b:=by exact rfl):cF P N (.cond x y z) Q α H:=kA J h1 h2
theorem Rh(h:q->r)(t:r->p:=by first|exact λk=>Tz (.bool false) k|exact λk=>uu rfl k|exact λk=>S6 uW rfl ma k|exact λk=>Ph rfl k|exact λk=>Ml (by assumption) aI k|exact λk=>Mn (by assumption) aI k|exact λk=>Mm (by assumption) aI k):q->p:=λk=>t<|h k
theorem Ri(h:q->r)(t:r->p:=by first|exact λk=>Xn k|exact λk=>Xo k|exact λk=>HR k|exact λk=>Yf k|exact λk=>WH k|exact λk=>aAy k|exact λk=>aAz k):q->p:=λk=>t<|h k
theorem aX2(k:q)(t:q->p:=by(repeat' first|(refine Rh ?_;simp only[go_sem])|refine Ri ?_|fail);exact λk=>k):p:=t k
theorem aX3(k:q)(t:q->p:=by(repeat' first|(refine Rh ?_;simp only[go_sem, *])|refine Ri ?_|fail);exact λk=>k):p:=t k
theorem aX4{c:Prop}(e:c)(k:q)(t:c->q->p:=by intro e;(repeat' first|(refine Rh ?_;simp only[go_sem, *])|refine Ri ?_|fail);exact λk=>k):p:=t e k
theorem bx{a b:Bool}(h:a=b)(t:a=b->False:=by intro h;first|(simp at h;done)|(simp at h;omega)):p:=(t h).elim
theorem mx{id:Nat}(ids:List Nat)(J:List cK)(h:e8 P ops.toList J ops.toList 0 α H [] [] (λU H'=>Q .normal U H'))(hi:ids.contains id=true:=by rfl)(hm:P.follows .mixedOrders=true:=by exact uW)(hd:tn N ops=true:=by rfl)
  (O:Region.lexB .any ops=true:=by kernel_rfl) (ad:(x2 ops ops.toList J 0 [] []&&ra ops (mu J 0))=true:=by kernel_rfl):cF P N (.region id ops true) Q α H:=aDr J hm hd O ad h
abbrev al:=List UInt8
structure lu where
 c:Int
 r:Int
deriving DecidableEq,Inhabited
structure bk where
 at_:lu
 kind:Int
 node:Int
 parent:Int
 name:al
 data:al
deriving DecidableEq,Inhabited
structure aH where
 id:Int
 parent:Int
 name:al
 gx:lu
 data:al
 wrote:lu
deriving DecidableEq,Inhabited
variable{l:List aH}
structure Ee where
 um:Bool
 iR:Bool
 b5:aH
deriving DecidableEq,Inhabited
structure gr where
 op:bk
 qu:Ee
deriving DecidableEq,Inhabited
structure hq where
 entries:List gr
 nodes:List aH
deriving DecidableEq,Inhabited
def nD:lu:=⟨0,0⟩
def uU:aH:=⟨0,0,[],nD,[],nD⟩
def Qx:Ee:=⟨false,false,uU⟩
def aRF:bk:=⟨nD,0,0,0,[],[]⟩
def DC(s:lu):I:=.agg [.int .i64 s.c,.int .i64 s.r]
def bt(o:bk):I:=.agg [.int .i64 o.at_.c,.int .i64 o.at_.r,.int .i64 o.kind,.int .i64 o.node,.int .i64 o.parent,.str o.name,.str o.data]
def bj(n:aH):I:=.agg [.int .i64 n.id,.int .i64 n.parent,.str n.name,.int .i64 n.gx.c,.int .i64 n.gx.r,.str n.data,.int .i64 n.wrote.c,.int .i64 n.wrote.r]
def yd(u:Ee):I:=.agg [.bool u.um,.bool u.iR,.int .i64 u.b5.id,.int .i64 u.b5.parent,.str u.b5.name,.int .i64 u.b5.gx.c,.int .i64 u.b5.gx.r,.str u.b5.data,.int .i64 u.b5.wrote.c,.int .i64 u.b5.wrote.r]
def dT(e:gr):I:=.agg [.int .i64 e.op.at_.c,.int .i64 e.op.at_.r,.int .i64 e.op.kind,.int .i64 e.op.node,.int .i64 e.op.parent,.str e.op.name,.str e.op.data,
 .bool e.qu.um,.bool e.qu.iR,.int .i64 e.qu.b5.id,.int .i64 e.qu.b5.parent,.str e.qu.b5.name,.int .i64 e.qu.b5.gx.c,.int .i64 e.qu.b5.gx.r,.str e.qu.b5.data,.int .i64 e.qu.b5.wrote.c,.int .i64 e.qu.b5.wrote.r]
def bu(n:Int):I:=.int .i64 n
def rj(f1 f2:Bool)(g:hq):I:=.agg [.sl f1 (g.entries.map dT),.sl f2<|g.nodes.map bj]
def Dl(g:hq):I:=rj false false g
@[go_sem] theorem aW6(x:bk):b9 (bt x)=True:=by simp only[bt,go_sem]
@[go_sem] theorem aW7(x:aH):b9 (bj x)=True:=by simp only[bj,go_sem]
@[go_sem] theorem aW8(x:gr):b9 (dT x)=True:=by simp only[dT,go_sem]
@[go_sem] theorem aW9(x:Int):b9 (bu x)=True:=by simp only[bu,go_sem]
@[go_sem] theorem aXa(f1 f2:Bool)(x:hq):b9 (rj f1 f2 x)=True:=by simp only[rj,go_sem]
theorem ek{α:Type}(g:α->I){l:List α}(h:i<l.length):(l.map g).getD i .top=g l[i]:=by rw[gg,nk,dn h];rfl
theorem Zn(a b:lu):(decide (a.c=b.c)&&decide (a.r=b.r))=decide (a=b):=by cases a;cases b;rw[zL];simp
def Zi(_:List (Nat×List cK)):Prop:=True
theorem nB(l:List (Nat×List cK)):Zi l:=trivial
theorem aRr{id:Nat}{l:List (Nat×List cK)}{J:List cK}(_:Zi l)(h:e8 P ops.toList J ops.toList 0 α H [] [] (λU H'=>Q .normal U H'))(_:l.lookup id=some J:=by rfl)(hm:P.follows .mixedOrders=true:=by exact uW)(hd:tn N ops=true:=by rfl)
  (O:Region.lexB .any ops=true:=by kernel_rfl) (ad:(x2 ops ops.toList J 0 [] []&&ra ops (mu J 0))=true:=by kernel_rfl):cF P N (.region id ops true) Q α H:=aDr J hm hd O ad h
theorem aOc{x:Operand}{b:Bool}(k:cF P N y Q α H)(J:bn α x=.bool b:=by exact rfl)(t:b=false->False:=by intro h;first|(simp at h;done)|(simp at h;omega)):cF P N (.cond x y z) Q α H:=kA J (λ_=>k) λh=>(t h).elim
theorem aOd{x:Operand}{b:Bool}(k:cF P N z Q α H)(J:bn α x=.bool b:=by exact rfl)(t:b=true->False:=by intro h;first|(simp at h;done)|(simp at h;omega)):cF P N (.cond x y z) Q α H:=kA J (λh=>(t h).elim) λ_=>k
theorem cX(k:q)(t:q->p:=by first|exact λk=>Tz (.bool false) k|exact λk=>aRr (by assumption) k|exact λk=>uu rfl k|exact λk=>S6 uW rfl ma k|exact λk=>Ph rfl k|exact λk=>Ml (by assumption) aI k|exact λk=>Mn (by assumption) aI k|exact λk=>Mm (by assumption) aI k):p:=t k
theorem ai(k:q)(t:q->p:=by first|exact λk=>bp k|exact λk=>aOc k|exact λk=>aOd k|fail):p:=t k
theorem a7(k:q)(t:q->p:=by intro k;(first|(refine cX ?_;simp only[go_sem])|refine ai ?_|fail);(repeat' first|(refine cX ?_;simp only[go_sem])|refine ai ?_|fail);exact k):p:=t k
structure Hid (q:Prop):Prop where
 get:q
theorem hH(k:q)(t:Hid q->p:=by intro k;(first|(refine cX ?_;simp only[go_sem,qB,Hh, *])|refine ai ?_|fail);(repeat' first|(refine cX ?_;simp only[go_sem,qB,Hh, *])|refine ai ?_|fail);exact k.get):p:=t ⟨k⟩
theorem bL{c:Prop}(e:c)(k:q)(t:c->Hid q->p:=by intro e;intro k;(first|(refine cX ?_;simp only[go_sem,qB,Hh, *])|refine ai ?_|fail);(repeat' first|(refine cX ?_;simp only[go_sem,qB,Hh, *])|refine ai ?_|fail);exact k.get):p:=t e ⟨k⟩
theorem hj{a b:Prop}(h:a)(k:b):a/\b:=⟨h,k⟩
def w8:List Nat->List I->a8->a8
 |p::ps,v::vs,α=>w8 ps vs ((p,v)::α)
 |_,_,α=>α
theorem Vp{c:Ctx}{N:Nat}:∀(ps:List Nat) (us:List Value) (vs:List I) (α:a8) (ts:Array Value),us.length=vs.length->ps.length=vs.length->(∀p∈ps,p<N)->ts.size=N->
  (∀(i:Nat) (x:I) (v:Value),vs[i]?=some x->us[i]?=some v->aK c x v)->(∀t,aK c (look α t)<|ts.getD t undef)->
  ((ps.zip us).foldl (λtmps (t,a)=>tmps.setIfInBounds t a) ts).size=N/\∀t,aK c (look (w8 ps vs α) t)<|((ps.zip us).foldl (λtmps (t,a)=>tmps.setIfInBounds t a) ts).getD t undef
 |[],us,vs,α,ts,_,_,_,J,_,h=>by exact⟨J,by cases vs<;>exact h⟩
 |p::ps,[],vs,α,ts,h1,h2,_,_,_,_=>by simp at h1 h2;omega
 |p::ps,u::us,[],α,ts,h1,_,_,_,_,_=>by simp at h1
 |p::ps,u::us,v::vs,α,ts,h1,h2,ad,J,U,h=>by
  simp only[List.zip_cons_cons,qC,w8];refine Vp ps us vs ((p,v)::α) (ts.setIfInBounds p u) (oq h1) (oq h2) (λq aM=>ad q<|by simp[aM]) (oq J) (λi x w a b=>U (i+1) x w (oq a)<|oq b) λt=>?_
  have S:p<ts.size:=nP;simp only[look];by_cases O:p=t
  ·subst O;have:=U 0 v u rfl rfl;simpa[S]using this
  ·have T:(p==t)=false:=by simp[O]
   rw[T,vn];simp_all
def wD(i:Nat)(dJ:bD)(fin:Bool->Option Code->bD)(eD:ab)(R:I->ab->Prop)(go:Bool)(iq:Option Code)(H:ab):Prop:=
 az H i=dJ/\∃H1 L,H=H1++L/\H1.length=eD.length/\(∀(j:Nat) (b:bD),H1[j]?=some b->eD[j]?=some b\/ed eD.length b)/\R (.bool go) (an H1 i<|fin go iq)
def HL(i:Nat)(dJ:bD)(fin:Bool->Option Code->bD)(eD:ab)(R:I->ab->Prop):c3
 |.normal,_,H=>wD i dJ fin eD R true none H
 |.ret,_,H=>wD i dJ fin eD R false (some .ret) H
 |.exit id,_,H=>wD i dJ fin eD R false (some<|.exit id) H
 |_,_,_=>False
def Px(P:Program)(N i:Nat)(ec:Code)(yx dJ:bD)(fin:Bool->Option Code->bD)(eD:ab)(R:I->ab->Prop):c3
 |.normal,β,H=>az H i=yx/\cF P N ec (HL i dJ fin (an eD i dJ) R) β (an H i dJ)
 |_,_,_=>False
section
variable (N i:Nat) (ec:Code) (yx dJ:bD) (fin:Bool->Option Code->bD) (eD:ab) (R:I->ab->Prop) (β:a8) (H:ab)
@[go_sem] theorem aTP:HL i dJ fin eD R .normal β H=wD i dJ fin eD R true none H:=rfl
@[go_sem] theorem aUn(id):HL i dJ fin eD R (.exit id) β H=wD i dJ fin eD R false (some<|.exit id) H:=rfl
@[go_sem] theorem aTk:Px P N i ec yx dJ fin eD R .normal β H=(az H i=yx/\cF P N ec (HL i dJ fin (an eD i dJ) R) β (an H i dJ)):=rfl
end
theorem bm.loop{c:Ctx}{H:ab}(h:bm c H){i l N:Nat}{α:a8}{st:LoopState}{J:Option Code}{ps:Array Tmp}{hD ec:Code}(U:az H i=.loop l α N st J ps hD ec):
  i<c.n/\c.ba i=0/\c.c0 i=false/\c.bo i=l/\∃fn D ts,c.w.heap[l]?=some (.loop {state:=st,pending:=J,fn:=fn,tmps:=ts,params:=ps,assign:=hD,body:=ec,defers:=D})/\ts.size=N/\∀t,aK c (look α t) (ts.getD t undef):=by
 refine⟨by rw[h.n];exact cZ U trivial,?_⟩
 cases h.rep i _ (kD U trivial)with
 |loop _ _ _ _ _ _ _ _ fn D ts O hd hl S T V=>grind
theorem OR(h:bm c H){l:Nat}{st:LoopState}{V:Option Code}(Z:az H i=.loop l α N st V ps hD ec)(U)(O){fn D:Nat}{ts:Array Value}
  (I:c.w.heap[l]?=some (.loop {state:=st,pending:=V,fn:=fn,tmps:=ts,params:=ps,assign:=hD,body:=ec,defers:=D})):
  Ext c {c with w:=c.w.putObj l (.loop {state:=U,pending:=O,fn:=fn,tmps:=ts,params:=ps,assign:=hD,body:=ec,defers:=D})}/\
  bm {c with w:=c.w.putObj l (.loop {state:=U,pending:=O,fn:=fn,tmps:=ts,params:=ps,assign:=hD,body:=ec,defers:=D})} (an H i (.loop l α N U O ps hD ec)):=by
 obtain⟨bK,aF,hd,hl,aXX,UA,aY8,S,eu,aw⟩:=h.loop Z;rw[I]at S;cases S;have jx:=kD Z trivial;let o:Obj:=.loop {state:=U,pending:=O,fn:=fn,tmps:=ts,params:=ps,assign:=hD,body:=ec,defers:=D};have p5:(c.w.putObj l o).heap[c.bo i]?=some o:=by grind [World.putObj_heap_same]
 have T:∀b,b≠c.bo i->(c.w.putObj l o).heap[b]?=c.w.heap[b]?:=λb aT=>World.putObj_heap_other j9;have qV:bsize (c.w.putObj l o) (c.bo i)=bsize c.w (c.bo i):=by unfold bsize;rw[p5,hl,I]
 have J:Ext c {c with w:=c.w.putObj l o}:=by
  refine⟨bh _,hW,λb S=>⟨S,T b λe=>(h.st b S).2 i _ jx trivial hd e.symm⟩,λ_ _=>bh _,λj au _=>⟨rfl,rfl,λ_=>?_⟩,rfl,⟨rfl,bh _⟩,rfl,rfl⟩;by_cases e:c.bo j=c.bo i
  ·simp only[e];exact qV
  ·simp only[bsize];rw[T _ e]
 exact h.update jx trivial hd (c.w.putObj l o) hW T qV rfl rfl rfl<|.loop l α N U O ps hD ec fn D ts aF hd hl p5 eu λt=>(aw t).mono J
theorem KL{l:Nat}{vs:List I}{yx:bD}(V:az H i=yx)(Z:yx=.loop l α N .ready none ps hD ec)(p4:ps.size=vs.length)(aQa:(ps.toList.all λp=>Nat.blt p N)=true)
  (aPi:ug hD=true) (aPj:ug ec=true) (h:∀(dJ:bD) (fin:Bool->Option Code->bD),dJ=.loop l α N .busy none ps hD ec->dJ.live->(fin true none=yx)->(∀go U,fin go U=.loop l α N (bif go then .ready else .done) U ps hD ec)->
   cF P N hD (Px P N i ec yx dJ fin H R) (w8 ps.toList vs α) H):sJ P l vs H R:=by
 have T:=V.trans Z;replace h:=h _ (λgo U=>.loop l α N (bif go then .ready else .done) U ps hD ec) rfl trivial Z.symm λ_ _=>rfl
 intro c us O ⟨FZ,aQs⟩;obtain⟨bK,aF,hd,hl,fn,D,ts,aa,eu,aw⟩:=O.loop T;refine⟨fn,_,hD,ec,run_yield aa nc,roundIn_of_wpIn trivial ?_⟩;obtain⟨hsz,n0⟩:=Vp ps.toList us.toList vs α ts (oq FZ) (oq p4) (λp ad=>by have:=fu.1 aQa p ad;simpa[Nat.blt_eq]using this) eu (λi x v a b=>aQs i x v a<|oq b) aw
 have aPk:(ps.zip us).foldl (λtmps (t,a)=>tmps.setIfInBounds t a) ts=(ps.toList.zip us.toList).foldl (λtmps (t,a)=>tmps.setIfInBounds t a) ts:=by rw[<-Array.foldl_toList,Array.toList_zip]
 rw[<-aPk]at hsz n0;have ao:bm (c.fG (c.w.heap.size,[])) H:=O.fG _;have aG:iM (c.fG (c.w.heap.size,[])) N (w8 ps.toList vs α) {tmps:=(ps.zip us).foldl (λtmps (t,a)=>tmps.setIfInBounds t a) ts,defers:=[]}:=
  ⟨hsz,⟨bh _,[],rfl,hW,hW⟩,λt=>(n0 t).fG _⟩
 refine wpIn_mono (h (some l) (c.fG (c.w.heap.size,[])) _ (.inr aPi) ao aG) λe jo pF ⟨c1,β,H1,ax,aq,aU,bf,b8⟩=>?_;cases e<;>simp only[Px]at b8<;>try exact b8.elim
 obtain⟨pd,aOZ⟩:=b8;rw[Z]at pd;subst ax;obtain⟨_,_,_,_,aXY,zP,aY9,e9, -, -⟩:=aq.loop pd;obtain⟨eQ,s1⟩:=OR aq pd .busy none e9;refine⟨_,run_beginRound e9 rfl,?_⟩;refine wpIn_mono (aOZ (some l) _ jo (.inr aPj) s1<|bf.mono eQ) λe Z7 aDy ⟨c2,Ho,BN,g1,g2,g3,g4,g5⟩=>?_;have key:∀(jump),wD i (.loop l α N .busy none ps hD ec) (λgo U=>.loop l α N (bif go then .ready else .done) U ps hD ec) (an H i<|.loop l α N .busy none ps hD ec) R jump.isNone jump BN->
   ∃v w',(Instr.endRound l jump).run P c2.w=.ok v w'/\∃c' x u H',Ending.returned v=.returned u/\c'.w=w'/\bm c' H'/\Ext c c'/\aK c' x u/\R x H':=by
  rintro jump ⟨aPp,D6,L,rfl,hlen,eG,eY⟩;have hlen:=by simpa[an]using hlen
  have aPU:(an H i (.loop l α N .busy none ps hD ec)).length=H.length:=by simp[an]
  have aSV:=(aU.trans eQ).trans g3;have qW:=ao.n;have xE:=by have:=O.Fg<|kD T trivial;rw[O.n]at this;exact this
  have S:=bm.Fk hlen.symm g2 λj b au=>by
   rcases eG j b au with q|q
   ·by_cases kk:j=i
    ·subst kk;rw[an,rB<|cZ T trivial]at q;cases q;exact xE
    ·rw[an,gS λe=>kk e.symm]at q;have:=O.Fg q;rwa[O.n]at this
   ·rwa[aPU]at q
  have vW:=by
   have av:i<D6.length:=by rw[hlen];exact cZ T trivial
   simpa[az,gg,jc av]using aPp
  obtain⟨_,_,_,_,aXZ,BK,aZa,hz, -, -⟩:=S.loop vW;obtain⟨dV,s2⟩:=OR S vW (if jump.isNone then .ready else .done) jump hz
  have aBT:(if jump.isNone=true then LoopState.ready else LoopState.done)=bif jump.isNone then .ready else .done:=by cases jump<;>rfl
  have J:=(aSV.aAo (by rw[qW];exact bh _)).trans dV
  refine⟨_,_,run_endRound jump hz,({c2.drop H.length with w:=_}).fG c.base,.bool jump.isNone,_,_,rfl,rfl,s2.fG _,?_,.bool _,aBT▸eY⟩
  exact⟨J.n,J.size,J.st,J.ba,J.bo,J.os,J.tape,J.output,rfl⟩
 subst g1;cases e<;>simp only[HL]at g5<;>try exact g5.elim
 ·exact key none g5
 ·exact key (some<|.exit _) g5
 ·exact key (some .ret) g5
def aIC(i l:Nat)(α:a8)(N:Nat)(ps:Array Tmp)(hD ec:Code)(Q:c3)(H:ab):Prop:=
 (∃st,st≠.busy/\az H i=.loop l α N st none ps hD ec/\∀X,Q .normal α<|an H i X)\/
 (az H i=.loop l α N .done (some .ret) ps hD ec/\∀X,Q .ret α<|an H i X)\/
 (∃id,az H i=.loop l α N .done (some<|.exit id) ps hD ec/\∀X,Q (.exit id) α<|an H i X)
theorem J7{g:Operand}{S:Nat}{S3:List I}(aP:bn α g=.func (.func S) [] S3)(bq:jr P S=true)
  (h:∀l dJ,dJ=bD.loop l α N .ready none ps hD ec->cV P S (.func (.yield l) [] []::S3) (H++[dJ]) (λ_ H'=>aIC H.length l α N ps hD ec Q H')):cF P N (.rangeFunc g ps hD ec) Q α H:=by
 intro r c a aw aj aG;have aQf:=aw.resolve_right<|by simp[ug]
 subst aQf;refine wpIn_rangeFunc λfn _=>?_;have oK:=HS aG g;rw[aP]at oK;generalize vT:a.eval g=vg at oK;cases oK with
 |func _ _ _ v1 v2 cM cH AZ nZ=>
  obtain rfl:=tJ cM;let T:Obj:=.loop {state:=.ready,pending:=none,fn:=fn,tmps:=a.tmps,params:=ps,assign:=hD,body:=ec,defers:=c.w.heap.size};let c1:=c.fix<|.deferred (some [])
  have s1:bm c1 H:=aj.fix _;have V:Ext c c1:=Ext.fix aj _;have aQi:c1.w.heap.size=c.w.heap.size+1:=by simp[c1,Ctx.fix]
  have cx:=aG.mono V;let c2:=c1.push T;have U:Ext c1 c2:=Ext.push s1 _ 0;have s2:bm c2 (H++[.loop c1.w.heap.size α N .ready none ps hD ec]):=by
   refine s1.push T 0<|.loop _ α N .ready none ps hD ec fn c.w.heap.size a.tmps (by simp[Ctx.push]) (by simp[Ctx.push]) (by simp[Ctx.push]) ?_ cx.size λt=>(cx.rep t).mono U
   simp only[Ctx.push,dW];exact mv _ _
  have pU:=by have h1:c1.w.heap[c.w.heap.size]?=some (.deferred<|some []):=mv _ _;exact((U.st _ (.inr rfl)).2).trans h1
  have fV:qG c2 (.func (.yield c1.w.heap.size) [] []::S3) (#[.func (.yield c1.w.heap.size) #[] #[]]++v2):=by
   refine⟨by simp[cH];omega,λj x v g1 g2=>?_⟩
   cases j with
   |zero=>rw[wQ hW]at g2;cases g1;cases g2;exact .func _ [] [] _ _ rfl rfl hW hW
   |succ j=>rw[BD hW]at g2;rw[vi]at g1;exact((nZ j x v g1 (oq g2)).mono V).mono U
  have aO1:=h c1.w.heap.size _ rfl c2 _ s2 fV;refine⟨c1.w.heap.size,[{target:=.collected c.w.heap.size,args:= #[]}],c2.w,{target:=.fn (.func S) v2,args:= #[.func (.yield c1.w.heap.size) #[] #[]]},c2.w,S, #[.func (.yield c1.w.heap.size) #[] #[]]++v2,c2.w,?_,?_,λ_ _=>trivial,?_,λh=>(p2 h),?_⟩
  ·have:=run_enterLoop_outer (P:=P) (w:=c.w) fn a.tmps ps hD ec;rw[aQi];exact this
  ·simp only[resolve,vT];simp[go_sem,Deferred.ofValue]
  ·simp[invoke,go_sem];simpa using Fp bq _ _
  ·refine(callsIn_wide).2<|aO1.mono ?_;rintro e gy ⟨iw,x,v,D6,rfl,rfl,mb,Z, -,aa⟩;have a3:iM iw N α {a with defers:=[{target:=.collected c.w.heap.size,args:= #[]}]++a.defers}:=by
    have m:=((aG.mono V).mono U).mono Z;obtain⟨m0,iN,e,af,bR⟩:=m.defers;obtain⟨kP,Hv,lZ,xH,aAO⟩:=aG.defers;have jL:=(Z.base.trans U.base).trans V.base;have aPt:iN=Hv:=by
     have:=List.append_cancel_right<|(jL▸e).symm.trans lZ;clear bR aAO af xH e lZ m;induction iN generalizing Hv with
     |nil=>cases Hv with
      |nil=>rfl
      |cons _ _=>simp at this
     |cons d iN aB=>cases Hv with
      |nil=>simp at this
      |cons d' Hv=>simp at this;rw[this.1,aB _<|oq this.2]
    subst aPt;refine⟨m.size,⟨m0,c.w.heap.size::iN,by simp[e],tK.2 ⟨λhm=>?_,af⟩,λD hm=>?_⟩,m.rep⟩
    ·have:=(qA.1 (aAO _ hm).2.2).1;omega
    ·rcases db.1 hm with rfl|hm
     ·exact⟨by rw[jL];exact kP,(Z.st _ (U.st _<|.inr rfl).1).1,((Z.st _ (U.st _<|.inr rfl).1).2).trans pU⟩
     ·exact bR D hm
   have done:∀(st) (iq),st≠.busy->az D6 H.length=.loop c1.w.heap.size α N st iq ps hD ec->
     ∃J,(Instr.endLoop c1.w.heap.size).run P iw.w=.ok iq J.w/\bm J (an D6 H.length<|.loop c1.w.heap.size α N .exhausted iq ps hD ec)/\Ext c J/\iM J N α {a with defers:=[{target:=.collected c.w.heap.size,args:= #[]}]++a.defers}:=by
    intro st iq vN O;obtain⟨_,_,_,_,aX0,UB,aZb,aA9, -, -⟩:=mb.loop O;obtain⟨vc,GR⟩:=OR mb O .exhausted iq aA9;exact⟨_,run_endLoop aA9 vN,GR,((V.trans U).trans Z).trans vc,a3.mono vc⟩
   rcases aa with⟨st,aO0,O,aM⟩|⟨O,aM⟩|⟨id,O,aM⟩
   ·obtain⟨J,aL,aR,bC,cD⟩:=done st none aO0 O;exact⟨none,J.w,aL,J,α,_,rfl,aR,bC,cD,aM _⟩
   ·obtain⟨J,aL,aR,bC,cD⟩:=done .done _ hW O;exact⟨some .ret,J.w,aL,wpIn_ret ⟨J,α,_,rfl,aR,bC,cD,aM _⟩⟩
   ·obtain⟨J,aL,aR,bC,cD⟩:=done .done _ hW O;exact⟨some<|.exit id,J.w,aL,wpIn_exit ⟨J,α,_,rfl,aR,bC,cD,aM _⟩⟩
theorem NQ{l:Nat}{K:I->ab->Prop}(h:sJ P l args H R)(hk:∀v H',R v H'->K v H'):oR P (.func (.yield l) [] []) args H K:=h.mono hk
theorem H2(β)(hs:yG β α)(h:cF P N code Q β H):cF P N code Q α H:=Ke h<|xu hs
theorem DE{n:Nat}(af:n<=i)(O:az H i=.cells v cs)(S:∀x∈cs,cN n x):cJ n H (.ref i v 0) (.cptr cs):=
 .ref i v 0 cs cs af O gf λj x y J U=>by rw[lr,U]at J;cases J;exact .cl _<|S _ (dy U)
theorem ds{n:Nat}{b:I}(h:cJ n H a b)(hs:∀(i:Nat) (x y:I),cs[i]?=some x->br[i]?=some y->cJ n H x y):∀(i:Nat) (x y:I),(a::cs)[i]?=some x->(b::br)[i]?=some y->cJ n H x y
 |0,x,y,J,U=>j9
 |i+1,x,y,J,U=>hs i x y j9 j9
theorem fx{n:Nat}:∀(i:Nat) (x y),([])[i]?=some x->([])[i]?=some y->cJ n H x y:=λ_ _ _ h=>hW
theorem bE{b:bD}(h:az G i=b)(J:b.live):∀L,az (G++L) i=b:=λL=>bX h J L
theorem hU{b:bD}(h:az G i=b)(J:b.live):∀L c,an (G++L) i c=an G i c++L:=λL c=>gU (cZ h J) L c
theorem bc(H)(i)(b):(an H i b).length=H.length:=by simp[an]
theorem bN{x:bD}(h:az H j=x)(af:i≠j)(b):az (an H i b) j=x:=by rw[<-h];simp[az,an,gS af]
theorem dK(h:i<H.length)(b):az (an H i b) i=b:=by simp[az,an,h]
theorem ns{n:Nat}{b:bD}(J:ed n b):∀(j:Nat) (c),(an H i b)[j]?=some c->H[j]?=some c\/ed n c:=λj c h=>by
 by_cases e:i=j
 ·by_cases U:i<H.length
  ·grind [an,rB]
  ·rw[an,wW j9]at h;cases h
 ·grind [an,gS]
theorem jd(H)(i)(b c):an (an H i b) i c=an H i c:=by simp[an]
theorem sW(H)(b c)(h:i≠j):an (an H i b) j c=an (an H j c) i b:=by exact List.set_comm _ _ h
theorem kf{b:bD}(h:az H i=b)(J:b.live):an H i b=H:=Zx<|kD h J
def LH(K:a8->ab->Prop)(Q:c3):c3
 |.normal,α,H=>K α H
 |e,α,H=>Q e α H
def pS(P:Program)(N:Nat)(body:Code)(Q:c3):Nat->a8->ab->Prop
 |0,_,_=>False
 |m+1,α,H=>cF P N body (LH (pS P N body Q m) Q) α H
section
variable (K:a8->ab->Prop) (Q:c3) (α:a8) (H:ab)
@[go_sem] theorem aTx:LH K Q .normal α H=K α H:=rfl
@[go_sem] theorem aWc:LH K Q .ret α H=Q .ret α H:=rfl
@[go_sem] theorem aUA(i):LH K Q (.exit i) α H=Q (.exit i) α H:=rfl
end
theorem sX(m:Nat)(h:pS P N body Q m α H):cF P N (.loop body) Q α H:=by
 intro r c a Z hs T;refine wpIn_loop_rounds m ?_;have key:∀m α H c' a,pS P N body Q m α H->bm c' H->Ext c c'->iM c' N α a->Code.roundsIn (wf r) 0 P body (λe V w'=>∃c' U H',c'.w=w'/\bm c' H'/\Ext c c'/\iM c' N U V/\Q e U H') m a c'.w:=by
  intro m;induction m with
  |zero=>intro α H c' a h;exact h.elim
  |succ m I=>
   intro α H c' a h hs J T;refine wpIn_mono (h r c' a Z hs T) λe V w' ⟨c2,U,H',ax,O,aU,bf,S⟩=>?_;subst ax;cases e with
   |normal=>exact I _ _ _ _ S O (J.trans aU) bf
   |exit id=>exact⟨c2,U,H',rfl,O,J.trans aU,bf,S⟩
   |goto l=>exact⟨c2,U,H',rfl,O,J.trans aU,bf,S⟩
   |ret=>exact⟨c2,U,H',rfl,O,J.trans aU,bf,S⟩
   |panic ch=>exact⟨c2,U,H',rfl,O,J.trans aU,bf,S⟩
   |outgrown=>exact⟨c2,U,H',rfl,O,J.trans aU,bf,S⟩
 exact key m α H c a h hs (Ext.refl c) T
theorem all_nil{α:Type}{p:α->Prop}:∀x∈([]),p x:=λ_ h=>j9
theorem all_cons{α:Type}{p:α->Prop}{a:α}{l:List α}(h:p a)(hs:∀x∈l,p x):∀x∈a::l,p x:=List.forall_mem_cons.2 ⟨h,hs⟩
theorem aF7{n:Nat}(h:∀x∈cs,cN n x):ed n (.cells v cs):=h
theorem aKD{n:Nat}(h:∀x∈cs,cN n x):cN n (.agg cs):=.agg _ λ_ x J=>h x<|dy J
theorem aKE{n:Nat}(h:∀x∈cs,cN n x):cN n (.aN cs):=.aN _ λ_ x J=>h x<|dy J
theorem Xq{n:Nat}{f:Fn}{fs:List I}(h1:∀x∈fs,cN n x)(h2:∀x∈cs,cN n x):cN n (.func f fs cs):=.func _ _ _ (λ_ x J=>h1 x (dy J)) λ_ x J=>h2 x (dy J)
theorem aID{n:Nat}(h:∀x∈cs,cN n x):cN n (.cptr cs):=.cptr _ λ_ x J=>h x<|dy J
theorem G1{n:Nat}(h:∀b∈M,ed n b):∀(i:Nat) (b),(H++M)[i]?=some b->H[i]?=some b\/ed n b:=λi b hi=>j9
theorem Lb{f:I}{x:I}{k:I->ab->Prop}(h:kb P f args H (λr G=>r=x/\G=H))(hk:k x H):oR P f args H k:=
 h.mono λ_ _ ⟨ax,J⟩=>j9
def LY(p:Nat->Bool):Nat->Bool
 |0=>true
 |n+1=>p n&&LY p n
theorem Xr{p:Nat->Bool}:∀{n:Nat},LY p n=true->∀f<n,p f=true
 |n+1,h,f,J=>by
  simp only[LY,dp]at h;by_cases e:f=n
  ·exact e▸h.1
  ·exact Xr h.2 f gf
@[go_sem] theorem uW:prog.follows .mixedOrders=true:=ma
abbrev HB(t c b:Nat)(z:I):Prop:=prog.cellsOf t=c/\prog.bytesOf t=b/\ow prog t=true/\eU prog t=z
abbrev et(t:Nat):Prop:=xm prog t=true
abbrev eE(t:Nat):Prop:=zg prog t=true
abbrev rJ(t c b:Nat)(z:I):Prop:=HB t c b z/\eE t
abbrev er(t c b:Nat)(z:I):Prop:=rJ t c b z/\et t
abbrev aDN(t:Nat):Prop:=Tv prog t=true
abbrev aDM(t:Nat):Prop:=prog.stoodInHeld t=false
abbrev aDL(t:Nat):Prop:=prog.eqGuardType prog.depth t=false
abbrev OI(t c b:Nat)(z:I):Prop:=er t c b z/\aDN t/\aDL t
abbrev fK(t c b:Nat)(z:I):Prop:=OI t c b z/\aDM t
abbrev mn(t c b:Nat)(z:I):Prop:=er t c b z/\Ie prog t=true
@[go_sem] theorem aXH:(prog.cellsOf 0=1/\prog.bytesOf 0=0/\et 0/\eE 0)/\(er 1 1 8 (.ef))/\(rJ 2 1 8 (.int .i64 0))/\(rJ 3 1 8 (.int .i64 0))/\(er 4 1 1 (.bool false))/\(rJ 5 1 1 (.int .u8 0)):=by repeat' first|apply And.intro|(show _=_;kernel_rfl)
@[go_sem] theorem aXI:(rJ 6 1 1 (.int .u8 0))/\(fK 7 4 24 (.agg [.int .i64 0,.int .i64 0,.bool false,.int .u8 0]))/\(er 9 1 16 (.str []))/\(rJ 12 1 8 (.int .u64 0))/\(OI 13 2 24 (.agg [.str [],.int .u64 0]))/\(OI 14 2 24 (.agg [.str [],.int .u64 0])):=by repeat' first|apply And.intro|(show _=_;kernel_rfl)
@[go_sem] theorem aXJ:(HB 20 1 16 (.nilIface)/\et 20/\tX prog 20=true)/\(rJ 21 1 4 (.int .i32 0))/\(mn 22 1 24 (.sl true []))/\(er 23 1 8 (.ef))/\(mn 24 1 24 (.sl true []))/\(mn 25 1 24 (.sl true [])):=by repeat' first|apply And.intro|(show _=_;kernel_rfl)
@[go_sem] theorem aXK:(fK 27 2 48 (.agg [.sl true [],.sl true []]))/\(mn 28 1 24 (.sl true []))/\(mn 29 1 24 (.sl true []))/\(fK 31 7 120 (.agg [.sl true [],.sl true [],.int .i64 0,.int .i64 0,.sl true [],.sl true [],.int .i64 0]))/\(mn 32 1 24 (.sl true []))/\(fK 34 2 48 (.agg [.sl true [],.sl true []])):=by repeat' first|apply And.intro|(show _=_;kernel_rfl)
@[go_sem] theorem aXL:(mn 35 1 24 (.sl true []))/\(fK 37 2 32 (.agg [.int .i64 0,.sl true []]))/\(mn 38 1 24 (.sl true []))/\(mn 39 1 24 (.sl true []))/\(fK 41 14 256 (.agg [.sl true [],.sl true [],.int .i64 0,.int .i64 0,.sl true [],.sl true [],.int .i64 0,.sl true [],.sl true [],.int .i64 0,.sl true [],.sl true [],.int .i64 0,.sl true []]))/\(mn 42 1 24 (.sl true [])):=by repeat' first|apply And.intro|(show _=_;kernel_rfl)
@[go_sem] theorem aXM:(fK 44 3 48 (.agg [.int .i64 0,.str [],.sl true []]))/\(mn 45 1 24 (.sl true []))/\(fK 47 14 152 (.agg [.int .i64 0,.str [],.sl true [],.int .i64 0,.int .i64 0,.int .i64 0,.int .i64 0,.int .i64 0,.int .i64 0,.sl true [],.bool false,.int .i64 0,.int .i64 0,.int .i64 0]))/\(fK 49 29 416 (.agg [.sl true [],.sl true [],.int .i64 0,.int .i64 0,.sl true [],.sl true [],.int .i64 0,.sl true [],.sl true [],.int .i64 0,.sl true [],.sl true [],.int .i64 0,.sl true [],.int .i64 0,.str [],.sl true [],.int .i64 0,.int .i64 0,.int .i64 0,.int .i64 0,.int .i64 0,.int .i64 0,.sl true [],.bool false,.int .i64 0,.int .i64 0,.int .i64 0,.int .i64 0]))/\(rJ 50 1 8 (.int .i64 0))/\(prog.cellsOf 51=1/\prog.bytesOf 51=0/\et 51/\eE 51):=by repeat' first|apply And.intro|(show _=_;kernel_rfl)
@[go_sem] theorem aXN:(fK 56 5 64 (.agg [.int .i64 0,.str [],.str [],.str [],.int .i64 0]))/\(fK 58 8 96 (.agg [.int .i64 0,.int .i64 0,.str [],.str [],.str [],.int .i64 0,.int .i64 0,.str []]))/\(mn 59 1 24 (.sl true []))/\(mn 60 1 24 (.sl true []))/\(fK 62 5 80 (.agg [.int .i64 0,.str [],.sl true [],.int .i64 0,.sl true []]))/\(fK 64 18 216 (.agg [.int .i64 0,.str [],.str [],.str [],.int .i64 0,.sl true [],.int .i64 0,.bool false,.bool false,.int .i64 0,.int .i64 0,.int .i64 0,.int .i64 0,.int .i64 0,.str [],.sl true [],.int .i64 0,.sl true []])):=by repeat' first|apply And.intro|(show _=_;kernel_rfl)
@[go_sem] theorem aXO:(prog.cellsOf 67=1/\prog.bytesOf 67=0/\et 67/\eE 67)/\(rJ 76 1 2 (.int .u16 0))/\(prog.cellsOf 77=1/\prog.bytesOf 77=0/\et 77/\eE 77)/\(prog.cellsOf 84=1/\prog.bytesOf 84=0/\et 84/\eE 84)/\(er 86 1 8 (.ef))/\(prog.cellsOf 87=1/\prog.bytesOf 87=0/\et 87/\eE 87):=by repeat' first|apply And.intro|(show _=_;kernel_rfl)
@[go_sem] theorem aXP:(prog.cellsOf 91=1/\prog.bytesOf 91=0/\et 91/\eE 91)/\(prog.cellsOf 93=1/\prog.bytesOf 93=0/\et 93/\eE 93)/\(mn 96 1 24 (.sl true []))/\(fK 98 2 16 (.agg [.int .i64 0,.int .i64 0]))/\(fK 100 7 72 (.agg [.int .i64 0,.int .i64 0,.int .i64 0,.int .i64 0,.int .i64 0,.str [],.str []]))/\(er 101 1 8 (.dX)):=by repeat' first|apply And.intro|(show _=_;kernel_rfl)
@[go_sem] theorem aXQ:(fK 103 14 152 (.agg [.int .i64 0,.str [],.sl true [],.int .i64 0,.int .i64 0,.int .i64 0,.int .i64 0,.int .i64 0,.int .i64 0,.sl true [],.bool false,.int .i64 0,.int .i64 0,.int .i64 0]))/\(prog.cellsOf 108=1/\prog.bytesOf 108=0/\et 108/\eE 108)/\(er 110 1 8 (.ef))/\(mn 117 1 24 (.sl true []))/\(fK 119 1 24 (.agg [.sl true []]))/\(mn 126 1 24 (.sl true [])):=by repeat' first|apply And.intro|(show _=_;kernel_rfl)
@[go_sem] theorem aXg:(fK 129 3 40 (.agg [.str [],.int .i64 0,.str []]))/\(er 130 1 8 (.ef))/\(er 131 1 8 (.dX))/\(fK 133 2 40 (.agg [.sl true [],.str []]))/\(prog.cellsOf 134=1/\prog.bytesOf 134=0/\et 134/\eE 134)/\(prog.cellsOf 136=1/\prog.bytesOf 136=0/\et 136/\eE 136):=by repeat' first|apply And.intro|(show _=_;kernel_rfl)
@[go_sem] theorem aXh:(prog.cellsOf 138=1/\prog.bytesOf 138=0/\et 138/\eE 138)/\(prog.cellsOf 140=1/\prog.bytesOf 140=0/\et 140/\eE 140)/\(prog.cellsOf 142=1/\prog.bytesOf 142=0/\et 142/\eE 142)/\(prog.cellsOf 144=1/\prog.bytesOf 144=0/\et 144/\eE 144)/\(er 149 1 8 (.dX))/\(er 151 1 8 (.ef)):=by repeat' first|apply And.intro|(show _=_;kernel_rfl)
@[go_sem] theorem aXi:(fK 153 15 160 (.agg [.int .i64 0,.str [],.sl true [],.int .i64 0,.int .i64 0,.int .i64 0,.int .i64 0,.int .i64 0,.int .i64 0,.sl true [],.bool false,.int .i64 0,.int .i64 0,.int .i64 0,.ef]))/\(prog.cellsOf 155=1/\prog.bytesOf 155=0/\et 155/\eE 155)/\(er 158 1 8 (.ef))/\(fK 162 8 80 (.agg [.int .i64 0,.int .i64 0,.str [],.int .i64 0,.int .i64 0,.str [],.int .i64 0,.int .i64 0]))/\(fK 164 10 88 (.agg [.bool false,.bool false,.int .i64 0,.int .i64 0,.str [],.int .i64 0,.int .i64 0,.str [],.int .i64 0,.int .i64 0]))/\(fK 166 17 160 (.agg [.int .i64 0,.int .i64 0,.int .i64 0,.int .i64 0,.int .i64 0,.str [],.str [],.bool false,.bool false,.int .i64 0,.int .i64 0,.str [],.int .i64 0,.int .i64 0,.str [],.int .i64 0,.int .i64 0])):=by repeat' first|apply And.intro|(show _=_;kernel_rfl)
@[go_sem] theorem aXj:(fK 169 2 32 (.agg [.int .i64 0,.sl true []]))/\(fK 172 2 32 (.agg [.sl true [],.bool false]))/\(fK 174 4 48 (.agg [.int .i64 0,.int .i64 0,.sl true [],.bool false]))/\(prog.cellsOf 176=1/\prog.bytesOf 176=0/\et 176/\eE 176)/\(HB 179 1 16 (.nilIface)/\et 179/\tX prog 179=true)/\(mn 183 1 24 (.sl true [])):=by repeat' first|apply And.intro|(show _=_;kernel_rfl)
@[go_sem] theorem aXk:(er 194 1 8 (.dX))/\(fK 196 2 24 (.agg [.int .i64 0,.str []]))/\(er 198 1 8 (.iI)/\qI prog 198=some ((.int .i64),4)/\qJ prog 198=(.int .i64)/\xl prog 198=4)/\(er 200 1 8 (.ef))/\(er 201 1 8 (.iI)/\qI prog 201=some (.string,162)/\qJ prog 201=.string/\xl prog 201=162)/\(er 204 1 8 (.ef)):=by repeat' first|apply And.intro|(show _=_;kernel_rfl)
@[go_sem] theorem aXl:(prog.cellsOf 205=1/\prog.bytesOf 205=0/\et 205/\eE 205)/\(prog.cellsOf 207=1/\prog.bytesOf 207=0/\et 207/\eE 207)/\(prog.cellsOf 209=1/\prog.bytesOf 209=0/\et 209/\eE 209)/\(prog.cellsOf 213=1/\prog.bytesOf 213=0/\et 213/\eE 213)/\(prog.cellsOf 216=1/\prog.bytesOf 216=0/\et 216/\eE 216)/\(fK 220 2 24 (.agg [.int .i64 0,.str []])):=by repeat' first|apply And.intro|(show _=_;kernel_rfl)
@[go_sem] theorem aXm:(prog.cellsOf 222=1/\prog.bytesOf 222=0/\et 222/\eE 222)/\(er 224 1 8 (.dX))/\(er 225 1 8 (.dX))/\(fK 227 7 72 (.agg [.int .i64 0,.int .i64 0,.int .i64 0,.int .i64 0,.int .i64 0,.str [],.str []]))/\(prog.cellsOf 228=1/\prog.bytesOf 228=0/\et 228/\eE 228)/\(er 230 1 8 (.ef)):=by repeat' first|apply And.intro|(show _=_;kernel_rfl)
@[go_sem] theorem aXn:(er 231 1 8 (.ef))/\(fK 233 16 16 (.agg [.int .u8 0,.int .u8 0,.int .u8 0,.int .u8 0,.int .u8 0,.int .u8 0,.int .u8 0,.int .u8 0,.int .u8 0,.int .u8 0,.int .u8 0,.int .u8 0,.int .u8 0,.int .u8 0,.int .u8 0,.int .u8 0]))/\(prog.cellsOf 235=1/\prog.bytesOf 235=0/\et 235/\eE 235)/\(er 240 1 8 (.dX))/\(fK 242 2 16 (.agg [.int .i64 0,.int .i64 0]))/\(fK 244 17 280 (.agg [.sl true [],.sl true [],.int .i64 0,.int .i64 0,.sl true [],.sl true [],.int .i64 0,.sl true [],.sl true [],.int .i64 0,.sl true [],.sl true [],.int .i64 0,.sl true [],.int .i64 0,.int .i64 0,.int .i64 0])):=by repeat' first|apply And.intro|(show _=_;kernel_rfl)
@[go_sem] theorem aXo:(er 246 1 8 (.ef))/\(prog.cellsOf 247=1/\prog.bytesOf 247=0/\et 247/\eE 247)/\(er 248 1 8 (.iI)/\qI prog 248=some ((.int .i64),246)/\qJ prog 248=(.int .i64)/\xl prog 248=246)/\(prog.cellsOf 251=1/\prog.bytesOf 251=0/\et 251/\eE 251)/\(prog.cellsOf 259=1/\prog.bytesOf 259=0/\et 259/\eE 259)/\(er 261 1 8 (.ef)):=by repeat' first|apply And.intro|(show _=_;kernel_rfl)
@[go_sem] theorem aXp:(fK 262 7 72 (.agg [.int .i64 0,.int .i64 0,.int .i64 0,.int .i64 0,.int .i64 0,.str [],.str []]))/\(prog.cellsOf 263=1/\prog.bytesOf 263=0/\et 263/\eE 263)/\(er 265 1 8 (.dX))/\(fK 267 2 32 (.agg [.dX,.sl true []]))/\(HB 269 1 16 (.nilIface)/\et 269/\tX prog 269=true)/\(prog.cellsOf 270=1/\prog.bytesOf 270=0/\et 270/\eE 270):=by repeat' first|apply And.intro|(show _=_;kernel_rfl)
@[go_sem] theorem aXq:(fK 276 2 16 (.agg [.int .i64 0,.int .i64 0]))/\(er 280 1 8 (.ef))/\(rJ 282 1 8 (.int .u64 0))/\(er 283 1 8 (.ef))/\(er 284 1 8 (.ef))/\(prog.cellsOf 286=1/\prog.bytesOf 286=0/\et 286/\eE 286):=by repeat' first|apply And.intro|(show _=_;kernel_rfl)
@[go_sem] theorem aXr:(er 288 1 8 (.ef))/\(er 289 1 8 (.ef))/\(er 292 1 8 (.ef))/\(fK 294 1 8 (.agg [.int .i64 0]))/\(prog.cellsOf 295=1/\prog.bytesOf 295=0/\et 295/\eE 295)/\(fK 297 1 16 (.agg [.str []])):=by repeat' first|apply And.intro|(show _=_;kernel_rfl)
@[go_sem] theorem aXs:(prog.cellsOf 299=1/\prog.bytesOf 299=0/\et 299/\eE 299)/\(prog.cellsOf 302=1/\prog.bytesOf 302=0/\et 302/\eE 302)/\(mn 304 1 24 (.sl true []))/\(rJ 306 1 4 (.int .u32 0))/\(er 308 1 8 (.ef))/\(mn 310 1 24 (.sl true [])):=by repeat' first|apply And.intro|(show _=_;kernel_rfl)
@[go_sem] theorem aXt:(fK 312 16 16 (.agg [.int .u8 0,.int .u8 0,.int .u8 0,.int .u8 0,.int .u8 0,.int .u8 0,.int .u8 0,.int .u8 0,.int .u8 0,.int .u8 0,.int .u8 0,.int .u8 0,.int .u8 0,.int .u8 0,.int .u8 0,.int .u8 0]))/\(prog.cellsOf 314=1/\prog.bytesOf 314=0/\et 314/\eE 314)/\(er 317 1 8 (.ef))/\(prog.cellsOf 321=1/\prog.bytesOf 321=0/\et 321/\eE 321)/\(HB 324 1 16 (.nilIface)/\et 324/\tX prog 324=true)/\(er 326 1 8 (.ef)):=by repeat' first|apply And.intro|(show _=_;kernel_rfl)
@[go_sem] theorem aXu:(er 328 1 8 (.ef))/\(er 332 1 8 (.dX))/\(fK 334 2 16 (.agg [.int .i64 0,.int .i64 0]))/\(prog.cellsOf 335=1/\prog.bytesOf 335=0/\et 335/\eE 335)/\(er 337 1 8 (.ef))/\(mn 341 1 24 (.sl true [])):=by repeat' first|apply And.intro|(show _=_;kernel_rfl)
@[go_sem] theorem aXv:(er 343 1 8 (.dX))/\(er 348 1 8 (.ef))/\(fK 350 2 48 (.agg [.sl true [],.sl true []]))/\(er 351 1 8 (.ef))/\(fK 353 0 0 (.agg []))/\(fK 355 1 24 (.agg [.sl true []])):=by repeat' first|apply And.intro|(show _=_;kernel_rfl)
@[go_sem] theorem aXw:(fK 357 5 64 (.agg [.int .i64 0,.str [],.str [],.str [],.int .i64 0]))/\(prog.cellsOf 358=1/\prog.bytesOf 358=0/\et 358/\eE 358)/\(prog.cellsOf 360=1/\prog.bytesOf 360=0/\et 360/\eE 360)/\(er 363 1 8 (.dX))/\(prog.cellsOf 364=1/\prog.bytesOf 364=0/\et 364/\eE 364)/\(prog.cellsOf 367=1/\prog.bytesOf 367=0/\et 367/\eE 367):=by repeat' first|apply And.intro|(show _=_;kernel_rfl)
@[go_sem] theorem aXx:(er 371 1 8 (.ef))/\(er 373 1 8 (.dX))/\(prog.cellsOf 382=1/\prog.bytesOf 382=0/\et 382/\eE 382)/\(fK 385 2 8 (.agg [.int .u32 0,.int .u32 0]))/\(er 386 1 8 (.dX))/\(fK 389 2 48 (.agg [.sl true [],.sl true []])):=by repeat' first|apply And.intro|(show _=_;kernel_rfl)
@[go_sem] theorem aXy:(er 392 1 8 (.ef))/\(er 393 1 8 (.dX))/\(fK 395 18 288 (.agg [.sl true [],.sl true [],.int .i64 0,.int .i64 0,.sl true [],.sl true [],.int .i64 0,.int .i64 0,.str [],.sl true [],.int .i64 0,.sl true [],.int .i64 0,.str [],.str [],.str [],.int .i64 0,.sl true []]))/\(er 396 1 8 (.ef))/\(prog.cellsOf 397=1/\prog.bytesOf 397=0/\et 397/\eE 397)/\(er 398 1 8 (.iI)/\qI prog 398=some ((.int .i64),396)/\qJ prog 398=(.int .i64)/\xl prog 398=396):=by repeat' first|apply And.intro|(show _=_;kernel_rfl)
@[go_sem] theorem aXz:(mn 401 1 24 (.sl true []))/\(prog.cellsOf 403=1/\prog.bytesOf 403=0/\et 403/\eE 403)/\(prog.cellsOf 405=1/\prog.bytesOf 405=0/\et 405/\eE 405)/\(rJ 410 1 8 (.int .i64 0))/\(prog.cellsOf 411=1/\prog.bytesOf 411=0/\et 411/\eE 411)/\(rJ 418 1 8 (.int .u64 0)):=by repeat' first|apply And.intro|(show _=_;kernel_rfl)
@[go_sem] theorem aXA:(er 419 1 8 (.ef))/\(er 426 1 8 (.dX))/\(prog.cellsOf 429=1/\prog.bytesOf 429=0/\et 429/\eE 429)/\(rJ 433 1 8 (.int .u64 0))/\(prog.cellsOf 443=1/\prog.bytesOf 443=0/\et 443/\eE 443)/\(prog.cellsOf 446=1/\prog.bytesOf 446=0/\et 446/\eE 446):=by repeat' first|apply And.intro|(show _=_;kernel_rfl)
@[go_sem] theorem aXB:(prog.cellsOf 448=1/\prog.bytesOf 448=0/\et 448/\eE 448)/\(er 453 1 8 (.ef))/\(er 454 1 8 (.ef))/\(prog.cellsOf 460=1/\prog.bytesOf 460=0/\et 460/\eE 460)/\(er 464 1 8 (.iI)/\qI prog 464=some (.string,129)/\qJ prog 464=.string/\xl prog 464=129)/\(er 465 1 8 (.ef)):=by repeat' first|apply And.intro|(show _=_;kernel_rfl)
@[go_sem] theorem aXe:(er 466 1 8 (.ef))/\(prog.cellsOf 468=1/\prog.bytesOf 468=0/\et 468/\eE 468)/\(prog.cellsOf 469=1/\prog.bytesOf 469=0/\et 469/\eE 469)/\(er 473 1 8 (.dX))/\(prog.cellsOf 474=1/\prog.bytesOf 474=0/\et 474/\eE 474)/\(mn 480 1 24 (.sl true [])):=by repeat' first|apply And.intro|(show _=_;kernel_rfl)
@[go_sem] theorem aTQ:wj prog 227 "gunwale/op.fits" =some 354:=ma
@[go_sem] theorem aTR:wj prog 227 "gunwale/op.tail" =some 355:=ma
@[go_sem] theorem aTS:wj prog 262 "gunwale/op.fits" =some 356:=ma
@[go_sem] theorem aTT:wj prog 262 "gunwale/op.tail" =some 357:=ma
@[go_sem] theorem aTU:wj prog 353 "gunwale/plan.next" =some 359:=ma
@[go_sem] theorem aTV:wj prog 355 "gunwale/plan.next" =some 360:=ma
@[go_sem] theorem aTW:wj prog 357 "gunwale/plan.next" =some 361:=ma
def okF(f:Nat):Bool:=decide (f<374)&& !(([0,1,215,323,334,337,339,340,341,342,343,344,345,346,347,348,349,350,351,352,353,358,367,368,369,370,371,372]:List Nat).contains f)
theorem aRB:LY (λf=> !okF f||jr prog f) 374=true:=ma
theorem aI{f:Nat}(h:okF f=true:=by rfl):jr prog f=true:=by
 have h1:=Xr aRB f (by simp only[okF,dp]at h;exact nI h.1)
 simp only[h,Bool.not_true,DT]at h1;exact h1
attribute [go_sem] underlying3 underlying4 underlying5 underlying9 underlying21 underlying22 underlying24 underlying25 underlying27 underlying28 underlying29 underlying31 underlying32 underlying34 underlying35 underlying37 underlying38 underlying39 underlying41 underlying42 underlying44 underlying45 underlying47 underlying49 underlying50 underlying56 underlying58 underlying59 underlying60 underlying62 underlying64 underlying76 underlying96 underlying98 underlying100 underlying103 underlying117 underlying119 underlying126 underlying129 underlying133 underlying149 underlying151 underlying153 underlying162 underlying164 underlying166 underlying169 underlying172 underlying174 underlying183 underlying196 underlying198 underlying200 underlying201 underlying220 underlying224 underlying227 underlying233 underlying240 underlying242 underlying244 underlying262 underlying276 underlying282 underlying294 underlying297 underlying304 underlying306 underlying310 underlying312 underlying334 underlying341 underlying350 underlying353 underlying355 underlying357 underlying385 underlying389 underlying393 underlying395 underlying401 underlying418 underlying464 underlying480 underlying504 ntmps3 results3 ntmps4 results4 ntmps5 results5 ntmps6 results6 ntmps7 results7 ntmps8 results8 ntmps9 results9 ntmps10 results10 ntmps11 results11 ntmps12 results12 ntmps13 results13 ntmps14 results14 ntmps15 results15 ntmps16 results16 ntmps17 results17 ntmps18 results18 ntmps19 results19 ntmps20 results20 ntmps21 results21 ntmps22 results22 ntmps23 results23 ntmps24 results24 ntmps25 results25 ntmps26 results26 ntmps27 results27 ntmps28 results28 ntmps29 results29 ntmps30 results30 ntmps31 results31 ntmps32 results32 ntmps33 results33 ntmps34 results34 ntmps35 results35 ntmps36 results36 ntmps37 results37 ntmps38 results38 ntmps39 results39 ntmps40 results40 ntmps41 results41 ntmps42 results42 ntmps43 results43 ntmps44 results44 ntmps45 results45 ntmps46 results46 ntmps47 results47 results48 ntmps49 results49 ntmps50 results50 ntmps51 results51 ntmps52 results52 ntmps53 results53 ntmps54 results54 ntmps55 results55 ntmps56 results56 ntmps57 results57 ntmps58 results58 ntmps59 results59 ntmps60 results60 ntmps61 results61 ntmps62 results62 ntmps63 results63 ntmps64 results64 ntmps65 results65 ntmps66 results66 ntmps67 results67 ntmps68 results68 results69 ntmps70 results70 ntmps71 results71 ntmps72 results72 ntmps73 results73 ntmps74 results74 ntmps75 results75 ntmps76 results76 ntmps77 results77 ntmps78 results78 ntmps79 results79 ntmps80 results80 ntmps81 results81 ntmps82 results82 ntmps83 results83 ntmps84 results84 ntmps85 results85 ntmps86 results86 ntmps87 results87 ntmps88 results88 ntmps89 results89 ntmps90 results90 ntmps91 results91 ntmps92 results92 ntmps93 results93 ntmps94 results94 ntmps95 results95 ntmps96 results96 ntmps97 results97 ntmps98 results98 ntmps99 results99 ntmps100 results100 ntmps101 results101 ntmps102 results102 ntmps103 results103 ntmps104 results104 ntmps105 results105 ntmps106 results106 ntmps107 results107 ntmps108 results108 ntmps109 results109 ntmps110 results110 ntmps111 results111 ntmps112 results112 ntmps113 results113 ntmps114 results114 ntmps115 results115 ntmps116 results116 ntmps117 results117 ntmps118 results118 ntmps119 results119 ntmps120 results120 ntmps121 results121 ntmps122 results122 ntmps123 results123 ntmps124 results124 ntmps125 results125 ntmps126 results126 ntmps127 results127 ntmps128 results128 ntmps129 results129 ntmps130 results130 ntmps131 results131 ntmps132 results132 ntmps133 results133 ntmps134 ntmps135 ntmps136 results136 ntmps137 results137 ntmps138 results138 ntmps139 results139 ntmps140 results140 ntmps141 results141 ntmps142 results142 ntmps143 results143 ntmps144 results144 ntmps145 results145 ntmps146 results146 ntmps147 results147 ntmps148 results148 ntmps149 results149 ntmps150 results150 ntmps151 ntmps152 results152 ntmps153 results153 ntmps154 results154 ntmps155 results155 ntmps156 results156 ntmps157 results157 ntmps158 results158 ntmps159 results159 ntmps160 results160 ntmps161 results161 ntmps162 results162 ntmps163 results163 ntmps164 results164 ntmps165 results165 ntmps166 results166 ntmps167 results167 ntmps168 results168 ntmps169 results169 ntmps170 results170 ntmps171 results171 ntmps172 results172 ntmps173 results173 ntmps174 results174 ntmps175 results175 ntmps176 ntmps177 results177 ntmps178 results178 ntmps179 results179 ntmps180 results180 ntmps181 results181 ntmps182 results182 ntmps183 results183 ntmps184 ntmps185 results185 ntmps186 results186 ntmps187 results187 ntmps188 results188 ntmps189 results189 ntmps190 results190 ntmps191 results191 ntmps192 results192 ntmps193 results193 ntmps194 results194 ntmps195 results195 ntmps196 results196 ntmps197 results197 ntmps198 results198 ntmps199 results199 ntmps200 results200 ntmps201 results201 ntmps202 results202 results203 ntmps204 results204 ntmps205 results205 ntmps206 results206 ntmps207 results207 ntmps208 results208 ntmps209 results209 ntmps210 results210 ntmps211 results211 ntmps212 results212 ntmps213 results213 ntmps214 results214 ntmps216 results216 ntmps217 results217 ntmps218 results218 ntmps219 results219 ntmps220 results220 ntmps221 results221 ntmps222 results222 ntmps223 results223 ntmps224 results224 ntmps225 results225 ntmps226 results226 ntmps227 results227 ntmps228 results228 ntmps229 results229 ntmps230 results230 ntmps231 results231 ntmps232 results232 ntmps233 results233 ntmps234 results234 ntmps235 results235 ntmps236 results236 ntmps237 results237 ntmps238 results238 ntmps239 results239 ntmps240 results240 ntmps241 results241 ntmps242 results242 ntmps243 results243 ntmps244 results244 ntmps253 results253 ntmps254 results254 ntmps255 results255 ntmps256 results256 ntmps257 results257 ntmps258 results258 ntmps259 results259 ntmps260 results260 ntmps261 results261 ntmps262 results262 ntmps263 results263 ntmps264 results264 ntmps265 results265 ntmps266 results266 ntmps267 results267 ntmps268 results268 ntmps269 results269 ntmps270 results270 ntmps271 results271 ntmps272 results272 ntmps273 results273 ntmps274 results274 ntmps275 results275 ntmps276 results276 ntmps277 results277 ntmps278 results278 ntmps279 results279 ntmps280 results280 ntmps281 results281 ntmps283 results283 ntmps284 results284 ntmps285 results285 ntmps286 results286 ntmps292 results292 ntmps293 results293 ntmps294 results294 ntmps295 results295 ntmps296 results296 ntmps297 results297 ntmps298 results298 ntmps299 results299 ntmps300 results300 ntmps301 results301 ntmps302 results302 ntmps303 results303 ntmps304 results304 ntmps305 results305 ntmps306 results306 ntmps307 results307 ntmps308 results308 ntmps309 results309 ntmps310 results310 ntmps311 results311 ntmps312 results312 ntmps313 results313 ntmps314 results314 ntmps315 results315 ntmps316 results316 ntmps317 results317 ntmps318 results318 results319 ntmps320 results320 ntmps324 results324 ntmps325 results325 ntmps327 results327 ntmps328 results328 ntmps329 results329 ntmps330 results330 ntmps331 results331 ntmps333 results333 ntmps354 results354 ntmps355 results355 ntmps356 results356 ntmps357 results357 ntmps359 results359 ntmps360 results360 ntmps361 results361 ntmps362 results362 ntmps363 results363 ntmps364 results364 ntmps365 results365 ntmps366 results366
def pC(a b:Int):Bool:=decide (1<=a)&&decide (a<=1048576)&&decide (0<=b)&&decide (b<=63)
theorem vz{a b:Int}:pC a b=true↔1<=a/\a<=1048576/\0<=b/\b<=63:=by simp[pC,and_assoc]
theorem Du(a b:Int)(H:ab):aO prog 79 [.agg [.int .i64 a,.int .i64 b]] H (.bool<|pC a b):=by refine bg func79 ?_;refine a7 ?_;exact⟨_,_,rfl,.cl _<|.bool _,rfl⟩
def z8(a b c d:Int):Bool:=decide (a<c)||(decide (a=c)&&decide (b<d))
theorem H7{a b c d:Int}:z8 a b c d=true↔(a<c\/(a=c/\b<d)):=by simp[z8]
theorem PQ(a b c d:Int)(H:ab):aO prog 129 [.agg [.int .i64 a,.int .i64 b],.agg [.int .i64 c,.int .i64 d]] H (.bool<|z8 a b c d):=by
 refine bg func129 ?_;repeat' first|(refine ae ?_;simp only[go_sem])|refine bp ?_|(refine bz ?_ ?_<;>intro h<;>try exact bx h)|fail
 all_goals refine⟨_,_,rfl,.cl _<|.bool _,b7 I.bool ?_⟩
 all_goals(rw[zL,H7];simp at *;omega)
def gd(n:Int):Bool:=decide (128<=n)&&decide (n<134217856)
theorem BB{n:Int}:gd n=true↔128<=n/\n<134217856:=by simp[gd]
theorem Ys{n:Int}:gd n=false↔¬(128<=n/\n<134217856):=by rw[<-BB,yq]
def j4(n:Int):Int:=if gd n=true then n / 128 else 0
def zm(n:Int):Int:=if gd n=true then n % 128 / 2 else 0
def x0(n:Int):Bool:=gd n&&decide (n % 2=1)
theorem yH(n:Int)(H:ab):aO prog 133 [.int .i64 n] H (.aN [.agg [.int .i64 (j4 n),.int .i64<|zm n],.bool<|x0 n,.bool<|gd n]):=by
 refine Pv λJ=>?_;have af:=(HK J).2;refine bg func133 ?_;repeat' first|((first|refine cI (Du _ _) ?_|refine ae ?_);simp only[go_sem])|refine bp ?_|(refine bz ?_ ?_<;>intro h<;>try exact bx h)|fail
 all_goals refine TT (k:=3) rfl ?_
 ·have e:gd n=false:=Ys.2 (by simp at h;omega)
  simp[j4,zm,x0,e]
 ·rename_i ay;simp at ay;rw[zG gf,wR gf,zG gf,bS,bS]at h;have cz:¬pC (n / 128) (n % 128 / 2)=true:=oq h;rw[vz]at cz;have e:gd n=false:=Ys.2 gf;simp[j4,zm,x0,e]
 ·rename_i ay;simp at ay;rw[zG gf,wR gf,zG gf,bS,bS]at h ⊢;rw[wR gf];have cz:pC (n / 128) (n % 128 / 2)=true:=oq h;rw[vz]at cz;have e:gd n=true:=BB.2 gf;simp[j4,zm,x0,e]
def dv(n:Int):Bool:=decide (n=0)||decide (n=2)||(gd n&& !x0 n)
theorem va(n:Int)(H:ab):aO prog 98 [.int .i64 n] H (.bool<|dv n):=by
 refine bg func98 ?_;repeat' first|((first|refine cI (yH _) ?_|refine ae ?_);simp only[go_sem])|refine bp ?_|(refine bz ?_ ?_<;>intro h<;>try exact bx h)|fail
 ·exact aEj (k:=3) rfl<|by simp only[dv,h];rfl
 ·exact TT (k:=3) rfl<|by simp only[dv,h];rfl
def vB(a b n:Int):Bool:=gd n&&z8 a b (j4 n) (zm n)
theorem Py(a b n:Int)(H:ab):aO prog 80 [.agg [.int .i64 a,.int .i64 b],.int .i64 n] H (.bool<|vB a b n):=by
 refine bg func80 ?_;repeat' first|((first|refine cI (yH _) ?_|refine cI (PQ _ _ _ _) ?_|refine ae ?_);simp only[go_sem])|refine ai ?_|fail
 exact TT (k:=3) rfl rfl
theorem OS(o:bk)(H:ab):aO prog 78 [bt o] H (if o.kind=1 then .iface 227 (bt o)else if o.kind=2 then .iface 262 (bt o)else .nilIface):=by
 refine bg func78 ?_;simp only[bt];repeat' first|(refine ae ?_;simp only[go_sem])|refine bp ?_|(refine bz ?_ ?_<;>intro h<;>try exact bx h)|fail
 all_goals(simp only[iK,wY]at *)
 ·simp only[h,dW];exact aX<|.refl _
 ·simp only[*,dW,gB];exact aX<|.refl _
 ·simp only[*,dW,gB];exact aX<|.refl _
def wF(p s:al):Bool:=decide (p.length<=s.length)&&decide (s.take p.length=p)
def j7(c:Int):I:=.int .i32 c
def mX(s:al):Nat->Nat->Option (List Int)
 |0,pos=>if pos<s.length then none else some []
 |k+1,pos=>if pos<s.length then
   if(!decide (((jK s pos).1:Int)=65533))=true\/wF [239,191,189] (s.drop pos)=true then(mX s k (pos+(jK s pos).2)).map (((jK s pos).1:Int)::·)else none
  else some []
def tA(s:al):Option (List Int):=mX s s.length 0
theorem TV(s:al)(pos:Nat):1<=(jK s pos).2:=by
 unfold jK Utf8.decode;simp only[];repeat' split
 all_goals simp
def e3{α:Type}(p:α->Bool):List α->Int
 |[]=> -1
 |x::l=>if p x=true then 0 else if e3 p l= -1 then-1 else e3 p l+1
theorem HF{α:Type}(p:α->Bool)(l:List α): -1<=e3 p l:=by
 induction l with
 |nil=>simp[e3]
 |cons x l J=>unfold e3;(repeat' split)<;>omega
theorem HH{α:Type}(p:α->Bool)(l:List α):decide (0<=e3 p l)=l.any p:=by
 induction l with
 |nil=>simp[e3]
 |cons x l J=>
  have:=HF p l;unfold e3;rw[List.any_cons,<-J];by_cases h:p x=true
  ·simp[h]
  ·rw[ar h];have:p x=false:=oq h;rw[this,DT];by_cases h2:e3 p l= -1
   ·simp[h2]
   ·rw[ar h2,zL];simp;omega
theorem G2{α:Type}(p:α->Bool)(l:List α)(i:Nat)(hi:i<l.length)(h:∀k (hk:k<i),p (l[k]'(by omega))=false)(ad:p l[i]=true):e3 p l=i:=by
 induction l generalizing i with
 |nil=>simp at hi
 |cons x l J=>
  cases i with
  |zero=>simp at ad;simp[e3,ad]
  |succ i=>
   have ay:=h 0 gf;simp at ay;have h1:=J i (oq hi) (λk hk=>by simpa using h (k+1) gf)<|oq ad
   unfold e3;rw[ay,h1];simp
theorem G3{α:Type}(p:α->Bool)(l:List α)(h:∀k (hk:k<l.length),p l[k]=false):e3 p l= -1:=by
 induction l with
 |nil=>rfl
 |cons x l J=>
  have ay:=h 0 hW;simp at ay;unfold e3;rw[ay,J λk hk=>h (k+1)<|oq hk]
  rfl
def K5(c:Int):Bool:=decide (c<32)||decide (c=47)||decide (c=127)
def sn(s:al):Bool:=
 match tA s with
 |some l=>bif (decide ((l.length:Int)<1)||decide (20<(l.length:Int))||decide (s=[46])||decide (s=[46,46]))then false else !l.any K5
 |none=>false
theorem aKF(s p:al)(H:ab):aO prog 225 [.str s,.str p] H (.bool<|wF p s):=by
 refine bg func225 ?_;repeat' first|(refine ae ?_;simp only[go_sem])|refine bp ?_|(refine bz ?_ ?_<;>intro h<;>try exact bx h)|fail
 exact bJ<|.of (by simp only[wF,Int.ofNat_le])
theorem Zj(s p:al)(H:ab):aO prog 196 [.str s,.str p] H (.bool<|wF p s):=by
 refine bg func196 ?_;repeat' first|((first|refine cI (aKF _ _) ?_|refine ae ?_);simp only[go_sem])|refine ai ?_|fail
 exact bJ<|.refl _
theorem aHi(c:Int)(H:ab):aO prog 286 [.int .i32 c] H (.bool<|K5 c):=by refine bg func286 ?_;refine a7 ?_;exact bJ<|.refl _
theorem aF8(b:Bool)(l:List Int)(J:I)(p:Int->Bool)(H:ab)(T:∀c,yu prog J [.int .i32 c] H (.bool<|p c)):
  aO prog 325 [.sl b (l.map j7),J] H (.int .i64<|e3 p l):=by
 refine xX λV _=>?_;have hl:=wO V;rw[dq]at hl;refine bg func325 ?_;refine a7 ?_;refine c7 (ι:=Nat) (λi=>[(0,.sl b<|l.map j7),(1,J),(7,.int .i64 l.length),(8,.int .i64 i)]) (λ_=>H) (λi=>i<=l.length/\∀k (hk:k<i) (S:k<l.length),p l[k]=false) (λi=>l.length-i) 0 ⟨cb _,λk hk=>gf⟩ ?_ rfl ?_
 ·simp[go_sem]
 ·rintro i ⟨hi,U⟩;by_cases O:i<l.length
  ·have ad:=ek j7 O;repeat' first|(refine ae ?_;simp only[go_sem,ad,j7])|refine bp ?_|(refine bz ?_ ?_<;>intro h<;>try exact bx h)|fail
   refine OY (T _) ?_;simp only[go_sem];repeat' first|refine a7 ?_|(refine bz ?_ ?_<;>intro h<;>try exact bx h)|fail
   ·exact bJ<|.of (by rw[G2 p l i O (λk hk=>U k hk gf) h])
   ·refine⟨i+1,⟨O,λk hk S=>?_⟩,gf,by rw[bS];rfl⟩
    by_cases e:k=i
    ·subst e;exact h
    ·exact U k gf S
  ·have Z:i=l.length:=gf;repeat' first|(refine ae ?_;simp only[go_sem])|refine bp ?_|(refine bz ?_ ?_<;>intro h<;>try exact bx h)|fail
   subst Z;exact bJ<|.of (by rw[G3 p l λk hk=>U k hk hk])
theorem aF9(b:Bool)(l:List Int)(U:I)(p:Int->Bool)(H:ab)(O:∀c,yu prog U [.int .i32 c] H (.bool<|p c)):
  aO prog 285 [.sl b (l.map j7),U] H (.bool<|l.any p):=by
 refine bg func285 ?_;have J:=aF8 b l U p H O;repeat' first|((first|refine hI J ?_|refine ae ?_);simp only[go_sem])|refine ai ?_|fail
 exact bJ<|.of (by rw[HH])
theorem Nw(s:al):∀(k j pos:Nat),s.length<=pos+k->s.length<=pos+j->mX s k pos=mX s j pos
 |0,0,pos,_,_=>rfl
 |0,j+1,pos,h1,_=>by unfold mX;rw[ar gf,ar gf]
 |k+1,0,pos,_,h2=>by unfold mX;rw[ar gf,ar gf]
 |k+1,j+1,pos,h1,h2=>by have:=TV s pos;unfold mX;rw[Nw s k j _ gf gf]
def G7(s:al)(acc:List Int)(pos:Nat):Option (List Int):=(mX s (s.length-pos) pos).map (acc++·)
theorem aE0{s:al}{pos:Nat}(h:¬pos<s.length):G7 s acc pos=some acc:=by unfold G7;rw[Nw s _ 0 pos gf gf];simp[mX,h]
theorem aEl{s:al}{pos:Nat}(h:pos<s.length):G7 s acc pos=
  if(!decide (((jK s pos).1:Int)=65533))=true\/wF [239,191,189] (s.drop pos)=true then G7 s (acc++[((jK s pos).1:Int)]) (pos+(jK s pos).2)else none:=by
 have hw:=TV s pos;unfold G7;rw[Nw s _ (s.length-pos-1+1) pos gf gf];conv=>lhs;unfold mX
 rw[aC h];split
 ·rw[Nw s (s.length-pos-1) (s.length-(pos+(jK s pos).2)) _ gf gf];cases mX s (s.length-(pos+(jK s pos).2)) (pos+(jK s pos).2)<;>simp
 ·rfl
def H3(r:Option (List Int)):I:=
 match r with
 |some l=>.aN [.sl false (l.map j7),.bool true]
 |none=>.aN [.sl false [],.bool false]
theorem PD(n:Nat)(k:IntKind):(List.replicate n (I.int k 0)).flatMap I.cells=List.replicate n (I.int k 0):=by
 induction n with
 |zero=>rfl
 |succ n J=>rw[zH,nj,J];rfl
theorem N8(A:List I)(m:Nat)(z x:I):du (A++List.replicate (m+1) z) A.length [x]=(A++[x])++List.replicate m z:=by simp[du,zH]
def PR(s:al)(x:Nat×List Int):ab:=[.cells 1 (x.2.map j7++List.replicate (s.length-x.2.length) (I.int .i32 0)),.mI s x.1]
theorem Y1(s:al)(hs:s.length<=1073741824)(H:ab):aO prog 223 [.str s] H (H3<|tA s):=by
 refine bg func223 ?_;repeat' first|(refine ae ?_;simp only[go_sem])|refine bp ?_|(refine bz ?_ ?_<;>intro h<;>try exact bx h)|fail
 refine c7 (ι:=Nat×List Int) (λx=>[(0,.str s),(4,.osl 1 H.length 1 0 x.2.length s.length),(5,.bool true),(12,.iter<|H.length+1)]) (λx=>H++PR s x)
  (λx=>G7 s x.2 x.1=tA s/\x.2.length<=x.1) (λx=>s.length+4-x.1) (0,[]) ?_ ?_ ?_ ?_
 ·refine⟨?_,bh _⟩;show(mX s (s.length-0) 0).map _=_;rw[tA,Nat.sub_zero];cases mX s s.length 0<;>simp
 ·simp[go_sem]
 ·simp[PR,PD]
 ·rintro⟨pos,acc⟩ ⟨h1,h2⟩;simp only[PR]at h1 h2 ⊢;by_cases T:pos<s.length
  ·have aT:¬acc.length=s.length:=gf;have hlen:(acc.map j7).length=acc.length:=dq ..;obtain⟨m,hm⟩:∃m,s.length-acc.length=m+1:=⟨s.length-acc.length-1,gf⟩;have q1:s.length-(acc.length+1)=m:=gf;have hw:=TV s pos;have U:=aEl (acc:=acc) T;rw[h1]at U;repeat' first|((first|refine cI (Zj _ _) ?_|refine ae ?_);simp only[go_sem,T,aT])|refine bp ?_|(refine bz ?_ ?_<;>intro h<;>try exact bx h)|fail
   ·rw[aC (.inl h)]at U;refine⟨⟨by rw[zI];omega,gf,λe he=>by rw[he];rfl⟩,(pos+(jK s pos).2,acc++[((jK s pos).1:Int)]),⟨U.symm,nc⟩,nc,hW,?_⟩
    have O:=N8 (acc.map j7) m (.int .i32 0)<|.int .i32 (jK s pos).1;rw[hlen]at O;simp[hm,q1,j7]at O ⊢;exact O
   ·rename_i _ b6 V;exact Bool.noConfusion<|b6.symm.trans V
   ·rw[aC (.inr h)]at U;refine⟨⟨by rw[zI];omega,gf,λe he=>by rw[he];rfl⟩,(pos+(jK s pos).2,acc++[((jK s pos).1:Int)]),⟨U.symm,nc⟩,nc,hW,?_⟩
    have O:=N8 (acc.map j7) m (.int .i32 0)<|.int .i32 (jK s pos).1;rw[hlen]at O;simp[hm,q1,j7]at O ⊢;exact O
   ·rename_i _ V lE;rw[ar (by rw[V,lE];simp)]at U
    rw[U];exact aX<|.aN _ _ rfl (de (.sl _ _) (de (.refl _) kZ))
  ·refine hH ?_;rw[<-h1,aE0 T];refine⟨_,_,rfl,?_,rfl⟩;refine .aN _ _ rfl λi x y J S=>?_
   match i,J,S with
   |0,J,S=>
    cases J;cases S;refine .osl 1 H.length 1 0 acc.length s.length (acc.map j7++List.replicate (s.length-acc.length) (I.int .i32 0)) _ (bh _) (by simp[go_sem]) hW hW (λe he=>?_) (λk j e x y hk Z J=>?_)
    ·obtain⟨c,_,rfl⟩:=bP.1 he;rfl
    ·rw[nk,gA]at hk;obtain⟨c,ao,rfl⟩:=hk;have aPy:j=0:=by
      have:=(cu.1 Z).1;simp[j7,I.cells]at this;exact this
     subst aPy;have nW:=(cu.1 ao).1;simp only[j7,I.cells,List.getElem?_cons_zero,Option.some.injEq]at Z;subst Z;rw[mi,wU,lr,jc (oq nW),nk,ao]at J;cases J;exact .cl _<|.int _ _
   |1,J,S=>cases J;cases S;exact .cl _<|.bool _
   |i+2,J,_=>simp at J
theorem Ol(s:al)(hs:s.length<=1073741824)(H:ab):aO prog 243 [.str s] H (.bool<|sn s):=by
 refine bg func243 ?_;have J:=Y1 s hs H;have U:∀l:List Int,aO prog 285 [.sl false (l.map j7),.func (.func 286) [] []] H (.bool<|l.any K5):=λl=>aF9 false l _ K5 H λc=>.mk (first:=[]) (cap:=[]) (λL=>aHi c<|H++L) aI
 unfold sn;cases O:tA s with
 |none=>
  rw[O]at J;simp only[H3]at J;repeat' first|((first|refine hI J ?_|refine ia (U _) aI ?_|refine kg (U _) aI ?_|refine kh (λ_=>U _) aI ?_|refine ae ?_);simp only[go_sem])|refine ai ?_|fail
  exact bJ<|.refl _
 |some l=>
  rw[O]at J;simp only[H3]at J;repeat' first|((first|refine hI J ?_|refine ia (U _) aI ?_|refine kg (U _) aI ?_|refine kh (λ_=>U _) aI ?_|refine ae ?_);simp only[go_sem])|refine bp ?_|(refine bz ?_ ?_<;>intro h<;>try exact bx h)|fail
  ·exact bJ<|.of (by simp only[h,tM])
  ·exact bJ<|.of (by simp only[h,vn])
def hR(o:bk):Prop:=o.name.length<=1073741824/\o.data.length<=1073741824
def vr(o:bk):Bool:=gd o.node&&dv o.parent&& !vB o.at_.c o.at_.r o.parent&&sn o.name&&decide (o.data=[])
def w9(o:bk):Bool:=gd o.node&&x0 o.node&&decide ((o.data.length:Int)<=64)&&decide (o.parent=0)&&decide (o.name=[])
def cp(o:bk):Bool:=(decide (o.kind=1)||decide (o.kind=2))&&pC o.at_.c o.at_.r&& !vB o.at_.c o.at_.r o.node&&(if o.kind=1 then vr o else w9 o)
theorem aJl(o:bk)(hs:hR o)(H:ab):aO prog 354 [bt o] H (.bool<|vr o):=by
 refine bg func354 ?_;have J:=hs.1;simp only[bt];repeat' first|((first|refine cI (yH _) ?_|refine cI (va _) ?_|refine cI (Py _ _ _) ?_|refine ia (Ol _ (by first|assumption|decide|omega|(simp_all;done)|(simp_all;omega)) _) aI ?_|refine kg (Ol _ (by first|assumption|decide|omega|(simp_all;done)|(simp_all;omega)) _) aI ?_|refine kh (λ_=>Ol _ (by first|assumption|decide|omega|(simp_all;done)|(simp_all;omega)) _) aI ?_|refine ae ?_);simp only[go_sem])|refine ai ?_|fail
 exact aX<|.refl _
theorem aJm(o:bk)(H:ab):aO prog 356 [bt o] H (.bool<|w9 o):=by
 refine bg func356 ?_;simp only[bt];repeat' first|((first|refine cI (yH _) ?_|refine ae ?_);simp only[go_sem])|refine ai ?_|fail
 exact aX<|.refl _
theorem DJ(o:bk)(hs:hR o)(H:ab):aO prog 39 [bt o] H (.bool<|cp o):=by
 refine bg func39 ?_;have hk:=OS o;have hm:=aJl o hs;have hw:=aJm o;simp only[bt]at hk hm hw ⊢;by_cases h1:o.kind=1
 ·simp only[h1,dW]at hk hm ⊢;repeat' first|((first|refine cI (Du _ _) ?_|refine cI (Py _ _ _) ?_|refine oz (hm _) aI ?_|refine oA (λ_=>hm _) aI ?_|refine oB (λ_=>hm _) aI ?_|refine ae ?_);simp only[go_sem])|refine ai ?_|fail
  exact aX<|.of (by simp[cp,h1])
 ·by_cases h2:o.kind=2
  ·simp only[h2,dW,gB,Int.reduceEq]at hk hw ⊢;repeat' first|((first|refine cI (Du _ _) ?_|refine cI (Py _ _ _) ?_|refine oz (hw _) aI ?_|refine oA (λ_=>hw _) aI ?_|refine oB (λ_=>hw _) aI ?_|refine ae ?_);simp only[go_sem])|refine ai ?_|fail
   exact aX<|.of (by simp[cp,h1,h2])
  ·simp only[h1,h2,gB]at hk;repeat' first|(refine ae ?_;simp only[go_sem])|refine bp ?_|(refine bz ?_ ?_<;>intro h<;>try exact bx h)|fail
   exact aX<|.of (by simp[cp,h1,h2])
def xa:Option Int->List aH->Bool
 |_,[]=>true
 |p,n::l=>(gd n.id&&(match p with|none=>true|some q=>decide<|q<n.id))&&xa (some n.id) l
def cG(l:List aH):Bool:=xa none l
def Bq(l:List aH)(i:Nat):Option Int:=if i=0 then none else(l[i-1]?).map (·.id)
theorem aGa(h:i<l.length):xa (Bq l i) (l.drop i)=
  ((gd l[i].id&& !(decide ((0:Int)<(i:Int))&&decide (l[i].id<=(l[i-1]'(by omega)).id)))&&xa (Bq l<|i+1) (l.drop<|i+1)):=by
 rw[ir h,show xa (Bq l i) (l[i]::l.drop (i+1))=((gd l[i].id&&(match Bq l i with|none=>true|some q=>decide<|q<l[i].id))&&xa (some l[i].id) (l.drop<|i+1))from rfl]
 have e:Bq l (i+1)=some l[i].id:=by simp[Bq,dn h]
 unfold Bq;grind
def LI(p:Option Int)(l:List aH):Prop:=match p with|none=>True|some q=>∀x∈l,q<x.id
theorem aHj(p:Option Int)(l:List aH):xa p l=true↔(∀x∈l,gd x.id=true)/\l.Pairwise (λa b=>a.id<b.id)/\LI p l:=by
 induction l generalizing p with
 |nil=>cases p<;>simp[xa,LI]
 |cons n l J=>grind [xa,List.pairwise_cons,LI,db,Option,Int,List,gd]
theorem zl(l):cG l=true↔(∀x∈l,gd x.id=true)/\l.Pairwise (λa b=>a.id<b.id):=by unfold cG;rw[aHj];simp[LI]
def pos:List aH->Int->Nat
 |[],_=>0
 |n::l,id=>if n.id<id then pos l id+1 else 0
def fi(l:List aH)(id:Int):Option aH:=l.find? λn=>decide (n.id=id)
def iR(l:List aH)(id:Int):Bool:=(fi l id).isSome
theorem aKG(l:List aH)(id:Int):pos l id<=l.length:=by
 induction l with
 |nil=>exact bh _
 |cons n l J=>unfold pos;split<;>simp<;>omega
theorem aKH(hi:i<=l.length)(h1:∀k (hk:k<i),(l[k]'(by omega)).id<id)(h2:∀(h),¬l[i].id<id):pos l id=i:=by
 induction l generalizing i with
 |nil=>simp at hi;subst hi;rfl
 |cons n l J=>
  unfold pos;cases i with
  |zero=>grind
  |succ i=>have:=h1 0 gf;simp at this;rw[aC this,J (oq hi) (λk hk=>j9) λh=>j9]
theorem Xs(hs:cG l=true):fi l id=match l[pos l id]? with|some n=>if n.id=id then some n else none|none=>none:=by
 have ad:=((zl l).1 hs).2;clear hs;induction l with
 |nil=>rfl
 |cons n l J=>
  rw[List.pairwise_cons]at ad;unfold fi pos;rw[List.find?_cons];by_cases h:n.id<id
  ·rw[aC h,dA];simp only[vi];exact J ad.2
  ·grind
theorem Dv(hs:cG l=true):iR l id=(match l[pos l id]? with|some n=>decide (n.id=id)|none=>false):=by
 rw[iR,Xs hs];split
 ·split<;>simp_all
 ·rfl
theorem x3(hs:cG l=true)(h:iR l id=true):pos l id<l.length:=by
 rw[Dv hs]at h;split at h
 ·rename_i n af;exact(cu.1 af).1
 ·cases h
theorem K6(hs)(h):fi l id=some (l[pos l id]'(x3 hs h)):=by rw[Dv hs]at h;rw[Xs hs];grind
theorem Lv(h:iR l id=false):fi l id=none:=by unfold iR at h;cases J:fi l id<;>simp_all
def k0(l:List aH):Nat->Int->List Int
 |0,_=>[]
 |k+1,id=>match fi l id with
  |none=>[]
  |some n=>if n.parent= -1 then[]else n.parent::k0 l k n.parent
def hS(l:List aH)(id:Int):List Int:=k0 l l.length id
def n4(l:List aH)(id:Int):List Int:=if cG l=true then hS l id else[]
def z6(l:List aH)(id:Int):Option aH:=if cG l=true then fi l id else none
def nd(l:List aH)(i j:Nat)(xs:List aH):List aH:=l.take i++xs++l.drop j
def uT(l:List aH)(o:bk):Bool:=decide (o.parent=o.node)||(hS l o.parent).any (λx=>decide<|x=o.node)
def refused(l:List aH)(o:bk):Bool:= !cG l|| !cp o||(decide (o.kind=1)&&uT l o)
def qd(l:List aH)(o:bk):aH:=match fi l o.node with|some n=>n|none=>{uU with id:=o.node,parent:= -1}
def jI(l:List aH)(o:bk):aH:=
 if o.kind=1 then{qd l o with parent:=o.parent,name:=o.name,gx:=o.at_}else{qd l o with data:=o.data,wrote:=o.at_}
def upto(l:List aH)(id:Int):Nat:=if iR l id=true then pos l id+1 else pos l id
def eo(l:List aH)(o:bk):List aH:=if refused l o=true then l else nd l (pos l o.node) (upto l o.node) [jI l o]
def ku(l:List aH)(o:bk):Ee:=if refused l o=true then Qx else⟨true,iR l o.node,(fi l o.node).getD uU⟩
def tv(l:List aH)(o:bk)(u:Ee):List aH:=
 if(!cG l|| !u.um)=true then l
 else if(gd o.node&&u.iR&&decide (u.b5.id=o.node))=true then nd l (pos l o.node) (upto l o.node) [u.b5]
 else nd l (pos l o.node) (upto l o.node) []
theorem K7(l)(id)(hs:cG l=true):pos l id<=upto l id/\upto l id<=l.length:=by
 have:=aKG l id;unfold upto;split
 ·rename_i h;have:=x3 hs h;omega
 ·omega
theorem Om(l:List aH)(i j:Nat)(xs:List aH)(h:i<=j)(J:j<=l.length):(nd l i j xs).length+j=i+xs.length+l.length:=by simp[nd];omega
theorem aGb{n:Nat}(h:i<n)(af:n<=9223372036854775807):IntKind.i64.wrap ((i:Int)-1)=(i:Int)-1:=bS
theorem aE1(i:Nat):((i:Int)-1).toNat=i-1:=gf
theorem eb{n:Nat}(h:i<n)(af:n<=9223372036854775807):IntKind.i64.wrap ((i:Int)+1)=((i+1:Nat):Int):=by rw[bS];rfl
theorem lP(b:Bool)(l:List aH)(H:ab):aO prog 93 [.sl b (l.map bj)] H (.bool<|cG l):=by
 refine Pv λU=>?_;have hl:=wO U;rw[dq]at hl;refine bg func93 ?_;refine a7 ?_;refine c7 (ι:=Nat×ab) (λx=>[(0,.sl b<|l.map bj),(8,.sl b<|l.map bj),(9,.int .i64 l.length),(10,.int .i64 x.1)]) (λx=>H++x.2) (λx=>x.1<=l.length/\cG l=xa (Bq l x.1) (l.drop x.1)) (λx=>l.length-x.1) (0,[]) ⟨cb _,rfl⟩ ?_ hW ?_
 ·simp[go_sem]
 ·rintro⟨i,L⟩ ⟨hi,he⟩;simp only at hi he ⊢;generalize a7:H++L=G;by_cases J:i<l.length
  ·have ad:=ek bj J;have aM:=ek bj<|show i-1<l.length by omega
   have hw:=aGb J hl;have ag:=aE1 i;rw[aGa J]at he;repeat' first|((first|refine cI (yH _) ?_|refine ae ?_);simp only[go_sem,ad,aM,hw,ag,bj])|refine bp ?_|(refine bz ?_ ?_<;>intro h<;>try exact bx h)|fail
   ·refine Qf a7 mZ<|.of ?_
    have h2:(gd l[i].id&& !(decide ((0:Int)<(i:Int))&&decide (l[i].id<=l[i-1].id)))=false:=by rw[<-yt,Bool.not_and,Bool.not_not];exact h
    rw[he,h2];rfl
   ·have h2:(gd l[i].id&& !(decide ((0:Int)<(i:Int))&&decide (l[i].id<=l[i-1].id)))=true:=by rw[<-Bool.not_eq_false',Bool.not_and,Bool.not_not];exact h
    rw[h2,vk]at he;exact⟨(i+1,_),⟨J,he⟩,by simp only;omega,b7 _<|eb J hl,aLW a7⟩
  ·have O:i=l.length:=gf;subst O;repeat' first|(refine ae ?_;simp only[go_sem])|refine ai ?_|fail
   refine PG a7 mZ<|.of ?_
   rw[he,qD];rfl
def xb(a b:Int):Int:=if a<b then-1 else if b<a then 1 else 0
theorem aLL(a:Int)(H:ab):aO prog 240 [.int .i64 a] H (.bool false):=by refine bg func240 ?_;refine a7 ?_;exact bJ<|.of hW
theorem aLM(a b:Int)(H:ab):aO prog 213 [.int .i64 a,.int .i64 b] H (.int .i64<|xb a b):=by
 refine bg func213 ?_;repeat' first|((first|refine cI (aLL _) ?_|refine ae ?_);simp only[go_sem])|refine bp ?_|(refine bz ?_ ?_<;>intro h<;>try exact bx h)|fail
 all_goals(simp only[iK,wY]at *)
 ·exact bJ<|.of (by rw[xb,aC h])
 ·exact bJ<|.of (by rw[xb,ar (by assumption),aC h])
 ·exact bJ<|.of (by rw[xb,ar (by assumption),ar h])
theorem aKI(n:aH)(id:Int)(H:ab):aO prog 212 [bj n,.int .i64 id] H (.int .i64<|xb n.id id):=by
 refine bg func212 ?_;simp only[bj];repeat' first|((first|refine cI (aLM _ _) ?_|refine ae ?_);simp only[go_sem])|refine ai ?_|fail
 exact aX<|.refl _
theorem aKJ{n:Nat}(hi:i<=j)(U:j<=n)(af:n<=9223372036854775807):
  IntKind.i64.wrap ((IntKind.u64.wrap (IntKind.i64.wrap<|(i:Int)+(j:Int))).fdiv (2 ^ min 1 64))=(((i+j) / 2:Nat):Int):=by
 have ax:IntKind.u64.wrap (IntKind.i64.wrap<|(i:Int)+(j:Int))=(i:Int)+(j:Int):=by rw[IntKind.wrap_i64,IntKind.wrap_u64];omega
 have J:(2:Int) ^ min 1 64=2:=ko;rw[ax,J,Int.fdiv_eq_ediv_of_nonneg _ gf,bS];omega
theorem aMx(b:Bool)(l:List aH)(id:Int)(fn:Fn)(fs cs:List I)(hs:cG l=true)(H:ab)(Z:∀n:aH,yu prog (.func fn fs cs) [bj n,.int .i64 id] H (.int .i64<|xb n.id id)):
  aO prog 211 [.sl b (l.map bj),.int .i64 id,.func fn fs cs] H (.aN [.int .i64 (pos l id),.bool<|iR l id]):=by
 refine Pw λbq _ _=>?_;have hl:=wO bq;rw[dq]at hl;have Sg:=((zl l).1 hs).2;rw[KR]at Sg;simp only[bj]at Z;refine bg func211 ?_;refine a7 ?_;refine c7 (ι:=Nat×Nat) (λx=>[(0,.sl b<|l.map bj),(1,.int .i64 id),(2,.func fn fs cs),(8,.int .i64 l.length),(9,.int .i64 x.1),(10,.int .i64 x.2)]) (λx=>H)
  (λx=>x.1<=x.2/\x.2<=l.length/\(∀k (h:k<l.length),k<x.1->l[k].id<id)/\∀k (h:k<l.length),x.2<=k->¬l[k].id<id) (λx=>x.2-x.1) (0,l.length) ⟨cb _,bh _,λk _ h=>by simp at h,λk h h2=>by simp at h2;omega⟩ ?_ rfl ?_
 ·simp[go_sem]
 ·rintro⟨i,j⟩ ⟨hi,O,h1,h2⟩;simp only at hi O h1 h2 ⊢;by_cases av:i<j
  ·have hm:=aKJ hi O hl;have S:(i+j) / 2<l.length:=gf;have ad:=ek bj S;repeat' first|(refine ae ?_;simp only[go_sem,hm,ad,bj])|refine ai ?_|fail
   refine OY (Z _) ?_;simp only[go_sem,hm,ad,bj];repeat' first|refine hH ?_|(refine bz ?_ ?_<;>intro h<;>try exact bx h)|fail
   ·have T:l[(i+j) / 2].id<id:=by
     have cz:=nI h;unfold xb at cz;repeat' split at cz
     all_goals omega
    refine⟨((i+j) / 2+1,j),⟨by simp only;omega,O,λk hk ew=>?_,h2⟩,by simp only;omega,b7 _<|eb S hl,rfl⟩
    simp only at ew;rcases BJ k ((i+j) / 2)with J|J
    ·exact Int.lt_trans (Sg k _ hk S J) T
    ·obtain rfl:k=(i+j) / 2:=gf;exact T
   ·have T:¬l[(i+j) / 2].id<id:=by
     have cz:=of_decide_eq_false h;unfold xb at cz;repeat' split at cz
     all_goals omega
    refine⟨(i,(i+j) / 2),⟨by simp only;omega,by simp only;omega,h1,λk hk ew=>?_⟩,by simp only;omega,rfl,rfl⟩
    simp only at ew;rcases BJ ((i+j) / 2) k with J|J
    ·have:=Sg _ k S hk J;omega
    ·obtain rfl:k=(i+j) / 2:=gf;exact T
  ·have dB:i=j:=gf;subst dB;have uE:=aKH O (λk hk=>h1 k gf hk) λh=>h2 i h (bh _);by_cases V:i<l.length
   ·have ad:=ek bj V;repeat' first|(refine ae ?_;simp only[go_sem,ad,bj])|refine ai ?_|fail
    have U:=λn=>(Z n) [];simp only[cE]at U;refine⟨_,λ_=>U _,?_⟩;simp only[go_sem,ad,bj];refine hH ?_;refine bJ<|.of ?_;rw[Dv hs,uE,dn V];have ax:decide ((i:Int)<(l.length:Int))=true:=oq V
    have aq:decide (xb l[i].id id=0)=decide (l[i].id=id):=by
     unfold xb;rcases Int.lt_trichotomy l[i].id id with q|q|q
     ·rw[aC q,b0<|show ¬l[i].id=id by omega];rfl
     ·rw[ar gf,ar gf,dr q];rfl
     ·rw[ar gf,aC q,b0<|show ¬l[i].id=id by omega];rfl
    rw[ax,aq];rfl
   ·refine hH ?_;have ax:decide ((i:Int)<(l.length:Int))=false:=oq V;refine⟨.int .i64 1,λaP=>?_,?_⟩
    ·rw[ax]at aP;cases aP
    simp only[go_sem];refine a7 ?_;refine bJ<|.of ?_;rw[Dv hs,uE,wW gf,ax];rfl
theorem K8(b:Bool)(l:List aH)(id:Int)(hs:cG l=true)(H:ab):aO prog 180 [.sl b (l.map bj),.int .i64 id] H (.aN [.int .i64 (pos l id),.bool<|iR l id]):=by
 refine bg func180 ?_;have J:=aMx b l id (.func 212) [] [] hs H λn=>.mk (first:=[]) (cap:=[]) (λL=>aKI n id<|H++L) aI
 repeat' first|((first|refine hI J ?_|refine ae ?_);simp only[go_sem])|refine ai ?_|fail
 exact bJ<|.refl _
def aCr(r:Option aH):I:=.aN [bj (r.getD uU),.bool r.isSome]
theorem aKp(b:Bool)(l:List aH)(id:Int)(H:ab):aO prog 302 [.sl b (l.map bj),.int .i64 id] H (aCr<|z6 l id):=by
 refine bg func302 ?_;unfold z6;cases hs:cG l with
 |false=>
  repeat' first|((first|refine cI (lP _ _) ?_|refine ae ?_);simp only[go_sem,hs])|refine ai ?_|fail
  exact aX<|.refl _
 |true=>
  have O:=K8 b l id hs;cases J:iR l id with
  |false=>
   repeat' first|((first|refine cI (lP _ _) ?_|refine ae ?_);simp only[go_sem,hs,J])|refine ai ?_|fail
   rw[Lv J];exact aX<|.refl _
  |true=>
   have U:=x3 hs J;have ad:=ek bj U;rw[K6 hs J];repeat' first|((first|refine cI (lP _ _) ?_|refine ae ?_);simp only[go_sem,hs,J,ad,bj])|refine ai ?_|fail
   exact aX<|.refl _
def U2:List cK:=[.aQ,.aQ,.ah 0,.aQ,.aQ,.ah 0,.bW []]
attribute [go_sem] U2
theorem aHk(b:Bool)(l:List Int)(v:Int)(H:ab):
  aO prog 214 [.sl b (l.map bu),.int .i64 v] H (.int .i64<|e3 (λx=>decide (v=x)) l):=by
 refine xX λS _=>?_;have hl:=wO S;rw[dq]at hl;refine bg func214 ?_;refine a7 ?_;refine c7 (ι:=Nat) (λi=>[(0,.sl b<|l.map bu),(1,.int .i64 v),(7,.int .i64 l.length),(8,.int .i64 i)]) (λ_=>H) (λi=>i<=l.length/\∀k (hk:k<i) (O:k<l.length),decide (v=l[k])=false) (λi=>l.length-i) 0 ⟨cb _,λk hk=>gf⟩ ?_ rfl ?_
 ·simp[go_sem]
 ·rintro i ⟨hi,J⟩;by_cases U:i<l.length
  ·have ad:=ek bu U;repeat' first|(refine ae ?_;simp only[go_sem,ad,bu])|refine bp ?_|(refine bz ?_ ?_<;>intro h<;>try exact bx h)|fail
   ·exact bJ<|.of (by rw[G2 (λx=>decide (v=x)) l i U (λk hk=>J k hk gf) h])
   ·refine⟨i+1,⟨U,λk hk O=>?_⟩,gf,by rw[bS];rfl⟩
    by_cases e:k=i
    ·subst e;simpa using h
    ·simpa using J k gf O
  ·have T:i=l.length:=gf;repeat' first|(refine ae ?_;simp only[go_sem])|refine bp ?_|(refine bz ?_ ?_<;>intro h<;>try exact bx h)|fail
   subst T;exact bJ<|.of (by rw[G3 (λx=>decide (v=x)) l λk hk=>J k hk hk])
theorem Ka(b:Bool)(l:List Int)(v:Int)(H:ab):
  aO prog 183 [.sl b (l.map bu),.int .i64 v] H (.bool<|l.any λx=>decide (x=v)):=by
 refine bg func183 ?_;repeat' first|((first|refine cI (aHk _ _ _) ?_|refine ae ?_);simp only[go_sem])|refine bp ?_|(refine bz ?_ ?_<;>intro h<;>try exact bx h)|fail
 refine bJ<|.of ?_;rw[HH];congr 2;funext x;exact decide_eq_decide.2 ⟨Eq.symm,Eq.symm⟩
theorem xQ(l:List Int):(l.map bu).flatMap I.cells=l.map bu:=by
 induction l with
 |nil=>rfl
 |cons x l J=>rw[dO,nj,J];rfl
theorem A9(l:List Int):∀e∈l.map bu,e.cells.length=1:=λe he=>by obtain⟨x,_,rfl⟩:=bP.1 he;rfl
theorem Xt(b:Bool)(l:List aH)(id:Int)(hs:cG l=true)(hl:l.length<=1073741824)(H:ab):aO prog 145 [.sl b (l.map bj),.int .i64 id] H (.sl false<|(hS l id).map bu):=by
 refine bg func145 ?_;have O:=λid=>K8 b l id hs;refine a7 ?_;refine xU 5 1 mZ ?_;refine c7 (ι:=List Int×Int) (λx=>[(0,.sl b<|l.map bj),(1,.int .i64 x.2),(5,.osl 1 H.length (x.1.length+1) 0 x.1.length x.1.length)]) (λx=>H++[.cells (x.1.length+1) (x.1.map bu)])
  (λx=>x.1.length<=l.length/\x.1++k0 l (l.length-x.1.length) x.2=hS l id) (λx=>l.length-x.1.length) ([],id) ⟨cb _,rfl⟩ ?_ rfl ?_
 ·simp[go_sem]
 ·rintro⟨acc,U⟩ ⟨af,he⟩;simp only at af he ⊢;by_cases V:acc.length<l.length
  ·obtain⟨m,hm⟩:∃m,l.length-acc.length=m+1:=⟨l.length-acc.length-1,gf⟩;rw[hm,k0]at he;cases J:iR l U with
   |false=>
    rw[Lv J]at he;repeat' first|((first|refine cI (O _) ?_|refine ae ?_);simp only[go_sem,J])|refine bp ?_|(refine bz ?_ ?_<;>intro h<;>try exact bx h)|fail
    exact uV (cs:=acc.map bu) (es:=acc.map bu) (rest:=[]) (bh _) mZ (by rw[xQ,cE]) hW (A9 acc) (λe he=>by obtain⟨c,_,rfl⟩:=bP.1 he;exact .int _ _)<|by rw[<-he];simp
   |true=>
    have S:=x3 hs J;have ad:=ek bj S;rw[K6 hs J]at he;simp only at he;repeat' first|((first|refine cI (O _) ?_|refine ae ?_);simp only[go_sem,J,ad,bj])|refine bp ?_|(refine bz ?_ ?_<;>intro h<;>try exact bx h)|fail
    ·rw[aC (nI h)]at he;exact uV (cs:=acc.map bu) (es:=acc.map bu) (rest:=[]) (bh _) mZ (by rw[xQ,cE]) hW (A9 acc) (λe he=>by obtain⟨c,_,rfl⟩:=bP.1 he;exact .int _ _)<|by rw[<-he];simp
    ·rw[ar (of_decide_eq_false h)]at he;exact⟨⟨gf,λe he=>by rw[he];rfl,gf⟩,(acc++[l[pos l U].parent],l[pos l U].parent),⟨nc,by rw[<-he];simp[show l.length-(acc.length+1)=m by omega]⟩,nc,⟨rfl,hW⟩,by simp[bu]⟩
  ·refine hH ?_;have T:l.length-acc.length=0:=gf;rw[T]at he;exact uV (cs:=acc.map bu) (es:=acc.map bu) (rest:=[]) (bh _) mZ (by rw[xQ,cE]) hW (A9 acc) (λe he=>by obtain⟨c,_,rfl⟩:=bP.1 he;exact .int _ _)<|by rw[<-he];simp[k0]
theorem PE(b:Bool)(l:List aH)(id:Int)(hl:l.length<=1073741824)(H:ab):aO prog 94 [.sl b (l.map bj),.int .i64 id] H (.sl false<|(n4 l id).map bu):=by
 refine bg func94 ?_;unfold n4;cases hs:cG l with
 |false=>
  repeat' first|((first|refine cI (lP _ _) ?_|refine ae ?_);simp only[go_sem,hs])|refine bp ?_|(refine bz ?_ ?_<;>intro h<;>try exact bx h)|fail
  exact bJ<|.sl _ _
 |true=>
  have J:=Xt b l id hs hl;repeat' first|((first|refine cI (lP _ _) ?_|refine ae ?_);simp only[go_sem,hs])|refine bp ?_|(refine bz ?_ ?_<;>intro h<;>try exact bx h)|fail
  exact bJ<|.refl _
theorem Xu(l:List aH):(l.map bj).flatMap I.cells=l.flatMap λn=>(bj n).cells:=by rw[List.flatMap_map]
theorem aEm(l:List aH):(l.flatMap λn=>(bj n).cells).length=l.length * 8:=by
 induction l with
 |nil=>rfl
 |cons x l J=>rw[nj,bw,J];simp[bj,I.cells];omega
theorem WJ(l:List aH):∀e∈l.map bj,e.cells.length=8:=λe he=>by obtain⟨x,_,rfl⟩:=bP.1 he;rfl
theorem aGc(l:List aH):(∀e∈l.map bj,e.cells.length=8)=True:=b1<|WJ l
theorem aKq(l:List aH):(l.flatMap λn=>(bj n).cells).all I.one=true:=by rw[fu];intro x J;obtain⟨n,_,af⟩:=vf.1 J;simp only[bj,I.cells,db,mh,mj]at af;rcases af with rfl|rfl|rfl|rfl|rfl|rfl|rfl|rfl<;>rfl
theorem Yt(l:List aH):∀e∈l.map bj,b9 e:=λe he=>by obtain⟨x,_,rfl⟩:=bP.1 he;exact mZ
theorem rW{A B X:List I}{off:Nat}(h:A.length=off):du (A++B) off X=A++(X++B.drop X.length):=by subst h;simp[du,List.drop_append]
def xY:I:=.agg [.int .i64 0,.int .i64 0,.str [],.int .i64 0,.int .i64 0,.str [],.int .i64 0,.int .i64 0]
theorem Tn(l:List aH):(List.flatMap I.cells (l.map bj)).length=l.length * 8:=by rw[Xu,aEm]
theorem aJn(l:List aH):(List.flatMap I.cells (l.map bj)).all I.one=true:=by rw[Xu];exact aKq l
theorem aHl(n:Nat):(List.flatMap I.cells (List.replicate n xY)).length=n * 8:=by
 induction n with
 |zero=>rfl
 |succ n J=>rw[zH,nj,bw,J];simp[xY,I.cells];omega
theorem Qg(aW bA:Bool)(l xs:List aH)(i j:Nat)(V:i<=j)(Z:j<=l.length)(hl:l.length+xs.length<=1073741824)(H:ab):
  aO prog 181 [.sl aW (l.map bj),.int .i64 i,.int .i64 j,.sl bA<|xs.map bj] H (.sl false<|(nd l i j xs).map bj):=by
 refine bg func181 ?_;have ax:IntKind.i64.wrap (IntKind.i64.wrap (((i+xs.length:Nat):Int)+(l.length:Int))-(j:Int))=((i+xs.length+(l.length-j):Nat):Int):=by rw[wrap_i64 (n:=((i+xs.length:Nat):Int)+l.length) gf gf,bS];omega
 have t1:List.take i (List.map bj l)=List.map bj (l.take i):=vl.symm;have t2:List.drop j (List.map bj l)=List.map bj (l.drop j):=yk.symm;have S:(l.take i).length=i:=List.length_take_of_le gf;have fr:(l.drop j).length=l.length-j:=hp;have aq:IntKind.i64.wrap ((i:Int)+(xs.length:Int))=((i+xs.length:Nat):Int):=bS;have a1:xY=.agg [.int .i64 0,.int .i64 0,.str [],.int .i64 0,.int .i64 0,.str [],.int .i64 0,.int .i64 0]:=rfl;have J:=Tn<|l.take i;have U:=Tn xs;have O:=Tn<|l.drop j;have T:=aHl<|i+(xs.length+(l.length-j));rw[S]at J;rw[fr]at O;have s1:du (List.flatMap I.cells<|List.replicate (i+(xs.length+(l.length-j))) xY) 0 (List.flatMap I.cells<|List.map bj (l.take i))=
   List.flatMap I.cells (List.map bj<|l.take i)++(List.flatMap I.cells (List.replicate (i+(xs.length+(l.length-j))) xY)).drop (i * 8):=by
  have:=rW (A:=[]) (B:=List.flatMap I.cells<|List.replicate (i+(xs.length+(l.length-j))) xY) (X:=List.flatMap I.cells<|List.map bj (l.take i)) (off:=0) rfl;rw[J]at this;exact this
 have s2:du (List.flatMap I.cells (List.map bj<|l.take i)++(List.flatMap I.cells (List.replicate (i+(xs.length+(l.length-j))) xY)).drop (i * 8)) (i * 8) (List.flatMap I.cells<|List.map bj xs)=
   List.flatMap I.cells (List.map bj<|l.take i)++(List.flatMap I.cells (List.map bj xs)++(List.flatMap I.cells (List.replicate (i+(xs.length+(l.length-j))) xY)).drop (i * 8+xs.length * 8)):=by
  rw[rW J,U,ym]
 have mb:du (List.flatMap I.cells (List.map bj<|l.take i)++(List.flatMap I.cells (List.map bj xs)++(List.flatMap I.cells (List.replicate (i+(xs.length+(l.length-j))) xY)).drop (i * 8+xs.length * 8))) ((i+xs.length) * 8) (List.flatMap I.cells<|List.map bj (l.drop j))=
   List.flatMap I.cells (List.map bj<|nd l i j xs):=by
  rw[<-c6,rW (by rw[bw,J,U];omega),O,ym,show List.drop (i * 8+xs.length * 8+(l.length-j) * 8) (List.flatMap I.cells<|List.replicate (i+(xs.length+(l.length-j))) xY)=[]from List.drop_of_length_le<|by rw[T];omega]
  simp[nd,c6]
 repeat' first|((first|refine mx [4] U2 ?_|refine ae ?_);simp only[go_sem,ax,aq,t1,t2,S,fr,<-a1,s1,s2,mb,J,U,O,T,aJn,aGc,hp])|refine bp ?_|(refine bz ?_ ?_<;>intro h<;>try exact bx h)|fail
 have hlen:=Om l i j xs V Z;exact uV (cs:=List.flatMap I.cells<|List.map bj (nd l i j xs)) (es:=(nd l i j xs).map bj) (rest:=[]) (bh _) mZ (cE _).symm (by rw[dq];omega) (WJ _) (Yt _) rfl
theorem Xv(b:Bool)(l:List aH)(hl:l.length<=1000000000)(H:ab):aO prog 179 [.sl b (l.map bj)] H (.sl false<|l.map bj):=by
 refine bg func179 ?_;have J:=Qg b true l [] l.length l.length (bh _) (bh _) nc H;have e:nd l l.length l.length []=l:=by simp[nd]
 rw[e]at J;repeat' first|((first|refine hI J ?_|refine ae ?_);simp only[go_sem])|refine bp ?_|(refine bz ?_ ?_<;>intro h<;>try exact bx h)|fail
 exact bJ<|.refl _
end Go.Proofs.YtnmamncmpklliaaGreatDoor
