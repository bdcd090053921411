/- What the functions of this seat answer (4 of 53). No condition. -/
import Derived.Test.YtnmamncmpklliaaGreatDoorWorkAC
import Derived.Attr
set_option linter.unusedSimpArgs false
set_option linter.unusedVariables false
set_option linter.unusedSectionVars false
set_option maxRecDepth 100000
set_option maxHeartbeats 16000000
namespace Go.Proofs.YtnmamncmpklliaaGreatDoor
variable{N n i s lc j a:Nat}{x v u:I}{Q:cX}{α:a7}{H h c7 H1:ab}{b g:Bool}{f:FuncId}{args cs:List I}{k K:I->ab->Prop}{l:List Nat}{code:Code}{c:Ctx}{listed:Array Bool}{gS j4 o:Oper}{ops:Array Oper}{all:List Oper}{P:Program}
section
variable (v:I)
@[go_sem] theorem aV4(t:Tmp):B8 (.tmp t) v=v:=rfl
@[go_sem] theorem aUt:B8 (.global 0) v=.cptr [.int .u32 0,.int .u32 79764919]:=rfl
end
theorem uv{x:Operand}{y z:Code}(J:bm α x=.bool b)(h1:b=true->cI P N y Q α H)(h2:b=false->cI P N z Q α H):cI P N (.cond x y z) Q α H:=by
 intro r c a T hs U;have:=YJ U x;rw[J]at this;exact wpIn_cond_split this.sT (λO=>h1 O r c a (QC T).1 hs U) λO=>h2 O r c a (QC T).2 hs U
@[go_sem] theorem aSC(N:Nat)(y:Code)(Q:cX)(α:a7)(H:ab):wP P N y Q .normal α H=cI P N y Q α H:=rfl
@[go_sem] theorem aUu(N:Nat)(y:Code)(Q:cX)(α:a7)(H:ab):wP P N y Q .ret α H=Q .ret α H:=rfl
@[go_sem] theorem aTL(N i:Nat)(y:Code)(Q:cX)(α:a7)(H:ab):wP P N y Q (.exit i) α H=Q (.exit i) α H:=rfl
@[go_sem] theorem aSH(i:Nat)(Q:cX)(α:a7)(H:ab):rm i Q .normal α H=Q .normal α H:=rfl
@[go_sem] theorem aTM(i:Nat)(Q:cX)(α:a7)(H:ab):rm i Q .ret α H=Q .ret α H:=rfl
@[go_sem] theorem aTj(i j:Nat)(Q:cX)(α:a7)(H:ab):rm i Q (.exit j) α H=if j=i then Q .normal α H else Q (.exit j) α H:=by
 simp only[rm];by_cases h:j=i<;>simp[h]
attribute [go_sem] Zn qJ uu pO tQ List.map_cons List.map_nil qb
@[go_sem] theorem Ve(d:Nat)(v:I)(α:a7)(t:Nat):look ((d,v)::α) t=if d=t then v else look α t:=by
 simp only[look];by_cases h:d=t
 ·simp[h]
 ·have J:(d==t)=false:=by simpa using h
  simp[h,J]
@[go_sem] theorem aVG(t:Nat):look [] t=.top:=rfl
attribute [go_sem] cJ bm dB Ep if_true if_false
@[go_sem] theorem aTN(n:Int)(h1: -9223372036854775808<=n)(h2:n<=9223372036854775807):kI (.int .i64 n)=.int .i64 n:=by
 have:wZ .i64 n=true:=Dl.2<|rR.2 ⟨h1,h2⟩;simp[kI,this]
@[go_sem] theorem aUv(n:Int)(h1:0<=n)(h2:n<=255):kI (.int .u8 n)=.int .u8 n:=by
 have:wZ .u8 n=true:=Dl.2<|KO.2 ⟨h1,h2⟩;simp[kI,this]
@[go_sem] theorem aTO(n:Int)(h1: -2147483648<=n)(h2:n<=2147483647):kI (.int .i32 n)=.int .i32 n:=by
 have:wZ .i32 n=true:=Dl.2<|Yg.2 ⟨h1,h2⟩;simp[kI,this]
@[go_sem] theorem aTP(n:Int)(h1:0<=n)(h2:n<=18446744073709551615):kI (.int .u64 n)=.int .u64 n:=by
 have:wZ .u64 n=true:=Dl.2 ⟨h1,h2⟩;simp[kI,this]
@[go_sem] theorem aTQ(n:Int)(h1:0<=n)(h2:n<=4294967295):kI (.int .u32 n)=.int .u32 n:=by
 have:wZ .u32 n=true:=Dl.2 ⟨h1,h2⟩;simp[kI,this]
@[go_sem] theorem aTR(n:Int)(h1:0<=n)(h2:n<=65535):kI (.int .u16 n)=.int .u16 n:=by
 have:wZ .u16 n=true:=Dl.2 ⟨h1,h2⟩;simp[kI,this]
@[go_sem] theorem aTk(b:Bool):kI (.bool b)=.bool b:=rfl
@[go_sem] theorem aSI:kI (.pointer none)=.dO:=rfl
@[go_sem] theorem aSV:kI (.slice none 0 0)=.sl true []:=rfl
@[go_sem] theorem aSJ:kI (.map none)=.iu:=rfl
@[go_sem] theorem aSu:kI .nilFunc=.ea:=rfl
@[go_sem] theorem aSW:kI .nilIface=.nilIface:=rfl
@[go_sem] theorem aEf(s:ByteArray)(h:s.data.toList.length<=9223372036854775807):kI (.string s)=.str s.data.toList:=by
 have:Nat.ble s.data.toList.length 9223372036854775807=true:=Nat.ble_eq_true_of_le h;simp only[kI,this,tG]
@[go_sem] theorem aTS{α:Type}(l:List α):(l.toArray).toList=l:=rfl
def jI:Op->Bool
 |.pick _ _ _=>false
 |.call ⟨.builtin _,_,_⟩=>true
 |.call _=>false
 |.next _ b=>b
 |.binOp _ _ _ _ _=>false
 |_=>true
def l7:Op->Bool
 |.pick _ _ _=>false
 |.call ⟨.builtin _,_,_⟩=>true
 |.call _=>false
 |_=>true
theorem fm(h:b=true):b=true:=h
def ou(op:Op):List Operand:=op.operands.toList
@[go_sem] theorem aUw(x:Operand):jI (.move x)=true:=fm rfl
@[go_sem] theorem aUx(x:Operand):l7 (.move x)=true:=fm rfl
@[go_sem] theorem aVH(x:Operand):ou (.move x)=[x]:=rfl
@[go_sem] theorem aTl(x:Operand):jI (.assign x)=true:=fm rfl
@[go_sem] theorem aTm(x:Operand):l7 (.assign x)=true:=fm rfl
@[go_sem] theorem aTT(t:TypeId):jI (.alloc t)=true:=fm rfl
@[go_sem] theorem aTU(t:TypeId):l7 (.alloc t)=true:=fm rfl
@[go_sem] theorem aVI(t:TypeId)(x:Operand):jI (.box t x)=true:=fm rfl
@[go_sem] theorem aVJ(t:TypeId)(x:Operand):l7 (.box t x)=true:=fm rfl
@[go_sem] theorem aTV(t:TypeId)(ps:Array (Nat×Operand)):jI (.build t ps)=true:=fm rfl
@[go_sem] theorem aTW(t:TypeId)(ps:Array (Nat×Operand)):l7 (.build t ps)=true:=fm rfl
@[go_sem] theorem aUj(t:TypeId)(ps:Array (Nat×Operand)):ou (.build t ps)=(ps.toList.map (·.2)):=rfl
@[go_sem] theorem aSr(t:TypeId)(n:Nat)(ps:Array (Nat×Operand)):jI (.buildSlice t n ps)=true:=fm rfl
@[go_sem] theorem aSs(t:TypeId)(n:Nat)(ps:Array (Nat×Operand)):l7 (.buildSlice t n ps)=true:=fm rfl
@[go_sem] theorem aUk(t:TypeId)(x:Operand):jI (.load t x)=true:=fm rfl
@[go_sem] theorem aUl(t:TypeId)(x:Operand):l7 (.load t x)=true:=fm rfl
@[go_sem] theorem aVK(t:TypeId)(x:Operand):ou (.load t x)=[x]:=rfl
@[go_sem] theorem aTX(t:TypeId)(x y:Operand):jI (.store t x y)=true:=fm rfl
@[go_sem] theorem aTY(t:TypeId)(x y:Operand):l7 (.store t x y)=true:=fm rfl
@[go_sem] theorem aSK(x:Operand):jI (.nilCheck x)=true:=fm rfl
@[go_sem] theorem aSL(x:Operand):l7 (.nilCheck x)=true:=fm rfl
@[go_sem] theorem aSX(x:Operand):ou (.nilCheck x)=[x]:=rfl
@[go_sem] theorem aTZ(op:BinOp)(t t':TypeId)(x y:Operand):l7 (.binOp op t x y t')=true:=fm rfl
@[go_sem] theorem aUm(op:BinOp)(t t':TypeId)(x y:Operand):ou (.binOp op t x y t')=[x,y]:=rfl
@[go_sem] theorem aUn(op:UnOp)(t:TypeId)(x:Operand):jI (.unOp op t x)=true:=fm rfl
@[go_sem] theorem aUo(op:UnOp)(t:TypeId)(x:Operand):l7 (.unOp op t x)=true:=fm rfl
@[go_sem] theorem aVL(op:UnOp)(t:TypeId)(x:Operand):ou (.unOp op t x)=[x]:=rfl
@[go_sem] theorem aSY(s d:TypeId)(x:Operand):jI (.convert s d x)=true:=fm rfl
@[go_sem] theorem aSZ(s d:TypeId)(x:Operand):l7 (.convert s d x)=true:=fm rfl
@[go_sem] theorem aTn(s d:TypeId)(x:Operand):ou (.convert s d x)=[x]:=rfl
@[go_sem] theorem aT0(t:TypeId)(x:Operand):jI (.makeInterface t x)=true:=fm rfl
@[go_sem] theorem aSM(fn:Go.Fn)(f cs:Array Operand):jI (.makeFunc fn f cs)=true:=fm rfl
@[go_sem] theorem aT1(t:TypeId)(x:Operand)(lo hi mx:Option Operand):jI (.slice t x lo hi mx)=true:=fm rfl
@[go_sem] theorem aT2(t:TypeId)(x:Operand)(lo hi mx:Option Operand):l7 (.slice t x lo hi mx)=true:=fm rfl
@[go_sem] theorem aUp(t:TypeId)(x:Operand)(lo hi mx:Option Operand):ou (.slice t x lo hi mx)=(#[x]++lo.toArray++hi.toArray++mx.toArray).toList:=rfl
@[go_sem] theorem aSv(t:TypeId)(x:Operand)(f:Nat):jI (.fieldAddr t x f)=true:=fm rfl
@[go_sem] theorem aSw(t:TypeId)(x:Operand)(f:Nat):l7 (.fieldAddr t x f)=true:=fm rfl
@[go_sem] theorem aSN(t:TypeId)(x:Operand)(f:Nat):ou (.fieldAddr t x f)=[x]:=rfl
@[go_sem] theorem aSx(t:TypeId)(x i:Operand):jI (.indexAddr t x i)=true:=fm rfl
@[go_sem] theorem aSy(t:TypeId)(x i:Operand):l7 (.indexAddr t x i)=true:=fm rfl
@[go_sem] theorem aSO(t:TypeId)(x i:Operand):ou (.indexAddr t x i)=[x,i]:=rfl
@[go_sem] theorem aT3(t:TypeId)(x i:Operand):jI (.index t x i)=true:=fm rfl
@[go_sem] theorem aT4(t:TypeId)(x i:Operand):l7 (.index t x i)=true:=fm rfl
@[go_sem] theorem aUq(t:TypeId)(x i:Operand):ou (.index t x i)=[x,i]:=rfl
@[go_sem] theorem aSt(x:Operand)(u t:TypeId)(b:Bool):jI (.typeAssert x u t b)=true:=fm rfl
@[go_sem] theorem aS0(x:Operand)(i:Nat):jI (.extract x i)=true:=fm rfl
@[go_sem] theorem aS1(x:Operand)(i:Nat):l7 (.extract x i)=true:=fm rfl
@[go_sem] theorem aSz(t:TypeId)(x y:Operand):jI (.makeSlice t x y)=true:=fm rfl
@[go_sem] theorem aTB(t:TypeId)(x:Operand):jI (.range t x)=true:=fm rfl
@[go_sem] theorem aUr(x:Operand):jI (.next x true)=true:=fm rfl
@[go_sem] theorem aS2(b:Builtin)(xs:Array Operand)(ts:Array TypeId):jI (.call ⟨.builtin b,xs,ts⟩)=true:=fm rfl
@[go_sem] theorem aS3(b:Builtin)(xs:Array Operand)(ts:Array TypeId):l7 (.call ⟨.builtin b,xs,ts⟩)=true:=fm rfl
@[go_sem] theorem aTo(b:Builtin)(xs:Array Operand)(ts:Array TypeId):ou (.call ⟨.builtin b,xs,ts⟩)=((#[]:Array Operand)++xs).toList:=rfl
@[go_sem] theorem aS4(t:TypeId):jI (.makeMap t none)=true:=fm rfl
@[go_sem] theorem aTp(t:TypeId)(x y:Operand)(b:Bool):jI (.lookup t x y b)=true:=fm rfl
@[go_sem] theorem aTq(t:TypeId)(x y:Operand)(b:Bool):l7 (.lookup t x y b)=true:=fm rfl
@[go_sem] theorem aTC(x:Operand):jI (.entry x)=true:=fm rfl
@[go_sem] theorem aSA(t:TypeId)(x y z:Operand):jI (.mapUpdate t x y z)=true:=fm rfl
@[go_sem] theorem aTr(t:TypeId)(x y z:Operand):jI (.insert t x y z)=true:=fm rfl
attribute [go_sem] cr tu
@[go_sem] theorem aVM(s:List UInt8):jR .string (.str s)=true:=fm rfl
@[go_sem] theorem aVN(k:IntKind)(n:Int):jR (.int k) (.int k n)=true:=by simp[jR]
section
variable (all os:List Oper) (α:a7) (H:ab) (k:a7->ab->Prop) (kt:a7->Prop) (dst:Option Tmp) (ty:TypeId) (pos:String) (after:Array Edge)
def K2(P:Program)(all os:List Oper)(dst:Option Tmp)(α:a7)(k:a7->ab->Prop):I->ab->Prop:=λv H'=>hR P all os (cJ dst v α) H' k
def Pv(P:Program)(all os:List Oper)(dst:Option Tmp)(g:Bool)(α:a7)(k:a7->ab->Prop):I->ab->Prop:=λv H=>hR P all os (cJ dst (.opt g v) α) H k
def XF(P:Program)(all:List Oper)(H:ab)(os:List Oper)(dst:Option Tmp)(α:a7)(kt:a7->Prop):I->Prop:=λv=>jf P all H os (cJ dst v α) kt
def XG(P:Program)(all:List Oper)(H:ab)(os:List Oper)(dst:Option Tmp)(g:Bool)(α:a7)(kt:a7->Prop):I->Prop:=λv=>jf P all H os (cJ dst (.opt g v) α) kt
def Yw(P:Program)(all os:List Oper)(dst:Option Tmp)(α:a7)(H:ab)(k:a7->ab->Prop):I->Prop:=λv=>hR P all os (cJ dst v α) H k
@[go_sem] theorem aVO:hR P all [] α H k=k α H:=rfl
@[go_sem] theorem aUs:jf P all H [] α kt=kt α:=rfl
@[go_sem] theorem aUS(x y z:Operand):hR P all (⟨dst,.pick x y z,ty,pos,after,none⟩::os) α H k=
  ((kJ true (bm α x) (bm α y) (bm α z)).s/\hR P all os (cJ dst (kJ true (bm α x) (bm α y)<|bm α z).v α) H k):=rfl
@[go_sem] theorem aTD(f:Operand)(xs:Array Operand)(ts:Array TypeId):hR P all (⟨dst,.call ⟨.value f,xs,ts⟩,ty,pos,after,none⟩::os) α H k=
  qA P (bm α f) (xs.toList.map<|bm α) H (K2 P all os dst α k):=rfl
@[go_sem] theorem aTs(r:Operand)(m:String)(xs:Array Operand)(ts:Array TypeId):hR P all (⟨dst,.call ⟨.invoke r m,xs,ts⟩,ty,pos,after,none⟩::os) α H k=
  qA P (sY P m<|bm α r) (xs.toList.map<|bm α) H (K2 P all os dst α k):=rfl
@[go_sem] theorem aS5(r:Operand)(m:String)(xs:Array Operand)(ts:Array TypeId)(j:Nat)(w:Bool):hR P all (⟨dst,.call ⟨.invoke r m,xs,ts⟩,ty,pos,after,some (j,w)⟩::os) α H k=
  (iL (bS α<|bQ all j)/\lu (cm (bS α<|bQ all j) w) α (r::xs.toList)/\
    DY P (cm (bS α<|bQ all j) w) (sY P m<|dB α r) (xs.toList.map<|dB α) H (Pv P all os dst (cm (bS α<|bQ all j) w) α k)):=rfl
@[go_sem] theorem aTE(x y z:Operand)(j:Nat)(w:Bool):hR P all (⟨dst,.pick x y z,ty,pos,after,some (j,w)⟩::os) α H k=
  (iL (bS α<|bQ all j)/\((cm (bS α<|bQ all j) w)=true->(kJ (cm (bS α<|bQ all j) w) (bm α x) (bm α y) (bm α z)).s)/\
    hR P all os (cJ dst (.opt (cm (bS α<|bQ all j) w) (kJ (cm (bS α (bQ all j)) w) (bm α x) (bm α y)<|bm α z).v) α) H k):=rfl
@[go_sem] theorem aTt(f:Operand)(xs:Array Operand)(ts:Array TypeId)(j:Nat)(w:Bool):hR P all (⟨dst,.call ⟨.value f,xs,ts⟩,ty,pos,after,some (j,w)⟩::os) α H k=
  (iL (bS α<|bQ all j)/\lu (cm (bS α<|bQ all j) w) α (f::xs.toList)/\
   DY P (cm (bS α<|bQ all j) w) (dB α f) (xs.toList.map<|dB α) H (Pv P all os dst (cm (bS α<|bQ all j) w) α k)):=rfl
@[go_sem] theorem aTF(x y z:Operand):jf P all H (⟨dst,.pick x y z,ty,pos,after,none⟩::os) α kt=
  ((kJ true (bm α x) (bm α y) (bm α z)).s/\jf P all H os (cJ dst (kJ true (bm α x) (bm α y)<|bm α z).v α) kt):=rfl
@[go_sem] theorem aTu(f:Operand)(xs:Array Operand)(ts:Array TypeId):jf P all H (⟨dst,.call ⟨.value f,xs,ts⟩,ty,pos,after,none⟩::os) α kt=
  tk P true (bm α f) (xs.toList.map<|bm α) H (XF P all H os dst α kt):=rfl
@[go_sem] theorem aTv(x y z:Operand)(j:Nat)(w:Bool):jf P all H (⟨dst,.pick x y z,ty,pos,after,some (j,w)⟩::os) α kt=
  (iL (bS α<|bQ all j)/\((cm (bS α<|bQ all j) w)=true->(kJ (cm (bS α<|bQ all j) w) (bm α x) (bm α y) (bm α z)).s)/\
    jf P all H os (cJ dst (.opt (cm (bS α<|bQ all j) w) (kJ (cm (bS α (bQ all j)) w) (bm α x) (bm α y)<|bm α z).v) α) kt):=rfl
@[go_sem] theorem aS6(f:Operand)(xs:Array Operand)(ts:Array TypeId)(j:Nat)(w:Bool):jf P all H (⟨dst,.call ⟨.value f,xs,ts⟩,ty,pos,after,some (j,w)⟩::os) α kt=
  (iL (bS α<|bQ all j)/\lu (cm (bS α<|bQ all j) w) α (f::xs.toList)/\
   tk P (cm (bS α<|bQ all j) w) (dB α f) (xs.toList.map<|dB α) H (XG P all H os dst (cm (bS α<|bQ all j) w) α kt)):=rfl
@[go_sem] theorem aUT(x:Operand):hR P all (⟨dst,.next x false,ty,pos,after,none⟩::os) α H k=Ls (bm α x) H (K2 P all os dst α k):=rfl
@[go_sem] theorem aTG(op:BinOp)(t t':TypeId)(x y:Operand):hR P all (⟨dst,.binOp op t x y t',ty,pos,after,none⟩::os) α H k=
  bif nE op&&AZ y then Hd P t H (bm α x) (Yw P all os dst α H k)
  else((BD P (tg x||tg y) op t (bm α x) (bm α y)).s/\hR P all os (cJ dst (BD P (tg x||tg y) op t (bm α x)<|bm α y).v α) H k):=rfl
@[go_sem] theorem aVP(op:Op)(h:jI op=true):hR P all (⟨dst,op,ty,pos,after,none⟩::os) α H k=
  ((cr P op (bm α) H).s/\hR P all os (cJ dst (cr P op (bm α) H).v α) (cr P op (bm α) H).H k):=by
 cases op<;>first|rfl|(cases h;done)|skip
 ·rename_i x b;cases b<;>first|rfl|cases h
 ·rename_i c;obtain⟨ce,xs,ts⟩:=c;cases ce<;>first|rfl|cases h
@[go_sem] theorem aUU(op:Op)(j:Nat)(w:Bool)(h:l7 op=true):hR P all (⟨dst,op,ty,pos,after,some (j,w)⟩::os) α H k=
  (iL (bS α<|bQ all j)/\lu (cm (bS α<|bQ all j) w) α (ou op)/\(cm (bS α<|bQ all j) w=true->(cr P op (dB α) H).s/\(cr P op (dB α) H).H=H)/\
   hR P all os (cJ dst (.opt (cm (bS α<|bQ all j) w) (cr P op (dB α) H).v) α) H k):=by
 cases op<;>first|rfl|(cases h;done)|skip
 rename_i c;obtain⟨ce,xs,ts⟩:=c;cases ce<;>first|rfl|cases h
@[go_sem] theorem aUV(op:Op)(h:l7 op=true):jf P all H (⟨dst,op,ty,pos,after,none⟩::os) α kt=
  ((cr P op (bm α) H).s/\(cr P op (bm α) H).H=H/\jf P all H os (cJ dst (cr P op (bm α) H).v α) kt):=by
 cases op<;>first|rfl|(cases h;done)|skip
 rename_i c;obtain⟨ce,xs,ts⟩:=c;cases ce<;>first|rfl|cases h
@[go_sem] theorem aTH(op:Op)(j:Nat)(w:Bool)(h:l7 op=true):jf P all H (⟨dst,op,ty,pos,after,some (j,w)⟩::os) α kt=
  (iL (bS α<|bQ all j)/\lu (cm (bS α<|bQ all j) w) α (ou op)/\(cm (bS α<|bQ all j) w=true->(cr P op (dB α) H).s/\(cr P op (dB α) H).H=H)/\
   jf P all H os (cJ dst (.opt (cm (bS α<|bQ all j) w) (cr P op (dB α) H).v) α) kt):=by
 cases op<;>first|rfl|(cases h;done)|skip
 rename_i c;obtain⟨ce,xs,ts⟩:=c;cases ce<;>first|rfl|cases h
end
attribute [go_sem] true_and and_true implies_true and_self not_true_eq_false Bool.not_true Bool.not_false eq_self decide_true decide_false Bool.true_eq_false Bool.false_eq_true List.getD_cons_zero List.getD_cons_succ List.getD_nil List.set_cons_zero List.set_cons_succ List.length_cons List.length_nil List.length_append List.append_assoc List.cons_append List.nil_append List.append_nil List.drop_zero List.drop_succ_cons List.drop_nil List.take_zero List.take_succ_cons List.take_nil Option.map_some Option.map_none Nat.zero_add Nat.add_zero Nat.add_assoc List.size_toArray List.toList_toArray Int.toNat_natCast Array.toList_append Array.toList_empty
@[go_sem] theorem vY(h L:ab):ay (h++L) h.length=L.getD 0 .gone:=by
 simp only[ay,et];rw[pX (bd _)];simp
@[go_sem] theorem F2(h L:ab)(k:Nat):ay (h++L) (h.length+k)=L.getD k .gone:=by
 simp only[ay,et];rw[pX iV];simp
@[go_sem] theorem Vf(h L:ab)(b:bE):ar (h++L) h.length b=h++L.set 0 b:=by
 simp[ar]
@[go_sem] theorem Oj(h L:ab)(k:Nat)(b:bE):ar (h++L) (h.length+k) b=h++L.set k b:=by
 simp[ar]
section
variable (P) (t:TypeId) (k:IntKind) (a b:Int) (s u:List UInt8) (x y:Bool)
@[go_sem] theorem aVQ:fo P .add t (.int k a) (.int k b)=⟨.int k<|k.wrap (a+b),True⟩:=by simp[fo,lZ]
@[go_sem] theorem aVR:fo P .sub t (.int k a) (.int k b)=⟨.int k<|k.wrap (a-b),True⟩:=by simp[fo,lZ]
@[go_sem] theorem aVS:fo P .mul t (.int k a) (.int k b)=⟨.int k<|k.wrap (a * b),True⟩:=by simp[fo,lZ]
@[go_sem] theorem aVT:fo P .quo t (.int k a) (.int k b)=⟨.int k<|k.wrap (a.tdiv b),b≠0⟩:=by simp[fo,lZ]
@[go_sem] theorem aVk:fo P .rem t (.int k a) (.int k b)=⟨.int k<|a.tmod b,b≠0⟩:=by simp[fo,lZ]
@[go_sem] theorem aVl:fo P .and t (.int k a) (.int k b)=⟨.int k<|na .and k a b,True⟩:=by simp[fo,lZ]
@[go_sem] theorem aV5:fo P .or t (.int k a) (.int k b)=⟨.int k<|na .or k a b,True⟩:=by simp[fo,lZ]
@[go_sem] theorem aVm:fo P .xor t (.int k a) (.int k b)=⟨.int k<|na .xor k a b,True⟩:=by simp[fo,lZ]
@[go_sem] theorem aVn:fo P .eql t (.int k a) (.int k b)=⟨.bool<|decide (a=b),True⟩:=by simp[fo,lZ]
@[go_sem] theorem aVo:fo P .neq t (.int k a) (.int k b)=⟨.bool<|!decide (a=b),True⟩:=by simp[fo,lZ]
@[go_sem] theorem aVp:fo P .lss t (.int k a) (.int k b)=⟨.bool<|decide (a<b),True⟩:=by simp[fo,lZ]
@[go_sem] theorem aVq:fo P .leq t (.int k a) (.int k b)=⟨.bool<|decide (a<=b),True⟩:=by simp[fo,lZ]
@[go_sem] theorem aVr:fo P .gtr t (.int k a) (.int k b)=⟨.bool<|decide (b<a),True⟩:=by simp[fo,lZ]
@[go_sem] theorem aVs:fo P .geq t (.int k a) (.int k b)=⟨.bool<|decide (b<=a),True⟩:=by simp[fo,lZ]
@[go_sem] theorem aVt(k':IntKind):fo P .shl t (.int k a) (.int k' b)=⟨.int k<|k.wrap (a * 2 ^ (min b.toNat k.bits)),0<=b⟩:=by simp[fo,lZ]
@[go_sem] theorem aVu(k':IntKind):fo P .shr t (.int k a) (.int k' b)=⟨.int k<|a.fdiv (2 ^ (min b.toNat k.bits)),0<=b⟩:=by simp[fo,lZ]
@[go_sem] theorem aUW:fo P .add t (.str s) (.str u)=⟨.str<|s++u,s.length+u.length<=9223372036854775807⟩:=by simp[fo,Ha]
@[go_sem] theorem aUX:fo P .eql t (.str s) (.str u)=⟨.bool<|decide (s=u),True⟩:=by simp[fo,Ha]
@[go_sem] theorem aUY:fo P .neq t (.str s) (.str u)=⟨.bool<|!decide (s=u),True⟩:=by simp[fo,Ha]
@[go_sem] theorem aUZ:fo P .eql t (.bool x) (.bool y)=⟨.bool<|x==y,P.underlying t=some .bool⟩:=by simp[fo]
@[go_sem] theorem aU0(xs ys:List I):fo P .eql t (.agg xs) (.agg ys)=⟨.bool (p1 P 30 t (.agg xs)<|.agg ys).b,P.eqGuardType P.depth t=false/\(p1 P 30 t (.agg xs) (.agg ys)).s⟩:=by simp[fo]
@[go_sem] theorem aU1(xs ys:List I):fo P .neq t (.agg xs) (.agg ys)=⟨.bool<|!(p1 P 30 t (.agg xs) (.agg ys)).b,P.eqGuardType P.depth t=false/\(p1 P 30 t (.agg xs) (.agg ys)).s⟩:=by simp[fo]
end
@[go_sem] theorem aU2(cs:List I):(I.agg cs).cells=cs:=rfl
@[go_sem] theorem aU3(k:IntKind)(n:Int):I.cells (.int k n)=[.int k n]:=rfl
@[go_sem] theorem aTI(b:Bool):I.cells (.bool b)=[.bool b]:=rfl
@[go_sem] theorem aU4(s:List UInt8):I.cells (.str s)=[.str s]:=rfl
@[go_sem] theorem aVv(f:Bool)(es:List I):I.cells (.sl f es)=[.sl f es]:=rfl
@[go_sem] theorem aU5(i v o:Nat):I.cells (.ref i v o)=[.ref i v o]:=rfl
@[go_sem] theorem aU6(a b c d e f:Nat):I.cells (.osl a b c d e f)=[.osl a b c d e f]:=rfl
@[go_sem] theorem aS7:I.cells (.dO)=[.dO]:=rfl
@[go_sem] theorem aU7(i:Nat):I.cells (.map i)=[.map i]:=rfl
@[go_sem] theorem aS8:I.cells (.iu)=[.iu]:=rfl
@[go_sem] theorem aTJ(f:Fn)(a b:List I):I.cells (.func f a b)=[.func f a b]:=rfl
@[go_sem] theorem aSP:I.cells (.ea)=[.ea]:=rfl
@[go_sem] theorem aU8{α:Type}:(none:Option α).toArray.toList=[]:=rfl
@[go_sem] theorem aU9{α:Type}(x:α):(some x).toArray.toList=[x]:=rfl
@[go_sem] theorem aVa:nE .eql=true:=rfl
@[go_sem] theorem aVb:nE .neq=false:=rfl
@[go_sem] theorem aVc:nE .add=false:=rfl
@[go_sem] theorem aVd:nE .sub=false:=rfl
@[go_sem] theorem aVe:nE .mul=false:=rfl
@[go_sem] theorem aVf:nE .quo=false:=rfl
@[go_sem] theorem aVg:nE .rem=false:=rfl
@[go_sem] theorem aVh:nE .and=false:=rfl
@[go_sem] theorem aVw:nE .or=false:=rfl
@[go_sem] theorem aUz:nE .xor=false:=rfl
@[go_sem] theorem aUA:nE .shl=false:=rfl
@[go_sem] theorem aUB:nE .shr=false:=rfl
@[go_sem] theorem aUC:nE .lss=false:=rfl
@[go_sem] theorem aUD:nE .leq=false:=rfl
@[go_sem] theorem aUE:nE .gtr=false:=rfl
@[go_sem] theorem aUF:nE .geq=false:=rfl
@[go_sem] theorem aTK(t:Nat):AZ (.tmp t)=false:=rfl
@[go_sem] theorem aS9(v:Value):AZ (.const v)=Db v:=rfl
@[go_sem] theorem aT8(k:IntKind)(n:Int):Db (.int k n)=false:=rfl
@[go_sem] theorem aT9(s:ByteArray):Db (.string s)=false:=rfl
@[go_sem] theorem aTw:Db .nilIface=false:=rfl
@[go_sem] theorem aUG:Db (.slice none 0 0)=true:=rfl
attribute [go_sem] Hd
attribute [go_sem] Hl Qk tg O1 BD D2 z7 Ek Et Eu En sY La Hk Lv Hr xv LD Ei LF Eg LA Eh LB bad Eo Ee Qc
section
variable {P:Program}
@[go_sem] theorem aTa(ts tx:TypeId)(f:Bool)(x:I)(H:ab):yj P ts tx (.sl f []) x H=xB P ts tx (.sl f []) x H:=rfl
@[go_sem] theorem aTb(ts tx:TypeId)(s i v o l c:Nat)(x:I)(H:ab):yj P ts tx (.osl s i v o l c) x H=xB P ts tx (.osl s i v o l c) x H:=rfl
end
section
@[go_sem] theorem aUa(k:IntKind)(n:Int):xE (.int k n)=false:=rfl
@[go_sem] theorem aTx(b:Bool):xE (.bool b)=false:=rfl
@[go_sem] theorem aUb(s:List UInt8):xE (.str s)=false:=rfl
@[go_sem] theorem aUc(s:List I):xE (.agg s)=false:=rfl
@[go_sem] theorem aTc(t:TypeId)(x:I):xE (.iface t x)=false:=rfl
@[go_sem] theorem aUd:xE .nilIface=true:=rfl
end
@[go_sem] theorem aUe(cs:List I)(n:Nat):dq cs n []=cs:=by simp[dq]
@[go_sem] theorem aTy(c x:I)(cs xs:List I):dq (c::cs) 0 (x::xs)=x::dq cs 0 xs:=by simp[dq]
@[go_sem] theorem aTz(c:I)(cs xs:List I)(n:Nat):dq (c::cs) (n+1) xs=c::dq cs n xs:=by
 simp[dq,Nat.add_right_comm n 1]
attribute [go_sem] Er I.known I.one zX BZ BL DP DQ nh BW Hm Hn Em xB fa e8 tr DW y9 y9.ofBRH BW.arrOk uU He zQ Jd Jt D8 D9 IK Ed B0 Es Fz Hb apart Hs kJ DX G1 Dc MB cm iL false_implies Pn Lg aE7 bS lu bQ Ej bad p1 vm List.all_cons List.all_nil Bool.and_true Bool.true_and Bool.and_false Bool.false_and Bool.or_false Bool.or_true Bool.false_or Bool.true_or Bool.not_not List.flatMap_cons List.flatMap_nil List.flatMap_nil ge_iff_le gt_iff_lt beq_self_eq_true BEq.rfl List.mem_cons List.not_mem_nil forall_eq_or_imp forall_const or_false false_or ne_eq reduceCtorEq
@[go_sem] theorem aV6(a b:Nat):Nat.ble a b=decide (a<=b):=by
 rw[pf];simp
attribute [go_sem] aJ1 q0 aFt aHQ aHR Yx
attribute [go_sem] decide_true decide_false Bool.cond_true Bool.cond_false
@[go_sem] theorem aVx(b x:Bool):(bif b then x else false)=(b&&x):=by cases b<;>rfl
@[go_sem] theorem aVU(b x:Bool):(bif b then true else x)=(b||x):=by cases b<;>rfl
@[go_sem] theorem aVy(p:Prop):(p->p)=True:=kk
@[go_sem] theorem aTA(p:Prop)[Decidable p]:(decide p=true)=p:=kk
@[go_sem] theorem aTf(p:Prop)[Decidable p]:(decide p=false)=¬p:=kk
@[go_sem] theorem aVz(b:Bool):((!b)=true)=(b=false):=kk
@[go_sem] theorem aVA(b:Bool):((!b)=false)=(b=true):=kk
@[go_sem] theorem aVB(a b:Bool):((a&&b)=true)=(a=true/\b=true):=kk
@[go_sem] theorem aVV(a b:Bool):((a||b)=false)=(a=false/\b=false):=kk
theorem hY(h:aM P f args H x)(ok:kF P f=true)(hk:k x H):qA P (.func (.func f) [] []) args H k:=
 Or.inl ⟨ok,by
  simp only[ju,cA];exact h.mono λy H' ⟨av,al⟩=>by subst av;subst al;exact hk⟩
theorem dU{R:I->ab->Prop}(h:dp P f args H R)(ok:kF P f=true)(hk:∀x H',R x H'->k x H'):qA P (.func (.func f) [] []) args H k:=
 Or.inl ⟨ok,by
  simp only[ju,cA];exact h.mono hk⟩
theorem kf{K:I->Prop}(h:aM P f args H x)(ok:kF P f=true)(hk:K x):tk P g (.func (.func f) [] []) args H K:=
 ⟨x,λ_=>Or.inl ⟨ok,by
  simp only[ju,cA];exact h⟩,hk⟩
theorem WB{l:Nat}(h:qA P (.func (.yield l) [] []) args H K):DY P true (.func (.yield l) [] []) args H K:=Or.inr ⟨rfl,h⟩
theorem WC{f:I}(h:tk P g f args H (λv=>K v H)):DY P g f args H K:=Or.inl h
theorem aKo{fn:Func}(J:P.funcs[f]?=some fn)(U:fn.body=some code)(af:args.length<=fn.ntmps)
  (h:cI P fn.ntmps code (qJ P fn.results.toList λv H'=>∃L y,H'=H++L/\cL H.length H' v y/\y=x) (qb 0 args) H):aM P f args H x:=
 aFv J U af h
theorem wrap_i64{n:Int}(h1: -9223372036854775808<=n)(h2:n<=9223372036854775807):IntKind.i64.wrap n=n:=by
 simp only[IntKind.wrap,IntKind.signed,IntKind.bits,sH];split
 ·rename_i h;have h:=lT h;omega
 ·rename_i h;have h:¬n % 2 ^ 64>=2 ^ (64-1):=λq=>h<|cD q;omega
def A0:Nat->I->Bool
 |_,.int _ _|_,.bool _|_,.str _|_,.dO|_,.iu|_,.ea|_,.nilIface|_,.top=>true
 |k+1,.agg cs=>cs.all<|A0 k
 |k+1,.aQ cs=>cs.all<|A0 k
 |k+1,.iface _ x=>A0 k x
 |_,_=>false
theorem VQ:∀(k:Nat) {x:I},A0 k x=true->cM n x:=by
 intro k;induction k with
 |zero=>
  intro x h;cases x<;>first|(simp[A0]at h;done)|constructor
 |succ k J=>
  intro x h;cases x<;>first
   |(simp[A0]at h;done)
   |(rename_i cs;exact .agg cs λi y U=>J<|gm.1 h y (ds U))
   |(rename_i cs;exact .aQ cs λi y U=>J<|gm.1 h y (ds U))
   |(rename_i t y;exact .iface t y<|J h)
   |constructor
theorem Th{k:Nat}{L:ab}(hk:A0 k v=true)(he:v=x):∃J y,H++L=H++J/\cL n (H++L) v y/\y=x:=
 ⟨L,v,rfl,.cl _<|VQ k hk,he⟩
theorem aDx{k:Nat}(hk:A0 k v=true)(he:v=x):∃J y,H=H++J/\cL n H v y/\y=x:=
 ⟨[],v,(cA H).symm,.cl _<|VQ k hk,he⟩
@[go_sem] def yn:a7->a7->Prop
 |[],_=>True
 |(k,v)::β,α=>look α k=v/\yn β α
theorem s4{α:a7}:∀{β:a7},yn β α->∀t,look β t=.top\/look β t=look α t
 |[],_,t=>.inl rfl
 |(k,v)::β,h,t=>by
  rw[Ve];by_cases e:k=t
  ·subst e;rw[aA rfl];exact .inr h.1.symm
  ·rw[aj e];exact s4 h.2 t
def G2{ι:Type}(F:ι->a7)(e6:ι->ab)(pre:ι->Prop)(m:ι->Nat)(x:ι)(Q:cX):cX
 |.normal,α,H=>∃y,pre y/\m y<m x/\yn (F y) α/\H=e6 y
 |e,α,H=>Q e α H
section
variable {ι:Type} (F:ι->a7) (e6:ι->ab) (pre:ι->Prop) (m:ι->Nat) (x:ι) (Q:cX) (α:a7) (H:ab)
@[go_sem] theorem aTd:G2 F e6 pre m x Q .normal α H=∃y,pre y/\m y<m x/\yn (F y) α/\H=e6 y:=rfl
@[go_sem] theorem aUf(i:Nat):G2 F e6 pre m x Q (.exit i) α H=Q (.exit i) α H:=rfl
@[go_sem] theorem aUH:G2 F e6 pre m x Q .ret α H=Q .ret α H:=rfl
end
theorem cE{body:Code}{ι:Type}(F:ι->a7)(e6:ι->ab)(pre:ι->Prop)(m:ι->Nat)(U:ι)(aw:pre U)
  (O:yn (F U) α) (hH:H=e6 U) (round:∀x,pre x->cI P N body (G2 F e6 pre m x Q) (F x) (e6 x)):cI P N (.loop body) Q α H:=
 Yh F e6 pre m U aw (s4 O) hH λx J=>GH (round x J) λe T H' h=>by
  cases e<;>first
   |exact h
   |(obtain⟨y,h1,h2,h3,h4⟩:=h;exact⟨y,h1,h2,s4 h3,h4⟩)
def Ctx.stop(c:Ctx)(i:Nat)(S:Prop:=True):Ctx:=
 {w:=c.w,n:=c.n,bl:=c.bl,a1:=λj=>if j=i then c.a1 i+1 else c.a1 j,cO:=λj=>if j=i then true else c.cO j,hh:=λb=>c.hh b\/(S/\c.cO i=false/\b=c.bl i),base:=c.base}
theorem Ext.stop(c:Ctx)(i:Nat)(S:Prop:=True):Ext c (c.stop i S) where
 n:=bd _
 size:=bd _
 st:=λ_ h=>⟨.inl h,rfl⟩
 a1:=λj _=>by
  simp[Ctx.stop];split
  ·rename_i h;subst h;omega
  ·omega
 bl:=λj _ he=>by
  simp only[Ctx.stop]at he ⊢;by_cases h:j=i
  ·subst h;rw[aA rfl]at he;omega
  ·simp[h]
 os:=rfl
 tape:=⟨rfl,bd _⟩
 output:=rfl
 base:=rfl
theorem bp.aCm{B:bE}(S:Prop)(h:bp c H)(hi:H[i]?=some B)(hl:B.live)(eR:c.a1 i≠0):bp (c.stop i S) (ar H i .gone):=by
 have ak:i<c.n:=by rw[h.n];exact(cj.1 hi).1
 have ay:∀{j b},(ar H i .gone)[j]?=some b->b.live->j≠i/\H[j]?=some b:=by
  intro j b U T;by_cases e:j=i
  ·subst e;rw[ar,rH<|by rw[<-h.n];exact ak]at U
   cases U;exact T.elim
  ·rw[ar,gC λq=>e q.symm]at U
   exact⟨e,U⟩
 constructor
 ·exact h.jX.go (λ_ T=>.inl T) λ_ _=>rfl
 ·simp[ar,Ctx.stop,h.n]
 ·intro j U hd;simp only[Ctx.stop]at hd ⊢;split at hd
  ·cases hd
  ·exact h.lt j U hd
 ·intro j k b cB U hk T ew eH gf he;obtain⟨eE,g1⟩:=ay U T;obtain⟨fh,g2⟩:=ay hk ew;simp only[Ctx.stop,aj eE,aj fh]at eH gf he;exact h.inj j k b cB g1 g2 T ew eH gf he
 ·intro k hk;rcases hk with hk|⟨-,hd,rfl⟩
  ·obtain⟨h1,h2⟩:=h.st k hk;refine⟨h1,λj b U T eH=>?_⟩
   obtain⟨eE,g1⟩:=ay U T;simp only[Ctx.stop,aj eE]at eH;exact h2 j b g1 T eH
  ·refine⟨h.lt i ak hd,λj b U T eH e=>?_⟩
   obtain⟨eE,g1⟩:=ay U T;simp only[Ctx.stop,aj eE]at eH;exact eE<|h.inj j i b _ g1 hi T hl eH hd e
 ·intro j b U;by_cases e:j=i
  ·subst e;rw[ar,rH<|by rw[<-h.n];exact ak]at U
   cases U;exact .gone<|by simp[Ctx.stop]
  ·rw[ar,gC λq=>e q.symm]at U
   have J:=Ext.stop c i S;cases h.rep j b U with
   |cells a1 cs vs ty bT aP O Z V I z=>exact .cells a1 cs vs _ bT (by simpa[Ctx.stop,e]using aP) (by simpa[Ctx.stop,e]using O) Z V I λk x u p q=>(z k x u p q).mono J
   |void a1 aP O=>exact .void a1 (by simpa[Ctx.stop,e]using aP)<|by simpa[Ctx.stop,e]using O
   |c5 t a1 cs vs aP O Z V aRk z=>exact .c5 t a1 cs vs (by simpa[Ctx.stop,e]using aP) (by simpa[Ctx.stop,e]using O) Z V aRk λk x u p q=>(z k x u p q).mono J
   |pQ t a1 aP O=>exact .pQ t a1 (by simpa[Ctx.stop,e]using aP)<|by simpa[Ctx.stop,e]using O
   |map es clock cZ aP O Z V I=>exact .map es clock cZ (by simpa[Ctx.stop,e]using aP) (by simpa[Ctx.stop,e]using O) Z V λk p u g1 g2=>let⟨a6,a8,bb⟩:=I k p u g1 g2;⟨a6.mono J,a8.mono J,bb⟩
   |iI m since seen kU aP O Z V I z=>
    have hm:m≠i:=λr=>eR<|r▸V
    exact .iI m since seen kU (by simpa[Ctx.stop,e]using aP) (by simpa[Ctx.stop,e]using O) Z (by simpa[Ctx.stop,hm]using V) (by simpa[Ctx.stop,hm]using I) z
   |mB s pos aP O Z V=>exact .mB s pos (by simpa[Ctx.stop,e]using aP) (by simpa[Ctx.stop,e]using O) Z V
   |loop l α N st ic ps ns dS fn D ts aP O Z V I z=>exact .loop l α N st ic ps ns dS fn D ts (by simpa[Ctx.stop,e]using aP) (by simpa[Ctx.stop,e]using O) Z V I λt=>(z t).mono J
   |gone aP=>exact .gone<|by simpa[Ctx.stop,e]using aP
theorem bp.stop{v:Nat}(h:bp c H)(J:ay H i=.cells v cs)(U:v≠0):bp (c.stop i) (ar H i .gone):=h.aCm True (kG J trivial) trivial<|by rw[h.qN J];exact U
theorem AO{s:Nat}:∀{es:List I},(∀e∈es,e.cells.length=s)->∀{k j:Nat} {e x:I},es[k]?=some e->e.cells[j]?=some x->(es.flatMap I.cells)[k * s+j]?=some x
 |[],_,k,j,e,x,hk,_=>kr
 |J::es,hs,0,j,e,x,hk,U=>kr
 |J::es,hs,k+1,j,e,x,hk,U=>by
  rw[nj,pX kr,(hs J kk),show(k+1) * s+j-s=k * s+j by rw[pg];omega]
  exact AO (λe he=>hs e<|by simp[he]) hk U
theorem Je{s:Nat}:∀{es:List I},(∀e∈es,e.cells.length=s)->(es.flatMap I.cells).length=es.length * s
 |[],_=>kk
 |J::es,hs=>by
  rw[nj,bF,hs J kk,Je (λe he=>hs e kr),cg,pg];omega
theorem VR{v:Nat}{es:List I}{val:Value}(h:bp c H)(U:ay H i=.cells v cs)(rest)(Z:cs=es.flatMap I.cells++rest)(hs:∀e∈es,e.cells.length=s)
  (J:aI c (.osl s i v 0 es.length lc) val):aI (c.stop i) (.sl false es) val:=by
 have z:=h.qN U;obtain⟨base,cap,rfl,g1,w7,g2,g3⟩:=J.l8 z;cases hd:c.cO i with
 |true=>
  obtain⟨aP,rfl⟩:=g2 hd;have:=iO aP;subst this;exact .sl _ _ _ _ _ s (λ_ _=>undef) rfl (bd _) (λh=>by cases h) (λh=>absurd rfl h) kk kk kk
 |false=>
  obtain⟨cq,m,cT,dP⟩:=g3 hd;obtain⟨_,_,vs,e,bT,aa,pB,ax,Cv⟩:=h.cells U hd;have dH:=Je hs;refine .sl _ _ _ _ _ s (λk j=>vs.getD (k * s+j) undef) rfl iV (λh=>by cases h) (λaN=>?_) hs (λk x j y hk O=>?_) (by have:=J.FB;omega)
  ·have hlen:=pe.2 aN;have n7:=cq.resolve_left iV
   refine⟨_,n7,rfl,.inr ⟨trivial,hd,rfl⟩,λk j hk O=>?_⟩
   have b4:=by
    have:(k+1) * s<=es.length * s:=wA s iV
    rw[pg]at this;omega
   have T:k * s+j<vs.size:=by rw[Z,bF]at pB;omega
   rw[p0];show(c.w.cell? _)=_;rw[AY aa];simp[T]
  ·have yG:=AO hs hk O;have V:cs[k * s+j]?=some y:=kr
   have T:=(cj.1 V).1;exact(Cv _ _ _ V (by simp[show k * s+j<vs.size by omega])).mono<|Ext.stop c i
theorem Vg(y:I)(α:a7)(t:Nat):∀ts:List Nat,look (ts.map (λt=>(t,y))++α) t=if t∈ts then y else look α t
 |[]=>rfl
 |d::ts=>by
  rw[dz,iN,Ve,Vg y α t ts];by_cases e:d=t
  ·subst e;simp
  ·have:¬t=d:=λq=>e q.symm
   simp[e,this]
theorem aEg{v:Nat}(ts:List Nat)(es rest:List I)(J:∀t∈ts,look α t=.osl s i v 0 es.length lc)(V:ay H i=.cells v cs)(z:v≠0)
  (hI:cs=es.flatMap I.cells++rest) (hs:∀e∈es,e.cells.length=s) (h:cI P N code Q (ts.map (λt=>(t,.sl false es))++α) (ar H i .gone)):cI P N code Q α H:=by
 intro r c a U Z O;have T:=Ext.stop c i;refine wpIn_mono (h r (c.stop i) a U (Z.stop V z) ⟨O.size,O.defers.mono T,λt=>?_⟩) λ_ _ _ ⟨c',cG,H',av,al,aY,bu,b9⟩=>⟨c',cG,H',av,al,T.trans aY,bu,b9⟩
 rw[Vg];by_cases ah:t∈ts
 ·rw[aA ah];have U:=O.rep t;rw[J t ah]at U;exact VR Z V rest hI hs U
 ·rw[aj ah];exact(O.rep t).mono T
theorem CN{v:Nat}(ts:List Nat)(es)(J:∀t∈ts,look α t=.osl s i v 0 es.length lc)(U:ay H i=.cells v cs)(O:v≠0)
  (T:cs=es.flatMap I.cells) (hs:∀e∈es,e.cells.length=s) (h:cI P N code Q (ts.map (λt=>(t,.sl false es))++α) (ar H i .gone)):cI P N code Q α H:=
 aEg ts es [] J U O oE hs h
section before
variable (ops:Array Oper)
def nq(listed:Array Bool):Prop:=∀q o,listed.getD q false=true->ops[q]?=some o->∀e∈o.after,Region.binds .any e=true->listed.getD e.on false=true
def rM(i q:Nat):Prop:=∀listed,nq ops listed->listed.getD q false=true->listed.getD i false=true
def rL(i j:Nat):Prop:=∀listed,nq ops listed->j∈Region.ready .any ops listed->listed.getD i false=true
def tv(i j:Nat):Bool:=
 match ops[j]? with
 |some o=>o.after.any λe=>Region.binds .any e&&e.on==i
 |none=>false
variable {ops}
theorem Vh(h:tv ops i j=true):∃o e,ops[j]?=some o/\e∈o.after/\Region.binds .any e=true/\e.on=i:=by
 grind [tv,Array.any_eq_true']
theorem rM.refl(i):rM ops i i:=λ_ _ h=>h
theorem rM.trans{k:Nat}(h:rM ops i j)(c7:rM ops j k):rM ops i k:=λl J hk=>h l J<|c7 l J hk
theorem rM.dir(h:tv ops i j=true):rM ops i j:=λl J U=>by
 obtain⟨o,e,O,he,T,rfl⟩:=Vh h;exact J j o U O e he T
theorem rL.dir{q:Nat}(h:tv ops q j=true)(hl:rM ops i q):rL ops i j:=λl U O=>by
 obtain⟨o,e,T,he,V,rfl⟩:=Vh h;obtain⟨_,I,J,Z⟩:=mem_ready.1 O;rw[T]at J;cases J;exact hl l U<|Z e he V
theorem nq.set(V:nq ops listed)(Z:j∈Region.ready .any ops listed):nq ops (listed.setIfInBounds j true):=by
 intro q o aJ U e he O;by_cases J:j=q
 ·subst J;obtain⟨_,z,T,I⟩:=mem_ready.1 Z;rw[U]at T;cases T;exact getD_set_true<|I e he O
 ·rw[getD_set_ne false J]at aJ;exact getD_set_true<|V q o aJ U e he O
theorem CY(J:nq ops listed)(hi:i∈Region.ready .any ops listed)(U:j∈Region.ready .any ops listed):¬rL ops i j:=λh=>by
 grind [mem_ready,Bk,JW,Nat,Array,Bool,nq,Region.ready,rL]
end before
section tree
variable (P) (N:Nat) (ops:Array Oper) (eff:Nat->Bool)
abbrev tR:=List<|Nat×ab
abbrev hZ:=List<|Nat×(ab->Prop)
def fS(o:Oper)(α:a7)(v:I)(h c7:ab):Prop:=dQ P N ops h o α λdM H'=>dM=v/\H'=c7
def tn(i:Nat)(K:a7->ab->tR->hZ->Prop)(α:a7)(H:ab)(bR:tR)(cf:hZ):Prop:=
 match ops[i]? with
 |none=>K α H bR cf
 |some o=>
  if eff i=true then ∃v H1,fS P N ops o α v H H1/\(∀p∈cf,¬rL ops p.1 i->p.2 H1)/\K (cJ o.dst v α) H1 ((i,H)::bR) cf
  else ∃v,fS P N ops o α v H H/\(∀e∈bR,¬rL ops e.1 i->fS P N ops o α v e.2 e.2)/\K (cJ o.dst v α) H bR ((i,λh=>fS P N ops o α v h h)::cf)
def tw(K:a7->ab->Prop):Nat->Array Bool->a7->ab->tR->hZ->Prop
 |0,listed,α,H,_,_=>Region.ready .any ops listed=[]/\K α H
 |fuel+1,listed,α,H,bR,cf=>(Region.ready .any ops listed=[]->K α H)/\∀i∈Region.ready .any ops listed,tn P N ops eff i (tw K fuel<|listed.setIfInBounds i true) α H bR cf
variable {P} {N} {ops} {eff}
theorem fS.alike{o:Oper}{α β:a7}{v:I}{h c7:ab}(J:Alike α β)(k:fS P N ops o α v h c7):fS P N ops o β v h c7:=dQ.alike J k
theorem fS.put(k:fS P N ops gS α v h c7)(U:∀d,j4.dst=some d->d∉gS.looksAt ops):fS P N ops gS (cJ j4.dst u α) v h c7:=
 λr c a next Q h1 h2 h3 hk=>k r c a next Q h1 h2 (λt ah=>by
  have:=h3 t ah;rwa[MM λx J e=>U x J<|e▸ah]at this) hk
theorem fS.Ba(k:fS P N ops gS (cJ j4.dst u α) v h c7)(U:∀d,j4.dst=some d->d∉gS.looksAt ops):fS P N ops gS α v h c7:=
 λr c a next Q h1 h2 h3 hk=>k r c a next Q h1 h2 (λt ah=>by
  rw[MM λx J e=>U x J<|e▸ah]
  exact h3 t ah) hk
def zy(p q:hZ):Prop:=∀x∈q,∃y∈p,y.1=x.1/\∀h,y.2 h->x.2 h
theorem zy.refl(p):zy p p:=λx J=>⟨x,J,rfl,λ_ h=>h⟩
theorem zy.cons{p q:hZ}{i:Nat}{O T:ab->Prop}(h:∀x,O x->T x)(U:zy p q):zy ((i,O)::p) ((i,T)::q):=by
 intro x J;cases J with
 |head=>exact⟨_,.head _,rfl,h⟩
 |tail _ J=>obtain⟨y,V,h1,h2⟩:=U x J;exact⟨y,.tail _ V,h1,h2⟩
theorem zy.swap{p:hZ}{T U V O:ab->Prop}(h:∀x,T x->U x)(k:∀x,V x->O x):zy ((j,V)::(i,T)::p) ((i,U)::(j,O)::p):=by
 intro x J;cases J with
 |head=>simp_all
 |tail _ J=>
  cases J with
  |head=>exact⟨_,.head _,rfl,k⟩
  |tail _ J=>exact⟨x,.tail _<|.tail _ J,rfl,λ_ h=>h⟩
theorem CO{K:a7->ab->Prop}(bP:∀α β H,Alike α β->K α H->K β H):∀(n:Nat) (listed:Array Bool) (α β:a7) (H:ab) (U:tR) (O T:hZ),Alike α β->zy O T->
  tw P N ops eff K n listed α H U O->tw P N ops eff K n listed β H U T
 |0,_,_,_,_,_,_,_,J,_,h=>⟨h.1,bP _ _ _ J h.2⟩
 |n+1,listed,α,β,H,U,O,T,J,ad,h=>by
  refine⟨λaw=>bP _ _ _ J<|h.1 aw,λi hi=>?_⟩
  have:=h.2 i hi;unfold tn at this ⊢;split
  ·rename_i V;simp[V]at this;exact CO bP n _ _ _ _ _ _ _ J ad this
  ·rename_i o V;simp only[V]at this;split
   ·rename_i he;rw[aA he]at this;obtain⟨v,H1,h1,h2,h3⟩:=this;refine⟨v,H1,h1.alike J,λp I Z=>?_,CO bP n _ _ _ _ _ _ _ (J.put _ _) ad h3⟩
    obtain⟨y,z,av,al⟩:=ad p I;exact al _<|h2 y z kr
   ·rename_i he;rw[aj he]at this;obtain⟨v,h1,h2,h3⟩:=this;exact⟨v,h1.alike J,λe r0 Z=>(h2 e r0 Z).alike J,CO bP n _ _ _ _ _ _ _ (J.put _ _) (.cons (λ_ h=>h.alike J) ad) h3⟩
def Head(P:Program)(N:Nat)(ops:Array Oper)(eff:Nat->Bool)(i:Nat)(gS:Oper)(v:I)(H1:ab)(α:a7)(H:ab)(bR:tR)(cf:hZ):Prop:=
 fS P N ops gS α v H H1/\(eff i=true->∀p∈cf,¬rL ops p.1 i->p.2 H1)/\(eff i=false->H1=H/\∀e∈bR,¬rL ops e.1 i->fS P N ops gS α v e.2 e.2)
theorem Head.tn{K:a7->ab->tR->hZ->Prop}{i:Nat}{gS:Oper}{v:I}{H1:ab}{α:a7}{H:ab}{J:tR}{U:hZ}(hi:ops[i]?=some gS)(h:Head P N ops eff i gS v H1 α H J U)
  (hk:K (cJ gS.dst v α) H1 (if eff i=true then(i,H)::J else J) (if eff i=true then U else(i,λh=>fS P N ops gS α v h h)::U)):tn P N ops eff i K α H J U:=by
 unfold Go.Proofs.YtnmamncmpklliaaGreatDoor.tn;simp only[hi];cases he:eff i with
 |true=>
  grind [Nat,Oper,Head,cJ]
 |false=>
  rw[he]at hk;obtain⟨av,al⟩:=h.2.2 he;subst av;exact⟨v,h.1,al,hk⟩
theorem MX{K:a7->ab->Prop}(bP:∀α β H,Alike α β->K α H->K β H)(hi:ops[i]?=some gS)(vv:eff i=true->∀j,eff j=true->j≠i->∀listed,nq ops listed->i∈Region.ready .any ops listed->j∈Region.ready .any ops listed->False):
  ∀(fuel) (listed) (α) (H H1) (T) (cf),nq ops listed->
   (∀j j4,ops[j]?=some j4->j≠i->listed.getD j true=false->(∀e∈j4.after,Region.binds .any e=true->e.on≠i)->gS.apart ops j4=true)->
   i∈Region.ready .any ops listed->Head P N ops eff i gS v H1 α H T cf->
   tw P N ops eff K fuel (listed.setIfInBounds i true) (cJ gS.dst v α) H1 (if eff i=true then(i,H)::T else T) (if eff i=true then cf else(i,λh=>fS P N ops gS α v h h)::cf)->
   tw P N ops eff K (fuel+1) listed α H T cf:=by
 intro fuel;induction fuel with
 |zero=>
  intro listed α H H1 T cf _ _ V Z an;refine⟨λh=>(by rw[h]at V;cases V),λj aq=>?_⟩
  by_cases O:j=i
  ·subst O;exact Z.tn hi an
  ·have:=ready_mono aq O;rw[an.1]at this;cases this
 |succ fuel aB=>
  intro listed α H H1 T cf dV HZ V Z an;refine⟨λh=>(by rw[h]at V;cases V),λj aq=>?_⟩
  by_cases O:j=i
  ·subst O;exact Z.tn hi an
  ·have h1:=an.2 j<|ready_mono aq O;obtain⟨H8,j4,Ij,fA⟩:=mem_ready.1 aq;have Mk:=CY dV V aq;have s8:∀e∈j4.after,Region.binds .any e=true->e.on≠i:=λe he U heq=>by
    have h1:=fA e he U;have aw:=(mem_ready.1 V).1;rw[heq]at h1;rcases Bk i listed.size with c7|c7
    ·simp[c7]at aw h1;rw[aw]at h1;cases h1
    ·simp[JW c7]at h1
   obtain⟨I,cT,z⟩:=Oper.apart_spec<|HZ j j4 Ij O H8 s8;have HT:=dV.set aq;have H0:∀k ok,ops[k]?=some ok->k≠i->(listed.setIfInBounds j true).getD k true=false->
     (∀e∈ok.after,Region.binds .any e=true->e.on≠i)->gS.apart ops ok=true:=λk ok hk H9 Iw cH=>by
    refine HZ k ok hk H9 ?_ cH;by_cases Cp:j=k
    ·subst Cp;exact H8
    ·rw[getD_set_ne true Cp]at Iw;exact Iw
   have h6:=ready_mono V<|ka O;unfold tn at h1 ⊢;simp only[Ij]at h1 ⊢;cases Cj:eff j with
   |true=>
    rw[Cj,aA rfl]at h1;rw[aA rfl];obtain⟨u,Br,Fi,r5,lJ⟩:=h1;cases J:eff i with
    |true=>exact(vv J j Cj O listed dV V aq).elim
    |false=>
     obtain⟨av,al⟩:=Z.2.2 J;subst av;simp only[J,mE,gz]at r5 lJ;have aPU:=r5 (i,λh=>fS P N ops gS α v h h) (.head _) Mk
     refine⟨u,Br,Fi.Ba I,λp ad U=>r5 p (.tail _ ad) U,?_⟩
     refine aB (listed.setIfInBounds j true) (cJ j4.dst u α) Br Br ((j,H1)::T) cf HT H0 h6 ⟨fS.put aPU z,λh=>(by rw[J]at h;cases h),λ_=>⟨rfl,λe he U=>?_⟩⟩ ?_
     ·cases he with
      |head=>exact Z.1.put z
      |tail _ he=>exact(al e he U).put z
     ·simp only[J,mE,gz];rw[J0 _ _ O];exact CO bP _ _ _ _ _ _ _ _ (HE cT) (.cons (λ_ h=>h.put z)<|.refl _) lJ
   |false=>
    rw[Cj,aj kk]at h1
    rw[aj kk]
    obtain⟨u,Fi,H3,lJ⟩:=h1;cases J:eff i with
    |true=>
     simp only[J,dG]at H3 lJ;have aPV:=(H3 (i,H) (.head _) Mk).Ba I;refine⟨u,aPV,λe he U=>(H3 e (.tail _ he) U).Ba I,?_⟩
     refine aB (listed.setIfInBounds j true) (cJ j4.dst u α) H H1 T _ HT H0 h6 ⟨Z.1.put z,λ_ p ad U=>?_,λh=>(by rw[J]at h;cases h)⟩ ?_
     ·cases ad with
      |head=>exact Fi.Ba I
      |tail _ ad=>exact Z.2.1 J p ad U
     ·simp only[J,dG];rw[J0 _ _ O];exact CO bP _ _ _ _ _ _ _ _ (HE cT) (.cons (λ_ h=>h.Ba I)<|.refl _) lJ
    |false=>
     obtain⟨av,al⟩:=Z.2.2 J;subst av;simp only[J,mE,gz]at H3 lJ;refine⟨u,Fi.Ba I,λe he U=>(H3 e he U).Ba I,?_⟩
     refine aB (listed.setIfInBounds j true) (cJ j4.dst u α) H1 H1 T _ HT H0 h6 ⟨Z.1.put z,λh=>(by rw[J]at h;cases h),λ_=>⟨rfl,λe he U=>(al e he U).put z⟩⟩ ?_
     simp only[J,mE,gz];rw[J0 _ _ O];exact CO bP _ _ _ _ _ _ _ _ (HE cT) (.swap (λ_ h=>h.put z) λ_ h=>h.Ba I) lJ
def Hf(P:Program)(N:Nat)(ops:Array Oper)(eff:Nat->Bool)(K:a7->ab->Prop):List Oper->Nat->a7->ab->tR->hZ->Prop
 |[],_,α,H,_,_=>K α H
 |o::os,k,α,H,bR,cf=>∃v H1,Head P N ops eff k o v H1 α H bR cf/\
   Hf P N ops eff K os (k+1) (cJ o.dst v α) H1 (if eff k=true then(k,H)::bR else bR) (if eff k=true then cf else(k,λh=>fS P N ops o α v h h)::cf)
theorem VS{K:a7->ab->Prop}(bP:∀α β H,Alike α β->K α H->K β H)(T:∀i j,eff i=true->eff j=true->j≠i->∀listed,nq ops listed->i∈Region.ready .any ops listed->j∈Region.ready .any ops listed->False):
  ∀(l:List Oper) (k:Nat) (listed:Array Bool) (α:a7) (H:ab) (J:tR) (U:hZ),(∀j,l[j]?=ops[k+j]?)->nq ops listed->
  Region.lexFrom .any ops l.length k listed=true->Hf P N ops eff K l k α H J U->tw P N ops eff K l.length listed α H J U
 |[],_,_,_,_,_,_,_,_,O,h=>⟨by simpa[Region.lexFrom]using O,h⟩
 |o::l,k,listed,α,H,J,U,hl,V,O,h=>by
  have aw:=by simpa using(hl 0).symm
  simp[Region.lexFrom]at O;obtain⟨⟨I,z⟩,vr⟩:=O;obtain⟨v,H1,aH,hk⟩:=h;have Z:=by simpa using I
  exact MX bP aw (λhe j aq aN=>T k j he aq aN) l.length listed α H H1 J U V (Region.free_spec aw z) Z aH
   (VS bP T l (k+1) _ _ _ _ _ (λj=>by have:=hl<|j+1;grind) (V.set Z) vr hk)
theorem MH{r:Option Nat}{Q:Exit->Act->World->Prop}{K:a7->ab->Prop}(hd:za N ops=true)(O:Ctx)(bP:∀α H c a,K α H->bp c H->Ext O c->kD c N α a->Q .normal a c.w):
  ∀(n:Nat) (listed:Array Bool) (α:a7) (H:ab) (V:tR) (Z:hZ) (c:Ctx) (a:Act),bp c H->Ext O c->kD c N α a->tw P N ops eff K n listed α H V Z->wpAnyIn (wf r) 0 P .any ops Q n listed a c.w
 |0,_,_,_,_,_,_,_,hs,J,U,h=>⟨h.1,bP _ _ _ _ h.2 hs J U⟩
 |n+1,listed,α,H,V,Z,c,a,hs,J,U,h=>by
  refine⟨λaw=>bP _ _ _ _ (h.1 aw) hs J U,λi hi=>?_⟩
  have h1:=h.2 i hi;unfold tn at h1;unfold wpOpIn;split
  ·rename_i T;simp only[T]at h1;exact MH hd O bP n _ _ _ _ _ _ _ hs J U h1
  ·rename_i o T;simp only[T]at h1;have go:∀v H1 I z,fS P N ops o α v H H1->tw P N ops eff K n (listed.setIfInBounds i true) (cJ o.dst v α) H1 I z->
     if Region.wanted o (yielded ops a.tmps)then o.wpIn (wf r) 0 P a c.w (wpAnyIn (wf r) 0 P .any ops Q n<|listed.setIfInBounds i true) Q else(∀f,o.about P c.w a.eval=some f->(wf r).fn f)/\wpAnyIn (wf r) 0 P .any ops Q n (listed.setIfInBounds i true) (a.put o.dst undef) c.w:=by
    intro v H1 I z aH hk;have:=aH r c a (wpAnyIn (wf r) 0 P .any ops Q n<|listed.setIfInBounds i true) Q hs U.size (λt _=>U.rep t) λc' x dM H' g1 g2 g3 g4=>by
     obtain⟨av,al⟩:=g4;rw[al]at g1;rw[av]at g3;exact MH hd O bP n _ _ _ _ _ _ _ g1 (J.trans g2) ((U.mono g2).put (gm.1 hd o kr) g3) hk
    by_cases hw:Region.wanted o (yielded ops a.tmps)=true
    ·rw[aA hw]at this ⊢;exact this
    ·rw[aj hw]at this ⊢;exact⟨λ_ _=>trivial,this⟩
   grind
end tree
section aYx
variable {ops:Array Oper}
def ri(ops:Array Oper):List Nat->Bool
 |a::b::l=>tv ops a b&&ri ops (b::l)
 |_=>true
theorem Fv:∀{a:Nat} {l:List Nat},ri ops (a::l)=true->∀j∈l,rL ops a j/\rM ops a j
 |a,[],_,j,U=>kr
 |a,b::l,h,j,U=>by
  rw[ri,cV]at h;cases U with
  |head=>exact⟨.dir h.1<|.refl _,.dir h.1⟩
  |tail _ U=>
   obtain⟨_,h2⟩:=Fv h.2 j U;have key:∀{b:Nat} {l:List Nat},ri ops (b::l)=true->∀x,rM ops x b->∀j∈l,rL ops x j:=by
    intro b l;induction l generalizing b with
    |nil=>intro _ x _ j U;cases U
    |cons c l O=>
     intro h x J j U;rw[ri,cV]at h;cases U with
     |head=>exact .dir h.1 J
     |tail _ U=>exact O h.2 x (J.trans<|.dir h.1) j U
   exact⟨key h.2 a (.dir h.1) j U,(rM.dir h.1).trans h2⟩
theorem Uy(h:ri ops (a::l)=true):ri ops l=true:=by
 cases l with
 |nil=>rfl
 |cons b l=>rw[ri,cV]at h;exact h.2
theorem Ol:∀{l:List Nat},ri ops l=true->∀i j,i∈l->j∈l->j≠i->rL ops i j\/rL ops j i
 |[],_,i,_,hi,_,_=>kr
 |a::l,h,i,j,hi,J,U=>by
  cases hi with
  |head=>
   cases J with
   |head=>exact absurd rfl U
   |tail _ J=>exact .inl (Fv h j J).1
  |tail _ hi=>
   cases J with
   |head=>exact .inr (Fv h i hi).1
   |tail _ J=>exact Ol (Uy h) i j hi J U
end aYx
inductive cu where
 |free
 |pure (w:Nat)
 |eff (fs:List Bool)
def zb:Op->Bool
 |.move _|.assign _|.build _ _|.buildSlice _ _ _|.binOp _ _ _ _ _|.unOp _ _ _|.makeInterface _ _|.makeFunc _ _ _|.field _ _ _|.typeAssert _ _ _ _|.extract _ _|.pick _ _ _=>true
 |_=>false
def nL(P:Program)(all:List Oper)(h:ab)(o:Oper)(α:a7)(v:I):Prop:=
 match o with
 |⟨_,op,_,_,_,guard⟩=>
  match guard,op with
  |none,.pick x y z=>(kJ true (bm α x) (bm α y) (bm α z)).s/\v=(kJ true (bm α x) (bm α y) (bm α z)).v
  |none,.call ⟨.value f,xs,_⟩=>kb P (bm α f) (xs.toList.map (bm α)) h λdM H'=>dM=v/\H'=h
  |none,.call ⟨.invoke r m,xs,_⟩=>kb P (sY P m (bm α r)) (xs.toList.map (bm α)) h λdM H'=>dM=v/\H'=h
  |none,op=>(cr P op (bm α) h).s/\(cr P op (bm α) h).H=h/\v=(cr P op (bm α) h).v
  |some (j,want),.pick x y z=>
   iL (bS α<|bQ all j)/\((cm (bS α<|bQ all j) want)=true->(kJ (cm (bS α<|bQ all j) want) (bm α x) (bm α y) (bm α z)).s)/\
    v=.opt (cm (bS α<|bQ all j) want) (kJ (cm (bS α (bQ all j)) want) (bm α x) (bm α y)<|bm α z).v
  |some (j,want),.call ⟨.value f,xs,_⟩=>
   iL (bS α<|bQ all j)/\lu (cm (bS α<|bQ all j) want) α (f::xs.toList)/\
    ∃u,(cm (bS α<|bQ all j) want=true->kb P (dB α f) (xs.toList.map<|dB α) h (λdM H'=>dM=u/\H'=h))/\v=.opt (cm (bS α<|bQ all j) want) u
  |some (j,want),op=>
   iL (bS α<|bQ all j)/\lu (cm (bS α<|bQ all j) want) α op.operands.toList/\((cm (bS α<|bQ all j) want)=true->(cr P op (dB α) h).s/\(cr P op (dB α) h).H=h)/\
    v=.opt (cm (bS α<|bQ all j) want) (cr P op (dB α) h).v
theorem nL.fS(k:nL P ops.toList h o α v):fS P N ops o α v h h:=by
 obtain⟨dst,op,ty,pos,after,guard⟩:=o;dsimp only[nL]at k;split at k
 ·obtain⟨h1,rfl⟩:=k;exact dQ.ot rfl<|Fp rfl rfl h1
 ·exact dQ.ot rfl<|yB rfl k
 ·exact dQ.ot rfl<|Fo rfl k
 ·obtain⟨h1,h2,rfl⟩:=k;exact(dQ.ot rfl (yw h1)).mono λv H' ⟨av,al⟩=>⟨av,al.trans h2⟩
 ·obtain⟨h1,h2,rfl⟩:=k;exact dQ.wc rfl h1 (bm α) (λc a _ hl x J=>qa λt ah=>hl t<|p5 (by subst ah;exact J))
   (λU=>Fp rfl U<|h2 U)
 ·obtain⟨h1,h2,u,h3,rfl⟩:=k;exact dQ.wc rfl h1 (dB α) (λc a U hl x J=>tZ (qa λt ah=>hl t<|p5 (by subst ah;exact J)) (sU h2 x<|by simpa[Op.operands,Call.operands]using J) U)
   (λU=>yB rfl<|h3 U)
 ·obtain⟨h1,h2,h3,rfl⟩:=k;exact dQ.wc rfl h1 (dB α) (λc a U hl x J=>tZ (qa λt ah=>hl t<|p5 kr) (sU h2 x J) U)
   (λU=>(yw (h3 U).1).mono λv H' ⟨av,al⟩=>⟨av,al.trans (h3 U).2⟩)
theorem Uk{op:Op}(J:zb op=true)(ρ:Operand->I)(h c7:ab):(cr P op ρ c7).s=(cr P op ρ h).s/\(cr P op ρ c7).v=(cr P op ρ h).v/\(cr P op ρ c7).H=c7:=by
 cases op<;>first|(simp[zb]at J;done)|exact⟨rfl,rfl,rfl⟩|skip
theorem IN(J:zb o.op=true)(k:nL P all h o α v):nL P all c7 o α v:=by
 obtain⟨dst,op,ty,pos,after,guard⟩:=o;dsimp only[nL]at k ⊢;split at k
 ·exact k
 ·simp[zb]at J
 ·simp[zb]at J
 ·obtain⟨av,al,U⟩:=Uk (P:=P) J (bm α) h c7;grind
 ·exact k
 ·simp[zb]at J
 ·obtain⟨av,al,U⟩:=Uk J (dB α) h c7;rw[<-av,<-al]at k;exact⟨k.1,k.2.1,λO=>⟨(k.2.2.1 O).1,U⟩,k.2.2.2⟩
def tz:List Bool->hZ->ab->Prop
 |true::fs,p::ps,h=>p.2 h/\tz fs ps h
 |false::fs,_::ps,h=>tz fs ps h
 |_,_,_=>True
def pJ{α:Type}:List Bool->List α->List α
 |true::fs,p::ps=>p::pJ fs ps
 |false::fs,_::ps=>pJ fs ps
 |_,_=>[]
def va:Nat->List ab->(ab->Prop)->Prop
 |n+1,h::hs,wJ=>wJ h/\va n hs wJ
 |_,_,_=>True
def YZ(P:Program)(all:List Oper)(o:Oper)(α:a7)(H:ab):Prop:=
 match o.guard with
 |none=>(cr P o.op (bm α) H).s
 |some (j,want)=>iL (bS α<|bQ all j)/\lu (cm (bS α<|bQ all j) want) α o.op.operands.toList/\(cm (bS α<|bQ all j) want=true->(cr P o.op (dB α) H).s)
def Y0(P:Program)(all:List Oper)(o:Oper)(α:a7)(H:ab):I:=
 match o.guard with
 |none=>(cr P o.op (bm α) H).v
 |some (j,want)=>.opt (cm (bS α<|bQ all j) want) (cr P o.op (dB α) H).v
def Y1(P:Program)(all:List Oper)(o:Oper)(α:a7)(H:ab):ab:=
 match o.guard with
 |none=>(cr P o.op (bm α) H).H
 |some (j,want)=>bif cm (bS α<|bQ all j) want then(cr P o.op (dB α) H).H else H
theorem dQ.aBJ{want:Bool}(O:o.guard=some (j,want))(T:iL (bS α<|bQ ops.toList j))
  (ρ) (hρ:∀(c) (a:Act),cm (bS α<|bQ ops.toList j) want=true->(∀t∈o.looksAt ops,aI c (look α t)<|a.tmps.getD t undef)->∀x∈o.op.operands.toList,aI c (ρ x)<|a.eval x)
  (h:cm (bS α<|bQ ops.toList j) want=true->pZ P o ρ H (λJ H'=>J=v/\H'=H1)):
  dQ P N ops H o α (λJ H'=>J=.opt (cm (bS α<|bQ ops.toList j) want) v/\H'=bif cm (bS α<|bQ ops.toList j) want then H1 else H):=by
 intro r c a next Q hs hsz hl hk
 rw[SL O hl T];cases U:cm (bS α<|bQ ops.toList j) want with
 |true=>
  rw[U]at hk;refine h U r c a next Q hs (hρ c a U hl) λc' x J H' h1 h2 h3 h4=>?_
  obtain⟨rfl,rfl⟩:=h4;exact hk c' _ J _ h1 h2 (.opt _ _ _ (λ_=>h3) λh=>kr) ⟨rfl,rfl⟩
 |false=>
  rw[U]at hk;exact hk c _ undef H hs (Ext.refl c) (.opt _ _ _ (λh=>kr) λ_=>rfl) ⟨rfl,rfl⟩
theorem aIC(h:YZ P ops.toList o α H):fS P N ops o α (Y0 P ops.toList o α H) H (Y1 P ops.toList o α H):=by
 obtain⟨dst,op,ty,pos,after,guard⟩:=o;cases guard with
 |none=>exact dQ.ot rfl<|yw h
 |some g=>
  obtain⟨h1,h2,h3⟩:=h;exact dQ.aBJ rfl h1 (dB α)
   (λc a U hl x J=>tZ (qa λt ah=>hl t<|p5 kr) (sU h2 x J) U)
   (λU=>yw<|h3 U)
def Ln(P:Program)(all:List Oper)(o:Oper)(α:a7)(H:ab)(v:I)(H1:ab):Prop:=
 match o with
 |⟨_,.call ⟨.value f,xs,_⟩,_,_,_,none⟩=>kb P (bm α f) (xs.toList.map (bm α)) H λdM H'=>dM=v/\H'=H1
 |⟨_,.call ⟨.value f,xs,_⟩,_,_,_,some (j,want)⟩=>iL (bS α<|bQ all j)/\lu (cm (bS α<|bQ all j) want) α (f::xs.toList)/\
   ∃u,(cm (bS α<|bQ all j) want=true->kb P (dB α f) (xs.toList.map<|dB α) H (λdM H'=>dM=u/\H'=H1))/\(cm (bS α<|bQ all j) want=false->H1=H)/\v=.opt (cm (bS α<|bQ all j) want) u
 |o=>YZ P all o α H/\v=Y0 P all o α H/\H1=Y1 P all o α H
theorem WD(h:Ln P ops.toList o α H v H1):fS P N ops o α v H H1:=by
 unfold Ln at h;split at h
 ·exact dQ.ot rfl<|yB rfl h
 ·obtain⟨h1,h2,u,h3,h4,rfl⟩:=h;refine dQ.mono (dQ.aBJ rfl h1 (dB α) (λc a U hl x J=>tZ (qa λt ah=>hl t<|p5 kr) (sU h2 x<|by simpa[Op.operands,Call.operands]using J) U)
   (λU=>yB rfl<|h3 U)) λO H' ⟨av,al⟩=>⟨av,al.trans ?_⟩
  grind
 ·obtain⟨h1,rfl,rfl⟩:=h;exact aIC h1
def e0(P:Program)(all:List Oper):List cu->List Oper->Nat->a7->ab->List ab->hZ->(a7->ab->Prop)->Prop
 |[],[],_,α,H,_,_,ef=>ef α H
 |.free::ps,o::os,k,α,H,bR,cf,ef=>∃v,nL P all H o α v/\e0 P all ps os (k+1) (cJ o.dst v α) H bR cf ef
 |.pure w::ps,o::os,k,α,H,bR,cf,ef=>∃v,nL P all H o α v/\va w bR (λh=>nL P all h o α v)/\
   e0 P all ps os (k+1) (cJ o.dst v α) H bR ((k,λh=>nL P all h o α v)::cf) ef
 |.eff fs::ps,o::os,k,α,H,bR,cf,ef=>∃v H1,Ln P all o α H v H1/\tz fs cf H1/\
   e0 P all ps os (k+1) (cJ o.dst v α) H1 (H::bR) (pJ fs cf) ef
 |_,_,_,_,_,_,_,_=>False
def xF(ops:Array Oper):List Oper->List cu->Nat->List Nat->List Nat->Bool
 |[],[],_,_,_=>true
 |o::os,.free::ps,k,fM,cf=>zb o.op&&xF ops os ps (k+1) fM cf
 |_::os,.pure w::ps,k,fM,cf=>(match fM[w]? with|some e=>tv ops e k|none=>true)&&xF ops os ps (k+1) fM (k::cf)
 |_::os,.eff fs::ps,k,fM,cf=>(match fM with|e::_=>tv ops e k|[]=>true)&&(fs.length==cf.length)&&(fs.zip cf).all (λx=>x.1||tv ops x.2 k)&&xF ops os ps (k+1) (k::fM) (pJ fs cf)
 |_,_,_,_,_=>false
def mn:List cu->Nat->List Nat
 |[],_=>[]
 |.eff _::ps,k=>k::mn ps (k+1)
 |_::ps,k=>mn ps<|k+1
theorem CK:∀(pl:List cu) (k i:Nat),i∈mn pl k->k<=i
 |[],_,_,h=>by cases h
 |.eff _::ps,k,i,h=>by
  cases h with
  |head=>exact bd _
  |tail _ h=>exact fr (oA _)<|CK ps (k+1) i h
 |.free::ps,k,i,h=>fr (oA _)<|CK ps (k+1) i h
 |.pure _::ps,k,i,h=>fr (oA _)<|CK ps (k+1) i h
theorem Vi{U:ab->Prop}:∀{w:Nat} {hs:List ab},va w hs U->∀i h,i<w->hs[i]?=some h->U h
 |0,_,_,_,_,hi,_=>absurd hi<|Nat.not_lt_zero _
 |w+1,[],_,i,h,_,J=>kr
 |w+1,g::hs,k,0,h,_,J=>by simp at J;subst J;exact k.1
 |w+1,g::hs,k,i+1,h,hi,J=>Vi k.2 i h (Nat.lt_of_succ_lt_succ hi) kr
def DD(ops:Array Oper):List Nat->Prop
 |a::b::l=>tv ops b a=true/\DD ops (b::l)
 |_=>True
theorem DD.tail(h:DD ops (a::l)):DD ops l:=by
 cases l with
 |nil=>trivial
 |cons b l=>exact h.2
theorem TJ{ops:Array Oper}:∀{l:List Nat},DD ops l->∀(p q a b:Nat),p<=q->l[p]?=some a->l[q]?=some b->rM ops b a
 |[],_,p,_,_,_,_,h,_=>by simp at h
 |x::l,J,0,0,a,b,_,h1,h2=>by simp at h1 h2;subst h1;subst h2;exact .refl _
 |x::l,J,p+1,0,_,_,h,_,_=>absurd h<|Nat.not_succ_le_zero p
 |x::l,J,p+1,q+1,a,b,h,h1,h2=>TJ J.tail p q a b (Nat.le_of_succ_le_succ h) kr kr
 |x::l,J,0,q+1,a,b,_,h1,h2=>by
  simp at h1;subst h1;cases l with
  |nil=>simp at h2
  |cons y l=>exact(TJ J.tail 0 q y b (bW _) kk kr).trans<|.dir J.1
theorem TK{ops:Array Oper}{k:Nat}{h:ab}:∀{fs:List Bool} {ps:hZ},tz fs ps h->fs.length=ps.length->(∀x∈fs.zip (ps.map (·.1)),(x.1||tv ops x.2 k)=true)->
  ∀p∈ps,p.2 h\/tv ops p.1 k=true
 |[],[],_,_,_,p,ad=>by cases ad
 |true::fs,q::ps,U,hl,O,p,ad=>by
  cases ad with
  |head=>exact .inl U.1
  |tail _ ad=>exact TK U.2 kr (λx J=>O x oE) p ad
 |false::fs,q::ps,U,hl,O,p,ad=>by
  cases ad with
  |head=>simp_all
  |tail _ ad=>exact TK (show tz fs ps h from U) kr (λx J=>O x oE) p ad
 |[],_::_,_,hl,_,_,_=>kr
 |_::_,[],_,hl,_,_,_=>by simp at hl
theorem TL{β:Type}(f:(Nat×(ab->Prop))->β):∀(fs:List Bool) (ps:hZ),(pJ fs ps).map f=pJ fs (ps.map f)
 |[],ps=>rfl
 |true::fs,[]=>rfl
 |false::fs,[]=>rfl
 |true::fs,p::ps=>by simp[pJ,TL f fs ps]
 |false::fs,p::ps=>by simp[pJ,TL f fs ps]
theorem Tj{ops:Array Oper}{k:Nat}:∀{fs:List Bool} {ps:hZ},fs.length=ps.length->(∀x∈fs.zip (ps.map (·.1)),(x.1||tv ops x.2 k)=true)->∀p∈ps,p∈pJ fs ps\/tv ops p.1 k=true
 |[],[],_,_,p,ad=>by cases ad
 |true::fs,q::ps,hl,U,p,ad=>by
  cases ad with
  |head=>exact .inl<|.head _
  |tail _ ad=>exact(Tj kr (λx J=>U x oE) p ad).imp (.tail _) id
 |false::fs,q::ps,hl,U,p,ad=>by
  cases ad with
  |head=>simp_all
  |tail _ ad=>exact(Tj kr (λx J=>U x oE) p ad).imp id id
 |[],_::_,hl,_,_,_=>kr
 |_::_,[],hl,_,_,_=>by simp at hl
def aKp(ops:Array Oper)(fM:List Nat)(lg sp:hZ):Prop:=
 ∀p∈lg,(∃e l,fM=e::l/\rM ops p.1 e)\/(∀h,p.2 h)\/∃q∈sp,q.1=p.1/\∀h,q.2 h->p.2 h
theorem MN{N:Nat}{ops:Array Oper}{I:List cu}{K:a7->ab->Prop}(eU:True):
  ∀(os:List Oper) (pl:List cu) (k:Nat) (α:a7) (H:ab) (J:List Nat) (T:List ab) (V sp:hZ),xF ops os pl k J (sp.map (·.1))=true->
   (∀i,k<=i->(i∈mn I 0↔i∈mn pl k))->J.length=T.length->DD ops J->aKp ops J V sp->
   e0 P ops.toList pl os k α H T sp K->Hf P N ops (λi=>(mn I 0).contains i) K os k α H (J.zip T) V
 |[],[],_,_,_,_,_,_,_,_,_,_,_,_,h=>h
 |o::os,.free::pl,k,α,H,J,T,V,sp,ad,he,hl,Z,U,h=>by
  rw[xF,cV]at ad;obtain⟨v,h1,h2⟩:=h;have z:(mn I 0).contains k=false:=by
   rw[<-x2,Dp,he k<|bd _];intro hm;have:=CK pl (k+1) k hm;omega
  refine⟨v,H,⟨h1.fS,λq=>Bool.noConfusion<|z.symm.trans q,λ_=>⟨rfl,λe _ _=>(IN ad.1 h1).fS⟩⟩,?_⟩
  simp only[z,mE,gz];refine MN eU os pl (k+1) _ H J T _ sp ad.2 (λi hi=>he i iV) hl Z ?_ h2
  intro p O;cases O with
  |head=>exact .inr<|.inl λh=>(IN ad.1 h1).fS
  |tail _ O=>exact U p O
 |o::os,.pure w::pl,k,α,H,J,T,V,sp,ad,he,hl,Z,U,h=>by
  rw[xF,cV]at ad;obtain⟨v,h1,h2,h3⟩:=h;have z:(mn I 0).contains k=false:=by
   rw[<-x2,Dp,he k<|bd _];intro hm;have:=CK pl (k+1) k hm;omega
  refine⟨v,H,⟨h1.fS,λq=>Bool.noConfusion<|z.symm.trans q,λ_=>⟨rfl,λe r0 aa=>?_⟩⟩,?_⟩
  ·obtain⟨i,hi⟩:=List.getElem?_of_mem r0;rw[List.getElem?_zip_eq_some]at hi;by_cases hw:i<w
   ·exact(Vi h2 i e.2 hw hi.2).fS
   ·have hle:=(cj.1 hi.1).1;have xo:J[w]?=some (J[w]'(by omega)):=da iV
    rw[xo]at ad;exact absurd (.dir ad.1<|TJ Z w i _ _ iV xo hi.1) aa
  ·simp only[z,mE,gz];refine MN eU os pl (k+1) _ H J T _ _ (by simpa using ad.2) (λi hi=>he i iV) hl Z ?_ h3
   intro p O;cases O with
   |head=>exact .inr<|.inr ⟨_,.head _,rfl,λh an=>an.fS⟩
   |tail _ O=>
    rcases U p O with q|q|⟨q,aJ,aP,aR⟩
    ·exact .inl q
    ·exact .inr<|.inl q
    ·exact .inr<|.inr ⟨q,.tail _ aJ,aP,aR⟩
 |o::os,.eff fs::pl,k,α,H,J,T,V,sp,ad,he,hl,Z,U,h=>by
  simp only[xF,cV]at ad;obtain⟨⟨⟨iW,dH⟩,aT⟩,RE⟩:=ad;obtain⟨v,H1,h1,h2,h3⟩:=h;have r0:(mn I 0).contains k=true:=by
   rw[Dp,he k<|bd _];exact .head _
  have aAs:=by simpa using dH
  have aBe:=gm.1 aT;refine⟨_,_,⟨WD h1,λ_ p O aa=>?_,λq=>Bool.noConfusion<|r0.symm.trans q⟩,?_⟩
  ·rcases U p O with⟨e,l,vB,q⟩|q|⟨q,aJ,aP,aR⟩
   ·rw[vB]at iW;exact absurd (.dir iW q) aa
   ·exact q _
   ·rcases TK h2 aAs aBe q aJ with r|r
    ·exact aR _ r
    ·rw[aP]at r;exact absurd (.dir r<|.refl _) aa
  ·simp only[r0,dG];refine MN eU os pl (k+1) _ _ (k::J) (H::T) V _ (by rw[TL];exact RE) (λi hi=>?_) (by simp[hl]) ?_ ?_ h3
   ·rw[he i iV]
    constructor
    ·intro hm;cases hm with
     |head=>omega
     |tail _ hm=>exact hm
    ·exact .tail _
   ·cases J with
    |nil=>trivial
    |cons e l=>exact⟨iW,Z⟩
   ·intro p O;rcases U p O with⟨e,l,vB,q⟩|q|⟨q,aJ,aP,aR⟩
    ·rw[vB]at iW;exact .inl ⟨k,J,rfl,q.trans<|.dir iW⟩
    ·exact .inr<|.inl q
    ·rcases Tj aAs aBe q aJ with r|r
     ·exact .inr<|.inr ⟨q,r,aP,aR⟩
     ·rw[aP]at r;exact .inl ⟨k,J,rfl,.dir r⟩
theorem Uq{k k':a7->ab->Prop}(hk:∀α H,k α H->k' α H)(pl:List cu):∀(l:List Oper) (n:Nat) (α:a7) (H:ab) (J:List ab) (U:hZ),e0 P all pl l n α H J U k->e0 P all pl l n α H J U k':=by
 induction pl with
 |nil=>
  grind [List,Oper,Nat,e0]
 |cons p ps O=>
  intro l n α H J U h;cases l with
  |nil=>cases p<;>exact h
  |cons o os=>
   cases p with
   |free=>grind [List,Oper,Nat,e0]
   |pure w=>obtain⟨v,h1,h2,h3⟩:=h;grind [List,Oper,Nat,e0]
   |eff fs=>obtain⟨v,H1,h1,h2,h3⟩:=h;exact⟨v,H1,h1,h2,O _ _ _ _ _ _ h3⟩
theorem aCw{id:Nat}(J:List cu)(hm:P.follows .mixedOrders=true)(hd:za N ops=true)(V:Region.lexB .any ops=true)
  (ad:(xF ops ops.toList J 0 [] []&&ri ops (mn J 0))=true) (h:e0 P ops.toList J ops.toList 0 α H [] [] (λU H'=>Q .normal U H')):cI P N (.region id ops true) Q α H:=by
 intro r c a _ hs Z;simp only[Region.lexB,cV]at V ad;refine wpIn_region_any hm ?_;have h1:=Uq (k':=λU H'=>∃β,Alike U β/\Q .normal β H') (λU H' aJ=>⟨U,λ_=>rfl,aJ⟩) _ _ _ _ _ _ _ h
 have h2:=MN (N:=N) trivial ops.toList J 0 α H [] [] [] [] ad.1 (λ_ _=>Iff.rfl) rfl trivial (λp ad=>by cases ad) h1
 have I:∀i j,(mn J 0).contains i=true->(mn J 0).contains j=true->j≠i->∀listed,nq ops listed->i∈Region.ready .any ops listed->j∈Region.ready .any ops listed->False:=by
  intro i j hi z aN listed T h1 h2;rcases Ol ad.2 i j (Dp.1 hi) (Dp.1 z) aN with q|q
  ·exact CY T h1 h2 q
  ·exact CY T h2 h1 q
 have yG:nq ops (Array.replicate ops.size false):=by
  intro q o aJ;rw[JZ]at aJ;grind
 have h4:=MH (r:=r) (Q:=wS N c Q) hd c (λU H' c' gM ⟨β,O,aJ⟩ gj fP s5=>⟨c',β,H',rfl,gj,fP,s5.weaken λt=>.inr (O t).symm,aJ⟩)
  ops.toList.length (Array.replicate ops.size false) α H _ _ c.draw a hs.draw (Ext.draw c) (Z.mono<|Ext.draw c) (VS (λα β H O ⟨Gr,aL,aJ⟩=>⟨Gr,λt=>(O t).symm.trans<|aL t,aJ⟩) I ops.toList 0 (Array.replicate ops.size false) α H _ _ kk yG kr h2)
 exact h4
end Go.Proofs.YtnmamncmpklliaaGreatDoor
