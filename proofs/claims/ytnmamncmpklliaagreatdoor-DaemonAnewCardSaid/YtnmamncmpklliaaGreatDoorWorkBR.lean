/- What the functions of this seat answer (44 of 53). No condition. -/
import Derived.Test.YtnmamncmpklliaaGreatDoorWorkBK
import Derived.Test.YtnmamncmpklliaaGreatDoorWorkBL
set_option linter.unusedSimpArgs false
set_option linter.unusedVariables false
set_option linter.unusedSectionVars false
set_option maxRecDepth 100000
set_option maxHeartbeats 16000000
namespace Go.Proofs.YtnmamncmpklliaaGreatDoor
variable{n i:Nat}{H:ab}{cs:List I}{P:Program}
open Go.Proofs.Tryz
@[go_sem] theorem aV3(all os:List Oper)(pp:List cu)(k:Nat)(fs:List Bool)(α:a7)(H:ab)(U:List ab)(J:hZ)(K:a7->ab->Prop)(dst:Option Tmp)(ty t:TypeId)(pos:String)(after:Array Edge)(x:Array (Nat×Operand)):
  e0 P all (.eff fs::pp) (⟨dst,.build t x,ty,pos,after,none⟩::os) k α H U J K=((cr P (.build t x) (bm α) H).s/\tz fs J (cr P (.build t x) (bm α) H).H/\e0 P all pp os (k+1) (cJ dst (cr P (.build t x) (bm α) H).v α) (cr P (.build t x) (bm α) H).H (H::U) (pJ fs J) K):=
 ZB (A:=(cr P (.build t x) (bm α) H).s) (b:=(cr P (.build t x) (bm α) H).v) (G:=(cr P (.build t x) (bm α) H).H) (W:=λH1=>tz fs J H1) (X:=λv H1=>e0 P all pp os (k+1) (cJ dst v α) H1 (H::U) (pJ fs J) K)
def SY:List cu:=[.pure 0,.pure 0,.eff [false,true],.pure 1,.pure 1,.eff [false,true,true],.eff [true,true],.eff [true,true],.eff [true,true],.free]
def IS:List cu:=[.free,.free,.pure 0,.pure 0,.pure 0,.pure 0,.pure 0,.free,.eff [true,false,true,true,true],.pure 0,.pure 0,.pure 0,.eff [false,true,true,false,false,false,false]]
attribute [go_sem] SY IS
theorem VZ:Df prog 256 bx 2:=JM 2 16 func256
def sm(n:Nat)(f1 f2:Bool)(t:fl):ab:=[.cells 0 (fB f1 f2 t).cells,.cells 1<|aS bx t.held,.cells 1<|aS bx t.waits,.cells 0 [.osl 2 (n+1) 1 0 t.held.length t.held.length,.osl 2 (n+2) 1 0 t.waits.length t.waits.length]]
theorem On(f1 f2:Bool)(t:fl)(h1:t.held.length<=1000000)(h2:t.waits.length<=1000000)(H:ab):
  dp prog 226 [fB f1 f2 t] H (λv H'=>v=.ref (H.length+3) 0 0/\H'=H++sm H.length f1 f2 t):=by
 refine tU func226 ?_;have O:=o9 [(1,SY)];refine bP fB.eq_1 ?_;refine p6 (VZ f1 t.held iV _) aK ?_
 have T:=ej (enc:=bx) (s:=2) (λ_=>rfl) t.held
 have V:=ej (enc:=bx) (s:=2) (λ_=>rfl) t.waits
 simp only[go_sem];repeat' first|((first|refine mx [1] SY ?_|refine ae ?_);simp only[go_sem,fB])|refine ao ?_|fail
 refine p6 (VZ f2 t.waits iV _) aK ?_
 simp only[go_sem];refine bP fB.eq_1 ?_;refine⟨_,[],_,(cA _).symm,kk,FA λb K=>?_,.cl _<|.ref _ _ _ kk,rfl,rfl⟩
 have U:∀(n v:Nat) (l:List dx),ep n (.cells v<|aS bx l):=λn v l=>KD (λx=>nb) n v l
 simp only[cU,lj,lk]at K;rcases K with rfl|rfl|rfl|rfl
 ·intro x J;simp only[cU,lj,lk]at J;rcases J with rfl|rfl
  ·exact(b6.sl _ _ λe he=>by(obtain⟨x,_,rfl⟩:=bJ.1 he;simp only[go_sem])).cl _
  ·exact(b6.sl _ _ λe he=>by(obtain⟨x,_,rfl⟩:=bJ.1 he;simp only[go_sem])).cl _
 ·exact U _ _ _
 ·exact U _ _ _
 ·intro x J;simp only[cU,lj,lk]at J;rcases J with rfl|rfl
  ·exact .osl _ _ _ _ _ _ kk
  ·exact .osl _ _ _ _ _ _ kk
def Ef(r:fl×Bool):I:=.aQ [fB false false r.1,.bool r.2]
theorem Ky(t:fl){a b:I}(J:cL n H a (.sl false<|t.held.map bx))(U:cL n H b (.sl false<|t.waits.map bx)):cL n H (.agg [a,b]) (fB false false t):=.agg _ _ rfl<|dj J (dj U fw)
theorem A4{v k lc:Nat}(D:List dx)(af:n<=i)(J:ay H i=.cells v cs)(U:cs=aS bx D)(hk:D.length=k):cL n H (.osl 2 i v 0 k lc) (.sl false<|D.map bx):=
 C3 af (by rw[J,U]) hk (λ_=>rfl) (λx=>nb)
theorem Oo:tN prog 198 bx 2:=G0 2 func198
theorem aJb:KS prog 198 bx 2:=Oo.o
theorem aJc(l:List dx)(p:dx->Bool)(i v lc n:Nat)(af:n=l.length)(U:n<=lc)(hl:n<=1073741824){fn:Fn}{fs:List I}(H:ab)(K:ay H i=.cells v (aS bx l))
  (O:∀x,kb prog (.func fn fs cs) [bx x] H (λr T=>r=.bool (p x)/\T=H)):
  aM prog 229 [.osl 2 i v 0 n lc,.func fn fs cs] H (.bool<|l.any p):=by
 refine aZ func229 ?_;have J:=aJb l p i v lc n af U hl H K O;repeat' first|((first|refine jg J ?_|refine ae ?_);simp only[go_sem])|refine ao ?_|fail
 exact bD<|.of (by rw[Jf])
theorem aIH{w:dx}{G:ab}(hi:ay G i=.cells 0 (bx w).cells)(s:dx):aM prog 228 [bx s,.ref i 0 0] G (.bool<|decide (s=w)):=by
 refine aZ func228 ?_;have J:=bC hi trivial;simp only[bx,I.cells]at hi J;refine bP bx.eq_1 ?_;exact aV<|.of (by cases s;cases w;simp)
theorem aLd(f1 f2:Bool)(t:fl)(n k:Int)(h1:t.held.length<=1000000)(h2:t.waits.length<=1000000)(H:ab):aM prog 202 [fB f1 f2 t,.int .i64 n,.int .i64 k] H (Ef<|yl t n k):=by
 refine aZ func202 ?_;have O:=aFT f1 f2 t k;have T:=On f1 f2 t h1 h2;simp only[fB,Lo]at O T;have J:=ej (enc:=bx) (s:=2) (λ_=>rfl) t.held
 have U:=ej (enc:=bx) (s:=2) (λ_=>rfl) t.waits
 repeat' first|(refine ae ?_;simp only[go_sem,fB])|refine ao ?_|fail
 refine dU (T _) aK ?_;rintro v H' ⟨rfl,rfl⟩;unfold sm fB;simp only[go_sem];unfold yl;cases V:w0 t.held k with
 |none=>
  rw[V]at O;repeat' first|((first|refine mx [7,11] IS ?_|refine ae ?_);simp only[go_sem,J,U])|refine ao ?_|fail
  refine⟨⟨λe he=>by rw[he];rfl,iV⟩,?_⟩
  repeat' first|(refine ae ?_;simp only[go_sem,J,U])|refine ao ?_|fail
  exact⟨_,Ef (⟨t.held++[⟨k,n⟩],t.waits⟩,true),rfl,.aQ _ _ rfl<|dj (Ky ⟨t.held++[⟨k,n⟩],t.waits⟩ (A4 _ iV (by simp only[go_sem];try rfl) (iR ..).symm kk) (A4 _ iV (by simp only[go_sem];try rfl) rfl rfl)) (dj (.cl _ (.bool _)) fw),rfl⟩
 |some j=>
  rw[V]at O;by_cases K:j=n
  ·have eH:decide (j=n)=true:=cD K;simp only[aA K];repeat' first|((first|refine mx [7,11] IS ?_|refine ae ?_);simp only[go_sem,J,U,eH,pW])|refine ao ?_|fail
   exact⟨_,Ef (t,true),rfl,.aQ _ _ rfl<|dj (Ky t (A4 _ iV (by simp only[go_sem];try rfl) rfl rfl) (A4 _ iV (by simp only[go_sem];try rfl) rfl rfl)) (dj (.cl _ (.bool _)) fw),rfl⟩
  ·have eH:decide (j=n)=false:=bN K;simp only[aj K];repeat' first|((first|refine mx [7,11] IS ?_|refine ae ?_);simp only[go_sem,J,U,eH,pW])|refine ao ?_|fail
   refine hY (aJc t.waits (λs=>decide (s=⟨k,n⟩)) (H.length+4) 1 t.waits.length t.waits.length rfl (bd _) iV _ nb λx=>Or.inl ⟨aK,aIH (w:=⟨k,n⟩) (by simp only[go_sem];try rfl) x⟩) aK ?_
   have Z:(t.waits.any λs=>decide<|s=⟨k,n⟩)=t.waits.contains ⟨k,n⟩:=by rw[List.contains_eq_any_beq];congr 1;funext s;simp[eq_comm,Bool.beq_eq_decide_eq]
   rw[Z];cases I:t.waits.contains ⟨k,n⟩with
   |true=>
    simp only[go_sem];repeat' first|refine aW ?_|(refine bB ?_ ?_<;>intro h<;>try exact bA h)|fail
    exact⟨_,Ef (t,false),rfl,.aQ _ _ rfl<|dj (Ky t (A4 _ iV (by simp only[go_sem];try rfl) rfl rfl) (A4 _ iV (by simp only[go_sem];try rfl) rfl rfl)) (dj (.cl _ (.bool _)) fw),rfl⟩
   |false=>
    simp only[go_sem];repeat' first|((first|refine mx [7,11] IS ?_|refine ae ?_);simp only[go_sem,J,U])|refine ao ?_|fail
    refine⟨⟨λe he=>by rw[he];rfl,iV⟩,?_⟩
    repeat' first|(refine ae ?_;simp only[go_sem,J,U])|refine ao ?_|fail
    exact⟨_,Ef (⟨t.held,t.waits++[⟨k,n⟩]⟩,false),rfl,.aQ _ _ rfl<|dj (Ky ⟨t.held,t.waits++[⟨k,n⟩]⟩ (A4 _ iV (by simp only[go_sem];try rfl) rfl rfl) (A4 _ iV (by simp only[go_sem];try rfl) (iR ..).symm kk)) (dj (.cl _ (.bool _)) fw),rfl⟩
def MQ:List cu:=[.free,.free,.pure 0,.free,.free,.pure 0,.eff [false,false],.free]
attribute [go_sem] MQ
theorem aII:tN prog 198 bx 2:=Oo
theorem YG(w x:dx):(decide (w.lock=x.lock)&&decide (w.aU=x.aU))=decide (w=x):=by cases w;cases x;simp
theorem aHM(l:List dx)(w:dx)(i v lc n:Nat)(af:n=l.length)(jm:n<=lc)(hl:n<=1073741824)(rest:List I)(H:ab)(J:ay H i=.cells v (aS bx l++rest)):
  aM prog 262 [.osl 2 i v 0 n lc,bx w] H (.int .i64<|eT (λx=>decide (w=x)) l):=by
 refine aZ func262 ?_;have O:(aS bx l).length=n * 2:=by rw[ej (s:=2) (λ_=>rfl),af]
 have V:∀k,k<n->k * 2+2<=(aS bx l++rest).length:=λk hk=>by rw[bF,O];omega
 have Z:=bC J trivial;repeat' first|(refine ae ?_;simp only[go_sem,J,bx])|refine ao ?_|fail
 refine cE (ι:=Nat) (λk=>[(0,.osl 2 i v 0 n lc),(3,.ref H.length 0 0),(7,.int .i64 n),(8,.int .i64 k)]) (λ_=>H++[.cells 0 [.int .i64 w.lock,.int .i64 w.aU]]) (λk=>k<=n/\∀q (hk:q<k) (ee:q<l.length),decide (w=l[q])=false) (λk=>n-k) 0 ⟨bW _,λq hk=>iV⟩ ?_ rfl ?_
 ·simp[go_sem]
 ·rintro k ⟨hk,U⟩;by_cases K:k<l.length
  ·have ad:=Kn (enc:=bx) (s:=2) (λ_=>rfl) K rest
   simp only[bx,I.cells]at ad;have T:decide ((k:Int)<(n:Int))=true:=cK;have hw:=dA K iV
   have l4:=V k iV
   repeat' first|(refine ae ?_;simp only[go_sem,J,Z,T,ad,O])|refine bt ?_|(refine bB ?_ ?_<;>intro h<;>try exact bA h)|fail
   ·rw[YG]at h;exact aV<|.of (by rw[FU _ l k K (λq aJ=>U q aJ iV) h])
   ·rw[YG]at h;refine⟨k+1,⟨iV,λq aJ z=>?_⟩,iV,bU _ hw⟩
    by_cases e:q=k
    ·subst e;simpa using h
    ·simpa using U q iV z
  ·have cF:k=n:=iV
   subst cF;have T:decide ((k:Int)<(k:Int))=false:=kk
   refine hH ?_;exact aV<|.of (by rw[FV _ l λq hk=>U q iV hk])
theorem Ye(l:List dx)(a i v lc n:Nat)(af:n=l.length)(aF:a<n)(hl:lc<=1073741824)(rest:List I)(H:ab)(K:ay H i=.cells v (aS bx l++rest))(az:(aS bx l++rest).length=lc * 2)(T:∀x∈rest,b6 x):
  dp prog 263 [.osl 2 i v 0 n lc,.int .i64 a,.int .i64 ((a+1:Nat):Int)] H (λr H'=>∃U,r=.osl 2 i v 0 (n-1) lc/\H'=ar H i (.cells v<|aS bx (l.eraseIdx a)++U)/\(aS bx (l.eraseIdx a)++U).length=lc * 2/\∀x∈U,b6 x):=by
 refine jw func263 ?_;have O:(aS bx l).length=n * 2:=by rw[ej (s:=2) (λ_=>rfl),af]
 have h1:=bC K trivial;have d0:decide (((a:Nat):Int)=((a+1:Nat):Int))=false:=cQ;repeat' first|((first|refine mx [5] MQ ?_|refine ae ?_);simp only[go_sem,K,O,d0])|refine ao ?_|fail
 have b7:n<=lc:=by rw[bF,O]at az;omega
 refine⟨⟨iV,iV,iV,iV⟩,?_⟩
 have An:(a=lc)=False:=x5 iV
 have HU:List.take ((n-(a+1)) * 2) (List.drop ((a+1) * 2)<|aS bx l++rest)=aS bx (l.drop<|a+1):=by
  have e:aS bx l=aS bx (l.take<|a+1)++aS bx (l.drop<|a+1):=by rw[<-iR,pY]
  have av:(aS bx (l.take<|a+1)).length=(a+1) * 2:=by rw[ej (s:=2) (λ_=>rfl),eK,uX iV]
  have al:(aS bx (l.drop<|a+1)).length=(n-(a+1)) * 2:=by rw[ej (s:=2) (λ_=>rfl),fT,af]
  rw[e,dr,<-av,xZ,<-al,x0]
 have ra:(aS bx (l.drop<|a+1)).all I.one=true:=by
  rw[gm];intro x J;unfold aS at J;simp only[u2,bJ]at J;obtain⟨_,⟨y,_,rfl⟩,J⟩:=J;simp only[bx,I.cells,cU,lj,lk]at J;rcases J with rfl|rfl<;>rfl
 obtain⟨R,jh,V,z⟩:∃R,dq (aS bx l++rest) (a * 2) (aS bx<|l.drop (a+1))=aS bx (l.eraseIdx a)++R/\R.length=2+rest.length/\∀x∈R,b6 x:=by
  have av:(aS bx (l.take a)).length=a * 2:=by rw[ej (s:=2) (λ_=>rfl),eK,uX iV]
  have cY:aS bx l++rest=aS bx (l.take a)++(aS bx (l.drop a)++rest):=by rw[<-dr,<-iR,pY]
  have al:=rS (A:=aS bx<|l.take a) (B:=aS bx (l.drop a)++rest) (off:=a * 2) (X:=aS bx<|l.drop (a+1)) av;rw[<-cY]at al;refine⟨_,by rw[al,List.eraseIdx_eq_take_drop_succ,iR,dr],?_,λx J=>?_⟩
  rotate_left
  ·rcases e4.1 (sA J)with J|J
   ·exact y4 (λx=>nb) _ x J
   ·exact T x J
  rw[fT,bF,ej (s:=2) λ_=>rfl,ej (s:=2) λ_=>rfl,fT,fT]
  omega
 have Me:=dk K trivial;have aP:∀X,ay (ar H i<|.cells v X) i=.cells v X:=λX=>dR Me _
 repeat' first|((first|refine mx [5] MQ ?_|refine ae ?_);simp only[go_sem,K,O,d0,An,HU,ra,jh,gz])|refine bt ?_|(refine bB ?_ ?_<;>intro h<;>try exact bA h)|fail
 have aAD:n * 2+rest.length=lc * 2:=by rw[<-O,<-bF];exact az
 have cY:a+(n-(a+1))=n-1:=iV
 refine⟨⟨iV,iV,iV⟩,?_⟩
 rw[cY];have L4:(aS bx (l.eraseIdx a)).length=(n-1) * 2:=by rw[ej (s:=2) (λ_=>rfl),List.length_eraseIdx,aA iV,af]
 have aT:∀Z:List I,dq (aS bx (l.eraseIdx a)++R) ((n-1) * 2) Z=aS bx (l.eraseIdx a)++(Z++R.drop Z.length):=λZ=>rS L4
 have E1:((n-1:Nat):Int)=(n:Int)-1:=iV
 repeat' first|((first|refine mx [5] MQ ?_|refine ae ?_);simp only[go_sem,K,O,aP,L4,V,aT])|refine ao ?_|fail
 rw[jS];have av:n-(n-1)=1:=iV
 rw[av];have xj:∀x∈([.int .i64 0,.int .i64 0]:List I)++R.drop 2,b6 x:=λx J=>by
  rcases e4.1 J with J|J
  ·simp only[cU,lj,lk]at J;rcases J with rfl|rfl<;>exact .int _ _
  ·exact z x<|sA J
 refine⟨_,[],.osl 2 i v 0 (n-1) lc,(cA _).symm,by rw[bc],pn λx J=>?_,.cl _<|.osl _ _ _ _ _ _ Me,[.int .i64 0,.int .i64 0]++R.drop 2,rfl,rfl,?_,xj⟩
 ·rcases e4.1 J with J|J
  ·exact(y4 (λx=>nb) _ x J).cl _
  ·exact(xj x J).cl _
 ·simp only[bF,cg,eg,fT];omega
end Go.Proofs.YtnmamncmpklliaaGreatDoor
