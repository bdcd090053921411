/- The texts 11 of 53 beneath the rows of this seat (joined by program): the abstract machine, and what the functions answer. No condition. -/
import Derived.Test.YtolbeecicikoaaaGreatDoorWorkAE
import Derived.Test.YtolbeecicikoaaaGreatDoorWorkAJ
set_option linter.unusedSimpArgs false
set_option linter.unusedVariables false
set_option linter.unusedSectionVars false
set_option maxRecDepth 100000
set_option maxHeartbeats 16000000
namespace Go.Proofs.YtolbeecicikoaaaGreatDoor
def yT:List Pl:=[.free,.free,.pure 0,.free,.free,.pure 0,.eff [false,false]]
attribute [go_sem] yT
theorem aJV(b:Bool)(l:List Int)(v:Int)(H:AHeap):
  bD Tryz.prog 152 [.sl b (l.map iY),.int .i64 v] H (.int .i64 (gX (fun x=>decide (v=x)) l)):=by
 refine eR fun hok _=>?_
 have hl:=jB hok
 rw[zAj]at hl
 refine fO Tryz.func152 ?_
 refine hG ?_
 refine aH (ι:=Nat) (fun i=>[(0,.sl b (l.map iY)),(1,.int .i64 v),(7,.int .i64 l.length),(8,.int .i64 i)]) (fun _=>H) (fun i=>i≤l.length∧∀k (hk:k<i) (hk2:k<l.length),decide (v=l[k])=false) (fun i=>l.length-i) 0 ⟨zAn _,fun k hk=>by omega⟩ ?_ rfl ?_
 ·simp[go_sem]
 ·rintro i ⟨hi,hno⟩
  by_cases hlt:i<l.length
  ·have hp:=aJ iY hlt
   repeat' first|(refine gS ?_;simp only[go_sem,hp,iY])|refine gA ?_|(refine gD (fun h=>?_) (fun h=>?_)<;>try exact aA h)|fail
   ·exact bL (.of (by rw[mF (fun x=>decide (v=x)) l i hlt (fun k hk=>hno k hk (by omega)) h]))
   ·refine⟨i+1,⟨hlt,fun k hk hk2=>?_⟩,by omega,by rw[wI];rfl⟩
    by_cases e:k=i
    ·subst e;simpa using h
    ·simpa using hno k (by omega) hk2
  ·have hi':i=l.length:=by omega
   repeat' first|(refine gS ?_;simp only[go_sem])|refine gA ?_|(refine gD (fun h=>?_) (fun h=>?_)<;>try exact aA h)|fail
   subst hi'
   exact bL (.of (by rw[mG (fun x=>decide (v=x)) l fun k hk=>hno k hk hk]))
theorem aDK(b:Bool)(l:List Int)(v:Int)(H:AHeap):
  bD Tryz.prog 99 [.sl b (l.map iY),.int .i64 v] H (.bool (l.any fun x=>decide (x=v))):=by
 refine fO Tryz.func99 ?_
 repeat' first|((first|refine gQ (aJV _ _ _) ?_|refine gS ?_);simp only[go_sem])|refine gA ?_|(refine gD (fun h=>?_) (fun h=>?_)<;>try exact aA h)|fail
 refine bL (.of ?_)
 rw[oV]
 congr 2
 funext x
 exact zCy.2 ⟨Eq.symm,Eq.symm⟩
theorem lD(l:List Int):(l.map iY).flatMap AV.cells=l.map iY:=by
 induction l with
 |nil=>rfl
 |cons x l ih=>rw[zAA,zAK,ih];rfl
theorem nH(l:List Int):∀e∈l.map iY,e.cells.length=1:=fun e he=>by
 obtain⟨x,_,rfl⟩:=zAi.1 he;rfl
theorem aGn(b:Bool)(l:List Nd)(id:Int)(hs:chk l=true)(hl:l.length≤1073741824)(H:AHeap):bD Tryz.prog 153 [.sl b (l.map ndA),.int .i64 id] H (.sl false ((bR l id).map iY)):=by
 refine fO Tryz.func153 ?_
 have hpl:=fun id=>zW b l id hs
 refine hG ?_
 refine gI 5 1 (by simp only[go_sem]) ?_
 refine aH (ι:=List Int×Int) (fun x=>[(0,.sl b (l.map ndA)),(1,.int .i64 x.2),(5,.osl 1 H.length (x.1.length+1) 0 x.1.length x.1.length)]) (fun x=>H++[.cells (x.1.length+1) (x.1.map iY)])
  (fun x=>x.1.length≤l.length∧x.1++cL l (l.length-x.1.length) x.2=bR l id) (fun x=>l.length-x.1.length) ([],id) ⟨zAn _,rfl⟩ ?_ rfl ?_
 ·simp[go_sem]
 ·rintro⟨acc,id'⟩ ⟨hn,he⟩
  simp only at hn he ⊢
  by_cases hlt:acc.length<l.length
  ·obtain⟨m,hm⟩:∃m,l.length-acc.length=m+1:=⟨l.length-acc.length-1,by omega⟩
   rw[hm,cL]at he
   cases hh:had l id' with
   |false=>
    rw[aCt hh]at he
    repeat' first|((first|refine gQ (hpl _) ?_|refine gS ?_);simp only[go_sem,hh])|refine gA ?_|(refine gD (fun h=>?_) (fun h=>?_)<;>try exact aA h)|fail
    exact fN (cs:=acc.map iY) (es:=acc.map iY) (rest:=[]) (zAh _) (by simp only[go_sem]) (by rw[lD,zAg]) (by simp) (nH acc) (fun e he=>by obtain⟨c,_,rfl⟩:=zAi.1 he;exact .int _ _) (by rw[←he];simp)
   |true=>
    have hlp:=nF hs hh
    have hp:=aJ ndA hlp
    rw[zU hs hh]at he
    simp only at he
    repeat' first|((first|refine gQ (hpl _) ?_|refine gS ?_);simp only[go_sem,hh,hp,ndA])|refine gA ?_|(refine gD (fun h=>?_) (fun h=>?_)<;>try exact aA h)|fail
    ·rw[zAc (zA6 h)]at he
     exact fN (cs:=acc.map iY) (es:=acc.map iY) (rest:=[]) (zAh _) (by simp only[go_sem]) (by rw[lD,zAg]) (by simp) (nH acc) (fun e he=>by obtain⟨c,_,rfl⟩:=zAi.1 he;exact .int _ _) (by rw[←he];simp)
    ·rw[zAb (zBT h)]at he
     exact⟨⟨by omega,fun e he=>by rw[he];rfl,by omega⟩,(acc++[l[pos l id'].parent],l[pos l id'].parent),⟨by simp;omega,by rw[←he];simp[show l.length-(acc.length+1)=m by omega]⟩,by simp;omega,⟨rfl,by simp⟩,by simp[iY]⟩
  ·refine hH ?_
   have he2:l.length-acc.length=0:=by omega
   rw[he2]at he
   exact fN (cs:=acc.map iY) (es:=acc.map iY) (rest:=[]) (zAh _) (by simp only[go_sem]) (by rw[lD,zAg]) (by simp) (nH acc) (fun e he=>by obtain⟨c,_,rfl⟩:=zAi.1 he;exact .int _ _) (by rw[←he];simp[cL])
theorem aJW(b:Bool)(l:List Nd)(id:Int)(hl:l.length≤1073741824)(H:AHeap):bD Tryz.prog 100 [.sl b (l.map ndA),.int .i64 id] H (.sl false ((eO l id).map iY)):=by
 refine fO Tryz.func100 ?_
 unfold eO
 cases hs:chk l with
 |false=>
  repeat' first|((first|refine gQ (jR _ _) ?_|refine gS ?_);simp only[go_sem,hs])|refine gA ?_|(refine gD (fun h=>?_) (fun h=>?_)<;>try exact aA h)|fail
  exact bL (.sl _ _)
 |true=>
  have hab:=aGn b l id hs hl
  repeat' first|((first|refine gQ (jR _ _) ?_|refine gS ?_);simp only[go_sem,hs])|refine gA ?_|(refine gD (fun h=>?_) (fun h=>?_)<;>try exact aA h)|fail
  exact bL (.refl _)
theorem aGo(l:List Nd):(l.map ndA).flatMap AV.cells=l.flatMap fun n=>(ndA n).cells:=by
 rw[zCz]
theorem aDL(l:List Nd):(l.flatMap fun n=>(ndA n).cells).length=l.length * 8:=by
 induction l with
 |nil=>rfl
 |cons x l ih=>rw[zAK,zAe,ih];simp[ndA,AV.cells];omega
theorem rM(l:List Nd):∀e∈l.map ndA,e.cells.length=8:=fun e he=>by
 obtain⟨x,_,rfl⟩:=zAi.1 he;rfl
theorem xF(l:List Nd):(∀e∈l.map ndA,e.cells.length=8)=True:=zAI (rM l)
theorem aQ0(l:List Nd):(l.flatMap fun n=>(ndA n).cells).all AV.one=true:=by
 rw[zAM]
 intro x hx
 obtain⟨n,_,hn⟩:=zBG.1 hx
 simp only[ndA,AV.cells,zAv,zAS,zBY]at hn
 rcases hn with rfl|rfl|rfl|rfl|rfl|rfl|rfl|rfl<;>rfl
theorem aCy(l:List Nd):∀e∈l.map ndA,Pur e:=fun e he=>by
 obtain⟨x,_,rfl⟩:=zAi.1 he;exact(by simp only[go_sem])
theorem fG{A B X:List AV}{off:Nat}(h:A.length=off):cH (A++B) off X=A++(X++B.drop X.length):=by
 subst h
 simp[cH,List.drop_append]
def ndZ:AV:=.agg [.int .i64 0,.int .i64 0,.str [],.int .i64 0,.int .i64 0,.str [],.int .i64 0,.int .i64 0]
theorem iU(l:List Nd):(List.flatMap AV.cells (l.map ndA)).length=l.length * 8:=by rw[aGo,aDL]
theorem aGp(l:List Nd):(List.flatMap AV.cells (l.map ndA)).all AV.one=true:=by rw[aGo];exact aQ0 l
theorem aJX(n:Nat):(List.flatMap AV.cells (List.replicate n ndZ)).length=n * 8:=by
 induction n with
 |zero=>rfl
 |succ n ih=>rw[zBJ,zAK,zAe,ih];simp[ndZ,AV.cells];omega
theorem aJY(b1 b2:Bool)(l xs:List Nd)(i j:Nat)(hij:i≤j)(hj:j≤l.length)(hl:l.length+xs.length≤1073741824)(H:AHeap):
  bD Tryz.prog 170 [.sl b1 (l.map ndA),.int .i64 i,.int .i64 j,.sl b2 (xs.map ndA)] H (.sl false ((mH l i j xs).map ndA)):=by
 refine fO Tryz.func170 ?_
 have e1:IntKind.i64.wrap (IntKind.i64.wrap (((i+xs.length:Nat):Int)+(l.length:Int))-(j:Int))=((i+xs.length+(l.length-j):Nat):Int):=by
  rw[wrap_i64 (n:=((i+xs.length:Nat):Int)+l.length) (by omega) (by omega),wI];omega
 have t1:List.take i (List.map ndA l)=List.map ndA (l.take i):=zBN.symm
 have t2:List.drop j (List.map ndA l)=List.map ndA (l.drop j):=zCh.symm
 have n1:(l.take i).length=i:=List.length_take_of_le (by omega)
 have n2:(l.drop j).length=l.length-j:=zAH
 have e2:IntKind.i64.wrap ((i:Int)+(xs.length:Int))=((i+xs.length:Nat):Int):=wI
 have hz:ndZ=.agg [.int .i64 0,.int .i64 0,.str [],.int .i64 0,.int .i64 0,.str [],.int .i64 0,.int .i64 0]:=rfl
 have l1:=iU (l.take i)
 have l2:=iU xs
 have l3:=iU (l.drop j)
 have lz:=aJX (i+(xs.length+(l.length-j)))
 rw[n1]at l1
 rw[n2]at l3
 have s1:cH (List.flatMap AV.cells (List.replicate (i+(xs.length+(l.length-j))) ndZ)) 0 (List.flatMap AV.cells (List.map ndA (l.take i)))=
   List.flatMap AV.cells (List.map ndA (l.take i))++(List.flatMap AV.cells (List.replicate (i+(xs.length+(l.length-j))) ndZ)).drop (i * 8):=by
  have:=fG (A:=[]) (B:=List.flatMap AV.cells (List.replicate (i+(xs.length+(l.length-j))) ndZ)) (X:=List.flatMap AV.cells (List.map ndA (l.take i))) (off:=0) rfl
  rw[l1]at this;exact this
 have s2:cH (List.flatMap AV.cells (List.map ndA (l.take i))++(List.flatMap AV.cells (List.replicate (i+(xs.length+(l.length-j))) ndZ)).drop (i * 8)) (i * 8) (List.flatMap AV.cells (List.map ndA xs))=
   List.flatMap AV.cells (List.map ndA (l.take i))++(List.flatMap AV.cells (List.map ndA xs)++(List.flatMap AV.cells (List.replicate (i+(xs.length+(l.length-j))) ndZ)).drop (i * 8+xs.length * 8)):=by
  rw[fG l1,l2,zCv]
 have s3:cH (List.flatMap AV.cells (List.map ndA (l.take i))++(List.flatMap AV.cells (List.map ndA xs)++(List.flatMap AV.cells (List.replicate (i+(xs.length+(l.length-j))) ndZ)).drop (i * 8+xs.length * 8))) ((i+xs.length) * 8) (List.flatMap AV.cells (List.map ndA (l.drop j)))=
   List.flatMap AV.cells (List.map ndA (mH l i j xs)):=by
  rw[←zAu,fG (by rw[zAe,l1,l2];omega),l3,zCv,show List.drop (i * 8+xs.length * 8+(l.length-j) * 8) (List.flatMap AV.cells (List.replicate (i+(xs.length+(l.length-j))) ndZ))=[]from List.drop_of_length_le (by rw[lz];omega)]
  simp[mH,zAu]
 repeat' first|((first|refine mx [4] yT ?_|refine gS ?_);simp only[go_sem,e1,e2,t1,t2,n1,n2,←hz,s1,s2,s3,l1,l2,l3,lz,aGp,xF,zAH])|refine gA ?_|(refine gD (fun h=>?_) (fun h=>?_)<;>try exact aA h)|fail
 have hlen:=vA l i j xs hij hj
 exact fN (cs:=List.flatMap AV.cells (List.map ndA (mH l i j xs))) (es:=(mH l i j xs).map ndA) (rest:=[]) (zAh _) (by simp only[go_sem]) (zAg _).symm (by rw[zAj];omega) (rM _) (aCy _) rfl
theorem aGq(b:Bool)(l:List Nd)(hl:l.length≤1000000000)(H:AHeap):bD Tryz.prog 169 [.sl b (l.map ndA)] H (.sl false (l.map ndA)):=by
 refine fO Tryz.func169 ?_
 have hlay:=aJY b true l [] l.length l.length (zAh _) (zAh _) (by simp;omega) H
 have e:mH l l.length l.length []=l:=by simp[mH]
 rw[e]at hlay
 repeat' first|((first|refine aY (hlay) (cO) ?_|refine aZ (hlay) (cO) ?_|refine bA (fun _=>hlay) (cO) ?_|refine gS ?_);simp only[go_sem])|refine gA ?_|(refine gD (fun h=>?_) (fun h=>?_)<;>try exact aA h)|fail
 exact bL (.refl _)
end Go.Proofs.YtolbeecicikoaaaGreatDoor
