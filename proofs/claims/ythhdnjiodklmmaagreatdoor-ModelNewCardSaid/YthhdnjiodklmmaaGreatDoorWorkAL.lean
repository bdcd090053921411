/- The texts 12 of 51 beneath the rows of this seat (joined by program): the abstract machine, and what the functions answer. No condition. -/
import Derived.Test.YthhdnjiodklmmaaGreatDoorWorkAJ
set_option linter.unusedSimpArgs false
set_option linter.unusedVariables false
set_option linter.unusedSectionVars false
/- What the functions of the tree answer: above, lay, same. No condition. -/
namespace Go.Proofs.YthhdnjiodklmmaaGreatDoor
open Go Go.Aw Go.Gw
set_option linter.unusedSimpArgs false
set_option maxRecDepth 20000
def xQ:List Pl:=[.free,.free,.pure 0,.free,.free,.pure 0,.eff [false,false]]
attribute [go_sem] xQ
theorem aAy(b:Bool)(l:List Int)(v:Int)(H:AHeap):
  cJ Tryz.prog 175 [.sl b (l.map inA),.int .i64 v] H (.int .i64 (iT (fun x=>decide (v=x)) l)):=by
 refine gI fun hok _=>?_
 have hl:=lK hok
 rw[List.length_map]at hl
 refine aL Tryz.func175 rfl (Nat.le_of_ble_eq_true rfl) ?_
 repeat' first|(refine gS ?_;simp only[go_sem])|refine gA ?_|(refine gD (fun h=>?_) (fun h=>?_)<;>try exact aA h)|fail
 refine aP (ι:=Nat) (fun i=>[(0,.sl b (l.map inA)),(1,.int .i64 v),(7,.int .i64 l.length),(8,.int .i64 i)]) (fun _=>H) (fun i=>i≤l.length∧∀k (hk:k<i) (hk2:k<l.length),decide (v=l[k])=false) (fun i=>l.length-i) 0 ⟨Nat.zero_le _,fun k hk=>by omega⟩ ?_ rfl ?_
 ·simp[go_sem]
 ·rintro i ⟨hi,hno⟩
  by_cases hlt:i<l.length
  ·have hp:=bA inA hlt
   repeat' first|(refine gS ?_;simp only[go_sem,hp,inA])|refine gA ?_|(refine gD (fun h=>?_) (fun h=>?_)<;>try exact aA h)|fail
   ·exact aY (by simp only[go_sem]) (.of (by rw[nA (fun x=>decide (v=x)) l i hlt (fun k hk=>hno k hk (by omega)) h]))
   ·refine⟨i+1,⟨hlt,fun k hk hk2=>?_⟩,by omega,by rw[wrap_i64 (by omega) (by omega)];rfl⟩
    by_cases e:k=i
    ·subst e;simpa using h
    ·simpa using hno k (by omega) hk2
  ·have hi':i=l.length:=by omega
   repeat' first|(refine gS ?_;simp only[go_sem])|refine gA ?_|(refine gD (fun h=>?_) (fun h=>?_)<;>try exact aA h)|fail
   subst hi'
   exact aY (by simp only[go_sem]) (.of (by rw[nB (fun x=>decide (v=x)) l fun k hk=>hno k hk hk]))
theorem uP(b:Bool)(l:List Int)(v:Int)(H:AHeap):
  cJ Tryz.prog 126 [.sl b (l.map inA),.int .i64 v] H (.bool (l.any fun x=>decide (x=v))):=by
 refine aL Tryz.func126 rfl (Nat.le_of_ble_eq_true rfl) ?_
 repeat' first|((first|refine cK (ct (aAy _ _ _) sM) ?_|refine cP (ct (aAy _ _ _) sM) ?_|refine cM (ct (aAy _ _ _) sM) ?_|refine gS ?_);simp only[go_sem])|refine gA ?_|(refine gD (fun h=>?_) (fun h=>?_)<;>try exact aA h)|fail
 refine aY (by simp only[go_sem]) (.of ?_)
 rw[nY]
 congr 2
 funext x
 exact decide_eq_decide.2 ⟨Eq.symm,Eq.symm⟩
theorem aCl(l:List Int):(l.map inA).flatMap AV.cells=l.map inA:=by
 induction l with
 |nil=>rfl
 |cons x l ih=>rw[List.map_cons,List.flatMap_cons,ih];rfl
theorem aAz(l:List Int):∀e∈l.map inA,e.cells.length=1:=fun e he=>by
 obtain⟨x,_,rfl⟩:=List.mem_map.1 he;rfl
theorem aFR(b:Bool)(l:List Nd)(id:Int)(hs:chk l=true)(hl:l.length≤1073741824)(H:AHeap):cJ Tryz.prog 113 [.sl b (l.map ndA),.int .i64 id] H (.sl false ((dX l id).map inA)):=by
 refine aL Tryz.func113 rfl (Nat.le_of_ble_eq_true rfl) ?_
 have hpl:=fun id=>yU b l id hs
 repeat' first|(refine gS ?_;simp only[go_sem])|refine gA ?_|(refine gD (fun h=>?_) (fun h=>?_)<;>try exact aA h)|fail
 refine oP 5 1 (by simp only[go_sem]) ?_
 refine aP (ι:=List Int×Int) (fun x=>[(0,.sl b (l.map ndA)),(1,.int .i64 x.2),(5,.osl 1 H.length (x.1.length+1) 0 x.1.length x.1.length)]) (fun x=>H++[.cells (x.1.length+1) (x.1.map inA)])
  (fun x=>x.1.length≤l.length∧x.1++fF l (l.length-x.1.length) x.2=dX l id) (fun x=>l.length-x.1.length) ([],id) ⟨Nat.zero_le _,rfl⟩ ?_ rfl ?_
 ·simp[go_sem]
 ·rintro⟨acc,id'⟩ ⟨hn,he⟩
  simp only at hn he ⊢
  by_cases hlt:acc.length<l.length
  ·obtain⟨m,hm⟩:∃m,l.length-acc.length=m+1:=⟨l.length-acc.length-1,by omega⟩
   rw[hm,fF]at he
   cases hh:had l id' with
   |false=>
    rw[aCi hh]at he
    repeat' first|((first|refine cK (ct (hpl _) cU) ?_|refine cP (ct (hpl _) cU) ?_|refine cM (ct (hpl _) cU) ?_|refine gS ?_);simp only[go_sem,hh])|refine gA ?_|(refine gD (fun h=>?_) (fun h=>?_)<;>try exact aA h)|fail
    exact jS (cs:=acc.map inA) (es:=acc.map inA) (rest:=[]) (Nat.le_refl _) (by simp only[go_sem]) (by rw[aCl,List.append_nil]) (by simp) (aAz acc) (fun e he=>by obtain⟨c,_,rfl⟩:=List.mem_map.1 he;exact .int _ _) (by rw[←he];simp)
   |true=>
    have hlp:=mG hs hh
    have hp:=bA ndA hlp
    rw[yQ hs hh]at he
    simp only at he
    repeat' first|((first|refine cK (ct (hpl _) cU) ?_|refine cP (ct (hpl _) cU) ?_|refine cM (ct (hpl _) cU) ?_|refine gS ?_);simp only[go_sem,hh,hp,ndA])|refine gA ?_|(refine gD (fun h=>?_) (fun h=>?_)<;>try exact aA h)|fail
    ·rw[if_pos (of_decide_eq_true h)]at he
     exact jS (cs:=acc.map inA) (es:=acc.map inA) (rest:=[]) (Nat.le_refl _) (by simp only[go_sem]) (by rw[aCl,List.append_nil]) (by simp) (aAz acc) (fun e he=>by obtain⟨c,_,rfl⟩:=List.mem_map.1 he;exact .int _ _) (by rw[←he];simp)
    ·rw[if_neg (of_decide_eq_false h)]at he
     exact⟨⟨by omega,fun e he=>by rw[he];rfl,by omega⟩,(acc++[l[pos l id'].parent],l[pos l id'].parent),⟨by simp;omega,by rw[←he];simp[show l.length-(acc.length+1)=m by omega]⟩,by simp;omega,⟨rfl,by simp⟩,by simp[inA]⟩
  ·repeat' first|(refine gS ?_;simp only[go_sem,hlt])|refine gA ?_|(refine gD (fun h=>?_) (fun h=>?_)<;>try exact aA h)|fail
   have he2:l.length-acc.length=0:=by omega
   rw[he2]at he
   exact jS (cs:=acc.map inA) (es:=acc.map inA) (rest:=[]) (Nat.le_refl _) (by simp only[go_sem]) (by rw[aCl,List.append_nil]) (by simp) (aAz acc) (fun e he=>by obtain⟨c,_,rfl⟩:=List.mem_map.1 he;exact .int _ _) (by rw[←he];simp[fF])
theorem aJk(b:Bool)(l:List Nd)(id:Int)(hl:l.length≤1073741824)(H:AHeap):cJ Tryz.prog 60 [.sl b (l.map ndA),.int .i64 id] H (.sl false ((nM l id).map inA)):=by
 refine aL Tryz.func60 rfl (Nat.le_of_ble_eq_true rfl) ?_
 unfold nM
 cases hs:chk l with
 |false=>
  repeat' first|((first|refine cK (ct (bR _ _) aR) ?_|refine cP (ct (bR _ _) aR) ?_|refine cM (ct (bR _ _) aR) ?_|refine gS ?_);simp only[go_sem,hs])|refine gA ?_|(refine gD (fun h=>?_) (fun h=>?_)<;>try exact aA h)|fail
  exact aY (by simp only[go_sem]) (.sl _ _)
 |true=>
  have hab:=aFR b l id hs hl
  have ct0:=ct hab oT;repeat' first|((first|refine gK ?_|refine cK (ct (bR _ _) aR) ?_|refine cP (ct (bR _ _) aR) ?_|refine cM (ct (bR _ _) aR) ?_|refine gS ?_);simp only[go_sem,hs])|refine gA ?_|(refine gD (fun h=>?_) (fun h=>?_)<;>try exact aA h)|fail
  exact aY (by simp only[go_sem]) (.refl _)
theorem aFS(l:List Nd):(l.map ndA).flatMap AV.cells=l.flatMap fun n=>(ndA n).cells:=by
 rw[List.flatMap_map]
theorem aDn(l:List Nd):(l.flatMap fun n=>(ndA n).cells).length=l.length * 8:=by
 induction l with
 |nil=>rfl
 |cons x l ih=>rw[List.flatMap_cons,List.length_append,ih];simp[ndA,AV.cells];omega
theorem aDo(l:List Nd):∀e∈l.map ndA,e.cells.length=8:=fun e he=>by
 obtain⟨x,_,rfl⟩:=List.mem_map.1 he;rfl
theorem aHc(l:List Nd):(∀e∈l.map ndA,e.cells.length=8)=True:=eq_true (aDo l)
theorem aQn(l:List Nd):(l.flatMap fun n=>(ndA n).cells).all AV.one=true:=by
 rw[List.all_eq_true]
 intro x hx
 obtain⟨n,_,hn⟩:=List.mem_flatMap.1 hx
 simp only[ndA,AV.cells,List.mem_cons,List.not_mem_nil,or_false]at hn
 rcases hn with rfl|rfl|rfl|rfl|rfl|rfl|rfl|rfl<;>rfl
theorem aJl(l:List Nd):∀e∈l.map ndA,Pur e:=fun e he=>by
 obtain⟨x,_,rfl⟩:=List.mem_map.1 he;exact(by simp only[go_sem])
theorem fD{A B X:List AV}{off:Nat}(h:A.length=off):cR (A++B) off X=A++(X++B.drop X.length):=by
 subst h
 simp[cR,List.drop_append]
def ndZ:AV:=.agg [.int .i64 0,.int .i64 0,.str [],.int .i64 0,.int .i64 0,.str [],.int .i64 0,.int .i64 0]
theorem pB(l:List Nd):(List.flatMap AV.cells (l.map ndA)).length=l.length * 8:=by rw[aFS,aDn]
theorem aL5(l:List Nd):(List.flatMap AV.cells (l.map ndA)).all AV.one=true:=by rw[aFS];exact aQn l
theorem aJm(n:Nat):(List.flatMap AV.cells (List.replicate n ndZ)).length=n * 8:=by
 induction n with
 |zero=>rfl
 |succ n ih=>rw[List.replicate_succ,List.flatMap_cons,List.length_append,ih];simp[ndZ,AV.cells];omega
theorem aJn(b1 b2:Bool)(l xs:List Nd)(i j:Nat)(hij:i≤j)(hj:j≤l.length)(hl:l.length+xs.length≤1073741824)(H:AHeap):
  cJ Tryz.prog 189 [.sl b1 (l.map ndA),.int .i64 i,.int .i64 j,.sl b2 (xs.map ndA)] H (.sl false ((nZ l i j xs).map ndA)):=by
 refine aL Tryz.func189 rfl (Nat.le_of_ble_eq_true rfl) ?_
 have e1:IntKind.i64.wrap (IntKind.i64.wrap (((i+xs.length:Nat):Int)+(l.length:Int))-(j:Int))=((i+xs.length+(l.length-j):Nat):Int):=by
  rw[wrap_i64 (n:=((i+xs.length:Nat):Int)+l.length) (by omega) (by omega),wrap_i64 (by omega) (by omega)];omega
 have t1:List.take i (List.map ndA l)=List.map ndA (l.take i):=List.map_take.symm
 have t2:List.drop j (List.map ndA l)=List.map ndA (l.drop j):=List.map_drop.symm
 have n1:(l.take i).length=i:=List.length_take_of_le (by omega)
 have n2:(l.drop j).length=l.length-j:=List.length_drop
 have e2:IntKind.i64.wrap ((i:Int)+(xs.length:Int))=((i+xs.length:Nat):Int):=wrap_i64 (by omega) (by omega)
 have hz:ndZ=.agg [.int .i64 0,.int .i64 0,.str [],.int .i64 0,.int .i64 0,.str [],.int .i64 0,.int .i64 0]:=rfl
 have l1:=pB (l.take i)
 have l2:=pB xs
 have l3:=pB (l.drop j)
 have lz:=aJm (i+(xs.length+(l.length-j)))
 rw[n1]at l1
 rw[n2]at l3
 have s1:cR (List.flatMap AV.cells (List.replicate (i+(xs.length+(l.length-j))) ndZ)) 0 (List.flatMap AV.cells (List.map ndA (l.take i)))=
   List.flatMap AV.cells (List.map ndA (l.take i))++(List.flatMap AV.cells (List.replicate (i+(xs.length+(l.length-j))) ndZ)).drop (i * 8):=by
  have:=fD (A:=[]) (B:=List.flatMap AV.cells (List.replicate (i+(xs.length+(l.length-j))) ndZ)) (X:=List.flatMap AV.cells (List.map ndA (l.take i))) (off:=0) rfl
  rw[l1]at this;exact this
 have s2:cR (List.flatMap AV.cells (List.map ndA (l.take i))++(List.flatMap AV.cells (List.replicate (i+(xs.length+(l.length-j))) ndZ)).drop (i * 8)) (i * 8) (List.flatMap AV.cells (List.map ndA xs))=
   List.flatMap AV.cells (List.map ndA (l.take i))++(List.flatMap AV.cells (List.map ndA xs)++(List.flatMap AV.cells (List.replicate (i+(xs.length+(l.length-j))) ndZ)).drop (i * 8+xs.length * 8)):=by
  rw[fD l1,l2,List.drop_drop]
 have s3:cR (List.flatMap AV.cells (List.map ndA (l.take i))++(List.flatMap AV.cells (List.map ndA xs)++(List.flatMap AV.cells (List.replicate (i+(xs.length+(l.length-j))) ndZ)).drop (i * 8+xs.length * 8))) ((i+xs.length) * 8) (List.flatMap AV.cells (List.map ndA (l.drop j)))=
   List.flatMap AV.cells (List.map ndA (nZ l i j xs)):=by
  rw[←List.append_assoc,fD (by rw[List.length_append,l1,l2];omega),l3,List.drop_drop,show List.drop (i * 8+xs.length * 8+(l.length-j) * 8) (List.flatMap AV.cells (List.replicate (i+(xs.length+(l.length-j))) ndZ))=[]from List.drop_of_length_le (by rw[lz];omega)]
  simp[nZ,List.append_assoc]
 repeat' first|((first|refine mx [4] xQ ?_|refine gS ?_);simp only[go_sem,e1,e2,t1,t2,n1,n2,←hz,s1,s2,s3,l1,l2,l3,lz,aL5,aHc,List.length_drop])|refine gA ?_|(refine gD (fun h=>?_) (fun h=>?_)<;>try exact aA h)|fail
 have hlen:=uL l i j xs hij hj
 exact jS (cs:=List.flatMap AV.cells (List.map ndA (nZ l i j xs))) (es:=(nZ l i j xs).map ndA) (rest:=[]) (Nat.le_refl _) (by simp only[go_sem]) (List.append_nil _).symm (by rw[List.length_map];omega) (aDo _) (aJl _) rfl
theorem aFT(b:Bool)(l:List Nd)(hl:l.length≤1000000000)(H:AHeap):cJ Tryz.prog 188 [.sl b (l.map ndA)] H (.sl false (l.map ndA)):=by
 refine aL Tryz.func188 rfl (Nat.le_of_ble_eq_true rfl) ?_
 have hlay:=aJn b true l [] l.length l.length (Nat.le_refl _) (Nat.le_refl _) (by simp;omega) H
 have e:nZ l l.length l.length []=l:=by simp[nZ]
 rw[e]at hlay
 repeat' first|((first|refine aV (hlay) fB ?_|refine aW (hlay) fB ?_|refine aX (fun _=>hlay) fB ?_|refine gS ?_);simp only[go_sem])|refine gA ?_|(refine gD (fun h=>?_) (fun h=>?_)<;>try exact aA h)|fail
 exact aY (by simp only[go_sem]) (.refl _)
end Go.Proofs.YthhdnjiodklmmaaGreatDoor
