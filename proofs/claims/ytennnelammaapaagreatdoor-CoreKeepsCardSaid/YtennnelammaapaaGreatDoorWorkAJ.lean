/- What the functions of this seat answer (10 of 38). No condition. -/
import Derived.Test.YtennnelammaapaaGreatDoorWorkAI
set_option linter.unusedSimpArgs false
set_option linter.unusedVariables false
set_option maxRecDepth 100000
set_option maxHeartbeats 16000000
namespace Go.Proofs.YtennnelammaapaaGreatDoor
section
def zF:List Pl:=[.free,.free,.pure 0,.free,.free,.pure 0,.eff [false,false]]
attribute [go_sem] zF
theorem aKv(b:Bool)(l:List Int)(v:Int)(H:AHeap):
  bH Tryz.prog 88 [.sl b (l.map bK),.int .i64 v] H (.int .i64 (cQ (fun x=>decide (v=x)) l)):=by
 refine fP fun hok _=>?_
 have hl:=jQ hok;rw[zAn]at hl;refine fO Tryz.func88 ?_;refine hG ?_;refine aI (ι:=Nat) (fun i=>[(0,.sl b (l.map bK)),(1,.int .i64 v),(7,.int .i64 l.length),(8,.int .i64 i)]) (fun _=>H) (fun i=>i≤l.length∧∀k (hk:k<i) (hk2:k<l.length),decide (v=l[k])=false) (fun i=>l.length-i) 0 ⟨zAo _,fun k hk=>by omega⟩ ?_ rfl ?_
 ·simp[go_sem]
 ·rintro i ⟨hi,hno⟩;by_cases hlt:i<l.length
  ·have hp:=aN bK hlt;repeat' first|(refine gS ?_;simp only[go_sem,hp,bK])|refine gA ?_|(refine gD ?_ ?_<;>intro h<;>try exact aA h)|fail
   ·exact cL (.of (by rw[eV (fun x=>decide (v=x)) l i hlt (fun k hk=>hno k hk (by omega)) h]))
   ·refine⟨i+1,⟨hlt,fun k hk hk2=>?_⟩,by omega,by rw[wI];rfl⟩
    by_cases e:k=i
    ·subst e;simpa using h
    ·simpa using hno k (by omega) hk2
  ·have hi':i=l.length:=by omega
   repeat' first|(refine gS ?_;simp only[go_sem])|refine gA ?_|(refine gD ?_ ?_<;>intro h<;>try exact aA h)|fail
   subst hi';exact cL (.of (by rw[eW (fun x=>decide (v=x)) l fun k hk=>hno k hk hk]))
theorem vO(b:Bool)(l:List Int)(v:Int)(H:AHeap):
  bH Tryz.prog 68 [.sl b (l.map bK),.int .i64 v] H (.bool (l.any fun x=>decide (x=v))):=by
 refine fO Tryz.func68 ?_;repeat' first|((first|refine gQ (aKv _ _ _) ?_|refine gS ?_);simp only[go_sem])|refine gA ?_|(refine gD ?_ ?_<;>intro h<;>try exact aA h)|fail
 refine cL (.of ?_);rw[jW];congr 2;funext x;exact zCv.2 ⟨Eq.symm,Eq.symm⟩
theorem kQ(l:List Int):(l.map bK).flatMap AV.cells=l.map bK:=by
 induction l with
 |nil=>rfl
 |cons x l ih=>rw[zAw,zBd,ih];rfl
theorem kW(l:List Int):∀e∈l.map bK,e.cells.length=1:=fun e he=>by
 obtain⟨x,_,rfl⟩:=zAm.1 he;rfl
theorem aGU(b:Bool)(l:List Nd)(id:Int)(hs:chk l=true)(hl:l.length≤1073741824)(H:AHeap):bH Tryz.prog 89 [.sl b (l.map ndA),.int .i64 id] H (.sl false ((cN l id).map bK)):=by
 refine fO Tryz.func89 ?_;have hpl:=fun id=>aAq b l id hs
 refine hG ?_;refine jR 5 1 (by simp only[go_sem]) ?_
 refine aI (ι:=List Int×Int) (fun x=>[(0,.sl b (l.map ndA)),(1,.int .i64 x.2),(5,.osl 1 H.length (x.1.length+1) 0 x.1.length x.1.length)]) (fun x=>H++[.cells (x.1.length+1) (x.1.map bK)])
  (fun x=>x.1.length≤l.length∧x.1++dI l (l.length-x.1.length) x.2=cN l id) (fun x=>l.length-x.1.length) ([],id) ⟨zAo _,rfl⟩ ?_ rfl ?_
 ·simp[go_sem]
 ·rintro⟨acc,id'⟩ ⟨hn,he⟩;simp only at hn he ⊢;by_cases hlt:acc.length<l.length
  ·obtain⟨m,hm⟩:∃m,l.length-acc.length=m+1:=⟨l.length-acc.length-1,by omega⟩
   rw[hm,dI]at he;cases hh:had l id' with
   |false=>
    rw[aCR hh]at he;repeat' first|((first|refine gQ (hpl _) ?_|refine gS ?_);simp only[go_sem,hh])|refine gA ?_|(refine gD ?_ ?_<;>intro h<;>try exact aA h)|fail
    exact iU (cs:=acc.map bK) (es:=acc.map bK) (rest:=[]) (zAf _) (by simp only[go_sem]) (by rw[kQ,zAd]) (by simp) (kW acc) (fun e he=>by obtain⟨c,_,rfl⟩:=zAm.1 he;exact .int _ _) (by rw[←he];simp)
   |true=>
    have hlp:=mJ hs hh;have hp:=aN ndA hlp;rw[aAn hs hh]at he;simp only at he;repeat' first|((first|refine gQ (hpl _) ?_|refine gS ?_);simp only[go_sem,hh,hp,ndA])|refine gA ?_|(refine gD ?_ ?_<;>intro h<;>try exact aA h)|fail
    ·rw[zAl (zAQ h)]at he;exact iU (cs:=acc.map bK) (es:=acc.map bK) (rest:=[]) (zAf _) (by simp only[go_sem]) (by rw[kQ,zAd]) (by simp) (kW acc) (fun e he=>by obtain⟨c,_,rfl⟩:=zAm.1 he;exact .int _ _) (by rw[←he];simp)
    ·rw[zAe (of_decide_eq_false h)]at he;exact⟨⟨by omega,fun e he=>by rw[he];rfl,by omega⟩,(acc++[l[pos l id'].parent],l[pos l id'].parent),⟨by simp;omega,by rw[←he];simp[show l.length-(acc.length+1)=m by omega]⟩,by simp;omega,⟨rfl,by simp⟩,by simp[bK]⟩
  ·refine hH ?_;have he2:l.length-acc.length=0:=by omega
   rw[he2]at he;exact iU (cs:=acc.map bK) (es:=acc.map bK) (rest:=[]) (zAf _) (by simp only[go_sem]) (by rw[kQ,zAd]) (by simp) (kW acc) (fun e he=>by obtain⟨c,_,rfl⟩:=zAm.1 he;exact .int _ _) (by rw[←he];simp[dI])
theorem aKw(b:Bool)(l:List Nd)(id:Int)(hl:l.length≤1073741824)(H:AHeap):bH Tryz.prog 70 [.sl b (l.map ndA),.int .i64 id] H (.sl false ((kM l id).map bK)):=by
 refine fO Tryz.func70 ?_;unfold kM;cases hs:chk l with
 |false=>
  repeat' first|((first|refine gQ (jK _ _) ?_|refine gS ?_);simp only[go_sem,hs])|refine gA ?_|(refine gD ?_ ?_<;>intro h<;>try exact aA h)|fail
  exact cL (.sl _ _)
 |true=>
  have hab:=aGU b l id hs hl;repeat' first|((first|refine gQ (jK _ _) ?_|refine gS ?_);simp only[go_sem,hs])|refine gA ?_|(refine gD ?_ ?_<;>intro h<;>try exact aA h)|fail
  exact cL (.refl _)
theorem aGV(l:List Nd):(l.map ndA).flatMap AV.cells=l.flatMap fun n=>(ndA n).cells:=by
 rw[List.flatMap_map]
theorem aD4(l:List Nd):(l.flatMap fun n=>(ndA n).cells).length=l.length * 8:=by
 induction l with
 |nil=>rfl
 |cons x l ih=>rw[zBd,zAa,ih];simp[ndA,AV.cells];omega
theorem aD5(l:List Nd):∀e∈l.map ndA,e.cells.length=8:=fun e he=>by
 obtain⟨x,_,rfl⟩:=zAm.1 he;rfl
theorem aIk(l:List Nd):(∀e∈l.map ndA,e.cells.length=8)=True:=zAC (aD5 l)
theorem aR9(l:List Nd):(l.flatMap fun n=>(ndA n).cells).all AV.one=true:=by
 rw[zAJ];intro x hx;obtain⟨n,_,hn⟩:=zBC.1 hx;simp only[ndA,AV.cells,zAs,zAH,zBv]at hn;rcases hn with rfl|rfl|rfl|rfl|rfl|rfl|rfl|rfl<;>rfl
theorem aKx(l:List Nd):∀e∈l.map ndA,Pur e:=fun e he=>by
 obtain⟨x,_,rfl⟩:=zAm.1 he;exact(by simp only[go_sem])
theorem cD{A B X:List AV}{off:Nat}(h:A.length=off):bG (A++B) off X=A++(X++B.drop X.length):=by
 subst h;simp[bG,List.drop_append]
def ndZ:AV:=.agg [.int .i64 0,.int .i64 0,.str [],.int .i64 0,.int .i64 0,.str [],.int .i64 0,.int .i64 0]
theorem pX(l:List Nd):(List.flatMap AV.cells (l.map ndA)).length=l.length * 8:=by rw[aGV,aD4]
theorem aN7(l:List Nd):(List.flatMap AV.cells (l.map ndA)).all AV.one=true:=by rw[aGV];exact aR9 l
theorem aKy(n:Nat):(List.flatMap AV.cells (List.replicate n ndZ)).length=n * 8:=by
 induction n with
 |zero=>rfl
 |succ n ih=>rw[zB3,zBd,zAa,ih];simp[ndZ,AV.cells];omega
theorem aKz(b1 b2:Bool)(l xs:List Nd)(i j:Nat)(hij:i≤j)(hj:j≤l.length)(hl:l.length+xs.length≤1073741824)(H:AHeap):
  bH Tryz.prog 225 [.sl b1 (l.map ndA),.int .i64 i,.int .i64 j,.sl b2 (xs.map ndA)] H (.sl false ((oI l i j xs).map ndA)):=by
 refine fO Tryz.func225 ?_;have e1:IntKind.i64.wrap (IntKind.i64.wrap (((i+xs.length:Nat):Int)+(l.length:Int))-(j:Int))=((i+xs.length+(l.length-j):Nat):Int):=by
  rw[wrap_i64 (n:=((i+xs.length:Nat):Int)+l.length) (by omega) (by omega),wI];omega
 have t1:List.take i (List.map ndA l)=List.map ndA (l.take i):=zBG.symm;have t2:List.drop j (List.map ndA l)=List.map ndA (l.drop j):=zCI.symm;have n1:(l.take i).length=i:=List.length_take_of_le (by omega)
 have n2:(l.drop j).length=l.length-j:=zAX;have e2:IntKind.i64.wrap ((i:Int)+(xs.length:Int))=((i+xs.length:Nat):Int):=wI;have hz:ndZ=.agg [.int .i64 0,.int .i64 0,.str [],.int .i64 0,.int .i64 0,.str [],.int .i64 0,.int .i64 0]:=rfl;have l1:=pX (l.take i);have l2:=pX xs;have l3:=pX (l.drop j);have lz:=aKy (i+(xs.length+(l.length-j)));rw[n1]at l1;rw[n2]at l3;have s1:bG (List.flatMap AV.cells (List.replicate (i+(xs.length+(l.length-j))) ndZ)) 0 (List.flatMap AV.cells (List.map ndA (l.take i)))=
   List.flatMap AV.cells (List.map ndA (l.take i))++(List.flatMap AV.cells (List.replicate (i+(xs.length+(l.length-j))) ndZ)).drop (i * 8):=by
  have:=cD (A:=[]) (B:=List.flatMap AV.cells (List.replicate (i+(xs.length+(l.length-j))) ndZ)) (X:=List.flatMap AV.cells (List.map ndA (l.take i))) (off:=0) rfl;rw[l1]at this;exact this
 have s2:bG (List.flatMap AV.cells (List.map ndA (l.take i))++(List.flatMap AV.cells (List.replicate (i+(xs.length+(l.length-j))) ndZ)).drop (i * 8)) (i * 8) (List.flatMap AV.cells (List.map ndA xs))=
   List.flatMap AV.cells (List.map ndA (l.take i))++(List.flatMap AV.cells (List.map ndA xs)++(List.flatMap AV.cells (List.replicate (i+(xs.length+(l.length-j))) ndZ)).drop (i * 8+xs.length * 8)):=by
  rw[cD l1,l2,zCs]
 have s3:bG (List.flatMap AV.cells (List.map ndA (l.take i))++(List.flatMap AV.cells (List.map ndA xs)++(List.flatMap AV.cells (List.replicate (i+(xs.length+(l.length-j))) ndZ)).drop (i * 8+xs.length * 8))) ((i+xs.length) * 8) (List.flatMap AV.cells (List.map ndA (l.drop j)))=
   List.flatMap AV.cells (List.map ndA (oI l i j xs)):=by
  rw[←zAr,cD (by rw[zAa,l1,l2];omega),l3,zCs,show List.drop (i * 8+xs.length * 8+(l.length-j) * 8) (List.flatMap AV.cells (List.replicate (i+(xs.length+(l.length-j))) ndZ))=[]from List.drop_of_length_le (by rw[lz];omega)]
  simp[oI,zAr]
 repeat' first|((first|refine mx [4] zF ?_|refine gS ?_);simp only[go_sem,e1,e2,t1,t2,n1,n2,←hz,s1,s2,s3,l1,l2,l3,lz,aN7,aIk,zAX])|refine gA ?_|(refine gD ?_ ?_<;>intro h<;>try exact aA h)|fail
 have hlen:=vJ l i j xs hij hj;exact iU (cs:=List.flatMap AV.cells (List.map ndA (oI l i j xs))) (es:=(oI l i j xs).map ndA) (rest:=[]) (zAf _) (by simp only[go_sem]) (zAd _).symm (by rw[zAn];omega) (aD5 _) (aKx _) rfl
theorem aGW(b:Bool)(l:List Nd)(hl:l.length≤1000000000)(H:AHeap):bH Tryz.prog 224 [.sl b (l.map ndA)] H (.sl false (l.map ndA)):=by
 refine fO Tryz.func224 ?_;have hlay:=aKz b true l [] l.length l.length (zAf _) (zAf _) (by simp;omega) H
 have e:oI l l.length l.length []=l:=by simp[oI]
 rw[e]at hlay;repeat' first|((first|refine aZ (hlay) (cO) ?_|refine bA (hlay) (cO) ?_|refine bB (fun _=>hlay) (cO) ?_|refine gS ?_);simp only[go_sem])|refine gA ?_|(refine gD ?_ ?_<;>intro h<;>try exact aA h)|fail
 exact cL (.refl _)
end
section
theorem aSa(b:Bool)(l:List Nd)(o:Opn)(u:Und)(hl:l.length≤1000000000)(H:AHeap):bH Tryz.prog 211 [.sl b (l.map ndA),opA o,unA u] H (.sl false ((oQ l o u).map ndA)):=by
 refine fO Tryz.func211 ?_;have hsm:=aGW b l hl;simp only[opA,unA];cases hc:chk l with
 |false=>
  have hr:(!chk l|| !u.did)=true:=by simp[hc]
  rw[oQ,zAl hr];repeat' first|((first|refine gQ (jK _ _) ?_|refine gS ?_);simp only[go_sem,hc])|refine gA ?_|(refine gD ?_ ?_<;>intro h<;>try exact aA h)|fail
  exact dY (.refl _)
 |true=>
  cases hd:u.did with
  |false=>
   have hr:(!chk l|| !u.did)=true:=by simp[hd]
   rw[oQ,zAl hr];repeat' first|((first|refine gQ (jK _ _) ?_|refine gS ?_);simp only[go_sem,hc,hd])|refine gA ?_|(refine gD ?_ ?_<;>intro h<;>try exact aA h)|fail
   exact dY (.refl _)
  |true=>
   have hr:¬(!chk l|| !u.did)=true:=by simp[hc,hd]
   have hpl:=aAq b l o.node hc;have hlay:=aKz b true l;have hup:=aAo l o.node hc;rw[oQ,zAe hr];cases hq:(fE o.node&&u.had&&decide (u.was.id=o.node))with
   |true=>
    rw[zAl rfl];have hl1:=hlay [u.was] (pos l o.node) (upto l o.node) hup.1 hup.2 (by simp;omega)
    simp only[zAw,zAZ,ndA]at hl1;cases hh:had l o.node with
    |true=>
     have hlt:=mJ hc hh;have hw:=aS hlt (show l.length≤9223372036854775807 by omega)
     have eu:upto l o.node=pos l o.node+1:=by rw[upto,zAl hh]
     rw[eu]at hl1 ⊢;repeat' first|((first|refine gQ (jK _ _) ?_|refine gQ (aCP _) ?_|refine gS ?_);simp only[go_sem,hc,hd,hh,hw,hq])|refine gA ?_|(refine gD ?_ ?_<;>intro h<;>try exact aA h)|fail
     exact dY (.refl _)
    |false=>
     have eu:upto l o.node=pos l o.node:=by rw[upto,zAe (by rw[hh];decide)]
     rw[eu]at hl1 ⊢;repeat' first|((first|refine gQ (jK _ _) ?_|refine gQ (aCP _) ?_|refine gS ?_);simp only[go_sem,hc,hd,hh,hq])|refine gA ?_|(refine gD ?_ ?_<;>intro h<;>try exact aA h)|fail
     exact dY (.refl _)
   |false=>
    rw[zAe (by decide)]
    have hl1:=hlay [] (pos l o.node) (upto l o.node) hup.1 hup.2 (by simp;omega)
    simp only[zAZ]at hl1;cases hh:had l o.node with
    |true=>
     have hlt:=mJ hc hh;have hw:=aS hlt (show l.length≤9223372036854775807 by omega)
     have eu:upto l o.node=pos l o.node+1:=by rw[upto,zAl hh]
     rw[eu]at hl1 ⊢;repeat' first|((first|refine gQ (jK _ _) ?_|refine gQ (aCP _) ?_|refine gS ?_);simp only[go_sem,hc,hd,hh,hw,hq])|refine gA ?_|(refine gD ?_ ?_<;>intro h<;>try exact aA h)|fail
     exact dY (.refl _)
    |false=>
     have eu:upto l o.node=pos l o.node:=by rw[upto,zAe (by rw[hh];decide)]
     rw[eu]at hl1 ⊢;repeat' first|((first|refine gQ (jK _ _) ?_|refine gQ (aCP _) ?_|refine gS ?_);simp only[go_sem,hc,hd,hh,hq])|refine gA ?_|(refine gD ?_ ?_<;>intro h<;>try exact aA h)|fail
     exact dY (.refl _)
end
section
def fK:List Pl:=[.pure 0,.pure 0,.pure 0,.pure 0,.pure 0,.pure 0,.pure 0,.eff [false,true,true,true,true,false,false],.pure 0,.eff [false,true,true,false,false],.pure 0,.eff [false,false,false]]
def fL:List Pl:=[.pure 0,.pure 0,.pure 0,.pure 0,.pure 0,.eff [false,true,true,false,false],.pure 0,.eff [false,false,false]]
def fM:List Pl:=[.pure 0,.free,.free,.pure 0,.free,.pure 0,.pure 0,.free,.eff [false,false,false,false]]
attribute [go_sem] fK fL fM
theorem aN8(l:List Nd)(o:Opn)(hs:chk l=true)(hl:l.length≤1000000000)(H:AHeap)(i j:Nat)(b:Bool)
  (hi:hget H i=.cells 0 [.int .i64 o.at_.c,.int .i64 o.at_.r,.int .i64 o.kind,.int .i64 o.node,.int .i64 o.parent,.str o.name,.str o.data]) (hj:hget H j=.cells 0 [.sl b (l.map ndA)]):
  bH Tryz.prog 226 [.ref i 0 0,.ref j 0 0] H (.bool (lL l o)):=by
 refine fO Tryz.func226 ?_;have hab:=aGU b l o.parent hs (by omega) H
 repeat' first|((first|refine aZ (hab) (cO) ?_|refine bA (hab) (cO) ?_|refine bB (fun _=>hab) (cO) ?_|refine gQ (vO _ _ _) ?_|refine gS ?_);simp only[go_sem,hi,hj])|refine gA ?_|(refine gD ?_ ?_<;>intro h<;>try exact aA h)|fail
 refine cL (.of ?_);rw[lL]
theorem aVE(b:Bool)(l:List Nd)(o:Opn)(hs:OpS o)(hl:l.length≤1000000000)(H:AHeap):bH Tryz.prog 213 [.sl b (l.map ndA),opA o] H (.tup [.sl false ((doL l o).map ndA),unA (xN l o)]):=by
 refine fO Tryz.func213 ?_;have hok:=aA4 o hs;have hsm:=aGW b l hl;simp only[opA]at hok ⊢;cases hc:chk l with
 |false=>
  have hr:refused l o=true:=by simp[refused,hc]
  rw[doL,zAl hr,xN,zAl hr];repeat' first|((first|refine gQ (jK _ _) ?_|refine mx [15] fK ?_|refine mx [16] fL ?_|refine mx [17] fM ?_|refine gS ?_);simp only[go_sem,hc])|refine gA ?_|(refine gD ?_ ?_<;>intro h<;>try exact aA h)|fail
  exact dY (.refl _)
 |true=>
  cases ho:opOk o with
  |false=>
   have hr:refused l o=true:=by simp[refused,ho]
   rw[doL,zAl hr,xN,zAl hr];repeat' first|((first|refine gQ (jK _ _) ?_|refine mx [15] fK ?_|refine mx [16] fL ?_|refine mx [17] fM ?_|refine gS ?_);simp only[go_sem,hc,ho])|refine gA ?_|(refine gD ?_ ?_<;>intro h<;>try exact aA h)|fail
   exact dY (.refl _)
  |true=>
   have hpl:=aAq b l o.node hc;have hlay:=aKz b true l;have hup:=aAo l o.node hc;have hlc:=fun H i j hi hj=>aN8 l o hc hl H i j b hi hj
   by_cases hk:o.kind=1
   ·have hkd:decide (o.kind=1)=true:=zAj hk;cases hlp:lL l o with
    |true=>
     have hr:refused l o=true:=by simp[refused,hk,hlp]
     rw[doL,zAl hr,xN,zAl hr];repeat' first|((first|refine gQ (jK _ _) ?_|refine bU (hlc _ _ _ (by simp only[go_sem,hc,ho,hkd,hlp]) (by simp only[go_sem,hc,ho,hkd,hlp])) (cO) ?_|refine bV (fun _=>hlc _ _ _ (by simp only[go_sem,hc,ho,hkd,hlp]) (by simp only[go_sem,hc,ho,hkd,hlp])) (cO) ?_|refine bW (fun _=>hlc _ _ _ (by simp only[go_sem,hc,ho,hkd,hlp]) (by simp only[go_sem,hc,ho,hkd,hlp])) (cO) ?_|refine mx [15] fK ?_|refine mx [16] fL ?_|refine mx [17] fM ?_|refine gS ?_);simp only[go_sem,hc,ho,hkd,hlp])|refine gA ?_|(refine gD ?_ ?_<;>intro h<;>try exact aA h)|fail
     exact dY (.refl _)
    |false=>
     have hr:¬refused l o=true:=by simp[refused,hc,ho,hlp]
     cases hh:had l o.node with
     |true=>
      have hlt:=mJ hc hh;have hp:=aN ndA hlt;have hw:=aS hlt (show l.length≤9223372036854775807 by omega)
      have hf:=aAn hc hh;have e:cA l o=⟨l[pos l o.node].id,o.parent,o.name,o.at_,l[pos l o.node].data,l[pos l o.node].wrote⟩:=by
       unfold cA eK;rw[zAl hk,hf]
      have eu:upto l o.node=pos l o.node+1:=by rw[upto,zAl hh]
      rw[eu]at hup;have hl1:=hlay [⟨l[pos l o.node].id,o.parent,o.name,o.at_,l[pos l o.node].data,l[pos l o.node].wrote⟩] (pos l o.node) (pos l o.node+1) hup.1 hup.2 (by simp;omega)
      simp only[zAw,zAZ,ndA]at hl1;rw[doL,zAe hr,xN,zAe hr,e,eu,hf];repeat' first|((first|refine gQ (jK _ _) ?_|refine bU (hlc _ _ _ (by simp only[go_sem,hc,ho,hkd,hh,hlp,hp,hw,ndA]) (by simp only[go_sem,hc,ho,hkd,hh,hlp,hp,hw,ndA])) (cO) ?_|refine bV (fun _=>hlc _ _ _ (by simp only[go_sem,hc,ho,hkd,hh,hlp,hp,hw,ndA]) (by simp only[go_sem,hc,ho,hkd,hh,hlp,hp,hw,ndA])) (cO) ?_|refine bW (fun _=>hlc _ _ _ (by simp only[go_sem,hc,ho,hkd,hh,hlp,hp,hw,ndA]) (by simp only[go_sem,hc,ho,hkd,hh,hlp,hp,hw,ndA])) (cO) ?_|refine mx [15] fK ?_|refine mx [16] fL ?_|refine mx [17] fM ?_|refine gS ?_);simp only[go_sem,hc,ho,hkd,hh,hlp,hp,hw,ndA])|refine gA ?_|(refine gD ?_ ?_<;>intro h<;>try exact aA h)|fail
      exact dY (.of (by simp only[unA,hh];rfl))
     |false=>
      have hf:=aCR hh;have e:cA l o=⟨o.node,o.parent,o.name,o.at_,[],st0⟩:=by
       unfold cA eK;rw[zAl hk,hf];rfl
      have eu:upto l o.node=pos l o.node:=by rw[upto,zAe (by rw[hh];decide)]
      rw[eu]at hup;have hl1:=hlay [⟨o.node,o.parent,o.name,o.at_,[],st0⟩] (pos l o.node) (pos l o.node) hup.1 hup.2 (by simp;omega)
      simp only[zAw,zAZ,ndA]at hl1;rw[doL,zAe hr,xN,zAe hr,e,eu,hf];repeat' first|((first|refine gQ (jK _ _) ?_|refine bU (hlc _ _ _ (by simp only[go_sem,hc,ho,hkd,hh,hlp]) (by simp only[go_sem,hc,ho,hkd,hh,hlp])) (cO) ?_|refine bV (fun _=>hlc _ _ _ (by simp only[go_sem,hc,ho,hkd,hh,hlp]) (by simp only[go_sem,hc,ho,hkd,hh,hlp])) (cO) ?_|refine bW (fun _=>hlc _ _ _ (by simp only[go_sem,hc,ho,hkd,hh,hlp]) (by simp only[go_sem,hc,ho,hkd,hh,hlp])) (cO) ?_|refine mx [15] fK ?_|refine mx [16] fL ?_|refine mx [17] fM ?_|refine gS ?_);simp only[go_sem,hc,ho,hkd,hh,hlp])|refine gA ?_|(refine gD ?_ ?_<;>intro h<;>try exact aA h)|fail
      exact dY (.of (by simp only[unA,hh];rfl))
   ·have hkd:decide (o.kind=1)=false:=zAg hk;have hr:¬refused l o=true:=by simp[refused,hc,ho,hk]
    cases hh:had l o.node with
    |true=>
     have hlt:=mJ hc hh;have hp:=aN ndA hlt;have hw:=aS hlt (show l.length≤9223372036854775807 by omega)
     have hf:=aAn hc hh;have e:cA l o=⟨l[pos l o.node].id,l[pos l o.node].parent,l[pos l o.node].name,l[pos l o.node].moved,o.data,o.at_⟩:=by
      unfold cA eK;rw[zAe hk,hf]
     have eu:upto l o.node=pos l o.node+1:=by rw[upto,zAl hh]
     rw[eu]at hup;have hl1:=hlay [⟨l[pos l o.node].id,l[pos l o.node].parent,l[pos l o.node].name,l[pos l o.node].moved,o.data,o.at_⟩] (pos l o.node) (pos l o.node+1) hup.1 hup.2 (by simp;omega)
     simp only[zAw,zAZ,ndA]at hl1;rw[doL,zAe hr,xN,zAe hr,e,eu,hf];repeat' first|((first|refine gQ (jK _ _) ?_|refine mx [15] fK ?_|refine mx [16] fL ?_|refine mx [17] fM ?_|refine gS ?_);simp only[go_sem,hc,ho,hkd,hh,hp,hw,ndA])|refine gA ?_|(refine gD ?_ ?_<;>intro h<;>try exact aA h)|fail
     exact dY (.of (by simp only[unA,hh];rfl))
    |false=>
     have hf:=aCR hh;have e:cA l o=⟨o.node, -1,[],st0,o.data,o.at_⟩:=by
      unfold cA eK;rw[zAe hk,hf];rfl
     have eu:upto l o.node=pos l o.node:=by rw[upto,zAe (by rw[hh];decide)]
     rw[eu]at hup;have hl1:=hlay [⟨o.node, -1,[],st0,o.data,o.at_⟩] (pos l o.node) (pos l o.node) hup.1 hup.2 (by simp;omega)
     simp only[zAw,zAZ,ndA]at hl1;rw[doL,zAe hr,xN,zAe hr,e,eu,hf];repeat' first|((first|refine gQ (jK _ _) ?_|refine mx [15] fK ?_|refine mx [16] fL ?_|refine mx [17] fM ?_|refine gS ?_);simp only[go_sem,hc,ho,hkd,hh])|refine gA ?_|(refine gD ?_ ?_<;>intro h<;>try exact aA h)|fail
     exact dY (.of (by simp only[unA,hh];rfl))
end
section
theorem aIl(b:Bool)(l:List Nd)(dir:Int)(y:Nat)(J:Nat→AHeap→Prop)(hA:∀i G L,J i G→J i (G++L))
  (hN:∀i (h:i<l.length) G,J i G→inD dir l[i]=false→J (i+1) G)
  (hY:∀i (h:i<l.length) G,J i G→inD dir l[i]=true→AYield Tryz.prog y [ndA l[i]] G (fun v G'=>v=.bool true∧J (i+1) G')) (hl:l.length≤1073741824) (H:AHeap) (h0:J 0 H):
  ACalls Tryz.prog 185 [.func (.yield y) [] [],.cptr [.sl b (l.map ndA)],.cptr [.int .i64 dir]] H (fun _ G=>J l.length G):=by
 refine aW Tryz.func185 ?_;repeat' first|(refine gS ?_;simp only[go_sem])|refine gA ?_|(refine gD ?_ ?_<;>intro h<;>try exact aA h)|fail
 refine aI (ι:=Nat×AHeap) (fun p=>[(0,.func (.yield y) [] []),(2,.cptr [.int .i64 dir]),(6,.sl b (l.map ndA)),(7,.int .i64 l.length),(8,.int .i64 p.1)]) (fun p=>p.2) (fun p=>p.1≤l.length∧J p.1 p.2) (fun p=>l.length-p.1) (0,H) ⟨zAo _,h0⟩ ?_ rfl ?_
 ·simp[go_sem]
 ·rintro⟨i,G⟩ ⟨hi,hJ⟩;simp only at hi hJ ⊢;by_cases hlt:i<l.length
  ·have hp:=aN ndA hlt;have hli:decide ((i:Int)<(l.length:Int))=true:=dT;have hw:=aS hlt (by omega)
   have hck:=pQ l[i].moved.c l[i].moved.r;by_cases h1:l[i].parent=dir
   ·have hd:decide (l[i].parent=dir)=true:=zAj h1;cases h2:okI l[i].moved.c l[i].moved.r with
    |false=>
     rw[h2]at hck;repeat' first|(refine gS ?_;simp only[go_sem,hp,hli,hd,ndA])|refine gA ?_|(refine gD ?_ ?_<;>intro h<;>try exact aA h)|fail
     exact⟨(i+1,_),⟨hlt,hN i hlt _ (hA _ _ _ hJ) (by simp[inD,h2])⟩,by simp only;omega,zAx _ hw,rfl⟩
    |true=>
     rw[h2]at hck;have hy:=hY i hlt _ (hA i G [.cells 0 (ndA l[i]).cells] hJ) (by simp[inD,h1,h2])
     repeat' first|(refine gS ?_;simp only[go_sem,hp,hli,hd,ndA])|refine gA ?_|(refine gD ?_ ?_<;>intro h<;>try exact aA h)|fail
     refine rD hy ?_;rintro v G' ⟨rfl,hJ'⟩;simp only[go_sem];repeat' first|(refine gS ?_;simp only[go_sem])|refine gA ?_|(refine gD ?_ ?_<;>intro h<;>try exact aA h)|fail
     exact⟨(i+1,G'),⟨hlt,hJ'⟩,by simp only;omega,zAx _ hw,rfl⟩
   ·have hd:decide (l[i].parent=dir)=false:=zAg h1;repeat' first|(refine gS ?_;simp only[go_sem,hp,hli,hd,ndA])|refine gA ?_|(refine gD ?_ ?_<;>intro h<;>try exact aA h)|fail
    exact⟨(i+1,_),⟨hlt,hN i hlt _ (hA _ _ _ hJ) (by simp[inD,h1])⟩,by simp only;omega,zAx _ hw,rfl⟩
  ·have hie:i=l.length:=by omega
   subst hie;repeat' first|(refine gS ?_;simp only[go_sem])|refine gA ?_|(refine gD ?_ ?_<;>intro h<;>try exact aA h)|fail
   exact hJ
theorem aVF(k:Nat)(b:Bool)(l:List Nd):Cl k (.sl b (l.map ndA)):=(Pur.sl b _ (aKx l)).cl k
theorem aKA(b:Bool)(l:List Nd)(dir:Int)(H:AHeap):bH Tryz.prog 145 [.sl b (l.map ndA),.int .i64 dir] H (.func (.func 185) [] [.cptr [.sl b (l.map ndA)],.cptr [.int .i64 dir]]):=by
 refine fO Tryz.func145 ?_;repeat' first|(refine gS ?_;simp only[go_sem])|refine gA ?_|(refine gD ?_ ?_<;>intro h<;>try exact aA h)|fail
 refine⟨_,_,rfl,?_,rfl⟩;refine .func _ _ _ _ _ rfl rfl bN (aT (aAk (zAf _) (by simp only[go_sem]) ?_) (aT (aAk (by omega) (by simp only[go_sem]) ?_) bN))
 ·simp only[zAq,forall_eq];exact aVF _ _ _
 ·simp only[zAq,forall_eq];exact .int _ _
theorem aKB(b:Bool)(l:List Nd)(dir:Int)(hl:l.length≤1073741824)(H:AHeap):
  ACalls Tryz.prog 108 [.sl b (l.map ndA),.int .i64 dir] H (fun v H'=>v=.map H.length∧H'=H++[.map (pV 0 (dD l dir)) (dD l dir).length]):=by
 refine aQ Tryz.func108 ?_;repeat' first|((first|refine gQ (aKA _ _ _) ?_|refine gS ?_);simp only[go_sem])|refine gA ?_|(refine gD ?_ ?_<;>intro h<;>try exact aA h)|fail
 refine aJ4 [(5,.ref (H.length+1) 0 0),(12,.func (.func 185) [] [.cptr [.sl b (l.map ndA)],.cptr [.int .i64 dir]])] (by simp[go_sem]) ?_
 refine vE rfl (cO) fun y LB hLB=>?_
 have hlen2:(H++[ABlk.map [] 0,.cells 0 [.map H.length]]).length=H.length+2:=by simp
 rw[hlen2,zAr];let M:Nat→List (Txt×Nd):=fun i=>(l.take i).foldl (qV dir) []
 let J:Nat→AHeap→Prop:=fun i G=>∃L,G=(H++[.map (pV 0 (M i)) (M i).length,.cells 0 [.map H.length],LB])++L
 have hM:∀i (h:i<l.length),M (i+1)=qV dir (M i) l[i]:=fun i h=>by
  simp only[M];rw[zAk h,zBF];rfl
 refine(aIl b l dir y J (fun i G L ⟨L',e⟩=>⟨L'++L,by rw[e,zAr]⟩) (fun i h G ⟨L,e⟩ hd=>⟨L,by rw[e,hM i h,qV,zAe (by rw[hd];simp)]⟩) (fun i h G ⟨L,e⟩ hd=>?_) hl _ ⟨[],by simp[M,pV]⟩).mono fun _ G ⟨L,e⟩=>?_
 ·have hmi:=hM i h;rw[qV,zAl hd]at hmi;have e1:hget G H.length=.map (pV 0 (M i)) (M i).length:=by rw[e];exact aD (b:=.map _ _) (by simp only[go_sem]) trivial L
  have e2:hget G (H.length+1)=.cells 0 [.map H.length]:=by rw[e];exact aD (b:=.cells _ _) (by simp only[go_sem]) trivial L
  have e3:hget G (H.length+2)=LB:=by rw[e];exact aD (by simp only[go_sem]) (by rw[hLB];trivial) L
  have hlv:LB.live:=by rw[hLB];trivial
  refine aCa e3 hLB rfl rfl rfl rfl fun BB fin hBB hlB hf1 hf2=>?_
  have f3:=aG e3 hlv;have g3:=cC e3 hlv;simp only[aAW];refine dR rfl ?_;simp only[go_sem,f3,g3,ndA];obtain⟨G1,hG1⟩:∃G1,aB G (H.length+2) BB=G1:=⟨_,rfl⟩;rw[hG1];have hl3:=aV e3 hlv;have hlen:G.length=G1.length:=by rw[←hG1];simp[aB]
  have a1:hget G1 H.length=.map (pV 0 (M i)) (M i).length:=by rw[←hG1];exact aH e1 (by omega) BB
  have a2:hget G1 (H.length+1)=.cells 0 [.map H.length]:=by rw[←hG1];exact aH e2 (by omega) BB
  have a3:hget G1 (H.length+2)=BB:=by rw[←hG1];exact aX hl3 BB
  have k1:=aG a1 trivial;have k2:=aG a2 trivial;have k3:=aG a3 hlB;have s1:=cC a1 trivial;rw[hlen];have hks:keysIn .string (pV 0 (M i))=True:=zAC (aDW 0 _);clear hLB hBB hf2;have hno:∀Y,M (i+1)=M i→pO (H.length+2) BB fin G1 (fun v G'=>v=.bool true∧J (i+1) G') true none (G1++Y):=fun Y hY=>
   ⟨k3 _,G1,Y,rfl,rfl,fun _ _ h=>.inl h,rfl,L,by rw[hf1,←hG1,bE,cI e3 hlv,hY];exact e⟩
  have hyes:∀Y,M (i+1)=iR l[i].name l[i] (M i)→pO (H.length+2) BB fin G1 (fun v G'=>v=.bool true∧J (i+1) G') true none
    (aB G1 H.length (.map (eO (.str l[i].name) (ndA l[i]) (pV 0 (M i)) (M i).length) (fS (.str l[i].name) (pV 0 (M i)) (M i).length))++Y):=fun Y hY=>by
   rw[aKh,←hY];refine⟨aG (aH a3 (by omega) _) hlB _,_,Y,rfl,by rw[aC],dW (aKi _ _ _),rfl,L,?_⟩
   rw[hf1,←hG1,fC _ _ _ (by omega),bE,cI e3 hlv,e]
   simp[aB,List.set_append]
  rcases aKg 0 (M i) l[i].name with⟨q1,q2⟩|⟨o,j,q1,q2⟩
  ·repeat' first|(refine gS ?_;simp only[go_sem,k1,k2,k3,s1,hks,q2,ndA])|refine gA ?_|(refine gD ?_ ?_<;>intro h<;>try exact aA h)|fail
   exact hyes _ (by rw[hmi,xO,q1])
  ·have hless:=aFk l[i].moved.c l[i].moved.r o.moved.c o.moved.r;cases hlt:zC l[i].moved.c l[i].moved.r o.moved.c o.moved.r with
   |true=>
    rw[hlt]at hless;repeat' first|(refine gS ?_;simp only[go_sem,k1,k2,k3,s1,hks,q2,ndA])|refine gA ?_|(refine gD ?_ ?_<;>intro h<;>try exact aA h)|fail
    exact hno _ (by rw[hmi,xO,q1];exact zAl hlt)
   |false=>
    rw[hlt]at hless;repeat' first|(refine gS ?_;simp only[go_sem,k1,k2,k3,s1,hks,q2,ndA])|refine gA ?_|(refine gD ?_ ?_<;>intro h<;>try exact aA h)|fail
    exact hyes _ (by rw[hmi,xO,q1];exact zAe (by rw[hlt];simp))
 ·have hml:M l.length=dD l dir:=by simp only[M];rw[zAD];rfl
  rw[hml]at e;have e1:hget G H.length=.map (pV 0 (dD l dir)) (dD l dir).length:=by rw[e];exact aD (b:=.map _ _) (by simp only[go_sem]) trivial L
  have e2:hget G (H.length+1)=.cells 0 [.map H.length]:=by rw[e];exact aD (b:=.cells _ _) (by simp only[go_sem]) trivial L
  have e3:hget G (H.length+2)=LB:=by rw[e];exact aD (by simp only[go_sem]) (by rw[hLB];trivial) L
  refine .inl ⟨.ready,by simp,e3.trans hLB,fun X=>?_⟩
  have e4:=aH e2 (i:=H.length+2) (by omega) X
  have e5:aB G (H.length+2) X=(H++[.map (pV 0 (dD l dir)) (dD l dir).length])++(.cells 0 [.map H.length]::X::L):=by rw[e];simp[aB,List.set_append]
  obtain⟨G2,hG2⟩:∃G2,aB G (H.length+2) X=G2:=⟨_,rfl⟩;rw[hG2]at e4 e5 ⊢;simp only[go_sem];repeat' first|(refine gS ?_;simp only[go_sem,e4])|refine gA ?_|(refine gD ?_ ?_<;>intro h<;>try exact aA h)|fail
  refine⟨_,_,_,e5,by simp,fun j b' hj=>?_,.cl _ (.map _ (by simp)),rfl,rfl⟩
  by_cases hlt:j<H.length
  ·rw[zAt hlt]at hj;exact .inl hj
  ·rw[zAV (by omega)]at hj
   refine .inr ?_;cases hk:j-H.length with
   |zero=>rw[hk]at hj;cases hj;exact aKi _ _ _
   |succ k=>rw[hk]at hj;simp at hj
def aA5(o:Option Nd):AV:=.tup [.int .i64 ((o.map (·.id)).getD 0),.bool o.isSome]
theorem aGX(b:Bool)(l:List Nd)(dir:Int)(s:Txt)(hl:l.length≤1073741824)(H:AHeap):bH Tryz.prog 87 [.sl b (l.map ndA),.int .i64 dir,.str s] H (aA5 (childN l dir s)):=by
 refine fO Tryz.func87 ?_;cases hs:chk l with
 |false=>
  have he:childN l dir s=none:=by simp[childN,hs]
  rw[he];repeat' first|((first|refine gQ (jK _ _) ?_|refine gS ?_);simp only[go_sem,hs])|refine gA ?_|(refine gD ?_ ?_<;>intro h<;>try exact aA h)|fail
  exact cL (.refl _)
 |true=>
  have he:childN l dir s=dB s (dD l dir):=by simp[childN,hs]
  rw[he];repeat' first|((first|refine gQ (jK _ _) ?_|refine gS ?_);simp only[go_sem,hs])|refine gA ?_|(refine gD ?_ ?_<;>intro h<;>try exact aA h)|fail
  refine aR (aKB b l dir hl H) (cO) ?_;rintro v H' ⟨rfl,rfl⟩;have hks:keysIn .string (pV 0 (dD l dir))=True:=zAC (aDW 0 _);rcases aKg 0 (dD l dir) s with⟨q1,q2⟩|⟨o,j,q1,q2⟩
  ·rw[q1];simp only[go_sem,hks,q2];repeat' first|(refine gS ?_;simp only[go_sem,hks,q2,ndA])|refine gA ?_|(refine gD ?_ ?_<;>intro h<;>try exact aA h)|fail
   exact dY (.refl _)
  ·rw[q1];simp only[go_sem,hks,q2,ndA];repeat' first|(refine gS ?_;simp only[go_sem,hks,q2,ndA])|refine gA ?_|(refine gD ?_ ?_<;>intro h<;>try exact aA h)|fail
   exact dY (.refl _)
def aA6(r:Int×Int):AV:=.tup [.int .i64 r.1,.int .i64 r.2]
theorem aFq(l:List Nd)(at_:Int)(s:Txt)(names:List Txt):dH l at_ (s::names)=if dirI at_=true then(match childN l at_ s with|some n=>dH l n.id names|none=>(0,80))else(0,81):=rfl
theorem vP(b b':Bool)(l:List Nd)(names:List Txt)(hl:l.length≤1073741824)(H:AHeap):bH Tryz.prog 66 [.sl b (l.map ndA),.sl b' (names.map AV.str)] H (aA6 (findN l names)):=by
 refine fP fun _ hok=>?_
 have hn:=jQ hok;rw[zAn]at hn;refine fO Tryz.func66 ?_;repeat' first|(refine gS ?_;simp only[go_sem])|refine gA ?_|(refine gD ?_ ?_<;>intro h<;>try exact aA h)|fail
 refine aI (ι:=Nat×Int) (fun p=>[(0,.sl b (l.map ndA)),(11,.sl b' (names.map AV.str)),(12,.int .i64 names.length),(13,.int .i64 p.1),(6,.int .i64 p.2)]) (fun _=>H) (fun p=>p.1≤names.length∧findN l names=dH l p.2 (names.drop p.1)) (fun p=>names.length-p.1) (0,0) ⟨zAo _,rfl⟩ ?_ rfl ?_
 ·simp[go_sem]
 ·rintro⟨i,at_⟩ ⟨hi,he⟩
  simp only at hi he ⊢;by_cases hlt:i<names.length
  ·have hp:=aN AV.str hlt;have hli:decide ((i:Int)<(names.length:Int))=true:=dT;have hw:=aS hlt hn;have hd:=aA0 at_
   have hch:=aGX b l at_ names[i] hl
   rw[zAi hlt,aFq]at he;cases h1:dirI at_ with
   |false=>
    rw[h1]at hd he;repeat' first|(refine gS ?_;simp only[go_sem,hp,hli])|refine gA ?_|(refine gD ?_ ?_<;>intro h<;>try exact aA h)|fail
    exact cL (.of (by rw[he];rfl))
   |true=>
    rw[h1,zAl rfl]at he;rw[h1]at hd;cases h2:childN l at_ names[i]with
    |none=>
     rw[h2]at hch he;simp only[aA5,zCF,zCw,zB4]at hch;repeat' first|(refine gS ?_;simp only[go_sem,hp,hli])|refine gA ?_|(refine gD ?_ ?_<;>intro h<;>try exact aA h)|fail
     exact cL (.of (by rw[he];rfl))
    |some n=>
     rw[h2]at hch he;simp only[aA5,zCm,zBh,zBW]at hch;repeat' first|(refine gS ?_;simp only[go_sem,hp,hli])|refine gA ?_|(refine gD ?_ ?_<;>intro h<;>try exact aA h)|fail
     exact⟨(i+1,n.id),⟨hlt,he⟩,by simp only;omega,zAx _ hw,rfl⟩
  ·have hie:i=names.length:=by omega
   subst hie;have hli:decide ((names.length:Int)<(names.length:Int))=false:=by simp
   repeat' first|(refine gS ?_;simp only[go_sem,hli])|refine gA ?_|(refine gD ?_ ?_<;>intro h<;>try exact aA h)|fail
   exact cL (.of (by rw[he,zBp];rfl))
end
end Go.Proofs.YtennnelammaapaaGreatDoor
