/- Small functions, the form of queries. -/
import Derived.Test.YtmnkdfjljkhneaaGreatHa
import Derived.Test.YtmnkdfjljkhneaaGreatPr
import Derived.KernelRfl
import Derived.IntWalk
import Derived.Test.YtmnkdfjljkhneaaGreatAll
import Derived.Test.YtmnkdfjljkhneaaGreatHb
set_option linter.all false
section
namespace Go.Proofs.YtmnkdfjljkhneaaGreat
open Go Go.Vse Go.Vse.Sm
set_option maxRecDepth 100000
set_option maxHeartbeats 1000000
set_option linter.all false
theorem fn131:pr.fn 131=some zvO:=by kernel_rfl
theorem fn112:pr.fn 112=some zvI:=by kernel_rfl
theorem fn84:pr.fn 84=some g84:=by kernel_rfl
theorem fn86:pr.fn 86=some g86:=by kernel_rfl
def zew(a b:Str):Int:=if Go.Op.bytesLess a b=true then -1 else if a=b then 0 else 1
theorem zJK(a b:Str):Ans pr 131 [.s a,.s b] (.i .i64 (zew a b)):=by
 refine zcm fn131 ?_;simp only[zvO,rU];unfold zew
 by_cases h1:Go.Op.bytesLess a b=true
 ·simp -implicitDefEqProofs [rR,st0,zaj,h1]
 ·by_cases h2:a=b
  ·simp -implicitDefEqProofs [rR,st0,zaj,h1,h2]
  ·simp -implicitDefEqProofs [rR,st0,zaj,h1,h2]
def zdZ(a b:Int):Int:=if a=b then 0 else if a<b then -1 else 1
theorem zJH(a b:Int):Ans pr 112 [.ag (vF a),.ag (vF b)] (.i .i64 (zdZ a b)):=by
 refine zcm fn112 ?_;simp only[zvI,rU];unfold zdZ;have hl:Go.Op.bytesLess [] []=false:=rfl
 by_cases h1:a=b
 ·subst h1;simp -implicitDefEqProofs [rR,st0,zaj,vF,hl]
 ·by_cases h2:a<b
  ·simp -implicitDefEqProofs [rR,st0,zaj,vF,hl,h1,h2]
  ·simp -implicitDefEqProofs [rR,st0,zaj,vF,hl,h1,h2]
theorem bl_cn(b:Str):Go.Op.bytesLess b []=false:=by cases b<;>rfl
theorem bl_n{b:Str}(h:b≠[]):Go.Op.bytesLess [] b=true:=by
 cases b with
 |nil=>exact absurd rfl h
 |cons=>rfl
def tv:Trm->Str
 | .var s=>s
 | .cst _=>[]
def tk:Trm->Int
 | .var _=>0
 | .cst _=>1
def tn:Trm->Int
 | .var _=>0
 | .cst n=>n
theorem tmE(t:Trm):tmF t=[.s (tv t),.i .i64 (tk t),.i .i64 (tn t),.s []]:=by cases t<;>rfl
def zfc:Trm->Trm->Int
 | .cst a,.cst b=>zdZ a b
 | .cst _,.var _=> -1
 | .var _,.cst _=>1
 | .var a,.var b=>zew a b
theorem zvc(a b:Trm)(ha:zax a)(hb:zax b):Ans pr 84 [.ag (tmF a),.ag (tmF b)] (.i .i64 (zfc a b)):=by
 refine zcm fn84 ?_;simp only[g84,rU];cases a with
 |cst a=>
  cases b with
  |cst b=>
   have q:=fun k=>zay (k:=k) (zJH a b)
   simp only[vF]at q;simp -implicitDefEqProofs [rR,st0,zaj,tmF,vF,zfc,q]
  |var b=>
   simp only[zax]at hb;simp -implicitDefEqProofs [rR,st0,zaj,tmF,zfc,hb,bl_n hb]
 |var a=>
  cases b with
  |cst b=>
   simp only[zax]at ha;simp -implicitDefEqProofs [rR,st0,zaj,tmF,zfc,ha,bl_cn]
  |var b=>
   simp only[zax]at ha hb
   by_cases h1:Go.Op.bytesLess a b=true
   ·simp -implicitDefEqProofs [rR,st0,zaj,tmF,zfc,zew,ha,hb,h1]
   ·by_cases h2:a=b
    ·simp -implicitDefEqProofs [rR,st0,zaj,tmF,zfc,zew,ha,hb,h1,h2]
    ·simp -implicitDefEqProofs [rR,st0,zaj,tmF,zfc,zew,ha,hb,h1,h2]
def tSame(a b:Trm):Bool:=zfc a b==0
def zb7(l:List Trm):F:=slc 4 (l.map tmF)
theorem wrap_i64(n:Int)(h:0≤n)(h2:n<9223372036854775808):IntKind.i64.wrap n=n:=IntWalk.i64_in n (by omega)
theorem zaC(n:Nat)(h:n<1000000):IntKind.i64.wrap ((n:Int)+1)=((n+1:Nat):Int):=wrap_i64 _ (by omega) (by omega)
theorem zaS(l:List Str):(zav l).d= .f (zav l):=zjF ..
theorem zbX(l:List Str):zcn (.f (zav l))=some l.length:=by simp[zav,zfX]
theorem ziD(l:List Str)(n:Nat):iaB 1 (.f (zav l)) n=(l[n]?).map fun s=>D.fptr [.s s]:=by simp[zav,zgO,Function.comp_def]
theorem zbO(l:List Trm):(zb7 l).d= .f (zb7 l):=zjF ..
theorem zbW(l:List Trm):zcn (.f (zb7 l))=some l.length:=by simp[zb7,zfX]
theorem zcM(l:List Trm)(n:Nat):iaB 4 (.f (zb7 l)) n=(l[n]?).map fun t=>D.fptr (tmF t):=by simp[zb7,zgO,Function.comp_def]
theorem zjZ(a b:Int):(zdZ a b==0)=decide (a=b):=by
 unfold zdZ
 by_cases h:a=b
 ·simp[h]
 ·simp only[h,if_false,decide_false];split<;>rfl
theorem zGA(a b:Int):(zdZ a b != 0)=decide (a≠b):=by
 rw[bne,zjZ];simp
theorem zk0(a b:Int):(zdZ a b<0)=(a<b):=by
 unfold zdZ
 by_cases h:a=b
 ·simp[h]
 ·simp only[h,if_false];split<;>simp_all
theorem zGy(a b:Int):(zdZ a b≤0)=(a≤b):=by
 unfold zdZ
 by_cases h:a=b
 ·simp[h]
 ·simp only[h,if_false];split
  ·simp;omega
  ·simp;omega
def zaN(c:CQ):F:=csF c
def zaK(c:CQ):F:=Sm.asF c
theorem za4(c:CQ):(zaN c).d= .f (zaN c):=by
 unfold zaN csF;split
 ·rfl
 ·exact zjF ..
theorem zfg(c:CQ):zcn (.f (zaN c))=some c.cs.length:=by
 unfold zaN csF;split
 ·rename_i h;rw[h.2];rfl
 ·simp[zfX]
theorem zmw(c:CQ)(n:Nat):iaB 9 (.f (zaN c)) n=(c.cs[n]?).map fun t=>D.fptr (cmF t):=by
 unfold zaN csF;split
 ·rename_i h;rw[h.2];rfl
 ·simp[zgO,Function.comp_def]
theorem za7(c:CQ):(zaK c).d= .f (zaK c):=by
 unfold zaK Sm.asF;split
 ·rfl
 ·exact zjF ..
theorem zdG(c:CQ):zcn (.f (zaK c))=some c.as.length:=by
 unfold zaK Sm.asF;split
 ·rename_i h;rw[h.2];rfl
 ·simp[zfX]
theorem zeK(c:CQ)(n:Nat):iaB 3 (.f (zaK c)) n=(c.as[n]?).map fun t=>D.fptr (atF t):=by
 unfold zaK Sm.asF;split
 ·rename_i h;rw[h.2];rfl
 ·simp[zgO,Function.comp_def]
theorem cqE(c:CQ):cqF c=[zaK c,zaN c]:=rfl
theorem atE(a:Atm):atF a=[.s a.r,.b a.neg,zb7 a.ts]:=rfl
def zg7:List Trm->List Trm->Int
 |a::l,b::m=>if zfc a b=0 then zg7 l m else zfc a b
 |l,m=>(l.length:Int) - m.length
def zuW(a b:Atm):Int:=if zew a.r b.r=0 then(if a.neg=b.neg then zg7 a.ts b.ts else if b.neg=true then -1 else 1)else zew a.r b.r
def zq9(_:Unit)(p:Trm×Trm):Unit⊕Int:=if zfc p.1 p.2=0 then .inl ()else .inr (zfc p.1 p.2)
theorem zjH:∀(l m:List Trm),zg7 l m=match zfA zq9 () (l.zip m)with
  | .inl _=>(l.length:Int) - m.length
  | .inr c=>c
 |[],m=>by simp[zg7,zfA]
 |a::l,[]=>by simp[zg7,zfA]
 |a::l,b::m=>by
  simp only[zg7,List.zip_cons_cons,ztp,zq9]
  by_cases h:zfc a b=0
  ·simp only[h,if_true,zjH l m];cases zfA zq9 () (l.zip m)<;>simp;omega
  ·simp only[h,if_false]
theorem zCr(a b:Nat)(ha:a<1000)(hb:b<1000):IntKind.i64.wrap ((a:Int) - b)=(a:Int) - b:=IntWalk.i64_in _ (by omega)
theorem ans86(a b:Atm)(ha:zbl a)(hb:zbl b):Ans pr 86 [.ag (atF a),.ag (atF b)] (.i .i64 (zuW a b)):=by
 have q:=fun k=>zay (k:=k) (zJK a.r b.r)
 refine zcm fn86 ?_;simp only[g86,rU];unfold zuW
 by_cases h1:zew a.r b.r=0
 ·rw[h1]at q
  by_cases h2:a.neg=b.neg
  ·have hw:=zCr a.ts.length b.ts.length ha.2 hb.2;simp -implicitDefEqProofs [rR,st0,zaj,atE,zbO,q,h1,h2];refine zKs (a.ts.zip b.ts) zq9 () (fun n _ s=>s.tm.get 2=some (.ptr 0 3 0 0)/\s.tm.get 3=some (.ptr 1 3 0 0)/\s.tm.get 6=some (.f (.i .i64 n))/\s.h.get 0=some (.arr 3 0 [F.dL (atF a)])/\s.h.get 1=some (.arr 3 0 [F.dL (atF b)])) (fun _ x s=>x= .exit 0/\s.tm.get 2=some (.ptr 0 3 0 0)/\s.tm.get 3=some (.ptr 1 3 0 0)/\s.h.get 0=some (.arr 3 0 [F.dL (atF a)])/\s.h.get 1=some (.arr 3 0 [F.dL (atF b)])) (fun c x s=>x= .ret/\s.tm.get 4=some (.f (.i .i64 c))) ?_ ?_ _ ?_ ?_ ?_
   ·rintro n _ s hn ⟨h2,h3,h6,g0,g1⟩;have hn1:n<a.ts.length:=by simp at hn;omega
    have hn2:n<b.ts.length:=by simp at hn;omega
    have hw:=zaC n (by have:=ha.2;omega);have q2:=fun k=>zay (k:=k) (zvc a.ts[n] b.ts[n] (ha.1 _ (List.getElem_mem hn1)) (hb.1 _ (List.getElem_mem hn2)))
    simp only[List.getElem_zip,zq9];simp only[tmE]at q2
    by_cases hz:zfc a.ts[n] b.ts[n]=0
    ·rw[hz]at q2;simp -implicitDefEqProofs [rR,h2,h3,h6,g0,g1,atE,zbO,zbW,zcM,hn1,hn2];refine zbY ?_;simp -implicitDefEqProofs [rR,h2,h3,h6,g0,g1,atE,zbO,zbW,zcM,hn1,hn2,tmE,q2,hz,hw]
    ·simp -implicitDefEqProofs [rR,h2,h3,h6,g0,g1,atE,zbO,zbW,zcM,hn1,hn2];refine zbY ?_;simp -implicitDefEqProofs [rR,h2,h3,h6,g0,g1,atE,zbO,zbW,zcM,hn1,hn2,tmE,q2,hz,hw]
   ·rintro _ s ⟨h2,h3,h6,g0,g1⟩
    by_cases hl:a.ts.length≤b.ts.length
    ·have e:min a.ts.length b.ts.length=a.ts.length:=by omega
     simp -implicitDefEqProofs [rR,h2,h3,h6,g0,g1,atE,zbO,zbW,e]
    ·have e:min a.ts.length b.ts.length=b.ts.length:=by omega
     have hl':b.ts.length<a.ts.length:=by omega
     simp -implicitDefEqProofs [rR,h2,h3,h6,g0,g1,atE,zbO,zbW,e,hl']
   ·simp -implicitDefEqProofs [rR,st0,zaj,atE,zbO,h2]
   ·rintro u h x s ⟨rfl,h2,h3,g0,g1⟩;rw[zjH,h];simp -implicitDefEqProofs [rR,h2,h3,g0,g1,atE,zbO,zbW,hw]
   ·rintro c h x s ⟨rfl,h4⟩;rw[zjH,h];simp -implicitDefEqProofs [rR,h4]
  ·cases hn:b.neg with
   |true=>
    have hm:a.neg=false:=by cases hm:a.neg<;>simp_all
    simp -implicitDefEqProofs [rR,st0,zaj,atE,zbO,q,h1,hn,hm]
   |false=>
    have hm:a.neg=true:=by cases hm:a.neg<;>simp_all
    simp -implicitDefEqProofs [rR,st0,zaj,atE,zbO,q,h1,hn,hm]
 ·simp -implicitDefEqProofs [rR,st0,zaj,atE,zbO,q,h1]
def zcQ(l:List Trm):List (List D):=(l.map tmF).map fun a=>a.map D.f
theorem zuy(h:Nat->Option Ob)(k:Nat)(l:List Trm):zaH (frz h (k+1)) (zcQ l)=some (l.map tmF,[]):=zgW h k _
theorem zok(l:List Trm):(zcQ l).length=l.length:=by simp[zcQ]
theorem zx2(h:Nat->Option Ob)(l:List Trm):elemsOf 4 h (.f (zb7 l))=some (zcQ l,[]):=by
 cases l with
 |nil=>rfl
 |cons a l=>rfl
def zjS:List Trm->Trm->List Trm
 |[],t=>[t]
 |a::l,t=>if zfc a t<0 then a::zjS l t else if tSame a t=true then a::l else t::a::l
theorem zuw(l m:List Trm):zcQ l++zcQ m=zcQ (l++m):=by simp[zcQ]
theorem zFZ{l:List Trm}{t:Trm}(hl:∀a∈l,zax a)(ht:zax t):∀a∈zjS l t,zax a:=by
 induction l with
 |nil=>intro a ha;simp[zjS]at ha;rw[ha];exact ht
 |cons b l ih=>
  intro a ha;unfold zjS at ha;split at ha
  ·rcases List.mem_cons.1 ha with h|h
   ·rw[h];exact hl b (by simp)
   ·exact ih (fun x hx=>hl x (by simp[hx])) a h
  ·split at ha
   ·exact hl a ha
   ·rcases List.mem_cons.1 ha with h|h
    ·rw[h];exact ht
    ·exact hl a h
theorem zAm(l:List Trm)(t:Trm):(zjS l t).length≤l.length+1:=by
 induction l with
 |nil=>simp[zjS]
 |cons b l ih=>
  unfold zjS;split
  ·simp;exact ih
  ·split<;>simp
def zAk(n:Nat)(l:List Trm):Prop:=(∀a∈l,zax a)/\l.length≤n
theorem zAk.add{n:Nat}{l:List Trm}{t:Trm}(h:zAk n l)(ht:zax t):zAk (n+1) (zjS l t):=⟨zFZ h.1 ht,Nat.le_trans (zAm l t) (by have:=h.2;omega)⟩
theorem za8:zpC pr:=zAC zrh
def zdr(l:List Str)(s:Str):List Str:=if s=[]\/l.any (· ==s)=true then l else l++[s]
def za3(l:List Str):List (List D):=l.map fun s=>[D.f (.s s)]
theorem zeI(l:List Str):(za3 l).length=l.length:=by simp[za3]
theorem zzP(l:List Str):(za3 l).take l.length=za3 l:=by rw[<-zeI l,List.take_length]
theorem zrY(h:Nat->Option Ob)(k:Nat)(l:List Str):zaH (frz h (k+1)) (za3 l)=some (l.map fun s=>[F.s s],[]):=zDE h k F.s l
theorem zrZ{l:List Str}(h:l≠[]):F.sl 1 (l.map fun s=>[F.s s])=zav l:=zcz (by simpa using h)
theorem zma{l:List Str}(h:za3 l=[]):l=[]:=by simpa [za3]using h
def zcL(l:List Str)(ts:List Trm):List Str:=ts.foldl (fun l t=>zdr l (tv t)) l
def vrs(c:CQ):List Str:=c.cs.foldl (fun l k=>zdr (zdr l (tv k.l)) (tv k.r)) (c.as.foldl (fun l a=>zcL l a.ts) [])
theorem zlC(l:List Str)(s:Str):(zdr l s).length≤l.length+1:=by
 unfold zdr;split
 ·omega
 ·simp
theorem zoG(ts:List Trm):∀l:List Str,(zcL l ts).length≤l.length+ts.length:=by
 unfold zcL
 induction ts with
 |nil=>intro l;simp
 |cons t ts ih=>
  intro l;have h1:=zlC l (tv t);have h2:=ih (zdr l (tv t));simp only[List.foldl_cons,List.length_cons];omega
theorem zF9{l:List Atm}(hl:∀a∈l,a.ts.length≤12):∀x:List Str,(l.foldl (fun l a=>zcL l a.ts) x).length≤x.length+12*l.length:=by
 induction l with
 |nil=>intro x;simp
 |cons a l ih=>
  intro x;have h1:=zoG a.ts x;have h2:=hl a (by simp);have h3:=ih (fun b hb=>hl b (by simp[hb])) (zcL x a.ts);simp only[List.foldl_cons,List.length_cons];omega
theorem zGL(l:List Cm):∀x:List Str,(l.foldl (fun l k=>zdr (zdr l (tv k.l)) (tv k.r)) x).length≤x.length+2*l.length:=by
 induction l with
 |nil=>intro x;simp
 |cons a l ih=>
  intro x;have h1:=zlC x (tv a.l);have h2:=zlC (zdr x (tv a.l)) (tv a.r);have h3:=ih (zdr (zdr x (tv a.l)) (tv a.r));simp only[List.foldl_cons,List.length_cons];omega
theorem zuF{c:CQ}(hc:CqSm c):(vrs c).length≤544:=by
 have h1:=zF9 hc.st [];have h2:=zGL c.cs (c.as.foldl (fun l a=>zcL l a.ts) []);have:=hc.sa;have:=hc.sc;unfold vrs;simp at h1;omega
theorem ztz{h:T Ob}{lo c es k:Nat}{d:D}{els:List (List D)}{L:List (List F)}(hg:Gro h lo c es d els)(hf:zaH (frz h.get k) els=some (L,[]))(hL:L=[]↔els=[]):∃rd,frz h.get (k+1) d=some (slc es L,rd):=by
 rcases hg with⟨rfl,rfl⟩ |⟨id,ro,rfl,he,ho,hr,hl,hc⟩
 ·rw[hL.2 rfl];exact⟨[],rfl⟩
 ·refine⟨[id],?_⟩;rw[zdf,ho,zaT,zcH];simp only[true_and,Nat.zero_add,Nat.le_refl,if_true,List.drop_zero,List.take_length,hf,zaT];rw[zcz (fun e=>he (hL.1 e))]
theorem zG9{h:T Ob}{lo c:Nat}{d:D}{l:List Str}(hg:Gro h lo c 1 d (za3 l)):∃rd,frz h.get 12 d=some (zav l,rd):=
 ztz (k:=11) hg (zrY _ 10 l) (by simp[za3])
theorem zbz{h:T Ob}{lo c es:Nat}{d:D}{els:List (List D)}(hg:Gro h lo c es d els){i:Nat}(hi:i<lo):d.oid≠some i:=by
 rcases hg with⟨rfl,_⟩ |⟨id,ro,rfl,_,_,_,hl,_⟩
 ·simp[D.oid]
 ·simp[D.oid];omega
theorem fn49:pr.fn 49=some g49:=by kernel_rfl
theorem fn87:pr.fn 87=some g87:=by kernel_rfl
theorem fn50:pr.fn 50=some g50:=by kernel_rfl
theorem fn18:pr.fn 18=some g18:=by kernel_rfl
theorem fn128:pr.fn 128=some g128:=by kernel_rfl
theorem fn129:pr.fn 129=some zvN:=by kernel_rfl
theorem fn81:pr.fn 81=some g81:=by kernel_rfl
theorem fn82:pr.fn 82=some g82:=by kernel_rfl
theorem fn83:pr.fn 83=some g83:=by kernel_rfl
theorem fn80:pr.fn 80=some g80:=by kernel_rfl
theorem fn44:pr.fn 44=some g44:=by kernel_rfl
theorem fn115:pr.fn 115=some zvL:=by kernel_rfl
theorem fn65:pr.fn 65=some g65:=by kernel_rfl
theorem fn33:pr.fn 33=some g33:=by kernel_rfl
theorem fn58:pr.fn 58=some g58:=by kernel_rfl
theorem fn25:pr.fn 25=some g25:=by kernel_rfl
theorem zGU{a b:List Str}(hl:a.length=b.length)(h:∀i,i<a.length->a[i]? =b[i]?):a=b:=by
 apply List.ext_getElem?;intro i
 by_cases hi:i<a.length
 ·exact h i hi
 ·rw[List.getElem?_eq_none (by omega),List.getElem?_eq_none (by omega)]
def SQ44(a b:List Str)(k:Nat)(s:St):Prop:=∃n:Nat,(k=a.length - n/\n≤a.length/\∀i,i<n->a[i]? =b[i]?)/\(s.tm.get 0=some (.f (zav a))/\s.tm.get 1=some (.f (zav b))/\s.tm.get 5=some (.f (.i .i64 n)))
theorem ans49(a b:List Str)(hn:a.length<100000):Ans pr 49 [zav a,zav b] (.b (decide (a=b))):=by
 refine zcm fn49 ?_;simp only[g49,rU]
 by_cases hl:a.length=b.length
 ·have hl':(a.length:Int)=b.length:=by omega
  simp -implicitDefEqProofs [rW,st0,zaj,zaS,zbX,hl,hl'];refine zk8 (SQ44 a b) (fun x s=>(x= .exit 0/\a=b)\/(x= .ret/\a≠b/\s.tm.get 4=some (.f (.b false)))) ?_ a.length _ ?_ ?_
  ·rintro k s ⟨n,⟨rfl,hn2,he⟩,⟨h0,h1,h5⟩⟩
   by_cases hlt:n<a.length
   ·have ha:a[n]? =some a[n]:=List.getElem?_eq_getElem hlt;have hb:b[n]? =some b[n]:=List.getElem?_eq_getElem (by omega);have hltb:n<b.length:=by omega
    have hw:=zaC n (by omega);generalize hA:a[n]=A at ha;generalize hB:b[n]=B at hb
    by_cases hq:A=B
    ·subst hq;simp -implicitDefEqProofs [rW,h0,h1,h5,zbX,hlt,hltb,hl];refine zbY ?_;simp -implicitDefEqProofs [rW,h0,h1,h5,ziD,ha,hb,hlt,hltb,hA,hB];rw[zdK];refine⟨a.length - (n+1),by omega,n+1,⟨rfl,by omega,fun i hi=> ?_⟩,?_⟩
     ·by_cases hi2:i=n
      ·subst hi2;rw[ha,hb]
      ·exact he i (by omega)
     ·simp -implicitDefEqProofs [rW,h0,h1,h5,hw]
    ·have hne:a≠b:=fun e=>hq (by subst e;rw[ha]at hb;exact Option.some.inj hb)
     simp -implicitDefEqProofs [rW,h0,h1,h5,zbX,hlt,hltb,hl];refine zbY ?_;simp -implicitDefEqProofs [rW,h0,h1,h5,ziD,ha,hb,hlt,hltb,hA,hB,hq,hne]
   ·have e:a=b:=zGU hl fun i hi=>he i (by omega)
    have hltb:¬(n<b.length):=by omega
    simp -implicitDefEqProofs [rW,h0,h1,h5,zbX,hlt,hltb,hl];exact e
  ·simp -implicitDefEqProofs [rW,SQ44];exact⟨0,by simp,by simp[hl]⟩
  ·rintro x s (⟨rfl,e⟩ |⟨rfl,e,h4⟩)
   ·simp -implicitDefEqProofs [rW,e]
   ·simp -implicitDefEqProofs [rW,h4,e]
 ·have hl':¬((a.length:Int)=b.length):=by omega
  have hne:¬(a=b):=fun e=>hl (by rw[e])
  simp -implicitDefEqProofs [rW,st0,zaj,zaS,zbX,hl,hl',hne]
theorem zsV:∀a:Str,Go.Op.bytesLess a a=false
 |[]=>rfl
 |x::a=>by
  simp only[Go.Op.bytesLess,zsV a,Bool.and_false,Bool.or_false,decide_eq_false_iff_not];exact UInt8.lt_irrefl x
theorem zpq(a:Str):zew a a=0:=by simp[zew,zsV]
theorem zpv(t:Trm):zfc t t=0:=by cases t<;>simp[zfc,zpq,zdZ]
theorem ans87(k:Cm)(hk:zbn k):Ans pr 87 [.ag (cmF k),.ag (cmF k)] (.i .i64 0):=by
 refine zcm fn87 ?_;simp only[g87,rU];have q1:=fun m=>zay (k:=m) (zvc k.l k.l hk.1 hk.1)
 have q2:=fun m=>zay (k:=m) (zvc k.r k.r hk.2 hk.2)
 rw[zpv]at q1 q2;simp only[tmE]at q1 q2;simp -implicitDefEqProofs [rR,st0,zaj,tmE,cmF,q1,q2]
theorem znB:∀l:List Trm,zg7 l l=0
 |[]=>by simp[zg7]
 |t::l=>by simp[zg7,zpv,znB l]
theorem zxi(a:Atm):zuW a a=0:=by
 simp[zuW,zpq,znB]
def Eqv(a b:CQ):Prop:=a.as=b.as/\a.cs=b.cs
theorem ans50(a b:CQ)(ha:CqSm a)(he:Eqv a b):Ans pr 50 [.ag (cqF a),.ag (cqF b)] (.i .i64 0):=by
 refine zcm fn50 ?_;simp only[g50,rU];have hla:b.as.length=a.as.length:=by rw[he.1]
 have hlc:b.cs.length=a.cs.length:=by rw[he.2]
 simp -implicitDefEqProofs [rR,st0,zaj,cqE,za7,za4];refine ze2 a.as.length (fun n s=>s.tm.get 2=some (.ptr 0 2 0 0)/\s.tm.get 3=some (.ptr 1 2 0 0)/\s.tm.get 5=some (.f (.i .i64 n))/\s.h.get 0=some (.arr 2 0 [[.f (zaK a),.f (zaN a)]])/\s.h.get 1=some (.arr 2 0 [[.f (zaK b),.f (zaN b)]])) (fun x s=>x= .exit 0/\s.tm.get 2=some (.ptr 0 2 0 0)/\s.tm.get 3=some (.ptr 1 2 0 0)/\s.h.get 0=some (.arr 2 0 [[.f (zaK a),.f (zaN a)]])/\s.h.get 1=some (.arr 2 0 [[.f (zaK b),.f (zaN b)]])) ?_ ?_ _ ?_ ?_
 ·rintro n s hn ⟨h2,h3,h5,g0,g1⟩;have hw:=zaC n (by have:=ha.sa;omega);have hx:a.as[n]? =some a.as[n]:=List.getElem?_eq_getElem hn;have hy:b.as[n]? =some a.as[n]:=by rw[<-he.1];exact hx
  have q:=fun m=>zay (k:=m) (ans86 a.as[n] a.as[n] (ha.as _ (List.getElem_mem hn)) (ha.as _ (List.getElem_mem hn)))
  rw[zxi]at q;generalize a.as[n]=A at hx hy q;simp only[atE]at q;simp -implicitDefEqProofs [rR,h2,h3,h5,g0,g1,zdG,hla,hn];refine zbY ?_;simp -implicitDefEqProofs [rR,h2,h3,h5,g0,g1,zeK,hx,hy,atE,zbO,q,hw]
 ·rintro s ⟨h2,h3,h5,g0,g1⟩;simp -implicitDefEqProofs [rR,h2,h3,h5,g0,g1,zdG,hla]
 ·simp -implicitDefEqProofs [rR,st0,zaj]
 ·rintro x s ⟨rfl,h2,h3,g0,g1⟩;simp -implicitDefEqProofs [rR,h2,h3,g0,g1,zdG,hla];refine ze2 a.cs.length (fun n s=>s.tm.get 2=some (.ptr 0 2 0 0)/\s.tm.get 3=some (.ptr 1 2 0 0)/\s.tm.get 7=some (.f (.i .i64 n))/\s.h.get 0=some (.arr 2 0 [[.f (zaK a),.f (zaN a)]])/\s.h.get 1=some (.arr 2 0 [[.f (zaK b),.f (zaN b)]])) (fun x s=>x= .exit 2/\s.tm.get 2=some (.ptr 0 2 0 0)/\s.tm.get 3=some (.ptr 1 2 0 0)/\s.h.get 0=some (.arr 2 0 [[.f (zaK a),.f (zaN a)]])/\s.h.get 1=some (.arr 2 0 [[.f (zaK b),.f (zaN b)]])) ?_ ?_ _ ?_ ?_
  ·rintro n s hn ⟨h2,h3,h7,g0,g1⟩;have hw:=zaC n (by have:=ha.sc;omega);have hx:a.cs[n]? =some a.cs[n]:=List.getElem?_eq_getElem hn;have hy:b.cs[n]? =some a.cs[n]:=by rw[<-he.2];exact hx
   have q:=fun m=>zay (k:=m) (ans87 a.cs[n] (ha.cs _ (List.getElem_mem hn)))
   generalize a.cs[n]=K at hx hy q;simp only[cmF,tmE,List.cons_append,List.nil_append]at q;simp -implicitDefEqProofs [rR,h2,h3,h7,g0,g1,zfg,hlc,hn];refine zbY ?_;simp -implicitDefEqProofs [rR,h2,h3,h7,g0,g1,zmw,hx,hy,cmF,tmE,q,hw]
  ·rintro s ⟨h2,h3,h7,g0,g1⟩;simp -implicitDefEqProofs [rR,h2,h3,h7,g0,g1,zfg,hlc]
  ·simp -implicitDefEqProofs [rR,h2,h3,g0,g1]
  ·rintro x s ⟨rfl,h2,h3,g0,g1⟩;have hw0:IntKind.i64.wrap 0=0:=rfl;simp -implicitDefEqProofs [rR,h2,h3,g0,g1,zfg,hlc,hw0]
def qsF(l:List CQ):F:=slc 2 (l.map cqF)
theorem zeF(l:List CQ):(qsF l).d= .f (qsF l):=zjF ..
theorem ziz(l:List CQ):zcn (.f (qsF l))=some l.length:=by simp[qsF,zfX]
theorem zwH(l:List CQ)(n:Nat):iaB 2 (.f (qsF l)) n=(l[n]?).map fun c=>D.fptr (cqF c):=by simp[qsF,zgO,Function.comp_def]
def EqvL(l m:List CQ):Prop:=l.length=m.length/\∀i (h:i<l.length) (h':i<m.length),Eqv l[i] m[i]
theorem zmq(hd:List Str)(l m:List CQ)(hh:hd.length<1000)(hs:∀c∈l,CqSm c)(hl:l.length<1000)(he:EqvL l m):Ans pr 18 [.ag [zav hd,qsF l],.ag [zav hd,qsF m]] (.b true):=by
 have q44:=fun k=>zay (k:=k) (ans49 hd hd (by omega))
 refine zcm fn18 ?_;simp only[g18,rU];have hlm:=he.1;simp -implicitDefEqProofs [rR,st0,zaj,zaS,zeF,q44,ziz,hlm];refine ze2 l.length (fun n s=>s.tm.get 2=some (.ptr 0 2 0 0)/\s.tm.get 3=some (.ptr 1 2 0 0)/\s.tm.get 5=some (.f (.i .i64 n))/\s.h.get 0=some (.arr 2 0 [[.f (zav hd),.f (qsF l)]])/\s.h.get 1=some (.arr 2 0 [[.f (zav hd),.f (qsF m)]])) (fun x s=>x= .exit 0) ?_ ?_ _ ?_ ?_
 ·rintro n s hn ⟨h2,h3,h5,g0,g1⟩;have hw:=zaC n (by omega);have hx:l[n]? =some l[n]:=List.getElem?_eq_getElem hn;have hn2:n<m.length:=by omega
  have hy:m[n]? =some m[n]:=List.getElem?_eq_getElem hn2;have q:=fun k=>zay (k:=k) (ans50 l[n] m[n] (hs _ (List.getElem_mem hn)) (he.2 n hn hn2))
  generalize hA:l[n]=A at hx q;generalize hB:m[n]=B at hy q;simp only[cqE]at q;simp -implicitDefEqProofs [rR,h2,h3,h5,g0,g1,ziz,hlm,hn,hn2];refine zbY ?_;simp -implicitDefEqProofs [rR,h2,h3,h5,g0,g1,zwH,hx,hy,hA,hB,hn,hn2,cqE,za7,za4,q,hw]
 ·rintro s ⟨h2,h3,h5,g0,g1⟩;simp -implicitDefEqProofs [rR,h2,h3,h5,g0,g1,ziz,hlm]
 ·simp -implicitDefEqProofs [rR,st0,zaj,hlm]
 ·rintro x s rfl;simp -implicitDefEqProofs [rR,]
theorem zKX{f:Nat}{args:List D}{h:T Ob}{c:Nat}{x:F}(h1:pr.fn f=none)(h2:pr.ext f args=some x):RO pr f args h c x.d:=by
 refine⟨c,Nat.le_refl _,1,fun n hn=> ?_⟩;obtain⟨m,rfl⟩ :∃m,n=m+1:=⟨n - 1,by omega⟩
 simp only[zci,h1,h2]
theorem zs5:∀a b:Str,Go.Lib.compareBytes a b=zew a b
 |[],[]=>rfl
 |[],b::l=>by simp[Go.Lib.compareBytes,zew,Go.Op.bytesLess]
 |a::l,[]=>by simp[Go.Lib.compareBytes,zew,Go.Op.bytesLess]
 |a::l,b::m=>by
  have ih:=zs5 l m;unfold Go.Lib.compareBytes zew Go.Op.bytesLess
  by_cases h1:a<b
  ·simp[h1]
  ·by_cases h2:b<a
   ·have h3:a≠b:=fun e=>by subst e;exact h1 h2
    simp[h1,h2,h3]
   ·have h3:a=b:=UInt8.le_antisymm (UInt8.not_lt.1 h2) (UInt8.not_lt.1 h1);subst h3;simp only[h1,if_false,ih,zew];simp
theorem ro130(a b:Str)(h:T Ob)(c:Nat):RO pr 130 [.f (.s a),.f (.s b)] h c (.f (.i .i64 (zew a b))):=by
 have:=zKX (h:=h) (c:=c) (f:=130) (args:=[.f (.s a),.f (.s b)]) (x:= .i .i64 (Go.Lib.compareBytes a b)) (by kernel_rfl) rfl;rw[zs5]at this;exact this
theorem zxo(a:Int):Ans pr 128 [.i .i64 a] (.b false):=by
 refine zcm fn128 ?_;simp only[g128,rU];simp -implicitDefEqProofs [rW,st0,zaj]
theorem zxq(a:Int):Ans pr 129 [.i .i64 a] (.b false):=by
 refine zcm fn129 ?_;simp only[zvN,rU];simp -implicitDefEqProofs [rW,st0,zaj]
theorem ans81(a b:Int):Ans pr 81 [.i .i64 a,.i .i64 b] (.i .i64 (zdZ a b)):=by
 refine zcm fn81 ?_;simp only[g81,rU];have q1:=fun k=>zay (k:=k) (zxo a)
 have q2:=fun k=>zay (k:=k) (zxo b)
 unfold zdZ
 by_cases h1:a<b
 ·have h2:¬a=b:=by omega
  simp -implicitDefEqProofs [rW,st0,zaj,q1,q2,h1,h2]
 ·by_cases h2:b<a
  ·have h3:¬a=b:=by omega
   simp -implicitDefEqProofs [rW,st0,zaj,q1,q2,h1,h2,h3]
  ·have h3:a=b:=by omega
   simp -implicitDefEqProofs [rW,st0,zaj,q1,q2,h1,h2,h3]
theorem ans82(a b:Int):Ans pr 82 [.i .i64 a,.i .i64 b] (.i .i64 (zdZ a b)):=by
 refine zcm fn82 ?_;simp only[g82,rU];have q1:=fun k=>zay (k:=k) (zxq a)
 have q2:=fun k=>zay (k:=k) (zxq b)
 unfold zdZ
 by_cases h1:a<b
 ·have h2:¬a=b:=by omega
  simp -implicitDefEqProofs [rW,st0,zaj,q1,q2,h1,h2]
 ·by_cases h2:b<a
  ·have h3:¬a=b:=by omega
   simp -implicitDefEqProofs [rW,st0,zaj,q1,q2,h1,h2,h3]
  ·have h3:a=b:=by omega
   simp -implicitDefEqProofs [rW,st0,zaj,q1,q2,h1,h2,h3]
theorem ans83(a b:Str):Ans pr 83 [.s a,.s b] (.i .i64 (zew a b)):=by
 refine zcm fn83 ?_;simp only[g83,rU];simp -implicitDefEqProofs [rW,st0,zaj];refine zdg (ro130 a b _ _) ?_ ?_
 ·simp only[rG];omega
 ·intro mx;simp -implicitDefEqProofs [rW,st0,zaj]
theorem ans80(a b c:Int):Ans pr 80 [.sl 1 [[.i .i64 a],[.i .i64 b],[.i .i64 c]]] (.i .i64 (if a≠0 then a else if b≠0 then b else c)):=by
 refine zcm fn80 ?_;simp only[g80,rU];have w1:IntKind.i64.wrap 1=1:=rfl;have w2:IntKind.i64.wrap 2=2:=rfl;have w3:IntKind.i64.wrap 3=3:=rfl;simp -implicitDefEqProofs [rW,st0,zaj];refine round ?_
 by_cases ha:a=0
 ·by_cases hb:b=0
  ·simp -implicitDefEqProofs [rW,ha,hb,w1];refine round ?_;simp -implicitDefEqProofs [rW,ha,hb,w2];refine round ?_
   by_cases hc:c=0
   ·simp -implicitDefEqProofs [rW,hc,w3];refine round ?_;simp -implicitDefEqProofs [rW,hc]
   ·simp -implicitDefEqProofs [rW,hc]
  ·simp -implicitDefEqProofs [rW,ha,hb,w1];refine round ?_;simp -implicitDefEqProofs [rW,hb]
 ·simp -implicitDefEqProofs [rW,ha]
theorem zvb(a b:Int):Ans pr 44 [.ag (vF a),.ag (vF b)] (.i .i64 (zdZ a b)):=by
 refine zcm fn44 ?_;simp only[g44,rU];have q1:=fun k=>zay (k:=k) (ans81 1 1)
 have q2:=fun k=>zay (k:=k) (ans82 a b)
 have q3:=fun k=>zay (k:=k) (ans83 [] [])
 have q4:=fun k=>zay (k:=k) (ans80 (zdZ 1 1) (zdZ a b) (zew [] []))
 rw[(show zdZ 1 1=0 from rfl)]at q1 q4;rw[(show zew [] []=0 from rfl)]at q3 q4;have e:(if(0:Int)≠0 then 0 else if zdZ a b≠0 then zdZ a b else 0)=zdZ a b:=by
  simp only[ne_eq,not_true_eq_false,if_false];split
  ·rfl
  ·rename_i h;simp at h;exact h.symm
 rw[e]at q4;simp -implicitDefEqProofs [rW,st0,zaj,vF];refine zbY ?_;simp -implicitDefEqProofs [rW,st0,zaj,vF,q1,q2,q3,q4]
theorem zik(a b:Trm)(ha:zax a)(hb:zax b):Ans pr 115 [.ag (tmF a),.ag (tmF b)] (.b (decide (a=b))):=by
 refine zcm fn115 ?_;simp only[zvL,rU];cases a with
 |cst a=>
  cases b with
  |cst b=>
   have q:=fun k=>zay (k:=k) (zvb a b)
   simp only[vF]at q;simp -implicitDefEqProofs [rR,st0,zaj,tmF,q,zjZ]
  |var b=>
   simp only[zax]at hb;simp -implicitDefEqProofs [rR,st0,zaj,tmF,hb,Ne.symm hb]
 |var a=>
  simp only[zax]at ha;cases b with
  |cst b=>simp -implicitDefEqProofs [rR,st0,zaj,tmF,ha]
  |var b=>
   simp -implicitDefEqProofs [rR,st0,zaj,tmF,ha];exact Bool.eq_iff_iff.2 (by simp)
def ixP{α:Type}(l:List α)(p:α->Bool):Int:=match l.findIdx? p with
 |some n=>n
 |none=> -1
theorem zk6{α:Type}{l:List α}{p:α->Bool}(h:∀a∈l,p a=false):ixP l p= -1:=by
 have:l.findIdx? p=none:=List.findIdx?_eq_none_iff.2 h;simp[ixP,this]
theorem zkk{α:Type}{l:List α}{p:α->Bool}{n:Nat}(h:n<l.length)(h1:p l[n]=true)(h2:∀m (h':m<n),p (l[m]'(by omega))=false):ixP l p=n:=by
 have:l.findIdx? p=some n:=by
  rw[List.findIdx?_eq_some_iff_getElem];exact⟨h,h1,fun j hj=>by simpa using h2 j hj⟩
 simp[ixP,this]
theorem zm3{α:Type}(l:List α)(p:α->Bool):decide (ixP l p≥0)=l.any p:=by
 cases h:l.any p with
 |true=>
  unfold ixP;cases h2:l.findIdx? p with
  |some n=>simp
  |none=>rw[List.findIdx?_eq_none_iff]at h2;simp at h;obtain⟨x,hx,hp⟩ :=h;rw[h2 x hx]at hp;cases hp
 |false=>
  have:=zk6 (l:=l) (p:=p) (by simpa using h);simp[this]
theorem zAt(l:List Str)(x:Str):l.any (x== ·)=l.any (· ==x):=by
  congr 1;funext a;exact Bool.beq_comm
def RdV(h:T Ob)(d:D)(l:List Str):Prop:=d= .f (zav l)\/∃lo c,Gro h lo c 1 d (za3 l)
theorem ztV{h:T Ob}{d:D}{l:List Str}(H:RdV h d l):zcn d=some l.length:=by
 rcases H with rfl|⟨lo,c,H⟩
 ·exact zbX l
 ·rw[znZ H,zeI]
theorem zyW{h:T Ob}{d:D}{l:List Str}(H:RdV h d l){n:Nat}(hn:n<l.length):∃p rd,iaB 1 d n=some p/\zbq false 1 h.get p=some (.f (.s l[n]),rd):=by
 rcases H with rfl|⟨lo,c,H⟩
 ·exact⟨.fptr [.s l[n]],[],by rw[ziD,List.getElem?_eq_getElem hn];rfl,rfl⟩
 ·rcases H with⟨rfl,e⟩ |⟨id,ro,rfl,-,hg,-,h1,h2⟩
  ·have:=zma e;rw[this]at hn;simp at hn
  ·refine⟨.ptr id 1 n 0,[id],by simp[zhT,zeI,hn],?_⟩;have:(za3 l)[n]? =some [.f (.s l[n])]:=by simp[za3,hn]
   simp[zA3,hg,zaT,zn2,this,zBh]
theorem ro65(l:List Str)(x:Str)(hl:l.length<1000000){h:T Ob}{c:Nat}{d:D}(H:RdV h d l):RO pr 65 [d,.f (.s x)] h c (.f (.i .i64 (ixP l (x== ·)))):=by
 refine zdU za8 fn65 rfl ?_;simp only[g65,rU];simp -implicitDefEqProofs [rW,st0,zaj,ztV H];refine zfj l (x== ·) (fun n s=>(s.tm.get 0=some (d)/\s.tm.get 1=some (.f (.s x))/\s.tm.get 7=some (.f (.i .i64 l.length))/\s.tm.get 8=some (.f (.i .i64 n)))/\s.h=h/\s.c=c/\s.lw=c) (fun x s=>x= .exit 0/\s.lw=c) (fun n y s=>y= .ret/\s.tm.get 4=some (.f (.i .i64 n))/\s.lw=c) ?_ ?_ _ ?_ ?_ ?_
 ·rintro n s hn ⟨⟨h0,h1,h7,h8⟩,eh,ec,el⟩;have hw:=zaC n (by omega);obtain⟨p,rd,hp,hr⟩ :=zyW H hn
  by_cases he:x=l[n]
  ·simp -implicitDefEqProofs [rW,h0,h1,h7,h8,hn,hp,hr,he,eh,el]
  ·simp -implicitDefEqProofs [rW,h0,h1,h7,h8,hn,hp,hr,he,hw,eh,ec,el]
 ·rintro s ⟨⟨h0,h1,h7,h8⟩,eh,ec,el⟩;simp -implicitDefEqProofs [rW,h0,h1,h7,h8,el]
 ·simp -implicitDefEqProofs [rW,st0,zaj]
 ·rintro h z s ⟨rfl,el⟩;rw[zk6 h];simp -implicitDefEqProofs [rW,zaU,el]
 ·rintro n hn hp hm z s ⟨rfl,h4,el⟩;rw[zkk hn hp hm];simp -implicitDefEqProofs [rW,h4,zaU,el]
theorem ro33(l:List Str)(x:Str)(hl:l.length<1000000){h:T Ob}{c:Nat}{d:D}(H:RdV h d l):RO pr 33 [d,.f (.s x)] h c (.f (.b (l.any (· ==x)))):=by
  refine zdU za8 fn33 rfl ?_;simp only[g33,rU];have e:=zm3 l (x== ·);rw[zAt]at e;rw[<-e];simp -implicitDefEqProofs [rW,st0,zaj];refine zdg (d:= .f (.i .i64 (ixP l (x== ·)))) ?_ ?_ ?_
  · simp only[rG];exact ro65 l x hl H
  · simp only[rG];omega
  · intro mx;simp -implicitDefEqProofs [rW,zaU]
theorem zJL{f:Nat}{fs:List F}{x:F}{args:List D}(e:F.dL fs=args)(h:RO pr f args .e 0 (.f x)):Ans pr f fs x:=by
 obtain⟨mx,-,hc⟩ :=h;rw[<-e]at hc;exact⟨_,[],hc,rfl⟩
theorem zva(l:List Str)(x:Str)(hl:l.length<1000000):Ans pr 33 [zav l,.s x] (.b (l.any (· ==x))):=
  zJL (by rw[F.dL,F.dL,F.dL,zaS];rfl) (ro33 l x hl (.inl rfl))
def zm1(l:List Nat):F:=slc 1 (l.map fun n:Nat=>[F.i .i64 (n:Int)])
theorem zA0(l:List Nat):zcn (.f (zm1 l))=some l.length:=by simp[zm1,zfX]
theorem zHh(l:List Nat)(n:Nat):iaB 1 (.f (zm1 l)) n=(l[n]?).map fun k:Nat=>D.fptr [F.i .i64 (k:Int)]:=by simp[zm1,zgO,Function.comp_def]
def tsA(c:CQ):List Trm:=c.as.flatMap (·.ts)
def ts2(k:Cm):List Trm:=[k.l,k.r]
def tsC(c:CQ):List Trm:=tsA c++c.cs.flatMap ts2
def T1(c:CQ)(l:List Trm)(n:Nat)(s:St):Prop:=∃d,s.tm.get 1=some (.ptr 0 2 0 0)/\s.tm.get 11=some (.f (.i .i64 n))/\s.tm.get 9=some (.f (zaK c))/\s.tm.get 10=some (.f (.i .i64 c.as.length))/\s.tm.get 3=some (d)/\s.h.get 0=some (.arr 2 0 [[.f (zaK c),.f (zaN c)]])/\Gro s.h 1 s.c 4 d (zcQ l)/\1≤s.c
def T2(c:CQ)(l:List Trm)(n:Nat)(s:St):Prop:=∃d,s.tm.get 23=some (.f (.i .i64 n))/\s.tm.get 21=some (.f (zaN c))/\s.tm.get 22=some (.f (.i .i64 c.cs.length))/\s.tm.get 3=some (d)/\Gro s.h 1 s.c 4 d (zcQ l)/\1≤s.c
theorem ziq{α β:Type}(f:α->List β)(m:Nat):∀(l:List α),(∀a∈l,(f a).length≤m)->(l.flatMap f).length≤m*l.length
 |[],_=>by simp
 |a::l,h=>by
  have h1:=h a (by simp);have h2:=ziq f m l fun b hb=>h b (by simp[hb])
  rw[List.flatMap_cons,List.length_append,List.length_cons,Nat.mul_add];omega
theorem zIy{c:CQ}(hc:CqSm c):(tsC c).length≤424:=by
 have h1:=ziq (·.ts) 2 c.as hc.s2;have h2:=ziq ts2 2 c.cs (by simp[ts2]);have:=hc.sa;have:=hc.sc;simp only[tsC,tsA,List.length_append];omega
theorem zhA{α β:Type}(f:α->List β):∀(l:List α) (x:List β),l.foldl (fun x a=>x++f a) x=x++l.flatMap f
 |[],x=>by simp
 |a::l,x=>by rw[List.foldl_cons,zhA f l,List.flatMap_cons,List.append_assoc]
theorem zHb{h:T Ob}{lo c:Nat}{d:D}{l:List Trm}(hg:Gro h lo c 4 d (zcQ l)):∃rd,frz h.get 12 d=some (zb7 l,rd):=
 ztz (k:=11) hg (zuy _ 10 l) (by simp[zcQ])
theorem ans58(c:CQ)(hc:CqSm c):Ans pr 58 [.ag (cqF c)] (zb7 (tsC c)):=by
 refine zcm fn58 ?_;simp only[g58,rU];simp -implicitDefEqProofs [rW,st0,zaj,cqE,za7,za4,zdG];refine zpP c.as (fun x a=>x++a.ts) [] (fun n a s=>T1 c a n s) (fun x s=>x= .exit 0/\∃n,T1 c (tsA c) n s) ?_ ?_ _ ?_ ?_
 ·rintro n a s hn ha ⟨d,h1,h11,h9,h10,h3,g0,hg,hc1⟩;have hw:=zaC n (by have:=hc.sa;omega);have hal:a.length≤144:=by
   rw[zhA,List.nil_append]at ha;have:=ziq (fun a:Atm=>a.ts) 12 (c.as.take n) fun b hb=>hc.st b (List.mem_of_mem_take hb)
   rw[<-ha]at this;have:=hc.sa;simp at*;omega
  have hst:=hc.st _ (List.getElem_mem hn);generalize hA:c.as[n]=A at hst⊢;simp -implicitDefEqProofs [rW,h1,h11,h9,h10,h3,g0,zdG,zeK,hn,hA,atE,zbO,zx2];refine zye (zbf (c':=s.c+1) hg (by omega) fun id _ h2=> ?_) (by omega) (by simp only[zok];omega) (by omega) ?_
  ·rw[Vse.T.zad,if_neg (by omega),Vse.T.zad,if_neg (by omega)]
  ·intro r hr1 hr2 hr3 hr4 _ _;have e0:=hr4 0 (by omega) (zbz hg (by omega));have c0:¬0=s.c:=by omega
   rw[Vse.T.zad,if_neg c0,Vse.T.zad,if_neg c0]at e0;refine⟨hr1,?_⟩;simp -implicitDefEqProofs [rW,h1,h11,h9,h10,h3,g0,e0,hw,T1];rw[<-zuw];exact⟨hr2,by omega⟩
 ·rintro s ⟨d,h1,h11,h9,h10,h3,g0,hg,hc1⟩;rw[zhA,List.nil_append]at hg;simp -implicitDefEqProofs [rW,h1,h11,h9,h10,h3,g0,zdG,T1,hc1];exact⟨⟨_,rfl⟩,hg⟩
 ·simp -implicitDefEqProofs [rW,T1];exact .inl ⟨rfl,rfl⟩
 ·rintro x s ⟨rfl,n,d,h1,h11,h9,h10,h3,g0,hg,hc1⟩;simp -implicitDefEqProofs [rW,h1,h11,h9,h10,h3,g0,zfg];have hl0:(tsA c).length≤144:=by
   have:=ziq (fun a:Atm=>a.ts) 12 c.as hc.st;have:=hc.sa;unfold tsA;omega
  refine zpP c.cs (fun x k=>x++ts2 k) (tsA c) (fun n a s=>T2 c a n s) (fun x s=>x= .exit 2/\∃n,T2 c (tsC c) n s) ?_ ?_ _ ?_ ?_
  ·rintro n a s hn ha ⟨d,h23,h21,h22,h3,hg,hc1⟩;have hw:=zaC n (by have:=hc.sc;omega);have hal:a.length≤544:=by
    rw[zhA]at ha;have:=ziq ts2 2 (c.cs.take n) (by simp[ts2]);rw[ha,List.length_append];have:=hc.sc;simp at*;omega
   generalize hK:c.cs[n]=K;simp -implicitDefEqProofs [rW,h23,h21,h22,h3,zfg,zmw,hn,hK,cmF,tmE];refine zye (zbf (c':=s.c+1) hg (by omega) fun id _ h2=> ?_) (by omega) (by simp only[zok];simp;omega) (by omega) ?_
   ·rw[Vse.T.zad,if_neg (by omega),Vse.T.zad,if_neg (by omega)]
   ·intro r hr1 hr2 hr3 hr4 _ _;refine⟨hr1,?_⟩;simp -implicitDefEqProofs [rW,h23,h21,h22,h3,hw,T2];rw[<-zuw];simp only[ts2,zcQ,List.map_cons,List.map_nil,tmE]at hr2⊢;exact⟨hr2,by omega⟩
  ·rintro s ⟨d,h23,h21,h22,h3,hg,hc1⟩;rw[zhA]at hg;simp -implicitDefEqProofs [rW,h23,h21,h22,h3,zfg,T2,hc1];exact⟨⟨_,rfl⟩,hg⟩
  ·simp -implicitDefEqProofs [rW,h1,h11,h9,h10,h3,g0,T2,hc1,hg]
  ·rintro x s ⟨rfl,n,d,h23,h21,h22,h3,hg,hc1⟩;obtain⟨rd,hz⟩ :=zHb hg;simp -implicitDefEqProofs [rW,h3,hz]
theorem zjT(a b:List Trm)(x:List Str):zcL x (a++b)=zcL (zcL x a) b:=by simp[zcL]
theorem zr5(c:CQ):(tsC c).foldl (fun l t=>zdr l (tv t)) []=vrs c:=by
 have h1:∀(l:List Atm) (x:List Str),zcL x (l.flatMap (·.ts))=l.foldl (fun l a=>zcL l a.ts) x:=by
  intro l
  induction l with
  |nil=>intro x;rfl
  |cons a l ih=>intro x;rw[List.flatMap_cons,zjT,ih];rfl
 have h2:∀(l:List Cm) (x:List Str),zcL x (l.flatMap ts2)=l.foldl (fun l k=>zdr (zdr l (tv k.l)) (tv k.r)) x:=by
  intro l
  induction l with
  |nil=>intro x;rfl
  |cons a l ih=>intro x;rw[List.flatMap_cons,zjT,ih];rfl
 show zcL [] (tsC c)=vrs c;unfold tsC vrs tsA;rw[zjT,h1,h2]
theorem stepV(l:List Str)(x:Str):zdr l x=if x≠[]/\¬(l.any (· ==x)=true)then l++[x]else l:=by
  unfold zdr
  by_cases h1:x=[]<;>by_cases h2:l.any (· ==x)=true<;>simp[h1,h2]
def SV(h:T Ob)(lo c:Nat)(d:D)(l:List Str):Prop:=(d= .f .nils/\l=[])\/∃id,d= .sl id 0 l.length 1 l.length false/\l≠[]/\h.get id=some (.arr 1 0 (za3 l))/\lo≤id/\id<c
theorem SV.gro{h:T Ob}{lo c:Nat}{d:D}{l:List Str}(H:SV h lo c d l):Gro h lo c 1 d (za3 l):=by
 rcases H with⟨rfl,rfl⟩ |⟨id,rfl,h1,h2,h3,h4⟩
 ·exact .inl ⟨rfl,rfl⟩
 ·exact .inr ⟨id,0,by rw[zeI],fun e=>h1 (zma e),h2,Nat.zero_le _,h3,h4⟩
theorem SV.up{h h':T Ob}{lo c c':Nat}{d:D}{l:List Str}(H:SV h lo c d l)(hc:c≤c')(hh:∀x,lo≤x->x<c->h'.get x=h.get x):SV h' lo c' d l:=by
 rcases H with H|⟨id,h1,h2,h3,h4,h5⟩
 ·exact .inl H
 ·exact .inr ⟨id,h1,h2,by rw[hh id h4 h5];exact h3,h4,by omega⟩
def VP(h0:T Ob)(c0:Nat)(L:List Trm)(l:List Str)(n:Nat)(s:St):Prop:=∃d,(s.tm.get 7=some (.f (zb7 L))/\s.tm.get 8=some (.f (.i .i64 L.length))/\s.tm.get 9=some (.f (.i .i64 n))/\s.tm.get 3=some (d))/\SV s.h (c0+1) s.c d l/\c0+1≤s.c/\Frm h0 s.h c0/\s.lw≤s.c
theorem zDv(c:CQ)(hc:CqSm c){h:T Ob}{c0:Nat}:Eff pr 25 [.ag [.f (zaK c),.f (zaN c)]] h c0 fun d h' c'=>Frm h h' c0/\SV h' c0 c' d (vrs c):=by
  refine zcG za8 fn25 ?_;simp only[g25,rU];have q:=fun k=>zay (k:=k) (ans58 c hc)
  have hL:=zIy hc;have hv:=zr5 c;simp only[cqE]at q;generalize tsC c=L at q hL hv;simp -implicitDefEqProofs [rW,st0,zaj,za7,za4,q,zbO,zbW];refine zpP L (fun l t=>zdr l (tv t)) [] (fun n a s=>VP h c0 L a n s) (fun x s=>x= .exit 0/\∃n,VP h c0 L (vrs c) n s) ?_ ?_ _ ?_ ?_
  · rintro n a s hn ha ⟨d,⟨h7,h8,h9,h3⟩,hg,hc1,hF,hlw⟩;have hw:=zaC n (by omega);have hal:a.length≤544:=by
      have:=zoG (L.take n) [];rw[show zcL [] (L.take n)=a from ha.symm]at this;simp at this;omega
    rw[stepV];have m1:(1≤zat)=True:=zcJ (by omega);have m2:(16≤zat)=True:=zcJ (by omega);have m3:(a.length+1≤zat)=True:=zcJ (by omega);have m4:((a.length+1)*16≤zat)=True:=zcJ (by omega);have hlt:(a.length+1≤a.length)=False:=leF (by omega);generalize hT:L[n]=T
    by_cases hx:tv T=[]
    · simp -implicitDefEqProofs [rW,h7,h8,h9,h3,zbW,zcM,hn,hT,tmE,hx,hw];refine⟨d,?_,hg.up (by simp -implicitDefEqProofs [rW,]) fun id h1 h2=> ?_,by simp -implicitDefEqProofs [rW,];omega,fun x hx=> ?_,?_⟩
      · simp -implicitDefEqProofs [rW,h7,h8,h9,h3,hw]
      · have y:¬id=s.c:=by omega
        simp -implicitDefEqProofs [rW,y]
      · have y:¬x=s.c:=by omega
        simp -implicitDefEqProofs [rW,y];exact hF x hx
      · simp -implicitDefEqProofs [rW,]
        repeat refine Nat.le_trans (zbv _ _).1 ?_
        omega
    · have hx':tv T≠[]:=hx;simp -implicitDefEqProofs [rW,h7,h8,h9,h3,zbW,zcM,hn,hT,tmE,hx];refine zdg (d:= .f (.b (a.any (· ==tv T)))) ?_ ?_ ?_
      · simp only[rG];refine ro33 a (tv T) (by omega) (.inr ⟨c0+1,s.c,hg.gro.elim .inl fun⟨id,ro,h1,h2,h3,h4⟩ => .inr ⟨id,ro,h1,h2,?_,h4⟩⟩);have y:¬id=s.c:=by omega
        simp[Vse.T.zad,y,h3]
      · simp only[rG]
        repeat refine Nat.le_trans (zbv _ _).1 ?_
        omega
      intro mx;have tail:∀(H:Vse.T Ob) (x:Nat),x<c0->(∀x,x<s.c->H.get x=s.h.get x)->H.get x=h.get x:=fun H x hx hH=>by
        rw[hH x (by omega)];exact hF x hx
      rcases hg with⟨rfl,rfl⟩ |⟨id,rfl,hne,hid,hlid,hidc⟩
      · simp -implicitDefEqProofs [rW,h7,h8,h9,h3,m1,m2,hx,hw];refine⟨_,?_,.inr ⟨s.c+1,rfl,by simp,?_,by omega,?_⟩,?_,fun x hx=> ?_,?_⟩
        · simp -implicitDefEqProofs [rW,h7,h8,h9,hw]
        · simp -implicitDefEqProofs [rW,za3]
        · simp -implicitDefEqProofs [rW,]
        · simp -implicitDefEqProofs [rW,];omega
        · have y:¬x=s.c:=by omega
          have y1:¬x=s.c+1:=by omega
          simp -implicitDefEqProofs [rW,y,y1];exact hF x hx
        · simp -implicitDefEqProofs [rW,]
          repeat refine Nat.le_trans (zbv _ _).1 ?_
          omega
      · have hic:¬id=s.c:=by omega
        have hci:¬s.c=id:=by omega
        have hidc':id<s.c+1:=by omega
        generalize hb:a.any (· ==tv T)=b;cases b with
        | true=>
          have hm:tv T∈a:=by simpa using hb
          simp -implicitDefEqProofs [rW,h7,h8,h9,h3,hw,hx,hm];refine⟨_,?_,.inr ⟨id,rfl,hne,?_,by omega,?_⟩,?_,fun x hx=> ?_,?_⟩
          · simp -implicitDefEqProofs [rW,h7,h8,h9,h3,hw]
          · simp -implicitDefEqProofs [rW,hic,hid]
          · simp -implicitDefEqProofs [rW,];omega
          · simp -implicitDefEqProofs [rW,];omega
          · have y:¬x=s.c:=by omega
            simp -implicitDefEqProofs [rW,y];exact hF x hx
          · simp -implicitDefEqProofs [rW,]
            repeat refine Nat.le_trans (zbv _ _).1 ?_
            omega
        | false=>
          have hm:¬tv T∈a:=fun h=>by simp at hb;exact hb _ h rfl
          simp -implicitDefEqProofs [rW,h7,h8,h9,h3,hid,zeI,hic,hci,hidc',m3,m4,hlt,hx,hw,hm];have hl1:(a++[tv T]).length=a.length+1:=by simp
          refine⟨by omega,_,?_,.inr ⟨s.c+1,by rw[hl1],by simp,?_,by omega,?_⟩,?_,fun x hx=> ?_,?_⟩
          · simp -implicitDefEqProofs [rW,h7,h8,h9,h3,hw]
          · simp -implicitDefEqProofs [rW,za3]
          · simp -implicitDefEqProofs [rW,]
          · simp -implicitDefEqProofs [rW,];omega
          · have y:¬x=s.c:=by omega
            have y1:¬x=s.c+1:=by omega
            have y2:¬x=id:=by omega
            simp -implicitDefEqProofs [rW,y,y1,y2];exact hF x hx
          · simp -implicitDefEqProofs [rW,]
            repeat refine Nat.le_trans (zbv _ _).1 ?_
            omega
  · rintro s ⟨d,⟨h7,h8,h9,h3⟩,hg,hc1,hF,hlw⟩;rw[hv]at hg;simp -implicitDefEqProofs [rW,h7,h8,h9,h3];refine⟨L.length,d,?_,hg,hc1,hF,hlw⟩;simp -implicitDefEqProofs [rW,h7,h8,h9,h3]
  · refine⟨.f .nils,?_,.inl ⟨rfl,rfl⟩,?_,fun x hx=> ?_,?_⟩
    · simp -implicitDefEqProofs [rW,]
    · simp -implicitDefEqProofs [rW,]
    · have y:¬x=c0:=by omega
      simp -implicitDefEqProofs [rW,y]
    · simp -implicitDefEqProofs [rW,]
      repeat refine Nat.le_trans (zbv _ _).1 ?_
      omega
  · rintro x s ⟨rfl,n,d,⟨h7,h8,h9,h3⟩,hg,hc1,hF,hlw⟩;simp -implicitDefEqProofs [rW,h3,zbR];have hg2:SV s.h c0 s.c d (vrs c):=by
      rcases hg with h|⟨id,a1,a2,a3,a4,a5⟩
      · exact .inl h
      · exact .inr ⟨id,a1,a2,a3,by omega,a5⟩
    refine⟨⟨hF,hg2⟩,fun _ hf=>⟨fun _ _=>rfl,?_⟩⟩;rcases hg with h|⟨id,rfl,-⟩
    · exact .inl h
    · cases hf
theorem zCI(c:CQ)(hc:CqSm c):Ans pr 25 [.ag (cqF c)] (zav (vrs c)):=by
 obtain⟨q,h1,⟨-,h2⟩,-⟩ :=zDv c hc (h:= .e) (c0:=0);obtain⟨rd,hz⟩ :=zG9 h2.gro;exact⟨q,rd,by simpa [F.dL,cqE,F.d,za7,za4]using h1,hz⟩
def iE(l:List Nat):List (List D):=l.map fun n:Nat=>[D.f (.i .i64 (n:Int))]
theorem zyt(l:List Nat):(iE l).length=l.length:=by simp[iE]
end Go.Proofs.YtmnkdfjljkhneaaGreat
end
