/- Small functions, the form of queries. -/
import Derived.Test.YtmnkdfjljkhneaaGreatHa
import Derived.Test.YtmnkdfjljkhneaaGreatPr
import Derived.KernelRfl
import Derived.IntWalk
import Derived.Test.YtmnkdfjljkhneaaGreatAll
import Derived.Test.YtmnkdfjljkhneaaGreatHb
set_option linter.all false
section
namespace Go.Proofs.YtmnkdfjljkhneaaGreat
open Go Go.Vse Go.Vse.Sm
set_option maxRecDepth 100000
set_option maxHeartbeats 1000000
set_option linter.all false
def zh7(a b:Str):Int:=if Go.Op.bytesLess a b=true then -1 else if a=b then 0 else 1
def zeI(a b:Int):Int:=if a=b then 0 else if a<b then -1 else 1
def tv:Trm->Str
 | .var s=>s
 | .cst _=>[]
def tk:Trm->Int
 | .var _=>0
 | .cst _=>1
def tn:Trm->Int
 | .var _=>0
 | .cst n=>n
theorem tmE(t:Trm):tmF t=[.s (tv t),.i .i64 (tk t),.i .i64 (tn t),.s []]:=by cases t<;>rfl
def tOrd:Trm->Trm->Int
 | .cst a,.cst b=>zeI a b
 | .cst _,.var _=> -1
 | .var _,.cst _=>1
 | .var a,.var b=>zh7 a b
def tSame(a b:Trm):Bool:=tOrd a b==0
def zbO(l:List Trm):F:=slc 4 (l.map tmF)
theorem wrap_i64(n:Int)(h:0≤n)(h2:n<9223372036854775808):IntKind.i64.wrap n=n:=IntWalk.i64_in n (by omega)
theorem zaB(n:Nat)(h:n<1000000):IntKind.i64.wrap ((n:Int)+1)=((n+1:Nat):Int):=wrap_i64 _ (by omega) (by omega)
theorem zbl(l:List Str):(zaw l).d= .f (zaw l):=zju ..
theorem zcA(l:List Str):zco (.f (zaw l))=some l.length:=by simp[zaw,zfW]
theorem ziw(l:List Str)(n:Nat):iaB 1 (.f (zaw l)) n=(l[n]?).map fun s=>D.fptr [.s s]:=by simp[zaw,zgK,Function.comp_def]
theorem zc0(l:List Trm):(zbO l).d= .f (zbO l):=zju ..
theorem zcw(l:List Trm):zco (.f (zbO l))=some l.length:=by simp[zbO,zfW]
theorem zcG(l:List Trm)(n:Nat):iaB 4 (.f (zbO l)) n=(l[n]?).map fun t=>D.fptr (tmF t):=by simp[zbO,zgK,Function.comp_def]
theorem zjP(a b:Int):(zeI a b==0)=decide (a=b):=by
 unfold zeI
 by_cases h:a=b
 ·simp[h]
 ·simp only[h,if_false,decide_false];split<;>rfl
theorem zFJ(a b:Int):(zeI a b != 0)=decide (a≠b):=by
 rw[bne,zjP];simp
theorem zkP(a b:Int):(zeI a b<0)=(a<b):=by
 unfold zeI
 by_cases h:a=b
 ·simp[h]
 ·simp only[h,if_false];split<;>simp_all
theorem zFG(a b:Int):(zeI a b≤0)=(a≤b):=by
 unfold zeI
 by_cases h:a=b
 ·simp[h]
 ·simp only[h,if_false];split
  ·simp;omega
  ·simp;omega
def zaR(c:CQ):F:=csF c
def zaO(c:CQ):F:=Sm.asF c
theorem za2(c:CQ):(zaR c).d= .f (zaR c):=by
 unfold zaR csF;split
 ·rfl
 ·exact zju ..
theorem zci(c:CQ):zco (.f (zaR c))=some c.cs.length:=by
 unfold zaR csF;split
 ·rename_i h;rw[h.2];rfl
 ·simp[zfW]
theorem zdo(c:CQ)(n:Nat):iaB 9 (.f (zaR c)) n=(c.cs[n]?).map fun t=>D.fptr (cmF t):=by
 unfold zaR csF;split
 ·rename_i h;rw[h.2];rfl
 ·simp[zgK,Function.comp_def]
theorem za4(c:CQ):(zaO c).d= .f (zaO c):=by
 unfold zaO Sm.asF;split
 ·rfl
 ·exact zju ..
theorem zdr(c:CQ):zco (.f (zaO c))=some c.as.length:=by
 unfold zaO Sm.asF;split
 ·rename_i h;rw[h.2];rfl
 ·simp[zfW]
theorem zeu(c:CQ)(n:Nat):iaB 3 (.f (zaO c)) n=(c.as[n]?).map fun t=>D.fptr (atF t):=by
 unfold zaO Sm.asF;split
 ·rename_i h;rw[h.2];rfl
 ·simp[zgK,Function.comp_def]
theorem cqE(c:CQ):cqF c=[zaO c,zaR c]:=rfl
theorem atE(a:Atm):atF a=[.s a.r,.b a.neg,zbO a.ts]:=rfl
def zcX(l:List Trm):List (List D):=(l.map tmF).map fun a=>a.map D.f
theorem ztL(h:Nat->Option Ob)(k:Nat)(l:List Trm):zaH (frz h (k+1)) (zcX l)=some (l.map tmF,[]):=zhH h k _
theorem znZ(l:List Trm):(zcX l).length=l.length:=by simp[zcX]
theorem zxe(h:Nat->Option Ob)(l:List Trm):elemsOf 4 h (.f (zbO l))=some (zcX l,[]):=by
 cases l with
 |nil=>rfl
 |cons a l=>rfl
def zjH:List Trm->Trm->List Trm
 |[],t=>[t]
 |a::l,t=>if tOrd a t<0 then a::zjH l t else if tSame a t=true then a::l else t::a::l
theorem ztJ(l m:List Trm):zcX l++zcX m=zcX (l++m):=by simp[zcX]
theorem zFf{l:List Trm}{t:Trm}(hl:∀a∈l,zax a)(ht:zax t):∀a∈zjH l t,zax a:=by
 induction l with
 |nil=>intro a ha;simp[zjH]at ha;rw[ha];exact ht
 |cons b l ih=>
  intro a ha;unfold zjH at ha;split at ha
  ·rcases List.mem_cons.1 ha with h|h
   ·rw[h];exact hl b (by simp)
   ·exact ih (fun x hx=>hl x (by simp[hx])) a h
  ·split at ha
   ·exact hl a ha
   ·rcases List.mem_cons.1 ha with h|h
    ·rw[h];exact ht
    ·exact hl a h
theorem zzx(l:List Trm)(t:Trm):(zjH l t).length≤l.length+1:=by
 induction l with
 |nil=>simp[zjH]
 |cons b l ih=>
  unfold zjH;split
  ·simp;exact ih
  ·split<;>simp
def zzw(n:Nat)(l:List Trm):Prop:=(∀a∈l,zax a)/\l.length≤n
theorem zzw.add{n:Nat}{l:List Trm}{t:Trm}(h:zzw n l)(ht:zax t):zzw (n+1) (zjH l t):=⟨zFf h.1 ht,Nat.le_trans (zzx l t) (by have:=h.2;omega)⟩
theorem za5:zo6 pr:=zzS zqH
def zdU(l:List Str)(s:Str):List Str:=if s=[]\/l.any (· ==s)=true then l else l++[s]
def za1(l:List Str):List (List D):=l.map fun s=>[D.f (.s s)]
theorem zeL(l:List Str):(za1 l).length=l.length:=by simp[za1]
theorem zy4(l:List Str):(za1 l).take l.length=za1 l:=by rw[<-zeL l,List.take_length]
theorem zrt(h:Nat->Option Ob)(k:Nat)(l:List Str):zaH (frz h (k+1)) (za1 l)=some (l.map fun s=>[F.s s],[]):=zCZ h k F.s l
theorem zru{l:List Str}(h:l≠[]):F.sl 1 (l.map fun s=>[F.s s])=zaw l:=zcM (by simpa using h)
theorem zlR{l:List Str}(h:za1 l=[]):l=[]:=by simpa [za1]using h
def zdk(l:List Str)(ts:List Trm):List Str:=ts.foldl (fun l t=>zdU l (tv t)) l
def vrs(c:CQ):List Str:=c.cs.foldl (fun l k=>zdU (zdU l (tv k.l)) (tv k.r)) (c.as.foldl (fun l a=>zdk l a.ts) [])
theorem zll(l:List Str)(s:Str):(zdU l s).length≤l.length+1:=by
 unfold zdU;split
 ·omega
 ·simp
theorem zn6(ts:List Trm):∀l:List Str,(zdk l ts).length≤l.length+ts.length:=by
 unfold zdk
 induction ts with
 |nil=>intro l;simp
 |cons t ts ih=>
  intro l;have h1:=zll l (tv t);have h2:=ih (zdU l (tv t));simp only[List.foldl_cons,List.length_cons];omega
theorem zFn{l:List Atm}(hl:∀a∈l,a.ts.length≤12):∀x:List Str,(l.foldl (fun l a=>zdk l a.ts) x).length≤x.length+12*l.length:=by
 induction l with
 |nil=>intro x;simp
 |cons a l ih=>
  intro x;have h1:=zn6 a.ts x;have h2:=hl a (by simp);have h3:=ih (fun b hb=>hl b (by simp[hb])) (zdk x a.ts);simp only[List.foldl_cons,List.length_cons];omega
theorem zFT(l:List Cm):∀x:List Str,(l.foldl (fun l k=>zdU (zdU l (tv k.l)) (tv k.r)) x).length≤x.length+2*l.length:=by
 induction l with
 |nil=>intro x;simp
 |cons a l ih=>
  intro x;have h1:=zll x (tv a.l);have h2:=zll (zdU x (tv a.l)) (tv a.r);have h3:=ih (zdU (zdU x (tv a.l)) (tv a.r));simp only[List.foldl_cons,List.length_cons];omega
theorem ztU{c:CQ}(hc:CqSm c):(vrs c).length≤544:=by
 have h1:=zFn hc.st [];have h2:=zFT c.cs (c.as.foldl (fun l a=>zdk l a.ts) []);have:=hc.sa;have:=hc.sc;unfold vrs;simp at h1;omega
theorem zsM{h:T Ob}{lo c es k:Nat}{d:D}{els:List (List D)}{L:List (List F)}(hg:Gro h lo c es d els)(hf:zaH (frz h.get k) els=some (L,[]))(hL:L=[]↔els=[]):∃rd,frz h.get (k+1) d=some (slc es L,rd):=by
 rcases hg with⟨rfl,rfl⟩ |⟨id,ro,rfl,he,ho,hr,hl,hc⟩
 ·rw[hL.2 rfl];exact⟨[],rfl⟩
 ·refine⟨[id],?_⟩;rw[zdv,ho,zaT,zcS];simp only[true_and,Nat.zero_add,Nat.le_refl,if_true,List.drop_zero,List.take_length,hf,zaT];rw[zcM (fun e=>he (hL.1 e))]
theorem zGi{h:T Ob}{lo c:Nat}{d:D}{l:List Str}(hg:Gro h lo c 1 d (za1 l)):∃rd,frz h.get 12 d=some (zaw l,rd):=
 zsM (k:=11) hg (zrt _ 10 l) (by simp[za1])
theorem zbN{h:T Ob}{lo c es:Nat}{d:D}{els:List (List D)}(hg:Gro h lo c es d els){i:Nat}(hi:i<lo):d.oid≠some i:=by
 rcases hg with⟨rfl,_⟩ |⟨id,ro,rfl,_,_,_,hl,_⟩
 ·simp[D.oid]
 ·simp[D.oid];omega
theorem fn128:pr.fn 128=some g128:=by kernel_rfl
theorem fn129:pr.fn 129=some zu6:=by kernel_rfl
theorem fn81:pr.fn 81=some g81:=by kernel_rfl
theorem fn82:pr.fn 82=some g82:=by kernel_rfl
theorem fn83:pr.fn 83=some g83:=by kernel_rfl
theorem fn80:pr.fn 80=some g80:=by kernel_rfl
theorem fn44:pr.fn 44=some g44:=by kernel_rfl
theorem fn115:pr.fn 115=some zu1:=by kernel_rfl
theorem fn65:pr.fn 65=some g65:=by kernel_rfl
theorem fn33:pr.fn 33=some g33:=by kernel_rfl
theorem fn58:pr.fn 58=some g58:=by kernel_rfl
theorem fn25:pr.fn 25=some g25:=by kernel_rfl
def qsF(l:List CQ):F:=slc 2 (l.map cqF)
theorem zlI(l:List CQ):(qsF l).d= .f (qsF l):=zju ..
theorem zfa(l:List CQ):zco (.f (qsF l))=some l.length:=by simp[qsF,zfW]
theorem zgV(l:List CQ)(n:Nat):iaB 2 (.f (qsF l)) n=(l[n]?).map fun c=>D.fptr (cqF c):=by simp[qsF,zgK,Function.comp_def]
theorem zJ3{f:Nat}{args:List D}{h:T Ob}{c:Nat}{x:F}(h1:pr.fn f=none)(h2:pr.ext f args=some x):RO pr f args h c x.d:=by
 refine⟨c,Nat.le_refl _,1,fun n hn=> ?_⟩;obtain⟨m,rfl⟩ :∃m,n=m+1:=⟨n - 1,by omega⟩
 simp only[zcj,h1,h2]
theorem zsm:∀a b:Str,Go.Lib.compareBytes a b=zh7 a b
 |[],[]=>rfl
 |[],b::l=>by simp[Go.Lib.compareBytes,zh7,Go.Op.bytesLess]
 |a::l,[]=>by simp[Go.Lib.compareBytes,zh7,Go.Op.bytesLess]
 |a::l,b::m=>by
  have ih:=zsm l m;unfold Go.Lib.compareBytes zh7 Go.Op.bytesLess
  by_cases h1:a<b
  ·simp[h1]
  ·by_cases h2:b<a
   ·have h3:a≠b:=fun e=>by subst e;exact h1 h2
    simp[h1,h2,h3]
   ·have h3:a=b:=UInt8.le_antisymm (UInt8.not_lt.1 h2) (UInt8.not_lt.1 h1);subst h3;simp only[h1,if_false,ih,zh7];simp
theorem ro130(a b:Str)(h:T Ob)(c:Nat):RO pr 130 [.f (.s a),.f (.s b)] h c (.f (.i .i64 (zh7 a b))):=by
 have:=zJ3 (h:=h) (c:=c) (f:=130) (args:=[.f (.s a),.f (.s b)]) (x:= .i .i64 (Go.Lib.compareBytes a b)) (by kernel_rfl) rfl;rw[zsm]at this;exact this
theorem zwE(a:Int):Ans pr 128 [.i .i64 a] (.b false):=by
 refine zcQ fn128 ?_;simp only[g128,rU];simp -implicitDefEqProofs [rW,st0,zal]
theorem zwG(a:Int):Ans pr 129 [.i .i64 a] (.b false):=by
 refine zcQ fn129 ?_;simp only[zu6,rU];simp -implicitDefEqProofs [rW,st0,zal]
theorem ans81(a b:Int):Ans pr 81 [.i .i64 a,.i .i64 b] (.i .i64 (zeI a b)):=by
 refine zcQ fn81 ?_;simp only[g81,rU];have q1:=fun k=>zaC (k:=k) (zwE a)
 have q2:=fun k=>zaC (k:=k) (zwE b)
 unfold zeI
 by_cases h1:a<b
 ·have h2:¬a=b:=by omega
  simp -implicitDefEqProofs [rW,st0,zal,q1,q2,h1,h2]
 ·by_cases h2:b<a
  ·have h3:¬a=b:=by omega
   simp -implicitDefEqProofs [rW,st0,zal,q1,q2,h1,h2,h3]
  ·have h3:a=b:=by omega
   simp -implicitDefEqProofs [rW,st0,zal,q1,q2,h1,h2,h3]
theorem ans82(a b:Int):Ans pr 82 [.i .i64 a,.i .i64 b] (.i .i64 (zeI a b)):=by
 refine zcQ fn82 ?_;simp only[g82,rU];have q1:=fun k=>zaC (k:=k) (zwG a)
 have q2:=fun k=>zaC (k:=k) (zwG b)
 unfold zeI
 by_cases h1:a<b
 ·have h2:¬a=b:=by omega
  simp -implicitDefEqProofs [rW,st0,zal,q1,q2,h1,h2]
 ·by_cases h2:b<a
  ·have h3:¬a=b:=by omega
   simp -implicitDefEqProofs [rW,st0,zal,q1,q2,h1,h2,h3]
  ·have h3:a=b:=by omega
   simp -implicitDefEqProofs [rW,st0,zal,q1,q2,h1,h2,h3]
theorem ans83(a b:Str):Ans pr 83 [.s a,.s b] (.i .i64 (zh7 a b)):=by
 refine zcQ fn83 ?_;simp only[g83,rU];simp -implicitDefEqProofs [rW,st0,zal];refine zdn (ro130 a b _ _) ?_ ?_
 ·simp only[rG];omega
 ·intro mx;simp -implicitDefEqProofs [rW,st0,zal]
theorem ans80(a b c:Int):Ans pr 80 [.sl 1 [[.i .i64 a],[.i .i64 b],[.i .i64 c]]] (.i .i64 (if a≠0 then a else if b≠0 then b else c)):=by
 refine zcQ fn80 ?_;simp only[g80,rU];have w1:IntKind.i64.wrap 1=1:=rfl;have w2:IntKind.i64.wrap 2=2:=rfl;have w3:IntKind.i64.wrap 3=3:=rfl;simp -implicitDefEqProofs [rW,st0,zal];refine round ?_
 by_cases ha:a=0
 ·by_cases hb:b=0
  ·simp -implicitDefEqProofs [rW,ha,hb,w1];refine round ?_;simp -implicitDefEqProofs [rW,ha,hb,w2];refine round ?_
   by_cases hc:c=0
   ·simp -implicitDefEqProofs [rW,hc,w3];refine round ?_;simp -implicitDefEqProofs [rW,hc]
   ·simp -implicitDefEqProofs [rW,hc]
  ·simp -implicitDefEqProofs [rW,ha,hb,w1];refine round ?_;simp -implicitDefEqProofs [rW,hb]
 ·simp -implicitDefEqProofs [rW,ha]
theorem zuw(a b:Int):Ans pr 44 [.ag (vF a),.ag (vF b)] (.i .i64 (zeI a b)):=by
 refine zcQ fn44 ?_;simp only[g44,rU];have q1:=fun k=>zaC (k:=k) (ans81 1 1)
 have q2:=fun k=>zaC (k:=k) (ans82 a b)
 have q3:=fun k=>zaC (k:=k) (ans83 [] [])
 have q4:=fun k=>zaC (k:=k) (ans80 (zeI 1 1) (zeI a b) (zh7 [] []))
 rw[(show zeI 1 1=0 from rfl)]at q1 q4;rw[(show zh7 [] []=0 from rfl)]at q3 q4;have e:(if(0:Int)≠0 then 0 else if zeI a b≠0 then zeI a b else 0)=zeI a b:=by
  simp only[ne_eq,not_true_eq_false,if_false];split
  ·rfl
  ·rename_i h;simp at h;exact h.symm
 rw[e]at q4;simp -implicitDefEqProofs [rW,st0,zal,vF];refine zcI ?_;simp -implicitDefEqProofs [rW,st0,zal,vF,q1,q2,q3,q4]
theorem zic(a b:Trm)(ha:zax a)(hb:zax b):Ans pr 115 [.ag (tmF a),.ag (tmF b)] (.b (decide (a=b))):=by
 refine zcQ fn115 ?_;simp only[zu1,rU];cases a with
 |cst a=>
  cases b with
  |cst b=>
   have q:=fun k=>zaC (k:=k) (zuw a b)
   simp only[vF]at q;simp -implicitDefEqProofs [rR,st0,zal,tmF,q,zjP]
  |var b=>
   simp only[zax]at hb;simp -implicitDefEqProofs [rR,st0,zal,tmF,hb,Ne.symm hb]
 |var a=>
  simp only[zax]at ha;cases b with
  |cst b=>simp -implicitDefEqProofs [rR,st0,zal,tmF,ha]
  |var b=>
   simp -implicitDefEqProofs [rR,st0,zal,tmF,ha];exact Bool.eq_iff_iff.2 (by simp)
def ixP{α:Type}(l:List α)(p:α->Bool):Int:=match l.findIdx? p with
 |some n=>n
 |none=> -1
theorem zkW{α:Type}{l:List α}{p:α->Bool}(h:∀a∈l,p a=false):ixP l p= -1:=by
 have:l.findIdx? p=none:=List.findIdx?_eq_none_iff.2 h;simp[ixP,this]
theorem zj8{α:Type}{l:List α}{p:α->Bool}{n:Nat}(h:n<l.length)(h1:p l[n]=true)(h2:∀m (h':m<n),p (l[m]'(by omega))=false):ixP l p=n:=by
 have:l.findIdx? p=some n:=by
  rw[List.findIdx?_eq_some_iff_getElem];exact⟨h,h1,fun j hj=>by simpa using h2 j hj⟩
 simp[ixP,this]
theorem zmD{α:Type}(l:List α)(p:α->Bool):decide (ixP l p≥0)=l.any p:=by
 cases h:l.any p with
 |true=>
  unfold ixP;cases h2:l.findIdx? p with
  |some n=>simp
  |none=>rw[List.findIdx?_eq_none_iff]at h2;simp at h;obtain⟨x,hx,hp⟩ :=h;rw[h2 x hx]at hp;cases hp
 |false=>
  have:=zkW (l:=l) (p:=p) (by simpa using h);simp[this]
theorem zzJ(l:List Str)(x:Str):l.any (x== ·)=l.any (· ==x):=by
  congr 1;funext a;exact Bool.beq_comm
def RdV(h:T Ob)(d:D)(l:List Str):Prop:=d= .f (zaw l)\/∃lo c,Gro h lo c 1 d (za1 l)
theorem ztd{h:T Ob}{d:D}{l:List Str}(H:RdV h d l):zco d=some l.length:=by
 rcases H with rfl|⟨lo,c,H⟩
 ·exact zcA l
 ·rw[znG H,zeL]
theorem zye{h:T Ob}{d:D}{l:List Str}(H:RdV h d l){n:Nat}(hn:n<l.length):∃p rd,iaB 1 d n=some p/\zbr false 1 h.get p=some (.f (.s l[n]),rd):=by
 rcases H with rfl|⟨lo,c,H⟩
 ·exact⟨.fptr [.s l[n]],[],by rw[ziw,List.getElem?_eq_getElem hn];rfl,rfl⟩
 ·rcases H with⟨rfl,e⟩ |⟨id,ro,rfl,-,hg,-,h1,h2⟩
  ·have:=zlR e;rw[this]at hn;simp at hn
  ·refine⟨.ptr id 1 n 0,[id],by simp[zhJ,zeL,hn],?_⟩;have:(za1 l)[n]? =some [.f (.s l[n])]:=by simp[za1,hn]
   simp[zAk,hg,zaT,znK,this,zAr]
theorem ro65(l:List Str)(x:Str)(hl:l.length<1000000){h:T Ob}{c:Nat}{d:D}(H:RdV h d l):RO pr 65 [d,.f (.s x)] h c (.f (.i .i64 (ixP l (x== ·)))):=by
 refine zd0 za5 fn65 rfl ?_;simp only[g65,rU];simp -implicitDefEqProofs [rW,st0,zal,ztd H];refine zeS l (x== ·) (fun n s=>(s.tm.get 0=some (d)/\s.tm.get 1=some (.f (.s x))/\s.tm.get 7=some (.f (.i .i64 l.length))/\s.tm.get 8=some (.f (.i .i64 n)))/\s.h=h/\s.c=c/\s.lw=c) (fun x s=>x= .exit 0/\s.lw=c) (fun n y s=>y= .ret/\s.tm.get 4=some (.f (.i .i64 n))/\s.lw=c) ?_ ?_ _ ?_ ?_ ?_
 ·rintro n s hn ⟨⟨h0,h1,h7,h8⟩,eh,ec,el⟩;have hw:=zaB n (by omega);obtain⟨p,rd,hp,hr⟩ :=zye H hn
  by_cases he:x=l[n]
  ·simp -implicitDefEqProofs [rW,h0,h1,h7,h8,hn,hp,hr,he,eh,el]
  ·simp -implicitDefEqProofs [rW,h0,h1,h7,h8,hn,hp,hr,he,hw,eh,ec,el]
 ·rintro s ⟨⟨h0,h1,h7,h8⟩,eh,ec,el⟩;simp -implicitDefEqProofs [rW,h0,h1,h7,h8,el]
 ·simp -implicitDefEqProofs [rW,st0,zal]
 ·rintro h z s ⟨rfl,el⟩;rw[zkW h];simp -implicitDefEqProofs [rW,zaS,el]
 ·rintro n hn hp hm z s ⟨rfl,h4,el⟩;rw[zj8 hn hp hm];simp -implicitDefEqProofs [rW,h4,zaS,el]
theorem ro33(l:List Str)(x:Str)(hl:l.length<1000000){h:T Ob}{c:Nat}{d:D}(H:RdV h d l):RO pr 33 [d,.f (.s x)] h c (.f (.b (l.any (· ==x)))):=by
  refine zd0 za5 fn33 rfl ?_;simp only[g33,rU];have e:=zmD l (x== ·);rw[zzJ]at e;rw[<-e];simp -implicitDefEqProofs [rW,st0,zal];refine zdn (d:= .f (.i .i64 (ixP l (x== ·)))) ?_ ?_ ?_
  · simp only[rG];exact ro65 l x hl H
  · simp only[rG];omega
  · intro mx;simp -implicitDefEqProofs [rW,zaS]
theorem zIH{f:Nat}{fs:List F}{x:F}{args:List D}(e:F.dL fs=args)(h:RO pr f args .e 0 (.f x)):Ans pr f fs x:=by
 obtain⟨mx,-,hc⟩ :=h;rw[<-e]at hc;exact⟨_,[],hc,rfl⟩
theorem zuv(l:List Str)(x:Str)(hl:l.length<1000000):Ans pr 33 [zaw l,.s x] (.b (l.any (· ==x))):=
  zIH (by rw[F.dL,F.dL,F.dL,zbl];rfl) (ro33 l x hl (.inl rfl))
def zmB(l:List Nat):F:=slc 1 (l.map fun n:Nat=>[F.i .i64 (n:Int)])
theorem zAh(l:List Nat):zco (.f (zmB l))=some l.length:=by simp[zmB,zfW]
theorem zGp(l:List Nat)(n:Nat):iaB 1 (.f (zmB l)) n=(l[n]?).map fun k:Nat=>D.fptr [F.i .i64 (k:Int)]:=by simp[zmB,zgK,Function.comp_def]
def tsA(c:CQ):List Trm:=c.as.flatMap (·.ts)
def ts2(k:Cm):List Trm:=[k.l,k.r]
def tsC(c:CQ):List Trm:=tsA c++c.cs.flatMap ts2
def T1(c:CQ)(l:List Trm)(n:Nat)(s:St):Prop:=∃d,s.tm.get 1=some (.ptr 0 2 0 0)/\s.tm.get 11=some (.f (.i .i64 n))/\s.tm.get 9=some (.f (zaO c))/\s.tm.get 10=some (.f (.i .i64 c.as.length))/\s.tm.get 3=some (d)/\s.h.get 0=some (.arr 2 0 [[.f (zaO c),.f (zaR c)]])/\Gro s.h 1 s.c 4 d (zcX l)/\1≤s.c
def T2(c:CQ)(l:List Trm)(n:Nat)(s:St):Prop:=∃d,s.tm.get 23=some (.f (.i .i64 n))/\s.tm.get 21=some (.f (zaR c))/\s.tm.get 22=some (.f (.i .i64 c.cs.length))/\s.tm.get 3=some (d)/\Gro s.h 1 s.c 4 d (zcX l)/\1≤s.c
theorem zii{α β:Type}(f:α->List β)(m:Nat):∀(l:List α),(∀a∈l,(f a).length≤m)->(l.flatMap f).length≤m*l.length
 |[],_=>by simp
 |a::l,h=>by
  have h1:=h a (by simp);have h2:=zii f m l fun b hb=>h b (by simp[hb])
  rw[List.flatMap_cons,List.length_append,List.length_cons,Nat.mul_add];omega
theorem zHP{c:CQ}(hc:CqSm c):(tsC c).length≤424:=by
 have h1:=zii (·.ts) 2 c.as hc.s2;have h2:=zii ts2 2 c.cs (by simp[ts2]);have:=hc.sa;have:=hc.sc;simp only[tsC,tsA,List.length_append];omega
theorem zhs{α β:Type}(f:α->List β):∀(l:List α) (x:List β),l.foldl (fun x a=>x++f a) x=x++l.flatMap f
 |[],x=>by simp
 |a::l,x=>by rw[List.foldl_cons,zhs f l,List.flatMap_cons,List.append_assoc]
theorem zGj{h:T Ob}{lo c:Nat}{d:D}{l:List Trm}(hg:Gro h lo c 4 d (zcX l)):∃rd,frz h.get 12 d=some (zbO l,rd):=
 zsM (k:=11) hg (ztL _ 10 l) (by simp[zcX])
theorem ans58(c:CQ)(hc:CqSm c):Ans pr 58 [.ag (cqF c)] (zbO (tsC c)):=by
 refine zcQ fn58 ?_;simp only[g58,rU];simp -implicitDefEqProofs [rW,st0,zal,cqE,za4,za2,zdr];refine zpi c.as (fun x a=>x++a.ts) [] (fun n a s=>T1 c a n s) (fun x s=>x= .exit 0/\∃n,T1 c (tsA c) n s) ?_ ?_ _ ?_ ?_
 ·rintro n a s hn ha ⟨d,h1,h11,h9,h10,h3,g0,hg,hc1⟩;have hw:=zaB n (by have:=hc.sa;omega);have hal:a.length≤144:=by
   rw[zhs,List.nil_append]at ha;have:=zii (fun a:Atm=>a.ts) 12 (c.as.take n) fun b hb=>hc.st b (List.mem_of_mem_take hb)
   rw[<-ha]at this;have:=hc.sa;simp at*;omega
  have hst:=hc.st _ (List.getElem_mem hn);generalize hA:c.as[n]=A at hst⊢;simp -implicitDefEqProofs [rW,h1,h11,h9,h10,h3,g0,zdr,zeu,hn,hA,atE,zc0,zxe];refine zxy (za9 (c':=s.c+1) hg (by omega) fun id _ h2=> ?_) (by omega) (by simp only[znZ];omega) (by omega) ?_
  ·rw[Vse.T.zad,if_neg (by omega),Vse.T.zad,if_neg (by omega)]
  ·intro r hr1 hr2 hr3 hr4 _ _;have e0:=hr4 0 (by omega) (zbN hg (by omega));have c0:¬0=s.c:=by omega
   rw[Vse.T.zad,if_neg c0,Vse.T.zad,if_neg c0]at e0;refine⟨hr1,?_⟩;simp -implicitDefEqProofs [rW,h1,h11,h9,h10,h3,g0,e0,hw,T1];rw[<-ztJ];exact⟨hr2,by omega⟩
 ·rintro s ⟨d,h1,h11,h9,h10,h3,g0,hg,hc1⟩;rw[zhs,List.nil_append]at hg;simp -implicitDefEqProofs [rW,h1,h11,h9,h10,h3,g0,zdr,T1,hc1];exact⟨⟨_,rfl⟩,hg⟩
 ·simp -implicitDefEqProofs [rW,T1];exact .inl ⟨rfl,rfl⟩
 ·rintro x s ⟨rfl,n,d,h1,h11,h9,h10,h3,g0,hg,hc1⟩;simp -implicitDefEqProofs [rW,h1,h11,h9,h10,h3,g0,zci];have hl0:(tsA c).length≤144:=by
   have:=zii (fun a:Atm=>a.ts) 12 c.as hc.st;have:=hc.sa;unfold tsA;omega
  refine zpi c.cs (fun x k=>x++ts2 k) (tsA c) (fun n a s=>T2 c a n s) (fun x s=>x= .exit 2/\∃n,T2 c (tsC c) n s) ?_ ?_ _ ?_ ?_
  ·rintro n a s hn ha ⟨d,h23,h21,h22,h3,hg,hc1⟩;have hw:=zaB n (by have:=hc.sc;omega);have hal:a.length≤544:=by
    rw[zhs]at ha;have:=zii ts2 2 (c.cs.take n) (by simp[ts2]);rw[ha,List.length_append];have:=hc.sc;simp at*;omega
   generalize hK:c.cs[n]=K;simp -implicitDefEqProofs [rW,h23,h21,h22,h3,zci,zdo,hn,hK,cmF,tmE];refine zxy (za9 (c':=s.c+1) hg (by omega) fun id _ h2=> ?_) (by omega) (by simp only[znZ];simp;omega) (by omega) ?_
   ·rw[Vse.T.zad,if_neg (by omega),Vse.T.zad,if_neg (by omega)]
   ·intro r hr1 hr2 hr3 hr4 _ _;refine⟨hr1,?_⟩;simp -implicitDefEqProofs [rW,h23,h21,h22,h3,hw,T2];rw[<-ztJ];simp only[ts2,zcX,List.map_cons,List.map_nil,tmE]at hr2⊢;exact⟨hr2,by omega⟩
  ·rintro s ⟨d,h23,h21,h22,h3,hg,hc1⟩;rw[zhs]at hg;simp -implicitDefEqProofs [rW,h23,h21,h22,h3,zci,T2,hc1];exact⟨⟨_,rfl⟩,hg⟩
  ·simp -implicitDefEqProofs [rW,h1,h11,h9,h10,h3,g0,T2,hc1,hg]
  ·rintro x s ⟨rfl,n,d,h23,h21,h22,h3,hg,hc1⟩;obtain⟨rd,hz⟩ :=zGj hg;simp -implicitDefEqProofs [rW,h3,hz]
theorem zjK(a b:List Trm)(x:List Str):zdk x (a++b)=zdk (zdk x a) b:=by simp[zdk]
theorem zze(c:CQ):(tsC c).foldl (fun l t=>zdU l (tv t)) []=vrs c:=by
 have h1:∀(l:List Atm) (x:List Str),zdk x (l.flatMap (·.ts))=l.foldl (fun l a=>zdk l a.ts) x:=by
  intro l
  induction l with
  |nil=>intro x;rfl
  |cons a l ih=>intro x;rw[List.flatMap_cons,zjK,ih];rfl
 have h2:∀(l:List Cm) (x:List Str),zdk x (l.flatMap ts2)=l.foldl (fun l k=>zdU (zdU l (tv k.l)) (tv k.r)) x:=by
  intro l
  induction l with
  |nil=>intro x;rfl
  |cons a l ih=>intro x;rw[List.flatMap_cons,zjK,ih];rfl
 show zdk [] (tsC c)=vrs c;unfold tsC vrs tsA;rw[zjK,h1,h2]
theorem stepV(l:List Str)(x:Str):zdU l x=if x≠[]/\¬(l.any (· ==x)=true)then l++[x]else l:=by
  unfold zdU
  by_cases h1:x=[]<;>by_cases h2:l.any (· ==x)=true<;>simp[h1,h2]
def SV(h:T Ob)(lo c:Nat)(d:D)(l:List Str):Prop:=(d= .f .nils/\l=[])\/∃id,d= .sl id 0 l.length 1 l.length false/\l≠[]/\h.get id=some (.arr 1 0 (za1 l))/\lo≤id/\id<c
theorem SV.gro{h:T Ob}{lo c:Nat}{d:D}{l:List Str}(H:SV h lo c d l):Gro h lo c 1 d (za1 l):=by
 rcases H with⟨rfl,rfl⟩ |⟨id,rfl,h1,h2,h3,h4⟩
 ·exact .inl ⟨rfl,rfl⟩
 ·exact .inr ⟨id,0,by rw[zeL],fun e=>h1 (zlR e),h2,Nat.zero_le _,h3,h4⟩
theorem SV.up{h h':T Ob}{lo c c':Nat}{d:D}{l:List Str}(H:SV h lo c d l)(hc:c≤c')(hh:∀x,lo≤x->x<c->h'.get x=h.get x):SV h' lo c' d l:=by
 rcases H with H|⟨id,h1,h2,h3,h4,h5⟩
 ·exact .inl H
 ·exact .inr ⟨id,h1,h2,by rw[hh id h4 h5];exact h3,h4,by omega⟩
def VP(h0:T Ob)(c0:Nat)(L:List Trm)(l:List Str)(n:Nat)(s:St):Prop:=∃d,(s.tm.get 7=some (.f (zbO L))/\s.tm.get 8=some (.f (.i .i64 L.length))/\s.tm.get 9=some (.f (.i .i64 n))/\s.tm.get 3=some (d))/\SV s.h (c0+1) s.c d l/\c0+1≤s.c/\Frm h0 s.h c0/\s.lw≤s.c
theorem zCL(c:CQ)(hc:CqSm c){h:T Ob}{c0:Nat}:Eff pr 25 [.ag [.f (zaO c),.f (zaR c)]] h c0 fun d h' c'=>Frm h h' c0/\SV h' c0 c' d (vrs c):=by
  refine zcJ za5 fn25 ?_;simp only[g25,rU];have q:=fun k=>zaC (k:=k) (ans58 c hc)
  have hL:=zHP hc;have hv:=zze c;simp only[cqE]at q;generalize tsC c=L at q hL hv;simp -implicitDefEqProofs [rW,st0,zal,za4,za2,q,zc0,zcw];refine zpi L (fun l t=>zdU l (tv t)) [] (fun n a s=>VP h c0 L a n s) (fun x s=>x= .exit 0/\∃n,VP h c0 L (vrs c) n s) ?_ ?_ _ ?_ ?_
  · rintro n a s hn ha ⟨d,⟨h7,h8,h9,h3⟩,hg,hc1,hF,hlw⟩;have hw:=zaB n (by omega);have hal:a.length≤544:=by
      have:=zn6 (L.take n) [];rw[show zdk [] (L.take n)=a from ha.symm]at this;simp at this;omega
    rw[stepV];have m1:(1≤zat)=True:=zcN (by omega);have m2:(16≤zat)=True:=zcN (by omega);have m3:(a.length+1≤zat)=True:=zcN (by omega);have m4:((a.length+1)*16≤zat)=True:=zcN (by omega);have hlt:(a.length+1≤a.length)=False:=leF (by omega);generalize hT:L[n]=T
    by_cases hx:tv T=[]
    · simp -implicitDefEqProofs [rW,h7,h8,h9,h3,zcw,zcG,hn,hT,tmE,hx,hw];refine⟨d,?_,hg.up (by simp -implicitDefEqProofs [rW,]) fun id h1 h2=> ?_,by simp -implicitDefEqProofs [rW,];omega,fun x hx=> ?_,?_⟩
      · simp -implicitDefEqProofs [rW,h7,h8,h9,h3,hw]
      · have y:¬id=s.c:=by omega
        simp -implicitDefEqProofs [rW,y]
      · have y:¬x=s.c:=by omega
        simp -implicitDefEqProofs [rW,y];exact hF x hx
      · simp -implicitDefEqProofs [rW,]
        repeat refine Nat.le_trans (zbD _ _).1 ?_
        omega
    · have hx':tv T≠[]:=hx;simp -implicitDefEqProofs [rW,h7,h8,h9,h3,zcw,zcG,hn,hT,tmE,hx];refine zdn (d:= .f (.b (a.any (· ==tv T)))) ?_ ?_ ?_
      · simp only[rG];refine ro33 a (tv T) (by omega) (.inr ⟨c0+1,s.c,hg.gro.elim .inl fun⟨id,ro,h1,h2,h3,h4⟩ => .inr ⟨id,ro,h1,h2,?_,h4⟩⟩);have y:¬id=s.c:=by omega
        simp[Vse.T.zad,y,h3]
      · simp only[rG]
        repeat refine Nat.le_trans (zbD _ _).1 ?_
        omega
      intro mx;have tail:∀(H:Vse.T Ob) (x:Nat),x<c0->(∀x,x<s.c->H.get x=s.h.get x)->H.get x=h.get x:=fun H x hx hH=>by
        rw[hH x (by omega)];exact hF x hx
      rcases hg with⟨rfl,rfl⟩ |⟨id,rfl,hne,hid,hlid,hidc⟩
      · simp -implicitDefEqProofs [rW,h7,h8,h9,h3,m1,m2,hx,hw];refine⟨_,?_,.inr ⟨s.c+1,rfl,by simp,?_,by omega,?_⟩,?_,fun x hx=> ?_,?_⟩
        · simp -implicitDefEqProofs [rW,h7,h8,h9,hw]
        · simp -implicitDefEqProofs [rW,za1]
        · simp -implicitDefEqProofs [rW,]
        · simp -implicitDefEqProofs [rW,];omega
        · have y:¬x=s.c:=by omega
          have y1:¬x=s.c+1:=by omega
          simp -implicitDefEqProofs [rW,y,y1];exact hF x hx
        · simp -implicitDefEqProofs [rW,]
          repeat refine Nat.le_trans (zbD _ _).1 ?_
          omega
      · have hic:¬id=s.c:=by omega
        have hci:¬s.c=id:=by omega
        have hidc':id<s.c+1:=by omega
        generalize hb:a.any (· ==tv T)=b;cases b with
        | true=>
          have hm:tv T∈a:=by simpa using hb
          simp -implicitDefEqProofs [rW,h7,h8,h9,h3,hw,hx,hm];refine⟨_,?_,.inr ⟨id,rfl,hne,?_,by omega,?_⟩,?_,fun x hx=> ?_,?_⟩
          · simp -implicitDefEqProofs [rW,h7,h8,h9,h3,hw]
          · simp -implicitDefEqProofs [rW,hic,hid]
          · simp -implicitDefEqProofs [rW,];omega
          · simp -implicitDefEqProofs [rW,];omega
          · have y:¬x=s.c:=by omega
            simp -implicitDefEqProofs [rW,y];exact hF x hx
          · simp -implicitDefEqProofs [rW,]
            repeat refine Nat.le_trans (zbD _ _).1 ?_
            omega
        | false=>
          have hm:¬tv T∈a:=fun h=>by simp at hb;exact hb _ h rfl
          simp -implicitDefEqProofs [rW,h7,h8,h9,h3,hid,zeL,hic,hci,hidc',m3,m4,hlt,hx,hw,hm];have hl1:(a++[tv T]).length=a.length+1:=by simp
          refine⟨by omega,_,?_,.inr ⟨s.c+1,by rw[hl1],by simp,?_,by omega,?_⟩,?_,fun x hx=> ?_,?_⟩
          · simp -implicitDefEqProofs [rW,h7,h8,h9,h3,hw]
          · simp -implicitDefEqProofs [rW,za1]
          · simp -implicitDefEqProofs [rW,]
          · simp -implicitDefEqProofs [rW,];omega
          · have y:¬x=s.c:=by omega
            have y1:¬x=s.c+1:=by omega
            have y2:¬x=id:=by omega
            simp -implicitDefEqProofs [rW,y,y1,y2];exact hF x hx
          · simp -implicitDefEqProofs [rW,]
            repeat refine Nat.le_trans (zbD _ _).1 ?_
            omega
  · rintro s ⟨d,⟨h7,h8,h9,h3⟩,hg,hc1,hF,hlw⟩;rw[hv]at hg;simp -implicitDefEqProofs [rW,h7,h8,h9,h3];refine⟨L.length,d,?_,hg,hc1,hF,hlw⟩;simp -implicitDefEqProofs [rW,h7,h8,h9,h3]
  · refine⟨.f .nils,?_,.inl ⟨rfl,rfl⟩,?_,fun x hx=> ?_,?_⟩
    · simp -implicitDefEqProofs [rW,]
    · simp -implicitDefEqProofs [rW,]
    · have y:¬x=c0:=by omega
      simp -implicitDefEqProofs [rW,y]
    · simp -implicitDefEqProofs [rW,]
      repeat refine Nat.le_trans (zbD _ _).1 ?_
      omega
  · rintro x s ⟨rfl,n,d,⟨h7,h8,h9,h3⟩,hg,hc1,hF,hlw⟩;simp -implicitDefEqProofs [rW,h3,zbW];have hg2:SV s.h c0 s.c d (vrs c):=by
      rcases hg with h|⟨id,a1,a2,a3,a4,a5⟩
      · exact .inl h
      · exact .inr ⟨id,a1,a2,a3,by omega,a5⟩
    refine⟨⟨hF,hg2⟩,fun _ hf=>⟨fun _ _=>rfl,?_⟩⟩;rcases hg with h|⟨id,rfl,-⟩
    · exact .inl h
    · cases hf
theorem zBX(c:CQ)(hc:CqSm c):Ans pr 25 [.ag (cqF c)] (zaw (vrs c)):=by
 obtain⟨q,h1,⟨-,h2⟩,-⟩ :=zCL c hc (h:= .e) (c0:=0);obtain⟨rd,hz⟩ :=zGi h2.gro;exact⟨q,rd,by simpa [F.dL,cqE,F.d,za4,za2]using h1,hz⟩
def iE(l:List Nat):List (List D):=l.map fun n:Nat=>[D.f (.i .i64 (n:Int))]
theorem zxI(l:List Nat):(iE l).length=l.length:=by simp[iE]
def tmD(u:Trm):List D:=[.f (.s (tv u)),.f (.i .i64 (tk u)),.f (.i .i64 (tn u)),.f (.s [])]
theorem tmD_E(l:List Trm)(n:Nat)(h:n<l.length):(zcX l)[n]? =some (tmD l[n]):=by
 simp[zcX,tmD,tmE,List.getElem?_eq_getElem h]
theorem zbj(v:Str):tv (.var v)=v:=rfl
theorem zbn(v:Str):tk (.var v)=0:=rfl
theorem zbq(v:Str):tn (.var v)=0:=rfl
theorem zcn(n:Int):tv (.cst n)=[]:=rfl
theorem zcp(n:Int):tk (.cst n)=1:=rfl
theorem zcr(n:Int):tn (.cst n)=n:=rfl
def bE(l:List Bool):List (List D):=l.map fun b=>[D.f (.b b)]
def ixE'(j:Nat)(ns:List Str):List (F×D):=match ns with
 |[]=>[]
 |x::l=>(F.s x,D.f (.i .i64 (j:Int)))::ixE' (j+1) l
def ixE(ns:List Str):List (F×D):=ixE' 0 ns
structure SAt(a b:CQ)(ns:List Str)(im:List Trm)(asg:List Bool)(dA dC dT:D)(h:T Ob)(c S M I A:Nat):Prop where
 gS:h.get S=some (.arr 11 0 [[.f (zaw ns),.mp M,.sl I 0 ns.length 4 ns.length true,.sl A 0 ns.length 1 ns.length true,.f (zaO a),.f (zaR a),dA,dC,.f (zaO b),.f (zaR b),dT]])
 gM:h.get M=some (.map (ixE ns))
 gI:h.get I=some (.arr 4 0 (zcX im))
 gA:h.get A=some (.arr 1 0 (bE asg))
 lI:im.length=ns.length
 lA:asg.length=ns.length
 bS:S<c
 bM:M<c
 bI:I<c
 bA:A<c
theorem SAt.up{a b:CQ}{ns:List Str}{im:List Trm}{asg:List Bool}{dA dC dT:D}{h h':T Ob}{c c' S M I A:Nat}(H:SAt a b ns im asg dA dC dT h c S M I A)(hf:∀id,id<c->h'.get id=h.get id)(hc:c≤c'):SAt a b ns im asg dA dC dT h' c' S M I A:=
 ⟨by rw[hf S H.bS];exact H.gS,by rw[hf M H.bM];exact H.gM,by rw[hf I H.bI];exact H.gI,by rw[hf A H.bA];exact H.gA,H.lI,H.lA,Nat.lt_of_lt_of_le H.bS hc,Nat.lt_of_lt_of_le H.bM hc,Nat.lt_of_lt_of_le H.bI hc,Nat.lt_of_lt_of_le H.bA hc⟩
def cmD(k:Cm):List D:= .f (.i .i64 k.op)::(tmD k.l++tmD k.r)
def RdI(h:T Ob)(c:Nat)(d:D)(l:List Nat):Prop:=d= .f (zmB l)\/Held h 0 c 1 d (iE l)
theorem RdI.up{h h':T Ob}{c c':Nat}{d:D}{l:List Nat}(H:RdI h c d l)(hf:∀id,id<c->h'.get id=h.get id)(hc:c≤c'):RdI h' c' d l:=by
 rcases H with H|H|⟨id,ro,h1,h2,h3,h4,h5⟩
 ·exact .inl H
 ·exact .inr (.inl H)
 ·exact .inr (.inr ⟨id,ro,h1,h2,by rw[hf id h5];exact h3,h4,by omega⟩)
theorem RdI.len{h:T Ob}{c:Nat}{d:D}{l:List Nat}(H:RdI h c d l):zco d=some l.length:=by
 rcases H with rfl|⟨rfl,hl⟩ |⟨id,ro,rfl,h2,h3,h4,h5⟩
 ·exact zAh l
 ·have:l=[]:=by simpa [iE]using hl
  subst this;rfl
 ·simp[zco,zxI]
theorem RdI.get{h:T Ob}{c:Nat}{d:D}{l:List Nat}(H:RdI h c d l){n:Nat}(hn:n<l.length):∃p rd,iaB 1 d n=some p/\zbr false 1 h.get p=some (.f (.i .i64 (l[n]:Int)),rd):=by
 rcases H with rfl|⟨rfl,hl⟩ |⟨id,ro,rfl,h2,h3,h4,h5⟩
 ·exact⟨.fptr [.i .i64 (l[n]:Int)],[],by simp[zGp,hn],by simp[zbr,zgD]⟩
 ·have:l=[]:=by simpa [iE]using hl
  subst this;simp at hn
 ·refine⟨.ptr id 1 n 0,[id],by simp[iaB,zxI,hn],?_⟩;simp[zbr,h3,zcf,iE,List.getElem?_eq_getElem hn]
def RdT(h:T Ob)(c:Nat)(d:D)(l:List Trm):Prop:=(d= .f .nils/\l=[])\/∃id lim ex els ro,d= .sl id 0 l.length 4 lim ex/\h.get id=some (.arr 4 ro els)/\els.take l.length=zcX l/\id<c
theorem RdT.up{h h':T Ob}{c c':Nat}{d:D}{l:List Trm}(H:RdT h c d l)(hf:∀id,id<c->d.oid=some id->h'.get id=h.get id)(hc:c≤c'):RdT h' c' d l:=by
 rcases H with H|⟨id,lim,ex,els,ro,h1,h2,h3,h4⟩
 ·exact .inl H
 ·exact .inr ⟨id,lim,ex,els,ro,h1,by rw[hf id h4 (by rw[h1];rfl)];exact h2,h3,by omega⟩
theorem RdT.len{h:T Ob}{c:Nat}{d:D}{l:List Trm}(H:RdT h c d l):zco d=some l.length:=by
 rcases H with⟨rfl,rfl⟩ |⟨id,lim,ex,els,ro,rfl,h2,h3,h4⟩ <;>rfl
theorem RdT.cells{h:T Ob}{c:Nat}{d:D}{l:List Trm}(H:RdT h c d l):d.cells=some [d]:=by
 rcases H with⟨rfl,rfl⟩ |⟨id,lim,ex,els,ro,rfl,h2,h3,h4⟩ <;>rfl
theorem RdT.get{h:T Ob}{c:Nat}{d:D}{l:List Trm}(H:RdT h c d l){n:Nat}(hn:n<l.length):∃p rd,iaB 4 d n=some p/\zbr true 4 h.get p=some (.ag (tmD l[n]),rd):=by
 rcases H with⟨rfl,rfl⟩ |⟨id,lim,ex,els,ro,rfl,h2,h3,h4⟩
 ·simp at hn
 ·refine⟨.ptr id 4 n 0,[id],by simp[iaB,hn],?_⟩;have e:els[n]? =some (tmD l[n]):=by
   rw[<-tmD_E l n hn,<-h3,List.getElem?_take,if_pos hn]
  simp[zbr,h2,e,zcf,tmD]
theorem SAt.ne{a b:CQ}{ns:List Str}{im:List Trm}{asg:List Bool}{dA dC dT:D}{h:T Ob}{c S M I A:Nat}(H:SAt a b ns im asg dA dC dT h c S M I A):S≠I/\S≠A/\M≠I/\M≠A/\I≠A:=by
 obtain⟨g1,g2,g3,g4,_⟩ :=H;refine⟨?_,?_,?_,?_,?_⟩ <;>rintro rfl
 ·rw[g1]at g3;simp at g3
 ·rw[g1]at g4;simp at g4
 ·rw[g2]at g3;simp at g3
 ·rw[g2]at g4;simp at g4
 ·rw[g3]at g4;simp at g4
def FrI(h h':T Ob)(c I A:Nat):Prop:=∀id,id<c->id≠I->id≠A->h'.get id=h.get id
def RdS(h:T Ob)(c:Nat)(d:D)(l:List Nat):Prop:=(d= .f .nils/\l=[])\/∃id off lim ex ro els,d= .sl id off l.length 1 lim ex/\h.get id=some (.arr 1 ro els)/\(els.drop off).take l.length=iE l/\id<c
theorem RdS.len{h:T Ob}{c:Nat}{d:D}{l:List Nat}(H:RdS h c d l):zco d=some l.length:=by
 rcases H with⟨rfl,rfl⟩ |⟨id,off,lim,ex,ro,els,rfl,_⟩ <;>rfl
theorem zJD(l:List Nat)(n:Nat)(h:n<l.length):(iE l)[n]? =some [D.f (.i .i64 (l[n]:Int))]:=by simp[iE,List.getElem?_eq_getElem h]
theorem RdS.hd{h:T Ob}{c v:Nat}{d:D}{l:List Nat}(H:RdS h c d (v::l)):∃p rd,iaB 1 d 0=some p/\zbr false 1 h.get p=some (.f (.i .i64 (v:Int)),rd):=by
 rcases H with⟨_,h⟩ |⟨id,off,lim,ex,ro,els,rfl,e2,e3,e4⟩
 ·cases h
 ·refine⟨.ptr id 1 (off+0) 0,[id],by simp[iaB],?_⟩;have e:els[off]? =some [D.f (.i .i64 (v:Int))]:=by
   have h0:=zJD (v::l) 0 (by simp);rw[<-e3,List.getElem?_take,if_pos (by simp),List.getElem?_drop]at h0;simpa using h0
  simp[zbr,e2,e,zcf]
def RdN(h:T Ob)(c I A n:Nat)(d:D)(f:Nat->List Nat):Prop:=∃N ro rows,d= .sl N 0 n 1 n true/\h.get N=some (.arr 1 ro rows)/\N<c/\N≠I/\N≠A/\∀v,v<n->∃e,rows[v]? =some [e]/\RdI h c e (f v)/\e.oid≠some I/\e.oid≠some A
theorem RdN.get{h:T Ob}{c I A n:Nat}{d:D}{f:Nat->List Nat}(H:RdN h c I A n d f){v:Nat}(hv:v<n):∃p rd e,iaB 1 d v=some p/\zbr false 1 h.get p=some (e,rd)/\RdI h c e (f v)/\e.oid≠some I/\e.oid≠some A:=by
 obtain⟨N,ro,rows,rfl,e2,e3,e4,e5,e6⟩ :=H;obtain⟨e,g1,g2,g3,g4⟩ :=e6 v hv;exact⟨.ptr N 1 v 0,[N],e,by simp[iaB,hv],by simp[zbr,e2,g1,zcf],g2,g3,g4⟩
theorem FrI.trans{h h' h'':T Ob}{c c' I A:Nat}(h1:FrI h h' c I A)(h2:FrI h' h'' c' I A)(hc:c≤c'):FrI h h'' c I A:=
 fun id a b d=>by rw[h2 id (by omega) b d,h1 id a b d]
def RdU(h:T Ob)(c:Nat)(d:D)(l:List Trm):Prop:=d= .f (zbO l)\/RdT h c d l
theorem RdU.up{h h':T Ob}{c c':Nat}{d:D}{l:List Trm}(H:RdU h c d l)(hf:∀id,id<c->h'.get id=h.get id)(hc:c≤c'):RdU h' c' d l:=by
 rcases H with H|H
 ·exact .inl H
 ·exact .inr (H.up (fun id a _=>hf id a) hc)
theorem RdU.len{h:T Ob}{c:Nat}{d:D}{l:List Trm}(H:RdU h c d l):zco d=some l.length:=by
 rcases H with rfl|H
 ·exact zcw l
 ·exact H.len
theorem RdU.get{h:T Ob}{c:Nat}{d:D}{l:List Trm}(H:RdU h c d l){n:Nat}(hn:n<l.length):∃p rd,iaB 4 d n=some p/\zbr true 4 h.get p=some (.ag (tmD l[n]),rd):=by
 rcases H with rfl|H
 ·exact⟨.fptr (tmF l[n]),[],by simp[zcG,hn],by simp[zbr,zgD,tmE,tmD]⟩
 ·exact H.get hn
structure SIx(ns:List Str)(h:T Ob)(c S M:Nat):Prop where
 gS:∃ro cells,h.get S=some (.arr 11 ro [cells])/\cells[1]? =some (.mp M)
 gM:h.get M=some (.map (ixE ns))
 bS:S<c
 bM:M<c
theorem SIx.up{ns:List Str}{h h':T Ob}{c c' S M:Nat}(H:SIx ns h c S M)(hf:∀id,id<c->h'.get id=h.get id)(hc:c≤c'):SIx ns h' c' S M:=
 ⟨by rw[hf S H.bS];exact H.gS,by rw[hf M H.bM];exact H.gM,Nat.lt_of_lt_of_le H.bS hc,Nat.lt_of_lt_of_le H.bM hc⟩
theorem SAt.ix{a b:CQ}{ns:List Str}{im:List Trm}{asg:List Bool}{dA dC dT:D}{h:T Ob}{c S M I A:Nat}(H:SAt a b ns im asg dA dC dT h c S M I A):SIx ns h c S M:=
 ⟨⟨0,_,H.gS,rfl⟩,H.gM,H.bS,H.bM⟩
structure GAt(g:List Nat)(n:Nat)(h:T Ob)(c G G0:Nat):Prop where
 g0:h.get G0=some (.arr 1 0 [[.sl G 0 n 1 n true]])
 gg:h.get G=some (.arr 1 0 (iE g))
 b0:G0<c
 bg:G<c
theorem GAt.up{g:List Nat}{n:Nat}{h h':T Ob}{c c' G G0:Nat}(H:GAt g n h c G G0)(hf:∀id,id<c->h'.get id=h.get id)(hc:c≤c'):GAt g n h' c' G G0:=
 ⟨by rw[hf _ H.b0];exact H.g0,by rw[hf _ H.bg];exact H.gg,Nat.lt_of_lt_of_le H.b0 hc,Nat.lt_of_lt_of_le H.bg hc⟩
structure CAt(asg:List Bool)(ns:List Str)(g:List Nat)(h:T Ob)(c S M A G G0 B FB:Nat):Prop where
 ix:SIx ns h c S M
 ga:GAt g ns.length h c G G0
 sA:∃ro cells,h.get S=some (.arr 11 ro [cells])/\cells[3]? =some (.sl A 0 ns.length 1 ns.length true)
 gA:h.get A=some (.arr 1 0 (bE asg))
 lA:asg.length=ns.length
 bA:A<c
 gB:h.get B=some (.arr 1 0 [[.ptr S 11 0 0]])
 bB:B<c
 gF:h.get FB=some (.arr 1 0 [[.fn 90068 [] [.ptr G0 1 0 0]]])
 bF:FB<c
 nA:A≠G
def clrO(es id off m es' c:Nat)(z:List F):Ob->Option Rs
 | .arr es'' ro old=>if es=es'/\es'=es''/\off+m≤old.length/\ro≤off/\zcm old (old.take off++List.replicate m (z.map D.f)++old.drop (off+m))=true then
     some {d:= .f .un,rd:=[id],wr:=[(id,some (.arr es ro (old.take off++List.replicate m (z.map D.f)++old.drop (off+m))))],c}
    else none
 |_=>none
theorem zsl{es id off m es' c es'' ro:Nat}{z:List F}{old:List (List D)}:clrO es id off m es' c z (.arr es'' ro old)=if es=es'/\es'=es''/\off+m≤old.length/\ro≤off/\zcm old (old.take off++List.replicate m (z.map D.f)++old.drop (off+m))=true then
     some {d:= .f .un,rd:=[id],wr:=[(id,some (.arr es ro (old.take off++List.replicate m (z.map D.f)++old.drop (off+m))))],c}
    else none:=rfl
theorem zEJ(h:Nat->Option Ob)(c es:Nat)(z:List F)(id off m es' lim:Nat)(ex:Bool):opv h c (.clr es z (.sl id off m es' lim ex))=om (h id) (clrO es id off m es' c z):=by
 simp only[opv,om];cases h id with
 |none=>rfl
 |some o=>cases o<;>rfl
def slO(es id off len es' lim:Nat)(ex:Bool)(l r:Nat):Ob->Option (D×List Nat)
 | .arr es'' _ _=>if es=es'/\es'=es''/\l≤r/\(off+r≤lim\/r≤len)then some (.sl id (off+l) (r - l) es lim ex,[id])else none
 |_=>none
theorem zfV{es id off len es' lim:Nat}{ex:Bool}{l r es'' ro:Nat}{els:List (List D)}:slO es id off len es' lim ex l r (.arr es'' ro els)=if es=es'/\es'=es''/\l≤r/\(off+r≤lim\/r≤len)then some (.sl id (off+l) (r - l) es lim ex,[id])else none:=rfl
theorem zhN{es:Nat}{h:Nat->Option Ob}{id off len es' lim:Nat}{ex:Bool}{lo hi:Option D}:sliceB es h (.sl id off len es' lim ex) lo hi none=om (h id) fun o=>om (zaW 0 lo) fun l=>om (zaW len hi) fun r=>slO es id off len es' lim ex l r o:=by
 simp only[sliceB,om];cases h id with
 |none=>rfl
 |some o=>
  cases o with
  |map _=>
   simp only[Option.bind_some];cases zaW 0 lo with
   |none=>rfl
   |some l=>simp only[Option.bind_some];cases zaW len hi<;>rfl
  |arr es'' ro els=>
   simp only[Option.bind_some];cases zaW 0 lo with
   |none=>rfl
   |some l=>simp only[Option.bind_some];cases zaW len hi<;>rfl
theorem CAt.up{asg:List Bool}{ns:List Str}{g:List Nat}{h h':T Ob}{c c' S M A G G0 B FB:Nat}(H:CAt asg ns g h c S M A G G0 B FB)(hf:∀id,id<c->h'.get id=h.get id)(hc:c≤c'):CAt asg ns g h' c' S M A G G0 B FB:=by
 obtain⟨x1,y1,z1,z2,z3,z4,z5,z6,z7,z8,z9⟩ :=H;exact⟨x1.up hf hc,y1.up hf hc,by rw[hf _ x1.bS];exact z1,by rw[hf _ z4];exact z2,z3,by omega,by rw[hf _ z6];exact z5,by omega,by rw[hf _ z8];exact z7,by omega,z9⟩
theorem CAt.lo{asg:List Bool}{ns:List Str}{g:List Nat}{h:T Ob}{c c' S M A G G0 B FB:Nat}(H:CAt asg ns g h c S M A G G0 B FB)(b1:S<c')(b2:M<c')(b3:A<c')(b4:G<c')(b5:G0<c')(b6:B<c')(b7:FB<c'):CAt asg ns g h c' S M A G G0 B FB:=by
 obtain⟨⟨x1,x2,x3,x4⟩,⟨y1,y2,y3,y4⟩,z1,z2,z3,z4,z5,z6,z7,z8,z9⟩ :=H;exact⟨⟨x1,x2,b1,b2⟩,⟨y1,y2,b5,b4⟩,z1,z2,z3,b3,z5,b6,z7,b7,z9⟩
theorem zgm{h:T Ob}{lo c es byt:Nat}{d:D}{els new:List (List D)}{rd:List Nat}{K:Rs->Prop}(hg:Gro h lo c es d els)(hlo:lo≤c)(hlen:els.length+new.length≤1000000)(hb:byt≤1000)
  (hK:∀r:Rs,zau r.c r.wr=true->Gro (wrT h r.wr) lo r.c es r.d (els++new)->c≤r.c->(∀id,id<c->d.oid≠some id->(wrT h r.wr).get id=h.get id)->(∀x,r.d.oid=some x->x=c\/d.oid=some x)->K r):oB (zbi es byt h.get c d new rd) K:=by
 obtain⟨r,h1,h2,h3,h4,h5,h6,h7,h8⟩ :=znF (byt:=byt) (rd:=rd) hg hlo hlen hb;rw[h1];exact hK r h2 h3 h4 h5 h8
theorem zcL{h:T Ob}{lo c es:Nat}{d:D}{els:List (List D)}(hg:Gro h lo c es d els){x:Nat}(hx:d.oid=some x):lo≤x/\x<c:=by
 rcases hg with⟨rfl,_⟩ |⟨id,ro,rfl,h2,h3,h4,h5,h6⟩
 ·simp[D.oid]at hx
 ·simp[D.oid]at hx;omega
def zeY(l:List CQ):List (List D):=l.map fun c=>[D.f (zaO c),D.f (zaR c)]
theorem zhq(l:List CQ):(zeY l).length=l.length:=by simp[zeY]
theorem zoj(l:List CQ)(c:CQ):zeY (l++[c])=zeY l++[[D.f (zaO c),D.f (zaR c)]]:=by simp[zeY]
end Go.Proofs.YtmnkdfjljkhneaaGreat
end
