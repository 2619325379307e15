/- Small functions, the form of queries. -/
import Derived.Test.YtmnkdfjljkhneaaGreatHa
import Derived.Test.YtmnkdfjljkhneaaGreatPr
import Derived.KernelRfl
import Derived.IntWalk
import Derived.Test.YtmnkdfjljkhneaaGreatAll
import Derived.Test.YtmnkdfjljkhneaaGreatHb
set_option linter.all false
set_option maxRecDepth 100000
set_option maxHeartbeats 4000000
section
namespace Go.Proofs.YtmnkdfjljkhneaaGreat
open Go Go.Vse Go.Vse.Sm
def fn131:pr.fn 131=some zyB:=by kernel_rfl
def fn112:pr.fn 112=some zyq:=by kernel_rfl
def fn84:pr.fn 84=some g84:=by kernel_rfl
def fn86:pr.fn 86=some g86:=by kernel_rfl
def zem(a b:Str):Int:=if Go.Op.bytesLess a b=true then -1 else if a=b then 0 else 1
def zOq(a b:Str):Ans pr 131 [.s a,.s b] (.i .i64 (zem a b)):=by
 refine zbd fn131 ?_;simp only[zyB,rU];unfold zem
 by_cases h1:Go.Op.bytesLess a b=true
 .simp -implicitDefEqProofs [rR,st0,zae,h1]
 .by_cases h2:a=b
  .simp -implicitDefEqProofs [rR,st0,zae,h1,h2]
  .simp -implicitDefEqProofs [rR,st0,zae,h1,h2]
def zcX(a b:Int):Int:=if a=b then 0 else if a<b then -1 else 1
def zsv(a b:Int):Ans pr 112 [.ag (vF a),.ag (vF b)] (.i .i64 (zcX a b)):=by
 refine zbd fn112 ?_;simp only[zyq,rU];unfold zcX;have hl:Go.Op.bytesLess [] []=false:=rfl
 by_cases h1:a=b
 .subst h1;simp -implicitDefEqProofs [rR,st0,zae,vF,hl]
 .by_cases h2:a<b
  .simp -implicitDefEqProofs [rR,st0,zae,vF,hl,h1,h2]
  .simp -implicitDefEqProofs [rR,st0,zae,vF,hl,h1,h2]
def bl_cn(b:Str):Go.Op.bytesLess b []=false:=by cases b<;>rfl
def bl_n{b:Str}(h:b≠[]):Go.Op.bytesLess [] b=true:=by
 cases b with
 |nil=>exact absurd rfl h
 |cons=>rfl
def tv:Trm->Str
 | .var s=>s
 | .cst _=>[]
def tk:Trm->Int
 | .var _=>0
 | .cst _=>1
def tn:Trm->Int
 | .var _=>0
 | .cst n=>n
def tmE(t:Trm):tmF t=[.s (tv t),.i .i64 (tk t),.i .i64 (tn t),.s []]:=by cases t<;>rfl
def zdp:Trm->Trm->Int
 | .cst a,.cst b=>zcX a b
 | .cst _,.var _=> -1
 | .var _,.cst _=>1
 | .var a,.var b=>zem a b
def zn1(a b:Trm)(ha:zau a)(hb:zau b):Ans pr 84 [.ag (tmF a),.ag (tmF b)] (.i .i64 (zdp a b)):=by
 refine zbd fn84 ?_;simp only[g84,rU];cases a with
 |cst a=>
  cases b with
  |cst b=>
   have q:=fun k=>zaj (k:=k) (zsv a b)
   simp only[vF]at q;simp -implicitDefEqProofs [rR,st0,zae,tmF,vF,zdp,q]
  |var b=>
   simp only[zau]at hb;simp -implicitDefEqProofs [rR,st0,zae,tmF,zdp,hb,bl_n hb]
 |var a=>
  cases b with
  |cst b=>
   simp only[zau]at ha;simp -implicitDefEqProofs [rR,st0,zae,tmF,zdp,ha,bl_cn]
  |var b=>
   simp only[zau]at ha hb
   by_cases h1:Go.Op.bytesLess a b=true
   .simp -implicitDefEqProofs [rR,st0,zae,tmF,zdp,zem,ha,hb,h1]
   .by_cases h2:a=b
    .simp -implicitDefEqProofs [rR,st0,zae,tmF,zdp,zem,ha,hb,h1,h2]
    .simp -implicitDefEqProofs [rR,st0,zae,tmF,zdp,zem,ha,hb,h1,h2]
def zgs(a b:Trm):Bool:=zdp a b==0
def zaW(l:List Trm):F:=slc 4 (l.map tmF)
def wrap_i64(n:Int)(h:0<=n)(h2:n<9223372036854775808):IntKind.i64.wrap n=n:=IntWalk.i64_in n (by omega)
def zao(n:Nat)(h:n<1000000):IntKind.i64.wrap ((n:Int)+1)=((n+1:Nat):Int):=wrap_i64 _ (by omega) (by omega)
def zaN(l:List Str):(zaq l).d= .f (zaq l):=zh5 ..
def zbQ(l:List Str):zcx (.f (zaq l))=some l.length:=by simp[zaq,zfA]
def zf4(l:List Str)(n:Nat):iaB 1 (.f (zaq l)) n=(l[n]?).map fun s=>D.fptr [.s s]:=by simp[zaq,zgi,Function.comp_def]
def zaR(l:List Trm):(zaW l).d= .f (zaW l):=zh5 ..
def zaO(l:List Trm):zcx (.f (zaW l))=some l.length:=by simp[zaW,zfA]
def zbk(l:List Trm)(n:Nat):iaB 4 (.f (zaW l)) n=(l[n]?).map fun t=>D.fptr (tmF t):=by simp[zaW,zgi,Function.comp_def]
def zfN(a b:Int):(zcX a b==0)=decide (a=b):=by
 unfold zcX
 by_cases h:a=b
 .simp[h]
 .simp only[h,if_false,decide_false];split<;>rfl
def zvK(a b:Int):(zcX a b != 0)=decide (a≠b):=by
 rw[bne,zfN];simp
def zgz(a b:Int):(zcX a b<0)=(a<b):=by
 unfold zcX
 by_cases h:a=b
 .simp[h]
 .simp only[h,if_false];split<;>simp_all
def zvJ(a b:Int):(zcX a b<=0)=(a<=b):=by
 unfold zcX
 by_cases h:a=b
 .simp[h]
 .simp only[h,if_false];split
  .simp;omega
  .simp;omega
def zaC(c:CQ):F:=csF c
def zaB(c:CQ):F:=Sm.asF c
def zaH(c:CQ):(zaC c).d= .f (zaC c):=by
 unfold zaC csF;split
 .rfl
 .exact zh5 ..
def zbf(c:CQ):zcx (.f (zaC c))=some c.cs.length:=by
 unfold zaC csF;split
 .rename_i h;rw[h.2];rfl
 .simp[zfA]
def zcZ(c:CQ)(n:Nat):iaB 9 (.f (zaC c)) n=(c.cs[n]?).map fun t=>D.fptr (cmF t):=by
 unfold zaC csF;split
 .rename_i h;rw[h.2];rfl
 .simp[zgi,Function.comp_def]
def zaF(c:CQ):(zaB c).d= .f (zaB c):=by
 unfold zaB Sm.asF;split
 .rfl
 .exact zh5 ..
def za1(c:CQ):zcx (.f (zaB c))=some c.as.length:=by
 unfold zaB Sm.asF;split
 .rename_i h;rw[h.2];rfl
 .simp[zfA]
def zbh(c:CQ)(n:Nat):iaB 3 (.f (zaB c)) n=(c.as[n]?).map fun t=>D.fptr (atF t):=by
 unfold zaB Sm.asF;split
 .rename_i h;rw[h.2];rfl
 .simp[zgi,Function.comp_def]
def cqE(c:CQ):cqF c=[zaB c,zaC c]:=rfl
def atE(a:Atm):atF a=[.s a.r,.b a.neg,zaW a.ts]:=rfl
def zh8:List Trm->List Trm->Int
 |a::l,b::m=>if zdp a b=0 then zh8 l m else zdp a b
 |l,m=>(l.length:Int) - m.length
def zxA(a b:Atm):Int:=if zem a.r b.r=0 then(if a.neg=b.neg then zh8 a.ts b.ts else if b.neg=true then -1 else 1)else zem a.r b.r
def zty(_:Unit)(p:Trm×Trm):Unit⊕Int:=if zdp p.1 p.2=0 then .inl ()else .inr (zdp p.1 p.2)
theorem zk4:∀(l m:List Trm),zh8 l m=match zgn zty () (l.zip m)with
  | .inl _=>(l.length:Int) - m.length
  | .inr c=>c
 |[],m=>by simp[zh8,zgn]
 |a::l,[]=>by simp[zh8,zgn]
 |a::l,b::m=>by
  simp only[zh8,List.zip_cons_cons,zwa,zty]
  by_cases h:zdp a b=0
  .simp only[h,if_true,zk4 l m];cases zgn zty () (l.zip m)<;>simp;omega
  .simp only[h,if_false]
def zGk(a b:Nat)(ha:a<1000)(hb:b<1000):IntKind.i64.wrap ((a:Int) - b)=(a:Int) - b:=IntWalk.i64_in _ (by omega)
def ans86(a b:Atm)(ha:zbX a)(hb:zbX b):Ans pr 86 [.ag (atF a),.ag (atF b)] (.i .i64 (zxA a b)):=by
 have q:=fun k=>zaj (k:=k) (zOq a.r b.r)
 refine zbd fn86 ?_;simp only[g86,rU];unfold zxA
 by_cases h1:zem a.r b.r=0
 .rw[h1]at q
  by_cases h2:a.neg=b.neg
  .have hw:=zGk a.ts.length b.ts.length ha.2 hb.2;simp -implicitDefEqProofs [rR,st0,zae,atE,zaR,q,h1,h2];refine zPk (a.ts.zip b.ts) zty () (fun n _ s=>s.tm.get 2=some (.ptr 0 3 0 0)/\s.tm.get 3=some (.ptr 1 3 0 0)/\s.tm.get 6=some (.f (.i .i64 n))/\s.h.get 0=some (.arr 3 0 [F.dL (atF a)])/\s.h.get 1=some (.arr 3 0 [F.dL (atF b)])) (fun _ x s=>x= .exit 0/\s.tm.get 2=some (.ptr 0 3 0 0)/\s.tm.get 3=some (.ptr 1 3 0 0)/\s.h.get 0=some (.arr 3 0 [F.dL (atF a)])/\s.h.get 1=some (.arr 3 0 [F.dL (atF b)])) (fun c x s=>x= .ret/\s.tm.get 4=some (.f (.i .i64 c))) ?_ ?_ _ ?_ ?_ ?_
   .rintro n _ s hn ⟨h2,h3,h6,g0,g1⟩;have hn1:n<a.ts.length:=by simp at hn;omega
    have hn2:n<b.ts.length:=by simp at hn;omega
    have hw:=zao n (by have:=ha.2;omega);have q2:=fun k=>zaj (k:=k) (zn1 a.ts[n] b.ts[n] (ha.1 _ (Z1 hn1)) (hb.1 _ (Z1 hn2)))
    simp only[List.getElem_zip,zty];simp only[tmE]at q2
    by_cases hz:zdp a.ts[n] b.ts[n]=0
    .rw[hz]at q2;simp -implicitDefEqProofs [rR,h2,h3,h6,g0,g1,atE,zaR,zaO,zbk,hn1,hn2];refine zaL ?_;simp -implicitDefEqProofs [rR,h2,h3,h6,g0,g1,atE,zaR,zaO,zbk,hn1,hn2,tmE,q2,hz,hw]
    .simp -implicitDefEqProofs [rR,h2,h3,h6,g0,g1,atE,zaR,zaO,zbk,hn1,hn2];refine zaL ?_;simp -implicitDefEqProofs [rR,h2,h3,h6,g0,g1,atE,zaR,zaO,zbk,hn1,hn2,tmE,q2,hz,hw]
   .rintro _ s ⟨h2,h3,h6,g0,g1⟩
    by_cases hl:a.ts.length<=b.ts.length
    .have e:min a.ts.length b.ts.length=a.ts.length:=by omega
     simp -implicitDefEqProofs [rR,h2,h3,h6,g0,g1,atE,zaR,zaO,e]
    .have e:min a.ts.length b.ts.length=b.ts.length:=by omega
     have hl':b.ts.length<a.ts.length:=by omega
     simp -implicitDefEqProofs [rR,h2,h3,h6,g0,g1,atE,zaR,zaO,e,hl']
   .simp -implicitDefEqProofs [rR,st0,zae,atE,zaR,h2]
   .rintro u h x s ⟨rfl,h2,h3,g0,g1⟩;rw[zk4,h];simp -implicitDefEqProofs [rR,h2,h3,g0,g1,atE,zaR,zaO,hw]
   .rintro c h x s ⟨rfl,h4⟩;rw[zk4,h];simp -implicitDefEqProofs [rR,h4]
  .cases hn:b.neg with
   |true=>
    have hm:a.neg=false:=by cases hm:a.neg<;>simp_all
    simp -implicitDefEqProofs [rR,st0,zae,atE,zaR,q,h1,hn,hm]
   |false=>
    have hm:a.neg=true:=by cases hm:a.neg<;>simp_all
    simp -implicitDefEqProofs [rR,st0,zae,atE,zaR,q,h1,hn,hm]
 .simp -implicitDefEqProofs [rR,st0,zae,atE,zaR,q,h1]
def zbv(l:List Trm):List (List D):=(l.map tmF).map fun a=>a.map D.f
def zjL(h:Nat->Option Ob)(k:Nat)(l:List Trm):zaQ (frz h (k+1)) (zbv l)=some (l.map tmF,[]):=zfm h k _
def zer(l:List Trm):(zbv l).length=l.length:=by simp[zbv]
def zAN(h:Nat->Option Ob)(l:List Trm):elemsOf 4 h (.f (zaW l))=some (zbv l,[]):=by
 cases l with
 |nil=>rfl
 |cons a l=>rfl
def zcn:List Trm->Trm->List Trm
 |[],t=>[t]
 |a::l,t=>if zdp a t<0 then a::zcn l t else if zgs a t=true then a::l else t::a::l
def zqe(l m:List Trm):zbv l++zbv m=zbv (l++m):=by simp[zbv]
def zpx{l:List Trm}{t:Trm}(hl:∀a∈l,zau a)(ht:zau t):∀a∈zcn l t,zau a:=by
 induction l with
 |nil=>intro a ha;simp[zcn]at ha;rw[ha];exact ht
 |cons b l ih=>
  intro a ha;unfold zcn at ha;split at ha
  .rcases Z5.1 ha with h|h
   .rw[h];exact hl b (by simp)
   .exact ih (fun x hx=>hl x (by simp[hx])) a h
  .split at ha
   .exact hl a ha
   .rcases Z5.1 ha with h|h
    .rw[h];exact ht
    .exact hl a h
def zsl(l:List Trm)(t:Trm):(zcn l t).length<=l.length+1:=by
 induction l with
 |nil=>simp[zcn]
 |cons b l ih=>
  unfold zcn;split
  .simp;exact ih
  .split<;>simp
def zeW(n:Nat)(l:List Trm):Prop:=(∀a∈l,zau a)/\l.length<=n
def zeW.add{n:Nat}{l:List Trm}{t:Trm}(h:zeW n l)(ht:zau t):zeW (n+1) (zcn l t):=⟨zpx h.1 ht,Z3 (zsl l t) (by have:=h.2;omega)⟩
def zbi:zrD pr:=zDO ztB
def zcW(l:List Str)(s:Str):List Str:=if s=[]\/l.any (· ==s)=true then l else l++[s]
def zaT(l:List Str):List (List D):=l.map fun s=>[D.f (.s s)]
def zbO(l:List Str):(zaT l).length=l.length:=by simp[zaT]
def zCZ(l:List Str):(zaT l).take l.length=zaT l:=by rw[<-zbO l,Z7]
def zhr(h:Nat->Option Ob)(k:Nat)(l:List Str):zaQ (frz h (k+1)) (zaT l)=some (l.map fun s=>[F.s s],[]):=zHW h k F.s l
def znP{l:List Str}(h:l≠[]):F.sl 1 (l.map fun s=>[F.s s])=zaq l:=zbR (by simpa using h)
def zk3{l:List Str}(h:zaT l=[]):l=[]:=by simpa [zaT]using h
def zcQ(l:List Str)(ts:List Trm):List Str:=ts.foldl (fun l t=>zcW l (tv t)) l
def vrs(c:CQ):List Str:=c.cs.foldl (fun l k=>zcW (zcW l (tv k.l)) (tv k.r)) (c.as.foldl (fun l a=>zcQ l a.ts) [])
def zjP(l:List Str)(s:Str):(zcW l s).length<=l.length+1:=by
 unfold zcW;split
 .omega
 .simp
def zlg(ts:List Trm):∀l:List Str,(zcQ l ts).length<=l.length+ts.length:=by
 unfold zcQ
 induction ts with
 |nil=>intro l;simp
 |cons t ts ih=>
  intro l;have h1:=zjP l (tv t);have h2:=ih (zcW l (tv t));simp only[Z42,Z23];omega
def zpB{l:List Atm}(hl:∀a∈l,a.ts.length<=12):∀x:List Str,(l.foldl (fun l a=>zcQ l a.ts) x).length<=x.length+12*l.length:=by
 induction l with
 |nil=>intro x;simp
 |cons a l ih=>
  intro x;have h1:=zlg a.ts x;have h2:=hl a (by simp);have h3:=ih (fun b hb=>hl b (by simp[hb])) (zcQ x a.ts);simp only[Z42,Z23];omega
def zvS(l:List Cm):∀x:List Str,(l.foldl (fun l k=>zcW (zcW l (tv k.l)) (tv k.r)) x).length<=x.length+2*l.length:=by
 induction l with
 |nil=>intro x;simp
 |cons a l ih=>
  intro x;have h1:=zjP x (tv a.l);have h2:=zjP (zcW x (tv a.l)) (tv a.r);have h3:=ih (zcW (zcW x (tv a.l)) (tv a.r));simp only[Z42,Z23];omega
def zmM{c:CQ}(hc:CqSm c):(vrs c).length<=544:=by
 have h1:=zpB hc.st [];have h2:=zvS c.cs (c.as.foldl (fun l a=>zcQ l a.ts) []);have:=hc.sa;have:=hc.sc;unfold vrs;simp at h1;omega
def zmq{h:T Ob}{lo c es k:Nat}{d:D}{els:List (List D)}{L:List (List F)}(hg:Gro h lo c es d els)(hf:zaQ (frz h.get k) els=some (L,[]))(hL:L=[]↔els=[]):∃rd,frz h.get (k+1) d=some (slc es L,rd):=by
 rcases hg with⟨rfl,rfl⟩ |⟨id,ro,rfl,he,ho,hr,hl,hc⟩
 .rw[hL.2 rfl];exact⟨[],rfl⟩
 .refine⟨[id],?_⟩;rw[zdx,ho,za9,zdf];simp only[true_and,Z25,Z2,if_true,Z34,Z7,hf,za9];rw[zbR (fun e=>he (hL.1 e))]
def zLH{h:T Ob}{lo c:Nat}{d:D}{l:List Str}(hg:Gro h lo c 1 d (zaT l)):∃rd,frz h.get 12 d=some (zaq l,rd):=
 zmq (k:=11) hg (zhr _ 10 l) (by simp[zaT])
def za5{h:T Ob}{lo c es:Nat}{d:D}{els:List (List D)}(hg:Gro h lo c es d els){i:Nat}(hi:i<lo):d.oid≠some i:=by
 rcases hg with⟨rfl,_⟩ |⟨id,ro,rfl,_,_,_,hl,_⟩
 .simp[D.oid]
 .simp[D.oid];omega
def fn49:pr.fn 49=some g49:=by kernel_rfl
def fn87:pr.fn 87=some g87:=by kernel_rfl
def fn50:pr.fn 50=some g50:=by kernel_rfl
def fn18:pr.fn 18=some g18:=by kernel_rfl
def fn128:pr.fn 128=some g128:=by kernel_rfl
def fn129:pr.fn 129=some zyA:=by kernel_rfl
def fn81:pr.fn 81=some g81:=by kernel_rfl
def fn82:pr.fn 82=some g82:=by kernel_rfl
def fn83:pr.fn 83=some g83:=by kernel_rfl
def fn80:pr.fn 80=some g80:=by kernel_rfl
def fn44:pr.fn 44=some g44:=by kernel_rfl
def fn115:pr.fn 115=some zyw:=by kernel_rfl
def fn65:pr.fn 65=some g65:=by kernel_rfl
def fn33:pr.fn 33=some g33:=by kernel_rfl
def fn58:pr.fn 58=some g58:=by kernel_rfl
def fn25:pr.fn 25=some g25:=by kernel_rfl
def zLp{a b:List Str}(hl:a.length=b.length)(h:∀i,i<a.length->a[i]? =b[i]?):a=b:=by
 apply List.ext_getElem?;intro i
 by_cases hi:i<a.length
 .exact h i hi
 .rw[List.getElem?_eq_none (by omega),List.getElem?_eq_none (by omega)]
def SQ44(a b:List Str)(k:Nat)(s:St):Prop:=∃n:Nat,(k=a.length - n/\n<=a.length/\∀i,i<n->a[i]? =b[i]?)/\(s.tm.get 0=some (.f (zaq a))/\s.tm.get 1=some (.f (zaq b))/\s.tm.get 5=some (.f (.i .i64 n)))
def ans49(a b:List Str)(hn:a.length<100000):Ans pr 49 [zaq a,zaq b] (.b (decide (a=b))):=by
 refine zbd fn49 ?_;simp only[g49,rU]
 by_cases hl:a.length=b.length
 .have hl':(a.length:Int)=b.length:=by omega
  simp[rW,st0,zae,zaN,zbQ,hl,hl'];refine zfE (SQ44 a b) (fun x s=>(x= .exit 0/\a=b)\/(x= .ret/\a≠b/\s.tm.get 4=some (.f (.b false)))) ?_ a.length _ ?_ ?_
  .rintro k s ⟨n,⟨rfl,hn2,he⟩,⟨h0,h1,h5⟩⟩
   by_cases hlt:n<a.length
   .have ha:a[n]? =some a[n]:=Z0 hlt;have hb:b[n]? =some b[n]:=Z0 (by omega);have hltb:n<b.length:=by omega
    have hw:=zao n (by omega);generalize hA:a[n]=A at ha;generalize hB:b[n]=B at hb
    by_cases hq:A=B
    .subst hq;simp[rW,h0,h1,h5,zbQ,hlt,hltb,hl];refine zaL ?_;simp[rW,h0,h1,h5,zf4,ha,hb,hlt,hltb,hA,hB];rw[zdk];refine⟨a.length - (n+1),by omega,n+1,⟨rfl,by omega,fun i hi=> ?_⟩,?_⟩
     .by_cases hi2:i=n
      .subst hi2;rw[ha,hb]
      .exact he i (by omega)
     .simp[rW,h0,h1,h5,hw]
    .have hne:a≠b:=fun e=>hq (by subst e;rw[ha]at hb;exact Option.some.inj hb)
     simp[rW,h0,h1,h5,zbQ,hlt,hltb,hl];refine zaL ?_;simp[rW,h0,h1,h5,zf4,ha,hb,hlt,hltb,hA,hB,hq,hne]
   .have e:a=b:=zLp hl fun i hi=>he i (by omega)
    have hltb:¬(n<b.length):=by omega
    simp[rW,h0,h1,h5,zbQ,hlt,hltb,hl];exact e
  .simp[rW,SQ44];exact⟨0,by simp,by simp[hl]⟩
  .rintro x s (⟨rfl,e⟩ |⟨rfl,e,h4⟩)
   .simp[rW,e]
   .simp[rW,h4,e]
 .have hl':¬((a.length:Int)=b.length):=by omega
  have hne:¬(a=b):=fun e=>hl (by rw[e])
  simp[rW,st0,zae,zaN,zbQ,hl,hl',hne]
theorem zpG:∀a:Str,Go.Op.bytesLess a a=false
 |[]=>rfl
 |x::a=>by
  simp only[Go.Op.bytesLess,zpG a,Bool.and_false,Bool.or_false,decide_eq_false_iff_not];exact UInt8.lt_irrefl x
def zri(a:Str):zem a a=0:=by simp[zem,zpG]
def zru(t:Trm):zdp t t=0:=by cases t<;>simp[zdp,zri,zcX]
def ans87(k:Cm)(hk:zbt k):Ans pr 87 [.ag (cmF k),.ag (cmF k)] (.i .i64 0):=by
 refine zbd fn87 ?_;simp only[g87,rU];have q1:=fun m=>zaj (k:=m) (zn1 k.l k.l hk.1 hk.1)
 have q2:=fun m=>zaj (k:=m) (zn1 k.r k.r hk.2 hk.2)
 rw[zru]at q1 q2;simp only[tmE]at q1 q2;simp -implicitDefEqProofs [rR,st0,zae,tmE,cmF,q1,q2]
theorem zpi:∀l:List Trm,zh8 l l=0
 |[]=>by simp[zh8]
 |t::l=>by simp[zh8,zru,zpi l]
def zz0(a:Atm):zxA a a=0:=by
 simp[zxA,zri,zpi]
def Eqv(a b:CQ):Prop:=a.as=b.as/\a.cs=b.cs
def ans50(a b:CQ)(ha:CqSm a)(he:Eqv a b):Ans pr 50 [.ag (cqF a),.ag (cqF b)] (.i .i64 0):=by
 refine zbd fn50 ?_;simp only[g50,rU];have hla:b.as.length=a.as.length:=by rw[he.1]
 have hlc:b.cs.length=a.cs.length:=by rw[he.2]
 simp -implicitDefEqProofs [rR,st0,zae,cqE,zaF,zaH];refine zdi a.as.length (fun n s=>s.tm.get 2=some (.ptr 0 2 0 0)/\s.tm.get 3=some (.ptr 1 2 0 0)/\s.tm.get 5=some (.f (.i .i64 n))/\s.h.get 0=some (.arr 2 0 [[.f (zaB a),.f (zaC a)]])/\s.h.get 1=some (.arr 2 0 [[.f (zaB b),.f (zaC b)]])) (fun x s=>x= .exit 0/\s.tm.get 2=some (.ptr 0 2 0 0)/\s.tm.get 3=some (.ptr 1 2 0 0)/\s.h.get 0=some (.arr 2 0 [[.f (zaB a),.f (zaC a)]])/\s.h.get 1=some (.arr 2 0 [[.f (zaB b),.f (zaC b)]])) ?_ ?_ _ ?_ ?_
 .rintro n s hn ⟨h2,h3,h5,g0,g1⟩;have hw:=zao n (by have:=ha.sa;omega);have hx:a.as[n]? =some a.as[n]:=Z0 hn;have hy:b.as[n]? =some a.as[n]:=by rw[<-he.1];exact hx
  have q:=fun m=>zaj (k:=m) (ans86 a.as[n] a.as[n] (ha.as _ (Z1 hn)) (ha.as _ (Z1 hn)))
  rw[zz0]at q;generalize a.as[n]=A at hx hy q;simp only[atE]at q;simp -implicitDefEqProofs [rR,h2,h3,h5,g0,g1,za1,hla,hn];refine zaL ?_;simp -implicitDefEqProofs [rR,h2,h3,h5,g0,g1,zbh,hx,hy,atE,zaR,q,hw]
 .rintro s ⟨h2,h3,h5,g0,g1⟩;simp -implicitDefEqProofs [rR,h2,h3,h5,g0,g1,za1,hla]
 .simp -implicitDefEqProofs [rR,st0,zae]
 .rintro x s ⟨rfl,h2,h3,g0,g1⟩;simp -implicitDefEqProofs [rR,h2,h3,g0,g1,za1,hla];refine zdi a.cs.length (fun n s=>s.tm.get 2=some (.ptr 0 2 0 0)/\s.tm.get 3=some (.ptr 1 2 0 0)/\s.tm.get 7=some (.f (.i .i64 n))/\s.h.get 0=some (.arr 2 0 [[.f (zaB a),.f (zaC a)]])/\s.h.get 1=some (.arr 2 0 [[.f (zaB b),.f (zaC b)]])) (fun x s=>x= .exit 2/\s.tm.get 2=some (.ptr 0 2 0 0)/\s.tm.get 3=some (.ptr 1 2 0 0)/\s.h.get 0=some (.arr 2 0 [[.f (zaB a),.f (zaC a)]])/\s.h.get 1=some (.arr 2 0 [[.f (zaB b),.f (zaC b)]])) ?_ ?_ _ ?_ ?_
  .rintro n s hn ⟨h2,h3,h7,g0,g1⟩;have hw:=zao n (by have:=ha.sc;omega);have hx:a.cs[n]? =some a.cs[n]:=Z0 hn;have hy:b.cs[n]? =some a.cs[n]:=by rw[<-he.2];exact hx
   have q:=fun m=>zaj (k:=m) (ans87 a.cs[n] (ha.cs _ (Z1 hn)))
   generalize a.cs[n]=K at hx hy q;simp only[cmF,tmE,Z29,Z28]at q;simp -implicitDefEqProofs [rR,h2,h3,h7,g0,g1,zbf,hlc,hn];refine zaL ?_;simp -implicitDefEqProofs [rR,h2,h3,h7,g0,g1,zcZ,hx,hy,cmF,tmE,q,hw]
  .rintro s ⟨h2,h3,h7,g0,g1⟩;simp -implicitDefEqProofs [rR,h2,h3,h7,g0,g1,zbf,hlc]
  .simp -implicitDefEqProofs [rR,h2,h3,g0,g1]
  .rintro x s ⟨rfl,h2,h3,g0,g1⟩;have hw0:IntKind.i64.wrap 0=0:=rfl;simp -implicitDefEqProofs [rR,h2,h3,g0,g1,zbf,hlc,hw0]
def qsF(l:List CQ):F:=slc 2 (l.map cqF)
def zcy(l:List CQ):(qsF l).d= .f (qsF l):=zh5 ..
def zbN(l:List CQ):zcx (.f (qsF l))=some l.length:=by simp[qsF,zfA]
def zdr(l:List CQ)(n:Nat):iaB 2 (.f (qsF l)) n=(l[n]?).map fun c=>D.fptr (cqF c):=by simp[qsF,zgi,Function.comp_def]
def zDp(l m:List CQ):Prop:=l.length=m.length/\∀i (h:i<l.length) (h':i<m.length),Eqv l[i] m[i]
def zxK(hd:List Str)(l m:List CQ)(hh:hd.length<1000)(hs:∀c∈l,CqSm c)(hl:l.length<1000)(he:zDp l m):Ans pr 18 [.ag [zaq hd,qsF l],.ag [zaq hd,qsF m]] (.b true):=by
 have q44:=fun k=>zaj (k:=k) (ans49 hd hd (by omega))
 refine zbd fn18 ?_;simp only[g18,rU];have hlm:=he.1;simp -implicitDefEqProofs [rR,st0,zae,zaN,zcy,q44,zbN,hlm];refine zdi l.length (fun n s=>s.tm.get 2=some (.ptr 0 2 0 0)/\s.tm.get 3=some (.ptr 1 2 0 0)/\s.tm.get 5=some (.f (.i .i64 n))/\s.h.get 0=some (.arr 2 0 [[.f (zaq hd),.f (qsF l)]])/\s.h.get 1=some (.arr 2 0 [[.f (zaq hd),.f (qsF m)]])) (fun x s=>x= .exit 0) ?_ ?_ _ ?_ ?_
 .rintro n s hn ⟨h2,h3,h5,g0,g1⟩;have hw:=zao n (by omega);have hx:l[n]? =some l[n]:=Z0 hn;have hn2:n<m.length:=by omega
  have hy:m[n]? =some m[n]:=Z0 hn2;have q:=fun k=>zaj (k:=k) (ans50 l[n] m[n] (hs _ (Z1 hn)) (he.2 n hn hn2))
  generalize hA:l[n]=A at hx q;generalize hB:m[n]=B at hy q;simp only[cqE]at q;simp -implicitDefEqProofs [rR,h2,h3,h5,g0,g1,zbN,hlm,hn,hn2];refine zaL ?_;simp -implicitDefEqProofs [rR,h2,h3,h5,g0,g1,zdr,hx,hy,hA,hB,hn,hn2,cqE,zaF,zaH,q,hw]
 .rintro s ⟨h2,h3,h5,g0,g1⟩;simp -implicitDefEqProofs [rR,h2,h3,h5,g0,g1,zbN,hlm]
 .simp -implicitDefEqProofs [rR,st0,zae,hlm]
 .rintro x s rfl;simp -implicitDefEqProofs [rR,]
def zP7{f:Nat}{args:List D}{h:T Ob}{c:Nat}{x:F}(h1:pr.fn f=none)(h2:pr.ext f args=some x):RO pr f args h c x.d:=by
 refine⟨c,Z2 _,1,fun n hn=> ?_⟩;obtain⟨m,rfl⟩ :∃m,n=m+1:=⟨n - 1,by omega⟩
 simp only[zcL,h1,h2]
theorem zvL:∀a b:Str,Go.Lib.compareBytes a b=zem a b
 |[],[]=>rfl
 |[],b::l=>by simp[Go.Lib.compareBytes,zem,Go.Op.bytesLess]
 |a::l,[]=>by simp[Go.Lib.compareBytes,zem,Go.Op.bytesLess]
 |a::l,b::m=>by
  have ih:=zvL l m;unfold Go.Lib.compareBytes zem Go.Op.bytesLess
  by_cases h1:a<b
  .simp[h1]
  .by_cases h2:b<a
   .have h3:a≠b:=fun e=>by subst e;exact h1 h2
    simp[h1,h2,h3]
   .have h3:a=b:=UInt8.le_antisymm (UInt8.not_lt.1 h2) (UInt8.not_lt.1 h1);subst h3;simp only[h1,if_false,ih,zem];simp
def ro130(a b:Str)(h:T Ob)(c:Nat):RO pr 130 [.f (.s a),.f (.s b)] h c (.f (.i .i64 (zem a b))):=by
 have:=zP7 (h:=h) (c:=c) (f:=130) (args:=[.f (.s a),.f (.s b)]) (x:= .i .i64 (Go.Lib.compareBytes a b)) (by kernel_rfl) rfl;rw[zvL]at this;exact this
def zz8(a:Int):Ans pr 128 [.i .i64 a] (.b false):=by
 refine zbd fn128 ?_;simp only[g128,rU];simp[rW,st0,zae]
def zAa(a:Int):Ans pr 129 [.i .i64 a] (.b false):=by
 refine zbd fn129 ?_;simp only[zyA,rU];simp[rW,st0,zae]
def zGR(a b:Int):Ans pr 81 [.i .i64 a,.i .i64 b] (.i .i64 (zcX a b)):=by
 refine zbd fn81 ?_;simp only[g81,rU];have q1:=fun k=>zaj (k:=k) (zz8 a)
 have q2:=fun k=>zaj (k:=k) (zz8 b)
 unfold zcX
 by_cases h1:a<b
 .have h2:¬a=b:=by omega
  simp[rW,st0,zae,q1,q2,h1,h2]
 .by_cases h2:b<a
  .have h3:¬a=b:=by omega
   simp[rW,st0,zae,q1,q2,h1,h2,h3]
  .have h3:a=b:=by omega
   simp[rW,st0,zae,q1,q2,h1,h2,h3]
def zGS(a b:Int):Ans pr 82 [.i .i64 a,.i .i64 b] (.i .i64 (zcX a b)):=by
 refine zbd fn82 ?_;simp only[g82,rU];have q1:=fun k=>zaj (k:=k) (zAa a)
 have q2:=fun k=>zaj (k:=k) (zAa b)
 unfold zcX
 by_cases h1:a<b
 .have h2:¬a=b:=by omega
  simp[rW,st0,zae,q1,q2,h1,h2]
 .by_cases h2:b<a
  .have h3:¬a=b:=by omega
   simp[rW,st0,zae,q1,q2,h1,h2,h3]
  .have h3:a=b:=by omega
   simp[rW,st0,zae,q1,q2,h1,h2,h3]
def zGT(a b:Str):Ans pr 83 [.s a,.s b] (.i .i64 (zem a b)):=by
 refine zbd fn83 ?_;simp only[g83,rU];simp[rW,st0,zae];refine zdo (ro130 a b _ _) ?_ ?_
 .simp only[rG];omega
 .intro mx;simp[rW,st0,zae]
def zGP(a b c:Int):Ans pr 80 [.sl 1 [[.i .i64 a],[.i .i64 b],[.i .i64 c]]] (.i .i64 (if a≠0 then a else if b≠0 then b else c)):=by
 refine zbd fn80 ?_;simp only[g80,rU];have w1:IntKind.i64.wrap 1=1:=rfl;have w2:IntKind.i64.wrap 2=2:=rfl;have w3:IntKind.i64.wrap 3=3:=rfl;simp[rW,st0,zae];refine round ?_
 by_cases ha:a=0
 .by_cases hb:b=0
  .simp[rW,ha,hb,w1];refine round ?_;simp[rW,ha,hb,w2];refine round ?_
   by_cases hc:c=0
   .simp[rW,hc,w3];refine round ?_;simp[rW,hc]
   .simp[rW,hc]
  .simp[rW,ha,hb,w1];refine round ?_;simp[rW,hb]
 .simp[rW,ha]
def zrM(a b:Int):Ans pr 44 [.ag (vF a),.ag (vF b)] (.i .i64 (zcX a b)):=by
 refine zbd fn44 ?_;simp only[g44,rU];have q1:=fun k=>zaj (k:=k) (zGR 1 1)
 have q2:=fun k=>zaj (k:=k) (zGS a b)
 have q3:=fun k=>zaj (k:=k) (zGT [] [])
 have q4:=fun k=>zaj (k:=k) (zGP (zcX 1 1) (zcX a b) (zem [] []))
 rw[(show zcX 1 1=0 from rfl)]at q1 q4;rw[(show zem [] []=0 from rfl)]at q3 q4;have e:(if(0:Int)≠0 then 0 else if zcX a b≠0 then zcX a b else 0)=zcX a b:=by
  simp only[ne_eq,not_true_eq_false,if_false];split
  .rfl
  .rename_i h;simp at h;exact h.symm
 rw[e]at q4;simp[rW,st0,zae,vF];refine zaL ?_;simp[rW,st0,zae,vF,q1,q2,q3,q4]
def zjo(a b:Trm)(ha:zau a)(hb:zau b):Ans pr 115 [.ag (tmF a),.ag (tmF b)] (.b (decide (a=b))):=by
 refine zbd fn115 ?_;simp only[zyw,rU];cases a with
 |cst a=>
  cases b with
  |cst b=>
   have q:=fun k=>zaj (k:=k) (zrM a b)
   simp only[vF]at q;simp -implicitDefEqProofs [rR,st0,zae,tmF,q,zfN]
  |var b=>
   simp only[zau]at hb;simp -implicitDefEqProofs [rR,st0,zae,tmF,hb,Ne.symm hb]
 |var a=>
  simp only[zau]at ha;cases b with
  |cst b=>simp -implicitDefEqProofs [rR,st0,zae,tmF,ha]
  |var b=>
   simp -implicitDefEqProofs [rR,st0,zae,tmF,ha];exact Bool.eq_iff_iff.2 (by simp)
def ixP{α:Type}(l:List α)(p:α->Bool):Int:=match l.findIdx? p with
 |some n=>n
 |none=> -1
def zmx{α:Type}{l:List α}{p:α->Bool}(h:∀a∈l,p a=false):ixP l p= -1:=by
 have:l.findIdx? p=none:=Z43.2 h;simp[ixP,this]
def zlD{α:Type}{l:List α}{p:α->Bool}{n:Nat}(h:n<l.length)(h1:p l[n]=true)(h2:∀m (h':m<n),p (l[m]'(by omega))=false):ixP l p=n:=by
 have:l.findIdx? p=some n:=by
  rw[Z26];exact⟨h,h1,fun j hj=>by simpa using h2 j hj⟩
 simp[ixP,this]
def zoL{α:Type}(l:List α)(p:α->Bool):decide (ixP l p≥0)=l.any p:=by
 cases h:l.any p with
 |true=>
  unfold ixP;cases h2:l.findIdx? p with
  |some n=>simp
  |none=>rw[Z43]at h2;simp at h;obtain⟨x,hx,hp⟩ :=h;rw[h2 x hx]at hp;cases hp
 |false=>
  have:=zmx (l:=l) (p:=p) (by simpa using h);simp[this]
def zDE(l:List Str)(x:Str):l.any (x== ·)=l.any (· ==x):=by
  congr 1;funext a;exact Bool.beq_comm
def RdV(h:T Ob)(d:D)(l:List Str):Prop:=d= .f (zaq l)\/∃lo c,Gro h lo c 1 d (zaT l)
def zwM{h:T Ob}{d:D}{l:List Str}(H:RdV h d l):zcx d=some l.length:=by
 rcases H with rfl|⟨lo,c,H⟩
 .exact zbQ l
 .rw[zmr H,zbO]
def zB0{h:T Ob}{d:D}{l:List Str}(H:RdV h d l){n:Nat}(hn:n<l.length):∃p rd,iaB 1 d n=some p/\zca false 1 h.get p=some (.f (.s l[n]),rd):=by
 rcases H with rfl|⟨lo,c,H⟩
 .exact⟨.fptr [.s l[n]],[],by rw[zf4,Z0 hn];rfl,rfl⟩
 .rcases H with⟨rfl,e⟩ |⟨id,ro,rfl,-,hg,-,h1,h2⟩
  .have:=zk3 e;rw[this]at hn;simp at hn
  .refine⟨.ptr id 1 n 0,[id],by simp[ziQ,zbO,hn],?_⟩;have:(zaT l)[n]? =some [.f (.s l[n])]:=by simp[zaT,hn]
   simp[zEq,hg,za9,zpY,this,zEA]
def ro65(l:List Str)(x:Str)(hl:l.length<1000000){h:T Ob}{c:Nat}{d:D}(H:RdV h d l):RO pr 65 [d,.f (.s x)] h c (.f (.i .i64 (ixP l (x== ·)))):=by
 refine zdz zbi fn65 rfl ?_;simp only[g65,rU];simp[rW,st0,zae,zwM H];refine zcf l (x== ·) (fun n s=>(s.tm.get 0=some (d)/\s.tm.get 1=some (.f (.s x))/\s.tm.get 7=some (.f (.i .i64 l.length))/\s.tm.get 8=some (.f (.i .i64 n)))/\s.h=h/\s.c=c/\s.lw=c) (fun x s=>x= .exit 0/\s.lw=c) (fun n y s=>y= .ret/\s.tm.get 4=some (.f (.i .i64 n))/\s.lw=c) ?_ ?_ _ ?_ ?_ ?_
 .rintro n s hn ⟨⟨h0,h1,h7,h8⟩,eh,ec,el⟩;have hw:=zao n (by omega);obtain⟨p,rd,hp,hr⟩ :=zB0 H hn
  by_cases he:x=l[n]
  .simp[rW,h0,h1,h7,h8,hn,hp,hr,he,eh,el]
  .simp[rW,h0,h1,h7,h8,hn,hp,hr,he,hw,eh,ec,el]
 .rintro s ⟨⟨h0,h1,h7,h8⟩,eh,ec,el⟩;simp[rW,h0,h1,h7,h8,el]
 .simp[rW,st0,zae]
 .rintro h z s ⟨rfl,el⟩;rw[zmx h];simp[rW,za4,el]
 .rintro n hn hp hm z s ⟨rfl,h4,el⟩;rw[zlD hn hp hm];simp[rW,h4,za4,el]
def ro33(l:List Str)(x:Str)(hl:l.length<1000000){h:T Ob}{c:Nat}{d:D}(H:RdV h d l):RO pr 33 [d,.f (.s x)] h c (.f (.b (l.any (· ==x)))):=by
  refine zdz zbi fn33 rfl ?_;simp only[g33,rU];have e:=zoL l (x== ·);rw[zDE]at e;rw[<-e];simp[rW,st0,zae];refine zdo (d:= .f (.i .i64 (ixP l (x== ·)))) ?_ ?_ ?_
  . simp only[rG];exact ro65 l x hl H
  . simp only[rG];omega
  . intro mx;simp[rW,za4]
def zOu{f:Nat}{fs:List F}{x:F}{args:List D}(e:F.dL fs=args)(h:RO pr f args .e 0 (.f x)):Ans pr f fs x:=by
 obtain⟨mx,-,hc⟩ :=h;rw[<-e]at hc;exact⟨_,[],hc,rfl⟩
def zxN(l:List Str)(x:Str)(hl:l.length<1000000):Ans pr 33 [zaq l,.s x] (.b (l.any (· ==x))):=
  zOu (by rw[F.dL,F.dL,F.dL,zaN];rfl) (ro33 l x hl (.inl rfl))
def zoG(l:List Nat):F:=slc 1 (l.map fun n:Nat=>[F.i .i64 (n:Int)])
def zEl(l:List Nat):zcx (.f (zoG l))=some l.length:=by simp[zoG,zfA]
def zLO(l:List Nat)(n:Nat):iaB 1 (.f (zoG l)) n=(l[n]?).map fun k:Nat=>D.fptr [F.i .i64 (k:Int)]:=by simp[zoG,zgi,Function.comp_def]
def tsA(c:CQ):List Trm:=c.as.flatMap (·.ts)
def ts2(k:Cm):List Trm:=[k.l,k.r]
def tsC(c:CQ):List Trm:=tsA c++c.cs.flatMap ts2
def T1(c:CQ)(l:List Trm)(n:Nat)(s:St):Prop:=∃d,s.tm.get 1=some (.ptr 0 2 0 0)/\s.tm.get 11=some (.f (.i .i64 n))/\s.tm.get 9=some (.f (zaB c))/\s.tm.get 10=some (.f (.i .i64 c.as.length))/\s.tm.get 3=some (d)/\s.h.get 0=some (.arr 2 0 [[.f (zaB c),.f (zaC c)]])/\Gro s.h 1 s.c 4 d (zbv l)/\1<=s.c
def T2(c:CQ)(l:List Trm)(n:Nat)(s:St):Prop:=∃d,s.tm.get 23=some (.f (.i .i64 n))/\s.tm.get 21=some (.f (zaC c))/\s.tm.get 22=some (.f (.i .i64 c.cs.length))/\s.tm.get 3=some (d)/\Gro s.h 1 s.c 4 d (zbv l)/\1<=s.c
theorem ze8{α β:Type}(f:α->List β)(m:Nat):∀(l:List α),(∀a∈l,(f a).length<=m)->(l.flatMap f).length<=m*l.length
 |[],_=>by simp
 |a::l,h=>by
  have h1:=h a (by simp);have h2:=ze8 f m l fun b hb=>h b (by simp[hb])
  rw[List.flatMap_cons,Z16,Z23,Nat.mul_add];omega
def zNk{c:CQ}(hc:CqSm c):(tsC c).length<=424:=by
 have h1:=ze8 (·.ts) 2 c.as hc.s2;have h2:=ze8 ts2 2 c.cs (by simp[ts2]);have:=hc.sa;have:=hc.sc;simp only[tsC,tsA,Z16];omega
theorem zix{α β:Type}(f:α->List β):∀(l:List α) (x:List β),l.foldl (fun x a=>x++f a) x=x++l.flatMap f
 |[],x=>by simp
 |a::l,x=>by rw[Z42,zix f l,List.flatMap_cons,Z32]
def zLI{h:T Ob}{lo c:Nat}{d:D}{l:List Trm}(hg:Gro h lo c 4 d (zbv l)):∃rd,frz h.get 12 d=some (zaW l,rd):=
 zmq (k:=11) hg (zjL _ 10 l) (by simp[zbv])
def ans58(c:CQ)(hc:CqSm c):Ans pr 58 [.ag (cqF c)] (zaW (tsC c)):=by
 refine zbd fn58 ?_;simp only[g58,rU];simp[rW,st0,zae,cqE,zaF,zaH,za1];refine zgo c.as (fun x a=>x++a.ts) [] (fun n a s=>T1 c a n s) (fun x s=>x= .exit 0/\∃n,T1 c (tsA c) n s) ?_ ?_ _ ?_ ?_
 .rintro n a s hn ha ⟨d,h1,h11,h9,h10,h3,g0,hg,hc1⟩;have hw:=zao n (by have:=hc.sa;omega);have hal:a.length<=144:=by
   rw[zix,Z28]at ha;have:=ze8 (fun a:Atm=>a.ts) 12 (c.as.take n) fun b hb=>hc.st b (Z13 hb)
   rw[<-ha]at this;have:=hc.sa;simp at*;omega
  have hst:=hc.st _ (Z1 hn);generalize hA:c.as[n]=A at hst|-;simp[rW,h1,h11,h9,h10,h3,g0,za1,zbh,hn,hA,atE,zaR,zAN];refine zA3 (zaS (c':=s.c+1) hg (by omega) fun id _ h2=> ?_) (by omega) (by simp only[zer];omega) (by omega) ?_
  .rw[Vse.T.zad,if_neg (by omega),Vse.T.zad,if_neg (by omega)]
  .intro r hr1 hr2 hr3 hr4 _ _;have e0:=hr4 0 (by omega) (za5 hg (by omega));have c0:¬0=s.c:=by omega
   rw[Vse.T.zad,if_neg c0,Vse.T.zad,if_neg c0]at e0;refine⟨hr1,?_⟩;simp[rW,h1,h11,h9,h10,h3,g0,e0,hw,T1];rw[<-zqe];exact⟨hr2,by omega⟩
 .rintro s ⟨d,h1,h11,h9,h10,h3,g0,hg,hc1⟩;rw[zix,Z28]at hg;simp[rW,h1,h11,h9,h10,h3,g0,za1,T1,hc1];exact⟨⟨_,rfl⟩,hg⟩
 .simp[rW,T1];exact .inl ⟨rfl,rfl⟩
 .rintro x s ⟨rfl,n,d,h1,h11,h9,h10,h3,g0,hg,hc1⟩;simp[rW,h1,h11,h9,h10,h3,g0,zbf];have hl0:(tsA c).length<=144:=by
   have:=ze8 (fun a:Atm=>a.ts) 12 c.as hc.st;have:=hc.sa;unfold tsA;omega
  refine zgo c.cs (fun x k=>x++ts2 k) (tsA c) (fun n a s=>T2 c a n s) (fun x s=>x= .exit 2/\∃n,T2 c (tsC c) n s) ?_ ?_ _ ?_ ?_
  .rintro n a s hn ha ⟨d,h23,h21,h22,h3,hg,hc1⟩;have hw:=zao n (by have:=hc.sc;omega);have hal:a.length<=544:=by
    rw[zix]at ha;have:=ze8 ts2 2 (c.cs.take n) (by simp[ts2]);rw[ha,Z16];have:=hc.sc;simp at*;omega
   generalize hK:c.cs[n]=K;simp[rW,h23,h21,h22,h3,zbf,zcZ,hn,hK,cmF,tmE];refine zA3 (zaS (c':=s.c+1) hg (by omega) fun id _ h2=> ?_) (by omega) (by simp only[zer];simp;omega) (by omega) ?_
   .rw[Vse.T.zad,if_neg (by omega),Vse.T.zad,if_neg (by omega)]
   .intro r hr1 hr2 hr3 hr4 _ _;refine⟨hr1,?_⟩;simp[rW,h23,h21,h22,h3,hw,T2];rw[<-zqe];simp only[ts2,zbv,Z10,List.map_nil,tmE]at hr2|-;exact⟨hr2,by omega⟩
  .rintro s ⟨d,h23,h21,h22,h3,hg,hc1⟩;rw[zix]at hg;simp[rW,h23,h21,h22,h3,zbf,T2,hc1];exact⟨⟨_,rfl⟩,hg⟩
  .simp[rW,h1,h11,h9,h10,h3,g0,T2,hc1,hg]
  .rintro x s ⟨rfl,n,d,h23,h21,h22,h3,hg,hc1⟩;obtain⟨rd,hz⟩ :=zLI hg;simp[rW,h3,hz]
def zlc(a b:List Trm)(x:List Str):zcQ x (a++b)=zcQ (zcQ x a) b:=by simp[zcQ]
def zuF(c:CQ):(tsC c).foldl (fun l t=>zcW l (tv t)) []=vrs c:=by
 have h1:∀(l:List Atm) (x:List Str),zcQ x (l.flatMap (·.ts))=l.foldl (fun l a=>zcQ l a.ts) x:=by
  intro l
  induction l with
  |nil=>intro x;rfl
  |cons a l ih=>intro x;rw[List.flatMap_cons,zlc,ih];rfl
 have h2:∀(l:List Cm) (x:List Str),zcQ x (l.flatMap ts2)=l.foldl (fun l k=>zcW (zcW l (tv k.l)) (tv k.r)) x:=by
  intro l
  induction l with
  |nil=>intro x;rfl
  |cons a l ih=>intro x;rw[List.flatMap_cons,zlc,ih];rfl
 show zcQ [] (tsC c)=vrs c;unfold tsC vrs tsA;rw[zlc,h1,h2]
def stepV(l:List Str)(x:Str):zcW l x=if x≠[]/\¬(l.any (· ==x)=true)then l++[x]else l:=by
  unfold zcW
  by_cases h1:x=[]<;>by_cases h2:l.any (· ==x)=true<;>simp[h1,h2]
def SV(h:T Ob)(lo c:Nat)(d:D)(l:List Str):Prop:=(d= .f .nils/\l=[])\/∃id,d= .sl id 0 l.length 1 l.length false/\l≠[]/\h.get id=some (.arr 1 0 (zaT l))/\lo<=id/\id<c
def SV.gro{h:T Ob}{lo c:Nat}{d:D}{l:List Str}(H:SV h lo c d l):Gro h lo c 1 d (zaT l):=by
 rcases H with⟨rfl,rfl⟩ |⟨id,rfl,h1,h2,h3,h4⟩
 .exact .inl ⟨rfl,rfl⟩
 .exact .inr ⟨id,0,by rw[zbO],fun e=>h1 (zk3 e),h2,Nat.zero_le _,h3,h4⟩
def SV.up{h h':T Ob}{lo c c':Nat}{d:D}{l:List Str}(H:SV h lo c d l)(hc:c<=c')(hh:∀x,lo<=x->x<c->h'.get x=h.get x):SV h' lo c' d l:=by
 rcases H with H|⟨id,h1,h2,h3,h4,h5⟩
 .exact .inl H
 .exact .inr ⟨id,h1,h2,by rw[hh id h4 h5];exact h3,h4,by omega⟩
def VP(h0:T Ob)(c0:Nat)(L:List Trm)(l:List Str)(n:Nat)(s:St):Prop:=∃d,(s.tm.get 7=some (.f (zaW L))/\s.tm.get 8=some (.f (.i .i64 L.length))/\s.tm.get 9=some (.f (.i .i64 n))/\s.tm.get 3=some (d))/\SV s.h (c0+1) s.c d l/\c0+1<=s.c/\Frm h0 s.h c0/\s.lw<=s.c
def zHI(c:CQ)(hc:CqSm c){h:T Ob}{c0:Nat}:Eff pr 25 [.ag [.f (zaB c),.f (zaC c)]] h c0 fun d h' c'=>Frm h h' c0/\SV h' c0 c' d (vrs c):=by
  refine zci zbi fn25 ?_;simp only[g25,rU];have q:=fun k=>zaj (k:=k) (ans58 c hc)
  have hL:=zNk hc;have hv:=zuF c;simp only[cqE]at q;generalize tsC c=L at q hL hv;simp[rW,st0,zae,zaF,zaH,q,zaR,zaO];refine zgo L (fun l t=>zcW l (tv t)) [] (fun n a s=>VP h c0 L a n s) (fun x s=>x= .exit 0/\∃n,VP h c0 L (vrs c) n s) ?_ ?_ _ ?_ ?_
  . rintro n a s hn ha ⟨d,⟨h7,h8,h9,h3⟩,hg,hc1,hF,hlw⟩;have hw:=zao n (by omega);have hal:a.length<=544:=by
      have:=zlg (L.take n) [];rw[show zcQ [] (L.take n)=a from ha.symm]at this;simp at this;omega
    rw[stepV];have m1:(1<=zak)=True:=zaV (by omega);have m2:(16<=zak)=True:=zaV (by omega);have m3:(a.length+1<=zak)=True:=zaV (by omega);have m4:((a.length+1)*16<=zak)=True:=zaV (by omega);have hlt:(a.length+1<=a.length)=False:=leF (by omega);generalize hT:L[n]=T
    by_cases hx:tv T=[]
    . simp[rW,h7,h8,h9,h3,zaO,zbk,hn,hT,tmE,hx,hw];refine⟨d,?_,hg.up (by simp[rW,]) fun id h1 h2=> ?_,by simp[rW,];omega,fun x hx=> ?_,?_⟩
      . simp[rW,h7,h8,h9,h3,hw]
      . have y:¬id=s.c:=by omega
        simp[rW,y]
      . have y:¬x=s.c:=by omega
        simp[rW,y];exact hF x hx
      . simp[rW,]
        repeat refine Z3 (zb8 _ _).1 ?_
        omega
    . have hx':tv T≠[]:=hx;simp[rW,h7,h8,h9,h3,zaO,zbk,hn,hT,tmE,hx];refine zdo (d:= .f (.b (a.any (· ==tv T)))) ?_ ?_ ?_
      . simp only[rG];refine ro33 a (tv T) (by omega) (.inr ⟨c0+1,s.c,hg.gro.elim .inl fun⟨id,ro,h1,h2,h3,h4⟩ => .inr ⟨id,ro,h1,h2,?_,h4⟩⟩);have y:¬id=s.c:=by omega
        simp[Vse.T.zad,y,h3]
      . simp only[rG]
        repeat refine Z3 (zb8 _ _).1 ?_
        omega
      intro mx;have tail:∀(H:Vse.T Ob) (x:Nat),x<c0->(∀x,x<s.c->H.get x=s.h.get x)->H.get x=h.get x:=fun H x hx hH=>by
        rw[hH x (by omega)];exact hF x hx
      rcases hg with⟨rfl,rfl⟩ |⟨id,rfl,hne,hid,hlid,hidc⟩
      . simp[rW,h7,h8,h9,h3,m1,m2,hx,hw];refine⟨_,?_,.inr ⟨s.c+1,rfl,by simp,?_,by omega,?_⟩,?_,fun x hx=> ?_,?_⟩
        . simp[rW,h7,h8,h9,hw]
        . simp[rW,zaT]
        . simp[rW,]
        . simp[rW,];omega
        . have y:¬x=s.c:=by omega
          have y1:¬x=s.c+1:=by omega
          simp[rW,y,y1];exact hF x hx
        . simp[rW,]
          repeat refine Z3 (zb8 _ _).1 ?_
          omega
      . have hic:¬id=s.c:=by omega
        have hci:¬s.c=id:=by omega
        have hidc':id<s.c+1:=by omega
        generalize hb:a.any (· ==tv T)=b;cases b with
        | true=>
          have hm:tv T∈a:=by simpa using hb
          simp[rW,h7,h8,h9,h3,hw,hx,hm];refine⟨_,?_,.inr ⟨id,rfl,hne,?_,by omega,?_⟩,?_,fun x hx=> ?_,?_⟩
          . simp[rW,h7,h8,h9,h3,hw]
          . simp[rW,hic,hid]
          . simp[rW,];omega
          . simp[rW,];omega
          . have y:¬x=s.c:=by omega
            simp[rW,y];exact hF x hx
          . simp[rW,]
            repeat refine Z3 (zb8 _ _).1 ?_
            omega
        | false=>
          have hm:¬tv T∈a:=fun h=>by simp at hb;exact hb _ h rfl
          simp[rW,h7,h8,h9,h3,hid,zbO,hic,hci,hidc',m3,m4,hlt,hx,hw,hm];have hl1:(a++[tv T]).length=a.length+1:=by simp
          refine⟨by omega,_,?_,.inr ⟨s.c+1,by rw[hl1],by simp,?_,by omega,?_⟩,?_,fun x hx=> ?_,?_⟩
          . simp[rW,h7,h8,h9,h3,hw]
          . simp[rW,zaT]
          . simp[rW,]
          . simp[rW,];omega
          . have y:¬x=s.c:=by omega
            have y1:¬x=s.c+1:=by omega
            have y2:¬x=id:=by omega
            simp[rW,y,y1,y2];exact hF x hx
          . simp[rW,]
            repeat refine Z3 (zb8 _ _).1 ?_
            omega
  . rintro s ⟨d,⟨h7,h8,h9,h3⟩,hg,hc1,hF,hlw⟩;rw[hv]at hg;simp[rW,h7,h8,h9,h3];refine⟨L.length,d,?_,hg,hc1,hF,hlw⟩;simp[rW,h7,h8,h9,h3]
  . refine⟨.f .nils,?_,.inl ⟨rfl,rfl⟩,?_,fun x hx=> ?_,?_⟩
    . simp[rW,]
    . simp[rW,]
    . have y:¬x=c0:=by omega
      simp[rW,y]
    . simp[rW,]
      repeat refine Z3 (zb8 _ _).1 ?_
      omega
  . rintro x s ⟨rfl,n,d,⟨h7,h8,h9,h3⟩,hg,hc1,hF,hlw⟩;simp[rW,h3,zbl];have hg2:SV s.h c0 s.c d (vrs c):=by
      rcases hg with h|⟨id,a1,a2,a3,a4,a5⟩
      . exact .inl h
      . exact .inr ⟨id,a1,a2,a3,by omega,a5⟩
    refine⟨⟨hF,hg2⟩,fun _ hf=>⟨fun _ _=>rfl,?_⟩⟩;rcases hg with h|⟨id,rfl,-⟩
    . exact .inl h
    . cases hf
def zGH(c:CQ)(hc:CqSm c):Ans pr 25 [.ag (cqF c)] (zaq (vrs c)):=by
 obtain⟨q,h1,⟨-,h2⟩,-⟩ :=zHI c hc (h:= .e) (c0:=0);obtain⟨rd,hz⟩ :=zLH h2.gro;exact⟨q,rd,by simpa [F.dL,cqE,F.d,zaF,zaH]using h1,hz⟩
def iE(l:List Nat):List (List D):=l.map fun n:Nat=>[D.f (.i .i64 (n:Int))]
def zBl(l:List Nat):(iE l).length=l.length:=by simp[iE]
end Go.Proofs.YtmnkdfjljkhneaaGreat
end
