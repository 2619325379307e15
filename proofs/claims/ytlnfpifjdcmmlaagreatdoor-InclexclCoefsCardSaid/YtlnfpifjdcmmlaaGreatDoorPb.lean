/- The variables of a query, as the reference lists them; its homomorphism. -/
import Derived.Test.YtlnfpifjdcmmlaaGreatDoorPa
import Derived.Test.YtlnfpifjdcmmlaaGreatDoorAll
import Derived.Test.YtlnfpifjdcmmlaaGreatDoorHb
import Derived.KernelRfl
import Derived.IntWalk
set_option linter.all false
set_option maxRecDepth 100000
set_option maxHeartbeats 4000000
section
namespace Go.Proofs.YtlnfpifjdcmmlaaGreatDoor
open Go Go.Vse Go.Vse.Sm
def zaS:zqW pr:=zAY prOk
def zde(l:List Str)(s:Str):List Str:=if s=[]\/l.any (· ==s)=true then l else l++[s]
def zbi(l:List Str):List (List D):=l.map fun s=>[D.f (.s s)]
def zbW(l:List Str):(zbi l).length=l.length:=by simp[zbi]
def zhA(l:List Str):(zbi l).take l.length=zbi l:=by rw[<-zbW l,Z8]
def zg4(h:Nat->Option Ob)(k:Nat)(l:List Str):zaU (frz h (k+1)) (zbi l)=some (l.map fun s=>[F.s s],[]):=zwm h k F.s l
def ztA{l:List Str}(h:l≠[]):F.sl 1 (l.map fun s=>[F.s s])=zaQ l:=zd7 (by simpa using h)
def ztz{l:List Str}(h:zbi l=[]):l=[]:=by simpa [zbi]using h
def zes(l:List Str)(ts:List Trm):List Str:=ts.foldl (fun l t=>zde l (tv t)) l
def vrs(c:CQ):List Str:=c.cs.foldl (fun l k=>zde (zde l (tv k.l)) (tv k.r)) (c.as.foldl (fun l a=>zes l a.ts) [])
def zmh(l:List Str)(s:Str):(zde l s).length<=l.length+1:=by
 unfold zde;split
 .omega
 .simp
def zkK(ts:List Trm):∀l:List Str,(zes l ts).length<=l.length+ts.length:=by
 unfold zes
 induction ts with
 |nil=>intro l;simp
 |cons t ts ih=>
  intro l;have h1:=zmh l (tv t);have h2:=ih (zde l (tv t));simp only[Z43,Z24];omega
def zFx{l:List Atm}(hl:∀a∈l,a.ts.length<=12):∀x:List Str,(l.foldl (fun l a=>zes l a.ts) x).length<=x.length+12*l.length:=by
 induction l with
 |nil=>intro x;simp
 |cons a l ih=>
  intro x;have h1:=zkK a.ts x;have h2:=hl a (by simp);have h3:=ih (fun b hb=>hl b (by simp[hb])) (zes x a.ts);simp only[Z43,Z24];omega
def zGk(l:List Cm):∀x:List Str,(l.foldl (fun l k=>zde (zde l (tv k.l)) (tv k.r)) x).length<=x.length+2*l.length:=by
 induction l with
 |nil=>intro x;simp
 |cons a l ih=>
  intro x;have h1:=zmh x (tv a.l);have h2:=zmh (zde x (tv a.l)) (tv a.r);have h3:=ih (zde (zde x (tv a.l)) (tv a.r));simp only[Z43,Z24];omega
def zjD{c:CQ}(hc:CqSm c):(vrs c).length<=168:=by
 have h1:=zFx hc.st [];have h2:=zGk c.cs (c.as.foldl (fun l a=>zes l a.ts) []);have:=hc.sa;have:=hc.sc;unfold vrs;simp at h1;omega
def zh7{h:T Ob}{lo c es k:Nat}{d:D}{els:List (List D)}{L:List (List F)}(hg:Gro h lo c es d els)(hf:zaU (frz h.get k) els=some (L,[]))(hL:L=[]↔els=[]):∃rd,frz h.get (k+1) d=some (slc es L,rd):=by
 rcases hg with⟨rfl,rfl⟩ |⟨id,ro,rfl,he,ho,hr,hl,hc⟩
 .rw[hL.2 rfl];exact⟨[],rfl⟩
 .refine⟨[id],?_⟩;rw[zfW,ho,zcN,zfA];simp only[true_and,Z26,Z3,if_true,Z35,Z8,hf,zcN];rw[zd7 (fun e=>he (hL.1 e))]
def zGR{h:T Ob}{lo c:Nat}{d:D}{l:List Str}(hg:Gro h lo c 1 d (zbi l)):∃rd,frz h.get 12 d=some (zaQ l,rd):=
 zh7 (k:=11) hg (zg4 _ 10 l) (by simp[zbi])
def zbN{h:T Ob}{lo c es:Nat}{d:D}{els:List (List D)}(hg:Gro h lo c es d els){i:Nat}(hi:i<lo):d.oid≠some i:=by
 rcases hg with⟨rfl,_⟩ |⟨id,ro,rfl,_,_,_,hl,_⟩
 .simp[D.oid]
 .simp[D.oid];omega
def fn134:pr.fn 134=some zwO:=by kernel_rfl
def fn135:pr.fn 135=some zwP:=by kernel_rfl
def fn118:pr.fn 118=some zwD:=by kernel_rfl
def fn119:pr.fn 119=some zwE:=by kernel_rfl
def fn93:pr.fn 93=some g93:=by kernel_rfl
def fn117:pr.fn 117=some zwC:=by kernel_rfl
def fn92:pr.fn 92=some g92:=by kernel_rfl
def fn71:pr.fn 71=some g71:=by kernel_rfl
def fn73:pr.fn 73=some g73:=by kernel_rfl
def fn69:pr.fn 69=some g69:=by kernel_rfl
def fn55:pr.fn 55=some g55:=by kernel_rfl
def fn43:pr.fn 43=some g43:=by kernel_rfl
def fn106:pr.fn 106=some zwp:=by kernel_rfl
def fn89:pr.fn 89=some g89:=by kernel_rfl
def fn54:pr.fn 54=some g54:=by kernel_rfl
def fn42:pr.fn 42=some g42:=by kernel_rfl
def fn59:pr.fn 59=some g59:=by kernel_rfl
def fn60:pr.fn 60=some g60:=by kernel_rfl
def fn96:pr.fn 96=some g96:=by kernel_rfl
def zL4{f:Nat}{args:List D}{h:T Ob}{c:Nat}{x:F}(h1:pr.fn f=none)(h2:pr.ext f args=some x):RO pr f args h c x.d:=by
 refine⟨c,Z3 _,1,fun n hn=> ?_⟩;obtain⟨m,rfl⟩ :∃m,n=m+1:=⟨n - 1,by omega⟩
 simp only[zcG,h1,h2]
theorem zut:∀a b:Str,Go.Lib.compareBytes a b=zgH a b
 |[],[]=>rfl
 |[],b::l=>by simp[Go.Lib.compareBytes,zgH,Go.Op.bytesLess]
 |a::l,[]=>by simp[Go.Lib.compareBytes,zgH,Go.Op.bytesLess]
 |a::l,b::m=>by
  have ih:=zut l m;unfold Go.Lib.compareBytes zgH Go.Op.bytesLess
  by_cases h1:a<b
  .simp[h1]
  .by_cases h2:b<a
   .have h3:a≠b:=fun e=>by subst e;exact h1 h2
    simp[h1,h2,h3]
   .have h3:a=b:=UInt8.le_antisymm (UInt8.not_lt.1 h2) (UInt8.not_lt.1 h1);subst h3;simp only[h1,if_false,ih,zgH];simp
def ro120(a b:Str)(h:T Ob)(c:Nat):RO pr 120 [.f (.s a),.f (.s b)] h c (.f (.i .i64 (zgH a b))):=by
 have:=zL4 (h:=h) (c:=c) (f:=120) (args:=[.f (.s a),.f (.s b)]) (x:= .i .i64 (Go.Lib.compareBytes a b)) (by kernel_rfl) rfl;rw[zut]at this;exact this
def zye(a:Int):Ans pr 134 [.i .i64 a] (.b false):=by
 refine zco fn134 ?_;simp only[zwO,rU];simp[rW,st0,zaj]
def zyg(a:Int):Ans pr 135 [.i .i64 a] (.b false):=by
 refine zco fn135 ?_;simp only[zwP,rU];simp[rW,st0,zaj]
def zJB(a b:Int):Ans pr 118 [.i .i64 a,.i .i64 b] (.i .i64 (zdZ a b)):=by
 refine zco fn118 ?_;simp only[zwD,rU];have q1:=fun k=>zaB (k:=k) (zye a)
 have q2:=fun k=>zaB (k:=k) (zye b)
 unfold zdZ
 by_cases h1:a<b
 .have h2:¬a=b:=by omega
  simp[rW,st0,zaj,q1,q2,h1,h2]
 .by_cases h2:b<a
  .have h3:¬a=b:=by omega
   simp[rW,st0,zaj,q1,q2,h1,h2,h3]
  .have h3:a=b:=by omega
   simp[rW,st0,zaj,q1,q2,h1,h2,h3]
def zJC(a b:Int):Ans pr 119 [.i .i64 a,.i .i64 b] (.i .i64 (zdZ a b)):=by
 refine zco fn119 ?_;simp only[zwE,rU];have q1:=fun k=>zaB (k:=k) (zyg a)
 have q2:=fun k=>zaB (k:=k) (zyg b)
 unfold zdZ
 by_cases h1:a<b
 .have h2:¬a=b:=by omega
  simp[rW,st0,zaj,q1,q2,h1,h2]
 .by_cases h2:b<a
  .have h3:¬a=b:=by omega
   simp[rW,st0,zaj,q1,q2,h1,h2,h3]
  .have h3:a=b:=by omega
   simp[rW,st0,zaj,q1,q2,h1,h2,h3]
def zvW(a b:Str):Ans pr 93 [.s a,.s b] (.i .i64 (zgH a b)):=by
 refine zco fn93 ?_;simp only[g93,rU];simp[rW,st0,zaj];refine zbB (ro120 a b _ _) ?_ ?_
 .simp only[rG];omega
 .intro mx;simp[rW,st0,zaj]
def zJA(a b c:Int):Ans pr 117 [.sl 1 [[.i .i64 a],[.i .i64 b],[.i .i64 c]]] (.i .i64 (if a≠0 then a else if b≠0 then b else c)):=by
 refine zco fn117 ?_;simp only[zwC,rU];have w1:IntKind.i64.wrap 1=1:=rfl;have w2:IntKind.i64.wrap 2=2:=rfl;have w3:IntKind.i64.wrap 3=3:=rfl;simp[rW,st0,zaj];refine round ?_
 by_cases ha:a=0
 .by_cases hb:b=0
  .simp[rW,ha,hb,w1];refine round ?_;simp[rW,ha,hb,w2];refine round ?_
   by_cases hc:c=0
   .simp[rW,hc,w3];refine round ?_;simp[rW,hc]
   .simp[rW,hc]
  .simp[rW,ha,hb,w1];refine round ?_;simp[rW,hb]
 .simp[rW,ha]
def zvS(a b:Int):Ans pr 92 [.ag (vF a),.ag (vF b)] (.i .i64 (zdZ a b)):=by
 refine zco fn92 ?_;simp only[g92,rU];have q1:=fun k=>zaB (k:=k) (zJB 1 1)
 have q2:=fun k=>zaB (k:=k) (zJC a b)
 have q3:=fun k=>zaB (k:=k) (zvW [] [])
 have q4:=fun k=>zaB (k:=k) (zJA (zdZ 1 1) (zdZ a b) (zgH [] []))
 rw[(show zdZ 1 1=0 from rfl)]at q1 q4;rw[(show zgH [] []=0 from rfl)]at q3 q4;have e:(if(0:Int)≠0 then 0 else if zdZ a b≠0 then zdZ a b else 0)=zdZ a b:=by
  simp only[ne_eq,not_true_eq_false,if_false];split
  .rfl
  .rename_i h;simp at h;exact h.symm
 rw[e]at q4;simp[rW,st0,zaj,vF];refine zaL ?_;simp[rW,st0,zaj,vF,q1,q2,q3,q4]
def zDh(a b:Trm)(ha:zav a)(hb:zav b):Ans pr 71 [.ag (tmF a),.ag (tmF b)] (.i .i64 (zaT a b)):=by
 refine zco fn71 ?_;simp only[g71,rU];cases a with
 |cst a=>
  cases b with
  |cst b=>
   have q:=fun k=>zaB (k:=k) (zvS a b)
   simp only[vF]at q;simp[rW,st0,zaj,tmF,vF,zaT,q]
  |var b=>
   simp only[zav]at hb;simp[rW,st0,zaj,tmF,zaT,hb]
 |var a=>
  cases b with
  |cst b=>
   simp only[zav]at ha;simp[rW,st0,zaj,tmF,zaT,ha]
  |var b=>
   simp only[zav]at ha hb;have q:=fun k=>zaB (k:=k) (zvW a b)
   simp[rW,st0,zaj,tmF,zaT,ha,hb,q]
def zjL(a b:Trm)(ha:zav a)(hb:zav b):Ans pr 73 [.ag (tmF a),.ag (tmF b)] (.b (zb2 a b)):=by
 unfold zb2;refine zco fn73 ?_;simp only[g73,rU];have q:=fun k=>zaB (k:=k) (zDh a b ha hb)
 simp only[tmE]at q;simp[rW,st0,zaj,tmE,q]
def ans69(t:Trm)(ht:zav t):Ans pr 69 [.ag (tmF t)] (.ag (tmF t)):=by
 refine zco fn69 ?_;simp only[g69,rU];cases t with
 |cst v=>simp[rW,st0,zaj,tmF]
 |var v=>
  simp only[zav]at ht;simp[rW,st0,zaj,tmF,ht]
def ixP{α:Type}(l:List α)(p:α->Bool):Int:=match l.findIdx? p with
 |some n=>n
 |none=> -1
def zhN{α:Type}{l:List α}{p:α->Bool}(h:∀a∈l,p a=false):ixP l p= -1:=by
 have:l.findIdx? p=none:=Z44.2 h;simp[ixP,this]
def zgy{α:Type}{l:List α}{p:α->Bool}{n:Nat}(h:n<l.length)(h1:p l[n]=true)(h2:∀m (h':m<n),p (l[m]'(by omega))=false):ixP l p=n:=by
 have:l.findIdx? p=some n:=by
  rw[Z27];exact⟨h,h1,fun j hj=>by simpa using h2 j hj⟩
 simp[ixP,this]
def zjo{α:Type}(l:List α)(p:α->Bool):decide (ixP l p≥0)=l.any p:=by
 cases h:l.any p with
 |true=>
  unfold ixP;cases h2:l.findIdx? p with
  |some n=>simp
  |none=>rw[Z44]at h2;simp at h;obtain⟨x,hx,hp⟩ :=h;rw[h2 x hx]at hp;cases hp
 |false=>
  have:=zhN (l:=l) (p:=p) (by simpa using h);simp[this]
def ans55(l:List Str)(x:Str)(hl:l.length<1000000):Ans pr 55 [zaQ l,.s x] (.i .i64 (ixP l (x== ·))):=by
 refine zco fn55 ?_;simp only[g55,rU];simp[rW,st0,zaj,zbY,zcs];refine zeU l (x== ·) (fun n s=>s.tm.get 0=some (.f (zaQ l))/\s.tm.get 1=some (.f (.s x))/\s.tm.get 7=some (.f (.i .i64 l.length))/\s.tm.get 8=some (.f (.i .i64 n))) (fun x s=>x= .exit 0) (fun n y s=>y= .ret/\s.tm.get 4=some (.f (.i .i64 n))) ?_ ?_ _ ?_ ?_ ?_
 .rintro n s hn ⟨h0,h1,h7,h8⟩;have hw:=zaq n (by omega)
  by_cases he:x=l[n]
  .simp[rW,h0,h1,h7,h8,zcs,zdz,hn,he]
  .simp[rW,h0,h1,h7,h8,zcs,zdz,hn,he,hw]
 .rintro s ⟨h0,h1,h7,h8⟩;simp[rW,h0,h1,h7,h8,zcs]
 .simp[rW,st0,zaj]
 .rintro h x s rfl;rw[zhN h];simp[rW,st0]
 .rintro n hn hp hm x s ⟨rfl,h4⟩;rw[zgy hn hp hm];simp[rW,h4]
def zAy(l:List Str)(x:Str):l.any (x== ·)=l.any (· ==x):=by
  congr 1;funext a;exact Bool.beq_comm
def zvR(l:List Str)(x:Str)(hl:l.length<1000000):Ans pr 43 [zaQ l,.s x] (.b (l.any (· ==x))):=by
  refine zco fn43 ?_;simp only[g43,rU];have q:=fun k=>zaB (k:=k) (ans55 l x hl)
  have e:=zjo l (x== ·);rw[zAy]at e;rw[<-e];simp[rW,st0,zaj,zbY,q]
def zex(l:List Nat):F:=slc 1 (l.map fun n:Nat=>[F.i .i64 (n:Int)])
def zsv(l:List Nat):(zex l).d= .f (zex l):=ziN ..
def zio(l:List Nat):zbn (.f (zex l))=some l.length:=by simp[zex,zgi]
def zpG(l:List Nat)(n:Nat):iaB 1 (.f (zex l)) n=(l[n]?).map fun k:Nat=>D.fptr [F.i .i64 (k:Int)]:=by simp[zex,zhz,Function.comp_def]
def zJx(l:List Nat)(x:Nat)(hl:l.length<1000000):Ans pr 106 [zex l,.i .i64 x] (.i .i64 (ixP l (x== ·))):=by
 refine zco fn106 ?_;simp only[zwp,rU];simp[rW,st0,zaj,zsv,zio];refine zeU l (x== ·) (fun n s=>s.tm.get 0=some (.f (zex l))/\s.tm.get 1=some (.f (.i .i64 x))/\s.tm.get 7=some (.f (.i .i64 l.length))/\s.tm.get 8=some (.f (.i .i64 n))) (fun x s=>x= .exit 0) (fun n y s=>y= .ret/\s.tm.get 4=some (.f (.i .i64 n))) ?_ ?_ _ ?_ ?_ ?_
 .rintro n s hn ⟨h0,h1,h7,h8⟩;have hw:=zaq n (by omega)
  by_cases he:x=l[n]
  .simp[rW,h0,h1,h7,h8,zio,zpG,hn,he]
  .have he':¬((x:Int)=(l[n]:Int)):=by omega
   simp[rW,h0,h1,h7,h8,zio,zpG,hn,he,he',hw]
 .rintro s ⟨h0,h1,h7,h8⟩;simp[rW,h0,h1,h7,h8,zio]
 .simp[rW,st0,zaj]
 .rintro h x s rfl;rw[zhN h];simp[rW,st0]
 .rintro n hn hp hm x s ⟨rfl,h4⟩;rw[zgy hn hp hm];simp[rW,h4]
def ans89(l:List Nat)(x:Nat)(hl:l.length<1000000):Ans pr 89 [zex l,.i .i64 x] (.b (l.any (x== ·))):=by
 refine zco fn89 ?_;simp only[g89,rU];have q:=fun k=>zaB (k:=k) (zJx l x hl)
 have e:=zjo l (x== ·);rw[<-e];simp[rW,st0,zaj,zsv,q]
def tsA(c:CQ):List Trm:=c.as.flatMap (·.ts)
def ts2(k:Cm):List Trm:=[k.l,k.r]
def tsC(c:CQ):List Trm:=tsA c++c.cs.flatMap ts2
def zkr(l:List Trm):(zaC l).take l.length=zaC l:=by rw[<-zbt l,Z8]
theorem zfv{α β:Type}(f:α->List β)(m:Nat):∀(l:List α),(∀a∈l,(f a).length<=m)->(l.flatMap f).length<=m*l.length
 |[],_=>by simp
 |a::l,h=>by
  have h1:=h a (by simp);have h2:=zfv f m l fun b hb=>h b (by simp[hb])
  rw[List.flatMap_cons,Z17,Z24,Nat.mul_add];omega
def zpS{c:CQ}(hc:CqSm c):(tsC c).length<=48:=by
 have h1:=zfv (·.ts) 2 c.as hc.s2;have h2:=zfv ts2 2 c.cs (by simp[ts2]);have:=hc.sa;have:=hc.sc;simp only[tsC,tsA,Z17];omega
theorem zeY{α β:Type}(f:α->List β):∀(l:List α) (x:List β),l.foldl (fun x a=>x++f a) x=x++l.flatMap f
 |[],x=>by simp
 |a::l,x=>by rw[Z43,zeY f l,List.flatMap_cons,Z33]
def tmD(u:Trm):List D:=[.f (.s (tv u)),.f (.i .i64 (tk u)),.f (.i .i64 (tn u)),.f (.s [])]
def zfm(l:List Trm)(n:Nat)(h:n<l.length):(zaC l)[n]? =some (tmD l[n]):=by
 simp[zaC,h,tmE,tmD]
def zEO(t:Trm):(tmF t).map D.f=tmD t:=by cases t<;>rfl
def cmD(k:Cm):List D:= .f (.i .i64 k.op)::(tmD k.l++tmD k.r)
def zDs(k:Cm):(cmF k).map D.f=cmD k:=by
 unfold cmF cmD;rw[Z11,Z21,zEO,zEO]
def zfT(c:CQ):(D.f (zaX c)).cells=some [.f (zaX c)]:=by
 unfold zaX csF;split
 .rfl
 .exact zii _ _
def zgs(c:CQ):(D.f (za1 c)).cells=some [.f (za1 c)]:=by
 unfold za1 Sm.asF;split
 .rfl
 .exact zii _ _
def zJ5(l:List Trm):(D.f (zdL l)).cells=some [.f (zdL l)]:=zii _ _
def zpC{h h':T Ob}{lo c c' es:Nat}{d:D}{els:List (List D)}(hg:Gro h lo c es d els)(hF:d.isF=true):Gro h' lo c' es d els:=by
 rcases hg with hg|⟨id,ro,rfl,_⟩
 .exact .inl hg
 .simp[D.isF]at hF
def zin{h:T Ob}{lo lo' c es:Nat}{d:D}{els:List (List D)}(hg:Gro h lo c es d els)(hl:lo'<=lo):Gro h lo' c es d els:=by
 rcases hg with hg|⟨id,ro,h1,h2,h3,h4,h5,h6⟩
 .exact .inl hg
 .exact .inr ⟨id,ro,h1,h2,h3,h4,by omega,h6⟩
def zgw{h:T Ob}{lo c es:Nat}{d:D}{els:List (List D)}(hg:Gro h lo c es d els){n:Nat}(hn:n<els.length):∃id ro,iaB es d n=some (.ptr id es n 0)/\h.get id=some (.arr es ro els)/\lo<=id/\id<c:=by
 rcases hg with⟨-,h2⟩ |⟨id,ro,rfl,h2,h3,h4,h5,h6⟩
 .subst h2;simp at hn
 .exact⟨id,ro,by simp[zrh,hn],h3,h5,h6⟩
structure RdQ(h:T Ob)(c:Nat)(dA dC:D)(q:CQ):Prop where
 ca:dA.cells=some [dA]
 cc:dC.cells=some [dC]
 la:zbn dA=some q.as.length
 lc:zbn dC=some q.cs.length
 aa:∀n (hn:n<q.as.length),∃p tr rd rd2,iaB 3 dA n=some p/\tr.cells=some [tr]/\∀h':T Ob,Frm h h' c->zbh true 3 h'.get p=some (.ag [.f (.s q.as[n].r),.f (.b q.as[n].neg),tr],rd)/\elemsOf 4 h'.get tr=some (zaC q.as[n].ts,rd2)
 kk:∀n (hn:n<q.cs.length),∃p rd,iaB 9 dC n=some p/\∀h':T Ob,Frm h h' c->zbh true 9 h'.get p=some (.ag (cmD q.cs[n]),rd)
def zik{h h1 h2:T Ob}{c c':Nat}(a:Frm h h1 c)(b:Frm h1 h2 c')(hc:c<=c'):Frm h h2 c:=fun x hx=>(b x (by omega)).trans (a x hx)
def RdQ.up{h h':T Ob}{c c':Nat}{dA dC:D}{q:CQ}(H:RdQ h c dA dC q)(hf:Frm h h' c)(hc:c<=c'):RdQ h' c' dA dC q:=
 ⟨H.ca,H.cc,H.la,H.lc,fun n hn=>by
  obtain⟨p,tr,rd,rd2,h1,h2,h3⟩ :=H.aa n hn;exact⟨p,tr,rd,rd2,h1,h2,fun h2 hh=>h3 h2 (zik hf hh hc)⟩,fun n hn=>by
  obtain⟨p,rd,h1,h3⟩ :=H.kk n hn;exact⟨p,rd,h1,fun h2 hh=>h3 h2 (zik hf hh hc)⟩⟩
def rdQ_F(q:CQ)(h:T Ob)(c:Nat):RdQ h c (.f (za1 q)) (.f (zaX q)) q:=by
 refine⟨zgs q,zfT q,zfb q,zh3 q,fun n hn=> ?_,fun n hn=> ?_⟩
 .exact⟨.fptr (atF q.as[n]),.f (zdL q.as[n].ts),[],[],by simp[zfN,hn],zJ5 _,fun h' _=>⟨by simp[zbh,zf0,atE],zkV _ _⟩⟩
 .refine⟨.fptr (cmF q.cs[n]),[],by simp[zi7,hn],fun h' _=> ?_⟩;simp[zbh,zf0,cmF,tmE,cmD,tmD]
def T1(h:T Ob)(c0:Nat)(dA dC:D)(c:CQ)(l:List Trm)(n:Nat)(s:St):Prop:=∃d,s.tm.get 1=some (.ptr c0 2 0 0)/\s.tm.get 11=some (.f (.i .i64 n))/\s.tm.get 9=some (dA)/\s.tm.get 10=some (.f (.i .i64 c.as.length))/\s.tm.get 3=some (d)/\s.h.get c0=some (.arr 2 0 [[dA,dC]])/\Gro s.h (c0+1) s.c 4 d (zaC l)/\c0+1<=s.c/\Frm h s.h c0
def T2(h:T Ob)(c0:Nat)(dC:D)(c:CQ)(l:List Trm)(n:Nat)(s:St):Prop:=∃d,s.tm.get 23=some (.f (.i .i64 n))/\s.tm.get 21=some (dC)/\s.tm.get 22=some (.f (.i .i64 c.cs.length))/\s.tm.get 3=some (d)/\Gro s.h (c0+1) s.c 4 d (zaC l)/\c0+1<=s.c/\Frm h s.h c0
def eff54(c:CQ)(hc:CqSm c){h:T Ob}{c0:Nat}{dA dC:D}(hr:RdQ h c0 dA dC c):Eff pr 54 [.ag [dA,dC]] h c0 fun d h' c'=>Frm h h' c0/\Gro h' c0 c' 4 d (zaC (tsC c)):=by
 refine zcx zaS fn54 ?_;simp only[g54,rU];simp[rW,st0,zaj,hr.ca,hr.cc,hr.la];refine zeF c.as (fun x a=>x++a.ts) [] (fun n a s=>T1 h c0 dA dC c a n s) (fun x s=>x= .exit 0/\∃n,T1 h c0 dA dC c (tsA c) n s) ?_ ?_ _ ?_ ?_
 .rintro n a s hn ha ⟨d,h1,h11,h9,h10,h3,gc0,hg,hc1,hf⟩;have hw:=zaq n (by have:=hc.sa;omega);have hal:a.length<=144:=by
   rw[zeY,Z29]at ha;have:=zfv (fun a:Atm=>a.ts) 12 (c.as.take n) fun b hb=>hc.st b (Z14 hb)
   rw[<-ha]at this;have:=hc.sa;simp at*;omega
  have hst:=hc.st _ (Z2 hn);obtain⟨p,tr,rd,rd2,hp1,hp2,hp3⟩ :=hr.aa n hn;have hp4:=(hp3 s.h hf).1;have hp5:=fun o o'=>(hp3 ((s.h.set s.c o).set s.c o') fun x hx=>by
   have nx:¬x=s.c:=by omega
   simp[Vse.T.zab,nx,hf x hx]).2
  generalize hA:c.as[n]=A at hst hp4 hp5|-;have c0c:¬(c0=s.c):=by omega
  simp[rW,h1,h11,h9,h10,h3,gc0,hn,hA,hp1,hp2,hp4,hp5];refine znN (zbr (c':=s.c+1) hg (by omega) fun id _ h2=> ?_) (by omega) (by simp only[zbt];omega) (by omega) ?_
  .rw[Vse.T.zab,if_neg (by omega),Vse.T.zab,if_neg (by omega)]
  .intro r hr1 hr2 hr3 hr4 _ _;have e0:=hr4 c0 (by omega) (zbN hg (by omega));rw[Vse.T.zab,if_neg c0c,Vse.T.zab,if_neg c0c,gc0]at e0;refine⟨hr1,?_⟩;simp[rW,h1,h11,h9,h10,h3,gc0,e0,hw,T1];rw[<-zjw];refine⟨hr2,by omega,fun x hx=> ?_⟩;have nx:¬x=s.c:=by omega
   rw[hr4 x (by omega) (zbN hg (by omega))];simp[Vse.T.zab,nx,hf x hx]
 .rintro s ⟨d,h1,h11,h9,h10,h3,gc0,hg,hc1,hf⟩;rw[zeY,Z29]at hg;simp[rW,h1,h11,h9,h10,h3,gc0,T1,hc1];exact⟨⟨_,rfl⟩,hg,hf⟩
 .simp[rW,T1];refine⟨.inl ⟨rfl,rfl⟩,fun x hx=> ?_⟩;have nx:¬x=c0:=by omega
  simp[Vse.T.zab,nx]
 .rintro x s ⟨rfl,n,d,h1,h11,h9,h10,h3,gc0,hg,hc1,hf⟩;simp[rW,h1,h11,h9,h10,h3,gc0,hr.lc];have hl0:(tsA c).length<=144:=by
   have:=zfv (fun a:Atm=>a.ts) 12 c.as hc.st;have:=hc.sa;unfold tsA;omega
  refine zeF c.cs (fun x k=>x++ts2 k) (tsA c) (fun n a s=>T2 h c0 dC c a n s) (fun x s=>x= .exit 2/\∃n,T2 h c0 dC c (tsC c) n s) ?_ ?_ _ ?_ ?_
  .rintro n a s hn ha ⟨d,h23,h21,h22,h3,hg,hc1,hf⟩;have hw:=zaq n (by have:=hc.sc;omega);have hal:a.length<=168:=by
    rw[zeY]at ha;have:=zfv ts2 2 (c.cs.take n) (by simp[ts2]);rw[ha,Z17];have:=hc.sc;simp at*;omega
   obtain⟨p,rd,hp1,hp3⟩ :=hr.kk n hn;have hp4:=hp3 s.h hf;generalize hK:c.cs[n]=K at hp4;simp only[cmD,tmD,Z30,Z29]at hp4;simp[rW,h23,h21,h22,h3,hn,hK,hp1,hp4];refine znN (zbr (c':=s.c+1) hg (by omega) fun id _ h2=> ?_) (by omega) (by simp only[zbt];simp;omega) (by omega) ?_
   .rw[Vse.T.zab,if_neg (by omega),Vse.T.zab,if_neg (by omega)]
   .intro r hr1 hr2 hr3 hr4 _ _;refine⟨hr1,?_⟩;simp[rW,h23,h21,h22,h3,hw,T2];rw[<-zjw];simp only[ts2,zaC,Z11,List.map_nil,tmE]at hr2|-;refine⟨hr2,by omega,fun x hx=> ?_⟩;have nx:¬x=s.c:=by omega
    rw[hr4 x (by omega) (zbN hg (by omega))];simp[Vse.T.zab,nx,hf x hx]
  .rintro s ⟨d,h23,h21,h22,h3,hg,hc1,hf⟩;rw[zeY]at hg;simp[rW,h23,h21,h22,h3,T2,hc1];exact⟨⟨_,rfl⟩,hg,hf⟩
  .simp[rW,h1,h11,h9,h10,h3,gc0,T2,hc1,hg];exact hf
  .rintro x s ⟨rfl,n,d,h23,h21,h22,h3,hg,hc1,hf⟩;simp[rW,h3,zca];exact⟨⟨hf,zin hg (by omega)⟩,fun _ hF=>⟨fun _ _=>rfl,zpC (zin hg (by omega)) hF⟩⟩
def zkJ(a b:List Trm)(x:List Str):zes x (a++b)=zes (zes x a) b:=by simp[zes]
def zot(c:CQ):(tsC c).foldl (fun l t=>zde l (tv t)) []=vrs c:=by
 have h1:∀(l:List Atm) (x:List Str),zes x (l.flatMap (·.ts))=l.foldl (fun l a=>zes l a.ts) x:=by
  intro l
  induction l with
  |nil=>intro x;rfl
  |cons a l ih=>intro x;rw[List.flatMap_cons,zkJ,ih];rfl
 have h2:∀(l:List Cm) (x:List Str),zes x (l.flatMap ts2)=l.foldl (fun l k=>zde (zde l (tv k.l)) (tv k.r)) x:=by
  intro l
  induction l with
  |nil=>intro x;rfl
  |cons a l ih=>intro x;rw[List.flatMap_cons,zkJ,ih];rfl
 show zes [] (tsC c)=vrs c;unfold tsC vrs tsA;rw[zkJ,h1,h2]
def stepV(l:List Str)(x:Str):zde l x=if x≠[]/\¬(l.any (· ==x)=true)then l++[x]else l:=by
  unfold zde
  by_cases h1:x=[]<;>by_cases h2:l.any (· ==x)=true<;>simp[h1,h2]
def VP(h1:T Ob)(P:Nat)(dT:D)(L:List Trm)(l:List Str)(n:Nat)(s:St):Prop:=∃d,s.tm.get 7=some (dT)/\s.tm.get 8=some (.f (.i .i64 L.length))/\s.tm.get 9=some (.f (.i .i64 n))/\s.tm.get 3=some (d)/\Gro s.h P s.c 1 d (zbi l)/\P<=s.c/\Frm h1 s.h P
def zwe(c:CQ)(hc:CqSm c){h:T Ob}{c0:Nat}{dA dC:D}(hr:RdQ h c0 dA dC c):Eff pr 42 [.ag [dA,dC]] h c0 fun d h' c'=>Frm h h' c0/\Gro h' c0 c' 1 d (zbi (vrs c)):=by
  refine zcx zaS fn42 ?_;simp only[g42,rU];have hL:=zpS hc;have hv:=zot c;have hfr:∀o,Frm h (h.set c0 o) c0:=fun o x hx=>by
    have nx:¬x=c0:=by omega
    simp[Vse.T.zab,nx]
  simp[rW,st0,zaj,hr.ca,hr.cc];refine zd6 rfl rfl (eff54 c hc (hr.up (hfr _) (by simp only[rG];omega))) ?_;rintro dT h' c' lw mx ⟨hf,hg⟩ hcc;simp only[rG]at hf hg hcc;have hf0:Frm h h' c0:=zik (hfr _) hf (by omega);have hlen:zbn dT=some (tsC c).length:=by rw[zda hg,zbt]
  generalize tsC c=L at hg hlen hL hv;simp[rW,hlen];refine zeF L (fun l t=>zde l (tv t)) [] (fun n a s=>VP h' c' dT L a n s) (fun x s=>x= .exit 0/\∃n,VP h' c' dT L (vrs c) n s) ?_ ?_ _ ?_ ?_
  . rintro n a s hn ha ⟨d,h7,h8,h9,h3,hgn,hc1,hfn⟩;have hw:=zaq n (by omega);have hal:a.length<=168:=by
      have:=zkK (L.take n) [];rw[show zes [] (L.take n)=a from ha.symm]at this;simp at this;omega
    have qa:=fun k=>zaB (k:=k) (zvR a (tv L[n]) (by omega))
    rw[stepV];have m1:(1<=zal)=True:=zcj (by omega);have m2:(16<=zal)=True:=zcj (by omega);have m3:(a.length+1<=zal)=True:=zcj (by omega);have m4:((a.length+1)*16<=zal)=True:=zcj (by omega);have hlt:(a.length+1<=a.length)=False:=leF (by omega);obtain⟨X,r0,hi,gX,hX1,hX2⟩ :=zgw hg (n:=n) (by rw[zbt];exact hn);have gX':s.h.get X=some (.arr 4 r0 (zaC L)):=by rw[hfn X hX2,gX]
    have ht:=zfm L n hn;have ht2:∀h:n< (zaC L).length,(zaC L)[n]=tmD L[n]:=fun h=>by
      rw[Z0 h]at ht;exact Option.some.inj ht
    have hnt:n< (zaC L).length:=by rw[zbt];exact hn
    have nX:¬X=s.c:=by omega
    have hfq:∀h2:T Ob,(∀x,x<c'->h2.get x=s.h.get x)->Frm h' h2 c':=fun h2 hh x hx=>(hh x hx).trans (hfn x hx)
    generalize hT:L[n]=T at qa ht ht2|-;simp only[tmD]at ht ht2
    by_cases hx:tv T=[]
    . simp[rW,h7,h8,h9,h3,hn,hi,gX',ht,ht2,hnt,hx,VP,hw,nX];exact⟨zbr hgn (by omega) fun id _ h2=>by rw[Vse.T.zab,if_neg (by omega),Vse.T.zab,if_neg (by omega)],by omega,hfq _ fun x hx=>by simp[Vse.T.zab,show ¬x=s.c by omega]⟩
    . have hx':tv T≠[]:=hx;rcases hgn with⟨rfl,hn0⟩ |⟨id,ro,rfl,hne,hid,hro,hlid,hidc⟩
      . have:=ztz hn0;subst this;rw[(show zaQ []= .nils from rfl)]at qa;simp[rW,h7,h8,h9,h3,hn,hi,gX',ht,ht2,hnt,hx,qa,m1,m2,VP,hw,nX];exact⟨.inr ⟨s.c+1,0,rfl,by simp[zbi],by simp[Vse.T.zab,zbi],Nat.zero_le _,by omega,by omega⟩,by omega,hfq _ fun x hx=>by simp[Vse.T.zab,show ¬x=s.c by omega,show ¬x=s.c+1 by omega]⟩
      . rw[zbW]at*;have hl0:a≠[]:=fun e=>hne (by rw[e];rfl)
        have hz:=ztA hl0;have hic:¬id=s.c:=by omega
        have hci:¬s.c=id:=by omega
        have hidc':id<s.c+1:=by omega
        generalize a.any (· ==tv T)=b at qa|-;cases b with
        | true=>
          by_cases hr:a.length<=ro
          . simp[rW,h7,h8,h9,h3,hn,hi,gX',ht,ht2,hnt,hx,qa,VP,hw,nX,hid,zbW,zg4,hz,zhA,hic,hci,hidc',hr];exact⟨.inr ⟨id,ro,by rw[zbW],hne,by simp[Vse.T.zab,hic,hid],by rw[zbW];exact hro,hlid,by omega⟩,by omega,hfq _ fun x hx=>by simp[Vse.T.zab,show ¬x=s.c by omega,show ¬x=id by omega]⟩
          . simp[rW,h7,h8,h9,h3,hn,hi,gX',ht,ht2,hnt,hx,qa,VP,hw,nX,hid,zbW,zg4,hz,zhA,hic,hci,hidc',hr];exact⟨.inr ⟨id,a.length,by rw[zbW],hne,by simp[Vse.T.zab],by rw[zbW];omega,hlid,by omega⟩,by omega,hfq _ fun x hx=>by simp[Vse.T.zab,show ¬x=s.c by omega,show ¬x=id by omega]⟩
        | false=>
          by_cases hr:a.length<=ro
          . simp[rW,h7,h8,h9,h3,hn,hi,gX',ht,ht2,hnt,hx,qa,VP,hw,nX,hid,zbW,zg4,hz,zhA,hic,hci,hidc',hr,hro,m3,m4,hlt];exact⟨by omega,.inr ⟨s.c+1,ro,by simp[zbi],by simp[zbi],by simp[Vse.T.zab,zbi],by rw[zbW,Z17];omega,by omega,by omega⟩,by omega,hfq _ fun x hx=>by simp[Vse.T.zab,Vse.T.zem,show ¬x=s.c by omega,show ¬x=s.c+1 by omega,show ¬x=id by omega]⟩
          . simp[rW,h7,h8,h9,h3,hn,hi,gX',ht,ht2,hnt,hx,qa,VP,hw,nX,hid,zbW,zg4,hz,zhA,hic,hci,hidc',hr,hro,m3,m4,hlt];exact⟨by omega,.inr ⟨s.c+1,a.length,by simp[zbi],by simp[zbi],by simp[Vse.T.zab,zbi],by rw[zbW,Z17];omega,by omega,by omega⟩,by omega,hfq _ fun x hx=>by simp[Vse.T.zab,Vse.T.zem,show ¬x=s.c by omega,show ¬x=s.c+1 by omega,show ¬x=id by omega]⟩
  . rintro s ⟨d,h7,h8,h9,h3,hgn,hc1,hfn⟩;rw[hv]at hgn;simp[rW,h7,h8,h9,h3,VP,hc1];exact⟨⟨_,rfl⟩,hgn,hfn⟩
  . simp[rW,VP];exact⟨.inl ⟨rfl,rfl⟩,fun _ _=>rfl⟩
  . rintro x s ⟨rfl,n,d,h7,h8,h9,h3,hgn,hc1,hfn⟩;simp[rW,h3,zca];exact⟨⟨zik hf0 hfn (by omega),zin hgn (by omega)⟩,fun _ hF=>⟨fun _ _=>rfl,zpC (zin hgn (by omega)) hF⟩⟩
def zGu{f:Nat}{fs:List F}{y:F}{P:D->T Ob->Nat->Prop}(he:Eff pr f (F.dL fs) .e 0 P)(hz:∀d h c,P d h c->∃rd,frz h.get 12 d=some (y,rd)):Ans pr f fs y:=by
 obtain⟨q,h1,h2,h3,h4⟩ :=he;obtain⟨rd,h5⟩ :=hz _ _ _ h2;exact⟨q,rd,h1,h5⟩
def zq3(c:CQ)(hc:CqSm c):Ans pr 42 [.ag (cqF c)] (zaQ (vrs c)):=by
 have e:F.dL [.ag (cqF c)]=[.ag [.f (za1 c),.f (zaX c)]]:=by simp[F.dL,F.d,cqE,zcH,zcI]
 refine zGu (e▸zwe c hc (rdQ_F c .e 0)) fun d h c' hp=>zGR (zin hp.2 (Nat.zero_le _))
def fn45:pr.fn 45=some g45:=by kernel_rfl
def fn63:pr.fn 63=some g63:=by kernel_rfl
def fn85:pr.fn 85=some g85:=by kernel_rfl
def fn100:pr.fn 100=some zwo:=by kernel_rfl
def zzT(f:Go.Vse.A->Option D)(x a b:Go.Vse.A):O.res f (.sls x (some a) (some b))=(f x).bind fun x=>(f a).bind fun a=>(f b).bind fun b=>some (.sls x (some a) (some b)):=by
 simp only[O.res,zcC];cases f x<;>cases f a<;>cases f b<;>rfl
def zEA{pr:Pr}{s:St}{Q:St->Prop}{dst:Option Nat}{l:List Go.Vse.Op}{x a b:Go.Vse.A}:wpO pr (⟨dst,none,.sls x (some a) (some b)⟩ ::l) s Q↔oB (((O.sls x (some a) (some b)).res (zad s.tm)).bind (opv s.h.get s.c)) fun r=>zao r.c r.wr=true/\wpO pr l (s.aft dst r.d r.wr r.c) Q:=zc1 rfl
def zE9(h:Nat->Option Ob)(c:Nat){l:Str}{a b:Nat}(ha:a<=b)(hb:b<=l.length):opv h c (.sls (.f (.s l)) (some (.f (.i .i64 (a:Int)))) (some (.f (.i .i64 (b:Int)))))=some {d:= .f (.s ((l.drop a).take (b - a))),c:=c}:=by
 simp[opv,za4,zbu,ha,hb,okF]
def dg1:Str:=[48,49,50,51,52,53,54,55,56,57,97,98,99,100,101,102,103,104,105,106,107,108,109,110,111,112,113,114,115,116,117,118,119,120,121,122]
def dg2:Str:=(List.range 100).flatMap fun n=>[UInt8.ofNat (48+n/10),UInt8.ofNat (48+n%10)]
def dgt(n:Nat):Str:=if n<10 then(dg1.drop n).take 1 else(dg2.drop (2*n)).take 2
def zGl:∀n<100,∀m<100,dgt n=dgt m->n=m:=by
 have h:∀n<100,(dgt n).foldl (fun x d=>10*x+(d.toNat - 48)) 0=n:=by decide
 intro n hn m hm e;rw[<-h n hn,<-h m hm,e]
def ro100(n:Nat)(hn:n<100){h:T Ob}{c:Nat}:RO pr 100 [.f (.i .i64 n)] h c (.f (.s (dgt n))):=by
 refine zcr zaS fn100 rfl ?_;simp only[zwo,rU];have hw1:=zaq n (by omega);have e1:IntKind.i64.wrap ((n:Int)*2)=((2*n:Nat):Int):=by rw[wrap_i64 _ (by omega) (by omega)];omega
 have e2:IntKind.i64.wrap (((2*n:Nat):Int)+2)=((2*n+2:Nat):Int):=by rw[wrap_i64 _ (by omega) (by omega)];omega
 have bm:za3 .mul (.i .i64 (n:Int)) (.i .i64 2)=some (.i .i64 (IntKind.i64.wrap ((n:Int)*2))):=rfl;unfold dgt
 by_cases h1:n<10
 .have h1':(n:Int)<10:=by omega
  have v:=fun h c=>zE9 h c (l:=dg1) (a:=n) (b:=n+1) (by omega) (by rw[show dg1.length=36 from rfl];omega)
  rw[show n+1 - n=1 by omega]at v;unfold dg1 at v|-;dsimp only at v|-
  push_cast at v e1 e2
  simp[rW,st0,zaj,h1,h1',hw1,zEA,zzT,v,zaK]
 .have h1':¬((n:Int)<10):=by omega
  have v:=fun h c=>zE9 h c (l:=dg2) (a:=2*n) (b:=2*n+2) (by omega) (by rw[show dg2.length=200 by decide];omega)
  rw[show 2*n+2 - 2*n=2 by omega]at v;have hd:dg2=[48,48,48,49,48,50,48,51,48,52,48,53,48,54,48,55,48,56,48,57,49,48,49,49,49,50,49,51,49,52,49,53,49,54,49,55,49,56,49,57,50,48,50,49,50,50,50,51,50,52,50,53,50,54,50,55,50,56,50,57,51,48,51,49,51,50,51,51,51,52,51,53,51,54,51,55,51,56,51,57,52,48,52,49,52,50,52,51,52,52,52,53,52,54,52,55,52,56,52,57,53,48,53,49,53,50,53,51,53,52,53,53,53,54,53,55,53,56,53,57,54,48,54,49,54,50,54,51,54,52,54,53,54,54,54,55,54,56,54,57,55,48,55,49,55,50,55,51,55,52,55,53,55,54,55,55,55,56,55,57,56,48,56,49,56,50,56,51,56,52,56,53,56,54,56,55,56,56,56,57,57,48,57,49,57,50,57,51,57,52,57,53,57,54,57,55,57,56,57,57]:=by decide
  rw[hd]at v|-;dsimp only at v|-
  push_cast at v e1 e2
  simp[rW,st0,zaj,h1,h1',bm,e1,e2,zEA,zzT,v,zaK]
def ro85(n:Nat)(hn:n<100){h:T Ob}{c:Nat}:RO pr 85 [.f (.i .i64 n),.f (.i .i64 10)] h c (.f (.s (dgt n))):=by
 refine zcr zaS fn85 rfl ?_;simp only[g85,rU];have h1:(0:Int)<=n:=by omega
 have h2:(n:Int)<100:=by omega
 simp[rW,st0,zaj,h1,h2];refine zbB (d:= .f (.s (dgt n))) (ro100 n hn) (Z3 _) ?_;intro mx;simp[rW,zaK]
def ro63(n:Nat)(hn:n<100){h:T Ob}{c:Nat}:RO pr 63 [.f (.i .i64 n)] h c (.f (.s (dgt n))):=by
 refine zcr zaS fn63 rfl ?_;simp only[g63,rU];simp[rW,st0,zaj];refine zbB (d:= .f (.s (dgt n))) (ro85 n hn) (Z3 _) ?_;intro mx;simp[rW,zaK]
def zDf(n:Nat)(hn:n<100):Ans pr 45 [.i .i64 n] (.s (dgt n)):=by
 refine zco fn45 ?_;simp only[g45,rU];simp[rW,st0,zaj];refine zbB (d:= .f (.s (dgt n))) (ro63 n hn) (Z3 _) ?_;intro mx;simp[rW,]
def zzh(h:Nat->Option Ob)(k:Nat)(l:List Nat):zaU (frz h (k+1)) (l.map fun n:Nat=>[D.f (.i .i64 (n:Int))])=some (l.map fun n:Nat=>[F.i .i64 (n:Int)],[]):=zwm h k (fun n:Nat=>F.i .i64 (n:Int)) l
def iE(l:List Nat):List (List D):=l.map fun n:Nat=>[D.f (.i .i64 (n:Int))]
def zcc(l:List Nat):(iE l).length=l.length:=by simp[iE]
def zss(l m:List Nat):iE l++iE m=iE (l++m):=by simp[iE]
def zsr{h:T Ob}{lo c:Nat}{d:D}{l:List Nat}(hg:Gro h lo c 1 d (iE l)):∃rd,frz h.get 12 d=some (zex l,rd):=
 zh7 (k:=11) hg (zzh _ 10 l) (by simp[iE])
def zqH(n:Nat):iE (List.range n)++[[D.f (.i .i64 (n:Int))]]=iE (List.range (n+1)):=by rw[List.range_succ,<-zss];rfl
def AP(N n:Nat)(s:St):Prop:=∃d,s.tm.get 6=some (.f (.i .i64 N))/\s.tm.get 7=some (.f (.i .i64 n))/\s.tm.get 3=some (d)/\Gro s.h 0 s.c 1 d (iE (List.range n))
def ans59(c:CQ)(hl:c.as.length<1000):Ans pr 59 [za1 c] (zex (List.range c.as.length)):=by
 refine zco fn59 ?_;simp only[g59,rU];simp[rW,st0,zaj,zcH,zfb];refine zd5 c.as.length (fun n s=>AP c.as.length n s) (fun x s=>x= .exit 0/\AP c.as.length c.as.length s) ?_ ?_ _ ?_ ?_
 .rintro n s hn ⟨d,h6,h7,h3,hg⟩;have hw:=zaq n (by omega);simp[rW,h6,h7,h3,hn];refine znN hg (by omega) (by simp only[zcc,Z38];simp;omega) (by omega) ?_;intro r hr1 hr2 hr3 hr4 _ _;refine⟨hr1,?_⟩;simp[rW,h6,h7,h3,hw,AP];rw[<-zqH];exact hr2
 .rintro s ⟨d,h6,h7,h3,hg⟩;simp[rW,h6,h7,h3,AP,hg]
 .simp[rW,AP];exact .inl ⟨rfl,rfl⟩
 .rintro x s ⟨rfl,d,h6,h7,h3,hg⟩;obtain⟨rd,hz⟩ :=zsr hg;simp[rW,h6,h7,h3,hz]
def ans60(c:CQ)(hl:c.cs.length<1000):Ans pr 60 [zaX c] (zex (List.range c.cs.length)):=by
 refine zco fn60 ?_;simp only[g60,rU];simp[rW,st0,zaj,zcI,zh3];refine zd5 c.cs.length (fun n s=>AP c.cs.length n s) (fun x s=>x= .exit 0/\AP c.cs.length c.cs.length s) ?_ ?_ _ ?_ ?_
 .rintro n s hn ⟨d,h6,h7,h3,hg⟩;have hw:=zaq n (by omega);simp[rW,h6,h7,h3,hn];refine znN hg (by omega) (by simp only[zcc,Z38];simp;omega) (by omega) ?_;intro r hr1 hr2 hr3 hr4 _ _;refine⟨hr1,?_⟩;simp[rW,h6,h7,h3,hw,AP];rw[<-zqH];exact hr2
 .rintro s ⟨d,h6,h7,h3,hg⟩;simp[rW,h6,h7,h3,AP,hg]
 .simp[rW,AP];exact .inl ⟨rfl,rfl⟩
 .rintro x s ⟨rfl,d,h6,h7,h3,hg⟩;obtain⟨rd,hz⟩ :=zsr hg;simp[rW,h6,h7,h3,hz]
def ans96(x:Cm)(hx:zbU x):Ans pr 96 [.ag (cmF x)] (.b (zxI x)):=by
 have q:=fun k=>zaB (k:=k) (zjL x.l x.r hx.1 hx.2)
 have r:=fun k=>zaB (k:=k) (zvS (tn x.l) (tn x.r))
 refine zco fn96 ?_;simp only[g96,rU];unfold zxI;simp only[tmE,vF]at q r;generalize zb2 x.l x.r=b at q|-
 by_cases h4:tv x.l=[]
 .have h4':=zAj hx.1 h4
  by_cases h5:tv x.r=[]
  .have h5':=zAj hx.2 h5;simp only[h4,h5,h4',h5']at q;have e0:=zp6 (tn x.l) (tn x.r);have e1:=zF9 (tn x.l) (tn x.r);have e2:=zF7 (tn x.l) (tn x.r);have e3:=zF6 (tn x.l) (tn x.r);unfold cmpI;generalize zdZ (tn x.l) (tn x.r)=c at r e0 e1 e2 e3
   by_cases h1:x.op=1
   .cases b<;>simp[rW,st0,zaj,tmE,cmF,q,r,h1,h4,h5,h4',h5',<-e0]
   .by_cases h2:x.op=2
    .cases b<;>simp[rW,st0,zaj,tmE,cmF,q,r,h2,h4,h5,h4',h5',<-e1]
    .by_cases h3:x.op=3
     .cases b<;>simp[rW,st0,zaj,tmE,cmF,q,r,h3,h4,h5,h4',h5',<-e2]
     .by_cases h6:x.op=4
      .cases b<;>simp[rW,st0,zaj,tmE,cmF,q,r,h6,h4,h5,h4',h5',<-e3]
      .cases b<;>simp[rW,st0,zaj,tmE,cmF,q,r,h1,h2,h3,h6,h4,h5,h4',h5']
  .simp only[h4,h4']at q
   by_cases h1:x.op=1
   .cases b<;>simp[rW,st0,zaj,tmE,cmF,q,h1,h4,h4',h5]
   .by_cases h6:x.op=4
    .cases b<;>simp[rW,st0,zaj,tmE,cmF,q,h6,h4,h4',h5]
    .cases b<;>simp[rW,st0,zaj,tmE,cmF,q,h1,h6,h4,h4',h5]
 .by_cases h1:x.op=1
  .cases b<;>simp[rW,st0,zaj,tmE,cmF,q,h1,h4]
  .by_cases h6:x.op=4
   .cases b<;>simp[rW,st0,zaj,tmE,cmF,q,h6,h4]
   .cases b<;>simp[rW,st0,zaj,tmE,cmF,q,h1,h6,h4]
def fn79:pr.fn 79=some g79:=by kernel_rfl
def fn78:pr.fn 78=some g78:=by kernel_rfl
def fn77:pr.fn 77=some g77:=by kernel_rfl
def fn76:pr.fn 76=some g76:=by kernel_rfl
def fn95:pr.fn 95=some g95:=by kernel_rfl
def zna(v:Str):tv (.var v)=v:=rfl
def zm7(v:Str):tk (.var v)=0:=rfl
def zm9(v:Str):tn (.var v)=0:=rfl
def ztG(n:Int):tv (.cst n)=[]:=rfl
def zxD(n:Int):tk (.cst n)=1:=rfl
def zxF(n:Int):tn (.cst n)=n:=rfl
def bE(l:List Bool):List (List D):=l.map fun b=>[D.f (.b b)]
def vix(ns:List Str)(v:Str):Nat:=ns.findIdx (v== ·)
def ziS(j:Nat)(ns:List Str):List (F×D):=match ns with
 |[]=>[]
 |x::l=>(F.s x,D.f (.i .i64 (j:Int)))::ziS (j+1) l
def ixE(ns:List Str):List (F×D):=ziS 0 ns
theorem zmB(v:Str):∀(ns:List Str) (j i:Nat),za9 1 (.s v) (ziS j ns) i=some (if v∈ns then some (i+vix ns v,.f (.i .i64 ((j+vix ns v:Nat):Int)))else none)
 |[],_,_=>rfl
 |x::l,j,i=>by
  simp only[ziS,za9,zfl]
  by_cases h:v=x
  .subst h;simp[vix,List.findIdx_cons]
  .have hb:(v==x)=false:=by simpa using h
   have hb2:¬x=v:=fun e=>h e.symm
   simp only[hb];rw[zmB v l (j+1) (i+1)]
   by_cases hm:v∈l
   .simp only[hm,if_true,Z6,h,false_or,vix,List.findIdx_cons,hb,cond_false];rw[show i+1+List.findIdx (fun x=>v==x) l=i+(List.findIdx (fun x=>v==x) l+1) by omega,show j+1+List.findIdx (fun x=>v==x) l=j+(List.findIdx (fun x=>v==x) l+1) by omega]
   .simp[hm,h]
def zmA{v:Str}{ns:List Str}(h:v∈ns):za9 1 (.s v) (ixE ns) 0=some (some (vix ns v,.f (.i .i64 (vix ns v:Int)))):=by
 rw[ixE,zmB,if_pos h];simp
def zkW{v:Str}{ns:List Str}(h:v∉ns):za9 1 (.s v) (ixE ns) 0=some none:=by
 rw[ixE,zmB,if_neg h]
def ztJ{v:Str}{ns:List Str}(h:v∈ns):vix ns v<ns.length:=by
 unfold vix;rw[List.findIdx_lt_length];exact⟨v,h,by simp⟩
structure SAt(a b:CQ)(ns:List Str)(im:List Trm)(asg:List Bool)(dA dC dT:D)(h:T Ob)(c S M I A:Nat):Prop where
 gS:h.get S=some (.arr 11 0 [[.f (zaQ ns),.mp M,.sl I 0 ns.length 4 ns.length true,.sl A 0 ns.length 1 ns.length true,.f (za1 a),.f (zaX a),dA,dC,.f (za1 b),.f (zaX b),dT]])
 gM:h.get M=some (.map (ixE ns))
 gI:h.get I=some (.arr 4 0 (zaC im))
 gA:h.get A=some (.arr 1 0 (bE asg))
 lI:im.length=ns.length
 lA:asg.length=ns.length
 bS:S<c
 bM:M<c
 bI:I<c
 bA:A<c
def zdH(ns:List Str)(im:List Trm)(asg:List Bool):Trm->Trm×Bool
 | .cst n=>(.cst n,true)
 | .var v=>(im.getD (vix ns v) (.var []),asg.getD (vix ns v) false)
def InV(ns:List Str)(t:Trm):Prop:=zav t/\∀v,t= .var v->v∈ns
def SAt.up{a b:CQ}{ns:List Str}{im:List Trm}{asg:List Bool}{dA dC dT:D}{h h':T Ob}{c c' S M I A:Nat}(H:SAt a b ns im asg dA dC dT h c S M I A)(hf:∀id,id<c->h'.get id=h.get id)(hc:c<=c'):SAt a b ns im asg dA dC dT h' c' S M I A:=
 ⟨by rw[hf S H.bS];exact H.gS,by rw[hf M H.bM];exact H.gM,by rw[hf I H.bI];exact H.gI,by rw[hf A H.bA];exact H.gA,H.lI,H.lA,Z16 H.bS hc,Z16 H.bM hc,Z16 H.bI hc,Z16 H.bA hc⟩
theorem zB3{a b:CQ}{ns:List Str}{im:List Trm}{asg:List Bool}{dA dC dT:D}{h:T Ob}{c S M I A:Nat}(H:SAt a b ns im asg dA dC dT h c S M I A)(t:Trm)(ht:InV ns t):
  RO pr 79 [.ptr S 11 0 0,.ag (tmD t)] h c (.tu [.ag (tmD (zdH ns im asg t).1),.f (.b (zdH ns im asg t).2)]):=by
 obtain⟨gS,gM,gI,gA,lI,lA,hS,hM,hI,hA⟩ :=H;refine zcr zaS fn79 (by simp[tmD,D.isF,D.zgS]) ?_;simp only[g79,rU];have nS:¬S=c:=by omega
 have nM:¬M=c:=by omega
 have nI:¬I=c:=by omega
 have nA:¬A=c:=by omega
 have nS1:¬S=c+1:=by omega
 have nM1:¬M=c+1:=by omega
 have nI1:¬I=c+1:=by omega
 have nA1:¬A=c+1:=by omega
 have nS1':¬c+1=S:=by omega
 have nA1':¬c+1=A:=by omega
 have nI1':¬c+1=I:=by omega
 cases t with
 |cst n=>
  simp[rW,st0,zaj,tmD,ztG,zxD,zxF,zdH,zaK];simp (disch:=omega) only[zaV,za7]
 |var v=>
  have hv:v∈ns:=ht.2 v rfl;have hne:v≠[]:=ht.1;have hl:=ztJ hv;have hk:=zmA hv;have e1:im.getD (vix ns v) (.var [])=im[vix ns v]:=by simp[List.getD,lI,hl]
  have e2:asg.getD (vix ns v) false=asg[vix ns v]:=by simp[List.getD,lA,hl]
  have e3:=zfm im (vix ns v) (by omega);have e4:(bE asg)[vix ns v]? =some [D.f (.b asg[vix ns v])]:=by simp[bE,lA,hl]
  simp only[zdH,e1,e2];simp only[tmD]at e3;simp[rW,st0,zaj,tmD,zna,zm7,zm9,hne];refine zaL ?_;simp[rW,st0,zaj,tmD,hne,gS,gM,nS,nM,nS1,nM1,hk];refine zaL ?_;simp[rW,st0,zaj,tmD,hne,gS,gI,gA,nS,nI,nA,nS1,nI1,nA1,nS1',nA1',nI1',hl,e3,e4,zaK];simp (disch:=omega) only[zaV,za7]
def zFm{α:Type}{l:List α}{p:α->Bool}(h:∀a∈l,p a=false):(l.all fun a=>!p a)=true:=by
 rw[List.all_eq_true];intro a ha;simp[h a ha]
def zFk{α:Type}{l:List α}{p:α->Bool}{n:Nat}(h:n<l.length)(h1:p l[n]=true):(l.all fun a=>!p a)=false:=by
 rw[List.all_eq_false];exact⟨l[n],Z2 h,by simp[h1]⟩
def atD(a:Atm):List D:=[.f (.s a.r),.f (.b a.neg),.f (zdL a.ts)]
def zkX(ns:List Str)(im:List Trm)(asg:List Bool)(a b:Atm):Bool:=
 a.r==b.r&&(a.neg==b.neg&&(decide (a.ts.length=b.ts.length)&&(a.ts.zip b.ts).all fun p=>!((zdH ns im asg p.1).2&& !zb2 (zdH ns im asg p.1).1 p.2)))
def zeS(im:List Trm)(asg:List Bool):Prop:=∀i,asg.getD i false=true->zav (im.getD i (.var []))
def zpF{ns:List Str}{im:List Trm}{asg:List Bool}(h:zeS im asg){t:Trm}(ht:(zdH ns im asg t).2=true):zav (zdH ns im asg t).1:=by
 cases t with
 |cst n=>trivial
 |var v=>exact h _ ht
def F1(a b:Atm)(h:T Ob)(c S n:Nat)(s:St):Prop:=
 s.tm.get 0=some (.ptr S 11 0 0)/\s.tm.get 5=some (.ptr (c+1) 3 0 0)/\s.tm.get 33=some (.f (zdL a.ts))/\s.tm.get 34=some (.f (.i .i64 a.ts.length))/\s.tm.get 35=some (.f (.i .i64 n))/\s.h.get (c+1)=some (.arr 3 0 [atD b])/\(∀id,id<c->s.h.get id=h.get id)/\c+2<=s.c/\s.lw=c
theorem ro78{a b:CQ}{ns:List Str}{im:List Trm}{asg:List Bool}{dA dC dT:D}{h:T Ob}{c S M I A:Nat}(H:SAt a b ns im asg dA dC dT h c S M I A)(ho:zeS im asg)(x y:Atm)(hx:∀t∈x.ts,InV ns t)(hy:zbS y)(hxl:x.ts.length<1000):
  RO pr 78 [.ptr S 11 0 0,.ag (atD x),.ag (atD y)] h c (.f (.b (zkX ns im asg x y))):=by
 refine zcr zaS fn78 rfl ?_;simp only[g78,rU];unfold zkX
 by_cases h1:x.r=y.r
 .by_cases h2:x.neg=y.neg
  .by_cases h3:x.ts.length=y.ts.length
   .have h3':(x.ts.length:Int)=(y.ts.length:Int):=by omega
    generalize hr:((x.ts.zip y.ts).all fun p=>!((zdH ns im asg p.1).2&& !zb2 (zdH ns im asg p.1).1 p.2))=r;simp[rW,st0,zaj,atD,h1,h2,h3,zjA];refine zeU (x.ts.zip y.ts) (fun p=>(zdH ns im asg p.1).2&& !zb2 (zdH ns im asg p.1).1 p.2) (fun n s=>F1 x y h c S n s) (fun x s=>x= .exit 0/\s.lw=c) (fun n x s=>x= .ret/\s.tm.get 6=some (.f (.b false))/\s.lw=c) ?_ ?_ _ ?_ ?_ ?_
    .rintro n s hn ⟨h0,h5,h33,h34,h35,gq,hf,hc,hl⟩;have hn1:n<x.ts.length:=by simp at hn;omega
     have hn2:n<y.ts.length:=by omega
     have hw:=zaq n (by omega);have htx:=hx _ (Z2 hn1);have hty:=hy.1 _ (Z2 hn2);simp only[List.getElem_zip];generalize hT:x.ts[n]=T at htx|-;generalize hU:y.ts[n]=U at hty|-;have hT':x.ts[n]? =some T:=by rw[Z0 hn1,hT]
     have hU':y.ts[n]? =some U:=by rw[Z0 hn2,hU]
     simp[rW,h0,h5,h33,h34,h35,hn1,hn2,zoj,hT',hT,tmE,h3];refine zbB (zB3 (H.up ?_ ?_) T htx) ?_ ?_
     .intro id hid;simp only[rG];simp[Vse.T.zab,show id≠s.c by omega,hf id hid]
     .simp only[rG];omega
     .simp only[rG];simp (disch:=omega) only[zaV,za7];omega
     .intro mx;have hcn:¬c+1=s.c:=by omega
      have hcm:¬c=s.c:=by omega
      have hF:∀id,id<c->¬id=s.c/\¬id=s.c+1:=fun id h=>by omega
      have hok:=zpF (ns:=ns) ho (t:=T);simp only[atD]at gq;cases hb:(zdH ns im asg T).2 with
      |false=>
       simp[rW,h0,h5,h33,h34,h35,hb,tmD];refine zaL ?_;simp[rW,h0,h5,h33,h34,h35,hb,hw,F1,atD,gq,hcn,hcm,h3];refine⟨fun id h=> ?_,by omega,?_⟩
       .simp[(hF id h).1,(hF id h).2,hf id h]
       .rw[hl];simp (disch:=omega) only[zaV,za7]
      |true=>
       have q:=fun k=>zaB (k:=k) (zjL (zdH ns im asg T).1 U (hok hb) hty)
       simp only[tmE]at q;generalize (zdH ns im asg T).1=W at q|-;cases hs:zb2 W U with
       |false=>
        rw[hs]at q;simp[rW,h0,h5,h33,h34,h35,hb,tmD];refine zaL ?_;simp[rW,h0,h5,h33,h34,h35,hb,hw,F1,atD,gq,hcn,hcm,h3,zoj,hn2,hU',hU,tmE,q];rw[hl];simp (disch:=omega) only[zaV,za7]
       |true=>
        rw[hs]at q;simp[rW,h0,h5,h33,h34,h35,hb,tmD];refine zaL ?_;simp[rW,h0,h5,h33,h34,h35,hb,hw,F1,atD,gq,hcn,hcm,h3,zoj,hn2,hU',hU,tmE,q];refine⟨fun id h=> ?_,by omega,?_⟩
        .simp[(hF id h).1,(hF id h).2,hf id h]
        .rw[hl];simp (disch:=omega) only[zaV,za7]
    .rintro s ⟨h0,h5,h33,h34,h35,gq,hf,hc,hl⟩;simp[rW,h0,h5,h33,h34,h35,h3,hl]
    .simp[rW,F1,atD,h3];refine⟨?_,?_⟩
     .intro id hid;simp[show id≠c by omega,show id≠c+1 by omega]
     .simp (disch:=omega) only[zaV,za7]
    .rintro h z s ⟨rfl,hl⟩;have:r=true:=by rw[<-hr];exact zFm h
     simp[rW,zaK,hl,this]
    .rintro n hn hp hm z s ⟨rfl,h6,hl⟩;have:r=false:=by rw[<-hr];exact zFk hn hp
     simp[rW,h6,hl,zaK,this]
   .have h3':¬(x.ts.length:Int)=(y.ts.length:Int):=by omega
    simp[rW,st0,zaj,atD,h1,h2,h3,h3',zjA,zaK];simp (disch:=omega) only[zaV,za7]
  .have h2':(x.neg==y.neg)=false:=by simpa using h2
   simp[rW,st0,zaj,atD,h1,h2,h2',zjA,zaK];simp (disch:=omega) only[zaV,za7]
 .have h1':(x.r==y.r)=false:=by simpa using h1
  simp[rW,st0,zaj,atD,h1,h1',zjA,zaK];simp (disch:=omega) only[zaV,za7]
end Go.Proofs.YtlnfpifjdcmmlaaGreatDoor
end
