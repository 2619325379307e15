/- The variables of a query, as the reference lists them; its homomorphism. -/
import Derived.Test.YtflgmemhalhdbaaGreatDoorPa
import Derived.Test.YtflgmemhalhdbaaGreatDoorAll
import Derived.Test.YtflgmemhalhdbaaGreatDoorHb
import Derived.KernelRfl
import Derived.IntWalk
set_option linter.all false
set_option maxRecDepth 100000
set_option maxHeartbeats 4000000
section
namespace Go.Proofs.YtflgmemhalhdbaaGreatDoor
open Go Go.Vse Go.Vse.Sm
def za0:zsJ pr:=zEw prOk
def zcL(l:List Str)(s:Str):List Str:=if s=[]\/l.any (· ==s)=true then l else l++[s]
def za1(l:List Str):List (List D):=l.map fun s=>[D.f (.s s)]
def zbl(l:List Str):(za1 l).length=l.length:=by simp[za1]
def zes(l:List Str):(za1 l).take l.length=za1 l:=by rw[<-zbl l,Z8]
def ze2(h:Nat->Option Ob)(k:Nat)(l:List Str):zaV (frz h (k+1)) (za1 l)=some (l.map fun s=>[F.s s],[]):=zy2 h k F.s l
def zo2{l:List Str}(h:l≠[]):F.sl 1 (l.map fun s=>[F.s s])=zaM l:=zdz (by simpa using h)
def zvS{l:List Str}(h:za1 l=[]):l=[]:=by simpa [za1]using h
def zd0(l:List Str)(ts:List Trm):List Str:=ts.foldl (fun l t=>zcL l (tv t)) l
def vrs(c:CQ):List Str:=c.cs.foldl (fun l k=>zcL (zcL l (tv k.l)) (tv k.r)) (c.as.foldl (fun l a=>zd0 l a.ts) [])
def znV(l:List Str)(s:Str):(zcL l s).length<=l.length+1:=by
 unfold zcL;split
 .omega
 .simp
def zjE(ts:List Trm):∀l:List Str,(zd0 l ts).length<=l.length+ts.length:=by
 unfold zd0
 induction ts with
 |nil=>intro l;simp
 |cons t ts ih=>
  intro l;have h1:=znV l (tv t);have h2:=ih (zcL l (tv t));simp only[Z43,Z24];omega
def zKr{l:List Atm}(hl:∀a∈l,a.ts.length<=12):∀x:List Str,(l.foldl (fun l a=>zd0 l a.ts) x).length<=x.length+12*l.length:=by
 induction l with
 |nil=>intro x;simp
 |cons a l ih=>
  intro x;have h1:=zjE a.ts x;have h2:=hl a (by simp);have h3:=ih (fun b hb=>hl b (by simp[hb])) (zd0 x a.ts);simp only[Z43,Z24];omega
def zLq(l:List Cm):∀x:List Str,(l.foldl (fun l k=>zcL (zcL l (tv k.l)) (tv k.r)) x).length<=x.length+2*l.length:=by
 induction l with
 |nil=>intro x;simp
 |cons a l ih=>
  intro x;have h1:=znV x (tv a.l);have h2:=znV (zcL x (tv a.l)) (tv a.r);have h3:=ih (zcL (zcL x (tv a.l)) (tv a.r));simp only[Z43,Z24];omega
def zk1{c:CQ}(hc:CqSm c):(vrs c).length<=168:=by
 have h1:=zKr hc.st [];have h2:=zLq c.cs (c.as.foldl (fun l a=>zd0 l a.ts) []);have:=hc.sa;have:=hc.sc;unfold vrs;simp at h1;omega
def ziU{h:T Ob}{lo c es k:Nat}{d:D}{els:List (List D)}{L:List (List F)}(hg:Gro h lo c es d els)(hf:zaV (frz h.get k) els=some (L,[]))(hL:L=[]↔els=[]):∃rd,frz h.get (k+1) d=some (slc es L,rd):=by
 rcases hg with⟨rfl,rfl⟩ |⟨id,ro,rfl,he,ho,hr,hl,hc⟩
 .rw[hL.2 rfl];exact⟨[],rfl⟩
 .refine⟨[id],?_⟩;rw[zgw,ho,zc0,zgd];simp only[true_and,Z26,Z3,Z61,Z35,Z8,hf,zc0];rw[zdz (fun e=>he (hL.1 e))]
def zLT{h:T Ob}{lo c:Nat}{d:D}{l:List Str}(hg:Gro h lo c 1 d (za1 l)):∃rd,frz h.get 12 d=some (zaM l,rd):=
 ziU (k:=11) hg (ze2 _ 10 l) (by simp[za1])
def zbi{h:T Ob}{lo c es:Nat}{d:D}{els:List (List D)}(hg:Gro h lo c es d els){i:Nat}(hi:i<lo):d.oid≠some i:=by
 rcases hg with⟨rfl,_⟩ |⟨id,ro,rfl,_,_,_,hl,_⟩
 .simp[D.oid]
 .simp[D.oid];omega
def fn149:pr.fn 149=some zzJ:=by kernel_rfl
def fn150:pr.fn 150=some zzM:=by kernel_rfl
def fn133:pr.fn 133=some zzw:=by kernel_rfl
def fn134:pr.fn 134=some zzx:=by kernel_rfl
def fn108:pr.fn 108=some zy7:=by kernel_rfl
def fn132:pr.fn 132=some zzs:=by kernel_rfl
def fn107:pr.fn 107=some zy6:=by kernel_rfl
def fn86:pr.fn 86=some g86:=by kernel_rfl
def fn88:pr.fn 88=some g88:=by kernel_rfl
def fn84:pr.fn 84=some g84:=by kernel_rfl
def fn81:pr.fn 81=some g81:=by kernel_rfl
def fn66:pr.fn 66=some g66:=by kernel_rfl
def fn121:pr.fn 121=some zzh:=by kernel_rfl
def fn104:pr.fn 104=some zy4:=by kernel_rfl
def fn80:pr.fn 80=some g80:=by kernel_rfl
def fn65:pr.fn 65=some g65:=by kernel_rfl
def fn72:pr.fn 72=some g72:=by kernel_rfl
def fn73:pr.fn 73=some g73:=by kernel_rfl
def fn111:pr.fn 111=some zzb:=by kernel_rfl
def zSB{f:Nat}{args:List D}{h:T Ob}{c:Nat}{x:F}(h1:pr.fn f=none)(h2:pr.ext f args=some x):RO pr f args h c x.d:=by
 refine⟨c,Z3 _,1,fun n hn=> ?_⟩;obtain⟨m,rfl⟩ :∃m,n=m+1:=⟨n - 1,by omega⟩
 simp only[zcX,h1,h2]
theorem zwQ:∀a b:Str,Go.Lib.compareBytes a b=zhv a b
 |[],[]=>rfl
 |[],b::l=>by simp[Go.Lib.compareBytes,zhv,Go.Op.bytesLess]
 |a::l,[]=>by simp[Go.Lib.compareBytes,zhv,Go.Op.bytesLess]
 |a::l,b::m=>by
  have ih:=zwQ l m;unfold Go.Lib.compareBytes zhv Go.Op.bytesLess
  by_cases h1:a<b
  .simp[h1]
  .by_cases h2:b<a
   .have h3:a≠b:=fun e=>by subst e;exact h1 h2
    simp[h1,h2,h3]
   .have h3:a=b:=UInt8.le_antisymm (UInt8.not_lt.1 h2) (UInt8.not_lt.1 h1);subst h3;simp only[h1,Z64,ih,zhv];simp
def ro135(a b:Str)(h:T Ob)(c:Nat):RO pr 135 [.f (.s a),.f (.s b)] h c (.f (.i .i64 (zhv a b))):=by
 have:=zSB (h:=h) (c:=c) (f:=135) (args:=[.f (.s a),.f (.s b)]) (x:= .i .i64 (Go.Lib.compareBytes a b)) (by kernel_rfl) rfl;rw[zwQ]at this;exact this
def zBh(a:Int):Ans pr 149 [.i .i64 a] (.b false):=by
 refine zb6 fn149 ?_;simp only[zzJ,rU];simp[rW,st0,zah]
def zBi(a:Int):Ans pr 150 [.i .i64 a] (.b false):=by
 refine zb6 fn150 ?_;simp only[zzM,rU];simp[rW,st0,zah]
def zP1(a b:Int):Ans pr 133 [.i .i64 a,.i .i64 b] (.i .i64 (zej a b)):=by
 refine zb6 fn133 ?_;simp only[zzw,rU];have q1:=fun k=>zav (k:=k) (zBh a)
 have q2:=fun k=>zav (k:=k) (zBh b)
 unfold zej
 by_cases h1:a<b
 .have h2:¬a=b:=by omega
  simp[rW,st0,zah,q1,q2,h1,h2]
 .by_cases h2:b<a
  .have h3:¬a=b:=by omega
   simp[rW,st0,zah,q1,q2,h1,h2,h3]
  .have h3:a=b:=by omega
   simp[rW,st0,zah,q1,q2,h1,h2,h3]
def zP2(a b:Int):Ans pr 134 [.i .i64 a,.i .i64 b] (.i .i64 (zej a b)):=by
 refine zb6 fn134 ?_;simp only[zzx,rU];have q1:=fun k=>zav (k:=k) (zBi a)
 have q2:=fun k=>zav (k:=k) (zBi b)
 unfold zej
 by_cases h1:a<b
 .have h2:¬a=b:=by omega
  simp[rW,st0,zah,q1,q2,h1,h2]
 .by_cases h2:b<a
  .have h3:¬a=b:=by omega
   simp[rW,st0,zah,q1,q2,h1,h2,h3]
  .have h3:a=b:=by omega
   simp[rW,st0,zah,q1,q2,h1,h2,h3]
def ztC(a b:Str):Ans pr 108 [.s a,.s b] (.i .i64 (zhv a b)):=by
 refine zb6 fn108 ?_;simp only[zy7,rU];simp[rW,st0,zah];refine zbW (ro135 a b _ _) ?_ ?_
 .simp only[rG];omega
 .intro mx;simp[rW,st0,zah]
def zPW(a b c:Int):Ans pr 132 [.sl 1 [[.i .i64 a],[.i .i64 b],[.i .i64 c]]] (.i .i64 (if a≠0 then a else if b≠0 then b else c)):=by
 refine zb6 fn132 ?_;simp only[zzs,rU];have w1:IntKind.i64.wrap 1=1:=rfl;have w2:IntKind.i64.wrap 2=2:=rfl;have w3:IntKind.i64.wrap 3=3:=rfl;simp[rW,st0,zah];refine round ?_
 by_cases ha:a=0
 .by_cases hb:b=0
  .simp[rW,ha,hb,w1];refine round ?_;simp[rW,ha,hb,w2];refine round ?_
   by_cases hc:c=0
   .simp[rW,hc,w3];refine round ?_;simp[rW,hc]
   .simp[rW,hc]
  .simp[rW,ha,hb,w1];refine round ?_;simp[rW,hb]
 .simp[rW,ha]
def ztB(a b:Int):Ans pr 107 [.ag (vF a),.ag (vF b)] (.i .i64 (zej a b)):=by
 refine zb6 fn107 ?_;simp only[zy6,rU];have q1:=fun k=>zav (k:=k) (zP1 1 1)
 have q2:=fun k=>zav (k:=k) (zP2 a b)
 have q3:=fun k=>zav (k:=k) (ztC [] [])
 have q4:=fun k=>zav (k:=k) (zPW (zej 1 1) (zej a b) (zhv [] []))
 rw[(show zej 1 1=0 from rfl)]at q1 q4;rw[(show zhv [] []=0 from rfl)]at q3 q4;have e:(if(0:Int)≠0 then 0 else if zej a b≠0 then zej a b else 0)=zej a b:=by
  simp only[ne_eq,not_true_eq_false,Z64];split
  .rfl
  .rename_i h;simp at h;exact h.symm
 rw[e]at q4;simp[rW,st0,zah,vF];refine zaF ?_;simp[rW,st0,zah,vF,q1,q2,q3,q4]
def zHS(a b:Trm)(ha:zaL a)(hb:zaL b):Ans pr 86 [.ag (tmF a),.ag (tmF b)] (.i .i64 (zaX a b)):=by
 refine zb6 fn86 ?_;simp only[g86,rU];cases a with
 |cst a=>
  cases b with
  |cst b=>
   have q:=fun k=>zav (k:=k) (ztB a b)
   simp only[vF]at q;simp[rW,st0,zah,tmF,vF,zaX,q]
  |var b=>
   simp only[zaL]at hb;simp[rW,st0,zah,tmF,zaX,hb]
 |var a=>
  cases b with
  |cst b=>
   simp only[zaL]at ha;simp[rW,st0,zah,tmF,zaX,ha]
  |var b=>
   simp only[zaL]at ha hb;have q:=fun k=>zav (k:=k) (ztC a b)
   simp[rW,st0,zah,tmF,zaX,ha,hb,q]
def zk9(a b:Trm)(ha:zaL a)(hb:zaL b):Ans pr 88 [.ag (tmF a),.ag (tmF b)] (.b (zb2 a b)):=by
 unfold zb2;refine zb6 fn88 ?_;simp only[g88,rU];have q:=fun k=>zav (k:=k) (zHS a b ha hb)
 simp only[tmE]at q;simp[rW,st0,zah,tmE,q]
def ans84(t:Trm)(ht:zaL t):Ans pr 84 [.ag (tmF t)] (.ag (tmF t)):=by
 refine zb6 fn84 ?_;simp only[g84,rU];cases t with
 |cst v=>simp[rW,st0,zah,tmF]
 |var v=>
  simp only[zaL]at ht;simp[rW,st0,zah,tmF,ht]
def ixP{α:Type}(l:List α)(p:α->Bool):Int:=match l.findIdx? p with
 |some n=>n
 |none=> -1
def ziG{α:Type}{l:List α}{p:α->Bool}(h:∀a∈l,p a=false):ixP l p= -1:=by
 have:l.findIdx? p=none:=Z44.2 h;simp[ixP,this]
def zhq{α:Type}{l:List α}{p:α->Bool}{n:Nat}(h:n<l.length)(h1:p l[n]=true)(h2:∀m (h':m<n),p (l[m]'(by omega))=false):ixP l p=n:=by
 have:l.findIdx? p=some n:=by
  rw[Z27];exact⟨h,h1,fun j hj=>by simpa using h2 j hj⟩
 simp[ixP,this]
def zkT{α:Type}(l:List α)(p:α->Bool):decide (ixP l p≥0)=l.any p:=by
 cases h:l.any p with
 |true=>
  unfold ixP;cases h2:l.findIdx? p with
  |some n=>simp
  |none=>rw[Z44]at h2;simp at h;obtain⟨x,hx,hp⟩ :=h;rw[h2 x hx]at hp;cases hp
 |false=>
  have:=ziG (l:=l) (p:=p) (by simpa using h);simp[this]
def ans81(l:List Str)(x:Str)(hl:l.length<1000000):Ans pr 81 [zaM l,.s x] (.i .i64 (ixP l (x== ·))):=by
 refine zb6 fn81 ?_;simp only[g81,rU];simp[rW,st0,zah,zcb,zbN];refine zfa l (x== ·) (fun n s=>s.tm.get 0=some (.f (zaM l))/\s.tm.get 1=some (.f (.s x))/\s.tm.get 7=some (.f (.i .i64 l.length))/\s.tm.get 8=some (.f (.i .i64 n))) (fun x s=>x= .exit 0) (fun n y s=>y= .ret/\s.tm.get 4=some (.f (.i .i64 n))) ?_ ?_ _ ?_ ?_ ?_
 .rintro n s hn ⟨h0,h1,h7,h8⟩;have hw:=zao n (by omega)
  by_cases he:x=l[n]
  .simp[rW,h0,h1,h7,h8,zbN,zco,hn,he]
  .simp[rW,h0,h1,h7,h8,zbN,zco,hn,he,hw]
 .rintro s ⟨h0,h1,h7,h8⟩;simp[rW,h0,h1,h7,h8,zbN]
 .simp[rW,st0,zah]
 .rintro h x s rfl;rw[ziG h];simp[rW,st0]
 .rintro n hn hp hm x s ⟨rfl,h4⟩;rw[zhq hn hp hm];simp[rW,h4]
def zD5(l:List Str)(x:Str):l.any (x== ·)=l.any (· ==x):=by
  congr 1;funext a;exact Bool.beq_comm
def zyI(l:List Str)(x:Str)(hl:l.length<1000000):Ans pr 66 [zaM l,.s x] (.b (l.any (· ==x))):=by
  refine zb6 fn66 ?_;simp only[g66,rU];have q:=fun k=>zav (k:=k) (ans81 l x hl)
  have e:=zkT l (x== ·);rw[zD5]at e;rw[<-e];simp[rW,st0,zah,zcb,q]
def zeR(l:List Nat):F:=slc 1 (l.map fun n:Nat=>[F.i .i64 (n:Int)])
def zuV(l:List Nat):(zeR l).d= .f (zeR l):=zjY ..
def zjl(l:List Nat):zbv (.f (zeR l))=some l.length:=by simp[zeR,zgS]
def zrm(l:List Nat)(n:Nat):iaB 1 (.f (zeR l)) n=(l[n]?).map fun k:Nat=>D.fptr [F.i .i64 (k:Int)]:=by simp[zeR,ziu,Z68]
def zPV(l:List Nat)(x:Nat)(hl:l.length<1000000):Ans pr 121 [zeR l,.i .i64 x] (.i .i64 (ixP l (x== ·))):=by
 refine zb6 fn121 ?_;simp only[zzh,rU];simp[rW,st0,zah,zuV,zjl];refine zfa l (x== ·) (fun n s=>s.tm.get 0=some (.f (zeR l))/\s.tm.get 1=some (.f (.i .i64 x))/\s.tm.get 7=some (.f (.i .i64 l.length))/\s.tm.get 8=some (.f (.i .i64 n))) (fun x s=>x= .exit 0) (fun n y s=>y= .ret/\s.tm.get 4=some (.f (.i .i64 n))) ?_ ?_ _ ?_ ?_ ?_
 .rintro n s hn ⟨h0,h1,h7,h8⟩;have hw:=zao n (by omega)
  by_cases he:x=l[n]
  .simp[rW,h0,h1,h7,h8,zjl,zrm,hn,he]
  .have he':¬((x:Int)=(l[n]:Int)):=by omega
   simp[rW,h0,h1,h7,h8,zjl,zrm,hn,he,he',hw]
 .rintro s ⟨h0,h1,h7,h8⟩;simp[rW,h0,h1,h7,h8,zjl]
 .simp[rW,st0,zah]
 .rintro h x s rfl;rw[ziG h];simp[rW,st0]
 .rintro n hn hp hm x s ⟨rfl,h4⟩;rw[zhq hn hp hm];simp[rW,h4]
def zPT(l:List Nat)(x:Nat)(hl:l.length<1000000):Ans pr 104 [zeR l,.i .i64 x] (.b (l.any (x== ·))):=by
 refine zb6 fn104 ?_;simp only[zy4,rU];have q:=fun k=>zav (k:=k) (zPV l x hl)
 have e:=zkT l (x== ·);rw[<-e];simp[rW,st0,zah,zuV,q]
def tsA(c:CQ):List Trm:=c.as.flatMap (·.ts)
def ts2(k:Cm):List Trm:=[k.l,k.r]
def tsC(c:CQ):List Trm:=tsA c++c.cs.flatMap ts2
def zlF(l:List Trm):(zaH l).take l.length=zaH l:=by rw[<-zbD l,Z8]
theorem zfD{α β:Type}(f:α->List β)(m:Nat):∀(l:List α),(∀a∈l,(f a).length<=m)->(l.flatMap f).length<=m*l.length
 |[],_=>by simp
 |a::l,h=>by
  have h1:=h a (by simp);have h2:=zfD f m l fun b hb=>h b (by simp[hb])
  rw[Z93,Z17,Z24,Z180];omega
def zrP{c:CQ}(hc:CqSm c):(tsC c).length<=48:=by
 have h1:=zfD (·.ts) 2 c.as hc.s2;have h2:=zfD ts2 2 c.cs (by simp[ts2]);have:=hc.sa;have:=hc.sc;simp only[tsC,tsA,Z17];omega
theorem zfz{α β:Type}(f:α->List β):∀(l:List α) (x:List β),l.foldl (fun x a=>x++f a) x=x++l.flatMap f
 |[],x=>by simp
 |a::l,x=>by rw[Z43,zfz f l,Z93,Z33]
def tmD(u:Trm):List D:=[.f (.s (tv u)),.f (.i .i64 (tk u)),.f (.i .i64 (tn u)),.f (.s [])]
def zfX(l:List Trm)(n:Nat)(h:n<l.length):(zaH l)[n]? =some (tmD l[n]):=by
 simp[zaH,h,tmE,tmD]
def zAw(t:Trm):(tmF t).map D.f=tmD t:=by cases t<;>rfl
def cmD(k:Cm):List D:= .f (.i .i64 k.op)::(tmD k.l++tmD k.r)
def zyU(k:Cm):(cmF k).map D.f=cmD k:=by
 unfold cmF cmD;rw[Z11,Z21,zAw,zAw]
def ze8(c:CQ):(D.f (zaQ c)).cells=some [.f (zaQ c)]:=by
 unfold zaQ csF;split
 .rfl
 .exact zih _ _
def zfx(c:CQ):(D.f (zaS c)).cells=some [.f (zaS c)]:=by
 unfold zaS Sm.asF;split
 .rfl
 .exact zih _ _
def zQA(l:List Trm):(D.f (zdD l)).cells=some [.f (zdD l)]:=zih _ _
def zra{h h':T Ob}{lo c c' es:Nat}{d:D}{els:List (List D)}(hg:Gro h lo c es d els)(hF:d.isF=true):Gro h' lo c' es d els:=by
 rcases hg with hg|⟨id,ro,rfl,_⟩
 .exact .inl hg
 .simp[D.isF]at hF
def zjh{h:T Ob}{lo lo' c es:Nat}{d:D}{els:List (List D)}(hg:Gro h lo c es d els)(hl:lo'<=lo):Gro h lo' c es d els:=by
 rcases hg with hg|⟨id,ro,h1,h2,h3,h4,h5,h6⟩
 .exact .inl hg
 .exact .inr ⟨id,ro,h1,h2,h3,h4,by omega,h6⟩
def zhm{h:T Ob}{lo c es:Nat}{d:D}{els:List (List D)}(hg:Gro h lo c es d els){n:Nat}(hn:n<els.length):∃id ro,iaB es d n=some (.ptr id es n 0)/\h.get id=some (.arr es ro els)/\lo<=id/\id<c:=by
 rcases hg with⟨-,h2⟩ |⟨id,ro,rfl,h2,h3,h4,h5,h6⟩
 .subst h2;simp at hn
 .exact⟨id,ro,by simp[zs5,hn],h3,h5,h6⟩
structure RdQ(h:T Ob)(c:Nat)(dA dC:D)(q:CQ):Prop where
 ca:dA.cells=some [dA]
 cc:dC.cells=some [dC]
 la:zbv dA=some q.as.length
 lc:zbv dC=some q.cs.length
 aa:∀n (hn:n<q.as.length),∃p tr rd rd2,iaB 3 dA n=some p/\tr.cells=some [tr]/\∀h':T Ob,Frm h h' c->zbq true 3 h'.get p=some (.ag [.f (.s q.as[n].r),.f (.b q.as[n].neg),tr],rd)/\elemsOf 4 h'.get tr=some (zaH q.as[n].ts,rd2)
 kk:∀n (hn:n<q.cs.length),∃p rd,iaB 9 dC n=some p/\∀h':T Ob,Frm h h' c->zbq true 9 h'.get p=some (.ag (cmD q.cs[n]),rd)
def zjc{h h1 h2:T Ob}{c c':Nat}(a:Frm h h1 c)(b:Frm h1 h2 c')(hc:c<=c'):Frm h h2 c:=fun x hx=>(b x (by omega)).trans (a x hx)
def RdQ.up{h h':T Ob}{c c':Nat}{dA dC:D}{q:CQ}(H:RdQ h c dA dC q)(hf:Frm h h' c)(hc:c<=c'):RdQ h' c' dA dC q:=
 ⟨H.ca,H.cc,H.la,H.lc,fun n hn=>by
  obtain⟨p,tr,rd,rd2,h1,h2,h3⟩ :=H.aa n hn;exact⟨p,tr,rd,rd2,h1,h2,fun h2 hh=>h3 h2 (zjc hf hh hc)⟩,fun n hn=>by
  obtain⟨p,rd,h1,h3⟩ :=H.kk n hn;exact⟨p,rd,h1,fun h2 hh=>h3 h2 (zjc hf hh hc)⟩⟩
def rdQ_F(q:CQ)(h:T Ob)(c:Nat):RdQ h c (.f (zaS q)) (.f (zaQ q)) q:=by
 refine⟨zfx q,ze8 q,zeu q,zhH q,fun n hn=> ?_,fun n hn=> ?_⟩
 .exact⟨.fptr (atF q.as[n]),.f (zdD q.as[n].ts),[],[],by simp[zeK,hn],zQA _,fun h' _=>⟨by simp[zbq,zgz,atE],zmt _ _⟩⟩
 .refine⟨.fptr (cmF q.cs[n]),[],by simp[zkG,hn],fun h' _=> ?_⟩;simp[zbq,zgz,cmF,tmE,cmD,tmD]
def T1(h:T Ob)(c0:Nat)(dA dC:D)(c:CQ)(l:List Trm)(n:Nat)(s:St):Prop:=∃d,s.tm.get 1=some (.ptr c0 2 0 0)/\s.tm.get 11=some (.f (.i .i64 n))/\s.tm.get 9=some (dA)/\s.tm.get 10=some (.f (.i .i64 c.as.length))/\s.tm.get 3=some (d)/\s.h.get c0=some (.arr 2 0 [[dA,dC]])/\Gro s.h (c0+1) s.c 4 d (zaH l)/\c0+1<=s.c/\Frm h s.h c0
def T2(h:T Ob)(c0:Nat)(dC:D)(c:CQ)(l:List Trm)(n:Nat)(s:St):Prop:=∃d,s.tm.get 23=some (.f (.i .i64 n))/\s.tm.get 21=some (dC)/\s.tm.get 22=some (.f (.i .i64 c.cs.length))/\s.tm.get 3=some (d)/\Gro s.h (c0+1) s.c 4 d (zaH l)/\c0+1<=s.c/\Frm h s.h c0
def eff80(c:CQ)(hc:CqSm c){h:T Ob}{c0:Nat}{dA dC:D}(hr:RdQ h c0 dA dC c):Eff pr 80 [.ag [dA,dC]] h c0 fun d h' c'=>Frm h h' c0/\Gro h' c0 c' 4 d (zaH (tsC c)):=by
 refine zcG za0 fn80 ?_;simp only[g80,rU];simp[rW,st0,zah,hr.ca,hr.cc,hr.la];refine zeO c.as (fun x a=>x++a.ts) [] (fun n a s=>T1 h c0 dA dC c a n s) (fun x s=>x= .exit 0/\∃n,T1 h c0 dA dC c (tsA c) n s) ?_ ?_ _ ?_ ?_
 .rintro n a s hn ha ⟨d,h1,h11,h9,h10,h3,gc0,hg,hc1,hf⟩;have hw:=zao n (by have:=hc.sa;omega);have hal:a.length<=144:=by
   rw[zfz,Z29]at ha;have:=zfD (fun a:Atm=>a.ts) 12 (c.as.take n) fun b hb=>hc.st b (Z14 hb)
   rw[<-ha]at this;have:=hc.sa;simp at*;omega
  have hst:=hc.st _ (Z2 hn);obtain⟨p,tr,rd,rd2,hp1,hp2,hp3⟩ :=hr.aa n hn;have hp4:=(hp3 s.h hf).1;have hp5:=fun o o'=>(hp3 ((s.h.set s.c o).set s.c o') fun x hx=>by
   have nx:¬x=s.c:=by omega
   simp[TG,nx,hf x hx]).2
  generalize hA:c.as[n]=A at hst hp4 hp5|-;have c0c:¬(c0=s.c):=by omega
  simp[rW,h1,h11,h9,h10,h3,gc0,hn,hA,hp1,hp2,hp4,hp5];refine zpR (zbh (c':=s.c+1) hg (by omega) fun id _ h2=> ?_) (by omega) (by simp only[zbD];omega) (by omega) ?_
  .rw[TG,Z50 (by omega),TG,Z50 (by omega)]
  .intro r hr1 hr2 hr3 hr4 _ _;have e0:=hr4 c0 (by omega) (zbi hg (by omega));rw[TG,Z50 c0c,TG,Z50 c0c,gc0]at e0;refine⟨hr1,?_⟩;simp[rW,h1,h11,h9,h10,h3,gc0,e0,hw,T1];rw[<-zk0];refine⟨hr2,by omega,fun x hx=> ?_⟩;have nx:¬x=s.c:=by omega
   rw[hr4 x (by omega) (zbi hg (by omega))];simp[TG,nx,hf x hx]
 .rintro s ⟨d,h1,h11,h9,h10,h3,gc0,hg,hc1,hf⟩;rw[zfz,Z29]at hg;simp[rW,h1,h11,h9,h10,h3,gc0,T1,hc1];exact⟨⟨_,rfl⟩,hg,hf⟩
 .simp[rW,T1];refine⟨.inl ⟨rfl,rfl⟩,fun x hx=> ?_⟩;have nx:¬x=c0:=by omega
  simp[TG,nx]
 .rintro x s ⟨rfl,n,d,h1,h11,h9,h10,h3,gc0,hg,hc1,hf⟩;simp[rW,h1,h11,h9,h10,h3,gc0,hr.lc];have hl0:(tsA c).length<=144:=by
   have:=zfD (fun a:Atm=>a.ts) 12 c.as hc.st;have:=hc.sa;unfold tsA;omega
  refine zeO c.cs (fun x k=>x++ts2 k) (tsA c) (fun n a s=>T2 h c0 dC c a n s) (fun x s=>x= .exit 2/\∃n,T2 h c0 dC c (tsC c) n s) ?_ ?_ _ ?_ ?_
  .rintro n a s hn ha ⟨d,h23,h21,h22,h3,hg,hc1,hf⟩;have hw:=zao n (by have:=hc.sc;omega);have hal:a.length<=168:=by
    rw[zfz]at ha;have:=zfD ts2 2 (c.cs.take n) (by simp[ts2]);rw[ha,Z17];have:=hc.sc;simp at*;omega
   obtain⟨p,rd,hp1,hp3⟩ :=hr.kk n hn;have hp4:=hp3 s.h hf;generalize hK:c.cs[n]=K at hp4;simp only[cmD,tmD,Z30,Z29]at hp4;simp[rW,h23,h21,h22,h3,hn,hK,hp1,hp4];refine zpR (zbh (c':=s.c+1) hg (by omega) fun id _ h2=> ?_) (by omega) (by simp only[zbD];simp;omega) (by omega) ?_
   .rw[TG,Z50 (by omega),TG,Z50 (by omega)]
   .intro r hr1 hr2 hr3 hr4 _ _;refine⟨hr1,?_⟩;simp[rW,h23,h21,h22,h3,hw,T2];rw[<-zk0];simp only[ts2,zaH,Z11,Z86,tmE]at hr2|-;refine⟨hr2,by omega,fun x hx=> ?_⟩;have nx:¬x=s.c:=by omega
    rw[hr4 x (by omega) (zbi hg (by omega))];simp[TG,nx,hf x hx]
  .rintro s ⟨d,h23,h21,h22,h3,hg,hc1,hf⟩;rw[zfz]at hg;simp[rW,h23,h21,h22,h3,T2,hc1];exact⟨⟨_,rfl⟩,hg,hf⟩
  .simp[rW,h1,h11,h9,h10,h3,gc0,T2,hc1,hg];exact hf
  .rintro x s ⟨rfl,n,d,h23,h21,h22,h3,hg,hc1,hf⟩;simp[rW,h3,zcp];exact⟨⟨hf,zjh hg (by omega)⟩,fun _ hF=>⟨fun _ _=>rfl,zra (zjh hg (by omega)) hF⟩⟩
def zlT(a b:List Trm)(x:List Str):zd0 x (a++b)=zd0 (zd0 x a) b:=by simp[zd0]
def zjA(c:CQ):(tsC c).foldl (fun l t=>zcL l (tv t)) []=vrs c:=by
 have h1:∀(l:List Atm) (x:List Str),zd0 x (l.flatMap (·.ts))=l.foldl (fun l a=>zd0 l a.ts) x:=by
  intro l
  induction l with
  |nil=>intro x;rfl
  |cons a l ih=>intro x;rw[Z93,zlT,ih];rfl
 have h2:∀(l:List Cm) (x:List Str),zd0 x (l.flatMap ts2)=l.foldl (fun l k=>zcL (zcL l (tv k.l)) (tv k.r)) x:=by
  intro l
  induction l with
  |nil=>intro x;rfl
  |cons a l ih=>intro x;rw[Z93,zlT,ih];rfl
 show zd0 [] (tsC c)=vrs c;unfold tsC vrs tsA;rw[zlT,h1,h2]
def stepV(l:List Str)(x:Str):zcL l x=if x≠[]/\¬(l.any (· ==x)=true)then l++[x]else l:=by
  unfold zcL
  by_cases h1:x=[]<;>by_cases h2:l.any (· ==x)=true<;>simp[h1,h2]
def VP(h1:T Ob)(P:Nat)(dT:D)(L:List Trm)(l:List Str)(n:Nat)(s:St):Prop:=∃d,s.tm.get 7=some (dT)/\s.tm.get 8=some (.f (.i .i64 L.length))/\s.tm.get 9=some (.f (.i .i64 n))/\s.tm.get 3=some (d)/\Gro s.h P s.c 1 d (za1 l)/\P<=s.c/\Frm h1 s.h P
def zyX(c:CQ)(hc:CqSm c){h:T Ob}{c0:Nat}{dA dC:D}(hr:RdQ h c0 dA dC c):Eff pr 65 [.ag [dA,dC]] h c0 fun d h' c'=>Frm h h' c0/\Gro h' c0 c' 1 d (za1 (vrs c)):=by
  refine zcG za0 fn65 ?_;simp only[g65,rU];have hL:=zrP hc;have hv:=zjA c;have hfr:∀o,Frm h (h.set c0 o) c0:=fun o x hx=>by
    have nx:¬x=c0:=by omega
    simp[TG,nx]
  simp[rW,st0,zah,hr.ca,hr.cc];refine zer rfl rfl (eff80 c hc (hr.up (hfr _) (by simp only[rG];omega))) ?_;rintro dT h' c' lw mx ⟨hf,hg⟩ hcc;simp only[rG]at hf hg hcc;have hf0:Frm h h' c0:=zjc (hfr _) hf (by omega);have hlen:zbv dT=some (tsC c).length:=by rw[zdv hg,zbD]
  generalize tsC c=L at hg hlen hL hv;simp[rW,hlen];refine zeO L (fun l t=>zcL l (tv t)) [] (fun n a s=>VP h' c' dT L a n s) (fun x s=>x= .exit 0/\∃n,VP h' c' dT L (vrs c) n s) ?_ ?_ _ ?_ ?_
  . rintro n a s hn ha ⟨d,h7,h8,h9,h3,hgn,hc1,hfn⟩;have hw:=zao n (by omega);have hal:a.length<=168:=by
      have:=zjE (L.take n) [];rw[show zd0 [] (L.take n)=a from ha.symm]at this;simp at this;omega
    have qa:=fun k=>zav (k:=k) (zyI a (tv L[n]) (by omega))
    rw[stepV];have m1:(1<=zak)=True:=za2 (by omega);have m2:(16<=zak)=True:=za2 (by omega);have m3:(a.length+1<=zak)=True:=za2 (by omega);have m4:((a.length+1)*16<=zak)=True:=za2 (by omega);have hlt:(a.length+1<=a.length)=False:=leF (by omega);obtain⟨X,r0,hi,gX,hX1,hX2⟩ :=zhm hg (n:=n) (by rw[zbD];exact hn);have gX':s.h.get X=some (.arr 4 r0 (zaH L)):=by rw[hfn X hX2,gX]
    have ht:=zfX L n hn;have ht2:∀h:n< (zaH L).length,(zaH L)[n]=tmD L[n]:=fun h=>by
      rw[Z0 h]at ht;exact Z54 ht
    have hnt:n< (zaH L).length:=by rw[zbD];exact hn
    have nX:¬X=s.c:=by omega
    have hfq:∀h2:T Ob,(∀x,x<c'->h2.get x=s.h.get x)->Frm h' h2 c':=fun h2 hh x hx=>(hh x hx).trans (hfn x hx)
    generalize hT:L[n]=T at qa ht ht2|-;simp only[tmD]at ht ht2
    by_cases hx:tv T=[]
    . simp[rW,h7,h8,h9,h3,hn,hi,gX',ht,ht2,hnt,hx,VP,hw,nX];exact⟨zbh hgn (by omega) fun id _ h2=>by rw[TG,Z50 (by omega),TG,Z50 (by omega)],by omega,hfq _ fun x hx=>by simp[TG,show ¬x=s.c by omega]⟩
    . have hx':tv T≠[]:=hx;rcases hgn with⟨rfl,hn0⟩ |⟨id,ro,rfl,hne,hid,hro,hlid,hidc⟩
      . have:=zvS hn0;subst this;rw[(show zaM []= .nils from rfl)]at qa;simp[rW,h7,h8,h9,h3,hn,hi,gX',ht,ht2,hnt,hx,qa,m1,m2,VP,hw,nX];exact⟨.inr ⟨s.c+1,0,rfl,by simp[za1],by simp[TG,za1],Z62 _,by omega,by omega⟩,by omega,hfq _ fun x hx=>by simp[TG,show ¬x=s.c by omega,show ¬x=s.c+1 by omega]⟩
      . rw[zbl]at*;have hl0:a≠[]:=fun e=>hne (by rw[e];rfl)
        have hz:=zo2 hl0;have hic:¬id=s.c:=by omega
        have hci:¬s.c=id:=by omega
        have hidc':id<s.c+1:=by omega
        generalize a.any (· ==tv T)=b at qa|-;cases b with
        | true=>
          by_cases hr:a.length<=ro
          . simp[rW,h7,h8,h9,h3,hn,hi,gX',ht,ht2,hnt,hx,qa,VP,hw,nX,hid,zbl,ze2,hz,zes,hic,hci,hidc',hr];exact⟨.inr ⟨id,ro,by rw[zbl],hne,by simp[TG,hic,hid],by rw[zbl];exact hro,hlid,by omega⟩,by omega,hfq _ fun x hx=>by simp[TG,show ¬x=s.c by omega,show ¬x=id by omega]⟩
          . simp[rW,h7,h8,h9,h3,hn,hi,gX',ht,ht2,hnt,hx,qa,VP,hw,nX,hid,zbl,ze2,hz,zes,hic,hci,hidc',hr];exact⟨.inr ⟨id,a.length,by rw[zbl],hne,by simp[TG],by rw[zbl];omega,hlid,by omega⟩,by omega,hfq _ fun x hx=>by simp[TG,show ¬x=s.c by omega,show ¬x=id by omega]⟩
        | false=>
          by_cases hr:a.length<=ro
          . simp[rW,h7,h8,h9,h3,hn,hi,gX',ht,ht2,hnt,hx,qa,VP,hw,nX,hid,zbl,ze2,hz,zes,hic,hci,hidc',hr,hro,m3,m4,hlt];exact⟨by omega,.inr ⟨s.c+1,ro,by simp[za1],by simp[za1],by simp[TG,za1],by rw[zbl,Z17];omega,by omega,by omega⟩,by omega,hfq _ fun x hx=>by simp[TG,Vse.T.zeF,show ¬x=s.c by omega,show ¬x=s.c+1 by omega,show ¬x=id by omega]⟩
          . simp[rW,h7,h8,h9,h3,hn,hi,gX',ht,ht2,hnt,hx,qa,VP,hw,nX,hid,zbl,ze2,hz,zes,hic,hci,hidc',hr,hro,m3,m4,hlt];exact⟨by omega,.inr ⟨s.c+1,a.length,by simp[za1],by simp[za1],by simp[TG,za1],by rw[zbl,Z17];omega,by omega,by omega⟩,by omega,hfq _ fun x hx=>by simp[TG,Vse.T.zeF,show ¬x=s.c by omega,show ¬x=s.c+1 by omega,show ¬x=id by omega]⟩
  . rintro s ⟨d,h7,h8,h9,h3,hgn,hc1,hfn⟩;rw[hv]at hgn;simp[rW,h7,h8,h9,h3,VP,hc1];exact⟨⟨_,rfl⟩,hgn,hfn⟩
  . simp[rW,VP];exact⟨.inl ⟨rfl,rfl⟩,fun _ _=>rfl⟩
  . rintro x s ⟨rfl,n,d,h7,h8,h9,h3,hgn,hc1,hfn⟩;simp[rW,h3,zcp];exact⟨⟨zjc hf0 hfn (by omega),zjh hgn (by omega)⟩,fun _ hF=>⟨fun _ _=>rfl,zra (zjh hgn (by omega)) hF⟩⟩
def zLA{f:Nat}{fs:List F}{y:F}{P:D->T Ob->Nat->Prop}(he:Eff pr f (F.dL fs) .e 0 P)(hz:∀d h c,P d h c->∃rd,frz h.get 12 d=some (y,rd)):Ans pr f fs y:=by
 obtain⟨q,h1,h2,h3,h4⟩ :=he;obtain⟨rd,h5⟩ :=hz _ _ _ h2;exact⟨q,rd,h1,h5⟩
def zsO(c:CQ)(hc:CqSm c):Ans pr 65 [.ag (cqF c)] (zaM (vrs c)):=by
 have e:F.dL [.ag (cqF c)]=[.ag [.f (zaS c),.f (zaQ c)]]:=by simp[F.dL,F.d,cqE,zbO,zbQ]
 refine zLA (e▸zyX c hc (rdQ_F c .e 0)) fun d h c' hp=>zLT (zjh hp.2 (Z62 _))
def fn67:pr.fn 67=some g67:=by kernel_rfl
def fn82:pr.fn 82=some g82:=by kernel_rfl
def fn103:pr.fn 103=some zy3:=by kernel_rfl
def fn117:pr.fn 117=some zzg:=by kernel_rfl
def zC9(f:Go.Vse.A->Option D)(x a b:Go.Vse.A):O.res f (.sls x (some a) (some b))=(f x).bind fun x=>(f a).bind fun a=>(f b).bind fun b=>some (.sls x (some a) (some b)):=by
 simp only[O.res,zcQ];cases f x<;>cases f a<;>cases f b<;>rfl
def zJv{pr:Pr}{s:St}{Q:St->Prop}{dst:Option Nat}{l:List Go.Vse.Op}{x a b:Go.Vse.A}:wpO pr (⟨dst,none,.sls x (some a) (some b)⟩ ::l) s Q↔oB (((O.sls x (some a) (some b)).res (zad s.tm)).bind (opv s.h.get s.c)) fun r=>zaq r.c r.wr=true/\wpO pr l (s.aft dst r.d r.wr r.c) Q:=zdp rfl
def zJ0(h:Nat->Option Ob)(c:Nat){l:Str}{a b:Nat}(ha:a<=b)(hb:b<=l.length):opv h c (.sls (.f (.s l)) (some (.f (.i .i64 (a:Int)))) (some (.f (.i .i64 (b:Int)))))=some {d:= .f (.s ((l.drop a).take (b - a))),c:=c}:=by
 simp[opv,za8,zbR,ha,hb,okF]
def dg1:Str:=[48,49,50,51,52,53,54,55,56,57,97,98,99,100,101,102,103,104,105,106,107,108,109,110,111,112,113,114,115,116,117,118,119,120,121,122]
def dg2:Str:=(List.range 100).flatMap fun n=>[UInt8.ofNat (48+n/10),UInt8.ofNat (48+n%10)]
def dgt(n:Nat):Str:=if n<10 then(dg1.drop n).take 1 else(dg2.drop (2*n)).take 2
def zLr:∀n<100,∀m<100,dgt n=dgt m->n=m:=by
 have h:∀n<100,(dgt n).foldl (fun x d=>10*x+(d.toNat - 48)) 0=n:=by decide
 intro n hn m hm e;rw[<-h n hn,<-h m hm,e]
def ro117(n:Nat)(hn:n<100){h:T Ob}{c:Nat}:RO pr 117 [.f (.i .i64 n)] h c (.f (.s (dgt n))):=by
 refine zcA za0 fn117 rfl ?_;simp only[zzg,rU];have hw1:=zao n (by omega);have e1:IntKind.i64.wrap ((n:Int)*2)=((2*n:Nat):Int):=by rw[wrap_i64 _ (by omega) (by omega)];omega
 have e2:IntKind.i64.wrap (((2*n:Nat):Int)+2)=((2*n+2:Nat):Int):=by rw[wrap_i64 _ (by omega) (by omega)];omega
 have bm:za7 .mul (.i .i64 (n:Int)) (.i .i64 2)=some (.i .i64 (IntKind.i64.wrap ((n:Int)*2))):=rfl;unfold dgt
 by_cases h1:n<10
 .have h1':(n:Int)<10:=by omega
  have v:=fun h c=>zJ0 h c (l:=dg1) (a:=n) (b:=n+1) (by omega) (by rw[show dg1.length=36 from rfl];omega)
  rw[show n+1 - n=1 by omega]at v;unfold dg1 at v|-;dsimp only at v|-
  push_cast at v e1 e2
  simp[rW,st0,zah,h1,h1',hw1,zJv,zC9,v,zaO]
 .have h1':¬((n:Int)<10):=by omega
  have v:=fun h c=>zJ0 h c (l:=dg2) (a:=2*n) (b:=2*n+2) (by omega) (by rw[show dg2.length=200 by decide];omega)
  rw[show 2*n+2 - 2*n=2 by omega]at v;have hd:dg2=[48,48,48,49,48,50,48,51,48,52,48,53,48,54,48,55,48,56,48,57,49,48,49,49,49,50,49,51,49,52,49,53,49,54,49,55,49,56,49,57,50,48,50,49,50,50,50,51,50,52,50,53,50,54,50,55,50,56,50,57,51,48,51,49,51,50,51,51,51,52,51,53,51,54,51,55,51,56,51,57,52,48,52,49,52,50,52,51,52,52,52,53,52,54,52,55,52,56,52,57,53,48,53,49,53,50,53,51,53,52,53,53,53,54,53,55,53,56,53,57,54,48,54,49,54,50,54,51,54,52,54,53,54,54,54,55,54,56,54,57,55,48,55,49,55,50,55,51,55,52,55,53,55,54,55,55,55,56,55,57,56,48,56,49,56,50,56,51,56,52,56,53,56,54,56,55,56,56,56,57,57,48,57,49,57,50,57,51,57,52,57,53,57,54,57,55,57,56,57,57]:=by decide
  rw[hd]at v|-;dsimp only at v|-
  push_cast at v e1 e2
  simp[rW,st0,zah,h1,h1',bm,e1,e2,zJv,zC9,v,zaO]
def ro103(n:Nat)(hn:n<100){h:T Ob}{c:Nat}:RO pr 103 [.f (.i .i64 n),.f (.i .i64 10)] h c (.f (.s (dgt n))):=by
 refine zcA za0 fn103 rfl ?_;simp only[zy3,rU];have h1:(0:Int)<=n:=by omega
 have h2:(n:Int)<100:=by omega
 simp[rW,st0,zah,h1,h2];refine zbW (d:= .f (.s (dgt n))) (ro117 n hn) (Z3 _) ?_;intro mx;simp[rW,zaO]
def ro82(n:Nat)(hn:n<100){h:T Ob}{c:Nat}:RO pr 82 [.f (.i .i64 n)] h c (.f (.s (dgt n))):=by
 refine zcA za0 fn82 rfl ?_;simp only[g82,rU];simp[rW,st0,zah];refine zbW (d:= .f (.s (dgt n))) (ro103 n hn) (Z3 _) ?_;intro mx;simp[rW,zaO]
def zHR(n:Nat)(hn:n<100):Ans pr 67 [.i .i64 n] (.s (dgt n)):=by
 refine zb6 fn67 ?_;simp only[g67,rU];simp[rW,st0,zah];refine zbW (d:= .f (.s (dgt n))) (ro82 n hn) (Z3 _) ?_;intro mx;simp[rW,]
def zCu(h:Nat->Option Ob)(k:Nat)(l:List Nat):zaV (frz h (k+1)) (l.map fun n:Nat=>[D.f (.i .i64 (n:Int))])=some (l.map fun n:Nat=>[F.i .i64 (n:Int)],[]):=zy2 h k (fun n:Nat=>F.i .i64 (n:Int)) l
def iE(l:List Nat):List (List D):=l.map fun n:Nat=>[D.f (.i .i64 (n:Int))]
def zcs(l:List Nat):(iE l).length=l.length:=by simp[iE]
def zuU(l m:List Nat):iE l++iE m=iE (l++m):=by simp[iE]
def zuK{h:T Ob}{lo c:Nat}{d:D}{l:List Nat}(hg:Gro h lo c 1 d (iE l)):∃rd,frz h.get 12 d=some (zeR l,rd):=
 ziU (k:=11) hg (zCu _ 10 l) (by simp[iE])
def zss(n:Nat):iE (List.range n)++[[D.f (.i .i64 (n:Int))]]=iE (List.range (n+1)):=by rw[Z137,<-zuU];rfl
def AP(N n:Nat)(s:St):Prop:=∃d,s.tm.get 6=some (.f (.i .i64 N))/\s.tm.get 7=some (.f (.i .i64 n))/\s.tm.get 3=some (d)/\Gro s.h 0 s.c 1 d (iE (List.range n))
def ans72(c:CQ)(hl:c.as.length<1000):Ans pr 72 [zaS c] (zeR (List.range c.as.length)):=by
 refine zb6 fn72 ?_;simp only[g72,rU];simp[rW,st0,zah,zbO,zeu];refine zdo c.as.length (fun n s=>AP c.as.length n s) (fun x s=>x= .exit 0/\AP c.as.length c.as.length s) ?_ ?_ _ ?_ ?_
 .rintro n s hn ⟨d,h6,h7,h3,hg⟩;have hw:=zao n (by omega);simp[rW,h6,h7,h3,hn];refine zpR hg (by omega) (by simp only[zcs,Z38];simp;omega) (by omega) ?_;intro r hr1 hr2 hr3 hr4 _ _;refine⟨hr1,?_⟩;simp[rW,h6,h7,h3,hw,AP];rw[<-zss];exact hr2
 .rintro s ⟨d,h6,h7,h3,hg⟩;simp[rW,h6,h7,h3,AP,hg]
 .simp[rW,AP];exact .inl ⟨rfl,rfl⟩
 .rintro x s ⟨rfl,d,h6,h7,h3,hg⟩;obtain⟨rd,hz⟩ :=zuK hg;simp[rW,h6,h7,h3,hz]
def ans73(c:CQ)(hl:c.cs.length<1000):Ans pr 73 [zaQ c] (zeR (List.range c.cs.length)):=by
 refine zb6 fn73 ?_;simp only[g73,rU];simp[rW,st0,zah,zbQ,zhH];refine zdo c.cs.length (fun n s=>AP c.cs.length n s) (fun x s=>x= .exit 0/\AP c.cs.length c.cs.length s) ?_ ?_ _ ?_ ?_
 .rintro n s hn ⟨d,h6,h7,h3,hg⟩;have hw:=zao n (by omega);simp[rW,h6,h7,h3,hn];refine zpR hg (by omega) (by simp only[zcs,Z38];simp;omega) (by omega) ?_;intro r hr1 hr2 hr3 hr4 _ _;refine⟨hr1,?_⟩;simp[rW,h6,h7,h3,hw,AP];rw[<-zss];exact hr2
 .rintro s ⟨d,h6,h7,h3,hg⟩;simp[rW,h6,h7,h3,AP,hg]
 .simp[rW,AP];exact .inl ⟨rfl,rfl⟩
 .rintro x s ⟨rfl,d,h6,h7,h3,hg⟩;obtain⟨rd,hz⟩ :=zuK hg;simp[rW,h6,h7,h3,hz]
def zPU(x:Cm)(hx:zdm x):Ans pr 111 [.ag (cmF x)] (.b (zAC x)):=by
 have q:=fun k=>zav (k:=k) (zk9 x.l x.r hx.1 hx.2)
 have r:=fun k=>zav (k:=k) (ztB (tn x.l) (tn x.r))
 refine zb6 fn111 ?_;simp only[zzb,rU];unfold zAC;simp only[tmE,vF]at q r;generalize zb2 x.l x.r=b at q|-
 by_cases h4:tv x.l=[]
 .have h4':=zDx hx.1 h4
  by_cases h5:tv x.r=[]
  .have h5':=zDx hx.2 h5;simp only[h4,h5,h4',h5']at q;have e0:=zr3 (tn x.l) (tn x.r);have e1:=zK5 (tn x.l) (tn x.r);have e2:=zK1 (tn x.l) (tn x.r);have e3:=zKX (tn x.l) (tn x.r);unfold cmpI;generalize zej (tn x.l) (tn x.r)=c at r e0 e1 e2 e3
   by_cases h1:x.op=1
   .cases b<;>simp[rW,st0,zah,tmE,cmF,q,r,h1,h4,h5,h4',h5',<-e0]
   .by_cases h2:x.op=2
    .cases b<;>simp[rW,st0,zah,tmE,cmF,q,r,h2,h4,h5,h4',h5',<-e1]
    .by_cases h3:x.op=3
     .cases b<;>simp[rW,st0,zah,tmE,cmF,q,r,h3,h4,h5,h4',h5',<-e2]
     .by_cases h6:x.op=4
      .cases b<;>simp[rW,st0,zah,tmE,cmF,q,r,h6,h4,h5,h4',h5',<-e3]
      .cases b<;>simp[rW,st0,zah,tmE,cmF,q,r,h1,h2,h3,h6,h4,h5,h4',h5']
  .simp only[h4,h4']at q
   by_cases h1:x.op=1
   .cases b<;>simp[rW,st0,zah,tmE,cmF,q,h1,h4,h4',h5]
   .by_cases h6:x.op=4
    .cases b<;>simp[rW,st0,zah,tmE,cmF,q,h6,h4,h4',h5]
    .cases b<;>simp[rW,st0,zah,tmE,cmF,q,h1,h6,h4,h4',h5]
 .by_cases h1:x.op=1
  .cases b<;>simp[rW,st0,zah,tmE,cmF,q,h1,h4]
  .by_cases h6:x.op=4
   .cases b<;>simp[rW,st0,zah,tmE,cmF,q,h6,h4]
   .cases b<;>simp[rW,st0,zah,tmE,cmF,q,h1,h6,h4]
def fn94:pr.fn 94=some g94:=by kernel_rfl
def fn93:pr.fn 93=some g93:=by kernel_rfl
def fn92:pr.fn 92=some g92:=by kernel_rfl
def fn91:pr.fn 91=some g91:=by kernel_rfl
def fn110:pr.fn 110=some zza:=by kernel_rfl
def zo6(v:Str):tv (.var v)=v:=rfl
def zo3(v:Str):tk (.var v)=0:=rfl
def zo4(v:Str):tn (.var v)=0:=rfl
def zv5(n:Int):tv (.cst n)=[]:=rfl
def zAu(n:Int):tk (.cst n)=1:=rfl
def zAy(n:Int):tn (.cst n)=n:=rfl
def bE(l:List Bool):List (List D):=l.map fun b=>[D.f (.b b)]
def vix(ns:List Str)(v:Str):Nat:=ns.findIdx (v== ·)
def zj9(j:Nat)(ns:List Str):List (F×D):=match ns with
 |[]=>[]
 |x::l=>(F.s x,D.f (.i .i64 (j:Int)))::zj9 (j+1) l
def ixE(ns:List Str):List (F×D):=zj9 0 ns
theorem zok(v:Str):∀(ns:List Str) (j i:Nat),zbf 1 (.s v) (zj9 j ns) i=some (if v∈ns then some (i+vix ns v,.f (.i .i64 ((j+vix ns v:Nat):Int)))else none)
 |[],_,_=>rfl
 |x::l,j,i=>by
  simp only[zj9,zbf,zfW]
  by_cases h:v=x
  .subst h;simp[vix,List.findIdx_cons]
  .have hb:(v==x)=false:=by simpa using h
   have hb2:¬x=v:=fun e=>h e.symm
   simp only[hb];rw[zok v l (j+1) (i+1)]
   by_cases hm:v∈l
   .simp only[hm,Z61,Z6,h,false_or,vix,List.findIdx_cons,hb,cond_false];rw[show i+1+List.findIdx (fun x=>v==x) l=i+(List.findIdx (fun x=>v==x) l+1) by omega,show j+1+List.findIdx (fun x=>v==x) l=j+(List.findIdx (fun x=>v==x) l+1) by omega]
   .simp[hm,h]
def zoj{v:Str}{ns:List Str}(h:v∈ns):zbf 1 (.s v) (ixE ns) 0=some (some (vix ns v,.f (.i .i64 (vix ns v:Int)))):=by
 rw[ixE,zok,Z52 h];simp
def zmw{v:Str}{ns:List Str}(h:v∉ns):zbf 1 (.s v) (ixE ns) 0=some none:=by
 rw[ixE,zok,Z50 h]
def ziw{v:Str}{ns:List Str}(h:v∈ns):vix ns v<ns.length:=by
 unfold vix;rw[List.findIdx_lt_length];exact⟨v,h,by simp⟩
def zrR{v:Str}{ns:List Str}(h:v∈ns):ns[vix ns v]'(ziw h)=v:=by
 have:=List.findIdx_getElem (w:=ziw h) (p:=(v== ·)) (xs:=ns);simp only[beq_iff_eq]at this;exact this.symm
structure SAt(a b:CQ)(ns:List Str)(im:List Trm)(asg:List Bool)(dA dC dT:D)(h:T Ob)(c S M I A:Nat):Prop where
 gS:h.get S=some (.arr 11 0 [[.f (zaM ns),.mp M,.sl I 0 ns.length 4 ns.length true,.sl A 0 ns.length 1 ns.length true,.f (zaS a),.f (zaQ a),dA,dC,.f (zaS b),.f (zaQ b),dT]])
 gM:h.get M=some (.map (ixE ns))
 gI:h.get I=some (.arr 4 0 (zaH im))
 gA:h.get A=some (.arr 1 0 (bE asg))
 lI:im.length=ns.length
 lA:asg.length=ns.length
 bS:S<c
 bM:M<c
 bI:I<c
 bA:A<c
def zdd(ns:List Str)(im:List Trm)(asg:List Bool):Trm->Trm×Bool
 | .cst n=>(.cst n,true)
 | .var v=>(im.getD (vix ns v) (.var []),asg.getD (vix ns v) false)
def InV(ns:List Str)(t:Trm):Prop:=zaL t/\∀v,t= .var v->v∈ns
def SAt.up{a b:CQ}{ns:List Str}{im:List Trm}{asg:List Bool}{dA dC dT:D}{h h':T Ob}{c c' S M I A:Nat}(H:SAt a b ns im asg dA dC dT h c S M I A)(hf:∀id,id<c->h'.get id=h.get id)(hc:c<=c'):SAt a b ns im asg dA dC dT h' c' S M I A:=
 ⟨by rw[hf S H.bS];exact H.gS,by rw[hf M H.bM];exact H.gM,by rw[hf I H.bI];exact H.gI,by rw[hf A H.bA];exact H.gA,H.lI,H.lA,Z16 H.bS hc,Z16 H.bM hc,Z16 H.bI hc,Z16 H.bA hc⟩
theorem zFD{a b:CQ}{ns:List Str}{im:List Trm}{asg:List Bool}{dA dC dT:D}{h:T Ob}{c S M I A:Nat}(H:SAt a b ns im asg dA dC dT h c S M I A)(t:Trm)(ht:InV ns t):
  RO pr 94 [.ptr S 11 0 0,.ag (tmD t)] h c (.tu [.ag (tmD (zdd ns im asg t).1),.f (.b (zdd ns im asg t).2)]):=by
 obtain⟨gS,gM,gI,gA,lI,lA,hS,hM,hI,hA⟩ :=H;refine zcA za0 fn94 (by simp[tmD,D.isF,D.zhN]) ?_;simp only[g94,rU];have nS:¬S=c:=by omega
 have nM:¬M=c:=by omega
 have nI:¬I=c:=by omega
 have nA:¬A=c:=by omega
 have nS1:¬S=c+1:=by omega
 have nM1:¬M=c+1:=by omega
 have nI1:¬I=c+1:=by omega
 have nA1:¬A=c+1:=by omega
 have nS1':¬c+1=S:=by omega
 have nA1':¬c+1=A:=by omega
 have nI1':¬c+1=I:=by omega
 cases t with
 |cst n=>
  simp[rW,st0,zah,tmD,zv5,zAu,zAy,zdd,zaO];simp (disch:=omega) only[za3,za9]
 |var v=>
  have hv:v∈ns:=ht.2 v rfl;have hne:v≠[]:=ht.1;have hl:=ziw hv;have hk:=zoj hv;have e1:im.getD (vix ns v) (.var [])=im[vix ns v]:=by simp[List.getD,lI,hl]
  have e2:asg.getD (vix ns v) false=asg[vix ns v]:=by simp[List.getD,lA,hl]
  have e3:=zfX im (vix ns v) (by omega);have e4:(bE asg)[vix ns v]? =some [D.f (.b asg[vix ns v])]:=by simp[bE,lA,hl]
  simp only[zdd,e1,e2];simp only[tmD]at e3;simp[rW,st0,zah,tmD,zo6,zo3,zo4,hne];refine zaF ?_;simp[rW,st0,zah,tmD,hne,gS,gM,nS,nM,nS1,nM1,hk];refine zaF ?_;simp[rW,st0,zah,tmD,hne,gS,gI,gA,nS,nI,nA,nS1,nI1,nA1,nS1',nA1',nI1',hl,e3,e4,zaO];simp (disch:=omega) only[za3,za9]
def zKc{α:Type}{l:List α}{p:α->Bool}(h:∀a∈l,p a=false):(l.all fun a=>!p a)=true:=by
 rw[Z51];intro a ha;simp[h a ha]
def zKb{α:Type}{l:List α}{p:α->Bool}{n:Nat}(h:n<l.length)(h1:p l[n]=true):(l.all fun a=>!p a)=false:=by
 rw[Z144];exact⟨l[n],Z2 h,by simp[h1]⟩
def atD(a:Atm):List D:=[.f (.s a.r),.f (.b a.neg),.f (zdD a.ts)]
def ziy(ns:List Str)(im:List Trm)(asg:List Bool)(a b:Atm):Bool:=
 a.r==b.r&&(a.neg==b.neg&&(decide (a.ts.length=b.ts.length)&&(a.ts.zip b.ts).all fun p=>!((zdd ns im asg p.1).2&& !zb2 (zdd ns im asg p.1).1 p.2)))
def zfw(im:List Trm)(asg:List Bool):Prop:=∀i,asg.getD i false=true->zaL (im.getD i (.var []))
def zri{ns:List Str}{im:List Trm}{asg:List Bool}(h:zfw im asg){t:Trm}(ht:(zdd ns im asg t).2=true):zaL (zdd ns im asg t).1:=by
 cases t with
 |cst n=>trivial
 |var v=>exact h _ ht
def F1(a b:Atm)(h:T Ob)(c S n:Nat)(s:St):Prop:=
 s.tm.get 0=some (.ptr S 11 0 0)/\s.tm.get 5=some (.ptr (c+1) 3 0 0)/\s.tm.get 33=some (.f (zdD a.ts))/\s.tm.get 34=some (.f (.i .i64 a.ts.length))/\s.tm.get 35=some (.f (.i .i64 n))/\s.h.get (c+1)=some (.arr 3 0 [atD b])/\(∀id,id<c->s.h.get id=h.get id)/\c+2<=s.c/\s.lw=c
theorem ro93{a b:CQ}{ns:List Str}{im:List Trm}{asg:List Bool}{dA dC dT:D}{h:T Ob}{c S M I A:Nat}(H:SAt a b ns im asg dA dC dT h c S M I A)(ho:zfw im asg)(x y:Atm)(hx:∀t∈x.ts,InV ns t)(hy:zc1 y)(hxl:x.ts.length<1000):
  RO pr 93 [.ptr S 11 0 0,.ag (atD x),.ag (atD y)] h c (.f (.b (ziy ns im asg x y))):=by
 refine zcA za0 fn93 rfl ?_;simp only[g93,rU];unfold ziy
 by_cases h1:x.r=y.r
 .by_cases h2:x.neg=y.neg
  .by_cases h3:x.ts.length=y.ts.length
   .have h3':(x.ts.length:Int)=(y.ts.length:Int):=by omega
    generalize hr:((x.ts.zip y.ts).all fun p=>!((zdd ns im asg p.1).2&& !zb2 (zdd ns im asg p.1).1 p.2))=r;simp[rW,st0,zah,atD,h1,h2,h3,zh3];refine zfa (x.ts.zip y.ts) (fun p=>(zdd ns im asg p.1).2&& !zb2 (zdd ns im asg p.1).1 p.2) (fun n s=>F1 x y h c S n s) (fun x s=>x= .exit 0/\s.lw=c) (fun n x s=>x= .ret/\s.tm.get 6=some (.f (.b false))/\s.lw=c) ?_ ?_ _ ?_ ?_ ?_
    .rintro n s hn ⟨h0,h5,h33,h34,h35,gq,hf,hc,hl⟩;have hn1:n<x.ts.length:=by simp at hn;omega
     have hn2:n<y.ts.length:=by omega
     have hw:=zao n (by omega);have htx:=hx _ (Z2 hn1);have hty:=hy.1 _ (Z2 hn2);simp only[Z109];generalize hT:x.ts[n]=T at htx|-;generalize hU:y.ts[n]=U at hty|-;have hT':x.ts[n]? =some T:=by rw[Z0 hn1,hT]
     have hU':y.ts[n]? =some U:=by rw[Z0 hn2,hU]
     simp[rW,h0,h5,h33,h34,h35,hn1,hn2,zm7,hT',hT,tmE,h3];refine zbW (zFD (H.up ?_ ?_) T htx) ?_ ?_
     .intro id hid;simp only[rG];simp[TG,show id≠s.c by omega,hf id hid]
     .simp only[rG];omega
     .simp only[rG];simp (disch:=omega) only[za3,za9];omega
     .intro mx;have hcn:¬c+1=s.c:=by omega
      have hcm:¬c=s.c:=by omega
      have hF:∀id,id<c->¬id=s.c/\¬id=s.c+1:=fun id h=>by omega
      have hok:=zri (ns:=ns) ho (t:=T);simp only[atD]at gq;cases hb:(zdd ns im asg T).2 with
      |false=>
       simp[rW,h0,h5,h33,h34,h35,hb,tmD];refine zaF ?_;simp[rW,h0,h5,h33,h34,h35,hb,hw,F1,atD,gq,hcn,hcm,h3];refine⟨fun id h=> ?_,by omega,?_⟩
       .simp[(hF id h).1,(hF id h).2,hf id h]
       .rw[hl];simp (disch:=omega) only[za3,za9]
      |true=>
       have q:=fun k=>zav (k:=k) (zk9 (zdd ns im asg T).1 U (hok hb) hty)
       simp only[tmE]at q;generalize (zdd ns im asg T).1=W at q|-;cases hs:zb2 W U with
       |false=>
        rw[hs]at q;simp[rW,h0,h5,h33,h34,h35,hb,tmD];refine zaF ?_;simp[rW,h0,h5,h33,h34,h35,hb,hw,F1,atD,gq,hcn,hcm,h3,zm7,hn2,hU',hU,tmE,q];rw[hl];simp (disch:=omega) only[za3,za9]
       |true=>
        rw[hs]at q;simp[rW,h0,h5,h33,h34,h35,hb,tmD];refine zaF ?_;simp[rW,h0,h5,h33,h34,h35,hb,hw,F1,atD,gq,hcn,hcm,h3,zm7,hn2,hU',hU,tmE,q];refine⟨fun id h=> ?_,by omega,?_⟩
        .simp[(hF id h).1,(hF id h).2,hf id h]
        .rw[hl];simp (disch:=omega) only[za3,za9]
    .rintro s ⟨h0,h5,h33,h34,h35,gq,hf,hc,hl⟩;simp[rW,h0,h5,h33,h34,h35,h3,hl]
    .simp[rW,F1,atD,h3];refine⟨?_,?_⟩
     .intro id hid;simp[show id≠c by omega,show id≠c+1 by omega]
     .simp (disch:=omega) only[za3,za9]
    .rintro h z s ⟨rfl,hl⟩;have:r=true:=by rw[<-hr];exact zKc h
     simp[rW,zaO,hl,this]
    .rintro n hn hp hm z s ⟨rfl,h6,hl⟩;have:r=false:=by rw[<-hr];exact zKb hn hp
     simp[rW,h6,hl,zaO,this]
   .have h3':¬(x.ts.length:Int)=(y.ts.length:Int):=by omega
    simp[rW,st0,zah,atD,h1,h2,h3,h3',zh3,zaO];simp (disch:=omega) only[za3,za9]
  .have h2':(x.neg==y.neg)=false:=by simpa using h2
   simp[rW,st0,zah,atD,h1,h2,h2',zh3,zaO];simp (disch:=omega) only[za3,za9]
 .have h1':(x.r==y.r)=false:=by simpa using h1
  simp[rW,st0,zah,atD,h1,h1',zh3,zaO];simp (disch:=omega) only[za3,za9]
end Go.Proofs.YtflgmemhalhdbaaGreatDoor
end
