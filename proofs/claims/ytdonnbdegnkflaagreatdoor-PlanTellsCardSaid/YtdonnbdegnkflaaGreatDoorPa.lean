/- Small functions, the form of data (ported from seat17b). -/
import Derived.Test.YtdonnbdegnkflaaGreatDoorHb
import Derived.Test.YtdonnbdegnkflaaGreatDoorAll
import Derived.Test.YtdonnbdegnkflaaGreatDoorVe
import Derived.KernelRfl
import Derived.IntWalk
import Derived.Sort.AssemblyPlain
import Derived.Sort.Row
import Derived.Laws.Bits64
import Derived.Laws.Bits64b
import Derived.Sort.LotD5
set_option linter.all false
set_option maxRecDepth 100000
set_option maxHeartbeats 4000000
section
namespace Go.Proofs.YtdonnbdegnkflaaGreatDoor
open Go Go.Vse Go.Vse.Sm
def fn10:pr.fn 10=some g10:=by kernel_rfl
def fn30:pr.fn 30=some g30:=by kernel_rfl
def fn51:pr.fn 51=some g51:=by kernel_rfl
def fn56:pr.fn 56=some g56:=by kernel_rfl
def fn57:pr.fn 57=some g57:=by kernel_rfl
def fn58:pr.fn 58=some g58:=by kernel_rfl
def fn59:pr.fn 59=some g59:=by kernel_rfl
def fn105:pr.fn 105=some zFN:=by kernel_rfl
def fn106:pr.fn 106=some zFO:=by kernel_rfl
def fn164:pr.fn 164=some zFT:=by kernel_rfl
def zib(a b:Str):Int:=if Go.Op.bytesLess a b=true then -1 else if a=b then 0 else 1
def zcN(a b:Int):Int:=if a=b then 0 else if a<b then -1 else 1
def zE4(a b:Int):Ans pr 51 [.ag (vF a),.ag (vF b)] (.i .i64 (zcN a b)):=by
 refine zdu fn51 ?_;simp only[g51,rU];unfold zcN;have hl:Go.Op.bytesLess [] []=false:=rfl
 by_cases h1:a=b
 .subst h1;simp -implicitDefEqProofs [rR,st0,zao,vF,hl]
 .by_cases h2:a<b
  .simp -implicitDefEqProofs [rR,st0,zao,vF,hl,h1,h2]
  .simp -implicitDefEqProofs [rR,st0,zao,vF,hl,h1,h2]
def bl_cn(b:Str):Go.Op.bytesLess b []=false:=by cases b<;>rfl
def bl_n{b:Str}(h:b≠[]):Go.Op.bytesLess [] b=true:=by
 cases b with
 |nil=>exact absurd rfl h
 |cons=>rfl
def tv:Trm->Str
 | .var s=>s
 | .cst _=>[]
def tk:Trm->Int
 | .var _=>0
 | .cst _=>1
def tn:Trm->Int
 | .var _=>0
 | .cst n=>n
def tmE(t:Trm):tmF t=[.s (tv t),.i .i64 (tk t),.i .i64 (tn t),.s []]:=by cases t<;>rfl
def zlk:Trm->Trm->Int
 | .cst a,.cst b=>zcN a b
 | .cst _,.var _=> -1
 | .var _,.cst _=>1
 | .var a,.var b=>zib a b
def zabZ(a b:Trm)(ha:zaN a)(hb:zaN b):Ans pr 164 [.ag (tmF a),.ag (tmF b)] (.i .i64 (zlk a b)):=by
 refine zdu fn164 ?_;simp only[zFT,rU];cases a with
 |cst a=>
  cases b with
  |cst b=>
   have q:=fun k=>zah (k:=k) (zE4 a b)
   simp only[vF]at q;simp -implicitDefEqProofs [rR,st0,zao,tmF,vF,zlk,q]
  |var b=>
   simp only[zaN]at hb;simp -implicitDefEqProofs [rR,st0,zao,tmF,zlk,hb,bl_n hb]
 |var a=>
  cases b with
  |cst b=>
   simp only[zaN]at ha;simp -implicitDefEqProofs [rR,st0,zao,tmF,zlk,ha,bl_cn]
  |var b=>
   simp only[zaN]at ha hb
   by_cases h1:Go.Op.bytesLess a b=true
   .simp -implicitDefEqProofs [rR,st0,zao,tmF,zlk,zib,ha,hb,h1]
   .by_cases h2:a=b
    .simp -implicitDefEqProofs [rR,st0,zao,tmF,zlk,zib,ha,hb,h1,h2]
    .simp -implicitDefEqProofs [rR,st0,zao,tmF,zlk,zib,ha,hb,h1,h2]
def zHd(a b:Trm):Bool:=zlk a b==0
def zmM(l:List Trm):F:=slc 4 (l.map tmF)
def wrap_i64(n:Int)(h:0<=n)(h2:n<9223372036854775808):IntKind.i64.wrap n=n:=IntWalk.i64_in n (by omega)
def za5(n:Nat)(h:n<1000000):IntKind.i64.wrap ((n:Int)+1)=((n+1:Nat):Int):=wrap_i64 _ (by omega) (by omega)
def za8(l:List Str):(zbQ l).d= .f (zbQ l):=zga ..
def zpy(l:List Str):zd5 (.f (zbQ l))=some l.length:=by simp[zbQ,zeQ]
def zrZ(l:List Str)(n:Nat):iaB 1 (.f (zbQ l)) n=(l[n]?).map fun s=>D.fptr [.s s]:=by simp[zbQ,zfX,Z67]
def zhP(l:List Trm):(zmM l).d= .f (zmM l):=zga ..
def zez(l:List Trm):zd5 (.f (zmM l))=some l.length:=by simp[zmM,zeQ]
def ziB(l:List Trm)(n:Nat):iaB 4 (.f (zmM l)) n=(l[n]?).map fun t=>D.fptr (tmF t):=by simp[zmM,zfX,Z67]
def zmi(a b:Int):(zcN a b==0)=decide (a=b):=by
 unfold zcN
 by_cases h:a=b
 .simp[h]
 .simp only[h,Z63,decide_false];split<;>rfl
def zDo(a b:Int):(zcN a b != 0)=decide (a≠b):=by
 rw[bne,zmi];simp
def zrM(a b:Int):(zcN a b<0)=(a<b):=by
 unfold zcN
 by_cases h:a=b
 .simp[h]
 .simp only[h,Z63];split<;>simp_all
def zgQ(c:CQ):F:=csF c
def zgO(c:CQ):F:=Sm.asF c
def za2(c:CQ):(zgQ c).d= .f (zgQ c):=by
 unfold zgQ csF;split
 .rfl
 .exact zga ..
def znY(c:CQ):zd5 (.f (zgQ c))=some c.cs.length:=by
 unfold zgQ csF;split
 .rename_i h;rw[h.2];rfl
 .simp[zeQ]
def zuk(c:CQ)(n:Nat):iaB 9 (.f (zgQ c)) n=(c.cs[n]?).map fun t=>D.fptr (cmF t):=by
 unfold zgQ csF;split
 .rename_i h;rw[h.2];rfl
 .simp[zfX,Z67]
def za1(c:CQ):(zgO c).d= .f (zgO c):=by
 unfold zgO Sm.asF;split
 .rfl
 .exact zga ..
def zaV(c:CQ):zd5 (.f (zgO c))=some c.as.length:=by
 unfold zgO Sm.asF;split
 .rename_i h;rw[h.2];rfl
 .simp[zeQ]
def zeH(c:CQ)(n:Nat):iaB 3 (.f (zgO c)) n=(c.as[n]?).map fun t=>D.fptr (atF t):=by
 unfold zgO Sm.asF;split
 .rename_i h;rw[h.2];rfl
 .simp[zfX,Z67]
def cqE(c:CQ):cqF c=[zgO c,zgQ c]:=rfl
def atE(a:Atm):atF a=[.s a.r,.b a.neg,zmM a.ts]:=rfl
def zfb:zxo pr:=zL6 prOk
def zeF(l:List Str):List (List D):=l.map fun s=>[D.f (.s s)]
def zBd(l:List Str):(zeF l).length=l.length:=by simp[zeF]
def zLc(l:List Str):(zeF l).take l.length=zeF l:=by rw[<-zBd l,Z7]
def zND(h:Nat->Option Ob)(k:Nat)(l:List Str):zbi (frz h (k+1)) (zeF l)=some (l.map fun s=>[F.s s],[]):=zFJ h k F.s l
def zNF{l:List Str}(h:l≠[]):F.sl 1 (l.map fun s=>[F.s s])=zbQ l:=zlc (by simpa using h)
def zwa{h:T Ob}{lo c es k:Nat}{d:D}{els:List (List D)}{L:List (List F)}(hg:Gro h lo c es d els)(hf:zbi (frz h.get k) els=some (L,[]))(hL:L=[]↔els=[]):∃rd,frz h.get (k+1) d=some (slc es L,rd):=by
 rcases hg with⟨rfl,rfl⟩ |⟨id,ro,rfl,he,ho,hr,hl,hc⟩
 .rw[hL.2 rfl];exact⟨[],rfl⟩
 .refine⟨[id],?_⟩;rw[zk3,ho,zfx,zkz];simp only[true_and,Z25,Z2,Z60,Z34,Z7,hf,zfx];rw[zlc (fun e=>he (hL.1 e))]
def zAs{h:T Ob}{lo c es:Nat}{d:D}{els:List (List D)}(hg:Gro h lo c es d els){i:Nat}(hi:i<lo):d.oid≠some i:=by
 rcases hg with⟨rfl,_⟩ |⟨id,ro,rfl,_,_,_,hl,_⟩
 .simp[D.oid]
 .simp[D.oid];omega
theorem zDl:∀a:Str,Go.Op.bytesLess a a=false
 |[]=>rfl
 |x::a=>by
  simp only[Go.Op.bytesLess,zDl a,Bool.and_false,Bool.or_false,Z65];exact UInt8.lt_irrefl x
def qsF(l:List CQ):F:=slc 2 (l.map cqF)
def zsG(l:List CQ):(qsF l).d= .f (qsF l):=zga ..
def zAy(l:List CQ):zd5 (.f (qsF l))=some l.length:=by simp[qsF,zeQ]
def zpq(l:List CQ)(n:Nat):iaB 2 (.f (qsF l)) n=(l[n]?).map fun c=>D.fptr (cqF c):=by simp[qsF,zfX,Z67]
def zacF{f:Nat}{args:List D}{h:T Ob}{c:Nat}{x:F}(h1:pr.fn f=none)(h2:pr.ext f args=some x):RO pr f args h c x.d:=by
 refine⟨c,Z2 _,1,fun n hn=> ?_⟩;obtain⟨m,rfl⟩ :∃m,n=m+1:=⟨n - 1,by omega⟩
 simp only[zd0,h1,h2]
theorem zDp:∀a b:Str,Go.Lib.compareBytes a b=zib a b
 |[],[]=>rfl
 |[],b::l=>by simp[Go.Lib.compareBytes,zib,Go.Op.bytesLess]
 |a::l,[]=>by simp[Go.Lib.compareBytes,zib,Go.Op.bytesLess]
 |a::l,b::m=>by
  have ih:=zDp l m;unfold Go.Lib.compareBytes zib Go.Op.bytesLess
  by_cases h1:a<b
  .simp[h1]
  .by_cases h2:b<a
   .have h3:a≠b:=fun e=>by subst e;exact h1 h2
    simp[h1,h2,h3]
   .have h3:a=b:=UInt8.le_antisymm (UInt8.not_lt.1 h2) (UInt8.not_lt.1 h1);subst h3;simp only[h1,Z63,ih,zib];simp
def ro107(a b:Str)(h:T Ob)(c:Nat):RO pr 107 [.f (.s a),.f (.s b)] h c (.f (.i .i64 (zib a b))):=by
 have:=zacF (h:=h) (c:=c) (f:=107) (args:=[.f (.s a),.f (.s b)]) (x:= .i .i64 (Go.Lib.compareBytes a b)) (by kernel_rfl) rfl;rw[zDp]at this;exact this
def zIQ(a:Int):Ans pr 105 [.i .i64 a] (.b false):=by
 refine zdu fn105 ?_;simp only[zFN,rU];simp -implicitDefEqProofs [rW,st0,zao]
def zIT(a:Int):Ans pr 106 [.i .i64 a] (.b false):=by
 refine zdu fn106 ?_;simp only[zFO,rU];simp -implicitDefEqProofs [rW,st0,zao]
def zQX(a b:Int):Ans pr 57 [.i .i64 a,.i .i64 b] (.i .i64 (zcN a b)):=by
 refine zdu fn57 ?_;simp only[g57,rU];have q1:=fun k=>zah (k:=k) (zIQ a)
 have q2:=fun k=>zah (k:=k) (zIQ b)
 unfold zcN
 by_cases h1:a<b
 .have h2:¬a=b:=by omega
  simp -implicitDefEqProofs [rW,st0,zao,q1,q2,h1,h2]
 .by_cases h2:b<a
  .have h3:¬a=b:=by omega
   simp -implicitDefEqProofs [rW,st0,zao,q1,q2,h1,h2,h3]
  .have h3:a=b:=by omega
   simp -implicitDefEqProofs [rW,st0,zao,q1,q2,h1,h2,h3]
def zQZ(a b:Int):Ans pr 58 [.i .i64 a,.i .i64 b] (.i .i64 (zcN a b)):=by
 refine zdu fn58 ?_;simp only[g58,rU];have q1:=fun k=>zah (k:=k) (zIT a)
 have q2:=fun k=>zah (k:=k) (zIT b)
 unfold zcN
 by_cases h1:a<b
 .have h2:¬a=b:=by omega
  simp -implicitDefEqProofs [rW,st0,zao,q1,q2,h1,h2]
 .by_cases h2:b<a
  .have h3:¬a=b:=by omega
   simp -implicitDefEqProofs [rW,st0,zao,q1,q2,h1,h2,h3]
  .have h3:a=b:=by omega
   simp -implicitDefEqProofs [rW,st0,zao,q1,q2,h1,h2,h3]
def zQ0(a b:Str):Ans pr 59 [.s a,.s b] (.i .i64 (zib a b)):=by
 refine zdu fn59 ?_;simp only[g59,rU];simp -implicitDefEqProofs [rW,st0,zao];refine zjm (ro107 a b _ _) ?_ ?_
 .simp only[rG];omega
 .intro mx;simp -implicitDefEqProofs [rW,st0,zao]
def zQV(a b c:Int):Ans pr 56 [.sl 1 [[.i .i64 a],[.i .i64 b],[.i .i64 c]]] (.i .i64 (if a≠0 then a else if b≠0 then b else c)):=by
 refine zdu fn56 ?_;simp only[g56,rU];have w1:IntKind.i64.wrap 1=1:=rfl;have w2:IntKind.i64.wrap 2=2:=rfl;have w3:IntKind.i64.wrap 3=3:=rfl;simp -implicitDefEqProofs [rW,st0,zao];refine round ?_
 by_cases ha:a=0
 .by_cases hb:b=0
  .simp -implicitDefEqProofs [rW,ha,hb,w1];refine round ?_;simp -implicitDefEqProofs [rW,ha,hb,w2];refine round ?_
   by_cases hc:c=0
   .simp -implicitDefEqProofs [rW,hc,w3];refine round ?_;simp -implicitDefEqProofs [rW,hc]
   .simp -implicitDefEqProofs [rW,hc]
  .simp -implicitDefEqProofs [rW,ha,hb,w1];refine round ?_;simp -implicitDefEqProofs [rW,hb]
 .simp -implicitDefEqProofs [rW,ha]
def zE0(a b:Int):Ans pr 30 [.ag (vF a),.ag (vF b)] (.i .i64 (zcN a b)):=by
 refine zdu fn30 ?_;simp only[g30,rU];have q1:=fun k=>zah (k:=k) (zQX 1 1)
 have q2:=fun k=>zah (k:=k) (zQZ a b)
 have q3:=fun k=>zah (k:=k) (zQ0 [] [])
 have q4:=fun k=>zah (k:=k) (zQV (zcN 1 1) (zcN a b) (zib [] []))
 rw[(show zcN 1 1=0 from rfl)]at q1 q4;rw[(show zib [] []=0 from rfl)]at q3 q4;have e:(if(0:Int)≠0 then 0 else if zcN a b≠0 then zcN a b else 0)=zcN a b:=by
  simp only[ne_eq,not_true_eq_false,Z63];split
  .rfl
  .rename_i h;simp at h;exact h.symm
 rw[e]at q4;simp -implicitDefEqProofs [rW,st0,zao,vF];refine zaC ?_;simp -implicitDefEqProofs [rW,st0,zao,vF,q1,q2,q3,q4]
def zg7(l:List Nat):F:=slc 1 (l.map fun n:Nat=>[F.i .i64 (n:Int)])
def zME(l:List Nat):zd5 (.f (zg7 l))=some l.length:=by simp[zg7,zeQ]
def zZX(l:List Nat)(n:Nat):iaB 1 (.f (zg7 l)) n=(l[n]?).map fun k:Nat=>D.fptr [F.i .i64 (k:Int)]:=by simp[zg7,zfX,Z67]
def tmD(u:Trm):List D:=[.f (.s (tv u)),.f (.i .i64 (tk u)),.f (.i .i64 (tn u)),.f (.s [])]
def zsV(v:Str):tv (.var v)=v:=rfl
def zsS(v:Str):tk (.var v)=0:=rfl
def zsU(v:Str):tn (.var v)=0:=rfl
def zHi(n:Int):tv (.cst n)=[]:=rfl
def zHf(n:Int):tk (.cst n)=1:=rfl
def zHh(n:Int):tn (.cst n)=n:=rfl
def cmD(k:Cm):List D:= .f (.i .i64 k.op)::(tmD k.l++tmD k.r)
def clrO(es id off m es' c:Nat)(z:List F):Ob->Option Rs
 | .arr es'' ro old=>if es=es'/\es'=es''/\off+m<=old.length/\ro<=off/\zfA old (old.take off++List.replicate m (z.map D.f)++old.drop (off+m))=true then
     some {d:= .f .un,rd:=[id],wr:=[(id,some (.arr es ro (old.take off++List.replicate m (z.map D.f)++old.drop (off+m))))],c}
    else none
 |_=>none
theorem zZx{es id off m es' c es'' ro:Nat}{z:List F}{old:List (List D)}:clrO es id off m es' c z (.arr es'' ro old)=if es=es'/\es'=es''/\off+m<=old.length/\ro<=off/\zfA old (old.take off++List.replicate m (z.map D.f)++old.drop (off+m))=true then
     some {d:= .f .un,rd:=[id],wr:=[(id,some (.arr es ro (old.take off++List.replicate m (z.map D.f)++old.drop (off+m))))],c}
    else none:=rfl
def v_clr(h:Nat->Option Ob)(c es:Nat)(z:List F)(id off m es' lim:Nat)(ex:Bool):opv h c (.clr es z (.sl id off m es' lim ex))=om (h id) (clrO es id off m es' c z):=by
 simp only[opv,om];cases h id with
 |none=>rfl
 |some o=>cases o<;>rfl
def slO(es id off len es' lim:Nat)(ex:Bool)(l r:Nat):Ob->Option (D×List Nat)
 | .arr es'' _ _=>if es=es'/\es'=es''/\l<=r/\(off+r<=lim\/r<=len)then some (.sl id (off+l) (r - l) es lim ex,[id])else none
 |_=>none
def zD9{es id off len es' lim:Nat}{ex:Bool}{l r es'' ro:Nat}{els:List (List D)}:slO es id off len es' lim ex l r (.arr es'' ro els)=if es=es'/\es'=es''/\l<=r/\(off+r<=lim\/r<=len)then some (.sl id (off+l) (r - l) es lim ex,[id])else none:=rfl
def zTf{es:Nat}{h:Nat->Option Ob}{id off len es' lim:Nat}{ex:Bool}{lo hi:Option D}:sliceB es h (.sl id off len es' lim ex) lo hi none=om (h id) fun o=>om (zbR 0 lo) fun l=>om (zbR len hi) fun r=>slO es id off len es' lim ex l r o:=by
 simp only[sliceB,om];cases h id with
 |none=>rfl
 |some o=>
  cases o with
  |map _=>
   simp only[Z46];cases zbR 0 lo with
   |none=>rfl
   |some l=>simp only[Z46];cases zbR len hi<;>rfl
  |arr es'' ro els=>
   simp only[Z46];cases zbR 0 lo with
   |none=>rfl
   |some l=>simp only[Z46];cases zbR len hi<;>rfl
theorem zrQ{h:T Ob}{lo c es byt:Nat}{d:D}{els new:List (List D)}{rd:List Nat}{K:Rs->Prop}(hg:Gro h lo c es d els)(hlo:lo<=c)(hlen:els.length+new.length<=1000000)(hb:byt<=1000)
  (hK:∀r:Rs,zax r.c r.wr=true->Gro (wrT h r.wr) lo r.c es r.d (els++new)->c<=r.c->(∀id,id<c->d.oid≠some id->(wrT h r.wr).get id=h.get id)->(∀x,r.d.oid=some x->x=c\/d.oid=some x)->K r):oB (zcj es byt h.get c d new rd) K:=by
 obtain⟨r,h1,h2,h3,h4,h5,h6,h7,h8⟩ :=zDE (byt:=byt) (rd:=rd) hg hlo hlen hb;rw[h1];exact hK r h2 h3 h4 h5 h8
def zwc{h:T Ob}{lo c es:Nat}{d:D}{els:List (List D)}(hg:Gro h lo c es d els){x:Nat}(hx:d.oid=some x):lo<=x/\x<c:=by
 rcases hg with⟨rfl,_⟩ |⟨id,ro,rfl,h2,h3,h4,h5,h6⟩
 .simp[D.oid]at hx
 .simp[D.oid]at hx;omega
def zqw(l:List CQ):List (List D):=l.map fun c=>[D.f (zgO c),D.f (zgQ c)]
def zMh(l:List CQ):(zqw l).length=l.length:=by simp[zqw]
def zJm(l:List CQ)(c:CQ):zqw (l++[c])=zqw l++[[D.f (zgO c),D.f (zgQ c)]]:=by simp[zqw]
def zMe(h:Nat->Option Ob)(k:Nat)(l:List CQ):zbi (frz h (k+1)) (zqw l)=some (l.map cqF,[]):=by
 have:=zrO h k (l.map cqF);rw[Z33]at this;exact this
def Own(h:T Ob)(lo c:Nat)(d:D)(X:F):Prop:=(d= .f X\/∃a b e f g x,d= .sl a b e f g x)/\d.cells=some [d]/\(∀x,d.oid=some x->lo<=x/\x<c)/\∀h':T Ob,(∀x,d.oid=some x->h'.get x=h.get x)->∀k,∃rd,frz h'.get (k+2) d=some (X,rd)
def zZ6{h:T Ob}{lo c es:Nat}{d:D}{rows:List (List F)}(hg:Gro h lo c es d (rows.map fun a=>a.map D.f)):Own h lo c d (slc es rows):=by
 refine⟨?_,zqH hg,fun x hx=>zwc hg hx,fun h' hh k=> ?_⟩
 .rcases hg with⟨rfl,hr⟩ |⟨id,ro,rfl,hn,hg,hr,hl,hc⟩
  .have:rows=[]:=by simpa using hr
   subst this;exact .inl rfl
  .exact .inr ⟨_,_,_,_,_,_,rfl⟩
 rcases hg with⟨rfl,hr⟩ |⟨id,ro,rfl,hn,hg,hr,hl,hc⟩
 .have:rows=[]:=by simpa using hr
  subst this;exact⟨[],rfl⟩
 .refine⟨[id],?_⟩;have h1:=hh id rfl;rw[zk3,h1,hg,zfx,zkz];simp only[true_and,Z25,Z2,Z60,Z34,Z7,zrO h'.get k rows,zfx];rw[zlc (fun e=>hn (by rw[e];rfl))]
def vD(n:Int):List D:=[.f (.i .i64 1),.f (.i .i64 n),.f (.s [])]
def zuj(k:Cm):(if 9<=(cmF k).length then some (D.ag (List.take 9 (List.map D.f (cmF k))))else none)=some (.ag (cmD k)):=by
 obtain⟨o,l,r⟩ :=k;cases l<;>cases r<;>rfl
def zLe{a b:Trm}(ha:zaN a)(hb:zaN b):zHd a b=decide (a=b):=by
 have hs:∀x y:Str,(zib x y==0)=decide (x=y):=by
  intro x y;unfold zib
  by_cases e:x=y
  .subst e;simp[zDl]
  .by_cases h:Go.Op.bytesLess x y=true<;>simp[h,e]
 unfold zHd;cases a with
 |cst a=>
  cases b with
  |cst b=>simp only[zlk,zmi];simp
  |var b=>simp[zlk]
 |var a=>
  cases b with
  |cst b=>simp[zlk]
  |var b=>simp only[zlk,hs];simp
def eq_v(n:Int):zbW [0,0,1] (vD n) (vD n)=some true:=by simp[zbW,vD]
def iF(l:List Int):F:=slc 3 (l.map vF)
def iF_d(l:List Int):(iF l).d= .f (iF l):=zga ..
def zuD(l:List Int):zd5 (.f (iF l))=some l.length:=by simp[iF,zeQ]
def zR0(l:List Int)(n:Nat):iaB 3 (.f (iF l)) n=(l[n]?).map fun t=>D.fptr (vF t):=by simp[iF,zfX,Z67]
def zQJ(l:List Int)(hl:l.length<100000):Ans pr 10 [iF l,iF l] (.b true):=by
 refine zdu fn10 ?_;simp only[g10,rU];simp -implicitDefEqProofs [rW,st0,zao,iF_d,zuD];refine zjr l.length (fun n s=>s.tm.get 0=some (.f (iF l))/\s.tm.get 1=some (.f (iF l))/\s.tm.get 5=some (.f (.i .i64 n))) (fun e s=>e= .exit 0) ?_ ?_ _ ?_ ?_
 .rintro n s hn ⟨h0,h1,h5⟩;have hw:=za5 n (by omega);have hx:l[n]? =some l[n]:=Z0 hn;generalize hA:l[n]=v at hx;have e:=eq_v v;unfold vD at e;simp -implicitDefEqProofs [rW,h0,h1,h5,hn,zuD,zR0,hx,hA,vF];refine zaC ?_;simp -implicitDefEqProofs [rW,h0,h1,h5,hn,zuD,zR0,hx,hA,vF,e,hw]
 .rintro s ⟨h0,h1,h5⟩;simp -implicitDefEqProofs [rW,h0,h1,h5,zuD]
 .simp -implicitDefEqProofs [rW,]
 .rintro e s rfl;simp -implicitDefEqProofs [rW,]
def zyB(pr:Pr)(f:Nat)(args:List D)(h:T Ob)(c:Nat)(P:D->T Ob->Nat->Nat->Prop):Prop:=∃q,Con pr f args h c q/\P q.d q.h q.c q.lw/\c<=q.c/\q.c<=q.mx
def zz8(res:List Rv)(h:T Ob)(c:Nat)(P:D->T Ob->Nat->Nat->Prop)(x:Ex)(s:St):Prop:=
 (match x with| .exit _=>False|_=>True)/\oB (resD s res) fun d=>P d s.h s.c s.lw/\(s.lw=c->d.isF=true->P d h c c)
def zacg{res:List Rv}{h:T Ob}{c:Nat}{P:D->T Ob->Nat->Nat->Prop}{s:St}:zz8 res h c P .nrm s=oB (resD s res) fun d=>P d s.h s.c s.lw/\(s.lw=c->d.isF=true->P d h c c):=by simp[zz8]
def zach{res:List Rv}{h:T Ob}{c:Nat}{P:D->T Ob->Nat->Nat->Prop}{s:St}:zz8 res h c P .ret s=oB (resD s res) fun d=>P d s.h s.c s.lw/\(s.lw=c->d.isF=true->P d h c c):=by simp[zz8]
def zDt{f:Nat}{fn:Go.Vse.Fn}(hf:pr.fn f=some fn){args:List D}{h:T Ob}{c:Nat}{P:D->T Ob->Nat->Nat->Prop}(hw:wpC pr fn.body (st0 args h c) (zz8 fn.res h c P)):zyB pr f args h c P:=by
 obtain⟨x,s,⟨hx,hr⟩,ev⟩ :=zgW _ _ _ hw;cases hd:resD s fn.res with
 |none=>rw[hd]at hr;exact hr.elim
 |some d=>
  rw[hd]at hr;obtain⟨h1,h2⟩ :=hr;have key:EV fun m=>zha (evC (zd0 pr m) m) fn args h c=some (if Nat.beq s.lw c&&d.isF then ⟨d,h,c,c,s.mx⟩else ⟨d,s.h,s.c,s.lw,s.mx⟩):=by
   refine ev.mono fun m hm=> ?_
   unfold zha;unfold st0 at hm;rw[hm];cases x with
   |exit i=>exact hx.elim
   |nrm=>simp only[hd];split<;>rfl
   |ret=>simp only[hd];split<;>rfl
  have hq:Con pr f args h c (if Nat.beq s.lw c&&d.isF then ⟨d,h,c,c,s.mx⟩else ⟨d,s.h,s.c,s.lw,s.mx⟩):=by
   obtain⟨N,hN⟩ :=key;refine⟨N+1,fun m hm=> ?_⟩;obtain⟨m,rfl⟩ :∃m',m=m'+1:=⟨m - 1,by omega⟩
   simp only[zd0,hf];exact hN m (by omega)
  refine⟨_,hq,?_,zfb _ _ _ _ _ hq⟩;split
  .rename_i hb;simp only[Z14]at hb;exact h2 (Z88 hb.1) hb.2
  .exact h1
def GZ(h:T Ob)(d:D):Prop:=∀id es ro els,d.oid=some id->h.get id=some (.arr es ro els)->ro=0
theorem zZR{h:T Ob}{lo c es byt:Nat}{d:D}{els new:List (List D)}{rd:List Nat}{K:Rs->Prop}(hg:Gro h lo c es d els)(hz:GZ h d)(hlo:lo<=c)(hlen:els.length+new.length<=1000000)(hb:byt<=1000)
  (hK:∀r:Rs,zax r.c r.wr=true->Gro (wrT h r.wr) lo r.c es r.d (els++new)->c<=r.c->(∀id,id<c->d.oid≠some id->(wrT h r.wr).get id=h.get id)->(∀x,r.d.oid=some x->x=c\/d.oid=some x)->GZ (wrT h r.wr) r.d->K r):oB (zcj es byt h.get c d new rd) K:=by
 obtain⟨r,h1,h2,h3,h4,h5,h6,h7,h8⟩ :=zDE (byt:=byt) (rd:=rd) hg hlo hlen hb;rw[h1];refine hK r h2 h3 h4 h5 h8 ?_;have hm:∀n,n<=1000000->n<=zaR:=fun n hn=>by have:=zaU (n:=n) (by omega);simpa using this
 have hmb:∀n,n<=1000000->n*byt<=zaR:=fun n hn=>by
  have:n*byt<=1000000*1000:=Z144 hn hb;have h2:=zaU (n:=n*byt) (by omega);simpa using h2
 by_cases h0:new.length=0
 .have hn:new=[]:=Z17.1 h0;subst hn;rcases hg with⟨rfl,rfl⟩ |⟨id,ro,rfl,he,ho,hr,hl,hc⟩
  .rw[zkr]at h1;simp at h1;rw[<-h1];intro i es ro els hi;simp[D.oid]at hi
  .rw[zos]at h1;simp at h1;rw[<-h1];exact hz
 .rcases hg with⟨rfl,rfl⟩ |⟨id,ro,rfl,he,ho,hr,hl,hc⟩
  .rw[zkr,Z49 h0,Z51 ⟨hm _ (by simpa using hlen),hmb _ (by simpa using hlen)⟩]at h1;cases h1;intro i es ro els hi hg;simp only[D.oid,Z45]at hi;subst hi;simp[wrT,TG]at hg;exact hg.2.1.symm
  .have e:zcj es byt h.get c (.sl id 0 els.length es els.length false) new rd=some {d:= .sl c 0 (els.length+new.length) es (els.length+new.length) false,rd:=id::rd,wr:=[(id,none),(c,some (.arr es ro (els++new)))],c:=c+1}:=by
    rw[zos,Z49 h0,ho];have h1:¬(0+els.length+new.length<=els.length):=by omega
    have h2:=hm (els.length+new.length) hlen;have h3:=hmb (els.length+new.length) hlen;simp[om,apO,h1,h2,h3,hr];omega
   rw[e]at h1;cases h1;have h0':=hz id es ro els rfl ho;intro i es ro els hi hg;simp only[D.oid,Z45]at hi;subst hi;simp[wrT,TG]at hg;rw[<-hg.2.1];exact h0'
def wq_l{s:St}{dst:Option Nat}{Q:St->Prop}{f:Nat}{ds:List D}{l:List Go.Vse.Op}{h:T Ob}{c:Nat}{P:D->T Ob->Nat->Nat->Prop}(e1:s.h=h)(e2:s.c=c)(he:zyB pr f ds h c P)(k:∀d' h' c' lw mx,P d' h' c' lw->c<=c'->wpO pr l (s.cal dst ⟨d',h',c',lw,mx⟩) Q):WQ pr f ds s dst l Q:=by
 subst e1 e2;obtain⟨q,h1,h2,h3,h4⟩ :=he;exact⟨q,h1,k q.d q.h q.c q.lw q.mx h2 h3⟩
def fn95:pr.fn 95=some g95:=by kernel_rfl
def fn54:pr.fn 54=some g54:=by kernel_rfl
def fn29:pr.fn 29=some g29:=by kernel_rfl
def fn55:pr.fn 55=some g55:=by kernel_rfl
def fn104:pr.fn 104=some zFM:=by kernel_rfl
def zLR(a b:Int):Go.Vse.zbS .geq (.i .u64 a) (.i .u64 b)=some (.b (decide (b<=a))):=rfl
def zacu:∀x:Fin 64,(([0,1,2,2,3,3,3,3,4,4,4,4,4,4,4,4,5,5,5,5,5,5,5,5,5,5,5,5,5,5,5,5,6,6,6,6,6,6,6,6,6,6,6,6,6,6,6,6,6,6,6,6,6,6,6,6,6,6,6,6,6,6,6,6,7,7,7,7,7,7,7,7,7,7,7,7,7,7,7,7,7,7,7,7,7,7,7,7,7,7,7,7,7,7,7,7,7,7,7,7,7,7,7,7,7,7,7,7,7,7,7,7,7,7,7,7,7,7,7,7,7,7,7,7,7,7,7,7,8,8,8,8,8,8,8,8,8,8,8,8,8,8,8,8,8,8,8,8,8,8,8,8,8,8,8,8,8,8,8,8,8,8,8,8,8,8,8,8,8,8,8,8,8,8,8,8,8,8,8,8,8,8,8,8,8,8,8,8,8,8,8,8,8,8,8,8,8,8,8,8,8,8,8,8,8,8,8,8,8,8,8,8,8,8,8,8,8,8,8,8,8,8,8,8,8,8,8,8,8,8,8,8,8,8,8,8,8,8,8,8,8,8,8,8,8,8,8,8,8,8,8,8,8,8,8,8]:List UInt8)[x.val]?)=some (UInt8.ofNat (Go.Sort.bitsLen x.val)):=by decide+kernel
def zMI:∀x:Fin 64,Go.Sort.bitsLen x.val<=6:=by decide+kernel
def o_ixs{pr:Pr}{s:St}{Q:St->Prop}{dst:Option Nat}{l:List Go.Vse.Op}{x i:A}:wpO pr (⟨dst,none,.ixs x i⟩ ::l) s Q↔oB (((O.ixs x i).res (zae s.tm)).bind (opv s.h.get s.c)) fun r=>zax r.c r.wr=true/\wpO pr l (s.aft dst r.d r.wr r.c) Q:=zfu rfl
def v_ixs{h:Nat->Option Ob}{c:Nat}{l:List UInt8}{i:Nat}{b:UInt8}(hb:l[i]? =some b):opv h c (.ixs (.f (.s l)) (.f (.i .u8 (i:Int))))=some {d:= .f (.i .u8 (b.toNat:Int)),c:=c}:=by
 simp[opv,zcS,hb,okF]
def zwd(z:Int)(h1: -9000000000000000000<=z)(h2:z<=9000000000000000000):IntKind.i64.wrap z=z:=IntWalk.i64_in _ (by omega)
def ro104{h:T Ob}{c x:Nat}(hx:x<64):RO pr 104 [.f (.i .u64 x)] h c (.f (.i .i64 (Go.Sort.bitsLen x))):=by
 refine zjh zfb fn104 rfl ?_;simp only[zFM,rU];have t:=zacu ⟨x,hx⟩;have t2:=zMI ⟨x,hx⟩;simp only at t t2;obtain⟨b,hb,hbt⟩ :∃b:UInt8,b=UInt8.ofNat (Go.Sort.bitsLen x)/\b.toNat=Go.Sort.bitsLen x:=⟨_,rfl,by rw[UInt8.toNat_ofNat'];omega⟩
 rw[<-hb]at t;rw[<-hbt];have hwb:IntKind.i64.wrap (b.toNat:Int)=(b.toNat:Int):=zwd _ (by omega) (by omega);have t3:=fun(h:Nat->Option Ob) (c:Nat)=>v_ixs (h:=h) (c:=c) t
 have h32:¬((4294967296:Int)<=x):=by omega
 have h16:¬((65536:Int)<=x):=by omega
 have hy8:¬((256:Int)<=x):=by omega
 have hu8:IntKind.u8.wrap (x:Int)=x:=by simp[IntKind.wrap,IntKind.bits,IntKind.signed];omega
 simp -implicitDefEqProofs [rW,st0,zao,h32,h16,hy8,o_ixs,hu8,zLR,O.res,Z47,t3,zjl,hwb,ze1,zqW]
def ro55{h:T Ob}{c x:Nat}(hx:x<64):RO pr 55 [.f (.i .u64 x)] h c (.f (.i .i64 (Go.Sort.bitsLen x))):=by
 refine zjh zfb fn55 rfl ?_;simp only[g55,rU];simp -implicitDefEqProofs [rW,st0,zao];refine zjm (ro104 hx) ?_ ?_
 .simp only[rG];omega
 intro mx;simp -implicitDefEqProofs [rW,ze1]
def zTM(m:Nat):∀l,zeW m l<=m:=by
 intro l
 induction l generalizing m with
 |nil=>exact Z2 _
 |cons p l ih=>
  obtain⟨id,o⟩ :=p;rw[zNQ];refine Z3 (ih _) ?_;split<;>omega
def wl_id(m id:Nat)(o:Option Ob)(l:List (Nat×Option Ob)):zeW m ((id,o)::l)<=id:=by
 rw[zNQ];refine Z3 (zTM _ _) ?_;split<;>omega
def ltI(x y:Int):Bool:=decide (x<y)
theorem swoI:Go.Sort.SWO ltI where
 irrefl x:=by simp[ltI]
 trans x y z h1 h2:=by simp[ltI]at*;omega
 ntrans x y z h1 h2:=by simp[ltI]at*;omega
def totI(x y:Int)(h1:ltI x y=false)(h2:ltI y x=false):x=y:=by simp[ltI]at*;omega
def vE(l:List Int):List (List D):=l.map vD
def zfZ(l:List Int):(vE l).length=l.length:=by simp[vE]
def zvb(l:List Int)(i:Nat)(v:Int):(vE l).set i (vD v)=vE (l.set i v):=by simp[vE,Z116]
def zre(l:List Int):hd8 (vE l)=false:=by
 cases l<;>rfl
def zsj(h:T Ob)(id:Nat)(d:Array Int):Prop:=h.get id=some (.arr 3 0 (vE d.toList))
def zsJ(d:Array Int){i:Nat}(hi:i<d.size):(vE d.toList)[i]? =some (vD d[i]!):=by
 simp[vE,hi]
def zNm(d:Array Int)(i j:Nat):((vE d.toList).set i (vD d[j]!)).set j (vD d[i]!)=vE (Go.Sort.swp d i j).toList:=by
 rw[zvb,zvb];simp[Go.Sort.swp,Array.toList_setIfInBounds]
def zAG(d:Array Int)(i:Nat){j:Nat}(hj:j<d.size):((vE d.toList).set i (vD d[j]!))[j]? =some (vD d[j]!):=by
 by_cases h:i=j
 .subst h;rw[Z140 (by rw[zfZ];simpa using hj)]
 .rw[Z125 h];exact zsJ d hj
structure zg5(h:T Ob)(c id n:Nat)(d:Array Int)(h':T Ob)(c' lw:Nat):Prop where
 row:zsj h' id d
 sz:d.size=n
 fr:∀j,j<c->j≠id->h'.get j=h.get j
 le:c<=c'
 low:lw<=c
 same:id<lw->h'.get id=h.get id
def zg5.fin{h:T Ob}{c id n:Nat}{d:Array Int}{h':T Ob}{c' lw:Nat}(H:zg5 h c id n d h' c' lw)(hid:id<c):lw=c->zg5 h c id n d h c c:=fun e=>
 ⟨by have:=H.row;unfold zsj at*;rw[<-H.same (by omega)];exact this,H.sz,fun _ _ _=>rfl,Z2 _,Z2 _,fun _=>rfl⟩
def zg5.refl{h:T Ob}{c id n:Nat}{d:Array Int}(h1:zsj h id d)(h3:d.size=n):zg5 h c id n d h c c:=⟨h1,h3,fun _ _ _=>rfl,Z2 _,Z2 _,fun _=>rfl⟩
def zg5.cc{h:T Ob}{c id n:Nat}{d:Array Int}{h':T Ob}{c' c'' lw:Nat}(H:zg5 h c id n d h' c' lw)(hc:c'<=c''):zg5 h c id n d h' c'' lw:=⟨H.row,H.sz,H.fr,Z3 H.le hc,H.low,H.same⟩
def zg5.swp{h:T Ob}{c id n:Nat}{d:Array Int}{h':T Ob}{c' lw:Nat}(H:zg5 h c id n d h' c' lw)(hid:id<c){h'':T Ob}{c'' lw'':Nat}(i j:Nat)(hc:c'<=c'')(h1:h''.get id=some (.arr 3 0 (vE (Go.Sort.swp d i j).toList)))(h2:∀q,q≠id->h''.get q=h'.get q)(hl:lw''<=id):zg5 h c id n (Go.Sort.swp d i j) h'' c'' lw'':=
 ⟨h1,by simp[Go.Sort.swp,H.sz],fun q hq hne=>(h2 q hne).trans (H.fr q hq hne),Z3 H.le hc,by omega,fun e=>by omega⟩
def ro30(a b:Int){h:T Ob}{c:Nat}:RO pr 30 [.ag (vD a),.ag (vD b)] h c (.f (.i .i64 (zcN a b))):=by
 refine zjh zfb fn30 rfl ?_;simp only[g30,rU];have q1:=fun k=>zah (k:=k) (zQX 1 1)
 have q2:=fun k=>zah (k:=k) (zQZ a b)
 have q3:=fun k=>zah (k:=k) (zQ0 [] [])
 have q4:=fun k=>zah (k:=k) (zQV (zcN 1 1) (zcN a b) (zib [] []))
 rw[(show zcN 1 1=0 from rfl)]at q1 q4;rw[(show zib [] []=0 from rfl)]at q3 q4;have e:(if(0:Int)≠0 then 0 else if zcN a b≠0 then zcN a b else 0)=zcN a b:=by
  simp only[ne_eq,not_true_eq_false,Z63];split
  .rfl
  .rename_i h;simp at h;exact h.symm
 rw[e]at q4;simp -implicitDefEqProofs [rW,st0,zao,vD];refine zaC ?_;simp -implicitDefEqProofs [rW,st0,zao,vD,q1,q2,q3,q4,ze1];simp (disch:=omega) only[zr3,zrh]
def I2(h:T Ob)(c id n a b i:Nat)(D1:Array Int)(k:Nat)(s:St):Prop:=∃(d:Array Int),(s.tm.get 0=some (.sl id 0 n 3 n false)/\s.tm.get 1=some (.f (.i .i64 a))/\s.tm.get 2=some (.f (.i .i64 b))/\s.tm.get 3=some (.f (.fn 30))/\s.tm.get 8=some (.f (.i .i64 i))/\s.tm.get 9=some (.f (.i .i64 k)))/\zg5 h c id n d s.h s.c s.lw/\Go.Sort.insInner ltI a k d=D1/\k<n
def I1(h:T Ob)(c id n a b:Nat)(D0:Array Int)(m:Nat)(s:St):Prop:=∃(d:Array Int) (i:Nat),i=a+1+m/\(s.tm.get 0=some (.sl id 0 n 3 n false)/\s.tm.get 1=some (.f (.i .i64 a))/\s.tm.get 2=some (.f (.i .i64 b))/\s.tm.get 3=some (.f (.fn 30))/\s.tm.get 8=some (.f (.i .i64 (i:Int))))/\zg5 h c id n d s.h s.c s.lw/\Go.Sort.insOuter ltI a b i d=D0
theorem eff95{h:T Ob}{c id n a b:Nat}(d:Array Int)(gR:zsj h id d)(hn:d.size=n)(hsz:n<100000)(hb:b<=n)(hab:a<=b)(hid:id<c):
  zyB pr 95 [.sl id 0 n 3 n false,.f (.i .i64 a),.f (.i .i64 b),.f (.fn 30)] h c fun _ h' c' lw=>zg5 h c id n (Go.Sort.insertionSort ltI d a b) h' c' lw:=by
 refine zDt fn95 ?_;simp only[g95,rU];have hwa:=zwd ((a:Int)+1) (by omega) (by omega);simp -implicitDefEqProofs [rW,st0,zao,hwa];generalize hD0:Go.Sort.insertionSort ltI d a b=D0;refine zjr (b - (a+1)) (I1 h c id n a b D0) (fun x s=>x= .exit 0/\I1 h c id n a b D0 (b - (a+1)) s) ?_ ?_ _ ?_ ?_
 .rintro m s hm ⟨d,i,hi,⟨h0,h1,h2,h3,h8⟩,HS,hD⟩;have hib:i<b:=by omega
  have hwi:=za5 i (by omega);rw[Go.Sort.insOuter,Z51 hib]at hD;simp -implicitDefEqProofs [rW,h0,h1,h2,h3,h8,hib];refine zfU (I2 h c id n a b i (Go.Sort.insInner ltI a i d)) (fun x s=>x= .exit 2/\∃d1,d1=Go.Sort.insInner ltI a i d/\(s.tm.get 0=some (.sl id 0 n 3 n false)/\s.tm.get 1=some (.f (.i .i64 a))/\s.tm.get 2=some (.f (.i .i64 b))/\s.tm.get 3=some (.f (.fn 30))/\s.tm.get 8=some (.f (.i .i64 i)))/\zg5 h c id n d1 s.h s.c s.lw) ?_ i _ ?_ ?_
  .rintro k s ⟨d',⟨h0,h1,h2,h3,h8,h9⟩,HS,hI,hk⟩
   by_cases hka:a<k
   .obtain⟨j,hkj⟩ :∃j,k=j+1:=⟨k - 1,by omega⟩
    have hins:Go.Sort.insInner ltI a k d'=if d'[k]! <d'[j]! then Go.Sort.insInner ltI a j (Go.Sort.swp d' k j)else d':=by
     subst hkj;show(if(decide (j+1>a)&&ltI d'[j+1]! d'[j]!)=true then _ else _)=_;rw[decide_eq_true (by omega)];simp[ltI]
    have hsub:IntKind.i64.wrap ((k:Int) - 1)=(j:Int):=by
     rw[zwd _ (by omega) (by omega)];omega
    have hj:j<n:=by omega
    have e1:=zsJ d' (i:=k) (by rw[HS.sz];exact hk);have e0:=zsJ d' (i:=j) (by rw[HS.sz];exact hj);have e0':=zAG d' k (j:=j) (by rw[HS.sz];exact hj);have hRO:=fun(H':Vse.T Ob) (c':Nat)=>ro30 d'[k]! d'[j]! (h:=H') (c:=c')
    have gR:=HS.row;have hsw:=zNm d' k j;have szsw:(Go.Sort.swp d' k j).size=n:=by simp[Go.Sort.swp,HS.sz]
    generalize d'[k]! =tk' at*;generalize d'[j]! =tj at*;unfold zsj at gR;simp only[vD]at e1 e0 e0' hRO hsw;simp -implicitDefEqProofs [rW,h0,h1,h2,h3,h8,h9,hka];refine zup ?_;simp -implicitDefEqProofs [rW,h0,h1,h2,h3,h8,h9,hka,gR,hk,hj,hsub,e1,e0];have hh8:hd8 ((vE d'.toList).set k [D.f (F.i IntKind.i64 1),D.f (F.i IntKind.i64 tj),D.f (F.s [])])=false:=by rw[show[D.f (F.i IntKind.i64 1),D.f (F.i IntKind.i64 tj),D.f (F.s [])]=vD tj from rfl,zvb];exact zre _
    have h8b:=zre d'.toList
    by_cases hlt:tk'<tj
    .have hcz:zcN tk' tj<0:=by rw[zrM];exact hlt
     rw[Z51 hlt]at hins;refine zyz (d:= .f (.i .i64 (zcN tk' tj))) (hRO _ _) ?_ ?_ ?_
     .simp only[rG];have:=HS.low;have:=HS.le;omega
     .simp[ckG,ck1]
     intro mx hmx;simp only[rG]at hmx;simp -implicitDefEqProofs [rW,h0,h1,h2,h3,h8,h9,hcz];refine zaC ?_;simp -implicitDefEqProofs [rW,h0,h1,h2,h3,h8,h9,gR,hk,hj,hsub,e1,e0,e0',hh8,h8b,hsw,zre];have hlo:=HS.low;have hle:=HS.le;refine⟨by omega,by omega,?_⟩;rw[zev];refine⟨j,by omega,Go.Sort.swp d' k j,?_,?_⟩
     .simp -implicitDefEqProofs [rW,h0,h1,h2,h3,h8,h9,hsub]
     .simp -implicitDefEqProofs [rW,];exact⟨HS.swp hid k j (by omega) (by rw[TG,Z51 rfl]) (fun q hq=>by rw[TG,Z49 hq,TG,Z49 hq]) (wl_id _ _ _ _),hins.symm.trans hI,hj⟩
    .rw[Z49 hlt]at hins;have hcz:¬(zcN tk' tj<0):=by rw[zrM];exact hlt
     rw[hins]at hI;subst hI;refine zyz (d:= .f (.i .i64 (zcN tk' tj))) (hRO _ _) ?_ ?_ ?_
     .simp only[rG];have:=HS.low;have:=HS.le;omega
     .simp[ckG,ck1]
     intro mx hmx;simp only[rG]at hmx;simp -implicitDefEqProofs [rW,h0,h1,h2,h3,h8,h9,hcz];exact HS.cc (by omega)
   .have hins:Go.Sort.insInner ltI a k d'=d':=by
     cases k with
     |zero=>rfl
     |succ j=>
      show(if(decide (j+1>a)&&ltI d'[j+1]! d'[j]!)=true then _ else _)=_;rw[decide_eq_false (by omega)];rfl
    rw[hins]at hI;subst hI;simp -implicitDefEqProofs [rW,h0,h1,h2,h3,h8,h9,hka];refine zup ?_;simp -implicitDefEqProofs [rW,h0,h1,h2,h3,h8,h9,hka];exact HS.cc (by omega)
  .simp -implicitDefEqProofs [rW,I2,h0,h1,h2,h3,h8];exact⟨d,HS,rfl,by omega⟩
  .rintro x s ⟨rfl,d1,rfl,⟨h0,h1,h2,h3,h8⟩,HS⟩;simp -implicitDefEqProofs [rW,h0,h1,h2,h3,h8,hwi,I1];subst hi;exact⟨by omega,_,HS,by rw[<-hD];rfl⟩
 .rintro s ⟨d,i,hi,⟨h0,h1,h2,h3,h8⟩,HS,hD⟩;have hib:¬i<b:=by omega
  simp -implicitDefEqProofs [rW,h0,h1,h2,h3,h8,hib,I1];subst hi;exact⟨by omega,d,HS,hD⟩
 .simp -implicitDefEqProofs [rW,I1];exact⟨d,zg5.refl gR hn,hD0⟩
 .rintro x s ⟨rfl,d,i,hi,⟨h0,h1,h2,h3,h8⟩,HS,hD⟩;rw[Go.Sort.insOuter,Z49 (by omega)]at hD;subst hD;simp -implicitDefEqProofs [rW,zacg];exact⟨HS,fun e _=>HS.fin hid e⟩
def zq3(s:St):resD s []=some (.tu []):=rfl
def zkj(l:List Int):List Int:=l.mergeSort fun x y=>!decide (y<x)
def pdqI(l:List Int)(lm:Nat):(Go.Sort.pdq ltI l.toArray 0 l.length lm true true).toList=zkj l:=by
 have h:=Go.Sort.pdq_sorts ltI swoI l.toArray 0 l.length lm true true (Z61 _) (by simp) (Or.inl rfl);have hs:l.toArray.size=l.length:=by simp
 rw[<-hs]at h|-;have:=Go.Sort.sorted_unique_holds swoI totI l.toArray _ h.1 h.2;rw[this];simp[zkj,ltI]
def insI(l:List Int)(hl:l.length<=12):(Go.Sort.insertionSort ltI l.toArray 0 l.length).toList=zkj l:=by
 rw[<-pdqI l 1,Go.Sort.pdq,Z51 (by omega)]
theorem zace(l:List Int)(hl:l.length<=12){h:T Ob}{id c:Nat}(hid:id<c)(hg:h.get id=some (.arr 3 0 (vE l))):
  zyB pr 95 [.sl id 0 l.length 3 l.length false,.f (.i .i64 0),.f (.i .i64 l.length),.f (.fn 30)] h c fun _ h' c' lw=>zg5 h c id l.length (Go.Sort.insertionSort ltI l.toArray 0 l.length) h' c' lw:=
 eff95 (a:=0) l.toArray (by unfold zsj;simpa using hg) (by simp) (by omega) (Z2 _) (Z61 _) hid
def P8(h:T Ob)(c id n lm:Nat)(_k:Nat)(s:St):Prop:=(s.tm.get 0=some (.sl id 0 n 3 n false)/\s.tm.get 1=some (.f (.i .i64 0))/\s.tm.get 2=some (.f (.i .i64 n))/\s.tm.get 3=some (.f (.i .i64 lm))/\s.tm.get 4=some (.f (.fn 30)))/\s.h=h/\s.c=c/\s.lw=c
theorem eff54(l:List Int)(hl:l.length<=12){h:T Ob}{id c lm:Nat}(hid:id<c)(hg:h.get id=some (.arr 3 0 (vE l))):
  zyB pr 54 [.sl id 0 l.length 3 l.length false,.f (.i .i64 0),.f (.i .i64 l.length),.f (.i .i64 lm),.f (.fn 30)] h c fun _ h' c' lw=>zg5 h c id l.length (Go.Sort.insertionSort ltI l.toArray 0 l.length) h' c' lw:=by
 refine zDt fn54 ?_;simp only[g54,rU];simp -implicitDefEqProofs [rW,st0,zao];refine zfU (P8 h c id l.length lm) (fun e s=>e= .ret/\zg5 h c id l.length (Go.Sort.insertionSort ltI l.toArray 0 l.length) s.h s.c s.lw) ?_ 0 _ ?_ ?_
 .rintro k s ⟨⟨h0,h1,h2,h3,h4⟩,e1,e2,e3⟩;have hw:IntKind.i64.wrap (l.length:Int)=l.length:=zwd _ (by omega) (by omega);have h12:(l.length:Int)<=12:=by omega
  simp -implicitDefEqProofs [rW,h0,h1,h2,h3,h4,hw,h12];refine wq_l (h:=h) (c:=c) (by simp only[rG];exact e1) (by simp only[rG];exact e2) (zace l hl hid hg) ?_;rintro d' h' c' lw mx HS hcc;simp -implicitDefEqProofs [rW,];have e4:s.lw.min lw=lw:=by rw[e3];exact Z202 HS.low
  rw[e4];exact HS
 .refine⟨?_,?_,?_,?_⟩
  .simp -implicitDefEqProofs [rW,]
  .simp -implicitDefEqProofs [rW,]
  .simp -implicitDefEqProofs [rW,]
  .rfl
 .rintro e s ⟨rfl,HS⟩;simp -implicitDefEqProofs [rW,zach,zq3];exact⟨HS,fun e=>HS.fin hid e⟩
theorem eff29(l:List Int)(hl:l.length<=12){h:T Ob}{id c:Nat}(hid:id<c)(hg:h.get id=some (.arr 3 0 (vE l))):
  Eff pr 29 [.sl id 0 l.length 3 l.length false,.f (.fn 30)] h c fun _ h' _=>h'.get id=some (.arr 3 0 (vE (zkj l)))/\∀j,j<c->id≠j->h'.get j=h.get j:=by
 refine zl1 zfb fn29 ?_;simp only[g29,rU];have hu:IntKind.u64.wrap (l.length:Int)=(l.length:Int):=by rw[IntKind.wrap_u64];omega
 simp -implicitDefEqProofs [rW,st0,zao,hu];refine zjm (ro55 (x:=l.length) (by omega)) ?_ ?_
 .simp only[rG];omega
 intro mx0;generalize hlm:Go.Sort.bitsLen l.length=lm;simp -implicitDefEqProofs [rW,zao];refine wq_l (h:=h) (c:=c) (by simp only[rG]) (by simp only[rG]) (eff54 l hl hid hg) ?_;rintro d' h' c' lw mx HS hcc;have hr:=HS.row;unfold zsj at hr;rw[insI l hl]at hr;simp -implicitDefEqProofs [rW,zz3,zq3];refine⟨⟨hr,fun j hj hne=>HS.fr j hj (fun e=>hne e.symm)⟩,fun e=> ?_⟩;have hlo:=HS.low;have e2:lw=c:=by
  have e3:min c lw=c:=e;omega
 rw[<-HS.same (by omega)];exact hr
end Go.Proofs.YtdonnbdegnkflaaGreatDoor
end
