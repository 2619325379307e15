/- Small functions, the form of data (ported from seat17b). -/
import Derived.Test.YtbhholaillniiaaGreatDoorHb
import Derived.Test.YtbhholaillniiaaGreatDoorAll
import Derived.Test.YtbhholaillniiaaGreatDoorVe
import Derived.KernelRfl
import Derived.IntWalk
import Derived.Test.YtbhholaillniiaaGreatDoorHa
set_option linter.all false
set_option maxRecDepth 100000
set_option maxHeartbeats 4000000
section
namespace Go.Proofs.YtbhholaillniiaaGreatDoor
open Go Go.Vse Go.Vse.Sm
def fn72:pr.fn 72=some g72:=by kernel_rfl
def fn106:pr.fn 106=some zzJ:=by kernel_rfl
def fn131:pr.fn 131=some zzY:=by kernel_rfl
def fn132:pr.fn 132=some zzZ:=by kernel_rfl
def fn133:pr.fn 133=some zz0:=by kernel_rfl
def fn134:pr.fn 134=some zz2:=by kernel_rfl
def fn197:pr.fn 197=some zAb:=by kernel_rfl
def fn198:pr.fn 198=some zAc:=by kernel_rfl
def zjq(a b:Str):Int:=if Go.Op.bytesLess a b=true then -1 else if a=b then 0 else 1
def zaT(a b:Int):Int:=if a=b then 0 else if a<b then -1 else 1
def zMx(a b:Int):Ans pr 106 [.ag (vF a),.ag (vF b)] (.i .i64 (zaT a b)):=by
 refine zcx fn106 ?_;simp only[zzJ,rU];unfold zaT;have hl:Go.Op.bytesLess [] []=false:=rfl
 by_cases h1:a=b
 .subst h1;simp -implicitDefEqProofs [rR,st0,zal,vF,hl]
 .by_cases h2:a<b
  .simp -implicitDefEqProofs [rR,st0,zal,vF,hl,h1,h2]
  .simp -implicitDefEqProofs [rR,st0,zal,vF,hl,h1,h2]
def tv:Trm->Str
 | .var s=>s
 | .cst _=>[]
def tk:Trm->Int
 | .var _=>0
 | .cst _=>1
def tn:Trm->Int
 | .var _=>0
 | .cst n=>n
def tmE(t:Trm):tmF t=[.s (tv t),.i .i64 (tk t),.i .i64 (tn t),.s []]:=by cases t<;>rfl
def zgd(l:List Trm):F:=slc 4 (l.map tmF)
def wrap_i64(n:Int)(h:0<=n)(h2:n<9223372036854775808):IntKind.i64.wrap n=n:=IntWalk.i64_in n (by omega)
def zau(n:Nat)(h:n<1000000):IntKind.i64.wrap ((n:Int)+1)=((n+1:Nat):Int):=wrap_i64 _ (by omega) (by omega)
def za4(l:List Str):(zah l).d= .f (zah l):=zew ..
def zdw(l:List Str):zcp (.f (zah l))=some l.length:=by simp[zah,zeo]
def zfz(l:List Str)(n:Nat):iaB 1 (.f (zah l)) n=(l[n]?).map fun s=>D.fptr [.s s]:=by simp[zah,zfh,Z67]
def zsY(l:List Trm):(zgd l).d= .f (zgd l):=zew ..
def zys(l:List Trm):zcp (.f (zgd l))=some l.length:=by simp[zgd,zeo]
def zqo(l:List Trm)(n:Nat):iaB 4 (.f (zgd l)) n=(l[n]?).map fun t=>D.fptr (tmF t):=by simp[zgd,zfh,Z67]
def zqL(a b:Int):(zaT a b<0)=(a<b):=by
 unfold zaT
 by_cases h:a=b
 .simp[h]
 .simp only[h,Z63];split<;>simp_all
def zcQ(c:CQ):F:=csF c
def zcz(c:CQ):F:=Sm.asF c
def zf1(c:CQ):(zcQ c).d= .f (zcQ c):=by
 unfold zcQ csF;split
 .rfl
 .exact zew ..
def zqN(c:CQ):zcp (.f (zcQ c))=some c.cs.length:=by
 unfold zcQ csF;split
 .rename_i h;rw[h.2];rfl
 .simp[zeo]
def zMN(c:CQ)(n:Nat):iaB 9 (.f (zcQ c)) n=(c.cs[n]?).map fun t=>D.fptr (cmF t):=by
 unfold zcQ csF;split
 .rename_i h;rw[h.2];rfl
 .simp[zfh,Z67]
def zfZ(c:CQ):(zcz c).d= .f (zcz c):=by
 unfold zcz Sm.asF;split
 .rfl
 .exact zew ..
def zkJ(c:CQ):zcp (.f (zcz c))=some c.as.length:=by
 unfold zcz Sm.asF;split
 .rename_i h;rw[h.2];rfl
 .simp[zeo]
def zo2(c:CQ)(n:Nat):iaB 3 (.f (zcz c)) n=(c.as[n]?).map fun t=>D.fptr (atF t):=by
 unfold zcz Sm.asF;split
 .rename_i h;rw[h.2];rfl
 .simp[zfh,Z67]
def cqE(c:CQ):cqF c=[zcz c,zcQ c]:=rfl
def atE(a:Atm):atF a=[.s a.r,.b a.neg,zgd a.ts]:=rfl
def zfC:zoK pr:=ztL zhL
def zeb(l:List Str):List (List D):=l.map fun s=>[D.f (.s s)]
def zlL(l:List Str):(zeb l).length=l.length:=by simp[zeb]
def zsd(l:List Str):(zeb l).take l.length=zeb l:=by rw[<-zlL l,Z7]
def zvR(h:Nat->Option Ob)(k:Nat)(l:List Str):zaQ (frz h (k+1)) (zeb l)=some (l.map fun s=>[F.s s],[]):=zHL h k F.s l
def zvS{l:List Str}(h:l≠[]):F.sl 1 (l.map fun s=>[F.s s])=zah l:=zin (by simpa using h)
def zxm{h:T Ob}{lo c es k:Nat}{d:D}{els:List (List D)}{L:List (List F)}(hg:Gro h lo c es d els)(hf:zaQ (frz h.get k) els=some (L,[]))(hL:L=[]↔els=[]):∃rd,frz h.get (k+1) d=some (slc es L,rd):=by
 rcases hg with⟨rfl,rfl⟩ |⟨id,ro,rfl,he,ho,hr,hl,hc⟩
 .rw[hL.2 rfl];exact⟨[],rfl⟩
 .refine⟨[id],?_⟩;rw[zfm,ho,zdQ,zhB];simp only[true_and,Z25,Z2,Z60,Z34,Z7,hf,zdQ];rw[zin (fun e=>he (hL.1 e))]
def zfd{h:T Ob}{lo c es:Nat}{d:D}{els:List (List D)}(hg:Gro h lo c es d els){i:Nat}(hi:i<lo):d.oid≠some i:=by
 rcases hg with⟨rfl,_⟩ |⟨id,ro,rfl,_,_,_,hl,_⟩
 .simp[D.oid]
 .simp[D.oid];omega
def qsF(l:List CQ):F:=slc 2 (l.map cqF)
def zd5(l:List CQ):(qsF l).d= .f (qsF l):=zew ..
def zcS(l:List CQ):zcp (.f (qsF l))=some l.length:=by simp[qsF,zeo]
def zgu(l:List CQ)(n:Nat):iaB 2 (.f (qsF l)) n=(l[n]?).map fun c=>D.fptr (cqF c):=by simp[qsF,zfh,Z67]
def zPm{f:Nat}{args:List D}{h:T Ob}{c:Nat}{x:F}(h1:pr.fn f=none)(h2:pr.ext f args=some x):RO pr f args h c x.d:=by
 refine⟨c,Z2 _,1,fun n hn=> ?_⟩;obtain⟨m,rfl⟩ :∃m,n=m+1:=⟨n - 1,by omega⟩
 simp only[zbQ,h1,h2]
theorem zwY:∀a b:Str,Go.Lib.compareBytes a b=zjq a b
 |[],[]=>rfl
 |[],b::l=>by simp[Go.Lib.compareBytes,zjq,Go.Op.bytesLess]
 |a::l,[]=>by simp[Go.Lib.compareBytes,zjq,Go.Op.bytesLess]
 |a::l,b::m=>by
  have ih:=zwY l m;unfold Go.Lib.compareBytes zjq Go.Op.bytesLess
  by_cases h1:a<b
  .simp[h1]
  .by_cases h2:b<a
   .have h3:a≠b:=fun e=>by subst e;exact h1 h2
    simp[h1,h2,h3]
   .have h3:a=b:=UInt8.le_antisymm (UInt8.not_lt.1 h2) (UInt8.not_lt.1 h1);subst h3;simp only[h1,Z63,ih,zjq];simp
def ro199(a b:Str)(h:T Ob)(c:Nat):RO pr 199 [.f (.s a),.f (.s b)] h c (.f (.i .i64 (zjq a b))):=by
 have:=zPm (h:=h) (c:=c) (f:=199) (args:=[.f (.s a),.f (.s b)]) (x:= .i .i64 (Go.Lib.compareBytes a b)) (by kernel_rfl) rfl;rw[zwY]at this;exact this
def zBu(a:Int):Ans pr 197 [.i .i64 a] (.b false):=by
 refine zcx fn197 ?_;simp only[zAb,rU];simp[rW,st0,zal]
def zBv(a:Int):Ans pr 198 [.i .i64 a] (.b false):=by
 refine zcx fn198 ?_;simp only[zAc,rU];simp[rW,st0,zal]
def zBq(a b:Int):Ans pr 132 [.i .i64 a,.i .i64 b] (.i .i64 (zaT a b)):=by
 refine zcx fn132 ?_;simp only[zzZ,rU];have q1:=fun k=>zad (k:=k) (zBu a)
 have q2:=fun k=>zad (k:=k) (zBu b)
 unfold zaT
 by_cases h1:a<b
 .have h2:¬a=b:=by omega
  simp[rW,st0,zal,q1,q2,h1,h2]
 .by_cases h2:b<a
  .have h3:¬a=b:=by omega
   simp[rW,st0,zal,q1,q2,h1,h2,h3]
  .have h3:a=b:=by omega
   simp[rW,st0,zal,q1,q2,h1,h2,h3]
def zBr(a b:Int):Ans pr 133 [.i .i64 a,.i .i64 b] (.i .i64 (zaT a b)):=by
 refine zcx fn133 ?_;simp only[zz0,rU];have q1:=fun k=>zad (k:=k) (zBv a)
 have q2:=fun k=>zad (k:=k) (zBv b)
 unfold zaT
 by_cases h1:a<b
 .have h2:¬a=b:=by omega
  simp[rW,st0,zal,q1,q2,h1,h2]
 .by_cases h2:b<a
  .have h3:¬a=b:=by omega
   simp[rW,st0,zal,q1,q2,h1,h2,h3]
  .have h3:a=b:=by omega
   simp[rW,st0,zal,q1,q2,h1,h2,h3]
def zBs(a b:Str):Ans pr 134 [.s a,.s b] (.i .i64 (zjq a b)):=by
 refine zcx fn134 ?_;simp only[zz2,rU];simp[rW,st0,zal];refine ziO (ro199 a b _ _) ?_ ?_
 .simp only[rG];omega
 .intro mx;simp[rW,st0,zal]
def zBp(a b c:Int):Ans pr 131 [.sl 1 [[.i .i64 a],[.i .i64 b],[.i .i64 c]]] (.i .i64 (if a≠0 then a else if b≠0 then b else c)):=by
 refine zcx fn131 ?_;simp only[zzY,rU];have w1:IntKind.i64.wrap 1=1:=rfl;have w2:IntKind.i64.wrap 2=2:=rfl;have w3:IntKind.i64.wrap 3=3:=rfl;simp[rW,st0,zal];refine round ?_
 by_cases ha:a=0
 .by_cases hb:b=0
  .simp[rW,ha,hb,w1];refine round ?_;simp[rW,ha,hb,w2];refine round ?_
   by_cases hc:c=0
   .simp[rW,hc,w3];refine round ?_;simp[rW,hc]
   .simp[rW,hc]
  .simp[rW,ha,hb,w1];refine round ?_;simp[rW,hb]
 .simp[rW,ha]
def zGN(a b:Int):Ans pr 72 [.ag (vF a),.ag (vF b)] (.i .i64 (zaT a b)):=by
 refine zcx fn72 ?_;simp only[g72,rU];have q1:=fun k=>zad (k:=k) (zBq 1 1)
 have q2:=fun k=>zad (k:=k) (zBr a b)
 have q3:=fun k=>zad (k:=k) (zBs [] [])
 have q4:=fun k=>zad (k:=k) (zBp (zaT 1 1) (zaT a b) (zjq [] []))
 rw[(show zaT 1 1=0 from rfl)]at q1 q4;rw[(show zjq [] []=0 from rfl)]at q3 q4;have e:(if(0:Int)≠0 then 0 else if zaT a b≠0 then zaT a b else 0)=zaT a b:=by
  simp only[ne_eq,not_true_eq_false,Z63];split
  .rfl
  .rename_i h;simp at h;exact h.symm
 rw[e]at q4;simp[rW,st0,zal,vF];refine zay ?_;simp[rW,st0,zal,vF,q1,q2,q3,q4]
def iE(l:List Nat):List (List D):=l.map fun n:Nat=>[D.f (.i .i64 (n:Int))]
def tv_v(v:Str):tv (.var v)=v:=rfl
def tk_v(v:Str):tk (.var v)=0:=rfl
def tn_v(v:Str):tn (.var v)=0:=rfl
def tv_c(n:Int):tv (.cst n)=[]:=rfl
def tk_c(n:Int):tk (.cst n)=1:=rfl
def tn_c(n:Int):tn (.cst n)=n:=rfl
theorem zfb{h:T Ob}{lo c es byt:Nat}{d:D}{els new:List (List D)}{rd:List Nat}{K:Rs->Prop}(hg:Gro h lo c es d els)(hlo:lo<=c)(hlen:els.length+new.length<=1000000)(hb:byt<=1000)
  (hK:∀r:Rs,zaq r.c r.wr=true->Gro (wrT h r.wr) lo r.c es r.d (els++new)->c<=r.c->(∀id,id<c->d.oid≠some id->(wrT h r.wr).get id=h.get id)->(∀x,r.d.oid=some x->x=c\/d.oid=some x)->K r):oB (zbn es byt h.get c d new rd) K:=by
 obtain⟨r,h1,h2,h3,h4,h5,h6,h7,h8⟩ :=zqV (byt:=byt) (rd:=rd) hg hlo hlen hb;rw[h1];exact hK r h2 h3 h4 h5 h8
def zbr{h:T Ob}{lo c es:Nat}{d:D}{els:List (List D)}(hg:Gro h lo c es d els){x:Nat}(hx:d.oid=some x):lo<=x/\x<c:=by
 rcases hg with⟨rfl,_⟩ |⟨id,ro,rfl,h2,h3,h4,h5,h6⟩
 .simp[D.oid]at hx
 .simp[D.oid]at hx;omega
def zc1(l:List CQ):List (List D):=l.map fun c=>[D.f (zcz c),D.f (zcQ c)]
def zfR(l:List CQ):(zc1 l).length=l.length:=by simp[zc1]
def zrG(l:List CQ)(c:CQ):zc1 (l++[c])=zc1 l++[[D.f (zcz c),D.f (zcQ c)]]:=by simp[zc1]
def zlk(h:Nat->Option Ob)(k:Nat)(l:List CQ):zaQ (frz h (k+1)) (zc1 l)=some (l.map cqF,[]):=by
 have:=zlA h k (l.map cqF);rw[Z33]at this;exact this
def Own(h:T Ob)(lo c:Nat)(d:D)(X:F):Prop:=(d= .f X\/∃a b e f g x,d= .sl a b e f g x)/\d.cells=some [d]/\(∀x,d.oid=some x->lo<=x/\x<c)/\∀h':T Ob,(∀x,d.oid=some x->h'.get x=h.get x)->∀k,∃rd,frz h'.get (k+2) d=some (X,rd)
def zxR{h:T Ob}{lo c es:Nat}{d:D}{rows:List (List F)}(hg:Gro h lo c es d (rows.map fun a=>a.map D.f)):Own h lo c d (slc es rows):=by
 refine⟨?_,zbu hg,fun x hx=>zbr hg hx,fun h' hh k=> ?_⟩
 .rcases hg with⟨rfl,hr⟩ |⟨id,ro,rfl,hn,hg,hr,hl,hc⟩
  .have:rows=[]:=by simpa using hr
   subst this;exact .inl rfl
  .exact .inr ⟨_,_,_,_,_,_,rfl⟩
 rcases hg with⟨rfl,hr⟩ |⟨id,ro,rfl,hn,hg,hr,hl,hc⟩
 .have:rows=[]:=by simpa using hr
  subst this;exact⟨[],rfl⟩
 .refine⟨[id],?_⟩;have h1:=hh id rfl;rw[zfm,h1,hg,zdQ,zhB];simp only[true_and,Z25,Z2,Z60,Z34,Z7,zlA h'.get k rows,zdQ];rw[zin (fun e=>hn (by rw[e];rfl))]
def GZ(h:T Ob)(d:D):Prop:=∀id es ro els,d.oid=some id->h.get id=some (.arr es ro els)->ro=0
theorem zKg{h:T Ob}{lo c es byt:Nat}{d:D}{els new:List (List D)}{rd:List Nat}{K:Rs->Prop}(hg:Gro h lo c es d els)(hz:GZ h d)(hlo:lo<=c)(hlen:els.length+new.length<=1000000)(hb:byt<=1000)
  (hK:∀r:Rs,zaq r.c r.wr=true->Gro (wrT h r.wr) lo r.c es r.d (els++new)->c<=r.c->(∀id,id<c->d.oid≠some id->(wrT h r.wr).get id=h.get id)->(∀x,r.d.oid=some x->x=c\/d.oid=some x)->GZ (wrT h r.wr) r.d->K r):oB (zbn es byt h.get c d new rd) K:=by
 obtain⟨r,h1,h2,h3,h4,h5,h6,h7,h8⟩ :=zqV (byt:=byt) (rd:=rd) hg hlo hlen hb;rw[h1];refine hK r h2 h3 h4 h5 h8 ?_;have hm:∀n,n<=1000000->n<=zaB:=fun n hn=>by have:=zcZ (n:=n) (by omega);simpa using this
 have hmb:∀n,n<=1000000->n*byt<=zaB:=fun n hn=>by
  have:n*byt<=1000000*1000:=Z144 hn hb;have h2:=zcZ (n:=n*byt) (by omega);simpa using h2
 by_cases h0:new.length=0
 .have hn:new=[]:=Z17.1 h0;subst hn;rcases hg with⟨rfl,rfl⟩ |⟨id,ro,rfl,he,ho,hr,hl,hc⟩
  .rw[zgM]at h1;simp at h1;rw[<-h1];intro i es ro els hi;simp[D.oid]at hi
  .rw[zjA]at h1;simp at h1;rw[<-h1];exact hz
 .rcases hg with⟨rfl,rfl⟩ |⟨id,ro,rfl,he,ho,hr,hl,hc⟩
  .rw[zgM,Z49 h0,Z51 ⟨hm _ (by simpa using hlen),hmb _ (by simpa using hlen)⟩]at h1;cases h1;intro i es ro els hi hg;simp only[D.oid,Z45]at hi;subst hi;simp[wrT,TG]at hg;exact hg.2.1.symm
  .have e:zbn es byt h.get c (.sl id 0 els.length es els.length false) new rd=some {d:= .sl c 0 (els.length+new.length) es (els.length+new.length) false,rd:=id::rd,wr:=[(id,none),(c,some (.arr es ro (els++new)))],c:=c+1}:=by
    rw[zjA,Z49 h0,ho];have h1:¬(0+els.length+new.length<=els.length):=by omega
    have h2:=hm (els.length+new.length) hlen;have h3:=hmb (els.length+new.length) hlen;simp[om,apO,h1,h2,h3,hr];omega
   rw[e]at h1;cases h1;have h0':=hz id es ro els rfl ho;intro i es ro els hi hg;simp only[D.oid,Z45]at hi;subst hi;simp[wrT,TG]at hg;rw[<-hg.2.1];exact h0'
def Own.up{h h':T Ob}{lo lo' c c':Nat}{d:D}{X:F}(H:Own h lo c d X)(hf:∀x,d.oid=some x->h'.get x=h.get x)(hl:lo'<=lo)(hc:c<=c'):Own h' lo' c' d X:=
 ⟨H.1,H.2.1,fun x hx=>by have:=H.2.2.1 x hx;omega,fun h2 hh=>H.2.2.2 h2 fun x hx=>(hh x hx).trans (hf x hx)⟩
def zQg(h:Nat->Option Ob)(c:Nat):opv h c (.eqn 0 false (.f .nils) (.f .nils))=some {d:= .f (.b true),c}:=rfl
def zQi(h:Nat->Option Ob)(c es:Nat)(l:List (List F)):opv h c (.eqn 0 false (.f (.sl es l)) (.f .nils))=some {d:= .f (.b false),c}:=rfl
def exFr:zEi pr:=fun f args h c q hq=>by
 have hq:znZ f args h c=some q:=hq;unfold znZ at hq;split at hq
 .rename_i hx;cases hq;obtain⟨_,_,L,hd,cs,R,_,_,_,_,e⟩ :=Classical.choose_spec hx;rw[e];exact fun id h1 _=>absurd h1 (Nat.not_lt_zero _)
 .cases hq
def kps:Kps pr:=zOX zhL exFr
def zbS(l:List Rl):F:=slc 4 (l.map rlF)
def zlH(l:List Rl):(zbS l).d= .f (zbS l):=zew ..
def zra(l:List Rl):zcp (.f (zbS l))=some l.length:=by simp[zbS,zeo]
def zmR(l:List Rl)(n:Nat):iaB 4 (.f (zbS l)) n=(l[n]?).map fun r=>D.fptr (rlF r):=by simp[zbS,zfh,Z67]
def zbB(l:List (List Int×List F)):F:=slc 4 (l.map tuF)
def znD(l:List (List Int×List F)):(zbB l).d= .f (zbB l):=zew ..
def zyt(l:List (List Int×List F)):zcp (.f (zbB l))=some l.length:=by simp[zbB,zeo]
def zjt(l:List (List Int×List F))(n:Nat):iaB 4 (.f (zbB l)) n=(l[n]?).map fun t=>D.fptr (tuF t):=by simp[zbB,zfh,Z67]
def rlE(r:Rl):rlF r=[.s r.nm,.b r.ce,r.co,zbB r.tu]:=rfl
end Go.Proofs.YtbhholaillniiaaGreatDoor
end
