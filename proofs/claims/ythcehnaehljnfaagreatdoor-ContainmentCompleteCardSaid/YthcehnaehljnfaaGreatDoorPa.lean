/- Small functions, the form of data (ported from seat17b). -/
import Derived.Test.YthcehnaehljnfaaGreatDoorHb
import Derived.Test.YthcehnaehljnfaaGreatDoorAll
import Derived.Test.YthcehnaehljnfaaGreatDoorVe
import Derived.KernelRfl
import Derived.IntWalk
import Derived.Test.YthcehnaehljnfaaGreatDoorHa
set_option linter.all false
set_option maxRecDepth 100000
set_option maxHeartbeats 4000000
section
namespace Go.Proofs.YthcehnaehljnfaaGreatDoor
open Go Go.Vse Go.Vse.Sm
def fn64:pr.fn 64=some g64:=by kernel_rfl
def fn136:pr.fn 136=some zDp:=by kernel_rfl
def fn137:pr.fn 137=some zDq:=by kernel_rfl
def fn138:pr.fn 138=some zDr:=by kernel_rfl
def fn139:pr.fn 139=some zDs:=by kernel_rfl
def fn197:pr.fn 197=some zDz:=by kernel_rfl
def fn198:pr.fn 198=some zDB:=by kernel_rfl
def zju(a b:Str):Int:=if Go.Op.bytesLess a b=true then -1 else if a=b then 0 else 1
def zbq(a b:Int):Int:=if a=b then 0 else if a<b then -1 else 1
def tv:Trm->Str
 | .var s=>s
 | .cst _=>[]
def tk:Trm->Int
 | .var _=>0
 | .cst _=>1
def tn:Trm->Int
 | .var _=>0
 | .cst n=>n
def tmE(t:Trm):tmF t=[.s (tv t),.i .i64 (tk t),.i .i64 (tn t),.s []]:=by cases t<;>rfl
def zf6(l:List Trm):F:=slc 4 (l.map tmF)
def wrap_i64(n:Int)(h:0<=n)(h2:n<9223372036854775808):IntKind.i64.wrap n=n:=IntWalk.i64_in n (by omega)
def zaH(n:Nat)(h:n<1000000):IntKind.i64.wrap ((n:Int)+1)=((n+1:Nat):Int):=wrap_i64 _ (by omega) (by omega)
def zbl(l:List Str):(zak l).d= .f (zak l):=zeM ..
def zcM(l:List Str):zco (.f (zak l))=some l.length:=by simp[zak,zeo]
def zfq(l:List Str)(n:Nat):iaB 1 (.f (zak l)) n=(l[n]?).map fun s=>D.fptr [.s s]:=by simp[zak,zgg,Z67]
def zuE(l:List Trm):(zf6 l).d= .f (zf6 l):=zeM ..
def zBE(l:List Trm):zco (.f (zf6 l))=some l.length:=by simp[zf6,zeo]
def zrO(l:List Trm)(n:Nat):iaB 4 (.f (zf6 l)) n=(l[n]?).map fun t=>D.fptr (tmF t):=by simp[zf6,zgg,Z67]
def zr1(a b:Int):(zbq a b<0)=(a<b):=by
 unfold zbq
 by_cases h:a=b
 .simp[h]
 .simp only[h,Z63];split<;>simp_all
def zda(c:CQ):F:=csF c
def zcL(c:CQ):F:=Sm.asF c
def zgp(c:CQ):(zda c).d= .f (zda c):=by
 unfold zda csF;split
 .rfl
 .exact zeM ..
def zr3(c:CQ):zco (.f (zda c))=some c.cs.length:=by
 unfold zda csF;split
 .rename_i h;rw[h.2];rfl
 .simp[zeo]
def zZK(c:CQ)(n:Nat):iaB 9 (.f (zda c)) n=(c.cs[n]?).map fun t=>D.fptr (cmF t):=by
 unfold zda csF;split
 .rename_i h;rw[h.2];rfl
 .simp[zgg,Z67]
def zgo(c:CQ):(zcL c).d= .f (zcL c):=by
 unfold zcL Sm.asF;split
 .rfl
 .exact zeM ..
def zkT(c:CQ):zco (.f (zcL c))=some c.as.length:=by
 unfold zcL Sm.asF;split
 .rename_i h;rw[h.2];rfl
 .simp[zeo]
def zqI(c:CQ)(n:Nat):iaB 3 (.f (zcL c)) n=(c.as[n]?).map fun t=>D.fptr (atF t):=by
 unfold zcL Sm.asF;split
 .rename_i h;rw[h.2];rfl
 .simp[zgg,Z67]
def cqE(c:CQ):cqF c=[zcL c,zda c]:=rfl
def atE(a:Atm):atF a=[.s a.r,.b a.neg,zf6 a.ts]:=rfl
def zgr:zpL pr:=zyo zhO
def zdQ(l:List Str):List (List D):=l.map fun s=>[D.f (.s s)]
def zl1(l:List Str):(zdQ l).length=l.length:=by simp[zdQ]
def ztv(l:List Str):(zdQ l).take l.length=zdQ l:=by rw[<-zl1 l,Z7]
def zzT(h:Nat->Option Ob)(k:Nat)(l:List Str):za3 (frz h (k+1)) (zdQ l)=some (l.map fun s=>[F.s s],[]):=zPq h k F.s l
def zzV{l:List Str}(h:l≠[]):F.sl 1 (l.map fun s=>[F.s s])=zak l:=znL (by simpa using h)
def zSw{h:T Ob}{lo c es k:Nat}{d:D}{els:List (List D)}{L:List (List F)}(hg:Gro h lo c es d els)(hf:za3 (frz h.get k) els=some (L,[]))(hL:L=[]↔els=[]):∃rd,frz h.get (k+1) d=some (slc es L,rd):=by
 rcases hg with⟨rfl,rfl⟩ |⟨id,ro,rfl,he,ho,hr,hl,hc⟩
 .rw[hL.2 rfl];exact⟨[],rfl⟩
 .refine⟨[id],?_⟩;rw[zfw,ho,zeW,zkX];simp only[true_and,Z25,Z2,Z60,Z34,Z7,hf,zeW];rw[znL (fun e=>he (hL.1 e))]
def zht{h:T Ob}{lo c es:Nat}{d:D}{els:List (List D)}(hg:Gro h lo c es d els){i:Nat}(hi:i<lo):d.oid≠some i:=by
 rcases hg with⟨rfl,_⟩ |⟨id,ro,rfl,_,_,_,hl,_⟩
 .simp[D.oid]
 .simp[D.oid];omega
def qsF(l:List CQ):F:=slc 2 (l.map cqF)
def zeH(l:List CQ):(qsF l).d= .f (qsF l):=zeM ..
def zfg(l:List CQ):zco (.f (qsF l))=some l.length:=by simp[qsF,zeo]
def zic(l:List CQ)(n:Nat):iaB 2 (.f (qsF l)) n=(l[n]?).map fun c=>D.fptr (cqF c):=by simp[qsF,zgg,Z67]
def z2T{f:Nat}{args:List D}{h:T Ob}{c:Nat}{x:F}(h1:pr.fn f=none)(h2:pr.ext f args=some x):RO pr f args h c x.d:=by
 refine⟨c,Z2 _,1,fun n hn=> ?_⟩;obtain⟨m,rfl⟩ :∃m,n=m+1:=⟨n - 1,by omega⟩
 simp only[zb8,h1,h2]
theorem zAw:∀a b:Str,Go.Lib.compareBytes a b=zju a b
 |[],[]=>rfl
 |[],b::l=>by simp[Go.Lib.compareBytes,zju,Go.Op.bytesLess]
 |a::l,[]=>by simp[Go.Lib.compareBytes,zju,Go.Op.bytesLess]
 |a::l,b::m=>by
  have ih:=zAw l m;unfold Go.Lib.compareBytes zju Go.Op.bytesLess
  by_cases h1:a<b
  .simp[h1]
  .by_cases h2:b<a
   .have h3:a≠b:=fun e=>by subst e;exact h1 h2
    simp[h1,h2,h3]
   .have h3:a=b:=UInt8.le_antisymm (UInt8.not_lt.1 h2) (UInt8.not_lt.1 h1);subst h3;simp only[h1,Z63,ih,zju];simp
def ro199(a b:Str)(h:T Ob)(c:Nat):RO pr 199 [.f (.s a),.f (.s b)] h c (.f (.i .i64 (zju a b))):=by
 have:=z2T (h:=h) (c:=c) (f:=199) (args:=[.f (.s a),.f (.s b)]) (x:= .i .i64 (Go.Lib.compareBytes a b)) (by kernel_rfl) rfl;rw[zAw]at this;exact this
def zGL(a:Int):Ans pr 197 [.i .i64 a] (.b false):=by
 refine zdr fn197 ?_;simp only[zDz,rU];simp[rW,st0,zay]
def zGN(a:Int):Ans pr 198 [.i .i64 a] (.b false):=by
 refine zdr fn198 ?_;simp only[zDB,rU];simp[rW,st0,zay]
def zGI(a b:Int):Ans pr 137 [.i .i64 a,.i .i64 b] (.i .i64 (zbq a b)):=by
 refine zdr fn137 ?_;simp only[zDq,rU];have q1:=fun k=>zaC (k:=k) (zGL a)
 have q2:=fun k=>zaC (k:=k) (zGL b)
 unfold zbq
 by_cases h1:a<b
 .have h2:¬a=b:=by omega
  simp[rW,st0,zay,q1,q2,h1,h2]
 .by_cases h2:b<a
  .have h3:¬a=b:=by omega
   simp[rW,st0,zay,q1,q2,h1,h2,h3]
  .have h3:a=b:=by omega
   simp[rW,st0,zay,q1,q2,h1,h2,h3]
def zGJ(a b:Int):Ans pr 138 [.i .i64 a,.i .i64 b] (.i .i64 (zbq a b)):=by
 refine zdr fn138 ?_;simp only[zDr,rU];have q1:=fun k=>zaC (k:=k) (zGN a)
 have q2:=fun k=>zaC (k:=k) (zGN b)
 unfold zbq
 by_cases h1:a<b
 .have h2:¬a=b:=by omega
  simp[rW,st0,zay,q1,q2,h1,h2]
 .by_cases h2:b<a
  .have h3:¬a=b:=by omega
   simp[rW,st0,zay,q1,q2,h1,h2,h3]
  .have h3:a=b:=by omega
   simp[rW,st0,zay,q1,q2,h1,h2,h3]
def zGK(a b:Str):Ans pr 139 [.s a,.s b] (.i .i64 (zju a b)):=by
 refine zdr fn139 ?_;simp only[zDs,rU];simp[rW,st0,zay];refine zkd (ro199 a b _ _) ?_ ?_
 .simp only[rG];omega
 .intro mx;simp[rW,st0,zay]
def zGH(a b c:Int):Ans pr 136 [.sl 1 [[.i .i64 a],[.i .i64 b],[.i .i64 c]]] (.i .i64 (if a≠0 then a else if b≠0 then b else c)):=by
 refine zdr fn136 ?_;simp only[zDp,rU];have w1:IntKind.i64.wrap 1=1:=rfl;have w2:IntKind.i64.wrap 2=2:=rfl;have w3:IntKind.i64.wrap 3=3:=rfl;simp[rW,st0,zay];refine round ?_
 by_cases ha:a=0
 .by_cases hb:b=0
  .simp[rW,ha,hb,w1];refine round ?_;simp[rW,ha,hb,w2];refine round ?_
   by_cases hc:c=0
   .simp[rW,hc,w3];refine round ?_;simp[rW,hc]
   .simp[rW,hc]
  .simp[rW,ha,hb,w1];refine round ?_;simp[rW,hb]
 .simp[rW,ha]
def zO6(a b:Int):Ans pr 64 [.ag (vF a),.ag (vF b)] (.i .i64 (zbq a b)):=by
 refine zdr fn64 ?_;simp only[g64,rU];have q1:=fun k=>zaC (k:=k) (zGI 1 1)
 have q2:=fun k=>zaC (k:=k) (zGJ a b)
 have q3:=fun k=>zaC (k:=k) (zGK [] [])
 have q4:=fun k=>zaC (k:=k) (zGH (zbq 1 1) (zbq a b) (zju [] []))
 rw[(show zbq 1 1=0 from rfl)]at q1 q4;rw[(show zju [] []=0 from rfl)]at q3 q4;have e:(if(0:Int)≠0 then 0 else if zbq a b≠0 then zbq a b else 0)=zbq a b:=by
  simp only[ne_eq,not_true_eq_false,Z63];split
  .rfl
  .rename_i h;simp at h;exact h.symm
 rw[e]at q4;simp[rW,st0,zay,vF];refine zbf ?_;simp[rW,st0,zay,vF,q1,q2,q3,q4]
def iE(l:List Nat):List (List D):=l.map fun n:Nat=>[D.f (.i .i64 (n:Int))]
def tv_v(v:Str):tv (.var v)=v:=rfl
def tk_v(v:Str):tk (.var v)=0:=rfl
def tn_v(v:Str):tn (.var v)=0:=rfl
def tv_c(n:Int):tv (.cst n)=[]:=rfl
def tk_c(n:Int):tk (.cst n)=1:=rfl
def tn_c(n:Int):tn (.cst n)=n:=rfl
theorem zfj{h:T Ob}{lo c es byt:Nat}{d:D}{els new:List (List D)}{rd:List Nat}{K:Rs->Prop}(hg:Gro h lo c es d els)(hlo:lo<=c)(hlen:els.length+new.length<=1000000)(hb:byt<=1000)
  (hK:∀r:Rs,zau r.c r.wr=true->Gro (wrT h r.wr) lo r.c es r.d (els++new)->c<=r.c->(∀id,id<c->d.oid≠some id->(wrT h r.wr).get id=h.get id)->(∀x,r.d.oid=some x->x=c\/d.oid=some x)->K r):oB (zbv es byt h.get c d new rd) K:=by
 obtain⟨r,h1,h2,h3,h4,h5,h6,h7,h8⟩ :=zr8 (byt:=byt) (rd:=rd) hg hlo hlen hb;rw[h1];exact hK r h2 h3 h4 h5 h8
def zbr{h:T Ob}{lo c es:Nat}{d:D}{els:List (List D)}(hg:Gro h lo c es d els){x:Nat}(hx:d.oid=some x):lo<=x/\x<c:=by
 rcases hg with⟨rfl,_⟩ |⟨id,ro,rfl,h2,h3,h4,h5,h6⟩
 .simp[D.oid]at hx
 .simp[D.oid]at hx;omega
def zna(l:List CQ):List (List D):=l.map fun c=>[D.f (zcL c),D.f (zda c)]
def zJp(l:List CQ):(zna l).length=l.length:=by simp[zna]
def zG4(l:List CQ)(c:CQ):zna (l++[c])=zna l++[[D.f (zcL c),D.f (zda c)]]:=by simp[zna]
def zJm(h:Nat->Option Ob)(k:Nat)(l:List CQ):za3 (frz h (k+1)) (zna l)=some (l.map cqF,[]):=by
 have:=zok h k (l.map cqF);rw[Z33]at this;exact this
def Own(h:T Ob)(lo c:Nat)(d:D)(X:F):Prop:=(d= .f X\/∃a b e f g x,d= .sl a b e f g x)/\d.cells=some [d]/\(∀x,d.oid=some x->lo<=x/\x<c)/\∀h':T Ob,(∀x,d.oid=some x->h'.get x=h.get x)->∀k,∃rd,frz h'.get (k+2) d=some (X,rd)
def zS2{h:T Ob}{lo c es:Nat}{d:D}{rows:List (List F)}(hg:Gro h lo c es d (rows.map fun a=>a.map D.f)):Own h lo c d (slc es rows):=by
 refine⟨?_,zbU hg,fun x hx=>zbr hg hx,fun h' hh k=> ?_⟩
 .rcases hg with⟨rfl,hr⟩ |⟨id,ro,rfl,hn,hg,hr,hl,hc⟩
  .have:rows=[]:=by simpa using hr
   subst this;exact .inl rfl
  .exact .inr ⟨_,_,_,_,_,_,rfl⟩
 rcases hg with⟨rfl,hr⟩ |⟨id,ro,rfl,hn,hg,hr,hl,hc⟩
 .have:rows=[]:=by simpa using hr
  subst this;exact⟨[],rfl⟩
 .refine⟨[id],?_⟩;have h1:=hh id rfl;rw[zfw,h1,hg,zeW,zkX];simp only[true_and,Z25,Z2,Z60,Z34,Z7,zok h'.get k rows,zeW];rw[znL (fun e=>hn (by rw[e];rfl))]
def GZ(h:T Ob)(d:D):Prop:=∀id es ro els,d.oid=some id->h.get id=some (.arr es ro els)->ro=0
theorem zSx{h:T Ob}{lo c es byt:Nat}{d:D}{els new:List (List D)}{rd:List Nat}{K:Rs->Prop}(hg:Gro h lo c es d els)(hz:GZ h d)(hlo:lo<=c)(hlen:els.length+new.length<=1000000)(hb:byt<=1000)
  (hK:∀r:Rs,zau r.c r.wr=true->Gro (wrT h r.wr) lo r.c es r.d (els++new)->c<=r.c->(∀id,id<c->d.oid≠some id->(wrT h r.wr).get id=h.get id)->(∀x,r.d.oid=some x->x=c\/d.oid=some x)->GZ (wrT h r.wr) r.d->K r):oB (zbv es byt h.get c d new rd) K:=by
 obtain⟨r,h1,h2,h3,h4,h5,h6,h7,h8⟩ :=zr8 (byt:=byt) (rd:=rd) hg hlo hlen hb;rw[h1];refine hK r h2 h3 h4 h5 h8 ?_;have hm:∀n,n<=1000000->n<=zaB:=fun n hn=>by have:=zfW (n:=n) (by omega);simpa using this
 have hmb:∀n,n<=1000000->n*byt<=zaB:=fun n hn=>by
  have:n*byt<=1000000*1000:=Z144 hn hb;have h2:=zfW (n:=n*byt) (by omega);simpa using h2
 by_cases h0:new.length=0
 .have hn:new=[]:=Z17.1 h0;subst hn;rcases hg with⟨rfl,rfl⟩ |⟨id,ro,rfl,he,ho,hr,hl,hc⟩
  .rw[ziS]at h1;simp at h1;rw[<-h1];intro i es ro els hi;simp[D.oid]at hi
  .rw[zn9]at h1;simp at h1;rw[<-h1];exact hz
 .rcases hg with⟨rfl,rfl⟩ |⟨id,ro,rfl,he,ho,hr,hl,hc⟩
  .rw[ziS,Z49 h0,Z51 ⟨hm _ (by simpa using hlen),hmb _ (by simpa using hlen)⟩]at h1;cases h1;intro i es ro els hi hg;simp only[D.oid,Z45]at hi;subst hi;simp[wrT,TG]at hg;exact hg.2.1.symm
  .have e:zbv es byt h.get c (.sl id 0 els.length es els.length false) new rd=some {d:= .sl c 0 (els.length+new.length) es (els.length+new.length) false,rd:=id::rd,wr:=[(id,none),(c,some (.arr es ro (els++new)))],c:=c+1}:=by
    rw[zn9,Z49 h0,ho];have h1:¬(0+els.length+new.length<=els.length):=by omega
    have h2:=hm (els.length+new.length) hlen;have h3:=hmb (els.length+new.length) hlen;simp[om,apO,h1,h2,h3,hr];omega
   rw[e]at h1;cases h1;have h0':=hz id es ro els rfl ho;intro i es ro els hi hg;simp only[D.oid,Z45]at hi;subst hi;simp[wrT,TG]at hg;rw[<-hg.2.1];exact h0'
def Own.up{h h':T Ob}{lo lo' c c':Nat}{d:D}{X:F}(H:Own h lo c d X)(hf:∀x,d.oid=some x->h'.get x=h.get x)(hl:lo'<=lo)(hc:c<=c'):Own h' lo' c' d X:=
 ⟨H.1,H.2.1,fun x hx=>by have:=H.2.2.1 x hx;omega,fun h2 hh=>H.2.2.2 h2 fun x hx=>(hh x hx).trans (hf x hx)⟩
def exFr:zIB pr:=fun f args h c q hq=>by
 have hq:zo6 f args h c=some q:=hq;unfold zo6 at hq;split at hq
 .rename_i hx;cases hq;obtain⟨_,_,L,hd,cs,R,_,_,_,_,e⟩ :=Classical.choose_spec hx;rw[e];exact fun id h1 _=>absurd h1 (Nat.not_lt_zero _)
 .cases hq
def kps:Kps pr:=z2j zhO exFr
def zbS(l:List Rl):F:=slc 4 (l.map rlF)
def ziK(l:List Rl):(zbS l).d= .f (zbS l):=zeM ..
def zsm(l:List Rl):zco (.f (zbS l))=some l.length:=by simp[zbS,zeo]
def znF(l:List Rl)(n:Nat):iaB 4 (.f (zbS l)) n=(l[n]?).map fun r=>D.fptr (rlF r):=by simp[zbS,zgg,Z67]
def zdf(l:List (List Int×List F)):F:=slc 4 (l.map tuF)
def zEx(l:List (List Int×List F)):(zdf l).d= .f (zdf l):=zeM ..
def zUx(l:List (List Int×List F)):zco (.f (zdf l))=some l.length:=by simp[zdf,zeo]
def zIs(l:List (List Int×List F))(n:Nat):iaB 4 (.f (zdf l)) n=(l[n]?).map fun t=>D.fptr (tuF t):=by simp[zdf,zgg,Z67]
def rlE(r:Rl):rlF r=[.s r.nm,.b r.ce,r.co,zdf r.tu]:=rfl
def ziz(l:List Nat):List (List D):=l.map fun i=>[D.f (.i .i64 (i:Nat))]
def zJO(a:List Nat):(ziz a).length=a.length:=by simp[ziz]
def NE(d1 d2:D):Prop:=∀x,d1.oid=some x->d2.oid≠some x
def GG(h:T Ob)(lo c n:Nat)(d:D)(els:List Nat):Prop:=
 (n=0/\d= .f .nils/\els=[])\/∃id jk,d= .sl id 0 els.length 1 n false/\h.get id=some (.arr 1 0 (ziz (els++jk)))/\els.length+jk.length=n/\0<n/\lo<=id/\id<c
def GG.up{h h':T Ob}{lo c c' n:Nat}{d:D}{els:List Nat}(H:GG h lo c n d els)(hf:∀x,d.oid=some x->h'.get x=h.get x)(hc:c<=c'):GG h' lo c' n d els:=by
 rcases H with H|⟨id,jk,rfl,h1,h2,h3,h4,h5⟩
 .exact .inl H
 .exact .inr ⟨id,jk,rfl,by rw[hf id rfl];exact h1,h2,h3,h4,by omega⟩
def GG.oid{h:T Ob}{lo c n:Nat}{d:D}{els:List Nat}(H:GG h lo c n d els){x:Nat}(hx:d.oid=some x):lo<=x/\x<c:=by
 rcases H with⟨-,rfl,-⟩ |⟨id,jk,rfl,-,-,-,h4,h5⟩
 .cases hx
 .cases hx;exact⟨h4,h5⟩
def GG.cells{h:T Ob}{lo c n:Nat}{d:D}{els:List Nat}(H:GG h lo c n d els):d.cells=some [d]:=by
 rcases H with⟨-,rfl,-⟩ |⟨id,jk,rfl,-⟩ <;>rfl
def GG.hd8{h:T Ob}{lo c n:Nat}{d:D}{els:List Nat}(H:GG h lo c n d els)(l:List (List D)):hd8 ([d]::l)=false:=by
 rcases H with⟨-,rfl,-⟩ |⟨id,jk,rfl,-⟩ <;>rfl
def GG.len{h:T Ob}{lo c n:Nat}{d:D}{els:List Nat}(H:GG h lo c n d els):zco d=some els.length:=by
 rcases H with⟨-,rfl,rfl⟩ |⟨id,jk,rfl,-⟩ <;>rfl
theorem zSu{h:T Ob}{lo c n x:Nat}{d:D}{els:List Nat}{rd:List Nat}{K:Rs->Prop}(H:GG h lo c n d els)(hn:els.length=n)(hlo:lo<=c)(hs:n<1000)
  (hK:∀r:Rs,zau r.c r.wr=true->GG (wrT h r.wr) lo r.c (n+1) r.d (els++[x])->c<=r.c->(∀id,id<c->d.oid≠some id->(wrT h r.wr).get id=h.get id)->(∀y,y∈r.wr.map (·.1)->y=c\/d.oid=some y)->(∀y,y∈r.rd->y∈rd\/d.oid=some y)->(∀y,r.d.oid=some y->y=c\/d.oid=some y)->K r):oB (zbv 1 8 h.get c d [[.f (.i .i64 (x:Nat))]] rd) K:=by
 have hm:∀n,n<=1000000->n<=zaB:=fun n hn=>by have:=zfW (n:=n) (by omega);simpa using this
 rcases H with⟨rfl,rfl,rfl⟩ |⟨id,jk,rfl,h1,h2,h3,h4,h5⟩
 .rw[ziS,Z49 (by simp),Z51 ⟨hm _ (by simp),hm _ (by simp)⟩];refine hK {d:= .sl c 0 1 1 1 false,rd:=rd,wr:=[(c,some (.arr 1 0 [[.f (.i .i64 (x:Nat))]]))],c:=c+1} ?_ (.inr ⟨c,[],rfl,?_,rfl,by omega,hlo,by simp⟩) (by simp) ?_ ?_ (fun y hy=> .inl hy) (by simp[D.oid])
  .simp[zau,Z79]
  .simp[wrT,T.zae,ziz]
  .intro i hi _;have:i≠c:=by omega
   simp[wrT,T.zae,this]
  .simp
 .have hj:jk=[]:=Z17.1 (by omega);subst hj;rw[Z22]at h1;have hne:els.length≠0:=by omega
  have e:zbv 1 8 h.get c (.sl id 0 els.length 1 n false) [[.f (.i .i64 (x:Nat))]] rd=some {d:= .sl c 0 (els.length+1) 1 (els.length+1) false,rd:=id::rd,wr:=[(id,none),(c,some (.arr 1 0 (ziz els++[[.f (.i .i64 (x:Nat))]])))],c:=c+1}:=by
   rw[zn9,Z49 (by simp),h1];have k1:¬(0+els.length+1<=n):=by omega
   have k2:=hm (els.length+1) (by omega);have k3:=hm ((els.length+1)*8) (by omega);simp[om,apO,zJO,k1,k2,k3];omega
  rw[e];refine hK _ ?_ (.inr ⟨c,[],?_,?_,by simp;omega,by omega,hlo,by simp⟩) (by simp) ?_ ?_ ?_ (by simp[D.oid])
  .simp[zau,Z79];omega
  .simp[hn]
  .simp[wrT,T.zae,ziz]
  .intro i hi hne;have h1:i≠c:=by omega
   have h2:i≠id:=fun e=>hne (by rw[e];rfl)
   simp[wrT,T.zae,T.zk1,h1,h2]
  .intro y hy;simp only[Z10,Z85,Z5,Z164,or_false]at hy;rcases hy with rfl|rfl
   .exact .inr rfl
   .exact .inl rfl
  .intro y hy;rcases Z5.1 hy with rfl|hy
   .exact .inr rfl
   .exact .inl hy
structure PS(h:T Ob)(lo c PR:Nat)(W:List (D×Nat×List Nat)):Prop where
 r:h.get PR=some (.arr 1 0 (W.map fun p=>[p.1]))
 g:∀p∈W,GG h lo c p.2.1 p.1 p.2.2
 n:∀(i j:Nat) (p q:D×Nat×List Nat),i≠j->W[i]? =some p->W[j]? =some q->NE p.1 q.1
 l:PR<lo
def PS.up{h h':T Ob}{lo c c' PR:Nat}{W:List (D×Nat×List Nat)}(H:PS h lo c PR W)(hr:h'.get PR=h.get PR)(hf:∀id,lo<=id->id<c->h'.get id=h.get id)(hc:c<=c'):PS h' lo c' PR W:=
 ⟨by rw[hr];exact H.r,fun p hp=>(H.g p hp).up (fun x hx=>by have:=(H.g p hp).oid hx;exact hf x this.1 this.2) hc,H.n,H.l⟩
theorem PS.upd{h h':T Ob}{lo c c' PR i n':Nat}{W:List (D×Nat×List Nat)}{p:D×Nat×List Nat}{d':D}{els':List Nat}(H:PS h lo c PR W)(hi:W[i]? =some p)(hg:GG h' lo c' n' d' els')(hr:h'.get PR=some (.arr 1 0 ((W.set i (d',n',els')).map fun p=>[p.1])))
  (hf:∀id,lo<=id->id<c->p.1.oid≠some id->h'.get id=h.get id)(hN:∀x,d'.oid=some x->c<=x\/p.1.oid=some x)(hc:c<=c'):PS h' lo c' PR (W.set i (d',n',els')):=by
 have hil:i<W.length:=by
  rcases Z145 i W.length with h1|h1
  .exact h1
  .rw[Z97 h1]at hi;cases hi
 have new:∀(j:Nat) (q:D×Nat×List Nat),j≠i->W[j]? =some q->NE d' q.1:=fun j q hj hq x hx e=>by
  have hb:=(H.g q (Z39 hq)).oid e;rcases hN x hx with h1|h1
  .omega
  .exact H.n i j p q (fun e=>hj e.symm) hi hq x h1 e
 refine⟨hr,fun q hq=> ?_,fun a b q1 q2 hab h1 h2=> ?_,H.l⟩
 .obtain⟨j,hj,rfl⟩ :=Z130 hq;rw[List.getElem_set];split
  .exact hg
  .rename_i hne;have hjl:j<W.length:=by simpa using hj
   have hm:W[j]? =some W[j]:=Z0 hjl;refine (H.g _ (Z1 hjl)).up (fun x hx=> ?_) hc;have hb:=(H.g _ (Z1 hjl)).oid hx;exact hf x hb.1 hb.2 fun e=>H.n j i _ p (fun e=>hne e.symm) hm hi x hx e
 .rw[Z87]at h1 h2
  by_cases ha:i=a
  .subst ha;rw[Z51 rfl,Z51 hil]at h1;cases h1;rw[Z49 hab]at h2;exact new b q2 (fun e=>hab e.symm) h2
  .rw[Z49 ha]at h1
   by_cases hb:i=b
   .subst hb;rw[Z51 rfl,Z51 hil]at h2;cases h2;intro x hx e;exact new a q1 hab h1 x e hx
   .rw[Z49 hb]at h2;exact H.n a b q1 q2 hab h1 h2
def fn27:pr.fn 27=some g27:=by kernel_rfl
def z2M(l:List Rl):(D.f (zbS l)).cells=some [.f (zbS l)]:=zfE _ _
structure LR(L:List Rl):Prop where
 n:L.length<=8
 t:∀r∈L,r.tu.length<=3
 o:∀r∈L,r.co.d= .f r.co/\(D.f r.co).cells=some [.f r.co]
def vF(p:Rl):Nat×List Nat:=(p.tu.length,List.range p.tu.length)
def vA(L:List Rl)(n:Nat):List (Nat×List Nat):=(L.take n).map vF++List.replicate (L.length - n) (0,[])
def z4t{L:List Rl}{n:Nat}(h:n<=L.length):(vA L n).length=L.length:=by
 simp[vA];omega
def z4r{L:List Rl}{n:Nat}(h:n<L.length):(vA L n)[n]? =some (0,[]):=by
 unfold vA;have hl:((L.take n).map vF).length=n:=by simp;omega
 rw[Z62 (by omega),hl,Z194,Z160,Z51 (by omega)]
def z4A{L:List Rl}{n:Nat}{p:Rl}(h:L[n]? =some p)(hn:n<L.length):vA L (n+1)=(vA L n).set n (vF p):=by
 unfold vA;have hl:((L.take n).map vF).length=n:=by simp;omega
 rw[Z112 _ _ (by omega),hl,Z194,Z105,h,Z20,Z32]
 congr 1
 obtain⟨m,hm⟩ :∃m,L.length - n=m+1:=⟨L.length - n - 1,by omega⟩
 rw[hm,show L.length - (n+1)=m by omega,Z181];rfl
def zSU{W:List (D×Nat×List Nat)}{V:List (Nat×List Nat)}(h:W.map (·.2)=V){n:Nat}{v:Nat×List Nat}(hv:V[n]? =some v):∃d,W[n]? =some (d,v):=by
 rw[<-h,Z36]at hv;cases hw:W[n]? with
 |none=>rw[hw]at hv;cases hv
 |some p=>
  rw[hw]at hv;cases hv;exact⟨p.1,rfl⟩
def zTu{W:List (D×Nat×List Nat)}{n:Nat}{d:D}{v:Nat×List Nat}(h:W[n]? =some (d,v)):(W.map fun p=>[p.1])[n]? =some [d]:=by
 rw[Z36,h];rfl
def PS.h8{h:T Ob}{lo c PR:Nat}{W:List (D×Nat×List Nat)}(H:PS h lo c PR W):hd8 (W.map fun p=>[p.1])=false:=by
 cases W with
 |nil=>rfl
 |cons p W=>exact (H.g p (by simp)).hd8 _
def zTA{W:List (D×Nat×List Nat)}:(W.map fun p=>[p.1]).length=W.length:=by simp
def zTB{W:List (D×Nat×List Nat)}{n:Nat}{d:D}{v:Nat×List Nat}:(W.map fun p=>[p.1]).set n [d]=(W.set n (d,v)).map fun p=>[p.1]:=by
 rw[Z116]
structure SR(L:List Rl)(h0:T Ob)(c0:Nat)(V:List (Nat×List Nat))(h:T Ob)(c:Nat)(W:List (D×Nat×List Nat)):Prop where
 p:PS h (c0+2) c c0 W
 s:h.get (c0+1)=some (.arr 2 0 [[.f (zbS L),.sl c0 0 L.length 1 L.length true]])
 v:W.map (·.2)=V
 f:∀id,id<c0->h.get id=h0.get id
 c:c0+2<=c
def SR.up{L:List Rl}{h0:T Ob}{c0:Nat}{V:List (Nat×List Nat)}{h h':T Ob}{c c':Nat}{W:List (D×Nat×List Nat)}(H:SR L h0 c0 V h c W)(hf:∀id,id<c->h'.get id=h.get id)(hc:c<=c'):SR L h0 c0 V h' c' W:=by
 have:=H.c;exact⟨H.p.up (hf _ (by omega)) (fun id _ h=>hf id h) hc,by rw[hf _ (by omega)];exact H.s,H.v,fun id h=>(hf id (by omega)).trans (H.f id h),by omega⟩
def Jap(L:List Rl)(h0:T Ob)(c0 n:Nat)(s:St):Prop:=∃W,(s.tm.get 3=some (.ptr (c0+1) 2 0 0)/\s.tm.get 13=some (.f (zbS L))/\s.tm.get 14=some (.f (.i .i64 L.length))/\s.tm.get 15=some (.f (.i .i64 n)))/\SR L h0 c0 (vA L n) s.h s.c W
def Kap(L:List Rl)(h0:T Ob)(c0 n m k:Nat)(s:St):Prop:=∃W,(s.tm.get 3=some (.ptr (c0+1) 2 0 0)/\s.tm.get 13=some (.f (zbS L))/\s.tm.get 14=some (.f (.i .i64 L.length))/\s.tm.get 15=some (.f (.i .i64 n))/\s.tm.get 4=some (.f (.i .i64 n))/\s.tm.get 22=some (.f (.i .i64 m))/\s.tm.get 23=some (.f (.i .i64 k)))/\SR L h0 c0 ((vA L n).set n (k,List.range k)) s.h s.c W
def Rap(L:List Rl)(h0:T Ob)(c0 n:Nat)(s:St):Prop:=∃W,(s.tm.get 3=some (.ptr (c0+1) 2 0 0)/\s.tm.get 13=some (.f (zbS L))/\s.tm.get 14=some (.f (.i .i64 L.length))/\s.tm.get 15=some (.f (.i .i64 n)))/\SR L h0 c0 (vA L (n+1)) s.h s.c W
def zPj{L:List Rl}(hL:LR L){h0:T Ob}{c0:Nat}:Eff pr 27 [.f (zbS L)] h0 c0 fun d h' c'=>d= .ptr (c0+1) 2 0 0/\∃W,SR L h0 c0 (L.map vF) h' c' W:=by
 refine zyt zgr fn27 ?_;have hn8:=hL.n;simp only[g27,rU];have m1:L.length<=zaB:=by have:=zfW (n:=L.length) (by omega);simpa using this
 have m2:L.length*24<=zaB:=by have:=zfW (n:=L.length*24) (by omega);simpa using this
 simp[rW,st0,zay,ziK,z2M,zsm,m1,m2];have n1:¬c0+1=c0:=by omega
 have n2:¬c0=c0+1:=by omega
 refine zc0 L.length (Jap L h0 c0) (fun e s=>e= .exit 0/\Jap L h0 c0 L.length s) ?_ ?_ _ ⟨List.replicate L.length (.f .nils,0,[]),⟨?_,?_,?_,?_⟩,⟨⟨?_,?_,?_,by omega⟩,?_,?_,?_,?_⟩⟩ ?_
 .rintro n s hlt ⟨W,⟨h3,h13,h14,h15⟩,HS⟩;have hw:=zaH n (by omega);have hx:L[n]? =some L[n]:=Z0 hlt;have hG:=hL.o _ (Z1 hlt);have hm:=hL.t _ (Z1 hlt);generalize hA:L[n]=r at hx hG hm;have hcc:=hG.2;have hd:(zdf r.tu).d= .f (zdf r.tu):=zEx _;have hc2:(D.f (zdf r.tu)).cells=some [.f (zdf r.tu)]:=zfE _ _;have hvl:=z4t (L:=L) (n:=n) (by omega);have hvg:=z4r hlt;simp[rW,h3,h13,h14,h15,hlt,znF,hx,hA,rlE,hcc,hc2,zUx];refine zc0 r.tu.length (Kap L h0 c0 n r.tu.length) (fun e s=>e= .exit 2/\Rap L h0 c0 n s) ?_ ?_ _ ⟨W,⟨?_,?_,?_,?_,?_,?_,?_⟩,?_⟩ ?_
  .clear h3 h13 h14 h15 HS W s;rintro k s hk ⟨W,⟨h3,h13,h14,h15,h4,h22,h23⟩,HS⟩;have hwk:=zaH k (by omega);obtain⟨d,hWn⟩ :=zSU HS.v (n:=n) (v:=(k,List.range k)) (by rw[Z140 (by omega)]);have hrow:=zTu hWn;have hWd:∀h:n<W.length,W[n]=(d,k,List.range k):=fun h=>(Z8.1 hWn).2
   have gR:=HS.p.r;have gS:=HS.s;have hWl:W.length=L.length:=by have:=congrArg List.length HS.v;simpa [hvl]using this
   have hg:=HS.p.g _ (Z39 hWn);simp only at hg;have n1:¬c0+1=c0:=by omega
   have n2:¬c0=c0+1:=by omega
   have hc:=HS.c;simp[rW,h3,h13,h14,h15,h4,h22,h23,hk];refine zbf ?_;simp[rW,h3,h13,h14,h15,h4,h22,h23,gS,gR,hlt,hWl,hrow,zTA,hWd];have hcc1:s.c+1+1+1+1+1+1+1+1+1+1+1+1+1+1=s.c+14:=by omega
   rw[hcc1];have hg2:GG s.h (c0+2) (s.c+14) k d (List.range k):=hg.up (fun _ _=>rfl) (by omega);refine zSu hg2 (by simp) (by omega) (by omega) ?_;intro r1 hr1 hr2 hr3 hr4 hr5 hr6 hr7;have b:∀x,d.oid=some x->c0+2<=x/\x<s.c:=fun x hx=>hg.oid hx
   have e0:=hr4 c0 (by omega) (fun e=>by have:=b _ e;omega);have e1:=hr4 (c0+1) (by omega) (fun e=>by have:=b _ e;omega);have hdj:zcu (r1.wr.map (·.1)) [c0+1]:=fun x hx hm=>by
    rw[Z31.1 hm]at hx;rcases hr5 _ hx with h8|h8
    .omega
    .have:=b _ h8;omega
   refine⟨hr1,hdj,?_⟩;have hce:=hr2.cells;have hc0:c0<r1.c+1+1:=by omega
   have h8:=HS.p.h8;simp[rW,e0,gR,hce,hWn,hc0,h8,hwk];have hs2:((vA L n).set n (k,List.range k)).set n (k+1,List.range (k+1))=(vA L n).set n (k+1,List.range (k+1)):=by rw[Z199]
   have hv2:(W.set n (r1.d,k+1,List.range k++[k])).map (·.2)=(vA L n).set n (k+1,List.range (k+1)):=by rw[Z116,HS.v,Z136,Z199]
   refine⟨W.set n (r1.d,k+1,List.range k++[k]),⟨?_,?_,?_,?_,?_,?_,?_⟩,⟨?_,?_,hv2,?_,?_⟩⟩
   .simp[rW,h3]
   .simp[rW,h13]
   .simp[rW,h14]
   .simp[rW,h15]
   .simp[rW,h4]
   .simp[rW,h22]
   .simp[rW,hwk]
   .simp[rW];refine HS.p.upd hWn (hr2.up (fun x hx=> ?_) (by omega)) ?_ (fun id h1 h2 h3=> ?_) (fun x hx=> ?_) (by omega)
    .have i0:¬x=c0:=by have:=hr2.oid hx;omega
     simp[TG,i0]
    .rw[<-zTB];simp[TG]
    .have i0:¬id=c0:=by omega
     rw[TG,Z49 i0];exact hr4 id (by omega) h3
    .rcases hr7 x hx with h9|h9
     .exact .inl (by omega)
     .exact .inr h9
   .simp[rW,n1,e1,gS]
   .intro id hid;have i0:¬id=c0:=by omega
    have e2:=hr4 id (by omega) (fun e=>by have:=b _ e;omega);simp[rW,i0,e2];exact HS.f id hid
   .simp[rW]<;>omega
  .clear h3 h13 h14 h15 HS W s;rintro s ⟨W,⟨h3,h13,h14,h15,h4,h22,h23⟩,HS⟩;simp[rW,h22,h23];refine⟨W,⟨by simp[rW,h3],by simp[rW,h13],by simp[rW,h14],by simp[rW,h15]⟩,?_⟩;rw[z4A hx hlt];exact HS.up (fun _ _=>rfl) (Z2 _)
  .simp[rW,h3]
  .simp[rW,h13]
  .simp[rW,h14]
  .simp[rW,h15]
  .simp[rW]
  .simp[rW]
  .simp[rW]
  .have e:(vA L n).set n (0,List.range 0)=vA L n:=by
    have h2:(vA L n)[n]'(by omega)=(0,List.range 0):=by
     have:=hvg;rw[Z0 (by omega)]at this;exact Z53 this
    rw[<-h2,Z95]
   rw[e];refine HS.up (fun id hid=> ?_) (by simp[rW]<;>omega);have i0:¬id=s.c:=by omega
   simp[rW,i0]
  .clear h3 h13 h14 h15 HS W s;rintro x s ⟨rfl,W,⟨h3,h13,h14,h15⟩,HS⟩;simp[rW,h15,hw];exact⟨W,⟨by simp[rW,h3],by simp[rW,h13],by simp[rW,h14],by simp[rW]⟩,HS.up (fun _ _=>rfl) (Z2 _)⟩
 .rintro s ⟨W,⟨h3,h13,h14,h15⟩,HS⟩;simp[rW,h14,h15];exact⟨W,⟨by simp[rW,h3],by simp[rW,h13],by simp[rW,h14],by simp[rW,h15]⟩,HS.up (fun _ _=>rfl) (Z2 _)⟩
 .simp[rW]
 .simp[rW]
 .simp[rW]
 .simp[rW]
 .have e:(List.replicate L.length ((D.f .nils,0,[]):D×Nat×List Nat)).map (fun p=>[p.1])=List.replicate L.length [D.f .nils]:=by simp
  rw[e];simp[rW,n1,n2]
 .intro p hp;rw[List.eq_of_mem_replicate hp];exact .inl ⟨rfl,rfl,rfl⟩
 .intro i j p q _ h1 _ x hx;rw[List.eq_of_mem_replicate (Z39 h1)]at hx;simp[D.oid]at hx
 .simp[rW]
 .simp[vA]
 .intro id hid;have i0:¬id=c0:=by omega
  have i1:¬id=c0+1:=by omega
  simp[rW,i0,i1]
 .simp[rW]<;>omega
 .rintro x s ⟨rfl,W,⟨h3,h13,h14,h15⟩,HS⟩;have e:vA L L.length=L.map vF:=by simp[vA]
  rw[e]at HS;simp[rW,h3,zqW];exact⟨W,HS⟩
def fn30:pr.fn 30=some g30:=by kernel_rfl
def fn63:pr.fn 63=some g63:=by kernel_rfl
def vl_d(l:List Int):(valsF l).d= .f (valsF l):=zeM ..
def znQ(l:List Int):zco (.f (valsF l))=some l.length:=by simp[valsF,zeo]
def zrR(l:List Int)(n:Nat):iaB 3 (.f (valsF l)) n=(l[n]?).map fun v=>D.fptr (Sm.vF v):=by simp[valsF,zgg,Z67]
def zaO:List Int->List Int->Int
 |[],[]=>0
 |[],_::_=> -1
 |_::_,[]=>1
 |a::u,b::v=>if zbq a b≠0 then zbq a b else zaO u v
def ro64(a b:Int)(h:T Ob)(c:Nat):RO pr 64 [.ag [.f (.i .i64 1),.f (.i .i64 a),.f (.s [])],.ag [.f (.i .i64 1),.f (.i .i64 b),.f (.s [])]] h c (.f (.i .i64 (zbq a b))):=by
 refine ziL zgr fn64 rfl ?_;simp only[g64,rU];have q1:=fun k=>zaC (k:=k) (zGI 1 1)
 have q2:=fun k=>zaC (k:=k) (zGJ a b)
 have q3:=fun k=>zaC (k:=k) (zGK [] [])
 have q4:=fun k=>zaC (k:=k) (zGH (zbq 1 1) (zbq a b) (zju [] []))
 rw[(show zbq 1 1=0 from rfl)]at q1 q4;rw[(show zju [] []=0 from rfl)]at q3 q4;have e:(if(0:Int)≠0 then 0 else if zbq a b≠0 then zbq a b else 0)=zbq a b:=by
  simp only[ne_eq,not_true_eq_false,Z63];split
  .rfl
  .rename_i h;simp at h;exact h.symm
 rw[e]at q4;simp[rW,st0,zay];refine zbf ?_;simp[rW,st0,zay,q1,q2,q3,q4,zfd];simp (disch:=omega) only[ziO,zjE]
theorem zey:∀(u v:List Int) (n:Nat),n<=u.length->n<=v.length->(∀i,i<n->u[i]? =v[i]?)->zaO u v=zaO (u.drop n) (v.drop n)
 |_,_,0,_,_,_=>by simp
 |[],_,n+1,h,_,_=>by simp at h
 |_::_,[],n+1,_,h,_=>by simp at h
 |a::u,b::v,n+1,h1,h2,h=>by
  have e:=h 0 (by omega);simp at e;subst e;have:zbq a a=0:=by simp[zbq]
  simp only[zaO,this,List.drop_succ_cons];exact zey u v n (by simpa using h1) (by simpa using h2) fun i hi=>by simpa using h (i+1) (by omega)
def J63(u v:List Int)(c n:Nat)(s:St):Prop:=(s.tm.get 0=some (.f (valsF u))/\s.tm.get 1=some (.f (valsF v))/\s.tm.get 2=some (.f (.fn 64))/\s.tm.get 11=some (.f (valsF u))/\s.tm.get 12=some (.f (.i .i64 u.length))/\s.tm.get 13=some (.f (.i .i64 n)))/\c<=s.c/\s.lw=c/\n<=v.length/\(∀i,i<n->u[i]? =v[i]?)
def R63(u v:List Int)(c:Nat)(e:Ex)(s:St):Prop:=(e= .exit 0/\J63 u v c u.length s)\/(e= .ret/\s.tm.get 6=some (.f (.i .i64 (zaO u v)))/\s.lw=c)
def ro63(u v:List Int)(hu:u.length<1000)(hv:v.length<1000)(h:T Ob)(c:Nat):RO pr 63 [.f (valsF u),.f (valsF v),.f (.fn 64)] h c (.f (.i .i64 (zaO u v))):=by
 refine ziL zgr fn63 rfl ?_;simp only[g63,rU];simp[rW,st0,zay,znQ];refine zfa (fun k s=>∃n:Nat,n<=u.length/\k=u.length - n/\J63 u v c n s) (R63 u v c) ?_ u.length _ ⟨0,Z61 _,rfl,⟨?_,?_,?_,?_,?_,?_⟩,?_,?_,?_,?_⟩ ?_
 .rintro k s ⟨n,hn,rfl,⟨h0,h1,h2,h11,h12,h13⟩,hc,hlw,hnv,hI⟩;have hw:=zaH n (by omega)
  by_cases hlt:n<u.length
  .have hx:u[n]? =some u[n]:=Z0 hlt;generalize hA:u[n]=a at hx
   by_cases hlv:n<v.length
   .have hy:v[n]? =some v[n]:=Z0 hlv;generalize hB:v[n]=b at hy;have hge:¬((v.length:Int)<=(n:Int)):=by omega
    have n1:¬s.c=s.c+1:=by omega
    simp[rW,h0,h1,h2,h11,h12,h13,hlt,zrR,hx,hA,Sm.vF,znQ,hge,hy,hB,n1];refine zkd (ro64 a b _ _) ?_ fun mx=> ?_
    .simp only[rG];simp (disch:=omega) only[ziO,zjE];omega
    have hlw2:(s.h.get 0=s.h.get 0):=rfl
    by_cases hz:zbq a b=0
    .have hz2:(zbq a b != 0)=false:=by simp[hz]
     have hab:a=b:=by
      unfold zbq at hz;split at hz
      .assumption
      .split at hz<;>simp at hz
     simp[rW,h0,h1,h2,h11,h12,h13,hz,hw];refine⟨u.length - (n+1),by omega,n+1,by omega,rfl,⟨?_,?_,?_,?_,?_,?_⟩,?_,?_,by omega,?_⟩
     .simp[rW,h0]
     .simp[rW,h1]
     .simp[rW,h2]
     .simp[rW,h11]
     .simp[rW,h12]
     .simp[rW,hw]
     .simp only[rG];omega
     .simp only[rG];simp (disch:=omega) only[ziO,zjE];omega
     .intro i hi
      by_cases e:i=n
      .subst e;rw[hx,hy,hab]
      .exact hI i (by omega)
    .have hl3:zaO u v=zbq a b:=by
      rw[zey u v n hn hnv hI,Z55 hlt,Z55 hlv,hA,hB];simp[zaO,hz]
     simp[rW,h0,h1,h2,h11,h12,h13,hz];refine .inr ⟨rfl,?_,?_⟩
     .simp[rW,hl3]
     .simp only[rG];simp (disch:=omega) only[ziO,zjE];omega
   .have hge:(v.length:Int)<=(n:Int):=by omega
    have hl3:zaO u v=1:=by
     rw[zey u v n hn hnv hI,Z55 hlt,show List.drop n v=[]from Z24 (by omega)];rfl
    have n1:¬s.c=s.c+1:=by omega
    simp[rW,h0,h1,h2,h11,h12,h13,hlt,zrR,hx,hA,Sm.vF,znQ,hge,n1];refine .inr ⟨rfl,?_,?_⟩
    .simp[rW,hl3]
    .simp only[rG];simp (disch:=omega) only[ziO,zjE];omega
  .have hen:n=u.length:=by omega
   subst hen;simp[rW,h0,h1,h2,h11,h12,h13];exact .inl ⟨rfl,⟨by simp[rW,h0],by simp[rW,h1],by simp[rW,h2],by simp[rW,h11],by simp[rW,h12],by simp[rW,h13]⟩,by simp only[rG];omega,by simp only[rG];exact hlw,hnv,hI⟩
 .simp[rW]
 .simp[rW]
 .simp[rW]
 .simp[rW]
 .simp[rW]
 .simp[rW]
 .simp[rW]
 .simp[rW]
 .simp
 .intro i hi;omega
 .rintro e s (⟨rfl,⟨h0,h1,h2,h11,h12,h13⟩,hc,hlw,hnv,hI⟩ |⟨rfl,h6,hlw⟩)
  .by_cases hl:u.length<v.length
   .have hl3:zaO u v= -1:=by
     rw[zey u v u.length (Z2 _) hnv hI,Z206,Z55 hl];rfl
    simp[rW,h0,h1,h2,znQ,hl,hl3,zfd,hlw]
   .have he:v.length=u.length:=by omega
    have hl3:zaO u v=0:=by
     rw[zey u v u.length (Z2 _) hnv hI,Z206,<-he,Z206];rfl
    simp[rW,h0,h1,h2,znQ,hl,hl3,zfd,hlw]
  .simp[rW,h6,zfd,hlw]
def ans30(u v:List Int)(hu:u.length<1000)(hv:v.length<1000):Ans pr 30 [valsF u,valsF v] (.i .i64 (zaO u v)):=by
 refine zdr fn30 ?_;simp only[g30,rU];simp[rW,st0,zay,vl_d];refine zkd (ro63 u v hu hv _ _) ?_ fun mx=> ?_
 .simp only[rG];omega
 simp[rW]
inductive Opn where
 |var (i:Nat)
 |cst (z:Int)
def Opn.c:Opn->List F
 | .var i=>[.i .i64 i,.i .i64 0,.i .i64 0,.s []]
 | .cst z=>[.i .i64 (-1),.i .i64 1,.i .i64 z,.s []]
def Opn.m:Opn->Nat
 | .var i=>2 ^ i
 | .cst _=>0
structure Pat where
 r:Nat
 ts:List Opn
def Pat.m(p:Pat):Nat:=p.ts.foldl (fun b t=>b|||t.m) 0
structure Cnd where
 op:Int
 l:Opn
 r:Opn
def Cnd.m(k:Cnd):Nat:=k.l.m|||k.r.m
abbrev Asg:=List (Option Int)
def zaQ:Asg->Nat
 |[]=>0
 |o::σ=>(if o.isSome then 1 else 0)+2*zaQ σ
def zaF(σ:Asg):Opn->Option Int
 | .var i=>(σ[i]?).join
 | .cst z=>some z
def opD(ts:List Opn):List (List D):=(ts.map Opn.c).map fun a=>a.map D.f
def paD(W:List (Pat×D)):List (List D):=W.map fun p=>[.f (.i .i64 p.1.r),p.2,.f (.i .u64 p.1.m)]
def cnD(cs:List Cnd):List (List D):=(cs.map fun k=>[F.i .i64 k.op]++k.l.c++k.r.c++[F.i .u64 k.m]).map fun a=>a.map D.f
structure Mx where
 ns:List Str
 M:Nat
 V:Nat
 S:Nat
 dP:D
 WP:List (Pat×D)
 dN:D
 WN:List (Pat×D)
 dC:D
 cs:List Cnd
def ziG(h:T Ob)(lo c:Nat)(d:D)(W:List (Pat×D)):Prop:=Gro h lo c 3 d (paD W)/\∀q∈W,Gro h lo c 4 q.2 (opD q.1.ts)
def zIQ(x:List D):Prop:=∃a b:Int,x=[.f (.i .i64 a),.f (.i .i64 b),.f (.s [])]
def zUD{vs:List (List D)}(h:∀x∈vs,zIQ x):hd8 vs=false:=by
 cases vs with
 |nil=>rfl
 |cons x l=>
  obtain⟨a,b,rfl⟩ :=h x (by simp);rfl
structure MtS(h:T Ob)(c:Nat)(X:Mx)(σ:Asg):Prop where
 m:h.get X.M=some (.arr 7 0 [[.ptr X.S 2 0 0,.f (zak X.ns),X.dP,X.dN,X.dC,.sl X.V 0 X.ns.length 3 X.ns.length true,.f (.i .u64 (zaQ σ))]])
 v:∃vs,h.get X.V=some (.arr 3 0 vs)/\vs.length=X.ns.length/\(∀x∈vs,zIQ x)/\∀(i:Nat) (z:Int),σ[i]? =some (some z)->vs[i]? =some ((Sm.vF z).map D.f)
 n:σ.length=X.ns.length
 n6:σ.length<=6
 P:ziG h (X.V+1) c X.dP X.WP
 N:ziG h (X.V+1) c X.dN X.WN
 C:Gro h (X.V+1) c 10 X.dC (cnD X.cs)
 o:X.S<X.M/\X.M<X.V/\X.V<c
def ziG.up{h h':T Ob}{lo c c':Nat}{d:D}{W:List (Pat×D)}(H:ziG h lo c d W)(hf:∀id,lo<=id->id<c->h'.get id=h.get id)(hc:c<=c'):ziG h' lo c' d W:=
 ⟨zaV H.1 hc hf,fun q hq=>zaV (H.2 q hq) hc hf⟩
def MtS.up{h h':T Ob}{c c':Nat}{X:Mx}{σ:Asg}(H:MtS h c X σ)(hf:∀id,id<c->h'.get id=h.get id)(hc:c<=c'):MtS h' c' X σ:=by
 have o:=H.o;obtain⟨vs,h1,h2,h3,h4⟩ :=H.v;exact⟨by rw[hf _ (by omega)];exact H.m,⟨vs,by rw[hf _ (by omega)];exact h1,h2,h3,h4⟩,H.n,H.n6,H.P.up (fun id _ h=>hf id h) hc,H.N.up (fun id _ h=>hf id h) hc,zaV H.C hc (fun id _ h=>hf id h),by omega⟩
def Fr(X:Mx)(c:Nat)(h h':T Ob):Prop:=∀id,id<c->id≠X.M->id≠X.V->h'.get id=h.get id
def Fr.refl(X:Mx)(c:Nat)(h:T Ob):Fr X c h h:=fun _ _ _ _=>rfl
def Fr.trans{X:Mx}{c c':Nat}{h h' h2:T Ob}(a:Fr X c h h')(b:Fr X c' h' h2)(hc:c<=c'):Fr X c h h2:=fun id h1 h2' h3=>(b id (by omega) h2' h3).trans (a id h1 h2' h3)
theorem MtS.wr{h h':T Ob}{c c':Nat}{X:Mx}{σ σ':Asg}(H:MtS h c X σ)(hf:Fr X c h h')(hc:c<=c')
  (hm:h'.get X.M=some (.arr 7 0 [[.ptr X.S 2 0 0,.f (zak X.ns),X.dP,X.dN,X.dC,.sl X.V 0 X.ns.length 3 X.ns.length true,.f (.i .u64 (zaQ σ'))]]))
  (hv:∃vs,h'.get X.V=some (.arr 3 0 vs)/\vs.length=X.ns.length/\(∀x∈vs,zIQ x)/\∀(i:Nat) (z:Int),σ'[i]? =some (some z)->vs[i]? =some ((Sm.vF z).map D.f))(hn:σ'.length=σ.length):MtS h' c' X σ':=by
 have o:=H.o;have key:∀id,X.V+1<=id->id<c->h'.get id=h.get id:=fun id h1 h2=>hf id h2 (by omega) (by omega)
 exact⟨hm,hv,hn.trans H.n,hn▸H.n6,H.P.up key hc,H.N.up key hc,zaV H.C hc key,by omega⟩
def Same(d0:D)(h:T Ob)(c:Nat)(d:D)(h':T Ob)(_:Nat):Prop:=d=d0/\∀id,id<c->h'.get id=h.get id
def Same.rfl'(d0:D)(h:T Ob)(c c':Nat):Same d0 h c d0 h c':=⟨rfl,fun _ _=>rfl⟩
def fn256:pr.fn 256=some zDK:=by kernel_rfl
def vRw(v:List Int):List (List D):=(v.map Sm.vF).map fun a=>a.map D.f
def zUB(h:T Ob)(k:Nat){id ro:Nat}{v:List Int}(hg:h.get id=some (.arr 3 ro (vRw v)))(hv:v≠[]):frz h.get (k+2) (.sl id 0 v.length 3 v.length true)=some (valsF v,[id]):=by
 have e:((vRw v).drop 0).take v.length=vRw v:=by
  rw[Z34,Z11 (by simp[vRw])]
 have hn:valsF v= .sl 3 (v.map Sm.vF):=by
  cases v with
  |nil=>exact absurd rfl hv
  |cons a v=>rfl
 have h2:=zok h.get k (v.map Sm.vF);rw[zfw,hg];simp only[om,Z46,fzS];rw[Z51 (by simp[vRw]),e];unfold vRw;rw[h2,hn];rfl
def HasP(d0:D)(v:List Int)(id:Nat)(h:T Ob)(c:Nat)(d:D)(h':T Ob)(_:Nat):Prop:=d=d0/\(∃ro',h'.get id=some (.arr 3 ro' (vRw v)))/\∀x,x<c->x≠id->h'.get x=h.get x
def zsv(v:List Int):(vRw v).length=v.length:=by simp[vRw]
theorem zHf{h:T Ob}{c C id ro k:Nat}{ts:List (List Int×List F)}{tv v:List Int}{p:List F}(hC:h.get C=some (.arr 1 0 [[.f (zdf ts)]]))(hg:h.get id=some (.arr 3 ro (vRw v)))(hv:v≠[])(hvl:v.length<1000)(htl:tv.length<1000)
  (ht:ts[k]? =some (tv,p))(hid:id<c)(hCi:C≠id):Eff pr 256 [.f (.i .i64 k),.sl id 0 v.length 3 v.length true,.ptr C 1 0 0] h c (HasP (.f (.i .i64 (zaO tv v))) v id h c):=by
 refine zyt zgr fn256 ?_;have q1:=fun k=>zaC (k:=k) (ans30 tv v htl hvl)
 have hz:=fun k=>zUB h k hg hv
 simp only[zDK,rU];simp[rW,st0,zay,hC,zIs,ht,tuF,hz,q1,hg,zsv,zqW]
 by_cases hr:v.length<=ro
 .simp[rW,hr];exact⟨rfl,⟨ro,hg⟩,fun _ _ _=>rfl⟩
 .have hro:¬(v.length<=ro):=hr;simp[rW,hro,hid];refine⟨⟨rfl,⟨v.length,by simp[rW]⟩,fun x _ hx=>by simp[rW,hx]⟩,fun _=>⟨rfl,⟨ro,hg⟩,fun _ _ _=>rfl⟩⟩
def tb2(op:BinOp)(f:Nat->Nat->Nat):Bool:=(List.range 64).all fun a=>(List.range 64).all fun b=>match zaS op (.i .u64 (a:Nat)) (.i .u64 (b:Nat))with
 |some (.i .u64 z)=>z==(f a b:Nat)
 |_=>false
def zzZ{op:BinOp}{f:Nat->Nat->Nat}(h:tb2 op f=true){a b:Nat}(ha:a<64)(hb:b<64):zaS op (.i .u64 (a:Nat)) (.i .u64 (b:Nat))=some (.i .u64 (f a b:Nat)):=by
 have h1:=Z50.1 (Z50.1 h a (by simpa using ha)) b (by simpa using hb);split at h1
 .rename_i z e;rw[e,eq_of_beq h1]
 .cases h1
def zcX(a b:Nat):Nat:=Nat.land a (63 - b)
def t_an:tb2 .andNot zcX=true:=by kernel_rfl
def t_and:tb2 .and Nat.land=true:=by kernel_rfl
def t_or:tb2 .or Nat.lor=true:=by kernel_rfl
def zkj{a b:Nat}(ha:a<64)(hb:b<64):=zzZ t_an ha hb
def zC3{a b:Nat}(ha:a<64)(hb:b<64):=zzZ t_and ha hb
def zm1{a b:Nat}(ha:a<64)(hb:b<64):=zzZ t_or ha hb
theorem t_shl:((List.range 7).all fun i=>match zaS .shl (.i .u64 1) (.i .i64 (i:Nat))with
 |some (.i .u64 z)=>z==(2 ^ i:Nat)
 |_=>false)=true:=by kernel_rfl
def zjT{i:Nat}(hi:i<7):zaS .shl (.i .u64 1) (.i .i64 (i:Nat))=some (.i .u64 ((2 ^ i:Nat):Int)):=by
 have h1:=Z50.1 t_shl i (by simpa using hi);split at h1
 .rename_i z e;rw[e,eq_of_beq h1]
 .cases h1
theorem t_shr:((List.range 64).all fun a=>(List.range 6).all fun i=>match zaS .shr (.i .u64 (a:Nat)) (.i .i64 (i:Nat))with
 |some (.i .u64 z)=>z==(a>>>i:Nat)&&(match zaS .and (.i .u64 z) (.i .u64 1)with
  |some (.i .u64 y)=>y==(if a.testBit i then 1 else 0)
  |_=>false)
 |_=>false)=true:=by kernel_rfl
def zO9{a i:Nat}(ha:a<64)(hi:i<6):zaS .shr (.i .u64 (a:Nat)) (.i .i64 (i:Nat))=some (.i .u64 ((a>>>i:Nat):Int))/\zaS .and (.i .u64 ((a>>>i:Nat):Int)) (.i .u64 1)=some (.i .u64 (if a.testBit i then 1 else 0)):=by
 have h1:=Z50.1 (Z50.1 t_shr a (by simpa using ha)) i (by simpa using hi);split at h1
 .rename_i z e;simp only[Z14]at h1;obtain⟨h2,h3⟩ :=h1;have h2:=eq_of_beq h2;subst h2;refine⟨e,?_⟩;split at h3
  .rename_i y e2;rw[e2,eq_of_beq h3]
  .cases h3
 .cases h1
theorem t_low:((List.range 64).all fun a=>a==0||match zaS .sub (.i .u64 (a:Nat)) (.i .u64 1)with
 |some (.i .u64 z)=>(z==(a - 1:Nat))&&(match zaS .and (.i .u64 (a:Nat)) (.i .u64 z)with
  |some (.i .u64 y)=>y==(Nat.land a (a - 1):Nat)
  |_=>false)
 |_=>false)=true:=by kernel_rfl
def zC4{a:Nat}(ha:a<64)(h0:a≠0):zaS .sub (.i .u64 (a:Nat)) (.i .u64 1)=some (.i .u64 ((a - 1:Nat):Int))/\zaS .and (.i .u64 (a:Nat)) (.i .u64 ((a - 1:Nat):Int))=some (.i .u64 ((Nat.land a (a - 1):Nat):Int)):=by
 have h1:=Z50.1 t_low a (by simpa using ha);have hz:(a==0)=false:=by simpa using h0
 rw[hz,Bool.false_or]at h1;split at h1
 .rename_i z e;simp only[Z14]at h1;obtain⟨h2,h3⟩ :=h1;have h2:=eq_of_beq h2;subst h2;refine⟨e,?_⟩;split at h3
  .rename_i y e2;rw[e2,eq_of_beq h3]
  .cases h3
 .cases h1
def zhh(m:Nat):List Nat:=(List.range 6).filter fun i=>m.testBit i
def z4f:((List.range 64).all fun a=>a==0||(zhh a==(zhh a).headD 0::zhh (Nat.land a (a - 1))))=true:=by kernel_rfl
def tz(a:Nat):Nat:=(zhh a).headD 0
def zm3{a:Nat}(ha:a<64)(h0:a≠0):zhh a=tz a::zhh (Nat.land a (a - 1)):=by
 have h1:=Z50.1 z4f a (by simpa using ha);have hz:(a==0)=false:=by simpa using h0
 rw[hz,Bool.false_or]at h1;exact eq_of_beq h1
def zhA{m i:Nat}:i∈zhh m↔i<6/\m.testBit i=true:=by simp[zhh]
def zii{a b i:Nat}(ha:a<64)(hb:b<64):(zcX a b).testBit i=(a.testBit i&& !b.testBit i):=by
 unfold zcX;have h:=Nat.testBit_two_pow_sub_succ (n:=6) hb i;have e:2 ^ 6 - (b+1)=63 - b:=by omega
 rw[e]at h;show(a&&& (63 - b)).testBit i=_;rw[Nat.testBit_and,h]
 by_cases hi:i<6
 .simp[hi]
 .have h6:2 ^ 6<=2 ^ i:=Z113 (by decide) (by omega);have:a.testBit i=false:=Nat.testBit_lt_two_pow (by omega);simp[this]
def zlt{a b:Nat}(ha:a<64):zcX a b<64:=Z188 Nat.and_le_left ha
def zAs{a b:Nat}(ha:a<64)(hb:b<64):zcX a b=0↔∀i,a.testBit i=true->b.testBit i=true:=by
 constructor
 .intro h i h1;have:=zii (i:=i) ha hb;rw[h,Nat.zero_testBit,h1,Z103]at this;simpa using this.symm
 .intro h;refine Nat.eq_of_testBit_eq fun i=> ?_
  rw[zii ha hb,Nat.zero_testBit];cases h1:a.testBit i with
  |false=>rfl
  |true=>simp[h i h1]
def u_eq(a b:Int):zaS .eql (.i .u64 a) (.i .u64 b)=some (.b (a==b)):=rfl
def zhv(a b:Int):zaS .neq (.i .u64 a) (.i .u64 b)=some (.b (!(a==b))):=rfl
end Go.Proofs.YthcehnaehljnfaaGreatDoor
end
