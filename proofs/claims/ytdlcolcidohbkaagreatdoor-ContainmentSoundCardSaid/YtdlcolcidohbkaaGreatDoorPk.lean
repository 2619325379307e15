/- Small functions, the form of data (ported from seat17b). -/
import Derived.Test.YtdlcolcidohbkaaGreatDoorHb
import Derived.Test.YtdlcolcidohbkaaGreatDoorAll
import Derived.Test.YtdlcolcidohbkaaGreatDoorVe
import Derived.KernelRfl
import Derived.IntWalk
import Derived.Test.YtdlcolcidohbkaaGreatDoorHa
set_option linter.all false
set_option maxRecDepth 100000
set_option maxHeartbeats 4000000
section
namespace Go.Proofs.YtdlcolcidohbkaaGreatDoor
open Go Go.Vse Go.Vse.Sm
def fn66:pr.fn 66=some g66:=by kernel_rfl
def fn67:pr.fn 67=some g67:=by kernel_rfl
def fn126:pr.fn 126=some zzV:=by kernel_rfl
def fn127:pr.fn 127=some zzY:=by kernel_rfl
def fn128:pr.fn 128=some g128:=by kernel_rfl
def fn129:pr.fn 129=some zzZ:=by kernel_rfl
def fn198:pr.fn 198=some zAa:=by kernel_rfl
def fn199:pr.fn 199=some zAb:=by kernel_rfl
def zkF(a b:Str):Int:=if Go.Op.bytesLess a b=true then -1 else if a=b then 0 else 1
def zaW(a b:Int):Int:=if a=b then 0 else if a<b then -1 else 1
def ans67(a b:Int):Ans pr 67 [.ag (vF a),.ag (vF b)] (.i .i64 (zaW a b)):=by
 refine zcf fn67 ?_;simp only[g67,rU];unfold zaW;have hl:Go.Op.bytesLess [] []=false:=rfl
 by_cases h1:a=b
 .subst h1;simp -implicitDefEqProofs [rR,st0,zak,vF,hl]
 .by_cases h2:a<b
  .simp -implicitDefEqProofs [rR,st0,zak,vF,hl,h1,h2]
  .simp -implicitDefEqProofs [rR,st0,zak,vF,hl,h1,h2]
def tv:Trm->Str
 | .var s=>s
 | .cst _=>[]
def tk:Trm->Int
 | .var _=>0
 | .cst _=>1
def tn:Trm->Int
 | .var _=>0
 | .cst n=>n
def tmE(t:Trm):tmF t=[.s (tv t),.i .i64 (tk t),.i .i64 (tn t),.s []]:=by cases t<;>rfl
def zgC(l:List Trm):F:=slc 4 (l.map tmF)
def wrap_i64(n:Int)(h:0<=n)(h2:n<9223372036854775808):IntKind.i64.wrap n=n:=IntWalk.i64_in n (by omega)
def zao(n:Nat)(h:n<1000000):IntKind.i64.wrap ((n:Int)+1)=((n+1:Nat):Int):=wrap_i64 _ (by omega) (by omega)
def zaL(l:List Str):(zah l).d= .f (zah l):=zeh ..
def zbz(l:List Str):zci (.f (zah l))=some l.length:=by simp[zah,zd0]
def zdf(l:List Str)(n:Nat):iaB 1 (.f (zah l)) n=(l[n]?).map fun s=>D.fptr [.s s]:=by simp[zah,zeY,Z67]
def zq9(l:List Trm):(zgC l).d= .f (zgC l):=zeh ..
def zxK(l:List Trm):zci (.f (zgC l))=some l.length:=by simp[zgC,zd0]
def zra(l:List Trm)(n:Nat):iaB 4 (.f (zgC l)) n=(l[n]?).map fun t=>D.fptr (tmF t):=by simp[zgC,zeY,Z67]
def zrA(a b:Int):(zaW a b<0)=(a<b):=by
 unfold zaW
 by_cases h:a=b
 .simp[h]
 .simp only[h,Z63];split<;>simp_all
def zc7(c:CQ):F:=csF c
def zcN(c:CQ):F:=Sm.asF c
def zeb(c:CQ):(zc7 c).d= .f (zc7 c):=by
 unfold zc7 csF;split
 .rfl
 .exact zeh ..
def zok(c:CQ):zci (.f (zc7 c))=some c.cs.length:=by
 unfold zc7 csF;split
 .rename_i h;rw[h.2];rfl
 .simp[zd0]
def zBL(c:CQ)(n:Nat):iaB 9 (.f (zc7 c)) n=(c.cs[n]?).map fun t=>D.fptr (cmF t):=by
 unfold zc7 csF;split
 .rename_i h;rw[h.2];rfl
 .simp[zeY,Z67]
def zd8(c:CQ):(zcN c).d= .f (zcN c):=by
 unfold zcN Sm.asF;split
 .rfl
 .exact zeh ..
def zhn(c:CQ):zci (.f (zcN c))=some c.as.length:=by
 unfold zcN Sm.asF;split
 .rename_i h;rw[h.2];rfl
 .simp[zd0]
def zlJ(c:CQ)(n:Nat):iaB 3 (.f (zcN c)) n=(c.as[n]?).map fun t=>D.fptr (atF t):=by
 unfold zcN Sm.asF;split
 .rename_i h;rw[h.2];rfl
 .simp[zeY,Z67]
def cqE(c:CQ):cqF c=[zcN c,zc7 c]:=rfl
def atE(a:Atm):atF a=[.s a.r,.b a.neg,zgC a.ts]:=rfl
def zgQ:zpR pr:=zut ziB
def za7(l:List Str):List (List D):=l.map fun s=>[D.f (.s s)]
def zgp(l:List Str):(za7 l).length=l.length:=by simp[za7]
def zsP(l:List Str):(za7 l).take l.length=za7 l:=by rw[<-zgp l,Z7]
def zv1(h:Nat->Option Ob)(k:Nat)(l:List Str):zaU (frz h (k+1)) (za7 l)=some (l.map fun s=>[F.s s],[]):=zGC h k F.s l
def zv2{l:List Str}(h:l≠[]):F.sl 1 (l.map fun s=>[F.s s])=zah l:=zk4 (by simpa using h)
def zIJ{h:T Ob}{lo c es k:Nat}{d:D}{els:List (List D)}{L:List (List F)}(hg:Gro h lo c es d els)(hf:zaU (frz h.get k) els=some (L,[]))(hL:L=[]↔els=[]):∃rd,frz h.get (k+1) d=some (slc es L,rd):=by
 rcases hg with⟨rfl,rfl⟩ |⟨id,ro,rfl,he,ho,hr,hl,hc⟩
 .rw[hL.2 rfl];exact⟨[],rfl⟩
 .refine⟨[id],?_⟩;rw[zfw,ho,zeu,zjW];simp only[true_and,Z25,Z2,Z60,Z34,Z7,hf,zeu];rw[zk4 (fun e=>he (hL.1 e))]
def zh7{h:T Ob}{lo c es:Nat}{d:D}{els:List (List D)}(hg:Gro h lo c es d els){i:Nat}(hi:i<lo):d.oid≠some i:=by
 rcases hg with⟨rfl,_⟩ |⟨id,ro,rfl,_,_,_,hl,_⟩
 .simp[D.oid]
 .simp[D.oid];omega
def qsF(l:List CQ):F:=slc 2 (l.map cqF)
def ze8(l:List CQ):(qsF l).d= .f (qsF l):=zeh ..
def zcH(l:List CQ):zci (.f (qsF l))=some l.length:=by simp[qsF,zd0]
def zeA(l:List CQ)(n:Nat):iaB 2 (.f (qsF l)) n=(l[n]?).map fun c=>D.fptr (cqF c):=by simp[qsF,zeY,Z67]
def zPW{f:Nat}{args:List D}{h:T Ob}{c:Nat}{x:F}(h1:pr.fn f=none)(h2:pr.ext f args=some x):RO pr f args h c x.d:=by
 refine⟨c,Z2 _,1,fun n hn=> ?_⟩;obtain⟨m,rfl⟩ :∃m,n=m+1:=⟨n - 1,by omega⟩
 simp only[zbW,h1,h2]
theorem zwG:∀a b:Str,Go.Lib.compareBytes a b=zkF a b
 |[],[]=>rfl
 |[],b::l=>by simp[Go.Lib.compareBytes,zkF,Go.Op.bytesLess]
 |a::l,[]=>by simp[Go.Lib.compareBytes,zkF,Go.Op.bytesLess]
 |a::l,b::m=>by
  have ih:=zwG l m;unfold Go.Lib.compareBytes zkF Go.Op.bytesLess
  by_cases h1:a<b
  .simp[h1]
  .by_cases h2:b<a
   .have h3:a≠b:=fun e=>by subst e;exact h1 h2
    simp[h1,h2,h3]
   .have h3:a=b:=UInt8.le_antisymm (UInt8.not_lt.1 h2) (UInt8.not_lt.1 h1);subst h3;simp only[h1,Z63,ih,zkF];simp
def ro200(a b:Str)(h:T Ob)(c:Nat):RO pr 200 [.f (.s a),.f (.s b)] h c (.f (.i .i64 (zkF a b))):=by
 have:=zPW (h:=h) (c:=c) (f:=200) (args:=[.f (.s a),.f (.s b)]) (x:= .i .i64 (Go.Lib.compareBytes a b)) (by kernel_rfl) rfl;rw[zwG]at this;exact this
def zBv(a:Int):Ans pr 198 [.i .i64 a] (.b false):=by
 refine zcf fn198 ?_;simp only[zAa,rU];simp[rW,st0,zak]
def zBx(a:Int):Ans pr 199 [.i .i64 a] (.b false):=by
 refine zcf fn199 ?_;simp only[zAb,rU];simp[rW,st0,zak]
def zBr(a b:Int):Ans pr 127 [.i .i64 a,.i .i64 b] (.i .i64 (zaW a b)):=by
 refine zcf fn127 ?_;simp only[zzY,rU];have q1:=fun k=>zad (k:=k) (zBv a)
 have q2:=fun k=>zad (k:=k) (zBv b)
 unfold zaW
 by_cases h1:a<b
 .have h2:¬a=b:=by omega
  simp[rW,st0,zak,q1,q2,h1,h2]
 .by_cases h2:b<a
  .have h3:¬a=b:=by omega
   simp[rW,st0,zak,q1,q2,h1,h2,h3]
  .have h3:a=b:=by omega
   simp[rW,st0,zak,q1,q2,h1,h2,h3]
def zBs(a b:Int):Ans pr 128 [.i .i64 a,.i .i64 b] (.i .i64 (zaW a b)):=by
 refine zcf fn128 ?_;simp only[g128,rU];have q1:=fun k=>zad (k:=k) (zBx a)
 have q2:=fun k=>zad (k:=k) (zBx b)
 unfold zaW
 by_cases h1:a<b
 .have h2:¬a=b:=by omega
  simp[rW,st0,zak,q1,q2,h1,h2]
 .by_cases h2:b<a
  .have h3:¬a=b:=by omega
   simp[rW,st0,zak,q1,q2,h1,h2,h3]
  .have h3:a=b:=by omega
   simp[rW,st0,zak,q1,q2,h1,h2,h3]
def zBu(a b:Str):Ans pr 129 [.s a,.s b] (.i .i64 (zkF a b)):=by
 refine zcf fn129 ?_;simp only[zzZ,rU];simp[rW,st0,zak];refine zk6 (ro200 a b _ _) ?_ ?_
 .simp only[rG];omega
 .intro mx;simp[rW,st0,zak]
def zBq(a b c:Int):Ans pr 126 [.sl 1 [[.i .i64 a],[.i .i64 b],[.i .i64 c]]] (.i .i64 (if a≠0 then a else if b≠0 then b else c)):=by
 refine zcf fn126 ?_;simp only[zzV,rU];have w1:IntKind.i64.wrap 1=1:=rfl;have w2:IntKind.i64.wrap 2=2:=rfl;have w3:IntKind.i64.wrap 3=3:=rfl;simp[rW,st0,zak];refine round ?_
 by_cases ha:a=0
 .by_cases hb:b=0
  .simp[rW,ha,hb,w1];refine round ?_;simp[rW,ha,hb,w2];refine round ?_
   by_cases hc:c=0
   .simp[rW,hc,w3];refine round ?_;simp[rW,hc]
   .simp[rW,hc]
  .simp[rW,ha,hb,w1];refine round ?_;simp[rW,hb]
 .simp[rW,ha]
def zGc(a b:Int):Ans pr 66 [.ag (vF a),.ag (vF b)] (.i .i64 (zaW a b)):=by
 refine zcf fn66 ?_;simp only[g66,rU];have q1:=fun k=>zad (k:=k) (zBr 1 1)
 have q2:=fun k=>zad (k:=k) (zBs a b)
 have q3:=fun k=>zad (k:=k) (zBu [] [])
 have q4:=fun k=>zad (k:=k) (zBq (zaW 1 1) (zaW a b) (zkF [] []))
 rw[(show zaW 1 1=0 from rfl)]at q1 q4;rw[(show zkF [] []=0 from rfl)]at q3 q4;have e:(if(0:Int)≠0 then 0 else if zaW a b≠0 then zaW a b else 0)=zaW a b:=by
  simp only[ne_eq,not_true_eq_false,Z63];split
  .rfl
  .rename_i h;simp at h;exact h.symm
 rw[e]at q4;simp[rW,st0,zak,vF];refine zaw ?_;simp[rW,st0,zak,vF,q1,q2,q3,q4]
def iE(l:List Nat):List (List D):=l.map fun n:Nat=>[D.f (.i .i64 (n:Int))]
def tmD(u:Trm):List D:=[.f (.s (tv u)),.f (.i .i64 (tk u)),.f (.i .i64 (tn u)),.f (.s [])]
def zid(v:Str):tv (.var v)=v:=rfl
def zib(v:Str):tk (.var v)=0:=rfl
def zic(v:Str):tn (.var v)=0:=rfl
def ziJ(n:Int):tv (.cst n)=[]:=rfl
def ziG(n:Int):tk (.cst n)=1:=rfl
def ziI(n:Int):tn (.cst n)=n:=rfl
theorem zfl{h:T Ob}{lo c es byt:Nat}{d:D}{els new:List (List D)}{rd:List Nat}{K:Rs->Prop}(hg:Gro h lo c es d els)(hlo:lo<=c)(hlen:els.length+new.length<=1000000)(hb:byt<=1000)
  (hK:∀r:Rs,zas r.c r.wr=true->Gro (wrT h r.wr) lo r.c es r.d (els++new)->c<=r.c->(∀id,id<c->d.oid≠some id->(wrT h r.wr).get id=h.get id)->(∀x,r.d.oid=some x->x=c\/d.oid=some x)->K r):oB (za3 es byt h.get c d new rd) K:=by
 obtain⟨r,h1,h2,h3,h4,h5,h6,h7,h8⟩ :=zot (byt:=byt) (rd:=rd) hg hlo hlen hb;rw[h1];exact hK r h2 h3 h4 h5 h8
def zbq{h:T Ob}{lo c es:Nat}{d:D}{els:List (List D)}(hg:Gro h lo c es d els){x:Nat}(hx:d.oid=some x):lo<=x/\x<c:=by
 rcases hg with⟨rfl,_⟩ |⟨id,ro,rfl,h2,h3,h4,h5,h6⟩
 .simp[D.oid]at hx
 .simp[D.oid]at hx;omega
def zeD(l:List CQ):List (List D):=l.map fun c=>[D.f (zcN c),D.f (zc7 c)]
def zda(l:List CQ):(zeD l).length=l.length:=by simp[zeD]
def zBM(l:List CQ)(c:CQ):zeD (l++[c])=zeD l++[[D.f (zcN c),D.f (zc7 c)]]:=by simp[zeD]
def zg5(h:Nat->Option Ob)(k:Nat)(l:List CQ):zaU (frz h (k+1)) (zeD l)=some (l.map cqF,[]):=by
 have:=zmC h k (l.map cqF);rw[Z33]at this;exact this
def Own(h:T Ob)(lo c:Nat)(d:D)(X:F):Prop:=(d= .f X\/∃a b e f g x,d= .sl a b e f g x)/\d.cells=some [d]/\(∀x,d.oid=some x->lo<=x/\x<c)/\∀h':T Ob,(∀x,d.oid=some x->h'.get x=h.get x)->∀k,∃rd,frz h'.get (k+2) d=some (X,rd)
def zJx{h:T Ob}{lo c es:Nat}{d:D}{rows:List (List F)}(hg:Gro h lo c es d (rows.map fun a=>a.map D.f)):Own h lo c d (slc es rows):=by
 refine⟨?_,zbY hg,fun x hx=>zbq hg hx,fun h' hh k=> ?_⟩
 .rcases hg with⟨rfl,hr⟩ |⟨id,ro,rfl,hn,hg,hr,hl,hc⟩
  .have:rows=[]:=by simpa using hr
   subst this;exact .inl rfl
  .exact .inr ⟨_,_,_,_,_,_,rfl⟩
 rcases hg with⟨rfl,hr⟩ |⟨id,ro,rfl,hn,hg,hr,hl,hc⟩
 .have:rows=[]:=by simpa using hr
  subst this;exact⟨[],rfl⟩
 .refine⟨[id],?_⟩;have h1:=hh id rfl;rw[zfw,h1,hg,zeu,zjW];simp only[true_and,Z25,Z2,Z60,Z34,Z7,zmC h'.get k rows,zeu];rw[zk4 (fun e=>hn (by rw[e];rfl))]
def GZ(h:T Ob)(d:D):Prop:=∀id es ro els,d.oid=some id->h.get id=some (.arr es ro els)->ro=0
theorem zIL{h:T Ob}{lo c es byt:Nat}{d:D}{els new:List (List D)}{rd:List Nat}{K:Rs->Prop}(hg:Gro h lo c es d els)(hz:GZ h d)(hlo:lo<=c)(hlen:els.length+new.length<=1000000)(hb:byt<=1000)
  (hK:∀r:Rs,zas r.c r.wr=true->Gro (wrT h r.wr) lo r.c es r.d (els++new)->c<=r.c->(∀id,id<c->d.oid≠some id->(wrT h r.wr).get id=h.get id)->(∀x,r.d.oid=some x->x=c\/d.oid=some x)->GZ (wrT h r.wr) r.d->K r):oB (za3 es byt h.get c d new rd) K:=by
 obtain⟨r,h1,h2,h3,h4,h5,h6,h7,h8⟩ :=zot (byt:=byt) (rd:=rd) hg hlo hlen hb;rw[h1];refine hK r h2 h3 h4 h5 h8 ?_;have hm:∀n,n<=1000000->n<=zav:=fun n hn=>by have:=zcL (n:=n) (by omega);simpa using this
 have hmb:∀n,n<=1000000->n*byt<=zav:=fun n hn=>by
  have:n*byt<=1000000*1000:=Z144 hn hb;have h2:=zcL (n:=n*byt) (by omega);simpa using h2
 by_cases h0:new.length=0
 .have hn:new=[]:=Z17.1 h0;subst hn;rcases hg with⟨rfl,rfl⟩ |⟨id,ro,rfl,he,ho,hr,hl,hc⟩
  .rw[zhm]at h1;simp at h1;rw[<-h1];intro i es ro els hi;simp[D.oid]at hi
  .rw[zkN]at h1;simp at h1;rw[<-h1];exact hz
 .rcases hg with⟨rfl,rfl⟩ |⟨id,ro,rfl,he,ho,hr,hl,hc⟩
  .rw[zhm,Z49 h0,Z51 ⟨hm _ (by simpa using hlen),hmb _ (by simpa using hlen)⟩]at h1;cases h1;intro i es ro els hi hg;simp only[D.oid,Z45]at hi;subst hi;simp[wrT,TG]at hg;exact hg.2.1.symm
  .have e:za3 es byt h.get c (.sl id 0 els.length es els.length false) new rd=some {d:= .sl c 0 (els.length+new.length) es (els.length+new.length) false,rd:=id::rd,wr:=[(id,none),(c,some (.arr es ro (els++new)))],c:=c+1}:=by
    rw[zkN,Z49 h0,ho];have h1:¬(0+els.length+new.length<=els.length):=by omega
    have h2:=hm (els.length+new.length) hlen;have h3:=hmb (els.length+new.length) hlen;simp[om,apO,h1,h2,h3,hr];omega
   rw[e]at h1;cases h1;have h0':=hz id es ro els rfl ho;intro i es ro els hi hg;simp only[D.oid,Z45]at hi;subst hi;simp[wrT,TG]at hg;rw[<-hg.2.1];exact h0'
def Own.up{h h':T Ob}{lo lo' c c':Nat}{d:D}{X:F}(H:Own h lo c d X)(hf:∀x,d.oid=some x->h'.get x=h.get x)(hl:lo'<=lo)(hc:c<=c'):Own h' lo' c' d X:=
 ⟨H.1,H.2.1,fun x hx=>by have:=H.2.2.1 x hx;omega,fun h2 hh=>H.2.2.2 h2 fun x hx=>(hh x hx).trans (hf x hx)⟩
def exFr:zDp pr:=fun f args h c q hq=>by
 have hq:zpc f args h c=some q:=hq;unfold zpc at hq;split at hq
 .rename_i hx;cases hq;obtain⟨_,_,L,hd,cs,R,_,_,_,_,e⟩ :=Classical.choose_spec hx;rw[e];exact fun id h1 _=>absurd h1 (Nat.not_lt_zero _)
 .cases hq
def kps:Kps pr:=zPm ziB exFr
def zbt(l:List Rl):F:=slc 4 (l.map rlF)
def ziZ(l:List Rl):(zbt l).d= .f (zbt l):=zeh ..
def zrT(l:List Rl):zci (.f (zbt l))=some l.length:=by simp[zbt,zd0]
def znU(l:List Rl)(n:Nat):iaB 4 (.f (zbt l)) n=(l[n]?).map fun r=>D.fptr (rlF r):=by simp[zbt,zeY,Z67]
def zbO(l:List (List Int×List F)):F:=slc 4 (l.map tuF)
def zoG(l:List (List Int×List F)):(zbO l).d= .f (zbO l):=zeh ..
def zxM(l:List (List Int×List F)):zci (.f (zbO l))=some l.length:=by simp[zbO,zd0]
def zkI(l:List (List Int×List F))(n:Nat):iaB 4 (.f (zbO l)) n=(l[n]?).map fun t=>D.fptr (tuF t):=by simp[zbO,zeY,Z67]
def rlE(r:Rl):rlF r=[.s r.nm,.b r.ce,r.co,zbO r.tu]:=rfl
end Go.Proofs.YtdlcolcidohbkaaGreatDoor
end
