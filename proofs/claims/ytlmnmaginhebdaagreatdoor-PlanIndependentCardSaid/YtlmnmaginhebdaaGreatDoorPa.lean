/- Small functions, the form of data (ported from seat17b). -/
import Derived.Test.YtlmnmaginhebdaaGreatDoorHb
import Derived.Test.YtlmnmaginhebdaaGreatDoorAll
import Derived.Test.YtlmnmaginhebdaaGreatDoorVe
import Derived.KernelRfl
import Derived.IntWalk
set_option linter.all false
set_option maxRecDepth 100000
set_option maxHeartbeats 4000000
section
namespace Go.Proofs.YtlmnmaginhebdaaGreatDoor
open Go Go.Vse Go.Vse.Sm
def fn37:pr.fn 37=some g37:=by kernel_rfl
def fn41:pr.fn 41=some g41:=by kernel_rfl
def fn73:pr.fn 73=some g73:=by kernel_rfl
def fn74:pr.fn 74=some g74:=by kernel_rfl
def fn75:pr.fn 75=some g75:=by kernel_rfl
def fn76:pr.fn 76=some g76:=by kernel_rfl
def fn138:pr.fn 138=some zDf:=by kernel_rfl
def fn139:pr.fn 139=some zDh:=by kernel_rfl
def zov(a b:Str):Int:=if Go.Op.bytesLess a b=true then -1 else if a=b then 0 else 1
def zdK(a b:Int):Int:=if a=b then 0 else if a<b then -1 else 1
def ans41(a b:Int):Ans pr 41 [.ag (vF a),.ag (vF b)] (.i .i64 (zdK a b)):=by
 refine zex fn41 ?_;simp only[g41,rU];unfold zdK;have hl:Go.Op.bytesLess [] []=false:=rfl
 by_cases h1:a=b
 .subst h1;simp -implicitDefEqProofs [rR,st0,zaF,vF,hl]
 .by_cases h2:a<b
  .simp -implicitDefEqProofs [rR,st0,zaF,vF,hl,h1,h2]
  .simp -implicitDefEqProofs [rR,st0,zaF,vF,hl,h1,h2]
def tv:Trm->Str
 | .var s=>s
 | .cst _=>[]
def tk:Trm->Int
 | .var _=>0
 | .cst _=>1
def tn:Trm->Int
 | .var _=>0
 | .cst n=>n
def tmE(t:Trm):tmF t=[.s (tv t),.i .i64 (tk t),.i .i64 (tn t),.s []]:=by cases t<;>rfl
def zp6(l:List Trm):F:=slc 4 (l.map tmF)
def wrap_i64(n:Int)(h:0<=n)(h2:n<9223372036854775808):IntKind.i64.wrap n=n:=IntWalk.i64_in n (by omega)
def zcM(n:Nat)(h:n<1000000):IntKind.i64.wrap ((n:Int)+1)=((n+1:Nat):Int):=wrap_i64 _ (by omega) (by omega)
def zdn(l:List Str):(zd8 l).d= .f (zd8 l):=zfU ..
def zfR(l:List Str):zej (.f (zd8 l))=some l.length:=by simp[zd8,zfg]
def zfh(l:List Str)(n:Nat):iaB 1 (.f (zd8 l)) n=(l[n]?).map fun s=>D.fptr [.s s]:=by simp[zd8,zgO,Z67]
def zgJ(l:List Trm):(zp6 l).d= .f (zp6 l):=zfU ..
def zfx(l:List Trm):zej (.f (zp6 l))=some l.length:=by simp[zp6,zfg]
def zii(l:List Trm)(n:Nat):iaB 4 (.f (zp6 l)) n=(l[n]?).map fun t=>D.fptr (tmF t):=by simp[zp6,zgO,Z67]
def zuZ(a b:Int):(zdK a b==0)=decide (a=b):=by
 unfold zdK
 by_cases h:a=b
 .simp[h]
 .simp only[h,Z63,decide_false];split<;>rfl
def zWu(a b:Int):(zdK a b != 0)=decide (a≠b):=by
 rw[bne,zuZ];simp
def zBi(a b:Int):(zdK a b<0)=(a<b):=by
 unfold zdK
 by_cases h:a=b
 .simp[h]
 .simp only[h,Z63];split<;>simp_all
def zhH(c:CQ):F:=csF c
def zjD(c:CQ):F:=Sm.asF c
def zd6(c:CQ):(zhH c).d= .f (zhH c):=by
 unfold zhH csF;split
 .rfl
 .exact zfU ..
def zWx(c:CQ):zej (.f (zhH c))=some c.cs.length:=by
 unfold zhH csF;split
 .rename_i h;rw[h.2];rfl
 .simp[zfg]
def zaab(c:CQ)(n:Nat):iaB 9 (.f (zhH c)) n=(c.cs[n]?).map fun t=>D.fptr (cmF t):=by
 unfold zhH csF;split
 .rename_i h;rw[h.2];rfl
 .simp[zgO,Z67]
def zd5(c:CQ):(zjD c).d= .f (zjD c):=by
 unfold zjD Sm.asF;split
 .rfl
 .exact zfU ..
def zdQ(c:CQ):zej (.f (zjD c))=some c.as.length:=by
 unfold zjD Sm.asF;split
 .rename_i h;rw[h.2];rfl
 .simp[zfg]
def zee(c:CQ)(n:Nat):iaB 3 (.f (zjD c)) n=(c.as[n]?).map fun t=>D.fptr (atF t):=by
 unfold zjD Sm.asF;split
 .rename_i h;rw[h.2];rfl
 .simp[zgO,Z67]
def cqE(c:CQ):cqF c=[zjD c,zhH c]:=rfl
def atE(a:Atm):atF a=[.s a.r,.b a.neg,zp6 a.ts]:=rfl
def zqG:zCf pr:=zIX prOk
def zWR{h:T Ob}{lo c es k:Nat}{d:D}{els:List (List D)}{L:List (List F)}(hg:Gro h lo c es d els)(hf:zbk (frz h.get k) els=some (L,[]))(hL:L=[]↔els=[]):∃rd,frz h.get (k+1) d=some (slc es L,rd):=by
 rcases hg with⟨rfl,rfl⟩ |⟨id,ro,rfl,he,ho,hr,hl,hc⟩
 .rw[hL.2 rfl];exact⟨[],rfl⟩
 .refine⟨[id],?_⟩;rw[zkO,ho,zgz,zk8];simp only[true_and,Z25,Z2,Z60,Z34,Z7,hf,zgz];rw[zp5 (fun e=>he (hL.1 e))]
def zaaq{h:T Ob}{lo c es:Nat}{d:D}{els:List (List D)}(hg:Gro h lo c es d els){i:Nat}(hi:i<lo):d.oid≠some i:=by
 rcases hg with⟨rfl,_⟩ |⟨id,ro,rfl,_,_,_,hl,_⟩
 .simp[D.oid]
 .simp[D.oid];omega
def zaaC{f:Nat}{args:List D}{h:T Ob}{c:Nat}{x:F}(h1:pr.fn f=none)(h2:pr.ext f args=some x):RO pr f args h c x.d:=by
 refine⟨c,Z2 _,1,fun n hn=> ?_⟩;obtain⟨m,rfl⟩ :∃m,n=m+1:=⟨n - 1,by omega⟩
 simp only[zer,h1,h2]
theorem zBk:∀a b:Str,Go.Lib.compareBytes a b=zov a b
 |[],[]=>rfl
 |[],b::l=>by simp[Go.Lib.compareBytes,zov,Go.Op.bytesLess]
 |a::l,[]=>by simp[Go.Lib.compareBytes,zov,Go.Op.bytesLess]
 |a::l,b::m=>by
  have ih:=zBk l m;unfold Go.Lib.compareBytes zov Go.Op.bytesLess
  by_cases h1:a<b
  .simp[h1]
  .by_cases h2:b<a
   .have h3:a≠b:=fun e=>by subst e;exact h1 h2
    simp[h1,h2,h3]
   .have h3:a=b:=UInt8.le_antisymm (UInt8.not_lt.1 h2) (UInt8.not_lt.1 h1);subst h3;simp only[h1,Z63,ih,zov];simp
def ro140(a b:Str)(h:T Ob)(c:Nat):RO pr 140 [.f (.s a),.f (.s b)] h c (.f (.i .i64 (zov a b))):=by
 have:=zaaC (h:=h) (c:=c) (f:=140) (args:=[.f (.s a),.f (.s b)]) (x:= .i .i64 (Go.Lib.compareBytes a b)) (by kernel_rfl) rfl;rw[zBk]at this;exact this
def zF3(a:Int):Ans pr 138 [.i .i64 a] (.b false):=by
 refine zex fn138 ?_;simp only[zDf,rU];simp -implicitDefEqProofs [rW,st0,zaF]
def zF6(a:Int):Ans pr 139 [.i .i64 a] (.b false):=by
 refine zex fn139 ?_;simp only[zDh,rU];simp -implicitDefEqProofs [rW,st0,zaF]
def ans74(a b:Int):Ans pr 74 [.i .i64 a,.i .i64 b] (.i .i64 (zdK a b)):=by
 refine zex fn74 ?_;simp only[g74,rU];have q1:=fun k=>zal (k:=k) (zF3 a)
 have q2:=fun k=>zal (k:=k) (zF3 b)
 unfold zdK
 by_cases h1:a<b
 .have h2:¬a=b:=by omega
  simp -implicitDefEqProofs [rW,st0,zaF,q1,q2,h1,h2]
 .by_cases h2:b<a
  .have h3:¬a=b:=by omega
   simp -implicitDefEqProofs [rW,st0,zaF,q1,q2,h1,h2,h3]
  .have h3:a=b:=by omega
   simp -implicitDefEqProofs [rW,st0,zaF,q1,q2,h1,h2,h3]
def ans75(a b:Int):Ans pr 75 [.i .i64 a,.i .i64 b] (.i .i64 (zdK a b)):=by
 refine zex fn75 ?_;simp only[g75,rU];have q1:=fun k=>zal (k:=k) (zF6 a)
 have q2:=fun k=>zal (k:=k) (zF6 b)
 unfold zdK
 by_cases h1:a<b
 .have h2:¬a=b:=by omega
  simp -implicitDefEqProofs [rW,st0,zaF,q1,q2,h1,h2]
 .by_cases h2:b<a
  .have h3:¬a=b:=by omega
   simp -implicitDefEqProofs [rW,st0,zaF,q1,q2,h1,h2,h3]
  .have h3:a=b:=by omega
   simp -implicitDefEqProofs [rW,st0,zaF,q1,q2,h1,h2,h3]
def ans76(a b:Str):Ans pr 76 [.s a,.s b] (.i .i64 (zov a b)):=by
 refine zex fn76 ?_;simp only[g76,rU];simp -implicitDefEqProofs [rW,st0,zaF];refine zoC (ro140 a b _ _) ?_ ?_
 .simp only[rG];omega
 .intro mx;simp -implicitDefEqProofs [rW,st0,zaF]
def ans73(a b c:Int):Ans pr 73 [.sl 1 [[.i .i64 a],[.i .i64 b],[.i .i64 c]]] (.i .i64 (if a≠0 then a else if b≠0 then b else c)):=by
 refine zex fn73 ?_;simp only[g73,rU];have w1:IntKind.i64.wrap 1=1:=rfl;have w2:IntKind.i64.wrap 2=2:=rfl;have w3:IntKind.i64.wrap 3=3:=rfl;simp -implicitDefEqProofs [rW,st0,zaF];refine round ?_
 by_cases ha:a=0
 .by_cases hb:b=0
  .simp -implicitDefEqProofs [rW,ha,hb,w1];refine round ?_;simp -implicitDefEqProofs [rW,ha,hb,w2];refine round ?_
   by_cases hc:c=0
   .simp -implicitDefEqProofs [rW,hc,w3];refine round ?_;simp -implicitDefEqProofs [rW,hc]
   .simp -implicitDefEqProofs [rW,hc]
  .simp -implicitDefEqProofs [rW,ha,hb,w1];refine round ?_;simp -implicitDefEqProofs [rW,hb]
 .simp -implicitDefEqProofs [rW,ha]
def zNv(a b:Int):Ans pr 37 [.ag (vF a),.ag (vF b)] (.i .i64 (zdK a b)):=by
 refine zex fn37 ?_;simp only[g37,rU];have q1:=fun k=>zal (k:=k) (ans74 1 1)
 have q2:=fun k=>zal (k:=k) (ans75 a b)
 have q3:=fun k=>zal (k:=k) (ans76 [] [])
 have q4:=fun k=>zal (k:=k) (ans73 (zdK 1 1) (zdK a b) (zov [] []))
 rw[(show zdK 1 1=0 from rfl)]at q1 q4;rw[(show zov [] []=0 from rfl)]at q3 q4;have e:(if(0:Int)≠0 then 0 else if zdK a b≠0 then zdK a b else 0)=zdK a b:=by
  simp only[ne_eq,not_true_eq_false,Z63];split
  .rfl
  .rename_i h;simp at h;exact h.symm
 rw[e]at q4;simp -implicitDefEqProofs [rW,st0,zaF,vF];refine zaV ?_;simp -implicitDefEqProofs [rW,st0,zaF,vF,q1,q2,q3,q4]
def zg4(l:List Nat):F:=slc 1 (l.map fun n:Nat=>[F.i .i64 (n:Int)])
def zJC(l:List Nat):zej (.f (zg4 l))=some l.length:=by simp[zg4,zfg]
def zWX(l:List Nat)(n:Nat):iaB 1 (.f (zg4 l)) n=(l[n]?).map fun k:Nat=>D.fptr [F.i .i64 (k:Int)]:=by simp[zg4,zgO,Z67]
def tmD(u:Trm):List D:=[.f (.s (tv u)),.f (.i .i64 (tk u)),.f (.i .i64 (tn u)),.f (.s [])]
def zKD(v:Str):tv (.var v)=v:=rfl
def zKA(v:Str):tk (.var v)=0:=rfl
def zKC(v:Str):tn (.var v)=0:=rfl
def tv_c(n:Int):tv (.cst n)=[]:=rfl
def tk_c(n:Int):tk (.cst n)=1:=rfl
def tn_c(n:Int):tn (.cst n)=n:=rfl
def cmD(k:Cm):List D:= .f (.i .i64 k.op)::(tmD k.l++tmD k.r)
theorem zuz{h:T Ob}{lo c es byt:Nat}{d:D}{els new:List (List D)}{rd:List Nat}{K:Rs->Prop}(hg:Gro h lo c es d els)(hlo:lo<=c)(hlen:els.length+new.length<=1000000)(hb:byt<=1000)
  (hK:∀r:Rs,zax r.c r.wr=true->Gro (wrT h r.wr) lo r.c es r.d (els++new)->c<=r.c->(∀id,id<c->d.oid≠some id->(wrT h r.wr).get id=h.get id)->(∀x,r.d.oid=some x->x=c\/d.oid=some x)->K r):oB (zct es byt h.get c d new rd) K:=by
 obtain⟨r,h1,h2,h3,h4,h5,h6,h7,h8⟩ :=zWQ (byt:=byt) (rd:=rd) hg hlo hlen hb;rw[h1];exact hK r h2 h3 h4 h5 h8
def zWS{h:T Ob}{lo c es:Nat}{d:D}{els:List (List D)}(hg:Gro h lo c es d els){x:Nat}(hx:d.oid=some x):lo<=x/\x<c:=by
 rcases hg with⟨rfl,_⟩ |⟨id,ro,rfl,h2,h3,h4,h5,h6⟩
 .simp[D.oid]at hx
 .simp[D.oid]at hx;omega
def Own(h:T Ob)(lo c:Nat)(d:D)(X:F):Prop:=(d= .f X\/∃a b e f g x,d= .sl a b e f g x)/\d.cells=some [d]/\(∀x,d.oid=some x->lo<=x/\x<c)/\∀h':T Ob,(∀x,d.oid=some x->h'.get x=h.get x)->∀k,∃rd,frz h'.get (k+2) d=some (X,rd)
def z99(k:Cm):(if 9<=(cmF k).length then some (D.ag (List.take 9 (List.map D.f (cmF k))))else none)=some (.ag (cmD k)):=by
 obtain⟨o,l,r⟩ :=k;cases l<;>cases r<;>rfl
def fn22:pr.fn 22=some g22:=by kernel_rfl
def fn143:pr.fn 143=some zDk:=by kernel_rfl
def zaL(l:List Int):(valsF l).d= .f (valsF l):=zfU ..
def zjX(l:List Int):zej (.f (valsF l))=some l.length:=by simp[valsF,zfg]
def zgV(l:List Int)(n:Nat):iaB 3 (.f (valsF l)) n=(l[n]?).map fun v=>D.fptr (vF v):=by simp[valsF,zgO,Z67]
def Pc(p:List F):Prop:=∃a b c,p=[a,b,c]/\a.d= .f a/\b.d= .f b/\c.d= .f c
def cmpL:List Int->List Int->Int
 |[],[]=>0
 |[],_::_=> -1
 |_::_,[]=>1
 |x::a,y::b=>if x=y then cmpL a b else zdK x y
def zn0(l:List Int):(zeL l).d= .f (zeL l):=zfU ..
def zdL(l:List Int):zej (.f (zeL l))=some l.length:=by simp[zeL,zfg]
def zfd(l:List Int)(n:Nat):iaB 1 (.f (zeL l)) n=(l[n]?).map fun v=>D.fptr [valsF [v]]:=by simp[zeL,zgO,Z67]
theorem zG0:∀(l:List Int) (v:Int) (n:Nat),n<=l.length->(∀w∈l.take n,w<v)->(∀h:n<l.length,v<l[n])->ins l v=l.take n++v::l.drop n
 |[],v,n,_,_,_=>by simp[ins]
 |w::l,v,0,_,_,h=>by
  have:=h (by simp);simp at this;have h1:¬w<v:=by omega
  have h2:¬w=v:=by omega
  simp[ins,h1,h2]
 |w::l,v,n+1,hn,h1,h2=>by
  have:=h1 w (by simp);simp only[ins,this,Z60,Z180,List.drop_succ_cons,Z29,List.cons.injEq,true_and];exact zG0 l v n (by simpa using hn) (fun y hy=>h1 y (by simp[hy])) (fun h=>by have:=h2 (by simpa using h);simpa using this)
theorem zyw:∀(l:List Int) (v:Int) (n:Nat) (hn:n<l.length),(∀w∈l.take n,w<v)->l[n]=v->ins l v=l
 |[],v,n,hn,_,_=>by simp at hn
 |w::l,v,0,_,_,h=>by
  simp at h;subst h;simp[ins]
 |w::l,v,n+1,hn,h1,h2=>by
  have:=h1 w (by simp);simp only[ins,this,Z60,List.cons.injEq,true_and];exact zyw l v n (by simpa using hn) (fun y hy=>h1 y (by simp[hy])) (by simpa using h2)
def zIW(a b:Int):cmpL [a] [b]=zdK a b:=by
 simp only[cmpL,zdK];split<;>rfl
def zIV(l:List Int):cmpL [] l=if 0<l.length then -1 else 0:=by cases l<;>simp[cmpL]
def zGp(l:List Int):cmpL l []=if 0<l.length then 1 else 0:=by cases l<;>simp[cmpL]
def J46(a b:List Int)(n:Nat)(s:St):Prop:=n<=a.length/\n<=b.length/\(s.tm.get 0=some (.f (valsF a))/\s.tm.get 1=some (.f (valsF b))/\s.tm.get 5=some (.f (.i .i64 n)))/\cmpL a b=cmpL (a.drop n) (b.drop n)
def zoa(a b:List Int)(hl:a.length<1000):Ans pr 22 [valsF a,valsF b] (.i .i64 (cmpL a b)):=by
 refine zex fn22 ?_;simp only[g22,rU];simp -implicitDefEqProofs [rW,st0,zaF,zaL];refine zfm (fun k s=>∃n:Nat,k=a.length - n/\J46 a b n s) (fun x s=>(x= .ret/\s.tm.get 4=some (.f (.i .i64 (cmpL a b))))\/(x= .exit 0/\∃n:Nat,(n=a.length\/n=b.length)/\J46 a b n s)) ?_ a.length _ ⟨0,rfl,Z61 _,Z61 _,?_,rfl⟩ ?_
 .rintro k s ⟨n,rfl,hn,hn',⟨h0,h1,h5⟩,hA⟩;have hw:=zcM n (by omega)
  by_cases hlt:n<a.length
  .by_cases hlt':n<b.length
   .rw[Z55 hlt,Z55 hlt']at hA;simp only[cmpL]at hA;have hx:a[n]? =some a[n]:=Z0 hlt;have hy:b[n]? =some b[n]:=Z0 hlt';generalize hX:a[n]=x at hx hA;generalize hY:b[n]=y at hy hA;have q:=fun k=>zal (k:=k) (ans41 x y)
    simp only[vF]at q;simp -implicitDefEqProofs [rW,h0,h1,h5,zjX,hlt,hlt'];refine zaV ?_
    by_cases he:x=y
    .have hz:zdK x y=0:=by simp[zdK,he]
     rw[hz]at q;rw[Z51 he]at hA;simp -implicitDefEqProofs [rW,h0,h1,h5,zgV,hx,hy,hX,hY,hlt,hlt',vF,q,hw];rw[zc0];refine⟨a.length - (n+1),by omega,n+1,rfl,by omega,by omega,?_,hA⟩;simp -implicitDefEqProofs [rW,h0,h1,hw]
    .have hz:zdK x y≠0:=by
      unfold zdK;rw[Z49 he];split<;>decide
     rw[Z49 he]at hA;generalize zdK x y=z at q hz hA;simp -implicitDefEqProofs [rW,h0,h1,h5,zgV,hx,hy,hX,hY,hlt,hlt',vF,q,hz];exact hA.symm
   .obtain rfl:n=b.length:=by omega
    simp -implicitDefEqProofs [rW,h0,h1,h5,zjX,hlt,hlt'];refine .inr ⟨hn,hn',?_,hA⟩;simp -implicitDefEqProofs [rW,h0,h1,h5]
  .obtain rfl:n=a.length:=by omega
   simp -implicitDefEqProofs [rW,h0,h1,h5,zjX,hlt];refine .inl ⟨hn,hn',?_,hA⟩;simp -implicitDefEqProofs [rW,h0,h1,h5]
 .simp -implicitDefEqProofs [rW,]
 .rintro x s (⟨rfl,h4⟩ |⟨rfl,n,he,hn,hn',⟨h0,h1,h5⟩,hA⟩)
  .simp -implicitDefEqProofs [rW,h4]
  .have hf:cmpL a b=if a.length<b.length then -1 else if b.length<a.length then 1 else 0:=by
    rw[hA];rcases he with rfl|rfl
    .rw[Z206,zIV,List.length_drop]
     by_cases h1:a.length<b.length
     .rw[Z51 (by omega),Z51 h1]
     .rw[Z49 (by omega),Z49 h1,Z49 (by omega)]
    .rw[Z206,zGp,List.length_drop]
     by_cases h1:b.length<a.length
     .rw[Z51 (by omega),Z49 (by omega),Z51 h1]
     .rw[Z49 (by omega),Z49 (by omega),Z49 h1]
   rw[hf]
   by_cases k1:a.length<b.length
   .simp -implicitDefEqProofs [rW,h0,h1,zjX,k1]
   .by_cases k2:b.length<a.length
    .simp -implicitDefEqProofs [rW,h0,h1,zjX,k1,k2]
    .simp -implicitDefEqProofs [rW,h0,h1,zjX,k1,k2]
def GrE(h:T Ob)(lo c es:Nat)(d:D)(els:List (List D)):Prop:=Gro h lo c es d els\/(els=[]/\∃id,d= .sl id 0 0 es 0 true/\h.get id=some (.arr es 0 [])/\lo<=id/\id<c)
def zaal{h:T Ob}{lo c c' es:Nat}{d:D}{els:List (List D)}(hg:GrE h lo c es d els)(hc:c<=c'):GrE h lo c' es d els:=by
 rcases hg with hg|⟨e,id,h1,h2,h3,h4⟩
 .exact .inl (zyt hg hc fun _ _ _=>rfl)
 .exact .inr ⟨e,id,h1,h2,h3,by omega⟩
theorem zys{h:T Ob}{lo c es byt:Nat}{d:D}{els new:List (List D)}{rd:List Nat}{K:Rs->Prop}(hg:GrE h lo c es d els)(hlo:lo<=c)(hlen:els.length+new.length<=1000000)(hb:byt<=1000)
  (hK:∀r:Rs,zax r.c r.wr=true->GrE (wrT h r.wr) lo r.c es r.d (els++new)->(new≠[]->Gro (wrT h r.wr) lo r.c es r.d (els++new))->c<=r.c->K r):oB (zct es byt h.get c d new rd) K:=by
 rcases hg with hg|⟨rfl,id,rfl,hid,h1,h2⟩
 .exact zuz hg hlo hlen hb fun r r1 r2 r3 _ _=>hK r r1 (.inl r2) (fun _=>r2) r3
 .by_cases h0:new=[]
  .subst h0;rw[zIy];exact hK _ rfl (.inr ⟨rfl,id,rfl,hid,h1,h2⟩) (fun h=>absurd rfl h) (Z2 _)
  .have hn0:new.length≠0:=fun e=>h0 (Z17.1 e)
   have hm:∀n,n<=1000000->n<=zaR:=fun n hn=>by have:=zaM (n:=n) (by omega);simpa using this
   have hmb:new.length*byt<=zaR:=by
    simp only[Z170,Z25]at hlen;have:new.length*byt<=1000000*1000:=Z144 hlen hb;have h3:=zaM (n:=new.length*byt) (by omega);simpa using h3
   rw[z95 hid hn0 (hm _ (by simpa using hlen)) hmb];have hG:Gro (wrT h [(c,some (.arr es 0 new))]) lo (c+1) es (.sl c 0 new.length es new.length false) ([]++new):= .inr ⟨c,0,rfl,by simpa using h0,by simp[wrT,T.za0],Z61 _,hlo,by omega⟩;exact hK _ (by simp[zax,Z79]) (.inl hG) (fun _=>hG) (by simp)
def rwE(l:List Int):List (List D):=l.map fun v=>[D.f (valsF [v])]
def zn1(l:List Int):(rwE l).length=l.length:=by simp[rwE]
def zaaU{h:T Ob}{lo c:Nat}{d:D}{l:List Int}(hg:Gro h lo c 1 d (rwE l)):∃rd,frz h.get 12 d=some (zeL l,rd):=
 zWR (k:=11) hg (zOw _ 10 (fun v:Int=>valsF [v]) l) (by simp[rwE])
theorem zvv(l:List Int)(a b:Nat)(h1:a<=b)(h2:b<=l.length):∃x:F,x.d= .f x/\(a=0->∀h:Nat->Option Ob,sliceB 1 h (.f (zeL l)) none (some (.f (.i .i64 b))) none=some (.f x,[]))/\
  (b=l.length->∀h:Nat->Option Ob,sliceB 1 h (.f (zeL l)) (some (.f (.i .i64 a))) none none=some (.f x,[]))/\∀h:Nat->Option Ob,elemsOf 1 h (.f x)=some (rwE ((l.drop a).take (b - a)),[]):=by
 obtain⟨x,hx,-,h3,h4,h5⟩ :=zKq (es:=1) (l.map fun v=>[valsF [v]]) a b h1 (by simpa using h2);refine⟨x,hx,fun e h=>h3 e h,fun e h=>h4 (by simpa using e) h,fun h=> ?_⟩;rw[h5,<-List.map_drop,<-Z149,Z33];rfl
def z92(l:List Int)(v:Int)(hl:l.length<100000):Ans pr 143 [zeL l,valsF [v]] (zeL (ins l v)):=by
 refine zex fn143 ?_;simp only[zDk,rU];have q46:∀w (k:F->Prop),aB pr 22 [valsF [w],valsF [v]] k↔k (.i .i64 (zdK w v)):=fun w k=>zal (by rw[<-zIW];exact zoa [w] [v] (by simp))
 have hv:(D.f (valsF [v])).cells=some [.f (valsF [v])]:=zfC ..;have hd:(valsF [v]).d= .f (valsF [v]):=zfU ..;generalize hV:valsF [v]=V at q46 hv hd|-;simp -implicitDefEqProofs [rW,st0,zaF,zn0,hd];refine zfm (fun k s=>∃n:Nat,n<=l.length/\k=l.length - n/\(s.tm.get 0=some (.f (zeL l))/\s.tm.get 1=some (.f V)/\s.tm.get 5=some (.f (.i .i64 n)))/\∀w∈l.take n,w<v) (fun x s=>x= .exit 0/\∃n:Nat,n<=l.length/\(s.tm.get 0=some (.f (zeL l))/\s.tm.get 1=some (.f V)/\s.tm.get 5=some (.f (.i .i64 n)))/\(∀w∈l.take n,w<v)/\∀h:n<l.length,v<=l[n]) ?_ l.length _ ⟨0,Z61 _,rfl,?_,by simp⟩ ?_
 .rintro k s ⟨n,hn,rfl,⟨h0,h1,h5⟩,hA⟩;have hw:=zcM n (by omega)
  by_cases hlt:n<l.length
  .have hx:l[n]? =some l[n]:=Z0 hlt;have hk2:=Z6 hlt
   by_cases hv2:l[n]<v
   .have hc:zdK l[n] v<0:=by rw[zBi];exact hv2
    generalize hW:l[n]=w at hx hk2 hv2 hc;simp -implicitDefEqProofs [rW,h0,h1,h5,zdL,zfd,hlt,hx,hW,q46,hc,hw];rw[zc0];refine⟨l.length - (n+1),by omega,n+1,by omega,rfl,?_,fun y hy=> ?_⟩
    .simp -implicitDefEqProofs [rW,h0,h1,hw]
    .rw[hk2]at hy;rcases Z4.1 hy with hy|hy
     .exact hA y hy
     .have:y=w:=by simpa using hy
      rw[this];exact hv2
   .have hc:¬zdK l[n] v<0:=by rw[zBi];exact hv2
    have hge:∀h:n<l.length,v<=l[n]:=fun _=>by omega
    generalize hW:l[n]=w at hx hv2 hc;simp -implicitDefEqProofs [rW,h0,h1,h5,zdL,zfd,hlt,hx,hW,q46,hc];refine⟨n,hn,?_,hA,hge⟩;simp -implicitDefEqProofs [rW,h0,h1,h5]
  .simp -implicitDefEqProofs [rW,h0,h1,h5,zdL,hlt];refine⟨n,hn,?_,hA,fun h=>absurd h hlt⟩;simp -implicitDefEqProofs [rW,h0,h1,h5]
 .simp -implicitDefEqProofs [rW,]
 .rintro x s ⟨rfl,n,hn,⟨h0,h1,h5⟩,hA,hge⟩
  by_cases he:∃h:n<l.length,l[n]=v
  .obtain⟨hlt,hv2⟩ :=he;rw[zyw l v n hlt hA hv2];have hx:l[n]? =some v:=by rw[Z0 hlt,hv2]
   have hc:zdK v v=0:=by simp[zdK]
   simp -implicitDefEqProofs [rW,h0,h1,h5,zdL,zfd,hlt,hx,hv2,q46,hc,zn0]
  .have hins:=zG0 l v n hn hA fun h=>by
    have:=hge h;have:l[n]≠v:=fun e=>he ⟨h,e⟩
    omega
   obtain⟨X,hX,hX1,-,hX3⟩ :=zvv l 0 n (Z61 _) hn;obtain⟨Z,hZ,-,hZ2,hZ3⟩ :=zvv l n l.length hn (Z2 _);have hX2:=hX1 rfl;have hZ1:=hZ2 rfl;rw[Z34,Nat.sub_zero]at hX3;have hZe:(l.drop n).take (l.length - n)=l.drop n:=by rw[<-List.length_drop,Z7]
   rw[hZe]at hZ3;have hP:(l.take n).length<=100000:=by simp;omega
   have hQ:(l.drop n).length<=100000:=by simp;omega
   rw[hins];generalize l.take n=P at hX3 hP hA|-;generalize l.drop n=R at hZ3 hQ|-;have fin:∀(S:St) (d6:D) (lo:Nat),(S.tm.get 0=some (.f (zeL l))/\S.tm.get 1=some (.f V)/\S.tm.get 5=some (.f (.i .i64 n))/\S.tm.get 6=some (d6))->GrE S.h lo S.c 1 d6 (rwE P)->lo<=S.c->WD pr [(oM 41 6,0),(oM 42 1,1),(oM 45 0,3),(oM 46 5,7),(oR 47 (.slc 1 (.t 45) (some (.t 46)) none none),3),(oR 43 (.bsf 1 [.nils] 1 [(0,(.t 42))]),29),(oR 44 (.app 1 24 (.t 41) (.t 43)),28),(oR 48 (.app 1 24 (.t 44) (.t 47)),0),(oM 4 48,0)] S (sq pr C.ret (zuw [Rv.t 4] (zeL (P++v::R)))):=by
    clear h0 h1 h5 hge hX hX1 hX2 hX3;rintro S d6 lo ⟨h0,h1,h5,h6⟩ hg hlo;refine zaV ?_;simp only[rU];simp -implicitDefEqProofs [zjS,Z67,Z79,zhq,zhb,zhg,zha,zg7,zg8,zg5,zhh,zhm,zhn,zhk,zhs,zht,zhr,h0,h1,h5,h6,hZ1,hZ3,hZ,hv];refine zys (zaal hg (by omega)) (by omega) (by rw[zn1];simp;omega) (by omega) ?_;rintro r hr1 - hr2 hr3;refine⟨hr1,⟨by rw[zJc];trivial,by rw[zJc];trivial⟩,?_⟩;refine zuz (zyt (c':=r.c+1) (hr2 (by simp)) (by omega) fun _ _ _=>rfl) (by omega) (by rw[Z16,zn1,zn1];simp;omega) (by omega) ?_;intro r2 s1 s2 s3 _ _;refine⟨s1,?_⟩;have e:rwE P++[[D.f V]]++rwE R=rwE (P++v::R):=by rw[<-hV];simp[rwE]
    rw[e]at s2;obtain⟨rd,hf⟩ :=zaaU s2;rw[hf];rfl
   by_cases hlt:n<l.length
   .have hx:l[n]? =some l[n]:=Z0 hlt;have hc:¬zdK l[n] v=0:=by
     have:l[n]≠v:=fun e=>he ⟨hlt,e⟩
     unfold zdK;rw[Z49 this];split<;>decide
    generalize hW:l[n]=w at hx hc;simp -implicitDefEqProofs [zjS,Z67,Z79,zhq,zhb,zhg,zha,zg7,zg8,zg5,zhh,zhm,zhn,zhk,zhs,zht,zhr,h0,h1,h5,zdL,zfd,hlt,hx,hW,q46,hc,hX2,hX3,hX];refine zys (lo:=s.c) (.inr ⟨rfl,s.c,rfl,by simp[TG],Z2 _,by omega⟩ :GrE _ s.c (s.c+1) 1 _ []) (by omega) (by rw[zn1];simp;omega) (by omega) ?_;intro r hr1 hr2 _ hr3;refine⟨hr1,fin _ r.d s.c ?_ ?_ ?_⟩
    .simp -implicitDefEqProofs [zjS,Z67,Z79,zhq,zhb,zhg,zha,zg7,zg8,zg5,zhh,zhm,zhn,zhk,zhs,zht,zhr,h0,h1,h5]
    .simp -implicitDefEqProofs [zjS,Z67,Z79,zhq,zhb,zhg,zha,zg7,zg8,zg5,zhh,zhm,zhn,zhk,zhs,zht,zhr,];exact hr2
    .simp -implicitDefEqProofs [zjS,Z67,Z79,zhq,zhb,zhg,zha,zg7,zg8,zg5,zhh,zhm,zhn,zhk,zhs,zht,zhr,];omega
   .simp -implicitDefEqProofs [zjS,Z67,Z79,zhq,zhb,zhg,zha,zg7,zg8,zg5,zhh,zhm,zhn,zhk,zhs,zht,zhr,h0,h1,h5,zdL,hlt,hX2,hX3,hX];refine zys (lo:=s.c) (.inr ⟨rfl,s.c,rfl,by simp[TG],Z2 _,by omega⟩ :GrE _ s.c (s.c+1) 1 _ []) (by omega) (by rw[zn1];simp;omega) (by omega) ?_;intro r hr1 hr2 _ hr3;refine⟨hr1,fin _ r.d s.c ?_ ?_ ?_⟩
    .simp -implicitDefEqProofs [zjS,Z67,Z79,zhq,zhb,zhg,zha,zg7,zg8,zg5,zhh,zhm,zhn,zhk,zhs,zht,zhr,h0,h1,h5]
    .simp -implicitDefEqProofs [zjS,Z67,Z79,zhq,zhb,zhg,zha,zg7,zg8,zg5,zhh,zhm,zhn,zhk,zhs,zht,zhr,];exact hr2
    .simp -implicitDefEqProofs [zjS,Z67,Z79,zhq,zhb,zhg,zha,zg7,zg8,zg5,zhh,zhm,zhn,zhk,zhs,zht,zhr,];omega
def fn81:pr.fn 81=some g81:=by kernel_rfl
def enF(v:Int):List F:=[zd8 [[120]],valsF [v]]
def zlX(l:List Int):F:=slc 2 (l.map enF)
def zOr(l:List Int):(zlX l).d= .f (zlX l):=zfU ..
def znT(l:List Int):zej (.f (zlX l))=some l.length:=by simp[zlX,zfg]
def zyk(l:List Int)(n:Nat):iaB 2 (.f (zlX l)) n=(l[n]?).map fun v=>D.fptr (enF v):=by simp[zlX,zgO,Z67]
def getX(v:Int):Ans pr 142 [.ag (enF v),.ag (tmF (.var [120]))] (.tu [.ag (vF v),.b true]):=zas (n:=1000) (zay pr) (by kernel_rfl)
theorem zs7:∀(a b out:List Int),ze5 (a++b) out=ze5 b (ze5 a out)
 |[],_,_=>rfl
 |v::a,b,out=>by
  show ze5 (a++b) (ins out v)=ze5 b (ze5 a (ins out v));exact zs7 a b _
def zzh(l:List Int)(n:Nat)(hn:n<l.length):ze5 (l.take (n+1)) []=ins (ze5 (l.take n) []) l[n]:=by
 rw[Z6 hn,zs7];rfl
theorem zkP:∀(l out:List Int),(ze5 l out).length<=l.length+out.length
 |[],_=>by simp[ze5]
 |v::l,out=>by
  have h1:=zkP l (ins out v);have h2:∀(o:List Int),(ins o v).length<=o.length+1:=by
   intro o
   induction o with
   |nil=>simp[ins]
   |cons w o ih=>
    simp only[ins];split
    .simp;omega
    .split<;>simp
  have:=h2 out;show(ze5 l (ins out v)).length<=_;simp only[Z23];omega
def J81(l:List Int)(n:Nat)(s:St):Prop:=n<=l.length/\(s.tm.get 0=some (.f (zlX l))/\s.tm.get 1=some (.f (zd8 [[120]]))/\s.tm.get 5=some (.f (zeL (ze5 (l.take n) [])))/\s.tm.get 6=some (.f (.i .i64 n)))
def ans81(l:List Int)(hl:l.length<1000):Ans pr 81 [zlX l,zd8 [[120]]] (zeL (ze5 l [])):=by
 refine zex fn81 ?_;simp only[g81,rU];simp -implicitDefEqProofs [rW,st0,zaF,zOr,zdn];refine zfm (fun k s=>∃n:Nat,k=l.length - n/\J81 l n s) (fun x s=>x= .exit 0/\J81 l l.length s) ?_ l.length _ ⟨0,rfl,Z61 _,?_⟩ ?_
 .rintro k s ⟨n,rfl,hn,⟨h0,h1,h5,h6⟩⟩;have hw:=zcM n (by omega)
  by_cases hlt:n<l.length
  .have hx:l[n]? =some l[n]:=Z0 hlt;have hA:=zzh l n hlt;have hL:=zkP (l.take n) [];simp only[Z41,Z170]at hL;generalize hX:l[n]=v at hx hA;generalize ze5 (l.take n) []=out at h5 hA hL;have q1:=fun k=>zal (k:=k) (getX v)
   have q2:=fun k=>zal (k:=k) (z92 out v (by omega))
   simp only[vF,enF,tmF]at q1;rw[show valsF [v]= .sl 3 [[.i .i64 1,.i .i64 v,.s []]]from rfl]at q2;have hw1:IntKind.i64.wrap 1=1:=by decide
   simp -implicitDefEqProofs [rW,h0,h1,h5,h6,znT,hlt,zdn];refine round ?_;simp -implicitDefEqProofs [rW,h0,h1,h5,h6,znT,zyk,hx,hX,hlt,enF,zfh];refine zaV ?_;simp -implicitDefEqProofs [rW,h0,h1,h5,h6,znT,zyk,hx,hX,hlt,enF,zfh,q1,zaM];refine round ?_;simp -implicitDefEqProofs (disch:=omega) [rW,ne_up,ne_dn,zwO,h0,h1,h5,h6,znT,zyk,zfR,hx,hX,hlt,enF,zfh,q1,zaM,hw1,q2,hw,zn0];rw[zc0];refine⟨l.length - (n+1),by omega,n+1,rfl,by omega,?_⟩;rw[hA];simp -implicitDefEqProofs [rW,h0,h1,h5,h6,hw,zn0]
  .obtain rfl:n=l.length:=by omega
   simp -implicitDefEqProofs [rW,h0,h1,h5,h6,znT];exact⟨hn,by simp -implicitDefEqProofs [rW,h0,h1,h5,h6]⟩
 .simp -implicitDefEqProofs [rW,];rfl
 .rintro x s ⟨rfl,hn,⟨h0,h1,h5,h6⟩⟩;rw[Z7]at h5;simp -implicitDefEqProofs [rW,h5]
def fn39:pr.fn 39=some g39:=by kernel_rfl
def fn21:pr.fn 21=some g21:=by kernel_rfl
def zNx(r:F)(hr:r.d= .f r)(c:CQ)(l:List Int)(hl:l.length<1000)(h1:Ans pr 82 [r,.ag (cqF c),.i .i64 0,.ag [.nils,.nils],.b false] (zlX l))(h2:Ans pr 40 [.ag (cqF c)] (zd8 [[120]])):Ans pr 39 [r,.ag (cqF c)] (zeL (ze5 l [])):=by
 have q1:=fun k=>zal (k:=k) h1
 have q2:=fun k=>zal (k:=k) h2
 have q3:=fun k=>zal (k:=k) (ans81 l hl)
 refine zex fn39 ?_;simp only[g39,rU];simp only[cqE]at q1 q2|-;simp -implicitDefEqProofs [rW,st0,zaF,hr,zd5,zd6];refine zaV ?_;simp -implicitDefEqProofs [rW,st0,zaF,hr,zd5,zd6,q1,q2,q3,zdn,zOr,zn0]
def imF(m:Int)(l:List Int):F:=slc 1 (l.map fun v=>[valsF [v,m]])
def Rws(h:T Ob)(B:Nat)(m:Int)(o:Option Nat):List (List D)->List Int->Prop
 |[],[]=>True
 |e::es,v::l=>(∃id,e=[.sl id 0 2 3 2 false]/\1<=id/\id<B/\o≠some id/\h.get id=some (.arr 3 0 [[.f (.i .i64 1),.f (.i .i64 v),.f (.s [])],[.f (.i .i64 1),.f (.i .i64 m),.f (.s [])]]))/\Rws h B m o es l
 |_,_=>False
theorem zHV{h h':T Ob}{B B':Nat}{m:Int}{o o':Option Nat}(hB:B<=B')(hh:∀j,j<B->o≠some j->h'.get j=h.get j)(ho:∀j,j<B->o≠some j->o'≠some j):∀{els:List (List D)} {l:List Int},Rws h B m o els l->Rws h' B' m o' els l
 |[],[],_=>trivial
 |_::_,_::_,⟨⟨id,h1,h2,h3,h4,h5⟩,h6⟩ =>⟨⟨id,h1,h2,by omega,ho id h3 h4,by rw[hh id h3 h4];exact h5⟩,zHV hB hh ho h6⟩
 |[],_::_,h=>h.elim
 |_::_,[],h=>h.elim
theorem zyV{h:T Ob}{B:Nat}{m:Int}{o:Option Nat}{id:Nat}{v:Int}(h1:1<=id)(h2:id<B)(h3:o≠some id)(h4:h.get id=some (.arr 3 0 [[.f (.i .i64 1),.f (.i .i64 v),.f (.s [])],[.f (.i .i64 1),.f (.i .i64 m),.f (.s [])]])):∀{els:List (List D)} {l:List Int},Rws h B m o els l->Rws h B m o (els++[[.sl id 0 2 3 2 false]]) (l++[v])
 |[],[],_=>⟨⟨id,rfl,h1,h2,h3,h4⟩,trivial⟩
 |_::_,_::_,⟨h5,h6⟩ =>⟨h5,zyV h1 h2 h3 h4 h6⟩
 |[],_::_,h=>h.elim
 |_::_,[],h=>h.elim
theorem zuM{h:T Ob}{B:Nat}{m:Int}{o:Option Nat}:∀{els:List (List D)} {l:List Int},Rws h B m o els l->els.length=l.length
 |[],[],_=>rfl
 |_::_,_::_,⟨_,h6⟩ =>by simp[zuM h6]
 |[],_::_,h=>h.elim
 |_::_,[],h=>h.elim
theorem zBR{h:T Ob}{B:Nat}{m:Int}{o:Option Nat}(k:Nat):∀{els:List (List D)} {l:List Int},Rws h B m o els l->∃rd,zbk (frz h.get (k+2)) els=some (l.map fun v=>[valsF [v,m]],rd)
 |[],[],_=>⟨[],rfl⟩
 |e0::els,v::l,⟨⟨id,h1,h2,h3,h4,h5⟩,h6⟩ =>by
  obtain⟨rd,hr⟩ :=zBR k h6;subst h1;have e:frz h.get (k+2) (.sl id 0 2 3 2 false)=some (valsF [v,m],[id]):=by
   rw[zkO,h5,zgz,zk8];rfl
  rw[zlZ,hr];simp only[zlZ,zbO,e,zgz,Z46];exact⟨_,rfl⟩
 |[],_::_,h=>h.elim
 |_::_,[],h=>h.elim
def zJx{h:T Ob}{lo c es k:Nat}{d:D}{els:List (List D)}{L:List (List F)}{rd0:List Nat}(hg:Gro h lo c es d els)(hf:zbk (frz h.get k) els=some (L,rd0))(hL:L=[]↔els=[]):∃rd,frz h.get (k+1) d=some (slc es L,rd):=by
 rcases hg with⟨rfl,rfl⟩ |⟨id,ro,rfl,he,ho,hr,hl,hc⟩
 .rw[hL.2 rfl];exact⟨[],rfl⟩
 .rw[zkO,ho,zgz,zk8];simp only[true_and,Z25,Z2,Z60,Z34,Z7,hf,zgz];rw[zp5 (fun e=>he (hL.1 e))];exact⟨_,rfl⟩
def J21(r:F)(c:CQ)(at':Nat)(m:Int)(l:List Int)(n:Nat)(s:St):Prop:=
 n<=l.length/\(s.tm.get 0=some (.f r)/\s.tm.get 2=some (.f (.i .i64 at'))/\s.tm.get 4=some (.ptr 0 2 0 0)/\s.tm.get 7=some (.f (zeL l))/\s.tm.get 8=some (.f (zd8 [[120]]))/\s.tm.get 10=some (.f (.i .i64 n))/\s.h.get 0=some (.arr 2 0 [[.f (zjD c),.f (zhH c)]]))/\∃d els,s.tm.get 9=some d/\1<=s.c/\Gro s.h 1 s.c 1 d els/\Rws s.h s.c m d.oid els (l.take n)
def M21(r:F)(c:CQ)(at':Nat)(l:List Int)(n:Nat)(d:D)(h0:T Ob)(B:Nat)(k:Nat)(row:List (List D))(s:St):Prop:=
 (s.tm.get 0=some (.f r)/\s.tm.get 2=some (.f (.i .i64 at'))/\s.tm.get 4=some (.ptr 0 2 0 0)/\s.tm.get 7=some (.f (zeL l))/\s.tm.get 8=some (.f (zd8 [[120]]))/\s.tm.get 10=some (.f (.i .i64 n))/\s.tm.get 12=some (.f (.i .i64 k))/\s.tm.get 9=some (d)/\s.h.get 0=some (.arr 2 0 [[.f (zjD c),.f (zhH c)]]))/\B<=s.c/\(∀j,j<B->s.h.get j=h0.get j)/\∃id,B<=id/\id<s.c/\s.tm.get 11=some (.sl id 0 k 3 k false)/\s.h.get id=some (.arr 3 0 row)
theorem zNu(r:F)(hr:r.d= .f r)(c:CQ)(at':Nat)(A:Atm)(m:Int)(hA:c.as[at']? =some A)(hA2:A.ts=[.var [120],.cst m])(l:List Int)(hl:l.length<1000)(ha:at'<1000)(h1:Ans pr 39 [r,.ag (cqF c)] (zeL l))(h2:Ans pr 40 [.ag (cqF c)] (zd8 [[120]])):
  Ans pr 21 [r,.ag (cqF c),.i .i64 at'] (imF m l):=by
 have q1:=fun k=>zal (k:=k) h1
 have q2:=fun k=>zal (k:=k) h2
 refine zex fn21 ?_;simp only[g21,rU];simp only[cqE]at q1 q2|-;simp -implicitDefEqProofs [rW,st0,zaF,hr,zd5,zd6,q1,q2,zdn,zn0];refine zfm (fun k s=>∃n:Nat,k=l.length - n/\J21 r c at' m l n s) (fun x s=>x= .exit 0/\J21 r c at' m l l.length s) ?_ l.length _ ⟨0,rfl,Z61 _,?_,.f .nils,[],?_,?_,.inl ⟨rfl,rfl⟩,trivial⟩ ?_
 .rintro k s ⟨n,rfl,hn,⟨h0,h2,h4,h7,h8,h10,g0⟩,d,els,h9,hc,hg,hR⟩;have hw:=zcM n (by omega)
  by_cases hlt:n<l.length
  .have hx:l[n]? =some l[n]:=Z0 hlt;have hS:l.take (n+1)=l.take n++[l[n]]:=Z6 hlt;have hL:(l.take n).length<=1000:=by simp;omega
   have hL2:=zuM hR;generalize hX:l[n]=v at hx hS;generalize l.take n=P at hR hS hL hL2;have hw1:IntKind.i64.wrap 1=1:=by decide
   have hw2:IntKind.i64.wrap 2=2:=by decide
   have i1:¬0=s.c:=by omega
   have i2:¬s.c=0:=by omega
   have i3:¬0=s.c+1:=by omega
   have i4:¬s.c=s.c+1:=by omega
   simp -implicitDefEqProofs [rW,h0,h2,h4,h7,h8,h10,g0,zdL,hlt,zee,hA];refine round ?_;simp -implicitDefEqProofs [zaS,rR,apO,h0,h2,h4,h7,h8,h10,g0,zdL,zfd,hx,hX,hlt,zee,hA,hA2,atE,zgJ,zii,zfx,i1,i2,i3,i4,tmF,zfR,zfh,zgV,vF,hw1,zaM];refine round ?_;simp -implicitDefEqProofs [zaS,rR,apO,h0,h2,h4,h7,h8,h10,g0,zdL,zfd,hx,hX,hlt,zee,hA,hA2,atE,zgJ,zii,zfx,i1,i2,i3,i4,tmF,zfR,zfh,zgV,vF,hw1,zaM];refine zaV ?_;simp -implicitDefEqProofs [zaS,rR,apO,h0,h2,h4,h7,h8,h10,g0,zdL,zfd,hx,hX,hlt,zee,hA,hA2,atE,zgJ,zii,zfx,i1,i2,i3,i4,tmF,zfR,zfh,zgV,vF,hw1,zaM];refine round ?_;simp -implicitDefEqProofs [zaS,rR,apO,h0,h2,h4,h7,h8,h10,g0,zdL,zfd,hx,hX,hlt,zee,hA,hA2,atE,zgJ,zii,zfx,i1,i2,i3,i4,tmF,zfR,zfh,zgV,vF,hw1,zaM];refine zp9 (M21 r c at' l n d s.h s.c 1 [[.f (.i .i64 1),.f (.i .i64 v),.f (.s [])]]) ⟨?_,?_,?_,s.c+1+1+1+1+1+1+1+1+1,?_,?_,?_,?_⟩ ?_
   .simp -implicitDefEqProofs [rW,h0,h2,h4,h7,h8,h10,g0,h9,i1,i2,i3,i4]
   .simp -implicitDefEqProofs [rW,];omega
   .intro j hj;have i5:¬j=s.c:=by omega
    have i6:¬j=s.c+1:=by omega
    have i7:¬j=s.c+1+1+1+1+1+1+1+1+1:=by omega
    simp -implicitDefEqProofs [rW,i5,i6,i7]
   .omega
   .simp -implicitDefEqProofs [rW,]
   .simp -implicitDefEqProofs [rW,]
   .simp -implicitDefEqProofs [rW,]
   .have hoid:∀x,d.oid=some x->x<s.c:=fun x hx2=>(zWS hg hx2).2
    clear h0 h2 h4 h7 h8 h10 h9 g0 i1 i2 i3 i4;generalize s.c=B at hc hg hR hoid;generalize s.h=H at hg hR;rintro s ⟨⟨h0,h2,h4,h7,h8,h10,h12,h9,g0⟩,hB,hH,id,j1,j2,h11,gr⟩;have i1:¬0=s.c:=by omega
    have i2:¬s.c=0:=by omega
    have i3:¬0=s.c+1:=by omega
    have i4:¬s.c=s.c+1:=by omega
    have e1:¬id=s.c:=by omega
    have e2:¬id=s.c+1:=by omega
    have e3:¬s.c=id:=by omega
    have e4:¬s.c+1=id:=by omega
    refine round ?_;simp -implicitDefEqProofs [zaS,rR,apO,h0,h2,h4,h7,h8,h10,h12,g0,zdL,zfd,hx,hX,hlt,zee,hA,hA2,atE,zgJ,zii,zfx,i1,i2,i3,i4,tmF,zfR,zfh,zgV,vF,hw1,zaM,e1,e2,e3,e4];refine round ?_;simp -implicitDefEqProofs [zaS,rR,apO,h0,h2,h4,h7,h8,h10,h12,g0,zdL,zfd,hx,hX,hlt,zee,hA,hA2,atE,zgJ,zii,zfx,i1,i2,i3,i4,tmF,zfR,zfh,zgV,vF,hw1,zaM,e1,e2,e3,e4];refine zaV ?_;simp -implicitDefEqProofs [zaS,rR,apO,h0,h2,h4,h7,h8,h10,h12,g0,zdL,zfd,hx,hX,hlt,zee,hA,hA2,atE,zgJ,zii,zfx,i1,i2,i3,i4,tmF,zfR,zfh,zgV,vF,hw1,zaM,e1,e2,e3,e4];refine round ?_;simp -implicitDefEqProofs [zaS,rR,apO,h0,h2,h4,h7,h8,h10,h12,g0,zdL,zfd,hx,hX,hlt,zee,hA,hA2,atE,zgJ,zii,zfx,i1,i2,i3,i4,tmF,zfR,zfh,zgV,vF,hw1,zaM,e1,e2,e3,e4,h11,gr];refine⟨by omega,?_⟩;refine zp9 (M21 r c at' l n d H B 2 [[.f (.i .i64 1),.f (.i .i64 v),.f (.s [])],[.f (.i .i64 1),.f (.i .i64 m),.f (.s [])]]) ⟨?_,?_,?_,s.c+1+1+1+1+1+1+1+1+1,?_,?_,?_,?_⟩ ?_
    .simp -implicitDefEqProofs [rW,h0,h2,h4,h7,h8,h10,g0,h9,i1,i2,i3,i4,e1,e2,e3,e4,hw2,show ¬0=id by omega]
    .simp -implicitDefEqProofs [rW,];omega
    .intro j hj;rw[<-hH j hj];have i5:¬j=s.c:=by omega
     have i6:¬j=s.c+1:=by omega
     have i7:¬j=s.c+1+1+1+1+1+1+1+1+1:=by omega
     have i8:¬j=id:=by omega
     simp -implicitDefEqProofs [rW,i5,i6,i7,i8]
    .omega
    .simp -implicitDefEqProofs [rW,]
    .simp -implicitDefEqProofs [rW,]
    .simp -implicitDefEqProofs [rW,]
    .clear h0 h2 h4 h7 h8 h10 h9 h12 g0 i1 i2 i3 i4 e1 e2 e3 e4 j1 j2 h11 gr hB hH;rintro s ⟨⟨h0,h2,h4,h7,h8,h10,h12,h9,g0⟩,hB,hH,id,j1,j2,h11,gr⟩;refine round ?_;simp -implicitDefEqProofs [rW,h0,h2,h4,h7,h8,h10,h12,h9,g0,h11,gr,zdL,zfd,hx,hX,hlt,zee,hA,hA2,atE,zgJ,zii,zfx,hw,zsG];rw[show(om (none:Option (List F)) fun y=>some [y])=none from rfl,zsG];simp -implicitDefEqProofs [rW,];have n1:∀j,j<s.c->(s.h.set s.c (Ob.arr 1 0 [[D.sl id 0 2 3 2 false]])).get j=s.h.get j:=fun j hj=>by
      have:¬j=s.c:=by omega
      simp[TG,this]
     have hg2:=zyt (h':=s.h.set s.c (Ob.arr 1 0 [[D.sl id 0 2 3 2 false]])) (c':=s.c+1) hg (by omega) fun j _ hj=>by rw[n1 j (by omega)];exact hH j hj
     refine zuz hg2 (by omega) (by simp only[Z23,Z170];omega) (by omega) ?_;intro r2 k1 k2 k3 k4 k5;have o0:d.oid≠some 0:=zaaq hg (by omega);have g00:=k4 0 (by omega) o0;rw[n1 0 (by omega),g0]at g00;have oi:d.oid≠some id:=fun e=>by have:=hoid id e;omega
     have gi:=k4 id (by omega) oi;rw[n1 id (by omega),gr]at gi;refine⟨k1,?_⟩;rw[zc0];refine⟨l.length - (n+1),by omega,n+1,rfl,by omega,?_,r2.d,els++[[.sl id 0 2 3 2 false]],?_,?_,?_,?_⟩
     .simp -implicitDefEqProofs [rW,h0,h2,h4,h7,h8,g00,hw]
     .simp -implicitDefEqProofs [rW,]
     .simp -implicitDefEqProofs [rW,];omega
     .simp -implicitDefEqProofs [rW,];exact k2
     .simp -implicitDefEqProofs [rW,];rw[hS];refine zyV (by omega) (by omega) (fun e=> ?_) gi (zHV (B:=B) (o:=d.oid) (by omega) (fun j hj ho=> ?_) (fun j hj ho e=> ?_) hR)
      .rcases k5 id e with h|h
       .omega
       .exact oi h
      .rw[k4 j (by omega) ho,n1 j (by omega)];exact hH j hj
      .rcases k5 j e with h|h
       .omega
       .exact ho h
  .obtain rfl:n=l.length:=by omega
   rw[Z7]at hR;simp -implicitDefEqProofs [rW,h0,h2,h4,h7,h8,h10,g0,zdL];refine⟨hn,?_,d,els,?_,?_,?_,?_⟩
   .simp -implicitDefEqProofs [rW,h0,h2,h4,h7,h8,h10,g0]
   .simp -implicitDefEqProofs [rW,h9]
   .simp -implicitDefEqProofs [rW,hc]
   .simp -implicitDefEqProofs [rW,];exact hg
   .simp -implicitDefEqProofs [rW,];exact hR
 .simp -implicitDefEqProofs [rW,]
 .simp -implicitDefEqProofs [rW,]
 .simp -implicitDefEqProofs [rW,]
 .rintro x s ⟨rfl,hn,⟨h0,h2,h4,h7,h8,h10,g0⟩,d,els,h9,hc,hg,hR⟩;rw[Z7]at hR;obtain⟨rd0,hf0⟩ :=zBR 9 hR;obtain⟨rd,hf⟩ :=zJx (k:=11) hg hf0 (by rw[Z182,<-Z17,<-Z17,zuM hR]);simp -implicitDefEqProofs [rW,h9,hf];rfl
end Go.Proofs.YtlmnmaginhebdaaGreatDoor
end
