/- Small functions, the form of data (ported from seat17b). -/
import Derived.Test.YtkcnnkncapiohaaGreatDoorHb
import Derived.Test.YtkcnnkncapiohaaGreatDoorAll
import Derived.Test.YtkcnnkncapiohaaGreatDoorVe
import Derived.KernelRfl
import Derived.IntWalk
set_option linter.all false
set_option maxRecDepth 100000
set_option maxHeartbeats 4000000
section
namespace Go.Proofs.YtkcnnkncapiohaaGreatDoor
open Go Go.Vse Go.Vse.Sm
def fn156:pr.fn 156=some zBv:=by kernel_rfl
def zgO(a b:Int):Int:=if a=b then 0 else if a<b then -1 else 1
def zv9(a b:Int):Ans pr 156 [.ag (vF a),.ag (vF b)] (.i .i64 (zgO a b)):=by
 refine zbN fn156 ?_;simp only[zBv,rU];unfold zgO;have hl:Go.Op.bytesLess [] []=false:=rfl
 by_cases h1:a=b
 .subst h1;simp -implicitDefEqProofs [rR,st0,zal,vF,hl]
 .by_cases h2:a<b
  .simp -implicitDefEqProofs [rR,st0,zal,vF,hl,h1,h2]
  .simp -implicitDefEqProofs [rR,st0,zal,vF,hl,h1,h2]
def tv:Trm->Str
 | .var s=>s
 | .cst _=>[]
def tk:Trm->Int
 | .var _=>0
 | .cst _=>1
def tn:Trm->Int
 | .var _=>0
 | .cst n=>n
def tmE(t:Trm):tmF t=[.s (tv t),.i .i64 (tk t),.i .i64 (tn t),.s []]:=by cases t<;>rfl
def zjO(l:List Trm):F:=slc 4 (l.map tmF)
def wrap_i64(n:Int)(h:0<=n)(h2:n<9223372036854775808):IntKind.i64.wrap n=n:=IntWalk.i64_in n (by omega)
def zaB(n:Nat)(h:n<1000000):IntKind.i64.wrap ((n:Int)+1)=((n+1:Nat):Int):=wrap_i64 _ (by omega) (by omega)
def za5(l:List Str):(zbh l).d= .f (zbh l):=zeI ..
def zfb(l:List Str):zbj (.f (zbh l))=some l.length:=by simp[zbh,zdp]
def zi4(l:List Str)(n:Nat):iaB 1 (.f (zbh l)) n=(l[n]?).map fun s=>D.fptr [.s s]:=by simp[zbh,zd6,Z67]
def zh2(l:List Trm):(zjO l).d= .f (zjO l):=zeI ..
def zhh(l:List Trm):zbj (.f (zjO l))=some l.length:=by simp[zjO,zdp]
def zx3(l:List Trm)(n:Nat):iaB 4 (.f (zjO l)) n=(l[n]?).map fun t=>D.fptr (tmF t):=by simp[zjO,zd6,Z67]
def zmM(a b:Int):(zgO a b==0)=decide (a=b):=by
 unfold zgO
 by_cases h:a=b
 .simp[h]
 .simp only[h,Z63,decide_false];split<;>rfl
def zNz(a b:Int):(zgO a b != 0)=decide (a≠b):=by
 rw[bne,zmM];simp
def zNx(a b:Int):(zgO a b<0)=(a<b):=by
 unfold zgO
 by_cases h:a=b
 .simp[h]
 .simp only[h,Z63];split<;>simp_all
def zNw(a b:Int):(zgO a b<=0)=(a<=b):=by
 unfold zgO
 by_cases h:a=b
 .simp[h]
 .simp only[h,Z63];split
  .simp;omega
  .simp;omega
def zdq(c:CQ):F:=csF c
def zdU(c:CQ):F:=Sm.asF c
def zea(c:CQ):(zdq c).d= .f (zdq c):=by
 unfold zdq csF;split
 .rfl
 .exact zeI ..
def zgb(c:CQ):zbj (.f (zdq c))=some c.cs.length:=by
 unfold zdq csF;split
 .rename_i h;rw[h.2];rfl
 .simp[zdp]
def zeU(c:CQ)(n:Nat):iaB 9 (.f (zdq c)) n=(c.cs[n]?).map fun t=>D.fptr (cmF t):=by
 unfold zdq csF;split
 .rename_i h;rw[h.2];rfl
 .simp[zd6,Z67]
def zdL(c:CQ):(zdU c).d= .f (zdU c):=by
 unfold zdU Sm.asF;split
 .rfl
 .exact zeI ..
def zdr(c:CQ):zbj (.f (zdU c))=some c.as.length:=by
 unfold zdU Sm.asF;split
 .rename_i h;rw[h.2];rfl
 .simp[zdp]
def zfi(c:CQ)(n:Nat):iaB 3 (.f (zdU c)) n=(c.as[n]?).map fun t=>D.fptr (atF t):=by
 unfold zdU Sm.asF;split
 .rename_i h;rw[h.2];rfl
 .simp[zd6,Z67]
def cqE(c:CQ):cqF c=[zdU c,zdq c]:=rfl
def atE(a:Atm):atF a=[.s a.r,.b a.neg,zjO a.ts]:=rfl
def zc0(l:List Trm):List (List D):=(l.map tmF).map fun a=>a.map D.f
def zfM:zuy pr:=zG6 prOk
def zaQ(l:List Str):List (List D):=l.map fun s=>[D.f (.s s)]
def zaW(l:List Str):(zaQ l).length=l.length:=by simp[zaQ]
def ziC(l:List Str):(zaQ l).take l.length=zaQ l:=by rw[<-zaW l,Z7]
def zeF(h:Nat->Option Ob)(k:Nat)(l:List Str):zaU (frz h (k+1)) (zaQ l)=some (l.map fun s=>[F.s s],[]):=zKt h k F.s l
def zlM{l:List Str}(h:l≠[]):F.sl 1 (l.map fun s=>[F.s s])=zbh l:=zhg (by simpa using h)
def zi3{h:T Ob}{lo c es k:Nat}{d:D}{els:List (List D)}{L:List (List F)}(hg:Gro h lo c es d els)(hf:zaU (frz h.get k) els=some (L,[]))(hL:L=[]↔els=[]):∃rd,frz h.get (k+1) d=some (slc es L,rd):=by
 rcases hg with⟨rfl,rfl⟩ |⟨id,ro,rfl,he,ho,hr,hl,hc⟩
 .rw[hL.2 rfl];exact⟨[],rfl⟩
 .refine⟨[id],?_⟩;rw[zfQ,ho,zcE,zfC];simp only[true_and,Z25,Z2,Z60,Z34,Z7,hf,zcE];rw[zhg (fun e=>he (hL.1 e))]
def zcC{h:T Ob}{lo c es:Nat}{d:D}{els:List (List D)}(hg:Gro h lo c es d els){i:Nat}(hi:i<lo):d.oid≠some i:=by
 rcases hg with⟨rfl,_⟩ |⟨id,ro,rfl,_,_,_,hl,_⟩
 .simp[D.oid]
 .simp[D.oid];omega
def qsF(l:List CQ):F:=slc 2 (l.map cqF)
def zpe(l:List CQ):(qsF l).d= .f (qsF l):=zeI ..
def zjF(l:List CQ):zbj (.f (qsF l))=some l.length:=by simp[qsF,zdp]
def zvz(l:List CQ)(n:Nat):iaB 2 (.f (qsF l)) n=(l[n]?).map fun c=>D.fptr (cqF c):=by simp[qsF,zd6,Z67]
def tmD(u:Trm):List D:=[.f (.s (tv u)),.f (.i .i64 (tk u)),.f (.i .i64 (tn u)),.f (.s [])]
def zMl(l:List Trm)(n:Nat)(h:n<l.length):(zc0 l)[n]? =some (tmD l[n]):=by
 simp[zc0,tmD,tmE,Z0 h]
def tv_c(n:Int):tv (.cst n)=[]:=rfl
def cmD(k:Cm):List D:= .f (.i .i64 k.op)::(tmD k.l++tmD k.r)
def slO(es id off len es' lim:Nat)(ex:Bool)(l r:Nat):Ob->Option (D×List Nat)
 | .arr es'' _ _=>if es=es'/\es'=es''/\l<=r/\(off+r<=lim\/r<=len)then some (.sl id (off+l) (r - l) es lim ex,[id])else none
 |_=>none
def zPj{es id off len es' lim:Nat}{ex:Bool}{l r es'' ro:Nat}{els:List (List D)}:slO es id off len es' lim ex l r (.arr es'' ro els)=if es=es'/\es'=es''/\l<=r/\(off+r<=lim\/r<=len)then some (.sl id (off+l) (r - l) es lim ex,[id])else none:=rfl
def sb_sl{es:Nat}{h:Nat->Option Ob}{id off len es' lim:Nat}{ex:Bool}{lo hi:Option D}:sliceB es h (.sl id off len es' lim ex) lo hi none=om (h id) fun o=>om (za9 0 lo) fun l=>om (za9 len hi) fun r=>slO es id off len es' lim ex l r o:=by
 simp only[sliceB,om];cases h id with
 |none=>rfl
 |some o=>
  cases o with
  |map _=>
   simp only[Z46];cases za9 0 lo with
   |none=>rfl
   |some l=>simp only[Z46];cases za9 len hi<;>rfl
  |arr es'' ro els=>
   simp only[Z46];cases za9 0 lo with
   |none=>rfl
   |some l=>simp only[Z46];cases za9 len hi<;>rfl
theorem zb6{h:T Ob}{lo c es byt:Nat}{d:D}{els new:List (List D)}{rd:List Nat}{K:Rs->Prop}(hg:Gro h lo c es d els)(hlo:lo<=c)(hlen:els.length+new.length<=1000000)(hb:byt<=1000)
  (hK:∀r:Rs,zaC r.c r.wr=true->Gro (wrT h r.wr) lo r.c es r.d (els++new)->c<=r.c->(∀id,id<c->d.oid≠some id->(wrT h r.wr).get id=h.get id)->(∀x,r.d.oid=some x->x=c\/d.oid=some x)->K r):oB (zca es byt h.get c d new rd) K:=by
 obtain⟨r,h1,h2,h3,h4,h5,h6,h7,h8⟩ :=zzd (byt:=byt) (rd:=rd) hg hlo hlen hb;rw[h1];exact hK r h2 h3 h4 h5 h8
def zbf{h:T Ob}{lo c es:Nat}{d:D}{els:List (List D)}(hg:Gro h lo c es d els){x:Nat}(hx:d.oid=some x):lo<=x/\x<c:=by
 rcases hg with⟨rfl,_⟩ |⟨id,ro,rfl,h2,h3,h4,h5,h6⟩
 .simp[D.oid]at hx
 .simp[D.oid]at hx;omega
def zmS(l:List CQ):List (List D):=l.map fun c=>[D.f (zdU c),D.f (zdq c)]
def zwz(l:List CQ):(zmS l).length=l.length:=by simp[zmS]
def ztw(l:List CQ)(c:CQ):zmS (l++[c])=zmS l++[[D.f (zdU c),D.f (zdq c)]]:=by simp[zmS]
def zHf(h:Nat->Option Ob)(k:Nat)(l:List CQ):zaU (frz h (k+1)) (zmS l)=some (l.map cqF,[]):=by
 have:=zhO h k (l.map cqF);rw[Z33]at this;exact this
def Own(h:T Ob)(lo c:Nat)(d:D)(X:F):Prop:=(d= .f X\/∃a b e f g x,d= .sl a b e f g x)/\d.cells=some [d]/\(∀x,d.oid=some x->lo<=x/\x<c)/\∀h':T Ob,(∀x,d.oid=some x->h'.get x=h.get x)->∀k,∃rd,frz h'.get (k+2) d=some (X,rd)
def zoe{h:T Ob}{lo c es:Nat}{d:D}{rows:List (List F)}(hg:Gro h lo c es d (rows.map fun a=>a.map D.f)):Own h lo c d (slc es rows):=by
 refine⟨?_,zbW hg,fun x hx=>zbf hg hx,fun h' hh k=> ?_⟩
 .rcases hg with⟨rfl,hr⟩ |⟨id,ro,rfl,hn,hg,hr,hl,hc⟩
  .have:rows=[]:=by simpa using hr
   subst this;exact .inl rfl
  .exact .inr ⟨_,_,_,_,_,_,rfl⟩
 rcases hg with⟨rfl,hr⟩ |⟨id,ro,rfl,hn,hg,hr,hl,hc⟩
 .have:rows=[]:=by simpa using hr
  subst this;exact⟨[],rfl⟩
 .refine⟨[id],?_⟩;have h1:=hh id rfl;rw[zfQ,h1,hg,zcE,zfC];simp only[true_and,Z25,Z2,Z60,Z34,Z7,zhO h'.get k rows,zcE];rw[zhg (fun e=>hn (by rw[e];rfl))]
def vD(n:Int):List D:=[.f (.i .i64 1),.f (.i .i64 n),.f (.s [])]
def zMn(t:Trm):(tmF t).map D.f=tmD t:=by cases t<;>rfl
def zb8(k:Cm):Prop:=zaO k.l/\zaO k.r
def zb2(a:Atm):Prop:=(∀t∈a.ts,zaO t)/\a.ts.length<1000
structure zGJ(c:CQ):Prop where
 «as» :∀a∈c.as,zb2 a
 cs:∀k∈c.cs,zb8 k
 la:c.as.length<1000
 lc:c.cs.length<1000
def zgn(l:List Trm):(zc0 l).length=l.length:=by simp[zc0]
def zz7(l m:List Trm):zc0 l++zc0 m=zc0 (l++m):=by simp[zc0]
structure CqSm(c:CQ):Prop extends zGJ c where
 sa:c.as.length<=12
 st:∀a∈c.as,a.ts.length<=12
 sc:c.cs.length<=12
 s2:∀a∈c.as,a.ts.length<=2
def zcQ(l:List Str)(s:Str):List Str:=if s=[]\/l.any (· ==s)=true then l else l++[s]
def zpq{l:List Str}(h:zaQ l=[]):l=[]:=by simpa [zaQ]using h
def zdi(l:List Str)(ts:List Trm):List Str:=ts.foldl (fun l t=>zcQ l (tv t)) l
def vrs(c:CQ):List Str:=c.cs.foldl (fun l k=>zcQ (zcQ l (tv k.l)) (tv k.r)) (c.as.foldl (fun l a=>zdi l a.ts) [])
def zlq(l:List Str)(s:Str):(zcQ l s).length<=l.length+1:=by
 unfold zcQ;split
 .omega
 .simp
def zj2(ts:List Trm):∀l:List Str,(zdi l ts).length<=l.length+ts.length:=by
 unfold zdi
 induction ts with
 |nil=>intro l;simp
 |cons t ts ih=>
  intro l;have h1:=zlq l (tv t);have h2:=ih (zcQ l (tv t));simp only[Z42,Z23];omega
def fn73:pr.fn 73=some g73:=by kernel_rfl
def fn32:pr.fn 32=some g32:=by kernel_rfl
def fn72:pr.fn 72=some g72:=by kernel_rfl
def fn31:pr.fn 31=some g31:=by kernel_rfl
def ixP{α:Type}(l:List α)(p:α->Bool):Int:=match l.findIdx? p with
 |some n=>n
 |none=> -1
def zKD{α:Type}{l:List α}{p:α->Bool}(h:∀a∈l,p a=false):ixP l p= -1:=by
 have:l.findIdx? p=none:=Z43.2 h;simp[ixP,this]
def zSu{α:Type}{l:List α}{p:α->Bool}{n:Nat}(h:n<l.length)(h1:p l[n]=true)(h2:∀m (h':m<n),p (l[m]'(by omega))=false):ixP l p=n:=by
 have:l.findIdx? p=some n:=by
  rw[Z26];exact⟨h,h1,fun j hj=>by simpa using h2 j hj⟩
 simp[ixP,this]
def zSt{α:Type}(l:List α)(p:α->Bool):decide (ixP l p≥0)=l.any p:=by
 cases h:l.any p with
 |true=>
  unfold ixP;cases h2:l.findIdx? p with
  |some n=>simp
  |none=>rw[Z43]at h2;simp at h;obtain⟨x,hx,hp⟩ :=h;rw[h2 x hx]at hp;cases hp
 |false=>
  have:=zKD (l:=l) (p:=p) (by simpa using h);simp[this]
def ans73(l:List Str)(x:Str)(hl:l.length<1000000):Ans pr 73 [zbh l,.s x] (.i .i64 (ixP l (x== ·))):=by
 refine zbN fn73 ?_;simp only[g73,rU];simp[rW,st0,zal,za5,zfb];refine zvo l (x== ·) (fun n s=>s.tm.get 0=some (.f (zbh l))/\s.tm.get 1=some (.f (.s x))/\s.tm.get 7=some (.f (.i .i64 l.length))/\s.tm.get 8=some (.f (.i .i64 n))) (fun x s=>x= .exit 0) (fun n y s=>y= .ret/\s.tm.get 4=some (.f (.i .i64 n))) ?_ ?_ _ ?_ ?_ ?_
 .rintro n s hn ⟨h0,h1,h7,h8⟩;have hw:=zaB n (by omega)
  by_cases he:x=l[n]
  .simp[rW,h0,h1,h7,h8,zfb,zi4,hn,he]
  .simp[rW,h0,h1,h7,h8,zfb,zi4,hn,he,hw]
 .rintro s ⟨h0,h1,h7,h8⟩;simp[rW,h0,h1,h7,h8,zfb]
 .simp[rW,st0,zal]
 .rintro h x s rfl;rw[zKD h];simp[rW,st0]
 .rintro n hn hp hm x s ⟨rfl,h4⟩;rw[zSu hn hp hm];simp[rW,h4]
def zGR(l:List Str)(x:Str):l.any (x== ·)=l.any (· ==x):=by
  congr 1;funext a;exact Bool.beq_comm
def zJq(l:List Str)(x:Str)(hl:l.length<1000000):Ans pr 32 [zbh l,.s x] (.b (l.any (· ==x))):=by
  refine zbN fn32 ?_;simp only[g32,rU];have q:=fun k=>zad (k:=k) (ans73 l x hl)
  have e:=zSt l (x== ·);rw[zGR]at e;rw[<-e];simp[rW,st0,zal,za5,q]
def tsA(c:CQ):List Trm:=c.as.flatMap (·.ts)
def ts2(k:Cm):List Trm:=[k.l,k.r]
def tsC(c:CQ):List Trm:=tsA c++c.cs.flatMap ts2
def zx1(l:List Trm):(zc0 l).take l.length=zc0 l:=by rw[<-zgn l,Z7]
theorem zix{α β:Type}(f:α->List β)(m:Nat):∀(l:List α),(∀a∈l,(f a).length<=m)->(l.flatMap f).length<=m*l.length
 |[],_=>by simp
 |a::l,h=>by
  have h1:=h a (by simp);have h2:=zix f m l fun b hb=>h b (by simp[hb])
  rw[Z92,Z16,Z23,Z179];omega
def zPu{c:CQ}(hc:CqSm c):(tsC c).length<=48:=by
 have h1:=zix (·.ts) 2 c.as hc.s2;have h2:=zix ts2 2 c.cs (by simp[ts2]);have:=hc.sa;have:=hc.sc;simp only[tsC,tsA,Z16];omega
theorem zjt{α β:Type}(f:α->List β):∀(l:List α) (x:List β),l.foldl (fun x a=>x++f a) x=x++l.flatMap f
 |[],x=>by simp
 |a::l,x=>by rw[Z42,zjt f l,Z92,Z32]
def zJX(k:Cm):(cmF k).map D.f=cmD k:=by
 unfold cmF cmD;rw[Z10,Z20,zMn,zMn]
def zJM(c:CQ):(D.f (zdq c)).cells=some [.f (zdq c)]:=by
 unfold zdq csF;split
 .rfl
 .exact zdk _ _
def zJL(c:CQ):(D.f (zdU c)).cells=some [.f (zdU c)]:=by
 unfold zdU Sm.asF;split
 .rfl
 .exact zdk _ _
def zze{h h':T Ob}{lo c c' es:Nat}{d:D}{els:List (List D)}(hg:Gro h lo c es d els)(hF:d.isF=true):Gro h' lo c' es d els:=by
 rcases hg with hg|⟨id,ro,rfl,_⟩
 .exact .inl hg
 .simp[D.isF]at hF
def zk3{h:T Ob}{lo lo' c es:Nat}{d:D}{els:List (List D)}(hg:Gro h lo c es d els)(hl:lo'<=lo):Gro h lo' c es d els:=by
 rcases hg with hg|⟨id,ro,h1,h2,h3,h4,h5,h6⟩
 .exact .inl hg
 .exact .inr ⟨id,ro,h1,h2,h3,h4,by omega,h6⟩
def zhP{h:T Ob}{lo c es:Nat}{d:D}{els:List (List D)}(hg:Gro h lo c es d els){n:Nat}(hn:n<els.length):∃id ro,iaB es d n=some (.ptr id es n 0)/\h.get id=some (.arr es ro els)/\lo<=id/\id<c:=by
 rcases hg with⟨-,h2⟩ |⟨id,ro,rfl,h2,h3,h4,h5,h6⟩
 .subst h2;simp at hn
 .exact⟨id,ro,by simp[zqw,hn],h3,h5,h6⟩
structure RdQ(h:T Ob)(c:Nat)(dA dC:D)(q:CQ):Prop where
 ca:dA.cells=some [dA]
 cc:dC.cells=some [dC]
 la:zbj dA=some q.as.length
 lc:zbj dC=some q.cs.length
 aa:∀n (hn:n<q.as.length),∃p tr rd rd2,iaB 3 dA n=some p/\tr.cells=some [tr]/\∀h':T Ob,Frm h h' c->zcb true 3 h'.get p=some (.ag [.f (.s q.as[n].r),.f (.b q.as[n].neg),tr],rd)/\elemsOf 4 h'.get tr=some (zc0 q.as[n].ts,rd2)
 kk:∀n (hn:n<q.cs.length),∃p rd,iaB 9 dC n=some p/\∀h':T Ob,Frm h h' c->zcb true 9 h'.get p=some (.ag (cmD q.cs[n]),rd)
def zju{h h1 h2:T Ob}{c c':Nat}(a:Frm h h1 c)(b:Frm h1 h2 c')(hc:c<=c'):Frm h h2 c:=fun x hx=>(b x (by omega)).trans (a x hx)
def RdQ.up{h h':T Ob}{c c':Nat}{dA dC:D}{q:CQ}(H:RdQ h c dA dC q)(hf:Frm h h' c)(hc:c<=c'):RdQ h' c' dA dC q:=
 ⟨H.ca,H.cc,H.la,H.lc,fun n hn=>by
  obtain⟨p,tr,rd,rd2,h1,h2,h3⟩ :=H.aa n hn;exact⟨p,tr,rd,rd2,h1,h2,fun h2 hh=>h3 h2 (zju hf hh hc)⟩,fun n hn=>by
  obtain⟨p,rd,h1,h3⟩ :=H.kk n hn;exact⟨p,rd,h1,fun h2 hh=>h3 h2 (zju hf hh hc)⟩⟩
def T1(h:T Ob)(c0:Nat)(dA dC:D)(c:CQ)(l:List Trm)(n:Nat)(s:St):Prop:=∃d,s.tm.get 1=some (.ptr c0 2 0 0)/\s.tm.get 11=some (.f (.i .i64 n))/\s.tm.get 9=some (dA)/\s.tm.get 10=some (.f (.i .i64 c.as.length))/\s.tm.get 3=some (d)/\s.h.get c0=some (.arr 2 0 [[dA,dC]])/\Gro s.h (c0+1) s.c 4 d (zc0 l)/\c0+1<=s.c/\Frm h s.h c0
def T2(h:T Ob)(c0:Nat)(dC:D)(c:CQ)(l:List Trm)(n:Nat)(s:St):Prop:=∃d,s.tm.get 23=some (.f (.i .i64 n))/\s.tm.get 21=some (dC)/\s.tm.get 22=some (.f (.i .i64 c.cs.length))/\s.tm.get 3=some (d)/\Gro s.h (c0+1) s.c 4 d (zc0 l)/\c0+1<=s.c/\Frm h s.h c0
def eff72(c:CQ)(hc:CqSm c){h:T Ob}{c0:Nat}{dA dC:D}(hr:RdQ h c0 dA dC c):Eff pr 72 [.ag [dA,dC]] h c0 fun d h' c'=>Frm h h' c0/\Gro h' c0 c' 4 d (zc0 (tsC c)):=by
 refine zfZ zfM fn72 ?_;simp only[g72,rU];simp[rW,st0,zal,hr.ca,hr.cc,hr.la];refine zgd c.as (fun x a=>x++a.ts) [] (fun n a s=>T1 h c0 dA dC c a n s) (fun x s=>x= .exit 0/\∃n,T1 h c0 dA dC c (tsA c) n s) ?_ ?_ _ ?_ ?_
 .rintro n a s hn ha ⟨d,h1,h11,h9,h10,h3,gc0,hg,hc1,hf⟩;have hw:=zaB n (by have:=hc.sa;omega);have hal:a.length<=144:=by
   rw[zjt,Z28]at ha;have:=zix (fun a:Atm=>a.ts) 12 (c.as.take n) fun b hb=>hc.st b (Z13 hb)
   rw[<-ha]at this;have:=hc.sa;simp at*;omega
  have hst:=hc.st _ (Z1 hn);obtain⟨p,tr,rd,rd2,hp1,hp2,hp3⟩ :=hr.aa n hn;have hp4:=(hp3 s.h hf).1;have hp5:=fun o o'=>(hp3 ((s.h.set s.c o).set s.c o') fun x hx=>by
   have nx:¬x=s.c:=by omega
   simp[TG,nx,hf x hx]).2
  generalize hA:c.as[n]=A at hst hp4 hp5|-;have c0c:¬(c0=s.c):=by omega
  simp[rW,h1,h11,h9,h10,h3,gc0,hn,hA,hp1,hp2,hp4,hp5];refine zEO (zbB (c':=s.c+1) hg (by omega) fun id _ h2=> ?_) (by omega) (by simp only[zgn];omega) (by omega) ?_
  .rw[TG,Z49 (by omega),TG,Z49 (by omega)]
  .intro r hr1 hr2 hr3 hr4 _ _;have e0:=hr4 c0 (by omega) (zcC hg (by omega));rw[TG,Z49 c0c,TG,Z49 c0c,gc0]at e0;refine⟨hr1,?_⟩;simp[rW,h1,h11,h9,h10,h3,gc0,e0,hw,T1];rw[<-zz7];refine⟨hr2,by omega,fun x hx=> ?_⟩;have nx:¬x=s.c:=by omega
   rw[hr4 x (by omega) (zcC hg (by omega))];simp[TG,nx,hf x hx]
 .rintro s ⟨d,h1,h11,h9,h10,h3,gc0,hg,hc1,hf⟩;rw[zjt,Z28]at hg;simp[rW,h1,h11,h9,h10,h3,gc0,T1,hc1];exact⟨⟨_,rfl⟩,hg,hf⟩
 .simp[rW,T1];refine⟨.inl ⟨rfl,rfl⟩,fun x hx=> ?_⟩;have nx:¬x=c0:=by omega
  simp[TG,nx]
 .rintro x s ⟨rfl,n,d,h1,h11,h9,h10,h3,gc0,hg,hc1,hf⟩;simp[rW,h1,h11,h9,h10,h3,gc0,hr.lc];have hl0:(tsA c).length<=144:=by
   have:=zix (fun a:Atm=>a.ts) 12 c.as hc.st;have:=hc.sa;unfold tsA;omega
  refine zgd c.cs (fun x k=>x++ts2 k) (tsA c) (fun n a s=>T2 h c0 dC c a n s) (fun x s=>x= .exit 2/\∃n,T2 h c0 dC c (tsC c) n s) ?_ ?_ _ ?_ ?_
  .rintro n a s hn ha ⟨d,h23,h21,h22,h3,hg,hc1,hf⟩;have hw:=zaB n (by have:=hc.sc;omega);have hal:a.length<=168:=by
    rw[zjt]at ha;have:=zix ts2 2 (c.cs.take n) (by simp[ts2]);rw[ha,Z16];have:=hc.sc;simp at*;omega
   obtain⟨p,rd,hp1,hp3⟩ :=hr.kk n hn;have hp4:=hp3 s.h hf;generalize hK:c.cs[n]=K at hp4;simp only[cmD,tmD,Z29,Z28]at hp4;simp[rW,h23,h21,h22,h3,hn,hK,hp1,hp4];refine zEO (zbB (c':=s.c+1) hg (by omega) fun id _ h2=> ?_) (by omega) (by simp only[zgn];simp;omega) (by omega) ?_
   .rw[TG,Z49 (by omega),TG,Z49 (by omega)]
   .intro r hr1 hr2 hr3 hr4 _ _;refine⟨hr1,?_⟩;simp[rW,h23,h21,h22,h3,hw,T2];rw[<-zz7];simp only[ts2,zc0,Z10,Z85,tmE]at hr2|-;refine⟨hr2,by omega,fun x hx=> ?_⟩;have nx:¬x=s.c:=by omega
    rw[hr4 x (by omega) (zcC hg (by omega))];simp[TG,nx,hf x hx]
  .rintro s ⟨d,h23,h21,h22,h3,hg,hc1,hf⟩;rw[zjt]at hg;simp[rW,h23,h21,h22,h3,T2,hc1];exact⟨⟨_,rfl⟩,hg,hf⟩
  .simp[rW,h1,h11,h9,h10,h3,gc0,T2,hc1,hg];exact hf
  .rintro x s ⟨rfl,n,d,h23,h21,h22,h3,hg,hc1,hf⟩;simp[rW,h3,zd0];exact⟨⟨hf,zk3 hg (by omega)⟩,fun _ hF=>⟨fun _ _=>rfl,zze (zk3 hg (by omega)) hF⟩⟩
def zmB(a b:List Trm)(x:List Str):zdi x (a++b)=zdi (zdi x a) b:=by simp[zdi]
def zrF(c:CQ):(tsC c).foldl (fun l t=>zcQ l (tv t)) []=vrs c:=by
 have h1:∀(l:List Atm) (x:List Str),zdi x (l.flatMap (·.ts))=l.foldl (fun l a=>zdi l a.ts) x:=by
  intro l
  induction l with
  |nil=>intro x;rfl
  |cons a l ih=>intro x;rw[Z92,zmB,ih];rfl
 have h2:∀(l:List Cm) (x:List Str),zdi x (l.flatMap ts2)=l.foldl (fun l k=>zcQ (zcQ l (tv k.l)) (tv k.r)) x:=by
  intro l
  induction l with
  |nil=>intro x;rfl
  |cons a l ih=>intro x;rw[Z92,zmB,ih];rfl
 show zdi [] (tsC c)=vrs c;unfold tsC vrs tsA;rw[zmB,h1,h2]
def zMh(l:List Str)(x:Str):zcQ l x=if x≠[]/\¬(l.any (· ==x)=true)then l++[x]else l:=by
  unfold zcQ
  by_cases h1:x=[]<;>by_cases h2:l.any (· ==x)=true<;>simp[h1,h2]
def VP(h1:T Ob)(P:Nat)(dT:D)(L:List Trm)(l:List Str)(n:Nat)(s:St):Prop:=∃d,s.tm.get 7=some (dT)/\s.tm.get 8=some (.f (.i .i64 L.length))/\s.tm.get 9=some (.f (.i .i64 n))/\s.tm.get 3=some (d)/\Gro s.h P s.c 1 d (zaQ l)/\P<=s.c/\Frm h1 s.h P
def zKp(c:CQ)(hc:CqSm c){h:T Ob}{c0:Nat}{dA dC:D}(hr:RdQ h c0 dA dC c):Eff pr 31 [.ag [dA,dC]] h c0 fun d h' c'=>Frm h h' c0/\Gro h' c0 c' 1 d (zaQ (vrs c)):=by
  refine zfZ zfM fn31 ?_;simp only[g31,rU];have hL:=zPu hc;have hv:=zrF c;have hfr:∀o,Frm h (h.set c0 o) c0:=fun o x hx=>by
    have nx:¬x=c0:=by omega
    simp[TG,nx]
  simp[rW,st0,zal,hr.ca,hr.cc];refine zez rfl rfl (eff72 c hc (hr.up (hfr _) (by simp only[rG];omega))) ?_;rintro dT h' c' lw mx ⟨hf,hg⟩ hcc;simp only[rG]at hf hg hcc;have hf0:Frm h h' c0:=zju (hfr _) hf (by omega);have hlen:zbj dT=some (tsC c).length:=by rw[zfD hg,zgn]
  generalize tsC c=L at hg hlen hL hv;simp[rW,hlen];refine zgd L (fun l t=>zcQ l (tv t)) [] (fun n a s=>VP h' c' dT L a n s) (fun x s=>x= .exit 0/\∃n,VP h' c' dT L (vrs c) n s) ?_ ?_ _ ?_ ?_
  . rintro n a s hn ha ⟨d,h7,h8,h9,h3,hgn,hc1,hfn⟩;have hw:=zaB n (by omega);have hal:a.length<=168:=by
      have:=zj2 (L.take n) [];rw[show zdi [] (L.take n)=a from ha.symm]at this;simp at this;omega
    have qa:=fun k=>zad (k:=k) (zJq a (tv L[n]) (by omega))
    rw[zMh];have m1:(1<=zax)=True:=zaH (by omega);have m2:(16<=zax)=True:=zaH (by omega);have m3:(a.length+1<=zax)=True:=zaH (by omega);have m4:((a.length+1)*16<=zax)=True:=zaH (by omega);have hlt:(a.length+1<=a.length)=False:=leF (by omega);obtain⟨X,r0,hi,gX,hX1,hX2⟩ :=zhP hg (n:=n) (by rw[zgn];exact hn);have gX':s.h.get X=some (.arr 4 r0 (zc0 L)):=by rw[hfn X hX2,gX]
    have ht:=zMl L n hn;have ht2:∀h:n< (zc0 L).length,(zc0 L)[n]=tmD L[n]:=fun h=>by
      rw[Z0 h]at ht;exact Z53 ht
    have hnt:n< (zc0 L).length:=by rw[zgn];exact hn
    have nX:¬X=s.c:=by omega
    have hfq:∀h2:T Ob,(∀x,x<c'->h2.get x=s.h.get x)->Frm h' h2 c':=fun h2 hh x hx=>(hh x hx).trans (hfn x hx)
    generalize hT:L[n]=T at qa ht ht2|-;simp only[tmD]at ht ht2
    by_cases hx:tv T=[]
    . simp[rW,h7,h8,h9,h3,hn,hi,gX',ht,ht2,hnt,hx,VP,hw,nX];exact⟨zbB hgn (by omega) fun id _ h2=>by rw[TG,Z49 (by omega),TG,Z49 (by omega)],by omega,hfq _ fun x hx=>by simp[TG,show ¬x=s.c by omega]⟩
    . have hx':tv T≠[]:=hx;rcases hgn with⟨rfl,hn0⟩ |⟨id,ro,rfl,hne,hid,hro,hlid,hidc⟩
      . have:=zpq hn0;subst this;rw[(show zbh []= .nils from rfl)]at qa;simp[rW,h7,h8,h9,h3,hn,hi,gX',ht,ht2,hnt,hx,qa,m1,m2,VP,hw,nX];exact⟨.inr ⟨s.c+1,0,rfl,by simp[zaQ],by simp[TG,zaQ],Z61 _,by omega,by omega⟩,by omega,hfq _ fun x hx=>by simp[TG,show ¬x=s.c by omega,show ¬x=s.c+1 by omega]⟩
      . rw[zaW]at*;have hl0:a≠[]:=fun e=>hne (by rw[e];rfl)
        have hz:=zlM hl0;have hic:¬id=s.c:=by omega
        have hci:¬s.c=id:=by omega
        have hidc':id<s.c+1:=by omega
        generalize a.any (· ==tv T)=b at qa|-;cases b with
        | true=>
          by_cases hr:a.length<=ro
          . simp[rW,h7,h8,h9,h3,hn,hi,gX',ht,ht2,hnt,hx,qa,VP,hw,nX,hid,zaW,zeF,hz,ziC,hic,hci,hidc',hr];exact⟨.inr ⟨id,ro,by rw[zaW],hne,by simp[TG,hic,hid],by rw[zaW];exact hro,hlid,by omega⟩,by omega,hfq _ fun x hx=>by simp[TG,show ¬x=s.c by omega,show ¬x=id by omega]⟩
          . simp[rW,h7,h8,h9,h3,hn,hi,gX',ht,ht2,hnt,hx,qa,VP,hw,nX,hid,zaW,zeF,hz,ziC,hic,hci,hidc',hr];exact⟨.inr ⟨id,a.length,by rw[zaW],hne,by simp[TG],by rw[zaW];omega,hlid,by omega⟩,by omega,hfq _ fun x hx=>by simp[TG,show ¬x=s.c by omega,show ¬x=id by omega]⟩
        | false=>
          by_cases hr:a.length<=ro
          . simp[rW,h7,h8,h9,h3,hn,hi,gX',ht,ht2,hnt,hx,qa,VP,hw,nX,hid,zaW,zeF,hz,ziC,hic,hci,hidc',hr,hro,m3,m4,hlt];exact⟨by omega,.inr ⟨s.c+1,ro,by simp[zaQ],by simp[zaQ],by simp[TG,zaQ],by rw[zaW,Z16];omega,by omega,by omega⟩,by omega,hfq _ fun x hx=>by simp[TG,Vse.T.zbU,show ¬x=s.c by omega,show ¬x=s.c+1 by omega,show ¬x=id by omega]⟩
          . simp[rW,h7,h8,h9,h3,hn,hi,gX',ht,ht2,hnt,hx,qa,VP,hw,nX,hid,zaW,zeF,hz,ziC,hic,hci,hidc',hr,hro,m3,m4,hlt];exact⟨by omega,.inr ⟨s.c+1,a.length,by simp[zaQ],by simp[zaQ],by simp[TG,zaQ],by rw[zaW,Z16];omega,by omega,by omega⟩,by omega,hfq _ fun x hx=>by simp[TG,Vse.T.zbU,show ¬x=s.c by omega,show ¬x=s.c+1 by omega,show ¬x=id by omega]⟩
  . rintro s ⟨d,h7,h8,h9,h3,hgn,hc1,hfn⟩;rw[hv]at hgn;simp[rW,h7,h8,h9,h3,VP,hc1];exact⟨⟨_,rfl⟩,hgn,hfn⟩
  . simp[rW,VP];exact⟨.inl ⟨rfl,rfl⟩,fun _ _=>rfl⟩
  . rintro x s ⟨rfl,n,d,h7,h8,h9,h3,hgn,hc1,hfn⟩;simp[rW,h3,zd0];exact⟨⟨zju hf0 hfn (by omega),zk3 hgn (by omega)⟩,fun _ hF=>⟨fun _ _=>rfl,zze (zk3 hgn (by omega)) hF⟩⟩
def zPt(l:List Trm)(i:Nat)(t:Trm):(zc0 l).set i (tmD t)=zc0 (l.set i t):=by
 simp[zc0,tmD,tmE,Z116]
def zf8(c:CQ):(vrs c).Nodup/\[]∉vrs c:=by
 have key:∀(l:List Str) (s:Str),(l.Nodup/\[]∉l)->(zcQ l s).Nodup/\[]∉zcQ l s:=by
  rintro l s ⟨h1,h2⟩;unfold zcQ;split
  .exact⟨h1,h2⟩
  .rename_i h;simp only[not_or,Z30,not_exists,not_and]at h;refine⟨Z90.2 ⟨h1,by simp,?_⟩,?_⟩
   .intro a ha b hb;simp at hb;subst hb;intro e;subst e;exact h.2 a ha (by simp)
   .simp only[Z4,Z31,not_or];exact⟨h2,fun e=>h.1 e.symm⟩
 rw[<-zrF];generalize tsC c=ts;have:∀(ts:List Trm) (l:List Str),(l.Nodup/\[]∉l)->(ts.foldl (fun l t=>zcQ l (tv t)) l).Nodup/\[]∉ts.foldl (fun l t=>zcQ l (tv t)) l:=by
  intro ts
  induction ts with
  |nil=>intro l h;exact h
  |cons t ts ih=>intro l h;exact ih _ (key l (tv t) h)
 exact this ts [] ⟨by simp,by simp⟩
def zyZ(l:List Str):(D.f (zbh l)).cells=some [.f (zbh l)]:=zdk _ _
def zIw(l:List Trm):hd8 (zc0 l)=false:=by
 cases l with
 |nil=>rfl
 |cons t l=>cases t<;>rfl
def zfD{h:T Ob}{lo c:Nat}{d:D}{l:List Str}(hg:Gro h lo c 1 d (zaQ l)):zbj d=some l.length:=by
 rcases hg with⟨rfl,h2⟩ |⟨id,ro,rfl,h2,h3,h4,h5,h6⟩
 .have:=zpq h2;subst this;rfl
 .rw[zaW];rfl
def fn35:pr.fn 35=some g35:=by kernel_rfl
def fn36:pr.fn 36=some g36:=by kernel_rfl
def zTA(h:Nat->Option Ob)(c:Nat):opv h c (.eqn 0 false (.f .nils) (.f .nils))=some {d:= .f (.b true),c}:=rfl
def zGv(h:Nat->Option Ob)(c es:Nat)(l:List (List F)):opv h c (.eqn 0 false (.f (.sl es l)) (.f .nils))=some {d:= .f (.b false),c}:=rfl
def Own.up{h h':T Ob}{lo lo' c c':Nat}{d:D}{X:F}(H:Own h lo c d X)(hf:∀x,d.oid=some x->h'.get x=h.get x)(hl:lo'<=lo)(hc:c<=c'):Own h' lo' c' d X:=
 ⟨H.1,H.2.1,fun x hx=>by have:=H.2.2.1 x hx;omega,fun h2 hh=>H.2.2.2 h2 fun x hx=>(hh x hx).trans (hf x hx)⟩
def gCl(es byt:Nat)(z:List F):Go.Vse.Fn:=⟨8,[.t 2],oZ [oR 2 (.mv (.k .nils))]
 (.seq (oD [oM 3 0,oR 4 (.eqn 0 false (.t 3) (.k .nils))] 4 (oZ [oR 2 (.mv (.k .nils))] .ret) .skip)
 (oZ [oR 5 (.bsl es z 0 []),oM 6 0,oR 7 (.app es byt (.t 5) (.t 6)),oM 2 7] .ret))⟩
def zup(es:Nat)(rows:List (List F)):slc es rows= .sl es rows\/slc es rows= .nils/\rows=[]:=by
 cases rows with
 |nil=>exact .inr ⟨rfl,rfl⟩
 |cons a l=>exact .inl rfl
def ztd(W:List (Atm×D)):List (List D):=W.map fun p=>[.f (.s p.1.r),.f (.b p.1.neg),p.2]
theorem zxC{h:T Ob}{lo c:Nat}(k:Nat):∀{W:List (Atm×D)},(∀p∈W,Own h lo c p.2 (zjO p.1.ts))->∃rd,zaU (frz h.get (k+2)) (ztd W)=some (W.map fun p=>atF p.1,rd)
 |[],_=>⟨[],rfl⟩
 |p::W,hW=>by
  obtain⟨rd,hr⟩ :=zxC k (W:=W) fun q hq=>hW q (by simp[hq])
  obtain⟨rd2,h2⟩ :=(hW p (by simp)).2.2.2 h (fun _ _=>rfl) k;have h3:za3 (frz h.get (k+2)) [.f (.s p.1.r),.f (.b p.1.neg),p.2]=some (atF p.1,rd2):=by
   have a1:frz h.get (k+2) (.f (.s p.1.r))=some (.s p.1.r,[]):=rfl;have a2:frz h.get (k+2) (.f (.b p.1.neg))=some (.b p.1.neg,[]):=rfl;simp only[za3,a1,a2,h2,atE];simp
  exact⟨rd2++rd,by
   have e:ztd (p::W)=[.f (.s p.1.r),.f (.b p.1.neg),p.2]::ztd W:=rfl;rw[e,zh5,h3];simp only[hr];rfl⟩
def zlD{h:T Ob}{lo c es k:Nat}{d:D}{els:List (List D)}{L:List (List F)}{rd:List Nat}(hg:Gro h lo c es d els)(hf:zaU (frz h.get k) els=some (L,rd))(hL:L=[]↔els=[]):∃rd,frz h.get (k+1) d=some (slc es L,rd):=by
 rcases hg with⟨rfl,rfl⟩ |⟨id,ro,rfl,he,ho,hr,hl,hc⟩
 .rw[hL.2 rfl];exact⟨[],rfl⟩
 .refine⟨id::rd,?_⟩;rw[zfQ,ho,zcE,zfC];simp only[true_and,Z25,Z2,Z60,Z34,Z7,hf,zcE];rw[zhg (fun e=>he (hL.1 e))]
def zvw{α β:Type}{f:α->Option β}:om (none:Option α) f=none:=rfl
def bmE(l:List Str):List (F×D):=l.map fun x=>(F.s x,D.f (.b true))
theorem zmY(x:Str):∀(l:List Str) (i:Nat),x∉l->zbQ 1 (.s x) (bmE l) i=some none
 |[],_,_=>rfl
 |y::l,i,h=>by
  have hy:x≠y:=fun e=>h (by simp[e])
  have e:zbQ 1 (.s x) (bmE (y::l)) i=zbQ 1 (.s x) (bmE l) (i+1):=by
    have hb:(x==y)=false:=by simpa using hy
    simp only[bmE,Z10,zbQ,zhT,hb]
  rw[e];exact zmY x l (i+1) fun hm=>h (by simp[hm])
def cop(c:CQ):CQ:=⟨c.as,c.cs,c.ne,false⟩
def zRO{c:CQ}(hc:CqSm c):CqSm (cop c):=⟨⟨hc.as,hc.cs,hc.la,hc.lc⟩,hc.sa,hc.st,hc.sc,hc.s2⟩
def fn96:pr.fn 96=some g96:=by kernel_rfl
def zav(l:List Int):(valsF l).d= .f (valsF l):=zeI ..
def zf6(l:List Int):zbj (.f (valsF l))=some l.length:=by simp[valsF,zdp]
def zok(l:List Int)(n:Nat):iaB 3 (.f (valsF l)) n=(l[n]?).map fun v=>D.fptr (vF v):=by simp[valsF,zd6,Z67]
def Pc(p:List F):Prop:=∃a b c,p=[a,b,c]/\a.d= .f a/\b.d= .f b/\c.d= .f c
def cmpL:List Int->List Int->Int
 |[],[]=>0
 |[],_::_=> -1
 |_::_,[]=>1
 |x::a,y::b=>if x=y then cmpL a b else zgO x y
def zG5(l:List Int):cmpL [] l=if 0<l.length then -1 else 0:=by cases l<;>simp[cmpL]
def zEl(l:List Int):cmpL l []=if 0<l.length then 1 else 0:=by cases l<;>simp[cmpL]
def J46(a b:List Int)(n:Nat)(s:St):Prop:=n<=a.length/\n<=b.length/\(s.tm.get 0=some (.f (valsF a))/\s.tm.get 1=some (.f (valsF b))/\s.tm.get 5=some (.f (.i .i64 n)))/\cmpL a b=cmpL (a.drop n) (b.drop n)
def zpR(a b:List Int)(hl:a.length<1000):Ans pr 96 [valsF a,valsF b] (.i .i64 (cmpL a b)):=by
 refine zbN fn96 ?_;simp only[g96,rU];simp[rW,st0,zal,zav];refine zbS (fun k s=>∃n:Nat,k=a.length - n/\J46 a b n s) (fun x s=>(x= .ret/\s.tm.get 4=some (.f (.i .i64 (cmpL a b))))\/(x= .exit 0/\∃n:Nat,(n=a.length\/n=b.length)/\J46 a b n s)) ?_ a.length _ ⟨0,rfl,Z61 _,Z61 _,?_,rfl⟩ ?_
 .rintro k s ⟨n,rfl,hn,hn',⟨h0,h1,h5⟩,hA⟩;have hw:=zaB n (by omega)
  by_cases hlt:n<a.length
  .by_cases hlt':n<b.length
   .rw[Z55 hlt,Z55 hlt']at hA;simp only[cmpL]at hA;have hx:a[n]? =some a[n]:=Z0 hlt;have hy:b[n]? =some b[n]:=Z0 hlt';generalize hX:a[n]=x at hx hA;generalize hY:b[n]=y at hy hA;have q:=fun k=>zad (k:=k) (zv9 x y)
    simp only[vF]at q;simp[rW,h0,h1,h5,zf6,hlt,hlt'];refine zaq ?_
    by_cases he:x=y
    .have hz:zgO x y=0:=by simp[zgO,he]
     rw[hz]at q;rw[Z51 he]at hA;simp[rW,h0,h1,h5,zok,hx,hy,hX,hY,hlt,hlt',vF,q,hw];rw[za1];refine⟨a.length - (n+1),by omega,n+1,rfl,by omega,by omega,?_,hA⟩;simp[rW,h0,h1,hw]
    .have hz:zgO x y≠0:=by
      unfold zgO;rw[Z49 he];split<;>decide
     rw[Z49 he]at hA;generalize zgO x y=z at q hz hA;simp[rW,h0,h1,h5,zok,hx,hy,hX,hY,hlt,hlt',vF,q,hz];exact hA.symm
   .obtain rfl:n=b.length:=by omega
    simp[rW,h0,h1,h5,zf6,hlt,hlt'];refine .inr ⟨hn,hn',?_,hA⟩;simp[rW,h0,h1,h5]
  .obtain rfl:n=a.length:=by omega
   simp[rW,h0,h1,h5,zf6,hlt];refine .inl ⟨hn,hn',?_,hA⟩;simp[rW,h0,h1,h5]
 .simp[rW]
 .rintro x s (⟨rfl,h4⟩ |⟨rfl,n,he,hn,hn',⟨h0,h1,h5⟩,hA⟩)
  .simp[rW,h4]
  .have hf:cmpL a b=if a.length<b.length then -1 else if b.length<a.length then 1 else 0:=by
    rw[hA];rcases he with rfl|rfl
    .rw[Z206,zG5,List.length_drop]
     by_cases h1:a.length<b.length
     .rw[Z51 (by omega),Z51 h1]
     .rw[Z49 (by omega),Z49 h1,Z49 (by omega)]
    .rw[Z206,zEl,List.length_drop]
     by_cases h1:b.length<a.length
     .rw[Z51 (by omega),Z49 (by omega),Z51 h1]
     .rw[Z49 (by omega),Z49 (by omega),Z49 h1]
   rw[hf]
   by_cases k1:a.length<b.length
   .simp[rW,h0,h1,zf6,k1]
   .by_cases k2:b.length<a.length
    .simp[rW,h0,h1,zf6,k1,k2]
    .simp[rW,h0,h1,zf6,k1,k2]
def fn98:pr.fn 98=some g98:=by kernel_rfl
def fn100:pr.fn 100=some zBh:=by kernel_rfl
def fn99:pr.fn 99=some g99:=by kernel_rfl
def fn56:pr.fn 56=some g56:=by kernel_rfl
def fn57:pr.fn 57=some g57:=by kernel_rfl
def ziF(e:Env)(t:Trm):List F:=match gtm e t with
 |some v=>vF v
 |none=>zF
theorem zFk:∀(e:Env) (s:Str) (n:Nat) (hn:n<e.length),(∀p∈e.take n,p.1≠s)->(e[n]).1=s->lk e s=some (e[n]).2
 |[],_,_,hn,_,_=>by simp at hn
 |p::e,s,0,_,_,h=>by obtain⟨a,b⟩ :=p;simp at h;simp[lk,h]
 |p::e,s,n+1,hn,h,h2=>by
  obtain⟨a,b⟩ :=p;have:a≠s:=h (a,b) (by simp);simp only[lk,Z49 this];simpa using zFk e s n (by simpa using hn) (fun p hp=>h p (by simp[hp])) (by simpa using h2)
theorem zzk:∀(e:Env) (s:Str),(∀p∈e,p.1≠s)->lk e s=none
 |[],_,_=>rfl
 |p::e,s,h=>by
  obtain⟨a,b⟩ :=p;have:a≠s:=h (a,b) (by simp);simp only[lk,Z49 this];exact zzk e s fun p hp=>h p (by simp[hp])
def zSd(e:Env)(n:Nat)(h:n<e.length):iaB 1 (.f (zbh (e.map (·.1)))) n=some (.fptr [.s e[n].1]):=by rw[zi4];simp[h]
def zSf(e:Env)(n:Nat)(h:n<e.length):iaB 3 (.f (valsF (e.map (·.2)))) n=some (.fptr (vF e[n].2)):=by rw[zok];simp[h]
def zmV(e:Env):zbj (.f (zbh (e.map (·.1))))=some e.length:=by rw[zfb];simp
def J98(e:Env)(x:Str)(n:Nat)(s:St):Prop:=(s.tm.get 2=some (.ptr 0 2 0 0)/\s.tm.get 3=some (.ptr 1 4 0 0)/\s.tm.get 4=some (.ptr 2 3 0 0)/\s.tm.get 6=some (.f (.i .i64 n))/\s.h.get 0=some (.arr 2 0 [[.f (zbh (e.map (·.1))),.f (valsF (e.map (·.2)))]])/\s.h.get 1=some (.arr 4 0 [[.f (.s x),.f (.i .i64 0),.f (.i .i64 0),.f (.s [])]])/\s.h.get 2=some (.arr 3 0 [[.f (.i .i64 0),.f (.i .i64 0),.f (.s [])]]))/\3<=s.c
def R98(x:Ex)(s:St):Prop:=x= .exit 0/\(s.tm.get 4=some (.ptr 2 3 0 0)/\s.h.get 2=some (.arr 3 0 [[.f (.i .i64 0),.f (.i .i64 0),.f (.s [])]]))/\3<=s.c
def Q98(e:Env)(n:Nat)(x:Ex)(s:St):Prop:=x= .ret/\∃p,e[n]? =some p/\(s.tm.get 4=some (.ptr 2 3 0 0)/\s.tm.get 5=some (.f (.b true))/\s.h.get 2=some (.arr 3 0 [[.f (.i .i64 1),.f (.i .i64 p.2),.f (.s [])]]))/\3<=s.c
def zAH(e:Env)(t:Trm)(ht:zaO t)(hl:e.length<1000):Ans pr 98 [.ag (zde e),.ag (tmF t)] (.tu [.ag (ziF e t),.b (gtm e t).isSome]):=by
 refine zbN fn98 ?_;simp only[g98,rU];cases t with
 |cst n=>simp[rW,st0,zal,zde,za5,zav,tmF,ziF,gtm,vF]
 |var x=>
  have hx:x≠[]:=ht;simp[rW,st0,zal,zde,za5,zav,tmF,hx];refine zvo e (fun p=>p.1==x) (J98 e x) R98 (Q98 e) ?_ ?_ _ ⟨⟨?_,?_,?_,?_,?_,?_,?_⟩,?_⟩ ?_ ?_
  .rintro n s hn ⟨⟨h2,h3,h4,h6,g0,g1,g2⟩,hc⟩;have hw:=zaB n (by omega);have c2:2<s.c:=by omega
   have i1:=zSd e n hn;have i3:=zSf e n hn;have hp:e[n]? =some e[n]:=Z0 hn;generalize e[n]=p at*
   by_cases he:p.1=x
   .simp[rW,h2,h3,h4,h6,g0,g1,g2,hn,zmV];refine zaq ?_;simp[rW,h2,h3,h4,h6,g0,g1,g2,i1,i3,he,vF,c2];exact⟨rfl,p,hp,⟨by simp[rW,h4],by simp[rW],by simp[rW]⟩,by simp[rW,hc]⟩
   .simp[rW,h2,h3,h4,h6,g0,g1,g2,hn,zmV];refine zaq ?_;simp[rW,h2,h3,h4,h6,g0,g1,g2,i1,i3,he,hw];exact⟨⟨by simp[rW,h2],by simp[rW,h3],by simp[rW,h4],by simp[rW,hw],by simp[rW,g0],by simp[rW,g1],by simp[rW,g2]⟩,by simp[rW,hc]⟩
  .rintro s ⟨⟨h2,h3,h4,h6,g0,g1,g2⟩,hc⟩;simp[rW,h2,h6,g0,zmV];exact⟨rfl,⟨by simp[rW,h4],by simp[rW,g2]⟩,by simp[rW,hc]⟩
  .simp[rW]
  .simp[rW]
  .simp[rW]
  .simp[rW]
  .simp[rW]
  .simp[rW]
  .simp[rW]
  .simp[rW]
  .rintro h z s ⟨rfl,⟨h4,g2⟩,hc⟩;have hn:=zzk e x fun p hp=>by simpa using h p hp
   have c2:2<s.c:=by omega
   simp[rW,h4,g2,ziF,gtm,hn,zF,c2]
  .rintro n hn hp hm z s ⟨rfl,p,hx2,⟨h4,h5,g2⟩,hc⟩;have hk:=zFk e x n hn (fun q hq=>by
    obtain⟨m,hm1,hm2⟩ :=Z130 hq;rw[Z41]at hm1;have:=hm m (by omega);rw[Z157]at hm2;rw[hm2]at this;simpa using this) (by simpa using hp)
   rw[Z0 hn]at hx2;cases hx2;simp[rW,h4,h5,g2,ziF,gtm,hk,vF]
def ans99(op a b:Int):Ans pr 99 [.i .i64 op,.ag (vF a),.ag (vF b)] (.b (zwx op a b)):=by
 have q:=fun k=>zad (k:=k) (zv9 a b)
 refine zbN fn99 ?_;simp only[g99,rU];simp only[vF]at q;unfold zwx
 by_cases h1':op=1
 .simp[rW,st0,zal,vF,q,h1',zmM]
 .by_cases h2':op=2
  .simp[rW,st0,zal,vF,q,h1',h2',zNz]
  .by_cases h3':op=3
   .simp[rW,st0,zal,vF,q,h1',h2',h3',zNx]
   .by_cases h4':op=4
    .simp[rW,st0,zal,vF,q,h1',h2',h3',h4',zNw]
    .simp[rW,st0,zal,vF,q,h1',h2',h3',h4']
def zy3(h:Nat->Option Ob)(l:List Str):elemsOf 1 h (.f (zbh l))=some (zaQ l,[]):=by
 unfold zbh;rw[zwH rfl,Z33];rfl
def vaE(l:List Int):List (List D):=l.map vD
def zPD(l:List Int):(vaE l).length=l.length:=by simp[vaE]
def zPC(h:Nat->Option Ob)(k:Nat)(l:List Int):zaU (frz h (k+1)) (vaE l)=some (l.map vF,[]):=by
 have:=zhO h k (l.map vF);rw[Z33]at this;exact this
def zy4(h:Nat->Option Ob)(l:List Int):elemsOf 3 h (.f (valsF l))=some (vaE l,[]):=by
 unfold valsF;rw[zwH rfl,Z33];rfl
def zHi(e:Env)(s:Str)(v:Int):zde (e++[(s,v)])=[.sl 1 ((e.map (·.1)++[s]).map fun s=>[F.s s]),.sl 3 ((e.map (·.2)++[v]).map vF)]:=by
  unfold zde valsF;rw[Z20,Z20,zlM (by simp),zhg (by simp)];rfl
def zuq(l:List Str)(s:Str):zaQ l++[[D.f (.s s)]]=zaQ (l++[s]):=by simp[zaQ]
def zx4(l:List Int)(v:Int):vaE l++[[D.f (.i .i64 1),.f (.i .i64 v),.f (.s [])]]=vaE (l++[v]):=by simp[vaE,vD]
def zRs(e:Env)(t:Trm)(v:Int)(ht:zaO t)(hl:e.length<990):Ans pr 100 [.ag (zde e),.ag (tmF t),.ag (vF v)] (.tu [.ag (zde (bnd e t v).1),.b (bnd e t v).2]):=by
 have h42:=zAH e t ht (by omega);refine zbN fn100 ?_;simp only[zBh,rU];cases hg:gtm e t with
 |some w=>
  have hb:bnd e t v=(e,decide (v=w)):=by unfold bnd;rw[hg]
  rw[hb];simp only[ziF,hg,tmE,zde,vF]at h42;have q1:=fun k=>zad (k:=k) h42
  have q2:=fun k=>zad (k:=k) (zv9 v w)
  simp only[vF]at q2;simp[rW,st0,zal,zde,za5,zav,tmE,vF,q1];refine zaq ?_;simp[rW,za5,zav,q2,zmM]
 |none=>
  cases t with
  |cst n=>simp[gtm]at hg
  |var x=>
   have hb:bnd e (.var x) v=(e++[(x,v)],true):=by unfold bnd;rw[hg]
   rw[hb,zHi];simp only[ziF,hg,tmF,zde,zF]at h42;have q1:=fun k=>zad (k:=k) h42
   obtain⟨ns,hns⟩ :∃ns,ns=e.map (·.1):=⟨_,rfl⟩
   obtain⟨vs,hvs⟩ :∃vs,vs=e.map (·.2):=⟨_,rfl⟩
   have l1:(zaQ ns).length=e.length:=by rw[zaW,hns,Z18]
   have l2:(vaE vs).length=e.length:=by rw[zPD,hvs,Z18]
   rw[<-hns,<-hvs]at q1|-;simp[rW,st0,zal,zde,<-hns,<-hvs,za5,zav,tmF,vF,q1];refine zaq ?_;have t1:(zaQ ns).take e.length=zaQ ns:=by rw[<-l1,Z7]
   have t2:(vaE vs).take e.length=vaE vs:=by rw[<-l2,Z7]
   have z1:(zaQ (ns++[x])).length=e.length+1:=by rw[<-zuq,Z16,l1];rfl
   have z2:(vaE (vs++[v])).length=e.length+1:=by rw[<-zx4,Z16,l2];rfl
   have y1:(zaQ (ns++[x])).take (e.length+1)=zaQ (ns++[x]):=by rw[<-z1,Z7]
   have y2:(vaE (vs++[v])).take (e.length+1)=vaE (vs++[v]):=by rw[<-z2,Z7]
   by_cases h0:e.length=0
   .have s1:zaQ ns=[]:=Z17.1 (by rw[l1,h0]);have s2:vaE vs=[]:=Z17.1 (by rw[l2,h0]);have n1:ns=[]:=by rw[hns,Z17.1 h0];rfl
    have n2:vs=[]:=by rw[hvs,Z17.1 h0];rfl
    have k1:zaQ []=[]:=rfl;have k2:vaE []=[]:=rfl;simp[rW,za5,zav,zy3,zy4,k1,k2,zaH,n1,n2]
   .have e0:¬e=[]:=fun h=>h0 (by rw[h];rfl)
    have e1:¬e.length+1<=e.length:=by omega
    have m1:e.length<=zax:=by have:=zaH (n:=e.length) (by omega);simpa using this
    have m2:e.length*16<=zax:=by have:=zaH (n:=e.length*16) (by omega);simpa using this
    have m3:e.length*32<=zax:=by have:=zaH (n:=e.length*32) (by omega);simpa using this
    have m4:e.length+1<=zax:=by have:=zaH (n:=e.length+1) (by omega);simpa using this
    have m5:(e.length+1)*16<=zax:=by have:=zaH (n:=(e.length+1)*16) (by omega);simpa using this
    have m6:(e.length+1)*32<=zax:=by have:=zaH (n:=(e.length+1)*32) (by omega);simpa using this
    simp[rW,za5,zav,zy3,zy4,l1,l2,h0,e0,e1,m1,m2,m3,m4,m5,m6,t1,t2,zuq,zx4,z1,z2,y1,y2,zeF,zPC];rfl
end Go.Proofs.YtkcnnkncapiohaaGreatDoor
end
