/- Small functions, the form of data (ported from seat17b). -/
import Derived.Test.YtlinkhjnihjbaaaGreatDoorHb
import Derived.Test.YtlinkhjnihjbaaaGreatDoorAll
import Derived.Test.YtlinkhjnihjbaaaGreatDoorVe
import Derived.KernelRfl
import Derived.IntWalk
set_option linter.all false
set_option maxRecDepth 100000
set_option maxHeartbeats 4000000
section
namespace Go.Proofs.YtlinkhjnihjbaaaGreatDoor
open Go Go.Vse Go.Vse.Sm
def fn287:pr.fn 287=some zyK:=by kernel_rfl
def fn188:pr.fn 188=some zyy:=by kernel_rfl
def fn322:pr.fn 322=some zyM:=by kernel_rfl
def fn323:pr.fn 323=some zyN:=by kernel_rfl
def fn324:pr.fn 324=some zyO:=by kernel_rfl
def fn325:pr.fn 325=some zyP:=by kernel_rfl
def fn298:pr.fn 298=some zyL:=by kernel_rfl
def fn344:pr.fn 344=some zyQ:=by kernel_rfl
def zmi(a b:Str):Int:=if Go.Op.bytesLess a b=true then -1 else if a=b then 0 else 1
def zcn(a b:Int):Int:=if a=b then 0 else if a<b then -1 else 1
def zJ8(a b:Int):Ans pr 188 [.ag (vF a),.ag (vF b)] (.i .i64 (zcn a b)):=by
 refine zb6 fn188 ?_;simp only[zyy,rU];unfold zcn;have hl:Go.Op.bytesLess [] []=false:=rfl
 by_cases h1:a=b
 .subst h1;simp -implicitDefEqProofs [rR,st0,zax,vF,hl]
 .by_cases h2:a<b
  .simp -implicitDefEqProofs [rR,st0,zax,vF,hl,h1,h2]
  .simp -implicitDefEqProofs [rR,st0,zax,vF,hl,h1,h2]
def tv:Trm->Str
 | .var s=>s
 | .cst _=>[]
def tn:Trm->Int
 | .var _=>0
 | .cst n=>n
def wrap_i64(n:Int)(h:0<=n)(h2:n<9223372036854775808):IntKind.i64.wrap n=n:=IntWalk.i64_in n (by omega)
def zaK(n:Nat)(h:n<1000000):IntKind.i64.wrap ((n:Int)+1)=((n+1:Nat):Int):=wrap_i64 _ (by omega) (by omega)
def zfE:zsa pr:=zDe prOk
def zBx{h:T Ob}{lo c es:Nat}{d:D}{els:List (List D)}(hg:Gro h lo c es d els){i:Nat}(hi:i<lo):d.oid≠some i:=by
 rcases hg with⟨rfl,_⟩ |⟨id,ro,rfl,_,_,_,hl,_⟩
 .simp[D.oid]
 .simp[D.oid];omega
def zLp{f:Nat}{args:List D}{h:T Ob}{c:Nat}{x:F}(h1:pr.fn f=none)(h2:pr.ext f args=some x):RO pr f args h c x.d:=by
 refine⟨c,Z2 _,1,fun n hn=> ?_⟩;obtain⟨m,rfl⟩ :∃m,n=m+1:=⟨n - 1,by omega⟩
 simp only[zco,h1,h2]
theorem zwp:∀a b:Str,Go.Lib.compareBytes a b=zmi a b
 |[],[]=>rfl
 |[],b::l=>by simp[Go.Lib.compareBytes,zmi,Go.Op.bytesLess]
 |a::l,[]=>by simp[Go.Lib.compareBytes,zmi,Go.Op.bytesLess]
 |a::l,b::m=>by
  have ih:=zwp l m;unfold Go.Lib.compareBytes zmi Go.Op.bytesLess
  by_cases h1:a<b
  .simp[h1]
  .by_cases h2:b<a
   .have h3:a≠b:=fun e=>by subst e;exact h1 h2
    simp[h1,h2,h3]
   .have h3:a=b:=UInt8.le_antisymm (UInt8.not_lt.1 h2) (UInt8.not_lt.1 h1);subst h3;simp only[h1,Z63,ih,zmi];simp
def ro345(a b:Str)(h:T Ob)(c:Nat):RO pr 345 [.f (.s a),.f (.s b)] h c (.f (.i .i64 (zmi a b))):=by
 have:=zLp (h:=h) (c:=c) (f:=345) (args:=[.f (.s a),.f (.s b)]) (x:= .i .i64 (Go.Lib.compareBytes a b)) (by kernel_rfl) rfl;rw[zwp]at this;exact this
def zty(a:Int):Ans pr 298 [.i .i64 a] (.b false):=by
 refine zb6 fn298 ?_;simp only[zyL,rU];simp[rW,st0,zax]
def zAj(a:Int):Ans pr 344 [.i .i64 a] (.b false):=by
 refine zb6 fn344 ?_;simp only[zyQ,rU];simp[rW,st0,zax]
def zKm(a b:Int):Ans pr 323 [.i .i64 a,.i .i64 b] (.i .i64 (zcn a b)):=by
 refine zb6 fn323 ?_;simp only[zyN,rU];have q1:=fun k=>zaj (k:=k) (zty a)
 have q2:=fun k=>zaj (k:=k) (zty b)
 unfold zcn
 by_cases h1:a<b
 .have h2:¬a=b:=by omega
  simp[rW,st0,zax,q1,q2,h1,h2]
 .by_cases h2:b<a
  .have h3:¬a=b:=by omega
   simp[rW,st0,zax,q1,q2,h1,h2,h3]
  .have h3:a=b:=by omega
   simp[rW,st0,zax,q1,q2,h1,h2,h3]
def zKo(a b:Int):Ans pr 324 [.i .i64 a,.i .i64 b] (.i .i64 (zcn a b)):=by
 refine zb6 fn324 ?_;simp only[zyO,rU];have q1:=fun k=>zaj (k:=k) (zAj a)
 have q2:=fun k=>zaj (k:=k) (zAj b)
 unfold zcn
 by_cases h1:a<b
 .have h2:¬a=b:=by omega
  simp[rW,st0,zax,q1,q2,h1,h2]
 .by_cases h2:b<a
  .have h3:¬a=b:=by omega
   simp[rW,st0,zax,q1,q2,h1,h2,h3]
  .have h3:a=b:=by omega
   simp[rW,st0,zax,q1,q2,h1,h2,h3]
def zKp(a b:Str):Ans pr 325 [.s a,.s b] (.i .i64 (zmi a b)):=by
 refine zb6 fn325 ?_;simp only[zyP,rU];simp[rW,st0,zax];refine zh0 (ro345 a b _ _) ?_ ?_
 .simp only[rG];omega
 .intro mx;simp[rW,st0,zax]
def zKj(a b c:Int):Ans pr 322 [.sl 1 [[.i .i64 a],[.i .i64 b],[.i .i64 c]]] (.i .i64 (if a≠0 then a else if b≠0 then b else c)):=by
 refine zb6 fn322 ?_;simp only[zyM,rU];have w1:IntKind.i64.wrap 1=1:=rfl;have w2:IntKind.i64.wrap 2=2:=rfl;have w3:IntKind.i64.wrap 3=3:=rfl;simp[rW,st0,zax];refine round ?_
 by_cases ha:a=0
 .by_cases hb:b=0
  .simp[rW,ha,hb,w1];refine round ?_;simp[rW,ha,hb,w2];refine round ?_
   by_cases hc:c=0
   .simp[rW,hc,w3];refine round ?_;simp[rW,hc]
   .simp[rW,hc]
  .simp[rW,ha,hb,w1];refine round ?_;simp[rW,hb]
 .simp[rW,ha]
theorem zde{h:T Ob}{lo c es byt:Nat}{d:D}{els new:List (List D)}{rd:List Nat}{K:Rs->Prop}(hg:Gro h lo c es d els)(hlo:lo<=c)(hlen:els.length+new.length<=1000000)(hb:byt<=1000)
  (hK:∀r:Rs,zat r.c r.wr=true->Gro (wrT h r.wr) lo r.c es r.d (els++new)->c<=r.c->(∀id,id<c->d.oid≠some id->(wrT h r.wr).get id=h.get id)->(∀x,r.d.oid=some x->x=c\/d.oid=some x)->K r):oB (zbv es byt h.get c d new rd) K:=by
 obtain⟨r,h1,h2,h3,h4,h5,h6,h7,h8⟩ :=zIb (byt:=byt) (rd:=rd) hg hlo hlen hb;rw[h1];exact hK r h2 h3 h4 h5 h8
def zaU{h:T Ob}{lo c es:Nat}{d:D}{els:List (List D)}(hg:Gro h lo c es d els){x:Nat}(hx:d.oid=some x):lo<=x/\x<c:=by
 rcases hg with⟨rfl,_⟩ |⟨id,ro,rfl,h2,h3,h4,h5,h6⟩
 .simp[D.oid]at hx
 .simp[D.oid]at hx;omega
def Own(h:T Ob)(lo c:Nat)(d:D)(X:F):Prop:=(d= .f X\/∃a b e f g x,d= .sl a b e f g x)/\d.cells=some [d]/\(∀x,d.oid=some x->lo<=x/\x<c)/\∀h':T Ob,(∀x,d.oid=some x->h'.get x=h.get x)->∀k,∃rd,frz h'.get (k+2) d=some (X,rd)
def zm1{h:T Ob}{lo c es:Nat}{d:D}{rows:List (List F)}(hg:Gro h lo c es d (rows.map fun a=>a.map D.f)):Own h lo c d (slc es rows):=by
 refine⟨?_,zcN hg,fun x hx=>zaU hg hx,fun h' hh k=> ?_⟩
 .rcases hg with⟨rfl,hr⟩ |⟨id,ro,rfl,hn,hg,hr,hl,hc⟩
  .have:rows=[]:=by simpa using hr
   subst this;exact .inl rfl
  .exact .inr ⟨_,_,_,_,_,_,rfl⟩
 rcases hg with⟨rfl,hr⟩ |⟨id,ro,rfl,hn,hg,hr,hl,hc⟩
 .have:rows=[]:=by simpa using hr
  subst this;exact⟨[],rfl⟩
 .refine⟨[id],?_⟩;have h1:=hh id rfl;rw[ziS,h1,hg,zfN,zjW];simp only[true_and,Z25,Z2,Z60,Z34,Z7,zmS h'.get k rows,zfN];rw[zmt (fun e=>hn (by rw[e];rfl))]
def zxM(pr:Pr)(f:Nat)(args:List D)(h:T Ob)(c:Nat)(P:D->T Ob->Nat->Nat->Prop):Prop:=∃q,Con pr f args h c q/\P q.d q.h q.c q.lw/\c<=q.c/\q.c<=q.mx
def zt3(res:List Rv)(h:T Ob)(c:Nat)(P:D->T Ob->Nat->Nat->Prop)(x:Ex)(s:St):Prop:=
 (match x with| .exit _=>False|_=>True)/\oB (resD s res) fun d=>P d s.h s.c s.lw/\(s.lw=c->d.isF=true->P d h c c)
def zKG{res:List Rv}{h:T Ob}{c:Nat}{P:D->T Ob->Nat->Nat->Prop}{s:St}:zt3 res h c P .nrm s=oB (resD s res) fun d=>P d s.h s.c s.lw/\(s.lw=c->d.isF=true->P d h c c):=by simp[zt3]
def zKH{res:List Rv}{h:T Ob}{c:Nat}{P:D->T Ob->Nat->Nat->Prop}{s:St}:zt3 res h c P .ret s=oB (resD s res) fun d=>P d s.h s.c s.lw/\(s.lw=c->d.isF=true->P d h c c):=by simp[zt3]
def zwu{f:Nat}{fn:Go.Vse.Fn}(hf:pr.fn f=some fn){args:List D}{h:T Ob}{c:Nat}{P:D->T Ob->Nat->Nat->Prop}(hw:wpC pr fn.body (st0 args h c) (zt3 fn.res h c P)):zxM pr f args h c P:=by
 obtain⟨x,s,⟨hx,hr⟩,ev⟩ :=zex _ _ _ hw;cases hd:resD s fn.res with
 |none=>rw[hd]at hr;exact hr.elim
 |some d=>
  rw[hd]at hr;obtain⟨h1,h2⟩ :=hr;have key:EV fun m=>zeu (evC (zco pr m) m) fn args h c=some (if Nat.beq s.lw c&&d.isF then ⟨d,h,c,c,s.mx⟩else ⟨d,s.h,s.c,s.lw,s.mx⟩):=by
   refine ev.mono fun m hm=> ?_
   unfold zeu;unfold st0 at hm;rw[hm];cases x with
   |exit i=>exact hx.elim
   |nrm=>simp only[hd];split<;>rfl
   |ret=>simp only[hd];split<;>rfl
  have hq:Con pr f args h c (if Nat.beq s.lw c&&d.isF then ⟨d,h,c,c,s.mx⟩else ⟨d,s.h,s.c,s.lw,s.mx⟩):=by
   obtain⟨N,hN⟩ :=key;refine⟨N+1,fun m hm=> ?_⟩;obtain⟨m,rfl⟩ :∃m',m=m'+1:=⟨m - 1,by omega⟩
   simp only[zco,hf];exact hN m (by omega)
  refine⟨_,hq,?_,zfE _ _ _ _ _ hq⟩;split
  .rename_i hb;simp only[Z14]at hb;exact h2 (Z88 hb.1) hb.2
  .exact h1
def wq_l{s:St}{dst:Option Nat}{Q:St->Prop}{f:Nat}{ds:List D}{l:List Go.Vse.Op}{h:T Ob}{c:Nat}{P:D->T Ob->Nat->Nat->Prop}(e1:s.h=h)(e2:s.c=c)(he:zxM pr f ds h c P)(k:∀d' h' c' lw mx,P d' h' c' lw->c<=c'->wpO pr l (s.cal dst ⟨d',h',c',lw,mx⟩) Q):WQ pr f ds s dst l Q:=by
 subst e1 e2;obtain⟨q,h1,h2,h3,h4⟩ :=he;exact⟨q,h1,k q.d q.h q.c q.lw q.mx h2 h3⟩
def Own.up{h h':T Ob}{lo lo' c c':Nat}{d:D}{X:F}(H:Own h lo c d X)(hf:∀x,d.oid=some x->h'.get x=h.get x)(hl:lo'<=lo)(hc:c<=c'):Own h' lo' c' d X:=
 ⟨H.1,H.2.1,fun x hx=>by have:=H.2.2.1 x hx;omega,fun h2 hh=>H.2.2.2 h2 fun x hx=>(hh x hx).trans (hf x hx)⟩
def zfx{h:T Ob}{lo c es k:Nat}{d:D}{els:List (List D)}{L:List (List F)}{rd:List Nat}(hg:Gro h lo c es d els)(hf:za3 (frz h.get k) els=some (L,rd))(hL:L=[]↔els=[]):∃rd,frz h.get (k+1) d=some (slc es L,rd):=by
 rcases hg with⟨rfl,rfl⟩ |⟨id,ro,rfl,he,ho,hr,hl,hc⟩
 .rw[hL.2 rfl];exact⟨[],rfl⟩
 .refine⟨id::rd,?_⟩;rw[ziS,ho,zfN,zjW];simp only[true_and,Z25,Z2,Z60,Z34,Z7,hf,zfN];rw[zmt (fun e=>he (hL.1 e))]
def zkT{α β:Type}{f:α->Option β}:om (none:Option α) f=none:=rfl
def zfy{h h':T Ob}{lo c c' es:Nat}{d:D}{els:List (List D)}(hg:Gro h lo c es d els)(hh:∀Y,d.oid=some Y->h'.get Y=h.get Y)(hc:c<=c'):Gro h' lo c' es d els:=by
 rcases hg with hg|⟨id,ro,rfl,h2,h3,h4,h5,h6⟩
 .exact .inl hg
 .exact .inr ⟨id,ro,rfl,h2,by rw[hh id rfl];exact h3,h4,h5,by omega⟩
def rd_3(s:St)(a b c:Rv):resD s [a,b,c]=om (resV s a) fun x=>om (resV s b) fun y=>om (resV s c) fun z=>some (.tu [x,y,z]):=by
 simp only[resD,zas,om];cases resV s a<;>cases resV s b<;>cases resV s c<;>rfl
def zMc(h:Nat->Option Ob)(c:Nat):opv h c (.eqn 0 false (.f .nils) (.f .nils))=some {d:= .f (.b true),c}:=rfl
def zMe(h:Nat->Option Ob)(c es:Nat)(l:List (List F)):opv h c (.eqn 0 false (.f (.sl es l)) (.f .nils))=some {d:= .f (.b false),c}:=rfl
def fn50:pr.fn 50=some g50:=by kernel_rfl
def zFb:pr.fn 118=some zuo:=by kernel_rfl
def zFd:pr.fn 215=some zup:=by kernel_rfl
def fn221:pr.fn 221=some zyC:=by kernel_rfl
def fn119:pr.fn 119=some zyw:=by kernel_rfl
def fn225:pr.fn 225=some zyG:=by kernel_rfl
def zKg(a b:Int):Ans pr 221 [.i .i64 a,.i .i64 b] (.b (decide (a<b))):=by
 have q1:=fun k=>zaj (k:=k) (zty a)
 refine zb6 fn221 ?_;simp only[zyC,rU];simp[rW,st0,zax,q1]
def zcp(l:List Nat):List (List D):=l.map fun i=>[D.f (.i .i64 (i:Nat))]
def znW(a b:List Nat):zcp (a++b)=zcp a++zcp b:=by simp[zcp]
def zBu(a:Nat)(b:List Nat):zcp (a::b)=[D.f (.i .i64 (a:Nat))]::zcp b:=rfl
def zkO(a:List Nat):(zcp a).length=a.length:=by simp[zcp]
def zuN(w:List Nat):hd8 (zcp w)=false:=by cases w<;>rfl
structure SQ(h:T Ob)(c id:Nat)(els:List Nat)(h':T Ob)(c' lw:Nat):Prop where
 row:h'.get id=some (.arr 1 0 (zcp els))
 fr:∀j,j<c->j≠id->h'.get j=h.get j
 le:c<=c'
 low:lw<=c
 same:id<lw->h'.get id=h.get id
def SQ.fin{h:T Ob}{c id:Nat}{els:List Nat}{h':T Ob}{c' lw:Nat}(H:SQ h c id els h' c' lw)(hid:id<c):lw=c->SQ h c id els h c c:=fun e=>
 ⟨by rw[<-H.same (by omega)];exact H.row,fun _ _ _=>rfl,Z2 _,Z2 _,fun _=>rfl⟩
def ziC(s:St):resD s []=some (.tu []):=rfl
def zHo(m:Nat):∀l,zdi m l<=m:=by
 intro l
 induction l generalizing m with
 |nil=>exact Z2 _
 |cons p l ih=>
  obtain⟨id,o⟩ :=p;rw[zEr];refine Z3 (ih _) ?_;split<;>omega
def zzZ(m id:Nat)(o:Option Ob)(l:List (Nat×Option Ob)):zdi m ((id,o)::l)<=id:=by
 rw[zEr];refine Z3 (zHo _ _) ?_;split<;>omega
def SQ.r{h:T Ob}{c c' id:Nat}{els:List Nat}(hg:h.get id=some (.arr 1 0 (zcp els)))(hc:c<=c'):SQ h c id els h c' c:=
 ⟨hg,fun _ _ _=>rfl,hc,Z2 _,fun _=>rfl⟩
def SQ.w{h h':T Ob}{c c' id lw:Nat}{els:List Nat}{P:Prop}(hid:id<c)(hlw:lw<=id)(row:h'.get id=some (.arr 1 0 (zcp els)))(fr:∀j,j<c->j≠id->h'.get j=h.get j)(le:c<=c'):SQ h c id els h' c' lw/\(lw=c->P):=
 ⟨⟨row,fr,le,by omega,fun h=>absurd h (by omega)⟩,fun e=>absurd e (by omega)⟩
def pl3:List (List Nat):=[[],[0],[1],[2],[0,1],[0,2],[1,0],[1,2],[2,0],[2,1],[0,1,2],[0,2,1],[1,0,2],[1,2,0],[2,0,1],[2,1,0]]
def srt:List Nat->List Nat
 |[a,b]=>if b<a then[b,a]else[a,b]
 |[a,b,c]=>if b<a then(if c<a then(if c<b then[c,b,a]else[b,c,a])else[b,a,c])else(if c<b then(if c<a then[c,a,b]else[a,c,b])else[a,b,c])
 |l=>l
theorem effI(els:List Nat)(hm:els∈pl3){h:T Ob}{c id n:Nat}{jk:List Nat}(hid:id<c)(hg:h.get id=some (.arr 1 0 (zcp (els++jk)))):
  zxM pr 215 [.sl id 0 els.length 1 n false,.f (.i .i64 0),.f (.i .i64 els.length)] h c fun _ h' c' lw=>SQ h c id (srt els++jk) h' c' lw:=by
 have ql:=fun a b k=>zaj (k:=k) (zKg a b)
 have w1:IntKind.i64.wrap 1=1:=rfl;have w2:IntKind.i64.wrap 2=2:=rfl;have w3:IntKind.i64.wrap 3=3:=rfl;have w0:IntKind.i64.wrap 0=0:=rfl;have hh:hd8 (zcp jk)=false:=zuN jk;have hg0:=hg;simp only[pl3,Z5,Z164,or_false]at hm;rcases hm with rfl|rfl|rfl|rfl|rfl|rfl|rfl|rfl|rfl|rfl|rfl|rfl|rfl|rfl|rfl|rfl
 all_goals
  simp only[Z29,Z28,zBu]at hg;simp only[Z23,Z170,Z25,Nat.reduceAdd,srt,Nat.reduceLT,Nat.not_lt_zero,Z60,Z63,Z29,Z28];refine zwu zFd ?_;simp only[zup,rU];simp[rW,st0,zax,w1]
  repeat ((first|refine round ?_|refine zaM ?_|refine⟨by omega,by omega,round ?_⟩);simp[rW,hg,w0,w1,w2,w3,ql,T.zal,zKG,ziC])
 all_goals first
  |exact SQ.r hg0 (Z2 _)
  |exact⟨SQ.r hg0 (by omega),SQ.r hg0 (Z2 _)⟩
  |exact SQ.w hid (zzZ _ _ _ _) (by simp[TG,zBu]) (fun j _ hj=>by simp[TG,hj]) (by omega)
def P118(h:T Ob)(c id k n lm:Nat)(_k:Nat)(s:St):Prop:=(s.tm.get 0=some (.sl id 0 k 1 n false)/\s.tm.get 1=some (.f (.i .i64 0))/\s.tm.get 2=some (.f (.i .i64 k))/\s.tm.get 3=some (.f (.i .i64 lm)))/\s.h=h/\s.c=c/\s.lw=c
def zw0:∀els∈pl3,els.length<=3:=by decide
theorem effP(els:List Nat)(hm:els∈pl3){h:T Ob}{c id n lm:Nat}{jk:List Nat}(hid:id<c)(hg:h.get id=some (.arr 1 0 (zcp (els++jk)))):
  zxM pr 118 [.sl id 0 els.length 1 n false,.f (.i .i64 0),.f (.i .i64 els.length),.f (.i .i64 lm)] h c fun _ h' c' lw=>SQ h c id (srt els++jk) h' c' lw:=by
 have hl:=zw0 els hm;refine zwu zFb ?_;simp only[zuo,rU];simp[rW,st0,zax];refine zeD (P118 h c id els.length n lm) (fun e s=>e= .ret/\SQ h c id (srt els++jk) s.h s.c s.lw) ?_ 0 _ ?_ ?_
 .rintro k s ⟨⟨h0,h1,h2,h3⟩,e1,e2,e3⟩;have hw:IntKind.i64.wrap (els.length:Int)=els.length:=wrap_i64 _ (by omega) (by omega);have h12:(els.length:Int)<=12:=by omega
  simp[rW,h0,h1,h2,h3,hw,h12];refine wq_l (h:=h) (c:=c) (by simp only[rG];exact e1) (by simp only[rG];exact e2) (effI els hm hid hg) ?_;rintro d' h' c' lw mx HS hcc;simp[rW];have e4:s.lw.min lw=lw:=by rw[e3];exact Z202 HS.low
  rw[e4];exact HS
 .refine⟨⟨?_,?_,?_,?_⟩,rfl,rfl,rfl⟩
  .simp[rW]
  .simp[rW]
  .simp[rW]
  .simp[rW]
 .rintro e s ⟨rfl,HS⟩;simp[rW,zKH,ziC];exact⟨HS,fun e=>HS.fin hid e⟩
def o_ixs{pr:Pr}{s:St}{Q:St->Prop}{dst:Option Nat}{l:List Go.Vse.Op}{x i:A}:wpO pr (⟨dst,none,.ixs x i⟩ ::l) s Q↔oB (((O.ixs x i).res (zah s.tm)).bind (opv s.h.get s.c)) fun r=>zat r.c r.wr=true/\wpO pr l (s.aft dst r.d r.wr r.c) Q:=zdg rfl
def zMh{h:Nat->Option Ob}{c:Nat}{l:List UInt8}{i:D}:opv h c (.ixs (.f (.s l)) i)=om (zbq i) fun n=>om (l[n]?) fun b=>some {d:= .f (.i .u8 (b.toNat:Int)),c:=c}:=by
 simp only[opv];cases zbq i with
 |none=>rfl
 |some n=>simp only[om,Z46];cases l[n]? <;>rfl
def zC4(a b:Int):Go.Vse.zbk .geq (.i .u64 a) (.i .u64 b)=some (.b (decide (b<=a))):=rfl
def zuK:Nat->Nat
 |0=>0
 |1=>1
 |_=>2
def roL6{h:T Ob}{c x:Nat}(hx:x<4):RO pr 225 [.f (.i .u64 x)] h c (.f (.i .i64 (zuK x))):=by
 have hu:∀z:Int,0<=z->z<256->IntKind.u8.wrap z=z:=fun z h1 h2=>by simp[IntKind.wrap,IntKind.bits,IntKind.signed];omega
 have u0:IntKind.u8.wrap 0=0:=rfl;have u1:IntKind.u8.wrap 1=1:=rfl;have u2:IntKind.u8.wrap 2=2:=rfl;have u3:IntKind.u8.wrap 3=3:=rfl;have w0:IntKind.i64.wrap 0=0:=rfl;have w1:IntKind.i64.wrap 1=1:=rfl;have w2:IntKind.i64.wrap 2=2:=rfl;have e:x=0\/x=1\/x=2\/x=3:=by omega
 rcases e with rfl|rfl|rfl|rfl
 all_goals
  refine zm3 zfE fn225 rfl ?_;simp only[zyG,rU];simp[rW,st0,zax,o_ixs,zMh,zC4,u0,u1,u2,u3,w0,w1,w2,O.res,Z47,zzT,zhy,zgz,zuK]
def roL{h:T Ob}{c x:Nat}(hx:x<4):RO pr 119 [.f (.i .u64 x)] h c (.f (.i .i64 (zuK x))):=by
 refine zm3 zfE fn119 rfl ?_;simp only[zyw,rU];simp[rW,st0,zax];refine zh0 (roL6 hx) ?_ ?_
 .simp only[rG];omega
 intro mx;simp[rW,zhy]
theorem effS(els:List Nat)(hm:els∈pl3){h:T Ob}{c id n:Nat}{jk:List Nat}(hid:id<c)(hg:h.get id=some (.arr 1 0 (zcp (els++jk)))):
  Eff pr 50 [.sl id 0 els.length 1 n false] h c fun _ h' c'=>h'.get id=some (.arr 1 0 (zcp (srt els++jk)))/\∀j,j<c->j≠id->h'.get j=h.get j:=by
 have hl:=zw0 els hm;refine zjT zfE fn50 ?_;simp only[g50,rU];have hu:IntKind.u64.wrap (els.length:Int)=(els.length:Int):=by rw[IntKind.wrap_u64];omega
 simp[rW,st0,zax,hu];refine zh0 (roL (x:=els.length) (by omega)) ?_ ?_
 .simp only[rG];omega
 intro mx0;generalize zuK els.length=lm;simp[rW,zax];refine wq_l (h:=h) (c:=c) (by simp only[rG]) (by simp only[rG]) (effP els hm hid hg) ?_;rintro d' h' c' lw mx HS hcc;simp[rW,ztV,ziC];refine⟨⟨HS.row,HS.fr⟩,fun e=> ?_⟩;have e2:lw=c:=by
  rw[show c.min lw=lw from Z202 HS.low]at e;exact e
 exact (HS.fin hid e2).row
def roIN{h:T Ob}{c:Nat}:RO pr 215 [.f .nils,.f (.i .i64 0),.f (.i .i64 0)] h c (.tu []):=by
 have w1:IntKind.i64.wrap 1=1:=rfl;refine zm3 zfE zFd rfl ?_;simp only[zup,rU];simp[rW,st0,zax,w1];refine round ?_;simp[rW,w1,zKI,ziC]
def roPN{h:T Ob}{c lm:Nat}:RO pr 118 [.f .nils,.f (.i .i64 0),.f (.i .i64 0),.f (.i .i64 lm)] h c (.tu []):=by
 have w0:IntKind.i64.wrap 0=0:=rfl;refine zm3 zfE zFb rfl ?_;simp only[zuo,rU];simp[rW,st0,zax];refine round ?_;simp[rW,w0];refine zh0 roIN ?_ ?_
 .simp only[rG];omega
 intro mx;simp[rW,zhy,ziC]
def effSn{h:T Ob}{c:Nat}:Eff pr 50 [.f .nils] h c fun _ h' _=>h'=h:=by
 refine zjT zfE fn50 ?_;simp only[g50,rU];have w0:IntKind.u64.wrap 0=0:=rfl;simp[rW,st0,zax,w0];refine zh0 (roL (x:=0) (by omega)) ?_ ?_
 .simp only[rG];omega
 intro mx0;simp[rW,zax,zuK];refine zh0 (roPN (lm:=0)) ?_ ?_
 .simp only[rG];omega
 intro mx;simp[rW,ztV,ziC]
def fn99:pr.fn 99=some g99:=by kernel_rfl
def zaH(l:List Int):(valsF l).d= .f (valsF l):=zgb ..
def zcL(l:List Int):zcE (.f (valsF l))=some l.length:=by simp[valsF,zfb]
def zic(l:List Int)(n:Nat):iaB 3 (.f (valsF l)) n=(l[n]?).map fun v=>D.fptr (vF v):=by simp[valsF,zfC,Z67]
def Pc(p:List F):Prop:=∃a b c,p=[a,b,c]/\a.d= .f a/\b.d= .f b/\c.d= .f c
def cmpL:List Int->List Int->Int
 |[],[]=>0
 |[],_::_=> -1
 |_::_,[]=>1
 |x::a,y::b=>if x=y then cmpL a b else zcn x y
def ztJ(l:List Int):cmpL [] l=if 0<l.length then -1 else 0:=by cases l<;>simp[cmpL]
def zry(l:List Int):cmpL l []=if 0<l.length then 1 else 0:=by cases l<;>simp[cmpL]
def J46(a b:List Int)(n:Nat)(s:St):Prop:=n<=a.length/\n<=b.length/\(s.tm.get 0=some (.f (valsF a))/\s.tm.get 1=some (.f (valsF b))/\s.tm.get 5=some (.f (.i .i64 n)))/\cmpL a b=cmpL (a.drop n) (b.drop n)
def zoE(a b:List Int)(hl:a.length<1000):Ans pr 99 [valsF a,valsF b] (.i .i64 (cmpL a b)):=by
 refine zb6 fn99 ?_;simp only[g99,rU];simp[rW,st0,zax,zaH];refine zeD (fun k s=>∃n:Nat,k=a.length - n/\J46 a b n s) (fun x s=>(x= .ret/\s.tm.get 4=some (.f (.i .i64 (cmpL a b))))\/(x= .exit 0/\∃n:Nat,(n=a.length\/n=b.length)/\J46 a b n s)) ?_ a.length _ ⟨0,rfl,Z61 _,Z61 _,?_,rfl⟩ ?_
 .rintro k s ⟨n,rfl,hn,hn',⟨h0,h1,h5⟩,hA⟩;have hw:=zaK n (by omega)
  by_cases hlt:n<a.length
  .by_cases hlt':n<b.length
   .rw[Z55 hlt,Z55 hlt']at hA;simp only[cmpL]at hA;have hx:a[n]? =some a[n]:=Z0 hlt;have hy:b[n]? =some b[n]:=Z0 hlt';generalize hX:a[n]=x at hx hA;generalize hY:b[n]=y at hy hA;have q:=fun k=>zaj (k:=k) (zJ8 x y)
    simp only[vF]at q;simp[rW,h0,h1,h5,zcL,hlt,hlt'];refine zaM ?_
    by_cases he:x=y
    .have hz:zcn x y=0:=by simp[zcn,he]
     rw[hz]at q;rw[Z51 he]at hA;simp[rW,h0,h1,h5,zic,hx,hy,hX,hY,hlt,hlt',vF,q,hw];rw[zcY];refine⟨a.length - (n+1),by omega,n+1,rfl,by omega,by omega,?_,hA⟩;simp[rW,h0,h1,hw]
    .have hz:zcn x y≠0:=by
      unfold zcn;rw[Z49 he];split<;>decide
     rw[Z49 he]at hA;generalize zcn x y=z at q hz hA;simp[rW,h0,h1,h5,zic,hx,hy,hX,hY,hlt,hlt',vF,q,hz];exact hA.symm
   .obtain rfl:n=b.length:=by omega
    simp[rW,h0,h1,h5,zcL,hlt,hlt'];refine .inr ⟨hn,hn',?_,hA⟩;simp[rW,h0,h1,h5]
  .obtain rfl:n=a.length:=by omega
   simp[rW,h0,h1,h5,zcL,hlt];refine .inl ⟨hn,hn',?_,hA⟩;simp[rW,h0,h1,h5]
 .simp[rW]
 .rintro x s (⟨rfl,h4⟩ |⟨rfl,n,he,hn,hn',⟨h0,h1,h5⟩,hA⟩)
  .simp[rW,h4]
  .have hf:cmpL a b=if a.length<b.length then -1 else if b.length<a.length then 1 else 0:=by
    rw[hA];rcases he with rfl|rfl
    .rw[Z206,ztJ,List.length_drop]
     by_cases h1:a.length<b.length
     .rw[Z51 (by omega),Z51 h1]
     .rw[Z49 (by omega),Z49 h1,Z49 (by omega)]
    .rw[Z206,zry,List.length_drop]
     by_cases h1:b.length<a.length
     .rw[Z51 (by omega),Z49 (by omega),Z51 h1]
     .rw[Z49 (by omega),Z49 (by omega),Z49 h1]
   rw[hf]
   by_cases k1:a.length<b.length
   .simp[rW,h0,h1,zcL,k1]
   .by_cases k2:b.length<a.length
    .simp[rW,h0,h1,zcL,k1,k2]
    .simp[rW,h0,h1,zcL,k1,k2]
def zFa:pr.fn 104=some zun:=by kernel_rfl
def fn38:pr.fn 38=some g38:=by kernel_rfl
def fn98:pr.fn 98=some g98:=by kernel_rfl
structure zjo(SS:Nat->List F->Prop)(PP:List F->Prop):Prop where
 z:∃p,SS 0 p/\Ans pr 35 [.i .i64 0] (.ag p)
 pc:∀k p,SS k p->Pc p
 pp:∀p,PP p->Pc p
 add:∀k s p,k<3->SS k s->PP p->∃r,SS (k+1) r/\Ans pr 192 [.ag s,.ag p] (.ag r)
 prob:∀k s,SS k s->∃b,Ans pr 103 [.ag s] (.b b)
 norm:∀p,PP p->Ans pr 40 [.ag p] (.ag p)
def ixF(b:List Nat):F:= .sl 1 (b.map fun i=>[.i .i64 (i:Nat)])
def I73(SS:Nat->List F->Prop)(r:Rl)(b:List Nat)(k:Nat)(s:St):Prop:=
 ∃n:Nat,n<=b.length/\k=b.length - n/\s.tm.get 1=some (.f (ixF b))/\s.tm.get 2=some (.ptr 0 4 0 0)/\s.tm.get 4=some (.ptr 1 3 0 0)/\s.tm.get 5=some (.ptr 2 3 0 0)/\s.tm.get 6=some (.f (.i .i64 n))/\
  s.h.get 0=some (.arr 4 0 [[.f (.s r.nm),.f (.b r.ce),.f r.co,.f (slc 4 (r.tu.map tuF))]])/\s.h.get 1=some (.arr 3 0 [[.f (.b false),.f .nils,.f .nils]])/\3<=s.c/\
  ∃p0 p1 p2:F,SS n [p0,p1,p2]/\s.h.get 2=some (.arr 3 0 [[.f p0,.f p1,.f p2]])
def R73(SS:Nat->List F->Prop)(b:List Nat)(x:Ex)(s:St):Prop:=
 x= .exit 0/\s.tm.get 4=some (.ptr 1 3 0 0)/\s.tm.get 5=some (.ptr 2 3 0 0)/\s.h.get 1=some (.arr 3 0 [[.f (.b false),.f .nils,.f .nils]])/\3<=s.c/\∃p0 p1 p2:F,SS b.length [p0,p1,p2]/\s.h.get 2=some (.arr 3 0 [[.f p0,.f p1,.f p2]])
theorem zJ3{SS:Nat->List F->Prop}{PP:List F->Prop}(hS:zjo SS PP)(r:Rl)(hco:r.co.d= .f r.co)(hce:(D.f r.co).cells=some [.f r.co])(hT:∀t∈r.tu,PP t.2)(b:List Nat)(hb:b.length<=3)(hbi:∀i∈b,i<r.tu.length):
  ∃p,SS b.length p/\Ans pr 104 [.ag (rlF r),ixF b] (.ag p):=by
 have main:∃y,(∃p,y= .ag p/\SS b.length p)/\Ans pr 104 [.ag (rlF r),ixF b] y:=by
  refine znH zFa ?_;obtain⟨z,hz0,hz⟩ :=hS.z;obtain⟨z0,z1,z2,rfl,hd0,hd1,hd2⟩ :=hS.pc _ _ hz0;have q16:=fun k=>zaj (k:=k) hz
  simp only[zun,rU];simp -implicitDefEqProofs [rR,st0,zax,rlF,ixF,hco,q16,hd0,hd1,hd2];refine zeD (I73 SS r b) (R73 SS b) ?_ b.length _ ⟨0,Z61 _,rfl,?_,?_,?_,?_,?_,?_,?_,?_,z0,z1,z2,hz0,?_⟩ ?_
  any_goals (simp -implicitDefEqProofs [rR,zax,ixF];done)
  .rintro k s ⟨n,hn,rfl,h1,h2,h4,h5,h6,g0,g1,hc,p0,p1,p2,hp,g2⟩;have hw:=zaK n (by omega);have c0:0<s.c:=by omega
   have c1:1<s.c:=by omega
   have c2:2<s.c:=by omega
   by_cases hlt:n<b.length
   .have hix:=hbi _ (Z1 hlt);have hpt:=hT _ (Z1 hix);obtain⟨x0,x1,x2,hx,_,_,_⟩ :=hS.pp _ hpt;have htu:tuF (r.tu[b[n]])=[valsF (r.tu[b[n]]).1,x0,x1,x2]:=by unfold tuF;rw[hx]
    obtain⟨w,hw1,hw2⟩ :=hS.add n _ _ (by omega) hp hpt;obtain⟨w0,w1,w2,rfl,he0,he1,he2⟩ :=hS.pc _ _ hw1;rw[hx]at hw2;have q113:=fun k=>zaj (k:=k) hw2
    simp only[ixF]at h1;simp -implicitDefEqProofs [rR,h1,h2,h4,h5,h6,g0,g1,g2,hlt];refine zaM ?_;simp -implicitDefEqProofs [rR,h1,h2,h4,h5,h6,g0,g1,g2,hlt,hix,htu,q113,he0,he1,he2,c0,c1,c2,hw];rw[zcY];refine⟨b.length - (n+1),by omega,n+1,by omega,rfl,?_,?_,?_,?_,?_,?_,?_,?_,w0,w1,w2,hw1,?_⟩
    all_goals simp -implicitDefEqProofs [rR,h1,h2,h4,h5,h6,g0,g1,g2,ixF,c0,c1,c2,hc]
   .have hnl:n=b.length:=by omega
    subst hnl;simp only[ixF]at h1;simp -implicitDefEqProofs [rR,h1,h6];exact⟨rfl,by simp -implicitDefEqProofs [rR,h4],by simp -implicitDefEqProofs [rR,h5],by simp -implicitDefEqProofs [rR,g1],by simp -implicitDefEqProofs [rR,hc],p0,p1,p2,hp,by simp -implicitDefEqProofs [rR,g2]⟩
  .rintro x s ⟨rfl,h4,h5,g1,hc,p0,p1,p2,hp,g2⟩;have c1:1<s.c:=by omega
   simp -implicitDefEqProofs [rR,h4,h5,g1,g2,c1];exact hp
 obtain⟨y,⟨p,rfl,hp⟩,ha⟩ :=main;exact⟨p,hp,ha⟩
def zcm(B:List (List Nat)):F:=slc 1 (B.map fun b=>[ixF b])
structure zee(SS:Nat->List F->Prop)(PP:List F->Prop)(r:Rl):Prop where
 co:r.co.d= .f r.co
 cc:(D.f r.co).cells=some [.f r.co]
 v:Ans pr 101 [.ag [.s r.nm,.b r.ce,r.co]] (.b true)
 n:r.tu.length<=3
 p:∀t∈r.tu,PP t.2
 c:∀t∈r.tu,∃e,Ans pr 97 [.ag [.s r.nm,.b r.ce,r.co],.ag (tuF t)] (.i .i64 e)
 l:∀t∈r.tu,t.1.length<10
 g:∃B:List (List Nat),Ans pr 102 [.ag (rlF r)] (zcm B)/\B.length<=3/\∀b∈B,b.length<=3/\∀i∈b,i<r.tu.length
 gc:r.ce=true->Ans pr 102 [.ag (rlF r)] .nils
def Srt(r:Rl)(n:Nat):Prop:=∀m (h:m+1<r.tu.length),m+1<n->cmpL (r.tu[m]).1 (r.tu[m+1]).1<0
def zoC(r:Rl)(b:List Nat):Prop:=∃p,Ans pr 104 [.ag (rlF r),ixF b] (.ag p)/\Ans pr 103 [.ag p] (.b true)
structure Gd(r:Rl):Prop where
 v:Ans pr 38 [.ag (rlF r)] (.i .i64 0)
 s:Srt r r.tu.length
 b:∃B:List (List Nat),Ans pr 102 [.ag (rlF r)] (zcm B)/\(B.length<=3/\∀b∈B,b.length<=3/\∀i∈b,i<r.tu.length)/\∀b∈B,zoC r b
abbrev V2(r:Rl)(s:St):Prop:=s.tm.get 1=some (.ptr 0 4 0 0)/\s.h.get 0=some (.arr 4 0 [[.f (.s r.nm),.f (.b r.ce),.f r.co,.f (slc 4 (r.tu.map tuF))]])/\1<=s.c
def I34(r:Rl)(k:Nat)(s:St):Prop:=∃n:Nat,n<=r.tu.length/\k=r.tu.length - n/\V2 r s/\s.tm.get 3=some (.f (.i .i64 n))/\Srt r n
def R34(r:Rl)(x:Ex)(s:St):Prop:=(x= .exit 0/\V2 r s/\Srt r r.tu.length)\/(x= .ret/\∃e,e≠0/\s.tm.get 2=some (.f (.i .i64 e)))
def J34(r:Rl)(B:List (List Nat))(k:Nat)(s:St):Prop:=∃n:Nat,n<=B.length/\k=B.length - n/\V2 r s/\s.tm.get 6=some (.f (zcm B))/\s.tm.get 7=some (.f (.i .i64 n))
def S34(r:Rl)(B:List (List Nat))(x:Ex)(s:St):Prop:=x= .exit 3/\V2 r s/\s.tm.get 6=some (.f (zcm B))
def K34(r:Rl)(B:List (List Nat))(k:Nat)(s:St):Prop:=∃n:Nat,n<=B.length/\k=B.length - n/\V2 r s/\s.tm.get 6=some (.f (zcm B))/\s.tm.get 8=some (.f (.i .i64 n))/\∀b∈B.take n,zoC r b
def T34(r:Rl)(B:List (List Nat))(x:Ex)(s:St):Prop:=(x= .exit 5/\∀b∈B,zoC r b)\/(x= .ret/\∃e,e≠0/\s.tm.get 2=some (.f (.i .i64 e)))
def zlR(b:List Nat):(ixF b).d= .f (ixF b):=rfl
def zgS(b:List Nat):zcE (.f (ixF b))=some b.length:=by simp[ixF,zcE]
def zmG(B:List (List Nat)):(zcm B).d= .f (zcm B):=zgb ..
def zdo(B:List (List Nat)):zcE (.f (zcm B))=some B.length:=by simp[zcm,zfb]
def zgP(B:List (List Nat))(n:Nat):iaB 1 (.f (zcm B)) n=(B[n]?).map fun b=>D.fptr [ixF b]:=by simp[zcm,zfC,Z67]
def EP(r:Rl)(B:List (List Nat))(y:F):Prop:=∃e,y= .i .i64 e/\(e=0->Srt r r.tu.length/\∀b∈B,zoC r b)
def zhK{SS:Nat->List F->Prop}{PP:List F->Prop}(hS:zjo SS PP)(r:Rl)(hr:zee SS PP r):∃e,(e=0->Gd r)/\Ans pr 38 [.ag (rlF r)] (.i .i64 e):=by
 obtain⟨B,hB,hBn,hBb⟩ :=hr.g;have main:∃y,EP r B y/\Ans pr 38 [.ag (rlF r)] y:=by
  refine znH fn38 ?_;have hB0:=hB;have hnT:=hr.n;have hco:=hr.co;have q70:=fun k=>zaj (k:=k) hr.v
  simp only[rlF]at hB;have q71:=fun k=>zaj (k:=k) hB
  have h64:¬((64:Int)< (r.tu.length:Int)):=by omega
  simp only[g38,rU];simp -implicitDefEqProofs [rR,st0,zax,rlF,hco,q70,h64];refine zeD (I34 r) (R34 r) ?_ r.tu.length _ ⟨0,Z61 _,rfl,⟨?_,?_,?_⟩,?_,fun m h h2=>by omega⟩ ?_
  any_goals (simp -implicitDefEqProofs [rR,zax];done)
  .rintro k s ⟨n,hn,rfl,⟨h1,g0,hc⟩,h3,hsr⟩;have hw:=zaK n (by omega);have c0:0<s.c:=by omega
   by_cases hlt:n<r.tu.length
   .obtain⟨e,he⟩ :=hr.c _ (Z1 hlt);obtain⟨x0,x1,x2,hx,hd0,hd1,hd2⟩ :=hS.pp _ (hr.p _ (Z1 hlt));have htu:tuF (r.tu[n])=[valsF (r.tu[n]).1,x0,x1,x2]:=by unfold tuF;rw[hx]
    rw[htu]at he;have q44:=fun k=>zaj (k:=k) he
    by_cases he0:e=0
    .subst he0;cases n with
     |zero=>
      have hw01:IntKind.i64.wrap 1=1:=by decide
      simp -implicitDefEqProofs [rR,h1,g0,h3,hlt];refine zaM ?_;simp -implicitDefEqProofs [rR,h1,g0,h3,hlt,htu,hco,zaH,hd0,hd1,hd2,q44,hw01];rw[zcY];refine⟨r.tu.length - 1,by omega,1,by omega,rfl,⟨?_,?_,?_⟩,?_,fun m h h2=>by omega⟩
      all_goals simp -implicitDefEqProofs [rR,h1,g0,hc]
     |succ m=>
      have hwm:IntKind.i64.wrap (m:Int)=(m:Int):=wrap_i64 _ (by omega) (by omega);have hwm2:IntKind.i64.wrap ((m:Int)+1+1)=((m+2:Nat):Int):=wrap_i64 _ (by omega) (by omega);have hltI:(m:Int)+1<r.tu.length:=by omega
      have hltm:m<r.tu.length:=by omega
      have hne0:¬((m:Int)+1=0):=by omega
      have hp0:(0:Int)<=(m:Int)+1:=by omega
      have h25:=zoE (r.tu[m]).1 (r.tu[m+1]).1 (by have:=hr.l _ (Z1 hltm);omega);obtain⟨y0,y1,y2,hy,_,_,_⟩ :=hS.pp _ (hr.p _ (Z1 hltm));have htum:tuF (r.tu[m])=[valsF (r.tu[m]).1,y0,y1,y2]:=by unfold tuF;rw[hy]
      have q46:=fun k=>zaj (k:=k) h25
      obtain⟨z,hz⟩ :∃z,z=cmpL (r.tu[m]).1 (r.tu[m+1]).1:=⟨_,rfl⟩
      rw[<-hz]at q46
      by_cases k0:z=0
      .simp -implicitDefEqProofs [rR,h1,g0,h3,hltI];refine zaM ?_;simp -implicitDefEqProofs [rR,h1,g0,h3,hlt,hltI,hltm,hp0,htu,htum,hco,zaH,hd0,hd1,hd2,q44,hne0];refine zaM ?_;simp -implicitDefEqProofs [rR,h1,g0,h3,hlt,hltI,hltm,hp0,htu,htum,hco,zaH,hd0,hd1,hd2,hwm,q46,k0];exact .inr ⟨rfl,8,by decide,by simp -implicitDefEqProofs [rR,h1]⟩
      .by_cases k1:0<z
       .simp -implicitDefEqProofs [rR,h1,g0,h3,hltI];refine zaM ?_;simp -implicitDefEqProofs [rR,h1,g0,h3,hlt,hltI,hltm,hp0,htu,htum,hco,zaH,hd0,hd1,hd2,q44,hne0];refine zaM ?_;simp -implicitDefEqProofs [rR,h1,g0,h3,hlt,hltI,hltm,hp0,htu,htum,hco,zaH,hd0,hd1,hd2,hwm,q46,k0,k1];exact .inr ⟨rfl,1,by decide,by simp -implicitDefEqProofs [rR,h1]⟩
       .simp -implicitDefEqProofs [rR,h1,g0,h3,hltI];refine zaM ?_;simp -implicitDefEqProofs [rR,h1,g0,h3,hlt,hltI,hltm,hp0,htu,htum,hco,zaH,hd0,hd1,hd2,q44,hne0];refine zaM ?_;simp -implicitDefEqProofs [rR,h1,g0,h3,hlt,hltI,hltm,hp0,htu,htum,hco,zaH,hd0,hd1,hd2,hwm,q46,k0,k1,hwm2];rw[zcY];refine⟨r.tu.length - (m+2),by omega,m+2,by omega,rfl,⟨?_,?_,?_⟩,?_,fun j h h2=>by
         by_cases hj:j=m
         .subst hj;omega
         .exact hsr j h (by omega)⟩
        all_goals simp -implicitDefEqProofs [rR,h1,g0,hc]
        all_goals omega
    .simp -implicitDefEqProofs [rR,h1,g0,h3,hlt];refine zaM ?_;simp -implicitDefEqProofs [rR,h1,g0,h3,hlt,htu,hco,zaH,hd0,hd1,hd2,q44,he0];exact .inr ⟨rfl,e,he0,by simp -implicitDefEqProofs [rR,h1]⟩
   .simp -implicitDefEqProofs [rR,h1,g0,h3,hlt];exact .inl ⟨rfl,⟨by simp -implicitDefEqProofs [rR,h1],by simp -implicitDefEqProofs [rR,g0],by simp -implicitDefEqProofs [rR,hc]⟩,fun m h h2=>hsr m h (by omega)⟩
  .rintro x s (⟨rfl,⟨h1,g0,hc⟩,hsr⟩ |⟨rfl,e,he,h2⟩)
   .have c0:0<s.c:=by omega
    simp -implicitDefEqProofs [rR,h1,g0,hco,q71,zmG];refine zeD (J34 r B) (S34 r B) ?_ B.length _ ⟨0,Z61 _,rfl,⟨?_,?_,?_⟩,?_,?_⟩ ?_
    any_goals (simp -implicitDefEqProofs [rR,h1,g0,hc];done)
    .rintro k s ⟨n,hn,rfl,⟨h1,g0,hc⟩,h6,h7⟩;have hw:=zaK n (by omega)
     by_cases hlt:n<B.length
     .have hbl:=(hBb _ (Z1 hlt)).1;have h16:¬((16:Int)< ((B[n]).length:Int)):=by omega
      simp -implicitDefEqProofs [rR,h1,g0,h6,h7,hlt,zdo,zgP,zgS,zlR,h16,hw];rw[zcY];refine⟨B.length - (n+1),by omega,n+1,by omega,rfl,⟨?_,?_,?_⟩,?_,?_⟩
      all_goals simp -implicitDefEqProofs [rR,h1,g0,hc,h6]
     .simp -implicitDefEqProofs [rR,h1,g0,h6,h7,hlt,zdo];exact⟨rfl,⟨by simp -implicitDefEqProofs [rR,h1],by simp -implicitDefEqProofs [rR,g0],by simp -implicitDefEqProofs [rR,hc]⟩,by simp -implicitDefEqProofs [rR,h6]⟩
    .rintro x s ⟨rfl,⟨h1,g0,hc⟩,h6⟩;simp -implicitDefEqProofs [rR,h1,g0,h6];refine zeD (K34 r B) (T34 r B) ?_ B.length _ ⟨0,Z61 _,rfl,⟨?_,?_,?_⟩,?_,?_,by simp⟩ ?_
     any_goals (simp -implicitDefEqProofs [rR,h1,g0,hc,h6];done)
     .rintro k s ⟨n,hn,rfl,⟨h1,g0,hc⟩,h6,h8,hso⟩;have hw:=zaK n (by omega);have c0:0<s.c:=by omega
      by_cases hlt:n<B.length
      .obtain⟨hbl,hbi⟩ :=hBb _ (Z1 hlt);obtain⟨p,hp,h73⟩ :=zJ3 hS r hr.co hr.cc hr.p (B[n]) hbl hbi;obtain⟨b,h72⟩ :=hS.prob _ _ hp;obtain⟨w0,w1,w2,rfl,he0,he1,he2⟩ :=hS.pc _ _ hp;have h73k:=h73;have hso1:∀b2,Ans pr 103 [.ag [w0,w1,w2]] (.b b2)->b2=true->∀c∈B.take (n+1),zoC r c:=fun b2 hb2 e c hcm=>by
        subst e;rw[Z105,Z0 hlt]at hcm;rcases Z4.1 hcm with h|h
        .exact hso c h
        .have:c=B[n]:=by simpa using h
         rw[this];exact⟨_,h73k,hb2⟩
       simp only[rlF]at h73;have q73:=fun k=>zaj (k:=k) h73
       have q72:=fun k=>zaj (k:=k) h72
       cases b with
       |true=>
        simp -implicitDefEqProofs [rR,h1,g0,h6,h8,hlt,zdo];refine zaM ?_;simp -implicitDefEqProofs [rR,h1,g0,h6,h8,hlt,zgP,zlR,hco,q73,q72,he0,he1,he2,hw,c0];rw[zcY];refine⟨B.length - (n+1),by omega,n+1,by omega,rfl,⟨?_,?_,?_⟩,?_,?_,hso1 _ h72 rfl⟩
        all_goals simp -implicitDefEqProofs [rR,h1,g0,hc,h6]
       |false=>
        simp -implicitDefEqProofs [rR,h1,g0,h6,h8,hlt,zdo];refine zaM ?_;simp -implicitDefEqProofs [rR,h1,g0,h6,h8,hlt,zgP,zlR,hco,q73,q72,he0,he1,he2,hw,c0];exact .inr ⟨rfl,19,by decide,by simp -implicitDefEqProofs [rR,h1]⟩
      .simp -implicitDefEqProofs [rR,h1,g0,h6,h8,hlt,zdo];exact .inl ⟨rfl,fun b hb=>hso b (by rw[Z11 (by omega)];exact hb)⟩
     .rintro x s (⟨rfl,hall⟩ |⟨rfl,e,he,h2⟩)
      .simp -implicitDefEqProofs [rR,h1];exact⟨_,rfl,fun _=>⟨hsr,hall⟩⟩
      .simp -implicitDefEqProofs [rR,h2];exact⟨_,rfl,fun e0=>absurd e0 he⟩
   .simp -implicitDefEqProofs [rR,h2];exact⟨e,rfl,fun e0=>absurd e0 he⟩
 obtain⟨y,⟨e,rfl,hg⟩,ha⟩ :=main;exact⟨e,fun e0=>by subst e0;exact⟨ha,(hg rfl).1,B,hB,⟨hBn,hBb⟩,(hg rfl).2⟩,ha⟩
def fn100:pr.fn 100=some zyo:=by kernel_rfl
def I36(r:Rl)(vs:List Int)(k:Nat)(s:St):Prop:=∃n:Nat,n<=r.tu.length/\k=r.tu.length - n/\s.tm.get 1=some (.f (valsF vs))/\s.tm.get 2=some (.ptr 0 4 0 0)/\s.h.get 0=some (.arr 4 0 [[.f (.s r.nm),.f (.b r.ce),.f r.co,.f (slc 4 (r.tu.map tuF))]])/\
 s.tm.get 6=some (.f (.i .i64 n))
def R36(x:Ex)(s:St):Prop:=x= .exit 0\/(x= .ret/\∃i:Nat,s.tm.get 4=some (.f (.i .i64 i))/\s.tm.get 5=some (.f (.b true)))
def zJO(y:F):Prop:=∃i b,y= .tu [.i .i64 i,.b b]
def zx0{SS:Nat->List F->Prop}{PP:List F->Prop}(hS:zjo SS PP)(r:Rl)(hr:zee SS PP r)(vs:List Int):∃i b,Ans pr 98 [.ag (rlF r),valsF vs] (.tu [.i .i64 i,.b b]):=by
 have main:∃y,zJO y/\Ans pr 98 [.ag (rlF r),valsF vs] y:=by
  refine znH fn98 ?_;have hnT:=hr.n;have hco:=hr.co;simp only[g98,rU];simp -implicitDefEqProofs [rR,st0,zax,rlF,hco,zaH];refine zeD (I36 r vs) R36 ?_ r.tu.length _ ⟨0,Z61 _,rfl,?_,?_,?_,?_⟩ ?_
  any_goals (simp -implicitDefEqProofs [rR,zax];done)
  .rintro k s ⟨n,hn,rfl,h1,h2,g0,h6⟩;have hw:=zaK n (by omega)
   by_cases hlt:n<r.tu.length
   .obtain⟨x0,x1,x2,hx,hd0,hd1,hd2⟩ :=hS.pp _ (hr.p _ (Z1 hlt));have htu:tuF (r.tu[n])=[valsF (r.tu[n]).1,x0,x1,x2]:=by unfold tuF;rw[hx]
    have h25:=zoE (r.tu[n]).1 vs (by have:=hr.l _ (Z1 hlt);omega);have q25:=fun k=>zaj (k:=k) h25
    by_cases k0:cmpL (r.tu[n]).1 vs=0
    .rw[k0]at q25;simp -implicitDefEqProofs [rR,h1,h2,g0,h6,hlt,htu,q25];exact .inr ⟨rfl,n,by simp -implicitDefEqProofs [rR,h1],by simp -implicitDefEqProofs [rR,h1]⟩
    .simp -implicitDefEqProofs [rR,h1,h2,g0,h6,hlt,htu,q25,k0,hw];rw[zcY];refine⟨r.tu.length - (n+1),by omega,n+1,by omega,rfl,?_,?_,?_,?_⟩
     all_goals simp -implicitDefEqProofs [rR,h1,h2,g0]
   .simp -implicitDefEqProofs [rR,h1,h2,g0,h6,hlt];exact .inl rfl
  .rintro x s (rfl|⟨rfl,i,h4,h5⟩)
   .simp -implicitDefEqProofs [rR,st0];exact⟨_,_,rfl⟩
   .simp -implicitDefEqProofs [rR,h4,h5];exact⟨_,_,rfl⟩
 obtain⟨y,⟨i,b,rfl⟩,ha⟩ :=main;exact⟨i,b,ha⟩
def zjs{SS:Nat->List F->Prop}{PP:List F->Prop}(hS:zjo SS PP)(r:Rl)(hr:zee SS PP r):Ans pr 100 [.ag (rlF r)] (.ag (rlF r)):=by
 refine zb6 fn100 ?_;have hnT:=hr.n;have hco:=hr.co;have hcc:=hr.cc;have hp:=hr.p;have hw1:IntKind.i64.wrap 1=1:=by decide
 have hw2:IntKind.i64.wrap 2=2:=by decide
 have hw3:IntKind.i64.wrap 3=3:=by decide
 simp only[zyo,rU];unfold rlF;generalize r.tu=TT at hnT hp
 match TT,hnT with
 |[],_=>
  simp -implicitDefEqProofs [rR,st0,zax,hco,hcc,Z85,zb2];refine round ?_;simp -implicitDefEqProofs [rR,hco,hcc]
 |[t0],_=>
  have hp0:=hp t0 (by simp);obtain⟨x00,x01,x02,hx0,hd00,hd01,hd02⟩ :=hS.pp _ hp0;have hn0:=hS.norm _ hp0;rw[hx0]at hn0;have q0:=fun k=>zaj (k:=k) hn0
  have htu0:tuF t0=[valsF t0.1,x00,x01,x02]:=by unfold tuF;rw[hx0]
  have hcv0:(D.f (valsF t0.1)).cells=some [.f (valsF t0.1)]:=zcc ..;simp -implicitDefEqProofs [rR,st0,zax,hco,hcc,Z10,Z85,zbz,htu0];refine round ?_;simp -implicitDefEqProofs [rR,hco,hcc,zaH,hw1,hw2,hw3,zaN,leF,hd00,hd01,hd02,q0,hcv0];refine zaM ?_;simp -implicitDefEqProofs [rR,hco,hcc,zaH,hw1,hw2,hw3,zaN,leF,hd00,hd01,hd02,q0,hcv0];refine round ?_;simp -implicitDefEqProofs [rR,hco,hcc,zaH,hw1,hw2,hw3,zaN,leF,hd00,hd01,hd02,q0,hcv0]
 |[t0,t1],_=>
  have hp0:=hp t0 (by simp);obtain⟨x00,x01,x02,hx0,hd00,hd01,hd02⟩ :=hS.pp _ hp0;have hn0:=hS.norm _ hp0;rw[hx0]at hn0;have q0:=fun k=>zaj (k:=k) hn0
  have htu0:tuF t0=[valsF t0.1,x00,x01,x02]:=by unfold tuF;rw[hx0]
  have hcv0:(D.f (valsF t0.1)).cells=some [.f (valsF t0.1)]:=zcc ..;have hp1:=hp t1 (by simp);obtain⟨x10,x11,x12,hx1,hd10,hd11,hd12⟩ :=hS.pp _ hp1;have hn1:=hS.norm _ hp1;rw[hx1]at hn1;have q1:=fun k=>zaj (k:=k) hn1
  have htu1:tuF t1=[valsF t1.1,x10,x11,x12]:=by unfold tuF;rw[hx1]
  have hcv1:(D.f (valsF t1.1)).cells=some [.f (valsF t1.1)]:=zcc ..;simp -implicitDefEqProofs [rR,st0,zax,hco,hcc,Z10,Z85,zbz,htu0,htu1];refine round ?_;simp -implicitDefEqProofs [rR,hco,hcc,zaH,hw1,hw2,hw3,zaN,leF,hd00,hd01,hd02,q0,hcv0,hd10,hd11,hd12,q1,hcv1];refine zaM ?_;simp -implicitDefEqProofs [rR,hco,hcc,zaH,hw1,hw2,hw3,zaN,leF,hd00,hd01,hd02,q0,hcv0,hd10,hd11,hd12,q1,hcv1];refine round ?_;simp -implicitDefEqProofs [rR,hco,hcc,zaH,hw1,hw2,hw3,zaN,leF,hd00,hd01,hd02,q0,hcv0,hd10,hd11,hd12,q1,hcv1];refine zaM ?_;simp -implicitDefEqProofs [rR,hco,hcc,zaH,hw1,hw2,hw3,zaN,leF,hd00,hd01,hd02,q0,hcv0,hd10,hd11,hd12,q1,hcv1];refine round ?_;simp -implicitDefEqProofs [rR,hco,hcc,zaH,hw1,hw2,hw3,zaN,leF,hd00,hd01,hd02,q0,hcv0,hd10,hd11,hd12,q1,hcv1]
 |[t0,t1,t2],_=>
  have hp0:=hp t0 (by simp);obtain⟨x00,x01,x02,hx0,hd00,hd01,hd02⟩ :=hS.pp _ hp0;have hn0:=hS.norm _ hp0;rw[hx0]at hn0;have q0:=fun k=>zaj (k:=k) hn0
  have htu0:tuF t0=[valsF t0.1,x00,x01,x02]:=by unfold tuF;rw[hx0]
  have hcv0:(D.f (valsF t0.1)).cells=some [.f (valsF t0.1)]:=zcc ..;have hp1:=hp t1 (by simp);obtain⟨x10,x11,x12,hx1,hd10,hd11,hd12⟩ :=hS.pp _ hp1;have hn1:=hS.norm _ hp1;rw[hx1]at hn1;have q1:=fun k=>zaj (k:=k) hn1
  have htu1:tuF t1=[valsF t1.1,x10,x11,x12]:=by unfold tuF;rw[hx1]
  have hcv1:(D.f (valsF t1.1)).cells=some [.f (valsF t1.1)]:=zcc ..;have hp2:=hp t2 (by simp);obtain⟨x20,x21,x22,hx2,hd20,hd21,hd22⟩ :=hS.pp _ hp2;have hn2:=hS.norm _ hp2;rw[hx2]at hn2;have q2:=fun k=>zaj (k:=k) hn2
  have htu2:tuF t2=[valsF t2.1,x20,x21,x22]:=by unfold tuF;rw[hx2]
  have hcv2:(D.f (valsF t2.1)).cells=some [.f (valsF t2.1)]:=zcc ..;simp -implicitDefEqProofs [rR,st0,zax,hco,hcc,Z10,Z85,zbz,htu0,htu1,htu2];refine round ?_;simp -implicitDefEqProofs [rR,hco,hcc,zaH,hw1,hw2,hw3,zaN,leF,hd00,hd01,hd02,q0,hcv0,hd10,hd11,hd12,q1,hcv1,hd20,hd21,hd22,q2,hcv2];refine zaM ?_;simp -implicitDefEqProofs [rR,hco,hcc,zaH,hw1,hw2,hw3,zaN,leF,hd00,hd01,hd02,q0,hcv0,hd10,hd11,hd12,q1,hcv1,hd20,hd21,hd22,q2,hcv2];refine round ?_;simp -implicitDefEqProofs [rR,hco,hcc,zaH,hw1,hw2,hw3,zaN,leF,hd00,hd01,hd02,q0,hcv0,hd10,hd11,hd12,q1,hcv1,hd20,hd21,hd22,q2,hcv2];refine zaM ?_;simp -implicitDefEqProofs [rR,hco,hcc,zaH,hw1,hw2,hw3,zaN,leF,hd00,hd01,hd02,q0,hcv0,hd10,hd11,hd12,q1,hcv1,hd20,hd21,hd22,q2,hcv2];refine round ?_;simp -implicitDefEqProofs [rR,hco,hcc,zaH,hw1,hw2,hw3,zaN,leF,hd00,hd01,hd02,q0,hcv0,hd10,hd11,hd12,q1,hcv1,hd20,hd21,hd22,q2,hcv2];refine zaM ?_;simp -implicitDefEqProofs [rR,hco,hcc,zaH,hw1,hw2,hw3,zaN,leF,hd00,hd01,hd02,q0,hcv0,hd10,hd11,hd12,q1,hcv1,hd20,hd21,hd22,q2,hcv2];refine round ?_;simp -implicitDefEqProofs [rR,hco,hcc,zaH,hw1,hw2,hw3,zaN,leF,hd00,hd01,hd02,q0,hcv0,hd10,hd11,hd12,q1,hcv1,hd20,hd21,hd22,q2,hcv2]
 |_::_::_::_::_,h=>exact absurd h (by simp)
end Go.Proofs.YtlinkhjnihjbaaaGreatDoor
end
