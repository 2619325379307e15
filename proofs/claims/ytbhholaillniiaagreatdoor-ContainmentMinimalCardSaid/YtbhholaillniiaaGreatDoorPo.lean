/- The conjunctive queries of the builders, their cores: what is answered of them (closed runs). Written by program. -/
import Derived.Test.YtbhholaillniiaaGreatDoorPk
import Derived.Test.YtbhholaillniiaaGreatDoorPa
import Derived.KernelRfl
import Derived.Test.YtbhholaillniiaaGreatDoorPm
import Derived.Test.YtbhholaillniiaaGreatDoorPn
import Derived.IntWalk
set_option linter.all false
set_option maxRecDepth 100000
set_option maxHeartbeats 4000000
section
namespace Go.Proofs.YtbhholaillniiaaGreatDoor
open Go Go.Vse Go.Vse.Sm
end Go.Proofs.YtbhholaillniiaaGreatDoor
end
section
namespace Go.Proofs.YtbhholaillniiaaGreatDoor
open Go Go.Vse Go.Vse.Sm
def ziw(l:List Nat):List (List D):=l.map fun i=>[D.f (.i .i64 (i:Nat))]
def zFn(a:List Nat):(ziw a).length=a.length:=by simp[ziw]
def NE(d1 d2:D):Prop:=∀x,d1.oid=some x->d2.oid≠some x
def GG(h:T Ob)(lo c n:Nat)(d:D)(els:List Nat):Prop:=
 (n=0/\d= .f .nils/\els=[])\/∃id jk,d= .sl id 0 els.length 1 n false/\h.get id=some (.arr 1 0 (ziw (els++jk)))/\els.length+jk.length=n/\0<n/\lo<=id/\id<c
def GG.up{h h':T Ob}{lo c c' n:Nat}{d:D}{els:List Nat}(H:GG h lo c n d els)(hf:∀x,d.oid=some x->h'.get x=h.get x)(hc:c<=c'):GG h' lo c' n d els:=by
 rcases H with H|⟨id,jk,rfl,h1,h2,h3,h4,h5⟩
 .exact .inl H
 .exact .inr ⟨id,jk,rfl,by rw[hf id rfl];exact h1,h2,h3,h4,by omega⟩
def GG.oid{h:T Ob}{lo c n:Nat}{d:D}{els:List Nat}(H:GG h lo c n d els){x:Nat}(hx:d.oid=some x):lo<=x/\x<c:=by
 rcases H with⟨-,rfl,-⟩ |⟨id,jk,rfl,-,-,-,h4,h5⟩
 .cases hx
 .cases hx;exact⟨h4,h5⟩
def GG.cells{h:T Ob}{lo c n:Nat}{d:D}{els:List Nat}(H:GG h lo c n d els):d.cells=some [d]:=by
 rcases H with⟨-,rfl,-⟩ |⟨id,jk,rfl,-⟩ <;>rfl
def GG.hd8{h:T Ob}{lo c n:Nat}{d:D}{els:List Nat}(H:GG h lo c n d els)(l:List (List D)):hd8 ([d]::l)=false:=by
 rcases H with⟨-,rfl,-⟩ |⟨id,jk,rfl,-⟩ <;>rfl
def GG.len{h:T Ob}{lo c n:Nat}{d:D}{els:List Nat}(H:GG h lo c n d els):zcp d=some els.length:=by
 rcases H with⟨-,rfl,rfl⟩ |⟨id,jk,rfl,-⟩ <;>rfl
theorem zKc{h:T Ob}{lo c n x:Nat}{d:D}{els:List Nat}{rd:List Nat}{K:Rs->Prop}(H:GG h lo c n d els)(hn:els.length=n)(hlo:lo<=c)(hs:n<1000)
  (hK:∀r:Rs,zaq r.c r.wr=true->GG (wrT h r.wr) lo r.c (n+1) r.d (els++[x])->c<=r.c->(∀id,id<c->d.oid≠some id->(wrT h r.wr).get id=h.get id)->(∀y,y∈r.wr.map (·.1)->y=c\/d.oid=some y)->(∀y,y∈r.rd->y∈rd\/d.oid=some y)->(∀y,r.d.oid=some y->y=c\/d.oid=some y)->K r):oB (zbn 1 8 h.get c d [[.f (.i .i64 (x:Nat))]] rd) K:=by
 have hm:∀n,n<=1000000->n<=zaB:=fun n hn=>by have:=zcZ (n:=n) (by omega);simpa using this
 rcases H with⟨rfl,rfl,rfl⟩ |⟨id,jk,rfl,h1,h2,h3,h4,h5⟩
 .rw[zgM,Z49 (by simp),Z51 ⟨hm _ (by simp),hm _ (by simp)⟩];refine hK {d:= .sl c 0 1 1 1 false,rd:=rd,wr:=[(c,some (.arr 1 0 [[.f (.i .i64 (x:Nat))]]))],c:=c+1} ?_ (.inr ⟨c,[],rfl,?_,rfl,by omega,hlo,by simp⟩) (by simp) ?_ ?_ (fun y hy=> .inl hy) (by simp[D.oid])
  .simp[zaq,Z79]
  .simp[wrT,T.zab,ziw]
  .intro i hi _;have:i≠c:=by omega
   simp[wrT,T.zab,this]
  .simp
 .have hj:jk=[]:=Z17.1 (by omega);subst hj;rw[Z22]at h1;have hne:els.length≠0:=by omega
  have e:zbn 1 8 h.get c (.sl id 0 els.length 1 n false) [[.f (.i .i64 (x:Nat))]] rd=some {d:= .sl c 0 (els.length+1) 1 (els.length+1) false,rd:=id::rd,wr:=[(id,none),(c,some (.arr 1 0 (ziw els++[[.f (.i .i64 (x:Nat))]])))],c:=c+1}:=by
   rw[zjA,Z49 (by simp),h1];have k1:¬(0+els.length+1<=n):=by omega
   have k2:=hm (els.length+1) (by omega);have k3:=hm ((els.length+1)*8) (by omega);simp[om,apO,zFn,k1,k2,k3];omega
  rw[e];refine hK _ ?_ (.inr ⟨c,[],?_,?_,by simp;omega,by omega,hlo,by simp⟩) (by simp) ?_ ?_ ?_ (by simp[D.oid])
  .simp[zaq,Z79];omega
  .simp[hn]
  .simp[wrT,T.zab,ziw]
  .intro i hi hne;have h1:i≠c:=by omega
   have h2:i≠id:=fun e=>hne (by rw[e];rfl)
   simp[wrT,T.zab,T.zbt,h1,h2]
  .intro y hy;simp only[Z10,Z85,Z5,Z164,or_false]at hy;rcases hy with rfl|rfl
   .exact .inr rfl
   .exact .inl rfl
  .intro y hy;rcases Z5.1 hy with rfl|hy
   .exact .inr rfl
   .exact .inl hy
structure PS(h:T Ob)(lo c PR:Nat)(W:List (D×Nat×List Nat)):Prop where
 r:h.get PR=some (.arr 1 0 (W.map fun p=>[p.1]))
 g:∀p∈W,GG h lo c p.2.1 p.1 p.2.2
 n:∀(i j:Nat) (p q:D×Nat×List Nat),i≠j->W[i]? =some p->W[j]? =some q->NE p.1 q.1
 l:PR<lo
def PS.up{h h':T Ob}{lo c c' PR:Nat}{W:List (D×Nat×List Nat)}(H:PS h lo c PR W)(hr:h'.get PR=h.get PR)(hf:∀id,lo<=id->id<c->h'.get id=h.get id)(hc:c<=c'):PS h' lo c' PR W:=
 ⟨by rw[hr];exact H.r,fun p hp=>(H.g p hp).up (fun x hx=>by have:=(H.g p hp).oid hx;exact hf x this.1 this.2) hc,H.n,H.l⟩
theorem PS.upd{h h':T Ob}{lo c c' PR i n':Nat}{W:List (D×Nat×List Nat)}{p:D×Nat×List Nat}{d':D}{els':List Nat}(H:PS h lo c PR W)(hi:W[i]? =some p)(hg:GG h' lo c' n' d' els')(hr:h'.get PR=some (.arr 1 0 ((W.set i (d',n',els')).map fun p=>[p.1])))
  (hf:∀id,lo<=id->id<c->p.1.oid≠some id->h'.get id=h.get id)(hN:∀x,d'.oid=some x->c<=x\/p.1.oid=some x)(hc:c<=c'):PS h' lo c' PR (W.set i (d',n',els')):=by
 have hil:i<W.length:=by
  rcases Z145 i W.length with h1|h1
  .exact h1
  .rw[Z97 h1]at hi;cases hi
 have new:∀(j:Nat) (q:D×Nat×List Nat),j≠i->W[j]? =some q->NE d' q.1:=fun j q hj hq x hx e=>by
  have hb:=(H.g q (Z39 hq)).oid e;rcases hN x hx with h1|h1
  .omega
  .exact H.n i j p q (fun e=>hj e.symm) hi hq x h1 e
 refine⟨hr,fun q hq=> ?_,fun a b q1 q2 hab h1 h2=> ?_,H.l⟩
 .obtain⟨j,hj,rfl⟩ :=Z130 hq;rw[List.getElem_set];split
  .exact hg
  .rename_i hne;have hjl:j<W.length:=by simpa using hj
   have hm:W[j]? =some W[j]:=Z0 hjl;refine (H.g _ (Z1 hjl)).up (fun x hx=> ?_) hc;have hb:=(H.g _ (Z1 hjl)).oid hx;exact hf x hb.1 hb.2 fun e=>H.n j i _ p (fun e=>hne e.symm) hm hi x hx e
 .rw[Z87]at h1 h2
  by_cases ha:i=a
  .subst ha;rw[Z51 rfl,Z51 hil]at h1;cases h1;rw[Z49 hab]at h2;exact new b q2 (fun e=>hab e.symm) h2
  .rw[Z49 ha]at h1
   by_cases hb:i=b
   .subst hb;rw[Z51 rfl,Z51 hil]at h2;cases h2;intro x hx e;exact new a q1 hab h1 x e hx
   .rw[Z49 hb]at h2;exact H.n a b q1 q2 hab h1 h2
def fn34:pr.fn 34=some g34:=by kernel_rfl
def zPk(l:List Rl):(D.f (zbS l)).cells=some [.f (zbS l)]:=zcs _ _
structure LR(L:List Rl):Prop where
 n:L.length<=8
 t:∀r∈L,r.tu.length<=3
 o:∀r∈L,r.co.d= .f r.co/\(D.f r.co).cells=some [.f r.co]
def vF(p:Rl):Nat×List Nat:=(p.tu.length,List.range p.tu.length)
def vA(L:List Rl)(n:Nat):List (Nat×List Nat):=(L.take n).map vF++List.replicate (L.length - n) (0,[])
def zQd{L:List Rl}{n:Nat}(h:n<=L.length):(vA L n).length=L.length:=by
 simp[vA];omega
def zQc{L:List Rl}{n:Nat}(h:n<L.length):(vA L n)[n]? =some (0,[]):=by
 unfold vA;have hl:((L.take n).map vF).length=n:=by simp;omega
 rw[Z62 (by omega),hl,Z194,Z160,Z51 (by omega)]
def zQf{L:List Rl}{n:Nat}{p:Rl}(h:L[n]? =some p)(hn:n<L.length):vA L (n+1)=(vA L n).set n (vF p):=by
 unfold vA;have hl:((L.take n).map vF).length=n:=by simp;omega
 rw[Z112 _ _ (by omega),hl,Z194,Z105,h,Z20,Z32]
 congr 1
 obtain⟨m,hm⟩ :∃m,L.length - n=m+1:=⟨L.length - n - 1,by omega⟩
 rw[hm,show L.length - (n+1)=m by omega,Z181];rfl
def zKu{W:List (D×Nat×List Nat)}{V:List (Nat×List Nat)}(h:W.map (·.2)=V){n:Nat}{v:Nat×List Nat}(hv:V[n]? =some v):∃d,W[n]? =some (d,v):=by
 rw[<-h,Z36]at hv;cases hw:W[n]? with
 |none=>rw[hw]at hv;cases hv
 |some p=>
  rw[hw]at hv;cases hv;exact⟨p.1,rfl⟩
def zKU{W:List (D×Nat×List Nat)}{n:Nat}{d:D}{v:Nat×List Nat}(h:W[n]? =some (d,v)):(W.map fun p=>[p.1])[n]? =some [d]:=by
 rw[Z36,h];rfl
def PS.h8{h:T Ob}{lo c PR:Nat}{W:List (D×Nat×List Nat)}(H:PS h lo c PR W):hd8 (W.map fun p=>[p.1])=false:=by
 cases W with
 |nil=>rfl
 |cons p W=>exact (H.g p (by simp)).hd8 _
def zK1{W:List (D×Nat×List Nat)}:(W.map fun p=>[p.1]).length=W.length:=by simp
def zK5{W:List (D×Nat×List Nat)}{n:Nat}{d:D}{v:Nat×List Nat}:(W.map fun p=>[p.1]).set n [d]=(W.set n (d,v)).map fun p=>[p.1]:=by
 rw[Z116]
structure SR(L:List Rl)(h0:T Ob)(c0:Nat)(V:List (Nat×List Nat))(h:T Ob)(c:Nat)(W:List (D×Nat×List Nat)):Prop where
 p:PS h (c0+2) c c0 W
 s:h.get (c0+1)=some (.arr 2 0 [[.f (zbS L),.sl c0 0 L.length 1 L.length true]])
 v:W.map (·.2)=V
 f:∀id,id<c0->h.get id=h0.get id
 c:c0+2<=c
def SR.up{L:List Rl}{h0:T Ob}{c0:Nat}{V:List (Nat×List Nat)}{h h':T Ob}{c c':Nat}{W:List (D×Nat×List Nat)}(H:SR L h0 c0 V h c W)(hf:∀id,id<c->h'.get id=h.get id)(hc:c<=c'):SR L h0 c0 V h' c' W:=by
 have:=H.c;exact⟨H.p.up (hf _ (by omega)) (fun id _ h=>hf id h) hc,by rw[hf _ (by omega)];exact H.s,H.v,fun id h=>(hf id (by omega)).trans (H.f id h),by omega⟩
def Jap(L:List Rl)(h0:T Ob)(c0 n:Nat)(s:St):Prop:=∃W,(s.tm.get 3=some (.ptr (c0+1) 2 0 0)/\s.tm.get 13=some (.f (zbS L))/\s.tm.get 14=some (.f (.i .i64 L.length))/\s.tm.get 15=some (.f (.i .i64 n)))/\SR L h0 c0 (vA L n) s.h s.c W
def Kap(L:List Rl)(h0:T Ob)(c0 n m k:Nat)(s:St):Prop:=∃W,(s.tm.get 3=some (.ptr (c0+1) 2 0 0)/\s.tm.get 13=some (.f (zbS L))/\s.tm.get 14=some (.f (.i .i64 L.length))/\s.tm.get 15=some (.f (.i .i64 n))/\s.tm.get 4=some (.f (.i .i64 n))/\s.tm.get 22=some (.f (.i .i64 m))/\s.tm.get 23=some (.f (.i .i64 k)))/\SR L h0 c0 ((vA L n).set n (k,List.range k)) s.h s.c W
def Rap(L:List Rl)(h0:T Ob)(c0 n:Nat)(s:St):Prop:=∃W,(s.tm.get 3=some (.ptr (c0+1) 2 0 0)/\s.tm.get 13=some (.f (zbS L))/\s.tm.get 14=some (.f (.i .i64 L.length))/\s.tm.get 15=some (.f (.i .i64 n)))/\SR L h0 c0 (vA L (n+1)) s.h s.c W
def zHw{L:List Rl}(hL:LR L){h0:T Ob}{c0:Nat}:Eff pr 34 [.f (zbS L)] h0 c0 fun d h' c'=>d= .ptr (c0+1) 2 0 0/\∃W,SR L h0 c0 (L.map vF) h' c' W:=by
 refine zph zfC fn34 ?_;have hn8:=hL.n;simp only[g34,rU];have m1:L.length<=zaB:=by have:=zcZ (n:=L.length) (by omega);simpa using this
 have m2:L.length*24<=zaB:=by have:=zcZ (n:=L.length*24) (by omega);simpa using this
 simp[rW,st0,zal,zlH,zPk,zra,m1,m2];have n1:¬c0+1=c0:=by omega
 have n2:¬c0=c0+1:=by omega
 refine zcA L.length (Jap L h0 c0) (fun e s=>e= .exit 0/\Jap L h0 c0 L.length s) ?_ ?_ _ ⟨List.replicate L.length (.f .nils,0,[]),⟨?_,?_,?_,?_⟩,⟨⟨?_,?_,?_,by omega⟩,?_,?_,?_,?_⟩⟩ ?_
 .rintro n s hlt ⟨W,⟨h3,h13,h14,h15⟩,HS⟩;have hw:=zau n (by omega);have hx:L[n]? =some L[n]:=Z0 hlt;have hG:=hL.o _ (Z1 hlt);have hm:=hL.t _ (Z1 hlt);generalize hA:L[n]=r at hx hG hm;have hcc:=hG.2;have hd:(zbB r.tu).d= .f (zbB r.tu):=znD _;have hc2:(D.f (zbB r.tu)).cells=some [.f (zbB r.tu)]:=zcs _ _;have hvl:=zQd (L:=L) (n:=n) (by omega);have hvg:=zQc hlt;simp[rW,h3,h13,h14,h15,hlt,zmR,hx,hA,rlE,hcc,hc2,zyt];refine zcA r.tu.length (Kap L h0 c0 n r.tu.length) (fun e s=>e= .exit 2/\Rap L h0 c0 n s) ?_ ?_ _ ⟨W,⟨?_,?_,?_,?_,?_,?_,?_⟩,?_⟩ ?_
  .clear h3 h13 h14 h15 HS W s;rintro k s hk ⟨W,⟨h3,h13,h14,h15,h4,h22,h23⟩,HS⟩;have hwk:=zau k (by omega);obtain⟨d,hWn⟩ :=zKu HS.v (n:=n) (v:=(k,List.range k)) (by rw[Z140 (by omega)]);have hrow:=zKU hWn;have hWd:∀h:n<W.length,W[n]=(d,k,List.range k):=fun h=>(Z8.1 hWn).2
   have gR:=HS.p.r;have gS:=HS.s;have hWl:W.length=L.length:=by have:=congrArg List.length HS.v;simpa [hvl]using this
   have hg:=HS.p.g _ (Z39 hWn);simp only at hg;have n1:¬c0+1=c0:=by omega
   have n2:¬c0=c0+1:=by omega
   have hc:=HS.c;simp[rW,h3,h13,h14,h15,h4,h22,h23,hk];refine zay ?_;simp[rW,h3,h13,h14,h15,h4,h22,h23,gS,gR,hlt,hWl,hrow,zK1,hWd];have hcc1:s.c+1+1+1+1+1+1+1+1+1+1+1+1+1+1=s.c+14:=by omega
   rw[hcc1];have hg2:GG s.h (c0+2) (s.c+14) k d (List.range k):=hg.up (fun _ _=>rfl) (by omega);refine zKc hg2 (by simp) (by omega) (by omega) ?_;intro r1 hr1 hr2 hr3 hr4 hr5 hr6 hr7;have b:∀x,d.oid=some x->c0+2<=x/\x<s.c:=fun x hx=>hg.oid hx
   have e0:=hr4 c0 (by omega) (fun e=>by have:=b _ e;omega);have e1:=hr4 (c0+1) (by omega) (fun e=>by have:=b _ e;omega);have hdj:zcH (r1.wr.map (·.1)) [c0+1]:=fun x hx hm=>by
    rw[Z31.1 hm]at hx;rcases hr5 _ hx with h8|h8
    .omega
    .have:=b _ h8;omega
   refine⟨hr1,hdj,?_⟩;have hce:=hr2.cells;have hc0:c0<r1.c+1+1:=by omega
   have h8:=HS.p.h8;simp[rW,e0,gR,hce,hWn,hc0,h8,hwk];have hs2:((vA L n).set n (k,List.range k)).set n (k+1,List.range (k+1))=(vA L n).set n (k+1,List.range (k+1)):=by rw[Z199]
   have hv2:(W.set n (r1.d,k+1,List.range k++[k])).map (·.2)=(vA L n).set n (k+1,List.range (k+1)):=by rw[Z116,HS.v,Z136,Z199]
   refine⟨W.set n (r1.d,k+1,List.range k++[k]),⟨?_,?_,?_,?_,?_,?_,?_⟩,⟨?_,?_,hv2,?_,?_⟩⟩
   .simp[rW,h3]
   .simp[rW,h13]
   .simp[rW,h14]
   .simp[rW,h15]
   .simp[rW,h4]
   .simp[rW,h22]
   .simp[rW,hwk]
   .simp[rW];refine HS.p.upd hWn (hr2.up (fun x hx=> ?_) (by omega)) ?_ (fun id h1 h2 h3=> ?_) (fun x hx=> ?_) (by omega)
    .have i0:¬x=c0:=by have:=hr2.oid hx;omega
     simp[TG,i0]
    .rw[<-zK5];simp[TG]
    .have i0:¬id=c0:=by omega
     rw[TG,Z49 i0];exact hr4 id (by omega) h3
    .rcases hr7 x hx with h9|h9
     .exact .inl (by omega)
     .exact .inr h9
   .simp[rW,n1,e1,gS]
   .intro id hid;have i0:¬id=c0:=by omega
    have e2:=hr4 id (by omega) (fun e=>by have:=b _ e;omega);simp[rW,i0,e2];exact HS.f id hid
   .simp[rW]<;>omega
  .clear h3 h13 h14 h15 HS W s;rintro s ⟨W,⟨h3,h13,h14,h15,h4,h22,h23⟩,HS⟩;simp[rW,h22,h23];refine⟨W,⟨by simp[rW,h3],by simp[rW,h13],by simp[rW,h14],by simp[rW,h15]⟩,?_⟩;rw[zQf hx hlt];exact HS.up (fun _ _=>rfl) (Z2 _)
  .simp[rW,h3]
  .simp[rW,h13]
  .simp[rW,h14]
  .simp[rW,h15]
  .simp[rW]
  .simp[rW]
  .simp[rW]
  .have e:(vA L n).set n (0,List.range 0)=vA L n:=by
    have h2:(vA L n)[n]'(by omega)=(0,List.range 0):=by
     have:=hvg;rw[Z0 (by omega)]at this;exact Z53 this
    rw[<-h2,Z95]
   rw[e];refine HS.up (fun id hid=> ?_) (by simp[rW]<;>omega);have i0:¬id=s.c:=by omega
   simp[rW,i0]
  .clear h3 h13 h14 h15 HS W s;rintro x s ⟨rfl,W,⟨h3,h13,h14,h15⟩,HS⟩;simp[rW,h15,hw];exact⟨W,⟨by simp[rW,h3],by simp[rW,h13],by simp[rW,h14],by simp[rW]⟩,HS.up (fun _ _=>rfl) (Z2 _)⟩
 .rintro s ⟨W,⟨h3,h13,h14,h15⟩,HS⟩;simp[rW,h14,h15];exact⟨W,⟨by simp[rW,h3],by simp[rW,h13],by simp[rW,h14],by simp[rW,h15]⟩,HS.up (fun _ _=>rfl) (Z2 _)⟩
 .simp[rW]
 .simp[rW]
 .simp[rW]
 .simp[rW]
 .have e:(List.replicate L.length ((D.f .nils,0,[]):D×Nat×List Nat)).map (fun p=>[p.1])=List.replicate L.length [D.f .nils]:=by simp
  rw[e];simp[rW,n1,n2]
 .intro p hp;rw[List.eq_of_mem_replicate hp];exact .inl ⟨rfl,rfl,rfl⟩
 .intro i j p q _ h1 _ x hx;rw[List.eq_of_mem_replicate (Z39 h1)]at hx;simp[D.oid]at hx
 .simp[rW]
 .simp[vA]
 .intro id hid;have i0:¬id=c0:=by omega
  have i1:¬id=c0+1:=by omega
  simp[rW,i0,i1]
 .simp[rW]<;>omega
 .rintro x s ⟨rfl,W,⟨h3,h13,h14,h15⟩,HS⟩;have e:vA L L.length=L.map vF:=by simp[vA]
  rw[e]at HS;simp[rW,h3,zkO];exact⟨W,HS⟩
def fn37:pr.fn 37=some g37:=by kernel_rfl
def fn71:pr.fn 71=some g71:=by kernel_rfl
def vl_d(l:List Int):(valsF l).d= .f (valsF l):=zew ..
def zm2(l:List Int):zcp (.f (valsF l))=some l.length:=by simp[valsF,zeo]
def zqu(l:List Int)(n:Nat):iaB 3 (.f (valsF l)) n=(l[n]?).map fun v=>D.fptr (Sm.vF v):=by simp[valsF,zfh,Z67]
def zaM:List Int->List Int->Int
 |[],[]=>0
 |[],_::_=> -1
 |_::_,[]=>1
 |a::u,b::v=>if zaT a b≠0 then zaT a b else zaM u v
def ro72(a b:Int)(h:T Ob)(c:Nat):RO pr 72 [.ag [.f (.i .i64 1),.f (.i .i64 a),.f (.s [])],.ag [.f (.i .i64 1),.f (.i .i64 b),.f (.s [])]] h c (.f (.i .i64 (zaT a b))):=by
 refine zia zfC fn72 rfl ?_;simp only[g72,rU];have q1:=fun k=>zad (k:=k) (zBq 1 1)
 have q2:=fun k=>zad (k:=k) (zBr a b)
 have q3:=fun k=>zad (k:=k) (zBs [] [])
 have q4:=fun k=>zad (k:=k) (zBp (zaT 1 1) (zaT a b) (zjq [] []))
 rw[(show zaT 1 1=0 from rfl)]at q1 q4;rw[(show zjq [] []=0 from rfl)]at q3 q4;have e:(if(0:Int)≠0 then 0 else if zaT a b≠0 then zaT a b else 0)=zaT a b:=by
  simp only[ne_eq,not_true_eq_false,Z63];split
  .rfl
  .rename_i h;simp at h;exact h.symm
 rw[e]at q4;simp[rW,st0,zal];refine zay ?_;simp[rW,st0,zal,q1,q2,q3,q4,ze8];simp (disch:=omega) only[zib,ziy]
theorem zeL:∀(u v:List Int) (n:Nat),n<=u.length->n<=v.length->(∀i,i<n->u[i]? =v[i]?)->zaM u v=zaM (u.drop n) (v.drop n)
 |_,_,0,_,_,_=>by simp
 |[],_,n+1,h,_,_=>by simp at h
 |_::_,[],n+1,_,h,_=>by simp at h
 |a::u,b::v,n+1,h1,h2,h=>by
  have e:=h 0 (by omega);simp at e;subst e;have:zaT a a=0:=by simp[zaT]
  simp only[zaM,this,List.drop_succ_cons];exact zeL u v n (by simpa using h1) (by simpa using h2) fun i hi=>by simpa using h (i+1) (by omega)
def J71(u v:List Int)(c n:Nat)(s:St):Prop:=(s.tm.get 0=some (.f (valsF u))/\s.tm.get 1=some (.f (valsF v))/\s.tm.get 2=some (.f (.fn 72))/\s.tm.get 11=some (.f (valsF u))/\s.tm.get 12=some (.f (.i .i64 u.length))/\s.tm.get 13=some (.f (.i .i64 n)))/\c<=s.c/\s.lw=c/\n<=v.length/\(∀i,i<n->u[i]? =v[i]?)
def R71(u v:List Int)(c:Nat)(e:Ex)(s:St):Prop:=(e= .exit 0/\J71 u v c u.length s)\/(e= .ret/\s.tm.get 6=some (.f (.i .i64 (zaM u v)))/\s.lw=c)
def ro71(u v:List Int)(hu:u.length<1000)(hv:v.length<1000)(h:T Ob)(c:Nat):RO pr 71 [.f (valsF u),.f (valsF v),.f (.fn 72)] h c (.f (.i .i64 (zaM u v))):=by
 refine zia zfC fn71 rfl ?_;simp only[g71,rU];simp[rW,st0,zal,zm2];refine zcJ (fun k s=>∃n:Nat,n<=u.length/\k=u.length - n/\J71 u v c n s) (R71 u v c) ?_ u.length _ ⟨0,Z61 _,rfl,⟨?_,?_,?_,?_,?_,?_⟩,?_,?_,?_,?_⟩ ?_
 .rintro k s ⟨n,hn,rfl,⟨h0,h1,h2,h11,h12,h13⟩,hc,hlw,hnv,hI⟩;have hw:=zau n (by omega)
  by_cases hlt:n<u.length
  .have hx:u[n]? =some u[n]:=Z0 hlt;generalize hA:u[n]=a at hx
   by_cases hlv:n<v.length
   .have hy:v[n]? =some v[n]:=Z0 hlv;generalize hB:v[n]=b at hy;have hge:¬((v.length:Int)<=(n:Int)):=by omega
    have n1:¬s.c=s.c+1:=by omega
    simp[rW,h0,h1,h2,h11,h12,h13,hlt,zqu,hx,hA,Sm.vF,zm2,hge,hy,hB,n1];refine ziO (ro72 a b _ _) ?_ fun mx=> ?_
    .simp only[rG];simp (disch:=omega) only[zib,ziy];omega
    have hlw2:(s.h.get 0=s.h.get 0):=rfl
    by_cases hz:zaT a b=0
    .have hz2:(zaT a b != 0)=false:=by simp[hz]
     have hab:a=b:=by
      unfold zaT at hz;split at hz
      .assumption
      .split at hz<;>simp at hz
     simp[rW,h0,h1,h2,h11,h12,h13,hz,hw];refine⟨u.length - (n+1),by omega,n+1,by omega,rfl,⟨?_,?_,?_,?_,?_,?_⟩,?_,?_,by omega,?_⟩
     .simp[rW,h0]
     .simp[rW,h1]
     .simp[rW,h2]
     .simp[rW,h11]
     .simp[rW,h12]
     .simp[rW,hw]
     .simp only[rG];omega
     .simp only[rG];simp (disch:=omega) only[zib,ziy];omega
     .intro i hi
      by_cases e:i=n
      .subst e;rw[hx,hy,hab]
      .exact hI i (by omega)
    .have hl3:zaM u v=zaT a b:=by
      rw[zeL u v n hn hnv hI,Z55 hlt,Z55 hlv,hA,hB];simp[zaM,hz]
     simp[rW,h0,h1,h2,h11,h12,h13,hz];refine .inr ⟨rfl,?_,?_⟩
     .simp[rW,hl3]
     .simp only[rG];simp (disch:=omega) only[zib,ziy];omega
   .have hge:(v.length:Int)<=(n:Int):=by omega
    have hl3:zaM u v=1:=by
     rw[zeL u v n hn hnv hI,Z55 hlt,show List.drop n v=[]from Z24 (by omega)];rfl
    have n1:¬s.c=s.c+1:=by omega
    simp[rW,h0,h1,h2,h11,h12,h13,hlt,zqu,hx,hA,Sm.vF,zm2,hge,n1];refine .inr ⟨rfl,?_,?_⟩
    .simp[rW,hl3]
    .simp only[rG];simp (disch:=omega) only[zib,ziy];omega
  .have hen:n=u.length:=by omega
   subst hen;simp[rW,h0,h1,h2,h11,h12,h13];exact .inl ⟨rfl,⟨by simp[rW,h0],by simp[rW,h1],by simp[rW,h2],by simp[rW,h11],by simp[rW,h12],by simp[rW,h13]⟩,by simp only[rG];omega,by simp only[rG];exact hlw,hnv,hI⟩
 .simp[rW]
 .simp[rW]
 .simp[rW]
 .simp[rW]
 .simp[rW]
 .simp[rW]
 .simp[rW]
 .simp[rW]
 .simp
 .intro i hi;omega
 .rintro e s (⟨rfl,⟨h0,h1,h2,h11,h12,h13⟩,hc,hlw,hnv,hI⟩ |⟨rfl,h6,hlw⟩)
  .by_cases hl:u.length<v.length
   .have hl3:zaM u v= -1:=by
     rw[zeL u v u.length (Z2 _) hnv hI,Z206,Z55 hl];rfl
    simp[rW,h0,h1,h2,zm2,hl,hl3,ze8,hlw]
   .have he:v.length=u.length:=by omega
    have hl3:zaM u v=0:=by
     rw[zeL u v u.length (Z2 _) hnv hI,Z206,<-he,Z206];rfl
    simp[rW,h0,h1,h2,zm2,hl,hl3,ze8,hlw]
  .simp[rW,h6,ze8,hlw]
def zGL(u v:List Int)(hu:u.length<1000)(hv:v.length<1000):Ans pr 37 [valsF u,valsF v] (.i .i64 (zaM u v)):=by
 refine zcx fn37 ?_;simp only[g37,rU];simp[rW,st0,zal,vl_d];refine ziO (ro71 u v hu hv _ _) ?_ fun mx=> ?_
 .simp only[rG];omega
 simp[rW]
inductive Opn where
 |var (i:Nat)
 |cst (z:Int)
def Opn.c:Opn->List F
 | .var i=>[.i .i64 i,.i .i64 0,.i .i64 0,.s []]
 | .cst z=>[.i .i64 (-1),.i .i64 1,.i .i64 z,.s []]
def Opn.m:Opn->Nat
 | .var i=>2 ^ i
 | .cst _=>0
structure Pat where
 r:Nat
 ts:List Opn
def Pat.m(p:Pat):Nat:=p.ts.foldl (fun b t=>b|||t.m) 0
structure Cnd where
 op:Int
 l:Opn
 r:Opn
def Cnd.m(k:Cnd):Nat:=k.l.m|||k.r.m
abbrev Asg:=List (Option Int)
def zaO:Asg->Nat
 |[]=>0
 |o::σ=>(if o.isSome then 1 else 0)+2*zaO σ
def zaF(σ:Asg):Opn->Option Int
 | .var i=>(σ[i]?).join
 | .cst z=>some z
def opD(ts:List Opn):List (List D):=(ts.map Opn.c).map fun a=>a.map D.f
def paD(W:List (Pat×D)):List (List D):=W.map fun p=>[.f (.i .i64 p.1.r),p.2,.f (.i .u64 p.1.m)]
def cnD(cs:List Cnd):List (List D):=(cs.map fun k=>[F.i .i64 k.op]++k.l.c++k.r.c++[F.i .u64 k.m]).map fun a=>a.map D.f
structure Mx where
 ns:List Str
 M:Nat
 V:Nat
 S:Nat
 dP:D
 WP:List (Pat×D)
 dN:D
 WN:List (Pat×D)
 dC:D
 cs:List Cnd
def ziK(h:T Ob)(lo c:Nat)(d:D)(W:List (Pat×D)):Prop:=Gro h lo c 3 d (paD W)/\∀q∈W,Gro h lo c 4 q.2 (opD q.1.ts)
def zEl(x:List D):Prop:=∃a b:Int,x=[.f (.i .i64 a),.f (.i .i64 b),.f (.s [])]
def zMk{vs:List (List D)}(h:∀x∈vs,zEl x):hd8 vs=false:=by
 cases vs with
 |nil=>rfl
 |cons x l=>
  obtain⟨a,b,rfl⟩ :=h x (by simp);rfl
structure MtS(h:T Ob)(c:Nat)(X:Mx)(σ:Asg):Prop where
 m:h.get X.M=some (.arr 7 0 [[.ptr X.S 2 0 0,.f (zah X.ns),X.dP,X.dN,X.dC,.sl X.V 0 X.ns.length 3 X.ns.length true,.f (.i .u64 (zaO σ))]])
 v:∃vs,h.get X.V=some (.arr 3 0 vs)/\vs.length=X.ns.length/\(∀x∈vs,zEl x)/\∀(i:Nat) (z:Int),σ[i]? =some (some z)->vs[i]? =some ((Sm.vF z).map D.f)
 n:σ.length=X.ns.length
 n6:σ.length<=6
 P:ziK h (X.V+1) c X.dP X.WP
 N:ziK h (X.V+1) c X.dN X.WN
 C:Gro h (X.V+1) c 10 X.dC (cnD X.cs)
 o:X.S<X.M/\X.M<X.V/\X.V<c
def ziK.up{h h':T Ob}{lo c c':Nat}{d:D}{W:List (Pat×D)}(H:ziK h lo c d W)(hf:∀id,lo<=id->id<c->h'.get id=h.get id)(hc:c<=c'):ziK h' lo c' d W:=
 ⟨zaS H.1 hc hf,fun q hq=>zaS (H.2 q hq) hc hf⟩
def MtS.up{h h':T Ob}{c c':Nat}{X:Mx}{σ:Asg}(H:MtS h c X σ)(hf:∀id,id<c->h'.get id=h.get id)(hc:c<=c'):MtS h' c' X σ:=by
 have o:=H.o;obtain⟨vs,h1,h2,h3,h4⟩ :=H.v;exact⟨by rw[hf _ (by omega)];exact H.m,⟨vs,by rw[hf _ (by omega)];exact h1,h2,h3,h4⟩,H.n,H.n6,H.P.up (fun id _ h=>hf id h) hc,H.N.up (fun id _ h=>hf id h) hc,zaS H.C hc (fun id _ h=>hf id h),by omega⟩
def Fr(X:Mx)(c:Nat)(h h':T Ob):Prop:=∀id,id<c->id≠X.M->id≠X.V->h'.get id=h.get id
def Fr.refl(X:Mx)(c:Nat)(h:T Ob):Fr X c h h:=fun _ _ _ _=>rfl
def Fr.trans{X:Mx}{c c':Nat}{h h' h2:T Ob}(a:Fr X c h h')(b:Fr X c' h' h2)(hc:c<=c'):Fr X c h h2:=fun id h1 h2' h3=>(b id (by omega) h2' h3).trans (a id h1 h2' h3)
theorem MtS.wr{h h':T Ob}{c c':Nat}{X:Mx}{σ σ':Asg}(H:MtS h c X σ)(hf:Fr X c h h')(hc:c<=c')
  (hm:h'.get X.M=some (.arr 7 0 [[.ptr X.S 2 0 0,.f (zah X.ns),X.dP,X.dN,X.dC,.sl X.V 0 X.ns.length 3 X.ns.length true,.f (.i .u64 (zaO σ'))]]))
  (hv:∃vs,h'.get X.V=some (.arr 3 0 vs)/\vs.length=X.ns.length/\(∀x∈vs,zEl x)/\∀(i:Nat) (z:Int),σ'[i]? =some (some z)->vs[i]? =some ((Sm.vF z).map D.f))(hn:σ'.length=σ.length):MtS h' c' X σ':=by
 have o:=H.o;have key:∀id,X.V+1<=id->id<c->h'.get id=h.get id:=fun id h1 h2=>hf id h2 (by omega) (by omega)
 exact⟨hm,hv,hn.trans H.n,hn▸H.n6,H.P.up key hc,H.N.up key hc,zaS H.C hc key,by omega⟩
def Same(d0:D)(h:T Ob)(c:Nat)(d:D)(h':T Ob)(_:Nat):Prop:=d=d0/\∀id,id<c->h'.get id=h.get id
def Same.rfl'(d0:D)(h:T Ob)(c c':Nat):Same d0 h c d0 h c':=⟨rfl,fun _ _=>rfl⟩
def fn260:pr.fn 260=some zAn:=by kernel_rfl
def vRw(v:List Int):List (List D):=(v.map Sm.vF).map fun a=>a.map D.f
def zMe(h:T Ob)(k:Nat){id ro:Nat}{v:List Int}(hg:h.get id=some (.arr 3 ro (vRw v)))(hv:v≠[]):frz h.get (k+2) (.sl id 0 v.length 3 v.length true)=some (valsF v,[id]):=by
 have e:((vRw v).drop 0).take v.length=vRw v:=by
  rw[Z34,Z11 (by simp[vRw])]
 have hn:valsF v= .sl 3 (v.map Sm.vF):=by
  cases v with
  |nil=>exact absurd rfl hv
  |cons a v=>rfl
 have h2:=zlA h.get k (v.map Sm.vF);rw[zfm,hg];simp only[om,Z46,fzS];rw[Z51 (by simp[vRw]),e];unfold vRw;rw[h2,hn];rfl
def HasP(d0:D)(v:List Int)(id:Nat)(h:T Ob)(c:Nat)(d:D)(h':T Ob)(_:Nat):Prop:=d=d0/\(∃ro',h'.get id=some (.arr 3 ro' (vRw v)))/\∀x,x<c->x≠id->h'.get x=h.get x
def zrt(v:List Int):(vRw v).length=v.length:=by simp[vRw]
theorem zB5{h:T Ob}{c C id ro k:Nat}{ts:List (List Int×List F)}{tv v:List Int}{p:List F}(hC:h.get C=some (.arr 1 0 [[.f (zbB ts)]]))(hg:h.get id=some (.arr 3 ro (vRw v)))(hv:v≠[])(hvl:v.length<1000)(htl:tv.length<1000)
  (ht:ts[k]? =some (tv,p))(hid:id<c)(hCi:C≠id):Eff pr 260 [.f (.i .i64 k),.sl id 0 v.length 3 v.length true,.ptr C 1 0 0] h c (HasP (.f (.i .i64 (zaM tv v))) v id h c):=by
 refine zph zfC fn260 ?_;have q1:=fun k=>zad (k:=k) (zGL tv v htl hvl)
 have hz:=fun k=>zMe h k hg hv
 simp only[zAn,rU];simp[rW,st0,zal,hC,zjt,ht,tuF,hz,q1,hg,zrt,zkO]
 by_cases hr:v.length<=ro
 .simp[rW,hr];exact⟨rfl,⟨ro,hg⟩,fun _ _ _=>rfl⟩
 .have hro:¬(v.length<=ro):=hr;simp[rW,hro,hid];refine⟨⟨rfl,⟨v.length,by simp[rW]⟩,fun x _ hx=>by simp[rW,hx]⟩,fun _=>⟨rfl,⟨ro,hg⟩,fun _ _ _=>rfl⟩⟩
def tb2(op:BinOp)(f:Nat->Nat->Nat):Bool:=(List.range 64).all fun a=>(List.range 64).all fun b=>match zaH op (.i .u64 (a:Nat)) (.i .u64 (b:Nat))with
 |some (.i .u64 z)=>z==(f a b:Nat)
 |_=>false
def zvX{op:BinOp}{f:Nat->Nat->Nat}(h:tb2 op f=true){a b:Nat}(ha:a<64)(hb:b<64):zaH op (.i .u64 (a:Nat)) (.i .u64 (b:Nat))=some (.i .u64 (f a b:Nat)):=by
 have h1:=Z50.1 (Z50.1 h a (by simpa using ha)) b (by simpa using hb);split at h1
 .rename_i z e;rw[e,eq_of_beq h1]
 .cases h1
def zdf(a b:Nat):Nat:=Nat.land a (63 - b)
def t_an:tb2 .andNot zdf=true:=by kernel_rfl
def t_and:tb2 .and Nat.land=true:=by kernel_rfl
def t_or:tb2 .or Nat.lor=true:=by kernel_rfl
def zka{a b:Nat}(ha:a<64)(hb:b<64):=zvX t_an ha hb
def zzk{a b:Nat}(ha:a<64)(hb:b<64):=zvX t_and ha hb
def zl4{a b:Nat}(ha:a<64)(hb:b<64):=zvX t_or ha hb
theorem t_shl:((List.range 7).all fun i=>match zaH .shl (.i .u64 1) (.i .i64 (i:Nat))with
 |some (.i .u64 z)=>z==(2 ^ i:Nat)
 |_=>false)=true:=by kernel_rfl
def zjE{i:Nat}(hi:i<7):zaH .shl (.i .u64 1) (.i .i64 (i:Nat))=some (.i .u64 ((2 ^ i:Nat):Int)):=by
 have h1:=Z50.1 t_shl i (by simpa using hi);split at h1
 .rename_i z e;rw[e,eq_of_beq h1]
 .cases h1
theorem t_shr:((List.range 64).all fun a=>(List.range 6).all fun i=>match zaH .shr (.i .u64 (a:Nat)) (.i .i64 (i:Nat))with
 |some (.i .u64 z)=>z==(a>>>i:Nat)&&(match zaH .and (.i .u64 z) (.i .u64 1)with
  |some (.i .u64 y)=>y==(if a.testBit i then 1 else 0)
  |_=>false)
 |_=>false)=true:=by kernel_rfl
def zGU{a i:Nat}(ha:a<64)(hi:i<6):zaH .shr (.i .u64 (a:Nat)) (.i .i64 (i:Nat))=some (.i .u64 ((a>>>i:Nat):Int))/\zaH .and (.i .u64 ((a>>>i:Nat):Int)) (.i .u64 1)=some (.i .u64 (if a.testBit i then 1 else 0)):=by
 have h1:=Z50.1 (Z50.1 t_shr a (by simpa using ha)) i (by simpa using hi);split at h1
 .rename_i z e;simp only[Z14]at h1;obtain⟨h2,h3⟩ :=h1;have h2:=eq_of_beq h2;subst h2;refine⟨e,?_⟩;split at h3
  .rename_i y e2;rw[e2,eq_of_beq h3]
  .cases h3
 .cases h1
theorem t_low:((List.range 64).all fun a=>a==0||match zaH .sub (.i .u64 (a:Nat)) (.i .u64 1)with
 |some (.i .u64 z)=>(z==(a - 1:Nat))&&(match zaH .and (.i .u64 (a:Nat)) (.i .u64 z)with
  |some (.i .u64 y)=>y==(Nat.land a (a - 1):Nat)
  |_=>false)
 |_=>false)=true:=by kernel_rfl
def zzm{a:Nat}(ha:a<64)(h0:a≠0):zaH .sub (.i .u64 (a:Nat)) (.i .u64 1)=some (.i .u64 ((a - 1:Nat):Int))/\zaH .and (.i .u64 (a:Nat)) (.i .u64 ((a - 1:Nat):Int))=some (.i .u64 ((Nat.land a (a - 1):Nat):Int)):=by
 have h1:=Z50.1 t_low a (by simpa using ha);have hz:(a==0)=false:=by simpa using h0
 rw[hz,Bool.false_or]at h1;split at h1
 .rename_i z e;simp only[Z14]at h1;obtain⟨h2,h3⟩ :=h1;have h2:=eq_of_beq h2;subst h2;refine⟨e,?_⟩;split at h3
  .rename_i y e2;rw[e2,eq_of_beq h3]
  .cases h3
 .cases h1
def zhg(m:Nat):List Nat:=(List.range 6).filter fun i=>m.testBit i
def zP4:((List.range 64).all fun a=>a==0||(zhg a==(zhg a).headD 0::zhg (Nat.land a (a - 1))))=true:=by kernel_rfl
def tz(a:Nat):Nat:=(zhg a).headD 0
def zmb{a:Nat}(ha:a<64)(h0:a≠0):zhg a=tz a::zhg (Nat.land a (a - 1)):=by
 have h1:=Z50.1 zP4 a (by simpa using ha);have hz:(a==0)=false:=by simpa using h0
 rw[hz,Bool.false_or]at h1;exact eq_of_beq h1
def zhy{m i:Nat}:i∈zhg m↔i<6/\m.testBit i=true:=by simp[zhg]
def zid{a b i:Nat}(ha:a<64)(hb:b<64):(zdf a b).testBit i=(a.testBit i&& !b.testBit i):=by
 unfold zdf;have h:=Nat.testBit_two_pow_sub_succ (n:=6) hb i;have e:2 ^ 6 - (b+1)=63 - b:=by omega
 rw[e]at h;show(a&&& (63 - b)).testBit i=_;rw[Nat.testBit_and,h]
 by_cases hi:i<6
 .simp[hi]
 .have h6:2 ^ 6<=2 ^ i:=Z113 (by decide) (by omega);have:a.testBit i=false:=Nat.testBit_lt_two_pow (by omega);simp[this]
def zla{a b:Nat}(ha:a<64):zdf a b<64:=Z188 Nat.and_le_left ha
def zwx{a b:Nat}(ha:a<64)(hb:b<64):zdf a b=0↔∀i,a.testBit i=true->b.testBit i=true:=by
 constructor
 .intro h i h1;have:=zid (i:=i) ha hb;rw[h,Nat.zero_testBit,h1,Z103]at this;simpa using this.symm
 .intro h;refine Nat.eq_of_testBit_eq fun i=> ?_
  rw[zid ha hb,Nat.zero_testBit];cases h1:a.testBit i with
  |false=>rfl
  |true=>simp[h i h1]
def u_eq(a b:Int):zaH .eql (.i .u64 a) (.i .u64 b)=some (.b (a==b)):=rfl
def zhu(a b:Int):zaH .neq (.i .u64 a) (.i .u64 b)=some (.b (!(a==b))):=rfl
def fn259:pr.fn 259=some zAm:=by kernel_rfl
theorem zP5:((List.range 8).all fun n=>match zaH .shr (.i .u64 (n:Nat)) (.i .u64 1)with
 |some (.i .u64 z)=>z==(n/2:Nat)
 |_=>false)=true:=by kernel_rfl
def zMD{n:Nat}(hn:n<8):zaH .shr (.i .u64 (n:Nat)) (.i .u64 1)=some (.i .u64 ((n/2:Nat):Int)):=by
 have h1:=Z50.1 zP5 n (by simpa using hn);split at h1
 .rename_i z e;rw[e,eq_of_beq h1]
 .cases h1
def wrap_u64(n:Nat)(h:n<1000000):IntKind.u64.wrap (n:Int)=(n:Int):=IntWalk.u64_in _ (by omega)
def J259(dp:D)(v:List Int)(C id n:Nat)(h:T Ob)(c i j:Nat)(cm:Nat->Int)(s:St):Prop:=(∃ro',(s.tm.get 0=some (dp)/\s.tm.get 1=some (.sl id 0 v.length 3 v.length true)/\s.tm.get 2=some (.fn 260 [] [.ptr C 1 0 0])/\s.tm.get 8=some (.f (.i .i64 n))/\s.tm.get 9=some (.f (.i .i64 i))/\s.tm.get 10=some (.f (.i .i64 j))/\s.h.get id=some (.arr 3 ro' (vRw v))))/\c<=s.c/\(∀x,x<c->x≠id->s.h.get x=h.get x)/\i<=j/\j<=n/\(∀k,k<i->cm k<0)/\(∀k,j<=k->k<n->0<=cm k)
def R259(dp:D)(v:List Int)(C id n:Nat)(h:T Ob)(c:Nat)(cm:Nat->Int)(e:Ex)(s:St):Prop:=e= .exit 0/\∃i,J259 dp v C id n h c i i cm s
def BsP(v:List Int)(id n:Nat)(h:T Ob)(c:Nat)(cm:Nat->Int)(d:D)(h':T Ob)(_:Nat):Prop:=∃pos,d= .tu [.f (.i .i64 (pos:Nat)),.f (.b (decide (pos<n)&&decide (cm pos=0)))]/\pos<=n/\(∀k,k<pos->cm k<0)/\(∀k,pos<=k->k<n->0<=cm k)/\(∃ro',h'.get id=some (.arr 3 ro' (vRw v)))/\∀x,x<c->x≠id->h'.get x=h.get x
theorem zNn{h:T Ob}{c C id ip ro n:Nat}{dp:D}{rows:List (List D)}{ts:List (List Int×List F)}{v:List Int}(hC:h.get C=some (.arr 1 0 [[.f (zbB ts)]]))(hg:h.get id=some (.arr 3 ro (vRw v)))(hv:v≠[])(hvl:v.length<1000)
  (hn:ts.length=n)(hn3:n<=3)(htl:∀t∈ts,t.1.length<1000)(hid:id<c)(hCi:C≠id)(hCc:C<c)(hl:zcp dp=some n)(hia:∀k,k<n->iaB 1 dp k=some (.ptr ip 1 k 0))(hp:0<n->h.get ip=some (.arr 1 0 rows)/\ip<c/\ip≠id)(hr:∀k,k<n->rows[k]? =some [.f (.i .i64 (k:Nat))])
  (hs:∀a b:Nat,a<=b->b<n->zaM (ts[b]?.getD ([],[])).1 v<0->zaM (ts[a]?.getD ([],[])).1 v<0):Eff pr 259 [dp,.sl id 0 v.length 3 v.length true,.fn 260 [] [.ptr C 1 0 0]] h c (BsP v id n h c fun k=>zaM (ts[k]?.getD ([],[])).1 v):=by
 refine zcm kps fn259 (fun d h' c' ⟨pos,a1,a2,a3,a4,a5,a6⟩ _ hf=>⟨pos,a1,a2,a3,a4,by rw[<-hf id hid];exact a5,fun _ _ _=>rfl⟩) ?_;obtain⟨cm,hcm⟩ :∃cm:Nat->Int,cm=fun k=>zaM (ts[k]?.getD ([],[])).1 v:=⟨_,rfl⟩
 rw[<-hcm];simp only[zAm,rU];simp[rW,st0,zal,hl];refine zcJ (fun k s=>∃i j,k=j - i/\J259 dp v C id n h c i j cm s) (R259 dp v C id n h c cm) ?_ n _ ⟨0,n,rfl,⟨ro,?_,?_,?_,?_,?_,?_,?_⟩,?_,?_,?_,?_,?_,?_⟩ ?_
 .rintro k s ⟨i,j,rfl,⟨ro',h0,h1,h2,h8,h9,h10,gid⟩,hc,hf,hij,hjn,hlo,hhi⟩
  by_cases hlt:i<j
  .have ec:((i+j:Nat):Int)=(i:Int)+j:=by omega
   have w1:IntKind.i64.wrap ((i:Int)+j)=(i:Int)+j:=IntWalk.i64_in _ (by omega);have w2:IntKind.u64.wrap ((i:Int)+j)=(i:Int)+j:=IntWalk.u64_in _ (by omega);have w3:=zMD (n:=i+j) (by omega);rw[ec]at w3;obtain⟨m,hm⟩ :∃m,m=(i+j)/2:=⟨_,rfl⟩
   rw[<-hm]at w3;have w4:IntKind.i64.wrap (m:Int)=(m:Int):=wrap_i64 _ (by omega) (by omega);have hmj:m<j:=by omega
   have him:i<=m:=by omega
   obtain⟨p1,p2,p3⟩ :=hp (by omega);have p1':s.h.get ip=some (.arr 1 0 rows):=(hf ip p2 p3).trans p1;have hrm:=hr m (by omega);simp[rW,h0,h1,h2,h8,h9,h10,hlt,w1,w2,w3,w4,hia m (by omega),p1',hrm];have hC':s.h.get C=_:=(hf C hCc hCi).trans hC;have htm:ts[m]? =some ts[m]:=Z0 (by omega);have e1:=zB5 (h:=s.h) (c:=s.c) (k:=m) (tv:=ts[m].1) (p:=ts[m].2) hC' gid hv hvl (htl _ (Z1 (by omega))) htm (by omega) hCi;have hcv:cm m=zaM ts[m].1 v:=by
    rw[hcm];show zaM (ts[m]?.getD ([],[])).1 v=_;rw[htm];rfl
   rw[<-hcv]at e1;refine zbO [(0,dp),(1,.sl id 0 v.length 3 v.length true),(2,.fn 260 [] [.ptr C 1 0 0]),(8,.f (.i .i64 n)),(9,.f (.i .i64 i)),(10,.f (.i .i64 j)),(11,.f (.i .i64 m))] e1 (by simp only[rG]) (by simp only[rG]) (by simp only[Rg];simp[rW,h0,h1,h2,h8,h9,h10]) rfl ?_;rintro s1 d1 ⟨rfl,⟨ro1,r1⟩,f1⟩ hc1 h30 ⟨h0',h1',h2',h8',h9',h10',h11',-⟩;have fr:∀x,x<c->x≠id->s1.h.get x=h.get x:=fun x hx hn=>(f1 x (by omega) hn).trans (hf x hx hn)
   have hw:=zau m (by omega);refine⟨?_⟩
   by_cases hv:cm m<0
   .simp[rW,h0',h1',h2',h8',h9',h10',h11',h30,hv,hw];refine⟨j - (m+1),by omega,m+1,j,rfl,⟨ro1,?_,?_,?_,?_,?_,?_,r1⟩,by simp only[rG];omega,fr,by omega,hjn,?_,hhi⟩
    .simp[rW,h0']
    .simp[rW,h1']
    .simp[rW,h2']
    .simp[rW,h8']
    .simp[rW,hw]
    .simp[rW,h10']
    .intro k hk;have h3:=hs k m (by omega) (by omega);rw[hcm]at hv|-;exact h3 hv
   .simp[rW,h0',h1',h2',h8',h9',h10',h11',h30,hv,hw];refine⟨m - i,by omega,i,m,rfl,⟨ro1,?_,?_,?_,?_,?_,?_,r1⟩,by simp only[rG];omega,fr,by omega,by omega,hlo,?_⟩
    .simp[rW,h0']
    .simp[rW,h1']
    .simp[rW,h2']
    .simp[rW,h8']
    .simp[rW,h9']
    .simp[rW,h11']
    .intro k hk1 hk2;have h3:=hs m k hk1 hk2;rw[hcm]at hv|-;exact Int.not_lt.1 fun h4=>hv (h3 h4)
  .have e:i=j:=by omega
   subst e;simp[rW,h0,h1,h2,h8,h9,h10];exact⟨rfl,i,⟨ro',by simp[rW,h0],by simp[rW,h1],by simp[rW,h2],by simp[rW,h8],by simp[rW,h9],by simp[rW,h10],gid⟩,hc,hf,hij,hjn,hlo,hhi⟩
 .simp[rW]
 .simp[rW]
 .simp[rW]
 .simp[rW]
 .simp[rW]
 .simp[rW]
 .exact hg
 .simp[rW]<;>omega
 .intro x _ _;rfl
 .omega
 .exact Z2 _
 .intro k hk;omega
 .intro k h1 h2;omega
 .rintro e s ⟨rfl,i,⟨ro',h0,h1,h2,h8,h9,h10,gid⟩,hc,hf,hij,hjn,hlo,hhi⟩
  by_cases hlt:i<n
  .obtain⟨p1,p2,p3⟩ :=hp (by omega);have p1':s.h.get ip=some (.arr 1 0 rows):=(hf ip p2 p3).trans p1;have hrm:=hr i (by omega);have hC':s.h.get C=_:=(hf C hCc hCi).trans hC;have htm:ts[i]? =some ts[i]:=Z0 (by omega);have e1:=zB5 (h:=s.h) (c:=s.c) (k:=i) (tv:=ts[i].1) (p:=ts[i].2) hC' gid hv hvl (htl _ (Z1 (by omega))) htm (by omega) hCi;have hcv:cm i=zaM ts[i].1 v:=by
    rw[hcm];show zaM (ts[i]?.getD ([],[])).1 v=_;rw[htm];rfl
   rw[<-hcv]at e1;simp[rW,h0,h1,h2,h8,h9,h10,hlt,hia i hlt,p1',hrm];refine zbO [(35,.f (.i .i64 i)),(39,.f (.b true))] e1 (by simp only[rG]) (by simp only[rG]) (by simp only[Rg];simp[rW,h9,hlt]) rfl ?_;rintro s1 d1 ⟨rfl,⟨ro1,r1⟩,f1⟩ hc1 h46 ⟨h35,h39,-⟩;have fr:∀x,x<c->x≠id->s1.h.get x=h.get x:=fun x hx hn=>(f1 x (by omega) hn).trans (hf x hx hn)
   refine⟨?_⟩;simp[rW,h35,h39,h46,zaV];refine⟨i,?_,hjn,hlo,hhi,⟨ro1,r1⟩,fr⟩
   by_cases hz:cm i=0<;>simp[hlt,hz]
  .simp[rW,h0,h1,h2,h8,h9,h10,hlt,zaV];exact⟨i,by simp[hlt],hjn,hlo,hhi,⟨ro',gid⟩,hf⟩
def fn232:pr.fn 232=some zAi:=by kernel_rfl
def zfv(a b:Int):zaT a b=0↔a=b:=by
 unfold zaT;split
 .simp[*]
 .split<;>simp[*]
theorem zij:∀u v:List Int,zaM u v=0↔u=v
 |[],[]=>by simp[zaM]
 |[],b::v=>by simp[zaM]
 |a::u,[]=>by simp[zaM]
 |a::u,b::v=>by
  have ih:=zij u v;simp only[zaM,List.cons.injEq]
  by_cases h:zaT a b=0
  .rw[Z49 (by simpa using h),ih,(zfv a b).1 h];simp
  .have:¬a=b:=fun e=>h ((zfv a b).2 e)
   simp[h,this]
theorem zkW:∀u v:List Int,zaM u v<0↔(u=[]/\v≠[]\/∃a u' b v',u=a::u'/\v=b::v'/\(a<b\/a=b/\zaM u' v'<0))
 |[],[]=>by simp[zaM]
 |[],b::v=>by simp[zaM]
 |a::u,[]=>by simp[zaM]
 |a::u,b::v=>by
  simp only[zaM];constructor
  .intro h;refine .inr ⟨a,u,b,v,rfl,rfl,?_⟩
   by_cases h0:zaT a b=0
   .rw[Z49 (by simpa using h0)]at h;exact .inr ⟨(zfv a b).1 h0,h⟩
   .rw[Z51 h0,zqL]at h;exact .inl h
  .rintro (h|⟨a',u',b',v',e1,e2,h⟩)
   .cases h.1
   .cases e1;cases e2;rcases h with h|⟨rfl,h⟩
    .have:zaT a b= -1:=by unfold zaT;rw[Z49 (by omega),Z51 h]
     simp[this]
    .have:zaT a a=0:=(zfv a a).2 rfl;simpa [this]using h
theorem ziV:∀u v w:List Int,zaM u v<0->zaM v w<0->zaM u w<0
 |[],v,w,h1,h2=>by
  refine (zkW _ _).2 (.inl ⟨rfl,?_⟩);rcases (zkW _ _).1 h2 with⟨_,h⟩ |⟨a,u',b,v',_,rfl,_⟩
  .exact h
  .simp
 |a::u,v,w,h1,h2=>by
  rcases (zkW _ _).1 h1 with⟨h,_⟩ |⟨a',u',b,v',e1,rfl,h⟩
  .cases h
  .cases e1;rcases (zkW _ _).1 h2 with⟨h,_⟩ |⟨b',v2,c,w',e2,rfl,h'⟩
   .cases h
   .cases e2;refine (zkW _ _).2 (.inr ⟨a,u,c,w',rfl,rfl,?_⟩);rcases h with h|⟨rfl,h⟩
    .rcases h' with h'|⟨rfl,h'⟩
     .exact .inl (by omega)
     .exact .inl h
    .rcases h' with h'|⟨rfl,h'⟩
     .exact .inl h'
     .exact .inr ⟨rfl,ziV _ _ _ h h'⟩
def Srt(ts:List (List Int×List F)):Prop:=∀a b:Nat,a<b->b<ts.length->zaM (ts[a]?.getD ([],[])).1 (ts[b]?.getD ([],[])).1<0
def zP2{ts:List (List Int×List F)}(hs:Srt ts)(v:List Int)(a b:Nat)(hab:a<=b)(hb:b<ts.length)(h:zaM (ts[b]?.getD ([],[])).1 v<0):zaM (ts[a]?.getD ([],[])).1 v<0:=by
 rcases Z145 a b with h1|h1
 .exact ziV _ _ _ (hs a b h1 hb) h
 .have:a=b:=by omega
  subst this;exact h
def zME{ts:List (List Int×List F)}(hs:Srt ts){v:List Int}{pos:Nat}(hp:pos<=ts.length)(h1:∀k,k<pos->zaM (ts[k]?.getD ([],[])).1 v<0)(h2:∀k,pos<=k->k<ts.length->0<=zaM (ts[k]?.getD ([],[])).1 v):(decide (pos<ts.length)&&decide (zaM (ts[pos]?.getD ([],[])).1 v=0))=ts.any fun t=>t.1==v:=by
 rw[Bool.eq_iff_iff];simp only[Z14,Z86,Z30,beq_iff_eq];constructor
 .rintro⟨h,e⟩;refine⟨ts[pos],Z1 h,?_⟩;rw[Z0 h]at e;exact (zij _ _).1 e
 .rintro⟨t,ht,e⟩;obtain⟨k,hk,rfl⟩ :=Z101.1 ht;have e0:zaM (ts[k]?.getD ([],[])).1 v=0:=by
   rw[Z0 hk];exact (zij _ _).2 e
  have hpk:pos<=k:=by
   rcases Z145 k pos with h|h
   .have:=h1 k h;omega
   .exact h
  refine⟨by omega,?_⟩;rcases Z145 pos k with h|h
  .have a1:=hs pos k h hk;have a2:=h2 pos (Z2 _) (by omega);rw[(zij _ _).1 e0]at a1;omega
  .have:pos=k:=by omega
   subst this;exact e0
def zkC(h:T Ob)(S lo:Nat)(d:D)(k:Nat):Prop:=(k=0/\d= .f .nils)\/∃id,d= .sl id 0 k 1 k false/\h.get id=some (.arr 1 0 (ziw (List.range k)))/\(S<id/\id<lo)/\0<k
def zkC.len{h:T Ob}{S lo k:Nat}{d:D}(H:zkC h S lo d k):zcp d=some k:=by
 rcases H with⟨rfl,rfl⟩ |⟨id,rfl,-⟩ <;>rfl
structure zdx(h:T Ob)(lo S:Nat)(L:List Rl):Prop where
 s:∃(PR:Nat) (W:List D),h.get S=some (.arr 2 0 [[.f (zbS L),.sl PR 0 L.length 1 L.length true]])/\h.get PR=some (.arr 1 0 (W.map fun d=>[d]))/\(S<=PR+1/\PR<lo)/\W.length=L.length/\∀(i:Nat) (r:Rl),L[i]? =some r->∃d,W[i]? =some d/\zkC h S lo d r.tu.length
 l:S<lo
def zdx.up{h h':T Ob}{lo S:Nat}{L:List Rl}(H:zdx h lo S L)(hf:∀id,S<=id+1->id<lo->h'.get id=h.get id):zdx h' lo S L:=by
 obtain⟨⟨PR,W,a1,a2,a3,a4,a5⟩,hl⟩ :=H;refine⟨⟨PR,W,by rw[hf _ (by omega) hl];exact a1,by rw[hf _ a3.1 a3.2];exact a2,a3,a4,fun i r hr=> ?_⟩,hl⟩;obtain⟨d,b1,b2⟩ :=a5 i r hr;refine⟨d,b1,?_⟩;rcases b2 with b2|⟨id,c1,c2,c3,c4⟩
 .exact .inl b2
 .exact .inr ⟨id,c1,by rw[hf _ (by omega) c3.2];exact c2,c3,c4⟩
structure RlO(r:Rl):Prop where
 n:r.tu.length<=3
 l:∀t∈r.tu,t.1.length<1000
 s:Srt r.tu
def zkC.ia{h:T Ob}{S lo n:Nat}{d:D}(H:zkC h S lo d n):∃ip,(∀k,k<n->iaB 1 d k=some (.ptr ip 1 k 0))/\(0<n->h.get ip=some (.arr 1 0 (ziw (List.range n)))/\S<ip/\ip<lo):=by
 rcases H with⟨rfl,rfl⟩ |⟨id,rfl,a1,a2,a3⟩
 .exact⟨0,fun k hk=>absurd hk (by omega),fun h=>absurd h (by omega)⟩
 .exact⟨id,fun k hk=>by simp[iaB,hk],fun _=>⟨a1,a2⟩⟩
def zpJ(k j:Nat)(h:j<k):(ziw (List.range k))[j]? =some [D.f (.i .i64 (j:Nat))]:=by
 simp[ziw,h]
theorem zNk{h:T Ob}{c S id ro i lo:Nat}{L:List Rl}{r:Rl}{v:List Int}(HS:zdx h lo S L)(hlo:lo<=id)(hid:id<c)(hr:L[i]? =some r)(hR:RlO r)(hg:h.get id=some (.arr 3 ro (vRw v)))(hv:v≠[])(hvl:v.length<1000):
  Eff pr 232 [.ptr S 2 0 0,.f (.i .i64 i),.sl id 0 v.length 3 v.length true] h c (HasP (.f (.b (r.tu.any fun t=>t.1==v))) v id h c):=by
 refine zcm kps fn232 (fun d h' c' ⟨a1,⟨ro',a2⟩,a3⟩ _ hf=>⟨a1,⟨ro',by rw[<-hf id hid];exact a2⟩,fun _ _ _=>rfl⟩) ?_;obtain⟨⟨PR,W,a1,a2,a3,a4,a5⟩,hl⟩ :=HS;obtain⟨d,b1,b2⟩ :=a5 i r hr;have hiL:i<L.length:=(Z8.1 hr).1;have hrow:(W.map fun d=>[d])[i]? =some [d]:=by rw[Z36,b1];rfl
 have n1:¬S=c:=by omega
 have n2:¬PR=c:=by omega
 have n3:¬id=c:=by omega
 obtain⟨ip,i1,i2⟩ :=b2.ia;have hl2:d.cells=some [d]:=by
  rcases b2 with⟨_,rfl⟩ |⟨_,rfl,_⟩ <;>rfl
 simp only[zAi,rU];have hA:=(Z8.1 hr).2;have hc2:(D.f (zbB r.tu)).cells=some [.f (zbB r.tu)]:=zcs _ _;have hB:=(Z8.1 b1).2;simp[rW,st0,zal,a1,zmR,hr,hA,hB,rlE,hc2,n1,n2,a2,hrow,hiL,a4];have e1:=zNn (h:=((h.set c (.arr 1 0 [[.f .nils]])).set c (.arr 1 0 [[.f (zbB r.tu)]]))) (c:=c+1) (C:=c) (id:=id) (ip:=ip) (ro:=ro) (n:=r.tu.length) (dp:=d) (rows:=ziw (List.range r.tu.length)) (ts:=r.tu) (v:=v) (by simp[TG]) (by rw[TG,Z49 n3,TG,Z49 n3];exact hg) hv hvl rfl hR.n hR.l (by omega) (by omega) (by omega) b2.len i1 (fun h0=>⟨by rw[TG,Z49 (by have:=(i2 h0).2.2;omega),TG,Z49 (by have:=(i2 h0).2.2;omega)];exact (i2 h0).1,by have:=(i2 h0).2.2;omega,by have:=(i2 h0).2.2;omega⟩) (fun k hk=>zpJ _ _ hk) (zP2 hR.s v);refine zbO [] e1 (by simp only[rG]) (by simp only[rG]) trivial rfl ?_;rintro s d1 ⟨pos,rfl,p1,p2,p3,p4,p5⟩ hc1 h28 -;refine⟨?_⟩;simp[rW,h28,zaV];refine⟨by rw[zME hR.s p1 p2 p3],p4,fun x hx hn=> ?_⟩;rw[p5 x (by omega) hn,TG,Z49 (by omega),TG,Z49 (by omega)]
end Go.Proofs.YtbhholaillniiaaGreatDoor
end
