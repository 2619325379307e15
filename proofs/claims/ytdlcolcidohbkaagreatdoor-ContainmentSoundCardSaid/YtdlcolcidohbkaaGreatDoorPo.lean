/- The conjunctive queries of the builders, their cores: what is answered of them (closed runs). Written by program. -/
import Derived.Test.YtdlcolcidohbkaaGreatDoorPk
import Derived.Test.YtdlcolcidohbkaaGreatDoorPa
import Derived.KernelRfl
import Derived.Test.YtdlcolcidohbkaaGreatDoorPm
import Derived.Test.YtdlcolcidohbkaaGreatDoorPn
import Derived.IntWalk
import Derived.Sort.AssemblyPlain
import Derived.Sort.Row
import Derived.Laws.Bits64
import Derived.Laws.Bits64b
import Derived.Sort.LotD5
set_option linter.all false
set_option maxRecDepth 100000
set_option maxHeartbeats 4000000
noncomputable section
section
namespace Go.Proofs.YtdlcolcidohbkaaGreatDoor
open Go Go.Vse Go.Vse.Sm
end Go.Proofs.YtdlcolcidohbkaaGreatDoor
end
section
namespace Go.Proofs.YtdlcolcidohbkaaGreatDoor
open Go Go.Vse Go.Vse.Sm
def zjm(l:List Nat):List (List D):=l.map fun i=>[D.f (.i .i64 (i:Nat))]
def zEx(a:List Nat):(zjm a).length=a.length:=by simp[zjm]
def NE(d1 d2:D):Prop:=∀x,d1.oid=some x->d2.oid≠some x
def GG(h:T Ob)(lo c n:Nat)(d:D)(els:List Nat):Prop:=
 (n=0/\d= .f .nils/\els=[])\/∃id jk,d= .sl id 0 els.length 1 n false/\h.get id=some (.arr 1 0 (zjm (els++jk)))/\els.length+jk.length=n/\0<n/\lo<=id/\id<c
def GG.up{h h':T Ob}{lo c c' n:Nat}{d:D}{els:List Nat}(H:GG h lo c n d els)(hf:∀x,d.oid=some x->h'.get x=h.get x)(hc:c<=c'):GG h' lo c' n d els:=by
 rcases H with H|⟨id,jk,rfl,h1,h2,h3,h4,h5⟩
 .exact .inl H
 .exact .inr ⟨id,jk,rfl,by rw[hf id rfl];exact h1,h2,h3,h4,by omega⟩
def GG.oid{h:T Ob}{lo c n:Nat}{d:D}{els:List Nat}(H:GG h lo c n d els){x:Nat}(hx:d.oid=some x):lo<=x/\x<c:=by
 rcases H with⟨-,rfl,-⟩ |⟨id,jk,rfl,-,-,-,h4,h5⟩
 .cases hx
 .cases hx;exact⟨h4,h5⟩
def GG.cells{h:T Ob}{lo c n:Nat}{d:D}{els:List Nat}(H:GG h lo c n d els):d.cells=some [d]:=by
 rcases H with⟨-,rfl,-⟩ |⟨id,jk,rfl,-⟩ <;>rfl
def GG.hd8{h:T Ob}{lo c n:Nat}{d:D}{els:List Nat}(H:GG h lo c n d els)(l:List (List D)):hd8 ([d]::l)=false:=by
 rcases H with⟨-,rfl,-⟩ |⟨id,jk,rfl,-⟩ <;>rfl
def GG.len{h:T Ob}{lo c n:Nat}{d:D}{els:List Nat}(H:GG h lo c n d els):zci d=some els.length:=by
 rcases H with⟨-,rfl,rfl⟩ |⟨id,jk,rfl,-⟩ <;>rfl
theorem zIH{h:T Ob}{lo c n x:Nat}{d:D}{els:List Nat}{rd:List Nat}{K:Rs->Prop}(H:GG h lo c n d els)(hn:els.length=n)(hlo:lo<=c)(hs:n<1000)
  (hK:∀r:Rs,zas r.c r.wr=true->GG (wrT h r.wr) lo r.c (n+1) r.d (els++[x])->c<=r.c->(∀id,id<c->d.oid≠some id->(wrT h r.wr).get id=h.get id)->(∀y,y∈r.wr.map (·.1)->y=c\/d.oid=some y)->(∀y,y∈r.rd->y∈rd\/d.oid=some y)->(∀y,r.d.oid=some y->y=c\/d.oid=some y)->K r):oB (za3 1 8 h.get c d [[.f (.i .i64 (x:Nat))]] rd) K:=by
 have hm:∀n,n<=1000000->n<=zav:=fun n hn=>by have:=zcL (n:=n) (by omega);simpa using this
 rcases H with⟨rfl,rfl,rfl⟩ |⟨id,jk,rfl,h1,h2,h3,h4,h5⟩
 .rw[zhm,Z49 (by simp),Z51 ⟨hm _ (by simp),hm _ (by simp)⟩];refine hK {d:= .sl c 0 1 1 1 false,rd:=rd,wr:=[(c,some (.arr 1 0 [[.f (.i .i64 (x:Nat))]]))],c:=c+1} ?_ (.inr ⟨c,[],rfl,?_,rfl,by omega,hlo,by simp⟩) (by simp) ?_ ?_ (fun y hy=> .inl hy) (by simp[D.oid])
  .simp[zas,Z79]
  .simp[wrT,T.zab,zjm]
  .intro i hi _;have:i≠c:=by omega
   simp[wrT,T.zab,this]
  .simp
 .have hj:jk=[]:=Z17.1 (by omega);subst hj;rw[Z22]at h1;have hne:els.length≠0:=by omega
  have e:za3 1 8 h.get c (.sl id 0 els.length 1 n false) [[.f (.i .i64 (x:Nat))]] rd=some {d:= .sl c 0 (els.length+1) 1 (els.length+1) false,rd:=id::rd,wr:=[(id,none),(c,some (.arr 1 0 (zjm els++[[.f (.i .i64 (x:Nat))]])))],c:=c+1}:=by
   rw[zkN,Z49 (by simp),h1];have k1:¬(0+els.length+1<=n):=by omega
   have k2:=hm (els.length+1) (by omega);have k3:=hm ((els.length+1)*8) (by omega);simp[om,apO,zEx,k1,k2,k3];omega
  rw[e];refine hK _ ?_ (.inr ⟨c,[],?_,?_,by simp;omega,by omega,hlo,by simp⟩) (by simp) ?_ ?_ ?_ (by simp[D.oid])
  .simp[zas,Z79];omega
  .simp[hn]
  .simp[wrT,T.zab,zjm]
  .intro i hi hne;have h1:i≠c:=by omega
   have h2:i≠id:=fun e=>hne (by rw[e];rfl)
   simp[wrT,T.zab,T.zbB,h1,h2]
  .intro y hy;simp only[Z10,Z85,Z5,Z164,or_false]at hy;rcases hy with rfl|rfl
   .exact .inr rfl
   .exact .inl rfl
  .intro y hy;rcases Z5.1 hy with rfl|hy
   .exact .inr rfl
   .exact .inl hy
structure PS(h:T Ob)(lo c PR:Nat)(W:List (D×Nat×List Nat)):Prop where
 r:h.get PR=some (.arr 1 0 (W.map fun p=>[p.1]))
 g:∀p∈W,GG h lo c p.2.1 p.1 p.2.2
 n:∀(i j:Nat) (p q:D×Nat×List Nat),i≠j->W[i]? =some p->W[j]? =some q->NE p.1 q.1
 l:PR<lo
def PS.up{h h':T Ob}{lo c c' PR:Nat}{W:List (D×Nat×List Nat)}(H:PS h lo c PR W)(hr:h'.get PR=h.get PR)(hf:∀id,lo<=id->id<c->h'.get id=h.get id)(hc:c<=c'):PS h' lo c' PR W:=
 ⟨by rw[hr];exact H.r,fun p hp=>(H.g p hp).up (fun x hx=>by have:=(H.g p hp).oid hx;exact hf x this.1 this.2) hc,H.n,H.l⟩
theorem PS.upd{h h':T Ob}{lo c c' PR i n':Nat}{W:List (D×Nat×List Nat)}{p:D×Nat×List Nat}{d':D}{els':List Nat}(H:PS h lo c PR W)(hi:W[i]? =some p)(hg:GG h' lo c' n' d' els')(hr:h'.get PR=some (.arr 1 0 ((W.set i (d',n',els')).map fun p=>[p.1])))
  (hf:∀id,lo<=id->id<c->p.1.oid≠some id->h'.get id=h.get id)(hN:∀x,d'.oid=some x->c<=x\/p.1.oid=some x)(hc:c<=c'):PS h' lo c' PR (W.set i (d',n',els')):=by
 have hil:i<W.length:=by
  rcases Z145 i W.length with h1|h1
  .exact h1
  .rw[Z97 h1]at hi;cases hi
 have new:∀(j:Nat) (q:D×Nat×List Nat),j≠i->W[j]? =some q->NE d' q.1:=fun j q hj hq x hx e=>by
  have hb:=(H.g q (Z39 hq)).oid e;rcases hN x hx with h1|h1
  .omega
  .exact H.n i j p q (fun e=>hj e.symm) hi hq x h1 e
 refine⟨hr,fun q hq=> ?_,fun a b q1 q2 hab h1 h2=> ?_,H.l⟩
 .obtain⟨j,hj,rfl⟩ :=Z130 hq;rw[List.getElem_set];split
  .exact hg
  .rename_i hne;have hjl:j<W.length:=by simpa using hj
   have hm:W[j]? =some W[j]:=Z0 hjl;refine (H.g _ (Z1 hjl)).up (fun x hx=> ?_) hc;have hb:=(H.g _ (Z1 hjl)).oid hx;exact hf x hb.1 hb.2 fun e=>H.n j i _ p (fun e=>hne e.symm) hm hi x hx e
 .rw[Z87]at h1 h2
  by_cases ha:i=a
  .subst ha;rw[Z51 rfl,Z51 hil]at h1;cases h1;rw[Z49 hab]at h2;exact new b q2 (fun e=>hab e.symm) h2
  .rw[Z49 ha]at h1
   by_cases hb:i=b
   .subst hb;rw[Z51 rfl,Z51 hil]at h2;cases h2;intro x hx e;exact new a q1 hab h1 x e hx
   .rw[Z49 hb]at h2;exact H.n a b q1 q2 hab h1 h2
def fn33:pr.fn 33=some g33:=by kernel_rfl
def zPT(l:List Rl):(D.f (zbt l)).cells=some [.f (zbt l)]:=zcF _ _
structure LR(L:List Rl):Prop where
 n:L.length<=8
 t:∀r∈L,r.tu.length<=3
 o:∀r∈L,r.co.d= .f r.co/\(D.f r.co).cells=some [.f r.co]
def vF(p:Rl):Nat×List Nat:=(p.tu.length,List.range p.tu.length)
def vA(L:List Rl)(n:Nat):List (Nat×List Nat):=(L.take n).map vF++List.replicate (L.length - n) (0,[])
def zRp{L:List Rl}{n:Nat}(h:n<=L.length):(vA L n).length=L.length:=by
 simp[vA];omega
def zRo{L:List Rl}{n:Nat}(h:n<L.length):(vA L n)[n]? =some (0,[]):=by
 unfold vA;have hl:((L.take n).map vF).length=n:=by simp;omega
 rw[Z62 (by omega),hl,Z194,Z160,Z51 (by omega)]
def zRs{L:List Rl}{n:Nat}{p:Rl}(h:L[n]? =some p)(hn:n<L.length):vA L (n+1)=(vA L n).set n (vF p):=by
 unfold vA;have hl:((L.take n).map vF).length=n:=by simp;omega
 rw[Z112 _ _ (by omega),hl,Z194,Z105,h,Z20,Z32]
 congr 1
 obtain⟨m,hm⟩ :∃m,L.length - n=m+1:=⟨L.length - n - 1,by omega⟩
 rw[hm,show L.length - (n+1)=m by omega,Z181];rfl
def zJm{W:List (D×Nat×List Nat)}{V:List (Nat×List Nat)}(h:W.map (·.2)=V){n:Nat}{v:Nat×List Nat}(hv:V[n]? =some v):∃d,W[n]? =some (d,v):=by
 rw[<-h,Z36]at hv;cases hw:W[n]? with
 |none=>rw[hw]at hv;cases hv
 |some p=>
  rw[hw]at hv;cases hv;exact⟨p.1,rfl⟩
def zJQ{W:List (D×Nat×List Nat)}{n:Nat}{d:D}{v:Nat×List Nat}(h:W[n]? =some (d,v)):(W.map fun p=>[p.1])[n]? =some [d]:=by
 rw[Z36,h];rfl
def PS.h8{h:T Ob}{lo c PR:Nat}{W:List (D×Nat×List Nat)}(H:PS h lo c PR W):hd8 (W.map fun p=>[p.1])=false:=by
 cases W with
 |nil=>rfl
 |cons p W=>exact (H.g p (by simp)).hd8 _
def zJU{W:List (D×Nat×List Nat)}:(W.map fun p=>[p.1]).length=W.length:=by simp
def zJV{W:List (D×Nat×List Nat)}{n:Nat}{d:D}{v:Nat×List Nat}:(W.map fun p=>[p.1]).set n [d]=(W.set n (d,v)).map fun p=>[p.1]:=by
 rw[Z116]
structure SR(L:List Rl)(h0:T Ob)(c0:Nat)(V:List (Nat×List Nat))(h:T Ob)(c:Nat)(W:List (D×Nat×List Nat)):Prop where
 p:PS h (c0+2) c c0 W
 s:h.get (c0+1)=some (.arr 2 0 [[.f (zbt L),.sl c0 0 L.length 1 L.length true]])
 v:W.map (·.2)=V
 f:∀id,id<c0->h.get id=h0.get id
 c:c0+2<=c
def SR.up{L:List Rl}{h0:T Ob}{c0:Nat}{V:List (Nat×List Nat)}{h h':T Ob}{c c':Nat}{W:List (D×Nat×List Nat)}(H:SR L h0 c0 V h c W)(hf:∀id,id<c->h'.get id=h.get id)(hc:c<=c'):SR L h0 c0 V h' c' W:=by
 have:=H.c;exact⟨H.p.up (hf _ (by omega)) (fun id _ h=>hf id h) hc,by rw[hf _ (by omega)];exact H.s,H.v,fun id h=>(hf id (by omega)).trans (H.f id h),by omega⟩
def Jap(L:List Rl)(h0:T Ob)(c0 n:Nat)(s:St):Prop:=∃W,(s.tm.get 3=some (.ptr (c0+1) 2 0 0)/\s.tm.get 13=some (.f (zbt L))/\s.tm.get 14=some (.f (.i .i64 L.length))/\s.tm.get 15=some (.f (.i .i64 n)))/\SR L h0 c0 (vA L n) s.h s.c W
def Kap(L:List Rl)(h0:T Ob)(c0 n m k:Nat)(s:St):Prop:=∃W,(s.tm.get 3=some (.ptr (c0+1) 2 0 0)/\s.tm.get 13=some (.f (zbt L))/\s.tm.get 14=some (.f (.i .i64 L.length))/\s.tm.get 15=some (.f (.i .i64 n))/\s.tm.get 4=some (.f (.i .i64 n))/\s.tm.get 22=some (.f (.i .i64 m))/\s.tm.get 23=some (.f (.i .i64 k)))/\SR L h0 c0 ((vA L n).set n (k,List.range k)) s.h s.c W
def Rap(L:List Rl)(h0:T Ob)(c0 n:Nat)(s:St):Prop:=∃W,(s.tm.get 3=some (.ptr (c0+1) 2 0 0)/\s.tm.get 13=some (.f (zbt L))/\s.tm.get 14=some (.f (.i .i64 L.length))/\s.tm.get 15=some (.f (.i .i64 n)))/\SR L h0 c0 (vA L (n+1)) s.h s.c W
def zGu{L:List Rl}(hL:LR L){h0:T Ob}{c0:Nat}:Eff pr 33 [.f (zbt L)] h0 c0 fun d h' c'=>d= .ptr (c0+1) 2 0 0/\∃W,SR L h0 c0 (L.map vF) h' c' W:=by
 refine zuw zgQ fn33 ?_;have hn8:=hL.n;simp only[g33,rU];have m1:L.length<=zav:=by have:=zcL (n:=L.length) (by omega);simpa using this
 have m2:L.length*24<=zav:=by have:=zcL (n:=L.length*24) (by omega);simpa using this
 simp[rW,st0,zak,ziZ,zPT,zrT,m1,m2];have n1:¬c0+1=c0:=by omega
 have n2:¬c0=c0+1:=by omega
 refine zbD L.length (Jap L h0 c0) (fun e s=>e= .exit 0/\Jap L h0 c0 L.length s) ?_ ?_ _ ⟨List.replicate L.length (.f .nils,0,[]),⟨?_,?_,?_,?_⟩,⟨⟨?_,?_,?_,by omega⟩,?_,?_,?_,?_⟩⟩ ?_
 .rintro n s hlt ⟨W,⟨h3,h13,h14,h15⟩,HS⟩;have hw:=zao n (by omega);have hx:L[n]? =some L[n]:=Z0 hlt;have hG:=hL.o _ (Z1 hlt);have hm:=hL.t _ (Z1 hlt);generalize hA:L[n]=r at hx hG hm;have hcc:=hG.2;have hd:(zbO r.tu).d= .f (zbO r.tu):=zoG _;have hc2:(D.f (zbO r.tu)).cells=some [.f (zbO r.tu)]:=zcF _ _;have hvl:=zRp (L:=L) (n:=n) (by omega);have hvg:=zRo hlt;simp[rW,h3,h13,h14,h15,hlt,znU,hx,hA,rlE,hcc,hc2,zxM];refine zbD r.tu.length (Kap L h0 c0 n r.tu.length) (fun e s=>e= .exit 2/\Rap L h0 c0 n s) ?_ ?_ _ ⟨W,⟨?_,?_,?_,?_,?_,?_,?_⟩,?_⟩ ?_
  .clear h3 h13 h14 h15 HS W s;rintro k s hk ⟨W,⟨h3,h13,h14,h15,h4,h22,h23⟩,HS⟩;have hwk:=zao k (by omega);obtain⟨d,hWn⟩ :=zJm HS.v (n:=n) (v:=(k,List.range k)) (by rw[Z140 (by omega)]);have hrow:=zJQ hWn;have hWd:∀h:n<W.length,W[n]=(d,k,List.range k):=fun h=>(Z8.1 hWn).2
   have gR:=HS.p.r;have gS:=HS.s;have hWl:W.length=L.length:=by have:=congrArg List.length HS.v;simpa [hvl]using this
   have hg:=HS.p.g _ (Z39 hWn);simp only at hg;have n1:¬c0+1=c0:=by omega
   have n2:¬c0=c0+1:=by omega
   have hc:=HS.c;simp[rW,h3,h13,h14,h15,h4,h22,h23,hk];refine zaw ?_;simp[rW,h3,h13,h14,h15,h4,h22,h23,gS,gR,hlt,hWl,hrow,zJU,hWd];have hcc1:s.c+1+1+1+1+1+1+1+1+1+1+1+1+1+1=s.c+14:=by omega
   rw[hcc1];have hg2:GG s.h (c0+2) (s.c+14) k d (List.range k):=hg.up (fun _ _=>rfl) (by omega);refine zIH hg2 (by simp) (by omega) (by omega) ?_;intro r1 hr1 hr2 hr3 hr4 hr5 hr6 hr7;have b:∀x,d.oid=some x->c0+2<=x/\x<s.c:=fun x hx=>hg.oid hx
   have e0:=hr4 c0 (by omega) (fun e=>by have:=b _ e;omega);have e1:=hr4 (c0+1) (by omega) (fun e=>by have:=b _ e;omega);have hdj:zcJ (r1.wr.map (·.1)) [c0+1]:=fun x hx hm=>by
    rw[Z31.1 hm]at hx;rcases hr5 _ hx with h8|h8
    .omega
    .have:=b _ h8;omega
   refine⟨hr1,hdj,?_⟩;have hce:=hr2.cells;have hc0:c0<r1.c+1+1:=by omega
   have h8:=HS.p.h8;simp[rW,e0,gR,hce,hWn,hc0,h8,hwk];have hs2:((vA L n).set n (k,List.range k)).set n (k+1,List.range (k+1))=(vA L n).set n (k+1,List.range (k+1)):=by rw[Z199]
   have hv2:(W.set n (r1.d,k+1,List.range k++[k])).map (·.2)=(vA L n).set n (k+1,List.range (k+1)):=by rw[Z116,HS.v,Z136,Z199]
   refine⟨W.set n (r1.d,k+1,List.range k++[k]),⟨?_,?_,?_,?_,?_,?_,?_⟩,⟨?_,?_,hv2,?_,?_⟩⟩
   .simp[rW,h3]
   .simp[rW,h13]
   .simp[rW,h14]
   .simp[rW,h15]
   .simp[rW,h4]
   .simp[rW,h22]
   .simp[rW,hwk]
   .simp[rW];refine HS.p.upd hWn (hr2.up (fun x hx=> ?_) (by omega)) ?_ (fun id h1 h2 h3=> ?_) (fun x hx=> ?_) (by omega)
    .have i0:¬x=c0:=by have:=hr2.oid hx;omega
     simp[TG,i0]
    .rw[<-zJV];simp[TG]
    .have i0:¬id=c0:=by omega
     rw[TG,Z49 i0];exact hr4 id (by omega) h3
    .rcases hr7 x hx with h9|h9
     .exact .inl (by omega)
     .exact .inr h9
   .simp[rW,n1,e1,gS]
   .intro id hid;have i0:¬id=c0:=by omega
    have e2:=hr4 id (by omega) (fun e=>by have:=b _ e;omega);simp[rW,i0,e2];exact HS.f id hid
   .simp[rW]<;>omega
  .clear h3 h13 h14 h15 HS W s;rintro s ⟨W,⟨h3,h13,h14,h15,h4,h22,h23⟩,HS⟩;simp[rW,h22,h23];refine⟨W,⟨by simp[rW,h3],by simp[rW,h13],by simp[rW,h14],by simp[rW,h15]⟩,?_⟩;rw[zRs hx hlt];exact HS.up (fun _ _=>rfl) (Z2 _)
  .simp[rW,h3]
  .simp[rW,h13]
  .simp[rW,h14]
  .simp[rW,h15]
  .simp[rW]
  .simp[rW]
  .simp[rW]
  .have e:(vA L n).set n (0,List.range 0)=vA L n:=by
    have h2:(vA L n)[n]'(by omega)=(0,List.range 0):=by
     have:=hvg;rw[Z0 (by omega)]at this;exact Z53 this
    rw[<-h2,Z95]
   rw[e];refine HS.up (fun id hid=> ?_) (by simp[rW]<;>omega);have i0:¬id=s.c:=by omega
   simp[rW,i0]
  .clear h3 h13 h14 h15 HS W s;rintro x s ⟨rfl,W,⟨h3,h13,h14,h15⟩,HS⟩;simp[rW,h15,hw];exact⟨W,⟨by simp[rW,h3],by simp[rW,h13],by simp[rW,h14],by simp[rW]⟩,HS.up (fun _ _=>rfl) (Z2 _)⟩
 .rintro s ⟨W,⟨h3,h13,h14,h15⟩,HS⟩;simp[rW,h14,h15];exact⟨W,⟨by simp[rW,h3],by simp[rW,h13],by simp[rW,h14],by simp[rW,h15]⟩,HS.up (fun _ _=>rfl) (Z2 _)⟩
 .simp[rW]
 .simp[rW]
 .simp[rW]
 .simp[rW]
 .have e:(List.replicate L.length ((D.f .nils,0,[]):D×Nat×List Nat)).map (fun p=>[p.1])=List.replicate L.length [D.f .nils]:=by simp
  rw[e];simp[rW,n1,n2]
 .intro p hp;rw[List.eq_of_mem_replicate hp];exact .inl ⟨rfl,rfl,rfl⟩
 .intro i j p q _ h1 _ x hx;rw[List.eq_of_mem_replicate (Z39 h1)]at hx;simp[D.oid]at hx
 .simp[rW]
 .simp[vA]
 .intro id hid;have i0:¬id=c0:=by omega
  have i1:¬id=c0+1:=by omega
  simp[rW,i0,i1]
 .simp[rW]<;>omega
 .rintro x s ⟨rfl,W,⟨h3,h13,h14,h15⟩,HS⟩;have e:vA L L.length=L.map vF:=by simp[vA]
  rw[e]at HS;simp[rW,h3,zqh];exact⟨W,HS⟩
def fn36:pr.fn 36=some g36:=by kernel_rfl
def fn65:pr.fn 65=some g65:=by kernel_rfl
def vl_d(l:List Int):(valsF l).d= .f (valsF l):=zeh ..
def zn2(l:List Int):zci (.f (valsF l))=some l.length:=by simp[valsF,zd0]
def zri(l:List Int)(n:Nat):iaB 3 (.f (valsF l)) n=(l[n]?).map fun v=>D.fptr (Sm.vF v):=by simp[valsF,zeY,Z67]
def zaH:List Int->List Int->Int
 |[],[]=>0
 |[],_::_=> -1
 |_::_,[]=>1
 |a::u,b::v=>if zaW a b≠0 then zaW a b else zaH u v
def ro66(a b:Int)(h:T Ob)(c:Nat):RO pr 66 [.ag [.f (.i .i64 1),.f (.i .i64 a),.f (.s [])],.ag [.f (.i .i64 1),.f (.i .i64 b),.f (.s [])]] h c (.f (.i .i64 (zaW a b))):=by
 refine zjE zgQ fn66 rfl ?_;simp only[g66,rU];have q1:=fun k=>zad (k:=k) (zBr 1 1)
 have q2:=fun k=>zad (k:=k) (zBs a b)
 have q3:=fun k=>zad (k:=k) (zBu [] [])
 have q4:=fun k=>zad (k:=k) (zBq (zaW 1 1) (zaW a b) (zkF [] []))
 rw[(show zaW 1 1=0 from rfl)]at q1 q4;rw[(show zkF [] []=0 from rfl)]at q3 q4;have e:(if(0:Int)≠0 then 0 else if zaW a b≠0 then zaW a b else 0)=zaW a b:=by
  simp only[ne_eq,not_true_eq_false,Z63];split
  .rfl
  .rename_i h;simp at h;exact h.symm
 rw[e]at q4;simp[rW,st0,zak];refine zaw ?_;simp[rW,st0,zak,q1,q2,q3,q4,zfz];simp (disch:=omega) only[zjK,zkK]
theorem zeR:∀(u v:List Int) (n:Nat),n<=u.length->n<=v.length->(∀i,i<n->u[i]? =v[i]?)->zaH u v=zaH (u.drop n) (v.drop n)
 |_,_,0,_,_,_=>by simp
 |[],_,n+1,h,_,_=>by simp at h
 |_::_,[],n+1,_,h,_=>by simp at h
 |a::u,b::v,n+1,h1,h2,h=>by
  have e:=h 0 (by omega);simp at e;subst e;have:zaW a a=0:=by simp[zaW]
  simp only[zaH,this,List.drop_succ_cons];exact zeR u v n (by simpa using h1) (by simpa using h2) fun i hi=>by simpa using h (i+1) (by omega)
def J65(u v:List Int)(c n:Nat)(s:St):Prop:=(s.tm.get 0=some (.f (valsF u))/\s.tm.get 1=some (.f (valsF v))/\s.tm.get 2=some (.f (.fn 66))/\s.tm.get 11=some (.f (valsF u))/\s.tm.get 12=some (.f (.i .i64 u.length))/\s.tm.get 13=some (.f (.i .i64 n)))/\c<=s.c/\s.lw=c/\n<=v.length/\(∀i,i<n->u[i]? =v[i]?)
def R65(u v:List Int)(c:Nat)(e:Ex)(s:St):Prop:=(e= .exit 0/\J65 u v c u.length s)\/(e= .ret/\s.tm.get 6=some (.f (.i .i64 (zaH u v)))/\s.lw=c)
def ro65(u v:List Int)(hu:u.length<1000)(hv:v.length<1000)(h:T Ob)(c:Nat):RO pr 65 [.f (valsF u),.f (valsF v),.f (.fn 66)] h c (.f (.i .i64 (zaH u v))):=by
 refine zjE zgQ fn65 rfl ?_;simp only[g65,rU];simp[rW,st0,zak,zn2];refine zcS (fun k s=>∃n:Nat,n<=u.length/\k=u.length - n/\J65 u v c n s) (R65 u v c) ?_ u.length _ ⟨0,Z61 _,rfl,⟨?_,?_,?_,?_,?_,?_⟩,?_,?_,?_,?_⟩ ?_
 .rintro k s ⟨n,hn,rfl,⟨h0,h1,h2,h11,h12,h13⟩,hc,hlw,hnv,hI⟩;have hw:=zao n (by omega)
  by_cases hlt:n<u.length
  .have hx:u[n]? =some u[n]:=Z0 hlt;generalize hA:u[n]=a at hx
   by_cases hlv:n<v.length
   .have hy:v[n]? =some v[n]:=Z0 hlv;generalize hB:v[n]=b at hy;have hge:¬((v.length:Int)<=(n:Int)):=by omega
    have n1:¬s.c=s.c+1:=by omega
    simp[rW,h0,h1,h2,h11,h12,h13,hlt,zri,hx,hA,Sm.vF,zn2,hge,hy,hB,n1];refine zk6 (ro66 a b _ _) ?_ fun mx=> ?_
    .simp only[rG];simp (disch:=omega) only[zjK,zkK];omega
    have hlw2:(s.h.get 0=s.h.get 0):=rfl
    by_cases hz:zaW a b=0
    .have hz2:(zaW a b != 0)=false:=by simp[hz]
     have hab:a=b:=by
      unfold zaW at hz;split at hz
      .assumption
      .split at hz<;>simp at hz
     simp[rW,h0,h1,h2,h11,h12,h13,hz,hw];refine⟨u.length - (n+1),by omega,n+1,by omega,rfl,⟨?_,?_,?_,?_,?_,?_⟩,?_,?_,by omega,?_⟩
     .simp[rW,h0]
     .simp[rW,h1]
     .simp[rW,h2]
     .simp[rW,h11]
     .simp[rW,h12]
     .simp[rW,hw]
     .simp only[rG];omega
     .simp only[rG];simp (disch:=omega) only[zjK,zkK];omega
     .intro i hi
      by_cases e:i=n
      .subst e;rw[hx,hy,hab]
      .exact hI i (by omega)
    .have hl3:zaH u v=zaW a b:=by
      rw[zeR u v n hn hnv hI,Z55 hlt,Z55 hlv,hA,hB];simp[zaH,hz]
     simp[rW,h0,h1,h2,h11,h12,h13,hz];refine .inr ⟨rfl,?_,?_⟩
     .simp[rW,hl3]
     .simp only[rG];simp (disch:=omega) only[zjK,zkK];omega
   .have hge:(v.length:Int)<=(n:Int):=by omega
    have hl3:zaH u v=1:=by
     rw[zeR u v n hn hnv hI,Z55 hlt,show List.drop n v=[]from Z24 (by omega)];rfl
    have n1:¬s.c=s.c+1:=by omega
    simp[rW,h0,h1,h2,h11,h12,h13,hlt,zri,hx,hA,Sm.vF,zn2,hge,n1];refine .inr ⟨rfl,?_,?_⟩
    .simp[rW,hl3]
    .simp only[rG];simp (disch:=omega) only[zjK,zkK];omega
  .have hen:n=u.length:=by omega
   subst hen;simp[rW,h0,h1,h2,h11,h12,h13];exact .inl ⟨rfl,⟨by simp[rW,h0],by simp[rW,h1],by simp[rW,h2],by simp[rW,h11],by simp[rW,h12],by simp[rW,h13]⟩,by simp only[rG];omega,by simp only[rG];exact hlw,hnv,hI⟩
 .simp[rW]
 .simp[rW]
 .simp[rW]
 .simp[rW]
 .simp[rW]
 .simp[rW]
 .simp[rW]
 .simp[rW]
 .simp
 .intro i hi;omega
 .rintro e s (⟨rfl,⟨h0,h1,h2,h11,h12,h13⟩,hc,hlw,hnv,hI⟩ |⟨rfl,h6,hlw⟩)
  .by_cases hl:u.length<v.length
   .have hl3:zaH u v= -1:=by
     rw[zeR u v u.length (Z2 _) hnv hI,Z206,Z55 hl];rfl
    simp[rW,h0,h1,h2,zn2,hl,hl3,zfz,hlw]
   .have he:v.length=u.length:=by omega
    have hl3:zaH u v=0:=by
     rw[zeR u v u.length (Z2 _) hnv hI,Z206,<-he,Z206];rfl
    simp[rW,h0,h1,h2,zn2,hl,hl3,zfz,hlw]
  .simp[rW,h6,zfz,hlw]
def zGa(u v:List Int)(hu:u.length<1000)(hv:v.length<1000):Ans pr 36 [valsF u,valsF v] (.i .i64 (zaH u v)):=by
 refine zcf fn36 ?_;simp only[g36,rU];simp[rW,st0,zak,vl_d];refine zk6 (ro65 u v hu hv _ _) ?_ fun mx=> ?_
 .simp only[rG];omega
 simp[rW]
inductive Opn where
 |var (i:Nat)
 |cst (z:Int)
def Opn.c:Opn->List F
 | .var i=>[.i .i64 i,.i .i64 0,.i .i64 0,.s []]
 | .cst z=>[.i .i64 (-1),.i .i64 1,.i .i64 z,.s []]
def Opn.m:Opn->Nat
 | .var i=>2 ^ i
 | .cst _=>0
structure Pat where
 r:Nat
 ts:List Opn
def Pat.m(p:Pat):Nat:=p.ts.foldl (fun b t=>b|||t.m) 0
structure Cnd where
 op:Int
 l:Opn
 r:Opn
def Cnd.m(k:Cnd):Nat:=k.l.m|||k.r.m
abbrev Asg:=List (Option Int)
def zaQ:Asg->Nat
 |[]=>0
 |o::σ=>(if o.isSome then 1 else 0)+2*zaQ σ
def zaC(σ:Asg):Opn->Option Int
 | .var i=>(σ[i]?).join
 | .cst z=>some z
def opD(ts:List Opn):List (List D):=(ts.map Opn.c).map fun a=>a.map D.f
def paD(W:List (Pat×D)):List (List D):=W.map fun p=>[.f (.i .i64 p.1.r),p.2,.f (.i .u64 p.1.m)]
def cnD(cs:List Cnd):List (List D):=(cs.map fun k=>[F.i .i64 k.op]++k.l.c++k.r.c++[F.i .u64 k.m]).map fun a=>a.map D.f
structure Mx where
 ns:List Str
 M:Nat
 V:Nat
 S:Nat
 dP:D
 WP:List (Pat×D)
 dN:D
 WN:List (Pat×D)
 dC:D
 cs:List Cnd
def zjA(h:T Ob)(lo c:Nat)(d:D)(W:List (Pat×D)):Prop:=Gro h lo c 3 d (paD W)/\∀q∈W,Gro h lo c 4 q.2 (opD q.1.ts)
def zDs(x:List D):Prop:=∃a b:Int,x=[.f (.i .i64 a),.f (.i .i64 b),.f (.s [])]
def zKU{vs:List (List D)}(h:∀x∈vs,zDs x):hd8 vs=false:=by
 cases vs with
 |nil=>rfl
 |cons x l=>
  obtain⟨a,b,rfl⟩ :=h x (by simp);rfl
structure MtS(h:T Ob)(c:Nat)(X:Mx)(σ:Asg):Prop where
 m:h.get X.M=some (.arr 7 0 [[.ptr X.S 2 0 0,.f (zah X.ns),X.dP,X.dN,X.dC,.sl X.V 0 X.ns.length 3 X.ns.length true,.f (.i .u64 (zaQ σ))]])
 v:∃vs,h.get X.V=some (.arr 3 0 vs)/\vs.length=X.ns.length/\(∀x∈vs,zDs x)/\∀(i:Nat) (z:Int),σ[i]? =some (some z)->vs[i]? =some ((Sm.vF z).map D.f)
 n:σ.length=X.ns.length
 n6:σ.length<=6
 P:zjA h (X.V+1) c X.dP X.WP
 N:zjA h (X.V+1) c X.dN X.WN
 C:Gro h (X.V+1) c 10 X.dC (cnD X.cs)
 o:X.S<X.M/\X.M<X.V/\X.V<c
def zjA.up{h h':T Ob}{lo c c':Nat}{d:D}{W:List (Pat×D)}(H:zjA h lo c d W)(hf:∀id,lo<=id->id<c->h'.get id=h.get id)(hc:c<=c'):zjA h' lo c' d W:=
 ⟨zaX H.1 hc hf,fun q hq=>zaX (H.2 q hq) hc hf⟩
def MtS.up{h h':T Ob}{c c':Nat}{X:Mx}{σ:Asg}(H:MtS h c X σ)(hf:∀id,id<c->h'.get id=h.get id)(hc:c<=c'):MtS h' c' X σ:=by
 have o:=H.o;obtain⟨vs,h1,h2,h3,h4⟩ :=H.v;exact⟨by rw[hf _ (by omega)];exact H.m,⟨vs,by rw[hf _ (by omega)];exact h1,h2,h3,h4⟩,H.n,H.n6,H.P.up (fun id _ h=>hf id h) hc,H.N.up (fun id _ h=>hf id h) hc,zaX H.C hc (fun id _ h=>hf id h),by omega⟩
def Fr(X:Mx)(c:Nat)(h h':T Ob):Prop:=∀id,id<c->id≠X.M->id≠X.V->h'.get id=h.get id
def Fr.refl(X:Mx)(c:Nat)(h:T Ob):Fr X c h h:=fun _ _ _ _=>rfl
def Fr.trans{X:Mx}{c c':Nat}{h h' h2:T Ob}(a:Fr X c h h')(b:Fr X c' h' h2)(hc:c<=c'):Fr X c h h2:=fun id h1 h2' h3=>(b id (by omega) h2' h3).trans (a id h1 h2' h3)
theorem MtS.wr{h h':T Ob}{c c':Nat}{X:Mx}{σ σ':Asg}(H:MtS h c X σ)(hf:Fr X c h h')(hc:c<=c')
  (hm:h'.get X.M=some (.arr 7 0 [[.ptr X.S 2 0 0,.f (zah X.ns),X.dP,X.dN,X.dC,.sl X.V 0 X.ns.length 3 X.ns.length true,.f (.i .u64 (zaQ σ'))]]))
  (hv:∃vs,h'.get X.V=some (.arr 3 0 vs)/\vs.length=X.ns.length/\(∀x∈vs,zDs x)/\∀(i:Nat) (z:Int),σ'[i]? =some (some z)->vs[i]? =some ((Sm.vF z).map D.f))(hn:σ'.length=σ.length):MtS h' c' X σ':=by
 have o:=H.o;have key:∀id,X.V+1<=id->id<c->h'.get id=h.get id:=fun id h1 h2=>hf id h2 (by omega) (by omega)
 exact⟨hm,hv,hn.trans H.n,hn▸H.n6,H.P.up key hc,H.N.up key hc,zaX H.C hc key,by omega⟩
def Same(d0:D)(h:T Ob)(c:Nat)(d:D)(h':T Ob)(_:Nat):Prop:=d=d0/\∀id,id<c->h'.get id=h.get id
def Same.rfl'(d0:D)(h:T Ob)(c c':Nat):Same d0 h c d0 h c':=⟨rfl,fun _ _=>rfl⟩
def fn258:pr.fn 258=some zAm:=by kernel_rfl
def vRw(v:List Int):List (List D):=(v.map Sm.vF).map fun a=>a.map D.f
def zKR(h:T Ob)(k:Nat){id ro:Nat}{v:List Int}(hg:h.get id=some (.arr 3 ro (vRw v)))(hv:v≠[]):frz h.get (k+2) (.sl id 0 v.length 3 v.length true)=some (valsF v,[id]):=by
 have e:((vRw v).drop 0).take v.length=vRw v:=by
  rw[Z34,Z11 (by simp[vRw])]
 have hn:valsF v= .sl 3 (v.map Sm.vF):=by
  cases v with
  |nil=>exact absurd rfl hv
  |cons a v=>rfl
 have h2:=zmC h.get k (v.map Sm.vF);rw[zfw,hg];simp only[om,Z46,fzS];rw[Z51 (by simp[vRw]),e];unfold vRw;rw[h2,hn];rfl
def HasP(d0:D)(v:List Int)(id:Nat)(h:T Ob)(c:Nat)(d:D)(h':T Ob)(_:Nat):Prop:=d=d0/\(∃ro',h'.get id=some (.arr 3 ro' (vRw v)))/\∀x,x<c->x≠id->h'.get x=h.get x
def zr2(v:List Int):(vRw v).length=v.length:=by simp[vRw]
theorem zBX{h:T Ob}{c C id ro k:Nat}{ts:List (List Int×List F)}{tv v:List Int}{p:List F}(hC:h.get C=some (.arr 1 0 [[.f (zbO ts)]]))(hg:h.get id=some (.arr 3 ro (vRw v)))(hv:v≠[])(hvl:v.length<1000)(htl:tv.length<1000)
  (ht:ts[k]? =some (tv,p))(hid:id<c)(hCi:C≠id):Eff pr 258 [.f (.i .i64 k),.sl id 0 v.length 3 v.length true,.ptr C 1 0 0] h c (HasP (.f (.i .i64 (zaH tv v))) v id h c):=by
 refine zuw zgQ fn258 ?_;have q1:=fun k=>zad (k:=k) (zGa tv v htl hvl)
 have hz:=fun k=>zKR h k hg hv
 simp only[zAm,rU];simp[rW,st0,zak,hC,zkI,ht,tuF,hz,q1,hg,zr2,zqh]
 by_cases hr:v.length<=ro
 .simp[rW,hr];exact⟨rfl,⟨ro,hg⟩,fun _ _ _=>rfl⟩
 .have hro:¬(v.length<=ro):=hr;simp[rW,hro,hid];refine⟨⟨rfl,⟨v.length,by simp[rW]⟩,fun x _ hx=>by simp[rW,hx]⟩,fun _=>⟨rfl,⟨ro,hg⟩,fun _ _ _=>rfl⟩⟩
def tb2(op:BinOp)(f:Nat->Nat->Nat):Bool:=(List.range 64).all fun a=>(List.range 64).all fun b=>match zaK op (.i .u64 (a:Nat)) (.i .u64 (b:Nat))with
 |some (.i .u64 z)=>z==(f a b:Nat)
 |_=>false
def zv5{op:BinOp}{f:Nat->Nat->Nat}(h:tb2 op f=true){a b:Nat}(ha:a<64)(hb:b<64):zaK op (.i .u64 (a:Nat)) (.i .u64 (b:Nat))=some (.i .u64 (f a b:Nat)):=by
 have h1:=Z50.1 (Z50.1 h a (by simpa using ha)) b (by simpa using hb);split at h1
 .rename_i z e;rw[e,eq_of_beq h1]
 .cases h1
def zdm(a b:Nat):Nat:=Nat.land a (63 - b)
def t_an:tb2 .andNot zdm=true:=by kernel_rfl
def t_and:tb2 .and Nat.land=true:=by kernel_rfl
def t_or:tb2 .or Nat.lor=true:=by kernel_rfl
def zll{a b:Nat}(ha:a<64)(hb:b<64):=zv5 t_an ha hb
def zyP{a b:Nat}(ha:a<64)(hb:b<64):=zv5 t_and ha hb
def znl{a b:Nat}(ha:a<64)(hb:b<64):=zv5 t_or ha hb
theorem t_shl:((List.range 7).all fun i=>match zaK .shl (.i .u64 1) (.i .i64 (i:Nat))with
 |some (.i .u64 z)=>z==(2 ^ i:Nat)
 |_=>false)=true:=by kernel_rfl
def zkO{i:Nat}(hi:i<7):zaK .shl (.i .u64 1) (.i .i64 (i:Nat))=some (.i .u64 ((2 ^ i:Nat):Int)):=by
 have h1:=Z50.1 t_shl i (by simpa using hi);split at h1
 .rename_i z e;rw[e,eq_of_beq h1]
 .cases h1
theorem t_shr:((List.range 64).all fun a=>(List.range 6).all fun i=>match zaK .shr (.i .u64 (a:Nat)) (.i .i64 (i:Nat))with
 |some (.i .u64 z)=>z==(a>>>i:Nat)&&(match zaK .and (.i .u64 z) (.i .u64 1)with
  |some (.i .u64 y)=>y==(if a.testBit i then 1 else 0)
  |_=>false)
 |_=>false)=true:=by kernel_rfl
def zGi{a i:Nat}(ha:a<64)(hi:i<6):zaK .shr (.i .u64 (a:Nat)) (.i .i64 (i:Nat))=some (.i .u64 ((a>>>i:Nat):Int))/\zaK .and (.i .u64 ((a>>>i:Nat):Int)) (.i .u64 1)=some (.i .u64 (if a.testBit i then 1 else 0)):=by
 have h1:=Z50.1 (Z50.1 t_shr a (by simpa using ha)) i (by simpa using hi);split at h1
 .rename_i z e;simp only[Z14]at h1;obtain⟨h2,h3⟩ :=h1;have h2:=eq_of_beq h2;subst h2;refine⟨e,?_⟩;split at h3
  .rename_i y e2;rw[e2,eq_of_beq h3]
  .cases h3
 .cases h1
theorem t_low:((List.range 64).all fun a=>a==0||match zaK .sub (.i .u64 (a:Nat)) (.i .u64 1)with
 |some (.i .u64 z)=>(z==(a - 1:Nat))&&(match zaK .and (.i .u64 (a:Nat)) (.i .u64 z)with
  |some (.i .u64 y)=>y==(Nat.land a (a - 1):Nat)
  |_=>false)
 |_=>false)=true:=by kernel_rfl
def zyQ{a:Nat}(ha:a<64)(h0:a≠0):zaK .sub (.i .u64 (a:Nat)) (.i .u64 1)=some (.i .u64 ((a - 1:Nat):Int))/\zaK .and (.i .u64 (a:Nat)) (.i .u64 ((a - 1:Nat):Int))=some (.i .u64 ((Nat.land a (a - 1):Nat):Int)):=by
 have h1:=Z50.1 t_low a (by simpa using ha);have hz:(a==0)=false:=by simpa using h0
 rw[hz,Bool.false_or]at h1;split at h1
 .rename_i z e;simp only[Z14]at h1;obtain⟨h2,h3⟩ :=h1;have h2:=eq_of_beq h2;subst h2;refine⟨e,?_⟩;split at h3
  .rename_i y e2;rw[e2,eq_of_beq h3]
  .cases h3
 .cases h1
def zhU(m:Nat):List Nat:=(List.range 6).filter fun i=>m.testBit i
def zQ7:((List.range 64).all fun a=>a==0||(zhU a==(zhU a).headD 0::zhU (Nat.land a (a - 1))))=true:=by kernel_rfl
def tz(a:Nat):Nat:=(zhU a).headD 0
def znn{a:Nat}(ha:a<64)(h0:a≠0):zhU a=tz a::zhU (Nat.land a (a - 1)):=by
 have h1:=Z50.1 zQ7 a (by simpa using ha);have hz:(a==0)=false:=by simpa using h0
 rw[hz,Bool.false_or]at h1;exact eq_of_beq h1
def zin{m i:Nat}:i∈zhU m↔i<6/\m.testBit i=true:=by simp[zhU]
def zi3{a b i:Nat}(ha:a<64)(hb:b<64):(zdm a b).testBit i=(a.testBit i&& !b.testBit i):=by
 unfold zdm;have h:=Nat.testBit_two_pow_sub_succ (n:=6) hb i;have e:2 ^ 6 - (b+1)=63 - b:=by omega
 rw[e]at h;show(a&&& (63 - b)).testBit i=_;rw[Nat.testBit_and,h]
 by_cases hi:i<6
 .simp[hi]
 .have h6:2 ^ 6<=2 ^ i:=Z113 (by decide) (by omega);have:a.testBit i=false:=Nat.testBit_lt_two_pow (by omega);simp[this]
def zmh{a b:Nat}(ha:a<64):zdm a b<64:=Z188 Nat.and_le_left ha
def zwC{a b:Nat}(ha:a<64)(hb:b<64):zdm a b=0↔∀i,a.testBit i=true->b.testBit i=true:=by
 constructor
 .intro h i h1;have:=zi3 (i:=i) ha hb;rw[h,Nat.zero_testBit,h1,Z103]at this;simpa using this.symm
 .intro h;refine Nat.eq_of_testBit_eq fun i=> ?_
  rw[zi3 ha hb,Nat.zero_testBit];cases h1:a.testBit i with
  |false=>rfl
  |true=>simp[h i h1]
def u_eq(a b:Int):zaK .eql (.i .u64 a) (.i .u64 b)=some (.b (a==b)):=rfl
def zih(a b:Int):zaK .neq (.i .u64 a) (.i .u64 b)=some (.b (!(a==b))):=rfl
def fn257:pr.fn 257=some zAk:=by kernel_rfl
theorem zQ8:((List.range 8).all fun n=>match zaK .shr (.i .u64 (n:Nat)) (.i .u64 1)with
 |some (.i .u64 z)=>z==(n/2:Nat)
 |_=>false)=true:=by kernel_rfl
def zLK{n:Nat}(hn:n<8):zaK .shr (.i .u64 (n:Nat)) (.i .u64 1)=some (.i .u64 ((n/2:Nat):Int)):=by
 have h1:=Z50.1 zQ8 n (by simpa using hn);split at h1
 .rename_i z e;rw[e,eq_of_beq h1]
 .cases h1
def wrap_u64(n:Nat)(h:n<1000000):IntKind.u64.wrap (n:Int)=(n:Int):=IntWalk.u64_in _ (by omega)
def J257(dp:D)(v:List Int)(C id n:Nat)(h:T Ob)(c i j:Nat)(cm:Nat->Int)(s:St):Prop:=(∃ro',(s.tm.get 0=some (dp)/\s.tm.get 1=some (.sl id 0 v.length 3 v.length true)/\s.tm.get 2=some (.fn 258 [] [.ptr C 1 0 0])/\s.tm.get 8=some (.f (.i .i64 n))/\s.tm.get 9=some (.f (.i .i64 i))/\s.tm.get 10=some (.f (.i .i64 j))/\s.h.get id=some (.arr 3 ro' (vRw v))))/\c<=s.c/\(∀x,x<c->x≠id->s.h.get x=h.get x)/\i<=j/\j<=n/\(∀k,k<i->cm k<0)/\(∀k,j<=k->k<n->0<=cm k)
def R257(dp:D)(v:List Int)(C id n:Nat)(h:T Ob)(c:Nat)(cm:Nat->Int)(e:Ex)(s:St):Prop:=e= .exit 0/\∃i,J257 dp v C id n h c i i cm s
def BsP(v:List Int)(id n:Nat)(h:T Ob)(c:Nat)(cm:Nat->Int)(d:D)(h':T Ob)(_:Nat):Prop:=∃pos,d= .tu [.f (.i .i64 (pos:Nat)),.f (.b (decide (pos<n)&&decide (cm pos=0)))]/\pos<=n/\(∀k,k<pos->cm k<0)/\(∀k,pos<=k->k<n->0<=cm k)/\(∃ro',h'.get id=some (.arr 3 ro' (vRw v)))/\∀x,x<c->x≠id->h'.get x=h.get x
theorem zMD{h:T Ob}{c C id ip ro n:Nat}{dp:D}{rows:List (List D)}{ts:List (List Int×List F)}{v:List Int}(hC:h.get C=some (.arr 1 0 [[.f (zbO ts)]]))(hg:h.get id=some (.arr 3 ro (vRw v)))(hv:v≠[])(hvl:v.length<1000)
  (hn:ts.length=n)(hn3:n<=3)(htl:∀t∈ts,t.1.length<1000)(hid:id<c)(hCi:C≠id)(hCc:C<c)(hl:zci dp=some n)(hia:∀k,k<n->iaB 1 dp k=some (.ptr ip 1 k 0))(hp:0<n->h.get ip=some (.arr 1 0 rows)/\ip<c/\ip≠id)(hr:∀k,k<n->rows[k]? =some [.f (.i .i64 (k:Nat))])
  (hs:∀a b:Nat,a<=b->b<n->zaH (ts[b]?.getD ([],[])).1 v<0->zaH (ts[a]?.getD ([],[])).1 v<0):Eff pr 257 [dp,.sl id 0 v.length 3 v.length true,.fn 258 [] [.ptr C 1 0 0]] h c (BsP v id n h c fun k=>zaH (ts[k]?.getD ([],[])).1 v):=by
 refine zb2 kps fn257 (fun d h' c' ⟨pos,a1,a2,a3,a4,a5,a6⟩ _ hf=>⟨pos,a1,a2,a3,a4,by rw[<-hf id hid];exact a5,fun _ _ _=>rfl⟩) ?_;obtain⟨cm,hcm⟩ :∃cm:Nat->Int,cm=fun k=>zaH (ts[k]?.getD ([],[])).1 v:=⟨_,rfl⟩
 rw[<-hcm];simp only[zAk,rU];simp[rW,st0,zak,hl];refine zcS (fun k s=>∃i j,k=j - i/\J257 dp v C id n h c i j cm s) (R257 dp v C id n h c cm) ?_ n _ ⟨0,n,rfl,⟨ro,?_,?_,?_,?_,?_,?_,?_⟩,?_,?_,?_,?_,?_,?_⟩ ?_
 .rintro k s ⟨i,j,rfl,⟨ro',h0,h1,h2,h8,h9,h10,gid⟩,hc,hf,hij,hjn,hlo,hhi⟩
  by_cases hlt:i<j
  .have ec:((i+j:Nat):Int)=(i:Int)+j:=by omega
   have w1:IntKind.i64.wrap ((i:Int)+j)=(i:Int)+j:=IntWalk.i64_in _ (by omega);have w2:IntKind.u64.wrap ((i:Int)+j)=(i:Int)+j:=IntWalk.u64_in _ (by omega);have w3:=zLK (n:=i+j) (by omega);rw[ec]at w3;obtain⟨m,hm⟩ :∃m,m=(i+j)/2:=⟨_,rfl⟩
   rw[<-hm]at w3;have w4:IntKind.i64.wrap (m:Int)=(m:Int):=wrap_i64 _ (by omega) (by omega);have hmj:m<j:=by omega
   have him:i<=m:=by omega
   obtain⟨p1,p2,p3⟩ :=hp (by omega);have p1':s.h.get ip=some (.arr 1 0 rows):=(hf ip p2 p3).trans p1;have hrm:=hr m (by omega);simp[rW,h0,h1,h2,h8,h9,h10,hlt,w1,w2,w3,w4,hia m (by omega),p1',hrm];have hC':s.h.get C=_:=(hf C hCc hCi).trans hC;have htm:ts[m]? =some ts[m]:=Z0 (by omega);have e1:=zBX (h:=s.h) (c:=s.c) (k:=m) (tv:=ts[m].1) (p:=ts[m].2) hC' gid hv hvl (htl _ (Z1 (by omega))) htm (by omega) hCi;have hcv:cm m=zaH ts[m].1 v:=by
    rw[hcm];show zaH (ts[m]?.getD ([],[])).1 v=_;rw[htm];rfl
   rw[<-hcv]at e1;refine zbR [(0,dp),(1,.sl id 0 v.length 3 v.length true),(2,.fn 258 [] [.ptr C 1 0 0]),(8,.f (.i .i64 n)),(9,.f (.i .i64 i)),(10,.f (.i .i64 j)),(11,.f (.i .i64 m))] e1 (by simp only[rG]) (by simp only[rG]) (by simp only[Rg];simp[rW,h0,h1,h2,h8,h9,h10]) rfl ?_;rintro s1 d1 ⟨rfl,⟨ro1,r1⟩,f1⟩ hc1 h30 ⟨h0',h1',h2',h8',h9',h10',h11',-⟩;have fr:∀x,x<c->x≠id->s1.h.get x=h.get x:=fun x hx hn=>(f1 x (by omega) hn).trans (hf x hx hn)
   have hw:=zao m (by omega);refine⟨?_⟩
   by_cases hv:cm m<0
   .simp[rW,h0',h1',h2',h8',h9',h10',h11',h30,hv,hw];refine⟨j - (m+1),by omega,m+1,j,rfl,⟨ro1,?_,?_,?_,?_,?_,?_,r1⟩,by simp only[rG];omega,fr,by omega,hjn,?_,hhi⟩
    .simp[rW,h0']
    .simp[rW,h1']
    .simp[rW,h2']
    .simp[rW,h8']
    .simp[rW,hw]
    .simp[rW,h10']
    .intro k hk;have h3:=hs k m (by omega) (by omega);rw[hcm]at hv|-;exact h3 hv
   .simp[rW,h0',h1',h2',h8',h9',h10',h11',h30,hv,hw];refine⟨m - i,by omega,i,m,rfl,⟨ro1,?_,?_,?_,?_,?_,?_,r1⟩,by simp only[rG];omega,fr,by omega,by omega,hlo,?_⟩
    .simp[rW,h0']
    .simp[rW,h1']
    .simp[rW,h2']
    .simp[rW,h8']
    .simp[rW,h9']
    .simp[rW,h11']
    .intro k hk1 hk2;have h3:=hs m k hk1 hk2;rw[hcm]at hv|-;exact Int.not_lt.1 fun h4=>hv (h3 h4)
  .have e:i=j:=by omega
   subst e;simp[rW,h0,h1,h2,h8,h9,h10];exact⟨rfl,i,⟨ro',by simp[rW,h0],by simp[rW,h1],by simp[rW,h2],by simp[rW,h8],by simp[rW,h9],by simp[rW,h10],gid⟩,hc,hf,hij,hjn,hlo,hhi⟩
 .simp[rW]
 .simp[rW]
 .simp[rW]
 .simp[rW]
 .simp[rW]
 .simp[rW]
 .exact hg
 .simp[rW]<;>omega
 .intro x _ _;rfl
 .omega
 .exact Z2 _
 .intro k hk;omega
 .intro k h1 h2;omega
 .rintro e s ⟨rfl,i,⟨ro',h0,h1,h2,h8,h9,h10,gid⟩,hc,hf,hij,hjn,hlo,hhi⟩
  by_cases hlt:i<n
  .obtain⟨p1,p2,p3⟩ :=hp (by omega);have p1':s.h.get ip=some (.arr 1 0 rows):=(hf ip p2 p3).trans p1;have hrm:=hr i (by omega);have hC':s.h.get C=_:=(hf C hCc hCi).trans hC;have htm:ts[i]? =some ts[i]:=Z0 (by omega);have e1:=zBX (h:=s.h) (c:=s.c) (k:=i) (tv:=ts[i].1) (p:=ts[i].2) hC' gid hv hvl (htl _ (Z1 (by omega))) htm (by omega) hCi;have hcv:cm i=zaH ts[i].1 v:=by
    rw[hcm];show zaH (ts[i]?.getD ([],[])).1 v=_;rw[htm];rfl
   rw[<-hcv]at e1;simp[rW,h0,h1,h2,h8,h9,h10,hlt,hia i hlt,p1',hrm];refine zbR [(35,.f (.i .i64 i)),(39,.f (.b true))] e1 (by simp only[rG]) (by simp only[rG]) (by simp only[Rg];simp[rW,h9,hlt]) rfl ?_;rintro s1 d1 ⟨rfl,⟨ro1,r1⟩,f1⟩ hc1 h46 ⟨h35,h39,-⟩;have fr:∀x,x<c->x≠id->s1.h.get x=h.get x:=fun x hx hn=>(f1 x (by omega) hn).trans (hf x hx hn)
   refine⟨?_⟩;simp[rW,h35,h39,h46,zaR];refine⟨i,?_,hjn,hlo,hhi,⟨ro1,r1⟩,fr⟩
   by_cases hz:cm i=0<;>simp[hlt,hz]
  .simp[rW,h0,h1,h2,h8,h9,h10,hlt,zaR];exact⟨i,by simp[hlt],hjn,hlo,hhi,⟨ro',gid⟩,hf⟩
def fn231:pr.fn 231=some zAh:=by kernel_rfl
def zfD(a b:Int):zaW a b=0↔a=b:=by
 unfold zaW;split
 .simp[*]
 .split<;>simp[*]
theorem zhu:∀u v:List Int,zaH u v=0↔u=v
 |[],[]=>by simp[zaH]
 |[],b::v=>by simp[zaH]
 |a::u,[]=>by simp[zaH]
 |a::u,b::v=>by
  have ih:=zhu u v;simp only[zaH,List.cons.injEq]
  by_cases h:zaW a b=0
  .rw[Z49 (by simpa using h),ih,(zfD a b).1 h];simp
  .have:¬a=b:=fun e=>h ((zfD a b).2 e)
   simp[h,this]
theorem zlV:∀u v:List Int,zaH u v<0↔(u=[]/\v≠[]\/∃a u' b v',u=a::u'/\v=b::v'/\(a<b\/a=b/\zaH u' v'<0))
 |[],[]=>by simp[zaH]
 |[],b::v=>by simp[zaH]
 |a::u,[]=>by simp[zaH]
 |a::u,b::v=>by
  simp only[zaH];constructor
  .intro h;refine .inr ⟨a,u,b,v,rfl,rfl,?_⟩
   by_cases h0:zaW a b=0
   .rw[Z49 (by simpa using h0)]at h;exact .inr ⟨(zfD a b).1 h0,h⟩
   .rw[Z51 h0,zrA]at h;exact .inl h
  .rintro (h|⟨a',u',b',v',e1,e2,h⟩)
   .cases h.1
   .cases e1;cases e2;rcases h with h|⟨rfl,h⟩
    .have:zaW a b= -1:=by unfold zaW;rw[Z49 (by omega),Z51 h]
     simp[this]
    .have:zaW a a=0:=(zfD a a).2 rfl;simpa [this]using h
theorem zjX:∀u v w:List Int,zaH u v<0->zaH v w<0->zaH u w<0
 |[],v,w,h1,h2=>by
  refine (zlV _ _).2 (.inl ⟨rfl,?_⟩);rcases (zlV _ _).1 h2 with⟨_,h⟩ |⟨a,u',b,v',_,rfl,_⟩
  .exact h
  .simp
 |a::u,v,w,h1,h2=>by
  rcases (zlV _ _).1 h1 with⟨h,_⟩ |⟨a',u',b,v',e1,rfl,h⟩
  .cases h
  .cases e1;rcases (zlV _ _).1 h2 with⟨h,_⟩ |⟨b',v2,c,w',e2,rfl,h'⟩
   .cases h
   .cases e2;refine (zlV _ _).2 (.inr ⟨a,u,c,w',rfl,rfl,?_⟩);rcases h with h|⟨rfl,h⟩
    .rcases h' with h'|⟨rfl,h'⟩
     .exact .inl (by omega)
     .exact .inl h
    .rcases h' with h'|⟨rfl,h'⟩
     .exact .inl h'
     .exact .inr ⟨rfl,zjX _ _ _ h h'⟩
def Srt(ts:List (List Int×List F)):Prop:=∀a b:Nat,a<b->b<ts.length->zaH (ts[a]?.getD ([],[])).1 (ts[b]?.getD ([],[])).1<0
def zQ5{ts:List (List Int×List F)}(hs:Srt ts)(v:List Int)(a b:Nat)(hab:a<=b)(hb:b<ts.length)(h:zaH (ts[b]?.getD ([],[])).1 v<0):zaH (ts[a]?.getD ([],[])).1 v<0:=by
 rcases Z145 a b with h1|h1
 .exact zjX _ _ _ (hs a b h1 hb) h
 .have:a=b:=by omega
  subst this;exact h
def zLL{ts:List (List Int×List F)}(hs:Srt ts){v:List Int}{pos:Nat}(hp:pos<=ts.length)(h1:∀k,k<pos->zaH (ts[k]?.getD ([],[])).1 v<0)(h2:∀k,pos<=k->k<ts.length->0<=zaH (ts[k]?.getD ([],[])).1 v):(decide (pos<ts.length)&&decide (zaH (ts[pos]?.getD ([],[])).1 v=0))=ts.any fun t=>t.1==v:=by
 rw[Bool.eq_iff_iff];simp only[Z14,Z86,Z30,beq_iff_eq];constructor
 .rintro⟨h,e⟩;refine⟨ts[pos],Z1 h,?_⟩;rw[Z0 h]at e;exact (zhu _ _).1 e
 .rintro⟨t,ht,e⟩;obtain⟨k,hk,rfl⟩ :=Z101.1 ht;have e0:zaH (ts[k]?.getD ([],[])).1 v=0:=by
   rw[Z0 hk];exact (zhu _ _).2 e
  have hpk:pos<=k:=by
   rcases Z145 k pos with h|h
   .have:=h1 k h;omega
   .exact h
  refine⟨by omega,?_⟩;rcases Z145 pos k with h|h
  .have a1:=hs pos k h hk;have a2:=h2 pos (Z2 _) (by omega);rw[(zhu _ _).1 e0]at a1;omega
  .have:pos=k:=by omega
   subst this;exact e0
def zlF(h:T Ob)(S lo:Nat)(d:D)(k:Nat):Prop:=(k=0/\d= .f .nils)\/∃id,d= .sl id 0 k 1 k false/\h.get id=some (.arr 1 0 (zjm (List.range k)))/\(S<id/\id<lo)/\0<k
def zlF.len{h:T Ob}{S lo k:Nat}{d:D}(H:zlF h S lo d k):zci d=some k:=by
 rcases H with⟨rfl,rfl⟩ |⟨id,rfl,-⟩ <;>rfl
structure zdD(h:T Ob)(lo S:Nat)(L:List Rl):Prop where
 s:∃(PR:Nat) (W:List D),h.get S=some (.arr 2 0 [[.f (zbt L),.sl PR 0 L.length 1 L.length true]])/\h.get PR=some (.arr 1 0 (W.map fun d=>[d]))/\(S<=PR+1/\PR<lo)/\W.length=L.length/\∀(i:Nat) (r:Rl),L[i]? =some r->∃d,W[i]? =some d/\zlF h S lo d r.tu.length
 l:S<lo
def zdD.up{h h':T Ob}{lo S:Nat}{L:List Rl}(H:zdD h lo S L)(hf:∀id,S<=id+1->id<lo->h'.get id=h.get id):zdD h' lo S L:=by
 obtain⟨⟨PR,W,a1,a2,a3,a4,a5⟩,hl⟩ :=H;refine⟨⟨PR,W,by rw[hf _ (by omega) hl];exact a1,by rw[hf _ a3.1 a3.2];exact a2,a3,a4,fun i r hr=> ?_⟩,hl⟩;obtain⟨d,b1,b2⟩ :=a5 i r hr;refine⟨d,b1,?_⟩;rcases b2 with b2|⟨id,c1,c2,c3,c4⟩
 .exact .inl b2
 .exact .inr ⟨id,c1,by rw[hf _ (by omega) c3.2];exact c2,c3,c4⟩
structure RlO(r:Rl):Prop where
 n:r.tu.length<=3
 l:∀t∈r.tu,t.1.length<1000
 s:Srt r.tu
def zlF.ia{h:T Ob}{S lo n:Nat}{d:D}(H:zlF h S lo d n):∃ip,(∀k,k<n->iaB 1 d k=some (.ptr ip 1 k 0))/\(0<n->h.get ip=some (.arr 1 0 (zjm (List.range n)))/\S<ip/\ip<lo):=by
 rcases H with⟨rfl,rfl⟩ |⟨id,rfl,a1,a2,a3⟩
 .exact⟨0,fun k hk=>absurd hk (by omega),fun h=>absurd h (by omega)⟩
 .exact⟨id,fun k hk=>by simp[iaB,hk],fun _=>⟨a1,a2⟩⟩
def zqL(k j:Nat)(h:j<k):(zjm (List.range k))[j]? =some [D.f (.i .i64 (j:Nat))]:=by
 simp[zjm,h]
theorem zMA{h:T Ob}{c S id ro i lo:Nat}{L:List Rl}{r:Rl}{v:List Int}(HS:zdD h lo S L)(hlo:lo<=id)(hid:id<c)(hr:L[i]? =some r)(hR:RlO r)(hg:h.get id=some (.arr 3 ro (vRw v)))(hv:v≠[])(hvl:v.length<1000):
  Eff pr 231 [.ptr S 2 0 0,.f (.i .i64 i),.sl id 0 v.length 3 v.length true] h c (HasP (.f (.b (r.tu.any fun t=>t.1==v))) v id h c):=by
 refine zb2 kps fn231 (fun d h' c' ⟨a1,⟨ro',a2⟩,a3⟩ _ hf=>⟨a1,⟨ro',by rw[<-hf id hid];exact a2⟩,fun _ _ _=>rfl⟩) ?_;obtain⟨⟨PR,W,a1,a2,a3,a4,a5⟩,hl⟩ :=HS;obtain⟨d,b1,b2⟩ :=a5 i r hr;have hiL:i<L.length:=(Z8.1 hr).1;have hrow:(W.map fun d=>[d])[i]? =some [d]:=by rw[Z36,b1];rfl
 have n1:¬S=c:=by omega
 have n2:¬PR=c:=by omega
 have n3:¬id=c:=by omega
 obtain⟨ip,i1,i2⟩ :=b2.ia;have hl2:d.cells=some [d]:=by
  rcases b2 with⟨_,rfl⟩ |⟨_,rfl,_⟩ <;>rfl
 simp only[zAh,rU];have hA:=(Z8.1 hr).2;have hc2:(D.f (zbO r.tu)).cells=some [.f (zbO r.tu)]:=zcF _ _;have hB:=(Z8.1 b1).2;simp[rW,st0,zak,a1,znU,hr,hA,hB,rlE,hc2,n1,n2,a2,hrow,hiL,a4];have e1:=zMD (h:=((h.set c (.arr 1 0 [[.f .nils]])).set c (.arr 1 0 [[.f (zbO r.tu)]]))) (c:=c+1) (C:=c) (id:=id) (ip:=ip) (ro:=ro) (n:=r.tu.length) (dp:=d) (rows:=zjm (List.range r.tu.length)) (ts:=r.tu) (v:=v) (by simp[TG]) (by rw[TG,Z49 n3,TG,Z49 n3];exact hg) hv hvl rfl hR.n hR.l (by omega) (by omega) (by omega) b2.len i1 (fun h0=>⟨by rw[TG,Z49 (by have:=(i2 h0).2.2;omega),TG,Z49 (by have:=(i2 h0).2.2;omega)];exact (i2 h0).1,by have:=(i2 h0).2.2;omega,by have:=(i2 h0).2.2;omega⟩) (fun k hk=>zqL _ _ hk) (zQ5 hR.s v);refine zbR [] e1 (by simp only[rG]) (by simp only[rG]) trivial rfl ?_;rintro s d1 ⟨pos,rfl,p1,p2,p3,p4,p5⟩ hc1 h28 -;refine⟨?_⟩;simp[rW,h28,zaR];refine⟨by rw[zLL hR.s p1 p2 p3],p4,fun x hx hn=> ?_⟩;rw[p5 x (by omega) hn,TG,Z49 (by omega),TG,Z49 (by omega)]
def zgz(h:T Ob)(c:Nat)(d:D)(v:List Int):Prop:=∃id ro ex,d= .sl id 0 v.length 3 v.length ex/\h.get id=some (.arr 3 ro (vRw v))/\id<c
def zxP{v:List Int}{n:Nat}{a:Int}(h:v[n]? =some a):(vRw v)[n]? =some [D.f (.i .i64 1),D.f (.i .i64 a),D.f (.s [])]:=by simp[vRw,h,Sm.vF]
def K65(h:T Ob)(d e:D)(u v:List Int)(c n:Nat)(s:St):Prop:=(s.tm.get 0=some (d)/\s.tm.get 1=some (e)/\s.tm.get 2=some (.f (.fn 66))/\s.tm.get 11=some (d)/\s.tm.get 12=some (.f (.i .i64 u.length))/\s.tm.get 13=some (.f (.i .i64 n)))/\c<=s.c/\n<=v.length/\(∀i,i<n->u[i]? =v[i]?)/\∀id,id<c->s.h.get id=h.get id
def L65(h:T Ob)(d e:D)(u v:List Int)(c:Nat)(x:Ex)(s:St):Prop:=(x= .exit 0/\K65 h d e u v c u.length s)\/(x= .ret/\s.tm.get 6=some (.f (.i .i64 (zaH u v)))/\∀id,id<c->s.h.get id=h.get id)
def zME{d e:D}(u v:List Int)(hu:u.length<1000)(hv:v.length<1000){h:T Ob}{c:Nat}(hd:zgz h c d u)(he:zgz h c e v):Eff pr 65 [d,e,.f (.fn 66)] h c (Same (.f (.i .i64 (zaH u v))) h c):=by
 refine zb2 kps fn65 (fun d h' c' ⟨a,_⟩ _ _=>⟨a,fun _ _=>rfl⟩) ?_;obtain⟨ia,ra,xa,rfl,ga,la⟩ :=hd;obtain⟨ib,rb,xb,rfl,gb,lb⟩ :=he;simp only[g65,rU];simp[rW,st0,zak];refine zcS (fun k s=>∃n:Nat,n<=u.length/\k=u.length - n/\K65 h (.sl ia 0 u.length 3 u.length xa) (.sl ib 0 v.length 3 v.length xb) u v c n s) (L65 h (.sl ia 0 u.length 3 u.length xa) (.sl ib 0 v.length 3 v.length xb) u v c) ?_ u.length _ ⟨0,Z61 _,rfl,⟨?_,?_,?_,?_,?_,?_⟩,?_,?_,?_,?_⟩ ?_
 .rintro k s ⟨n,hn,rfl,⟨h0,h1,h2,h11,h12,h13⟩,hc,hnv,hI,hf⟩;have hw:=zao n (by omega);have ga':=(hf ia la).trans ga;have gb':=(hf ib lb).trans gb;have ul:=zr2 u;have vl:=zr2 v;have na:¬ia=s.c:=by omega
  have nb:¬ib=s.c:=by omega
  by_cases hlt:n<u.length
  .have hx:u[n]? =some u[n]:=Z0 hlt;generalize hA:u[n]=a at hx;have hrx:=zxP hx;have hrxA:=(Z8.1 hrx).2
   by_cases hlv:n<v.length
   .have hy:v[n]? =some v[n]:=Z0 hlv;generalize hB:v[n]=b at hy;have hry:=zxP hy;have hryA:=(Z8.1 hry).2;have hge:¬((v.length:Int)<=(n:Int)):=by omega
    have n1:¬s.c=s.c+1:=by omega
    have nb1:¬ib=s.c+1:=by omega
    have na1:¬ia=s.c+1:=by omega
    simp[rW,h0,h1,h2,h11,h12,h13,hlt,ga',gb',ul,vl,hrxA,hryA,hge,n1,na,nb,nb1,na1,hlv];refine zbR [(0,.sl ia 0 u.length 3 u.length xa),(1,.sl ib 0 v.length 3 v.length xb),(2,.f (.fn 66)),(11,.sl ia 0 u.length 3 u.length xa),(12,.f (.i .i64 u.length)),(13,.f (.i .i64 n))] (zkw (ro66 a b _ _)) (by simp only[rG];rfl) (by simp only[rG];rfl) (by simp only[Rg];simp[rW,h0,h1,h2,h11,h12,h13]) rfl ?_;rintro s1 d1 ⟨rfl,hh,hcc⟩ hc1 kd ⟨k0,k1,k2,k11,k12,k13,-⟩;have hf2:∀id,id<c->s1.h.get id=h.get id:=fun id hid=>by
     rw[hh,TG,Z49 (by omega),TG,Z49 (by omega),TG,Z49 (by omega),TG,Z49 (by omega)];exact hf id hid
    refine⟨?_⟩
    by_cases hz:zaW a b=0
    .have hab:a=b:=(zfD _ _).1 hz;rw[hz]at kd;simp[rW,k0,k1,k2,k11,k12,k13,kd,hw];refine⟨u.length - (n+1),by omega,n+1,by omega,rfl,⟨by simp[rW,k0],by simp[rW,k1],by simp[rW,k2],by simp[rW,k11],by simp[rW,k12],by simp[rW,hw]⟩,by simp only[rG];omega,by omega,fun i hi=> ?_,fun id hid=>by simp[rW];exact hf2 id hid⟩
     by_cases e:i=n
     .subst e;rw[hx,hy,hab]
     .exact hI i (by omega)
    .have hl3:zaH u v=zaW a b:=by
      rw[zeR u v n hn hnv hI,Z55 hlt,Z55 hlv,hA,hB];simp[zaH,hz]
     simp[rW,k0,k1,k2,k11,k12,k13,kd,hz];exact .inr ⟨rfl,by simp[rW,hl3],fun id hid=>by simp[rW];exact hf2 id hid⟩
   .have hge:(v.length:Int)<=(n:Int):=by omega
    have hl3:zaH u v=1:=by
     rw[zeR u v n hn hnv hI,Z55 hlt,show List.drop n v=[]from Z24 (by omega)];rfl
    have n1:¬s.c=s.c+1:=by omega
    simp[rW,h0,h1,h2,h11,h12,h13,hlt,ga',ul,hrxA,hge,n1,na];refine .inr ⟨rfl,by simp[rW,hl3],fun id hid=> ?_⟩;have a1:¬id=s.c:=by omega
    simp[rW,a1];exact hf id hid
  .have hen:n=u.length:=by omega
   subst hen;simp[rW,h0,h1,h2,h11,h12,h13];exact .inl ⟨rfl,⟨by simp[rW,h0],by simp[rW,h1],by simp[rW,h2],by simp[rW,h11],by simp[rW,h12],by simp[rW,h13]⟩,by simp only[rG];omega,hnv,hI,hf⟩
 .simp[rW]
 .simp[rW]
 .simp[rW]
 .simp[rW]
 .simp[rW]
 .simp[rW]
 .simp[rW]
 .simp
 .intro i hi;omega
 .intro id hid;simp[rW]
 .rintro e s (⟨rfl,⟨h0,h1,h2,h11,h12,h13⟩,hc,hnv,hI,hf⟩ |⟨rfl,h6,hf⟩)
  .by_cases hl:u.length<v.length
   .have hl3:zaH u v= -1:=by
     rw[zeR u v u.length (Z2 _) hnv hI,Z206,Z55 hl];rfl
    simp[rW,h0,h1,h2,hl,zaR];exact⟨by rw[hl3],hf⟩
   .have he:v.length=u.length:=by omega
    have hl3:zaH u v=0:=by
     rw[zeR u v u.length (Z2 _) hnv hI,Z206,<-he,Z206];rfl
    simp[rW,h0,h1,h2,hl,zaR];exact⟨by rw[hl3],hf⟩
  .simp[rW,h6,zaR];exact⟨rfl,hf⟩
def zMC{d e:D}(u v:List Int)(hu:u.length<1000)(hv:v.length<1000){h:T Ob}{c:Nat}(hd:zgz h c d u)(he:zgz h c e v):Eff pr 36 [d,e] h c (Same (.f (.i .i64 (zaH u v))) h c):=by
 refine zb2 kps fn36 (fun d h' c' ⟨a,_⟩ _ _=>⟨a,fun _ _=>rfl⟩) ?_;simp only[g36,rU];simp[rW,st0,zak];refine zbR [] (zME u v hu hv hd he) (by simp only[rG]) (by simp only[rG]) trivial rfl ?_;rintro s1 d1 ⟨rfl,hf⟩ hc1 k7 -;refine⟨?_⟩;simp[rW,k7,zaR];exact⟨rfl,hf⟩
def zGB:pr.fn 116=some zlq:=by kernel_rfl
def fn63:pr.fn 63=some g63:=by kernel_rfl
def fn35:pr.fn 35=some g35:=by kernel_rfl
def fn64:pr.fn 64=some g64:=by kernel_rfl
def fn125:pr.fn 125=some zzT:=by kernel_rfl
def zEl(z:Int)(h1: -9000000000000000000<=z)(h2:z<=9000000000000000000):IntKind.i64.wrap z=z:=IntWalk.i64_in _ (by omega)
abbrev Er:=D×List Int
def ltE(x y:Er):Bool:=decide (zaH x.2 y.2<0)
instance :Inhabited Er:=⟨(.f .un,[])⟩
def rE(l:List Er):List (List D):=l.map fun p=>[p.1]
def zPE(l:List Er):(rE l).length=l.length:=by simp[rE]
def zvh(l:List Er)(i:Nat)(v:Er):(rE l).set i [v.1]=rE (l.set i v):=by simp[rE,Z116]
def zvg(d:Array Er){i:Nat}(hi:i<d.size):(rE d.toList)[i]? =some [d[i]!.1]:=by
 simp[rE,hi]
def zPF(d:Array Er)(i j:Nat):((rE d.toList).set i [d[j]!.1]).set j [d[i]!.1]=rE (Go.Sort.swp d i j).toList:=by
 rw[zvh,zvh];simp[Go.Sort.swp,Array.toList_setIfInBounds]
def zAN(d:Array Er)(i:Nat){j:Nat}(hj:j<d.size):((rE d.toList).set i [d[j]!.1])[j]? =some [d[j]!.1]:=by
 by_cases h:i=j
 .subst h;rw[Z140 (by rw[zPE];simpa using hj)]
 .rw[Z125 h];exact zvg d hj
structure SRw(h:T Ob)(c id n:Nat)(d:Array Er)(h':T Ob)(c':Nat):Prop where
 row:h'.get id=some (.arr 1 0 (rE d.toList))
 sz:d.size=n
 el:∀p∈d.toList,zgz h c p.1 p.2/\p.2.length<1000
 fr:∀j,j<c->j≠id->h'.get j=h.get j
 le:c<=c'
def SRw.cc{h:T Ob}{c id n:Nat}{d:Array Er}{h' h'':T Ob}{c' c'':Nat}(H:SRw h c id n d h' c')(hid:id<c)(hh:∀j,j<c'->h''.get j=h'.get j)(hc:c'<=c''):SRw h c id n d h'' c'':=
 ⟨by rw[hh id (by have:=H.le;omega)];exact H.row,H.sz,H.el,fun q hq hne=>(hh q (by have:=H.le;omega)).trans (H.fr q hq hne),Z3 H.le hc⟩
def SRw.hrow{h:T Ob}{c id n:Nat}{d d0:Array Er}{h':T Ob}{c':Nat}(H:SRw h c id n d h' c')(h0:h.get id=some (.arr 1 0 (rE d0.toList))){i:Nat}(hi:i<n):zgz h' c' d[i]!.1 d[i]!.2/\d[i]!.2.length<1000:=by
 have hs:=H.sz;have hm:d[i]! ∈d.toList:=by
  rw[getElem!_pos d i (by omega)];exact Array.getElem_mem_toList (by omega)
 obtain⟨⟨a,ro,ex,e,g,l⟩,h2⟩ :=H.el _ hm;have hne:a≠id:=fun e2=>by rw[e2,h0]at g;simp at g
 exact⟨⟨a,ro,ex,e,by rw[H.fr a l hne];exact g,by have:=H.le;omega⟩,h2⟩
def zKM(d:Array Er)(i j:Nat)(hi:i<d.size)(hj:j<d.size)(p:Er)(hp:p∈(Go.Sort.swp d i j).toList):p∈d.toList:=by
 simp only[Go.Sort.swp,Array.toList_setIfInBounds]at hp;rcases Z156 hp with h1|rfl
 .rcases Z156 h1 with h2|rfl
  .exact h2
  .rw[getElem!_pos d j hj];exact Array.getElem_mem_toList hj
 .rw[getElem!_pos d i hi];exact Array.getElem_mem_toList hi
def I2r(h:T Ob)(c id n a b i:Nat)(ex:Bool)(D1:Array Er)(k:Nat)(s:St):Prop:=∃(d:Array Er),(s.tm.get 0=some (.sl id 0 n 1 n ex)/\s.tm.get 1=some (.f (.i .i64 a))/\s.tm.get 2=some (.f (.i .i64 b))/\s.tm.get 3=some (.f (.fn 36))/\s.tm.get 8=some (.f (.i .i64 i))/\s.tm.get 9=some (.f (.i .i64 k)))/\SRw h c id n d s.h s.c/\Go.Sort.insInner ltE a k d=D1/\k<n
def I1r(h:T Ob)(c id n a b:Nat)(ex:Bool)(D0:Array Er)(m:Nat)(s:St):Prop:=∃(d:Array Er) (i:Nat),i=a+1+m/\(s.tm.get 0=some (.sl id 0 n 1 n ex)/\s.tm.get 1=some (.f (.i .i64 a))/\s.tm.get 2=some (.f (.i .i64 b))/\s.tm.get 3=some (.f (.fn 36))/\s.tm.get 8=some (.f (.i .i64 (i:Int))))/\SRw h c id n d s.h s.c/\Go.Sort.insOuter ltE a b i d=D0
def zlK:C:=zlq.body.r.b.o
def zug:C:=zlK.r.l.b.r.b.o
def R2r(h:T Ob)(c id n a b i:Nat)(ex:Bool)(D1:Array Er)(x:Ex)(s:St):Prop:=x= .exit 2/\(s.tm.get 0=some (.sl id 0 n 1 n ex)/\s.tm.get 1=some (.f (.i .i64 a))/\s.tm.get 2=some (.f (.i .i64 b))/\s.tm.get 3=some (.f (.fn 36))/\s.tm.get 8=some (.f (.i .i64 i)))/\SRw h c id n D1 s.h s.c
def zO2{h:T Ob}{c id n a b i:Nat}{ex:Bool}{d0 D1:Array Er}(g0:h.get id=some (.arr 1 0 (rE d0.toList)))(hid:id<c)(hsz:n<100000){k:Nat}{s:St}{K:Ex->St->Prop}(hJ:I2r h c id n a b i ex D1 k s)(hK:∀e s,R2r h c id n a b i ex D1 e s->K e s):WL pr zug s K:=by
 refine zcS (I2r h c id n a b i ex D1) (R2r h c id n a b i ex D1) ?_ k _ hJ hK;clear hJ;clear k;rintro k s ⟨d',⟨h0,h1,h2,h3,h8,h9⟩,HS,hI,hk⟩
 by_cases hka:a<k
 .obtain⟨j,hkj⟩ :∃j,k=j+1:=⟨k - 1,by omega⟩
  have hins:Go.Sort.insInner ltE a k d'=if zaH d'[k]!.2 d'[j]!.2<0 then Go.Sort.insInner ltE a j (Go.Sort.swp d' k j)else d':=by
   subst hkj;show(if(decide (j+1>a)&&ltE d'[j+1]! d'[j]!)=true then _ else _)=_;rw[decide_eq_true (by omega)];simp[ltE]
  have hsub:IntKind.i64.wrap ((k:Int) - 1)=(j:Int):=by
   rw[zEl _ (by omega) (by omega)];omega
  have hj:j<n:=by omega
  have e1:=zvg d' (i:=k) (by rw[HS.sz];exact hk);have e0:=zvg d' (i:=j) (by rw[HS.sz];exact hj);have e0':=zAN d' k (j:=j) (by rw[HS.sz];exact hj);obtain⟨rk,lk⟩ :=HS.hrow g0 hk;obtain⟨rj,lj⟩ :=HS.hrow g0 hj;have gR:=HS.row;have hsw:=zPF d' k j;have szsw:(Go.Sort.swp d' k j).size=n:=by simp[Go.Sort.swp,HS.sz]
  have hmem:=zKM d' k j (by rw[HS.sz];exact hk) (by rw[HS.sz];exact hj);have hkc:d'[k]!.1.cells=some [d'[k]!.1]:=by obtain⟨_,_,_,e,_⟩ :=rk;rw[e];rfl
  have hjc:d'[j]!.1.cells=some [d'[j]!.1]:=by obtain⟨_,_,_,e,_⟩ :=rj;rw[e];rfl
  have hk8:∀l:List (List D),hd8 ([d'[k]!.1]::l)=false:=by obtain⟨_,_,_,e,_⟩ :=rk;rw[e];intro l;rfl
  have hj8:∀l:List (List D),hd8 ([d'[j]!.1]::l)=false:=by obtain⟨_,_,_,e,_⟩ :=rj;rw[e];intro l;rfl
  have hall8:∀l:List Er,(∀p∈l,zgz h c p.1 p.2/\p.2.length<1000)->hd8 (rE l)=false:=fun l hl=>by
   cases l with
   |nil=>rfl
   |cons p l=>obtain⟨⟨_,_,_,e,_⟩,_⟩ :=hl p (by simp);simp only[rE,Z10,e];rfl
  have h8a:=hall8 _ HS.el;have h8b:=hall8 _ (fun p hp=>HS.el p (hmem p hp));have h8c:hd8 ((rE d'.toList).set k [d'[j]!.1])=false:=by
   rw[zvh];refine hall8 _ fun p hp=> ?_
   rcases Z156 hp with h1|rfl
   .exact HS.el p h1
   .refine HS.el _ ?_;rw[getElem!_pos d' j (by rw[HS.sz];exact hj)];exact Array.getElem_mem_toList _
  have hup:∀{d:D} {v:List Int},zgz s.h s.c d v->zgz s.h (s.c+1+1+1+1+1+1+1+1+1+1+1+1+1+1) d v:=fun⟨a,ro,ex,e,g,l⟩ =>⟨a,ro,ex,e,g,by omega⟩
  generalize d'[k]! =pk at*;generalize d'[j]! =pj at*;unfold zug zlK zlq;simp only[rU,C.l,C.r,C.b,C.o];simp[rW,h0,h1,h2,h3,h8,h9,hka];refine zgi ?_;simp[rW,h0,h1,h2,h3,h8,h9,hka,gR,hk,hj,hsub,e1,e0];refine zm1 [(0,.sl id 0 n 1 n ex),(1,.f (.i .i64 a)),(2,.f (.i .i64 b)),(3,.f (.fn 36)),(8,.f (.i .i64 i)),(9,.f (.i .i64 k)),(21,.f (.b true))] (zMC (h:=s.h) (c:=s.c+1+1+1+1+1+1+1+1+1+1+1+1+1+1) pk.2 pj.2 lk lj (hup rk) (hup rj)) (by simp only[rG]) (by simp only[rG]) (by simp only[Rg];simp[rW,h0,h1,h2,h3,h8,h9]) rfl ?_;rintro s1 d1 c' ⟨rfl,hf1⟩ hc1 hc2 k32 ⟨k0,k1,k2,k3,k8,k9,k21,-⟩;have HS1:SRw h c id n d' s1.h s1.c:=HS.cc hid (fun j hj=>hf1 j (by omega)) (by omega);have gR1:=HS1.row;refine⟨by simp[rW],⟨?_⟩⟩
  by_cases hlt:zaH pk.2 pj.2<0
  .rw[Z51 hlt]at hins;simp[rW,k0,k1,k2,k3,k8,k9,k21,k32,hlt];refine zaw ?_;simp[rW,k0,k1,k2,k3,k8,k9,gR1,hk,hj,hsub,e1,e0,e0',hkc,hjc,h8a,h8b,h8c,hsw];have hle:=HS1.le;refine⟨by omega,by omega,j,by omega,Go.Sort.swp d' k j,⟨by simp[rW,k0],by simp[rW,k1],by simp[rW,k2],by simp[rW,k3],by simp[rW,k8],by simp[rW,hsub]⟩,⟨by simp[rW],szsw,fun p hp=>HS.el p (hmem p hp),fun q hq hne=> ?_,by simp only[rG];omega⟩,hins.symm.trans hI,hj⟩;simp[rW,hne];exact HS1.fr q hq hne
  .rw[Z49 hlt]at hins;rw[hins]at hI;subst hI;simp[rW,k0,k1,k2,k3,k8,k9,k21,k32,hlt];exact⟨rfl,⟨by simp[rW,k0],by simp[rW,k1],by simp[rW,k2],by simp[rW,k3],by simp[rW,k8]⟩,HS1.cc hid (fun _ _=>by simp only[rG]) (by simp only[rG];omega)⟩
 .have hins:Go.Sort.insInner ltE a k d'=d':=by
   cases k with
   |zero=>rfl
   |succ j=>
    show(if(decide (j+1>a)&&ltE d'[j+1]! d'[j]!)=true then _ else _)=_;rw[decide_eq_false (by omega)];rfl
  rw[hins]at hI;subst hI;unfold zug zlK zlq;simp only[rU,C.l,C.r,C.b,C.o];simp[rW,h0,h1,h2,h3,h8,h9,hka];refine zgi ?_;simp[rW,h0,h1,h2,h3,h8,h9,hka];exact⟨rfl,⟨by simp[rW,h0],by simp[rW,h1],by simp[rW,h2],by simp[rW,h3],by simp[rW,h8]⟩,HS.cc hid (fun _ _=>by simp only[rG]) (by simp only[rG];omega)⟩
def zO1{h:T Ob}{c id n a b:Nat}{ex:Bool}{d0 D0:Array Er}(g0:h.get id=some (.arr 1 0 (rE d0.toList)))(hid:id<c)(hsz:n<100000)(hb:b<=n){s:St}{K:Ex->St->Prop}(hJ:I1r h c id n a b ex D0 0 s)(hK:∀s,I1r h c id n a b ex D0 (b - (a+1)) s->K (.exit 0) s):WL pr zlK s K:=by
 refine zbD (b - (a+1)) (I1r h c id n a b ex D0) (fun x s=>x= .exit 0/\I1r h c id n a b ex D0 (b - (a+1)) s) ?_ ?_ _ hJ ?_
 .rintro m s hm ⟨d,i,hi,⟨h0,h1,h2,h3,h8⟩,HS,hD⟩;have hib:i<b:=by omega
  have hwi:=zao i (by omega);rw[Go.Sort.insOuter,Z51 hib]at hD;unfold zlK zlq;simp only[rU,C.l,C.r,C.b,C.o];simp[rW,h0,h1,h2,h3,h8,hib];refine zO2 (h:=h) (c:=c) (id:=id) (n:=n) (a:=a) (b:=b) (i:=i) (ex:=ex) (D1:=Go.Sort.insInner ltE a i d) g0 hid hsz (k:=i) ⟨d,⟨by simp[rW,h0],by simp[rW,h1],by simp[rW,h2],by simp[rW,h3],by simp[rW,h8],by simp[rW]⟩,HS.cc hid (fun _ _=>by simp only[rG]) (by simp only[rG];omega),rfl,by omega⟩ ?_;rintro e s1 ⟨rfl,⟨k0,k1,k2,k3,k8⟩,HS1⟩;simp[rW,k0,k1,k2,k3,k8,hwi];exact⟨_,i+1,by omega,⟨by simp[rW,k0],by simp[rW,k1],by simp[rW,k2],by simp[rW,k3],by simp[rW,hwi]⟩,HS1.cc hid (fun _ _=>by simp only[rG]) (by simp only[rG];omega),hD⟩
 .rintro s ⟨d,i,hi,⟨h0,h1,h2,h3,h8⟩,HS,hD⟩;have hib:¬i<b:=by omega
  unfold zlK zlq;simp only[rU,C.l,C.r,C.b,C.o];simp[rW,h0,h1,h2,h3,h8,hib];exact⟨d,i,hi,⟨by simp[rW,h0],by simp[rW,h1],by simp[rW,h2],by simp[rW,h3],by simp[rW,h8]⟩,HS.cc hid (fun _ _=>by simp only[rG]) (by simp only[rG];omega),hD⟩
 .rintro e s ⟨rfl,hJ⟩;exact hK s hJ
def SoP(h:T Ob)(c id n:Nat)(d:Array Er)(_:D)(h':T Ob)(c':Nat):Prop:=SRw h c id n d h' c'
def SoP.clo{h:T Ob}{c id n:Nat}{d:Array Er}(hid:id<c)(x:D)(h':T Ob)(c':Nat)(H:SoP h c id n d x h' c')(_:x.isF=true)(hf:∀j,j<c->h'.get j=h.get j):SoP h c id n d x h c:=
 ⟨by rw[<-hf id hid];exact H.row,H.sz,H.el,fun _ _ _=>rfl,Z2 _⟩
def zMp{h:T Ob}{c id n:Nat}{ex:Bool}{d:Array Er}(g0:h.get id=some (.arr 1 0 (rE d.toList)))(hn:d.size=n)(hel:∀p∈d.toList,zgz h c p.1 p.2/\p.2.length<1000)(hid:id<c)(hsz:n<100000):Eff pr 116 [.sl id 0 n 1 n ex,.f (.i .i64 0),.f (.i .i64 n),.f (.fn 36)] h c (SoP h c id n (Go.Sort.insertionSort ltE d 0 n)):=by
 refine zb2 kps zGB (SoP.clo hid) ?_;have hw1:IntKind.i64.wrap (0+1)=1:=rfl;simp only[zlq,rU];simp[rW,st0,zak];refine zO1 (h:=h) (c:=c) (id:=id) (n:=n) (a:=0) (b:=n) (ex:=ex) (D0:=Go.Sort.insertionSort ltE d 0 n) g0 hid hsz (Z2 n) ⟨d,1,rfl,⟨by simp[rW],by simp[rW]<;>rfl,by simp[rW],by simp[rW],by simp[rW]<;>rfl⟩,⟨by simp only[rG]<;>exact g0,hn,hel,fun _ _ _=>by simp only[rG],by simp only[rG]<;>exact Z2 _⟩,rfl⟩ ?_;rintro s ⟨d1,i,hi,⟨h0,h1,h2,h3,h8⟩,HS,hD⟩;rw[Go.Sort.insOuter,Z49 (by omega)]at hD;subst hD;simp[rW,znw];exact HS
def zDF(a b:Int):Go.Vse.zaK .geq (.i .u64 a) (.i .u64 b)=some (.b (decide (b<=a))):=rfl
def zPn:∀x:Fin 64,(([0,1,2,2,3,3,3,3,4,4,4,4,4,4,4,4,5,5,5,5,5,5,5,5,5,5,5,5,5,5,5,5,6,6,6,6,6,6,6,6,6,6,6,6,6,6,6,6,6,6,6,6,6,6,6,6,6,6,6,6,6,6,6,6,7,7,7,7,7,7,7,7,7,7,7,7,7,7,7,7,7,7,7,7,7,7,7,7,7,7,7,7,7,7,7,7,7,7,7,7,7,7,7,7,7,7,7,7,7,7,7,7,7,7,7,7,7,7,7,7,7,7,7,7,7,7,7,7,8,8,8,8,8,8,8,8,8,8,8,8,8,8,8,8,8,8,8,8,8,8,8,8,8,8,8,8,8,8,8,8,8,8,8,8,8,8,8,8,8,8,8,8,8,8,8,8,8,8,8,8,8,8,8,8,8,8,8,8,8,8,8,8,8,8,8,8,8,8,8,8,8,8,8,8,8,8,8,8,8,8,8,8,8,8,8,8,8,8,8,8,8,8,8,8,8,8,8,8,8,8,8,8,8,8,8,8,8,8,8,8,8,8,8,8,8,8,8,8,8,8,8,8,8,8,8,8]:List UInt8)[x.val]?)=some (UInt8.ofNat (Go.Sort.bitsLen x.val)):=by decide+kernel
def zEq:∀x:Fin 64,Go.Sort.bitsLen x.val<=6:=by decide+kernel
def o_ixs{pr:Pr}{s:St}{Q:St->Prop}{dst:Option Nat}{l:List Go.Vse.Op}{x i:A}:wpO pr (⟨dst,none,.ixs x i⟩ ::l) s Q↔oB (((O.ixs x i).res (zae s.tm)).bind (opv s.h.get s.c)) fun r=>zas r.c r.wr=true/\wpO pr l (s.aft dst r.d r.wr r.c) Q:=zdK rfl
def v_ixs{h:Nat->Option Ob}{c:Nat}{l:List UInt8}{i:Nat}{b:UInt8}(hb:l[i]? =some b):opv h c (.ixs (.f (.s l)) (.f (.i .u8 (i:Int))))=some {d:= .f (.i .u8 (b.toNat:Int)),c:=c}:=by
 simp[opv,zbv,hb,okF]
def ro125{h:T Ob}{c x:Nat}(hx:x<64):RO pr 125 [.f (.i .u64 x)] h c (.f (.i .i64 (Go.Sort.bitsLen x))):=by
 refine zjE zgQ fn125 rfl ?_;simp only[zzT,rU];have t:=zPn ⟨x,hx⟩;have t2:=zEq ⟨x,hx⟩;simp only at t t2;obtain⟨b,hb,hbt⟩ :∃b:UInt8,b=UInt8.ofNat (Go.Sort.bitsLen x)/\b.toNat=Go.Sort.bitsLen x:=⟨_,rfl,by rw[UInt8.toNat_ofNat'];omega⟩
 rw[<-hb]at t;rw[<-hbt];have hwb:IntKind.i64.wrap (b.toNat:Int)=(b.toNat:Int):=zEl _ (by omega) (by omega);have t3:=fun(h:Nat->Option Ob) (c:Nat)=>v_ixs (h:=h) (c:=c) t
 have h32:¬((4294967296:Int)<=x):=by omega
 have h16:¬((65536:Int)<=x):=by omega
 have hy8:¬((256:Int)<=x):=by omega
 have hu8:IntKind.u8.wrap (x:Int)=x:=by simp[IntKind.wrap,IntKind.bits,IntKind.signed];omega
 simp[rW,st0,zak,h32,h16,hy8,o_ixs,hu8,zDF,O.res,Z47,t3,zHd,hwb,zfz,zsE]
def ro64{h:T Ob}{c x:Nat}(hx:x<64):RO pr 64 [.f (.i .u64 x)] h c (.f (.i .i64 (Go.Sort.bitsLen x))):=by
 refine zjE zgQ fn64 rfl ?_;simp only[g64,rU];simp[rW,st0,zak];refine zk6 (ro125 hx) ?_ ?_
 .simp only[rG];omega
 intro mx;simp[rW,zfz]
def eff63{h:T Ob}{c id n lm:Nat}{ex:Bool}{d:Array Er}(g0:h.get id=some (.arr 1 0 (rE d.toList)))(hn:d.size=n)(hel:∀p∈d.toList,zgz h c p.1 p.2/\p.2.length<1000)(hid:id<c)(h12:n<=12):Eff pr 63 [.sl id 0 n 1 n ex,.f (.i .i64 0),.f (.i .i64 n),.f (.i .i64 lm),.f (.fn 36)] h c (SoP h c id n (Go.Sort.insertionSort ltE d 0 n)):=by
 refine zb2 kps fn63 (SoP.clo hid) ?_;have hw:IntKind.i64.wrap (n:Int)=n:=zEl _ (by omega) (by omega);have h12':(n:Int)<=12:=by omega
 simp only[g63,rU];simp[rW,st0,zak];refine round ?_;simp[rW,hw,h12'];refine zbR [] (zMp (ex:=ex) g0 hn hel hid (by omega)) (by simp only[rG]) (by simp only[rG]) trivial rfl ?_;rintro s1 d1 HS hc1 - -;refine⟨?_⟩;simp[rW,zaR];exact HS
def eff35{h:T Ob}{c id n:Nat}{ex:Bool}{d:Array Er}(g0:h.get id=some (.arr 1 0 (rE d.toList)))(hn:d.size=n)(hel:∀p∈d.toList,zgz h c p.1 p.2/\p.2.length<1000)(hid:id<c)(h12:n<=12):Eff pr 35 [.sl id 0 n 1 n ex,.f (.fn 36)] h c (SoP h c id n (Go.Sort.insertionSort ltE d 0 n)):=by
 refine zb2 kps fn35 (SoP.clo hid) ?_;have hu:IntKind.u64.wrap (n:Int)=(n:Int):=by rw[IntKind.wrap_u64];omega
 simp only[g35,rU];simp[rW,st0,zak,hu];refine zbR [(7,.sl id 0 n 1 n ex),(8,.f (.i .i64 n)),(1,.f (.fn 36))] (zkw (ro64 (x:=n) (by omega))) (by simp only[rG];rfl) (by simp only[rG];rfl) (by simp only[Rg];simp[rW]) rfl ?_;rintro s1 d1 ⟨rfl,hh,hcc⟩ hc1 k11 ⟨k7,k8,k1,-⟩;refine⟨?_⟩;simp[rW,k1,k7,k8,k11];refine zbR [] (eff63 (ex:=ex) g0 hn hel hid h12) (by simp only[rG];exact hh) (by simp only[rG];exact hcc) trivial rfl ?_;rintro s2 d2 HS hc2 - -;refine⟨?_⟩;simp[rW,znw];exact HS
def zuV(u v:List Int)(h:¬zaH u v<0):u=v\/zaH v u<0:=by
 induction u generalizing v with
 |nil=>
  cases v with
  |nil=>exact .inl rfl
  |cons b v=>exact absurd (by simp[zaH]) h
 |cons a u ih=>
  cases v with
  |nil=>exact .inr (by simp[zaH])
  |cons b v=>
   by_cases h0:zaW a b=0
   .have hab:=(zfD a b).1 h0;subst hab;simp only[zaH,h0,ne_eq,not_true_eq_false,Z63]at h;rcases ih v h with rfl|h1
    .exact .inl rfl
    .right;simpa [zaH,h0]using h1
   .simp only[zaH,ne_eq,h0,not_false_eq_true,Z60,zrA]at h;right;have hba:b<a:=by
     have:¬a=b:=fun e=>h0 ((zfD a b).2 e)
     omega
    have h1:zaW b a≠0:=fun e=>by have:=(zfD b a).1 e;omega
    simp only[zaH,ne_eq,h1,not_false_eq_true,Z60,zrA];exact hba
def zlU(v:List Int):¬zaH v v<0:=by rw[(zhu v v).2 rfl];omega
theorem swoE:Go.Sort.SWO ltE where
 irrefl x:=by simp only[ltE,Z65];exact zlU _
 trans x y z h1 h2:=by
  simp only[ltE,Z86]at*;exact zjX _ _ _ h1 h2
 ntrans x y z h1 h2:=by
  simp only[ltE,Z65]at*;intro h;rcases zuV _ _ h1 with e|e
  .rw[e]at h;exact h2 h
  .exact h2 (zjX _ _ _ e h)
def insE(l:List Er)(hl:l.length<=12):(Go.Sort.insertionSort ltE l.toArray 0 l.length).toList.Perm l/\(Go.Sort.insertionSort ltE l.toArray 0 l.length).toList.Pairwise fun x y=>¬zaH y.2 x.2<0:=by
 have h:=Go.Sort.pdq_sorts ltE swoE l.toArray 0 l.length 1 true true (Z61 _) (by simp) (Or.inl rfl);have e:Go.Sort.pdq ltE l.toArray 0 l.length 1 true true=Go.Sort.insertionSort ltE l.toArray 0 l.length:=by
  rw[Go.Sort.pdq,Z51 (by omega)]
 rw[e]at h;generalize Go.Sort.insertionSort ltE l.toArray 0 l.length=D at h;obtain⟨⟨h1,h2,h3⟩,h4⟩ :=h;have hs:D.size=l.length:=by simpa using h1
 have e1:(D.extract 0 l.length).toList=D.toList:=by
  rw[Array.toList_extract];simp only[List.extract,<-hs,Z34,Nat.sub_zero];exact Z11 (by simp)
 have e2:(l.toArray.extract 0 l.length).toList=l:=by simp[List.extract]
 rw[e1,e2]at h3;refine⟨h3,Z126.2 fun i j hi hj hij=> ?_⟩;have hi':i<D.size:=by simpa using hi
 have hj':j<D.size:=by simpa using hj
 have:=h4 i j (Z61 _) hij (by omega);rw[getElem!_pos D j hj',getElem!_pos D i hi']at this;simpa [ltE]using this
def zhK(l:List (List Int)):Prop:=l.Pairwise fun a b=>zaH a b<0
def zKI{l:List Er}(h:l.Pairwise fun x y=>¬zaH y.2 x.2<0)(hn:(l.map (·.2)).Nodup):zhK (l.map (·.2)):=by
  unfold zhK;rw[List.pairwise_map];have h2:l.Pairwise fun x y=>x.2≠y.2:=by
    have:=hn;unfold List.Nodup at this
    rwa[List.pairwise_map]at this
  refine (h.and h2).imp ?_;rintro x y ⟨h3,h4⟩;rcases zuV _ _ h3 with e|e
  . exact absurd e.symm h4
  . exact e
theorem zxG:∀{a b:List (List Int)},zhK a->zhK b->(∀v,v∈a↔v∈b)->a=b
 |[],[],_,_,_=>rfl
 |[],y::b,_,_,h=>by have:=(h y).2 (by simp);simp at this
 |x::a,[],_,_,h=>by have:=(h x).1 (by simp);simp at this
 |x::a,y::b,ha,hb,h=>by
  obtain⟨ha1,ha2⟩ :=Z56.1 ha;obtain⟨hb1,hb2⟩ :=Z56.1 hb;have exy:x=y:=by
   have h1:=(h x).1 (by simp);have h2:=(h y).2 (by simp);rcases Z5.1 h1 with e|m1
   .exact e
   .rcases Z5.1 h2 with e|m2
    .exact e.symm
    .exact absurd (zjX _ _ _ (ha1 y m2) (hb1 x m1)) (zlU x)
  subst exy
  congr 1
  refine zxG ha2 hb2 fun v=>⟨fun hv=> ?_,fun hv=> ?_⟩
  .rcases Z5.1 ((h v).1 (by simp[hv]))with rfl|h1
   .exact absurd (ha1 v hv) (zlU v)
   .exact h1
  .rcases Z5.1 ((h v).2 (by simp[hv]))with rfl|h1
   .exact absurd (hb1 v hv) (zlU v)
   .exact h1
def FrO(h:T Ob)(c:Nat)(_:D)(h':T Ob)(_:Nat):Prop:=∀j,j<c->h'.get j=h.get j
def zMH{h:T Ob}{c:Nat}:Eff pr 35 [.f .nils,.f (.fn 36)] h c (FrO h c):=by
 have hi:∀(h:T Ob) (c:Nat),Eff pr 116 [.f .nils,.f (.i .i64 0),.f (.i .i64 0),.f (.fn 36)] h c (FrO h c):=fun h c=>by
  refine zb2 kps zGB (fun d h' c' _ _ _=>fun _ _=>rfl) ?_;simp only[zlq,rU];have hw1:IntKind.i64.wrap 1=1:=rfl;simp[rW,st0,zak];refine round ?_;simp[rW,hw1,znw];exact fun _ _=>rfl
 have hp:∀(h:T Ob) (c lm:Nat),Eff pr 63 [.f .nils,.f (.i .i64 0),.f (.i .i64 0),.f (.i .i64 lm),.f (.fn 36)] h c (FrO h c):=fun h c lm=>by
  refine zb2 kps fn63 (fun d h' c' _ _ _=>fun _ _=>rfl) ?_;simp only[g63,rU];have hw1:IntKind.i64.wrap 0=0:=rfl;simp[rW,st0,zak];refine round ?_;simp[rW,hw1];refine zbR [] (hi h c) (by simp only[rG]) (by simp only[rG]) trivial rfl ?_;rintro s1 d1 hf hc1 - -;refine⟨?_⟩;simp[rW,zaR];exact hf
 refine zb2 kps fn35 (fun d h' c' _ _ _=>fun _ _=>rfl) ?_;have hu:IntKind.u64.wrap 0=0:=rfl;simp only[g35,rU];simp[rW,st0,zak,hu];refine zbR [(7,.f .nils),(8,.f (.i .i64 0)),(1,.f (.fn 36))] (zkw (ro64 (x:=0) (by omega))) (by simp only[rG];rfl) (by simp only[rG];rfl) (by simp only[Rg];simp[rW]) rfl ?_;rintro s1 d1 ⟨rfl,hh,hcc⟩ hc1 k11 ⟨k7,k8,k1,-⟩;refine⟨?_⟩;simp[rW,k1,k7,k8,k11];refine zbR [] (hp s1.h s1.c _) (by simp only[rG]) (by simp only[rG]) trivial rfl ?_;rintro s2 d2 hf hc2 - -;refine⟨?_⟩;simp[rW,znw];exact fun j hj=>(hf j (by omega)).trans (by rw[hh])
end Go.Proofs.YtdlcolcidohbkaaGreatDoor
end
