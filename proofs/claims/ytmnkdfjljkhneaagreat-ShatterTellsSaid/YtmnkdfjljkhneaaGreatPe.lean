/- All disjuncts simplified: what is read off the rows. -/
import Derived.Test.YtmnkdfjljkhneaaGreatPd
import Derived.KernelRfl
import Derived.IntWalk
import Derived.Test.YtmnkdfjljkhneaaGreatPb
set_option linter.all false
set_option maxRecDepth 100000
set_option maxHeartbeats 4000000
section
namespace Go.Proofs.YtmnkdfjljkhneaaGreat
open Go Go.Vse Go.Vse.Sm
theorem zxq{h:T Ob}{lo c k:Nat}:∀(l:List Atm) (xs:List Nat),xs.length=l.length->(∀i (hi:i<l.length) (hx:i<xs.length),h.get xs[i]=some (.arr 4 0 (zbv l[i].ts)))->(∀x∈xs,lo<=x/\x<c)->(∀a∈l,a.ts≠[])->
  ∃rd,zaQ (frz h.get (k+2)) (List.zipWith atR l xs)=some (l.map atF,rd)/\∀x∈rd,lo<=x/\x<c
 |[],[],_,_,_,_=>⟨[],rfl,by simp⟩
 |[],_::_,h,_,_,_=>by simp at h
 |_::_,[],h,_,_,_=>by simp at h
 |a::l,x::xs,hl,hg,hr,hn=>by
  obtain⟨rd,h1,h2⟩ :=zxq (k:=k) l xs (by simpa using hl) (fun i hi hx=>hg (i+1) (by simpa using hi) (by simpa using hx)) (fun y hy=>hr y (by simp[hy])) fun b hb=>hn b (by simp[hb])
  have g0:=hg 0 (by simp) (by simp);have hna:=hn a (by simp);simp only[List.getElem_cons_zero]at g0;have e1:frz h.get (k+2) (.sl x 0 a.ts.length 4 a.ts.length false)=some (zaW a.ts,[x]):=by
   rw[zdx,g0,za9,zdf];have:=zer a.ts;simp only[true_and,Z25,this,Z2,if_true,Z34];rw[<-this,Z7];have e:zaQ (frz h.get (k+1)) (zbv a.ts)=some (a.ts.map tmF,[]):=zjL _ _ _;rw[e,za9,zbR (by simpa using hna)];rfl
  have e2:za7 (frz h.get (k+2)) (atR a x)=some (atF a,[x]):=by
   have a1:frz h.get (k+2) (.f (.s a.r))=some (.s a.r,[]):=rfl;have a2:frz h.get (k+2) (.f (.b a.neg))=some (.b a.neg,[]):=rfl;simp only[atR,za7,a1,a2,e1];rfl
  refine⟨[x]++rd,?_,fun y hy=> ?_⟩
  .rw[List.zipWith_cons_cons,zhk,e2];simp only[h1];rfl
  .rcases Z4.1 hy with hy|hy
   .rw[Z31.1 hy];exact hr x (by simp)
   .exact h2 y hy
def zvb{h:T Ob}{lo c k:Nat}{d:D}{l:List Atm}{xs:List Nat}(H:AsD h lo c d l xs)(hn:∀a∈l,a.ts≠[]):∃rd,frz h.get (k+3) d=some (slc 3 (l.map atF),rd)/\∀x∈rd,lo<=x/\x<c:=by
 obtain⟨rd,h1,h2⟩ :=zxq (k:=k) l xs H.ln H.rw H.rg hn;have hl:(List.zipWith atR l xs).length=l.length:=by rw[List.length_zipWith,H.ln,Nat.min_self]
 rcases H.gr with⟨rfl,hr⟩ |⟨id,ro,rfl,he,ho,hr,hlo,hc⟩
 .have:l=[]:=by
   apply Z17.1;rw[<-hl,hr];rfl
  subst this;exact⟨[],rfl,by simp⟩
 .refine⟨id::rd,?_,fun y hy=> ?_⟩
  .rw[zdx,ho,za9,zdf];simp only[true_and,Z25,Z2,if_true,Z34,Z7,h1,za9];rw[zbR (fun e=>he (Z17.1 (by rw[hl];simpa using e)))]
  .rcases Z5.1 hy with rfl|hy
   .exact⟨hlo,hc⟩
   .exact h2 y hy
def zvO{h:T Ob}{lo c k:Nat}{d:D}{q:CQ}(H:CsD h lo c d q):∃rd,frz h.get (k+2) d=some (zaC q,rd)/\∀x∈rd,lo<=x/\x<c:=by
 rcases H with⟨rfl,e,hne⟩ |⟨Y,tail,ex,rfl,g1,g2,g3,g4,g5,g6,g7⟩
 .refine⟨[],?_,by simp⟩;have:zaC q= .nils:=by unfold zaC csF;rw[if_neg (by simp[hne]),e];rfl
  rw[this];rfl
 .refine⟨[Y],?_,fun y hy=>by rw[Z31.1 hy];exact⟨g4,g5⟩⟩;have e:zaQ (frz h.get (k+1)) (q.cs.map cmD)=some (q.cs.map cmF,[]):=by
   have:=zfm h.get k (q.cs.map cmF);rw[Z33]at this;rw[<-this]
   congr 1
   exact List.map_congr_left fun k _=>(ziN k).symm
  have ht:(q.cs.map cmD++tail).take q.cs.length=q.cs.map cmD:=by
   rw[Z27 (by simp),Z11 (by simp)]
  rw[zdx,g1,za9,zdf];have hle:q.cs.length<=(q.cs.map cmD++tail).length:=by simp
  simp only[true_and,Z25,hle,if_true,Z34,ht,e,za9];unfold zaC csF;split
  .rename_i hh;rw[hh.2];rfl
  .rename_i hh;rw[zbR];intro e0;have e1:q.cs=[]:=by simpa using e0
   exact hh ⟨g2 e1,e1⟩
theorem zo9{hd:List Str}:∀(n:Nat) (q q':CQ),CqG q->smp hd n q=some q'->CqG q'/\q'.na=q.na
 |0,q,q',_,h=>by simp[smp]at h
 |n+1,q,q',hq,h=>by
  unfold smp at h;split at h
  .cases h
  .split at h
   .rename_i i hi;have:=zo9 n _ q' (zex hq i) h;exact this
   .split at h
    .rename_i i hi;obtain⟨hlt,-⟩ :=zoM hi;have hk:=hq.cs _ (Z1 hlt);rw[Z0 hlt,Option.getD_some]at h;unfold elm at h;split at h
     .have:=zo9 n (sbC _ _ (drp q i)) q' (zn9 (zex hq i) hk.1) h;exact this
     .have:=zo9 n (sbC _ _ (drp q i)) q' (zn9 (zex hq i) hk.2) h;exact this
    .cases h;exact⟨hq,rfl⟩
def zvN{q:CQ}(hq:CqG q):CqG (cop q):=⟨⟨⟨hq.toCqSm.toCqOk.as,hq.cs,hq.la,hq.lc⟩,hq.sa,hq.st,hq.sc,hq.s2⟩,hq.tn⟩
def zwW{hd:List Str}{q q':CQ}(hq:CqG q)(h:zgy hd q=some q'):CqG q'/\q'.na=false:=zo9 _ _ _ (zvN hq) h
def zPE{h:T Ob}{lo c k:Nat}{dA dC:D}{q:CQ}(H:MQ h lo c dA dC q)(hq:CqG q)(hna:q.na=false):∃rd,za7 (frz h.get (k+3)) [dA,dC]=some (cqF q,rd)/\∀x∈rd,lo<=x/\x<c:=by
 obtain⟨xs,hA,hC,-⟩ :=H;obtain⟨r1,a1,a2⟩ :=zvb (k:=k) hA hq.tn;obtain⟨r2,b1,b2⟩ :=zvO (k:=k+1) hC;refine⟨r1++r2,?_,fun x hx=>(Z4.1 hx).elim (a2 x) (b2 x)⟩;have e:slc 3 (q.as.map atF)=zaB q:=by unfold zaB Sm.asF;rw[if_neg (by simp[hna])]
 rw[e]at a1;have b1':frz h.get (k+3) dC=some (zaC q,r2):=b1;simp only[za7,a1,b1',cqE];simp
structure SW(h:T Ob)(P c:Nat)(B:D)(W:List (CQ×D×D)):Prop where
 gr:Gro h (P+1) c 2 B (W.map fun w=>[w.2.1,w.2.2])
 rd:∀w∈W,CqG w.1/\w.1.na=false/\∃lo hi,P<lo/\hi<=c/\MQ h lo hi w.2.1 w.2.2 w.1/\∀x,B.oid=some x->¬(lo<=x/\x<hi)
def zQZ{h:T Ob}{P c k:Nat}{B:D}{W:List (CQ×D×D)}(H:∀w∈W,CqG w.1/\w.1.na=false/\∃lo hi,P<lo/\hi<=c/\MQ h lo hi w.2.1 w.2.2 w.1/\∀x,B.oid=some x->¬(lo<=x/\x<hi)):∃rd,zaQ (frz h.get (k+3)) (W.map fun w=>[w.2.1,w.2.2])=some (W.map fun w=>cqF w.1,rd)/\∀x∈rd,B.oid≠some x:=by
 induction W with
 |nil=>exact⟨[],rfl,by simp⟩
 |cons w W ih=>
  obtain⟨rd,h1,h2⟩ :=ih fun v hv=>H v (by simp[hv])
  obtain⟨hq,hna,lo,hi,-,-,hM,hB⟩ :=H w (by simp);obtain⟨r,g1,g2⟩ :=zPE (k:=k) hM hq hna;refine⟨r++rd,?_,fun x hx e=> ?_⟩
  .rw[Z10,zhk,g1];simp only[h1];rfl
  .rcases Z4.1 hx with hx|hx
   .exact hB x e (g2 x hx)
   .exact h2 x hx e
def MQ.mono{h:T Ob}{lo lo' c c':Nat}{dA dC:D}{q:CQ}(H:MQ h lo c dA dC q)(h1:lo'<=lo)(h2:c<=c'):MQ h lo' c' dA dC q:=by
 obtain⟨xs,hA,hC,hD⟩ :=H;exact⟨xs,hA.up (fun _ _ _=>rfl) h1 h2,ziu hC (fun _ _ _=>rfl) h1 h2,hD⟩
def MQ.cA{h:T Ob}{lo c:Nat}{dA dC:D}{q:CQ}(H:MQ h lo c dA dC q):dA.cells=some [dA]/\dC.cells=some [dC]:=by
 obtain⟨xs,hA,hC,hD⟩ :=H;exact⟨za3 hA.gr,zfg hC⟩
theorem zs8:∀{l:List D} {fs:List F},zde l=some fs->l=fs.map D.f
 |[],fs,h=>by cases h;rfl
 | .f x::l,fs,h=>by
  rw[zEi]at h;cases hl:zde l with
  |none=>rw[hl]at h;cases h
  |some m=>
   rw[hl,za9]at h;cases h;rw[zs8 hl];rfl
 | .ag _::_,_,h=>by cases h
 | .tu _::_,_,h=>by cases h
 | .sl .. ::_,_,h=>by cases h
 | .ptr .. ::_,_,h=>by cases h
 | .fptr _::_,_,h=>by cases h
 | .mp _::_,_,h=>by cases h
 | .fn .. ::_,_,h=>by cases h
def zOz{h:T Ob}{c:Nat}{a b:D}{K:Rs->Prop}(hK:∀r:Rs,zay r.c r.wr=true->c<=r.c->(∀x,x<c->(wrT h r.wr).get x=h.get x)->(∃rd,elemsOf 2 (wrT h r.wr).get r.d=some ([[a,b]],rd))->K r):oB (zx1 c 2 1 [[a,b]] (om (zde [a,b]) fun y=>some [y])) K:=by
 cases hf:zde [a,b]with
 |some fs=>
  rw[za9,zsD,zgK];refine hK _ rfl (Z2 _) (fun _ _=>rfl) ⟨[],?_⟩;rw[zs8 hf];simp[elemsOf]
 |none=>
  rw[zmB,zsB,zgK];refine hK _ (by simp[zay,Nat.blt_eq]) (Nat.le_succ _) (fun x hx=> ?_) ⟨[c],?_⟩
  .have:¬x=c:=by omega
   simp[wrT,Vse.T.zad,this]
  .simp[wrT,Vse.T.zad,elemsOf]
def GZ(h:T Ob)(d:D):Prop:=∀id es ro els,d.oid=some id->h.get id=some (.arr es ro els)->ro=0
theorem zmt{h:T Ob}{lo c es byt:Nat}{d:D}{els new:List (List D)}{rd:List Nat}{K:Rs->Prop}(hg:Gro h lo c es d els)(hz:GZ h d)(hlo:lo<=c)(hlen:els.length+new.length<=1000000)(hb:byt<=1000)
  (hK:∀r:Rs,zay r.c r.wr=true->Gro (wrT h r.wr) lo r.c es r.d (els++new)->c<=r.c->(∀id,id<c->d.oid≠some id->(wrT h r.wr).get id=h.get id)->(∀x,r.d.oid=some x->x=c\/d.oid=some x)->GZ (wrT h r.wr) r.d->K r):oB (zb6 es byt h.get c d new rd) K:=by
 obtain⟨r,h1,h2,h3,h4,h5,h6,h7,h8⟩ :=zpU (byt:=byt) (rd:=rd) hg hlo hlen hb;rw[h1];refine hK r h2 h3 h4 h5 h8 ?_;have hm:∀n,n<=1000000->n<=zak:=fun n hn=>by have:=zaV (n:=n) (by omega);simpa using this
 have hmb:∀n,n<=1000000->n*byt<=zak:=fun n hn=>by
  have:n*byt<=1000000*1000:=Nat.mul_le_mul hn hb;have h2:=zaV (n:=n*byt) (by omega);simpa using h2
 by_cases h0:new.length=0
 .have hn:new=[]:=Z17.1 h0;subst hn;rcases hg with⟨rfl,rfl⟩ |⟨id,ro,rfl,he,ho,hr,hl,hc⟩
  .rw[zid]at h1;simp at h1;rw[<-h1];intro i es ro els hi;simp[D.oid]at hi
  .rw[zl2]at h1;simp at h1;rw[<-h1];exact hz
 .rcases hg with⟨rfl,rfl⟩ |⟨id,ro,rfl,he,ho,hr,hl,hc⟩
  .rw[zid,if_neg h0,if_pos ⟨hm _ (by simpa using hlen),hmb _ (by simpa using hlen)⟩]at h1;cases h1;intro i es ro els hi hg;simp only[D.oid,Z45]at hi;subst hi;simp[wrT,Vse.T.zad]at hg;exact hg.2.1.symm
  .have e:zb6 es byt h.get c (.sl id 0 els.length es els.length false) new rd=some {d:= .sl c 0 (els.length+new.length) es (els.length+new.length) false,rd:=id::rd,wr:=[(id,none),(c,some (.arr es ro (els++new)))],c:=c+1}:=by
    rw[zl2,if_neg h0,ho];have h1:¬(0+els.length+new.length<=els.length):=by omega
    have h2:=hm (els.length+new.length) hlen;have h3:=hmb (els.length+new.length) hlen;simp[om,apO,h1,h2,h3,hr];omega
   rw[e]at h1;cases h1;have h0':=hz id es ro els rfl ho;intro i es ro els hi hg;simp only[D.oid,Z45]at hi;subst hi;simp[wrT,Vse.T.zad]at hg;rw[<-hg.2.1];exact h0'
def zL2{h:T Ob}{lo c:Nat}{d:D}{X:F}(H:Own h lo c d X)(hd:d.isF=true):True/\d= .f X:=by
 rcases H.1 with rfl|⟨a,b,e,f,g,x,rfl⟩
 .exact⟨trivial,rfl⟩
 .cases hd
theorem zkP{h:Nat->Option Ob}{f:D->Option (F×List Nat)}(hf:∀d x rd,f d=some (x,rd)->∀id∈rd,∃ob,h id=some ob):
  ∀(ds:List D) (xs:List F) (rd:List Nat),za7 f ds=some (xs,rd)->∀id∈rd,∃ob,h id=some ob
 |[],xs,rd,hm,id,hi=>by
  simp[za7]at hm;rw[hm.2]at hi;simp at hi
 |d::ds,xs,rd,hm,id,hi=>by
  unfold za7 at hm;split at hm
  .simp at hm
  .rename_i x r hx;split at hm
   .simp at hm
   .rename_i m r' hm';simp at hm;obtain⟨rfl,rfl⟩ :=hm;rcases Z4.1 hi with hi|hi
    .exact hf d x r hx id hi
    .exact zkP hf ds m r' hm' id hi
theorem zq0{h:Nat->Option Ob}{f:D->Option (F×List Nat)}(hf:∀d x rd,f d=some (x,rd)->∀id∈rd,∃ob,h id=some ob):
  ∀(ds:List (List D)) (xs:List (List F)) (rd:List Nat),zaQ f ds=some (xs,rd)->∀id∈rd,∃ob,h id=some ob
 |[],xs,rd,hm,id,hi=>by
  simp[zaQ]at hm;rw[hm.2]at hi;simp at hi
 |d::ds,xs,rd,hm,id,hi=>by
  unfold zaQ at hm;split at hm
  .simp at hm
  .rename_i x r hx;split at hm
   .simp at hm
   .rename_i m r' hm';simp at hm;obtain⟨rfl,rfl⟩ :=hm;rcases Z4.1 hi with hi|hi
    .exact zkP hf d x r hx id hi
    .exact zq0 hf ds m r' hm' id hi
theorem zos{h:Nat->Option Ob}:∀(k:Nat) (d:D) (x:F) (rd:List Nat),frz h k d=some (x,rd)->∀id∈rd,∃ob,h id=some ob
 |0,d,x,rd,hf,_,_=>by simp[frz]at hf
 |k+1,d,x,rd,hf,id,hi=>by
  unfold frz at hf;split at hf
  .simp at hf;rw[hf.2]at hi;simp at hi
  .split at hf
   .rename_i l r hm;simp at hf;obtain⟨rfl,rfl⟩ :=hf;exact zkP (h:=h) (fun d x rd=>zos (h:=h) k d x rd) _ l r hm id hi
   .simp at hf
  .split at hf
   .rename_i l r hm;simp at hf;obtain⟨rfl,rfl⟩ :=hf;exact zkP (h:=h) (fun d x rd=>zos (h:=h) k d x rd) _ l r hm id hi
   .simp at hf
  .rename_i id' off len es lim ex;split at hf
   .rename_i es' ro els ho;split at hf
    .rename_i hc;split at hf
     .rename_i l r hm;simp at hf;obtain⟨rfl,rfl⟩ :=hf;rcases Z5.1 hi with rfl|hi
      .exact⟨_,ho⟩
      .exact zq0 (h:=h) (fun d x rd=>zos (h:=h) k d x rd) _ l r hm id hi
     .simp at hf
    .simp at hf
   .simp at hf
  .simp at hf
def zL1{h h':T Ob}{lo c:Nat}{d:D}{X:F}(H:Own h lo c d X)(hh:∀x,d.oid=some x->h'.get x=h.get x)(k:Nat):∃rd,frz h'.get (k+2) d=some (X,rd)/\∀x∈rd,x<c:=by
 rcases H.1 with rfl|⟨a,b,e,f,g,y,rfl⟩
 .exact⟨[],rfl,by simp⟩
 .cases ha:h.get a with
  |none=>
   obtain⟨rd,h1⟩ :=H.2.2.2 h (fun _ _=>rfl) k;rw[zdx,ha]at h1;cases h1
  |some ob=>
   obtain⟨rd,h1⟩ :=H.2.2.2 ((T.e:T Ob).set a ob) (fun x hx=>by
    simp only[D.oid,Z45]at hx;subst hx;rw[Vse.T.zad,if_pos rfl,ha]) k
   have hin:=zos _ _ _ _ h1;have hra:∀x∈rd,x=a:=fun x hx=>by
    obtain⟨o,ho⟩ :=hin x hx
    by_cases e:x=a
    .exact e
    .rw[Vse.T.zad,if_neg e]at ho;simp[Vse.T.zoz]at ho
   refine⟨rd,zfS _ _ _ _ h1 fun x hx=> ?_,fun x hx=> ?_⟩
   .rw[hra x hx,hh a rfl,ha,Vse.T.zad,if_pos rfl]
   .rw[hra x hx];exact (H.2.2.1 a rfl).2
def XS1(hd:List Str)(l:List CQ)(n:Nat)(s:St):Prop:=∃(P:Nat) (dH B:D) (W:List (CQ×D×D)),W.map (·.1)=zbu hd (l.take n)/\(s.tm.get 1=some (.ptr 0 2 0 0)/\s.tm.get 2=some (.ptr 1 2 0 0)/\s.tm.get 3=some (.ptr P 2 0 0)/\s.tm.get 13=some (.f (qsF l))/\s.tm.get 14=some (.f (.i .i64 l.length))/\s.tm.get 15=some (.f (.i .i64 n))/\s.h.get 0=some (.arr 2 0 [[.f (zaq hd),.f (qsF l)]])/\s.h.get 1=some (.arr 2 0 [[.f .nils,.f .nils]])/\s.h.get P=some (.arr 2 0 [[dH,B]]))/\Own s.h 2 P dH (zaq hd)/\SW s.h P s.c B W/\GZ s.h B/\P<s.c/\2<=P
def con19(hd:List Str)(l:List CQ)(hQ:QG hd l):∃q,zsd pr g19 (F.dL [.ag [zaq hd,qsF l]]) .e 0 q/\∃dH rH,frz q.h.get 12 dH=some (zaq hd,rH)/\((zbu hd l=[]/\q.d= .ag [dH,.f .nils])\/∃id m lim els r2,q.d= .ag [dH,.sl id 0 (m+1) 2 lim false]/\q.h.get id=some (.arr 2 0 els)/\els.length=m+1/\zaQ (frz q.h.get 12) els=some ((zbu hd l).map cqF,r2)/\id∉rH/\id∉r2):=by
 obtain⟨hh,hl,hg⟩ :=hQ;refine zpN (R:=fun d h' _ _=>∃dH rH,frz h'.get 12 dH=some (zaq hd,rH)/\((zbu hd l=[]/\d= .ag [dH,.f .nils])\/∃id m lim els r2,d= .ag [dH,.sl id 0 (m+1) 2 lim false]/\h'.get id=some (.arr 2 0 els)/\els.length=m+1/\zaQ (frz h'.get 12) els=some ((zbu hd l).map cqF,r2)/\id∉rH/\id∉r2)) ?_;simp only[g19,rU];have hcS:(D.f (zaq hd)).cells=some [.f (zaq hd)]:=zfL _ _;have hcQ:(D.f (qsF l)).cells=some [.f (qsF l)]:=zfL _ _;simp[rW,st0,zae,zaN,zcy,hcS,hcQ,zbN];refine zcz rfl rfl (eff51 hd (by omega)) ?_;rintro dH h' c' lw mx ⟨hf,hO⟩ hcc;simp only[rG]at hf hO hcc;have e0:=hf 0 (by omega);have e1:=hf 1 (by omega);simp[Vse.T.zad]at e0 e1;have hcd:=hO.2.1;have n0:¬(0=c'):=by omega
 have n1:¬(1=c'):=by omega
 simp[rW,e0,e1,hcd,n0,n1,zbN];refine zdi l.length (XS1 hd l) (fun x s=>x= .exit 0/\XS1 hd l l.length s) ?_ ?_ _ ?_ ?_
 .rintro n s hn ⟨P,dH,B,W,hW,⟨h1,h2,h3,h13,h14,h15,g0,g1,gP⟩,hH,hS,hZ,hPc,hP2⟩;have hw:=zao n (by omega);have hx:l[n]? =some l[n]:=Z0 hn;have hgx:=hg _ (Z1 hn);have htk:=Z6 hn;generalize hA:l[n]=A at hx hgx htk;have m0:¬(0=s.c):=by omega
  have m1:¬(1=s.c):=by omega
  have mP:¬(P=s.c):=by omega
  simp[rW,h1,h2,h3,h13,h14,h15,g0,g1,gP,hn,zdr,hx,hA,cqE,zaF,zaH,m0,m1,mP];refine zgT ?_;simp[rW,h1,h2,h3,h13,h14,h15,g0,g1,gP,m0,m1,mP];refine zuK rfl rfl (zOZ A hgx) ?_;rintro d1 H1 c1 lw1 mx1 ⟨hF1,dA,dC,rfl,hM⟩ hcc1 hmm1;simp only[rG]at hF1 hM hcc1 hmm1;have f0:=hF1 0 (by omega);have f1:=hF1 1 (by omega);have fP:=hF1 P (by omega);simp[Vse.T.zad,m0,m1,mP,g0,g1,gP]at f0 f1 fP;have hlow1:∀x,x<s.c->H1.get x=s.h.get x:=fun x hx=>by
   rw[hF1 x (by omega)];have nx:¬x=s.c:=by omega
   simp[Vse.T.zad,nx]
  have hc1:=hM.cA;simp[rW,h1,h2,h3,h13,h14,h15,f0,g0,m0,hc1.1,hc1.2,zaN];refine zuK rfl rfl (eff52 hd hh (cop A) (zvN hgx) (lo:=s.c+1) (by simp only[rG];omega) (hM.mono (Nat.le_succ _) (by simp only[rG];omega))) ?_;rintro d2 H2 c2 lw2 mx2 ⟨hF2,hres⟩ hcc2 hmm2;simp only[rG]at hF2 hcc2 hmm2 hres;have hsm:smp hd ((cop A).cs.length+1) (cop A)=zgy hd A:=rfl;rw[hsm]at hres;have k0:=hF2 0 (by omega);have k1:=hF2 1 (by omega);have kP:=hF2 P (by omega);rw[f0]at k0;rw[f1]at k1;rw[fP]at kP;have hlow2:∀x,x<s.c->H2.get x=s.h.get x:=fun x hx=>by rw[hF2 x (by omega),hlow1 x hx]
  have hsn:zbu hd (l.take (n+1))=zbu hd (l.take n)++(zgy hd A).toList:=by
   rw[htk];unfold zbu;rw[List.filterMap_append]
   congr 1
  cases hR:zgy hd A with
  |none=>
   rw[hR]at hres hsn;have hres:d2= .tu [.ag [.f .nils,.f .nils],.f (.b false)]:=hres;subst hres;obtain⟨K6,hK6⟩ :∃K6,K6=mx2+1+1+1:=⟨_,rfl⟩
   have z0:¬(0=K6):=by omega
   have z1:¬(1=K6):=by omega
   have zP:¬(P=K6):=by omega
   have zs:¬(K6=s.c):=by omega
   simp[rW,h1,h2,h3,h13,h14,h15,<-hK6,zs,hw];refine⟨by omega,by omega,P,dH,B,W,by rw[hW,hsn];simp,?_,?_,⟨?_,fun w hw=> ?_⟩,?_,?_,hP2⟩
   .simp[rW,h1,h2,h3,h13,h14,h15,z0,z1,zP,k0,k1,kP,hw]
   .refine hH.up (fun x hx=> ?_) (Z2 _) (Z2 _);have h2:=hH.2.2.1 x hx;have nx:¬(x=K6):=by omega
    simp[rW,nx];exact hlow2 x (by omega)
   .refine zaS hS.gr (by simp[rW,];omega) fun x h1 h2=> ?_
    have nx:¬(x=K6):=by omega
    simp[rW,nx];exact hlow2 x h2
   .obtain⟨w1,w2,lo,hi,w3,w4,w5,w6⟩ :=hS.rd w hw;refine⟨w1,w2,lo,hi,w3,by simp[rW,];omega,w5.up fun x h1 h2=> ?_,w6⟩;have nx:¬(x=K6):=by omega
    simp[rW,nx];exact hlow2 x (by omega)
   .intro i es ro els hi hg;have hb:=zbW hS.gr hi;have nx:¬(i=K6):=by omega
    refine hZ i es ro els hi ?_;rw[<-hg];simp[rW,nx];rw[hlow2 i (by omega)]
   .simp[rW,];omega
  |some q'=>
   rw[hR]at hres hsn;obtain⟨dA2,dC2,rfl,hM2⟩ :=hres;have hc2:=hM2.cA;obtain⟨K6,hK6⟩ :∃K6,K6=mx2+1+1+1:=⟨_,rfl⟩
   have z0:¬(0=K6):=by omega
   have z1:¬(1=K6):=by omega
   have zP:¬(P=K6):=by omega
   have zs:¬(K6=s.c):=by omega
   simp[rW,h1,h2,h3,h13,h14,h15,hc2.1,hc2.2,<-hK6,zs,zP,kP];refine⟨by omega,by omega,?_⟩;refine zOz (h:=(H2.set K6 (.arr 2 0 [[.f .nils,.f .nils]])).set K6 (.arr 2 0 [[dA2,dC2]])) ?_;rintro r hr1 hr2 hr3 ⟨rd,hr4⟩;refine⟨hr1,?_⟩;simp[rW,hr4];have hB2:∀x,B.oid=some x->P+1<=x/\x<s.c:=fun x hx=>zbW hS.gr hx
   have hWl:W.length<=1000:=by
    have h1:(W.map (·.1)).length=(zbu hd (l.take n)).length:=by rw[hW]
    have h2:(zbu hd (l.take n)).length<=(l.take n).length:=List.length_filterMap_le _ _;simp at h1 h2;omega
   have hr5:∀x,x<K6->(wrT ((H2.set K6 (.arr 2 0 [[.f .nils,.f .nils]])).set K6 (.arr 2 0 [[dA2,dC2]])) r.wr).get x=H2.get x:=fun x hx=>by
    rw[hr3 x (by omega)];have nx:¬(x=K6):=by omega
    simp[Vse.T.zad,nx]
   generalize hHr:wrT ((H2.set K6 (.arr 2 0 [[.f .nils,.f .nils]])).set K6 (.arr 2 0 [[dA2,dC2]])) r.wr=Hr at hr5|-;refine zmt (zaS (c':=r.c) hS.gr (by omega) fun x h1 h2=>by rw[hr5 x (by omega),hlow2 x h2]) (fun i es ro els hi hg=>hZ i es ro els hi (by have:=hB2 i hi;rw[<-hg,hr5 i (by omega),hlow2 i (by omega)])) (by omega) (by simp;omega) (by omega) ?_;intro r2 u1 u2 u3 u4 u5 u6;have v0:=u4 0 (by omega) (za5 hS.gr (by omega));have v1:=u4 1 (by omega) (za5 hS.gr (by omega));have vP:=u4 P (by omega) (za5 hS.gr (by omega));rw[hr5 0 (by omega),k0]at v0;rw[hr5 1 (by omega),k1]at v1;rw[hr5 P (by omega),kP]at vP;have v6:∀x,x<K6->B.oid≠some x->(wrT Hr r2.wr).get x=H2.get x:=fun x hx hb=>by rw[u4 x (by omega) hb,hr5 x hx]
   refine⟨u1,?_⟩;have y0:¬(0=P):=by omega
   have y1:¬(1=P):=by omega
   simp[rW,vP,za3 u2];obtain⟨hq',hna'⟩ :=zwW hgx hR;refine⟨by omega,P,dH,r2.d,W++[(q',dA2,dC2)],by simp[hW,hsn],?_,?_,⟨?_,fun w hw=> ?_⟩,?_,?_,hP2⟩
   .simp[rW,h1,h2,h3,h13,h14,h15,v0,v1,vP,hw,y0,y1,hHr]
   .refine hH.up (fun x hx=> ?_) (Z2 _) (Z2 _);have h2:=hH.2.2.1 x hx;have nx:¬(x=P):=by omega
    simp[rW,nx,hHr];rw[v6 x (by omega) (za5 hS.gr (by omega)),hlow2 x (by omega)]
   .rw[Z20];refine zaS u2 (by simp[rW,]) fun x h1 h2=> ?_
    have nx:¬(x=P):=by omega
    simp[rW,nx,hHr]
   .rcases Z4.1 hw with hw|hw
    .obtain⟨w1,w2,lo,hi,w3,w4,w5,w6⟩ :=hS.rd w hw;refine⟨w1,w2,lo,hi,w3,by simp[rW,];omega,w5.up fun x h1 h2=> ?_,fun x hx=> ?_⟩
     .have nx:¬(x=P):=by omega
      simp[rW,nx,hHr];rw[v6 x (by omega) (fun e=>w6 x e ⟨h1,h2⟩),hlow2 x (by omega)]
     .rcases u5 x hx with e|e
      .omega
      .exact w6 x e
    .have:w=(q',dA2,dC2):=by simpa using hw
     subst this;refine⟨hq',hna',s.c+1,mx1+1+1,by omega,by simp[rW,];omega,hM2.up fun x h1 h2=> ?_,fun x hx=> ?_⟩
     .have nx:¬(x=P):=by omega
      simp[rW,nx,hHr];exact v6 x (by omega) (fun e=>by have:=hB2 x e;omega)
     .rcases u5 x hx with e|e
      .omega
      .have:=hB2 x e;omega
   .intro i es ro els hi hg;have nx:¬(i=P):=by
     rcases u5 i hi with e|e
     .omega
     .have:=hB2 i e;omega
    refine u6 i es ro els hi ?_;rw[<-hg];simp[rW,nx,hHr]
   .simp[rW,];omega
 .rintro s ⟨P,dH,B,W,hW,⟨h1,h2,h3,h13,h14,h15,g0,g1,gP⟩,hH,hS,hZ,hPc,hP2⟩;simp[rW,h1,h2,h3,h13,h14,h15,g0,g1,gP];refine⟨P,dH,B,W,hW,?_,hH,⟨hS.gr,hS.rd⟩,hZ,hPc,hP2⟩;simp[rW,h1,h2,h3,h13,h14,h15,g0,g1,gP]
 .refine⟨c',dH,.f .nils,[],by simp[zbu],?_,?_,⟨.inl ⟨rfl,rfl⟩,by simp⟩,?_,?_,by omega⟩
  .simp[rW,e0,e1,n0,n1]
  .refine hO.up (fun x hx=> ?_) (Z2 _) (Z2 _);have:=hO.2.2.1 x hx;have nx:¬(x=c'):=by omega
   simp[rW,nx]
  .intro i es ro els hi;simp[D.oid]at hi
  .simp[rW,]
 .rintro x s ⟨rfl,P,dH,B,W,hW,⟨h1,h2,h3,h13,h14,h15,g0,g1,gP⟩,hH,hS,hZ,hPc,hP2⟩;rw[Z7]at hW;have hP1:¬(P=1):=by omega
  simp[rW,h1,h2,h3,h13,h14,h15,g0,g1,gP,hP1,za3 hS.gr,hH.2.1,zsP];have hup:∀x,x≠1->(s.h.set 1 (.arr 2 0 [[dH,B]])).get x=s.h.get x:=fun x hx=>by simp[Vse.T.zad,hx]
  have hrdU:∀w∈W,CqG w.1/\w.1.na=false/\∃lo hi,P<lo/\hi<=s.c/\MQ (s.h.set 1 (.arr 2 0 [[dH,B]])) lo hi w.2.1 w.2.2 w.1/\∀x,B.oid=some x->¬(lo<=x/\x<hi):=fun w hw=>by
   obtain⟨w1,w2,lo,hi,w3,w4,w5,w6⟩ :=hS.rd w hw;exact⟨w1,w2,lo,hi,w3,w4,w5.up fun x h1 h2=>hup x (by omega),w6⟩
  obtain⟨r2,f1,f2⟩ :=zQZ (k:=9) hrdU;have eW:(W.map fun w=>cqF w.1)=(zbu hd l).map cqF:=by rw[<-hW,Z33];rfl
  rw[eW]at f1;have hOw:∃rH,frz (s.h.set 1 (.arr 2 0 [[dH,B]])).get 12 dH=some (zaq hd,rH)/\∀x∈rH,x<P:=by
   have:=zL1 hH (h':=s.h.set 1 (.arr 2 0 [[dH,B]])) (fun x hx=>hup x (by have:=hH.2.2.1 x hx;omega)) 10;exact this
  obtain⟨rH,o1,o2⟩ :=hOw;refine⟨by omega,⟨dH,rH,o1,?_⟩,fun _ h1 h2=> ?_⟩
  .rcases hS.gr with⟨g1,g2⟩ |⟨id,ro,g1,g2,g3,g4,g5,g6⟩
   .refine .inl ⟨?_,rfl,g1⟩;have:W=[]:=by simpa using g2
    rw[<-hW,this];rfl
   .have hz:=hZ id 2 ro _ (by rw[g1];rfl) g3;subst hz;have hn:¬(id=1):=by omega
    have hWn:W.length≠0:=by simpa using g2
    refine .inr ⟨id,W.length - 1,⟨rfl,W.length - 1+1,?_⟩,_,by rw[if_neg hn];exact g3,by simp;omega,r2,f1,fun hm=>by have:=o2 id hm;omega,fun hm=>f2 id hm (by rw[g1];rfl)⟩;rw[g1,Z18,show W.length - 1+1=W.length by omega]
  .rcases hS.gr with⟨g1,g2⟩ |⟨id,ro,g1,g2,g3,g4,g5,g6⟩
   .obtain⟨k1,rfl⟩ :=zL2 hH h1;refine⟨_,⟨_,rfl⟩,?_,rfl,g1⟩;have:W=[]:=by simpa using g2
    rw[<-hW,this];rfl
   .rw[g1]at h2;cases h2
def zOJ{args:List D}{h:T Ob}{n:Nat}{hd:List Str}{l:List CQ}{rd:List Nat}(hQ:QG hd l)(hz:zcp h.get args=some ([.ag [zaq hd,qsF l]],rd))(hrd:∀x∈rd,x<n):∃q,zdG Tryz.prog 19 args h n q/\SpS args h n q:=by
 obtain⟨q,hq,dH,rH,hH,hr⟩ :=con19 hd l hQ;have hc:=zdG.zp5 ztB Tryz.func19 (by decide) c19 hq;refine⟨_,?_,hd,l,rd,hz,hrd,hQ,rfl⟩;rcases hr with⟨e,hdq⟩ |⟨id,m,lim,els,r2,hdq,ho,hl,hf,h1,h2⟩
 .rw[e];exact hc.thaw0 hz hrd hdq hH
 .exact hc.thaw hz hrd hdq hH ho hl hf ⟨h1,h2⟩
def zjK{es:Nat}{l m:List (List F)}(h:slc es l=slc es m):l=m:=by
 cases l<;>cases m<;>simp_all [slc]
theorem ziB{α β:Type}{f:α->β}(hf:∀a b,f a=f b->a=b):∀{l m:List α},l.map f=m.map f->l=m
 |[],[],_=>rfl
 |[],_::_,h=>by simp at h
 |_::_,[],h=>by simp at h
 |a::l,b::m,h=>by
  simp only[Z10,List.cons.injEq]at h;rw[hf a b h.1,ziB hf h.2]
def zqh(a b:Trm)(h:tmF a=tmF b):a=b:=by
 cases a<;>cases b<;>simp_all [tmF]
def zxc(a:Trm):(tmF a).length=4:=by cases a<;>rfl
def zKK(a b:Cm)(h:cmF a=cmF b):a=b:=by
 obtain⟨o,l,r⟩ :=a;obtain⟨o2,l2,r2⟩ :=b;simp only[cmF,List.cons.injEq,F.i.injEq,true_and]at h;have h2:=List.append_inj h.2 (by rw[zxc,zxc]);rw[h.1,zqh _ _ h2.1,zqh _ _ h2.2]
def zKw(a b:Atm)(h:atF a=atF b):a=b:=by
 obtain⟨r,n,ts⟩ :=a;obtain⟨r2,n2,ts2⟩ :=b;simp only[atF,List.cons.injEq,F.s.injEq,F.b.injEq,and_true]at h;rw[h.1,h.2.1,ziB zqh (zjK h.2.2)]
def zC0{a b:List Str}(h:zaq a=zaq b):a=b:=ziB (fun x y h=>by simpa using h) (zjK h)
def Lk(a b:CQ):Prop:=a.as=b.as/\a.cs=b.cs/\(a.cs=[]->a.ne=b.ne)/\(a.as=[]->a.na=b.na)
def lk_of{a b:CQ}(h:cqF a=cqF b):Lk a b:=by
 simp only[cqE,List.cons.injEq,and_true]at h;obtain⟨h1,h2⟩ :=h;have e1:a.as=b.as:=by
  unfold zaB Sm.asF at h1;split at h1<;>split at h1
  .rename_i x y;rw[x.2,y.2]
  .rename_i x y;cases hb:b.as with
   |nil=>exact x.2
   |cons z l=>rw[hb]at h1;simp[slc]at h1
  .rename_i x y;cases hb:a.as with
   |nil=>exact y.2.symm
   |cons z l=>rw[hb]at h1;simp[slc]at h1
  .exact ziB zKw (zjK h1)
 have e2:a.cs=b.cs:=by
  unfold zaC csF at h2;split at h2<;>split at h2
  .rename_i x y;rw[x.2,y.2]
  .rename_i x y;cases hb:b.cs with
   |nil=>exact x.2
   |cons z l=>rw[hb]at h2;simp[slc]at h2
  .rename_i x y;cases hb:a.cs with
   |nil=>exact y.2.symm
   |cons z l=>rw[hb]at h2;simp[slc]at h2
  .exact ziB zKK (zjK h2)
 refine⟨e1,e2,fun e=> ?_,fun e=> ?_⟩
 .unfold zaC csF at h2;rw[<-e2,e]at h2;cases ha:a.ne<;>cases hb:b.ne<;>simp[ha,hb,slc]at h2|-
 .unfold zaB Sm.asF at h1;rw[<-e1,e]at h1;cases ha:a.na<;>cases hb:b.na<;>simp[ha,hb,slc]at h1|-
def lk_F{a b:CQ}(h:Lk a b):cqF a=cqF b:=by
 obtain⟨h1,h2,h3,h4⟩ :=h;simp only[cqE,List.cons.injEq,and_true];constructor
 .unfold zaB Sm.asF;rw[<-h1]
  by_cases e:a.as=[]
  .rw[h4 e]
  .rw[if_neg fun x=>e x.2,if_neg fun x=>e x.2]
 .unfold zaC csF;rw[<-h2]
  by_cases e:a.cs=[]
  .rw[h3 e]
  .rw[if_neg fun x=>e x.2,if_neg fun x=>e x.2]
def zPC{hd:List Str}(n:Nat){a b:CQ}(h1:a.as=b.as)(h2:a.cs=b.cs)(h3:a.cs=[]->a.ne=b.ne)(h4:a.na=b.na):(smp hd n a).map cqF=(smp hd n b).map cqF:=by
 cases n with
 |zero=>rfl
 |succ n=>
  have ed:∀i,drp a i=drp b i:=fun i=>by unfold drp;rw[h1,h2,h4]
  unfold smp;rw[<-h2];split
  .rfl
  .split
   .rename_i i hi;rw[ed i]
   .split
    .rename_i i hi;rw[ed i]
    .simp only[Option.map_some];rw[lk_F ⟨h1,h2,h3,fun _=>h4⟩]
theorem zCG{hd:List Str}:∀{l m:List CQ},l.map cqF=m.map cqF->(zbu hd l).map cqF=(zbu hd m).map cqF
 |[],[],_=>rfl
 |[],_::_,h=>by simp at h
 |_::_,[],h=>by simp at h
 |a::l,b::m,h=>by
  simp only[Z10,List.cons.injEq]at h;have ih:=zCG (hd:=hd) h.2;obtain⟨k1,k2,k3,-⟩ :=lk_of h.1;have hs:(zgy hd a).map cqF=(zgy hd b).map cqF:=by
   unfold zgy;rw[<-k2];exact zPC (a:=cop a) (b:=cop b) _ k1 k2 k3 rfl
  unfold zbu at ih|-;rw[List.filterMap_cons,List.filterMap_cons];cases ha:zgy hd a<;>cases hb:zgy hd b<;>simp_all
def zEc{f:Nat}{args:List D}{h:T Ob}{c:Nat}{q:CR}(hq:Con pr f args h c q):c<=q.c/\q.c<=q.mx:=zbi _ _ _ _ _ hq
theorem zHH{args:List D}{h:T Ob}{n:Nat}{hd:List Str}{l:List CQ}{rd:List Nat}(hQ:QG hd l)(hz:zcp h.get args=some ([.ag [zaq hd,qsF l]],rd))(hrd:∀x∈rd,x<n):
  Eff pr 19 args h n fun d h' c'=>(zbu hd l=[]/\d= .ag [.f (zaq hd),.f .nils]/\h'=wrT h (zax h.get rd)/\c'=n)\/(zbu hd l≠[]/\d= .ag [.f (zaq hd),.sl n 0 (zbu hd l).length 2 (zbu hd l).length false]/\h'=(wrT h (zax h.get rd)).set n (.arr 2 0 (fD ((zbu hd l).map cqF)))/\c'=n+1):=by
 obtain⟨q,hq,hd',l',rd',hz',-,hQ',e⟩ :=exq19 (zOJ hQ hz hrd);rw[hz]at hz';simp only[Z45,Prod.mk.injEq,List.cons.injEq,F.ag.injEq,and_true]at hz';obtain⟨⟨h1,h2⟩,rfl⟩ :=hz';have hhd:=zC0 h1;subst hhd;have hl:=zCG (hd:=hd) (zjK h2);rw[<-hl]at e;have hle:=(zEc hq)
 cases hs:zbu hd l with
 |nil=>
  rw[hs]at e;simp only[List.map_nil,zi6]at e;subst e;exact⟨_,hq,.inl ⟨rfl,rfl,rfl,rfl⟩,hle.1,hle.2⟩
 |cons a m=>
  rw[hs]at e;simp only[Z10,zi6,Z18]at e;subst e;exact⟨_,hq,.inr ⟨by simp,by simp,rfl,rfl⟩,hle.1,hle.2⟩
def XQ(hp0:T Ob)(x:F)(hd:List Str)(L:List CQ)(P:Nat)(s:St):Prop:=∃d dh,(s.tm.get 0=some (.f x)/\s.tm.get 2=some (.ptr 1 2 0 0)/\s.tm.get 3=some (.ptr 2 2 0 0)/\s.h.get 1=some (.arr 2 0 [[.f .nils,.f .nils]])/\s.h.get 2=some (.arr 2 0 [[dh,d]]))/\3<=P/\P<=s.c/\Own s.h 3 P dh (zaq hd)/\Gro s.h P s.c 2 d (zdQ L)/\GZ s.h d/\s.h.get 0=hp0.get 0
def zyQ{hp0:T Ob}{x:F}(hx:zg4 x){z:Nat->Nat}(hz:∀i,i<1000->z i<100000/\Ans pr 55 [x,.i .i64 i] (.i .i64 (z i))){cf:Nat->CQ}{S:Nat}(hS:0<S/\S<=24)(hcf:∀i,∃p,paL[z (2+i)%S]? =some [.s p]/\Ans pr 57 [.s p,.i .i64 (z (4+i))] (.ag (cqF (cf i)))){hd:List Str}{P:Nat}{Q:Ex->St->Prop}(s:St)(h:XQ hp0 x hd [] P s)(h5:s.tm.get 5=some (.f (.sl 1 paL))/\s.tm.get 6=some (.f (.i .i64 S))/\s.tm.get 7=some (.f (.i .i64 0)))(hQ:∀s,XQ hp0 x hd ((List.range (z 1%2+1)).map cf) P s->Q (.exit 1) s):WL pr b12 s Q:=by
 have h36:Ans pr 55 [x,.i .i64 1] (.i .i64 (z 1)):=(hz 1 (by omega)).2;have q36:=fun k=>zaj (k:=k) h36
 have hrem:=zhq (z 1) 2 (by omega);rw[show((2:Nat):Int)=2 from rfl]at hrem;have hm:z 1%2<2:=Nat.mod_lt _ (by omega);generalize z 1%2=m at hrem hm hQ;refine zfE (fun k s=>∃n:Nat,(k=m+1 - n/\n<=m+1)/\XQ hp0 x hd ((List.range n).map cf) P s/\s.tm.get 5=some (.f (.sl 1 paL))/\s.tm.get 6=some (.f (.i .i64 S))/\s.tm.get 7=some (.f (.i .i64 n))) (fun e s=>e= .exit 1/\XQ hp0 x hd ((List.range (m+1)).map cf) P s) ?_ (m+1) _ ⟨0,⟨rfl,by omega⟩,h,h5⟩ (by rintro e s ⟨rfl,h⟩;exact hQ s h);clear h h5 hQ s;rintro k s ⟨n,⟨rfl,hn⟩,⟨d,dh,⟨h0,h2,h3,g1,g2⟩,hP,hPc,hO,hg,hgz,e00⟩,h5,h6,h7⟩;unfold b12;simp only[rU]
 by_cases hle:n<=m
 .have h36n:=(hz (2+n) (by omega)).2;rw[Int.natCast_add,show((2:Nat):Int)=2 from rfl]at h36n;have q36n:=fun k=>zaj (k:=k) h36n
  have h36m:=(hz (4+n) (by omega)).2;rw[Int.natCast_add,show((4:Nat):Int)=4 from rfl]at h36m;have q36m:=fun k=>zaj (k:=k) h36m
  obtain⟨p,hp,h38⟩ :=hcf n;have hrem2:=zhq (z (2+n)) S (by omega);have hpl:paL.length=24:=rfl;have hj:z (2+n)%S<24:=Z15 (Nat.mod_lt _ hS.1) hS.2;have hni:¬((S:Int)=0):=by omega
  have hn0:¬(S=0):=by omega
  generalize z (2+n)%S=j at*;have hp2:∀h:j<paL.length,paL[j]=[.s p]:=fun h=>by
   rw[Z0 h]at hp;exact Option.some.inj hp
  have q38:=fun k=>zaj (k:=k) h38
  have hw:=zao n (by omega);have hw2:IntKind.i64.wrap (2+(n:Int))=2+(n:Int):=wrap_i64 _ (by omega) (by omega);have hw4:IntKind.i64.wrap (4+(n:Int))=4+(n:Int):=wrap_i64 _ (by omega) (by omega);simp only[cqE]at q38;simp[rW,h0,h2,h3,h5,h6,h7,g1,g2,q36,hrem,hle];refine zaL ?_;simp[rW,h0,h2,h3,h5,h6,h7,g1,g2,hw2,hw4,q36n,q36m,hni,hn0,hrem2,hp,hpl,hp2,hj,q38,cqE,zaF,zaH];refine zmt (zaS hg (by omega) fun _ _ _=>rfl) hgz (by omega) (by rw[zhb];simp;omega) (by omega) ?_;intro r hr1 hr2 hr3 hr4 hr5 hr6;have e9:=hr4 0 (by omega) (za5 hg (by omega));have e0:=hr4 1 (by omega) (za5 hg (by omega));have e1:=hr4 2 (by omega) (za5 hg (by omega));rw[g1]at e0;rw[g2]at e1;rw[e00]at e9;refine⟨hr1,?_⟩;simp[rW,e1,za3 hr2];rw[zdk];refine⟨by omega,m+1 - (n+1),by omega,n+1,⟨rfl,by omega⟩,⟨r.d,dh,?_,hP,?_,?_,?_,?_,?_⟩,?_⟩
  .simp[rW,h0,h2,h3,e0,e1]
  .simp[rW,];omega
  .refine hO.up (fun y hy=> ?_) (Z2 _) (Z2 _);have hy2:=hO.2.2.1 y hy;have e:=hr4 y (by omega) (za5 hg (by omega));have ny:¬(y=2):=by omega
   simp[rW,ny,e]
  .rw[zzh,zqL];refine zaS hr2 (by simp[rW,];omega) fun y h1 h2=> ?_
   have ny:¬(y=2):=by omega
   simp[rW,ny]
  .intro i es ro els h1 h2;have hi2:¬(i=2):=by
    intro e;subst e;exact za5 hr2 (show 2<P by omega) h1
   simp[rW,hi2]at h2;exact hr6 i es ro els h1 h2
  .simp[rW,e9]
  .simp[rW,h5,h6,hw]
 .have e:n=m+1:=by omega
  subst e;have hl:¬((m:Int)+1<=m):=by omega
  simp[rW,h0,h2,h3,h5,h6,h7,g1,g2,q36,hrem,hl];refine⟨d,dh,?_,hP,?_,?_,?_,?_,?_⟩
  .simp[rW,h0,h2,h3,g1,g2]
  .simp[rW,];exact hPc
  .simp[rW,];exact hO
  .simp[rW,];exact hg
  .simp[rW,];exact hgz
  .simp[rW,];exact e00
def zyc{hp0:T Ob}{x:F}{hd:List Str}{L:List CQ}{P:Nat}{s:St}(h:XQ hp0 x hd L P s):∃d dh,(s.tm.get 2=some (.ptr 1 2 0 0)/\s.tm.get 3=some (.ptr 2 2 0 0)/\s.h.get 1=some (.arr 2 0 [[.f .nils,.f .nils]])/\s.h.get 2=some (.arr 2 0 [[dh,d]]))/\d.cells=some [d]/\dh.cells=some [dh]/\(∀x,dh.oid=some x->d.oid≠some x)/\3<=s.c/\∀H:T Ob,(∀y,y≠1->H.get y=s.h.get y)->∀c',s.c<=c'->Own H 1 c' dh (zaq hd)/\Gro H 1 c' 2 d (zdQ L)/\GZ H d/\H.get 0=hp0.get 0:=by
 obtain⟨d,dh,⟨h0,h2,h3,g1,g2⟩,hP,hPc,hO,hg,hz,e00⟩ :=h;refine⟨d,dh,⟨h2,h3,g1,g2⟩,za3 hg,hO.2.1,(fun x h1 h2=>by have:=hO.2.2.1 x h1;have:=zbW hg h2;omega),by omega,fun H hH c' hc=>⟨hO.up (fun y hy=>hH y (by have:=hO.2.2.1 y hy;omega)) (by omega) (by omega),?_,?_,by rw[hH 0 (by omega)];exact e00⟩⟩
 .rcases hg with h|⟨id,ro,h1,h2,h3,h4,h5,h6⟩
  .exact .inl h
  .exact .inr ⟨id,ro,h1,h2,by rw[hH id (by omega)];exact h3,h4,by omega,by omega⟩
 .intro i es ro els h1 h2;have:=zbW hg h1;rw[hH i (by omega)]at h2;exact hz i es ro els h1 h2
def zo1{h h':T Ob}{lo lo' c c':Nat}{d:D}{X:F}(H:Own h lo c d X)(hd:d.isF=true):Own h' lo' c' d X:=by
 obtain⟨h1,h2,h3,h4⟩ :=H;rcases h1 with rfl|⟨a,b,e,f,g,x,rfl⟩
 .exact⟨.inl rfl,h2,fun x hx=>by simp[D.oid]at hx,fun h'' _ k=>⟨[],rfl⟩⟩
 .cases hd
def zoC{h h':T Ob}{lo lo' c c' es:Nat}{d:D}{els:List (List D)}(H:Gro h lo c es d els)(hd:d.isF=true):Gro h' lo' c' es d els:=by
 rcases H with H|⟨id,ro,rfl,-⟩
 .exact .inl H
 .cases hd
def zrY{h h':T Ob}{lo c es:Nat}{d:D}{els:List (List D)}(H:Gro h lo c es d els)(hd:d.isF=true):GZ h' d:=by
 rcases H with⟨rfl,-⟩ |⟨id,ro,rfl,-⟩
 .intro i es ro els h;simp[D.oid]at h
 .cases hd
def eff23{x:F}(hx:zg4 x){hp0:T Ob}:∃hd l,hd.length<10/\QN l/\Eff pr 23 [.f x] hp0 1 fun d h' c'=>h'.get 0=hp0.get 0/\∃dh dl,d= .ag [dh,dl]/\Own h' 1 c' dh (zaq hd)/\Gro h' 1 c' 2 dl (zdQ l)/\GZ h' dl/\∀x,dh.oid=some x->dl.oid≠some x:=by
 obtain⟨z,hz⟩ :=atZ hx;have h0:Ans pr 55 [x,.i .i64 0] (.i .i64 (z 0)):=(hz 0 (by omega)).2;have q0:=fun k=>zaj (k:=k) h0
 have q37:=fun k=>zaj (k:=k) zGK
 have hpl:paL.length=24:=rfl;have hrem:=zhq (z 0) 4 (by omega);rw[show((4:Nat):Int)=4 from rfl]at hrem;have hr4:z 0%4<4:=Nat.mod_lt _ (by omega);generalize z 0%4=r at hrem hr4;obtain⟨cf,hcf⟩ :=Classical.skolem.1 fun i=>pick rdA (j:=z (2+i)%(if r=3 then 9 else 24)) (by rw[hpl];split<;>omega) (z (4+i))
 have hm:z 1%2<2:=Nat.mod_lt _ (by omega);have hc2:(D.f x).cells=some [.f x]:=by rcases hx with rfl|⟨zs,rfl⟩ <;>rfl
 have hQN:QN ((List.range (z 1%2+1)).map cf):=⟨by simp,by simp;omega,clF (fun i=>(hcf i).1) _⟩
 have hcf:=fun i=>(hcf i).2
 obtain rfl|rfl|rfl|rfl:r=0\/r=1\/r=2\/r=3:=by omega
 .refine⟨[],_,by decide,hQN,zci zbi zyg ?_⟩;simp only[g23,rU];simp[rW,st0,zae,zmw hx,q0,q37,hrem,hpl,hc2];refine zyQ hx hz (by decide) hcf (hp0:=hp0) (P:=3) (hd:=[]) _ ⟨.f .nils,.f .nils,?_,by omega,?_,zij (rows:=[]) (.inl ⟨rfl,rfl⟩),.inl ⟨rfl,rfl⟩,(fun i es ro els h=>by simp[D.oid]at h),?_⟩ ?_ fun s h=> ?_
  .simp[rW,]
  .simp[rW,]
  .simp[rW,]
  .simp[rW,hpl]
  .obtain⟨d,dh,⟨h2,h3,g1,g2⟩,c1,c2,c3,hc,hgz⟩ :=zyc h;simp[rW,h2,h3,g1,g2,c1,c2,zbl];obtain⟨o1,o2,o3,o4⟩ :=hgz (s.h.set 1 (.arr 2 0 [[dh,d]])) (fun y hy=>by simp[Vse.T.zad,hy]) s.c (Z2 _);have o5:s.h.get 0=hp0.get 0:=by rw[<-o4];simp[Vse.T.zad]
   exact⟨by omega,⟨o5,dh,d,⟨rfl,rfl⟩,o1,o2,o3,c3⟩,fun _ f1 f2=>⟨dh,d,⟨rfl,rfl⟩,zo1 o1 f1,zoC o2 f2,zrY o2 f2,c3⟩⟩
 .refine⟨[[120]],_,by decide,hQN,zci zbi zyg ?_⟩;simp only[g23,rU];simp[rW,st0,zae,zmw hx,q0,q37,hrem,hpl,hc2];refine zyQ hx hz (by decide) hcf (hp0:=hp0) (P:=4) (hd:=[[120]]) _ ⟨.f .nils,.sl 3 0 1 1 1 true,?_,by omega,?_,zqb (l:=[[120]]) (by simp) (by simp[rW,zaT]) (by omega) (by omega),.inl ⟨rfl,rfl⟩,(fun i es ro els h=>by simp[D.oid]at h),?_⟩ ?_ fun s h=> ?_
  .simp[rW,]
  .simp[rW,]
  .simp[rW,]
  .simp[rW,hpl]
  .obtain⟨d,dh,⟨h2,h3,g1,g2⟩,c1,c2,c3,hc,hgz⟩ :=zyc h;simp[rW,h2,h3,g1,g2,c1,c2,zbl];obtain⟨o1,o2,o3,o4⟩ :=hgz (s.h.set 1 (.arr 2 0 [[dh,d]])) (fun y hy=>by simp[Vse.T.zad,hy]) s.c (Z2 _);have o5:s.h.get 0=hp0.get 0:=by rw[<-o4];simp[Vse.T.zad]
   exact⟨by omega,⟨o5,dh,d,⟨rfl,rfl⟩,o1,o2,o3,c3⟩,fun _ f1 f2=>⟨dh,d,⟨rfl,rfl⟩,zo1 o1 f1,zoC o2 f2,zrY o2 f2,c3⟩⟩
 .refine⟨[[120]],_,by decide,hQN,zci zbi zyg ?_⟩;simp only[g23,rU];simp[rW,st0,zae,zmw hx,q0,q37,hrem,hpl,hc2];refine zyQ hx hz (by decide) hcf (hp0:=hp0) (P:=4) (hd:=[[120]]) _ ⟨.f .nils,.sl 3 0 1 1 1 true,?_,by omega,?_,zqb (l:=[[120]]) (by simp) (by simp[rW,zaT]) (by omega) (by omega),.inl ⟨rfl,rfl⟩,(fun i es ro els h=>by simp[D.oid]at h),?_⟩ ?_ fun s h=> ?_
  .simp[rW,]
  .simp[rW,]
  .simp[rW,]
  .simp[rW,hpl]
  .obtain⟨d,dh,⟨h2,h3,g1,g2⟩,c1,c2,c3,hc,hgz⟩ :=zyc h;simp[rW,h2,h3,g1,g2,c1,c2,zbl];obtain⟨o1,o2,o3,o4⟩ :=hgz (s.h.set 1 (.arr 2 0 [[dh,d]])) (fun y hy=>by simp[Vse.T.zad,hy]) s.c (Z2 _);have o5:s.h.get 0=hp0.get 0:=by rw[<-o4];simp[Vse.T.zad]
   exact⟨by omega,⟨o5,dh,d,⟨rfl,rfl⟩,o1,o2,o3,c3⟩,fun _ f1 f2=>⟨dh,d,⟨rfl,rfl⟩,zo1 o1 f1,zoC o2 f2,zrY o2 f2,c3⟩⟩
 .refine⟨[[121],[120]],_,by decide,hQN,zci zbi zyg ?_⟩;simp only[g23,rU];simp[rW,st0,zae,zmw hx,q0,q37,hrem,hpl,hc2];refine zyQ hx hz (by decide) hcf (hp0:=hp0) (P:=4) (hd:=[[121],[120]]) _ ⟨.f .nils,.sl 3 0 2 1 2 true,?_,by omega,?_,zqb (l:=[[121],[120]]) (by simp) (by simp[rW,zaT]) (by omega) (by omega),.inl ⟨rfl,rfl⟩,(fun i es ro els h=>by simp[D.oid]at h),?_⟩ ?_ fun s h=> ?_
  .simp[rW,]
  .simp[rW,]
  .simp[rW,]
  .simp[rW,hpl]
  .obtain⟨d,dh,⟨h2,h3,g1,g2⟩,c1,c2,c3,hc,hgz⟩ :=zyc h;simp[rW,h2,h3,g1,g2,c1,c2,zbl];obtain⟨o1,o2,o3,o4⟩ :=hgz (s.h.set 1 (.arr 2 0 [[dh,d]])) (fun y hy=>by simp[Vse.T.zad,hy]) s.c (Z2 _);have o5:s.h.get 0=hp0.get 0:=by rw[<-o4];simp[Vse.T.zad]
   exact⟨by omega,⟨o5,dh,d,⟨rfl,rfl⟩,o1,o2,o3,c3⟩,fun _ f1 f2=>⟨dh,d,⟨rfl,rfl⟩,zo1 o1 f1,zoC o2 f2,zrY o2 f2,c3⟩⟩
end Go.Proofs.YtmnkdfjljkhneaaGreat
end
