/- The reference: Rank. -/
import Derived.Test.YtmnkdfjljkhneaaGreatPm
import Derived.KernelRfl
import Derived.IntWalk
set_option linter.all false
set_option maxRecDepth 100000
set_option maxHeartbeats 4000000
section
namespace Go.Proofs.YtmnkdfjljkhneaaGreat
open Go Go.Vse Go.Vse.Sm
def fn14:pr.fn 14=some g14:=by kernel_rfl
def zjh(c:CQ)(x y:Str):List CQ:=[add1 c ⟨3,.var x,.var y⟩,mpC (sbT y (.var x)) c,add1 c ⟨3,.var y,.var x⟩]
def rkR(hd:List Str)(l:List CQ):Option (Nat×List CQ):=match nrS hd l with
 |some p=>match l[p.1]? with
  |some c=>some (p.1,zjh c p.2.1 p.2.2)
  |none=>none
 |none=>none
def ztt{hd:List Str}{l:List CQ}{i:Nat}{x y:Str}(h:nrS hd l=some (i,x,y)):∃hi:i<l.length,nrQ hd l[i]=some (x,y)/\x≠[]/\y≠[]:=by
 unfold nrS at h;split at h
 .rename_i j hj;obtain⟨hjl,-⟩ :=zej hj;rw[Z0 hjl]at h;simp only[Option.map_eq_some_iff]at h;obtain⟨p,h1,h2⟩ :=h;cases h2;refine⟨hjl,h1,?_⟩;unfold nrQ nrN at h1;obtain⟨k,hk,h1⟩ :=List.exists_of_findSome?_eq_some h1;unfold nrF at h1;split at h1
  .rename_i z hz;simp only[Option.map_eq_some_iff]at h1;obtain⟨t,h4,h3⟩ :=h1;cases h3;exact⟨zhO _ _ (Z39 hz),zhO _ _ (Z21 (List.mem_of_find?_eq_some h4))⟩
  .cases h1
 .cases h
def zFb{hd:List Str}{l:List CQ}(h:rkR hd l=none):nrS hd l=none:=by
 unfold rkR at h;cases hn:nrS hd l with
 |none=>rfl
 |some p=>
  obtain⟨i,s,v⟩ :=p;obtain⟨hi,-⟩ :=ztt hn;rw[hn]at h;simp only[Z0 hi]at h;cases h
def ztM{hd:List Str}{l L:List CQ}{i:Nat}(h:rkR hd l=some (i,L)):∃(hi:i<l.length) (x y:Str),nrS hd l=some (i,x,y)/\x≠[]/\y≠[]/\L=zjh l[i] x y:=by
 unfold rkR at h;cases hn:nrS hd l with
 |none=>rw[hn]at h;cases h
 |some p=>
  obtain⟨j,x,y⟩ :=p;obtain⟨hj,-,hx,hy⟩ :=ztt hn;rw[hn]at h;simp only[Z0 hj]at h;cases h;exact⟨hj,x,y,rfl,hx,hy,rfl⟩
def ans14(hd:List Str)(l0:List CQ)(hQ0:QG hd l0){k:Nat}{r:Option (List CQ)}(hR:RrN hd (rkR hd) k (zew hd l0) r):Ans pr 14 [.ag [zaq hd,qsF l0]] (rwF hd r):=by
 refine zbd fn14 ?_;simp only[g14,rU];have q20:=fun f=>zaj (k:=f) (znZ hd l0 hQ0)
 generalize zew hd l0=m0 at hR q20;simp[rW,st0,zae,zaN,zcy,zcC,q20];refine zfE (TI hd (rkR hd) r) (TR hd r) ?_ k _ ?_ ?_
 .rintro k s ⟨l,hR,⟨h1,h2,g0,g1⟩,hlo⟩;have l1:1<s.c:=by omega
  have l0:0<s.c:=by omega
  have ls:1<s.c+1:=by omega
  have n0:¬(0=s.c):=by omega
  have n1:¬(1=s.c):=by omega
  have n0':¬(0=s.c+1):=by omega
  have n1':¬(1=s.c+1):=by omega
  have n0'':¬(0=s.c+1+1):=by omega
  have n1'':¬(1=s.c+1+1):=by omega
  have n3:¬(s.c=0):=by omega
  have m0:¬(s.c=s.c+1):=by omega
  have m1:¬(s.c=s.c+1+1):=by omega
  have m2:¬(s.c+1=s.c+1+1):=by omega
  cases hR with
  |big hQ hb=>
   have hb':(64:Int)<l.length:=by omega
   simp -implicitDefEqProofs [rW,h1,h2,g0,g1,zbN,hb',l1];refine⟨rfl,?_,?_⟩
   .simp -implicitDefEqProofs [rW,h2,rwC,rwE]
   .simp[rW,];exact hlo
  |stop hQ hb hs=>
   have hb':¬(64:Int)<l.length:=by omega
   have q35:=fun f=>zaj (k:=f) (zxP hd l hQ)
   rw[zFb hs,nrR]at q35;simp -implicitDefEqProofs [rW,h1,h2,g0,g1,zbN,hb',l1,q35,zaN,zcy,n0,n1,ls];refine⟨rfl,?_,?_⟩
   .simp -implicitDefEqProofs [rW,h2,rwC,rwE,n1]
   .simp[rW,];omega
  | @too _ _ i L hQ hb hs hi hL2 hL3 h4=>
   obtain⟨hi',x,y,hn,hx0,hy0,rfl⟩ :=ztM hs;have hb':¬(64:Int)<l.length:=by omega
   have q35:=fun f=>zaj (k:=f) (zxP hd l hQ)
   rw[hn,nrR]at q35;have hGA:=hQ.2.2 _ (Z1 hi);have q9:=fun f=>zaj (k:=f) (zn0 l[i] ⟨3,.var x,.var y⟩ hGA.toCqSm)
   have q9b:=fun f=>zaj (k:=f) (zn0 l[i] ⟨3,.var y,.var x⟩ hGA.toCqSm)
   have q9c:=fun f=>zaj (k:=f) (zGJ l[i] y x hy0 hx0 hGA)
   have q36:=fun f=>zaj (k:=f) (zrL hd l (zjh l[i] x y) i hi hQ.2.1 hL2 hL3)
   have hx:l[i]? =some l[i]:=Z0 hi;have hb2:(64:Int)< (rp l i (zjh l[i] x y)).length:=by omega
   generalize hA:l[i]=A at*;have e3:qsF (zjh A x y)= .sl 2 [[zaB (add1 A ⟨3,.var x,.var y⟩),zaC (add1 A ⟨3,.var x,.var y⟩)],[zaB (mpC (sbT y (.var x)) A),zaC (mpC (sbT y (.var x)) A)],[zaB (add1 A ⟨3,.var y,.var x⟩),zaC (add1 A ⟨3,.var y,.var x⟩)]]:=rfl;rw[e3]at q36;simp only[cqE,tmF]at q9 q9b q9c;simp -implicitDefEqProofs [rW,h1,h2,g0,g1,zbN,hb',l1,q35,zaN,zcy,n0,n1,ls,hi,zdr,hx,hA,cqE,zaF,zaH,m0,m1,m2];refine ziK (fun S=>s.c+1+1<S.c/\(S.tm.get 1=some (.ptr 0 2 0 0)/\S.tm.get 2=some (.ptr 1 2 0 0)/\S.tm.get 4=some (.f (.i .i64 i))/\S.tm.get 5=some (.f (.s x))/\S.tm.get 6=some (.f (.s y))/\S.tm.get 8=some (.ptr s.c 2 0 0)/\S.tm.get 9=some (.ptr (s.c+1) 4 0 0)/\S.tm.get 10=some (.ptr (s.c+1+1) 4 0 0)/\S.h.get 0=some (.arr 2 0 [[.f (zaq hd),.f (qsF l)]])/\S.h.get 1=some (.arr 2 0 [[.f .nils,.f .nils]]))/\S.h.get s.c=some (.arr 2 0 [[.f (zaB A),.f (zaC A)]])/\S.h.get (s.c+1)=some (.arr 4 0 [[.f (.s x),.f (.i .i64 0),.f (.i .i64 0),.f (.s [])]])/\S.h.get (s.c+1+1)=some (.arr 4 0 [[.f (.s y),.f (.i .i64 0),.f (.i .i64 0),.f (.s [])]])) ⟨?_,?_,?_,?_,?_⟩ ?_
   .simp[rW,]
   .simp -implicitDefEqProofs [rW,h1,h2,g0,g1,n0,n1,n0',n1',n0'',n1'',n3]
   .simp[rW,m0,m1]
   .simp[rW,m2]
   .simp[rW,]
   clear h1 h2 g0 g1;rintro S ⟨hSc,⟨h1,h2,h4,h5,h6,h8,h9,h10,g0,g1⟩,gs,gs1,gs2⟩;have l1':1<S.c:=by omega
   have l0':0<S.c:=by omega
   refine zaL ?_;simp -implicitDefEqProofs [rW,h1,h2,h4,h5,h6,h8,h9,h10,g0,g1,gs,gs1,gs2,zbN,l1',l0',zaN,zcy,zcC,hi,zdr,hx,hA,cqE,zaF,zaH,q9,q9b,q9c,q36,hb2];refine⟨rfl,?_,?_⟩
   .simp -implicitDefEqProofs [rW,h2,rwC,rwE]
   .simp[rW,]<;>omega
  | @go k' _ i L _ hQ hb hs hi hL2 hL3 h4 hG hR=>
   obtain⟨hi',x,y,hn,hx0,hy0,rfl⟩ :=ztM hs;have hb':¬(64:Int)<l.length:=by omega
   have q35:=fun f=>zaj (k:=f) (zxP hd l hQ)
   rw[hn,nrR]at q35;have hGA:=hQ.2.2 _ (Z1 hi);have q9:=fun f=>zaj (k:=f) (zn0 l[i] ⟨3,.var x,.var y⟩ hGA.toCqSm)
   have q9b:=fun f=>zaj (k:=f) (zn0 l[i] ⟨3,.var y,.var x⟩ hGA.toCqSm)
   have q9c:=fun f=>zaj (k:=f) (zGJ l[i] y x hy0 hx0 hGA)
   have q36:=fun f=>zaj (k:=f) (zrL hd l (zjh l[i] x y) i hi hQ.2.1 hL2 hL3)
   have hx:l[i]? =some l[i]:=Z0 hi;have hb2:¬(64:Int)< (rp l i (zjh l[i] x y)).length:=by omega
   have q20:=fun f=>zaj (k:=f) (znZ hd _ hG)
   generalize hA:l[i]=A at*;have e3:qsF (zjh A x y)= .sl 2 [[zaB (add1 A ⟨3,.var x,.var y⟩),zaC (add1 A ⟨3,.var x,.var y⟩)],[zaB (mpC (sbT y (.var x)) A),zaC (mpC (sbT y (.var x)) A)],[zaB (add1 A ⟨3,.var y,.var x⟩),zaC (add1 A ⟨3,.var y,.var x⟩)]]:=rfl;rw[e3]at q36;simp only[cqE,tmF]at q9 q9b q9c;simp -implicitDefEqProofs [rW,h1,h2,g0,g1,zbN,hb',l1,q35,zaN,zcy,n0,n1,ls,hi,zdr,hx,hA,cqE,zaF,zaH,m0,m1,m2];refine ziK (fun S=>s.c+1+1<S.c/\(S.tm.get 1=some (.ptr 0 2 0 0)/\S.tm.get 2=some (.ptr 1 2 0 0)/\S.tm.get 4=some (.f (.i .i64 i))/\S.tm.get 5=some (.f (.s x))/\S.tm.get 6=some (.f (.s y))/\S.tm.get 8=some (.ptr s.c 2 0 0)/\S.tm.get 9=some (.ptr (s.c+1) 4 0 0)/\S.tm.get 10=some (.ptr (s.c+1+1) 4 0 0)/\S.h.get 0=some (.arr 2 0 [[.f (zaq hd),.f (qsF l)]])/\S.h.get 1=some (.arr 2 0 [[.f .nils,.f .nils]]))/\S.h.get s.c=some (.arr 2 0 [[.f (zaB A),.f (zaC A)]])/\S.h.get (s.c+1)=some (.arr 4 0 [[.f (.s x),.f (.i .i64 0),.f (.i .i64 0),.f (.s [])]])/\S.h.get (s.c+1+1)=some (.arr 4 0 [[.f (.s y),.f (.i .i64 0),.f (.i .i64 0),.f (.s [])]])) ⟨?_,?_,?_,?_,?_⟩ ?_
   .simp[rW,]
   .simp -implicitDefEqProofs [rW,h1,h2,g0,g1,n0,n1,n0',n1',n0'',n1'',n3]
   .simp[rW,m0,m1]
   .simp[rW,m2]
   .simp[rW,]
   clear h1 h2 g0 g1;rintro S ⟨hSc,⟨h1,h2,h4,h5,h6,h8,h9,h10,g0,g1⟩,gs,gs1,gs2⟩;have l1':1<S.c:=by omega
   have l0':0<S.c:=by omega
   refine zaL ?_;simp -implicitDefEqProofs [rW,h1,h2,h4,h5,h6,h8,h9,h10,g0,g1,gs,gs1,gs2,zbN,l1',l0',zaN,zcy,zcC,hi,zdr,hx,hA,cqE,zaF,zaH,q9,q9b,q9c,q36,hb2,q20];rw[zdk];refine⟨k',by omega,_,hR,?_,?_⟩
   .simp -implicitDefEqProofs [rW,h1,h2,g1]
   .simp[rW,]<;>omega
 .refine⟨m0,hR,?_,?_⟩
  .simp[rW,]
  .simp[rW,]
 .rintro e s ⟨rfl,⟨h2,h3,g1⟩,hlo⟩;cases r with
  |none=>simp -implicitDefEqProofs [rW,h2,h3,g1,rwE,rwC,rwF]
  |some l=>simp -implicitDefEqProofs [rW,h2,h3,g1,rwE,rwC,rwF,zaN,zcy,zcC]
def nf(c:CQ):CQ:=⟨c.as,c.cs,false,false⟩
def zeI{c d:CQ}:nf c=nf d↔c.as=d.as/\c.cs=d.cs:=by
 unfold nf;constructor
 .intro h;cases c;cases d;simp at h;exact h
 .rintro⟨h1,h2⟩;rw[h1,h2]
def EqL(l m:List CQ):Prop:=l.map nf=m.map nf
def EqL.len{l m:List CQ}(h:EqL l m):l.length=m.length:=by
 have:=congrArg List.length h;simpa using this
def EqL.at{l m:List CQ}(h:EqL l m){i:Nat}(h1:i<l.length)(h2:i<m.length):nf l[i]=nf m[i]:=by
 have e:(l.map nf)[i]? =(m.map nf)[i]? :=by rw[show l.map nf=m.map nf from h]
 simpa [h1,h2]using e
def EqL.symm{l m:List CQ}(h:EqL l m):EqL m l:=Eq.symm h
def EqL.eqv{l m:List CQ}(h:EqL l m):zDp l m:=⟨h.len,fun i h1 h2=>zeI.1 (h.at h1 h2)⟩
def zBH{c d:CQ}(h:nf c=nf d)(i:Nat):nf (drp c i)=nf (drp d i):=by
 obtain⟨h1,h2⟩ :=zeI.1 h;exact zeI.2 ⟨h1,by simp only[drp,h2]⟩
def zPF{hd:List Str}{c d:CQ}(h:nf c=nf d)(k:Cm):nf (elr hd k c)=nf (elm hd k d):=by
 obtain⟨h1,h2⟩ :=zeI.1 h;unfold elr elm;split
 .exact zeI.2 ⟨by simp only[mpC,sbC,h1];rfl,by simp only[mpC,sbC,h2];rfl⟩
 .exact zeI.2 ⟨by simp only[mpC,sbC,h1];rfl,by simp only[mpC,sbC,h2];rfl⟩
theorem zuo(hd:List Str):∀(n:Nat) {c d:CQ},nf c=nf d->(smR hd n c).map nf=(smp hd n d).map nf
 |0,_,_,_=>rfl
 |n+1,c,d,h=>by
  obtain⟨h1,h2⟩ :=zeI.1 h;unfold smR smp stR;rw[h2];split
  .simp
  .cases ha:d.cs.findIdx? alT with
   |some i=>
    simp only[if_true];exact zuo hd n (zBH h i)
   |none=>
    cases he:d.cs.findIdx? (eqV hd)with
    |some i=>
     simp only[if_true];exact zuo hd n (zPF (zBH h i) _)
    |none=>simpa using h
def zM0(hd:List Str){c d:CQ}(h:nf c=nf d):(zk1 hd c).map nf=(zgy hd d).map nf:=by
 obtain⟨h1,h2⟩ :=zeI.1 h;unfold zk1 zgy;rw[h2];exact zuo hd _ (by rw[h];rfl)
theorem zHU{f g:CQ->Option CQ}(hfg:∀c d,nf c=nf d->(f c).map nf=(g d).map nf):∀{l m:List CQ},EqL l m->EqL (l.filterMap f) (m.filterMap g)
 |[],[],_=>rfl
 |[],b::m,h=>by simp[EqL]at h
 |a::l,[],h=>by simp[EqL]at h
 |a::l,b::m,h=>by
  simp only[EqL,Z10,List.cons.injEq]at h;have h1:=hfg a b h.1;have h2:=zHU hfg (l:=l) (m:=m) h.2;rw[List.filterMap_cons,List.filterMap_cons];cases ha:f a with
  |none=>
   cases hb:g b with
   |none=>exact h2
   |some y=>rw[ha,hb]at h1;cases h1
  |some x=>
   cases hb:g b with
   |none=>rw[ha,hb]at h1;cases h1
   |some y=>
    rw[ha,hb]at h1;simp only[Option.map_some,Z45]at h1;simp only[EqL,Z10,h1];exact congrArg _ h2
def zqd(hd:List Str){l m:List CQ}(h:EqL l m):EqL (zew hd m) (zbu hd l):=zHU (fun _ _ h=>zM0 hd h) h.symm
def EqL.app{a b c d:List CQ}(h1:EqL a b)(h2:EqL c d):EqL (a++c) (b++d):=by
 simp only[EqL,Z20]at*;rw[h1,h2]
def EqL.take{a b:List CQ}(h:EqL a b)(n:Nat):EqL (a.take n) (b.take n):=by
 simp only[EqL,List.map_take]at*;rw[h]
def EqL.drop{a b:List CQ}(h:EqL a b)(n:Nat):EqL (a.drop n) (b.drop n):=by
 simp only[EqL,List.map_drop]at*;rw[h]
def EqL.rp{l m L M:List CQ}(h:EqL l m)(h2:EqL L M)(i:Nat):EqL (rp l i L) (rp m i M):=((h.take i).app h2).app (h.drop _)
def zOO{c d:CQ}(h:nf c=nf d)(hc:CqG c):CqG d:=by
 obtain⟨h1,h2⟩ :=zeI.1 h;exact⟨⟨⟨h1▸hc.as,h2▸hc.cs,h1▸hc.la,h2▸hc.lc⟩,h1▸hc.sa,h1▸hc.st,h2▸hc.sc,h1▸hc.s2⟩,h1▸hc.tn⟩
def EqL.mem{l m:List CQ}(h:EqL l m){d:CQ}(hd:d∈m):∃c∈l,nf c=nf d:=by
 have:nf d∈l.map nf:=by rw[show l.map nf=m.map nf from h];exact Z12.2 ⟨d,hd,rfl⟩
 obtain⟨c,hc,e⟩ :=Z12.1 this;exact⟨c,hc,e⟩
def zmD{hd:List Str}{l m:List CQ}(h:EqL l m)(hQ:QG hd l):QG hd m:=⟨hQ.1,by rw[<-h.len];exact hQ.2.1,fun d hd=>by
 obtain⟨c,hc,e⟩ :=h.mem hd;exact zOO e (hQ.2.2 c hc)⟩
def StE(s t:List CQ->Option (Nat×List CQ))(hd:List Str):Prop:=∀l m,QG hd l->EqL l m->match s l,t m with
 |none,none=>True
 |some p,some q=>p.1=q.1/\EqL p.2 q.2
 |_,_=>False
def EqO:Option (List CQ)->Option (List CQ)->Prop
 |none,none=>True
 |some l,some m=>EqL l m
 |_,_=>False
def rw_eq{hd:List Str}{s t:List CQ->Option (Nat×List CQ)}(hst:StE s t hd){k:Nat}{l:List CQ}{r:Option (List CQ)}(h:RwN hd s k l r):∀m,EqL l m->∃r',RrN hd t k m r'/\EqO r r':=by
 induction h with
 |big hQ hb=>exact fun m hm=>⟨none,.big (zmD hm hQ) (by rw[<-hm.len];exact hb),trivial⟩
 | @stop k l hQ hb hs=>
  intro m hm;have:=hst l m hQ hm;rw[hs]at this;cases ht:t m with
  |none=>exact⟨some m,.stop (zmD hm hQ) (by rw[<-hm.len];exact hb) ht,hm⟩
  |some q=>rw[ht]at this;exact this.elim
 | @too k l i L hQ hb hs hi h2 h3 h4=>
  intro m hm;have:=hst l m hQ hm;rw[hs]at this;cases ht:t m with
  |none=>rw[ht]at this;exact this.elim
  |some q=>
   obtain⟨j,M⟩ :=q;rw[ht]at this;obtain⟨rfl,hLM⟩ :=this;exact⟨none,.too (zmD hm hQ) (by rw[<-hm.len];exact hb) ht (by rw[<-hm.len];exact hi) (by rw[<-hLM.len];exact h2) (by rw[<-hLM.len];exact h3) (by rw[<-(hm.rp hLM i).len];exact h4),trivial⟩
 | @go k l i L r hQ hb hs hi h2 h3 h4 hG hR ih=>
  intro m hm;have:=hst l m hQ hm;rw[hs]at this;cases ht:t m with
  |none=>rw[ht]at this;exact this.elim
  |some q=>
   obtain⟨j,M⟩ :=q;rw[ht]at this;obtain⟨rfl,hLM⟩ :=this;obtain⟨r',h5,h6⟩ :=ih (zew hd (rp m i M)) (zqd hd (hm.rp hLM i)).symm;exact⟨r',.go (zmD hm hQ) (by rw[<-hm.len];exact hb) ht (by rw[<-hm.len];exact hi) (by rw[<-hLM.len];exact h2) (by rw[<-hLM.len];exact h3) (by rw[<-(hm.rp hLM i).len];exact h4) (zmD (hm.rp hLM i) hG) h5,h6⟩
def znH{P:Type}(f:CQ->Option P)(sp:CQ->P->List CQ)(l:List CQ):Option (Nat×List CQ):=match l.findIdx? fun c=>(f c).isSome with
 |some i=>match l[i]? with
  |some c=>(f c).map fun p=>(i,sp c p)
  |none=>none
 |none=>none
def StM:Option (Nat×List CQ)->Option (Nat×List CQ)->Prop
 |none,none=>True
 |some p,some q=>p.1=q.1/\EqL p.2 q.2
 |_,_=>False
def zCO{s t:List CQ->Option (Nat×List CQ)}{hd:List Str}(h:∀l m,QG hd l->EqL l m->StM (s l) (t m)):StE s t hd:=by
 intro l m hQ hm;have:=h l m hQ hm;cases hs:s l<;>cases ht:t m<;>rw[hs,ht]at this<;>exact this
theorem zHS{p q:CQ->Bool}:∀{l m:List CQ},EqL l m->(∀c∈l,∀d∈m,nf c=nf d->p c=q d)->l.findIdx? p=m.findIdx? q
 |[],[],_,_=>rfl
 |[],b::m,h,_=>by simp[EqL]at h
 |a::l,[],h,_=>by simp[EqL]at h
 |a::l,b::m,h,hpq=>by
  simp only[EqL,Z10,List.cons.injEq]at h;have h1:=hpq a (by simp) b (by simp) h.1;have h2:=zHS (l:=l) (m:=m) h.2 fun c hc d hd=>hpq c (by simp[hc]) d (by simp[hd])
  rw[List.findIdx?_cons,List.findIdx?_cons,h1,h2]
def zwU{P:Type}{f g:CQ->Option P}{sp sq:CQ->P->List CQ}{l m:List CQ}(h:EqL l m)(hf:∀c∈l,∀d∈m,nf c=nf d->f c=g d)(hs:∀c d p,nf c=nf d->EqL (sp c p) (sq d p)):StM (znH f sp l) (znH g sq m):=by
 have hi:=zHS (p:=fun c=>(f c).isSome) (q:=fun c=>(g c).isSome) h fun c hc d hd e=>by rw[hf c hc d hd e]
 unfold znH;rw[hi];cases he:m.findIdx? fun c=>(g c).isSome with
 |none=>trivial
 |some i=>
  have h2:=(zej he).1;have h1:i<l.length:=by rw[h.len];exact h2
  simp only[Z0 h1,Z0 h2];have e:=hf _ (Z1 h1) _ (Z1 h2) (h.at h1 h2);rw[e];cases g m[i]with
  |none=>trivial
  |some p=>exact⟨rfl,hs _ _ p (h.at h1 h2)⟩
def gn(P:Str->Str->Bool):List Str->Option (Str×Str)
 |[]=>none
 |a::l=>match l.find? (P a)with
  |some y=>some (a,y)
  |none=>gn P l
theorem zyM{P:Str->Str->Bool}(F:List Str->Nat->Option (Str×Str))(hF:∀ns i,F ns i=match ns[i]? with
 |some x=>((ns.drop (i+1)).find? (P x)).map fun y=>(x,y)
 |none=>none):∀ns:List Str,(List.range ns.length).findSome? (F ns)=gn P ns
 |[]=>rfl
 |a::l=>by
  have ih:=zyM F hF l;have e:∀i,F (a::l) (i+1)=F l i:=fun i=>by rw[hF,hF];simp
  have e0:F (a::l) 0=(l.find? (P a)).map fun y=>(a,y):=by rw[hF];simp
  rw[Z23,List.range_succ_eq_map,List.findSome?_cons,e0,List.findSome?_map,gn];cases l.find? (P a)with
  |some y=>rfl
  |none=>
   simp only[Option.map_none];rw[<-ih]
   congr 1
   funext i
   exact e i
def zQ1(c:CQ)(ns:List Str):sym c ns=gn (syP c) ns:=zyM (P:=syP c) (syF c) (fun _ _=>rfl) ns
def zPO(hd:List Str)(c:CQ)(ns:List Str):nrN hd c ns=gn (nrP hd c) ns:=zyM (P:=nrP hd c) (nrF hd c) (fun _ _=>rfl) ns
theorem zIX(hd:List Str)(c:CQ):∀ns:List Str,gn (syP c) (kp hd ns)=gn (nrP hd c) ns
 |[]=>rfl
 |a::l=>by
  have ih:=zIX hd c l;unfold kp at ih|-;rw[gn]
  by_cases ha:inH hd a=true
  .have e:l.find? (nrP hd c a)=none:=List.find?_eq_none.2 fun y _=>by simp[nrP,ha]
   rw[List.filter_cons_of_neg (by simp[ha]),e];exact ih
  .have ha':inH hd a=false:=by simpa using ha
   rw[List.filter_cons_of_pos (by simp[ha']),gn,List.find?_filter,ih];have e:(fun x=>!inH hd x&&syP c a x)=nrP hd c a:=by
    funext y
    unfold nrP syP;rw[ha'];cases inH hd y<;>simp
   have e2:(fun x=>decide ((!inH hd x)=true/\syP c a x=true))=nrP hd c a:=by
    rw[<-e]
    funext y
    simp[Bool.decide_and]
   first
    |rw[e]
    |rw[e2]
def zP2(hd:List Str){c d:CQ}(h:nf c=nf d):rkQ hd c=nrQ hd d:=by
 have e1:rkQ hd c=nrQ hd c:=by
  unfold rkQ nrQ;rw[zQ1,zPO,zIX]
 have e2:nrQ hd c=nrQ hd (nf c):=rfl;have e3:nrQ hd d=nrQ hd (nf d):=rfl;rw[e1,e2,h,<-e3]
def zMl(hd:List Str)(m:List CQ):rkR hd m=znH (nrQ hd) (fun c p=>zjh c p.1 p.2) m:=by
 unfold rkR nrS znH;cases he:m.findIdx? fun c=>(nrQ hd c).isSome with
 |none=>rfl
 |some i=>
  have h2:=(zej he).1;simp only[Z0 h2];cases nrQ hd m[i]with
  |none=>rfl
  |some p=>simp only[Option.map_some,Z0 h2]
def zJc{c d:CQ}(h:nf c=nf d)(f:Trm->Trm):nf (mpC f c)=nf (mpC f d):=by
 obtain⟨h1,h2⟩ :=zeI.1 h;exact zeI.2 ⟨by simp only[mpC,h1],by simp only[mpC,h2]⟩
def zto{c d:CQ}(h:nf c=nf d)(k:Cm):nf (wth c k)=nf (add1 d k):=by
 obtain⟨h1,h2⟩ :=zeI.1 h;exact zeI.2 ⟨h1,by simp only[wth,add1,h2]⟩
def zQV(hd:List Str):StE (rkS hd) (rkR hd) hd:=by
 refine zCO fun l m hQ hm=> ?_
 rw[zMl];exact zwU (f:=rkQ hd) (sp:=fun c p=>sp3 c p.1 p.2) hm (fun c _ d _ e=>zP2 hd e) fun c d p e=>by
  simp only[EqL,sp3,zjh,Z10,List.map_nil,zto e,zJc e]
def zEs{l:List Trm}{t x:Trm}(hl:∀a∈l,zau a)(ht:zau t):x∈zcn l t↔x∈l\/x=t:=by
 refine⟨znd,?_⟩
 induction l with
 |nil=>intro h;simpa [zcn]using h
 |cons a l ih=>
  intro h;have ih:=ih fun b hb=>hl b (by simp[hb])
  unfold zcn;split
  .rcases h with h|h
   .rcases Z5.1 h with rfl|h
    .simp
    .exact Z40 _ (ih (.inl h))
   .exact Z40 _ (ih (.inr h))
  .split
   .rename_i e;rw[zhN (hl a (by simp)) ht]at e;have e:a=t:=by simpa using e
    rcases h with h|rfl
    .exact h
    .rw[e];simp
   .rcases h with h|rfl
    .exact Z40 _ h
    .simp
def zBE{ts:List Trm}:∀{l:List Trm},(∀a∈l,zau a)->(∀t∈ts,zau t)->∀{x},(x∈ts.foldl zcn l↔x∈l\/x∈ts):=by
 induction ts with
 |nil=>intro l _ _ x;simp
 |cons t ts ih=>
  intro l hl ht x;have h:=ih (zpx hl (ht t (by simp))) (fun y hy=>ht y (by simp[hy])) (x:=x);rw[Z42,h,zEs hl (ht t (by simp)),Z5,or_assoc]
def zDd(c:CQ):zfC c=(tsC c).foldl zcn []:=by
 unfold zfC tsC tsA ts2 zfX;rw[List.foldl_append,List.foldl_flatMap,List.foldl_flatMap];rfl
def zQ6{c:CQ}(hc:CqOk c):∀t∈tsC c,zau t:=by
 intro t ht;unfold tsC tsA at ht;rcases Z4.1 ht with h|h
 .obtain⟨a,ha,h⟩ :=Z38.1 h;exact (hc.as a ha).1 t h
 .obtain⟨k,hk,h⟩ :=Z38.1 h;have:=hc.cs k hk;unfold ts2 at h;simp at h;rcases h with rfl|rfl
  .exact this.1
  .exact this.2
def zEt{c:CQ}(hc:CqOk c){x:Trm}:x∈zfC c↔x∈tsC c:=by
 rw[zDd,zBE (by simp) (zQ6 hc)];simp
def ziX:List Int->Int->List Int
 |[],v=>[v]
 |a::l,v=>if a<v then a::ziX l v else if a=v then a::l else v::a::l
theorem znw{v x:Int}:∀{l:List Int},x∈ziX l v↔x∈l\/x=v
 |[]=>by simp[ziX]
 |a::l=>by
  have ih:=znw (v:=v) (x:=x) (l:=l);unfold ziX;split
  .rw[Z5,ih,Z5,or_assoc]
  .split
   .rename_i e;subst e;simp only[Z5];exact⟨fun h=> .inl h,fun h=>h.elim id .inl⟩
   .simp only[Z5];exact⟨fun h=>h.elim .inr .inl,fun h=>h.elim .inr .inl⟩
def Srt(l:List Int):Prop:=l.Pairwise (· < ·)
theorem zuu{v:Int}:∀{l:List Int},Srt l->Srt (ziX l v)
 |[],_=>by simp[ziX,Srt]
 |a::l,h=>by
  have h':=List.pairwise_cons.1 h;unfold ziX;split
  .rename_i e;refine List.pairwise_cons.2 ⟨fun x hx=> ?_,zuu h'.2⟩;rcases znw.1 hx with hx|rfl
   .exact h'.1 x hx
   .exact e
  .split
   .exact h
   .refine List.pairwise_cons.2 ⟨fun x hx=> ?_,h⟩;rcases Z5.1 hx with rfl|hx
    .omega
    .have:=h'.1 x hx;omega
theorem zsk:∀(l:List Int) (v:Int),zcn (l.map Trm.cst) (.cst v)=(ziX l v).map Trm.cst
 |[],v=>rfl
 |a::l,v=>by
  have ih:=zsk l v;have h1:(zdp (.cst a) (.cst v)<0)=(a<v):=zgz a v;have h2:zgs (.cst a) (.cst v)=decide (a=v):=by rw[zhN (show zau (.cst a)from trivial) (show zau (.cst v)from trivial)];simp
  simp only[Z10,zcn,ziX,h1,h2,decide_eq_true_eq];split
  .rw[ih];rfl
  .split<;>rfl
def cF(a:List Int):Trm->List Int
 | .cst v=>ziX a v
 | .var _=>a
def cI(l:List CQ):List Int:=l.foldl (fun a c=>(zfC c).foldl cF a) []
def zK1{ts:List Trm}:∀{a:List Int},(∀t∈ts,zau t)->zgw (a.map Trm.cst) ts=(ts.foldl cF a).map Trm.cst:=by
 unfold zgw
 induction ts with
 |nil=>intro a _;rfl
 |cons t ts ih=>
  intro a ht;have e:zlq (a.map Trm.cst) t=(cF a t).map Trm.cst:=by
   have h0:=ht t (by simp);unfold zlq;cases t with
   |cst v=>rw[if_pos (show tv (.cst v)=[]from rfl)];exact zsk a v
   |var s=>rw[if_neg (show ¬tv (.var s)=[]from h0)];rfl
  rw[Z42,e];exact ih fun y hy=>ht y (by simp[hy])
def zD3{l:List CQ}(hl:∀c∈l,CqSm c):∀{a:List Int},l.foldl (fun a c=>zgw a (zfC c)) (a.map Trm.cst)=(l.foldl (fun a c=>(zfC c).foldl cF a) a).map Trm.cst:=by
 induction l with
 |nil=>intro a;rfl
 |cons c l ih=>
  intro a;rw[Z42,zK1 (zqm c (hl c (by simp))).1];exact ih fun x hx=>hl x (by simp[hx])
def zvY{l:List CQ}(hl:∀c∈l,CqSm c):ze2 l=(cI l).map Trm.cst:=zD3 hl (a:=[])
def zPD{ts:List Trm}:∀{a:List Int} {x:Int},x∈ts.foldl cF a↔x∈a\/.cst x∈ts:=by
 induction ts with
 |nil=>intro a x;simp
 |cons t ts ih=>
  intro a x;rw[Z42,ih];cases t with
  |cst v=>simp only[cF,znw,Z5,Trm.cst.injEq,or_assoc]
  |var s=>simp[cF]
def zQN{ts:List Trm}:∀{a:List Int},Srt a->Srt (ts.foldl cF a):=by
 induction ts with
 |nil=>intro a h;exact h
 |cons t ts ih=>
  intro a h;rw[Z42];refine ih ?_;cases t with
  |cst v=>exact zuu h
  |var s=>exact h
def zLT{l:List CQ}(hl:∀c∈l,CqSm c):∀{a:List Int} {x:Int},x∈l.foldl (fun a c=>(zfC c).foldl cF a) a↔x∈a\/∃c∈l,.cst x∈tsC c:=by
 induction l with
 |nil=>intro a x;simp
 |cons c l ih=>
  intro a x;rw[Z42,ih fun y hy=>hl y (by simp[hy]),zPD,zEt (hl c (by simp)).toCqOk];simp[or_assoc]
def zBF{l:List CQ}(hl:∀c∈l,CqSm c){x:Int}:x∈cI l↔∃c∈l,.cst x∈tsC c:=by
 rw[cI,zLT hl];simp
def zNa{l:List CQ}:∀{a:List Int},Srt a->Srt (l.foldl (fun a c=>(zfC c).foldl cF a) a):=by
 induction l with
 |nil=>intro a h;exact h
 |cons c l ih=>intro a h;rw[Z42];exact ih (zQN h)
def zCM(l:List CQ):Srt (cI l):=zNa (by simp[Srt])
theorem zs7{P:Int->Bool}{b:Int}:∀{l:List Int},Srt l->b∈l->P b=true->(∀w∈l,P w=true->b<=w)->l.find? P=some b
 |[],_,h,_,_=>by simp at h
 |a::l,hs,hm,hb,hmin=>by
  have h':=List.pairwise_cons.1 hs;rw[List.find?_cons];cases ha:P a with
  |true=>
   have h1:=hmin a (by simp) ha;rcases Z5.1 hm with rfl|hm
   .rfl
   .have:=h'.1 b hm;omega
  |false=>
   rcases Z5.1 hm with rfl|hm
   .rw[ha]at hb;cases hb
   .exact zs7 h'.2 hm hb fun w hw=>hmin w (by simp[hw])
def vals(l:List CQ)(s:Str)(as':List Atm):List Int:=as'.flatMap fun a=>(List.range a.ts.length).flatMap fun i=>if a.ts[i]? =some (.var s)then cAt l a.r i else[]
def znJ(l:List CQ)(q:CQ)(s:Str)(as':List Atm):smA l q s as'=(vals l s as').foldl (stS q s) none:=by
 unfold smA vals;rw[List.foldl_flatMap]
 congr 1
 funext o a
 unfold smT;rw[List.foldl_flatMap]
 congr 1
 funext o i
 split
 .rfl
 .rfl
def Spec(q:CQ)(s:Str)(o:Option Int)(vs:List Int):Prop:=(o=none->∀v∈vs,exc q s v=true)/\∀b,o=some b->b∈vs/\exc q s b=false/\∀w∈vs,exc q s w=false->b<=w
def zCK{q:CQ}{s:Str}{o:Option Int}{vs:List Int}(h:Spec q s o vs)(v:Int):Spec q s (stS q s o v) (vs++[v]):=by
 obtain⟨h1,h2⟩ :=h;cases he:exc q s v with
 |true=>
  have e:stS q s o v=o:=by unfold stS;rw[he];simp
  rw[e];refine⟨fun ho w hw=> ?_,fun b hb=> ?_⟩
  .rcases Z4.1 hw with hw|hw
   .exact h1 ho w hw
   .rw[Z31.1 hw];exact he
  .obtain⟨a1,a2,a3⟩ :=h2 b hb;refine⟨List.mem_append_left _ a1,a2,fun w hw hx=> ?_⟩;rcases Z4.1 hw with hw|hw
   .exact a3 w hw hx
   .rw[Z31.1 hw,he]at hx;cases hx
 |false=>
  cases o with
  |none=>
   have e:stS q s none v=some v:=by unfold stS;rw[he];rfl
   rw[e];refine⟨fun h=>(by cases h),fun b hb=> ?_⟩;cases hb;refine⟨by simp,he,fun w hw hx=> ?_⟩;rcases Z4.1 hw with hw|hw
   .rw[h1 rfl w hw]at hx;cases hx
   .rw[Z31.1 hw];omega
  |some b0=>
   obtain⟨a1,a2,a3⟩ :=h2 b0 rfl
   by_cases hv:v<b0
   .have e:stS q s (some b0) v=some v:=by unfold stS;rw[he];simp[hv]
    rw[e];refine⟨fun h=>(by cases h),fun b hb=> ?_⟩;cases hb;refine⟨by simp,he,fun w hw hx=> ?_⟩;rcases Z4.1 hw with hw|hw
    .have:=a3 w hw hx;omega
    .rw[Z31.1 hw];omega
   .have e:stS q s (some b0) v=some b0:=by unfold stS;simp[hv]
    rw[e];refine⟨fun h=>(by cases h),fun b hb=> ?_⟩;cases hb;refine⟨List.mem_append_left _ a1,a2,fun w hw hx=> ?_⟩;rcases Z4.1 hw with hw|hw
    .exact a3 w hw hx
    .rw[Z31.1 hw];omega
theorem zrt{q:CQ}{s:Str}:∀{ws:List Int} {o:Option Int} {vs:List Int},Spec q s o vs->Spec q s (ws.foldl (stS q s) o) (vs++ws)
 |[],o,vs,h=>by simpa using h
 |w::ws,o,vs,h=>by
  have:=zrt (ws:=ws) (zCK h w);simpa using this
def zFG(l:List CQ)(q:CQ)(s:Str)(as':List Atm):Spec q s (smA l q s as') (vals l s as'):=by
 have h:Spec q s none []:=⟨fun _ v hv=>by simp at hv,fun b hb=>by cases hb⟩
 have:=zrt (ws:=vals l s as') h;rw[znJ];simpa using this
def zwz{r:Str}{p:Nat}{a:Atm}{v:Int}:v∈cA1 r p a↔mtA r p v a=true:=by
 unfold cA1 mtA
 by_cases h:a.r=r
 .rw[if_pos h];cases hp:a.ts[p]? with
  |none=>simp[h]
  |some t=>
   cases t with
   |var s=>simp[h]
   |cst n=>simp[h];exact eq_comm
 .rw[if_neg h];simp[h]
def zwB{l:List CQ}{r:Str}{p:Nat}{v:Int}:v∈cAt l r p↔l.any (mtQ r p v)=true:=by
 unfold cAt mtQ;simp only[Z38,zwz,Z30]
def znz{l:List CQ}{s:Str}{q:CQ}{v:Int}:v∈vals l s q.as↔mts l q s v=true:=by
 unfold vals mts mtI mtK;simp only[Z38,Z30,Z14,decide_eq_true_eq];constructor
 .rintro⟨a,ha,i,hi,h⟩;split at h
  .rename_i e;exact⟨a,ha,i,hi,e,Z30.1 (zwB.1 h)⟩
  .simp at h
 .rintro⟨a,ha,i,hi,e,h⟩;exact⟨a,ha,i,hi,by rw[if_pos e];exact zwB.2 (Z30.2 h)⟩
def zOB{l:List CQ}(hl:∀c∈l,CqSm c){r:Str}{p:Nat}{v:Int}(h:v∈cAt l r p):v∈cI l:=by
 unfold cAt at h;obtain⟨c,hc,h⟩ :=Z38.1 h;obtain⟨a,ha,h⟩ :=Z38.1 h;rw[zwz]at h;unfold mtA at h;simp only[Z14,decide_eq_true_eq]at h;exact (zBF hl).2 ⟨c,hc,List.mem_append_left _ (Z38.2 ⟨a,ha,Z39 h.2⟩)⟩
def zNp{l:List CQ}(hl:∀c∈l,CqSm c){s:Str}{as':List Atm}{v:Int}(h:v∈vals l s as'):v∈cI l:=by
 unfold vals at h;obtain⟨a,ha,h⟩ :=Z38.1 h;obtain⟨i,hi,h⟩ :=Z38.1 h;split at h
 .exact zOB hl h
 .simp at h
def zFE{l:List CQ}(hl:∀c∈l,CqSm c)(q:CQ)(s:Str):smA l q s q.as=(cI l).find? fun v=>mts l q s v&& !exc q s v:=by
 obtain⟨h1,h2⟩ :=zFG l q s q.as;cases ho:smA l q s q.as with
 |none=>
  refine (List.find?_eq_none.2 fun v _=> ?_).symm;cases hm:mts l q s v with
  |false=>simp
  |true=>rw[h1 ho v (znz.2 hm)];simp
 |some b=>
  obtain⟨a1,a2,a3⟩ :=h2 b ho;refine (zs7 (zCM l) (zNp hl a1) ?_ fun w hw hP=> ?_).symm
  .rw[znz.1 a1,a2];rfl
  .simp only[Z14,Bool.not_eq_true']at hP;exact a3 w (znz.2 hP.1) hP.2
def zQP{hd:List Str}{l:List CQ}(hl:∀c∈l,CqSm c)(q:CQ):stQ hd l q=nsQ hd l (ze2 l) q:=by
 unfold stQ nsQ
 congr 1
 funext s
 unfold stN nsN inH;split
 .rfl
 .rw[zFE hl,zvY hl,List.find?_map];have e:(nsV l q s ∘ Trm.cst)=fun v=>mts l q s v&& !exc q s v:=by
   funext v
   rfl
  rw[e,Option.map_map];rfl
def zOE{l m:List CQ}(h:EqL l m)(r:Str)(p:Nat):cAt l r p=cAt m r p:=by
 have e:∀l:List CQ,cAt l r p=cAt (l.map nf) r p:=fun l=>by
  unfold cAt;rw[List.flatMap_map];rfl
 rw[e l,e m,show l.map nf=m.map nf from h]
def zQO{hd:List Str}{l m:List CQ}(h:EqL l m){c d:CQ}(hc:nf c=nf d):stQ hd l c=stQ hd m d:=by
 have e1:stQ hd l c=stQ hd l (nf c):=rfl;have e2:stQ hd m d=stQ hd m (nf d):=rfl;rw[e1,hc,e2];unfold stQ
 congr 1
 funext s
 unfold stN;split
 .rfl
 .rw[znJ,znJ];unfold vals;simp only[zOE h]
def zMW(hd:List Str)(m:List CQ):shR hd m=znH (nsQ hd m (ze2 m)) (fun c p=>zhU c p.1 p.2) m:=by
 unfold shR nsS znH;cases he:m.findIdx? fun c=>(nsQ hd m (ze2 m) c).isSome with
 |none=>rfl
 |some i=>
  have h2:=(zej he).1;simp only[Z0 h2];cases nsQ hd m (ze2 m) m[i]with
  |none=>rfl
  |some p=>simp only[Option.map_some,Z0 h2]
def zQX(hd:List Str):StE (shS hd) (shR hd) hd:=by
 refine zCO fun l m hQ hm=> ?_
 rw[zMW];have hmG:=zmD hm hQ;exact zwU (f:=stQ hd l) (sp:=fun c p=>spl c p.1 p.2) hm (fun c _ d _ e=>by rw[zQO hm e,zQP fun c hc=>(hmG.2.2 c hc).toCqSm]) fun c d p e=>by
  simp only[EqL,spl,zhU,Z10,List.map_nil,zto e,zJc e]
def fn10:pr.fn 10=some g10:=by kernel_rfl
def fn15:pr.fn 15=some g15:=by kernel_rfl
def wd_K{ops:List (Vse.Op×Nat)}{S:St}{Q:Ex->St->Prop}(P:St->Prop)(h:∀K:Ex->St->Prop,(∀s',P s'->K .nrm s')->WD pr ops S K)(h2:∀s',P s'->Q .nrm s'):WD pr ops S Q:=h Q h2
def eq_tm(t:Trm):zbj [1,0,0,1] (tmD t) (tmD t)=some true:=by simp[zbj,tmD]
def eq_cm(k:Cm):zbj [0,1,0,0,1,1,0,0,1] (cmD k) (cmD k)=some true:=by simp[zbj,cmD,tmD]
def eq_v(n:Int):zbj [0,0,1] (vD n) (vD n)=some true:=by simp[zbj,vD]
def iF(l:List Int):F:=slc 3 (l.map vF)
def iF_d(l:List Int):(iF l).d= .f (iF l):=zh5 ..
def zoF(l:List Int):zcx (.f (iF l))=some l.length:=by simp[iF,zfA]
def zH0(l:List Int)(n:Nat):iaB 3 (.f (iF l)) n=(l[n]?).map fun t=>D.fptr (vF t):=by simp[iF,zgi,Function.comp_def]
def ans15(l:List Int)(hl:l.length<100000):Ans pr 15 [iF l,iF l] (.b true):=by
 refine zbd fn15 ?_;simp only[g15,rU];simp[rW,st0,zae,iF_d,zoF];refine zdi l.length (fun n s=>s.tm.get 0=some (.f (iF l))/\s.tm.get 1=some (.f (iF l))/\s.tm.get 5=some (.f (.i .i64 n))) (fun e s=>e= .exit 0) ?_ ?_ _ ?_ ?_
 .rintro n s hn ⟨h0,h1,h5⟩;have hw:=zao n (by omega);have hx:l[n]? =some l[n]:=Z0 hn;generalize hA:l[n]=v at hx;have e:=eq_v v;unfold vD at e;simp[rW,h0,h1,h5,hn,zoF,zH0,hx,hA,vF];refine zaL ?_;simp[rW,h0,h1,h5,hn,zoF,zH0,hx,hA,vF,e,hw]
 .rintro s ⟨h0,h1,h5⟩;simp[rW,h0,h1,h5,zoF]
 .simp[rW,]
 .rintro e s rfl;simp[rW,]
def X1(a b:CQ)(n:Nat)(s:St):Prop:=(s.tm.get 2=some (.ptr 0 2 0 0)/\s.tm.get 3=some (.ptr 1 2 0 0)/\s.tm.get 5=some (.f (.i .i64 n))/\s.h.get 0=some (.arr 2 0 [[.f (zaB a),.f (zaC a)]])/\s.h.get 1=some (.arr 2 0 [[.f (zaB b),.f (zaC b)]]))/\2<=s.c
def X2(a b:CQ)(n P Q:Nat)(A:Atm)(m:Nat)(s:St):Prop:=X1 a b n s/\(s.tm.get 6=some (.ptr P 3 0 0)/\s.tm.get 7=some (.ptr Q 3 0 0)/\s.tm.get 8=some (.f (.i .i64 m))/\s.h.get P=some (.arr 3 0 [[.f (.s A.r),.f (.b A.neg),.f (zaW A.ts)]])/\s.h.get Q=some (.arr 3 0 [[.f (.s A.r),.f (.b A.neg),.f (zaW A.ts)]]))/\P<s.c/\Q<s.c
def X3(a b:CQ)(n:Nat)(s:St):Prop:=(s.tm.get 2=some (.ptr 0 2 0 0)/\s.tm.get 3=some (.ptr 1 2 0 0)/\s.tm.get 9=some (.f (.i .i64 n))/\s.h.get 0=some (.arr 2 0 [[.f (zaB a),.f (zaC a)]])/\s.h.get 1=some (.arr 2 0 [[.f (zaB b),.f (zaC b)]]))/\2<=s.c
def ans10(a b:CQ)(h:nf a=nf b)(hc:CqG a):Ans pr 10 [.ag (cqF a),.ag (cqF b)] (.b true):=by
 obtain⟨ha,hcs⟩ :=zeI.1 h;refine zbd fn10 ?_;simp only[g10,rU];simp only[cqE];have hla:b.as.length=a.as.length:=by rw[ha]
 have hlc:b.cs.length=a.cs.length:=by rw[hcs]
 simp[rW,st0,zae,zaF,zaH,za1,zbf,hla,hlc];refine zdi a.as.length (X1 a b) (fun e s=>e= .exit 0/\X1 a b a.as.length s) ?_ ?_ _ ?_ ?_
 .rintro n s hn ⟨⟨h2,h3,h5,g0,g1⟩,hlo⟩;have hw:=zao n (by have:=hc.sa;omega);have hx:a.as[n]? =some a.as[n]:=Z0 hn;have hx2:b.as[n]? =some a.as[n]:=by rw[<-ha];exact hx
  have hst:=hc.st _ (Z1 hn);generalize hA:a.as[n]=A at hx hx2 hst;have n0:¬(0=s.c):=by omega
  have n1:¬(1=s.c):=by omega
  have m0:¬(s.c=s.c+1):=by omega
  have m2:¬(s.c+1+1=s.c):=by omega
  have m3:¬(s.c=s.c+1+1):=by omega
  have z0:¬(s.c=0):=by omega
  have z1:¬(s.c=1):=by omega
  simp[rW,h2,h3,h5,g0,g1,hn,za1,zbh,hx,hx2,hA];refine wd_K (fun S=>X1 a b n S/\∃P Q,(S.tm.get 6=some (.ptr P 3 0 0)/\S.tm.get 7=some (.ptr Q 3 0 0)/\S.h.get P=some (.arr 3 0 [[.f (.s A.r),.f (.b A.neg),.f (zaW A.ts)]])/\S.h.get Q=some (.arr 3 0 [[.f (.s A.r),.f (.b A.neg),.f (zaW A.ts)]]))/\P<S.c/\Q<S.c) ?_ ?_
  .intro K hK;refine zaL ?_;simp[rW,h2,h3,h5,g0,g1,hn,za1,zbh,hx,hx2,hA,atE,zaR,n0,n1,m2,m3];refine hK _ ⟨⟨?_,?_⟩,s.c+1+1+1+1+1+1+1+1+1+1,s.c+1+1+1+1+1+1+1+1+1+1+1+1,⟨?_,?_,?_,?_⟩,?_,?_⟩
   .simp[rW,h2,h3,h5,g0,g1,z0,z1]
   .simp[rW,]<;>omega
   .simp[rW,]
   .simp[rW,]
   .simp[rW,m2,m3]
   .simp[rW,m2,m3]
   .simp[rW,]<;>omega
   .simp[rW,]<;>omega
  rintro S ⟨hX,P,Q,⟨h6,h7,gP,gQ⟩,hP,hQ⟩;obtain⟨⟨h2,h3,h5,g0,g1⟩,hlo'⟩ :=id hX;simp[rW,h2,h3,h5,h6,h7,g0,g1,gP,gQ,zaO];refine zdi A.ts.length (X2 a b n P Q A) (fun e s=>e= .exit 2/\X1 a b n s) ?_ ?_ _ ?_ ?_
  .rintro m s2 hm ⟨hX2,⟨h6,h7,h8,gP,gQ⟩,hP2,hQ2⟩;obtain⟨⟨h2,h3,h5,g0,g1⟩,hlo2⟩ :=id hX2;have hw2:=zao m (by omega);have hxt:A.ts[m]? =some A.ts[m]:=Z0 hm;generalize hT:A.ts[m]=t at hxt;have e:=eq_tm t;unfold tmD at e;simp[rW,h2,h3,h5,h6,h7,h8,g0,g1,gP,gQ,hm,zaO];refine zaL ?_;simp[rW,h2,h3,h5,h6,h7,h8,g0,g1,gP,gQ,hm,zaO,zbk,hxt,hT,tmE,e,hw2];refine⟨⟨?_,?_⟩,⟨?_,?_,?_,?_,?_⟩,?_,?_⟩
   .simp[rW,h2,h3,h5,g0,g1]
   .simp[rW,]<;>omega
   .simp[rW,h6]
   .simp[rW,h7]
   .simp[rW,hw2]
   .simp[rW,gP]
   .simp[rW,gQ]
   .simp[rW,]<;>omega
   .simp[rW,]<;>omega
  .rintro s2 ⟨hX2,⟨h6,h7,h8,gP,gQ⟩,hP2,hQ2⟩;obtain⟨⟨h2,h3,h5,g0,g1⟩,hlo2⟩ :=id hX2;simp[rW,h2,h3,h5,h6,h7,h8,g0,g1,gP,gQ,zaO];refine⟨?_,?_⟩
   .simp[rW,h2,h3,h5,g0,g1]
   .simp[rW,]<;>omega
  .refine⟨⟨?_,?_⟩,⟨?_,?_,?_,?_,?_⟩,?_,?_⟩
   .simp[rW,h2,h3,h5,g0,g1]
   .simp[rW,]<;>omega
   .simp[rW,h6]
   .simp[rW,h7]
   .simp[rW,]
   .simp[rW,gP]
   .simp[rW,gQ]
   .simp[rW,]<;>omega
   .simp[rW,]<;>omega
  .rintro e s2 ⟨rfl,⟨h2,h3,h5,g0,g1⟩,hlo2⟩;simp[rW,h2,h3,h5,g0,g1,hw];refine⟨?_,?_⟩
   .simp[rW,h2,h3,h5,g0,g1,hw]
   .simp[rW,]<;>omega
 .rintro s ⟨⟨h2,h3,h5,g0,g1⟩,hlo⟩;simp[rW,h2,h3,h5,g0,g1,za1];refine⟨?_,?_⟩
  .simp[rW,h2,h3,h5,g0,g1]
  .simp[rW,]<;>omega
 .refine⟨?_,?_⟩
  .simp[rW,]
  .simp[rW,]<;>omega
 .rintro e s ⟨rfl,⟨h2,h3,h5,g0,g1⟩,hlo⟩;simp[rW,h2,h3,h5,g0,g1];refine zdi a.cs.length (X3 a b) (fun e s=>e= .exit 4) ?_ ?_ _ ?_ ?_
  .rintro n s hn ⟨⟨h2,h3,h9,g0,g1⟩,hlo⟩;have hw:=zao n (by have:=hc.sc;omega);have hx:a.cs[n]? =some a.cs[n]:=Z0 hn;have hx2:b.cs[n]? =some a.cs[n]:=by rw[<-hcs];exact hx
   generalize hK:a.cs[n]=k at hx hx2;have e:=eq_cm k;simp[rW,h2,h3,h9,g0,g1,hn,zbf,zcZ,hx,hx2,hK];refine zaL ?_;simp[rW,h2,h3,h9,g0,g1,hn,zbf,zcZ,hx,hx2,hK,zet,e,hw];refine⟨?_,?_⟩
   .simp[rW,h2,h3,g0,g1,hw]
   .simp[rW,]<;>omega
  .rintro s ⟨⟨h2,h3,h9,g0,g1⟩,hlo⟩;simp[rW,h2,h3,h9,g0,g1,zbf]
  .unfold X3;simp[rW,h2,h3,g0,g1,hlo]
  .rintro e s rfl;simp[rW,]
end Go.Proofs.YtmnkdfjljkhneaaGreat
end
