/- Rank: the first pair of variables that must be ordered. -/
import Derived.Test.YtmnkdfjljkhneaaGreatPj
import Derived.KernelRfl
import Derived.IntWalk
import Derived.Test.YtmnkdfjljkhneaaGreatPh
import Derived.Test.YtmnkdfjljkhneaaGreatFct
set_option linter.all false
noncomputable section
section
namespace Go.Proofs.YtmnkdfjljkhneaaGreat
open Go Go.Vse Go.Vse.Sm
set_option maxRecDepth 100000
set_option maxHeartbeats 1000000
set_option linter.all false
theorem fn38:pr.fn 38=some g38:=by kernel_rfl
def SZ(h:T Ob)(c:Nat)(d:D)(m:List Str):Prop:=(d= .f .nils/\m=[])\/∃(id lim:Nat) (R:List Str),d= .sl id 0 m.length 1 lim false/\h.get id=some (.arr 1 0 (za3 R))/\R.length=lim/\R.take m.length=m/\id<c
theorem SZ.le{h:T Ob}{c id lim:Nat}{m R:List Str}(h2:R.length=lim)(h3:R.take m.length=m):m.length≤lim:=by
 have:=congrArg List.length h3;rw[List.length_take]at this;omega
theorem zLL{h:T Ob}{c:Nat}{d:D}{m:List Str}(H:SZ h c d m):zcn d=some m.length:=by
 rcases H with⟨rfl,rfl⟩ |⟨id,lim,R,rfl,-⟩ <;>rfl
theorem zFd{id lim:Nat}{m R:List Str}(h3:R.take m.length=m){n:Nat}(hn:n<m.length):(za3 R)[n]? =some [.f (.s m[n])]:=by
 have h1:(R.take m.length)[n]? =m[n]? :=by rw[h3]
 rw[List.getElem?_take_of_lt hn,List.getElem?_eq_getElem hn]at h1;simp[za3,h1]
theorem zKj(hd l:List Str)(hh:hd.length<1000000)(hl:l.length<100000){h:T Ob}{c lo A:Nat}{d:D}(H:SV h lo c d l)(gA:h.get A=some (.arr 1 0 [[.f (zav hd)]]))(hA:A<lo)(hlo:lo≤c):
  Eff pr 72 [d,.fn 73 [] [.ptr A 1 0 0]] h c fun d' h' c'=>SZ h' c' d' (kp hd l)/\∀x,x<lo->h'.get x=h.get x:=by
 rcases H with⟨rfl,rfl⟩ |⟨id,rfl,hne,hg,h1,h2⟩
 ·refine zcG za8 fn72 ?_;simp only[g72,rU];simp -implicitDefEqProofs [rW,st0,zaj];refine zdg (d:= .f (.i .i64 (ixP [] (inH hd)))) ?_ ?_ ?_
  ·simp only[rG];exact zy4 [] (inH hd) (by simp) (.inl rfl) rfl fun n hn=>by simp at hn
  ·simp only[rG];omega
  intro mx;simp -implicitDefEqProofs [rW,ixP,zbR,kp];exact .inl ⟨rfl,rfl⟩
 ·obtain⟨q,g1,⟨R,g2,g3,g4,g5,g6⟩,g7⟩ :=eff72 hd l hh hl hg h2 hne gA (by omega) (by omega);exact⟨q,g1,⟨.inr ⟨id,l.length,R,g2,g3,g4,g5,by have:=g7.1;omega⟩,fun x hx=>g6 x (by omega) (by omega)⟩,g7⟩
def syP(c:CQ)(x y:Str):Bool:=!(c.cs.any (zc7 3 (.var x) (.var y)))&&zlG c x y
def syF(c:CQ)(ns:List Str)(i:Nat):Option (Str×Str):=match ns[i]? with
 |some x=>((ns.drop (i+1)).find? (syP c x)).map fun y=>(x,y)
 |none=>none
def sym(c:CQ)(ns:List Str):Option (Str×Str):=(List.range ns.length).findSome? (syF c ns)
theorem zzS(c:CQ){ns:List Str}{i:Nat}{x:Str}(h:ns[i]? =some x):syF c ns i=((ns.drop (i+1)).find? (syP c x)).map fun y=>(x,y):=by unfold syF;rw[h]
theorem zlJ{α:Type}{l:List α}{p:α->Bool}{n:Nat}(h:n<l.length)(h1:p l[n]=true)(h2:∀m (h':m<n),p (l[m]'(by omega))=false):l.find? p=some l[n]:=by
 rw[List.find?_eq_some_iff_getElem];exact⟨h1,n,h,rfl,fun j hj=>by rw[h2 j hj];rfl⟩
def syR:Option (Str×Str)->F
 |none=> .tu [.s [],.s [],.b false]
 |some p=> .tu [.s p.1,.s p.2,.b true]
def XZ1(q:CQ)(d:D)(ns:List Str)(n:Nat)(s:St):Prop:=(s.tm.get 2=some (.ptr 0 2 0 0)/\s.tm.get 7=some (d)/\s.tm.get 16=some (d)/\s.tm.get 17=some (.f (.i .i64 ns.length))/\s.tm.get 18=some (.f (.i .i64 n))/\s.h.get 0=some (.arr 2 0 [[.f (zaK q),.f (zaN q)]]))/\SZ s.h s.c d ns
def XZ2(q:CQ)(d e:D)(ns:List Str)(n:Nat)(x:Str)(m:Nat)(s:St):Prop:=(s.tm.get 2=some (.ptr 0 2 0 0)/\s.tm.get 7=some (d)/\s.tm.get 16=some (d)/\s.tm.get 17=some (.f (.i .i64 ns.length))/\s.tm.get 18=some (.f (.i .i64 n))/\s.tm.get 9=some (.f (.s x))/\s.tm.get 26=some (e)/\s.tm.get 27=some (.f (.i .i64 (ns.length - (n+1):Nat)))/\s.tm.get 28=some (.f (.i .i64 m))/\s.h.get 0=some (.arr 2 0 [[.f (zaK q),.f (zaN q)]]))/\SZ s.h s.c d ns
def XZR(p:Str×Str)(e:Ex)(s:St):Prop:=e= .ret/\s.tm.get 4=some (.f (.s p.1))/\s.tm.get 5=some (.f (.s p.2))/\s.tm.get 6=some (.f (.b true))
theorem zEF{hd l:List Str}(h:∀s∈l,s≠[]):∀s∈kp hd l,s≠[]:=fun s hs=>h s (List.mem_filter.1 hs).1
theorem rd_3(s:St)(a b c:Rv):resD s [a,b,c]=om (resV s a) fun x=>om (resV s b) fun y=>om (resV s c) fun z=>some (.tu [x,y,z]):=by
 simp only[resD,zas,om];cases resV s a<;>cases resV s b<;>cases resV s c<;>rfl
theorem zJY(l:List Str):(D.f (zav l)).cells=some [.f (zav l)]:=zht _ _
set_option maxHeartbeats 4000000 in
theorem ans38(q:CQ)(hd:List Str)(hq:CqG q)(hh:hd.length<1000):Ans pr 38 [.ag (cqF q),zav hd] (syR (sym q (kp hd (vrs q)))):=by
 refine zcm fn38 ?_;simp only[g38,rU];simp -implicitDefEqProofs [rW,st0,zaj,cqE,za7,za4,zaS,zJY];refine zcS rfl rfl (zDv q hq.toCqSm) ?_;rintro d H c1 lw1 mx1 ⟨hF,hS⟩ hcc;simp only[rG]at hF hS hcc;have k0:=hF 0 (by omega);have k1:=hF 1 (by omega);simp[Vse.T.zad]at k0 k1;have hvl:=zuF hq.toCqSm;simp -implicitDefEqProofs [rW,];refine zcS rfl rfl (zKj hd (vrs q) (by omega) (by omega) (A:=1) hS (by simp only[rG];exact k1) (by omega) (by simp only[rG];omega)) ?_;rintro d2 H2 c2 lw2 mx2 ⟨hSW,hF2⟩ hcc2;simp only[rG]at hSW hF2 hcc2;have m0:=hF2 0 (by omega);rw[k0]at m0;have hlen:=zLL hSW;have hne:=zEF (hd:=hd) (zr4 q);have hkl:=zEC hd (vrs q);generalize kp hd (vrs q)=ns at*;simp -implicitDefEqProofs [rW,hlen];refine zfj (List.range ns.length) (fun i=>(syF q ns i).isSome) (XZ1 q d2 ns) (fun e s=>e= .exit 0) (fun n e s=>∃p,syF q ns n=some p/\XZR p e s) ?_ ?_ _ ?_ ?_ ?_
 ·rintro n s hn ⟨⟨h2,h7,h16,h17,h18,g0⟩,hW⟩;rw[List.length_range]at hn;rw[List.getElem_range];have hw:=zaC n (by omega);rcases hW with⟨-,e⟩ |⟨id,lim,R,rfl,gR,hRl,hRt,hid⟩
  ·rw[e]at hn;simp at hn
  have hle:=SZ.le (h:=H) (c:=0) (id:=0) hRl hRt;have hat:=fun m (hm:m<ns.length)=>zFd (id:=id) (lim:=lim) hRt hm
  have hx:=hat n hn;have hnx:ns[n]? =some ns[n]:=List.getElem?_eq_getElem hn;have hxne:=hne _ (List.getElem_mem hn);generalize hX:ns[n]=x at hx hnx hxne;have h1n:n+1≤ns.length:=by omega
  have h0n:(0:Int)≤(n:Int)+1:=by omega
  have hyn:=zzS q hnx;simp -implicitDefEqProofs [rW,h2,h7,h16,h17,h18,g0,hn,gR,hx,hw,zhZ,zfW,h1n,h0n];have hdl:(ns.drop (n+1)).length=ns.length - (n+1):=by simp
  refine zfj (ns.drop (n+1)) (syP q x) (XZ2 q (.sl id 0 ns.length 1 lim false) (.sl id (n+1) (ns.length - (n+1)) 1 lim false) ns n x) (fun e s'=>e= .exit 2/\XZ1 q (.sl id 0 ns.length 1 lim false) ns n s') (fun m e s'=>∃y,(ns.drop (n+1))[m]? =some y/\XZR (x,y) e s') ?_ ?_ _ ?_ ?_ ?_
  ·rintro m s' hm ⟨⟨h2,h7,h16,h17,h18,h9,h26,h27,h28,g0⟩,hW⟩;have hm2:m<ns.length - (n+1):=by omega
   have hw2:=zaC m (by omega);rcases hW with⟨e,-⟩ |⟨id',lim',R,e,gR,hRl,hRt,hid⟩
   ·cases e
   cases e;have hy:=zFd (id:=id) (lim:=lim) hRt (n:=n+1+m) (by omega);have hey:(ns.drop (n+1))[m]=ns[n+1+m]:=by rw[List.getElem_drop]
   have hyn2:(ns.drop (n+1))[m]? =some ns[n+1+m]:=by rw[<-hey];exact List.getElem?_eq_getElem hm
   have hyne:=hne _ (List.getElem_mem (show n+1+m<ns.length by omega));rw[hey];generalize hY:ns[n+1+m]=y at hy hyn2 hyne⊢;have q1:=fun f=>zay (k:=f) (zCL q 3 (.var x) (.var y) hq hxne hyne)
   have q2:=fun f=>zay (k:=f) (ans75 q x y hq hxne hyne)
   simp only[cqE,tmF]at q1 q2;unfold syP;generalize hb1:q.cs.any (zc7 3 (.var x) (.var y))=b1 at q1⊢;generalize hb2:zlG q x y=b2 at q2⊢;have stay:SZ s'.h s'.c (.sl id 0 ns.length 1 lim false) ns:= .inr ⟨id,lim,R,rfl,gR,hRl,hRt,hid⟩;have hYn:ns[n+1+m]? =some y:=by rw[<-hY];exact List.getElem?_eq_getElem (by omega)
   cases b1 with
   |true=>
    simp -implicitDefEqProofs [rW,h2,h7,h16,h17,h18,h9,h26,h27,h28,g0,hm2,gR,hy,q1,hw2,za7,za4];refine⟨?_,by simp -implicitDefEqProofs [rW,];exact stay⟩;simp -implicitDefEqProofs [rW,h2,h7,h16,h17,h18,h9,h26,h27,h28,g0,hw2]
   |false=>
    cases b2 with
    |true=>
     simp -implicitDefEqProofs [rW,h2,h7,h16,h17,h18,h9,h26,h27,h28,g0,hm2,gR,hy,q1,q2,hw2,za7,za4];refine⟨y,hYn,rfl,?_⟩;simp -implicitDefEqProofs [rW,h2,h7,h16,h17,h18,h9,h26,h27,h28,g0]
    |false=>
     simp -implicitDefEqProofs [rW,h2,h7,h16,h17,h18,h9,h26,h27,h28,g0,hm2,gR,hy,q1,q2,hw2,za7,za4];refine⟨?_,by simp -implicitDefEqProofs [rW,];exact stay⟩;simp -implicitDefEqProofs [rW,h2,h7,h16,h17,h18,h9,h26,h27,h28,g0,hw2]
  ·rintro s' ⟨⟨h2,h7,h16,h17,h18,h9,h26,h27,h28,g0⟩,hW⟩;rw[hdl]at h28;simp -implicitDefEqProofs [rW,h2,h7,h16,h17,h18,h9,h26,h27,h28,g0];refine⟨?_,by simp -implicitDefEqProofs [rW,];exact hW⟩;simp -implicitDefEqProofs [rW,h2,h7,h16,h17,h18,g0]
  ·refine⟨?_,by simp -implicitDefEqProofs [rW,];exact .inr ⟨id,lim,R,rfl,gR,hRl,hRt,hid⟩⟩;simp -implicitDefEqProofs [rW,h2,h7,h16,h17,h18,g0]
  ·rintro hno e s' ⟨rfl,⟨h2,h7,h16,h17,h18,g0⟩,hW⟩;have hf:(ns.drop (n+1)).find? (syP q x)=none:=List.find?_eq_none.2 fun y hy=>by rw[hno y hy];simp
   rw[hf]at hyn;simp -implicitDefEqProofs [rW,h2,h7,h16,h17,h18,g0,hw,hyn];refine⟨?_,by simp -implicitDefEqProofs [rW,];exact hW⟩;simp -implicitDefEqProofs [rW,h2,h7,h16,h17,h18,g0,hw]
  ·rintro m hm hp hbf e s' ⟨y,hy,rfl,hR⟩;have hf:(ns.drop (n+1)).find? (syP q x)=some y:=by
    rw[List.getElem?_eq_getElem hm]at hy;cases hy;exact zlJ hm hp hbf
   rw[hf]at hyn;simp -implicitDefEqProofs [rW,hyn];exact⟨x,y,⟨rfl,rfl⟩,rfl,hR⟩
 ·rintro s ⟨⟨h2,h7,h16,h17,h18,g0⟩,hW⟩;rw[List.length_range]at h18;simp -implicitDefEqProofs [rW,h2,h7,h16,h17,h18,g0]
 ·refine⟨?_,by simp -implicitDefEqProofs [rW,];exact hSW⟩;simp -implicitDefEqProofs [rW,m0]
 ·rintro hno e s rfl;have hf:sym q ns=none:=by
   unfold sym;exact zDH hno
  rw[hf];simp -implicitDefEqProofs [rW,rd_3];rfl
 ·rintro n hn hp hbf e s ⟨p,hp2,rfl,h4,h5,h6⟩;have hf:sym q ns=some p:=by
   unfold sym;rw[zyc hn hp hbf,List.getElem_range];exact hp2
  rw[hf];simp -implicitDefEqProofs [rW,h4,h5,h6,rd_3];rfl
theorem fn37:pr.fn 37=some g37:=by kernel_rfl
theorem fn13:pr.fn 13=some g13:=by kernel_rfl
def sp3(q:CQ)(x y:Str):List CQ:=[wth q ⟨3,.var x,.var y⟩,mpC (sbT y (.var x)) q,wth q ⟨3,.var y,.var x⟩]
def rkQ(hd:List Str)(c:CQ):Option (Str×Str):=sym c (kp hd (vrs c))
def rkS(hd:List Str)(l:List CQ):Option (Nat×List CQ):=match l.findIdx? fun c=>(rkQ hd c).isSome with
 |some i=>match l[i]? with
  |some c=>(rkQ hd c).map fun p=>(i,sp3 c p.1 p.2)
  |none=>none
 |none=>none
theorem zzT{c:CQ}{ns:List Str}{p:Str×Str}(h:sym c ns=some p):∃i x,ns[i]? =some x/\p.1=x/\p.2∈ns.drop (i+1)/\syP c x p.2=true:=by
 unfold sym at h;obtain⟨i,hi,h⟩ :=List.exists_of_findSome?_eq_some h;have hi2:i<ns.length:=by simpa using hi
 rw[zzS c (List.getElem?_eq_getElem hi2)]at h;cases hf:(ns.drop (i+1)).find? (syP c ns[i])with
 |none=>rw[hf]at h;cases h
 |some y=>
  rw[hf]at h;cases h;exact⟨i,_,List.getElem?_eq_getElem hi2,rfl,List.mem_of_find?_eq_some hf,List.find?_some hf⟩
theorem zKN{hd:List Str}{c:CQ}{p:Str×Str}(h:rkQ hd c=some p):p.1≠[]/\p.2≠[]:=by
 obtain⟨i,x,h1,rfl,h3,-⟩ :=zzT h;have hne:=zEF (hd:=hd) (zr4 c);exact⟨hne _ (List.mem_of_getElem? h1),hne _ (List.mem_of_mem_drop h3)⟩
def XU1(h0:T Ob)(hd:List Str)(dq:D)(l:List CQ)(c0 n:Nat)(s:St):Prop:=(s.tm.get 1=some (.ptr c0 2 0 0)/\s.tm.get 10=some (dq)/\s.tm.get 11=some (.f (.i .i64 l.length))/\s.tm.get 12=some (.f (.i .i64 n)))/\s.h.get c0=some (.arr 2 0 [[.f (zav hd),dq]])/\c0+1≤s.c/\Frm h0 s.h c0
def XUR(h0:T Ob)(c0 n:Nat)(q:CQ)(o:Option (Str×Str))(s:St):Prop:=∃p id ex,o=some p/\(s.tm.get 2=some (.f (.i .i64 n))/\s.tm.get 3=some (.sl id 0 3 2 3 ex))/\s.h.get id=some (.arr 2 0 (fD ((sp3 q p.1 p.2).map cqF)))/\c0≤id/\id<s.c/\Frm h0 s.h c0
set_option maxHeartbeats 4000000 in
theorem eff37(hd:List Str)(l:List CQ)(hQ:QG hd l){h:T Ob}{c0:Nat}{dq:D}(hD:QD h c0 dq l):Eff pr 37 [.ag [.f (zav hd),dq]] h c0 (StP (rkS hd l) h c0):=by
 obtain⟨hh,hl,hq⟩ :=hQ;refine zcG za8 fn37 ?_;simp only[g37,rU];simp -implicitDefEqProofs [rW,st0,zaj,zju hD,znn hD,zaS];refine zfj l (fun c=>(rkQ hd c).isSome) (XU1 h hd dq l c0) (fun x s=>x= .exit 0/\XU1 h hd dq l c0 l.length s) (fun n y s=>y= .ret/\∃c,l[n]? =some c/\XUR h c0 n c (rkQ hd c) s) ?_ ?_ _ ?_ ?_ ?_
 ·rintro n s hn ⟨⟨h1,h10,h11,h12⟩,g0,hlo,hF⟩;have hw:=zaC n (by omega);obtain⟨id,rows,hi,hY,hr,hid⟩ :=zwG hD hn;rw[<-hF id hid]at hY;have hqn:=hq _ (List.getElem_mem hn);have hln:l[n]? =some l[n]:=List.getElem?_eq_getElem hn;generalize hA:l[n]=A at hr hqn hln;have q1:=fun k=>zay (k:=k) (ans38 A hd hqn hh)
  have n0:¬(c0=s.c):=by omega
  have hid2:¬(id=s.c):=by omega
  have e0:rkQ hd A=sym A (kp hd (vrs A)):=rfl;cases ho:sym A (kp hd (vrs A))with
  |none=>
   rw[ho]at q1 e0;simp only[cqE,syR]at q1;simp -implicitDefEqProofs [rW,h1,h10,h11,h12,hn,hi,hY,hr,g0,n0,q1,zaS,zbX,za7,za4,e0,hw,hA];refine⟨?_,?_,by simp -implicitDefEqProofs [rW,];omega,fun x hx=> ?_⟩
   ·simp -implicitDefEqProofs [rW,h1,h10,h11,h12]
   ·simp -implicitDefEqProofs [rW,n0,g0]
   ·have nx:¬(x=s.c):=by omega
    simp -implicitDefEqProofs [rW,nx];exact hF x hx
  |some p=>
   rw[ho]at q1 e0;obtain⟨p1,p2⟩ :=zKN e0;simp only[cqE,syR]at q1;have r1:=fun k=>zay (k:=k) (zu9 A 3 (.var p.1) (.var p.2) hqn)
   have r2:=fun k=>zay (k:=k) (ans39 A p.2 p.1 p2 p1 hqn)
   have r3:=fun k=>zay (k:=k) (zCJ _ (zj6 hqn (f:=sbT p.2 (.var p.1)) (fun t ht=>ziB (s:=p.2) (t:= .var p.1) p1 ht)).toCqSm)
   have r4:=fun k=>zay (k:=k) (zu9 A 3 (.var p.2) (.var p.1) hqn)
   simp only[cqE,tmF]at r1 r2 r3 r4;simp -implicitDefEqProofs [rW,h1,h10,h11,h12,hn,hi,hY,hr,g0,n0,q1,zaS,zbX,za7,za4,e0,hw,hA];refine zbY ?_;simp -implicitDefEqProofs [rW,h1,h10,h11,h12,za7,za4,r1,r2,r3,r4];refine⟨A,hln,p,s.c+1+1+1+1+1+1+1+1+1+1+1+1+1+1+1+1+1+1+1+1,true,e0,⟨?_,?_⟩,?_,?_,?_,fun x hx=> ?_⟩
   ·simp -implicitDefEqProofs [rW,]
   ·simp -implicitDefEqProofs [rW,]
   ·simp -implicitDefEqProofs [rW,];rfl
   ·omega
   ·simp -implicitDefEqProofs [rW,]
   ·have nx:¬(x=s.c):=by omega
    have ny:¬(x=s.c+1+1+1+1+1+1+1+1+1+1+1+1+1+1+1+1+1+1+1+1):=by omega
    simp -implicitDefEqProofs [rW,nx,ny];exact hF x hx
 ·rintro s ⟨⟨h1,h10,h11,h12⟩,g0,hlo,hF⟩;simp -implicitDefEqProofs [rW,h1,h10,h11,h12];refine⟨?_,by simp -implicitDefEqProofs [rW,];exact g0,by simp -implicitDefEqProofs [rW,];exact hlo,by simp -implicitDefEqProofs [rW,];exact hF⟩;simp -implicitDefEqProofs [rW,h1,h10,h11,h12]
 ·refine⟨?_,?_,?_,fun x hx=> ?_⟩
  ·simp -implicitDefEqProofs [rW,st0,zaj]
  ·simp -implicitDefEqProofs [rW,]
  ·simp -implicitDefEqProofs [rW,]
  ·have nx:¬(x=c0):=by omega
   simp -implicitDefEqProofs [rW,nx]
 ·rintro hno x s ⟨rfl,⟨h1,h10,h11,h12⟩,g0,hlo,hF⟩;have hst:rkS hd l=none:=by
   unfold rkS;rw[show(l.findIdx? fun c=>(rkQ hd c).isSome)=none from List.findIdx?_eq_none_iff.2 hno]
  rw[hst];simp -implicitDefEqProofs [rW,h1,h10,h11,h12,zbR];exact⟨⟨hF,rfl⟩,fun _=>⟨fun _ _=>rfl,rfl⟩⟩
 ·rintro n hn hp hbf y s ⟨rfl,q,hqn,p,id,ex,ho,⟨h2,h3⟩,gI,hi1,hi2,hF⟩;have hst:rkS hd l=some (n,sp3 q p.1 p.2):=by
   unfold rkS;rw[show(l.findIdx? fun c=>(rkQ hd c).isSome)=some n from List.findIdx?_eq_some_iff_getElem.2 ⟨hn,hp,fun j hj=>by simpa using hbf j hj⟩];simp only[hqn,ho,Option.map_some]
  rw[hst];simp -implicitDefEqProofs [rW,h2,h3,zbR];exact⟨hF,id,ex,rfl,gI,hi1,hi2⟩
theorem zpL{hd:List Str}{l0:List CQ}(hQ0:QG hd l0){k:Nat}{r:Option (List CQ)}(hR:RwN hd (rkS hd) k (zaV hd l0) r):Ans pr 13 [.ag [zav hd,qsF l0]] (rwF hd r):=by
 refine zcm fn13 ?_;simp only[g13,rU];simp -implicitDefEqProofs [rW,st0,zaj,zaS,zeF];refine zcS rfl rfl (zDx hQ0 (stp:=rkS hd) (fv:= .f (.fn 37)) rfl (fun l hQ h c dq hD=>eff37 hd l hQ hD) hR) ?_;rintro d H c1 lw1 mx1 ⟨hF1,hP⟩ hcc;simp only[rG]at hF1 hP hcc;have k1:=hF1 1 (by omega);simp[Vse.T.zad]at k1;cases r with
 |none=>
  simp only[RwP]at hP;subst hP;simp -implicitDefEqProofs [rW,k1];exact⟨by omega,rfl⟩
 |some l=>
  obtain⟨dq,rfl,hE⟩ :=hP;have hE2:=hE.up (h':=H.set 1 (.arr 2 0 [[.f (zav hd),dq]])) (fun x h1 h2=>by
   have y:¬(x=1):=by omega
   simp[Vse.T.zad,y]) (Nat.le_refl _)
  obtain⟨rd,hz⟩ :=zyV hE2 8;have hz:frz (H.set 1 (.arr 2 0 [[.f (zav hd),dq]])).get 10 dq=some (qsF l,rd):=hz;simp -implicitDefEqProofs [rW,k1,hz,zlV hE];exact⟨by omega,rfl⟩
theorem fn21:pr.fn 21=some g21:=by kernel_rfl
theorem qb{f:Nat}{fs gs:List F}{x y:F}(h:Ans pr f fs x)(e1:fs=gs)(e2:x=y):Ans pr f gs y:=by rw[<-e1,<-e2];exact h
def kA:CQ:=⟨[⟨[82],false,[.var [120],.var [121]]⟩,⟨[82],false,[.cst 1,.var [122]]⟩],[],false,false⟩
def kB:CQ:=⟨[⟨[82],false,[.cst 1,.var [121]]⟩,⟨[82],false,[.cst 1,.var [122]]⟩],[],false,false⟩
def kC:CQ:=⟨[⟨[82],false,[.var [120],.var [121]]⟩,⟨[82],false,[.cst 1,.var [122]]⟩],[⟨2,.var [120],.cst 1⟩],false,false⟩
def kD:CQ:=⟨[⟨[82],false,[.var [120],.var [121]]⟩,⟨[82],false,[.var [121],.var [120]]⟩],[],false,false⟩
def kE:CQ:=⟨[⟨[82],false,[.var [120],.var [121]]⟩,⟨[82],false,[.var [121],.var [120]]⟩],[⟨3,.var [120],.var [121]⟩],false,false⟩
def kF:CQ:=⟨[⟨[82],false,[.var [120],.var [120]]⟩,⟨[82],false,[.var [120],.var [120]]⟩],[],false,false⟩
def kG:CQ:=⟨[⟨[82],false,[.var [120],.var [121]]⟩,⟨[82],false,[.var [121],.var [120]]⟩],[⟨3,.var [121],.var [120]⟩],false,false⟩
theorem k0:Ans pr 54 [.s [82,40,120,44,32,121,41,44,32,82,40,49,44,32,122,41]] (.tu [.ag [zav [],qsF [kA]],.i .i64 0]):=qb kn0 rfl (by kernel_rfl)
theorem k1:Ans pr 54 [.s [82,40,120,44,32,121,41,44,32,82,40,121,44,32,120,41]] (.tu [.ag [zav [],qsF [kD]],.i .i64 0]):=qb kn1 rfl (by kernel_rfl)
theorem k2:Ans pr 16 [.ag [zav [],qsF [kA]]] (.sl 3 [[.i .i64 1,.i .i64 1,.s []]]):=qb kn2 (by kernel_rfl) rfl
theorem s1:zaV [] [kA]=[kA]:=by kernel_rfl
theorem s2:shS [] [kA]=some (0,spl kA [120] 1):=by kernel_rfl
theorem s3:zaV [] (rp [kA] 0 (spl kA [120] 1))=[kB,kC]:=by kernel_rfl
theorem s4:shS [] [kB,kC]=none:=by kernel_rfl
theorem s5:zaV [] [kD]=[kD]:=by kernel_rfl
theorem s6:rkS [] [kD]=some (0,sp3 kD [120] [121]):=by kernel_rfl
theorem s7:zaV [] (rp [kD] 0 (sp3 kD [120] [121]))=[kE,kF,kG]:=by kernel_rfl
theorem s8:rkS [] [kE,kF,kG]=none:=by kernel_rfl
theorem gA:CqG kA:=⟨⟨⟨by simp[kA,zbl,zax],by simp[kA],by simp[kA],by simp[kA]⟩,by simp[kA],by simp[kA],by simp[kA],by simp[kA]⟩,by simp[kA]⟩
theorem gB:CqG kB:=⟨⟨⟨by simp[kB,zbl,zax],by simp[kB],by simp[kB],by simp[kB]⟩,by simp[kB],by simp[kB],by simp[kB],by simp[kB]⟩,by simp[kB]⟩
theorem gC:CqG kC:=⟨⟨⟨by simp[kC,zbl,zax],by simp[kC,zbn,zax],by simp[kC],by simp[kC]⟩,by simp[kC],by simp[kC],by simp[kC],by simp[kC]⟩,by simp[kC]⟩
theorem gD:CqG kD:=⟨⟨⟨by simp[kD,zbl,zax],by simp[kD],by simp[kD],by simp[kD]⟩,by simp[kD],by simp[kD],by simp[kD],by simp[kD]⟩,by simp[kD]⟩
theorem gE:CqG kE:=⟨⟨⟨by simp[kE,zbl,zax],by simp[kE,zbn,zax],by simp[kE],by simp[kE]⟩,by simp[kE],by simp[kE],by simp[kE],by simp[kE]⟩,by simp[kE]⟩
theorem gF:CqG kF:=⟨⟨⟨by simp[kF,zbl,zax],by simp[kF],by simp[kF],by simp[kF]⟩,by simp[kF],by simp[kF],by simp[kF],by simp[kF]⟩,by simp[kF]⟩
theorem gG:CqG kG:=⟨⟨⟨by simp[kG,zbl,zax],by simp[kG,zbn,zax],by simp[kG],by simp[kG]⟩,by simp[kG],by simp[kG],by simp[kG],by simp[kG]⟩,by simp[kG]⟩
theorem qg(l:List CQ)(hl:l.length≤1000)(h:∀c∈l,CqG c):QG [] l:=⟨by simp,hl,h⟩
theorem rwA:RwN [] (shS []) 1 (zaV [] [kA]) (some [kB,kC]):=by
 rw[s1];have h1:QG [] [kA]:=qg _ (by simp) (by simp[gA]);have h2:RwN [] (shS []) 0 (zaV [] (rp [kA] 0 (spl kA [120] 1))) (some [kB,kC]):=by
  rw[s3];exact .stop (qg _ (by simp) (by simp[gB,gC])) (by simp) s4
 refine .go h1 (by simp) s2 (by simp) (by simp[spl]) (by simp[spl]) (by simp[rp,spl]) (qg _ (by simp[rp,spl]) ?_) h2;intro c hc;simp only[rp,spl,List.take_zero,List.nil_append,List.mem_append,List.mem_cons,List.not_mem_nil,or_false]at hc;rcases hc with(rfl|rfl)|hc
 ·exact zj6 gA fun t ht=>zuB t ht
 ·exact zk1 gA ⟨by simp[zax],trivial⟩ (by simp[kA])
 ·simp at hc
theorem rwD:RwN [] (rkS []) 1 (zaV [] [kD]) (some [kE,kF,kG]):=by
 rw[s5];have h1:QG [] [kD]:=qg _ (by simp) (by simp[gD]);have h2:RwN [] (rkS []) 0 (zaV [] (rp [kD] 0 (sp3 kD [120] [121]))) (some [kE,kF,kG]):=by
  rw[s7];exact .stop (qg _ (by simp) (by simp[gE,gF,gG])) (by simp) s8
 refine .go h1 (by simp) s6 (by simp) (by simp[sp3]) (by simp[sp3]) (by simp[rp,sp3]) (qg _ (by simp[rp,sp3]) ?_) h2;intro c hc;simp only[rp,sp3,List.take_zero,List.nil_append,List.mem_append,List.mem_cons,List.not_mem_nil,or_false]at hc;rcases hc with(rfl|rfl|rfl)|hc
 ·exact zk1 gD ⟨by simp[zax],by simp[zax]⟩ (by simp[kD])
 ·exact zj6 gD fun t ht=>ziB (by simp[zax]) ht
 ·exact zk1 gD ⟨by simp[zax],by simp[zax]⟩ (by simp[kD])
 ·simp at hc
theorem ans21:Ans pr 21 [] (.b true):=by
 refine zcm fn21 ?_;have q0:=fun f=>zay (k:=f) k0
 have q1:=fun f=>zay (k:=f) k1
 have q2:=fun f=>zay (k:=f) k2
 have q3:=fun f=>zay (k:=f) (zpJ (qg [kA] (by simp) (by simp[gA])) rwA)
 have q4:=fun f=>zay (k:=f) (zpL (qg [kD] (by simp) (by simp[gD])) rwD)
 simp only[rwF]at q3 q4;have hl:kC.cs.length=1:=rfl;simp only[g21,rU];simp -implicitDefEqProofs [rW,st0,zaj,q0,q1,q2,q3,q4,zaS,zeF,ziz,zwH,cqE,za7,za4,zfg,hl]
theorem zF0{l:List Str}{v:Str}(h:l.Nodup):(zdr l v).Nodup:=by
 unfold zdr;split
 ·exact h
 ·rename_i hn;rw[List.nodup_append];refine⟨h,by simp,fun a ha b hb e=> ?_⟩;rw[List.mem_singleton.1 hb]at e;subst e;exact hn (.inr (by simpa using ha))
theorem zAo(ts:List Trm):∀{l:List Str},l.Nodup->(zcL l ts).Nodup:=by
 unfold zcL
 induction ts with
 |nil=>exact fun h=>h
 |cons t ts ih=>exact fun h=>ih (zF0 h)
theorem zLP(c:CQ):(vrs c).Nodup:=by
 rw[<-zr5 c];exact zAo (tsC c) List.nodup_nil
theorem kp_nd{hd l:List Str}(h:l.Nodup):(kp hd l).Nodup:=h.filter _
theorem zBJ{hd:List Str}{c:CQ}{p:Str×Str}(h:rkQ hd c=some p):p.1∈vrs c/\p.2∈vrs c/\p.1≠p.2/\c.cs.any (zc7 3 (.var p.1) (.var p.2))=false:=by
 obtain⟨i,x,h1,rfl,h3,h4⟩ :=zzT h;have hm:∀s∈kp hd (vrs c),s∈vrs c:=fun s hs=>(List.mem_filter.1 hs).1
 have hnd:=kp_nd (hd:=hd) (zLP c);refine⟨hm _ (List.mem_of_getElem? h1),hm _ (List.mem_of_mem_drop h3),fun e=> ?_,?_⟩
 ·obtain⟨j,hj,hj2⟩ :=List.mem_iff_getElem.1 h3;rw[List.getElem_drop]at hj2;simp at hj;obtain⟨hi,hi2⟩ :=List.getElem?_eq_some_iff.1 h1;exact List.pairwise_iff_getElem.1 hnd i (i+1+j) hi (by omega) (by omega) (by rw[hi2,hj2,e])
 ·unfold syP at h4;simp only[Bool.and_eq_true,Bool.not_eq_true']at h4;exact h4.1
theorem zBK{hd:List Str}{l M:List CQ}{i:Nat}(h:rkS hd l=some (i,M)):∃(hi:i<l.length) (p:Str×Str),rkQ hd l[i]=some p/\M=sp3 l[i] p.1 p.2:=by
 unfold rkS at h;split at h
 ·rename_i j hj;obtain⟨h1,h2⟩ :=zgT hj;rw[List.getElem?_eq_getElem h1]at h;cases hq:rkQ hd l[j]with
  |none=>rw[hq]at h2;cases h2
  |some p=>
   simp only[hq,Option.map_some,Option.some.injEq,Prod.mk.injEq]at h;obtain⟨rfl,rfl⟩ :=h;exact⟨h1,p,hq,rfl⟩
 ·cases h
theorem pow_3{B m a b d:Nat}(hB:4≤B)(h1:a<m)(h2:b<m)(h3:d<m):B ^ a+(B ^ b+B ^ d)<B ^ m:=by
 obtain⟨n,rfl⟩ :∃n,m=n+1:=⟨m - 1,by omega⟩
 have k1:B ^ a≤B ^ n:=Nat.pow_le_pow_right (by omega) (by omega);have k2:B ^ b≤B ^ n:=Nat.pow_le_pow_right (by omega) (by omega);have k6:B ^ d≤B ^ n:=Nat.pow_le_pow_right (by omega) (by omega);have k3:0<B ^ n:=Nat.pow_pos (by omega);have k4:B ^ (n+1)=B ^ n*B:=Nat.pow_succ ..;have k5:B ^ n*4≤B ^ n*B:=Nat.mul_le_mul_left _ hB;omega
def prv(V:List Str):List (Trm×Trm):=V.flatMap fun s=>(V.filter (· != s)).map fun v=>(.var s,.var v)
theorem zHw{V:List Str}{s v:Str}(h1:s∈V)(h2:v∈V)(h3:s≠v):(Trm.var s,Trm.var v)∈prv V:=List.mem_flatMap.2 ⟨s,h1,List.mem_map.2 ⟨v,List.mem_filter.2 ⟨h2,by simpa using fun e=>h3 e.symm⟩,rfl⟩⟩
theorem zyS{V:List Str}:∀p∈prv V,Gd p:=by
 intro p hp;obtain⟨s,-,hp⟩ :=List.mem_flatMap.1 hp;obtain⟨v,hv,rfl⟩ :=List.mem_map.1 hp;have:=(List.mem_filter.1 hv).2;refine⟨fun e=> ?_,by rintro⟨a,b,e⟩;cases e⟩;cases e;simp at this
theorem zKO(hd:List Str)(V:List Str)(K:List Int)(hV:∀s∈V,s≠[]):Dcr 4 3 (prv V) (PTm V K) (rkS hd):=by
 intro l hl i M h;obtain⟨hi,p,hp,rfl⟩ :=zBK h;have hI:=hl _ (List.getElem_mem hi);obtain⟨h1,h2,h3,h4⟩ :=zBJ hp;generalize hc0:l[i]=c at*;have i1:=(zou.1 h1).2;have i2:=(zou.1 h2).2;have s1:p.1∈V:=hI.t _ i1;have s2:p.2∈V:=hI.t _ i2;have hu:unc 3 c (.var p.1,.var p.2)=true:=zey.2 ⟨zgg i1,zgg i2,h4⟩;have hL:=zHw s1 s2 h3;obtain⟨k1,k2⟩ :=ztC hI (s:=p.2) (t:= .var p.1) (zgg i1) s1 (hV _ s1) (by simpa using h3) hL hu (.inr rfl);obtain⟨k3,k4⟩ :=zlQ hI (k:=⟨3,.var p.1,.var p.2⟩) (zgg i1) (zgg i2) ⟨hV _ s1,hV _ s2⟩ s1 s2 hL hu znC;obtain⟨k5,k6⟩ :=zlQ hI (k:=⟨3,.var p.2,.var p.1⟩) (zgg i2) (zgg i1) ⟨hV _ s2,hV _ s1⟩ s2 s1 hL hu zsl;refine⟨hi,by simp[sp3],by simp[sp3],fun d hd=> ?_,?_⟩
 ·simp only[sp3,List.mem_cons,List.not_mem_nil,or_false]at hd;rcases hd with rfl|rfl|rfl
  ·exact k3
  ·exact k1
  ·exact k5
 ·have:=pow_3 (B:=4) (by omega) k4 k2 k6;simpa [mu,sp3,hc0]using this
def Vs:List Str:=[[120],[121],[122]]
theorem zCG:∀s∈Vs,s≠[]:=by simp[Vs]
def cnc:Trm->Option Int
 | .cst n=>some n
 | .var _=>none
def Ks(l:List CQ):List Int:=l.flatMap fun c=>(tsC c).filterMap cnc
theorem zmF{α β:Type}(f:α->List β)(m:Nat):∀(l:List α),(∀a∈l,(f a).length≤m)->(l.flatMap f).length≤m*l.length
 |[],_=>by simp
 |a::l,h=>by
  have h1:=zmF f m l fun b hb=>h b (by simp[hb])
  have h2:=h a (by simp);rw[List.flatMap_cons,List.length_append,List.length_cons,Nat.mul_add];omega
theorem zIA{m:Nat}{c:CQ}(h:CqW m c):(tsC c).length≤6+2*m:=by
 have h1:=zmF (fun a:Atm=>a.ts) 2 c.as fun a ha=>(h.al a ha).2
 have h2:=zmF ts2 2 c.cs fun k _=>by simp[ts2]
 have:=h.la;have:=h.lc;unfold tsC tsA;rw[List.length_append];omega
theorem zIT{l:List CQ}(h:∀c∈l,CqW 4 c):(Ks l).length≤14*l.length:=
 zmF _ 14 l fun c hc=>Nat.le_trans (List.length_filterMap_le _ _) (zIA (h c hc))
theorem ptW{m:Nat}{l:List CQ}{c:CQ}(hc:c∈l)(h:CqW m c):∀t∈tsC c,PTm Vs (Ks l) t:=by
 intro t ht;cases t with
 |var s=>
  have hv:TmV (.var s):=by
   rcases zdp.1 ht with⟨a,ha,h1⟩ |⟨k,hk,h1⟩
   ·exact (h.av a ha).2 _ h1
   ·rcases h1 with h1|h1
    ·rw[h1];exact (h.cv k hk).1
    ·rw[h1];exact (h.cv k hk).2
  rcases hv with rfl|rfl|rfl<;>simp[PTm,Vs]
 |cst n=>exact List.mem_flatMap.2 ⟨c,hc,List.mem_filterMap.2 ⟨_,ht,rfl⟩⟩
theorem zHu(V:List Str)(K:List Int):(prs V K).length≤K.length*V.length:=zmF _ _ V fun s _=>by simp
theorem zyx{l:List CQ}(hl:l.length≤4)(h:∀c∈l,CqW 4 c):∀c∈l,zeS 2 (prs Vs (Ks l)) (PTm Vs (Ks l)) c:=by
 intro c hc;refine⟨(h c hc).g (by omega),ptW hc (h c hc),?_⟩;have h1:cnt 2 (prs Vs (Ks l)) c≤(prs Vs (Ks l)).length:=List.countP_le_length;have h2:=zHu Vs (Ks l);have h3:=zIT h;have h4:=(h c hc).lc;have h5:Vs.length=3:=rfl;rw[h5]at h2;omega
theorem zKC{l:List CQ}(h:∀c∈l,CqW 4 c):∀c∈l,zeS 3 (prv Vs) (PTm Vs (Ks l)) c:=by
 intro c hc;refine⟨(h c hc).g (by omega),ptW hc (h c hc),?_⟩;have h1:cnt 3 (prv Vs) c≤(prv Vs).length:=List.countP_le_length;have h4:=(h c hc).lc;have h5:(prv Vs).length=6:=by kernel_rfl
 omega
theorem zLC{hd:List Str}{l:List CQ}(hh:hd.length<10)(hl:l.length≤4)(h:∀c∈l,CqW 4 c):∃k r,RwN hd (shS hd) k (zaV hd l) r/\∀m,r=some m->(∀c∈m,zeS 2 (prs Vs (Ks l)) (PTm Vs (Ks l)) c/\Smd hd c)/\shS hd m=none/\m.length≤64:=by
 obtain⟨k1,k2,k3⟩ :=zhB (B:=3) (by omega) (.inl rfl) zri (hd:=hd) (zyx hl h);obtain⟨r,hr,hr2⟩ :=zE9 (B:=3) (by omega) (.inl rfl) zri (show hd.length<1000 by omega) (zLB hd Vs (Ks l) zCG) _ (zaV hd l) (by omega) k1 (Nat.le_refl _);exact⟨_,r,hr,hr2⟩
theorem zKR{hd:List Str}{l:List CQ}(hh:hd.length<10)(hl:l.length≤4)(h:∀c∈l,CqW 4 c):∃k r,RwN hd (rkS hd) k (zaV hd l) r/\∀m,r=some m->(∀c∈m,zeS 3 (prv Vs) (PTm Vs (Ks l)) c/\Smd hd c)/\rkS hd m=none/\m.length≤64:=by
 obtain⟨k1,k2,k3⟩ :=zhB (B:=4) (by omega) (.inr rfl) zyS (hd:=hd) (zKC h);obtain⟨r,hr,hr2⟩ :=zE9 (B:=4) (by omega) (.inr rfl) zyS (show hd.length<1000 by omega) (zKO hd Vs (Ks l) zCG) _ (zaV hd l) (by omega) k1 (Nat.le_refl _);exact⟨_,r,hr,hr2⟩
theorem fn5:pr.fn 5=some g5:=by kernel_rfl
theorem zgc{l:List CQ}{h:T Ob}{id ro:Nat}(hne:l≠[])(hg:h.get id=some (.arr 2 ro (fD (l.map cqF)))):frz h.get 11 (.sl id 0 l.length 2 l.length false)=some (qsF l,[id]):=by
 have hl:(fD (l.map cqF)).length=l.length:=by rw[zgb,List.length_map]
 have e2:((fD (l.map cqF)).drop 0).take l.length=(l.map cqF).map fun a=>a.map D.f:=by
  rw[List.drop_zero,<-hl,List.take_length];rfl
 have e:=zgW h.get 9 (l.map cqF);rw[zdf,hg,zaT,zcH,if_pos ⟨rfl,by rw[hl];omega⟩,e2,e,zaT,zcz (by simpa using hne)];rfl
theorem zmB{hd:List Str}{l:List CQ}(hQ:QG hd l){h:T Ob}{n:Nat}{dq:D}(hD:QD h n dq l):Eff pr 19 [.ag [.f (zav hd),dq]] h n fun d h' c'=>(∀x,x<n->dq.oid≠some x->h'.get x=h.get x)/\(∃dq',d= .ag [.f (zav hd),dq']/\QE h' n c' dq' (zaV hd l))/\((dq= .f .nils/\l=[])\/∃id,dq= .sl id 0 l.length 2 l.length false/\l≠[]/\id<n/\h'.get id=some (.arr 2 l.length (fD (l.map cqF)))):=by
 have key:∃rd,zbN h.get [.ag [.f (zav hd),dq]]=some ([.ag [zav hd,qsF l]],rd)/\(∀x∈rd,x<n)/\(∀x,dq.oid≠some x->(wrT h (zao h.get rd)).get x=h.get x)/\((dq= .f .nils/\l=[])\/∃id,dq= .sl id 0 l.length 2 l.length false/\l≠[]/\id<n/\(wrT h (zao h.get rd)).get id=some (.arr 2 l.length (fD (l.map cqF)))):=by
  rcases hD with⟨rfl,rfl⟩ |⟨id,rfl,hne,hg,hid⟩
  ·exact⟨[],rfl,by simp,(fun x _=>rfl),.inl ⟨rfl,rfl⟩⟩
  ·have hl:(fD (l.map cqF)).length=l.length:=by rw[zgb,List.length_map]
   have hz:frz h.get 11 (.sl id 0 l.length 2 l.length false)=some (qsF l,[id]):=zgc hne hg;have h0:¬((fD (l.map cqF)).length≤0):=by
    rw[hl];intro e;exact hne (List.length_eq_zero_iff.1 (by omega))
   refine⟨[id],?_,by simpa using hid,fun x hx=> ?_,.inr ⟨id,rfl,hne,hid,?_⟩⟩
   ·simp -implicitDefEqProofs [rW,hz]
   ·have hx':¬x=id:=fun e=>hx (by rw[e];rfl)
    rw[zru,hg,zkI,if_neg h0,zrv,zoF,zoE,Vse.T.zad,if_neg hx']
   ·rw[zru,hg,zkI,if_neg h0,zrv,zoF,zoE,Vse.T.zad,if_pos rfl,hl]
 obtain⟨rd,hz,hr,hlow,hfr⟩ :=key;obtain⟨q,h1,h2,h3⟩ :=zvs (h:=h) (n:=n) hQ hz hr;refine⟨q,h1,?_,h3⟩;rcases h2 with⟨e,h4,h5,h6⟩ |⟨e,h4,h5,h6⟩
 ·rw[h4,h5,e];exact⟨fun x _=>hlow x,⟨_,rfl,.inl ⟨rfl,rfl⟩⟩,hfr⟩
 ·rw[h4,h5,h6];have hs:∀x,x<n->((wrT h (zao h.get rd)).set n (.arr 2 0 (fD ((zaV hd l).map cqF)))).get x=(wrT h (zao h.get rd)).get x:=fun x hx=>by
   have:¬x=n:=by omega
   rw[Vse.T.zad,if_neg this]
  refine⟨fun x hx hne=> ?_,⟨_,rfl,.inr ⟨n,rfl,e,by simp[Vse.T.zad],Nat.le_refl _,Nat.lt_succ_self _⟩⟩,?_⟩
  ·rw[hs x hx];exact hlow x hne
  ·rcases hfr with hh|⟨id,a1,a2,a3,a4⟩
   ·exact .inl hh
   ·exact .inr ⟨id,a1,a2,a3,by rw[hs id a3];exact a4⟩
theorem zlg{h:T Ob}{lo c id a b:Nat}{e:Bool}{l:List CQ}(H:QE h lo c (.sl id 0 a 2 b e) l):id<c:=by
 rcases H with⟨e,-⟩ |⟨i,e,-,-,-,h5⟩
 ·cases e
 ·cases e;exact h5
theorem zhz(l:List CQ):EqvL l l:=⟨rfl,fun _ _ _=>⟨rfl,rfl⟩⟩
set_option maxHeartbeats 4000000 in
theorem ans5w{x:F}(hx:zgd x){n:Int}{hd:List Str}{l0:List CQ}(hQ0:QG hd l0)(h6:Ans pr 6 [x,.i .i64 n] (.ag [zav hd,qsF l0]))(hm:QG hd (zaV hd l0))(hml:(zaV hd l0).length<1000)(hmm:zaV hd (zaV hd l0)=zaV hd l0)
  {k1:Nat}{r1:Option (List CQ)}(hR1:RwN hd (shS hd) k1 (zaV hd l0) r1)(hr1:∀l,r1=some l->QG hd l/\l.length≤64/\RwN hd (shS hd) 0 (zaV hd l) (some l))
  {k2:Nat}{r2:Option (List CQ)}(hR2:RwN hd (rkS hd) k2 (zaV hd l0) r2)(hr2:∀l,r2=some l->QG hd l/\l.length≤64/\RwN hd (rkS hd) 0 (zaV hd l) (some l)):Ans pr 5 [x,.i .i64 n] (.b true):=by
 refine zcm fn5 ?_;have q6:=fun f=>zay (k:=f) h6
 have q11:=fun f=>zay (k:=f) (zpJ hQ0 hR1)
 have q13:=fun f=>zay (k:=f) (zpL hQ0 hR2)
 have q21:=fun f=>zay (k:=f) ans21
 have hh:=hQ0.1;have q18:=fun f=>zay (k:=f) (zmq hd (zaV hd l0) (zaV hd l0) hh (fun c hc=>(hm.2.2 c hc).toCqSm) hml (zhz _))
 generalize hm0:zaV hd l0=m at*;simp only[g5,rU];simp -implicitDefEqProofs [rW,st0,zaj,zk5 hx,q6,zaS,zeF];refine zcS rfl rfl (zxR hQ0) ?_;rintro d H c1 lw1 mx1 ⟨hF1,dq,rfl,hE⟩ hcc;simp only[rG]at hF1 hE hcc;rw[hm0]at hE;have k0:=hF1 0 (by omega);simp[Vse.T.zad]at k0;have n0:¬(0=c1):=by omega
 have hcell:=zlV hE;have mA:¬(c1=c1+1):=by omega
 have mB:¬(c1=c1+1+1):=by omega
 have hne:∀z,c1≤z->dq.oid≠some z:=fun z hz e=>by
  rcases hE with⟨rfl,-⟩ |⟨id,rfl,-,-,-,h5⟩
  ·simp[D.oid]at e
  ·simp[D.oid]at e;omega
 cases r1 with
 |none=>
  cases r2 with
  |none=>
   simp only[rwF]at q11 q13;simp -implicitDefEqProofs [rW,k0,n0,hcell,q11,q13,zaS,zeF];refine zhy ?_;simp -implicitDefEqProofs [rW,k0,hcell,mA,mB];refine zov rfl rfl (zmB hm (dq:=dq) (zlc hE.d (fun z hz=> ?_) ?_)) ?_
   ·simp only[rG];have z1:¬(z=c1):=by omega
    have z2:¬(z=c1+1):=by omega
    have z3:¬(z=c1+1+1):=by omega
    simp -implicitDefEqProofs [rW,z1,z2,z3]
   ·simp only[rG];omega
   rintro d2 H2 c2 lw2 mx2 ⟨hF2,⟨dq2,rfl,hE2⟩,hfz⟩ hcc2 hmm2;rw[hmm]at hE2;simp only[rG]at hF2 hE2 hcc2 hmm2;have e1:=hF2 c1 (by omega) (hne c1 (Nat.le_refl _));have e2:=hF2 (c1+1) (by omega) (hne _ (by omega));have e3:=hF2 (c1+1+1) (by omega) (hne _ (by omega));simp[Vse.T.zad,mA,mB]at e1 e2 e3;have vM1:¬(c1=mx2+1):=by omega
   have vM2:¬(c1=mx2+2):=by omega
   have vM3:¬(c1=mx2):=by omega
   rcases hfz with⟨rfl,e0⟩ |⟨id,rfl,hm1,hid,hgid⟩
   ·rcases hE2 with⟨rfl,-⟩ |⟨id2,-,hm2,-⟩
    ·rw[e0]at q18;simp only[show qsF []=F.nils from rfl]at q18;simp -implicitDefEqProofs [rW,mA,mB,vM1,vM2,vM3,e1,e2,e3,q18,q21,zaS,zeF]
    ·exact absurd e0 hm2
   ·rcases hE2 with⟨-,e0⟩ |⟨id2,rfl,hm2,hg2,hi1,hi2⟩
    ·exact absurd e0 hm1
    ·have z1:=zgc hm1 hgid;have z2:=zgc hm2 hg2;have hx:id<c1:=(zlg hE)
     have y1:¬(c1=id2):=by omega
     have y2:¬(c1+1=id2):=by omega
     have y3:¬(c1+1+1=id2):=by omega
     have y4:id2<mx2:=by omega
     have y5:id2<mx2+1:=by omega
     simp -implicitDefEqProofs [rW,mA,mB,vM1,vM2,vM3,e1,e2,e3,q18,q21,zaS,zeF,z1,z2,hgid,hg2,zgb,hm1,y1,y2,y3,y4,y5]
  |some l2=>
   obtain⟨g2,hl2,w2⟩ :=hr2 l2 rfl;have p2:=fun f=>zay (k:=f) (zpL g2 w2)
   have p4:=fun f=>zay (k:=f) (zmq hd l2 l2 hh (fun c hc=>(g2.2.2 c hc).toCqSm) (by omega) (zhz _))
   simp only[rwF]at q11 q13 p2;simp -implicitDefEqProofs [rW,k0,n0,hcell,q11,q13,zaS,zeF];refine zhy ?_;simp -implicitDefEqProofs [rW,k0,hcell,mA,mB];refine zov rfl rfl (zmB hm (dq:=dq) (zlc hE.d (fun z hz=> ?_) ?_)) ?_
   ·simp only[rG];have z1:¬(z=c1):=by omega
    have z2:¬(z=c1+1):=by omega
    have z3:¬(z=c1+1+1):=by omega
    simp -implicitDefEqProofs [rW,z1,z2,z3]
   ·simp only[rG];omega
   rintro d2 H2 c2 lw2 mx2 ⟨hF2,⟨dq2,rfl,hE2⟩,hfz⟩ hcc2 hmm2;rw[hmm]at hE2;simp only[rG]at hF2 hE2 hcc2 hmm2;have e1:=hF2 c1 (by omega) (hne c1 (Nat.le_refl _));have e2:=hF2 (c1+1) (by omega) (hne _ (by omega));have e3:=hF2 (c1+1+1) (by omega) (hne _ (by omega));simp[Vse.T.zad,mA,mB]at e1 e2 e3;have vM1:¬(c1=mx2+1):=by omega
   have vM2:¬(c1=mx2+2):=by omega
   have vM3:¬(c1=mx2):=by omega
   rcases hfz with⟨rfl,e0⟩ |⟨id,rfl,hm1,hid,hgid⟩
   ·rcases hE2 with⟨rfl,-⟩ |⟨id2,-,hm2,-⟩
    ·rw[e0]at q18;simp only[show qsF []=F.nils from rfl]at q18;simp -implicitDefEqProofs [rW,mA,mB,vM1,vM2,vM3,e1,e2,e3,q18,q21,zaS,zeF,p2,p4]
    ·exact absurd e0 hm2
   ·rcases hE2 with⟨-,e0⟩ |⟨id2,rfl,hm2,hg2,hi1,hi2⟩
    ·exact absurd e0 hm1
    ·have z1:=zgc hm1 hgid;have z2:=zgc hm2 hg2;have hx:id<c1:=(zlg hE)
     have y1:¬(c1=id2):=by omega
     have y2:¬(c1+1=id2):=by omega
     have y3:¬(c1+1+1=id2):=by omega
     have y4:id2<mx2:=by omega
     have y5:id2<mx2+1:=by omega
     simp -implicitDefEqProofs [rW,mA,mB,vM1,vM2,vM3,e1,e2,e3,q18,q21,zaS,zeF,z1,z2,hgid,hg2,zgb,hm1,y1,y2,y3,y4,y5,p2,p4]
 |some l1=>
  cases r2 with
  |none=>
   obtain⟨g1,hl1,w1⟩ :=hr1 l1 rfl;have p1:=fun f=>zay (k:=f) (zpJ g1 w1)
   have p3:=fun f=>zay (k:=f) (zmq hd l1 l1 hh (fun c hc=>(g1.2.2 c hc).toCqSm) (by omega) (zhz _))
   simp only[rwF]at q11 q13 p1;simp -implicitDefEqProofs [rW,k0,n0,hcell,q11,q13,zaS,zeF];refine zhy ?_;simp -implicitDefEqProofs [rW,k0,hcell,mA,mB];refine zov rfl rfl (zmB hm (dq:=dq) (zlc hE.d (fun z hz=> ?_) ?_)) ?_
   ·simp only[rG];have z1:¬(z=c1):=by omega
    have z2:¬(z=c1+1):=by omega
    have z3:¬(z=c1+1+1):=by omega
    simp -implicitDefEqProofs [rW,z1,z2,z3]
   ·simp only[rG];omega
   rintro d2 H2 c2 lw2 mx2 ⟨hF2,⟨dq2,rfl,hE2⟩,hfz⟩ hcc2 hmm2;rw[hmm]at hE2;simp only[rG]at hF2 hE2 hcc2 hmm2;have e1:=hF2 c1 (by omega) (hne c1 (Nat.le_refl _));have e2:=hF2 (c1+1) (by omega) (hne _ (by omega));have e3:=hF2 (c1+1+1) (by omega) (hne _ (by omega));simp[Vse.T.zad,mA,mB]at e1 e2 e3;have vM1:¬(c1=mx2+1):=by omega
   have vM2:¬(c1=mx2+2):=by omega
   have vM3:¬(c1=mx2):=by omega
   rcases hfz with⟨rfl,e0⟩ |⟨id,rfl,hm1,hid,hgid⟩
   ·rcases hE2 with⟨rfl,-⟩ |⟨id2,-,hm2,-⟩
    ·rw[e0]at q18;simp only[show qsF []=F.nils from rfl]at q18;simp -implicitDefEqProofs [rW,mA,mB,vM1,vM2,vM3,e1,e2,e3,q18,q21,zaS,zeF,p1,p3]
    ·exact absurd e0 hm2
   ·rcases hE2 with⟨-,e0⟩ |⟨id2,rfl,hm2,hg2,hi1,hi2⟩
    ·exact absurd e0 hm1
    ·have z1:=zgc hm1 hgid;have z2:=zgc hm2 hg2;have hx:id<c1:=(zlg hE)
     have y1:¬(c1=id2):=by omega
     have y2:¬(c1+1=id2):=by omega
     have y3:¬(c1+1+1=id2):=by omega
     have y4:id2<mx2:=by omega
     have y5:id2<mx2+1:=by omega
     simp -implicitDefEqProofs [rW,mA,mB,vM1,vM2,vM3,e1,e2,e3,q18,q21,zaS,zeF,z1,z2,hgid,hg2,zgb,hm1,y1,y2,y3,y4,y5,p1,p3]
  |some l2=>
   obtain⟨g1,hl1,w1⟩ :=hr1 l1 rfl;have p1:=fun f=>zay (k:=f) (zpJ g1 w1)
   have p3:=fun f=>zay (k:=f) (zmq hd l1 l1 hh (fun c hc=>(g1.2.2 c hc).toCqSm) (by omega) (zhz _))
   obtain⟨g2,hl2,w2⟩ :=hr2 l2 rfl;have p2:=fun f=>zay (k:=f) (zpL g2 w2)
   have p4:=fun f=>zay (k:=f) (zmq hd l2 l2 hh (fun c hc=>(g2.2.2 c hc).toCqSm) (by omega) (zhz _))
   simp only[rwF]at q11 q13 p1 p2;simp -implicitDefEqProofs [rW,k0,n0,hcell,q11,q13,zaS,zeF];refine zhy ?_;simp -implicitDefEqProofs [rW,k0,hcell,mA,mB];refine zov rfl rfl (zmB hm (dq:=dq) (zlc hE.d (fun z hz=> ?_) ?_)) ?_
   ·simp only[rG];have z1:¬(z=c1):=by omega
    have z2:¬(z=c1+1):=by omega
    have z3:¬(z=c1+1+1):=by omega
    simp -implicitDefEqProofs [rW,z1,z2,z3]
   ·simp only[rG];omega
   rintro d2 H2 c2 lw2 mx2 ⟨hF2,⟨dq2,rfl,hE2⟩,hfz⟩ hcc2 hmm2;rw[hmm]at hE2;simp only[rG]at hF2 hE2 hcc2 hmm2;have e1:=hF2 c1 (by omega) (hne c1 (Nat.le_refl _));have e2:=hF2 (c1+1) (by omega) (hne _ (by omega));have e3:=hF2 (c1+1+1) (by omega) (hne _ (by omega));simp[Vse.T.zad,mA,mB]at e1 e2 e3;have vM1:¬(c1=mx2+1):=by omega
   have vM2:¬(c1=mx2+2):=by omega
   have vM3:¬(c1=mx2):=by omega
   rcases hfz with⟨rfl,e0⟩ |⟨id,rfl,hm1,hid,hgid⟩
   ·rcases hE2 with⟨rfl,-⟩ |⟨id2,-,hm2,-⟩
    ·rw[e0]at q18;simp only[show qsF []=F.nils from rfl]at q18;simp -implicitDefEqProofs [rW,mA,mB,vM1,vM2,vM3,e1,e2,e3,q18,q21,zaS,zeF,p1,p3,p2,p4]
    ·exact absurd e0 hm2
   ·rcases hE2 with⟨-,e0⟩ |⟨id2,rfl,hm2,hg2,hi1,hi2⟩
    ·exact absurd e0 hm1
    ·have z1:=zgc hm1 hgid;have z2:=zgc hm2 hg2;have hx:id<c1:=(zlg hE)
     have y1:¬(c1=id2):=by omega
     have y2:¬(c1+1=id2):=by omega
     have y3:¬(c1+1+1=id2):=by omega
     have y4:id2<mx2:=by omega
     have y5:id2<mx2+1:=by omega
     simp -implicitDefEqProofs [rW,mA,mB,vM1,vM2,vM3,e1,e2,e3,q18,q21,zaS,zeF,z1,z2,hgid,hg2,zgb,hm1,y1,y2,y3,y4,y5,p1,p3,p2,p4]
theorem zrJ{hd:List Str}{stp:List CQ->Option (Nat×List CQ)}{l:List CQ}(hh:hd.length<1000)(hg:∀c∈l,CqG c)(hs:∀c∈l,Smd hd c)(hl:l.length≤64)(h:stp l=none):QG hd l/\l.length≤64/\RwN hd stp 0 (zaV hd l) (some l):=by
 have hQ:QG hd l:=⟨hh,by omega,hg⟩
 rw[zl1 hs];exact⟨hQ,hl,.stop hQ hl h⟩
theorem ans5{x:F}(hx:zgd x)(n:Int):Ans pr 5 [x,.i .i64 n] (.b true):=by
 obtain⟨hd,l,hh,-,hl,hw,h6⟩ :=ans6 hx n;obtain⟨k1,r1,hR1,hr1⟩ :=zLC hh hl hw;obtain⟨k2,r2,hR2,hr2⟩ :=zKR hh hl hw;have hQ:QG hd l:=⟨by omega,by omega,fun c hc=>(hw c hc).g (by omega)⟩
 obtain⟨m1,m2,m3⟩ :=zhB (B:=3) (by omega) (.inl rfl) zri (hd:=hd) (zyx hl hw);exact ans5w hx hQ h6 ⟨by omega,by omega,fun c hc=>(m1 c hc).1.g⟩ (by omega) (zl1 fun c hc=>(m1 c hc).2)
  hR1 (fun m e=>zrJ (by omega) (fun c hc=>((hr1 m e).1 c hc).1.g) (fun c hc=>((hr1 m e).1 c hc).2) (hr1 m e).2.2 (hr1 m e).2.1)
  hR2 (fun m e=>zrJ (by omega) (fun c hc=>((hr2 m e).1 c hc).1.g) (fun c hc=>((hr2 m e).1 c hc).2) (hr2 m e).2.2 (hr2 m e).2.1)
end Go.Proofs.YtmnkdfjljkhneaaGreat
end
