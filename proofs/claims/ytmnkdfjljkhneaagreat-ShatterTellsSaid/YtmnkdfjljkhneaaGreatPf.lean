/- wide: one more comparison. -/
import Derived.Test.YtmnkdfjljkhneaaGreatPe
import Derived.KernelRfl
import Derived.IntWalk
set_option linter.all false
set_option maxRecDepth 100000
set_option maxHeartbeats 4000000
noncomputable section
section
namespace Go.Proofs.YtmnkdfjljkhneaaGreat
open Go Go.Vse Go.Vse.Sm
def fn8:pr.fn 8=some g8:=by kernel_rfl
def fn6:pr.fn 6=some g6:=by kernel_rfl
def zxR(n:Int):Ans pr 8 [.i .i64 n] (.ag (vF n)):=by
 refine zbd fn8 ?_;simp only[g8,rU];simp[rW,st0,zae,vF]
structure CqW(m:Nat)(c:CQ):Prop where
 al:∀a∈c.as,zbX a/\a.ts.length<=2
 cs:∀k∈c.cs,zbt k
 av:∀a∈c.as,a.ts≠[]/\∀t∈a.ts,TmV t
 cv:∀k∈c.cs,TmV k.l/\TmV k.r
 la:c.as.length<=3
 lc:c.cs.length<=m
def CqN.w{c:CQ}(h:CqN 1 c):CqW 1 c:=⟨h.al,h.cs,h.av,h.cv,by have:=h.la;omega,by have:=h.lc;omega⟩
def CqW.up{m n:Nat}{c:CQ}(h:CqW m c)(hm:m<=n):CqW n c:=⟨h.al,h.cs,h.av,h.cv,h.la,Z3 h.lc hm⟩
def CqW.g{m:Nat}{c:CQ}(h:CqW m c)(hm:m<=4):CqG c:=by
 have:=h.la;have:=h.lc;exact⟨⟨⟨fun a ha=>(h.al a ha).1,h.cs,by omega,by omega⟩,by omega,fun a ha=>by have:=(h.al a ha).2;omega,by omega,fun a ha=>(h.al a ha).2⟩,fun a ha=>(h.av a ha).1⟩
def zDb{t:Trm}(h:TmV t):zau t:=by
 cases t with
 |cst=>trivial
 |var s=>rcases h with rfl|rfl|rfl<;>simp[zau]
def add1(c:CQ)(x:Cm):CQ:=⟨c.as,c.cs++[x],true,c.na⟩
def nkC(c:CQ):Nat:=((c.as.flatMap (·.ts))++c.cs.flatMap fun k=>[k.l,k.r]).countP (fun t=>decide (tv t=[]))
def nkS(l:List CQ):Nat:=(l.map nkC).sum
def zLW(c:CQ)(x:Cm):nkC (add1 c x)<=nkC c+2:=by
 unfold nkC add1;have h:([x.l,x.r]:List Trm).countP (fun t=>decide (tv t=[]))<=2:=List.countP_le_length;simp only[List.flatMap_append,List.countP_append,List.flatMap_cons,List.flatMap_nil,Z22];omega
theorem zwE:∀{l:List CQ} {j:Nat} (h:j<l.length) {d:CQ},nkC d<=nkC l[j]+2->nkS (l.set j d)<=nkS l+2
 |[],j,h,_,_=>by simp at h
 |a::l,0,_,d,hd=>by
  simp only[List.getElem_cons_zero]at hd;simp only[nkS,List.set_cons_zero,Z10,List.sum_cons];omega
 |a::l,j+1,h,d,hd=>by
  simp only[List.getElem_cons_succ]at hd;have:=zwE (l:=l) (j:=j) (by simpa using h) hd;simp only[nkS]at this;simp only[nkS,List.set_cons_succ,Z10,List.sum_cons];omega
def LW(m:Nat)(l:List CQ):Prop:=(∀c∈l,CqW m c)/\nkS l<=2+2*m
def LW.up{m n:Nat}{l:List CQ}(h:LW m l)(hm:m<=n):LW n l:=⟨fun c hc=>(h.1 c hc).up hm,Z3 h.2 (by omega)⟩
def CqW.add{m:Nat}{c:CQ}(h:CqW m c){x:Cm}(h1:TmV x.l)(h2:TmV x.r):CqW (m+1) (add1 c x):=by
 refine⟨h.al,fun k hk=> ?_,h.av,fun k hk=> ?_,h.la,by simp[add1];exact h.lc⟩
 .rcases Z4.1 hk with hk|hk
  .exact h.cs k hk
  .rw[Z31.1 hk];exact⟨zDb h1,zDb h2⟩
 .rcases Z4.1 hk with hk|hk
  .exact h.cv k hk
  .rw[Z31.1 hk];exact⟨h1,h2⟩
def CsR(h:T Ob)(B c:Nat)(d:D)(q:CQ):Prop:=d= .f (zaC q)\/∃Y ro,d= .sl Y 0 q.cs.length 9 q.cs.length false/\h.get Y=some (.arr 9 ro (q.cs.map cmD))/\q.cs≠[]/\B<=Y/\Y<c
def CsR.up{h h':T Ob}{B c c':Nat}{d:D}{q:CQ}(H:CsR h B c d q)(hc:c<=c')(hh:∀x,B<=x->x<c->h'.get x=h.get x):CsR h' B c' d q:=by
 rcases H with H|⟨Y,ro,h1,h2,h3,h4,h5⟩
 .exact .inl H
 .exact .inr ⟨Y,ro,h1,by rw[hh Y h4 h5];exact h2,h3,h4,by omega⟩
def HR(B c:Nat)(h h':T Ob):Prop:=(∀z,z<B\/c<=z->h'.get z=h.get z)/\∀z es ro els,h.get z=some (.arr es ro els)->∃ro',h'.get z=some (.arr es ro' els)
def CsR.hr{h h':T Ob}{B c c':Nat}{d:D}{q:CQ}(H:CsR h B c' d q)(hh:HR B c h h'):CsR h' B c' d q:=by
 rcases H with H|⟨Y,ro,h1,h2,h3,h4,h5⟩
 .exact .inl H
 .obtain⟨ro',e⟩ :=hh.2 Y _ _ _ h2;exact .inr ⟨Y,ro',h1,e,h3,h4,h5⟩
def HR.self{B c:Nat}{h:T Ob}:HR B c h h:=⟨fun _ _=>rfl,fun _ _ ro _ h=>⟨ro,h⟩⟩
def WR(h:T Ob)(N B c lim:Nat)(l:List CQ):Prop:=∃rows:List (List D),h.get N=some (.arr 2 0 rows)/\rows.length=lim/\l.length<=lim/\(∀x∈rows,x.length=2)/\N<B/\∀i (hi:i<l.length),∃dC,rows[i]? =some [.f (zaB l[i]),dC]/\CsR h B c dC l[i]
def zmc(q:CQ)(h:Nat->Option Ob):elemsOf 9 h (.f (zaC q))=some (q.cs.map cmD,[]):=by
 unfold zaC csF;split
 .rename_i e;rw[e.2];rfl
 .rw[zO9 rfl,Z33]
  congr 2
  exact List.map_congr_left fun k _=>ziN k
def W6(P N B lim:Nat)(ex:Bool)(dh:D)(hd:List Str)(n:Int)(i:Nat)(l:List CQ)(c:Nat)(s:St):Prop:=(s.tm.get 1=some (.f (.i .i64 n))/\s.tm.get 4=some (.ptr 0 2 0 0)/\s.tm.get 5=some (.ptr P 2 0 0)/\s.tm.get 6=some (.f (.i .i64 i))/\s.h.get 0=some (.arr 2 0 [[.f .nils,.f .nils]])/\s.h.get P=some (.arr 2 0 [[dh,.sl N 0 l.length 2 lim ex]]))/\Own s.h 1 P dh (zaq hd)/\1<=P/\P<B/\P≠N/\0<N/\dh.oid≠some N/\WR s.h N B c lim l/\c<=s.c/\B<=c
def zgb(c:CQ):(D.f (zaB c)).cells=some [.f (zaB c)]:=by
 unfold zaB Sm.asF;split
 .rfl
 .exact zfL _ _
def u6:List (Go.Vse.Op×Nat):=[(oF 92 1 5,0),(oK 93 1 92,0),(oM 94 9,3),(oF 95 1 5,7),(oK 96 1 95,7),(oM 97 9,31),(oI 98 2 96 97,7),(oF 99 0 98,7),(oK 100 1 99,7),(oF 102 1 5,511),(oK 103 1 102,511),(oM 104 9,2047),(oI 105 2 103 104,511),(oF 106 1 105,511),(oK 107 1 106,511),(oL 109 9 8,32767),(oR 101 (.bsl 9 [.i .i64 0,.s [],.i .i64 0,.i .i64 0,.s [],.s [],.i .i64 0,.i .i64 0,.s []] 0 []),65535),(oR 108 (.app 9 104 (.t 101) (.t 107)),33279),(oR 110 (.bsf 9 [.i .i64 0,.s [],.i .i64 0,.i .i64 0,.s [],.s [],.i .i64 0,.i .i64 0,.s []] 1 [(0,(.t 109))]),229375),(oR 111 (.app 9 104 (.t 108) (.t 110)),511),(oR 112 (.bld [.nils,.nils] [(0,1,(.t 100)),(1,1,(.t 111))]),7),(oI 113 2 93 94,0),(oS 2 113 112,0)]
theorem u6_wd{P N B lim X j len:Nat}{ex:Bool}{dh dC:D}{rows:List (List D)}{A:CQ}{x:Cm}{Q:Ex->St->Prop}{s:St}(RN5:s.tm.get 5=some (.ptr P 2 0 0)/\s.tm.get 8=some (.ptr X 9 0 0)/\s.tm.get 9=some (.f (.i .i64 j))/\s.h.get P=some (.arr 2 0 [[dh,.sl N 0 len 2 lim ex]])/\s.h.get N=some (.arr 2 0 rows)/\s.h.get X=some (.arr 9 0 [cmD x]))(hj:j<len)(hrj:rows[j]? =some [.f (zaB A),dC])(hC:CsR s.h B s.c dC A)(hP:P<s.c)(hN:N<s.c)(hXc:X<s.c)(hPN:P≠N)(h8r:hd8 rows=false)(hcl:A.cs.length<=100)(hNX:N≠X)(hNB:N<B)
  (hK:∀s',s'.tm.get 1=s.tm.get 1->s'.tm.get 4=s.tm.get 4->s'.tm.get 5=s.tm.get 5->s'.tm.get 6=s.tm.get 6->∀Y,s.c<=Y->Y<s'.c->s'.h.get Y=some (.arr 9 0 ((A.cs++[x]).map cmD))->s'.h.get N=some (.arr 2 0 (rows.set j [.f (zaB A),.sl Y 0 (A.cs.length+1) 9 (A.cs.length+1) false]))->(∀z,z<s.c->z≠N->s'.h.get z=s.h.get z)->Q .nrm s'):WD pr u6 s (Q):=by
 obtain⟨h5,h8,h9,gP,gN,gX⟩ :=RN5;unfold u6;simp only[rU];refine zaL ?_;have hjr:j<rows.length:=(Z8.1 hrj).1;have hRj:rows[j]=[.f (zaB A),dC]:=(Z8.1 hrj).2;have a16P:¬(s.c+1+1+1+1+1+1+1+1+1+1+1+1+1+1+1+1=P):=by omega
 have b16P:¬(P=s.c+1+1+1+1+1+1+1+1+1+1+1+1+1+1+1+1):=by omega
 have a16N:¬(s.c+1+1+1+1+1+1+1+1+1+1+1+1+1+1+1+1=N):=by omega
 have b16N:¬(N=s.c+1+1+1+1+1+1+1+1+1+1+1+1+1+1+1+1):=by omega
 have a16X:¬(s.c+1+1+1+1+1+1+1+1+1+1+1+1+1+1+1+1=X):=by omega
 have b16X:¬(X=s.c+1+1+1+1+1+1+1+1+1+1+1+1+1+1+1+1):=by omega
 have a18P:¬(s.c+1+1+1+1+1+1+1+1+1+1+1+1+1+1+1+1+1+1=P):=by omega
 have b18P:¬(P=s.c+1+1+1+1+1+1+1+1+1+1+1+1+1+1+1+1+1+1):=by omega
 have a18N:¬(s.c+1+1+1+1+1+1+1+1+1+1+1+1+1+1+1+1+1+1=N):=by omega
 have b18N:¬(N=s.c+1+1+1+1+1+1+1+1+1+1+1+1+1+1+1+1+1+1):=by omega
 have a18X:¬(s.c+1+1+1+1+1+1+1+1+1+1+1+1+1+1+1+1+1+1=X):=by omega
 have b18X:¬(X=s.c+1+1+1+1+1+1+1+1+1+1+1+1+1+1+1+1+1+1):=by omega
 have a20P:¬(s.c+1+1+1+1+1+1+1+1+1+1+1+1+1+1+1+1+1+1+1+1=P):=by omega
 have b20P:¬(P=s.c+1+1+1+1+1+1+1+1+1+1+1+1+1+1+1+1+1+1+1+1):=by omega
 have a20N:¬(s.c+1+1+1+1+1+1+1+1+1+1+1+1+1+1+1+1+1+1+1+1=N):=by omega
 have b20N:¬(N=s.c+1+1+1+1+1+1+1+1+1+1+1+1+1+1+1+1+1+1+1+1):=by omega
 have a20X:¬(s.c+1+1+1+1+1+1+1+1+1+1+1+1+1+1+1+1+1+1+1+1=X):=by omega
 have b20X:¬(X=s.c+1+1+1+1+1+1+1+1+1+1+1+1+1+1+1+1+1+1+1+1):=by omega
 have a21P:¬(s.c+1+1+1+1+1+1+1+1+1+1+1+1+1+1+1+1+1+1+1+1+1=P):=by omega
 have b21P:¬(P=s.c+1+1+1+1+1+1+1+1+1+1+1+1+1+1+1+1+1+1+1+1+1):=by omega
 have a21N:¬(s.c+1+1+1+1+1+1+1+1+1+1+1+1+1+1+1+1+1+1+1+1+1=N):=by omega
 have b21N:¬(N=s.c+1+1+1+1+1+1+1+1+1+1+1+1+1+1+1+1+1+1+1+1+1):=by omega
 have a21X:¬(s.c+1+1+1+1+1+1+1+1+1+1+1+1+1+1+1+1+1+1+1+1+1=X):=by omega
 have b21X:¬(X=s.c+1+1+1+1+1+1+1+1+1+1+1+1+1+1+1+1+1+1+1+1+1):=by omega
 have m1:(1<=zak)=True:=zaV (by omega);have m2:(104<=zak)=True:=zaV (by omega);have m3:(A.cs.length+1<=zak)=True:=zaV (by omega);have m4:((A.cs.length+1)*104<=zak)=True:=zaV (by omega);have m5:(A.cs.length<=zak)=True:=zaV (by omega);have m6:(A.cs.length*104<=zak)=True:=zaV (by omega);have hlt:(A.cs.length+1<=A.cs.length)=False:=leF (by omega);rcases hC with rfl|⟨Y,ro,rfl,gY,hYne,hYB,hYc⟩
 .by_cases hcs:A.cs=[]
  .simp[rW,h5,h8,h9,gP,gN,gX,zgb,a16P,b16P,a16N,b16N,a16X,b16X,a18P,b18P,a18N,b18N,a18X,b18X,a20P,b20P,a20N,b20N,a20X,b20X,a21P,b21P,a21N,b21N,a21X,b21X,hj,hrj,hRj,zmc,hcs,m1,m2,h8r,cmD,tmD,hjr];refine⟨by omega,hK _ ?_ ?_ ?_ ?_ (s.c+1+1+1+1+1+1+1+1+1+1+1+1+1+1+1+1+1+1+1+1) ?_ ?_ ?_ ?_ fun z hz hzN=> ?_⟩
   .simp[rW,]
   .simp[rW,]
   .simp[rW,]
   .simp[rW,]
   .omega
   .simp[rW,]
   .simp[rW,a16P,b16P,a16N,b16N,a16X,b16X,a18P,b18P,a18N,b18N,a18X,b18X,a20P,b20P,a20N,b20N,a20X,b20X,a21P,b21P,a21N,b21N,a21X,b21X,hcs,cmD,tmD]
   .simp[rW,a16P,b16P,a16N,b16N,a16X,b16X,a18P,b18P,a18N,b18N,a18X,b18X,a20P,b20P,a20N,b20N,a20X,b20X,a21P,b21P,a21N,b21N,a21X,b21X,hcs,cmD,tmD]
   .have z16:¬(z=s.c+1+1+1+1+1+1+1+1+1+1+1+1+1+1+1+1):=by omega
    have z18:¬(z=s.c+1+1+1+1+1+1+1+1+1+1+1+1+1+1+1+1+1+1):=by omega
    have z20:¬(z=s.c+1+1+1+1+1+1+1+1+1+1+1+1+1+1+1+1+1+1+1+1):=by omega
    have z21:¬(z=s.c+1+1+1+1+1+1+1+1+1+1+1+1+1+1+1+1+1+1+1+1+1):=by omega
    simp[rW,z16,z18,z20,z21,hzN]
  .simp[rW,h5,h8,h9,gP,gN,gX,zgb,a16P,b16P,a16N,b16N,a16X,b16X,a18P,b18P,a18N,b18N,a18X,b18X,a20P,b20P,a20N,b20N,a20X,b20X,a21P,b21P,a21N,b21N,a21X,b21X,hj,hrj,hRj,zmc,hcs,m1,m2,m3,m4,m5,m6,hlt,h8r,cmD,tmD,hjr];refine⟨by omega,hK _ ?_ ?_ ?_ ?_ (s.c+1+1+1+1+1+1+1+1+1+1+1+1+1+1+1+1+1+1+1+1+1) ?_ ?_ ?_ ?_ fun z hz hzN=> ?_⟩
   .simp[rW,]
   .simp[rW,]
   .simp[rW,]
   .simp[rW,]
   .omega
   .simp[rW,]
   .simp[rW,a16P,b16P,a16N,b16N,a16X,b16X,a18P,b18P,a18N,b18N,a18X,b18X,a20P,b20P,a20N,b20N,a20X,b20X,a21P,b21P,a21N,b21N,a21X,b21X,cmD,tmD]
   .simp[rW,a16P,b16P,a16N,b16N,a16X,b16X,a18P,b18P,a18N,b18N,a18X,b18X,a20P,b20P,a20N,b20N,a20X,b20X,a21P,b21P,a21N,b21N,a21X,b21X,cmD,tmD]
   .have z16:¬(z=s.c+1+1+1+1+1+1+1+1+1+1+1+1+1+1+1+1):=by omega
    have z18:¬(z=s.c+1+1+1+1+1+1+1+1+1+1+1+1+1+1+1+1+1+1):=by omega
    have z20:¬(z=s.c+1+1+1+1+1+1+1+1+1+1+1+1+1+1+1+1+1+1+1+1):=by omega
    have z21:¬(z=s.c+1+1+1+1+1+1+1+1+1+1+1+1+1+1+1+1+1+1+1+1+1):=by omega
    simp[rW,z16,z18,z20,z21,hzN]
 .have hmt:List.take A.cs.length (List.map cmD A.cs)=List.map cmD A.cs:=Z11 (by simp);have hmn:¬(A.cs.map cmD=[]):=by simpa using hYne
  have a16Y:¬(s.c+1+1+1+1+1+1+1+1+1+1+1+1+1+1+1+1=Y):=by omega
  have b16Y:¬(Y=s.c+1+1+1+1+1+1+1+1+1+1+1+1+1+1+1+1):=by omega
  have a18Y:¬(s.c+1+1+1+1+1+1+1+1+1+1+1+1+1+1+1+1+1+1=Y):=by omega
  have b18Y:¬(Y=s.c+1+1+1+1+1+1+1+1+1+1+1+1+1+1+1+1+1+1):=by omega
  have a20Y:¬(s.c+1+1+1+1+1+1+1+1+1+1+1+1+1+1+1+1+1+1+1+1=Y):=by omega
  have b20Y:¬(Y=s.c+1+1+1+1+1+1+1+1+1+1+1+1+1+1+1+1+1+1+1+1):=by omega
  have a21Y:¬(s.c+1+1+1+1+1+1+1+1+1+1+1+1+1+1+1+1+1+1+1+1+1=Y):=by omega
  have b21Y:¬(Y=s.c+1+1+1+1+1+1+1+1+1+1+1+1+1+1+1+1+1+1+1+1+1):=by omega
  simp[rW,h5,h8,h9,gP,gN,gX,zgb,a16P,b16P,a16N,b16N,a16X,b16X,a18P,b18P,a18N,b18N,a18X,b18X,a20P,b20P,a20N,b20N,a20X,b20X,a21P,b21P,a21N,b21N,a21X,b21X,a16Y,b16Y,a18Y,b18Y,a20Y,b20Y,a21Y,b21Y,hmn,hmt,hj,hrj,hRj,gY,hYne,m1,m2,m3,m4,m5,m6,hlt,h8r,cmD,tmD,hjr];refine⟨by omega,hK _ ?_ ?_ ?_ ?_ (s.c+1+1+1+1+1+1+1+1+1+1+1+1+1+1+1+1+1+1+1+1+1) ?_ ?_ ?_ ?_ fun z hz hzN=> ?_⟩
  .simp[rW,]
  .simp[rW,]
  .simp[rW,]
  .simp[rW,]
  .omega
  .simp[rW,]
  .simp[rW,a16P,b16P,a16N,b16N,a16X,b16X,a18P,b18P,a18N,b18N,a18X,b18X,a20P,b20P,a20N,b20N,a20X,b20X,a21P,b21P,a21N,b21N,a21X,b21X,a16Y,b16Y,a18Y,b18Y,a20Y,b20Y,a21Y,b21Y,cmD,tmD]
  .simp[rW,a16P,b16P,a16N,b16N,a16X,b16X,a18P,b18P,a18N,b18N,a18X,b18X,a20P,b20P,a20N,b20N,a20X,b20X,a21P,b21P,a21N,b21N,a21X,b21X,a16Y,b16Y,a18Y,b18Y,a20Y,b20Y,a21Y,b21Y,cmD,tmD]
  .have z16:¬(z=s.c+1+1+1+1+1+1+1+1+1+1+1+1+1+1+1+1):=by omega
   have z18:¬(z=s.c+1+1+1+1+1+1+1+1+1+1+1+1+1+1+1+1+1+1):=by omega
   have z20:¬(z=s.c+1+1+1+1+1+1+1+1+1+1+1+1+1+1+1+1+1+1+1+1):=by omega
   have z21:¬(z=s.c+1+1+1+1+1+1+1+1+1+1+1+1+1+1+1+1+1+1+1+1+1):=by omega
   simp[rW,z16,z18,z20,z21,hzN]
def t6:C:=(oZ [oM 73 6,oF 74 1 5,oK 75 1 74,oR 76 (.len (.t 75)),oR 77 (.bin .rem (.t 73) (.t 76)),oM 9 77]
 (oD [oF 78 1 5,oK 79 1 78,oM 80 9,oI 81 2 79 80,oL 82 2 81,oR 83 (.callp 25 [(.t 82)]),oR 84 (.len (.t 83)),oR 85 (.bin .gtr (.t 84) (.k (.i .i64 1))),oM 86 85,oH 87 86 (.fa 5 (.t 8)),oH 88 86 (.fa 0 (.t 87)),oH 89 86 (.ld false 1 (.t 88)),oH 90 86 (.bin .neq (.t 89) (.k (.s [121]))),oR 91 (.pick (.t 86) (.k (.b true)) (.t 90))] 91 (.dreg u6) .skip))
def w6:C:=(.seq (oD [oM 31 6,oM 32 1,oR 33 (.bin .shr (.t 32) (.k (.i .u64 6))),oR 34 (.bin .and (.t 33) (.k (.i .i64 3))),oR 35 (.bin .lss (.t 31) (.t 34))] 35 .skip (.exit 0))
 (.seq (.blk 1 (oZ [oM 38 1,oM 39 6,oR 40 (.bin .mul (.k (.i .i64 5)) (.t 39)),oR 41 (.bin .add (.k (.i .i64 8)) (.t 40)),oR 42 (.cvi .u64 (.t 41)),oR 43 (.bin .shr (.t 38) (.t 42)),oR 44 (.bin .and (.t 43) (.k (.i .i64 31))),oM 7 44]
 (oZ [oM 45 7,oR 46 (.bin .and (.t 45) (.k (.i .i64 3))),oR 47 (.bin .add (.k (.i .i64 1)) (.t 46)),oR 48 (.bld [.s [],.i .i64 0,.i .i64 0,.s []] [(0,1,(.k (.s [120])))]),oM 49 7,oR 50 (.bin .shr (.t 49) (.k (.i .u64 2))),oR 51 (.bin .and (.t 50) (.k (.i .i64 3))),oR 52 (.callp 8 [(.t 51)]),oR 53 (.bld [.s [],.i .i64 0,.i .i64 0,.s []] [(1,3,(.t 52))]),oR 54 (.bld [.i .i64 0,.s [],.i .i64 0,.i .i64 0,.s [],.s [],.i .i64 0,.i .i64 0,.s []] [(0,1,(.t 47)),(1,4,(.t 48)),(5,4,(.t 53))]),oR 8 (.new [.i .i64 0,.s [],.i .i64 0,.i .i64 0,.s [],.s [],.i .i64 0,.i .i64 0,.s []]),oS 9 8 54]
 (.seq (oD [oM 55 7,oR 56 (.bin .shr (.t 55) (.k (.i .u64 4))),oR 57 (.bin .eql (.t 56) (.k (.i .i64 1)))] 57 (.reg [oR 58 (.bsl 1 [.s []] 2 [(0,(.k (.s [120]))),(1,(.k (.s [121])))]),oM 59 7,oR 60 (.bin .shr (.t 59) (.k (.i .u64 2))),oR 61 (.bin .and (.t 60) (.k (.i .i64 1))),oI 62 1 58 61,oK 63 1 62,oR 64 (.bld [.s [],.i .i64 0,.i .i64 0,.s []] [(0,1,(.t 63))]),oF 65 5 8,oS 4 65 64]) .skip)
 (.seq (oD [oM 66 7,oR 67 (.bin .shr (.t 66) (.k (.i .u64 2))),oR 68 (.bin .and (.t 67) (.k (.i .i64 3))),oR 69 (.bin .eql (.t 68) (.k (.i .i64 3)))] 69 (.reg [oR 70 (.callp 8 [(.k (.i .i64 2))]),oR 71 (.bld [.s [],.i .i64 0,.i .i64 0,.s []] [(1,3,(.t 70))]),oF 72 1 8,oS 4 72 71]) .skip)
 t6)))))
 (.reg [oM 36 6,oR 37 (.bin .add (.t 36) (.k (.i .i64 1))),oM 6 37])))
theorem t6_wp{P N B lim X i m c:Nat}{ex:Bool}{dh:D}{hd:List Str}{n:Int}{l:List CQ}{x:Cm}{Q:Ex->St->Prop}{s:St}(hl:l≠[])(hi:i<10)(hm:m<=3)(hw:LW m l)(hx1:TmV x.l)(hx2:TmV x.r)(hll:l.length<=10)(hS:W6 P N B lim ex dh hd n i l c s)(h8:s.tm.get 8=some (.ptr X 9 0 0))(gX:s.h.get X=some (.arr 9 0 [cmD x]))(hX:c<=X)(hXc:X<s.c)
  (hQ:∀s' l',l'.length=l.length->LW (m+1) l'->W6 P N B lim ex dh hd n i l' s'.c s'->Q .nrm s'):wpC pr t6 s Q:=by
 obtain⟨⟨h1,h4,h5,h6,g0,gP⟩,hO,hP1,hPB,hPN,hN0,hON,⟨rows,gN,hrl,hle,hr2,hNB,hrow⟩,hcs,hBc⟩ :=hS;have hlp:0<l.length:=List.length_pos_iff.2 hl;have hrem:=zhq i l.length (by omega);have hj:i%l.length<l.length:=Nat.mod_lt _ hlp;generalize i%l.length=j at hrem hj;obtain⟨dC,hrj,hC⟩ :=hrow j hj;have hwA:=hw.1 _ (Z1 hj);generalize hA:l[j]=A at hrj hC hwA;have hl0:¬((l.length:Int)=0):=by omega
 have hlen0:¬(l.length=0):=by omega
 have hjr:j<rows.length:=by omega
 have hgA:=hwA.g (by omega);have q1:=fun k=>zaj (k:=k) (zGH A hgA.toCqSm)
 simp only[cqE]at q1;have h8r:hd8 rows=false:=zgd (es:=2) (by decide) hr2;have upd:∀s':St,s'.tm.get 1=s.tm.get 1->s'.tm.get 4=s.tm.get 4->s'.tm.get 5=s.tm.get 5->s'.tm.get 6=s.tm.get 6->s'.tm.get 8=s.tm.get 8->s'.tm.get 9=some (.f (.i .i64 j))->s'.c=s.c->HR B c s.h s'.h->WD pr u6 s' Q:=by
  intro s' e1 e4 e5 e6 e8 e9 ec hH;have hlow:=hH.1;refine u6_wd (B:=B) (A:=A) (dC:=dC) (rows:=rows) (x:=x) (N:=N) (P:=P) (X:=X) (j:=j) (len:=l.length) (lim:=lim) (ex:=ex) (dh:=dh) ⟨by rw[e5,h5],by rw[e8,h8],e9,by rw[hlow P (.inl hPB)];exact gP,by rw[hlow N (.inl hNB)];exact gN,by rw[hlow X (.inr hX)];exact gX⟩ hj hrj (by rw[ec];exact (hC.hr hH).up hcs fun _ _ _=>rfl) (by omega) (by omega) (by omega) hPN h8r (by have:=hwA.lc;omega) (by omega) hNB ?_;intro s2 k1 k4 k5 k6 Y hY1 hY2 hY3 hN2 hz;rw[ec]at hY1 hz;have z0:∀z,z<B->z≠N->s2.h.get z=s.h.get z:=fun z h1 h2=>by rw[hz z (by omega) h2,hlow z (.inl h1)]
  refine hQ s2 (l.set j (add1 A x)) (by simp) ⟨fun c hc=> ?_,?_⟩ ⟨⟨by rw[k1,e1,h1],by rw[k4,e4,h4],by rw[k5,e5,h5],by rw[k6,e6,h6],by rw[z0 0 (by omega) (by omega)];exact g0,by rw[z0 P hPB hPN,List.length_set];exact gP⟩,?_,hP1,hPB,hPN,hN0,hON,⟨rows.set j [.f (zaB A),.sl Y 0 (A.cs.length+1) 9 (A.cs.length+1) false],hN2,by simpa using hrl,by simpa using hle,fun y hy=> ?_,hNB,fun k hk=> ?_⟩,Z2 _,by omega⟩
  .rcases List.mem_or_eq_of_mem_set hc with hc|rfl
   .exact (hw.1 c hc).up (by omega)
   .exact hwA.add hx1 hx2
  .have h1:=zwE hj (d:=add1 A x) (by rw[hA];exact zLW A x);have:=hw.2;omega
  .refine hO.up (fun y hy=> ?_) (Z2 _) (Z2 _);have:=hO.2.2.1 y hy
   by_cases e:y=N
   .exact absurd e (fun e=>hON (by rw[<-e];exact hy))
   .exact z0 y (by omega) e
  .rcases List.mem_or_eq_of_mem_set hy with hy|rfl
   .exact hr2 y hy
   .rfl
  .have hk':k<l.length:=by simpa using hk
   by_cases e:k=j
   .subst e;refine⟨.sl Y 0 (A.cs.length+1) 9 (A.cs.length+1) false,?_,?_⟩
    .rw[List.getElem?_set_self (by omega),List.getElem_set_self];rfl
    .rw[List.getElem_set_self];exact .inr ⟨Y,0,by simp[add1],hY3,by simp[add1],by omega,hY2⟩
   .obtain⟨d',hd1,hd2⟩ :=hrow k hk';refine⟨d',?_,?_⟩
    .rw[List.getElem?_set_ne (fun h=>e h.symm),List.getElem_set_ne (fun h=>e h.symm)];exact hd1
    .rw[List.getElem_set_ne (fun h=>e h.symm)];exact (hd2.hr hH).up (by omega) fun z h1 h2=>hz z (by omega) (by omega)
 have non:∀s':St,s'.tm.get 1=s.tm.get 1->s'.tm.get 4=s.tm.get 4->s'.tm.get 5=s.tm.get 5->s'.tm.get 6=s.tm.get 6->s'.c=s.c->HR B c s.h s'.h->Q .nrm s':=by
  intro s' e1 e4 e5 e6 ec hH;have hlow:=hH.1;refine hQ s' l rfl (hw.up (by omega)) ⟨⟨by rw[e1,h1],by rw[e4,h4],by rw[e5,h5],by rw[e6,h6],by rw[hlow 0 (.inl (by omega))];exact g0,by rw[hlow P (.inl hPB)];exact gP⟩,hO.up (fun y hy=>hlow y (.inl (by have:=hO.2.2.1 y hy;omega))) (Z2 _) (Z2 _),hP1,hPB,hPN,hN0,hON,⟨rows,by rw[hlow N (.inl hNB)];exact gN,hrl,hle,hr2,hNB,fun k hk=> ?_⟩,Z2 _,by omega⟩;obtain⟨d',hd1,hd2⟩ :=hrow k hk;exact⟨d',hd1,(hd2.hr hH).up (by omega) fun _ _ _=>rfl⟩
 unfold t6;simp only[rU];rcases hC with rfl|⟨Y,ro,rfl,gY,hYne,hYB,hYc⟩
 .skip
  by_cases b1:(1:Int)< (vrs A).length
  .simp[rW,h1,h4,h5,h6,h8,g0,gP,hrem,hl0,hlen0,hj,gN,hrj,gX,q1,zaF,zaH,zaN,zbQ,cmD,tmD,b1];refine upd _ ?_ ?_ ?_ ?_ ?_ ?_ ?_ ?_
   .simp[rW,]
   .simp[rW,]
   .simp[rW,]
   .simp[rW,]
   .simp[rW,]
   .simp[rW,]
   .simp[rW,]
   .simp[rW,];exact HR.self
  .by_cases b2:tv x.r=[121]
   .simp[rW,h1,h4,h5,h6,h8,g0,gP,hrem,hl0,hlen0,hj,gN,hrj,gX,q1,zaF,zaH,zaN,zbQ,cmD,tmD,b1,b2];refine non _ ?_ ?_ ?_ ?_ ?_ ?_
    .simp[rW,]
    .simp[rW,]
    .simp[rW,]
    .simp[rW,]
    .simp[rW,]
    .simp[rW,];exact HR.self
   .simp[rW,h1,h4,h5,h6,h8,g0,gP,hrem,hl0,hlen0,hj,gN,hrj,gX,q1,zaF,zaH,zaN,zbQ,cmD,tmD,b1,b2];refine upd _ ?_ ?_ ?_ ?_ ?_ ?_ ?_ ?_
    .simp[rW,]
    .simp[rW,]
    .simp[rW,]
    .simp[rW,]
    .simp[rW,]
    .simp[rW,]
    .simp[rW,]
    .simp[rW,];exact HR.self
 .have hz:frz s.h.get 11 (.sl Y 0 A.cs.length 9 A.cs.length false)=some (zaC A,[Y]):=by
   have e:=zfm s.h.get 9 (A.cs.map cmF);have e2:((A.cs.map cmD).drop 0).take A.cs.length=(A.cs.map cmF).map fun a=>a.map D.f:=by
    rw[Z34,Z11 (by simp),Z33];exact List.map_congr_left fun k _=>(ziN k).symm
   rw[zdx,gY,za9,zdf,if_pos ⟨rfl,by simp⟩,e2,e,za9,zbR (by simpa using hYne)];unfold zaC csF;rw[if_neg (fun h=>hYne h.2)]
  by_cases hro:(A.cs.map cmD).length<=ro
  .simp only[Z18]at hro
   by_cases b1:(1:Int)< (vrs A).length
   .simp[rW,h1,h4,h5,h6,h8,g0,gP,hrem,hl0,hlen0,hj,gN,hrj,gX,q1,zaF,zaH,zaN,zbQ,cmD,tmD,hz,gY,hro,b1];refine upd _ ?_ ?_ ?_ ?_ ?_ ?_ ?_ ?_
    .simp[rW,]
    .simp[rW,]
    .simp[rW,]
    .simp[rW,]
    .simp[rW,]
    .simp[rW,]
    .simp[rW,]
    .simp[rW,];exact HR.self
   .by_cases b2:tv x.r=[121]
    .simp[rW,h1,h4,h5,h6,h8,g0,gP,hrem,hl0,hlen0,hj,gN,hrj,gX,q1,zaF,zaH,zaN,zbQ,cmD,tmD,hz,gY,hro,b1,b2];refine non _ ?_ ?_ ?_ ?_ ?_ ?_
     .simp[rW,]
     .simp[rW,]
     .simp[rW,]
     .simp[rW,]
     .simp[rW,]
     .simp[rW,];exact HR.self
    .simp[rW,h1,h4,h5,h6,h8,g0,gP,hrem,hl0,hlen0,hj,gN,hrj,gX,q1,zaF,zaH,zaN,zbQ,cmD,tmD,hz,gY,hro,b1,b2];refine upd _ ?_ ?_ ?_ ?_ ?_ ?_ ?_ ?_
     .simp[rW,]
     .simp[rW,]
     .simp[rW,]
     .simp[rW,]
     .simp[rW,]
     .simp[rW,]
     .simp[rW,]
     .simp[rW,];exact HR.self
  .have hHR:HR B c s.h (s.h.set Y (.arr 9 A.cs.length (A.cs.map cmD))):=by
    refine⟨fun z hz=>by rw[Vse.T.zad,if_neg (by omega)],fun z es ro els hg=> ?_⟩
    by_cases e:z=Y
    .subst e;rw[gY]at hg;cases hg;exact⟨_,by rw[Vse.T.zad,if_pos rfl]⟩
    .exact⟨ro,by rw[Vse.T.zad,if_neg e];exact hg⟩
   simp only[Z18]at hro;have yX:¬(X=Y):=by omega
   have yc:Y<s.c:=by omega
   have n0:¬(0=Y):=by omega
   have nP:¬(P=Y):=by omega
   have nN:¬(N=Y):=by omega
   by_cases b1:(1:Int)< (vrs A).length
   .simp[rW,h1,h4,h5,h6,h8,g0,gP,hrem,hl0,hlen0,hj,gN,hrj,gX,q1,zaF,zaH,zaN,zbQ,cmD,tmD,hz,gY,hro,yX,yc,n0,nP,nN,b1];refine upd _ ?_ ?_ ?_ ?_ ?_ ?_ ?_ ?_
    .simp[rW,]
    .simp[rW,]
    .simp[rW,]
    .simp[rW,]
    .simp[rW,]
    .simp[rW,]
    .simp[rW,]
    .simp[rW,];exact hHR
   .by_cases b2:tv x.r=[121]
    .simp[rW,h1,h4,h5,h6,h8,g0,gP,hrem,hl0,hlen0,hj,gN,hrj,gX,q1,zaF,zaH,zaN,zbQ,cmD,tmD,hz,gY,hro,yX,yc,n0,nP,nN,b1,b2];refine non _ ?_ ?_ ?_ ?_ ?_ ?_
     .simp[rW,]
     .simp[rW,]
     .simp[rW,]
     .simp[rW,]
     .simp[rW,]
     .simp[rW,];exact hHR
    .simp[rW,h1,h4,h5,h6,h8,g0,gP,hrem,hl0,hlen0,hj,gN,hrj,gX,q1,zaF,zaH,zaN,zbQ,cmD,tmD,hz,gY,hro,yX,yc,n0,nP,nN,b1,b2];refine upd _ ?_ ?_ ?_ ?_ ?_ ?_ ?_ ?_
     .simp[rW,]
     .simp[rW,]
     .simp[rW,]
     .simp[rW,]
     .simp[rW,]
     .simp[rW,]
     .simp[rW,]
     .simp[rW,];exact hHR
def shf(n:Int){i:Nat}(hi:i<3):∃(a b e z:Int),zbB .mul (.i .i64 5) (.i .i64 i)=some (.i .i64 a)/\IntKind.i64.wrap (8+a)=b/\IntKind.u64.wrap b=e/\zbB .shr (.i .i64 n) (.i .u64 e)=some (.i .i64 z):=by
 obtain rfl|rfl|rfl:i=0\/i=1\/i=2:=by omega
 all_goals exact⟨_,_,_,_,rfl,rfl,rfl,rfl⟩
def WR.low{h h':T Ob}{N B c c' lim:Nat}{l:List CQ}(H:WR h N B c lim l)(hBc:B<=c)(hc:c<=c')(hh:∀z,z<c->h'.get z=h.get z):WR h' N B c' lim l:=by
 obtain⟨rows,h1,h2,h3,h4,h5,h6⟩ :=H;refine⟨rows,by rw[hh N (by omega)];exact h1,h2,h3,h4,h5,fun i hi=> ?_⟩;obtain⟨d,h7,h8⟩ :=h6 i hi;exact⟨d,h7,h8.up hc fun x _ h=>hh x h⟩
def W6.nxt{P N B lim i:Nat}{ex:Bool}{dh:D}{hd:List Str}{n:Int}{l:List CQ}{s t:St}(H:W6 P N B lim ex dh hd n i l s.c s)(e1:t.tm.get 1=s.tm.get 1)(e4:t.tm.get 4=s.tm.get 4)(e5:t.tm.get 5=s.tm.get 5)(e6:t.tm.get 6=some (.f (.i .i64 ((i+1:Nat):Int))))(eh:t.h=s.h)(ec:t.c=s.c):W6 P N B lim ex dh hd n (i+1) l t.c t:=by
 obtain⟨⟨h1,h4,h5,h6,g0,gP⟩,hO,hP1,hPB,hPN,hN0,hON,hW,hcc,hBc⟩ :=H;refine⟨⟨by rw[e1,h1],by rw[e4,h4],by rw[e5,h5],e6,by rw[eh];exact g0,by rw[eh];exact gP⟩,by rw[eh];exact hO,hP1,hPB,hPN,hN0,hON,by rw[eh,ec];exact hW,Z2 _,by rw[ec];exact hBc⟩
def W6.sam{P N B lim i:Nat}{ex:Bool}{dh:D}{hd:List Str}{n:Int}{l:List CQ}{s t:St}(H:W6 P N B lim ex dh hd n i l s.c s)(e1:t.tm.get 1=s.tm.get 1)(e4:t.tm.get 4=s.tm.get 4)(e5:t.tm.get 5=s.tm.get 5)(e6:t.tm.get 6=s.tm.get 6)(eh:t.h=s.h)(ec:t.c=s.c):W6 P N B lim ex dh hd n i l t.c t:=by
 obtain⟨⟨h1,h4,h5,h6,g0,gP⟩,hO,hP1,hPB,hPN,hN0,hON,hW,hcc,hBc⟩ :=H;refine⟨⟨by rw[e1,h1],by rw[e4,h4],by rw[e5,h5],by rw[e6,h6],by rw[eh];exact g0,by rw[eh];exact gP⟩,by rw[eh];exact hO,hP1,hPB,hPN,hN0,hON,by rw[eh,ec];exact hW,Z2 _,by rw[ec];exact hBc⟩
structure TW(s:St)(Q:Ex->St->Prop):Prop where
 out:wpC pr t6 s Q
def zgN{s:St}{Q:Ex->St->Prop}:wpC pr t6 s Q↔TW s Q:=⟨fun h=>⟨h⟩,fun h=>h.out⟩
theorem lp6{P N B lim r:Nat}{ex:Bool}{dh:D}{hd:List Str}{n z0:Int}{l0:List CQ}{Q:Ex->St->Prop}{s:St}(hz0:zbB .shr (.i .i64 n) (.i .u64 6)=some (.i .i64 z0))(hr:r<=3)(hr0:zbB .and (.i .i64 z0) (.i .i64 3)=some (.i .i64 r))(hl0:l0≠[])(hll:l0.length<=10)(hw0:LW 1 l0)(hS:W6 P N B lim ex dh hd n 0 l0 s.c s)
  (hQ:∀s' l' i,l'.length=l0.length->LW 4 l'->W6 P N B lim ex dh hd n i l' s'.c s'->Q (.exit 0) s'):WL pr w6 s Q:=by
 refine zfE (fun k s=>∃(i:Nat) (l:List CQ),(k=r - i/\i<=r/\l.length=l0.length/\LW (i+1) l)/\W6 P N B lim ex dh hd n i l s.c s) (fun e s=>e= .exit 0/\∃l i,l.length=l0.length/\LW 4 l/\W6 P N B lim ex dh hd n i l s.c s) ?_ r _ ⟨0,l0,⟨rfl,by omega,rfl,hw0⟩,hS⟩ (by rintro e s ⟨rfl,l,i,h1,h2,h3⟩;exact hQ s l i h1 h2 h3);clear hS hQ hw0 s;rintro k s ⟨i,l,⟨rfl,hi,hlen,hw⟩,hS0⟩;have hS:=hS0;obtain⟨⟨h1,h4,h5,h6,g0,gP⟩,hO,hP1,hPB,hPN,hN0,hON,hW,hcc,hBc⟩ :=hS0;have hlne:l≠[]:=fun e=>by
  rw[e]at hlen;exact hl0 (Z17.1 hlen.symm)
 unfold w6;simp only[rU]
 by_cases hlt:i<r
 .obtain⟨a,b,e,z,hmul,hadd,hcv,hshr⟩ :=shf n (i:=i) (by omega);obtain⟨k,hk31,hk⟩ :=zfl z 31 (by omega);obtain⟨k1,hk1,hka⟩ :=zfl k 3 (by omega);obtain⟨z2,hz2⟩ :∃z2:Int,zbB .shr (.i .i64 k) (.i .u64 2)=some (.i .i64 z2):=⟨_,rfl⟩
  obtain⟨k2,hk2,hkb⟩ :=zfl z2 3 (by omega);obtain⟨k3,hk3,hkc⟩ :=zfl z2 1 (by omega);obtain⟨z4,hz4⟩ :∃z4:Int,zbB .shr (.i .i64 k) (.i .u64 4)=some (.i .i64 z4):=⟨_,rfl⟩
  have hk':zbB .and (.i .i64 z) (.i .i64 31)=some (.i .i64 k):=hk;have hka':zbB .and (.i .i64 k) (.i .i64 3)=some (.i .i64 k1):=hka;have hkb':zbB .and (.i .i64 z2) (.i .i64 3)=some (.i .i64 k2):=hkb;have hkc':zbB .and (.i .i64 z2) (.i .i64 1)=some (.i .i64 k3):=hkc;have hw1:IntKind.i64.wrap (1+(k1:Int))=1+(k1:Int):=wrap_i64 _ (by omega) (by omega);have q8:=fun f=>zaj (k:=f) (zxR (k2:Int))
  have q8b:=fun f=>zaj (k:=f) (zxR 2)
  simp only[vF]at q8 q8b;have hwi:=zao i (by omega);have hl2:s.c<s.c+1+1:=by omega
  have q8c:=fun f=>zaj (k:=f) (zxR 3)
  simp only[vF]at q8c;have hn0:¬(0=s.c):=by omega
  have hnP:¬(P=s.c):=by omega
  have fin:∀(x:Cm) (s':St) (Q':Ex->St->Prop),TmV x.l->TmV x.r->s'.tm.get 1=s.tm.get 1->s'.tm.get 4=s.tm.get 4->s'.tm.get 5=s.tm.get 5->s'.tm.get 6=s.tm.get 6->s'.tm.get 8=some (.ptr s.c 9 0 0)->s'.h.get s.c=some (.arr 9 0 [cmD x])->s.c<s'.c->(∀z,z<s.c->s'.h.get z=s.h.get z)->(∀s' l',l'.length=l.length->LW (i+1+1) l'->W6 P N B lim ex dh hd n i l' s'.c s'->Q' .nrm s')->TW s' Q':=by
   intro x s' Q' hx1 hx2 e1 e4 e5 e6 e8 eX ec hz hQ;refine⟨t6_wp (c:=s.c) hlne (by omega) (by omega) hw hx1 hx2 (by omega) ⟨⟨by rw[e1,h1],by rw[e4,h4],by rw[e5,h5],by rw[e6,h6],by rw[hz 0 (by omega)];exact g0,by rw[hz P (by omega)];exact gP⟩,hO.up (fun y hy=>hz y (by have:=hO.2.2.1 y hy;omega)) (Z2 _) (Z2 _),hP1,hPB,hPN,hN0,hON,hW.low hBc (Z2 _) hz,by omega,hBc⟩ e8 eX (Z2 _) ec hQ⟩
  obtain rfl|rfl:k3=0\/k3=1:=by omega
  .skip
   by_cases c4:z4=1
   .by_cases c2:(k2:Int)=3
    .simp[rW,h1,h4,h5,h6,g0,gP,hz0,hr0,hlt,hmul,hadd,hcv,hshr,hk',hka',hz2,hkb',hkc',hz4,hw1,q8,q8b,q8c,c4,c2,hl2,zgN];refine fin ⟨1+k1,.cst 2,.var [120]⟩ _ _ (by simp[TmV]) (by simp[TmV]) ?_ ?_ ?_ ?_ ?_ ?_ ?_ (fun z hz=> ?_) fun s' l' a1 a2 a3=> ?_
     .simp[rW,]
     .simp[rW,]
     .simp[rW,]
     .simp[rW,]
     .simp[rW,]
     .simp[rW,cmD,tmD,zdm,zcS,zcN,zcm,zcr,zcs]
     .simp[rW,]<;>omega
     .have nz:¬(z=s.c):=by omega
      have nz1:¬(z=s.c+1):=by omega
      simp[rW,nz,nz1]
     .have b:=a3;obtain⟨⟨y1,y4,y5,y6,-,-⟩,-⟩ :=a3;simp[rW,y6,hwi];rw[zdk];refine⟨r - (i+1),by omega,i+1,l',⟨rfl,by omega,by rw[a1,hlen],a2⟩,b.nxt ?_ ?_ ?_ ?_ ?_ ?_⟩
      .simp[rW,]
      .simp[rW,]
      .simp[rW,]
      .simp[rW,]
      .simp[rW,]
      .simp[rW,]
    .simp[rW,h1,h4,h5,h6,g0,gP,hz0,hr0,hlt,hmul,hadd,hcv,hshr,hk',hka',hz2,hkb',hkc',hz4,hw1,q8,q8b,q8c,c4,c2,hl2,zgN];refine fin ⟨1+k1,.var [120],.var [120]⟩ _ _ (by simp[TmV]) (by simp[TmV]) ?_ ?_ ?_ ?_ ?_ ?_ ?_ (fun z hz=> ?_) fun s' l' a1 a2 a3=> ?_
     .simp[rW,]
     .simp[rW,]
     .simp[rW,]
     .simp[rW,]
     .simp[rW,]
     .simp[rW,cmD,tmD,zdm,zcS,zcN,zcm,zcr,zcs]
     .simp[rW,]<;>omega
     .have nz:¬(z=s.c):=by omega
      have nz1:¬(z=s.c+1):=by omega
      simp[rW,nz,nz1]
     .have b:=a3;obtain⟨⟨y1,y4,y5,y6,-,-⟩,-⟩ :=a3;simp[rW,y6,hwi];rw[zdk];refine⟨r - (i+1),by omega,i+1,l',⟨rfl,by omega,by rw[a1,hlen],a2⟩,b.nxt ?_ ?_ ?_ ?_ ?_ ?_⟩
      .simp[rW,]
      .simp[rW,]
      .simp[rW,]
      .simp[rW,]
      .simp[rW,]
      .simp[rW,]
   .by_cases c2:(k2:Int)=3
    .simp[rW,h1,h4,h5,h6,g0,gP,hz0,hr0,hlt,hmul,hadd,hcv,hshr,hk',hka',hz2,hkb',hkc',hz4,hw1,q8,q8b,q8c,c4,c2,hl2,zgN];refine fin ⟨1+k1,.cst 2,.cst 3⟩ _ _ (by simp[TmV]) (by simp[TmV]) ?_ ?_ ?_ ?_ ?_ ?_ ?_ (fun z hz=> ?_) fun s' l' a1 a2 a3=> ?_
     .simp[rW,]
     .simp[rW,]
     .simp[rW,]
     .simp[rW,]
     .simp[rW,]
     .simp[rW,cmD,tmD,zdm,zcS,zcN,zcm,zcr,zcs]
     .simp[rW,]<;>omega
     .have nz:¬(z=s.c):=by omega
      have nz1:¬(z=s.c+1):=by omega
      simp[rW,nz,nz1]
     .have b:=a3;obtain⟨⟨y1,y4,y5,y6,-,-⟩,-⟩ :=a3;simp[rW,y6,hwi];rw[zdk];refine⟨r - (i+1),by omega,i+1,l',⟨rfl,by omega,by rw[a1,hlen],a2⟩,b.nxt ?_ ?_ ?_ ?_ ?_ ?_⟩
      .simp[rW,]
      .simp[rW,]
      .simp[rW,]
      .simp[rW,]
      .simp[rW,]
      .simp[rW,]
    .simp[rW,h1,h4,h5,h6,g0,gP,hz0,hr0,hlt,hmul,hadd,hcv,hshr,hk',hka',hz2,hkb',hkc',hz4,hw1,q8,q8b,q8c,c4,c2,hl2,zgN];refine fin ⟨1+k1,.var [120],.cst k2⟩ _ _ (by simp[TmV]) (by simp[TmV]) ?_ ?_ ?_ ?_ ?_ ?_ ?_ (fun z hz=> ?_) fun s' l' a1 a2 a3=> ?_
     .simp[rW,]
     .simp[rW,]
     .simp[rW,]
     .simp[rW,]
     .simp[rW,]
     .simp[rW,cmD,tmD,zdm,zcS,zcN,zcm,zcr,zcs]
     .simp[rW,]<;>omega
     .have nz:¬(z=s.c):=by omega
      have nz1:¬(z=s.c+1):=by omega
      simp[rW,nz,nz1]
     .have b:=a3;obtain⟨⟨y1,y4,y5,y6,-,-⟩,-⟩ :=a3;simp[rW,y6,hwi];rw[zdk];refine⟨r - (i+1),by omega,i+1,l',⟨rfl,by omega,by rw[a1,hlen],a2⟩,b.nxt ?_ ?_ ?_ ?_ ?_ ?_⟩
      .simp[rW,]
      .simp[rW,]
      .simp[rW,]
      .simp[rW,]
      .simp[rW,]
      .simp[rW,]
  .skip
   by_cases c4:z4=1
   .by_cases c2:(k2:Int)=3
    .simp[rW,h1,h4,h5,h6,g0,gP,hz0,hr0,hlt,hmul,hadd,hcv,hshr,hk',hka',hz2,hkb',hkc',hz4,hw1,q8,q8b,q8c,c4,c2,hl2,zgN];refine fin ⟨1+k1,.cst 2,.var [121]⟩ _ _ (by simp[TmV]) (by simp[TmV]) ?_ ?_ ?_ ?_ ?_ ?_ ?_ (fun z hz=> ?_) fun s' l' a1 a2 a3=> ?_
     .simp[rW,]
     .simp[rW,]
     .simp[rW,]
     .simp[rW,]
     .simp[rW,]
     .simp[rW,cmD,tmD,zdm,zcS,zcN,zcm,zcr,zcs]
     .simp[rW,]<;>omega
     .have nz:¬(z=s.c):=by omega
      have nz1:¬(z=s.c+1):=by omega
      simp[rW,nz,nz1]
     .have b:=a3;obtain⟨⟨y1,y4,y5,y6,-,-⟩,-⟩ :=a3;simp[rW,y6,hwi];rw[zdk];refine⟨r - (i+1),by omega,i+1,l',⟨rfl,by omega,by rw[a1,hlen],a2⟩,b.nxt ?_ ?_ ?_ ?_ ?_ ?_⟩
      .simp[rW,]
      .simp[rW,]
      .simp[rW,]
      .simp[rW,]
      .simp[rW,]
      .simp[rW,]
    .simp[rW,h1,h4,h5,h6,g0,gP,hz0,hr0,hlt,hmul,hadd,hcv,hshr,hk',hka',hz2,hkb',hkc',hz4,hw1,q8,q8b,q8c,c4,c2,hl2,zgN];refine fin ⟨1+k1,.var [120],.var [121]⟩ _ _ (by simp[TmV]) (by simp[TmV]) ?_ ?_ ?_ ?_ ?_ ?_ ?_ (fun z hz=> ?_) fun s' l' a1 a2 a3=> ?_
     .simp[rW,]
     .simp[rW,]
     .simp[rW,]
     .simp[rW,]
     .simp[rW,]
     .simp[rW,cmD,tmD,zdm,zcS,zcN,zcm,zcr,zcs]
     .simp[rW,]<;>omega
     .have nz:¬(z=s.c):=by omega
      have nz1:¬(z=s.c+1):=by omega
      simp[rW,nz,nz1]
     .have b:=a3;obtain⟨⟨y1,y4,y5,y6,-,-⟩,-⟩ :=a3;simp[rW,y6,hwi];rw[zdk];refine⟨r - (i+1),by omega,i+1,l',⟨rfl,by omega,by rw[a1,hlen],a2⟩,b.nxt ?_ ?_ ?_ ?_ ?_ ?_⟩
      .simp[rW,]
      .simp[rW,]
      .simp[rW,]
      .simp[rW,]
      .simp[rW,]
      .simp[rW,]
   .by_cases c2:(k2:Int)=3
    .simp[rW,h1,h4,h5,h6,g0,gP,hz0,hr0,hlt,hmul,hadd,hcv,hshr,hk',hka',hz2,hkb',hkc',hz4,hw1,q8,q8b,q8c,c4,c2,hl2,zgN];refine fin ⟨1+k1,.cst 2,.cst 3⟩ _ _ (by simp[TmV]) (by simp[TmV]) ?_ ?_ ?_ ?_ ?_ ?_ ?_ (fun z hz=> ?_) fun s' l' a1 a2 a3=> ?_
     .simp[rW,]
     .simp[rW,]
     .simp[rW,]
     .simp[rW,]
     .simp[rW,]
     .simp[rW,cmD,tmD,zdm,zcS,zcN,zcm,zcr,zcs]
     .simp[rW,]<;>omega
     .have nz:¬(z=s.c):=by omega
      have nz1:¬(z=s.c+1):=by omega
      simp[rW,nz,nz1]
     .have b:=a3;obtain⟨⟨y1,y4,y5,y6,-,-⟩,-⟩ :=a3;simp[rW,y6,hwi];rw[zdk];refine⟨r - (i+1),by omega,i+1,l',⟨rfl,by omega,by rw[a1,hlen],a2⟩,b.nxt ?_ ?_ ?_ ?_ ?_ ?_⟩
      .simp[rW,]
      .simp[rW,]
      .simp[rW,]
      .simp[rW,]
      .simp[rW,]
      .simp[rW,]
    .simp[rW,h1,h4,h5,h6,g0,gP,hz0,hr0,hlt,hmul,hadd,hcv,hshr,hk',hka',hz2,hkb',hkc',hz4,hw1,q8,q8b,q8c,c4,c2,hl2,zgN];refine fin ⟨1+k1,.var [120],.cst k2⟩ _ _ (by simp[TmV]) (by simp[TmV]) ?_ ?_ ?_ ?_ ?_ ?_ ?_ (fun z hz=> ?_) fun s' l' a1 a2 a3=> ?_
     .simp[rW,]
     .simp[rW,]
     .simp[rW,]
     .simp[rW,]
     .simp[rW,]
     .simp[rW,cmD,tmD,zdm,zcS,zcN,zcm,zcr,zcs]
     .simp[rW,]<;>omega
     .have nz:¬(z=s.c):=by omega
      have nz1:¬(z=s.c+1):=by omega
      simp[rW,nz,nz1]
     .have b:=a3;obtain⟨⟨y1,y4,y5,y6,-,-⟩,-⟩ :=a3;simp[rW,y6,hwi];rw[zdk];refine⟨r - (i+1),by omega,i+1,l',⟨rfl,by omega,by rw[a1,hlen],a2⟩,b.nxt ?_ ?_ ?_ ?_ ?_ ?_⟩
      .simp[rW,]
      .simp[rW,]
      .simp[rW,]
      .simp[rW,]
      .simp[rW,]
      .simp[rW,]
 .simp[rW,h1,h4,h5,h6,g0,gP,hz0,hr0,hlt];refine⟨l,hlen,hw.up (by omega),i,hS.sam ?_ ?_ ?_ ?_ ?_ ?_⟩
  .simp[rW,]
  .simp[rW,]
  .simp[rW,]
  .simp[rW,]
  .simp[rW,]
  .simp[rW,]
theorem zwc{f:D->Option (F×List Nat)}:∀{rows:List (List D)} {xs:List (List F)},rows.length=xs.length->(∀i (h1:i<rows.length) (h2:i<xs.length),∃rd,za7 f rows[i]=some (xs[i],rd))->∃rd,zaQ f rows=some (xs,rd)
 |[],[],_,_=>⟨[],rfl⟩
 |[],_::_,h,_=>by simp at h
 |_::_,[],h,_=>by simp at h
 |r::rows,x::xs,h,hA=>by
  obtain⟨rd1,h1⟩ :=hA 0 (by simp) (by simp);obtain⟨rd2,h2⟩ :=zwc (rows:=rows) (xs:=xs) (by simpa using h) fun i a b=>hA (i+1) (by simpa using a) (by simpa using b)
  refine⟨rd1++rd2,?_⟩;rw[zyk];simp only[List.getElem_cons_zero]at h1;rw[h1,za9,h2,za9]
def zDl{h:T Ob}{N B c lim:Nat}{l:List CQ}{ex:Bool}(H:WR h N B c lim l)(hl:l≠[])(k:Nat):∃rd,frz h.get (k+3) (.sl N 0 l.length 2 lim ex)=some (qsF l,rd):=by
 obtain⟨rows,h1,h2,h3,h4,h5,h6⟩ :=H;have hlen:(rows.take l.length).length=(l.map cqF).length:=by simp;omega
 obtain⟨rd,hz⟩ :=zwc (f:=frz h.get (k+2)) hlen fun i a b=>by
  have hi:i<l.length:=by simpa using b
  obtain⟨dC,e1,e2⟩ :=h6 i hi;have e3:(rows.take l.length)[i]=[.f (zaB l[i]),dC]:=by
   rw[List.getElem_take];exact (Z8.1 e1).2
  rw[e3,List.getElem_map];have fc:∃rd,frz h.get (k+2) dC=some (zaC l[i],rd):=by
   rcases e2 with rfl|⟨Y,ro,rfl,gY,hYne,-,-⟩
   .exact⟨[],rfl⟩
   .have e:=zfm h.get k (l[i].cs.map cmF);have e2:((l[i].cs.map cmD).drop 0).take l[i].cs.length=(l[i].cs.map cmF).map fun a=>a.map D.f:=by
     rw[Z34,Z11 (by simp),Z33];exact List.map_congr_left fun k _=>(ziN k).symm
    refine⟨[Y],?_⟩;rw[zdx,gY,za9,zdf,if_pos ⟨rfl,by simp⟩,e2,e,za9,zbR (by simpa using hYne)];unfold zaC csF;rw[if_neg (fun h=>hYne h.2)]
  obtain⟨rd,hf⟩ :=fc;refine⟨rd,?_⟩;rw[zyh,zyh,zEj,hf];show om (some (zaB l[i],[])) _=_;simp[za9,cqE]
 refine⟨N::rd,?_⟩;rw[zdx,h1,za9,zdf,if_pos ⟨rfl,by omega⟩,Z34,hz,za9,zbR (by simpa using hl)];rfl
def zL4{h:T Ob}{lo c:Nat}{d:D}{l:List Str}(H:Own h lo c d (zaq l)):zcx d=some l.length:=by
 obtain⟨h1,-,-,h4⟩ :=H;rcases h1 with rfl|⟨a,b,e,f,g,x,rfl⟩
 .exact zbQ l
 .obtain⟨rd,hz⟩ :=h4 h (fun _ _=>rfl) 0;rw[zdx]at hz;cases ho:h.get a with
  |none=>rw[ho]at hz;cases hz
  |some ob=>
   rw[ho,za9]at hz;cases ob with
   |map _=>cases hz
   |arr es ro els=>
    rw[zdf]at hz;split at hz
    .rename_i hc;cases hm:zaQ (frz h.get 1) ((els.drop b).take e)with
     |none=>rw[hm]at hz;cases hz
     |some p=>
      obtain⟨xs,rd2⟩ :=p;rw[hm,za9]at hz;have hl:=(ziT hm).1;cases l with
      |nil=>simp[zaq,slc]at hz
      |cons y l=>
       rw[<-znP (by simp)]at hz;simp only[Z45,Prod.mk.injEq,F.sl.injEq]at hz;have:xs.length=(y::l).length:=by rw[hz.1.2];simp
       rw[ztj,<-this,hl];simp;omega
    .cases hz
theorem zBI:∀{l:List CQ},(∀y∈l,nkC y<=1)->nkS l<=l.length
 |[],_=>by simp[nkS]
 |a::l,h=>by
  have h1:=zBI (l:=l) fun y hy=>h y (by simp[hy])
  have h2:=h a (by simp);simp only[nkS]at h1;simp only[nkS,Z10,List.sum_cons,Z23];omega
def ans6x{x:F}(hx:zg4 x)(n:Int):∃hd l,hd.length<10/\l≠[]/\l.length<=4/\LW 4 l/\Ans pr 6 [x,.i .i64 n] (.ag [zaq hd,qsF l]):=by
 obtain⟨hd,l,hh,hQN,he⟩ :=eff23 hx (hp0:=(T.e:T Ob).set 0 (.arr 2 0 [[.f .nils,.f .nils]]));obtain⟨c,hcL,hc⟩ :=ans24 n;have hcN:=(zx3 c hcL).w;obtain⟨hl1,hl2,hl3⟩ :=hQN;have hxc:(D.f x).cells=some [.f x]:=by rcases hx with rfl|⟨zs,rfl⟩ <;>rfl
 suffices hS:∃y,(∃l':List CQ,l'≠[]/\l'.length<=4/\LW 4 l'/\y= .ag [zaq hd,qsF l'])/\Ans pr 6 [x,.i .i64 n] y by
  obtain⟨y,⟨l',h1,h2,h3,rfl⟩,h4⟩ :=hS;exact⟨hd,l',hh,h1,h2,h3,h4⟩
 refine ansE fn6 ?_;simp only[g6,rU];simp[rW,st0,zae,zmw hx,hxc];refine zcz rfl rfl he ?_;rintro d H c1 lw1 mx1 ⟨e0,dh,dl,rfl,hO,hg,hz,hdis⟩ hcc;simp only[rG]at hcc;simp[Vse.T.zad]at e0;have q1:=fun k=>zaj (k:=k) hc
 simp only[cqE]at q1;have n0:¬(0=c1):=by omega
 simp[rW,hO.2.1,za3 hg,n0,e0];refine zaL ?_;have hup:∀z,z<c1->((H.set c1 (.arr 2 0 [[.f .nils,.f .nils]])).set c1 (.arr 2 0 [[dh,dl]])).get z=H.get z:=fun z hz=>by
  have y:¬(z=c1):=by omega
  simp[Vse.T.zad,y]
 simp[rW,hO.2.1,za3 hg,n0,e0,q1,zaF,zaH];generalize hHs:((H.set c1 (.arr 2 0 [[.f .nils,.f .nils]])).set c1 (.arr 2 0 [[dh,dl]]):T Ob)=Hs at hup|-;refine zmt (lo:=1) (c:=c1+1+1+1+1+1+1) (zaS hg (by omega) fun z h1 h2=>hup z h2) ?_ (by omega) (by rw[zhb];simp;omega) (by omega) ?_
 .intro i es ro els h1 h2;have:=zbW hg h1;rw[hup i (by omega)]at h2;exact hz i es ro els h1 h2
 intro r hr1 hr2 hr3 hr4 hr5 hr6;have hsn:zdQ l++[[D.f (zaB c),D.f (zaC c)]]=zdQ (l++[c]):=(zqL l c).symm;rw[hsn]at hr2;have hdo:∀z,c1<=z->dl.oid≠some z:=fun z hz e=>by have:=zbW hg e;omega
 have f1:=hr4 c1 (by omega) (hdo c1 (Z2 _));have f0:=hr4 0 (by omega) (fun e=>by have:=zbW hg e;omega);rw[hup 0 (by omega),e0]at f0;rw[<-hHs,Vse.T.zad,if_pos rfl]at f1;rw[hHs]at f1;rcases hr2 with⟨-,e⟩ |⟨N,ro,hrd,-,gN,-,hN1,hN2⟩
 .simp[zdQ]at e
 have hro:ro=0:=hr6 N 2 ro _ (by rw[hrd];rfl) gN;subst hro;have hNx:N=c1+1+1+1+1+1+1\/dl.oid=some N:=hr5 N (by rw[hrd];rfl);have hNc:N≠c1:=fun e=>hNx.elim (fun h=>by omega) (fun h=>hdo c1 (Z2 _) (by rw[<-e];exact h))
 have hNd:dh.oid≠some N:=fun e=>hNx.elim (fun h=>by have:=hO.2.2.1 N e;omega) (fun h=>hdis N e h)
 have hlen:=zL4 hO;rw[hrd,zhb];refine⟨hr1,?_⟩;generalize hHt:(wrT Hs r.wr:T Ob)=Ht at*;obtain⟨z0,hz0⟩ :∃z0:Int,zbB .shr (.i .i64 n) (.i .u64 6)=some (.i .i64 z0):=⟨_,rfl⟩
 obtain⟨k0,hr3',hr0'⟩ :=zfl z0 3 (by omega);have hr0:zbB .and (.i .i64 z0) (.i .i64 3)=some (.i .i64 k0):=hr0';have hnk:nkS l<=l.length:=zBI fun y hy=>(hl3 y hy).nk
 have hall0:LW 1 l:=⟨fun y hy=>(hl3 y hy).w,by omega⟩
 have hall:LW 1 (l++[c]):=by
  refine⟨fun y hy=> ?_,?_⟩
  .rcases Z4.1 hy with h|h
   .exact (hl3 y h).w
   .rw[Z31.1 h];exact hcN
  .have h1:nkC c<=1:=(zx3 c hcL).nk;have h2:nkS (l++[c])=nkS l+nkC c:=by simp[nkS]
   omega
 have hwl:IntKind.i64.wrap (l.length:Int)=l.length:=wrap_i64 _ (by omega) (by omega);have hNc2:¬(c1=N):=fun e=>hNc e.symm
 by_cases h2:hd.length=2
 .have h2':(hd.length:Int)=2:=by omega
  simp[rW,f1,f0,hlen,h2',hO.2.1,hwl,zhH,zfz,gN,hNc,hNc2,n0];refine⟨by omega,by omega,lp6 (P:=c1) (N:=N) (B:=r.c) (lim:=l.length+1) (ex:=false) (dh:=dh) (hd:=hd) (n:=n) (l0:=l) hz0 hr3' hr0 hl1 (by omega) ?_ ⟨⟨?_,?_,?_,?_,?_,?_⟩,?_,by omega,by omega,fun e=>hNc e.symm,by omega,hNd,⟨zdQ (l++[c]),?_,by rw[zhb];simp,by simp,fun y hy=> ?_,hN2,fun i hi=>⟨_,?_,.inl rfl⟩⟩,Z2 _,?_⟩ fun s' l' i a1 a2 a3=> ?_⟩
  .exact hall0
  .simp[rW,]
  .simp[rW,]
  .simp[rW,]
  .simp[rW,]
  .simp[rW,f0,n0,hHs,hHt]
  .simp[rW,]
  .refine (hO.up (fun y hy=> ?_) (Z2 _) (Z2 _):Own _ 1 c1 dh (zaq hd));have h3:=hO.2.2.1 y hy;have y1:¬(y=c1):=by omega
   have h4:=hr4 y (by omega) (hdis y hy);rw[hup y (by omega)]at h4;simp[rW,y1,h4,hHs,hHt]
  .simp[rW,hNc,gN,hHs,hHt]
  .obtain⟨z,-,rfl⟩ :=Z12.1 hy;rfl
  .have hi1:i< (l++[c]).length:=by simp;omega
   rw[show(zdQ (l++[c]))[i]? =some [.f (zaB (l++[c])[i]),.f (zaC (l++[c])[i])] by simp only[zdQ,Z36,Z0 hi1];rfl];rw[List.getElem_append_left hi]
  .simp[rW,];omega
  .have hlen':l'.length<=4:=by rw[a1];omega
   have hne':l'≠[]:=fun e=>by rw[e]at a1;simp at a1;exact hl1 (Z17.1 a1.symm)
   obtain⟨⟨y1,y4,y5,y6,z0',zP'⟩,bO,bP1,bPB,bPN,bN0,bON,bW,-,bB⟩ :=a3;have bW2:WR (s'.h.set 0 (.arr 2 0 [[dh,.sl N 0 l'.length 2 (l.length+1) false]])) N r.c s'.c (l.length+1) l':=by
    obtain⟨rows,w1,w2,w3,w4,w5,w6'⟩ :=bW;refine⟨rows,by rw[Vse.T.zad,if_neg (by omega)];exact w1,w2,w3,w4,w5,fun i hi=> ?_⟩;obtain⟨d,w7,w8⟩ :=w6' i hi;exact⟨d,w7,w8.up (Z2 _) fun z h1 _=>by rw[Vse.T.zad,if_neg (by omega)]⟩
   obtain⟨rd1,fz1⟩ :=zDl (ex:=false) bW2 hne' 8;obtain⟨rd2,fz2⟩ :=bO.2.2.2 (s'.h.set 0 (.arr 2 0 [[dh,.sl N 0 l'.length 2 (l.length+1) false]])) (fun z hz=>by have:=bO.2.2.1 z hz;rw[Vse.T.zad,if_neg (by omega)]) 9;simp[rW,y4,y5,z0',zP',bO.2.1,fz1,fz2];exact⟨by omega,l',hne',hlen',a2,rfl⟩
 .have h2':¬(hd.length:Int)=2:=by omega
  simp[rW,f1,f0,hlen,h2',hO.2.1,n0];refine⟨by omega,lp6 (P:=c1) (N:=N) (B:=r.c) (lim:=l.length+1) (ex:=false) (dh:=dh) (hd:=hd) (n:=n) (l0:=(l++[c])) hz0 hr3' hr0 (by simp) (by simp;omega) ?_ ⟨⟨?_,?_,?_,?_,?_,?_⟩,?_,by omega,by omega,fun e=>hNc e.symm,by omega,hNd,⟨zdQ (l++[c]),?_,by rw[zhb];simp,by simp,fun y hy=> ?_,hN2,fun i hi=>⟨_,?_,.inl rfl⟩⟩,Z2 _,?_⟩ fun s' l' i a1 a2 a3=> ?_⟩
  .exact hall
  .simp[rW,]
  .simp[rW,]
  .simp[rW,]
  .simp[rW,]
  .simp[rW,f0,n0,hHs,hHt]
  .simp[rW,Z16]
  .refine (hO.up (fun y hy=> ?_) (Z2 _) (Z2 _):Own _ 1 c1 dh (zaq hd));have h3:=hO.2.2.1 y hy;have y1:¬(y=c1):=by omega
   have h4:=hr4 y (by omega) (hdis y hy);rw[hup y (by omega)]at h4;simp[rW,y1,h4,hHs,hHt]
  .simp[rW,hNc,gN,hHs,hHt]
  .obtain⟨z,-,rfl⟩ :=Z12.1 hy;rfl
  .have hi1:=hi;rw[show(zdQ (l++[c]))[i]? =some [.f (zaB (l++[c])[i]),.f (zaC (l++[c])[i])] by simp only[zdQ,Z36,Z0 hi1];rfl]
   skip
  .simp[rW,];omega
  .have hlen':l'.length<=4:=by rw[a1];simp;omega
   have hne':l'≠[]:=fun e=>by rw[e]at a1;simp at a1
   obtain⟨⟨y1,y4,y5,y6,z0',zP'⟩,bO,bP1,bPB,bPN,bN0,bON,bW,-,bB⟩ :=a3;have bW2:WR (s'.h.set 0 (.arr 2 0 [[dh,.sl N 0 l'.length 2 (l.length+1) false]])) N r.c s'.c (l.length+1) l':=by
    obtain⟨rows,w1,w2,w3,w4,w5,w6'⟩ :=bW;refine⟨rows,by rw[Vse.T.zad,if_neg (by omega)];exact w1,w2,w3,w4,w5,fun i hi=> ?_⟩;obtain⟨d,w7,w8⟩ :=w6' i hi;exact⟨d,w7,w8.up (Z2 _) fun z h1 _=>by rw[Vse.T.zad,if_neg (by omega)]⟩
   obtain⟨rd1,fz1⟩ :=zDl (ex:=false) bW2 hne' 8;obtain⟨rd2,fz2⟩ :=bO.2.2.2 (s'.h.set 0 (.arr 2 0 [[dh,.sl N 0 l'.length 2 (l.length+1) false]])) (fun z hz=>by have:=bO.2.2.1 z hz;rw[Vse.T.zad,if_neg (by omega)]) 9;simp[rW,y4,y5,z0',zP',bO.2.1,fz1,fz2];exact⟨by omega,l',hne',hlen',a2,rfl⟩
end Go.Proofs.YtmnkdfjljkhneaaGreat
end
