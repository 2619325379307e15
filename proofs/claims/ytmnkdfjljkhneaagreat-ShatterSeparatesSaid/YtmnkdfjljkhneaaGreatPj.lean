/- wide: the query of the laws. -/
import Derived.Test.YtmnkdfjljkhneaaGreatPi
import Derived.KernelRfl
import Derived.IntWalk
import Derived.Test.YtmnkdfjljkhneaaGreatPf
import Derived.Test.YtmnkdfjljkhneaaGreatPg
import Derived.Test.YtmnkdfjljkhneaaGreatPh
set_option linter.all false
section
namespace Go.Proofs.YtmnkdfjljkhneaaGreat
open Go Go.Vse Go.Vse.Sm
set_option maxRecDepth 100000
set_option maxHeartbeats 1000000
set_option linter.all false
theorem zsG{f:D->Option (F×List Nat)}:∀{rows:List (List D)} {xs:List (List F)},rows.length=xs.length->(∀i (h1:i<rows.length) (h2:i<xs.length),∃rd,zaN f rows[i]=some (xs[i],rd))->∃rd,zaH f rows=some (xs,rd)
 |[],[],_,_=>⟨[],rfl⟩
 |[],_::_,h,_=>by simp at h
 |_::_,[],h,_=>by simp at h
 |r::rows,x::xs,h,hA=>by
  obtain⟨rd1,h1⟩ :=hA 0 (by simp) (by simp);obtain⟨rd2,h2⟩ :=zsG (rows:=rows) (xs:=xs) (by simpa using h) fun i a b=>hA (i+1) (by simpa using a) (by simpa using b)
  refine⟨rd1++rd2,?_⟩;rw[zuY];simp only[List.getElem_cons_zero]at h1;rw[h1,zaT,h2,zaT]
theorem zzi{h:T Ob}{N B c lim:Nat}{l:List CQ}{ex:Bool}(H:WR h N B c lim l)(hl:l≠[])(k:Nat):∃rd,frz h.get (k+3) (.sl N 0 l.length 2 lim ex)=some (qsF l,rd):=by
 obtain⟨rows,h1,h2,h3,h4,h5,h6⟩ :=H;have hlen:(rows.take l.length).length=(l.map cqF).length:=by simp;omega
 obtain⟨rd,hz⟩ :=zsG (f:=frz h.get (k+2)) hlen fun i a b=>by
  have hi:i<l.length:=by simpa using b
  obtain⟨dC,e1,e2⟩ :=h6 i hi;have e3:(rows.take l.length)[i]=[.f (zaO l[i]),dC]:=by
   rw[List.getElem_take];exact (List.getElem?_eq_some_iff.1 e1).2
  rw[e3,List.getElem_map];have fc:∃rd,frz h.get (k+2) dC=some (zaR l[i],rd):=by
   rcases e2 with rfl|⟨Y,ro,rfl,gY,hYne,-,-⟩
   ·exact⟨[],rfl⟩
   ·have e:=zhH h.get k (l[i].cs.map cmF);have e2:((l[i].cs.map cmD).drop 0).take l[i].cs.length=(l[i].cs.map cmF).map fun a=>a.map D.f:=by
     rw[List.drop_zero,List.take_of_length_le (by simp),List.map_map];exact List.map_congr_left fun k _=>(zkO k).symm
    refine⟨[Y],?_⟩;rw[zdv,gY,zaT,zcS,if_pos ⟨rfl,by simp⟩,e2,e,zaT,zcM (by simpa using hYne)];unfold zaR csF;rw[if_neg (fun h=>hYne h.2)]
  obtain⟨rd,hf⟩ :=fc;refine⟨rd,?_⟩;rw[zuW,zuW,zAc,hf];show om (some (zaO l[i],[])) _=_;simp[zaT,cqE]
 refine⟨N::rd,?_⟩;rw[zdv,h1,zaT,zcS,if_pos ⟨rfl,by omega⟩,List.drop_zero,hz,zaT,zcM (by simpa using hl)];rfl
theorem zGH{h:T Ob}{lo c:Nat}{d:D}{l:List Str}(H:Own h lo c d (zaw l)):zco d=some l.length:=by
 obtain⟨h1,-,-,h4⟩ :=H;rcases h1 with rfl|⟨a,b,e,f,g,x,rfl⟩
 ·exact zcA l
 ·obtain⟨rd,hz⟩ :=h4 h (fun _ _=>rfl) 0;rw[zdv]at hz;cases ho:h.get a with
  |none=>rw[ho]at hz;cases hz
  |some ob=>
   rw[ho,zaT]at hz;cases ob with
   |map _=>cases hz
   |arr es ro els=>
    rw[zcS]at hz;split at hz
    ·rename_i hc;cases hm:zaH (frz h.get 1) ((els.drop b).take e)with
     |none=>rw[hm]at hz;cases hz
     |some p=>
      obtain⟨xs,rd2⟩ :=p;rw[hm,zaT]at hz;have hl:=(zhL hm).1;cases l with
      |nil=>simp[zaw,slc]at hz
      |cons y l=>
       rw[<-zru (by simp)]at hz;simp only[Option.some.injEq,Prod.mk.injEq,F.sl.injEq]at hz;have:xs.length=(y::l).length:=by rw[hz.1.2];simp
       rw[zqp,<-this,hl];simp;omega
    ·cases hz
set_option maxHeartbeats 4000000 in
theorem ans6{x:F}(hx:zga x)(n:Int):∃hd l,hd.length<10/\l≠[]/\l.length≤4/\(∀c∈l,CqW 4 c)/\Ans pr 6 [x,.i .i64 n] (.ag [zaw hd,qsF l]):=by
 obtain⟨hd,l,hh,hQN,he⟩ :=eff23 hx (hp0:=(T.e:T Ob).set 0 (.arr 2 0 [[.f .nils,.f .nils]]));obtain⟨c,hcL,hc⟩ :=ans24 n;have hcN:=(zCj c hcL).w;obtain⟨hl1,hl2,hl3⟩ :=hQN;have hxc:(D.f x).cells=some [.f x]:=by rcases hx with rfl|⟨zs,rfl⟩ <;>rfl
 suffices hS:∃y,(∃l':List CQ,l'≠[]/\l'.length≤4/\(∀c∈l',CqW 4 c)/\y= .ag [zaw hd,qsF l'])/\Ans pr 6 [x,.i .i64 n] y by
  obtain⟨y,⟨l',h1,h2,h3,rfl⟩,h4⟩ :=hS;exact⟨hd,l',hh,h1,h2,h3,h4⟩
 refine ansE fn6 ?_;simp only[g6,rU];simp -implicitDefEqProofs [rW,st0,zal,zjc hx,hxc];refine zdi rfl rfl he ?_;rintro d H c1 lw1 mx1 ⟨e0,dh,dl,rfl,hO,hg,hz,hdis⟩ hcc;simp only[rG]at hcc;simp[Vse.T.zad]at e0;have q1:=fun k=>zaC (k:=k) hc
 simp only[cqE]at q1;have n0:¬(0=c1):=by omega
 simp -implicitDefEqProofs [rW,hO.2.1,zbf hg,n0,e0];refine zcI ?_;have hup:∀z,z<c1->((H.set c1 (.arr 2 0 [[.f .nils,.f .nils]])).set c1 (.arr 2 0 [[dh,dl]])).get z=H.get z:=fun z hz=>by
  have y:¬(z=c1):=by omega
  simp[Vse.T.zad,y]
 simp -implicitDefEqProofs [rW,hO.2.1,zbf hg,n0,e0,q1,za4,za2];generalize hHs:((H.set c1 (.arr 2 0 [[.f .nils,.f .nils]])).set c1 (.arr 2 0 [[dh,dl]]):T Ob)=Hs at hup⊢;refine znH (lo:=1) (c:=c1+1+1+1+1+1+1) (za9 hg (by omega) fun z h1 h2=>hup z h2) ?_ (by omega) (by rw[zhq];simp;omega) (by omega) ?_
 ·intro i es ro els h1 h2;have:=zcL hg h1;rw[hup i (by omega)]at h2;exact hz i es ro els h1 h2
 intro r hr1 hr2 hr3 hr4 hr5 hr6;have hsn:zeY l++[[D.f (zaO c),D.f (zaR c)]]=zeY (l++[c]):=(zoj l c).symm;rw[hsn]at hr2;have hdo:∀z,c1≤z->dl.oid≠some z:=fun z hz e=>by have:=zcL hg e;omega
 have f1:=hr4 c1 (by omega) (hdo c1 (Nat.le_refl _));have f0:=hr4 0 (by omega) (fun e=>by have:=zcL hg e;omega);rw[hup 0 (by omega),e0]at f0;rw[<-hHs,Vse.T.zad,if_pos rfl]at f1;rw[hHs]at f1;rcases hr2 with⟨-,e⟩ |⟨N,ro,hrd,-,gN,-,hN1,hN2⟩
 ·simp[zeY]at e
 have hro:ro=0:=hr6 N 2 ro _ (by rw[hrd];rfl) gN;subst hro;have hNx:N=c1+1+1+1+1+1+1\/dl.oid=some N:=hr5 N (by rw[hrd];rfl);have hNc:N≠c1:=fun e=>hNx.elim (fun h=>by omega) (fun h=>hdo c1 (Nat.le_refl _) (by rw[<-e];exact h))
 have hNd:dh.oid≠some N:=fun e=>hNx.elim (fun h=>by have:=hO.2.2.1 N e;omega) (fun h=>hdis N e h)
 have hlen:=zGH hO;rw[hrd,zhq];refine⟨hr1,?_⟩;generalize hHt:(wrT Hs r.wr:T Ob)=Ht at*;obtain⟨z0,hz0⟩ :∃z0:Int,zbd .shr (.i .i64 n) (.i .u64 6)=some (.i .i64 z0):=⟨_,rfl⟩
 obtain⟨k0,hr3',hr0'⟩ :=zeH z0 3 (by omega);have hr0:zbd .and (.i .i64 z0) (.i .i64 3)=some (.i .i64 k0):=hr0';have hall:∀y∈l++[c],CqW 1 y:=fun y hy=>by
  rcases List.mem_append.1 hy with h|h
  ·exact (hl3 y h).w
  ·rw[List.mem_singleton.1 h];exact hcN
 have hwl:IntKind.i64.wrap (l.length:Int)=l.length:=wrap_i64 _ (by omega) (by omega);have hNc2:¬(c1=N):=fun e=>hNc e.symm
 by_cases h2:hd.length=2
 ·have h2':(hd.length:Int)=2:=by omega
  simp -implicitDefEqProofs [rW,f1,f0,hlen,h2',hO.2.1,hwl,zhN,zfV,gN,hNc,hNc2,n0];refine⟨by omega,by omega,lp6 (P:=c1) (N:=N) (B:=r.c) (lim:=l.length+1) (ex:=false) (dh:=dh) (hd:=hd) (n:=n) (l0:=l) hz0 hr3' hr0 hl1 (by omega) ?_ ⟨⟨?_,?_,?_,?_,?_,?_⟩,?_,by omega,by omega,fun e=>hNc e.symm,by omega,hNd,⟨zeY (l++[c]),?_,by rw[zhq];simp,by simp,fun y hy=> ?_,hN2,fun i hi=>⟨_,?_,.inl rfl⟩⟩,Nat.le_refl _,?_⟩ fun s' l' i a1 a2 a3=> ?_⟩
  ·intro y hy;exact hall y (List.mem_append_left _ hy)
  ·simp -implicitDefEqProofs [rW,]
  ·simp -implicitDefEqProofs [rW,]
  ·simp -implicitDefEqProofs [rW,]
  ·simp -implicitDefEqProofs [rW,]
  ·simp -implicitDefEqProofs [rW,f0,n0,hHs,hHt]
  ·simp -implicitDefEqProofs [rW,]
  ·refine (hO.up (fun y hy=> ?_) (Nat.le_refl _) (Nat.le_refl _):Own _ 1 c1 dh (zaw hd));have h3:=hO.2.2.1 y hy;have y1:¬(y=c1):=by omega
   have h4:=hr4 y (by omega) (hdis y hy);rw[hup y (by omega)]at h4;simp -implicitDefEqProofs [rW,y1,h4,hHs,hHt]
  ·simp -implicitDefEqProofs [rW,hNc,gN,hHs,hHt]
  ·obtain⟨z,-,rfl⟩ :=List.mem_map.1 hy;rfl
  ·have hi1:i< (l++[c]).length:=by simp;omega
   rw[show(zeY (l++[c]))[i]? =some [.f (zaO (l++[c])[i]),.f (zaR (l++[c])[i])] by simp only[zeY,List.getElem?_map,List.getElem?_eq_getElem hi1];rfl];rw[List.getElem_append_left hi]
  ·simp -implicitDefEqProofs [rW,];omega
  ·have hlen':l'.length≤4:=by rw[a1];omega
   have hne':l'≠[]:=fun e=>by rw[e]at a1;simp at a1;exact hl1 (List.length_eq_zero_iff.1 a1.symm)
   obtain⟨⟨y1,y4,y5,y6,z0',zP'⟩,bO,bP1,bPB,bPN,bN0,bON,bW,-,bB⟩ :=a3;have bW2:WR (s'.h.set 0 (.arr 2 0 [[dh,.sl N 0 l'.length 2 (l.length+1) false]])) N r.c s'.c (l.length+1) l':=by
    obtain⟨rows,w1,w2,w3,w4,w5,w6'⟩ :=bW;refine⟨rows,by rw[Vse.T.zad,if_neg (by omega)];exact w1,w2,w3,w4,w5,fun i hi=> ?_⟩;obtain⟨d,w7,w8⟩ :=w6' i hi;exact⟨d,w7,w8.up (Nat.le_refl _) fun z h1 _=>by rw[Vse.T.zad,if_neg (by omega)]⟩
   obtain⟨rd1,fz1⟩ :=zzi (ex:=false) bW2 hne' 8;obtain⟨rd2,fz2⟩ :=bO.2.2.2 (s'.h.set 0 (.arr 2 0 [[dh,.sl N 0 l'.length 2 (l.length+1) false]])) (fun z hz=>by have:=bO.2.2.1 z hz;rw[Vse.T.zad,if_neg (by omega)]) 9;simp -implicitDefEqProofs [rW,y4,y5,z0',zP',bO.2.1,fz1,fz2];exact⟨by omega,l',hne',hlen',a2,rfl⟩
 ·have h2':¬(hd.length:Int)=2:=by omega
  simp -implicitDefEqProofs [rW,f1,f0,hlen,h2',hO.2.1,n0];refine⟨by omega,lp6 (P:=c1) (N:=N) (B:=r.c) (lim:=l.length+1) (ex:=false) (dh:=dh) (hd:=hd) (n:=n) (l0:=(l++[c])) hz0 hr3' hr0 (by simp) (by simp;omega) ?_ ⟨⟨?_,?_,?_,?_,?_,?_⟩,?_,by omega,by omega,fun e=>hNc e.symm,by omega,hNd,⟨zeY (l++[c]),?_,by rw[zhq];simp,by simp,fun y hy=> ?_,hN2,fun i hi=>⟨_,?_,.inl rfl⟩⟩,Nat.le_refl _,?_⟩ fun s' l' i a1 a2 a3=> ?_⟩
  ·intro y hy;exact hall y hy
  ·simp -implicitDefEqProofs [rW,]
  ·simp -implicitDefEqProofs [rW,]
  ·simp -implicitDefEqProofs [rW,]
  ·simp -implicitDefEqProofs [rW,]
  ·simp -implicitDefEqProofs [rW,f0,n0,hHs,hHt]
  ·simp -implicitDefEqProofs [rW,List.length_append]
  ·refine (hO.up (fun y hy=> ?_) (Nat.le_refl _) (Nat.le_refl _):Own _ 1 c1 dh (zaw hd));have h3:=hO.2.2.1 y hy;have y1:¬(y=c1):=by omega
   have h4:=hr4 y (by omega) (hdis y hy);rw[hup y (by omega)]at h4;simp -implicitDefEqProofs [rW,y1,h4,hHs,hHt]
  ·simp -implicitDefEqProofs [rW,hNc,gN,hHs,hHt]
  ·obtain⟨z,-,rfl⟩ :=List.mem_map.1 hy;rfl
  ·have hi1:=hi;rw[show(zeY (l++[c]))[i]? =some [.f (zaO (l++[c])[i]),.f (zaR (l++[c])[i])] by simp only[zeY,List.getElem?_map,List.getElem?_eq_getElem hi1];rfl]
   skip
  ·simp -implicitDefEqProofs [rW,];omega
  ·have hlen':l'.length≤4:=by rw[a1];simp;omega
   have hne':l'≠[]:=fun e=>by rw[e]at a1;simp at a1
   obtain⟨⟨y1,y4,y5,y6,z0',zP'⟩,bO,bP1,bPB,bPN,bN0,bON,bW,-,bB⟩ :=a3;have bW2:WR (s'.h.set 0 (.arr 2 0 [[dh,.sl N 0 l'.length 2 (l.length+1) false]])) N r.c s'.c (l.length+1) l':=by
    obtain⟨rows,w1,w2,w3,w4,w5,w6'⟩ :=bW;refine⟨rows,by rw[Vse.T.zad,if_neg (by omega)];exact w1,w2,w3,w4,w5,fun i hi=> ?_⟩;obtain⟨d,w7,w8⟩ :=w6' i hi;exact⟨d,w7,w8.up (Nat.le_refl _) fun z h1 _=>by rw[Vse.T.zad,if_neg (by omega)]⟩
   obtain⟨rd1,fz1⟩ :=zzi (ex:=false) bW2 hne' 8;obtain⟨rd2,fz2⟩ :=bO.2.2.2 (s'.h.set 0 (.arr 2 0 [[dh,.sl N 0 l'.length 2 (l.length+1) false]])) (fun z hz=>by have:=bO.2.2.1 z hz;rw[Vse.T.zad,if_neg (by omega)]) 9;simp -implicitDefEqProofs [rW,y4,y5,z0',zP',bO.2.1,fz1,fz2];exact⟨by omega,l',hne',hlen',a2,rfl⟩
theorem fn22:pr.fn 22=some g22:=by kernel_rfl
theorem zfi(a b:Int):zaV [0,0,1] [.f (.i .i64 1),.f (.i .i64 a),.f (.s [])] [.f (.i .i64 1),.f (.i .i64 b),.f (.s [])]=some (decide (a=b)):=by
 simp[zaV]
 by_cases h:a=b<;>simp[h]
set_option maxHeartbeats 4000000 in
theorem ans22(c:CQ)(s:Str)(v:Int)(hc:CqG c)(hs:s≠[]):Ans pr 22 [.ag (cqF c),.s s,.ag (vF v)] (.b (exc c s v)):=by
 refine zcQ fn22 ?_;simp only[g22,rU];simp -implicitDefEqProofs [rW,st0,zal,cqE,za4,za2,vF];unfold exc;refine zeS c.cs (zbU 2 (.var s) (.cst v)) (fun n st=>(st.tm.get 1=some (.f (.s s))/\st.tm.get 3=some (.ptr 0 2 0 0)/\st.tm.get 5=some (.ptr 1 3 0 0)/\st.tm.get 7=some (.f (.i .i64 n))/\st.h.get 0=some (.arr 2 0 [[.f (zaO c),.f (zaR c)]])/\st.h.get 1=some (.arr 3 0 [[.f (.i .i64 1),.f (.i .i64 v),.f (.s [])]]))/\2≤st.c) (fun e st=>e= .exit 0) (fun n e st=>e= .ret/\st.tm.get 6=some (.f (.b true))) ?_ ?_ _ ?_ ?_ ?_
 ·rintro n st hn ⟨⟨h1,h3,h5,h7,g0,g1⟩,hlo⟩;have hw:=zaB n (by have:=hc.sc;omega);have hx:c.cs[n]? =some c.cs[n]:=List.getElem?_eq_getElem hn;have hok:=hc.cs _ (List.getElem_mem hn);have n0:¬(0=st.c):=by omega
  have n1:¬(1=st.c):=by omega
  generalize hA:c.cs[n]=A at hx hok⊢;obtain⟨op,l,r⟩ :=A
  by_cases ho:op=2
  ·have hs':¬([]=s):=fun e=>hs e.symm
   cases l with
   |var a=>
    have ha:a≠[]:=hok.1;cases r with
    |var b=>
     have hb:b≠[]:=hok.2
     by_cases e1:a=s
     ·by_cases e2:b=s
      ·simp -implicitDefEqProofs [rW,h1,h3,h5,h7,g0,g1,hn,zci,zdo,hx,hA,zdG,cmD,tmD,zbj,zbn,zbq,zcn,zcp,zcr,n0,n1,ho,hs,hs',zfi,zbU,hw,ha,hb,e1,e2];omega
      ·simp -implicitDefEqProofs [rW,h1,h3,h5,h7,g0,g1,hn,zci,zdo,hx,hA,zdG,cmD,tmD,zbj,zbn,zbq,zcn,zcp,zcr,n0,n1,ho,hs,hs',zfi,zbU,hw,ha,hb,e1,e2];omega
     ·by_cases e2:b=s
      ·simp -implicitDefEqProofs [rW,h1,h3,h5,h7,g0,g1,hn,zci,zdo,hx,hA,zdG,cmD,tmD,zbj,zbn,zbq,zcn,zcp,zcr,n0,n1,ho,hs,hs',zfi,zbU,hw,ha,hb,e1,e2];omega
      ·simp -implicitDefEqProofs [rW,h1,h3,h5,h7,g0,g1,hn,zci,zdo,hx,hA,zdG,cmD,tmD,zbj,zbn,zbq,zcn,zcp,zcr,n0,n1,ho,hs,hs',zfi,zbU,hw,ha,hb,e1,e2];omega
    |cst b=>
     by_cases e1:a=s
     ·by_cases e2:b=v
      ·simp -implicitDefEqProofs [rW,h1,h3,h5,h7,g0,g1,hn,zci,zdo,hx,hA,zdG,cmD,tmD,zbj,zbn,zbq,zcn,zcp,zcr,n0,n1,ho,hs,hs',zfi,zbU,hw,ha,e1,e2]
      ·simp -implicitDefEqProofs [rW,h1,h3,h5,h7,g0,g1,hn,zci,zdo,hx,hA,zdG,cmD,tmD,zbj,zbn,zbq,zcn,zcp,zcr,n0,n1,ho,hs,hs',zfi,zbU,hw,ha,e1,e2];omega
     ·by_cases e2:b=v
      ·simp -implicitDefEqProofs [rW,h1,h3,h5,h7,g0,g1,hn,zci,zdo,hx,hA,zdG,cmD,tmD,zbj,zbn,zbq,zcn,zcp,zcr,n0,n1,ho,hs,hs',zfi,zbU,hw,ha,e1,e2];omega
      ·simp -implicitDefEqProofs [rW,h1,h3,h5,h7,g0,g1,hn,zci,zdo,hx,hA,zdG,cmD,tmD,zbj,zbn,zbq,zcn,zcp,zcr,n0,n1,ho,hs,hs',zfi,zbU,hw,ha,e1,e2];omega
   |cst a=>
    cases r with
    |var b=>
     have hb:b≠[]:=hok.2
     by_cases e1:b=s
     ·by_cases e2:a=v
      ·simp -implicitDefEqProofs [rW,h1,h3,h5,h7,g0,g1,hn,zci,zdo,hx,hA,zdG,cmD,tmD,zbj,zbn,zbq,zcn,zcp,zcr,n0,n1,ho,hs,hs',zfi,zbU,hw,hb,e1,e2]
      ·simp -implicitDefEqProofs [rW,h1,h3,h5,h7,g0,g1,hn,zci,zdo,hx,hA,zdG,cmD,tmD,zbj,zbn,zbq,zcn,zcp,zcr,n0,n1,ho,hs,hs',zfi,zbU,hw,hb,e1,e2];omega
     ·by_cases e2:a=v
      ·simp -implicitDefEqProofs [rW,h1,h3,h5,h7,g0,g1,hn,zci,zdo,hx,hA,zdG,cmD,tmD,zbj,zbn,zbq,zcn,zcp,zcr,n0,n1,ho,hs,hs',zfi,zbU,hw,hb,e1,e2];omega
      ·simp -implicitDefEqProofs [rW,h1,h3,h5,h7,g0,g1,hn,zci,zdo,hx,hA,zdG,cmD,tmD,zbj,zbn,zbq,zcn,zcp,zcr,n0,n1,ho,hs,hs',zfi,zbU,hw,hb,e1,e2];omega
    |cst b=>
     simp -implicitDefEqProofs [rW,h1,h3,h5,h7,g0,g1,hn,zci,zdo,hx,hA,zdG,cmD,tmD,zbj,zbn,zbq,zcn,zcp,zcr,n0,n1,ho,hs,hs',zfi,zbU,hw,ho];omega
  ·simp -implicitDefEqProofs [rW,h1,h3,h5,h7,g0,g1,hn,zci,zdo,hx,hA,zdG,cmD,tmD,n0,n1,ho,zbU,hw];omega
 ·rintro st ⟨⟨h1,h3,h5,h7,g0,g1⟩,hlo⟩;simp -implicitDefEqProofs [rW,h1,h3,h5,h7,g0,g1,zci]
 ·refine⟨?_,?_⟩
  ·simp -implicitDefEqProofs [rW,]
  ·simp -implicitDefEqProofs [rW,]
 ·rintro hno e st rfl;have:c.cs.any (zbU 2 (.var s) (.cst v))=false:=by
   rw[List.any_eq_false];exact fun k hk=>by rw[hno k hk];simp
  simp -implicitDefEqProofs [rW,this]
 ·rintro n hn hp hbf e st ⟨rfl,h6⟩;have:c.cs.any (zbU 2 (.var s) (.cst v))=true:=List.any_eq_true.2 ⟨_,List.getElem_mem hn,hp⟩;simp -implicitDefEqProofs [rW,this,h6]
theorem zsi{l:List CQ}{r:Str}{p:Nat}{v:Int}:v∈cAt l r p↔∃c∈l,∃a∈c.as,a.r=r/\a.ts[p]? =some (.cst v):=by
 unfold cAt;simp only[List.mem_flatMap];refine exists_congr fun c=>and_congr_right fun _=>exists_congr fun a=>and_congr_right fun _=> ?_
 unfold cA1;split
 ·rename_i h;simp only[h,true_and];split
  ·rename_i n hn;rw[hn];constructor
   ·intro h;rw[List.mem_singleton.1 h]
   ·intro h;cases h;simp
  ·rename_i hn;constructor
   ·intro h;simp at h
   ·intro h;exact absurd h (hn v)
 ·rename_i h;simp[h]
theorem zyZ(q:CQ)(s:Str)(o:Option Int)(w:Int):(stS q s o w=some w/\exc q s w=false)\/(stS q s o w=o/\(o=none->exc q s w=true)):=by
 unfold stS;cases o with
 |none=>cases h:exc q s w<;>simp
 |some b=>by_cases hb:w<b<;>cases h:exc q s w<;>simp[hb]
theorem zri{q:CQ}{s:Str}{v:Int}:∀{vs:List Int} {o:Option Int},smV q s o vs=some v->o=some v\/(v∈vs/\exc q s v=false)
 |[],o,h=> .inl h
 |w::vs,o,h=>by
  have h':smV q s (stS q s o w) vs=some v:=h;rcases zri h' with h1|⟨h1,h2⟩
  ·rcases zyZ q s o w with⟨e,h3⟩ |⟨e,-⟩
   ·rw[e]at h1;cases h1;exact .inr ⟨by simp,h3⟩
   ·rw[e]at h1;exact .inl h1
  ·exact .inr ⟨by simp[h1],h2⟩
theorem zrh{q:CQ}{s:Str}:∀{vs:List Int} {o:Option Int},smV q s o vs=none->o=none/\∀v∈vs,exc q s v=true
 |[],o,h=>⟨h,by simp⟩
 |w::vs,o,h=>by
  have h':smV q s (stS q s o w) vs=none:=h;obtain⟨h1,h2⟩ :=zrh h';rcases zyZ q s o w with⟨e,-⟩ |⟨e,h3⟩
  ·rw[e]at h1;cases h1
  ·rw[e]at h1;refine⟨h1,fun v hv=> ?_⟩;rcases List.mem_cons.1 hv with rfl|hv
   ·exact h3 h1
   ·exact h2 v hv
theorem zlM{l:List CQ}{q:CQ}{s:Str}{a:Atm}{v:Int}{o:Option Int}:∀{n:Nat},smT l q s a o n=some v->o=some v\/∃i,i<n/\a.ts[i]? =some (.var s)/\v∈cAt l a.r i/\exc q s v=false
 |0,h=> .inl h
 |n+1,h=>by
  rw[zlO]at h;split at h
  ·rename_i hv;rcases zri h with h1|⟨h1,h2⟩
   ·rcases zlM h1 with h1|⟨i,hi,h1⟩
    ·exact .inl h1
    ·exact .inr ⟨i,by omega,h1⟩
   ·exact .inr ⟨n,by omega,hv,h1,h2⟩
  ·rcases zlM h with h1|⟨i,hi,h1⟩
   ·exact .inl h1
   ·exact .inr ⟨i,by omega,h1⟩
theorem zlL{l:List CQ}{q:CQ}{s:Str}{a:Atm}{o:Option Int}:∀{n:Nat},smT l q s a o n=none->o=none/\∀i,i<n->a.ts[i]? =some (.var s)->∀v∈cAt l a.r i,exc q s v=true
 |0,h=>⟨h,fun i hi=>by omega⟩
 |n+1,h=>by
  rw[zlO]at h;split at h
  ·obtain⟨h1,h2⟩ :=zrh h;obtain⟨h3,h4⟩ :=zlL h1;refine⟨h3,fun i hi=> ?_⟩
   by_cases e:i=n
   ·subst e;exact fun _=>h2
   ·exact h4 i (by omega)
  ·rename_i hv;obtain⟨h3,h4⟩ :=zlL h;refine⟨h3,fun i hi=> ?_⟩
   by_cases e:i=n
   ·subst e;exact fun h=>absurd h hv
   ·exact h4 i (by omega)
theorem zo1{l:List CQ}{q:CQ}{s:Str}{v:Int}:∀{as':List Atm} {o:Option Int},as'.foldl (fun o a=>smT l q s a o a.ts.length) o=some v->o=some v\/∃a∈as',∃i:Nat,a.ts[i]? =some (.var s)/\v∈cAt l a.r i/\exc q s v=false
 |[],o,h=> .inl h
 |a::as',o,h=>by
  rcases zo1 (as':=as') h with h1|⟨b,hb,i,h1⟩
  ·rcases zlM h1 with h1|⟨i,-,h1⟩
   ·exact .inl h1
   ·exact .inr ⟨a,by simp,i,h1⟩
  ·exact .inr ⟨b,by simp[hb],i,h1⟩
theorem zoX{l:List CQ}{q:CQ}{s:Str}:∀{as':List Atm} {o:Option Int},as'.foldl (fun o a=>smT l q s a o a.ts.length) o=none->o=none/\∀a∈as',∀i:Nat,a.ts[i]? =some (.var s)->∀v∈cAt l a.r i,exc q s v=true
 |[],o,h=>⟨h,by simp⟩
 |a::as',o,h=>by
  obtain⟨h1,h2⟩ :=zoX (as':=as') h;obtain⟨h3,h4⟩ :=zlL h1;refine⟨h3,fun b hb i hi=> ?_⟩;rcases List.mem_cons.1 hb with rfl|hb
  ·refine h4 i ?_ hi;rcases Nat.lt_or_ge i b.ts.length with h|h
   ·exact h
   ·rw[List.getElem?_eq_none h]at hi;cases hi
  ·exact h2 b hb i hi
theorem ztO{c:CQ}{k:Cm}{t:Trm}:t∈tsC (wth c k)↔t∈tsC c\/t=k.l\/t=k.r:=by
 rw[zdg,zdg];constructor
 ·rintro (h|⟨j,hj,ht⟩)
  ·exact .inl (.inl h)
  ·rcases List.mem_append.1 hj with hj|hj
   ·exact .inl (.inr ⟨j,hj,ht⟩)
   ·rw[List.mem_singleton.1 hj]at ht;exact .inr ht
 ·rintro ((h|⟨j,hj,ht⟩)|h)
  ·exact .inl h
  ·exact .inr ⟨j,List.mem_append_left _ hj,ht⟩
  ·exact .inr ⟨k,List.mem_append_right _ (by simp),h⟩
theorem zx0{c:CQ}{k:Cm}(h1:lv c k.l=true)(h2:lv c k.r=true){t:Trm}(h:lv (wth c k) t=true):lv c t=true:=by
 cases t with
 |cst=>rfl
 |var s=>
  simp only[lv,decide_eq_true_eq]at h;rcases ztO.1 h with h|h|h
  ·exact zpu h
  ·rw[h];exact h1
  ·rw[h];exact h2
theorem zHS{op:Int}{c:CQ}{k:Cm}(h1:lv c k.l=true)(h2:lv c k.r=true){p:Trm×Trm}(h:unc op (wth c k) p=true):unc op c p=true:=by
 obtain⟨a,b,e⟩ :=zfm.1 h;refine zfm.2 ⟨zx0 h1 h2 a,zx0 h1 h2 b,?_⟩;have e':(c.cs++[k]).any (zbU op p.1 p.2)=false:=e;rw[List.any_append]at e';simp only[Bool.or_eq_false_iff]at e';exact e'.1
theorem zwh{op:Int}{c:CQ}{a b:Trm}:unc op (wth c ⟨op,a,b⟩) (a,b)=false:=by
 rw[Bool.eq_false_iff];intro h;obtain⟨-,-,e⟩ :=zfm.1 h;have e':(c.cs++[(⟨op,a,b⟩ :Cm)]).any (zbU op a b)=false:=e;rw[List.any_append]at e';simp[zbU]at e'
theorem zBE{op:Int}{s:Str}{t:Trm}(ht:t≠ .var s){c:CQ}{p:Trm×Trm}(hp:p.1= .var s\/p.2= .var s):unc op (mpC (sbT s t) c) p=false:=by
 rw[Bool.eq_false_iff];intro h;obtain⟨h1,h2,-⟩ :=zfm.1 h;have no:lv (mpC (sbT s t) c) (.var s)=true->False:=by
  intro h;simp only[lv,decide_eq_true_eq]at h;obtain⟨u,hu,e⟩ :=znd.1 h;unfold sbT at e;split at e
  ·exact ht e
  ·rename_i hne;exact hne e
 rcases hp with hp|hp
 ·rw[hp]at h1;exact no h1
 ·rw[hp]at h2;exact no h2
theorem zGr{op:Int}{L:List (Trm×Trm)}{PT:Trm->Prop}{c:CQ}(h:zfE op L PT c){s:Str}{t:Trm}(h1:lv c t=true)(h2:PT t)(h3:zax t)(h4:t≠ .var s){p:Trm×Trm}(hp:p∈L)(h5:unc op c p=true)(h6:p.1= .var s\/p.2= .var s):
  zfE op L PT (mpC (sbT s t) c)/\cnt op L (mpC (sbT s t) c)<cnt op L c:=by
 have hlt:cnt op L (mpC (sbT s t) c)<cnt op L c:=cnt_lt (fun p hp h=>zzb h1 h) hp h5 (zBE h4 h6);refine⟨⟨zjT h.g fun u hu=>zis h3 hu,fun u hu=> ?_,?_⟩,hlt⟩
 ·obtain⟨v,hv,rfl⟩ :=znd.1 hu;unfold sbT;split
  ·exact h2
  ·exact h.t v hv
 ·have:=h.b;have e:(mpC (sbT s t) c).cs.length=c.cs.length:=by simp[mpC]
  omega
theorem zAj{op:Int}{L:List (Trm×Trm)}{PT:Trm->Prop}{c:CQ}(h:zfE op L PT c){k:Cm}(h1:lv c k.l=true)(h2:lv c k.r=true)(h3:zbt k)(h4:PT k.l)(h5:PT k.r){p:Trm×Trm}(hp:p∈L)(h6:unc op c p=true)(h7:unc op (wth c k) p=false):
  zfE op L PT (wth c k)/\cnt op L (wth c k)<cnt op L c:=by
 have hlt:cnt op L (wth c k)<cnt op L c:=cnt_lt (fun p hp h=>zHS h1 h2 h) hp h6 h7;have hb:=h.b;refine⟨⟨zkT h.g h3 (by omega),fun u hu=> ?_,?_⟩,hlt⟩
 ·rcases ztO.1 hu with hu|rfl|rfl
  ·exact h.t u hu
  ·exact h4
  ·exact h5
 ·have e:(wth c k).cs.length=c.cs.length+1:=by simp[wth]
  omega
def PTm(V:List Str)(K:List Int):Trm->Prop
 | .var s=>s∈V
 | .cst v=>v∈K
def prs(V:List Str)(K:List Int):List (Trm×Trm):=V.flatMap fun s=>K.map fun v=>(.var s,.cst v)
theorem zGK{V:List Str}{K:List Int}{s:Str}{v:Int}(h1:s∈V)(h2:v∈K):(Trm.var s,Trm.cst v)∈prs V K:=List.mem_flatMap.2 ⟨s,h1,List.mem_map.2 ⟨v,h2,rfl⟩⟩
theorem zx9{V:List Str}{K:List Int}:∀p∈prs V K,Gd p:=by
 intro p hp;obtain⟨s,-,hp⟩ :=List.mem_flatMap.1 hp;obtain⟨v,-,rfl⟩ :=List.mem_map.1 hp;exact⟨by simp,by rintro⟨a,b,e⟩;cases e⟩
theorem zBA{hd:List Str}{l:List CQ}{c:CQ}{p:Str×Int}(h:stQ hd l c=some p):p.1∈vrs c/\exc c p.1 p.2=false/\∃a∈c.as,∃i:Nat,a.ts[i]? =some (.var p.1)/\p.2∈cAt l a.r i:=by
 unfold stQ at h;obtain⟨s,hs,h⟩ :=List.exists_of_findSome?_eq_some h;unfold stN at h;split at h
 ·cases h
 ·cases ho:smA l c s c.as with
  |none=>rw[ho]at h;cases h
  |some v=>
   rw[ho]at h;cases h;rcases zo1 ho with h1|⟨a,ha,i,h1,h2,h3⟩
   ·cases h1
   ·exact⟨hs,h3,a,ha,i,h1,h2⟩
theorem zBp{hd:List Str}{l M:List CQ}{i:Nat}(h:shS hd l=some (i,M)):∃(hi:i<l.length) (p:Str×Int),stQ hd l l[i]=some p/\M=spl l[i] p.1 p.2:=by
 unfold shS at h;split at h
 ·rename_i j hj;obtain⟨h1,h2⟩ :=zgQ hj;rw[List.getElem?_eq_getElem h1]at h;cases hq:stQ hd l l[j]with
  |none=>rw[hq]at h2;cases h2
  |some p=>
   simp only[hq,Option.map_some,Option.some.injEq,Prod.mk.injEq]at h;obtain⟨rfl,rfl⟩ :=h;exact⟨h1,p,hq,rfl⟩
 ·cases h
theorem pow_2{B m a b:Nat}(hB:3≤B)(h1:a<m)(h2:b<m):B ^ a+B ^ b<B ^ m:=by
 obtain⟨n,rfl⟩ :∃n,m=n+1:=⟨m - 1,by omega⟩
 have k1:B ^ a≤B ^ n:=Nat.pow_le_pow_right (by omega) (by omega);have k2:B ^ b≤B ^ n:=Nat.pow_le_pow_right (by omega) (by omega);have k3:0<B ^ n:=Nat.pow_pos (by omega);have k4:B ^ (n+1)=B ^ n*B:=Nat.pow_succ ..;have k5:B ^ n*3≤B ^ n*B:=Nat.mul_le_mul_left _ hB;omega
theorem zKt(hd:List Str)(V:List Str)(K:List Int)(hV:∀s∈V,s≠[]):Dcr 3 2 (prs V K) (PTm V K) (shS hd):=by
 intro l hl i M h;obtain⟨hi,p,hp,rfl⟩ :=zBp h;have hI:=hl _ (List.getElem_mem hi);obtain⟨h1,h2,a,ha,j,h3,h4⟩ :=zBA hp;generalize hc0:l[i]=c at*;have hin:=(ztV.1 h1).2;have hs:p.1∈V:=hI.t _ hin;obtain⟨c',hc',a',ha',-,h5⟩ :=zsi.1 h4;have hv:p.2∈K:=(hl c' hc').t (.cst p.2) (zdg.2 (.inl ⟨a',ha',List.mem_of_getElem? h5⟩));have hu:unc 2 c (.var p.1,.cst p.2)=true:=zfm.2 ⟨zpu hin,rfl,h2⟩;have hL:=zGK hs hv;obtain⟨k1,k2⟩ :=zGr hI (s:=p.1) (t:= .cst p.2) rfl hv trivial (by simp) hL hu (.inl rfl);obtain⟨k3,k4⟩ :=zAj hI (k:=⟨2,.var p.1,.cst p.2⟩) (zpu hin) rfl ⟨hV _ hs,trivial⟩ hs hv hL hu zwh;refine⟨hi,by simp[spl],by simp[spl],fun d hd=> ?_,?_⟩
 ·rcases List.mem_cons.1 hd with rfl|hd
  ·exact k1
  ·rw[List.mem_singleton.1 hd];exact k3
 ·have:=pow_2 (B:=3) (by omega) k2 k4;simpa [mu,spl,hc0]using this
theorem zF3{α β:Type}{l:List α}{f:α->Option β}(h:l.findSome? f=none):∀a∈l,f a=none:=List.findSome?_eq_none_iff.1 h
theorem zBl{hd:List Str}{l:List CQ}(h:shS hd l=none):∀c∈l,∀s,s≠[]->hd.any (· ==s)=false->∀a∈c.as,∀i:Nat,a.ts[i]? =some (.var s)->∀d∈l,∀b∈d.as,b.r=a.r->∀v,b.ts[i]? =some (.cst v)->exc c s v=true:=by
  intro c hc s hs hhd a ha i hi d hd' b hb hr v hv;have hno:l.findIdx? (fun c=>(stQ hd l c).isSome)=none:=by
    cases hf:l.findIdx? fun c=>(stQ hd l c).isSome with
    |none=>rfl
    | some j=>
      obtain⟨h1,h2⟩ :=zgQ hf;unfold shS at h;rw[hf]at h;simp only[List.getElem?_eq_getElem h1]at h;cases hq:stQ hd l l[j]with
      |none=>rw[hq]at h2;cases h2
      |some p=>rw[hq]at h;cases h
  have h1:=List.findIdx?_eq_none_iff.1 hno c hc;have h2:stQ hd l c=none:=by simpa using h1
  have h3:=zF3 h2 s (ztV.2 ⟨hs,zdg.2 (.inl ⟨a,ha,List.mem_of_getElem? hi⟩)⟩);unfold stN at h3;rw[if_neg (by rw[hhd];simp)]at h3;have h4:smA l c s c.as=none:=by simpa using h3
  exact (zoX h4).2 a ha i hi v (zsi.2 ⟨d,hd',b,hb,hr,hv⟩)
theorem fn4:pr.fn 4=some g4:=by kernel_rfl
def J1(hd:List Str)(l:List CQ)(i:Nat)(s:St):Prop:=(s.tm.get 5=some (.ptr 0 2 0 0)/\s.h.get 0=some (.arr 2 0 [[.f (zaw hd),.f (qsF l)]])/\s.tm.get 7=some (.f (.i .i64 i)))/\1≤s.c
def J2(hd:List Str)(l:List CQ)(i k:Nat)(s:St):Prop:=(s.tm.get 5=some (.ptr 0 2 0 0)/\s.h.get 0=some (.arr 2 0 [[.f (zaw hd),.f (qsF l)]])/\s.tm.get 7=some (.f (.i .i64 i))/\s.tm.get 8=some (.f (.i .i64 k)))/\1≤s.c
def J3(hd:List Str)(l:List CQ)(i k X:Nat)(A:Atm)(j:Nat)(s:St):Prop:=(s.tm.get 5=some (.ptr 0 2 0 0)/\s.h.get 0=some (.arr 2 0 [[.f (zaw hd),.f (qsF l)]])/\s.tm.get 7=some (.f (.i .i64 i))/\s.tm.get 8=some (.f (.i .i64 k))/\s.tm.get 9=some (.ptr X 3 0 0)/\s.h.get X=some (.arr 3 0 [[.f (.s A.r),.f (.b A.neg),.f (zbO A.ts)]])/\s.tm.get 10=some (.f (.i .i64 j)))/\1≤X/\X<s.c
def J4(hd:List Str)(l:List CQ)(i k X:Nat)(A:Atm)(j m:Nat)(s:St):Prop:=(s.tm.get 5=some (.ptr 0 2 0 0)/\s.h.get 0=some (.arr 2 0 [[.f (zaw hd),.f (qsF l)]])/\s.tm.get 7=some (.f (.i .i64 i))/\s.tm.get 8=some (.f (.i .i64 k))/\s.tm.get 9=some (.ptr X 3 0 0)/\s.h.get X=some (.arr 3 0 [[.f (.s A.r),.f (.b A.neg),.f (zbO A.ts)]])/\s.tm.get 10=some (.f (.i .i64 j))/\s.tm.get 11=some (.f (.i .i64 m)))/\1≤X/\X<s.c
def J5(hd:List Str)(l:List CQ)(i k X:Nat)(A:Atm)(j m Y:Nat)(U:Atm)(t:Nat)(s:St):Prop:=(s.tm.get 5=some (.ptr 0 2 0 0)/\s.h.get 0=some (.arr 2 0 [[.f (zaw hd),.f (qsF l)]])/\s.tm.get 7=some (.f (.i .i64 i))/\s.tm.get 8=some (.f (.i .i64 k))/\s.tm.get 9=some (.ptr X 3 0 0)/\s.h.get X=some (.arr 3 0 [[.f (.s A.r),.f (.b A.neg),.f (zbO A.ts)]])/\s.tm.get 10=some (.f (.i .i64 j))/\s.tm.get 11=some (.f (.i .i64 m))/\s.tm.get 12=some (.ptr Y 3 0 0)/\s.h.get Y=some (.arr 3 0 [[.f (.s U.r),.f (.b U.neg),.f (zbO U.ts)]])/\s.tm.get 13=some (.f (.i .i64 t)))/\1≤X/\X<Y/\Y<s.c
def J6(hd:List Str)(l:List CQ)(i k X:Nat)(A:Atm)(j m Y:Nat)(U:Atm)(t:Nat)(v:Str)(h:Nat)(s:St):Prop:=(s.tm.get 5=some (.ptr 0 2 0 0)/\s.h.get 0=some (.arr 2 0 [[.f (zaw hd),.f (qsF l)]])/\s.tm.get 7=some (.f (.i .i64 i))/\s.tm.get 8=some (.f (.i .i64 k))/\s.tm.get 9=some (.ptr X 3 0 0)/\s.h.get X=some (.arr 3 0 [[.f (.s A.r),.f (.b A.neg),.f (zbO A.ts)]])/\s.tm.get 10=some (.f (.i .i64 j))/\s.tm.get 11=some (.f (.i .i64 m))/\s.tm.get 12=some (.ptr Y 3 0 0)/\s.h.get Y=some (.arr 3 0 [[.f (.s U.r),.f (.b U.neg),.f (zbO U.ts)]])/\s.tm.get 13=some (.f (.i .i64 t))/\s.tm.get 14=some (.f (.b ((hd.take h).any (· ==v))))/\s.tm.get 15=some (.f (.i .i64 h)))/\1≤X/\X<Y/\Y<s.c
set_option maxHeartbeats 2000000 in
theorem ans4w{x:F}(hx:zga x){n:Int}{hd:List Str}{l0:List CQ}(hQ0:QG hd l0)(h6:Ans pr 6 [x,.i .i64 n] (.ag [zaw hd,qsF l0])){kk:Nat}{r:Option (List CQ)}(hR:RwN hd (shS hd) kk (zbk hd l0) r)(hr:∀l,r=some l->shS hd l=none/\(∀c∈l,CqG c)/\l.length≤64)(hk:Ans pr 21 [] (.b true)):Ans pr 4 [x,.i .i64 n] (.b true):=by
  refine zcQ fn4 ?_;have q6:=fun f=>zaC (k:=f) h6
  have q11:=fun f=>zaC (k:=f) (zBS hQ0 hR)
  have q21:=fun f=>zaC (k:=f) hk
  simp only[g4,rU];cases r with
  | none=>
    simp only[rwF]at q11;simp -implicitDefEqProofs [rW,st0,zal,zjc hx,q6,q11,q21,zbl,zlI]
  | some l=>
    obtain⟨hno,hG,hll⟩ :=hr l rfl;have hno:=zBl hno;have hhd:=hQ0.1;simp only[rwF]at q11;simp -implicitDefEqProofs [rW,st0,zal,zjc hx,q6,q11,zbl,zlI];refine zex l.length (J1 hd l) (fun e s=>e= .exit 0) ?_ ?_ _ ?_ ?_
    · rintro i s hi ⟨⟨h5,g0,h7⟩,hlo⟩;have hwi:=zaB i (by omega);have hGi:=hG _ (List.getElem_mem hi);have hxi:l[i]? =some l[i]:=List.getElem?_eq_getElem hi;have hci:=List.getElem_mem hi;generalize hI:l[i]=CI at hxi hGi hci;simp -implicitDefEqProofs [rW,h5,g0,h7,hi,zfa,zgV,hxi,hI];refine zex CI.as.length (J2 hd l i) (fun e s=>e= .exit 2/\J1 hd l i s) ?_ ?_ _ ?_ ?_
      · rintro k s hk ⟨⟨h5,g0,h7,h8⟩,hlo⟩;have hwk:=zaB k (by have:=hGi.sa;omega);have hxk:CI.as[k]? =some CI.as[k]:=List.getElem?_eq_getElem hk;have hAm:=List.getElem_mem hk;have hAok:=(hGi.toCqSm.toCqOk.as _ hAm).1;have hAt:=hGi.s2 _ hAm;generalize hA:CI.as[k]=A at hxk hAm hAok hAt;simp -implicitDefEqProofs [rW,h5,g0,h7,h8,hi,hk,zfa,zgV,hxi,hI,cqE,zdr,zeu,hxk,hA,atE,zc0];refine zex l.length (J3 hd l i k s.c A) (fun e s'=>e= .exit 4/\J2 hd l i k s') ?_ ?_ _ ?_ ?_
        · rintro j s' hj ⟨⟨h5,g0,h7,h8,h9,gX,h10⟩,hX1,hX2⟩;have hwj:=zaB j (by omega);have hGj:=hG _ (List.getElem_mem hj);have hxj:l[j]? =some l[j]:=List.getElem?_eq_getElem hj;have hcj:=List.getElem_mem hj;generalize hJ:l[j]=CJ at hxj hGj hcj;simp -implicitDefEqProofs [rW,h5,g0,h7,h8,h9,gX,h10,hj,zfa,zgV,hxj,hJ];refine zex CJ.as.length (J4 hd l i k s.c A j) (fun e s'=>e= .exit 6/\J3 hd l i k s.c A j s') ?_ ?_ _ ?_ ?_
          · rintro m s2 hm ⟨⟨h5,g0,h7,h8,h9,gX,h10,h11⟩,hX1,hX2⟩;have hwm:=zaB m (by have:=hGj.sa;omega);have hxm:CJ.as[m]? =some CJ.as[m]:=List.getElem?_eq_getElem hm;have hUm:=List.getElem_mem hm;have hUok:=(hGj.toCqSm.toCqOk.as _ hUm).1;have hUt:=hGj.s2 _ hUm;generalize hU:CJ.as[m]=U at hxm hUm hUok hUt;have nX:¬(s.c=s2.c):=by omega
            simp -implicitDefEqProofs [rW,h5,g0,h7,h8,h9,gX,h10,h11,hj,hm,zfa,zgV,hxj,hJ,cqE,zdr,zeu,hxm,hU,atE,zc0,nX];have htlA:∀t,t< (if A.r=U.r then min A.ts.length U.ts.length else 0)->A.r=U.r/\t<A.ts.length/\t<U.ts.length:=fun t ht=>by
              split at ht
              · rename_i e;exact⟨e,by omega,by omega⟩
              · omega
            refine zex (if A.r=U.r then min A.ts.length U.ts.length else 0) (J5 hd l i k s.c A j m s2.c U) (fun e s3=>e= .exit 8/\J4 hd l i k s.c A j m s3) ?_ ?_ _ ?_ ?_
            · rintro t s3 ht ⟨⟨h5,g0,h7,h8,h9,gX,h10,h11,h12,gY,h13⟩,hX1,hY1,hY2⟩;obtain⟨er,hA1,hU1⟩ :=htlA t ht;have hwt:=zaB t (by omega);have hxA:A.ts[t]? =some A.ts[t]:=List.getElem?_eq_getElem hA1;have hxU:U.ts[t]? =some U.ts[t]:=List.getElem?_eq_getElem hU1;have hTok:=hAok _ (List.getElem_mem hA1);have hWok:=hUok _ (List.getElem_mem hU1);generalize hT:A.ts[t]=T at hxA hTok;generalize hW:U.ts[t]=W at hxU hWok;obtain⟨v,hv⟩ :∃v,tv T=v:=⟨_,rfl⟩
              simp -implicitDefEqProofs [rW,h5,g0,h7,h8,h9,gX,h10,h11,h12,gY,h13,zcw,hA1,hU1,er];refine zex hd.length (J6 hd l i k s.c A j m s2.c U t v) (fun e s4=>e= .exit 10/\J5 hd l i k s.c A j m s2.c U t s4/\s4.tm.get 14=some (.f (.b (hd.any (· ==v))))) ?_ ?_ _ ?_ ?_
              · rintro h s4 hh ⟨⟨h5,g0,h7,h8,h9,gX,h10,h11,h12,gY,h13,h14,h15⟩,hX1,hY1,hY2⟩;have hwh:=zaB h (by omega);have hxh:hd[h]? =some hd[h]:=List.getElem?_eq_getElem hh;have hta:(hd.take (h+1)).any (· ==v)=((hd.take h).any (· ==v)||hd[h]==v):=by
                  rw[List.take_succ_eq_append_getElem hh,List.any_append];simp
                generalize hE:hd[h]=e at hxh hta;generalize hb:(hd.take h).any (· ==v)=b at h14 hta;simp -implicitDefEqProofs [rW,h5,g0,h7,h8,h9,gX,h10,h11,h12,gY,h13,h14,h15,zcA,hh];refine zcI ?_;cases b with
                | true=>
                  simp -implicitDefEqProofs [rW,h5,g0,h7,h8,h9,gX,h10,h11,h12,gY,h13,h14,h15,hwh];refine⟨?_,hX1,hY1,by simp -implicitDefEqProofs [rW,];omega⟩;simp -implicitDefEqProofs [rW,h5,g0,h7,h8,h9,gX,h10,h11,h12,gY,h13,h14,h15,hwh,hta]
                | false=>
                  by_cases he:e=v
                  · simp -implicitDefEqProofs [rW,h5,g0,h7,h8,h9,gX,h10,h11,h12,gY,h13,h14,h15,ziw,hh,hxh,hE,zcG,hxA,hT,tmE,hwh,hv,he];refine⟨?_,hX1,hY1,by simp -implicitDefEqProofs [rW,];omega⟩;simp -implicitDefEqProofs [rW,h5,g0,h7,h8,h9,gX,h10,h11,h12,gY,h13,h14,h15,hwh,hta,he]
                  · simp -implicitDefEqProofs [rW,h5,g0,h7,h8,h9,gX,h10,h11,h12,gY,h13,h14,h15,ziw,hh,hxh,hE,zcG,hxA,hT,tmE,hwh,hv,he];refine⟨?_,hX1,hY1,by simp -implicitDefEqProofs [rW,];omega⟩;simp -implicitDefEqProofs [rW,h5,g0,h7,h8,h9,gX,h10,h11,h12,gY,h13,h14,h15,hwh,hta,he]
              · rintro s4 ⟨⟨h5,g0,h7,h8,h9,gX,h10,h11,h12,gY,h13,h14,h15⟩,hX1,hY1,hY2⟩;rw[List.take_length]at h14;simp -implicitDefEqProofs [rW,h5,g0,h7,h8,h9,gX,h10,h11,h12,gY,h13,h14,h15,zcA];refine⟨?_,hX1,hY1,by simp -implicitDefEqProofs [rW,];exact hY2⟩;simp -implicitDefEqProofs [rW,h5,g0,h7,h8,h9,gX,h10,h11,h12,gY,h13]
              · refine⟨?_,hX1,hY1,by simp -implicitDefEqProofs [rW,];exact hY2⟩;simp -implicitDefEqProofs [rW,h5,g0,h7,h8,h9,gX,h10,h11,h12,gY,h13,List.take_zero]
              · rintro e s4 ⟨rfl,⟨⟨h5,g0,h7,h8,h9,gX,h10,h11,h12,gY,h13⟩,hX1,hY1,hY2⟩,h14⟩;generalize hb:hd.any (· ==v)=b at h14;simp -implicitDefEqProofs [rW,];refine zcI ?_;cases T with
                | cst z=>
                  rw[zcn]at hv;simp -implicitDefEqProofs [rW,h5,g0,h7,h8,h9,gX,h10,h11,h12,gY,h13,h14,zcG,hxA,hT,tmF,hwt];refine⟨?_,hX1,hY1,by simp -implicitDefEqProofs [rW,];omega⟩;simp -implicitDefEqProofs [rW,h5,g0,h7,h8,h9,gX,h10,h11,h12,gY,h13,hwt]
                | var z=>
                  rw[zbj]at hv;subst hv;have hz:z≠[]:=hTok;cases b with
                  | true=>
                    simp -implicitDefEqProofs [rW,h5,g0,h7,h8,h9,gX,h10,h11,h12,gY,h13,h14,zcG,hxA,hT,tmF,hz,hwt];refine⟨?_,hX1,hY1,by simp -implicitDefEqProofs [rW,];omega⟩;simp -implicitDefEqProofs [rW,h5,g0,h7,h8,h9,gX,h10,h11,h12,gY,h13,hwt]
                  | false=>
                    cases W with
                    | var w=>
                      have hw0:w≠[]:=hWok;simp -implicitDefEqProofs [rW,h5,g0,h7,h8,h9,gX,h10,h11,h12,gY,h13,h14,zcG,hxA,hT,hxU,hW,tmF,hz,hw0,hA1,hU1,hwt];refine⟨?_,hX1,hY1,by simp -implicitDefEqProofs [rW,];omega⟩;simp -implicitDefEqProofs [rW,h5,g0,h7,h8,h9,gX,h10,h11,h12,gY,h13,hwt]
                    | cst w=>
                      have hexc:exc CI z w=true:=hno CI hci z hz hb A hAm t hxA CJ hcj U hUm er.symm w hxU;have q22:=fun f=>zaC (k:=f) (ans22 CI z w hGi hz)
                      rw[hexc]at q22;simp only[cqE,vF]at q22;simp -implicitDefEqProofs [rW,h5,g0,h7,h8,h9,gX,h10,h11,h12,gY,h13,h14,zcG,hxA,hT,hxU,hW,tmF,hz,hA1,hU1,zgV,hi,hxi,hI,cqE,za4,za2,q22,hwt];refine⟨?_,hX1,hY1,by simp -implicitDefEqProofs [rW,];omega⟩;simp -implicitDefEqProofs [rW,h5,g0,h7,h8,h9,gX,h10,h11,h12,gY,h13,hwt]
            · rintro s3 ⟨⟨h5,g0,h7,h8,h9,gX,h10,h11,h12,gY,h13⟩,hX1,hY1,hY2⟩
              by_cases er:A.r=U.r
              · rw[if_pos er]at h13
                by_cases hlt:A.ts.length≤U.ts.length
                · rw[Nat.min_eq_left hlt]at h13;simp -implicitDefEqProofs [rW,h5,g0,h7,h8,h9,gX,h10,h11,h12,gY,h13,zcw];refine⟨?_,hX1,by simp -implicitDefEqProofs [rW,];omega⟩;simp -implicitDefEqProofs [rW,h5,g0,h7,h8,h9,gX,h10,h11]
                · rw[Nat.min_eq_right (by omega)]at h13;have hlt2:U.ts.length<A.ts.length:=by omega
                  simp -implicitDefEqProofs [rW,h5,g0,h7,h8,h9,gX,h10,h11,h12,gY,h13,zcw,hlt2];refine⟨?_,hX1,by simp -implicitDefEqProofs [rW,];omega⟩;simp -implicitDefEqProofs [rW,h5,g0,h7,h8,h9,gX,h10,h11]
              · rw[if_neg er]at h13;have l1:0<A.ts.length:=List.length_pos_iff.2 (hGi.tn _ hAm);have l2:0<U.ts.length:=List.length_pos_iff.2 (hGj.tn _ hUm);simp -implicitDefEqProofs [rW,h5,g0,h7,h8,h9,gX,h10,h11,h12,gY,h13,zcw,er,l1,l2];refine⟨?_,hX1,by simp -implicitDefEqProofs [rW,];omega⟩;simp -implicitDefEqProofs [rW,h5,g0,h7,h8,h9,gX,h10,h11]
            · refine⟨?_,hX1,hX2,?_⟩
              · have n0:¬(0=s2.c):=by omega
                simp -implicitDefEqProofs [rW,h5,g0,h7,h8,h9,gX,h10,h11,nX,n0]
              · simp -implicitDefEqProofs [rW,]
            · rintro e s3 ⟨rfl,⟨h5,g0,h7,h8,h9,gX,h10,h11⟩,hX1,hX2⟩;simp -implicitDefEqProofs [rW,h5,g0,h7,h8,h9,gX,h10,h11,hwm];refine⟨?_,hX1,by simp -implicitDefEqProofs [rW,];exact hX2⟩;simp -implicitDefEqProofs [rW,h5,g0,h7,h8,h9,gX,h10,h11,hwm]
          · rintro s2 ⟨⟨h5,g0,h7,h8,h9,gX,h10,h11⟩,hX1,hX2⟩;simp -implicitDefEqProofs [rW,h5,g0,h7,h8,h9,gX,h10,h11,hj,zfa,zgV,hxj,hJ,cqE,zdr];refine⟨?_,hX1,by simp -implicitDefEqProofs [rW,];exact hX2⟩;simp -implicitDefEqProofs [rW,h5,g0,h7,h8,h9,gX,h10]
          · refine⟨?_,hX1,by simp -implicitDefEqProofs [rW,];exact hX2⟩;simp -implicitDefEqProofs [rW,h5,g0,h7,h8,h9,gX,h10]
          · rintro e s2 ⟨rfl,⟨h5,g0,h7,h8,h9,gX,h10⟩,hX1,hX2⟩;simp -implicitDefEqProofs [rW,h5,g0,h7,h8,h9,gX,h10,hwj];refine⟨?_,hX1,by simp -implicitDefEqProofs [rW,];exact hX2⟩;simp -implicitDefEqProofs [rW,h5,g0,h7,h8,h9,gX,h10,hwj]
        · rintro s' ⟨⟨h5,g0,h7,h8,h9,gX,h10⟩,hX1,hX2⟩;simp -implicitDefEqProofs [rW,h5,g0,h7,h8,h9,gX,h10,zfa];refine⟨?_,by simp -implicitDefEqProofs [rW,];omega⟩;simp -implicitDefEqProofs [rW,h5,g0,h7,h8]
        · refine⟨?_,hlo,?_⟩
          · have n0:¬(0=s.c):=by omega
            simp -implicitDefEqProofs [rW,h5,g0,h7,h8,n0]
          · simp -implicitDefEqProofs [rW,]
        · rintro e s' ⟨rfl,⟨h5,g0,h7,h8⟩,hlo⟩;simp -implicitDefEqProofs [rW,h5,g0,h7,h8,hwk];refine⟨?_,by simp -implicitDefEqProofs [rW,];exact hlo⟩;simp -implicitDefEqProofs [rW,h5,g0,h7,h8,hwk]
      · rintro s ⟨⟨h5,g0,h7,h8⟩,hlo⟩;simp -implicitDefEqProofs [rW,h5,g0,h7,h8,hi,zfa,zgV,hxi,hI,cqE,zdr];refine⟨?_,by simp -implicitDefEqProofs [rW,];exact hlo⟩;simp -implicitDefEqProofs [rW,h5,g0,h7]
      · refine⟨?_,by simp -implicitDefEqProofs [rW,];exact hlo⟩;simp -implicitDefEqProofs [rW,h5,g0,h7]
      · rintro e s ⟨rfl,⟨h5,g0,h7⟩,hlo⟩;simp -implicitDefEqProofs [rW,h5,g0,h7,hwi];refine⟨?_,by simp -implicitDefEqProofs [rW,];exact hlo⟩;simp -implicitDefEqProofs [rW,h5,g0,h7,hwi]
    · rintro s ⟨⟨h5,g0,h7⟩,hlo⟩;simp -implicitDefEqProofs [rW,h5,g0,h7,zfa]
    · refine⟨?_,?_⟩
      · simp -implicitDefEqProofs [rW,]
      · simp -implicitDefEqProofs [rW,]
    · rintro e s rfl;simp -implicitDefEqProofs [rW,q21]
theorem fn145:pr.fn 145=some zva:=by kernel_rfl
theorem fn157:pr.fn 157=some zvb:=by kernel_rfl
theorem fn144:pr.fn 144=some zu9:=by kernel_rfl
theorem fn116:pr.fn 116=some zu3:=by kernel_rfl
theorem fn75:pr.fn 75=some g75:=by kernel_rfl
def zlA(r:Str)(i:Nat)(u:Str)(j:Nat)(v:Str)(a:Atm):Bool:=decide (a.r=r)&&decide (i<a.ts.length/\j<a.ts.length)&&decide (a.ts[i]? =some (.var u))&&decide (a.ts[j]? =some (.var v))
theorem zpC{t:Trm}{u:Str}(hu:u≠[]):tv t=u↔t= .var u:=by
 cases t with
 |var s=>simp[tv]
 |cst n=>simp[tv];exact fun h=>hu h
theorem ro145(a:Atm)(ha:zbB a)(r:Str)(i:Nat)(u:Str)(j:Nat)(v:Str)(hu:u≠[])(hv:v≠[]){h:T Ob}{c A B C D' E:Nat}(gA:h.get A=some (.arr 1 0 [[.f (.s r)]]))(gB:h.get B=some (.arr 1 0 [[.f (.i .i64 i)]]))(gC:h.get C=some (.arr 1 0 [[.f (.i .i64 j)]]))(gD:h.get D'=some (.arr 1 0 [[.f (.s u)]]))(gE:h.get E=some (.arr 1 0 [[.f (.s v)]]))(hA:A<c)(hB:B<c)(hC:C<c)(hD:D'<c)(hE:E<c):
  RO pr 145 [.ag [.f (.s a.r),.f (.b a.neg),.f (zbO a.ts)],.ptr A 1 0 0,.ptr B 1 0 0,.ptr C 1 0 0,.ptr D' 1 0 0,.ptr E 1 0 0] h c (.f (.b (zlA r i u j v a))):=by
 refine zd0 za5 fn145 rfl ?_;simp only[zva,rU];have nA:¬A=c:=by omega
 have nB:¬B=c:=by omega
 have nC:¬C=c:=by omega
 have nD:¬D'=c:=by omega
 have nE:¬E=c:=by omega
 unfold zlA
 by_cases e1:a.r=r
 ·subst e1
  by_cases hi:i<a.ts.length
  ·by_cases hj:j<a.ts.length
   ·have x1:a.ts[i]? =some a.ts[i]:=List.getElem?_eq_getElem hi;have x2:a.ts[j]? =some a.ts[j]:=List.getElem?_eq_getElem hj;have y1:=zpC (t:=a.ts[i]) hu;have y2:=zpC (t:=a.ts[j]) hv;generalize hT1:a.ts[i]=t1 at x1 y1;generalize hT2:a.ts[j]=t2 at x2 y2;rw[x1,x2];have w1:decide (some t1=some (Trm.var u))=decide (tv t1=u):=decide_eq_decide.2 (by rw[y1];simp);have w2:decide (some t2=some (Trm.var v))=decide (tv t2=v):=decide_eq_decide.2 (by rw[y2];simp);rw[w1,w2]
    by_cases hij:i<j<;>by_cases z1:tv t1=u<;>by_cases z2:tv t2=v<;>(simp -implicitDefEqProofs [rW,st0,zal];refine zcI ?_;simp -implicitDefEqProofs [rW,gA,gB,gC,gD,gE,nA,nB,nC,nD,nE,zc0,zcw,zcG,x1,x2,hT1,hT2,tmE,hi,hj,hij,z1,z2,zaS])
    all_goals simp (disch:=omega) only[zbz,zb8]
   ·have hij:i<j:=by omega
    simp -implicitDefEqProofs [rW,st0,zal];refine zcI ?_;simp -implicitDefEqProofs [rW,gA,gB,gC,gD,gE,nA,nB,nC,nD,nE,zc0,zcw,hj,hij,zaS];simp (disch:=omega) only[zbz,zb8]
  ·by_cases hij:i<j
   ·have hj:¬j<a.ts.length:=by omega
    simp -implicitDefEqProofs [rW,st0,zal];refine zcI ?_;simp -implicitDefEqProofs [rW,gA,gB,gC,gD,gE,nA,nB,nC,nD,nE,zc0,zcw,hi,hj,hij,zaS];simp (disch:=omega) only[zbz,zb8]
   ·simp -implicitDefEqProofs [rW,st0,zal];refine zcI ?_;simp -implicitDefEqProofs [rW,gA,gB,gC,gD,gE,nA,nB,nC,nD,nE,zc0,zcw,hi,hij,zaS];simp (disch:=omega) only[zbz,zb8]
 ·simp -implicitDefEqProofs [rW,st0,zal];refine zcI ?_;simp -implicitDefEqProofs [rW,gA,gB,gC,gD,gE,nA,nB,nC,nD,nE,e1,zc0,zaS];simp (disch:=omega) only[zbz,zb8]
theorem zJ1(q:CQ)(p:Atm->Bool)(hl:q.as.length<100000){h:T Ob}{c g:Nat}{fv:D}{cap:List D}(hfv:zda fv=some (g,[],cap))(hcl:∀n (hn:n<q.as.length),RO pr g (.ag [.f (.s q.as[n].r),.f (.b q.as[n].neg),.f (zbO q.as[n].ts)]::cap) h c (.f (.b (p q.as[n])))):
  RO pr 157 [.f (zaO q),fv] h c (.f (.i .i64 (ixP q.as p))):=by
 refine zd0 za5 fn157 rfl ?_;simp only[zvb,rU];simp -implicitDefEqProofs [rW,st0,zal,zdr];refine zeS q.as p (fun n s=>(s.tm.get 0=some (.f (zaO q))/\s.tm.get 1=some (fv)/\s.tm.get 7=some (.f (.i .i64 q.as.length))/\s.tm.get 8=some (.f (.i .i64 n)))/\s.h=h/\s.c=c/\s.lw=c) (fun x s=>x= .exit 0/\s.lw=c) (fun n y s=>y= .ret/\s.tm.get 4=some (.f (.i .i64 n))/\s.lw=c) ?_ ?_ _ ?_ ?_ ?_
 ·rintro n s hn ⟨⟨h0,h1,h7,h8⟩,eh,ec,el⟩;have hw:=zaB n (by omega);have hp:=hcl n hn;have hx:q.as[n]? =some q.as[n]:=List.getElem?_eq_getElem hn;generalize hA:q.as[n]=A at hp hx⊢;simp -implicitDefEqProofs [rW,h0,h1,h7,h8,hn,zeu,hx,hA,atE,zc0,hfv];refine zdn (d:= .f (.b (p A))) ?_ ?_ ?_
  ·simp only[rG];rw[eh,ec];exact hp
  ·simp only[rG];omega
  ·intro mx;cases hb:p A with
   |true=>simp -implicitDefEqProofs [rW,h0,h1,h7,h8,el]
   |false=>simp -implicitDefEqProofs [rW,h0,h1,h7,h8,hw,eh,ec,el]
 ·rintro s ⟨⟨h0,h1,h7,h8⟩,eh,ec,el⟩;simp -implicitDefEqProofs [rW,h0,h1,h7,h8,el]
 ·simp -implicitDefEqProofs [rW,st0,zal]
 ·rintro h z s ⟨rfl,el⟩;rw[zkW h];simp -implicitDefEqProofs [rW,zaS,el]
 ·rintro n hn hp hm z s ⟨rfl,h4,el⟩;rw[zj8 hn hp hm];simp -implicitDefEqProofs [rW,h4,zaS,el]
theorem zJ0(q:CQ)(p:Atm->Bool)(hl:q.as.length<100000){h:T Ob}{c g:Nat}{fv:D}{cap:List D}(hfv:zda fv=some (g,[],cap))(hcl:∀n (hn:n<q.as.length),RO pr g (.ag [.f (.s q.as[n].r),.f (.b q.as[n].neg),.f (zbO q.as[n].ts)]::cap) h c (.f (.b (p q.as[n])))):
  RO pr 144 [.f (zaO q),fv] h c (.f (.b (q.as.any p))):=by
 refine zd0 za5 fn144 rfl ?_;simp only[zu9,rU];rw[<-zmD q.as p];simp -implicitDefEqProofs [rW,st0,zal];refine zdn (d:= .f (.i .i64 (ixP q.as p))) ?_ ?_ ?_
 ·simp only[rG];exact zJ1 q p hl hfv hcl
 ·simp only[rG];omega
 ·intro mx;simp -implicitDefEqProofs [rW,zaS]
theorem zIE(q:CQ)(r:Str)(i:Nat)(u:Str)(j:Nat)(v:Str)(hq:CqG q)(hu:u≠[])(hv:v≠[]):Ans pr 116 [.ag (cqF q),.s r,.i .i64 i,.s u,.i .i64 j,.s v] (.b (q.as.any (zlA r i u j v))):=by
 refine zcQ fn116 ?_;simp only[zu3,rU];simp -implicitDefEqProofs [rW,st0,zal,cqE,za4,za2];refine zdn (d:= .f (.b (q.as.any (zlA r i u j v)))) ?_ ?_ ?_
 ·simp only[rG];refine zJ0 q _ (by have:=hq.sa;omega) rfl fun n hn=> ?_
  refine ro145 _ (hq.toCqSm.toCqOk.as _ (List.getElem_mem hn)) r i u j v hu hv ?_ ?_ ?_ ?_ ?_ ?_ ?_ ?_ ?_ ?_
  all_goals first|(simp[Vse.T.zad];done)|omega
 ·simp only[rG]
  repeat refine Nat.le_trans (zbD _ _).1 ?_
  omega
 ·intro mx;simp -implicitDefEqProofs [rW,]
def exJ(c:CQ)(x y:Str)(a:Atm)(i j:Nat):Bool:=decide (a.ts[i]? =some (.var x))&&decide (a.ts[j]? =some (.var y))&&c.as.any (zlA a.r i y j x)
def exI(c:CQ)(x y:Str)(a:Atm)(i:Nat):Bool:=(List.range a.ts.length).any (exJ c x y a i)
def exA(c:CQ)(x y:Str)(a:Atm):Bool:=(List.range a.ts.length).any (exI c x y a)
def zlq(c:CQ)(x y:Str):Bool:=c.as.any (exA c x y)
end Go.Proofs.YtmnkdfjljkhneaaGreat
end
