/- wide: the query of the laws. -/
import Derived.Test.YtmnkdfjljkhneaaGreatPi
import Derived.KernelRfl
import Derived.IntWalk
import Derived.Test.YtmnkdfjljkhneaaGreatPf
import Derived.Test.YtmnkdfjljkhneaaGreatPg
import Derived.Test.YtmnkdfjljkhneaaGreatPh
set_option linter.all false
section
namespace Go.Proofs.YtmnkdfjljkhneaaGreat
open Go Go.Vse Go.Vse.Sm
set_option maxRecDepth 100000
set_option maxHeartbeats 1000000
set_option linter.all false
theorem ztt{f:D->Option (F×List Nat)}:∀{rows:List (List D)} {xs:List (List F)},rows.length=xs.length->(∀i (h1:i<rows.length) (h2:i<xs.length),∃rd,zaQ f rows[i]=some (xs[i],rd))->∃rd,zaH f rows=some (xs,rd)
 |[],[],_,_=>⟨[],rfl⟩
 |[],_::_,h,_=>by simp at h
 |_::_,[],h,_=>by simp at h
 |r::rows,x::xs,h,hA=>by
  obtain⟨rd1,h1⟩ :=hA 0 (by simp) (by simp);obtain⟨rd2,h2⟩ :=ztt (rows:=rows) (xs:=xs) (by simpa using h) fun i a b=>hA (i+1) (by simpa using a) (by simpa using b)
  refine⟨rd1++rd2,?_⟩;rw[zvG];simp only[List.getElem_cons_zero]at h1;rw[h1,zaT,h2,zaT]
theorem zAa{h:T Ob}{N B c lim:Nat}{l:List CQ}{ex:Bool}(H:WR h N B c lim l)(hl:l≠[])(k:Nat):∃rd,frz h.get (k+3) (.sl N 0 l.length 2 lim ex)=some (qsF l,rd):=by
 obtain⟨rows,h1,h2,h3,h4,h5,h6⟩ :=H;have hlen:(rows.take l.length).length=(l.map cqF).length:=by simp;omega
 obtain⟨rd,hz⟩ :=ztt (f:=frz h.get (k+2)) hlen fun i a b=>by
  have hi:i<l.length:=by simpa using b
  obtain⟨dC,e1,e2⟩ :=h6 i hi;have e3:(rows.take l.length)[i]=[.f (zaK l[i]),dC]:=by
   rw[List.getElem_take];exact (List.getElem?_eq_some_iff.1 e1).2
  rw[e3,List.getElem_map];have fc:∃rd,frz h.get (k+2) dC=some (zaN l[i],rd):=by
   rcases e2 with rfl|⟨Y,ro,rfl,gY,hYne,-,-⟩
   ·exact⟨[],rfl⟩
   ·have e:=zgW h.get k (l[i].cs.map cmF);have e2:((l[i].cs.map cmD).drop 0).take l[i].cs.length=(l[i].cs.map cmF).map fun a=>a.map D.f:=by
     rw[List.drop_zero,List.take_of_length_le (by simp),List.map_map];exact List.map_congr_left fun k _=>(zkY k).symm
    refine⟨[Y],?_⟩;rw[zdf,gY,zaT,zcH,if_pos ⟨rfl,by simp⟩,e2,e,zaT,zcz (by simpa using hYne)];unfold zaN csF;rw[if_neg (fun h=>hYne h.2)]
  obtain⟨rd,hf⟩ :=fc;refine⟨rd,?_⟩;rw[zvE,zvE,zAX,hf];show om (some (zaK l[i],[])) _=_;simp[zaT,cqE]
 refine⟨N::rd,?_⟩;rw[zdf,h1,zaT,zcH,if_pos ⟨rfl,by omega⟩,List.drop_zero,hz,zaT,zcz (by simpa using hl)];rfl
theorem zHq{h:T Ob}{lo c:Nat}{d:D}{l:List Str}(H:Own h lo c d (zav l)):zcn d=some l.length:=by
 obtain⟨h1,-,-,h4⟩ :=H;rcases h1 with rfl|⟨a,b,e,f,g,x,rfl⟩
 ·exact zbX l
 ·obtain⟨rd,hz⟩ :=h4 h (fun _ _=>rfl) 0;rw[zdf]at hz;cases ho:h.get a with
  |none=>rw[ho]at hz;cases hz
  |some ob=>
   rw[ho,zaT]at hz;cases ob with
   |map _=>cases hz
   |arr es ro els=>
    rw[zcH]at hz;split at hz
    ·rename_i hc;cases hm:zaH (frz h.get 1) ((els.drop b).take e)with
     |none=>rw[hm]at hz;cases hz
     |some p=>
      obtain⟨xs,rd2⟩ :=p;rw[hm,zaT]at hz;have hl:=(zhW hm).1;cases l with
      |nil=>simp[zav,slc]at hz
      |cons y l=>
       rw[<-zrZ (by simp)]at hz;simp only[Option.some.injEq,Prod.mk.injEq,F.sl.injEq]at hz;have:xs.length=(y::l).length:=by rw[hz.1.2];simp
       rw[zq0,<-this,hl];simp;omega
    ·cases hz
set_option maxHeartbeats 4000000 in
theorem ans6{x:F}(hx:zgd x)(n:Int):∃hd l,hd.length<10/\l≠[]/\l.length≤4/\(∀c∈l,CqW 4 c)/\Ans pr 6 [x,.i .i64 n] (.ag [zav hd,qsF l]):=by
 obtain⟨hd,l,hh,hQN,he⟩ :=eff23 hx (hp0:=(T.e:T Ob).set 0 (.arr 2 0 [[.f .nils,.f .nils]]));obtain⟨c,hcL,hc⟩ :=ans24 n;have hcN:=(zC9 c hcL).w;obtain⟨hl1,hl2,hl3⟩ :=hQN;have hxc:(D.f x).cells=some [.f x]:=by rcases hx with rfl|⟨zs,rfl⟩ <;>rfl
 suffices hS:∃y,(∃l':List CQ,l'≠[]/\l'.length≤4/\(∀c∈l',CqW 4 c)/\y= .ag [zav hd,qsF l'])/\Ans pr 6 [x,.i .i64 n] y by
  obtain⟨y,⟨l',h1,h2,h3,rfl⟩,h4⟩ :=hS;exact⟨hd,l',hh,h1,h2,h3,h4⟩
 refine ansE fn6 ?_;simp only[g6,rU];simp -implicitDefEqProofs [rW,st0,zaj,zk5 hx,hxc];refine zcS rfl rfl he ?_;rintro d H c1 lw1 mx1 ⟨e0,dh,dl,rfl,hO,hg,hz,hdis⟩ hcc;simp only[rG]at hcc;simp[Vse.T.zad]at e0;have q1:=fun k=>zay (k:=k) hc
 simp only[cqE]at q1;have n0:¬(0=c1):=by omega
 simp -implicitDefEqProofs [rW,hO.2.1,zbi hg,n0,e0];refine zbY ?_;have hup:∀z,z<c1->((H.set c1 (.arr 2 0 [[.f .nils,.f .nils]])).set c1 (.arr 2 0 [[dh,dl]])).get z=H.get z:=fun z hz=>by
  have y:¬(z=c1):=by omega
  simp[Vse.T.zad,y]
 simp -implicitDefEqProofs [rW,hO.2.1,zbi hg,n0,e0,q1,za7,za4];generalize hHs:((H.set c1 (.arr 2 0 [[.f .nils,.f .nils]])).set c1 (.arr 2 0 [[dh,dl]]):T Ob)=Hs at hup⊢;refine zn0 (lo:=1) (c:=c1+1+1+1+1+1+1) (zbf hg (by omega) fun z h1 h2=>hup z h2) ?_ (by omega) (by rw[zhu];simp;omega) (by omega) ?_
 ·intro i es ro els h1 h2;have:=zcI hg h1;rw[hup i (by omega)]at h2;exact hz i es ro els h1 h2
 intro r hr1 hr2 hr3 hr4 hr5 hr6;have hsn:zeW l++[[D.f (zaK c),D.f (zaN c)]]=zeW (l++[c]):=(zoU l c).symm;rw[hsn]at hr2;have hdo:∀z,c1≤z->dl.oid≠some z:=fun z hz e=>by have:=zcI hg e;omega
 have f1:=hr4 c1 (by omega) (hdo c1 (Nat.le_refl _));have f0:=hr4 0 (by omega) (fun e=>by have:=zcI hg e;omega);rw[hup 0 (by omega),e0]at f0;rw[<-hHs,Vse.T.zad,if_pos rfl]at f1;rw[hHs]at f1;rcases hr2 with⟨-,e⟩ |⟨N,ro,hrd,-,gN,-,hN1,hN2⟩
 ·simp[zeW]at e
 have hro:ro=0:=hr6 N 2 ro _ (by rw[hrd];rfl) gN;subst hro;have hNx:N=c1+1+1+1+1+1+1\/dl.oid=some N:=hr5 N (by rw[hrd];rfl);have hNc:N≠c1:=fun e=>hNx.elim (fun h=>by omega) (fun h=>hdo c1 (Nat.le_refl _) (by rw[<-e];exact h))
 have hNd:dh.oid≠some N:=fun e=>hNx.elim (fun h=>by have:=hO.2.2.1 N e;omega) (fun h=>hdis N e h)
 have hlen:=zHq hO;rw[hrd,zhu];refine⟨hr1,?_⟩;generalize hHt:(wrT Hs r.wr:T Ob)=Ht at*;obtain⟨z0,hz0⟩ :∃z0:Int,zbh .shr (.i .i64 n) (.i .u64 6)=some (.i .i64 z0):=⟨_,rfl⟩
 obtain⟨k0,hr3',hr0'⟩ :=zeE z0 3 (by omega);have hr0:zbh .and (.i .i64 z0) (.i .i64 3)=some (.i .i64 k0):=hr0';have hall:∀y∈l++[c],CqW 1 y:=fun y hy=>by
  rcases List.mem_append.1 hy with h|h
  ·exact (hl3 y h).w
  ·rw[List.mem_singleton.1 h];exact hcN
 have hwl:IntKind.i64.wrap (l.length:Int)=l.length:=wrap_i64 _ (by omega) (by omega);have hNc2:¬(c1=N):=fun e=>hNc e.symm
 by_cases h2:hd.length=2
 ·have h2':(hd.length:Int)=2:=by omega
  simp -implicitDefEqProofs [rW,f1,f0,hlen,h2',hO.2.1,hwl,zhZ,zfW,gN,hNc,hNc2,n0];refine⟨by omega,by omega,lp6 (P:=c1) (N:=N) (B:=r.c) (lim:=l.length+1) (ex:=false) (dh:=dh) (hd:=hd) (n:=n) (l0:=l) hz0 hr3' hr0 hl1 (by omega) ?_ ⟨⟨?_,?_,?_,?_,?_,?_⟩,?_,by omega,by omega,fun e=>hNc e.symm,by omega,hNd,⟨zeW (l++[c]),?_,by rw[zhu];simp,by simp,fun y hy=> ?_,hN2,fun i hi=>⟨_,?_,.inl rfl⟩⟩,Nat.le_refl _,?_⟩ fun s' l' i a1 a2 a3=> ?_⟩
  ·intro y hy;exact hall y (List.mem_append_left _ hy)
  ·simp -implicitDefEqProofs [rW,]
  ·simp -implicitDefEqProofs [rW,]
  ·simp -implicitDefEqProofs [rW,]
  ·simp -implicitDefEqProofs [rW,]
  ·simp -implicitDefEqProofs [rW,f0,n0,hHs,hHt]
  ·simp -implicitDefEqProofs [rW,]
  ·refine (hO.up (fun y hy=> ?_) (Nat.le_refl _) (Nat.le_refl _):Own _ 1 c1 dh (zav hd));have h3:=hO.2.2.1 y hy;have y1:¬(y=c1):=by omega
   have h4:=hr4 y (by omega) (hdis y hy);rw[hup y (by omega)]at h4;simp -implicitDefEqProofs [rW,y1,h4,hHs,hHt]
  ·simp -implicitDefEqProofs [rW,hNc,gN,hHs,hHt]
  ·obtain⟨z,-,rfl⟩ :=List.mem_map.1 hy;rfl
  ·have hi1:i< (l++[c]).length:=by simp;omega
   rw[show(zeW (l++[c]))[i]? =some [.f (zaK (l++[c])[i]),.f (zaN (l++[c])[i])] by simp only[zeW,List.getElem?_map,List.getElem?_eq_getElem hi1];rfl];rw[List.getElem_append_left hi]
  ·simp -implicitDefEqProofs [rW,];omega
  ·have hlen':l'.length≤4:=by rw[a1];omega
   have hne':l'≠[]:=fun e=>by rw[e]at a1;simp at a1;exact hl1 (List.length_eq_zero_iff.1 a1.symm)
   obtain⟨⟨y1,y4,y5,y6,z0',zP'⟩,bO,bP1,bPB,bPN,bN0,bON,bW,-,bB⟩ :=a3;have bW2:WR (s'.h.set 0 (.arr 2 0 [[dh,.sl N 0 l'.length 2 (l.length+1) false]])) N r.c s'.c (l.length+1) l':=by
    obtain⟨rows,w1,w2,w3,w4,w5,w6'⟩ :=bW;refine⟨rows,by rw[Vse.T.zad,if_neg (by omega)];exact w1,w2,w3,w4,w5,fun i hi=> ?_⟩;obtain⟨d,w7,w8⟩ :=w6' i hi;exact⟨d,w7,w8.up (Nat.le_refl _) fun z h1 _=>by rw[Vse.T.zad,if_neg (by omega)]⟩
   obtain⟨rd1,fz1⟩ :=zAa (ex:=false) bW2 hne' 8;obtain⟨rd2,fz2⟩ :=bO.2.2.2 (s'.h.set 0 (.arr 2 0 [[dh,.sl N 0 l'.length 2 (l.length+1) false]])) (fun z hz=>by have:=bO.2.2.1 z hz;rw[Vse.T.zad,if_neg (by omega)]) 9;simp -implicitDefEqProofs [rW,y4,y5,z0',zP',bO.2.1,fz1,fz2];exact⟨by omega,l',hne',hlen',a2,rfl⟩
 ·have h2':¬(hd.length:Int)=2:=by omega
  simp -implicitDefEqProofs [rW,f1,f0,hlen,h2',hO.2.1,n0];refine⟨by omega,lp6 (P:=c1) (N:=N) (B:=r.c) (lim:=l.length+1) (ex:=false) (dh:=dh) (hd:=hd) (n:=n) (l0:=(l++[c])) hz0 hr3' hr0 (by simp) (by simp;omega) ?_ ⟨⟨?_,?_,?_,?_,?_,?_⟩,?_,by omega,by omega,fun e=>hNc e.symm,by omega,hNd,⟨zeW (l++[c]),?_,by rw[zhu];simp,by simp,fun y hy=> ?_,hN2,fun i hi=>⟨_,?_,.inl rfl⟩⟩,Nat.le_refl _,?_⟩ fun s' l' i a1 a2 a3=> ?_⟩
  ·intro y hy;exact hall y hy
  ·simp -implicitDefEqProofs [rW,]
  ·simp -implicitDefEqProofs [rW,]
  ·simp -implicitDefEqProofs [rW,]
  ·simp -implicitDefEqProofs [rW,]
  ·simp -implicitDefEqProofs [rW,f0,n0,hHs,hHt]
  ·simp -implicitDefEqProofs [rW,List.length_append]
  ·refine (hO.up (fun y hy=> ?_) (Nat.le_refl _) (Nat.le_refl _):Own _ 1 c1 dh (zav hd));have h3:=hO.2.2.1 y hy;have y1:¬(y=c1):=by omega
   have h4:=hr4 y (by omega) (hdis y hy);rw[hup y (by omega)]at h4;simp -implicitDefEqProofs [rW,y1,h4,hHs,hHt]
  ·simp -implicitDefEqProofs [rW,hNc,gN,hHs,hHt]
  ·obtain⟨z,-,rfl⟩ :=List.mem_map.1 hy;rfl
  ·have hi1:=hi;rw[show(zeW (l++[c]))[i]? =some [.f (zaK (l++[c])[i]),.f (zaN (l++[c])[i])] by simp only[zeW,List.getElem?_map,List.getElem?_eq_getElem hi1];rfl]
   skip
  ·simp -implicitDefEqProofs [rW,];omega
  ·have hlen':l'.length≤4:=by rw[a1];simp;omega
   have hne':l'≠[]:=fun e=>by rw[e]at a1;simp at a1
   obtain⟨⟨y1,y4,y5,y6,z0',zP'⟩,bO,bP1,bPB,bPN,bN0,bON,bW,-,bB⟩ :=a3;have bW2:WR (s'.h.set 0 (.arr 2 0 [[dh,.sl N 0 l'.length 2 (l.length+1) false]])) N r.c s'.c (l.length+1) l':=by
    obtain⟨rows,w1,w2,w3,w4,w5,w6'⟩ :=bW;refine⟨rows,by rw[Vse.T.zad,if_neg (by omega)];exact w1,w2,w3,w4,w5,fun i hi=> ?_⟩;obtain⟨d,w7,w8⟩ :=w6' i hi;exact⟨d,w7,w8.up (Nat.le_refl _) fun z h1 _=>by rw[Vse.T.zad,if_neg (by omega)]⟩
   obtain⟨rd1,fz1⟩ :=zAa (ex:=false) bW2 hne' 8;obtain⟨rd2,fz2⟩ :=bO.2.2.2 (s'.h.set 0 (.arr 2 0 [[dh,.sl N 0 l'.length 2 (l.length+1) false]])) (fun z hz=>by have:=bO.2.2.1 z hz;rw[Vse.T.zad,if_neg (by omega)]) 9;simp -implicitDefEqProofs [rW,y4,y5,z0',zP',bO.2.1,fz1,fz2];exact⟨by omega,l',hne',hlen',a2,rfl⟩
theorem zGl{l:List CQ}{r:Str}{p:Nat}{v:Int}:v∈cAt l r p↔∃c∈l,∃a∈c.as,a.r=r/\a.ts[p]? =some (.cst v):=by
 unfold cAt;simp only[List.mem_flatMap];refine exists_congr fun c=>and_congr_right fun _=>exists_congr fun a=>and_congr_right fun _=> ?_
 unfold cA1;split
 ·rename_i h;simp only[h,true_and];split
  ·rename_i n hn;rw[hn];constructor
   ·intro h;rw[List.mem_singleton.1 h]
   ·intro h;cases h;simp
  ·rename_i hn;constructor
   ·intro h;simp at h
   ·intro h;exact absurd h (hn v)
 ·rename_i h;simp[h]
theorem zLI(q:CQ)(s:Str)(o:Option Int)(w:Int):(stS q s o w=some w/\exc q s w=false)\/(stS q s o w=o/\(o=none->exc q s w=true)):=by
 unfold stS;cases o with
 |none=>cases h:exc q s w<;>simp
 |some b=>by_cases hb:w<b<;>cases h:exc q s w<;>simp[hb]
theorem zrT{q:CQ}{s:Str}{v:Int}:∀{vs:List Int} {o:Option Int},smV q s o vs=some v->o=some v\/(v∈vs/\exc q s v=false)
 |[],o,h=> .inl h
 |w::vs,o,h=>by
  have h':smV q s (stS q s o w) vs=some v:=h;rcases zrT h' with h1|⟨h1,h2⟩
  ·rcases zLI q s o w with⟨e,h3⟩ |⟨e,-⟩
   ·rw[e]at h1;cases h1;exact .inr ⟨by simp,h3⟩
   ·rw[e]at h1;exact .inl h1
  ·exact .inr ⟨by simp[h1],h2⟩
theorem zlZ{l:List CQ}{q:CQ}{s:Str}{a:Atm}{v:Int}{o:Option Int}:∀{n:Nat},smT l q s a o n=some v->o=some v\/∃i,i<n/\a.ts[i]? =some (.var s)/\v∈cAt l a.r i/\exc q s v=false
 |0,h=> .inl h
 |n+1,h=>by
  rw[zrS]at h;split at h
  ·rename_i hv;rcases zrT h with h1|⟨h1,h2⟩
   ·rcases zlZ h1 with h1|⟨i,hi,h1⟩
    ·exact .inl h1
    ·exact .inr ⟨i,by omega,h1⟩
   ·exact .inr ⟨n,by omega,hv,h1,h2⟩
  ·rcases zlZ h with h1|⟨i,hi,h1⟩
   ·exact .inl h1
   ·exact .inr ⟨i,by omega,h1⟩
theorem zpu{l:List CQ}{q:CQ}{s:Str}{v:Int}:∀{as':List Atm} {o:Option Int},as'.foldl (fun o a=>smT l q s a o a.ts.length) o=some v->o=some v\/∃a∈as',∃i:Nat,a.ts[i]? =some (.var s)/\v∈cAt l a.r i/\exc q s v=false
 |[],o,h=> .inl h
 |a::as',o,h=>by
  rcases zpu (as':=as') h with h1|⟨b,hb,i,h1⟩
  ·rcases zlZ h1 with h1|⟨i,-,h1⟩
   ·exact .inl h1
   ·exact .inr ⟨a,by simp,i,h1⟩
  ·exact .inr ⟨b,by simp[hb],i,h1⟩
theorem zuC{c:CQ}{k:Cm}{t:Trm}:t∈tsC (wth c k)↔t∈tsC c\/t=k.l\/t=k.r:=by
 rw[zdp,zdp];constructor
 ·rintro (h|⟨j,hj,ht⟩)
  ·exact .inl (.inl h)
  ·rcases List.mem_append.1 hj with hj|hj
   ·exact .inl (.inr ⟨j,hj,ht⟩)
   ·rw[List.mem_singleton.1 hj]at ht;exact .inr ht
 ·rintro ((h|⟨j,hj,ht⟩)|h)
  ·exact .inl h
  ·exact .inr ⟨j,List.mem_append_left _ hj,ht⟩
  ·exact .inr ⟨k,List.mem_append_right _ (by simp),h⟩
theorem zyL{c:CQ}{k:Cm}(h1:lv c k.l=true)(h2:lv c k.r=true){t:Trm}(h:lv (wth c k) t=true):lv c t=true:=by
 cases t with
 |cst=>rfl
 |var s=>
  simp only[lv,decide_eq_true_eq]at h;rcases zuC.1 h with h|h|h
  ·exact zgg h
  ·rw[h];exact h1
  ·rw[h];exact h2
theorem zIB{op:Int}{c:CQ}{k:Cm}(h1:lv c k.l=true)(h2:lv c k.r=true){p:Trm×Trm}(h:unc op (wth c k) p=true):unc op c p=true:=by
 obtain⟨a,b,e⟩ :=zey.1 h;refine zey.2 ⟨zyL h1 h2 a,zyL h1 h2 b,?_⟩;have e':(c.cs++[k]).any (zc7 op p.1 p.2)=false:=e;rw[List.any_append]at e';simp only[Bool.or_eq_false_iff]at e';exact e'.1
theorem znC{op:Int}{c:CQ}{a b:Trm}:unc op (wth c ⟨op,a,b⟩) (a,b)=false:=by
 rw[Bool.eq_false_iff];intro h;obtain⟨-,-,e⟩ :=zey.1 h;have e':(c.cs++[(⟨op,a,b⟩ :Cm)]).any (zc7 op a b)=false:=e;rw[List.any_append]at e';simp[zc7]at e'
theorem zsl{op:Int}{c:CQ}{a b:Trm}:unc op (wth c ⟨op,b,a⟩) (a,b)=false:=by
 rw[Bool.eq_false_iff];intro h;obtain⟨-,-,e⟩ :=zey.1 h;have e':(c.cs++[(⟨op,b,a⟩ :Cm)]).any (zc7 op a b)=false:=e;rw[List.any_append]at e';simp[zc7]at e'
theorem zCk{op:Int}{s:Str}{t:Trm}(ht:t≠ .var s){c:CQ}{p:Trm×Trm}(hp:p.1= .var s\/p.2= .var s):unc op (mpC (sbT s t) c) p=false:=by
 rw[Bool.eq_false_iff];intro h;obtain⟨h1,h2,-⟩ :=zey.1 h;have no:lv (mpC (sbT s t) c) (.var s)=true->False:=by
  intro h;simp only[lv,decide_eq_true_eq]at h;obtain⟨u,hu,e⟩ :=znz.1 h;unfold sbT at e;split at e
  ·exact ht e
  ·rename_i hne;exact hne e
 rcases hp with hp|hp
 ·rw[hp]at h1;exact no h1
 ·rw[hp]at h2;exact no h2
theorem ztC{op:Int}{L:List (Trm×Trm)}{PT:Trm->Prop}{c:CQ}(h:zeS op L PT c){s:Str}{t:Trm}(h1:lv c t=true)(h2:PT t)(h3:zax t)(h4:t≠ .var s){p:Trm×Trm}(hp:p∈L)(h5:unc op c p=true)(h6:p.1= .var s\/p.2= .var s):
  zeS op L PT (mpC (sbT s t) c)/\cnt op L (mpC (sbT s t) c)<cnt op L c:=by
 have hlt:cnt op L (mpC (sbT s t) c)<cnt op L c:=cnt_lt (fun p hp h=>zz0 h1 h) hp h5 (zCk h4 h6);refine⟨⟨zj6 h.g fun u hu=>ziB h3 hu,fun u hu=> ?_,?_⟩,hlt⟩
 ·obtain⟨v,hv,rfl⟩ :=znz.1 hu;unfold sbT;split
  ·exact h2
  ·exact h.t v hv
 ·have:=h.b;have e:(mpC (sbT s t) c).cs.length=c.cs.length:=by simp[mpC]
  omega
theorem zlQ{op:Int}{L:List (Trm×Trm)}{PT:Trm->Prop}{c:CQ}(h:zeS op L PT c){k:Cm}(h1:lv c k.l=true)(h2:lv c k.r=true)(h3:zbn k)(h4:PT k.l)(h5:PT k.r){p:Trm×Trm}(hp:p∈L)(h6:unc op c p=true)(h7:unc op (wth c k) p=false):
  zeS op L PT (wth c k)/\cnt op L (wth c k)<cnt op L c:=by
 have hlt:cnt op L (wth c k)<cnt op L c:=cnt_lt (fun p hp h=>zIB h1 h2 h) hp h6 h7;have hb:=h.b;refine⟨⟨zk1 h.g h3 (by omega),fun u hu=> ?_,?_⟩,hlt⟩
 ·rcases zuC.1 hu with hu|rfl|rfl
  ·exact h.t u hu
  ·exact h4
  ·exact h5
 ·have e:(wth c k).cs.length=c.cs.length+1:=by simp[wth]
  omega
def PTm(V:List Str)(K:List Int):Trm->Prop
 | .var s=>s∈V
 | .cst v=>v∈K
def prs(V:List Str)(K:List Int):List (Trm×Trm):=V.flatMap fun s=>K.map fun v=>(.var s,.cst v)
theorem zHv{V:List Str}{K:List Int}{s:Str}{v:Int}(h1:s∈V)(h2:v∈K):(Trm.var s,Trm.cst v)∈prs V K:=List.mem_flatMap.2 ⟨s,h1,List.mem_map.2 ⟨v,h2,rfl⟩⟩
theorem zri{V:List Str}{K:List Int}:∀p∈prs V K,Gd p:=by
 intro p hp;obtain⟨s,-,hp⟩ :=List.mem_flatMap.1 hp;obtain⟨v,-,rfl⟩ :=List.mem_map.1 hp;exact⟨by simp,by rintro⟨a,b,e⟩;cases e⟩
theorem zCe{hd:List Str}{l:List CQ}{c:CQ}{p:Str×Int}(h:stQ hd l c=some p):p.1∈vrs c/\exc c p.1 p.2=false/\∃a∈c.as,∃i:Nat,a.ts[i]? =some (.var p.1)/\p.2∈cAt l a.r i:=by
 unfold stQ at h;obtain⟨s,hs,h⟩ :=List.exists_of_findSome?_eq_some h;unfold stN at h;split at h
 ·cases h
 ·cases ho:smA l c s c.as with
  |none=>rw[ho]at h;cases h
  |some v=>
   rw[ho]at h;cases h;rcases zpu ho with h1|⟨a,ha,i,h1,h2,h3⟩
   ·cases h1
   ·exact⟨hs,h3,a,ha,i,h1,h2⟩
theorem zB1{hd:List Str}{l M:List CQ}{i:Nat}(h:shS hd l=some (i,M)):∃(hi:i<l.length) (p:Str×Int),stQ hd l l[i]=some p/\M=spl l[i] p.1 p.2:=by
 unfold shS at h;split at h
 ·rename_i j hj;obtain⟨h1,h2⟩ :=zgT hj;rw[List.getElem?_eq_getElem h1]at h;cases hq:stQ hd l l[j]with
  |none=>rw[hq]at h2;cases h2
  |some p=>
   simp only[hq,Option.map_some,Option.some.injEq,Prod.mk.injEq]at h;obtain⟨rfl,rfl⟩ :=h;exact⟨h1,p,hq,rfl⟩
 ·cases h
theorem pow_2{B m a b:Nat}(hB:3≤B)(h1:a<m)(h2:b<m):B ^ a+B ^ b<B ^ m:=by
 obtain⟨n,rfl⟩ :∃n,m=n+1:=⟨m - 1,by omega⟩
 have k1:B ^ a≤B ^ n:=Nat.pow_le_pow_right (by omega) (by omega);have k2:B ^ b≤B ^ n:=Nat.pow_le_pow_right (by omega) (by omega);have k3:0<B ^ n:=Nat.pow_pos (by omega);have k4:B ^ (n+1)=B ^ n*B:=Nat.pow_succ ..;have k5:B ^ n*3≤B ^ n*B:=Nat.mul_le_mul_left _ hB;omega
theorem zLB(hd:List Str)(V:List Str)(K:List Int)(hV:∀s∈V,s≠[]):Dcr 3 2 (prs V K) (PTm V K) (shS hd):=by
 intro l hl i M h;obtain⟨hi,p,hp,rfl⟩ :=zB1 h;have hI:=hl _ (List.getElem_mem hi);obtain⟨h1,h2,a,ha,j,h3,h4⟩ :=zCe hp;generalize hc0:l[i]=c at*;have hin:=(zou.1 h1).2;have hs:p.1∈V:=hI.t _ hin;obtain⟨c',hc',a',ha',-,h5⟩ :=zGl.1 h4;have hv:p.2∈K:=(hl c' hc').t (.cst p.2) (zdp.2 (.inl ⟨a',ha',List.mem_of_getElem? h5⟩));have hu:unc 2 c (.var p.1,.cst p.2)=true:=zey.2 ⟨zgg hin,rfl,h2⟩;have hL:=zHv hs hv;obtain⟨k1,k2⟩ :=ztC hI (s:=p.1) (t:= .cst p.2) rfl hv trivial (by simp) hL hu (.inl rfl);obtain⟨k3,k4⟩ :=zlQ hI (k:=⟨2,.var p.1,.cst p.2⟩) (zgg hin) rfl ⟨hV _ hs,trivial⟩ hs hv hL hu znC;refine⟨hi,by simp[spl],by simp[spl],fun d hd=> ?_,?_⟩
 ·rcases List.mem_cons.1 hd with rfl|hd
  ·exact k1
  ·rw[List.mem_singleton.1 hd];exact k3
 ·have:=pow_2 (B:=3) (by omega) k2 k4;simpa [mu,spl,hc0]using this
theorem fn145:pr.fn 145=some zvS:=by kernel_rfl
theorem fn157:pr.fn 157=some zvW:=by kernel_rfl
theorem fn144:pr.fn 144=some zvR:=by kernel_rfl
theorem fn116:pr.fn 116=some zvM:=by kernel_rfl
theorem fn75:pr.fn 75=some g75:=by kernel_rfl
def zlM(r:Str)(i:Nat)(u:Str)(j:Nat)(v:Str)(a:Atm):Bool:=decide (a.r=r)&&decide (i<a.ts.length/\j<a.ts.length)&&decide (a.ts[i]? =some (.var u))&&decide (a.ts[j]? =some (.var v))
theorem zp5{t:Trm}{u:Str}(hu:u≠[]):tv t=u↔t= .var u:=by
 cases t with
 |var s=>simp[tv]
 |cst n=>simp[tv];exact fun h=>hu h
theorem ro145(a:Atm)(ha:zbl a)(r:Str)(i:Nat)(u:Str)(j:Nat)(v:Str)(hu:u≠[])(hv:v≠[]){h:T Ob}{c A B C D' E:Nat}(gA:h.get A=some (.arr 1 0 [[.f (.s r)]]))(gB:h.get B=some (.arr 1 0 [[.f (.i .i64 i)]]))(gC:h.get C=some (.arr 1 0 [[.f (.i .i64 j)]]))(gD:h.get D'=some (.arr 1 0 [[.f (.s u)]]))(gE:h.get E=some (.arr 1 0 [[.f (.s v)]]))(hA:A<c)(hB:B<c)(hC:C<c)(hD:D'<c)(hE:E<c):
  RO pr 145 [.ag [.f (.s a.r),.f (.b a.neg),.f (zb7 a.ts)],.ptr A 1 0 0,.ptr B 1 0 0,.ptr C 1 0 0,.ptr D' 1 0 0,.ptr E 1 0 0] h c (.f (.b (zlM r i u j v a))):=by
 refine zdU za8 fn145 rfl ?_;simp only[zvS,rU];have nA:¬A=c:=by omega
 have nB:¬B=c:=by omega
 have nC:¬C=c:=by omega
 have nD:¬D'=c:=by omega
 have nE:¬E=c:=by omega
 unfold zlM
 by_cases e1:a.r=r
 ·subst e1
  by_cases hi:i<a.ts.length
  ·by_cases hj:j<a.ts.length
   ·have x1:a.ts[i]? =some a.ts[i]:=List.getElem?_eq_getElem hi;have x2:a.ts[j]? =some a.ts[j]:=List.getElem?_eq_getElem hj;have y1:=zp5 (t:=a.ts[i]) hu;have y2:=zp5 (t:=a.ts[j]) hv;generalize hT1:a.ts[i]=t1 at x1 y1;generalize hT2:a.ts[j]=t2 at x2 y2;rw[x1,x2];have w1:decide (some t1=some (Trm.var u))=decide (tv t1=u):=decide_eq_decide.2 (by rw[y1];simp);have w2:decide (some t2=some (Trm.var v))=decide (tv t2=v):=decide_eq_decide.2 (by rw[y2];simp);rw[w1,w2]
    by_cases hij:i<j<;>by_cases z1:tv t1=u<;>by_cases z2:tv t2=v<;>(simp -implicitDefEqProofs [rW,st0,zaj];refine zbY ?_;simp -implicitDefEqProofs [rW,gA,gB,gC,gD,gE,nA,nB,nC,nD,nE,zbO,zbW,zcM,x1,x2,hT1,hT2,tmE,hi,hj,hij,z1,z2,zaU])
    all_goals simp (disch:=omega) only[zbu,zb8]
   ·have hij:i<j:=by omega
    simp -implicitDefEqProofs [rW,st0,zaj];refine zbY ?_;simp -implicitDefEqProofs [rW,gA,gB,gC,gD,gE,nA,nB,nC,nD,nE,zbO,zbW,hj,hij,zaU];simp (disch:=omega) only[zbu,zb8]
  ·by_cases hij:i<j
   ·have hj:¬j<a.ts.length:=by omega
    simp -implicitDefEqProofs [rW,st0,zaj];refine zbY ?_;simp -implicitDefEqProofs [rW,gA,gB,gC,gD,gE,nA,nB,nC,nD,nE,zbO,zbW,hi,hj,hij,zaU];simp (disch:=omega) only[zbu,zb8]
   ·simp -implicitDefEqProofs [rW,st0,zaj];refine zbY ?_;simp -implicitDefEqProofs [rW,gA,gB,gC,gD,gE,nA,nB,nC,nD,nE,zbO,zbW,hi,hij,zaU];simp (disch:=omega) only[zbu,zb8]
 ·simp -implicitDefEqProofs [rW,st0,zaj];refine zbY ?_;simp -implicitDefEqProofs [rW,gA,gB,gC,gD,gE,nA,nB,nC,nD,nE,e1,zbO,zaU];simp (disch:=omega) only[zbu,zb8]
theorem zKU(q:CQ)(p:Atm->Bool)(hl:q.as.length<100000){h:T Ob}{c g:Nat}{fv:D}{cap:List D}(hfv:zc1 fv=some (g,[],cap))(hcl:∀n (hn:n<q.as.length),RO pr g (.ag [.f (.s q.as[n].r),.f (.b q.as[n].neg),.f (zb7 q.as[n].ts)]::cap) h c (.f (.b (p q.as[n])))):
  RO pr 157 [.f (zaK q),fv] h c (.f (.i .i64 (ixP q.as p))):=by
 refine zdU za8 fn157 rfl ?_;simp only[zvW,rU];simp -implicitDefEqProofs [rW,st0,zaj,zdG];refine zfj q.as p (fun n s=>(s.tm.get 0=some (.f (zaK q))/\s.tm.get 1=some (fv)/\s.tm.get 7=some (.f (.i .i64 q.as.length))/\s.tm.get 8=some (.f (.i .i64 n)))/\s.h=h/\s.c=c/\s.lw=c) (fun x s=>x= .exit 0/\s.lw=c) (fun n y s=>y= .ret/\s.tm.get 4=some (.f (.i .i64 n))/\s.lw=c) ?_ ?_ _ ?_ ?_ ?_
 ·rintro n s hn ⟨⟨h0,h1,h7,h8⟩,eh,ec,el⟩;have hw:=zaC n (by omega);have hp:=hcl n hn;have hx:q.as[n]? =some q.as[n]:=List.getElem?_eq_getElem hn;generalize hA:q.as[n]=A at hp hx⊢;simp -implicitDefEqProofs [rW,h0,h1,h7,h8,hn,zeK,hx,hA,atE,zbO,hfv];refine zdg (d:= .f (.b (p A))) ?_ ?_ ?_
  ·simp only[rG];rw[eh,ec];exact hp
  ·simp only[rG];omega
  ·intro mx;cases hb:p A with
   |true=>simp -implicitDefEqProofs [rW,h0,h1,h7,h8,el]
   |false=>simp -implicitDefEqProofs [rW,h0,h1,h7,h8,hw,eh,ec,el]
 ·rintro s ⟨⟨h0,h1,h7,h8⟩,eh,ec,el⟩;simp -implicitDefEqProofs [rW,h0,h1,h7,h8,el]
 ·simp -implicitDefEqProofs [rW,st0,zaj]
 ·rintro h z s ⟨rfl,el⟩;rw[zk6 h];simp -implicitDefEqProofs [rW,zaU,el]
 ·rintro n hn hp hm z s ⟨rfl,h4,el⟩;rw[zkk hn hp hm];simp -implicitDefEqProofs [rW,h4,zaU,el]
theorem zKS(q:CQ)(p:Atm->Bool)(hl:q.as.length<100000){h:T Ob}{c g:Nat}{fv:D}{cap:List D}(hfv:zc1 fv=some (g,[],cap))(hcl:∀n (hn:n<q.as.length),RO pr g (.ag [.f (.s q.as[n].r),.f (.b q.as[n].neg),.f (zb7 q.as[n].ts)]::cap) h c (.f (.b (p q.as[n])))):
  RO pr 144 [.f (zaK q),fv] h c (.f (.b (q.as.any p))):=by
 refine zdU za8 fn144 rfl ?_;simp only[zvR,rU];rw[<-zm3 q.as p];simp -implicitDefEqProofs [rW,st0,zaj];refine zdg (d:= .f (.i .i64 (ixP q.as p))) ?_ ?_ ?_
 ·simp only[rG];exact zKU q p hl hfv hcl
 ·simp only[rG];omega
 ·intro mx;simp -implicitDefEqProofs [rW,zaU]
theorem zJJ(q:CQ)(r:Str)(i:Nat)(u:Str)(j:Nat)(v:Str)(hq:CqG q)(hu:u≠[])(hv:v≠[]):Ans pr 116 [.ag (cqF q),.s r,.i .i64 i,.s u,.i .i64 j,.s v] (.b (q.as.any (zlM r i u j v))):=by
 refine zcm fn116 ?_;simp only[zvM,rU];simp -implicitDefEqProofs [rW,st0,zaj,cqE,za7,za4];refine zdg (d:= .f (.b (q.as.any (zlM r i u j v)))) ?_ ?_ ?_
 ·simp only[rG];refine zKS q _ (by have:=hq.sa;omega) rfl fun n hn=> ?_
  refine ro145 _ (hq.toCqSm.toCqOk.as _ (List.getElem_mem hn)) r i u j v hu hv ?_ ?_ ?_ ?_ ?_ ?_ ?_ ?_ ?_ ?_
  all_goals first|(simp[Vse.T.zad];done)|omega
 ·simp only[rG]
  repeat refine Nat.le_trans (zbv _ _).1 ?_
  omega
 ·intro mx;simp -implicitDefEqProofs [rW,]
def exJ(c:CQ)(x y:Str)(a:Atm)(i j:Nat):Bool:=decide (a.ts[i]? =some (.var x))&&decide (a.ts[j]? =some (.var y))&&c.as.any (zlM a.r i y j x)
def exI(c:CQ)(x y:Str)(a:Atm)(i:Nat):Bool:=(List.range a.ts.length).any (exJ c x y a i)
def exA(c:CQ)(x y:Str)(a:Atm):Bool:=(List.range a.ts.length).any (exI c x y a)
def zlG(c:CQ)(x y:Str):Bool:=c.as.any (exA c x y)
def XE1(q:CQ)(x y:Str)(n:Nat)(s:St):Prop:=(s.tm.get 1=some (.f (.s x))/\s.tm.get 2=some (.f (.s y))/\s.tm.get 3=some (.ptr 0 2 0 0)/\s.tm.get 14=some (.f (zaK q))/\s.tm.get 15=some (.f (.i .i64 q.as.length))/\s.tm.get 16=some (.f (.i .i64 n))/\s.h.get 0=some (.arr 2 0 [[.f (zaK q),.f (zaN q)]]))/\1≤s.c
def XE2(q:CQ)(x y:Str)(n P:Nat)(A:Atm)(m:Nat)(s:St):Prop:=(s.tm.get 1=some (.f (.s x))/\s.tm.get 2=some (.f (.s y))/\s.tm.get 3=some (.ptr 0 2 0 0)/\s.tm.get 14=some (.f (zaK q))/\s.tm.get 15=some (.f (.i .i64 q.as.length))/\s.tm.get 16=some (.f (.i .i64 n))/\s.tm.get 8=some (.ptr P 3 0 0)/\s.tm.get 21=some (.f (zb7 A.ts))/\s.tm.get 22=some (.f (.i .i64 A.ts.length))/\s.tm.get 23=some (.f (.i .i64 m))/\s.h.get 0=some (.arr 2 0 [[.f (zaK q),.f (zaN q)]])/\s.h.get P=some (.arr 3 0 [[.f (.s A.r),.f (.b A.neg),.f (zb7 A.ts)]]))/\1≤P/\P<s.c
def XE3(q:CQ)(x y:Str)(n P:Nat)(A:Atm)(m R:Nat)(T:Trm)(k:Nat)(s:St):Prop:=(s.tm.get 1=some (.f (.s x))/\s.tm.get 2=some (.f (.s y))/\s.tm.get 3=some (.ptr 0 2 0 0)/\s.tm.get 14=some (.f (zaK q))/\s.tm.get 15=some (.f (.i .i64 q.as.length))/\s.tm.get 16=some (.f (.i .i64 n))/\s.tm.get 8=some (.ptr P 3 0 0)/\s.tm.get 21=some (.f (zb7 A.ts))/\s.tm.get 22=some (.f (.i .i64 A.ts.length))/\s.tm.get 23=some (.f (.i .i64 m))/\s.tm.get 9=some (.f (.i .i64 m))/\s.tm.get 10=some (.ptr R 4 0 0)/\s.tm.get 29=some (.f (zb7 A.ts))/\s.tm.get 30=some (.f (.i .i64 A.ts.length))/\s.tm.get 31=some (.f (.i .i64 k))/\s.h.get 0=some (.arr 2 0 [[.f (zaK q),.f (zaN q)]])/\s.h.get P=some (.arr 3 0 [[.f (.s A.r),.f (.b A.neg),.f (zb7 A.ts)]])/\s.h.get R=some (.arr 4 0 [tmD T]))/\1≤P/\P<R/\R<s.c
def XER(y:Ex)(s:St):Prop:=y= .ret/\s.tm.get 6=some (.f (.b true))
set_option maxHeartbeats 4000000 in
theorem ans75(q:CQ)(x y:Str)(hq:CqG q)(hx:x≠[])(hy:y≠[]):Ans pr 75 [.ag (cqF q),.s x,.s y] (.b (zlG q x y)):=by
 refine zcm fn75 ?_;simp only[g75,rU];simp -implicitDefEqProofs [rW,st0,zaj,cqE,za7,za4,zdG];refine zfj q.as (exA q x y) (XE1 q x y) (fun e s=>e= .exit 0) (fun n e s=>XER e s) ?_ ?_ _ ?_ ?_ ?_
 ·rintro n s hn ⟨⟨h1,h2,h3,h14,h15,h16,g0⟩,hlo⟩;have hw:=zaC n (by have:=hq.sa;omega);have hxa:q.as[n]? =some q.as[n]:=List.getElem?_eq_getElem hn;have hst:=hq.st _ (List.getElem_mem hn);have hok:=(hq.toCqSm.toCqOk.as _ (List.getElem_mem hn)).1;generalize hA:q.as[n]=A at hxa hst hok⊢;simp -implicitDefEqProofs [rW,h1,h2,h3,h14,h15,h16,hn,zeK,hxa,hA,atE,zbO,zbW];refine zfj (List.range A.ts.length) (exI q x y A) (XE2 q x y n s.c A) (fun e s'=>e= .exit 2/\XE1 q x y n s') (fun m e s'=>XER e s') ?_ ?_ _ ?_ ?_ ?_
  ·rintro m s' hm ⟨⟨h1,h2,h3,h14,h15,h16,h8,h21,h22,h23,g0,gP⟩,hP1,hP2⟩;rw[List.length_range]at hm;rw[List.getElem_range];have hw2:=zaC m (by omega);have hx2:A.ts[m]? =some A.ts[m]:=List.getElem?_eq_getElem hm;generalize hT:A.ts[m]=T at hx2;have nP:¬(s.c=s'.c):=by omega
   simp -implicitDefEqProofs [rW,h1,h2,h3,h14,h15,h16,h8,h21,h22,h23,g0,gP,hm,zcM,hx2,hT,tmE,nP,zbW];refine zfj (List.range A.ts.length) (exJ q x y A m) (XE3 q x y n s.c A m s'.c T) (fun e s2=>e= .exit 4/\XE2 q x y n s.c A m s2) (fun k e s2=>XER e s2) ?_ ?_ _ ?_ ?_ ?_
   ·rintro k s2 hk ⟨⟨h1,h2,h3,h14,h15,h16,h8,h21,h22,h23,h9,h10,h29,h30,h31,g0,gP,gR⟩,hP1,hP2,hR⟩;rw[List.length_range]at hk;rw[List.getElem_range];have hw3:=zaC k (by omega);have hx3:A.ts[k]? =some A.ts[k]:=List.getElem?_eq_getElem hk;generalize hU:A.ts[k]=U at hx3;have nP2:¬(s.c=s2.c):=by omega
    have nR2:¬(s'.c=s2.c):=by omega
    have n02:¬(0=s2.c):=by omega
    have q1:=fun f=>zay (k:=f) (zJJ q A.r m y k x hq hy hx)
    simp only[cqE]at q1;have y1:=zp5 (t:=T) hx;have y2:=zp5 (t:=U) hy;have e:exJ q x y A m k=(decide (tv T=x)&&decide (tv U=y)&&q.as.any (zlM A.r m y k x)):=by
     unfold exJ;rw[hx2,hx3]
     congr 1
     congr 1
     ·exact decide_eq_decide.2 (by rw[y1];simp)
     ·exact decide_eq_decide.2 (by rw[y2];simp)
    by_cases z1:tv T=x
    ·by_cases z2:tv U=y
     ·generalize hb:q.as.any (zlM A.r m y k x)=b at q1 e;cases b with
      |true=>
       simp -implicitDefEqProofs [rW,h1,h2,h3,h14,h15,h16,h8,h21,h22,h23,h9,h10,h29,h30,h31,g0,gP,gR,hk,zcM,hx3,hU,tmE,tmD,nP2,nR2,n02,hw3,z1,z2,q1];refine⟨by rw[e];simp[z1,z2],rfl,?_⟩;simp -implicitDefEqProofs [rW,]
      |false=>
       simp -implicitDefEqProofs [rW,h1,h2,h3,h14,h15,h16,h8,h21,h22,h23,h9,h10,h29,h30,h31,g0,gP,gR,hk,zcM,hx3,hU,tmE,tmD,nP2,nR2,n02,hw3,z1,z2,q1];refine⟨by rw[e];simp[z1,z2],?_,hP1,hP2,?_⟩
       ·simp -implicitDefEqProofs [rW,h1,h2,h3,h14,h15,h16,h8,h21,h22,h23,h9,h10,h29,h30,h31,g0,gP,gR,hw3,nP2,nR2,n02]
       ·simp -implicitDefEqProofs [rW,];omega
     ·simp -implicitDefEqProofs [rW,h1,h2,h3,h14,h15,h16,h8,h21,h22,h23,h9,h10,h29,h30,h31,g0,gP,gR,hk,zcM,hx3,hU,tmE,tmD,nP2,nR2,n02,hw3,z1,z2];refine⟨by rw[e];simp[z2],?_,hP1,hP2,?_⟩
      ·simp -implicitDefEqProofs [rW,h1,h2,h3,h14,h15,h16,h8,h21,h22,h23,h9,h10,h29,h30,h31,g0,gP,gR,hw3,nP2,nR2,n02]
      ·simp -implicitDefEqProofs [rW,];omega
    ·simp -implicitDefEqProofs [rW,h1,h2,h3,h14,h15,h16,h8,h21,h22,h23,h9,h10,h29,h30,h31,g0,gP,gR,hk,zcM,hx3,hU,tmE,tmD,nP2,nR2,n02,hw3,z1];refine⟨by rw[e];simp[z1],?_,hP1,hP2,?_⟩
     ·simp -implicitDefEqProofs [rW,h1,h2,h3,h14,h15,h16,h8,h21,h22,h23,h9,h10,h29,h30,h31,g0,gP,gR,hw3,nP2,nR2,n02]
     ·simp -implicitDefEqProofs [rW,];omega
   ·rintro s2 ⟨⟨h1,h2,h3,h14,h15,h16,h8,h21,h22,h23,h9,h10,h29,h30,h31,g0,gP,gR⟩,hP1,hP2,hR⟩;rw[List.length_range]at h31;simp -implicitDefEqProofs [rW,h1,h2,h3,h14,h15,h16,h8,h21,h22,h23,h9,h10,h29,h30,h31,g0,gP,gR];refine⟨?_,hP1,by simp -implicitDefEqProofs [rW,];omega⟩;simp -implicitDefEqProofs [rW,h1,h2,h3,h14,h15,h16,h8,h21,h22,h23,h9,h10,h29,h30,h31,g0,gP,gR]
   ·refine⟨?_,hP1,hP2,?_⟩
    ·have n0:¬(0=s'.c):=by omega
     simp -implicitDefEqProofs [rW,h1,h2,h3,h14,h15,h16,h8,h21,h22,h23,g0,gP,nP,tmD,n0]
    ·simp -implicitDefEqProofs [rW,]
   ·rintro hno e s2 ⟨rfl,⟨h1,h2,h3,h14,h15,h16,h8,h21,h22,h23,g0,gP⟩,hP1,hP2⟩;have e:exI q x y A m=false:=by
     unfold exI;rw[List.any_eq_false];exact fun k hk=>by rw[hno k hk];simp
    simp -implicitDefEqProofs [rW,h1,h2,h3,h14,h15,h16,h8,h21,h22,h23,g0,gP,hw2];refine⟨e,?_,hP1,hP2⟩;simp -implicitDefEqProofs [rW,h1,h2,h3,h14,h15,h16,h8,h21,h22,h23,g0,gP,hw2]
   ·rintro k hk hp hbf e s2 ⟨rfl,h6⟩;have e:exI q x y A m=true:=by
     unfold exI;exact List.any_eq_true.2 ⟨_,List.getElem_mem hk,hp⟩
    simp -implicitDefEqProofs [rW,];exact⟨e,rfl,h6⟩
  ·rintro s' ⟨⟨h1,h2,h3,h14,h15,h16,h8,h21,h22,h23,g0,gP⟩,hP1,hP2⟩;rw[List.length_range]at h23;simp -implicitDefEqProofs [rW,h1,h2,h3,h14,h15,h16,h8,h21,h22,h23,g0,gP];refine⟨?_,by simp -implicitDefEqProofs [rW,];omega⟩;simp -implicitDefEqProofs [rW,h1,h2,h3,h14,h15,h16,g0]
  ·refine⟨?_,hlo,?_⟩
   ·have n0:¬(0=s.c):=by omega
    simp -implicitDefEqProofs [rW,h1,h2,h3,h14,h15,h16,g0,n0]
   ·simp -implicitDefEqProofs [rW,]
  ·rintro hno e s' ⟨rfl,⟨h1,h2,h3,h14,h15,h16,g0⟩,hlo⟩;have e:exA q x y A=false:=by
    unfold exA;rw[List.any_eq_false];exact fun k hk=>by rw[hno k hk];simp
   simp -implicitDefEqProofs [rW,h1,h2,h3,h14,h15,h16,g0,hw];refine⟨e,?_,hlo⟩;simp -implicitDefEqProofs [rW,h1,h2,h3,h14,h15,h16,g0,hw]
  ·rintro k hk hp hbf e s' ⟨rfl,h6⟩;have e:exA q x y A=true:=by
    unfold exA;exact List.any_eq_true.2 ⟨_,List.getElem_mem hk,hp⟩
   simp -implicitDefEqProofs [rW,];exact⟨e,rfl,h6⟩
 ·rintro s ⟨⟨h1,h2,h3,h14,h15,h16,g0⟩,hlo⟩;simp -implicitDefEqProofs [rW,h1,h2,h3,h14,h15,h16,g0]
 ·refine⟨?_,?_⟩
  ·simp -implicitDefEqProofs [rW,st0,zaj]
  ·simp -implicitDefEqProofs [rW,]
 ·rintro hno e s rfl;have e:zlG q x y=false:=by
   unfold zlG;rw[List.any_eq_false];exact fun k hk=>by rw[hno k hk];simp
  simp -implicitDefEqProofs [rW,e]
 ·rintro n hn hp hbf e s ⟨rfl,h6⟩;have e:zlG q x y=true:=by
   unfold zlG;exact List.any_eq_true.2 ⟨_,List.getElem_mem hn,hp⟩
  simp -implicitDefEqProofs [rW,e,h6]
theorem fn76:pr.fn 76=some g76:=by kernel_rfl
theorem fn39:pr.fn 39=some g39:=by kernel_rfl
theorem ro76(t:Trm)(s w:Str)(hs:s≠[])(hw:w≠[])(ht:zax t){h:T Ob}{c A B:Nat}(gA:h.get A=some (.arr 1 0 [[.f (.s s)]]))(gB:h.get B=some (.arr 1 0 [[.f (.s w)]]))(hA:A<c)(hB:B<c):RO pr 76 [.ag (tmD t),.ptr A 1 0 0,.ptr B 1 0 0] h c (.ag (tmD (sbT s (.var w) t))):=by
 refine zdU za8 fn76 rfl ?_;simp only[g76,rU];have nA:¬A=c:=by omega
 have nB:¬B=c:=by omega
 have nA1:¬A=c+1:=by omega
 have nB1:¬B=c+1:=by omega
 unfold sbT;cases t with
 |cst a=>
  simp -implicitDefEqProofs [rW,st0,zaj,tmD,zdQ,zdL,zdN,gA,gB,nA,nB,nA1,nB1,hs,Ne.symm hs,hw,zaU];simp (disch:=omega) only[zbu,zb8]
 |var u=>
  by_cases e:u=s
  ·subst e;simp -implicitDefEqProofs [rW,st0,zaj,tmD,zcu,zcs,zct,gA,gB,nA,nB,nA1,nB1,hs,hw,zaU];simp (disch:=omega) only[zbu,zb8];exact⟨by omega,trivial⟩
  ·have e2:¬(Trm.var u=Trm.var s):=fun h=>e (by cases h;rfl)
   simp -implicitDefEqProofs [rW,st0,zaj,tmD,zcu,zcs,zct,gA,gB,nA,nB,nA1,nB1,hs,hw,e,e2,zaU];simp (disch:=omega) only[zbu,zb8]
theorem ans39(q:CQ)(s:Str)(w:Str)(hs:s≠[])(hw:w≠[])(hq:CqG q):Ans pr 39 [.ag (cqF q),.s s,.s w] (.ag (cqF (mpC (sbT s (.var w)) q))):=by
 refine zcm fn39 ?_;simp only[g39,rU];simp -implicitDefEqProofs [rW,st0,zaj,cqE,za7,za4];refine zcS rfl rfl (zDy (sbT s (.var w)) q hq rfl ?_) ?_
 ·intro t ht H c' hH hc;have b1:=hH 1 (by simp only[rG];omega);have b2:=hH 2 (by simp only[rG];omega);simp only[rG]at b1 b2 hc;refine ro76 t s w hs hw ht ?_ ?_ (by omega) (by omega)
  ·rw[b1];simp[Vse.T.zad]
  ·rw[b2];simp[Vse.T.zad]
 ·rintro d h' c' lw mx ⟨hf,dA,dC,rfl,hA,hC⟩ hcc;simp only[rG]at hf hA hC hcc;have e3:=hf 3 (by omega);simp[Vse.T.zad]at e3;simp -implicitDefEqProofs [rW,e3,hA.2.1,hC.2.1];have hup:∀x,4≤x->x<c'->(h'.set 3 (.arr 2 0 [[dA,dC]])).get x=h'.get x:=fun x h1 h2=>by
   have a1:¬x=3:=by omega
   simp[Vse.T.zad,a1]
  obtain⟨r1,f1⟩ :=hA.2.2 (h'.set 3 (.arr 2 0 [[dA,dC]])) hup 8;obtain⟨r2,f2⟩ :=hC.2.2 (h'.set 3 (.arr 2 0 [[dA,dC]])) hup 8;rw[f1,f2];simp -implicitDefEqProofs [rW,];omega
theorem fn73:pr.fn 73=some g73:=by kernel_rfl
theorem fn113:pr.fn 113=some zvJ:=by kernel_rfl
theorem fn72:pr.fn 72=some g72:=by kernel_rfl
def inH(hd:List Str)(x:Str):Bool:=hd.any (· ==x)
def kp(hd:List Str)(l:List Str):List Str:=l.filter fun x=>!(inH hd x)
theorem ro73(hd:List Str)(x:Str)(hh:hd.length<1000000){h:T Ob}{c A:Nat}(gA:h.get A=some (.arr 1 0 [[.f (zav hd)]]))(hA:A<c):RO pr 73 [.f (.s x),.ptr A 1 0 0] h c (.f (.b (inH hd x))):=by
 refine zdU za8 fn73 rfl ?_;simp only[g73,rU];have q1:=fun k=>zay (k:=k) (zva hd x hh)
 simp -implicitDefEqProofs [rW,st0,zaj,gA,zaS,q1,zaU];rfl
theorem zy4(l:List Str)(p:Str->Bool)(hl:l.length<100000){h:T Ob}{c g:Nat}{d fv:D}{cap:List D}(H:RdV h d l)(hfv:zc1 fv=some (g,[],cap))(hcl:∀n (hn:n<l.length),RO pr g (.f (.s l[n])::cap) h c (.f (.b (p l[n])))):RO pr 113 [d,fv] h c (.f (.i .i64 (ixP l p))):=by
 refine zdU za8 fn113 rfl ?_;simp only[zvJ,rU];simp -implicitDefEqProofs [rW,st0,zaj,ztV H];refine zfj l p (fun n s=>(s.tm.get 0=some (d)/\s.tm.get 1=some (fv)/\s.tm.get 7=some (.f (.i .i64 l.length))/\s.tm.get 8=some (.f (.i .i64 n)))/\s.h=h/\s.c=c/\s.lw=c) (fun x s=>x= .exit 0/\s.lw=c) (fun n y s=>y= .ret/\s.tm.get 4=some (.f (.i .i64 n))/\s.lw=c) ?_ ?_ _ ?_ ?_ ?_
 ·rintro n s hn ⟨⟨h0,h1,h7,h8⟩,eh,ec,el⟩;have hw:=zaC n (by omega);have hp:=hcl n hn;obtain⟨q,rd,hq,hr⟩ :=zyW H hn;generalize hA:l[n]=A at hp hr⊢;simp -implicitDefEqProofs [rW,h0,h1,h7,h8,hn,hq,hr,eh,hfv];refine zdg (d:= .f (.b (p A))) ?_ ?_ ?_
  ·simp only[rG];rw[eh,ec];exact hp
  ·simp only[rG];omega
  ·intro mx;cases hb:p A with
   |true=>simp -implicitDefEqProofs [rW,h0,h1,h7,h8,el]
   |false=>simp -implicitDefEqProofs [rW,h0,h1,h7,h8,hw,eh,ec,el]
 ·rintro s ⟨⟨h0,h1,h7,h8⟩,eh,ec,el⟩;simp -implicitDefEqProofs [rW,h0,h1,h7,h8,el]
 ·simp -implicitDefEqProofs [rW,st0,zaj]
 ·rintro h z s ⟨rfl,el⟩;rw[zk6 h];simp -implicitDefEqProofs [rW,zaU,el]
 ·rintro n hn hp hm z s ⟨rfl,h4,el⟩;rw[zkk hn hp hm];simp -implicitDefEqProofs [rW,h4,zaU,el]
theorem ztB(l:List Str):hd8 (za3 l)=false:=by cases l<;>rfl
theorem zyH(hd:List Str)(l:List Str){n:Nat}(hn:n<l.length):kp hd (l.take (n+1))=kp hd (l.take n)++if inH hd l[n]then[]else[l[n]]:=by
 unfold kp;rw[List.take_succ_eq_append_getElem hn,List.filter_append]
 congr 1
 cases h:inH hd l[n]<;>simp[h]
theorem zEC(hd:List Str)(l:List Str):(kp hd l).length≤l.length:=List.length_filter_le _ _
def KD(h:T Ob)(hd l:List Str)(id A c i:Nat)(k':Nat)(s:St):Prop:=∃(j:Nat) (R:List Str),i+1≤j/\j≤l.length/\k'=l.length - j/\(kp hd (l.take j)).length<j/\(s.tm.get 0=some (.sl id 0 l.length 1 l.length false)/\s.tm.get 1=some (.fn 73 [] [.ptr A 1 0 0])/\s.tm.get 5=some (.f (.i .i64 (kp hd (l.take j)).length))/\s.tm.get 6=some (.f (.i .i64 j)))/\s.h.get id=some (.arr 1 0 (za3 R))/\R.length=l.length/\R.take (kp hd (l.take j)).length=kp hd (l.take j)/\(∀q,j≤q->R[q]? =l[q]?)/\(∀x,x<c->x≠id->s.h.get x=h.get x)/\c≤s.c/\s.lw≤s.c
def KE(h:T Ob)(hd l:List Str)(id c:Nat)(s:St):Prop:=∃R:List Str,(s.tm.get 0=some (.sl id 0 l.length 1 l.length false)/\s.tm.get 5=some (.f (.i .i64 (kp hd l).length)))/\s.h.get id=some (.arr 1 0 (za3 R))/\R.length=l.length/\R.take (kp hd l).length=kp hd l/\(∀x,x<c->x≠id->s.h.get x=h.get x)/\c≤s.c
set_option maxHeartbeats 4000000 in
theorem eff72(hd l:List Str)(hh:hd.length<1000000)(hl:l.length<100000){h:T Ob}{c id A:Nat}(gI:h.get id=some (.arr 1 0 (za3 l)))(hid:id<c)(hne:l≠[])(gA:h.get A=some (.arr 1 0 [[.f (zav hd)]]))(hA:A<c)(hAi:A≠id):
  Eff pr 72 [.sl id 0 l.length 1 l.length false,.fn 73 [] [.ptr A 1 0 0]] h c fun d h' c'=>∃R:List Str,d= .sl id 0 (kp hd l).length 1 l.length false/\h'.get id=some (.arr 1 0 (za3 R))/\R.length=l.length/\R.take (kp hd l).length=kp hd l/\∀x,x<c->x≠id->h'.get x=h.get x:=by
 refine zcG za8 fn72 ?_;simp only[g72,rU];simp -implicitDefEqProofs [rW,st0,zaj];have hR0:RdV h (.sl id 0 l.length 1 l.length false) l:= .inr ⟨0,c,.inr ⟨id,0,by rw[zeI],fun e=>hne (zma e),gI,Nat.zero_le _,Nat.zero_le _,hid⟩⟩;refine zdg (d:= .f (.i .i64 (ixP l (inH hd)))) ?_ ?_ ?_
 ·simp only[rG];exact zy4 l (inH hd) hl hR0 rfl fun n hn=>ro73 hd _ hh gA hA
 ·simp only[rG];omega
 intro mx;unfold ixP;cases hx:l.findIdx? (inH hd)with
 |none=>
  have hk:kp hd l=l:=by
   unfold kp;rw[List.filter_eq_self];intro a ha;rw[List.findIdx?_eq_none_iff.1 hx a ha];rfl
  simp -implicitDefEqProofs [rW,hk,zbR];exact⟨l,gI,rfl,List.take_length ..⟩
 |some i=>
  obtain⟨hi,hp,hbf⟩ :=List.findIdx?_eq_some_iff_getElem.1 hx;have hw:=zaC i (by omega);have hm1:¬((i:Int)= -1):=by omega
  have hki:kp hd (l.take i)=l.take i:=by
   unfold kp;rw[List.filter_eq_self];intro a ha;obtain⟨m,hm,rfl⟩ :=List.mem_iff_getElem.1 ha;have hm':m<i:=by simp at hm;omega
   rw[List.getElem_take];have:=hbf m hm';simpa using this
  have hks:kp hd (l.take (i+1))=l.take i:=by
   rw[zyH hd l hi,hki,hp];simp
  simp -implicitDefEqProofs [rW,hw,hm1];refine zk8 (KD h hd l id A c i) (fun x s=>x= .exit 0/\KE h hd l id c s) ?_ (l.length - (i+1)) _ ?_ ?_
  ·rintro k' s ⟨j,R,hj1,hj2,rfl,hlt,⟨h0,h1,h5,h6⟩,gE,hRl,hRt,hRd,hf,hc3,hl3⟩
   by_cases hjl:j<l.length
   ·have hwj:=zaC j (by omega);have hks2:=zyH hd l hjl;have hrj:(za3 R)[j]? =some [.f (.s l[j])]:=by
     have:R[j]? =some l[j]:=by rw[hRd j (Nat.le_refl _)];exact List.getElem?_eq_getElem hjl
     simp[za3,this]
    generalize hX:l[j]=X at hks2 hrj;generalize hN:kp hd (l.take j)=N at*;have hwN:=zaC N.length (by omega);simp -implicitDefEqProofs [rW,h0,h1,h5,h6,hjl,gE,hrj];refine zdg (d:= .f (.b (inH hd X))) ?_ ?_ ?_
    ·simp only[rG];exact ro73 hd X hh (by rw[hf A hA hAi];exact gA) (by omega)
    ·simp only[rG];omega
    intro mx;cases hb:inH hd X with
    |true=>
     rw[hb]at hks2;simp only[if_true,List.append_nil]at hks2;simp -implicitDefEqProofs [rW,h0,h1,h5,h6,hwj];rw[zdK];refine⟨l.length - (j+1),by omega,j+1,R,by omega,hjl,rfl,by rw[hks2];omega,?_,?_,hRl,by rw[hks2];exact hRt,fun q hq=>hRd q (by omega),fun x h1 h2=> ?_,?_,?_⟩
     ·rw[hks2];simp -implicitDefEqProofs [rW,h0,h1,h5,h6,hwj]
     ·simp -implicitDefEqProofs [rW,gE]
     ·simp -implicitDefEqProofs [rW,];exact hf x h1 h2
     ·simp -implicitDefEqProofs [rW,];exact hc3
     ·simp -implicitDefEqProofs [rW,];exact hl3
    |false=>
     rw[hb]at hks2;simp only[Bool.false_eq_true,if_false]at hks2;have hNl:N.length<l.length:=by omega
     have hxN:(za3 R)[N.length]? =some [.f (.s (R[N.length]'(by omega)))]:=by
      have:N.length<R.length:=by omega
      simp[za3,this]
     have hset:(za3 R).set N.length [.f (.s X)]=za3 (R.set N.length X):=by simp[za3,List.map_set]
     simp -implicitDefEqProofs [rW,h0,h1,h5,h6,hwj,hwN,gE,hNl,hxN,ztB,hset];refine⟨by omega,?_⟩;rw[zdK];have hl1:(N++[X]).length=N.length+1:=by simp
     refine⟨l.length - (j+1),by omega,j+1,R.set N.length X,by omega,hjl,rfl,by rw[hks2,hl1];omega,?_,?_,by simpa using hRl,?_,fun q hq=> ?_,fun x h1 h2=> ?_,?_,?_⟩
     ·rw[hks2,hl1];simp -implicitDefEqProofs [rW,h0,h1,h5,h6]
     ·simp -implicitDefEqProofs [rW,]
     ·rw[hks2,hl1,List.take_add_one,List.take_set_of_le (Nat.le_refl _),hRt,List.getElem?_set_self (by omega)];rfl
     ·rw[List.getElem?_set_ne (by omega)];exact hRd q (by omega)
     ·simp -implicitDefEqProofs [rW,h2];exact hf x h1 h2
     ·simp -implicitDefEqProofs [rW,];exact hc3
     ·simp -implicitDefEqProofs [rW,]
      repeat refine Nat.le_trans (zbv _ _).1 ?_
      omega
   ·have hje:j=l.length:=by omega
    subst hje;rw[List.take_length]at h5 hRt;simp -implicitDefEqProofs [rW,h0,h1,h5,h6];refine⟨R,?_,gE,hRl,hRt,hf,hc3⟩;simp -implicitDefEqProofs [rW,h0,h5]
  ·refine⟨i+1,l,Nat.le_refl _,hi,rfl,?_,?_,?_,rfl,?_,fun q _=>rfl,fun x _ _=> ?_,?_,?_⟩
   ·rw[hks,List.length_take];omega
   ·have:(l.take i).length=i:=by simp;omega
    rw[hks,this];simp -implicitDefEqProofs [rW,]
   ·simp -implicitDefEqProofs [rW,gI]
   ·rw[hks,List.length_take,Nat.min_eq_left (by omega)]
   ·simp -implicitDefEqProofs [rW,]
   ·simp -implicitDefEqProofs [rW,]
   ·simp -implicitDefEqProofs [rW,]
  ·rintro x s ⟨rfl,R,⟨h0,h5⟩,gE,hRl,hRt,hf,hc3⟩;have hcl:=zEC hd l;have hsum:(kp hd l).length+(l.length - (kp hd l).length)=l.length:=by omega
   have hrow:List.take (kp hd l).length (za3 R)++(List.replicate (l.length - (kp hd l).length) [D.f (F.s [])]++List.drop l.length (za3 R))=za3 (kp hd l++List.replicate (l.length - (kp hd l).length) []):=by
    rw[List.drop_of_length_le (by rw[zeI];omega),List.append_nil];have:List.take (kp hd l).length (za3 R)=za3 (R.take (kp hd l).length):=by simp[za3,List.map_take]
    rw[this,hRt];simp[za3]
   simp -implicitDefEqProofs [rW,h0,h5,gE,zhZ,zfW,zFy,zs4,hcl,hsum,hRl,zeI,ztB,hrow];refine⟨by omega,?_⟩;simp -implicitDefEqProofs [rW,zbR];refine⟨_,rfl,by rw[List.length_append,List.length_replicate];exact hsum,by rw[List.take_append_of_le_length (Nat.le_refl _),List.take_length],fun x h1 h2=> ?_⟩;rw[if_neg h2];exact hf x h1 h2
end Go.Proofs.YtmnkdfjljkhneaaGreat
end
