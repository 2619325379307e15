/- Tuples compared; a row put into an ascending list. -/
import Derived.Test.YtdonnbdegnkflaaGreatDoorPa
import Derived.KernelRfl
import Derived.IntWalk
import Derived.Test.YtdonnbdegnkflaaGreatDoorPb
set_option linter.all false
set_option maxRecDepth 100000
set_option maxHeartbeats 4000000
noncomputable section
section
namespace Go.Proofs.YtdonnbdegnkflaaGreatDoor
open Go Go.Vse Go.Vse.Sm
def fn46:pr.fn 46=some g46:=by kernel_rfl
def fn34:pr.fn 34=some g34:=by kernel_rfl
def zaO(l:List Int):(valsF l).d= .f (valsF l):=zga ..
def zf5(l:List Int):zd5 (.f (valsF l))=some l.length:=by simp[valsF,zeQ]
def zr2(l:List Int)(n:Nat):iaB 3 (.f (valsF l)) n=(l[n]?).map fun v=>D.fptr (vF v):=by simp[valsF,zfX,Z67]
def Pc(p:List F):Prop:=∃a b c,p=[a,b,c]/\a.d= .f a/\b.d= .f b/\c.d= .f c
def cmpL:List Int->List Int->Int
 |[],[]=>0
 |[],_::_=> -1
 |_::_,[]=>1
 |x::a,y::b=>if x=y then cmpL a b else zcN x y
def zAJ(l:List Int):(zfD l).d= .f (zfD l):=zga ..
def zh8(l:List Int):zd5 (.f (zfD l))=some l.length:=by simp[zfD,zeQ]
def zn9(l:List Int)(n:Nat):iaB 1 (.f (zfD l)) n=(l[n]?).map fun v=>D.fptr [valsF [v]]:=by simp[zfD,zfX,Z67]
theorem zJS:∀(l:List Int) (v:Int) (n:Nat),n<=l.length->(∀w∈l.take n,w<v)->(∀h:n<l.length,v<l[n])->ins l v=l.take n++v::l.drop n
 |[],v,n,_,_,_=>by simp[ins]
 |w::l,v,0,_,_,h=>by
  have:=h (by simp);simp at this;have h1:¬w<v:=by omega
  have h2:¬w=v:=by omega
  simp[ins,h1,h2]
 |w::l,v,n+1,hn,h1,h2=>by
  have:=h1 w (by simp);simp only[ins,this,Z60,Z180,List.drop_succ_cons,Z29,List.cons.injEq,true_and];exact zJS l v n (by simpa using hn) (fun y hy=>h1 y (by simp[hy])) (fun h=>by have:=h2 (by simpa using h);simpa using this)
theorem zAj:∀(l:List Int) (v:Int) (n:Nat) (hn:n<l.length),(∀w∈l.take n,w<v)->l[n]=v->ins l v=l
 |[],v,n,hn,_,_=>by simp at hn
 |w::l,v,0,_,_,h=>by
  simp at h;subst h;simp[ins]
 |w::l,v,n+1,hn,h1,h2=>by
  have:=h1 w (by simp);simp only[ins,this,Z60,List.cons.injEq,true_and];exact zAj l v n (by simpa using hn) (fun y hy=>h1 y (by simp[hy])) (by simpa using h2)
def zL4(a b:Int):cmpL [a] [b]=zcN a b:=by
 simp only[cmpL,zcN];split<;>rfl
def zL2(l:List Int):cmpL [] l=if 0<l.length then -1 else 0:=by cases l<;>simp[cmpL]
def zJl(l:List Int):cmpL l []=if 0<l.length then 1 else 0:=by cases l<;>simp[cmpL]
def J46(a b:List Int)(n:Nat)(s:St):Prop:=n<=a.length/\n<=b.length/\(s.tm.get 0=some (.f (valsF a))/\s.tm.get 1=some (.f (valsF b))/\s.tm.get 5=some (.f (.i .i64 n)))/\cmpL a b=cmpL (a.drop n) (b.drop n)
def zrG(a b:List Int)(hl:a.length<1000):Ans pr 46 [valsF a,valsF b] (.i .i64 (cmpL a b)):=by
 refine zdu fn46 ?_;simp only[g46,rU];simp -implicitDefEqProofs [rW,st0,zao,zaO];refine zfU (fun k s=>∃n:Nat,k=a.length - n/\J46 a b n s) (fun x s=>(x= .ret/\s.tm.get 4=some (.f (.i .i64 (cmpL a b))))\/(x= .exit 0/\∃n:Nat,(n=a.length\/n=b.length)/\J46 a b n s)) ?_ a.length _ ⟨0,rfl,Z61 _,Z61 _,?_,rfl⟩ ?_
 .rintro k s ⟨n,rfl,hn,hn',⟨h0,h1,h5⟩,hA⟩;have hw:=za5 n (by omega)
  by_cases hlt:n<a.length
  .by_cases hlt':n<b.length
   .rw[Z55 hlt,Z55 hlt']at hA;simp only[cmpL]at hA;have hx:a[n]? =some a[n]:=Z0 hlt;have hy:b[n]? =some b[n]:=Z0 hlt';generalize hX:a[n]=x at hx hA;generalize hY:b[n]=y at hy hA;have q:=fun k=>zah (k:=k) (zE4 x y)
    simp only[vF]at q;simp -implicitDefEqProofs [rW,h0,h1,h5,zf5,hlt,hlt'];refine zaC ?_
    by_cases he:x=y
    .have hz:zcN x y=0:=by simp[zcN,he]
     rw[hz]at q;rw[Z51 he]at hA;simp -implicitDefEqProofs [rW,h0,h1,h5,zr2,hx,hy,hX,hY,hlt,hlt',vF,q,hw];rw[zev];refine⟨a.length - (n+1),by omega,n+1,rfl,by omega,by omega,?_,hA⟩;simp -implicitDefEqProofs [rW,h0,h1,hw]
    .have hz:zcN x y≠0:=by
      unfold zcN;rw[Z49 he];split<;>decide
     rw[Z49 he]at hA;generalize zcN x y=z at q hz hA;simp -implicitDefEqProofs [rW,h0,h1,h5,zr2,hx,hy,hX,hY,hlt,hlt',vF,q,hz];exact hA.symm
   .obtain rfl:n=b.length:=by omega
    simp -implicitDefEqProofs [rW,h0,h1,h5,zf5,hlt,hlt'];refine .inr ⟨hn,hn',?_,hA⟩;simp -implicitDefEqProofs [rW,h0,h1,h5]
  .obtain rfl:n=a.length:=by omega
   simp -implicitDefEqProofs [rW,h0,h1,h5,zf5,hlt];refine .inl ⟨hn,hn',?_,hA⟩;simp -implicitDefEqProofs [rW,h0,h1,h5]
 .simp -implicitDefEqProofs [rW,]
 .rintro x s (⟨rfl,h4⟩ |⟨rfl,n,he,hn,hn',⟨h0,h1,h5⟩,hA⟩)
  .simp -implicitDefEqProofs [rW,h4]
  .have hf:cmpL a b=if a.length<b.length then -1 else if b.length<a.length then 1 else 0:=by
    rw[hA];rcases he with rfl|rfl
    .rw[Z206,zL2,List.length_drop]
     by_cases h1:a.length<b.length
     .rw[Z51 (by omega),Z51 h1]
     .rw[Z49 (by omega),Z49 h1,Z49 (by omega)]
    .rw[Z206,zJl,List.length_drop]
     by_cases h1:b.length<a.length
     .rw[Z51 (by omega),Z49 (by omega),Z51 h1]
     .rw[Z49 (by omega),Z49 (by omega),Z49 h1]
   rw[hf]
   by_cases k1:a.length<b.length
   .simp -implicitDefEqProofs [rW,h0,h1,zf5,k1]
   .by_cases k2:b.length<a.length
    .simp -implicitDefEqProofs [rW,h0,h1,zf5,k1,k2]
    .simp -implicitDefEqProofs [rW,h0,h1,zf5,k1,k2]
def GrE(h:T Ob)(lo c es:Nat)(d:D)(els:List (List D)):Prop:=Gro h lo c es d els\/(els=[]/\∃id,d= .sl id 0 0 es 0 true/\h.get id=some (.arr es 0 [])/\lo<=id/\id<c)
def zacp{h:T Ob}{lo c c' es:Nat}{d:D}{els:List (List D)}(hg:GrE h lo c es d els)(hc:c<=c'):GrE h lo c' es d els:=by
 rcases hg with hg|⟨e,id,h1,h2,h3,h4⟩
 .exact .inl (zl2 hg hc fun _ _ _=>rfl)
 .exact .inr ⟨e,id,h1,h2,h3,by omega⟩
theorem zAh{h:T Ob}{lo c es byt:Nat}{d:D}{els new:List (List D)}{rd:List Nat}{K:Rs->Prop}(hg:GrE h lo c es d els)(hlo:lo<=c)(hlen:els.length+new.length<=1000000)(hb:byt<=1000)
  (hK:∀r:Rs,zax r.c r.wr=true->GrE (wrT h r.wr) lo r.c es r.d (els++new)->(new≠[]->Gro (wrT h r.wr) lo r.c es r.d (els++new))->c<=r.c->K r):oB (zcj es byt h.get c d new rd) K:=by
 rcases hg with hg|⟨rfl,id,rfl,hid,h1,h2⟩
 .exact zrQ hg hlo hlen hb fun r r1 r2 r3 _ _=>hK r r1 (.inl r2) (fun _=>r2) r3
 .by_cases h0:new=[]
  .subst h0;rw[zLL];exact hK _ rfl (.inr ⟨rfl,id,rfl,hid,h1,h2⟩) (fun h=>absurd rfl h) (Z2 _)
  .have hn0:new.length≠0:=fun e=>h0 (Z17.1 e)
   have hm:∀n,n<=1000000->n<=zaR:=fun n hn=>by have:=zaU (n:=n) (by omega);simpa using this
   have hmb:new.length*byt<=zaR:=by
    simp only[Z170,Z25]at hlen;have:new.length*byt<=1000000*1000:=Z144 hlen hb;have h3:=zaU (n:=new.length*byt) (by omega);simpa using h3
   rw[zab1 hid hn0 (hm _ (by simpa using hlen)) hmb];have hG:Gro (wrT h [(c,some (.arr es 0 new))]) lo (c+1) es (.sl c 0 new.length es new.length false) ([]++new):= .inr ⟨c,0,rfl,by simpa using h0,by simp[wrT,T.zaM],Z61 _,hlo,by omega⟩;exact hK _ (by simp[zax,Z79]) (.inl hG) (fun _=>hG) (by simp)
def rwE(l:List Int):List (List D):=l.map fun v=>[D.f (valsF [v])]
def zoa(l:List Int):(rwE l).length=l.length:=by simp[rwE]
def zacX{h:T Ob}{lo c:Nat}{d:D}{l:List Int}(hg:Gro h lo c 1 d (rwE l)):∃rd,frz h.get 12 d=some (zfD l,rd):=
 zwa (k:=11) hg (zFJ _ 10 (fun v:Int=>valsF [v]) l) (by simp[rwE])
theorem zxa(l:List Int)(a b:Nat)(h1:a<=b)(h2:b<=l.length):∃x:F,x.d= .f x/\(a=0->∀h:Nat->Option Ob,sliceB 1 h (.f (zfD l)) none (some (.f (.i .i64 b))) none=some (.f x,[]))/\
  (b=l.length->∀h:Nat->Option Ob,sliceB 1 h (.f (zfD l)) (some (.f (.i .i64 a))) none none=some (.f x,[]))/\∀h:Nat->Option Ob,elemsOf 1 h (.f x)=some (rwE ((l.drop a).take (b - a)),[]):=by
 obtain⟨x,hx,-,h3,h4,h5⟩ :=zNs (es:=1) (l.map fun v=>[valsF [v]]) a b h1 (by simpa using h2);refine⟨x,hx,fun e h=>h3 e h,fun e h=>h4 (by simpa using e) h,fun h=> ?_⟩;rw[h5,<-List.map_drop,<-Z149,Z33];rfl
def ans34(l:List Int)(v:Int)(hl:l.length<100000):Ans pr 34 [zfD l,valsF [v]] (zfD (ins l v)):=by
 refine zdu fn34 ?_;simp only[g34,rU];have q46:∀w (k:F->Prop),aB pr 46 [valsF [w],valsF [v]] k↔k (.i .i64 (zcN w v)):=fun w k=>zah (by rw[<-zL4];exact zrG [w] [v] (by simp))
 have hv:(D.f (valsF [v])).cells=some [.f (valsF [v])]:=zfz ..;have hd:(valsF [v]).d= .f (valsF [v]):=zga ..;generalize hV:valsF [v]=V at q46 hv hd|-;simp -implicitDefEqProofs [rW,st0,zao,zAJ,hd];refine zfU (fun k s=>∃n:Nat,n<=l.length/\k=l.length - n/\(s.tm.get 0=some (.f (zfD l))/\s.tm.get 1=some (.f V)/\s.tm.get 5=some (.f (.i .i64 n)))/\∀w∈l.take n,w<v) (fun x s=>x= .exit 0/\∃n:Nat,n<=l.length/\(s.tm.get 0=some (.f (zfD l))/\s.tm.get 1=some (.f V)/\s.tm.get 5=some (.f (.i .i64 n)))/\(∀w∈l.take n,w<v)/\∀h:n<l.length,v<=l[n]) ?_ l.length _ ⟨0,Z61 _,rfl,?_,by simp⟩ ?_
 .rintro k s ⟨n,hn,rfl,⟨h0,h1,h5⟩,hA⟩;have hw:=za5 n (by omega)
  by_cases hlt:n<l.length
  .have hx:l[n]? =some l[n]:=Z0 hlt;have hk2:=Z6 hlt
   by_cases hv2:l[n]<v
   .have hc:zcN l[n] v<0:=by rw[zrM];exact hv2
    generalize hW:l[n]=w at hx hk2 hv2 hc;simp -implicitDefEqProofs [rW,h0,h1,h5,zh8,zn9,hlt,hx,hW,q46,hc,hw];rw[zev];refine⟨l.length - (n+1),by omega,n+1,by omega,rfl,?_,fun y hy=> ?_⟩
    .simp -implicitDefEqProofs [rW,h0,h1,hw]
    .rw[hk2]at hy;rcases Z4.1 hy with hy|hy
     .exact hA y hy
     .have:y=w:=by simpa using hy
      rw[this];exact hv2
   .have hc:¬zcN l[n] v<0:=by rw[zrM];exact hv2
    have hge:∀h:n<l.length,v<=l[n]:=fun _=>by omega
    generalize hW:l[n]=w at hx hv2 hc;simp -implicitDefEqProofs [rW,h0,h1,h5,zh8,zn9,hlt,hx,hW,q46,hc];refine⟨n,hn,?_,hA,hge⟩;simp -implicitDefEqProofs [rW,h0,h1,h5]
  .simp -implicitDefEqProofs [rW,h0,h1,h5,zh8,hlt];refine⟨n,hn,?_,hA,fun h=>absurd h hlt⟩;simp -implicitDefEqProofs [rW,h0,h1,h5]
 .simp -implicitDefEqProofs [rW,]
 .rintro x s ⟨rfl,n,hn,⟨h0,h1,h5⟩,hA,hge⟩
  by_cases he:∃h:n<l.length,l[n]=v
  .obtain⟨hlt,hv2⟩ :=he;rw[zAj l v n hlt hA hv2];have hx:l[n]? =some v:=by rw[Z0 hlt,hv2]
   have hc:zcN v v=0:=by simp[zcN]
   simp -implicitDefEqProofs [rW,h0,h1,h5,zh8,zn9,hlt,hx,hv2,q46,hc,zAJ]
  .have hins:=zJS l v n hn hA fun h=>by
    have:=hge h;have:l[n]≠v:=fun e=>he ⟨h,e⟩
    omega
   obtain⟨X,hX,hX1,-,hX3⟩ :=zxa l 0 n (Z61 _) hn;obtain⟨Z,hZ,-,hZ2,hZ3⟩ :=zxa l n l.length hn (Z2 _);have hX2:=hX1 rfl;have hZ1:=hZ2 rfl;rw[Z34,Nat.sub_zero]at hX3;have hZe:(l.drop n).take (l.length - n)=l.drop n:=by rw[<-List.length_drop,Z7]
   rw[hZe]at hZ3;have hP:(l.take n).length<=100000:=by simp;omega
   have hQ:(l.drop n).length<=100000:=by simp;omega
   rw[hins];generalize l.take n=P at hX3 hP hA|-;generalize l.drop n=R at hZ3 hQ|-;have fin:∀(S:St) (d6:D) (lo:Nat),(S.tm.get 0=some (.f (zfD l))/\S.tm.get 1=some (.f V)/\S.tm.get 5=some (.f (.i .i64 n))/\S.tm.get 6=some (d6))->GrE S.h lo S.c 1 d6 (rwE P)->lo<=S.c->WD pr [(oM 41 6,0),(oM 42 1,1),(oM 45 0,3),(oM 46 5,7),(oR 47 (.slc 1 (.t 45) (some (.t 46)) none none),3),(oR 43 (.bsf 1 [.nils] 1 [(0,(.t 42))]),29),(oR 44 (.app 1 24 (.t 41) (.t 43)),28),(oR 48 (.app 1 24 (.t 44) (.t 47)),0),(oM 4 48,0)] S (sq pr C.ret (zv5 [Rv.t 4] (zfD (P++v::R)))):=by
    clear h0 h1 h5 hge hX hX1 hX2 hX3;rintro S d6 lo ⟨h0,h1,h5,h6⟩ hg hlo;refine zaC ?_;simp only[rU];simp -implicitDefEqProofs [zkI,Z67,Z79,zhK,zhz,zhA,zhy,zhu,zhv,zht,zhB,zhH,zhJ,zhD,zhN,zhO,zhL,h0,h1,h5,h6,hZ1,hZ3,hZ,hv];refine zAh (zacp hg (by omega)) (by omega) (by rw[zoa];simp;omega) (by omega) ?_;rintro r hr1 - hr2 hr3;refine⟨hr1,⟨by rw[zMk];trivial,by rw[zMk];trivial⟩,?_⟩;refine zrQ (zl2 (c':=r.c+1) (hr2 (by simp)) (by omega) fun _ _ _=>rfl) (by omega) (by rw[Z16,zoa,zoa];simp;omega) (by omega) ?_;intro r2 s1 s2 s3 _ _;refine⟨s1,?_⟩;have e:rwE P++[[D.f V]]++rwE R=rwE (P++v::R):=by rw[<-hV];simp[rwE]
    rw[e]at s2;obtain⟨rd,hf⟩ :=zacX s2;rw[hf];rfl
   by_cases hlt:n<l.length
   .have hx:l[n]? =some l[n]:=Z0 hlt;have hc:¬zcN l[n] v=0:=by
     have:l[n]≠v:=fun e=>he ⟨hlt,e⟩
     unfold zcN;rw[Z49 this];split<;>decide
    generalize hW:l[n]=w at hx hc;simp -implicitDefEqProofs [zkI,Z67,Z79,zhK,zhz,zhA,zhy,zhu,zhv,zht,zhB,zhH,zhJ,zhD,zhN,zhO,zhL,h0,h1,h5,zh8,zn9,hlt,hx,hW,q46,hc,hX2,hX3,hX];refine zAh (lo:=s.c) (.inr ⟨rfl,s.c,rfl,by simp[TG],Z2 _,by omega⟩ :GrE _ s.c (s.c+1) 1 _ []) (by omega) (by rw[zoa];simp;omega) (by omega) ?_;intro r hr1 hr2 _ hr3;refine⟨hr1,fin _ r.d s.c ?_ ?_ ?_⟩
    .simp -implicitDefEqProofs [zkI,Z67,Z79,zhK,zhz,zhA,zhy,zhu,zhv,zht,zhB,zhH,zhJ,zhD,zhN,zhO,zhL,h0,h1,h5]
    .simp -implicitDefEqProofs [zkI,Z67,Z79,zhK,zhz,zhA,zhy,zhu,zhv,zht,zhB,zhH,zhJ,zhD,zhN,zhO,zhL,];exact hr2
    .simp -implicitDefEqProofs [zkI,Z67,Z79,zhK,zhz,zhA,zhy,zhu,zhv,zht,zhB,zhH,zhJ,zhD,zhN,zhO,zhL,];omega
   .simp -implicitDefEqProofs [zkI,Z67,Z79,zhK,zhz,zhA,zhy,zhu,zhv,zht,zhB,zhH,zhJ,zhD,zhN,zhO,zhL,h0,h1,h5,zh8,hlt,hX2,hX3,hX];refine zAh (lo:=s.c) (.inr ⟨rfl,s.c,rfl,by simp[TG],Z2 _,by omega⟩ :GrE _ s.c (s.c+1) 1 _ []) (by omega) (by rw[zoa];simp;omega) (by omega) ?_;intro r hr1 hr2 _ hr3;refine⟨hr1,fin _ r.d s.c ?_ ?_ ?_⟩
    .simp -implicitDefEqProofs [zkI,Z67,Z79,zhK,zhz,zhA,zhy,zhu,zhv,zht,zhB,zhH,zhJ,zhD,zhN,zhO,zhL,h0,h1,h5]
    .simp -implicitDefEqProofs [zkI,Z67,Z79,zhK,zhz,zhA,zhy,zhu,zhv,zht,zhB,zhH,zhJ,zhD,zhN,zhO,zhL,];exact hr2
    .simp -implicitDefEqProofs [zkI,Z67,Z79,zhK,zhz,zhA,zhy,zhu,zhv,zht,zhB,zhH,zhJ,zhD,zhN,zhO,zhL,];omega
def fn28:pr.fn 28=some g28:=by kernel_rfl
def fn27:pr.fn 27=some g27:=by kernel_rfl
def fn11:pr.fn 11=some g11:=by kernel_rfl
def zfv(l:List Rl):F:=slc 4 (l.map rlF)
def zfV(l:List Rl):(zfv l).d= .f (zfv l):=zga ..
def zrW(l:List Rl):zd5 (.f (zfv l))=some l.length:=by simp[zfv,zeQ]
def zn6(l:List Rl)(n:Nat):iaB 4 (.f (zfv l)) n=(l[n]?).map fun t=>D.fptr (rlF t):=by simp[zfv,zfX,Z67]
def zkk(l:List (List Int×List F)):F:=slc 4 (l.map tuF)
def zTm(l:List (List Int×List F)):(zkk l).d= .f (zkk l):=zga ..
def zr1(l:List (List Int×List F)):zd5 (.f (zkk l))=some l.length:=by simp[zkk,zeQ]
def zva(l:List (List Int×List F))(n:Nat):iaB 4 (.f (zkk l)) n=(l[n]?).map fun t=>D.fptr (tuF t):=by simp[zkk,zfX,Z67]
def rlE(r:Rl):rlF r=[.s r.nm,.b r.ce,r.co,zkk r.tu]:=rfl
structure RlK(r:Rl):Prop where
 co:r.co.d= .f r.co
 cc:(D.f r.co).cells=some [.f r.co]
 cl:zd5 (.f r.co)=some (cnF r.co)
 tn:r.tu.length<=3
 tp:∀t∈r.tu,Pc t.2/\t.1.length<=10
theorem zj9{α β:Type}(f:α->List β)(m:Nat):∀(l:List α),(∀a∈l,(f a).length<=m)->(l.flatMap f).length<=m*l.length
 |[],_=>by simp
 |a::l,h=>by
  have h1:=h a (by simp);have h2:=zj9 f m l fun b hb=>h b (by simp[hb])
  rw[Z92,Z16,Z23,Z179];omega
def ro28(r:Rl)(hr:RlK r)(a:Atm){h:T Ob}{c P:Nat}(gP:h.get P=some (.arr 3 0 [atD a]))(hP:P<c):RO pr 28 [.ag [.f (.s r.nm),.f (.b r.ce),.f r.co,.f (zkk r.tu)],.ptr P 3 0 0] h c (.f (.b (r.nm==a.r))):=by
 refine zjh zfb fn28 rfl ?_;simp only[g28,rU];have nP:¬P=c:=by omega
 have htc:(D.f (zkk r.tu)).cells=some [.f (zkk r.tu)]:=zfz ..;simp only[atD]at gP;simp -implicitDefEqProofs [rW,st0,zao,hr.cc,htc,gP,nP,ze1];simp (disch:=omega) only[zr3,zrh]
def ro27(l:List Rl)(a:Atm)(hl:l.length<1000)(hr:∀r∈l,RlK r){h:T Ob}{c P:Nat}(gP:h.get P=some (.arr 3 0 [atD a]))(hP:P<c):RO pr 27 [.f (zfv l),.fn 28 [] [.ptr P 3 0 0]] h c (.f (.i .i64 (ixP l (fun r=>r.nm==a.r)))):=by
 refine zjh zfb fn27 rfl ?_;simp only[g27,rU];simp -implicitDefEqProofs [rW,st0,zao,zrW];refine zlt l (fun r=>r.nm==a.r) (fun n s=>(s.tm.get 0=some (.f (zfv l))/\s.tm.get 1=some (.fn 28 [] [.ptr P 3 0 0])/\s.tm.get 7=some (.f (.i .i64 l.length))/\s.tm.get 8=some (.f (.i .i64 n)))/\s.h=h/\s.c=c/\s.lw=c) (fun x s=>x= .exit 0/\s.lw=c) (fun n y s=>y= .ret/\s.tm.get 4=some (.f (.i .i64 n))/\s.lw=c) ?_ ?_ _ ?_ ?_ ?_
 .rintro n s hn ⟨⟨h0,h1,h7,h8⟩,eh,ec,el⟩;have hw:=za5 n (by omega);have hx:l[n]? =some l[n]:=Z0 hn;have hk:=hr _ (Z1 hn);generalize hA:l[n]=A at hx hk|-;simp -implicitDefEqProofs [rW,h0,h1,h7,h8,hn,zn6,hx,hA,rlE];refine zjm (d:= .f (.b (A.nm==a.r))) ?_ ?_ ?_
  .simp only[rG];rw[eh,ec];exact ro28 A hk a gP hP
  .simp only[rG];omega
  .intro mx
   by_cases hb:A.nm=a.r
   .simp -implicitDefEqProofs [rW,h0,h1,h7,h8,hb,el]
   .simp -implicitDefEqProofs [rW,h0,h1,h7,h8,hb,hw,eh,ec,el]
 .rintro s ⟨⟨h0,h1,h7,h8⟩,eh,ec,el⟩;simp -implicitDefEqProofs [rW,h0,h1,h7,h8,el]
 .simp -implicitDefEqProofs [rW,st0,zao]
 .rintro h z s ⟨rfl,el⟩;rw[zuK h];simp -implicitDefEqProofs [rW,ze1,el]
 .rintro n hn hp hm z s ⟨rfl,h4,el⟩;rw[zuM hn hp hm];simp -implicitDefEqProofs [rW,h4,ze1,el]
def zh4(tu:List (List Int×List F))(x:Str)(ts:List Trm)(i:Nat):List Int:=(List.range i).flatMap fun i=>if ts[i]? =some (.var x)then tu.filterMap fun t=>t.1[i]? else[]
def zqu(tu:List (List Int×List F))(x:Str)(ts:List Trm)(i:Nat):zh4 tu x ts (i+1)=zh4 tu x ts i++if ts[i]? =some (.var x)then tu.filterMap (fun t=>t.1[i]?)else[]:=by
 unfold zh4;rw[Z136,Z183,List.flatMap_singleton]
def zsm{tu:List (List Int×List F)}(h:tu.length<=3)(x:Str)(ts:List Trm)(i:Nat):(zh4 tu x ts i).length<=3*i:=by
 unfold zh4;have:=zj9 (fun i=>if ts[i]? =some (.var x)then tu.filterMap fun t=>t.1[i]? else[]) 3 (List.range i) fun a _=>by
  split
  .have:=List.length_filterMap_le (fun t:List Int×List F=>t.1[a]?) tu;omega
  .simp
 simpa using this
def wl0(l:List (Nat×Option Ob)):zeW 0 l=0:=Nat.le_zero.1 (zTM 0 l)
def DB(l:List Rl)(x:Str)(ns:List Int)(s:St):Prop:=∃dv,(s.tm.get 0=some (.f (zfv l))/\s.tm.get 2=some (.f (.s x))/\s.tm.get 7=some (dv))/\Gro s.h 1 s.c 3 dv (vE ns)/\GZ s.h dv/\1<=s.c/\s.lw=0
def DB.up{l:List Rl}{x:Str}{ns:List Int}{s S:St}(H:DB l x ns s)(hc:s.c<=S.c)(hh:∀y,y<s.c->S.h.get y=s.h.get y)(t0:S.tm.get 0=s.tm.get 0)(t2:S.tm.get 2=s.tm.get 2)(t7:S.tm.get 7=s.tm.get 7)(tl:s.lw=0->S.lw=0):DB l x ns S:=by
 obtain⟨dv,⟨h0,h2,h7⟩,hg,hz,hlo,hlw⟩ :=H;refine⟨dv,⟨t0.trans h0,t2.trans h2,t7.trans h7⟩,zl2 hg hc fun y _ hy=>hh y hy,fun i es ro els h1 h2=> ?_,by omega,tl hlw⟩;have:=zwc hg h1;rw[hh i this.2]at h2;exact hz i es ro els h1 h2
def D0(l:List Rl)(x:Str)(L:List CQ)(n:Nat)(s:St):Prop:=DB l x (zeE l x (L.take n)) s/\s.tm.get 18=some (.f (qsF L))/\s.tm.get 19=some (.f (.i .i64 L.length))/\s.tm.get 20=some (.f (.i .i64 n))
def D2(l:List Rl)(x:Str)(L:List CQ)(n:Nat)(q:CQ)(ns:List Int)(k:Nat)(s:St):Prop:=DB l x (ns++(q.as.take k).flatMap (zdN l x)) s/\s.tm.get 18=some (.f (qsF L))/\s.tm.get 19=some (.f (.i .i64 L.length))/\s.tm.get 20=some (.f (.i .i64 n))/\s.tm.get 25=some (.f (zgO q))/\s.tm.get 26=some (.f (.i .i64 q.as.length))/\s.tm.get 27=some (.f (.i .i64 k))
def D4(l:List Rl)(x:Str)(L:List CQ)(n:Nat)(q:CQ)(k:Nat)(ns:List Int)(N:Nat)(tu:List (List Int×List F))(ts:List Trm)(i:Nat)(s:St):Prop:=DB l x (ns++zh4 tu x ts i) s/\s.tm.get 18=some (.f (qsF L))/\s.tm.get 19=some (.f (.i .i64 L.length))/\s.tm.get 20=some (.f (.i .i64 n))/\s.tm.get 25=some (.f (zgO q))/\s.tm.get 26=some (.f (.i .i64 q.as.length))/\s.tm.get 27=some (.f (.i .i64 k))/\s.tm.get 12=some (.f (.i .i64 N))/\s.tm.get 54=some (.f (zmM ts))/\s.tm.get 55=some (.f (.i .i64 ts.length))/\s.tm.get 56=some (.f (.i .i64 i))
def D6(l:List Rl)(x:Str)(L:List CQ)(n:Nat)(q:CQ)(k:Nat)(ns:List Int)(N:Nat)(tu:List (List Int×List F))(ts:List Trm)(i m:Nat)(s:St):Prop:=DB l x (ns++(tu.take m).filterMap fun t=>t.1[i]?) s/\s.tm.get 18=some (.f (qsF L))/\s.tm.get 19=some (.f (.i .i64 L.length))/\s.tm.get 20=some (.f (.i .i64 n))/\s.tm.get 25=some (.f (zgO q))/\s.tm.get 26=some (.f (.i .i64 q.as.length))/\s.tm.get 27=some (.f (.i .i64 k))/\s.tm.get 12=some (.f (.i .i64 N))/\s.tm.get 54=some (.f (zmM ts))/\s.tm.get 55=some (.f (.i .i64 ts.length))/\s.tm.get 56=some (.f (.i .i64 i))/\s.tm.get 13=some (.f (.i .i64 i))/\s.tm.get 74=some (.f (zkk tu))/\s.tm.get 75=some (.f (.i .i64 tu.length))/\s.tm.get 76=some (.f (.i .i64 m))
def zya:C:=(oZ [oR 77 (.bin .lss (.t 76) (.t 75))]
 (.seq (.cond (.t 77) .skip (.exit 6))
 (.seq (.blk 7 (oZ [oI 78 4 74 76,oL 79 4 78,oR 16 (.new [.nils,.b false,.nils,.nils]),oS 4 16 79]
 (oD [oM 80 13,oF 81 0 16,oK 82 1 81,oR 83 (.len (.t 82)),oR 84 (.bin .lss (.t 80) (.t 83))] 84 (.reg [oM 85 7,oF 86 0 16,oK 87 1 86,oM 88 13,oI 89 3 87 88,oL 90 3 89,oR 91 (.bsf 3 [.i .i64 0,.i .i64 0,.s []] 1 [(0,(.t 90))]),oR 92 (.app 3 32 (.t 85) (.t 91)),oM 7 92]) .skip)))
 (.reg [oR 93 (.bin .add (.t 76) (.k (.i .i64 1))),oM 76 93]))))
def zx9:C:=(oZ [oR 57 (.bin .lss (.t 56) (.t 55))]
 (.seq (.cond (.t 57) .skip (.exit 4))
 (.seq (.blk 5 (oZ [oM 58 56,oI 59 4 54 56,oL 60 4 59,oR 14 (.new [.s [],.i .i64 0,.i .i64 0,.s []]),oM 13 58,oS 4 14 60]
 (.seq (oD [oF 61 0 14,oK 62 1 61,oR 63 (.bin .eql (.t 62) (.k (.s []))),oM 64 63,oH 65 64 (.fa 0 (.t 14)),oH 66 64 (.ld false 1 (.t 65)),oH 67 64 (.mv (.t 2)),oH 68 64 (.bin .neq (.t 66) (.t 67)),oR 69 (.pick (.t 64) (.k (.b true)) (.t 68))] 69 (.exit 5) .skip)
 (oZ [oM 70 0,oM 71 12,oI 72 4 70 71,oF 73 3 72,oK 74 1 73,oR 75 (.len (.t 74)),oR 76 (.mv (.k (.i .i64 0)))]
 (.blk 6 (.loop zya))))))
 (.reg [oR 94 (.bin .add (.t 56) (.k (.i .i64 1))),oM 56 94]))))
def zx8:C:=(oZ [oR 28 (.bin .lss (.t 27) (.t 26))]
 (.seq (.cond (.t 28) .skip (.exit 2))
 (.seq (.blk 3 (oZ [oI 29 3 25 27,oL 30 3 29,oR 11 (.new [.s [],.b false,.nils]),oS 3 11 30]
 (oZ [oM 31 0,oR 32 (.mkf 28 [] [(.t 11)]),oR 33 (.call 27 [(.t 31),(.t 32)]),oM 12 33]
 (.seq (.seq (.dreg [(oF 34 1 11,0),(oK 35 1 34,0),(oM 36 35,0),(oH 37 36 (.mv (.t 12)),0),(oH 38 36 (.bin .lss (.t 37) (.k (.i .i64 0))),0),(oR 39 (.pick (.t 36) (.k (.b true)) (.t 38)),0),(oM 40 39,0),(oH 41 40 (.fa 2 (.t 11)),0),(oH 42 40 (.ld false 1 (.t 41)),0),(oH 43 40 (.len (.t 42)),0),(oH 44 40 (.mv (.t 0)),896),(oH 45 40 (.mv (.t 12)),1920),(oH 46 40 (.ia 4 (.t 44) (.t 45)),896),(oH 47 40 (.fa 0 (.t 46)),896),(oH 48 40 (.fa 2 (.t 47)),896),(oH 49 40 (.ld false 1 (.t 48)),896),(oH 50 40 (.len (.t 49)),896),(oH 51 40 (.bin .neq (.t 43) (.t 50)),0),(oR 52 (.pick (.t 40) (.k (.b true)) (.t 51)),0)])
 (.cond (.t 52) (.exit 3) .skip))
 (oZ [oF 53 2 11,oK 54 1 53,oR 55 (.len (.t 54)),oR 56 (.mv (.k (.i .i64 0)))]
 (.blk 4 (.loop zx9)))))))
 (.reg [oR 95 (.bin .add (.t 27) (.k (.i .i64 1))),oM 27 95]))))
def zFb:C:=(oZ [oR 21 (.bin .lss (.t 20) (.t 19))]
 (.seq (.cond (.t 21) .skip (.exit 0))
 (.seq (.blk 1 (oZ [oI 22 2 18 20,oL 23 2 22,oR 9 (.new [.nils,.nils]),oS 2 9 23]
 (oZ [oF 24 0 9,oK 25 1 24,oR 26 (.len (.t 25)),oR 27 (.mv (.k (.i .i64 0)))]
 (.blk 2 (.loop zx8)))))
 (.reg [oR 96 (.bin .add (.t 20) (.k (.i .i64 1))),oM 20 96]))))
def l6(l:List Rl)(x:Str)(L:List CQ)(n:Nat)(q:CQ)(k:Nat)(ns:List Int)(N:Nat)(tu:List (List Int×List F))(ts:List Trm)(i:Nat)(htn:tu.length<=3)(htp:∀t∈tu,Pc t.2/\t.1.length<=10)(hns:ns.length<10000){Q:Ex->St->Prop}(s:St)(h:D6 l x L n q k ns N tu ts i 0 s)(hQ:∀s,D6 l x L n q k ns N tu ts i tu.length s->Q (.exit 6) s):WL pr zya s Q:=by
 refine zjr tu.length (D6 l x L n q k ns N tu ts i) (fun e s=>e= .exit 6/\D6 l x L n q k ns N tu ts i tu.length s) ?_ ?_ _ h (by rintro e s ⟨rfl,h⟩;exact hQ s h)
 .clear h hQ s;rintro m s hm ⟨hB,h18,h19,h20,h25,h26,h27,h12,h54,h55,h56,h13,h74,h75,h76⟩;unfold zya;simp only[rU];have hw:=za5 m (by omega);have hx:tu[m]? =some tu[m]:=Z0 hm;have hk2:=Z6 hm;obtain⟨hp,ht10⟩ :=htp _ (Z1 hm);have hfl:=List.length_filterMap_le (fun t:List Int×List F=>t.1[i]?) (tu.take m);rw[Z41]at hfl;generalize hT:tu[m]=t at hx hk2 hp ht10;obtain⟨vs,p⟩ :=t;obtain⟨p0,p1,p2,rfl,d0,d1,d2⟩ :=hp;have hsp:(tu.take (m+1)).filterMap (fun t:List Int×List F=>t.1[i]?)=(tu.take m).filterMap (fun t=>t.1[i]?)++[(vs,[p0,p1,p2])].filterMap fun t:List Int×List F=>t.1[i]? :=by
   rw[hk2,List.filterMap_append]
  generalize (tu.take m).filterMap (fun t:List Int×List F=>t.1[i]?)=na at*;have htu:tuF (vs,[p0,p1,p2])=[valsF vs,p0,p1,p2]:=rfl;have hng:∀y,y<s.c->¬y=s.c:=fun y h=>by omega
  by_cases hi:i<vs.length
  .have hxi:vs[i]? =some vs[i]:=Z0 hi;generalize hV:vs[i]=v at hxi;have hsp2:[(vs,[p0,p1,p2])].filterMap (fun t:List Int×List F=>t.1[i]?)=[v]:=by simp[hxi]
   rw[hsp2]at hsp;obtain⟨dv,⟨h0,h2,h7⟩,hg,hz,hlo,hlw⟩ :=hB;simp -implicitDefEqProofs [rW,h0,h2,h7,h13,h74,h75,h76,hm,zva,hx,hT,htu,zf5,zr2,hi,hxi,hV,vF];refine zZR (zl2 (c':=s.c+1) hg (by omega) fun y h1 h2=> ?_) (fun j es ro els h1 h2=> ?_) (by omega) (by rw[zfZ];simp;omega) (by omega) ?_
   .simp[TG,hng y h2]
   .have:=zwc hg h1;simp[TG,hng j this.2]at h2;exact hz j es ro els h1 h2
   intro r hr1 hr2 hr3 hr4 hr5 hr6;refine⟨hr1,?_⟩;simp -implicitDefEqProofs [rW,h0,h2,h13,h74,h75,h76,hw];refine⟨⟨r.d,⟨?_,?_,?_⟩,?_,?_,?_,?_⟩,?_⟩
   .simp -implicitDefEqProofs [rW,h0]
   .simp -implicitDefEqProofs [rW,h2]
   .simp -implicitDefEqProofs [rW,]
   .rw[hsp,<-Z32];have e:vE (ns++na++[v])=vE (ns++na)++[[.f (.i .i64 1),.f (.i .i64 v),.f (.s [])]]:=by simp[vE,vD]
    rw[e];simp -implicitDefEqProofs [rW,];exact hr2
   .simp -implicitDefEqProofs [rW,];exact hr6
   .simp -implicitDefEqProofs [rW,]<;>omega
   .simp -implicitDefEqProofs [rW,hlw,wl0]
   .simp -implicitDefEqProofs [rW,h18,h19,h20,h25,h26,h27,h12,h54,h55,h56,h13,h74,h75,h76,hw]
  .have hsp2:[(vs,[p0,p1,p2])].filterMap (fun t:List Int×List F=>t.1[i]?)=[]:=by
    have:vs[i]? =none:=Z97 (by omega);simp[this]
   rw[hsp2,Z22]at hsp;simp -implicitDefEqProofs [rW,h13,h74,h75,h76,hm,zva,hx,hT,htu,zf5,hi,hw];refine⟨?_,?_⟩
   .rw[hsp];exact hB.up (by simp -implicitDefEqProofs [rW,]<;>omega) (fun y hy=>by simp -implicitDefEqProofs [rW,hng y hy]) (by simp -implicitDefEqProofs [rW,]) (by simp -implicitDefEqProofs [rW,]) (by simp -implicitDefEqProofs [rW,]) (fun e=>by simp -implicitDefEqProofs [rW,e,wl0])
   .simp -implicitDefEqProofs [rW,h18,h19,h20,h25,h26,h27,h12,h54,h55,h56,h13,h74,h75,h76,hw]
 .rintro s ⟨hB,h18,h19,h20,h25,h26,h27,h12,h54,h55,h56,h13,h74,h75,h76⟩;unfold zya;simp only[rU];simp -implicitDefEqProofs [rW,h13,h74,h75,h76];refine⟨?_,?_⟩
  .exact hB.up (by simp -implicitDefEqProofs [rW,]) (fun y hy=>by simp -implicitDefEqProofs [rW,]) (by simp -implicitDefEqProofs [rW,]) (by simp -implicitDefEqProofs [rW,]) (by simp -implicitDefEqProofs [rW,]) (fun e=>by simp -implicitDefEqProofs [rW,e,wl0])
  .simp -implicitDefEqProofs [rW,h18,h19,h20,h25,h26,h27,h12,h54,h55,h56,h13,h74,h75,h76]
def l4(l:List Rl)(x:Str)(L:List CQ)(n:Nat)(q:CQ)(k:Nat)(ns:List Int)(N:Nat)(r:Rl)(hN:l[N]? =some r)(hr:RlK r)(ts:List Trm)(hts:∀t∈ts,zaN t)(htl:ts.length<=2)(hns:ns.length<1000){Q:Ex->St->Prop}(s:St)(h:D4 l x L n q k ns N r.tu ts 0 s)(hQ:∀s,D4 l x L n q k ns N r.tu ts ts.length s->Q (.exit 4) s):WL pr zx9 s Q:=by
 refine zjr ts.length (D4 l x L n q k ns N r.tu ts) (fun e s=>e= .exit 4/\D4 l x L n q k ns N r.tu ts ts.length s) ?_ ?_ _ h (by rintro e s ⟨rfl,h⟩;exact hQ s h)
 .clear h hQ s;rintro i s hi ⟨hB,h18,h19,h20,h25,h26,h27,h12,h54,h55,h56⟩;unfold zx9;simp only[rU];have hw:=za5 i (by omega);have hx:ts[i]? =some ts[i]:=Z0 hi;have hot:=hts _ (Z1 hi);have hsp:=zqu r.tu x ts i;have hcl:=zsm hr.tn x ts i;generalize hT:ts[i]=t at hx hot;rw[hx]at hsp;generalize zh4 r.tu x ts i=na at*;have hng:∀y,y<s.c->¬y=s.c:=fun y h=>by omega
  by_cases he:t= .var x
  .subst he;have hxe:x≠[]:=hot;rw[Z51 rfl]at hsp;have hB2:=hB;obtain⟨dv,⟨h0,h2,h7⟩,hg,hz,hlo,hlw⟩ :=hB2;have hNl:∀h:N<l.length,l[N]=r:=fun h=>by
    rw[Z0 h]at hN;exact Z53 hN
   simp -implicitDefEqProofs [rW,h0,h2,h54,h55,h56,h12,hi,ziB,hx,hT,tmE,zsV,zsS,zsU,hxe,zn6,hN,hNl,rlE,zTm,zr1];refine l6 l x L n q k (ns++na) N r.tu ts i hr.tn hr.tp (by rw[Z16];omega) _ ⟨?_,?_⟩ ?_
   .simp only[Z173,List.filterMap_nil,Z22];exact hB.up (by simp -implicitDefEqProofs [rW,]<;>omega) (fun y hy=>by simp -implicitDefEqProofs [rW,hng y hy]) (by simp -implicitDefEqProofs [rW,]) (by simp -implicitDefEqProofs [rW,]) (by simp -implicitDefEqProofs [rW,]) (fun e=>by simp -implicitDefEqProofs [rW,e,wl0])
   .simp -implicitDefEqProofs [rW,h18,h19,h20,h25,h26,h27,h12,h54,h55,h56]
   .clear h0 h2 h7 hg hz hlo hlw hng hB;rintro s ⟨hB,h18,h19,h20,h25,h26,h27,h12,h54,h55,h56,h13,h74,h75,h76⟩;rw[Z7,Z32]at hB;simp -implicitDefEqProofs [rW,h56,hw];refine⟨?_,?_⟩
    .rw[hsp];exact hB.up (by simp -implicitDefEqProofs [rW,]) (fun y hy=>by simp -implicitDefEqProofs [rW,]) (by simp -implicitDefEqProofs [rW,]) (by simp -implicitDefEqProofs [rW,]) (by simp -implicitDefEqProofs [rW,]) (fun e=>by simp -implicitDefEqProofs [rW,e,wl0])
    .simp -implicitDefEqProofs [rW,h18,h19,h20,h25,h26,h27,h12,h54,h55,h56,hw]
  .rw[Z49 (by simpa using he),Z22]at hsp;obtain⟨dv,⟨h0,h2,h7⟩,-,-,-,-⟩ :=id hB;have hfin:∀S:St,s.c<=S.c->(∀y,y<s.c->S.h.get y=s.h.get y)->S.tm.get 0=s.tm.get 0->S.tm.get 2=s.tm.get 2->S.tm.get 7=s.tm.get 7->(s.lw=0->S.lw=0)->DB l x (ns++zh4 r.tu x ts (i+1)) S:=fun S a b c d e f=>by
    rw[hsp];exact hB.up a b c d e f
   cases t with
   |cst v=>
    simp -implicitDefEqProofs [rW,h0,h2,h54,h55,h56,h12,hi,ziB,hx,hT,tmE,zHi,zHf,zHh,hw];refine⟨hfin _ (by simp -implicitDefEqProofs [rW,]<;>omega) (fun y hy=>by simp -implicitDefEqProofs [rW,hng y hy]) (by simp -implicitDefEqProofs [rW,]) (by simp -implicitDefEqProofs [rW,]) (by simp -implicitDefEqProofs [rW,]) (fun e=>by simp -implicitDefEqProofs [rW,e,wl0]),?_⟩;simp -implicitDefEqProofs [rW,h18,h19,h20,h25,h26,h27,h12,h54,h55,h56,hw]
   |var u=>
    have hu:u≠[]:=hot;have hux:u≠x:=fun e=>he (by rw[e])
    simp -implicitDefEqProofs [rW,h0,h2,h54,h55,h56,h12,hi,ziB,hx,hT,tmE,zsV,zsS,zsU,hu,hux,hw];refine⟨hfin _ (by simp -implicitDefEqProofs [rW,]<;>omega) (fun y hy=>by simp -implicitDefEqProofs [rW,hng y hy]) (by simp -implicitDefEqProofs [rW,]) (by simp -implicitDefEqProofs [rW,]) (by simp -implicitDefEqProofs [rW,]) (fun e=>by simp -implicitDefEqProofs [rW,e,wl0]),?_⟩;simp -implicitDefEqProofs [rW,h18,h19,h20,h25,h26,h27,h12,h54,h55,h56,hw]
 .rintro s ⟨hB,h18,h19,h20,h25,h26,h27,h12,h54,h55,h56⟩;unfold zx9;simp only[rU];simp -implicitDefEqProofs [rW,h55,h56];refine⟨?_,?_⟩
  .exact hB.up (by simp -implicitDefEqProofs [rW,]) (fun y hy=>by simp -implicitDefEqProofs [rW,]) (by simp -implicitDefEqProofs [rW,]) (by simp -implicitDefEqProofs [rW,]) (by simp -implicitDefEqProofs [rW,]) (fun e=>by simp -implicitDefEqProofs [rW,e,wl0])
  .simp -implicitDefEqProofs [rW,h18,h19,h20,h25,h26,h27,h12,h54,h55,h56]
def zacj{α:Type}(l:List α)(p:α->Bool):(∃N r,l[N]? =some r/\l.find? p=some r/\ixP l p=((N:Nat):Int))\/(l.find? p=none/\ixP l p= -1):=by
 unfold ixP;cases h:l.findIdx? p with
 |none=>
  rw[Z43]at h;exact .inr ⟨List.find?_eq_none.2 fun x hx=>by simp[h x hx],rfl⟩
 |some N=>
  rw[Z26]at h;obtain⟨hN,hp,hlt⟩ :=h;exact .inl ⟨N,l[N],Z0 hN,zss l p N hN hp fun m hm=>by simpa using hlt m hm,rfl⟩
def zpa{l:List Rl}(hr:∀r∈l,RlK r)(x:Str)(a:Atm)(ha:a.ts.length<=2):(zdN l x a).length<=6:=by
 unfold zdN;split
 .simp
 .split
  .rename_i r hf;split
   .simp
   .have:=zsm (hr _ (List.mem_of_find?_eq_some hf)).tn x a.ts a.ts.length;unfold zh4 at this;unfold zFv;omega
  .simp
def l2(l:List Rl)(hl:l.length<1000)(hr:∀r∈l,RlK r)(x:Str)(L:List CQ)(n:Nat)(q:CQ)(hq:CqG q)(hqa:q.as.length<=3)(ns:List Int)(hns:ns.length<100){Q:Ex->St->Prop}(s:St)(h:D2 l x L n q ns 0 s)(hQ:∀s,D2 l x L n q ns q.as.length s->Q (.exit 2) s):WL pr zx8 s Q:=by
 refine zjr q.as.length (D2 l x L n q ns) (fun e s=>e= .exit 2/\D2 l x L n q ns q.as.length s) ?_ ?_ _ h (by rintro e s ⟨rfl,h⟩;exact hQ s h)
 .clear h hQ s;rintro k s hk ⟨hB,h18,h19,h20,h25,h26,h27⟩;unfold zx8;simp only[rU];have hw:=za5 k (by omega);have hx:q.as[k]? =some q.as[k]:=Z0 hk;have hk2:=Z6 hk;have hok:=(hq.toCqSm.toCqOk.as _ (Z1 hk)).1;have hst:=hq.s2 _ (Z1 hk);have hnl:((q.as.take k).flatMap (zdN l x)).length<=18:=by
   have:=zj9 (zdN l x) 6 (q.as.take k) fun a ha=>zpa hr x a (hq.s2 _ (Z13 ha))
   rw[Z41]at this;omega
  generalize hA:q.as[k]=a at hx hk2 hok hst;have hsp:(q.as.take (k+1)).flatMap (zdN l x)=(q.as.take k).flatMap (zdN l x)++zdN l x a:=by
   rw[hk2,Z183];simp
  generalize (q.as.take k).flatMap (zdN l x)=na at*;have hng:∀y,y<s.c->¬y=s.c:=fun y h=>by omega
  obtain⟨dv,⟨h0,h2,h7⟩,-,-,-,hlw⟩ :=id hB;have hskip:zdN l x a=[]->∀S:St,s.c<=S.c->(∀y,y<s.c->S.h.get y=s.h.get y)->S.tm.get 0=s.tm.get 0->S.tm.get 2=s.tm.get 2->S.tm.get 7=s.tm.get 7->(s.lw=0->S.lw=0)->DB l x (ns++(q.as.take (k+1)).flatMap (zdN l x)) S:=fun e0 S a b c d e f=>by
   rw[hsp,e0,Z22];exact hB.up a b c d e f
  simp -implicitDefEqProofs [rW,h0,h25,h26,h27,hk,zeH,hx,hA,atE];refine zjm (ro27 l a hl hr (P:=s.c) ?_ ?_) ?_ ?_
  .simp only[rG];simp[TG,atD]
  .simp only[rG];omega
  .simp only[rG];simp only[hlw,wl0];omega
  intro mx;rcases zacj l (fun r=>r.nm==a.r)with⟨N,r,hN,hf,hix⟩ |⟨hf,hix⟩
  .rw[hix];have hNl:∀h:N<l.length,l[N]=r:=fun h=>by
    rw[Z0 h]at hN;exact Z53 hN
   have hrk:=hr r (Z39 hN);have hn0:¬(N:Int)<0:=by omega
   cases hneg:a.neg with
   |true=>
    have e0:zdN l x a=[]:=by unfold zdN;rw[Z51 hneg]
    simp -implicitDefEqProofs [rW,];refine zaC ?_;simp -implicitDefEqProofs [rW,hneg,hw,h27];refine⟨hskip e0 _ (by simp -implicitDefEqProofs [rW,]<;>omega) (fun y hy=>by simp -implicitDefEqProofs [rW,hng y hy]) (by simp -implicitDefEqProofs [rW,]) (by simp -implicitDefEqProofs [rW,]) (by simp -implicitDefEqProofs [rW,]) (fun e=>by simp -implicitDefEqProofs [rW,e,wl0]),?_⟩;simp -implicitDefEqProofs [rW,h18,h19,h20,h25,h26,h27,hw]
   |false=>
    have hd:zdN l x a=if a.ts.length≠cnF r.co then[]else zFv r.tu x a.ts:=by
     unfold zdN;rw[Z49 (by simp[hneg]),hf]
    by_cases hc:a.ts.length=cnF r.co
    .rw[Z49 (by simp[hc])]at hd;have hc2:(a.ts.length:Int)=cnF r.co:=by omega
     simp -implicitDefEqProofs [rW,];refine zaC ?_;simp -implicitDefEqProofs [rW,hneg,hw,h0,h2,h27,hn0,zn6,hN,hNl,rlE,hrk.co,hrk.cl,zez,zhP,hc,hc2];refine l4 l x L n q k (ns++na) N r hN hrk a.ts hok hst (by rw[Z16];omega) _ ⟨?_,?_⟩ ?_
     .have e0:ns++na++zh4 r.tu x a.ts 0=ns++na:=by simp[zh4]
      rw[e0];exact hB.up (by simp -implicitDefEqProofs [rW,]<;>omega) (fun y hy=>by simp -implicitDefEqProofs [rW,hng y hy]) (by simp -implicitDefEqProofs [rW,]) (by simp -implicitDefEqProofs [rW,]) (by simp -implicitDefEqProofs [rW,]) (fun e=>by simp -implicitDefEqProofs [rW,e,wl0])
     .simp -implicitDefEqProofs [rW,h18,h19,h20,h25,h26,h27,hc]
     .clear h0 h2 h7 hlw hskip hng hB h18 h19 h20 h25 h26 h27;rintro s ⟨hB,h18,h19,h20,h25,h26,h27,h12,h54,h55,h56⟩;simp -implicitDefEqProofs [rW,h27,hw];refine⟨?_,?_⟩
      .rw[hsp,hd,<-Z32];exact hB.up (by simp -implicitDefEqProofs [rW,]) (fun y hy=>by simp -implicitDefEqProofs [rW,]) (by simp -implicitDefEqProofs [rW,]) (by simp -implicitDefEqProofs [rW,]) (by simp -implicitDefEqProofs [rW,]) (fun e=>by simp -implicitDefEqProofs [rW,e,wl0])
      .simp -implicitDefEqProofs [rW,h18,h19,h20,h25,h26,h27,hw]
    .rw[Z51 hc]at hd;have hc2:¬(a.ts.length:Int)=cnF r.co:=by omega
     simp -implicitDefEqProofs [rW,];refine zaC ?_;simp -implicitDefEqProofs [rW,hneg,hw,h0,h2,h27,hn0,zn6,hN,hNl,rlE,hrk.co,hrk.cl,zez,zhP,hc,hc2];refine⟨hskip hd _ (by simp -implicitDefEqProofs [rW,]<;>omega) (fun y hy=>by simp -implicitDefEqProofs [rW,hng y hy]) (by simp -implicitDefEqProofs [rW,]) (by simp -implicitDefEqProofs [rW,]) (by simp -implicitDefEqProofs [rW,]) (fun e=>by simp -implicitDefEqProofs [rW,e,wl0]),?_⟩;simp -implicitDefEqProofs [rW,h18,h19,h20,h25,h26,h27,hw]
  .have e0:zdN l x a=[]:=by
    unfold zdN;rw[hf];split<;>rfl
   rw[hix];cases hneg:a.neg with
   |true=>
    simp -implicitDefEqProofs [rW,];refine zaC ?_;simp -implicitDefEqProofs [rW,hneg,hw,h27];refine⟨hskip e0 _ (by simp -implicitDefEqProofs [rW,]<;>omega) (fun y hy=>by simp -implicitDefEqProofs [rW,hng y hy]) (by simp -implicitDefEqProofs [rW,]) (by simp -implicitDefEqProofs [rW,]) (by simp -implicitDefEqProofs [rW,]) (fun e=>by simp -implicitDefEqProofs [rW,e,wl0]),?_⟩;simp -implicitDefEqProofs [rW,h18,h19,h20,h25,h26,h27,hw]
   |false=>
    simp -implicitDefEqProofs [rW,];refine zaC ?_;simp -implicitDefEqProofs [rW,hneg,hw,h27];refine⟨hskip e0 _ (by simp -implicitDefEqProofs [rW,]<;>omega) (fun y hy=>by simp -implicitDefEqProofs [rW,hng y hy]) (by simp -implicitDefEqProofs [rW,]) (by simp -implicitDefEqProofs [rW,]) (by simp -implicitDefEqProofs [rW,]) (fun e=>by simp -implicitDefEqProofs [rW,e,wl0]),?_⟩;simp -implicitDefEqProofs [rW,h18,h19,h20,h25,h26,h27,hw]
 .rintro s ⟨hB,h18,h19,h20,h25,h26,h27⟩;unfold zx8;simp only[rU];simp -implicitDefEqProofs [rW,h26,h27];refine⟨?_,?_⟩
  .exact hB.up (by simp -implicitDefEqProofs [rW,]) (fun y hy=>by simp -implicitDefEqProofs [rW,]) (by simp -implicitDefEqProofs [rW,]) (by simp -implicitDefEqProofs [rW,]) (by simp -implicitDefEqProofs [rW,]) (fun e=>by simp -implicitDefEqProofs [rW,e,wl0])
  .simp -implicitDefEqProofs [rW,h18,h19,h20,h25,h26,h27]
def l0(l:List Rl)(hl:l.length<1000)(hr:∀r∈l,RlK r)(x:Str)(L:List CQ)(hL:L.length<=3)(hq:∀q∈L,CqG q/\q.as.length<=3){Q:Ex->St->Prop}(s:St)(h:D0 l x L 0 s)(hQ:∀s,D0 l x L L.length s->Q (.exit 0) s):WL pr zFb s Q:=by
 refine zjr L.length (D0 l x L) (fun e s=>e= .exit 0/\D0 l x L L.length s) ?_ ?_ _ h (by rintro e s ⟨rfl,h⟩;exact hQ s h)
 .clear h hQ s;rintro n s hn ⟨hB,h18,h19,h20⟩;unfold zFb;simp only[rU];have hw:=za5 n (by omega);have hx:L[n]? =some L[n]:=Z0 hn;have hk2:=Z6 hn;obtain⟨hG,ha3⟩ :=hq _ (Z1 hn);have hnl:(zeE l x (L.take n)).length<=54:=by
   have:=zj9 (zmz l x) 18 (L.take n) fun q hq2=>by
    have hq3:=hq q (Z13 hq2);have:=zj9 (zdN l x) 6 q.as fun a ha=>zpa hr x a (hq3.1.s2 _ ha)
    unfold zmz;omega
   rw[Z41]at this;unfold zeE;omega
  generalize hA:L[n]=q at hx hk2 hG ha3;have hsp:zeE l x (L.take (n+1))=zeE l x (L.take n)++q.as.flatMap (zdN l x):=by
   rw[hk2];unfold zeE;rw[Z183];simp[zmz]
  generalize zeE l x (L.take n)=ns at*;have hng:∀y,y<s.c->¬y=s.c:=fun y h=>by omega
  simp -implicitDefEqProofs [rW,h18,h19,h20,hn,zpq,hx,hA,cqE,za1,za2,zaV];refine l2 l hl hr x L n q hG ha3 ns (by omega) _ ⟨?_,?_⟩ ?_
  .simp only[Z173,Z166,Z22];exact hB.up (by simp -implicitDefEqProofs [rW,]<;>omega) (fun y hy=>by simp -implicitDefEqProofs [rW,hng y hy]) (by simp -implicitDefEqProofs [rW,]) (by simp -implicitDefEqProofs [rW,]) (by simp -implicitDefEqProofs [rW,]) (fun e=>by simp -implicitDefEqProofs [rW,e,wl0])
  .simp -implicitDefEqProofs [rW,h18,h19,h20]
  .clear hng hB h18 h19 h20;rintro s ⟨hB,h18,h19,h20,h25,h26,h27⟩;rw[Z7,<-hsp]at hB;simp -implicitDefEqProofs [rW,h20,hw];refine⟨?_,?_⟩
   .exact hB.up (by simp -implicitDefEqProofs [rW,]) (fun y hy=>by simp -implicitDefEqProofs [rW,]) (by simp -implicitDefEqProofs [rW,]) (by simp -implicitDefEqProofs [rW,]) (by simp -implicitDefEqProofs [rW,]) (fun e=>by simp -implicitDefEqProofs [rW,e,wl0])
   .simp -implicitDefEqProofs [rW,h18,h19,h20,hw]
 .rintro s ⟨hB,h18,h19,h20⟩;unfold zFb;simp only[rU];simp -implicitDefEqProofs [rW,h19,h20];refine⟨?_,?_⟩
  .exact hB.up (by simp -implicitDefEqProofs [rW,]) (fun y hy=>by simp -implicitDefEqProofs [rW,]) (by simp -implicitDefEqProofs [rW,]) (by simp -implicitDefEqProofs [rW,]) (by simp -implicitDefEqProofs [rW,]) (fun e=>by simp -implicitDefEqProofs [rW,e,wl0])
  .simp -implicitDefEqProofs [rW,h18,h19,h20]
def zQK(l:List Rl)(hl:l.length<1000)(hr:∀r∈l,RlK r)(x:Str)(hd:List Str)(L:List CQ)(hL:L.length<=3)(hq:∀q∈L,CqG q/\q.as.length<=3)(hk:(zeE l x L).length<=12):Ans pr 11 [zfv l,.ag [zbQ hd,qsF L],.s x] (iF (dd (zkj (zeE l x L)))):=by
 refine zdu fn11 ?_;simp only[g11,rU];simp -implicitDefEqProofs [rW,st0,zao,zfV,za8,zsG,zAy];refine l0 l hl hr x L hL hq _ ⟨⟨.f .nils,?_,.inl ⟨rfl,rfl⟩,fun i es ro els h=>(by cases h),?_,?_⟩,?_⟩ ?_
 .simp -implicitDefEqProofs [rW,]
 .simp -implicitDefEqProofs [rW,]
 .simp -implicitDefEqProofs [rW,wl0]
 .simp -implicitDefEqProofs [rW,]
 rintro s ⟨⟨dv,⟨h0,h2,h7⟩,hg,hz,hlo,hlw⟩,h18,h19,h20⟩;rw[Z7]at hg;generalize zeE l x L=ns at hg hk|-;rcases hg with⟨rfl,e⟩ |⟨id,ro,rfl,hne,gI,hro,hi1,hi2⟩
 .have e0:ns=[]:=by simpa [vE]using e
  subst e0;simp -implicitDefEqProofs [rW,h7];refine zmR rfl rfl zacb ?_;rintro d' h' c' lw' mx' rfl hcc;simp -implicitDefEqProofs [rW,h7];refine zmR rfl rfl zacc ?_;rintro d' h' c' lw' mx' ⟨rfl,rfl⟩ hcc;simp -implicitDefEqProofs [rW,];simp[zkj,dd,iF,slc]
 .have hr0:ro=0:=hz id _ ro _ rfl gI;subst hr0;have hne':ns≠[]:=fun e=>hne (by rw[e];rfl)
  have hsl:(zkj ns).length=ns.length:=List.length_mergeSort ..;simp -implicitDefEqProofs [rW,h7,zfZ];refine zmR rfl rfl (eff29 ns hk (id:=id) (by simp only[rG];exact hi2) (by simp only[rG];rw[gI])) ?_;rintro d' h' c' lw' mx' ⟨hs,hf⟩ hcc;simp only[rG]at hs hf hcc;generalize hS:zkj ns=S at*;have hSne:S≠[]:=fun e=>hne' (Z17.1 (by rw[<-hsl,e];rfl))
  simp -implicitDefEqProofs [rW,h7,zfZ];rw[<-hsl];refine zmR rfl rfl (eff31 S (by omega) (id:=id) (by simp only[rG];exact hs) (by simp only[rG];omega) hSne) ?_;rintro d2 h2 c2 lw2 mx2 ⟨rows,rfl,hg2,hrl,hrt,hf2⟩ hcc2;simp only[rG]at hg2 hf2 hcc2;have hdl:=zwH (l:=S);have hz:frz h2.get 12 (.sl id 0 (dd S).length 3 S.length false)=some (iF (dd S),[id]):=by
   have e2:vE (dd S)=((dd S).map vF).map fun a=>a.map D.f:=by simp[vE,vD,vF,Z67]
   have hdn:dd S≠[]:=by
    cases S with
    |nil=>exact absurd rfl hSne
    |cons a S=>simp[dd]
   rw[zk3,hg2,zfx,zkz,Z51 ⟨rfl,by rw[Z25,hrl];exact hdl⟩,Z34,hrt,e2,zrO h2.get 10 _,zfx,zlc (by simpa using hdn)];rfl
  simp -implicitDefEqProofs [rW,hz]
end Go.Proofs.YtdonnbdegnkflaaGreatDoor
end
