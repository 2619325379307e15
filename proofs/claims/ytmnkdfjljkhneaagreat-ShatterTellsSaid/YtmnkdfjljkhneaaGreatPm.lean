/- The reference: nextSplit. -/
import Derived.Test.YtmnkdfjljkhneaaGreatPl
import Derived.KernelRfl
import Derived.IntWalk
set_option linter.all false
set_option maxRecDepth 100000
set_option maxHeartbeats 4000000
section
namespace Go.Proofs.YtmnkdfjljkhneaaGreat
open Go Go.Vse Go.Vse.Sm
def fn35:pr.fn 35=some g35:=by kernel_rfl
def vs_d(l:List Trm):(vsF l).d= .f (vsF l):=zh5 ..
def zfw(l:List Trm):zcx (.f (vsF l))=some l.length:=by simp[vsF,zfA]
def zsb(l:List Trm)(n:Nat):iaB 3 (.f (vsF l)) n=(l[n]?).map fun t=>D.fptr (vT t):=by simp[vsF,zgi,Function.comp_def]
theorem znd:∀{l:List Trm} {t x:Trm},x∈zcn l t->x∈l\/x=t
 |[],t,x,h=>by simp[zcn]at h;exact .inr h
 |a::l,t,x,h=>by
  unfold zcn at h;split at h
  .rcases Z5.1 h with rfl|h
   .exact .inl (by simp)
   .exact (znd h).imp (fun h=>by simp[h]) id
  .split at h
   .exact .inl h
   .rcases Z5.1 h with rfl|h
    .exact .inr rfl
    .exact .inl h
def zD1{ts:List Trm}:∀{a:List Trm},(∀t∈a,tv t=[])->∀t∈zgw a ts,tv t=[]:=by
 unfold zgw
 induction ts with
 |nil=>intro a h;exact h
 |cons t ts ih=>
  intro a h;refine ih fun x hx=> ?_
  unfold zlq at hx;split at hx
  .rename_i e;rcases znd hx with hx|rfl
   .exact h x hx
   .exact e
  .exact h x hx
def zAv{l:List CQ}:∀{a:List Trm},(∀t∈a,tv t=[])->∀t∈l.foldl (fun a c=>zgw a (zfC c)) a,tv t=[]:=by
 induction l with
 |nil=>intro a h;exact h
 |cons c l ih=>intro a h;exact ih (zD1 h)
def zD5{l:List CQ}(hl:∀c∈l,CqSm c):∀t∈ze2 l,t= .cst (tn t):=by
 intro t ht;have h1:=zAv (l:=l) (a:=[]) (by simp) t ht;have h2:=(zmh hl (n:=0) (a:=[]) ⟨by simp,by simp⟩).1 t ht;cases t with
 |cst n=>rfl
 |var s=>exact absurd h1 h2
def nsV(l:List CQ)(c:CQ)(s:Str)(t:Trm):Bool:=mts l c s (tn t)&& !(c.cs.any (zcY 2 (.var s) (.cst (tn t))))
def nsN(hd:List Str)(l:List CQ)(ls:List Trm)(c:CQ)(s:Str):Option (Str×Int):=if inH hd s then none else(ls.find? (nsV l c s)).map fun t=>(s,tn t)
def nsQ(hd:List Str)(l:List CQ)(ls:List Trm)(c:CQ):Option (Str×Int):=(vrs c).findSome? (nsN hd l ls c)
def nsS(hd:List Str)(l:List CQ):Option (Nat×Str×Int):=match l.findIdx? fun c=>(nsQ hd l (ze2 l) c).isSome with
 |some i=>match l[i]? with
  |some c=>(nsQ hd l (ze2 l) c).map fun p=>(i,p)
  |none=>none
 |none=>none
def nsR:Option (Nat×Str×Int)->F
 |none=> .tu [.i .i64 0,.s [],.ag zF,.b false]
 |some p=> .tu [.i .i64 p.1,.s p.2.1,.ag (vF p.2.2),.b true]
def zD:List D:=[.f (.i .i64 0),.f (.i .i64 0),.f (.s [])]
def O1(hd:List Str)(l:List CQ)(ls:List Trm)(n:Nat)(s:St):Prop:=(s.tm.get 1=some (.ptr 0 2 0 0)/\s.tm.get 4=some (.ptr 1 3 0 0)/\s.tm.get 6=some (.f (vsF ls))/\s.tm.get 7=some (.f (.i .i64 n))/\s.h.get 0=some (.arr 2 0 [[.f (zaq hd),.f (qsF l)]])/\s.h.get 1=some (.arr 3 0 [zD]))/\2<=s.c
def O2(hd:List Str)(l:List CQ)(ls:List Trm)(q:CQ)(ns:List Str)(n P:Nat)(d:D)(k:Nat)(s:St):Prop:=(s.tm.get 1=some (.ptr 0 2 0 0)/\s.tm.get 4=some (.ptr 1 3 0 0)/\s.tm.get 6=some (.f (vsF ls))/\s.tm.get 7=some (.f (.i .i64 n))/\s.tm.get 8=some (.ptr P 2 0 0)/\s.tm.get 9=some (d)/\s.tm.get 10=some (.f (.i .i64 k))/\s.h.get 0=some (.arr 2 0 [[.f (zaq hd),.f (qsF l)]])/\s.h.get 1=some (.arr 3 0 [zD])/\s.h.get P=some (.arr 2 0 [[.f (zaB q),.f (zaC q)]]))/\Gro s.h (P+1) s.c 1 d (zaT ns)/\2<=P/\P<s.c
def O3(hd:List Str)(l:List CQ)(ls:List Trm)(q:CQ)(ns:List Str)(n P:Nat)(d:D)(k j:Nat)(s:St):Prop:=O2 hd l ls q ns n P d k s/\s.tm.get 11=some (.f (.i .i64 j))
def O2.up{hd:List Str}{l:List CQ}{ls:List Trm}{q:CQ}{ns:List Str}{n P:Nat}{d:D}{k k':Nat}{s S:St}(H:O2 hd l ls q ns n P d k s)(hc:s.c<=S.c)(hh:∀x,x<s.c->S.h.get x=s.h.get x)(ht:S.tm.get 1=s.tm.get 1/\S.tm.get 4=s.tm.get 4/\S.tm.get 6=s.tm.get 6/\S.tm.get 7=s.tm.get 7/\S.tm.get 8=s.tm.get 8/\S.tm.get 9=s.tm.get 9)(h10:S.tm.get 10=some (.f (.i .i64 k'))):O2 hd l ls q ns n P d k' S:=by
 obtain⟨⟨h1,h4,h6,h7,h8,h9,-,g0,g1,gP⟩,hg,hP1,hP2⟩ :=H;obtain⟨t1,t4,t6,t7,t8,t9⟩ :=ht;exact⟨⟨t1.trans h1,t4.trans h4,t6.trans h6,t7.trans h7,t8.trans h8,t9.trans h9,h10,(hh _ (by omega)).trans g0,(hh _ (by omega)).trans g1,(hh _ hP2).trans gP⟩,zaS hg hc fun x _ hx=>hh x hx,hP1,by omega⟩
def OR(n:Nat)(p:Str×Int)(e:Ex)(s:St):Prop:=e= .ret/\(s.tm.get 2=some (.f (.i .i64 n))/\s.tm.get 3=some (.f (.s p.1))/\s.tm.get 4=some (.ptr 1 3 0 0)/\s.tm.get 5=some (.f (.b true)))/\s.h.get 1=some (.arr 3 0 [vD p.2])
def zxO(hd:List Str)(l:List CQ)(hQ:QG hd l):Ans pr 35 [.ag [zaq hd,qsF l]] (nsR (nsS hd l)):=by
  have hQ0:=hQ;obtain⟨hh,hl,hq⟩ :=hQ;refine zbd fn35 ?_;simp only[g35,rU];have q17:=fun f=>zaj (k:=f) (zGC hd l hQ0)
  have hcs:=zD5 (l:=l) fun c hc=>(hq c hc).toCqSm
  have hlen:(ze2 l).length<=544000:=by
    have h:(ze2 l).length<=0+544*l.length:=(zmh (l:=l) (fun c hc=>(hq c hc).toCqSm) (n:=0) (a:=[]) ⟨by simp,by simp⟩).2;omega
  have hS:nsS hd l=match l.findIdx? fun c=>(nsQ hd l (ze2 l) c).isSome with
    | some i=>match l[i]? with
      |some c=>(nsQ hd l (ze2 l) c).map fun p=>(i,p)
      |none=>none
    |none=>none:=rfl
  generalize ze2 l=ls at q17 hcs hlen hS;simp[rW,st0,zae,zaN,zcy,q17,vs_d];refine zcf l (fun c=>(nsQ hd l ls c).isSome) (O1 hd l ls) (fun e s=>e= .exit 0/\(s.tm.get 4=some (.ptr 1 3 0 0)/\s.h.get 1=some (.arr 3 0 [zD]))/\2<=s.c) (fun n e s=>∃c p,l[n]? =some c/\nsQ hd l ls c=some p/\OR n p e s) ?_ ?_ _ ?_ ?_ ?_
  . rintro n s hn ⟨⟨h1,h4,h6,h7,g0,g1⟩,hlo⟩;have hw:=zao n (by omega);have hx:l[n]? =some l[n]:=Z0 hn;have hG:=hq _ (Z1 hn);generalize hA:l[n]=q at hx hG|-;have n0:¬(0=s.c):=by omega
    have n1:¬(1=s.c):=by omega
    simp -implicitDefEqProofs [rW,h1,h4,h6,h7,g0,g1,hn,zbN,zdr,hx,hA,cqE,zaF,zaH,n0,n1];refine zcz rfl rfl (zHO q hG.toCqSm) ?_;rintro d H c1 lw1 mx1 ⟨hGr,hF⟩ hcc;simp only[rG]at hF hGr hcc;have k0:=hF 0 (by omega);have k1:=hF 1 (by omega);have k2:=hF s.c (by omega);simp[Vse.T.zad,n0,n1,g0,g1]at k0 k1 k2;have hvl:=zmM hG.toCqSm;have hne:=zhO q;have hQe:nsQ hd l ls q=(vrs q).findSome? (nsN hd l ls q):=rfl;generalize hNS:vrs q=ns at*;simp[rW,];refine zcf ns (fun x=>(nsN hd l ls q x).isSome) (O2 hd l ls q ns n s.c d) (fun e s'=>e= .exit 2/\O1 hd l ls n s') (fun k e s'=>∃p,(ns[k]?.bind (nsN hd l ls q))=some p/\OR n p e s') ?_ ?_ _ ?_ ?_ ?_
    . rintro k s' hk ⟨⟨h1,h4,h6,h7,h8,h9,h10,g0,g1,gP⟩,hg,hP1,hP2⟩;have hw2:=zao k (by omega);have hnx:ns[k]? =some ns[k]:=Z0 hk;have hxne:=hne _ (Z1 hk);obtain⟨id,ro,rfl,gid,hX,i1,i2⟩ :=zlz hg hk;generalize hXe:ns[k]=x at hnx hxne hX|-;have q0:=fun f=>zaj (k:=f) (zrQ hd x (by omega))
      have hi:inH hd x=hd.any (· ==x):=rfl;unfold nsN;rw[hi];generalize hb0:hd.any (· ==x)=b0 at q0|-;simp -implicitDefEqProofs [rW,h1,h4,h6,h7,h8,h9,h10,g0,g1,gP,hk];cases b0 with
      | true=>
        refine zcf ([]:List Trm) (nsV l q x) (O3 hd l ls q ns n s.c (.sl id 0 ns.length 1 ns.length false) k) (fun e s'=>e= .exit 4/\O2 hd l ls q ns n s.c (.sl id 0 ns.length 1 ns.length false) k s') (fun m e s'=>False) ?_ ?_ _ ?_ ?_ ?_
        . intro j s2 hj;simp at hj
        . rintro s2 ⟨hO,h11⟩;have hO':=hO;obtain⟨⟨h1,h4,h6,h7,h8,h9,h10,g0,g1,gP⟩,hg,hP1,hP2⟩ :=hO';obtain⟨id2,ro2,e,gid2,hY,i3,i4⟩ :=zlz hg hk;cases e;rw[hXe]at hY
          by_cases hls:0<ls.length
          . simp -implicitDefEqProofs [rW,h1,h4,h6,h7,h8,h9,h10,h11,g0,g1,gP,zfw,hls];refine zaL ?_;simp -implicitDefEqProofs [rW,h1,h4,h6,h7,h8,h9,h10,h11,g0,g1,gP,zfw,hls,hk,gid2,hY,q0];refine hO.up (by simp[rW,];omega) (fun x hx=>by simp[rW,]) (by simp[rW,]) ?_;simp[rW,h10]
          . simp -implicitDefEqProofs [rW,h1,h4,h6,h7,h8,h9,h10,h11,g0,g1,gP,zfw,hls];refine zaL ?_;simp -implicitDefEqProofs [rW,h1,h4,h6,h7,h8,h9,h10,h11,g0,g1,gP,zfw,hls];refine hO.up (by simp[rW,];omega) (fun x hx=>by simp[rW,]) (by simp[rW,]) ?_;simp[rW,h10]
        . refine⟨⟨?_,?_,hP1,?_⟩,?_⟩
          . simp -implicitDefEqProofs [rW,h1,h4,h6,h7,h8,h9,h10,g0,g1,gP]
          . simp[rW,];exact hg
          . simp[rW,];exact hP2
          . simp[rW,]
        . rintro hno e s2 ⟨rfl,hO⟩;obtain h10:=hO.1.2.2.2.2.2.2.1;simp[rW,h10,hw2];refine hO.up (by simp[rW,]) (fun x hx=>by simp[rW,]) (by simp[rW,]) ?_;simp[rW,hw2]
        . intro j hj;simp at hj
      | false=>
        refine zcf ls (nsV l q x) (O3 hd l ls q ns n s.c (.sl id 0 ns.length 1 ns.length false) k) (fun e s'=>e= .exit 4/\O2 hd l ls q ns n s.c (.sl id 0 ns.length 1 ns.length false) k s') (fun m e s'=>∃t,ls[m]? =some t/\OR n (x,tn t) e s') ?_ ?_ _ ?_ ?_ ?_
        . rintro j s2 hj ⟨hO,h11⟩;have hO':=hO;obtain⟨⟨h1,h4,h6,h7,h8,h9,h10,g0,g1,gP⟩,hg,hP1,hP2⟩ :=hO';obtain⟨id2,ro2,e,gid2,hY,i3,i4⟩ :=zlz hg hk;cases e;rw[hXe]at hY;have hw3:=zao j (by omega);have hxt:ls[j]? =some ls[j]:=Z0 hj;have hct:=hcs _ (Z1 hj);generalize hT:ls[j]=t at hxt hct|-;generalize hv:tn t=v at hct|-;subst hct;unfold nsV;have q1:=fun f=>zaj (k:=f) (ans70 hd l q x v hQ0 hG hxne)
          have q2:=fun f=>zaj (k:=f) (zGL q 2 (.var x) (.cst v) hG hxne trivial)
          simp only[cqE,tmF,vF]at q1 q2;rw[zcN];generalize mts l q x v=b1 at q1|-;generalize q.cs.any (zcY 2 (.var x) (.cst v))=b2 at q2|-;simp -implicitDefEqProofs [rW,h1,h4,h6,h7,h8,h9,h10,h11,g0,g1,gP,zfw,hj];refine zaL ?_;simp -implicitDefEqProofs [rW,h1,h4,h6,h7,h8,h9,h10,h11,g0,g1,gP,zfw,hj,hk,gid2,hY,q0];refine ziK (fun S=>s2.c<=S.c/\(∀x,x<s2.c->S.h.get x=s2.h.get x)/\S.tm.get 1=some (.ptr 0 2 0 0)/\S.tm.get 4=some (.ptr 1 3 0 0)/\S.tm.get 6=some (.f (vsF ls))/\S.tm.get 7=some (.f (.i .i64 n))/\S.tm.get 8=some (.ptr s.c 2 0 0)/\S.tm.get 9=some (.sl id 0 ns.length 1 ns.length false)/\S.tm.get 10=some (.f (.i .i64 k))/\S.tm.get 11=some (.f (.i .i64 j))) ⟨?_,fun x hx=> ?_,?_⟩ ?_
          . simp[rW,];omega
          . simp[rW,]
          . simp -implicitDefEqProofs [rW,h1,h4,h6,h7,h8,h9,h10,h11]
          rintro S ⟨hSc,hSh,k1',k4',k6',k7',k8',k9',k10',k11'⟩;have u0:=(hSh 0 (by omega)).trans g0;have uP:=(hSh _ hP2).trans gP;have ui:=(hSh id (by omega)).trans gid2;have stay:∀S':St,S.c<=S'.c->(∀x,x<S.c->S'.h.get x=S.h.get x)->(S'.tm.get 1=S.tm.get 1/\S'.tm.get 4=S.tm.get 4/\S'.tm.get 6=S.tm.get 6/\S'.tm.get 7=S.tm.get 7/\S'.tm.get 8=S.tm.get 8/\S'.tm.get 9=S.tm.get 9)->S'.tm.get 10=some (.f (.i .i64 k))->O2 hd l ls q ns n s.c (.sl id 0 ns.length 1 ns.length false) k S':=by
            rintro S' a1 a2 ⟨t1,t4,t6,t7,t8,t9⟩ a4;exact hO.up (by omega) (fun x hx=>(a2 x (by omega)).trans (hSh x hx)) ⟨(t1.trans k1').trans h1.symm,(t4.trans k4').trans h4.symm,(t6.trans k6').trans h6.symm,(t7.trans k7').trans h7.symm,(t8.trans k8').trans h8.symm,(t9.trans k9').trans h9.symm⟩ a4
          refine zaL ?_;cases b1 with
          | false=>
            simp -implicitDefEqProofs [rW,k1',k4',k6',k7',k8',k9',k10',k11',u0,uP,ui,hk,hY,hj,zsb,zfw,hxt,hT,vT,zcS,zcN,q1,zaN,zcy,zaF,zaH,zcC,hw3];refine⟨stay _ (by simp[rW,];omega) (fun x hx=>by simp[rW,]) (by simp[rW,]) (by simp -implicitDefEqProofs [rW,k10']),?_⟩;simp[rW,]
          | true=>
            cases b2 with
            | true=>
              simp -implicitDefEqProofs [rW,k1',k4',k6',k7',k8',k9',k10',k11',u0,uP,ui,hk,hY,hj,zsb,zfw,hxt,hT,vT,zcS,zcN,q1,q2,zaN,zcy,zaF,zaH,zcC,hw3];refine⟨stay _ (by simp[rW,];omega) (fun x hx=>by simp[rW,]) (by simp[rW,]) (by simp -implicitDefEqProofs [rW,k10']),?_⟩;simp[rW,]
            | false=>
              simp -implicitDefEqProofs [rW,k1',k4',k6',k7',k8',k9',k10',k11',u0,uP,ui,hk,hY,hj,zsb,zfw,hxt,hT,vT,zcS,zcN,q1,q2,zaN,zcy,zaF,zaH,zcC,hw3];have u1:=(hSh 1 (by omega)).trans g1;have l1:1<S.c:=by omega
              refine zaL ?_;simp -implicitDefEqProofs [rW,k1',k4',k6',k7',k8',k9',k10',k11',u0,u1,uP,ui,hk,hY,hj,zsb,zfw,hxt,hT,vT,zcS,zcN,zD,l1];refine⟨rfl,?_,?_⟩
              . simp[rW,k4',k7']
              . simp[rW,vD]
        . rintro s2 ⟨hO,h11⟩;have hO':=hO;obtain⟨⟨h1,h4,h6,h7,h8,h9,h10,g0,g1,gP⟩,hg,hP1,hP2⟩ :=hO';simp -implicitDefEqProofs [rW,h1,h4,h6,h7,h8,h9,h10,h11,g0,g1,gP,zfw];refine zaL ?_;simp -implicitDefEqProofs [rW,h1,h4,h6,h7,h8,h9,h10,h11,g0,g1,gP,zfw];refine hO.up (by simp[rW,];omega) (fun x hx=>by simp[rW,]) (by simp[rW,]) ?_;simp[rW,h10]
        . refine⟨⟨?_,?_,hP1,?_⟩,?_⟩
          . simp -implicitDefEqProofs [rW,h1,h4,h6,h7,h8,h9,h10,g0,g1,gP]
          . simp[rW,];exact hg
          . simp[rW,];exact hP2
          . simp[rW,]
        . rintro hno e s2 ⟨rfl,hO⟩;obtain h10:=hO.1.2.2.2.2.2.2.1;have e:ls.find? (nsV l q x)=none:=List.find?_eq_none.2 fun y hy=>by rw[hno y hy];simp
          simp[rW,h10,hw2,e];refine hO.up (by simp[rW,]) (fun x hx=>by simp[rW,]) (by simp[rW,]) ?_;simp[rW,hw2]
        . rintro j hj hp hbf e s2 ⟨t,h1,hR⟩;have ht:t=ls[j]:=by rw[Z0 hj]at h1;exact (Option.some.inj h1).symm
          have e:ls.find? (nsV l q x)=some ls[j]:=ziw hj hp hbf;obtain⟨rfl,⟨h2,h3,h4,h5⟩,g1⟩ :=hR;simp[rW,e];refine⟨x,tn ls[j],?_,rfl,⟨h2,h3,h4,h5⟩,?_⟩
          . rw[hnx,Z46,if_neg (by rw[hi,hb0];simp),e];rfl
          . rw[<-ht];exact g1
    . rintro s' ⟨⟨h1,h4,h6,h7,h8,h9,h10,g0,g1,gP⟩,hg,hP1,hP2⟩;have hln:=zA7 hg;simp -implicitDefEqProofs [rW,h1,h4,h6,h7,h8,h9,h10,g0,g1,gP,hln];unfold O1;simp -implicitDefEqProofs [rW,h1,h4,h6,h7,g0,g1];omega
    . refine⟨?_,?_,hlo,?_⟩
      . simp -implicitDefEqProofs [rW,h1,h4,h6,h7,k0,k1,k2]
      . simp[rW,];exact zA2 hGr (by omega)
      . simp[rW,];omega
    . rintro hno e s' ⟨rfl,⟨h1,h4,h6,h7,g0,g1⟩,hlo⟩;have e:nsQ hd l ls q=none:=by
        rw[hQe];exact zrV hno
      simp -implicitDefEqProofs [rW,h1,h4,h6,h7,g0,g1,hw,e];unfold O1;simp -implicitDefEqProofs [rW,h1,h4,h6,h7,g0,g1,hw,hlo]
    . rintro k hk hp hbf e s' ⟨p,h1,rfl,⟨h2,h3,h4,h5⟩,g1⟩;have e:nsQ hd l ls q=some p:=by
        rw[hQe,zot hk hp hbf];rw[Z0 hk]at h1;exact h1
      simp[rW,e];exact⟨q,hx,p.1,p.2,e,rfl,⟨h2,h3,h4,h5⟩,g1⟩
  . rintro s ⟨⟨h1,h4,h6,h7,g0,g1⟩,hlo⟩;simp -implicitDefEqProofs [rW,h1,h4,h6,h7,g0,g1,zbN];exact hlo
  . unfold O1;simp[rW,zD]
  . rintro hno e s ⟨rfl,⟨h4,g1⟩,hlo⟩;have e:nsS hd l=none:=by
      rw[hS];rw[Z43.2 hno]
    have l1:1<s.c:=by omega
    simp[rW,e,nsR,zzj,h4,g1,zF,zD,l1]
  . rintro n hn hp hbf e s ⟨c,p,h1,hq2,rfl,⟨h2,h3,h4,h5⟩,g1⟩;have e:nsS hd l=some (n,p):=by
      rw[hS];have e1:(l.findIdx? fun c=>(nsQ hd l ls c).isSome)=some n:=Z26.2 ⟨hn,hp,fun j hj=>by rw[hbf j hj];simp⟩;rw[e1];simp only[h1];rw[hq2];rfl
    simp -implicitDefEqProofs [rW,h2,h3,h4,h5,g1,e,nsR,zzj,vD,vF]
def fn53:pr.fn 53=some g53:=by kernel_rfl
def elr(hd:List Str)(k:Cm)(c:CQ):CQ:=if frT hd k.r then mpC (sbT (nmT k.r) k.l) c else mpC (sbT (nmT k.l) k.r) c
def stR(hd:List Str)(c:CQ):CQ×Int:=if c.cs.any alF then(c,2)else match c.cs.findIdx? alT with
 |some i=>(drp c i,1)
 |none=>match c.cs.findIdx? (eqV hd)with
  |some i=>(elr hd (c.cs[i]?.getD ⟨0,.cst 0,.cst 0⟩) (drp c i),1)
  |none=>(c,0)
def PB(hd:List Str)(c:CQ)(s:St):Prop:=(s.tm.get 1=some (.f (zaq hd))/\s.tm.get 2=some (.ptr 0 2 0 0)/\s.tm.get 4=some (.ptr 1 2 0 0)/\s.h.get 0=some (.arr 2 0 [[.f (zaB c),.f (zaC c)]])/\s.h.get 1=some (.arr 2 0 [[.f .nils,.f .nils]]))/\2<=s.c
def PR(d:CQ)(r:Int)(e:Ex)(s:St):Prop:=e= .ret/\(s.tm.get 4=some (.ptr 1 2 0 0)/\s.tm.get 5=some (.f (.i .i64 r))/\s.h.get 1=some (.arr 2 0 [[.f (zaB d),.f (zaC d)]]))/\2<=s.c
def PB.up{hd:List Str}{c:CQ}{s S:St}(H:PB hd c s)(hc:s.c<=S.c)(hh:∀x,x<s.c->S.h.get x=s.h.get x)(ht:S.tm.get 1=s.tm.get 1/\S.tm.get 2=s.tm.get 2/\S.tm.get 4=s.tm.get 4):PB hd c S:=by
 obtain⟨⟨h1,h2,h4,g0,g1⟩,hlo⟩ :=H;exact⟨⟨ht.1.trans h1,ht.2.1.trans h2,ht.2.2.trans h4,(hh _ (by omega)).trans g0,(hh _ (by omega)).trans g1⟩,by omega⟩
def ans53(hd:List Str)(c:CQ)(hh:hd.length<1000)(hc:CqG c):Ans pr 53 [.ag (cqF c),zaq hd] (.tu [.ag (cqF (stR hd c).1),.i .i64 (stR hd c).2]):=by
 refine zbd fn53 ?_;simp only[g53,rU];simp only[cqE];simp[rW,st0,zae,zaN,zaF,zaH];have hS:stR hd c=if c.cs.any alF then((c,2):CQ×Int)else match c.cs.findIdx? alT with
  |some i=>(drp c i,1)
  |none=>match c.cs.findIdx? (eqV hd)with
   |some i=>(elr hd (c.cs[i]?.getD ⟨0,.cst 0,.cst 0⟩) (drp c i),1)
   |none=>(c,0):=rfl
 refine zcf c.cs alF (fun n s=>PB hd c s/\s.tm.get 6=some (.f (.i .i64 n))) (fun e s=>e= .exit 0/\PB hd c s) (fun n e s=>PR c 2 e s) ?_ ?_ _ ?_ ?_ ?_
 .rintro n s hn ⟨hB,h6⟩;obtain⟨⟨h1,h2,h4,g0,g1⟩,hlo⟩ :=id hB;have hw:=zao n (by have:=hc.sc;omega);have hx:c.cs[n]? =some c.cs[n]:=Z0 hn;have hok:=hc.toCqSm.toCqOk.cs _ (Z1 hn);generalize hK:c.cs[n]=k at hx hok|-;have q1:=fun f=>zaj (k:=f) (ans96 k hok)
  simp only[cmF,tmE,Z29,Z28]at q1;have l1:1<s.c:=by omega
  generalize alF k=b at q1|-;cases b with
  |true=>
   simp[rW,h1,h2,h4,h6,g0,g1,hn,zbf,zcZ,hx,hK,zet,cmD,tmD,q1,l1];refine⟨rfl,?_,?_⟩
   .simp[rW,h4]
   .simp[rW,]<;>omega
  |false=>
   simp[rW,h1,h2,h4,h6,g0,g1,hn,zbf,zcZ,hx,hK,zet,cmD,tmD,q1,hw];exact hB.up (by simp[rW,]) (fun x hx=>by simp[rW,]) (by simp[rW,])
 .rintro s ⟨hB,h6⟩;obtain⟨⟨h1,h2,h4,g0,g1⟩,hlo⟩ :=id hB;simp[rW,h1,h2,h4,h6,g0,g1,zbf];exact hB.up (by simp[rW,]) (fun x hx=>by simp[rW,]) (by simp[rW,])
 .refine⟨⟨?_,?_⟩,?_⟩
  .simp[rW,]<;>omega
  .simp[rW,]<;>omega
  .simp[rW,]<;>omega
 .rintro hno1 e s ⟨rfl,hB⟩;have hS:stR hd c=match c.cs.findIdx? alT with
   |some i=>(drp c i,1)
   |none=>match c.cs.findIdx? (eqV hd)with
    |some i=>(elr hd (c.cs[i]?.getD ⟨0,.cst 0,.cst 0⟩) (drp c i),1)
    |none=>(c,0):=by rw[hS,zfr hno1];rfl
  simp[rW,];refine zcf c.cs alT (fun n s=>PB hd c s/\s.tm.get 7=some (.f (.i .i64 n))) (fun e s=>e= .exit 2/\PB hd c s) (fun n e s=>PR (drp c n) 1 e s) ?_ ?_ _ ?_ ?_ ?_
  .rintro n s hn ⟨hB,h7⟩;obtain⟨⟨h1,h2,h4,g0,g1⟩,hlo⟩ :=id hB;have hw:=zao n (by have:=hc.sc;omega);have hx:c.cs[n]? =some c.cs[n]:=Z0 hn;have hok:=hc.toCqSm.toCqOk.cs _ (Z1 hn);generalize hK:c.cs[n]=k at hx hok|-;have q1:=fun f=>zaj (k:=f) (ans97 k hok)
   rw[zDB k hok]at q1;simp only[cmF,tmE,Z29,Z28]at q1;have q2:=fun f=>zaj (k:=f) (zGU c n hn hc.toCqSm)
   simp only[cqE]at q2;have l1:1<s.c:=by omega
   generalize alT k=b at q1|-;cases b with
   |true=>
    simp[rW,h1,h2,h4,h7,g0,g1,hn,zbf,zcZ,zaF,zaH,hx,hK,zet,cmD,tmD,q1,q2,l1];refine⟨rfl,?_,?_⟩
    .simp[rW,h4]
    .simp[rW,]<;>omega
   |false=>
    simp[rW,h1,h2,h4,h7,g0,g1,hn,zbf,zcZ,hx,hK,zet,cmD,tmD,q1,hw];exact hB.up (by simp[rW,]) (fun x hx=>by simp[rW,]) (by simp[rW,])
  .rintro s ⟨hB,h7⟩;obtain⟨⟨h1,h2,h4,g0,g1⟩,hlo⟩ :=id hB;simp[rW,h1,h2,h4,h7,g0,g1,zbf];exact hB.up (by simp[rW,]) (fun x hx=>by simp[rW,]) (by simp[rW,])
  .refine⟨hB.up (by simp[rW,]) (fun x hx=>by simp[rW,]) (by simp[rW,]),?_⟩;simp[rW,]
  .rintro hno2 e s ⟨rfl,hB⟩;have hS:stR hd c=match c.cs.findIdx? (eqV hd)with
    |some i=>(elr hd (c.cs[i]?.getD ⟨0,.cst 0,.cst 0⟩) (drp c i),1)
    |none=>(c,0):=by rw[hS,Z43.2 hno2]
   simp[rW,];refine zcf c.cs (eqV hd) (fun n s=>PB hd c s/\s.tm.get 8=some (.f (.i .i64 n))) (fun e s=>e= .exit 4/\PB hd c s) (fun n e s=>∃k,c.cs[n]? =some k/\PR (elr hd k (drp c n)) 1 e s) ?_ ?_ _ ?_ ?_ ?_
   .rintro n s hn ⟨hB,h8⟩;obtain⟨⟨h1,h2,h4,g0,g1⟩,hlo⟩ :=id hB;have hw:=zao n (by have:=hc.sc;omega);have hx:c.cs[n]? =some c.cs[n]:=Z0 hn;have hok:=hc.toCqSm.toCqOk.cs _ (Z1 hn);generalize hK:c.cs[n]=k at hx hok|-;obtain⟨op,a,b⟩ :=k;have ha:zau a:=hok.1;have hb:zau b:=hok.2;have l1:1<s.c:=by omega
    have n0:¬(0=s.c):=by omega
    have n1:¬(1=s.c):=by omega
    have qr:=fun f=>zaj (k:=f) (zGW b hd hb (by omega))
    have ql:=fun f=>zaj (k:=f) (zGW a hd ha (by omega))
    have q2:=fun f=>zaj (k:=f) (zGU c n hn hc.toCqSm)
    unfold eqV;simp only[cqE,tmE]at q2 qr ql
    by_cases ho:op=1
    .subst ho;cases hr:frT hd b with
     |true=>
      have hnb:nmT b=tv b/\tv b≠[]:=by
       cases b with
       |var w=>exact⟨rfl,hb⟩
       |cst w=>cases hr
      rw[hr]at qr;have q3:=fun f=>zaj (k:=f) (zrP (drp c n) (tv b) a (zex hc n) hnb.2 ha)
      have eE:elr hd ⟨1,a,b⟩ (drp c n)=mpC (sbT (tv b) a) (drp c n):=by
       unfold elr;simp only[hr,if_true,hnb.1]
      simp only[cqE,tmE]at q3;simp[rW,h1,h2,h4,h8,g0,g1,hn,zbf,zcZ,zaH,zaF,zaN,hx,hK,zet,cmD,tmD,n0,n1,l1,qr];refine zaL ?_;simp[rW,h1,h2,h4,h8,g0,g1,hn,zbf,zcZ,zaH,zaF,hx,hK,cmD,tmD,n0,n1,l1,q2,q3];rw[eE];refine⟨rfl,?_,?_⟩
      .simp[rW,h4]
      .simp[rW,]<;>omega
     |false=>
      rw[hr]at qr;cases hl:frT hd a with
      |true=>
       have hna:nmT a=tv a/\tv a≠[]:=by
        cases a with
        |var w=>exact⟨rfl,ha⟩
        |cst w=>cases hl
       rw[hl]at ql;have q3:=fun f=>zaj (k:=f) (zrP (drp c n) (tv a) b (zex hc n) hna.2 hb)
       have eE:elr hd ⟨1,a,b⟩ (drp c n)=mpC (sbT (tv a) b) (drp c n):=by
        unfold elr;simp only[hr,hna.1];rfl
       simp only[cqE,tmE]at q3;simp[rW,h1,h2,h4,h8,g0,g1,hn,zbf,zcZ,zaH,zaF,zaN,hx,hK,zet,cmD,tmD,n0,n1,l1,qr,ql];refine zaL ?_;simp[rW,h1,h2,h4,h8,g0,g1,hn,zbf,zcZ,zaH,zaF,hx,hK,cmD,tmD,n0,n1,l1,q2,q3];rw[eE];refine⟨rfl,?_,?_⟩
       .simp[rW,h4]
       .simp[rW,]<;>omega
      |false=>
       rw[hl]at ql;simp[rW,h1,h2,h4,h8,g0,g1,hn,zbf,zcZ,zaH,zaF,zaN,hx,hK,zet,cmD,tmD,n0,n1,l1,qr,ql,hw];refine hB.up (by simp[rW,]) (fun x hx=> ?_) (by simp[rW,]);have nx:¬x=s.c:=by omega
       simp[rW,nx]
    .simp[rW,h1,h2,h4,h8,g0,g1,hn,zbf,zcZ,hx,hK,zet,cmD,tmD,n0,n1,ho,hw];refine hB.up (by simp[rW,]) (fun x hx=> ?_) (by simp[rW,]);have nx:¬x=s.c:=by omega
     simp[rW,nx]
   .rintro s ⟨hB,h8⟩;obtain⟨⟨h1,h2,h4,g0,g1⟩,hlo⟩ :=id hB;simp[rW,h1,h2,h4,h8,g0,g1,zbf];exact hB.up (by simp[rW,]) (fun x hx=>by simp[rW,]) (by simp[rW,])
   .refine⟨hB.up (by simp[rW,]) (fun x hx=>by simp[rW,]) (by simp[rW,]),?_⟩;simp[rW,]
   .rintro hno3 e s ⟨rfl,hB⟩;obtain⟨⟨h1,h2,h4,g0,g1⟩,hlo⟩ :=id hB;have l1:1<s.c:=by omega
    have hS:stR hd c=(c,0):=by rw[hS,Z43.2 hno3]
    rw[hS];simp[rW,h1,h2,h4,g0,g1,zaF,zaH,l1,cqE]
   .rintro n hn hp hbf e s ⟨k,hk,rfl,⟨h4,h5,g1⟩,hlo⟩;have hS:stR hd c=(elr hd k (drp c n),1):=by
     have e1:c.cs.findIdx? (eqV hd)=some n:=Z26.2 ⟨hn,hp,fun j hj=>by rw[hbf j hj];simp⟩;rw[hS,e1];simp only[hk,Option.getD_some]
    rw[hS];generalize elr hd k (drp c n)=d at*;simp[rW,h4,h5,g1,zaF,zaH,cqE]
  .rintro n hn hp hbf e s ⟨rfl,⟨h4,h5,g1⟩,hlo⟩;have hS:stR hd c=(drp c n,1):=by
    have e1:c.cs.findIdx? alT=some n:=Z26.2 ⟨hn,hp,fun j hj=>by rw[hbf j hj];simp⟩;rw[hS,e1]
   rw[hS];simp[rW,h4,h5,g1,zaF,zaH,cqE]
 .rintro n hn hp hbf e s ⟨rfl,⟨h4,h5,g1⟩,hlo⟩;have hS:stR hd c=(c,2):=by rw[hS,Z30.2 ⟨_,Z1 hn,hp⟩,if_pos rfl]
  rw[hS];simp[rW,h4,h5,g1,zaF,zaH,cqE]
def fn20:pr.fn 20=some g20:=by kernel_rfl
def smR(hd:List Str):Nat->CQ->Option CQ
 |0,_=>none
 |n+1,c=>if(stR hd c).2=1 then smR hd n (stR hd c).1 else if(stR hd c).2=0 then some (stR hd c).1 else none
def zk1(hd:List Str)(c:CQ):Option CQ:=smR hd (c.cs.length+1) c
def zew(hd:List Str)(l:List CQ):List CQ:=l.filterMap (zk1 hd)
def zuE{s:Str}{t u:Trm}(ht:zau t)(hu:zau u):zau (sbT s t u):=by
 unfold sbT;split
 .exact ht
 .exact hu
def zPa{hd:List Str}{k:Cm}{c:CQ}(hk:zbt k)(hc:CqG c):CqG (elr hd k c):=by
 unfold elr;split
 .exact zgS hc fun t ht=>zuE hk.1 ht
 .exact zgS hc fun t ht=>zuE hk.2 ht
def zLk{hd:List Str}{k:Cm}{c:CQ}:(elr hd k c).cs.length=c.cs.length:=by
 unfold elr;split<;>simp[mpC]
def zlV(hd:List Str){c:CQ}(hc:CqG c):((stR hd c).2=1/\CqG (stR hd c).1/\(stR hd c).1.cs.length<c.cs.length)\/((stR hd c).2=0/\(stR hd c).1=c)\/((stR hd c).2=2/\(stR hd c).1=c):=by
 unfold stR;split
 .exact .inr (.inr ⟨rfl,rfl⟩)
 .split
  .rename_i i hi;have h:=(zoM hi).1;exact .inl ⟨rfl,zex hc i,by show(drp c i).cs.length<_;rw[ze5 h];omega⟩
  .split
   .rename_i i hi;have h:=(zoM hi).1;have hk:zbt (c.cs[i]?.getD ⟨0,.cst 0,.cst 0⟩):=by
     rw[Z0 h,Option.getD_some];exact hc.toCqSm.toCqOk.cs _ (Z1 h)
    exact .inl ⟨rfl,zPa hk (zex hc i),by show(elr hd _ (drp c i)).cs.length<_;rw[zLk,ze5 h];omega⟩
   .exact .inr (.inl ⟨rfl,rfl⟩)
def UB(hd:List Str)(l:List CQ)(X:D)(n:Nat)(s:St):Prop:=s.tm.get 1=some (.ptr 0 2 0 0)/\s.tm.get 2=some (.ptr 1 2 0 0)/\s.tm.get 3=some (.ptr 2 2 0 0)/\s.tm.get 4=some (.f (.i .i64 n))/\s.h.get 0=some (.arr 2 0 [[.f (zaq hd),.f (qsF l)]])/\s.h.get 1=some (.arr 2 0 [[.f .nils,.f .nils]])/\s.h.get 2=some (.arr 2 0 [[.f (zaq hd),X]])
def U1(hd:List Str)(l:List CQ)(n:Nat)(s:St):Prop:=∃X,UB hd l X n s/\Gro s.h 3 s.c 2 X (zdQ (zew hd (l.take n)))/\3<=s.c
def U2(hd:List Str)(l:List CQ)(X:D)(n P:Nat)(d:CQ)(r:Int)(s:St):Prop:=UB hd l X n s/\Gro s.h 3 P 2 X (zdQ (zew hd (l.take n)))/\(s.tm.get 5=some (.ptr P 2 0 0)/\s.tm.get 6=some (.f (.i .i64 r))/\s.h.get P=some (.arr 2 0 [[.f (zaB d),.f (zaC d)]]))/\3<=P/\P<s.c
def U3(hd:List Str)(l:List CQ)(X:D)(n P:Nat)(R:Option CQ)(k:Nat)(s:St):Prop:=∃d r,U2 hd l X n P d r s/\((r=1/\CqG d/\d.cs.length<k/\smR hd (d.cs.length+1) d=R)\/(r=0/\R=some d)\/(r=2/\R=none))
def zFK(hd:List Str){d:CQ}(hd1:(stR hd d).2=1)(hlt:(stR hd d).1.cs.length<d.cs.length)(hG:CqG (stR hd d).1):smR hd (d.cs.length+1) d=smR hd ((stR hd d).1.cs.length+1) (stR hd d).1:=by
 have key:∀(m:Nat) (e:CQ),CqG e->e.cs.length<=m->∀n,e.cs.length<n->smR hd n e=smR hd (e.cs.length+1) e:=by
  intro m
  induction m with
  |zero=>
   intro e he hm n hn;obtain⟨n,rfl⟩ :∃k,n=k+1:=⟨n - 1,by omega⟩
   have h0:e.cs.length=0:=by omega
   rcases zlV hd he with⟨h1,-,h3⟩ |⟨h1,h2⟩ |⟨h1,h2⟩
   .omega
   .simp[smR,h1]
   .simp[smR,h1]
  |succ m ih=>
   intro e he hm n hn;obtain⟨n,rfl⟩ :∃k,n=k+1:=⟨n - 1,by omega⟩
   rcases zlV hd he with⟨h1,h2,h3⟩ |⟨h1,h2⟩ |⟨h1,h2⟩
   .simp only[smR,h1,if_true];rw[ih _ h2 (by omega) n (by omega),ih _ h2 (by omega) e.cs.length h3]
   .simp[smR,h1]
   .simp[smR,h1]
 rw[smR,if_pos hd1];exact key _ _ hG (Z2 _) _ hlt
def U2.cs{hd:List Str}{l:List CQ}{X:D}{n P:Nat}{d:CQ}{r:Int}{s:St}(h:U2 hd l X n P d r s):UB hd l X n s/\Gro s.h 3 P 2 X (zdQ (zew hd (l.take n)))/\(s.tm.get 5=some (.ptr P 2 0 0)/\s.tm.get 6=some (.f (.i .i64 r))/\s.h.get P=some (.arr 2 0 [[.f (zaB d),.f (zaC d)]]))/\3<=P/\P<s.c:=h
def U2.up{hd:List Str}{l:List CQ}{X:D}{n P:Nat}{d:CQ}{r:Int}{s S:St}(H:U2 hd l X n P d r s)(hc:s.c<=S.c)(hh:∀x,x<s.c->S.h.get x=s.h.get x)(ht:S.tm.get 1=s.tm.get 1/\S.tm.get 2=s.tm.get 2/\S.tm.get 3=s.tm.get 3/\S.tm.get 4=s.tm.get 4/\S.tm.get 5=s.tm.get 5/\S.tm.get 6=s.tm.get 6):U2 hd l X n P d r S:=by
 obtain⟨⟨h1,h2,h3,h4,g0,g1,g2⟩,hX,⟨h5,h6,gP⟩,hP1,hP2⟩ :=H;obtain⟨t1,t2,t3,t4,t5,t6⟩ :=ht;exact⟨⟨t1.trans h1,t2.trans h2,t3.trans h3,t4.trans h4,(hh _ (by omega)).trans g0,(hh _ (by omega)).trans g1,(hh _ (by omega)).trans g2⟩,zaS hX (Z2 _) fun x h1 h2=>hh x (by omega),⟨t5.trans h5,t6.trans h6,(hh _ hP2).trans gP⟩,hP1,by omega⟩
def zrn(hd:List Str)(l:List CQ)(q:CQ):zew hd (l++[q])=zew hd l++(zk1 hd q).toList:=by
 unfold zew;rw[List.filterMap_append];cases h:zk1 hd q<;>simp[h]
def znZ(hd:List Str)(l:List CQ)(hQ:QG hd l):Ans pr 20 [.ag [zaq hd,qsF l]] (.ag [zaq hd,qsF (zew hd l)]):=by
 obtain⟨hh,hl,hq⟩ :=hQ;refine zbd fn20 ?_;simp only[g20,rU];simp[rW,st0,zae,zaN,zcy,zcC];refine zdi l.length (U1 hd l) (fun e s=>e= .exit 0/\U1 hd l l.length s) ?_ ?_ _ ?_ ?_
 .rintro n s hn ⟨X,⟨h1,h2,h3,h4,g0,g1,g2⟩,hX,hlo⟩;have hw:=zao n (by omega);have hx:l[n]? =some l[n]:=Z0 hn;have hG:=hq _ (Z1 hn);have hk2:=Z6 hn;generalize hA:l[n]=q at hx hG hk2;have n0:¬(0=s.c):=by omega
  have n1:¬(1=s.c):=by omega
  have n2:¬(2=s.c):=by omega
  simp[rW,h1,h2,h3,h4,g0,g1,g2,hn,zbN,zdr,hx,hA,cqE,zaF,zaH,n0,n1,n2];refine zfE (U3 hd l X n s.c (zk1 hd q)) (fun e s'=>e= .exit 2/\∃d r,U2 hd l X n s.c d r s'/\((r=0/\zk1 hd q=some d)\/(r=2/\zk1 hd q=none))) ?_ (q.cs.length+1) _ ?_ ?_
  .generalize zk1 hd q=R;rintro k s' ⟨d,r,hU,hr⟩;obtain⟨⟨h1,h2,h3,h4,g0,g1,g2⟩,hX,⟨h5,h6,gP⟩,hP1,hP2⟩ :=U2.cs hU;rcases hr with⟨rfl,hd',hdk,hR⟩ |⟨rfl,hR⟩ |⟨rfl,hR⟩
   .have q53:=fun f=>zaj (k:=f) (ans53 hd d hh hd')
    simp only[cqE]at q53;have hcase:=zlV hd hd';have hfuel:=zFK hd (d:=d);have hR0:smR hd (d.cs.length+1) d=R:=hR;rw[smR]at hR0;generalize stR hd d=e at q53 hcase hfuel hR0;obtain⟨e,r'⟩ :=e;simp only at q53 hcase hfuel hR0;have n0:¬(0=s.c):=by omega
    have n1:¬(1=s.c):=by omega
    have n2:¬(2=s.c):=by omega
    simp[rW,h1,h2,h3,h4,h5,h6,g0,g1,g2,gP,q53,zaF,zaH,zaN,zgb];refine⟨by omega,?_⟩;rw[zdk];refine⟨k - 1,by omega,e,r',⟨?_,zaS hX (Z2 _) fun x h1 h2=> ?_,?_,hP1,?_⟩,?_⟩
    .unfold UB;simp[rW,h1,h2,h3,h4,g0,g1,g2,n0,n1,n2]
    .have nx:¬x=s.c:=by omega
     simp[rW,nx]
    .simp[rW,h5]
    .simp[rW,];omega
    .rcases hcase with⟨c1,c2,c3⟩ |⟨c1,c2⟩ |⟨c1,c2⟩
     .exact .inl ⟨c1,c2,by omega,(hfuel c1 c3 c2).symm.trans hR⟩
     .subst c1;exact .inr (.inl ⟨rfl,by rw[<-hR0];simp⟩)
     .subst c1;exact .inr (.inr ⟨rfl,by rw[<-hR0];simp⟩)
   .simp[rW,h1,h2,h3,h4,h5,h6,g0,g1,g2,gP];exact⟨d,0,hU.up (by simp[rW,]) (fun x hx=>by simp[rW,]) (by simp[rW,]),.inl ⟨rfl,hR⟩⟩
   .simp[rW,h1,h2,h3,h4,h5,h6,g0,g1,g2,gP];exact⟨d,2,hU.up (by simp[rW,]) (fun x hx=>by simp[rW,]) (by simp[rW,]),.inr ⟨rfl,hR⟩⟩
  .refine⟨q,1,⟨?_,zaS hX (Z2 _) fun x h1 h2=> ?_,?_,hlo,?_⟩,.inl ⟨rfl,hG,by omega,rfl⟩⟩
   .unfold UB;simp[rW,h1,h2,h3,h4,g0,g1,g2,n0,n1,n2]
   .have nx:¬x=s.c:=by omega
    simp[rW,nx]
   .simp[rW,]
   .simp[rW,]
  .rintro e s' ⟨rfl,d,r,hU,hr⟩;obtain⟨⟨h1,h2,h3,h4,g0,g1,g2⟩,hX,⟨h5,h6,gP⟩,hP1,hP2⟩ :=U2.cs hU;rcases hr with⟨rfl,hR⟩ |⟨rfl,hR⟩
   .have hXc:=za3 hX;have hlen:(zdQ (zew hd (l.take n))).length<=1000:=by
     rw[zhb];exact Z3 (List.length_filterMap_le ..) (by simp;omega)
    simp[rW,h1,h2,h3,h4,h5,h6,g0,g1,g2,gP,hXc];refine zey (zaS (c':=s'.c) hX (by omega) fun _ _ _=>rfl) (by omega) (by simp;omega) (by omega) ?_;intro r2 hr1 hr2 hr3 hr4 hr5;have z0:=hr4 0 (by omega) (za5 hX (by omega));have z1:=hr4 1 (by omega) (za5 hX (by omega));have z2:=hr4 2 (by omega) (za5 hX (by omega));rw[g0]at z0;rw[g1]at z1;rw[g2]at z2;refine⟨hr1,?_⟩;simp[rW,z2,za3 hr2,h4,hw];refine⟨by omega,r2.d,?_,?_,?_⟩
    .unfold UB;simp[rW,h1,h2,h3,h4,z0,z1,z2,hw]
    .rw[hk2,zrn,hR];have e2:zdQ (zew hd (l.take n)++(some d).toList)=zdQ (zew hd (l.take n))++[[.f (zaB d),.f (zaC d)]]:=by simp[zdQ]
     rw[e2];refine zaS hr2 (by simp[rW,]) fun x h1 h2=> ?_
     have nx:¬x=2:=by omega
     simp[rW,nx]
    .simp[rW,];omega
   .simp[rW,h1,h2,h3,h4,h5,h6,g0,g1,g2,gP,hw];refine⟨X,?_,?_,?_⟩
    .unfold UB;simp[rW,h1,h2,h3,h4,g0,g1,g2,hw]
    .rw[hk2,zrn,hR];simp only[Option.toList_none,Z22];refine zaS hX (by simp[rW,];omega) fun x h1 h2=> ?_
     simp[rW,]
    .simp[rW,];omega
 .rintro s ⟨X,⟨h1,h2,h3,h4,g0,g1,g2⟩,hX,hlo⟩;simp[rW,h1,h2,h3,h4,g0,g1,g2,zbN];rw[Z7]at hX;refine⟨X,?_,by simp[rW,];exact hX,by simp[rW,];omega⟩;unfold UB;simp[rW,h1,h2,h3,h4,g0,g1,g2]
 .refine⟨.f .nils,?_,.inl ⟨rfl,by simp[zew,zdQ]⟩,by simp[rW,]⟩;unfold UB;simp[rW,]
 .rintro e s ⟨rfl,X,⟨h1,h2,h3,h4,g0,g1,g2⟩,hX,hlo⟩;rw[Z7]at hX;generalize zew hd l=m at hX|-;have hXc:=za3 hX;have l1:1<s.c:=by omega
  obtain⟨rd,hz⟩ :=zmq (k:=10) (zaS (h':=s.h.set 1 (.arr 2 0 [[.f (zaq hd),X]])) hX (Z2 _) fun x h1 h2=>by
   have nx:¬x=1:=by omega
   simp[Vse.T.zad,nx]) (zDW _ 9 m) (by simp[zdQ])
  simp[rW,h1,h2,h3,h4,g0,g1,g2,hXc,zcC,l1,hz];rfl
def fn12:pr.fn 12=some g12:=by kernel_rfl
inductive RrN (hd:List Str) (stp:List CQ->Option (Nat×List CQ)):Nat->List CQ->Option (List CQ)->Prop
 |big {k l} (hQ:QG hd l) (h:64<l.length):RrN hd stp k l none
 |stop {k l} (hQ:QG hd l) (h:l.length<=64) (hs:stp l=none):RrN hd stp k l (some l)
 |too {k l i L} (hQ:QG hd l) (h:l.length<=64) (hs:stp l=some (i,L)) (hi:i<l.length) (h2:2<=L.length) (h3:L.length<=10) (h4:64< (rp l i L).length):RrN hd stp k l none
 |go {k l i L r} (hQ:QG hd l) (h:l.length<=64) (hs:stp l=some (i,L)) (hi:i<l.length) (h2:2<=L.length) (h3:L.length<=10) (h4:(rp l i L).length<=64) (hG:QG hd (rp l i L)) (hR:RrN hd stp k (zew hd (rp l i L)) r):RrN hd stp (k+1) l r
def shR(hd:List Str)(l:List CQ):Option (Nat×List CQ):=match nsS hd l with
 |some p=>match l[p.1]? with
  |some c=>some (p.1,zhU c p.2.1 p.2.2)
  |none=>none
 |none=>none
def ztv{hd:List Str}{l:List CQ}{i:Nat}{s:Str}{v:Int}(h:nsS hd l=some (i,s,v)):∃hi:i<l.length,nsQ hd l (ze2 l) l[i]=some (s,v)/\s≠[]:=by
 unfold nsS at h;split at h
 .rename_i j hj;obtain⟨hjl,-⟩ :=zej hj;rw[Z0 hjl]at h;simp only[Option.map_eq_some_iff]at h;obtain⟨p,h1,h2⟩ :=h;cases h2;refine⟨hjl,h1,?_⟩;unfold nsQ at h1;obtain⟨x,hx,h1⟩ :=List.exists_of_findSome?_eq_some h1;unfold nsN at h1;split at h1
  .cases h1
  .simp only[Option.map_eq_some_iff]at h1;obtain⟨t,-,h3⟩ :=h1;cases h3;exact zhO _ _ hx
 .cases h
def zFC{hd:List Str}{l:List CQ}(h:shR hd l=none):nsS hd l=none:=by
 unfold shR at h;cases hn:nsS hd l with
 |none=>rfl
 |some p=>
  obtain⟨i,s,v⟩ :=p;obtain⟨hi,-⟩ :=ztv hn;rw[hn]at h;simp only[Z0 hi]at h;cases h
def zuj{hd:List Str}{l L:List CQ}{i:Nat}(h:shR hd l=some (i,L)):∃(hi:i<l.length) (s:Str) (v:Int),nsS hd l=some (i,s,v)/\s≠[]/\L=zhU l[i] s v:=by
 unfold shR at h;cases hn:nsS hd l with
 |none=>rw[hn]at h;cases h
 |some p=>
  obtain⟨j,s,v⟩ :=p;obtain⟨hj,-,hs⟩ :=ztv hn;rw[hn]at h;simp only[Z0 hj]at h;cases h;exact⟨hj,s,v,rfl,hs,rfl⟩
def TB(hd:List Str)(l:List CQ)(s:St):Prop:=(s.tm.get 1=some (.ptr 0 2 0 0)/\s.tm.get 2=some (.ptr 1 2 0 0)/\s.h.get 0=some (.arr 2 0 [[.f (zaq hd),.f (qsF l)]])/\s.h.get 1=some (.arr 2 0 [[.f .nils,.f .nils]]))/\2<=s.c
def TI(hd:List Str)(stp:List CQ->Option (Nat×List CQ))(r:Option (List CQ))(k:Nat)(s:St):Prop:=∃l,RrN hd stp k l r/\TB hd l s
def rwE(hd:List Str):Option (List CQ)->List D
 |none=>[.f .nils,.f .nils]
 |some l=>[.f (zaq hd),.f (qsF l)]
def rwC:Option (List CQ)->Int
 |none=>4
 |some _=>0
def TR(hd:List Str)(r:Option (List CQ))(e:Ex)(s:St):Prop:=e= .ret/\(s.tm.get 2=some (.ptr 1 2 0 0)/\s.tm.get 3=some (.f (.i .i64 (rwC r)))/\s.h.get 1=some (.arr 2 0 [rwE hd r]))/\2<=s.c
def ans12(hd:List Str)(l0:List CQ)(hQ0:QG hd l0){k:Nat}{r:Option (List CQ)}(hR:RrN hd (shR hd) k (zew hd l0) r):Ans pr 12 [.ag [zaq hd,qsF l0]] (rwF hd r):=by
 refine zbd fn12 ?_;simp only[g12,rU];have q20:=fun f=>zaj (k:=f) (znZ hd l0 hQ0)
 generalize zew hd l0=m0 at hR q20;simp[rW,st0,zae,zaN,zcy,zcC,q20];refine zfE (TI hd (shR hd) r) (TR hd r) ?_ k _ ?_ ?_
 .rintro k s ⟨l,hR,⟨h1,h2,g0,g1⟩,hlo⟩;have l1:1<s.c:=by omega
  have l0:0<s.c:=by omega
  have ls:1<s.c+1:=by omega
  have n0:¬(0=s.c):=by omega
  have n1:¬(1=s.c):=by omega
  cases hR with
  |big hQ hb=>
   have hb':(64:Int)<l.length:=by omega
   simp -implicitDefEqProofs [rW,h1,h2,g0,g1,zbN,hb',l1];refine⟨rfl,?_,?_⟩
   .simp -implicitDefEqProofs [rW,h2,rwC,rwE]
   .simp[rW,];exact hlo
  |stop hQ hb hs=>
   have hb':¬(64:Int)<l.length:=by omega
   have q35:=fun f=>zaj (k:=f) (zxO hd l hQ)
   rw[zFC hs,nsR,zF]at q35;simp -implicitDefEqProofs [rW,h1,h2,g0,g1,zbN,hb',l1,q35,zaN,zcy,n0,n1,ls];refine⟨rfl,?_,?_⟩
   .simp -implicitDefEqProofs [rW,h2,rwC,rwE,n1]
   .simp[rW,];omega
  | @too _ _ i L hQ hb hs hi hL2 hL3 h4=>
   obtain⟨hi',sv,v,hn,hs0,rfl⟩ :=zuj hs;have hb':¬(64:Int)<l.length:=by omega
   have q35:=fun f=>zaj (k:=f) (zxO hd l hQ)
   rw[hn,nsR]at q35;have q9:=fun f=>zaj (k:=f) (zDD l[i] sv v (hQ.2.2 _ (Z1 hi)))
   have q36:=fun f=>zaj (k:=f) (zrL hd l (zhU l[i] sv v) i hi hQ.2.1 hL2 hL3)
   simp only[if_neg hs0]at q9;have hx:l[i]? =some l[i]:=Z0 hi;have hb2:(64:Int)< (rp l i (zhU l[i] sv v)).length:=by omega
   generalize hA:l[i]=A at*;simp only[cqE,vF]at q9 q35;simp -implicitDefEqProofs [rW,h1,h2,g0,g1,zbN,hb',l1,q35,zaN,zcy,n0,n1,ls];refine ziK (fun S=>s.c<S.c/\(S.tm.get 1=some (.ptr 0 2 0 0)/\S.tm.get 2=some (.ptr 1 2 0 0)/\S.tm.get 4=some (.f (.i .i64 i))/\S.tm.get 5=some (.f (.s sv))/\S.tm.get 6=some (.ptr s.c 3 0 0)/\S.h.get 0=some (.arr 2 0 [[.f (zaq hd),.f (qsF l)]])/\S.h.get 1=some (.arr 2 0 [[.f .nils,.f .nils]]))/\S.h.get s.c=some (.arr 3 0 [[.f (.i .i64 1),.f (.i .i64 v),.f (.s [])]])) ⟨?_,?_,?_⟩ ?_
   .simp[rW,]
   .simp -implicitDefEqProofs [rW,h1,h2,g0,g1,n0,n1]
   .simp[rW,]
   clear h1 h2 g0 g1;rintro S ⟨hSc,⟨h1,h2,h4,h5,h6,g0,g1⟩,gs⟩;have l1':1<S.c:=by omega
   have l0':0<S.c:=by omega
   refine zaL ?_;simp -implicitDefEqProofs [rW,h1,h2,h4,h5,h6,g0,g1,gs,zbN,l1',l0',zaN,zcy,zcC,hi,zdr,hx,hA,cqE,zaF,zaH,q9,q36,hb2];refine⟨rfl,?_,?_⟩
   .simp -implicitDefEqProofs [rW,h2,rwC,rwE]
   .simp[rW,]<;>omega
  | @go k' _ i L _ hQ hb hs hi hL2 hL3 h4 hG hR=>
   obtain⟨hi',sv,v,hn,hs0,rfl⟩ :=zuj hs;have hb':¬(64:Int)<l.length:=by omega
   have q35:=fun f=>zaj (k:=f) (zxO hd l hQ)
   rw[hn,nsR]at q35;have q9:=fun f=>zaj (k:=f) (zDD l[i] sv v (hQ.2.2 _ (Z1 hi)))
   have q36:=fun f=>zaj (k:=f) (zrL hd l (zhU l[i] sv v) i hi hQ.2.1 hL2 hL3)
   simp only[if_neg hs0]at q9;have hx:l[i]? =some l[i]:=Z0 hi;have hb2:¬(64:Int)< (rp l i (zhU l[i] sv v)).length:=by omega
   have q20:=fun f=>zaj (k:=f) (znZ hd _ hG)
   generalize hA:l[i]=A at*;simp only[cqE,vF]at q9 q35;simp -implicitDefEqProofs [rW,h1,h2,g0,g1,zbN,hb',l1,q35,zaN,zcy,n0,n1,ls];refine ziK (fun S=>s.c<S.c/\(S.tm.get 1=some (.ptr 0 2 0 0)/\S.tm.get 2=some (.ptr 1 2 0 0)/\S.tm.get 4=some (.f (.i .i64 i))/\S.tm.get 5=some (.f (.s sv))/\S.tm.get 6=some (.ptr s.c 3 0 0)/\S.h.get 0=some (.arr 2 0 [[.f (zaq hd),.f (qsF l)]])/\S.h.get 1=some (.arr 2 0 [[.f .nils,.f .nils]]))/\S.h.get s.c=some (.arr 3 0 [[.f (.i .i64 1),.f (.i .i64 v),.f (.s [])]])) ⟨?_,?_,?_⟩ ?_
   .simp[rW,]
   .simp -implicitDefEqProofs [rW,h1,h2,g0,g1,n0,n1]
   .simp[rW,]
   clear h1 h2 g0 g1;rintro S ⟨hSc,⟨h1,h2,h4,h5,h6,g0,g1⟩,gs⟩;have l1':1<S.c:=by omega
   have l0':0<S.c:=by omega
   refine zaL ?_;simp -implicitDefEqProofs [rW,h1,h2,h4,h5,h6,g0,g1,gs,zbN,l1',l0',zaN,zcy,zcC,hi,zdr,hx,hA,cqE,zaF,zaH,q9,q36,hb2,q20];rw[zdk];refine⟨k',by omega,_,hR,?_,?_⟩
   .simp -implicitDefEqProofs [rW,h1,h2,g1]
   .simp[rW,]<;>omega
 .refine⟨m0,hR,?_,?_⟩
  .simp[rW,]
  .simp[rW,]
 .rintro e s ⟨rfl,⟨h2,h3,g1⟩,hlo⟩;cases r with
  |none=>simp -implicitDefEqProofs [rW,h2,h3,g1,rwE,rwC,rwF]
  |some l=>simp -implicitDefEqProofs [rW,h2,h3,g1,rwE,rwC,rwF,zaN,zcy,zcC]
end Go.Proofs.YtmnkdfjljkhneaaGreat
end
