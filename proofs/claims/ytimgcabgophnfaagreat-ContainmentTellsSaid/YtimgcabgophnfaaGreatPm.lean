/- The reference's Minimize. -/
import Derived.Test.YtimgcabgophnfaaGreatPl
import Derived.KernelRfl
import Derived.IntWalk
import Derived.Test.YtimgcabgophnfaaGreatPk
set_option linter.all false
section
namespace Go.Proofs.YtimgcabgophnfaaGreat
open Go Go.Vse Go.Vse.Sm
set_option maxRecDepth 100000
set_option maxHeartbeats 1000000
set_option linter.all false
theorem fn23:pr.fn 23=some g23:=by kernel_rfl
theorem zMs{hd:List Str}{c:CQ}(hc:zbu c)(i:Nat):zbu (znq hd c i):=by
 unfold znq;split
 ·exact zkP hc i true
 ·exact hc
theorem zxo(hd:List Str):∀(k:Nat) (c:CQ),zbu c->zbu (zev hd k c)
 |0,_,hc=>hc
 |k+1,c,hc=>zxo hd k _ (zMs hc k)
def oth(L:List CQ)(i:Nat):List CQ:=L.take i++L.drop (i+1)
def min1(hd:List Str)(L:List CQ)(i:Nat):List CQ:=if(∃d,L[i]? =some d/\((oth L i).any fun c=>exR hd c d)=true)then oth L i else L
def minL(hd:List Str):Nat->List CQ->List CQ
 |0,L=>L
 |k+1,L=>minL hd k (min1 hd L k)
def zu6(hd:List Str)(l:List CQ):List CQ:=minL hd l.length (l.map fun c=>zev hd c.as.length c)
theorem zM6{L:List CQ}{i:Nat}{p:CQ->Bool}:(oth L i).any p=true↔∃k,∃h:k<L.length,k≠i/\p L[k]=true:=by
 unfold oth;rw[List.any_append,Bool.or_eq_true,List.any_eq_true,List.any_eq_true];constructor
 ·rintro (⟨x,hx,hp⟩ |⟨x,hx,hp⟩)
  ·obtain⟨k,hk,rfl⟩ :=List.getElem_of_mem hx;simp only[List.length_take]at hk;exact⟨k,by omega,by omega,by simpa using hp⟩
  ·obtain⟨k,hk,rfl⟩ :=List.getElem_of_mem hx;simp only[List.length_drop]at hk;exact⟨i+1+k,by omega,by omega,by simpa using hp⟩
 ·rintro⟨k,hk,hki,hp⟩;rcases Nat.lt_or_gt_of_ne hki with h|h
  ·exact .inl ⟨L[k],List.mem_take_iff_getElem.2 ⟨k,by omega,rfl⟩,hp⟩
  ·exact .inr ⟨L[k],List.mem_drop_iff_getElem.2 ⟨k - (i+1),by omega,by congr 1;omega⟩,hp⟩
theorem zrz{L:List CQ}{i:Nat}{c:CQ}(h:c∈oth L i):c∈L:=by
 rcases List.mem_append.1 h with h|h
 ·exact List.mem_of_mem_take h
 ·exact List.mem_of_mem_drop h
theorem zry{L:List CQ}{i:Nat}(h:i<L.length):(oth L i).length=L.length - 1:=by
 unfold oth;simp;omega
def zcm(l:List CQ):List (List D):=l.map fun c=>[D.f (zaC c),D.f (zaF c)]
theorem zcf(l:List CQ):(zcm l).length=l.length:=by simp[zcm]
theorem znz(l:List CQ)(n:Nat):(zcm l)[n]? =(l[n]?).map fun c=>[D.f (zaC c),D.f (zaF c)]:=by simp[zcm]
theorem zjm(l:List CQ)(c:CQ):zcm (l++[c])=zcm l++[[D.f (zaC c),D.f (zaF c)]]:=by simp[zcm]
theorem ziZ(h:Nat->Option Ob)(k:Nat)(l:List CQ):zaT (frz h (k+1)) (zcm l)=some (l.map cqF,[]):=by
 have:=zjq h k (l.map cqF);rw[List.map_map]at this;exact this
theorem zCn(l:List Str):(D.f (zas l)).cells=some [.f (zas l)]:=zgr _ _
def XN0(hd:List Str)(l:List CQ)(L:List CQ)(s:St):Prop:=∃d,(s.tm.get 1=some (.ptr 0 2 0 0)/\s.tm.get 2=some (.ptr 1 2 0 0)/\s.tm.get 3=some (.ptr 2 2 0 0)/\s.h.get 0=some (.arr 2 0 [[.f (zas hd),.f (qsF l)]])/\s.h.get 1=some (.arr 2 0 [[.f .nils,.f .nils]])/\s.h.get 2=some (.arr 2 0 [[.f (zas hd),d]]))/\Gro s.h 3 s.c 2 d (zcm L)/\3≤s.c
def XN1(hd:List Str)(l:List CQ)(n:Nat)(a:List CQ)(s:St):Prop:=XN0 hd l a s/\s.tm.get 4=some (.f (.i .i64 n))
def XN2(hd:List Str)(l:List CQ)(R:List CQ)(k:Nat)(s:St):Prop:=∃(L:List CQ) (z:Int),(z=(k:Int) - 1/\k≤L.length/\QOk L/\L≠[]/\minL hd k L=R)/\XN0 hd l L s/\s.tm.get 5=some (.f (.i .i64 z))
def XN3(hd:List Str)(l:List CQ)(L:List CQ)(i:Nat)(d:CQ)(k:Nat)(s:St):Prop:=∃(n:Nat) (b:Bool),(k=L.length - n/\n≤L.length/\(if b=true then ∃k,∃h:k<L.length,k≠i/\exR hd L[k] d=true else ∀k,∀h:k<L.length,k<n->k≠i->exR hd L[k] d=false))/\XN0 hd l L s/\(s.tm.get 5=some (.f (.i .i64 i))/\s.tm.get 6=some (.f (.b b))/\s.tm.get 7=some (.f (.i .i64 n)))
theorem zHZ(hd:List Str)(l:List CQ)(hh:hd.length<1000)(hl:QOk l)(h0:l≠[]):Ans pr 23 [.ag [zas hd,qsF l]] (.ag [zas hd,qsF (zu6 hd l)]):=by
 refine za1 fn23 ?_;simp only[g23,rU];simp[rW,st0,zae,zaL,zfS,zCn];refine zd5 l (fun x c=>x++[zev hd c.as.length c]) [] (fun n a s=>XN1 hd l n a s) (fun x s=>x= .exit 0/\XN0 hd l (l.map fun c=>zev hd c.as.length c) s) ?_ ?_ _ ?_ ?_
 ·rintro n a s hn ha ⟨⟨d,⟨h1,h2,h3,g0,g1,g2⟩,hg,hc3⟩,h4⟩;have hw:=zao n (by have:=hl.2;omega);have hal:a.length≤1000:=by
   rw[zdR (fun c=>[zev hd c.as.length c]),List.nil_append]at ha;have:=zf0 (fun c:CQ=>[zev hd c.as.length c]) 1 (l.take n) (by simp);rw[<-ha]at this;have:=hl.2;simp at*;omega
  have hs:=hl.1 _ (List.getElem_mem hn);have hx:l[n]? =some l[n]:=List.getElem?_eq_getElem hn;generalize hA:l[n]=A at hs hx⊢;have q20:=fun k=>zak (k:=k) (zHW A hd hs hh)
  generalize zev hd A.as.length A=R at q20⊢;simp only[cqE]at q20;simp[rW,h1,h2,h3,h4,g0,g1,g2,h4,zdD,hn];refine zay ?_;simp[rW,h1,h2,h3,h4,g0,g1,g2,h4,zh3,hx,hn,hA,cqE,zaV,zaW,zaL,q20];refine zgc (zcb hg (by omega) fun _ _ _=>rfl) (by omega) (by rw[zcf];simp;omega) (by omega) ?_;intro r hr1 hr2 hr3 hr4 hr5;have e0:=hr4 0 (by omega) (zbQ hg (by omega));have e1:=hr4 1 (by omega) (zbQ hg (by omega));have e2:=hr4 2 (by omega) (zbQ hg (by omega));rw[g0]at e0;rw[g1]at e1;rw[g2]at e2;refine⟨hr1,?_⟩;simp[rW,e2,zcS hr2];refine⟨by omega,⟨r.d,?_,?_,?_⟩,?_⟩
  ·simp[rW,h1,h2,h3,e0,e1,e2]
  ·simp[rW,];rw[zjm];exact zcb hr2 (by omega) fun x h1 h2=>by simp[rW,];omega
  ·simp[rW,]
  ·simp[rW,hw]
 ·rintro s ⟨⟨d,⟨h1,h2,h3,g0,g1,g2⟩,hg,hc3⟩,h4⟩;rw[zdR (fun c=>[zev hd c.as.length c]),List.nil_append]at hg;simp[rW,h1,h2,h3,g0,g1,g2,h4,zdD];refine⟨d,?_,?_,?_⟩
  ·simp[rW,h1,h2,h3,g0,g1,g2]
  ·rw[List.map_eq_flatMap];exact hg
  ·exact hc3
 ·refine⟨⟨.f .nils,?_,.inl ⟨rfl,rfl⟩,?_⟩,?_⟩
  ·simp[rW,]
  ·simp[rW,]
  ·simp[rW,]
 ·rintro x s ⟨rfl,d,⟨h1,h2,h3,g0,g1,g2⟩,hg,hc3⟩;have hL:QOk (l.map fun c=>zev hd c.as.length c):=⟨fun c hc=>by
   obtain⟨e,he,rfl⟩ :=List.mem_map.1 hc;exact zxo hd _ e (hl.1 e he),by simpa using hl.2⟩
  have hL0:(l.map fun c=>zev hd c.as.length c)≠[]:=by simpa using h0
  have hLl:(l.map fun c=>zev hd c.as.length c).length=l.length:=by simp
  unfold zu6;generalize (l.map fun c=>zev hd c.as.length c)=L at hg hL hL0 hLl⊢;rw[<-hLl];obtain⟨z0,hz0⟩ :∃z0:Int,z0=(L.length:Int) - 1:=⟨_,rfl⟩
  have hw0:IntKind.i64.wrap ((L.length:Int) - 1)=z0:=by rw[hz0];exact IntWalk.i64_in _ (by have:=hL.2;omega)
  have hlen:=Go.Vse.zeK hg;rw[zcf]at hlen;simp[rW,h1,h2,h3,g0,g1,g2,hlen,hw0];refine zcu (XN2 hd l (minL hd L.length L)) (fun x s=>x= .exit 2/\XN0 hd l (minL hd L.length L) s) ?_ L.length _ ?_ ?_
  ·generalize minL hd L.length L=R;clear hw0 hz0 hL hL0 hLl hg hlen;clear L;rintro k s ⟨L,z,⟨hz,hk,hL,hL0,hR⟩,⟨d,⟨h1,h2,h3,g0,g1,g2⟩,hg,hc3⟩,h5⟩;cases k with
   |zero=>
    have hz0:¬(0≤z):=by omega
    simp[rW,h1,h2,h3,g0,g1,g2,h5,hz0];subst hR;refine⟨d,?_,hg,hc3⟩;simp[rW,h1,h2,h3,g0,g1,g2]
   |succ i=>
    have hz1:z=(i:Int):=by omega
    subst hz1;obtain⟨z2,hz2⟩ :∃z2:Int,z2=(i:Int) - 1:=⟨_,rfl⟩
    have hw:IntKind.i64.wrap ((i:Int) - 1)=z2:=by rw[hz2];exact IntWalk.i64_in _ (by have:=hL.2;omega)
    have hi:i<L.length:=by omega
    have hxi:L[i]? =some L[i]:=List.getElem?_eq_getElem hi;have hsi:=hL.1 _ (List.getElem_mem hi);have hm1:min1 hd L i=if((oth L i).any fun c=>exR hd c L[i])=true then oth L i else L:=by
     unfold min1;rw[hxi];simp
    have hR':minL hd i (min1 hd L i)=R:=hR;rw[hm1]at hR';have hot:=@zM6 L i fun c=>exR hd c L[i]
    generalize hE:L[i]=e at hxi hsi hR' hot;simp[rW,h1,h2,h3,g0,g1,g2,h5];refine zcu (XN3 hd l L i e) (fun x s=>x= .exit 4/\XN0 hd l L s/\(s.tm.get 5=some (.f (.i .i64 i))/\s.tm.get 6=some (.f (.b ((oth L i).any fun c=>exR hd c e))))) ?_ L.length _ ?_ ?_
    ·rintro k s ⟨n,b,⟨rfl,hn,hb⟩,⟨d,⟨h1,h2,h3,g0,g1,g2⟩,hg,hc3⟩,h5,h6,h7⟩;have hlen:=Go.Vse.zeK hg;rw[zcf]at hlen
     by_cases hnl:n<L.length
     ·cases b with
      |true=>
       have e1:((oth L i).any fun c=>exR hd c e)=true:=hot.2 (by simpa using hb);simp[rW,h1,h2,h3,h5,h6,h7,g0,g1,g2,hlen,hnl,e1];refine⟨d,?_,hg,hc3⟩;simp[rW,h1,h2,h3,g0,g1,g2]
      |false=>
       simp only[Bool.false_eq_true,if_false]at hb;have hwn:=zao n (by have:=hL.2;omega);have hy:L[n]? =some L[n]:=List.getElem?_eq_getElem hnl;have hsc:=hL.1 _ (List.getElem_mem hnl)
       by_cases hni:n=i
       ·subst hni;simp[rW,h1,h2,h3,h5,h6,h7,g0,g1,g2,hlen,hnl];rw[zbh];refine⟨L.length - (n+1),by omega,n+1,false,⟨rfl,by omega,?_⟩,⟨d,?_,hg,hc3⟩,?_⟩
        ·simp only[Bool.false_eq_true,if_false];intro k hk hkn hki;exact hb k hk (by omega) hki
        ·simp[rW,h1,h2,h3,g0,g1,g2]
        ·simp[rW,h5,h6,h7,hwn]
       ·have q9:=fun k=>zak (k:=k) (zFf L[n] e hd hsc hsi hh)
        have hex:exR hd L[n] e=(zhg L[n] e hd).isSome:=rfl;have hni':¬((n:Int)=i):=by omega
        generalize hC:L[n]=c at hy hsc q9 hex;obtain⟨id,ro,rfl,hne,gd,hro,hlo,hhi⟩ :=hg.resolve_left (fun h=>hL0 (by simpa [zcm]using h.2));have gx:(zcm L)[n]? =some [D.f (zaC c),D.f (zaF c)]:=by rw[znz,hy];rfl
        have gy:(zcm L)[i]? =some [D.f (zaC e),D.f (zaF e)]:=by rw[znz,hxi];rfl
        simp only[zcf]at*;simp only[cqE]at q9;cases hh2:zhg c e hd with
        |none=>
         rw[hh2]at q9 hex;simp only[zfy]at q9;simp[rW,h1,h2,h3,h5,h6,h7,g0,g1,g2,hlen,hnl,hni,hni'];refine zay ?_;simp[rW,h1,h2,h3,h5,h6,h7,g0,g1,g2,gd,gx,gy,hnl,hi,cqE,zaV,zaW,zaL,q9];rw[zbh];refine⟨L.length - (n+1),by omega,n+1,false,⟨rfl,by omega,?_⟩,⟨.sl id 0 L.length 2 L.length false,?_,?_,?_⟩,?_⟩
         ·simp only[Bool.false_eq_true,if_false];intro k hk hkn hki
          by_cases hkn2:k=n
          ·subst hkn2;rw[hC];exact hex
          ·exact hb k hk (by omega) hki
         ·simp[rW,h1,h2,h3,g0,g1,g2]
         ·simp[rW,];exact .inr ⟨id,ro,by rw[zcf],hne,gd,by rw[zcf];exact hro,hlo,by omega⟩
         ·simp[rW,]
         ·simp[rW,h5,h6,h7,hwn]
        |some w=>
         rw[hh2]at q9 hex;simp only[zfy]at q9;simp[rW,h1,h2,h3,h5,h6,h7,g0,g1,g2,hlen,hnl,hni,hni'];refine zay ?_;simp[rW,h1,h2,h3,h5,h6,h7,g0,g1,g2,gd,gx,gy,hnl,hi,cqE,zaV,zaW,zaL,zaS,q9];rw[zbh];refine⟨L.length - (n+1),by omega,n+1,true,⟨rfl,by omega,?_⟩,⟨.sl id 0 L.length 2 L.length false,?_,?_,?_⟩,?_⟩
         ·simp only[if_true];exact⟨n,hnl,hni,by rw[hC];exact hex⟩
         ·simp[rW,h1,h2,h3,g0,g1,g2]
         ·simp[rW,];exact .inr ⟨id,ro,by rw[zcf],hne,gd,by rw[zcf];exact hro,hlo,by omega⟩
         ·simp[rW,]
         ·simp[rW,h5,h6,h7,hwn]
     ·have e1:((oth L i).any fun c=>exR hd c e)=b:=by
       cases b with
       |true=>exact hot.2 (by simpa using hb)
       |false=>
        simp only[Bool.false_eq_true,if_false]at hb;rw[Bool.eq_false_iff];intro h;obtain⟨k,hk,hki,hp⟩ :=hot.1 h;rw[hb k hk (by omega) hki]at hp;cases hp
      simp[rW,h1,h2,h3,h5,h6,h7,g0,g1,g2,hlen,hnl,e1];refine⟨d,?_,hg,hc3⟩;simp[rW,h1,h2,h3,g0,g1,g2]
    ·refine⟨0,false,⟨by simp,by simp,by simp⟩,⟨d,?_,hg,hc3⟩,?_⟩
     ·simp[rW,h1,h2,h3,g0,g1,g2]
     ·simp[rW,h5]
    ·rintro x s ⟨rfl,⟨d,⟨h1,h2,h3,g0,g1,g2⟩,hg,hc3⟩,h5,h6⟩;cases hb:(oth L i).any fun c=>exR hd c e with
     |false=>
      rw[hb]at h6 hR';simp only[Bool.false_eq_true,if_false]at hR';simp[rW,h1,h2,h3,h5,h6,g0,g1,g2];rw[zbh];refine⟨i,by omega,L,z2,⟨hz2,by omega,hL,hL0,hR'⟩,⟨d,?_,hg,hc3⟩,?_⟩
      ·simp[rW,h1,h2,h3,g0,g1,g2]
      ·simp[rW,hw]
     |true=>
      rw[hb]at h6 hR';simp only[if_true]at hR';have hlo2:=zry hi;have hon:oth L i≠[]:=fun e=>by rw[e]at hb;simp at hb
      have hwi:=zao i (by have:=hL.2;omega);obtain⟨id,ro,rfl,hne,gd,hro,hlo,hhi⟩ :=hg.resolve_left (fun h=>hL0 (by simpa [zcm]using h.2));simp only[zcf]at*;simp[rW,h1,h2,h3,h5,h6,g0,g1,g2];refine zay ?_;have s1:sliceB 2 s.h.get (.sl id 0 L.length 2 L.length false) none (some (.f (.i .i64 i))) none=some (.sl id 0 i 2 L.length false,[id]):=by
       simp[sliceB,gd,za9,zbz];omega
      have s2:∀j:Nat,j≤L.length->sliceB 2 s.h.get (.sl id 0 L.length 2 L.length false) (some (.f (.i .i64 (j:Int)))) none none=some (.sl id j (L.length - j) 2 L.length false,[id]):=by
       intro j hj;simp[sliceB,gd,za9,zbz];omega
      have s2:=s2 (i+1) (by omega)
      push_cast at s2
      have i2:¬(id=2):=by omega
      have ic:¬(id=s.c+1+1+1+1+1+1+1+1+1):=by omega
      have ic':¬(s.c+1+1+1+1+1+1+1+1+1=id):=by omega
      have ic2:¬(id=s.c+1+1+1+1+1+1+1+1+1+1+1):=by omega
      have ic2':¬(s.c+1+1+1+1+1+1+1+1+1+1+1=id):=by omega
      have l1:(i≤L.length)=True:=by simp;omega
      have l2:(i+1+(L.length - (i+1))≤L.length)=True:=by simp;omega
      obtain⟨P,hP⟩ :∃P,P=zcm (L.take i):=⟨_,rfl⟩
      obtain⟨S,hS⟩ :∃S,S=zcm (L.drop (i+1)):=⟨_,rfl⟩
      have t1:List.take i (zcm L)=P:=by rw[hP];simp[zcm,List.map_take]
      have t2:List.take (L.length - (i+1)) (List.drop (i+1) (zcm L))=S:=by
       rw[hS,List.take_of_length_le (by simp[zcf])];simp[zcm,List.map_drop]
      have hPS:P++S=zcm (oth L i):=by rw[hP,hS];simp[zcm,oth]
      have hPl:P.length=i:=by rw[hP,zcf,List.length_take];omega
      have hSl:S.length=L.length - (i+1):=by rw[hS,zcf,List.length_drop]
      have hn:P++S≠[]:=by rw[hPS];simpa [zcm]using hon
      have hLL:=hL.2;have n1:∀k,¬(0=s.c+k)/\¬(1=s.c+k)/\¬(2=s.c+k):=fun k=>by omega
      have hfin:∀s':St,3≤s'.c->(∃d,(s'.tm.get 1=some (.ptr 0 2 0 0)/\s'.tm.get 2=some (.ptr 1 2 0 0)/\s'.tm.get 3=some (.ptr 2 2 0 0)/\s'.h.get 0=some (.arr 2 0 [[.f (zas hd),.f (qsF l)]])/\s'.h.get 1=some (.arr 2 0 [[.f .nils,.f .nils]])/\s'.h.get 2=some (.arr 2 0 [[.f (zas hd),d]]))/\Gro s'.h 3 s'.c 2 d (P++S))->s'.tm.get 5=some (.f (.i .i64 z2))->∃m,m<i+1/\XN2 hd l R m s':=fun s' hc ⟨d,h1,h2⟩ h5=>⟨i,by omega,oth L i,z2,⟨hz2,by rw[hlo2];omega,⟨fun c hc=>hL.1 c (zrz hc),by rw[hlo2];omega⟩,hon,hR'⟩,⟨d,h1,by rw[<-hPS];exact h2,hc⟩,h5⟩
      have mP:(P.length≤zaj)=True:=zaR (by omega);have mP2:(P.length*48≤zaj)=True:=zaR (by omega);have mS:(S.length≤zaj)=True:=zaR (by omega);have mS2:(S.length*48≤zaj)=True:=zaR (by omega);have mPS:(P.length+S.length≤zaj)=True:=zaR (by omega);have mPS2:((P.length+S.length)*48≤zaj)=True:=zaR (by omega);clear hP hS
      by_cases hP0:P=[]
      ·have hS0:S≠[]:=fun e=>hn (by rw[hP0,e];rfl)
       simp[rW,h1,h2,h3,h5,h6,g0,g1,g2,gd,hi,hwi,s1,s2,i2,ic,ic',ic2,ic2',l1,l2,zcf,t1,t2,hP0,hS0,mS,mS2];rw[zbh];refine hfin _ (by simp[rW,]) ⟨.sl (s.c+1+1+1+1+1+1+1+1+1+1+1+1) 0 (P++S).length 2 (P++S).length false,?_,.inr ⟨s.c+1+1+1+1+1+1+1+1+1+1+1+1,0,rfl,hn,?_,Nat.zero_le _,?_,?_⟩⟩ ?_
       ·simp[rW,h1,h2,h3,g0,g1,g2,hPl,hSl,hP0,hS0]
       ·simp[rW,hP0,hS0]
       ·simp[rW,]
       ·simp[rW,]
       ·simp[rW,hw]
      ·by_cases hS0:S=[]
       ·simp[rW,h1,h2,h3,h5,h6,g0,g1,g2,gd,hi,hwi,s1,s2,i2,ic,ic',ic2,ic2',l1,l2,zcf,t1,t2,hP0,hS0,mP,mP2];rw[zbh];refine hfin _ (by simp[rW,]) ⟨.sl (s.c+1+1+1+1+1+1+1+1+1+1+1) 0 (P++S).length 2 (P++S).length false,?_,.inr ⟨s.c+1+1+1+1+1+1+1+1+1+1+1,0,rfl,hn,?_,Nat.zero_le _,?_,?_⟩⟩ ?_
        ·simp[rW,h1,h2,h3,g0,g1,g2,hPl,hSl,hP0,hS0]
        ·simp[rW,hP0,hS0]
        ·simp[rW,]
        ·simp[rW,]
        ·simp[rW,hw]
       ·have mP3:(P.length+S.length≤P.length)=False:=leF (by have:=List.length_pos_iff.2 hS0;omega);simp[rW,h1,h2,h3,h5,h6,g0,g1,g2,gd,hi,hwi,s1,s2,i2,ic,ic',ic2,ic2',l1,l2,zcf,t1,t2,hP0,hS0,mP,mP2,mPS,mPS2,mP3];rw[zbh];refine hfin _ (by simp[rW,]) ⟨.sl (s.c+1+1+1+1+1+1+1+1+1+1+1+1+1) 0 (P++S).length 2 (P++S).length false,?_,.inr ⟨s.c+1+1+1+1+1+1+1+1+1+1+1+1+1,0,rfl,hn,?_,Nat.zero_le _,?_,?_⟩⟩ ?_
        ·simp[rW,h1,h2,h3,g0,g1,g2,hPl,hSl,hP0,hS0]
        ·simp[rW,hP0,hS0]
        ·simp[rW,]
        ·simp[rW,]
        ·simp[rW,hw]
  ·refine⟨L,z0,⟨hz0,Nat.le_refl _,hL,hL0,rfl⟩,⟨d,?_,hg,hc3⟩,?_⟩
   ·simp[rW,h1,h2,h3,g0,g1,g2]
   ·simp[rW,]
  ·rintro x s ⟨rfl,d,⟨h1,h2,h3,g0,g1,g2⟩,hg,hc3⟩;obtain⟨rd,hz⟩ :=ziI (k:=10) (zcb (h':=s.h.set 1 (.arr 2 0 [[.f (zas hd),d]])) hg (Nat.le_refl _) (fun x h1 _=>by rw[Vse.T.zab,if_neg (by omega)])) (ziZ _ 9 _) (by simp[zcm]);simp[rW,h1,h2,h3,g0,g1,g2,hz,zcS hg,zCn,qsF];omega
theorem fn14:pr.fn 14=some g14:=by kernel_rfl
theorem fn16:pr.fn 16=some g16:=by kernel_rfl
theorem fn41:pr.fn 41=some g41:=by kernel_rfl
theorem fn42:pr.fn 42=some g42:=by kernel_rfl
theorem fn43:pr.fn 43=some g43:=by kernel_rfl
theorem fn78:pr.fn 78=some g78:=by kernel_rfl
theorem zy7(a b:CQ)(hd:List Str)(ha:zbu a)(hb:zbu b)(hh:hd.length<1000):Ans pr 43 [.ag (cqF a),.ag (cqF b),zas hd] (.b (exR hd a b)):=by
 refine za1 fn43 ?_;simp only[g43,rU];have q:=fun k=>zak (k:=k) (ans7 a b hd ha hb hh)
 rw[zP5 a b hd ha hb]at q;simp only[cqE]at q;unfold exR;cases hr:zhg a b hd with
 |none=>
  rw[hr]at q;simp only[znZ]at q;simp[rW,st0,zae,cqE,zaV,zaW,zaL,q]
 |some l=>
  rw[hr]at q;simp only[znZ]at q;simp[rW,st0,zae,cqE,zaV,zaW,zaL,q]
def cqD(c:CQ):List D:=[.f (zaC c),.f (zaF c)]
theorem ro42(hd:List Str)(c d:CQ)(hc:zbu c)(hdd:zbu d)(hh:hd.length<1000){h:T Ob}{k X Y:Nat}{y:D}(gX:h.get X=some (.arr 2 0 [cqD d]))(gY:h.get Y=some (.arr 2 0 [[.f (zas hd),y]]))(hX:X<k)(hY:Y<k):
  RO pr 42 [.ag (cqD c),.ptr X 2 0 0,.ptr Y 2 0 0] h k (.f (.b (exR hd c d))):=by
 refine zc3 zbB fn42 rfl ?_;simp only[g42,rU];have nX:¬X=k:=by omega
 have nY:¬Y=k:=by omega
 have q:=fun j=>zak (k:=j) (zy7 c d hd hc hdd hh)
 simp only[cqE]at q;unfold cqD at gX;simp[rW,st0,zae,cqD,gX,gY,nX,nY,zaV,zaW,zaL,q,za8];simp (disch:=omega) only[zbk,zbN]
theorem ro78(l:List CQ)(p:CQ->Bool)(hl:l.length<100000){h:T Ob}{c g:Nat}{cap:List D}(hcl:∀n (hn:n<l.length),RO pr g (.ag (cqD l[n])::cap) h c (.f (.b (p l[n])))):
  RO pr 78 [.f (qsF l),.fn g [] cap] h c (.f (.i .i64 (ixP l p))):=by
 refine zc3 zbB fn78 rfl ?_;simp only[g78,rU];simp[rW,st0,zae,zdD];refine zd2 l p (fun n s=>s.tm.get 0=some (.f (qsF l))/\s.tm.get 1=some (.fn g [] cap)/\s.tm.get 7=some (.f (.i .i64 l.length))/\s.tm.get 8=some (.f (.i .i64 n))/\s.h=h/\s.c=c/\s.lw=c) (fun x s=>x= .exit 0/\s.lw=c) (fun n y s=>y= .ret/\s.tm.get 4=some (.f (.i .i64 n))/\s.lw=c) ?_ ?_ _ ?_ ?_ ?_
 ·rintro n s hn ⟨h0,h1,h7,h8,eh,ec,el⟩;have hw:=zao n (by omega);have hp:=hcl n hn;generalize hA:l[n]=A at hp⊢;have hA':l[n]? =some A:=by rw[List.getElem?_eq_getElem hn,hA]
  simp[rW,h0,h1,h7,h8,hn,zh3,hA',hA,cqE];refine zcp (d:= .f (.b (p A))) ?_ ?_ ?_
  ·simp only[rG];rw[eh,ec];exact hp
  ·simp only[rG];omega
  ·intro mx;cases hb:p A with
   |true=>simp[rW,h0,h1,h7,h8,el]
   |false=>simp[rW,h0,h1,h7,h8,hw,eh,ec,el]
 ·rintro s ⟨h0,h1,h7,h8,eh,ec,el⟩;simp[rW,h0,h1,h7,h8,el]
 ·simp[rW,st0,zae]
 ·rintro h z s ⟨rfl,el⟩;rw[zjt h];simp[rW,za8,el]
 ·rintro n hn hp hm z s ⟨rfl,h4,el⟩;rw[zic hn hp hm];simp[rW,h4,za8,el]
theorem ro41(l:List CQ)(p:CQ->Bool)(hl:l.length<100000){h:T Ob}{c g:Nat}{cap:List D}(hcl:∀n (hn:n<l.length),RO pr g (.ag (cqD l[n])::cap) h c (.f (.b (p l[n])))):
  RO pr 41 [.f (qsF l),.fn g [] cap] h c (.f (.b (l.any p))):=by
 refine zc3 zbB fn41 rfl ?_;simp only[g41,rU];rw[<-zkk l p];simp[rW,st0,zae];refine zcp (d:= .f (.i .i64 (ixP l p))) ?_ ?_ ?_
 ·simp only[rG];exact ro78 l p hl hcl
 ·simp only[rG];omega
 ·intro mx;simp[rW,za8]
def nIn(hd:List Str)(m:List CQ)(d:CQ):Bool:=!(m.any fun c=>exR hd c d)
def P0(hd hd2:List Str)(l m:List CQ)(n:Nat)(s:St):Prop:=(s.tm.get 2=some (.ptr 0 2 0 0)/\s.tm.get 3=some (.ptr 1 2 0 0)/\s.tm.get 14=some (.f (qsF l))/\s.tm.get 15=some (.f (.i .i64 l.length))/\s.tm.get 16=some (.f (.i .i64 n))/\s.h.get 0=some (.arr 2 0 [[.f (zas hd),.f (qsF l)]])/\s.h.get 1=some (.arr 2 0 [[.f (zas hd2),.f (qsF m)]]))/\2≤s.c/\s.lw≤s.c
theorem zsJ(hd hd2:List Str)(l m:List CQ)(hh:hd.length<1000)(hl:QOk l)(hm:QOk m):Ans pr 14 [.ag [zas hd,qsF l],.ag [zas hd2,qsF m]] (.b (zg7 hd hd2 l m)):=by
 refine za1 fn14 ?_;simp only[g14,rU];have q40:=fun k=>zak (k:=k) (ans40 hd hd2 (by omega))
 unfold zg7
 by_cases he:hd=hd2
 ·rw[decide_eq_true he]at q40⊢;simp[rW,st0,zae,zaL,zfS,q40,zdD];refine zd2 l (nIn hd m) (fun n s=>P0 hd hd2 l m n s) (fun x s=>x= .exit 0) (fun n y s=>y= .ret/\s.tm.get 4=some (.f (.b false))) ?_ ?_ _ ?_ ?_ ?_
  ·rintro n s hn ⟨⟨h2,h3,h14,h15,h16,g0,g1⟩,hc2,hlw⟩;have hw:=zao n (by have:=hl.2;omega);have hsd:=hl.1 _ (List.getElem_mem hn);generalize hA:l[n]=A at hsd⊢;have hA':l[n]? =some A:=by rw[List.getElem?_eq_getElem hn,hA]
   have n0:¬(0=s.c):=by omega
   have n1:¬(1=s.c):=by omega
   simp[rW,h2,h3,h14,h15,h16,g0,g1,hn,zh3,hA',hA,cqE,n0,n1];refine zcp (d:= .f (.b (m.any fun c=>exR hd c A))) (ro41 m (fun c=>exR hd c A) (by have:=hm.2;omega) fun k hk=> ?_) ?_ ?_
   ·refine ro42 hd m[k] A (hm.1 _ (List.getElem_mem hk)) hsd hh (y:= .f (qsF l)) ?_ ?_ ?_ ?_
    ·simp only[rG];simp[Vse.T.zab,cqD]
    ·simp only[rG];simp[Vse.T.zab,n0,g0]
    ·simp only[rG];omega
    ·simp only[rG];omega
   ·simp only[rG]
    (repeat refine Nat.le_trans (zco _ _) ?_)
    omega
   ·intro mx;cases hb:m.any fun c=>exR hd c A with
    |true=>
     have e:nIn hd m A=false:=by unfold nIn;rw[hb];rfl
     simp[rW,h2,h3,h14,h15,h16,g0,g1,e,hw,n0,n1,P0];refine⟨by omega,?_⟩
     (repeat refine Nat.le_trans (zco _ _) ?_)
     omega
    |false=>
     have e:nIn hd m A=true:=by unfold nIn;rw[hb];rfl
     simp[rW,h2,h3,h14,h15,h16,g0,g1,e,hw,n0,n1]
  ·rintro s ⟨⟨h2,h3,h14,h15,h16,g0,g1⟩,hc2,hlw⟩;simp[rW,h2,h3,h14,h15,h16,g0,g1]
  ·simp[rW,P0];simp[zdr]
  ·rintro h z s rfl;have e:(l.all fun d=>m.any fun c=>exR hd c d)=true:=List.all_eq_true.2 fun x hx=>by simpa [nIn]using h x hx
   rw[e];simp[rW,]
  ·rintro n hn hp hm z s ⟨rfl,h4⟩;have e:(l.all fun d=>m.any fun c=>exR hd c d)=false:=List.all_eq_false.2 ⟨l[n],List.getElem_mem hn,by simpa [nIn]using hp⟩;rw[e];simp[rW,h4]
 ·rw[decide_eq_false he]at q40⊢;simp[rW,st0,zae,zaL,zfS,q40]
theorem ans16(hd hd2:List Str)(l m:List CQ)(hh:hd.length<1000)(hh2:hd2.length<1000)(hl:QOk l)(hm:QOk m):Ans pr 16 [.ag [zas hd,qsF l],.ag [zas hd2,qsF m]] (.b (zg7 hd hd2 l m&&zg7 hd2 hd m l)):=by
 refine za1 fn16 ?_;simp only[g16,rU];have q1:=fun k=>zak (k:=k) (zsJ hd hd2 l m hh hl hm)
 have q2:=fun k=>zak (k:=k) (zsJ hd2 hd m l hh2 hm hl)
 cases hb:zg7 hd hd2 l m with
 |true=>rw[hb]at q1;simp[rW,st0,zae,zaL,zfS,q1,q2]
 |false=>rw[hb]at q1;simp[rW,st0,zae,zaL,zfS,q1,q2]
theorem fn45:pr.fn 45=some g45:=by kernel_rfl
theorem fn79:pr.fn 79=some g79:=by kernel_rfl
theorem fn80:pr.fn 80=some g80:=by kernel_rfl
theorem fn51:pr.fn 51=some g51:=by kernel_rfl
theorem zQ7(h:Nat->Option Ob)(c:Nat):opv h c (.eqn 0 false (.f .nils) (.f .nils))=some {d:= .f (.b true),c}:=rfl
theorem zEX(h:Nat->Option Ob)(c es:Nat)(l:List (List F)):opv h c (.eqn 0 false (.f (.sl es l)) (.f .nils))=some {d:= .f (.b false),c}:=rfl
def Own(h:T Ob)(lo c:Nat)(d:D)(X:F):Prop:=(d= .f X\/∃a b e f g x,d= .sl a b e f g x)/\d.cells=some [d]/\(∀x,d.oid=some x->lo≤x/\x<c)/\∀h':T Ob,(∀x,d.oid=some x->h'.get x=h.get x)->∀k,∃rd,frz h'.get (k+2) d=some (X,rd)
theorem Own.up{h h':T Ob}{lo lo' c c':Nat}{d:D}{X:F}(H:Own h lo c d X)(hf:∀x,d.oid=some x->h'.get x=h.get x)(hl:lo'≤lo)(hc:c≤c'):Own h' lo' c' d X:=
 ⟨H.1,H.2.1,fun x hx=>by have:=H.2.2.1 x hx;omega,fun h2 hh=>H.2.2.2 h2 fun x hx=>(hh x hx).trans (hf x hx)⟩
theorem zrA{h:T Ob}{lo c es:Nat}{d:D}{rows:List (List F)}(hg:Gro h lo c es d (rows.map fun a=>a.map D.f)):Own h lo c d (slc es rows):=by
 refine⟨?_,zcS hg,fun x hx=>zfJ hg hx,fun h' hh k=> ?_⟩
 ·rcases hg with⟨rfl,hr⟩ |⟨id,ro,rfl,hn,hg,hr,hl,hc⟩
  ·have:rows=[]:=by simpa using hr
   subst this;exact .inl rfl
  ·exact .inr ⟨_,_,_,_,_,_,rfl⟩
 rcases hg with⟨rfl,hr⟩ |⟨id,ro,rfl,hn,hg,hr,hl,hc⟩
 ·have:rows=[]:=by simpa using hr
  subst this;exact⟨[],rfl⟩
 ·refine⟨[id],?_⟩;have h1:=hh id rfl;rw[zgy,h1,hg,zdU,zfG];simp only[true_and,Nat.zero_add,Nat.le_refl,if_true,List.drop_zero,List.take_length,zjq h'.get k rows,zdU];rw[zcX (fun e=>hn (by rw[e];rfl))]
def gCl(es byt:Nat)(z:List F):Go.Vse.Fn:=⟨8,[.t 2],oZ [oR 2 (.mv (.k .nils))]
 (.seq (oD [oM 3 0,oR 4 (.eqn 0 false (.t 3) (.k .nils))] 4 (oZ [oR 2 (.mv (.k .nils))] .ret) .skip)
 (oZ [oR 5 (.bsl es z 0 []),oM 6 0,oR 7 (.app es byt (.t 5) (.t 6)),oM 2 7] .ret))⟩
theorem zzz{n es byt:Nat}{z:List F}(hf:pr.fn n=some (gCl es byt z))(hb:byt≤1000){X:F}{rows:List (List F)}(hX:X= .sl es rows\/X= .nils/\rows=[])(hl:rows.length≤1000000){h:T Ob}{c:Nat}:
  Eff pr n [.f X] h c fun d h' c'=>Frm h h' c/\Own h' c c' d X:=by
 refine zdA zbB hf ?_;unfold gCl;simp only[rU];rcases hX with rfl|⟨rfl,rfl⟩
 ·have hm:rows.length*byt≤1000000*1000:=Nat.mul_le_mul hl hb;have m1:(rows.length≤zaj)=True:=zaR (by omega);have m2:(rows.length*byt≤zaj)=True:=zaR (by omega)
  by_cases h0:rows=[]
  ·subst h0;simp[rW,st0,zae,zEX,zct];refine⟨fun x hx=> ?_,.inr ⟨_,_,_,_,_,_,rfl⟩,rfl,fun x hx=> ?_,fun h' hh k=>⟨[c],?_⟩⟩
   ·have:¬x=c:=by omega
    simp[Vse.T.zab,this]
   ·simp[D.oid]at hx;omega
   ·have:=hh c rfl;simp[Vse.T.zab]at this;rw[zgy,this];simp[om,zfG,zaT]
  ·simp[rW,st0,zae,zEX,h0,m1,m2,zct];refine⟨fun x hx=> ?_,?_⟩
   ·have h1:¬x=c:=by omega
    have h2:¬x=c+1:=by omega
    simp[Vse.T.zab,h1,h2]
   ·have:=zrA (h:=(h.set c (.arr es 0 [])).set (c+1) (.arr es 0 (rows.map fun a=>a.map D.f))) (lo:=c) (c:=c+1+1) (es:=es) (d:= .sl (c+1) 0 rows.length es rows.length false) (rows:=rows) (.inr ⟨c+1,0,by simp,by simpa using h0,by simp[Vse.T.zab],Nat.zero_le _,by omega,by omega⟩);rw[<-zcX h0]at this;exact this
 ·simp[rW,st0,zae,zQ7,zct];refine⟨fun _ _=>rfl,.inl rfl,rfl,by simp[D.oid],fun h' _ k=>⟨[],rfl⟩⟩
theorem zma(es:Nat)(rows:List (List F)):slc es rows= .sl es rows\/slc es rows= .nils/\rows=[]:=by
 cases rows with
 |nil=>exact .inr ⟨rfl,rfl⟩
 |cons a l=>exact .inl rfl
theorem eff80(l:List Trm)(hl:l.length≤1000000){h:T Ob}{c:Nat}:Eff pr 80 [.f (zaX l)] h c fun d h' c'=>Frm h h' c/\Own h' c c' d (zaX l):=
 zzz (z:=[.s [],.i .i64 0,.i .i64 0,.s []]) (byt:=48) fn80 (by omega) (zma 4 _) (by simpa using hl)
theorem eff51(l:List Str)(hl:l.length≤1000000){h:T Ob}{c:Nat}:Eff pr 51 [.f (zas l)] h c fun d h' c'=>Frm h h' c/\Own h' c c' d (zas l):=
 zzz (z:=[.s []]) (byt:=16) fn51 (by omega) (zma 1 _) (by simpa using hl)
theorem eff79(q:CQ)(hl:q.cs.length≤1000000){h:T Ob}{c:Nat}:Eff pr 79 [.f (zaF q)] h c fun d h' c'=>Frm h h' c/\Own h' c c' d (zaF q):=by
 refine zzz (rows:=q.cs.map cmF) (z:=[.i .i64 0,.s [],.i .i64 0,.i .i64 0,.s [],.s [],.i .i64 0,.i .i64 0,.s []]) (byt:=104) fn79 (by omega) ?_ (by simpa using hl);unfold zaF csF;split
 ·rename_i hh;rw[hh.2];exact .inl rfl
 ·exact zma 9 _
def zhH(W:List (Atm×D)):List (List D):=W.map fun p=>[.f (.s p.1.r),.f (.b p.1.neg),p.2]
theorem zn1{h:T Ob}{lo c:Nat}(k:Nat):∀{W:List (Atm×D)},(∀p∈W,Own h lo c p.2 (zaX p.1.ts))->∃rd,zaT (frz h.get (k+2)) (zhH W)=some (W.map fun p=>atF p.1,rd)
 |[],_=>⟨[],rfl⟩
 |p::W,hW=>by
  obtain⟨rd,hr⟩ :=zn1 k (W:=W) fun q hq=>hW q (by simp[hq])
  obtain⟨rd2,h2⟩ :=(hW p (by simp)).2.2.2 h (fun _ _=>rfl) k;have h3:zbO (frz h.get (k+2)) [.f (.s p.1.r),.f (.b p.1.neg),p.2]=some (atF p.1,rd2):=by
   have a1:frz h.get (k+2) (.f (.s p.1.r))=some (.s p.1.r,[]):=rfl;have a2:frz h.get (k+2) (.f (.b p.1.neg))=some (.b p.1.neg,[]):=rfl;simp only[zbO,a1,a2,h2,atE];simp
  exact⟨rd2++rd,by
   have e:zhH (p::W)=[.f (.s p.1.r),.f (.b p.1.neg),p.2]::zhH W:=rfl;rw[e,zkY,h3];simp only[hr];rfl⟩
theorem zFX{h:T Ob}{lo c es k:Nat}{d:D}{els:List (List D)}{L:List (List F)}{rd:List Nat}(hg:Gro h lo c es d els)(hf:zaT (frz h.get k) els=some (L,rd))(hL:L=[]↔els=[]):∃rd,frz h.get (k+1) d=some (slc es L,rd):=by
 rcases hg with⟨rfl,rfl⟩ |⟨id,ro,rfl,he,ho,hr,hl,hc⟩
 ·rw[hL.2 rfl];exact⟨[],rfl⟩
 ·refine⟨id::rd,?_⟩;rw[zgy,ho,zdU,zfG];simp only[true_and,Nat.zero_add,Nat.le_refl,if_true,List.drop_zero,List.take_length,hf,zdU];rw[zcX (fun e=>he (hL.1 e))]
theorem zKR{α β:Type}{f:α->Option β}:om (none:Option α) f=none:=rfl
def XY1(c:CQ)(n:Nat)(s:St):Prop:=∃(P:Nat) (B dC:D) (W:List (Atm×D)),W.map (·.1)=c.as.take n/\(s.tm.get 1=some (.ptr 0 2 0 0)/\s.tm.get 2=some (.ptr 1 2 0 0)/\s.tm.get 3=some (.ptr P 2 0 0)/\s.tm.get 11=some (.f (zaC c))/\s.tm.get 12=some (.f (.i .i64 c.as.length))/\s.tm.get 13=some (.f (.i .i64 n))/\s.h.get 1=some (.arr 2 0 [[.f .nils,.f .nils]])/\s.h.get P=some (.arr 2 0 [[B,dC]]))/\Own s.h 2 P dC (zaF c)/\Gro s.h (P+1) s.c 3 B (zhH W)/\(∀p∈W,Own s.h (P+1) s.c p.2 (zaX p.1.ts)/\∀x,p.2.oid=some x->B.oid≠some x)/\P<s.c/\2≤P
theorem ans45(c:CQ)(hc:zbu c):Ans pr 45 [.ag (cqF c)] (.ag (cqF ⟨c.as,c.cs,c.ne,false⟩)):=by
 refine za1 fn45 ?_;simp only[g45,rU];simp[rW,st0,zae,cqE,zaV,zaW];refine zfa rfl rfl (eff79 c (by have:=hc.sc;omega)) ?_;rintro dC h' c' lw mx ⟨hf,hO⟩ hcc;simp only[rG]at hf hO hcc;have e0:=hf 0 (by omega);have e1:=hf 1 (by omega);simp[Vse.T.zab]at e0 e1;have hcd:=hO.2.1;have n0:¬(0=c'):=by omega
 have n1:¬(1=c'):=by omega
 simp[rW,e0,e1,hcd,n0,n1,za2];refine zex c.as.length (XY1 c) (fun x s=>x= .exit 0/\XY1 c c.as.length s) ?_ ?_ _ ?_ ?_
 ·rintro n s hn ⟨P,B,dC,W,hW,⟨h1,h2,h3,h11,h12,h13,g1,gP⟩,hC,hg,hall,hPc,hP2⟩;have hw:=zao n (by have:=hc.sa;omega);have hx:c.as[n]? =some c.as[n]:=List.getElem?_eq_getElem hn;have hst:=hc.st _ (List.getElem_mem hn);have htk:=List.take_succ_eq_append_getElem hn;generalize hA:c.as[n]=A at hx hst htk;simp[rW,h1,h2,h3,h11,h12,h13,g1,gP,hn,zcI,hx,hA,atE,zaS];refine zfa rfl rfl (eff80 A.ts (by omega)) ?_;rintro d H2 c2 lw2 mx2 ⟨hf2,hO2⟩ hcc2;simp only[rG]at hf2 hO2 hcc2;have eP:=hf2 P (by omega);have eQ:=hf2 s.c (by omega);have e1:=hf2 1 (by omega);have nP:¬(P=s.c):=by omega
  have nP':¬(s.c=P):=by omega
  have n1:¬(1=s.c):=by omega
  have np1:¬(1=P):=by omega
  simp[Vse.T.zab,nP,n1,gP,g1]at eP eQ e1;have hlow:∀j,j<s.c->H2.get j=s.h.get j:=fun j hj=>by
   have:=hf2 j (by omega);have nj:¬j=s.c:=by omega
   simpa [Vse.T.zab,nj]using this
  have hdc:=hO2.2.1;have hWl:(zhH W).length≤12:=by
   have h1:W.length=(c.as.take n).length:=by rw[<-hW];simp
   have:=hc.sa;simp[zhH,h1];omega
  have nP2:¬(P=c2):=by omega
  have n1c:¬(1=c2):=by omega
  rcases hO2.1 with rfl|⟨a1,a2,a3,a4,a5,a6,rfl⟩
  ·simp[rW,h1,h2,h3,h11,h12,h13,eP,eQ,e1,hdc,nP,nP',nP2,n1c,zaS,zKR];refine⟨by omega,?_⟩;refine zgc (zcb (c':=c2) hg (by omega) fun x h1 h2=> ?_) (by omega) (by simp;omega) (by omega) ?_
   ·have nx:¬(x=s.c):=by omega
    have nx2:¬(x=c2):=by omega
    simp[Vse.T.zab,nx,nx2];exact hlow x h2
   intro r hr1 hr2 hr3 hr4 hr5;have hPr:=hr4 P (by omega) (zbQ hg (by omega));have h1r:=hr4 1 (by omega) (zbQ hg (by omega));simp[Vse.T.zab,nP,n1,nP2,n1c,eP,e1]at hPr h1r;have hr6:∀x,x<c2->x≠s.c->B.oid≠some x->(wrT _ r.wr).get x=H2.get x:=fun x h1 h2 h3=>by
    have nx2:¬(x=c2):=by omega
    rw[hr4 x (by omega) h3];simp[Vse.T.zab,h2,nx2]
   refine⟨hr1,?_⟩;simp[rW,hPr,zcS hr2,nP2,n1c];refine⟨by omega,?_⟩;refine⟨P,r.d,dC,W++[(A,.f (zaX A.ts))],by simp[hW,htk],?_,?_,?_,?_,?_,hP2⟩
   ·simp[rW,h1,h2,h3,h11,h12,h13,hw,h1r,hPr,np1]
   ·refine hC.up (fun x hx=> ?_) (Nat.le_refl _) (Nat.le_refl _);have hx2:=hC.2.2.1 x hx;have nx:¬(x=P):=by omega
    simp[rW,nx];rw[hr6 x (by omega) (by omega) (zbQ hg (by omega)),hlow x (by omega)]
   ·have e:zhH (W++[(A,.f (zaX A.ts))])=zhH W++[[.f (.s A.r),.f (.b A.neg),.f (zaX A.ts)]]:=by simp[zhH]
    rw[e];refine zcb hr2 (by simp[rW,]) fun x h1 h2=> ?_
    have nx:¬(x=P):=by omega
    simp[rW,nx]
   ·intro p hp;rcases List.mem_append.1 hp with hp|hp
    ·obtain⟨o1,o2⟩ :=hall p hp;refine⟨o1.up (fun x hx=> ?_) (Nat.le_refl _) (by simp[rW,];omega),fun x hx hy=> ?_⟩
     ·have hx2:=o1.2.2.1 x hx;have nx:¬(x=P):=by omega
      simp[rW,nx];rw[hr6 x (by omega) (by omega) (o2 x hx),hlow x (by omega)]
     ·have hx2:=o1.2.2.1 x hx;rcases hr5 x hy with e|e
      ·omega
      ·exact o2 x hx e
    ·obtain rfl:p=(A,.f (zaX A.ts)):=by simpa using hp
     refine⟨hO2.up (fun x hx=> ?_) (by omega) (by simp[rW,];omega),fun x hx hy=> ?_⟩
     ·have hx2:=hO2.2.2.1 x hx;have nx:¬(x=P):=by omega
      simp[rW,nx];rw[hr6 x (by omega) (by omega) (fun e=>by have:=zfJ hg e;omega)]
     ·have hx2:=hO2.2.2.1 x hx;rcases hr5 x hy with e|e
      ·omega
      ·have:=zfJ hg e;omega
   ·simp[rW,];omega
  ·simp[rW,h1,h2,h3,h11,h12,h13,eP,eQ,e1,hdc,nP,nP',nP2,n1c,zaS,zKR];refine⟨by omega,?_⟩;refine zgc (zcb (c':=c2+1) hg (by omega) fun x h1 h2=> ?_) (by omega) (by simp;omega) (by omega) ?_
   ·have nx:¬(x=s.c):=by omega
    have nx2:¬(x=c2):=by omega
    simp[Vse.T.zab,nx,nx2];exact hlow x h2
   intro r hr1 hr2 hr3 hr4 hr5;have hPr:=hr4 P (by omega) (zbQ hg (by omega));have h1r:=hr4 1 (by omega) (zbQ hg (by omega));simp[Vse.T.zab,nP,n1,nP2,n1c,eP,e1]at hPr h1r;have hr6:∀x,x<c2->x≠s.c->B.oid≠some x->(wrT _ r.wr).get x=H2.get x:=fun x h1 h2 h3=>by
    have nx2:¬(x=c2):=by omega
    rw[hr4 x (by omega) h3];simp[Vse.T.zab,h2,nx2]
   refine⟨hr1,?_⟩;simp[rW,hPr,zcS hr2,nP2,n1c];refine⟨by omega,?_⟩;refine⟨P,r.d,dC,W++[(A,.sl a1 a2 a3 a4 a5 a6)],by simp[hW,htk],?_,?_,?_,?_,?_,hP2⟩
   ·simp[rW,h1,h2,h3,h11,h12,h13,hw,h1r,hPr,np1]
   ·refine hC.up (fun x hx=> ?_) (Nat.le_refl _) (Nat.le_refl _);have hx2:=hC.2.2.1 x hx;have nx:¬(x=P):=by omega
    simp[rW,nx];rw[hr6 x (by omega) (by omega) (zbQ hg (by omega)),hlow x (by omega)]
   ·have e:zhH (W++[(A,.sl a1 a2 a3 a4 a5 a6)])=zhH W++[[.f (.s A.r),.f (.b A.neg),.sl a1 a2 a3 a4 a5 a6]]:=by simp[zhH]
    rw[e];refine zcb hr2 (by simp[rW,]) fun x h1 h2=> ?_
    have nx:¬(x=P):=by omega
    simp[rW,nx]
   ·intro p hp;rcases List.mem_append.1 hp with hp|hp
    ·obtain⟨o1,o2⟩ :=hall p hp;refine⟨o1.up (fun x hx=> ?_) (Nat.le_refl _) (by simp[rW,];omega),fun x hx hy=> ?_⟩
     ·have hx2:=o1.2.2.1 x hx;have nx:¬(x=P):=by omega
      simp[rW,nx];rw[hr6 x (by omega) (by omega) (o2 x hx),hlow x (by omega)]
     ·have hx2:=o1.2.2.1 x hx;rcases hr5 x hy with e|e
      ·omega
      ·exact o2 x hx e
    ·obtain rfl:p=(A,.sl a1 a2 a3 a4 a5 a6):=by simpa using hp
     refine⟨hO2.up (fun x hx=> ?_) (by omega) (by simp[rW,];omega),fun x hx hy=> ?_⟩
     ·have hx2:=hO2.2.2.1 x hx;have nx:¬(x=P):=by omega
      simp[rW,nx];rw[hr6 x (by omega) (by omega) (fun e=>by have:=zfJ hg e;omega)]
     ·have hx2:=hO2.2.2.1 x hx;rcases hr5 x hy with e|e
      ·omega
      ·have:=zfJ hg e;omega
   ·simp[rW,];omega
 ·rintro s ⟨P,B,dC,W,hW,⟨h1,h2,h3,h11,h12,h13,g1,gP⟩,hC,hg,hall,hPc,hP2⟩;simp[rW,h1,h2,h3,h11,h12,h13,g1,gP];refine⟨P,B,dC,W,hW,?_,hC,hg,hall,hPc,hP2⟩;simp[rW,h1,h2,h3,h11,h12,h13,g1,gP]
 ·refine⟨c',.f .nils,dC,[],by simp,?_,?_,.inl ⟨rfl,rfl⟩,by simp,?_,by omega⟩
  ·simp[rW,e1,n1]
  ·refine hO.up (fun x hx=> ?_) (Nat.le_refl _) (Nat.le_refl _);have:=hO.2.2.1 x hx;have nx:¬(x=c'):=by omega
   simp[rW,nx]
  ·simp[rW,]
 ·rintro x s ⟨rfl,P,B,dC,W,hW,⟨h1,h2,h3,h11,h12,h13,g1,gP⟩,hC,hg,hall,hPc,hP2⟩;rw[List.take_length]at hW;obtain⟨rd,hz⟩ :=zn1 8 fun p hp=>(hall p hp).1
  have nP1:¬(P=1):=by omega
  have hh:∀y,y≠1->(s.h.set 1 (.arr 2 0 [[B,dC]])).get y=s.h.get y:=fun y hy=>by simp[Vse.T.zab,hy]
  obtain⟨rd,hz⟩ :=zn1 (h:=s.h.set 1 (.arr 2 0 [[B,dC]])) 8 fun p hp=>((hall p hp).1.up (fun x hx=>hh x (by have:=(hall p hp).1.2.2.1 x hx;omega)) (Nat.le_refl _) (Nat.le_refl _))
  obtain⟨rd1,h1⟩ :=zFX (zcb (h':=s.h.set 1 (.arr 2 0 [[B,dC]])) hg (Nat.le_refl _) fun x h1 _=>hh x (by omega)) hz (by simp[zhH]);obtain⟨rd2,h2'⟩ :=hC.2.2.2 (s.h.set 1 (.arr 2 0 [[B,dC]])) (fun x hx=>hh x (by have:=hC.2.2.1 x hx;omega)) 9;have eW:(W.map fun p=>atF p.1)=c.as.map atF:=by rw[<-hW,List.map_map];rfl
  have eA:slc 3 (c.as.map atF)=zaC ⟨c.as,c.cs,c.ne,false⟩ :=by unfold zaC Sm.asF;rw[if_neg (by simp)]
  have eC:zaF c=zaF ⟨c.as,c.cs,c.ne,false⟩ :=rfl;rw[eW,eA]at h1;rw[eC]at h2';have hdc:=hC.2.1;simp[rW,h1,h2,h3,h11,h12,h13,g1,gP,nP1,zcS hg,hdc,h1,h2'];omega
end Go.Proofs.YtimgcabgophnfaaGreat
end
