/- A term put into an ascending list of terms. -/
import Derived.Test.YtimgcabgophnfaaGreatPa
import Derived.KernelRfl
import Derived.IntWalk
import Derived.Test.YtimgcabgophnfaaGreatAll
import Derived.Test.YtimgcabgophnfaaGreatHb
set_option linter.all false
noncomputable section
section
namespace Go.Proofs.YtimgcabgophnfaaGreat
open Go Go.Vse Go.Vse.Sm
set_option maxRecDepth 100000
set_option maxHeartbeats 1000000
set_option linter.all false
def zcz:List Trm->Trm->List Trm
 |[],t=>[t]
 |a::l,t=>if zaO a t<0 then a::zcz l t else if zbi a t=true then a::l else t::a::l
theorem ztk:∀(l:List Trm) (t:Trm),(∀a∈l,(!decide (zaO a t<0))=false)->zcz l t=l++[t]
 |[],_,_=>rfl
 |a::l,t,h=>by
  have h1:zaO a t<0:=by simpa using h a (by simp)
  simp only[zcz,h1,if_true,List.cons_append];rw[ztk l t fun b hb=>h b (by simp[hb])]
theorem zto:∀(l:List Trm) (t:Trm) (n:Nat) (h:n<l.length),(!decide (zaO l[n] t<0))=true->(∀m (h':m<n),(!decide (zaO (l[m]'(by omega)) t<0))=false)->zcz l t=if zbi l[n] t=true then l else l.take n++t::l.drop n
 |[],_,_,h,_,_=>by simp at h
 |a::l,t,0,_,h1,_=>by
  have h1:¬zaO a t<0:=by simpa using h1
  simp[zcz,h1]
 |a::l,t,n+1,h,h1,h2=>by
  have h0:zaO a t<0:=by simpa using h2 0 (by omega)
  simp only[zcz,h0,if_true];rw[zto l t n (by simpa using h) (by simpa using h1) fun m hm=>by simpa using h2 (m+1) (by omega)];simp only[List.getElem_cons_succ];split
  ·rfl
  ·rfl
theorem zHj(l:List Trm)(n:Nat)(h:n≤l.length):∃x:F,x.d= .f x/\(∀h:Nat->Option Ob,sliceB 4 h (.f (zaX l)) none (some (.f (.i .i64 n))) none=some (.f x,[]))/\∀h:Nat->Option Ob,elemsOf 4 h (.f x)=some (zaB (l.take n),[]):=by
 obtain⟨x,h1,_,h3,_,h5⟩ :=zvI (es:=4) (l.map tmF) 0 n (by omega) (by simpa using h);refine⟨x,h1,h3 rfl,fun h=> ?_⟩;rw[h5 h];simp[zaB,List.map_take]
theorem zHi(l:List Trm)(n:Nat)(h:n≤l.length):∃x:F,x.d= .f x/\(∀h:Nat->Option Ob,sliceB 4 h (.f (zaX l)) (some (.f (.i .i64 n))) none none=some (.f x,[]))/\∀h:Nat->Option Ob,elemsOf 4 h (.f x)=some (zaB (l.drop n),[]):=by
 obtain⟨x,h1,_,_,h4,h5⟩ :=zvI (es:=4) (l.map tmF) n l.length h (by simp);refine⟨x,h1,h4 (by simp),fun h=> ?_⟩;rw[h5 h];have:((l.map tmF).drop n).take (l.length - n)=(l.drop n).map tmF:=by
  rw[<-List.map_drop,List.take_of_length_le (by simp)]
 rw[this];rfl
def i75:C:=oZ [oR 40 (.bsl 4 [.s [],.i .i64 0,.i .i64 0,.s []] 0 []),oM 41 0,oM 42 5,oR 43 (.slc 4 (.t 41) none (some (.t 42)) none),oR 44 (.app 4 48 (.t 40) (.t 43)),oM 6 44]
 (.seq (.dreg [(oM 45 6,0),(oL 46 4 3,1),(oM 49 0,3),(oM 50 5,7),(oR 51 (.slc 4 (.t 49) (some (.t 50)) none none),3),(oR 47 (.bsf 4 [.s [],.i .i64 0,.i .i64 0,.s []] 1 [(0,(.t 46))]),29),(oR 48 (.app 4 48 (.t 45) (.t 47)),28),(oR 52 (.app 4 48 (.t 48) (.t 51)),0),(oM 4 52,0)])
 .ret)
theorem zvY{l:List Trm}(h:l≠[]):zaB l≠[]:=by
 intro e;have:=za4 l;rw[e]at this;exact h (List.length_eq_zero_iff.1 this.symm)
theorem ziN(l m:List Trm):zaB l++zaB m=zaB (l++m):=by simp[zaB]
theorem zJq(l:List Trm)(t:Trm)(hn:l.length<1000)(n:Nat)(hnl:n≤l.length)(S:St)(hS:S.tm.get 0=some (.f (zaX l))/\S.tm.get 3=some (.ptr 0 4 0 0)/\S.tm.get 5=some (.f (.i .i64 n))/\S.h.get 0=some (.arr 4 0 [F.dL (tmF t)])/\1≤S.c):
  wpC pr i75 S (zkV [.t 4] (zaX (l.take n++t::l.drop n))):=by
 obtain⟨h0,h3,h5,g0,hc⟩ :=hS;have c0:(0:Nat)≠S.c:=by omega
 obtain⟨x,hx1,hx2,hx3⟩ :=zHj l n hnl;obtain⟨z,hz1,hz2,hz3⟩ :=zHi l n hnl;have hP:(l.take n).length≤1000:=by simp;omega
 have hQ:(l.drop n).length≤1000:=by simp;omega
 generalize l.take n=P at hx3 hP⊢;generalize l.drop n=Q at hz3 hQ⊢;unfold i75;simp only[rU];have m1:(1≤zaj)=True:=zaR (by omega);have m48:(48≤zaj)=True:=zaR (by omega)
 by_cases hPe:P=[]
 ·subst hPe;have hx3':∀h,elemsOf 4 h (.f x)=some ([],[]):=hx3
  by_cases hQe:Q=[]
  ·subst hQe;have hz3':∀h,elemsOf 4 h (.f z)=some ([],[]):=hz3
   simp -implicitDefEqProofs [rR,h0,h3,h5,g0,hx1,hx2,hx3',hz1,hz2,hz3',m1,m48];refine zay ?_;simp -implicitDefEqProofs [rR,h0,h3,h5,g0,hx1,hx2,hx3',hz1,hz2,hz3',m1,m48,tmE,c0];rw[<-tmE];rfl
  ·have hne:=zvY hQe;have e:([D.f (.s (tv t)),D.f (.i .i64 (tk t)),D.f (.i .i64 (tn t)),D.f (.s [])]::zaB Q)=zaB (t::Q):=by simp[zaB,tmE]
   have hz:∀h,zaT (frz h 11) (zaB (t::Q))=some ((t::Q).map tmF,[]):=fun h=>zhN h 10 _
   have hs:=zmM (l:=t::Q) (by simp);have hl1:(zaB (t::Q)).length=1+Q.length:=by rw[za4,List.length_cons];omega
   have htk:(zaB (t::Q)).take (1+Q.length)=zaB (t::Q):=by rw[<-hl1,List.take_length]
   generalize t::Q=M at e hz hs hl1 htk⊢;simp -implicitDefEqProofs [rR,h0,h3,h5,g0,hx1,hx2,hx3',hz1,hz2,hz3,m1,m48,tmE,c0,hne,e,za4,hQe,hz,hs,(zaR (by omega):(1+Q.length≤zaj)=True),(zaR (by omega):((1+Q.length)*48≤zaj)=True)];refine zay ?_;simp -implicitDefEqProofs [rR,h0,h3,h5,g0,hx1,hx2,hx3',hz1,hz2,hz3,m1,m48,tmE,c0,hne,e,za4,hQe,hz,hs,(zaR (by omega):(1+Q.length≤zaj)=True),(zaR (by omega):((1+Q.length)*48≤zaj)=True),hl1,htk,(leF (by have:=List.length_pos_iff.2 hQe;omega):(1+Q.length≤1)=False)]
 ·have hne:=zvY hPe;have e1:zaB P++[[D.f (.s (tv t)),D.f (.i .i64 (tk t)),D.f (.i .i64 (tn t)),D.f (.s [])]]=zaB (P++[t]):=by rw[zoc,tmE];rfl
  have hl1:(P++[t]).length=P.length+1:=by simp
  by_cases hQe:Q=[]
  ·subst hQe;have hz3':∀h,elemsOf 4 h (.f z)=some ([],[]):=hz3
   have hs:=zmM (l:=P++[t]) (by simp);generalize P++[t]=M at e1 hl1 hs⊢;have hz:∀h,zaT (frz h 11) (zaB M)=some (M.map tmF,[]):=fun h=>zhN h 10 _
   have htk:(zaB M).take (P.length+1)=zaB M:=by rw[<-hl1,<-za4 M,List.take_length]
   simp -implicitDefEqProofs [rR,h0,h3,h5,g0,hx1,hx2,hx3,hz1,hz2,hz3',m1,m48,c0,hne,za4,hPe,(zaR (by omega):(P.length≤zaj)=True),(zaR (by omega):(P.length*48≤zaj)=True)];refine zay ?_;simp -implicitDefEqProofs [rR,h0,h3,h5,g0,hx1,hx2,hx3,hz1,hz2,hz3',m1,m48,tmE,c0,hne,e1,za4,hPe,hz,hs,hl1,htk,(zaR (by omega):(P.length+1≤zaj)=True),(zaR (by omega):((P.length+1)*48≤zaj)=True),(leF (by omega):(P.length+1≤P.length)=False)]
  ·have hneQ:=zvY hQe;have hq0:=List.length_pos_iff.2 hQe;have hR:P++t::Q=(P++[t])++Q:=by simp
   have hs:=zmM (l:=P++t::Q) (by simp);have e2:zaB (P++[t])++zaB Q=zaB (P++t::Q):=by rw[ziN,hR]
   have hl2:(P++t::Q).length=P.length+1+Q.length:=by simp;omega
   generalize P++t::Q=R at e2 hl2 hs⊢;generalize P++[t]=M at e1 e2 hl1;have hz:∀h,zaT (frz h 11) (zaB R)=some (R.map tmF,[]):=fun h=>zhN h 10 _
   have htk:(zaB R).take (P.length+1+Q.length)=zaB R:=by rw[<-hl2,<-za4 R,List.take_length]
   simp -implicitDefEqProofs [rR,h0,h3,h5,g0,hx1,hx2,hx3,hz1,hz2,hz3,m1,m48,c0,hne,za4,hPe,(zaR (by omega):(P.length≤zaj)=True),(zaR (by omega):(P.length*48≤zaj)=True)];refine zay ?_;simp -implicitDefEqProofs [rR,h0,h3,h5,g0,hx1,hx2,hx3,hz1,hz2,hz3,m1,m48,tmE,c0,hne,hneQ,hQe,e1,e2,za4,hPe,hz,hs,hl1,hl2,htk,(zaR (by omega):(P.length+1≤zaj)=True),(zaR (by omega):((P.length+1)*48≤zaj)=True),(leF (by omega):(P.length+1≤P.length)=False),(leF (by omega):(P.length+1+Q.length≤P.length+1)=False),(zaR (by omega):(P.length+1+Q.length≤zaj)=True),(zaR (by omega):((P.length+1+Q.length)*48≤zaj)=True)]
def lo75:C:= .seq (.seq (.dreg [(oM 12 5,0),(oM 13 0,1),(oR 14 (.len (.t 13)),1),(oR 15 (.bin .lss (.t 12) (.t 14)),0),(oM 16 15,0),(oG 17 16 (.mv (.t 0)),0),(oG 18 16 (.mv (.t 5)),32),(oG 19 16 (.ia 4 (.t 17) (.t 18)),0),(oG 20 16 (.ld true 4 (.t 19)),0),(oG 21 16 (.ld true 4 (.t 3)),480),(oG 22 16 (.callp 103 [(.t 20),(.t 21)]),0),(oG 23 16 (.bin .lss (.t 22) (.k (.i .i64 0))),0),(oR 24 (.pick (.t 16) (.t 23) (.k (.b false))),0)])
 (.cond (.t 24) .skip (.exit 0)))
 (.blk 1 (.reg [oM 25 5,oR 26 (.bin .add (.t 25) (.k (.i .i64 1))),oM 5 26]))
def t75:C:= .seq (.seq (.dreg [(oM 27 5,0),(oM 28 0,1),(oR 29 (.len (.t 28)),1),(oR 30 (.bin .lss (.t 27) (.t 29)),0),(oM 31 30,0),(oG 32 31 (.mv (.t 0)),0),(oG 33 31 (.mv (.t 5)),32),(oG 34 31 (.ia 4 (.t 32) (.t 33)),0),(oG 35 31 (.ld true 4 (.t 34)),0),(oG 36 31 (.ld true 4 (.t 3)),480),(oG 37 31 (.callp 104 [(.t 35),(.t 36)]),0),(oR 38 (.pick (.t 31) (.t 37) (.k (.b false))),0)])
 (.cond (.t 38) (oZ [oM 39 0,oM 4 39]
 .ret) .skip))
 i75
theorem zQ6(l:List Trm)(t:Trm)(hl:∀a∈l,zau a)(ht:zau t)(hn:l.length<1000)(n:Nat)(hnl:n≤l.length)(S:St)(hS:S.tm.get 0=some (.f (zaX l))/\S.tm.get 3=some (.ptr 0 4 0 0)/\S.tm.get 5=some (.f (.i .i64 n))/\S.h.get 0=some (.arr 4 0 [F.dL (tmF t)])/\1≤S.c):
    wpC pr t75 S (zkV [.t 4] (zaX (if(l[n]?.any (zbi · t))=true then l else l.take n++t::l.drop n))):=by
  obtain⟨h0,h3,h5,g0,hc⟩ :=hS;have c0:(0:Nat)≠S.c:=by omega
  unfold t75;simp only[rU]
  by_cases hlt:n<l.length
  · have q:=fun k=>zak (k:=k) (zjZ l[n] t (hl _ (List.getElem_mem hlt)) ht)
    simp only[tmE]at q;rw[List.getElem?_eq_getElem hlt,Option.any_some];generalize zbi l[n] t=b at q⊢;cases b with
    | true=>
      simp -implicitDefEqProofs [rR,h0,h3,h5,g0];refine zay ?_;simp -implicitDefEqProofs [rR,h0,h3,h5,g0,zaQ,zbr,hlt,tmE,q,zaS]
    | false=>
      simp -implicitDefEqProofs [rR,h0,h3,h5,g0];refine zay ?_;simp -implicitDefEqProofs [rR,h0,h3,h5,g0,zaQ,zbr,hlt,tmE,q,zaS];refine zJq l t hn n hnl _ ?_;simp -implicitDefEqProofs [rR,h0,h3,h5,g0]
  · rw[List.getElem?_eq_none (by omega)];simp -implicitDefEqProofs [rR,h0,h3,h5,g0];refine zay ?_;simp -implicitDefEqProofs [rR,h0,h3,h5,g0,zaQ,zbr,hlt,tmE,zaS];refine zJq l t hn n hnl _ ?_;simp -implicitDefEqProofs [rR,h0,h3,h5,g0]
theorem zza(l:List Trm)(t:Trm)(hl:∀a∈l,zau a)(ht:zau t)(hn:l.length<1000):Ans pr 75 [zaX l,.ag (tmF t)] (zaX (zcz l t)):=by
  refine za1 fn75 ?_;simp only[g75,rU];have fin:∀(n:Nat) (s:St),n≤l.length->zcz l t=(if(l[n]?.any (zbi · t))=true then l else l.take n++t::l.drop n)->(s.tm.get 0=some (.f (zaX l))/\s.tm.get 3=some (.ptr 0 4 0 0)/\s.tm.get 5=some (.f (.i .i64 n))/\s.h.get 0=some (.arr 4 0 [F.dL (tmF t)])/\1≤s.c)->wpC pr t75 s (zkV [.t 4] (zaX (zcz l t))):=by
    intro n s hnl he hS;rw[he];exact zQ6 l t hl ht hn n hnl s hS
  have lp:∀S:St,(S.tm.get 0=some (.f (zaX l))/\S.tm.get 3=some (.ptr 0 4 0 0)/\S.tm.get 5=some (.f (.i .i64 0))/\S.h.get 0=some (.arr 4 0 [F.dL (tmF t)])/\1≤S.c)->WL pr lo75 S (kb 0 (sq pr t75 (zkV [.t 4] (zaX (zcz l t))))):=by
    rintro S ⟨h0,h3,h5,g0,hc⟩;unfold lo75;simp only[rU];refine zd2 l (fun a=>!decide (zaO a t<0)) (fun n s=>s.tm.get 0=some (.f (zaX l))/\s.tm.get 3=some (.ptr 0 4 0 0)/\s.tm.get 5=some (.f (.i .i64 n))/\s.h.get 0=some (.arr 4 0 [F.dL (tmF t)])/\1≤s.c) (fun x s=>x= .exit 0/\s.tm.get 0=some (.f (zaX l))/\s.tm.get 3=some (.ptr 0 4 0 0)/\s.tm.get 5=some (.f (.i .i64 l.length))/\s.h.get 0=some (.arr 4 0 [F.dL (tmF t)])/\1≤s.c) (fun n x s=>x= .exit 0/\s.tm.get 0=some (.f (zaX l))/\s.tm.get 3=some (.ptr 0 4 0 0)/\s.tm.get 5=some (.f (.i .i64 n))/\s.h.get 0=some (.arr 4 0 [F.dL (tmF t)])/\1≤s.c) ?_ ?_ _ ?_ ?_ ?_
    · rintro n s hlt ⟨h0,h3,h5,g0,hc⟩;have hw:=zao n (by omega);have q:=fun k=>zak (k:=k) (zlw l[n] t (hl _ (List.getElem_mem hlt)) ht)
      simp only[tmE]at q;generalize zaO l[n] t=o at q⊢
      by_cases ho:o<0
      · simp -implicitDefEqProofs [rR,h0,h3,h5,g0];refine zay ?_;simp -implicitDefEqProofs [rR,h0,h3,h5,g0,zaQ,zbr,hlt,tmE,q,ho,hw,hc]
      · simp -implicitDefEqProofs [rR,h0,h3,h5,g0];refine zay ?_;simp -implicitDefEqProofs [rR,h0,h3,h5,g0,zaQ,zbr,hlt,tmE,q,ho,hw,hc];omega
    · rintro s ⟨h0,h3,h5,g0,hc⟩;simp -implicitDefEqProofs [rR,h0,h3,h5,g0];refine zay ?_;simp -implicitDefEqProofs [rR,h0,h3,h5,g0,zaQ,hc]
    · simp -implicitDefEqProofs [rR,h0,h3,h5,g0,hc]
    · rintro h x s ⟨rfl,hS⟩;rw[zmC,if_pos rfl,zpC];refine fin l.length s (Nat.le_refl _) ?_ hS;rw[ztk l t h];simp
    · rintro n hlt hp hm x s ⟨rfl,hS⟩;rw[zmC,if_pos rfl,zpC];refine fin n s (by omega) ?_ hS;rw[zto l t n hlt hp hm,List.getElem?_eq_getElem hlt,Option.any_some]
  cases t with
  | cst v=>
    simp -implicitDefEqProofs [rR,st0,zae,zaS,tmE,tv,tk,tn];refine lp _ ?_;simp -implicitDefEqProofs [rR,st0,zae,tmE,tv,tk,tn]
  | var v=>
    have hv:v≠[]:=ht;simp -implicitDefEqProofs [rR,st0,zae,zaS,tmE,tv,tk,tn,hv];refine lp _ ?_;simp -implicitDefEqProofs [rR,st0,zae,tmE,tv,tk,tn]
def zf8(l:List Trm)(ts:List Trm):List Trm:=ts.foldl zcz l
def zf4(c:CQ):List Trm:=c.cs.foldl (fun l k=>zcz (zcz l k.l) k.r) (c.as.foldl (fun l a=>zf8 l a.ts) [])
theorem zwB{l:List Trm}{t:Trm}(hl:∀a∈l,zau a)(ht:zau t):∀a∈zcz l t,zau a:=by
 induction l with
 |nil=>intro a ha;simp[zcz]at ha;rw[ha];exact ht
 |cons b l ih=>
  intro a ha;unfold zcz at ha;split at ha
  ·rcases List.mem_cons.1 ha with h|h
   ·rw[h];exact hl b (by simp)
   ·exact ih (fun x hx=>hl x (by simp[hx])) a h
  ·split at ha
   ·exact hl a ha
   ·rcases List.mem_cons.1 ha with h|h
    ·rw[h];exact ht
    ·exact hl a h
theorem ztm(l:List Trm)(t:Trm):(zcz l t).length≤l.length+1:=by
 induction l with
 |nil=>simp[zcz]
 |cons b l ih=>
  unfold zcz;split
  ·simp;exact ih
  ·split<;>simp
def zgV(n:Nat)(l:List Trm):Prop:=(∀a∈l,zau a)/\l.length≤n
theorem zgV.add{n:Nat}{l:List Trm}{t:Trm}(h:zgV n l)(ht:zau t):zgV (n+1) (zcz l t):=⟨zwB h.1 ht,Nat.le_trans (ztm l t) (by have:=h.2;omega)⟩
theorem zgV.adds{ts:List Trm}:∀{n:Nat} {l:List Trm},zgV n l->(∀t∈ts,zau t)->zgV (n+ts.length) (zf8 l ts):=by
 unfold zf8
 induction ts with
 |nil=>intro n l h _;exact h
 |cons t ts ih=>
  intro n l h ht;have:=ih (h.add (ht t (by simp))) fun u hu=>ht u (by simp[hu])
  simpa [Nat.add_assoc,Nat.add_comm 1]using this
structure zbu(c:CQ):Prop extends CqOk c where
 sa:c.as.length≤12
 st:∀a∈c.as,a.ts.length≤12
 sc:c.cs.length≤12
 s2:∀a∈c.as,a.ts.length≤2
theorem zpY{l:List Atm}(hl:∀a∈l,zcc a/\a.ts.length≤12):∀{n:Nat} {x:List Trm},zgV n x->zgV (n+12*l.length) (l.foldl (fun l a=>zf8 l a.ts) x):=by
 induction l with
 |nil=>intro n x h;exact h
 |cons a l ih=>
  intro n x h;have h1:=h.adds (hl a (by simp)).1.1;have h2:zgV (n+12) (zf8 x a.ts):=⟨h1.1,Nat.le_trans h1.2 (by have:=(hl a (by simp)).2;omega)⟩
  have:=ih (fun b hb=>hl b (by simp[hb])) h2;exact⟨this.1,Nat.le_trans this.2 (by simp;omega)⟩
theorem zxu{l:List Cm}(hl:∀k∈l,zb8 k):∀{n:Nat} {x:List Trm},zgV n x->zgV (n+2*l.length) (l.foldl (fun l k=>zcz (zcz l k.l) k.r) x):=by
 induction l with
 |nil=>intro n x h;exact h
 |cons a l ih=>
  intro n x h;have h1:=(h.add (hl a (by simp)).1).add (hl a (by simp)).2;have:=ih (fun b hb=>hl b (by simp[hb])) h1;exact⟨this.1,Nat.le_trans this.2 (by simp;omega)⟩
theorem zN3{c:CQ}(hc:zbu c):zgV 168 (zf4 c):=by
 have h1:=zpY (l:=c.as) (n:=0) (x:=[]) (fun a ha=>⟨hc.as a ha,hc.st a ha⟩) ⟨by simp,by simp⟩;have h2:=zxu hc.cs h1;exact⟨h2.1,Nat.le_trans h2.2 (by have:=hc.sa;have:=hc.sc;omega)⟩
theorem ans34(c:CQ)(hc:zbu c):Ans pr 34 [.ag (cqF c)] (zaX (zf4 c)):=by
 refine za1 fn34 ?_;simp only[g34,rU];simp -implicitDefEqProofs [rR,st0,zae,cqE,zaV,zaW];refine zd5 c.as (fun l a=>zf8 l a.ts) [] (fun n a s=>s.tm.get 1=some (.ptr 0 2 0 0)/\s.tm.get 3=some (.f (zaX a))/\s.tm.get 4=some (.f (.i .i64 n))/\s.h.get 0=some (.arr 2 0 [[.f (zaC c),.f (zaF c)]])) (fun x s=>x= .exit 0/\s.tm.get 1=some (.ptr 0 2 0 0)/\s.tm.get 3=some (.f (zaX (c.as.foldl (fun l a=>zf8 l a.ts) [])))/\s.h.get 0=some (.arr 2 0 [[.f (zaC c),.f (zaF c)]])) ?_ ?_ _ ?_ ?_
 ·rintro n a s hn ha ⟨h1,h3,h4,g0⟩;have hw:=zao n (by have:=hc.sa;omega);have hok:=zpY (l:=c.as.take n) (n:=0) (x:=[]) (fun b hb=>⟨hc.as b (List.mem_of_mem_take hb),hc.st b (List.mem_of_mem_take hb)⟩) ⟨by simp,by simp⟩;rw[<-ha]at hok;have hok2:zgV 144 a:=⟨hok.1,Nat.le_trans hok.2 (by have:=hc.sa;simp;omega)⟩
  have hat:=hc.as _ (List.getElem_mem hn);have hst:=hc.st _ (List.getElem_mem hn);generalize hA:c.as[n]=A at hat hst⊢;simp -implicitDefEqProofs [rR,h1,h3,h4,g0,za2,hn];refine zd5 A.ts zcz a (fun m b s=>s.tm.get 1=some (.ptr 0 2 0 0)/\s.tm.get 3=some (.f (zaX b))/\s.tm.get 4=some (.f (.i .i64 n))/\s.tm.get 5=some (.f (.i .i64 m))/\s.h.get 0=some (.arr 2 0 [[.f (zaC c),.f (zaF c)]])) (fun x s=>x= .exit 2/\s.tm.get 1=some (.ptr 0 2 0 0)/\s.tm.get 3=some (.f (zaX (zf8 a A.ts)))/\s.tm.get 4=some (.f (.i .i64 n))/\s.h.get 0=some (.arr 2 0 [[.f (zaC c),.f (zaF c)]])) ?_ ?_ _ ?_ ?_
  ·rintro m b s hm hb ⟨h1,h3,h4,h5,g0⟩;have hwm:=zao m (by omega);have hb2:=hok2.adds (ts:=A.ts.take m) (fun t ht=>hat.1 t (List.mem_of_mem_take ht));rw[show zf8 a (A.ts.take m)=b from hb.symm]at hb2;have q:=fun k=>zak (k:=k) (zza b A.ts[m] hb2.1 (hat.1 _ (List.getElem_mem hm)) (by have:=hb2.2;simp at this;omega))
   simp only[tmE]at q;simp -implicitDefEqProofs [rR,h1,h3,h4,h5,g0,za2,zcI,zaQ,zbr,hn,hA,atE,hm,tmE,zaS,q,hwm]
  ·rintro s ⟨h1,h3,h4,h5,g0⟩;simp -implicitDefEqProofs [rR,h1,h3,h4,h5,g0,zcI,zaQ,hn,hA,atE];rfl
  ·simp -implicitDefEqProofs [rR,h1,h3,h4,g0]
  ·rintro x s ⟨rfl,h1,h3,h4,g0⟩;simp -implicitDefEqProofs [rR,h1,h3,h4,g0,hw]
 ·rintro s ⟨h1,h3,h4,g0⟩;simp -implicitDefEqProofs [rR,h1,h3,h4,g0,za2]
 ·simp -implicitDefEqProofs [rR,st0,zae,cqE,zaV,zaW,(show zaX []= .nils from rfl)]
 ·rintro x s ⟨rfl,h1,h3,g0⟩;have h0:=zpY (l:=c.as) (n:=0) (x:=[]) (fun b hb=>⟨hc.as b hb,hc.st b hb⟩) ⟨by simp,by simp⟩;have hok:zgV 144 (c.as.foldl (fun l a=>zf8 l a.ts) []):=⟨h0.1,Nat.le_trans h0.2 (by have:=hc.sa;omega)⟩
  have ht:zf4 c=c.cs.foldl (fun l k=>zcz (zcz l k.l) k.r) (c.as.foldl (fun l a=>zf8 l a.ts) []):=rfl;rw[ht];clear h0 ht;generalize c.as.foldl (fun l a=>zf8 l a.ts) []=x0 at hok h3⊢;generalize hres:c.cs.foldl (fun l k=>zcz (zcz l k.l) k.r) x0=res;simp -implicitDefEqProofs [rR,h1,h3,g0];refine zd5 c.cs (fun l k=>zcz (zcz l k.l) k.r) x0 (fun n a s=>s.tm.get 1=some (.ptr 0 2 0 0)/\s.tm.get 3=some (.f (zaX a))/\s.tm.get 6=some (.f (.i .i64 n))/\s.h.get 0=some (.arr 2 0 [[.f (zaC c),.f (zaF c)]])) (fun x s=>x= .exit 4/\s.tm.get 3=some (.f (zaX res))) ?_ ?_ _ ?_ ?_
  ·rintro n a s hn ha ⟨h1,h3,h6,g0⟩;have hw:=zao n (by have:=hc.sc;omega);have hok2:=zxu (l:=c.cs.take n) (fun b hb=>hc.cs b (List.mem_of_mem_take hb)) hok;rw[<-ha]at hok2;have hk:=hc.cs _ (List.getElem_mem hn);have hl2:a.length≤168:=Nat.le_trans hok2.2 (by have:=hc.sc;simp;omega);generalize hK:c.cs[n]=K at hk⊢;have q1:=fun k=>zak (k:=k) (zza a K.l hok2.1 hk.1 (by omega))
   have q2:=fun k=>zak (k:=k) (zza (zcz a K.l) K.r (zwB hok2.1 hk.1) hk.2 (by have:=ztm a K.l;omega))
   simp only[tmE]at q1 q2;simp -implicitDefEqProofs [rR,h1,h3,h6,g0,zbf,hn];refine zay ?_;simp -implicitDefEqProofs [rR,h1,h3,h6,g0,zbf,zcs,hn,hK,cmF,tmE,zaS,q1,q2,hw]
  ·rintro s ⟨h1,h3,h6,g0⟩;rw[hres]at h3;simp -implicitDefEqProofs [rR,h1,h3,h6,g0,zbf]
  ·simp -implicitDefEqProofs [rR,h1,h3,g0]
  ·rintro x s ⟨rfl,h3⟩;simp -implicitDefEqProofs [rR,h3,zaS]
theorem zbB:zsD pr:=zFB prOk
def zcA(l:List Str)(s:Str):List Str:=if s=[]\/l.any (· ==s)=true then l else l++[s]
def zbq(l:List Str):List (List D):=l.map fun s=>[D.f (.s s)]
theorem zbn(l:List Str):(zbq l).length=l.length:=by simp[zbq]
theorem zgQ(l:List Str):(zbq l).take l.length=zbq l:=by rw[<-zbn l,List.take_length]
theorem zeF(h:Nat->Option Ob)(k:Nat)(l:List Str):zaT (frz h (k+1)) (zbq l)=some (l.map fun s=>[F.s s],[]):=zzJ h k F.s l
theorem zk9{l:List Str}(h:l≠[]):F.sl 1 (l.map fun s=>[F.s s])=zas l:=zcX (by simpa using h)
theorem zEN(l:List Str)(s:Str):zbq l++[[D.f (.s s)]]=zbq (l++[s]):=by simp[zbq]
theorem zi5{l:List Str}(h:zbq l=[]):l=[]:=by simpa [zbq]using h
theorem zsM(l:List Str)(x:Str)(hl:l.length<100000){h:T Ob}{lo c:Nat}{d:D}(hg:Gro h lo c 1 d (zbq l))(hlo:lo≤c):
  Eff pr 74 [d,.f (.s x)] h c fun d' h' c'=>Gro h' lo c' 1 d' (zbq (zcA l x))/\∀id,id<c->d.oid≠some id->h'.get id=h.get id:=by
 refine zdA zbB fn74 ?_;simp only[g74,rU];have q:=fun k=>zak (k:=k) (zO9 l x (by omega))
 have m1:(1≤zaj)=True:=zaR (by omega);have m2:(16≤zaj)=True:=zaR (by omega);unfold zcA;rcases hg with⟨rfl,hn⟩ |⟨id,ro,rfl,hne,hid,hro,hlid,hidc⟩
 ·have:=zi5 hn;subst this;rw[(show zas []= .nils from rfl)]at q
  by_cases hx:x=[]
  ·simp[rW,st0,zae,hx,zct];exact .inl ⟨rfl,rfl⟩
  ·simp[rW,st0,zae,hx,zct,q,m1,m2];exact⟨.inr ⟨c,0,rfl,by simp[zbq],by simp[T.zab,zbq],Nat.zero_le _,hlo,by omega⟩,fun id h1 h2=>by omega⟩
 ·rw[zbn]at*;have hl0:l≠[]:=fun e=>hne (by rw[e];rfl)
  have hz:=zk9 hl0;have ht:(zbq l).take l.length=zbq l:=by rw[<-zbn l,List.take_length]
  by_cases hx:x=[]
  ·simp[rW,st0,zae,hx,zct];exact .inr ⟨id,ro,by rw[zbn],hne,hid,by rw[zbn];exact hro,hlid,hidc⟩
  ·have m3:(l.length+1≤zaj)=True:=zaR (by omega);have m4:((l.length+1)*16≤zaj)=True:=zaR (by omega);have hlt:(l.length+1≤l.length)=False:=leF (by omega)
   by_cases hr:l.length≤ro
   ·by_cases hm:x∈l
    ·simp[rW,st0,zae,hx,zct,q,m1,m2,hid,zbn,zeF,hz,ht,hr,hm,hidc];exact .inr ⟨id,ro,by rw[zbn],hne,hid,by rw[zbn];exact hro,hlid,hidc⟩
    ·simp[rW,st0,zae,hx,zct,q,m1,m2,m3,m4,hid,zbn,zeF,hz,ht,hr,hm,hidc,hro,hlt];refine⟨by omega,.inr ⟨c,ro,by simp[zbq],by simp[zbq],by simp[T.zab,zbq],(by rw[zbn,List.length_append];omega),hlo,by omega⟩,fun i h1 h2=>by simp[show i≠c by omega,show i≠id from fun e=>h2 e.symm]⟩
   ·by_cases hm:x∈l
    ·simp[rW,st0,zae,hx,zct,q,m1,m2,hid,zbn,zeF,hz,ht,hr,hm,hidc];exact⟨.inr ⟨id,l.length,by rw[zbn],hne,by simp[T.zab],by simp[zbq],hlid,hidc⟩,fun i h1 h2 h3=>absurd h3.symm h2⟩
    ·simp[rW,st0,zae,hx,zct,q,m1,m2,m3,m4,hid,zbn,zeF,hz,ht,hr,hm,hidc,hro,hlt];refine⟨by omega,.inr ⟨c,l.length,by simp[zbq],by simp[zbq],by simp[T.zab,zbq],(by rw[zbn,List.length_append];omega),hlo,by omega⟩,fun i h1 h2=>by simp[show i≠c by omega,show i≠id from fun e=>h2 e.symm]⟩
def zdp(l:List Str)(ts:List Trm):List Str:=ts.foldl (fun l t=>zcA l (tv t)) l
def vrs(c:CQ):List Str:=c.cs.foldl (fun l k=>zcA (zcA l (tv k.l)) (tv k.r)) (c.as.foldl (fun l a=>zdp l a.ts) [])
theorem zkF(l:List Str)(s:Str):(zcA l s).length≤l.length+1:=by
 unfold zcA;split
 ·omega
 ·simp
theorem zh5(ts:List Trm):∀l:List Str,(zdp l ts).length≤l.length+ts.length:=by
 unfold zdp
 induction ts with
 |nil=>intro l;simp
 |cons t ts ih=>
  intro l;have h1:=zkF l (tv t);have h2:=ih (zcA l (tv t));simp only[List.foldl_cons,List.length_cons];omega
theorem zpW{l:List Atm}(hl:∀a∈l,a.ts.length≤12):∀x:List Str,(l.foldl (fun l a=>zdp l a.ts) x).length≤x.length+12*l.length:=by
 induction l with
 |nil=>intro x;simp
 |cons a l ih=>
  intro x;have h1:=zh5 a.ts x;have h2:=hl a (by simp);have h3:=ih (fun b hb=>hl b (by simp[hb])) (zdp x a.ts);simp only[List.foldl_cons,List.length_cons];omega
theorem zxt(l:List Cm):∀x:List Str,(l.foldl (fun l k=>zcA (zcA l (tv k.l)) (tv k.r)) x).length≤x.length+2*l.length:=by
 induction l with
 |nil=>intro x;simp
 |cons a l ih=>
  intro x;have h1:=zkF x (tv a.l);have h2:=zkF (zcA x (tv a.l)) (tv a.r);have h3:=ih (zcA (zcA x (tv a.l)) (tv a.r));simp only[List.foldl_cons,List.length_cons];omega
theorem zgR{c:CQ}(hc:zbu c):(vrs c).length≤168:=by
 have h1:=zpW hc.st [];have h2:=zxt c.cs (c.as.foldl (fun l a=>zdp l a.ts) []);have:=hc.sa;have:=hc.sc;unfold vrs;simp at h1;omega
theorem ziI{h:T Ob}{lo c es k:Nat}{d:D}{els:List (List D)}{L:List (List F)}(hg:Gro h lo c es d els)(hf:zaT (frz h.get k) els=some (L,[]))(hL:L=[]↔els=[]):∃rd,frz h.get (k+1) d=some (slc es L,rd):=by
 rcases hg with⟨rfl,rfl⟩ |⟨id,ro,rfl,he,ho,hr,hl,hc⟩
 ·rw[hL.2 rfl];exact⟨[],rfl⟩
 ·refine⟨[id],?_⟩;rw[zgy,ho,zdU,zfG];simp only[true_and,Nat.zero_add,Nat.le_refl,if_true,List.drop_zero,List.take_length,hf,zdU];rw[zcX (fun e=>he (hL.1 e))]
theorem zxN{h:T Ob}{lo c:Nat}{d:D}{l:List Str}(hg:Gro h lo c 1 d (zbq l)):∃rd,frz h.get 12 d=some (zas l,rd):=
 ziI (k:=11) hg (zeF _ 10 l) (by simp[zbq])
def V1(h:T Ob)(Z:Nat)(c:CQ)(l:List Str)(n:Nat)(s:St):Prop:=∃d,s.tm.get 1=some (.ptr Z 2 0 0)/\s.tm.get 4=some (.f (.i .i64 n))/\s.tm.get 3=some (d)/\s.h.get Z=some (.arr 2 0 [[.f (zaC c),.f (zaF c)]])/\Gro s.h (Z+1) s.c 1 d (zbq l)/\Z+1≤s.c/\∀j,j<Z->s.h.get j=h.get j
def V2(h:T Ob)(Z:Nat)(c:CQ)(n:Nat)(l:List Str)(m:Nat)(s:St):Prop:=∃d,s.tm.get 1=some (.ptr Z 2 0 0)/\s.tm.get 4=some (.f (.i .i64 n))/\s.tm.get 5=some (.f (.i .i64 m))/\s.tm.get 3=some (d)/\s.h.get Z=some (.arr 2 0 [[.f (zaC c),.f (zaF c)]])/\Gro s.h (Z+1) s.c 1 d (zbq l)/\Z+1≤s.c/\∀j,j<Z->s.h.get j=h.get j
def V3(h:T Ob)(Z:Nat)(c:CQ)(l:List Str)(n:Nat)(s:St):Prop:=∃d,s.tm.get 1=some (.ptr Z 2 0 0)/\s.tm.get 6=some (.f (.i .i64 n))/\s.tm.get 3=some (d)/\s.h.get Z=some (.arr 2 0 [[.f (zaC c),.f (zaF c)]])/\Gro s.h (Z+1) s.c 1 d (zbq l)/\Z+1≤s.c/\∀j,j<Z->s.h.get j=h.get j
theorem zbQ{h:T Ob}{lo c es:Nat}{d:D}{els:List (List D)}(hg:Gro h lo c es d els){i:Nat}(hi:i<lo):d.oid≠some i:=by
 rcases hg with⟨rfl,_⟩ |⟨id,ro,rfl,_,_,_,hl,_⟩
 ·simp[D.oid]
 ·simp[D.oid];omega
theorem zzx(c:CQ)(hc:zbu c){h:T Ob}{Z:Nat}:Eff pr 33 [.ag [.f (zaC c),.f (zaF c)]] h Z fun d h' k'=>Gro h' (Z+1) k' 1 d (zbq (vrs c))/\∀j,j<Z->h'.get j=h.get j:=by
 refine zdA zbB fn33 ?_;simp only[g33,rU];simp[rW,st0,zae];refine zd5 c.as (fun l a=>zdp l a.ts) [] (fun n a s=>V1 h Z c a n s) (fun x s=>x= .exit 0/\∃n,V1 h Z c (c.as.foldl (fun l a=>zdp l a.ts) []) n s) ?_ ?_ _ ?_ ?_
 ·rintro n a s hn ha ⟨d,h1,h4,h3,gZ,hg,hc1,hfr⟩;have hw:=zao n (by have:=hc.sa;omega);have hal:a.length≤144:=by
   have:=zpW (l:=c.as.take n) (fun b hb=>hc.st b (List.mem_of_mem_take hb)) [];rw[<-ha]at this;have:=hc.sa;simp at*;omega
  have hat:=hc.as _ (List.getElem_mem hn);have hst:=hc.st _ (List.getElem_mem hn);generalize hA:c.as[n]=A at hat hst⊢;simp[rW,h1,h4,h3,gZ,za2,hn];refine zd5 A.ts (fun l t=>zcA l (tv t)) a (fun m b s=>V2 h Z c n b m s) (fun x s=>x= .exit 2/\∃m,V2 h Z c n (zdp a A.ts) m s) ?_ ?_ _ ?_ ?_
  ·rintro m b s hm hb ⟨d,h1,h4,h5,h3,gZ,hg,hc1,hfr⟩;have hwm:=zao m (by omega);have hbl:b.length≤200:=by
    have:=zh5 (A.ts.take m) a;rw[show zdp a (A.ts.take m)=b from hb.symm]at this;simp at this;omega
   simp[rW,h1,h4,h5,h3,gZ,za2,zcI,zaQ,zbr,hn,hA,atE,hm,tmE,zaS];refine zfa ?_ ?_ (zsM b (tv A.ts[m]) (by omega) hg hc1) ?_
   ·simp only[rG]
   ·simp only[rG]
   rintro d' h' c' lw' mx' ⟨hg',hf⟩ hcc;have e0:=hf Z (by omega) (zbQ hg (by omega));have hfr2:∀j,j<Z->h'.get j=h.get j:=fun j hj=>(hf j (by omega) (zbQ hg (by omega))).trans (hfr j hj)
   simp[rW,h1,h4,h5,h3,gZ,e0,hwm,V2,hg'];exact⟨Nat.le_trans hc1 hcc,hfr2⟩
  ·rintro s ⟨d,h1,h4,h5,h3,gZ,hg,hc1,hfr⟩;simp[rW,h1,h4,h5,h3,gZ,za2,zcI,zaQ,zbr,hn,hA,atE,zaS,V2,hc1];exact⟨⟨_,rfl⟩,hg,hfr⟩
  ·simp[rW,h1,h4,h3,gZ,V2,hc1,hg];exact hfr
  ·rintro x s ⟨rfl,m,d,h1,h4,h5,h3,gZ,hg,hc1,hfr⟩;simp[rW,h1,h4,h5,h3,gZ,V1,hg,hc1,hw];exact hfr
 ·rintro s ⟨d,h1,h4,h3,gZ,hg,hc1,hfr⟩;simp[rW,h1,h4,h3,gZ,za2,V1,hg,hc1];exact⟨⟨_,rfl⟩,hfr⟩
 ·simp[rW,V1,Gro.nil];exact⟨.inl ⟨rfl,rfl⟩,fun j hj e=>absurd e (by omega)⟩
 ·rintro x s ⟨rfl,n,d,h1,h4,h3,gZ,hg,hc1,hfr⟩;have h0:=zpW (l:=c.as) hc.st [];have hv:vrs c=c.cs.foldl (fun l k=>zcA (zcA l (tv k.l)) (tv k.r)) (c.as.foldl (fun l a=>zdp l a.ts) []):=rfl;rw[hv];clear hv;generalize c.as.foldl (fun l a=>zdp l a.ts) []=x0 at h0 hg⊢;have hx0:x0.length≤144:=by have:=hc.sa;simp at h0;omega
  generalize hres:c.cs.foldl (fun l k=>zcA (zcA l (tv k.l)) (tv k.r)) x0=res;simp[rW,h1,h3,gZ];refine zd5 c.cs (fun l k=>zcA (zcA l (tv k.l)) (tv k.r)) x0 (fun n a s=>V3 h Z c a n s) (fun x s=>x= .exit 4/\∃n,V3 h Z c res n s) ?_ ?_ _ ?_ ?_
  ·rintro n a s hn ha ⟨d,h1,h6,h3,gZ,hg,hc1,hfr⟩;have hw:=zao n (by have:=hc.sc;omega);have hal:a.length≤200:=by
    have:=zxt (c.cs.take n) x0;rw[<-ha]at this;have:=hc.sc;simp at*;omega
   generalize hK:c.cs[n]=K;simp[rW,h1,h6,h3,gZ,zbf,hn];refine zbj ?_;simp[rW,h1,h6,h3,gZ,zbf,zcs,hn,hK,cmF,tmE];refine zv9 (c:=s.c+8) ?_ ?_ (zsM a (tv K.l) (by omega) (zcb hg (Nat.le_add_right _ _) fun _ _ _=>rfl) (by omega)) ?_
   ·simp only[rG]
   ·simp only[rG]
   rintro d1 h1' c1 lw1 mx1 ⟨hg1,hf1⟩ hcc1 hm1;have e0:=hf1 Z (by omega) (zbQ hg (by omega));simp[rW,h1,h6,h3,gZ,e0,zcs,hn,hK,cmF,tmE];have hal2:=zkF a (tv K.l);refine zv9 (h:=h1') (c:=mx1+7) ?_ ?_ (zsM (zcA a (tv K.l)) (tv K.r) (by omega) (zcb hg1 (by omega) fun _ _ _=>rfl) (by omega)) ?_
   ·simp only[rG]
   ·simp only[rG]
   rintro d2 h2' c2 lw2 mx2 ⟨hg2,hf2⟩ hcc2 hm2;have e2:=hf2 Z (by omega) (zbQ hg1 (by omega));have hfr2:∀j,j<Z->h2'.get j=h.get j:=fun j hj=>((hf2 j (by omega) (zbQ hg1 (by omega))).trans (hf1 j (by omega) (zbQ hg (by omega)))).trans (hfr j hj)
   simp[rW,h1,h6,h3,gZ,e0,e2,V3,hw];exact⟨zcb hg2 (by omega) fun _ _ _=>rfl,by omega,hfr2⟩
  ·rintro s ⟨d,h1,h6,h3,gZ,hg,hc1,hfr⟩;rw[hres]at hg;simp[rW,h1,h6,h3,gZ,zbf,V3,hg,hc1];exact⟨⟨_,rfl⟩,hfr⟩
  ·simp[rW,h1,h3,gZ,V3,hg,hc1];exact hfr
  ·rintro x s ⟨rfl,n,d,h1,h6,h3,gZ,hg,hc1,hfr⟩;simp[rW,h1,h6,h3,gZ,zct];refine⟨⟨hg,hfr⟩,fun e hF=> ?_⟩;rcases hg with⟨rfl,hn⟩ |⟨id,ro,rfl,_⟩
   ·exact .inl ⟨rfl,hn⟩
   ·simp[D.isF]at hF
def zhg(a b:CQ)(hd:List Str):Option (List Trm):=zdv a b (vrs a) (zf4 b) hd (vrs a).length []
theorem zFf(a b:CQ)(hd:List Str)(ha:zbu a)(hb:zbu b)(hh:hd.length<1000):Ans pr 9 [.ag (cqF a),.ag (cqF b),zas hd] (zfy (zhg a b hd)):=by
 refine za1 fn9 ?_;simp only[g9,rU];have q2:=fun k=>zak (k:=k) (ans34 b hb)
 have hv:=zgR ha;have ht:=zN3 hb;have q3:=fun k=>zak (k:=k) (ans32 a b (vrs a) (zf4 b) hd ha.toCqOk hb.toCqOk (by omega) ht.1 (by have:=ht.2;omega) hh (vrs a).length [] (by simp) (by simp))
 rw[show zdv a b (vrs a) (zf4 b) hd (vrs a).length []=zhg a b hd from rfl,(show zaX []= .nils from rfl)]at q3;simp only[cqE]at q2 q3;generalize zhg a b hd=r at q3⊢;simp[rW,st0,zae,cqE,zaV,zaW,zaL];refine zbj ?_;simp[rW,st0,zae,cqE,zaV,zaW,zaL];refine zv9 rfl rfl (zzx a ha) ?_;rintro d' h' c' lw mx ⟨hg,hfr⟩ hcc hm;simp only[rG]at hg hfr hcc;have e0:=hfr 0 (by omega);have e1:=hfr 1 (by omega);simp[Vse.T.zab]at e0 e1;rcases hg with⟨rfl,hn⟩ |⟨id,ro,rfl,hne,hid,hro,hlid,hidc⟩
 ·have hn0:=zi5 hn;rw[hn0,(show zas []= .nils from rfl)]at q3;cases r with
  |none=>simp[rW,e0,e1,q2,q3,zaS,zaL,zfy]
  |some l=>simp[rW,e0,e1,q2,q3,zaS,zaL,zfy]
 ·rw[zbn]at*;have hl0:vrs a≠[]:=fun e=>hne (by rw[e];rfl)
  have hz:=zk9 hl0;have hf:=fun h=>zeF h 10 (vrs a)
  have ht2:=zgQ (vrs a);cases r with
  |none=>
   simp[rW,e0,e1,q2,q3,zaS,zaL,zfy,hid,hz,hf,ht2,zbn];split
   ·rfl
   ·simp[zat,Nat.blt_eq];omega
  |some l=>
   simp[rW,e0,e1,q2,q3,zaS,zaL,zfy,hid,hz,hf,ht2,zbn];split
   ·rfl
   ·simp[zat,Nat.blt_eq];omega
theorem fn145:pr.fn 145=some zAq:=by kernel_rfl
theorem fn146:pr.fn 146=some zAr:=by kernel_rfl
theorem fn126:pr.fn 126=some zAc:=by kernel_rfl
theorem fn127:pr.fn 127=some zAd:=by kernel_rfl
theorem fn91:pr.fn 91=some g91:=by kernel_rfl
theorem fn125:pr.fn 125=some zAb:=by kernel_rfl
theorem fn90:pr.fn 90=some g90:=by kernel_rfl
theorem fn58:pr.fn 58=some g58:=by kernel_rfl
theorem fn60:pr.fn 60=some g60:=by kernel_rfl
theorem fn56:pr.fn 56=some g56:=by kernel_rfl
theorem fn111:pr.fn 111=some zzS:=by kernel_rfl
theorem fn82:pr.fn 82=some g82:=by kernel_rfl
theorem fn114:pr.fn 114=some zzY:=by kernel_rfl
theorem fn87:pr.fn 87=some g87:=by kernel_rfl
theorem fn86:pr.fn 86=some g86:=by kernel_rfl
theorem fn54:pr.fn 54=some g54:=by kernel_rfl
theorem fn28:pr.fn 28=some g28:=by kernel_rfl
theorem fn29:pr.fn 29=some g29:=by kernel_rfl
theorem fn94:pr.fn 94=some g94:=by kernel_rfl
theorem zQA{f:Nat}{args:List D}{h:T Ob}{c:Nat}{x:F}(h1:pr.fn f=none)(h2:pr.ext f args=some x):RO pr f args h c x.d:=by
 refine⟨c,Nat.le_refl _,1,fun n hn=> ?_⟩;obtain⟨m,rfl⟩ :∃m,n=m+1:=⟨n - 1,by omega⟩
 simp only[zdd,h1,h2]
theorem zxm:∀a b:Str,Go.Lib.compareBytes a b=zeo a b
 |[],[]=>rfl
 |[],b::l=>by simp[Go.Lib.compareBytes,zeo,Go.Op.bytesLess]
 |a::l,[]=>by simp[Go.Lib.compareBytes,zeo,Go.Op.bytesLess]
 |a::l,b::m=>by
  have ih:=zxm l m;unfold Go.Lib.compareBytes zeo Go.Op.bytesLess
  by_cases h1:a<b
  ·simp[h1]
  ·by_cases h2:b<a
   ·have h3:a≠b:=fun e=>by subst e;exact h1 h2
    simp[h1,h2,h3]
   ·have h3:a=b:=UInt8.le_antisymm (UInt8.not_lt.1 h2) (UInt8.not_lt.1 h1);subst h3;simp only[h1,if_false,ih,zeo];simp
theorem ro128(a b:Str)(h:T Ob)(c:Nat):RO pr 128 [.f (.s a),.f (.s b)] h c (.f (.i .i64 (zeo a b))):=by
 have:=zQA (h:=h) (c:=c) (f:=128) (args:=[.f (.s a),.f (.s b)]) (x:= .i .i64 (Go.Lib.compareBytes a b)) (by kernel_rfl) rfl;rw[zxm]at this;exact this
theorem zBO(a:Int):Ans pr 145 [.i .i64 a] (.b false):=by
 refine za1 fn145 ?_;simp only[zAq,rU];simp[rW,st0,zae]
theorem zBQ(a:Int):Ans pr 146 [.i .i64 a] (.b false):=by
 refine za1 fn146 ?_;simp only[zAr,rU];simp[rW,st0,zae]
theorem zPh(a b:Int):Ans pr 126 [.i .i64 a,.i .i64 b] (.i .i64 (zdL a b)):=by
 refine za1 fn126 ?_;simp only[zAc,rU];have q1:=fun k=>zak (k:=k) (zBO a)
 have q2:=fun k=>zak (k:=k) (zBO b)
 unfold zdL
 by_cases h1:a<b
 ·have h2:¬a=b:=by omega
  simp[rW,st0,zae,q1,q2,h1,h2]
 ·by_cases h2:b<a
  ·have h3:¬a=b:=by omega
   simp[rW,st0,zae,q1,q2,h1,h2,h3]
  ·have h3:a=b:=by omega
   simp[rW,st0,zae,q1,q2,h1,h2,h3]
theorem zPj(a b:Int):Ans pr 127 [.i .i64 a,.i .i64 b] (.i .i64 (zdL a b)):=by
 refine za1 fn127 ?_;simp only[zAd,rU];have q1:=fun k=>zak (k:=k) (zBQ a)
 have q2:=fun k=>zak (k:=k) (zBQ b)
 unfold zdL
 by_cases h1:a<b
 ·have h2:¬a=b:=by omega
  simp[rW,st0,zae,q1,q2,h1,h2]
 ·by_cases h2:b<a
  ·have h3:¬a=b:=by omega
   simp[rW,st0,zae,q1,q2,h1,h2,h3]
  ·have h3:a=b:=by omega
   simp[rW,st0,zae,q1,q2,h1,h2,h3]
theorem zzc(a b:Str):Ans pr 91 [.s a,.s b] (.i .i64 (zeo a b)):=by
 refine za1 fn91 ?_;simp only[g91,rU];simp[rW,st0,zae];refine zcp (ro128 a b _ _) ?_ ?_
 ·simp only[rG];omega
 ·intro mx;simp[rW,st0,zae]
theorem zPd(a b c:Int):Ans pr 125 [.sl 1 [[.i .i64 a],[.i .i64 b],[.i .i64 c]]] (.i .i64 (if a≠0 then a else if b≠0 then b else c)):=by
 refine za1 fn125 ?_;simp only[zAb,rU];have w1:IntKind.i64.wrap 1=1:=rfl;have w2:IntKind.i64.wrap 2=2:=rfl;have w3:IntKind.i64.wrap 3=3:=rfl;simp[rW,st0,zae];refine round ?_
 by_cases ha:a=0
 ·by_cases hb:b=0
  ·simp[rW,ha,hb,w1];refine round ?_;simp[rW,ha,hb,w2];refine round ?_
   by_cases hc:c=0
   ·simp[rW,hc,w3];refine round ?_;simp[rW,hc]
   ·simp[rW,hc]
  ·simp[rW,ha,hb,w1];refine round ?_;simp[rW,hb]
 ·simp[rW,ha]
theorem zzb(a b:Int):Ans pr 90 [.ag (vF a),.ag (vF b)] (.i .i64 (zdL a b)):=by
 refine za1 fn90 ?_;simp only[g90,rU];have q1:=fun k=>zak (k:=k) (zPh 1 1)
 have q2:=fun k=>zak (k:=k) (zPj a b)
 have q3:=fun k=>zak (k:=k) (zzc [] [])
 have q4:=fun k=>zak (k:=k) (zPd (zdL 1 1) (zdL a b) (zeo [] []))
 rw[(show zdL 1 1=0 from rfl)]at q1 q4;rw[(show zeo [] []=0 from rfl)]at q3 q4;have e:(if(0:Int)≠0 then 0 else if zdL a b≠0 then zdL a b else 0)=zdL a b:=by
  simp only[ne_eq,not_true_eq_false,if_false];split
  ·rfl
  ·rename_i h;simp at h;exact h.symm
 rw[e]at q4;simp[rW,st0,zae,vF];refine zay ?_;simp[rW,st0,zae,vF,q1,q2,q3,q4]
theorem zH3(a b:Trm)(ha:zau a)(hb:zau b):Ans pr 58 [.ag (tmF a),.ag (tmF b)] (.i .i64 (zaO a b)):=by
 refine za1 fn58 ?_;simp only[g58,rU];cases a with
 |cst a=>
  cases b with
  |cst b=>
   have q:=fun k=>zak (k:=k) (zzb a b)
   simp only[vF]at q;simp[rW,st0,zae,tmF,vF,zaO,q]
  |var b=>
   simp only[zau]at hb;simp[rW,st0,zae,tmF,zaO,hb]
 |var a=>
  cases b with
  |cst b=>
   simp only[zau]at ha;simp[rW,st0,zae,tmF,zaO,ha]
  |var b=>
   simp only[zau]at ha hb;have q:=fun k=>zak (k:=k) (zzc a b)
   simp[rW,st0,zae,tmF,zaO,ha,hb,q]
theorem zkI(a b:Trm)(ha:zau a)(hb:zau b):Ans pr 60 [.ag (tmF a),.ag (tmF b)] (.b (zbi a b)):=by
 unfold zbi;refine za1 fn60 ?_;simp only[g60,rU];have q:=fun k=>zak (k:=k) (zH3 a b ha hb)
 simp only[tmE]at q;simp[rW,st0,zae,tmE,q]
theorem ans56(t:Trm)(ht:zau t):Ans pr 56 [.ag (tmF t)] (.ag (tmF t)):=by
 refine za1 fn56 ?_;simp only[g56,rU];cases t with
 |cst v=>simp[rW,st0,zae,tmF]
 |var v=>
  simp only[zau]at ht;simp[rW,st0,zae,tmF,ht]
def ixP{α:Type}(l:List α)(p:α->Bool):Int:=match l.findIdx? p with
 |some n=>n
 |none=> -1
theorem zjt{α:Type}{l:List α}{p:α->Bool}(h:∀a∈l,p a=false):ixP l p= -1:=by
 have:l.findIdx? p=none:=List.findIdx?_eq_none_iff.2 h;simp[ixP,this]
theorem zic{α:Type}{l:List α}{p:α->Bool}{n:Nat}(h:n<l.length)(h1:p l[n]=true)(h2:∀m (h':m<n),p (l[m]'(by omega))=false):ixP l p=n:=by
 have:l.findIdx? p=some n:=by
  rw[List.findIdx?_eq_some_iff_getElem];exact⟨h,h1,fun j hj=>by simpa using h2 j hj⟩
 simp[ixP,this]
theorem zkk{α:Type}(l:List α)(p:α->Bool):decide (ixP l p≥0)=l.any p:=by
 cases h:l.any p with
 |true=>
  unfold ixP;cases h2:l.findIdx? p with
  |some n=>simp
  |none=>rw[List.findIdx?_eq_none_iff]at h2;simp at h;obtain⟨x,hx,hp⟩ :=h;rw[h2 x hx]at hp;cases hp
 |false=>
  have:=zjt (l:=l) (p:=p) (by simpa using h);simp[this]
theorem zPa(l:List Str)(x:Str)(hl:l.length<1000000):Ans pr 111 [zas l,.s x] (.i .i64 (ixP l (x== ·))):=by
 refine za1 fn111 ?_;simp only[zzS,rU];simp[rW,st0,zae,zaL,za7];refine zd2 l (x== ·) (fun n s=>s.tm.get 0=some (.f (zas l))/\s.tm.get 1=some (.f (.s x))/\s.tm.get 7=some (.f (.i .i64 l.length))/\s.tm.get 8=some (.f (.i .i64 n))) (fun x s=>x= .exit 0) (fun n y s=>y= .ret/\s.tm.get 4=some (.f (.i .i64 n))) ?_ ?_ _ ?_ ?_ ?_
 ·rintro n s hn ⟨h0,h1,h7,h8⟩;have hw:=zao n (by omega)
  by_cases he:x=l[n]
  ·simp[rW,h0,h1,h7,h8,za7,zb2,hn,he]
  ·simp[rW,h0,h1,h7,h8,za7,zb2,hn,he,hw]
 ·rintro s ⟨h0,h1,h7,h8⟩;simp[rW,h0,h1,h7,h8,za7]
 ·simp[rW,st0,zae]
 ·rintro h x s rfl;rw[zjt h];simp[rW,st0]
 ·rintro n hn hp hm x s ⟨rfl,h4⟩;rw[zic hn hp hm];simp[rW,h4]
theorem zFi(l:List Str)(x:Str):l.any (x== ·)=l.any (· ==x):=by
  congr 1;funext a;exact Bool.beq_comm
theorem zH6(l:List Str)(x:Str)(hl:l.length<1000000):Ans pr 82 [zas l,.s x] (.b (l.any (· ==x))):=by
  refine za1 fn82 ?_;simp only[g82,rU];have q:=fun k=>zak (k:=k) (zPa l x hl)
  have e:=zkk l (x== ·);rw[zFi]at e;rw[<-e];simp[rW,st0,zae,zaL,q]
def zeU(l:List Nat):F:=slc 1 (l.map fun n:Nat=>[F.i .i64 (n:Int)])
theorem zuS(l:List Nat):(zeU l).d= .f (zeU l):=zjD ..
theorem zi0(l:List Nat):zcr (.f (zeU l))=some l.length:=by simp[zeU,zgP]
theorem zrh(l:List Nat)(n:Nat):iaB 1 (.f (zeU l)) n=(l[n]?).map fun k:Nat=>D.fptr [F.i .i64 (k:Int)]:=by simp[zeU,zii,Function.comp_def]
theorem zPc(l:List Nat)(x:Nat)(hl:l.length<1000000):Ans pr 114 [zeU l,.i .i64 x] (.i .i64 (ixP l (x== ·))):=by
 refine za1 fn114 ?_;simp only[zzY,rU];simp[rW,st0,zae,zuS,zi0];refine zd2 l (x== ·) (fun n s=>s.tm.get 0=some (.f (zeU l))/\s.tm.get 1=some (.f (.i .i64 x))/\s.tm.get 7=some (.f (.i .i64 l.length))/\s.tm.get 8=some (.f (.i .i64 n))) (fun x s=>x= .exit 0) (fun n y s=>y= .ret/\s.tm.get 4=some (.f (.i .i64 n))) ?_ ?_ _ ?_ ?_ ?_
 ·rintro n s hn ⟨h0,h1,h7,h8⟩;have hw:=zao n (by omega)
  by_cases he:x=l[n]
  ·simp[rW,h0,h1,h7,h8,zi0,zrh,hn,he]
  ·have he':¬((x:Int)=(l[n]:Int)):=by omega
   simp[rW,h0,h1,h7,h8,zi0,zrh,hn,he,he',hw]
 ·rintro s ⟨h0,h1,h7,h8⟩;simp[rW,h0,h1,h7,h8,zi0]
 ·simp[rW,st0,zae]
 ·rintro h x s rfl;rw[zjt h];simp[rW,st0]
 ·rintro n hn hp hm x s ⟨rfl,h4⟩;rw[zic hn hp hm];simp[rW,h4]
theorem ans87(l:List Nat)(x:Nat)(hl:l.length<1000000):Ans pr 87 [zeU l,.i .i64 x] (.b (l.any (x== ·))):=by
 refine za1 fn87 ?_;simp only[g87,rU];have q:=fun k=>zak (k:=k) (zPc l x hl)
 have e:=zkk l (x== ·);rw[<-e];simp[rW,st0,zae,zuS,q]
def tsA(c:CQ):List Trm:=c.as.flatMap (·.ts)
def ts2(k:Cm):List Trm:=[k.l,k.r]
def tsC(c:CQ):List Trm:=tsA c++c.cs.flatMap ts2
theorem zv1(l:List Trm):(zaB l).take l.length=zaB l:=by rw[<-za4 l,List.take_length]
def T1(c:CQ)(l:List Trm)(n:Nat)(s:St):Prop:=∃d,s.tm.get 1=some (.ptr 0 2 0 0)/\s.tm.get 11=some (.f (.i .i64 n))/\s.tm.get 9=some (.f (zaC c))/\s.tm.get 10=some (.f (.i .i64 c.as.length))/\s.tm.get 3=some (d)/\s.h.get 0=some (.arr 2 0 [[.f (zaC c),.f (zaF c)]])/\Gro s.h 1 s.c 4 d (zaB l)/\1≤s.c
def T2(c:CQ)(l:List Trm)(n:Nat)(s:St):Prop:=∃d,s.tm.get 23=some (.f (.i .i64 n))/\s.tm.get 21=some (.f (zaF c))/\s.tm.get 22=some (.f (.i .i64 c.cs.length))/\s.tm.get 3=some (d)/\Gro s.h 1 s.c 4 d (zaB l)/\1≤s.c
theorem zf0{α β:Type}(f:α->List β)(m:Nat):∀(l:List α),(∀a∈l,(f a).length≤m)->(l.flatMap f).length≤m*l.length
 |[],_=>by simp
 |a::l,h=>by
  have h1:=h a (by simp);have h2:=zf0 f m l fun b hb=>h b (by simp[hb])
  rw[List.flatMap_cons,List.length_append,List.length_cons,Nat.mul_add];omega
theorem zrF{c:CQ}(hc:zbu c):(tsC c).length≤48:=by
 have h1:=zf0 (·.ts) 2 c.as hc.s2;have h2:=zf0 ts2 2 c.cs (by simp[ts2]);have:=hc.sa;have:=hc.sc;simp only[tsC,tsA,List.length_append];omega
theorem zdR{α β:Type}(f:α->List β):∀(l:List α) (x:List β),l.foldl (fun x a=>x++f a) x=x++l.flatMap f
 |[],x=>by simp
 |a::l,x=>by rw[List.foldl_cons,zdR f l,List.flatMap_cons,List.append_assoc]
theorem zMN{h:T Ob}{lo c:Nat}{d:D}{l:List Trm}(hg:Gro h lo c 4 d (zaB l)):∃rd,frz h.get 12 d=some (zaX l,rd):=
 ziI (k:=11) hg (zhN _ 10 l) (by simp[zaB])
theorem ans86(c:CQ)(hc:zbu c):Ans pr 86 [.ag (cqF c)] (zaX (tsC c)):=by
 refine za1 fn86 ?_;simp only[g86,rU];simp[rW,st0,zae,cqE,zaV,zaW,za2];refine zd5 c.as (fun x a=>x++a.ts) [] (fun n a s=>T1 c a n s) (fun x s=>x= .exit 0/\∃n,T1 c (tsA c) n s) ?_ ?_ _ ?_ ?_
 ·rintro n a s hn ha ⟨d,h1,h11,h9,h10,h3,g0,hg,hc1⟩;have hw:=zao n (by have:=hc.sa;omega);have hal:a.length≤144:=by
   rw[zdR,List.nil_append]at ha;have:=zf0 (fun a:Atm=>a.ts) 12 (c.as.take n) fun b hb=>hc.st b (List.mem_of_mem_take hb)
   rw[<-ha]at this;have:=hc.sa;simp at*;omega
  have hst:=hc.st _ (List.getElem_mem hn);generalize hA:c.as[n]=A at hst⊢;simp[rW,h1,h11,h9,h10,h3,g0,za2,zcI,hn,hA,atE,zaS,zh8];refine zo4 (zcb (c':=s.c+1) hg (by omega) fun id _ h2=> ?_) (by omega) (by simp only[za4];omega) (by omega) ?_
  ·rw[Vse.T.zab,if_neg (by omega),Vse.T.zab,if_neg (by omega)]
  ·intro r hr1 hr2 hr3 hr4 _ _;have e0:=hr4 0 (by omega) (zbQ hg (by omega));have c0:¬0=s.c:=by omega
   rw[Vse.T.zab,if_neg c0,Vse.T.zab,if_neg c0]at e0;refine⟨hr1,?_⟩;simp[rW,h1,h11,h9,h10,h3,g0,e0,hw,T1];rw[<-ziN];exact⟨hr2,by omega⟩
 ·rintro s ⟨d,h1,h11,h9,h10,h3,g0,hg,hc1⟩;rw[zdR,List.nil_append]at hg;simp[rW,h1,h11,h9,h10,h3,g0,za2,T1,hc1];exact⟨⟨_,rfl⟩,hg⟩
 ·simp[rW,T1];exact .inl ⟨rfl,rfl⟩
 ·rintro x s ⟨rfl,n,d,h1,h11,h9,h10,h3,g0,hg,hc1⟩;simp[rW,h1,h11,h9,h10,h3,g0,zbf];have hl0:(tsA c).length≤144:=by
   have:=zf0 (fun a:Atm=>a.ts) 12 c.as hc.st;have:=hc.sa;unfold tsA;omega
  refine zd5 c.cs (fun x k=>x++ts2 k) (tsA c) (fun n a s=>T2 c a n s) (fun x s=>x= .exit 2/\∃n,T2 c (tsC c) n s) ?_ ?_ _ ?_ ?_
  ·rintro n a s hn ha ⟨d,h23,h21,h22,h3,hg,hc1⟩;have hw:=zao n (by have:=hc.sc;omega);have hal:a.length≤168:=by
    rw[zdR]at ha;have:=zf0 ts2 2 (c.cs.take n) (by simp[ts2]);rw[ha,List.length_append];have:=hc.sc;simp at*;omega
   generalize hK:c.cs[n]=K;simp[rW,h23,h21,h22,h3,zbf,zcs,hn,hK,cmF,tmE];refine zo4 (zcb (c':=s.c+1) hg (by omega) fun id _ h2=> ?_) (by omega) (by simp only[za4];simp;omega) (by omega) ?_
   ·rw[Vse.T.zab,if_neg (by omega),Vse.T.zab,if_neg (by omega)]
   ·intro r hr1 hr2 hr3 hr4 _ _;refine⟨hr1,?_⟩;simp[rW,h23,h21,h22,h3,hw,T2];rw[<-ziN];simp only[ts2,zaB,List.map_cons,List.map_nil,tmE]at hr2⊢;exact⟨hr2,by omega⟩
  ·rintro s ⟨d,h23,h21,h22,h3,hg,hc1⟩;rw[zdR]at hg;simp[rW,h23,h21,h22,h3,zbf,T2,hc1];exact⟨⟨_,rfl⟩,hg⟩
  ·simp[rW,h1,h11,h9,h10,h3,g0,T2,hc1,hg]
  ·rintro x s ⟨rfl,n,d,h23,h21,h22,h3,hg,hc1⟩;obtain⟨rd,hz⟩ :=zMN hg;simp[rW,h3,hz]
end Go.Proofs.YtimgcabgophnfaaGreat
end
