/- The reference: terms, trivial comparisons, variables (ported from seat15b). -/
import Derived.Test.YtmnkdfjljkhneaaGreatPb
import Derived.Test.YtmnkdfjljkhneaaGreatPf
import Derived.KernelRfl
import Derived.IntWalk
import Derived.Test.YtmnkdfjljkhneaaGreatPe
set_option linter.all false
set_option maxRecDepth 100000
set_option maxHeartbeats 4000000
noncomputable section
section
namespace Go.Proofs.YtmnkdfjljkhneaaGreat
open Go Go.Vse Go.Vse.Sm
def fn85:pr.fn 85=some g85:=by kernel_rfl
def fn69:pr.fn 69=some g69:=by kernel_rfl
def fn143:pr.fn 143=some zyH:=by kernel_rfl
def fn97:pr.fn 97=some g97:=by kernel_rfl
def fn134:pr.fn 134=some zyG:=by kernel_rfl
def fn48:pr.fn 48=some g48:=by kernel_rfl
def fn47:pr.fn 47=some g47:=by kernel_rfl
def fn68:pr.fn 68=some g68:=by kernel_rfl
def fn111:pr.fn 111=some zyo:=by kernel_rfl
def zrR(a b:Trm)(ha:zau a)(hb:zau b):Ans pr 85 [.ag (tmF a),.ag (tmF b)] (.b (zgs a b)):=by
 unfold zgs;refine zbd fn85 ?_;simp only[g85,rU];have q:=fun k=>zaj (k:=k) (zn1 a b ha hb)
 simp only[tmE]at q;simp -implicitDefEqProofs [rR,st0,zae,tmE,q]
def zrQ(l:List Str)(x:Str)(hl:l.length<1000000):Ans pr 69 [zaq l,.s x] (.b (l.any (· ==x))):=by
  refine zbd fn69 ?_;simp only[g69,rU];simp -implicitDefEqProofs [rR,st0,zae,zaN];refine zcf l (· ==x) (fun n s=>s.tm.get 0=some (.f (zaq l))/\s.tm.get 1=some (.f (.s x))/\s.tm.get 5=some (.f (.i .i64 n))) (fun x s=>x= .exit 0) (fun n y s=>y= .ret/\s.tm.get 4=some (.f (.b true))) ?_ ?_ _ ?_ ?_ ?_
  . rintro n s hn ⟨h0,h1,h5⟩;have hw:=zao n (by omega)
    by_cases he:l[n]=x
    . simp -implicitDefEqProofs [rR,h0,h1,h5,zbQ,zf4,hn,he]
    . simp -implicitDefEqProofs [rR,h0,h1,h5,zbQ,zf4,hn,he,hw]
  . rintro s ⟨h0,h1,h5⟩;simp -implicitDefEqProofs [rR,h0,h1,h5,zbQ]
  . simp -implicitDefEqProofs [rR,st0,zae]
  . rintro h x s rfl;rw[zfr h];simp -implicitDefEqProofs [rR,st0]
  . rintro n hn hp _ x s ⟨rfl,h4⟩;rw[zva hn hp];simp -implicitDefEqProofs [rR,h4]
def zOr(l:List Str)(x:Str)(hl:l.length<1000000):Ans pr 143 [zaq l,.s x] (.b (l.any (· ==x))):=by
  refine zbd fn143 ?_;have h:=(show zyH=g69 from rfl)
  rw[h];simp only[g69,rU];simp -implicitDefEqProofs [rR,st0,zae,zaN];refine zcf l (· ==x) (fun n s=>s.tm.get 0=some (.f (zaq l))/\s.tm.get 1=some (.f (.s x))/\s.tm.get 5=some (.f (.i .i64 n))) (fun x s=>x= .exit 0) (fun n y s=>y= .ret/\s.tm.get 4=some (.f (.b true))) ?_ ?_ _ ?_ ?_ ?_
  . rintro n s hn ⟨h0,h1,h5⟩;have hw:=zao n (by omega)
    by_cases he:l[n]=x
    . simp -implicitDefEqProofs [rR,h0,h1,h5,zbQ,zf4,hn,he]
    . simp -implicitDefEqProofs [rR,h0,h1,h5,zbQ,zf4,hn,he,hw]
  . rintro s ⟨h0,h1,h5⟩;simp -implicitDefEqProofs [rR,h0,h1,h5,zbQ]
  . simp -implicitDefEqProofs [rR,st0,zae]
  . rintro h x s rfl;rw[zfr h];simp -implicitDefEqProofs [rR,st0]
  . rintro n hn hp _ x s ⟨rfl,h4⟩;rw[zva hn hp];simp -implicitDefEqProofs [rR,h4]
def zAc(op a b:Int):Ans pr 134 [.i .i64 op,.ag (vF a),.ag (vF b)] (.b (ziZ op a b)):=by
 have q:=fun k=>zaj (k:=k) (zsv a b)
 refine zbd fn134 ?_;simp only[zyG,rU];unfold ziZ;simp only[vF]at q
 by_cases h1:op=1
 .subst h1;simp -implicitDefEqProofs [rR,st0,zae,vF,q,zfN]
 .by_cases h2:op=2
  .subst h2;simp -implicitDefEqProofs [rR,st0,zae,vF,q,zvK]
  .by_cases h3:op=3
   .subst h3;simp -implicitDefEqProofs [rR,st0,zae,vF,q,zgz]
   .by_cases h4:op=4
    .subst h4;simp -implicitDefEqProofs [rR,st0,zae,vF,q,zvJ]
    .simp -implicitDefEqProofs [rR,st0,zae,vF,q,h1,h2,h3,h4]
def zzz(k:Cm):Bool:=zgs k.l k.r&&(k.op==1||k.op==4)||decide (tv k.l=[])&&decide (tv k.r=[])&&ziZ k.op (tn k.l) (tn k.r)
def zC6{t:Trm}(ht:zau t)(h:tv t=[]):tk t=1:=by
 cases t with
 |var s=>exact absurd h ht
 |cst n=>rfl
def ans97(x:Cm)(hx:zbt x):Ans pr 97 [.ag (cmF x)] (.b (zzz x)):=by
 have q:=fun k=>zaj (k:=k) (zrR x.l x.r hx.1 hx.2)
 have r:=fun k=>zaj (k:=k) (zAc x.op (tn x.l) (tn x.r))
 refine zbd fn97 ?_;simp only[g97,rU];unfold zzz;simp only[tmE,vF]at q r;generalize zgs x.l x.r=b at q|-
 by_cases h4:tv x.l=[]
 .have h4':=zC6 hx.1 h4
  by_cases h5:tv x.r=[]
  .have h5':=zC6 hx.2 h5;simp only[h4,h5,h4',h5']at q;cases b with
   |true=>
    by_cases h2:x.op=1
    .simp -implicitDefEqProofs [rR,st0,zae,tmE,cmF,q,h2,h4,h5,h4',h5']
    .by_cases h3:x.op=4
     .simp -implicitDefEqProofs [rR,st0,zae,tmE,cmF,q,h3,h4,h5,h4',h5']
     .simp -implicitDefEqProofs [rR,st0,zae,tmE,cmF,q,h2,h3,h4,h5,h4',h5',r]
   |false=>simp -implicitDefEqProofs [rR,st0,zae,tmE,cmF,q,h4,h5,h4',h5',r]
  .simp only[h4,h4']at q;cases b with
   |true=>
    by_cases h2:x.op=1
    .simp -implicitDefEqProofs [rR,st0,zae,tmE,cmF,q,h2,h4,h5,h4']
    .by_cases h3:x.op=4
     .simp -implicitDefEqProofs [rR,st0,zae,tmE,cmF,q,h3,h4,h5,h4']
     .simp -implicitDefEqProofs [rR,st0,zae,tmE,cmF,q,h2,h3,h4,h5,h4']
   |false=>simp -implicitDefEqProofs [rR,st0,zae,tmE,cmF,q,h4,h5,h4']
 .cases b with
  |true=>
   by_cases h2:x.op=1
   .simp -implicitDefEqProofs [rR,st0,zae,tmE,cmF,q,h2,h4]
   .by_cases h3:x.op=4
    .simp -implicitDefEqProofs [rR,st0,zae,tmE,cmF,q,h3,h4]
    .simp -implicitDefEqProofs [rR,st0,zae,tmE,cmF,q,h2,h3,h4]
  |false=>simp -implicitDefEqProofs [rR,st0,zae,tmE,cmF,q,h4]
def zFZ(l:List Trm)(t:Trm):zbv (l++[t])=zbv l++[(tmF t).map D.f]:=by simp[zbv]
def zql{l:List Trm}(h:l≠[]):F.sl 4 (l.map tmF)=zaW l:=zbR (by simpa using h)
theorem zsj:∀(l:List Trm) (t:Trm),(∀a∈l,(!decide (zdp a t<0))=false)->zcn l t=l++[t]
 |[],_,_=>rfl
 |a::l,t,h=>by
  have h1:zdp a t<0:=by simpa using h a (by simp)
  simp only[zcn,h1,if_true,Z29];rw[zsj l t fun b hb=>h b (by simp[hb])]
theorem zsm:∀(l:List Trm) (t:Trm) (n:Nat) (h:n<l.length),(!decide (zdp l[n] t<0))=true->(∀m (h':m<n),(!decide (zdp (l[m]'(by omega)) t<0))=false)->zcn l t=if zgs l[n] t=true then l else l.take n++t::l.drop n
 |[],_,_,h,_,_=>by simp at h
 |a::l,t,0,_,h1,_=>by
  have h1:¬zdp a t<0:=by simpa using h1
  simp[zcn,h1]
 |a::l,t,n+1,h,h1,h2=>by
  have h0:zdp a t<0:=by simpa using h2 0 (by omega)
  simp only[zcn,h0,if_true];rw[zsm l t n (by simpa using h) (by simpa using h1) fun m hm=>by simpa using h2 (m+1) (by omega)];simp only[List.getElem_cons_succ];split
  .rfl
  .rfl
def zF3(l:List Trm)(n:Nat)(h:n<=l.length):∃x:F,x.d= .f x/\(∀h:Nat->Option Ob,sliceB 4 h (.f (zaW l)) none (some (.f (.i .i64 n))) none=some (.f x,[]))/\∀h:Nat->Option Ob,elemsOf 4 h (.f x)=some (zbv (l.take n),[]):=by
 obtain⟨x,h1,_,h3,_,h5⟩ :=zum (es:=4) (l.map tmF) 0 n (by omega) (by simpa using h);refine⟨x,h1,h3 rfl,fun h=> ?_⟩;rw[h5 h];simp[zbv,List.map_take]
def zF0(l:List Trm)(n:Nat)(h:n<=l.length):∃x:F,x.d= .f x/\(∀h:Nat->Option Ob,sliceB 4 h (.f (zaW l)) (some (.f (.i .i64 n))) none none=some (.f x,[]))/\∀h:Nat->Option Ob,elemsOf 4 h (.f x)=some (zbv (l.drop n),[]):=by
 obtain⟨x,h1,_,_,h4,h5⟩ :=zum (es:=4) (l.map tmF) n l.length h (by simp);refine⟨x,h1,h4 (by simp),fun h=> ?_⟩;rw[h5 h];have:((l.map tmF).drop n).take (l.length - n)=(l.drop n).map tmF:=by
  rw[<-List.map_drop,Z11 (by simp)]
 rw[this];rfl
def i75:C:=oZ [oR 40 (.bsl 4 [.s [],.i .i64 0,.i .i64 0,.s []] 0 []),oM 41 0,oM 42 5,oR 43 (.slc 4 (.t 41) none (some (.t 42)) none),oR 44 (.app 4 48 (.t 40) (.t 43)),oM 6 44]
 (.seq (.dreg [(oM 45 6,0),(oL 46 4 3,1),(oM 49 0,3),(oM 50 5,7),(oR 51 (.slc 4 (.t 49) (some (.t 50)) none none),3),(oR 47 (.bsf 4 [.s [],.i .i64 0,.i .i64 0,.s []] 1 [(0,(.t 46))]),29),(oR 48 (.app 4 48 (.t 45) (.t 47)),28),(oR 52 (.app 4 48 (.t 48) (.t 51)),0),(oM 4 52,0)])
 .ret)
def zuC{l:List Trm}(h:l≠[]):zbv l≠[]:=by
 intro e;have:=zer l;rw[e]at this;exact h (Z17.1 this.symm)
theorem zH1(l:List Trm)(t:Trm)(hn:l.length<1000000)(n:Nat)(hnl:n<=l.length)(S:St)(hS:S.tm.get 0=some (.f (zaW l))/\S.tm.get 3=some (.ptr 0 4 0 0)/\S.tm.get 5=some (.f (.i .i64 n))/\S.h.get 0=some (.arr 4 0 [F.dL (tmF t)])/\1<=S.c):
  wpC pr i75 S (zkL [.t 4] (zaW (l.take n++t::l.drop n))):=by
 obtain⟨h0,h3,h5,g0,hc⟩ :=hS;have c0:(0:Nat)≠S.c:=by omega
 obtain⟨x,hx1,hx2,hx3⟩ :=zF3 l n hnl;obtain⟨z,hz1,hz2,hz3⟩ :=zF0 l n hnl;have hP:(l.take n).length<=1000000:=by simp;omega
 have hQ:(l.drop n).length<=1000000:=by simp;omega
 generalize l.take n=P at hx3 hP|-;generalize l.drop n=Q at hz3 hQ|-;unfold i75;simp only[rU];have m1:(1<=zak)=True:=zaV (by omega);have m48:(48<=zak)=True:=zaV (by omega)
 by_cases hPe:P=[]
 .subst hPe;have hx3':∀h,elemsOf 4 h (.f x)=some ([],[]):=hx3
  by_cases hQe:Q=[]
  .subst hQe;have hz3':∀h,elemsOf 4 h (.f z)=some ([],[]):=hz3
   simp -implicitDefEqProofs [rR,h0,h3,h5,g0,hx1,hx2,hx3',hz1,hz2,hz3',m1,m48];refine zaL ?_;simp -implicitDefEqProofs [rR,h0,h3,h5,g0,hx1,hx2,hx3',hz1,hz2,hz3',m1,m48,tmE,c0];rw[<-tmE];rfl
  .have hne:=zuC hQe;have e:([D.f (.s (tv t)),D.f (.i .i64 (tk t)),D.f (.i .i64 (tn t)),D.f (.s [])]::zbv Q)=zbv (t::Q):=by simp[zbv,tmE]
   have hz:∀h,zaQ (frz h 11) (zbv (t::Q))=some ((t::Q).map tmF,[]):=fun h=>zjL h 10 _
   have hs:=zql (l:=t::Q) (by simp);have hl1:(zbv (t::Q)).length=1+Q.length:=by rw[zer,Z23];omega
   have htk:(zbv (t::Q)).take (1+Q.length)=zbv (t::Q):=by rw[<-hl1,Z7]
   generalize t::Q=M at e hz hs hl1 htk|-;simp -implicitDefEqProofs [rR,h0,h3,h5,g0,hx1,hx2,hx3',hz1,hz2,hz3,m1,m48,tmE,c0,hne,e,zer,hQe,hz,hs,(zaV (by omega):(1+Q.length<=zak)=True),(zaV (by omega):((1+Q.length)*48<=zak)=True)];refine zaL ?_;simp -implicitDefEqProofs [rR,h0,h3,h5,g0,hx1,hx2,hx3',hz1,hz2,hz3,m1,m48,tmE,c0,hne,e,zer,hQe,hz,hs,(zaV (by omega):(1+Q.length<=zak)=True),(zaV (by omega):((1+Q.length)*48<=zak)=True),hl1,htk,(leF (by have:=List.length_pos_iff.2 hQe;omega):(1+Q.length<=1)=False)]
 .have hne:=zuC hPe;have e1:zbv P++[[D.f (.s (tv t)),D.f (.i .i64 (tk t)),D.f (.i .i64 (tn t)),D.f (.s [])]]=zbv (P++[t]):=by rw[zFZ,tmE];rfl
  have hl1:(P++[t]).length=P.length+1:=by simp
  by_cases hQe:Q=[]
  .subst hQe;have hz3':∀h,elemsOf 4 h (.f z)=some ([],[]):=hz3
   have hs:=zql (l:=P++[t]) (by simp);generalize P++[t]=M at e1 hl1 hs|-;have hz:∀h,zaQ (frz h 11) (zbv M)=some (M.map tmF,[]):=fun h=>zjL h 10 _
   have htk:(zbv M).take (P.length+1)=zbv M:=by rw[<-hl1,<-zer M,Z7]
   simp -implicitDefEqProofs [rR,h0,h3,h5,g0,hx1,hx2,hx3,hz1,hz2,hz3',m1,m48,c0,hne,zer,hPe,(zaV (by omega):(P.length<=zak)=True),(zaV (by omega):(P.length*48<=zak)=True)];refine zaL ?_;simp -implicitDefEqProofs [rR,h0,h3,h5,g0,hx1,hx2,hx3,hz1,hz2,hz3',m1,m48,tmE,c0,hne,e1,zer,hPe,hz,hs,hl1,htk,(zaV (by omega):(P.length+1<=zak)=True),(zaV (by omega):((P.length+1)*48<=zak)=True),(leF (by omega):(P.length+1<=P.length)=False)]
  .have hneQ:=zuC hQe;have hq0:=List.length_pos_iff.2 hQe;have hR:P++t::Q=(P++[t])++Q:=by simp
   have hs:=zql (l:=P++t::Q) (by simp);have e2:zbv (P++[t])++zbv Q=zbv (P++t::Q):=by rw[zqe,hR]
   have hl2:(P++t::Q).length=P.length+1+Q.length:=by simp;omega
   generalize P++t::Q=R at e2 hl2 hs|-;generalize P++[t]=M at e1 e2 hl1;have hz:∀h,zaQ (frz h 11) (zbv R)=some (R.map tmF,[]):=fun h=>zjL h 10 _
   have htk:(zbv R).take (P.length+1+Q.length)=zbv R:=by rw[<-hl2,<-zer R,Z7]
   simp -implicitDefEqProofs [rR,h0,h3,h5,g0,hx1,hx2,hx3,hz1,hz2,hz3,m1,m48,c0,hne,zer,hPe,(zaV (by omega):(P.length<=zak)=True),(zaV (by omega):(P.length*48<=zak)=True)];refine zaL ?_;simp -implicitDefEqProofs [rR,h0,h3,h5,g0,hx1,hx2,hx3,hz1,hz2,hz3,m1,m48,tmE,c0,hne,hneQ,hQe,e1,e2,zer,hPe,hz,hs,hl1,hl2,htk,(zaV (by omega):(P.length+1<=zak)=True),(zaV (by omega):((P.length+1)*48<=zak)=True),(leF (by omega):(P.length+1<=P.length)=False),(leF (by omega):(P.length+1+Q.length<=P.length+1)=False),(zaV (by omega):(P.length+1+Q.length<=zak)=True),(zaV (by omega):((P.length+1+Q.length)*48<=zak)=True)]
def lo75:C:= .seq (.seq (.dreg [(oM 12 5,0),(oM 13 0,1),(oR 14 (.len (.t 13)),1),(oR 15 (.bin .lss (.t 12) (.t 14)),0),(oM 16 15,0),(oG 17 16 (.mv (.t 0)),0),(oG 18 16 (.mv (.t 5)),32),(oG 19 16 (.ia 4 (.t 17) (.t 18)),0),(oG 20 16 (.ld true 4 (.t 19)),0),(oG 21 16 (.ld true 4 (.t 3)),480),(oG 22 16 (.callp 84 [(.t 20),(.t 21)]),0),(oG 23 16 (.bin .lss (.t 22) (.k (.i .i64 0))),0),(oR 24 (.pick (.t 16) (.t 23) (.k (.b false))),0)])
 (.cond (.t 24) .skip (.exit 0)))
 (.blk 1 (.reg [oM 25 5,oR 26 (.bin .add (.t 25) (.k (.i .i64 1))),oM 5 26]))
def t75:C:= .seq (.seq (.dreg [(oM 27 5,0),(oM 28 0,1),(oR 29 (.len (.t 28)),1),(oR 30 (.bin .lss (.t 27) (.t 29)),0),(oM 31 30,0),(oG 32 31 (.mv (.t 0)),0),(oG 33 31 (.mv (.t 5)),32),(oG 34 31 (.ia 4 (.t 32) (.t 33)),0),(oG 35 31 (.ld true 4 (.t 34)),0),(oG 36 31 (.ld true 4 (.t 3)),480),(oG 37 31 (.callp 85 [(.t 35),(.t 36)]),0),(oR 38 (.pick (.t 31) (.t 37) (.k (.b false))),0)])
 (.cond (.t 38) (oZ [oM 39 0,oM 4 39]
 .ret) .skip))
 i75
theorem zQ3(l:List Trm)(t:Trm)(hl:∀a∈l,zau a)(ht:zau t)(hn:l.length<1000000)(n:Nat)(hnl:n<=l.length)(S:St)(hS:S.tm.get 0=some (.f (zaW l))/\S.tm.get 3=some (.ptr 0 4 0 0)/\S.tm.get 5=some (.f (.i .i64 n))/\S.h.get 0=some (.arr 4 0 [F.dL (tmF t)])/\1<=S.c):
    wpC pr t75 S (zkL [.t 4] (zaW (if(l[n]?.any (zgs · t))=true then l else l.take n++t::l.drop n))):=by
  obtain⟨h0,h3,h5,g0,hc⟩ :=hS;have c0:(0:Nat)≠S.c:=by omega
  unfold t75;simp only[rU]
  by_cases hlt:n<l.length
  . have q:=fun k=>zaj (k:=k) (zrR l[n] t (hl _ (Z1 hlt)) ht)
    simp only[tmE]at q;rw[Z0 hlt,Option.any_some];generalize zgs l[n] t=b at q|-;cases b with
    | true=>
      simp -implicitDefEqProofs [rR,h0,h3,h5,g0];refine zaL ?_;simp -implicitDefEqProofs [rR,h0,h3,h5,g0,zaO,zbk,hlt,tmE,q,zaR]
    | false=>
      simp -implicitDefEqProofs [rR,h0,h3,h5,g0];refine zaL ?_;simp -implicitDefEqProofs [rR,h0,h3,h5,g0,zaO,zbk,hlt,tmE,q,zaR];refine zH1 l t hn n hnl _ ?_;simp -implicitDefEqProofs [rR,h0,h3,h5,g0]
  . rw[List.getElem?_eq_none (by omega)];simp -implicitDefEqProofs [rR,h0,h3,h5,g0];refine zaL ?_;simp -implicitDefEqProofs [rR,h0,h3,h5,g0,zaO,zbk,hlt,tmE,zaR];refine zH1 l t hn n hnl _ ?_;simp -implicitDefEqProofs [rR,h0,h3,h5,g0]
def zrO(l:List Trm)(t:Trm)(hl:∀a∈l,zau a)(ht:zau t)(hn:l.length<1000000):Ans pr 48 [zaW l,.ag (tmF t)] (zaW (zcn l t)):=by
  refine zbd fn48 ?_;simp only[g48,rU];have fin:∀(n:Nat) (s:St),n<=l.length->zcn l t=(if(l[n]?.any (zgs · t))=true then l else l.take n++t::l.drop n)->(s.tm.get 0=some (.f (zaW l))/\s.tm.get 3=some (.ptr 0 4 0 0)/\s.tm.get 5=some (.f (.i .i64 n))/\s.h.get 0=some (.arr 4 0 [F.dL (tmF t)])/\1<=s.c)->wpC pr t75 s (zkL [.t 4] (zaW (zcn l t))):=by
    intro n s hnl he hS;rw[he];exact zQ3 l t hl ht hn n hnl s hS
  have lp:∀S:St,(S.tm.get 0=some (.f (zaW l))/\S.tm.get 3=some (.ptr 0 4 0 0)/\S.tm.get 5=some (.f (.i .i64 0))/\S.h.get 0=some (.arr 4 0 [F.dL (tmF t)])/\1<=S.c)->WL pr lo75 S (kb 0 (sq pr t75 (zkL [.t 4] (zaW (zcn l t))))):=by
    rintro S ⟨h0,h3,h5,g0,hc⟩;unfold lo75;simp only[rU];refine zcf l (fun a=>!decide (zdp a t<0)) (fun n s=>s.tm.get 0=some (.f (zaW l))/\s.tm.get 3=some (.ptr 0 4 0 0)/\s.tm.get 5=some (.f (.i .i64 n))/\s.h.get 0=some (.arr 4 0 [F.dL (tmF t)])/\1<=s.c) (fun x s=>x= .exit 0/\s.tm.get 0=some (.f (zaW l))/\s.tm.get 3=some (.ptr 0 4 0 0)/\s.tm.get 5=some (.f (.i .i64 l.length))/\s.h.get 0=some (.arr 4 0 [F.dL (tmF t)])/\1<=s.c) (fun n x s=>x= .exit 0/\s.tm.get 0=some (.f (zaW l))/\s.tm.get 3=some (.ptr 0 4 0 0)/\s.tm.get 5=some (.f (.i .i64 n))/\s.h.get 0=some (.arr 4 0 [F.dL (tmF t)])/\1<=s.c) ?_ ?_ _ ?_ ?_ ?_
    . rintro n s hlt ⟨h0,h3,h5,g0,hc⟩;have hw:=zao n (by omega);have q:=fun k=>zaj (k:=k) (zn1 l[n] t (hl _ (Z1 hlt)) ht)
      simp only[tmE]at q;generalize zdp l[n] t=o at q|-
      by_cases ho:o<0
      . simp -implicitDefEqProofs [rR,h0,h3,h5,g0];refine zaL ?_;simp -implicitDefEqProofs [rR,h0,h3,h5,g0,zaO,zbk,hlt,tmE,q,ho,hw,hc]
      . simp -implicitDefEqProofs [rR,h0,h3,h5,g0];refine zaL ?_;simp -implicitDefEqProofs [rR,h0,h3,h5,g0,zaO,zbk,hlt,tmE,q,ho,hw,hc];omega
    . rintro s ⟨h0,h3,h5,g0,hc⟩;simp -implicitDefEqProofs [rR,h0,h3,h5,g0];refine zaL ?_;simp -implicitDefEqProofs [rR,h0,h3,h5,g0,zaO,hc]
    . simp -implicitDefEqProofs [rR,h0,h3,h5,g0,hc]
    . rintro h x s ⟨rfl,hS⟩;rw[zmy,if_pos rfl,zpa];refine fin l.length s (Z2 _) ?_ hS;rw[zsj l t h];simp
    . rintro n hlt hp hm x s ⟨rfl,hS⟩;rw[zmy,if_pos rfl,zpa];refine fin n s (by omega) ?_ hS;rw[zsm l t n hlt hp hm,Z0 hlt,Option.any_some]
  cases t with
  | cst v=>
    simp -implicitDefEqProofs [rR,st0,zae,zaR,tmE,tv,tk,tn];refine lp _ ?_;simp -implicitDefEqProofs [rR,st0,zae,tmE,tv,tk,tn]
  | var v=>
    have hv:v≠[]:=ht;simp -implicitDefEqProofs [rR,st0,zae,zaR,tmE,tv,tk,tn,hv];refine lp _ ?_;simp -implicitDefEqProofs [rR,st0,zae,tmE,tv,tk,tn]
def zfX(l:List Trm)(ts:List Trm):List Trm:=ts.foldl zcn l
def zfC(c:CQ):List Trm:=c.cs.foldl (fun l k=>zcn (zcn l k.l) k.r) (c.as.foldl (fun l a=>zfX l a.ts) [])
def zeW.adds{ts:List Trm}:∀{n:Nat} {l:List Trm},zeW n l->(∀t∈ts,zau t)->zeW (n+ts.length) (zfX l ts):=by
 unfold zfX
 induction ts with
 |nil=>intro n l h _;exact h
 |cons t ts ih=>
  intro n l h ht;have:=ih (h.add (ht t (by simp))) fun u hu=>ht u (by simp[hu])
  simpa [Nat.add_assoc,Nat.add_comm 1]using this
def zpC{l:List Atm}(hl:∀a∈l,zbX a/\a.ts.length<=12):∀{n:Nat} {x:List Trm},zeW n x->zeW (n+12*l.length) (l.foldl (fun l a=>zfX l a.ts) x):=by
 induction l with
 |nil=>intro n x h;exact h
 |cons a l ih=>
  intro n x h;have h1:=h.adds (hl a (by simp)).1.1;have h2:zeW (n+12) (zfX x a.ts):=⟨h1.1,Z3 h1.2 (by have:=(hl a (by simp)).2;omega)⟩
  have:=ih (fun b hb=>hl b (by simp[hb])) h2;exact⟨this.1,Z3 this.2 (by simp;omega)⟩
def zvW{l:List Cm}(hl:∀k∈l,zbt k):∀{n:Nat} {x:List Trm},zeW n x->zeW (n+2*l.length) (l.foldl (fun l k=>zcn (zcn l k.l) k.r) x):=by
 induction l with
 |nil=>intro n x h;exact h
 |cons a l ih=>
  intro n x h;have h1:=(h.add (hl a (by simp)).1).add (hl a (by simp)).2;have:=ih (fun b hb=>hl b (by simp[hb])) h1;exact⟨this.1,Z3 this.2 (by simp;omega)⟩
def ans47(c:CQ)(hc:CqSm c):Ans pr 47 [.ag (cqF c)] (zaW (zfC c)):=by
 refine zbd fn47 ?_;simp only[g47,rU];simp -implicitDefEqProofs [rR,st0,zae,cqE,zaF,zaH];refine zgo c.as (fun l a=>zfX l a.ts) [] (fun n a s=>s.tm.get 1=some (.ptr 0 2 0 0)/\s.tm.get 3=some (.f (zaW a))/\s.tm.get 4=some (.f (.i .i64 n))/\s.h.get 0=some (.arr 2 0 [[.f (zaB c),.f (zaC c)]])) (fun x s=>x= .exit 0/\s.tm.get 1=some (.ptr 0 2 0 0)/\s.tm.get 3=some (.f (zaW (c.as.foldl (fun l a=>zfX l a.ts) [])))/\s.h.get 0=some (.arr 2 0 [[.f (zaB c),.f (zaC c)]])) ?_ ?_ _ ?_ ?_
 .rintro n a s hn ha ⟨h1,h3,h4,g0⟩;have hw:=zao n (by have:=hc.sa;omega);have hok:=zpC (l:=c.as.take n) (n:=0) (x:=[]) (fun b hb=>⟨hc.as b (Z13 hb),hc.st b (Z13 hb)⟩) ⟨by simp,by simp⟩;rw[<-ha]at hok;have hok2:zeW 144 a:=⟨hok.1,Z3 hok.2 (by have:=hc.sa;simp;omega)⟩
  have hat:=hc.as _ (Z1 hn);have hst:=hc.st _ (Z1 hn);generalize hA:c.as[n]=A at hat hst|-;simp -implicitDefEqProofs [rR,h1,h3,h4,g0,za1,hn];refine zgo A.ts zcn a (fun m b s=>s.tm.get 1=some (.ptr 0 2 0 0)/\s.tm.get 3=some (.f (zaW b))/\s.tm.get 4=some (.f (.i .i64 n))/\s.tm.get 5=some (.f (.i .i64 m))/\s.h.get 0=some (.arr 2 0 [[.f (zaB c),.f (zaC c)]])) (fun x s=>x= .exit 2/\s.tm.get 1=some (.ptr 0 2 0 0)/\s.tm.get 3=some (.f (zaW (zfX a A.ts)))/\s.tm.get 4=some (.f (.i .i64 n))/\s.h.get 0=some (.arr 2 0 [[.f (zaB c),.f (zaC c)]])) ?_ ?_ _ ?_ ?_
  .rintro m b s hm hb ⟨h1,h3,h4,h5,g0⟩;have hwm:=zao m (by omega);have hb2:=hok2.adds (ts:=A.ts.take m) (fun t ht=>hat.1 t (Z13 ht));rw[show zfX a (A.ts.take m)=b from hb.symm]at hb2;have q:=fun k=>zaj (k:=k) (zrO b A.ts[m] hb2.1 (hat.1 _ (Z1 hm)) (by have:=hb2.2;simp at this;omega))
   simp only[tmE]at q;simp -implicitDefEqProofs [rR,h1,h3,h4,h5,g0,za1,zbh,zaO,zbk,hn,hA,atE,hm,tmE,zaR,q,hwm]
  .rintro s ⟨h1,h3,h4,h5,g0⟩;simp -implicitDefEqProofs [rR,h1,h3,h4,h5,g0,zbh,zaO,hn,hA,atE];rfl
  .simp -implicitDefEqProofs [rR,h1,h3,h4,g0]
  .rintro x s ⟨rfl,h1,h3,h4,g0⟩;simp -implicitDefEqProofs [rR,h1,h3,h4,g0,hw]
 .rintro s ⟨h1,h3,h4,g0⟩;simp -implicitDefEqProofs [rR,h1,h3,h4,g0,za1]
 .simp -implicitDefEqProofs [rR,st0,zae,cqE,zaF,zaH,(show zaW []= .nils from rfl)]
 .rintro x s ⟨rfl,h1,h3,g0⟩;have h0:=zpC (l:=c.as) (n:=0) (x:=[]) (fun b hb=>⟨hc.as b hb,hc.st b hb⟩) ⟨by simp,by simp⟩;have hok:zeW 144 (c.as.foldl (fun l a=>zfX l a.ts) []):=⟨h0.1,Z3 h0.2 (by have:=hc.sa;omega)⟩
  have ht:zfC c=c.cs.foldl (fun l k=>zcn (zcn l k.l) k.r) (c.as.foldl (fun l a=>zfX l a.ts) []):=rfl;rw[ht];clear h0 ht;generalize c.as.foldl (fun l a=>zfX l a.ts) []=x0 at hok h3|-;generalize hres:c.cs.foldl (fun l k=>zcn (zcn l k.l) k.r) x0=res;simp -implicitDefEqProofs [rR,h1,h3,g0];refine zgo c.cs (fun l k=>zcn (zcn l k.l) k.r) x0 (fun n a s=>s.tm.get 1=some (.ptr 0 2 0 0)/\s.tm.get 3=some (.f (zaW a))/\s.tm.get 6=some (.f (.i .i64 n))/\s.h.get 0=some (.arr 2 0 [[.f (zaB c),.f (zaC c)]])) (fun x s=>x= .exit 4/\s.tm.get 3=some (.f (zaW res))) ?_ ?_ _ ?_ ?_
  .rintro n a s hn ha ⟨h1,h3,h6,g0⟩;have hw:=zao n (by have:=hc.sc;omega);have hok2:=zvW (l:=c.cs.take n) (fun b hb=>hc.cs b (Z13 hb)) hok;rw[<-ha]at hok2;have hk:=hc.cs _ (Z1 hn);have hl2:a.length<=544:=Z3 hok2.2 (by have:=hc.sc;simp;omega);generalize hK:c.cs[n]=K at hk|-;have q1:=fun k=>zaj (k:=k) (zrO a K.l hok2.1 hk.1 (by omega))
   have q2:=fun k=>zaj (k:=k) (zrO (zcn a K.l) K.r (zpx hok2.1 hk.1) hk.2 (by have:=zsl a K.l;omega))
   simp only[tmE]at q1 q2;simp -implicitDefEqProofs [rR,h1,h3,h6,g0,zbf,hn];refine zaL ?_;simp -implicitDefEqProofs [rR,h1,h3,h6,g0,zbf,zcZ,hn,hK,cmF,tmE,zaR,q1,q2,hw]
  .rintro s ⟨h1,h3,h6,g0⟩;rw[hres]at h3;simp -implicitDefEqProofs [rR,h1,h3,h6,g0,zbf]
  .simp -implicitDefEqProofs [rR,h1,h3,g0]
  .rintro x s ⟨rfl,h3⟩;simp -implicitDefEqProofs [rR,h3,zaR]
theorem zsJ(l:List Str)(x:Str)(hl:l.length<100000){h:T Ob}{lo c:Nat}{d:D}(hg:Gro h lo c 1 d (zaT l))(hlo:lo<=c):
  Eff pr 111 [d,.f (.s x)] h c fun d' h' c'=>Gro h' lo c' 1 d' (zaT (zcW l x))/\∀id,id<c->d.oid≠some id->h'.get id=h.get id:=by
 refine zci zbi fn111 ?_;simp only[zyo,rU];have q:=fun k=>zaj (k:=k) (zOr l x (by omega))
 have m1:(1<=zak)=True:=zaV (by omega);have m2:(16<=zak)=True:=zaV (by omega);unfold zcW;rcases hg with⟨rfl,hn⟩ |⟨id,ro,rfl,hne,hid,hro,hlid,hidc⟩
 .have:=zk3 hn;subst this;rw[(show zaq []= .nils from rfl)]at q
  by_cases hx:x=[]
  .simp[rW,st0,zae,hx,zbl];exact .inl ⟨rfl,rfl⟩
  .simp[rW,st0,zae,hx,zbl,q,m1,m2];exact⟨.inr ⟨c,0,rfl,by simp[zaT],by simp[T.zad,zaT],Nat.zero_le _,hlo,by omega⟩,fun id h1 h2=>by omega⟩
 .rw[zbO]at*;have hl0:l≠[]:=fun e=>hne (by rw[e];rfl)
  have hz:=znP hl0;have ht:(zaT l).take l.length=zaT l:=by rw[<-zbO l,Z7]
  by_cases hx:x=[]
  .simp[rW,st0,zae,hx,zbl];exact .inr ⟨id,ro,by rw[zbO],hne,hid,by rw[zbO];exact hro,hlid,hidc⟩
  .have m3:(l.length+1<=zak)=True:=zaV (by omega);have m4:((l.length+1)*16<=zak)=True:=zaV (by omega);have hlt:(l.length+1<=l.length)=False:=leF (by omega)
   by_cases hr:l.length<=ro
   .by_cases hm:x∈l
    .simp[rW,st0,zae,hx,zbl,q,m1,m2,hid,zbO,zhr,hz,ht,hr,hm,hidc];exact .inr ⟨id,ro,by rw[zbO],hne,hid,by rw[zbO];exact hro,hlid,hidc⟩
    .simp[rW,st0,zae,hx,zbl,q,m1,m2,m3,m4,hid,zbO,zhr,hz,ht,hr,hm,hidc,hro,hlt];refine⟨by omega,.inr ⟨c,ro,by simp[zaT],by simp[zaT],by simp[T.zad,zaT],(by rw[zbO,Z16];omega),hlo,by omega⟩,fun i h1 h2=>by simp[show i≠c by omega,show i≠id from fun e=>h2 e.symm]⟩
   .by_cases hm:x∈l
    .simp[rW,st0,zae,hx,zbl,q,m1,m2,hid,zbO,zhr,hz,ht,hr,hm,hidc];exact⟨.inr ⟨id,l.length,by rw[zbO],hne,by simp[T.zad],by simp[zaT],hlid,hidc⟩,fun i h1 h2 h3=>absurd h3.symm h2⟩
    .simp[rW,st0,zae,hx,zbl,q,m1,m2,m3,m4,hid,zbO,zhr,hz,ht,hr,hm,hidc,hro,hlt];refine⟨by omega,.inr ⟨c,l.length,by simp[zaT],by simp[zaT],by simp[T.zad,zaT],(by rw[zbO,Z16];omega),hlo,by omega⟩,fun i h1 h2=>by simp[show i≠c by omega,show i≠id from fun e=>h2 e.symm]⟩
def V1(h:T Ob)(Z:Nat)(c:CQ)(l:List Str)(n:Nat)(s:St):Prop:=∃d,s.tm.get 1=some (.ptr Z 2 0 0)/\s.tm.get 4=some (.f (.i .i64 n))/\s.tm.get 3=some (d)/\s.h.get Z=some (.arr 2 0 [[.f (zaB c),.f (zaC c)]])/\Gro s.h (Z+1) s.c 1 d (zaT l)/\Z+1<=s.c/\∀j,j<Z->s.h.get j=h.get j
def V2(h:T Ob)(Z:Nat)(c:CQ)(n:Nat)(l:List Str)(m:Nat)(s:St):Prop:=∃d,s.tm.get 1=some (.ptr Z 2 0 0)/\s.tm.get 4=some (.f (.i .i64 n))/\s.tm.get 5=some (.f (.i .i64 m))/\s.tm.get 3=some (d)/\s.h.get Z=some (.arr 2 0 [[.f (zaB c),.f (zaC c)]])/\Gro s.h (Z+1) s.c 1 d (zaT l)/\Z+1<=s.c/\∀j,j<Z->s.h.get j=h.get j
def V3(h:T Ob)(Z:Nat)(c:CQ)(l:List Str)(n:Nat)(s:St):Prop:=∃d,s.tm.get 1=some (.ptr Z 2 0 0)/\s.tm.get 6=some (.f (.i .i64 n))/\s.tm.get 3=some (d)/\s.h.get Z=some (.arr 2 0 [[.f (zaB c),.f (zaC c)]])/\Gro s.h (Z+1) s.c 1 d (zaT l)/\Z+1<=s.c/\∀j,j<Z->s.h.get j=h.get j
def zHO(c:CQ)(hc:CqSm c){h:T Ob}{Z:Nat}:Eff pr 68 [.ag [.f (zaB c),.f (zaC c)]] h Z fun d h' k'=>Gro h' (Z+1) k' 1 d (zaT (vrs c))/\∀j,j<Z->h'.get j=h.get j:=by
 refine zci zbi fn68 ?_;simp only[g68,rU];simp[rW,st0,zae];refine zgo c.as (fun l a=>zcQ l a.ts) [] (fun n a s=>V1 h Z c a n s) (fun x s=>x= .exit 0/\∃n,V1 h Z c (c.as.foldl (fun l a=>zcQ l a.ts) []) n s) ?_ ?_ _ ?_ ?_
 .rintro n a s hn ha ⟨d,h1,h4,h3,gZ,hg,hc1,hfr⟩;have hw:=zao n (by have:=hc.sa;omega);have hal:a.length<=144:=by
   have:=zpB (l:=c.as.take n) (fun b hb=>hc.st b (Z13 hb)) [];rw[<-ha]at this;have:=hc.sa;simp at*;omega
  have hat:=hc.as _ (Z1 hn);have hst:=hc.st _ (Z1 hn);generalize hA:c.as[n]=A at hat hst|-;simp[rW,h1,h4,h3,gZ,za1,hn];refine zgo A.ts (fun l t=>zcW l (tv t)) a (fun m b s=>V2 h Z c n b m s) (fun x s=>x= .exit 2/\∃m,V2 h Z c n (zcQ a A.ts) m s) ?_ ?_ _ ?_ ?_
  .rintro m b s hm hb ⟨d,h1,h4,h5,h3,gZ,hg,hc1,hfr⟩;have hwm:=zao m (by omega);have hbl:b.length<=200:=by
    have:=zlg (A.ts.take m) a;rw[show zcQ a (A.ts.take m)=b from hb.symm]at this;simp at this;omega
   simp[rW,h1,h4,h5,h3,gZ,za1,zbh,zaO,zbk,hn,hA,atE,hm,tmE,zaR];refine zcz ?_ ?_ (zsJ b (tv A.ts[m]) (by omega) hg hc1) ?_
   .simp only[rG]
   .simp only[rG]
   rintro d' h' c' lw' mx' ⟨hg',hf⟩ hcc;have e0:=hf Z (by omega) (za5 hg (by omega));have hfr2:∀j,j<Z->h'.get j=h.get j:=fun j hj=>(hf j (by omega) (za5 hg (by omega))).trans (hfr j hj)
   simp[rW,h1,h4,h5,h3,gZ,e0,hwm,V2,hg'];exact⟨Z3 hc1 hcc,hfr2⟩
  .rintro s ⟨d,h1,h4,h5,h3,gZ,hg,hc1,hfr⟩;simp[rW,h1,h4,h5,h3,gZ,za1,zbh,zaO,zbk,hn,hA,atE,zaR,V2,hc1];exact⟨⟨_,rfl⟩,hg,hfr⟩
  .simp[rW,h1,h4,h3,gZ,V2,hc1,hg];exact hfr
  .rintro x s ⟨rfl,m,d,h1,h4,h5,h3,gZ,hg,hc1,hfr⟩;simp[rW,h1,h4,h5,h3,gZ,V1,hg,hc1,hw];exact hfr
 .rintro s ⟨d,h1,h4,h3,gZ,hg,hc1,hfr⟩;simp[rW,h1,h4,h3,gZ,za1,V1,hg,hc1];exact⟨⟨_,rfl⟩,hfr⟩
 .simp[rW,V1,Gro.nil];exact⟨.inl ⟨rfl,rfl⟩,fun j hj e=>absurd e (by omega)⟩
 .rintro x s ⟨rfl,n,d,h1,h4,h3,gZ,hg,hc1,hfr⟩;have h0:=zpB (l:=c.as) hc.st [];have hv:vrs c=c.cs.foldl (fun l k=>zcW (zcW l (tv k.l)) (tv k.r)) (c.as.foldl (fun l a=>zcQ l a.ts) []):=rfl;rw[hv];clear hv;generalize c.as.foldl (fun l a=>zcQ l a.ts) []=x0 at h0 hg|-;have hx0:x0.length<=144:=by have:=hc.sa;simp at h0;omega
  generalize hres:c.cs.foldl (fun l k=>zcW (zcW l (tv k.l)) (tv k.r)) x0=res;simp[rW,h1,h3,gZ];refine zgo c.cs (fun l k=>zcW (zcW l (tv k.l)) (tv k.r)) x0 (fun n a s=>V3 h Z c a n s) (fun x s=>x= .exit 4/\∃n,V3 h Z c res n s) ?_ ?_ _ ?_ ?_
  .rintro n a s hn ha ⟨d,h1,h6,h3,gZ,hg,hc1,hfr⟩;have hw:=zao n (by have:=hc.sc;omega);have hal:a.length<=600:=by
    have:=zvS (c.cs.take n) x0;rw[<-ha]at this;have:=hc.sc;simp at*;omega
   generalize hK:c.cs[n]=K;simp[rW,h1,h6,h3,gZ,zbf,hn];refine zgT ?_;simp[rW,h1,h6,h3,gZ,zbf,zcZ,hn,hK,cmF,tmE];refine zuK (c:=s.c+8) ?_ ?_ (zsJ a (tv K.l) (by omega) (zaS hg (Nat.le_add_right _ _) fun _ _ _=>rfl) (by omega)) ?_
   .simp only[rG]
   .simp only[rG]
   rintro d1 h1' c1 lw1 mx1 ⟨hg1,hf1⟩ hcc1 hm1;have e0:=hf1 Z (by omega) (za5 hg (by omega));simp[rW,h1,h6,h3,gZ,e0,zcZ,hn,hK,cmF,tmE];have hal2:=zjP a (tv K.l);refine zuK (h:=h1') (c:=mx1+7) ?_ ?_ (zsJ (zcW a (tv K.l)) (tv K.r) (by omega) (zaS hg1 (by omega) fun _ _ _=>rfl) (by omega)) ?_
   .simp only[rG]
   .simp only[rG]
   rintro d2 h2' c2 lw2 mx2 ⟨hg2,hf2⟩ hcc2 hm2;have e2:=hf2 Z (by omega) (za5 hg1 (by omega));have hfr2:∀j,j<Z->h2'.get j=h.get j:=fun j hj=>((hf2 j (by omega) (za5 hg1 (by omega))).trans (hf1 j (by omega) (za5 hg (by omega)))).trans (hfr j hj)
   simp[rW,h1,h6,h3,gZ,e0,e2,V3,hw];exact⟨zaS hg2 (by omega) fun _ _ _=>rfl,by omega,hfr2⟩
  .rintro s ⟨d,h1,h6,h3,gZ,hg,hc1,hfr⟩;rw[hres]at hg;simp[rW,h1,h6,h3,gZ,zbf,V3,hg,hc1];exact⟨⟨_,rfl⟩,hfr⟩
  .simp[rW,h1,h3,gZ,V3,hg,hc1];exact hfr
  .rintro x s ⟨rfl,n,d,h1,h6,h3,gZ,hg,hc1,hfr⟩;simp[rW,h1,h6,h3,gZ,zbl];refine⟨⟨hg,hfr⟩,fun e hF=> ?_⟩;rcases hg with⟨rfl,hn⟩ |⟨id,ro,rfl,_⟩
   .exact .inl ⟨rfl,hn⟩
   .simp[D.isF]at hF
def fn28:pr.fn 28=some g28:=by kernel_rfl
def wth(q:CQ)(k:Cm):CQ:=⟨q.as,q.cs++[k],q.ne,false⟩
theorem zPq{h:T Ob}{lo c:Nat}{d:D}{q:CQ}{k:Cm}{new:List (List D)}{rd:List Nat}{K:Rs->Prop}(hn:new=[cmD k])(hC:CsE h lo c d q)(hl:q.cs.length<=1000)(hlo:lo<=c)
  (hK:∀r:Rs,zay r.c r.wr=true->c<=r.c->(∃Y,r.d= .sl Y 0 (q.cs.length+1) 9 (q.cs.length+1) false/\(wrT h r.wr).get Y=some (.arr 9 0 ((q.cs++[k]).map cmD))/\lo<=Y/\Y<r.c)->(∀id,id<c->d.oid≠some id->(wrT h r.wr).get id=h.get id)->K r):oB (zb6 9 104 h.get c d new rd) K:=by
 subst hn;have m1:(q.cs.length+1<=zak)=True:=zaV (by omega);have m2:((q.cs.length+1)*104<=zak)=True:=zaV (by omega);have m3:(1<=zak)=True:=zaV (by omega);have m4:(104<=zak)=True:=zaV (by omega);rcases hC with⟨rfl,e,-⟩ |⟨Y,ex,rfl,hY,h3,h4,h5,h6,h7⟩
 .rw[zid];have m5:(([cmD k]:List (List D)).length<=zak/\([cmD k]:List (List D)).length*104<=zak):=⟨by simp[m3],by simp[m4]⟩
  rw[if_neg (by simp),if_pos m5,zgK];refine hK _ (by simp[zay,Nat.blt_eq]) (Nat.le_succ _) ⟨c,by rw[e];rfl,by simp[wrT,Vse.T.zad,e],hlo,Nat.lt_succ_self c⟩ fun id h1 _=> ?_
  have:¬id=c:=by omega
  simp[wrT,Vse.T.zad,this]
 .have hn:¬(q.cs.length+1<=q.cs.length):=by omega
  rw[zl2];cases ex with
  |false=>
   simp[om,hY,apO,hn,m1,m2,zgK];refine hK _ (by simp[zay,Nat.blt_eq];omega) (Nat.le_succ _) ⟨c,rfl,by simp[wrT,Vse.T.zad],hlo,Nat.lt_succ_self _⟩ fun id h1 h2=> ?_
   have a1:¬id=c:=by omega
   have a2:¬id=Y:=fun e=>h2 (by rw[e];rfl)
   simp[wrT,Vse.T.zad,Vse.T.zgC,a1,a2]
  |true=>
   have e:q.cs=[]:=Classical.byContradiction fun h=>by have:=h4 h;cases this
   simp[om,hY,apO,hn,m1,m2,m3,m4,e,zgK];refine hK _ (by simp[zay,Nat.blt_eq]) (Nat.le_succ _) ⟨c,by rw[e];rfl,by simp[wrT,Vse.T.zad,e],hlo,Nat.lt_succ_self c⟩ fun id h1 _=> ?_
   have:¬id=c:=by omega
   simp[wrT,Vse.T.zad,this]
def zKu{h h':T Ob}{lo c c':Nat}{d:D}{l:List Atm}{xs:List Nat}(H:AsD h lo c d l xs)(hh:∀x,lo<=x->x<c->(x∈xs\/d.oid=some x)->h'.get x=h.get x)(hc:c<=c'):AsD h' lo c' d l xs:=by
 refine⟨H.ln,H.nd,fun x hx=>by have:=H.rg x hx;omega,fun k hk hx=> ?_,?_,H.oi⟩
 .have:=H.rg _ (Z1 hx);rw[hh _ this.1 this.2 (.inl (Z1 hx))];exact H.rw k hk hx
 .rcases H.gr with h1|⟨id,ro,h1,h2,h3,h4,h5,h6⟩
  .exact .inl h1
  .exact .inr ⟨id,ro,h1,h2,by rw[hh id h5 h6 (.inr (by rw[h1];rfl))];exact h3,h4,by omega,by omega⟩
def zrJ(q:CQ)(op:Int)(l r:Trm)(hq:CqG q):Ans pr 28 [.ag (cqF q),.i .i64 op,.ag (tmF l),.ag (tmF r)] (.ag (cqF (wth q ⟨op,l,r⟩))):=by
 refine zbd fn28 ?_;simp only[g28,rU];simp[rW,st0,zae,cqE,zaF,zaH];refine zcz rfl rfl (zAF q hq) ?_;rintro d h' c' lw mx ⟨hf,dA,dC,rfl,hM,hE⟩ hcc;simp only[rG]at hf hM hE hcc;have e0:=hf 0 (by omega);have e1:=hf 1 (by omega);have e2:=hf 2 (by omega);have e3:=hf 3 (by omega);simp[Vse.T.zad]at e0 e1 e2 e3;have hcA:=hM.cA;have n0:¬(0=c'):=by omega
 have n1:¬(1=c'):=by omega
 have n2:¬(2=c'):=by omega
 have n3:¬(3=c'):=by omega
 have hl:((cop q).cs.length<=1000):=by have:=hq.sc;show q.cs.length<=1000;omega
 have hM2:=hM;obtain⟨xs,hA,hC,hD⟩ :=hM;obtain⟨k,hk⟩ :∃k,k=(⟨op,l,r⟩ :Cm):=⟨_,rfl⟩
 rw[<-hk];cases l<;>cases r<;>simp[rW,e0,e1,e2,e3,hcA.1,hcA.2,tmF]
 all_goals
  refine⟨by omega,zPq (lo:=4) (q:=cop q) (k:=k) (by rw[hk];rfl) (zlo hE (fun x h1 h2=> ?_) (Z2 _) (Z2 _)) hl hcc ?_⟩
  .have a1:¬x=0:=by omega
   simp[Vse.T.zad,a1]
  .intro r hr1 hr2 hr3 hr4;obtain⟨Y,hY,gY,hY1,hY2⟩ :=hr3;have z0:=hr4 0 (by omega) (fun e=>by have:=zpP (zhz hE) e;omega);have z3:=hr4 3 (by omega) (fun e=>by have:=zpP (zhz hE) e;omega);simp[Vse.T.zad,e3]at z0 z3;have hl1:0<r.c:=by omega
   have hl3:3<r.c:=by omega
   have hcd:r.d.cells=some [r.d]:=by rw[hY];rfl
   simp[rW,hr1,z0,z3,hl1,hl3,hcA.1,hcd];generalize hHf:((wrT (h'.set 0 (.arr 2 0 [[dA,dC]])) r.wr).set 0 (.arr 2 0 [[dA,r.d]])).set 3 (.arr 2 0 [[dA,r.d]])=Hf;have hup:∀x,4<=x->Hf.get x=(wrT (h'.set 0 (.arr 2 0 [[dA,dC]])) r.wr).get x:=fun x hx=>by
    rw[<-hHf];have a0:¬x=0:=by omega
    have a3:¬x=3:=by omega
    simp[Vse.T.zad,a0,a3]
   obtain⟨r1,f1,-⟩ :=zvb (k:=8) (h:=Hf) (zKu hA (fun x h1 h2 h3=>by
    have a0:¬x=0:=by omega
    rw[hup x h1,hr4 x h2 (fun e=>h3.elim (hD x e).1 (hD x e).2)];simp[Vse.T.zad,a0]) (Z2 _)) hq.tn
   obtain⟨r2,f2,-⟩ :=zvO (k:=9) (h:=Hf) (lo:=4) (c:=r.c) (d:=r.d) (q:=wth q k) (.inr ⟨Y,[],false,by rw[hY];simp[wth,cop],by rw[hup Y hY1,gY];simp[wth,cop],by simp[wth],by simp,hY1,hY2,by simp,by simp[wth];exact Nat.le_succ_of_le (Z3 hl (by decide))⟩);have f2':frz Hf.get 11 r.d=some (zaC (wth q k),r2):=f2;rw[f1,f2'];simp[rW,];unfold zaB Sm.asF;rw[if_neg (by simp[wth])];rfl
end Go.Proofs.YtmnkdfjljkhneaaGreat
end
