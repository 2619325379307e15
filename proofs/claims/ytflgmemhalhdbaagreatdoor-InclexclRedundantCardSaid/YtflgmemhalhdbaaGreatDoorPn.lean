/- Conjoin. -/
import Derived.Test.YtflgmemhalhdbaaGreatDoorPm
import Derived.KernelRfl
import Derived.IntWalk
set_option linter.all false
set_option maxRecDepth 100000
set_option maxHeartbeats 4000000
noncomputable section
section
namespace Go.Proofs.YtflgmemhalhdbaaGreatDoor
open Go Go.Vse Go.Vse.Sm
def fn27:pr.fn 27=some g27:=by kernel_rfl
def RQx(h:T Ob)(lo c:Nat)(dA dC:D)(q:CQ):Prop:=∃xs,AsD h lo c dA q.as xs/\Gro h lo c 9 dC (q.cs.map cmD)/\∀Y,dC.oid=some Y->Y∉xs/\dA.oid≠some Y
def zC6{h:T Ob}{lo c:Nat}{dA dC:D}{q:CQ}(H:RQx h lo c dA dC q):RdQ h c dA dC q:=by
 obtain⟨xs,hA,hC,hY⟩ :=H;have hz:(List.zipWith atR q.as xs).length=q.as.length:=by rw[Z85,hA.ln,Z122]
 refine⟨zbj hA.gr,zbj hC,by rw[Go.Vse.zdv hA.gr,hz],by rw[Go.Vse.zdv hC,Z19],fun n hn=> ?_,fun n hn=> ?_⟩
 .have hx:n<xs.length:=by rw[hA.ln];exact hn
  obtain⟨X,r0,hi,gX,hX1,hX2⟩ :=zhm hA.gr (n:=n) (by rw[hz];exact hn);have hr:=hA.rw n hn hx;have hg:=hA.rg _ (Z2 hx);refine⟨_,.sl xs[n] 0 q.as[n].ts.length 4 q.as[n].ts.length false,[X],[xs[n]],hi,rfl,fun h' hf=>⟨?_,?_⟩⟩
  .have e:(List.zipWith atR q.as xs)[n]? =some (atR q.as[n] xs[n]):=by
    rw[Z123,Z0 hn,Z0 hx]
   simp[zbq,hf X hX2,gX,e,zcn,atR]
  .have e:=hf xs[n] hg.2;rw[hr]at e;have hl:=zbD q.as[n].ts;have ht:=zlF q.as[n].ts;rw[znw,e,zc0,ziQ,Z52 ⟨rfl,rfl,by omega⟩,Z35,ht]
 .obtain⟨Y,r0,hi,gY,hY1,hY2⟩ :=zhm hC (n:=n) (by rw[Z19];exact hn);refine⟨_,[Y],hi,fun h' hf=> ?_⟩;simp[zbq,hf Y hY2,gY,zcn,hn,cmD,tmD]
def RQx.up{h h':T Ob}{lo c c':Nat}{dA dC:D}{q:CQ}(H:RQx h lo c dA dC q)(hf:∀x,lo<=x->x<c->h'.get x=h.get x)(hc:c<=c'):RQx h' lo c' dA dC q:=by
 obtain⟨xs,hA,hC,hY⟩ :=H;exact⟨xs,hA.up hf (Z3 _) hc,zbh hC hc hf,hY⟩
def zGl{l m:List Atm}{xs ys:List Nat}(h:xs.length=l.length):List.zipWith atR (l++m) (xs++ys)=List.zipWith atR l xs++List.zipWith atR m ys:=List.zipWith_append h.symm
def zRH{h:T Ob}{lo c es:Nat}{d:D}{els:List (List D)}(hg:Gro h lo c es d els):∃rd,elemsOf es h.get d=some (els,rd):=by
 rcases hg with⟨rfl,rfl⟩ |⟨id,ro,rfl,h2,h3,h4,h5,h6⟩
 .exact⟨[],rfl⟩
 .exact⟨[id],by rw[znw,h3,zc0,ziQ,Z52 ⟨rfl,rfl,by omega⟩,Z35,Z8]⟩
def zQJ{h:T Ob}{lo c:Nat}{d:D}{q:CQ}(H:CsE h lo c d q):∃rd,elemsOf 9 h.get d=some (q.cs.map cmD,rd):=by
 rcases H with⟨rfl,e,-⟩ |⟨Y,ex,rfl,hY,-,-,h1,h2,-⟩
 .exact⟨[],by rw[e];rfl⟩
 .refine⟨[Y],?_⟩;have hl:(q.cs.map cmD).length=q.cs.length:=Z19 _;rw[znw,hY,zc0,ziQ,Z52 ⟨rfl,rfl,by omega⟩,Z35,<-hl,Z8]
def zoz{h h':T Ob}{lo c c' es:Nat}{d:D}{els:List (List D)}(hg:Gro h lo c es d els)(hh:∀Y,d.oid=some Y->h'.get Y=h.get Y)(hc:c<=c'):Gro h' lo c' es d els:=by
 rcases hg with hg|⟨id,ro,rfl,h2,h3,h4,h5,h6⟩
 .exact .inl hg
 .exact .inr ⟨id,ro,rfl,h2,by rw[hh id rfl];exact h3,h4,h5,by omega⟩
theorem zBF{hd:List Str}:∀(l:List CQ) (acc:CQ),acc.ne=false->acc.na=false->(l.foldl (cjS hd) acc).ne=false/\(l.foldl (cjS hd) acc).na=false
 |[],acc,h1,h2=>⟨h1,h2⟩
 |c::l,acc,h1,h2=>zBF l (cjS hd acc c) rfl rfl
def zKj{h:T Ob}{lo c:Nat}{d:D}{l:List Atm}{xs:List Nat}(H:AsD h lo c d l xs)(hl:∀a∈l,a.ts≠[]):∃rd,frz h.get 11 d=some (slc 3 (l.map atF),rd):=by
 have key:∀(l:List Atm) (xs:List Nat),xs.length=l.length->(∀a∈l,a.ts≠[])->(∀x∈xs,lo<=x/\x<c)->(∀k (hk:k<l.length) (hx:k<xs.length),h.get xs[k]=some (.arr 4 0 (zaH l[k].ts)))->
   ∃W:List (Atm×D),List.zipWith atR l xs=zez W/\l=W.map (·.1)/\∀p∈W,Own h lo c p.2 (zdD p.1.ts):=by
  intro l
  induction l with
  |nil=>intro xs h1 _ _ _;exact⟨[],by simp[zez],rfl,by simp⟩
  |cons a l ih=>
   intro xs h1 h2 h3 h4;cases xs with
   |nil=>simp at h1
   |cons x xs=>
    obtain⟨W,e1,e2,e3⟩ :=ih xs (by simpa using h1) (fun b hb=>h2 b (by simp[hb])) (fun y hy=>h3 y (by simp[hy])) fun k hk hx=>by
     have:=h4 (k+1) (by simp;omega) (by simp;omega);simpa using this
    refine⟨(a,.sl x 0 a.ts.length 4 a.ts.length false)::W,?_,by simp[<-e2],fun p hp=> ?_⟩
    .simp only[List.zipWith_cons_cons,e1];rfl
    .rcases Z6.1 hp with rfl|hp
     .have h5:=h4 0 (by simp) (by simp);have h6:=h3 x (by simp);have h7:=h2 a (by simp);refine ziV (es:=4) (rows:=a.ts.map tmF) (.inr ⟨x,0,?_,?_,h5,Z62 _,h6.1,h6.2⟩)
      .simp
      .simpa using h7
     .exact e3 p hp
 obtain⟨W,e1,e2,e3⟩ :=key l xs H.ln hl H.rg H.rw;have hg:=H.gr;rw[e1]at hg;obtain⟨rd,hr⟩ :=zju 8 e3;have e4:W.map (fun p=>atF p.1)=l.map atF:=by rw[e2,Z34];rfl
 rw[e4]at hr;refine zov (k:=10) hg hr ?_;rw[e2];unfold zez;simp
def zEU{h:T Ob}{lo c:Nat}{d:D}{l:List Cm}(hg:Gro h lo c 9 d (l.map cmD)):∃rd,frz h.get 11 d=some (slc 9 (l.map cmF),rd):=by
 have hf:=ziF h.get 9 (l.map cmF);rw[Z34]at hf;have e:l.map ((fun a=>a.map D.f) ∘ cmF)=l.map cmD:=Z69 fun k _=>zyU k
 rw[e]at hf;exact ziU (k:=10) hg hf (by simp)
def XJ(hd:List Str)(l:List CQ)(n:Nat)(qr:CQ)(s:St):Prop:=∃A C:D,(s.tm.get 1=some (.f (zaM hd))/\s.tm.get 4=some (.ptr 0 2 0 0)/\s.tm.get 5=some (.ptr 1 2 0 0)/\s.tm.get 8=some (.f (qsF l))/\s.tm.get 9=some (.f (.i .i64 l.length))/\s.tm.get 10=some (.f (.i .i64 n))/\s.h.get 0=some (.arr 2 0 [[.f .nils,.f .nils]])/\s.h.get 1=some (.arr 2 0 [[A,C]]))/\RQx s.h 2 s.c A C qr/\2<=s.c
def ans27(hd:List Str)(l:List CQ)(hh:hd.length<=10)(hok:OkL l):Ans pr 27 [qsF l,zaM hd] (.ag (cqF (zf1 hd l))):=by
 have hl:=hok.ln;have hq:=hok.qn;have hwt:=hok.wt;refine zb6 fn27 ?_;simp only[g27,rU];simp[rW,st0,zah,zhr,zcb,zdf];refine zeO l (cjS hd) cj0 (fun n qr s=>CqM (wl (l.take n)) qr/\XJ hd l n qr s) (fun x s=>x= .exit 0/\XJ hd l l.length (zf1 hd l) s) ?_ ?_ _ ?_ ?_
 .rintro n qr s hn - ⟨hM,A,C,⟨h1,h4,h5,h8,h9,h10,g0,g1⟩,hR,hc2⟩;have hw:=zao n (by omega);have hx:l[n]? =some l[n]:=Z0 hn;have hqn:=hq _ (Z2 hn);have hwn:=zx9 hn;have hwn2:=wl_tk l (n+1);generalize hA:l[n]=c at hx hqn hwn|-;have hM2:=zH1 (hd:=hd) hM hqn;rw[<-hwn]at hM2;have hrd:=zC6 hR;have n0:¬(0=s.c):=by omega
  have n1:¬(1=s.c):=by omega
  have n1':¬(s.c=1):=by omega
  simp[rW,h1,h4,h5,h8,h9,h10,g0,g1,hn,zgC,hx,hA,cqE,zbO,zbQ,zfx,ze8,n0,n1,n1'];refine za5 ?_;simp[rW,h1,h4,h5,h8,h9,h10,g0,g1,hn,zgC,hx,hA,cqE,zbO,zbQ,zfx,ze8,n0,n1,n1',hrd.ca,hrd.cc];refine zAJ rfl rfl (zQ5 c (hqn.m.g (by omega))) ?_;rintro d H c' lw mx ⟨hf,dA,dC,rfl,⟨xs,hAs,hCd,hdj⟩,hCs⟩ hcc hcm;simp only[rG]at hf hAs hCd hCs hcc hcm;have e1:=hf 1 (by omega);have ec:=hf s.c (by omega);simp[TG,n1,g1]at e1 ec;have hlow:∀x,x<s.c->H.get x=s.h.get x:=fun x hx=>by
   have nx:¬x=s.c:=by omega
   rw[hf x (by omega)];simp[TG,nx]
  have hqm:=hM.g (show wl (l.take n)<=4 by omega);have hcl:=zlH hqn.m;have hrl:=zlH hM;simp[rW,h1,h4,h5,h8,h9,h10,g0,g1,n1,e1,ec];refine zAJ rfl rfl (eff49 (lo:=s.c+1+1+1) (A:=qr) (q:=cop c) (xs:=xs) ?_ ?_ hqm.toCqSm (zum (hqn.m.g (by omega)).toCqSm) ?_ ?_ ?_ hqn.vl) ?_
  .simp only[rG];omega
  .refine hrd.up (fun x hx=> ?_) ?_
   .simp only[rG];exact hlow x hx
   .simp only[rG];omega
  .refine⟨hAs.up (fun x h1 h2=> ?_) (Z3 _) ?_,zij hCs (fun x h1 h2=> ?_) (Z3 _) ?_,hdj⟩
   .simp only[rG]
   .simp only[rG];omega
   .simp only[rG]
   .simp only[rG];omega
  .rcases hAs.gr with⟨-,h2⟩ |⟨id,ro,h2,-⟩
   .have h3:(List.zipWith atR (cop c).as xs).length=0:=by rw[h2];rfl
    rw[Z85,hAs.ln,Z122]at h3;exact absurd (Z18.1 h3) hqn.ne
   .rw[h2];rfl
  .show(vrs qr).length+(vrs c).length+hd.length+(vrs c).length<98;omega
  rintro d2 H2 c2 lw2 mx2 ⟨rfl,hf2,hAs2,hCs2,hdj2⟩ hcc2 hcm2;simp only[rG]at hf2 hAs2 hCs2 hcc2 hcm2;have e12:=hf2 1 (by omega);have ec2:=hf2 s.c (by omega);rw[e1]at e12;rw[ec]at ec2;have hlow2:∀x,x<s.c->H2.get x=s.h.get x:=fun x hx=>(hf2 x (by omega)).trans (hlow x hx)
  have ca:=zbj hAs2.gr;have cc:=zii (zgt hCs2);obtain⟨rd1,hel1⟩ :=zRH (zbh (h':=H2.set s.c (.arr 2 0 [[dA,dC]])) hAs2.gr (Z3 _) fun x h1 h2=>by
   have:¬x=s.c:=by omega
   simp[TG,this])
  simp[rW,h1,h4,h5,h8,h9,h10,g0,g1,n1,n1',e12,ec2,ca,cc,hel1];obtain⟨xr,hAr,hCr,hYr⟩ :=hR;have hAs3:AsD H2 (s.c+1+1+1) (mx+1) dA (c.as.map (rnA (apN (vrs qr) (vrs c) hd))) xs:=hAs2;have hCs3:CsE H2 (s.c+1+1+1) (mx+1) dC ⟨c.as,c.cs.map (rnK (apN (vrs qr) (vrs c) hd)),c.ne,false⟩ :=hCs2;change _/\oB (zbr 3 48 (H2.set s.c (Ob.arr 2 0 [[dA,dC]])).get (mx2+1) A (List.zipWith atR (c.as.map (rnA (apN (vrs qr) (vrs c) hd))) xs) rd1) _;have ecj:cjS hd qr c=⟨qr.as++c.as.map (rnA (apN (vrs qr) (vrs c) hd)),qr.cs++c.cs.map (rnK (apN (vrs qr) (vrs c) hd)),false,false⟩ :=rfl;clear hAs2 hCs2 hel1;generalize apN (vrs qr) (vrs c) hd=N at*;generalize hlb:c.as.map (rnA N)=lb at*;generalize hkb:c.cs.map (rnK N)=kb at*;have hAo:∀x,A.oid=some x->2<=x/\x<s.c:=fun x hx=>zdw hAr.gr hx
  have hCo:∀x,C.oid=some x->2<=x/\x<s.c:=fun x hx=>zdw hCr hx
  have hl1:(List.zipWith atR qr.as xr).length<=1000:=by rw[Z85];have:=hM.la;omega
  have hl2:(List.zipWith atR lb xs).length<=1000:=by
   have:=hM2.la;rw[ecj]at this;simp only[Z17]at this;rw[Z85];omega
  have hl3:(qr.cs.map cmD).length+(kb.map cmD).length<=1000:=by
   have:=hM2.lc;rw[ecj]at this;simp only[Z17]at this;simp only[Z19];omega
  refine⟨by omega,?_⟩;refine zfm (zbh (h':=H2.set s.c (.arr 2 0 [[dA,dC]])) (c':=mx2+1) hAr.gr (by omega) fun x h1 h2=> ?_) (by omega) (by omega) (by omega) ?_
  .have nx:¬x=s.c:=by omega
   simp[TG,nx,hlow2 x h2]
  intro r hr1 hr2 hr3 hr4 hr5;have hr6:∀x,x<mx2+1->x≠s.c->A.oid≠some x->(wrT (H2.set s.c (.arr 2 0 [[dA,dC]])) r.wr).get x=H2.get x:=fun x h1 h2 h3=>by
   rw[hr4 x h1 h3];simp[TG,h2]
  have hP1:(wrT (H2.set s.c (.arr 2 0 [[dA,dC]])) r.wr).get 1=some (.arr 2 0 [[A,C]]):=by
   rw[hr6 1 (by omega) n1 (zbi hAr.gr (by omega))];exact e12
  have hPc:(wrT (H2.set s.c (.arr 2 0 [[dA,dC]])) r.wr).get s.c=some (.arr 2 0 [[dA,dC]]):=by
   rw[hr4 s.c (by omega) fun e=>by have:=hAo _ e;omega];simp[TG]
  refine⟨hr1,?_⟩;obtain⟨rd2,hel2⟩ :=zQJ (zuo (h':=(wrT (H2.set s.c (.arr 2 0 [[dA,dC]])) r.wr).set 1 (.arr 2 0 [[r.d,C]])) hCs3 fun Y hY=>by
   have h1:=zwU (zgt hCs3) hY;have nx:¬Y=1:=by omega
   simp only[TG,Z50 nx];exact hr6 Y (by omega) (by omega) fun e=>by have:=hAo _ e;omega)
  simp[rW,hP1,hPc,zbj hr2,n1',hel2];refine⟨by omega,?_⟩;refine zfm (h:=(wrT (H2.set s.c (.arr 2 0 [[dA,dC]])) r.wr).set 1 (.arr 2 0 [[r.d,C]])) (lo:=2) (zoz hCr (fun Y hY=> ?_) (by omega)) (by omega) (by omega) (by omega) ?_
  .have h1:=hCo _ hY;have nx:¬Y=1:=by omega
   simp only[TG,Z50 nx];rw[hr6 Y (by omega) (by omega) (hYr Y hY).2,hlow2 Y h1.2]
  intro r2 hq1 hq2 hq3 hq4 hq5;have hq6:∀x,x<r.c->x≠1->C.oid≠some x->(wrT ((wrT (H2.set s.c (.arr 2 0 [[dA,dC]])) r.wr).set 1 (.arr 2 0 [[r.d,C]])) r2.wr).get x=(wrT (H2.set s.c (.arr 2 0 [[dA,dC]])) r.wr).get x:=fun x h1 h2 h3=>by
   rw[hq4 x h1 h3];simp[TG,h2]
  have hP2:(wrT ((wrT (H2.set s.c (.arr 2 0 [[dA,dC]])) r.wr).set 1 (.arr 2 0 [[r.d,C]])) r2.wr).get 1=some (.arr 2 0 [[r.d,C]]):=by
   rw[hq4 1 (by omega) (zbi hCr (by omega))];simp[TG]
  have hP0:(wrT ((wrT (H2.set s.c (.arr 2 0 [[dA,dC]])) r.wr).set 1 (.arr 2 0 [[r.d,C]])) r2.wr).get 0=some (.arr 2 0 [[.f .nils,.f .nils]]):=by
   rw[hq6 0 (by omega) (by omega) (zbi hCr (by omega)),hr6 0 (by omega) n0 (zbi hAr.gr (by omega)),hlow2 0 (by omega)];exact g0
  refine⟨hq1,?_⟩;simp[rW,hP2,zbj hq2];refine⟨by omega,hM2,?_⟩;rw[ecj];refine⟨r.d,r2.d,?_,⟨xr++xs,⟨?_,?_,?_,?_,?_,?_⟩,?_,?_⟩,?_⟩
  .simp[rW,h1,h4,h5,h8,h9,h10,hP0,hw]
  .simp[hAr.ln,hAs3.ln]
  .refine Z91.2 ⟨hAr.nd,hAs3.nd,fun x hx y hy=> ?_⟩;have h1:=hAr.rg x hx;have h2:=hAs3.rg y hy;omega
  .intro x hx;simp[rW,];rcases Z5.1 hx with hx|hx
   .have:=hAr.rg x hx;omega
   .have:=hAs3.rg x hx;omega
  .intro k hk hkx;simp[rW,]
   by_cases hkn:k<qr.as.length
   .have hkr:k<xr.length:=by rw[hAr.ln];exact hkn
    have h1:=hAr.rg _ (Z2 hkr);have h2:=hAr.rw k hkn hkr;have h3:¬(xr[k]=1):=by omega
    have h4:C.oid≠some xr[k]:=fun e=>(hYr _ e).1 (Z2 hkr)
    have h5:A.oid≠some xr[k]:=fun e=>hAr.oi _ e (Z2 hkr)
    rw[Z60 hkr,Z60 hkn,Z50 h3,hq6 _ (by omega) h3 h4,hr6 _ (by omega) (by omega) h5,hlow2 _ h1.2];exact h2
   .have hk2:k - qr.as.length<lb.length:=by simp at hk;omega
    have hkr:k - qr.as.length<xs.length:=by rw[hAs3.ln];exact hk2
    have h1:=hAs3.rg _ (Z2 hkr);have h2:=hAs3.rw _ hk2 hkr;have h3:¬(xs[k - qr.as.length]=1):=by omega
    have h4:C.oid≠some xs[k - qr.as.length]:=fun e=>by have:=hCo _ e;omega
    have h5:A.oid≠some xs[k - qr.as.length]:=fun e=>by have:=hAo _ e;omega
    have e1:(xr++xs)[k]=xs[k - qr.as.length]:=by
     rw[Z59 (by rw[hAr.ln];omega)];simp only[hAr.ln]
    have e2:(qr.as++lb)[k]=lb[k - qr.as.length]:=Z59 (by omega);rw[e1,e2,Z50 h3,hq6 _ (by omega) h3 h4,hr6 _ (by omega) (by omega) h5];exact h2
  .rw[zGl hAr.ln];refine zoz hr2 (fun Y hY=> ?_) ?_
   .have h1:=zdw hr2 hY;have h2:C.oid≠some Y:=fun e=>by
     have h3:=hCo _ e;rcases hr5 Y hY with h4|h4
     .omega
     .exact (hYr Y e).2 h4
    have nx:¬Y=1:=by omega
    simp[rW,nx];exact hq6 Y (by omega) nx h2
   .simp[rW,];exact hq3
  .intro B hB hm;rcases hr5 B hB with h4|h4
   .rcases Z5.1 hm with hm|hm
    .have:=hAr.rg B hm;omega
    .have:=hAs3.rg B hm;omega
   .rcases Z5.1 hm with hm|hm
    .exact hAr.oi B h4 hm
    .have:=hAs3.rg B hm;have:=hAo _ h4;omega
  .have e9:(qr.cs++kb).map cmD=qr.cs.map cmD++kb.map cmD:=Z21;rw[e9];refine zoz hq2 (fun Y hY=> ?_) ?_
   .have h1:=zdw hq2 hY;have nx:¬Y=1:=by omega
    simp[rW,nx]
   .simp[rW,]
  .intro Y hY;rcases hq5 Y hY with h4|h4
   .refine⟨fun hm=> ?_,fun e=>by have:=zdw hr2 e;omega⟩;rcases Z5.1 hm with hm|hm
    .have:=hAr.rg Y hm;omega
    .have:=hAs3.rg Y hm;omega
   .have h5:=hCo _ h4;refine⟨fun hm=> ?_,fun e=> ?_⟩
    .rcases Z5.1 hm with hm|hm
     .exact (hYr Y h4).1 hm
     .have:=hAs3.rg Y hm;omega
    .rcases hr5 Y e with h6|h6
     .omega
     .exact (hYr Y h4).2 h6
  .simp[rW,];omega
 .rintro s ⟨hM,A,C,⟨h1,h4,h5,h8,h9,h10,g0,g1⟩,hR,hc2⟩;simp[rW,h1,h4,h5,h8,h9,h10,g0,g1];refine⟨A,C,?_,hR,hc2⟩;simp[rW,h1,h4,h5,h8,h9,h10,g0,g1]
 .refine⟨zH0,.f .nils,.f .nils,?_,⟨[],⟨rfl,List.nodup_nil,by simp,fun k hk=>by simp[cj0]at hk,.inl ⟨rfl,rfl⟩,by simp[D.oid]⟩,.inl ⟨rfl,rfl⟩,by simp[D.oid]⟩,?_⟩
  .simp[rW,]
  .simp[rW,]
 .rintro x s ⟨rfl,A,C,⟨h1,h4,h5,h8,h9,h10,g0,g1⟩,hR,hc2⟩;have hrd:=zC6 hR;obtain⟨xs,hA,hC,hY⟩ :=hR.up (h':=s.h.set 0 (.arr 2 0 [[A,C]])) (c':=s.c) (fun x h1 h2=>by
   have nx:¬x=0:=by omega
   simp[TG,nx]) (Z3 _)
  obtain⟨rd1,f1⟩ :=zKj hA fun a ha=>((zuj (hd:=hd) hq).al a ha).2.2
  obtain⟨rd2,f2⟩ :=zEU hC;have hfl:=zBF (hd:=hd) l cj0 rfl rfl;change (zf1 hd l).ne=false/\(zf1 hd l).na=false at hfl;have eA:zaS (zf1 hd l)=slc 3 ((zf1 hd l).as.map atF):=by unfold zaS Sm.asF;rw[hfl.2];simp
  have eC:zaQ (zf1 hd l)=slc 9 ((zf1 hd l).cs.map cmF):=by unfold zaQ csF;rw[hfl.1];simp
  simp[rW,h1,h4,h5,h8,h9,h10,g0,g1,hrd.ca,hrd.cc,f1,f2,cqE,eA,eC];omega
def fn30:pr.fn 30=some g30:=by kernel_rfl
def fn29:pr.fn 29=some g29:=by kernel_rfl
def eqR(hd:List Str)(a b:CQ):Bool:=zj2 hd hd [a] [b]&&zj2 hd hd [b] [a]
def zlk(hd:List Str)(a b:CQ):eqR hd a b=eqR hd b a:=Bool.and_comm _ _
def zvo(a:CQ):qsF [a]= .sl 2 [cqF a]:=rfl
def ans30(a b:CQ)(hd:List Str)(ha:CqSm a)(hb:CqSm b)(hh:hd.length<1000):Ans pr 30 [.ag (cqF a),.ag (cqF b),zaM hd] (.b (eqR hd a b)):=by
 refine zb6 fn30 ?_;simp only[g30,rU];have q:=fun k=>zav (k:=k) (zHD hd hd [a] [b] hh hh ⟨by simpa using ha,by simp⟩ ⟨by simpa using hb,by simp⟩)
 unfold eqR;simp only[zvo,cqE]at q;have m1:(1<=zak)=True:=za2 (by omega);have m2:(48<=zak)=True:=za2 (by omega);simp[rW,st0,zah,cqE,zbO,zbQ,zfx,ze8,zkC,zcb,q,m1,m2]
theorem ro29(hd:List Str)(c d:CQ)(hc:CqSm c)(hdd:CqSm d)(hh:hd.length<1000){h:T Ob}{k X Y:Nat}{y:D}(gX:h.get X=some (.arr 2 0 [cqD d]))(gY:h.get Y=some (.arr 2 0 [[.f (zaM hd),y]]))(hX:X<k)(hY:Y<k):
  RO pr 29 [.ag (cqD c),.ptr X 2 0 0,.ptr Y 2 0 0] h k (.f (.b (eqR hd c d))):=by
 refine zcA za0 fn29 rfl ?_;simp only[g29,rU];have nX:¬X=k:=by omega
 have nY:¬Y=k:=by omega
 have q:=fun j=>zav (k:=j) (ans30 c d hd hc hdd hh)
 simp only[cqE]at q;unfold cqD at gX;simp[rW,st0,zah,cqD,gX,gY,nX,nY,zbO,zbQ,zfx,ze8,zcb,q,zaO];simp (disch:=omega) only[za3,za9]
theorem ro28g(l:List CQ)(p:CQ->Bool)(hl:l.length<100000){h:T Ob}{lo c0 c g:Nat}{d:D}{cap:List D}(hg:zdA h lo c0 2 d (zca l))(hcl:∀n (hn:n<l.length),RO pr g (.ag (cqD l[n])::cap) h c (.f (.b (p l[n])))):
  RO pr 28 [d,.fn g [] cap] h c (.f (.i .i64 (ixP l p))):=by
 refine zcA za0 fn28 rfl ?_;simp only[g28,rU];have hlen:zbv d=some l.length:=by rw[zou hg,zcm]
 simp[rW,st0,zah,hlen];refine zfa l p (fun n s=>s.tm.get 0=some (d)/\s.tm.get 1=some (.fn g [] cap)/\s.tm.get 7=some (.f (.i .i64 l.length))/\s.tm.get 8=some (.f (.i .i64 n))/\s.h=h/\s.c=c/\s.lw=c) (fun x s=>x= .exit 0/\s.lw=c) (fun n y s=>y= .ret/\s.tm.get 4=some (.f (.i .i64 n))/\s.lw=c) ?_ ?_ _ ?_ ?_ ?_
 .rintro n s hn ⟨h0,h1,h7,h8,eh,ec,el⟩;have hw:=zao n (by omega);have hp:=hcl n hn;have hn2:n< (zca l).length:=by rw[zcm];exact hn
  have ht:(zca l)[n]? =some (cqD l[n]):=by simp[zca,hn,cqD]
  obtain⟨X,hi,gX⟩ :∃X,iaB 2 d n=some (.ptr X 2 n 0)/\h.get X=some (.arr 2 0 (zca l)):=by
   rcases hg with⟨-,h2⟩ |⟨id,rfl,h2,h3,h5,h6⟩
   .rw[h2]at hn2;simp at hn2
   .exact⟨id,by simp[zs5,hn2],h3⟩
  have ht2:∀h:n< (zca l).length,(zca l)[n]=cqD l[n]:=fun h=>by
   rw[Z0 h]at ht;exact Z54 ht
  have gX':s.h.get X=some (.arr 2 0 (zca l)):=by rw[eh];exact gX
  generalize hA:l[n]=A at hp ht ht2|-;unfold cqD at ht ht2;simp[rW,h0,h1,h7,h8,hn,hi,gX',ht,ht2,hn2];refine zbW (d:= .f (.b (p A))) ?_ ?_ ?_
  .simp only[rG];rw[eh,ec];exact hp
  .simp only[rG];omega
  .intro mx;cases hb:p A with
   |true=>simp[rW,h0,h1,h7,h8,el]
   |false=>simp[rW,h0,h1,h7,h8,hw,eh,ec,el]
 .rintro s ⟨h0,h1,h7,h8,eh,ec,el⟩;simp[rW,h0,h1,h7,h8,el]
 .simp[rW,st0,zah]
 .rintro h z s ⟨rfl,el⟩;rw[ziG h];simp[rW,zaO,el]
 .rintro n hn hp hm z s ⟨rfl,h4,el⟩;rw[zhq hn hp hm];simp[rW,h4,zaO,el]
theorem zpO{h:T Ob}{lo c es byt:Nat}{d:D}{els:List (List D)}{e:List D}{rd:List Nat}{K:Rs->Prop}(hg:zdA h lo c es d els)(hlen:els.length+1<=1000000)(hb:byt<=1000)
  (hK:∀r:Rs,zaq r.c r.wr=true->r.d= .sl c 0 (els.length+1) es (els.length+1) false->r.c=c+1->(wrT h r.wr).get c=some (.arr es 0 (els++[e]))->(∀id,id<c->d.oid≠some id->(wrT h r.wr).get id=h.get id)->K r):oB (zbr es byt h.get c d [e] rd) K:=by
 have hm:∀n,n<=1000000->n<=zak:=fun n hn=>by have:=za2 (n:=n) (by omega);simpa using this
 have hmb:∀n,n<=1000000->n*byt<=zak:=fun n hn=>by
  have:n*byt<=1000000*1000:=Z145 hn hb;have h2:=za2 (n:=n*byt) (by omega);simpa using h2
 rcases hg with⟨rfl,rfl⟩ |⟨id,rfl,he,ho,hl,hc⟩
 .rw[ziO,Z50 (by simp),Z52 ⟨hm _ (by simp),hmb _ (by simp)⟩,zkW];refine hK _ (by simp[zaq,Z80]) rfl rfl (by simp[wrT,TG]) fun i hi _=> ?_
  have:i≠c:=by omega
  simp[wrT,TG,this]
 .have h1:¬(els.length+1<=els.length):=by omega
  have h2:=hm (els.length+1) hlen;have h3:=hmb (els.length+1) hlen;have e:zbr es byt h.get c (.sl id 0 els.length es els.length false) [e] rd=some {d:= .sl c 0 (els.length+1) es (els.length+1) false,rd:=id::rd,wr:=[(id,none),(c,some (.arr es 0 (els++[e])))],c:=c+1}:=by
   rw[znm,Z50 (by simp),ho];simp[om,apO,h1,h2,h3]
  rw[e,zkW];refine hK _ (by simp[zaq,Z80];omega) rfl rfl (by simp[wrT,TG]) fun i hi hne=> ?_
  have h1:i≠c:=by omega
  have h2:i≠id:=fun e=>hne (by rw[e];rfl)
  simp[wrT,TG,Vse.T.zeF,h1,h2]
def zbY(l:List CQ)(set:Nat):Nat->List CQ
 |0=>[]
 |n+1=>if set.testBit n then zbY l set n++(l[n]?).toList else zbY l set n
def sgN(set:Nat):Nat->Int
 |0=> -1
 |n+1=>if set.testBit n then -(sgN set n)else sgN set n
theorem zm5(set:Nat):∀n,sgN set n=1\/sgN set n= -1
 |0=> .inr rfl
 |n+1=>by
  unfold sgN;rcases zm5 set n with h|h<;>rw[h]<;>split<;>simp
theorem zlC(l:List CQ)(set:Nat):∀n,(zbY l set n).length<=n
 |0=>Z3 _
 |n+1=>by
  have:=zlC l set n;unfold zbY;split
  .have h2:(l[n]?).toList.length<=1:=by cases l[n]? <;>simp
   rw[Z17];omega
  .omega
theorem zlD{l:List CQ}{set:Nat}:∀n,∀c∈zbY l set n,c∈l
 |0,c,h=>by simp[zbY]at h
 |n+1,c,h=>by
  unfold zbY at h;split at h
  .rcases Z5.1 h with h|h
   .exact zlD n c h
   .simp only[Option.mem_toList,Option.mem_def]at h;exact Z40 h
  .exact zlD n c h
theorem zxZ{l:List CQ}{set:Nat}:∀{n:Nat},n<=l.length->zbY l set n=[]->∀i,i<n->set.testBit i=false
 |0,_,_,i,hi=>by omega
 |n+1,hn,h,i,hi=>by
  unfold zbY at h;cases hb:set.testBit n with
  |true=>
   rw[hb,Z52 rfl]at h;have h2:=(Z142.1 h).2;rw[Z0 (by omega)]at h2;simp at h2
  |false=>
   rw[hb]at h;simp only[Z53,Z64]at h
   by_cases e:i=n
   .rw[e];exact hb
   .exact zxZ (by omega) h i (by omega)
def zNm{l:List CQ}{set:Nat}(h0:0<set)(h1:set<2 ^ l.length):zbY l set l.length≠[]:=fun h=>by
 have hz:=zxZ (Z3 _) h;have:set=0:=Nat.eq_of_testBit_eq fun i=>by
  rw[Nat.zero_testBit]
  by_cases hi:i<l.length
  .exact hz i hi
  .exact Nat.testBit_lt_two_pow (Z16 h1 (Z114 (by omega) (by omega)))
 omega
def zsU(hd:List Str)(c:CQ):CQ:=zhJ hd c.as.length (cop c)
theorem zwR(hd:List Str):∀k (c:CQ),CqSm c->CqSm (zhJ hd k c)
 |0,_,h=>h
 |k+1,c,h=>by
  refine zwR hd k _ ?_;unfold zl2;split
  .exact zup h _ _
  .exact h
def zEB{hd:List Str}{c:CQ}(h:CqSm c):CqSm (zsU hd c):=zwR hd _ _ (zum h)
def zbB(hd:List Str)(l:List CQ)(set:Nat):CQ:=zsU hd (zf1 hd (zbY l set l.length))
theorem zx1(l:List CQ)(s:Nat):∀n,n<=l.length->wl (zbY l s n)<=wl (l.take n)
 |0,_=>by simp[zbY]
 |n+1,hn=>by
  have ih:=zx1 l s n (by omega);have e:=zx9 (l:=l) (n:=n) (by omega);unfold zbY;split
  .rw[Z0 (by omega)];have:wl (zbY l s n++(some l[n]).toList)=wl (zbY l s n)+wq l[n]:=by simp[wl]
   omega
  .omega
def OkL.sub{l:List CQ}(h:OkL l)(s:Nat):OkL (zbY l s l.length):=by
 have h1:=zx1 l s l.length (Z3 _);rw[Z8]at h1;exact⟨Z4 (zlC l s l.length) h.ln,fun c hc=>h.qn c (zlD _ c hc),Z4 h1 h.wt⟩
def zu6{hd:List Str}{l:List CQ}(hok:OkL l)(set:Nat):CqSm (zbB hd l set):=
 zEB ((zuj (hd:=hd) (hok.sub set).qn).g (hok.sub set).wt).toCqSm
def zu1(hd:List Str)(l:List CQ)(st:List CQ×List Int)(set:Nat):List CQ×List Int:=
 match st.1.findIdx? (fun c=>eqR hd c (zbB hd l set))with
 |some i=>(st.1,st.2.set i (st.2.getD i 0+sgN set l.length))
 |none=>(st.1++[zbB hd l set],st.2++[sgN set l.length])
def zeD(hd:List Str)(l:List CQ):Nat->List CQ×List Int
 |0=>([],[])
 |k+1=>zu1 hd l (zeD hd l k) (k+1)
structure zDS(k:Nat)(st:List CQ×List Int):Prop where
 ln:st.1.length=st.2.length
 le:st.1.length<=k
 sm:∀c∈st.1,CqSm c
 bd:∀z∈st.2,-(k:Int)<=z/\z<=k
theorem znC{hd:List Str}{l:List CQ}(hok:OkL l):∀k,zDS k (zeD hd l k)
 |0=>⟨rfl,Z3 _,by simp[zeD],by simp[zeD]⟩
 |k+1=>by
  have ih:=znC (hd:=hd) hok k;have hm:=zu6 (hd:=hd) hok (k+1);have hs:=zm5 (k+1) l.length;unfold zeD zu1;generalize zeD hd l k=st at ih|-;generalize zbB hd l (k+1)=m at hm|-;generalize sgN (k+1) l.length=sg at hs|-;cases hf:st.1.findIdx? (fun c=>eqR hd c m)with
  |none=>
   refine⟨by simp[ih.ln],by have:=ih.le;simp;omega,fun c hc=> ?_,fun z hz=> ?_⟩
   .rcases Z5.1 hc with h|h
    .exact ih.sm c h
    .rw[Z32.1 h];exact hm
   .rcases Z5.1 hz with h|h
    .have:=ih.bd z h;omega
    .rw[Z32.1 h];omega
  |some i=>
   refine⟨by simp[ih.ln],by have:=ih.le;simp;omega,ih.sm,fun z hz=> ?_⟩;rcases Z157 hz with h|h
   .have:=ih.bd z h;omega
   .rw[Z27]at hf;obtain⟨hi,-⟩ :=hf;have hi2:i<st.2.length:=by rw[<-ih.ln];exact hi
    have h3:=ih.bd _ (Z2 hi2);have h4:st.2.getD i 0=st.2[i]:=by simp[hi2]
    rw[h,h4];omega
def zcz(hd:List Str)(l:List CQ):List CQ×List Int:=zeD hd l (2 ^ l.length - 1)
def fn18:pr.fn 18=some g18:=by kernel_rfl
def bit_F(s i:Nat)(hs:s<8)(hi:i<3):∃z:Int,za7 .shr (.i .i64 (s:Int)) (.i .i64 (i:Int))=some (.i .i64 z)/\za7 .and (.i .i64 z) (.i .i64 1)=some (.i .i64 (if s.testBit i=true then 1 else 0)):=by
 obtain rfl|rfl|rfl|rfl|rfl|rfl|rfl|rfl:s=0\/s=1\/s=2\/s=3\/s=4\/s=5\/s=6\/s=7:=by omega
 all_goals
  obtain rfl|rfl|rfl:i=0\/i=1\/i=2:=by omega
  all_goals exact⟨_,rfl,rfl⟩
def o_un{pr:Pr}{s:St}{Q:St->Prop}{dst:Option Nat}{l:List Go.Vse.Op}{x:Go.Vse.A}:wpO pr (⟨dst,none,.un .neg x⟩ ::l) s Q↔oB (((O.un .neg x).res (zad s.tm)).bind (opv s.h.get s.c)) fun r=>zaq r.c r.wr=true/\wpO pr l (s.aft dst r.d r.wr r.c) Q:=zdp rfl
def zS5(f:Go.Vse.A->Option D)(x:Go.Vse.A):O.res f (.un .neg x)=(f x).bind fun x=>some (.un .neg x):=rfl
def v_neg(h:Nat->Option Ob)(c:Nat){n:Int}(hn:n=1\/n= -1):opv h c (.un .neg (.f (.i .i64 n)))=some {d:= .f (.i .i64 (-n)),c:=c}:=by
 rcases hn with rfl|rfl<;>rfl
def zgX(l:List (Nat×Option Ob)):zda 0 l=0:=Nat.le_zero.1 (zcu 0 l)
def zE(Z:List Int):List (List D):=Z.map fun z=>[.f (.i .i64 z)]
def zdr(Z:List Int):(zE Z).length=Z.length:=by simp[zE]
def zCq(Z:List Int):hd8 (zE Z)=false:=by
 cases Z with
 |nil=>rfl
 |cons z Z=>rfl
def LP(hd:List Str)(l:List CQ)(st:List CQ×List Int)(set:Nat)(d5 d6:D)(s:St):Prop:=(s.tm.get 1=some (.ptr 0 2 0 0)/\s.tm.get 5=some (d5)/\s.tm.get 6=some (d6)/\s.tm.get 7=some (.f (.i .i64 (set:Nat)))/\s.h.get 0=some (.arr 2 0 [[.f (zaM hd),.f (qsF l)]]))/\zdA s.h 1 s.c 2 d5 (zca st.1)/\zdA s.h 1 s.c 1 d6 (zE st.2)/\(∀Y,d5.oid=some Y->d6.oid≠some Y)/\1<=s.c/\s.lw=0
def zEe:C:=(oZ [oR 30 (.bin .lss (.t 29) (.t 28))]
 (.seq (.cond (.t 30) .skip (.exit 2))
 (.seq (.blk 3 (oZ [oM 31 29,oI 32 2 27 29,oL 33 2 32,oR 11 (.new [.nils,.nils]),oM 10 31,oS 2 11 33]
 (oD [oM 34 7,oM 35 10,oR 36 (.bin .shr (.t 34) (.t 35)),oR 37 (.bin .and (.t 36) (.k (.i .i64 1))),oR 38 (.bin .eql (.t 37) (.k (.i .i64 1)))] 38 (oZ [oM 39 8,oL 40 2 11,oR 41 (.bsf 2 [.nils,.nils] 1 [(0,(.t 40))]),oR 42 (.app 2 48 (.t 39) (.t 41)),oM 8 42]
 (.reg [oM 43 9,oR 44 (.un .neg (.t 43)),oM 9 44])) .skip)))
 (.reg [oR 45 (.bin .add (.t 29) (.k (.i .i64 1))),oM 29 45]))))
def b5_R:C:= .seq (.dreg [(oM 46 8,0),(oF 47 0 1,1),(oK 48 1 47,1),(oR 49 (.callp 27 [(.t 46),(.t 48)]),0),(oF 50 0 1,15),(oK 51 1 50,15),(oR 52 (.callp 26 [(.t 49),(.t 51)]),0),(oR 12 (.new [.nils,.nils]),127),(oS 2 12 52,0)])
 (oZ [oM 53 5,oR 54 (.mkf 29 [] [(.t 12),(.t 1)]),oR 55 (.call 28 [(.t 53),(.t 54)]),oM 13 55]
 (.seq (oD [oM 56 13,oR 57 (.bin .lss (.t 56) (.k (.i .i64 0)))] 57 (oZ [oM 58 5,oR 59 (.len (.t 58)),oM 13 59]
 (oZ [oM 60 5,oL 61 2 12,oR 62 (.bsf 2 [.nils,.nils] 1 [(0,(.t 61))]),oR 63 (.app 2 48 (.t 60) (.t 62)),oM 5 63]
 (.reg [oM 64 6,oR 65 (.bsf 1 [.i .i64 0] 1 [(0,(.k (.i .i64 0)))]),oR 66 (.app 1 8 (.t 64) (.t 65)),oM 6 66]))) .skip)
 (.reg [oM 67 6,oM 68 13,oI 69 1 67 68,oK 70 1 69,oM 71 9,oR 72 (.bin .add (.t 70) (.t 71)),oI 73 1 67 68,oS 1 73 72])))
theorem wl5_2{hd:List Str}{l:List CQ}{st:List CQ×List Int}{set:Nat}{d5 d6:D}(hl:l.length<=3)(hs:set<8){K:Ex->St->Prop}(s:St)(h1:LP hd l st set d5 d6 s)(h2:s.tm.get 8=some (.f .nils)/\s.tm.get 9=some (.f (.i .i64 (-1)))/\s.tm.get 27=some (.f (qsF l))/\s.tm.get 28=some (.f (.i .i64 l.length))/\s.tm.get 29=some (.f (.i .i64 0)))
  (hK:∀s d8 P,LP hd l st set d5 d6 s->(s.tm.get 8=some (d8)/\s.tm.get 9=some (.f (.i .i64 (sgN set l.length))))->zdA s.h P s.c 2 d8 (zca (zbY l set l.length))->1<=P->(∀Y,d5.oid=some Y->Y<P)->(∀Y,d6.oid=some Y->Y<P)->K (.exit 2) s):WL pr zEe s K:=by
 obtain⟨⟨h1,h5,h6,h7,g0⟩,hg5,hg6,hd,hc,hlw⟩ :=h1;refine zdo l.length (fun n s'=>(s'.tm.get 1=some (.ptr 0 2 0 0)/\s'.tm.get 5=some (d5)/\s'.tm.get 6=some (d6)/\s'.tm.get 7=some (.f (.i .i64 (set:Nat))))/\Frm s.h s'.h s.c/\s.c<=s'.c/\s'.lw=0/\∃d8,(s'.tm.get 8=some (d8)/\s'.tm.get 9=some (.f (.i .i64 (sgN set n)))/\s'.tm.get 27=some (.f (qsF l))/\s'.tm.get 28=some (.f (.i .i64 l.length))/\s'.tm.get 29=some (.f (.i .i64 n)))/\zdA s'.h s.c s'.c 2 d8 (zca (zbY l set n)))
  (fun e s'=>e= .exit 2/\(s'.tm.get 1=some (.ptr 0 2 0 0)/\s'.tm.get 5=some (d5)/\s'.tm.get 6=some (d6)/\s'.tm.get 7=some (.f (.i .i64 (set:Nat))))/\Frm s.h s'.h s.c/\s.c<=s'.c/\s'.lw=0/\∃d8,(s'.tm.get 8=some (d8)/\s'.tm.get 9=some (.f (.i .i64 (sgN set l.length))))/\zdA s'.h s.c s'.c 2 d8 (zca (zbY l set l.length))) ?_ ?_ s ?_ ?_
 .obtain⟨h0,e0⟩ :∃h0,h0=s.h:=⟨_,rfl⟩
  obtain⟨c0,ec⟩ :∃c0,c0=s.c:=⟨_,rfl⟩
  rw[<-e0,<-ec];rw[<-ec]at hc;clear h1 h5 h6 h7 g0 hg5 hg6 hd hlw h2 hK e0 ec s;rintro n s hn ⟨⟨h1,h5,h6,h7⟩,hf,hcc,hlw,d8,⟨h8,h9,h27,h28,h29⟩,hg⟩;unfold zEe;simp only[rU];have hw:=zao n (by omega);have hx:l[n]? =some l[n]:=Z0 hn;obtain⟨z,b1,b2⟩ :=bit_F set n hs (by omega);have hvn:=fun h c=>v_neg h c (zm5 set n)
  have hsl:=zlC l set n;have m1:(1<=zak)=True:=za2 (by omega);have m2:(48<=zak)=True:=za2 (by omega);generalize hA:l[n]=c at hx;cases hb:set.testBit n with
  |false=>
   rw[hb]at b2;simp only[Z53,Z64]at b2;have e1:zbY l set (n+1)=zbY l set n:=by simp[zbY,hb]
   have e2:sgN set (n+1)=sgN set n:=by simp[sgN,hb]
   simp[rW,h1,h5,h6,h7,h8,h9,h27,h28,h29,hn,zgC,hx,hA,cqE,zbO,zbQ,zfx,ze8,b1,b2,hw,hlw,zgX,e1,e2];refine⟨fun y hy=> ?_,by omega,zfM hg (by omega) fun y h1 h2=> ?_⟩
   .have n1:¬y=s.c:=by omega
    simp[TG,n1,hf y hy]
   .have n1:¬y=s.c:=by omega
    simp[TG,n1]
  |true=>
   rw[hb]at b2;simp only[Z61]at b2;have e1:zbY l set (n+1)=zbY l set n++[c]:=by simp[zbY,hb,hx]
   have e2:sgN set (n+1)= -(sgN set n):=by simp[sgN,hb]
   simp[rW,h1,h5,h6,h7,h8,h9,h27,h28,h29,hn,zgC,hx,hA,cqE,zbO,zbQ,zfx,ze8,b1,b2,hw,hlw,zgX,m1,m2,e1,e2,o_un,zS5,hvn];refine zq7 (zfM (c':=s.c+1) hg (by omega) fun y h1 h2=> ?_) (by omega) (by rw[zcm];simp;omega) (by omega) ?_
   .have n1:¬y=s.c:=by omega
    simp[TG,n1]
   intro r hr1 hr2 hr3 hr4 hr5;refine⟨hr1,fun y hy=> ?_,by omega,by rw[zf2];exact hr2⟩;have n1:¬y=s.c:=by omega
   rw[hr4 y (by omega) fun e=>by have:=zcI hg e;omega];simp[TG,n1,hf y hy]
 .rintro s' ⟨⟨h1,h5,h6,h7⟩,hf,hcc,hlw,d8,⟨h8,h9,h27,h28,h29⟩,hg⟩;unfold zEe;simp only[rU];simp[rW,h1,h5,h6,h7,h8,h9,h27,h28,h29,hlw];exact⟨hf,hcc,hg⟩
 .simp[rW,h2,hlw,h1,h5,h6,h7];exact⟨fun _ _=>rfl,_,⟨rfl,rfl⟩,.inl ⟨rfl,rfl⟩⟩
 .rintro e s' ⟨rfl,⟨h1,h5,h6,h7⟩,hf,hcc,hlw,d8,hr,hg⟩;refine hK s' d8 s.c ⟨⟨h1,h5,h6,h7,?_⟩,?_,?_,hd,by omega,hlw⟩ hr hg hc (fun Y hY=>(zcI hg5 hY).2) fun Y hY=>(zcI hg6 hY).2
  .rw[hf 0 (by omega)];exact g0
  .exact zfM hg5 hcc fun y _ h2=>hf y h2
  .exact zfM hg6 hcc fun y _ h2=>hf y h2
def zBK(l:List CQ):(zca l).take l.length=zca l:=by rw[<-zcm l,Z8]
def zSl{l:List CQ}(h:l≠[]):F.sl 2 (l.map fun c=>cqF c)=qsF l:=zdz (by simpa using h)
def zgM{h h':T Ob}{lo c c' es:Nat}{d:D}{els:List (List D)}(hg:zdA h lo c es d els)(hh:∀Y,d.oid=some Y->h'.get Y=h.get Y)(hc:c<=c'):zdA h' lo c' es d els:=by
 rcases hg with hg|⟨id,rfl,h2,h3,h5,h6⟩
 .exact .inl hg
 .exact .inr ⟨id,rfl,h2,by rw[hh id rfl];exact h3,h5,by omega⟩
theorem r5{hd:List Str}{l:List CQ}{k:Nat}{d5 d6 d8:D}{P:Nat}(hh:hd.length<=10)(hok:OkL l)(hk:k+1<2 ^ l.length){K:Ex->St->Prop}(s:St)(h1:LP hd l (zeD hd l k) (k+1) d5 d6 s)(h2:s.tm.get 8=some (d8)/\s.tm.get 9=some (.f (.i .i64 (sgN (k+1) l.length))))
  (hg8:zdA s.h P s.c 2 d8 (zca (zbY l (k+1) l.length)))(hP:1<=P)(hP5:∀Y,d5.oid=some Y->Y<P)(hP6:∀Y,d6.oid=some Y->Y<P)
  (hK:∀s d5 d6,LP hd l (zeD hd l (k+1)) (k+1) d5 d6 s->K .nrm s):wpC pr b5_R s K:=by
 obtain⟨⟨h1,h5,h6,h7,g0⟩,hg5,hg6,hdj,hc,hlw⟩ :=h1;obtain⟨h8,h9⟩ :=h2;unfold b5_R;simp only[rU];have hl:=hok.ln;have hI:=znC (hd:=hd) hok k;have hmp:=zu6 (hd:=hd) hok (k+1);have hos:=hok.sub (k+1);have hsub:=zNm (l:=l) (set:=k+1) (by omega) hk;have hsl:=zlC l (k+1) l.length;have hM:=zuj (hd:=hd) hos.qn;have q11:=fun j=>zav (k:=j) (ans27 hd (zbY l (k+1) l.length) hh hos)
 have q10:=fun j=>zav (k:=j) (ans26 (zf1 hd (zbY l (k+1) l.length)) hd (hM.g hos.wt).toCqSm (by omega))
 change ∀j,aB pr 26 [.ag (cqF (zf1 hd (zbY l (k+1) l.length))),zaM hd] j↔j (.ag (cqF (zbB hd l (k+1))))at q10
 have hlat:zeD hd l (k+1)=zu1 hd l (zeD hd l k) (k+1):=rfl;unfold zu1 at hlat
 rw[hlat]at hK;generalize zbB hd l (k+1)=m at hmp q10 hK;clear hM hos;generalize zf1 hd (zbY l (k+1) l.length)=cj at q10 q11;generalize zbY l (k+1) l.length=sub at*;generalize zeD hd l k=st at*;rcases hg8 with⟨-,e⟩ |⟨id,rfl,hne,gid,hid1,hid2⟩
 .exact absurd e (by simpa [zca]using hsub)
 rw[zcm]at*;have hqn:=zSl hsub;have hk8:k<100:=by
  have:2 ^ l.length<=2 ^ 3:=Z114 (by omega) hl;omega
 have n0:¬(id=0):=by omega
 have n0':¬(0=id):=by omega
 have nl:¬(sub.length=0):=fun e=>hsub (Z18.1 e)
 simp only[cqE]at q10 q11;simp[rW,h1,h5,h6,h7,g0,h8,h9];refine zaF ?_;simp[rW,h1,h5,h6,h7,g0,h8,h9,gid,zcm,zBK,zi9,hqn,nl,q11,q10,hid2,n0,n0',zbO,zbQ,zfx,ze8,zcb];refine⟨by omega,by omega,?_⟩;refine zbW (d:= .f (.i .i64 (ixP st.1 fun c=>eqR hd c m))) ?_ ?_ ?_
 .simp only[rG];refine ro28g st.1 (fun c=>eqR hd c m) (by have:=hI.le;omega) (zgM (c':=s.c+1+1+1+1+1+1+1+1+1) hg5 (fun Y hY=> ?_) (by omega)) fun n hn=>ro29 hd _ m (hI.sm _ (Z2 hn)) hmp (by omega) (y:= .f (qsF l)) ?_ ?_ ?_ ?_
  .have h1:=zcI hg5 hY;have h2:=hP5 Y hY;have n1:¬Y=id:=by omega
   have n2:¬Y=s.c+1+1+1+1+1+1+1:=by omega
   simp[TG,n1,n2]
  .simp[TG,cqD]
  .have n2:¬0=s.c+1+1+1+1+1+1+1:=by omega
   simp[TG,n0',g0]
  .omega
  .omega
 .simp only[rG];rw[hlw,zgX,zgX,zgX];omega
 intro mx;have hlen5:zbv d5=some st.1.length:=by rw[zou hg5,zcm]
 cases hf:st.1.findIdx? (fun c=>eqR hd c m)with
 |none=>
  have hix:ixP st.1 (fun c=>eqR hd c m)= -1:=by unfold ixP;rw[hf]
  rw[hf]at hK;simp only at hK;have hsg:=zm5 (k+1) l.length;generalize sgN (k+1) l.length=sg at*;have hw:IntKind.i64.wrap (0+sg)=sg:=by rw[Int.zero_add];exact IntWalk.i64_in _ (by omega)
  have hz:(zE st.2++[[.f (.i .i64 0)]])[st.2.length]? =some [D.f (.i .i64 0)]:=by
   rw[Z63 (by rw[zdr];omega),zdr,Z195];rfl
  have hzl:st.2.length< (zE st.2++[[D.f (.i .i64 0)]]).length:=by simp[zdr]
  have hz2:∀h:st.2.length< (zE st.2++[[D.f (.i .i64 0)]]).length,(zE st.2++[[D.f (.i .i64 0)]])[st.2.length]=[D.f (.i .i64 0)]:=fun h=>by
   rw[Z0 h]at hz;exact Z54 hz
  have hst:(zE st.2++[[D.f (.i .i64 0)]]).set st.2.length [.f (.i .i64 sg)]=zE (st.2++[sg]):=by
   rw[Z113 _ _ (by rw[zdr];omega),zdr,Z195];simp[zE]
  have hd8z:hd8 (zE st.2++[[D.f (.i .i64 0)]])=false:=by
   have:=zCq (st.2++[0]);simpa [zE]using this
  rw[hI.ln]at hlen5;simp[rW,h1,h5,h6,h7,h9,hix,hlen5];refine zpO (zgM (h':=((s.h.set id (.arr 2 sub.length (zca sub))).set (s.c+1+1+1+1+1+1+1) (.arr 2 0 [[.f .nils,.f .nils]])).set (s.c+1+1+1+1+1+1+1) (.arr 2 0 [[.f (zaS m),.f (zaQ m)]])) (c':=s.c+1+1+1+1+1+1+1+1+1+1) hg5 (fun Y hY=> ?_) (by omega)) (by rw[zcm];have:=hI.le;omega) (by omega) ?_
  .have h1:=zcI hg5 hY;have h2:=hP5 Y hY;have n1:¬Y=id:=by omega
   have n2:¬Y=s.c+1+1+1+1+1+1+1:=by omega
   simp[TG,n1,n2]
  intro r hr1 hr2 hr3 hr4 hr5;have hr6:∀y,y<s.c->y≠id->d5.oid≠some y->(wrT (((s.h.set id (.arr 2 sub.length (zca sub))).set (s.c+1+1+1+1+1+1+1) (.arr 2 0 [[.f .nils,.f .nils]])).set (s.c+1+1+1+1+1+1+1) (.arr 2 0 [[.f (zaS m),.f (zaQ m)]])) r.wr).get y=s.h.get y:=fun y h1 h2 h3=>by
   rw[hr5 y (by omega) h3];have n2:¬y=s.c+1+1+1+1+1+1+1:=by omega
   simp[TG,h2,n2]
  refine⟨hr1,?_⟩;refine zpO (zgM (h':=wrT (((s.h.set id (.arr 2 sub.length (zca sub))).set (s.c+1+1+1+1+1+1+1) (.arr 2 0 [[.f .nils,.f .nils]])).set (s.c+1+1+1+1+1+1+1) (.arr 2 0 [[.f (zaS m),.f (zaQ m)]])) r.wr) (c':=r.c) hg6 (fun Y hY=> ?_) (by omega)) (by rw[zdr,<-hI.ln];have:=hI.le;omega) (by omega) ?_
  .have h1:=zcI hg6 hY;have h2:=hP6 Y hY;exact hr6 Y (by omega) (by omega) fun e=>hdj Y e hY
  intro r2 hq1 hq2 hq3 hq4 hq5;refine⟨hq1,?_⟩;have m0:¬(0=r.c):=by omega
  simp[rW,h1,h5,h6,h7,h9,hix,hq2,hq4,hI.ln,zdr,hz,hz2,hzl,hw,hst,hd8z];refine⟨by omega,?_⟩;have hr7:∀y,y<s.c->y≠id->d5.oid≠some y->d6.oid≠some y->(wrT (wrT (((s.h.set id (.arr 2 sub.length (zca sub))).set (s.c+1+1+1+1+1+1+1) (.arr 2 0 [[.f .nils,.f .nils]])).set (s.c+1+1+1+1+1+1+1) (.arr 2 0 [[.f (zaS m),.f (zaQ m)]])) r.wr) r2.wr).get y=s.h.get y:=fun y h1 h2 h3 h4=>by
   rw[hq5 y (by omega) h4,hr6 y h1 h2 h3]
  have e0:=hr7 0 (by omega) (by omega) (fun e=>by have:=zcI hg5 e;omega) (fun e=>by have:=zcI hg6 e;omega);rw[g0]at e0;refine hK _ r.d r2.d ⟨?_,?_,?_,?_,?_,?_⟩
  .simp[rW,h1,h5,h6,h7,e0,m0,hq2,zdr]
  .refine .inr ⟨s.c+1+1+1+1+1+1+1+1+1+1,?_,?_,?_,by omega,?_⟩
   .rw[hr2,zcm,zcm,Z17];rfl
   .rw[zf2];simp
   .have y1:¬(s.c+1+1+1+1+1+1+1+1+1+1=r.c):=by omega
    have y2:=hq5 (s.c+1+1+1+1+1+1+1+1+1+1) (by omega) fun e=>by have:=zcI hg6 e;omega
    rw[hr4]at y2;simp[rW,y1];rw[y2,zf2]
   .simp[rW,];omega
  .refine .inr ⟨r.c,?_,?_,?_,by omega,?_⟩
   .rw[hq2,zdr,zdr,Z17];rfl
   .simp[zE]
   .have hw2:IntKind.i64.wrap sg=sg:=IntWalk.i64_in _ (by omega);simp[rW,hq2,hw2];simp[zE]
   .simp[rW,];omega
  .intro Y h1 h2;rw[hr2]at h1;rw[hq2]at h2;simp only[D.oid,Z46]at h1 h2;omega
  .simp[rW,];omega
  .simp[rW,hlw,zgX]
 |some i=>
  have hix:ixP st.1 (fun c=>eqR hd c m)=i:=by unfold ixP;rw[hf]
  rw[hf]at hK;simp only at hK;have hii:¬((i:Int)<0):=by omega
  rw[Z27]at hf;obtain⟨hi1,-⟩ :=hf;have hi2:i<st.2.length:=by rw[<-hI.ln];exact hi1
  rcases hg6 with⟨-,e⟩ |⟨id6,rfl,hne6,gid6,h61,h62⟩
  .have:st.2=[]:=by simpa [zE]using e
   rw[this]at hi2;simp at hi2
  have hz:(zE st.2)[i]? =some [.f (.i .i64 st.2[i])]:=by simp[zE,hi2]
  have hzl:i< (zE st.2).length:=by rw[zdr];exact hi2
  have hz2:∀h:i< (zE st.2).length,(zE st.2)[i]=[.f (.i .i64 st.2[i])]:=fun h=>by
   rw[Z0 h]at hz;exact Z54 hz
  have hbz:=hI.bd _ (Z2 hi2);have hsg:=zm5 (k+1) l.length;have hgd:st.2.getD i 0=st.2[i]:=by simp[hi2]
  rw[hgd]at hK;generalize hZ:st.2[i]=z at hz hz2 hbz hK;generalize sgN (k+1) l.length=sg at*;have hw:IntKind.i64.wrap (z+sg)=z+sg:=IntWalk.i64_in _ (by omega);have hst:(zE st.2).set i [.f (.i .i64 (z+sg))]=zE (st.2.set i (z+sg)):=by unfold zE;rw[Z117]
  have hn6:=hP6 id6 rfl;have x1:¬(id6=id):=by omega
  have x2:¬(id6=s.c+1+1+1+1+1+1+1):=by omega
  simp[rW,h1,h5,h6,h7,h9,hix,hii,gid6,hz,hz2,hzl,x1,x2,hw,hst,zCq,zdr,hi2];refine⟨by omega,?_⟩;have y0:¬(0=id6):=by omega
  refine hK _ d5 (.sl id6 0 (zE st.2).length 1 (zE st.2).length false) ⟨?_,?_,?_,hdj,?_,?_⟩
  .simp[rW,h1,h5,h6,h7,g0,n0',y0,zdr]
  .refine zgM hg5 (fun Y hY=> ?_) ?_
   .have h1:=zcI hg5 hY;have h2:=hP5 Y hY;have n1:¬Y=id:=by omega
    have n2:¬Y=s.c+1+1+1+1+1+1+1:=by omega
    have n3:¬Y=id6:=fun e=>hdj Y hY (by rw[e];rfl)
    simp[rW,n1,n2,n3]
   .simp[rW,];omega
  .refine .inr ⟨id6,?_,?_,?_,h61,?_⟩
   .rw[zdr,zdr,List.length_set]
   .intro e;have:=congrArg List.length e;rw[zdr,List.length_set]at this;have h0:st.2.length=0:=this;omega
   .simp[rW,]
   .simp[rW,];omega
  .simp[rW,]
  .simp[rW,hlw,zgX]
def shl_F(n:Nat)(h:n<=3):za7 .shl (.i .i64 1) (.i .i64 (n:Int))=some (.i .i64 ((2 ^ n:Nat):Int)):=by
 obtain rfl|rfl|rfl|rfl:n=0\/n=1\/n=2\/n=3:=by omega
 all_goals rfl
def zuJ{h:T Ob}{lo c es:Nat}{d:D}{els:List (List D)}(hg:zdA h lo c es d els):Gro h lo c es d els:=by
 rcases hg with hg|⟨id,h1,h2,h3,h5,h6⟩
 .exact .inl hg
 .exact .inr ⟨id,0,h1,h2,h3,Z62 _,h5,h6⟩
def zF(Z:List Int):F:=slc 1 (Z.map fun z=>[F.i .i64 z])
def zDK{h:T Ob}{lo c:Nat}{d:D}{Z:List Int}(hg:zdA h lo c 1 d (zE Z)):∃rd,frz h.get 11 d=some (zF Z,rd):=by
 have hf:=ziF h.get 9 (Z.map fun z=>[F.i .i64 z]);rw[Z34]at hf;exact ziU (k:=10) (zuJ hg) hf (by simp[zE])
def zCU{h:T Ob}{lo c:Nat}{d:D}{M:List CQ}(hg:zdA h lo c 2 d (zca M)):∃rd,frz h.get 11 d=some (qsF M,rd):=
 ziU (k:=10) (zuJ hg) (zi9 _ 9 _) (by simp[zca])
def rd_3(s:St)(u v w:Rv):resD s [u,v,w]=om (resV s u) fun x=>om (resV s v) fun y=>om (resV s w) fun z=>some (.tu [x,y,z]):=by
 simp only[resD,zat,om];cases resV s u<;>cases resV s v<;>cases resV s w<;>rfl
def ans18(hd:List Str)(l:List CQ)(hh:hd.length<=10)(hok:OkL l):Ans pr 18 [.ag [zaM hd,qsF l]] (.tu [qsF (zcz hd l).1,zF (zcz hd l).2,.i .i64 0]):=by
 have hl:=hok.ln;refine zb6 fn18 ?_;simp only[g18,rU];have hsh:=shl_F l.length hl;have hp8:2 ^ l.length<=2 ^ 3:=Z114 (by omega) hl;have hp1:0<2 ^ l.length:=Nat.two_pow_pos _;have h5:¬((l.length:Int)>5):=by omega
 obtain⟨N,hN⟩ :∃N,N=2 ^ l.length:=⟨_,rfl⟩
 rw[<-hN]at hsh hp8 hp1;unfold zcz;rw[<-hN];simp[rW,st0,zah,zcb,zhr,zdf,zkC,h5];refine zdo (N - 1) (fun k s=>∃d5 d6,LP hd l (zeD hd l k) (k+1) d5 d6 s) (fun e s=>e= .exit 0/\∃d5 d6,LP hd l (zeD hd l (N - 1)) N d5 d6 s) ?_ ?_ _ ?_ ?_
 .rintro k s hk ⟨d5,d6,⟨h1,h5,h6,h7,g0⟩,hg5,hg6,hdj,hc,hlw⟩;have hlt:k+1<N:=by omega
  have hlt':((k:Int)+1)<N:=by omega
  push_cast at h7
  simp[rW,h1,h5,h6,h7,g0,zdf,hsh,hlt,hlt'];refine wl5_2 (hd:=hd) (l:=l) (st:=zeD hd l k) (set:=k+1) (d5:=d5) (d6:=d6) hl (by omega) _ ⟨?_,?_,?_,hdj,?_,?_⟩ ?_ ?_
  .simp[rW,h1,h5,h6,h7,g0]
  .simp[rW,hg5]
  .simp[rW,hg6]
  .simp[rW,hc]
  .simp[rW,hlw]
  .simp[rW,]
  intro s d8 P b1 b2 b3 b4 b5 b6;rw[zfQ,Z52 rfl,zgs];refine r5 hh hok (by omega) s b1 b2 b3 b4 b5 b6 ?_;rintro s d5 d6 ⟨⟨h1,h5,h6,h7,g0⟩,hg5,hg6,hdj,hc,hlw⟩;have hw:=zao (k+1) (by omega)
  push_cast at h7 hw
  simp[rW,h1,h5,h6,h7,g0,hw];refine⟨d5,d6,⟨?_,?_,?_,hdj,?_,?_⟩⟩
  .simp[rW,h1,h5,h6,h7,g0]
  .simp[rW,hg5]
  .simp[rW,hg6]
  .simp[rW,hc]
  .simp[rW,hlw]
 .rintro s ⟨d5,d6,⟨h1,h5,h6,h7,g0⟩,hg5,hg6,hdj,hc,hlw⟩;have e:N - 1+1=N:=by omega
  rw[e]at h7;simp[rW,h1,h5,h6,h7,g0,zdf,hsh];refine⟨d5,d6,⟨?_,?_,?_,hdj,?_,?_⟩⟩
  .simp[rW,h1,h5,h6,h7,g0]
  .simp[rW,hg5]
  .simp[rW,hg6]
  .simp[rW,hc]
  .simp[rW,hlw]
 .refine⟨.f .nils,.f .nils,⟨?_,.inl ⟨rfl,rfl⟩,.inl ⟨rfl,rfl⟩,by simp[D.oid],?_,?_⟩⟩
  .simp[rW,]
  .simp[rW,]
  .simp[rW,zgX]
 .rintro e s ⟨rfl,d5,d6,⟨h1,h5,h6,h7,g0⟩,hg5,hg6,hdj,hc,hlw⟩;obtain⟨rd5,f5⟩ :=zCU hg5;obtain⟨rd6,f6⟩ :=zDK hg6;simp[rW,h5,h6,f5,f6,rd_3]
end Go.Proofs.YtflgmemhalhdbaaGreatDoor
end
