/- smallest. -/
import Derived.Test.YtmnkdfjljkhneaaGreatPi
import Derived.KernelRfl
import Derived.IntWalk
set_option linter.all false
set_option maxRecDepth 100000
set_option maxHeartbeats 4000000
section
namespace Go.Proofs.YtmnkdfjljkhneaaGreat
open Go Go.Vse Go.Vse.Sm
def fn34:pr.fn 34=some g34:=by kernel_rfl
def stS(q:CQ)(s:Str)(o:Option Int)(v:Int):Option Int:=if(match o with|none=>true|some b=>decide (v<b))&& !(exc q s v)then some v else o
def smV(q:CQ)(s:Str)(o:Option Int)(vs:List Int):Option Int:=vs.foldl (stS q s) o
def smT(l:List CQ)(q:CQ)(s:Str)(a:Atm)(o:Option Int)(n:Nat):Option Int:=(List.range n).foldl (fun o i=>if a.ts[i]? =some (.var s)then smV q s o (cAt l a.r i)else o) o
def smA(l:List CQ)(q:CQ)(s:Str)(as':List Atm):Option Int:=as'.foldl (fun o a=>smT l q s a o a.ts.length) none
def bsD(o:Option Int):List D:=match o with
 |some v=>vD v
 |none=>[.f (.i .i64 0),.f (.i .i64 0),.f (.s [])]
structure BS(h0 h:T Ob)(c:Nat)(hd:List Str)(dq:D)(q:CQ)(c0:Nat)(o:Option Int):Prop where
 g0:h.get c0=some (.arr 2 0 [[.f (zaq hd),dq]])
 g1:h.get (c0+1)=some (.arr 2 0 [[.f (zaB q),.f (zaC q)]])
 g2:h.get (c0+1+1)=some (.arr 3 0 [bsD none])
 g3:h.get (c0+1+1+1)=some (.arr 3 0 [bsD o])
 lo:c0+1+1+1+1<=c
 fr:Frm h0 h c0
def BS.up{h0 h h':T Ob}{c c':Nat}{hd:List Str}{dq:D}{q:CQ}{c0:Nat}{o:Option Int}(H:BS h0 h c hd dq q c0 o)(hh:∀x,x<c->h'.get x=h.get x)(hc:c<=c'):BS h0 h' c' hd dq q c0 o:=by
 have:=H.lo;exact⟨by rw[hh _ (by omega)];exact H.g0,by rw[hh _ (by omega)];exact H.g1,by rw[hh _ (by omega)];exact H.g2,by rw[hh _ (by omega)];exact H.g3,by omega,fun x hx=>by rw[hh x (by omega)];exact H.fr x hx⟩
def zup(l:List CQ)(q:CQ)(s:Str)(a:Atm)(o:Option Int)(n:Nat):smT l q s a o (n+1)=if a.ts[n]? =some (.var s)then smV q s (smT l q s a o n) (cAt l a.r n)else smT l q s a o n:=by
 unfold smT;rw[List.range_succ,List.foldl_append];rfl
def zFM(q:CQ)(s:Str)(o:Option Int){vs:List Int}{n:Nat}(hn:n<vs.length):smV q s o (vs.take (n+1))=stS q s (smV q s o (vs.take n)) vs[n]:=by
 unfold smV;rw[Z6 hn,List.foldl_append];rfl
def zFJ(l:List CQ)(q:CQ)(s:Str){n:Nat}(hn:n<q.as.length):smA l q s (q.as.take (n+1))=smT l q s q.as[n] (smA l q s (q.as.take n)) q.as[n].ts.length:=by
 unfold smA;rw[Z6 hn,List.foldl_append];rfl
def zPp{h:T Ob}{lo c es:Nat}{d:D}{els:List (List D)}(H:Gro h lo c es d els){n:Nat}(hn:n<els.length):∃id ro,iaB es d n=some (.ptr id es n 0)/\h.get id=some (.arr es ro els)/\lo<=id/\id<c:=by
 rcases H with⟨rfl,rfl⟩ |⟨id,ro,rfl,-,hg,-,h1,h2⟩
 .simp at hn
 .exact⟨id,ro,by simp[ziQ,hn],hg,h1,h2⟩
def XM1(h0:T Ob)(hd:List Str)(dq:D)(l:List CQ)(q:CQ)(nm:Str)(c0 n:Nat)(s:St):Prop:=(s.tm.get 2=some (.f (.s nm))/\s.tm.get 3=some (.ptr c0 2 0 0)/\s.tm.get 4=some (.ptr (c0+1) 2 0 0)/\s.tm.get 6=some (.ptr (c0+1+1) 3 0 0)/\s.tm.get 8=some (.ptr (c0+1+1+1) 3 0 0)/\s.tm.get 9=some (.f (.b (smA l q nm (q.as.take n)).isSome))/\s.tm.get 17=some (.f (zaB q))/\s.tm.get 18=some (.f (.i .i64 q.as.length))/\s.tm.get 19=some (.f (.i .i64 n)))/\BS h0 s.h s.c hd dq q c0 (smA l q nm (q.as.take n))
def XM2(h0:T Ob)(hd:List Str)(dq:D)(l:List CQ)(q:CQ)(nm:Str)(c0 n P:Nat)(A:Atm)(o0:Option Int)(m:Nat)(s:St):Prop:=(s.tm.get 2=some (.f (.s nm))/\s.tm.get 3=some (.ptr c0 2 0 0)/\s.tm.get 4=some (.ptr (c0+1) 2 0 0)/\s.tm.get 6=some (.ptr (c0+1+1) 3 0 0)/\s.tm.get 8=some (.ptr (c0+1+1+1) 3 0 0)/\s.tm.get 9=some (.f (.b (smT l q nm A o0 m).isSome))/\s.tm.get 17=some (.f (zaB q))/\s.tm.get 18=some (.f (.i .i64 q.as.length))/\s.tm.get 19=some (.f (.i .i64 n))/\s.tm.get 11=some (.ptr P 3 0 0)/\s.tm.get 24=some (.f (zaW A.ts))/\s.tm.get 25=some (.f (.i .i64 A.ts.length))/\s.tm.get 26=some (.f (.i .i64 m)))/\BS h0 s.h s.c hd dq q c0 (smT l q nm A o0 m)/\s.h.get P=some (.arr 3 0 [[.f (.s A.r),.f (.b A.neg),.f (zaW A.ts)]])/\c0+4<=P/\P<s.c
def XM3(h0:T Ob)(hd:List Str)(dq:D)(l:List CQ)(q:CQ)(nm:Str)(c0 n P:Nat)(A:Atm)(o1:Option Int)(m:Nat)(vs:List Int)(L:D)(lo j:Nat)(s:St):Prop:=(s.tm.get 2=some (.f (.s nm))/\s.tm.get 3=some (.ptr c0 2 0 0)/\s.tm.get 4=some (.ptr (c0+1) 2 0 0)/\s.tm.get 6=some (.ptr (c0+1+1) 3 0 0)/\s.tm.get 8=some (.ptr (c0+1+1+1) 3 0 0)/\s.tm.get 9=some (.f (.b (smV q nm o1 (vs.take j)).isSome))/\s.tm.get 17=some (.f (zaB q))/\s.tm.get 18=some (.f (.i .i64 q.as.length))/\s.tm.get 19=some (.f (.i .i64 n))/\s.tm.get 11=some (.ptr P 3 0 0)/\s.tm.get 24=some (.f (zaW A.ts))/\s.tm.get 25=some (.f (.i .i64 A.ts.length))/\s.tm.get 26=some (.f (.i .i64 m))/\s.tm.get 39=some (L)/\s.tm.get 40=some (.f (.i .i64 vs.length))/\s.tm.get 41=some (.f (.i .i64 j)))/\BS h0 s.h s.c hd dq q c0 (smV q nm o1 (vs.take j))/\s.h.get P=some (.arr 3 0 [[.f (.s A.r),.f (.b A.neg),.f (zaW A.ts)]])/\c0+4<=P/\P<s.c/\Gro s.h lo s.c 3 L (vs.map vD)/\P<lo
def eff34(hd:List Str)(l:List CQ)(q:CQ)(nm:Str)(hnm:nm≠[])(hl:l.length<=1000)(hq:∀c∈l,CqG c)(hqq:CqG q){h:T Ob}{c0:Nat}{dq:D}(hD:QD h c0 dq l):Eff pr 34 [.ag [.f (zaq hd),dq],.ag [.f (zaB q),.f (zaC q)],.f (.s nm)] h c0 fun d h' c'=>Frm h h' c0/\d= .tu [.ag (bsD (smA l q nm q.as)),.f (.b (smA l q nm q.as).isSome)]:=by
 refine zci zbi fn34 ?_;simp only[g34,rU];have n0:¬(c0+1=c0+1+1+1):=by omega
 have n1:¬(c0+1=c0+1+1):=by omega
 simp[rW,st0,zae,zaF,zaH,za1,zkW hD,zaN,n0,n1];refine zdi q.as.length (XM1 h hd dq l q nm c0) (fun x s=>x= .exit 0/\XM1 h hd dq l q nm c0 q.as.length s) ?_ ?_ _ ?_ ?_
 .rintro n s hn ⟨⟨h2,h3,h4,h6,h8,h9,h17,h18,h19⟩,hB⟩;have hw:=zao n (by have:=hqq.sa;omega);have hx:q.as[n]? =some q.as[n]:=Z0 hn;have hst:=hqq.st _ (Z1 hn);have hok:=(hqq.toCqSm.toCqOk.as _ (Z1 hn)).1;have htk:=Z6 hn;have hlo:=hB.lo;generalize hAn:q.as[n]=A at hx hst htk hok;simp[rW,h2,h3,h4,h6,h8,h9,h17,h18,h19,hn,zbh,hx,hAn,atE,zaR,zaO];have hsa:=zFJ l q nm hn;rw[hAn]at hsa;obtain⟨o0,ho0⟩ :∃o,o=smA l q nm (q.as.take n):=⟨_,rfl⟩
  rw[<-ho0]at hB h9 hsa;refine zdi A.ts.length (XM2 h hd dq l q nm c0 n s.c A o0) (fun x s'=>x= .exit 2/\XM2 h hd dq l q nm c0 n s.c A o0 A.ts.length s') ?_ ?_ _ ?_ ?_
  .rintro m s' hm ⟨⟨h2,h3,h4,h6,h8,h9,h17,h18,h19,h11,h24,h25,h26⟩,hB,gP,hP1,hP2⟩;have hw2:=zao m (by omega);have hx2:A.ts[m]? =some A.ts[m]:=Z0 hm;have hot:=hok _ (Z1 hm);have hsu:=zup l q nm A o0 m;rw[hx2]at hsu;have nP:¬(s.c=s'.c):=by omega
   have n3:¬(c0=s'.c):=by omega
   have g0:=hB.g0;have hlo':=hB.lo;generalize hTm:A.ts[m]=t at hx2 hot hsu
   by_cases e:t= .var nm
   .subst e;rw[if_pos rfl]at hsu;simp[rW,h2,h3,h4,h6,h8,h9,h17,h18,h19,h11,h24,h25,h26,hm,zbk,hx2,hTm,tmF,gP,nP,n3,g0];refine zcz rfl rfl (eff66 hd l A.r m hl hq (c0:=s'.c+1) (zJu hD (fun x hx=> ?_) (by omega)) (by omega)) ?_
    .have nx:¬(x=s'.c):=by omega
     simp only[rG];simp only[Vse.T.zad,if_neg nx];exact hB.fr x hx
    rintro L H c1 lw1 mx1 ⟨hF1,hG⟩ hcc;simp only[rG]at hF1 hG hcc;have hlow:∀x,x<s'.c->H.get x=s'.h.get x:=fun x hx=>by
     rw[hF1 x (by omega)];have nx:¬(x=s'.c):=by omega
     simp[Vse.T.zad,nx]
    have hlen:=zmr hG;obtain⟨vs,hvs⟩ :∃vs,vs=cAt l A.r m:=⟨_,rfl⟩
    rw[<-hvs]at hG hsu hlen;have hvl:vs.length<=12000:=by
     rw[hvs];have:=zpL A.r m l hq;omega
    simp[rW,hlen];refine zdi vs.length (XM3 h hd dq l q nm c0 n s.c A (smT l q nm A o0 m) m vs L (s'.c+1)) (fun x s''=>x= .exit 4/\XM3 h hd dq l q nm c0 n s.c A (smT l q nm A o0 m) m vs L (s'.c+1) vs.length s'') ?_ ?_ _ ?_ ?_
    .rintro j s2 hj ⟨⟨h2,h3,h4,h6,h8,h9,h17,h18,h19,h11,h24,h25,h26,h39,h40,h41⟩,hB2,gP2,hP3,hP4,hG2,hPl⟩;have hw3:=zao j (by omega);obtain⟨id,ro,hi,hY,hid1,hid2⟩ :=zPp hG2 (n:=j) (by simpa using hj);have hr:(vs.map vD)[j]? =some (vD vs[j]):=by simp[hj]
     have hsv:=zFM q nm (smT l q nm A o0 m) hj;generalize hv:vs[j]=v at hr hsv;have hlo2:=hB2.lo;have g1:=hB2.g1;have g3:=hB2.g3;have n1:¬(c0+1=s2.c):=by omega
     have n3:¬(c0+1+1+1=s2.c):=by omega
     have q1:=fun k=>zaj (k:=k) (ans67 q nm v hqq hnm)
     simp only[cqE,vF]at q1;generalize ho:smV q nm (smT l q nm A o0 m) (vs.take j)=o at*;generalize hx:exc q nm v=x at*;have nP2:¬(s.c=s2.c):=by omega
     cases o with
     |none=>
      cases x with
      |true=>
       have hst:stS q nm none v=none:=by simp[stS,hx]
       simp[rW,h2,h3,h4,h6,h8,h9,h17,h18,h19,h11,h24,h25,h26,h39,h40,h41,hj,hi,hY,hr,vD,g1,g3,n1,n3,q1,bsD,hv];refine⟨?_,?_,?_,hP3,?_,?_,hPl⟩
       .rw[hsv,hst];simp[rW,h2,h3,h4,h6,h8,h9,h17,h18,h19,h11,h24,h25,h26,h39,h40,h41,hw3]
       .rw[hsv,hst];refine hB2.up (fun x hx=> ?_) (by simp[rW,]);have nx:¬(x=s2.c):=by omega
        simp[rW,nx]
       .simp[rW,nP2,gP2]
       .simp[rW,];omega
       .refine zaS hG2 (by simp[rW,]) fun x h1 h2=> ?_
        have nx:¬(x=s2.c):=by omega
        simp[rW,nx]
      |false=>
       have hst:stS q nm none v=some v:=by simp[stS,hx]
       simp[rW,h2,h3,h4,h6,h8,h9,h17,h18,h19,h11,h24,h25,h26,h39,h40,h41,hj,hi,hY,hr,vD,g1,g3,n1,n3,q1,bsD,hv];refine⟨by omega,?_,?_,?_,hP3,?_,?_,hPl⟩
       .rw[hsv,hst];simp[rW,h2,h3,h4,h6,h8,h9,h17,h18,h19,h11,h24,h25,h26,h39,h40,h41,hw3]
       .rw[hsv,hst];have y0:¬(c0=s2.c):=by omega
        have y1:¬(c0=c0+1+1+1):=by omega
        have y2:¬(c0+1=c0+1+1+1):=by omega
        have y3:¬(c0+1+1=s2.c):=by omega
        have y4:¬(c0+1+1=c0+1+1+1):=by omega
        refine⟨?_,?_,?_,?_,?_,fun x hx=> ?_⟩
        .simp[rW,y0,y1,hB2.g0]
        .simp[rW,n1,y2,hB2.g1]
        .simp[rW,y3,y4,hB2.g2]
        .simp[rW,bsD,vD]
        .simp[rW,];omega
        .have z0:¬(x=s2.c):=by omega
         have z1:¬(x=c0+1+1+1):=by omega
         simp[rW,z0,z1];exact hB2.fr x hx
       .have z1:¬(s.c=c0+1+1+1):=by omega
        simp[rW,nP2,gP2,z1]
       .simp[rW,];omega
       .refine zaS hG2 (by simp[rW,]) fun x h1 h2=> ?_
        have nx:¬(x=s2.c):=by omega
        have z1:¬(x=c0+1+1+1):=by omega
        simp[rW,nx,z1]
     |some b=>
      have q2:=fun k=>zaj (k:=k) (zrM v b)
      simp only[vF]at q2
      by_cases hlt:v<b
      .cases x with
       |true=>
        have hst:stS q nm (some b) v=some b:=by simp[stS,hx]
        simp[rW,h2,h3,h4,h6,h8,h9,h17,h18,h19,h11,h24,h25,h26,h39,h40,h41,hj,hi,hY,hr,vD,g1,g3,n1,n3,q1,bsD,hv,q2,zgz,hlt];refine⟨?_,?_,?_,hP3,?_,?_,hPl⟩
        .rw[hsv,hst];simp[rW,h2,h3,h4,h6,h8,h9,h17,h18,h19,h11,h24,h25,h26,h39,h40,h41,hw3]
        .rw[hsv,hst];refine hB2.up (fun x hx=> ?_) (by simp[rW,]);have nx:¬(x=s2.c):=by omega
         simp[rW,nx]
        .simp[rW,nP2,gP2]
        .simp[rW,];omega
        .refine zaS hG2 (by simp[rW,]) fun x h1 h2=> ?_
         have nx:¬(x=s2.c):=by omega
         simp[rW,nx]
       |false=>
        have hst:stS q nm (some b) v=some v:=by simp[stS,hx,hlt]
        simp[rW,h2,h3,h4,h6,h8,h9,h17,h18,h19,h11,h24,h25,h26,h39,h40,h41,hj,hi,hY,hr,vD,g1,g3,n1,n3,q1,bsD,hv,q2,zgz,hlt];refine⟨by omega,?_,?_,?_,hP3,?_,?_,hPl⟩
        .rw[hsv,hst];simp[rW,h2,h3,h4,h6,h8,h9,h17,h18,h19,h11,h24,h25,h26,h39,h40,h41,hw3]
        .rw[hsv,hst];have y0:¬(c0=s2.c):=by omega
         have y1:¬(c0=c0+1+1+1):=by omega
         have y2:¬(c0+1=c0+1+1+1):=by omega
         have y3:¬(c0+1+1=s2.c):=by omega
         have y4:¬(c0+1+1=c0+1+1+1):=by omega
         refine⟨?_,?_,?_,?_,?_,fun x hx=> ?_⟩
         .simp[rW,y0,y1,hB2.g0]
         .simp[rW,n1,y2,hB2.g1]
         .simp[rW,y3,y4,hB2.g2]
         .simp[rW,bsD,vD]
         .simp[rW,];omega
         .have z0:¬(x=s2.c):=by omega
          have z1:¬(x=c0+1+1+1):=by omega
          simp[rW,z0,z1];exact hB2.fr x hx
        .have z1:¬(s.c=c0+1+1+1):=by omega
         simp[rW,nP2,gP2,z1]
        .simp[rW,];omega
        .refine zaS hG2 (by simp[rW,]) fun x h1 h2=> ?_
         have nx:¬(x=s2.c):=by omega
         have z1:¬(x=c0+1+1+1):=by omega
         simp[rW,nx,z1]
      .have hst:stS q nm (some b) v=some b:=by simp[stS,hlt]
       simp[rW,h2,h3,h4,h6,h8,h9,h17,h18,h19,h11,h24,h25,h26,h39,h40,h41,hj,hi,hY,hr,vD,g1,g3,n1,n3,q1,bsD,hv,q2,zgz,hlt];refine⟨?_,?_,?_,hP3,?_,?_,hPl⟩
       .rw[hsv,hst];simp[rW,h2,h3,h4,h6,h8,h9,h17,h18,h19,h11,h24,h25,h26,h39,h40,h41,hw3]
       .rw[hsv,hst];refine hB2.up (fun x hx=> ?_) (by simp[rW,]);have nx:¬(x=s2.c):=by omega
        simp[rW,nx]
       .simp[rW,nP2,gP2]
       .simp[rW,];omega
       .refine zaS hG2 (by simp[rW,]) fun x h1 h2=> ?_
        have nx:¬(x=s2.c):=by omega
        simp[rW,nx]
    .rintro s2 ⟨⟨h2,h3,h4,h6,h8,h9,h17,h18,h19,h11,h24,h25,h26,h39,h40,h41⟩,hB2,gP2,hP3,hP4,hG2,hPl⟩;simp[rW,h2,h3,h4,h6,h8,h9,h17,h18,h19,h11,h24,h25,h26,h39,h40,h41];refine⟨?_,hB2,gP2,hP3,hP4,hG2,hPl⟩;simp[rW,h2,h3,h4,h6,h8,h9,h17,h18,h19,h11,h24,h25,h26,h39,h40,h41]
    .refine⟨?_,?_,?_,hP1,?_,?_,by omega⟩
     .have:smV q nm (smT l q nm A o0 m) (vs.take 0)=smT l q nm A o0 m:=rfl;rw[this];simp[rW,h2,h3,h4,h6,h8,h9,h17,h18,h19,h11,h24,h25,h26]
     .refine hB.up (fun x hx=> ?_) (by simp[rW,];omega);simp[rW,];exact hlow x hx
     .simp[rW,];rw[hlow _ hP2,gP]
     .simp[rW,];omega
     .simp[rW,];exact hG
    .rintro x s2 ⟨rfl,⟨h2,h3,h4,h6,h8,h9,h17,h18,h19,h11,h24,h25,h26,h39,h40,h41⟩,hB2,gP2,hP3,hP4,hG2,hPl⟩;rw[Z7]at hB2 h9;simp[rW,h2,h3,h4,h6,h8,h9,h17,h18,h19,h11,h24,h25,h26,h39,h40,h41,hw2];refine⟨?_,?_,gP2,hP3,hP4⟩
     .rw[hsu];simp[rW,h2,h3,h4,h6,h8,h9,h17,h18,h19,h11,h24,h25,h26,h39,h40,h41,hw2]
     .rw[hsu];exact hB2
   .have hsu':smT l q nm A o0 (m+1)=smT l q nm A o0 m:=by rw[hsu,if_neg (by intro h;exact e (Option.some.inj h))]
    have hne:¬(tv t=nm):=by
     cases t with
     |var v=>exact fun h=>e (by rw[<-h];rfl)
     |cst v=>exact fun h=>hnm h.symm
    simp[rW,h2,h3,h4,h6,h8,h9,h17,h18,h19,h11,h24,h25,h26,hm,zbk,hx2,hTm,zC7,tmD,hne,hw2];refine⟨?_,?_,?_,hP1,?_⟩
    .rw[hsu'];simp[rW,h2,h3,h4,h6,h8,h9,h17,h18,h19,h11,h24,h25,h26,hw2]
    .rw[hsu'];refine hB.up (fun x hx=> ?_) (by simp[rW,]);have nx:¬(x=s'.c):=by omega
     simp[rW,nx]
    .simp[rW,nP,gP]
    .simp[rW,];omega
  .rintro s' ⟨⟨h2,h3,h4,h6,h8,h9,h17,h18,h19,h11,h24,h25,h26⟩,hB,gP,hP1,hP2⟩;simp[rW,h2,h3,h4,h6,h8,h9,h17,h18,h19,h11,h24,h25,h26];refine⟨?_,hB,gP,hP1,hP2⟩;simp[rW,h2,h3,h4,h6,h8,h9,h17,h18,h19,h11,h24,h25,h26]
  .refine⟨?_,?_,?_,by omega,?_⟩
   .have:smT l q nm A o0 0=o0:=rfl;rw[this];simp[rW,h2,h3,h4,h6,h8,h9,h17,h18,h19]
   .refine hB.up (fun x hx=> ?_) (by simp[rW,]);have nx:¬(x=s.c):=by omega
    simp[rW,nx]
   .simp[rW,]
   .simp[rW,]
  .rintro x s' ⟨rfl,⟨h2,h3,h4,h6,h8,h9,h17,h18,h19,h11,h24,h25,h26⟩,hB,gP,hP1,hP2⟩;simp[rW,h2,h3,h4,h6,h8,h9,h17,h18,h19,h11,h24,h25,h26,hw];refine⟨?_,?_⟩
   .rw[hsa];simp[rW,h2,h3,h4,h6,h8,h9,h17,h18,h19,h11,h24,h25,h26,hw]
   .rw[hsa];exact hB
 .rintro s ⟨⟨h2,h3,h4,h6,h8,h9,h17,h18,h19⟩,hB⟩;simp[rW,h2,h3,h4,h6,h8,h9,h17,h18,h19];refine⟨?_,hB⟩;simp[rW,h2,h3,h4,h6,h8,h9,h17,h18,h19]
 .refine⟨?_,?_,?_,?_,?_,?_,fun x hx=> ?_⟩
  .have:smA l q nm (q.as.take 0)=none:=rfl;rw[this];simp[rW,st0,zae]
  .have y1:¬(c0=c0+1+1+1):=by omega
   have y2:¬(c0=c0+1+1):=by omega
   have y3:¬(c0=c0+1):=by omega
   simp[rW,y1,y2,y3]
  .simp[rW,n0,n1]
  .have y1:¬(c0+1+1=c0+1+1+1):=by omega
   simp[rW,y1,bsD]
  .have:smA l q nm (q.as.take 0)=none:=rfl;rw[this];simp[rW,bsD]
  .simp[rW,]
  .have y1:¬(x=c0+1+1+1):=by omega
   have y2:¬(x=c0+1+1):=by omega
   have y3:¬(x=c0+1):=by omega
   have y4:¬(x=c0):=by omega
   simp[rW,y1,y2,y3,y4]
 .rintro x s ⟨rfl,⟨h2,h3,h4,h6,h8,h9,h17,h18,h19⟩,hB⟩;rw[Z7]at hB h9;have g2:=hB.g2;have g3:=hB.g3;have y1:¬(c0+1+1=c0+1+1+1):=by omega
  have hlo:=hB.lo;have hfr:∀e,Frm h (s.h.set (c0+1+1) e) c0:=fun e x hx=>by
   have y:¬x=c0+1+1:=by omega
   simp only[Vse.T.zad,if_neg y];exact hB.fr x hx
  cases ho:smA l q nm q.as<;>(rw[ho]at g3 h9;simp[rW,h2,h3,h4,h6,h8,h9,h17,h18,h19,g2,g3,y1,bsD,vD,zbl];exact⟨by omega,hfr _,fun _ _ _=>rfl⟩)
def zDt{l:List Str}{v s:Str}:s∈zcW l v↔s∈l\/(s=v/\v≠[]):=by
 unfold zcW;split
 .rename_i h;constructor
  .exact .inl
  .rintro (h1|⟨rfl,h2⟩)
   .exact h1
   .rcases h with h|h
    .exact absurd h h2
    .simpa using h
 .rename_i h;have h1:v≠[]:=fun e=>h (.inl e)
  simp[h1]
def zz2{s:Str}(ts:List Trm):∀{l:List Str},s∈zcQ l ts↔s∈l\/(s≠[]/\∃t∈ts,tv t=s):=by
 unfold zcQ
 induction ts with
 |nil=>intro l;simp
 |cons t ts ih=>
  intro l;rw[Z42,ih,zDt];constructor
  .rintro ((h|⟨rfl,h⟩)|⟨h,u,hu,e⟩)
   .exact .inl h
   .exact .inr ⟨h,t,by simp,rfl⟩
   .exact .inr ⟨h,u,by simp[hu],e⟩
  .rintro (h|⟨h,u,hu,e⟩)
   .exact .inl (.inl h)
   .rcases Z5.1 hu with rfl|hu
    .exact .inl (.inr ⟨e.symm,by rw[e];exact h⟩)
    .exact .inr ⟨h,u,hu,e⟩
def zqr{c:CQ}{s:Str}:s∈vrs c↔s≠[]/\.var s∈tsC c:=by
 rw[<-zuF c];have:=zz2 (s:=s) (tsC c) (l:=[]);unfold zcQ at this;rw[this];simp only[List.not_mem_nil,false_or];refine and_congr_right fun h=> ?_
 constructor
 .rintro⟨t,ht,e⟩;cases t with
  |var v=>rw[<-e];exact ht
  |cst v=>exact absurd e.symm h
 .exact fun ht=>⟨_,ht,rfl⟩
def zd6{c:CQ}{t:Trm}:t∈tsC c↔(∃a∈c.as,t∈a.ts)\/∃k∈c.cs,t=k.l\/t=k.r:=by
 simp[tsC,tsA,ts2]
def zph{f:Trm->Trm}{c:CQ}{t:Trm}:t∈tsC (mpC f c)↔∃u∈tsC c,f u=t:=by
 rw[zd6];constructor
 .rintro (⟨a,ha,ht⟩ |⟨k,hk,ht⟩)
  .obtain⟨b,hb,rfl⟩ :=Z12.1 ha;obtain⟨u,hu,rfl⟩ :=Z12.1 ht;exact⟨u,zd6.2 (.inl ⟨b,hb,hu⟩),rfl⟩
  .obtain⟨b,hb,rfl⟩ :=Z12.1 hk;rcases ht with rfl|rfl
   .exact⟨b.l,zd6.2 (.inr ⟨b,hb,.inl rfl⟩),rfl⟩
   .exact⟨b.r,zd6.2 (.inr ⟨b,hb,.inr rfl⟩),rfl⟩
 .rintro⟨u,hu,rfl⟩;rcases zd6.1 hu with⟨a,ha,ht⟩ |⟨k,hk,ht⟩
  .exact .inl ⟨_,Z12.2 ⟨a,ha,rfl⟩,Z12.2 ⟨u,ht,rfl⟩⟩
  .refine .inr ⟨_,Z12.2 ⟨k,hk,rfl⟩,?_⟩;rcases ht with rfl|rfl
   .exact .inl rfl
   .exact .inr rfl
def zQ7{s:Str}{t:Trm}{c:CQ}:tsC (sbC s t c)=tsC (mpC (sbT s t) c):=rfl
def zqo{c:CQ}{i:Nat}{t:Trm}(h:t∈tsC (drp c i)):t∈tsC c:=by
 rcases zd6.1 h with h|⟨k,hk,ht⟩
 .exact zd6.2 (.inl h)
 .exact zd6.2 (.inr ⟨k,(Z4.1 hk).elim Z13 Z21,ht⟩)
def lv(c:CQ):Trm->Bool
 | .var s=>decide (.var s∈tsC c)
 | .cst _=>true
def unc(op:Int)(c:CQ)(p:Trm×Trm):Bool:=lv c p.1&&lv c p.2&& !(c.cs.any (zcY op p.1 p.2))
def cnt(op:Int)(L:List (Trm×Trm))(c:CQ):Nat:=L.countP (unc op c)
def cnt_le{op:Int}{L:List (Trm×Trm)}{c d:CQ}(h:∀p∈L,unc op c p=true->unc op d p=true):cnt op L c<=cnt op L d:=List.countP_mono_left h
theorem zqJ{α:Type}{p q:α->Bool}:∀{L:List α},(∀x∈L,p x=true->q x=true)->∀{y},y∈L->q y=true->p y=false->L.countP p<L.countP q
 |[],_,y,hy,_,_=>by simp at hy
 |a::L,h,y,hy,h1,h2=>by
  have hle:L.countP p<=L.countP q:=List.countP_mono_left fun x hx=>h x (by simp[hx])
  rw[List.countP_cons,List.countP_cons];rcases Z5.1 hy with rfl|hy
  .rw[h1,h2];simp;omega
  .have ih:=zqJ (fun x hx=>h x (by simp[hx])) hy h1 h2;have ha:=h a (by simp);cases hp:p a with
   |true=>rw[ha hp];simp;omega
   |false=>simp;split<;>omega
def cnt_lt{op:Int}{L:List (Trm×Trm)}{c d:CQ}(h:∀p∈L,unc op c p=true->unc op d p=true){p:Trm×Trm}(hp:p∈L)(h1:unc op d p=true)(h2:unc op c p=false):cnt op L c<cnt op L d:=zqJ h hp h1 h2
def zfd{op:Int}{c:CQ}{p:Trm×Trm}:unc op c p=true↔lv c p.1=true/\lv c p.2=true/\c.cs.any (zcY op p.1 p.2)=false:=by
 unfold unc;cases lv c p.1<;>cases lv c p.2<;>cases c.cs.any (zcY op p.1 p.2)<;>simp
def zI9{s:Str}{t:Trm}{c:CQ}(ht:lv c t=true){u:Trm}(h:lv (mpC (sbT s t) c) u=true):lv c u=true/\sbT s t u=u:=by
 cases u with
 |cst n=>exact⟨rfl,by simp[sbT]⟩
 |var v=>
  simp only[lv,decide_eq_true_eq]at h;obtain⟨u,hu,e⟩ :=zph.1 h;unfold sbT at e;split at e
  .subst e;refine⟨ht,?_⟩;unfold sbT;split<;>rfl
  .rename_i hne;subst e;exact⟨by simpa [lv]using hu,by unfold sbT;rw[if_neg hne]⟩
def zKN{op:Int}{a b:Trm}{k:Cm}{f:Trm->Trm}(ha:f a=a)(hb:f b=b)(h:zcY op a b k=true):zcY op a b (mpK f k)=true:=by
 unfold zcY at h|-;simp only[Z14,Bool.or_eq_true,decide_eq_true_eq]at h|-;obtain⟨h1,h2⟩ :=h;refine⟨h1,?_⟩;rcases h2 with⟨e1,e2⟩ |⟨e1,e2⟩
 .exact .inl ⟨by show f k.l=a;rw[e1,ha],by show f k.r=b;rw[e2,hb]⟩
 .exact .inr ⟨by show f k.l=b;rw[e1,hb],by show f k.r=a;rw[e2,ha]⟩
def zOw{op:Int}{a b:Trm}{c:CQ}{f:Trm->Trm}(ha:f a=a)(hb:f b=b)(h:(mpC f c).cs.any (zcY op a b)=false):c.cs.any (zcY op a b)=false:=by
 rw[Bool.eq_false_iff]at h|-;intro h1;obtain⟨k,hk,e⟩ :=Z30.1 h1;exact h (Z30.2 ⟨mpK f k,Z12.2 ⟨k,hk,rfl⟩,zKN ha hb e⟩)
def zDe{op:Int}{s:Str}{t:Trm}{c:CQ}(ht:lv c t=true){p:Trm×Trm}(h:unc op (mpC (sbT s t) c) p=true):unc op c p=true:=by
 obtain⟨h1,h2,h3⟩ :=zfd.1 h;obtain⟨a1,a2⟩ :=zI9 ht h1;obtain⟨b1,b2⟩ :=zI9 ht h2;exact zfd.2 ⟨a1,b1,zOw a2 b2 h3⟩
def zQ8{op:Int}{s:Str}{t:Trm}{c:CQ}(ht:lv c t=true){p:Trm×Trm}(h:unc op (sbC s t c) p=true):unc op c p=true:=zDe (s:=s) ht h
def zBC{c:CQ}{i:Nat}{t:Trm}(h:lv (drp c i) t=true):lv c t=true:=by
 cases t with
 |cst=>rfl
 |var s=>simp only[lv,decide_eq_true_eq]at h|-;exact zqo h
def Gd(p:Trm×Trm):Prop:=p.1≠p.2/\¬∃a b,p=(.cst a,.cst b)
def zKM{op:Int}(ho:op=2\/op=3){p:Trm×Trm}(hp:Gd p){k:Cm}(h:alT k=true):zcY op p.1 p.2 k=false:=by
 obtain⟨a,b⟩ :=p;obtain⟨o,l,r⟩ :=k;rw[Bool.eq_false_iff];intro e;unfold zcY at e;simp only[Z14,Bool.or_eq_true,decide_eq_true_eq]at e;obtain⟨rfl,e⟩ :=e;have hne:a≠b:=hp.1;have hc:¬(∃x y,l= .cst x/\r= .cst y):=by
  rintro⟨x,y,rfl,rfl⟩;rcases e with⟨rfl,rfl⟩ |⟨rfl,rfl⟩
  .exact hp.2 ⟨x,y,rfl⟩
  .exact hp.2 ⟨y,x,rfl⟩
 have hlr:l≠r:=by
  rcases e with⟨rfl,rfl⟩ |⟨rfl,rfl⟩
  .exact hne
  .exact fun e=>hne e.symm
 unfold alT at h;cases l<;>cases r<;>simp_all
def zxi{op:Int}{c:CQ}{i:Nat}(hi:i<c.cs.length){p:Trm×Trm}(hk:zcY op p.1 p.2 c.cs[i]=false)(h:unc op (drp c i) p=true):unc op c p=true:=by
 obtain⟨h1,h2,h3⟩ :=zfd.1 h;refine zfd.2 ⟨zBC h1,zBC h2,?_⟩;have e:c.cs=c.cs.take i++c.cs[i]::c.cs.drop (i+1):=by rw[<-List.drop_eq_getElem_cons hi,List.take_append_drop]
 have h4:(c.cs.take i++c.cs.drop (i+1)).any (zcY op p.1 p.2)=false:=h3;rw[e];rw[List.any_append]at h4|-;rw[List.any_cons,hk];simpa using h4
structure SmK(op:Int)(L:List (Trm×Trm))(c d:CQ):Prop where
 cn:cnt op L d<=cnt op L c
 ln:d.cs.length<=c.cs.length
 ts:∀t∈tsC d,t∈tsC c
def SmK.trans{op:Int}{L:List (Trm×Trm)}{a b c:CQ}(h1:SmK op L a b)(h2:SmK op L b c):SmK op L a c:=⟨Z3 h2.cn h1.cn,Z3 h2.ln h1.ln,fun t ht=>h1.ts t (h2.ts t ht)⟩
def zej{α:Type}{l:List α}{p:α->Bool}{i:Nat}(h:l.findIdx? p=some i):∃hi:i<l.length,p l[i]=true:=by
 obtain⟨h1,h2,-⟩ :=Z26.1 h;exact⟨h1,h2⟩
def zg5{c:CQ}{t:Trm}(h:t∈tsC c):lv c t=true:=by
 cases t with
 |cst=>rfl
 |var s=>simpa [lv]using h
theorem zzs{op:Int}(ho:op=2\/op=3){L:List (Trm×Trm)}(hL:∀p∈L,Gd p){hd:List Str}:∀(n:Nat) (c d:CQ),smp hd n c=some d->SmK op L c d/\d.cs.any alF=false/\d.cs.findIdx? alT=none/\d.cs.findIdx? (eqV hd)=none
 |0,_,_,h=>by cases h
 |n+1,c,d,h=>by
  unfold smp at h;split at h
  .cases h
  rename_i hF;split at h
  .rename_i i hi;obtain⟨h1,h2⟩ :=zej hi;obtain⟨k1,k2⟩ :=zzs ho hL n _ d h;exact⟨SmK.trans ⟨cnt_le fun p hp=>zxi h1 (zKM ho (hL p hp) h2),by rw[ze5 h1];omega,fun t=>zqo⟩ k1,k2⟩
  rename_i hT;split at h
  .rename_i i hi;obtain⟨h1,h2⟩ :=zej hi;obtain⟨k1,k2⟩ :=zzs ho hL n _ d h;refine⟨SmK.trans ?_ k1,k2⟩;have e:c.cs[i]?.getD ⟨0,.cst 0,.cst 0⟩ =c.cs[i]:=by rw[Z0 h1];rfl
   rw[e];have hin:=Z1 h1;have hl:c.cs[i].l∈tsC c:=zd6.2 (.inr ⟨_,hin,.inl rfl⟩);have hr:c.cs[i].r∈tsC c:=zd6.2 (.inr ⟨_,hin,.inr rfl⟩);have key:∀(s:Str) (t:Trm),t∈tsC c->SmK op L c (sbC s t (drp c i)):=by
    intro s t ht;have hcom:sbC s t (drp c i)=drp (sbC s t c) i:=by
     simp[sbC,drp,List.map_take,List.map_drop]
    have h1':i< (sbC s t c).cs.length:=by simpa [sbC]using h1
    have hop:∀a b,zcY op a b (sbC s t c).cs[i]=false:=fun a b=>by
     have e1:(sbC s t c).cs[i]=sbK s t c.cs[i]:=by simp[sbC]
     rw[e1];unfold eqV at h2;simp only[Z14,decide_eq_true_eq]at h2;unfold zcY sbK;have:¬(c.cs[i].op=op):=by omega
     simp[this]
    refine⟨?_,?_,fun u hu=> ?_⟩
    .rw[hcom];exact cnt_le fun p hp h=>zQ8 (zg5 ht) (zxi h1' (hop _ _) h)
    .have:(sbC s t (drp c i)).cs.length=(drp c i).cs.length:=by simp[sbC]
     rw[this,ze5 h1];omega
    .rw[zQ7]at hu;obtain⟨v,hv,e⟩ :=zph.1 hu;unfold sbT at e;split at e
     .rw[<-e];exact ht
     .rw[<-e];exact zqo hv
   unfold elm;split
   .exact key _ _ hl
   .exact key _ _ hr
  .rename_i hE;simp only[Z45]at h;subst h;exact⟨⟨Z2 _,Z2 _,fun t ht=>ht⟩,by simpa using hF,hT,hE⟩
def zQJ{op:Int}(ho:op=2\/op=3){L:List (Trm×Trm)}(hL:∀p∈L,Gd p){hd:List Str}{c d:CQ}(h:zgy hd c=some d):SmK op L c d/\d.cs.any alF=false/\d.cs.findIdx? alT=none/\d.cs.findIdx? (eqV hd)=none:=by
 obtain⟨k,h2⟩ :=zzs ho hL _ (cop c) d h;exact⟨⟨k.cn,k.ln,k.ts⟩,h2⟩
def Smd(hd:List Str)(c:CQ):Prop:=c.cs.any alF=false/\c.cs.findIdx? alT=none/\c.cs.findIdx? (eqV hd)=none/\c.na=false
structure zfJ(op:Int)(L:List (Trm×Trm))(PT:Trm->Prop)(c:CQ):Prop where
 g:CqG c
 t:∀t∈tsC c,PT t
 b:c.cs.length+cnt op L c<=200
def zEo{op:Int}(ho:op=2\/op=3){L:List (Trm×Trm)}(hL:∀p∈L,Gd p){PT:Trm->Prop}{hd:List Str}{c d:CQ}(hc:zfJ op L PT c)(h:zgy hd c=some d):zfJ op L PT d/\Smd hd d/\cnt op L d<=cnt op L c:=by
 obtain⟨k,h1,h2,h3⟩ :=zQJ ho hL h;obtain⟨g,hn⟩ :=zwW hc.g h;exact⟨⟨g,fun t ht=>hc.t t (k.ts t ht),by have:=k.cn;have:=k.ln;have:=hc.b;omega⟩,⟨h1,h2,h3,hn⟩,k.cn⟩
def mu(B:Nat)(op:Int)(L:List (Trm×Trm))(l:List CQ):Nat:=(l.map fun c=>B ^ cnt op L c).sum
theorem ziz{B:Nat}(hB:1<=B){op:Int}(ho:op=2\/op=3){L:List (Trm×Trm)}(hL:∀p∈L,Gd p){PT:Trm->Prop}{hd:List Str}:∀{l:List CQ},(∀c∈l,zfJ op L PT c)->(∀c∈zbu hd l,zfJ op L PT c/\Smd hd c)/\mu B op L (zbu hd l)<=mu B op L l/\(zbu hd l).length<=l.length
 |[],_=>by simp[zbu,mu]
 |a::l,h=>by
  obtain⟨h1,h2,h3⟩ :=ziz hB ho hL (hd:=hd) (l:=l) fun c hc=>h c (by simp[hc])
  unfold zbu mu at*;rw[List.filterMap_cons];cases ha:zgy hd a with
  |none=>exact⟨h1,by simp;omega,by simp;omega⟩
  |some d=>
   obtain⟨k1,k2,k3⟩ :=zEo ho hL (h a (by simp)) ha;have:=Nat.pow_le_pow_right hB k3;refine⟨fun c hc=> ?_,by simp;omega,by simpa using h3⟩;rcases Z5.1 hc with rfl|hc
   .exact⟨k1,k2⟩
   .exact h1 c hc
def rp(l:List CQ)(i:Nat)(L:List CQ):List CQ:=l.take i++L++l.drop (i+1)
def zJv{B:Nat}{op:Int}{L:List (Trm×Trm)}{l M:List CQ}{i:Nat}(hi:i<l.length)(h:mu B op L M<B ^ cnt op L l[i]):mu B op L (rp l i M)<mu B op L l:=by
 have e:l=l.take i++l[i]::l.drop (i+1):=by rw[<-List.drop_eq_getElem_cons hi,List.take_append_drop]
 have e2:mu B op L l=mu B op L (l.take i++l[i]::l.drop (i+1)):=by rw[<-e]
 rw[e2];unfold rp mu at*;simp only[Z20,List.sum_append,Z10,List.sum_cons]at*;omega
inductive RwN (hd:List Str) (stp:List CQ->Option (Nat×List CQ)):Nat->List CQ->Option (List CQ)->Prop
 |big {k l} (hQ:QG hd l) (h:64<l.length):RwN hd stp k l none
 |stop {k l} (hQ:QG hd l) (h:l.length<=64) (hs:stp l=none):RwN hd stp k l (some l)
 |too {k l i L} (hQ:QG hd l) (h:l.length<=64) (hs:stp l=some (i,L)) (hi:i<l.length) (h2:2<=L.length) (h3:L.length<=10) (h4:64< (rp l i L).length):RwN hd stp k l none
 |go {k l i L r} (hQ:QG hd l) (h:l.length<=64) (hs:stp l=some (i,L)) (hi:i<l.length) (h2:2<=L.length) (h3:L.length<=10) (h4:(rp l i L).length<=64) (hG:QG hd (rp l i L)) (hR:RwN hd stp k (zbu hd (rp l i L)) r):RwN hd stp (k+1) l r
def Dcr(B:Nat)(op:Int)(L:List (Trm×Trm))(PT:Trm->Prop)(stp:List CQ->Option (Nat×List CQ)):Prop:=∀l,(∀c∈l,zfJ op L PT c)->∀i M,stp l=some (i,M)->∃hi:i<l.length,2<=M.length/\M.length<=10/\(∀c∈M,zfJ op L PT c)/\mu B op L M<B ^ cnt op L l[i]
def zP8{l M:List CQ}{i:Nat}{c:CQ}(h:c∈rp l i M):c∈l\/c∈M:=by
 unfold rp at h;rcases Z4.1 h with h|h
 .rcases Z4.1 h with h|h
  .exact .inl (Z13 h)
  .exact .inr h
 .exact .inl (Z21 h)
theorem zJA{B:Nat}(hB:1<=B){op:Int}(ho:op=2\/op=3){L:List (Trm×Trm)}(hL:∀p∈L,Gd p){PT:Trm->Prop}{hd:List Str}(hh:hd.length<1000){stp:List CQ->Option (Nat×List CQ)}(hs:Dcr B op L PT stp):
  ∀(k:Nat) (l:List CQ),l.length<=1000->(∀c∈l,zfJ op L PT c/\Smd hd c)->mu B op L l<=k->∃r,RwN hd stp k l r/\∀m,r=some m->(∀c∈m,zfJ op L PT c/\Smd hd c)/\stp m=none/\m.length<=64:=by
 intro k
 induction k with
 |zero=>
  intro l hl hI hm;have hQ:QG hd l:=⟨hh,hl,fun c hc=>(hI c hc).1.g⟩
  by_cases hb:64<l.length
  .exact⟨none,.big hQ hb,by simp⟩
  .cases he:stp l with
   |none=>exact⟨some l,.stop hQ (by omega) he,fun m e=>by cases e;exact⟨hI,he,by omega⟩⟩
   |some p=>
    obtain⟨i,M⟩ :=p;obtain⟨hi,-,-,-,h4⟩ :=hs l (fun c hc=>(hI c hc).1) i M he;have:=zJv hi h4;omega
 |succ k ih=>
  intro l hl hI hm;have hQ:QG hd l:=⟨hh,hl,fun c hc=>(hI c hc).1.g⟩
  by_cases hb:64<l.length
  .exact⟨none,.big hQ hb,by simp⟩
  .cases he:stp l with
   |none=>exact⟨some l,.stop hQ (by omega) he,fun m e=>by cases e;exact⟨hI,he,by omega⟩⟩
   |some p=>
    obtain⟨i,M⟩ :=p;obtain⟨hi,h1,h2,h3,h4⟩ :=hs l (fun c hc=>(hI c hc).1) i M he;have hlt:=zJv hi h4
    by_cases hb2:64< (rp l i M).length
    .exact⟨none,.too hQ (by omega) he hi h1 h2 hb2,by simp⟩
    .have hIr:∀c∈rp l i M,zfJ op L PT c:=fun c hc=>(zP8 hc).elim (fun h=>(hI c h).1) (h3 c)
     obtain⟨k1,k2,k3⟩ :=ziz hB ho hL (hd:=hd) hIr;obtain⟨r,hr,hr2⟩ :=ih (zbu hd (rp l i M)) (by omega) k1 (by omega);exact⟨r,.go hQ (by omega) he hi h1 h2 (by omega) ⟨hh,by omega,fun c hc=>(hIr c hc).g⟩ hr,hr2⟩
def stN(hd:List Str)(l:List CQ)(c:CQ)(s:Str):Option (Str×Int):=if hd.any (· ==s)then none else(smA l c s c.as).map fun v=>(s,v)
def stQ(hd:List Str)(l:List CQ)(c:CQ):Option (Str×Int):=(vrs c).findSome? (stN hd l c)
def shS(hd:List Str)(l:List CQ):Option (Nat×List CQ):=match l.findIdx? fun c=>(stQ hd l c).isSome with
 |some i=>match l[i]? with
  |some c=>(stQ hd l c).map fun p=>(i,spl c p.1 p.2)
  |none=>none
 |none=>none
def fn32:pr.fn 32=some g32:=by kernel_rfl
def zpy{l:List Str}{v:Str}(hl:∀s∈l,s≠[]):∀s∈zcW l v,s≠[]:=by
 unfold zcW;split
 .exact hl
 .rename_i h;intro s hs;rcases Z4.1 hs with h1|h1
  .exact hl s h1
  .have:s=v:=by simpa using h1
   subst this;intro e;exact h (by simp[e])
def StP(o:Option (Nat×List CQ))(h:T Ob)(c:Nat)(d:D)(h':T Ob)(c':Nat):Prop:=Frm h h' c/\match o with
 |none=>d= .tu [.f (.i .i64 0),.f .nils]
 |some (i,L)=>∃id ex,d= .tu [.f (.i .i64 i),.sl id 0 L.length 2 L.length ex]/\h'.get id=some (.arr 2 0 (fD (L.map cqF)))/\c<=id/\id<c'
def zDx(ts:List Trm):∀{l:List Str},(∀s∈l,s≠[])->∀s∈zcQ l ts,s≠[]:=by
 unfold zcQ
 induction ts with
 |nil=>exact fun h=>h
 |cons t ts ih=>exact fun h=>ih (zpy h)
def zhO(c:CQ):∀s∈vrs c,s≠[]:=by
 have h1:∀(as':List Atm) (l:List Str),(∀s∈l,s≠[])->∀s∈as'.foldl (fun l a=>zcQ l a.ts) l,s≠[]:=by
  intro as'
  induction as' with
  |nil=>exact fun l h=>h
  |cons a as' ih=>exact fun l h=>ih _ (zDx a.ts h)
 have h2:∀(cs:List Cm) (l:List Str),(∀s∈l,s≠[])->∀s∈cs.foldl (fun l k=>zcW (zcW l (tv k.l)) (tv k.r)) l,s≠[]:=by
  intro cs
  induction cs with
  |nil=>exact fun l h=>h
  |cons a cs ih=>exact fun l h=>ih _ (zpy (zpy h))
 exact h2 _ _ (h1 _ _ (by simp))
def zot{α β:Type}{l:List α}{f:α->Option β}{n:Nat}(h:n<l.length)(h1:(f l[n]).isSome=true)(h2:∀m (h':m<n),(f (l[m]'(by omega))).isSome=false):l.findSome? f=f l[n]:=by
 have e:l=l.take n++l[n]::l.drop (n+1):=by
  rw[<-List.drop_eq_getElem_cons h,List.take_append_drop]
 have:(l.take n).findSome? f=none:=by
  rw[List.findSome?_eq_none_iff];intro x hx;obtain⟨m,hm,rfl⟩ :=List.mem_iff_getElem.1 hx;have hm':m<n:=by simp at hm;omega
  rw[List.getElem_take];simpa using h2 m hm'
 have e3:l.findSome? f=(l.take n++l[n]::l.drop (n+1)).findSome? f:=by rw[<-e]
 rw[e3,List.findSome?_append,this];simp only[Option.none_or,List.findSome?_cons];cases hf:f l[n]with
 |none=>rw[hf]at h1;cases h1
 |some x=>rfl
def zrV{α β:Type}{l:List α}{f:α->Option β}(h:∀a∈l,(f a).isSome=false):l.findSome? f=none:=by
 rw[List.findSome?_eq_none_iff];intro x hx;simpa using h x hx
def XT1(h0:T Ob)(hd:List Str)(dq:D)(l:List CQ)(c0 n:Nat)(s:St):Prop:=(s.tm.get 1=some (.ptr c0 2 0 0)/\s.tm.get 11=some (dq)/\s.tm.get 12=some (.f (.i .i64 l.length))/\s.tm.get 13=some (.f (.i .i64 n)))/\s.h.get c0=some (.arr 2 0 [[.f (zaq hd),dq]])/\c0+1<=s.c/\Frm h0 s.h c0
def XT2(h0:T Ob)(hd:List Str)(dq:D)(l:List CQ)(q:CQ)(c0 n P m:Nat)(s:St):Prop:=(s.tm.get 1=some (.ptr c0 2 0 0)/\s.tm.get 11=some (dq)/\s.tm.get 12=some (.f (.i .i64 l.length))/\s.tm.get 13=some (.f (.i .i64 n))/\s.tm.get 4=some (.f (.i .i64 n))/\s.tm.get 5=some (.ptr P 2 0 0)/\s.tm.get 19=some (.f (zaq (vrs q)))/\s.tm.get 20=some (.f (.i .i64 (vrs q).length))/\s.tm.get 21=some (.f (.i .i64 m)))/\s.h.get c0=some (.arr 2 0 [[.f (zaq hd),dq]])/\s.h.get P=some (.arr 2 0 [[.f (zaB q),.f (zaC q)]])/\c0+1<=P/\P<s.c/\Frm h0 s.h c0
def XTR(h0:T Ob)(c0 n:Nat)(q:CQ)(o:Option (Str×Int))(s:St):Prop:=∃p id ex,o=some p/\(s.tm.get 2=some (.f (.i .i64 n))/\s.tm.get 3=some (.sl id 0 2 2 2 ex))/\s.h.get id=some (.arr 2 0 (fD ((spl q p.1 p.2).map cqF)))/\c0<=id/\id<s.c/\Frm h0 s.h c0
def eff32(hd:List Str)(l:List CQ)(hQ:QG hd l){h:T Ob}{c0:Nat}{dq:D}(hD:QD h c0 dq l):Eff pr 32 [.ag [.f (zaq hd),dq]] h c0 (StP (shS hd l) h c0):=by
  obtain⟨hh,hl,hq⟩ :=hQ;refine zci zbi fn32 ?_;simp only[g32,rU];simp[rW,st0,zae,zkW hD,zo5 hD,zaN];refine zcf l (fun c=>(stQ hd l c).isSome) (XT1 h hd dq l c0) (fun x s=>x= .exit 0/\XT1 h hd dq l c0 l.length s) (fun n y s=>y= .ret/\∃c,l[n]? =some c/\XTR h c0 n c (stQ hd l c) s) ?_ ?_ _ ?_ ?_ ?_
  . rintro n s hn ⟨⟨h1,h11,h12,h13⟩,g0,hlo,hF⟩;have hw:=zao n (by omega);obtain⟨id,rows,hi,hY,hr,hid⟩ :=zzg hD hn;rw[<-hF id hid]at hY;have hqn:=hq _ (Z1 hn);have hln:l[n]? =some l[n]:=Z0 hn;generalize hA:l[n]=A at hr hqn hln;have q1:=fun k=>zaj (k:=k) (zGH A hqn.toCqSm)
    simp only[cqE]at q1;simp[rW,h1,h11,h12,h13,hn,hi,hY,hr,q1,zaN,zbQ];refine zcf (vrs A) (fun s=>(stN hd l A s).isSome) (XT2 h hd dq l A c0 n s.c) (fun x s'=>x= .exit 2/\XT2 h hd dq l A c0 n s.c (vrs A).length s') (fun m y s'=>y= .ret/\∃nm,(vrs A)[m]? =some nm/\XTR h c0 n A (stN hd l A nm) s') ?_ ?_ _ ?_ ?_ ?_
    . rintro m s' hm ⟨⟨h1,h11,h12,h13,h4,h5,h19,h20,h21⟩,g0,gP,hP1,hP2,hF⟩;have hw2:=zao m (by have:=zmM hqn.toCqSm;omega);have hx2:(vrs A)[m]? =some (vrs A)[m]:=Z0 hm;have hnm:=zhO A _ (Z1 hm);generalize hN:(vrs A)[m]=nm at hx2 hnm;have q2:=fun k=>zaj (k:=k) (zxN hd nm (by omega))
      cases hb:hd.any (· ==nm)with
      | true=>
        have hst:stN hd l A nm=none:=by unfold stN;rw[if_pos hb]
        rw[hb]at q2;simp[rW,h1,h11,h12,h13,h4,h5,h19,h20,h21,hm,zf4,hx2,hN,g0,q2,hst,zaN];refine⟨?_,g0,gP,hP1,hP2,hF⟩;simp[rW,h1,h11,h12,h13,h4,h5,h19,h20,h21,hw2]
      | false=>
        have hst:stN hd l A nm=(smA l A nm A.as).map fun v=>(nm,v):=by unfold stN;rw[if_neg (by simp[hb])]
        rw[hb]at q2;simp[rW,h1,h11,h12,h13,h4,h5,h19,h20,h21,hm,zf4,hx2,hN,g0,q2,zaN,gP];refine zcz rfl rfl (eff34 hd l A nm hnm hl hq hqn (c0:=s'.c) (zJu hD (fun x hx=> ?_) (by omega))) ?_
        . simp only[rG];exact hF x hx
        rintro d H c1 lw1 mx1 ⟨hF1,rfl⟩ hcc;simp only[rG]at hF1 hcc;have k0:=hF1 c0 (by omega);have kP:=hF1 s.c (by omega);rw[g0]at k0;rw[gP]at kP;have hF2:Frm h H c0:=fun x hx=>by rw[hF1 x (by omega)];exact hF x hx
        cases ho:smA l A nm A.as with
        | none=>
          have hst2:stN hd l A nm=none:=by rw[hst,ho];rfl
          simp[rW,h1,h11,h12,h13,h4,h5,h19,h20,h21,bsD,hst2,hw2];refine⟨?_,?_,?_,hP1,?_,fun x hx=> ?_⟩
          . simp[rW,h1,h11,h12,h13,h4,h5,h19,h20,h21,hw2]
          . have nx:¬(c0=c1):=by omega
            simp[rW,nx,k0]
          . have nx:¬(s.c=c1):=by omega
            simp[rW,nx,kP]
          . simp[rW,];omega
          . have nx:¬(x=c1):=by omega
            simp[rW,nx];exact hF2 x hx
        | some v=>
          have hst2:stN hd l A nm=some (nm,v):=by rw[hst,ho];rfl
          have nP:¬(s.c=c1):=by omega
          simp[rW,h1,h11,h12,h13,h4,h5,h19,h20,h21,bsD,vD,kP,nP];refine zcz rfl rfl (eff7 A nm v hnm hqn) ?_;rintro d H2 c2 lw2 mx2 ⟨hF3,id2,ex2,rfl,gI,hI1,hI2⟩ hcc2;simp only[rG]at hF3 gI hI1 hI2 hcc2;simp[rW,h1,h11,h12,h13,h4,h5,h19,h20,h21,hst2];refine⟨nm,hx2,(nm,v),id2,ex2,hst2,?_,gI,by omega,by simp[rW,];exact hI2,fun x hx=> ?_⟩
          . simp[rW,h1,h11,h12,h13,h4,h5,h19,h20,h21]
          . simp[rW,];rw[hF3 x (by omega)];have nx:¬(x=c1):=by omega
            simp only[Vse.T.zad,if_neg nx];exact hF2 x hx
    . rintro s' ⟨⟨h1,h11,h12,h13,h4,h5,h19,h20,h21⟩,g0,gP,hP1,hP2,hF⟩;simp[rW,h1,h11,h12,h13,h4,h5,h19,h20,h21];refine⟨?_,g0,gP,hP1,hP2,hF⟩;simp[rW,h1,h11,h12,h13,h4,h5,h19,h20,h21]
    . have nx:¬(c0=s.c):=by omega
      refine⟨?_,?_,?_,hlo,?_,fun x hx=> ?_⟩
      . simp[rW,h1,h11,h12,h13]
      . simp[rW,nx,g0]
      . simp[rW,]
      . simp[rW,]
      . have nx:¬(x=s.c):=by omega
        simp[rW,nx];exact hF x hx
    . rintro hno x s' ⟨rfl,⟨h1,h11,h12,h13,h4,h5,h19,h20,h21⟩,g0,gP,hP1,hP2,hF⟩;have hst:stQ hd l A=none:=zrV hno;simp[rW,h1,h11,h12,h13,h4,h5,h19,h20,h21,hst,hw];refine⟨?_,g0,by simp[rW,];omega,hF⟩;simp[rW,h1,h11,h12,h13,h4,h5,h19,h20,h21,hw]
    . rintro m hm hp hbf y s' ⟨rfl,nm,hnm,hR⟩;have hst:stQ hd l A=stN hd l A nm:=by
        have:=zot hm hp hbf;rw[Z0 hm]at hnm;cases hnm;exact this
      rw[Z0 hm]at hnm;cases hnm;simp[rW,];refine⟨?_,A,hln,by rw[hst];exact hR⟩;rw[hst];exact hp
  . rintro s ⟨⟨h1,h11,h12,h13⟩,g0,hlo,hF⟩;simp[rW,h1,h11,h12,h13];refine⟨?_,g0,hlo,hF⟩;simp[rW,h1,h11,h12,h13]
  . refine⟨?_,?_,?_,fun x hx=> ?_⟩
    . simp[rW,st0,zae]
    . simp[rW,]
    . simp[rW,]
    . have nx:¬(x=c0):=by omega
      simp[rW,nx]
  . rintro hno x s ⟨rfl,⟨h1,h11,h12,h13⟩,g0,hlo,hF⟩;have hst:shS hd l=none:=by
      unfold shS;rw[show(l.findIdx? fun c=>(stQ hd l c).isSome)=none from Z43.2 hno]
    rw[hst];simp[rW,h1,h11,h12,h13,zbl];exact⟨⟨hF,rfl⟩,fun _=>⟨fun _ _=>rfl,rfl⟩⟩
  . rintro n hn hp hbf y s ⟨rfl,q,hqn,p,id,ex,ho,⟨h2,h3⟩,gI,hi1,hi2,hF⟩;have hst:shS hd l=some (n,spl q p.1 p.2):=by
      unfold shS;rw[show(l.findIdx? fun c=>(stQ hd l c).isSome)=some n from Z26.2 ⟨hn,hp,fun j hj=>by simpa using hbf j hj⟩];simp only[hqn,ho,Option.map_some]
    rw[hst];simp[rW,h2,h3,zbl];exact⟨hF,id,ex,rfl,gI,hi1,hi2⟩
end Go.Proofs.YtmnkdfjljkhneaaGreat
end
