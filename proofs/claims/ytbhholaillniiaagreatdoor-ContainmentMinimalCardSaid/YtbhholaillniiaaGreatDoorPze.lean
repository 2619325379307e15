/- query.Validate of positive queries: what is bound, whole. -/
import Derived.Test.YtbhholaillniiaaGreatDoorPzd
import Derived.KernelRfl
import Derived.IntWalk
import Derived.Test.YtbhholaillniiaaGreatDoorPzc
import Derived.Test.YtbhholaillniiaaGreatDoorPp
set_option linter.all false
set_option maxRecDepth 100000
set_option maxHeartbeats 4000000
noncomputable section
section
namespace Go.Proofs.YtbhholaillniiaaGreatDoor
open Go Go.Vse Go.Vse.Sm
def Jb4(hd ms:List Str)(l:List CQ)(k id:Nat)(L:List Str)(j:Nat)(s:St):Prop:=(s.tm.get 1=some (.ptr 0 2 0 0)/\s.tm.get 5=some (.sl id 0 L.length 1 L.length false)/\s.tm.get 11=some (.f (qsF l))/\s.tm.get 12=some (.f (.i .i64 l.length))/\s.tm.get 13=some (.f (.i .i64 k))/\s.tm.get 39=some (.f (zah ms))/\s.tm.get 40=some (.f (.i .i64 ms.length))/\s.tm.get 41=some (.f (.i .i64 j))/\s.h.get 0=some (.arr 2 0 [[.f (zah hd),.f (qsF l)]]))/\0<id/\id<s.c/\∃ro,s.h.get id=some (.arr 1 ro (zeb L))
def bo_l4{hd ms:List Str}{l:List CQ}{k id:Nat}{L:List Str}(hL:L≠[])(hLl:L.length<1000)(hm:∀v∈ms,v∈L)(hml:ms.length<1000){s:St}{Q:Ex->St->Prop}(hJ:Jb4 hd ms l k id L 0 s)(kx:∀s,Jb4 hd ms l k id L ms.length s->Q (.exit 4) s):WL pr zze s Q:=by
 refine zcA ms.length (Jb4 hd ms l k id L) (fun x s=>x= .exit 4/\Jb4 hd ms l k id L ms.length s) ?_ ?_ _ hJ ?_
 .rintro j s hlt ⟨⟨h1,h5,h11,h12,h13,h39,h40,h41,g0⟩,hi0,hi,ro,gi⟩;have hw:=zau j (by omega);have hx:ms[j]? =some ms[j]:=Z0 hlt;have hv:=hm _ (Z1 hlt);generalize hA:ms[j]=v at hx hv;have q1:=fun k=>zad (k:=k) (ans77 L v hLl)
  rw[decide_eq_true hv]at q1;have fz:=zL6 gi hL 10;obtain⟨W,hW1,hW2,hW3,ro',hW4⟩ :=zx0 (c:=s.c) gi hi;have e0:=(hW3 0 (by omega)).trans g0;unfold zze ziD g42;simp only[rU,C.l,C.r,C.b,C.o];simp[rW,h1,h5,h11,h12,h13,h39,h40,h41,hlt,zfz,hx,hA,fz,zcC,zaX,q1,hW1,hW2,hw];exact⟨⟨by simp[rW,h1],by simp[rW,h5],by simp[rW,h11],by simp[rW,h12],by simp[rW,h13],by simp[rW,h39],by simp[rW,h40],by simp[rW],by simp only[rG];exact e0⟩,hi0,by simp only[rG];exact hi,ro',by simp only[rG];exact hW4⟩
 .rintro s ⟨⟨h1,h5,h11,h12,h13,h39,h40,h41,g0⟩,hi0,hi,ro,gi⟩;unfold zze ziD g42;simp only[rU,C.l,C.r,C.b,C.o];simp[rW,h1,h5,h11,h12,h13,h39,h40,h41];exact⟨⟨by simp[rW,h1],by simp[rW,h5],by simp[rW,h11],by simp[rW,h12],by simp[rW,h13],by simp[rW,h39],by simp[rW,h40],by simp[rW,h41],by simp only[rG];exact g0⟩,hi0,by simp only[rG];exact hi,ro,by simp only[rG];exact gi⟩
 .rintro e s ⟨rfl,hJ⟩;exact kx s hJ
def Jb0(hd:List Str)(l:List CQ)(k:Nat)(s:St):Prop:=(s.tm.get 1=some (.ptr 0 2 0 0)/\s.tm.get 11=some (.f (qsF l))/\s.tm.get 12=some (.f (.i .i64 l.length))/\s.tm.get 13=some (.f (.i .i64 k))/\s.h.get 0=some (.arr 2 0 [[.f (zah hd),.f (qsF l)]]))/\0<s.c
def zri(l:List Str):(D.f (zah l)).cells=some [.f (zah l)]:=zcs _ _
def bo_l0{sch:F}{hd:List Str}{l:List (List Str×CQ)}(H:QyV sch hd l)(hne:∀q∈l,q.1≠[]){s:St}{Q:Ex->St->Prop}(hJ:Jb0 hd (l.map (·.2)) 0 s)(kx:∀s,Jb0 hd (l.map (·.2)) l.length s->Q (.exit 0) s):WL pr ziD s Q:=by
  have hn:=H.n;have hhl:hd.length<=6:=by rcases H.h with e|e<;>rw[e]<;>decide
  refine zcA l.length (Jb0 hd (l.map (·.2))) (fun x s=>x= .exit 0/\Jb0 hd (l.map (·.2)) l.length s) ?_ ?_ _ hJ ?_
  . rintro k s hlt ⟨⟨h1,h11,h12,h13,g0⟩,hP⟩;have h12':=h12;rw[Z18]at h12';have hw:=zau k (by omega);have hc:=H.c _ (Z1 hlt);have hq:=hne _ (Z1 hlt);have hx:(l.map (·.2))[k]? =some l[k].2:=by rw[Z36,Z0 hlt];rfl
    generalize hA:l[k]=q at hc hx hq;have q1:=fun k=>zad (k:=k) hc.vr
    have q2:=fun k=>zad (k:=k) hc.cc
    have hnl:=hc.nl;have hal:=hc.al;have n0:¬0=s.c:=by omega
    unfold ziD g42;simp only[rU,C.l,C.r,C.b,C.o];simp[rW,h1,h11,h13,g0,h12',hlt,zgu,hx,hA,cqE,zfZ,zf1,zkJ];refine bo_l2 (l:=l.map (·.2)) (i:=s.c) hc (k:=k) ⟨⟨by simp[rW,h1],by simp[rW],by simp[rW,h11],by simp[rW,h12],by simp[rW,h13],by simp[rW],by simp[rW],by simp[rW],by simp[rW,g0,n0],by simp[rW]⟩,hP,by simp only[rG];omega,.f .nils,[],by simp[rW],.inl ⟨rfl,rfl⟩,by simp,fun n a hn=>absurd hn (by omega)⟩ ?_;rintro s1 ⟨⟨j1,j4,j11,j12,j13,j18,j19,j20,f0,fi⟩,hi0,hi,d,L,j5,hG,hLl,hLm⟩;have hall:∀v∈hd++q.1,v∈L:=fun v hv=>by
      obtain⟨a,ha,hav⟩ :=hc.nb v hv;obtain⟨n,hn',rfl⟩ :=Z101.1 ha;exact hLm n _ hn' (Z0 hn') v hav
    have hL:L≠[]:=fun e=>by
      cases hq1:q.1 with
      |nil=>exact hq hq1
      | cons v t=>
        have:=hall v (by simp[hq1]);rw[e]at this;cases this
    have hSL:zeb L≠[]:=by simpa [zeb]using hL
    rcases hG with⟨_,e⟩ |⟨id,ro,rfl,-,g1,-,g3,g4⟩
    . exact absurd e hSL
    rw[zlL]at j5;rw[cqE]at q1;simp[rW,j1];refine zay ?_;simp[rW,j1,j4,f0,fi,q1,q2,za4,zdw,zri];have nid:¬id=s1.c+1+1+1+1+1:=by omega
    refine bo_l4 (hd:=hd) (l:=l.map (·.2)) (id:=id) (k:=k) hL (by omega) hall (by simp;omega) ⟨⟨by simp[rW,j1],by simp[rW,j5],by simp[rW,j11],by simp[rW,j12],by simp[rW,j13],by simp[rW],by simp[rW,Z16],by simp[rW],by simp[rW,f0]⟩,by omega,by simp only[rG];omega,ro,by simp[rW,g1,nid]⟩ ?_;rintro s2 ⟨⟨i1,i5,i11,i12,i13,i39,i40,i41,e0⟩,-,hc2,-⟩;simp[rW,i13,hw];exact⟨⟨by simp[rW,i1],by simp[rW,i11],by simp[rW,i12],by simp[rW],by simp only[rG];exact e0⟩,by simp only[rG];omega⟩
  . rintro s ⟨⟨h1,h11,h12,h13,g0⟩,hP⟩;have h12':=h12;rw[Z18]at h12';unfold ziD g42;simp only[rU,C.l,C.r,C.b,C.o];simp[rW,h1,h11,h13,g0,h12'];exact⟨⟨by simp[rW,h1],by simp[rW,h11],by simp[rW,h12],by simp[rW,h13],by simp only[rG];exact g0⟩,by simp only[rG];exact hP⟩
  . rintro e s ⟨rfl,hJ⟩;exact kx s hJ
def ans42{sch:F}{hd:List Str}{l:List (List Str×CQ)}(H:QyV sch hd l)(hne:∀q∈l,q.1≠[]):Ans pr 42 [.ag [zah hd,qsF (l.map (·.2))]] (.b true):=by
 refine zcx fn42 ?_;simp only[g42,rU];simp[rW,st0,zal,za4,zd5,zcS,Z18];refine bo_l0 H hne ⟨⟨by simp[rW],by simp[rW],by simp[rW,Z18],by simp[rW],by simp[rW]⟩,by simp only[rG];omega⟩ fun s1 _=> ?_
 simp[rW]
def fn78:pr.fn 78=some g78:=by kernel_rfl
def zgc(ks:List Str):List (F×D):=ks.map fun k=>(.s k,.f (.i .i64 1))
theorem zpp{k:Str}:∀{ks:List Str} {i:Nat},k∉ks->zcY 1 (.s k) (zgc ks) i=some none
 |[],_,_=>rfl
 |p::ks,i,h=>by
  have h1:(k==p)=false:=by simpa using fun e:k=p=>h (by simp[e])
  simp only[zgc,Z10,zcY,zh5,h1];exact zpp (ks:=ks) fun hk=>h (by simp[hk])
theorem znl{k:Str}:∀{ks:List Str} {i:Nat},k∈ks->∃j,zcY 1 (.s k) (zgc ks) i=some (some (i+j,.f (.i .i64 1)))/\(zgc ks).set j (.s k,.f (.i .i64 1))=zgc ks
 |[],_,h=>by simp at h
 |p::ks,i,h=>by
  simp only[zgc,Z10,zcY,zh5];cases h1:(k==p)with
  |true=>
   have e:k=p:=by simpa using h1
   subst e;exact⟨0,rfl,rfl⟩
  |false=>
   have h1:k≠p:=by simpa using h1
   rcases Z5.1 h with e|hk
   .exact absurd e h1
   .obtain⟨j,e1,e2⟩ :=znl (ks:=ks) (i:=i+1) hk;refine⟨j+1,by rw[show i+(j+1)=i+1+j by omega];exact e1,?_⟩;simp only[Z189];exact congrArg _ e2
def zlb:C:=g78.body.r.r.l.r.b.o
def zsr:C:=zlb.r.r.l.b.r.r.r.r.b.o
def Kct(h:T Ob)(c0 Mp:Nat)(s:St):Prop:=c0<=Mp/\Mp<s.c/\(∀id,id<c0->s.h.get id=h.get id)/\∃ks,s.h.get Mp=some (.map (zgc ks))
def zyL(sch:F)(c:CQ)(h:T Ob)(c0 Mp k i9:Nat)(a:Atm)(ce:Bool)(cols:List (List F))(j:Nat)(s:St):Prop:=(s.tm.get 0=some (.f sch)/\s.tm.get 6=some (.mp Mp)/\s.tm.get 9=some (.ptr i9 3 0 0)/\s.tm.get 16=some (.f (zcz c))/\s.tm.get 17=some (.f (.i .i64 c.as.length))/\s.tm.get 18=some (.f (.i .i64 k))/\s.tm.get 37=some (.f (zgd a.ts))/\s.tm.get 38=some (.f (.i .i64 a.ts.length))/\s.tm.get 39=some (.f (.i .i64 j))/\s.h.get i9=some (.arr 3 0 [[.f (.s a.r),.f (.b ce),.f (slc 3 cols)]]))/\Kct h c0 Mp s/\Mp<i9/\i9<s.c
def ct_l2{sch:F}{hd ns:List Str}{c:CQ}{h:T Ob}{c0 Mp k i9:Nat}{a:Atm}{ce:Bool}{cols:List (List F)}(hc:CqV sch hd ns c)(ha:a∈c.as)(hl:cols.length=a.ts.length)(hcol:∀x∈cols,∃s b,x=[F.s s,.i .i64 1,.b b]){s:St}{Q:Ex->St->Prop}(hJ:zyL sch c h c0 Mp k i9 a ce cols 0 s)(kx:∀s,zyL sch c h c0 Mp k i9 a ce cols a.ts.length s->Q (.exit 2) s):WL pr zsr s Q:=by
 have htl:=hc.tl a ha;refine zcA a.ts.length (zyL sch c h c0 Mp k i9 a ce cols) (fun x s=>x= .exit 2/\zyL sch c h c0 Mp k i9 a ce cols a.ts.length s) ?_ ?_ _ hJ ?_
 .rintro j s hlt ⟨⟨h0,h6,h9,h16,h17,h18,h37,h38,h39,g9⟩,⟨hM0,hMc,hf,ks,gM⟩,hM9,h9c⟩;have hw:=zau j (by omega);have hx:a.ts[j]? =some a.ts[j]:=Z0 hlt;have hm:=Z1 hlt;generalize hA:a.ts[j]=t at hx hm;have hy:cols[j]? =some cols[j]:=Z0 (by omega);obtain⟨cn,cb,e⟩ :=hcol _ (Z1 (by omega:j<cols.length));rw[e]at hy;have n9:¬i9=s.c:=by omega
  have nM:¬Mp=s.c:=by omega
  have n9M:¬i9=Mp:=by omega
  have hcd:(slc 3 cols).d= .f (slc 3 cols):=zew ..;have hia:∀n,iaB 3 (.f (slc 3 cols)) n=cols[n]?.map D.fptr:=fun n=>zfh ..
  cases t with
  |cst n=>
   have q0:=hc.ct a ha n hm;simp only[Sm.vF]at q0;have q1:=fun k=>zad (k:=k) q0
   unfold zsr zlb g78;simp only[rU,C.l,C.r,C.b,C.o];simp[rW,h0,h6,h9,h16,h17,h18,h37,h38,h39,g9,hlt,zqo,hx,hA,tmE,tv_c,tk_c,tn_c,n9,nM,hia,hy,q1,hw];exact⟨⟨by simp[rW,h0],by simp[rW,h6],by simp[rW,h9],by simp[rW,h16],by simp[rW,h17],by simp[rW,h18],by simp[rW,h37],by simp[rW,h38],by simp[rW],by simp[rW,g9,n9]⟩,⟨hM0,by simp only[rG];omega,fun id hid=>by
    have n:¬id=s.c:=by omega
    simp[rW,n];exact hf id hid,ks,by simp[rW,gM,nM]⟩,hM9,by simp only[rG];omega⟩
  |var v=>
   have hv:=hc.vn a ha v hm;unfold zsr zlb g78;simp only[rU,C.l,C.r,C.b,C.o]
   by_cases hk:v∈ks
   .obtain⟨jj,f1,f2⟩ :=znl (i:=0) hk;rw[Z25]at f1;simp[rW,h0,h6,h9,h16,h17,h18,h37,h38,h39,g9,hlt,zqo,hx,hA,tmE,tv_v,tk_v,tn_v,n9,nM,hia,hy,gM,f1,f2,hv,hw];exact⟨by omega,⟨by simp[rW,h0],by simp[rW,h6],by simp[rW,h9],by simp[rW,h16],by simp[rW,h17],by simp[rW,h18],by simp[rW,h37],by simp[rW,h38],by simp[rW],by simp[rW,g9,n9,n9M]⟩,⟨hM0,by simp only[rG];omega,fun id hid=>by
     have n:¬id=s.c:=by omega
     have n2:¬id=Mp:=by omega
     simp[rW,n,n2];exact hf id hid,ks,by simp[rW,gM,nM,f2]⟩,hM9,by simp only[rG];omega⟩
   .have f1:=zpp (i:=0) hk;simp[rW,h0,h6,h9,h16,h17,h18,h37,h38,h39,g9,hlt,zqo,hx,hA,tmE,tv_v,tk_v,tn_v,n9,nM,hia,hy,gM,f1,hv,hw];exact⟨by omega,⟨by simp[rW,h0],by simp[rW,h6],by simp[rW,h9],by simp[rW,h16],by simp[rW,h17],by simp[rW,h18],by simp[rW,h37],by simp[rW,h38],by simp[rW],by simp[rW,g9,n9,n9M]⟩,⟨hM0,by simp only[rG];omega,fun id hid=>by
     have n:¬id=s.c:=by omega
     have n2:¬id=Mp:=by omega
     simp[rW,n,n2];exact hf id hid,ks++[v],by simp[rW,gM,nM,zgc]⟩,hM9,by simp only[rG];omega⟩
 .rintro s ⟨⟨h0,h6,h9,h16,h17,h18,h37,h38,h39,g9⟩,⟨hM0,hMc,hf,ks,gM⟩,hM9,h9c⟩;unfold zsr zlb g78;simp only[rU,C.l,C.r,C.b,C.o];simp[rW,h0,h6,h9,h16,h17,h18,h37,h38,h39];exact⟨⟨by simp[rW,h0],by simp[rW,h6],by simp[rW,h9],by simp[rW,h16],by simp[rW,h17],by simp[rW,h18],by simp[rW,h37],by simp[rW,h38],by simp[rW,h39],by simp only[rG];exact g9⟩,⟨hM0,by simp only[rG];exact hMc,fun id hid=>by simp only[rG];exact hf id hid,ks,by simp only[rG];exact gM⟩,hM9,by simp only[rG];exact h9c⟩
 .rintro e s ⟨rfl,hJ⟩;exact kx s hJ
def zyK(sch:F)(c:CQ)(h:T Ob)(c0 Mp k:Nat)(s:St):Prop:=(s.tm.get 0=some (.f sch)/\s.tm.get 6=some (.mp Mp)/\s.tm.get 16=some (.f (zcz c))/\s.tm.get 17=some (.f (.i .i64 c.as.length))/\s.tm.get 18=some (.f (.i .i64 k)))/\Kct h c0 Mp s
def ct_l0{sch:F}{hd ns:List Str}{c:CQ}{h:T Ob}{c0 Mp:Nat}(hs:sch.d= .f sch)(hc:CqV sch hd ns c){s:St}{Q:Ex->St->Prop}(hJ:zyK sch c h c0 Mp 0 s)(kx:∀s,zyK sch c h c0 Mp c.as.length s->Q (.exit 0) s):WL pr zlb s Q:=by
 have hal:=hc.al;refine zcA c.as.length (zyK sch c h c0 Mp) (fun x s=>x= .exit 0/\zyK sch c h c0 Mp c.as.length s) ?_ ?_ _ hJ ?_
 .rintro k s hlt ⟨⟨h0,h6,h16,h17,h18⟩,hM0,hMc,hf,ks,gM⟩;have hw:=zau k (by omega);have hx:c.as[k]? =some c.as[k]:=Z0 hlt;have ha:=Z1 hlt;obtain⟨ce,cols,hfd,hl,hcol⟩ :=hc.fd _ ha;generalize hA:c.as[k]=a at hx ha hfd hl;have q1:=fun k=>zad (k:=k) hfd
  have htd:=zsY a.ts;have hcd:(slc 3 cols).d= .f (slc 3 cols):=zew ..;have hcl:zcp (.f (slc 3 cols))=some cols.length:=zeo ..;have n1:¬s.c=s.c+1:=by omega
  have nM:¬Mp=s.c:=by omega
  have nM':¬Mp=s.c+1:=by omega
  unfold zlb g78;simp only[rU,C.l,C.r,C.b,C.o];simp[rW,h0,h6,h16,h17,h18,hlt,zo2,hx,hA,atE,htd,hcd,q1,hs,n1,zcs,zys,hcl,hl];refine ct_l2 (ce:=ce) (i9:=s.c+1) (k:=k) hc ha hl hcol ⟨⟨by simp[rW,h0],by simp[rW,h6],by simp[rW],by simp[rW,h16],by simp[rW,h17],by simp[rW,h18],by simp[rW],by simp[rW],by simp[rW],by simp[rW]⟩,⟨hM0,by simp only[rG];omega,fun id hid=>by
   have n:¬id=s.c:=by omega
   have n2:¬id=s.c+1:=by omega
   simp[rW,n,n2];exact hf id hid,ks,by simp[rW,gM,nM,nM']⟩,by omega,by simp only[rG];omega⟩ ?_
  rintro s1 ⟨⟨j0,j6,j9,j16,j17,j18,-⟩,hK,-⟩;simp[rW,j18,hw];exact⟨⟨by simp[rW,j0],by simp[rW,j6],by simp[rW,j16],by simp[rW,j17],by simp[rW]⟩,hK.1,by simp only[rG];exact hK.2.1,fun id hid=>by simp only[rG];exact hK.2.2.1 id hid,by simp only[rG];exact hK.2.2.2⟩
 .rintro s ⟨⟨h0,h6,h16,h17,h18⟩,hM0,hMc,hf,ks,gM⟩;unfold zlb g78;simp only[rU,C.l,C.r,C.b,C.o];simp[rW,h0,h6,h16,h17,h18];exact⟨⟨by simp[rW,h0],by simp[rW,h6],by simp[rW,h16],by simp[rW,h17],by simp[rW,h18]⟩,hM0,by simp only[rG];exact hMc,fun id hid=>by simp only[rG];exact hf id hid,ks,by simp only[rG];exact gM⟩
 .rintro e s ⟨rfl,hJ⟩;exact kx s hJ
def CtP(h:T Ob)(c0:Nat)(d:D)(h':T Ob)(c':Nat):Prop:=∃Mp,d= .tu [.mp Mp,.f (.b true)]/\c0<=Mp/\Mp<c'/\(∀id,id<c0->h'.get id=h.get id)/\∃ks,h'.get Mp=some (.map (zgc ks))
def eff78{sch:F}{hd ns:List Str}{c:CQ}{h:T Ob}{c0:Nat}(hs:sch.d= .f sch)(hc:CqV sch hd ns c):Eff pr 78 [.f sch,.ag [.f (zcz c),.f (zcQ c)]] h c0 (CtP h c0):=by
 refine zcm kps fn78 (fun d h' c' ⟨Mp,e,_⟩ hd _=>by rw[e]at hd;cases hd) ?_;have n1:¬c0=c0+1:=by omega
 simp only[g78,rU];simp[rW,st0,zal,zkJ,n1];refine ct_l0 (h:=h) (c0:=c0) (Mp:=c0+1) hs hc ⟨⟨by simp[rW],by simp[rW],by simp[rW],by simp[rW],by simp[rW]⟩,by omega,by simp only[rG];omega,fun id hid=>by
  have n:¬id=c0:=by omega
  have n2:¬id=c0+1:=by omega
  simp[rW,n,n2],[],by simp[rW,zgc]⟩ ?_
 rintro s1 ⟨⟨j0,j6,-⟩,hM0,hMc,hf,ks,gM⟩;simp[rW,j6,zaV];exact⟨_,rfl,by omega,hMc,hf,ks,gM⟩
def fn41:pr.fn 41=some g41:=by kernel_rfl
def fn12:pr.fn 12=some g12:=by kernel_rfl
def fn32:pr.fn 32=some g32:=by kernel_rfl
def zjD:C:=g41.body.r.r.l.r.b.o
def zo3:C:=zjD.r.r.l.b.r.r.r.r.r.b.o
def zyQ(sch:F)(hd:List Str)(l:List CQ)(k Hp Mp j:Nat)(s:St):Prop:=(s.tm.get 0=some (.f sch)/\s.tm.get 3=some (.ptr 0 2 0 0)/\s.tm.get 5=some (.mp Hp)/\s.tm.get 8=some (.mp Mp)/\s.tm.get 16=some (.f (qsF l))/\s.tm.get 17=some (.f (.i .i64 l.length))/\s.tm.get 18=some (.f (.i .i64 k))/\s.tm.get 43=some (.f (zah hd))/\s.tm.get 44=some (.f (.i .i64 hd.length))/\s.tm.get 45=some (.f (.i .i64 j))/\s.h.get 0=some (.arr 2 0 [[.f (zah hd),.f (qsF l)]]))/\0<Hp/\Hp<Mp/\Mp<s.c/\(∃ks,s.h.get Hp=some (.map (zgc ks)))/\∃ks,s.h.get Mp=some (.map (zgc ks))
def vt_l4{sch:F}{hd:List Str}{l:List CQ}{k Hp Mp:Nat}(hhl:hd.length<=6){s:St}{Q:Ex->St->Prop}(hJ:zyQ sch hd l k Hp Mp 0 s)(kx:∀s,zyQ sch hd l k Hp Mp hd.length s->Q (.exit 4) s):WL pr zo3 s Q:=by
 refine zcA hd.length (zyQ sch hd l k Hp Mp) (fun x s=>x= .exit 4/\zyQ sch hd l k Hp Mp hd.length s) ?_ ?_ _ hJ ?_
 .rintro j s hlt ⟨⟨h0,h3,h5,h8,h16,h17,h18,h43,h44,h45,g0⟩,hH0,hHM,hMc,⟨k1,gH⟩,k2,gM⟩;have hw:=zau j (by omega);have hx:hd[j]? =some hd[j]:=Z0 hlt;generalize hA:hd[j]=v at hx;have nHM:¬Mp=Hp:=by omega
  have n0:¬0=Hp:=by omega
  by_cases m2:v∈k2
  .obtain⟨j2,f2,e2⟩ :=znl (i:=0) m2
   by_cases m1:v∈k1
   .obtain⟨j1,f1,e1⟩ :=znl (i:=0) m1;rw[Z25]at f1;unfold zo3 zjD g41;simp only[rU,C.l,C.r,C.b,C.o];simp[rW,h0,h3,h5,h8,h16,h17,h18,h43,h44,h45,g0,hlt,zfz,hx,hA,gH,gM,f1,f2,e1,hw];exact⟨by omega,⟨by simp[rW,h0],by simp[rW,h3],by simp[rW,h5],by simp[rW,h8],by simp[rW,h16],by simp[rW,h17],by simp[rW,h18],by simp[rW,h43],by simp[rW,h44],by simp[rW],by simp[rW,g0,n0]⟩,hH0,hHM,by simp only[rG];exact hMc,⟨k1,by simp[rW,e1]⟩,k2,by simp[rW,gM,nHM]⟩
   .have f1:=zpp (i:=0) m1;unfold zo3 zjD g41;simp only[rU,C.l,C.r,C.b,C.o];simp[rW,h0,h3,h5,h8,h16,h17,h18,h43,h44,h45,g0,hlt,zfz,hx,hA,gH,gM,f1,f2,hw];exact⟨by omega,⟨by simp[rW,h0],by simp[rW,h3],by simp[rW,h5],by simp[rW,h8],by simp[rW,h16],by simp[rW,h17],by simp[rW,h18],by simp[rW,h43],by simp[rW,h44],by simp[rW],by simp[rW,g0,n0]⟩,hH0,hHM,by simp only[rG];exact hMc,⟨k1++[v],by simp[rW,zgc]⟩,k2,by simp[rW,gM,nHM]⟩
  .have f2:=zpp (i:=0) m2;unfold zo3 zjD g41;simp only[rU,C.l,C.r,C.b,C.o];simp[rW,h0,h3,h5,h8,h16,h17,h18,h43,h44,h45,g0,hlt,zfz,hx,hA,gM,f2,hw];exact⟨⟨by simp[rW,h0],by simp[rW,h3],by simp[rW,h5],by simp[rW,h8],by simp[rW,h16],by simp[rW,h17],by simp[rW,h18],by simp[rW,h43],by simp[rW,h44],by simp[rW],by simp only[rG];exact g0⟩,hH0,hHM,by simp only[rG];exact hMc,⟨k1,by simp only[rG];exact gH⟩,k2,by simp only[rG];exact gM⟩
 .rintro s ⟨⟨h0,h3,h5,h8,h16,h17,h18,h43,h44,h45,g0⟩,hH0,hHM,hMc,⟨k1,gH⟩,k2,gM⟩;unfold zo3 zjD g41;simp only[rU,C.l,C.r,C.b,C.o];simp[rW,h0,h3,h5,h8,h16,h17,h18,h43,h44,h45];exact⟨⟨by simp[rW,h0],by simp[rW,h3],by simp[rW,h5],by simp[rW,h8],by simp[rW,h16],by simp[rW,h17],by simp[rW,h18],by simp[rW,h43],by simp[rW,h44],by simp[rW,h45],by simp only[rG];exact g0⟩,hH0,hHM,by simp only[rG];exact hMc,⟨k1,by simp only[rG];exact gH⟩,k2,by simp only[rG];exact gM⟩
 .rintro e s ⟨rfl,hJ⟩;exact kx s hJ
def zyP(sch:F)(hd:List Str)(l:List CQ)(Hp k:Nat)(s:St):Prop:=(s.tm.get 0=some (.f sch)/\s.tm.get 3=some (.ptr 0 2 0 0)/\s.tm.get 5=some (.mp Hp)/\s.tm.get 16=some (.f (qsF l))/\s.tm.get 17=some (.f (.i .i64 l.length))/\s.tm.get 18=some (.f (.i .i64 k))/\s.h.get 0=some (.arr 2 0 [[.f (zah hd),.f (qsF l)]]))/\0<Hp/\Hp<s.c/\∃ks,s.h.get Hp=some (.map (zgc ks))
def vt_l0{sch:F}{hd:List Str}{l:List (List Str×CQ)}{Hp:Nat}(H:QyV sch hd l){s:St}{Q:Ex->St->Prop}(hJ:zyP sch hd (l.map (·.2)) Hp 0 s)(kx:∀s,zyP sch hd (l.map (·.2)) Hp l.length s->Q (.exit 0) s):WL pr zjD s Q:=by
  have hn:=H.n;have hhl:hd.length<=6:=by rcases H.h with e|e<;>rw[e]<;>decide
  refine zcA l.length (zyP sch hd (l.map (·.2)) Hp) (fun x s=>x= .exit 0/\zyP sch hd (l.map (·.2)) Hp l.length s) ?_ ?_ _ hJ ?_
  . rintro k s hlt ⟨⟨h0,h3,h5,h16,h17,h18,g0⟩,hH0,hHc,ks,gH⟩;have h17':=h17;rw[Z18]at h17';have hw:=zau k (by omega);have hc:=H.c _ (Z1 hlt);have hx:(l.map (·.2))[k]? =some l[k].2:=by rw[Z36,Z0 hlt];rfl
    generalize hA:l[k]=q at hc hx;have n0:¬0=s.c:=by omega
    have nH:¬Hp=s.c:=by omega
    have hck:=hc.k;unfold zjD g41;simp only[rU,C.l,C.r,C.b,C.o];simp[rW,h0,h3,h5,h16,h18,g0,h17',hlt,zgu,hx,hA,cqE,zfZ,zf1];refine zbO [(0,.f sch),(3,.ptr 0 2 0 0),(5,.mp Hp),(7,.ptr s.c 2 0 0),(16,.f (qsF (l.map (·.2)))),(17,.f (.i .i64 l.length)),(18,.f (.i .i64 k))] (eff78 (h:=(s.h.set s.c (.arr 2 0 [[.f .nils,.f .nils]])).set s.c (.arr 2 0 [[.f (zcz q.2),.f (zcQ q.2)]])) (c0:=s.c+1) H.s hc) (by simp only[rG]) (by simp only[rG]) (by simp only[Rg];simp[rW,h0,h3,h5,h16,h18,h17']) rfl ?_;rintro s1 d1 ⟨Mp,rfl,hM0,hMc,hf,k2,gM⟩ hc1 j25 ⟨j0,j3,j5,j7,j16,j17,j18,-⟩;have f0:s1.h.get 0=some (.arr 2 0 [[.f (zah hd),.f (qsF (l.map (·.2)))]]):=by rw[hf 0 (by omega)];simp[rW,g0,n0]
    have fH:s1.h.get Hp=some (.map (zgc ks)):=by rw[hf Hp (by omega)];simp[rW,gH,nH]
    have f7:s1.h.get s.c=some (.arr 2 0 [[.f (zcz q.2),.f (zcQ q.2)]]):=by rw[hf s.c (by omega)];simp[rW]
    refine⟨?_⟩;simp[rW,j7,j25,f7,zqN,hck];refine round ?_;simp[rW,j3,f0,zdw];refine vt_l4 (sch:=sch) (hd:=hd) (l:=l.map (·.2)) (Hp:=Hp) (Mp:=Mp) (k:=k) hhl ⟨⟨by simp[rW,j0],by simp[rW,j3],by simp[rW,j5],by simp[rW],by simp[rW,j16],by simp[rW,j17,Z18],by simp[rW,j18],by simp[rW],by simp[rW],by simp[rW],by simp only[rG];exact f0⟩,hH0,by omega,by simp only[rG];exact hMc,⟨ks,by simp only[rG];exact fH⟩,k2,by simp only[rG];exact gM⟩ ?_;rintro s2 ⟨⟨i0,i3,i5,i8,i16,i17,i18,-,-,-,e0⟩,-,-,hc2,⟨k3,eH⟩,-⟩;simp[rW,i18,hw];exact⟨⟨by simp[rW,i0],by simp[rW,i3],by simp[rW,i5],by simp[rW,i16],by simp[rW,i17],by simp[rW],by simp only[rG];exact e0⟩,hH0,by simp only[rG];omega,k3,by simp only[rG];exact eH⟩
  . rintro s ⟨⟨h0,h3,h5,h16,h17,h18,g0⟩,hH0,hHc,ks,gH⟩;have h17':=h17;rw[Z18]at h17';unfold zjD g41;simp only[rU,C.l,C.r,C.b,C.o];simp[rW,h0,h3,h5,h16,h18,h17'];exact⟨⟨by simp[rW,h0],by simp[rW,h3],by simp[rW,h5],by simp[rW,h16],by simp[rW,h17],by simp[rW,h18],by simp only[rG];exact g0⟩,hH0,by simp only[rG];exact hHc,ks,by simp only[rG];exact gH⟩
  . rintro e s ⟨rfl,hJ⟩;exact kx s hJ
def ans41{sch:F}{hd:List Str}{l:List (List Str×CQ)}(H:QyV sch hd l):Ans pr 41 [sch,.ag [zah hd,qsF (l.map (·.2))]] (.b true):=by
 have hs:=H.s;refine zcx fn41 ?_;simp only[g41,rU];simp[rW,st0,zal,hs,za4,zd5,zcS,Z18];refine vt_l0 (Hp:=1) H ⟨⟨by simp[rW,hs],by simp[rW],by simp[rW],by simp[rW],by simp[rW,Z18],by simp[rW],by simp[rW]⟩,by omega,by simp only[rG];omega,[],by simp[rW,zgc]⟩ fun s1 _=> ?_
 simp[rW]
def zGK{sch:F}{hd:List Str}{l:List (List Str×CQ)}(H:QyV sch hd l)(hne:∀q∈l,q.1≠[])(hsc:Ans pr 38 [sch] (.b true)):Ans pr 12 [sch,.ag [zah hd,qsF (l.map (·.2))]] (.i .i64 0):=by
 have hs:=H.s;have q1:=fun k=>zad (k:=k) hsc
 have q2:=fun k=>zad (k:=k) (ans39 H)
 have q3:=fun k=>zad (k:=k) (ans40 H)
 have q4:=fun k=>zad (k:=k) (ans41 H)
 have q5:=fun k=>zad (k:=k) (ans42 H hne)
 refine zcx fn12 ?_;simp only[g12,rU];simp[rW,st0,zal,hs,za4,zd5,q1,q2,q3,q4,q5]
def JV32(L:List Rl)(q0 q1:F)(k:Nat)(s:St):Prop:=(s.tm.get 0=some (.f (zbS L))/\s.tm.get 3=some (.ptr 0 2 0 0)/\s.tm.get 7=some (.f (zbS L))/\s.tm.get 8=some (.f (.i .i64 L.length))/\s.tm.get 9=some (.f (.i .i64 k))/\s.h.get 0=some (.arr 2 0 [[.f q0,.f q1]]))/\0<s.c
def ans32{L:List Rl}{sch q0 q1:F}{e:Int}(hn:L.length<=8)(hco:∀r∈L,r.co.d= .f r.co/\(D.f r.co).cells=some [.f r.co])(hV:∀r∈L,Ans pr 62 [.ag (rlF r)] (.i .i64 0))(hsp:Ans pr 63 [zbS L] sch)(hsd:sch.d= .f sch)(h0:q0.d= .f q0)(h1:q1.d= .f q1)(hq:Ans pr 12 [sch,.ag [q0,q1]] (.i .i64 e)):Ans pr 32 [zbS L,.ag [q0,q1]] (.b (e==0)):=by
 have q1':=fun k=>zad (k:=k) hq
 have q2':=fun k=>zad (k:=k) hsp
 refine zcx fn32 ?_;simp only[g32,rU];simp[rW,st0,zal,zlH,zra,h0,h1];refine zcA L.length (JV32 L q0 q1) (fun x s=>x= .exit 0/\JV32 L q0 q1 L.length s) ?_ ?_ _ ⟨⟨by simp[rW],by simp[rW],by simp[rW],by simp[rW],by simp[rW],by simp[rW]⟩,by simp only[rG];omega⟩ ?_
 .rintro k s hlt ⟨⟨h0,h3,h7,h8,h9,gP⟩,hPc⟩;have hw:=zau k (by omega);have hx:L[k]? =some L[k]:=Z0 hlt;have hrm:=Z1 hlt;generalize hA:L[k]=r at hx hrm;obtain⟨hc1,hc2⟩ :=hco r hrm;have hd:(zbB r.tu).d= .f (zbB r.tu):=znD _;have hc3:(D.f (zbB r.tu)).cells=some [.f (zbB r.tu)]:=zcs _ _;have hva:=hV r hrm;rw[rlE]at hva;have q3:=fun k=>zad (k:=k) hva
  have n1:¬0=s.c:=by omega
  simp[rW,h0,h3,h7,h8,h9,hlt,zmR,hx,hA,rlE,hc2,hc1,hd,hc3,q3,hw];exact⟨⟨by simp[rW,h0],by simp[rW,h3],by simp[rW,h7],by simp[rW,h8],by simp[rW],by simp[rW,gP,n1]⟩,by simp only[rG];omega⟩
 .rintro s ⟨⟨h0,h3,h7,h8,h9,gP⟩,hPc⟩;simp[rW,h0,h3,h7,h8,h9];exact⟨⟨by simp[rW,h0],by simp[rW,h3],by simp[rW,h7],by simp[rW,h8],by simp[rW,h9],by simp[rW,gP]⟩,by simp only[rG];omega⟩
 .rintro x s ⟨rfl,⟨h0,h3,h7,h8,h9,gP⟩,hPc⟩;simp[rW,h0,h3,h7,h8,h9];refine zay ?_;simp[rW,h0,h3,h7,h8,h9,gP,q2',q1',hsd,zlH]
def tmB(ns:List Str):Trm->Bool
 | .var s=>!decide (s=[])&&decide (s∈ns)
 | .cst n=>decide (n∈([1,2,3]:List Int))
def arB(r:Str)(n:Nat):Bool:=(decide (r=[82])&&decide (n=2))||((decide (r=[83])&&decide (n=1))||((decide (r=[75])&&decide (n=2))||(decide (r=[67])&&decide (n=2))))
def cqB1(t:Tr):Bool:=t.1.cs.isEmpty&&(!t.1.as.isEmpty&&(decide (t.1.as.length<=3)&&((t.1.as.all fun a=>!a.neg&&(arB a.r a.ts.length&&a.ts.all (tmB t.2)))&&((decide (t.2=[[120]])||(decide (t.2=[[120],[121]])||(decide (t.2=[[120],[121],[122]])||decide (t.2=[[122],[121]]))))&&t.2.all fun s=>t.1.as.any fun a=>decide (Trm.var s∈a.ts)))))
def tbB:(TB.all fun t=>cqB1 t)=true:=by kernel_rfl
structure RlT(nm:Str)(n:Nat)(r:Rl):Prop where
 nm:r.nm=nm
 co:r.co.d= .f r.co/\(D.f r.co).cells=some [.f r.co]
 l:r.tu.length<=3
 t:∀t∈r.tu,t.1.length=n/\∀z∈t.1,z∈VzL
 s:Srt r.tu
structure LsT(L:List Rl):Prop where
 x:∃a b c d,L=[a,b,c,d]/\RlT [82] 2 a/\RlT [83] 1 b/\RlT [75] 2 c/\RlT [67] 2 d
structure CqT(t:Tr):Prop where
 k:t.1.cs=[]
 ne:t.1.as≠[]
 l:t.1.as.length<=3
 a:∀a∈t.1.as,a.neg=false/\arB a.r a.ts.length=true/\∀u∈a.ts,tmB t.2 u=true
 n:t.2=[[120]]\/t.2=[[120],[121]]\/t.2=[[120],[121],[122]]\/t.2=[[122],[121]]
 b:∀s∈t.2,∃a∈t.1.as,Trm.var s∈a.ts
def tbC{t:Tr}(ht:t∈TB):CqT t:=by
 have h:=Z50.1 tbB t ht;simp only[cqB1,Z14,Z86,Z50,Z115,Z30,Z80,List.isEmpty_iff,List.isEmpty_eq_false_iff]at h;obtain⟨h1,h2,h3,h4,h5,h6⟩ :=h;exact⟨h1,h2,h3,h4,h5,h6⟩
def LsT.all{L:List Rl}(H:LsT L):∀r∈L,∃nm n,RlT nm n r:=by
 obtain⟨a,b,c,d,rfl,h1,h2,h3,h4⟩ :=H;intro r hr;simp only[Z5,Z164,or_false]at hr;rcases hr with rfl|rfl|rfl|rfl
 .exact⟨_,_,h1⟩
 .exact⟨_,_,h2⟩
 .exact⟨_,_,h3⟩
 .exact⟨_,_,h4⟩
def LsT.len{L:List Rl}(H:LsT L):L.length=4:=by
 obtain⟨a,b,c,d,rfl,-⟩ :=H;rfl
def LsT.lr{L:List Rl}(H:LsT L):LR L:=⟨by rw[H.len];decide,fun r hr=>(H.all r hr).elim fun _ ⟨_,h⟩ =>h.l,fun r hr=>(H.all r hr).elim fun _ ⟨_,h⟩ =>h.co⟩
def LsT.ro{L:List Rl}(H:LsT L):zjZ L:=⟨by rw[H.len];decide,H.lr.o,fun r hr=>by
 obtain⟨_,_,h⟩ :=H.all r hr;exact⟨h.l,fun t ht=>by
  have e:=(h.t t ht).1;have:t.1.length<=999:=by
   obtain⟨a,b,c,d,rfl,h1,h2,h3,h4⟩ :=H;simp only[Z5,Z164,or_false]at hr;rcases hr with rfl|rfl|rfl|rfl
   .have:=(h1.t t ht).1;omega
   .have:=(h2.t t ht).1;omega
   .have:=(h3.t t ht).1;omega
   .have:=(h4.t t ht).1;omega
  omega,h.s⟩⟩
def LsT.at{L:List Rl}(H:LsT L){r:Str}{n:Nat}(h:arB r n=true):∃q,L[riN L r]? =some q/\RlT r n q/\q∈L:=by
 obtain⟨a,b,c,d,rfl,h1,h2,h3,h4⟩ :=H;have e1:=h1.nm;have e2:=h2.nm;have e3:=h3.nm;have e4:=h4.nm;simp only[arB,Z115,Z14,Z86]at h;rcases h with⟨rfl,rfl⟩ |⟨rfl,rfl⟩ |⟨rfl,rfl⟩ |⟨rfl,rfl⟩
 .exact⟨a,by simp[riN,List.findIdx_cons,e1],h1,by simp⟩
 .exact⟨b,by simp[riN,List.findIdx_cons,e1,e2],h2,by simp⟩
 .exact⟨c,by simp[riN,List.findIdx_cons,e1,e2,e3],h3,by simp⟩
 .exact⟨d,by simp[riN,List.findIdx_cons,e1,e2,e3,e4],h4,by simp⟩
def tm_in{ns:List Str}{u:Trm}(h:tmB ns u=true):ziq ns u:=by
 cases u with
 |cst n=>trivial
 |var s=>simpa [tmB,ziq]using h
def ztm{r:Str}{n:Nat}(h:arB r n=true):n=1\/n=2:=by
 simp only[arB,Z115,Z14,Z86]at h;omega
def CqT.nl{t:Tr}(H:CqT t):t.2.length<=3/\t.2.Nodup/\t.2≠[]:=by
 rcases H.n with e|e|e|e<;>rw[e]<;>decide
def CqT.inn{t:Tr}(H:CqT t){L:List Rl}(HL:LsT L):zlX L t.2 t.1:=by
 refine⟨fun a ha=> ?_,fun a ha u hu=>tm_in ((H.a a ha).2.2 u hu),fun a ha e=> ?_,fun a ha=> ?_,by have:=H.l;omega,(fun k hk=>by rw[H.k]at hk;cases hk),by rw[H.k];decide⟩
 .obtain⟨q,_,h2,h3⟩ :=HL.at (H.a a ha).2.1;exact⟨q,h3,h2.nm⟩
 .have:=ztm (H.a a ha).2.1;rw[e]at this;simp at this
 .have:=ztm (H.a a ha).2.1;omega
def CqT.ok{t:Tr}(H:CqT t){L:List Rl}(HL:LsT L):zk5 L t.2 t.1:=by
 refine⟨H.inn HL,by have:=H.nl.1;omega,fun a ha r hr tu htu=> ?_,?_,fun k hk=>by rw[H.k]at hk;cases hk⟩
 .obtain⟨q,h1,h2,_⟩ :=HL.at (H.a a ha).2.1;rw[h1]at hr;cases hr;exact (h2.t tu htu).1
 .have:=Z76 (fun a:Atm=>!a.neg) t.1.as;have:=H.l;omega
def CqT.bb{t:Tr}(H:CqT t):CqB t.2 t.1:=⟨H.nl.2.1,fun s hs=>by
 obtain⟨a,ha,h⟩ :=H.b s hs;exact⟨a,ha,(H.a a ha).1,h⟩⟩
def CqT.pos{t:Tr}(H:CqT t):zs9 t.1:=⟨H.k,fun a ha=>(H.a a ha).1⟩
def sc_of{r:Str}{n:Nat}(h:arB r n=true):ScR r n:=by
 simp only[arB,Z115,Z14,Z86]at h;rcases h with⟨rfl,rfl⟩ |⟨rfl,rfl⟩ |⟨rfl,rfl⟩ |⟨rfl,rfl⟩
 .exact scR
 .exact scS
 .exact scK
 .exact scC
def CqT.vv{t:Tr}(H:CqT t)(B:Bun t){b:Bool}(hx:∀s∈hdC b,s∈t.2):CqV zjr (hdC b) t.2 t.1:=by
 refine⟨H.k,by have:=H.l;omega,by have:=H.nl.1;omega,B.vr,fun s hs=>nmA s ?_,fun a ha=> ?_,fun a ha=>(H.a a ha).1,fun a ha n hn=> ?_,fun a ha=>by have:=ztm (H.a a ha).2.1;omega,fun a ha=>B.bd a ha,fun s hs=> ?_,?_,fun a ha s hs=> ?_⟩
 .rcases H.n with e|e|e|e<;>rw[e]at hs<;>simp only[Z5,Z164,or_false]at hs|- <;>first|exact .inl hs|exact hs.elim .inl fun h=> .inr (.inl h)|exact hs.elim (fun h=> .inr (.inr h)) fun h=> .inr (.inl h)|exact hs
 .obtain⟨ce,cols,h1,h2,h3⟩ :=(sc_of (H.a a ha).2.1).q;exact⟨ce,cols,h1,h2,h3⟩
 .have:=(H.a a ha).2.2 _ hn;exact csA n (by simpa [tmB]using this)
 .rcases Z4.1 hs with hs|hs
  .exact H.b s (hx s hs)
  .exact H.b s hs
 .cases b with
  |false=>exact B.c0
  |true=>exact B.c1 (hx _ (by simp[hdC]))
 .have:=(H.a a ha).2.2 _ hs;simp only[tmB,Z14,Z80,Z65]at this;exact this.1
theorem zOW{n:Nat}(hn:n<=1):zi0 (Vr (· ∈VzL) n) keyR where
  a v hv:=by
    obtain⟨hl,hz⟩ :=hv
    match v,hl,hz with
    |[],_,_=>exact⟨_,keN,fun h c=>rfl⟩
    | [z],_,hz=>
      refine⟨_,keA z (hz z (by simp)),fun h c=> ?_⟩;have h1:=hz z (by simp);simp only[VzL,Z5,Z164,or_false]at h1;rcases h1 with rfl|rfl|rfl<;>rfl
    |_::_::_,h,_=>exact absurd h (by simp only[Z23];omega)
  i u v hu hv e:=by
    obtain⟨hl,hz⟩ :=hu;obtain⟨hl',hz'⟩ :=hv
    match u,v,hl,hl',hz,hz' with
    |[],[],_,_,_,_=>rfl
    | [a],[b],_,_,hz,hz'=>
      have h1:=hz a (by simp);have h2:=hz' b (by simp);simp only[VzL,Z5,Z164,or_false]at h1 h2;rcases h1 with rfl|rfl|rfl<;>rcases h2 with rfl|rfl|rfl<;>first|rfl|exact absurd e (by decide)
    |[],_::_,h,h',_,_=>simp at h h';omega
    |_::_,[],h,h',_,_=>simp at h h';omega
    |_::_::_,_,h,_,_,_=>simp only[Z23]at h;omega
    |_,_::_::_,_,h,_,_=>simp only[Z23]at h;omega
structure zk7(L:List Rl):Prop where
 ls:LsT L
 va:∀r∈L,Ans pr 62 [.ag (rlF r)] (.i .i64 0)
 sc:Ans pr 63 [zbS L] zjr
def trN(i:Nat):Tr:=TB[i]?.getD (cq0,[])
def qsT(js:List Nat):List (List Str×CQ):=js.map fun i=>((trN i).2,cqN i)
def zAH(js:List Nat):(qsT js).map (·.2)=cqs js:=by simp[qsT,cqs]
theorem trH:∀b,((ixL b).all fun i=>(hdC b).all fun s=>decide (s∈(trN i).2))=true
 |false=>by kernel_rfl
 |true=>by kernel_rfl
def trT{b:Bool}{i:Nat}(h:i<nH b):trN i∈TB/\∀s∈hdC b,s∈(trN i).2:=by
 have hl:i<TB.length:=Nat.lt_of_lt_of_eq (zh7 h) (by kernel_rfl);refine⟨by simp[trN,Z0 hl],fun s hs=> ?_⟩;exact of_decide_eq_true (Z50.1 (Z50.1 (trH b) i (Z174.2 h)) s hs)
def zlG{b:Bool}{js:List Nat}(h:Q3 b js){q:List Str×CQ}(hq:q∈qsT js):∃t∈TB,(∀s∈hdC b,s∈t.2)/\q=(t.2,t.1):=by
 obtain⟨i,hi,rfl⟩ :=Z12.1 hq;exact⟨trN i,(trT (h.1 i hi)).1,(trT (h.1 i hi)).2,rfl⟩
def hdC_o(b:Bool):hdC b=[]\/hdC b=[[120]]:=by cases b<;>simp[hdC]
def zqa{b:Bool}{js:List Nat}(h:Q3 b js):QyV zjr (hdC b) (qsT js)/\∀q∈qsT js,q.1≠[]:=
 ⟨⟨by have:=h.2;simp[qsT];omega,hdC_o b,rfl,fun q hq=>by
  obtain⟨t,ht,hx,rfl⟩ :=zlG h hq;exact (tbC ht).vv (bnA t ht) hx,nmA _ (by simp)⟩,fun q hq=>by
  obtain⟨t,ht,hx,rfl⟩ :=zlG h hq;exact (tbC ht).nl.2.2⟩
def qv_ok{b:Bool}{js:List Nat}(h:Q3 b js):Ans pr 12 [zjr,.ag [zah (hdC b),qsF (cqs js)]] (.i .i64 0):=by
 have:=zGK (zqa h).1 (zqa h).2 vsA
 rwa[zAH]at this
def val_ok{L:List Rl}(H:zk7 L){b:Bool}{js:List Nat}(h:Q3 b js):Ans pr 32 [zbS L,.ag (qyF (hdC b) (qsT js))] (.b true):=
 ans32 (e:=0) H.ls.lr.n H.ls.lr.o H.va H.sc rfl (za4 _) (zd5 _) (zGK (zqa h).1 (zqa h).2 vsA)
def aq_ok{L:List Rl}(H:zk7 L){b:Bool}{js:List Nat}(h:Q3 b js):znS L (· ∈VzL) (hdC b) (qsT js):=by
  refine⟨⟨⟨by cases b<;>decide,by have:=h.2;simp only[qsT,Z18];omega,fun q hq=> ?_⟩,fun q hq=> ?_⟩,fun q hq s hs=> ?_,fun r hr tu htu z hz=> ?_⟩
  . obtain⟨t,ht,hx,rfl⟩ :=zlG h hq;exact⟨(tbC ht).ok H.ls,(bnA t ht).vr⟩
  . obtain⟨t,ht,hx,rfl⟩ :=zlG h hq;exact (tbC ht).bb
  . obtain⟨t,ht,hx,rfl⟩ :=zlG h hq;exact hx s hs
  . obtain⟨_,_,h⟩ :=H.ls.all r hr;exact (h.t tu htu).2 z hz
def zIk{L:List Rl}(H:zk7 L){b:Bool}{js:List Nat}(h:Q3 b js):∀q∈qsT js,zlX L q.1 q.2/\q.1.Nodup/\zs9 q.2:=fun q hq=>by
 obtain⟨t,ht,hx,rfl⟩ :=zlG h hq;exact⟨(tbC ht).inn H.ls,(tbC ht).nl.2.1,(tbC ht).pos⟩
def zy3{L:List Rl}(H:zk7 L){b:Bool}{js:List Nat}(h:Q3 b js)(v:List Int):zio L (hdC b) (qsT js) v↔∃c∈cqs js,∃σ,zix L c σ/\v=(hdC b).map σ:=by
 rw[zwy (zIk H h) (fun q hq s hs=> ?_),zAH];obtain⟨t,ht,hx,rfl⟩ :=zlG h hq;exact hx s hs
def Bw:Bool->List (List Int)
 |false=>[[]]
 |true=>[[1],[2],[3]]
def zBy{L:List Rl}(H:zk7 L){b:Bool}{js:List Nat}(h:Q3 b js)(v:List Int)(hv:zio L (hdC b) (qsT js) v):v∈Bw b:=by
 obtain⟨c,hc,σ,hs,rfl⟩ :=(zy3 H h v).1 hv;cases b with
 |false=>simp[hdC,Bw]
 |true=>
  obtain⟨i,hi,rfl⟩ :=Z12.1 hc;obtain⟨h1,h2⟩ :=trT (h.1 i hi);have HC:=tbC h1;obtain⟨a,ha,hxa⟩ :=HC.b [120] (h2 _ (by simp[hdC]));have h3:=hs a ha;obtain⟨q,k1,k2,k3⟩ :=H.ls.at (HC.a a ha).2.1;rw[<-zjL]at h3;simp only[hasB,k1,Z30]at h3;obtain⟨tu,htu,e⟩ :=h3;have e:tu.1=a.ts.map (teS σ):=by simpa using e
  have hz:=(k2.t tu htu).2 (σ [120]) (by rw[e];exact Z12.2 ⟨_,hxa,rfl⟩);simp only[VzL,Z5,Z164,or_false]at hz;simp only[hdC,Z10,Z85,Bw,Z5,List.cons.injEq,and_true,Z164,or_false];exact hz
def zfE(L:List Rl)(b:Bool)(js:List Nat):List (List Int):=(Bw b).filter fun v=>@decide (zio L (hdC b) (qsT js) v) (Classical.propDecidable _)
def zK7{L:List Rl}(H:zk7 L){b:Bool}{js:List Nat}(h:Q3 b js)(v:List Int):v∈zfE L b js↔zio L (hdC b) (qsT js) v:=by
 simp only[zfE,Z57,Z86];exact⟨fun h=>h.2,fun hv=>⟨zBy H h v hv,hv⟩⟩
def ev_m{L:List Rl}(H:zk7 L){b:Bool}{js:List Nat}(h:Q3 b js):Ans pr 11 [zbS L,.ag [zah (hdC b),qsF (cqs js)]] (zfW (zfE L b js)):=by
 have e:[zah (hdC b),qsF (cqs js)]=qyF (hdC b) (qsT js):=by rw[qyF,zAH]
 rw[e];refine ans11 (B:=Bw b) H.ls.lr H.ls.ro (zOW (by cases b<;>decide)) (aq_ok H h) (zIk H h) (val_ok H h) ?_ (zK7 H h) (fun v hv=>zBy H h v hv) (by cases b<;>decide);unfold zfE zlZ;refine Z172 _ ?_;cases b
 .simp[Bw]
 .simp[Bw,zaM,zaT]
def zK9{L:List Rl}(H:zk7 L){b:Bool}{l m:List Nat}(hl:Q3 b l)(hm:Q3 b m)(h1:zi6 b l m=true)(h2:zi6 b m l=true):zfE L b m=zfE L b l:=by
 refine List.filter_congr fun v _=>decide_eq_decide.2 ?_
 rw[zy3 H hm,zy3 H hl];exact⟨zw0 hm hl h2,zw0 hl hm h1⟩
def zDk(L:List Rl)(b:Bool)(js:List Nat):Ans pr 10 [zfW (zfE L b js),zfW (zfE L b js)] (.b true):=by
 cases b with
 |false=>
  by_cases h:zio L (hdC false) (qsT js) []
  .have e:zfE L false js=[[]]:=by simp[zfE,Bw,h]
   rw[e];exact smE
  .have e:zfE L false js=[]:=by simp[zfE,Bw,h]
   rw[e];exact smA [] (by simp)
 |true=>
  refine smA _ ?_;unfold zfE;generalize (fun v=>@decide (zio L (hdC true) (qsT js) v) (Classical.propDecidable _))=P;simp only[Bw,List.filter];cases P [1]<;>cases P [2]<;>cases P [3]<;>simp
def fn60:pr.fn 60=some g60:=by kernel_rfl
def zfu(l:List Int):(valsF l).d= .f (valsF l):=zew ..
def zhU(l:List Int):zcp (.f (valsF l))=some l.length:=by simp[valsF,zeo]
def zyz(l:List Int)(n:Nat):iaB 3 (.f (valsF l)) n=(l[n]?).map fun v=>D.fptr (Sm.vF v):=by simp[valsF,zfh,Z67]
def Pc(p:List F):Prop:=∃a b c,p=[a,b,c]/\a.d= .f a/\b.d= .f b/\c.d= .f c
def cmpL:List Int->List Int->Int
 |[],[]=>0
 |[],_::_=> -1
 |_::_,[]=>1
 |x::a,y::b=>if x=y then cmpL a b else zaT x y
def zEA(l:List Int):cmpL [] l=if 0<l.length then -1 else 0:=by cases l<;>simp[cmpL]
def zBR(l:List Int):cmpL l []=if 0<l.length then 1 else 0:=by cases l<;>simp[cmpL]
def J60(a b:List Int)(n:Nat)(s:St):Prop:=n<=a.length/\n<=b.length/\(s.tm.get 0=some (.f (valsF a))/\s.tm.get 1=some (.f (valsF b))/\s.tm.get 5=some (.f (.i .i64 n)))/\cmpL a b=cmpL (a.drop n) (b.drop n)
def zoU(a b:List Int)(hl:a.length<1000):Ans pr 60 [valsF a,valsF b] (.i .i64 (cmpL a b)):=by
 refine zcx fn60 ?_;simp only[g60,rU];simp[rW,st0,zal,zfu];refine zcJ (fun k s=>∃n:Nat,k=a.length - n/\J60 a b n s) (fun x s=>(x= .ret/\s.tm.get 4=some (.f (.i .i64 (cmpL a b))))\/(x= .exit 0/\∃n:Nat,(n=a.length\/n=b.length)/\J60 a b n s)) ?_ a.length _ ⟨0,rfl,Z61 _,Z61 _,?_,rfl⟩ ?_
 .rintro k s ⟨n,rfl,hn,hn',⟨h0,h1,h5⟩,hA⟩;have hw:=zau n (by omega)
  by_cases hlt:n<a.length
  .by_cases hlt':n<b.length
   .rw[Z55 hlt,Z55 hlt']at hA;simp only[cmpL]at hA;have hx:a[n]? =some a[n]:=Z0 hlt;have hy:b[n]? =some b[n]:=Z0 hlt';generalize hX:a[n]=x at hx hA;generalize hY:b[n]=y at hy hA;have q:=fun k=>zad (k:=k) (zMx x y)
    simp only[Sm.vF]at q;simp[rW,h0,h1,h5,zhU,hlt,hlt'];refine zay ?_
    by_cases he:x=y
    .have hz:zaT x y=0:=by simp[zaT,he]
     rw[hz]at q;rw[Z51 he]at hA;simp[rW,h0,h1,h5,zyz,hx,hy,hX,hY,hlt,hlt',Sm.vF,q,hw];rw[zdi];refine⟨a.length - (n+1),by omega,n+1,rfl,by omega,by omega,?_,hA⟩;simp[rW,h0,h1,hw]
    .have hz:zaT x y≠0:=by
      unfold zaT;rw[Z49 he];split<;>decide
     rw[Z49 he]at hA;generalize zaT x y=z at q hz hA;simp[rW,h0,h1,h5,zyz,hx,hy,hX,hY,hlt,hlt',Sm.vF,q,hz];exact hA.symm
   .obtain rfl:n=b.length:=by omega
    simp[rW,h0,h1,h5,zhU,hlt,hlt'];refine .inr ⟨hn,hn',?_,hA⟩;simp[rW,h0,h1,h5]
  .obtain rfl:n=a.length:=by omega
   simp[rW,h0,h1,h5,zhU,hlt];refine .inl ⟨hn,hn',?_,hA⟩;simp[rW,h0,h1,h5]
 .simp[rW]
 .rintro x s (⟨rfl,h4⟩ |⟨rfl,n,he,hn,hn',⟨h0,h1,h5⟩,hA⟩)
  .simp[rW,h4]
  .have hf:cmpL a b=if a.length<b.length then -1 else if b.length<a.length then 1 else 0:=by
    rw[hA];rcases he with rfl|rfl
    .rw[Z206,zEA,List.length_drop]
     by_cases h1:a.length<b.length
     .rw[Z51 (by omega),Z51 h1]
     .rw[Z49 (by omega),Z49 h1,Z49 (by omega)]
    .rw[Z206,zBR,List.length_drop]
     by_cases h1:b.length<a.length
     .rw[Z51 (by omega),Z49 (by omega),Z51 h1]
     .rw[Z49 (by omega),Z49 (by omega),Z49 h1]
   rw[hf]
   by_cases k1:a.length<b.length
   .simp[rW,h0,h1,zhU,k1]
   .by_cases k2:b.length<a.length
    .simp[rW,h0,h1,zhU,k1,k2]
    .simp[rW,h0,h1,zhU,k1,k2]
theorem zlg:∀a b:List Int,cmpL a b=zaM a b
 |[],[]=>rfl
 |[],_::_=>rfl
 |_::_,[]=>rfl
 |x::a,y::b=>by
  simp only[cmpL,zaM]
  by_cases h:x=y
  .rw[Z51 h,Z49 (by simp[zaT,h]),zlg a b]
  .have hz:zaT x y≠0:=by
    unfold zaT;rw[Z49 h];split<;>decide
   rw[Z49 h,Z51 hz]
end Go.Proofs.YtbhholaillniiaaGreatDoor
end
