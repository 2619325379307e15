/- The program's Contained, over the table. -/
import Derived.Test.YthcehnaehljnfaaGreatDoorPj
import Derived.Test.YthcehnaehljnfaaGreatDoorPk
import Derived.Test.YthcehnaehljnfaaGreatDoorPl
import Derived.Test.YthcehnaehljnfaaGreatDoorPm
import Derived.Test.YthcehnaehljnfaaGreatDoorPn
import Derived.KernelRfl
import Derived.IntWalk
import Derived.Test.YthcehnaehljnfaaGreatDoorPi
set_option linter.all false
set_option maxRecDepth 100000
set_option maxHeartbeats 4000000
noncomputable section
section
namespace Go.Proofs.YthcehnaehljnfaaGreatDoor
open Go Go.Vse Go.Vse.Sm
def ixP{α:Type}(l:List α)(p:α->Bool):Int:=match l.findIdx? p with
 |some n=>n
 |none=> -1
def zPv{α:Type}{l:List α}{p:α->Bool}(h:∀a∈l,p a=false):ixP l p= -1:=by
 have:l.findIdx? p=none:=Z43.2 h;simp[ixP,this]
def z15{α:Type}{l:List α}{p:α->Bool}{n:Nat}(h:n<l.length)(h1:p l[n]=true)(h2:∀m (h':m<n),p (l[m]'(by omega))=false):ixP l p=n:=by
 have:l.findIdx? p=some n:=by
  rw[Z26];exact⟨h,h1,fun j hj=>by simpa using h2 j hj⟩
 simp[ixP,this]
def z1Z{α:Type}(l:List α)(p:α->Bool):decide (ixP l p≥0)=l.any p:=by
 cases h:l.any p with
 |true=>
  unfold ixP;cases h2:l.findIdx? p with
  |some n=>simp
  |none=>rw[Z43]at h2;simp at h;obtain⟨x,hx,hp⟩ :=h;rw[h2 x hx]at hp;cases hp
 |false=>
  have:=zPv (l:=l) (p:=p) (by simpa using h);simp[this]
def fn5:pr.fn 5=some g5:=by kernel_rfl
def fn13:pr.fn 13=some g13:=by kernel_rfl
def fn14:pr.fn 14=some g14:=by kernel_rfl
def fn34:pr.fn 34=some g34:=by kernel_rfl
def zQ3:∀(l:List (Nat×Option Ob)) (m:Nat),zdq m l<=m:=fun l m=>(zgJ l m).1
def HdO(hd:List Str):Prop:=hd=[]\/hd=[[120]]
def HdO.lt{hd:List Str}(h:HdO hd):hd.length<100000:=by rcases h with rfl|rfl<;>simp
def zRc{f:Nat}{fs:List F}{x y:F}(h1:Ans pr f fs x)(h2:Ans pr f fs y):x=y:=by
 obtain⟨q,rd,⟨N,hN⟩,e1⟩ :=h1;obtain⟨q',rd',⟨M,hM⟩,e2⟩ :=h2;have h:zb8 pr (N+M) f (F.dL fs) .e 0=some q:=hN (N+M) (by omega);have h':zb8 pr (N+M) f (F.dL fs) .e 0=some q':=hM (N+M) (by omega);rw[h']at h;cases h;rw[e1]at e2;cases e2;rfl
def exR(hd:List Str)(c d:CQ):Bool:=@decide (Ans pr 15 [.ag (cqF c),.ag (cqF d),zak hd] (.b true)) (Classical.propDecidable _)
def zoX(c:CQ):Prop:=c∈CQp
def QOk(l:List CQ):Prop:=(∀c∈l,zoX c)/\l.length<1000
def zm9(hd hd2:List Str)(l m:List CQ):Bool:=decide (hd=hd2)&&l.all fun d=>m.any fun c=>exR hd c d
def zz0:TB.map (·.1)=CQp:=by kernel_rfl
def zQK{c:CQ}(h:c∈CQp):∃t∈TB,t.1=c:=by
 rw[<-zz0]at h;exact Z12.1 h
theorem exA:∀{hd:List Str},HdO hd->∀c∈CQp,∀t∈TB,Ans pr 15 [.ag (cqF c),.ag (cqF t.1),zak hd] (.b (mt (za0 t.2.2) c.as (e0H hd)))
 |_,.inl rfl=>allL (P:=fun c=>∀t∈TB,Ans pr 15 [.ag (cqF c),.ag (cqF t.1),zak []] (.b (mt (za0 t.2.2) c.as (e0H [])))) ⟨allL ex0_0,allL ex0_1,allL ex0_2,allL ex0_3,allL ex0_4,allL ex0_5,allL ex0_6,allL ex0_7,allL ex0_8,allL ex0_9,allL z0A,allL z0B,allL z0C,allL z0D,allL z0E,allL z0F,allL z0H,allL z0K,allL z0M,allL z0S,allL z0U,allL z0W,trivial⟩
 |_,.inr rfl=>allL (P:=fun c=>∀t∈TB,Ans pr 15 [.ag (cqF c),.ag (cqF t.1),zak [[120]]] (.b (mt (za0 t.2.2) c.as (e0H [[120]])))) ⟨allL ex1_0,allL ex1_1,allL ex1_2,allL ex1_3,allL ex1_4,allL ex1_5,allL ex1_6,allL ex1_7,allL ex1_8,allL ex1_9,allL z0Y,allL z0Z,allL z00,allL z02,allL z06,allL z07,allL z08,allL z1a,allL z1c,allL z1d,allL z1e,allL z1h,trivial⟩
def zHp{hd:List Str}(hh:HdO hd){c:CQ}(hc:c∈CQp){t:Tr}(ht:t∈TB):exR hd c t.1=mt (za0 t.2.2) c.as (e0H hd):=by
 have h:=exA hh c hc t ht;unfold exR;cases hm:mt (za0 t.2.2) c.as (e0H hd)with
 |true=>rw[hm]at h;simpa using h
 |false=>
  rw[hm]at h;have:¬Ans pr 15 [.ag (cqF c),.ag (cqF t.1),zak hd] (.b true):=fun h2=>by cases zRc h h2
  simpa using this
def ans15(a b:CQ)(hd:List Str)(ha:zoX a)(hb:zoX b)(hh:HdO hd):Ans pr 15 [.ag (cqF a),.ag (cqF b),zak hd] (.b (exR hd a b)):=by
 obtain⟨t,ht,rfl⟩ :=zQK hb;rw[zHp hh ha ht];exact exA hh a ha t ht
def cqD(c:CQ):List D:=[.f (zcL c),.f (zda c)]
theorem ro14(hd:List Str)(c d:CQ)(hc:zoX c)(hdd:zoX d)(hh:HdO hd){h:T Ob}{k X Y:Nat}{y:D}(gX:h.get X=some (.arr 2 0 [cqD d]))(gY:h.get Y=some (.arr 2 0 [[.f (zak hd),y]]))(hX:X<k)(hY:Y<k):
  RO pr 14 [.ag (cqD c),.ptr X 2 0 0,.ptr Y 2 0 0] h k (.f (.b (exR hd c d))):=by
 refine ziL zgr fn14 rfl ?_;simp only[g14,rU];have nX:¬X=k:=by omega
 have nY:¬Y=k:=by omega
 have q:=fun j=>zaC (k:=j) (ans15 c d hd hc hdd hh)
 simp only[cqE]at q;unfold cqD at gX;simp[rW,st0,zay,cqD,gX,gY,nX,nY,zgo,zgp,zbl,q,zfd];simp (disch:=omega) only[ziO,zjE]
theorem ro34(l:List CQ)(p:CQ->Bool)(hl:l.length<100000){h:T Ob}{c g:Nat}{cap:List D}(hcl:∀n (hn:n<l.length),RO pr g (.ag (cqD l[n])::cap) h c (.f (.b (p l[n])))):
  RO pr 34 [.f (qsF l),.fn g [] cap] h c (.f (.i .i64 (ixP l p))):=by
 refine ziL zgr fn34 rfl ?_;simp only[g34,rU];simp[rW,st0,zay,zfg];refine zup l p (fun n s=>s.tm.get 0=some (.f (qsF l))/\s.tm.get 1=some (.fn g [] cap)/\s.tm.get 7=some (.f (.i .i64 l.length))/\s.tm.get 8=some (.f (.i .i64 n))/\s.h=h/\s.c=c/\s.lw=c) (fun x s=>x= .exit 0/\s.lw=c) (fun n y s=>y= .ret/\s.tm.get 4=some (.f (.i .i64 n))/\s.lw=c) ?_ ?_ _ ?_ ?_ ?_
 .rintro n s hn ⟨h0,h1,h7,h8,eh,ec,el⟩;have hw:=zaH n (by omega);have hp:=hcl n hn;generalize hA:l[n]=A at hp|-;have hA':l[n]? =some A:=by rw[Z0 hn,hA]
  simp[rW,h0,h1,h7,h8,hn,zic,hA',hA,cqE];refine zkd (d:= .f (.b (p A))) ?_ ?_ ?_
  .simp only[rG];rw[eh,ec];exact hp
  .simp only[rG];omega
  .intro mx;cases hb:p A with
   |true=>simp[rW,h0,h1,h7,h8,el]
   |false=>simp[rW,h0,h1,h7,h8,hw,eh,ec,el]
 .rintro s ⟨h0,h1,h7,h8,eh,ec,el⟩;simp[rW,h0,h1,h7,h8,el]
 .simp[rW,st0,zay]
 .rintro h z s ⟨rfl,el⟩;rw[zPv h];simp[rW,zfd,el]
 .rintro n hn hp hm z s ⟨rfl,h4,el⟩;rw[z15 hn hp hm];simp[rW,h4,zfd,el]
theorem ro13(l:List CQ)(p:CQ->Bool)(hl:l.length<100000){h:T Ob}{c g:Nat}{cap:List D}(hcl:∀n (hn:n<l.length),RO pr g (.ag (cqD l[n])::cap) h c (.f (.b (p l[n])))):
  RO pr 13 [.f (qsF l),.fn g [] cap] h c (.f (.b (l.any p))):=by
 refine ziL zgr fn13 rfl ?_;simp only[g13,rU];rw[<-z1Z l p];simp[rW,st0,zay];refine zkd (d:= .f (.i .i64 (ixP l p))) ?_ ?_ ?_
 .simp only[rG];exact ro34 l p hl hcl
 .simp only[rG];omega
 .intro mx;simp[rW,zfd]
def nIn(hd:List Str)(m:List CQ)(d:CQ):Bool:=!(m.any fun c=>exR hd c d)
def P0(hd hd2:List Str)(l m:List CQ)(n:Nat)(s:St):Prop:=(s.tm.get 2=some (.ptr 0 2 0 0)/\s.tm.get 3=some (.ptr 1 2 0 0)/\s.tm.get 14=some (.f (qsF l))/\s.tm.get 15=some (.f (.i .i64 l.length))/\s.tm.get 16=some (.f (.i .i64 n))/\s.h.get 0=some (.arr 2 0 [[.f (zak hd),.f (qsF l)]])/\s.h.get 1=some (.arr 2 0 [[.f (zak hd2),.f (qsF m)]]))/\2<=s.c/\s.lw<=s.c
def ans5(hd hd2:List Str)(l m:List CQ)(hh:HdO hd)(hl:QOk l)(hm:QOk m):Ans pr 5 [.ag [zak hd,qsF l],.ag [zak hd2,qsF m]] (.b (zm9 hd hd2 l m)):=by
 refine zdr fn5 ?_;simp only[g5,rU];have q40:=fun k=>zaC (k:=k) (ans12 hd hd2 hh.lt)
 unfold zm9
 by_cases he:hd=hd2
 .rw[decide_eq_true he]at q40|-;simp[rW,st0,zay,zbl,zeH,q40,zfg];refine zup l (nIn hd m) (fun n s=>P0 hd hd2 l m n s) (fun x s=>x= .exit 0) (fun n y s=>y= .ret/\s.tm.get 4=some (.f (.b false))) ?_ ?_ _ ?_ ?_ ?_
  .rintro n s hn ⟨⟨h2,h3,h14,h15,h16,g0,g1⟩,hc2,hlw⟩;have hw:=zaH n (by have:=hl.2;omega);have hsd:=hl.1 _ (Z1 hn);generalize hA:l[n]=A at hsd|-;have hA':l[n]? =some A:=by rw[Z0 hn,hA]
   have n0:¬(0=s.c):=by omega
   have n1:¬(1=s.c):=by omega
   simp[rW,h2,h3,h14,h15,h16,g0,g1,hn,zic,hA',hA,cqE,n0,n1];refine zkd (d:= .f (.b (m.any fun c=>exR hd c A))) (ro13 m (fun c=>exR hd c A) (by have:=hm.2;omega) fun k hk=> ?_) ?_ ?_
   .refine ro14 hd m[k] A (hm.1 _ (Z1 hk)) hsd hh (y:= .f (qsF l)) ?_ ?_ ?_ ?_
    .simp only[rG];simp[TG,cqD]
    .simp only[rG];simp[TG,n0,g0]
    .simp only[rG];omega
    .simp only[rG];omega
   .simp only[rG]
    (repeat refine Z3 (zQ3 _ _) ?_)
    omega
   .intro mx;cases hb:m.any fun c=>exR hd c A with
    |true=>
     have e:nIn hd m A=false:=by unfold nIn;rw[hb];rfl
     simp[rW,h2,h3,h14,h15,h16,g0,g1,e,hw,n0,n1,P0];refine⟨by omega,?_⟩
     (repeat refine Z3 (zQ3 _ _) ?_)
     omega
    |false=>
     have e:nIn hd m A=true:=by unfold nIn;rw[hb];rfl
     simp[rW,h2,h3,h14,h15,h16,g0,g1,e,hw,n0,n1]
  .rintro s ⟨⟨h2,h3,h14,h15,h16,g0,g1⟩,hc2,hlw⟩;simp[rW,h2,h3,h14,h15,h16,g0,g1]
  .simp[rW,P0];simp[zdq]
  .rintro h z s rfl;have e:(l.all fun d=>m.any fun c=>exR hd c d)=true:=Z50.2 fun x hx=>by simpa [nIn]using h x hx
   rw[e];simp[rW]
  .rintro n hn hp hm z s ⟨rfl,h4⟩;have e:(l.all fun d=>m.any fun c=>exR hd c d)=false:=Z143.2 ⟨l[n],Z1 hn,by simpa [nIn]using hp⟩;rw[e];simp[rW,h4]
 .rw[decide_eq_false he]at q40|-;simp[rW,st0,zay,zbl,zeH,q40]
def fn113:pr.fn 113=some zDf:=by kernel_rfl
def fn114:pr.fn 114=some zjh:=by kernel_rfl
def fn93:pr.fn 93=some g93:=by kernel_rfl
structure CqV(sch:F)(hd ns:List Str)(c:CQ):Prop where
 k:c.cs=[]
 al:c.as.length<=6
 nl:ns.length<=8
 vr:Ans pr 72 [.ag (cqF c)] (zak ns)
 nm:∀s∈ns,Ans pr 168 [.s s] (.b true)
 fd:∀a∈c.as,∃ce cols,Ans pr 180 [sch,.s a.r] (.tu [.ag [.s a.r,.b ce,slc 3 cols],.b true])/\cols.length=a.ts.length/\∀x∈cols,∃s b,x=[F.s s,.i .i64 1,.b b]
 ng:∀a∈c.as,a.neg=false
 ct:∀a∈c.as,∀n,Trm.cst n∈a.ts->Ans pr 169 [.ag (Sm.vF n)] (.b true)
 tl:∀a∈c.as,a.ts.length<=9
 bd:∀a∈c.as,∃l,l.length<=3/\Ans pr 72 [.ag [.sl 3 [atF a],.nils]] (zak l)/\∀s,Trm.var s∈a.ts->s∈l
 nb:∀s∈hd++ns,∃a∈c.as,Trm.var s∈a.ts
 cc:Ans pr 183 [.sl 1 [[zak hd],[zak ns]]] (zak (hd++ns))
 vn:∀a∈c.as,∀s,Trm.var s∈a.ts->s≠[]
structure QyV(sch:F)(hd:List Str)(l:List (List Str×CQ)):Prop where
 n:l.length<=5
 h:hd=[]\/hd=[[120]]
 s:sch.d= .f sch
 c:∀q∈l,CqV sch hd q.1 q.2
 x:Ans pr 168 [.s [120]] (.b true)
def ans93(l:List Str)(v:Str)(hl:l.length<1000):Ans pr 93 [zak l,.s v] (.b (decide (v∈l))):=by
 have q1:=fun k=>zaC (k:=k) (zCI l v hl)
 refine zdr fn93 ?_;simp only[g93,rU]
 by_cases h:v∈l
 .rw[(zgM h).1]at q1;simp[rW,st0,zay,zbl,q1,h]
 .have e:zgz (fun x=>v==x) l= -1:=by
   unfold zgz;rw[Z43.2 fun x hx=>by simpa using fun e:v=x=>h (e▸hx)]
  rw[e]at q1;simp[rW,st0,zay,zbl,q1,h]
def Jvz(l:List CQ)(k:Nat)(s:St):Prop:=s.tm.get 16=some (.f (qsF l))/\s.tm.get 17=some (.f (.i .i64 l.length))/\s.tm.get 18=some (.f (.i .i64 k))
def zZd{sch:F}{hd:List Str}{l:List (List Str×CQ)}(H:QyV sch hd l):Ans pr 113 [.ag [zak hd,qsF (l.map (·.2))]] (.b true):=by
 have hn:=H.n;have hh:hd.length<=6:=by rcases H.h with e|e<;>rw[e]<;>decide
 refine zdr fn113 ?_;simp only[zDf,rU];have a1:¬(5:Int)<l.length:=by omega
 have a2:¬(6:Int)<hd.length:=by omega
 simp[rW,st0,zay,zbl,zeH,zfg,zcM,Z18,a1,a2];refine zc0 l.length (Jvz (l.map (·.2))) (fun e s=>e= .exit 0) ?_ ?_ _ ⟨by simp[rW],by simp[rW,Z18],by simp[rW]⟩ ?_
 .rintro k s hlt ⟨h16,h17,h18⟩;rw[Z18]at h17;have hw:=zaH k (by omega);have hc:=H.c _ (Z1 hlt);have hx:(l.map (·.2))[k]? =some l[k].2:=by rw[Z36,Z0 hlt];rfl
  generalize hA:l[k]=q at hc hx;have q1:=fun k=>zaC (k:=k) hc.vr
  rw[cqE]at q1;have b1:¬(6:Int)<q.2.as.length:=by have:=hc.al;omega
  have b1':(q.2.as.length:Int)<=6:=by omega
  have b2:=hc.k;have b3:¬(8:Int)<q.1.length:=by have:=hc.nl;omega
  have b3':(q.1.length:Int)<=8:=by omega
  simp[rW,h16,h17,h18,hlt,zic,hx,hA,cqE,zgo,zgp,zkT,zr3,b1,b1',b2,b3,b3',q1,zbl,zcM,hw];exact⟨by simp[rW,h16],by simp[rW,h17,Z18],by simp[rW]⟩
 .rintro s ⟨h16,h17,h18⟩;rw[Z18]at h17;simp[rW,h16,h17,h18]
 .rintro e s rfl;simp[rW]
def zg8:C:=zjh.body.r.r.l.r.b.o
def zxZ:C:=zg8.r.r.l.b.r.l.r.b.o
def zx0:C:=zg8.r.r.l.b.r.r.r.b.o
def zBR(sch:F)(hd:List Str)(l:List CQ)(k:Nat)(s:St):Prop:=(s.tm.get 0=some (.f sch)/\s.tm.get 36=some (.f (qsF l))/\s.tm.get 37=some (.f (.i .i64 l.length))/\s.tm.get 38=some (.f (.i .i64 k)))
def zBS(sch:F)(l:List CQ)(c:CQ)(ns:List Str)(i:Nat)(k j:Nat)(s:St):Prop:=(s.tm.get 0=some (.f sch)/\s.tm.get 8=some (.ptr i 2 0 0)/\s.tm.get 36=some (.f (qsF l))/\s.tm.get 37=some (.f (.i .i64 l.length))/\s.tm.get 38=some (.f (.i .i64 k))/\s.tm.get 43=some (.f (zak ns))/\s.tm.get 44=some (.f (.i .i64 ns.length))/\s.tm.get 45=some (.f (.i .i64 j))/\s.h.get i=some (.arr 2 0 [[.f (zcL c),.f (zda c)]]))/\i<s.c
def zBX(sch:F)(l:List CQ)(c:CQ)(k j:Nat)(s:St):Prop:=(s.tm.get 0=some (.f sch)/\s.tm.get 36=some (.f (qsF l))/\s.tm.get 37=some (.f (.i .i64 l.length))/\s.tm.get 38=some (.f (.i .i64 k))/\s.tm.get 54=some (.f (zcL c))/\s.tm.get 55=some (.f (.i .i64 c.as.length))/\s.tm.get 56=some (.f (.i .i64 j)))
def vn_l4{sch:F}{hd ns:List Str}{l:List CQ}{c:CQ}{i k:Nat}(hc:CqV sch hd ns c){s:St}{Q:Ex->St->Prop}(hJ:zBS sch l c ns i k 0 s)(kx:∀s,zBS sch l c ns i k ns.length s->Q (.exit 4) s):WL pr zxZ s Q:=by
 have hnl:=hc.nl;refine zc0 ns.length (zBS sch l c ns i k) (fun x s=>x= .exit 4/\zBS sch l c ns i k ns.length s) ?_ ?_ _ hJ ?_
 .rintro j s hlt ⟨⟨h0,h8,h36,h37,h38,h43,h44,h45,gi⟩,hi⟩;have hw:=zaH j (by omega);have hx:ns[j]? =some ns[j]:=Z0 hlt;have hnm:=hc.nm _ (Z1 hlt);generalize hA:ns[j]=v at hx hnm;have q1:=fun k=>zaC (k:=k) hnm
  unfold zxZ zg8 zjh;simp only[rU,C.l,C.r,C.b,C.o];simp[rW,h0,h8,h36,h37,h38,h43,h44,h45,gi,hlt,zfq,hx,hA,q1,hw];exact⟨⟨by simp[rW,h0],by simp[rW,h8],by simp[rW,h36],by simp[rW,h37],by simp[rW,h38],by simp[rW,h43],by simp[rW,h44],by simp[rW],by simp only[rG];exact gi⟩,by simp only[rG];exact hi⟩
 .rintro s ⟨⟨h0,h8,h36,h37,h38,h43,h44,h45,gi⟩,hi⟩;unfold zxZ zg8 zjh;simp only[rU,C.l,C.r,C.b,C.o];simp[rW,h0,h8,h36,h37,h38,h43,h44,h45,gi];exact⟨⟨by simp[rW,h0],by simp[rW,h8],by simp[rW,h36],by simp[rW,h37],by simp[rW,h38],by simp[rW,h43],by simp[rW,h44],by simp[rW,h45],by simp only[rG];exact gi⟩,by simp only[rG];exact hi⟩
 .rintro e s ⟨rfl,hJ⟩;exact kx s hJ
def vn_l6{sch:F}{hd ns:List Str}{l:List CQ}{c:CQ}{k:Nat}(hs:sch.d= .f sch)(hc:CqV sch hd ns c){s:St}{Q:Ex->St->Prop}(hJ:zBX sch l c k 0 s)(kx:∀s,zBX sch l c k c.as.length s->Q (.exit 6) s):WL pr zx0 s Q:=by
 have hal:=hc.al;refine zc0 c.as.length (zBX sch l c k) (fun x s=>x= .exit 6/\zBX sch l c k c.as.length s) ?_ ?_ _ hJ ?_
 .rintro j s hlt ⟨h0,h36,h37,h38,h54,h55,h56⟩;have hw:=zaH j (by omega);have hx:c.as[j]? =some c.as[j]:=Z0 hlt;obtain⟨ce,cols,hf,-,-⟩ :=hc.fd _ (Z1 hlt);generalize hA:c.as[j]=a at hx hf;have q1:=fun k=>zaC (k:=k) hf
  have htd:=zuE a.ts;have hcd:(slc 3 cols).d= .f (slc 3 cols):=zeM ..;have n1:¬s.c=s.c+1:=by omega
  unfold zx0 zg8 zjh;simp only[rU,C.l,C.r,C.b,C.o];simp[rW,h0,h36,h37,h38,h54,h55,h56,hlt,zqI,hx,hA,atE,htd,hcd,q1,hs,hw,n1,zfE];exact⟨by simp[rW,h0],by simp[rW,h36],by simp[rW,h37],by simp[rW,h38],by simp[rW,h54],by simp[rW,h55],by simp[rW]⟩
 .rintro s ⟨h0,h36,h37,h38,h54,h55,h56⟩;unfold zx0 zg8 zjh;simp only[rU,C.l,C.r,C.b,C.o];simp[rW,h0,h36,h37,h38,h54,h55,h56];exact⟨by simp[rW,h0],by simp[rW,h36],by simp[rW,h37],by simp[rW,h38],by simp[rW,h54],by simp[rW,h55],by simp[rW,h56]⟩
 .rintro e s ⟨rfl,hJ⟩;exact kx s hJ
def cn0:Ans pr 93 [.sl 1 [],.s [120]] (.b false):=zpy (n:=400) (zBc pr) (by kernel_rfl)
def zQ1{sch:F}{hd:List Str}{l:List (List Str×CQ)}(H:QyV sch hd l){s:St}{Q:Ex->St->Prop}(hJ:zBR sch hd (l.map (·.2)) 0 s)(kx:∀s,zBR sch hd (l.map (·.2)) l.length s->Q (.exit 2) s):WL pr zg8 s Q:=by
  have hn:=H.n;refine zc0 l.length (zBR sch hd (l.map (·.2))) (fun x s=>x= .exit 2/\zBR sch hd (l.map (·.2)) l.length s) ?_ ?_ _ hJ ?_
  . rintro k s hlt ⟨h0,h36,h37,h38⟩;have h37':=h37;rw[Z18]at h37';have hw:=zaH k (by omega);have hc:=H.c _ (Z1 hlt);have hx:(l.map (·.2))[k]? =some l[k].2:=by rw[Z36,Z0 hlt];rfl
    generalize hA:l[k]=q at hc hx;have q1:=fun k=>zaC (k:=k) hc.vr
    rw[cqE]at q1;unfold zg8 zjh;simp only[rU,C.l,C.r,C.b,C.o];simp[rW,h0,h36,h38,h37',hlt,zic,hx,hA,cqE,zgo,zgp,q1,zbl,zcM];refine vn_l4 (l:=l.map (·.2)) (i:=s.c) hc (k:=k) ⟨⟨by simp[rW,h0],by simp[rW],by simp[rW,h36],by simp[rW,h37],by simp[rW,h38],by simp[rW],by simp[rW],by simp[rW],by simp[rW]⟩,by simp only[rG];omega⟩ ?_;rintro s1 ⟨⟨j0,j8,j36,j37,j38,j43,j44,j45,gi⟩,hi⟩;simp[rW,j8,gi,zkT];refine vn_l6 (l:=l.map (·.2)) H.s hc (k:=k) ⟨by simp[rW,j0],by simp[rW,j36],by simp[rW,j37],by simp[rW,j38],by simp[rW],by simp[rW],by simp[rW]⟩ ?_;rintro s2 ⟨i0,i36,i37,i38,-,-,-⟩;simp[rW,i38,hw];exact⟨by simp[rW,i0],by simp[rW,i36],by simp[rW,i37],by simp[rW]⟩
  . rintro s ⟨h0,h36,h37,h38⟩;have h37':=h37;rw[Z18]at h37';unfold zg8 zjh;simp only[rU,C.l,C.r,C.b,C.o];simp[rW,h0,h36,h38,h37'];exact⟨by simp[rW,h0],by simp[rW,h36],by simp[rW,h37],by simp[rW,h38]⟩
  . rintro e s ⟨rfl,hJ⟩;exact kx s hJ
def zZf{sch:F}{hd:List Str}{l:List (List Str×CQ)}(H:QyV sch hd l):Ans pr 114 [sch,.ag [zak hd,qsF (l.map (·.2))]] (.b true):=by
 have hs:=H.s;have q1:=fun k=>zaC (k:=k) H.x
 have q2:=fun k=>zaC (k:=k) cn0
 refine zdr fn114 ?_;simp only[zjh,rU];rcases H.h with rfl|rfl
 .simp[rW,st0,zay,hs,zbl,zeH];refine round ?_;simp[rW,hs,zfg,Z18];refine zQ1 H ⟨by simp[rW,hs],by simp[rW],by simp[rW,Z18],by simp[rW]⟩ fun s1 _=> ?_
  simp[rW]
 .simp[rW,st0,zay,hs,zbl,zeH,zak];refine round ?_;simp[rW,hs,q1,q2,zKS];refine round ?_;simp[rW,hs,zfg,Z18];refine zQ1 H ⟨by simp[rW,hs],by simp[rW],by simp[rW,Z18],by simp[rW]⟩ fun s1 _=> ?_
  simp[rW]
def fn116:pr.fn 116=some zjl:=by kernel_rfl
def zha:C:=zjl.body.r.l.r.b.o
def zx1:C:=zha.r.r.l.b.r.r.l.r.b.o
def zx2:C:=zha.r.r.l.b.r.r.r.r.b.o
def zUq{h:T Ob}{id ro:Nat}{L:List Str}(hg:h.get id=some (.arr 1 ro (zdQ L)))(hL:L≠[])(k:Nat):frz h.get (k+2) (.sl id 0 L.length 1 L.length false)=some (zak L,[id]):=by
 rw[zfw,hg,zeW,zkX];simp only[true_and,Z25,zl1,Z2,Z60,Z34,ztv,zzT,zeW];rw[zzV hL]
def zSh(h:Nat->Option Ob)(l:List Str):elemsOf 1 h (.f (zak l))=some (zdQ l,[]):=by
 cases l with
 |nil=>rfl
 |cons a l=>simp[zak,slc,elemsOf,zdQ]
def Jb2(hd:List Str)(l:List CQ)(c:CQ)(k i j:Nat)(s:St):Prop:=(s.tm.get 1=some (.ptr 0 2 0 0)/\s.tm.get 4=some (.ptr i 2 0 0)/\s.tm.get 11=some (.f (qsF l))/\s.tm.get 12=some (.f (.i .i64 l.length))/\s.tm.get 13=some (.f (.i .i64 k))/\s.tm.get 18=some (.f (zcL c))/\s.tm.get 19=some (.f (.i .i64 c.as.length))/\s.tm.get 20=some (.f (.i .i64 j))/\s.h.get 0=some (.arr 2 0 [[.f (zak hd),.f (qsF l)]])/\s.h.get i=some (.arr 2 0 [[.f (zcL c),.f (zda c)]]))/\0<i/\i<s.c/\∃d L,s.tm.get 5=some d/\Gro s.h (i+1) s.c 1 d (zdQ L)/\L.length<=3*j/\∀n a,n<j->c.as[n]? =some a->∀v,Trm.var v∈a.ts->v∈L
def bo_l2{sch:F}{hd ns:List Str}{l:List CQ}{c:CQ}{i k:Nat}(hc:CqV sch hd ns c){s:St}{Q:Ex->St->Prop}(hJ:Jb2 hd l c k i 0 s)(kx:∀s,Jb2 hd l c k i c.as.length s->Q (.exit 2) s):WL pr zx1 s Q:=by
 have hal:=hc.al;refine zc0 c.as.length (Jb2 hd l c k i) (fun x s=>x= .exit 2/\Jb2 hd l c k i c.as.length s) ?_ ?_ _ hJ ?_
 .rintro j s hlt ⟨⟨h1,h4,h11,h12,h13,h18,h19,h20,g0,gi⟩,hi0,hi,d,L,h5,hG,hLl,hLm⟩;have hw:=zaH j (by omega);have hx:c.as[j]? =some c.as[j]:=Z0 hlt;obtain⟨l1,hl3,hb,hbm⟩ :=hc.bd _ (Z1 hlt);have hng:=hc.ng _ (Z1 hlt);generalize hA:c.as[j]=a at hx hb hbm hng;have q1:=fun k=>zaC (k:=k) hb
  rw[atE,hng]at q1;have htd:=zuE a.ts;have n0:¬0=s.c:=by omega
  have n0':¬0=s.c+1:=by omega
  have ni:¬i=s.c:=by omega
  have ni':¬i=s.c+1:=by omega
  have n1:¬s.c=s.c+1:=by omega
  unfold zx1 zha zjl;simp only[rU,C.l,C.r,C.b,C.o];simp[rW,h1,h4,h5,h11,h12,h13,h18,h19,h20,g0,gi,hlt,zqI,hx,hA,atE,hng,htd,n1];simp[rW,q1,zbl,zSh];refine zfj (zaV hG (by omega) fun y h1 h2=> ?_) (by omega) (by simp[zdQ];omega) (by omega) ?_
  .rw[TG,Z49 (by omega),TG,Z49 (by omega),TG,Z49 (by omega),TG,Z49 (by omega)]
  intro r hr1 hr2 hr3 hr4 hr5;have hf:∀y,y<s.c->d.oid≠some y->_:=fun y hy hd=>(hr4 y (by omega) hd)
  have e0:=hr4 0 (by omega) (zht hG (by omega));have ei:=hr4 i (by omega) (zht hG (by omega));rw[TG,Z49 (by omega),TG,Z49 (by omega),TG,Z49 (by omega),TG,Z49 (by omega)]at e0 ei;rw[g0]at e0;rw[gi]at ei;simp[rW,hr1,hw];refine⟨⟨by simp[rW,h1],by simp[rW,h4],by simp[rW,h11],by simp[rW,h12],by simp[rW,h13],by simp[rW,h18],by simp[rW,h19],by simp[rW],by simp only[rG];exact e0,by simp only[rG];exact ei⟩,hi0,by simp only[rG];omega,r.d,L++l1,by simp[rW],?_,by simp;omega,fun n b hn hb v hv=> ?_⟩
  .simp only[rG];rw[show zdQ (L++l1)=zdQ L++zdQ l1 by simp[zdQ]];exact zaV hr2 (Z2 _) fun _ _ _=>rfl
  .rcases Z145 n j with h|h
   .exact Z102 _ (hLm n b h hb v hv)
   .have:n=j:=by omega
    subst this;rw[hx]at hb;cases hb;exact Z96 _ (hbm v hv)
 .rintro s ⟨⟨h1,h4,h11,h12,h13,h18,h19,h20,g0,gi⟩,hi0,hi,d,L,h5,hG,hLl,hLm⟩;unfold zx1 zha zjl;simp only[rU,C.l,C.r,C.b,C.o];simp[rW,h1,h4,h5,h11,h12,h13,h18,h19,h20,g0,gi];exact⟨⟨by simp[rW,h1],by simp[rW,h4],by simp[rW,h11],by simp[rW,h12],by simp[rW,h13],by simp[rW,h18],by simp[rW,h19],by simp[rW,h20],by simp only[rG];exact g0,by simp only[rG];exact gi⟩,hi0,by simp only[rG];exact hi,d,L,by simp[rW,h5],by simp only[rG];exact hG,hLl,hLm⟩
 .rintro e s ⟨rfl,hJ⟩;exact kx s hJ
def Jb4(hd ms:List Str)(l:List CQ)(k id:Nat)(L:List Str)(j:Nat)(s:St):Prop:=(s.tm.get 1=some (.ptr 0 2 0 0)/\s.tm.get 5=some (.sl id 0 L.length 1 L.length false)/\s.tm.get 11=some (.f (qsF l))/\s.tm.get 12=some (.f (.i .i64 l.length))/\s.tm.get 13=some (.f (.i .i64 k))/\s.tm.get 39=some (.f (zak ms))/\s.tm.get 40=some (.f (.i .i64 ms.length))/\s.tm.get 41=some (.f (.i .i64 j))/\s.h.get 0=some (.arr 2 0 [[.f (zak hd),.f (qsF l)]]))/\0<id/\id<s.c/\∃ro,s.h.get id=some (.arr 1 ro (zdQ L))
def bo_l4{hd ms:List Str}{l:List CQ}{k id:Nat}{L:List Str}(hL:L≠[])(hLl:L.length<1000)(hm:∀v∈ms,v∈L)(hml:ms.length<1000){s:St}{Q:Ex->St->Prop}(hJ:Jb4 hd ms l k id L 0 s)(kx:∀s,Jb4 hd ms l k id L ms.length s->Q (.exit 4) s):WL pr zx2 s Q:=by
 refine zc0 ms.length (Jb4 hd ms l k id L) (fun x s=>x= .exit 4/\Jb4 hd ms l k id L ms.length s) ?_ ?_ _ hJ ?_
 .rintro j s hlt ⟨⟨h1,h5,h11,h12,h13,h39,h40,h41,g0⟩,hi0,hi,ro,gi⟩;have hw:=zaH j (by omega);have hx:ms[j]? =some ms[j]:=Z0 hlt;have hv:=hm _ (Z1 hlt);generalize hA:ms[j]=v at hx hv;have q1:=fun k=>zaC (k:=k) (ans93 L v hLl)
  rw[decide_eq_true hv]at q1;have fz:=zUq gi hL 10;obtain⟨W,hW1,hW2,hW3,ro',hW4⟩ :=zBh (c:=s.c) gi hi;have e0:=(hW3 0 (by omega)).trans g0;unfold zx2 zha zjl;simp only[rU,C.l,C.r,C.b,C.o];simp[rW,h1,h5,h11,h12,h13,h39,h40,h41,hlt,zfq,hx,hA,fz,zcj,za2,q1,hW1,hW2,hw];exact⟨⟨by simp[rW,h1],by simp[rW,h5],by simp[rW,h11],by simp[rW,h12],by simp[rW,h13],by simp[rW,h39],by simp[rW,h40],by simp[rW],by simp only[rG];exact e0⟩,hi0,by simp only[rG];exact hi,ro',by simp only[rG];exact hW4⟩
 .rintro s ⟨⟨h1,h5,h11,h12,h13,h39,h40,h41,g0⟩,hi0,hi,ro,gi⟩;unfold zx2 zha zjl;simp only[rU,C.l,C.r,C.b,C.o];simp[rW,h1,h5,h11,h12,h13,h39,h40,h41];exact⟨⟨by simp[rW,h1],by simp[rW,h5],by simp[rW,h11],by simp[rW,h12],by simp[rW,h13],by simp[rW,h39],by simp[rW,h40],by simp[rW,h41],by simp only[rG];exact g0⟩,hi0,by simp only[rG];exact hi,ro,by simp only[rG];exact gi⟩
 .rintro e s ⟨rfl,hJ⟩;exact kx s hJ
def Jb0(hd:List Str)(l:List CQ)(k:Nat)(s:St):Prop:=(s.tm.get 1=some (.ptr 0 2 0 0)/\s.tm.get 11=some (.f (qsF l))/\s.tm.get 12=some (.f (.i .i64 l.length))/\s.tm.get 13=some (.f (.i .i64 k))/\s.h.get 0=some (.arr 2 0 [[.f (zak hd),.f (qsF l)]]))/\0<s.c
def zoA(l:List Str):(D.f (zak l)).cells=some [.f (zak l)]:=zfE _ _
def bo_l0{sch:F}{hd:List Str}{l:List (List Str×CQ)}(H:QyV sch hd l)(hne:∀q∈l,q.1≠[]){s:St}{Q:Ex->St->Prop}(hJ:Jb0 hd (l.map (·.2)) 0 s)(kx:∀s,Jb0 hd (l.map (·.2)) l.length s->Q (.exit 0) s):WL pr zha s Q:=by
  have hn:=H.n;have hhl:hd.length<=6:=by rcases H.h with e|e<;>rw[e]<;>decide
  refine zc0 l.length (Jb0 hd (l.map (·.2))) (fun x s=>x= .exit 0/\Jb0 hd (l.map (·.2)) l.length s) ?_ ?_ _ hJ ?_
  . rintro k s hlt ⟨⟨h1,h11,h12,h13,g0⟩,hP⟩;have h12':=h12;rw[Z18]at h12';have hw:=zaH k (by omega);have hc:=H.c _ (Z1 hlt);have hq:=hne _ (Z1 hlt);have hx:(l.map (·.2))[k]? =some l[k].2:=by rw[Z36,Z0 hlt];rfl
    generalize hA:l[k]=q at hc hx hq;have q1:=fun k=>zaC (k:=k) hc.vr
    have q2:=fun k=>zaC (k:=k) hc.cc
    have hnl:=hc.nl;have hal:=hc.al;have n0:¬0=s.c:=by omega
    unfold zha zjl;simp only[rU,C.l,C.r,C.b,C.o];simp[rW,h1,h11,h13,g0,h12',hlt,zic,hx,hA,cqE,zgo,zgp,zkT];refine bo_l2 (l:=l.map (·.2)) (i:=s.c) hc (k:=k) ⟨⟨by simp[rW,h1],by simp[rW],by simp[rW,h11],by simp[rW,h12],by simp[rW,h13],by simp[rW],by simp[rW],by simp[rW],by simp[rW,g0,n0],by simp[rW]⟩,hP,by simp only[rG];omega,.f .nils,[],by simp[rW],.inl ⟨rfl,rfl⟩,by simp,fun n a hn=>absurd hn (by omega)⟩ ?_;rintro s1 ⟨⟨j1,j4,j11,j12,j13,j18,j19,j20,f0,fi⟩,hi0,hi,d,L,j5,hG,hLl,hLm⟩;have hall:∀v∈hd++q.1,v∈L:=fun v hv=>by
      obtain⟨a,ha,hav⟩ :=hc.nb v hv;obtain⟨n,hn',rfl⟩ :=Z101.1 ha;exact hLm n _ hn' (Z0 hn') v hav
    have hL:L≠[]:=fun e=>by
      cases hq1:q.1 with
      |nil=>exact hq hq1
      | cons v t=>
        have:=hall v (by simp[hq1]);rw[e]at this;cases this
    have hSL:zdQ L≠[]:=by simpa [zdQ]using hL
    rcases hG with⟨_,e⟩ |⟨id,ro,rfl,-,g1,-,g3,g4⟩
    . exact absurd e hSL
    rw[zl1]at j5;rw[cqE]at q1;simp[rW,j1];refine zbf ?_;simp[rW,j1,j4,f0,fi,q1,q2,zbl,zcM,zoA];have nid:¬id=s1.c+1+1+1+1+1:=by omega
    refine bo_l4 (hd:=hd) (l:=l.map (·.2)) (id:=id) (k:=k) hL (by omega) hall (by simp;omega) ⟨⟨by simp[rW,j1],by simp[rW,j5],by simp[rW,j11],by simp[rW,j12],by simp[rW,j13],by simp[rW],by simp[rW,Z16],by simp[rW],by simp[rW,f0]⟩,by omega,by simp only[rG];omega,ro,by simp[rW,g1,nid]⟩ ?_;rintro s2 ⟨⟨i1,i5,i11,i12,i13,i39,i40,i41,e0⟩,-,hc2,-⟩;simp[rW,i13,hw];exact⟨⟨by simp[rW,i1],by simp[rW,i11],by simp[rW,i12],by simp[rW],by simp only[rG];exact e0⟩,by simp only[rG];omega⟩
  . rintro s ⟨⟨h1,h11,h12,h13,g0⟩,hP⟩;have h12':=h12;rw[Z18]at h12';unfold zha zjl;simp only[rU,C.l,C.r,C.b,C.o];simp[rW,h1,h11,h13,g0,h12'];exact⟨⟨by simp[rW,h1],by simp[rW,h11],by simp[rW,h12],by simp[rW,h13],by simp only[rG];exact g0⟩,by simp only[rG];exact hP⟩
  . rintro e s ⟨rfl,hJ⟩;exact kx s hJ
def zZh{sch:F}{hd:List Str}{l:List (List Str×CQ)}(H:QyV sch hd l)(hne:∀q∈l,q.1≠[]):Ans pr 116 [.ag [zak hd,qsF (l.map (·.2))]] (.b true):=by
 refine zdr fn116 ?_;simp only[zjl,rU];simp[rW,st0,zay,zbl,zeH,zfg,Z18];refine bo_l0 H hne ⟨⟨by simp[rW],by simp[rW],by simp[rW,Z18],by simp[rW],by simp[rW]⟩,by simp only[rG];omega⟩ fun s1 _=> ?_
 simp[rW]
def fn181:pr.fn 181=some zkr:=by kernel_rfl
def zf5(ks:List Str):List (F×D):=ks.map fun k=>(.s k,.f (.i .i64 1))
theorem zq4{k:Str}:∀{ks:List Str} {i:Nat},k∉ks->zcI 1 (.s k) (zf5 ks) i=some none
 |[],_,_=>rfl
 |p::ks,i,h=>by
  have h1:(k==p)=false:=by simpa using fun e:k=p=>h (by simp[e])
  simp only[zf5,Z10,zcI,zia,h1];exact zq4 (ks:=ks) fun hk=>h (by simp[hk])
theorem zoj{k:Str}:∀{ks:List Str} {i:Nat},k∈ks->∃j,zcI 1 (.s k) (zf5 ks) i=some (some (i+j,.f (.i .i64 1)))/\(zf5 ks).set j (.s k,.f (.i .i64 1))=zf5 ks
 |[],_,h=>by simp at h
 |p::ks,i,h=>by
  simp only[zf5,Z10,zcI,zia];cases h1:(k==p)with
  |true=>
   have e:k=p:=by simpa using h1
   subst e;exact⟨0,rfl,rfl⟩
  |false=>
   have h1:k≠p:=by simpa using h1
   rcases Z5.1 h with e|hk
   .exact absurd e h1
   .obtain⟨j,e1,e2⟩ :=zoj (ks:=ks) (i:=i+1) hk;refine⟨j+1,by rw[show i+(j+1)=i+1+j by omega];exact e1,?_⟩;simp only[Z189];exact congrArg _ e2
def zi6:C:=zkr.body.r.r.l.r.b.o
def zqJ:C:=zi6.r.r.l.b.r.r.r.r.b.o
def Kct(h:T Ob)(c0 Mp:Nat)(s:St):Prop:=c0<=Mp/\Mp<s.c/\(∀id,id<c0->s.h.get id=h.get id)/\∃ks,s.h.get Mp=some (.map (zf5 ks))
def zBQ(sch:F)(c:CQ)(h:T Ob)(c0 Mp k i9:Nat)(a:Atm)(ce:Bool)(cols:List (List F))(j:Nat)(s:St):Prop:=(s.tm.get 0=some (.f sch)/\s.tm.get 6=some (.mp Mp)/\s.tm.get 9=some (.ptr i9 3 0 0)/\s.tm.get 16=some (.f (zcL c))/\s.tm.get 17=some (.f (.i .i64 c.as.length))/\s.tm.get 18=some (.f (.i .i64 k))/\s.tm.get 37=some (.f (zf6 a.ts))/\s.tm.get 38=some (.f (.i .i64 a.ts.length))/\s.tm.get 39=some (.f (.i .i64 j))/\s.h.get i9=some (.arr 3 0 [[.f (.s a.r),.f (.b ce),.f (slc 3 cols)]]))/\Kct h c0 Mp s/\Mp<i9/\i9<s.c
def ct_l2{sch:F}{hd ns:List Str}{c:CQ}{h:T Ob}{c0 Mp k i9:Nat}{a:Atm}{ce:Bool}{cols:List (List F)}(hc:CqV sch hd ns c)(ha:a∈c.as)(hl:cols.length=a.ts.length)(hcol:∀x∈cols,∃s b,x=[F.s s,.i .i64 1,.b b]){s:St}{Q:Ex->St->Prop}(hJ:zBQ sch c h c0 Mp k i9 a ce cols 0 s)(kx:∀s,zBQ sch c h c0 Mp k i9 a ce cols a.ts.length s->Q (.exit 2) s):WL pr zqJ s Q:=by
 have htl:=hc.tl a ha;refine zc0 a.ts.length (zBQ sch c h c0 Mp k i9 a ce cols) (fun x s=>x= .exit 2/\zBQ sch c h c0 Mp k i9 a ce cols a.ts.length s) ?_ ?_ _ hJ ?_
 .rintro j s hlt ⟨⟨h0,h6,h9,h16,h17,h18,h37,h38,h39,g9⟩,⟨hM0,hMc,hf,ks,gM⟩,hM9,h9c⟩;have hw:=zaH j (by omega);have hx:a.ts[j]? =some a.ts[j]:=Z0 hlt;have hm:=Z1 hlt;generalize hA:a.ts[j]=t at hx hm;have hy:cols[j]? =some cols[j]:=Z0 (by omega);obtain⟨cn,cb,e⟩ :=hcol _ (Z1 (by omega:j<cols.length));rw[e]at hy;have n9:¬i9=s.c:=by omega
  have nM:¬Mp=s.c:=by omega
  have n9M:¬i9=Mp:=by omega
  have hcd:(slc 3 cols).d= .f (slc 3 cols):=zeM ..;have hia:∀n,iaB 3 (.f (slc 3 cols)) n=cols[n]?.map D.fptr:=fun n=>zgg ..
  cases t with
  |cst n=>
   have q0:=hc.ct a ha n hm;simp only[Sm.vF]at q0;have q1:=fun k=>zaC (k:=k) q0
   unfold zqJ zi6 zkr;simp only[rU,C.l,C.r,C.b,C.o];simp[rW,h0,h6,h9,h16,h17,h18,h37,h38,h39,g9,hlt,zrO,hx,hA,tmE,tv_c,tk_c,tn_c,n9,nM,hia,hy,q1,hw];exact⟨⟨by simp[rW,h0],by simp[rW,h6],by simp[rW,h9],by simp[rW,h16],by simp[rW,h17],by simp[rW,h18],by simp[rW,h37],by simp[rW,h38],by simp[rW],by simp[rW,g9,n9]⟩,⟨hM0,by simp only[rG];omega,fun id hid=>by
    have n:¬id=s.c:=by omega
    simp[rW,n];exact hf id hid,ks,by simp[rW,gM,nM]⟩,hM9,by simp only[rG];omega⟩
  |var v=>
   have hv:=hc.vn a ha v hm;unfold zqJ zi6 zkr;simp only[rU,C.l,C.r,C.b,C.o]
   by_cases hk:v∈ks
   .obtain⟨jj,f1,f2⟩ :=zoj (i:=0) hk;rw[Z25]at f1;simp[rW,h0,h6,h9,h16,h17,h18,h37,h38,h39,g9,hlt,zrO,hx,hA,tmE,tv_v,tk_v,tn_v,n9,nM,hia,hy,gM,f1,f2,hv,hw];exact⟨by omega,⟨by simp[rW,h0],by simp[rW,h6],by simp[rW,h9],by simp[rW,h16],by simp[rW,h17],by simp[rW,h18],by simp[rW,h37],by simp[rW,h38],by simp[rW],by simp[rW,g9,n9,n9M]⟩,⟨hM0,by simp only[rG];omega,fun id hid=>by
     have n:¬id=s.c:=by omega
     have n2:¬id=Mp:=by omega
     simp[rW,n,n2];exact hf id hid,ks,by simp[rW,gM,nM,f2]⟩,hM9,by simp only[rG];omega⟩
   .have f1:=zq4 (i:=0) hk;simp[rW,h0,h6,h9,h16,h17,h18,h37,h38,h39,g9,hlt,zrO,hx,hA,tmE,tv_v,tk_v,tn_v,n9,nM,hia,hy,gM,f1,hv,hw];exact⟨by omega,⟨by simp[rW,h0],by simp[rW,h6],by simp[rW,h9],by simp[rW,h16],by simp[rW,h17],by simp[rW,h18],by simp[rW,h37],by simp[rW,h38],by simp[rW],by simp[rW,g9,n9,n9M]⟩,⟨hM0,by simp only[rG];omega,fun id hid=>by
     have n:¬id=s.c:=by omega
     have n2:¬id=Mp:=by omega
     simp[rW,n,n2];exact hf id hid,ks++[v],by simp[rW,gM,nM,zf5]⟩,hM9,by simp only[rG];omega⟩
 .rintro s ⟨⟨h0,h6,h9,h16,h17,h18,h37,h38,h39,g9⟩,⟨hM0,hMc,hf,ks,gM⟩,hM9,h9c⟩;unfold zqJ zi6 zkr;simp only[rU,C.l,C.r,C.b,C.o];simp[rW,h0,h6,h9,h16,h17,h18,h37,h38,h39];exact⟨⟨by simp[rW,h0],by simp[rW,h6],by simp[rW,h9],by simp[rW,h16],by simp[rW,h17],by simp[rW,h18],by simp[rW,h37],by simp[rW,h38],by simp[rW,h39],by simp only[rG];exact g9⟩,⟨hM0,by simp only[rG];exact hMc,fun id hid=>by simp only[rG];exact hf id hid,ks,by simp only[rG];exact gM⟩,hM9,by simp only[rG];exact h9c⟩
 .rintro e s ⟨rfl,hJ⟩;exact kx s hJ
def zBO(sch:F)(c:CQ)(h:T Ob)(c0 Mp k:Nat)(s:St):Prop:=(s.tm.get 0=some (.f sch)/\s.tm.get 6=some (.mp Mp)/\s.tm.get 16=some (.f (zcL c))/\s.tm.get 17=some (.f (.i .i64 c.as.length))/\s.tm.get 18=some (.f (.i .i64 k)))/\Kct h c0 Mp s
def ct_l0{sch:F}{hd ns:List Str}{c:CQ}{h:T Ob}{c0 Mp:Nat}(hs:sch.d= .f sch)(hc:CqV sch hd ns c){s:St}{Q:Ex->St->Prop}(hJ:zBO sch c h c0 Mp 0 s)(kx:∀s,zBO sch c h c0 Mp c.as.length s->Q (.exit 0) s):WL pr zi6 s Q:=by
 have hal:=hc.al;refine zc0 c.as.length (zBO sch c h c0 Mp) (fun x s=>x= .exit 0/\zBO sch c h c0 Mp c.as.length s) ?_ ?_ _ hJ ?_
 .rintro k s hlt ⟨⟨h0,h6,h16,h17,h18⟩,hM0,hMc,hf,ks,gM⟩;have hw:=zaH k (by omega);have hx:c.as[k]? =some c.as[k]:=Z0 hlt;have ha:=Z1 hlt;obtain⟨ce,cols,hfd,hl,hcol⟩ :=hc.fd _ ha;generalize hA:c.as[k]=a at hx ha hfd hl;have q1:=fun k=>zaC (k:=k) hfd
  have htd:=zuE a.ts;have hcd:(slc 3 cols).d= .f (slc 3 cols):=zeM ..;have hcl:zco (.f (slc 3 cols))=some cols.length:=zeo ..;have n1:¬s.c=s.c+1:=by omega
  have nM:¬Mp=s.c:=by omega
  have nM':¬Mp=s.c+1:=by omega
  unfold zi6 zkr;simp only[rU,C.l,C.r,C.b,C.o];simp[rW,h0,h6,h16,h17,h18,hlt,zqI,hx,hA,atE,htd,hcd,q1,hs,n1,zfE,zBE,hcl,hl];refine ct_l2 (ce:=ce) (i9:=s.c+1) (k:=k) hc ha hl hcol ⟨⟨by simp[rW,h0],by simp[rW,h6],by simp[rW],by simp[rW,h16],by simp[rW,h17],by simp[rW,h18],by simp[rW],by simp[rW],by simp[rW],by simp[rW]⟩,⟨hM0,by simp only[rG];omega,fun id hid=>by
   have n:¬id=s.c:=by omega
   have n2:¬id=s.c+1:=by omega
   simp[rW,n,n2];exact hf id hid,ks,by simp[rW,gM,nM,nM']⟩,by omega,by simp only[rG];omega⟩ ?_
  rintro s1 ⟨⟨j0,j6,j9,j16,j17,j18,-⟩,hK,-⟩;simp[rW,j18,hw];exact⟨⟨by simp[rW,j0],by simp[rW,j6],by simp[rW,j16],by simp[rW,j17],by simp[rW]⟩,hK.1,by simp only[rG];exact hK.2.1,fun id hid=>by simp only[rG];exact hK.2.2.1 id hid,by simp only[rG];exact hK.2.2.2⟩
 .rintro s ⟨⟨h0,h6,h16,h17,h18⟩,hM0,hMc,hf,ks,gM⟩;unfold zi6 zkr;simp only[rU,C.l,C.r,C.b,C.o];simp[rW,h0,h6,h16,h17,h18];exact⟨⟨by simp[rW,h0],by simp[rW,h6],by simp[rW,h16],by simp[rW,h17],by simp[rW,h18]⟩,hM0,by simp only[rG];exact hMc,fun id hid=>by simp only[rG];exact hf id hid,ks,by simp only[rG];exact gM⟩
 .rintro e s ⟨rfl,hJ⟩;exact kx s hJ
def CtP(h:T Ob)(c0:Nat)(d:D)(h':T Ob)(c':Nat):Prop:=∃Mp,d= .tu [.mp Mp,.f (.b true)]/\c0<=Mp/\Mp<c'/\(∀id,id<c0->h'.get id=h.get id)/\∃ks,h'.get Mp=some (.map (zf5 ks))
def zZ7{sch:F}{hd ns:List Str}{c:CQ}{h:T Ob}{c0:Nat}(hs:sch.d= .f sch)(hc:CqV sch hd ns c):Eff pr 181 [.f sch,.ag [.f (zcL c),.f (zda c)]] h c0 (CtP h c0):=by
 refine zb2 kps fn181 (fun d h' c' ⟨Mp,e,_⟩ hd _=>by rw[e]at hd;cases hd) ?_;have n1:¬c0=c0+1:=by omega
 simp only[zkr,rU];simp[rW,st0,zay,zkT,n1];refine ct_l0 (h:=h) (c0:=c0) (Mp:=c0+1) hs hc ⟨⟨by simp[rW],by simp[rW],by simp[rW],by simp[rW],by simp[rW]⟩,by omega,by simp only[rG];omega,fun id hid=>by
  have n:¬id=c0:=by omega
  have n2:¬id=c0+1:=by omega
  simp[rW,n,n2],[],by simp[rW,zf5]⟩ ?_
 rintro s1 ⟨⟨j0,j6,-⟩,hM0,hMc,hf,ks,gM⟩;simp[rW,j6,zaU];exact⟨_,rfl,by omega,hMc,hf,ks,gM⟩
def fn115:pr.fn 115=some zjk:=by kernel_rfl
def fn54:pr.fn 54=some g54:=by kernel_rfl
def fn25:pr.fn 25=some g25:=by kernel_rfl
def zik:C:=zjk.body.r.r.l.r.b.o
def zmY:C:=zik.r.r.l.b.r.r.r.r.r.b.o
def zB0(sch:F)(hd:List Str)(l:List CQ)(k Hp Mp j:Nat)(s:St):Prop:=(s.tm.get 0=some (.f sch)/\s.tm.get 3=some (.ptr 0 2 0 0)/\s.tm.get 5=some (.mp Hp)/\s.tm.get 8=some (.mp Mp)/\s.tm.get 16=some (.f (qsF l))/\s.tm.get 17=some (.f (.i .i64 l.length))/\s.tm.get 18=some (.f (.i .i64 k))/\s.tm.get 43=some (.f (zak hd))/\s.tm.get 44=some (.f (.i .i64 hd.length))/\s.tm.get 45=some (.f (.i .i64 j))/\s.h.get 0=some (.arr 2 0 [[.f (zak hd),.f (qsF l)]]))/\0<Hp/\Hp<Mp/\Mp<s.c/\(∃ks,s.h.get Hp=some (.map (zf5 ks)))/\∃ks,s.h.get Mp=some (.map (zf5 ks))
def vt_l4{sch:F}{hd:List Str}{l:List CQ}{k Hp Mp:Nat}(hhl:hd.length<=6){s:St}{Q:Ex->St->Prop}(hJ:zB0 sch hd l k Hp Mp 0 s)(kx:∀s,zB0 sch hd l k Hp Mp hd.length s->Q (.exit 4) s):WL pr zmY s Q:=by
 refine zc0 hd.length (zB0 sch hd l k Hp Mp) (fun x s=>x= .exit 4/\zB0 sch hd l k Hp Mp hd.length s) ?_ ?_ _ hJ ?_
 .rintro j s hlt ⟨⟨h0,h3,h5,h8,h16,h17,h18,h43,h44,h45,g0⟩,hH0,hHM,hMc,⟨k1,gH⟩,k2,gM⟩;have hw:=zaH j (by omega);have hx:hd[j]? =some hd[j]:=Z0 hlt;generalize hA:hd[j]=v at hx;have nHM:¬Mp=Hp:=by omega
  have n0:¬0=Hp:=by omega
  by_cases m2:v∈k2
  .obtain⟨j2,f2,e2⟩ :=zoj (i:=0) m2
   by_cases m1:v∈k1
   .obtain⟨j1,f1,e1⟩ :=zoj (i:=0) m1;rw[Z25]at f1;unfold zmY zik zjk;simp only[rU,C.l,C.r,C.b,C.o];simp[rW,h0,h3,h5,h8,h16,h17,h18,h43,h44,h45,g0,hlt,zfq,hx,hA,gH,gM,f1,f2,e1,hw];exact⟨by omega,⟨by simp[rW,h0],by simp[rW,h3],by simp[rW,h5],by simp[rW,h8],by simp[rW,h16],by simp[rW,h17],by simp[rW,h18],by simp[rW,h43],by simp[rW,h44],by simp[rW],by simp[rW,g0,n0]⟩,hH0,hHM,by simp only[rG];exact hMc,⟨k1,by simp[rW,e1]⟩,k2,by simp[rW,gM,nHM]⟩
   .have f1:=zq4 (i:=0) m1;unfold zmY zik zjk;simp only[rU,C.l,C.r,C.b,C.o];simp[rW,h0,h3,h5,h8,h16,h17,h18,h43,h44,h45,g0,hlt,zfq,hx,hA,gH,gM,f1,f2,hw];exact⟨by omega,⟨by simp[rW,h0],by simp[rW,h3],by simp[rW,h5],by simp[rW,h8],by simp[rW,h16],by simp[rW,h17],by simp[rW,h18],by simp[rW,h43],by simp[rW,h44],by simp[rW],by simp[rW,g0,n0]⟩,hH0,hHM,by simp only[rG];exact hMc,⟨k1++[v],by simp[rW,zf5]⟩,k2,by simp[rW,gM,nHM]⟩
  .have f2:=zq4 (i:=0) m2;unfold zmY zik zjk;simp only[rU,C.l,C.r,C.b,C.o];simp[rW,h0,h3,h5,h8,h16,h17,h18,h43,h44,h45,g0,hlt,zfq,hx,hA,gM,f2,hw];exact⟨⟨by simp[rW,h0],by simp[rW,h3],by simp[rW,h5],by simp[rW,h8],by simp[rW,h16],by simp[rW,h17],by simp[rW,h18],by simp[rW,h43],by simp[rW,h44],by simp[rW],by simp only[rG];exact g0⟩,hH0,hHM,by simp only[rG];exact hMc,⟨k1,by simp only[rG];exact gH⟩,k2,by simp only[rG];exact gM⟩
 .rintro s ⟨⟨h0,h3,h5,h8,h16,h17,h18,h43,h44,h45,g0⟩,hH0,hHM,hMc,⟨k1,gH⟩,k2,gM⟩;unfold zmY zik zjk;simp only[rU,C.l,C.r,C.b,C.o];simp[rW,h0,h3,h5,h8,h16,h17,h18,h43,h44,h45];exact⟨⟨by simp[rW,h0],by simp[rW,h3],by simp[rW,h5],by simp[rW,h8],by simp[rW,h16],by simp[rW,h17],by simp[rW,h18],by simp[rW,h43],by simp[rW,h44],by simp[rW,h45],by simp only[rG];exact g0⟩,hH0,hHM,by simp only[rG];exact hMc,⟨k1,by simp only[rG];exact gH⟩,k2,by simp only[rG];exact gM⟩
 .rintro e s ⟨rfl,hJ⟩;exact kx s hJ
def zBZ(sch:F)(hd:List Str)(l:List CQ)(Hp k:Nat)(s:St):Prop:=(s.tm.get 0=some (.f sch)/\s.tm.get 3=some (.ptr 0 2 0 0)/\s.tm.get 5=some (.mp Hp)/\s.tm.get 16=some (.f (qsF l))/\s.tm.get 17=some (.f (.i .i64 l.length))/\s.tm.get 18=some (.f (.i .i64 k))/\s.h.get 0=some (.arr 2 0 [[.f (zak hd),.f (qsF l)]]))/\0<Hp/\Hp<s.c/\∃ks,s.h.get Hp=some (.map (zf5 ks))
def vt_l0{sch:F}{hd:List Str}{l:List (List Str×CQ)}{Hp:Nat}(H:QyV sch hd l){s:St}{Q:Ex->St->Prop}(hJ:zBZ sch hd (l.map (·.2)) Hp 0 s)(kx:∀s,zBZ sch hd (l.map (·.2)) Hp l.length s->Q (.exit 0) s):WL pr zik s Q:=by
  have hn:=H.n;have hhl:hd.length<=6:=by rcases H.h with e|e<;>rw[e]<;>decide
  refine zc0 l.length (zBZ sch hd (l.map (·.2)) Hp) (fun x s=>x= .exit 0/\zBZ sch hd (l.map (·.2)) Hp l.length s) ?_ ?_ _ hJ ?_
  . rintro k s hlt ⟨⟨h0,h3,h5,h16,h17,h18,g0⟩,hH0,hHc,ks,gH⟩;have h17':=h17;rw[Z18]at h17';have hw:=zaH k (by omega);have hc:=H.c _ (Z1 hlt);have hx:(l.map (·.2))[k]? =some l[k].2:=by rw[Z36,Z0 hlt];rfl
    generalize hA:l[k]=q at hc hx;have n0:¬0=s.c:=by omega
    have nH:¬Hp=s.c:=by omega
    have hck:=hc.k;unfold zik zjk;simp only[rU,C.l,C.r,C.b,C.o];simp[rW,h0,h3,h5,h16,h18,g0,h17',hlt,zic,hx,hA,cqE,zgo,zgp];refine zbQ [(0,.f sch),(3,.ptr 0 2 0 0),(5,.mp Hp),(7,.ptr s.c 2 0 0),(16,.f (qsF (l.map (·.2)))),(17,.f (.i .i64 l.length)),(18,.f (.i .i64 k))] (zZ7 (h:=(s.h.set s.c (.arr 2 0 [[.f .nils,.f .nils]])).set s.c (.arr 2 0 [[.f (zcL q.2),.f (zda q.2)]])) (c0:=s.c+1) H.s hc) (by simp only[rG]) (by simp only[rG]) (by simp only[Rg];simp[rW,h0,h3,h5,h16,h18,h17']) rfl ?_;rintro s1 d1 ⟨Mp,rfl,hM0,hMc,hf,k2,gM⟩ hc1 j25 ⟨j0,j3,j5,j7,j16,j17,j18,-⟩;have f0:s1.h.get 0=some (.arr 2 0 [[.f (zak hd),.f (qsF (l.map (·.2)))]]):=by rw[hf 0 (by omega)];simp[rW,g0,n0]
    have fH:s1.h.get Hp=some (.map (zf5 ks)):=by rw[hf Hp (by omega)];simp[rW,gH,nH]
    have f7:s1.h.get s.c=some (.arr 2 0 [[.f (zcL q.2),.f (zda q.2)]]):=by rw[hf s.c (by omega)];simp[rW]
    refine⟨?_⟩;simp[rW,j7,j25,f7,zr3,hck];refine round ?_;simp[rW,j3,f0,zcM];refine vt_l4 (sch:=sch) (hd:=hd) (l:=l.map (·.2)) (Hp:=Hp) (Mp:=Mp) (k:=k) hhl ⟨⟨by simp[rW,j0],by simp[rW,j3],by simp[rW,j5],by simp[rW],by simp[rW,j16],by simp[rW,j17,Z18],by simp[rW,j18],by simp[rW],by simp[rW],by simp[rW],by simp only[rG];exact f0⟩,hH0,by omega,by simp only[rG];exact hMc,⟨ks,by simp only[rG];exact fH⟩,k2,by simp only[rG];exact gM⟩ ?_;rintro s2 ⟨⟨i0,i3,i5,i8,i16,i17,i18,-,-,-,e0⟩,-,-,hc2,⟨k3,eH⟩,-⟩;simp[rW,i18,hw];exact⟨⟨by simp[rW,i0],by simp[rW,i3],by simp[rW,i5],by simp[rW,i16],by simp[rW,i17],by simp[rW],by simp only[rG];exact e0⟩,hH0,by simp only[rG];omega,k3,by simp only[rG];exact eH⟩
  . rintro s ⟨⟨h0,h3,h5,h16,h17,h18,g0⟩,hH0,hHc,ks,gH⟩;have h17':=h17;rw[Z18]at h17';unfold zik zjk;simp only[rU,C.l,C.r,C.b,C.o];simp[rW,h0,h3,h5,h16,h18,h17'];exact⟨⟨by simp[rW,h0],by simp[rW,h3],by simp[rW,h5],by simp[rW,h16],by simp[rW,h17],by simp[rW,h18],by simp only[rG];exact g0⟩,hH0,by simp only[rG];exact hHc,ks,by simp only[rG];exact gH⟩
  . rintro e s ⟨rfl,hJ⟩;exact kx s hJ
def zZg{sch:F}{hd:List Str}{l:List (List Str×CQ)}(H:QyV sch hd l):Ans pr 115 [sch,.ag [zak hd,qsF (l.map (·.2))]] (.b true):=by
 have hs:=H.s;refine zdr fn115 ?_;simp only[zjk,rU];simp[rW,st0,zay,hs,zbl,zeH,zfg,Z18];refine vt_l0 (Hp:=1) H ⟨⟨by simp[rW,hs],by simp[rW],by simp[rW],by simp[rW],by simp[rW,Z18],by simp[rW],by simp[rW]⟩,by omega,by simp only[rG];omega,[],by simp[rW,zf5]⟩ fun s1 _=> ?_
 simp[rW]
def ans54{sch:F}{hd:List Str}{l:List (List Str×CQ)}(H:QyV sch hd l)(hne:∀q∈l,q.1≠[])(hsc:Ans pr 112 [sch] (.b true)):Ans pr 54 [sch,.ag [zak hd,qsF (l.map (·.2))]] (.i .i64 0):=by
 have hs:=H.s;have q1:=fun k=>zaC (k:=k) hsc
 have q2:=fun k=>zaC (k:=k) (zZd H)
 have q3:=fun k=>zaC (k:=k) (zZf H)
 have q4:=fun k=>zaC (k:=k) (zZg H)
 have q5:=fun k=>zaC (k:=k) (zZh H hne)
 refine zdr fn54 ?_;simp only[g54,rU];simp[rW,st0,zay,hs,zbl,zeH,q1,q2,q3,q4,q5]
def JV25(L:List Rl)(q0 q1:F)(k:Nat)(s:St):Prop:=(s.tm.get 0=some (.f (zbS L))/\s.tm.get 3=some (.ptr 0 2 0 0)/\s.tm.get 7=some (.f (zbS L))/\s.tm.get 8=some (.f (.i .i64 L.length))/\s.tm.get 9=some (.f (.i .i64 k))/\s.h.get 0=some (.arr 2 0 [[.f q0,.f q1]]))/\0<s.c
def ans25{L:List Rl}{sch q0 q1:F}{e:Int}(hn:L.length<=8)(hco:∀r∈L,r.co.d= .f r.co/\(D.f r.co).cells=some [.f r.co])(hV:∀r∈L,Ans pr 53 [.ag (rlF r)] (.i .i64 0))(hsp:Ans pr 55 [zbS L] sch)(hsd:sch.d= .f sch)(h0:q0.d= .f q0)(h1:q1.d= .f q1)(hq:Ans pr 54 [sch,.ag [q0,q1]] (.i .i64 e)):Ans pr 25 [zbS L,.ag [q0,q1]] (.b (e==0)):=by
 have q1':=fun k=>zaC (k:=k) hq
 have q2':=fun k=>zaC (k:=k) hsp
 refine zdr fn25 ?_;simp only[g25,rU];simp[rW,st0,zay,ziK,zsm,h0,h1];refine zc0 L.length (JV25 L q0 q1) (fun x s=>x= .exit 0/\JV25 L q0 q1 L.length s) ?_ ?_ _ ⟨⟨by simp[rW],by simp[rW],by simp[rW],by simp[rW],by simp[rW],by simp[rW]⟩,by simp only[rG];omega⟩ ?_
 .rintro k s hlt ⟨⟨h0,h3,h7,h8,h9,gP⟩,hPc⟩;have hw:=zaH k (by omega);have hx:L[k]? =some L[k]:=Z0 hlt;have hrm:=Z1 hlt;generalize hA:L[k]=r at hx hrm;obtain⟨hc1,hc2⟩ :=hco r hrm;have hd:(zdf r.tu).d= .f (zdf r.tu):=zEx _;have hc3:(D.f (zdf r.tu)).cells=some [.f (zdf r.tu)]:=zfE _ _;have hva:=hV r hrm;rw[rlE]at hva;have q3:=fun k=>zaC (k:=k) hva
  have n1:¬0=s.c:=by omega
  simp[rW,h0,h3,h7,h8,h9,hlt,znF,hx,hA,rlE,hc2,hc1,hd,hc3,q3,hw];exact⟨⟨by simp[rW,h0],by simp[rW,h3],by simp[rW,h7],by simp[rW,h8],by simp[rW],by simp[rW,gP,n1]⟩,by simp only[rG];omega⟩
 .rintro s ⟨⟨h0,h3,h7,h8,h9,gP⟩,hPc⟩;simp[rW,h0,h3,h7,h8,h9];exact⟨⟨by simp[rW,h0],by simp[rW,h3],by simp[rW,h7],by simp[rW,h8],by simp[rW,h9],by simp[rW,gP]⟩,by simp only[rG];omega⟩
 .rintro x s ⟨rfl,⟨h0,h3,h7,h8,h9,gP⟩,hPc⟩;simp[rW,h0,h3,h7,h8,h9];refine zbf ?_;simp[rW,h0,h3,h7,h8,h9,gP,q2',q1',hsd,ziK]
end Go.Proofs.YthcehnaehljnfaaGreatDoor
end
