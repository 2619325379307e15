/- The program's search: whether some atom, comparison or candidate does. -/
import Derived.Test.YtflgmemhalhdbaaGreatDoorPb
import Derived.KernelRfl
import Derived.IntWalk
set_option linter.all false
set_option maxRecDepth 100000
set_option maxHeartbeats 4000000
section
namespace Go.Proofs.YtflgmemhalhdbaaGreatDoor
open Go Go.Vse Go.Vse.Sm
def fn109:pr.fn 109=some zy9:=by kernel_rfl
def fn89:pr.fn 89=some g89:=by kernel_rfl
def fn113:pr.fn 113=some zzd:=by kernel_rfl
def fn136:pr.fn 136=some zzy:=by kernel_rfl
def fn112:pr.fn 112=some zzc:=by kernel_rfl
def fn90:pr.fn 90=some g90:=by kernel_rfl
def fn95:pr.fn 95=some g95:=by kernel_rfl
def fn71:pr.fn 71=some g71:=by kernel_rfl
theorem ro92{a b:CQ}{ns:List Str}{im:List Trm}{asg:List Bool}{dA dC dT:D}{h:T Ob}{c S M I A B J:Nat}(H:SAt a b ns im asg dA dC dT h c S M I A)(ho:zfw im asg){i:Nat}(hi:i<a.as.length)(ha:∀t∈(a.as[i]).ts,InV ns t)(hal:(a.as[i]).ts.length<1000)(y:Atm)(hy:zc1 y)
  (gB:h.get B=some (.arr 1 0 [[.ptr S 11 0 0]]))(gJ:h.get J=some (.arr 1 0 [[.f (.i .i64 (i:Int))]]))(hB:B<c)(hJ:J<c):
  RO pr 92 [.ag (atD y),.ptr B 1 0 0,.ptr J 1 0 0] h c (.f (.b (ziy ns im asg a.as[i] y))):=by
 refine zcA za0 fn92 rfl ?_;simp only[g92,rU];have gS:=H.gS;have nS:¬S=c:=by have:=H.bS;omega
 have nB:¬B=c:=by omega
 have nJ:¬J=c:=by omega
 simp[rW,st0,zah,atD];refine za5 ?_;simp[rW,st0,zah,gB,gJ,gS,nS,nB,nJ,zeK,hi,atE];refine zbS (ro93 (H.up ?_ ?_) ho a.as[i] y ha hy hal) ?_ ?_ ?_
 .intro id hid;simp only[rG];simp[TG,show id≠c by omega]
 .simp only[rG];omega
 .simp only[rG];simp (disch:=omega) only[za3,za9];omega
 .simp[ckG,ck1]
 .intro mx hmx;simp[rW,zaO];simp (disch:=omega) only[za3,za9]
theorem ro110(cq:CQ)(p:Atm->Bool)(hl:cq.as.length<100000){h:T Ob}{c g:Nat}{cap:List D}(hcl:∀n (hn:n<cq.as.length),RO pr g (.ag (atD cq.as[n])::cap) h c (.f (.b (p cq.as[n])))):
  RO pr 110 [.f (zaS cq),.fn g [] cap] h c (.f (.i .i64 (ixP cq.as p))):=by
 refine zcA za0 fn110 rfl ?_;simp only[zza,rU];simp[rW,st0,zah,zeu];refine zfa cq.as p (fun n s=>s.tm.get 0=some (.f (zaS cq))/\s.tm.get 1=some (.fn g [] cap)/\s.tm.get 7=some (.f (.i .i64 cq.as.length))/\s.tm.get 8=some (.f (.i .i64 n))/\s.h=h/\s.c=c/\s.lw=c) (fun x s=>x= .exit 0/\s.lw=c) (fun n y s=>y= .ret/\s.tm.get 4=some (.f (.i .i64 n))/\s.lw=c) ?_ ?_ _ ?_ ?_ ?_
 .rintro n s hn ⟨h0,h1,h7,h8,eh,ec,el⟩;have hw:=zao n (by omega);have hp:=hcl n hn;generalize hA:cq.as[n]=A at hp|-;have hA':cq.as[n]? =some A:=by rw[Z0 hn,hA]
  simp[rW,h0,h1,h7,h8,hn,zeK,hA',hA,atE];refine zbW (d:= .f (.b (p A))) ?_ ?_ ?_
  .simp only[rG];rw[eh,ec];exact hp
  .simp only[rG];omega
  .intro mx;cases hb:p A with
   |true=>simp[rW,h0,h1,h7,h8,el]
   |false=>simp[rW,h0,h1,h7,h8,hw,eh,ec,el]
 .rintro s ⟨h0,h1,h7,h8,eh,ec,el⟩;simp[rW,h0,h1,h7,h8,el]
 .simp[rW,st0,zah]
 .rintro h z s ⟨rfl,el⟩;rw[ziG h];simp[rW,zaO,el]
 .rintro n hn hp hm z s ⟨rfl,h4,el⟩;rw[zhq hn hp hm];simp[rW,h4,zaO,el]
theorem ro91(cq:CQ)(p:Atm->Bool)(hl:cq.as.length<100000){h:T Ob}{c g:Nat}{cap:List D}(hcl:∀n (hn:n<cq.as.length),RO pr g (.ag (atD cq.as[n])::cap) h c (.f (.b (p cq.as[n])))):
  RO pr 91 [.f (zaS cq),.fn g [] cap] h c (.f (.b (cq.as.any p))):=by
 refine zcA za0 fn91 rfl ?_;simp only[g91,rU];rw[<-zkT cq.as p];simp[rW,st0,zah];refine zbW (d:= .f (.i .i64 (ixP cq.as p))) ?_ ?_ ?_
 .simp only[rG];exact ro110 cq p hl hcl
 .simp only[rG];omega
 .intro mx;simp[rW,zaO]
theorem ro136(cq:CQ)(p:Cm->Bool)(hl:cq.cs.length<100000){h:T Ob}{c g:Nat}{cap:List D}(hcl:∀n (hn:n<cq.cs.length),RO pr g (.ag (cmD cq.cs[n])::cap) h c (.f (.b (p cq.cs[n])))):
  RO pr 136 [.f (zaQ cq),.fn g [] cap] h c (.f (.i .i64 (ixP cq.cs p))):=by
 refine zcA za0 fn136 rfl ?_;simp only[zzy,rU];simp[rW,st0,zah,zhH];refine zfa cq.cs p (fun n s=>s.tm.get 0=some (.f (zaQ cq))/\s.tm.get 1=some (.fn g [] cap)/\s.tm.get 7=some (.f (.i .i64 cq.cs.length))/\s.tm.get 8=some (.f (.i .i64 n))/\s.h=h/\s.c=c/\s.lw=c) (fun x s=>x= .exit 0/\s.lw=c) (fun n y s=>y= .ret/\s.tm.get 4=some (.f (.i .i64 n))/\s.lw=c) ?_ ?_ _ ?_ ?_ ?_
 .rintro n s hn ⟨h0,h1,h7,h8,eh,ec,el⟩;have hw:=zao n (by omega);have hp:=hcl n hn;generalize hA:cq.cs[n]=A at hp|-;have hA':cq.cs[n]? =some A:=by rw[Z0 hn,hA]
  simp[rW,h0,h1,h7,h8,hn,zkG,hA',hA,cmF,tmE];refine zbW (d:= .f (.b (p A))) ?_ ?_ ?_
  .simp only[rG];rw[eh,ec];exact hp
  .simp only[rG];omega
  .intro mx;cases hb:p A with
   |true=>simp[rW,h0,h1,h7,h8,el]
   |false=>simp[rW,h0,h1,h7,h8,hw,eh,ec,el]
 .rintro s ⟨h0,h1,h7,h8,eh,ec,el⟩;simp[rW,h0,h1,h7,h8,el]
 .simp[rW,st0,zah]
 .rintro h z s ⟨rfl,el⟩;rw[ziG h];simp[rW,zaO,el]
 .rintro n hn hp hm z s ⟨rfl,h4,el⟩;rw[zhq hn hp hm];simp[rW,h4,zaO,el]
theorem ro112(cq:CQ)(p:Cm->Bool)(hl:cq.cs.length<100000){h:T Ob}{c g:Nat}{cap:List D}(hcl:∀n (hn:n<cq.cs.length),RO pr g (.ag (cmD cq.cs[n])::cap) h c (.f (.b (p cq.cs[n])))):
  RO pr 112 [.f (zaQ cq),.fn g [] cap] h c (.f (.b (cq.cs.any p))):=by
 refine zcA za0 fn112 rfl ?_;simp only[zzc,rU];rw[<-zkT cq.cs p];simp[rW,st0,zah];refine zbW (d:= .f (.i .i64 (ixP cq.cs p))) ?_ ?_ ?_
 .simp only[rG];exact ro136 cq p hl hcl
 .simp only[rG];omega
 .intro mx;simp[rW,zaO]
def zi7(x y:Cm):Bool:=y.op==x.op&&((zb2 y.l x.l&&zb2 y.r x.r)||((x.op==1||x.op==2)&&zb2 y.l x.r&&zb2 y.r x.l))
theorem ro113(x y:Cm)(hx:zdm x)(hy:zdm y){h:T Ob}{c K Y:Nat}(gK:h.get K=some (.arr 9 0 [cmD x]))(gY:h.get Y=some (.arr 1 0 [[.f (.b (x.op==1||x.op==2))]]))(hK:K<c)(hY:Y<c):
  RO pr 113 [.ag (cmD y),.ptr K 9 0 0,.ptr Y 1 0 0] h c (.f (.b (zi7 x y))):=by
 refine zcA za0 fn113 rfl ?_;simp only[zzd,rU];have nK:¬K=c:=by omega
 have nY:¬Y=c:=by omega
 have q1:=fun k=>zav (k:=k) (zk9 y.l x.l hy.1 hx.1)
 have q2:=fun k=>zav (k:=k) (zk9 y.r x.r hy.2 hx.2)
 have q3:=fun k=>zav (k:=k) (zk9 y.l x.r hy.1 hx.2)
 have q4:=fun k=>zav (k:=k) (zk9 y.r x.l hy.2 hx.1)
 simp only[tmE]at q1 q2 q3 q4;unfold zi7;simp only[cmD,tmD,Z30,Z29]at gK;generalize hz:(x.op==1||x.op==2)=z at gY|-;generalize zb2 y.l x.l=b1 at q1|-;generalize zb2 y.r x.r=b2 at q2|-;generalize zb2 y.l x.r=b3 at q3|-;generalize zb2 y.r x.l=b4 at q4|-
 by_cases h1:y.op=x.op
 .cases b1<;>cases b2<;>cases z<;>cases b3<;>cases b4<;>(simp[rW,st0,zah,cmD,tmD,gK,gY,nK,nY,h1,q1,q2,q3,q4,zaO]<;>simp (disch:=omega) only[za3,za9])
 .have h1':(y.op==x.op)=false:=by simpa using h1
  simp[rW,st0,zah,cmD,tmD,gK,gY,nK,nY,h1,h1',zaO];simp (disch:=omega) only[za3,za9]
def zpW(b:CQ)(k:Cm):Bool:=zAC k||b.cs.any (zi7 k)
theorem ro95{a b:CQ}{ns:List Str}{im:List Trm}{asg:List Bool}{dA dC dT:D}{h:T Ob}{c S M I A:Nat}(H:SAt a b ns im asg dA dC dT h c S M I A)(hb:CqOk b)(k:Cm)(hk:zdm k):
  RO pr 95 [.ptr S 11 0 0,.ag (cmD k)] h c (.f (.b (zpW b k))):=by
 refine zcA za0 fn95 rfl ?_;simp only[g95,rU];have gS:=H.gS;have nS:¬S=c:=by have:=H.bS;omega
 have nS1:¬S=c+1:=by have:=H.bS;omega
 have q:=fun j=>zav (k:=j) (zPU k hk)
 simp only[cmF,tmE,Z30,Z29]at q;unfold zpW;cases ht:zAC k with
 |true=>
  rw[ht]at q;simp[rW,st0,zah,cmD,tmD,q,zaO];simp (disch:=omega) only[za3,za9]
 |false=>
  rw[ht]at q;have key:∀(z:Bool),z=(k.op==1||k.op==2)->∀(H':T Ob) (c':Nat),H'.get c=some (.arr 9 0 [cmD k])->H'.get (c+1)=some (.arr 1 0 [[.f (.b z)]])->c+1<c'->RO pr 112 [.f (zaQ b),.fn 113 [] [.ptr c 9 0 0,.ptr (c+1) 1 0 0]] H' c' (.f (.b (b.cs.any (zi7 k)))):=by
   intro z hz H' c' g1 g2 hc;refine ro112 b (zi7 k) (by have:=hb.lc;omega) fun n hn=> ?_
   rw[hz]at g2;exact ro113 k b.cs[n] hk (hb.cs _ (Z2 hn)) g1 g2 (by omega) (by omega)
  have fin:∀mx:Nat,True:=fun _=>trivial
  by_cases h1:k.op=1
  .simp only[h1]at q;simp[rW,st0,zah,cmD,tmD,q,h1,gS,nS,nS1];refine zbW (d:= .f (.b (b.cs.any (zi7 k)))) (key true (by simp[h1]) _ _ ?_ ?_ ?_) ?_ ?_
   .simp only[rG];simp[TG,cmD,tmD,h1]
   .simp only[rG];simp[TG]
   .simp only[rG];omega
   .simp only[rG];simp (disch:=omega) only[za3,za9];omega
   .intro mx;generalize b.cs.any (zi7 k)=r;simp[rW,zaO];simp (disch:=omega) only[za3,za9]
  .by_cases h2:k.op=2
   .simp only[h2]at q;simp[rW,st0,zah,cmD,tmD,q,h2,gS,nS,nS1];refine zbW (d:= .f (.b (b.cs.any (zi7 k)))) (key true (by simp[h2]) _ _ ?_ ?_ ?_) ?_ ?_
    .simp only[rG];simp[TG,cmD,tmD,h2]
    .simp only[rG];simp[TG]
    .simp only[rG];omega
    .simp only[rG];simp (disch:=omega) only[za3,za9];omega
    .intro mx;generalize b.cs.any (zi7 k)=r;simp[rW,zaO];simp (disch:=omega) only[za3,za9]
   .simp[rW,st0,zah,cmD,tmD,q,h1,h2,gS,nS,nS1];refine zbW (d:= .f (.b (b.cs.any (zi7 k)))) (key false (by simp[h1,h2]) _ _ ?_ ?_ ?_) ?_ ?_
    .simp only[rG];simp[TG,cmD,tmD]
    .simp only[rG];simp[TG,h2]
    .simp only[rG];omega
    .simp only[rG];simp (disch:=omega) only[za3,za9];omega
    .intro mx;generalize b.cs.any (zi7 k)=r;simp[rW,zaO];simp (disch:=omega) only[za3,za9]
def RdI(h:T Ob)(c:Nat)(d:D)(l:List Nat):Prop:=d= .f (zeR l)\/Held h 0 c 1 d (iE l)
def RdI.up{h h':T Ob}{c c':Nat}{d:D}{l:List Nat}(H:RdI h c d l)(hf:∀id,id<c->h'.get id=h.get id)(hc:c<=c'):RdI h' c' d l:=by
 rcases H with H|H|⟨id,ro,h1,h2,h3,h4,h5⟩
 .exact .inl H
 .exact .inr (.inl H)
 .exact .inr (.inr ⟨id,ro,h1,h2,by rw[hf id h5];exact h3,h4,by omega⟩)
def RdI.len{h:T Ob}{c:Nat}{d:D}{l:List Nat}(H:RdI h c d l):zbv d=some l.length:=by
 rcases H with rfl|⟨rfl,hl⟩ |⟨id,ro,rfl,h2,h3,h4,h5⟩
 .exact zjl l
 .have:l=[]:=by simpa [iE]using hl
  subst this;rfl
 .simp[zbv,zcs]
def RdI.get{h:T Ob}{c:Nat}{d:D}{l:List Nat}(H:RdI h c d l){n:Nat}(hn:n<l.length):∃p rd,iaB 1 d n=some p/\zbq false 1 h.get p=some (.f (.i .i64 (l[n]:Int)),rd):=by
 rcases H with rfl|⟨rfl,hl⟩ |⟨id,ro,rfl,h2,h3,h4,h5⟩
 .exact⟨.fptr [.i .i64 (l[n]:Int)],[],by simp[zrm,hn],by simp[zbq,zgz]⟩
 .have:l=[]:=by simpa [iE]using hl
  subst this;simp at hn
 .refine⟨.ptr id 1 n 0,[id],by simp[iaB,zcs,hn],?_⟩;simp[zbq,h3,zcn,iE,Z0 hn]
def okA(ns:List Str)(im:List Trm)(asg:List Bool)(a b:CQ)(i:Nat):Bool:=match a.as[i]? with
 |some x=>b.as.any (ziy ns im asg x)
 |none=>true
def okK(ns:List Str)(im:List Trm)(asg:List Bool)(b:CQ)(k:Cm):Bool:=!((zdd ns im asg k.l).2&&((zdd ns im asg k.r).2&& !zpW b ⟨k.op,(zdd ns im asg k.l).1,(zdd ns im asg k.r).1⟩))
def okC(ns:List Str)(im:List Trm)(asg:List Bool)(a b:CQ)(i:Nat):Bool:=match a.cs[i]? with
 |some k=>okK ns im asg b k
 |none=>true
def acc(ns:List Str)(im:List Trm)(asg:List Bool)(a b:CQ)(L K:List Nat):Bool:=L.all (okA ns im asg a b)&&K.all (okC ns im asg a b)
structure zg7(ns:List Str)(a:CQ):Prop where
 va:∀x∈a.as,∀t∈x.ts,InV ns t
 vc:∀k∈a.cs,InV ns k.l/\InV ns k.r
def ztA{α:Type}{l:List α}{p:α->Bool}(h:∀a∈l,(!p a)=false):l.all p=true:=by
 rw[Z51];intro a ha;simpa using h a ha
def ztz{α:Type}{l:List α}{p:α->Bool}{n:Nat}(h:n<l.length)(h1:(!p l[n])=true):l.all p=false:=by
 rw[Z144];exact⟨l[n],Z2 h,by simpa using h1⟩
def A1(h:T Ob)(c S:Nat)(dL dK:D)(len n:Nat)(s:St):Prop:=
 s.tm.get 3=some (.ptr c 1 0 0)/\s.tm.get 2=some (dK)/\s.tm.get 16=some (dL)/\s.tm.get 17=some (.f (.i .i64 len))/\s.tm.get 18=some (.f (.i .i64 n))/\s.h.get c=some (.arr 1 0 [[.ptr S 11 0 0]])/\(∀id,id<c->s.h.get id=h.get id)/\c+1<=s.c/\s.lw=c
def A2(h:T Ob)(c S:Nat)(dK:D)(len n:Nat)(s:St):Prop:=
 s.tm.get 3=some (.ptr c 1 0 0)/\s.tm.get 31=some (dK)/\s.tm.get 32=some (.f (.i .i64 len))/\s.tm.get 33=some (.f (.i .i64 n))/\s.h.get c=some (.arr 1 0 [[.ptr S 11 0 0]])/\(∀id,id<c->s.h.get id=h.get id)/\c+1<=s.c/\s.lw=c
theorem ro71{a b:CQ}{ns:List Str}{im:List Trm}{asg:List Bool}{dA dC dT:D}{h:T Ob}{c S M I A:Nat}(H:SAt a b ns im asg dA dC dT h c S M I A)(ho:zfw im asg)(ha:CqOk a)(hb:CqOk b)(hv:zg7 ns a)
  {L K:List Nat}{dL dK:D}(hL:RdI h c dL L)(hK:RdI h c dK K)(hLi:∀i∈L,i<a.as.length)(hKi:∀i∈K,i<a.cs.length)(hLl:L.length<100000)(hKl:K.length<100000):
  RO pr 71 [.ptr S 11 0 0,dL,dK] h c (.f (.b (acc ns im asg a b L K))):=by
 refine zcA za0 fn71 rfl ?_;simp only[g71,rU];unfold acc;generalize hr1:L.all (okA ns im asg a b)=r1;generalize hr2:K.all (okC ns im asg a b)=r2;simp[rW,st0,zah,hL.len];refine zfa L (fun i=>!okA ns im asg a b i) (fun n s=>A1 h c S dL dK L.length n s) (fun x s=>x= .exit 0/\∃n,A1 h c S dL dK L.length n s) (fun n x s=>x= .ret/\s.tm.get 6=some (.f (.b false))/\s.lw=c) ?_ ?_ _ ?_ ?_ ?_
 .rintro n s hn ⟨h3,h2,h16,h17,h18,gc,hf,hc,hl⟩;have hw:=zao n (by omega);obtain⟨p,rd,hp1,hp2⟩ :=(hL.up (h':=s.h) hf (by omega:c<=s.c)).get hn;have hi:=hLi _ (Z2 hn);have e:okA ns im asg a b L[n]=b.as.any (ziy ns im asg a.as[L[n]]):=by unfold okA;rw[Z0 hi]
  rw[e];generalize L[n]=i at hp2 hi e|-;have hA:=ha.as _ (Z2 hi);have hAv:=hv.va _ (Z2 hi);have gS:=H.gS;have hbS:=H.bS;rw[<-hf S hbS]at gS;have nS:¬S=s.c:=by omega
  have nc:¬c=s.c:=by omega
  have HS:SAt a b ns im asg dA dC dT s.h s.c S M I A:=H.up hf (by omega);have h63:∀(H':T Ob) (c':Nat),SAt a b ns im asg dA dC dT H' c' S M I A->H'.get c=some (.arr 1 0 [[.ptr S 11 0 0]])->H'.get s.c=some (.arr 1 0 [[.f (.i .i64 (i:Int))]])->s.c<c'->RO pr 91 [.f (zaS b),.fn 92 [] [.ptr c 1 0 0,.ptr s.c 1 0 0]] H' c' (.f (.b (b.as.any (ziy ns im asg a.as[i])))):=
   fun H' c' HH g1 g2 hcc=>ro91 b (ziy ns im asg a.as[i]) (by have:=hb.la;omega) fun m hm=>ro92 HH ho hi hAv (by have:=hA.2;omega) b.as[m] (hb.as _ (Z2 hm)) g1 g2 (by omega) hcc
  generalize b.as.any (ziy ns im asg a.as[i])=z at h63|-;simp[rW,h3,h2,h16,h17,h18,hn,hp1,hp2,gc,gS,nS,nc];refine zbW (h63 _ _ (HS.up ?_ ?_) ?_ ?_ ?_) ?_ ?_
  .intro id hid;simp only[rG];simp[TG,show id≠s.c by omega]
  .simp only[rG];omega
  .simp only[rG];simp[TG,nc,gc]
  .simp only[rG];simp[TG]
  .simp only[rG];omega
  .simp only[rG];simp (disch:=omega) only[za3,za9];omega
  .intro mx;have hF:∀id,id<c->¬id=s.c:=fun id h=>by omega
   cases z with
   |true=>
    simp[rW,h3,h2,h16,h17,h18,hw,A1,nc,gc];refine⟨fun id h=> ?_,by omega,?_⟩
    .simp[hF id h,hf id h]
    .rw[hl];simp (disch:=omega) only[za3,za9]
   |false=>
    simp[rW,h3,h2,h16,h17,h18];rw[hl];simp (disch:=omega) only[za3,za9]
 .rintro s ⟨h3,h2,h16,h17,h18,gc,hf,hc,hl⟩;simp[rW,h3,h2,h16,h17,h18,A1,gc,hc,hl];exact⟨⟨_,rfl⟩,fun id h=>hf id h⟩
 .simp[rW,A1];refine⟨fun id h=> ?_,?_⟩
  .intro e;omega
  .simp (disch:=omega) only[za3,za9]
 .rintro hall z s ⟨rfl,n,h3,h2,h16,h17,h18,gc,hf,hc,hl⟩;have e1:r1=true:=by rw[<-hr1];exact ztA hall
  subst e1;have hK':=hK.up (h':=s.h) hf (by omega:c<=s.c);simp[rW,h3,h2,h16,h17,h18,hK'.len];refine zfa K (fun i=>!okC ns im asg a b i) (fun n s=>A2 h c S dK K.length n s) (fun x s=>x= .exit 2/\s.lw=c) (fun n x s=>x= .ret/\s.tm.get 6=some (.f (.b false))/\s.lw=c) ?_ ?_ _ ?_ ?_ ?_
  .rintro n s hn ⟨h3,h31,h32,h33,gc,hf,hc,hl⟩;have hw:=zao n (by omega);obtain⟨p,rd,hp1,hp2⟩ :=(hK.up (h':=s.h) hf (by omega:c<=s.c)).get hn;have hi:=hKi _ (Z2 hn);have e:okC ns im asg a b K[n]=okK ns im asg b a.cs[K[n]]:=by unfold okC;rw[Z0 hi]
   rw[e];generalize K[n]=i at hp2 hi e|-;have hAv:=hv.vc _ (Z2 hi);generalize hk:a.cs[i]=k at hAv|-;have hk':a.cs[i]? =some k:=by rw[Z0 hi,hk]
   have gS:=H.gS;have hbS:=H.bS;rw[<-hf S hbS]at gS;have nS:¬S=s.c:=by omega
   have nc:¬c=s.c:=by omega
   have nc1:¬c=s.c+1:=by omega
   have nc2:¬c=s.c+1+1:=by omega
   have n2:¬s.c=s.c+1+1:=by omega
   have HS:SAt a b ns im asg dA dC dT s.h s.c S M I A:=H.up hf (by omega);have hF:∀id,id<s.c->¬id=s.c/\¬id=s.c+1/\¬id=s.c+1+1:=fun id h=>by omega
   have hF2:∀id,id<c->¬id=s.c/\¬id=s.c+1/\¬id=s.c+1+1:=fun id h=>by omega
   simp[rW,h3,h31,h32,h33,hn,hp1,hp2,gc,gS,nS,nc,zkG,hk',hk,cmF,tmE];refine zbW (zFD (HS.up ?_ ?_) k.l hAv.1) ?_ ?_
   .intro id hid;simp only[rG];simp[TG,hF id hid]
   .simp only[rG];omega
   .simp only[rG];simp (disch:=omega) only[za3,za9];omega
   intro mx;simp[rW,h3,h31,h32,h33,gc,nc,nc1,tmD];refine zbW (zFD (HS.up ?_ ?_) k.r hAv.2) ?_ ?_
   .intro id hid;simp only[rG];simp[TG,hF id hid]
   .simp only[rG];omega
   .simp only[rG];simp (disch:=omega) only[za3,za9];omega
   intro mx2;have hl1:=zri (ns:=ns) ho (t:=k.l);have hl2:=zri (ns:=ns) ho (t:=k.r);unfold okK;cases hb1:(zdd ns im asg k.l).2 with
   |false=>
    simp[rW,h3,h31,h32,h33,gc,nc,nc1,nc2,n2,tmD,hb1,A2,hw];refine⟨fun id h=> ?_,by omega,?_⟩
    .simp[hF2 id h,hf id h]
    .rw[hl];simp (disch:=omega) only[za3,za9]
   |true=>
    cases hb2:(zdd ns im asg k.r).2 with
    |false=>
     simp[rW,h3,h31,h32,h33,gc,nc,nc1,nc2,n2,tmD,hb1,hb2,A2,hw];refine⟨fun id h=> ?_,by omega,?_⟩
     .simp[hF2 id h,hf id h]
     .rw[hl];simp (disch:=omega) only[za3,za9]
    |true=>
     have h67:=fun(H':T Ob) (c':Nat) (HH:SAt a b ns im asg dA dC dT H' c' S M I A)=>ro95 HH hb ⟨k.op,(zdd ns im asg k.l).1,(zdd ns im asg k.r).1⟩ ⟨hl1 hb1,hl2 hb2⟩
     generalize (zdd ns im asg k.l).1=u1 at h67|-;generalize (zdd ns im asg k.r).1=u2 at h67|-;simp[rW,h3,h31,h32,h33,gc,nc,nc1,nc2,n2,tmD,hb1,hb2];refine zbW (h67 _ _ (HS.up ?_ ?_)) ?_ ?_
     .intro id hid;simp only[rG];simp[TG,hF id hid]
     .simp only[rG];omega
     .simp only[rG];simp (disch:=omega) only[za3,za9];omega
     intro mx3;cases zpW b ⟨k.op,u1,u2⟩with
     |true=>
      simp[rW,h3,h31,h32,h33,gc,nc,nc1,nc2,n2,A2,hw];refine⟨fun id h=> ?_,by omega,?_⟩
      .simp[hF2 id h,hf id h]
      .rw[hl];simp (disch:=omega) only[za3,za9]
     |false=>
      simp[rW,h3,h31,h32,h33,gc,nc,nc1,nc2,n2,A2,hw];rw[hl];simp (disch:=omega) only[za3,za9]
  .rintro s ⟨h3,h31,h32,h33,gc,hf,hc,hl⟩;simp[rW,h3,h31,h32,h33,hl]
  .simp[rW,h3,h2,h16,h17,h18,A2,gc,hc,hl];exact fun id h=>hf id h
  .rintro hall z s ⟨rfl,hl⟩;have e1:r2=true:=by rw[<-hr2];exact ztA hall
   simp[rW,zaO,hl,e1]
  .rintro n hn hp hm z s ⟨rfl,h6,hl⟩;have e1:r2=false:=by rw[<-hr2];exact ztz hn hp
   simp[rW,h6,hl,zaO,e1]
 .rintro n hn hp hm z s ⟨rfl,h6,hl⟩;have e1:r1=false:=by rw[<-hr1];exact ztz hn hp
  simp[rW,h6,hl,zaO,e1]
def fn70:pr.fn 70=some g70:=by kernel_rfl
def RdT(h:T Ob)(c:Nat)(d:D)(l:List Trm):Prop:=(d= .f .nils/\l=[])\/∃id lim ex els ro,d= .sl id 0 l.length 4 lim ex/\h.get id=some (.arr 4 ro els)/\els.take l.length=zaH l/\id<c
def RdT.up{h h':T Ob}{c c':Nat}{d:D}{l:List Trm}(H:RdT h c d l)(hf:∀id,id<c->d.oid=some id->h'.get id=h.get id)(hc:c<=c'):RdT h' c' d l:=by
 rcases H with H|⟨id,lim,ex,els,ro,h1,h2,h3,h4⟩
 .exact .inl H
 .exact .inr ⟨id,lim,ex,els,ro,h1,by rw[hf id h4 (by rw[h1];rfl)];exact h2,h3,by omega⟩
def RdT.len{h:T Ob}{c:Nat}{d:D}{l:List Trm}(H:RdT h c d l):zbv d=some l.length:=by
 rcases H with⟨rfl,rfl⟩ |⟨id,lim,ex,els,ro,rfl,h2,h3,h4⟩ <;>rfl
def RdT.cells{h:T Ob}{c:Nat}{d:D}{l:List Trm}(H:RdT h c d l):d.cells=some [d]:=by
 rcases H with⟨rfl,rfl⟩ |⟨id,lim,ex,els,ro,rfl,h2,h3,h4⟩ <;>rfl
def RdT.get{h:T Ob}{c:Nat}{d:D}{l:List Trm}(H:RdT h c d l){n:Nat}(hn:n<l.length):∃p rd,iaB 4 d n=some p/\zbq true 4 h.get p=some (.ag (tmD l[n]),rd):=by
 rcases H with⟨rfl,rfl⟩ |⟨id,lim,ex,els,ro,rfl,h2,h3,h4⟩
 .simp at hn
 .refine⟨.ptr id 4 n 0,[id],by simp[iaB,hn],?_⟩;have e:els[n]? =some (tmD l[n]):=by
   rw[<-zfX l n hn,<-h3,Z76,Z52 hn]
  simp[zbq,h2,e,zcn,tmD]
theorem ro109(l:List Trm)(p:Trm->Bool){h:T Ob}{c g:Nat}{cap:List D}{dT:D}(hT:RdT h c dT l)(hl:l.length<100000)(hcl:∀n (hn:n<l.length),RO pr g (.ag (tmD l[n])::cap) h c (.f (.b (p l[n])))):
  RO pr 109 [dT,.fn g [] cap] h c (.f (.i .i64 (ixP l p))):=by
 refine zcA za0 fn109 rfl ?_;simp only[zy9,rU];simp[rW,st0,zah,hT.len];refine zfa l p (fun n s=>s.tm.get 0=some (dT)/\s.tm.get 1=some (.fn g [] cap)/\s.tm.get 7=some (.f (.i .i64 l.length))/\s.tm.get 8=some (.f (.i .i64 n))/\s.h=h/\s.c=c/\s.lw=c) (fun x s=>x= .exit 0/\s.lw=c) (fun n y s=>y= .ret/\s.tm.get 4=some (.f (.i .i64 n))/\s.lw=c) ?_ ?_ _ ?_ ?_ ?_
 .rintro n s hn ⟨h0,h1,h7,h8,eh,ec,el⟩;have hw:=zao n (by omega);have hp:=hcl n hn;obtain⟨q,rd,hq1,hq2⟩ :=hT.get hn;generalize l[n]=A at hp hq2|-;simp[rW,h0,h1,h7,h8,hn,hq1,hq2,eh];refine zbW (d:= .f (.b (p A))) ?_ ?_ ?_
  .simp only[rG];rw[eh,ec];exact hp
  .simp only[rG];omega
  .intro mx;cases hb:p A with
   |true=>simp[rW,h0,h1,h7,h8,el]
   |false=>simp[rW,h0,h1,h7,h8,hw,eh,ec,el]
 .rintro s ⟨h0,h1,h7,h8,eh,ec,el⟩;simp[rW,h0,h1,h7,h8,el]
 .simp[rW,st0,zah]
 .rintro h z s ⟨rfl,el⟩;rw[ziG h];simp[rW,zaO,el]
 .rintro n hn hp hm z s ⟨rfl,h4,el⟩;rw[zhq hn hp hm];simp[rW,h4,zaO,el]
theorem ro89(l:List Trm)(p:Trm->Bool){h:T Ob}{c g:Nat}{cap:List D}{dT:D}(hT:RdT h c dT l)(hl:l.length<100000)(hcl:∀n (hn:n<l.length),RO pr g (.ag (tmD l[n])::cap) h c (.f (.b (p l[n])))):
  RO pr 89 [dT,.fn g [] cap] h c (.f (.b (l.any p))):=by
 refine zcA za0 fn89 rfl ?_;simp only[g89,rU];rw[<-zkT l p];simp[rW,st0,zah];refine zbW (d:= .f (.i .i64 (ixP l p))) ?_ ?_ ?_
 .simp only[rG];exact ro109 l p hT hl hcl
 .simp only[rG];omega
 .intro mx;simp[rW,zaO]
theorem ro90{a b:CQ}{ns:List Str}{im:List Trm}{asg:List Bool}{dA dC dT:D}{h:T Ob}{c S M I A B J:Nat}(H:SAt a b ns im asg dA dC dT h c S M I A){i:Nat}(hi:i<im.length)(t:Trm)(ht:zaL t)(hu:zaL im[i])
  (gB:h.get B=some (.arr 1 0 [[.ptr S 11 0 0]]))(gJ:h.get J=some (.arr 1 0 [[.f (.i .i64 (i:Int))]]))(hB:B<c)(hJ:J<c):
  RO pr 90 [.ag (tmD t),.ptr B 1 0 0,.ptr J 1 0 0] h c (.f (.b (zb2 t im[i]))):=by
 refine zcA za0 fn90 rfl ?_;simp only[g90,rU];have gS:=H.gS;have gI:=H.gI;have nS:¬S=c:=by have:=H.bS;omega
 have nI:¬I=c:=by have:=H.bI;omega
 have nB:¬B=c:=by omega
 have nJ:¬J=c:=by omega
 have q:=fun k=>zav (k:=k) (zk9 t im[i] ht hu)
 have e3:=zfX im i hi;have hi2:i<ns.length:=by rw[<-H.lI];exact hi
 simp only[tmE]at q;simp only[tmD]at e3;simp[rW,st0,zah,tmD];refine zaF ?_;simp[rW,st0,zah,tmD,gB,gJ,gS,gI,nS,nB,nJ,nI,hi2,e3,q,zaO];simp (disch:=omega) only[za3,za9]
def zcu(m:Nat):∀l,zda m l<=m:=by
 intro l
 induction l generalizing m with
 |nil=>exact Z3 _
 |cons p l ih=>
  obtain⟨id,o⟩ :=p;rw[zm9];refine Z4 (ih _) ?_;split<;>omega
def zdU(m id:Nat)(o:Option Ob)(l:List (Nat×Option Ob)):zda m ((id,o)::l)<=id:=by
 rw[zm9];refine Z4 (zcu _ _) ?_;split<;>omega
def zpS(l:List Trm):hd8 (zaH l)=false:=by
 cases l with
 |nil=>rfl
 |cons a l=>simp only[zaH,Z11,tmE,zE0]
def zIs(l:List Bool):hd8 (bE l)=false:=by
 cases l with
 |nil=>rfl
 |cons a l=>rfl
def zh2(l:List Trm)(i:Nat)(t:Trm):(zaH l).set i (tmD t)=zaH (l.set i t):=by
 simp[zaH,tmD,tmE,Z117]
def ztT(l:List Bool)(i:Nat)(t:Bool):(bE l).set i [.f (.b t)]=bE (l.set i t):=by
 simp[bE,Z117]
def zlW(l:List Bool)(n:Nat)(h:n<l.length):(bE l)[n]? =some [D.f (.b l[n])]:=by simp[bE,h]
def SAt.ne{a b:CQ}{ns:List Str}{im:List Trm}{asg:List Bool}{dA dC dT:D}{h:T Ob}{c S M I A:Nat}(H:SAt a b ns im asg dA dC dT h c S M I A):S≠I/\S≠A/\M≠I/\M≠A/\I≠A:=by
 obtain⟨g1,g2,g3,g4,_⟩ :=H;refine⟨?_,?_,?_,?_,?_⟩ <;>rintro rfl
 .rw[g1]at g3;simp at g3
 .rw[g1]at g4;simp at g4
 .rw[g2]at g3;simp at g3
 .rw[g2]at g4;simp at g4
 .rw[g3]at g4;simp at g4
theorem SAt.upd{a b:CQ}{ns:List Str}{im im':List Trm}{asg asg':List Bool}{dA dC dT:D}{h h':T Ob}{c c' S M I A:Nat}(H:SAt a b ns im asg dA dC dT h c S M I A)(hI:h'.get I=some (.arr 4 0 (zaH im')))(hA:h'.get A=some (.arr 1 0 (bE asg')))(l1:im'.length=im.length)(l2:asg'.length=asg.length)
  (hf:∀id,id<c->id≠I->id≠A->h'.get id=h.get id)(hc:c<=c'):SAt a b ns im' asg' dA dC dT h' c' S M I A:=by
 obtain⟨nSI,nSA,nMI,nMA,nIA⟩ :=H.ne;exact⟨by rw[hf S H.bS nSI nSA];exact H.gS,by rw[hf M H.bM nMI nMA];exact H.gM,hI,hA,by rw[l1];exact H.lI,by rw[l2];exact H.lA,Z16 H.bS hc,Z16 H.bM hc,Z16 H.bI hc,Z16 H.bA hc⟩
def fixF(ns:List Str)(cand:List Trm)(st:List Trm×List Bool)(x:Str):(List Trm×List Bool)⊕Unit:=
 if x∈ns then(if cand.any (fun t=>zb2 t (.var x))=true then .inl (st.1.set (vix ns x) (.var x),st.2.set (vix ns x) true)else .inr ())else .inl st
def FrI(h h':T Ob)(c I A:Nat):Prop:=∀id,id<c->id≠I->id≠A->h'.get id=h.get id
def X1(a b:CQ)(ns:List Str)(dA dC dT:D)(hd:List Str)(h:T Ob)(c S M I A:Nat)(st0:List Trm×List Bool)(n:Nat)(st:List Trm×List Bool)(s:St):Prop:=
 s.tm.get 2=some (.ptr c 1 0 0)/\s.tm.get 9=some (.f (zaM hd))/\s.tm.get 10=some (.f (.i .i64 hd.length))/\s.tm.get 11=some (.f (.i .i64 n))/\s.h.get c=some (.arr 1 0 [[.ptr S 11 0 0]])/\SAt a b ns st.1 st.2 dA dC dT s.h s.c S M I A/\FrI h s.h c I A/\c+1<=s.c/\s.lw<=c/\(s.lw=c->st=st0)
def P26(a b:CQ)(ns:List Str)(dA dC dT:D)(h:T Ob)(c S M I A:Nat)(r:(List Trm×List Bool)⊕Unit)(d:D)(h':T Ob)(c':Nat):Prop:=match r with
 | .inl st=>d= .f (.b true)/\SAt a b ns st.1 st.2 dA dC dT h' c' S M I A/\FrI h h' c I A
 | .inr _=>d= .f (.b false)
theorem eff70{a b:CQ}{ns:List Str}{im:List Trm}{asg:List Bool}{dA dC dT:D}{h:T Ob}{c S M I A:Nat}(H:SAt a b ns im asg dA dC dT h c S M I A)(hd:List Str)(hdl:hd.length<100000)(hne:∀x∈ns,x≠[])(cand:List Trm)(hT:RdT h c dT cand)(hTI:dT.oid≠some I)(hTA:dT.oid≠some A)(hcl:cand.length<100000)(hcok:∀t∈cand,zaL t):
  Eff pr 70 [.ptr S 11 0 0,.f (zaM hd)] h c (P26 a b ns dA dC dT h c S M I A (zdn (fixF ns cand) (im,asg) hd)):=by
 refine zcG za0 fn70 ?_;simp only[g70,rU];generalize hP:P26 a b ns dA dC dT h c S M I A (zdn (fixF ns cand) (im,asg) hd)=P;simp[rW,st0,zah,zbN];refine zCk hd (fixF ns cand) (im,asg) (X1 a b ns dA dC dT hd h c S M I A (im,asg)) (fun st x s=>x= .exit 0/\∃n,X1 a b ns dA dC dT hd h c S M I A (im,asg) n st s) (fun _ x s=>x= .ret/\s.tm.get 4=some (.f (.b false))) ?_ ?_ _ ?_ ?_ ?_
 .rintro n st s hn ⟨h2,h9,h10,h11,gc,HS,hf,hc,hl,hl2⟩;have hw:=zao n (by omega);obtain⟨nSI,nSA,nMI,nMA,nIA⟩ :=HS.ne;have gS:=HS.gS;have gM:=HS.gM;have gI:=HS.gI;have gA:=HS.gA;have hbS:=H.bS;have hbM:=H.bM;have hbI:=H.bI;have hbA:=H.bA;have nMc:¬M=s.c:=by omega
  have nSc:¬S=s.c:=by omega
  have nIc:¬I=s.c:=by omega
  have nAc:¬A=s.c:=by omega
  have ncc:¬c=s.c:=by omega
  have ncI:¬c=I:=by omega
  have ncA:¬c=A:=by omega
  have nsI:¬s.c=I:=by omega
  have nsA:¬s.c=A:=by omega
  generalize hx:hd[n]=x;have hx':hd[n]? =some x:=by rw[Z0 hn,hx]
  unfold fixF
  by_cases hm:x∈ns
  .have hk:=zoj hm;have hv:=ziw hm;rw[Z52 hm];have hv1:vix ns x<st.1.length:=by rw[HS.lI];exact hv
   have hv2:vix ns x<st.2.length:=by rw[HS.lA];exact hv
   have e1:=zfX st.1 (vix ns x) hv1;have e2:=zlW st.2 (vix ns x) hv2;have e3:∀u,hd8 (zaH u)=false:=zpS
   have e4:∀u,hd8 (bE u)=false:=zIs
   have e5:=zh2 st.1 (vix ns x) (.var x);have e6:=ztT st.2 (vix ns x) true;simp only[tmD,zo6,zo3,zo4]at e5;simp only[tmD]at e1;have hxx:(st.1.set (vix ns x) (.var x))[vix ns x]'(by simpa using hv1)= .var x:=by simp
   have hz:∀(H':T Ob) (c':Nat),SAt a b ns (st.1.set (vix ns x) (.var x)) (st.2.set (vix ns x) true) dA dC dT H' c' S M I A->RdT H' c' dT cand->H'.get c=some (.arr 1 0 [[.ptr S 11 0 0]])->H'.get s.c=some (.arr 1 0 [[.f (.i .i64 (vix ns x:Int))]])->s.c<c'->RO pr 89 [dT,.fn 90 [] [.ptr c 1 0 0,.ptr s.c 1 0 0]] H' c' (.f (.b (cand.any fun t=>zb2 t (.var x)))):=by
    intro H' c' HH HT g1 g2 hcc;refine ro89 cand _ HT hcl fun m hm'=> ?_
    have:=ro90 HH (i:=vix ns x) (by simpa using hv1) cand[m] (hcok _ (Z2 hm')) (by rw[hxx];exact hne x hm) g1 g2 (by omega) hcc;rw[hxx]at this;exact this
   generalize cand.any (fun t=>zb2 t (.var x))=z at hz|-;have hTc:=hT.cells;simp[rW,h2,h9,h10,h11,hn,zco,hx',hx,gc,gS,gM,hk,ncc];refine zaF ?_;simp[rW,h2,h9,h10,h11,gc,gS,gI,gA,ncc,nSc,nIc,nAc,ncI,ncA,nsI,nsA,nSI,nSA,nIA,hv,e1,e2,e3,e4,e5,e6,hbI,zbD];refine⟨by omega,zaF ?_⟩;simp[rW,h2,h9,h10,h11,gc,gS,gI,gA,ncc,nSc,nIc,nAc,ncI,ncA,nsI,nsA,nSI,nSA,nIA,nIA.symm,hv,e1,e2,e3,e4,e5,e6,hbI,zbD,hTc];refine⟨by omega,?_⟩;refine zbW (hz _ _ (HS.upd ?_ ?_ (by simp) (by simp) ?_ ?_) (hT.up ?_ ?_) ?_ ?_ ?_) ?_ ?_
   .simp only[rG];simp[TG,nIA]
   .simp only[rG];simp[TG]
   .intro id h1 h2 h3;simp only[rG];simp[TG,h2,h3,show id≠s.c by omega]
   .simp only[rG];omega
   .intro id h1 h2;simp only[rG];have i1:id≠I:=fun e=>hTI (by rw[h2,e])
    have i2:id≠A:=fun e=>hTA (by rw[h2,e])
    simp[TG,i1,i2,show id≠s.c by omega,hf id h1 i1 i2]
   .simp only[rG];omega
   .simp only[rG];simp[TG,ncI,ncA,ncc,gc]
   .simp only[rG];simp[TG,nsI,nsA]
   .simp only[rG];omega
   .simp only[rG];exact Z4 (zcu _ _) (Z4 (zcu _ _) (by simp (disch:=omega) only[za3,za9];omega))
   .intro mx;cases z with
    |true=>
     simp[rW,h2,h9,h10,h11,hw,X1,gc,ncc,ncI,ncA];refine⟨HS.upd ?_ ?_ (by simp) (by simp) ?_ (by omega),fun id h1 h2 h3=> ?_,by omega,?_,fun e=> ?_⟩
     .simp[TG,nIA]
     .simp[TG]
     .intro id h1 h2 h3;simp[TG,h2,h3,show id≠s.c by omega]
     .simp[TG,h2,h3,show id≠s.c by omega,hf id h1 h2 h3]
     .exact Z4 (zcu _ _) (Z4 (zcu _ _) (by simp (disch:=omega) only[za3,za9];omega))
     .have:=Z4 (Z198 e.symm) (zdU _ _ _ _);omega
    |false=>
     simp[rW,h2,h9,h10,h11]
  .have hk:=zmw hm;rw[Z50 hm];simp[rW,h2,h9,h10,h11,hn,zco,hx',hx,gc,gS,gM,hk,hw,X1,ncc];refine⟨HS.up (fun id hid=> ?_) (by omega),fun id h1 h2 h3=> ?_,by omega,?_,?_⟩
   .simp[TG,show id≠s.c by omega]
   .simp[TG,show id≠s.c by omega,hf id h1 h2 h3]
   .simp (disch:=omega) only[za3,za9];exact hl
   .simp (disch:=omega) only[za3,za9];exact hl2
 .rintro st s ⟨h2,h9,h10,h11,gc,HS,hf,hc,hl,hl2⟩;simp[rW,h2,h9,h10,h11,X1,gc,hc,hl];exact⟨⟨_,rfl⟩,HS,hf,hl2⟩
 .simp[rW,X1];refine⟨H.up (fun id hid=> ?_) (by omega),fun id h1 h2 h3=> ?_,?_⟩
  .simp[TG,show id≠c by omega]
  .simp[TG,show id≠c by omega]
  .simp (disch:=omega) only[za3,za9];omega
 .rintro st hst z s ⟨rfl,n,h2,h9,h10,h11,gc,HS,hf,hc,hl,hl2⟩;rw[hst]at hP;simp[rW,zcp];refine⟨?_,fun e=> ?_⟩
  .rw[<-hP];exact⟨rfl,HS,hf⟩
  .rw[<-hP];have:=hl2 e;rw[this];exact⟨rfl,H,fun _ _ _ _=>rfl⟩
 .rintro r hr z s ⟨rfl,h4⟩;rw[hr]at hP;simp[rW,h4,zcp];rw[<-hP];exact⟨rfl,fun _=>rfl⟩
def fn75:pr.fn 75=some g75:=by kernel_rfl
def RdI.upF{h h':T Ob}{c c' I A:Nat}{d:D}{l:List Nat}(H:RdI h c d l)(h1:d.oid≠some I)(h2:d.oid≠some A)(hf:FrI h h' c I A)(hc:c<=c'):RdI h' c' d l:=by
 rcases H with H|H|⟨id,ro,e1,e2,e3,e4,e5⟩
 .exact .inl H
 .exact .inr (.inl H)
 .refine .inr (.inr ⟨id,ro,e1,e2,?_,e4,by omega⟩);rw[hf id e5 (fun e=>h1 (by rw[e1,e];rfl)) (fun e=>h2 (by rw[e1,e];rfl))];exact e3
def RdS(h:T Ob)(c:Nat)(d:D)(l:List Nat):Prop:=(d= .f .nils/\l=[])\/∃id off lim ex ro els,d= .sl id off l.length 1 lim ex/\h.get id=some (.arr 1 ro els)/\(els.drop off).take l.length=iE l/\id<c
def RdS.upF{h h':T Ob}{c c' I A:Nat}{d:D}{l:List Nat}(H:RdS h c d l)(h1:d.oid≠some I)(h2:d.oid≠some A)(hf:FrI h h' c I A)(hc:c<=c'):RdS h' c' d l:=by
 rcases H with H|⟨id,off,lim,ex,ro,els,e1,e2,e3,e4⟩
 .exact .inl H
 .refine .inr ⟨id,off,lim,ex,ro,els,e1,?_,e3,by omega⟩;rw[hf id e4 (fun e=>h1 (by rw[e1,e];rfl)) (fun e=>h2 (by rw[e1,e];rfl))];exact e2
def RdS.len{h:T Ob}{c:Nat}{d:D}{l:List Nat}(H:RdS h c d l):zbv d=some l.length:=by
 rcases H with⟨rfl,rfl⟩ |⟨id,off,lim,ex,ro,els,rfl,_⟩ <;>rfl
def zpV(l:List Nat)(n:Nat)(h:n<l.length):(iE l)[n]? =some [D.f (.i .i64 (l[n]:Int))]:=by simp[iE,Z0 h]
def RdS.hd{h:T Ob}{c v:Nat}{d:D}{l:List Nat}(H:RdS h c d (v::l)):∃p rd,iaB 1 d 0=some p/\zbq false 1 h.get p=some (.f (.i .i64 (v:Int)),rd):=by
 rcases H with⟨_,h⟩ |⟨id,off,lim,ex,ro,els,rfl,e2,e3,e4⟩
 .cases h
 .refine⟨.ptr id 1 (off+0) 0,[id],by simp[iaB],?_⟩;have e:els[off]? =some [D.f (.i .i64 (v:Int))]:=by
   have h0:=zpV (v::l) 0 (by simp);rw[<-e3,Z76,Z52 (by simp),Z82]at h0;simpa using h0
  simp[zbq,e2,e,zcn]
def RdS.tl{h:T Ob}{c v:Nat}{d:D}{l:List Nat}(H:RdS h c d (v::l)):∃d' rd,sliceB 1 h.get d (some (.f (.i .i64 1))) none none=some (d',rd)/\RdS h c d' l/\d'.oid=d.oid/\d'.cells=some [d']:=by
 rcases H with⟨_,h⟩ |⟨id,off,lim,ex,ro,els,rfl,e2,e3,e4⟩
 .cases h
 .refine⟨.sl id (off+1) l.length 1 lim ex,[id],?_,.inr ⟨id,off+1,lim,ex,ro,els,rfl,e2,?_,e4⟩,rfl,rfl⟩
  .simp[sliceB,e2,za8,zbR]
  .have:(els.drop (off+1)).take l.length=((els.drop off).take (l.length+1)).drop 1:=by
    rw[List.drop_take,Z176,Z153]
   rw[this];simp only[Z24]at e3;rw[e3];simp[iE]
def RdN(h:T Ob)(c I A n:Nat)(d:D)(f:Nat->List Nat):Prop:=∃N ro rows,d= .sl N 0 n 1 n true/\h.get N=some (.arr 1 ro rows)/\N<c/\N≠I/\N≠A/\∀v,v<n->∃e,rows[v]? =some [e]/\RdI h c e (f v)/\e.oid≠some I/\e.oid≠some A
def RdN.upF{h h':T Ob}{c c' I A n:Nat}{d:D}{f:Nat->List Nat}(H:RdN h c I A n d f)(hf:FrI h h' c I A)(hc:c<=c'):RdN h' c' I A n d f:=by
 obtain⟨N,ro,rows,e1,e2,e3,e4,e5,e6⟩ :=H;refine⟨N,ro,rows,e1,by rw[hf N e3 e4 e5];exact e2,by omega,e4,e5,fun v hv=> ?_⟩;obtain⟨e,g1,g2,g3,g4⟩ :=e6 v hv;exact⟨e,g1,g2.upF g3 g4 hf hc,g3,g4⟩
def RdN.get{h:T Ob}{c I A n:Nat}{d:D}{f:Nat->List Nat}(H:RdN h c I A n d f){v:Nat}(hv:v<n):∃p rd e,iaB 1 d v=some p/\zbq false 1 h.get p=some (e,rd)/\RdI h c e (f v)/\e.oid≠some I/\e.oid≠some A:=by
 obtain⟨N,ro,rows,rfl,e2,e3,e4,e5,e6⟩ :=H;obtain⟨e,g1,g2,g3,g4⟩ :=e6 v hv;exact⟨.ptr N 1 v 0,[N],e,by simp[iaB,hv],by simp[zbq,e2,g1,zcn],g2,g3,g4⟩
structure znQ(a b:CQ)(ns:List Str)(dA dC dT:D)(cand:List Trm)(inA inC:Nat->List Nat)(h:T Ob)(c I A:Nat):Prop where
 rA:RdN h c I A ns.length dA inA
 rC:RdN h c I A ns.length dC inC
 rT:RdT h c dT cand
 tI:dT.oid≠some I
 tA:dT.oid≠some A
def znQ.upF{a b:CQ}{ns:List Str}{dA dC dT:D}{cand:List Trm}{inA inC:Nat->List Nat}{h h':T Ob}{c c' I A:Nat}(H:znQ a b ns dA dC dT cand inA inC h c I A)(hf:FrI h h' c I A)(hc:c<=c'):znQ a b ns dA dC dT cand inA inC h' c' I A:=
 ⟨H.rA.upF hf hc,H.rC.upF hf hc,H.rT.up (fun id h1 h2=>hf id h1 (fun e=>H.tI (by rw[h2,e])) (fun e=>H.tA (by rw[h2,e]))) hc,H.tI,H.tA⟩
structure SPla(a b:CQ)(ns:List Str)(cand:List Trm)(inA inC:Nat->List Nat):Prop where
 ha:CqOk a
 hb:CqOk b
 hv:zg7 ns a
 hc:∀t∈cand,zaL t
 lc:cand.length<100000
 iA:∀v,v<ns.length->(∀i∈inA v,i<a.as.length)/\(inA v).length<100000
 iC:∀v,v<ns.length->(∀i∈inC v,i<a.cs.length)/\(inC v).length<100000
def zhb(ns:List Str)(a b:CQ)(cand:List Trm)(inA inC:Nat->List Nat):List Nat->List Trm->List Bool->Option (List Trm×List Bool)
 |[],im,asg=>some (im,asg)
 |v::vs,im,asg=>cand.findSome? fun t=>if acc ns (im.set v t) (asg.set v true) a b (inA v) (inC v)=true then zhb ns a b cand inA inC vs (im.set v t) (asg.set v true)else none
def P31(a b:CQ)(ns:List Str)(dA dC dT:D)(im:List Trm)(asg:List Bool)(h:T Ob)(c S M I A:Nat)(r:Option (List Trm×List Bool))(d:D)(h':T Ob)(c':Nat):Prop:=match r with
 |some st=>d= .f (.b true)/\SAt a b ns st.1 st.2 dA dC dT h' c' S M I A/\FrI h h' c I A
 |none=>d= .f (.b false)/\SAt a b ns im asg dA dC dT h' c' S M I A/\FrI h h' c I A
def FrI.trans{h h' h'':T Ob}{c c' I A:Nat}(h1:FrI h h' c I A)(h2:FrI h' h'' c' I A)(hc:c<=c'):FrI h h'' c I A:=
 fun id a b d=>by rw[h2 id (by omega) b d,h1 id a b d]
def FrI.refl{h:T Ob}{c I A:Nat}:FrI h h c I A:=fun _ _ _ _=>rfl
def Y1(a b:CQ)(ns:List Str)(dA dC dT:D)(cand:List Trm)(im:List Trm)(asg:List Bool)(h:T Ob)(c S M I A v:Nat)(d:D)(n:Nat)(s:St):Prop:=
 s.tm.get 0=some (.ptr S 11 0 0)/\s.tm.get 1=some (d)/\s.tm.get 5=some (.f (.i .i64 (v:Int)))/\s.tm.get 23=some (dT)/\s.tm.get 24=some (.f (.i .i64 cand.length))/\s.tm.get 25=some (.f (.i .i64 n))/\(∃u,SAt a b ns (im.set v u) (asg.set v true) dA dC dT s.h s.c S M I A)/\FrI h s.h c I A/\c<=s.c/\s.lw<=A
def Y2(a b:CQ)(ns:List Str)(dA dC dT:D)(cand:List Trm)(im:List Trm)(asg:List Bool)(h:T Ob)(c S M I A v:Nat)(d:D)(n:Nat)(t:Trm)(s:St):Prop:=
 s.tm.get 0=some (.ptr S 11 0 0)/\s.tm.get 1=some (d)/\s.tm.get 5=some (.f (.i .i64 (v:Int)))/\s.tm.get 23=some (dT)/\s.tm.get 24=some (.f (.i .i64 cand.length))/\s.tm.get 25=some (.f (.i .i64 n))/\SAt a b ns (im.set v t) (asg.set v true) dA dC dT s.h s.c S M I A/\FrI h s.h c I A/\c<=s.c/\s.lw<=A
def zlV{im:List Trm}{asg:List Bool}(ho:zfw im asg){v:Nat}{t:Trm}(ht:zaL t)(hl:asg.length<=im.length):zfw (im.set v t) (asg.set v true):=by
 intro i hi;simp only[Z49,Z88]at hi|-
 by_cases h:v=i
 .subst h
  by_cases hv:v<im.length
  .simp[hv,ht]
  .have h2:¬v<asg.length:=by omega
   simp[h2]at hi
 .simp only[h,Z64]at hi|-;have:=ho i;simp only[Z49]at this;exact this hi
theorem eff75{a b:CQ}{ns:List Str}{dA dC dT:D}{cand:List Trm}{inA inC:Nat->List Nat}(HP:SPla a b ns cand inA inC){S M I A:Nat}:
  ∀(vs:List Nat) {im:List Trm} {asg:List Bool} {h:T Ob} {c:Nat} {d:D},SAt a b ns im asg dA dC dT h c S M I A->znQ a b ns dA dC dT cand inA inC h c I A->zfw im asg->RdS h c d vs->d.oid≠some I->d.oid≠some A->vs.length<100000->vs.Nodup->(∀v∈vs,v<ns.length/\im.getD v (.var [])= .var []/\asg.getD v false=false)->
  Eff pr 75 [.ptr S 11 0 0,d] h c (P31 a b ns dA dC dT im asg h c S M I A (zhb ns a b cand inA inC vs im asg)):=by
 intro vs
 induction vs with
 |nil=>
  intro im asg h c d HS HF ho hd _ _ _ _ _;refine zcG za0 fn75 ?_;simp only[g75,rU];unfold zhb;simp[rW,st0,zah,hd.len,zcp];have hP:P31 a b ns dA dC dT im asg h c S M I A (some (im,asg)) (.f (.b true)) h c:=⟨rfl,HS,FrI.refl⟩
  exact hP
 |cons v vs ih=>
  intro im asg h c d HS HF ho hd hdI hdA hvl hnd hz;refine zcG za0 fn75 ?_;simp only[g75,rU];unfold zhb;obtain⟨hvn,hvi,hva⟩ :=hz v (by simp);obtain⟨nSI,nSA,nMI,nMA,nIA⟩ :=HS.ne;obtain⟨p,rd,hp1,hp2⟩ :=hd.hd;have gS:=HS.gS;have gA:=HS.gA;have hv2:v<asg.length:=by rw[HS.lA];exact hvn
  have hv1:v<im.length:=by rw[HS.lI];exact hvn
  have e2:=zlW asg v hv2;have e4:∀u,hd8 (bE u)=false:=zIs
  have e6:=ztT asg v true;have hlen0:¬((vs.length:Int)+1=0):=by omega
  have hbA:=HS.bA;generalize hres:(cand.findSome? fun t=>if acc ns (im.set v t) (asg.set v true) a b (inA v) (inC v)=true then zhb ns a b cand inA inC vs (im.set v t) (asg.set v true)else none)=res;generalize hPP:P31 a b ns dA dC dT im asg h c S M I A res=P;simp[rW,st0,zah,hd.len,hp1,hp2,gS,gA,nSA,hvn,e2,e4,e6,hbA,HF.rT.len,hlen0];have hz':∀t,∀u∈vs,u<ns.length/\(im.set v t).getD u (.var [])= .var []/\(asg.set v true).getD u false=false:=by
   intro t u hu;obtain⟨g1,g2,g3⟩ :=hz u (by simp[hu]);have hne:v≠u:=fun e=>(Z75.1 hnd).1 (by rw[e];exact hu)
   simp only[Z49]at g2 g3|-;simp only[Z88,hne,Z64];exact⟨g1,g2,g3⟩
  refine someW cand (fun t=>if acc ns (im.set v t) (asg.set v true) a b (inA v) (inC v)=true then zhb ns a b cand inA inC vs (im.set v t) (asg.set v true)else none)
   (Y1 a b ns dA dC dT cand im asg h c S M I A v d) (fun x s=>x= .exit 0/\∃n,Y1 a b ns dA dC dT cand im asg h c S M I A v d n s) (fun r x s=>x= .ret/\s.tm.get 4=some (.f (.b true))/\SAt a b ns r.1 r.2 dA dC dT s.h s.c S M I A/\FrI h s.h c I A/\s.lw<=A) ?_ ?_ _ ?_ ?_ ?_
  .rintro n s hn ⟨h0,h1,h5,h23,h24,h25,⟨u,HSs⟩,hf,hc,hl⟩;have hw:=zao n (by have:=HP.lc;omega);obtain⟨q1,rdq,hq1,hq2⟩ :=(HF.upF hf hc).rT.get hn;have htok:=HP.hc _ (Z2 hn);generalize cand[n]=t at hq2 htok|-;have gS:=HSs.gS;have gI:=HSs.gI;have hbS:=HSs.bS;have hbI:=HSs.bI;have hbS0:=HS.bS;have hbI0:=HS.bI;have hbM0:=HS.bM;have nSc:¬S=s.c:=by omega
   have nIc:¬I=s.c:=by omega
   have nAc:¬A=s.c:=by omega
   have nsI:¬s.c=I:=by omega
   have e1:=zfX (im.set v u) v (by simpa using hv1);have e3:∀u,hd8 (zaH u)=false:=zpS
   have e5:=zh2 (im.set v u) v t;rw[Z200]at e5;simp only[tmD]at e1 e5 hq2;simp[rW,h0,h1,h5,h23,h24,h25,hn,hq1,hq2];refine zaF ?_;simp[rW,h0,h1,h5,h23,h24,h25,gS,gI,nSI,nSc,nIc,nsI,hvn,e1,e3,e5,zbD];refine⟨by omega,?_⟩;refine zfu (Q:=fun S=>WD pr _ S _) (P:=fun s=>Y2 a b ns dA dC dT cand im asg h c S M I A v d n t s) ?_ ?_
   .simp[rW,Y2,h0,h1,h5,h23,h24,h25];refine⟨HSs.upd ?_ ?_ (by simp) rfl ?_ (by omega),fun id h1 h2 h3=> ?_,by omega,?_⟩
    .simp[TG]
    .simp[TG,nIA.symm,nAc,HSs.gA]
    .intro id h1 h2 h3;simp[TG,h2,show id≠s.c by omega]
    .simp[TG,h2,show id≠s.c by omega,hf id h1 h2 h3]
    .exact Z4 (zcu _ _) (Z4 (zcu _ _) (Z4 (zcu _ _) hl))
   .clear hf hc hl gS gI HSs hbS hbI nSc nIc nAc nsI e1 e5 hq1 hq2 h0 h1 h5 h23 h24 h25;rintro s ⟨h0,h1,h5,h23,h24,h25,HSs,hf,hc,hl⟩;have HFs:=HF.upF hf hc;obtain⟨pA,rA,dIA,hA1,hA2,hA3,hA4,hA5⟩ :=HFs.rA.get hvn;obtain⟨pC,rC,dIC,hC1,hC2,hC3,hC4,hC5⟩ :=HFs.rC.get hvn;have gS:=HSs.gS;have hoS:=zlV ho (v:=v) htok (by rw[HS.lA,HS.lI];exact Z3 _);refine za5 ?_;simp[rW,h0,h1,h5,h23,h24,h25,gS,hvn,hA1,hA2,hC1,hC2];refine zbS (ro71 (HSs.up ?_ ?_) hoS HP.ha HP.hb HP.hv (hA3.up ?_ ?_) (hC3.up ?_ ?_) (HP.iA v hvn).1 (HP.iC v hvn).1 (HP.iA v hvn).2 (HP.iC v hvn).2) ?_ ?_ ?_
    .intro id hid;simp only[rG]
    .simp only[rG];omega
    .intro id hid;simp only[rG]
    .simp only[rG];omega
    .intro id hid;simp only[rG]
    .simp only[rG];omega
    .simp only[rG];omega
    .simp[ckG,ck1]
    .intro mx hmx;simp only[rG]at hmx;cases hz0:acc ns (im.set v t) (asg.set v true) a b (inA v) (inC v)with
     |false=>
      simp[rW,h0,h1,h5,h23,h24,h25,hw,Y1];exact⟨⟨t,HSs.up (fun _ _=>rfl) (by omega)⟩,hf,by omega,hl⟩
     |true=>
      obtain⟨d2,rd2,hs1,hs2,hs3,hs4⟩ :=(hd.upF hdI hdA hf hc).tl;have hvs':vs.length<100000:=by simp only[Z24]at hvl;omega
      have hnd':=(Z75.1 hnd).2;have hih:=fun(H':Vse.T Ob) (c':Nat) (h1:∀id,id<s.c->H'.get id=s.h.get id) (h2:s.c<=c')=>ih (HSs.up h1 h2) (HFs.upF (fun id a _ _=>h1 id a) h2) hoS (hs2.upF (by rw[hs3];exact hdI) (by rw[hs3];exact hdA) (fun id a _ _=>h1 id a) h2) (by rw[hs3];exact hdI) (by rw[hs3];exact hdA) hvs' hnd' (hz' t)
      simp only[hz0,Z61]at*;generalize zhb ns a b cand inA inC vs (im.set v t) (asg.set v true)=r at hih|-;simp[rW,h0,h1,h5,h23,h24,h25,hs1];refine zAJ ?_ ?_ (hih s.h (mx+4) (fun _ _=>rfl) (by omega)) ?_
      .simp only[rG]
      .simp only[rG]
      .intro d' h' c' lw' mx' hp hcc hmm;cases r with
       |none=>
        obtain⟨rfl,HS',hf'⟩ :=hp;simp[rW,h0,h1,h5,h23,h24,h25,hw,Y1];exact⟨⟨t,HS'.up (fun _ _=>rfl) (by omega)⟩,hf.trans hf' (by omega),by omega,Z4 (Z65 _ _) hl⟩
       |some st=>
        obtain⟨rfl,HS',hf'⟩ :=hp;simp[rW,h0,h1,h5,h23,h24,h25];exact⟨HS'.up (fun _ _=>rfl) (by omega),hf.trans hf' (by omega),Z4 (Z65 _ _) hl⟩
  .rintro s ⟨h0,h1,h5,h23,h24,h25,⟨u,HSs⟩,hf,hc,hl⟩;simp[rW,h0,h1,h5,h23,h24,h25,Y1];exact⟨⟨_,rfl⟩,⟨u,HSs⟩,hf,hc,hl⟩
  .simp[rW,Y1,hd.len,HF.rT.len];refine⟨⟨im[v],HS.upd ?_ ?_ (by simp) (by simp) ?_ (Z3 _)⟩,fun id h1 h2 h3=> ?_,?_⟩
   .simp[TG,nIA,HS.gI]
   .simp[TG]
   .intro id h1 h2 h3;simp[TG,h3]
   .simp[TG,h3]
   .exact zdU _ _ _ _
  .rintro hnone x s ⟨rfl,n,h0,h1,h5,h23,h24,h25,⟨u,HSs⟩,hf,hc,hl⟩;have er:res=none:=hres.symm.trans hnone;subst er;have gS:=HSs.gS;have gI:=HSs.gI;have gA:=HSs.gA;have hbS:=HSs.bS;have hbI:=HSs.bI;have hbA:=HSs.bA;have e1:=zfX (im.set v u) v (by simpa using hv1);have e2:=zlW (asg.set v true) v (by simpa using hv2);have e3:∀u,hd8 (zaH u)=false:=zpS
   have e5:=zh2 (im.set v u) v (.var []);have e6:=ztT (asg.set v true) v false;have z1:im.set v (.var [])=im:=by
    have:im[v]= .var []:=by simpa [Z49,Z0 hv1]using hvi
    rw[<-this];simp
   have z2:asg.set v false=asg:=by
    have:asg[v]=false:=by simpa [Z49,Z0 hv2]using hva
    rw[<-this];simp
   rw[Z200,z1]at e5;rw[Z200,z2]at e6;simp only[tmD,zo6,zo3,zo4]at e1 e5;simp[rW,h0,h1,h5,h23,h24,h25,gS,gI,gA,nSI,nSA,nIA,nIA.symm,hvn,e1,e2,e3,e4,e5,e6,zbD,hbI,hbA,zcp];refine⟨?_,fun e=> ?_⟩
   .rw[<-hPP];refine⟨rfl,HS.upd ?_ ?_ rfl rfl ?_ hc,fun id h1 h2 h3=> ?_⟩
    .simp[TG,nIA]
    .simp[TG]
    .intro id h1 h2 h3;simp[TG,h2,h3,hf id h1 h2 h3]
    .simp[TG,h2,h3,hf id h1 h2 h3]
   .have:=Z4 (Z198 e.symm) (zdU _ _ _ _);omega
  .rintro r hsome x s ⟨rfl,h4,HSs,hf,hl⟩;have er:res=some r:=hres.symm.trans hsome;subst er;simp[rW,h4,zcp];rw[<-hPP];exact⟨⟨rfl,HSs,hf⟩,fun e=>by omega⟩
end Go.Proofs.YtflgmemhalhdbaaGreatDoor
end
