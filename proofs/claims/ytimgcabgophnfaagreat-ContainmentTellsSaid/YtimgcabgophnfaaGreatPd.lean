/- The program's search: head variables are fixed. -/
import Derived.Test.YtimgcabgophnfaaGreatPc
import Derived.KernelRfl
import Derived.IntWalk
set_option linter.all false
section
namespace Go.Proofs.YtimgcabgophnfaaGreat
open Go Go.Vse Go.Vse.Sm
set_option maxRecDepth 100000
set_option maxHeartbeats 1000000
set_option linter.all false
theorem fn26:pr.fn 26=some g26:=by kernel_rfl
def RdT(h:T Ob)(c:Nat)(d:D)(l:List Trm):Prop:=(d= .f .nils/\l=[])\/∃id lim ex els ro,d= .sl id 0 l.length 4 lim ex/\h.get id=some (.arr 4 ro els)/\els.take l.length=zaB l/\id<c
theorem RdT.up{h h':T Ob}{c c':Nat}{d:D}{l:List Trm}(H:RdT h c d l)(hf:∀id,id<c->d.oid=some id->h'.get id=h.get id)(hc:c≤c'):RdT h' c' d l:=by
 rcases H with H|⟨id,lim,ex,els,ro,h1,h2,h3,h4⟩
 ·exact .inl H
 ·exact .inr ⟨id,lim,ex,els,ro,h1,by rw[hf id h4 (by rw[h1];rfl)];exact h2,h3,by omega⟩
theorem RdT.len{h:T Ob}{c:Nat}{d:D}{l:List Trm}(H:RdT h c d l):zcr d=some l.length:=by
 rcases H with⟨rfl,rfl⟩ |⟨id,lim,ex,els,ro,rfl,h2,h3,h4⟩ <;>rfl
theorem RdT.cells{h:T Ob}{c:Nat}{d:D}{l:List Trm}(H:RdT h c d l):d.cells=some [d]:=by
 rcases H with⟨rfl,rfl⟩ |⟨id,lim,ex,els,ro,rfl,h2,h3,h4⟩ <;>rfl
theorem RdT.get{h:T Ob}{c:Nat}{d:D}{l:List Trm}(H:RdT h c d l){n:Nat}(hn:n<l.length):∃p rd,iaB 4 d n=some p/\zcn true 4 h.get p=some (.ag (tmD l[n]),rd):=by
 rcases H with⟨rfl,rfl⟩ |⟨id,lim,ex,els,ro,rfl,h2,h3,h4⟩
 ·simp at hn
 ·refine⟨.ptr id 4 n 0,[id],by simp[iaB,hn],?_⟩;have e:els[n]? =some (tmD l[n]):=by
   rw[<-zgC l n hn,<-h3,List.getElem?_take,if_pos hn]
  simp[zcn,h2,e,zcQ,tmD]
theorem ro92(l:List Trm)(p:Trm->Bool){h:T Ob}{c g:Nat}{cap:List D}{dT:D}(hT:RdT h c dT l)(hl:l.length<100000)(hcl:∀n (hn:n<l.length),RO pr g (.ag (tmD l[n])::cap) h c (.f (.b (p l[n])))):
  RO pr 92 [dT,.fn g [] cap] h c (.f (.i .i64 (ixP l p))):=by
 refine zc3 zbB fn92 rfl ?_;simp only[g92,rU];simp[rW,st0,zae,hT.len];refine zd2 l p (fun n s=>s.tm.get 0=some (dT)/\s.tm.get 1=some (.fn g [] cap)/\s.tm.get 7=some (.f (.i .i64 l.length))/\s.tm.get 8=some (.f (.i .i64 n))/\s.h=h/\s.c=c/\s.lw=c) (fun x s=>x= .exit 0/\s.lw=c) (fun n y s=>y= .ret/\s.tm.get 4=some (.f (.i .i64 n))/\s.lw=c) ?_ ?_ _ ?_ ?_ ?_
 ·rintro n s hn ⟨h0,h1,h7,h8,eh,ec,el⟩;have hw:=zao n (by omega);have hp:=hcl n hn;obtain⟨q,rd,hq1,hq2⟩ :=hT.get hn;generalize l[n]=A at hp hq2⊢;simp[rW,h0,h1,h7,h8,hn,hq1,hq2,eh];refine zcp (d:= .f (.b (p A))) ?_ ?_ ?_
  ·simp only[rG];rw[eh,ec];exact hp
  ·simp only[rG];omega
  ·intro mx;cases hb:p A with
   |true=>simp[rW,h0,h1,h7,h8,el]
   |false=>simp[rW,h0,h1,h7,h8,hw,eh,ec,el]
 ·rintro s ⟨h0,h1,h7,h8,eh,ec,el⟩;simp[rW,h0,h1,h7,h8,el]
 ·simp[rW,st0,zae]
 ·rintro h z s ⟨rfl,el⟩;rw[zjt h];simp[rW,za8,el]
 ·rintro n hn hp hm z s ⟨rfl,h4,el⟩;rw[zic hn hp hm];simp[rW,h4,za8,el]
theorem ro61(l:List Trm)(p:Trm->Bool){h:T Ob}{c g:Nat}{cap:List D}{dT:D}(hT:RdT h c dT l)(hl:l.length<100000)(hcl:∀n (hn:n<l.length),RO pr g (.ag (tmD l[n])::cap) h c (.f (.b (p l[n])))):
  RO pr 61 [dT,.fn g [] cap] h c (.f (.b (l.any p))):=by
 refine zc3 zbB fn61 rfl ?_;simp only[g61,rU];rw[<-zkk l p];simp[rW,st0,zae];refine zcp (d:= .f (.i .i64 (ixP l p))) ?_ ?_ ?_
 ·simp only[rG];exact ro92 l p hT hl hcl
 ·simp only[rG];omega
 ·intro mx;simp[rW,za8]
theorem ro62{a b:CQ}{ns:List Str}{im:List Trm}{asg:List Bool}{dA dC dT:D}{h:T Ob}{c S M I A B J:Nat}(H:SAt a b ns im asg dA dC dT h c S M I A){i:Nat}(hi:i<im.length)(t:Trm)(ht:zau t)(hu:zau im[i])
  (gB:h.get B=some (.arr 1 0 [[.ptr S 11 0 0]]))(gJ:h.get J=some (.arr 1 0 [[.f (.i .i64 (i:Int))]]))(hB:B<c)(hJ:J<c):
  RO pr 62 [.ag (tmD t),.ptr B 1 0 0,.ptr J 1 0 0] h c (.f (.b (zbi t im[i]))):=by
 refine zc3 zbB fn62 rfl ?_;simp only[g62,rU];have gS:=H.gS;have gI:=H.gI;have nS:¬S=c:=by have:=H.bS;omega
 have nI:¬I=c:=by have:=H.bI;omega
 have nB:¬B=c:=by omega
 have nJ:¬J=c:=by omega
 have q:=fun k=>zak (k:=k) (zkI t im[i] ht hu)
 have e3:=zgC im i hi;have hi2:i<ns.length:=by rw[<-H.lI];exact hi
 simp only[tmE]at q;simp only[tmD]at e3;simp[rW,st0,zae,tmD];refine zay ?_;simp[rW,st0,zae,tmD,gB,gJ,gS,gI,nS,nB,nJ,nI,hi2,e3,q,za8];simp (disch:=omega) only[zbk,zbN]
theorem zco(m:Nat):∀l,zdr m l≤m:=by
 intro l
 induction l generalizing m with
 |nil=>exact Nat.le_refl _
 |cons p l ih=>
  obtain⟨id,o⟩ :=p;rw[zwa];refine Nat.le_trans (ih _) ?_;split<;>omega
theorem zd7(m id:Nat)(o:Option Ob)(l:List (Nat×Option Ob)):zdr m ((id,o)::l)≤id:=by
 rw[zwa];refine Nat.le_trans (zco _ _) ?_;split<;>omega
theorem zo5(l:List Trm):hd8 (zaB l)=false:=by
 cases l with
 |nil=>rfl
 |cons a l=>simp only[zaB,List.map_cons,tmE,zuF]
theorem zJm(l:List Bool):hd8 (bE l)=false:=by
 cases l with
 |nil=>rfl
 |cons a l=>rfl
theorem ziO(l:List Trm)(i:Nat)(t:Trm):(zaB l).set i (tmD t)=zaB (l.set i t):=by
 simp[zaB,tmD,tmE,List.map_set]
theorem ztG(l:List Bool)(i:Nat)(t:Bool):(bE l).set i [.f (.b t)]=bE (l.set i t):=by
 simp[bE,List.map_set]
theorem zly(l:List Bool)(n:Nat)(h:n<l.length):(bE l)[n]? =some [D.f (.b l[n])]:=by simp[bE,h]
theorem SAt.ne{a b:CQ}{ns:List Str}{im:List Trm}{asg:List Bool}{dA dC dT:D}{h:T Ob}{c S M I A:Nat}(H:SAt a b ns im asg dA dC dT h c S M I A):S≠I/\S≠A/\M≠I/\M≠A/\I≠A:=by
 obtain⟨g1,g2,g3,g4,_⟩ :=H;refine⟨?_,?_,?_,?_,?_⟩ <;>rintro rfl
 ·rw[g1]at g3;simp at g3
 ·rw[g1]at g4;simp at g4
 ·rw[g2]at g3;simp at g3
 ·rw[g2]at g4;simp at g4
 ·rw[g3]at g4;simp at g4
theorem SAt.upd{a b:CQ}{ns:List Str}{im im':List Trm}{asg asg':List Bool}{dA dC dT:D}{h h':T Ob}{c c' S M I A:Nat}(H:SAt a b ns im asg dA dC dT h c S M I A)(hI:h'.get I=some (.arr 4 0 (zaB im')))(hA:h'.get A=some (.arr 1 0 (bE asg')))(l1:im'.length=im.length)(l2:asg'.length=asg.length)
  (hf:∀id,id<c->id≠I->id≠A->h'.get id=h.get id)(hc:c≤c'):SAt a b ns im' asg' dA dC dT h' c' S M I A:=by
 obtain⟨nSI,nSA,nMI,nMA,nIA⟩ :=H.ne;exact⟨by rw[hf S H.bS nSI nSA];exact H.gS,by rw[hf M H.bM nMI nMA];exact H.gM,hI,hA,by rw[l1];exact H.lI,by rw[l2];exact H.lA,Nat.lt_of_lt_of_le H.bS hc,Nat.lt_of_lt_of_le H.bM hc,Nat.lt_of_lt_of_le H.bI hc,Nat.lt_of_lt_of_le H.bA hc⟩
def fixF(ns:List Str)(cand:List Trm)(st:List Trm×List Bool)(x:Str):(List Trm×List Bool)⊕Unit:=
 if x∈ns then(if cand.any (fun t=>zbi t (.var x))=true then .inl (st.1.set (vix ns x) (.var x),st.2.set (vix ns x) true)else .inr ())else .inl st
def FrI(h h':T Ob)(c I A:Nat):Prop:=∀id,id<c->id≠I->id≠A->h'.get id=h.get id
def X1(a b:CQ)(ns:List Str)(dA dC dT:D)(hd:List Str)(h:T Ob)(c S M I A:Nat)(st0:List Trm×List Bool)(n:Nat)(st:List Trm×List Bool)(s:St):Prop:=
 s.tm.get 2=some (.ptr c 1 0 0)/\s.tm.get 9=some (.f (zas hd))/\s.tm.get 10=some (.f (.i .i64 hd.length))/\s.tm.get 11=some (.f (.i .i64 n))/\s.h.get c=some (.arr 1 0 [[.ptr S 11 0 0]])/\SAt a b ns st.1 st.2 dA dC dT s.h s.c S M I A/\FrI h s.h c I A/\c+1≤s.c/\s.lw≤c/\(s.lw=c->st=st0)
def P26(a b:CQ)(ns:List Str)(dA dC dT:D)(h:T Ob)(c S M I A:Nat)(r:(List Trm×List Bool)⊕Unit)(d:D)(h':T Ob)(c':Nat):Prop:=match r with
 | .inl st=>d= .f (.b true)/\SAt a b ns st.1 st.2 dA dC dT h' c' S M I A/\FrI h h' c I A
 | .inr _=>d= .f (.b false)
theorem eff26{a b:CQ}{ns:List Str}{im:List Trm}{asg:List Bool}{dA dC dT:D}{h:T Ob}{c S M I A:Nat}(H:SAt a b ns im asg dA dC dT h c S M I A)(hd:List Str)(hdl:hd.length<100000)(hne:∀x∈ns,x≠[])(cand:List Trm)(hT:RdT h c dT cand)(hTI:dT.oid≠some I)(hTA:dT.oid≠some A)(hcl:cand.length<100000)(hcok:∀t∈cand,zau t):
  Eff pr 26 [.ptr S 11 0 0,.f (zas hd)] h c (P26 a b ns dA dC dT h c S M I A (zc1 (fixF ns cand) (im,asg) hd)):=by
 refine zdA zbB fn26 ?_;simp only[g26,rU];generalize hP:P26 a b ns dA dC dT h c S M I A (zc1 (fixF ns cand) (im,asg) hd)=P;simp[rW,st0,zae,za7];refine zuv hd (fixF ns cand) (im,asg) (X1 a b ns dA dC dT hd h c S M I A (im,asg)) (fun st x s=>x= .exit 0/\∃n,X1 a b ns dA dC dT hd h c S M I A (im,asg) n st s) (fun _ x s=>x= .ret/\s.tm.get 4=some (.f (.b false))) ?_ ?_ _ ?_ ?_ ?_
 ·rintro n st s hn ⟨h2,h9,h10,h11,gc,HS,hf,hc,hl,hl2⟩;have hw:=zao n (by omega);obtain⟨nSI,nSA,nMI,nMA,nIA⟩ :=HS.ne;have gS:=HS.gS;have gM:=HS.gM;have gI:=HS.gI;have gA:=HS.gA;have hbS:=H.bS;have hbM:=H.bM;have hbI:=H.bI;have hbA:=H.bA;have nMc:¬M=s.c:=by omega
  have nSc:¬S=s.c:=by omega
  have nIc:¬I=s.c:=by omega
  have nAc:¬A=s.c:=by omega
  have ncc:¬c=s.c:=by omega
  have ncI:¬c=I:=by omega
  have ncA:¬c=A:=by omega
  have nsI:¬s.c=I:=by omega
  have nsA:¬s.c=A:=by omega
  generalize hx:hd[n]=x;have hx':hd[n]? =some x:=by rw[List.getElem?_eq_getElem hn,hx]
  unfold fixF
  by_cases hm:x∈ns
  ·have hk:=znE hm;have hv:=zf5 hm;rw[if_pos hm];have hv1:vix ns x<st.1.length:=by rw[HS.lI];exact hv
   have hv2:vix ns x<st.2.length:=by rw[HS.lA];exact hv
   have e1:=zgC st.1 (vix ns x) hv1;have e2:=zly st.2 (vix ns x) hv2;have e3:∀u,hd8 (zaB u)=false:=zo5
   have e4:∀u,hd8 (bE u)=false:=zJm
   have e5:=ziO st.1 (vix ns x) (.var x);have e6:=ztG st.2 (vix ns x) true;simp only[tmD,zoh,zoa,zoe]at e5;simp only[tmD]at e1;have hxx:(st.1.set (vix ns x) (.var x))[vix ns x]'(by simpa using hv1)= .var x:=by simp
   have hz:∀(H':T Ob) (c':Nat),SAt a b ns (st.1.set (vix ns x) (.var x)) (st.2.set (vix ns x) true) dA dC dT H' c' S M I A->RdT H' c' dT cand->H'.get c=some (.arr 1 0 [[.ptr S 11 0 0]])->H'.get s.c=some (.arr 1 0 [[.f (.i .i64 (vix ns x:Int))]])->s.c<c'->RO pr 61 [dT,.fn 62 [] [.ptr c 1 0 0,.ptr s.c 1 0 0]] H' c' (.f (.b (cand.any fun t=>zbi t (.var x)))):=by
    intro H' c' HH HT g1 g2 hcc;refine ro61 cand _ HT hcl fun m hm'=> ?_
    have:=ro62 HH (i:=vix ns x) (by simpa using hv1) cand[m] (hcok _ (List.getElem_mem hm')) (by rw[hxx];exact hne x hm) g1 g2 (by omega) hcc;rw[hxx]at this;exact this
   generalize cand.any (fun t=>zbi t (.var x))=z at hz⊢;have hTc:=hT.cells;simp[rW,h2,h9,h10,h11,hn,zb2,hx',hx,gc,gS,gM,hk,ncc];refine zay ?_;simp[rW,h2,h9,h10,h11,gc,gS,gI,gA,ncc,nSc,nIc,nAc,ncI,ncA,nsI,nsA,nSI,nSA,nIA,hv,e1,e2,e3,e4,e5,e6,hbI,za4];refine⟨by omega,zay ?_⟩;simp[rW,h2,h9,h10,h11,gc,gS,gI,gA,ncc,nSc,nIc,nAc,ncI,ncA,nsI,nsA,nSI,nSA,nIA,nIA.symm,hv,e1,e2,e3,e4,e5,e6,hbI,za4,hTc];refine⟨by omega,?_⟩;refine zcp (hz _ _ (HS.upd ?_ ?_ (by simp) (by simp) ?_ ?_) (hT.up ?_ ?_) ?_ ?_ ?_) ?_ ?_
   ·simp only[rG];simp[Vse.T.zab,nIA]
   ·simp only[rG];simp[Vse.T.zab]
   ·intro id h1 h2 h3;simp only[rG];simp[Vse.T.zab,h2,h3,show id≠s.c by omega]
   ·simp only[rG];omega
   ·intro id h1 h2;simp only[rG];have i1:id≠I:=fun e=>hTI (by rw[h2,e])
    have i2:id≠A:=fun e=>hTA (by rw[h2,e])
    simp[Vse.T.zab,i1,i2,show id≠s.c by omega,hf id h1 i1 i2]
   ·simp only[rG];omega
   ·simp only[rG];simp[Vse.T.zab,ncI,ncA,ncc,gc]
   ·simp only[rG];simp[Vse.T.zab,nsI,nsA]
   ·simp only[rG];omega
   ·simp only[rG];exact Nat.le_trans (zco _ _) (Nat.le_trans (zco _ _) (by simp (disch:=omega) only[zbk,zbN];omega))
   ·intro mx;cases z with
    |true=>
     simp[rW,h2,h9,h10,h11,hw,X1,gc,ncc,ncI,ncA];refine⟨HS.upd ?_ ?_ (by simp) (by simp) ?_ (by omega),fun id h1 h2 h3=> ?_,by omega,?_,fun e=> ?_⟩
     ·simp[Vse.T.zab,nIA]
     ·simp[Vse.T.zab]
     ·intro id h1 h2 h3;simp[Vse.T.zab,h2,h3,show id≠s.c by omega]
     ·simp[Vse.T.zab,h2,h3,show id≠s.c by omega,hf id h1 h2 h3]
     ·exact Nat.le_trans (zco _ _) (Nat.le_trans (zco _ _) (by simp (disch:=omega) only[zbk,zbN];omega))
     ·have:=Nat.le_trans (Nat.le_of_eq e.symm) (zd7 _ _ _ _);omega
    |false=>
     simp[rW,h2,h9,h10,h11]
  ·have hk:=zlD hm;rw[if_neg hm];simp[rW,h2,h9,h10,h11,hn,zb2,hx',hx,gc,gS,gM,hk,hw,X1,ncc];refine⟨HS.up (fun id hid=> ?_) (by omega),fun id h1 h2 h3=> ?_,by omega,?_,?_⟩
   ·simp[Vse.T.zab,show id≠s.c by omega]
   ·simp[Vse.T.zab,show id≠s.c by omega,hf id h1 h2 h3]
   ·simp (disch:=omega) only[zbk,zbN];exact hl
   ·simp (disch:=omega) only[zbk,zbN];exact hl2
 ·rintro st s ⟨h2,h9,h10,h11,gc,HS,hf,hc,hl,hl2⟩;simp[rW,h2,h9,h10,h11,X1,gc,hc,hl];exact⟨⟨_,rfl⟩,HS,hf,hl2⟩
 ·simp[rW,X1];refine⟨H.up (fun id hid=> ?_) (by omega),fun id h1 h2 h3=> ?_,?_⟩
  ·simp[Vse.T.zab,show id≠c by omega]
  ·simp[Vse.T.zab,show id≠c by omega]
  ·simp (disch:=omega) only[zbk,zbN];omega
 ·rintro st hst z s ⟨rfl,n,h2,h9,h10,h11,gc,HS,hf,hc,hl,hl2⟩;rw[hst]at hP;simp[rW,zct];refine⟨?_,fun e=> ?_⟩
  ·rw[<-hP];exact⟨rfl,HS,hf⟩
  ·rw[<-hP];have:=hl2 e;rw[this];exact⟨rfl,H,fun _ _ _ _=>rfl⟩
 ·rintro r hr z s ⟨rfl,h4⟩;rw[hr]at hP;simp[rW,h4,zct];rw[<-hP];exact⟨rfl,fun _=>rfl⟩
theorem fn31:pr.fn 31=some g31:=by kernel_rfl
theorem RdI.upF{h h':T Ob}{c c' I A:Nat}{d:D}{l:List Nat}(H:RdI h c d l)(h1:d.oid≠some I)(h2:d.oid≠some A)(hf:FrI h h' c I A)(hc:c≤c'):RdI h' c' d l:=by
 rcases H with H|H|⟨id,ro,e1,e2,e3,e4,e5⟩
 ·exact .inl H
 ·exact .inr (.inl H)
 ·refine .inr (.inr ⟨id,ro,e1,e2,?_,e4,by omega⟩);rw[hf id e5 (fun e=>h1 (by rw[e1,e];rfl)) (fun e=>h2 (by rw[e1,e];rfl))];exact e3
def RdS(h:T Ob)(c:Nat)(d:D)(l:List Nat):Prop:=(d= .f .nils/\l=[])\/∃id off lim ex ro els,d= .sl id off l.length 1 lim ex/\h.get id=some (.arr 1 ro els)/\(els.drop off).take l.length=iE l/\id<c
theorem RdS.upF{h h':T Ob}{c c' I A:Nat}{d:D}{l:List Nat}(H:RdS h c d l)(h1:d.oid≠some I)(h2:d.oid≠some A)(hf:FrI h h' c I A)(hc:c≤c'):RdS h' c' d l:=by
 rcases H with H|⟨id,off,lim,ex,ro,els,e1,e2,e3,e4⟩
 ·exact .inl H
 ·refine .inr ⟨id,off,lim,ex,ro,els,e1,?_,e3,by omega⟩;rw[hf id e4 (fun e=>h1 (by rw[e1,e];rfl)) (fun e=>h2 (by rw[e1,e];rfl))];exact e2
theorem RdS.len{h:T Ob}{c:Nat}{d:D}{l:List Nat}(H:RdS h c d l):zcr d=some l.length:=by
 rcases H with⟨rfl,rfl⟩ |⟨id,off,lim,ex,ro,els,rfl,_⟩ <;>rfl
theorem zo8(l:List Nat)(n:Nat)(h:n<l.length):(iE l)[n]? =some [D.f (.i .i64 (l[n]:Int))]:=by simp[iE,List.getElem?_eq_getElem h]
theorem RdS.hd{h:T Ob}{c v:Nat}{d:D}{l:List Nat}(H:RdS h c d (v::l)):∃p rd,iaB 1 d 0=some p/\zcn false 1 h.get p=some (.f (.i .i64 (v:Int)),rd):=by
 rcases H with⟨_,h⟩ |⟨id,off,lim,ex,ro,els,rfl,e2,e3,e4⟩
 ·cases h
 ·refine⟨.ptr id 1 (off+0) 0,[id],by simp[iaB],?_⟩;have e:els[off]? =some [D.f (.i .i64 (v:Int))]:=by
   have h0:=zo8 (v::l) 0 (by simp);rw[<-e3,List.getElem?_take,if_pos (by simp),List.getElem?_drop]at h0;simpa using h0
  simp[zcn,e2,e,zcQ]
theorem RdS.tl{h:T Ob}{c v:Nat}{d:D}{l:List Nat}(H:RdS h c d (v::l)):∃d' rd,sliceB 1 h.get d (some (.f (.i .i64 1))) none none=some (d',rd)/\RdS h c d' l/\d'.oid=d.oid/\d'.cells=some [d']:=by
 rcases H with⟨_,h⟩ |⟨id,off,lim,ex,ro,els,rfl,e2,e3,e4⟩
 ·cases h
 ·refine⟨.sl id (off+1) l.length 1 lim ex,[id],?_,.inr ⟨id,off+1,lim,ex,ro,els,rfl,e2,?_,e4⟩,rfl,rfl⟩
  ·simp[sliceB,e2,za9,zbz]
  ·have:(els.drop (off+1)).take l.length=((els.drop off).take (l.length+1)).drop 1:=by
    rw[List.drop_take,List.drop_drop,Nat.add_sub_cancel]
   rw[this];simp only[List.length_cons]at e3;rw[e3];simp[iE]
def RdN(h:T Ob)(c I A n:Nat)(d:D)(f:Nat->List Nat):Prop:=∃N ro rows,d= .sl N 0 n 1 n true/\h.get N=some (.arr 1 ro rows)/\N<c/\N≠I/\N≠A/\∀v,v<n->∃e,rows[v]? =some [e]/\RdI h c e (f v)/\e.oid≠some I/\e.oid≠some A
theorem RdN.upF{h h':T Ob}{c c' I A n:Nat}{d:D}{f:Nat->List Nat}(H:RdN h c I A n d f)(hf:FrI h h' c I A)(hc:c≤c'):RdN h' c' I A n d f:=by
 obtain⟨N,ro,rows,e1,e2,e3,e4,e5,e6⟩ :=H;refine⟨N,ro,rows,e1,by rw[hf N e3 e4 e5];exact e2,by omega,e4,e5,fun v hv=> ?_⟩;obtain⟨e,g1,g2,g3,g4⟩ :=e6 v hv;exact⟨e,g1,g2.upF g3 g4 hf hc,g3,g4⟩
theorem RdN.get{h:T Ob}{c I A n:Nat}{d:D}{f:Nat->List Nat}(H:RdN h c I A n d f){v:Nat}(hv:v<n):∃p rd e,iaB 1 d v=some p/\zcn false 1 h.get p=some (e,rd)/\RdI h c e (f v)/\e.oid≠some I/\e.oid≠some A:=by
 obtain⟨N,ro,rows,rfl,e2,e3,e4,e5,e6⟩ :=H;obtain⟨e,g1,g2,g3,g4⟩ :=e6 v hv;exact⟨.ptr N 1 v 0,[N],e,by simp[iaB,hv],by simp[zcn,e2,g1,zcQ],g2,g3,g4⟩
structure zna(a b:CQ)(ns:List Str)(dA dC dT:D)(cand:List Trm)(inA inC:Nat->List Nat)(h:T Ob)(c I A:Nat):Prop where
 rA:RdN h c I A ns.length dA inA
 rC:RdN h c I A ns.length dC inC
 rT:RdT h c dT cand
 tI:dT.oid≠some I
 tA:dT.oid≠some A
theorem zna.upF{a b:CQ}{ns:List Str}{dA dC dT:D}{cand:List Trm}{inA inC:Nat->List Nat}{h h':T Ob}{c c' I A:Nat}(H:zna a b ns dA dC dT cand inA inC h c I A)(hf:FrI h h' c I A)(hc:c≤c'):zna a b ns dA dC dT cand inA inC h' c' I A:=
 ⟨H.rA.upF hf hc,H.rC.upF hf hc,H.rT.up (fun id h1 h2=>hf id h1 (fun e=>H.tI (by rw[h2,e])) (fun e=>H.tA (by rw[h2,e]))) hc,H.tI,H.tA⟩
structure SPla(a b:CQ)(ns:List Str)(cand:List Trm)(inA inC:Nat->List Nat):Prop where
 ha:CqOk a
 hb:CqOk b
 hv:zfi ns a
 hc:∀t∈cand,zau t
 lc:cand.length<100000
 iA:∀v,v<ns.length->(∀i∈inA v,i<a.as.length)/\(inA v).length<100000
 iC:∀v,v<ns.length->(∀i∈inC v,i<a.cs.length)/\(inC v).length<100000
def zg4(ns:List Str)(a b:CQ)(cand:List Trm)(inA inC:Nat->List Nat):List Nat->List Trm->List Bool->Option (List Trm×List Bool)
 |[],im,asg=>some (im,asg)
 |v::vs,im,asg=>cand.findSome? fun t=>if acc ns (im.set v t) (asg.set v true) a b (inA v) (inC v)=true then zg4 ns a b cand inA inC vs (im.set v t) (asg.set v true)else none
def P31(a b:CQ)(ns:List Str)(dA dC dT:D)(im:List Trm)(asg:List Bool)(h:T Ob)(c S M I A:Nat)(r:Option (List Trm×List Bool))(d:D)(h':T Ob)(c':Nat):Prop:=match r with
 |some st=>d= .f (.b true)/\SAt a b ns st.1 st.2 dA dC dT h' c' S M I A/\FrI h h' c I A
 |none=>d= .f (.b false)/\SAt a b ns im asg dA dC dT h' c' S M I A/\FrI h h' c I A
theorem FrI.trans{h h' h'':T Ob}{c c' I A:Nat}(h1:FrI h h' c I A)(h2:FrI h' h'' c' I A)(hc:c≤c'):FrI h h'' c I A:=
 fun id a b d=>by rw[h2 id (by omega) b d,h1 id a b d]
theorem FrI.refl{h:T Ob}{c I A:Nat}:FrI h h c I A:=fun _ _ _ _=>rfl
def Y1(a b:CQ)(ns:List Str)(dA dC dT:D)(cand:List Trm)(im:List Trm)(asg:List Bool)(h:T Ob)(c S M I A v:Nat)(d:D)(n:Nat)(s:St):Prop:=
 s.tm.get 0=some (.ptr S 11 0 0)/\s.tm.get 1=some (d)/\s.tm.get 5=some (.f (.i .i64 (v:Int)))/\s.tm.get 23=some (dT)/\s.tm.get 24=some (.f (.i .i64 cand.length))/\s.tm.get 25=some (.f (.i .i64 n))/\(∃u,SAt a b ns (im.set v u) (asg.set v true) dA dC dT s.h s.c S M I A)/\FrI h s.h c I A/\c≤s.c/\s.lw≤A
def Y2(a b:CQ)(ns:List Str)(dA dC dT:D)(cand:List Trm)(im:List Trm)(asg:List Bool)(h:T Ob)(c S M I A v:Nat)(d:D)(n:Nat)(t:Trm)(s:St):Prop:=
 s.tm.get 0=some (.ptr S 11 0 0)/\s.tm.get 1=some (d)/\s.tm.get 5=some (.f (.i .i64 (v:Int)))/\s.tm.get 23=some (dT)/\s.tm.get 24=some (.f (.i .i64 cand.length))/\s.tm.get 25=some (.f (.i .i64 n))/\SAt a b ns (im.set v t) (asg.set v true) dA dC dT s.h s.c S M I A/\FrI h s.h c I A/\c≤s.c/\s.lw≤A
theorem zlx{im:List Trm}{asg:List Bool}(ho:zfv im asg){v:Nat}{t:Trm}(ht:zau t)(hl:asg.length≤im.length):zfv (im.set v t) (asg.set v true):=by
 intro i hi;simp only[List.getD_eq_getElem?_getD,List.getElem?_set]at hi⊢
 by_cases h:v=i
 ·subst h
  by_cases hv:v<im.length
  ·simp[hv,ht]
  ·have h2:¬v<asg.length:=by omega
   simp[h2]at hi
 ·simp only[h,if_false]at hi⊢;have:=ho i;simp only[List.getD_eq_getElem?_getD]at this;exact this hi
theorem eff31{a b:CQ}{ns:List Str}{dA dC dT:D}{cand:List Trm}{inA inC:Nat->List Nat}(HP:SPla a b ns cand inA inC){S M I A:Nat}:
  ∀(vs:List Nat) {im:List Trm} {asg:List Bool} {h:T Ob} {c:Nat} {d:D},SAt a b ns im asg dA dC dT h c S M I A->zna a b ns dA dC dT cand inA inC h c I A->zfv im asg->RdS h c d vs->d.oid≠some I->d.oid≠some A->vs.length<100000->vs.Nodup->(∀v∈vs,v<ns.length/\im.getD v (.var [])= .var []/\asg.getD v false=false)->
  Eff pr 31 [.ptr S 11 0 0,d] h c (P31 a b ns dA dC dT im asg h c S M I A (zg4 ns a b cand inA inC vs im asg)):=by
 intro vs
 induction vs with
 |nil=>
  intro im asg h c d HS HF ho hd _ _ _ _ _;refine zdA zbB fn31 ?_;simp only[g31,rU];unfold zg4;simp[rW,st0,zae,hd.len,zct];have hP:P31 a b ns dA dC dT im asg h c S M I A (some (im,asg)) (.f (.b true)) h c:=⟨rfl,HS,FrI.refl⟩
  exact hP
 |cons v vs ih=>
  intro im asg h c d HS HF ho hd hdI hdA hvl hnd hz;refine zdA zbB fn31 ?_;simp only[g31,rU];unfold zg4;obtain⟨hvn,hvi,hva⟩ :=hz v (by simp);obtain⟨nSI,nSA,nMI,nMA,nIA⟩ :=HS.ne;obtain⟨p,rd,hp1,hp2⟩ :=hd.hd;have gS:=HS.gS;have gA:=HS.gA;have hv2:v<asg.length:=by rw[HS.lA];exact hvn
  have hv1:v<im.length:=by rw[HS.lI];exact hvn
  have e2:=zly asg v hv2;have e4:∀u,hd8 (bE u)=false:=zJm
  have e6:=ztG asg v true;have hlen0:¬((vs.length:Int)+1=0):=by omega
  have hbA:=HS.bA;generalize hres:(cand.findSome? fun t=>if acc ns (im.set v t) (asg.set v true) a b (inA v) (inC v)=true then zg4 ns a b cand inA inC vs (im.set v t) (asg.set v true)else none)=res;generalize hPP:P31 a b ns dA dC dT im asg h c S M I A res=P;simp[rW,st0,zae,hd.len,hp1,hp2,gS,gA,nSA,hvn,e2,e4,e6,hbA,HF.rT.len,hlen0];have hz':∀t,∀u∈vs,u<ns.length/\(im.set v t).getD u (.var [])= .var []/\(asg.set v true).getD u false=false:=by
   intro t u hu;obtain⟨g1,g2,g3⟩ :=hz u (by simp[hu]);have hne:v≠u:=fun e=>(List.nodup_cons.1 hnd).1 (by rw[e];exact hu)
   simp only[List.getD_eq_getElem?_getD]at g2 g3⊢;simp only[List.getElem?_set,hne,if_false];exact⟨g1,g2,g3⟩
  refine zLc cand (fun t=>if acc ns (im.set v t) (asg.set v true) a b (inA v) (inC v)=true then zg4 ns a b cand inA inC vs (im.set v t) (asg.set v true)else none)
   (Y1 a b ns dA dC dT cand im asg h c S M I A v d) (fun x s=>x= .exit 0/\∃n,Y1 a b ns dA dC dT cand im asg h c S M I A v d n s) (fun r x s=>x= .ret/\s.tm.get 4=some (.f (.b true))/\SAt a b ns r.1 r.2 dA dC dT s.h s.c S M I A/\FrI h s.h c I A/\s.lw≤A) ?_ ?_ _ ?_ ?_ ?_
  ·rintro n s hn ⟨h0,h1,h5,h23,h24,h25,⟨u,HSs⟩,hf,hc,hl⟩;have hw:=zao n (by have:=HP.lc;omega);obtain⟨q1,rdq,hq1,hq2⟩ :=(HF.upF hf hc).rT.get hn;have htok:=HP.hc _ (List.getElem_mem hn);generalize cand[n]=t at hq2 htok⊢;have gS:=HSs.gS;have gI:=HSs.gI;have hbS:=HSs.bS;have hbI:=HSs.bI;have hbS0:=HS.bS;have hbI0:=HS.bI;have hbM0:=HS.bM;have nSc:¬S=s.c:=by omega
   have nIc:¬I=s.c:=by omega
   have nAc:¬A=s.c:=by omega
   have nsI:¬s.c=I:=by omega
   have e1:=zgC (im.set v u) v (by simpa using hv1);have e3:∀u,hd8 (zaB u)=false:=zo5
   have e5:=ziO (im.set v u) v t;rw[List.set_set]at e5;simp only[tmD]at e1 e5 hq2;simp[rW,h0,h1,h5,h23,h24,h25,hn,hq1,hq2];refine zay ?_;simp[rW,h0,h1,h5,h23,h24,h25,gS,gI,nSI,nSc,nIc,nsI,hvn,e1,e3,e5,za4];refine⟨by omega,?_⟩;refine zeE (Q:=fun S=>WD pr _ S _) (P:=fun s=>Y2 a b ns dA dC dT cand im asg h c S M I A v d n t s) ?_ ?_
   ·simp[rW,Y2,h0,h1,h5,h23,h24,h25];refine⟨HSs.upd ?_ ?_ (by simp) rfl ?_ (by omega),fun id h1 h2 h3=> ?_,by omega,?_⟩
    ·simp[Vse.T.zab]
    ·simp[Vse.T.zab,nIA.symm,nAc,HSs.gA]
    ·intro id h1 h2 h3;simp[Vse.T.zab,h2,show id≠s.c by omega]
    ·simp[Vse.T.zab,h2,show id≠s.c by omega,hf id h1 h2 h3]
    ·exact Nat.le_trans (zco _ _) (Nat.le_trans (zco _ _) (Nat.le_trans (zco _ _) hl))
   ·clear hf hc hl gS gI HSs hbS hbI nSc nIc nAc nsI e1 e5 hq1 hq2 h0 h1 h5 h23 h24 h25;rintro s ⟨h0,h1,h5,h23,h24,h25,HSs,hf,hc,hl⟩;have HFs:=HF.upF hf hc;obtain⟨pA,rA,dIA,hA1,hA2,hA3,hA4,hA5⟩ :=HFs.rA.get hvn;obtain⟨pC,rC,dIC,hC1,hC2,hC3,hC4,hC5⟩ :=HFs.rC.get hvn;have gS:=HSs.gS;have hoS:=zlx ho (v:=v) htok (by rw[HS.lA,HS.lI];exact Nat.le_refl _);refine zbj ?_;simp[rW,h0,h1,h5,h23,h24,h25,gS,hvn,hA1,hA2,hC1,hC2];refine zb6 (ro27 (HSs.up ?_ ?_) hoS HP.ha HP.hb HP.hv (hA3.up ?_ ?_) (hC3.up ?_ ?_) (HP.iA v hvn).1 (HP.iC v hvn).1 (HP.iA v hvn).2 (HP.iC v hvn).2) ?_ ?_ ?_
    ·intro id hid;simp only[rG]
    ·simp only[rG];omega
    ·intro id hid;simp only[rG]
    ·simp only[rG];omega
    ·intro id hid;simp only[rG]
    ·simp only[rG];omega
    ·simp only[rG];omega
    ·simp[ckG,ck1]
    ·intro mx hmx;simp only[rG]at hmx;cases hz0:acc ns (im.set v t) (asg.set v true) a b (inA v) (inC v)with
     |false=>
      simp[rW,h0,h1,h5,h23,h24,h25,hw,Y1];exact⟨⟨t,HSs.up (fun _ _=>rfl) (by omega)⟩,hf,by omega,hl⟩
     |true=>
      obtain⟨d2,rd2,hs1,hs2,hs3,hs4⟩ :=(hd.upF hdI hdA hf hc).tl;have hvs':vs.length<100000:=by simp only[List.length_cons]at hvl;omega
      have hnd':=(List.nodup_cons.1 hnd).2;have hih:=fun(H':Vse.T Ob) (c':Nat) (h1:∀id,id<s.c->H'.get id=s.h.get id) (h2:s.c≤c')=>ih (HSs.up h1 h2) (HFs.upF (fun id a _ _=>h1 id a) h2) hoS (hs2.upF (by rw[hs3];exact hdI) (by rw[hs3];exact hdA) (fun id a _ _=>h1 id a) h2) (by rw[hs3];exact hdI) (by rw[hs3];exact hdA) hvs' hnd' (hz' t)
      simp only[hz0,if_true]at*;generalize zg4 ns a b cand inA inC vs (im.set v t) (asg.set v true)=r at hih⊢;simp[rW,h0,h1,h5,h23,h24,h25,hs1];refine zv9 ?_ ?_ (hih s.h (mx+4) (fun _ _=>rfl) (by omega)) ?_
      ·simp only[rG]
      ·simp only[rG]
      ·intro d' h' c' lw' mx' hp hcc hmm;cases r with
       |none=>
        obtain⟨rfl,HS',hf'⟩ :=hp;simp[rW,h0,h1,h5,h23,h24,h25,hw,Y1];exact⟨⟨t,HS'.up (fun _ _=>rfl) (by omega)⟩,hf.trans hf' (by omega),by omega,Nat.le_trans (Nat.min_le_left _ _) hl⟩
       |some st=>
        obtain⟨rfl,HS',hf'⟩ :=hp;simp[rW,h0,h1,h5,h23,h24,h25];exact⟨HS'.up (fun _ _=>rfl) (by omega),hf.trans hf' (by omega),Nat.le_trans (Nat.min_le_left _ _) hl⟩
  ·rintro s ⟨h0,h1,h5,h23,h24,h25,⟨u,HSs⟩,hf,hc,hl⟩;simp[rW,h0,h1,h5,h23,h24,h25,Y1];exact⟨⟨_,rfl⟩,⟨u,HSs⟩,hf,hc,hl⟩
  ·simp[rW,Y1,hd.len,HF.rT.len];refine⟨⟨im[v],HS.upd ?_ ?_ (by simp) (by simp) ?_ (Nat.le_refl _)⟩,fun id h1 h2 h3=> ?_,?_⟩
   ·simp[Vse.T.zab,nIA,HS.gI]
   ·simp[Vse.T.zab]
   ·intro id h1 h2 h3;simp[Vse.T.zab,h3]
   ·simp[Vse.T.zab,h3]
   ·exact zd7 _ _ _ _
  ·rintro hnone x s ⟨rfl,n,h0,h1,h5,h23,h24,h25,⟨u,HSs⟩,hf,hc,hl⟩;have er:res=none:=hres.symm.trans hnone;subst er;have gS:=HSs.gS;have gI:=HSs.gI;have gA:=HSs.gA;have hbS:=HSs.bS;have hbI:=HSs.bI;have hbA:=HSs.bA;have e1:=zgC (im.set v u) v (by simpa using hv1);have e2:=zly (asg.set v true) v (by simpa using hv2);have e3:∀u,hd8 (zaB u)=false:=zo5
   have e5:=ziO (im.set v u) v (.var []);have e6:=ztG (asg.set v true) v false;have z1:im.set v (.var [])=im:=by
    have:im[v]= .var []:=by simpa [List.getD_eq_getElem?_getD,List.getElem?_eq_getElem hv1]using hvi
    rw[<-this];simp
   have z2:asg.set v false=asg:=by
    have:asg[v]=false:=by simpa [List.getD_eq_getElem?_getD,List.getElem?_eq_getElem hv2]using hva
    rw[<-this];simp
   rw[List.set_set,z1]at e5;rw[List.set_set,z2]at e6;simp only[tmD,zoh,zoa,zoe]at e1 e5;simp[rW,h0,h1,h5,h23,h24,h25,gS,gI,gA,nSI,nSA,nIA,nIA.symm,hvn,e1,e2,e3,e4,e5,e6,za4,hbI,hbA,zct];refine⟨?_,fun e=> ?_⟩
   ·rw[<-hPP];refine⟨rfl,HS.upd ?_ ?_ rfl rfl ?_ hc,fun id h1 h2 h3=> ?_⟩
    ·simp[Vse.T.zab,nIA]
    ·simp[Vse.T.zab]
    ·intro id h1 h2 h3;simp[Vse.T.zab,h2,h3,hf id h1 h2 h3]
    ·simp[Vse.T.zab,h2,h3,hf id h1 h2 h3]
   ·have:=Nat.le_trans (Nat.le_of_eq e.symm) (zd7 _ _ _ _);omega
  ·rintro r hsome x s ⟨rfl,h4,HSs,hf,hl⟩;have er:res=some r:=hres.symm.trans hsome;subst er;simp[rW,h4,zct];rw[<-hPP];exact⟨⟨rfl,HSs,hf⟩,fun e=>by omega⟩
theorem fn55:pr.fn 55=some g55:=by kernel_rfl
theorem zF7{l:List Nat}(h:l≠[]):F.sl 1 (l.map fun n:Nat=>[F.i .i64 (n:Int)])=zeU l:=zcX (by simpa using h)
theorem zmB(h:Nat->Option Ob)(k:Nat)(l:List Nat):zaT (frz h (k+1)) (iE l)=some (l.map fun n:Nat=>[F.i .i64 (n:Int)],[]):=zDp h k l
theorem zDq{l:List Nat}(h:iE l=[]):l=[]:=by simpa [iE]using h
theorem zkg(l:List Nat):(iE l).take l.length=iE l:=by rw[<-zcE l,List.take_length]
def RdU(h:T Ob)(c:Nat)(d:D)(l:List Trm):Prop:=d= .f (zaX l)\/RdT h c d l
theorem RdU.up{h h':T Ob}{c c':Nat}{d:D}{l:List Trm}(H:RdU h c d l)(hf:∀id,id<c->h'.get id=h.get id)(hc:c≤c'):RdU h' c' d l:=by
 rcases H with H|H
 ·exact .inl H
 ·exact .inr (H.up (fun id a _=>hf id a) hc)
theorem RdU.len{h:T Ob}{c:Nat}{d:D}{l:List Trm}(H:RdU h c d l):zcr d=some l.length:=by
 rcases H with rfl|H
 ·exact zaQ l
 ·exact H.len
theorem RdU.get{h:T Ob}{c:Nat}{d:D}{l:List Trm}(H:RdU h c d l){n:Nat}(hn:n<l.length):∃p rd,iaB 4 d n=some p/\zcn true 4 h.get p=some (.ag (tmD l[n]),rd):=by
 rcases H with rfl|H
 ·exact⟨.fptr (tmF l[n]),[],by simp[zbr,hn],by simp[zcn,zh2,tmE,tmD]⟩
 ·exact H.get hn
structure SIx(ns:List Str)(h:T Ob)(c S M:Nat):Prop where
 gS:∃ro cells,h.get S=some (.arr 11 ro [cells])/\cells[1]? =some (.mp M)
 gM:h.get M=some (.map (ixE ns))
 bS:S<c
 bM:M<c
theorem SIx.up{ns:List Str}{h h':T Ob}{c c' S M:Nat}(H:SIx ns h c S M)(hf:∀id,id<c->h'.get id=h.get id)(hc:c≤c'):SIx ns h' c' S M:=
 ⟨by rw[hf S H.bS];exact H.gS,by rw[hf M H.bM];exact H.gM,Nat.lt_of_lt_of_le H.bS hc,Nat.lt_of_lt_of_le H.bM hc⟩
theorem SAt.ix{a b:CQ}{ns:List Str}{im:List Trm}{asg:List Bool}{dA dC dT:D}{h:T Ob}{c S M I A:Nat}(H:SAt a b ns im asg dA dC dT h c S M I A):SIx ns h c S M:=
 ⟨⟨0,_,H.gS,rfl⟩,H.gM,H.bS,H.bM⟩
def addN(ns:List Str)(l:List Nat)(t:Trm):List Nat:=if tv t∈ns/\tv t≠[]/\l.any (vix ns (tv t)== ·)=false then l++[vix ns (tv t)]else l
def nums(ns:List Str)(ts:List Trm):List Nat:=ts.foldl (addN ns) []
theorem zFa(ns:List Str)(l:List Nat)(t:Trm):(addN ns l t).length≤l.length+1:=by
 unfold addN;split
 ·simp
 ·omega
theorem zh4(ns:List Str):∀(ts:List Trm) (l:List Nat),(ts.foldl (addN ns) l).length≤l.length+ts.length
 |[],l=>by simp
 |t::ts,l=>by
  have h1:=zFa ns l t;have h2:=zh4 ns ts (addN ns l t);simp only[List.foldl_cons,List.length_cons];omega
def V5(h:T Ob)(c S:Nat)(dU:D)(len:Nat)(n:Nat)(L:List Nat)(s:St):Prop:=∃d,s.tm.get 0=some (.ptr S 11 0 0)/\s.tm.get 10=some (dU)/\s.tm.get 11=some (.f (.i .i64 len))/\s.tm.get 12=some (.f (.i .i64 n))/\s.tm.get 5=some (d)/\Frm h s.h c/\Gro s.h c s.c 1 d (iE L)/\c≤s.c
theorem zML{h h':T Ob}{lo c c' es:Nat}{d:D}{els:List (List D)}(hg:Gro h lo c es d els)(hF:d.isF=true):Gro h' lo c' es d els:=by
 rcases hg with hg|⟨id,ro,rfl,_⟩
 ·exact .inl hg
 ·simp[D.isF]at hF
theorem zzy{ns:List Str}{h:T Ob}{c S M:Nat}(H:SIx ns h c S M)(hns:[]∉ns)(ts:List Trm){dU:D}(hU:RdU h c dU ts)(hl:ts.length<100000):
  Eff pr 55 [.ptr S 11 0 0,dU] h c fun d h' c'=>Frm h h' c/\Gro h' c c' 1 d (iE (nums ns ts)):=by
 refine zdA zbB fn55 ?_;simp only[g55,rU];simp[rW,st0,zae,hU.len];refine zd5 ts (addN ns) [] (fun n L s=>V5 h c S dU ts.length n L s) (fun x s=>x= .exit 0/\∃n,V5 h c S dU ts.length n (nums ns ts) s) ?_ ?_ _ ?_ ?_
 ·rintro n L s hn hL ⟨d,h0,h10,h11,h12,h5,hf,hg,hc⟩;have hw:=zao n (by omega);have hLl:L.length≤n:=by
   have:=zh4 ns (ts.take n) [];rw[<-hL]at this;simp at this;omega
  obtain⟨p,rd,hp1,hp2⟩ :=(hU.up (h':=s.h) hf hc).get hn;have HS:=H.up (h':=s.h) hf hc;obtain⟨ro,cells,gS,gS1⟩ :=HS.gS;have gM:=HS.gM;have hbS:=H.bS;have hbM:=H.bM;generalize ts[n]=T at hp2⊢;have nS:¬S=s.c:=by omega
  have nM:¬M=s.c:=by omega
  have hFid:∀id,id<c->¬id=s.c:=fun id h=>by omega
  simp only[tmD]at hp2
  by_cases hv:tv T∈ns
  ·have hv0:tv T≠[]:=fun e=>hns (by rw[<-e];exact hv)
   have hk:=znE hv;have q:=fun k=>zak (k:=k) (ans87 L (vix ns (tv T)) (by omega))
   have e0:addN ns L T=if L.any (vix ns (tv T)== ·)=false then L++[vix ns (tv T)]else L:=by unfold addN;simp[hv,hv0]
   rw[e0];clear e0;generalize vix ns (tv T)=i at q hk⊢;generalize hz:L.any (i== ·)=z at q⊢;have m1:(1≤zaj)=True:=zaR (by omega);have m2:(8≤zaj)=True:=zaR (by omega);have m3:(L.length+1≤zaj)=True:=zaR (by omega);have m4:((L.length+1)*8≤zaj)=True:=zaR (by omega);have hlt:(L.length+1≤L.length)=False:=leF (by omega);simp[rW,h0,h10,h11,h12,h5,hn,hp1,hp2];refine zay ?_;rcases hg with⟨rfl,hn0⟩ |⟨id,r0,rfl,hne,hid,hro,hlid,hidc⟩
   ·have:=zDq hn0;subst this;have:z=false:=by rw[<-hz];rfl
    subst this;rw[(show zeU []= .nils from rfl)]at q;simp[rW,h0,h10,h11,h12,h5,gS,gS1,gM,nS,nM,hk,hw,V5,hv0,q,m1,m2];exact⟨fun j hj=>by(simp only[Vse.T.zab,Vse.T.zfq];repeat rw[if_neg (by omega)]);exact hf j hj,.inr ⟨s.c+1+1+1+1+1+1+1+1+1+1+1+1+1,0,rfl,by simp[iE],by simp[Vse.T.zab,iE],Nat.zero_le _,by omega,by omega⟩,by omega⟩
   ·rw[zcE]at*;have hl0:L≠[]:=fun e=>hne (by rw[e];rfl)
    have hz2:=zF7 hl0;have hic:¬id=s.c:=by omega
    have hci:¬s.c=id:=by omega
    by_cases hr:L.length≤r0
    ·cases z with
     |true=>
      simp[rW,h0,h10,h11,h12,h5,gS,gS1,gM,nS,nM,hk,hw,V5,hv0,q,m1,m2,hid,hic,hci,hr,zcE,zkg,zmB,hz2];exact⟨fun j hj=>by(simp only[Vse.T.zab,Vse.T.zfq];repeat rw[if_neg (by omega)]);exact hf j hj,.inr ⟨id,r0,by rw[zcE],hne,by simp[Vse.T.zab,hic,hid],by rw[zcE];exact hro,hlid,by omega⟩,by omega⟩
     |false=>
      simp[rW,h0,h10,h11,h12,h5,gS,gS1,gM,nS,nM,hk,hw,V5,hv0,q,m1,m2,m3,m4,hlt,hro,hid,hic,hci,hr,zcE,zkg,zmB,hz2];exact⟨by omega,fun j hj=>by(simp only[Vse.T.zab,Vse.T.zfq];repeat rw[if_neg (by omega)]);exact hf j hj,.inr ⟨s.c+1+1+1+1+1+1+1+1+1+1+1+1+1,r0,by simp[iE],by simp[iE],by simp[Vse.T.zab,iE],by rw[zcE,List.length_append];omega,by omega,by omega⟩,by omega⟩
    ·cases z with
     |true=>
      simp[rW,h0,h10,h11,h12,h5,gS,gS1,gM,nS,nM,hk,hw,V5,hv0,q,m1,m2,hid,hic,hci,hr,zcE,zkg,zmB,hz2];exact⟨by omega,fun j hj=>by(simp only[Vse.T.zab,Vse.T.zfq];repeat rw[if_neg (by omega)]);exact hf j hj,.inr ⟨id,L.length,by rw[zcE],hne,by simp[Vse.T.zab],by rw[zcE];omega,hlid,by omega⟩,by omega⟩
     |false=>
      simp[rW,h0,h10,h11,h12,h5,gS,gS1,gM,nS,nM,hk,hw,V5,hv0,q,m1,m2,m3,m4,hlt,hro,hid,hic,hci,hr,zcE,zkg,zmB,hz2];exact⟨by omega,by omega,fun j hj=>by(simp only[Vse.T.zab,Vse.T.zfq];repeat rw[if_neg (by omega)]);exact hf j hj,.inr ⟨s.c+1+1+1+1+1+1+1+1+1+1+1+1+1,L.length,by simp[iE],by simp[iE],by simp[Vse.T.zab,iE],by rw[zcE,List.length_append];omega,by omega,by omega⟩,by omega⟩
  ·have hk:=zlD hv;have e0:addN ns L T=L:=by unfold addN;simp[hv]
   rw[e0];simp[rW,h0,h10,h11,h12,h5,hn,hp1,hp2];refine zay ?_;simp[rW,h0,h10,h11,h12,h5,gS,gS1,gM,nS,nM,hk,hw,V5];refine⟨fun id h=> ?_,zcb hg (by omega) fun id h1 h2=> ?_,by omega⟩
   ·simp[Vse.T.zab,hFid id h,hf id h]
   ·simp[Vse.T.zab,show id≠s.c by omega]
 ·rintro s ⟨d,h0,h10,h11,h12,h5,hf,hg,hc⟩;simp[rW,h0,h10,h11,h12,h5,V5];exact⟨⟨_,rfl⟩,hf,hg,hc⟩
 ·simp[rW,V5];exact⟨fun _ _=>rfl,.inl ⟨rfl,rfl⟩⟩
 ·rintro x s ⟨rfl,n,d,h0,h10,h11,h12,h5,hf,hg,hc⟩;simp[rW,h5,zct];exact⟨⟨hf,hg⟩,fun _ hF=>⟨fun _ _=>rfl,zML hg hF⟩⟩
theorem fn68:pr.fn 68=some g68:=by kernel_rfl
theorem fn69:pr.fn 69=some g69:=by kernel_rfl
def root(g:List Nat)(i:Nat):Nat:=if g.getD i i<i then root g (g.getD i i)else i
termination_by i
theorem root_eq(g:List Nat)(i:Nat):root g i=if g.getD i i<i then root g (g.getD i i)else i:=by
 conv=>lhs;unfold root
structure Dwn(g:List Nat)(n:Nat):Prop where
 len:g.length=n
 dn:∀i,i<n->g.getD i i≤i
theorem ziJ(g:List Nat):∀i,root g i≤i:=by
 intro i
 induction i using Nat.strongRecOn with
 |ind i ih=>
  rw[root_eq];split
  ·rename_i h;exact Nat.le_trans (ih _ h) (Nat.le_of_lt h)
  ·exact Nat.le_refl _
structure GAt(g:List Nat)(n:Nat)(h:T Ob)(c G G0:Nat):Prop where
 g0:h.get G0=some (.arr 1 0 [[.sl G 0 n 1 n true]])
 gg:h.get G=some (.arr 1 0 (iE g))
 b0:G0<c
 bg:G<c
theorem GAt.up{g:List Nat}{n:Nat}{h h':T Ob}{c c' G G0:Nat}(H:GAt g n h c G G0)(hf:∀id,id<c->h'.get id=h.get id)(hc:c≤c'):GAt g n h' c' G G0:=
 ⟨by rw[hf _ H.b0];exact H.g0,by rw[hf _ H.bg];exact H.gg,Nat.lt_of_lt_of_le H.b0 hc,Nat.lt_of_lt_of_le H.bg hc⟩
theorem zGL{g:List Nat}{n:Nat}{h:T Ob}{c G G0:Nat}(H:GAt g n h c G G0)(hd:Dwn g n)(i:Nat)(hi:i<n):
  RO pr 68 [.f (.i .i64 (i:Int)),.ptr G0 1 0 0] h c (.f (.i .i64 (root g i:Int))):=by
 refine zc3 zbB fn68 rfl ?_;simp only[g68,rU];obtain⟨gg0,gg,hb0,hbg⟩ :=H;simp[rW,st0,zae];refine zcu (fun k s=>∃j,j<n/\k=j/\root g j=root g i/\s.tm.get 0=some (.f (.i .i64 (j:Int)))/\s.tm.get 1=some (.ptr G0 1 0 0)/\s.h=h/\s.lw=c) (fun x s=>x= .exit 0/\s.tm.get 0=some (.f (.i .i64 (root g i:Int)))/\s.lw=c) ?_ i _ ?_ ?_
 ·rintro j s ⟨_,hj,rfl,hr,h0,h1,eh,el⟩;have hl:j<g.length:=by rw[hd.len];exact hj
  have e1:=zo8 g j hl;have e2:g.getD j j=g[j]:=by simp[List.getD_eq_getElem?_getD,List.getElem?_eq_getElem hl]
  have e3:=hd.dn j hj;rw[e2]at e3;rw[root_eq,e2]at hr
  by_cases hlt:g[j]<j
  ·rw[if_pos hlt]at hr;have hne:¬((g[j]:Int)=(j:Int)):=by omega
   simp[rW,h0,h1,eh,gg0,gg,hj,e1,hne];rw[zbh];refine⟨g[j],hlt,g[j],by omega,rfl,hr,?_⟩;simp[rW,h0,h1,eh,el]
  ·rw[if_neg hlt]at hr;have hne:((g[j]:Int)=(j:Int)):=by omega
   rw[<-hr];simp[rW,h0,h1,eh,gg0,gg,hj,e1,hne,el]
 ·simp[rW,st0,zae];exact⟨i,hi,rfl,rfl,rfl⟩
 ·rintro x s ⟨rfl,h0,el⟩;simp[rW,h0,za8,el]
def uni(g:List Nat)(a b:Nat):List Nat:=g.set (max (root g a) (root g b)) (min (root g a) (root g b))
def zfQ(asg:List Bool)(st:Option Nat×List Nat)(v:Nat):Option Nat×List Nat:=if asg.getD v false=true then st else(some v,st.1.elim st.2 fun f=>uni st.2 f v)
def zfm(asg:List Bool)(g:List Nat)(l:List Nat):List Nat:=(l.foldl (zfQ asg) (none,g)).2
theorem zyI{g:List Nat}{n a b:Nat}(H:Dwn g n):Dwn (uni g a b) n:=by
 refine⟨by simp[uni,H.len],fun i hi=> ?_⟩;unfold uni;simp only[List.getD_eq_getElem?_getD,List.getElem?_set];split
 ·rename_i h;rw[if_pos (by rw[H.len];omega)];simp;omega
 ·have:=H.dn i hi;simpa [List.getD_eq_getElem?_getD]using this
theorem zFA{asg:List Bool}{n:Nat}{st:Option Nat×List Nat}(H:Dwn st.2 n)(v:Nat):Dwn (zfQ asg st v).2 n:=by
 unfold zfQ;split
 ·exact H
 ·cases st.1 with
  |none=>exact H
  |some f=>exact zyI H
def zuw:Option Nat->Int
 |none=> -1
 |some f=>f
structure CAt(asg:List Bool)(ns:List Str)(g:List Nat)(h:T Ob)(c S M A G G0 B FB:Nat):Prop where
 ix:SIx ns h c S M
 ga:GAt g ns.length h c G G0
 sA:∃ro cells,h.get S=some (.arr 11 ro [cells])/\cells[3]? =some (.sl A 0 ns.length 1 ns.length true)
 gA:h.get A=some (.arr 1 0 (bE asg))
 lA:asg.length=ns.length
 bA:A<c
 gB:h.get B=some (.arr 1 0 [[.ptr S 11 0 0]])
 bB:B<c
 gF:h.get FB=some (.arr 1 0 [[.fn 68 [] [.ptr G0 1 0 0]]])
 bF:FB<c
 nA:A≠G
theorem CAt.upG{asg:List Bool}{ns:List Str}{g g':List Nat}{h h':T Ob}{c c' S M A G G0 B FB:Nat}(H:CAt asg ns g h c S M A G G0 B FB)(hg:h'.get G=some (.arr 1 0 (iE g')))(hf:∀id,id<c->id≠G->h'.get id=h.get id)(hc:c≤c')(n1:S≠G)(n2:M≠G)(n3:G0≠G)(n4:B≠G)(n5:FB≠G):CAt asg ns g' h' c' S M A G G0 B FB:=by
 obtain⟨⟨x1,x2,x3,x4⟩,⟨y1,y2,y3,y4⟩,z1,z2,z3,z4,z5,z6,z7,z8,z9⟩ :=H;exact⟨⟨by rw[hf _ x3 n1];exact x1,by rw[hf _ x4 n2];exact x2,by omega,by omega⟩,⟨by rw[hf _ y3 n3];exact y1,hg,by omega,by omega⟩,by rw[hf _ x3 n1];exact z1,by rw[hf _ z4 z9];exact z2,z3,by omega,by rw[hf _ z6 n4];exact z5,by omega,by rw[hf _ z8 n5];exact z7,by omega,z9⟩
theorem zgN{ns:List Str}:∀(ts:List Trm) (l:List Nat),(∀v∈l,v<ns.length)->∀v∈ts.foldl (addN ns) l,v<ns.length
 |[],l,h=>h
 |t::ts,l,h=>by
  refine zgN ts (addN ns l t) ?_;intro v hv;unfold addN at hv;split at hv
  ·rename_i hc;rcases List.mem_append.1 hv with hv|hv
   ·exact h v hv
   ·simp at hv;rw[hv];exact zf5 hc.1
  ·exact h v hv
def Z1(asg:List Bool)(ns:List Str)(h:T Ob)(c S M A G G0 B FB:Nat)(dl:D)(L:List Nat)(g0:List Nat)(n:Nat)(st:Option Nat×List Nat)(s:St):Prop:=
 s.tm.get 1=some (.ptr B 1 0 0)/\s.tm.get 2=some (.ptr FB 1 0 0)/\s.tm.get 3=some (.ptr G0 1 0 0)/\s.tm.get 5=some (.f (.i .i64 (zuw st.1)))/\s.tm.get 12=some (dl)/\s.tm.get 13=some (.f (.i .i64 L.length))/\s.tm.get 14=some (.f (.i .i64 n))/\CAt asg ns st.2 s.h s.c S M A G G0 B FB/\RdI s.h s.c dl L/\dl.oid≠some G/\(∀id,id<c->id≠G->s.h.get id=h.get id)/\c≤s.c/\Dwn st.2 ns.length/\(∀f,st.1=some f->f<ns.length)/\s.lw≤c/\(s.lw=c->st.2=g0)
theorem zIX{asg:List Bool}{ns:List Str}{g:List Nat}{h:T Ob}{c S M A G G0 B FB:Nat}(H:CAt asg ns g h c S M A G G0 B FB)(hns:[]∉ns)(hd:Dwn g ns.length)(n1:S≠G)(n2:M≠G)(n3:G0≠G)(n4:B≠G)(n5:FB≠G)(ts:List Trm){dU:D}(hU:RdU h c dU ts)(hl:ts.length<100000):
  Eff pr 69 [dU,.ptr B 1 0 0,.ptr FB 1 0 0,.ptr G0 1 0 0] h c fun _ h' c'=>CAt asg ns (zfm asg g (nums ns ts)) h' c' S M A G G0 B FB/\∀id,id<c->id≠G->h'.get id=h.get id:=by
 refine zdA zbB fn69 ?_;simp only[g69,rU];have gB:=H.gB;simp[rW,st0,zae,gB];refine zfa ?_ ?_ (zzy H.ix hns ts hU hl) ?_
 ·simp only[rG]
 ·simp only[rG]
 ·intro d' h' c' lw mx hp hcc;obtain⟨hf,hg⟩ :=hp;have hLl:(nums ns ts).length≤ts.length:=by have:=zh4 ns ts [];simpa [nums]using this
  have hLv:∀v∈nums ns ts,v<ns.length:=zgN ts [] (by simp)
  unfold zfm;generalize nums ns ts=L at hg hLl hLv⊢;have hoid:d'.oid≠some G:=zbQ hg H.ga.bg;have hrd:RdI h' c' d' L:=by
   rcases hg.held with hh|⟨id,ro,e1,e2,e3,e4,e5⟩
   ·exact .inr (.inl hh)
   ·exact .inr (.inr ⟨id,ro,e1,e2,e3,Nat.zero_le _,e5⟩)
  simp[rW,zeK hg,zcE];refine zd5 L (zfQ asg) (none,g) (Z1 asg ns h c S M A G G0 B FB d' L g) (fun x s=>x= .exit 0/\∃n,Z1 asg ns h c S M A G G0 B FB d' L g n (L.foldl (zfQ asg) (none,g)) s) ?_ ?_ _ ?_ ?_
  ·rintro n st s hn hst ⟨h1,h2,h3,h5,h12,h13,h14,HC,hR,hdl,hf2,hc2,hdw,hfs,hlw,hlw2⟩;have hw:=zao n (by omega);obtain⟨p,rd,hp1,hp2⟩ :=hR.get hn;have hv:=hLv _ (List.getElem_mem hn);generalize L[n]=v at hp2 hv⊢;obtain⟨ro,cells,gS,gS3⟩ :=HC.sA;have gA:=HC.gA;have gB:=HC.gB;have gF:=HC.gF;have gG0:=HC.ga.g0;have gG:=HC.ga.gg;have hbG:=H.ga.bg;have hva:v<asg.length:=by rw[HC.lA];exact hv
   have e2:=zly asg v hva;have e3:asg.getD v false=asg[v]:=by simp[List.getD_eq_getElem?_getD,List.getElem?_eq_getElem hva]
   have hl8:∀l,hd8 (iE l)=false:=by intro l;cases l<;>rfl
   unfold zfQ;rw[e3];cases hav:asg[v]with
   |true=>
    rw[hav]at e2;simp[rW,h1,h2,h3,h5,h12,h13,h14,hn,hp1,hp2,gB,gS,gS3,gA,hv,e2,hw,Z1];exact⟨HC,hR,hdl,hf2,hc2,hdw,hfs,hlw,hlw2⟩
   |false=>
    rw[hav]at e2;cases hs1:st.1 with
    |none=>
     rw[hs1]at h5;simp only[zuw]at h5;simp[rW,h1,h2,h3,h5,h12,h13,h14,hn,hp1,hp2,gB,gS,gS3,gA,hv,e2,hw,Z1,zuw];exact⟨HC,hR,hdl,hf2,hc2,hdw,hlw,hlw2⟩
    |some f=>
     rw[hs1]at h5;simp only[zuw]at h5;have hfn:=hfs f hs1;have hra:root st.2 f<ns.length:=Nat.lt_of_le_of_lt (ziJ _ _) hfn;have hrb:root st.2 v<ns.length:=Nat.lt_of_le_of_lt (ziJ _ _) hv;have hud:=zyI (a:=f) (b:=v) hdw;have r1:=fun(H':Vse.T Ob) (c':Nat) (HH:GAt st.2 ns.length H' c' G G0)=>zGL HH hdw f hfn
     have r2:=fun(H':Vse.T Ob) (c':Nat) (HH:GAt st.2 ns.length H' c' G G0)=>zGL HH hdw v hv
     have hgl:∀i,i<ns.length->(iE st.2)[i]? =some [D.f (.i .i64 ((st.2.getD i 0:Nat):Int))]:=by
      intro i hi;have hi':i<st.2.length:=by rw[hdw.len];exact hi
      rw[zo8 _ _ hi'];simp[List.getD_eq_getElem?_getD,List.getElem?_eq_getElem hi']
     have hset:∀i j:Nat,(iE st.2).set i [D.f (.i .i64 (j:Int))]=iE (st.2.set i j):=by intro i j;simp[iE,List.map_set]
     rw[Option.elim_some];unfold uni at hud⊢;generalize root st.2 f=ra at hra hud r1⊢;generalize root st.2 v=rb at hrb hud r2⊢;have fin:∀(m k:Nat) (s':St),m=max ra rb->k=min ra rb->(s'.tm.get 1=some (.ptr B 1 0 0)/\s'.tm.get 2=some (.ptr FB 1 0 0)/\s'.tm.get 3=some (.ptr G0 1 0 0)/\s'.tm.get 5=some (.f (.i .i64 v))/\s'.tm.get 12=some (d')/\s'.tm.get 13=some (.f (.i .i64 L.length))/\s'.tm.get 14=some (.f (.i .i64 (n+1:Nat))))->s'.h=s.h.set G (.arr 1 0 (iE (st.2.set m k)))->s.c≤s'.c->s'.lw≤G->Z1 asg ns h c S M A G G0 B FB d' L g (n+1) (some v,st.2.set (max ra rb) (min ra rb)) s':=by
      rintro m k s' rfl rfl ⟨h1,h2,h3,h5,h12,h13,h14⟩ eh ec el;refine⟨h1,h2,h3,h5,h12,h13,h14,HC.upG (g':=st.2.set (max ra rb) (min ra rb)) ?_ ?_ ec n1 n2 n3 n4 n5,?_,hdl,?_,by omega,hud,?_,by omega,by omega⟩
      ·rw[eh];simp[Vse.T.zab]
      ·intro id a b;rw[eh];simp[Vse.T.zab,b]
      ·rcases hR with hR|hR|⟨id,ro,e1,e2,e3,e4,e5⟩
       ·exact .inl hR
       ·exact .inr (.inl hR)
       ·refine .inr (.inr ⟨id,ro,e1,e2,?_,e4,by omega⟩);have:id≠G:=fun e=>hdl (by rw[e1,e];rfl)
        rw[eh];simp[Vse.T.zab,this,e3]
      ·intro id a b;rw[eh];simp[Vse.T.zab,b,hf2 id a b]
      ·intro f' hf';cases hf';exact hv
     by_cases hlt:ra<rb
     ·have em:rb=max ra rb:=by omega
      have ek:ra=min ra rb:=by omega
      have hgt:¬rb<ra:=by omega
      simp[rW,h1,h2,h3,h5,h12,h13,h14,hn,hp1,hp2,gB,gS,gS3,gA,hv,e2,hw];refine zbj ?_;simp[rW,h1,h2,h3,h5,h12,h13,h14,gF];refine zb6 (r1 _ _ (HC.ga.up ?_ ?_)) ?_ ?_ ?_
      ·intro id hid;simp only[rG]
      ·simp only[rG];omega
      ·simp only[rG];omega
      ·simp[ckG,ck1]
      intro mx1 hmx1;simp only[rG]at hmx1;simp[rW,h1,h2,h3,h5,h12,h13,h14,gF];refine zb6 (r2 _ _ (HC.ga.up ?_ ?_)) ?_ ?_ ?_
      ·intro id hid;simp only[rG]
      ·simp only[rG];omega
      ·simp only[rG];omega
      ·simp[ckG,ck1]
      intro mx2 hmx2;simp only[rG]at hmx2;simp[rW,h1,h2,h3,h5,h12,h13,h14,gF,gG0,gG,hlt,hgt,hra,hrb,hgl,hset,zcE,hl8,hw];refine⟨by omega,fin rb ra _ em ek ?_ ?_ ?_ ?_⟩
      ·simp[rW,h1,h2,h3,h5,h12,h13,h14]
      ·simp only[rG]
      ·simp only[rG];omega
      ·simp only[rG];exact zd7 _ _ _ _
     ·by_cases hgt:rb<ra
      ·have em:ra=max ra rb:=by omega
       have ek:rb=min ra rb:=by omega
       simp[rW,h1,h2,h3,h5,h12,h13,h14,hn,hp1,hp2,gB,gS,gS3,gA,hv,e2,hw];refine zbj ?_;simp[rW,h1,h2,h3,h5,h12,h13,h14,gF];refine zb6 (r1 _ _ (HC.ga.up ?_ ?_)) ?_ ?_ ?_
       ·intro id hid;simp only[rG]
       ·simp only[rG];omega
       ·simp only[rG];omega
       ·simp[ckG,ck1]
       intro mx1 hmx1;simp only[rG]at hmx1;simp[rW,h1,h2,h3,h5,h12,h13,h14,gF];refine zb6 (r2 _ _ (HC.ga.up ?_ ?_)) ?_ ?_ ?_
       ·intro id hid;simp only[rG]
       ·simp only[rG];omega
       ·simp only[rG];omega
       ·simp[ckG,ck1]
       intro mx2 hmx2;simp only[rG]at hmx2;simp[rW,h1,h2,h3,h5,h12,h13,h14,gF,gG0,gG,hlt,hgt,hra,hrb,hgl,hset,zcE,hl8,hw];refine⟨by omega,fin ra rb _ em ek ?_ ?_ ?_ ?_⟩
       ·simp[rW,h1,h2,h3,h5,h12,h13,h14]
       ·simp only[rG]
       ·simp only[rG];omega
       ·simp only[rG];exact zd7 _ _ _ _
      ·have em:ra=max ra rb:=by omega
       have ek:ra=min ra rb:=by omega
       simp[rW,h1,h2,h3,h5,h12,h13,h14,hn,hp1,hp2,gB,gS,gS3,gA,hv,e2,hw];refine zbj ?_;simp[rW,h1,h2,h3,h5,h12,h13,h14,gF];refine zb6 (r1 _ _ (HC.ga.up ?_ ?_)) ?_ ?_ ?_
       ·intro id hid;simp only[rG]
       ·simp only[rG];omega
       ·simp only[rG];omega
       ·simp[ckG,ck1]
       intro mx1 hmx1;simp only[rG]at hmx1;simp[rW,h1,h2,h3,h5,h12,h13,h14,gF];refine zb6 (r2 _ _ (HC.ga.up ?_ ?_)) ?_ ?_ ?_
       ·intro id hid;simp only[rG]
       ·simp only[rG];omega
       ·simp only[rG];omega
       ·simp[ckG,ck1]
       intro mx2 hmx2;simp only[rG]at hmx2;simp[rW,h1,h2,h3,h5,h12,h13,h14,gF,gG0,gG,hlt,hgt,hra,hrb,hgl,hset,zcE,hl8,hw];refine⟨by omega,fin ra ra _ em ek ?_ ?_ ?_ ?_⟩
       ·simp[rW,h1,h2,h3,h5,h12,h13,h14]
       ·simp only[rG]
       ·simp only[rG];omega
       ·simp only[rG];exact zd7 _ _ _ _
  ·rintro s ⟨h1,h2,h3,h5,h12,h13,h14,HC,hR,hdl,hf2,hc2,hdw,hfs,hlw,hlw2⟩;simp[rW,h1,h2,h3,h5,h12,h13,h14,Z1];exact⟨⟨_,rfl⟩,HC,hR,hdl,hf2,hc2,hdw,hfs,hlw,hlw2⟩
  ·simp[rW,Z1,zuw];refine⟨H.upG (g':=g) ?_ (fun id a b=>hf id a) hcc n1 n2 n3 n4 n5,hrd,hoid,fun id a b=>hf id a,hcc,hd,Nat.min_le_left _ _⟩;rw[hf _ H.ga.bg];exact H.ga.gg
  ·rintro x s ⟨rfl,n,h1,h2,h3,h5,h12,h13,h14,HC,hR,hdl,hf2,hc2,hdw,hfs,hlw,hlw2⟩;have er:∀s:St,resD s []=some (.tu []):=fun _=>rfl
   simp[rW,zct,zoL,er];refine⟨⟨HC,hf2⟩,fun e=> ?_⟩;rw[hlw2 e];exact H
end Go.Proofs.YtimgcabgophnfaaGreat
end
