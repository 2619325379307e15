/- The program's Minimize. -/
import Derived.Test.YtimgcabgophnfaaGreatPn
import Derived.KernelRfl
import Derived.IntWalk
import Derived.Test.YtimgcabgophnfaaGreatPk
set_option linter.all false
noncomputable section
section
namespace Go.Proofs.YtimgcabgophnfaaGreat
open Go Go.Vse Go.Vse.Sm
set_option maxRecDepth 100000
set_option maxHeartbeats 1000000
set_option linter.all false
theorem fn22:pr.fn 22=some g22:=by kernel_rfl
theorem fn53:pr.fn 53=some g53:=by kernel_rfl
theorem zMr{hd:List Str}{c:CQ}(hc:zbu c)(i:Nat):zbu (zno hd c i):=by
 unfold zno;split
 ·exact zkP hc i false
 ·exact hc
theorem zmx(hd:List Str):∀(k:Nat) (c:CQ),zbu c->zbu (zeu hd k c)
 |0,_,hc=>hc
 |k+1,c,hc=>zmx hd k _ (zMr hc k)
def znU(hd:List Str)(l:List CQ):List CQ:=minL hd l.length (l.map fun c=>zeu hd c.as.length (cop c))
theorem ro53(hd:List Str)(c d:CQ)(hc:zbu c)(hdd:zbu d)(hh:hd.length<1000){h:T Ob}{k X Y:Nat}{y:D}(gX:h.get X=some (.arr 2 0 [cqD d]))(gY:h.get Y=some (.arr 2 0 [[.f (zas hd),y]]))(hX:X<k)(hY:Y<k):
  RO pr 53 [.ag (cqD c),.ptr X 2 0 0,.ptr Y 2 0 0] h k (.f (.b (exR hd c d))):=by
 refine zc3 zbB fn53 rfl ?_;simp only[g53,rU];have nX:¬X=k:=by omega
 have nY:¬Y=k:=by omega
 have q:=fun j=>zak (k:=j) (zy7 c d hd hc hdd hh)
 simp only[cqE]at q;unfold cqD at gX;simp[rW,st0,zae,cqD,gX,gY,nX,nY,zaV,zaW,zaL,q,za8];simp (disch:=omega) only[zbk,zbN]
def M0(hd:List Str)(l:List CQ)(L:List CQ)(s:St):Prop:=∃d dh P,(s.tm.get 1=some (.ptr 0 2 0 0)/\s.tm.get 2=some (.ptr 1 2 0 0)/\s.tm.get 3=some (.ptr P 2 0 0)/\s.h.get 0=some (.arr 2 0 [[.f (zas hd),.f (qsF l)]])/\s.h.get 1=some (.arr 2 0 [[.f .nils,.f .nils]])/\s.h.get P=some (.arr 2 0 [[dh,d]]))/\2≤P/\P<s.c/\Own s.h 2 P dh (zas hd)/\(d= .f (qsF L)\/Gro s.h (P+1) s.c 2 d (zcm L))/\s.lw≤s.c
def XM1(hd:List Str)(l:List CQ)(n:Nat)(a:List CQ)(s:St):Prop:=∃d dh P,(s.tm.get 1=some (.ptr 0 2 0 0)/\s.tm.get 2=some (.ptr 1 2 0 0)/\s.tm.get 3=some (.ptr P 2 0 0)/\s.tm.get 14=some (.f (qsF l))/\s.tm.get 15=some (.f (.i .i64 l.length))/\s.tm.get 16=some (.f (.i .i64 n))/\s.h.get 0=some (.arr 2 0 [[.f (zas hd),.f (qsF l)]])/\s.h.get 1=some (.arr 2 0 [[.f .nils,.f .nils]])/\s.h.get P=some (.arr 2 0 [[dh,d]]))/\2≤P/\P<s.c/\Own s.h 2 P dh (zas hd)/\Gro s.h (P+1) s.c 2 d (zcm a)/\s.lw≤s.c
def XM2(hd:List Str)(l:List CQ)(R:List CQ)(k:Nat)(s:St):Prop:=∃(L:List CQ) (z:Int),(z=(k:Int) - 1/\k≤L.length/\QOk L/\L≠[]/\minL hd k L=R)/\M0 hd l L s/\s.tm.get 6=some (.f (.i .i64 z))
theorem zKS{L:List CQ}(hL:L≠[]):qsF L= .sl 2 (L.map cqF):=(zcX (by simpa using hL)).symm
theorem qs_hi{L:List CQ}(hL:L≠[]){i:Nat}(hi:i≤L.length)(h:Nat->Option Ob):sliceB 2 h (.f (qsF L)) none (some (.f (.i .i64 i))) none=some (.f (.sl 2 ((L.take i).map cqF)),[]):=by
 rw[zKS hL];simp[sliceB,za9,zbz,hi,List.map_take]
theorem qs_lo{L:List CQ}(hL:L≠[]){i:Nat}(hi:i≤L.length)(h:Nat->Option Ob):sliceB 2 h (.f (qsF L)) (some (.f (.i .i64 i))) none none=some (.f (.sl 2 ((L.drop i).map cqF)),[]):=by
 rw[zKS hL];simp[sliceB,za9,zbz,hi,List.map_drop];exact List.take_of_length_le (by simp)
def XT(hd:List Str)(l L:List CQ)(e:CQ)(i:Nat)(dh:D)(P E:Nat)(s:St):Prop:=∃d,(s.tm.get 1=some (.ptr 0 2 0 0)/\s.tm.get 2=some (.ptr 1 2 0 0)/\s.tm.get 3=some (.ptr P 2 0 0)/\s.tm.get 6=some (.f (.i .i64 i))/\s.tm.get 8=some (.f (qsF (oth L i)))/\s.h.get 0=some (.arr 2 0 [[.f (zas hd),.f (qsF l)]])/\s.h.get 1=some (.arr 2 0 [[.f .nils,.f .nils]])/\s.h.get P=some (.arr 2 0 [[dh,d]])/\s.h.get E=some (.arr 2 0 [cqD e]))/\2≤P/\P<E/\E<s.c/\Own s.h 2 P dh (zas hd)/\(d= .f (qsF L)\/Gro s.h (P+1) s.c 2 d (zcm L))/\s.lw≤s.c
theorem zHY(hd:List Str)(l:List CQ)(hh:hd.length<1000)(hl:QOk l)(h0:l≠[]):Ans pr 22 [.ag [zas hd,qsF l]] (.ag [zas hd,qsF (znU hd l)]):=by
 refine za1 fn22 ?_;simp only[g22,rU];simp[rW,st0,zae,zaL,zfS];refine zfa rfl rfl (eff51 hd (by omega)) ?_;rintro dh h' c' lw mx ⟨hf,hO⟩ hcc;simp only[rG]at hf hO hcc;have e0:=hf 0 (by omega);have e1:=hf 1 (by omega);simp[Vse.T.zab]at e0 e1;have hcd:=hO.2.1;have n0:¬(0=c'):=by omega
 have n1:¬(1=c'):=by omega
 simp[rW,e0,e1,hcd,n0,n1,zdD,zfS];refine zd5 l (fun x c=>x++[zeu hd c.as.length (cop c)]) [] (fun n a s=>XM1 hd l n a s) (fun x s=>x= .exit 0/\M0 hd l (l.map fun c=>zeu hd c.as.length (cop c)) s) ?_ ?_ _ ?_ ?_
 ·rintro n a s hn ha ⟨d,dh,P,⟨h1,h2,h3,h14,h15,h16,g0,g1,gP⟩,hP2,hPc,hO,hg,hlw⟩;have hw:=zao n (by have:=hl.2;omega);have hal:a.length≤1000:=by
   rw[zdR (fun c=>[zeu hd c.as.length (cop c)]),List.nil_append]at ha;have:=zf0 (fun c:CQ=>[zeu hd c.as.length (cop c)]) 1 (l.take n) (by simp);rw[<-ha]at this;have:=hl.2;simp at*;omega
  have hs:=hl.1 _ (List.getElem_mem hn);have hx:l[n]? =some l[n]:=List.getElem?_eq_getElem hn;generalize hA:l[n]=A at hs hx⊢;have q19:=fun k=>zak (k:=k) (zHV A hd hs hh)
  generalize zeu hd A.as.length (cop A)=R at q19⊢;simp only[cqE]at q19;have n0:¬(0=s.c):=by omega
  have n1:¬(1=s.c):=by omega
  have nP:¬(P=s.c):=by omega
  have nP':¬(s.c=P):=by omega
  simp[rW,h1,h2,h3,h14,h15,h16,g0,g1,gP,hn,zh3,hx,hA,cqE,n0,n1,nP,nP'];refine zay ?_;simp[rW,h1,h2,h3,h14,h15,h16,g0,g1,gP,n0,n1,nP,nP',cqE,zaV,zaW,zaL,q19];refine zgc (zcb hg (by omega) fun x h1 h2=> ?_) (by omega) (by rw[zcf];simp;omega) (by omega) ?_
  ·have nx:¬(x=s.c):=by omega
   simp[Vse.T.zab,nx]
  intro r hr1 hr2 hr3 hr4 hr5;have e0:=hr4 0 (by omega) (zbQ hg (by omega));have e1:=hr4 1 (by omega) (zbQ hg (by omega));have eP:=hr4 P (by omega) (zbQ hg (by omega));simp[Vse.T.zab,n0,n1,nP,g0,g1,gP]at e0 e1 eP;have p0:¬(0=P):=by omega
  have p1:¬(1=P):=by omega
  refine⟨hr1,?_⟩;simp[rW,eP,zcS hr2];refine⟨by omega,⟨r.d,dh,P,?_,hP2,?_,?_,?_,?_⟩⟩
  ·simp[rW,h1,h2,h3,h14,h15,h16,e0,e1,eP,hw,p0,p1]
  ·simp[rW,];omega
  ·refine hO.up (fun x hx=> ?_) (Nat.le_refl _) (Nat.le_refl _);have hx2:=hO.2.2.1 x hx;have nx:¬(x=P):=by omega
   have nx2:¬(x=s.c):=by omega
   have:=hr4 x (by omega) (zbQ hg (by omega));simp[Vse.T.zab,nx2]at this;simp[rW,nx,this]
  ·rw[zjm];refine zcb hr2 (by simp[rW,];omega) fun x h1 h2=> ?_
   have nx:¬(x=P):=by omega
   simp[rW,nx]
  ·simp[rW,]
   (repeat refine Nat.le_trans (zco _ _) ?_)
   omega
 ·rintro s ⟨d,dh,P,⟨h1,h2,h3,h14,h15,h16,g0,g1,gP⟩,hP2,hPc,hO,hg,hlw⟩;rw[zdR (fun c=>[zeu hd c.as.length (cop c)]),List.nil_append,<-List.map_eq_flatMap]at hg;simp[rW,h1,h2,h3,h14,h15,h16,g0,g1,gP];refine⟨d,dh,P,?_,hP2,hPc,hO,.inr hg,hlw⟩;simp[rW,h1,h2,h3,g0,g1,gP]
 ·refine⟨.f .nils,dh,c',?_,by omega,?_,?_,.inl ⟨rfl,rfl⟩,?_⟩
  ·simp[rW,e0,e1,n0,n1]
  ·simp[rW,]
  ·refine hO.up (fun x hx=> ?_) (Nat.le_refl _) (Nat.le_refl _);have:=hO.2.2.1 x hx;have nx:¬(x=c'):=by omega
   simp[rW,nx]
  ·simp[rW,]
   (repeat refine Nat.le_trans (zco _ _) ?_)
   exact Nat.zero_le _
 ·rintro x s ⟨rfl,d,dh,P,⟨h1,h2,h3,g0,g1,gP⟩,hP2,hPc,hO,hg,hlw⟩;have hL:QOk (l.map fun c=>zeu hd c.as.length (cop c)):=⟨fun c hc=>by
   obtain⟨e,he,rfl⟩ :=List.mem_map.1 hc;exact zmx hd _ _ (zoG (hl.1 e he)),by simpa using hl.2⟩
  have hL0:(l.map fun c=>zeu hd c.as.length (cop c))≠[]:=by simpa using h0
  have hLl:(l.map fun c=>zeu hd c.as.length (cop c)).length=l.length:=by simp
  unfold znU;generalize (l.map fun c=>zeu hd c.as.length (cop c))=L at hg hL hL0 hLl⊢;rw[<-hLl];obtain⟨z0,hz0⟩ :∃z0:Int,z0=(L.length:Int) - 1:=⟨_,rfl⟩
  have hw0:IntKind.i64.wrap ((L.length:Int) - 1)=z0:=by rw[hz0];exact IntWalk.i64_in _ (by have:=hL.2;omega)
  have hlen:zcr d=some L.length:=by
   rcases hg with rfl|hg
   ·exact zdD L
   ·have:=Go.Vse.zeK hg;rwa[zcf]at this
  simp[rW,h1,h2,h3,g0,g1,gP,hlen,hw0];refine zcu (XM2 hd l (minL hd L.length L)) (fun x s=>x= .exit 2/\M0 hd l (minL hd L.length L) s) ?_ L.length _ ?_ ?_
  ·generalize minL hd L.length L=R;clear hw0 hz0 hL hL0 hLl hg hlen hO g0 g1 gP h1 h2 h3 hcd e0 e1;clear L;rintro k s ⟨L,z,⟨hz,hk,hL,hL0,hR⟩,⟨d,dh,P,⟨h1,h2,h3,g0,g1,gP⟩,hP2,hPc,hO,hg,hlw⟩,h6⟩;cases k with
   |zero=>
    have hz0:¬(0≤z):=by omega
    simp[rW,h1,h2,h3,g0,g1,gP,h6,hz0];subst hR;refine⟨d,dh,P,?_,hP2,hPc,hO,hg,hlw⟩;simp[rW,h1,h2,h3,g0,g1,gP]
   |succ i=>
    have hz1:z=(i:Int):=by omega
    subst hz1;obtain⟨z2,hz2⟩ :∃z2:Int,z2=(i:Int) - 1:=⟨_,rfl⟩
    have hw:IntKind.i64.wrap ((i:Int) - 1)=z2:=by rw[hz2];exact IntWalk.i64_in _ (by have:=hL.2;omega)
    have hwi:=zao i (by have:=hL.2;omega);have hi:i<L.length:=by omega
    have hxi:L[i]? =some L[i]:=List.getElem?_eq_getElem hi;have hsi:=hL.1 _ (List.getElem_mem hi);have hm1:min1 hd L i=if((oth L i).any fun c=>exR hd c L[i])=true then oth L i else L:=by
     unfold min1;rw[hxi];simp
    have hR':minL hd i (min1 hd L i)=R:=hR;rw[hm1]at hR';have q52:=fun k=>zak (k:=k) (ans52 (L.take i) (L.drop (i+1)) (by have:=hL.2;simp;omega) (by have:=hL.2;simp;omega))
    change ∀k,aB pr 52 [.sl 1 [[.sl 2 ((L.take i).map cqF)],[.sl 2 ((L.drop (i+1)).map cqF)]]] k↔k (qsF (oth L i))at q52
    have hom:∀c∈oth L i,zbu c:=fun c hc=>hL.1 c (zrz hc)
    have n0:¬(0=s.c):=by omega
    have n1:¬(1=s.c):=by omega
    have nP:¬(P=s.c):=by omega
    have nP':¬(s.c=P):=by omega
    push_cast at hwi
    have tail:∀(E:Nat) (s:St),XT hd l L L[i] i dh P E s->WQ pr 41 [.f (qsF (oth L i)),.fn 53 [] [.ptr E 2 0 0,.ptr 0 2 0 0]] s (some 56) [] (sq pr (.cond (.t 56) (.reg [oM 57 8,oF 58 1 3,oS 1 58 57]) .skip) (kb 3 (sq pr (.reg [oM 36 6,oR 37 (.bin .sub (.t 36) (.k (.i .i64 1))),oM 6 37]) (lp (XM2 hd l R) (i+1) fun x s=>x= .exit 2/\M0 hd l R s))) .nrm):=by
     clear s hlw hO hg hPc gP g0 g1 h1 h2 h3 h6 n0 n1 nP nP' d;generalize hE:L[i]=e at*;rintro E s ⟨d,⟨h1,h2,h3,h6,h8,g0,g1,gP,gE⟩,hP2,hPE,hEc,hO,hg,hlw⟩;simp only[rU];refine zcp (d:= .f (.b ((oth L i).any fun c=>exR hd c e))) (ro41 (oth L i) (fun c=>exR hd c e) (by rw[zry hi];have:=hL.2;omega) fun k hk=> ?_) hlw ?_
     ·exact ro53 hd _ e (hom _ (List.getElem_mem hk)) hsi hh gE g0 hEc (by omega)
     ·intro mx;cases hb:(oth L i).any fun c=>exR hd c e with
      |false=>
       rw[hb]at hR';simp only[Bool.false_eq_true,if_false]at hR';simp[rW,h1,h2,h3,h6,h8,g0,g1,gP,gE];rw[zbh];refine⟨i,by omega,L,z2,⟨hz2,by omega,hL,hL0,hR'⟩,⟨d,dh,P,?_,hP2,?_,hO,?_,?_⟩,?_⟩
       ·simp[rW,h1,h2,h3,h6,h8,g0,g1,gP,gE]
       ·simp[rW,];omega
       ·simp[rW,];exact hg
       ·simp[rW,];exact hlw
       ·simp[rW,hw]
      |true=>
       rw[hb]at hR';simp only[if_true]at hR';have hlo2:=zry hi;have hon:oth L i≠[]:=fun e=>by rw[e]at hb;simp at hb
       have p0:¬(0=P):=by omega
       have p1:¬(1=P):=by omega
       have hqc:(D.f (qsF (oth L i))).cells=some [.f (qsF (oth L i))]:=by unfold qsF;exact zgr _ _
       simp[rW,h1,h2,h3,h6,h8,g0,g1,gP,gE,hqc,zfS];refine⟨by omega,?_⟩;rw[zbh];refine⟨i,by omega,oth L i,z2,⟨hz2,by rw[hlo2];omega,⟨hom,by rw[hlo2];have:=hL.2;omega⟩,hon,hR'⟩,⟨.f (qsF (oth L i)),dh,P,?_,hP2,?_,?_,.inl rfl,?_⟩,?_⟩
       ·simp[rW,h1,h2,h3,h6,h8,g0,g1,gP,gE,p0,p1]
       ·simp[rW,];omega
       ·refine hO.up (fun x hx=> ?_) (Nat.le_refl _) (Nat.le_refl _);have hx2:=hO.2.2.1 x hx;have nx:¬(x=P):=by omega
        simp[rW,nx]
       ·simp[rW,]
        (repeat refine Nat.le_trans (zco _ _) ?_)
        exact hlw
       ·simp[rW,hw]
    dsimp only[oM,oR,oF,oS]at tail;have m0:¬(0=s.c+1+1+1+1+1+1+1+1+1+1):=by omega
    have m1:¬(1=s.c+1+1+1+1+1+1+1+1+1+1):=by omega
    have mP:¬(P=s.c+1+1+1+1+1+1+1+1+1+1):=by omega
    have mE:¬(s.c=s.c+1+1+1+1+1+1+1+1+1+1):=by omega
    rcases hg with rfl|hg
    ·have s1:=fun h=>qs_hi hL0 (i:=i) (by omega) h
     have s2:=fun h=>qs_lo hL0 (i:=i+1) (by omega) h
     push_cast at s2
     generalize L.take i=T1 at s1 q52;generalize L.drop (i+1)=T2 at s2 q52;simp[rW,h1,h2,h3,g0,g1,gP,h6,n0,n1,nP,nP',zh3,hxi,hi,cqE];refine zay ?_;simp[rW,h1,h2,h3,g0,g1,gP,n0,n1,nP,nP',h6,s1,s2,hwi,q52,zfS];refine tail _ _ ⟨_,?_,hP2,hPc,?_,?_,.inl rfl,?_⟩
     ·simp[rW,h1,h2,h3,g0,g1,gP,h6,n0,n1,nP,nP',m0,m1,mP,mE,cqD]
     ·simp[rW,];omega
     ·refine hO.up (fun x hx=> ?_) (Nat.le_refl _) (Nat.le_refl _);have hx2:=hO.2.2.1 x hx;have nx:¬(x=s.c):=by omega
      have nx2:¬(x=s.c+1+1+1+1+1+1+1+1+1+1):=by omega
      simp[rW,nx,nx2]
     ·simp[rW,]
      (repeat refine Nat.le_trans (zco _ _) ?_)
      omega
    ·obtain⟨id,ro,rfl,hne,gd,hro2,hlo,hhi⟩ :=hg.resolve_left (fun h=>hL0 (by simpa [zcm]using h.2));simp only[zcf]at*;have gx:(zcm L)[i]? =some [D.f (zaC L[i]),D.f (zaF L[i])]:=by rw[znz,hxi];rfl
     have s1:∀H:T Ob,H.get id=some (.arr 2 ro (zcm L))->sliceB 2 H.get (.sl id 0 L.length 2 L.length false) none (some (.f (.i .i64 i))) none=some (.sl id 0 i 2 L.length false,[id]):=fun H gd=>by
      simp[sliceB,gd,za9,zbz];omega
     have s2:∀(H:T Ob) (j:Nat),j≤L.length->H.get id=some (.arr 2 ro (zcm L))->sliceB 2 H.get (.sl id 0 L.length 2 L.length false) (some (.f (.i .i64 (j:Int)))) none none=some (.sl id j (L.length - j) 2 L.length false,[id]):=by
      intro H j hj gd;simp[sliceB,gd,za9,zbz];omega
     have nd:¬(id=s.c):=by omega
     have nd10:¬(id=s.c+1+1+1+1+1+1+1+1+1+1):=by omega
     have s1:=s1 ((s.h.set s.c (.arr 2 0 [[.f .nils,.f .nils]])).set s.c (.arr 2 0 [[.f (zaC L[i]),.f (zaF L[i])]])) (by simp[Vse.T.zab,nd,gd]);have s2:=s2 ((s.h.set s.c (.arr 2 0 [[.f .nils,.f .nils]])).set s.c (.arr 2 0 [[.f (zaC L[i]),.f (zaF L[i])]])) (i+1) (by omega) (by simp[Vse.T.zab,nd,gd])
     push_cast at s2
     have f1:∀H:Nat->Option Ob,zaT (frz H 10) (List.take i (zcm L))=some ((L.take i).map cqF,[]):=fun H=>by
      have:=ziZ H 9 (L.take i);have e:zcm (L.take i)=(zcm L).take i:=by simp[zcm,List.map_take]
      rwa[e]at this
     have f2:∀H:Nat->Option Ob,zaT (frz H 10) (List.take (L.length - (i+1)) (List.drop (i+1) (zcm L)))=some ((L.drop (i+1)).map cqF,[]):=fun H=>by
      have:=ziZ H 9 (L.drop (i+1));have e:zcm (L.drop (i+1))=((zcm L).drop (i+1)).take (L.length - (i+1)):=by rw[List.take_of_length_le (by simp[zcf])];simp[zcm,List.map_drop]
      rwa[e]at this
     have l1:(i≤L.length)=True:=by simp;omega
     have l2:(i+1+(L.length - (i+1))≤L.length)=True:=by simp;omega
     generalize L.take i=T1 at f1 q52;generalize L.drop (i+1)=T2 at f2 q52;have nd':¬(s.c=id):=by omega
     have nd10':¬(s.c+1+1+1+1+1+1+1+1+1+1=id):=by omega
     simp[rW,h1,h2,h3,g0,g1,gP,h6,n0,n1,nP,nP',zh3,hxi,hi,cqE,gd,gx];refine zay ?_;simp[rW,h1,h2,h3,g0,g1,gP,n0,n1,nP,nP',h6,nd,nd10,nd',nd10',hwi,q52,zfS,s1,s2,gd,f1,f2,l1,l2,zcf];generalize hW:(if L.length≤ro then if L.length≤ro then[]else[(id,some (Ob.arr 2 L.length (zcm L)))]else(id,some (Ob.arr 2 L.length (zcm L)))::if L.length≤ro then[]else[(id,some (Ob.arr 2 L.length (zcm L)))])=W;have w1:∀(H:T Ob) x,x≠id->(wrT H W).get x=H.get x:=fun H x hx=>by
      rw[<-hW];split<;>(try split)<;>simp[wrT,Vse.T.zab,hx]
     have w2:∀H:T Ob,H.get id=some (.arr 2 ro (zcm L))->∃r2,r2≤L.length/\(wrT H W).get id=some (.arr 2 r2 (zcm L)):=fun H e=>by
      rw[<-hW];split
      ·exact⟨ro,hro2,by simpa [wrT]using e⟩
      ·exact⟨L.length,Nat.le_refl _,by simp[wrT,Vse.T.zab]⟩
     have w3:zat (s.c+1+1+1+1+1+1+1+1+1+1+1+1) W=true:=by
      rw[<-hW];split<;>(try split)<;>simp[zat,Nat.blt_eq]<;>omega
     refine⟨w3,?_⟩;have k0:=fun H=>w1 H 0 (by omega)
     have k1:=fun H=>w1 H 1 (by omega)
     have kP:=fun H=>w1 H P (by omega)
     have kE:=fun H=>w1 H s.c (by omega)
     refine tail s.c _ ⟨.sl id 0 L.length 2 L.length false,?_,hP2,hPc,?_,?_,.inr (.inr ?_),?_⟩
     ·simp[rW,h1,h2,h3,g0,g1,gP,h6,n0,n1,nP,nP',m0,m1,mP,mE,cqD,k0,k1,kP,kE]
     ·simp[rW,];omega
     ·refine hO.up (fun x hx=> ?_) (Nat.le_refl _) (Nat.le_refl _);have hx2:=hO.2.2.1 x hx;have nx:¬(x=s.c):=by omega
      have nx2:¬(x=s.c+1+1+1+1+1+1+1+1+1+1):=by omega
      have kx:=fun H=>w1 H x (by omega)
      simp[rW,nx,nx2,kx]
     ·obtain⟨r2,hr2,e2⟩ :=w2 (((s.h.set s.c (.arr 2 0 [[.f .nils,.f .nils]])).set s.c (.arr 2 0 [[.f (zaC L[i]),.f (zaF L[i])]])).set (s.c+1+1+1+1+1+1+1+1+1+1) (.arr 1 0 [[.sl id 0 i 2 L.length false],[.sl id (i+1) (L.length - (i+1)) 2 L.length false]]) |>.set (s.c+1+1+1+1+1+1+1+1+1+1) (.arr 1 2 [[.sl id 0 i 2 L.length false],[.sl id (i+1) (L.length - (i+1)) 2 L.length false]])) (by simp[Vse.T.zab,nd,nd10,gd]);refine⟨id,r2,by rw[zcf],hne,?_,by rw[zcf];exact hr2,hlo,?_⟩
      ·simp[rW,e2]
      ·simp[rW,];omega
     ·simp[rW,]
      (repeat refine Nat.le_trans (zco _ _) ?_)
      omega
  ·refine⟨L,z0,⟨hz0,Nat.le_refl _,hL,hL0,rfl⟩,⟨d,dh,P,?_,hP2,?_,hO,hg,?_⟩,?_⟩
   ·simp[rW,h1,h2,h3,g0,g1,gP]
   ·simp[rW,hPc]
   ·simp[rW,];exact hlw
   ·simp[rW,]
  ·rintro x s ⟨rfl,d,dh,P,⟨h1,h2,h3,g0,g1,gP⟩,hP2,hPc,hO,hg,hlw⟩;generalize minL hd L.length L=R at hg⊢;have nP1:¬(P=1):=by omega
   have hh2:∀y,y≠1->(s.h.set 1 (.arr 2 0 [[dh,d]])).get y=s.h.get y:=fun y hy=>by simp[Vse.T.zab,hy]
   obtain⟨rd2,hz2⟩ :=hO.2.2.2 (s.h.set 1 (.arr 2 0 [[dh,d]])) (fun x hx=>hh2 x (by have:=hO.2.2.1 x hx;omega)) 9;have hz:(∃rd,frz (s.h.set 1 (.arr 2 0 [[dh,d]])).get 11 d=some (qsF R,rd))/\d.cells=some [d]:=by
    rcases hg with rfl|hg
    ·exact⟨⟨[],rfl⟩,by unfold qsF;exact zgr _ _⟩
    ·obtain⟨rd,hz⟩ :=ziI (k:=10) (zcb (h':=s.h.set 1 (.arr 2 0 [[dh,d]])) hg (Nat.le_refl _) (fun x h1 _=>hh2 x (by omega))) (ziZ _ 9 _) (by simp[zcm]);exact⟨⟨rd,hz⟩,zcS hg⟩
   obtain⟨⟨rd,hz⟩,hcd⟩ :=hz;have hcd2:=hO.2.1;simp[rW,h1,h2,h3,g0,g1,gP,nP1,hcd,hcd2,hz,hz2];omega
theorem zpF{a a' b b':CQ}{ns:List Str}{tg:List Trm}{hd:List Str}(hp:zgn a b ns=zgn a' b' ns):∀(k:Nat) (im:List Trm),zdv a b ns tg hd k im=zdv a' b' ns tg hd k im
 |0,im=>by
  unfold zdv;rw[hp]
 |k+1,im=>by
  have ih:zdv a b ns tg hd k=zdv a' b' ns tg hd k:=funext fun im=>zpF hp k im
  unfold zdv;rw[hp];dsimp only;rw[ih]
theorem zFO{a a' b b':CQ}(ha:Eqv a a')(hb:Eqv b b'){ns:List Str}{tg:List Trm}{hd:List Str}(k:Nat)(im:List Trm):zdv a b ns tg hd k im=zdv a' b' ns tg hd k im:=by
 refine zpF ?_ k im
 funext im
 unfold zgn;rw[ha.1,ha.2];unfold atP cmP;rw[hb.1,hb.2]
theorem zum{hd:List Str}{c c' d d':CQ}(h1:Eqv c c')(h2:Eqv d d'):exR hd c d=exR hd c' d':=by
 have e1:vrs c=vrs c':=by unfold vrs;rw[h1.1,h1.2]
 have e2:zf4 d=zf4 d':=by unfold zf4;rw[h2.1,h2.2]
 unfold exR zhg;rw[e1,e2,zFO h1 h2]
theorem zMw{hd:List Str}{c c' d d':CQ}(h1:Eqv c c')(h2:Eqv d d'):cov c d hd=cov c' d' hd:=by
 obtain⟨a1,a2,a3,a4⟩ :=c;obtain⟨b1,b2,b3,b4⟩ :=c';obtain⟨e1,e2,e3,e4⟩ :=d;obtain⟨f1,f2,f3,f4⟩ :=d';obtain⟨rfl,rfl⟩ :=h1;obtain⟨rfl,rfl⟩ :=h2;rfl
theorem znC{c c':CQ}(h:Eqv c c')(i:Nat)(x y:Bool):Eqv (zcJ c i x) (zcJ c' i y):=⟨by simp only[zcJ];rw[h.1],h.2⟩
theorem zFN{hd:List Str}{c c':CQ}(h:Eqv c c')(i:Nat):Eqv (znq hd c i) (zno hd c' i):=by
 have e1:=zMw (hd:=hd) (znC h i true false) h;have e2:=zum (hd:=hd) h (znC h i true false);unfold znq zno;change Eqv (if cov (zcJ c i true) c hd=true/\exR hd c (zcJ c i true)=true then _ else _) _;rw[e1,e2];split
 ·exact znC h i true false
 ·exact h
theorem zuj(hd:List Str):∀(k:Nat) {c c':CQ},Eqv c c'->Eqv (zev hd k c) (zeu hd k c')
 |0,_,_,h=>h
 |k+1,_,_,h=>zuj hd k (zFN h k)
theorem zuk(hd:List Str)(c:CQ):Eqv (zev hd c.as.length c) (zeu hd c.as.length (cop c)):=zuj hd _ ⟨rfl,rfl⟩
theorem znB{L M:List CQ}(h:zik L M)(i:Nat):(L[i]? =none/\M[i]? =none)\/∃c d,L[i]? =some c/\M[i]? =some d/\Eqv c d:=by
 by_cases hi:i<L.length
 ·have hm:i<M.length:=by have:=h.1;omega
  exact .inr ⟨_,_,List.getElem?_eq_getElem hi,List.getElem?_eq_getElem hm,h.2 i hi hm⟩
 ·exact .inl ⟨List.getElem?_eq_none (by omega),List.getElem?_eq_none (by have:=h.1;omega)⟩
theorem zxC{L M:List CQ}(hl:L.length=M.length)(h:∀i:Nat,∀c d,L[i]? =some c->M[i]? =some d->Eqv c d):zik L M:=
 ⟨hl,fun i h1 h2=>h i _ _ (List.getElem?_eq_getElem h1) (List.getElem?_eq_getElem h2)⟩
theorem zuh{L M:List CQ}(h:zik L M)(i:Nat):zik (oth L i) (oth M i):=by
 have hl:=h.1;refine zxC (by simp[oth,hl]) fun j c d h1 h2=> ?_
 unfold oth at h1 h2;have tl:(L.take i).length=(M.take i).length:=by simp[hl]
 by_cases hj:j< (L.take i).length
 ·rw[List.getElem?_append_left hj]at h1;rw[List.getElem?_append_left (by omega)]at h2;simp only[List.length_take]at hj;rw[List.getElem?_take_of_lt (by omega)]at h1 h2;rcases znB h j with⟨e,_⟩ |⟨c',d',e1,e2,he⟩
  ·rw[e]at h1;cases h1
  ·rw[e1]at h1;rw[e2]at h2;cases h1;cases h2;exact he
 ·rw[List.getElem?_append_right (by omega),List.getElem?_drop]at h1;rw[List.getElem?_append_right (by omega),List.getElem?_drop,<-tl]at h2;rcases znB h (i+1+(j - (L.take i).length))with⟨e,_⟩ |⟨c',d',e1,e2,he⟩
  ·rw[e]at h1;cases h1
  ·rw[e1]at h1;rw[e2]at h2;cases h1;cases h2;exact he
theorem zFM{hd:List Str}{d d':CQ}(hd':Eqv d d'){L M:List CQ}(h:zik L M):(L.any fun c=>exR hd c d)=M.any fun c=>exR hd c d':=by
 rw[Bool.eq_iff_iff,List.any_eq_true,List.any_eq_true];constructor
 ·rintro⟨x,hx,hp⟩;obtain⟨i,hi,rfl⟩ :=List.getElem_of_mem hx;have hm:i<M.length:=by have:=h.1;omega
  exact⟨M[i],List.getElem_mem hm,by rw[<-zum (h.2 i hi hm) hd'];exact hp⟩
 ·rintro⟨x,hx,hp⟩;obtain⟨i,hm,rfl⟩ :=List.getElem_of_mem hx;have hi:i<L.length:=by have:=h.1;omega
  exact⟨L[i],List.getElem_mem hi,by rw[zum (h.2 i hi hm) hd'];exact hp⟩
theorem zC3{hd:List Str}{L M:List CQ}(h:zik L M)(i:Nat):zik (min1 hd L i) (min1 hd M i):=by
 unfold min1;rcases znB h i with⟨e1,e2⟩ |⟨c,d,e1,e2,he⟩
 ·rw[e1,e2];simpa using h
 ·rw[e1,e2];have:=zFM (hd:=hd) he (zuh h i);simp only[Option.some.injEq,exists_eq_left',this];split
  ·exact zuh h i
  ·exact h
theorem zrY(hd:List Str):∀(k:Nat) {L M:List CQ},zik L M->zik (minL hd k L) (minL hd k M)
 |0,_,_,h=>h
 |k+1,_,_,h=>zrY hd k (zC3 h k)
theorem zug(hd:List Str)(l:List CQ):zik (znU hd l) (zu6 hd l):=by
 refine zrY hd _ (zxC (by simp) fun i c d h1 h2=> ?_);rw[List.getElem?_map]at h1 h2;obtain⟨x,hx,rfl⟩ :=Option.map_eq_some_iff.1 h1;rw[hx]at h2;obtain rfl:=Option.some.inj h2;have:=zuk hd x;exact⟨this.1.symm,this.2.symm⟩
theorem zGc{hd:List Str}{L:List CQ}{i:Nat}{c:CQ}(h:c∈min1 hd L i):c∈L:=by
 unfold min1 at h;split at h
 ·exact zrz h
 ·exact h
theorem zu3(hd:List Str):∀(k:Nat) {L:List CQ} {c:CQ},c∈minL hd k L->c∈L
 |0,_,_,h=>h
 |k+1,_,_,h=>zGc (zu3 hd k h)
theorem zGa(hd:List Str)(L:List CQ)(i:Nat):(min1 hd L i).length≤L.length:=by
 unfold min1;split
 ·unfold oth;simp;omega
 ·exact Nat.le_refl _
theorem zu1(hd:List Str):∀(k:Nat) (L:List CQ),(minL hd k L).length≤L.length
 |0,_=>Nat.le_refl _
 |k+1,L=>Nat.le_trans (zu1 hd k _) (zGa hd L k)
theorem zmD{hd:List Str}{l:List CQ}(hl:QOk l):QOk (znU hd l):=by
 refine⟨fun c hc=> ?_,?_⟩
 ·obtain⟨x,hx,rfl⟩ :=List.mem_map.1 (zu3 hd _ hc);exact zmx hd _ _ (zoG (hl.1 x hx))
 ·have:=zu1 hd l.length (l.map fun c=>zeu hd c.as.length (cop c));have:=hl.2;unfold znU;simp at*;omega
def idI(ns:List Str):Nat->Trm:=fun v=> .var (ns.getD v [])
theorem zBp{ns:List Str}{t:Trm}(hi:InV ns t):tI ns (idI ns) t=t:=by
 cases t with
 |cst n=>rfl
 |var s=>
  have hm:=hi.2 s rfl;have h1:=ziQ hm;show Trm.var (ns.getD (vix ns s) [])= .var s;rw[List.getD_eq_getElem?_getD,List.getElem?_eq_getElem (zf5 hm),h1];rfl
theorem zCp(k:Cm):zfw k k=true:=by
 simp[zfw,(zeY _ _).2 rfl]
theorem zMH{ns:List Str}{c:CQ}(hv:zfi ns c):∀k,(csp ns c c hv).full k (idI ns):=by
 rintro (⟨x,hx⟩ |⟨k,hk⟩)
 ·refine⟨x,hx,rfl,rfl,?_⟩;exact (List.map_congr_left fun t ht=>zBp (hv.va x hx t ht)).trans (List.map_id _)
 ·show zix c ⟨k.op,tI ns (idI ns) k.l,tI ns (idI ns) k.r⟩ =true;rw[zBp (hv.vc k hk).1,zBp (hv.vc k hk).2];unfold zix;rw[Bool.or_eq_true];exact .inr (List.any_eq_true.2 ⟨k,hk,zCp k⟩)
theorem ztt{v:Str}:∀(ts:List Trm) (l:List Str),(∀t∈ts,zau t)->v∈ts.foldl (fun l t=>zcA l (tv t)) l->v∈l\/.var v∈ts
 |[],l,_,h=> .inl h
 |t::ts,l,ho,h=>by
  rcases ztt ts _ (fun t ht=>ho t (by simp[ht])) h with h|h
  ·change v∈zcA l (tv t)at h;unfold zcA at h;split at h
   ·exact .inl h
   ·rename_i hn;rcases List.mem_append.1 h with h|h
    ·exact .inl h
    ·have e:v=tv t:=by simpa using h
     subst e;cases t with
     |cst n=>exact absurd (.inl rfl) hn
     |var s=>exact .inr (by simp[tv])
  ·exact .inr (by simp[h])
theorem zFR(hd:List Str)(c:CQ)(hc:zbu c):exR hd c c=true:=by
 obtain⟨hnd,hne⟩ :=zij c;have hv:=zv3 hc.toCqOk;have hs:(zf4 c).Pairwise tLt:=by
  rw[zmR];exact zi9 _ _ (by simp)
 have hcd:∀v,v< (vrs c).length->idI (vrs c) v∈zf4 c:=by
  intro v hvl;have hm:(vrs c)[v]∈vrs c:=List.getElem_mem hvl;have e:idI (vrs c) v= .var (vrs c)[v]:=by
   unfold idI;rw[List.getD_eq_getElem?_getD,List.getElem?_eq_getElem hvl];rfl
  rw[e,zmR,zlo];generalize hx:(vrs c)[v]=x at hm;rw[<-zpQ]at hm;rcases ztt _ _ (zmc hc.toCqOk) hm with h|h
  ·simp at h
  ·exact .inl h
 obtain⟨im,h,_⟩ :=zn4 hv hs (zMH hv) hcd ((zq9 (hd:=hd) hnd hne).2 fun x _ hx=>by
  show Trm.var ((vrs c).getD (vix (vrs c) x) [])=_;rw[List.getD_eq_getElem?_getD,List.getElem?_eq_getElem (zf5 hx),ziQ hx];rfl) (vrs c).length [] (by simp) (by simp)
 unfold exR zhg;rw[h];rfl
theorem zCr(hd:List Str)(l:List CQ)(hl:∀c∈l,zbu c):zg7 hd hd l l=true:=by
 unfold zg7;rw[decide_eq_true rfl,Bool.true_and,List.all_eq_true];exact fun d hd'=>List.any_eq_true.2 ⟨d,hd',zFR hd d (hl d hd')⟩
theorem zNa(a b:Nat)(hb:b≠0)(ha:a<1000000):zbv .quo (.i .i64 a) (.i .i64 b)=some (.i .i64 ((a/b:Nat):Int)):=by
 have:=Nat.div_le_self a b;rw[zMc _ _ (by omega),show(a:Int).tdiv b=((a/b:Nat):Int)from rfl];generalize a/b=q at*;rw[wrap_i64 _ (by omega) (by omega)]
theorem zL4(a b:Nat)(ha:a<1000000)(hb:b<1000000):IntKind.i64.wrap ((a:Int)+b)=((a+b:Nat):Int):=by
 rw[wrap_i64 _ (by omega) (by omega)];omega
theorem ans36{x:F}(hx:zgt x)(i:Nat)(hi:i<1000):∃n:Nat,n<100000/\Ans pr 36 [x,.i .i64 i] (.i .i64 n):=by
 obtain⟨r0,hr0,he0⟩ :=zfW i 65535 (by omega);have he0':zbv .and (.i .i64 i) (.i .i64 65535)=some (.i .i64 r0):=he0;have nil:zcr (.f .nils)=some 0:=rfl
 by_cases hz:x= .nils\/x= .sl 1 []
 ·refine⟨r0,by omega,za1 fn36 ?_⟩;simp only[g36,rU];rcases hz with rfl|rfl
  ·simp[rW,st0,zae,he0']
  ·simp[rW,st0,zae,he0',F.d]
 ·rcases hx with rfl|⟨zs,rfl⟩
  ·exact absurd (.inl rfl) hz
  ·have hz:zs≠[]:=fun e=>hz (.inr (by rw[e];rfl))
   have hlen:0<zs.length:=List.length_pos_iff.2 hz;have hn0:¬zs.length=0:=by omega
   have hni:¬((zs.length:Int)=0):=by omega
   have hmod:i%zs.length<zs.length:=Nat.mod_lt _ hlen;have hrem:=zgg i zs.length hn0;have hquo:=zNa i zs.length hn0 (by omega);have hdl:i/zs.length≤i:=Nat.div_le_self _ _;generalize i%zs.length=m at hmod hrem;generalize i/zs.length=d at hquo hdl;obtain⟨r,hr,he⟩ :=zfW zs[m] 65535 (by omega);have he':zbv .and (.i .i64 zs[m]) (.i .i64 65535)=some (.i .i64 r):=he;have hx:zs[m]? =some zs[m]:=List.getElem?_eq_getElem hmod;have hw:=zL4 r d (by omega) (by omega);refine⟨r+d,by omega,za1 fn36 ?_⟩;simp only[g36,rU];simp[rW,st0,zae,hni,hn0,F.d];refine zay ?_;simp[rW,st0,zae,hrem,hquo,hmod,he',hx,hw,F.d]
theorem bin8(a b:Int):zbv .eql (.i .u8 a) (.i .u8 b)=some (.b (a==b)):=rfl
theorem zDi{R:Str}(h:R≠[]):hd8 (byE R)=true:=by
 cases R with
 |nil=>exact absurd rfl h
 |cons a l=>rfl
def JR(r z:Nat)(p:Str)(n:Nat)(s:St):Prop:=(s.tm.get 1=some (.f (.i .i64 z))/\s.tm.get 4=some (.ptr 0 2 0 0)/\s.tm.get 5=some (.sl 1 0 p.length 1 p.length false)/\s.tm.get 6=some (.f (.i .i64 n))/\s.h.get 0=some (.arr 2 0 [[.f .nils,.f .nils]])/\s.h.get 1=some (.arr 1 0 (byE ((p.take n).map (rb r)++p.drop n))))/\2≤s.c
theorem ans38(p:Str)(z:Nat)(c:CQ)(hp:p≠[])(hl:p.length<1000)(h:Ans pr 76 [.s (p.map (rb (z%3)))] (.tu [.ag [.nils,.sl 2 [cqF c]],.i .i64 0])):Ans pr 38 [.s p,.i .i64 z] (.ag (cqF c)):=by
 refine za1 fn38 ?_;simp only[g38,rU];have hs2b:=fun h c=>v_s2b (h:=h) (c:=c) hp
 have hrem:=zgg z 3 (by omega);rw[show((3:Nat):Int)=3 from rfl]at hrem;have hr3:z%3<3:=Nat.mod_lt _ (by omega);generalize z%3=r at h hrem hr3;have q76:=fun k=>zak (k:=k) h
 have hbl:∀n,((p.take n).map (rb r)++p.drop n).length=p.length:=fun n=>by simp;omega
 simp[rW,st0,zae,o_s2b,zQX,hs2b];refine zd5 p (fun(x:Unit) _=>x) () (fun n _ s=>JR r z p n s) (fun x s=>x= .exit 0/\JR r z p p.length s) ?_ ?_ _ ?_ ?_
 ·rintro n a s hn - ⟨⟨h1,h4,h5,h6,g0,g1⟩,hc⟩;have hw:=zao n (by omega);have hL:=hbl n;have hx:((p.take n).map (rb r)++p.drop n)[n]? =some p[n]:=by
   rw[List.getElem?_append_right (by simp;omega)];simp[hn,Nat.min_eq_left (Nat.le_of_lt hn)]
  have hnx:(p.take (n+1)).map (rb r)++p.drop (n+1)=((p.take n).map (rb r)++p.drop n).set n (rb r p[n]):=by
   have e:n - (List.map (rb r) (List.take n p)).length=0:=by simp;omega
   rw[List.set_append_right _ _ (by simp;omega),e,List.take_succ_eq_append_getElem hn,List.drop_eq_getElem_cons hn,List.map_append,List.append_assoc];rfl
  generalize hR:(p.take n).map (rb r)++p.drop n=R at*;have hbe:(byE R)[n]? =some [D.f (.i .u8 p[n].toNat)]:=by simp[byE,hx]
  have hbn:(byE R).length=p.length:=by simp[byE,hL]
  have hbg:∀h:n< (byE R).length,(byE R)[n]=[D.f (.i .u8 p[n].toNat)]:=fun h=>by
   rw[List.getElem?_eq_getElem h]at hbe;exact Option.some.inj hbe
  have hst:(byE R).set n [D.f (.i .u8 (rb r p[n]).toNat)]=byE (R.set n (rb r p[n])):=by
   unfold byE;rw[List.map_set]
  have hR0:R≠[]:=fun e=>by rw[e]at hL;simp at hL;omega
  have h81:=zDi hR0
  by_cases h64:p[n]=64
  ·have hcv:IntKind.u8.wrap (49+(r:Int))=((rb r 64).toNat:Int):=by
    obtain rfl|rfl|rfl:r=0\/r=1\/r=2:=by omega
    all_goals rfl
   have hv:IntKind.i64.wrap (49+(r:Int))=49+(r:Int):=wrap_i64 _ (by omega) (by omega);rw[h64]at hbg hst hnx;have h82:=zDi (R:=R.set n (rb r 64)) (by simpa using hR0);simp[rW,h1,h4,h5,h6,g0,g1,hn,hbg,hbn,hrem,hv,hcv,bin8,hst,h81,h82];refine⟨by omega,⟨?_,?_⟩⟩
   ·simp[rW,h1,h4,h5,h6,g0,g1,hw,hnx];rw[<-hnx,List.map_take]
   ·simp[rW,hc]
  ·have hne:¬((p[n].toNat:Int)=64):=fun e=>h64 (UInt8.toNat_inj.1 (by have:UInt8.toNat 64=64:=rfl;omega))
   have hrb:rb r p[n]=p[n]:=by unfold rb;rw[if_neg h64]
   rw[hrb,<-Option.some.inj ((List.getElem?_eq_getElem (by omega)).symm.trans hx),List.set_getElem_self]at hnx;simp[rW,h1,h4,h5,h6,g0,g1,hn,hbg,hbn,h64,bin8,hne];refine⟨?_,?_⟩
   ·simp[rW,h1,h4,h5,h6,g0,g1,hw,hnx];rw[<-hnx,List.map_take]
   ·simp[rW,hc]
 ·rintro s ⟨⟨h1,h4,h5,h6,g0,g1⟩,hc⟩;simp[rW,h1,h4,h5,h6,g0,g1];refine⟨?_,?_⟩
  ·simp[rW,h1,h4,h5,h6,g0,g1]
  ·simp[rW,hc]
 ·refine⟨?_,?_⟩
  ·simp[rW,]
  ·simp[rW,]
 ·rintro x s ⟨rfl,⟨h1,h4,h5,h6,g0,g1⟩,hc⟩;rw[List.take_length,List.drop_length,List.append_nil]at g1;have hb2s:=fun(h:Nat->Option Ob) c (hg:h 1=some (.arr 1 0 (byE (p.map (rb r)))))=>v_b2s (c:=c) (lim:=p.length) (ex:=false) hg (len:=p.length) (by simp)
  have n0:¬(0=s.c):=by omega
  have n0':¬(s.c=0):=by omega
  simp only[cqE]at q76⊢;simp[rW,h1,h4,h5,h6,g0,g1,o_b2s,zQE,hb2s,q76,n0,n0',zaV,zaW]
theorem pick{L:List (List F)}(h:∀x∈L,RdX x){j:Nat}(hj:j<L.length)(z:Nat):∃c∈CQl,∃p,L[j]? =some [.s p]/\Ans pr 38 [.s p,.i .i64 z] (.ag (cqF c)):=by
 obtain⟨p,e,h1,h2,h3⟩ :=h L[j] (List.getElem_mem hj);obtain⟨c,hc,q⟩ :=h3 (z%3) (Nat.mod_lt _ (by omega));exact⟨c,hc,p,by rw[List.getElem?_eq_getElem hj,e],ans38 p z c h1 h2 q⟩
theorem zH0(n:Int):∃c∈CQl,Ans pr 24 [.i .i64 n] (.ag (cqF c)):=by
 obtain⟨r,hr,he⟩ :=zfW n 65535 (by omega);obtain⟨z,hz⟩ :∃z:Int,zbv .shr (.i .i64 n) (.i .u64 6)=some (.i .i64 z):=⟨_,rfl⟩
 obtain⟨k,hk,hke⟩ :=zfW z 7 (by omega);have he':zbv .and (.i .i64 n) (.i .i64 65535)=some (.i .i64 r):=he;have hke':zbv .and (.i .i64 z) (.i .i64 7)=some (.i .i64 k):=hke;have hrem:=zgg r 24 (by omega);rw[show((24:Nat):Int)=24 from rfl]at hrem;have hpl:paL.length=24:=rfl;have hj:r%24<paL.length:=by rw[hpl];exact Nat.mod_lt _ (by omega)
 generalize r%24=j at hrem hj;obtain⟨c,hc,p,hp,h38⟩ :=pick rdA hj k;have hp2:∀h:j<paL.length,paL[j]=[.s p]:=fun h=>by
  rw[List.getElem?_eq_getElem h]at hp;exact Option.some.inj hp
 simp only[cqE]at h38;rw[hpl]at hj;have q37:=fun k=>zak (k:=k) zH1
 have q38:=fun k=>zak (k:=k) h38
 refine⟨c,hc,za1 fn24 ?_⟩;simp only[g24,rU];simp -implicitDefEqProofs [rR,st0,zae,q37,he',hz,hke',hrem,hp,hpl,hp2,hj,q38,cqE,zaV,zaW]
theorem fn39:pr.fn 39=some g39:=by kernel_rfl
theorem ans39(n:Nat):∃c∈CQl,Ans pr 39 [.i .i64 n] (.ag (cqF c)):=by
 obtain⟨r,hr,he⟩ :=zfW n 65535 (by omega);obtain⟨z,hz⟩ :∃z:Int,zbv .shr (.i .i64 n) (.i .u64 6)=some (.i .i64 z):=⟨_,rfl⟩
 obtain⟨k,hk,hke⟩ :=zfW z 7 (by omega);have he':zbv .and (.i .i64 n) (.i .i64 65535)=some (.i .i64 r):=he;have hke':zbv .and (.i .i64 z) (.i .i64 7)=some (.i .i64 k):=hke;have hrem:=zgg r 18 (by omega);rw[show((18:Nat):Int)=18 from rfl]at hrem;have hpl:poL.length=18:=rfl;have hj:r%18<poL.length:=by rw[hpl];exact Nat.mod_lt _ (by omega)
 generalize r%18=j at hrem hj;obtain⟨c,hc,p,hp,h38⟩ :=pick rdO hj k;have hp2:∀h:j<poL.length,poL[j]=[.s p]:=fun h=>by
  rw[List.getElem?_eq_getElem h]at hp;exact Option.some.inj hp
 simp only[cqE]at h38;rw[hpl]at hj;have q77:=fun k=>zak (k:=k) ans77
 have q38:=fun k=>zak (k:=k) h38
 refine⟨c,hc,za1 fn39 ?_⟩;simp only[g39,rU];simp -implicitDefEqProofs [rR,st0,zae,q77,he',hz,hke',hrem,hp,hpl,hp2,hj,q38,cqE,zaV,zaW]
theorem ans5(n:Int):∃c,CqN 2 c/\Ans pr 5 [.i .i64 n] (.ag (cqF c)):=by
 obtain⟨c,hc,h24⟩ :=zH0 n;have hcN:=zzs c hc;obtain⟨z,hz⟩ :∃z:Int,zbv .shr (.i .i64 n) (.i .u64 12)=some (.i .i64 z):=⟨_,rfl⟩
 obtain⟨y,hy⟩ :∃z:Int,zbv .shr (.i .i64 n) (.i .u64 4)=some (.i .i64 z):=⟨_,rfl⟩
 obtain⟨k,hk,hke⟩ :=zfW z 3 (by omega);have hke':zbv .and (.i .i64 z) (.i .i64 3)=some (.i .i64 k):=hke;obtain⟨c2,hc2,h24b⟩ :=zH0 y;have hcN2:=zzs c2 hc2
 by_cases h3:k=3
 ·subst h3;have h6:=ans6 c c2 (hcN.sm (by omega)) (hcN2.sm (by omega)) hcN.ne hcN2.ne;refine⟨zhs c c2,hcN.and hcN2,?_⟩;simp only[cqE]at h24 h24b h6⊢;have q1:=fun k=>zak (k:=k) h24
  have q2:=fun k=>zak (k:=k) h24b
  have q3:=fun k=>zak (k:=k) h6
  refine za1 fn5 ?_;simp only[g5,rU];simp -implicitDefEqProofs [rR,st0,zae,q1,hz,hke',zaV,zaW];refine zay ?_;simp -implicitDefEqProofs [rR,zae,q2,q3,hy,zaV,zaW]
 ·refine⟨c,hcN.mono (by omega),?_⟩;have h3':¬((k:Int)=3):=by omega
  simp only[cqE]at h24⊢;have q1:=fun k=>zak (k:=k) h24
  refine za1 fn5 ?_;simp only[g5,rU];simp -implicitDefEqProofs [rR,st0,zae,q1,hz,hke',h3',zaV,zaW]
theorem atZ{x:F}(hx:zgt x):∃z:Nat->Nat,∀i,i<1000->z i<100000/\Ans pr 36 [x,.i .i64 i] (.i .i64 (z i)):=by
 have:∀i:Nat,∃n:Nat,i<1000->n<100000/\Ans pr 36 [x,.i .i64 i] (.i .i64 n):=fun i=>by
  by_cases hi:i<1000
  ·obtain⟨n,h⟩ :=ans36 hx i hi;exact⟨n,fun _=>h⟩
  ·exact⟨0,fun h=>absurd h hi⟩
 exact Classical.skolem.1 this
theorem zjs{x:F}(hx:zgt x):x.d= .f x:=by
 rcases hx with rfl|⟨zs,rfl⟩
 ·rfl
 ·rfl
theorem zmF{h:T Ob}{lo c id:Nat}{l:List Str}(hl:l≠[])(hg:h.get id=some (.arr 1 0 (zbq l)))(h1:lo≤id)(h2:id<c):Own h lo c (.sl id 0 l.length 1 l.length true) (zas l):=by
 refine⟨.inr ⟨_,_,_,_,_,_,rfl⟩,rfl,fun x hx=> ?_,fun h' hh k=>⟨[id],?_⟩⟩
 ·simp only[D.oid,Option.some.injEq]at hx;omega
 ·rw[zgy,hh id rfl,hg,zdU,zfG];simp only[true_and,Nat.zero_add,zbn,Nat.le_refl,if_true,List.drop_zero,zgQ,zeF,zdU];rw[zk9 hl]
def XQ(x:F)(hd:List Str)(L:List CQ)(P:Nat)(s:St):Prop:=∃d dh,(s.tm.get 0=some (.f x)/\s.tm.get 2=some (.ptr 0 2 0 0)/\s.tm.get 3=some (.ptr 1 2 0 0)/\s.h.get 0=some (.arr 2 0 [[.f .nils,.f .nils]])/\s.h.get 1=some (.arr 2 0 [[dh,d]]))/\2≤P/\P≤s.c/\Own s.h 2 P dh (zas hd)/\Gro s.h P s.c 2 d (zcm L)
def b13:C:= .seq (oD [oM 12 4,oM 13 0,oR 14 (.callp 36 [(.t 13),(.k (.i .i64 1))]),oR 15 (.bin .rem (.t 14) (.k (.i .i64 3))),oR 16 (.bin .leq (.t 12) (.t 15))] 16 .skip (.exit 0))
 (.seq (.blk 1 (.dreg [(oF 19 1 3,0),(oK 20 1 19,0),(oM 21 0,3),(oM 22 4,7),(oR 23 (.bin .add (.k (.i .i64 2)) (.t 22)),7),(oR 24 (.callp 36 [(.t 21),(.t 23)]),3),(oR 25 (.callp 39 [(.t 24)]),3),(oR 26 (.bsf 2 [.nils,.nils] 1 [(0,(.t 25))]),3),(oR 27 (.app 2 48 (.t 20) (.t 26)),0),(oF 28 1 3,0),(oS 1 28 27,0)]))
 (.reg [oM 17 4,oR 18 (.bin .add (.t 17) (.k (.i .i64 1))),oM 4 18]))
theorem zpx(cf:Nat->CQ)(n:Nat):(List.range (n+1)).map cf=(List.range n).map cf++[cf n]:=by
 rw[List.range_succ,List.map_append];rfl
theorem lp13{x:F}(hx:zgt x){z:Nat->Nat}(hz:∀i,i<1000->z i<100000/\Ans pr 36 [x,.i .i64 i] (.i .i64 (z i))){cf:Nat->CQ}(hcf:∀i,i<10->Ans pr 39 [.i .i64 (z (2+i))] (.ag (cqF (cf i)))){hd:List Str}{P:Nat}{Q:Ex->St->Prop}(s:St)(h:XQ x hd [] P s)(h4:s.tm.get 4=some (.f (.i .i64 0)))(hQ:∀s,XQ x hd ((List.range (z 1%3+1)).map cf) P s->Q (.exit 0) s):WL pr b13 s Q:=by
 have h36:Ans pr 36 [x,.i .i64 1] (.i .i64 (z 1)):=(hz 1 (by omega)).2;have q36:=fun k=>zak (k:=k) h36
 have hrem:=zgg (z 1) 3 (by omega);rw[show((3:Nat):Int)=3 from rfl]at hrem;have hm:z 1%3<3:=Nat.mod_lt _ (by omega);generalize z 1%3=m at hrem hm hQ;refine zcu (fun k s=>∃n:Nat,(k=m+1 - n/\n≤m+1)/\XQ x hd ((List.range n).map cf) P s/\s.tm.get 4=some (.f (.i .i64 n))) (fun e s=>e= .exit 0/\XQ x hd ((List.range (m+1)).map cf) P s) ?_ (m+1) _ ⟨0,⟨rfl,by omega⟩,h,h4⟩ (by rintro e s ⟨rfl,h⟩;exact hQ s h);clear h h4 hQ s;rintro k s ⟨n,⟨rfl,hn⟩,⟨d,dh,⟨h0,h2,h3,g0,g1⟩,hP,hPc,hO,hg⟩,h4⟩;unfold b13;simp only[rU]
 by_cases hle:n≤m
 ·have h36n:=(hz (2+n) (by omega)).2;rw[Int.natCast_add,show((2:Nat):Int)=2 from rfl]at h36n;have q36n:=fun k=>zak (k:=k) h36n
  have q39:=fun k=>zak (k:=k) (hcf n (by omega))
  have hw:=zao n (by omega);have hw2:IntKind.i64.wrap (2+(n:Int))=2+(n:Int):=wrap_i64 _ (by omega) (by omega);simp only[cqE]at q39;simp[rW,h0,h2,h3,g0,g1,h4,q36,hrem,hle];refine zay ?_;simp[rW,h0,h2,h3,g0,g1,h4,hw2,q36n,q39,cqE,zaV,zaW];refine zgc (zcb hg (by omega) fun _ _ _=>rfl) (by omega) (by rw[zcf];simp;omega) (by omega) ?_;intro r hr1 hr2 hr3 hr4 hr5;have e0:=hr4 0 (by omega) (zbQ hg (by omega));have e1:=hr4 1 (by omega) (zbQ hg (by omega));rw[g0]at e0;rw[g1]at e1;refine⟨hr1,?_⟩;simp[rW,e1,zcS hr2];rw[zbh];refine⟨m+1 - (n+1),by omega,n+1,⟨rfl,by omega⟩,⟨r.d,dh,?_,hP,?_,?_,?_⟩,?_⟩
  ·simp[rW,h0,h2,h3,e0,e1]
  ·simp[rW,];omega
  ·refine hO.up (fun y hy=> ?_) (Nat.le_refl _) (Nat.le_refl _);have hy2:=hO.2.2.1 y hy;have e:=hr4 y (by omega) (zbQ hg (by omega));have ny:¬(y=1):=by omega
   simp[rW,ny,e]
  ·rw[zpx,zjm];refine zcb hr2 (by simp[rW,];omega) fun y h1 h2=> ?_
   have ny:¬(y=1):=by omega
   simp[rW,ny]
  ·simp[rW,hw]
 ·have e:n=m+1:=by omega
  subst e;have hl:¬((m:Int)+1≤m):=by omega
  simp[rW,h0,h2,h3,g0,g1,h4,q36,hrem,hl];refine⟨d,dh,?_,hP,?_,?_,?_⟩
  ·simp[rW,h0,h2,h3,g0,g1]
  ·simp[rW,];exact hPc
  ·simp[rW,];exact hO
  ·simp[rW,];exact hg
theorem zq3{x:F}{hd:List Str}{L:List CQ}{P:Nat}{s:St}(h:XQ x hd L P s):∃d dh,(s.tm.get 2=some (.ptr 0 2 0 0)/\s.tm.get 3=some (.ptr 1 2 0 0)/\s.h.get 0=some (.arr 2 0 [[.f .nils,.f .nils]])/\s.h.get 1=some (.arr 2 0 [[dh,d]]))/\d.cells=some [d]/\dh.cells=some [dh]/\(∃rd,frz (s.h.set 0 (.arr 2 0 [[dh,d]])).get 11 d=some (qsF L,rd))/\(∃rd,frz (s.h.set 0 (.arr 2 0 [[dh,d]])).get 11 dh=some (zas hd,rd))/\2≤s.c:=by
 obtain⟨d,dh,⟨h0,h2,h3,g0,g1⟩,hP,hPc,hO,hg⟩ :=h;have hh2:∀y,y≠0->(s.h.set 0 (.arr 2 0 [[dh,d]])).get y=s.h.get y:=fun y hy=>by simp[Vse.T.zab,hy]
 exact⟨d,dh,⟨h2,h3,g0,g1⟩,zcS hg,hO.2.1,ziI (k:=10) (zcb (h':=s.h.set 0 (.arr 2 0 [[dh,d]])) hg (Nat.le_refl _) (fun y h1 _=>hh2 y (by omega))) (ziZ _ 9 _) (by simp[zcm]),hO.2.2.2 _ (fun y hy=>hh2 y (by have:=hO.2.2.1 y hy;omega)) 9,by omega⟩
theorem clF{cf:Nat->CQ}(h:∀i,cf i∈CQl)(n:Nat):∀c∈(List.range n).map cf,CqN 1 c:=by
 intro c hc;obtain⟨i,_,rfl⟩ :=List.mem_map.1 hc;exact zzs _ (h i)
def QN(l:List CQ):Prop:=l≠[]/\l.length≤3/\∀c∈l,CqN 1 c
theorem ans13{x:F}(hx:zgt x):∃hd l,hd.length<10/\QN l/\Ans pr 13 [x] (.ag [zas hd,qsF l]):=by
 obtain⟨z,hz⟩ :=atZ hx;obtain⟨cf,hcf⟩ :=Classical.skolem.1 fun i=>ans39 (z (2+i))
 have h0:Ans pr 36 [x,.i .i64 0] (.i .i64 (z 0)):=(hz 0 (by omega)).2;have q0:=fun k=>zak (k:=k) h0
 have hrem:=zgg (z 0) 2 (by omega);rw[show((2:Nat):Int)=2 from rfl]at hrem;have hr2:z 0%2<2:=Nat.mod_lt _ (by omega);generalize z 0%2=r at hrem hr2;have hm:z 1%3<3:=Nat.mod_lt _ (by omega);have hc2:(D.f x).cells=some [.f x]:=by rcases hx with rfl|⟨zs,rfl⟩ <;>rfl
 refine⟨if r=1 then[[120]]else[],(List.range (z 1%3+1)).map cf,by split<;>simp,⟨by simp,by simp;omega,clF (fun i=>(hcf i).1) _⟩,za1 fn13 ?_⟩;simp only[g13,rU]
 by_cases h1:r=1
 ·have h1':((r:Int)=1):=by omega
  rw[if_pos h1];simp[rW,st0,zae,zjs hx,q0,hrem,h1',hc2];refine lp13 hx hz (fun i _=>(hcf i).2) (P:=3) (hd:=[[120]]) _ ⟨.f .nils,.sl 2 0 1 1 1 true,?_,by omega,?_,zmF (l:=[[120]]) (by simp) (by simp[rW,zbq]) (by omega) (by omega),.inl ⟨rfl,rfl⟩⟩ ?_ fun s h=> ?_
  ·simp[rW,]
  ·simp[rW,]
  ·simp[rW,]
  ·obtain⟨d,dh,⟨h2,h3,g0,g1⟩,c1,c2,⟨rd,z1⟩,⟨rd2,z2⟩,hc⟩ :=zq3 h;simp[rW,h2,h3,g0,g1,c1,c2,z1,z2];omega
 ·have h1':¬((r:Int)=1):=by omega
  rw[if_neg h1];simp[rW,st0,zae,zjs hx,q0,hrem,h1',hc2];refine lp13 hx hz (fun i _=>(hcf i).2) (P:=2) (hd:=[]) _ ⟨.f .nils,.f .nils,?_,by omega,?_,zrA (rows:=[]) (.inl ⟨rfl,rfl⟩),.inl ⟨rfl,rfl⟩⟩ ?_ fun s h=> ?_
  ·simp[rW,]
  ·simp[rW,]
  ·simp[rW,]
  ·obtain⟨d,dh,⟨h2,h3,g0,g1⟩,c1,c2,⟨rd,z1⟩,⟨rd2,z2⟩,hc⟩ :=zq3 h;simp[rW,h2,h3,g0,g1,c1,c2,z1,z2];omega
end Go.Proofs.YtimgcabgophnfaaGreat
end
