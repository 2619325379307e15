/- Homomorphisms between the queries of the table. Written by program. -/
import Derived.Test.YtbhholaillniiaaGreatDoorPx
import Derived.Test.YtbhholaillniiaaGreatDoorPy
import Derived.Test.YtbhholaillniiaaGreatDoorPz
import Derived.Test.YtbhholaillniiaaGreatDoorPza
import Derived.Test.YtbhholaillniiaaGreatDoorPw
import Derived.KernelRfl
import Derived.IntWalk
import Derived.Test.YtbhholaillniiaaGreatDoorPo
set_option linter.all false
set_option maxRecDepth 100000
set_option maxHeartbeats 4000000
noncomputable section
section
namespace Go.Proofs.YtbhholaillniiaaGreatDoor
open Go Go.Vse Go.Vse.Sm
def exb0:zat (fun i=>zat (fun j=>Ans pr 22 [.ag (cqF (cqN i)),.ag (cqF (cqN j)),zah (hdC false)] (.b (exI false i j))) (ixL false)) (ixL false):=⟨ex0_0,ex0_1,ex0_2,ex0_3,ex0_4,ex0_5,ex0_6,ex0_7,ex0_8,ex0_9,zNw,zNx,zNz,zNA,zNB,zNC,zND,zNF,zNG,zNK,zNL,zNQ,zNR,zNS,trivial⟩
def exb1:zat (fun i=>zat (fun j=>Ans pr 22 [.ag (cqF (cqN i)),.ag (cqF (cqN j)),zah (hdC true)] (.b (exI true i j))) (ixL true)) (ixL true):=⟨ex1_0,ex1_1,ex1_2,ex1_3,ex1_4,ex1_5,ex1_6,ex1_7,ex1_8,ex1_9,zNT,zNU,zNV,zNW,zNX,zN1,zN3,zN5,zN7,zOa,zOc,zOd,zOi,trivial⟩
theorem exA:∀{b:Bool} {i j:Nat},i<nH b->j<nH b->Ans pr 22 [.ag (cqF (cqN i)),.ag (cqF (cqN j)),zah (hdC b)] (.b (exI b i j))
 |false,i,j,h,h2=>allL (allL exb0 i (Z174.2 h)) j (Z174.2 h2)
 |true,i,j,h,h2=>allL (allL exb1 i (Z174.2 h)) j (Z174.2 h2)
end Go.Proofs.YtbhholaillniiaaGreatDoor
end
section
namespace Go.Proofs.YtbhholaillniiaaGreatDoor
open Go Go.Vse Go.Vse.Sm
def ixP{α:Type}(l:List α)(p:α->Bool):Int:=match l.findIdx? p with
 |some n=>n
 |none=> -1
def zHW{α:Type}{l:List α}{p:α->Bool}(h:∀a∈l,p a=false):ixP l p= -1:=by
 have:l.findIdx? p=none:=Z43.2 h;simp[ixP,this]
def zOR{α:Type}{l:List α}{p:α->Bool}{n:Nat}(h:n<l.length)(h1:p l[n]=true)(h2:∀m (h':m<n),p (l[m]'(by omega))=false):ixP l p=n:=by
 have:l.findIdx? p=some n:=by
  rw[Z26];exact⟨h,h1,fun j hj=>by simpa using h2 j hj⟩
 simp[ixP,this]
def zON{α:Type}(l:List α)(p:α->Bool):decide (ixP l p≥0)=l.any p:=by
 cases h:l.any p with
 |true=>
  unfold ixP;cases h2:l.findIdx? p with
  |some n=>simp
  |none=>rw[Z43]at h2;simp at h;obtain⟨x,hx,hp⟩ :=h;rw[h2 x hx]at hp;cases hp
 |false=>
  have:=zHW (l:=l) (p:=p) (by simpa using h);simp[this]
def fn6:pr.fn 6=some g6:=by kernel_rfl
def fn8:pr.fn 8=some g8:=by kernel_rfl
def fn20:pr.fn 20=some g20:=by kernel_rfl
def fn26:pr.fn 26=some g26:=by kernel_rfl
def fn51:pr.fn 51=some g51:=by kernel_rfl
def zlR:∀(l:List (Nat×Option Ob)) (m:Nat),zdG m l<=m:=fun l m=>(zgK l m).1
def QOk(b:Bool)(l:List Nat):Prop:=(∀i∈l,i<nH b)/\l.length<1000
def cqs(l:List Nat):List CQ:=l.map cqN
def zbY(l:List Nat):(cqs l).length=l.length:=by simp[cqs]
def zgN(l:List Nat)(n:Nat):(cqs l)[n]? =(l[n]?).map cqN:=by simp[cqs]
def zi6(b:Bool)(l m:List Nat):Bool:=l.all fun d=>m.any fun c=>exI b c d
def zOE(b:Bool):(hdC b).length<100000:=by cases b<;>simp[hdC]
def cqD(c:CQ):List D:=[.f (zcz c),.f (zcQ c)]
theorem ro26{b:Bool}{i j:Nat}(hi:i<nH b)(hj:j<nH b){h:T Ob}{k X Y:Nat}{y:D}(gX:h.get X=some (.arr 2 0 [cqD (cqN j)]))(gY:h.get Y=some (.arr 2 0 [[.f (zah (hdC b)),y]]))(hX:X<k)(hY:Y<k):
  RO pr 26 [.ag (cqD (cqN i)),.ptr X 2 0 0,.ptr Y 2 0 0] h k (.f (.b (exI b i j))):=by
 refine zia zfC fn26 rfl ?_;simp only[g26,rU];have nX:¬X=k:=by omega
 have nY:¬Y=k:=by omega
 have q:=fun j=>zad (k:=j) (exA hi hj)
 simp only[cqE]at q;unfold cqD at gX;simp[rW,st0,zal,cqD,gX,gY,nX,nY,zfZ,zf1,za4,q,ze8];simp (disch:=omega) only[zib,ziy]
theorem ro51(l:List Nat)(p:Nat->Bool)(hl:l.length<100000){h:T Ob}{c g:Nat}{cap:List D}(hcl:∀n (hn:n<l.length),RO pr g (.ag (cqD (cqN l[n]))::cap) h c (.f (.b (p l[n])))):
  RO pr 51 [.f (qsF (cqs l)),.fn g [] cap] h c (.f (.i .i64 (ixP l p))):=by
 refine zia zfC fn51 rfl ?_;simp only[g51,rU];simp[rW,st0,zal,zcS,zbY];refine zsA l p (fun n s=>s.tm.get 0=some (.f (qsF (cqs l)))/\s.tm.get 1=some (.fn g [] cap)/\s.tm.get 7=some (.f (.i .i64 l.length))/\s.tm.get 8=some (.f (.i .i64 n))/\s.h=h/\s.c=c/\s.lw=c) (fun x s=>x= .exit 0/\s.lw=c) (fun n y s=>y= .ret/\s.tm.get 4=some (.f (.i .i64 n))/\s.lw=c) ?_ ?_ _ ?_ ?_ ?_
 .rintro n s hn ⟨h0,h1,h7,h8,eh,ec,el⟩;have hw:=zau n (by omega);have hp:=hcl n hn;generalize hA:l[n]=A at hp|-;have hA':(cqs l)[n]? =some (cqN A):=by rw[zgN,Z0 hn,hA];rfl
  simp[rW,h0,h1,h7,h8,hn,zgu,hA',hA,cqE];refine ziO (d:= .f (.b (p A))) ?_ ?_ ?_
  .simp only[rG];rw[eh,ec];exact hp
  .simp only[rG];omega
  .intro mx;cases hb:p A with
   |true=>simp[rW,h0,h1,h7,h8,el]
   |false=>simp[rW,h0,h1,h7,h8,hw,eh,ec,el]
 .rintro s ⟨h0,h1,h7,h8,eh,ec,el⟩;simp[rW,h0,h1,h7,h8,el]
 .simp[rW,st0,zal]
 .rintro h z s ⟨rfl,el⟩;rw[zHW h];simp[rW,ze8,el]
 .rintro n hn hp hm z s ⟨rfl,h4,el⟩;rw[zOR hn hp hm];simp[rW,h4,ze8,el]
theorem ro20(l:List Nat)(p:Nat->Bool)(hl:l.length<100000){h:T Ob}{c g:Nat}{cap:List D}(hcl:∀n (hn:n<l.length),RO pr g (.ag (cqD (cqN l[n]))::cap) h c (.f (.b (p l[n])))):
  RO pr 20 [.f (qsF (cqs l)),.fn g [] cap] h c (.f (.b (l.any p))):=by
 refine zia zfC fn20 rfl ?_;simp only[g20,rU];rw[<-zON l p];simp[rW,st0,zal];refine ziO (d:= .f (.i .i64 (ixP l p))) ?_ ?_ ?_
 .simp only[rG];exact ro51 l p hl hcl
 .simp only[rG];omega
 .intro mx;simp[rW,ze8]
def nIn(b:Bool)(m:List Nat)(d:Nat):Bool:=!(m.any fun c=>exI b c d)
def P0(b:Bool)(l m:List Nat)(n:Nat)(s:St):Prop:=(s.tm.get 2=some (.ptr 0 2 0 0)/\s.tm.get 3=some (.ptr 1 2 0 0)/\s.tm.get 14=some (.f (qsF (cqs l)))/\s.tm.get 15=some (.f (.i .i64 l.length))/\s.tm.get 16=some (.f (.i .i64 n))/\s.h.get 0=some (.arr 2 0 [[.f (zah (hdC b)),.f (qsF (cqs l))]])/\s.h.get 1=some (.arr 2 0 [[.f (zah (hdC b)),.f (qsF (cqs m))]]))/\2<=s.c/\s.lw<=s.c
def zEo{b:Bool}{l m:List Nat}(hl:QOk b l)(hm:QOk b m):Ans pr 8 [.ag [zah (hdC b),qsF (cqs l)],.ag [zah (hdC b),qsF (cqs m)]] (.b (zi6 b l m)):=by
 refine zcx fn8 ?_;simp only[g8,rU];have q40:=fun k=>zad (k:=k) (ans25 (hdC b) (hdC b) (zOE b))
 rw[decide_eq_true rfl]at q40;unfold zi6;simp[rW,st0,zal,za4,zd5,q40,zcS,zbY];refine zsA l (nIn b m) (fun n s=>P0 b l m n s) (fun x s=>x= .exit 0) (fun n y s=>y= .ret/\s.tm.get 4=some (.f (.b false))) ?_ ?_ _ ?_ ?_ ?_
 .rintro n s hn ⟨⟨h2,h3,h14,h15,h16,g0,g1⟩,hc2,hlw⟩;have hw:=zau n (by have:=hl.2;omega);have hsd:=hl.1 _ (Z1 hn);generalize hA:l[n]=A at hsd|-;have hA':(cqs l)[n]? =some (cqN A):=by rw[zgN,Z0 hn,hA];rfl
  have n0:¬(0=s.c):=by omega
  have n1:¬(1=s.c):=by omega
  simp[rW,h2,h3,h14,h15,h16,g0,g1,hn,zgu,hA',hA,cqE,n0,n1];refine ziO (d:= .f (.b (m.any fun c=>exI b c A))) (ro20 m (fun c=>exI b c A) (by have:=hm.2;omega) fun k hk=> ?_) ?_ ?_
  .refine ro26 (hm.1 _ (Z1 hk)) hsd (y:= .f (qsF (cqs l))) ?_ ?_ ?_ ?_
   .simp only[rG];simp[TG,cqD]
   .simp only[rG];simp[TG,n0,g0]
   .simp only[rG];omega
   .simp only[rG];omega
  .simp only[rG]
   (repeat refine Z3 (zlR _ _) ?_)
   omega
  .intro mx;cases hb:m.any fun c=>exI b c A with
   |true=>
    have e:nIn b m A=false:=by unfold nIn;rw[hb];rfl
    simp[rW,h2,h3,h14,h15,h16,g0,g1,e,hw,n0,n1,P0];refine⟨by omega,?_⟩
    (repeat refine Z3 (zlR _ _) ?_)
    omega
   |false=>
    have e:nIn b m A=true:=by unfold nIn;rw[hb];rfl
    simp[rW,h2,h3,h14,h15,h16,g0,g1,e,hw,n0,n1]
 .rintro s ⟨⟨h2,h3,h14,h15,h16,g0,g1⟩,hc2,hlw⟩;simp[rW,h2,h3,h14,h15,h16,g0,g1]
 .simp[rW,P0];simp[zdG]
 .rintro h z s rfl;have e:(l.all fun d=>m.any fun c=>exI b c d)=true:=Z50.2 fun x hx=>by simpa [nIn]using h x hx
  rw[e];simp[rW]
 .rintro n hn hp hm z s ⟨rfl,h4⟩;have e:(l.all fun d=>m.any fun c=>exI b c d)=false:=Z143.2 ⟨l[n],Z1 hn,by simpa [nIn]using hp⟩;rw[e];simp[rW,h4]
def ans6{b:Bool}{l m:List Nat}(hl:QOk b l)(hm:QOk b m)(h1:zi6 b l m=true)(h2:zi6 b m l=true):Ans pr 6 [.ag [zah (hdC b),qsF (cqs l)],.ag [zah (hdC b),qsF (cqs m)]] (.b true):=by
 have q1:=fun k=>zad (k:=k) (zEo hl hm)
 have q2:=fun k=>zad (k:=k) (zEo hm hl)
 rw[h1]at q1;rw[h2]at q2;refine zcx fn6 ?_;simp only[g6,rU];simp[rW,st0,zal,za4,zd5,q1,q2]
def rwC(X:List (List F)):List F:=[.sl 3 X,.nils]
def cc00:Ans pr 19 [.sl 1 [[.sl 2 []],[.sl 2 []]]] .nils:=rA
def cc10(X:List (List F)):Ans pr 19 [.sl 1 [[.sl 2 [rwC X]],[.sl 2 []]]] (.sl 2 [rwC X]):=rA
def cc01(X:List (List F)):Ans pr 19 [.sl 1 [[.sl 2 []],[.sl 2 [rwC X]]]] (.sl 2 [rwC X]):=rA
def cc11(X Y:List (List F)):Ans pr 19 [.sl 1 [[.sl 2 [rwC X]],[.sl 2 [rwC Y]]]] (.sl 2 [rwC X,rwC Y]):=rA
def cc20(X Y:List (List F)):Ans pr 19 [.sl 1 [[.sl 2 [rwC X,rwC Y]],[.sl 2 []]]] (.sl 2 [rwC X,rwC Y]):=rA
def cc02(X Y:List (List F)):Ans pr 19 [.sl 1 [[.sl 2 []],[.sl 2 [rwC X,rwC Y]]]] (.sl 2 [rwC X,rwC Y]):=rA
def rwA{i:Nat}(h:i<nH false):∃X,cqF (cqN i)=rwC X:=allL (P:=fun i=>∃X,cqF (cqN i)=rwC X) (l:=ixL false) ⟨⟨_,rfl⟩,⟨_,rfl⟩,⟨_,rfl⟩,⟨_,rfl⟩,⟨_,rfl⟩,⟨_,rfl⟩,⟨_,rfl⟩,⟨_,rfl⟩,⟨_,rfl⟩,⟨_,rfl⟩,⟨_,rfl⟩,⟨_,rfl⟩,⟨_,rfl⟩,⟨_,rfl⟩,⟨_,rfl⟩,⟨_,rfl⟩,⟨_,rfl⟩,⟨_,rfl⟩,⟨_,rfl⟩,⟨_,rfl⟩,⟨_,rfl⟩,⟨_,rfl⟩,⟨_,rfl⟩,⟨_,rfl⟩,trivial⟩ i (Z174.2 h)
def zh7{b:Bool}{i:Nat}(h:i<nH b):i<nH false:=by cases b<;>simp[nH]at h|- <;>omega
def zf6(a b:Nat)(hb:b≠0)(ha:a<1000000):zaH .quo (.i .i64 a) (.i .i64 b)=some (.i .i64 ((a/b:Nat):Int)):=by
 have:=Nat.div_le_self a b;rw[zJC _ _ (by omega),show(a:Int).tdiv b=((a/b:Nat):Int)from rfl];generalize a/b=q at*;rw[wrap_i64 _ (by omega) (by omega)]
def zJq(a b:Nat)(ha:a<1000000)(hb:b<1000000):IntKind.i64.wrap ((a:Int)+b)=((a+b:Nat):Int):=by
 rw[wrap_i64 _ (by omega) (by omega)];omega
def ziz{x:F}(hx:zdg x)(i:Nat)(hi:i<1000):∃n:Nat,n<100000/\Ans pr 15 [x,.i .i64 i] (.i .i64 n):=by
 obtain⟨r0,hr0,he0⟩ :=zi2 i 65535 (by omega);have he0':zaH .and (.i .i64 i) (.i .i64 65535)=some (.i .i64 r0):=he0;have nil:zcp (.f .nils)=some 0:=rfl
 by_cases hz:x= .nils\/x= .sl 1 []
 .refine⟨r0,by omega,zcx fn15 ?_⟩;simp only[g15,rU];rcases hz with rfl|rfl
  .simp[rW,st0,zal,he0']
  .simp[rW,st0,zal,he0',F.d]
 .rcases hx with rfl|⟨zs,rfl⟩
  .exact absurd (.inl rfl) hz
  .have hz:zs≠[]:=fun e=>hz (.inr (by rw[e];rfl))
   have hlen:0<zs.length:=Z129.2 hz;have hn0:¬zs.length=0:=by omega
   have hni:¬((zs.length:Int)=0):=by omega
   have hmod:i%zs.length<zs.length:=Z124 _ hlen;have hrem:=zc7 i zs.length hn0;have hquo:=zf6 i zs.length hn0 (by omega);have hdl:i/zs.length<=i:=Nat.div_le_self _ _;generalize i%zs.length=m at hmod hrem;generalize i/zs.length=d at hquo hdl;obtain⟨r,hr,he⟩ :=zi2 zs[m] 65535 (by omega);have he':zaH .and (.i .i64 zs[m]) (.i .i64 65535)=some (.i .i64 r):=he;have hx:zs[m]? =some zs[m]:=Z0 hmod;have hw:=zJq r d (by omega) (by omega);refine⟨r+d,by omega,zcx fn15 ?_⟩;simp only[g15,rU];simp[rW,st0,zal,hni,hn0,F.d];refine zay ?_;simp[rW,st0,zal,hrem,hquo,hmod,he',hx,hw,F.d]
def bin8(a b:Int):zaH .eql (.i .u8 a) (.i .u8 b)=some (.b (a==b)):=rfl
def zCr{R:Str}(h:R≠[]):hd8 (byE R)=true:=by
 cases R with
 |nil=>exact absurd rfl h
 |cons a l=>rfl
def JR(r z:Nat)(p:Str)(n:Nat)(s:St):Prop:=(s.tm.get 1=some (.f (.i .i64 z))/\s.tm.get 4=some (.ptr 0 2 0 0)/\s.tm.get 5=some (.sl 1 0 p.length 1 p.length false)/\s.tm.get 6=some (.f (.i .i64 n))/\s.h.get 0=some (.arr 2 0 [[.f .nils,.f .nils]])/\s.h.get 1=some (.arr 1 0 (byE ((p.take n).map (rb r)++p.drop n))))/\2<=s.c
def ans46(p:Str)(z:Nat)(c:CQ)(hp:p≠[])(hl:p.length<1000)(h:Ans pr 81 [.s (p.map (rb (z%3)))] (.tu [.ag [.nils,.sl 2 [cqF c]],.i .i64 0])):Ans pr 46 [.s p,.i .i64 z] (.ag (cqF c)):=by
 refine zcx fn46 ?_;simp only[g46,rU];have hs2b:=fun h c=>v_s2b (h:=h) (c:=c) hp
 have hrem:=zc7 z 3 (by omega);rw[show((3:Nat):Int)=3 from rfl]at hrem;have hr3:z%3<3:=Z124 _ (by omega);generalize z%3=r at h hrem hr3;have q76:=fun k=>zad (k:=k) h
 have hbl:∀n,((p.take n).map (rb r)++p.drop n).length=p.length:=fun n=>by simp;omega
 simp[rW,st0,zal,o_s2b,zPN,hs2b];refine zHJ p (fun(x:Unit) _=>x) () (fun n _ s=>JR r z p n s) (fun x s=>x= .exit 0/\JR r z p p.length s) ?_ ?_ _ ?_ ?_
 .rintro n a s hn - ⟨⟨h1,h4,h5,h6,g0,g1⟩,hc⟩;have hw:=zau n (by omega);have hL:=hbl n;have hx:((p.take n).map (rb r)++p.drop n)[n]? =some p[n]:=by
   rw[Z62 (by simp;omega)];simp[hn,Z73 (Z110 hn)]
  have hnx:(p.take (n+1)).map (rb r)++p.drop (n+1)=((p.take n).map (rb r)++p.drop n).set n (rb r p[n]):=by
   have e:n - (List.map (rb r) (List.take n p)).length=0:=by simp;omega
   rw[Z112 _ _ (by simp;omega),e,Z6 hn,Z55 hn,Z20,Z32];rfl
  generalize hR:(p.take n).map (rb r)++p.drop n=R at*;have hbe:(byE R)[n]? =some [D.f (.i .u8 p[n].toNat)]:=by simp[byE,hx]
  have hbn:(byE R).length=p.length:=by simp[byE,hL]
  have hbg:∀h:n< (byE R).length,(byE R)[n]=[D.f (.i .u8 p[n].toNat)]:=fun h=>by
   rw[Z0 h]at hbe;exact Z53 hbe
  have hst:(byE R).set n [D.f (.i .u8 (rb r p[n]).toNat)]=byE (R.set n (rb r p[n])):=by
   unfold byE;rw[Z116]
  have hR0:R≠[]:=fun e=>by rw[e]at hL;simp at hL;omega
  have h81:=zCr hR0
  by_cases h64:p[n]=64
  .have hcv:IntKind.u8.wrap (49+(r:Int))=((rb r 64).toNat:Int):=by
    obtain rfl|rfl|rfl:r=0\/r=1\/r=2:=by omega
    all_goals rfl
   have hv:IntKind.i64.wrap (49+(r:Int))=49+(r:Int):=wrap_i64 _ (by omega) (by omega);rw[h64]at hbg hst hnx;have h82:=zCr (R:=R.set n (rb r 64)) (by simpa using hR0);simp[rW,h1,h4,h5,h6,g0,g1,hn,hbg,hbn,hrem,hv,hcv,bin8,hst,h81,h82];refine⟨by omega,⟨?_,?_⟩⟩
   .simp[rW,h1,h4,h5,h6,g0,g1,hw,hnx];rw[<-hnx,Z149]
   .simp[rW,hc]
  .have hne:¬((p[n].toNat:Int)=64):=fun e=>h64 (UInt8.toNat_inj.1 (by have:UInt8.toNat 64=64:=rfl;omega))
   have hrb:rb r p[n]=p[n]:=by unfold rb;rw[Z49 h64]
   rw[hrb,<-Z53 ((Z0 (by omega)).symm.trans hx),Z95]at hnx;simp[rW,h1,h4,h5,h6,g0,g1,hn,hbg,hbn,h64,bin8,hne];refine⟨?_,?_⟩
   .simp[rW,h1,h4,h5,h6,g0,g1,hw,hnx];rw[<-hnx,Z149]
   .simp[rW,hc]
 .rintro s ⟨⟨h1,h4,h5,h6,g0,g1⟩,hc⟩;simp[rW,h1,h4,h5,h6,g0,g1];refine⟨?_,?_⟩
  .simp[rW,h1,h4,h5,h6,g0,g1]
  .simp[rW,hc]
 .refine⟨?_,?_⟩
  .simp[rW]
  .simp[rW]
 .rintro x s ⟨rfl,⟨h1,h4,h5,h6,g0,g1⟩,hc⟩;rw[Z7,Z206,Z22]at g1;have hb2s:=fun(h:Nat->Option Ob) c (hg:h 1=some (.arr 1 0 (byE (p.map (rb r)))))=>v_b2s (c:=c) (lim:=p.length) (ex:=false) hg (len:=p.length) (by simp)
  have n0:¬(0=s.c):=by omega
  have n0':¬(s.c=0):=by omega
  simp only[cqE]at q76|-;simp[rW,h1,h4,h5,h6,g0,g1,zAC,zvu,hb2s,q76,n0,n0',zfZ,zf1]
def fn16:pr.fn 16=some g16:=by kernel_rfl
def pick{C:List CQ}{L:List (List F)}(h:∀x∈L,RdX C x){j:Nat}(hj:j<L.length)(z:Nat):∃c∈C,∃p,L[j]? =some [.s p]/\Ans pr 46 [.s p,.i .i64 z] (.ag (cqF c)):=by
 obtain⟨p,e,h1,h2,h3⟩ :=h L[j] (Z1 hj);obtain⟨c,hc,q⟩ :=h3 (z%3) (Z124 _ (by omega));exact⟨c,hc,p,by rw[Z0 hj,e],ans46 p z c h1 h2 q⟩
def ans16(n:Nat):∃c∈CQp,Ans pr 16 [.i .i64 n] (.ag (cqF c)):=by
 obtain⟨r,hr,he⟩ :=zi2 n 65535 (by omega);obtain⟨z,hz⟩ :∃z:Int,zaH .shr (.i .i64 n) (.i .u64 6)=some (.i .i64 z):=⟨_,rfl⟩
 obtain⟨k,hk,hke⟩ :=zi2 z 7 (by omega);have he':zaH .and (.i .i64 n) (.i .i64 65535)=some (.i .i64 r):=he;have hke':zaH .and (.i .i64 z) (.i .i64 7)=some (.i .i64 k):=hke;have hrem:=zc7 r 18 (by omega);rw[show((18:Nat):Int)=18 from rfl]at hrem;have hpl:poL.length=18:=rfl;have hj:r%18<poL.length:=by rw[hpl];exact Z124 _ (by omega)
 generalize r%18=j at hrem hj;obtain⟨c,hc,p,hp,h38⟩ :=pick rdO hj k;have hp2:∀h:j<poL.length,poL[j]=[.s p]:=fun h=>by
  rw[Z0 h]at hp;exact Z53 hp
 simp only[cqE]at h38;rw[hpl]at hj;have q77:=fun k=>zad (k:=k) ans45
 have q38:=fun k=>zad (k:=k) h38
 refine⟨c,hc,zcx fn16 ?_⟩;simp only[g16,rU];simp -implicitDefEqProofs [rR,st0,zal,q77,he',hz,hke',hrem,hp,hpl,hp2,hj,q38,cqE,zfZ,zf1]
def atZ{x:F}(hx:zdg x):∃z:Nat->Nat,∀i,i<1000->z i<100000/\Ans pr 15 [x,.i .i64 i] (.i .i64 (z i)):=by
 have:∀i:Nat,∃n:Nat,i<1000->n<100000/\Ans pr 15 [x,.i .i64 i] (.i .i64 n):=fun i=>by
  by_cases hi:i<1000
  .obtain⟨n,h⟩ :=ziz hx i hi;exact⟨n,fun _=>h⟩
  .exact⟨0,fun h=>absurd h hi⟩
 exact Z207.1 this
def zpy{x:F}(hx:zdg x):x.d= .f x:=by
 rcases hx with rfl|⟨zs,rfl⟩
 .rfl
 .rfl
def zKH{h:T Ob}{lo c id:Nat}{l:List Str}(hl:l≠[])(hg:h.get id=some (.arr 1 0 (zeb l)))(h1:lo<=id)(h2:id<c):Own h lo c (.sl id 0 l.length 1 l.length true) (zah l):=by
 refine⟨.inr ⟨_,_,_,_,_,_,rfl⟩,rfl,fun x hx=> ?_,fun h' hh k=>⟨[id],?_⟩⟩
 .simp only[D.oid,Z45]at hx;omega
 .rw[zfm,hh id rfl,hg,zdQ,zhB];simp only[true_and,Z25,zlL,Z2,Z60,Z34,zsd,zvR,zdQ];rw[zvS hl]
def XQ(x:F)(hd:List Str)(L:List CQ)(P:Nat)(s:St):Prop:=∃d dh,(s.tm.get 0=some (.f x)/\s.tm.get 2=some (.ptr 0 2 0 0)/\s.tm.get 3=some (.ptr 1 2 0 0)/\s.h.get 0=some (.arr 2 0 [[.f .nils,.f .nils]])/\s.h.get 1=some (.arr 2 0 [[dh,d]]))/\2<=P/\P<=s.c/\Own s.h 2 P dh (zah hd)/\Gro s.h P s.c 2 d (zc1 L)
def b13:C:=g4.body.r.r.r.l.r.b.o
def zAN(cf:Nat->CQ)(n:Nat):(List.range (n+1)).map cf=(List.range n).map cf++[cf n]:=by
 rw[Z136,Z20];rfl
def lp13{x:F}(hx:zdg x){z:Nat->Nat}(hz:∀i,i<1000->z i<100000/\Ans pr 15 [x,.i .i64 i] (.i .i64 (z i))){cf:Nat->CQ}(hcf:∀i,i<10->Ans pr 16 [.i .i64 (z (2+i))] (.ag (cqF (cf i)))){hd:List Str}{P:Nat}{Q:Ex->St->Prop}(s:St)(h:XQ x hd [] P s)(h4:s.tm.get 4=some (.f (.i .i64 0)))(hQ:∀s,XQ x hd ((List.range (z 1%3+1)).map cf) P s->Q (.exit 0) s):WL pr b13 s Q:=by
 have h36:Ans pr 15 [x,.i .i64 1] (.i .i64 (z 1)):=(hz 1 (by omega)).2;have q36:=fun k=>zad (k:=k) h36
 have hrem:=zc7 (z 1) 3 (by omega);rw[show((3:Nat):Int)=3 from rfl]at hrem;have hm:z 1%3<3:=Z124 _ (by omega);generalize z 1%3=m at hrem hm hQ;refine zcJ (fun k s=>∃n:Nat,(k=m+1 - n/\n<=m+1)/\XQ x hd ((List.range n).map cf) P s/\s.tm.get 4=some (.f (.i .i64 n))) (fun e s=>e= .exit 0/\XQ x hd ((List.range (m+1)).map cf) P s) ?_ (m+1) _ ⟨0,⟨rfl,by omega⟩,h,h4⟩ (by rintro e s ⟨rfl,h⟩;exact hQ s h);clear h h4 hQ s;rintro k s ⟨n,⟨rfl,hn⟩,⟨d,dh,⟨h0,h2,h3,g0,g1⟩,hP,hPc,hO,hg⟩,h4⟩;unfold b13 g4;simp only[rU,C.l,C.r,C.b,C.o]
 by_cases hle:n<=m
 .have h36n:=(hz (2+n) (by omega)).2;rw[Int.natCast_add,show((2:Nat):Int)=2 from rfl]at h36n;have q36n:=fun k=>zad (k:=k) h36n
  have q39:=fun k=>zad (k:=k) (hcf n (by omega))
  have hw:=zau n (by omega);have hw2:IntKind.i64.wrap (2+(n:Int))=2+(n:Int):=wrap_i64 _ (by omega) (by omega);simp only[cqE]at q39;simp[rW,h0,h2,h3,g0,g1,h4,q36,hrem,hle];refine zay ?_;simp[rW,h0,h2,h3,g0,g1,h4,hw2,q36n,q39,cqE,zfZ,zf1];refine zfb (zaS hg (by omega) fun _ _ _=>rfl) (by omega) (by rw[zfR];simp;omega) (by omega) ?_;intro r hr1 hr2 hr3 hr4 hr5;have e0:=hr4 0 (by omega) (zfd hg (by omega));have e1:=hr4 1 (by omega) (zfd hg (by omega));rw[g0]at e0;rw[g1]at e1;refine⟨hr1,?_⟩;simp[rW,e1,zbu hr2];rw[zdi];refine⟨m+1 - (n+1),by omega,n+1,⟨rfl,by omega⟩,⟨r.d,dh,?_,hP,?_,?_,?_⟩,?_⟩
  .simp[rW,h0,h2,h3,e0,e1]
  .simp[rW];omega
  .refine hO.up (fun y hy=> ?_) (Z2 _) (Z2 _);have hy2:=hO.2.2.1 y hy;have e:=hr4 y (by omega) (zfd hg (by omega));have ny:¬(y=1):=by omega
   simp[rW,ny,e]
  .rw[zAN,zrG];refine zaS hr2 (by simp[rW];omega) fun y h1 h2=> ?_
   have ny:¬(y=1):=by omega
   simp[rW,ny]
  .simp[rW,hw]
 .have e:n=m+1:=by omega
  subst e;have hl:¬((m:Int)+1<=m):=by omega
  simp[rW,h0,h2,h3,g0,g1,h4,q36,hrem,hl];refine⟨d,dh,?_,hP,?_,?_,?_⟩
  .simp[rW,h0,h2,h3,g0,g1]
  .simp[rW];exact hPc
  .simp[rW];exact hO
  .simp[rW];exact hg
def finQ{x:F}{hd:List Str}{L:List CQ}{P:Nat}{s:St}(h:XQ x hd L P s):∃d dh,(s.tm.get 2=some (.ptr 0 2 0 0)/\s.tm.get 3=some (.ptr 1 2 0 0)/\s.h.get 0=some (.arr 2 0 [[.f .nils,.f .nils]])/\s.h.get 1=some (.arr 2 0 [[dh,d]]))/\d.cells=some [d]/\dh.cells=some [dh]/\(∃rd,frz (s.h.set 0 (.arr 2 0 [[dh,d]])).get 11 d=some (qsF L,rd))/\(∃rd,frz (s.h.set 0 (.arr 2 0 [[dh,d]])).get 11 dh=some (zah hd,rd))/\2<=s.c:=by
 obtain⟨d,dh,⟨h0,h2,h3,g0,g1⟩,hP,hPc,hO,hg⟩ :=h;have hh2:∀y,y≠0->(s.h.set 0 (.arr 2 0 [[dh,d]])).get y=s.h.get y:=fun y hy=>by simp[TG,hy]
 exact⟨d,dh,⟨h2,h3,g0,g1⟩,zbu hg,hO.2.1,zxm (k:=10) (zaS (h':=s.h.set 0 (.arr 2 0 [[dh,d]])) hg (Z2 _) (fun y h1 _=>hh2 y (by omega))) (zlk _ 9 _) (by simp[zc1]),hO.2.2.2 _ (fun y hy=>hh2 y (by have:=hO.2.2.1 y hy;omega)) 9,by omega⟩
def clM{L:List CQ}{cf:Nat->CQ}(h:∀i,cf i∈L)(n:Nat):∀c∈(List.range n).map cf,c∈L:=by
 intro c hc;obtain⟨i,_,rfl⟩ :=Z12.1 hc;exact h i
def QP(l:List CQ):Prop:=l≠[]/\l.length<=3/\∀c∈l,c∈CQp
def ans4{x:F}(hx:zdg x):∃hd l,(hd=[]\/hd=[[120]])/\QP l/\Ans pr 4 [x] (.ag [zah hd,qsF l]):=by
 obtain⟨z,hz⟩ :=atZ hx;obtain⟨cf,hcf⟩ :=Z207.1 fun i=>ans16 (z (2+i))
 have h0:Ans pr 15 [x,.i .i64 0] (.i .i64 (z 0)):=(hz 0 (by omega)).2;have q0:=fun k=>zad (k:=k) h0
 have hrem:=zc7 (z 0) 2 (by omega);rw[show((2:Nat):Int)=2 from rfl]at hrem;have hr2:z 0%2<2:=Z124 _ (by omega);generalize z 0%2=r at hrem hr2;have hm:z 1%3<3:=Z124 _ (by omega);have hc2:(D.f x).cells=some [.f x]:=by rcases hx with rfl|⟨zs,rfl⟩ <;>rfl
 refine⟨if r=1 then[[120]]else[],(List.range (z 1%3+1)).map cf,by split<;>simp,⟨by simp,by simp;omega,clM (fun i=>(hcf i).1) _⟩,zcx fn4 ?_⟩;simp only[g4,rU]
 by_cases h1:r=1
 .have h1':((r:Int)=1):=by omega
  rw[Z51 h1];simp[rW,st0,zal,zpy hx,q0,hrem,h1',hc2];refine lp13 hx hz (fun i _=>(hcf i).2) (P:=3) (hd:=[[120]]) _ ⟨.f .nils,.sl 2 0 1 1 1 true,?_,by omega,?_,zKH (l:=[[120]]) (by simp) (by simp[rW,zeb]) (by omega) (by omega),.inl ⟨rfl,rfl⟩⟩ ?_ fun s h=> ?_
  .simp[rW]
  .simp[rW]
  .simp[rW]
  .obtain⟨d,dh,⟨h2,h3,g0,g1⟩,c1,c2,⟨rd,z1⟩,⟨rd2,z2⟩,hc⟩ :=finQ h;simp[rW,h2,h3,g0,g1,c1,c2,z1,z2];omega
 .have h1':¬((r:Int)=1):=by omega
  rw[Z49 h1];simp[rW,st0,zal,zpy hx,q0,hrem,h1',hc2];refine lp13 hx hz (fun i _=>(hcf i).2) (P:=2) (hd:=[]) _ ⟨.f .nils,.f .nils,?_,by omega,?_,zxR (rows:=[]) (.inl ⟨rfl,rfl⟩),.inl ⟨rfl,rfl⟩⟩ ?_ fun s h=> ?_
  .simp[rW]
  .simp[rW]
  .simp[rW]
  .obtain⟨d,dh,⟨h2,h3,g0,g1⟩,c1,c2,⟨rd,z1⟩,⟨rd2,z2⟩,hc⟩ :=finQ h;simp[rW,h2,h3,g0,g1,c1,c2,z1,z2];omega
def fn5:pr.fn 5=some g5:=by kernel_rfl
def fn17:pr.fn 17=some g17:=by kernel_rfl
def fn21:pr.fn 21=some g21:=by kernel_rfl
def eff17(b:Bool){h:T Ob}{c:Nat}:Eff pr 17 [.f (zah (hdC b))] h c fun d h' c'=>Frm h h' c/\Own h' c c' d (zah (hdC b)):=by
 refine zph zfC fn17 ?_;simp only[g17,rU];cases b with
 |true=>
  have hX:zah (hdC true)= .sl 1 [[.s [120]]]:=rfl;rw[hX];simp[rW,st0,zal,zQi,zkO];refine⟨by simp[zaq,Z79],⟨fun x hx=> ?_,?_⟩,fun _ e=>by cases e⟩
  .have h1:¬x=c:=by omega
   have h2:¬x=c+1:=by omega
   simp[wrT,TG,h1,h2]
  .exact zxR (rows:=[[.s [120]]]) (.inr ⟨c+1,0,rfl,by simp,by simp[wrT,TG],Z61 _,Z128 c,Nat.lt_succ_self (c+1)⟩)
 |false=>
  have hX:zah (hdC false)= .nils:=rfl;rw[hX];simp[rW,st0,zal,zQg,zkO];refine⟨fun _ _=>rfl,.inl rfl,rfl,by simp[D.oid],fun h' _ k=>⟨[],rfl⟩⟩
theorem ro21{b:Bool}{i j:Nat}(hi:i<nH b)(hj:j<nH b){h:T Ob}{k X Y:Nat}{y:D}(gX:h.get X=some (.arr 2 0 [cqD (cqN j)]))(gY:h.get Y=some (.arr 2 0 [[.f (zah (hdC b)),y]]))(hX:X<k)(hY:Y<k):
  RO pr 21 [.ag (cqD (cqN i)),.ptr X 2 0 0,.ptr Y 2 0 0] h k (.f (.b (exI b i j))):=by
 refine zia zfC fn21 rfl ?_;simp only[g21,rU];have nX:¬X=k:=by omega
 have nY:¬Y=k:=by omega
 have q:=fun j=>zad (k:=j) (exA hi hj)
 simp only[cqE]at q;unfold cqD at gX;simp[rW,st0,zal,cqD,gX,gY,nX,nY,zfZ,zf1,za4,q,ze8];simp (disch:=omega) only[zib,ziy]
def oth(L:List Nat)(i:Nat):List Nat:=L.take i++L.drop (i+1)
def min1(b:Bool)(L:List Nat)(i:Nat):List Nat:=match L[i]? with
 |none=>L
 |some d=>if((oth L i).any fun c=>exI b c d)=true then oth L i else L
def minL(b:Bool):Nat->List Nat->List Nat
 |0,L=>L
 |k+1,L=>minL b k (min1 b L k)
def zmA(b:Bool)(l:List Nat):List Nat:=minL b l.length (l.map (coI b))
def zKG{L:List Nat}{i c:Nat}(h:c∈oth L i):c∈L:=by
 rcases Z4.1 h with h|h
 .exact Z13 h
 .exact Z21 h
def zxP{L:List Nat}{i:Nat}(h:i<L.length):(oth L i).length=L.length - 1:=by
 unfold oth;simp;omega
def zEN(l:List CQ)(n:Nat):(zc1 l)[n]? =(l[n]?).map fun c=>[D.f (zcz c),D.f (zcQ c)]:=by simp[zc1]
def Q3(b:Bool)(l:List Nat):Prop:=(∀i∈l,i<nH b)/\l.length<=3
theorem ans19{b:Bool}:∀{P S:List Nat},(∀i∈P,i<nH b)->(∀i∈S,i<nH b)->P.length+S.length<=2->Ans pr 19 [.sl 1 [[.sl 2 ((cqs P).map cqF)],[.sl 2 ((cqs S).map cqF)]]] (qsF (cqs (P++S)))
 |[],[],_,_,_=>cc00
 |[i],[],h,_,_=>by
  obtain⟨X,e⟩ :=rwA (zh7 (h i (by simp)));simp only[cqs,Z10,Z85,Z22,e,qsF];exact cc10 X
 |[],[i],_,h,_=>by
  obtain⟨X,e⟩ :=rwA (zh7 (h i (by simp)));simp only[cqs,Z10,Z85,Z28,e,qsF];exact cc01 X
 |[i],[j],h,h2,_=>by
  obtain⟨X,e⟩ :=rwA (zh7 (h i (by simp)));obtain⟨Y,e2⟩ :=rwA (zh7 (h2 j (by simp)));simp only[cqs,Z10,Z85,Z29,Z28,e,e2,qsF];exact cc11 X Y
 |[i,j],[],h,_,_=>by
  obtain⟨X,e⟩ :=rwA (zh7 (h i (by simp)));obtain⟨Y,e2⟩ :=rwA (zh7 (h j (by simp)));simp only[cqs,Z10,Z85,Z22,e,e2,qsF];exact cc20 X Y
 |[],[i,j],_,h,_=>by
  obtain⟨X,e⟩ :=rwA (zh7 (h i (by simp)));obtain⟨Y,e2⟩ :=rwA (zh7 (h j (by simp)));simp only[cqs,Z10,Z85,Z28,e,e2,qsF];exact cc02 X Y
 |[],_::_::_::_,_,_,h=>absurd h (by simp only[Z23];omega)
 |[_],_::_::_,_,_,h=>absurd h (by simp only[Z23];omega)
 |[_,_],_::_,_,_,h=>absurd h (by simp only[Z23];omega)
 |_::_::_::_,_,_,_,h=>absurd h (by simp only[Z23];omega)
theorem zly{α β:Type}(f:α->β):∀(l:List α) (x:List β),l.foldl (fun x c=>x++[f c]) x=x++l.map f
 |[],x=>by simp
 |a::l,x=>by rw[Z42,zly f l];simp
theorem coL:∀b,((ixL b).all fun i=>decide (coI b i<nH b))=true
 |false=>by kernel_rfl
 |true=>by kernel_rfl
def ztJ{b:Bool}{i:Nat}(h:i<nH b):coI b i<nH b:=of_decide_eq_true (Z50.1 (coL b) i (Z174.2 h))
def YM0(b:Bool)(l:List Nat)(L:List Nat)(s:St):Prop:=∃d dh P,(s.tm.get 1=some (.ptr 0 2 0 0)/\s.tm.get 2=some (.ptr 1 2 0 0)/\s.tm.get 3=some (.ptr P 2 0 0)/\s.h.get 0=some (.arr 2 0 [[.f (zah (hdC b)),.f (qsF (cqs l))]])/\s.h.get 1=some (.arr 2 0 [[.f .nils,.f .nils]])/\s.h.get P=some (.arr 2 0 [[dh,d]]))/\2<=P/\P<s.c/\Own s.h 2 P dh (zah (hdC b))/\(d= .f (qsF (cqs L))\/Gro s.h (P+1) s.c 2 d (zc1 (cqs L)))/\s.lw<=s.c
def XM1(b:Bool)(l:List Nat)(n:Nat)(a:List Nat)(s:St):Prop:=∃d dh P,(s.tm.get 1=some (.ptr 0 2 0 0)/\s.tm.get 2=some (.ptr 1 2 0 0)/\s.tm.get 3=some (.ptr P 2 0 0)/\s.tm.get 14=some (.f (qsF (cqs l)))/\s.tm.get 15=some (.f (.i .i64 l.length))/\s.tm.get 16=some (.f (.i .i64 n))/\s.h.get 0=some (.arr 2 0 [[.f (zah (hdC b)),.f (qsF (cqs l))]])/\s.h.get 1=some (.arr 2 0 [[.f .nils,.f .nils]])/\s.h.get P=some (.arr 2 0 [[dh,d]]))/\2<=P/\P<s.c/\Own s.h 2 P dh (zah (hdC b))/\Gro s.h (P+1) s.c 2 d (zc1 (cqs a))/\s.lw<=s.c
def XM2(b:Bool)(l:List Nat)(R:List Nat)(k:Nat)(s:St):Prop:=∃(L:List Nat) (z:Int),(z=(k:Int) - 1/\k<=L.length/\Q3 b L/\L≠[]/\minL b k L=R)/\YM0 b l L s/\s.tm.get 6=some (.f (.i .i64 z))
def zIm{L:List Nat}(hL:L≠[]):qsF (cqs L)= .sl 2 ((cqs L).map cqF):=(zin (by simpa [cqs]using hL)).symm
def qs_hi{L:List Nat}(hL:L≠[]){i:Nat}(hi:i<=L.length)(h:Nat->Option Ob):sliceB 2 h (.f (qsF (cqs L))) none (some (.f (.i .i64 i))) none=some (.f (.sl 2 ((cqs (L.take i)).map cqF)),[]):=by
 rw[zIm hL];simp[sliceB,za3,zbh,hi,Z149,cqs]
def qs_lo{L:List Nat}(hL:L≠[]){i:Nat}(hi:i<=L.length)(h:Nat->Option Ob):sliceB 2 h (.f (qsF (cqs L))) (some (.f (.i .i64 i))) none none=some (.f (.sl 2 ((cqs (L.drop i)).map cqF)),[]):=by
 rw[zIm hL];simp[sliceB,za3,zbh,hi,List.map_drop,cqs];exact Z11 (by simp)
def XT(b:Bool)(l L:List Nat)(e:Nat)(i:Nat)(dh:D)(P E:Nat)(s:St):Prop:=∃d,(s.tm.get 1=some (.ptr 0 2 0 0)/\s.tm.get 2=some (.ptr 1 2 0 0)/\s.tm.get 3=some (.ptr P 2 0 0)/\s.tm.get 6=some (.f (.i .i64 i))/\s.tm.get 8=some (.f (qsF (cqs (oth L i))))/\s.h.get 0=some (.arr 2 0 [[.f (zah (hdC b)),.f (qsF (cqs l))]])/\s.h.get 1=some (.arr 2 0 [[.f .nils,.f .nils]])/\s.h.get P=some (.arr 2 0 [[dh,d]])/\s.h.get E=some (.arr 2 0 [cqD (cqN e)]))/\2<=P/\P<E/\E<s.c/\Own s.h 2 P dh (zah (hdC b))/\(d= .f (qsF (cqs L))\/Gro s.h (P+1) s.c 2 d (zc1 (cqs L)))/\s.lw<=s.c
def ans5{b:Bool}{l:List Nat}(hl:Q3 b l)(h0:l≠[]):Ans pr 5 [.ag [zah (hdC b),qsF (cqs l)]] (.ag [zah (hdC b),qsF (cqs (zmA b l))]):=by
 refine zcx fn5 ?_;simp only[g5,rU];simp[rW,st0,zal,za4,zd5];refine wq_e rfl rfl (eff17 b) ?_;rintro dh h' c' lw mx ⟨hf,hO⟩ hcc;simp only[rG]at hf hO hcc;have e0:=hf 0 (by omega);have e1:=hf 1 (by omega);simp[TG]at e0 e1;have hcd:=hO.2.1;have n0:¬(0=c'):=by omega
 have n1:¬(1=c'):=by omega
 simp[rW,e0,e1,hcd,n0,n1,zcS,zbY,zd5];refine zHJ l (fun x c=>x++[coI b c]) [] (fun n a s=>XM1 b l n a s) (fun x s=>x= .exit 0/\YM0 b l (l.map (coI b)) s) ?_ ?_ _ ?_ ?_
 .rintro n a s hn ha ⟨d,dh,P,⟨h1,h2,h3,h14,h15,h16,g0,g1,gP⟩,hP2,hPc,hO,hg,hlw⟩;have hw:=zau n (by have:=hl.2;omega);have hal:a.length<=1000:=by
   rw[ha,zly,Z28,Z18,Z41];have:=hl.2;omega
  have hs:=hl.1 _ (Z1 hn);have hx:l[n]? =some l[n]:=Z0 hn;generalize hA:l[n]=A at hs hx|-;have q19:=fun k=>zad (k:=k) (coA hs)
  have hx':(cqs l)[n]? =some (cqN A):=by rw[zgN,hx];rfl
  have esn:cqs (a++[coI b A])=cqs a++[cqN (coI b A)]:=by simp[cqs]
  generalize coI b A=R at q19 esn|-;simp only[cqE]at q19;have n0:¬(0=s.c):=by omega
  have n1:¬(1=s.c):=by omega
  have nP:¬(P=s.c):=by omega
  have nP':¬(s.c=P):=by omega
  simp[rW,h1,h2,h3,h14,h15,h16,g0,g1,gP,hn,zgu,hx',hA,cqE,n0,n1,nP,nP'];refine zay ?_;simp[rW,h1,h2,h3,h14,h15,h16,g0,g1,gP,n0,n1,nP,nP',cqE,zfZ,zf1,za4,q19];refine zfb (zaS hg (by omega) fun x h1 h2=> ?_) (by omega) (by rw[zfR,zbY];simp;omega) (by omega) ?_
  .have nx:¬(x=s.c):=by omega
   simp[TG,nx]
  intro r hr1 hr2 hr3 hr4 hr5;have e0:=hr4 0 (by omega) (zfd hg (by omega));have e1:=hr4 1 (by omega) (zfd hg (by omega));have eP:=hr4 P (by omega) (zfd hg (by omega));simp[TG,n0,n1,nP,g0,g1,gP]at e0 e1 eP;have p0:¬(0=P):=by omega
  have p1:¬(1=P):=by omega
  refine⟨hr1,?_⟩;simp[rW,eP,zbu hr2];refine⟨by omega,⟨r.d,dh,P,?_,hP2,?_,?_,?_,?_⟩⟩
  .simp[rW,h1,h2,h3,h14,h15,h16,e0,e1,eP,hw,p0,p1]
  .simp[rW];omega
  .refine hO.up (fun x hx=> ?_) (Z2 _) (Z2 _);have hx2:=hO.2.2.1 x hx;have nx:¬(x=P):=by omega
   have nx2:¬(x=s.c):=by omega
   have:=hr4 x (by omega) (zfd hg (by omega));simp[TG,nx2]at this;simp[rW,nx,this]
  .rw[esn,zrG];refine zaS hr2 (by simp[rW];omega) fun x h1 h2=> ?_
   have nx:¬(x=P):=by omega
   simp[rW,nx]
  .simp[rW]
   (repeat refine Z3 (zlR _ _) ?_)
   omega
 .rintro s ⟨d,dh,P,⟨h1,h2,h3,h14,h15,h16,g0,g1,gP⟩,hP2,hPc,hO,hg,hlw⟩;rw[zly,Z28]at hg;simp[rW,h1,h2,h3,h14,h15,h16,g0,g1,gP];refine⟨d,dh,P,?_,hP2,hPc,hO,.inr hg,hlw⟩;simp[rW,h1,h2,h3,g0,g1,gP]
 .refine⟨.f .nils,dh,c',?_,by omega,?_,?_,.inl ⟨rfl,rfl⟩,?_⟩
  .simp[rW,e0,e1,n0,n1]
  .simp[rW]
  .refine hO.up (fun x hx=> ?_) (Z2 _) (Z2 _);have:=hO.2.2.1 x hx;have nx:¬(x=c'):=by omega
   simp[rW,nx]
  .simp[rW]
   (repeat refine Z3 (zlR _ _) ?_)
   exact Z61 _
 .rintro x s ⟨rfl,d,dh,P,⟨h1,h2,h3,g0,g1,gP⟩,hP2,hPc,hO,hg,hlw⟩;have hL:Q3 b (l.map (coI b)):=⟨fun c hc=>by
   obtain⟨e,he,rfl⟩ :=Z12.1 hc;exact ztJ (hl.1 e he),by simpa using hl.2⟩
  have hL0:(l.map (coI b))≠[]:=by simpa using h0
  have hLl:(l.map (coI b)).length=l.length:=by simp
  unfold zmA;generalize (l.map (coI b))=L at hg hL hL0 hLl|-;rw[<-hLl];obtain⟨z0,hz0⟩ :∃z0:Int,z0=(L.length:Int) - 1:=⟨_,rfl⟩
  have hw0:IntKind.i64.wrap ((L.length:Int) - 1)=z0:=by rw[hz0];exact IntWalk.i64_in _ (by have:=hL.2;omega)
  have hlen:zcp d=some L.length:=by
   rcases hg with rfl|hg
   .rw[zcS,zbY]
   .have:=Go.Vse.zdL hg;rwa[zfR,zbY]at this
  simp[rW,h1,h2,h3,g0,g1,gP,hlen,hw0];refine zcJ (XM2 b l (minL b L.length L)) (fun x s=>x= .exit 2/\YM0 b l (minL b L.length L) s) ?_ L.length _ ?_ ?_
  .generalize minL b L.length L=R;clear hw0 hz0 hL hL0 hLl hg hlen hO g0 g1 gP h1 h2 h3 hcd e0 e1;clear L;rintro k s ⟨L,z,⟨hz,hk,hL,hL0,hR⟩,⟨d,dh,P,⟨h1,h2,h3,g0,g1,gP⟩,hP2,hPc,hO,hg,hlw⟩,h6⟩;cases k with
   |zero=>
    have hz0:¬(0<=z):=by omega
    simp[rW,h1,h2,h3,g0,g1,gP,h6,hz0];subst hR;refine⟨d,dh,P,?_,hP2,hPc,hO,hg,hlw⟩;simp[rW,h1,h2,h3,g0,g1,gP]
   |succ i=>
    have hz1:z=(i:Int):=by omega
    subst hz1;obtain⟨z2,hz2⟩ :∃z2:Int,z2=(i:Int) - 1:=⟨_,rfl⟩
    have hw:IntKind.i64.wrap ((i:Int) - 1)=z2:=by rw[hz2];exact IntWalk.i64_in _ (by have:=hL.2;omega)
    have hwi:=zau i (by have:=hL.2;omega);have hi:i<L.length:=by omega
    have hxi:L[i]? =some L[i]:=Z0 hi;have hsi:=hL.1 _ (Z1 hi);have hxq:(cqs L)[i]? =some (cqN L[i]):=by rw[zgN,hxi];rfl
    have hm1:min1 b L i=if((oth L i).any fun c=>exI b c L[i])=true then oth L i else L:=by
     unfold min1;rw[hxi]
    have hR':minL b i (min1 b L i)=R:=hR;rw[hm1]at hR';have q52:=fun k=>zad (k:=k) (ans19 (b:=b) (P:=L.take i) (S:=L.drop (i+1)) (fun c hc=>hL.1 c (Z13 hc)) (fun c hc=>hL.1 c (Z21 hc)) (by have:=hL.2;simp;omega))
    change ∀k,aB pr 19 [.sl 1 [[.sl 2 ((cqs (L.take i)).map cqF)],[.sl 2 ((cqs (L.drop (i+1))).map cqF)]]] k↔k (qsF (cqs (oth L i)))at q52
    have hom:∀c∈oth L i,c<nH b:=fun c hc=>hL.1 c (zKG hc)
    have n0:¬(0=s.c):=by omega
    have n1:¬(1=s.c):=by omega
    have nP:¬(P=s.c):=by omega
    have nP':¬(s.c=P):=by omega
    push_cast at hwi
    have tail:∀(E:Nat) (s:St),XT b l L L[i] i dh P E s->WQ pr 20 [.f (qsF (cqs (oth L i))),.fn 21 [] [.ptr E 2 0 0,.ptr 0 2 0 0]] s (some 56) [] (sq pr (.cond (.t 56) (.reg [oM 57 8,oF 58 1 3,oS 1 58 57]) .skip) (kb 3 (sq pr (.reg [oM 36 6,oR 37 (.bin .sub (.t 36) (.k (.i .i64 1))),oM 6 37]) (lp (XM2 b l R) (i+1) fun x s=>x= .exit 2/\YM0 b l R s))) .nrm):=by
     clear s hlw hO hg hPc gP g0 g1 h1 h2 h3 h6 n0 n1 nP nP' d;generalize hE:L[i]=e at*;rintro E s ⟨d,⟨h1,h2,h3,h6,h8,g0,g1,gP,gE⟩,hP2,hPE,hEc,hO,hg,hlw⟩;simp only[rU];refine ziO (d:= .f (.b ((oth L i).any fun c=>exI b c e))) (ro20 (oth L i) (fun c=>exI b c e) (by rw[zxP hi];have:=hL.2;omega) fun k hk=> ?_) hlw ?_
     .exact ro21 (hom _ (Z1 hk)) hsi gE g0 hEc (by omega)
     .intro mx;cases hb:(oth L i).any fun c=>exI b c e with
      |false=>
       rw[hb]at hR';simp only[Z52,Z63]at hR';simp[rW,h1,h2,h3,h6,h8,g0,g1,gP,gE];rw[zdi];refine⟨i,by omega,L,z2,⟨hz2,by omega,hL,hL0,hR'⟩,⟨d,dh,P,?_,hP2,?_,hO,?_,?_⟩,?_⟩
       .simp[rW,h1,h2,h3,h6,h8,g0,g1,gP,gE]
       .simp[rW];omega
       .simp[rW];exact hg
       .simp[rW];exact hlw
       .simp[rW,hw]
      |true=>
       rw[hb]at hR';simp only[Z60]at hR';have hlo2:=zxP hi;have hon:oth L i≠[]:=fun e=>by rw[e]at hb;simp at hb
       have p0:¬(0=P):=by omega
       have p1:¬(1=P):=by omega
       have hqc:(D.f (qsF (cqs (oth L i)))).cells=some [.f (qsF (cqs (oth L i)))]:=by unfold qsF;exact zcs _ _
       simp[rW,h1,h2,h3,h6,h8,g0,g1,gP,gE,hqc,zd5];refine⟨by omega,?_⟩;rw[zdi];refine⟨i,by omega,oth L i,z2,⟨hz2,by rw[hlo2];omega,⟨hom,by rw[hlo2];have:=hL.2;omega⟩,hon,hR'⟩,⟨.f (qsF (cqs (oth L i))),dh,P,?_,hP2,?_,?_,.inl rfl,?_⟩,?_⟩
       .simp[rW,h1,h2,h3,h6,h8,g0,g1,gP,gE,p0,p1]
       .simp[rW];omega
       .refine hO.up (fun x hx=> ?_) (Z2 _) (Z2 _);have hx2:=hO.2.2.1 x hx;have nx:¬(x=P):=by omega
        simp[rW,nx]
       .simp[rW]
        (repeat refine Z3 (zlR _ _) ?_)
        exact hlw
       .simp[rW,hw]
    dsimp only[oM,oR,oF,oS]at tail;have m0:¬(0=s.c+1+1+1+1+1+1+1+1+1+1):=by omega
    have m1:¬(1=s.c+1+1+1+1+1+1+1+1+1+1):=by omega
    have mP:¬(P=s.c+1+1+1+1+1+1+1+1+1+1):=by omega
    have mE:¬(s.c=s.c+1+1+1+1+1+1+1+1+1+1):=by omega
    rcases hg with rfl|hg
    .have s1:=fun h=>qs_hi hL0 (i:=i) (by omega) h
     have s2:=fun h=>qs_lo hL0 (i:=i+1) (by omega) h
     push_cast at s2
     generalize L.take i=T1 at s1 q52;generalize L.drop (i+1)=T2 at s2 q52;simp[rW,h1,h2,h3,g0,g1,gP,h6,n0,n1,nP,nP',zgu,hxq,hi,cqE];refine zay ?_;simp[rW,h1,h2,h3,g0,g1,gP,n0,n1,nP,nP',h6,s1,s2,hwi,q52,zd5];refine tail _ _ ⟨_,?_,hP2,hPc,?_,?_,.inl rfl,?_⟩
     .simp[rW,h1,h2,h3,g0,g1,gP,h6,n0,n1,nP,nP',m0,m1,mP,mE,cqD]
     .simp[rW];omega
     .refine hO.up (fun x hx=> ?_) (Z2 _) (Z2 _);have hx2:=hO.2.2.1 x hx;have nx:¬(x=s.c):=by omega
      have nx2:¬(x=s.c+1+1+1+1+1+1+1+1+1+1):=by omega
      simp[rW,nx,nx2]
     .simp[rW]
      (repeat refine Z3 (zlR _ _) ?_)
      omega
    .obtain⟨id,ro,rfl,hne,gd,hro2,hlo,hhi⟩ :=hg.resolve_left (fun h=>hL0 (by simpa [zc1,cqs]using h.2));simp only[zfR,zbY]at*;have gx:(zc1 (cqs L))[i]? =some [D.f (zcz (cqN L[i])),D.f (zcQ (cqN L[i]))]:=by rw[zEN,hxq];rfl
     have s1:∀H:T Ob,H.get id=some (.arr 2 ro (zc1 (cqs L)))->sliceB 2 H.get (.sl id 0 L.length 2 L.length false) none (some (.f (.i .i64 i))) none=some (.sl id 0 i 2 L.length false,[id]):=fun H gd=>by
      simp[sliceB,gd,za3,zbh];omega
     have s2:∀(H:T Ob) (j:Nat),j<=L.length->H.get id=some (.arr 2 ro (zc1 (cqs L)))->sliceB 2 H.get (.sl id 0 L.length 2 L.length false) (some (.f (.i .i64 (j:Int)))) none none=some (.sl id j (L.length - j) 2 L.length false,[id]):=by
      intro H j hj gd;simp[sliceB,gd,za3,zbh];omega
     have nd:¬(id=s.c):=by omega
     have nd10:¬(id=s.c+1+1+1+1+1+1+1+1+1+1):=by omega
     have s1:=s1 ((s.h.set s.c (.arr 2 0 [[.f .nils,.f .nils]])).set s.c (.arr 2 0 [[.f (zcz (cqN L[i])),.f (zcQ (cqN L[i]))]])) (by simp[TG,nd,gd]);have s2:=s2 ((s.h.set s.c (.arr 2 0 [[.f .nils,.f .nils]])).set s.c (.arr 2 0 [[.f (zcz (cqN L[i])),.f (zcQ (cqN L[i]))]])) (i+1) (by omega) (by simp[TG,nd,gd])
     push_cast at s2
     have f1:∀H:Nat->Option Ob,zaQ (frz H 10) (List.take i (zc1 (cqs L)))=some ((cqs (L.take i)).map cqF,[]):=fun H=>by
      have:=zlk H 9 (cqs (L.take i));have e:zc1 (cqs (L.take i))=(zc1 (cqs L)).take i:=by simp[zc1,cqs,Z149]
      rwa[e]at this
     have f2:∀H:Nat->Option Ob,zaQ (frz H 10) (List.take (L.length - (i+1)) (List.drop (i+1) (zc1 (cqs L))))=some ((cqs (L.drop (i+1))).map cqF,[]):=fun H=>by
      have:=zlk H 9 (cqs (L.drop (i+1)));have e:zc1 (cqs (L.drop (i+1)))=((zc1 (cqs L)).drop (i+1)).take (L.length - (i+1)):=by rw[Z11 (by simp[zfR,zbY])];simp[zc1,cqs,List.map_drop]
      rwa[e]at this
     have l1:(i<=L.length)=True:=by simp;omega
     have l2:(i+1+(L.length - (i+1))<=L.length)=True:=by simp;omega
     generalize L.take i=T1 at f1 q52;generalize L.drop (i+1)=T2 at f2 q52;have nd':¬(s.c=id):=by omega
     have nd10':¬(s.c+1+1+1+1+1+1+1+1+1+1=id):=by omega
     simp[rW,h1,h2,h3,g0,g1,gP,h6,n0,n1,nP,nP',zgu,hxq,hi,cqE,gd,gx];refine zay ?_;simp[rW,h1,h2,h3,g0,g1,gP,n0,n1,nP,nP',h6,nd,nd10,nd',nd10',hwi,q52,zd5,s1,s2,gd,f1,f2,l1,l2,zfR,zbY];generalize hW:(if L.length<=ro then if L.length<=ro then[]else[(id,some (Ob.arr 2 L.length (zc1 (cqs L))))]else(id,some (Ob.arr 2 L.length (zc1 (cqs L))))::if L.length<=ro then[]else[(id,some (Ob.arr 2 L.length (zc1 (cqs L))))])=W;have w1:∀(H:T Ob) x,x≠id->(wrT H W).get x=H.get x:=fun H x hx=>by
      rw[<-hW];split<;>(try split)<;>simp[wrT,TG,hx]
     have w2:∀H:T Ob,H.get id=some (.arr 2 ro (zc1 (cqs L)))->∃r2,r2<=L.length/\(wrT H W).get id=some (.arr 2 r2 (zc1 (cqs L))):=fun H e=>by
      rw[<-hW];split
      .exact⟨ro,hro2,by simpa [wrT]using e⟩
      .exact⟨L.length,Z2 _,by simp[wrT,TG]⟩
     have w3:zaq (s.c+1+1+1+1+1+1+1+1+1+1+1+1) W=true:=by
      rw[<-hW];split<;>(try split)<;>simp[zaq,Z79]<;>omega
     refine⟨w3,?_⟩;have k0:=fun H=>w1 H 0 (by omega)
     have k1:=fun H=>w1 H 1 (by omega)
     have kP:=fun H=>w1 H P (by omega)
     have kE:=fun H=>w1 H s.c (by omega)
     refine tail s.c _ ⟨.sl id 0 L.length 2 L.length false,?_,hP2,hPc,?_,?_,.inr (.inr ?_),?_⟩
     .simp[rW,h1,h2,h3,g0,g1,gP,h6,n0,n1,nP,nP',m0,m1,mP,mE,cqD,k0,k1,kP,kE]
     .simp[rW];omega
     .refine hO.up (fun x hx=> ?_) (Z2 _) (Z2 _);have hx2:=hO.2.2.1 x hx;have nx:¬(x=s.c):=by omega
      have nx2:¬(x=s.c+1+1+1+1+1+1+1+1+1+1):=by omega
      have kx:=fun H=>w1 H x (by omega)
      simp[rW,nx,nx2,kx]
     .obtain⟨r2,hr2,e2⟩ :=w2 (((s.h.set s.c (.arr 2 0 [[.f .nils,.f .nils]])).set s.c (.arr 2 0 [[.f (zcz (cqN L[i])),.f (zcQ (cqN L[i]))]])).set (s.c+1+1+1+1+1+1+1+1+1+1) (.arr 1 0 [[.sl id 0 i 2 L.length false],[.sl id (i+1) (L.length - (i+1)) 2 L.length false]]) |>.set (s.c+1+1+1+1+1+1+1+1+1+1) (.arr 1 2 [[.sl id 0 i 2 L.length false],[.sl id (i+1) (L.length - (i+1)) 2 L.length false]])) (by simp[TG,nd,nd10,gd]);refine⟨id,r2,by rw[zfR,zbY],hne,?_,by rw[zfR,zbY];exact hr2,hlo,?_⟩
      .simp[rW,e2]
      .simp[rW];omega
     .simp[rW]
      (repeat refine Z3 (zlR _ _) ?_)
      omega
  .refine⟨L,z0,⟨hz0,Z2 _,hL,hL0,rfl⟩,⟨d,dh,P,?_,hP2,?_,hO,hg,?_⟩,?_⟩
   .simp[rW,h1,h2,h3,g0,g1,gP]
   .simp[rW,hPc]
   .simp[rW];exact hlw
   .simp[rW]
  .rintro x s ⟨rfl,d,dh,P,⟨h1,h2,h3,g0,g1,gP⟩,hP2,hPc,hO,hg,hlw⟩;generalize minL b L.length L=R at hg|-;have nP1:¬(P=1):=by omega
   have hh2:∀y,y≠1->(s.h.set 1 (.arr 2 0 [[dh,d]])).get y=s.h.get y:=fun y hy=>by simp[TG,hy]
   obtain⟨rd2,hz2⟩ :=hO.2.2.2 (s.h.set 1 (.arr 2 0 [[dh,d]])) (fun x hx=>hh2 x (by have:=hO.2.2.1 x hx;omega)) 9;have hz:(∃rd,frz (s.h.set 1 (.arr 2 0 [[dh,d]])).get 11 d=some (qsF (cqs R),rd))/\d.cells=some [d]:=by
    rcases hg with rfl|hg
    .exact⟨⟨[],rfl⟩,by unfold qsF;exact zcs _ _⟩
    .obtain⟨rd,hz⟩ :=zxm (k:=10) (zaS (h':=s.h.set 1 (.arr 2 0 [[dh,d]])) hg (Z2 _) (fun x h1 _=>hh2 x (by omega))) (zlk _ 9 _) (by simp[zc1]);exact⟨⟨rd,hz⟩,zbu hg⟩
   obtain⟨⟨rd,hz⟩,hcd⟩ :=hz;have hcd2:=hO.2.1;simp[rW,h1,h2,h3,g0,g1,gP,nP1,hcd,hcd2,hz,hz2];omega
end Go.Proofs.YtbhholaillniiaaGreatDoor
end
