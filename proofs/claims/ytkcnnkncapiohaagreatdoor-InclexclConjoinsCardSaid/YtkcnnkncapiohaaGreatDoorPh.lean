/- Rows of digits; NatNorm. -/
import Derived.Test.YtkcnnkncapiohaaGreatDoorPg
import Derived.KernelRfl
import Derived.IntWalk
set_option linter.all false
set_option maxRecDepth 100000
set_option maxHeartbeats 4000000
section
namespace Go.Proofs.YtkcnnkncapiohaaGreatDoor
open Go Go.Vse Go.Vse.Sm
def fn122:pr.fn 122=some zBu:=by kernel_rfl
def zga(a b:Int):zaN .eql (.i .u32 a) (.i .u32 b)=some (.b (a==b)):=rfl
def zrY(a b:Int):zaN .lss (.i .u32 a) (.i .u32 b)=some (.b (decide (a<b))):=rfl
def zyC(a b:Int):zaN .gtr (.i .u32 a) (.i .u32 b)=some (.b (decide (a>b))):=rfl
def znW(a b:Int):zaN .lss (.i .u64 a) (.i .u64 b)=some (.b (decide (a<b))):=rfl
def zgS(a b:Int):zaN .add (.i .u64 a) (.i .u64 b)=some (.i .u64 (IntKind.u64.wrap (a+b))):=rfl
def znZ(a b:Int):zaN .sub (.i .u64 a) (.i .u64 b)=some (.i .u64 (IntKind.u64.wrap (a - b))):=rfl
def zNg(a b:Int):zaN .mul (.i .u64 a) (.i .u64 b)=some (.i .u64 (IntKind.u64.wrap (a*b))):=rfl
def znY(a:Int):zaN .shr (.i .u64 a) (.i .u64 32)=some (.i .u64 (a.fdiv (2 ^ 32))):=rfl
def zwp(a:Nat):zaN .shr (.i .u32 (a:Int)) (.i .u64 1)=some (.i .u32 ((a/2:Nat):Int)):=by
 have e:zaN .shr (.i .u32 (a:Int)) (.i .u64 1)=some (.i .u32 ((a:Int).fdiv (2 ^ 1))):=rfl;rw[e,Int.fdiv_eq_ediv_of_nonneg _ (by decide)];rfl
def zD1(a:Nat):zaN .shr (.i .u32 (a:Int)) (.i .u64 31)=some (.i .u32 ((a/2147483648:Nat):Int)):=by
 have e:zaN .shr (.i .u32 (a:Int)) (.i .u64 31)=some (.i .u32 ((a:Int).fdiv (2 ^ 31))):=rfl;rw[e,Int.fdiv_eq_ediv_of_nonneg _ (by decide)];rfl
def zDZ(a:Nat):zaN .shl (.i .u32 (a:Int)) (.i .u64 31)=some (.i .u32 ((2147483648*(a%2):Nat):Int)):=by
 have e:zaN .shl (.i .u32 (a:Int)) (.i .u64 31)=some (.i .u32 (IntKind.u32.wrap ((a:Int)*2 ^ 31))):=rfl;have k:IntKind.u32.wrap ((a:Int)*2 ^ 31)=((2147483648*(a%2):Nat):Int):=by
  rw[IntKind.wrap_u32];omega
 rw[e,k]
def znV(a:Nat)(h:a<4294967296):zaN .and (.i .u32 (a:Int)) (.i .u32 1)=some (.i .u32 ((a%2:Nat):Int)):=by
 have e:zaN .and (.i .u32 (a:Int)) (.i .u32 1)=some (.i .u32 (IntKind.u32.wrap ((BitVec.ofInt 32 a&&& BitVec.ofInt 32 1).toNat:Int))):=rfl;have k:(BitVec.ofInt 32 (a:Int)&&& BitVec.ofInt 32 1).toNat=a%2:=by
  rw[BitVec.toNat_and];have e1:(BitVec.ofInt 32 (a:Int)).toNat=a:=by rw[BitVec.toNat_ofInt];omega
  have e2:(BitVec.ofInt 32 1).toNat=1:=rfl;rw[e1,e2,Nat.and_one_is_mod]
 rw[e,k,IntWalk.u32_in _ (by omega)]
def zRE(a c:Nat)(h:a<2147483648)(h2:c<2):zaN .or (.i .u32 (a:Int)) (.i .u32 ((2147483648*c:Nat):Int))=some (.i .u32 ((a+2147483648*c:Nat):Int)):=by
 have e:zaN .or (.i .u32 (a:Int)) (.i .u32 ((2147483648*c:Nat):Int))=some (.i .u32 (IntKind.u32.wrap ((BitVec.ofInt 32 (a:Int)|||BitVec.ofInt 32 ((2147483648*c:Nat):Int)).toNat:Int))):=rfl;have k:(BitVec.ofInt 32 (a:Int)|||BitVec.ofInt 32 ((2147483648*c:Nat):Int)).toNat=a+2147483648*c:=by
  rw[BitVec.toNat_or];have e1:(BitVec.ofInt 32 (a:Int)).toNat=a:=by rw[BitVec.toNat_ofInt];omega
  have e2:(BitVec.ofInt 32 ((2147483648*c:Nat):Int)).toNat=2147483648*c:=by rw[BitVec.toNat_ofInt];omega
  have e3:=Nat.two_pow_add_eq_or_of_lt (b:=a) (i:=31) (by omega) c;rw[e1,e2,Nat.or_comm,<-show(2:Nat) ^ 31=2147483648 from rfl,<-e3];omega
 rw[e,k,IntWalk.u32_in _ (by omega)]
def zic(z:Int):∃d:Nat,d<4294967296/\IntKind.u32.wrap z=(d:Int):=by
 refine⟨(IntKind.u32.wrap z).toNat,?_,?_⟩
 .rw[IntKind.wrap_u32];omega
 .rw[IntKind.wrap_u32];omega
def zFw(a b:Int):∃d:Nat,d<4294967296/\zaN .or (.i .u32 a) (.i .u32 b)=some (.i .u32 (d:Int)):=by
 obtain⟨d,h1,h2⟩ :=zic ((BitVec.ofInt 32 a|||BitVec.ofInt 32 b).toNat:Int);exact⟨d,h1,by rw[<-h2];rfl⟩
def zM5(a b:Int):∃d:Nat,d<4294967296/\zaN .and (.i .u32 a) (.i .u32 b)=some (.i .u32 (d:Int)):=by
 obtain⟨d,h1,h2⟩ :=zic ((BitVec.ofInt 32 a&&& BitVec.ofInt 32 b).toNat:Int);exact⟨d,h1,by rw[<-h2];rfl⟩
def zzP(a:Int)(n:Nat):∃d:Nat,d<4294967296/\zaN .shl (.i .u32 a) (.i .u64 (n:Int))=some (.i .u32 (d:Int)):=by
 obtain⟨d,h1,h2⟩ :=zic (a*2 ^ (min n 32));refine⟨d,h1,?_⟩;rw[<-h2];have h3:¬((n:Int)<0):=by omega
 simp only[zaN,zoT,Go.binOp,Go.Op.shift,h3,Z63];rfl
def zPh(a:Int)(n:Nat):∃z:Int,zaN .shr (.i .u32 a) (.i .u64 (n:Int))=some (.i .u32 z):=by
 have h3:¬((n:Int)<0):=by omega
 refine⟨a.fdiv (2 ^ (min n 32)),?_⟩;simp only[zaN,zoT,Go.binOp,Go.Op.shift,h3,Z63];rfl
def dF(l:List Nat):List (List F):=l.map fun d:Nat=>[F.i .u32 (d:Int)]
def dE(l:List Nat):List (List D):=l.map fun d:Nat=>[D.f (.i .u32 (d:Int))]
def zeE(l:List Nat):(dE l).length=l.length:=by simp[dE]
def zjr(l:List Nat)(n:Nat)(h:n<l.length):(dE l)[n]? =some [D.f (.i .u32 (l[n]:Nat))]:=by simp[dE,h]
def ziw(a b:List Nat):dE (a++b)=dE a++dE b:=by simp[dE]
def dE_F(l:List Nat):(dF l).map (fun a=>a.map D.f)=dE l:=by simp[dF,dE]
def zjs(l:List Nat):hd8 (dE l)=false:=by cases l<;>rfl
def NF(x:F)(l:List Nat):Prop:=x= .sl 1 (dF l)\/(x= .nils/\l=[])
def zak{x:F}{l:List Nat}(h:NF x l):x.d= .f x:=by rcases h with rfl|⟨rfl,_⟩ <;>rfl
structure Rd1(h:T Ob)(c:Nat)(d:D)(l:List Nat):Prop where
 len:zbj d=some l.length
 get:∀n (hn:n<l.length),∃p rd,iaB 1 d n=some p/\∀h':T Ob,(∀id,id<c->h'.get id=h.get id)->zcb false 1 h'.get p=some (.f (.i .u32 (l[n]:Nat)),rd)
 cut:∀n,n<=l.length->∃x rd rd2,∀h':T Ob,(∀id,id<c->h'.get id=h.get id)->sliceB 1 h'.get d none (some (.f (.i .i64 n))) none=some (x,rd)/\elemsOf 1 h'.get x=some (dE (l.take n),rd2)
def zdH{x:F}{l:List Nat}(hx:NF x l)(h:T Ob)(c:Nat):Rd1 h c (.f x) l:=by
 rcases hx with rfl|⟨rfl,rfl⟩
 .refine⟨by simp[zbj,dF],fun n hn=>⟨.fptr [.i .u32 (l[n]:Nat)],[],?_,fun h' _=>rfl⟩,fun n hn=>⟨.f (.sl 1 (dF (l.take n))),[],[],fun h' _=>⟨?_,?_⟩⟩⟩
  .simp[iaB,dF,hn]
  .have:(dF l).length=l.length:=by simp[dF]
   rw[zxJ];simp[za9,zbR,om,this,hn,dF,Z149]
  .rw[zwG,Z51 rfl,dE_F]
 .refine⟨rfl,fun n hn=>by simp at hn,fun n hn=>⟨.f .nils,[],[],fun h' _=>⟨?_,?_⟩⟩⟩
  .have:n=0:=by simpa using hn
   subst this;rfl
  .rw[zsJ];simp[dE]
def zk9{h:T Ob}{c id ro lim:Nat}{ex:Bool}{l:List Nat}(hg:h.get id=some (.arr 1 ro (dE l)))(hc:id<c):Rd1 h c (.sl id 0 l.length 1 lim ex) l:=by
 refine⟨rfl,fun n hn=>⟨.ptr id 1 n 0,[id],?_,fun h' hh=> ?_⟩,fun n hn=>⟨.sl id 0 n 1 lim ex,[id],[id],fun h' hh=>⟨?_,?_⟩⟩⟩
 .rw[zqw,Z51 ⟨rfl,hn⟩,Z25]
 .rw[zHS,hh id hc,hg];simp[om,zsW,zjr l n hn,zcG]
 .rw[sb_sl,hh id hc,hg];simp[om,za9,zbR,zPj,hn]
 .rw[zka,hh id hc,hg];simp[om,zgT,zeE,hn,dE,Z149]
def zlg(h:T Ob)(lo c:Nat)(d:D)(l:List Nat):Prop:=∃id lim ex,d= .sl id 0 l.length 1 lim ex/\h.get id=some (.arr 1 0 (dE l))/\lo<=id/\id<c
def zlg.rd{h:T Ob}{lo c:Nat}{d:D}{l:List Nat}(ho:zlg h lo c d l):Rd1 h c d l:=by
 obtain⟨id,lim,ex,rfl,hg,_,h2⟩ :=ho;exact zk9 hg h2
def Rd1.up{h h':T Ob}{c c':Nat}{d:D}{l:List Nat}(hr:Rd1 h c d l)(hc:c<=c')(hh:∀id,id<c->h'.get id=h.get id):Rd1 h' c' d l:=by
 refine⟨hr.len,fun n hn=> ?_,fun n hn=> ?_⟩
 .obtain⟨p,rd,h1,h2⟩ :=hr.get n hn;exact⟨p,rd,h1,fun k hk=>h2 k fun id hid=>by rw[hk id (by omega),hh id hid]⟩
 .obtain⟨x,rd,rd2,h1⟩ :=hr.cut n hn;exact⟨x,rd,rd2,fun k hk=>h1 k fun id hid=>by rw[hk id (by omega),hh id hid]⟩
def zEt(h:Nat->Option Ob)(k:Nat)(l:List Nat):zaU (frz h (k+1)) (dE l)=some (dF l,[]):=by
 have:=zhO h k (dF l);rw[dE_F]at this;exact this
def zlg.frz{h:T Ob}{lo c:Nat}{d:D}{l:List Nat}(ho:zlg h lo c d l)(k:Nat):∃rd,frz h.get (k+2) d=some (.sl 1 (dF l),rd):=by
 obtain⟨id,lim,ex,rfl,hg,_,_⟩ :=ho;rw[zfQ,hg,zcE,zfC];simp[zeE,<-zeE,zEt,zcE]
def zlg.cells{h:T Ob}{lo c:Nat}{d:D}{l:List Nat}(ho:zlg h lo c d l):d.cells=some [d]:=by
 obtain⟨id,lim,ex,rfl,_⟩ :=ho;rfl
def J122(h:T Ob)(c:Nat)(d:D)(l:List Nat)(n:Nat)(s:St):Prop:=n<=l.length/\(s.tm.get 0=some (d)/\s.tm.get 3=some (.f (.i .i64 n)))/\nrm (l.take n)=nrm l/\s.h=h/\s.c=c
def R122(h:T Ob)(c:Nat)(d:D)(l:List Nat)(x:Ex)(s:St):Prop:=x= .exit 0/\∃n:Nat,n<=l.length/\(s.tm.get 0=some (d)/\s.tm.get 3=some (.f (.i .i64 n)))/\l.take n=nrm l/\s.h=h/\s.c=c
def zdD{h:T Ob}{c:Nat}{d:D}{l:List Nat}(hr:Rd1 h c d l)(hl:l.length<100000):Eff pr 122 [d] h c fun d' h' c'=>zlg h' c c' d' (nrm l)/\∀id,id<c->h'.get id=h.get id:=by
 refine zfZ zfM fn122 ?_;simp only[zBu,rU];simp[rW,st0,zal,hr.len];refine zbS (J122 h c d l) (R122 h c d l) ?_ l.length _ ⟨Z2 _,?_,?_,?_,?_⟩ ?_
 .rintro k s ⟨hn,⟨h0,h3⟩,hT,eh,ec⟩;cases k with
  |zero=>
   simp[rW,h0,h3];exact⟨rfl,0,Z61 _,⟨by simp[rW,h0],by simp[rW,h3]⟩,by rw[<-hT];rfl,by simp[rW,eh],by simp[rW,ec]⟩
  |succ m=>
   have hm:m<l.length:=by omega
   obtain⟨p,rd,hp1,hp2⟩ :=hr.get m hm;have hp3:=hp2 h fun _ _=>rfl
   have hw:IntKind.i64.wrap (m:Int)=(m:Int):=wrap_i64 _ (by omega) (by omega);have hp:(0:Int)< (m:Int)+1:=by omega
   have ht:=Z6 hm
   by_cases h0':l[m]=0
   .rw[h0']at hp3 ht;rw[ht,ztV]at hT;simp[rW,h0,h3,hw,hp,hp1,hp3,eh,zga];rw[za1];refine⟨m,by omega,by omega,⟨by simp[rW,h0],by simp[rW]⟩,hT,by simp[rW,eh],by simp[rW,ec]⟩
   .rw[ht,zxc h0',<-ht]at hT;simp[rW,h0,h3,hw,hp,hp1,hp3,eh,zga,h0'];exact⟨rfl,m+1,by omega,⟨by simp[rW,h0],by simp[rW,h3]⟩,hT,by simp[rW,eh],by simp[rW,ec]⟩
 .exact⟨by simp[rW],by simp[rW]⟩
 .rw[Z7]
 .simp[rW]
 .simp[rW]
 .rintro x s ⟨rfl,n,hn,⟨h0,h3⟩,hT,eh,ec⟩;obtain⟨x,rd,rd2,hx⟩ :=hr.cut n hn;have ag:∀id,id<c->(h.set c (.arr 1 0 [])).get id=h.get id:=fun id hid=>by
   have:¬id=c:=by omega
   simp[TG,this]
  obtain⟨y1,y2⟩ :=hx _ ag;rw[hT]at y2;have hnl:n=(nrm l).length:=by rw[<-hT,Z41];omega
  have m1:n<=zax:=by have:=zaH (n:=n) (by omega);simpa using this
  have m2:n*4<=zax:=by have:=zaH (n:=n*4) (by omega);simpa using this
  by_cases hz:nrm l=[]
  .rw[hz]at y2 hnl;have e0:dE []=[]:=rfl;rw[e0]at y2;simp[rW,h0,h3,eh,ec,y1,y2,zd0];refine⟨?_,fun id h1 h2=>by omega⟩;rw[hz];exact⟨c,0,true,rfl,by simp[TG];rfl,Z2 _,by omega⟩
  .have hnz:¬n=0:=by
    rw[hnl];intro h;exact hz (Z17.1 h)
   have el:(dE (nrm l)).length=n:=by rw[zeE,hnl]
   simp[rW,h0,h3,eh,ec,y1,y2,el,hnz,m1,m2,zd0];refine⟨⟨c+1,n,false,?_,?_,by omega,by omega⟩,?_⟩
   .rw[hnl]
   .simp[TG]
   .intro id hid;have i1:¬id=c:=by omega
    have i2:¬id=c+1:=by omega
    simp[TG,i1,i2]
def fn172:pr.fn 172=some zBA:=by kernel_rfl
def fn173:pr.fn 173=some zBB:=by kernel_rfl
def J172(h2:T Ob)(d1 d2:D)(u v:List Nat)(n:Nat)(s:St):Prop:=n<=u.length/\(s.tm.get 5=some (d1)/\s.tm.get 6=some (d2)/\s.tm.get 7=some (.f (.i .i64 ((n:Int) - 1))))/\u.drop n=v.drop n/\s.h=h2
def R172(u v:List Nat)(x:Ex)(s:St):Prop:=(x= .exit 0/\u=v)\/(x= .ret/\s.tm.get 4=some (.f (.i .i64 (cN (nv u) (nv v)))))
def zmE{x y:F}{a b:List Nat}(hx:NF x a)(hy:NF y b)(da:Dg a)(db:Dg b)(la:a.length<100000)(lb:b.length<100000):Ans pr 172 [x,y] (.i .i64 (cN (nv a) (nv b))):=by
 refine zbN fn172 ?_;simp only[zBA,rU];simp[rW,st0,zal,zak hx,zak hy];refine zez rfl rfl (zdD (zdH hx _ _) la) ?_;rintro d1 h1 c1 lw1 mx1 ⟨ho1,hf1⟩ hc1;simp only[rG]at ho1 hf1 hc1;simp[rW];refine zez rfl rfl (zdD (zdH hy _ _) lb) ?_;rintro d2 h2 c2 lw2 mx2 ⟨ho2,hf2⟩ hc2;simp only[rG]at ho2 hf2 hc2;have r1:Rd1 h2 c2 d1 (nrm a):=ho1.rd.up hc2 hf2;have r2:Rd1 h2 c2 d2 (nrm b):=ho2.rd;rw[<-zhZ a,<-zhZ b];have n1:=zdG a;have n2:=zdG b;have l1:=zeh a;have l2:=zeh b
 replace da:=zdZ da
 replace db:=zdZ db
 generalize nrm a=u at r1 n1 da l1|-;generalize nrm b=v at r2 n2 db l2|-
 by_cases hl:u.length=v.length
 .have hw0:IntKind.i64.wrap ((v.length:Int) - 1)=(v.length:Int) - 1:=IntWalk.i64_in _ (by omega);simp[rW,r1.len,r2.len,hl,hw0];refine zbS (J172 h2 d1 d2 u v) (R172 u v) ?_ v.length _ ⟨by omega,⟨?_,?_,?_⟩,?_,?_⟩ ?_
  .rintro k s ⟨hn,⟨h5,h6,h7⟩,hD,eh⟩;cases k with
   |zero=>
    simp[rW,h5,h6,h7];exact .inl ⟨rfl,by simpa using hD⟩
   |succ m=>
    have m1:m<u.length:=by omega
    have m2:m<v.length:=by omega
    obtain⟨p1,rd1,i1,k1⟩ :=r1.get m m1;obtain⟨p2,rd2,i2,k2⟩ :=r2.get m m2;have k1:=k1 h2 fun _ _=>rfl
    have k2:=k2 h2 fun _ _=>rfl
    have em:(((m+1:Nat):Int) - 1)=(m:Int):=by omega
    have hg:(m:Int)≥0:=by omega
    have hw:IntKind.i64.wrap ((m:Int) - 1)=(m:Int) - 1:=IntWalk.i64_in _ (by omega);rw[em]at h7;rcases Nat.lt_trichotomy u[m] v[m]with hc|hc|hc
    .have hc2:((u[m]:Nat):Int)< ((v[m]:Nat):Int):=by omega
     have hlt:=zve (ztY da m1 m2 hD hc);simp[rW,h5,h6,h7,hg];refine zaq ?_;simp[rW,h5,h6,h7,eh,i1,i2,k1,k2,zrY,hc2];exact .inr ⟨rfl,by rw[hlt];simp[rW]⟩
    .have hc2:¬((u[m]:Nat):Int)< ((v[m]:Nat):Int):=by omega
     have hc3:¬((v[m]:Nat):Int)< ((u[m]:Nat):Int):=by omega
     simp[rW,h5,h6,h7,hg];refine zaq ?_;simp[rW,h5,h6,h7,eh,i1,i2,k1,k2,zrY,hc2];refine zaq ?_;simp[rW,h5,h6,h7,eh,i1,i2,k1,k2,zyC,hc3,hw];rw[za1];refine⟨m,by omega,by omega,⟨by simp[rW,h5],by simp[rW,h6],by simp[rW]⟩,?_,by simp[rW,eh]⟩;rw[Z55 m1,Z55 m2,hc,hD]
    .have hc2:¬((u[m]:Nat):Int)< ((v[m]:Nat):Int):=by omega
     have hc3:((v[m]:Nat):Int)< ((u[m]:Nat):Int):=by omega
     have hlt:=zAT (ztY db m2 m1 hD.symm hc);simp[rW,h5,h6,h7,hg];refine zaq ?_;simp[rW,h5,h6,h7,eh,i1,i2,k1,k2,zrY,hc2];refine zaq ?_;simp[rW,h5,h6,h7,eh,i1,i2,k1,k2,zyC,hc3];exact .inr ⟨rfl,by rw[hlt];simp[rW]⟩
  .simp[rW]
  .simp[rW]
  .simp[rW]
  .rw[Z24 (by omega),Z24 (by omega)]
  .simp[rW]
  .rintro x s (⟨rfl,e⟩ |⟨rfl,h4⟩)
   .rw[e,cN_eq rfl];simp[rW]
   .simp[rW,h4]
 .have hi:¬((u.length:Int)=(v.length:Int)):=by omega
  by_cases h2:u.length<v.length
  .rw[zve (znk da n2 h2)];simp[rW,r1.len,r2.len,hi,h2]
  .rw[zAT (znk db n1 (by omega))];simp[rW,r1.len,r2.len,hi,h2]
def zRR(r:List Nat)(l:List Nat)(n:Nat)(hr:r.length=n)(h:n<l.length):(dE (r++l.drop n))[n]? =some [D.f (.i .u32 (l[n]:Nat))]:=by
 have:n< (r++l.drop n).length:=by simp;omega
 rw[zjr _ _ this];simp[Z58,hr]
def zRS(r:List Nat)(l:List Nat)(n:Nat)(hr:r.length=n)(h:n<l.length)(z:Nat):(dE (r++l.drop n)).set n [D.f (.i .u32 (z:Nat))]=dE ((r++[z])++l.drop (n+1)):=by
 have e:(r++l.drop n).set n z=(r++[z])++l.drop (n+1):=by
  rw[Z112 _ _ (by omega),hr,Z194,Z55 h,Z153];simp
 rw[<-e];simp[dE,Z116]
def zlU(z:F)(P:List Nat->Prop):Prop:=∃l,NF z l/\Dg l/\nrm l=l/\P l
def J173(u v:List Nat)(i1 i2 l1 l2:Nat)(e1 e2:Bool)(n:Nat)(s:St):Prop:=
 ∃r br,r.length=n/\Dg r/\br<=1/\nv r+nv (v.take n)=nv (u.take n)+br*4294967296 ^ n/\
  (s.tm.get 6=some (.sl i1 0 u.length 1 l1 e1)/\s.tm.get 7=some (.sl i2 0 v.length 1 l2 e2)/\s.tm.get 8=some (.f (.i .u64 (br:Nat)))/\s.tm.get 9=some (.f (.i .i64 n))/\s.h.get i1=some (.arr 1 0 (dE (r++u.drop n)))/\s.h.get i2=some (.arr 1 0 (dE v)))/\i1<i2/\i2<s.c
theorem zmF{x y:F}{a b:List Nat}(hx:NF x a)(hy:NF y b)(da:Dg a)(db:Dg b)(la:a.length<100000)(lb:b.length<100000)(h:nv b<=nv a):
  ∃z,(zlU z fun l=>nv l=nv a - nv b/\l.length<=a.length)/\Ans pr 173 [x,y] (.tu [z,.b true]):=by
 have main:∃w,(∃z,w= .tu [z,.b true]/\zlU z fun l=>nv l=nv a - nv b/\l.length<=a.length)/\Ans pr 173 [x,y] w:=by
  refine zdR fn173 ?_;have q:=fun k=>zad (k:=k) (zmE hx hy da db la lb)
  have hc:¬cN (nv a) (nv b)<0:=by
   unfold cN;rw[Z49 (by omega)];split<;>decide
  generalize cN (nv a) (nv b)=z at q hc;simp only[zBB,rU];simp[rW,st0,zal,zak hx,zak hy,q,hc];refine zez rfl rfl (zdD (zdH hx _ _) la) ?_;rintro d1 h1 c1 lw1 mx1 ⟨ho1,hf1⟩ hc1;simp only[rG]at ho1 hf1 hc1;simp[rW,zak hy];refine zez rfl rfl (zdD (zdH hy _ _) lb) ?_;rintro d2 h2 c2 lw2 mx2 ⟨ho2,hf2⟩ hc2;simp only[rG]at ho2 hf2 hc2;obtain⟨i1,l1,e1,rfl,g1,j1,k1⟩ :=ho1;obtain⟨i2,l2,e2,rfl,g2,j2,k2⟩ :=ho2;have g1:h2.get i1=some (.arr 1 0 (dE (nrm a))):=by rw[hf2 i1 k1];exact g1
  have hle:=zCB db da h;have ll:=zeh a;rw[<-zhZ a,<-zhZ b]at h|-
  replace da:=zdZ da
  replace db:=zdZ db
  generalize nrm a=u at*;generalize nrm b=v at*;simp[rW];refine zex u.length (J173 u v i1 i2 l1 l2 e1 e2) (fun e s=>e= .exit 0/\J173 u v i1 i2 l1 l2 e1 e2 u.length s) ?_ ?_ _ ⟨[],0,rfl,fun _ h=>by simp at h,by omega,?_,⟨?_,?_,?_,?_,?_,?_⟩,by omega,?_⟩ ?_
  .rintro n s hn ⟨r,br,hr,dr,hbr,hS,⟨h6,h7,h8,h9,gi1,gi2⟩,hi,hic⟩;have hw:=zaB n (by omega);have hst:=zIv hn db da hr hbr hS;have x1:=zRR r u n hr hn;have hux:=da _ (Z1 hn);have sE:=zRS r u n hr hn (sbD u[n] (sbA v n br));have n12:¬i1=i2:=by omega
   have n21:¬i2=i1:=by omega
   have h1c:i1<s.c:=by omega
   have w1:IntKind.u64.wrap ((u[n]:Nat):Int)=((u[n]:Nat):Int):=IntWalk.u64_in _ (by omega);have s0:zaN .shl (.i .u64 0) (.i .u64 32)=some (.i .u64 0):=rfl;have s1:zaN .shl (.i .u64 1) (.i .u64 32)=some (.i .u64 4294967296):=rfl;have hA:sbA v n br<=4294967296:=by
    unfold sbA
    by_cases h2:n<v.length
    .have:=db _ (Z1 h2);simp[Z48,Z0 h2];omega
    .simp[Z48,Z97 (by omega:v.length<=n)];omega
   have w5:IntKind.u32.wrap ((sbD u[n] (sbA v n br):Nat):Int)=((sbD u[n] (sbA v n br):Nat):Int):=IntWalk.u32_in _ (by have:=hst.2.1;omega)
   by_cases h2:n<v.length
   .have hvx:=db _ (Z1 h2);have x2:=zjr v n h2;have w2:IntKind.u64.wrap ((v[n]:Nat):Int)=((v[n]:Nat):Int):=IntWalk.u64_in _ (by omega);have eA:sbA v n br=br+v[n]:=by simp[sbA,Z48,Z0 h2]
    have w3:IntKind.u64.wrap ((br:Int)+((v[n]:Nat):Int))=((sbA v n br:Nat):Int):=by rw[IntWalk.u64_in _ (by omega)];omega
    clear eA
    by_cases hb:u[n]<sbA v n br
    .have hb2:((u[n]:Nat):Int)< ((sbA v n br:Nat):Int):=by omega
     have eD:sbD u[n] (sbA v n br)=u[n]+4294967296 - sbA v n br:=by simp[sbD,hb]
     have eB:sbB u[n] (sbA v n br)=1:=by simp[sbB,hb]
     have w4:IntKind.u64.wrap (((u[n]:Nat):Int)+4294967296)=((u[n]:Nat):Int)+4294967296:=IntWalk.u64_in _ (by omega);have w6:IntKind.u64.wrap (((u[n]:Nat):Int)+4294967296 - ((sbA v n br:Nat):Int))=((sbD u[n] (sbA v n br):Nat):Int):=by rw[IntWalk.u64_in _ (by omega)];omega
     rw[eB]at hst;clear eD eB;generalize sbA v n br=A at*;generalize sbD u[n] A=B at*;simp[rW,h6,h7,h8,h9,gi1,gi2,hn,h2,x1,x2,w1,w2,w3,w4,w5,w6,s1,hb2,znW,zgS,znZ,sE,zjs,n12,n21,h1c,hw];refine⟨r++[B],1,by simp[hr],?_,hst.2.2,hst.1,⟨?_,?_,?_,?_,?_,?_⟩,hi,?_⟩
     .intro d hd;rcases Z4.1 hd with hd|hd
      .exact dr d hd
      .rw[Z31.1 hd];exact hst.2.1
     all_goals simp[rW,h6,h7,h8,h9,gi1,gi2,n12,n21,hw,hic]
    .have hb2:¬((u[n]:Nat):Int)< ((sbA v n br:Nat):Int):=by omega
     have eD:sbD u[n] (sbA v n br)=u[n] - sbA v n br:=by simp[sbD,hb]
     have eB:sbB u[n] (sbA v n br)=0:=by simp[sbB,hb]
     have w6:IntKind.u64.wrap (((u[n]:Nat):Int) - ((sbA v n br:Nat):Int))=((sbD u[n] (sbA v n br):Nat):Int):=by rw[IntWalk.u64_in _ (by omega)];omega
     rw[eB]at hst;clear eD eB;generalize sbA v n br=A at*;generalize sbD u[n] A=B at*;simp[rW,h6,h7,h8,h9,gi1,gi2,hn,h2,x1,x2,w1,w2,w3,w5,w6,s0,hb2,znW,zgS,znZ,sE,zjs,n12,n21,h1c,hw,Int.add_zero];refine⟨r++[B],0,by simp[hr],?_,hst.2.2,hst.1,⟨?_,?_,?_,?_,?_,?_⟩,hi,?_⟩
     .intro d hd;rcases Z4.1 hd with hd|hd
      .exact dr d hd
      .rw[Z31.1 hd];exact hst.2.1
     all_goals simp[rW,h6,h7,h8,h9,gi1,gi2,n12,n21,hw,hic]
   .have eA:sbA v n br=br:=by simp[sbA,Z48,Z97 (by omega:v.length<=n)]
    rw[eA]at hst sE w5 hA
    by_cases hb:u[n]<br
    .have hb2:((u[n]:Nat):Int)< ((br:Nat):Int):=by omega
     have eD:sbD u[n] br=u[n]+4294967296 - br:=by simp[sbD,hb]
     have eB:sbB u[n] br=1:=by simp[sbB,hb]
     have w4:IntKind.u64.wrap (((u[n]:Nat):Int)+4294967296)=((u[n]:Nat):Int)+4294967296:=IntWalk.u64_in _ (by omega);have w6:IntKind.u64.wrap (((u[n]:Nat):Int)+4294967296 - ((br:Nat):Int))=((sbD u[n] br:Nat):Int):=by rw[IntWalk.u64_in _ (by omega)];omega
     rw[eB]at hst;clear eD eB;generalize sbD u[n] br=B at*;simp[rW,h6,h7,h8,h9,gi1,gi2,hn,h2,x1,w1,w4,w5,w6,s1,hb2,znW,zgS,znZ,sE,zjs,n12,n21,h1c,hw];refine⟨r++[B],1,by simp[hr],?_,hst.2.2,hst.1,⟨?_,?_,?_,?_,?_,?_⟩,hi,?_⟩
     .intro d hd;rcases Z4.1 hd with hd|hd
      .exact dr d hd
      .rw[Z31.1 hd];exact hst.2.1
     all_goals simp[rW,h6,h7,h8,h9,gi1,gi2,n12,n21,hw,hic]
    .have hb2:¬((u[n]:Nat):Int)< ((br:Nat):Int):=by omega
     have eD:sbD u[n] br=u[n] - br:=by simp[sbD,hb]
     have eB:sbB u[n] br=0:=by simp[sbB,hb]
     have w6:IntKind.u64.wrap (((u[n]:Nat):Int) - ((br:Nat):Int))=((sbD u[n] br:Nat):Int):=by rw[IntWalk.u64_in _ (by omega)];omega
     rw[eB]at hst;clear eD eB;generalize sbD u[n] br=B at*;simp[rW,h6,h7,h8,h9,gi1,gi2,hn,h2,x1,w1,w5,w6,s0,hb2,znW,zgS,znZ,sE,zjs,n12,n21,h1c,hw,Int.add_zero];refine⟨r++[B],0,by simp[hr],?_,hst.2.2,hst.1,⟨?_,?_,?_,?_,?_,?_⟩,hi,?_⟩
     .intro d hd;rcases Z4.1 hd with hd|hd
      .exact dr d hd
      .rw[Z31.1 hd];exact hst.2.1
     all_goals simp[rW,h6,h7,h8,h9,gi1,gi2,n12,n21,hw,hic]
  .rintro s ⟨r,br,hr,dr,hbr,hS,⟨h6,h7,h8,h9,gi1,gi2⟩,hi,hic⟩;simp[rW,h6,h9];exact⟨r,br,hr,dr,hbr,hS,⟨by simp[rW,h6],by simp[rW,h7],by simp[rW,h8],by simp[rW,h9],by simp[rW,gi1],by simp[rW,gi2]⟩,hi,by simp[rW,hic]⟩
  .simp[nv]
  .simp[rW]
  .simp[rW]
  .simp[rW]
  .simp[rW]
  .simp[rW,g1]
  .simp[rW,g2]
  .simp[rW]<;>omega
  .rintro x s ⟨rfl,r,br,hr,dr,hbr,hS,⟨h6,h7,h8,h9,gi1,gi2⟩,hi,hic⟩;have hend:=zPs hr dr hbr hle h hS;have gr:s.h.get i1=some (.arr 1 0 (dE r)):=by rw[gi1];simp
   simp[rW,h6];have rr:Rd1 s.h s.c (.sl i1 0 u.length 1 l1 e1) r:=by
    have:=zk9 (c:=s.c) (lim:=l1) (ex:=e1) gr (by omega);rw[hr]at this;exact this
   refine zez rfl rfl (zdD (rr.up (by simp only[rG];omega) (fun id _=>by simp only[rG])) (by omega)) ?_;rintro d3 h3 c3 lw3 mx3 ⟨ho3,hf3⟩ hc3;simp only[rG]at ho3 hf3 hc3;obtain⟨rd,hfz⟩ :∃rd,frz h3.get 11 d3=some (.sl 1 (dF (nrm r)),rd):=ho3.frz 9
   simp[rW,ho3.cells,hfz];refine⟨nrm r,.inl rfl,zdZ dr,zdG r,?_,?_⟩
   .rw[zhZ,hend]
   .have:=zeh r;omega
 obtain⟨w,⟨z,rfl,hz⟩,ha⟩ :=main;exact⟨z,hz,ha⟩
def fn171:pr.fn 171=some zBz:=by kernel_rfl
def fn174:pr.fn 174=some zBC:=by kernel_rfl
def tnA(a b:Nat):((a:Int)+(b:Int)).toNat=a+b:=by omega
def tpA(a b:Nat):((0:Int)<=(a:Int)+(b:Int))=True:=by simp only[eq_iff_iff,iff_true];omega
def zxo{h:T Ob}{lo c:Nat}{d:D}{l:List Nat}(hg:Gro h lo c 1 d (dE l)):Rd1 h c d l:=by
 rcases hg with⟨rfl,he⟩ |⟨id,ro,rfl,he,ho,hr,hl,hc⟩
 .have:l=[]:=by simpa [dE]using he
  subst this;exact zdH (.inr ⟨rfl,rfl⟩) _ _
 .rw[zeE];exact zk9 ho hc
def H171(x:F)(a:List Nat)(n:Nat)(s:St):Prop:=∃dd,(s.tm.get 0=some (.f x)/\s.tm.get 3=some (dd)/\s.tm.get 4=some (.f (.i .i64 n)))/\Gro s.h 0 s.c 1 dd (dE (hfl a n))
def zpO{x:F}{a:List Nat}(hx:NF x a)(da:Dg a)(la:a.length<100000):∃z,(zlU z fun l=>nv l=nv a/2/\l.length<=a.length)/\Ans pr 171 [x] z:=by
 refine zdR fn171 ?_;simp only[zBz,rU];simp[rW,st0,zal,zak hx];refine zex a.length (H171 x a) (fun e s=>e= .exit 0/\H171 x a a.length s) ?_ ?_ _ ⟨.f .nils,⟨?_,?_,?_⟩,.inl ⟨rfl,rfl⟩⟩ ?_
 .rintro n s hn ⟨dd,⟨h0,h3,h4⟩,hg⟩;have hw:=zaB n (by omega);have hr:=zdH hx s.h s.c;have hlen:=hr.len;obtain⟨p1,rd1,i1,k1⟩ :=hr.get n hn;have k1:=k1 s.h fun _ _=>rfl
  have hdn:=da _ (Z1 hn);have hS:=zOo a n;have hL:=zsU a n
  by_cases h2:n+1<a.length
  .obtain⟨p2,rd2,i2,k2⟩ :=hr.get (n+1) h2;have k2:=k2 s.h fun _ _=>rfl
   have h2':(n:Int)+1< (a.length:Int):=by omega
   have tn:((n:Int)+1).toNat=n+1:=by omega
   have tp:(0:Int)<=(n:Int)+1:=by omega
   have e1:=zRE (a[n]/2) (a[n+1]%2) (by omega) (by omega);have eH:hfd a n=a[n]/2+2147483648*(a[n+1]%2):=by simp[hfd,Z48,Z0 hn,Z0 h2]
   have e2:=zwp a[n];have e3:=zDZ a[n+1];rw[<-eH]at e1;generalize a[n]/2=A1 at*;generalize 2147483648*(a[n+1]%2)=A2 at*;simp[rW,h0,h3,h4,hn,hlen,i1,k1,i2,k2,hw,h2,h2',e1,e2,e3,tn,tp];refine zb6 hg (by omega) (by simp[zeE];omega) (by omega) ?_;intro r hr1 hr2 hr3 hr4 hr5;refine⟨hr1,?_⟩;refine⟨r.d,⟨by simp[rW,h0],by simp[rW],by simp[rW,hw]⟩,?_⟩;rw[hS,ziw];simp[rW];exact hr2
  .have h2':¬(n:Int)+1< (a.length:Int):=by omega
   have e2:=zwp a[n];have eH:hfd a n=a[n]/2:=by simp[hfd,Z48,Z0 hn,Z97 (by omega:a.length<=n+1)]
   rw[<-eH]at e2;simp[rW,h0,h3,h4,hn,hlen,i1,k1,hw,h2,h2',e2];refine zb6 hg (by omega) (by simp[zeE];omega) (by omega) ?_;intro r hr1 hr2 hr3 hr4 hr5;refine⟨hr1,?_⟩;refine⟨r.d,⟨by simp[rW,h0],by simp[rW],by simp[rW,hw]⟩,?_⟩;rw[hS,ziw];simp[rW];exact hr2
 .rintro s ⟨dd,⟨h0,h3,h4⟩,hg⟩;have hlen:=(zdH hx s.h s.c).len;simp[rW,h0,h4,hlen];exact⟨dd,⟨by simp[rW,h0],by simp[rW,h3],by simp[rW,h4]⟩,by simp[rW];exact hg⟩
 .simp[rW]
 .simp[rW]
 .simp[rW]
 .rintro e s ⟨rfl,dd,⟨h0,h3,h4⟩,hg⟩;have hr:=zxo hg;simp[rW,h3];refine zez rfl rfl (zdD (hr.up (by simp only[rG];omega) (fun id _=>by simp only[rG])) (by rw[zsU];omega)) ?_;rintro d3 h3 c3 lw3 mx3 ⟨ho3,hf3⟩ hc3;simp only[rG]at ho3 hf3 hc3;obtain⟨rd,hfz⟩ :∃rd,frz h3.get 12 d3=some (.sl 1 (dF (nrm (hfl a a.length))),rd):=ho3.frz 10
  simp[rW,hfz];refine⟨_,.inl rfl,zdZ (zR0 da _),zdG _,?_,?_⟩
  .rw[zhZ,zLL]
  .have:=zeh (hfl a a.length);rw[zsU]at this;exact this
def H174(x:F)(n:Nat)(s:St):Prop:=∃dd l,∃b:Nat,b<4294967296/\l.length=n/\Dg l/\(s.tm.get 0=some (.f x)/\s.tm.get 1=some (.f (.i .u32 b))/\s.tm.get 5=some (dd)/\s.tm.get 6=some (.f (.i .i64 n)))/\Gro s.h 0 s.c 1 dd (dE l)
def ziZ{l:List Nat}{d:Nat}(h:Dg l)(hd:d<4294967296):Dg (l++[d]):=by
 intro x hx;rcases Z4.1 hx with hx|hx
 .exact h x hx
 .rw[Z31.1 hx];exact hd
def zDP{x:F}{a:List Nat}(hx:NF x a)(da:Dg a)(la:a.length<90000)(b:Nat)(hb:b<4294967296):∃z,(zlU z fun l=>l.length<=a.length+1)/\Ans pr 174 [x,.i .u32 b] z:=by
 refine zdR fn174 ?_;simp only[zBC,rU];simp[rW,st0,zal,zak hx];refine zex a.length (H174 x) (fun e s=>e= .exit 0/\H174 x a.length s) ?_ ?_ _ ⟨.f .nils,[],b,hb,rfl,fun _ h=>by simp at h,⟨?_,?_,?_,?_⟩,.inl ⟨rfl,rfl⟩⟩ ?_
 .rintro n s hn ⟨dd,l,b,hb,hl,dl,⟨h0,h1,h5,h6⟩,hg⟩;have hw:=zaB n (by omega);have hr:=zdH hx .e 0;have hlen:=hr.len;obtain⟨p1,rd1,i1,k1⟩ :=hr.get n hn;have k1:∀h':T Ob,zcb false 1 h'.get p1=some (.f (.i .u32 (a[n]:Nat)),rd1):=fun h'=>k1 h' fun _ h=>absurd h (by omega)
  have hdn:=da _ (Z1 hn);obtain⟨z1,hz1,e1⟩ :=zzP (a[n]:Nat) 1;obtain⟨z2,hz2,e2⟩ :=zFw (z1:Int) b;have e1:zaN .shl (.i .u32 ((a[n]:Nat):Int)) (.i .u64 1)=some (.i .u32 (z1:Int)):=e1;have e3:=zD1 a[n];simp[rW,h0,h1,h5,h6,hn,hlen,i1,k1,e1,e2];refine zb6 hg (by omega) (by simp[zeE];omega) (by omega) ?_;intro r hr1 hr2 hr3 hr4 hr5;refine⟨hr1,?_⟩;simp[rW,h0,h1,h5,h6,i1,k1,e3,hw];refine⟨r.d,l++[z2],a[n]/2147483648,by omega,by simp[hl],ziZ dl hz2,⟨by simp[rW,h0],by simp[rW],by simp[rW],by simp[rW,hw]⟩,?_⟩;rw[ziw];simp[rW];exact hr2
 .rintro s ⟨dd,l,b,hb,hl,dl,⟨h0,h1,h5,h6⟩,hg⟩;have hlen:=(zdH hx s.h s.c).len;simp[rW,h0,h6,hlen];exact⟨dd,l,b,hb,hl,dl,⟨by simp[rW,h0],by simp[rW,h1],by simp[rW,h5],by simp[rW,h6]⟩,by simp[rW];exact hg⟩
 .simp[rW]
 .simp[rW]
 .simp[rW]
 .simp[rW]
 .rintro e s ⟨rfl,dd,l,b,hb,hl,dl,⟨h0,h1,h5,h6⟩,hg⟩;simp[rW,h1,h5];refine zb6 hg (by omega) (by simp[zeE];omega) (by omega) ?_;intro r hr1 hr2 hr3 hr4 hr5;refine⟨hr1,?_⟩;have hr2:Gro (wrT s.h r.wr) 0 r.c 1 r.d (dE (l++[b])):=by rw[ziw];exact hr2
  have hr:=zxo hr2;refine zez rfl rfl (zdD (hr.up (by simp only[rG];omega) (fun id _=>by simp only[rG])) (by simp;omega)) ?_;rintro d3 h3 c3 lw3 mx3 ⟨ho3,hf3⟩ hc3;simp only[rG]at ho3 hf3 hc3;obtain⟨rd,hfz⟩ :∃rd,frz h3.get 12 d3=some (.sl 1 (dF (nrm (l++[b]))),rd):=ho3.frz 10
  simp[rW,hfz];refine⟨_,.inl rfl,zdZ (ziZ dl hb),zdG _,?_⟩;have:=zeh (l++[b]);simp at this;omega
def fn83:pr.fn 83=some g83:=by kernel_rfl
def fn209:pr.fn 209=some zBD:=by kernel_rfl
def zsH(l:List Nat)(n:Nat)(z:Nat):(dE l).set n [D.f (.i .u32 (z:Nat))]=dE (l.set n z):=by simp[dE,Z116]
def zwD{l:List Nat}{d n:Nat}(h:Dg l)(hd:d<4294967296):Dg (l.set n d):=by
 intro x hx;rcases Z156 hx with hx|rfl
 .exact h x hx
 .exact hd
def zmC(a b:Nat)(ha:a<1000000)(hb:b<1000000):IntKind.i64.wrap ((a:Int)+b)=((a+b:Nat):Int):=by
 rw[wrap_i64 _ (by omega) (by omega)];omega
def P83(x y:F)(a b:List Nat)(i:Nat)(s:St):Prop:=∃l,l.length=a.length+b.length/\Dg l/\(s.tm.get 0=some (.f x)/\s.tm.get 1=some (.f y)/\s.tm.get 5=some (.sl 0 0 (a.length+b.length) 1 (a.length+b.length) true)/\s.tm.get 6=some (.f (.i .i64 i))/\s.h.get 0=some (.arr 1 0 (dE l)))/\1<=s.c
def Q83(x y:F)(a b:List Nat)(i k:Nat)(s:St):Prop:=P83 x y a b i s/\s.tm.get 8=some (.f (.i .i64 k))/\∃c:Int,s.tm.get 7=some (.f (.i .u64 c))
def zpQ{x y:F}{a b:List Nat}(hx:NF x a)(hy:NF y b)(da:Dg a)(db:Dg b)(la:a.length<10000)(lb:b.length<10000):∃z,(zlU z fun l=>l.length<=a.length+b.length)/\Ans pr 83 [x,y] z:=by
 refine zdR fn83 ?_;simp only[g83,rU];have hla:=(zdH hx .e 0).len;have hlb:=(zdH hy .e 0).len;have hadd:=zmC a.length b.length (by omega) (by omega);have m1:a.length+b.length<=zax:=by have:=zaH (n:=a.length+b.length) (by omega);simpa using this
 have m2:(a.length+b.length)*4<=zax:=by have:=zaH (n:=(a.length+b.length)*4) (by omega);simpa using this
 simp[rW,tnA,tpA,st0,zal,zak hx,zak hy,hla,hlb,hadd,m1,m2];refine zex a.length (P83 x y a b) (fun e s=>e= .exit 0/\P83 x y a b a.length s) ?_ ?_ _ ⟨List.replicate (a.length+b.length) 0,by simp,?_,⟨?_,?_,?_,?_,?_⟩,?_⟩ ?_
 .rintro i s hi ⟨l,hl,dl,⟨h0,h1,h5,h6,g0⟩,hc⟩;have hwi:=zaB i (by omega);simp[rW,tnA,tpA,h0,h1,h5,h6,g0,hi,hla];refine zex b.length (Q83 x y a b i) (fun e s=>e= .exit 2/\Q83 x y a b i b.length s) ?_ ?_ _ ⟨⟨l,hl,dl,⟨?_,?_,?_,?_,?_⟩,?_⟩,?_,0,?_⟩ ?_
  .clear h0 h1 h5 h6 g0 hc dl hl l s;rintro k s hk ⟨⟨l,hl,dl,⟨h0,h1,h5,h6,g0⟩,hc⟩,h8,c,h7⟩;have hwk:=zaB k (by omega);have hik:=zmC i k (by omega) (by omega);have hikl:i+k<l.length:=by omega
   have hikl2:i+k<a.length+b.length:=by omega
   obtain⟨p1,rd1,i1,k1⟩ :=(zdH hx s.h s.c).get i hi;obtain⟨p2,rd2,i2,k2⟩ :=(zdH hy s.h s.c).get k hk;have k1:=k1 s.h fun _ _=>rfl
   have k2:=k2 s.h fun _ _=>rfl
   have x1:=zjr l (i+k) hikl;have c0:0<s.c:=by omega
   simp[rW,tnA,tpA,h0,h1,h5,h6,h7,h8,g0,hk,hlb];refine zaq ?_;simp[rW,tnA,tpA,h0,h1,h5,h6,h7,h8,g0,i1,k1,i2,k2,hik,hikl2,x1,zgS,zNg];generalize hC:IntKind.u64.wrap (IntKind.u64.wrap (c+IntKind.u64.wrap ((l[i+k]:Nat):Int))+IntKind.u64.wrap (IntKind.u64.wrap ((a[i]:Nat):Int)*IntKind.u64.wrap ((b[k]:Nat):Int)))=C;obtain⟨z,hz,eZ⟩ :=zic C;have sE:=zsH l (i+k) z;simp[rW,tnA,tpA,h0,h1,h5,h6,h7,h8,g0,hik,hikl2,x1,eZ,sE,zjs,znY,hwk,c0];refine⟨⟨l.set (i+k) z,by simp[hl],zwD dl hz,⟨?_,?_,?_,?_,?_⟩,?_⟩,?_,C.fdiv 4294967296,?_⟩
   all_goals simp[rW,tnA,tpA,h0,h1,h5,h6,h7,h8,g0,hwk,hc]
  .clear h0 h1 h5 h6 g0 hc dl hl l s;rintro s ⟨⟨l,hl,dl,⟨h0,h1,h5,h6,g0⟩,hc⟩,h8,c,h7⟩;simp[rW,tnA,tpA,h0,h1,h5,h6,h7,h8,g0,hlb];exact⟨⟨l,hl,dl,⟨by simp[rW,tnA,tpA,h0],by simp[rW,tnA,tpA,h1],by simp[rW,tnA,tpA,h5],by simp[rW,tnA,tpA,h6],by simp[rW,tnA,tpA,g0]⟩,by simp[rW,hc]⟩,by simp[rW,h8],c,by simp[rW,h7]⟩
  .simp[rW,h0]
  .simp[rW,h1]
  .simp[rW,h5]
  .simp[rW,h6]
  .simp[rW,g0]
  .simp[rW,hc]
  .simp[rW]
  .simp[rW]
  .clear h0 h1 h5 h6 g0 hc dl hl l s;rintro e s ⟨rfl,⟨l,hl,dl,⟨h0,h1,h5,h6,g0⟩,hc⟩,h8,c,h7⟩;have hib:=zmC i b.length (by omega) (by omega);have hbl:i+b.length<l.length:=by omega
   have hbl2:i<a.length:=hi;have x1:=zjr l (i+b.length) hbl;have c0:0<s.c:=by omega
   obtain⟨z,hz,eZ⟩ :=zic c;have sE:=zsH l (i+b.length) z;simp[rW,tnA,tpA,h0,h1,h5,h6,h7,h8,g0,hlb,hib,hbl2,x1,eZ,sE,zjs,hwi,c0];refine⟨l.set (i+b.length) z,by simp[hl],zwD dl hz,⟨?_,?_,?_,?_,?_⟩,?_⟩
   all_goals simp[rW,tnA,tpA,h0,h1,h5,h6,g0,hwi,hc]
 .rintro s ⟨l,hl,dl,⟨h0,h1,h5,h6,g0⟩,hc⟩;simp[rW,tnA,tpA,h0,h1,h5,h6,g0,hla];exact⟨l,hl,dl,⟨by simp[rW,tnA,tpA,h0],by simp[rW,tnA,tpA,h1],by simp[rW,tnA,tpA,h5],by simp[rW,tnA,tpA,h6],by simp[rW,tnA,tpA,g0]⟩,by simp[rW,hc]⟩
 .intro d hd;rw[List.eq_of_mem_replicate hd];decide
 .simp[rW]
 .simp[rW]
 .simp[rW]
 .simp[rW]
 .simp[rW,dE]
 .simp[rW]
 .rintro e s ⟨rfl,l,hl,dl,⟨h0,h1,h5,h6,g0⟩,hc⟩;have rr:Rd1 s.h s.c (.sl 0 0 (a.length+b.length) 1 (a.length+b.length) true) l:=by
   have:=zk9 (c:=s.c) (lim:=a.length+b.length) (ex:=true) g0 (by omega);rw[hl]at this;exact this
  simp[rW,tnA,tpA,h5];refine zez rfl rfl (zdD (rr.up (by simp only[rG];omega) (fun id _=>by simp only[rG])) (by omega)) ?_;rintro d3 h3 c3 lw3 mx3 ⟨ho3,hf3⟩ hc3;simp only[rG]at ho3 hf3 hc3;obtain⟨rd,hfz⟩ :∃rd,frz h3.get 12 d3=some (.sl 1 (dF (nrm l)),rd):=ho3.frz 10
  simp[rW,hfz];refine⟨_,.inl rfl,zdZ dl,zdG _,?_⟩;have:=zeh l;omega
def A209(x y:F)(n:Nat)(s:St):Prop:=∃dd l,∃c:Int,l.length=n/\Dg l/\(s.tm.get 0=some (.f x)/\s.tm.get 1=some (.f y)/\s.tm.get 5=some (dd)/\s.tm.get 6=some (.f (.i .u64 c))/\s.tm.get 7=some (.f (.i .i64 n)))/\Gro s.h 0 s.c 1 dd (dE l)
def zRB{x y:F}{a b:List Nat}(hx:NF x a)(hy:NF y b)(da:Dg a)(db:Dg b)(M:Nat)(la:a.length<=M)(lb:b.length<=M)(hM:M<10000):∃z,(zlU z fun l=>l.length<=M+1)/\Ans pr 209 [x,y] z:=by
 refine zdR fn209 ?_;simp only[zBD,rU];simp[rW,st0,zal,zak hx,zak hy];refine zex (max a.length b.length) (A209 x y) (fun e s=>e= .exit 0/\A209 x y (max a.length b.length) s) ?_ ?_ _ ⟨.f .nils,[],0,rfl,fun _ h=>by simp at h,⟨?_,?_,?_,?_,?_⟩,.inl ⟨rfl,rfl⟩⟩ ?_
 .rintro n s hn ⟨dd,l,c,hl,dl,⟨h0,h1,h5,h6,h7⟩,hg⟩;have hw:=zaB n (by omega);have hra:=zdH hx s.h s.c;have hrb:=zdH hy s.h s.c;have hla:=hra.len;have hlb:=hrb.len;have fin:∀C:Int,∃z:Nat,z<4294967296/\IntKind.u32.wrap C=(z:Int):=zic
  by_cases ha:n<a.length
  .obtain⟨p1,rd1,i1,k1⟩ :=hra.get n ha;have k1:=k1 s.h fun _ _=>rfl
   by_cases hb:n<b.length
   .obtain⟨p2,rd2,i2,k2⟩ :=hrb.get n hb;have k2:=k2 s.h fun _ _=>rfl
    obtain⟨z,hz,eZ⟩ :=fin (IntKind.u64.wrap (IntKind.u64.wrap (c+IntKind.u64.wrap ((a[n]:Nat):Int))+IntKind.u64.wrap ((b[n]:Nat):Int)));simp[rW,h0,h1,h5,h6,h7,ha,hb,hla,hlb,i1,k1,i2,k2,zgS,eZ];refine zb6 hg (by omega) (by simp[zeE];omega) (by omega) ?_;intro r hr1 hr2 hr3 hr4 hr5;refine⟨hr1,?_⟩;simp[rW,h0,h1,h5,h6,h7,znY,hw];refine⟨r.d,l++[z],(IntKind.u64.wrap (IntKind.u64.wrap (c+IntKind.u64.wrap ((a[n]:Nat):Int))+IntKind.u64.wrap ((b[n]:Nat):Int))).fdiv 4294967296,by simp[hl],ziZ dl hz,⟨by simp[rW,h0],by simp[rW,h1],by simp[rW],by simp[rW],by simp[rW,hw]⟩,?_⟩;rw[ziw];simp[rW];exact hr2
   .obtain⟨z,hz,eZ⟩ :=fin (IntKind.u64.wrap (c+IntKind.u64.wrap ((a[n]:Nat):Int)));simp[rW,h0,h1,h5,h6,h7,ha,hb,hla,hlb,i1,k1,zgS,eZ];refine zb6 hg (by omega) (by simp[zeE];omega) (by omega) ?_;intro r hr1 hr2 hr3 hr4 hr5;refine⟨hr1,?_⟩;simp[rW,h0,h1,h5,h6,h7,znY,hw];refine⟨r.d,l++[z],(IntKind.u64.wrap (c+IntKind.u64.wrap ((a[n]:Nat):Int))).fdiv 4294967296,by simp[hl],ziZ dl hz,⟨by simp[rW,h0],by simp[rW,h1],by simp[rW],by simp[rW],by simp[rW,hw]⟩,?_⟩;rw[ziw];simp[rW];exact hr2
  .have hb:n<b.length:=by omega
   obtain⟨p2,rd2,i2,k2⟩ :=hrb.get n hb;have k2:=k2 s.h fun _ _=>rfl
   obtain⟨z,hz,eZ⟩ :=fin (IntKind.u64.wrap (c+IntKind.u64.wrap ((b[n]:Nat):Int)));simp[rW,h0,h1,h5,h6,h7,ha,hb,hla,hlb,i2,k2,zgS,eZ];refine zb6 hg (by omega) (by simp[zeE];omega) (by omega) ?_;intro r hr1 hr2 hr3 hr4 hr5;refine⟨hr1,?_⟩;simp[rW,h0,h1,h5,h6,h7,znY,hw];refine⟨r.d,l++[z],(IntKind.u64.wrap (c+IntKind.u64.wrap ((b[n]:Nat):Int))).fdiv 4294967296,by simp[hl],ziZ dl hz,⟨by simp[rW,h0],by simp[rW,h1],by simp[rW],by simp[rW],by simp[rW,hw]⟩,?_⟩;rw[ziw];simp[rW];exact hr2
 .rintro s ⟨dd,l,c,hl,dl,⟨h0,h1,h5,h6,h7⟩,hg⟩;have hla:=(zdH hx s.h s.c).len;have hlb:=(zdH hy s.h s.c).len;have ha:¬((max a.length b.length:Nat):Int)< (a.length:Int):=by omega
  have hb:¬((max a.length b.length:Nat):Int)< (b.length:Int):=by omega
  have h7':=h7;generalize hmm:max a.length b.length=mm at*;simp[rW,h0,h1,h7,hla,hlb,ha,hb];exact⟨dd,l,c,hl,dl,⟨by simp[rW,h0],by simp[rW,h1],by simp[rW,h5],by simp[rW,h6],by simp[rW,h7]⟩,by simp[rW];exact hg⟩
 .simp[rW]
 .simp[rW]
 .simp[rW]
 .simp[rW]
 .simp[rW]
 .rintro e s ⟨rfl,dd,l,c,hl,dl,⟨h0,h1,h5,h6,h7⟩,hg⟩;obtain⟨z,hz,eZ⟩ :=zic c;simp[rW,h5,h6,eZ];refine zb6 hg (by omega) (by simp[zeE];omega) (by omega) ?_;intro r hr1 hr2 hr3 hr4 hr5;refine⟨hr1,?_⟩;have hr2:Gro (wrT s.h r.wr) 0 r.c 1 r.d (dE (l++[z])):=by rw[ziw];exact hr2
  have hr:=zxo hr2;refine zez rfl rfl (zdD (hr.up (by simp only[rG];omega) (fun id _=>by simp only[rG])) (by simp;omega)) ?_;rintro d3 h3 c3 lw3 mx3 ⟨ho3,hf3⟩ hc3;simp only[rG]at ho3 hf3 hc3;obtain⟨rd,hfz⟩ :∃rd,frz h3.get 12 d3=some (.sl 1 (dF (nrm (l++[z]))),rd):=ho3.frz 10
  simp[rW,hfz];refine⟨_,.inl rfl,zdZ (ziZ dl hz),zdG _,?_⟩;have:=zeh (l++[z]);simp at this;omega
end Go.Proofs.YtkcnnkncapiohaaGreatDoor
end
