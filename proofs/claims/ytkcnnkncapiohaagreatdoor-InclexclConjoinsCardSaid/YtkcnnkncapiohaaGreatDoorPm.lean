/- FromRelations. -/
import Derived.Test.YtkcnnkncapiohaaGreatDoorPl
import Derived.KernelRfl
import Derived.IntWalk
import Derived.Test.YtkcnnkncapiohaaGreatDoorPi
set_option linter.all false
set_option maxRecDepth 100000
set_option maxHeartbeats 4000000
section
namespace Go.Proofs.YtkcnnkncapiohaaGreatDoor
open Go Go.Vse Go.Vse.Sm
def fn37:pr.fn 37=some g37:=by kernel_rfl
def unc(l:List Rl):Nat:=(l.filter fun r=>!r.ce).length
structure OkW(WB:List (D×List (List F)))(WR:List (D×List (Nat×Nat)))(n:Nat):Prop where
 e:WB.map (fun p=>p.2.length)=WR.map fun p=>p.2.length
 b:∀p∈WB,p.2.length<=3/\∀q∈p.2,PPp q
 n:WB.length<=n
structure zkt(B:List (List (List F)))(R:List (List (Nat×Nat))):Prop where
  e:B.map (·.length)=R.map (·.length)
  b:∀p∈B,p.length<=3/\∀q∈p,PPp q
  n:B.length<=9
def IsSp(y:F):Prop:=∃B R,zkt B R/\∃e:Int,y= .tu [.ag [spF B],rfF R,.i .i64 e]
def O37(l:List Rl)(N:Nat)(s:St):Prop:=∃dB dR WB WR,(s.tm.get 0=some (.f (zcj l))/\s.tm.get 2=some (.ptr 0 1 0 0)/\s.tm.get 5=some (.ptr 1 1 0 0)/\s.tm.get 6=some (dR)/\s.h.get 0=some (.arr 1 0 [[.f .nils]])/\s.h.get 1=some (.arr 1 0 [[dB]]))/\zfv s.h s.c dB dR WB WR/\OkW WB WR N/\2<=s.c
def O37.up{l:List Rl}{N:Nat}{s S:St}(H:O37 l N s)(hh:S.h=s.h)(hc:s.c<=S.c)(t0:S.tm.get 0=s.tm.get 0)(t2:S.tm.get 2=s.tm.get 2)(t5:S.tm.get 5=s.tm.get 5)(t6:S.tm.get 6=s.tm.get 6):O37 l N S:=by
 obtain⟨dB,dR,WB,WR,⟨h0,h2,h5,h6,g0,g1⟩,hR,hW,hlo⟩ :=H;exact⟨dB,dR,WB,WR,⟨t0.trans h0,t2.trans h2,t5.trans h5,t6.trans h6,by rw[hh];exact g0,by rw[hh];exact g1⟩,hR.up (fun id _ _=>by rw[hh]) hc,hW,by omega⟩
def J37(l:List Rl)(n:Nat)(s:St):Prop:=O37 l (3*unc (l.take n)) s/\s.tm.get 7=some (.f (.i .i64 n))
def E37(x:Ex)(s:St):Prop:=x= .ret/\∃e:Int,(s.tm.get 2=some (.ptr 0 1 0 0)/\s.tm.get 3=some (.f .nils)/\s.tm.get 4=some (.f (.i .i64 e))/\s.h.get 0=some (.arr 1 0 [[.f .nils]]))/\1<=s.c
def R37(l:List Rl)(x:Ex)(s:St):Prop:=(x= .exit 0/\O37 l (3*unc l) s)\/E37 x s
def K37(l:List Rl)(n k:Nat)(s:St):Prop:=O37 l (3*unc (l.take n)) s/\(s.tm.get 7=some (.f (.i .i64 n))/\s.tm.get 9=some (.f (.i .i64 k)))
def S37(l:List Rl)(n:Nat)(x:Ex)(s:St):Prop:=(x= .exit 2/\O37 l (3*unc (l.take n)) s/\s.tm.get 7=some (.f (.i .i64 n)))\/E37 x s
def M37(l:List Rl)(B:List (List Nat))(n k:Nat)(s:St):Prop:=O37 l (3*unc (l.take n)+k) s/\(s.tm.get 7=some (.f (.i .i64 n))/\s.tm.get 10=some (.f (zfW B))/\s.tm.get 11=some (.f (.i .i64 k)))
def T37(l:List Rl)(B:List (List Nat))(n:Nat)(x:Ex)(s:St):Prop:=x= .exit 4/\O37 l (3*unc (l.take n)+B.length) s/\s.tm.get 7=some (.f (.i .i64 n))
def rfD(l:List (Nat×Nat)):List (List D):=l.map fun p=>[D.f (.i .i64 (p.1:Nat)),D.f (.i .i64 (p.2:Nat))]
def rfD_F(l:List (Nat×Nat)):rfD l=(l.map fun p=>[F.i .i64 (p.1:Nat),F.i .i64 (p.2:Nat)]).map fun a=>a.map D.f:=by
 unfold rfD;rw[Z33];rfl
def N37(l:List Rl)(B:List (List Nat))(n k P:Nat)(h0:T Ob)(dR:D)(j:Nat)(s:St):Prop:=∃(db dr:D) (ps:List (List F)) (rs:List (Nat×Nat)),(s.tm.get 0=some (.f (zcj l))/\s.tm.get 2=some (.ptr 0 1 0 0)/\s.tm.get 5=some (.ptr 1 1 0 0)/\s.tm.get 6=some (dR)/\s.tm.get 7=some (.f (.i .i64 n))/\s.tm.get 10=some (.f (zfW B))/\s.tm.get 11=some (.f (.i .i64 k))/\s.tm.get 12=some (.ptr P 1 0 0)/\s.tm.get 13=some (dr)/\s.tm.get 14=some (.f (.i .i64 j))/\s.h.get P=some (.arr 1 0 [[db]]))/\
 (∀id,id<P->s.h.get id=h0.get id)/\Gro s.h (P+1) s.c 3 db (ps.map fun a=>a.map D.f)/\Gro s.h (P+1) s.c 2 dr (rfD rs)/\NE db dr/\P<s.c/\ps.length=j/\rs.length=j/\∀p∈ps,PPp p
def Y37(l:List Rl)(B:List (List Nat))(n k P:Nat)(h0:T Ob)(dR:D)(j:Nat)(x:Ex)(s:St):Prop:=x= .exit 6/\N37 l B n k P h0 dR j s
def zPw{l:List Rl}{n:Nat}(h:n<l.length):unc (l.take (n+1))=unc (l.take n)+if l[n].ce=true then 0 else 1:=by
 unfold unc;rw[Z105,Z0 h,Z99,Z16];cases h2:l[n].ce<;>simp[h2]
def zsS{h:T Ob}{lo c es:Nat}{d:D}{rows:List (List F)}(hg:Gro h lo c es d (rows.map fun a=>a.map D.f))(hl:2<=lo):Own h 2 c d (slc es rows):=(zoe hg).up (fun _ _=>rfl) hl (Z2 _)
def zEN{h:T Ob}{lo c es:Nat}{d:D}{els:List (List D)}(hg:Gro h lo c es d els):hd8 [[d]]=false:=by
 rcases hg with⟨rfl,_⟩ |⟨id,ro,rfl,_⟩ <;>rfl
def zqP{d1 d2:D}{P:Nat}(h1:∀x,d1.oid=some x->x<P)(h2:∀x,d2.oid=some x->P<=x):NE d1 d2:=fun x hx e=>by
 have:=h1 x hx;have:=h2 x e;omega
def ans37(l:List Rl)(hn8:l.length<=8)(hu:3*unc l<=9)(hl:∀r∈l,zd7 SSp PPp r):∃y,IsSp y/\Ans pr 37 [zcj l] y:=by
  refine zdR fn37 ?_;simp only[g37,rU];have h8:¬(8:Int)< (l.length:Nat):=by omega
  simp[rW,st0,zal,zcY,zdn,h8];refine zbS (fun k s=>∃n:Nat,n<=l.length/\k=l.length - n/\J37 l n s) (R37 l) ?_ l.length _ ⟨0,Z61 _,rfl,⟨.f .nils,.f .nils,[],[],⟨?_,?_,?_,?_,?_,?_⟩,⟨.inl ⟨rfl,rfl⟩,.inl ⟨rfl,rfl⟩,by simp,by simp,fun x hx=>by simp[D.oid]at hx,by simp,by simp⟩,⟨rfl,by simp,by simp⟩,?_⟩,?_⟩ ?_
  . rintro k s ⟨n,hn,rfl,hO,h7⟩;have hw:=zaB n (by omega)
    by_cases hlt:n<l.length
    . have hx:l[n]? =some l[n]:=Z0 hlt;have hrel:=hl _ (Z1 hlt);have hus:=zPw hlt;obtain⟨e,ae⟩ :=zhD zla _ hrel;obtain⟨B,⟨hBn,hBb,hBc⟩,aB⟩ :=ans76 _ hrel;generalize hA:l[n]=r at hx hrel hus ae aB hBb hBc;have qe:=fun k=>zad (k:=k) ae
      have qB:=fun k=>zad (k:=k) aB
      simp only[rlE]at qe qB;have hco:=hrel.co;obtain⟨dB,dR,WB,WR,⟨h0,h2,h5,h6,g0,g1⟩,hRI,hW,hlo⟩ :=id hO;have hd:(zeL r.tu).d= .f (zeL r.tu):=zvI _
      by_cases hee:e=0
      . simp[rW,h0,h2,h5,h6,h7,g0,g1,hlt,zdn,zd5,hx,hA,rlE,hco,hd,qe,hee];refine zbS (fun k s=>∃m:Nat,m<=n/\k=n - m/\K37 l n m s) (S37 l n) ?_ n _ ⟨0,Z61 _,rfl,hO.up ?_ ?_ ?_ ?_ ?_ ?_,?_,?_⟩ ?_
        . clear hO h0 h2 h5 h6 g0 g1 hRI hW hlo h7 dB dR WB WR s;rintro k s ⟨m,hm,rfl,hO,h7,h9⟩;have hwm:=zaB m (by omega);obtain⟨dB,dR,WB,WR,⟨h0,h2,h5,h6,g0,g1⟩,hRI,hW,hlo⟩ :=id hO
          by_cases hmn:m<n
          . have hxm:l[m]? =some l[m]:=Z0 (by omega);have hml:m<l.length:=by omega
            have hc0:0<s.c:=by omega
            generalize hM:l[m]=r2 at hxm
            by_cases hnm:r2.nm=r.nm
            . simp[rW,h0,h2,h5,h6,h7,h9,g0,g1,hmn];refine zaq ?_;simp[rW,h0,h2,h5,h6,h7,h9,g0,g1,hlt,hml,zdn,zd5,hx,hA,hxm,hM,rlE,hnm,hc0];exact .inr ⟨rfl,12,⟨by simp[rW,h2],by simp[rW],by simp[rW],by simp[rW]⟩,by simp[rW]<;>omega⟩
            . simp[rW,h0,h2,h5,h6,h7,h9,g0,g1,hmn];refine zaq ?_;simp[rW,h0,h2,h5,h6,h7,h9,g0,g1,hlt,hml,zdn,zd5,hx,hA,hxm,hM,rlE,hnm,hwm];rw[za1];refine⟨n - (m+1),by omega,m+1,by omega,rfl,hO.up ?_ ?_ ?_ ?_ ?_ ?_,?_,?_⟩
              . simp[rW]
              . simp[rW]<;>omega
              . simp[rW]
              . simp[rW]
              . simp[rW]
              . simp[rW]
              . simp[rW,h7]
              . simp[rW,hwm]
          . have hmn2:m=n:=by omega
            subst hmn2;simp[rW,h7,h9];exact .inl ⟨rfl,hO.up (by simp[rW]) (by simp[rW]) (by simp[rW]) (by simp[rW]) (by simp[rW]) (by simp[rW]),by simp[rW,h7]⟩
        . simp[rW]
        . simp[rW]
        . simp[rW]
        . simp[rW]
        . simp[rW]
        . simp[rW]
        . simp[rW,h7]
        . simp[rW]
        . clear hO h0 h2 h5 h6 g0 g1 hRI hW hlo h7 dB dR WB WR s;rintro x s (⟨rfl,hO,h7⟩ |⟨rfl,hE⟩)
          . obtain⟨dB,dR,WB,WR,⟨h0,h2,h5,h6,g0,g1⟩,hRI,hW,hlo⟩ :=id hO;simp[rW,h0,h7,hlt,zdn,zd5,hx,hA,rlE,hco,hd,qB,zAS];refine zex B.length (M37 l B n) (T37 l B n) ?_ ?_ _ ⟨hO.up (by simp[rW]) (by simp[rW]) (by simp[rW]) (by simp[rW]) (by simp[rW]) (by simp[rW]),by simp[rW,h7],by simp[rW],by simp[rW]⟩ ?_
            . clear hO h0 h2 h5 h6 g0 g1 hRI hW hlo h7 dB dR WB WR s;rintro k s hk ⟨hO,h7,h10,h11⟩;obtain⟨dB,dR,WB,WR,⟨h0,h2,h5,h6,g0,g1⟩,hRI,hW,hlo⟩ :=id hO;have hwk:=zaB k (by omega);have hxb:B[k]? =some B[k]:=Z0 hk;obtain⟨hbl,hbi⟩ :=hBb _ (Z1 hk);generalize hBk:B[k]=b at hxb hbl hbi;obtain⟨P,hP⟩ :∃P,P=s.c:=⟨_,rfl⟩
              have nP0:¬(0=P):=by omega
              have nP1:¬(1=P):=by omega
              have nPa:¬(P=0):=by omega
              have nPb:¬(P=1):=by omega
              simp[rW,h0,h2,h5,h6,h7,h10,h11,g0,g1,hk,zfA,<-hP];refine zex b.length (N37 l B n k P s.h dR) (Y37 l B n k P s.h dR b.length) ?_ ?_ _ ⟨.f .nils,.f .nils,[],[],⟨?_,?_,?_,?_,?_,?_,?_,?_,?_,?_,?_⟩,?_,.inl ⟨rfl,rfl⟩,.inl ⟨rfl,rfl⟩,fun x hx=>by simp[D.oid]at hx,?_,rfl,rfl,by simp⟩ ?_
              . clear hP;have hP2:2<=P:=by omega
                have g0':=g0;have g1':=g1;clear h0 h2 h5 h6 h7 h10 h11 hO;generalize s.h=H0 at*;clear hRI hlo g0 g1;rintro j s hj ⟨db,dr,ps,rs,⟨h0,h2,h5,h6,h7,h10,h11,h12,h13,h14,gP⟩,hfr,hgb,hgr,hne,hPc,hps,hrs,hpp⟩;have hwj:=zaB j (by omega);have hxi:b[j]? =some b[j]:=Z0 hj;have hib:=hbi _ (Z1 hj);generalize hI:b[j]=i at hxi hib;have hxt:r.tu[i]? =some r.tu[i]:=Z0 hib;have hpT:=hrel.p _ (Z1 hib);generalize hTt:r.tu[i]=T at hxt hpT;obtain⟨p0,p1,p2,hpe,d0,d1,d2⟩ :=zcH _ hpT;have qn:=fun k=>zad (k:=k) (zCw _ hpT)
                have htu:tuF T=[valsF T.1,p0,p1,p2]:=by unfold tuF;rw[hpe]
                rw[hpe]at qn;have hix:ixF b= .sl 1 (b.map fun i=>[.i .i64 (i:Nat)]):=rfl;simp[rW,h0,h2,h5,h6,h7,h10,h11,h12,h13,h14,gP,hk,zfA,zkV,hxb,hBk,zw2,hj,hix];refine zaq ?_;simp[rW,h0,h2,h5,h6,h7,h10,h11,h12,h13,h14,gP,hlt,zd5,hx,hA,rlE,hk,zfA,zkV,hxb,hBk,hj,hix,hxi,hI,zjP,hxt,hTt,htu,qn,d0,d1,d2];refine zb6 (new:=[[D.f p0,D.f p1,D.f p2]]) (zbB hgb ?_ fun _ _ _=>rfl) ?_ ?_ (by omega) ?_
                . omega
                . omega
                . simp;omega
                intro r1 hr1 hr2 hr3 hr4 hr5;refine⟨hr1,?_⟩;have bdb:∀x,db.oid=some x->P+1<=x/\x<s.c:=fun x hx=>zbf hgb hx
                have bdr:∀x,dr.oid=some x->P+1<=x/\x<s.c:=fun x hx=>zbf hgr hx
                have eP:(wrT s.h r1.wr).get P=some (.arr 1 0 [[db]]):=by rw[hr4 P (by omega) (zcC hgb (by omega))];exact gP
                have hPr:P<r1.c+1+1:=by omega
                have hce:=zbW hr2;have hh8:=zEN hgb;simp[rW,eP,hce,hPr,hh8];have hgr2:Gro ((wrT s.h r1.wr).set P (.arr 1 0 [[r1.d]])) (P+1) (r1.c+1+1+1) 2 dr (rfD rs):=zgP hgr (fun Y hY=>by
                  have:=bdr Y hY;have i0:¬Y=P:=by omega
                  rw[TG,Z49 i0];exact hr4 Y (by omega) fun e=>hne Y e hY) (by omega)
                refine zb6 (new:=[[D.f (.i .i64 (n:Nat)),D.f (.i .i64 (i:Nat))]]) hgr2 ?_ ?_ ?_ ?_
                . omega
                . simp[rfD];omega
                . omega
                intro r2 hs1 hs2 hs3 hs4 hs5;refine⟨hs1,?_⟩;have hall:∀Y,Y<r1.c->dr.oid≠some Y->¬Y=P->(wrT ((wrT s.h r1.wr).set P (.arr 1 0 [[r1.d]])) r2.wr).get Y=(wrT s.h r1.wr).get Y:=fun Y h1 h2 h3=>by
                  rw[hs4 Y (by omega) h2,TG,Z49 h3]
                refine⟨r1.d,r2.d,ps++[[p0,p1,p2]],rs++[(n,i)],⟨?_,?_,?_,?_,?_,?_,?_,?_,?_,?_,?_⟩,?_,?_,?_,?_,?_,by simp[hps],by simp[hrs],?_⟩
                . simp[rW,h0]
                . simp[rW,h2]
                . simp[rW,h5]
                . simp[rW,h6]
                . simp[rW,h7]
                . simp[rW,h10]
                . simp[rW,h11]
                . simp[rW,h12]
                . simp[rW]
                . simp[rW,hwj]
                . have:=hs4 P (by omega) (fun e=>by have:=bdr P e;omega);simp[TG]at this;simp[rW,this]
                . intro id hid;have e1:=hall id (by omega) (fun e=>by have:=bdr id e;omega) (by omega);have e2:=hr4 id (by omega) (fun e=>by have:=bdb id e;omega);simp[rW,e1,e2];exact hfr id hid
                . have e1:Gro (wrT ((wrT s.h r1.wr).set P (.arr 1 0 [[r1.d]])) r2.wr) (P+1) r2.c 3 r1.d (ps.map (fun a=>a.map D.f)++[[D.f p0,D.f p1,D.f p2]]):=zgP hr2 (fun Y hY=>by
                    have:=zbf hr2 hY;refine hall Y (by omega) (fun e=> ?_) (by omega);have h9:=bdr Y e;rcases hr5 Y hY with h8|h8
                    . omega
                    . exact hne Y h8 e) (by omega)
                  rw[Z20];simp[rW];exact e1
                . have e1:rfD (rs++[(n,i)])=rfD rs++[[D.f (.i .i64 (n:Nat)),D.f (.i .i64 (i:Nat))]]:=by simp[rfD]
                  rw[e1];simp[rW];exact hs2
                . intro x hx e;rcases hr5 x hx with h8|h8
                  . rcases hs5 x e with h9|h9
                    . omega
                    . have:=bdr x h9;omega
                  . have:=bdb x h8;rcases hs5 x e with h9|h9
                    . omega
                    . exact hne x h8 h9
                . simp[rW]<;>omega
                . intro p hp;rcases Z4.1 hp with hp|hp
                  . exact hpp p hp
                  . rw[Z31.1 hp,<-hpe];exact hpT
              . clear hP;have hP2:2<=P:=by omega
                clear h0 h2 h5 h6 h7 h10 h11 hO;generalize s.h=H0 at*;rintro s ⟨db,dr,ps,rs,⟨h0,h2,h5,h6,h7,h10,h11,h12,h13,h14,gP⟩,hfr,hgb,hgr,hne,hPc,hps,hrs,hpp⟩;have hix:ixF b= .sl 1 (b.map fun i=>[.i .i64 (i:Nat)]):=rfl;simp[rW,h0,h2,h5,h6,h7,h10,h11,h12,h13,h14,gP,hk,zfA,zkV,hxb,hBk,zw2,hix];exact⟨rfl,db,dr,ps,rs,⟨by simp[rW,h0],by simp[rW,h2],by simp[rW,h5],by simp[rW,h6],by simp[rW,h7],by simp[rW,h10],by simp[rW,h11],by simp[rW,h12],by simp[rW,h13],by simp[rW,h14],by simp[rW,gP]⟩,by simp[rW];exact hfr,by simp[rW];exact hgb,by simp[rW];exact hgr,hne,by simp[rW,hPc],hps,hrs,hpp⟩
              . simp[rW,h0]
              . simp[rW,h2]
              . simp[rW,h5]
              . simp[rW,h6]
              . simp[rW,h7]
              . simp[rW,h10]
              . simp[rW,h11]
              . simp[rW]
              . simp[rW]
              . simp[rW]
              . simp[rW]
              . intro id hid;have i0:¬id=P:=by omega
                simp[rW,i0]
              . simp[rW]
              . clear h0 h2 h5 h6 h7 h10 h11 hO;have hP2:2<=P:=by omega
                rw[<-hP]at hRI;clear hP;generalize s.h=H0 at*;clear hlo s;rintro x s ⟨rfl,db,dr,ps,rs,⟨h0,h2,h5,h6,h7,h10,h11,h12,h13,h14,gP⟩,hfr,hgb,hgr,hne,hPc,hps,hrs,hpp⟩;have g0':=(hfr 0 (by omega)).trans g0;have g1':=(hfr 1 (by omega)).trans g1;have hR1:zfv s.h s.c dB dR WB WR:=hRI.up (fun id _ h=>hfr id h) (by omega);rw[rfD_F]at hgr;have ob:Own s.h 2 s.c db (slc 3 ps):=zsS hgb (by omega);have or':Own s.h 2 s.c dr (rfE rs):=zsS hgr (by omega);have n1:NE dB db:=zqP (fun x hx=>(zbf hRI.gB hx).2) fun x hx=>by have:=zbf hgb hx;omega
                have n2:NE dR db:=zqP (fun x hx=>(zbf hRI.gR hx).2) fun x hx=>by have:=zbf hgb hx;omega
                have n3:NE dB dr:=zqP (fun x hx=>(zbf hRI.gB hx).2) fun x hx=>by have:=zbf hgr hx;omega
                have n4:NE dR dr:=zqP (fun x hx=>(zbf hRI.gR hx).2) fun x hx=>by have:=zbf hgr hx;omega
                have cb:=zbW hgb;have cr:=zbW hgr;have hd1:∀x,dB.oid=some x->2<=x/\x<P:=fun x hx=>zbf hRI.gB hx
                have hd2:∀x,dR.oid=some x->2<=x/\x<P:=fun x hx=>zbf hRI.gR hx
                have hB8:=zEN hRI.gB;have hWn:=hW.n;have hWe:=congrArg List.length hW.e;simp only[Z18]at hWe;have hun:unc (l.take n)<=l.length:=Z3 (Z76 ..) (by rw[Z41];omega);have lW:WB.length<=1000:=by omega
                have hW2:∀(d1 d2:D),OkW (WB++[(d1,ps)]) (WR++[(d2,rs)]) (3*unc (l.take n)+(k+1)):=fun d1 d2=>⟨by
                  rw[Z20,Z20,hW.e];simp[hps,hrs],fun p hp=>by
                  rcases Z4.1 hp with hp|hp
                  . exact hW.b p hp
                  . rw[Z31.1 hp];exact⟨by simp only;omega,hpp⟩,by simp;omega⟩
                by_cases hb0:b=[]
                . have hps0:ps=[]:=Z17.1 (by rw[hps,hb0];rfl);have hrs0:rs=[]:=Z17.1 (by rw[hrs,hb0];rfl);rcases hgb with⟨rfl,-⟩ |⟨ib,rb,rfl,hn0,-⟩
                  case inr=>exact absurd (by rw[hps0];rfl) hn0
                  rcases hgr with⟨rfl,-⟩ |⟨ir,rr,rfl,hm0,-⟩
                  case inr=>exact absurd (by rw[hrs0];rfl) hm0
                  simp[rW,h0,h2,h5,h6,h7,h10,h11,h12,h13,h14,gP,g1'];refine zb6 (new:=[[.f .nils]]) hR1.gB (by omega) (by simp;omega) ?_ ?_
                  . omega
                  intro r1 hr1 hr2 hr3 hr4 hr5;refine⟨hr1,?_⟩;have hR3:=zL6 hR1 ob n1 n2 hr2 hr3 hr4 hr5;have e1:(wrT s.h r1.wr).get 1=some (.arr 1 0 [[dB]]):=by rw[hr4 1 (by omega) (fun e=>by have:=hd1 1 e;omega)];exact g1'
                  have e0:(wrT s.h r1.wr).get 0=some (.arr 1 0 [[.f .nils]]):=by rw[hr4 0 (by omega) (fun e=>by have:=hd1 0 e;omega)];exact g0'
                  have h1r:1<r1.c:=by omega
                  simp[rW,e1,zbW hr2,hB8,h1r];have hR4:zfv ((wrT s.h r1.wr).set 1 (.arr 1 0 [[r1.d]])) r1.c r1.d dR (WB++[(.f .nils,ps)]) WR:=hR3.up (fun id h1 _=>by
                    have i0:¬id=1:=by omega
                    simp[TG,i0]) (Z2 _)
                  have or2:Own ((wrT s.h r1.wr).set 1 (.arr 1 0 [[r1.d]])) 2 r1.c (.f .nils) (rfE rs):=or'.up (fun x hx=>by simp[D.oid]at hx) (Z2 _) hr3;refine zb6 (new:=[[.f .nils]]) hR4.gR (by omega) (by simp;omega) ?_ ?_
                  . omega
                  intro r2 hs1 hs2 hs3 hs4 hs5;refine⟨hs1,?_⟩;have hR5:=zL9 hR4 or2 (fun x hx e=>by simp[D.oid]at e) n4 hs2 hs3 hs4 hs5;have f0:=hs4 0 (by omega) (fun e=>by have:=hd2 0 e;omega);have f1:=hs4 1 (by omega) (fun e=>by have:=hd2 1 e;omega);simp[TG,e0]at f0 f1;refine⟨⟨r1.d,r2.d,WB++[(.f .nils,ps)],WR++[(.f .nils,rs)],⟨?_,?_,?_,?_,?_,?_⟩,?_,hW2 _ _,?_⟩,?_,?_,?_⟩
                  . simp[rW,h0]
                  . simp[rW,h2]
                  . simp[rW,h5]
                  . simp[rW]
                  . simp[rW,f0]
                  . simp[rW,f1]
                  . simp[rW];exact hR5
                  . simp[rW]<;>omega
                  . simp[rW,h7]
                  . simp[rW,h10]
                  . simp[rW,hwk]
                . have hps0:ps≠[]:=fun e=>hb0 (Z17.1 (by rw[<-hps,e];rfl))
                  have hrs0:rs≠[]:=fun e=>hb0 (Z17.1 (by rw[<-hrs,e];rfl))
                  rcases hgb with⟨-,he⟩ |⟨ib,rb,rfl,hn0,gb,hb1,hb2,hb3⟩
                  . exact absurd (by simpa using he) hps0
                  rcases hgr with⟨-,he⟩ |⟨ir,rr,rfl,hm0,gr,hc1,hc2,hc3⟩
                  . exact absurd (by simpa using he) hrs0
                  simp only[Z18]at gP ob n1 n2 n3 n4 cb cr hne or' h13;simp[rW,h0,h2,h5,h6,h7,h10,h11,h12,h13,h14,gP,g1',zvw];have hR2:zfv (s.h.set s.c (.arr 1 0 [[.sl ib 0 ps.length 3 ps.length false]])) (s.c+1) dB dR WB WR:=hR1.up (fun id _ h2=>by
                    have i0:¬id=s.c:=by omega
                    simp[TG,i0]) (by omega)
                  have ob2:Own (s.h.set s.c (.arr 1 0 [[.sl ib 0 ps.length 3 ps.length false]])) 2 (s.c+1) (.sl ib 0 ps.length 3 ps.length false) (slc 3 ps):=ob.up (fun x hx=>by
                    simp only[D.oid,Z45]at hx;have i0:¬x=s.c:=by omega
                    simp[TG,i0]) (Z2 _) (by omega)
                  refine zb6 (new:=[[.sl ib 0 ps.length 3 ps.length false]]) hR2.gB (by omega) (by simp;omega) ?_ ?_
                  . omega
                  intro r1 hr1 hr2 hr3 hr4 hr5;refine⟨hr1,?_⟩;have hR3:=zL6 hR2 ob2 n1 n2 hr2 hr3 hr4 hr5;have e1:=hr4 1 (by omega) (fun e=>by have:=hd1 1 e;omega);have e0:=hr4 0 (by omega) (fun e=>by have:=hd1 0 e;omega);have er:=hr4 ir (by omega) (fun e=>n3 ir e rfl);have ns0:¬0=s.c:=by omega
                  have ns1:¬1=s.c:=by omega
                  have nsr:¬ir=s.c:=by omega
                  simp only[TG,ns0,ns1,nsr,Z63,g0',g1',gr]at e0 e1 er;have h1r:1<r1.c:=by omega
                  simp[rW,e1,zbW hr2,hB8,h1r,zvw];have hR4:zfv (((wrT (s.h.set s.c (.arr 1 0 [[.sl ib 0 ps.length 3 ps.length false]])) r1.wr).set 1 (.arr 1 0 [[r1.d]])).set r1.c (.arr 1 0 [[.sl ir 0 rs.length 2 rs.length false]])) (r1.c+1) r1.d dR (WB++[(.sl ib 0 ps.length 3 ps.length false,ps)]) WR:=hR3.up (fun id h1 h2=>by
                    have i0:¬id=1:=by omega
                    have i1:¬id=r1.c:=by omega
                    simp[TG,i0,i1]) (by omega)
                  have or2:Own (((wrT (s.h.set s.c (.arr 1 0 [[.sl ib 0 ps.length 3 ps.length false]])) r1.wr).set 1 (.arr 1 0 [[r1.d]])).set r1.c (.arr 1 0 [[.sl ir 0 rs.length 2 rs.length false]])) 2 (r1.c+1) (.sl ir 0 rs.length 2 rs.length false) (rfE rs):=or'.up (fun x hx=>by
                    simp only[D.oid,Z45]at hx;subst hx;have i0:¬ir=1:=by omega
                    have i1:¬ir=r1.c:=by omega
                    simp only[TG,i0,i1,Z63,er,gr]) (Z2 _) (by omega)
                  refine zb6 (new:=[[.sl ir 0 rs.length 2 rs.length false]]) hR4.gR (by omega) (by simp;omega) ?_ ?_
                  . omega
                  intro r2 hs1 hs2 hs3 hs4 hs5;refine⟨hs1,?_⟩;have hR5:=zL9 hR4 or2 (fun x hx e=>by
                    simp only[D.oid,Z45]at e;rcases hr5 x hx with h8|h8
                    . omega
                    . have:=hd1 x h8;omega) n4 hs2 hs3 hs4 hs5
                  have f0:=hs4 0 (by omega) (fun e=>by have:=hd2 0 e;omega);have f1:=hs4 1 (by omega) (fun e=>by have:=hd2 1 e;omega);have nr0:¬0=r1.c:=by omega
                  have nr1:¬1=r1.c:=by omega
                  simp[TG,e0,nr0,nr1]at f0 f1;refine⟨⟨r1.d,r2.d,_,_,⟨?_,?_,?_,?_,?_,?_⟩,?_,hW2 (.sl ib 0 ps.length 3 ps.length false) (.sl ir 0 rs.length 2 rs.length false),?_⟩,?_,?_,?_⟩
                  . simp[rW,h0]
                  . simp[rW,h2]
                  . simp[rW,h5]
                  . simp[rW]
                  . simp[rW,f0]
                  . simp[rW,f1]
                  . simp[rW];exact hR5
                  . simp[rW]<;>omega
                  . simp[rW,h7]
                  . simp[rW,h10]
                  . simp[rW,hwk]
            . rintro s ⟨hO,h7,h10,h11⟩;simp[rW,h10,h11,zfA];exact⟨rfl,hO.up (by simp[rW]) (by simp[rW]) (by simp[rW]) (by simp[rW]) (by simp[rW]) (by simp[rW]),by simp[rW,h7]⟩
            . rintro x s ⟨rfl,hO,h7⟩;have hle:3*unc (l.take n)+B.length<=3*unc (l.take (n+1)):=by
                rw[hus]
                by_cases hce:r.ce=true
                . rw[hBc hce,Z51 hce];simp
                . rw[Z49 hce];omega
              simp[rW,h7,hw];rw[za1];obtain⟨dB,dR,WB,WR,hh,hRI,hW,hlo⟩ :=hO;have hO2:O37 l (3*unc (l.take (n+1))) s:=⟨dB,dR,WB,WR,hh,hRI,⟨hW.e,hW.b,by have:=hW.n;omega⟩,hlo⟩
              exact⟨l.length - (n+1),by omega,n+1,by omega,rfl,hO2.up (by simp[rW]) (by simp[rW]) (by simp[rW]) (by simp[rW]) (by simp[rW]) (by simp[rW]),by simp[rW,hw]⟩
          . simp[rW];exact .inr ⟨rfl,hE⟩
      . have hc0:0<s.c:=by omega
        simp[rW,h0,h2,h5,h6,h7,g0,g1,hlt,zdn,zd5,hx,hA,rlE,hco,hd,qe,hee,hc0];exact .inr ⟨rfl,e,⟨by simp[rW,h2],by simp[rW],by simp[rW],by simp[rW]⟩,by simp[rW]<;>omega⟩
    . have hnl:n=l.length:=by omega
      subst hnl;rw[Z7]at hO;obtain⟨dB,dR,WB,WR,⟨h0,h2,h5,h6,g0,g1⟩,hRI,hW,hlo⟩ :=id hO;simp[rW,h0,h7,zdn];exact .inl ⟨rfl,hO.up (by simp[rW]) (by simp[rW]) (by simp[rW]) (by simp[rW]) (by simp[rW]) (by simp[rW])⟩
  . simp[rW]
  . simp[rW]
  . simp[rW]
  . simp[rW]
  . simp[rW]
  . simp[rW]
  . simp[rW]
  . simp[rW]
  . rintro x s (⟨rfl,dB,dR,WB,WR,⟨h0,h2,h5,h6,g0,g1⟩,hRI,hW,hlo⟩ |⟨rfl,e,⟨h2,h3,h4,g0⟩,hlo⟩)
    . have hc0:0<s.c:=by omega
      simp[rW,h0,h2,h5,h6,g0,g1,hc0,zbW hRI.gB,zCZ];have hR2:zfv (s.h.set 0 (.arr 1 0 [[dB]])) s.c dB dR WB WR:=hRI.up (fun id h1 _=>by
        have i0:¬id=0:=by omega
        simp[TG,i0]) (Z2 _)
      obtain⟨⟨r1,k1⟩,-⟩ :=hR2.frz 7;obtain⟨-,r2,k2⟩ :=hR2.frz 8;have k1:frz (s.h.set 0 (.arr 1 0 [[dB]])).get 10 dB=some (spF (WB.map (·.2)),r1):=k1;have k2:frz (s.h.set 0 (.arr 1 0 [[dB]])).get 11 dR=some (rfF (WR.map (·.2)),r2):=k2;rw[k1,k2];refine⟨WB.map (·.2),WR.map (·.2),⟨?_,fun p hp=> ?_,?_⟩,0,rfl⟩
      . rw[Z33,Z33];exact hW.e
      . obtain⟨q,hq,rfl⟩ :=Z12.1 hp;exact hW.b q hq
      . rw[Z18];have:=hW.n;omega
    . simp[rW,h2,h3,h4,g0,zCZ];exact⟨[],[],⟨rfl,by simp,by simp⟩,e,rfl⟩
def fn16:pr.fn 16=some g16:=by kernel_rfl
def fn77:pr.fn 77=some g77:=by kernel_rfl
def fn81:pr.fn 81=some g81:=by kernel_rfl
def fn44:pr.fn 44=some g44:=by kernel_rfl
def zia(B:List (List (List F))):(spF B).d= .f (spF B):=zeI ..
def zgm(B:List (List (List F))):(D.f (spF B)).cells=some [.f (spF B)]:=zdk _ _
def znG(B:List (List (List F))):zbj (.f (spF B))=some B.length:=by simp[spF,zdp]
def ziS(B:List (List (List F)))(n:Nat):iaB 1 (.f (spF B)) n=(B[n]?).map fun b=>D.fptr [psF b]:=by simp[spF,zd6,psF,Z67]
def znr(B:List (List (Nat×Nat))):(rfF B).d= .f (rfF B):=zeI ..
def zjK(B:List (List (Nat×Nat))):zbj (.f (rfF B))=some B.length:=by simp[rfF,zdp]
def zL4(B:List (List (Nat×Nat)))(n:Nat):iaB 1 (.f (rfF B)) n=(B[n]?).map fun b=>D.fptr [rfE b]:=by simp[rfF,zd6,Z67]
def ziI(b:List (List F)):(psF b).d= .f (psF b):=zeI ..
def zgE(b:List (List F)):(D.f (psF b)).cells=some [.f (psF b)]:=zdk _ _
def zf2(b:List (List F)):zbj (.f (psF b))=some b.length:=by simp[psF,zdp]
def zCS(b:List (List F))(n:Nat):iaB 3 (.f (psF b)) n=(b[n]?).map D.fptr:=by simp[psF,zd6]
def zf4(l:List Rl):(D.f (zcj l)).cells=some [.f (zcj l)]:=zdk _ _
def pgF(l:List Rl):List F:=[zcj l,.nils,.nils,.nils]
def ans16(l:List Rl)(hn8:l.length<=8)(hu:3*unc l<=9)(hl:∀r∈l,zd7 SSp PPp r):∃B R,zkt B R/\Ans pr 16 [.ag (pgF l)] (.tu [.ag [spF B],rfF R]):=by
 obtain⟨y,⟨B,R,hS,e,rfl⟩,ay⟩ :=ans37 l hn8 hu hl;have qy:=fun k=>zad (k:=k) ay
 refine⟨B,R,hS,zbN fn16 ?_⟩;simp only[g16,rU];simp[rW,st0,zal,pgF,zcY,zf4,qy,zia,zgm,znr]
def zJu(b:List (List F))(hl:b.length<=3)(h:∀p∈b,PPp p):∃r,FrP 31 r/\Ans pr 77 [.ag [psF b]] (.ag r):=by
 obtain⟨s,hs,asz⟩ :=zRx b hl fun p hp=>zqo p (h p hp)
 obtain⟨r,hr,ar⟩ :=zDN hs (by omega) (by omega);obtain⟨x0,x1,x2,rfl,d0,d1,d2,-,-,-⟩ :=hs.cells;obtain⟨y0,y1,y2,rfl,i0,i1,i2,j0,j1,j2⟩ :=hr.cells;have q1:=fun k=>zad (k:=k) asz
 have q2:=fun k=>zad (k:=k) ar
 refine⟨_,hr,zbN fn77 ?_⟩;simp only[g77,rU];simp[rW,st0,zal,ziI,zgE,q1,q2,d0,d1,d2,i0,i1,i2,j0,j1,j2]
def ans81(b:List (List F))(hl:b.length<=3)(h:∀p∈b,PPp p)(c:Int)(hc:c<b.length):∃r,FrP 31 r/\Ans pr 81 [.ag [psF b],.i .i64 c] (.ag r):=by
 by_cases h0:c<0
 .obtain⟨r,hr,ar⟩ :=zJu b hl h;obtain⟨y0,y1,y2,rfl,i0,i1,i2,j0,j1,j2⟩ :=hr.cells;have q1:=fun k=>zad (k:=k) ar
  refine⟨_,hr,zbN fn81 ?_⟩;simp only[g81,rU];simp[rW,st0,zal,ziI,zgE,h0,q1,i0,i1,i2,j0,j1,j2]
 .obtain⟨n,rfl⟩ :∃n:Nat,c=n:=⟨c.toNat,by omega⟩
  have hn:n<b.length:=by omega
  have hx:b[n]? =some b[n]:=Z0 hn;have hp:=h _ (Z1 hn);generalize b[n]=p at hx hp;have an:=zCw _ hp;have hr:=(zqo _ hp).up (m:=31) (by omega);obtain⟨y0,y1,y2,rfl,i0,i1,i2,j0,j1,j2⟩ :=hr.cells;have q1:=fun k=>zad (k:=k) an
  refine⟨_,hr,zbN fn81 ?_⟩;simp only[g81,rU];simp[rW,st0,zal,ziI,zgE,h0,zCS,hx,q1,i0,i1,i2,j0,j1,j2]
def wF(w:List Int):F:= .sl 1 (w.map fun k=>[.i .i64 k])
def w_d(w:List Int):(wF w).d= .f (wF w):=rfl
def zDp(w:List Int):(D.f (wF w)).cells=some [.f (wF w)]:=rfl
def zrJ(w:List Int):zbj (.f (wF w))=some w.length:=by simp[wF,zbj]
def znL(w:List Int)(n:Nat):iaB 1 (.f (wF w)) n=(w[n]?).map fun k=>D.fptr [.i .i64 k]:=by simp[wF,zw0,Z67]
structure WOk(B:List (List (List F)))(w:List Int):Prop where
 n:w.length=B.length
 b:∀i (h:i<w.length) (hB:i<B.length),-1<=w[i]/\w[i]<B[i].length
def J44(B:List (List (List F)))(w:List Int)(n:Nat)(s:St):Prop:=∃p0 p1 p2,FrP (1+31*n) [p0,p1,p2]/\(s.tm.get 1=some (.f (wF w))/\s.tm.get 2=some (.ptr 0 1 0 0)/\s.tm.get 4=some (.ptr 1 3 0 0)/\s.tm.get 5=some (.ptr 2 3 0 0)/\s.tm.get 6=some (.f (.i .i64 n))/\s.h.get 0=some (.arr 1 0 [[.f (spF B)]])/\s.h.get 1=some (.arr 3 0 [[.f (.b false),.f .nils,.f .nils]])/\s.h.get 2=some (.arr 3 0 [[.f p0,.f p1,.f p2]]))/\3<=s.c
def ans44{B:List (List (List F))}{R:List (List (Nat×Nat))}(hS:zkt B R){w:List Int}(hw:WOk B w):∃r,FrP 300 r/\Ans pr 44 [.ag [spF B],wF w] (.ag r):=by
 have main:∃y,(∃r,y= .ag r/\FrP 300 r)/\Ans pr 44 [.ag [spF B],wF w] y:=by
  refine zdR fn44 ?_;have q0:=fun k=>zad (k:=k) fi1
  have hB:=hS.n;have hwn:=hw.n;simp only[g44,rU];simp[rW,st0,zal,zia,zgm,w_d,q0];refine zex w.length (J44 B w) (fun e s=>e= .exit 0/\J44 B w w.length s) ?_ ?_ _ ⟨_,_,_,frp1,⟨?_,?_,?_,?_,?_,?_,?_,?_⟩,?_⟩ ?_
  .rintro n s hn ⟨p0,p1,p2,hp,⟨h1,h2,h4,h5,h6,g0,g1,g2⟩,hc⟩;have hwr:=zaB n (by omega);have hnB:n<B.length:=by omega
   have hx:w[n]? =some w[n]:=Z0 hn;have hxb:B[n]? =some B[n]:=Z0 hnB;obtain⟨hb1,hb2⟩ :=hw.b n hn hnB;obtain⟨hl,hP⟩ :=hS.b _ (Z1 hnB);generalize w[n]=c at hx hb1 hb2;generalize B[n]=b at hxb hb2 hl hP;obtain⟨q,hq,aq⟩ :=ans81 b hl hP c hb2;obtain⟨r,hr,ar⟩ :=ans46 hp hq (by omega) (by omega);have e2:1+31*n+31=1+31*(n+1):=by omega
   rw[e2]at hr;obtain⟨x0,x1,x2,rfl,d0,d1,d2,-,-,-⟩ :=hq.cells;obtain⟨y0,y1,y2,rfl,i0,i1,i2,j0,j1,j2⟩ :=hr.cells;have qa:=fun k=>zad (k:=k) aq
   have qb:=fun k=>zad (k:=k) ar
   have c0:0<s.c:=by omega
   have c1:2<s.c:=by omega
   simp[rW,h1,h2,h4,h5,h6,g0,g1,g2,hn,zrJ];refine zaq ?_;simp[rW,h1,h2,h4,h5,h6,g0,g1,g2,ziS,hxb,znL,hx,ziI,zgE,qa,qb,d0,d1,d2,i0,i1,i2,j0,j1,j2,hwr,c0,c1];refine⟨y0,y1,y2,hr,⟨?_,?_,?_,?_,?_,?_,?_,?_⟩,?_⟩
   all_goals simp[rW,h1,h2,h4,h5,h6,g0,g1,g2,hwr,hc]
  .rintro s ⟨p0,p1,p2,hp,⟨h1,h2,h4,h5,h6,g0,g1,g2⟩,hc⟩;simp[rW,h1,h6,zrJ];exact⟨p0,p1,p2,hp,⟨by simp[rW,h1],by simp[rW,h2],by simp[rW,h4],by simp[rW,h5],by simp[rW,h6],by simp[rW,g0],by simp[rW,g1],by simp[rW,g2]⟩,by simp[rW,hc]⟩
  .simp[rW]
  .simp[rW]
  .simp[rW]
  .simp[rW]
  .simp[rW]
  .simp[rW]
  .simp[rW]
  .simp[rW]
  .simp[rW]
  .rintro e s ⟨rfl,p0,p1,p2,hp,⟨h1,h2,h4,h5,h6,g0,g1,g2⟩,hc⟩;have hp:=hp.up (m:=300) (by omega);have c0:1<s.c:=by omega
   simp[rW,h4,h5,g0,g1,g2,c0];exact hp
 obtain⟨_,⟨r,rfl,hr⟩,ha⟩ :=main;exact⟨r,hr,ha⟩
def fn38:pr.fn 38=some g38:=by kernel_rfl
def fn39:pr.fn 39=some g39:=by kernel_rfl
def C38(B:List (List (List F)))(s:St):Prop:=(s.tm.get 1=some (.ptr 0 1 0 0)/\s.h.get 0=some (.arr 1 0 [[.f (spF B)]]))/\1<=s.c
def J38(B:List (List (List F)))(n:Nat)(s:St):Prop:=C38 B s/\s.tm.get 3=some (.f (.i .i64 n))
def R38(x:Ex)(s:St):Prop:=x= .exit 0\/(x= .ret/\∃b,s.tm.get 2=some (.f (.b b)))
def K38(B:List (List (List F)))(b:List (List F))(n k:Nat)(s:St):Prop:=J38 B n s/\∃P,(s.tm.get 4=some (.ptr P 1 0 0)/\s.tm.get 5=some (.f (.i .i64 k))/\s.h.get P=some (.arr 1 0 [[.f (psF b)]]))/\1<=P/\P<s.c
def S38(B:List (List (List F)))(n:Nat)(x:Ex)(s:St):Prop:=(x= .exit 2/\J38 B n s)\/(x= .ret/\∃b,s.tm.get 2=some (.f (.b b)))
def ans38{B:List (List (List F))}{R:List (List (Nat×Nat))}(hS:zkt B R):∃b,Ans pr 38 [.ag [spF B]] (.b b):=by
 have main:∃y,(∃b,y= .b b)/\Ans pr 38 [.ag [spF B]] y:=by
  refine zdR fn38 ?_;have hB:=hS.n;have h0:¬(4096:Int)< (B.length:Nat):=by omega
  simp only[g38,rU];simp[rW,st0,zal,zia,zgm,znG,h0];refine zbS (fun k s=>∃n:Nat,n<=B.length/\k=B.length - n/\J38 B n s) R38 ?_ B.length _ ⟨0,Z61 _,rfl,⟨⟨?_,?_⟩,?_⟩,?_⟩ ?_
  .rintro k s ⟨n,hn,rfl,⟨⟨h1,g0⟩,hc⟩,h3⟩;have hw:=zaB n (by omega)
   by_cases hlt:n<B.length
   .have hx:B[n]? =some B[n]:=Z0 hlt;obtain⟨hl,hP⟩ :=hS.b _ (Z1 hlt);generalize hA:B[n]=b at hx hl hP;obtain⟨r,hr,ar⟩ :=zJu b hl hP;obtain⟨z,az⟩ :=zpP hr (by omega) (by omega);obtain⟨y0,y1,y2,rfl,i0,i1,i2,j0,j1,j2⟩ :=hr.cells;have q1:=fun k=>zad (k:=k) ar
    have q2:=fun k=>zad (k:=k) az
    have h16:¬(16:Int)< (b.length:Nat):=by omega
    have h17:((b.length:Nat):Int)<=16:=by omega
    have nc:¬0=s.c:=by omega
    by_cases hz:z<0
    .simp[rW,h1,h3,g0,hlt,znG,ziS,hx,hA,ziI,zgE,zf2,h16,h17,q1,q2,i0,i1,i2,j0,j1,j2,hz,nc];exact .inr ⟨rfl,false,by simp[rW]⟩
    .simp[rW,h1,h3,g0,hlt,znG,ziS,hx,hA,ziI,zgE,zf2,h16,h17,q1,q2,i0,i1,i2,j0,j1,j2,hz,nc];refine zbS (fun k s=>∃m:Nat,m<=b.length/\k=b.length - m/\K38 B b n m s) (S38 B n) ?_ b.length _ ⟨0,Z61 _,rfl,⟨⟨⟨?_,?_⟩,?_⟩,?_⟩,s.c,⟨?_,?_,?_⟩,hc,?_⟩ ?_
     .clear nc h1 g0 h3 hc s;rintro k s ⟨m,hm,rfl,⟨⟨⟨h1,g0⟩,hc⟩,h3⟩,P,⟨h4,h5,gP⟩,hP1,hPc⟩;have hwm:=zaB m (by omega)
      by_cases hml:m<b.length
      .have hxp:b[m]? =some b[m]:=Z0 hml;have hpp:=zqo _ (hP _ (Z1 hml));generalize hI:b[m]=p at hxp hpp;obtain⟨v,av⟩ :=zpP hpp (by omega) (by omega);obtain⟨x0,x1,x2,rfl,d0,d1,d2,-,-,-⟩ :=hpp.cells;have q3:=fun k=>zad (k:=k) av
       by_cases hv:v<0
       .simp[rW,h1,h3,h4,h5,g0,gP,hml,zf2,zCS,hxp,hI,d0,d1,d2,q3,hv];exact .inr ⟨rfl,false,by simp[rW]⟩
       .simp[rW,h1,h3,h4,h5,g0,gP,hml,zf2,zCS,hxp,hI,d0,d1,d2,q3,hv,hwm];rw[za1];exact⟨b.length - (m+1),by omega,m+1,by omega,rfl,⟨⟨⟨by simp[rW,h1],by simp[rW,g0]⟩,by simp[rW,hc]⟩,by simp[rW,h3]⟩,P,⟨by simp[rW,h4],by simp[rW,hwm],by simp[rW,gP]⟩,hP1,by simp[rW,hPc]⟩
      .have hmn:m=b.length:=by omega
       subst hmn;simp[rW,h4,h5,gP,zf2];exact .inl ⟨rfl,⟨⟨by simp[rW,h1],by simp[rW,g0]⟩,by simp[rW,hc]⟩,by simp[rW,h3]⟩
     .simp[rW,h1]
     .simp[rW,g0,nc]
     .simp[rW]<;>omega
     .simp[rW,h3]
     .simp[rW]
     .simp[rW]
     .simp[rW]
     .simp[rW]
     .clear nc h1 g0 h3 hc s;rintro x s (⟨rfl,⟨⟨h1,g0⟩,hc⟩,h3⟩ |⟨rfl,w,h2⟩)
      .simp[rW,h3,hw];rw[za1];exact⟨B.length - (n+1),by omega,n+1,by omega,rfl,⟨⟨by simp[rW,h1],by simp[rW,g0]⟩,by simp[rW,hc]⟩,by simp[rW,hw]⟩
      .simp[rW];exact .inr ⟨rfl,w,by simp[rW,h2]⟩
   .have hnl:n=B.length:=by omega
    subst hnl;simp[rW,h1,h3,g0,znG];exact .inl rfl
  .simp[rW]
  .simp[rW]
  .simp[rW]
  .simp[rW]
  .rintro x s (rfl|⟨rfl,w,h2⟩)
   .simp[rW]
   .simp[rW,h2]
 obtain⟨_,⟨b,rfl⟩,ha⟩ :=main;exact⟨b,ha⟩
def wE(w:List Int):List (List D):=w.map fun k=>[D.f (.i .i64 k)]
def zTF(w:List Int):(wE w).length=w.length:=by simp[wE]
def zrG(l:List Int)(n:Nat)(h:n<l.length):(wE l)[n]? =some [D.f (.i .i64 l[n])]:=by simp[wE,Z0 h]
def znK(l:List Int)(n:Nat)(z:Int):(wE l).set n [D.f (.i .i64 z)]=wE (l.set n z):=by simp[wE,Z116]
def znJ(w:List Int):hd8 (wE w)=false:=by cases w<;>rfl
def zMH{h:Nat->Option Ob}{k id ro n lim:Nat}{ex:Bool}{w:List Int}(hg:h id=some (.arr 1 ro (wE w)))(hn:n=w.length):∃rd,frz h (k+2) (.sl id 0 n 1 lim ex)=some (wF w,rd):=by
 refine⟨[id],?_⟩;have e:wE w=(w.map fun k=>[F.i .i64 k]).map fun a=>a.map D.f:=by rw[Z33];rfl
 subst hn;rw[zfQ,hg,zcE,zfC];have hl:w.length=(wE w).length:=(zTF w).symm;simp only[true_and,Z25,Z34];rw[Z51 (by omega),hl,Z7,e,zhO h k];rfl
def J39(B:List (List (List F)))(n:Nat)(s:St):Prop:=∃ws:List Int,ws.length=B.length/\(∀i (h:i<ws.length) (hB:i<B.length),i<n->-1<=ws[i]/\ws[i]<B[i].length)/\(∀i (h:i<ws.length),n<=i->ws[i]=0)/\
 (s.tm.get 1=some (.ptr 0 1 0 0)/\s.tm.get 3=some (.sl 1 0 B.length 1 B.length true)/\s.tm.get 4=some (.f (.i .i64 n))/\s.h.get 0=some (.arr 1 0 [[.f (spF B)]])/\s.h.get 1=some (.arr 1 0 (wE ws)))/\2<=s.c
def ans39{B:List (List (List F))}{R:List (List (Nat×Nat))}(hS:zkt B R)(hv:Ans pr 38 [.ag [spF B]] (.b true)):∃w,WOk B w/\Ans pr 39 [.ag [spF B]] (wF w):=by
 have main:∃y,(∃w,y=wF w/\WOk B w)/\Ans pr 39 [.ag [spF B]] y:=by
  refine zdR fn39 ?_;have hB:=hS.n;have qv:=fun k=>zad (k:=k) hv
  have m1:B.length<=zax:=by have:=zaH (n:=B.length) (by omega);simpa using this
  have m2:B.length*8<=zax:=by have:=zaH (n:=B.length*8) (by omega);simpa using this
  have tD:zbR (D.f (.i .i64 (B.length:Nat)))=some B.length:=by simp[zbR]
  simp only[g39,rU];simp[rW,st0,zal,zia,zgm,znG,qv,m1,m2,tD];refine zex B.length (J39 B) (fun e s=>e= .exit 0/\J39 B B.length s) ?_ ?_ _ ⟨List.replicate B.length 0,by simp,?_,?_,⟨?_,?_,?_,?_,?_⟩,?_⟩ ?_
  .rintro n s hn ⟨ws,hwl,hw1,hw2,⟨h1,h3,h4,g0,g1⟩,hc⟩;have hw:=zaB n (by omega);have hx:B[n]? =some B[n]:=Z0 hn;have hnw:n<ws.length:=by omega
   have x1:=zrG ws n hnw
   by_cases hb:B[n]=[]
   .have hbl:B[n].length=0:=by rw[hb];rfl
    simp[rW,h1,h3,h4,g0,g1,hn,zrJ,ziS,hx,ziI,zgE,zf2,hbl,x1,hnw,znK,znJ,hw];refine⟨by omega,ws.set n (-1),by simp[hwl],fun i h hB hi=> ?_,fun i h hi=> ?_,⟨?_,?_,?_,?_,?_⟩,?_⟩
    .rw[List.getElem_set];split
     .rename_i e;subst e;rw[hbl];omega
     .exact hw1 i (by simpa using h) hB (by omega)
    .rw[List.getElem_set,Z49 (by omega)];exact hw2 i (by simpa using h) (by omega)
    all_goals simp[rW,h1,h3,h4,g0,g1,hw,hc]
   .have hbl:¬B[n].length=0:=fun e=>hb (Z17.1 e)
    simp[rW,h1,h3,h4,g0,g1,hn,zrJ,ziS,hx,ziI,zgE,zf2,hbl,hw,hb];refine⟨ws,hwl,fun i h hB hi=> ?_,fun i h hi=>hw2 i h (by omega),⟨?_,?_,?_,?_,?_⟩,?_⟩
    .by_cases e:i=n
     .subst e;rw[hw2 i h (Z2 _)];omega
     .exact hw1 i h hB (by omega)
    all_goals simp[rW,h1,h3,h4,g0,g1,hw,hc]
  .rintro s ⟨ws,hwl,hw1,hw2,⟨h1,h3,h4,g0,g1⟩,hc⟩;simp[rW,h1,h3,h4];exact⟨ws,hwl,hw1,hw2,⟨by simp[rW,h1],by simp[rW,h3],by simp[rW,h4],by simp[rW,g0],by simp[rW,g1]⟩,by simp[rW,hc]⟩
  .intro i h hB hi;omega
  .intro i h hi;simp
  .simp[rW]
  .simp[rW]
  .simp[rW]
  .simp[rW]
  .simp[rW];simp[wE]
  .simp[rW]
  .rintro e s ⟨rfl,ws,hwl,hw1,hw2,⟨h1,h3,h4,g0,g1⟩,hc⟩;obtain⟨rd,hf⟩ :=zMH (k:=10) (n:=B.length) (lim:=B.length) (ex:=true) g1 hwl.symm;simp[rW,h3,hf];exact⟨ws,rfl,hwl,fun i h hB=>hw1 i h hB (by omega)⟩
 obtain⟨_,⟨w,rfl,hw⟩,ha⟩ :=main;exact⟨w,hw,ha⟩
def fn40:pr.fn 40=some g40:=by kernel_rfl
def dg(n:Nat)(k:Int):Nat:=if k= -1 then n else k.toNat
def prd:List (List (List F))->Nat
 |[]=>1
 |b::B=>(b.length+1)*prd B
def rkw:List (List (List F))->List Int->Nat
 |b::B,k::w=>dg b.length k*prd B+rkw B w
 |_,_=>0
def WOk.tail{b:List (List F)}{B:List (List (List F))}{k:Int}{w:List Int}(h:WOk (b::B) (k::w)):(-1<=k/\k<b.length)/\WOk B w:=
 ⟨h.b 0 (by simp) (by simp),by simpa using h.n,fun i h1 h2=>h.b (i+1) (by simpa using h1) (by simpa using h2)⟩
def dg_le{n:Nat}{k:Int}(h: -1<=k/\k<n):dg n k<=n:=by
 unfold dg;split<;>omega
theorem zns:∀(B:List (List (List F))) (w:List Int),WOk B w->rkw B w<prd B
 |[],w,h=>by
  have:=Z17.1 h.n;subst this;decide
 |b::B,[],h=>by simpa using h.n
 |b::B,k::w,h=>by
  obtain⟨h1,h2⟩ :=h.tail;have ih:=zns B w h2;have hd:=dg_le h1;have:dg b.length k*prd B<=b.length*prd B:=Z9 _ hd;show dg b.length k*prd B+rkw B w< (b.length+1)*prd B;rw[Z35];omega
theorem zxy:∀(B:List (List (List F))) (w w':List Int) (i:Nat) (h:i<w.length) (h':i<w'.length) (hB:i<B.length),WOk B w->WOk B w'->(∀j (hj:j<i),w'[j]=w[j])->dg B[i].length w[i]<dg B[i].length w'[i]->rkw B w<rkw B w'
 |b::B,k::w,k'::w',0,_,_,_,hw,hw',_,hd=>by
  obtain⟨h1,h2⟩ :=hw.tail;have:=zns B w h2;simp only[List.getElem_cons_zero]at hd;have h3:(dg b.length k+1)*prd B<=dg b.length k'*prd B:=Z9 _ hd;rw[Z35]at h3;show dg b.length k*prd B+rkw B w<dg b.length k'*prd B+rkw B w';omega
 |b::B,k::w,k'::w',i+1,h,h',hB,hw,hw',he,hd=>by
  have e0:=he 0 (by omega);simp only[List.getElem_cons_zero]at e0;subst e0;have ih:=zxy B w w' i (by simpa using h) (by simpa using h') (by simpa using hB) hw.tail.2 hw'.tail.2 (fun j hj=>by simpa using he (j+1) (by omega)) (by simpa using hd);show dg b.length k'*prd B+rkw B w<dg b.length k'*prd B+rkw B w';omega
theorem zFx:∀B:List (List (List F)),(∀b∈B,b.length<=3)->prd B<=4 ^ B.length
 |[],_=>Z2 _
 |b::B,h=>by
  have ih:=zFx B fun b hb=>h b (by simp[hb])
  have h3:=h b (by simp);show(b.length+1)*prd B<=4 ^ (B.length+1);rw[Z195,Nat.mul_comm (4 ^ _) 4];exact Z144 (by omega) ih
def zAc(m:Nat)(h:m<1000000):IntKind.i64.wrap ((m:Int) - 1)=(m:Int) - 1:=IntWalk.i64_in _ (by omega)
def J40(B:List (List (List F)))(w:List Int)(m:Nat)(s:St):Prop:=m<=w.length/\∃ws:List Int,ws.length=B.length/\(∀i (h:i<ws.length) (hB:i<B.length),-1<=ws[i]/\ws[i]<B[i].length)/\(∀i (h:i<ws.length) (hw:i<w.length),i<m->ws[i]=w[i])/\
 (s.tm.get 2=some (.ptr 0 1 0 0)/\s.tm.get 6=some (.sl 2 0 B.length 1 B.length false)/\s.tm.get 7=some (.f (.i .i64 ((m:Nat) - 1:Int)))/\s.h.get 0=some (.arr 1 0 [[.f (spF B)]])/\s.h.get 2=some (.arr 1 0 (wE ws)))/\3<=s.c
def R40(B:List (List (List F)))(w:List Int)(x:Ex)(s:St):Prop:=x= .exit 0\/(x= .ret/\∃ws:List Int,WOk B ws/\rkw B w<rkw B ws/\(s.tm.get 4=some (.sl 2 0 B.length 1 B.length false)/\s.tm.get 5=some (.f (.b true))/\s.h.get 2=some (.arr 1 0 (wE ws)))/\3<=s.c)
def NxP(B:List (List (List F)))(w:List Int)(y:F):Prop:=y= .tu [.nils,.b false]\/∃ws,WOk B ws/\rkw B w<rkw B ws/\y= .tu [wF ws,.b true]
def ans40{B:List (List (List F))}{R:List (List (Nat×Nat))}(hS:zkt B R)(w:List Int)(hw:WOk B w):∃y,NxP B w y/\Ans pr 40 [.ag [spF B],wF w] y:=by
 refine zdR fn40 ?_;have hB:=hS.n;have hwn:=hw.n;simp only[g40,rU]
 by_cases h0:w=[]
 .subst h0;have hB0:B=[]:=Z17.1 (by simpa using hwn.symm);subst hB0;have hwm:IntKind.i64.wrap (-1)= -1:=by decide
  simp[rW,st0,zal,zia,zgm,wF,hwm];refine zbS (fun k s=>(s.tm.get 7=some (.f (.i .i64 (-1))))) (fun x s=>x= .exit 0) ?_ 0 _ ?_ ?_
  .rintro k s h7;simp[rW,h7]
  .simp[rW]
  .rintro x s rfl;simp[rW];exact .inl rfl
 .have hl0:¬w.length=0:=fun e=>h0 (Z17.1 e)
  have m1:w.length<=zax:=by have:=zaH (n:=w.length) (by omega);simpa using this
  have m2:w.length*8<=zax:=by have:=zaH (n:=w.length*8) (by omega);simpa using this
  have hwm:=zAc w.length (by omega);simp[rW,st0,zal,zia,zgm,wF,hl0,m1,m2,h0,hwm];refine zbS (fun k s=>J40 B w k s) (R40 B w) ?_ w.length _ ⟨Z2 _,w,hwn,hw.b,fun i h hw _=>rfl,⟨?_,?_,?_,?_,?_⟩,?_⟩ ?_
  .rintro k s ⟨hk1,ws,hwl,hw1,hw2,⟨h2,h6,h7,g0,g2⟩,hc⟩
   by_cases hk2:0<k
   .obtain⟨i,rfl⟩ :∃i,k=i+1:=⟨k - 1,by omega⟩
    have e7:((i+1:Nat):Int) - 1=(i:Nat):=by omega
    rw[e7]at h7;have hnn:(0:Int)<=(i:Nat):=by omega
    have hi:i<B.length:=by omega
    have hiw:i<ws.length:=by omega
    have hx:B[i]? =some B[i]:=Z0 hi;have x1:=zrG ws i hiw;have hb1:=hw1 i hiw hi;have hb2:=hw2 i hiw (by omega) (by omega);have hwi:=zAc i (by omega);have hc2:2<s.c:=by omega
    generalize hA:B[i]=b at hx hb1;have hb3:b.length<=3:=by rw[<-hA];exact (hS.b _ (Z1 hi)).1
    by_cases hm:ws[i]= -1
    .rw[hm]at x1;have x2:(wE (ws.set i 0))[i]? =some [D.f (.i .i64 0)]:=by rw[zrG _ _ (by simpa using hiw)];simp
     by_cases hbl:b.length=0
     .simp[rW,h2,h6,h7,g0,g2,hnn,hi,hx,hA,ziS,ziI,zgE,zf2,x1,x2,znK,znJ,hbl,hwi,hc2];rw[za1];refine⟨i,by omega,by omega,(ws.set i 0).set i (-1),by simp[hwl],fun j h hB=> ?_,fun j h hw hj=> ?_,⟨?_,?_,?_,?_,?_⟩,?_⟩
      .by_cases e:j=i
       .subst e;simp;omega
       .rw[List.getElem_set,Z49 (by omega),List.getElem_set,Z49 (by omega)];exact hw1 j (by simpa using h) hB
      .rw[List.getElem_set,Z49 (by omega),List.getElem_set,Z49 (by omega)];exact hw2 j (by simpa using h) hw (by omega)
      all_goals simp[rW,h2,h6,h7,g0,g2,hwi,hc]
     .simp[rW,h2,h6,h7,g0,g2,hnn,hi,hx,hA,ziS,ziI,zgE,zf2,x1,x2,znK,znJ,hbl,hwi,hc2];rw[za1];refine⟨i,by omega,by omega,ws.set i 0,by simp[hwl],fun j h hB=> ?_,fun j h hw hj=> ?_,⟨?_,?_,?_,?_,?_⟩,?_⟩
      .by_cases e:j=i
       .subst e;simp[hA];omega
       .rw[List.getElem_set,Z49 (by omega)];exact hw1 j (by simpa using h) hB
      .rw[List.getElem_set,Z49 (by omega)];exact hw2 j (by simpa using h) hw (by omega)
      all_goals simp[rW,h2,h6,h7,g0,g2,hwi,hc]
    .obtain⟨v,hv⟩ :∃v:Nat,ws[i]=v:=⟨ws[i].toNat,by omega⟩
     rw[hv]at x1;have hvm:¬((v:Nat):Int)= -1:=by omega
     obtain⟨z,hz⟩ :∃z:Int,z=((v+1:Nat):Int):=⟨_,rfl⟩
     have hws:=zaB v (by omega);rw[<-hz]at hws;have x2:(wE (ws.set i z))[i]? =some [D.f (.i .i64 z)]:=by rw[zrG _ _ (by simpa using hiw)];simp
     have hdo:dg b.length w[i]=v:=by
      rw[<-hb2,hv];unfold dg;rw[Z49 hvm];omega
     by_cases hbl:b.length=v+1
     .have hbi:((b.length:Nat):Int)=z:=by omega
      have x3:(ws.set i z).set i (-1)=ws.set i (-1):=by simp
      have hW:WOk B (ws.set i (-1)):=⟨by simp[hwl],fun j h hB=>by
       by_cases e:j=i
       .subst e;simp;omega
       .rw[List.getElem_set,Z49 (by omega)];exact hw1 j (by simpa using h) hB⟩
      have hR:rkw B w<rkw B (ws.set i (-1)):=zxy B w _ i (by omega) (by simpa using hiw) hi hw hW (fun j hj=>by
       rw[List.getElem_set,Z49 (by omega)];exact hw2 j (by omega) (by omega) (by omega)) (by
       rw[hA,hdo,Z77];unfold dg;rw[Z51 rfl];omega)
      simp[rW,h2,h6,h7,g0,g2,hnn,hi,hx,hA,ziS,ziI,zgE,zf2,x1,x2,znK,znJ,hvm,hws,hbi,hc2];refine .inr ⟨rfl,ws.set i (-1),hW,hR,⟨?_,?_,?_⟩,?_⟩
      all_goals simp[rW,h2,h6,h7,g0,g2,hc,x3]
     .have hbi:¬z=(b.length:Nat):=by omega
      have hW:WOk B (ws.set i z):=⟨by simp[hwl],fun j h hB=>by
       by_cases e:j=i
       .subst e;rw[Z77,hA];omega
       .rw[List.getElem_set,Z49 (by omega)];exact hw1 j (by simpa using h) hB⟩
      have hR:rkw B w<rkw B (ws.set i z):=zxy B w _ i (by omega) (by simpa using hiw) hi hw hW (fun j hj=>by
       rw[List.getElem_set,Z49 (by omega)];exact hw2 j (by omega) (by omega) (by omega)) (by
       rw[hA,hdo,Z77];unfold dg;rw[Z49 (by omega)];omega)
      simp[rW,h2,h6,h7,g0,g2,hnn,hi,hx,hA,ziS,ziI,zgE,zf2,x1,x2,znK,znJ,hvm,hws,hbi,hc2];refine .inr ⟨rfl,ws.set i z,hW,hR,⟨?_,?_,?_⟩,?_⟩
      all_goals simp[rW,h2,h6,h7,g0,g2,hc]
   .have hk0:k=0:=by omega
    subst hk0;simp[rW,h2,h6,h7,g0,g2];exact .inl rfl
  .simp[rW]
  .simp[rW,hwn]
  .simp[rW,hwm]
  .simp[rW]
  .simp[rW,wE]
  .simp[rW]
  .rintro x s (rfl|⟨rfl,ws,hW,hR,⟨h4,h5,g2⟩,hc⟩)
   .simp[rW];exact .inl rfl
   .obtain⟨rd,hf⟩ :=zMH (k:=9) (n:=B.length) (lim:=B.length) (ex:=false) g2 hW.n.symm;rw[zfQ]at hf;simp[rW,h4,h5,hf];exact .inr ⟨ws,hW,hR,rfl⟩
end Go.Proofs.YtkcnnkncapiohaaGreatDoor
end
