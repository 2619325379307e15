/- Contains: the reference and the program. -/
import Derived.Test.YtlinkhjnihjbaaaGreatDoorPv
import Derived.KernelRfl
import Derived.IntWalk
import Derived.Test.YtlinkhjnihjbaaaGreatDoorPp
set_option linter.all false
set_option maxRecDepth 100000
set_option maxHeartbeats 4000000
section
namespace Go.Proofs.YtlinkhjnihjbaaaGreatDoor
open Go Go.Vse Go.Vse.Sm
def fn17:pr.fn 17=some g17:=by kernel_rfl
def fn23:pr.fn 23=some g23:=by kernel_rfl
def okW:List Int->List (List (List F))->Bool
 |a::w,b::B=>(decide (-1<=a)&&decide (a<b.length))&&okW w B
 |_,_=>true
def isW(w:List Int)(B:List (List (List F))):Bool:=decide (w.length=B.length)&&okW w B
def zBz{w:List Int}{B:List (List (List F))}{n:Nat}(h:n<w.length)(h2:n<B.length):okW (w.drop n) (B.drop n)=((decide (-1<=w[n])&&decide (w[n]<B[n].length))&&okW (w.drop (n+1)) (B.drop (n+1))):=by
 rw[Z55 h,Z55 h2];rfl
def zwU{w:List Int}{B:List (List (List F))}:okW (w.drop w.length) (B.drop w.length)=true:=by
 rw[Z206];rfl
def J23(eW:Bool)(w:List Int)(B:List (List (List F)))(n:Nat)(s:St):Prop:=(s.tm.get 1=some (.f (wG eW w))/\s.tm.get 2=some (.ptr 0 1 0 0)/\s.tm.get 5=some (.f (.i .i64 n))/\s.h.get 0=some (.arr 1 0 [[.f (spF B)]]))/\1<=s.c/\okW w B=okW (w.drop n) (B.drop n)
def R23(w:List Int)(B:List (List (List F)))(x:Ex)(s:St):Prop:=(x= .exit 0/\okW w B=true)\/(x= .ret/\s.tm.get 4=some (.f (.b false))/\okW w B=false)
def ans23{B:List (List (List F))}(hB:∀ps∈B,∃ns,PB ps ns)(hn:B.length<=24)(eW:Bool)(w:List Int):Ans pr 23 [.ag [spF B],wG eW w] (.b (isW w B)):=by
 refine zb6 fn23 ?_;have qv:=fun k=>zaj (k:=k) (ans58 hB hn)
 simp only[g23,rU]
 by_cases hl:w.length=B.length
 .have hlI:((w.length:Nat):Int)=(B.length:Nat):=by omega
  simp[rW,st0,zax,zfD,zew,w_d,qv,zeU,zfX,hl];refine zeD (fun k s=>∃n:Nat,n<=w.length/\k=w.length - n/\J23 eW w B n s) (R23 w B) ?_ w.length _ ⟨0,Z61 _,rfl,⟨?_,?_,?_,?_⟩,?_,rfl⟩ ?_
  .rintro k s ⟨n,hnl,rfl,⟨h1,h2,h5,g0⟩,hc,hO⟩;have hw:=zaK n (by omega)
   by_cases hlt:n<w.length
   .have hlb:n<B.length:=by omega
    have hx:w[n]? =some w[n]:=Z0 hlt;have hy:B[n]? =some B[n]:=Z0 hlb;rw[zBz hlt hlb]at hO;generalize hX:w[n]=a at hx hO;generalize hY:B[n]=b at hy hO
    by_cases ka:a< -1
    .have hf:okW w B=false:=by rw[hO];simp;intro h;omega
     simp[rW,h1,h2,h5,g0,hlt,zeU];refine zaM ?_;simp[rW,h1,h2,h5,g0,hlt,hlb,zeU,zgn,hx,hX,zhW,hy,hY,ka];exact .inr ⟨rfl,by simp[rW],hf⟩
    .by_cases kb:(b.length:Int)<=a
     .have hf:okW w B=false:=by rw[hO];simp;intro _ h;omega
      simp[rW,h1,h2,h5,g0,hlt,zeU];refine zaM ?_;simp[rW,h1,h2,h5,g0,hlt,hlb,zeU,zgn,hx,hX,zhW,hy,hY,zeL,ka,kb];exact .inr ⟨rfl,by simp[rW],hf⟩
     .have e1:decide (-1<=a)=true:=decide_eq_true (by omega);have e2:decide (a<b.length)=true:=decide_eq_true (by omega);rw[e1,e2]at hO;simp[rW,h1,h2,h5,g0,hlt,zeU];refine zaM ?_;simp[rW,h1,h2,h5,g0,hlt,hlb,zeU,zgn,hx,hX,zhW,hy,hY,zeL,ka,kb,hw];rw[zcY];exact⟨w.length - (n+1),by omega,n+1,by omega,rfl,⟨by simp[rW,h1],by simp[rW,h2],by simp[rW,hw],by simp[rW,g0]⟩,by simp[rW,hc],by simpa using hO⟩
   .have hnn:n=w.length:=by omega
    subst hnn;simp[rW,h1,h5,zeU];exact .inl ⟨rfl,by rw[hO];exact zwU⟩
  .simp[rW]
  .simp[rW]
  .simp[rW]
  .simp[rW]
  .simp[rW]
  .rintro x s (⟨rfl,hO⟩ |⟨rfl,h4,hO⟩)
   .simp[rW];simp[isW,hl,hO]
   .simp[rW,h4];simp[isW,hO]
 .have hlI:¬((w.length:Nat):Int)=(B.length:Nat):=by omega
  simp[rW,st0,zax,zfD,zew,w_d,qv,zeU,zfX,hl,hlI];simp[isW,hl]
def J17(eW:Bool)(w:List Int)(B:List (List (List F)))(n:Nat)(s:St):Prop:=(s.tm.get 1=some (.f (wG eW w))/\s.tm.get 2=some (.ptr 0 1 0 0)/\s.tm.get 14=some (.f (spF B))/\s.tm.get 15=some (.f (.i .i64 B.length))/\s.tm.get 16=some (.f (.i .i64 n))/\s.h.get 0=some (.arr 1 0 [[.f (spF B)]]))/\1<=s.c/\okW w B=okW (w.drop n) (B.drop n)
def R17(w:List Int)(B:List (List (List F)))(x:Ex)(s:St):Prop:=(x= .exit 0/\okW w B=true/\(s.tm.get 2=some (.ptr 0 1 0 0)/\s.h.get 0=some (.arr 1 0 [[.f (spF B)]])))\/(x= .ret/\s.tm.get 4=some (.f (.b false))/\okW w B=false)
def ans17{B:List (List (List F))}(hB:∀ps∈B,∃ns,PB ps ns)(hn:B.length<=24)(eW:Bool)(w:List Int):Ans pr 17 [.ag [spF B],wG eW w] (.b (isW w B)):=by
 refine zb6 fn17 ?_;have qv:=fun k=>zaj (k:=k) (ans49 hB hn)
 simp only[g17,rU]
 by_cases hl:w.length=B.length
 .have hlI:((w.length:Nat):Int)=(B.length:Nat):=by omega
  simp[rW,st0,zax,zfD,zew,w_d,zeU,zfX,hl];refine zeD (fun k s=>∃n:Nat,n<=w.length/\k=w.length - n/\J17 eW w B n s) (R17 w B) ?_ w.length _ ⟨0,Z61 _,rfl,⟨?_,?_,?_,?_,?_,?_⟩,?_,rfl⟩ ?_
  .rintro k s ⟨n,hnl,rfl,⟨h1,h2,h14,h15,h16,g0⟩,hc,hO⟩;have hw:=zaK n (by omega);have n0:¬0=s.c:=by omega
   by_cases hlt:n<w.length
   .have hlb:n<B.length:=by omega
    have hx:w[n]? =some w[n]:=Z0 hlt;have hy:B[n]? =some B[n]:=Z0 hlb;rw[zBz hlt hlb]at hO;generalize hX:w[n]=a at hx hO;generalize hY:B[n]=b at hy hO
    by_cases ka:a< -1
    .have hf:okW w B=false:=by rw[hO];simp;intro h;omega
     simp[rW,h1,h2,h14,h15,h16,g0,hlb,zhW,hy,hY,zi5,ziU,n0];refine zaM ?_;simp[rW,h1,h2,h14,h15,h16,g0,hlt,zgn,hx,hX,zeL,ka];exact .inr ⟨rfl,by simp[rW],hf⟩
    .by_cases kb:(b.length:Int)<=a
     .have hf:okW w B=false:=by rw[hO];simp;intro _ h;omega
      simp[rW,h1,h2,h14,h15,h16,g0,hlb,zhW,hy,hY,zi5,ziU,n0];refine zaM ?_;simp[rW,h1,h2,h14,h15,h16,g0,hlt,zgn,hx,hX,zeL,ka,kb];exact .inr ⟨rfl,by simp[rW],hf⟩
     .have e1:decide (-1<=a)=true:=decide_eq_true (by omega);have e2:decide (a<b.length)=true:=decide_eq_true (by omega);rw[e1,e2]at hO;simp[rW,h1,h2,h14,h15,h16,g0,hlb,zhW,hy,hY,zi5,ziU,n0];refine zaM ?_;simp[rW,h1,h2,h14,h15,h16,g0,hlt,zgn,hx,hX,zeL,ka,kb,hw];rw[zcY];exact⟨w.length - (n+1),by omega,n+1,by omega,rfl,⟨by simp[rW,h1],by simp[rW,h2],by simp[rW,h14],by simp[rW,h15],by simp[rW,hw],by simp[rW,g0,n0]⟩,by simp[rW]<;>omega,by simpa using hO⟩
   .have hnn:n=B.length:=by omega
    subst hnn;simp[rW,h15,h16];exact .inl ⟨rfl,by rw[hO,<-hl];exact zwU,by simp[rW,h2],by simp[rW,g0]⟩
  .simp[rW]
  .simp[rW]
  .simp[rW]
  .simp[rW]
  .simp[rW]
  .simp[rW]
  .simp[rW]
  .rintro x s (⟨rfl,hO,h2,g0⟩ |⟨rfl,h4,hO⟩)
   .simp[rW,h2,g0,zfD,zew,qv];simp[isW,hl,hO]
   .simp[rW,h4];simp[isW,hO]
 .have hlI:¬((w.length:Nat):Int)=(B.length:Nat):=by omega
  simp[rW,st0,zax,zfD,zew,w_d,zeU,zfX,hl,hlI];simp[isW,hl]
def fn59:pr.fn 59=some g59:=by kernel_rfl
def eqC2(a b c d:Nat):za5 [0,0] [D.f (.i .i64 (a:Nat)),D.f (.i .i64 (b:Nat))] [D.f (.i .i64 (c:Nat)),D.f (.i .i64 (d:Nat))]=some (decide ((a,b)=(c,d))):=by
 simp only[za5,Z60,Z66,Bool.decide_and,Z187,Z45]
 congr 1<;>(rw[Bool.eq_iff_iff];simp;omega)
def re_d(r:List (Nat×Nat)):(rfE r).d= .f (rfE r):=zgb ..
def zzI(r:List (Nat×Nat))(n:Nat):iaB 2 (.f (rfE r)) n=(r[n]?).map fun p=>D.fptr [.i .i64 (p.1:Nat),.i .i64 (p.2:Nat)]:=by simp[rfE,zfC,Z67]
def ch1(r:List (Nat×Nat))(v:Int):List (Nat×Nat):=if 0<=v then(r[v.toNat]?).toList else[]
def chs:List (List (Nat×Nat))->List Int->List (Nat×Nat)
 |r::R,v::w=>ch1 r v++chs R w
 |_,_=>[]
def zKu{R:List (List (Nat×Nat))}{w:List Int}{n:Nat}(h:n<R.length)(h2:n<w.length):chs (R.drop n) (w.drop n)=ch1 R[n] w[n]++chs (R.drop (n+1)) (w.drop (n+1)):=by
 rw[Z55 h,Z55 h2];rfl
structure WO(R:List (List (Nat×Nat)))(w:List Int):Prop where
 n:w.length=R.length
 b:∀i (h:i<w.length) (hR:i<R.length),-1<=w[i]/\w[i]<R[i].length
 l:R.length<=24
theorem zwW:∀{w:List Int} {B:List (List (List F))},okW w B=true->∀i (h:i<w.length) (hB:i<B.length),-1<=w[i]/\w[i]<B[i].length
 |[],_,_,i,h,_=>by simp at h
 |_::_,[],_,i,_,h=>by simp at h
 |a::w,b::B,hO,i,h,hB=>by
  simp only[okW,Z14,Z86]at hO;cases i with
  |zero=>exact hO.1
  |succ i=>exact zwW hO.2 i (by simpa using h) (by simpa using hB)
def zEx{L:List RB}(hL:LOk L){w:List Int}(h:isW w (spL L)=true):WO (rfL L) w:=by
 simp only[isW,Z14,Z86]at h;have hl:=congrArg List.length (zmw L 0);simp only[Z18]at hl;have hl:(rfL L).length=(spL L).length:=hl;refine⟨by rw[hl];exact h.1,fun i h1 h2=> ?_,by rw[hl];exact zib hL⟩;have:=zwW h.2 i h1 (by omega);have e:=congrArg (fun l=>l[i]?) (zmw L 0);have h2':i< (rfA 0 L).length:=h2;simp only[Z36,Z0 h2',Z0 (show i< (spL L).length by omega),Z134,Z45]at e;have e:(rfL L)[i].length=(spL L)[i].length:=e;exact⟨this.1,Int.lt_of_lt_of_le this.2 (Int.le_of_eq (congrArg (fun n:Nat=>(n:Int)) e.symm))⟩
def J59(eW:Bool)(R:List (List (Nat×Nat)))(w:List Int)(a b n:Nat)(s:St):Prop:=(s.tm.get 0=some (.f (rfF R))/\s.tm.get 1=some (.f (wG eW w))/\s.tm.get 5=some (.ptr 0 2 0 0)/\s.tm.get 7=some (.f (.i .i64 n))/\s.h.get 0=some (.arr 2 0 [[.f (.i .i64 (a:Nat)),.f (.i .i64 (b:Nat))]]))/\1<=s.c/\((a,b)∈chs R w↔(a,b)∈chs (R.drop n) (w.drop n))
def Q59(R:List (List (Nat×Nat)))(w:List Int)(a b:Nat)(x:Ex)(s:St):Prop:=(x= .exit 0/\(a,b)∉chs R w)\/(x= .ret/\s.tm.get 6=some (.f (.b true))/\(a,b)∈chs R w)
def ans59{R:List (List (Nat×Nat))}(eW:Bool)(w:List Int)(hw:WO R w)(a b:Nat):Ans pr 59 [rfF R,wG eW w,.ag [.i .i64 (a:Nat),.i .i64 (b:Nat)]] (.b (decide ((a,b)∈chs R w))):=by
 refine zb6 fn59 ?_;have hl24:=hw.l;have hwn:=hw.n;simp only[g59,rU];simp[rW,st0,zax,ziF,w_d];refine zeD (fun k s=>∃n:Nat,n<=R.length/\k=R.length - n/\J59 eW R w a b n s) (Q59 R w a b) ?_ R.length _ ⟨0,Z61 _,rfl,⟨?_,?_,?_,?_,?_⟩,?_,Iff.rfl⟩ ?_
 .rintro k s ⟨n,hn,rfl,⟨h0,h1,h5,h7,g0⟩,hc,hI⟩;have hwr:=zaK n (by omega)
  by_cases hlt:n<R.length
  .have hnw:n<w.length:=by omega
   have hx:w[n]? =some w[n]:=Z0 hnw;have hxr:R[n]? =some R[n]:=Z0 hlt;have hb:=hw.b n hnw hlt;rw[zKu hlt hnw]at hI;generalize hR:R[n]=r at hxr hb hI;generalize hv:w[n]=v at hx hb hI
   by_cases hv0:0<=v
   .obtain⟨j,rfl⟩ :∃j:Nat,v=j:=⟨v.toNat,by omega⟩
    have hj:j<r.length:=by omega
    have hxj:r[j]? =some r[j]:=Z0 hj;generalize hp:r[j]=p at hxj;obtain⟨p1,p2⟩ :=p;have hc1:ch1 r (j:Nat)=[(p1,p2)]:=by simp[ch1,hxj]
    rw[hc1]at hI;have hz:=eqC2 p1 p2 a b
    by_cases he:(p1,p2)=(a,b)
    .rw[decide_eq_true he]at hz;simp[rW,h0,h1,h5,h7,g0,hlt,ziG,zgn,hx,hnw,hv,hv0];refine zaM ?_;simp[rW,h0,h1,h5,h7,g0,hlt,ziG,zzN,hxr,hR,zgn,hx,hnw,hv,hv0,re_d,zzI,hxj,hj,hp,hz];exact .inr ⟨rfl,by simp[rW],hI.2 (by rw[he];simp)⟩
    .rw[decide_eq_false he]at hz;have hI2:(a,b)∈chs R w↔(a,b)∈chs (R.drop (n+1)) (w.drop (n+1)):=by
      rw[hI,Z4,Z31];exact⟨fun h=>h.resolve_left fun e=>he e.symm,.inr⟩
     simp[rW,h0,h1,h5,h7,g0,hlt,ziG,zgn,hx,hnw,hv,hv0];refine zaM ?_;simp[rW,h0,h1,h5,h7,g0,hlt,ziG,zzN,hxr,hR,zgn,hx,hnw,hv,hv0,re_d,zzI,hxj,hj,hp,hz,hwr];rw[zcY];exact⟨R.length - (n+1),by omega,n+1,by omega,rfl,⟨by simp[rW,h0],by simp[rW,h1],by simp[rW,h5],by simp[rW,hwr],by simp[rW,g0]⟩,by simp[rW,hc]<;>omega,hI2⟩
   .have hc1:ch1 r v=[]:=by simp[ch1,hv0]
    rw[hc1,Z28]at hI;simp[rW,h0,h1,h5,h7,g0,hlt,ziG,zgn,hx,hnw,hv,hv0];refine zaM ?_;simp[rW,h0,h1,h5,h7,g0,hlt,ziG,zgn,hx,hnw,hv,hv0,hwr];rw[zcY];exact⟨R.length - (n+1),by omega,n+1,by omega,rfl,⟨by simp[rW,h0],by simp[rW,h1],by simp[rW,h5],by simp[rW,hwr],by simp[rW,g0]⟩,by simp[rW,hc],hI⟩
  .have hnl:n=R.length:=by omega
   subst hnl;simp[rW,h0,h7,ziG];exact .inl ⟨rfl,by rw[hI,Z206];simp[chs]⟩
 .simp[rW]
 .simp[rW]
 .simp[rW]
 .simp[rW]
 .simp[rW]
 .simp[rW]
 .rintro x s (⟨rfl,hn⟩ |⟨rfl,h6,hn⟩)
  .simp[rW];exact hn
  .simp[rW,h6];exact hn
def fn24:pr.fn 24=some g24:=by kernel_rfl
def zJJ(l:List Int):(D.f (valsF l)).cells=some [.f (valsF l)]:=zcc _ _
def zi7(p:D×Rl):List D:=[.f (.s p.2.nm),.f (.b p.2.ce),.f p.2.co,p.1]
structure ziZ(h:T Ob)(c:Nat)(dO:D)(W:List (D×Rl)):Prop where
 g:Gro h 1 c 4 dO (W.map zi7)
 o:∀p∈W,Own h 2 c p.1 (zaW p.2.tu)
 n:∀p∈W,NE dO p.1
def ziZ.up{h h':T Ob}{c c':Nat}{dO:D}{W:List (D×Rl)}(H:ziZ h c dO W)(hf:∀id,1<=id->id<c->h'.get id=h.get id)(hc:c<=c'):ziZ h' c' dO W:=
 ⟨zeI H.g hc hf,fun p hp=>(H.o p hp).up (fun x hx=>by have:=(H.o p hp).2.2.1 x hx;exact hf x (by omega) this.2) (Z2 _) hc,H.n⟩
theorem zBd{h h':T Ob}{c c':Nat}{dO d dN:D}{r:Rl}{W:List (D×Rl)}(H:ziZ h c dO W)(ho:Own h 2 c d (zaW r.tu))(n1:NE dO d)
  (hg:Gro h' 1 c' 4 dN (W.map zi7++[zi7 (d,r)]))(hc:c<=c')(hf:∀id,id<c->dO.oid≠some id->h'.get id=h.get id)(hN:∀x,dN.oid=some x->x=c\/dO.oid=some x):ziZ h' c' dN (W++[(d,r)]):=by
 have key:∀{d:D} {X:F},NE dO d->Own h 2 c d X->Own h' 2 c' d X:=fun{d X} hn ho=>ho.up (fun x hx=>by
  have:=ho.2.2.1 x hx;exact hf x this.2 fun e=>hn x e hx) (Z2 _) hc
 have kn:∀{d:D},NE dO d->(∀x,d.oid=some x->x<c)->NE dN d:=fun{d} hn hb x hx e=>by
  rcases hN x hx with rfl|h1
  .have:=hb _ e;omega
  .exact hn x h1 e
 refine⟨by rw[Z20];exact hg,fun p hp=> ?_,fun p hp=> ?_⟩
 .rcases Z4.1 hp with hp|hp
  .exact key (H.n p hp) (H.o p hp)
  .rw[Z31.1 hp];exact key n1 ho
 .rcases Z4.1 hp with hp|hp
  .exact kn (H.n p hp) fun x hx=>((H.o p hp).2.2.1 x hx).2
  .rw[Z31.1 hp];exact kn n1 fun x hx=>(ho.2.2.1 x hx).2
theorem zrU{h:T Ob}{c:Nat}(k:Nat):∀{W:List (D×Rl)},(∀p∈W,Own h 2 c p.1 (zaW p.2.tu))->∃rd,za3 (frz h.get (k+2)) (W.map zi7)=some (W.map fun p=>rlF p.2,rd)
 |[],_=>⟨[],rfl⟩
 |p::W,hW=>by
  obtain⟨rd,hr⟩ :=zrU k (W:=W) fun q hq=>hW q (by simp[hq])
  obtain⟨rd2,h2⟩ :=(hW p (by simp)).2.2.2 h (fun _ _=>rfl) k;have h3:za0 (frz h.get (k+2)) (zi7 p)=some (rlF p.2,rd2):=by
   rw[rlE];have ef:∀x,frz h.get (k+2) (.f x)=some (x,[]):=fun _=>rfl
   simp[zi7,za0,h2,ef]
  exact⟨rd2++rd,by
   rw[Z10,zg8,h3];simp[hr]⟩
def ziZ.frz{h:T Ob}{c:Nat}{dO:D}{W:List (D×Rl)}(H:ziZ h c dO W)(k:Nat):∃rd,frz h.get (k+3) dO=some (zc3 (W.map (·.2)),rd):=by
 obtain⟨r1,h1⟩ :=zrU k H.o;obtain⟨s1,k1⟩ :=zfx (k:=k+2) H.g h1 (by simp);exact⟨s1,by rw[k1,zc3,Z33];rfl⟩
def zeR:List F:=[.b false,.sl 1 [[.i .u32 1]],.sl 1 [[.i .u32 1]]]
def zha(i:Nat)(r:Rl)(ch:List (Nat×Nat))(k:Nat):List (List Int×List F):=((List.range k).filter fun j=>r.ce||decide ((i,j)∈ch)).map fun j=>((r.tu[j]?.getD ([],[])).1,zeR)
def zuC(i:Nat)(r:Rl)(ch:List (Nat×Nat)):Rl:=⟨r.nm,r.ce,r.co,zha i r ch r.tu.length⟩
def zc7(ch:List (Nat×Nat)):Nat->List RB->List Rl
 |_,[]=>[]
 |n,p::L=>zuC n p.1 ch::zc7 ch (n+1) L
def znU{i:Nat}{r:Rl}{ch:List (Nat×Nat)}{k:Nat}:(zha i r ch k).length<=k:=by
 unfold zha;rw[Z18];exact Z3 (Z76 ..) (by simp)
def zDH{i:Nat}{r:Rl}{ch:List (Nat×Nat)}{k:Nat}{T:List Int×List F}(hT:r.tu[k]? =some T):zha i r ch (k+1)=zha i r ch k++if(r.ce||decide ((i,k)∈ch))=true then[(T.1,zeR)]else[]:=by
 unfold zha;rw[Z136,Z99,Z20]
 congr 1
 by_cases h:(r.ce||decide ((i,k)∈ch))=true
 .rw[Z51 h,Z127,Z51 h];simp[hT]
 .rw[Z49 h,Z127,Z49 h];simp
theorem zuz{ch:List (Nat×Nat)}:∀(A M:List RB) (n:Nat),zc7 ch n (A++M)=zc7 ch n A++zc7 ch (n+A.length) M
 |[],M,n=>by simp[zc7]
 |p::A,M,n=>by
  rw[Z29,zc7,zc7,zuz A M (n+1),Z29,Z23,Z82,Z198 1]
def zuB{L:List RB}{ch:List (Nat×Nat)}{n:Nat}{r:Rl}{B:List (List Nat)}(h:L[n]? =some (r,B)):zc7 ch 0 (L.take (n+1))=zc7 ch 0 (L.take n)++[zuC n r ch]:=by
 have hn:n<L.length:=by
  rcases Z145 n L.length with h1|h1
  .exact h1
  .rw[Z97 h1]at h;cases h
 rw[Z105,h,zuz,Z41,Z73 (by omega),Z25];rfl
def O24(eW:Bool)(L:List RB)(R:List (List (Nat×Nat)))(w:List Int)(n:Nat)(s:St):Prop:=∃dO W,(s.tm.get 1=some (.f (rfF R))/\s.tm.get 2=some (.f (wG eW w))/\s.tm.get 3=some (.ptr 0 4 0 0)/\s.tm.get 7=some (dO)/\s.h.get 0=some (.arr 4 0 [[.f (rbF L),.f .nils,.f .nils,.f .nils]]))/\1<=s.c/\ziZ s.h s.c dO W/\W.map (·.2)=zc7 (chs R w) 0 (L.take n)
def J24(eW:Bool)(L:List RB)(R:List (List (Nat×Nat)))(w:List Int)(n:Nat)(s:St):Prop:=O24 eW L R w n s/\s.tm.get 8=some (.f (.i .i64 n))
def O24.up{eW:Bool}{L:List RB}{R:List (List (Nat×Nat))}{w:List Int}{n:Nat}{s S:St}(H:O24 eW L R w n s)(hh:S.h=s.h)(hc:s.c<=S.c)(t1:S.tm.get 1=s.tm.get 1)(t2:S.tm.get 2=s.tm.get 2)(t3:S.tm.get 3=s.tm.get 3)(t7:S.tm.get 7=s.tm.get 7):O24 eW L R w n S:=by
 obtain⟨dO,W,⟨h1,h2,h3,h7,g0⟩,hc1,hI,hn⟩ :=H;exact⟨dO,W,⟨t1.trans h1,t2.trans h2,t3.trans h3,t7.trans h7,by rw[hh];exact g0⟩,by omega,hI.up (fun id _ _=>by rw[hh]) hc,hn⟩
def tuD(ts:List (List Int×List F)):List (List D):=(ts.map tuF).map fun a=>a.map D.f
def zJC(ts:List (List Int×List F)):(tuD ts).length=ts.length:=by simp[tuD]
def zEl(ts:List (List Int×List F))(vs:List Int)(p:List F):tuD (ts++[(vs,p)])=tuD ts++[.f (valsF vs)::p.map D.f]:=by simp[tuD,tuF]
def N24(eW:Bool)(L:List RB)(R:List (List (Nat×Nat)))(w:List Int)(r:Rl)(n P:Nat)(h0:T Ob)(dO:D)(k:Nat)(s:St):Prop:=∃(d:D),(s.tm.get 1=some (.f (rfF R))/\s.tm.get 2=some (.f (wG eW w))/\s.tm.get 3=some (.ptr 0 4 0 0)/\s.tm.get 7=some (dO)/\s.tm.get 8=some (.f (.i .i64 n))/\s.tm.get 9=some (.ptr P 4 0 0)/\s.tm.get 10=some (.f (.i .i64 k))/\s.h.get P=some (.arr 4 0 [[.f (.s r.nm),.f (.b r.ce),.f r.co,d]]))/\(∀id,id<P->s.h.get id=h0.get id)/\Gro s.h (P+1) s.c 4 d (tuD (zha n r (chs R w) k))/\P<s.c
def ans24{L:List RB}(hL:LOk L){R:List (List (Nat×Nat))}(eW:Bool)(w:List Int)(hw:WO R w):Ans pr 24 [.ag (pgF L),rfF R,wG eW w] (zc3 (zc7 (chs R w) 0 L)):=by
 refine zb6 fn24 ?_;have hn8:=hL.n;simp only[g24,rU];simp[rW,st0,zax,ziF,w_d,pgF,zgj,zgV];refine zcz L.length (J24 eW L R w) (fun e s=>e= .exit 0/\O24 eW L R w L.length s) ?_ ?_ _ ⟨⟨.f .nils,[],⟨?_,?_,?_,?_,?_⟩,?_,⟨.inl ⟨rfl,rfl⟩,by simp,by simp⟩,rfl⟩,?_⟩ ?_
 .rintro n s hn ⟨⟨dO,W,⟨h1,h2,h3,h7,g0⟩,hc,hI,hWm⟩,h8⟩;have hwn:=zaK n (by omega);have hx:L[n]? =some L[n]:=Z0 hn;have hG:=hL.g _ (Z1 hn);generalize hA:L[n]=q at hx hG;obtain⟨r,B⟩ :=q;simp only at hG;have htl:=hG.k.n;have hco:=hG.k.co;have hcc:=hG.k.cc;have hpc:=fun t ht=>zaX _ (hG.k.p t ht)
  have eI:=zuB (ch:=chs R w) hx;have hWn:W.length=n:=by
   have e1:=congrArg List.length hWm;have e2:∀(M:List RB) (k:Nat),(zc7 (chs R w) k M).length=M.length:=by
    intro M
    induction M with
    |nil=>intro k;rfl
    |cons p M ih=>intro k;rw[zc7,Z23,ih,Z23]
   rw[Z18,e2,Z41]at e1;omega
  obtain⟨P,hP⟩ :∃P,P=s.c:=⟨_,rfl⟩
  have nP0:¬(0=P):=by omega
  have nPa:¬(P=0):=by omega
  simp[rW,h1,h2,h3,h7,h8,g0,hn,zdv,zet,hx,hA,rlE,hco,hcc,<-hP];refine zcz r.tu.length (N24 eW L R w r n P s.h dO) (fun e s'=>e= .exit 2/\N24 eW L R w r n P s.h dO r.tu.length s') ?_ ?_ _ ⟨.f .nils,⟨?_,?_,?_,?_,?_,?_,?_,?_⟩,?_,.inl ⟨rfl,rfl⟩,?_⟩ ?_
  .clear hP;have g0':=g0;clear h1 h2 h3 h7 h8;generalize s.h=H0 at*;clear g0 hI;rintro k s hk ⟨d,⟨h1,h2,h3,h7,h8,h9,h10,gP⟩,hfr,hg,hPc⟩;have hwk:=zaK k (by omega);have g0:s.h.get 0=some (.arr 4 0 [[.f (rbF L),.f .nils,.f .nils,.f .nils]]):=by rw[hfr 0 (by omega)];exact g0'
   have hxt:r.tu[k]? =some r.tu[k]:=Z0 hk;have hpT:=hpc _ (Z1 hk);generalize hTt:r.tu[k]=T at hxt hpT;obtain⟨p0,p1,p2,hpe,d0,d1,d2⟩ :=hpT;have htu:tuF T=[valsF T.1,p0,p1,p2]:=by unfold tuF;rw[hpe]
   have az:=ans59 eW w hw n k;have sT:=zDH (i:=n) (ch:=chs R w) hxt;have htl2:=znU (i:=n) (r:=r) (ch:=chs R w) (k:=k);generalize zha n r (chs R w) k=ts at hg sT htl2;generalize decide ((n,k)∈chs R w)=z at az sT;have qz:=fun k=>zaj (k:=k) az
   have fi1x:Ans pr 35 [.i .i64 1] (.ag [.b false,.sl 1 [[.i .u32 1]],.sl 1 [[.i .u32 1]]]):=fi1;have q1:=fun k=>zaj (k:=k) fi1x
   by_cases hcond:r.ce=true\/(r.ce=false/\z=true)
   .have sT2:zha n r (chs R w) (k+1)=ts++[(T.1,zeR)]:=by
     rw[sT,Z51 (by rcases hcond with h|⟨-,h⟩ <;>simp[h])]
    rcases hcond with hb|⟨hb,rfl⟩
    all_goals
     simp[rW,h1,h2,h3,h7,h8,h9,h10,g0,gP,zet,hx,hA,rlE,zfc,hk,hb,ziF,w_d,qz];refine zaM ?_;simp[rW,h1,h2,h3,h7,h8,h9,h10,g0,gP,zet,hx,hA,rlE,zfc,hk,hb,zfZ,hxt,hTt,htu,zaH,zJJ,d0,d1,d2,q1];refine zde (new:=[[D.f (valsF T.1),D.f (.b false),D.f (.sl 1 [[.i .u32 1]]),D.f (.sl 1 [[.i .u32 1]])]]) (zeI hg ?_ fun _ _ _=>rfl) ?_ ?_ ?_ ?_
     .omega
     .omega
     .rw[zJC];simp;omega
     .omega
     intro r1 hr1 hr2 hr3 hr4 hr5;refine⟨hr1,?_⟩;have eP:(wrT s.h r1.wr).get P=some (.arr 4 0 [[.f (.s r.nm),.f (.b r.ce),.f r.co,d]]):=by rw[hr4 P (by omega) (fun e=>by have:=zaU hg e;omega)];exact gP
     have hPr:P<r1.c+1+1:=by omega
     have hce:=zcN hr2;simp[rW,eP,hce,hPr,hwk];refine⟨r1.d,⟨?_,?_,?_,?_,?_,?_,?_,?_⟩,?_,?_,?_⟩
     .simp[rW,h1]
     .simp[rW,h2]
     .simp[rW,h3]
     .simp[rW,h7]
     .simp[rW,h8]
     .simp[rW,h9]
     .simp[rW,hwk]
     .simp[rW]
     .intro id hid;have i0:¬id=P:=by omega
      have e2:=hr4 id (by omega) (fun e=>by have:=zaU hg e;omega);simp[rW,i0,e2];exact hfr id hid
     .rw[sT2,zEl];simp[rW];exact zeI hr2 (by omega) fun id h1 _=>by
       have i0:¬id=P:=by omega
       simp[TG,i0]
     .simp[rW];omega
   .have hb:r.ce=false:=by cases h:r.ce<;>simp_all
    have hz:z=false:=by cases z<;>simp_all
    subst hz;have sT2:zha n r (chs R w) (k+1)=ts:=by rw[sT,hb];simp
    simp[rW,h1,h2,h3,h7,h8,h9,h10,g0,gP,zet,hx,hA,rlE,zfc,hk,hb,ziF,w_d,qz,hwk];refine⟨d,⟨?_,?_,?_,?_,?_,?_,?_,?_⟩,?_,?_,?_⟩
    .simp[rW,h1]
    .simp[rW,h2]
    .simp[rW,h3]
    .simp[rW,h7]
    .simp[rW,h8]
    .simp[rW,h9]
    .simp[rW]
    .simp[rW,gP]
    .simp[rW];exact hfr
    .rw[sT2];simp[rW];exact hg
    .simp[rW,hPc]
  .rintro s2 ⟨d,⟨h1,h2,h3,h7,h8,h9,h10,gP⟩,hfr,hg,hPc⟩;have g1:s2.h.get 0=some (.arr 4 0 [[.f (rbF L),.f .nils,.f .nils,.f .nils]]):=by rw[hfr 0 (by omega)];exact g0
   simp[rW,h3,h8,h10,g1,zet,hx,hA,rlE,zfc];exact⟨d,⟨by simp[rW,h1],by simp[rW,h2],by simp[rW,h3],by simp[rW,h7],by simp[rW,h8],by simp[rW,h9],by simp[rW,h10],by simp[rW,gP]⟩,by simp[rW];exact hfr,by simp[rW];exact hg,by simp[rW,hPc]⟩
  .simp[rW,h1]
  .simp[rW,h2]
  .simp[rW,h3]
  .simp[rW,h7]
  .simp[rW,h8]
  .simp[rW]
  .simp[rW]
  .simp[rW]
  .intro id hid;have i0:¬id=P:=by omega
   simp[rW,i0]
  .simp[rW]<;>omega
  .clear h1 h2 h3 h7 h8;rintro x s2 ⟨rfl,d,⟨h1,h2,h3,h7,h8,h9,h10,gP⟩,hfr,hg,hPc⟩;have g1:s2.h.get 0=some (.arr 4 0 [[.f (rbF L),.f .nils,.f .nils,.f .nils]]):=by rw[hfr 0 (by omega)];exact g0
   have hI1:ziZ s2.h s2.c dO W:=hI.up (fun id _ h=>hfr id (by omega)) (by omega);have htl2:=znU (i:=n) (r:=r) (ch:=chs R w) (k:=r.tu.length);have eR:zuC n r (chs R w)=⟨r.nm,r.ce,r.co,zha n r (chs R w) r.tu.length⟩ :=rfl;generalize zha n r (chs R w) r.tu.length=ts at hg eR htl2;have ho:Own s2.h 2 s2.c d (zaW ts):=zqU hg (by omega);have n1:NE dO d:=zhP (P:=P) (fun x hx=>by have:=zaU hI.g hx;omega) fun x hx=>by have:=zaU hg hx;omega
   have hd1:∀x,dO.oid=some x->1<=x/\x<P:=fun x hx=>by have:=zaU hI.g hx;omega
   have hWb:(W.map zi7).length+1<=1000000:=by rw[Z18];omega
   have hWa:∀dd:D,(W++[(dd,({nm:=r.nm,ce:=r.ce,co:=r.co,tu:=ts}:Rl))]).map (·.2)=zc7 (chs R w) 0 (L.take (n+1)):=fun dd=>by
    rw[eI,eR,Z20,hWm];rfl
   rcases hg with⟨rfl,he⟩ |⟨ib,rb,rfl,hn0,gb,hb1,hb2,hb3⟩
   .simp[rW,h7,h8,h9,gP,hcc];refine zde (new:=[zi7 (.f .nils,{nm:=r.nm,ce:=r.ce,co:=r.co,tu:=ts})]) hI1.g (by omega) hWb ?_ ?_
    .omega
    intro r1 hr1 hr2 hr3 hr4 hr5;refine⟨hr1,?_⟩;have e0:=hr4 0 (by omega) (fun e=>by have:=hd1 0 e;omega);simp[rW,hwn,h8];refine⟨⟨r1.d,_,⟨?_,?_,?_,?_,?_⟩,?_,?_,hWa (.f .nils)⟩,?_⟩
    .simp[rW,h1]
    .simp[rW,h2]
    .simp[rW,h3]
    .simp[rW]
    .simp[rW,e0,g1]
    .simp[rW]<;>omega
    .simp[rW];exact zBd hI1 ho n1 hr2 hr3 hr4 hr5
    .simp[rW,hwn]
   .simp[rW,h7,h8,h9,gP,hcc,zkT];generalize hdd:D.sl ib 0 (tuD ts).length 4 (tuD ts).length false=dd at*;have hI2:ziZ (s2.h.set s2.c (.arr 4 0 [[.f (.s r.nm),.f (.b r.ce),.f r.co,dd]])) (s2.c+1) dO W:=hI1.up (fun id _ h2=>by
     have i0:¬id=s2.c:=by omega
     simp[TG,i0]) (by omega)
    have ho2:Own (s2.h.set s2.c (.arr 4 0 [[.f (.s r.nm),.f (.b r.ce),.f r.co,dd]])) 2 (s2.c+1) dd (zaW ts):=ho.up (fun x hx=>by
     have:=ho.2.2.1 x hx;have i0:¬x=s2.c:=by omega
     simp[TG,i0]) (Z2 _) (by omega)
    refine zde (new:=[zi7 (dd,{nm:=r.nm,ce:=r.ce,co:=r.co,tu:=ts})]) hI2.g (by omega) hWb ?_ ?_
    .omega
    intro r1 hr1 hr2 hr3 hr4 hr5;refine⟨hr1,?_⟩;have e0:=hr4 0 (by omega) (fun e=>by have:=hd1 0 e;omega);have i0:¬0=s2.c:=by omega
    rw[TG,Z49 i0]at e0;simp[rW,hwn,h8];refine⟨⟨r1.d,_,⟨?_,?_,?_,?_,?_⟩,?_,?_,hWa dd⟩,?_⟩
    .simp[rW,h1]
    .simp[rW,h2]
    .simp[rW,h3]
    .simp[rW]
    .simp[rW,e0,g1]
    .simp[rW]<;>omega
    .simp[rW];exact zBd hI2 ho2 n1 hr2 hr3 hr4 hr5
    .simp[rW,hwn]
 .rintro s ⟨hO,h8⟩;obtain⟨dO,W,⟨h1,h2,h3,h7,g0⟩,hc,hI,hWm⟩ :=id hO;simp[rW,h1,h2,h3,h7,h8,g0,zdv];exact hO.up (by simp[rW]) (by simp[rW]) (by simp[rW]) (by simp[rW]) (by simp[rW]) (by simp[rW])
 .simp[rW]
 .simp[rW]
 .simp[rW]
 .simp[rW]
 .simp[rW]
 .simp[rW]
 .simp[rW]
 .rintro x s ⟨rfl,dO,W,⟨h1,h2,h3,h7,g0⟩,hc,hI,hWm⟩;rw[Z7]at hWm;simp[rW,h7];obtain⟨rd,hf⟩ :=hI.frz 9;rw[hWm]at hf;simp[rW,hf]
def fn53:pr.fn 53=some g53:=by kernel_rfl
def fn70:pr.fn 70=some g70:=by kernel_rfl
def fn22:pr.fn 22=some g22:=by kernel_rfl
def fn9:pr.fn 9=some g9:=by kernel_rfl
def scD(L:List RB):List (List D):=(L.map fun p=>[F.s p.1.nm,F.b p.1.ce,p.1.co]).map fun a=>a.map D.f
def zxm{L:List RB}{n:Nat}{r:Rl}{B:List (List Nat)}(h:L[n]? =some (r,B)):scD (L.take (n+1))=scD (L.take n)++[[D.f (.s r.nm),D.f (.b r.ce),D.f r.co]]:=by
 unfold scD;rw[Z105,h,Z20,Z20];rfl
def zxj(L:List RB):(scD L).length=L.length:=by simp[scD]
def scF(L:List RB):F:=slc 3 (L.map fun p=>[F.s p.1.nm,F.b p.1.ce,p.1.co])
def J53(L:List RB)(n:Nat)(s:St):Prop:=∃d,(s.tm.get 0=some (.f (rbF L))/\s.tm.get 3=some (d)/\s.tm.get 4=some (.f (.i .i64 n)))/\Gro s.h 0 s.c 3 d (scD (L.take n))
def ans53{L:List RB}(hL:LOk L):Ans pr 53 [rbF L] (scF L):=by
 refine zb6 fn53 ?_;have hn8:=hL.n;simp only[g53,rU];simp[rW,st0,zax,zgj];refine zcz L.length (J53 L) (fun e s=>e= .exit 0/\J53 L L.length s) ?_ ?_ _ ⟨.f .nils,⟨?_,?_,?_⟩,.inl ⟨rfl,rfl⟩⟩ ?_
 .rintro n s hlt ⟨d,⟨h0,h3,h4⟩,hg⟩;have hw:=zaK n (by omega);have hx:L[n]? =some L[n]:=Z0 hlt;have hG:=hL.g _ (Z1 hlt);generalize hA:L[n]=q at hx hG;obtain⟨r,B⟩ :=q;have es:=zxm hx;have hl:=zxj (L.take n);have hlt2:(L.take n).length<=8:=by rw[Z41];omega
  simp[rW,h0,h3,h4,hlt,zdv,zet,hx,hA,rlE];refine zde (new:=[[D.f (.s r.nm),D.f (.b r.ce),D.f r.co]]) (zeI hg ?_ fun _ _ _=>rfl) ?_ ?_ (by omega) ?_
  .omega
  .omega
  .simp;omega
  intro r1 hr1 hr2 hr3 hr4 hr5;refine⟨hr1,?_⟩;simp[rW,hw];exact⟨r1.d,⟨by simp[rW,h0],by simp[rW],by simp[rW,hw]⟩,by rw[es];simp[rW];exact hr2⟩
 .rintro s ⟨d,⟨h0,h3,h4⟩,hg⟩;simp[rW,h0,h4,zdv];exact⟨d,⟨by simp[rW,h0],by simp[rW,h3],by simp[rW,h4]⟩,by simp[rW];simpa using hg⟩
 .simp[rW]
 .simp[rW]
 .simp[rW]
 .rintro x s ⟨rfl,d,⟨h0,h3,h4⟩,hg⟩;rw[Z7]at hg;obtain⟨rd,hf⟩ :=zfx (k:=11) hg (zmS s.h.get 10 _) (by simp[scD]);simp[rW,h3,hf];rfl
def J70(L:List RB)(n:Nat)(s:St):Prop:=∃d,(s.tm.get 3=some (d)/\s.tm.get 6=some (.f (rbF L))/\s.tm.get 7=some (.f (.i .i64 L.length))/\s.tm.get 8=some (.f (.i .i64 n)))/\Gro s.h 0 s.c 3 d (scD (L.take n))
def ans70{L:List RB}(hL:LOk L):Ans pr 70 [rbF L] (scF L):=by
 refine zb6 fn70 ?_;have hn8:=hL.n;simp only[g70,rU];simp[rW,st0,zax,zgj,zdv];refine zcz L.length (J70 L) (fun e s=>e= .exit 0/\J70 L L.length s) ?_ ?_ _ ⟨.f .nils,⟨?_,?_,?_,?_⟩,.inl ⟨rfl,rfl⟩⟩ ?_
 .rintro n s hlt ⟨d,⟨h3,h6,h7,h8⟩,hg⟩;have hw:=zaK n (by omega);have hx:L[n]? =some L[n]:=Z0 hlt;have hG:=hL.g _ (Z1 hlt);generalize hA:L[n]=q at hx hG;obtain⟨r,B⟩ :=q;simp only at hG;have hcc:=hG.k.cc;have hd:(zaW r.tu).d= .f (zaW r.tu):=zd5 _;have hc2:(D.f (zaW r.tu)).cells=some [.f (zaW r.tu)]:=zcc _ _;have es:=zxm hx;have hl:=zxj (L.take n);have hlt2:(L.take n).length<=8:=by rw[Z41];omega
  simp[rW,h3,h6,h7,h8,hlt,zet,hx,hA,rlE,hcc,hc2];have hg2:Gro (s.h.set s.c (.arr 4 0 [[.f (.s r.nm),.f (.b r.ce),.f r.co,.f (zaW r.tu)]])) 0 (s.c+1) 3 d (scD (L.take n)):=zfy hg (fun Y hY=>by
   have:=zaU hg hY;have i0:¬Y=s.c:=by omega
   simp[TG,i0]) (by omega)
  refine zde (new:=[[D.f (.s r.nm),D.f (.b r.ce),D.f r.co]]) (zeI hg2 ?_ fun x _ _=>by simp only[TG];split<;>rfl) ?_ ?_ (by omega) ?_
  .omega
  .omega
  .simp;omega
  intro r1 hr1 hr2 hr3 hr4 hr5;refine⟨hr1,?_⟩;simp[rW,hw];exact⟨r1.d,⟨by simp[rW],by simp[rW,h6],by simp[rW,h7],by simp[rW,hw]⟩,by rw[es];simp[rW];exact hr2⟩
 .rintro s ⟨d,⟨h3,h6,h7,h8⟩,hg⟩;simp[rW,h7,h8];exact⟨d,⟨by simp[rW,h3],by simp[rW,h6],by simp[rW,h7],by simp[rW,h8]⟩,by simp[rW];simpa using hg⟩
 .simp[rW]
 .simp[rW]
 .simp[rW]
 .simp[rW]
 .rintro x s ⟨rfl,d,⟨h3,h6,h7,h8⟩,hg⟩;rw[Z7]at hg;obtain⟨rd,hf⟩ :=zfx (k:=11) hg (zmS s.h.get 10 _) (by simp[scD]);simp[rW,h3,hf];rfl
def zGW(L:List RB):(scF L).d= .f (scF L):=zgb _ _
def ans22{L:List RB}(hL:LOk L):Ans pr 22 [.ag (pgF L)] (.i .i64 0):=by
 refine zb6 fn22 ?_;have hn8:=hL.n;have h8:¬(8:Int)< (L.length:Nat):=by omega
 have q1:=fun k=>zaj (k:=k) (zEy hL)
 have q2:=fun k=>zaj (k:=k) (ans53 hL)
 simp only[g22,rU];simp[rW,st0,zax,pgF,zgj,zgV,zdv,h8,q1,q2,zfD,zew,ziF,zGW];refine round ?_;simp[rW];refine round ?_;simp[rW];refine round ?_;simp[rW];refine round ?_;simp[rW]
def ans9{L:List RB}(hL:LOk L)(eW:Bool)(w:List Int):Ans pr 9 [.ag (pgF L),wG eW w] (if isW w (spL L)=true then zc3 (zc7 (chs (rfL L) w) 0 L)else .nils):=by
 refine zb6 fn9 ?_;have a1:=ans22 hL;have a2:=ans5 hL;have a4:=ans23 (spOk hL) (zib hL) eW w
 by_cases hw:isW w (spL L)=true
 .have a3:=ans24 hL eW w (zEx hL hw);rw[hw]at a4;rw[Z51 hw];simp only[pgF]at a1 a2 a3;have q1:=fun k=>zaj (k:=k) a1
  have q2:=fun k=>zaj (k:=k) a2
  have q3:=fun k=>zaj (k:=k) a3
  have q4:=fun k=>zaj (k:=k) a4
  simp only[g9,rU];simp[rW,st0,zax,pgF,zgj,zgV,q1,q2,q3,q4,zfD,zew,ziF,w_d,zkW]
 .rw[Z49 hw];have hw2:isW w (spL L)=false:=by simpa using hw
  rw[hw2]at a4;simp only[pgF]at a1 a2;have q1:=fun k=>zaj (k:=k) a1
  have q2:=fun k=>zaj (k:=k) a2
  have q4:=fun k=>zaj (k:=k) a4
  simp only[g9,rU];simp[rW,st0,zax,pgF,zgj,zgV,q1,q2,q4,zfD,zew,ziF,w_d]
def GG(h:T Ob)(lo c n:Nat)(d:D)(els:List Nat):Prop:=
 (n=0/\d= .f .nils/\els=[])\/∃id jk,d= .sl id 0 els.length 1 n false/\h.get id=some (.arr 1 0 (zcp (els++jk)))/\els.length+jk.length=n/\0<n/\lo<=id/\id<c
def GG.up{h h':T Ob}{lo c c' n:Nat}{d:D}{els:List Nat}(H:GG h lo c n d els)(hf:∀x,d.oid=some x->h'.get x=h.get x)(hc:c<=c'):GG h' lo c' n d els:=by
 rcases H with H|⟨id,jk,rfl,h1,h2,h3,h4,h5⟩
 .exact .inl H
 .exact .inr ⟨id,jk,rfl,by rw[hf id rfl];exact h1,h2,h3,h4,by omega⟩
def GG.oid{h:T Ob}{lo c n:Nat}{d:D}{els:List Nat}(H:GG h lo c n d els){x:Nat}(hx:d.oid=some x):lo<=x/\x<c:=by
 rcases H with⟨-,rfl,-⟩ |⟨id,jk,rfl,-,-,-,h4,h5⟩
 .cases hx
 .cases hx;exact⟨h4,h5⟩
def GG.cells{h:T Ob}{lo c n:Nat}{d:D}{els:List Nat}(H:GG h lo c n d els):d.cells=some [d]:=by
 rcases H with⟨-,rfl,-⟩ |⟨id,jk,rfl,-⟩ <;>rfl
def GG.hd8{h:T Ob}{lo c n:Nat}{d:D}{els:List Nat}(H:GG h lo c n d els)(l:List (List D)):hd8 ([d]::l)=false:=by
 rcases H with⟨-,rfl,-⟩ |⟨id,jk,rfl,-⟩ <;>rfl
def GG.len{h:T Ob}{lo c n:Nat}{d:D}{els:List Nat}(H:GG h lo c n d els):zcE d=some els.length:=by
 rcases H with⟨-,rfl,rfl⟩ |⟨id,jk,rfl,-⟩ <;>rfl
theorem zIa{h:T Ob}{lo c n x:Nat}{d:D}{els:List Nat}{rd:List Nat}{K:Rs->Prop}(H:GG h lo c n d els)(hn:els.length=n)(hlo:lo<=c)(hs:n<1000)
  (hK:∀r:Rs,zat r.c r.wr=true->GG (wrT h r.wr) lo r.c (n+1) r.d (els++[x])->c<=r.c->(∀id,id<c->d.oid≠some id->(wrT h r.wr).get id=h.get id)->(∀y,y∈r.wr.map (·.1)->y=c\/d.oid=some y)->(∀y,y∈r.rd->y∈rd\/d.oid=some y)->(∀y,r.d.oid=some y->y=c\/d.oid=some y)->K r):oB (zbv 1 8 h.get c d [[.f (.i .i64 (x:Nat))]] rd) K:=by
 have hm:∀n,n<=1000000->n<=zaC:=fun n hn=>by have:=zaN (n:=n) (by omega);simpa using this
 rcases H with⟨rfl,rfl,rfl⟩ |⟨id,jk,rfl,h1,h2,h3,h4,h5⟩
 .rw[zh5,Z49 (by simp),Z51 ⟨hm _ (by simp),hm _ (by simp)⟩];refine hK {d:= .sl c 0 1 1 1 false,rd:=rd,wr:=[(c,some (.arr 1 0 [[.f (.i .i64 (x:Nat))]]))],c:=c+1} ?_ (.inr ⟨c,[],rfl,?_,rfl,by omega,hlo,by simp⟩) (by simp) ?_ ?_ (fun y hy=> .inl hy) (by simp[D.oid])
  .simp[zat,Z79]
  .simp[wrT,T.zal,zcp]
  .intro i hi _;have:i≠c:=by omega
   simp[wrT,T.zal,this]
  .simp
 .have hj:jk=[]:=Z17.1 (by omega);subst hj;rw[Z22]at h1;have hne:els.length≠0:=by omega
  have e:zbv 1 8 h.get c (.sl id 0 els.length 1 n false) [[.f (.i .i64 (x:Nat))]] rd=some {d:= .sl c 0 (els.length+1) 1 (els.length+1) false,rd:=id::rd,wr:=[(id,none),(c,some (.arr 1 0 (zcp els++[[.f (.i .i64 (x:Nat))]])))],c:=c+1}:=by
   rw[zkz,Z49 (by simp),h1];have k1:¬(0+els.length+1<=n):=by omega
   have k2:=hm (els.length+1) (by omega);have k3:=hm ((els.length+1)*8) (by omega);simp[om,apO,zkO,k1,k2,k3];omega
  rw[e];refine hK _ ?_ (.inr ⟨c,[],?_,?_,by simp;omega,by omega,hlo,by simp⟩) (by simp) ?_ ?_ ?_ (by simp[D.oid])
  .simp[zat,Z79];omega
  .simp[hn]
  .simp[wrT,T.zal,zcp]
  .intro i hi hne;have h1:i≠c:=by omega
   have h2:i≠id:=fun e=>hne (by rw[e];rfl)
   simp[wrT,T.zal,T.zbj,h1,h2]
  .intro y hy;simp only[Z10,Z85,Z5,Z164,or_false]at hy;rcases hy with rfl|rfl
   .exact .inr rfl
   .exact .inl rfl
  .intro y hy;rcases Z5.1 hy with rfl|hy
   .exact .inr rfl
   .exact .inl hy
def zIs{α:Type}(a b:List α)(x:α):(a++b).take a.length++[x]++(a++b).drop (a.length+1)=a++[x]++b.drop 1:=by
 rw[List.take_left,<-Z175,List.drop_left]
theorem zKR{h:T Ob}{lo c n x:Nat}{d:D}{els:List Nat}{rd:List Nat}{K:Rs->Prop}(H:GG h lo c n d els)(hn:els.length<n)
  (hK:∀r:Rs,zat r.c r.wr=true->GG (wrT h r.wr) lo r.c n r.d (els++[x])->r.c=c->(∀id,d.oid≠some id->(wrT h r.wr).get id=h.get id)->(∀y,y∈r.wr.map (·.1)->d.oid=some y)->(∀y,y∈r.rd->y∈rd\/d.oid=some y)->r.d.oid=d.oid->K r):oB (zbv 1 8 h.get c d [[.f (.i .i64 (x:Nat))]] rd) K:=by
 rcases H with⟨rfl,-,rfl⟩ |⟨id,jk,rfl,h1,h2,h3,h4,h5⟩
 .simp at hn
 .have e:zbv 1 8 h.get c (.sl id 0 els.length 1 n false) [[.f (.i .i64 (x:Nat))]] rd=some {d:= .sl id 0 (els.length+1) 1 n false,rd:=id::rd,wr:=[(id,some (.arr 1 0 ((zcp (els++jk)).take (0+els.length)++[[.f (.i .i64 (x:Nat))]]++(zcp (els++jk)).drop (0+els.length+1))))],c:=c}:=by
   rw[zkz,Z49 (by simp),h1];have k1:0+els.length+1<=n:=by omega
   have k2:els.length+1<=(zcp (els++jk)).length:=by rw[zkO,Z16];omega
   have k3:zc1 (zcp (els++jk)) ((zcp (els++jk)).take (0+els.length)++[[D.f (.i .i64 (x:Nat))]]++(zcp (els++jk)).drop (0+els.length+1))=true:=by
    unfold zc1;rw[zuN];rfl
   rw[zfN];simp only[apO,true_and,Z23,Z170,Z25];rw[Z51 (by rw[zkO,Z16];omega),Z51 (by omega),Z51 ⟨by omega,by omega,by simpa using k3⟩]
  rw[e];have hrow:(zcp (els++jk)).take (0+els.length)++[[D.f (.i .i64 (x:Nat))]]++(zcp (els++jk)).drop (0+els.length+1)=zcp (els++[x]++jk.drop 1):=by
   have e1:zcp (jk.drop 1)=(zcp jk).drop 1:=by simp[zcp]
   rw[Z25,znW,znW,znW,e1,<-zkO els];exact zIs (zcp els) (zcp jk) _
  rw[hrow];refine hK _ ?_ (.inr ⟨id,jk.drop 1,by simp,?_,by simp;omega,h3,h4,h5⟩) rfl ?_ (by simp[D.oid]) ?_ rfl
  .simp[zat,Z79];omega
  .simp[wrT,T.zal]
  .intro i hne;have h2:i≠id:=fun e=>hne (by rw[e];rfl)
   simp[wrT,T.zal,h2]
  .intro y hy;rcases Z5.1 hy with rfl|hy
   .exact .inr rfl
   .exact .inl hy
def zDr{h:T Ob}{lo c n:Nat}{d:D}{els:List Nat}(H:GG h lo c n d els):∃d' rd,sliceB 1 h.get d none (some (.f (.i .i64 0))) none=some (d',rd)/\GG h lo c n d' []/\d'.oid=d.oid/\(∀y∈rd,d.oid=some y):=by
 rcases H with⟨rfl,rfl,rfl⟩ |⟨id,jk,rfl,h1,h2,h3,h4,h5⟩
 .exact⟨.f .nils,[],rfl,.inl ⟨rfl,rfl,rfl⟩,rfl,by simp⟩
 .refine⟨.sl id 0 0 1 n false,[id],?_,.inr ⟨id,els++jk,rfl,by simpa using h1,by simp;omega,h3,h4,h5⟩,rfl,by simp[D.oid]⟩;simp[sliceB,h1,zbu,zbq]
structure PS(h:T Ob)(lo c PR:Nat)(W:List (D×Nat×List Nat)):Prop where
 r:h.get PR=some (.arr 1 0 (W.map fun p=>[p.1]))
 g:∀p∈W,GG h lo c p.2.1 p.1 p.2.2
 n:∀(i j:Nat) (p q:D×Nat×List Nat),i≠j->W[i]? =some p->W[j]? =some q->NE p.1 q.1
 l:PR<lo
def PS.up{h h':T Ob}{lo c c' PR:Nat}{W:List (D×Nat×List Nat)}(H:PS h lo c PR W)(hr:h'.get PR=h.get PR)(hf:∀id,lo<=id->id<c->h'.get id=h.get id)(hc:c<=c'):PS h' lo c' PR W:=
 ⟨by rw[hr];exact H.r,fun p hp=>(H.g p hp).up (fun x hx=>by have:=(H.g p hp).oid hx;exact hf x this.1 this.2) hc,H.n,H.l⟩
theorem PS.upd{h h':T Ob}{lo c c' PR i n':Nat}{W:List (D×Nat×List Nat)}{p:D×Nat×List Nat}{d':D}{els':List Nat}(H:PS h lo c PR W)(hi:W[i]? =some p)(hg:GG h' lo c' n' d' els')(hr:h'.get PR=some (.arr 1 0 ((W.set i (d',n',els')).map fun p=>[p.1])))
  (hf:∀id,lo<=id->id<c->p.1.oid≠some id->h'.get id=h.get id)(hN:∀x,d'.oid=some x->c<=x\/p.1.oid=some x)(hc:c<=c'):PS h' lo c' PR (W.set i (d',n',els')):=by
 have hil:i<W.length:=by
  rcases Z145 i W.length with h1|h1
  .exact h1
  .rw[Z97 h1]at hi;cases hi
 have new:∀(j:Nat) (q:D×Nat×List Nat),j≠i->W[j]? =some q->NE d' q.1:=fun j q hj hq x hx e=>by
  have hb:=(H.g q (Z39 hq)).oid e;rcases hN x hx with h1|h1
  .omega
  .exact H.n i j p q (fun e=>hj e.symm) hi hq x h1 e
 refine⟨hr,fun q hq=> ?_,fun a b q1 q2 hab h1 h2=> ?_,H.l⟩
 .obtain⟨j,hj,rfl⟩ :=Z130 hq;rw[List.getElem_set];split
  .exact hg
  .rename_i hne;have hjl:j<W.length:=by simpa using hj
   have hm:W[j]? =some W[j]:=Z0 hjl;refine (H.g _ (Z1 hjl)).up (fun x hx=> ?_) hc;have hb:=(H.g _ (Z1 hjl)).oid hx;exact hf x hb.1 hb.2 fun e=>H.n j i _ p (fun e=>hne e.symm) hm hi x hx e
 .rw[Z87]at h1 h2
  by_cases ha:i=a
  .subst ha;rw[Z51 rfl,Z51 hil]at h1;cases h1;rw[Z49 hab]at h2;exact new b q2 (fun e=>hab e.symm) h2
  .rw[Z49 ha]at h1
   by_cases hb:i=b
   .subst hb;rw[Z51 rfl,Z51 hil]at h2;cases h2;intro x hx e;exact new a q1 hab h1 x e hx
   .rw[Z49 hb]at h2;exact H.n a b q1 q2 hab h1 h2
end Go.Proofs.YtlinkhjnihjbaaaGreatDoor
end
