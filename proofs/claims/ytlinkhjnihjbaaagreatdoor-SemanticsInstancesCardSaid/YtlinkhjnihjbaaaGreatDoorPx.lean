/- allPresent: every tuple is present. -/
import Derived.Test.YtlinkhjnihjbaaaGreatDoorPw
import Derived.KernelRfl
import Derived.IntWalk
set_option linter.all false
set_option maxRecDepth 100000
set_option maxHeartbeats 4000000
section
namespace Go.Proofs.YtlinkhjnihjbaaaGreatDoor
open Go Go.Vse Go.Vse.Sm
def fn46:pr.fn 46=some g46:=by kernel_rfl
def vF(p:RB):Nat×List Nat:=(p.1.tu.length,List.range p.1.tu.length)
def vA(L:List RB)(n:Nat):List (Nat×List Nat):=(L.take n).map vF++List.replicate (L.length - n) (0,[])
def zL2{L:List RB}{n:Nat}(h:n<=L.length):(vA L n).length=L.length:=by
 simp[vA];omega
def zL1{L:List RB}{n:Nat}(h:n<L.length):(vA L n)[n]? =some (0,[]):=by
 unfold vA;have hl:((L.take n).map vF).length=n:=by simp;omega
 rw[Z62 (by omega),hl,Z194,Z160,Z51 (by omega)]
def zL4{L:List RB}{n:Nat}{p:RB}(h:L[n]? =some p)(hn:n<L.length):vA L (n+1)=(vA L n).set n (vF p):=by
 unfold vA;have hl:((L.take n).map vF).length=n:=by simp;omega
 rw[Z112 _ _ (by omega),hl,Z194,Z105,h,Z20,Z32]
 congr 1
 obtain⟨m,hm⟩ :∃m,L.length - n=m+1:=⟨L.length - n - 1,by omega⟩
 rw[hm,show L.length - (n+1)=m by omega,Z181];rfl
def zj6{W:List (D×Nat×List Nat)}{V:List (Nat×List Nat)}(h:W.map (·.2)=V){n:Nat}{v:Nat×List Nat}(hv:V[n]? =some v):∃d,W[n]? =some (d,v):=by
 rw[<-h,Z36]at hv;cases hw:W[n]? with
 |none=>rw[hw]at hv;cases hv
 |some p=>
  rw[hw]at hv;cases hv;exact⟨p.1,rfl⟩
def zka{W:List (D×Nat×List Nat)}{n:Nat}{d:D}{v:Nat×List Nat}(h:W[n]? =some (d,v)):(W.map fun p=>[p.1])[n]? =some [d]:=by
 rw[Z36,h];rfl
def PS.h8{h:T Ob}{lo c PR:Nat}{W:List (D×Nat×List Nat)}(H:PS h lo c PR W):hd8 (W.map fun p=>[p.1])=false:=by
 cases W with
 |nil=>rfl
 |cons p W=>exact (H.g p (by simp)).hd8 _
def zhh{W:List (D×Nat×List Nat)}:(W.map fun p=>[p.1]).length=W.length:=by simp
def zm5{W:List (D×Nat×List Nat)}{n:Nat}{d:D}{v:Nat×List Nat}:(W.map fun p=>[p.1]).set n [d]=(W.set n (d,v)).map fun p=>[p.1]:=by
 rw[Z116]
structure SR(L:List RB)(h0:T Ob)(c0:Nat)(V:List (Nat×List Nat))(h:T Ob)(c:Nat)(W:List (D×Nat×List Nat)):Prop where
 p:PS h (c0+2) c c0 W
 s:h.get (c0+1)=some (.arr 2 0 [[.f (rbF L),.sl c0 0 L.length 1 L.length true]])
 v:W.map (·.2)=V
 f:∀id,id<c0->h.get id=h0.get id
 c:c0+2<=c
def SR.up{L:List RB}{h0:T Ob}{c0:Nat}{V:List (Nat×List Nat)}{h h':T Ob}{c c':Nat}{W:List (D×Nat×List Nat)}(H:SR L h0 c0 V h c W)(hf:∀id,id<c->h'.get id=h.get id)(hc:c<=c'):SR L h0 c0 V h' c' W:=by
 have:=H.c;exact⟨H.p.up (hf _ (by omega)) (fun id _ h=>hf id h) hc,by rw[hf _ (by omega)];exact H.s,H.v,fun id h=>(hf id (by omega)).trans (H.f id h),by omega⟩
def Jap(L:List RB)(h0:T Ob)(c0 n:Nat)(s:St):Prop:=∃W,(s.tm.get 3=some (.ptr (c0+1) 2 0 0)/\s.tm.get 13=some (.f (rbF L))/\s.tm.get 14=some (.f (.i .i64 L.length))/\s.tm.get 15=some (.f (.i .i64 n)))/\SR L h0 c0 (vA L n) s.h s.c W
def Kap(L:List RB)(h0:T Ob)(c0 n m k:Nat)(s:St):Prop:=∃W,(s.tm.get 3=some (.ptr (c0+1) 2 0 0)/\s.tm.get 13=some (.f (rbF L))/\s.tm.get 14=some (.f (.i .i64 L.length))/\s.tm.get 15=some (.f (.i .i64 n))/\s.tm.get 4=some (.f (.i .i64 n))/\s.tm.get 22=some (.f (.i .i64 m))/\s.tm.get 23=some (.f (.i .i64 k)))/\SR L h0 c0 ((vA L n).set n (k,List.range k)) s.h s.c W
def Rap(L:List RB)(h0:T Ob)(c0 n:Nat)(s:St):Prop:=∃W,(s.tm.get 3=some (.ptr (c0+1) 2 0 0)/\s.tm.get 13=some (.f (rbF L))/\s.tm.get 14=some (.f (.i .i64 L.length))/\s.tm.get 15=some (.f (.i .i64 n)))/\SR L h0 c0 (vA L (n+1)) s.h s.c W
def zE4{L:List RB}(hL:LOk L){h0:T Ob}{c0:Nat}:Eff pr 46 [.f (rbF L)] h0 c0 fun d h' c'=>d= .ptr (c0+1) 2 0 0/\∃W,SR L h0 c0 (L.map vF) h' c' W:=by
 refine zjT zfE fn46 ?_;have hn8:=hL.n;simp only[g46,rU];have m1:L.length<=zaC:=by have:=zaN (n:=L.length) (by omega);simpa using this
 have m2:L.length*24<=zaC:=by have:=zaN (n:=L.length*24) (by omega);simpa using this
 simp[rW,st0,zax,zgj,zgV,zdv,m1,m2];have n1:¬c0+1=c0:=by omega
 have n2:¬c0=c0+1:=by omega
 refine zcz L.length (Jap L h0 c0) (fun e s=>e= .exit 0/\Jap L h0 c0 L.length s) ?_ ?_ _ ⟨List.replicate L.length (.f .nils,0,[]),⟨?_,?_,?_,?_⟩,⟨⟨?_,?_,?_,by omega⟩,?_,?_,?_,?_⟩⟩ ?_
 .rintro n s hlt ⟨W,⟨h3,h13,h14,h15⟩,HS⟩;have hw:=zaK n (by omega);have hx:L[n]? =some L[n]:=Z0 hlt;have hG:=hL.g _ (Z1 hlt);generalize hA:L[n]=q at hx hG;obtain⟨r,B⟩ :=q;simp only at hG;have hcc:=hG.k.cc;have hd:(zaW r.tu).d= .f (zaW r.tu):=zd5 _;have hc2:(D.f (zaW r.tu)).cells=some [.f (zaW r.tu)]:=zcc _ _;have hm:=hG.k.n;have hvl:=zL2 (L:=L) (n:=n) (by omega);have hvg:=zL1 hlt;simp[rW,h3,h13,h14,h15,hlt,zet,hx,hA,rlE,hcc,hc2,zfc];refine zcz r.tu.length (Kap L h0 c0 n r.tu.length) (fun e s=>e= .exit 2/\Rap L h0 c0 n s) ?_ ?_ _ ⟨W,⟨?_,?_,?_,?_,?_,?_,?_⟩,?_⟩ ?_
  .clear h3 h13 h14 h15 HS W s;rintro k s hk ⟨W,⟨h3,h13,h14,h15,h4,h22,h23⟩,HS⟩;have hwk:=zaK k (by omega);obtain⟨d,hWn⟩ :=zj6 HS.v (n:=n) (v:=(k,List.range k)) (by rw[Z140 (by omega)]);have hrow:=zka hWn;have hWd:∀h:n<W.length,W[n]=(d,k,List.range k):=fun h=>(Z8.1 hWn).2
   have gR:=HS.p.r;have gS:=HS.s;have hWl:W.length=L.length:=by have:=congrArg List.length HS.v;simpa [hvl]using this
   have hg:=HS.p.g _ (Z39 hWn);simp only at hg;have n1:¬c0+1=c0:=by omega
   have n2:¬c0=c0+1:=by omega
   have hc:=HS.c;simp[rW,h3,h13,h14,h15,h4,h22,h23,hk];refine zaM ?_;simp[rW,h3,h13,h14,h15,h4,h22,h23,gS,gR,hlt,hWl,hrow,zhh,hWd];have hcc1:s.c+1+1+1+1+1+1+1+1+1+1+1+1+1+1=s.c+14:=by omega
   rw[hcc1];have hg2:GG s.h (c0+2) (s.c+14) k d (List.range k):=hg.up (fun _ _=>rfl) (by omega);refine zIa hg2 (by simp) (by omega) (by omega) ?_;intro r1 hr1 hr2 hr3 hr4 hr5 hr6 hr7;have b:∀x,d.oid=some x->c0+2<=x/\x<s.c:=fun x hx=>hg.oid hx
   have e0:=hr4 c0 (by omega) (fun e=>by have:=b _ e;omega);have e1:=hr4 (c0+1) (by omega) (fun e=>by have:=b _ e;omega);have hdj:zcG (r1.wr.map (·.1)) [c0+1]:=fun x hx hm=>by
    rw[Z31.1 hm]at hx;rcases hr5 _ hx with h8|h8
    .omega
    .have:=b _ h8;omega
   refine⟨hr1,hdj,?_⟩;have hce:=hr2.cells;have hc0:c0<r1.c+1+1:=by omega
   have h8:=HS.p.h8;simp[rW,e0,gR,hce,hWn,hc0,h8,hwk];have hs2:((vA L n).set n (k,List.range k)).set n (k+1,List.range (k+1))=(vA L n).set n (k+1,List.range (k+1)):=by rw[Z199]
   have hv2:(W.set n (r1.d,k+1,List.range k++[k])).map (·.2)=(vA L n).set n (k+1,List.range (k+1)):=by rw[Z116,HS.v,Z136,Z199]
   refine⟨W.set n (r1.d,k+1,List.range k++[k]),⟨?_,?_,?_,?_,?_,?_,?_⟩,⟨?_,?_,hv2,?_,?_⟩⟩
   .simp[rW,h3]
   .simp[rW,h13]
   .simp[rW,h14]
   .simp[rW,h15]
   .simp[rW,h4]
   .simp[rW,h22]
   .simp[rW,hwk]
   .simp[rW];refine HS.p.upd hWn (hr2.up (fun x hx=> ?_) (by omega)) ?_ (fun id h1 h2 h3=> ?_) (fun x hx=> ?_) (by omega)
    .have i0:¬x=c0:=by have:=hr2.oid hx;omega
     simp[TG,i0]
    .rw[<-zm5];simp[TG]
    .have i0:¬id=c0:=by omega
     rw[TG,Z49 i0];exact hr4 id (by omega) h3
    .rcases hr7 x hx with h9|h9
     .exact .inl (by omega)
     .exact .inr h9
   .simp[rW,n1,e1,gS]
   .intro id hid;have i0:¬id=c0:=by omega
    have e2:=hr4 id (by omega) (fun e=>by have:=b _ e;omega);simp[rW,i0,e2];exact HS.f id hid
   .simp[rW]<;>omega
  .clear h3 h13 h14 h15 HS W s;rintro s ⟨W,⟨h3,h13,h14,h15,h4,h22,h23⟩,HS⟩;simp[rW,h22,h23];refine⟨W,⟨by simp[rW,h3],by simp[rW,h13],by simp[rW,h14],by simp[rW,h15]⟩,?_⟩;rw[zL4 hx hlt];exact HS.up (fun _ _=>rfl) (Z2 _)
  .simp[rW,h3]
  .simp[rW,h13]
  .simp[rW,h14]
  .simp[rW,h15]
  .simp[rW]
  .simp[rW]
  .simp[rW]
  .have e:(vA L n).set n (0,List.range 0)=vA L n:=by
    have h2:(vA L n)[n]'(by omega)=(0,List.range 0):=by
     have:=hvg;rw[Z0 (by omega)]at this;exact Z53 this
    rw[<-h2,Z95]
   rw[e];refine HS.up (fun id hid=> ?_) (by simp[rW]<;>omega);have i0:¬id=s.c:=by omega
   simp[rW,i0]
  .clear h3 h13 h14 h15 HS W s;rintro x s ⟨rfl,W,⟨h3,h13,h14,h15⟩,HS⟩;simp[rW,h15,hw];exact⟨W,⟨by simp[rW,h3],by simp[rW,h13],by simp[rW,h14],by simp[rW]⟩,HS.up (fun _ _=>rfl) (Z2 _)⟩
 .rintro s ⟨W,⟨h3,h13,h14,h15⟩,HS⟩;simp[rW,h14,h15];exact⟨W,⟨by simp[rW,h3],by simp[rW,h13],by simp[rW,h14],by simp[rW,h15]⟩,HS.up (fun _ _=>rfl) (Z2 _)⟩
 .simp[rW]
 .simp[rW]
 .simp[rW]
 .simp[rW]
 .have e:(List.replicate L.length ((D.f .nils,0,[]):D×Nat×List Nat)).map (fun p=>[p.1])=List.replicate L.length [D.f .nils]:=by simp
  rw[e];simp[rW,n1,n2]
 .intro p hp;rw[List.eq_of_mem_replicate hp];exact .inl ⟨rfl,rfl,rfl⟩
 .intro i j p q _ h1 _ x hx;rw[List.eq_of_mem_replicate (Z39 h1)]at hx;simp[D.oid]at hx
 .simp[rW]
 .simp[vA]
 .intro id hid;have i0:¬id=c0:=by omega
  have i1:¬id=c0+1:=by omega
  simp[rW,i0,i1]
 .simp[rW]<;>omega
 .rintro x s ⟨rfl,W,⟨h3,h13,h14,h15⟩,HS⟩;have e:vA L L.length=L.map vF:=by simp[vA]
  rw[e]at HS;simp[rW,h3,zo5];exact⟨W,HS⟩
theorem zlW:∀(n:Nat) (l:List Nat),l.Nodup->(∀x∈l,x<n)->l.length<=n
 |0,l,_,h=>by
  cases l with
  |nil=>simp
  |cons a l=>exact absurd (h a (by simp)) (by omega)
 |n+1,l,hd,h=>by
  have h1:=zlW n (l.erase n) (hd.erase n) fun x hx=>by
   have hx2:=(hd.mem_erase_iff.1 hx)
   have:=h x hx2.2;have:=hx2.1;omega
  have h2:l.length<=(l.erase n).length+1:=by
   rw[List.length_erase];split<;>omega
  omega
def zLe{l:List Nat}(hd:l.Nodup)(h:∀x∈l,x<3):l∈pl3:=by
 have hl:=zlW 3 l hd h;have c3:∀x,x<3->x=0\/x=1\/x=2:=fun x hx=>by omega
 match l,hl with
 |[],_=>decide
 |[a],_=>
  rcases c3 a (h a (by simp))with rfl|rfl|rfl<;>decide
 |[a,b],_=>
  rcases c3 a (h a (by simp))with rfl|rfl|rfl<;>rcases c3 b (h b (by simp))with rfl|rfl|rfl<;>first|decide|exact absurd hd (by decide)
 |[a,b,c],_=>
  rcases c3 a (h a (by simp))with rfl|rfl|rfl<;>rcases c3 b (h b (by simp))with rfl|rfl|rfl<;>rcases c3 c (h c (by simp))with rfl|rfl|rfl<;>first|decide|exact absurd hd (by decide)
 |_::_::_::_::_,h=>exact absurd h (by simp)
def zCn:∀els∈pl3,∀n∈[0,1,2,3],(∀x∈els,x<n)->srt els=(List.range n).filter fun k=>decide (k∈els):=by decide
def zIw:∀n∈[0,1,2,3],List.range n∈pl3:=by decide
def pick(i:Nat)(ch:List (Nat×Nat)):List Nat:=(ch.filter fun t=>decide (t.1=i)).map (·.2)
def zkV(i:Nat)(a b:List (Nat×Nat)):pick i (a++b)=pick i a++pick i b:=by simp[pick]
def ziz{i k:Nat}{ch:List (Nat×Nat)}:k∈pick i ch↔(i,k)∈ch:=by
 simp only[pick,Z12,Z57,Z86];constructor
 .rintro⟨⟨a,b⟩,⟨h,rfl⟩,rfl⟩;exact h
 .intro h;exact⟨(i,k),⟨h,rfl⟩,rfl⟩
def zp6{i:Nat}{ch:List (Nat×Nat)}(h:ch.Nodup):(pick i ch).Nodup:=by
 unfold pick
 induction ch with
 |nil=>simp
 |cons t ch ih=>
  have h1:=Z74.1 h;rw[Z127];split
  .rename_i ht;simp only[Z86]at ht;rw[Z10,Z74];refine⟨fun hm=>h1.1 ?_,ih h1.2⟩;have:=(ziz (i:=i) (k:=t.2)).1 hm;rw[<-ht]at this;exact this
  .exact ih h1.2
def zHV(r:List (Nat×Nat))(v:Int):(ch1 r v).Sublist r:=by
 unfold ch1;split
 .cases h:r[v.toNat]? with
  |none=>simp
  |some p=>simpa using Z39 h
 .simp
theorem zwm:∀(R:List (List (Nat×Nat))) (w:List Int),(chs R w).Sublist R.flatten
 |[],_=>by simp[chs]
 |r::R,[]=>by simp[chs]
 |r::R,v::w=>by
  rw[chs,Z91];exact (zHV r v).append (zwm R w)
theorem zwo:∀{R:List (List (Nat×Nat))} {w:List Int} {j:Nat} {r:List (Nat×Nat)} {v:Int},R[j]? =some r->w[j]? =some v->chs (R.take (j+1)) (w.take (j+1))=chs (R.take j) (w.take j)++ch1 r v
 |r::R,v::w,0,_,_,h1,h2=>by cases h1;cases h2;simp[chs]
 |a::R,b::w,j+1,r,v,h1,h2=>by
  have:=zwo (R:=R) (w:=w) (j:=j) (by simpa using h1) (by simpa using h2);simp only[Z180,chs,this,Z32]
 |[],_,_,_,_,h1,_=>by simp at h1
 |_::_,[],_,_,_,_,h2=>by simp at h2
theorem zq9:∀{L:List RB} {n a b:Nat},(∀p∈L,Gx p.1 p.2)->(a,b)∈(rfA n L).flatten->n<=a/\∃p,L[a - n]? =some p/\p.1.ce=false/\b<p.1.tu.length
 |[],n,a,b,_,h=>by simp[rfA]at h
 |p::L,n,a,b,hG,h=>by
  rw[rfA,Z71,Z4]at h;rcases h with h|h
  .obtain⟨l,hl,hm⟩ :=List.mem_flatten.1 h;obtain⟨bl,hb,rfl⟩ :=Z12.1 hl;obtain⟨i,hi,he⟩ :=Z12.1 hm;cases he;have g:=hG p (by simp);refine⟨Z2 _,p,by simp,?_,(g.b bl hb).2.1 _ hi⟩;cases hc:p.1.ce with
   |false=>rfl
   |true=>rw[g.ce hc]at hb;simp at hb
  .obtain⟨h1,q,hq,h2⟩ :=zq9 (fun p hp=>hG p (by simp[hp])) h;refine⟨by omega,q,?_,h2⟩;rw[show a - n=(a - (n+1))+1 by omega];simpa using hq
def zHH(n:Nat)(B:List (List Nat)):(B.map (bR n)).flatten=B.flatten.map fun i=>(n,i):=by
 induction B with
 |nil=>rfl
 |cons b B ih=>simp[bR,ih]
theorem zr1:∀{L:List RB} {n:Nat},(∀p∈L,Gx p.1 p.2)->(rfA n L).flatten.Nodup
 |[],_,_=>by simp[rfA]
 |p::L,n,hG=>by
  rw[rfA,Z71,zHH,Z90];refine⟨?_,zr1 fun q hq=>hG q (by simp[hq]),fun x hx y hy e=> ?_⟩
  .have:=(hG p (by simp)).d;refine List.Pairwise.map _ (fun a b hab e=>hab ?_) this;exact (Z66 _ _ _ _▸e).2
  .subst e;obtain⟨i,hi,rfl⟩ :=Z12.1 hx;have:=(zq9 (fun q hq=>hG q (by simp[hq])) hy).1;omega
def vE(p:RB):Nat×List Nat:=if p.1.ce=true then vF p else(p.1.tu.length,[])
def vB(L:List RB)(n:Nat):List (Nat×List Nat):=(L.take n).map vE++(L.drop n).map vF
def zCw{L:List RB}{n:Nat}{p:RB}(h:L[n]? =some p)(hn:n<L.length):(vB L n)[n]? =some (vF p):=by
 unfold vB;have hl:((L.take n).map vE).length=n:=by simp;omega
 rw[Z62 (by omega),hl,Z194,Z36,Z81,Z111,h];rfl
def zCx{L:List RB}{n:Nat}{p:RB}(h:L[n]? =some p)(hn:n<L.length):vB L (n+1)=(vB L n).set n (vE p):=by
 unfold vB;have hl:((L.take n).map vE).length=n:=by simp;omega
 have hd:L.drop n=p::L.drop (n+1):=by
  have:=Z55 hn;rw[Z0 hn]at h;rw[this,Z53 h]
 rw[Z112 _ _ (by omega),hl,Z194,Z105,h,Z20,Z32,hd];rfl
def zJD{L:List RB}{n:Nat}{p:RB}(h:L[n]? =some p)(hn:n<L.length)(hc:p.1.ce=true):vB L (n+1)=vB L n:=by
 rw[zCx h hn];have e:vE p=vF p:=by unfold vE;rw[Z51 hc]
 have hg:=zCw h hn;have hl:n< (vB L n).length:=by simp[vB];omega
 rw[e];rw[Z0 hl]at hg;rw[<-Z53 hg,Z95]
def vC(ch:List (Nat×Nat)):Nat->List RB->List (Nat×List Nat)
 |_,[]=>[]
 |i,p::L=>(p.1.tu.length,(vE p).2++pick i ch)::vC ch (i+1) L
def vE_1(p:RB):(vE p).1=p.1.tu.length:=by unfold vE vF;split<;>rfl
theorem zCB:∀(L:List RB) (i:Nat),vC [] i L=L.map vE
 |[],_=>rfl
 |p::L,i=>by
  rw[vC,zCB L (i+1),Z10]
  congr 1
  rw[show pick i []=[]from rfl,Z22,<-vE_1 p]
theorem zvx:∀{L:List RB} {ch:List (Nat×Nat)} {i a:Nat} {p:RB},L[a]? =some p->(vC ch i L)[a]? =some (p.1.tu.length,(vE p).2++pick (i+a) ch)
 |[],_,_,_,_,h=>by simp at h
 |q::L,ch,i,0,p,h=>by cases h;rfl
 |q::L,ch,i,a+1,p,h=>by
  have:=zvx (L:=L) (ch:=ch) (i:=i+1) (a:=a) (by simpa using h);rw[vC,List.getElem?_cons_succ,this,show i+1+a=i+(a+1) by omega]
theorem zCC:∀{L:List RB} {ch:List (Nat×Nat)} {i a b:Nat} {p:RB},L[a]? =some p->vC (ch++[(i+a,b)]) i L=(vC ch i L).set a (p.1.tu.length,(vE p).2++pick (i+a) ch++[b])
 |[],_,_,_,_,_,h=>by simp at h
 |q::L,ch,i,0,b,p,h=>by
  cases h;have e:∀(M:List RB) (j:Nat),i<j->vC (ch++[(i+0,b)]) j M=vC ch j M:=by
   intro M
   induction M with
   |nil=>intro j _;rfl
   |cons p M ih=>
    intro j hj;rw[vC,vC,ih (j+1) (by omega),zkV];have:pick j [(i+0,b)]=[]:=by simp[pick];omega
    rw[this,Z22]
  rw[vC,vC,e L (i+1) (by omega),Z153,zkV];have:pick i [(i+0,b)]=[b]:=by simp[pick]
  rw[this,Z32];rfl
 |q::L,ch,i,a+1,b,p,h=>by
  have:=zCC (L:=L) (ch:=ch) (i:=i+1) (a:=a) (b:=b) (by simpa using h);rw[show i+1+a=i+(a+1) by omega]at this;rw[vC,vC,this,Z189,zkV];have:pick i [(i+(a+1),b)]=[]:=by simp[pick]
  rw[this,Z22]
def vS(V:List (Nat×List Nat))(n:Nat):List (Nat×List Nat):=(V.take n).map (fun v=>(v.1,srt v.2))++V.drop n
def zCG(V:List (Nat×List Nat))(n:Nat):(vS V n).length=V.length:=by simp[vS];omega
def zMa{V:List (Nat×List Nat)}{n:Nat}{v:Nat×List Nat}(h:V[n]? =some v)(hn:n<V.length):(vS V n)[n]? =some v:=by
 unfold vS;have hl:((V.take n).map fun v=>(v.1,srt v.2)).length=n:=by simp;omega
 rw[Z62 (by omega),hl,Z194,Z81,Z111,h]
def zMb{V:List (Nat×List Nat)}{n:Nat}{v:Nat×List Nat}(h:V[n]? =some v)(hn:n<V.length):vS V (n+1)=(vS V n).set n (v.1,srt v.2):=by
 unfold vS;have hl:((V.take n).map fun v=>(v.1,srt v.2)).length=n:=by simp;omega
 have hd:V.drop n=v::V.drop (n+1):=by
  have:=Z55 hn;rw[Z0 hn]at h;rw[this,Z53 h]
 rw[Z112 _ _ (by omega),hl,Z194,Z105,h,Z20,Z32,hd];rfl
def zhO(ch:List (Nat×Nat)):Nat->List RB->List (Nat×List Nat)
 |_,[]=>[]
 |i,p::L=>(p.1.tu.length,(List.range p.1.tu.length).filter fun k=>p.1.ce||decide ((i,k)∈ch))::zhO ch (i+1) L
structure znC(L:List RB)(i:Nat)(ch:List (Nat×Nat)):Prop where
 d:ch.Nodup
 m:∀a b,(a,b)∈ch->i<=a->∃p,L[a - i]? =some p/\p.1.ce=false/\b<p.1.tu.length
theorem mem4:∀{m:Nat},m<=3->m∈[0,1,2,3]
 |0,_=>by simp
 |1,_=>by simp
 |2,_=>by simp
 |3,_=>by simp
 |_+4,h=>absurd h (by omega)
def zBL{L:List RB}{i a:Nat}{ch:List (Nat×Nat)}{p:RB}(H:znC L i ch)(hG:Gx p.1 p.2)(h:L[a]? =some p):((vE p).2++pick (i+a) ch)∈pl3/\srt ((vE p).2++pick (i+a) ch)=(List.range p.1.tu.length).filter fun k=>p.1.ce||decide ((i+a,k)∈ch):=by
 have hn:=hG.k.n;have hn4:p.1.tu.length∈[0,1,2,3]:=mem4 hn;have hm:∀k∈pick (i+a) ch,p.1.ce=false/\k<p.1.tu.length:=fun k hk=>by
  obtain⟨q,hq,h1,h2⟩ :=H.m _ _ (ziz.1 hk) (by omega);rw[show i+a - i=a by omega,h]at hq;cases hq;exact⟨h1,h2⟩
 cases hc:p.1.ce with
 |true=>
  have e:pick (i+a) ch=[]:=by
   cases hp:pick (i+a) ch with
   |nil=>rfl
   |cons k l=>have:=(hm k (by rw[hp];simp)).1;rw[hc]at this;cases this
  have e2:(vE p).2=List.range p.1.tu.length:=by unfold vE;rw[Z51 hc];rfl
  rw[e,e2,Z22];have h1:=zIw _ hn4;refine⟨h1,?_⟩;rw[zCn _ h1 _ hn4 fun x hx=>Z174.1 hx];refine List.filter_congr fun k hk=> ?_
  simp[Z174.1 hk]
 |false=>
  have e2:(vE p).2=[]:=by unfold vE;rw[Z49 (by rw[hc];simp)]
  rw[e2,Z28];have h1:pick (i+a) ch∈pl3:=zLe (zp6 H.d) fun x hx=>by have:=(hm x hx).2;omega
  refine⟨h1,?_⟩;rw[zCn _ h1 _ hn4 fun x hx=>(hm x hx).2];refine List.filter_congr fun k _=> ?_
  simp[ziz]
def zIy{L:List RB}{i a b:Nat}{ch:List (Nat×Nat)}{p:RB}(H:znC L i (ch++[(i+a,b)]))(h:L[a]? =some p):p.1.ce=false/\((vE p).2++pick (i+a) ch).length<p.1.tu.length:=by
 have hm:∀k∈pick (i+a) (ch++[(i+a,b)]),p.1.ce=false/\k<p.1.tu.length:=fun k hk=>by
  obtain⟨q,hq,h1,h2⟩ :=H.m _ _ (ziz.1 hk) (by omega);rw[show i+a - i=a by omega,h]at hq;cases hq;exact⟨h1,h2⟩
 have hb:b∈pick (i+a) (ch++[(i+a,b)]):=ziz.2 (by simp);have hc:=(hm b hb).1;have e2:(vE p).2=[]:=by unfold vE;rw[Z49 (by rw[hc];simp)]
 refine⟨hc,?_⟩;have hl:=zlW _ _ (zp6 (i:=i+a) H.d) fun x hx=>(hm x hx).2
 rw[zkV,Z16,show pick (i+a) [(i+a,b)]=[b] by simp[pick]]at hl;rw[e2,Z28];simp at hl;omega
def zL9{V:List (Nat×List Nat)}:vS V V.length=V.map fun v=>(v.1,srt v.2):=by simp[vS]
theorem zwH{ch:List (Nat×Nat)}:∀{L:List RB} {i:Nat},znC L i ch->(∀p∈L,Gx p.1 p.2)->(vC ch i L).map (fun v=>(v.1,srt v.2))=zhO ch i L
 |[],_,_,_=>rfl
 |p::L,i,H,hG=>by
  rw[vC,zhO,Z10];have h0:=(zBL (a:=0) H (hG p (by simp)) (by simp)).2;simp only[Z111]at h0;rw[h0]
  congr 1
  refine zwH ⟨H.d,fun a b hm hi=> ?_⟩ fun q hq=>hG q (by simp[hq])
  obtain⟨q,hq,h2⟩ :=H.m a b hm (by omega);refine⟨q,?_,h2⟩;rw[show a - i=a - (i+1)+1 by omega]at hq;simpa using hq
def zHW{L:List RB}(hL:LOk L)(w:List Int):znC L 0 (chs (rfL L) w):=by
 have hs:=zwm (rfL L) w;refine⟨hs.nodup (zr1 hL.g),fun a b hm _=> ?_⟩;exact (zq9 hL.g (hs.subset hm)).2
def zDd{L:List RB}{i:Nat}{a b:List (Nat×Nat)}(H:znC L i (a++b)):znC L i a:=
 ⟨(Z90.1 H.d).1,fun x y hm hi=>H.m x y (Z102 _ hm) hi⟩
def fn44:pr.fn 44=some g44:=by kernel_rfl
def fn16:pr.fn 16=some g16:=by kernel_rfl
def ans44{L:List RB}(hL:LOk L):Ans pr 44 [.ag (pgF L)] (.i .i64 0):=by
 refine zb6 fn44 ?_;have hn8:=hL.n;have h8:¬(8:Int)< (L.length:Nat):=by omega
 have q1:=fun k=>zaj (k:=k) (zEz hL)
 have q2:=fun k=>zaj (k:=k) (ans70 hL)
 simp only[g44,rU];simp[rW,st0,zax,pgF,zgj,zgV,zdv,h8,q1,q2,zfD,zew,ziF,zGW];refine round ?_;simp[rW];refine round ?_;simp[rW];refine round ?_;simp[rW];refine zoe rfl rfl (zE4 hL) ?_;rintro d h' c' lw mx ⟨rfl,W,HS⟩ hc;have e0:=HS.f 0 (by simp only[rG];omega);simp[rW]at e0;simp[rW,e0];refine round ?_;simp[rW]
structure MI(L:List RB)(M c0:Nat)(V:List (Nat×List Nat))(h:T Ob)(c:Nat)(W:List (D×Nat×List Nat)):Prop where
 m:h.get M=some (.arr 10 0 [[.f (rbF L),.f .nils,.f .nils,.f .nils,.f (spF (spL L)),.f (rfF (rfL L)),.ptr (c0+1) 2 0 0,.f .nils,.f .nils,.f .nils]])
 p:PS h (c0+2) c c0 W
 s:h.get (c0+1)=some (.arr 2 0 [[.f (rbF L),.sl c0 0 L.length 1 L.length true]])
 v:W.map (·.2)=V
 l:M<c0
 c:c0+2<=c
def eff16{L:List RB}(hL:LOk L){h:T Ob}{c:Nat}:Eff pr 16 [.ag [.f (rbF L),.f .nils,.f .nils,.f .nils]] h c fun d h' c'=>∃M c0 W,d= .tu [.ptr M 10 0 0,.f (.i .i64 0)]/\c<=M/\MI L M c0 (L.map vF) h' c' W/\∀id,id<c->h'.get id=h.get id:=by
 refine zjT zfE fn16 ?_;have a1:=ans44 hL;have a2:=zEz hL;simp only[pgF]at a1;have q1:=fun k=>zaj (k:=k) a1
 have q2:=fun k=>zaj (k:=k) a2
 simp only[g16,rU];have rf_ce:(D.f (rfF (rfL L))).cells=some [.f (rfF (rfL L))]:=zcc _ _;have n1:¬c=c+1:=by omega
 have n2:¬c+1=c:=by omega
 simp[rW,st0,zax,zgj,zgV,q1,q2,zfD,zew,ziF,rf_ce,n1,n2];refine zoe rfl rfl (zE4 hL) ?_;rintro d h' c' lw mx ⟨rfl,W,HS⟩ hc;simp only[zbf,zbX,zbO,za8,zbS,zbD,zbd,zbW,zbU,zbh,zbY,zbB,za1,za9,za4,zca,zcb,zb8]at HS;have hcc:=HS.c;have e0:=HS.f c (by omega);have e1:=HS.f (c+1) (by omega);simp[TG]at e0 e1;have k1:c+1<c':=by omega
 simp[rW,e0,e1,k1,n1,n2];refine round ?_;simp[rW,e0,e1,n1,n2];refine round ?_;simp[rW,e0,e1,n1,n2,zo5];refine⟨⟨c+2,W,⟨?_,HS.p.up ?_ (fun id h1 _=> ?_) (Z2 _),?_,HS.v,by omega,by omega⟩⟩,fun id hid=> ?_⟩
 .simp[TG]
 .have i0:¬c+1+1=c+1:=by omega
  simp[TG]
 .have i0:¬id=c+1:=by omega
  simp[TG,i0]
 .have:=HS.s;rw[TG,Z49 (by omega)];exact this
 .have i0:¬id=c+1:=by omega
  have i1:¬id=c:=by omega
  have:=HS.f id (by omega);rw[Z49 i0,this];simp[TG,i0,i1]
def fn18:pr.fn 18=some g18:=by kernel_rfl
def MI.up{L:List RB}{M c0:Nat}{V:List (Nat×List Nat)}{h h':T Ob}{c c':Nat}{W:List (D×Nat×List Nat)}(H:MI L M c0 V h c W)(hf:∀id,id<c->h'.get id=h.get id)(hc:c<=c'):MI L M c0 V h' c' W:=by
 have h1:=H.l;have h2:=H.c;exact⟨by rw[hf _ (by omega)];exact H.m,H.p.up (hf _ (by omega)) (fun id _ h=>hf id h) hc,by rw[hf _ (by omega)];exact H.s,H.v,h1,by omega⟩
theorem MI.upd{L:List RB}{M c0:Nat}{V:List (Nat×List Nat)}{h h':T Ob}{c c' n n':Nat}{W:List (D×Nat×List Nat)}{d d':D}{v:Nat×List Nat}{els':List Nat}(H:MI L M c0 V h c W)(hi:W[n]? =some (d,v))(hg:GG h' (c0+2) c' n' d' els')
  (hr:h'.get c0=some (.arr 1 0 ((W.set n (d',n',els')).map fun p=>[p.1])))(hf:∀id,id<c->id≠c0->d.oid≠some id->h'.get id=h.get id)(hN:∀x,d'.oid=some x->c<=x\/d.oid=some x)(hc:c<=c'):MI L M c0 (V.set n (n',els')) h' c' (W.set n (d',n',els')):=by
 have h1:=H.l;have h2:=H.c;have hb:∀x,d.oid=some x->c0+2<=x/\x<c:=fun x hx=>(H.p.g _ (Z39 hi)).oid hx
 have ne:∀x,x<c0+2->d.oid≠some x:=fun x hx e=>by have:=hb x e;omega
 exact⟨by rw[hf _ (by omega) (by omega) (ne _ (by omega))];exact H.m,H.p.upd hi hg hr (fun id a b e=>hf id b (by omega) e) hN hc,by rw[hf _ (by omega) (by omega) (ne _ (by omega))];exact H.s,by rw[Z116,H.v],h1,by omega⟩
def MI.len{L:List RB}{M c0:Nat}{V:List (Nat×List Nat)}{h:T Ob}{c:Nat}{W:List (D×Nat×List Nat)}(H:MI L M c0 V h c W):W.length=V.length:=by
 have:=congrArg List.length H.v;simpa using this
def zL6(L:List RB)(n:Nat):(vB L n).length=L.length:=by simp[vB];omega
theorem zvz:∀(ch:List (Nat×Nat)) (i:Nat) (L:List RB),(vC ch i L).length=L.length
 |_,_,[]=>rfl
 |ch,i,p::L=>by rw[vC,Z23,zvz ch (i+1) L,Z23]
theorem zrv:∀(R:List (List (Nat×Nat))) (w:List Int) (k:Nat),chs R w=chs (R.take k) (w.take k)++chs (R.drop k) (w.drop k)
 |R,w,0=>by simp[chs]
 |[],w,k+1=>by simp[chs]
 |r::R,[],k+1=>by simp[chs]
 |r::R,v::w,k+1=>by
  simp only[Z180,List.drop_succ_cons,chs,Z32];rw[<-zrv R w k]
def zJA:∀els∈pl3,(srt els).length=els.length:=by decide
def Jst(eW:Bool)(L:List RB)(w:List Int)(M c0:Nat)(h:T Ob)(n:Nat)(s:St):Prop:=∃W,(s.tm.get 0=some (.ptr M 10 0 0)/\s.tm.get 1=some (.f (wG eW w))/\s.tm.get 15=some (.f (rbF L))/\s.tm.get 16=some (.f (.i .i64 L.length))/\s.tm.get 17=some (.f (.i .i64 n)))/\MI L M c0 (vB L n) s.h s.c W/\(∀id,id<M->s.h.get id=h.get id)/\(0<n->s.lw<=c0)
def Kst(eW:Bool)(L:List RB)(w:List Int)(M c0:Nat)(h:T Ob)(n:Nat)(s:St):Prop:=∃W,(s.tm.get 0=some (.ptr M 10 0 0)/\s.tm.get 47=some (.f (wG eW w))/\s.tm.get 48=some (.f (.i .i64 w.length))/\s.tm.get 49=some (.f (.i .i64 n)))/\MI L M c0 (vC (chs ((rfL L).take n) (w.take n)) 0 L) s.h s.c W/\(∀id,id<M->s.h.get id=h.get id)/\s.lw<=c0
def Lst(L:List RB)(V:List (Nat×List Nat))(M c0:Nat)(h:T Ob)(n:Nat)(s:St):Prop:=∃W,(s.tm.get 98=some (.sl c0 0 L.length 1 L.length true)/\s.tm.get 99=some (.f (.i .i64 L.length))/\s.tm.get 100=some (.f (.i .i64 n)))/\MI L M c0 (vS V n) s.h s.c W/\(∀id,id<M->s.h.get id=h.get id)/\s.lw<=c0
theorem eff18{L:List RB}(hL:LOk L)(hU:∃q,L[0]? =some q/\q.1.ce=false){eW:Bool}{w:List Int}(hW:WO (rfL L) w){M c0:Nat}{h:T Ob}{c:Nat}{W0:List (D×Nat×List Nat)}(H:MI L M c0 (L.map vF) h c W0):
  Eff pr 18 [.ptr M 10 0 0,.f (wG eW w)] h c fun _ h' c'=>∃W,MI L M c0 (zhO (chs (rfL L) w) 0 L) h' c' W/\∀id,id<M->h'.get id=h.get id:=by
 refine zjT zfE fn18 ?_;have hn8:=hL.n;have gM:=H.m;have hMl:=H.l;have hcl:=H.c;simp only[g18,rU];simp[rW,st0,zax,gM,zdv];refine zcz L.length (Jst eW L w M c0 h) (fun e s=>e= .exit 0/\Jst eW L w M c0 h L.length s) ?_ ?_ _ ⟨W0,⟨?_,?_,?_,?_,?_⟩,?_,?_,fun h=>absurd h (by omega)⟩ ?_
 .clear H gM hcl W0 c;rintro n s hlt ⟨W,⟨h0,h1,h15,h16,h17⟩,H,hfr,hlw⟩;have hw:=zaK n (by omega);have hx:L[n]? =some L[n]:=Z0 hlt;have hG:=hL.g _ (Z1 hlt);generalize hA:L[n]=q at hx hG;obtain⟨r,B⟩ :=q;simp only at hG;have hcc:=hG.k.cc;have hd:(zaW r.tu).d= .f (zaW r.tu):=zd5 _;have hc2:(D.f (zaW r.tu)).cells=some [.f (zaW r.tu)]:=zcc _ _;obtain⟨d,hWn⟩ :=zj6 H.v (zCw hx hlt);have hrow:=zka hWn;have hWd:∀h:n<W.length,W[n]=(d,vF (r,B)):=fun h=>(Z8.1 hWn).2
  have hWl:W.length=L.length:=by rw[H.len,zL6]
  have gR:=H.p.r;have gS:=H.s;have gM:=H.m;have hc:=H.c;have hl:=H.l;have n1:¬M=s.c:=by omega
  have n2:¬c0=s.c:=by omega
  have n3:¬c0+1=s.c:=by omega
  by_cases hce:r.ce=true
  .have hv:=zJD hx hlt hce;simp[rW,h0,h1,h15,h16,h17,hlt,zet,hx,hA,rlE,hcc,hc2,hce,hw];refine⟨W,⟨by simp[rW,h0],by simp[rW,h1],by simp[rW,h15],by simp[rW,h16],by simp[rW]⟩,?_,?_,?_⟩
   .rw[hv];refine H.up (fun id hid=> ?_) (by simp[rW]<;>omega);have i0:¬id=s.c:=by omega
    simp[rW,i0]
   .intro id hid;have i0:¬id=s.c:=by omega
    simp[rW,i0];exact hfr id hid
   .intro _;have hn0:0<n:=by
     rcases Nat.eq_zero_or_pos n with rfl|h1
     .obtain⟨q,hq,hq2⟩ :=hU;rw[hx]at hq;cases hq;rw[hce]at hq2;cases hq2
     .exact h1
    simp only[rG]
    repeat (refine Z3 (zHo _ _) ?_)
    exact hlw hn0
  .have hcf:r.ce=false:=by simpa using hce
   have hv:=zCx hx hlt;simp[rW,h0,h1,h15,h16,h17,hlt,zet,hx,hA,rlE,hcc,hc2,hcf,hw];refine zaM ?_;simp[rW,h0,h1,h15,h16,h17,gM,gS,gR,n1,n2,n3,hlt,hWl,hrow,zhh,hWd];obtain⟨h2,hh2⟩ :∃h2,h2=(s.h.set s.c (.arr 4 0 [[D.f (F.s []),D.f (F.b false),D.f F.nils,D.f F.nils]])).set s.c (.arr 4 0 [[D.f (F.s r.nm),D.f (F.b false),D.f r.co,D.f (zaW r.tu)]]):=⟨_,rfl⟩
   rw[<-hh2];have hf2:∀id,id<s.c->h2.get id=s.h.get id:=fun id hid=>by
    have i0:¬id=s.c:=by omega
    rw[hh2];simp[TG,i0]
   have hg:=(H.p.g _ (Z39 hWn))
   have hb:∀x,d.oid=some x->c0+2<=x/\x<s.c:=fun x hx=>hg.oid hx
   have hg1:GG h2 (c0+2) (s.c+1) r.tu.length d (List.range r.tu.length):=hg.up (fun x hx=>hf2 x (hb x hx).2) (by omega);obtain⟨d',rd,hs,hg2,ho,hrd⟩ :=zDr hg1;have h8:=H.p.h8;have hce2:=hg2.cells;have gR2:=(hf2 c0 (by omega)).trans gR;have hc9:c0<s.c+1+1+1+1+1+1+1+1+1+1+1+1+1+1+1+1+1+1+1+1+1:=by omega
   simp[rW,hs,gR2,hWn,hce2,h8];refine⟨hc9,W.set n (d',r.tu.length,[]),⟨by simp[rW,h0],by simp[rW,h1],by simp[rW,h15],by simp[rW,h16],by simp[rW,hw]⟩,?_,?_,?_⟩
   .have e:vE (r,B)=(r.tu.length,[]):=by unfold vE;rw[Z49 (by rw[hcf];simp)]
    rw[hv,e];simp[rW];rw[<-hh2];refine H.upd hWn (hg2.up (fun x hx=> ?_) (by omega)) ?_ (fun id h1 h2 _=> ?_) (fun x hx=> .inr (by rw[<-ho];exact hx)) (by omega)
    .have i0:¬x=c0:=by have:=hg2.oid hx;omega
     simp[TG,i0]
    .rw[<-zm5];simp[TG]
    .rw[TG,Z49 h2];exact hf2 id h1
   .intro id hid;have i0:¬id=c0:=by omega
    have i1:¬id=s.c:=by omega
    simp[rW,i0,i1];exact hfr id hid
   .intro _;simp only[rG];exact zzZ _ _ _ _
 .rintro s ⟨W,⟨h0,h1,h15,h16,h17⟩,H,hfr,hlw⟩;simp[rW,h16,h17];exact⟨W,⟨by simp[rW,h0],by simp[rW,h1],by simp[rW,h15],by simp[rW,h16],by simp[rW,h17]⟩,H.up (fun _ _=>rfl) (Z2 _),hfr,hlw⟩
 .simp[rW]
 .simp[rW]
 .simp[rW]
 .simp[rW]
 .simp[rW]
 .have e:vB L 0=L.map vF:=by simp[vB]
  rw[e];exact H.up (fun _ _=>rfl) (Z2 _)
 .exact fun _ _=>rfl
 .clear H gM W0;rintro x s ⟨rfl,W,⟨h0,h1,h15,h16,h17⟩,H,hfr,hlw⟩;have e:vB L L.length=L.map vE:=by simp[vB]
  rw[e]at H;have hL0:0<L.length:=by
   obtain⟨q,hq,-⟩ :=hU;rcases Nat.eq_zero_or_pos L.length with h1|h1
   .rw[Z97 (by omega)]at hq;cases hq
   .exact h1
  replace hlw:=hlw hL0
  have hwl:=hW.n;have hRl:=hW.l;have hch:=zHW hL w;simp[rW,h0,h1,zeU];refine zcz w.length (Kst eW L w M c0 h) (fun e s=>e= .exit 2/\Kst eW L w M c0 h w.length s) ?_ ?_ _ ⟨W,⟨?_,?_,?_,?_⟩,?_,?_,?_⟩ ?_
  .clear h0 h1 h15 h16 h17 H hfr hlw e W s;rintro n s hlt ⟨W,⟨h0,h47,h48,h49⟩,H,hfr,hlw⟩;have hw:=zaK n (by omega);have hnR:n< (rfL L).length:=by omega
   have hx:w[n]? =some w[n]:=Z0 hlt;have hxr:(rfL L)[n]? =some (rfL L)[n]:=Z0 hnR;have hb:=hW.b n hlt hnR;have es:=zwo hxr hx;generalize hR:(rfL L)[n]=r at hxr hb es;generalize hv:w[n]=v at hx hb es;have gM:=H.m;have gR:=H.p.r;have gS:=H.s;have hc:=H.c;have hl:=H.l
   by_cases hv0:0<=v
   .obtain⟨j,rfl⟩ :∃j:Nat,v=j:=⟨v.toNat,by omega⟩
    have hj:j<r.length:=by omega
    have hxj:r[j]? =some r[j]:=Z0 hj;generalize hp:r[j]=p at hxj;obtain⟨a,b⟩ :=p;have hc1:ch1 r (j:Nat)=[(a,b)]:=by simp[ch1,hxj]
    rw[hc1]at es;have hrest:=zrv (rfL L) w (n+1);have hok:znC L 0 (chs ((rfL L).take n) (w.take n)++[(0+a,b)]):=by
     rw[Z25,<-es];exact zDd (hrest▸hch)
    obtain⟨q,hq,-⟩ :=hok.m (0+a) b (by simp) (Z61 _);simp only[Z25,Nat.sub_zero]at hq;have haL:a<L.length:=by
     rcases Z145 a L.length with h1|h1
     .exact h1
     .rw[Z97 h1]at hq;cases hq
    obtain⟨hcq,hroom⟩ :=zIy (i:=0) hok hq;simp only[Z25]at hroom;have hput:=zCC (i:=0) (ch:=chs ((rfL L).take n) (w.take n)) (b:=b) hq;rw[Z25,<-es]at hput;obtain⟨d,hWn⟩ :=zj6 H.v (zvx (i:=0) hq);simp only[Z25]at hWn;have hrow:=zka hWn;have hWl:W.length=L.length:=by rw[H.len,zvz]
    have hg:=H.p.g _ (Z39 hWn);simp only at hg;have hWd:∀h:a<W.length,W[a]=(d,q.1.tu.length,(vE q).2++pick a (chs ((rfL L).take n) (w.take n))):=fun h=>(Z8.1 hWn).2
    generalize (vE q).2++pick a (chs ((rfL L).take n) (w.take n))=els at hg hroom hput hWn hWd;have n1:¬M=s.c:=by omega
    have n2:¬c0=s.c:=by omega
    have n3:¬c0+1=s.c:=by omega
    simp[rW,h0,h47,h48,h49,hlt,zgn,hx,hv,hv0,gM,zzN,hxr,hR,hnR,zzI,hxj,hj,hp,hw,n1,n2,n3];refine zaM ?_;simp[rW,h0,h47,h48,h49,gM,gS,gR,n1,n2,n3,haL,hWl,hrow,zhh,hWd];obtain⟨h2,hh2⟩ :∃h2,h2=(s.h.set s.c (.arr 2 0 [[D.f (.i .i64 0),D.f (.i .i64 0)]])).set s.c (.arr 2 0 [[D.f (.i .i64 (a:Nat)),D.f (.i .i64 (b:Nat))]]):=⟨_,rfl⟩
    rw[<-hh2];have hf2:∀id,id<s.c->h2.get id=s.h.get id:=fun id hid=>by
     have i0:¬id=s.c:=by omega
     rw[hh2];simp[TG,i0]
    have hb:∀x,d.oid=some x->c0+2<=x/\x<s.c:=fun x hx=>hg.oid hx
    have hg1:GG h2 (c0+2) (s.c+1+1+1+1+1+1+1+1+1+1+1+1+1+1+1+1+1+1+1+1+1+1+1+1) q.1.tu.length d els:=hg.up (fun x hx=>hf2 x (hb x hx).2) (by omega);refine zKR hg1 hroom ?_;intro r1 hr1 hr2 hr3 hr4 hr5 hr6 hr7;have nw:∀y,(y=M\/y=c0+1\/y=s.c)->zcG (r1.wr.map (·.1)) [y]:=fun y hy x hx hm=>by
     rw[Z31.1 hm]at hx;have:=hb _ (hr5 _ hx);omega
    refine⟨hr1,⟨nw _ (.inl rfl),nw _ (.inr (.inl rfl)),nw _ (.inr (.inr rfl))⟩,?_⟩;have e0:=hr4 c0 (fun e=>by have:=hb _ e;omega);have h8:=H.p.h8;have hce2:=hr2.cells;have gR2:=(hf2 c0 (by omega)).trans gR;have hc9:c0<r1.c+1+1:=by omega
    simp[rW,e0,gR2,hWn,hce2,h8,hc9];refine⟨W.set a (r1.d,q.1.tu.length,els++[b]),⟨by simp[rW,h0],by simp[rW,h47],by simp[rW,h48],by simp[rW,hw]⟩,?_,?_,?_⟩
    .rw[hput];simp[rW];rw[<-hh2];refine H.upd hWn (hr2.up (fun x hx=> ?_) (by omega)) ?_ (fun id h1 h2 h3=> ?_) (fun x hx=> .inr (by rw[<-hr7];exact hx)) (by omega)
     .have i0:¬x=c0:=by have:=hr2.oid hx;omega
      simp[TG,i0]
     .rw[<-zm5];simp[TG]
     .rw[TG,Z49 h2,hr4 id h3];exact hf2 id h1
    .intro id hid;have i0:¬id=c0:=by omega
     have e2:=hr4 id (fun e=>by have:=hb _ e;omega);have e3:=hf2 id (by omega);have i1:¬id=s.c:=by omega
     rw[hh2]at e2;simp[rW,i0,e2,i1];exact hfr id hid
    .simp only[rG];exact zzZ _ _ _ _
   .have hc1:ch1 r v=[]:=by simp[ch1,hv0]
    rw[hc1,Z22]at es;simp[rW,h0,h47,h48,h49,hlt,zgn,hx,hv,hv0,hw];exact⟨W,⟨by simp[rW,h0],by simp[rW,h47],by simp[rW,h48],by simp[rW]⟩,by rw[es];exact H.up (fun _ _=>rfl) (Z2 _),hfr,hlw⟩
  .rintro s ⟨W,⟨h0,h47,h48,h49⟩,H,hfr,hlw⟩;simp[rW,h48,h49];exact⟨W,⟨by simp[rW,h0],by simp[rW,h47],by simp[rW,h48],by simp[rW,h49]⟩,H.up (fun _ _=>rfl) (Z2 _),hfr,hlw⟩
  .simp[rW,h0]
  .simp[rW]
  .simp[rW]
  .simp[rW]
  .have e:vC (chs ((rfL L).take 0) (w.take 0)) 0 L=L.map vE:=by simp[chs,zCB]
   rw[e];exact H.up (fun _ _=>rfl) (Z2 _)
  .exact hfr
  .exact hlw
  .clear h0 h1 h15 h16 h17 H hfr hlw e W s;rintro x s ⟨rfl,W,⟨h0,h47,h48,h49⟩,H,hfr,hlw⟩;rw[Z7,hwl,Z7]at H;have hVl:=zvz (chs (rfL L) w) 0 L;have hkeep:=zwH hch hL.g;have hrow:∀(n:Nat) (p:RB),L[n]? =some p->∃els,(vC (chs (rfL L) w) 0 L)[n]? =some (p.1.tu.length,els)/\els∈pl3:=fun n p hp=>⟨_,zvx (i:=0) hp,(zBL (i:=0) hch (hL.g p (Z39 hp)) hp).1⟩
   generalize vC (chs (rfL L) w) 0 L=V at H hVl hkeep hrow;have gM:=H.m;have gS:=H.s;have gR:=H.p.r;simp[rW,h0,gM,gS];refine zcz L.length (Lst L V M c0 h) (fun e s=>e= .exit 4/\Lst L V M c0 h L.length s) ?_ ?_ _ ⟨W,⟨?_,?_,?_⟩,?_,?_,?_⟩ ?_
   .clear gM gS gR h0 h47 h48 h49 H hfr hlw W s;rintro n s hlt ⟨W,⟨h98,h99,h100⟩,H,hfr,hlw⟩;have hw:=zaK n (by omega);have hx:L[n]? =some L[n]:=Z0 hlt;obtain⟨els,hVn,hpl⟩ :=hrow n _ hx;have hVS:=zMa hVn (by omega);have hsuc:=zMb hVn (by omega);obtain⟨d,hWn⟩ :=zj6 H.v hVS;have hrw:=zka hWn;have hWl:W.length=L.length:=by rw[H.len,zCG,hVl]
    have hWd:∀h:n<W.length,W[n]=(d,L[n].1.tu.length,els):=fun h=>(Z8.1 hWn).2
    have hg:=H.p.g _ (Z39 hWn);simp only at hg hsuc;have gR:=H.p.r;have hc:=H.c;have hl:=H.l;rcases hg with⟨hz,rfl,rfl⟩ |⟨id,jk,rfl,g1,g2,g3,g4,g5⟩
    .simp[rW,h98,h99,h100,hlt,gR,hWl,hrw,zhh,hWd];refine zoe (h:=s.h) (c:=s.c) (by simp only[rG]) (by simp only[rG]) effSn ?_;rintro d' h' c' lw mx rfl hcc;simp[rW,h100,hw];refine⟨W,⟨by simp[rW,h98],by simp[rW,h99],by simp[rW]⟩,?_,?_,?_⟩
     .rw[hsuc];have e:(vS V n).set n (L[n].1.tu.length,srt [])=vS V n:=by
       have hl2:n< (vS V n).length:=by rw[zCG];omega
       rw[Z0 hl2]at hVS;rw[show srt []=[]from rfl,<-Z53 hVS,Z95]
      rw[e];exact H.up (fun _ _=>by simp[rW]) (by simp[rW]<;>omega)
     .simp[rW];exact hfr
     .simp only[rG];exact Z3 (Z64 _ _) hlw
    .simp[rW,h98,h99,h100,hlt,gR,hWl,hrw,zhh,hWd];refine zoe (h:=s.h) (c:=s.c) (by simp only[rG]) (by simp only[rG]) (effS els hpl (n:=L[n].1.tu.length) (jk:=jk) g5 g1) ?_;rintro d' h' c' lw mx ⟨k1,k2⟩ hcc;simp[rW,h100,hw];refine⟨W.set n (.sl id 0 els.length 1 L[n].1.tu.length false,L[n].1.tu.length,srt els),⟨by simp[rW,h98],by simp[rW,h99],by simp[rW]⟩,?_,?_,?_⟩
     .rw[hsuc];simp[rW];have hsl:(srt els).length=els.length:=zJA els hpl;refine H.upd hWn (.inr ⟨id,jk,by rw[hsl],k1,by rw[hsl];exact g2,g3,g4,by omega⟩) ?_ (fun x h1 h2 h3=>k2 x h1 fun e=>h3 (by rw[e];rfl)) (fun x hx=> .inr hx) hcc;rw[k2 c0 (by omega) (by omega),gR,<-zm5]
      congr 2
      refine (Z107 fun m=> ?_);rw[Z87];split
      .rename_i hm;subst hm;rw[zhh,Z51 (by omega)];exact hrw
      .rfl
     .simp[rW];intro x hx;rw[k2 x (by omega) (by omega)];exact hfr x hx
     .simp only[rG];exact Z3 (Z64 _ _) hlw
   .rintro s ⟨W,⟨h98,h99,h100⟩,H,hfr,hlw⟩;simp[rW,h99,h100];exact⟨W,⟨by simp[rW,h98],by simp[rW,h99],by simp[rW,h100]⟩,H.up (fun _ _=>rfl) (Z2 _),hfr,hlw⟩
   .simp[rW]
   .simp[rW]
   .simp[rW]
   .have e:vS V 0=V:=by simp[vS]
    rw[e];exact H.up (fun _ _=>rfl) (Z2 _)
   .exact hfr
   .exact hlw
   .clear gM gS gR h0 h47 h48 h49 H hfr hlw W s;rintro x s ⟨rfl,W,⟨h98,h99,h100⟩,H,hfr,hlw⟩;rw[<-hVl,zL9,hkeep]at H;simp[rW,ztV,ziC];exact⟨⟨⟨W,H⟩,hfr⟩,fun e=>absurd e (by have:=hlw;omega)⟩
end Go.Proofs.YtlinkhjnihjbaaaGreatDoor
end
