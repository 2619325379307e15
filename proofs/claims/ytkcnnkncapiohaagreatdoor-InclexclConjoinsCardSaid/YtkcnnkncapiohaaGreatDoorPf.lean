/- The closure of apart: a term's variable gets its new name. -/
import Derived.Test.YtkcnnkncapiohaaGreatDoorPe
import Derived.KernelRfl
import Derived.IntWalk
set_option linter.all false
set_option maxRecDepth 100000
set_option maxHeartbeats 4000000
noncomputable section
section
namespace Go.Proofs.YtkcnnkncapiohaaGreatDoor
open Go Go.Vse Go.Vse.Sm
def zHo:pr.fn 34=some g34:=by kernel_rfl
def rnV(N:Nms)(v:Str):Str:=if v=[]then v else(lkS v N).getD v
def rnT(N:Nms):Trm->Trm
 | .var s=> .var (rnV N s)
 | .cst n=> .cst n
def zvJ(N:Nms)(t:Trm):tv (rnT N t)=rnV N (tv t):=by
 cases t with
 |var s=>rfl
 |cst n=>simp[rnT,tv_c,rnV]
def zDh(N:Nms)(t:Trm):tk (rnT N t)=tk t:=by cases t<;>rfl
def zDi(N:Nms)(t:Trm):tn (rnT N t)=tn t:=by cases t<;>rfl
def zjL{N:Nms}{v:Str}(h:lkS v N=none):rnV N v=v:=by unfold rnV;rw[h];simp
def zjN{N:Nms}{v y:Str}(hv:v≠[])(h:lkS v N=some y):rnV N v=y:=by unfold rnV;rw[h,Z49 hv];rfl
def zOi{l:List (List D)}(h:∀r∈l,r.length≠1):hd8 l=false:=by
 unfold hd8;split
 .exact absurd rfl (h _ (Z154))
 .rfl
def zzi(l:List Cm):hd8 (l.map cmD)=false:=zOi fun r hr=>by
 obtain⟨k,_,rfl⟩ :=Z12.1 hr;simp[cmD,tmD]
def zlI(s:St):resD s []=some (.tu []):=rfl
theorem zR5(N:Nms)(ts:List Trm)(n:Nat)(hn:n<ts.length){h:T Ob}{c X C M:Nat}(gX:h.get X=some (.arr 4 0 (zc0 ts)))(gC:h.get C=some (.arr 1 0 [[.mp M]]))(gM:h.get M=some (.map (mpS N)))(hX:X<c)(hC:C<c)(hM:M<c):
  Eff pr 34 [.ptr X 4 n 0,.ptr C 1 0 0] h c fun d h' c'=>h'.get X=some (.arr 4 0 (zc0 (ts.set n (rnT N ts[n]))))/\∀x,x<c->x≠X->h'.get x=h.get x:=by
 refine zfZ zfM zHo ?_;simp only[g34,rU];have ht:=zMl ts n hn;have hl:n< (zc0 ts).length:=by rw[zgn];exact hn
 have ht2:∀h:n< (zc0 ts).length,(zc0 ts)[n]=tmD ts[n]:=fun h=>by
  rw[Z0 h]at ht;exact Z53 ht
 have hst:(zc0 ts).set n (tmD (rnT N ts[n]))=zc0 (ts.set n (rnT N ts[n])):=zPt ..;have h81:=zIw ts;have hsame:rnT N ts[n]=ts[n]->ts.set n (rnT N ts[n])=ts:=fun e=>by rw[e,Z95]
 have hrv:=zvJ N ts[n];have hrk:=zDh N ts[n];have hrn:=zDi N ts[n];have hvc:rnV N (tv ts[n])=tv ts[n]->rnT N ts[n]=ts[n]:=fun e=>by
  cases hc:ts[n]with
  |var s=>rw[hc]at e;exact congrArg Trm.var e
  |cst k=>rfl
 generalize hR:rnT N ts[n]=R at hst hsame hrv hrk hrn hvc|-;generalize ts[n]=T at ht ht2 hsame hrv hrk hrn hvc;simp only[tmD]at ht ht2 hst;cases hk:lkS (tv T) N with
 |none=>
  have e:=hsame (hvc (zjL hk));simp[rW,st0,zal];refine zaq ?_;simp[rW,gX,gC,gM,ht,ht2,hl,zjw,hk,zlI,zhK];rw[e]
 |some y=>
  by_cases hv:tv T=[]
  .have e:=hsame (hvc (by rw[hv];rfl));have hk2:lkS [] N=some y:=by rw[<-hv];exact hk
   simp[rW,st0,zal];refine zaq ?_;simp[rW,gX,gC,gM,ht,ht2,hl,zjw,hk,hk2,hv,zlI,zhK];rw[e]
  .rw[zjN hv hk]at hrv;rw[hrv,hrk,hrn]at hst;simp[rW,st0,zal];refine zaq ?_;simp[rW,gX,gC,gM,ht,ht2,hl,zjw,hk,hv,hst,h81,hX,zlI,zhK];refine⟨by omega,fun x hx hne=>by simp[TG,hne],fun hlw=> ?_⟩;rw[zIH,Z51 hX,zya]at hlw;omega
theorem zR6(N:Nms)(ks:List Cm)(n:Nat)(hn:n<ks.length){h:T Ob}{c X C M:Nat}(gX:h.get X=some (.arr 9 0 (ks.map cmD)))(gC:h.get C=some (.arr 1 0 [[.mp M]]))(gM:h.get M=some (.map (mpS N)))(hX:X<c)(hC:C<c)(hM:M<c):
  Eff pr 34 [.ptr X 9 n 1,.ptr C 1 0 0] h c fun d h' c'=>h'.get X=some (.arr 9 0 ((ks.set n ⟨ks[n].op,rnT N ks[n].l,ks[n].r⟩).map cmD))/\∀x,x<c->x≠X->h'.get x=h.get x:=by
 refine zfZ zfM zHo ?_;simp only[g34,rU];have hl:n< (ks.map cmD).length:=by simpa using hn
 have ht2:∀h:n< (ks.map cmD).length,(ks.map cmD)[n]=cmD ks[n]:=fun h=>by simp
 have ht:(ks.map cmD)[n]? =some (cmD ks[n]):=by rw[Z0 hl,ht2 hl]
 have hst:∀k,(ks.map cmD).set n (cmD k)=(ks.set n k).map cmD:=fun k=>by rw[Z116]
 have h81:=zzi ks;have hsame:ks.set n ks[n]=ks:=Z95 _;generalize hK:ks[n]=K at ht ht2 hsame|-;obtain⟨op,l,r⟩ :=K;have hrv:=zvJ N l;have hrk:=zDh N l;have hrn:=zDi N l;have hvc:rnV N (tv l)=tv l->rnT N l=l:=fun e=>by
  cases l with
  |var s=>exact congrArg Trm.var e
  |cst k=>rfl
 dsimp only;generalize rnT N l=R at hrv hrk hrn hvc|-;have hstR:=hst ⟨op,R,r⟩;simp only[cmD,tmD,Z29,Z28]at ht ht2 hstR;cases hk:lkS (tv l) N with
 |none=>
  have e:=hvc (zjL hk);subst e;simp[rW,st0,zal];refine zaq ?_;simp[rW,gX,gC,gM,ht,ht2,hl,zjw,hk,zlI,zhK];rw[hst,hsame]
 |some y=>
  by_cases hv:tv l=[]
  .have e:=hvc (by rw[hv];rfl);subst e;have hk2:lkS [] N=some y:=by rw[<-hv];exact hk
   simp[rW,st0,zal];refine zaq ?_;simp[rW,gX,gC,gM,ht,ht2,hl,zjw,hk,hk2,hv,zlI,zhK];rw[hst,hsame]
  .rw[zjN hv hk]at hrv;rw[hrv,hrk,hrn]at hstR;simp[rW,st0,zal];refine zaq ?_;simp[rW,gX,gC,gM,ht,ht2,hl,zjw,hk,hv,hstR,h81,hX,zlI,zhK];refine⟨by omega,fun x hx hne=>by simp[TG,hne],fun hlw=> ?_⟩;rw[zIH,Z51 hX,zya]at hlw;omega
theorem zR7(N:Nms)(ks:List Cm)(n:Nat)(hn:n<ks.length){h:T Ob}{c X C M:Nat}(gX:h.get X=some (.arr 9 0 (ks.map cmD)))(gC:h.get C=some (.arr 1 0 [[.mp M]]))(gM:h.get M=some (.map (mpS N)))(hX:X<c)(hC:C<c)(hM:M<c):
  Eff pr 34 [.ptr X 9 n 5,.ptr C 1 0 0] h c fun d h' c'=>h'.get X=some (.arr 9 0 ((ks.set n ⟨ks[n].op,ks[n].l,rnT N ks[n].r⟩).map cmD))/\∀x,x<c->x≠X->h'.get x=h.get x:=by
 refine zfZ zfM zHo ?_;simp only[g34,rU];have hl:n< (ks.map cmD).length:=by simpa using hn
 have ht2:∀h:n< (ks.map cmD).length,(ks.map cmD)[n]=cmD ks[n]:=fun h=>by simp
 have ht:(ks.map cmD)[n]? =some (cmD ks[n]):=by rw[Z0 hl,ht2 hl]
 have hst:∀k,(ks.map cmD).set n (cmD k)=(ks.set n k).map cmD:=fun k=>by rw[Z116]
 have h81:=zzi ks;have hsame:ks.set n ks[n]=ks:=Z95 _;generalize hK:ks[n]=K at ht ht2 hsame|-;obtain⟨op,l,r⟩ :=K;have hrv:=zvJ N r;have hrk:=zDh N r;have hrn:=zDi N r;have hvc:rnV N (tv r)=tv r->rnT N r=r:=fun e=>by
  cases r with
  |var s=>exact congrArg Trm.var e
  |cst k=>rfl
 dsimp only;generalize rnT N r=R at hrv hrk hrn hvc|-;have hstR:=hst ⟨op,l,R⟩;simp only[cmD,tmD,Z29,Z28]at ht ht2 hstR;cases hk:lkS (tv r) N with
 |none=>
  have e:=hvc (zjL hk);subst e;simp[rW,st0,zal];refine zaq ?_;simp[rW,gX,gC,gM,ht,ht2,hl,zjw,hk,zlI,zhK];rw[hst,hsame]
 |some y=>
  by_cases hv:tv r=[]
  .have e:=hvc (by rw[hv];rfl);subst e;have hk2:lkS [] N=some y:=by rw[<-hv];exact hk
   simp[rW,st0,zal];refine zaq ?_;simp[rW,gX,gC,gM,ht,ht2,hl,zjw,hk,hk2,hv,zlI,zhK];rw[hst,hsame]
  .rw[zjN hv hk]at hrv;rw[hrv,hrk,hrn]at hstR;simp[rW,st0,zal];refine zaq ?_;simp[rW,gX,gC,gM,ht,ht2,hl,zjw,hk,hv,hstR,h81,hX,zlI,zhK];refine⟨by omega,fun x hx hne=>by simp[TG,hne],fun hlw=> ?_⟩;rw[zIH,Z51 hX,zya]at hlw;omega
def zwu{a b:Str}(h:a.length+b.length<=100000):zaN .add (.s a) (.s b)=some (.s (a++b)):=by
 have h2:a.length+b.length<=9223372036854775807:=by omega
 simp[zaN,zAR,h2]
def zNK(n:Nat):(dgt n).length<=2:=by
 unfold dgt;split<;>(rw[Z41];omega)
def zD3{x:Str}(h:x.length<1000):zaN .add (.s x) (.s [95])=some (.s (x++[95])):=zwu (by simp;omega)
def zD5{x:Str}(h:x.length<1000)(n:Nat):zaN .add (.s (x++[95])) (.s (dgt n))=some (.s (nmx x n)):=zwu (by have:=zNK n;simp;omega)
def APS(h0:T Ob)(c0 P R M:Nat)(hd:List Str)(dA dC:D)(U:List Str)(s:St):Prop:=(s.tm.get 2=some (.f (zbh hd))/\s.tm.get 4=some (.ptr P 2 0 0)/\s.tm.get 6=some (.ptr R 2 0 0)/\s.tm.get 7=some (.mp M)/\s.h.get P=some (.arr 2 0 [[dA,dC]])/\s.h.get R=some (.arr 2 0 [[.f .nils,.f .nils]])/\s.h.get M=some (.map (bmE U)))/\Frm h0 s.h c0/\M<s.c
def AQS(M C Q:Nat)(dB:D)(VB:List Str)(N:Nms)(s:St):Prop:=(s.tm.get 11=some (.ptr C 1 0 0)/\s.h.get C=some (.arr 1 0 [[.mp Q]])/\s.h.get Q=some (.map (mpS N)))/\Gro s.h (M+1) Q 1 dB (zaQ VB)/\C<s.c
def zwi:C:=(.seq (oD [oM 92 7,oM 93 19,oR 94 (.bin .add (.t 93) (.k (.s [95]))),oM 95 22,oR 96 (.callp 33 [(.t 95)]),oR 97 (.bin .add (.t 94) (.t 96)),oR 98 (.mlk 1 (.b false) false (.t 92) (.t 97))] 98 .skip (.exit 10))
 (.blk 11 (.reg [oM 99 22,oR 100 (.bin .add (.t 99) (.k (.i .i64 1))),oM 22 100])))
def zvc:C:=(oZ [oR 81 (.bin .lss (.t 80) (.t 79))]
 (.seq (.cond (.t 81) .skip (.exit 8))
 (.seq (.blk 9 (oZ [oI 82 1 78 80,oK 83 1 82,oM 19 83]
 (.seq (oZ [oK 85 1 11,oM 86 19,oR 87 (.mlk 1 (.s []) true (.t 85) (.t 86)),oM 84 87,oR 88 (.ext (.t 84) 0),oR 89 (.ext (.t 84) 1),oM 20 88,oM 21 89]
 (oD [oM 90 21,oR 91 (.un .not (.t 90))] 91 (.exit 9) .skip))
 (oZ [oR 22 (.mv (.k (.i .i64 1)))]
 (.seq (.blk 10 (.loop zwi))
 (.seq (.dreg [(oK 101 1 11,0),(oM 102 19,1),(oM 103 19,3),(oR 104 (.bin .add (.t 103) (.k (.s [95]))),3),(oM 105 22,15),(oR 106 (.callp 33 [(.t 105)]),15),(oR 107 (.bin .add (.t 104) (.t 106)),3),(oN (.mup 1 (.t 101) (.t 102) (.t 107)),0)])
 (.reg [oM 108 7,oK 109 1 11,oM 110 19,oR 111 (.mlk 1 (.s []) false (.t 109) (.t 110)),oN (.mup 1 (.t 108) (.t 111) (.k (.b true)))])))))))
 (.reg [oR 112 (.bin .add (.t 80) (.k (.i .i64 1))),oM 80 112]))))
theorem zPH{h0:T Ob}{c0 P R M C Q:Nat}(o:c0<=P/\P<R/\R<M/\M<Q/\Q<C){hd:List Str}{dA dC dB:D}{U VB:List Str}{N:Nms}{x:Str}{len n0:Nat}(hU:U.length<98)(hxl:x.length<1000){K:Ex->St->Prop}(s:St)
  (h1:APS h0 c0 P R M hd dA dC U s)(h2:AQS M C Q dB VB N s)(h3:s.tm.get 78=some (dB)/\s.tm.get 79=some (.f (.i .i64 len))/\s.tm.get 80=some (.f (.i .i64 n0))/\s.tm.get 19=some (.f (.s x))/\s.tm.get 22=some (.f (.i .i64 1)))
  (hK:∀s,APS h0 c0 P R M hd dA dC U s->AQS M C Q dB VB N s->(s.tm.get 78=some (dB)/\s.tm.get 79=some (.f (.i .i64 len))/\s.tm.get 80=some (.f (.i .i64 n0))/\s.tm.get 19=some (.f (.s x))/\s.tm.get 22=some (.f (.i .i64 (frs U x:Nat))))->1<=frs U x->frs U x<100->K (.exit 10) s):WL pr zwi s K:=by
 refine zbS (fun k s=>∃n:Nat,(k=100 - n/\1<=n/\n<100/\∀m,1<=m->m<n->nmx x m∈U)/\APS h0 c0 P R M hd dA dC U s/\AQS M C Q dB VB N s/\(s.tm.get 78=some (dB)/\s.tm.get 79=some (.f (.i .i64 len))/\s.tm.get 80=some (.f (.i .i64 n0))/\s.tm.get 19=some (.f (.s x))/\s.tm.get 22=some (.f (.i .i64 n))))
  (fun e s=>e= .exit 10/\APS h0 c0 P R M hd dA dC U s/\AQS M C Q dB VB N s/\(s.tm.get 78=some (dB)/\s.tm.get 79=some (.f (.i .i64 len))/\s.tm.get 80=some (.f (.i .i64 n0))/\s.tm.get 19=some (.f (.s x))/\s.tm.get 22=some (.f (.i .i64 (frs U x:Nat))))/\1<=frs U x/\frs U x<100) ?_ 99 s ⟨1,⟨rfl,Z2 _,by omega,fun m h1 h2=>by omega⟩,h1,h2,h3⟩ (by rintro e s ⟨rfl,a,b,c,d,e⟩;exact hK s a b c d e)
 clear hK h1 h2 h3 s;rintro k s ⟨n,⟨rfl,hn1,hn2,hall⟩,⟨⟨h2,h4,h6,h7,gP,gR,gM⟩,hf,hMc⟩,⟨⟨h11,gC,gQ⟩,hg,hCc⟩,⟨h78,h79,h80,h19,h22⟩⟩;unfold zwi;simp only[rU];have q45:=fun k=>zad (k:=k) (zJr n hn2)
 have hw:=zaB n (by omega);have b1:=zD3 hxl;have b2:=zD5 hxl n
 by_cases hx:nmx x n∈U
 .have hall2:∀m,1<=m->m<n+1->nmx x m∈U:=fun m h1 h2=>by
   by_cases hm:m=n
   .subst hm;exact hx
   .exact hall m h1 (by omega)
  have hlt:=zKs hU hall2;simp[rW,h2,h4,h6,h7,gP,gR,gM,h11,gC,gQ,h78,h79,h80,h19,h22,b1,b2,q45,lkB,hx,hw];rw[za1];refine⟨100 - (n+1),by omega,n+1,⟨rfl,by omega,hlt,hall2⟩,⟨?_,?_,?_⟩,⟨?_,?_,?_⟩,?_⟩
  .simp[rW,h2,h4,h6,h7,gP,gR,gM]
  .simp[rW,hf]
  .simp[rW,hMc]
  .simp[rW,h11,gC,gQ]
  .simp[rW,hg]
  .simp[rW,hCc]
  .simp[rW,h78,h79,h80,h19,h22]
 .have hfr:=zSk hn1 hn2 hx hall;rw[hfr];simp[rW,h2,h4,h6,h7,gP,gR,gM,h11,gC,gQ,h78,h79,h80,h19,h22,b1,b2,q45,lkB,hx,hw];refine⟨⟨?_,?_,?_⟩,⟨?_,?_,?_⟩,hn1,hn2⟩
  .simp[rW,h2,h4,h6,h7,gP,gR,gM]
  .simp[rW,hf]
  .simp[rW,hMc]
  .simp[rW,h11,gC,gQ]
  .simp[rW,hg]
  .simp[rW,hCc]
theorem zTK{h0:T Ob}{c0 P R M C Q:Nat}(o:c0<=P/\P<R/\R<M/\M<Q/\Q<C){hd:List Str}{dA dC dB:D}{U VB:List Str}{N:Nms}(hU:U.length+VB.length<98)(hxl:∀x∈VB,x.length<1000){K:Ex->St->Prop}(s:St)
  (h1:APS h0 c0 P R M hd dA dC U s)(h2:AQS M C Q dB VB N s)(h3:s.tm.get 78=some (dB)/\s.tm.get 79=some (.f (.i .i64 VB.length))/\s.tm.get 80=some (.f (.i .i64 0)))
  (hK:∀s,APS h0 c0 P R M hd dA dC (VB.foldl apS (U,N)).1 s->AQS M C Q dB VB (VB.foldl apS (U,N)).2 s->K (.exit 8) s):WL pr zvc s K:=by
 refine zgd VB apS (U,N) (fun n a s=>a.1.length<=U.length+n/\APS h0 c0 P R M hd dA dC a.1 s/\AQS M C Q dB VB a.2 s/\(s.tm.get 78=some (dB)/\s.tm.get 79=some (.f (.i .i64 VB.length))/\s.tm.get 80=some (.f (.i .i64 n)))) (fun e s=>e= .exit 8/\APS h0 c0 P R M hd dA dC (VB.foldl apS (U,N)).1 s/\AQS M C Q dB VB (VB.foldl apS (U,N)).2 s) ?_ ?_ s ⟨by simp,h1,h2,h3⟩ (by rintro e s ⟨rfl,a,b⟩;exact hK s a b)
 .clear hK h1 h2 h3 s;rintro n ⟨U1,N1⟩ s hn - ⟨hUl,⟨⟨h2,h4,h6,h7,gP,gR,gM⟩,hf,hMc⟩,⟨⟨h11,gC,gQ⟩,hg,hCc⟩,⟨h78,h79,h80⟩⟩;simp only at hUl gM gQ;unfold zvc;simp only[rU];have hw:=zaB n (by omega);obtain⟨X,r0,hi,gX,hX1,hX2⟩ :=zhP hg (n:=n) (by rw[zaW];exact hn);have hxx:=hxl _ (Z1 hn);have ht:(zaQ VB)[n]? =some [.f (.s VB[n])]:=by simp[zaQ,hn]
  have hnt:n< (zaQ VB).length:=by rw[zaW];exact hn
  have ht2:∀h:n< (zaQ VB).length,(zaQ VB)[n]=[.f (.s VB[n])]:=fun h=>by
   rw[Z0 h]at ht;exact Z53 ht
  generalize VB[n]=x at hxx ht ht2|-;cases hk:lkS x N1 with
  |none=>
   have e:apS (U1,N1) x=(U1,N1):=by simp[apS,hk]
   rw[e];simp[rW,h2,h4,h6,h7,gP,gR,gM,h11,gC,gQ,h78,h79,h80,hn,hi,gX,ht,ht2,hnt,zjw,hk,hw];refine⟨by omega,⟨⟨?_,?_,?_⟩,⟨?_,?_,?_⟩⟩⟩
   .simp[rW,h2,h4,h6,h7,gP,gR,gM]
   .simp[rW,hf]
   .simp[rW,hMc]
   .simp[rW,h11,gC,gQ]
   .simp[rW,hg]
   .simp[rW,hCc]
  |some y=>
   have e:apS (U1,N1) x=(zcz U1 (nmx x (frs U1 x)),upS x (nmx x (frs U1 x)) N1):=by simp[apS,hk]
   rw[e];simp[rW,h2,h4,h6,h7,gP,gR,gM,h11,gC,gQ,h78,h79,h80,hn,hi,gX,ht,ht2,hnt,zjw,hk,hw];refine zPH (h0:=h0) (c0:=c0) (P:=P) (R:=R) (M:=M) (C:=C) (Q:=Q) (hd:=hd) (dA:=dA) (dC:=dC) (dB:=dB) (U:=U1) (VB:=VB) (N:=N1) (x:=x) (len:=VB.length) (n0:=n) o (by omega) hxx _ ⟨?_,?_,?_⟩ ⟨?_,?_,?_⟩ ?_ ?_
   .simp[rW,h2,h4,h6,h7,gP,gR,gM]
   .simp[rW,hf]
   .simp[rW,hMc]
   .simp[rW,h11,gC,gQ]
   .simp[rW,hg]
   .simp[rW,hCc]
   .simp[rW,h78,h79,h80]
   .clear h2 h4 h6 h7 gP gR gM hf hMc h11 gC gQ hg hCc h78 h79 h80 gX;clear s;rintro s ⟨⟨h2,h4,h6,h7,gP,gR,gM⟩,hf,hMc⟩ ⟨⟨h11,gC,gQ⟩,hg,hCc⟩ ⟨h78,h79,h80,h19,h22⟩ hf1 hf2;have q45:=fun k=>zad (k:=k) (zJr _ hf2)
    have b1:=zD3 hxx;have b2:=zD5 hxx (frs U1 x);have hal:=zoM U1 (nmx x (frs U1 x));have hlk:=ziB x (nmx x (frs U1 x)) N1;generalize nmx x (frs U1 x)=y2 at b2 hal hlk|-;generalize frs U1 x=fr at*;have nQM:¬(Q=M):=by omega
    have nMQ:¬(M=Q):=by omega
    have nQC:¬(Q=C):=by omega
    have nCQ:¬(C=Q):=by omega
    have nMC:¬(M=C):=by omega
    have nCM:¬(C=M):=by omega
    have nPM:¬(P=M):=by omega
    have nPQ:¬(P=Q):=by omega
    have nRM:¬(R=M):=by omega
    have nRQ:¬(R=Q):=by omega
    simp[rW,h2,h4,h6,h7,gP,gR,gM,h11,gC,gQ,h78,h79,h80,h19,h22];refine zaq ?_;simp[rW,h2,h4,h6,h7,gP,gR,gM,h11,gC,gQ,h78,h79,h80,h19,h22,b1,b2,q45,upS',zDl,lkS'',hlk,nQM,nMQ,nQC,nCQ,nMC,nCM,nPM,nPQ,nRM,nRQ,hw];refine⟨by omega,by omega,by omega,⟨?_,fun z hz=> ?_,?_⟩,⟨?_,zbB hg (Z2 _) fun z hz1 hz2=> ?_,?_⟩⟩
    .simp[rW,h2,h4,h6,h7,gP,gR,gM,nPM,nPQ,nRM,nRQ,nMQ]
    .have z1:¬z=M:=by omega
     have z2:¬z=Q:=by omega
     simp[rW,z1,z2];exact hf z hz
    .simp[rW];omega
    .simp[rW,h11,gC,gQ,nQM,nCM,nCQ]
    .have z1:¬z=M:=by omega
     have z2:¬z=Q:=by omega
     simp[rW,z1,z2]
    .simp[rW];omega
 .rintro s ⟨hUl,⟨⟨h2,h4,h6,h7,gP,gR,gM⟩,hf,hMc⟩,⟨⟨h11,gC,gQ⟩,hg,hCc⟩,⟨h78,h79,h80⟩⟩;unfold zvc;simp only[rU];simp[rW,h78,h79,h80];refine⟨⟨?_,?_,?_⟩,⟨?_,?_,?_⟩⟩
  .simp[rW,h2,h4,h6,h7,gP,gR,gM]
  .simp[rW,hf]
  .simp[rW,hMc]
  .simp[rW,h11,gC,gQ]
  .simp[rW,hg]
  .simp[rW,hCc]
def HQx(h:T Ob)(lo c:Nat)(dA dC:D)(l:List Atm)(q:CQ)(xs:List Nat):Prop:=AsD h lo c dA l xs/\CsE h lo c dC q/\∀Y,dC.oid=some Y->Y∉xs/\dA.oid≠some Y
def zwC{h h':T Ob}{lo c:Nat}{d:D}{q:CQ}(H:CsE h lo c d q)(hh:∀Y,d.oid=some Y->h'.get Y=h.get Y):CsE h' lo c d q:=by
 rcases H with H|⟨Y,ex,rfl,hY,h3,h4,h1,h2,h5⟩
 .exact .inl H
 .exact .inr ⟨Y,ex,rfl,by rw[hh Y rfl];exact hY,h3,h4,h1,h2,h5⟩
def zHT{xs:List Nat}(hn:xs.Nodup){i j:Nat}(hi:i<xs.length)(hj:j<xs.length)(hij:i≠j):xs[i]≠xs[j]:=by
 rcases Nat.lt_or_gt_of_ne hij with h|h
 .exact Z126.1 hn i j hi hj h
 .exact fun e=>Z126.1 hn j i hj hi h e.symm
theorem AsD.upd{h h':T Ob}{lo c:Nat}{d:D}{l:List Atm}{xs:List Nat}(H:AsD h lo c d l xs){n:Nat}(hn:n<l.length)(hx:n<xs.length){a:Atm}(hr:a.r=l[n].r)(hg:a.neg=l[n].neg)(hl:a.ts.length=l[n].ts.length)
  (hX:h'.get xs[n]=some (.arr 4 0 (zc0 a.ts)))(ho:∀x,lo<=x->x<c->x≠xs[n]->h'.get x=h.get x):AsD h' lo c d (l.set n a) xs:=by
 refine⟨by rw[List.length_set];exact H.ln,H.nd,H.rg,fun k hk hkx=> ?_,?_,H.oi⟩
 .by_cases e:k=n
  .subst e;simpa using hX
  .have e2:¬n=k:=fun e3=>e e3.symm
   have h1:=H.rg _ (Z1 hkx);rw[Z70 e2,ho _ h1.1 h1.2 (zHT H.nd hkx hx e)];exact H.rw k (by simpa using hk) hkx
 .have hz:List.zipWith atR (l.set n a) xs=List.zipWith atR l xs:=by
   apply Z107;intro i;rw[Z122,Z122]
   by_cases e:n=i
   .subst e;rw[Z140 hn,Z0 hn,Z0 hx];simp[atR,hr,hg,hl]
   .rw[Z125 e]
  rw[hz];rcases H.gr with h1|⟨id,ro,h1,h2,h3,h4,h5,h6⟩
  .exact .inl h1
  .exact .inr ⟨id,ro,h1,h2,by rw[ho id h5 h6 fun e=>H.oi id (by rw[h1];rfl) (e▸Z1 hx)];exact h3,h4,h5,h6⟩
def rnA(N:Nms)(a:Atm):Atm:=⟨a.r,a.neg,a.ts.map (rnT N)⟩
def rnK(N:Nms)(k:Cm):Cm:=⟨k.op,rnT N k.l,rnT N k.r⟩
def BPS(h0:T Ob)(lo P R C Q:Nat)(dA dC:D)(N:Nms)(s:St):Prop:=(s.tm.get 4=some (.ptr P 2 0 0)/\s.tm.get 6=some (.ptr R 2 0 0)/\s.tm.get 23=some (.fn 34 [] [.ptr C 1 0 0])/\s.h.get P=some (.arr 2 0 [[dA,dC]])/\s.h.get R=some (.arr 2 0 [[.f .nils,.f .nils]])/\s.h.get C=some (.arr 1 0 [[.mp Q]])/\s.h.get Q=some (.map (mpS N)))/\Frm h0 s.h lo/\C<s.c
def stA(N:Nms)(a:Atm)(m:Nat):Atm:=⟨a.r,a.neg,(a.ts.take m).map (rnT N)++a.ts.drop m⟩
def zpW:C:=(oZ [oR 125 (.bin .lss (.t 124) (.t 123))]
 (.seq (.cond (.t 125) .skip (.exit 14))
 (.seq (.blk 15 (oZ [oM 126 124,oM 26 126]
 (.reg [oM 127 23,oF 128 2 25,oK 129 1 128,oM 130 26,oI 131 4 129 130,oR 132 (.callv (.t 127) [(.t 131)])])))
 (.reg [oR 133 (.bin .add (.t 124) (.k (.i .i64 1))),oM 124 133]))))
def zpY:C:=(oZ [oR 139 (.bin .lss (.t 138) (.t 137))]
 (.seq (.cond (.t 139) .skip (.exit 16))
 (.seq (.blk 17 (oZ [oM 140 138,oM 27 140]
 (oZ [oM 141 23,oF 142 1 4,oK 143 1 142,oM 144 27,oI 145 9 143 144,oF 146 1 145,oR 147 (.callv (.t 141) [(.t 146)])]
 (.reg [oM 148 23,oF 149 1 4,oK 150 1 149,oM 151 27,oI 152 9 150 151,oF 153 5 152,oR 154 (.callv (.t 148) [(.t 153)])]))))
 (.reg [oR 155 (.bin .add (.t 138) (.k (.i .i64 1))),oM 138 155]))))
def zpV:C:=(oZ [oR 118 (.bin .lss (.t 117) (.t 116))]
 (.seq (.cond (.t 118) .skip (.exit 12))
 (.seq (.blk 13 (oZ [oI 119 3 115 117,oL 120 3 119,oR 25 (.new [.s [],.b false,.nils]),oS 3 25 120]
 (oZ [oF 121 2 25,oK 122 1 121,oR 123 (.len (.t 122)),oR 124 (.mv (.k (.i .i64 0)))]
 (.blk 14 (.loop zpW)))))
 (.reg [oR 134 (.bin .add (.t 117) (.k (.i .i64 1))),oM 117 134]))))
theorem zPO{h0:T Ob}{lo c0 P R C Q E:Nat}(o:lo<=c0/\c0<=P/\P<R/\R<Q/\Q<C/\C<E){dA dC:D}{N:Nms}{l:List Atm}{q:CQ}{xs:List Nat}{n:Nat}(hn:n<l.length)(hx:n<xs.length)(hts:l[n].ts.length<=12){K:Ex->St->Prop}(s:St)
  (h1:BPS h0 lo P R C Q dA dC N s)(h2:HQx s.h lo c0 dA dC l q xs)(h3:s.tm.get 115=some (dA)/\s.tm.get 116=some (.f (.i .i64 l.length))/\s.tm.get 117=some (.f (.i .i64 n)))(h4:(s.tm.get 25=some (.ptr E 3 0 0)/\s.tm.get 123=some (.f (.i .i64 l[n].ts.length))/\s.tm.get 124=some (.f (.i .i64 0))/\s.h.get E=some (.arr 3 0 [atR l[n] xs[n]]))/\E<s.c)
  (hK:∀s,BPS h0 lo P R C Q dA dC N s->HQx s.h lo c0 dA dC (l.set n (rnA N l[n])) q xs->(s.tm.get 115=some (dA)/\s.tm.get 116=some (.f (.i .i64 l.length))/\s.tm.get 117=some (.f (.i .i64 n)))->K (.exit 14) s):WL pr zpW s K:=by
 refine zex l[n].ts.length (fun m s=>BPS h0 lo P R C Q dA dC N s/\HQx s.h lo c0 dA dC (l.set n (stA N l[n] m)) q xs/\(s.tm.get 115=some (dA)/\s.tm.get 116=some (.f (.i .i64 l.length))/\s.tm.get 117=some (.f (.i .i64 n)))/\(s.tm.get 25=some (.ptr E 3 0 0)/\s.tm.get 123=some (.f (.i .i64 l[n].ts.length))/\s.tm.get 124=some (.f (.i .i64 m))/\s.h.get E=some (.arr 3 0 [atR l[n] xs[n]]))/\E<s.c)
  (fun e s=>e= .exit 14/\BPS h0 lo P R C Q dA dC N s/\HQx s.h lo c0 dA dC (l.set n (rnA N l[n])) q xs/\(s.tm.get 115=some (dA)/\s.tm.get 116=some (.f (.i .i64 l.length))/\s.tm.get 117=some (.f (.i .i64 n)))) ?_ ?_ s ⟨h1,?_,h3,h4⟩ (by rintro e s ⟨rfl,a,b,c⟩;exact hK s a b c)
 .clear hK h1 h2 h3 h4 s;rintro m s hm ⟨⟨⟨h4,h6,h23,gP,gR,gC,gQ⟩,hf,hCc⟩,⟨hA,hC,hY⟩,⟨h115,h116,h117⟩,⟨h25,h123,h124,gE⟩,hEc⟩;unfold zpW;simp only[rU];have hw:=zaB m (by omega);have hxr:=hA.rg _ (Z1 hx);have hXg:=hA.rw n (by simpa using hn) hx;have hst:(l.set n (stA N l[n] m))[n]'(by simpa using hn)=stA N l[n] m:=by simp
  rw[hst]at hXg;have hlen:∀m,(stA N l[n] m).ts.length=l[n].ts.length:=fun m=>by simp[stA];omega
  have hmt:m< (stA N l[n] m).ts.length:=by rw[hlen];exact hm
  have htm:(stA N l[n] m).ts[m]=l[n].ts[m]:=by
   simp only[stA];rw[Z58 (by simp;omega)];simp[Z73 (Z110 hm)]
  have hnx:(stA N l[n] m).ts.set m (rnT N l[n].ts[m])=(stA N l[n] (m+1)).ts:=by
   have e0:m - ((l[n].ts.take m).map (rnT N)).length=0:=by simp;omega
   simp only[stA];rw[Z112 _ _ (by simp;omega),e0,Z55 hm,Z153,Z6 hm,Z20,Z32];rfl
  have hset:(l.set n (stA N l[n] m)).set n (stA N l[n] (m+1))=l.set n (stA N l[n] (m+1)):=by simp
  simp[rW,h4,h6,h23,gP,gR,gC,gQ,h115,h116,h117,h25,h123,h124,gE,hm,atR];refine zez rfl rfl (zR5 N (stA N l[n] m).ts m hmt (X:=xs[n]) (C:=C) (M:=Q) hXg gC gQ ?_ ?_ ?_) ?_
  .simp only[rG];omega
  .simp only[rG];omega
  .simp only[rG];omega
  rintro d h' c' lw mx ⟨hX',ho⟩ hcc;simp only[rG]at hX' ho hcc;rw[htm,hnx]at hX';have eP:=ho P (by omega) (by omega);have eR:=ho R (by omega) (by omega);have eC:=ho C (by omega) (by omega);have eQ:=ho Q (by omega) (by omega);have eE:=ho E (by omega) (by omega);rw[gP]at eP;rw[gR]at eR;rw[gC]at eC;rw[gQ]at eQ;rw[gE]at eE;simp[rW,h4,h6,h23,h115,h116,h117,h25,h123,h124,hw];refine⟨⟨?_,?_,?_⟩,⟨?_,?_,hY⟩,?_,?_⟩
  .simp[rW,h4,h6,h23,eP,eR,eC,eQ]
  .simp[rW];exact fun z hz=>(ho z (by omega) (by omega)).trans (hf z hz)
  .simp[rW];omega
  .have:=hA.upd (h':=h') (a:=stA N l[n] (m+1)) (by simpa using hn) hx (by simp[stA]) (by simp[stA]) (by rw[hst,hlen,hlen]) hX' (fun z hz1 hz2 hz3=>ho z (by omega) hz3);rw[hset]at this;exact this
  .exact zwC hC fun Y hYo=>ho Y (by rcases hC with⟨rfl,-⟩ |⟨Y2,ex,rfl,-,-,-,-,h6,-⟩ <;>simp[D.oid]at hYo;omega) fun e=>(hY Y hYo).1 (e▸Z1 hx)
  .simp[rW,eE,atR]
  .omega
 .rintro s ⟨⟨⟨h4,h6,h23,gP,gR,gC,gQ⟩,hf,hCc⟩,h2,⟨h115,h116,h117⟩,⟨h25,h123,h124,gE⟩,hEc⟩;have e:stA N l[n] l[n].ts.length=rnA N l[n]:=by simp[stA,rnA]
  rw[e]at h2;unfold zpW;simp only[rU];simp[rW,h123,h124,h115,h116,h117];refine⟨⟨?_,hf,hCc⟩,h2⟩;simp[rW,h4,h6,h23,gP,gR,gC,gQ]
 .have e:stA N l[n] 0=l[n]:=by simp[stA]
  rw[e,Z95];exact h2
def asN(N:Nms)(l:List Atm)(n:Nat):List Atm:=(l.take n).map (rnA N)++l.drop n
def zrW(N:Nms)(l:List Atm)(n:Nat):(asN N l n).length=l.length:=by simp[asN];omega
def zDX(N:Nms){l:List Atm}{n:Nat}(hn:n<l.length):(asN N l n)[n]'(by rw[zrW];exact hn)=l[n]:=by
 simp only[asN];rw[Z58 (by simp;omega)];simp[Z73 (Z110 hn)]
def zNd(N:Nms){l:List Atm}{n:Nat}(hn:n<l.length):(asN N l n).set n (rnA N l[n])=asN N l (n+1):=by
 have e0:n - ((l.take n).map (rnA N)).length=0:=by simp;omega
 simp only[asN];rw[Z112 _ _ (by simp;omega),e0,Z55 hn,Z153,Z6 hn,Z20,Z32];rfl
def zNc(N:Nms)(l:List Atm):asN N l l.length=l.map (rnA N):=by simp[asN]
theorem zPN{h0:T Ob}{lo c0 P R C Q:Nat}(o:lo<=c0/\c0<=P/\P<R/\R<Q/\Q<C){dA dC:D}{N:Nms}{l:List Atm}{q:CQ}{xs:List Nat}(hl:l.length<=1000)(hts:∀a∈l,a.ts.length<=12){K:Ex->St->Prop}(s:St)
  (h1:BPS h0 lo P R C Q dA dC N s)(h2:HQx s.h lo c0 dA dC l q xs)(h3:s.tm.get 115=some (dA)/\s.tm.get 116=some (.f (.i .i64 l.length))/\s.tm.get 117=some (.f (.i .i64 0)))
  (hK:∀s,BPS h0 lo P R C Q dA dC N s->HQx s.h lo c0 dA dC (l.map (rnA N)) q xs->K (.exit 12) s):WL pr zpV s K:=by
 refine zex l.length (fun n s=>BPS h0 lo P R C Q dA dC N s/\HQx s.h lo c0 dA dC (asN N l n) q xs/\(s.tm.get 115=some (dA)/\s.tm.get 116=some (.f (.i .i64 l.length))/\s.tm.get 117=some (.f (.i .i64 n))))
  (fun e s=>e= .exit 12/\BPS h0 lo P R C Q dA dC N s/\HQx s.h lo c0 dA dC (l.map (rnA N)) q xs) ?_ ?_ s ⟨h1,h2,h3⟩ (by rintro e s ⟨rfl,a,b⟩;exact hK s a b)
 .clear hK h1 h2 h3 s;rintro n s hn ⟨⟨⟨h4,h6,h23,gP,gR,gC,gQ⟩,hf,hCc⟩,⟨hA,hC,hY⟩,⟨h115,h116,h117⟩⟩;unfold zpV;simp only[rU];have hw:=zaB n (by omega);obtain⟨L,hA,hnl,hat,hsu,hlen⟩ :∃L,AsD s.h lo c0 dA L xs/\∃hnl:n<L.length,L[n]=l[n]/\L.set n (rnA N L[n])=asN N l (n+1)/\L.length=l.length:=
   ⟨_,hA,by rw[zrW];exact hn,zDX N hn,by rw[zDX N hn];exact zNd N hn,zrW N l n⟩
  have hxl:n<xs.length:=by rw[hA.ln];exact hnl
  have htl:=hts _ (Z1 hn);rw[<-hat]at htl;rw[<-hlen]at h116;obtain⟨X,r0,hi,gX,hX1,hX2⟩ :=zhP hA.gr (n:=n) (by rw[Z84,hA.ln,Z121];exact hnl);have ht:(List.zipWith atR L xs)[n]? =some (atR L[n] xs[n]):=by
   rw[Z122,Z0 hnl,Z0 hxl]
  have hnt:n< (List.zipWith atR L xs).length:=by rw[Z84,hA.ln,Z121];exact hnl
  have ht2:∀h:n< (List.zipWith atR L xs).length,(List.zipWith atR L xs)[n]=atR L[n] xs[n]:=fun h=>by
   rw[Z0 h]at ht;exact Z53 ht
  have nC:¬(C=s.c):=by omega
  have nP:¬(P=s.c):=by omega
  have nR:¬(R=s.c):=by omega
  have nQ:¬(Q=s.c):=by omega
  generalize hzz:List.zipWith atR L xs=Z at gX ht hnt ht2;simp only[atR]at ht ht2;simp[rW,h4,h6,h23,gP,gR,gC,gQ,h115,h116,h117,hn,hnl,hi,gX,ht,ht2,hnt,atR];refine zPO (h0:=h0) (lo:=lo) (c0:=c0) (P:=P) (R:=R) (C:=C) (Q:=Q) (E:=s.c) (by omega) (dA:=dA) (dC:=dC) (N:=N) (l:=L) (q:=q) (xs:=xs) hnl hxl htl _ ⟨?_,?_,?_⟩ ⟨?_,?_,hY⟩ ?_ ⟨?_,?_⟩ ?_
  .simp[rW,h4,h6,h23,gP,gR,gC,gQ,nC,nP,nR,nQ]
  .simp[rW];exact fun z hz=>by
    have z1:¬z=s.c:=by omega
    simp[TG,z1,hf z hz]
  .simp[rW];omega
  .refine hA.up (fun z hz1 hz2=> ?_) (Z2 _) (Z2 _);have z1:¬z=s.c:=by omega
   simp[rW,z1]
  .refine ziu hC (fun z hz1 hz2=> ?_) (Z2 _) (Z2 _);have z1:¬z=s.c:=by omega
   simp[rW,z1]
  .simp[rW,h115,h116,h117]
  .simp[rW,atR]
  .simp[rW]
  .rintro s ⟨⟨h4,h6,h23,gP,gR,gC,gQ⟩,hf,hCc⟩ h2 ⟨h115,h116,h117⟩;rw[hsu]at h2;simp[rW,h115,h116,h117,hw,hlen];refine⟨⟨?_,hf,hCc⟩,h2⟩;simp[rW,h4,h6,h23,gP,gR,gC,gQ]
 .rintro s ⟨⟨⟨h4,h6,h23,gP,gR,gC,gQ⟩,hf,hCc⟩,h2,⟨h115,h116,h117⟩⟩;rw[zNc]at h2;unfold zpV;simp only[rU];simp[rW,h115,h116,h117];refine⟨⟨?_,hf,hCc⟩,h2⟩;simp[rW,h4,h6,h23,gP,gR,gC,gQ]
def csN(N:Nms)(l:List Cm)(n:Nat):List Cm:=(l.take n).map (rnK N)++l.drop n
def zn2(N:Nms)(l:List Cm)(n:Nat):(csN N l n).length=l.length:=by simp[csN];omega
def zRQ(N:Nms){l:List Cm}{n:Nat}(hn:n<l.length):(csN N l n)[n]'(by rw[zn2];exact hn)=l[n]:=by
 simp only[csN];rw[Z58 (by simp;omega)];simp[Z73 (Z110 hn)]
def zND(N:Nms){l:List Cm}{n:Nat}(hn:n<l.length):(csN N l n).set n (rnK N l[n])=csN N l (n+1):=by
 have e0:n - ((l.take n).map (rnK N)).length=0:=by simp;omega
 simp only[csN];rw[Z112 _ _ (by simp;omega),e0,Z55 hn,Z153,Z6 hn,Z20,Z32];rfl
def zNC(N:Nms)(l:List Cm):csN N l l.length=l.map (rnK N):=by simp[csN]
def zEs{h:T Ob}{lo c:Nat}{d:D}{q:CQ}(H:CsE h lo c d q){n:Nat}(hn:n<q.cs.length):∃Y,iaB 9 d n=some (.ptr Y 9 n 0)/\h.get Y=some (.arr 9 0 (q.cs.map cmD))/\d.oid=some Y/\lo<=Y/\Y<c:=by
 rcases H with⟨-,e,-⟩ |⟨Y,ex,rfl,hY,-,-,h1,h2,-⟩
 .rw[e]at hn;simp at hn
 .exact⟨Y,by simp[zqw,hn],hY,rfl,h1,h2⟩
def zNB{h h':T Ob}{lo c:Nat}{d:D}{q:CQ}(H:CsE h lo c d q){Y:Nat}(hY:d.oid=some Y){cs:List Cm}(hl:cs.length=q.cs.length)(hg:h'.get Y=some (.arr 9 0 (cs.map cmD))):CsE h' lo c d ⟨q.as,cs,q.ne,q.na⟩ :=by
 rcases H with⟨rfl,-⟩ |⟨Y2,ex,rfl,-,h3,h4,h1,h2,h5⟩
 .simp[D.oid]at hY
 .simp only[D.oid,Z45]at hY;subst hY;have e0:cs=[]↔q.cs=[]:=by rw[<-Z17,hl,Z17]
  exact .inr ⟨Y2,ex,by simp[hl],hg,fun e=>h3 (e0.1 e),fun e=>h4 fun e2=>e (e0.2 e2),h1,h2,by simp only[hl];exact h5⟩
def zwB{h:T Ob}{lo c:Nat}{d:D}{q:CQ}(H:CsE h lo c d q):zbj d=some q.cs.length:=by
 rcases H with⟨rfl,e,-⟩ |⟨Y,ex,rfl,-⟩
 .rw[e];rfl
 .rfl
theorem zPQ{h0:T Ob}{lo c0 P R C Q:Nat}(o:lo<=c0/\c0<=P/\P<R/\R<Q/\Q<C){dA dC:D}{N:Nms}{l:List Atm}{q:CQ}{xs:List Nat}(hl:q.cs.length<=1000){K:Ex->St->Prop}(s:St)
  (h1:BPS h0 lo P R C Q dA dC N s)(h2:HQx s.h lo c0 dA dC l q xs)(h3:s.tm.get 136=some (dC)/\s.tm.get 137=some (.f (.i .i64 q.cs.length))/\s.tm.get 138=some (.f (.i .i64 0)))
  (hK:∀s,BPS h0 lo P R C Q dA dC N s->HQx s.h lo c0 dA dC l ⟨q.as,q.cs.map (rnK N),q.ne,q.na⟩ xs->K (.exit 16) s):WL pr zpY s K:=by
 refine zex q.cs.length (fun n s=>BPS h0 lo P R C Q dA dC N s/\HQx s.h lo c0 dA dC l ⟨q.as,csN N q.cs n,q.ne,q.na⟩ xs/\(s.tm.get 136=some (dC)/\s.tm.get 137=some (.f (.i .i64 q.cs.length))/\s.tm.get 138=some (.f (.i .i64 n))))
  (fun e s=>e= .exit 16/\BPS h0 lo P R C Q dA dC N s/\HQx s.h lo c0 dA dC l ⟨q.as,q.cs.map (rnK N),q.ne,q.na⟩ xs) ?_ ?_ s ⟨h1,h2,h3⟩ (by rintro e s ⟨rfl,a,b⟩;exact hK s a b)
 .clear hK h1 h2 h3 s;rintro n s hn ⟨⟨⟨h4,h6,h23,gP,gR,gC,gQ⟩,hf,hCc⟩,⟨hA,hC0,hY⟩,⟨h136,h137,h138⟩⟩;unfold zpY;simp only[rU];have hw:=zaB n (by omega);obtain⟨L,hC,hnl,hsu,hlen⟩ :∃L,CsE s.h lo c0 dC ⟨q.as,L,q.ne,q.na⟩/\∃hnl:n<L.length,L.set n (rnK N L[n])=csN N q.cs (n+1)/\L.length=q.cs.length:=
   ⟨_,hC0,by rw[zn2];exact hn,by rw[zRQ N hn];exact zND N hn,zn2 N q.cs n⟩
  obtain⟨Y,hi,gY,hYo,hY1,hY2⟩ :=zEs hC (n:=n) hnl;simp only at gY;have hxs:∀x∈xs,¬x=Y:=fun x hx e=>(hY Y hYo).1 (e▸hx)
  simp[rW,h4,h6,h23,gP,gR,gC,gQ,h136,h137,h138,hn,hi];refine zez rfl rfl (zR6 N L n hnl (X:=Y) (C:=C) (M:=Q) gY gC gQ ?_ ?_ ?_) ?_
  .simp only[rG];omega
  .simp only[rG];omega
  .simp only[rG];omega
  rintro d h' c' lw mx ⟨hX',ho⟩ hcc;simp only[rG]at hX' ho hcc;have eP:=ho P (by omega) (by omega);have eR:=ho R (by omega) (by omega);have eC:=ho C (by omega) (by omega);have eQ:=ho Q (by omega) (by omega);rw[gP]at eP;rw[gR]at eR;rw[gC]at eC;rw[gQ]at eQ;obtain⟨k1,hk1⟩ :∃k1:Cm,k1=⟨L[n].op,rnT N L[n].l,L[n].r⟩ :=⟨_,rfl⟩
  rw[<-hk1]at hX';have hk2:(⟨k1.op,k1.l,rnT N k1.r⟩ :Cm)=rnK N L[n]:=by rw[hk1];rfl
  simp[rW,h4,h6,h23,h136,h137,h138,eP,eR,eC,eQ,hi];refine zez rfl rfl (zR7 N (L.set n k1) n (by simpa using hnl) (X:=Y) (C:=C) (M:=Q) hX' eC eQ ?_ ?_ ?_) ?_
  .simp only[rG];omega
  .simp only[rG];omega
  .simp only[rG];omega
  rintro d2 h2 c2 lw2 mx2 ⟨hX2,ho2⟩ hcc2;simp only[rG]at hX2 ho2 hcc2;have eP2:=ho2 P (by omega) (by omega);have eR2:=ho2 R (by omega) (by omega);have eC2:=ho2 C (by omega) (by omega);have eQ2:=ho2 Q (by omega) (by omega);rw[eP]at eP2;rw[eR]at eR2;rw[eC]at eC2;rw[eQ]at eQ2;rw[Z77,hk2,Z199,hsu]at hX2;have hoo:∀z,z<s.c->z≠Y->h2.get z=s.h.get z:=fun z h1 h3=>(ho2 z (by omega) h3).trans (ho z (by omega) h3)
  simp[rW,h4,h6,h23,h136,h137,h138,hw];refine⟨⟨?_,?_,?_⟩,?_,?_,hY⟩
  .simp[rW,h4,h6,h23,eP2,eR2,eC2,eQ2]
  .simp[rW];exact fun z hz=>(hoo z (by omega) (by omega)).trans (hf z hz)
  .simp[rW];omega
  .refine⟨hA.ln,hA.nd,hA.rg,fun k hk hx=> ?_,?_,hA.oi⟩
   .have h1:=hA.rg _ (Z1 hx);rw[hoo _ (by omega) (hxs _ (Z1 hx))];exact hA.rw k hk hx
   .rcases hA.gr with h1|⟨id,ro,h1,h2',h3,h4,h5,h6⟩
    .exact .inl h1
    .exact .inr ⟨id,ro,h1,h2',by rw[hoo id (by omega) fun e=>(hY Y hYo).2 (by rw[h1,<-e];rfl)];exact h3,h4,h5,h6⟩
  .have:=zNB hC hYo (h':=h2) (cs:=csN N q.cs (n+1)) (by rw[zn2];exact hlen.symm) hX2;exact this
 .rintro s ⟨⟨⟨h4,h6,h23,gP,gR,gC,gQ⟩,hf,hCc⟩,h2,⟨h136,h137,h138⟩⟩;rw[zNC]at h2;unfold zpY;simp only[rU];simp[rW,h136,h137,h138];refine⟨⟨?_,hf,hCc⟩,h2⟩;simp[rW,h4,h6,h23,gP,gR,gC,gQ]
def zE4{h:T Ob}{lo c:Nat}{dA dC:D}{q:CQ}{xs:List Nat}(H:HQx h lo c dA dC q.as q xs):RdQ h c dA dC q:=by
 obtain⟨hA,hC,hY⟩ :=H;have hz:(List.zipWith atR q.as xs).length=q.as.length:=by rw[Z84,hA.ln,Z121]
 refine⟨zbW hA.gr,zis (zgy hC),by rw[Go.Vse.zfD hA.gr,hz],zwB hC,fun n hn=> ?_,fun n hn=> ?_⟩
 .have hx:n<xs.length:=by rw[hA.ln];exact hn
  obtain⟨X,r0,hi,gX,hX1,hX2⟩ :=zhP hA.gr (n:=n) (by rw[hz];exact hn);have hr:=hA.rw n hn hx;have hg:=hA.rg _ (Z1 hx);refine⟨_,.sl xs[n] 0 q.as[n].ts.length 4 q.as[n].ts.length false,[X],[xs[n]],hi,rfl,fun h' hf=>⟨?_,?_⟩⟩
  .have e:(List.zipWith atR q.as xs)[n]? =some (atR q.as[n] xs[n]):=by
    rw[Z122,Z0 hn,Z0 hx]
   simp[zcb,hf X hX2,gX,e,zcG,atR]
  .have e:=hf xs[n] hg.2;rw[hr]at e;have hl:=zgn q.as[n].ts;have ht:=zx1 q.as[n].ts;rw[zka,e,zcE,zgT,Z51 ⟨rfl,rfl,by omega⟩,Z34,ht]
 .obtain⟨Y,hi,gY,hYo,hY1,hY2⟩ :=zEs hC hn;refine⟨_,[Y],hi,fun h' hf=> ?_⟩;simp[zcb,hf Y hY2,gY,zcG,hn,cmD,tmD]
def zwo:C:= .seq (oZ [oM 78 10,oR 79 (.len (.t 78)),oR 80 (.mv (.k (.i .i64 0)))]
 (.blk 8 (.loop zvc)))
 (oZ [oR 113 (.mkf 34 [] [(.t 11)]),oM 23 113]
 (.seq (oZ [oF 114 0 4,oK 115 1 114,oR 116 (.len (.t 115)),oR 117 (.mv (.k (.i .i64 0)))]
 (.blk 12 (.loop zpV)))
 (.seq (oZ [oF 135 1 4,oK 136 1 135,oR 137 (.len (.t 136)),oR 138 (.mv (.k (.i .i64 0)))]
 (.blk 16 (.loop zpY)))
 (oZ [oL 156 2 4,oS 2 6 156]
 .ret))))
def zwm:C:= .seq (oZ [oM 60 10,oR 61 (.len (.t 60)),oR 62 (.mv (.k (.i .i64 0)))]
 (.blk 4 (.loop (oZ [oR 63 (.bin .lss (.t 62) (.t 61))]
 (.seq (.cond (.t 63) .skip (.exit 4))
 (.seq (.blk 5 (oZ [oI 64 1 60 62,oK 65 1 64,oM 15 65]
 (.reg [oM 66 7,oM 67 15,oN (.mup 1 (.t 66) (.t 67) (.k (.b true)))])))
 (.reg [oR 68 (.bin .add (.t 62) (.k (.i .i64 1))),oM 62 68])))))))
 (.seq (oZ [oM 69 2,oR 70 (.len (.t 69)),oR 71 (.mv (.k (.i .i64 0)))]
 (.blk 6 (.loop (oZ [oR 72 (.bin .lss (.t 71) (.t 70))]
 (.seq (.cond (.t 72) .skip (.exit 6))
 (.seq (.blk 7 (oZ [oI 73 1 69 71,oK 74 1 73,oM 17 74]
 (.reg [oM 75 7,oM 76 17,oN (.mup 1 (.t 75) (.t 76) (.k (.b true)))])))
 (.reg [oR 77 (.bin .add (.t 71) (.k (.i .i64 1))),oM 71 77])))))))
 zwo)
def zJB:C:=oZ [oL 39 2 4,oR 40 (.call 31 [(.t 39)]),oM 10 40]
 (oZ [oR 41 (.mmk),oR 11 (.new [.nilm]),oS 1 11 41]
 (.seq (oZ [oM 42 10,oR 43 (.len (.t 42)),oR 44 (.mv (.k (.i .i64 0)))]
 (.blk 2 (.loop (oZ [oR 45 (.bin .lss (.t 44) (.t 43))]
 (.seq (.cond (.t 45) .skip (.exit 2))
 (.seq (.blk 3 (oZ [oI 46 1 42 44,oK 47 1 46,oM 13 47]
 (oD [oM 48 7,oM 49 13,oR 50 (.mlk 1 (.b false) false (.t 48) (.t 49)),oM 51 50,oG 52 51 (.mv (.t 2)),oG 53 51 (.mv (.t 13)),oG 54 51 (.callp 32 [(.t 52),(.t 53)]),oG 55 51 (.un .not (.t 54)),oR 56 (.pick (.t 51) (.t 55) (.k (.b false)))] 56 (.reg [oK 57 1 11,oM 58 13,oN (.mup 1 (.t 57) (.t 58) (.k (.s [])))]) .skip)))
 (.reg [oR 59 (.bin .add (.t 44) (.k (.i .i64 1))),oM 44 59])))))))
 zwm))
def HQx.up{h h':T Ob}{lo c:Nat}{dA dC:D}{l:List Atm}{q:CQ}{xs:List Nat}(H:HQx h lo c dA dC l q xs)(hf:Frm h h' c):HQx h' lo c dA dC l q xs:=
 ⟨H.1.up (fun x _ h2=>hf x h2) (Z2 _) (Z2 _),ziu H.2.1 (fun x _ h2=>hf x h2) (Z2 _) (Z2 _),H.2.2⟩
theorem r25_8{h0:T Ob}{lo c0 P R M C Q:Nat}(o:lo<=c0/\c0<=P/\P<R/\R<M/\M<Q/\Q<C){hd:List Str}{dA dC dB:D}{q:CQ}{xs:List Nat}{U VB:List Str}{N:Nms}(hq:CqSm q)(hU:U.length+VB.length<98)(hxl:∀x∈VB,x.length<1000){K:Ex->St->Prop}(s:St)
  (a1:APS h0 c0 P R M hd dA dC U s)(a2:AQS M C Q dB VB N s)(a3:s.tm.get 10=some dB)(hh:HQx h0 lo c0 dA dC q.as q xs)
  (hK:∀s,s.tm.get 6=some (.ptr R 2 0 0)->s.h.get R=some (.arr 2 0 [[dA,dC]])->Frm h0 s.h lo->HQx s.h lo c0 dA dC (q.as.map (rnA (VB.foldl apS (U,N)).2)) ⟨q.as,q.cs.map (rnK (VB.foldl apS (U,N)).2),q.ne,q.na⟩ xs->R<s.c->K .ret s):wpC pr zwo s K:=by
 obtain⟨⟨h2,h4,h6,h7,gP,gR,gM⟩,hf,hMc⟩ :=a1;obtain⟨⟨h11,gC,gQ⟩,hg,hCc⟩ :=a2;unfold zwo;simp only[rU];have hlen:=zfD hg;simp[rW,a3,hlen];refine zTK (h0:=h0) (c0:=c0) (P:=P) (R:=R) (M:=M) (C:=C) (Q:=Q) (hd:=hd) (dA:=dA) (dC:=dC) (dB:=dB) (U:=U) (VB:=VB) (N:=N) (by omega) hU hxl _ ⟨?_,?_,?_⟩ ⟨?_,?_,?_⟩ ?_ ?_
 .simp[rW,h2,h4,h6,h7,gP,gR,gM]
 .simp[rW,hf]
 .simp[rW,hMc]
 .simp[rW,h11,gC,gQ]
 .simp[rW,hg]
 .simp[rW,hCc]
 .simp[rW,a3]
 rintro s ⟨⟨h2,h4,h6,h7,gP,gR,gM⟩,hf,hMc⟩ ⟨⟨h11,gC,gQ⟩,hg,hCc⟩;generalize (VB.foldl apS (U,N)).2=N2 at gQ hK;have hh2:=hh.up hf;have hla:zbj dA=some q.as.length:=by rw[Go.Vse.zfD hh.1.gr,Z84,hh.1.ln,Z121]
 have hlc:=zwB hh.2.1;simp[rW,h4,h11,gP,hla];refine zPN (h0:=h0) (lo:=lo) (c0:=c0) (P:=P) (R:=R) (C:=C) (Q:=Q) (dA:=dA) (dC:=dC) (N:=N2) (l:=q.as) (q:=q) (xs:=xs) (by omega) (by have:=hq.sa;omega) hq.st _ ⟨?_,?_,?_⟩ ?_ ?_ ?_
 .simp[rW,h4,h6,h11,gP,gR,gC,gQ]
 .simp[rW];exact fun z hz=>hf z (by omega)
 .simp[rW,hCc]
 .simp[rW,hh2]
 .simp[rW]
 rintro s ⟨⟨h4,h6,h23,gP,gR,gC,gQ⟩,hf,hCc⟩ hh3;simp[rW,h4,gP,hlc];refine zPQ (h0:=h0) (lo:=lo) (c0:=c0) (P:=P) (R:=R) (C:=C) (Q:=Q) (dA:=dA) (dC:=dC) (N:=N2) (l:=q.as.map (rnA N2)) (q:=q) (xs:=xs) (by omega) (by have:=hq.sc;omega) _ ⟨?_,?_,?_⟩ ?_ ?_ ?_
 .simp[rW,h4,h6,h23,gP,gR,gC,gQ]
 .simp[rW,hf]
 .simp[rW,hCc]
 .simp[rW,hh3]
 .simp[rW]
 rintro s ⟨⟨h4,h6,h23,gP,gR,gC,gQ⟩,hf,hCc⟩ hh4;have ca:=zbW hh.1.gr;have cc:=zis (zgy hh.2.1);have hRc:R<s.c:=by omega
 simp[rW,h4,h6,gP,gR,ca,cc,hRc];refine hK _ ?_ ?_ ?_ ?_ ?_
 .simp[rW,h6]
 .simp[rW,h6]
 .simp[rW];exact fun z hz=>by
   have z1:¬z=R:=by omega
   simp[TG,z1,hf z hz]
 .refine⟨hh4.1.up (fun x _ h2=> ?_) (Z2 _) (Z2 _),ziu hh4.2.1 (fun x _ h2=> ?_) (Z2 _) (Z2 _),hh4.2.2⟩
  .have z1:¬x=R:=by omega
   simp[rW,z1]
  .have z1:¬x=R:=by omega
   simp[rW,z1]
 .simp[rW,hRc]
theorem r25_4{h0:T Ob}{lo c0 P R M C Q:Nat}(o:lo<=c0/\c0<=P/\P<R/\R<M/\M<Q/\Q<C){hd:List Str}{dA dC dB:D}{q:CQ}{xs:List Nat}{U VB:List Str}{N:Nms}(hq:CqSm q)(hU:U.length+VB.length+hd.length+VB.length<98)(hxl:∀x∈VB,x.length<1000){K:Ex->St->Prop}(s:St)
  (a1:APS h0 c0 P R M hd dA dC U s)(a2:AQS M C Q dB VB N s)(a3:s.tm.get 10=some dB)(hh:HQx h0 lo c0 dA dC q.as q xs)
  (hK:∀s N2,N2=(VB.foldl apS (hd.foldl zcz (VB.foldl zcz U),N)).2->s.tm.get 6=some (.ptr R 2 0 0)->s.h.get R=some (.arr 2 0 [[dA,dC]])->Frm h0 s.h lo->HQx s.h lo c0 dA dC (q.as.map (rnA N2)) ⟨q.as,q.cs.map (rnK N2),q.ne,q.na⟩ xs->R<s.c->K .ret s):wpC pr zwm s K:=by
 obtain⟨⟨h2,h4,h6,h7,gP,gR,gM⟩,hf,hMc⟩ :=a1;obtain⟨⟨h11,gC,gQ⟩,hg,hCc⟩ :=a2;unfold zwm;simp only[rU];have hlen:=zfD hg;have nQM:¬(Q=M):=by omega
 have nMQ:¬(M=Q):=by omega
 have nMC:¬(M=C):=by omega
 have nCM:¬(C=M):=by omega
 have nPM:¬(P=M):=by omega
 have nRM:¬(R=M):=by omega
 simp[rW,a3,hlen];refine zgd VB zcz U (fun n a s=>APS h0 c0 P R M hd dA dC a s/\AQS M C Q dB VB N s/\(s.tm.get 10=some (dB)/\s.tm.get 60=some (dB)/\s.tm.get 61=some (.f (.i .i64 VB.length))/\s.tm.get 62=some (.f (.i .i64 n)))) (fun e s=>e= .exit 4/\APS h0 c0 P R M hd dA dC (VB.foldl zcz U) s/\AQS M C Q dB VB N s/\s.tm.get 10=some dB) ?_ ?_ _ ?_ ?_
 .clear h2 h4 h6 h7 gP gR gM hf hMc h11 gC gQ hg hCc a3 hK;clear s;rintro n a s hn - ⟨⟨⟨h2,h4,h6,h7,gP,gR,gM⟩,hf,hMc⟩,⟨⟨h11,gC,gQ⟩,hg,hCc⟩,⟨h10,h60,h61,h62⟩⟩;have hw:=zaB n (by omega);obtain⟨X,r0,hi,gX,hX1,hX2⟩ :=zhP hg (n:=n) (by rw[zaW];exact hn);have ht:(zaQ VB)[n]? =some [.f (.s VB[n])]:=by simp[zaQ,hn]
  have hnt:n< (zaQ VB).length:=by rw[zaW];exact hn
  have ht2:∀h:n< (zaQ VB).length,(zaQ VB)[n]=[.f (.s VB[n])]:=fun h=>by
   rw[Z0 h]at ht;exact Z53 ht
  generalize VB[n]=x at ht ht2|-;simp[rW,h2,h4,h6,h7,gP,gR,gM,h11,gC,gQ,h10,h60,h61,h62,hn,hi,gX,ht,ht2,hnt,zDl,hw,hMc];refine⟨⟨?_,fun z hz=> ?_,?_⟩,⟨?_,zbB hg (Z2 _) fun z hz1 hz2=> ?_,?_⟩⟩
  .simp[rW,h2,h4,h6,h7,gP,gR,gM,nPM,nRM]
  .have z1:¬z=M:=by omega
   simp[rW,z1];exact hf z hz
  .simp[rW,hMc]
  .simp[rW,h11,gC,gQ,nQM,nCM]
  .have z1:¬z=M:=by omega
   simp[rW,z1]
  .simp[rW,hCc]
 .rintro s ⟨⟨⟨h2,h4,h6,h7,gP,gR,gM⟩,hf,hMc⟩,⟨⟨h11,gC,gQ⟩,hg,hCc⟩,⟨h10,h60,h61,h62⟩⟩;simp[rW,h10,h60,h61,h62];refine⟨⟨?_,hf,hMc⟩,⟨?_,hg,hCc⟩⟩
  .simp[rW,h2,h4,h6,h7,gP,gR,gM]
  .simp[rW,h11,gC,gQ]
 .refine⟨⟨?_,hf,hMc⟩,⟨?_,hg,hCc⟩,?_⟩
  .simp[rW,h2,h4,h6,h7,gP,gR,gM]
  .simp[rW,h11,gC,gQ]
  .simp[rW,a3]
 rintro e s ⟨rfl,⟨⟨h2,h4,h6,h7,gP,gR,gM⟩,hf,hMc⟩,⟨⟨h11,gC,gQ⟩,hg,hCc⟩,a3⟩;have hU2:=zgR VB U;generalize VB.foldl zcz U=U2 at gM hU2 hK;simp[rW,h2,zfb];refine zgd hd zcz U2 (fun n a s=>APS h0 c0 P R M hd dA dC a s/\AQS M C Q dB VB N s/\(s.tm.get 10=some (dB)/\s.tm.get 69=some (.f (zbh hd))/\s.tm.get 70=some (.f (.i .i64 hd.length))/\s.tm.get 71=some (.f (.i .i64 n)))) (fun e s=>e= .exit 6/\APS h0 c0 P R M hd dA dC (hd.foldl zcz U2) s/\AQS M C Q dB VB N s/\s.tm.get 10=some dB) ?_ ?_ _ ?_ ?_
 .clear h2 h4 h6 h7 gP gR gM hf hMc h11 gC gQ hg hCc a3 hK;rintro n a s hn - ⟨⟨⟨h2,h4,h6,h7,gP,gR,gM⟩,hf,hMc⟩,⟨⟨h11,gC,gQ⟩,hg,hCc⟩,⟨h10,h69,h70,h71⟩⟩;have hw:=zaB n (by omega);have hx:hd[n]? =some hd[n]:=Z0 hn;generalize hA:hd[n]=x at hx|-;simp[rW,h2,h4,h6,h7,gP,gR,gM,h11,gC,gQ,h10,h69,h70,h71,hn,zi4,hx,hA,zDl,hw,hMc];refine⟨⟨?_,fun z hz=> ?_,?_⟩,⟨?_,zbB hg (Z2 _) fun z hz1 hz2=> ?_,?_⟩⟩
  .simp[rW,h2,h4,h6,h7,gP,gR,gM,nPM,nRM]
  .have z1:¬z=M:=by omega
   simp[rW,z1];exact hf z hz
  .simp[rW,hMc]
  .simp[rW,h11,gC,gQ,nQM,nCM]
  .have z1:¬z=M:=by omega
   simp[rW,z1]
  .simp[rW,hCc]
 .rintro s ⟨⟨⟨h2,h4,h6,h7,gP,gR,gM⟩,hf,hMc⟩,⟨⟨h11,gC,gQ⟩,hg,hCc⟩,⟨h10,h69,h70,h71⟩⟩;simp[rW,h10,h69,h70,h71];refine⟨⟨?_,hf,hMc⟩,⟨?_,hg,hCc⟩⟩
  .simp[rW,h2,h4,h6,h7,gP,gR,gM]
  .simp[rW,h11,gC,gQ]
 .refine⟨⟨?_,hf,hMc⟩,⟨?_,hg,hCc⟩,?_⟩
  .simp[rW,h2,h4,h6,h7,gP,gR,gM]
  .simp[rW,h11,gC,gQ]
  .simp[rW,h2,a3]
 rintro e s ⟨rfl,b1,b2,b3⟩;have hU3:=zgR hd U2;rw[zk5,Z51 rfl,znH];refine r25_8 o hq (by omega) hxl s b1 b2 b3 hh fun s' c1 c2 c3 c4 c5=>hK s' _ rfl c1 c2 c3 c4 c5
def zOc(l:List (List D)):hd8 ([.f .nilm]::l)=false:=rfl
theorem r25{h0:T Ob}{lo c0 P R M:Nat}(o:lo<=c0/\c0<=P/\P<R/\R<M){hd:List Str}{dA dC:D}{q:CQ}{xs:List Nat}{U:List Str}(hq:CqSm q)(hU:U.length+(vrs q).length+hd.length+(vrs q).length<98)(hxl:∀x∈vrs q,x.length<1000){K:Ex->St->Prop}(s:St)
    (a1:APS h0 c0 P R M hd dA dC U s)(hh:HQx h0 lo c0 dA dC q.as q xs)
    (hK:∀s N2,N2=((vrs q).foldl apS (hd.foldl zcz ((vrs q).foldl zcz U),(vrs q).foldl (kyS U hd) [])).2->s.tm.get 6=some (.ptr R 2 0 0)->s.h.get R=some (.arr 2 0 [[dA,dC]])->Frm h0 s.h lo->HQx s.h lo c0 dA dC (q.as.map (rnA N2)) ⟨q.as,q.cs.map (rnK N2),q.ne,q.na⟩ xs->R<s.c->K .ret s):wpC pr zJB s K:=by
  obtain⟨⟨h2,h4,h6,h7,gP,gR,gM⟩,hf,hMc⟩ :=a1;have hrd:=zE4 (hh.up hf);unfold zJB;simp only[rU];simp[rW,h2,h4,h6,h7,gP,gR,gM,hrd.ca,hrd.cc];refine zez rfl rfl (zKp q hq (hrd.up (h':=s.h) (c':=s.c) (fun _ _=>rfl) (by omega))) ?_;rintro dB h' c' lw mx ⟨hf2,hg⟩ hcc;simp only[rG]at hf2 hg hcc;have eP:=hf2 P (by omega);have eR:=hf2 R (by omega);have eM:=hf2 M (by omega);rw[gP]at eP;rw[gR]at eR;rw[gM]at eM;have hlen:=zfD hg;have hf3:Frm h0 h' c0:=zju hf hf2 (by omega);have n1:¬(c'+1=c'):=by omega
  have nP:¬(P=c'):=by omega
  have nR:¬(R=c'):=by omega
  have nM:¬(M=c'):=by omega
  have nP1:¬(P=c'+1):=by omega
  have nR1:¬(R=c'+1):=by omega
  have nM1:¬(M=c'+1):=by omega
  simp[rW,h2,h4,h6,h7,hlen,zOc];refine zgd (vrs q) (kyS U hd) [] (fun n a s=>APS h0 c0 P R M hd dA dC U s/\AQS M (c'+1) c' dB (vrs q) a s/\(s.tm.get 10=some (dB)/\s.tm.get 42=some (dB)/\s.tm.get 43=some (.f (.i .i64 (vrs q).length))/\s.tm.get 44=some (.f (.i .i64 n)))) (fun e s=>e= .exit 2/\APS h0 c0 P R M hd dA dC U s/\AQS M (c'+1) c' dB (vrs q) ((vrs q).foldl (kyS U hd) []) s/\s.tm.get 10=some dB) ?_ ?_ _ ?_ ?_
  . clear h2 h4 h6 h7 gP gR gM hf hMc hK hrd eP eR eM hlen;obtain⟨C,hC⟩ :∃C,C=c'+1:=⟨_,rfl⟩
    obtain⟨Q,hQ⟩ :∃Q,Q=c':=⟨_,rfl⟩
    rw[<-hC,<-hQ];rw[<-hC]at nP1 nR1 nM1;rw[<-hQ]at nP nR nM;have nCQ:¬(C=Q):=by omega
    rintro n a s hn - ⟨⟨⟨h2,h4,h6,h7,gP,gR,gM⟩,hf,hMc⟩,⟨⟨h11,gC,gQ⟩,hg,hCc⟩,⟨h10,h42,h43,h44⟩⟩;have hw:=zaB n (by omega);obtain⟨X,r0,hi,gX,hX1,hX2⟩ :=zhP hg (n:=n) (by rw[zaW];exact hn);have ht:(zaQ (vrs q))[n]? =some [.f (.s (vrs q)[n])]:=by simp[zaQ,hn]
    have hnt:n< (zaQ (vrs q)).length:=by rw[zaW];exact hn
    have ht2:∀h:n< (zaQ (vrs q)).length,(zaQ (vrs q))[n]=[.f (.s (vrs q)[n])]:=fun h=>by
      rw[Z0 h]at ht;exact Z53 ht
    generalize (vrs q)[n]=x at ht ht2|-;have qa:=fun k=>zad (k:=k) (zJq hd x (by omega))
    have hQc:Q<s.c:=by omega
    by_cases hx:x∈U
    . cases hb:hd.any (· ==x)with
      | true=>
        rw[hb]at qa;have e:kyS U hd a x=a:=by simp only[kyS,hb];simp
        rw[e];simp[rW,h2,h4,h6,h7,gP,gR,gM,h11,gC,gQ,h10,h42,h43,h44,hn,hi,gX,ht,ht2,hnt,lkB,hx,qa,hw];refine⟨⟨?_,?_,?_⟩,⟨?_,?_,?_⟩⟩
        . simp[rW,h2,h4,h6,h7,gP,gR,gM]
        . simp[rW,hf]
        . simp[rW,hMc]
        . simp[rW,h11,gC,gQ]
        . simp[rW,hg]
        . simp[rW,hCc]
      | false=>
        rw[hb]at qa;have e:kyS U hd a x=upS x [] a:=by simp only[kyS,hb];simp[hx]
        rw[e];simp[rW,h2,h4,h6,h7,gP,gR,gM,h11,gC,gQ,h10,h42,h43,h44,hn,hi,gX,ht,ht2,hnt,lkB,hx,qa,upS',hw,hQc];refine⟨⟨?_,fun z hz=> ?_,?_⟩,⟨?_,?_,?_⟩⟩
        . simp[rW,h2,h4,h6,h7,gP,gR,gM,nP,nR,nM]
        . have z1:¬z=Q:=by omega
          simp[rW,z1];exact hf z hz
        . simp[rW,hMc]
        . simp[rW,h11,gC,gQ,nCQ]
        . refine zbB hg (Z2 _) fun z hz1 hz2=> ?_
          have z1:¬z=Q:=by omega
          simp[rW,z1]
        . simp[rW,hCc]
    . have e:kyS U hd a x=a:=by simp[kyS,hx]
      rw[e];simp[rW,h2,h4,h6,h7,gP,gR,gM,h11,gC,gQ,h10,h42,h43,h44,hn,hi,gX,ht,ht2,hnt,lkB,hx,hw];refine⟨⟨?_,?_,?_⟩,⟨?_,?_,?_⟩⟩
      . simp[rW,h2,h4,h6,h7,gP,gR,gM]
      . simp[rW,hf]
      . simp[rW,hMc]
      . simp[rW,h11,gC,gQ]
      . simp[rW,hg]
      . simp[rW,hCc]
  . rintro s ⟨⟨⟨h2,h4,h6,h7,gP,gR,gM⟩,hf,hMc⟩,⟨⟨h11,gC,gQ⟩,hg,hCc⟩,⟨h10,h42,h43,h44⟩⟩;simp[rW,h10,h42,h43,h44];refine⟨⟨?_,?_,?_⟩,⟨?_,?_,?_⟩⟩
    . simp[rW,h2,h4,h6,h7,gP,gR,gM]
    . simp[rW,hf]
    . simp[rW,hMc]
    . simp[rW,h11,gC,gQ]
    . simp[rW,hg]
    . simp[rW,hCc]
  . refine⟨⟨?_,fun z hz=> ?_,?_⟩,⟨?_,?_,?_⟩,?_⟩
    . simp[rW,h2,h4,h6,h7,eP,eR,eM,nP,nR,nM,nP1,nR1,nM1]
    . have z1:¬z=c':=by omega
      have z2:¬z=c'+1:=by omega
      simp[rW,z1,z2];exact hf3 z hz
    . simp[rW];omega
    . simp[rW,mpS]
    . refine zk3 (zbB hg (Z2 _) fun z hz1 hz2=> ?_) (by omega);have z1:¬z=c':=by omega
      have z2:¬z=c'+1:=by omega
      simp[rW,z1,z2]
    . simp[rW]
    . simp[rW]
  rintro e s ⟨rfl,b1,b2,b3⟩;rw[zk5,Z51 rfl,znH];exact r25_4 (by omega) hq hU hxl s b1 b2 b3 hh hK
end Go.Proofs.YtkcnnkncapiohaaGreatDoor
end
