/- The program's slices.Grow, slices.Concat. -/
import Derived.Test.YtflgmemhalhdbaaGreatDoorPj
import Derived.KernelRfl
import Derived.IntWalk
set_option linter.all false
set_option maxRecDepth 100000
set_option maxHeartbeats 4000000
section
namespace Go.Proofs.YtflgmemhalhdbaaGreatDoor
open Go Go.Vse Go.Vse.Sm
def fn47:pr.fn 47=some g47:=by kernel_rfl
def fn64:pr.fn 64=some g64:=by kernel_rfl
def zC7(f:Go.Vse.A->Option D)(x:Go.Vse.A):O.res f (.cap x)=(f x).bind fun x=>some (.cap x):=rfl
def zJu{pr:Pr}{s:St}{Q:St->Prop}{dst:Option Nat}{l:List Go.Vse.Op}{x:Go.Vse.A}:wpO pr (⟨dst,none,.cap x⟩ ::l) s Q↔oB (((O.cap x).res (zad s.tm)).bind (opv s.h.get s.c)) fun r=>zaq r.c r.wr=true/\wpO pr l (s.aft dst r.d r.wr r.c) Q:=zdp rfl
def zDD(h:Nat->Option Ob)(c:Nat):opv h c (.cap (.f .nils))=some {d:= .f (.i .i64 0),c}:=rfl
def zSD(f:Go.Vse.A->Option D)(es byt:Nat)(z:List F)(x n:Go.Vse.A):O.res f (.apz es byt z x n)=(f x).bind fun x=>(f n).bind fun n=>some (.apz es byt z x n):=rfl
def o_apz{pr:Pr}{s:St}{Q:St->Prop}{dst:Option Nat}{l:List Go.Vse.Op}{es byt:Nat}{z:List F}{x n:Go.Vse.A}:wpO pr (⟨dst,none,.apz es byt z x n⟩ ::l) s Q↔oB (((O.apz es byt z x n).res (zad s.tm)).bind (opv s.h.get s.c)) fun r=>zaq r.c r.wr=true/\wpO pr l (s.aft dst r.d r.wr r.c) Q:=zdp rfl
def v_apz(h:Nat->Option Ob)(c:Nat){es byt k:Nat}(z:List F)(hk:0<k)(h1:k<=1000000)(hb:byt<=1000):opv h c (.apz es byt z (.f .nils) (.f (.i .i64 (k:Int))))=some {d:= .sl c 0 k es k false,wr:=[(c,some (.arr es 0 (List.replicate k (z.map D.f))))],c:=c+1}:=by
 have hm:k*byt<=1000000*1000:=Z145 h1 hb;have m1:(k<=zak)=True:=za2 (by omega);have m2:(k*byt<=zak)=True:=za2 (by omega);have m3:¬k=0:=by omega
 simp[opv,zbR,m1,m2,zrZ,m3]
def Room(h:T Ob)(lo c es:Nat)(z:List F)(k:Nat)(acc:List (List D))(d:D):Prop:=(k=0/\acc=[]/\d= .f .nils)\/(0<k/\acc.length<=k/\∃X,d= .sl X 0 acc.length es k false/\h.get X=some (.arr es 0 (acc++List.replicate (k - acc.length) (z.map D.f)))/\lo<=X/\X<c)
def gGr(es byt:Nat)(z:List F):Go.Vse.Fn:=⟨27,[.t 4],oZ [oR 4 (.mv (.k .nils))]
 (.seq (oD [oM 5 1,oR 6 (.bin .lss (.t 5) (.k (.i .i64 0)))] 6 (.reg [oR 7 (.pick (.k (.un)) (.k (.un)) (.k (.un))),oN (.pick (.k (.un)) (.k (.un)) (.k (.un)))]) .skip)
 (.seq (oZ [oM 8 1,oM 9 0,oR 10 (.cap (.t 9)),oM 11 0,oR 12 (.len (.t 11)),oR 13 (.bin .sub (.t 10) (.t 12)),oR 14 (.bin .sub (.t 8) (.t 13)),oM 1 14]
 (oD [oM 15 1,oR 16 (.bin .gtr (.t 15) (.k (.i .i64 0)))] 16 (.reg [oM 17 0,oM 18 0,oR 19 (.cap (.t 18)),oR 20 (.slc es (.t 17) none (some (.t 19)) none),oM 21 1,oR 22 (.apz es byt z (.t 20) (.t 21)),oM 23 0,oR 24 (.len (.t 23)),oR 25 (.slc es (.t 22) none (some (.t 24)) none),oM 0 25]) .skip))
 (oZ [oM 26 0,oM 4 26] .ret)))⟩
theorem effGr{n es byt:Nat}{z:List F}(hf:pr.fn n=some (gGr es byt z))(hb:byt<=1000){k:Nat}(hk:k<=1000000){h:T Ob}{c:Nat}:
  Eff pr n [.f .nils,.f (.i .i64 (k:Int))] h c fun d h' c'=>Frm h h' c/\Room h' c c' es z k [] d:=by
 refine zcG za0 hf ?_;unfold gGr;simp only[rU];have hw0:IntKind.i64.wrap 0=0:=rfl;have hw:IntKind.i64.wrap (k:Int)=(k:Int):=IntWalk.i64_in _ (by omega);have hn:¬((k:Int)<0):=by omega
 by_cases h0:k=0
 .subst h0;simp[rW,st0,zah,zJu,zC7,zDD,hw0,zcp];exact⟨fun _ _=>rfl,.inl ⟨rfl,rfl,rfl⟩⟩
 .have hp:0<k:=by omega
  have hp2:(0:Int)<k:=by omega
  have va:=fun h c=>v_apz h c (es:=es) z hp hk hb
  have hs:∀(h':Nat->Option Ob) (els:List (List D)),h' c=some (.arr es 0 els)->sliceB es h' (.sl c 0 k es k false) none (some (.f (.i .i64 0))) none=some (.sl c 0 0 es k false,[c]):=by
   intro h' els e;simp[sliceB,e,za8,zbR]
  have hs2:=hs (h.set c (.arr es 0 (List.replicate k (z.map D.f)))).get _ (by simp[TG];rfl);simp[rW,st0,zah,zJu,zC7,zDD,hw0,hw,hn,hp,hp2,o_apz,zSD,va,hs2,zcp];refine⟨fun x hx=> ?_,.inr ⟨hp,Z62 _,c,rfl,?_,Z3 _,by omega⟩⟩
  .have:¬x=c:=by omega
   simp[TG,this]
  .simp[TG]
theorem zMu{h:T Ob}{lo c es byt k:Nat}{z:List F}{acc new:List (List D)}{d:D}{rd:List Nat}{K:Rs->Prop}(hg:Room h lo c es z k acc d)(hle:acc.length+new.length<=k)
  (hz:∀l,hd8 (z.map D.f::l)=false)(ha:∀r∈acc,∀l,hd8 (r::l)=false)
  (hK:∀r:Rs,zaq r.c r.wr=true->Room (wrT h r.wr) lo r.c es z k (acc++new) r.d->c<=r.c->K r):oB (zbr es byt h.get c d new rd) K:=by
 rcases hg with⟨rfl,rfl,rfl⟩ |⟨hk,hl,X,rfl,hX,hlo,hc⟩
 .have:new=[]:=by simpa using hle
  subst this;rw[zrZ];exact hK _ rfl (.inl ⟨rfl,rfl,rfl⟩) (Z3 _)
 .by_cases h0:new=[]
  .subst h0;rw[zD9,zkW];refine hK _ rfl (.inr ⟨hk,by simpa using hl,X,by simp,?_,hlo,hc⟩) (Z3 _);simpa [wrT]using hX
  .have hn0:¬new.length=0:=fun e=>h0 (Z18.1 e)
   have hol:zeb (acc++List.replicate (k - acc.length) (z.map D.f)) (acc++(new++List.replicate (k - (acc.length+new.length)) (z.map D.f)))=true:=by
    unfold zeb;cases acc with
    |nil=>
     obtain⟨j,hj⟩ :∃j,k=j+1:=⟨k - 1,by omega⟩
     subst hj;simp[Z182,hz]
    |cons a l=>
     simp[ha a (by simp)]
   have e1:List.take acc.length (acc++List.replicate (k - acc.length) (z.map D.f))=acc:=by simp
   have e2:List.drop (acc.length+new.length) (acc++List.replicate (k - acc.length) (z.map D.f))=List.replicate (k - (acc.length+new.length)) (z.map D.f):=by
    rw[Z168];simp only[List.drop_replicate];rw[List.drop_eq_nil_of_le (by omega),Z29]
    congr 1
    omega
   have a1:acc.length+(k - acc.length)=k:=by omega
   rw[zwE,Z50 hn0,hX];simp only[true_and,Z26,Z17,Z147,a1,hl,hle,Z62,e1,e2,Z33,hol,Z61,zkW];refine hK _ (by simp[zaq,Z80,hc]) (.inr ⟨hk,by simpa using hle,X,by simp,?_,hlo,hc⟩) (Z3 _);simp[wrT,TG]
def gCc(es byt gr:Nat):Go.Vse.Fn:=⟨36,[.t 2],oZ [oR 2 (.mv (.k .nils))]
 (oZ [oR 3 (.mv (.k (.i .i64 0)))]
 (.seq (oZ [oM 9 0,oR 10 (.len (.t 9)),oR 11 (.mv (.k (.i .i64 0)))]
 (.blk 0 (.loop (oZ [oR 12 (.bin .lss (.t 11) (.t 10))]
 (.seq (.cond (.t 12) .skip (.exit 0))
 (.seq (.blk 1 (oZ [oI 13 1 9 11,oK 14 1 13,oM 5 14]
 (oZ [oM 15 3,oM 16 5,oR 17 (.len (.t 16)),oR 18 (.bin .add (.t 15) (.t 17)),oM 3 18]
 (oD [oM 19 3,oR 20 (.bin .lss (.t 19) (.k (.i .i64 0)))] 20 (.reg [oR 21 (.pick (.k (.un)) (.k (.un)) (.k (.un))),oN (.pick (.k (.un)) (.k (.un)) (.k (.un)))]) .skip))))
 (.reg [oR 22 (.bin .add (.t 11) (.k (.i .i64 1))),oM 11 22])))))))
 (oZ [oM 23 3,oR 24 (.call gr [(.k .nils),(.t 23)]),oM 6 24]
 (.seq (oZ [oM 25 0,oR 26 (.len (.t 25)),oR 27 (.mv (.k (.i .i64 0)))]
 (.blk 2 (.loop (oZ [oR 28 (.bin .lss (.t 27) (.t 26))]
 (.seq (.cond (.t 28) .skip (.exit 2))
 (.seq (.blk 3 (oZ [oI 29 1 25 27,oK 30 1 29,oM 8 30]
 (.reg [oM 31 6,oM 32 8,oR 33 (.app es byt (.t 31) (.t 32)),oM 6 33])))
 (.reg [oR 34 (.bin .add (.t 27) (.k (.i .i64 1))),oM 27 34])))))))
 (oZ [oM 35 6,oM 2 35] .ret)))))⟩
def lsF(es:Nat)(L:List (List (List F))):F:= .sl 1 (L.map fun p=>[F.sl es p])
def zh0(L:List (List (List F)))(n:Nat):Nat:=(L.take n).flatten.length
def zvX{L:List (List (List F))}{n:Nat}(hn:n<L.length):zh0 L (n+1)=zh0 L n+L[n].length:=by
 unfold zh0;rw[Z7 hn,Z72];simp
def zx2(L:List (List (List F)))(n:Nat):zh0 L n<=L.flatten.length:=by
 unfold zh0
 conv=>rhs;rw[<-Z95 n L,Z72,Z17]
 omega
def zlO(L:List (List (List F)))(n:Nat):List (List D):=(L.take n).flatten.map fun a=>a.map D.f
theorem ansCc{n gr es byt:Nat}{z:List F}(hf:pr.fn n=some (gCc es byt gr))(hg:pr.fn gr=some (gGr es byt z))(hb:byt<=1000)(L:List (List (List F)))(hL:L.length<=1000)(hS:L.flatten.length<=1000000)
  (hz:∀l,hd8 (z.map D.f::l)=false)(hr:∀p∈L,∀r∈p,∀l,hd8 (r.map D.f::l)=false):Ans pr n [lsF es L] (slc es L.flatten):=by
 refine zb6 hf ?_;unfold gCc;simp only[rU];obtain⟨T,hT⟩ :∃T,T=L.flatten.length:=⟨_,rfl⟩
 rw[<-hT]at hS;have hl:zbv (.f (lsF es L))=some L.length:=by simp[lsF,zxe]
 have hi:∀m,iaB 1 (.f (lsF es L)) m=(L[m]?).map fun p=>D.fptr [F.sl es p]:=fun m=>by simp[lsF,zCx,Z68]
 have hd:(lsF es L).d= .f (lsF es L):=rfl;simp[rW,st0,zah,hd,hl];refine zdo L.length (fun n s=>s.tm.get 0=some (.f (lsF es L))/\s.tm.get 3=some (.f (.i .i64 (zh0 L n)))/\s.tm.get 9=some (.f (lsF es L))/\s.tm.get 10=some (.f (.i .i64 L.length))/\s.tm.get 11=some (.f (.i .i64 n))) (fun x s=>x= .exit 0/\s.tm.get 0=some (.f (lsF es L))/\s.tm.get 3=some (.f (.i .i64 T))) ?_ ?_ _ ?_ ?_
 .rintro n s hn ⟨h0,h3,h9,h10,h11⟩;have hw:=zao n (by omega);have hx:L[n]? =some L[n]:=Z0 hn;have hs:=zvX hn;have hsl:=zx2 L (n+1);rw[<-hT]at hsl;generalize hA:L[n]=A at hx hs;have hw2:IntKind.i64.wrap ((zh0 L n:Int)+A.length)=((zh0 L (n+1):Nat):Int):=by rw[hs];push_cast;exact IntWalk.i64_in _ (by omega)
  have hn0:¬(((zh0 L (n+1):Nat):Int)<0):=by omega
  simp[rW,h0,h3,h9,h10,h11,hn,hi,hx,hA,hw,hw2,hn0]
 .rintro s ⟨h0,h3,h9,h10,h11⟩;have e:zh0 L L.length=L.flatten.length:=by unfold zh0;rw[Z8]
  rw[e,<-hT]at h3;simp[rW,h0,h3,h9,h10,h11]
 .simp[rW,];simp[zh0]
 .rintro x s ⟨rfl,⟨h0,h3⟩⟩;simp[rW,h0,h3];refine zer rfl rfl (effGr hg hb (k:=T) hS) ?_;rintro d H c' lw mx ⟨hf,hR⟩ hcc;simp only[rG]at hf hR hcc;simp[rW,h0,h3,hl];refine zdo L.length (fun n s=>∃d,(s.tm.get 6=some (d)/\s.tm.get 25=some (.f (lsF es L))/\s.tm.get 26=some (.f (.i .i64 L.length))/\s.tm.get 27=some (.f (.i .i64 n)))/\Room s.h 0 s.c es z T (zlO L n) d) (fun x s=>x= .exit 2/\∃d,s.tm.get 6=some d/\Room s.h 0 s.c es z T (zlO L L.length) d) ?_ ?_ _ ?_ ?_
  .rintro n s hn ⟨d,⟨h6,h25,h26,h27⟩,hR⟩;have hw:=zao n (by omega);have hx:L[n]? =some L[n]:=Z0 hn;have hs:=zvX hn;have hsl:=zx2 L (n+1);rw[<-hT]at hsl;have htk:=Z7 hn;have hrn:=hr _ (Z2 hn);have hra:∀r∈zlO L n,∀l,hd8 (r::l)=false:=by
    intro r hr1 l;obtain⟨a,ha,rfl⟩ :=Z13.1 hr1;obtain⟨p,hp,hap⟩ :=List.mem_flatten.1 ha;exact hr p (Z14 hp) a hap l
   generalize hA:L[n]=A at hx hs htk hrn;simp[rW,h6,h25,h26,h27,hn,hi,hx,hA,hw];refine zMu hR ?_ hz hra ?_
   .unfold zh0 at hs hsl;unfold zlO;simp only[Z19];omega
   .intro r hr1 hr2 hr3;have ea:zlO L (n+1)=zlO L n++A.map fun a=>a.map D.f:=by
     unfold zlO;rw[htk];simp
    refine⟨hr1,?_⟩;rw[ea];exact hr2
  .rintro s ⟨d,⟨h6,h25,h26,h27⟩,hR⟩;simp[rW,h6,h25,h26,h27];exact hR
  .simp[rW,];rcases hR with hR|⟨h1,h2,X,h3,h4,h5,h6⟩
   .exact .inl hR
   .exact .inr ⟨h1,h2,X,h3,h4,Z62 _,h6⟩
  .rintro x s ⟨rfl,d,h6,hR⟩;unfold zlO at hR;rw[Z8]at hR;have hz:∃rd,frz s.h.get 12 d=some (slc es L.flatten,rd):=by
    rcases hR with⟨h1,h2,rfl⟩ |⟨h1,h2,X,rfl,h4,h5,h6⟩
    .have e:L.flatten=[]:=Z18.1 (by omega);rw[e];exact⟨[],rfl⟩
    .refine⟨[X],?_⟩;have e:L.flatten≠[]:=fun e=>by rw[e]at hT;simp at hT;omega
     have el:(L.flatten.map fun a=>a.map D.f).length=T:=by rw[Z19];exact hT.symm
     rw[zgw,h4,zc0,zgd,el];simp only[Z195,List.replicate_zero,Z23,el,true_and,Z26,Z3,Z61,Z35];rw[Z12 (by omega),ziF s.h.get 10,zc0,zdz e]
   obtain⟨rd,hz⟩ :=hz;simp[rW,h6,hz]
def ans47(P S:List Atm)(hP:P.length<=1000)(hS:S.length<=1000):Ans pr 47 [.sl 1 [[.sl 3 (P.map atF)],[.sl 3 (S.map atF)]]] (slc 3 ((P++S).map atF)):=by
 have:=ansCc (z:=[.s [],.b false,.nils]) (byt:=48) (es:=3) fn47 fn64 (by omega) [P.map atF,S.map atF] (by simp) (by simp;omega) (fun _=>rfl) (by
  intro p hp r hr l;have:∃a,r=atF a:=by
   rcases Z6.1 hp with rfl|hp
   .obtain⟨a,_,rfl⟩ :=Z13.1 hr;exact⟨a,rfl⟩
   .obtain rfl:p=S.map atF:=by simpa using hp
    obtain⟨a,_,rfl⟩ :=Z13.1 hr;exact⟨a,rfl⟩
  obtain⟨a,rfl⟩ :=this;rfl)
 simpa [lsF]using this
def fn48:pr.fn 48=some g48:=by kernel_rfl
def bmE(l:List Str):List (F×D):=l.map fun x=>(F.s x,D.f (.b true))
theorem zoh(x:Str):∀(l:List Str) (i:Nat),x∈l->∃j,zbf 1 (.s x) (bmE l) i=some (some (j,.f (.b true)))
 |[],_,h=>absurd h (by simp)
 |y::l,i,h=>by
  by_cases hy:x=y
  .subst hy;exact⟨i,by simp[bmE,zbf,zfW]⟩
  .obtain⟨j,hj⟩ :=zoh x l (i+1) (by simpa [hy]using h);have e:zbf 1 (.s x) (bmE (y::l)) i=zbf 1 (.s x) (bmE l) (i+1):=by
    have hb:(x==y)=false:=by simpa using hy
    simp only[bmE,Z11,zbf,zfW,hb]
   exact⟨j,e.trans hj⟩
theorem zgJ(x:Str):∀(l:List Str) (i:Nat),x∉l->zbf 1 (.s x) (bmE l) i=some none
 |[],_,_=>rfl
 |y::l,i,h=>by
  have hy:x≠y:=fun e=>h (by simp[e])
  have e:zbf 1 (.s x) (bmE (y::l)) i=zbf 1 (.s x) (bmE l) (i+1):=by
    have hb:(x==y)=false:=by simpa using hy
    simp only[bmE,Z11,zbf,zfW,hb]
  rw[e];exact zgJ x l (i+1) fun hm=>h (by simp[hm])
def zjq(d:CQ):CQ:=⟨d.as.filter fun a=>!a.neg,[],false,false⟩
def zxz{d:CQ}(hd:CqSm d):CqSm (zjq d):=by
 have hm:∀a∈(zjq d).as,a∈d.as:=fun a ha=>(Z58.1 ha).1
 have hl:(zjq d).as.length<=d.as.length:=Z77 _ _;exact⟨⟨fun a ha=>hd.as a (hm a ha),fun _ h=>by simp[zjq]at h,by have:=hd.la;omega,by simp[zjq]⟩,by have:=hd.sa;omega,fun a ha=>hd.st a (hm a ha),by simp[zjq],fun a ha=>hd.s2 a (hm a ha)⟩
def zvi(d:CQ):vrs (zjq d)=bnd d:=by
 unfold vrs zjq bnd;rw[List.foldl_nil,List.foldl_filter]
 congr 1
 funext l a
 unfold bnS;cases a.neg<;>simp
def bdP(d w:CQ)(hd:List Str):Bool:=((vrs d).all fun x=>(bnd d).any (· ==x))&&(vrs w).all fun x=>(bnd d).any (· ==x)|| !(hd.any (· ==x))
theorem zwW(B hd:List Str):∀(W L:List Str),(W.foldl (cvA hd) L).all (fun x=>B.any (· ==x))=(L.all (fun x=>B.any (· ==x))&&W.all fun x=>B.any (· ==x)|| !(hd.any (· ==x)))
  |[],L=>by simp
  | x::W,L=>by
    rw[Z43,zwW B hd W];unfold cvA;cases hx:hd.any (· ==x)with
    |true=>simp[Z156,hx]
    |false=>simp[hx]
def zP8(d w:CQ)(hd:List Str):bdP d w hd=cov d w hd:=by
 unfold bdP cov;rw[zwW]
theorem zkX{h:Nat->Option Ob}{x:Nat}:∀{rd:List Nat} {H:T Ob},x∉rd->(wrT H (zaw h rd)).get x=H.get x
 |[],_,_=>rfl
 |y::l,H,hx=>by
  have hy:x≠y:=fun e=>hx (by simp[e])
  have hl:x∉l:=fun e=>hx (by simp[e])
  unfold zaw;split
  .split
   .exact zkX hl
   .simp only[wrT];rw[zkX hl,TG,Z50 hy]
  .exact zkX hl
theorem zJw{h:Nat->Option Ob}{c:Nat}:∀{rd:List Nat},(∀x∈rd,x<c)->zaq c (zaw h rd)=true
 |[],_=>rfl
 |y::l,hx=>by
  have hy:=hx y (by simp);have hl:=zJw (h:=h) (rd:=l) fun x hm=>hx x (by simp[hm])
  unfold zaw;split
  .split
   .exact hl
   .simp[zaq,Z80,hy,hl]
  .exact hl
def zEW{h:T Ob}{lo c es k:Nat}{d:D}{els:List (List D)}{L:List (List F)}(hg:Gro h lo c es d els)(hf:zaV (frz h.get k) els=some (L,[]))(hL:L=[]↔els=[]):∃rd,frz h.get (k+1) d=some (slc es L,rd)/\∀x∈rd,d.oid=some x:=by
 rcases hg with⟨rfl,rfl⟩ |⟨id,ro,rfl,he,ho,hr,hl,hc⟩
 .rw[hL.2 rfl];exact⟨[],rfl,by simp⟩
 .refine⟨[id],?_,by simp[D.oid]⟩;rw[zgw,ho,zc0,zgd];simp only[true_and,Z26,Z3,Z61,Z35,Z8,hf,zc0];rw[zdz (fun e=>he (hL.1 e))]
def znY(l:List Atm):List (List D):=l.map fun a=>(atF a).map D.f
def XZ1(hd:List Str)(c d:CQ)(n:Nat)(s:St):Prop:=∃B,(s.tm.get 2=some (.f (zaM hd))/\s.tm.get 3=some (.ptr 0 2 0 0)/\s.tm.get 4=some (.ptr 1 2 0 0)/\s.tm.get 7=some (.ptr 2 2 0 0)/\s.tm.get 18=some (.f (zaS d))/\s.tm.get 19=some (.f (.i .i64 d.as.length))/\s.tm.get 20=some (.f (.i .i64 n))/\s.h.get 0=some (.arr 2 0 [[.f (zaS c),.f (zaQ c)]])/\s.h.get 1=some (.arr 2 0 [[.f (zaS d),.f (zaQ d)]])/\s.h.get 2=some (.arr 2 0 [[B,.f .nils]]))/\Gro s.h 3 s.c 3 B (znY ((d.as.take n).filter fun a=>!a.neg))/\3<=s.c
def XZ2(hd:List Str)(c d:CQ)(M:Nat)(l:List Str)(s:St):Prop:=(s.tm.get 2=some (.f (zaM hd))/\s.tm.get 3=some (.ptr 0 2 0 0)/\s.tm.get 4=some (.ptr 1 2 0 0)/\s.tm.get 10=some (.mp M)/\s.h.get 0=some (.arr 2 0 [[.f (zaS c),.f (zaQ c)]])/\s.h.get 1=some (.arr 2 0 [[.f (zaS d),.f (zaQ d)]])/\s.h.get M=some (.map (bmE l)))/\2<=M/\M<s.c
def zwC{l:List Str}{x:Str}(h:l.any (· ==x)=true):x∈l:=by
  obtain⟨y,hy,e⟩ :=Z31.1 h;rw[show y=x by simpa using e]at hy;exact hy
def ztE{l:List Str}{x:Str}(h:l.any (· ==x)=false):x∉l:=fun hm=>by
  have:=Z194.1 h x hm;simp at this
def fd1(B:List Str)(x:Str):Bool:=!(B.any (· ==x))
def fd2(B hd:List Str)(x:Str):Bool:=!(B.any (· ==x))&&hd.any (· ==x)
def ans48(c d:CQ)(hd:List Str)(hc:CqSm c)(hdd:CqSm d)(hh:hd.length<1000):Ans pr 48 [.ag (cqF c),.ag (cqF d),zaM hd] (.b (cov d c hd)):=by
  refine zb6 fn48 ?_;simp only[g48,rU];rw[<-zP8];simp[rW,st0,zah,cqE,zbO,zbQ,zcb,zeu];refine zdo d.as.length (XZ1 hd c d) (fun x s=>x= .exit 0/\XZ1 hd c d d.as.length s) ?_ ?_ _ ?_ ?_
  . rintro n s hn ⟨B,⟨h2,h3,h4,h7,h18,h19,h20,g0,g1,g2⟩,hg,hc3⟩;have hw:=zao n (by have:=hdd.sa;omega);have hx:d.as[n]? =some d.as[n]:=Z0 hn;have htk:=Z7 hn;generalize hA:d.as[n]=A at hx htk;have n0:¬(0=s.c):=by omega
    have n1:¬(1=s.c):=by omega
    have n2:¬(2=s.c):=by omega
    have n2':¬(s.c=2):=by omega
    cases hneg:A.neg with
    | true=>
      simp[rW,h2,h3,h4,h7,h18,h19,h20,g0,g1,g2,hn,zeK,hx,hA,atE,zib,hneg,n0,n1,n2,n2'];refine⟨B,?_,?_,?_⟩
      . simp[rW,h2,h3,h4,h7,h18,h19,h20,g0,g1,g2,hw,n0,n1,n2]
      . rw[htk,Z100];simp only[hneg,Z128,Z138,Z90,Z53,Z64,Z23];refine zbh hg (by simp[rW,]) fun x h1 h2=> ?_
        have nx:¬(x=s.c):=by omega
        simp[rW,nx]
      . simp[rW,];omega
    | false=>
      simp[rW,h2,h3,h4,h7,h18,h19,h20,g0,g1,g2,hn,zeK,hx,hA,atE,zib,hneg,n0,n1,n2,n2'];have hpl:((d.as.take n).filter fun a=>!a.neg).length<=12:=by
        refine Z4 (Z77 _ _) ?_;have:=hdd.sa;simp;omega
      refine zfm (zbh (c':=s.c+1) hg (by omega) fun x h1 h2=> ?_) (by omega) (by simp[znY];omega) (by omega) ?_
      . have nx:¬(x=s.c):=by omega
        simp[TG,nx]
      intro r hr1 hr2 hr3 hr4 hr5;have e0:=hr4 0 (by omega) (zbi hg (by omega));have e1:=hr4 1 (by omega) (zbi hg (by omega));have e2:=hr4 2 (by omega) (zbi hg (by omega));simp[TG,n0,n1,n2,g0,g1,g2]at e0 e1 e2;refine⟨hr1,?_⟩;simp[rW,e2,zbj hr2];refine⟨by omega,⟨r.d,?_,?_,?_⟩⟩
      . simp[rW,h2,h3,h4,h7,h18,h19,h20,hw,e0,e1,e2]
      . rw[htk,Z100];simp only[hneg,Z128,Z138,Bool.not_false,Z61];have ea:∀l:List Atm,znY (l++[A])=znY l++[[D.f (F.s A.r),D.f (F.b false),D.f (zdD A.ts)]]:=fun l=>by simp[znY,atE,hneg]
        rw[ea];refine zbh hr2 (by simp[rW,]) fun x h1 h2=> ?_
        have nx:¬(x=2):=by omega
        simp[rW,nx]
      . simp[rW,];omega
  . rintro s ⟨B,⟨h2,h3,h4,h7,h18,h19,h20,g0,g1,g2⟩,hg,hc3⟩;simp[rW,h2,h3,h4,h7,h18,h19,h20,g0,g1,g2];refine⟨B,?_,hg,hc3⟩;simp[rW,h2,h3,h4,h7,h18,h19,h20,g0,g1,g2]
  . refine⟨.f .nils,?_,.inl ⟨rfl,rfl⟩,?_⟩
    . simp[rW,]
    . simp[rW,]
  . rintro x s ⟨rfl,B,⟨h2,h3,h4,h7,h18,h19,h20,g0,g1,g2⟩,hg,hc3⟩;have q54:=fun k=>zav (k:=k) (zsO (zjq d) (zxz hdd))
    have q54d:=fun k=>zav (k:=k) (zsO d hdd)
    have q54c:=fun k=>zav (k:=k) (zsO c hc)
    rw[zvi]at q54;rw[Z8]at hg;have hbn:(bnd d).Nodup:=by rw[<-zvi];exact (zgW _).1
    have hbl:=zk1 (zxz hdd);rw[zvi]at hbl;have hld:=zk1 hdd;have hlc:=zk1 hc;simp only[cqE]at q54 q54d q54c;have eC:zaQ (zjq d)= .nils:=rfl;have eA:zaS (zjq d)=slc 3 ((d.as.filter fun a=>!a.neg).map atF):=rfl;rw[eC,eA]at q54;unfold bdP;generalize bnd d=Bd at*;generalize vrs d=Vd at*;generalize vrs c=Vc at*;have n2:¬(2=s.c):=by omega
    have n0:¬(0=s.c):=by omega
    have n1:¬(1=s.c):=by omega
    have hgM:=zbh (h':=s.h.set s.c (.map [])) (c':=s.c+1) hg (by omega) fun x h1 h2=>by simp[TG,show ¬(x=s.c) by omega]
    have hfr:zaV (frz (s.h.set s.c (.map [])).get 10) (znY (d.as.filter fun a=>!a.neg))=some ((d.as.filter fun a=>!a.neg).map atF,[]):=by
      have:=ziF (s.h.set s.c (.map [])).get 9 ((d.as.filter fun a=>!a.neg).map atF);rw[Z34]at this;exact this
    obtain⟨rd,hz,hrd⟩ :=zEW (k:=10) hgM hfr (by simp[znY]);have hrd2:∀x∈rd,3<=x/\x<s.c:=fun x hx=>zdw hg (hrd x hx)
    have hok:=zJw (h:=(s.h.set s.c (.map [])).get) (c:=s.c+1) (rd:=rd) fun x hx=>by have:=hrd2 x hx;omega
    have k0:=zkX (h:=(s.h.set s.c (.map [])).get) (x:=0) (rd:=rd) (H:=s.h.set s.c (.map [])) fun hm=>by have:=hrd2 _ hm;omega
    have k1:=zkX (h:=(s.h.set s.c (.map [])).get) (x:=1) (rd:=rd) (H:=s.h.set s.c (.map [])) fun hm=>by have:=hrd2 _ hm;omega
    have kM:=zkX (h:=(s.h.set s.c (.map [])).get) (x:=s.c) (rd:=rd) (H:=s.h.set s.c (.map [])) fun hm=>by have:=hrd2 _ hm;omega
    simp[TG,n0,n1,g0,g1]at k0 k1 kM;simp[rW,h2,h3,h4,h7,h18,h19,h20,g0,g1,g2,n0,n1,n2,hz,q54,hok,zcb,zbN];refine zdo Bd.length (fun n s'=>XZ2 hd c d s.c (Bd.take n) s'/\(s'.tm.get 36=some (.f (zaM Bd))/\s'.tm.get 37=some (.f (.i .i64 Bd.length))/\s'.tm.get 38=some (.f (.i .i64 n)))) (fun x s'=>x= .exit 2/\XZ2 hd c d s.c Bd s') ?_ ?_ _ ?_ ?_
    . rintro n s' hn ⟨⟨⟨h2,h3,h4,h10,g0,g1,gM⟩,hM2,hMc⟩,⟨h36,h37,h38⟩⟩;have hw:=zao n (by omega);have hx:Bd[n]? =some Bd[n]:=Z0 hn;have htk:=Z7 hn;have hout:Bd[n]∉Bd.take n:=by
        intro hm;have h2:(Bd.take n++Bd.drop n).Nodup:=by rw[Z95];exact hbn
        rw[Z91]at h2;rw[Z56 hn]at h2;exact h2.2.2 _ hm _ (Z155) rfl
      have hk:=zgJ _ (Bd.take n) 0 hout;have m0:¬(0=s.c):=by omega
      have m1:¬(1=s.c):=by omega
      have eb:bmE (Bd.take (n+1))=bmE (Bd.take n)++[(.s Bd[n],.f (.b true))]:=by rw[htk];unfold bmE;rw[Z21];rfl
      generalize hX:Bd[n]=X at hx hk eb;simp[rW,h2,h3,h4,h10,h36,h37,h38,g0,g1,gM,hn,zco,hx,hX,hk,hw];refine⟨by omega,⟨?_,hM2,?_⟩⟩
      . simp[rW,h2,h3,h4,h10,g0,g1,m0,m1,eb]
      . simp[rW,];omega
    . rintro s' ⟨⟨⟨h2,h3,h4,h10,g0,g1,gM⟩,hM2,hMc⟩,⟨h36,h37,h38⟩⟩;rw[Z8]at gM;simp[rW,h2,h3,h4,h10,h36,h37,h38,g0,g1,gM];exact⟨by simp[rW,h2,h3,h4,h10,g0,g1,gM],hM2,hMc⟩
    . refine⟨⟨?_,by omega,?_⟩,?_⟩
      . simp[rW,h2,h3,h4,k0,k1,kM];simp[bmE]
      . simp[rW,]
      . simp[rW,]
    . rintro x s' ⟨rfl,⟨h2,h3,h4,h10,g0,g1,gM⟩,hM2,hMc⟩;generalize s.c=M at*;simp[rW,h2,h3,h4,h10,g0,g1,gM,q54d,zcb,zbN];refine zfa Vd (fd1 Bd) (fun n s'=>XZ2 hd c d M Bd s'/\(s'.tm.get 46=some (.f (zaM Vd))/\s'.tm.get 47=some (.f (.i .i64 Vd.length))/\s'.tm.get 48=some (.f (.i .i64 n)))) (fun x s'=>x= .exit 4/\XZ2 hd c d M Bd s') (fun n y s'=>y= .ret/\s'.tm.get 6=some (.f (.b false))) ?_ ?_ _ ?_ ?_ ?_
      . rintro n s' hn ⟨⟨⟨h2,h3,h4,h10,g0,g1,gM⟩,hM2,hMc⟩,⟨h46,h47,h48⟩⟩;have hw:=zao n (by omega);have hx:Vd[n]? =some Vd[n]:=Z0 hn;generalize hX:Vd[n]=X at hx|-;cases hb:Bd.any (· ==X)with
        | true=>
          have e:fd1 Bd X=false:=by unfold fd1;rw[hb];rfl
          obtain⟨j,hk⟩ :=zoh X Bd 0 (zwC hb);simp[rW,h2,h3,h4,h10,h46,h47,h48,g0,g1,gM,hn,zco,hx,hX,hk,hw,e];exact⟨by simp[rW,h2,h3,h4,h10,g0,g1,gM],hM2,by simp[rW,];omega⟩
        | false=>
          have e:fd1 Bd X=true:=by unfold fd1;rw[hb];rfl
          have hk:=zgJ X Bd 0 (ztE hb);simp[rW,h2,h3,h4,h10,h46,h47,h48,g0,g1,gM,hn,zco,hx,hX,hk,hw,e]
      . rintro s' ⟨⟨⟨h2,h3,h4,h10,g0,g1,gM⟩,hM2,hMc⟩,⟨h46,h47,h48⟩⟩;simp[rW,h2,h3,h4,h10,h46,h47,h48,g0,g1,gM];exact⟨by simp[rW,h2,h3,h4,h10,g0,g1,gM],hM2,hMc⟩
      . refine⟨⟨?_,hM2,?_⟩,?_⟩
        . simp[rW,h2,h3,h4,h10,g0,g1,gM]
        . simp[rW,];omega
        . simp[rW,]
      . rintro h z s' ⟨rfl,⟨h2,h3,h4,h10,g0,g1,gM⟩,hM2,hMc⟩;have e1:(Vd.all fun x=>Bd.any (· ==x))=true:=Z51.2 fun x hx=>by simpa [fd1]using h x hx
        rw[e1,Z104];simp[rW,h2,h3,h4,h10,g0,g1,gM,q54c,zcb,zbN];refine zfa Vc (fd2 Bd hd) (fun n s'=>XZ2 hd c d M Bd s'/\(s'.tm.get 58=some (.f (zaM Vc))/\s'.tm.get 59=some (.f (.i .i64 Vc.length))/\s'.tm.get 60=some (.f (.i .i64 n)))) (fun x s'=>x= .exit 6) (fun n y s'=>y= .ret/\s'.tm.get 6=some (.f (.b false))) ?_ ?_ _ ?_ ?_ ?_
        . rintro n s' hn ⟨⟨⟨h2,h3,h4,h10,g0,g1,gM⟩,hM2,hMc⟩,⟨h58,h59,h60⟩⟩;have hw:=zao n (by omega);have hx:Vc[n]? =some Vc[n]:=Z0 hn;generalize hX:Vc[n]=X at hx|-;have q82:=fun k=>zav (k:=k) (zyI hd X (by omega))
          cases hb:Bd.any (· ==X)with
          | true=>
            have e:fd2 Bd hd X=false:=by unfold fd2;rw[hb];rfl
            obtain⟨j,hk⟩ :=zoh X Bd 0 (zwC hb);simp[rW,h2,h3,h4,h10,h58,h59,h60,g0,g1,gM,hn,zco,hx,hX,hk,hw,e];exact⟨by simp[rW,h2,h3,h4,h10,g0,g1,gM],hM2,by simp[rW,];omega⟩
          | false=>
            have hk:=zgJ X Bd 0 (ztE hb);have e:fd2 Bd hd X=hd.any (· ==X):=by unfold fd2;rw[hb];rfl
            cases hb2:hd.any (· ==X)with
            | true=>
              rw[hb2]at q82 e;simp[rW,h2,h3,h4,h10,h58,h59,h60,g0,g1,gM,hn,zco,hx,hX,hk,hw,e,q82]
            | false=>
              rw[hb2]at q82 e;simp[rW,h2,h3,h4,h10,h58,h59,h60,g0,g1,gM,hn,zco,hx,hX,hk,hw,e,q82];exact⟨by simp[rW,h2,h3,h4,h10,g0,g1,gM],hM2,by simp[rW,];omega⟩
        . rintro s' ⟨⟨⟨h2,h3,h4,h10,g0,g1,gM⟩,hM2,hMc⟩,⟨h58,h59,h60⟩⟩;simp[rW,h2,h3,h4,h10,h58,h59,h60,g0,g1,gM]
        . refine⟨⟨?_,hM2,?_⟩,?_⟩
          . simp[rW,h2,h3,h4,h10,g0,g1,gM]
          . simp[rW,];omega
          . simp[rW,]
        . rintro h z s' rfl;have e1:(Vc.all fun x=>Bd.any (· ==x)|| !(hd.any (· ==x)))=true:=Z51.2 fun x hx=>by
            have:=h x hx;unfold fd2 at this;cases h1:Bd.any (· ==x)<;>cases h2:hd.any (· ==x)<;>simp_all
          rw[e1];simp[rW,]
        . rintro n hn hp hm z s' ⟨rfl,h6⟩;have e1:(Vc.all fun x=>Bd.any (· ==x)|| !(hd.any (· ==x)))=false:=Z144.2 ⟨Vc[n],Z2 hn,by
            unfold fd2 at hp;cases h1:Bd.any (· ==Vc[n])<;>cases h2:hd.any (· ==Vc[n])<;>simp_all⟩
          rw[e1];simp[rW,h6]
      . rintro n hn hp hm z s' ⟨rfl,h6⟩;have e1:(Vd.all fun x=>Bd.any (· ==x))=false:=Z144.2 ⟨Vd[n],Z2 hn,by unfold fd1 at hp;cases h1:Bd.any (· ==Vd[n])<;>simp_all⟩;rw[e1,Z177];simp[rW,h6]
def fn26:pr.fn 26=some g26:=by kernel_rfl
def zl2(hd:List Str)(c:CQ)(i:Nat):CQ:=if cov (zd2 c i false) c hd=true/\exR hd c (zd2 c i false)=true then zd2 c i false else c
def zhJ(hd:List Str):Nat->CQ->CQ
 |0,c=>c
 |k+1,c=>zhJ hd k (zl2 hd c k)
def cop(c:CQ):CQ:=⟨c.as,c.cs,c.ne,false⟩
def zum{c:CQ}(hc:CqSm c):CqSm (cop c):=⟨⟨hc.as,hc.cs,hc.la,hc.lc⟩,hc.sa,hc.st,hc.sc,hc.s2⟩
def CP(hd:List Str)(R:CQ)(k:Nat)(s:St):Prop:=∃(c:CQ) (z:Int),(z=(k:Int) - 1/\k<=c.as.length/\CqSm c)/\(s.tm.get 1=some (.f (zaM hd))/\s.tm.get 2=some (.ptr 0 2 0 0)/\s.tm.get 4=some (.ptr 1 2 0 0)/\s.tm.get 5=some (.f (.i .i64 z))/\s.h.get 0=some (.arr 2 0 [[.f (zaS c),.f (zaQ c)]])/\s.h.get 1=some (.arr 2 0 [[.f .nils,.f .nils]]))/\2<=s.c/\zhJ hd k c=R
def ans26(c:CQ)(hd:List Str)(hc:CqSm c)(hh:hd.length<1000):Ans pr 26 [.ag (cqF c),zaM hd] (.ag (cqF (zhJ hd c.as.length (cop c)))):=by
 refine zb6 fn26 ?_;simp only[g26,rU];have q45:=fun k=>zav (k:=k) (ans46 c hc)
 have hcl:c.as.length=(cop c).as.length:=rfl;have hsm:=zum hc;change ∀k,aB pr 46 [.ag (cqF c)] k↔k (.ag (cqF (cop c)))at q45
 rw[hcl];generalize cop c=c at q45 hsm|-;clear hcl;obtain⟨z0,hz0⟩ :∃z0:Int,z0=(c.as.length:Int) - 1:=⟨_,rfl⟩
 have hw0:IntKind.i64.wrap ((c.as.length:Int) - 1)=z0:=by rw[hz0];exact IntWalk.i64_in _ (by have:=hsm.sa;omega)
 simp only[cqE]at q45;simp[rW,st0,zah,cqE,zbO,zbQ,zcb,zeu,q45,hw0];refine zcN (CP hd (zhJ hd c.as.length c)) (fun x s=>x= .exit 0/\(s.tm.get 2=some (.ptr 0 2 0 0)/\s.tm.get 4=some (.ptr 1 2 0 0)/\s.h.get 0=some (.arr 2 0 [[.f (zaS (zhJ hd c.as.length c)),.f (zaQ (zhJ hd c.as.length c))]])/\s.h.get 1=some (.arr 2 0 [[.f .nils,.f .nils]]))/\2<=s.c) ?_ c.as.length _ ?_ ?_
 .generalize zhJ hd c.as.length c=R;clear hw0 hz0 hsm q45;rintro k s ⟨c,z,⟨hz,hk,hc⟩,⟨h1,h2,h4,h5,g0,g1⟩,hc2,hR⟩;cases k with
  |zero=>
   have hz0:¬(0<=z):=by omega
   simp[rW,h1,h2,h4,h5,g0,g1,hz0];subst hR;exact⟨⟨rfl,rfl⟩,hc2⟩
  |succ j=>
   have hz1:z=(j:Int):=by omega
   subst hz1;have hne:c.as≠[]:=fun e=>by rw[e]at hk;simp at hk
   obtain⟨z2,hz2⟩ :∃z2:Int,z2=(j:Int) - 1:=⟨_,rfl⟩
   have hw:IntKind.i64.wrap ((j:Int) - 1)=z2:=by rw[hz2];exact IntWalk.i64_in _ (by have:=hc.sa;omega)
   have hw1:=zao j (by have:=hc.sa;omega);have hs:=zup hc j false;have q47:=fun k=>zav (k:=k) (ans48 c (zd2 c j false) hd hc hs hh)
   have q43:=fun k=>zav (k:=k) (zHP c (zd2 c j false) hd hc hs hh)
   have q46:=fun k=>zav (k:=k) (ans47 (c.as.take j) (c.as.drop (j+1)) (by have:=hc.sa;simp;omega) (by have:=hc.sa;simp;omega))
   have eA:slc 3 ((c.as.take j++c.as.drop (j+1)).map atF)=zaS (zd2 c j false):=by unfold zaS Sm.asF;rw[Z50 (by simp[zd2])];rfl
   have eC:zaQ (zd2 c j false)=zaQ c:=rfl;rw[eA]at q46;have hR':zhJ hd j (zl2 hd c j)=R:=hR;unfold zl2 at hR';have s1:=fun h=>zP6 hne (i:=j) (by omega) h
   have s2:=fun h=>zP7 hne (i:=j+1) (by omega) h
   push_cast at s2 hw1
   generalize c.as.take j=P at s1 q46;generalize c.as.drop (j+1)=S at s2 q46;generalize hD:zd2 c j false=d at q46 q47 q43 hs hR' eC;have hld:j<=d.as.length:=by rw[<-hD];simp[zd2];omega
   simp only[cqE]at q43 q47;rw[eC]at q43 q47;have n0:¬(0=s.c):=by omega
   have n1:¬(1=s.c):=by omega
   have n0':¬(s.c=0):=by omega
   have n1':¬(s.c=1):=by omega
   simp[rW,h1,h2,h4,h5,g0,g1];refine zaF ?_;have m4:¬(s.c+1+1+1+1=s.c):=by omega
   have m0:¬(0=s.c+1+1+1+1+1+1+1+1+1+1+1+1+1+1+1):=by omega
   have m1:¬(1=s.c+1+1+1+1+1+1+1+1+1+1+1+1+1+1+1):=by omega
   have m0x:¬(s.c+1+1+1+1+1+1+1+1+1+1+1+1+1+1+1=0):=by omega
   have m1x:¬(s.c+1+1+1+1+1+1+1+1+1+1+1+1+1+1+1=1):=by omega
   cases hcv:cov d c hd with
   |false=>
    rw[hcv]at q47 hR';simp only[Z53,false_and,Z64]at hR';simp[rW,h1,h2,h4,h5,g0,g1,s1,s2,hw1,q46,q47,q43,zbO,zbQ,zfx,ze8,zcb,eC,m4,m0,m1,m0x,m1x,n0,n1,n0',n1'];rw[zcc];refine⟨j,by omega,c,z2,⟨hz2,by omega,hc⟩,?_,?_,hR'⟩
    .simp[rW,h1,h2,h4,h5,g0,g1,hw,m0,m1,m0x,m1x,n0,n1,n0',n1']
    .simp[rW,]
   |true=>
    rw[hcv]at q47 hR';cases hm:exR hd c d with
    |false=>
     rw[hm]at q43 hR';simp at hR';simp[rW,h1,h2,h4,h5,g0,g1,s1,s2,hw1,q46,q47,q43,zbO,zbQ,zfx,ze8,zcb,eC,m4,m0,m1,m0x,m1x,n0,n1,n0',n1'];rw[zcc];refine⟨j,by omega,c,z2,⟨hz2,by omega,hc⟩,?_,?_,hR'⟩
     .simp[rW,h1,h2,h4,h5,g0,g1,hw,m0,m1,m0x,m1x,n0,n1,n0',n1']
     .simp[rW,]
    |true=>
     rw[hm]at q43 hR';simp at hR';simp[rW,h1,h2,h4,h5,g0,g1,s1,s2,hw1,q46,q47,q43,zbO,zbQ,zfx,ze8,zcb,eC,m4,m0,m1,m0x,m1x,n0,n1,n0',n1'];rw[zcc];refine⟨j,by omega,d,z2,⟨hz2,by omega,hs⟩,?_,?_,hR'⟩
     .simp[rW,h1,h2,h4,h5,g0,g1,hw,m0,m1,m0x,m1x,n0,n1,n0',n1',eC]
     .simp[rW,]
 .simp[rW,CP];exact⟨c,z0,⟨hz0,Z3 _,hsm⟩,⟨rfl,rfl,rfl⟩,rfl⟩
 .rintro x s ⟨rfl,⟨h2,h4,g0,g1⟩,hc2⟩;simp[rW,h2,h4,g0,g1,zbO,zbQ,ze8];omega
def fn50:pr.fn 50=some g50:=by kernel_rfl
structure CqG(c:CQ):Prop extends CqSm c where
 tn:∀a∈c.as,a.ts≠[]
def fD(l:List (List F)):List (List D):=l.map fun a=>a.map D.f
theorem zBZ{n es byt:Nat}{z:List F}(hf:pr.fn n=some (gCl es byt z))(hb:byt<=1000){X:F}{rows:List (List F)}(hX:X= .sl es rows\/X= .nils/\rows=[])(hl:rows.length<=1000000){h:T Ob}{c:Nat}:
  Eff pr n [.f X] h c fun d h' c'=>Frm h h' c/\((X= .nils/\rows=[]/\d= .f .nils)\/(X= .sl es rows/\∃id ex,d= .sl id 0 rows.length es rows.length ex/\(rows≠[]->ex=false)/\h'.get id=some (.arr es 0 (fD rows))/\c<=id/\id<c')):=by
 refine zcG za0 hf ?_;unfold gCl;simp only[rU];rcases hX with rfl|⟨rfl,rfl⟩
 .have hm:rows.length*byt<=1000000*1000:=Z145 hl hb;have m1:(rows.length<=zak)=True:=za2 (by omega);have m2:(rows.length*byt<=zak)=True:=za2 (by omega)
  by_cases h0:rows=[]
  .subst h0;simp[rW,st0,zah,zqG,zcp];refine⟨fun x hx=> ?_,rfl⟩;have:¬x=c:=by omega
   simp[TG,this]
  .simp[rW,st0,zah,zqG,h0,m1,m2,zcp];refine⟨fun x hx=> ?_,rfl⟩;have h1:¬x=c:=by omega
   have h2:¬x=c+1:=by omega
   simp[TG,h1,h2]
 .simp[rW,st0,zah,zDE,zcp];exact fun _ _=>rfl
def CsD(h:T Ob)(lo c:Nat)(d:D)(q:CQ):Prop:=(d= .f .nils/\q.cs=[]/\q.ne=false)\/∃Y tail ex,d= .sl Y 0 q.cs.length 9 (q.cs.length+tail.length) ex/\h.get Y=some (.arr 9 0 (q.cs.map cmD++tail))/\(q.cs=[]->q.ne=true)/\(q.cs≠[]->ex=false)/\lo<=Y/\Y<c/\(∀x∈tail,x.length=9)/\q.cs.length+tail.length<=10000
def zQ7(l:List Trm)(hl:l.length<=1000000)(hn:l≠[]){h:T Ob}{c:Nat}:Eff pr 63 [.f (zdD l)] h c fun d h' c'=>Frm h h' c/\∃x,d= .sl x 0 l.length 4 l.length false/\h'.get x=some (.arr 4 0 (zaH l))/\c<=x/\x<c':=by
 have hne:l.map (fun t=>tmF t)≠[]:=by simpa using hn
 obtain⟨q,h1,⟨h2,h3⟩,h4,h5⟩ :=zBZ (z:=[.s [],.i .i64 0,.i .i64 0,.s []]) (byt:=48) fn63 (by omega) (zjX 4 (l.map tmF)) (by simpa using hl) (h:=h) (c:=c);refine⟨q,h1,⟨h2,?_⟩,h4,h5⟩;rcases h3 with⟨-,e,-⟩ |⟨-,id,ex,e1,e2,e3,e4,e5⟩
 .exact absurd e hne
 .rw[e2 hne]at e1;rw[Z19]at e1;exact⟨id,e1,e3,e4,e5⟩
def CsE(h:T Ob)(lo c:Nat)(d:D)(q:CQ):Prop:=(d= .f .nils/\q.cs=[]/\q.ne=false)\/∃Y ex,d= .sl Y 0 q.cs.length 9 q.cs.length ex/\h.get Y=some (.arr 9 0 (q.cs.map cmD))/\(q.cs=[]->q.ne=true)/\(q.cs≠[]->ex=false)/\lo<=Y/\Y<c/\q.cs.length<=10000
def zgt{h:T Ob}{lo c:Nat}{d:D}{q:CQ}(H:CsE h lo c d q):CsD h lo c d q:=by
 rcases H with H|⟨Y,ex,h1,h2,h3,h4,h5,h6,h7⟩
 .exact .inl H
 .exact .inr ⟨Y,[],ex,by simpa using h1,by simpa using h2,h3,h4,h5,h6,by simp,h7⟩
def zij{h h':T Ob}{lo lo' c c':Nat}{d:D}{q:CQ}(H:CsE h lo c d q)(hh:∀x,lo<=x->x<c->h'.get x=h.get x)(hl:lo'<=lo)(hc:c<=c'):CsE h' lo' c' d q:=by
 rcases H with H|⟨Y,ex,rfl,hY,h3,h4,h1,h2,h5⟩
 .exact .inl H
 .exact .inr ⟨Y,ex,rfl,by rw[hh Y h1 h2];exact hY,h3,h4,by omega,by omega,h5⟩
def zQ6(q:CQ)(hl:q.cs.length<=10000){h:T Ob}{c:Nat}:Eff pr 62 [.f (zaQ q)] h c fun d h' c'=>Frm h h' c/\CsE h' c c' d q:=by
 obtain⟨r,h1,⟨h2,h3⟩,h4,h5⟩ :=zBZ (rows:=q.cs.map cmF) (X:=zaQ q) (z:=[.i .i64 0,.s [],.i .i64 0,.i .i64 0,.s [],.s [],.i .i64 0,.i .i64 0,.s []]) (byt:=104) fn62 (by omega) (by
  unfold zaQ csF;split
  .rename_i hh;rw[hh.2];exact .inl rfl
  .exact zjX 9 _) (by simp;omega) (h:=h) (c:=c)
 refine⟨r,h1,⟨h2,?_⟩,h4,h5⟩;have hfd:fD (q.cs.map cmF)=q.cs.map cmD:=by
  unfold fD;rw[Z34];exact Z69 fun k _=>zyU k
 rcases h3 with⟨e1,e2,e3⟩ |⟨e0,id,ex,e1,e2,e3,e4,e5⟩
 .have hc:q.cs=[]:=by simpa using e2
  refine .inl ⟨e3,hc,?_⟩;unfold zaQ csF at e1;rw[hc]at e1;cases hne:q.ne with
  |false=>rfl
  |true=>rw[hne]at e1;simp at e1
 .refine .inr ⟨id,ex,?_,?_,fun hc=> ?_,fun hc=>e2 (by simpa using hc),e4,e5,by simpa using hl⟩
  .rw[e1];simp
  .rw[e3,hfd]
  .unfold zaQ csF at e0;rw[hc]at e0;cases hne:q.ne with
   |true=>rfl
   |false=>rw[hne]at e0;simp[slc]at e0
def atR(a:Atm)(x:Nat):List D:=[.f (.s a.r),.f (.b a.neg),.sl x 0 a.ts.length 4 a.ts.length false]
structure AsD(h:T Ob)(lo c:Nat)(d:D)(l:List Atm)(xs:List Nat):Prop where
 ln:xs.length=l.length
 nd:xs.Nodup
 rg:∀x∈xs,lo<=x/\x<c
 rw:∀k (hk:k<l.length) (hx:k<xs.length),h.get xs[k]=some (.arr 4 0 (zaH l[k].ts))
 gr:Gro h lo c 3 d (List.zipWith atR l xs)
 oi:∀B,d.oid=some B->B∉xs
def AsD.up{h h':T Ob}{lo lo' c c':Nat}{d:D}{l:List Atm}{xs:List Nat}(H:AsD h lo c d l xs)(hh:∀x,lo<=x->x<c->h'.get x=h.get x)(hl:lo'<=lo)(hc:c<=c'):AsD h' lo' c' d l xs:=by
 refine⟨H.ln,H.nd,fun x hx=>by have:=H.rg x hx;omega,fun k hk hx=> ?_,?_,H.oi⟩
 .have:=H.rg _ (Z2 hx);rw[hh _ this.1 this.2];exact H.rw k hk hx
 .rcases H.gr with h1|⟨id,ro,h1,h2,h3,h4,h5,h6⟩
  .exact .inl h1
  .exact .inr ⟨id,ro,h1,h2,by rw[hh id h5 h6];exact h3,h4,by omega,by omega⟩
def MQ(h:T Ob)(lo c:Nat)(dA dC:D)(q:CQ):Prop:=∃xs,AsD h lo c dA q.as xs/\CsD h lo c dC q/\∀Y,dC.oid=some Y->Y∉xs/\dA.oid≠some Y
def XK1(h0:T Ob)(q:CQ)(c0 n:Nat)(s:St):Prop:=∃(P:Nat) (B dC:D) (xs:List Nat),(s.tm.get 2=some (.ptr (c0+1) 2 0 0)/\s.tm.get 3=some (.ptr P 2 0 0)/\s.tm.get 11=some (.f (zaS q))/\s.tm.get 12=some (.f (.i .i64 q.as.length))/\s.tm.get 13=some (.f (.i .i64 n)))/\s.h.get (c0+1)=some (.arr 2 0 [[.f .nils,.f .nils]])/\s.h.get P=some (.arr 2 0 [[B,dC]])/\CsE s.h (c0+2) P dC (cop q)/\AsD s.h (P+1) s.c B (q.as.take n) xs/\P<s.c/\c0+2<=P/\Frm h0 s.h c0
def zii{h:T Ob}{lo c:Nat}{d:D}{q:CQ}(H:CsD h lo c d q):d.cells=some [d]:=by
 rcases H with⟨rfl,-⟩ |⟨Y,tail,ex,rfl,-⟩ <;>rfl
def zwU{h:T Ob}{lo c:Nat}{d:D}{q:CQ}(H:CsD h lo c d q){x:Nat}(hx:d.oid=some x):lo<=x/\x<c:=by
 rcases H with⟨rfl,-⟩ |⟨Y,tail,ex,rfl,-,-,-,h1,h2,-⟩
 .simp[D.oid]at hx
 .simp[D.oid]at hx;omega
def MQ.nil{h:T Ob}{lo c:Nat}{q:CQ}(h1:q.as=[])(h2:q.cs=[])(h3:q.ne=false):MQ h lo c (.f .nils) (.f .nils) q:=
 ⟨[],⟨by simp[h1],by simp,by simp,fun k hk=>by simp[h1]at hk,.inl ⟨rfl,by simp⟩,by simp[D.oid]⟩,.inl ⟨rfl,h2,h3⟩,by simp[D.oid]⟩
def zwG{h:T Ob}{lo c:Nat}{d:D}{l:List Atm}{xs:List Nat}(H:AsD h lo c d l xs)(hd:d.isF=true):d= .f .nils/\l=[]:=by
 rcases H.gr with⟨h1,h2⟩ |⟨id,ro,h1,-⟩
 .refine⟨h1,Z18.1 ?_⟩;have e:(List.zipWith atR l xs).length=0:=by rw[h2];rfl
  rw[Z85,H.ln,Z122]at e;exact e
 .rw[h1]at hd;cases hd
def znr{h:T Ob}{lo c:Nat}{d:D}{q:CQ}(H:CsD h lo c d q)(hd:d.isF=true):d= .f .nils/\q.cs=[]/\q.ne=false:=by
 rcases H with⟨h1,h2,h3⟩ |⟨Y,tail,ex,h1,-⟩
 .exact⟨h1,h2,h3⟩
 .rw[h1]at hd;cases hd
def zQ5(q:CQ)(hq:CqG q){h:T Ob}{c0:Nat}:Eff pr 50 [.ag [.f (zaS q),.f (zaQ q)]] h c0 fun d h' c'=>Frm h h' c0/\∃dA dC,d= .ag [dA,dC]/\MQ h' c0 c' dA dC (cop q)/\CsE h' c0 c' dC (cop q):=by
 refine zcG za0 fn50 ?_;simp only[g50,rU];simp[rW,st0,zah,zbO,zbQ];refine zer rfl rfl (zQ6 q (by have:=hq.sc;omega)) ?_;rintro dC h' c' lw mx ⟨hf,hO⟩ hcc;simp only[rG]at hf hO hcc;have e0:=hf c0 (by omega);have e1:=hf (c0+1) (by omega);have n01:¬(c0=c0+1):=by omega
 simp[TG,n01]at e0 e1;have hcd:=zii (zgt hO);have n0:¬(c0=c'):=by omega
 have n1:¬(c0+1=c'):=by omega
 have hfr:Frm h h' c0:=fun x hx=>by
  rw[hf x (by omega)];have a1:¬x=c0:=by omega
  have a2:¬x=c0+1:=by omega
  simp[TG,a1,a2]
 simp[rW,e0,e1,hcd,n0,n1,zeu];refine zdo q.as.length (XK1 h q c0) (fun x s=>x= .exit 0/\XK1 h q c0 q.as.length s) ?_ ?_ _ ?_ ?_
 .rintro n s hn ⟨P,B,dC,xs,⟨h2,h3,h11,h12,h13⟩,gz,gP,hC,hA,hPc,hP2,hF⟩;have hw:=zao n (by have:=hq.sa;omega);have hx:q.as[n]? =some q.as[n]:=Z0 hn;have hst:=hq.st _ (Z2 hn);have htn:=hq.tn _ (Z2 hn);have htk:=Z7 hn;generalize hAn:q.as[n]=A at hx hst htk htn;simp[rW,h2,h3,h11,h12,h13,gz,gP,hn,zeK,hx,hAn,atE,zib];refine zer rfl rfl (zQ7 A.ts (by omega) htn) ?_;rintro d H2 c2 lw2 mx2 ⟨hf2,X,rfl,gX,hX1,hX2⟩ hcc2;simp only[rG]at hf2 hcc2 hX1 hX2;have eP:=hf2 P (by omega);have eQ:=hf2 s.c (by omega);have e1:=hf2 (c0+1) (by omega);have nP:¬(P=s.c):=by omega
  have nP':¬(s.c=P):=by omega
  have n1:¬(c0+1=s.c):=by omega
  have np1:¬(c0+1=P):=by omega
  simp[TG,nP,n1,gP,gz]at eP eQ e1;have hlow:∀j,j<s.c->H2.get j=s.h.get j:=fun j hj=>by
   have:=hf2 j (by omega);have nj:¬j=s.c:=by omega
   simpa [TG,nj]using this
  have hrl:(List.zipWith atR (q.as.take n) xs).length<=12:=by
   have:=hq.sa;simp;omega
  have nP2:¬(P=c2):=by omega
  have n1c:¬(c0+1=c2):=by omega
  simp[rW,h2,h3,h11,h12,h13,eP,eQ,e1,nP,nP',nP2,n1c,zib,zta];refine⟨by omega,?_⟩;have hB2:∀x,B.oid=some x->P+1<=x/\x<s.c:=fun x hx=>zdw hA.gr hx
  refine zfm (zbh (c':=c2+1) hA.gr (by omega) fun x h1 h2=> ?_) (by omega) (by simp only[Z24,Z171];omega) (by omega) ?_
  .have nx:¬(x=s.c):=by omega
   have nx2:¬(x=c2):=by omega
   simp[TG,nx,nx2];exact hlow x h2
  intro r hr1 hr2 hr3 hr4 hr5;have hPr:=hr4 P (by omega) (zbi hA.gr (by omega));have h1r:=hr4 (c0+1) (by omega) (zbi hA.gr (by omega));simp[TG,nP,n1,nP2,n1c,eP,e1]at hPr h1r;have hr6:∀x,x<c2->x≠s.c->B.oid≠some x->(wrT _ r.wr).get x=H2.get x:=fun x h1 h2 h3=>by
   have nx2:¬(x=c2):=by omega
   rw[hr4 x (by omega) h3];simp[TG,h2,nx2]
  refine⟨hr1,?_⟩;simp[rW,hPr,zbj hr2,nP2,n1c];refine⟨by omega,?_⟩;have hlnx:(q.as.take n).length=xs.length:=hA.ln.symm;have hnl:xs.length=n:=by rw[hA.ln];simp;omega
  refine⟨P,r.d,dC,xs++[X],?_,?_,?_,?_,?_,?_,hP2,?_⟩
  .simp[rW,h2,h3,h11,h12,h13,hw]
  .simp[rW,h1r,np1]
  .simp[rW,hPr]
  .refine zij hC (fun x h1 h2=> ?_) (Z3 _) (Z3 _);have nx:¬(x=P):=by omega
   simp[rW,nx];rw[hr6 x (by omega) (by omega) (zbi hA.gr (by omega)),hlow x (by omega)]
  .rw[htk];refine⟨by simp;omega,?_,fun x hx=> ?_,fun k hk hkx=> ?_,?_,fun Bx hBx hm=> ?_⟩
   .refine Z91.2 ⟨hA.nd,by simp,fun x hx y hy=> ?_⟩;have h1:=hA.rg x hx;have h2:y=X:=by simpa using hy
    omega
   .simp[rW,];rcases Z5.1 hx with hx|hx
    .have:=hA.rg x hx;omega
    .have:x=X:=by simpa using hx
     omega
   .by_cases hkn:k<n
    .have hk1:k< (q.as.take n).length:=by simp;omega
     have hk2:k<xs.length:=by omega
     have h1:=hA.rg _ (Z2 hk2);have h2:=hA.rw k hk1 hk2;rw[Z60 hk1,Z60 hk2];have nx:¬(xs[k]=P):=by omega
     simp[rW,nx];rw[hr6 _ (by omega) (by omega) (fun e=>hA.oi _ e (Z2 hk2)),hlow _ (by omega)];simpa [Z158]using h2
    .have hk3:k=n:=by simp at hk;omega
     subst hk3;have g1:(q.as.take k++[A])[k]=A:=by rw[Z59 (by simp;omega)];simp
     have g2:(xs++[X])[k]=X:=by rw[Z59 (by omega)];simp
     rw[g1,g2];have nx:¬(X=P):=by omega
     simp[rW,nx];rw[hr6 _ (by omega) (by omega) (fun e=>by have:=hB2 _ e;omega)];exact gX
   .have e:List.zipWith atR (q.as.take n++[A]) (xs++[X])=List.zipWith atR (q.as.take n) xs++[[.f (.s A.r),.f (.b A.neg),.sl X 0 A.ts.length 4 A.ts.length false]]:=by
     rw[List.zipWith_append hlnx];rfl
    rw[e];refine zbh hr2 (by simp[rW,]) fun x h1 h2=> ?_
    have nx:¬(x=P):=by omega
    simp[rW,nx]
   .rcases hr5 Bx hBx with h1|h1
    .rcases Z5.1 hm with hm|hm
     .have:=hA.rg Bx hm;omega
     .have:Bx=X:=by simpa using hm
      omega
    .rcases Z5.1 hm with hm|hm
     .exact hA.oi Bx h1 hm
     .have:=hB2 Bx h1;have:Bx=X:=by simpa using hm
      omega
  .simp[rW,];omega
  .intro x hx;have nx:¬(x=P):=by omega
   simp[rW,nx];rw[hr6 x (by omega) (by omega) (zbi hA.gr (by omega)),hlow x (by omega)];exact hF x hx
 .rintro s ⟨P,B,dC,xs,⟨h2,h3,h11,h12,h13⟩,gz,gP,hC,hA,hPc,hP2,hF⟩;simp[rW,h2,h3,h11,h12,h13];refine⟨P,B,dC,xs,?_,gz,gP,hC,hA,hPc,hP2,hF⟩;simp[rW,h2,h3,h11,h12,h13]
 .refine⟨c',.f .nils,dC,[],?_,?_,?_,?_,?_,?_,by omega,?_⟩
  .simp[rW,]
  .simp[rW,e1,n1]
  .simp[rW,]
  .refine zij hO (fun x h1 h2=> ?_) (by omega) (Z3 _);have nx:¬(x=c'):=by omega
   simp[rW,nx]
  .exact⟨by simp,by simp,by simp,by simp,.inl ⟨rfl,by simp⟩,by simp[D.oid]⟩
  .simp[rW,]
  .intro x hx;have nx:¬(x=c'):=by omega
   simp[rW,nx];exact hfr x hx
 .rintro x s ⟨rfl,P,B,dC,xs,⟨h2,h3,h11,h12,h13⟩,gz,gP,hC,hA,hPc,hP2,hF⟩;rw[Z8]at hA;have nP1:¬(P=c0+1):=by omega
  simp[rW,h2,h3,h11,h12,h13,gz,gP,nP1,zbj hA.gr,zii (zgt hC),zcp];have hupd:∀x,x≠c0+1->(s.h.set (c0+1) (.arr 2 0 [[B,dC]])).get x=s.h.get x:=fun x hx=>by simp[TG,hx]
  refine⟨by omega,⟨fun x hx=> ?_,B,dC,⟨rfl,rfl⟩,⟨xs,?_,?_,fun Y hY=> ?_⟩,?_⟩,fun _ hb hc'=>⟨fun _ _=>rfl,_,_,⟨(zwG hA hb).1,(znr (zgt hC) hc').1⟩,⟨MQ.nil (zwG hA hb).2 (znr (zgt hC) hc').2.1 (znr (zgt hC) hc').2.2,.inl ⟨rfl,(znr (zgt hC) hc').2⟩⟩⟩⟩
  .rw[hupd x (by omega)];exact hF x hx
  .exact hA.up (fun x h1 h2=>hupd x (by omega)) (by omega) (Z3 _)
  .exact zgt (zij hC (fun x h1 h2=>hupd x (by omega)) (by omega) (by omega))
  .have h1:=zwU (zgt hC) hY;exact⟨fun hm=>by have:=hA.rg Y hm;omega,fun e=>by have:=zdw hA.gr e;omega⟩
  .exact zij hC (fun x h1 h2=>hupd x (by omega)) (by omega) (by omega)
end Go.Proofs.YtflgmemhalhdbaaGreatDoor
end
