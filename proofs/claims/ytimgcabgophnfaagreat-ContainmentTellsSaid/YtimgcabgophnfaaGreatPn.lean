/- The program's slices.Grow, slices.Concat. -/
import Derived.Test.YtimgcabgophnfaaGreatPm
import Derived.KernelRfl
import Derived.IntWalk
set_option linter.all false
section
namespace Go.Proofs.YtimgcabgophnfaaGreat
open Go Go.Vse Go.Vse.Sm
set_option maxRecDepth 100000
set_option maxHeartbeats 1000000
set_option linter.all false
theorem fn46:pr.fn 46=some g46:=by kernel_rfl
theorem fn52:pr.fn 52=some g52:=by kernel_rfl
theorem fn81:pr.fn 81=some g81:=by kernel_rfl
theorem fn85:pr.fn 85=some g85:=by kernel_rfl
theorem zEb(f:Go.Vse.A->Option D)(x:Go.Vse.A):O.res f (.cap x)=(f x).bind fun x=>some (.cap x):=rfl
theorem zKH{pr:Pr}{s:St}{Q:St->Prop}{dst:Option Nat}{l:List Go.Vse.Op}{x:Go.Vse.A}:wpO pr (⟨dst,none,.cap x⟩ ::l) s Q↔oB (((O.cap x).res (zad s.tm)).bind (opv s.h.get s.c)) fun r=>zat r.c r.wr=true/\wpO pr l (s.aft dst r.d r.wr r.c) Q:=zd6 rfl
theorem zEW(h:Nat->Option Ob)(c:Nat):opv h c (.cap (.f .nils))=some {d:= .f (.i .i64 0),c}:=rfl
theorem zQC(f:Go.Vse.A->Option D)(es byt:Nat)(z:List F)(x n:Go.Vse.A):O.res f (.apz es byt z x n)=(f x).bind fun x=>(f n).bind fun n=>some (.apz es byt z x n):=rfl
theorem o_apz{pr:Pr}{s:St}{Q:St->Prop}{dst:Option Nat}{l:List Go.Vse.Op}{es byt:Nat}{z:List F}{x n:Go.Vse.A}:wpO pr (⟨dst,none,.apz es byt z x n⟩ ::l) s Q↔oB (((O.apz es byt z x n).res (zad s.tm)).bind (opv s.h.get s.c)) fun r=>zat r.c r.wr=true/\wpO pr l (s.aft dst r.d r.wr r.c) Q:=zd6 rfl
theorem v_apz(h:Nat->Option Ob)(c:Nat){es byt k:Nat}(z:List F)(hk:0<k)(h1:k≤1000000)(hb:byt≤1000):opv h c (.apz es byt z (.f .nils) (.f (.i .i64 (k:Int))))=some {d:= .sl c 0 k es k false,wr:=[(c,some (.arr es 0 (List.replicate k (z.map D.f))))],c:=c+1}:=by
 have hm:k*byt≤1000000*1000:=Nat.mul_le_mul h1 hb;have m1:(k≤zaj)=True:=zaR (by omega);have m2:(k*byt≤zaj)=True:=zaR (by omega);have m3:¬k=0:=by omega
 simp[opv,zbz,m1,m2,zrR,m3]
def Room(h:T Ob)(lo c es:Nat)(z:List F)(k:Nat)(acc:List (List D))(d:D):Prop:=(k=0/\acc=[]/\d= .f .nils)\/(0<k/\acc.length≤k/\∃X,d= .sl X 0 acc.length es k false/\h.get X=some (.arr es 0 (acc++List.replicate (k - acc.length) (z.map D.f)))/\lo≤X/\X<c)
def gGr(es byt:Nat)(z:List F):Go.Vse.Fn:=⟨27,[.t 4],oZ [oR 4 (.mv (.k .nils))]
 (.seq (oD [oM 5 1,oR 6 (.bin .lss (.t 5) (.k (.i .i64 0)))] 6 (.reg [oR 7 (.pick (.k (.un)) (.k (.un)) (.k (.un))),oN (.pick (.k (.un)) (.k (.un)) (.k (.un)))]) .skip)
 (.seq (oZ [oM 8 1,oM 9 0,oR 10 (.cap (.t 9)),oM 11 0,oR 12 (.len (.t 11)),oR 13 (.bin .sub (.t 10) (.t 12)),oR 14 (.bin .sub (.t 8) (.t 13)),oM 1 14]
 (oD [oM 15 1,oR 16 (.bin .gtr (.t 15) (.k (.i .i64 0)))] 16 (.reg [oM 17 0,oM 18 0,oR 19 (.cap (.t 18)),oR 20 (.slc es (.t 17) none (some (.t 19)) none),oM 21 1,oR 22 (.apz es byt z (.t 20) (.t 21)),oM 23 0,oR 24 (.len (.t 23)),oR 25 (.slc es (.t 22) none (some (.t 24)) none),oM 0 25]) .skip))
 (oZ [oM 26 0,oM 4 26] .ret)))⟩
theorem effGr{n es byt:Nat}{z:List F}(hf:pr.fn n=some (gGr es byt z))(hb:byt≤1000){k:Nat}(hk:k≤1000000){h:T Ob}{c:Nat}:
  Eff pr n [.f .nils,.f (.i .i64 (k:Int))] h c fun d h' c'=>Frm h h' c/\Room h' c c' es z k [] d:=by
 refine zdA zbB hf ?_;unfold gGr;simp only[rU];have hw0:IntKind.i64.wrap 0=0:=rfl;have hw:IntKind.i64.wrap (k:Int)=(k:Int):=IntWalk.i64_in _ (by omega);have hn:¬((k:Int)<0):=by omega
 by_cases h0:k=0
 ·subst h0;simp[rW,st0,zae,zKH,zEb,zEW,hw0,zct];exact⟨fun _ _=>rfl,.inl ⟨rfl,rfl,rfl⟩⟩
 ·have hp:0<k:=by omega
  have hp2:(0:Int)<k:=by omega
  have va:=fun h c=>v_apz h c (es:=es) z hp hk hb
  have hs:∀(h':Nat->Option Ob) (els:List (List D)),h' c=some (.arr es 0 els)->sliceB es h' (.sl c 0 k es k false) none (some (.f (.i .i64 0))) none=some (.sl c 0 0 es k false,[c]):=by
   intro h' els e;simp[sliceB,e,za9,zbz]
  have hs2:=hs (h.set c (.arr es 0 (List.replicate k (z.map D.f)))).get _ (by simp[Vse.T.zab];rfl);simp[rW,st0,zae,zKH,zEb,zEW,hw0,hw,hn,hp,hp2,o_apz,zQC,va,hs2,zct];refine⟨fun x hx=> ?_,.inr ⟨hp,Nat.zero_le _,c,rfl,?_,Nat.le_refl _,by omega⟩⟩
  ·have:¬x=c:=by omega
   simp[Vse.T.zab,this]
  ·simp[Vse.T.zab]
theorem zNd{h:T Ob}{lo c es byt k:Nat}{z:List F}{acc new:List (List D)}{d:D}{rd:List Nat}{K:Rs->Prop}(hg:Room h lo c es z k acc d)(hle:acc.length+new.length≤k)
  (hz:∀l,hd8 (z.map D.f::l)=false)(ha:∀r∈acc,∀l,hd8 (r::l)=false)
  (hK:∀r:Rs,zat r.c r.wr=true->Room (wrT h r.wr) lo r.c es z k (acc++new) r.d->c≤r.c->K r):oB (zbU es byt h.get c d new rd) K:=by
 rcases hg with⟨rfl,rfl,rfl⟩ |⟨hk,hl,X,rfl,hX,hlo,hc⟩
 ·have:new=[]:=by simpa using hle
  subst this;rw[zrR];exact hK _ rfl (.inl ⟨rfl,rfl,rfl⟩) (Nat.le_refl _)
 ·by_cases h0:new=[]
  ·subst h0;rw[zFn,zmE];refine hK _ rfl (.inr ⟨hk,by simpa using hl,X,by simp,?_,hlo,hc⟩) (Nat.le_refl _);simpa [wrT]using hX
  ·have hn0:¬new.length=0:=fun e=>h0 (List.length_eq_zero_iff.1 e)
   have hol:zem (acc++List.replicate (k - acc.length) (z.map D.f)) (acc++(new++List.replicate (k - (acc.length+new.length)) (z.map D.f)))=true:=by
    unfold zem;cases acc with
    |nil=>
     obtain⟨j,hj⟩ :∃j,k=j+1:=⟨k - 1,by omega⟩
     subst hj;simp[List.replicate_succ,hz]
    |cons a l=>
     simp[ha a (by simp)]
   have e1:List.take acc.length (acc++List.replicate (k - acc.length) (z.map D.f))=acc:=by simp
   have e2:List.drop (acc.length+new.length) (acc++List.replicate (k - acc.length) (z.map D.f))=List.replicate (k - (acc.length+new.length)) (z.map D.f):=by
    rw[List.drop_append];simp only[List.drop_replicate];rw[List.drop_eq_nil_of_le (by omega),List.nil_append]
    congr 1
    omega
   have a1:acc.length+(k - acc.length)=k:=by omega
   rw[zwG,if_neg hn0,hX];simp only[true_and,Nat.zero_add,List.length_append,List.length_replicate,a1,hl,hle,Nat.zero_le,e1,e2,List.append_assoc,hol,if_true,zmE];refine hK _ (by simp[zat,Nat.blt_eq,hc]) (.inr ⟨hk,by simpa using hle,X,by simp,?_,hlo,hc⟩) (Nat.le_refl _);simp[wrT,Vse.T.zab]
def gCc(es byt gr:Nat):Go.Vse.Fn:=⟨36,[.t 2],oZ [oR 2 (.mv (.k .nils))]
 (oZ [oR 3 (.mv (.k (.i .i64 0)))]
 (.seq (oZ [oM 9 0,oR 10 (.len (.t 9)),oR 11 (.mv (.k (.i .i64 0)))]
 (.blk 0 (.loop (oZ [oR 12 (.bin .lss (.t 11) (.t 10))]
 (.seq (.cond (.t 12) .skip (.exit 0))
 (.seq (.blk 1 (oZ [oI 13 1 9 11,oK 14 1 13,oM 5 14]
 (oZ [oM 15 3,oM 16 5,oR 17 (.len (.t 16)),oR 18 (.bin .add (.t 15) (.t 17)),oM 3 18]
 (oD [oM 19 3,oR 20 (.bin .lss (.t 19) (.k (.i .i64 0)))] 20 (.reg [oR 21 (.pick (.k (.un)) (.k (.un)) (.k (.un))),oN (.pick (.k (.un)) (.k (.un)) (.k (.un)))]) .skip))))
 (.reg [oR 22 (.bin .add (.t 11) (.k (.i .i64 1))),oM 11 22])))))))
 (oZ [oM 23 3,oR 24 (.call gr [(.k .nils),(.t 23)]),oM 6 24]
 (.seq (oZ [oM 25 0,oR 26 (.len (.t 25)),oR 27 (.mv (.k (.i .i64 0)))]
 (.blk 2 (.loop (oZ [oR 28 (.bin .lss (.t 27) (.t 26))]
 (.seq (.cond (.t 28) .skip (.exit 2))
 (.seq (.blk 3 (oZ [oI 29 1 25 27,oK 30 1 29,oM 8 30]
 (.reg [oM 31 6,oM 32 8,oR 33 (.app es byt (.t 31) (.t 32)),oM 6 33])))
 (.reg [oR 34 (.bin .add (.t 27) (.k (.i .i64 1))),oM 27 34])))))))
 (oZ [oM 35 6,oM 2 35] .ret)))))⟩
def lsF(es:Nat)(L:List (List (List F))):F:= .sl 1 (L.map fun p=>[F.sl es p])
def zhL(L:List (List (List F)))(n:Nat):Nat:=(L.take n).flatten.length
theorem zvO{L:List (List (List F))}{n:Nat}(hn:n<L.length):zhL L (n+1)=zhL L n+L[n].length:=by
 unfold zhL;rw[List.take_succ_eq_append_getElem hn,List.flatten_append];simp
theorem zyG(L:List (List (List F)))(n:Nat):zhL L n≤L.flatten.length:=by
 unfold zhL
 conv=>rhs;rw[<-List.take_append_drop n L,List.flatten_append,List.length_append]
 omega
def zlm(L:List (List (List F)))(n:Nat):List (List D):=(L.take n).flatten.map fun a=>a.map D.f
theorem zH8{n gr es byt:Nat}{z:List F}(hf:pr.fn n=some (gCc es byt gr))(hg:pr.fn gr=some (gGr es byt z))(hb:byt≤1000)(L:List (List (List F)))(hL:L.length≤1000)(hS:L.flatten.length≤1000000)
  (hz:∀l,hd8 (z.map D.f::l)=false)(hr:∀p∈L,∀r∈p,∀l,hd8 (r.map D.f::l)=false):Ans pr n [lsF es L] (slc es L.flatten):=by
 refine za1 hf ?_;unfold gCc;simp only[rU];obtain⟨T,hT⟩ :∃T,T=L.flatten.length:=⟨_,rfl⟩
 rw[<-hT]at hS;have hl:zcr (.f (lsF es L))=some L.length:=by simp[lsF,zrj]
 have hi:∀m,iaB 1 (.f (lsF es L)) m=(L[m]?).map fun p=>D.fptr [F.sl es p]:=fun m=>by simp[lsF,zuN,Function.comp_def]
 have hd:(lsF es L).d= .f (lsF es L):=rfl;simp[rW,st0,zae,hd,hl];refine zex L.length (fun n s=>s.tm.get 0=some (.f (lsF es L))/\s.tm.get 3=some (.f (.i .i64 (zhL L n)))/\s.tm.get 9=some (.f (lsF es L))/\s.tm.get 10=some (.f (.i .i64 L.length))/\s.tm.get 11=some (.f (.i .i64 n))) (fun x s=>x= .exit 0/\s.tm.get 0=some (.f (lsF es L))/\s.tm.get 3=some (.f (.i .i64 T))) ?_ ?_ _ ?_ ?_
 ·rintro n s hn ⟨h0,h3,h9,h10,h11⟩;have hw:=zao n (by omega);have hx:L[n]? =some L[n]:=List.getElem?_eq_getElem hn;have hs:=zvO hn;have hsl:=zyG L (n+1);rw[<-hT]at hsl;generalize hA:L[n]=A at hx hs;have hw2:IntKind.i64.wrap ((zhL L n:Int)+A.length)=((zhL L (n+1):Nat):Int):=by rw[hs];push_cast;exact IntWalk.i64_in _ (by omega)
  have hn0:¬(((zhL L (n+1):Nat):Int)<0):=by omega
  simp[rW,h0,h3,h9,h10,h11,hn,hi,hx,hA,hw,hw2,hn0]
 ·rintro s ⟨h0,h3,h9,h10,h11⟩;have e:zhL L L.length=L.flatten.length:=by unfold zhL;rw[List.take_length]
  rw[e,<-hT]at h3;simp[rW,h0,h3,h9,h10,h11]
 ·simp[rW,];simp[zhL]
 ·rintro x s ⟨rfl,⟨h0,h3⟩⟩;simp[rW,h0,h3];refine zfa rfl rfl (effGr hg hb (k:=T) hS) ?_;rintro d H c' lw mx ⟨hf,hR⟩ hcc;simp only[rG]at hf hR hcc;simp[rW,h0,h3,hl];refine zex L.length (fun n s=>∃d,(s.tm.get 6=some (d)/\s.tm.get 25=some (.f (lsF es L))/\s.tm.get 26=some (.f (.i .i64 L.length))/\s.tm.get 27=some (.f (.i .i64 n)))/\Room s.h 0 s.c es z T (zlm L n) d) (fun x s=>x= .exit 2/\∃d,s.tm.get 6=some d/\Room s.h 0 s.c es z T (zlm L L.length) d) ?_ ?_ _ ?_ ?_
  ·rintro n s hn ⟨d,⟨h6,h25,h26,h27⟩,hR⟩;have hw:=zao n (by omega);have hx:L[n]? =some L[n]:=List.getElem?_eq_getElem hn;have hs:=zvO hn;have hsl:=zyG L (n+1);rw[<-hT]at hsl;have htk:=List.take_succ_eq_append_getElem hn;have hrn:=hr _ (List.getElem_mem hn);have hra:∀r∈zlm L n,∀l,hd8 (r::l)=false:=by
    intro r hr1 l;obtain⟨a,ha,rfl⟩ :=List.mem_map.1 hr1;obtain⟨p,hp,hap⟩ :=List.mem_flatten.1 ha;exact hr p (List.mem_of_mem_take hp) a hap l
   generalize hA:L[n]=A at hx hs htk hrn;simp[rW,h6,h25,h26,h27,hn,hi,hx,hA,hw];refine zNd hR ?_ hz hra ?_
   ·unfold zhL at hs hsl;unfold zlm;simp only[List.length_map];omega
   ·intro r hr1 hr2 hr3;have ea:zlm L (n+1)=zlm L n++A.map fun a=>a.map D.f:=by
     unfold zlm;rw[htk];simp
    refine⟨hr1,?_⟩;rw[ea];exact hr2
  ·rintro s ⟨d,⟨h6,h25,h26,h27⟩,hR⟩;simp[rW,h6,h25,h26,h27];exact hR
  ·simp[rW,];rcases hR with hR|⟨h1,h2,X,h3,h4,h5,h6⟩
   ·exact .inl hR
   ·exact .inr ⟨h1,h2,X,h3,h4,Nat.zero_le _,h6⟩
  ·rintro x s ⟨rfl,d,h6,hR⟩;unfold zlm at hR;rw[List.take_length]at hR;have hz:∃rd,frz s.h.get 12 d=some (slc es L.flatten,rd):=by
    rcases hR with⟨h1,h2,rfl⟩ |⟨h1,h2,X,rfl,h4,h5,h6⟩
    ·have e:L.flatten=[]:=List.length_eq_zero_iff.1 (by omega);rw[e];exact⟨[],rfl⟩
    ·refine⟨[X],?_⟩;have e:L.flatten≠[]:=fun e=>by rw[e]at hT;simp at hT;omega
     have el:(L.flatten.map fun a=>a.map D.f).length=T:=by rw[List.length_map];exact hT.symm
     rw[zgy,h4,zdU,zfG,el];simp only[Nat.sub_self,List.replicate_zero,List.append_nil,el,true_and,Nat.zero_add,Nat.le_refl,if_true,List.drop_zero];rw[List.take_of_length_le (by omega),zjq s.h.get 10,zdU,zcX e]
   obtain⟨rd,hz⟩ :=hz;simp[rW,h6,hz]
theorem ans46(P S:List Atm)(hP:P.length≤1000)(hS:S.length≤1000):Ans pr 46 [.sl 1 [[.sl 3 (P.map atF)],[.sl 3 (S.map atF)]]] (slc 3 ((P++S).map atF)):=by
 have:=zH8 (z:=[.s [],.b false,.nils]) (byt:=48) (es:=3) fn46 fn81 (by omega) [P.map atF,S.map atF] (by simp) (by simp;omega) (fun _=>rfl) (by
  intro p hp r hr l;have:∃a,r=atF a:=by
   rcases List.mem_cons.1 hp with rfl|hp
   ·obtain⟨a,_,rfl⟩ :=List.mem_map.1 hr;exact⟨a,rfl⟩
   ·obtain rfl:p=S.map atF:=by simpa using hp
    obtain⟨a,_,rfl⟩ :=List.mem_map.1 hr;exact⟨a,rfl⟩
  obtain⟨a,rfl⟩ :=this;rfl)
 simpa [lsF]using this
theorem ans52(P S:List CQ)(hP:P.length≤1000)(hS:S.length≤1000):Ans pr 52 [.sl 1 [[.sl 2 (P.map cqF)],[.sl 2 (S.map cqF)]]] (qsF (P++S)):=by
 have:=zH8 (z:=[.nils,.nils]) (byt:=48) (es:=2) fn52 fn85 (by omega) [P.map cqF,S.map cqF] (by simp) (by simp;omega) (fun _=>rfl) (by
  intro p hp r hr l;have:∃a,r=cqF a:=by
   rcases List.mem_cons.1 hp with rfl|hp
   ·obtain⟨a,_,rfl⟩ :=List.mem_map.1 hr;exact⟨a,rfl⟩
   ·obtain rfl:p=S.map cqF:=by simpa using hp
    obtain⟨a,_,rfl⟩ :=List.mem_map.1 hr;exact⟨a,rfl⟩
  obtain⟨a,rfl⟩ :=this;simp[cqE,zuF])
 simpa [lsF,qsF]using this
theorem fn47:pr.fn 47=some g47:=by kernel_rfl
def bmE(l:List Str):List (F×D):=l.map fun x=>(F.s x,D.f (.b true))
theorem znD(x:Str):∀(l:List Str) (i:Nat),x∈l->∃j,zcL 1 (.s x) (bmE l) i=some (some (j,.f (.b true)))
 |[],_,h=>absurd h (by simp)
 |y::l,i,h=>by
  by_cases hy:x=y
  ·subst hy;exact⟨i,by simp[bmE,zcL,zhZ]⟩
  ·obtain⟨j,hj⟩ :=znD x l (i+1) (by simpa [hy]using h);have e:zcL 1 (.s x) (bmE (y::l)) i=zcL 1 (.s x) (bmE l) (i+1):=by
    have hb:(x==y)=false:=by simpa using hy
    simp only[bmE,List.map_cons,zcL,zhZ,hb]
   exact⟨j,e.trans hj⟩
theorem zjo(x:Str):∀(l:List Str) (i:Nat),x∉l->zcL 1 (.s x) (bmE l) i=some none
 |[],_,_=>rfl
 |y::l,i,h=>by
  have hy:x≠y:=fun e=>h (by simp[e])
  have e:zcL 1 (.s x) (bmE (y::l)) i=zcL 1 (.s x) (bmE l) (i+1):=by
    have hb:(x==y)=false:=by simpa using hy
    simp only[bmE,List.map_cons,zcL,zhZ,hb]
  rw[e];exact zjo x l (i+1) fun hm=>h (by simp[hm])
def zi3(d:CQ):CQ:=⟨d.as.filter fun a=>!a.neg,[],false,false⟩
theorem zx9{d:CQ}(hd:zbu d):zbu (zi3 d):=by
 have hm:∀a∈(zi3 d).as,a∈d.as:=fun a ha=>(List.mem_filter.1 ha).1
 have hl:(zi3 d).as.length≤d.as.length:=List.length_filter_le _ _;exact⟨⟨fun a ha=>hd.as a (hm a ha),fun _ h=>by simp[zi3]at h,by have:=hd.la;omega,by simp[zi3]⟩,by have:=hd.sa;omega,fun a ha=>hd.st a (hm a ha),by simp[zi3],fun a ha=>hd.s2 a (hm a ha)⟩
theorem zve(d:CQ):vrs (zi3 d)=bnd d:=by
 unfold vrs zi3 bnd;rw[List.foldl_nil,List.foldl_filter]
 congr 1
 funext l a
 unfold bnS;cases a.neg<;>simp
def bdP(d w:CQ)(hd:List Str):Bool:=((vrs d).all fun x=>(bnd d).any (· ==x))&&(vrs w).all fun x=>(bnd d).any (· ==x)|| !(hd.any (· ==x))
theorem zxv(B hd:List Str):∀(W L:List Str),(W.foldl (cvA hd) L).all (fun x=>B.any (· ==x))=(L.all (fun x=>B.any (· ==x))&&W.all fun x=>B.any (· ==x)|| !(hd.any (· ==x)))
  |[],L=>by simp
  | x::W,L=>by
    rw[List.foldl_cons,zxv B hd W];unfold cvA;cases hx:hd.any (· ==x)with
    |true=>simp[Bool.and_assoc,hx]
    |false=>simp[hx]
theorem zPp(d w:CQ)(hd:List Str):bdP d w hd=cov d w hd:=by
 unfold bdP cov;rw[zxv]
theorem zkr{h:Nat->Option Ob}{x:Nat}:∀{rd:List Nat} {H:T Ob},x∉rd->(wrT H (zaH h rd)).get x=H.get x
 |[],_,_=>rfl
 |y::l,H,hx=>by
  have hy:x≠y:=fun e=>hx (by simp[e])
  have hl:x∉l:=fun e=>hx (by simp[e])
  unfold zaH;split
  ·split
   ·exact zkr hl
   ·simp only[wrT];rw[zkr hl,Vse.T.zab,if_neg hy]
  ·exact zkr hl
theorem zKU{h:Nat->Option Ob}{c:Nat}:∀{rd:List Nat},(∀x∈rd,x<c)->zat c (zaH h rd)=true
 |[],_=>rfl
 |y::l,hx=>by
  have hy:=hx y (by simp);have hl:=zKU (h:=h) (rd:=l) fun x hm=>hx x (by simp[hm])
  unfold zaH;split
  ·split
   ·exact hl
   ·simp[zat,Nat.blt_eq,hy,hl]
  ·exact hl
theorem zFY{h:T Ob}{lo c es k:Nat}{d:D}{els:List (List D)}{L:List (List F)}(hg:Gro h lo c es d els)(hf:zaT (frz h.get k) els=some (L,[]))(hL:L=[]↔els=[]):∃rd,frz h.get (k+1) d=some (slc es L,rd)/\∀x∈rd,d.oid=some x:=by
 rcases hg with⟨rfl,rfl⟩ |⟨id,ro,rfl,he,ho,hr,hl,hc⟩
 ·rw[hL.2 rfl];exact⟨[],rfl,by simp⟩
 ·refine⟨[id],?_,by simp[D.oid]⟩;rw[zgy,ho,zdU,zfG];simp only[true_and,Nat.zero_add,Nat.le_refl,if_true,List.drop_zero,List.take_length,hf,zdU];rw[zcX (fun e=>he (hL.1 e))]
def znk(l:List Atm):List (List D):=l.map fun a=>(atF a).map D.f
def XZ1(hd:List Str)(c d:CQ)(n:Nat)(s:St):Prop:=∃B,(s.tm.get 2=some (.f (zas hd))/\s.tm.get 3=some (.ptr 0 2 0 0)/\s.tm.get 4=some (.ptr 1 2 0 0)/\s.tm.get 7=some (.ptr 2 2 0 0)/\s.tm.get 18=some (.f (zaC d))/\s.tm.get 19=some (.f (.i .i64 d.as.length))/\s.tm.get 20=some (.f (.i .i64 n))/\s.h.get 0=some (.arr 2 0 [[.f (zaC c),.f (zaF c)]])/\s.h.get 1=some (.arr 2 0 [[.f (zaC d),.f (zaF d)]])/\s.h.get 2=some (.arr 2 0 [[B,.f .nils]]))/\Gro s.h 3 s.c 3 B (znk ((d.as.take n).filter fun a=>!a.neg))/\3≤s.c
def XZ2(hd:List Str)(c d:CQ)(M:Nat)(l:List Str)(s:St):Prop:=(s.tm.get 2=some (.f (zas hd))/\s.tm.get 3=some (.ptr 0 2 0 0)/\s.tm.get 4=some (.ptr 1 2 0 0)/\s.tm.get 10=some (.mp M)/\s.h.get 0=some (.arr 2 0 [[.f (zaC c),.f (zaF c)]])/\s.h.get 1=some (.arr 2 0 [[.f (zaC d),.f (zaF d)]])/\s.h.get M=some (.map (bmE l)))/\2≤M/\M<s.c
theorem zwD{l:List Str}{x:Str}(h:l.any (· ==x)=true):x∈l:=by
  obtain⟨y,hy,e⟩ :=List.any_eq_true.1 h;rw[show y=x by simpa using e]at hy;exact hy
theorem ztA{l:List Str}{x:Str}(h:l.any (· ==x)=false):x∉l:=fun hm=>by
  have:=List.any_eq_false.1 h x hm;simp at this
def fd1(B:List Str)(x:Str):Bool:=!(B.any (· ==x))
def fd2(B hd:List Str)(x:Str):Bool:=!(B.any (· ==x))&&hd.any (· ==x)
theorem ans47(c d:CQ)(hd:List Str)(hc:zbu c)(hdd:zbu d)(hh:hd.length<1000):Ans pr 47 [.ag (cqF c),.ag (cqF d),zas hd] (.b (cov d c hd)):=by
  refine za1 fn47 ?_;simp only[g47,rU];rw[<-zPp];simp[rW,st0,zae,cqE,zaV,zaW,zaL,za2];refine zex d.as.length (XZ1 hd c d) (fun x s=>x= .exit 0/\XZ1 hd c d d.as.length s) ?_ ?_ _ ?_ ?_
  · rintro n s hn ⟨B,⟨h2,h3,h4,h7,h18,h19,h20,g0,g1,g2⟩,hg,hc3⟩;have hw:=zao n (by have:=hdd.sa;omega);have hx:d.as[n]? =some d.as[n]:=List.getElem?_eq_getElem hn;have htk:=List.take_succ_eq_append_getElem hn;generalize hA:d.as[n]=A at hx htk;have n0:¬(0=s.c):=by omega
    have n1:¬(1=s.c):=by omega
    have n2:¬(2=s.c):=by omega
    have n2':¬(s.c=2):=by omega
    cases hneg:A.neg with
    | true=>
      simp[rW,h2,h3,h4,h7,h18,h19,h20,g0,g1,g2,hn,zcI,hx,hA,atE,zaS,hneg,n0,n1,n2,n2'];refine⟨B,?_,?_,?_⟩
      · simp[rW,h2,h3,h4,h7,h18,h19,h20,g0,g1,g2,hw,n0,n1,n2]
      · rw[htk,List.filter_append];simp only[hneg,List.filter_cons,List.filter_nil,Bool.not_true,Bool.false_eq_true,if_false,List.append_nil];refine zcb hg (by simp[rW,]) fun x h1 h2=> ?_
        have nx:¬(x=s.c):=by omega
        simp[rW,nx]
      · simp[rW,];omega
    | false=>
      simp[rW,h2,h3,h4,h7,h18,h19,h20,g0,g1,g2,hn,zcI,hx,hA,atE,zaS,hneg,n0,n1,n2,n2'];have hpl:((d.as.take n).filter fun a=>!a.neg).length≤12:=by
        refine Nat.le_trans (List.length_filter_le _ _) ?_;have:=hdd.sa;simp;omega
      refine zgc (zcb (c':=s.c+1) hg (by omega) fun x h1 h2=> ?_) (by omega) (by simp[znk];omega) (by omega) ?_
      · have nx:¬(x=s.c):=by omega
        simp[Vse.T.zab,nx]
      intro r hr1 hr2 hr3 hr4 hr5;have e0:=hr4 0 (by omega) (zbQ hg (by omega));have e1:=hr4 1 (by omega) (zbQ hg (by omega));have e2:=hr4 2 (by omega) (zbQ hg (by omega));simp[Vse.T.zab,n0,n1,n2,g0,g1,g2]at e0 e1 e2;refine⟨hr1,?_⟩;simp[rW,e2,zcS hr2];refine⟨by omega,⟨r.d,?_,?_,?_⟩⟩
      · simp[rW,h2,h3,h4,h7,h18,h19,h20,hw,e0,e1,e2]
      · rw[htk,List.filter_append];simp only[hneg,List.filter_cons,List.filter_nil,Bool.not_false,if_true];have ea:∀l:List Atm,znk (l++[A])=znk l++[[D.f (F.s A.r),D.f (F.b false),D.f (zaX A.ts)]]:=fun l=>by simp[znk,atE,hneg]
        rw[ea];refine zcb hr2 (by simp[rW,]) fun x h1 h2=> ?_
        have nx:¬(x=2):=by omega
        simp[rW,nx]
      · simp[rW,];omega
  · rintro s ⟨B,⟨h2,h3,h4,h7,h18,h19,h20,g0,g1,g2⟩,hg,hc3⟩;simp[rW,h2,h3,h4,h7,h18,h19,h20,g0,g1,g2];refine⟨B,?_,hg,hc3⟩;simp[rW,h2,h3,h4,h7,h18,h19,h20,g0,g1,g2]
  · refine⟨.f .nils,?_,.inl ⟨rfl,rfl⟩,?_⟩
    · simp[rW,]
    · simp[rW,]
  · rintro x s ⟨rfl,B,⟨h2,h3,h4,h7,h18,h19,h20,g0,g1,g2⟩,hg,hc3⟩;have q54:=fun k=>zak (k:=k) (zsL (zi3 d) (zx9 hdd))
    have q54d:=fun k=>zak (k:=k) (zsL d hdd)
    have q54c:=fun k=>zak (k:=k) (zsL c hc)
    rw[zve]at q54;rw[List.take_length]at hg;have hbn:(bnd d).Nodup:=by rw[<-zve];exact (zij _).1
    have hbl:=zgR (zx9 hdd);rw[zve]at hbl;have hld:=zgR hdd;have hlc:=zgR hc;simp only[cqE]at q54 q54d q54c;have eC:zaF (zi3 d)= .nils:=rfl;have eA:zaC (zi3 d)=slc 3 ((d.as.filter fun a=>!a.neg).map atF):=rfl;rw[eC,eA]at q54;unfold bdP;generalize bnd d=Bd at*;generalize vrs d=Vd at*;generalize vrs c=Vc at*;have n2:¬(2=s.c):=by omega
    have n0:¬(0=s.c):=by omega
    have n1:¬(1=s.c):=by omega
    have hgM:=zcb (h':=s.h.set s.c (.map [])) (c':=s.c+1) hg (by omega) fun x h1 h2=>by simp[Vse.T.zab,show ¬(x=s.c) by omega]
    have hfr:zaT (frz (s.h.set s.c (.map [])).get 10) (znk (d.as.filter fun a=>!a.neg))=some ((d.as.filter fun a=>!a.neg).map atF,[]):=by
      have:=zjq (s.h.set s.c (.map [])).get 9 ((d.as.filter fun a=>!a.neg).map atF);rw[List.map_map]at this;exact this
    obtain⟨rd,hz,hrd⟩ :=zFY (k:=10) hgM hfr (by simp[znk]);have hrd2:∀x∈rd,3≤x/\x<s.c:=fun x hx=>zfJ hg (hrd x hx)
    have hok:=zKU (h:=(s.h.set s.c (.map [])).get) (c:=s.c+1) (rd:=rd) fun x hx=>by have:=hrd2 x hx;omega
    have k0:=zkr (h:=(s.h.set s.c (.map [])).get) (x:=0) (rd:=rd) (H:=s.h.set s.c (.map [])) fun hm=>by have:=hrd2 _ hm;omega
    have k1:=zkr (h:=(s.h.set s.c (.map [])).get) (x:=1) (rd:=rd) (H:=s.h.set s.c (.map [])) fun hm=>by have:=hrd2 _ hm;omega
    have kM:=zkr (h:=(s.h.set s.c (.map [])).get) (x:=s.c) (rd:=rd) (H:=s.h.set s.c (.map [])) fun hm=>by have:=hrd2 _ hm;omega
    simp[Vse.T.zab,n0,n1,g0,g1]at k0 k1 kM;simp[rW,h2,h3,h4,h7,h18,h19,h20,g0,g1,g2,n0,n1,n2,hz,q54,hok,zaL,za7];refine zex Bd.length (fun n s'=>XZ2 hd c d s.c (Bd.take n) s'/\(s'.tm.get 36=some (.f (zas Bd))/\s'.tm.get 37=some (.f (.i .i64 Bd.length))/\s'.tm.get 38=some (.f (.i .i64 n)))) (fun x s'=>x= .exit 2/\XZ2 hd c d s.c Bd s') ?_ ?_ _ ?_ ?_
    · rintro n s' hn ⟨⟨⟨h2,h3,h4,h10,g0,g1,gM⟩,hM2,hMc⟩,⟨h36,h37,h38⟩⟩;have hw:=zao n (by omega);have hx:Bd[n]? =some Bd[n]:=List.getElem?_eq_getElem hn;have htk:=List.take_succ_eq_append_getElem hn;have hout:Bd[n]∉Bd.take n:=by
        intro hm;have h2:(Bd.take n++Bd.drop n).Nodup:=by rw[List.take_append_drop];exact hbn
        rw[List.nodup_append]at h2;rw[List.drop_eq_getElem_cons hn]at h2;exact h2.2.2 _ hm _ (List.mem_cons_self) rfl
      have hk:=zjo _ (Bd.take n) 0 hout;have m0:¬(0=s.c):=by omega
      have m1:¬(1=s.c):=by omega
      have eb:bmE (Bd.take (n+1))=bmE (Bd.take n)++[(.s Bd[n],.f (.b true))]:=by rw[htk];unfold bmE;rw[List.map_append];rfl
      generalize hX:Bd[n]=X at hx hk eb;simp[rW,h2,h3,h4,h10,h36,h37,h38,g0,g1,gM,hn,zb2,hx,hX,hk,hw];refine⟨by omega,⟨?_,hM2,?_⟩⟩
      · simp[rW,h2,h3,h4,h10,g0,g1,m0,m1,eb]
      · simp[rW,];omega
    · rintro s' ⟨⟨⟨h2,h3,h4,h10,g0,g1,gM⟩,hM2,hMc⟩,⟨h36,h37,h38⟩⟩;rw[List.take_length]at gM;simp[rW,h2,h3,h4,h10,h36,h37,h38,g0,g1,gM];exact⟨by simp[rW,h2,h3,h4,h10,g0,g1,gM],hM2,hMc⟩
    · refine⟨⟨?_,by omega,?_⟩,?_⟩
      · simp[rW,h2,h3,h4,k0,k1,kM];simp[bmE]
      · simp[rW,]
      · simp[rW,]
    · rintro x s' ⟨rfl,⟨h2,h3,h4,h10,g0,g1,gM⟩,hM2,hMc⟩;generalize s.c=M at*;simp[rW,h2,h3,h4,h10,g0,g1,gM,q54d,zaL,za7];refine zd2 Vd (fd1 Bd) (fun n s'=>XZ2 hd c d M Bd s'/\(s'.tm.get 46=some (.f (zas Vd))/\s'.tm.get 47=some (.f (.i .i64 Vd.length))/\s'.tm.get 48=some (.f (.i .i64 n)))) (fun x s'=>x= .exit 4/\XZ2 hd c d M Bd s') (fun n y s'=>y= .ret/\s'.tm.get 6=some (.f (.b false))) ?_ ?_ _ ?_ ?_ ?_
      · rintro n s' hn ⟨⟨⟨h2,h3,h4,h10,g0,g1,gM⟩,hM2,hMc⟩,⟨h46,h47,h48⟩⟩;have hw:=zao n (by omega);have hx:Vd[n]? =some Vd[n]:=List.getElem?_eq_getElem hn;generalize hX:Vd[n]=X at hx⊢;cases hb:Bd.any (· ==X)with
        | true=>
          have e:fd1 Bd X=false:=by unfold fd1;rw[hb];rfl
          obtain⟨j,hk⟩ :=znD X Bd 0 (zwD hb);simp[rW,h2,h3,h4,h10,h46,h47,h48,g0,g1,gM,hn,zb2,hx,hX,hk,hw,e];exact⟨by simp[rW,h2,h3,h4,h10,g0,g1,gM],hM2,by simp[rW,];omega⟩
        | false=>
          have e:fd1 Bd X=true:=by unfold fd1;rw[hb];rfl
          have hk:=zjo X Bd 0 (ztA hb);simp[rW,h2,h3,h4,h10,h46,h47,h48,g0,g1,gM,hn,zb2,hx,hX,hk,hw,e]
      · rintro s' ⟨⟨⟨h2,h3,h4,h10,g0,g1,gM⟩,hM2,hMc⟩,⟨h46,h47,h48⟩⟩;simp[rW,h2,h3,h4,h10,h46,h47,h48,g0,g1,gM];exact⟨by simp[rW,h2,h3,h4,h10,g0,g1,gM],hM2,hMc⟩
      · refine⟨⟨?_,hM2,?_⟩,?_⟩
        · simp[rW,h2,h3,h4,h10,g0,g1,gM]
        · simp[rW,];omega
        · simp[rW,]
      · rintro h z s' ⟨rfl,⟨h2,h3,h4,h10,g0,g1,gM⟩,hM2,hMc⟩;have e1:(Vd.all fun x=>Bd.any (· ==x))=true:=List.all_eq_true.2 fun x hx=>by simpa [fd1]using h x hx
        rw[e1,Bool.true_and];simp[rW,h2,h3,h4,h10,g0,g1,gM,q54c,zaL,za7];refine zd2 Vc (fd2 Bd hd) (fun n s'=>XZ2 hd c d M Bd s'/\(s'.tm.get 58=some (.f (zas Vc))/\s'.tm.get 59=some (.f (.i .i64 Vc.length))/\s'.tm.get 60=some (.f (.i .i64 n)))) (fun x s'=>x= .exit 6) (fun n y s'=>y= .ret/\s'.tm.get 6=some (.f (.b false))) ?_ ?_ _ ?_ ?_ ?_
        · rintro n s' hn ⟨⟨⟨h2,h3,h4,h10,g0,g1,gM⟩,hM2,hMc⟩,⟨h58,h59,h60⟩⟩;have hw:=zao n (by omega);have hx:Vc[n]? =some Vc[n]:=List.getElem?_eq_getElem hn;generalize hX:Vc[n]=X at hx⊢;have q82:=fun k=>zak (k:=k) (zH6 hd X (by omega))
          cases hb:Bd.any (· ==X)with
          | true=>
            have e:fd2 Bd hd X=false:=by unfold fd2;rw[hb];rfl
            obtain⟨j,hk⟩ :=znD X Bd 0 (zwD hb);simp[rW,h2,h3,h4,h10,h58,h59,h60,g0,g1,gM,hn,zb2,hx,hX,hk,hw,e];exact⟨by simp[rW,h2,h3,h4,h10,g0,g1,gM],hM2,by simp[rW,];omega⟩
          | false=>
            have hk:=zjo X Bd 0 (ztA hb);have e:fd2 Bd hd X=hd.any (· ==X):=by unfold fd2;rw[hb];rfl
            cases hb2:hd.any (· ==X)with
            | true=>
              rw[hb2]at q82 e;simp[rW,h2,h3,h4,h10,h58,h59,h60,g0,g1,gM,hn,zb2,hx,hX,hk,hw,e,q82]
            | false=>
              rw[hb2]at q82 e;simp[rW,h2,h3,h4,h10,h58,h59,h60,g0,g1,gM,hn,zb2,hx,hX,hk,hw,e,q82];exact⟨by simp[rW,h2,h3,h4,h10,g0,g1,gM],hM2,by simp[rW,];omega⟩
        · rintro s' ⟨⟨⟨h2,h3,h4,h10,g0,g1,gM⟩,hM2,hMc⟩,⟨h58,h59,h60⟩⟩;simp[rW,h2,h3,h4,h10,h58,h59,h60,g0,g1,gM]
        · refine⟨⟨?_,hM2,?_⟩,?_⟩
          · simp[rW,h2,h3,h4,h10,g0,g1,gM]
          · simp[rW,];omega
          · simp[rW,]
        · rintro h z s' rfl;have e1:(Vc.all fun x=>Bd.any (· ==x)|| !(hd.any (· ==x)))=true:=List.all_eq_true.2 fun x hx=>by
            have:=h x hx;unfold fd2 at this;cases h1:Bd.any (· ==x)<;>cases h2:hd.any (· ==x)<;>simp_all
          rw[e1];simp[rW,]
        · rintro n hn hp hm z s' ⟨rfl,h6⟩;have e1:(Vc.all fun x=>Bd.any (· ==x)|| !(hd.any (· ==x)))=false:=List.all_eq_false.2 ⟨Vc[n],List.getElem_mem hn,by
            unfold fd2 at hp;cases h1:Bd.any (· ==Vc[n])<;>cases h2:hd.any (· ==Vc[n])<;>simp_all⟩
          rw[e1];simp[rW,h6]
      · rintro n hn hp hm z s' ⟨rfl,h6⟩;have e1:(Vd.all fun x=>Bd.any (· ==x))=false:=List.all_eq_false.2 ⟨Vd[n],List.getElem_mem hn,by unfold fd1 at hp;cases h1:Bd.any (· ==Vd[n])<;>simp_all⟩;rw[e1,Bool.false_and];simp[rW,h6]
theorem fn19:pr.fn 19=some g19:=by kernel_rfl
def zno(hd:List Str)(c:CQ)(i:Nat):CQ:=if cov (zcJ c i false) c hd=true/\exR hd c (zcJ c i false)=true then zcJ c i false else c
def zeu(hd:List Str):Nat->CQ->CQ
 |0,c=>c
 |k+1,c=>zeu hd k (zno hd c k)
def cop(c:CQ):CQ:=⟨c.as,c.cs,c.ne,false⟩
theorem zoG{c:CQ}(hc:zbu c):zbu (cop c):=⟨⟨hc.as,hc.cs,hc.la,hc.lc⟩,hc.sa,hc.st,hc.sc,hc.s2⟩
theorem zzm(c:CQ):(D.f (zaC c)).cells=some [.f (zaC c)]:=by
 unfold zaC Sm.asF;split
 ·rfl
 ·exact zgr _ _
def CP(hd:List Str)(R:CQ)(k:Nat)(s:St):Prop:=∃(c:CQ) (z:Int),(z=(k:Int) - 1/\k≤c.as.length/\zbu c)/\(s.tm.get 1=some (.f (zas hd))/\s.tm.get 2=some (.ptr 0 2 0 0)/\s.tm.get 4=some (.ptr 1 2 0 0)/\s.tm.get 5=some (.f (.i .i64 z))/\s.h.get 0=some (.arr 2 0 [[.f (zaC c),.f (zaF c)]])/\s.h.get 1=some (.arr 2 0 [[.f .nils,.f .nils]]))/\2≤s.c/\zeu hd k c=R
theorem zHV(c:CQ)(hd:List Str)(hc:zbu c)(hh:hd.length<1000):Ans pr 19 [.ag (cqF c),zas hd] (.ag (cqF (zeu hd c.as.length (cop c)))):=by
 refine za1 fn19 ?_;simp only[g19,rU];have q45:=fun k=>zak (k:=k) (ans45 c hc)
 have hcl:c.as.length=(cop c).as.length:=rfl;have hsm:=zoG hc;change ∀k,aB pr 45 [.ag (cqF c)] k↔k (.ag (cqF (cop c)))at q45
 rw[hcl];generalize cop c=c at q45 hsm⊢;clear hcl;obtain⟨z0,hz0⟩ :∃z0:Int,z0=(c.as.length:Int) - 1:=⟨_,rfl⟩
 have hw0:IntKind.i64.wrap ((c.as.length:Int) - 1)=z0:=by rw[hz0];exact IntWalk.i64_in _ (by have:=hsm.sa;omega)
 simp only[cqE]at q45;simp[rW,st0,zae,cqE,zaV,zaW,zaL,za2,q45,hw0];refine zcu (CP hd (zeu hd c.as.length c)) (fun x s=>x= .exit 0/\(s.tm.get 2=some (.ptr 0 2 0 0)/\s.tm.get 4=some (.ptr 1 2 0 0)/\s.h.get 0=some (.arr 2 0 [[.f (zaC (zeu hd c.as.length c)),.f (zaF (zeu hd c.as.length c))]])/\s.h.get 1=some (.arr 2 0 [[.f .nils,.f .nils]]))/\2≤s.c) ?_ c.as.length _ ?_ ?_
 ·generalize zeu hd c.as.length c=R;clear hw0 hz0 hsm q45;rintro k s ⟨c,z,⟨hz,hk,hc⟩,⟨h1,h2,h4,h5,g0,g1⟩,hc2,hR⟩;cases k with
  |zero=>
   have hz0:¬(0≤z):=by omega
   simp[rW,h1,h2,h4,h5,g0,g1,hz0];subst hR;exact⟨⟨rfl,rfl⟩,hc2⟩
  |succ j=>
   have hz1:z=(j:Int):=by omega
   subst hz1;have hne:c.as≠[]:=fun e=>by rw[e]at hk;simp at hk
   obtain⟨z2,hz2⟩ :∃z2:Int,z2=(j:Int) - 1:=⟨_,rfl⟩
   have hw:IntKind.i64.wrap ((j:Int) - 1)=z2:=by rw[hz2];exact IntWalk.i64_in _ (by have:=hc.sa;omega)
   have hw1:=zao j (by have:=hc.sa;omega);have hs:=zkP hc j false;have q47:=fun k=>zak (k:=k) (ans47 c (zcJ c j false) hd hc hs hh)
   have q43:=fun k=>zak (k:=k) (zy7 c (zcJ c j false) hd hc hs hh)
   have q46:=fun k=>zak (k:=k) (ans46 (c.as.take j) (c.as.drop (j+1)) (by have:=hc.sa;simp;omega) (by have:=hc.sa;simp;omega))
   have eA:slc 3 ((c.as.take j++c.as.drop (j+1)).map atF)=zaC (zcJ c j false):=by unfold zaC Sm.asF;rw[if_neg (by simp[zcJ])];rfl
   have eC:zaF (zcJ c j false)=zaF c:=rfl;rw[eA]at q46;have hR':zeu hd j (zno hd c j)=R:=hR;unfold zno at hR';have s1:=fun h=>zB1 hne (i:=j) (by omega) h
   have s2:=fun h=>zB2 hne (i:=j+1) (by omega) h
   push_cast at s2 hw1
   generalize c.as.take j=P at s1 q46;generalize c.as.drop (j+1)=S at s2 q46;generalize hD:zcJ c j false=d at q46 q47 q43 hs hR' eC;have hld:j≤d.as.length:=by rw[<-hD];simp[zcJ];omega
   simp only[cqE]at q43 q47;rw[eC]at q43 q47;have n0:¬(0=s.c):=by omega
   have n1:¬(1=s.c):=by omega
   have n0':¬(s.c=0):=by omega
   have n1':¬(s.c=1):=by omega
   simp[rW,h1,h2,h4,h5,g0,g1];refine zay ?_;have m4:¬(s.c+1+1+1+1=s.c):=by omega
   have m0:¬(0=s.c+1+1+1+1+1+1+1+1+1+1+1+1+1+1+1):=by omega
   have m1:¬(1=s.c+1+1+1+1+1+1+1+1+1+1+1+1+1+1+1):=by omega
   have m0x:¬(s.c+1+1+1+1+1+1+1+1+1+1+1+1+1+1+1=0):=by omega
   have m1x:¬(s.c+1+1+1+1+1+1+1+1+1+1+1+1+1+1+1=1):=by omega
   cases hcv:cov d c hd with
   |false=>
    rw[hcv]at q47 hR';simp only[Bool.false_eq_true,false_and,if_false]at hR';simp[rW,h1,h2,h4,h5,g0,g1,s1,s2,hw1,q46,q47,q43,zaV,zaW,zzm,ziu,zaL,eC,m4,m0,m1,m0x,m1x,n0,n1,n0',n1'];rw[zbh];refine⟨j,by omega,c,z2,⟨hz2,by omega,hc⟩,?_,?_,hR'⟩
    ·simp[rW,h1,h2,h4,h5,g0,g1,hw,m0,m1,m0x,m1x,n0,n1,n0',n1']
    ·simp[rW,]
   |true=>
    rw[hcv]at q47 hR';cases hm:exR hd c d with
    |false=>
     rw[hm]at q43 hR';simp at hR';simp[rW,h1,h2,h4,h5,g0,g1,s1,s2,hw1,q46,q47,q43,zaV,zaW,zzm,ziu,zaL,eC,m4,m0,m1,m0x,m1x,n0,n1,n0',n1'];rw[zbh];refine⟨j,by omega,c,z2,⟨hz2,by omega,hc⟩,?_,?_,hR'⟩
     ·simp[rW,h1,h2,h4,h5,g0,g1,hw,m0,m1,m0x,m1x,n0,n1,n0',n1']
     ·simp[rW,]
    |true=>
     rw[hm]at q43 hR';simp at hR';simp[rW,h1,h2,h4,h5,g0,g1,s1,s2,hw1,q46,q47,q43,zaV,zaW,zzm,ziu,zaL,eC,m4,m0,m1,m0x,m1x,n0,n1,n0',n1'];rw[zbh];refine⟨j,by omega,d,z2,⟨hz2,by omega,hs⟩,?_,?_,hR'⟩
     ·simp[rW,h1,h2,h4,h5,g0,g1,hw,m0,m1,m0x,m1x,n0,n1,n0',n1',eC]
     ·simp[rW,]
 ·simp[rW,CP];exact⟨c,z0,⟨hz0,Nat.le_refl _,hsm⟩,⟨rfl,rfl,rfl⟩,rfl⟩
 ·rintro x s ⟨rfl,⟨h2,h4,g0,g1⟩,hc2⟩;simp[rW,h2,h4,g0,g1,zaV,zaW,ziu];omega
end Go.Proofs.YtimgcabgophnfaaGreat
end
