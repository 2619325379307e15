/- The reference: Apart, RenameApart. -/
import Derived.Test.YtflgmemhalhdbaaGreatDoorFct
import Derived.Test.YtflgmemhalhdbaaGreatDoorPm
import Derived.Test.YtflgmemhalhdbaaGreatDoorPl
import Derived.KernelRfl
import Derived.IntWalk
import Derived.Test.YtflgmemhalhdbaaGreatDoorPp
set_option linter.all false
set_option maxRecDepth 100000
set_option maxHeartbeats 4000000
noncomputable section
section
namespace Go.Proofs.YtflgmemhalhdbaaGreatDoor
open Go Go.Vse Go.Vse.Sm
def fn15:pr.fn 15=some g15:=by kernel_rfl
def fn6:pr.fn 6=some g6:=by kernel_rfl
structure PW(n:Nat)(b:CQ):Prop where
 ln:b.as.length=n
 al:∀a∈b.as,zc1 a/\a.ts.length<=2/\a.ts≠[]
 cs:b.cs=[]
 vl:∀a∈b.as,∀x,Trm.var x∈a.ts->x.length<1000
def PW.g{n:Nat}{b:CQ}(h:PW n b)(hn:n<=12):CqG b:=
 ⟨⟨⟨fun a ha=>(h.al a ha).1,by simp[h.cs],by have:=h.ln;omega,by simp[h.cs]⟩,by have:=h.ln;omega,fun a ha=>by have:=(h.al a ha).2.1;omega,by simp[h.cs],fun a ha=>(h.al a ha).2.1⟩,fun a ha=>(h.al a ha).2.2⟩
def PW.put{n:Nat}{b:CQ}(h:PW n b){s w:Str}(hw:w≠[])(hl:w.length<1000):PW n (mpC (sbT s (.var w)) b):=by
 have hsb:∀t:Trm,zaL t->zaL (sbT s (.var w) t):=fun t ht=>by
  unfold sbT;split
  .exact hw
  .exact ht
 refine⟨by simp[mpC,h.ln],fun a ha=> ?_,by simp[mpC,h.cs],fun a ha x hx=> ?_⟩
 .obtain⟨c,hc,rfl⟩ :=Z13.1 ha;obtain⟨h1,h2,h3⟩ :=h.al c hc;refine⟨⟨fun t ht=> ?_,by simpa [mpA]using h1.2⟩,by simpa [mpA]using h2,by simpa [mpA]using h3⟩;obtain⟨u,hu,rfl⟩ :=Z13.1 ht;exact hsb u (h1.1 u hu)
 .obtain⟨c,hc,rfl⟩ :=Z13.1 ha;obtain⟨u,hu,e⟩ :=Z13.1 hx;unfold sbT at e;split at e
  .cases e;exact hl
  .exact h.vl c hc x (e▸hu)
def zLL{U:List Str}{x:Str}{n:Nat}(hU:U.length<25)(h:∀m,1<=m->m<n->nmx x m∈U):n<27:=by
 refine Z164 fun hn=> ?_
 have h1:((List.range' 1 25).map (nmx x)).Nodup:=by
  refine List.Pairwise.map _ (fun a b hab=> ?_) (List.Pairwise.and_mem.1 (List.nodup_range' (s:=1) (n:=25)));intro e;have ha:=Z107.1 hab.1;have hb:=Z107.1 hab.2.1;exact hab.2.2 (zxt (by omega) (by omega) e)
 have h2:=zva h1 (m:=U) fun a ha=>by
  obtain⟨m,hm,rfl⟩ :=Z13.1 ha;have:=Z107.1 hm;exact h m this.1 (by omega)
 simp at h2;omega
def zwY(h:Nat->Option Ob)(l:List Str):elemsOf 1 h (.f (zaM l))=some (za1 l,[]):=by
 cases l with
 |nil=>rfl
 |cons a l=>simp[zaM,slc,elemsOf,za1]
def zvR(l m:List Str):za1 l++za1 m=za1 (l++m):=by simp[za1]
theorem zIi:∀(ts:List Trm) (l:List Str),(∀x∈l,x≠[])->∀x∈ts.foldl (fun l t=>zcL l (tv t)) l,x≠[]
 |[],_,h=>h
 |t::ts,l,h=>zIi ts (zcL l (tv t)) fun x hx=>by
  unfold zcL at hx;split at hx
  .exact h x hx
  .rename_i hh;rcases Z5.1 hx with hx|hx
   .exact h x hx
   .rw[Z32.1 hx];exact fun e=>hh (.inl e)
def zTJ(c:CQ):∀x∈vrs c,x≠[]:=zjA c▸zIi (tsC c) [] (by simp)
def apF(A:List Str)(r:List Str×CQ)(x:Str):List Str×CQ:=if A.any (· ==x)=true then(r.1++[nmx x (frs r.1 x)],mpC (sbT x (.var (nmx x (frs r.1 x)))) r.2)else r
def apR(a b:CQ):CQ:=((vrs b).foldl (apF (vrs a)) (vrs a++vrs b,b)).2
def zMk(x:Str)(n:Nat):(nmx x n).length<=x.length+3:=by
 have:=zwX n;simp[nmx];omega
theorem zyL{A:List Str}{n:Nat}:∀{l:List Str} {r:List Str×CQ},PW n r.2->(∀x∈l,x.length<900)->PW n (l.foldl (apF A) r).2
 |[],_,h,_=>h
 | x::l,r,h,hl=>zyL (l:=l) (r:=apF A r x) (by
   unfold apF;split
   .exact h.put (zvc _ _) (by have:=zMk x (frs r.1 x);have:=hl x (by simp);omega)
   .exact h) fun y hy=>hl y (by simp[hy])
def AJ(a:CQ)(B:List Str)(r:List Str×CQ)(i:Nat)(s:St):Prop:=∃id ro,(s.tm.get 2=some (.f .nils)/\s.tm.get 4=some (.ptr 1 2 0 0)/\s.tm.get 6=some (.ptr 2 2 0 0)/\s.tm.get 7=some (.sl id 0 r.1.length 1 r.1.length false)/\s.tm.get 8=some (.f (zaM B))/\s.tm.get 9=some (.f (zaM (vrs a)))/\s.tm.get 10=some (.f (.i .i64 (i:Nat)))/\s.h.get 1=some (.arr 2 0 [[.f (zaS r.2),.f (zaQ r.2)]])/\s.h.get 2=some (.arr 2 0 [[.f .nils,.f .nils]]))/\s.h.get id=some (.arr 1 ro (za1 r.1))/\ro<=r.1.length/\3<=id/\id<s.c/\r.1≠[]
def ans15(a b:CQ)(n0:Nat)(ha:a∈CQp)(hbp:b∈CQp)(hb:PW n0 b)(hn0:n0<=12)(hva:vrs a≠[])(hvb:vrs b≠[])(hla:(vrs a).length<=8)(hlb:(vrs b).length<=8)(hvl:∀x∈vrs b,x.length<900):Ans pr 15 [.ag (cqF a),.ag (cqF b),.nils] (.ag (cqF (apR a b))):=by
  refine zb6 fn15 ?_;simp only[g15,rU];have qa:=fun k=>zav (k:=k) (zHL a ha)
  have qb:=fun k=>zav (k:=k) (zHL b hbp)
  simp only[cqE]at qa qb|-;have eA:=fun h=>zwY h (vrs a)
  have eB:=fun h=>zwY h (vrs b)
  have lA:(vrs a).length≠0:=fun e=>hva (Z18.1 e)
  have lB:(vrs b).length≠0:=fun e=>hvb (Z18.1 e)
  have m1:((vrs a).length<=zak)=True:=za2 (by omega);have m2:((vrs a).length*16<=zak)=True:=za2 (by omega);have m3:((vrs a).length+(vrs b).length<=zak)=True:=za2 (by omega);have m4:(((vrs a).length+(vrs b).length)*16<=zak)=True:=za2 (by omega);have m5:((vrs a).length+(vrs b).length<=(vrs a).length)=False:=leF (by omega);have tA:List.take (vrs a).length (za1 (vrs a))=za1 (vrs a):=zes _;simp[rW,st0,zah,zbO,zbQ];refine zaF ?_;simp[rW,zbO,zbQ,zcb,qa,qb,eA,eB,lA,lB,hva,hvb,m1,m2,m3,m4,m5,tA,zbl];refine zeO (vrs b) (apF (vrs a)) (vrs a++vrs b,b) (fun n r s=>r.1.length<=16+n/\AJ a (vrs b) r n s) (fun e s=>e= .exit 0/\∃n r,r.2=apR a b/\AJ a (vrs b) r n s) ?_ ?_ _ ⟨?_,12,0,?_,?_,?_,?_,?_,?_⟩ ?_
  . rintro n r s hn hr ⟨hUl,id,ro,⟨h2,h4,h6,h7,h8,h9,h10,g1,g2⟩,gU,hro,hid,hidc,hU0⟩;have hpw:PW n0 r.2:=by rw[hr];exact zyL hb fun x hx=>hvl x (Z14 hx)
    obtain⟨U,q⟩ :=r;clear hr;simp only at hUl h7 g1 gU hro hU0 hpw;have hw:=zao n (by omega);have hx:(vrs b)[n]? =some (vrs b)[n]:=Z0 hn;have hxl:=hvl _ (Z2 hn);have hxn:=zTJ b _ (Z2 hn);generalize hX:(vrs b)[n]=x at hx hxl hxn;have q1:=fun k=>zav (k:=k) (zyH (vrs a) x (by omega))
    have q2:=fun k=>zav (k:=k) (zyH [] x (by simp))
    rw[(show zaM []= .nils from rfl),List.any_nil]at q2;have b1:=zt4 (x:=x) (by omega);have eF:apF (vrs a) (U,q) x=if(vrs a).any (· ==x)=true then(U++[nmx x (frs U x)],mpC (sbT x (.var (nmx x (frs U x)))) q)else(U,q):=rfl
    rw[eF];clear eF;generalize (vrs a).any (· ==x)=bm at q1|-;cases bm with
    | false=>
      simp -implicitDefEqProofs [rW,h2,h4,h6,h7,h8,h9,h10,g1,g2,hn,zbN,zco,hx,hX,q1,q2,hw];refine⟨by omega,id,ro,?_,?_,hro,hid,?_,hU0⟩
      . simp[rW,h2,h4,h6,h7,h8,h9,h10,g1,g2,hw]
      . simp[rW,gU]
      . simp[rW,hidc]
    | true=>
      simp -implicitDefEqProofs [rW,h2,h4,h6,h7,h8,h9,h10,g1,g2,hn,zbN,zco,hx,hX,q1,q2];refine zcN (fun k s=>∃m:Nat,(k=27 - m/\1<=m/\m<27/\∀j,1<=j->j<m->nmx x j∈U)/\AJ a (vrs b) (U,q) n s/\s.tm.get 11=some (.f (.i .i64 (m:Nat)))) (fun e s=>e= .exit 2/\AJ a (vrs b) (U,q) n s/\s.tm.get 11=some (.f (.i .i64 (frs U x:Nat)))/\1<=frs U x/\frs U x<27) ?_ 26 _ ⟨1,⟨rfl,by omega,by omega,fun j h1 h2=>by omega⟩,⟨id,ro,?_,?_,hro,hid,?_,hU0⟩,?_⟩ ?_
      . clear h2 h4 h6 h7 h8 h9 h10 g1 g2 gU hro hid hidc s;clear id ro;rintro k s ⟨m,⟨rfl,hm1,hm2,hall⟩,⟨id,ro,⟨h2,h4,h6,h7,h8,h9,h10,g1,g2⟩,gU,hro,hid,hidc,-⟩,h11⟩;simp only at h7 gU hro g1;have hwm:=zao m (by omega);have b2:=zpv (x:=x) (by omega) m;have q24:=fun k=>zav (k:=k) (zHO m hm1 hm2)
        have q3:=fun k=>zav (k:=k) (zyH U (nmx x m) (by omega))
        have hz:=zo2 hU0
        by_cases hmem:nmx x m∈U
        . have hall2:∀j,1<=j->j<m+1->nmx x j∈U:=fun j h1 h2=>by
            by_cases hj:j=m
            . subst hj;exact hmem
            . exact hall j h1 (by omega)
          have hlt:=zLL (by omega) hall2;have e1:U.any (· ==nmx x m)=true:=Z31.2 ⟨_,hmem,by simp⟩;rw[e1]at q3
          by_cases hr:U.length<=ro
          . simp[rW,h2,h4,h6,h7,h8,h9,h10,g1,g2,h11];refine zaF ?_;simp[rW,h2,h4,h6,h7,h8,h9,h10,g1,g2,h11,hn,zco,hx,hX,b1,b2,q24,q3,gU,zbl,ze2,hz,zes,hr,hwm];rw[zcc];refine⟨27 - (m+1),by omega,m+1,⟨rfl,by omega,hlt,hall2⟩,⟨id,ro,?_,?_,hro,hid,?_,hU0⟩,?_⟩
            . simp[rW,h2,h4,h6,h7,h8,h9,h10,g1,g2]
            . simp[rW,gU]
            . simp[rW,];omega
            . simp[rW,hwm]
          . simp[rW,h2,h4,h6,h7,h8,h9,h10,g1,g2,h11];refine zaF ?_;simp[rW,h2,h4,h6,h7,h8,h9,h10,g1,g2,h11,hn,zco,hx,hX,b1,b2,q24,q3,gU,zbl,ze2,hz,zes,hr,hwm];refine⟨by omega,?_⟩;rw[zcc];refine⟨27 - (m+1),by omega,m+1,⟨rfl,by omega,hlt,hall2⟩,⟨id,U.length,?_,?_,Z3 _,hid,?_,hU0⟩,?_⟩
            . have n1:¬1=id:=by omega
              have n2:¬2=id:=by omega
              simp[rW,h2,h4,h6,h7,h8,h9,h10,g1,g2,n1,n2]
            . simp[rW,]
            . simp[rW,];omega
            . simp[rW,hwm]
        . have hfr:=zCl hm1 (by omega) hmem hall;have e1:U.any (· ==nmx x m)=false:=Z194.2 fun y hy=>by
            simp only[beq_iff_eq];rintro rfl;exact hmem hy
          rw[e1]at q3;rw[hfr]
          by_cases hr:U.length<=ro
          . simp[rW,h2,h4,h6,h7,h8,h9,h10,g1,g2,h11];refine zaF ?_;simp[rW,h2,h4,h6,h7,h8,h9,h10,g1,g2,h11,hn,zco,hx,hX,b1,b2,q24,q3,gU,zbl,ze2,hz,zes,hr];refine⟨⟨id,ro,?_,?_,hro,hid,?_,hU0⟩,hm1,hm2⟩
            . simp[rW,h2,h4,h6,h7,h8,h9,h10,g1,g2]
            . simp[rW,gU]
            . simp[rW,];omega
          . simp[rW,h2,h4,h6,h7,h8,h9,h10,g1,g2,h11];refine zaF ?_;simp[rW,h2,h4,h6,h7,h8,h9,h10,g1,g2,h11,hn,zco,hx,hX,b1,b2,q24,q3,gU,zbl,ze2,hz,zes,hr];refine⟨by omega,⟨id,U.length,?_,?_,Z3 _,hid,?_,hU0⟩,hm1,hm2⟩
            . have n1:¬1=id:=by omega
              have n2:¬2=id:=by omega
              simp[rW,h2,h4,h6,h7,h8,h9,h10,g1,g2,n1,n2]
            . simp[rW,]
            . simp[rW,];omega
      . simp[rW,h2,h4,h6,h7,h8,h9,h10,g1,g2]
      . simp[rW,gU]
      . simp[rW,];omega
      . simp[rW,]
      . clear h2 h4 h6 h7 h8 h9 h10 g1 g2 gU hro hid hidc s;clear id ro;rintro e s ⟨rfl,⟨id,ro,⟨h2,h4,h6,h7,h8,h9,h10,g1,g2⟩,gU,hro,hid,hidc,-⟩,h11,hf1,hf2⟩;simp only at h7 gU hro g1;rw[zfQ,Z52 rfl,zgs];generalize frs U x=m at h11 hf1 hf2|-;have b2:=zpv (x:=x) (by omega) m;have q24:=fun k=>zav (k:=k) (zHO m hf1 hf2)
        have q25:=fun k=>zav (k:=k) (ans25 q x (nmx x m) hxn (zvc _ _) (hpw.g hn0) hpw.cs)
        simp only[cqE]at q25;have n1:((1:Nat)<=zak)=True:=za2 (by omega);have n2:((16:Nat)<=zak)=True:=za2 (by omega);have n3:(U.length+1<=zak)=True:=za2 (by omega);have n4:((U.length+1)*16<=zak)=True:=za2 (by omega);have n5:(U.length+1<=U.length)=False:=leF (by omega);simp[rW,h2,h4,h6,h7,h8,h9,h10,g1,g2,h11];refine zaF ?_;simp[rW,h2,h4,h6,h7,h8,h9,h10,g1,g2,h11,hn,zco,hx,hX,b1,b2,q24,gU,zbl,hro,n1,n2,n3,n4,n5];refine⟨by omega,zaF ?_⟩;have k1:¬1=id:=by omega
        have k2:¬2=id:=by omega
        have k3:¬1=s.c+1+1+1+1+1+1+1+1+1:=by omega
        have k4:¬2=s.c+1+1+1+1+1+1+1+1+1:=by omega
        have k5:¬s.c+1+1+1+1+1+1+1+1+1=1:=by omega
        simp[rW,h2,h4,h6,h7,h8,h9,h10,g1,g2,h11,hn,zco,hx,hX,k1,k2,k3,k4,q25,zbO,zbQ,zfx,ze8];refine⟨by omega,s.c+1+1+1+1+1+1+1+1+1,ro,?_,?_,?_,by omega,?_,by simp⟩
        . simp[rW,h2,h4,h6,h7,h8,h9,h10,g1,g2,k1,k2,k3,k4,hw]
        . have e:za1 U++[[D.f (F.s (nmx x m))]]=za1 (U++[nmx x m]):=by simp[za1]
          simp[rW,k5,e]
        . simp;omega
        . simp[rW,]
  . rintro s ⟨hUl,id,ro,⟨h2,h4,h6,h7,h8,h9,h10,g1,g2⟩,gU,hro,hid,hidc,hU0⟩;simp[rW,h2,h4,h6,h7,h8,h9,h10,g1,g2,zbN];refine⟨(vrs b).length,_,id,ro,?_,?_,hro,hid,?_,hU0⟩
    . simp[rW,h2,h4,h6,h7,h8,h9,h10,g1,g2];exact⟨rfl,rfl⟩
    . simp[rW,gU]
    . simp[rW,];omega
  . simp;omega
  . simp[rW,zvR]
  . simp[rW,zvR]
  . omega
  . omega
  . simp[rW,]
  . simp[hva]
  . rintro e s ⟨rfl,n,r,hr,id,ro,⟨h2,h4,h6,h7,h8,h9,h10,g1,g2⟩,gU,hro,hid,hidc,hU0⟩;rw[hr]at g1;simp[rW,h2,h4,h6,h7,h8,h9,h10,g1,g2,zbO,zbQ,zfx,ze8];omega
def fn21:pr.fn 21=some g21:=by kernel_rfl
def zhA(a:Int)(m:Nat)(hm:m<2147483648):∃r:Nat,r<=m/\za7 .and (.i .i64 a) (.i .i64 m)=some (.i .i64 r):=by
 refine⟨(BitVec.ofInt 64 a&&& BitVec.ofInt 64 m).toNat,?_,?_⟩
 .rw[BitVec.toNat_and];refine Z4 Z204 ?_;rw[BitVec.toNat_ofInt];omega
 .have hle:(BitVec.ofInt 64 a&&& BitVec.ofInt 64 m).toNat<=m:=by
   rw[BitVec.toNat_and];refine Z4 Z204 ?_;rw[BitVec.toNat_ofInt];omega
  have e:za7 .and (.i .i64 a) (.i .i64 m)=some (.i .i64 (IntKind.i64.wrap ((BitVec.ofInt 64 a&&& BitVec.ofInt 64 m).toNat:Int))):=rfl;rw[e,wrap_i64 _ (by omega) (by omega)]
def zgo(x:F):Prop:=x= .nils\/∃zs:List Int,x= .sl 1 (zs.map fun z=>[.i .i64 z])
def zhU(a b:Nat)(hb:b≠0):za7 .rem (.i .i64 a) (.i .i64 b)=some (.i .i64 ((a%b:Nat):Int)):=by
 rw[zKG _ _ (by omega)];rfl
def fn8:pr.fn 8=some g8:=by kernel_rfl
def fn17:pr.fn 17=some g17:=by kernel_rfl
def fn14:pr.fn 14=some g14:=by kernel_rfl
def zS9(f:A->Option D)(x:A):(O.s2b x).res f=(f x).bind fun y=>some (.s2b y):=rfl
def zSE(f:A->Option D)(x:A):(O.b2s x).res f=(f x).bind fun y=>some (.b2s y):=rfl
def o_s2b{pr:Pr}{s:St}{Q:St->Prop}{dst:Option Nat}{l:List Go.Vse.Op}{x:A}:wpO pr (⟨dst,none,.s2b x⟩ ::l) s Q↔oB (((O.s2b x).res (zad s.tm)).bind (opv s.h.get s.c)) fun r=>zaq r.c r.wr=true/\wpO pr l (s.aft dst r.d r.wr r.c) Q:=zdp rfl
def o_b2s{pr:Pr}{s:St}{Q:St->Prop}{dst:Option Nat}{l:List Go.Vse.Op}{x:A}:wpO pr (⟨dst,none,.b2s x⟩ ::l) s Q↔oB (((O.b2s x).res (zad s.tm)).bind (opv s.h.get s.c)) fun r=>zaq r.c r.wr=true/\wpO pr l (s.aft dst r.d r.wr r.c) Q:=zdp rfl
def byE(l:Str):List (List D):=l.map fun x=>[D.f (.i .u8 x.toNat)]
def v_s2b{h:Nat->Option Ob}{c:Nat}{l:Str}(hl:l≠[]):opv h c (.s2b (.f (.s l)))=some {d:= .sl c 0 l.length 1 l.length false,wr:=[(c,some (.arr 1 0 (byE l)))],c:=c+1}:=by
 simp[opv,hl,byE]
theorem zHV:∀l:Str,zdQ (byE l)=some l
 |[]=>rfl
 |x::l=>by
  have:=zHV l;simp only[byE,Z11,zdQ]at this|-;rw[this];simp
def v_b2s{h:Nat->Option Ob}{c id len lim:Nat}{ex:Bool}{l:Str}(hg:h id=some (.arr 1 0 (byE l)))(hl:l.length=len):opv h c (.b2s (.sl id 0 len 1 lim ex))=some {d:= .f (.s l),rd:=[id],c:=c}:=by
 have h1:(byE l).length=l.length:=by simp[byE]
 have h2:elemsOf 1 h (.sl id 0 len 1 lim ex)=some (byE l,[id]):=by
  rw[znw,hg,zc0,ziQ,Z52 ⟨rfl,rfl,by omega⟩,Z35,<-hl,<-h1,Z8]
 simp only[opv,h2,zHV]
def zMr(a b:Nat)(hb:b≠0)(ha:a<1000000):za7 .quo (.i .i64 a) (.i .i64 b)=some (.i .i64 ((a/b:Nat):Int)):=by
 have:=Nat.div_le_self a b;rw[zKF _ _ (by omega),show(a:Int).tdiv b=((a/b:Nat):Int)from rfl];generalize a/b=q at*;rw[wrap_i64 _ (by omega) (by omega)]
def zJ8(a b:Nat)(ha:a<1000000)(hb:b<1000000):IntKind.i64.wrap ((a:Int)+b)=((a+b:Nat):Int):=by
 rw[wrap_i64 _ (by omega) (by omega)];omega
def ans8{x:F}(hx:zgo x)(i:Nat)(hi:i<1000):∃n:Nat,n<100000/\Ans pr 8 [x,.i .i64 i] (.i .i64 n):=by
 obtain⟨r0,hr0,he0⟩ :=zhA i 65535 (by omega);have he0':za7 .and (.i .i64 i) (.i .i64 65535)=some (.i .i64 r0):=he0;have nil:zbv (.f .nils)=some 0:=rfl
 by_cases hz:x= .nils\/x= .sl 1 []
 .refine⟨r0,by omega,zb6 fn8 ?_⟩;simp only[g8,rU];rcases hz with rfl|rfl
  .simp[rW,st0,zah,he0']
  .simp[rW,st0,zah,he0',F.d]
 .rcases hx with rfl|⟨zs,rfl⟩
  .exact absurd (.inl rfl) hz
  .have hz:zs≠[]:=fun e=>hz (.inr (by rw[e];rfl))
   have hlen:0<zs.length:=Z130.2 hz;have hn0:¬zs.length=0:=by omega
   have hni:¬((zs.length:Int)=0):=by omega
   have hmod:i%zs.length<zs.length:=Z125 _ hlen;have hrem:=zhU i zs.length hn0;have hquo:=zMr i zs.length hn0 (by omega);have hdl:i/zs.length<=i:=Nat.div_le_self _ _;generalize i%zs.length=m at hmod hrem;generalize i/zs.length=d at hquo hdl;obtain⟨r,hr,he⟩ :=zhA zs[m] 65535 (by omega);have he':za7 .and (.i .i64 zs[m]) (.i .i64 65535)=some (.i .i64 r):=he;have hx:zs[m]? =some zs[m]:=Z0 hmod;have hw:=zJ8 r d (by omega) (by omega);refine⟨r+d,by omega,zb6 fn8 ?_⟩;simp only[g8,rU];simp[rW,st0,zah,hni,hn0,F.d];refine zaF ?_;simp[rW,st0,zah,hrem,hquo,hmod,he',hx,hw,F.d]
def bin8(a b:Int):za7 .eql (.i .u8 a) (.i .u8 b)=some (.b (a==b)):=rfl
def zCp{R:Str}(h:R≠[]):hd8 (byE R)=true:=by
 cases R with
 |nil=>exact absurd rfl h
 |cons a l=>rfl
def JR(r z:Nat)(p:Str)(n:Nat)(s:St):Prop:=(s.tm.get 1=some (.f (.i .i64 z))/\s.tm.get 4=some (.ptr 0 2 0 0)/\s.tm.get 5=some (.sl 1 0 p.length 1 p.length false)/\s.tm.get 6=some (.f (.i .i64 n))/\s.h.get 0=some (.arr 2 0 [[.f .nils,.f .nils]])/\s.h.get 1=some (.arr 1 0 (byE ((p.take n).map (rb r)++p.drop n))))/\2<=s.c
def ans17(p:Str)(z:Nat)(c:CQ)(hp:p≠[])(hl:p.length<1000)(h:Ans pr 20 [.s (p.map (rb (z%3)))] (.tu [.ag [.nils,.sl 2 [cqF c]],.i .i64 0])):Ans pr 17 [.s p,.i .i64 z] (.ag (cqF c)):=by
 refine zb6 fn17 ?_;simp only[g17,rU];have hs2b:=fun h c=>v_s2b (h:=h) (c:=c) hp
 have hrem:=zhU z 3 (by omega);rw[show((3:Nat):Int)=3 from rfl]at hrem;have hr3:z%3<3:=Z125 _ (by omega);generalize z%3=r at h hrem hr3;have q76:=fun k=>zav (k:=k) h
 have hbl:∀n,((p.take n).map (rb r)++p.drop n).length=p.length:=fun n=>by simp;omega
 simp[rW,st0,zah,o_s2b,zS9,hs2b];refine zeO p (fun(x:Unit) _=>x) () (fun n _ s=>JR r z p n s) (fun x s=>x= .exit 0/\JR r z p p.length s) ?_ ?_ _ ?_ ?_
 .rintro n a s hn - ⟨⟨h1,h4,h5,h6,g0,g1⟩,hc⟩;have hw:=zao n (by omega);have hL:=hbl n;have hx:((p.take n).map (rb r)++p.drop n)[n]? =some p[n]:=by
   rw[Z63 (by simp;omega)];simp[hn,Z74 (Z111 hn)]
  have hnx:(p.take (n+1)).map (rb r)++p.drop (n+1)=((p.take n).map (rb r)++p.drop n).set n (rb r p[n]):=by
   have e:n - (List.map (rb r) (List.take n p)).length=0:=by simp;omega
   rw[Z113 _ _ (by simp;omega),e,Z7 hn,Z56 hn,Z21,Z33];rfl
  generalize hR:(p.take n).map (rb r)++p.drop n=R at*;have hbe:(byE R)[n]? =some [D.f (.i .u8 p[n].toNat)]:=by simp[byE,hx]
  have hbn:(byE R).length=p.length:=by simp[byE,hL]
  have hbg:∀h:n< (byE R).length,(byE R)[n]=[D.f (.i .u8 p[n].toNat)]:=fun h=>by
   rw[Z0 h]at hbe;exact Z54 hbe
  have hst:(byE R).set n [D.f (.i .u8 (rb r p[n]).toNat)]=byE (R.set n (rb r p[n])):=by
   unfold byE;rw[Z117]
  have hR0:R≠[]:=fun e=>by rw[e]at hL;simp at hL;omega
  have h81:=zCp hR0
  by_cases h64:p[n]=64
  .have hcv:IntKind.u8.wrap (49+(r:Int))=((rb r 64).toNat:Int):=by
    obtain rfl|rfl|rfl:r=0\/r=1\/r=2:=by omega
    all_goals rfl
   have hv:IntKind.i64.wrap (49+(r:Int))=49+(r:Int):=wrap_i64 _ (by omega) (by omega);rw[h64]at hbg hst hnx;have h82:=zCp (R:=R.set n (rb r 64)) (by simpa using hR0);simp[rW,h1,h4,h5,h6,g0,g1,hn,hbg,hbn,hrem,hv,hcv,bin8,hst,h81,h82];refine⟨by omega,⟨?_,?_⟩⟩
   .simp[rW,h1,h4,h5,h6,g0,g1,hw,hnx];rw[<-hnx,Z150]
   .simp[rW,hc]
  .have hne:¬((p[n].toNat:Int)=64):=fun e=>h64 (UInt8.toNat_inj.1 (by have:UInt8.toNat 64=64:=rfl;omega))
   have hrb:rb r p[n]=p[n]:=by unfold rb;rw[Z50 h64]
   rw[hrb,<-Z54 ((Z0 (by omega)).symm.trans hx),Z96]at hnx;simp[rW,h1,h4,h5,h6,g0,g1,hn,hbg,hbn,h64,bin8,hne];refine⟨?_,?_⟩
   .simp[rW,h1,h4,h5,h6,g0,g1,hw,hnx];rw[<-hnx,Z150]
   .simp[rW,hc]
 .rintro s ⟨⟨h1,h4,h5,h6,g0,g1⟩,hc⟩;simp[rW,h1,h4,h5,h6,g0,g1];refine⟨?_,?_⟩
  .simp[rW,h1,h4,h5,h6,g0,g1]
  .simp[rW,hc]
 .refine⟨?_,?_⟩
  .simp[rW,]
  .simp[rW,]
 .rintro x s ⟨rfl,⟨h1,h4,h5,h6,g0,g1⟩,hc⟩;rw[Z8,Z207,Z23]at g1;have hb2s:=fun(h:Nat->Option Ob) c (hg:h 1=some (.arr 1 0 (byE (p.map (rb r)))))=>v_b2s (c:=c) (lim:=p.length) (ex:=false) hg (len:=p.length) (by simp)
  have n0:¬(0=s.c):=by omega
  have n0':¬(s.c=0):=by omega
  simp only[cqE]at q76|-;simp[rW,h1,h4,h5,h6,g0,g1,o_b2s,zSE,hb2s,q76,n0,n0',zbO,zbQ]
def fn7:pr.fn 7=some g7:=by kernel_rfl
def pick{C:List CQ}{L:List (List F)}(h:∀x∈L,RdX C x){j:Nat}(hj:j<L.length)(z:Nat):∃c∈C,∃p,L[j]? =some [.s p]/\Ans pr 17 [.s p,.i .i64 z] (.ag (cqF c)):=by
 obtain⟨p,e,h1,h2,h3⟩ :=h L[j] (Z2 hj);obtain⟨c,hc,q⟩ :=h3 (z%3) (Z125 _ (by omega));exact⟨c,hc,p,by rw[Z0 hj,e],ans17 p z c h1 h2 q⟩
def ans21(n:Int):∃c∈CQl,Ans pr 21 [.i .i64 n] (.ag (cqF c)):=by
 obtain⟨r,hr,he⟩ :=zhA n 65535 (by omega);obtain⟨z,hz⟩ :∃z:Int,za7 .shr (.i .i64 n) (.i .u64 6)=some (.i .i64 z):=⟨_,rfl⟩
 obtain⟨k,hk,hke⟩ :=zhA z 7 (by omega);have he':za7 .and (.i .i64 n) (.i .i64 65535)=some (.i .i64 r):=he;have hke':za7 .and (.i .i64 z) (.i .i64 7)=some (.i .i64 k):=hke;have hrem:=zhU r 24 (by omega);rw[show((24:Nat):Int)=24 from rfl]at hrem;have hpl:paL.length=24:=rfl;have hj:r%24<paL.length:=by rw[hpl];exact Z125 _ (by omega)
 generalize r%24=j at hrem hj;obtain⟨c,hc,p,hp,h38⟩ :=pick rdA hj k;have hp2:∀h:j<paL.length,paL[j]=[.s p]:=fun h=>by
  rw[Z0 h]at hp;exact Z54 hp
 simp only[cqE]at h38;rw[hpl]at hj;have q37:=fun k=>zav (k:=k) ans41
 have q38:=fun k=>zav (k:=k) h38
 refine⟨c,hc,zb6 fn21 ?_⟩;simp only[g21,rU];simp -implicitDefEqProofs [rR,st0,zah,q37,he',hz,hke',hrem,hp,hpl,hp2,hj,q38,cqE,zbO,zbQ]
def ans7(n:Nat):∃c∈CQp,Ans pr 7 [.i .i64 n] (.ag (cqF c)):=by
 obtain⟨r,hr,he⟩ :=zhA n 65535 (by omega);obtain⟨z,hz⟩ :∃z:Int,za7 .shr (.i .i64 n) (.i .u64 6)=some (.i .i64 z):=⟨_,rfl⟩
 obtain⟨k,hk,hke⟩ :=zhA z 7 (by omega);have he':za7 .and (.i .i64 n) (.i .i64 65535)=some (.i .i64 r):=he;have hke':za7 .and (.i .i64 z) (.i .i64 7)=some (.i .i64 k):=hke;have hrem:=zhU r 18 (by omega);rw[show((18:Nat):Int)=18 from rfl]at hrem;have hpl:poL.length=18:=rfl;have hj:r%18<poL.length:=by rw[hpl];exact Z125 _ (by omega)
 generalize r%18=j at hrem hj;obtain⟨c,hc,p,hp,h38⟩ :=pick rdO hj k;have hp2:∀h:j<poL.length,poL[j]=[.s p]:=fun h=>by
  rw[Z0 h]at hp;exact Z54 hp
 simp only[cqE]at h38;rw[hpl]at hj;have q77:=fun k=>zav (k:=k) ans16
 have q38:=fun k=>zav (k:=k) h38
 refine⟨c,hc,zb6 fn7 ?_⟩;simp only[g7,rU];simp -implicitDefEqProofs [rR,st0,zah,q77,he',hz,hke',hrem,hp,hpl,hp2,hj,q38,cqE,zbO,zbQ]
def atZ{x:F}(hx:zgo x):∃z:Nat->Nat,∀i,i<1000->z i<100000/\Ans pr 8 [x,.i .i64 i] (.i .i64 (z i)):=by
 have:∀i:Nat,∃n:Nat,i<1000->n<100000/\Ans pr 8 [x,.i .i64 i] (.i .i64 n):=fun i=>by
  by_cases hi:i<1000
  .obtain⟨n,h⟩ :=ans8 hx i hi;exact⟨n,fun _=>h⟩
  .exact⟨0,fun h=>absurd h hi⟩
 exact Z208.1 this
def zjP{x:F}(hx:zgo x):x.d= .f x:=by
 rcases hx with rfl|⟨zs,rfl⟩
 .rfl
 .rfl
def zMo{h:T Ob}{lo c id:Nat}{l:List Str}(hl:l≠[])(hg:h.get id=some (.arr 1 0 (za1 l)))(h1:lo<=id)(h2:id<c):Own h lo c (.sl id 0 l.length 1 l.length true) (zaM l):=by
 refine⟨.inr ⟨_,_,_,_,_,_,rfl⟩,rfl,fun x hx=> ?_,fun h' hh k=>⟨[id],?_⟩⟩
 .simp only[D.oid,Z46]at hx;omega
 .rw[zgw,hh id rfl,hg,zc0,zgd];simp only[true_and,Z26,zbl,Z3,Z61,Z35,zes,ze2,zc0];rw[zo2 hl]
def XQ(x:F)(hd:List Str)(L:List CQ)(P:Nat)(s:St):Prop:=∃d dh,(s.tm.get 0=some (.f x)/\s.tm.get 2=some (.ptr 0 2 0 0)/\s.tm.get 3=some (.ptr 1 2 0 0)/\s.h.get 0=some (.arr 2 0 [[.f .nils,.f .nils]])/\s.h.get 1=some (.arr 2 0 [[dh,d]]))/\2<=P/\P<=s.c/\Own s.h 2 P dh (zaM hd)/\Gro s.h P s.c 2 d (zca L)
def b13:C:= .seq (oD [oM 12 4,oM 13 0,oR 14 (.callp 8 [(.t 13),(.k (.i .i64 1))]),oR 15 (.bin .rem (.t 14) (.k (.i .i64 3))),oR 16 (.bin .leq (.t 12) (.t 15))] 16 .skip (.exit 0))
 (.seq (.blk 1 (.dreg [(oF 19 1 3,0),(oK 20 1 19,0),(oM 21 0,3),(oM 22 4,7),(oR 23 (.bin .add (.k (.i .i64 2)) (.t 22)),7),(oR 24 (.callp 8 [(.t 21),(.t 23)]),3),(oR 25 (.callp 7 [(.t 24)]),3),(oR 26 (.bsf 2 [.nils,.nils] 1 [(0,(.t 25))]),3),(oR 27 (.app 2 48 (.t 20) (.t 26)),0),(oF 28 1 3,0),(oS 1 28 27,0)]))
 (.reg [oM 17 4,oR 18 (.bin .add (.t 17) (.k (.i .i64 1))),oM 4 18]))
def zqe(cf:Nat->CQ)(n:Nat):(List.range (n+1)).map cf=(List.range n).map cf++[cf n]:=by
 rw[Z137,Z21];rfl
def lp13{x:F}(hx:zgo x){z:Nat->Nat}(hz:∀i,i<1000->z i<100000/\Ans pr 8 [x,.i .i64 i] (.i .i64 (z i))){cf:Nat->CQ}(hcf:∀i,i<10->Ans pr 7 [.i .i64 (z (2+i))] (.ag (cqF (cf i)))){hd:List Str}{P:Nat}{Q:Ex->St->Prop}(s:St)(h:XQ x hd [] P s)(h4:s.tm.get 4=some (.f (.i .i64 0)))(hQ:∀s,XQ x hd ((List.range (z 1%3+1)).map cf) P s->Q (.exit 0) s):WL pr b13 s Q:=by
 have h36:Ans pr 8 [x,.i .i64 1] (.i .i64 (z 1)):=(hz 1 (by omega)).2;have q36:=fun k=>zav (k:=k) h36
 have hrem:=zhU (z 1) 3 (by omega);rw[show((3:Nat):Int)=3 from rfl]at hrem;have hm:z 1%3<3:=Z125 _ (by omega);generalize z 1%3=m at hrem hm hQ;refine zcN (fun k s=>∃n:Nat,(k=m+1 - n/\n<=m+1)/\XQ x hd ((List.range n).map cf) P s/\s.tm.get 4=some (.f (.i .i64 n))) (fun e s=>e= .exit 0/\XQ x hd ((List.range (m+1)).map cf) P s) ?_ (m+1) _ ⟨0,⟨rfl,by omega⟩,h,h4⟩ (by rintro e s ⟨rfl,h⟩;exact hQ s h);clear h h4 hQ s;rintro k s ⟨n,⟨rfl,hn⟩,⟨d,dh,⟨h0,h2,h3,g0,g1⟩,hP,hPc,hO,hg⟩,h4⟩;unfold b13;simp only[rU]
 by_cases hle:n<=m
 .have h36n:=(hz (2+n) (by omega)).2;rw[Int.natCast_add,show((2:Nat):Int)=2 from rfl]at h36n;have q36n:=fun k=>zav (k:=k) h36n
  have q39:=fun k=>zav (k:=k) (hcf n (by omega))
  have hw:=zao n (by omega);have hw2:IntKind.i64.wrap (2+(n:Int))=2+(n:Int):=wrap_i64 _ (by omega) (by omega);simp only[cqE]at q39;simp[rW,h0,h2,h3,g0,g1,h4,q36,hrem,hle];refine zaF ?_;simp[rW,h0,h2,h3,g0,g1,h4,hw2,q36n,q39,cqE,zbO,zbQ];refine zfm (zbh hg (by omega) fun _ _ _=>rfl) (by omega) (by rw[zcm];simp;omega) (by omega) ?_;intro r hr1 hr2 hr3 hr4 hr5;have e0:=hr4 0 (by omega) (zbi hg (by omega));have e1:=hr4 1 (by omega) (zbi hg (by omega));rw[g0]at e0;rw[g1]at e1;refine⟨hr1,?_⟩;simp[rW,e1,zbj hr2];rw[zcc];refine⟨m+1 - (n+1),by omega,n+1,⟨rfl,by omega⟩,⟨r.d,dh,?_,hP,?_,?_,?_⟩,?_⟩
  .simp[rW,h0,h2,h3,e0,e1]
  .simp[rW,];omega
  .refine hO.up (fun y hy=> ?_) (Z3 _) (Z3 _);have hy2:=hO.2.2.1 y hy;have e:=hr4 y (by omega) (zbi hg (by omega));have ny:¬(y=1):=by omega
   simp[rW,ny,e]
  .rw[zqe,zf2];refine zbh hr2 (by simp[rW,];omega) fun y h1 h2=> ?_
   have ny:¬(y=1):=by omega
   simp[rW,ny]
  .simp[rW,hw]
 .have e:n=m+1:=by omega
  subst e;have hl:¬((m:Int)+1<=m):=by omega
  simp[rW,h0,h2,h3,g0,g1,h4,q36,hrem,hl];refine⟨d,dh,?_,hP,?_,?_,?_⟩
  .simp[rW,h0,h2,h3,g0,g1]
  .simp[rW,];exact hPc
  .simp[rW,];exact hO
  .simp[rW,];exact hg
def zEM{x:F}{hd:List Str}{L:List CQ}{P:Nat}{s:St}(h:XQ x hd L P s):∃d dh,(s.tm.get 2=some (.ptr 0 2 0 0)/\s.tm.get 3=some (.ptr 1 2 0 0)/\s.h.get 0=some (.arr 2 0 [[.f .nils,.f .nils]])/\s.h.get 1=some (.arr 2 0 [[dh,d]]))/\d.cells=some [d]/\dh.cells=some [dh]/\(∃rd,frz (s.h.set 0 (.arr 2 0 [[dh,d]])).get 11 d=some (qsF L,rd))/\(∃rd,frz (s.h.set 0 (.arr 2 0 [[dh,d]])).get 11 dh=some (zaM hd,rd))/\2<=s.c:=by
 obtain⟨d,dh,⟨h0,h2,h3,g0,g1⟩,hP,hPc,hO,hg⟩ :=h;have hh2:∀y,y≠0->(s.h.set 0 (.arr 2 0 [[dh,d]])).get y=s.h.get y:=fun y hy=>by simp[TG,hy]
 exact⟨d,dh,⟨h2,h3,g0,g1⟩,zbj hg,hO.2.1,ziU (k:=10) (zbh (h':=s.h.set 0 (.arr 2 0 [[dh,d]])) hg (Z3 _) (fun y h1 _=>hh2 y (by omega))) (zi9 _ 9 _) (by simp[zca]),hO.2.2.2 _ (fun y hy=>hh2 y (by have:=hO.2.2.1 y hy;omega)) 9,by omega⟩
def clM{L:List CQ}{cf:Nat->CQ}(h:∀i,cf i∈L)(n:Nat):∀c∈(List.range n).map cf,c∈L:=by
 intro c hc;obtain⟨i,_,rfl⟩ :=Z13.1 hc;exact h i
def QP(l:List CQ):Prop:=l≠[]/\l.length<=3/\∀c∈l,c∈CQp
def ans14{x:F}(hx:zgo x):∃hd l,hd.length<10/\QP l/\Ans pr 14 [x] (.ag [zaM hd,qsF l]):=by
 obtain⟨z,hz⟩ :=atZ hx;obtain⟨cf,hcf⟩ :=Z208.1 fun i=>ans7 (z (2+i))
 have h0:Ans pr 8 [x,.i .i64 0] (.i .i64 (z 0)):=(hz 0 (by omega)).2;have q0:=fun k=>zav (k:=k) h0
 have hrem:=zhU (z 0) 2 (by omega);rw[show((2:Nat):Int)=2 from rfl]at hrem;have hr2:z 0%2<2:=Z125 _ (by omega);generalize z 0%2=r at hrem hr2;have hm:z 1%3<3:=Z125 _ (by omega);have hc2:(D.f x).cells=some [.f x]:=by rcases hx with rfl|⟨zs,rfl⟩ <;>rfl
 refine⟨if r=1 then[[120]]else[],(List.range (z 1%3+1)).map cf,by split<;>simp,⟨by simp,by simp;omega,clM (fun i=>(hcf i).1) _⟩,zb6 fn14 ?_⟩;simp only[g14,rU]
 by_cases h1:r=1
 .have h1':((r:Int)=1):=by omega
  rw[Z52 h1];simp[rW,st0,zah,zjP hx,q0,hrem,h1',hc2];refine lp13 hx hz (fun i _=>(hcf i).2) (P:=3) (hd:=[[120]]) _ ⟨.f .nils,.sl 2 0 1 1 1 true,?_,by omega,?_,zMo (l:=[[120]]) (by simp) (by simp[rW,za1]) (by omega) (by omega),.inl ⟨rfl,rfl⟩⟩ ?_ fun s h=> ?_
  .simp[rW,]
  .simp[rW,]
  .simp[rW,]
  .obtain⟨d,dh,⟨h2,h3,g0,g1⟩,c1,c2,⟨rd,z1⟩,⟨rd2,z2⟩,hc⟩ :=zEM h;simp[rW,h2,h3,g0,g1,c1,c2,z1,z2];omega
 .have h1':¬((r:Int)=1):=by omega
  rw[Z50 h1];simp[rW,st0,zah,zjP hx,q0,hrem,h1',hc2];refine lp13 hx hz (fun i _=>(hcf i).2) (P:=2) (hd:=[]) _ ⟨.f .nils,.f .nils,?_,by omega,?_,ziV (rows:=[]) (.inl ⟨rfl,rfl⟩),.inl ⟨rfl,rfl⟩⟩ ?_ fun s h=> ?_
  .simp[rW,]
  .simp[rW,]
  .simp[rW,]
  .obtain⟨d,dh,⟨h2,h3,g0,g1⟩,c1,c2,⟨rd,z1⟩,⟨rd2,z2⟩,hc⟩ :=zEM h;simp[rW,h2,h3,g0,g1,c1,c2,z1,z2];omega
def fn13:pr.fn 13=some g13:=by kernel_rfl
def fn4:pr.fn 4=some g4:=by kernel_rfl
def b8B:C:=(.seq (oD [oM 6 4,oM 7 0,oR 8 (.callp 8 [(.t 7),(.k (.i .i64 0))]),oR 9 (.bin .rem (.t 8) (.k (.i .i64 3))),oR 10 (.bin .leq (.t 6) (.t 9))] 10 .skip (.exit 0))
 (.seq (.blk 1 (.dreg [(oF 13 1 3,0),(oK 14 1 13,0),(oM 15 0,3),(oM 16 4,7),(oR 17 (.bin .add (.k (.i .i64 1)) (.t 16)),7),(oR 18 (.callp 8 [(.t 15),(.t 17)]),3),(oR 19 (.callp 21 [(.t 18)]),3),(oR 20 (.bsf 2 [.nils,.nils] 1 [(0,(.t 19))]),3),(oR 21 (.app 2 48 (.t 14) (.t 20)),0),(oF 22 1 3,0),(oS 1 22 21,0)]))
 (.reg [oM 11 4,oR 12 (.bin .add (.t 11) (.k (.i .i64 1))),oM 4 12])))
def lpB{x:F}(hx:zgo x){z:Nat->Nat}(hz:∀i,i<1000->z i<100000/\Ans pr 8 [x,.i .i64 i] (.i .i64 (z i))){cf:Nat->CQ}(hcf:∀i,i<10->Ans pr 21 [.i .i64 (z (1+i))] (.ag (cqF (cf i)))){hd:List Str}{P:Nat}{Q:Ex->St->Prop}(s:St)(h:XQ x hd [] P s)(h4:s.tm.get 4=some (.f (.i .i64 0)))(hQ:∀s,XQ x hd ((List.range (z 0%3+1)).map cf) P s->Q (.exit 0) s):WL pr b8B s Q:=by
 have h36:Ans pr 8 [x,.i .i64 0] (.i .i64 (z 0)):=(hz 0 (by omega)).2;have q36:=fun k=>zav (k:=k) h36
 have hrem:=zhU (z 0) 3 (by omega);rw[show((3:Nat):Int)=3 from rfl]at hrem;have hm:z 0%3<3:=Z125 _ (by omega);generalize z 0%3=m at hrem hm hQ;refine zcN (fun k s=>∃n:Nat,(k=m+1 - n/\n<=m+1)/\XQ x hd ((List.range n).map cf) P s/\s.tm.get 4=some (.f (.i .i64 n))) (fun e s=>e= .exit 0/\XQ x hd ((List.range (m+1)).map cf) P s) ?_ (m+1) _ ⟨0,⟨rfl,by omega⟩,h,h4⟩ (by rintro e s ⟨rfl,h⟩;exact hQ s h);clear h h4 hQ s;rintro k s ⟨n,⟨rfl,hn⟩,⟨d,dh,⟨h0,h2,h3,g0,g1⟩,hP,hPc,hO,hg⟩,h4⟩;unfold b8B;simp only[rU]
 by_cases hle:n<=m
 .have h36n:=(hz (1+n) (by omega)).2;rw[Int.natCast_add,show((1:Nat):Int)=1 from rfl]at h36n;have q36n:=fun k=>zav (k:=k) h36n
  have q39:=fun k=>zav (k:=k) (hcf n (by omega))
  have hw:=zao n (by omega);have hw2:IntKind.i64.wrap (1+(n:Int))=1+(n:Int):=wrap_i64 _ (by omega) (by omega);simp only[cqE]at q39;simp[rW,h0,h2,h3,g0,g1,h4,q36,hrem,hle];refine zaF ?_;simp[rW,h0,h2,h3,g0,g1,h4,hw2,q36n,q39,cqE,zbO,zbQ];refine zfm (zbh hg (by omega) fun _ _ _=>rfl) (by omega) (by rw[zcm];simp;omega) (by omega) ?_;intro r hr1 hr2 hr3 hr4 hr5;have e0:=hr4 0 (by omega) (zbi hg (by omega));have e1:=hr4 1 (by omega) (zbi hg (by omega));rw[g0]at e0;rw[g1]at e1;refine⟨hr1,?_⟩;simp[rW,e1,zbj hr2];rw[zcc];refine⟨m+1 - (n+1),by omega,n+1,⟨rfl,by omega⟩,⟨r.d,dh,?_,hP,?_,?_,?_⟩,?_⟩
  .simp[rW,h0,h2,h3,e0,e1]
  .simp[rW,];omega
  .refine hO.up (fun y hy=> ?_) (Z3 _) (Z3 _);have hy2:=hO.2.2.1 y hy;have e:=hr4 y (by omega) (zbi hg (by omega));have ny:¬(y=1):=by omega
   simp[rW,ny,e]
  .rw[zqe,zf2];refine zbh hr2 (by simp[rW,];omega) fun y h1 h2=> ?_
   have ny:¬(y=1):=by omega
   simp[rW,ny]
  .simp[rW,hw]
 .have e:n=m+1:=by omega
  subst e;have hl:¬((m:Int)+1<=m):=by omega
  simp[rW,h0,h2,h3,g0,g1,h4,q36,hrem,hl];refine⟨d,dh,?_,hP,?_,?_,?_⟩
  .simp[rW,h0,h2,h3,g0,g1]
  .simp[rW,];exact hPc
  .simp[rW,];exact hO
  .simp[rW,];exact hg
def ans13{x:F}(hx:zgo x):∃l,Ans pr 13 [x] (.ag [.nils,qsF l]):=by
 obtain⟨z,hz⟩ :=atZ hx;obtain⟨cf,hcf⟩ :=Z208.1 fun i=>ans21 (z (1+i))
 have hm:z 0%3<3:=Z125 _ (by omega);have hc2:(D.f x).cells=some [.f x]:=by rcases hx with rfl|⟨zs,rfl⟩ <;>rfl
 refine⟨(List.range (z 0%3+1)).map cf,zb6 fn13 ?_⟩;simp only[g13,rU];simp[rW,st0,zah,zjP hx,hc2];refine lpB hx hz (fun i _=>(hcf i).2) (P:=2) (hd:=[]) _ ⟨.f .nils,.f .nils,?_,by omega,?_,ziV (rows:=[]) (.inl ⟨rfl,rfl⟩),.inl ⟨rfl,rfl⟩⟩ ?_ fun s h=> ?_
 .simp[rW,]
 .simp[rW,]
 .simp[rW,]
 .obtain⟨d,dh,⟨h2,h3,g0,g1⟩,c1,c2,⟨rd,z1⟩,⟨rd2,z2⟩,hc⟩ :=zEM h;simp[rW,h2,h3,g0,g1,c1,c2,z1,z2];exact⟨by omega,rfl⟩
def ans4{x:F}(hx:zgo x):∃l,QP l/\Ans pr 4 [x,.b true,.i .u8 0] (.ag [.nils,qsF l]):=by
 have he:za7 .and (.i .u8 0) (.i .u8 3)=some (.i .u8 0):=rfl;obtain⟨l8,a8⟩ :=ans13 hx;obtain⟨hd9,l9,hd9l,hl9,a9⟩ :=ans14 hx;have q8:=fun k=>zav (k:=k) a8
 have q9:=fun k=>zav (k:=k) a9
 have hc2:(D.f x).cells=some [.f x]:=by rcases hx with rfl|⟨zs,rfl⟩ <;>rfl
 refine⟨l9,hl9,zb6 fn4 ?_⟩;simp only[g4,rU];simp[rW,st0,zah,zjP hx,hc2,q8,q9,he,zhr,zkC,zcb]
def fn11:pr.fn 11=some g11:=by kernel_rfl
def zHH(c:CQ):Ans pr 11 [.ag (cqF c)] (.ag [.nils,qsF [c]]):=by
 refine zb6 fn11 ?_;simp only[g11,rU];have m1:(1<=zak)=True:=za2 (by omega);have m2:(48<=zak)=True:=za2 (by omega);simp only[cqE,zvo];simp[rW,st0,zah,cqE,zbO,zbQ,m1,m2]
def cqp9a:(CQp.all fun c=>(vrs c).all fun x=>decide (x.length<900))=true:=by kernel_rfl
def cqp9{c:CQ}(h:c∈CQp):∀x∈vrs c,x.length<900:=fun x hx=>by
 simpa using Z51.1 (Z51.1 cqp9a c h) x hx
def zBL{n:Nat}{c:CQ}(h:CqN n c)(hn:n<=4):CqSm c:=(h.m.g hn).toCqSm
def zAi{n:Nat}{c:CQ}(h:CqN n c)(hn:n<=4)(hk:c.cs=[]):PW c.as.length c:=
 ⟨rfl,h.al,hk,fun a ha x hx=>h.vl x (zqU (zBL h hn).toCqOk ⟨a,ha,hx⟩)⟩
def zBp{a e:CQ}(he:e∈CQp):PW e.as.length (apR a e):=
 zyL (zAi (zfy e he).1 (by omega) (zfy e he).2.1) (cqp9 he)
def ans6(a e:CQ)(ha:a∈CQp)(he:e∈CQp):Ans pr 6 [.ag (cqF a),.ag (cqF e)] (.ag (cqF (apR a e))):=by
 obtain⟨a1,a2,a3⟩ :=zfy a ha;obtain⟨e1,e2,e3⟩ :=zfy e he;have la:=zlH a1.m;have le:=zlH e1.m;refine zb6 fn6 ?_;simp only[g6,rU];have q:=fun k=>zav (k:=k) (ans15 a e _ ha he (zAi e1 (by omega) e2) (by have:=e1.la;omega) a3 e3 (by omega) (by omega) (cqp9 he))
 simp only[cqE]at q|-;simp[rW,st0,zah,zbO,zbQ,q]
def dN(a e:CQ):CQ:=zjZ a (apR a e)
def zH5{a e:CQ}(ha:a∈CQp)(he:e∈CQp):CqN 2 (dN a e)/\(dN a e).cs=[]:=by
 obtain⟨a1,a2,-⟩ :=zfy a ha;have hp:=zBp (a:=a) he;have hq:=zAi a1 (by omega) a2;have el:=(zfy e he).1.la;have hk:(dN a e).cs=[]:=by simp[dN,zjZ,a2,hp.cs]
 have hal:∀b∈(dN a e).as,(zc1 b/\b.ts.length<=2/\b.ts≠[])/\∀x,Trm.var x∈b.ts->x.length<1000:=fun b hb=>by
  rcases Z5.1 hb with hb|hb
  .exact⟨a1.al b hb,hq.vl b hb⟩
  .exact⟨hp.al b hb,hp.vl b hb⟩
 refine⟨⟨fun b hb=>(hal b hb).1,by simp[hk],?_,by simp[hk],?_,fun x hx=> ?_⟩,hk⟩
 .have:=a1.la;have:=hp.ln;simp[dN,zjZ];omega
 .simp[dN,zjZ,a1.ne]
 .obtain⟨b,hb,hxb⟩ :=zx8 hk hx;exact (hal b hb).2 x hxb
def zyV{n:Nat}{c:CQ}(h:CqN n c)(hk:c.cs=[]):PQy c/\sz c<=6*n:=by
 refine⟨⟨fun a ha=>⟨(h.al a ha).1,(h.al a ha).2.2⟩,hk⟩,?_⟩;have:=zfD (·.ts) 2 c.as fun a ha=>(h.al a ha).2.1
 have:=h.la;simp only[sz,tsC,tsA,hk,Z167,Z23];omega
theorem zDG:∀{l:List CQ} (n:Nat),(∀c∈l,wq c<=n)->wl l<=n*l.length
 |[],n,_=>by simp[wl]
 |c::l,n,h=>by
  have h1:=zDG (l:=l) n fun d hd=>h d (by simp[hd])
  have h2:=h c (by simp);simp only[wl,Z11,Z160,Z24,Z180]at*;omega
theorem zDs:∀{l:List CQ} (n:Nat),(∀c∈l,sz c<=n)->szL l<=n*l.length
 |[],n,_=>by simp[szL]
 |c::l,n,h=>by
  have h1:=zDs (l:=l) n fun d hd=>h d (by simp[hd])
  have h2:=h c (by simp);simp only[szL,Z11,Z160,Z24,Z180]at*;omega
def zRR(a e:CQ):Hom a (dN a e):=zhK fun b hb=>Z103 _ hb
def zSp{l:List CQ}(hl:l.length<=2)(hc:∀c∈l,c∈CQp){a e:CQ}(ha:a∈CQp)(he:e∈CQp):OkL l/\OkL (l++[dN a e])/\PLy (l++[dN a e]):=by
 have h1:∀c∈l,CqN (wq c) c/\wq c<=1:=fun c h=>(zfy c (hc c h)).1.w
 have hd:=zH5 ha he;have h2:=hd.1.w;have hw:=zDG 1 fun c h=>(h1 c h).2
 have hz:=zDs 6 fun c h=>(zyV (zfy c (hc c h)).1 (zfy c (hc c h)).2.1).2
 have hzd:=zyV hd.1 hd.2;refine⟨⟨by omega,fun c h=>(h1 c h).1,by omega⟩,⟨by simp;omega,fun c h=> ?_,?_⟩,fun c h=> ?_,?_⟩
 .rcases Z5.1 h with h|h
  .exact (h1 c h).1
  .rw[Z32.1 h];exact h2.1
 .have e:wl (l++[dN a e])=wl l+wq (dN a e):=by simp[wl]
  omega
 .rcases Z5.1 h with h|h
  .exact (zyV (zfy c (hc c h)).1 (zfy c (hc c h)).2.1).1
  .rw[Z32.1 h];exact hzd.1
 .have e:szL (l++[dN a e])=szL l+sz (dN a e):=by simp[szL]
  omega
def zDz{l:List CQ}(h:OkL l):(∀p∈tms (zcz [] l).1 (zcz [] l).2,CqSm p.1)/\(tms (zcz [] l).1 (zcz [] l).2).length<=8:=by
 have hI:=znC (hd:=[]) h (2 ^ l.length - 1);have hp8:2 ^ l.length<=2 ^ 3:=Z114 (by omega) h.ln;change zDS _ (zcz [] l)at hI;refine⟨fun p hp=>hI.sm _ (List.of_mem_zip (Z58.1 hp).1).1,?_⟩;refine Z4 (Z77 _ _) ?_;have:=hI.le;simp;omega
end Go.Proofs.YtflgmemhalhdbaaGreatDoor
end
