/- Plain: a homomorphism carries answers over, with negated atoms and comparisons. -/
import Derived.Test.YtdlcolcidohbkaaGreatDoorPzg
import Derived.KernelRfl
import Derived.IntWalk
set_option linter.all false
set_option maxRecDepth 100000
set_option maxHeartbeats 4000000
noncomputable section
section
namespace Go.Proofs.YtdlcolcidohbkaaGreatDoor
open Go Go.Vse Go.Vse.Sm
def zEs:List (Str×Trm)->Str->Option Trm
 |[],_=>none
 |(a,t)::l,s=>if a=s then some t else zEs l s
def sb2(h:List (Str×Trm)):Trm->Trm
 | .cst n=> .cst n
 | .var s=>(zEs h s).getD (.var s)
def un2:List (Str×Trm)->List Trm->List Trm->Option (List (Str×Trm))
 |h,[],[]=>some h
 |h,.cst n::ts,u::us=>if u= .cst n then un2 h ts us else none
 |h,.var s::ts,u::us=>match zEs h s with
  |some t=>if t=u then un2 h ts us else none
  |none=>un2 ((s,u)::h) ts us
 |_,_,_=>none
def fhs(d:List Atm):List Atm->List (Str×Trm)->List (List (Str×Trm))
 |[],h=>[h]
 |a::l,h=>d.flatMap fun b=>if b.r=a.r/\b.neg=a.neg then(match un2 h a.ts b.ts with
  |some h2=>fhs d l h2
  |none=>[])else[]
def zFU(k:Cm):Bool:=(decide (k.l=k.r)&&(decide (k.op=1)||decide (k.op=4)))||match k.l,k.r with
 | .cst a,.cst b=>zg4 k.op a b
 |_,_=>false
def zEo(d:CQ)(k:Cm):Bool:=zFU k||d.cs.any fun e=>decide (e.op=k.op)&&((decide (e.l=k.l)&&decide (e.r=k.r))||((decide (k.op=1)||decide (k.op=2))&&(decide (e.l=k.r)&&decide (e.r=k.l))))
def okH(hd:List Str)(c d:CQ)(h:List (Str×Trm)):Bool:=(c.as.all fun a=>d.as.any fun a'=>decide (a'.r=a.r)&&(decide (a'.neg=a.neg)&&decide (a'.ts=a.ts.map (sb2 h))))&&((c.cs.all fun k=>zEo d ⟨k.op,sb2 h k.l,sb2 h k.r⟩)&&hd.all fun s=>decide (sb2 h (.var s)= .var s))
def homG(hd:List Str)(c d:CQ):Bool:=(fhs d.as c.as (hd.map fun s=>(s,.var s))).any (okH hd c d)
def zRd{k:Cm}(h:zFU k=true)(τ:Str->Int):zg4 k.op (teS τ k.l) (teS τ k.r)=true:=by
 obtain⟨o,l,r⟩ :=k;simp only[zFU,Z115,Z14,Z86]at h;rcases h with⟨rfl,rfl|rfl⟩ |h
 .simp[zg4]
 .simp[zg4]
 .split at h
  .rename_i a b;exact h
  .cases h
def zO0{L:List Rl}{d:CQ}{τ:Str->Int}(hs:zlC L d τ){k:Cm}(h:zEo d k=true):zg4 k.op (teS τ k.l) (teS τ k.r)=true:=by
 simp only[zEo,Z115,Z30,Z14,Z86]at h;rcases h with h|⟨e,he,h1,⟨h2,h3⟩ |⟨h4,h2,h3⟩⟩
 .exact zRd h τ
 .have:=hs.2 e he
  rwa[h1,h2,h3]at this
 .have:=hs.2 e he;rw[h1,h2,h3]at this;rcases h4 with h4|h4<;>rw[h4]at this|- <;>simp[zg4]at this|-
  .exact this.symm
  .exact fun e=>this e.symm
def zEj{hd:List Str}{c d:CQ}(h:homG hd c d=true){L:List Rl}{τ:Str->Int}(hs:zlC L d τ):∃σ,zlC L c σ/\hd.map σ=hd.map τ:=by
 obtain⟨h0,-,h⟩ :=Z30.1 h;simp only[okH,Z14,Z50,Z30,Z86]at h;obtain⟨h1,h2,h3⟩ :=h;have et:∀t:Trm,teS (fun s=>teS τ (sb2 h0 (.var s))) t=teS τ (sb2 h0 t):=fun t=>by cases t<;>rfl
 refine⟨fun s=>teS τ (sb2 h0 (.var s)),⟨fun a ha=> ?_,fun k hk=> ?_⟩,Z68 fun s hs=> ?_⟩
 .obtain⟨a',ha',e1,e2,e3⟩ :=h1 a ha;have:=hs.1 a' ha';rw[e1,e2,e3,Z33]at this;have e:a.ts.map (teS fun s=>teS τ (sb2 h0 (.var s)))=a.ts.map (teS τ ∘ sb2 h0):=Z68 fun t _=>et t
  rw[e];exact this
 .have:=zO0 hs (h2 k hk);rw[et,et];exact this
 .show teS τ (sb2 h0 (.var s))=τ s;rw[h3 s hs];rfl
def fn102:pr.fn 102=some zzJ:=by kernel_rfl
def fn103:pr.fn 103=some zkk:=by kernel_rfl
def fn150:pr.fn 150=some zz0:=by kernel_rfl
structure CqV(sch:F)(hd ns:List Str)(c:CQ):Prop where
 kl:c.cs.length<=4
 al:c.as.length<=6
 nl:ns.length<=8
 vr:Ans pr 106 [.ag (cqF c)] (zah ns)
 nm:∀s∈ns,Ans pr 168 [.s s] (.b true)
 fd:∀a∈c.as,∃ce cols,Ans pr 180 [sch,.s a.r] (.tu [.ag [.s a.r,.b ce,slc 3 cols],.b true])/\cols.length=a.ts.length/\∀x∈cols,∃s b,x=[F.s s,.i .i64 1,.b b]
 ct:∀a∈c.as,∀n,Trm.cst n∈a.ts->Ans pr 169 [.ag (Sm.vF n)] (.b true)
 tl:∀a∈c.as,a.ts.length<=9
 bd:∀a∈c.as,a.neg=false->∃l,l.length<=3/\Ans pr 106 [.ag [.sl 3 [atF a],.nils]] (zah l)/\∀s,Trm.var s∈a.ts->s∈l
 nb:∀s∈hd++ns,∃a∈c.as,a.neg=false/\Trm.var s∈a.ts
 cc:Ans pr 183 [.sl 1 [[zah hd],[zah ns]]] (zah (hd++ns))
 vn:∀a∈c.as,∀s,Trm.var s∈a.ts->s≠[]
 op:∀k∈c.cs,1<=k.op/\k.op<=4
 kt:∀k∈c.cs,∀t,t=k.l\/t=k.r->(∀n,t=Trm.cst n->Ans pr 169 [.ag (Sm.vF n)] (.b true))/\∀s,t=Trm.var s->s≠[]
structure QyV(sch:F)(hd:List Str)(l:List (List Str×CQ)):Prop where
 n:l.length<=5
 h:hd=[]\/hd=[[120]]\/hd=[[121],[120]]
 s:sch.d= .f sch
 c:∀q∈l,CqV sch hd q.1 q.2
 x:∀s∈([[120],[121]]:List Str),Ans pr 168 [.s s] (.b true)
def zLA(l:List Str)(v:Str)(hl:l.length<1000):Ans pr 150 [zah l,.s v] (.b (decide (v∈l))):=by
 have q1:=fun k=>zad (k:=k) (zyw l v hl)
 refine zcf fn150 ?_;simp only[zz0,rU]
 by_cases h:v∈l
 .rw[(zhs h).1]at q1;simp[rW,st0,zak,zaL,q1,h]
 .have e:zg7 (fun x=>v==x) l= -1:=by
   unfold zg7;rw[Z43.2 fun x hx=>by simpa using fun e:v=x=>h (e▸hx)]
  rw[e]at q1;simp[rW,st0,zak,zaL,q1,h]
def Jvz(l:List CQ)(k:Nat)(s:St):Prop:=s.tm.get 16=some (.f (qsF l))/\s.tm.get 17=some (.f (.i .i64 l.length))/\s.tm.get 18=some (.f (.i .i64 k))
def zLp{sch:F}{hd:List Str}{l:List (List Str×CQ)}(H:QyV sch hd l):Ans pr 102 [.ag [zah hd,qsF (l.map (·.2))]] (.b true):=by
 have hn:=H.n;have hh:hd.length<=6:=by rcases H.h with e|e|e<;>rw[e]<;>decide
 refine zcf fn102 ?_;simp only[zzJ,rU];have a1:¬(5:Int)<l.length:=by omega
 have a2:¬(6:Int)<hd.length:=by omega
 simp[rW,st0,zak,zaL,ze8,zcH,zbz,Z18,a1,a2];refine zbD l.length (Jvz (l.map (·.2))) (fun e s=>e= .exit 0) ?_ ?_ _ ⟨by simp[rW],by simp[rW,Z18],by simp[rW]⟩ ?_
 .rintro k s hlt ⟨h16,h17,h18⟩;rw[Z18]at h17;have hw:=zao k (by omega);have hc:=H.c _ (Z1 hlt);have hx:(l.map (·.2))[k]? =some l[k].2:=by rw[Z36,Z0 hlt];rfl
  generalize hA:l[k]=q at hc hx;have q1:=fun k=>zad (k:=k) hc.vr
  rw[cqE]at q1;have b1:¬(6:Int)<q.2.as.length:=by have:=hc.al;omega
  have b1':(q.2.as.length:Int)<=6:=by omega
  have b2:¬(4:Int)<q.2.cs.length:=by have:=hc.kl;omega
  have b2':(q.2.cs.length:Int)<=4:=by have:=hc.kl;omega
  have b3:¬(8:Int)<q.1.length:=by have:=hc.nl;omega
  have b3':(q.1.length:Int)<=8:=by omega
  simp[rW,h16,h17,h18,hlt,zeA,hx,hA,cqE,zd8,zeb,zhn,zok,b1,b1',b2,b2',b3,b3',q1,zaL,zbz,hw];exact⟨by simp[rW,h16],by simp[rW,h17,Z18],by simp[rW]⟩
 .rintro s ⟨h16,h17,h18⟩;rw[Z18]at h17;simp[rW,h16,h17,h18]
 .rintro e s rfl;simp[rW]
def zhO:C:=zkk.body.r.r.l.r.b.o
def ztU:C:=zhO.r.r.l.b.r.l.r.b.o
def ztV:C:=zhO.r.r.l.b.r.r.r.b.o
def zx8(sch:F)(hd:List Str)(l:List CQ)(k:Nat)(s:St):Prop:=(s.tm.get 0=some (.f sch)/\s.tm.get 36=some (.f (qsF l))/\s.tm.get 37=some (.f (.i .i64 l.length))/\s.tm.get 38=some (.f (.i .i64 k)))
def zx9(sch:F)(l:List CQ)(c:CQ)(ns:List Str)(i:Nat)(k j:Nat)(s:St):Prop:=(s.tm.get 0=some (.f sch)/\s.tm.get 8=some (.ptr i 2 0 0)/\s.tm.get 36=some (.f (qsF l))/\s.tm.get 37=some (.f (.i .i64 l.length))/\s.tm.get 38=some (.f (.i .i64 k))/\s.tm.get 43=some (.f (zah ns))/\s.tm.get 44=some (.f (.i .i64 ns.length))/\s.tm.get 45=some (.f (.i .i64 j))/\s.h.get i=some (.arr 2 0 [[.f (zcN c),.f (zc7 c)]]))/\i<s.c
def zya(sch:F)(l:List CQ)(c:CQ)(k j:Nat)(s:St):Prop:=(s.tm.get 0=some (.f sch)/\s.tm.get 36=some (.f (qsF l))/\s.tm.get 37=some (.f (.i .i64 l.length))/\s.tm.get 38=some (.f (.i .i64 k))/\s.tm.get 54=some (.f (zcN c))/\s.tm.get 55=some (.f (.i .i64 c.as.length))/\s.tm.get 56=some (.f (.i .i64 j)))
def vn_l4{sch:F}{hd ns:List Str}{l:List CQ}{c:CQ}{i k:Nat}(hc:CqV sch hd ns c){s:St}{Q:Ex->St->Prop}(hJ:zx9 sch l c ns i k 0 s)(kx:∀s,zx9 sch l c ns i k ns.length s->Q (.exit 4) s):WL pr ztU s Q:=by
 have hnl:=hc.nl;refine zbD ns.length (zx9 sch l c ns i k) (fun x s=>x= .exit 4/\zx9 sch l c ns i k ns.length s) ?_ ?_ _ hJ ?_
 .rintro j s hlt ⟨⟨h0,h8,h36,h37,h38,h43,h44,h45,gi⟩,hi⟩;have hw:=zao j (by omega);have hx:ns[j]? =some ns[j]:=Z0 hlt;have hnm:=hc.nm _ (Z1 hlt);generalize hA:ns[j]=v at hx hnm;have q1:=fun k=>zad (k:=k) hnm
  unfold ztU zhO zkk;simp only[rU,C.l,C.r,C.b,C.o];simp[rW,h0,h8,h36,h37,h38,h43,h44,h45,gi,hlt,zdf,hx,hA,q1,hw];exact⟨⟨by simp[rW,h0],by simp[rW,h8],by simp[rW,h36],by simp[rW,h37],by simp[rW,h38],by simp[rW,h43],by simp[rW,h44],by simp[rW],by simp only[rG];exact gi⟩,by simp only[rG];exact hi⟩
 .rintro s ⟨⟨h0,h8,h36,h37,h38,h43,h44,h45,gi⟩,hi⟩;unfold ztU zhO zkk;simp only[rU,C.l,C.r,C.b,C.o];simp[rW,h0,h8,h36,h37,h38,h43,h44,h45,gi];exact⟨⟨by simp[rW,h0],by simp[rW,h8],by simp[rW,h36],by simp[rW,h37],by simp[rW,h38],by simp[rW,h43],by simp[rW,h44],by simp[rW,h45],by simp only[rG];exact gi⟩,by simp only[rG];exact hi⟩
 .rintro e s ⟨rfl,hJ⟩;exact kx s hJ
def vn_l6{sch:F}{hd ns:List Str}{l:List CQ}{c:CQ}{k:Nat}(hs:sch.d= .f sch)(hc:CqV sch hd ns c){s:St}{Q:Ex->St->Prop}(hJ:zya sch l c k 0 s)(kx:∀s,zya sch l c k c.as.length s->Q (.exit 6) s):WL pr ztV s Q:=by
 have hal:=hc.al;refine zbD c.as.length (zya sch l c k) (fun x s=>x= .exit 6/\zya sch l c k c.as.length s) ?_ ?_ _ hJ ?_
 .rintro j s hlt ⟨h0,h36,h37,h38,h54,h55,h56⟩;have hw:=zao j (by omega);have hx:c.as[j]? =some c.as[j]:=Z0 hlt;obtain⟨ce,cols,hf,-,-⟩ :=hc.fd _ (Z1 hlt);generalize hA:c.as[j]=a at hx hf;have q1:=fun k=>zad (k:=k) hf
  have htd:=zq9 a.ts;have hcd:(slc 3 cols).d= .f (slc 3 cols):=zeh ..;have n1:¬s.c=s.c+1:=by omega
  unfold ztV zhO zkk;simp only[rU,C.l,C.r,C.b,C.o];simp[rW,h0,h36,h37,h38,h54,h55,h56,hlt,zlJ,hx,hA,atE,htd,hcd,q1,hs,hw,n1,zcF];exact⟨by simp[rW,h0],by simp[rW,h36],by simp[rW,h37],by simp[rW,h38],by simp[rW,h54],by simp[rW,h55],by simp[rW]⟩
 .rintro s ⟨h0,h36,h37,h38,h54,h55,h56⟩;unfold ztV zhO zkk;simp only[rU,C.l,C.r,C.b,C.o];simp[rW,h0,h36,h37,h38,h54,h55,h56];exact⟨by simp[rW,h0],by simp[rW,h36],by simp[rW,h37],by simp[rW,h38],by simp[rW,h54],by simp[rW,h55],by simp[rW,h56]⟩
 .rintro e s ⟨rfl,hJ⟩;exact kx s hJ
def cn0:∀s∈([[120],[121]]:List Str),Ans pr 150 [.sl 1 [],.s s] (.b false):=by
 simp only[Z5,Z164,or_false];rintro s (rfl|rfl)<;>exact zgn (n:=400) (ziy pr) (by kernel_rfl)
def cn1:Ans pr 150 [.sl 1 [[.s [121]]],.s [120]] (.b false):=zgn (n:=400) (ziy pr) (by kernel_rfl)
def zBc{sch:F}{hd:List Str}{l:List (List Str×CQ)}(H:QyV sch hd l){s:St}{Q:Ex->St->Prop}(hJ:zx8 sch hd (l.map (·.2)) 0 s)(kx:∀s,zx8 sch hd (l.map (·.2)) l.length s->Q (.exit 2) s):WL pr zhO s Q:=by
  have hn:=H.n;refine zbD l.length (zx8 sch hd (l.map (·.2))) (fun x s=>x= .exit 2/\zx8 sch hd (l.map (·.2)) l.length s) ?_ ?_ _ hJ ?_
  . rintro k s hlt ⟨h0,h36,h37,h38⟩;have h37':=h37;rw[Z18]at h37';have hw:=zao k (by omega);have hc:=H.c _ (Z1 hlt);have hx:(l.map (·.2))[k]? =some l[k].2:=by rw[Z36,Z0 hlt];rfl
    generalize hA:l[k]=q at hc hx;have q1:=fun k=>zad (k:=k) hc.vr
    rw[cqE]at q1;unfold zhO zkk;simp only[rU,C.l,C.r,C.b,C.o];simp[rW,h0,h36,h38,h37',hlt,zeA,hx,hA,cqE,zd8,zeb,q1,zaL,zbz];refine vn_l4 (l:=l.map (·.2)) (i:=s.c) hc (k:=k) ⟨⟨by simp[rW,h0],by simp[rW],by simp[rW,h36],by simp[rW,h37],by simp[rW,h38],by simp[rW],by simp[rW],by simp[rW],by simp[rW]⟩,by simp only[rG];omega⟩ ?_;rintro s1 ⟨⟨j0,j8,j36,j37,j38,j43,j44,j45,gi⟩,hi⟩;simp[rW,j8,gi,zhn];refine vn_l6 (l:=l.map (·.2)) H.s hc (k:=k) ⟨by simp[rW,j0],by simp[rW,j36],by simp[rW,j37],by simp[rW,j38],by simp[rW],by simp[rW],by simp[rW]⟩ ?_;rintro s2 ⟨i0,i36,i37,i38,-,-,-⟩;simp[rW,i38,hw];exact⟨by simp[rW,i0],by simp[rW,i36],by simp[rW,i37],by simp[rW]⟩
  . rintro s ⟨h0,h36,h37,h38⟩;have h37':=h37;rw[Z18]at h37';unfold zhO zkk;simp only[rU,C.l,C.r,C.b,C.o];simp[rW,h0,h36,h38,h37'];exact⟨by simp[rW,h0],by simp[rW,h36],by simp[rW,h37],by simp[rW,h38]⟩
  . rintro e s ⟨rfl,hJ⟩;exact kx s hJ
def zLq{sch:F}{hd:List Str}{l:List (List Str×CQ)}(H:QyV sch hd l):Ans pr 103 [sch,.ag [zah hd,qsF (l.map (·.2))]] (.b true):=by
 have hs:=H.s;have q1:=fun k=>zad (k:=k) (H.x [120] (by simp))
 have q2:=fun k=>zad (k:=k) (cn0 [120] (by simp))
 have q1':=fun k=>zad (k:=k) (H.x [121] (by simp))
 have q2':=fun k=>zad (k:=k) (cn0 [121] (by simp))
 have q3:=fun k=>zad (k:=k) cn1
 have hw1:IntKind.i64.wrap 1=1:=rfl;have hw2:IntKind.i64.wrap 2=2:=rfl;refine zcf fn103 ?_;simp only[zkk,rU];rcases H.h with rfl|rfl|rfl
 .simp[rW,st0,zak,hs,zaL,ze8];refine round ?_;simp[rW,hs,zcH,Z18];refine zBc H ⟨by simp[rW,hs],by simp[rW],by simp[rW,Z18],by simp[rW]⟩ fun s1 _=> ?_
  simp[rW]
 .simp[rW,st0,zak,hs,zaL,ze8,zah];refine round ?_;simp[rW,hs,q1,q2,zaV];refine round ?_;simp[rW,hs,zcH,Z18];refine zBc H ⟨by simp[rW,hs],by simp[rW],by simp[rW,Z18],by simp[rW]⟩ fun s1 _=> ?_
  simp[rW]
 .simp[rW,st0,zak,hs,zaL,ze8,zah];refine round ?_;simp[rW,hs,q1',q2',zaV];refine round ?_;simp[rW,hs,q1,q3,zaV,hw1];refine round ?_;simp[rW,hs,hw2,zcH,Z18];refine zBc H ⟨by simp[rW,hs],by simp[rW],by simp[rW,Z18],by simp[rW]⟩ fun s1 _=> ?_
  simp[rW]
def fn105:pr.fn 105=some zjc:=by kernel_rfl
def zgH:C:=zjc.body.r.l.r.b.o
def zp1:C:=zgH.r.r.l.b.r.r.l.r.b.o
def zt3:C:=zgH.r.r.l.b.r.r.r.r.b.o
def zKL{h:T Ob}{id ro:Nat}{L:List Str}(hg:h.get id=some (.arr 1 ro (za7 L)))(hL:L≠[])(k:Nat):frz h.get (k+2) (.sl id 0 L.length 1 L.length false)=some (zah L,[id]):=by
 rw[zfw,hg,zeu,zjW];simp only[true_and,Z25,zgp,Z2,Z60,Z34,zsP,zv1,zeu];rw[zv2 hL]
def zrE(h:Nat->Option Ob)(l:List Str):elemsOf 1 h (.f (zah l))=some (za7 l,[]):=by
 cases l with
 |nil=>rfl
 |cons a l=>simp[zah,slc,elemsOf,za7]
def Jb2(hd:List Str)(l:List CQ)(c:CQ)(k i j:Nat)(s:St):Prop:=(s.tm.get 1=some (.ptr 0 2 0 0)/\s.tm.get 4=some (.ptr i 2 0 0)/\s.tm.get 11=some (.f (qsF l))/\s.tm.get 12=some (.f (.i .i64 l.length))/\s.tm.get 13=some (.f (.i .i64 k))/\s.tm.get 18=some (.f (zcN c))/\s.tm.get 19=some (.f (.i .i64 c.as.length))/\s.tm.get 20=some (.f (.i .i64 j))/\s.h.get 0=some (.arr 2 0 [[.f (zah hd),.f (qsF l)]])/\s.h.get i=some (.arr 2 0 [[.f (zcN c),.f (zc7 c)]]))/\0<i/\i<s.c/\∃d L,s.tm.get 5=some d/\Gro s.h (i+1) s.c 1 d (za7 L)/\L.length<=3*j/\∀n a,n<j->c.as[n]? =some a->a.neg=false->∀v,Trm.var v∈a.ts->v∈L
def bo_l2{sch:F}{hd ns:List Str}{l:List CQ}{c:CQ}{i k:Nat}(hc:CqV sch hd ns c){s:St}{Q:Ex->St->Prop}(hJ:Jb2 hd l c k i 0 s)(kx:∀s,Jb2 hd l c k i c.as.length s->Q (.exit 2) s):WL pr zp1 s Q:=by
 have hal:=hc.al;refine zbD c.as.length (Jb2 hd l c k i) (fun x s=>x= .exit 2/\Jb2 hd l c k i c.as.length s) ?_ ?_ _ hJ ?_
 .rintro j s hlt ⟨⟨h1,h4,h11,h12,h13,h18,h19,h20,g0,gi⟩,hi0,hi,d,L,h5,hG,hLl,hLm⟩;have hw:=zao j (by omega);have hx:c.as[j]? =some c.as[j]:=Z0 hlt;have hbd:=hc.bd _ (Z1 hlt);generalize hA:c.as[j]=a at hx hbd;have htd:=zq9 a.ts;have n0:¬0=s.c:=by omega
  have n0':¬0=s.c+1:=by omega
  have ni:¬i=s.c:=by omega
  have ni':¬i=s.c+1:=by omega
  have n1:¬s.c=s.c+1:=by omega
  cases hng:a.neg with
  |true=>
   unfold zp1 zgH zjc;simp only[rU,C.l,C.r,C.b,C.o];simp[rW,h1,h4,h5,h11,h12,h13,h18,h19,h20,g0,gi,hlt,zlJ,hx,hA,atE,hng,htd,n1,hw];exact⟨⟨by simp[rW,h1],by simp[rW,h4],by simp[rW,h11],by simp[rW,h12],by simp[rW,h13],by simp[rW,h18],by simp[rW,h19],by simp[rW],by simp[rW,g0,n0,n0'],by simp[rW,gi,ni,ni']⟩,hi0,by simp only[rG];omega,d,L,by simp[rW,h5],zaX hG (by simp only[rG];omega) (fun y h1 h2=>by
    have e1:¬y=s.c:=by omega
    have e2:¬y=s.c+1:=by omega
    simp[rW,e1,e2]),by omega,fun n b hn hb hng2 v hv=>by
    rcases Z145 n j with h|h
    .exact hLm n b h hb hng2 v hv
    .have:n=j:=by omega
     subst this;rw[hx]at hb;cases hb;rw[hng]at hng2;cases hng2⟩
  |false=>
  obtain⟨l1,hl3,hb,hbm⟩ :=hbd hng;have q1:=fun k=>zad (k:=k) hb
  rw[atE,hng]at q1;unfold zp1 zgH zjc;simp only[rU,C.l,C.r,C.b,C.o];simp[rW,h1,h4,h5,h11,h12,h13,h18,h19,h20,g0,gi,hlt,zlJ,hx,hA,atE,hng,htd,n1];simp[rW,q1,zaL,zrE];refine zfl (zaX hG (by omega) fun y h1 h2=> ?_) (by omega) (by simp[za7];omega) (by omega) ?_
  .rw[TG,Z49 (by omega),TG,Z49 (by omega),TG,Z49 (by omega),TG,Z49 (by omega)]
  intro r hr1 hr2 hr3 hr4 hr5;have hf:∀y,y<s.c->d.oid≠some y->_:=fun y hy hd=>(hr4 y (by omega) hd)
  have e0:=hr4 0 (by omega) (zh7 hG (by omega));have ei:=hr4 i (by omega) (zh7 hG (by omega));rw[TG,Z49 (by omega),TG,Z49 (by omega),TG,Z49 (by omega),TG,Z49 (by omega)]at e0 ei;rw[g0]at e0;rw[gi]at ei;simp[rW,hr1,hw];refine⟨⟨by simp[rW,h1],by simp[rW,h4],by simp[rW,h11],by simp[rW,h12],by simp[rW,h13],by simp[rW,h18],by simp[rW,h19],by simp[rW],by simp only[rG];exact e0,by simp only[rG];exact ei⟩,hi0,by simp only[rG];omega,r.d,L++l1,by simp[rW],?_,by simp;omega,fun n b hn hb hng2 v hv=> ?_⟩
  .simp only[rG];rw[show za7 (L++l1)=za7 L++za7 l1 by simp[za7]];exact zaX hr2 (Z2 _) fun _ _ _=>rfl
  .rcases Z145 n j with h|h
   .exact Z102 _ (hLm n b h hb hng2 v hv)
   .have:n=j:=by omega
    subst this;rw[hx]at hb;cases hb;exact Z96 _ (hbm v hv)
 .rintro s ⟨⟨h1,h4,h11,h12,h13,h18,h19,h20,g0,gi⟩,hi0,hi,d,L,h5,hG,hLl,hLm⟩;unfold zp1 zgH zjc;simp only[rU,C.l,C.r,C.b,C.o];simp[rW,h1,h4,h5,h11,h12,h13,h18,h19,h20,g0,gi];exact⟨⟨by simp[rW,h1],by simp[rW,h4],by simp[rW,h11],by simp[rW,h12],by simp[rW,h13],by simp[rW,h18],by simp[rW,h19],by simp[rW,h20],by simp only[rG];exact g0,by simp only[rG];exact gi⟩,hi0,by simp only[rG];exact hi,d,L,by simp[rW,h5],by simp only[rG];exact hG,hLl,hLm⟩
 .rintro e s ⟨rfl,hJ⟩;exact kx s hJ
def Jb4(hd ms:List Str)(l:List CQ)(k id:Nat)(L:List Str)(j:Nat)(s:St):Prop:=(s.tm.get 1=some (.ptr 0 2 0 0)/\s.tm.get 5=some (.sl id 0 L.length 1 L.length false)/\s.tm.get 11=some (.f (qsF l))/\s.tm.get 12=some (.f (.i .i64 l.length))/\s.tm.get 13=some (.f (.i .i64 k))/\s.tm.get 39=some (.f (zah ms))/\s.tm.get 40=some (.f (.i .i64 ms.length))/\s.tm.get 41=some (.f (.i .i64 j))/\s.h.get 0=some (.arr 2 0 [[.f (zah hd),.f (qsF l)]]))/\0<id/\id<s.c/\∃ro,s.h.get id=some (.arr 1 ro (za7 L))
def bo_l4{hd ms:List Str}{l:List CQ}{k id:Nat}{L:List Str}(hL:L≠[])(hLl:L.length<1000)(hm:∀v∈ms,v∈L)(hml:ms.length<1000){s:St}{Q:Ex->St->Prop}(hJ:Jb4 hd ms l k id L 0 s)(kx:∀s,Jb4 hd ms l k id L ms.length s->Q (.exit 4) s):WL pr zt3 s Q:=by
 refine zbD ms.length (Jb4 hd ms l k id L) (fun x s=>x= .exit 4/\Jb4 hd ms l k id L ms.length s) ?_ ?_ _ hJ ?_
 .rintro j s hlt ⟨⟨h1,h5,h11,h12,h13,h39,h40,h41,g0⟩,hi0,hi,ro,gi⟩;have hw:=zao j (by omega);have hx:ms[j]? =some ms[j]:=Z0 hlt;have hv:=hm _ (Z1 hlt);generalize hA:ms[j]=v at hx hv;have q1:=fun k=>zad (k:=k) (zLA L v hLl)
  rw[decide_eq_true hv]at q1;have fz:=zKL gi hL 10;obtain⟨W,hW1,hW2,hW3,ro',hW4⟩ :=zxm (c:=s.c) gi hi;have e0:=(hW3 0 (by omega)).trans g0;unfold zt3 zgH zjc;simp only[rU,C.l,C.r,C.b,C.o];simp[rW,h1,h5,h11,h12,h13,h39,h40,h41,hlt,zdf,hx,hA,fz,zbU,zaT,q1,hW1,hW2,hw];exact⟨⟨by simp[rW,h1],by simp[rW,h5],by simp[rW,h11],by simp[rW,h12],by simp[rW,h13],by simp[rW,h39],by simp[rW,h40],by simp[rW],by simp only[rG];exact e0⟩,hi0,by simp only[rG];exact hi,ro',by simp only[rG];exact hW4⟩
 .rintro s ⟨⟨h1,h5,h11,h12,h13,h39,h40,h41,g0⟩,hi0,hi,ro,gi⟩;unfold zt3 zgH zjc;simp only[rU,C.l,C.r,C.b,C.o];simp[rW,h1,h5,h11,h12,h13,h39,h40,h41];exact⟨⟨by simp[rW,h1],by simp[rW,h5],by simp[rW,h11],by simp[rW,h12],by simp[rW,h13],by simp[rW,h39],by simp[rW,h40],by simp[rW,h41],by simp only[rG];exact g0⟩,hi0,by simp only[rG];exact hi,ro,by simp only[rG];exact gi⟩
 .rintro e s ⟨rfl,hJ⟩;exact kx s hJ
def Jb0(hd:List Str)(l:List CQ)(k:Nat)(s:St):Prop:=(s.tm.get 1=some (.ptr 0 2 0 0)/\s.tm.get 11=some (.f (qsF l))/\s.tm.get 12=some (.f (.i .i64 l.length))/\s.tm.get 13=some (.f (.i .i64 k))/\s.h.get 0=some (.arr 2 0 [[.f (zah hd),.f (qsF l)]]))/\0<s.c
def zjZ(l:List Str):(D.f (zah l)).cells=some [.f (zah l)]:=zcF _ _
def bo_l0{sch:F}{hd:List Str}{l:List (List Str×CQ)}(H:QyV sch hd l)(hne:∀q∈l,q.1≠[]){s:St}{Q:Ex->St->Prop}(hJ:Jb0 hd (l.map (·.2)) 0 s)(kx:∀s,Jb0 hd (l.map (·.2)) l.length s->Q (.exit 0) s):WL pr zgH s Q:=by
  have hn:=H.n;have hhl:hd.length<=6:=by rcases H.h with e|e|e<;>rw[e]<;>decide
  refine zbD l.length (Jb0 hd (l.map (·.2))) (fun x s=>x= .exit 0/\Jb0 hd (l.map (·.2)) l.length s) ?_ ?_ _ hJ ?_
  . rintro k s hlt ⟨⟨h1,h11,h12,h13,g0⟩,hP⟩;have h12':=h12;rw[Z18]at h12';have hw:=zao k (by omega);have hc:=H.c _ (Z1 hlt);have hq:=hne _ (Z1 hlt);have hx:(l.map (·.2))[k]? =some l[k].2:=by rw[Z36,Z0 hlt];rfl
    generalize hA:l[k]=q at hc hx hq;have q1:=fun k=>zad (k:=k) hc.vr
    have q2:=fun k=>zad (k:=k) hc.cc
    have hnl:=hc.nl;have hal:=hc.al;have n0:¬0=s.c:=by omega
    unfold zgH zjc;simp only[rU,C.l,C.r,C.b,C.o];simp[rW,h1,h11,h13,g0,h12',hlt,zeA,hx,hA,cqE,zd8,zeb,zhn];refine bo_l2 (l:=l.map (·.2)) (i:=s.c) hc (k:=k) ⟨⟨by simp[rW,h1],by simp[rW],by simp[rW,h11],by simp[rW,h12],by simp[rW,h13],by simp[rW],by simp[rW],by simp[rW],by simp[rW,g0,n0],by simp[rW]⟩,hP,by simp only[rG];omega,.f .nils,[],by simp[rW],.inl ⟨rfl,rfl⟩,by simp,fun n a hn=>absurd hn (by omega)⟩ ?_;rintro s1 ⟨⟨j1,j4,j11,j12,j13,j18,j19,j20,f0,fi⟩,hi0,hi,d,L,j5,hG,hLl,hLm⟩;have hall:∀v∈hd++q.1,v∈L:=fun v hv=>by
      obtain⟨a,ha,hneg,hav⟩ :=hc.nb v hv;obtain⟨n,hn',rfl⟩ :=Z101.1 ha;exact hLm n _ hn' (Z0 hn') hneg v hav
    have hL:L≠[]:=fun e=>by
      cases hq1:q.1 with
      |nil=>exact hq hq1
      | cons v t=>
        have:=hall v (by simp[hq1]);rw[e]at this;cases this
    have hSL:za7 L≠[]:=by simpa [za7]using hL
    rcases hG with⟨_,e⟩ |⟨id,ro,rfl,-,g1,-,g3,g4⟩
    . exact absurd e hSL
    rw[zgp]at j5;rw[cqE]at q1;simp[rW,j1];refine zaw ?_;simp[rW,j1,j4,f0,fi,q1,q2,zaL,zbz,zjZ];have nid:¬id=s1.c+1+1+1+1+1:=by omega
    refine bo_l4 (hd:=hd) (l:=l.map (·.2)) (id:=id) (k:=k) hL (by omega) hall (by simp;omega) ⟨⟨by simp[rW,j1],by simp[rW,j5],by simp[rW,j11],by simp[rW,j12],by simp[rW,j13],by simp[rW],by simp[rW,Z16],by simp[rW],by simp[rW,f0]⟩,by omega,by simp only[rG];omega,ro,by simp[rW,g1,nid]⟩ ?_;rintro s2 ⟨⟨i1,i5,i11,i12,i13,i39,i40,i41,e0⟩,-,hc2,-⟩;simp[rW,i13,hw];exact⟨⟨by simp[rW,i1],by simp[rW,i11],by simp[rW,i12],by simp[rW],by simp only[rG];exact e0⟩,by simp only[rG];omega⟩
  . rintro s ⟨⟨h1,h11,h12,h13,g0⟩,hP⟩;have h12':=h12;rw[Z18]at h12';unfold zgH zjc;simp only[rU,C.l,C.r,C.b,C.o];simp[rW,h1,h11,h13,g0,h12'];exact⟨⟨by simp[rW,h1],by simp[rW,h11],by simp[rW,h12],by simp[rW,h13],by simp only[rG];exact g0⟩,by simp only[rG];exact hP⟩
  . rintro e s ⟨rfl,hJ⟩;exact kx s hJ
def zLs{sch:F}{hd:List Str}{l:List (List Str×CQ)}(H:QyV sch hd l)(hne:∀q∈l,q.1≠[]):Ans pr 105 [.ag [zah hd,qsF (l.map (·.2))]] (.b true):=by
 refine zcf fn105 ?_;simp only[zjc,rU];simp[rW,st0,zak,zaL,ze8,zcH,Z18];refine bo_l0 H hne ⟨⟨by simp[rW],by simp[rW],by simp[rW,Z18],by simp[rW],by simp[rW]⟩,by simp only[rG];omega⟩ fun s1 _=> ?_
 simp[rW]
def fn181:pr.fn 181=some zlt:=by kernel_rfl
def zfq(ks:List Str):List (F×D):=ks.map fun k=>(.s k,.f (.i .i64 1))
theorem zlO{k:Str}:∀{ks:List Str} {i:Nat},k∉ks->zc1 1 (.s k) (zfq ks) i=some none
 |[],_,_=>rfl
 |p::ks,i,h=>by
  have h1:(k==p)=false:=by simpa using fun e:k=p=>h (by simp[e])
  simp only[zfq,Z10,zc1,ziU,h1];exact zlO (ks:=ks) fun hk=>h (by simp[hk])
theorem zjS{k:Str}:∀{ks:List Str} {i:Nat},k∈ks->∃j,zc1 1 (.s k) (zfq ks) i=some (some (i+j,.f (.i .i64 1)))/\(zfq ks).set j (.s k,.f (.i .i64 1))=zfq ks
 |[],_,h=>by simp at h
 |p::ks,i,h=>by
  simp only[zfq,Z10,zc1,ziU];cases h1:(k==p)with
  |true=>
   have e:k=p:=by simpa using h1
   subst e;exact⟨0,rfl,rfl⟩
  |false=>
   have h1:k≠p:=by simpa using h1
   rcases Z5.1 h with e|hk
   .exact absurd e h1
   .obtain⟨j,e1,e2⟩ :=zjS (ks:=ks) (i:=i+1) hk;refine⟨j+1,by rw[show i+(j+1)=i+1+j by omega];exact e1,?_⟩;simp only[Z189];exact congrArg _ e2
def zj9:C:=zlt.body.r.r.l.r.b.o
def zp4:C:=zj9.r.r.l.b.r.r.r.r.b.o
def Kct(h:T Ob)(c0 Mp:Nat)(s:St):Prop:=c0<=Mp/\Mp<s.c/\(∀id,id<c0->s.h.get id=h.get id)/\∃ks,s.h.get Mp=some (.map (zfq ks))
def zx3(sch:F)(c:CQ)(h:T Ob)(c0 Mp k i9:Nat)(a:Atm)(ce:Bool)(cols:List (List F))(j:Nat)(s:St):Prop:=(s.tm.get 0=some (.f sch)/\s.tm.get 6=some (.mp Mp)/\s.tm.get 9=some (.ptr i9 3 0 0)/\s.tm.get 16=some (.f (zcN c))/\s.tm.get 17=some (.f (.i .i64 c.as.length))/\s.tm.get 18=some (.f (.i .i64 k))/\s.tm.get 37=some (.f (zgC a.ts))/\s.tm.get 38=some (.f (.i .i64 a.ts.length))/\s.tm.get 39=some (.f (.i .i64 j))/\s.h.get i9=some (.arr 3 0 [[.f (.s a.r),.f (.b ce),.f (slc 3 cols)]]))/\Kct h c0 Mp s/\Mp<i9/\i9<s.c
def ct_l2{sch:F}{hd ns:List Str}{c:CQ}{h:T Ob}{c0 Mp k i9:Nat}{a:Atm}{ce:Bool}{cols:List (List F)}(hc:CqV sch hd ns c)(ha:a∈c.as)(hl:cols.length=a.ts.length)(hcol:∀x∈cols,∃s b,x=[F.s s,.i .i64 1,.b b]){s:St}{Q:Ex->St->Prop}(hJ:zx3 sch c h c0 Mp k i9 a ce cols 0 s)(kx:∀s,zx3 sch c h c0 Mp k i9 a ce cols a.ts.length s->Q (.exit 2) s):WL pr zp4 s Q:=by
 have htl:=hc.tl a ha;refine zbD a.ts.length (zx3 sch c h c0 Mp k i9 a ce cols) (fun x s=>x= .exit 2/\zx3 sch c h c0 Mp k i9 a ce cols a.ts.length s) ?_ ?_ _ hJ ?_
 .rintro j s hlt ⟨⟨h0,h6,h9,h16,h17,h18,h37,h38,h39,g9⟩,⟨hM0,hMc,hf,ks,gM⟩,hM9,h9c⟩;have hw:=zao j (by omega);have hx:a.ts[j]? =some a.ts[j]:=Z0 hlt;have hm:=Z1 hlt;generalize hA:a.ts[j]=t at hx hm;have hy:cols[j]? =some cols[j]:=Z0 (by omega);obtain⟨cn,cb,e⟩ :=hcol _ (Z1 (by omega:j<cols.length));rw[e]at hy;have n9:¬i9=s.c:=by omega
  have nM:¬Mp=s.c:=by omega
  have n9M:¬i9=Mp:=by omega
  have hcd:(slc 3 cols).d= .f (slc 3 cols):=zeh ..;have hia:∀n,iaB 3 (.f (slc 3 cols)) n=cols[n]?.map D.fptr:=fun n=>zeY ..
  cases t with
  |cst n=>
   have q0:=hc.ct a ha n hm;simp only[Sm.vF]at q0;have q1:=fun k=>zad (k:=k) q0
   unfold zp4 zj9 zlt;simp only[rU,C.l,C.r,C.b,C.o];simp[rW,h0,h6,h9,h16,h17,h18,h37,h38,h39,g9,hlt,zra,hx,hA,tmE,ziJ,ziG,ziI,n9,nM,hia,hy,q1,hw];exact⟨⟨by simp[rW,h0],by simp[rW,h6],by simp[rW,h9],by simp[rW,h16],by simp[rW,h17],by simp[rW,h18],by simp[rW,h37],by simp[rW,h38],by simp[rW],by simp[rW,g9,n9]⟩,⟨hM0,by simp only[rG];omega,fun id hid=>by
    have n:¬id=s.c:=by omega
    simp[rW,n];exact hf id hid,ks,by simp[rW,gM,nM]⟩,hM9,by simp only[rG];omega⟩
  |var v=>
   have hv:=hc.vn a ha v hm;unfold zp4 zj9 zlt;simp only[rU,C.l,C.r,C.b,C.o]
   by_cases hk:v∈ks
   .obtain⟨jj,f1,f2⟩ :=zjS (i:=0) hk;rw[Z25]at f1;simp[rW,h0,h6,h9,h16,h17,h18,h37,h38,h39,g9,hlt,zra,hx,hA,tmE,zid,zib,zic,n9,nM,hia,hy,gM,f1,f2,hv,hw];exact⟨by omega,⟨by simp[rW,h0],by simp[rW,h6],by simp[rW,h9],by simp[rW,h16],by simp[rW,h17],by simp[rW,h18],by simp[rW,h37],by simp[rW,h38],by simp[rW],by simp[rW,g9,n9,n9M]⟩,⟨hM0,by simp only[rG];omega,fun id hid=>by
     have n:¬id=s.c:=by omega
     have n2:¬id=Mp:=by omega
     simp[rW,n,n2];exact hf id hid,ks,by simp[rW,gM,nM,f2]⟩,hM9,by simp only[rG];omega⟩
   .have f1:=zlO (i:=0) hk;simp[rW,h0,h6,h9,h16,h17,h18,h37,h38,h39,g9,hlt,zra,hx,hA,tmE,zid,zib,zic,n9,nM,hia,hy,gM,f1,hv,hw];exact⟨by omega,⟨by simp[rW,h0],by simp[rW,h6],by simp[rW,h9],by simp[rW,h16],by simp[rW,h17],by simp[rW,h18],by simp[rW,h37],by simp[rW,h38],by simp[rW],by simp[rW,g9,n9,n9M]⟩,⟨hM0,by simp only[rG];omega,fun id hid=>by
     have n:¬id=s.c:=by omega
     have n2:¬id=Mp:=by omega
     simp[rW,n,n2];exact hf id hid,ks++[v],by simp[rW,gM,nM,zfq]⟩,hM9,by simp only[rG];omega⟩
 .rintro s ⟨⟨h0,h6,h9,h16,h17,h18,h37,h38,h39,g9⟩,⟨hM0,hMc,hf,ks,gM⟩,hM9,h9c⟩;unfold zp4 zj9 zlt;simp only[rU,C.l,C.r,C.b,C.o];simp[rW,h0,h6,h9,h16,h17,h18,h37,h38,h39];exact⟨⟨by simp[rW,h0],by simp[rW,h6],by simp[rW,h9],by simp[rW,h16],by simp[rW,h17],by simp[rW,h18],by simp[rW,h37],by simp[rW,h38],by simp[rW,h39],by simp only[rG];exact g9⟩,⟨hM0,by simp only[rG];exact hMc,fun id hid=>by simp only[rG];exact hf id hid,ks,by simp only[rG];exact gM⟩,hM9,by simp only[rG];exact h9c⟩
 .rintro e s ⟨rfl,hJ⟩;exact kx s hJ
def zx2(sch:F)(c:CQ)(h:T Ob)(c0 Mp k:Nat)(s:St):Prop:=(s.tm.get 0=some (.f sch)/\s.tm.get 6=some (.mp Mp)/\s.tm.get 16=some (.f (zcN c))/\s.tm.get 17=some (.f (.i .i64 c.as.length))/\s.tm.get 18=some (.f (.i .i64 k)))/\Kct h c0 Mp s
def ct_l0{sch:F}{hd ns:List Str}{c:CQ}{h:T Ob}{c0 Mp:Nat}(hs:sch.d= .f sch)(hc:CqV sch hd ns c){s:St}{Q:Ex->St->Prop}(hJ:zx2 sch c h c0 Mp 0 s)(kx:∀s,zx2 sch c h c0 Mp c.as.length s->Q (.exit 0) s):WL pr zj9 s Q:=by
 have hal:=hc.al;refine zbD c.as.length (zx2 sch c h c0 Mp) (fun x s=>x= .exit 0/\zx2 sch c h c0 Mp c.as.length s) ?_ ?_ _ hJ ?_
 .rintro k s hlt ⟨⟨h0,h6,h16,h17,h18⟩,hM0,hMc,hf,ks,gM⟩;have hw:=zao k (by omega);have hx:c.as[k]? =some c.as[k]:=Z0 hlt;have ha:=Z1 hlt;obtain⟨ce,cols,hfd,hl,hcol⟩ :=hc.fd _ ha;generalize hA:c.as[k]=a at hx ha hfd hl;have q1:=fun k=>zad (k:=k) hfd
  have htd:=zq9 a.ts;have hcd:(slc 3 cols).d= .f (slc 3 cols):=zeh ..;have hcl:zci (.f (slc 3 cols))=some cols.length:=zd0 ..;have n1:¬s.c=s.c+1:=by omega
  have nM:¬Mp=s.c:=by omega
  have nM':¬Mp=s.c+1:=by omega
  unfold zj9 zlt;simp only[rU,C.l,C.r,C.b,C.o];simp[rW,h0,h6,h16,h17,h18,hlt,zlJ,hx,hA,atE,htd,hcd,q1,hs,n1,zcF,zxK,hcl,hl];refine ct_l2 (ce:=ce) (i9:=s.c+1) (k:=k) hc ha hl hcol ⟨⟨by simp[rW,h0],by simp[rW,h6],by simp[rW],by simp[rW,h16],by simp[rW,h17],by simp[rW,h18],by simp[rW],by simp[rW],by simp[rW],by simp[rW]⟩,⟨hM0,by simp only[rG];omega,fun id hid=>by
   have n:¬id=s.c:=by omega
   have n2:¬id=s.c+1:=by omega
   simp[rW,n,n2];exact hf id hid,ks,by simp[rW,gM,nM,nM']⟩,by omega,by simp only[rG];omega⟩ ?_
  rintro s1 ⟨⟨j0,j6,j9,j16,j17,j18,-⟩,hK,-⟩;simp[rW,j18,hw];exact⟨⟨by simp[rW,j0],by simp[rW,j6],by simp[rW,j16],by simp[rW,j17],by simp[rW]⟩,hK.1,by simp only[rG];exact hK.2.1,fun id hid=>by simp only[rG];exact hK.2.2.1 id hid,by simp only[rG];exact hK.2.2.2⟩
 .rintro s ⟨⟨h0,h6,h16,h17,h18⟩,hM0,hMc,hf,ks,gM⟩;unfold zj9 zlt;simp only[rU,C.l,C.r,C.b,C.o];simp[rW,h0,h6,h16,h17,h18];exact⟨⟨by simp[rW,h0],by simp[rW,h6],by simp[rW,h16],by simp[rW,h17],by simp[rW,h18]⟩,hM0,by simp only[rG];exact hMc,fun id hid=>by simp only[rG];exact hf id hid,ks,by simp only[rG];exact gM⟩
 .rintro e s ⟨rfl,hJ⟩;exact kx s hJ
def CtP(h:T Ob)(c0:Nat)(d:D)(h':T Ob)(c':Nat):Prop:=∃Mp,d= .tu [.mp Mp,.f (.b true)]/\c0<=Mp/\Mp<c'/\(∀id,id<c0->h'.get id=h.get id)/\∃ks,h'.get Mp=some (.map (zfq ks))
def zMr{sch:F}{hd ns:List Str}{c:CQ}{h:T Ob}{c0:Nat}(hs:sch.d= .f sch)(hc:CqV sch hd ns c):Eff pr 181 [.f sch,.ag [.f (zcN c),.f (zc7 c)]] h c0 (CtP h c0):=by
 refine zb2 kps fn181 (fun d h' c' ⟨Mp,e,_⟩ hd _=>by rw[e]at hd;cases hd) ?_;have n1:¬c0=c0+1:=by omega
 simp only[zlt,rU];simp[rW,st0,zak,zhn,n1];refine ct_l0 (h:=h) (c0:=c0) (Mp:=c0+1) hs hc ⟨⟨by simp[rW],by simp[rW],by simp[rW],by simp[rW],by simp[rW]⟩,by omega,by simp only[rG];omega,fun id hid=>by
  have n:¬id=c0:=by omega
  have n2:¬id=c0+1:=by omega
  simp[rW,n,n2],[],by simp[rW,zfq]⟩ ?_
 rintro s1 ⟨⟨j0,j6,-⟩,hM0,hMc,hf,ks,gM⟩;simp[rW,j6,zaR];exact⟨_,rfl,by omega,hMc,hf,ks,gM⟩
def fn182:pr.fn 182=some zjh:=by kernel_rfl
def zHf(h:Nat->Option Ob)(c es id a j:Nat)(i:Nat)(hi:i<2):opv h c (.iaa es 2 (.ptr id a 0 j) (.f (.i .i64 i)))=some {d:= .ptr id a 0 (j+i*es),c:=c}:=by
 simp[opv,zbv,hi,okD]
def zii(h:Nat->Option Ob)(c es id a j:Nat):opv h c (.iaa es 2 (.ptr id a 0 j) (.f (.i .i64 0)))=some {d:= .ptr id a 0 (j+0*es),c:=c}:=zHf h c es id a j 0 (by decide)
def zij(h:Nat->Option Ob)(c es id a j:Nat):opv h c (.iaa es 2 (.ptr id a 0 j) (.f (.i .i64 1)))=some {d:= .ptr id a 0 (j+1*es),c:=c}:=zHf h c es id a j 1 (by decide)
def zi5:C:=zjh.body.r.r.r.l.r.b.o
def CmT(t:Trm):Prop:=(∀n,t=Trm.cst n->Ans pr 169 [.ag (Sm.vF n)] (.b true))/\∀s,t=Trm.var s->s≠[]
def Jvk(q:Cm)(h:T Ob)(c0 Mp n:Nat)(s:St):Prop:=(s.tm.get 0=some (.mp Mp)/\s.tm.get 5=some (.ptr (c0+1) 2 0 0)/\s.tm.get 21=some (.sl (c0+2) 0 2 4 2 true)/\s.tm.get 22=some (.f (.i .i64 2))/\s.tm.get 23=some (.f (.i .i64 n)))/\(∃a b:Nat,a<=1/\b<=1/\s.h.get (c0+1)=some (.arr 2 0 [[.f (.i .i64 a),.f (.i .i64 b)]]))/\s.h.get (c0+2)=some (.arr 4 0 [tmD q.l,tmD q.r])/\c0+2<s.c/\∀id,id<c0->s.h.get id=h.get id
def vk_l0{q:Cm}{h:T Ob}{c0 Mp:Nat}{ks:List Str}(gM:h.get Mp=some (.map (zfq ks)))(hM:Mp<c0)(hl:CmT q.l)(hr:CmT q.r){s:St}{Q:Ex->St->Prop}(hJ:Jvk q h c0 Mp 0 s)(kx:∀s,Jvk q h c0 Mp 2 s->Q (.exit 0) s):WL pr zi5 s Q:=by
 refine zbD 2 (Jvk q h c0 Mp) (fun x s=>x= .exit 0/\Jvk q h c0 Mp 2 s) ?_ ?_ _ hJ ?_
 .rintro n s hlt ⟨⟨h0,h5,h21,h22,h23⟩,⟨a,b,ha,hb,g5⟩,g21,hc,hf⟩;have gM':=(hf Mp hM).trans gM;have n0:¬s.c=c0+1:=by omega
  have n1:¬s.c=c0+2:=by omega
  have n2:¬c0+1=s.c:=by omega
  have n3:¬c0+2=s.c:=by omega
  have n4:¬c0+1=c0+2:=by omega
  have n5:¬c0+2=c0+1:=by omega
  have n6:¬Mp=s.c:=by omega
  have n7:¬Mp=c0+1:=by omega
  have fin:∀{s':St} {a' b':Nat},(s'.tm.get 0=some (.mp Mp)/\s'.tm.get 5=some (.ptr (c0+1) 2 0 0)/\s'.tm.get 21=some (.sl (c0+2) 0 2 4 2 true)/\s'.tm.get 22=some (.f (.i .i64 2))/\s'.tm.get 23=some (.f (.i .i64 (n+1:Nat))))->a'<=1->b'<=1->s'.h.get (c0+1)=some (.arr 2 0 [[.f (.i .i64 a'),.f (.i .i64 b')]])->s'.h.get (c0+2)=some (.arr 4 0 [tmD q.l,tmD q.r])->s.c<=s'.c->(∀id,id<c0->s'.h.get id=s.h.get id)->Jvk q h c0 Mp (n+1) s':=fun r1 r2 r3 r4 r5 r6 r7=>⟨r1,⟨_,_,r2,r3,r4⟩,r5,by omega,fun id hid=>(r7 id hid).trans (hf id hid)⟩
  have w1:IntKind.i64.wrap 1=1:=rfl;have w2:IntKind.i64.wrap 2=2:=rfl;obtain rfl|rfl:n=0\/n=1:=by omega
  .cases ht:q.l with
   |cst m=>
    have q0:=hl.1 m ht;simp only[Sm.vF]at q0;have q1:=fun k=>zad (k:=k) q0
    have gl:=g21;simp only[tmD,ht]at gl;unfold zi5 zjh;simp only[rU,C.l,C.r,C.b,C.o];simp[rW,h0,h5,h21,h22,h23,gl,ziJ,ziG,ziI,zid,zib,zic,n0,n1,n2,n3,n4,n5,n6,n7,ziV,zgN,zii,zij,g5,q1];refine⟨by omega,fin (a':=1) (b':=b) ⟨by simp[rW,h0],by simp[rW,h5],by simp[rW,h21],by simp[rW,h22],by simp[rW,w1,w2]⟩ (by omega) hb (by simp[rW,n2,n4]) (by simp[rW,gl,tmD,ht,ziJ,ziG,ziI,zid,zib,zic,n3,n5]) (by simp only[rG];omega) (fun id hid=>by
     have e1:¬id=s.c:=by omega
     have e2:¬id=c0+1:=by omega
     simp[rW,e1,e2])⟩
   |var v=>
    have hv:=hl.2 v ht
    by_cases hk:v∈ks
    .obtain⟨jj,f1,-⟩ :=zjS (i:=0) hk;have gl:=g21;simp only[tmD,ht]at gl;unfold zi5 zjh;simp only[rU,C.l,C.r,C.b,C.o];simp[rW,h0,h5,h21,h22,h23,gl,ziJ,ziG,ziI,zid,zib,zic,n0,n1,n2,n3,n4,n5,n6,n7,ziV,zgN,zii,zij,g5,gM',f1,hv];refine⟨by omega,fin (a':=1) (b':=b) ⟨by simp[rW,h0],by simp[rW,h5],by simp[rW,h21],by simp[rW,h22],by simp[rW,w1,w2]⟩ (by omega) hb (by simp[rW,n2,n4]) (by simp[rW,gl,tmD,ht,ziJ,ziG,ziI,zid,zib,zic,n3,n5]) (by simp only[rG];omega) (fun id hid=>by
      have e1:¬id=s.c:=by omega
      have e2:¬id=c0+1:=by omega
      simp[rW,e1,e2])⟩
    .have f1:=zlO (i:=0) hk;have gl:=g21;simp only[tmD,ht]at gl;unfold zi5 zjh;simp only[rU,C.l,C.r,C.b,C.o];simp[rW,h0,h5,h21,h22,h23,gl,ziJ,ziG,ziI,zid,zib,zic,n0,n1,n2,n3,n4,n5,n6,n7,ziV,zgN,zii,zij,g5,gM',f1,hv];refine⟨by omega,fin (a':=0) (b':=b) ⟨by simp[rW,h0],by simp[rW,h5],by simp[rW,h21],by simp[rW,h22],by simp[rW,w1,w2]⟩ (by omega) hb (by simp[rW,n2,n4]) (by simp[rW,gl,tmD,ht,ziJ,ziG,ziI,zid,zib,zic,n3,n5]) (by simp only[rG];omega) (fun id hid=>by
      have e1:¬id=s.c:=by omega
      have e2:¬id=c0+1:=by omega
      simp[rW,e1,e2])⟩
  .cases ht:q.r with
   |cst m=>
    have q0:=hr.1 m ht;simp only[Sm.vF]at q0;have q1:=fun k=>zad (k:=k) q0
    have gl:=g21;simp only[tmD,ht]at gl;unfold zi5 zjh;simp only[rU,C.l,C.r,C.b,C.o];simp[rW,h0,h5,h21,h22,h23,gl,ziJ,ziG,ziI,zid,zib,zic,n0,n1,n2,n3,n4,n5,n6,n7,ziV,zgN,zii,zij,g5,q1];refine⟨by omega,fin (a':=a) (b':=1) ⟨by simp[rW,h0],by simp[rW,h5],by simp[rW,h21],by simp[rW,h22],by simp[rW,w1,w2]⟩ ha (by omega) (by simp[rW,n2,n4]) (by simp[rW,gl,tmD,ht,ziJ,ziG,ziI,zid,zib,zic,n3,n5]) (by simp only[rG];omega) (fun id hid=>by
     have e1:¬id=s.c:=by omega
     have e2:¬id=c0+1:=by omega
     simp[rW,e1,e2])⟩
   |var v=>
    have hv:=hr.2 v ht
    by_cases hk:v∈ks
    .obtain⟨jj,f1,-⟩ :=zjS (i:=0) hk;have gl:=g21;simp only[tmD,ht]at gl;unfold zi5 zjh;simp only[rU,C.l,C.r,C.b,C.o];simp[rW,h0,h5,h21,h22,h23,gl,ziJ,ziG,ziI,zid,zib,zic,n0,n1,n2,n3,n4,n5,n6,n7,ziV,zgN,zii,zij,g5,gM',f1,hv];refine⟨by omega,fin (a':=a) (b':=1) ⟨by simp[rW,h0],by simp[rW,h5],by simp[rW,h21],by simp[rW,h22],by simp[rW,w1,w2]⟩ ha (by omega) (by simp[rW,n2,n4]) (by simp[rW,gl,tmD,ht,ziJ,ziG,ziI,zid,zib,zic,n3,n5]) (by simp only[rG];omega) (fun id hid=>by
      have e1:¬id=s.c:=by omega
      have e2:¬id=c0+1:=by omega
      simp[rW,e1,e2])⟩
    .have f1:=zlO (i:=0) hk;have gl:=g21;simp only[tmD,ht]at gl;unfold zi5 zjh;simp only[rU,C.l,C.r,C.b,C.o];simp[rW,h0,h5,h21,h22,h23,gl,ziJ,ziG,ziI,zid,zib,zic,n0,n1,n2,n3,n4,n5,n6,n7,ziV,zgN,zii,zij,g5,gM',f1,hv];refine⟨by omega,fin (a':=a) (b':=0) ⟨by simp[rW,h0],by simp[rW,h5],by simp[rW,h21],by simp[rW,h22],by simp[rW,w1,w2]⟩ ha (by omega) (by simp[rW,n2,n4]) (by simp[rW,gl,tmD,ht,ziJ,ziG,ziI,zid,zib,zic,n3,n5]) (by simp only[rG];omega) (fun id hid=>by
      have e1:¬id=s.c:=by omega
      have e2:¬id=c0+1:=by omega
      simp[rW,e1,e2])⟩
 .rintro s ⟨⟨h0,h5,h21,h22,h23⟩,H⟩;unfold zi5 zjh;simp only[rU,C.l,C.r,C.b,C.o];simp[rW,h0,h5,h21,h22,h23];exact⟨⟨by simp[rW,h0],by simp[rW,h5],by simp[rW,h21],by simp[rW,h22],by simp[rW,h23]⟩,by simp only[rG];exact H⟩
 .rintro e s ⟨rfl,hJ⟩;exact kx s hJ
def VkP(h:T Ob)(c0:Nat)(d:D)(h':T Ob)(_:Nat):Prop:=d= .f (.b true)/\∀id,id<c0->h'.get id=h.get id
def zMs{q:Cm}{h:T Ob}{c0 Mp:Nat}{ks:List Str}(gM:h.get Mp=some (.map (zfq ks)))(hM:Mp<c0)(ho:1<=q.op/\q.op<=4)(hl:CmT q.l)(hr:CmT q.r):Eff pr 182 [.mp Mp,.ag ((cmF q).map D.f)] h c0 (VkP h c0):=by
 refine zb2 kps fn182 (fun d h' c' ⟨a,_⟩ _ _=>⟨a,fun _ _=>rfl⟩) ?_;have e:(cmF q).map D.f=[.f (.i .i64 q.op),.f (.s (tv q.l)),.f (.i .i64 (tk q.l)),.f (.i .i64 (tn q.l)),.f (.s []),.f (.s (tv q.r)),.f (.i .i64 (tk q.r)),.f (.i .i64 (tn q.r)),.f (.s [])]:=by simp[cmF,tmE]
 rw[e];have o1:¬q.op<1:=by omega
 have o2:¬(4:Int)<q.op:=by omega
 have o1':(1:Int)<=q.op:=ho.1;have o2':q.op<=4:=ho.2;have n1:¬c0=c0+1:=by omega
 have n2:¬c0=c0+1+1:=by omega
 have n3:¬c0+1=c0+2:=by omega
 have n4:¬c0+2=c0+1:=by omega
 have n5:¬c0+1=c0:=by omega
 simp only[zjh,rU];simp[rW,st0,zak,o1,o2,o1',o2',n1,n2,n3,n4,n5];refine vk_l0 (c0:=c0) gM hM hl hr ⟨⟨by simp[rW],by simp[rW],by simp[rW],by simp[rW],by simp[rW]⟩,⟨0,0,by omega,by omega,by simp[rW,n3,n4,n5]⟩,by simp[rW,tmD],by simp only[rG];omega,fun id hid=>by
  have e1:¬id=c0:=by omega
  have e2:¬id=c0+1:=by omega
  have e3:¬id=c0+2:=by omega
  have e4:¬id=c0+1+1:=by omega
  simp[rW,e1,e2,e3,e4]⟩ ?_
 rintro s1 ⟨⟨h0,h5,h21,h22,h23⟩,⟨a,b,ha,hb,g5⟩,-,hc,hf⟩;have fin:∀{d:D},d= .f (.b true)->VkP h c0 d s1.h s1.c:=fun e=>⟨e,hf⟩
 obtain rfl|rfl:a=0\/a=1:=by omega
 .simp[rW,h5,ziV,zgN,zii,zij,g5,zaR];exact fin rfl
 .obtain rfl|rfl:b=0\/b=1:=by omega
  .simp[rW,h5,ziV,zgN,zii,zij,g5,zaR];exact fin rfl
  .simp[rW,h5,ziV,zgN,zii,zij,g5,zaR];exact fin rfl
def fn104:pr.fn 104=some zis:=by kernel_rfl
def fn56:pr.fn 56=some g56:=by kernel_rfl
def fn31:pr.fn 31=some g31:=by kernel_rfl
def zgb:C:=zis.body.r.r.l.r.b.o
def znh:C:=zgb.r.r.l.b.r.r.r.r.r.b.o
def zye(sch:F)(hd:List Str)(l:List CQ)(k Hp Mp j:Nat)(s:St):Prop:=(s.tm.get 0=some (.f sch)/\s.tm.get 3=some (.ptr 0 2 0 0)/\s.tm.get 5=some (.mp Hp)/\s.tm.get 8=some (.mp Mp)/\s.tm.get 16=some (.f (qsF l))/\s.tm.get 17=some (.f (.i .i64 l.length))/\s.tm.get 18=some (.f (.i .i64 k))/\s.tm.get 43=some (.f (zah hd))/\s.tm.get 44=some (.f (.i .i64 hd.length))/\s.tm.get 45=some (.f (.i .i64 j))/\s.h.get 0=some (.arr 2 0 [[.f (zah hd),.f (qsF l)]]))/\0<Hp/\Hp<Mp/\Mp<s.c/\(∃ks,s.h.get Hp=some (.map (zfq ks)))/\∃ks,s.h.get Mp=some (.map (zfq ks))
def vt_l4{sch:F}{hd:List Str}{l:List CQ}{k Hp Mp:Nat}(hhl:hd.length<=6){s:St}{Q:Ex->St->Prop}(hJ:zye sch hd l k Hp Mp 0 s)(kx:∀s,zye sch hd l k Hp Mp hd.length s->Q (.exit 4) s):WL pr znh s Q:=by
 refine zbD hd.length (zye sch hd l k Hp Mp) (fun x s=>x= .exit 4/\zye sch hd l k Hp Mp hd.length s) ?_ ?_ _ hJ ?_
 .rintro j s hlt ⟨⟨h0,h3,h5,h8,h16,h17,h18,h43,h44,h45,g0⟩,hH0,hHM,hMc,⟨k1,gH⟩,k2,gM⟩;have hw:=zao j (by omega);have hx:hd[j]? =some hd[j]:=Z0 hlt;generalize hA:hd[j]=v at hx;have nHM:¬Mp=Hp:=by omega
  have n0:¬0=Hp:=by omega
  by_cases m2:v∈k2
  .obtain⟨j2,f2,e2⟩ :=zjS (i:=0) m2
   by_cases m1:v∈k1
   .obtain⟨j1,f1,e1⟩ :=zjS (i:=0) m1;rw[Z25]at f1;unfold znh zgb zis;simp only[rU,C.l,C.r,C.b,C.o];simp[rW,h0,h3,h5,h8,h16,h17,h18,h43,h44,h45,g0,hlt,zdf,hx,hA,gH,gM,f1,f2,e1,hw];exact⟨by omega,⟨by simp[rW,h0],by simp[rW,h3],by simp[rW,h5],by simp[rW,h8],by simp[rW,h16],by simp[rW,h17],by simp[rW,h18],by simp[rW,h43],by simp[rW,h44],by simp[rW],by simp[rW,g0,n0]⟩,hH0,hHM,by simp only[rG];exact hMc,⟨k1,by simp[rW,e1]⟩,k2,by simp[rW,gM,nHM]⟩
   .have f1:=zlO (i:=0) m1;unfold znh zgb zis;simp only[rU,C.l,C.r,C.b,C.o];simp[rW,h0,h3,h5,h8,h16,h17,h18,h43,h44,h45,g0,hlt,zdf,hx,hA,gH,gM,f1,f2,hw];exact⟨by omega,⟨by simp[rW,h0],by simp[rW,h3],by simp[rW,h5],by simp[rW,h8],by simp[rW,h16],by simp[rW,h17],by simp[rW,h18],by simp[rW,h43],by simp[rW,h44],by simp[rW],by simp[rW,g0,n0]⟩,hH0,hHM,by simp only[rG];exact hMc,⟨k1++[v],by simp[rW,zfq]⟩,k2,by simp[rW,gM,nHM]⟩
  .have f2:=zlO (i:=0) m2;unfold znh zgb zis;simp only[rU,C.l,C.r,C.b,C.o];simp[rW,h0,h3,h5,h8,h16,h17,h18,h43,h44,h45,g0,hlt,zdf,hx,hA,gM,f2,hw];exact⟨⟨by simp[rW,h0],by simp[rW,h3],by simp[rW,h5],by simp[rW,h8],by simp[rW,h16],by simp[rW,h17],by simp[rW,h18],by simp[rW,h43],by simp[rW,h44],by simp[rW],by simp only[rG];exact g0⟩,hH0,hHM,by simp only[rG];exact hMc,⟨k1,by simp only[rG];exact gH⟩,k2,by simp only[rG];exact gM⟩
 .rintro s ⟨⟨h0,h3,h5,h8,h16,h17,h18,h43,h44,h45,g0⟩,hH0,hHM,hMc,⟨k1,gH⟩,k2,gM⟩;unfold znh zgb zis;simp only[rU,C.l,C.r,C.b,C.o];simp[rW,h0,h3,h5,h8,h16,h17,h18,h43,h44,h45];exact⟨⟨by simp[rW,h0],by simp[rW,h3],by simp[rW,h5],by simp[rW,h8],by simp[rW,h16],by simp[rW,h17],by simp[rW,h18],by simp[rW,h43],by simp[rW,h44],by simp[rW,h45],by simp only[rG];exact g0⟩,hH0,hHM,by simp only[rG];exact hMc,⟨k1,by simp only[rG];exact gH⟩,k2,by simp only[rG];exact gM⟩
 .rintro e s ⟨rfl,hJ⟩;exact kx s hJ
def ztY:C:=zgb.r.r.l.b.r.r.r.l.r.b.o
def zyc(sch:F)(hd:List Str)(l:List CQ)(c:CQ)(k Hp Mp j:Nat)(s:St):Prop:=(s.tm.get 0=some (.f sch)/\s.tm.get 3=some (.ptr 0 2 0 0)/\s.tm.get 5=some (.mp Hp)/\s.tm.get 8=some (.mp Mp)/\s.tm.get 16=some (.f (qsF l))/\s.tm.get 17=some (.f (.i .i64 l.length))/\s.tm.get 18=some (.f (.i .i64 k))/\s.tm.get 31=some (.f (zc7 c))/\s.tm.get 32=some (.f (.i .i64 c.cs.length))/\s.tm.get 33=some (.f (.i .i64 j))/\s.h.get 0=some (.arr 2 0 [[.f (zah hd),.f (qsF l)]]))/\0<Hp/\Hp<Mp/\Mp<s.c/\(∃ks,s.h.get Hp=some (.map (zfq ks)))/\∃ks,s.h.get Mp=some (.map (zfq ks))
def vt_l2{sch:F}{hd ns:List Str}{l:List CQ}{c:CQ}{k Hp Mp:Nat}(hc:CqV sch hd ns c){s:St}{Q:Ex->St->Prop}(hJ:zyc sch hd l c k Hp Mp 0 s)(kx:∀s,zyc sch hd l c k Hp Mp c.cs.length s->Q (.exit 2) s):WL pr ztY s Q:=by
 have hkl:=hc.kl;refine zbD c.cs.length (zyc sch hd l c k Hp Mp) (fun x s=>x= .exit 2/\zyc sch hd l c k Hp Mp c.cs.length s) ?_ ?_ _ hJ ?_
 .rintro j s hlt ⟨⟨h0,h3,h5,h8,h16,h17,h18,h31,h32,h33,g0⟩,hH0,hHM,hMc,⟨k1,gH⟩,k2,gM⟩;have hw:=zao j (by omega);have hx:c.cs[j]? =some c.cs[j]:=Z0 hlt;have hm:=Z1 hlt;generalize hA:c.cs[j]=q at hx hm;have e:cmF q=[.i .i64 q.op,.s (tv q.l),.i .i64 (tk q.l),.i .i64 (tn q.l),.s [],.s (tv q.r),.i .i64 (tk q.r),.i .i64 (tn q.r),.s []]:=by simp[cmF,tmE]
  obtain⟨h1,hh1⟩ :∃h1,h1=(s.h.set s.c (.arr 9 0 [[.f (.i .i64 0),.f (.s []),.f (.i .i64 0),.f (.i .i64 0),.f (.s []),.f (.s []),.f (.i .i64 0),.f (.i .i64 0),.f (.s [])]])).set s.c (.arr 9 0 [[.f (.i .i64 q.op),.f (.s (tv q.l)),.f (.i .i64 (tk q.l)),.f (.i .i64 (tn q.l)),.f (.s []),.f (.s (tv q.r)),.f (.i .i64 (tk q.r)),.f (.i .i64 (tn q.r)),.f (.s [])]]):=⟨_,rfl⟩
  have f1:∀id,id<s.c->h1.get id=s.h.get id:=fun id hid=>by rw[hh1,TG,Z49 (by omega),TG,Z49 (by omega)]
  have E:=zMs (q:=q) (h:=h1) (c0:=s.c+1) ((f1 Mp hMc).trans gM) (by omega) (hc.op q hm) (hc.kt q hm _ (.inl rfl)) (hc.kt q hm _ (.inr rfl));rw[e]at E;simp only[Z10,Z85]at E;unfold ztY zgb zis;simp only[rU,C.l,C.r,C.b,C.o];simp[rW,h0,h3,h5,h8,h16,h17,h18,h31,h32,h33,g0,hlt,zBL,hx,hA,e];refine zbR [(0,.f sch),(3,.ptr 0 2 0 0),(5,.mp Hp),(8,.mp Mp),(16,.f (qsF l)),(17,.f (.i .i64 l.length)),(18,.f (.i .i64 k)),(31,.f (zc7 c)),(32,.f (.i .i64 c.cs.length)),(33,.f (.i .i64 j))] E (by simp only[rG];exact hh1.symm) (by simp only[rG]) (by simp only[Rg];simp[rW,h0,h3,h5,h8,h16,h17,h18,h31,h32,h33]) rfl ?_;rintro s1 d1 ⟨rfl,hf1⟩ hc1 j39 ⟨j0,j3,j5,j8,j16,j17,j18,j31,j32,j33,-⟩;have f2:∀id,id<s.c->s1.h.get id=s.h.get id:=fun id hid=>(hf1 id (by omega)).trans (f1 id hid)
  refine⟨?_⟩;simp[rW,j39,j33,hw];exact⟨⟨by simp[rW,j0],by simp[rW,j3],by simp[rW,j5],by simp[rW,j8],by simp[rW,j16],by simp[rW,j17],by simp[rW,j18],by simp[rW,j31],by simp[rW,j32],by simp[rW],by simp only[rG];exact (f2 0 (by omega)).trans g0⟩,hH0,hHM,by simp only[rG];omega,⟨k1,by simp only[rG];exact (f2 Hp (by omega)).trans gH⟩,k2,by simp only[rG];exact (f2 Mp hMc).trans gM⟩
 .rintro s ⟨⟨h0,h3,h5,h8,h16,h17,h18,h31,h32,h33,g0⟩,hH0,hHM,hMc,⟨k1,gH⟩,k2,gM⟩;unfold ztY zgb zis;simp only[rU,C.l,C.r,C.b,C.o];simp[rW,h0,h3,h5,h8,h16,h17,h18,h31,h32,h33];exact⟨⟨by simp[rW,h0],by simp[rW,h3],by simp[rW,h5],by simp[rW,h8],by simp[rW,h16],by simp[rW,h17],by simp[rW,h18],by simp[rW,h31],by simp[rW,h32],by simp[rW,h33],by simp only[rG];exact g0⟩,hH0,hHM,by simp only[rG];exact hMc,⟨k1,by simp only[rG];exact gH⟩,k2,by simp only[rG];exact gM⟩
 .rintro e s ⟨rfl,hJ⟩;exact kx s hJ
def zyb(sch:F)(hd:List Str)(l:List CQ)(Hp k:Nat)(s:St):Prop:=(s.tm.get 0=some (.f sch)/\s.tm.get 3=some (.ptr 0 2 0 0)/\s.tm.get 5=some (.mp Hp)/\s.tm.get 16=some (.f (qsF l))/\s.tm.get 17=some (.f (.i .i64 l.length))/\s.tm.get 18=some (.f (.i .i64 k))/\s.h.get 0=some (.arr 2 0 [[.f (zah hd),.f (qsF l)]]))/\0<Hp/\Hp<s.c/\∃ks,s.h.get Hp=some (.map (zfq ks))
def vt_l0{sch:F}{hd:List Str}{l:List (List Str×CQ)}{Hp:Nat}(H:QyV sch hd l){s:St}{Q:Ex->St->Prop}(hJ:zyb sch hd (l.map (·.2)) Hp 0 s)(kx:∀s,zyb sch hd (l.map (·.2)) Hp l.length s->Q (.exit 0) s):WL pr zgb s Q:=by
  have hn:=H.n;have hhl:hd.length<=6:=by rcases H.h with e|e|e<;>rw[e]<;>decide
  refine zbD l.length (zyb sch hd (l.map (·.2)) Hp) (fun x s=>x= .exit 0/\zyb sch hd (l.map (·.2)) Hp l.length s) ?_ ?_ _ hJ ?_
  . rintro k s hlt ⟨⟨h0,h3,h5,h16,h17,h18,g0⟩,hH0,hHc,ks,gH⟩;have h17':=h17;rw[Z18]at h17';have hw:=zao k (by omega);have hc:=H.c _ (Z1 hlt);have hx:(l.map (·.2))[k]? =some l[k].2:=by rw[Z36,Z0 hlt];rfl
    generalize hA:l[k]=q at hc hx;have n0:¬0=s.c:=by omega
    have nH:¬Hp=s.c:=by omega
    unfold zgb zis;simp only[rU,C.l,C.r,C.b,C.o];simp[rW,h0,h3,h5,h16,h18,g0,h17',hlt,zeA,hx,hA,cqE,zd8,zeb];refine zbR [(0,.f sch),(3,.ptr 0 2 0 0),(5,.mp Hp),(7,.ptr s.c 2 0 0),(16,.f (qsF (l.map (·.2)))),(17,.f (.i .i64 l.length)),(18,.f (.i .i64 k))] (zMr (h:=(s.h.set s.c (.arr 2 0 [[.f .nils,.f .nils]])).set s.c (.arr 2 0 [[.f (zcN q.2),.f (zc7 q.2)]])) (c0:=s.c+1) H.s hc) (by simp only[rG]) (by simp only[rG]) (by simp only[Rg];simp[rW,h0,h3,h5,h16,h18,h17']) rfl ?_;rintro s1 d1 ⟨Mp,rfl,hM0,hMc,hf,k2,gM⟩ hc1 j25 ⟨j0,j3,j5,j7,j16,j17,j18,-⟩;have f0:s1.h.get 0=some (.arr 2 0 [[.f (zah hd),.f (qsF (l.map (·.2)))]]):=by rw[hf 0 (by omega)];simp[rW,g0,n0]
    have fH:s1.h.get Hp=some (.map (zfq ks)):=by rw[hf Hp (by omega)];simp[rW,gH,nH]
    have f7:s1.h.get s.c=some (.arr 2 0 [[.f (zcN q.2),.f (zc7 q.2)]]):=by rw[hf s.c (by omega)];simp[rW]
    refine⟨?_⟩;simp[rW,j7,j25,f7,zok];refine vt_l2 (sch:=sch) (hd:=hd) (l:=l.map (·.2)) (Hp:=Hp) (Mp:=Mp) (k:=k) hc ⟨⟨by simp[rW,j0],by simp[rW,j3],by simp[rW,j5],by simp[rW],by simp[rW,j16],by simp[rW,j17,Z18],by simp[rW,j18],by simp[rW],by simp[rW],by simp[rW],by simp only[rG];exact f0⟩,hH0,by omega,by simp only[rG];exact hMc,⟨ks,by simp only[rG];exact fH⟩,k2,by simp only[rG];exact gM⟩ ?_;clear j0 j3 j5 j7 j16 j17 j18 j25 f0 fH f7 hf gM hMc hc1;rintro s1 ⟨⟨j0,j3,j5,j8,j16,j17,j18,-,-,-,f0⟩,-,hHM,hMc,⟨ks,fH⟩,k2,gM⟩;rw[Z18]at j17;simp[rW,j3,f0,zbz];refine vt_l4 (sch:=sch) (hd:=hd) (l:=l.map (·.2)) (Hp:=Hp) (Mp:=Mp) (k:=k) hhl ⟨⟨by simp[rW,j0],by simp[rW,j3],by simp[rW,j5],by simp[rW,j8],by simp[rW,j16],by simp[rW,j17,Z18],by simp[rW,j18],by simp[rW],by simp[rW],by simp[rW],by simp only[rG];exact f0⟩,hH0,by omega,by simp only[rG];exact hMc,⟨ks,by simp only[rG];exact fH⟩,k2,by simp only[rG];exact gM⟩ ?_;rintro s2 ⟨⟨i0,i3,i5,i8,i16,i17,i18,-,-,-,e0⟩,-,-,hc2,⟨k3,eH⟩,-⟩;simp[rW,i18,hw];exact⟨⟨by simp[rW,i0],by simp[rW,i3],by simp[rW,i5],by simp[rW,i16],by simp[rW,i17],by simp[rW],by simp only[rG];exact e0⟩,hH0,by simp only[rG];omega,k3,by simp only[rG];exact eH⟩
  . rintro s ⟨⟨h0,h3,h5,h16,h17,h18,g0⟩,hH0,hHc,ks,gH⟩;have h17':=h17;rw[Z18]at h17';unfold zgb zis;simp only[rU,C.l,C.r,C.b,C.o];simp[rW,h0,h3,h5,h16,h18,h17'];exact⟨⟨by simp[rW,h0],by simp[rW,h3],by simp[rW,h5],by simp[rW,h16],by simp[rW,h17],by simp[rW,h18],by simp only[rG];exact g0⟩,hH0,by simp only[rG];exact hHc,ks,by simp only[rG];exact gH⟩
  . rintro e s ⟨rfl,hJ⟩;exact kx s hJ
def zLr{sch:F}{hd:List Str}{l:List (List Str×CQ)}(H:QyV sch hd l):Ans pr 104 [sch,.ag [zah hd,qsF (l.map (·.2))]] (.b true):=by
 have hs:=H.s;refine zcf fn104 ?_;simp only[zis,rU];simp[rW,st0,zak,hs,zaL,ze8,zcH,Z18];refine vt_l0 (Hp:=1) H ⟨⟨by simp[rW,hs],by simp[rW],by simp[rW],by simp[rW],by simp[rW,Z18],by simp[rW],by simp[rW]⟩,by omega,by simp only[rG];omega,[],by simp[rW,zfq]⟩ fun s1 _=> ?_
 simp[rW]
def ans56{sch:F}{hd:List Str}{l:List (List Str×CQ)}(H:QyV sch hd l)(hne:∀q∈l,q.1≠[])(hsc:Ans pr 101 [sch] (.b true)):Ans pr 56 [sch,.ag [zah hd,qsF (l.map (·.2))]] (.i .i64 0):=by
 have hs:=H.s;have q1:=fun k=>zad (k:=k) hsc
 have q2:=fun k=>zad (k:=k) (zLp H)
 have q3:=fun k=>zad (k:=k) (zLq H)
 have q4:=fun k=>zad (k:=k) (zLr H)
 have q5:=fun k=>zad (k:=k) (zLs H hne)
 refine zcf fn56 ?_;simp only[g56,rU];simp[rW,st0,zak,hs,zaL,ze8,q1,q2,q3,q4,q5]
def JV31(L:List Rl)(q0 q1:F)(k:Nat)(s:St):Prop:=(s.tm.get 0=some (.f (zbt L))/\s.tm.get 3=some (.ptr 0 2 0 0)/\s.tm.get 7=some (.f (zbt L))/\s.tm.get 8=some (.f (.i .i64 L.length))/\s.tm.get 9=some (.f (.i .i64 k))/\s.h.get 0=some (.arr 2 0 [[.f q0,.f q1]]))/\0<s.c
def ans31{L:List Rl}{sch q0 q1:F}{e:Int}(hn:L.length<=8)(hco:∀r∈L,r.co.d= .f r.co/\(D.f r.co).cells=some [.f r.co])(hV:∀r∈L,Ans pr 55 [.ag (rlF r)] (.i .i64 0))(hsp:Ans pr 57 [zbt L] sch)(hsd:sch.d= .f sch)(h0:q0.d= .f q0)(h1:q1.d= .f q1)(hq:Ans pr 56 [sch,.ag [q0,q1]] (.i .i64 e)):Ans pr 31 [zbt L,.ag [q0,q1]] (.b (e==0)):=by
 have q1':=fun k=>zad (k:=k) hq
 have q2':=fun k=>zad (k:=k) hsp
 refine zcf fn31 ?_;simp only[g31,rU];simp[rW,st0,zak,ziZ,zrT,h0,h1];refine zbD L.length (JV31 L q0 q1) (fun x s=>x= .exit 0/\JV31 L q0 q1 L.length s) ?_ ?_ _ ⟨⟨by simp[rW],by simp[rW],by simp[rW],by simp[rW],by simp[rW],by simp[rW]⟩,by simp only[rG];omega⟩ ?_
 .rintro k s hlt ⟨⟨h0,h3,h7,h8,h9,gP⟩,hPc⟩;have hw:=zao k (by omega);have hx:L[k]? =some L[k]:=Z0 hlt;have hrm:=Z1 hlt;generalize hA:L[k]=r at hx hrm;obtain⟨hc1,hc2⟩ :=hco r hrm;have hd:(zbO r.tu).d= .f (zbO r.tu):=zoG _;have hc3:(D.f (zbO r.tu)).cells=some [.f (zbO r.tu)]:=zcF _ _;have hva:=hV r hrm;rw[rlE]at hva;have q3:=fun k=>zad (k:=k) hva
  have n1:¬0=s.c:=by omega
  simp[rW,h0,h3,h7,h8,h9,hlt,znU,hx,hA,rlE,hc2,hc1,hd,hc3,q3,hw];exact⟨⟨by simp[rW,h0],by simp[rW,h3],by simp[rW,h7],by simp[rW,h8],by simp[rW],by simp[rW,gP,n1]⟩,by simp only[rG];omega⟩
 .rintro s ⟨⟨h0,h3,h7,h8,h9,gP⟩,hPc⟩;simp[rW,h0,h3,h7,h8,h9];exact⟨⟨by simp[rW,h0],by simp[rW,h3],by simp[rW,h7],by simp[rW,h8],by simp[rW,h9],by simp[rW,gP]⟩,by simp only[rG];omega⟩
 .rintro x s ⟨rfl,⟨h0,h3,h7,h8,h9,gP⟩,hPc⟩;simp[rW,h0,h3,h7,h8,h9];refine zaw ?_;simp[rW,h0,h3,h7,h8,h9,gP,q2',q1',hsd,ziZ]
def tmB(ns:List Str):Trm->Bool
 | .var s=>!decide (s=[])&&decide (s∈ns)
 | .cst n=>decide (n∈([1,2,3]:List Int))
def arB(r:Str)(n:Nat):Bool:=(decide (r=[82])&&decide (n=2))||((decide (r=[83])&&decide (n=1))||((decide (r=[75])&&decide (n=2))||(decide (r=[67])&&decide (n=2))))
def cqB1(t:Tr):Bool:=(t.1.cs.all fun k=>decide (1<=k.op)&&(decide (k.op<=4)&&(tmB t.2 k.l&&tmB t.2 k.r)))&&(decide (t.1.cs.length<=1)&&(!t.1.as.isEmpty&&(decide (t.1.as.length<=3)&&((t.1.as.all fun a=>arB a.r a.ts.length&&a.ts.all (tmB t.2))&&((decide (t.2=[[120]])||(decide (t.2=[[120],[121]])||decide (t.2=[[120],[121],[122]])))&&t.2.all fun s=>t.1.as.any fun a=>!a.neg&&decide (Trm.var s∈a.ts))))))
def tbB:(TB.all fun t=>cqB1 t)=true:=by kernel_rfl
structure RlT(nm:Str)(n:Nat)(r:Rl):Prop where
 nm:r.nm=nm
 co:r.co.d= .f r.co/\(D.f r.co).cells=some [.f r.co]
 l:r.tu.length<=3
 t:∀t∈r.tu,t.1.length=n/\∀z∈t.1,z∈VzL
 s:Srt r.tu
structure LsT(L:List Rl):Prop where
 x:∃a b c d,L=[a,b,c,d]/\RlT [82] 2 a/\RlT [83] 1 b/\RlT [75] 2 c/\RlT [67] 2 d
structure CqT(t:Tr):Prop where
 k:∀k∈t.1.cs,1<=k.op/\k.op<=4/\tmB t.2 k.l=true/\tmB t.2 k.r=true
 kl:t.1.cs.length<=1
 ne:t.1.as≠[]
 l:t.1.as.length<=3
 a:∀a∈t.1.as,arB a.r a.ts.length=true/\∀u∈a.ts,tmB t.2 u=true
 n:t.2=[[120]]\/t.2=[[120],[121]]\/t.2=[[120],[121],[122]]
 b:∀s∈t.2,∃a∈t.1.as,a.neg=false/\Trm.var s∈a.ts
def tbC{t:Tr}(ht:t∈TB):CqT t:=by
 have h:=Z50.1 tbB t ht;simp only[cqB1,Z14,Z86,Z50,Z115,Z30,Z80,List.isEmpty_iff,List.isEmpty_eq_false_iff]at h;obtain⟨h0,h1,h2,h3,h4,h5,h6⟩ :=h;exact⟨h0,h1,h2,h3,h4,h5,h6⟩
def LsT.all{L:List Rl}(H:LsT L):∀r∈L,∃nm n,RlT nm n r:=by
 obtain⟨a,b,c,d,rfl,h1,h2,h3,h4⟩ :=H;intro r hr;simp only[Z5,Z164,or_false]at hr;rcases hr with rfl|rfl|rfl|rfl
 .exact⟨_,_,h1⟩
 .exact⟨_,_,h2⟩
 .exact⟨_,_,h3⟩
 .exact⟨_,_,h4⟩
def LsT.len{L:List Rl}(H:LsT L):L.length=4:=by
 obtain⟨a,b,c,d,rfl,-⟩ :=H;rfl
def LsT.lr{L:List Rl}(H:LsT L):LR L:=⟨by rw[H.len];decide,fun r hr=>(H.all r hr).elim fun _ ⟨_,h⟩ =>h.l,fun r hr=>(H.all r hr).elim fun _ ⟨_,h⟩ =>h.co⟩
def LsT.ro{L:List Rl}(H:LsT L):zla L:=⟨by rw[H.len];decide,H.lr.o,fun r hr=>by
 obtain⟨_,_,h⟩ :=H.all r hr;exact⟨h.l,fun t ht=>by
  have e:=(h.t t ht).1;have:t.1.length<=999:=by
   obtain⟨a,b,c,d,rfl,h1,h2,h3,h4⟩ :=H;simp only[Z5,Z164,or_false]at hr;rcases hr with rfl|rfl|rfl|rfl
   .have:=(h1.t t ht).1;omega
   .have:=(h2.t t ht).1;omega
   .have:=(h3.t t ht).1;omega
   .have:=(h4.t t ht).1;omega
  omega,h.s⟩⟩
def LsT.at{L:List Rl}(H:LsT L){r:Str}{n:Nat}(h:arB r n=true):∃q,L[riN L r]? =some q/\RlT r n q/\q∈L:=by
 obtain⟨a,b,c,d,rfl,h1,h2,h3,h4⟩ :=H;have e1:=h1.nm;have e2:=h2.nm;have e3:=h3.nm;have e4:=h4.nm;simp only[arB,Z115,Z14,Z86]at h;rcases h with⟨rfl,rfl⟩ |⟨rfl,rfl⟩ |⟨rfl,rfl⟩ |⟨rfl,rfl⟩
 .exact⟨a,by simp[riN,List.findIdx_cons,e1],h1,by simp⟩
 .exact⟨b,by simp[riN,List.findIdx_cons,e1,e2],h2,by simp⟩
 .exact⟨c,by simp[riN,List.findIdx_cons,e1,e2,e3],h3,by simp⟩
 .exact⟨d,by simp[riN,List.findIdx_cons,e1,e2,e3,e4],h4,by simp⟩
def zA7{ns:List Str}{u:Trm}(h:tmB ns u=true):zi9 ns u:=by
 cases u with
 |cst n=>trivial
 |var s=>simpa [tmB,zi9]using h
def ztP{r:Str}{n:Nat}(h:arB r n=true):n=1\/n=2:=by
 simp only[arB,Z115,Z14,Z86]at h;omega
def CqT.nl{t:Tr}(H:CqT t):t.2.length<=3/\t.2.Nodup/\t.2≠[]:=by
 rcases H.n with e|e|e<;>rw[e]<;>decide
def CqT.inn{t:Tr}(H:CqT t){L:List Rl}(HL:LsT L):zm9 L t.2 t.1:=by
 refine⟨fun a ha=> ?_,fun a ha u hu=>zA7 ((H.a a ha).2 u hu),fun a ha e=> ?_,fun a ha=> ?_,by have:=H.l;omega,fun k hk=>⟨zA7 (H.k k hk).2.2.1,zA7 (H.k k hk).2.2.2⟩,by have:=H.kl;omega⟩
 .obtain⟨q,_,h2,h3⟩ :=HL.at (H.a a ha).1;exact⟨q,h3,h2.nm⟩
 .have:=ztP (H.a a ha).1;rw[e]at this;simp at this
 .have:=ztP (H.a a ha).1;omega
def CqT.ok{t:Tr}(H:CqT t){L:List Rl}(HL:LsT L):zma L t.2 t.1:=by
 refine⟨H.inn HL,by have:=H.nl.1;omega,fun a ha r hr tu htu=> ?_,?_,fun k hk=>by have:=H.k k hk;omega⟩
 .obtain⟨q,h1,h2,_⟩ :=HL.at (H.a a ha).1;rw[h1]at hr;cases hr;exact (h2.t tu htu).1
 .have:=Z76 (fun a:Atm=>!a.neg) t.1.as;have:=H.l;omega
def CqT.bb{t:Tr}(H:CqT t):CqB t.2 t.1:=⟨H.nl.2.1,fun s hs=>by
 exact H.b s hs⟩
def sc_of{r:Str}{n:Nat}(h:arB r n=true):ScR r n:=by
 simp only[arB,Z115,Z14,Z86]at h;rcases h with⟨rfl,rfl⟩ |⟨rfl,rfl⟩ |⟨rfl,rfl⟩ |⟨rfl,rfl⟩
 .exact scR
 .exact scS
 .exact scK
 .exact scC
def zG4{ns:List Str}{s:Str}(h:tmB ns (.var s)=true):s≠[]:=by
 simp only[tmB,Z14,Z80,Z65]at h;exact h.1
def zDh{ns:List Str}{n:Int}(h:tmB ns (.cst n)=true):n∈([1,2,3]:List Int):=by
 simpa [tmB]using h
theorem zOV:∀(b:Nat) (s:Str),s∈hdC b->s=[120]\/s=[121]
 |0,s,h=>by simp[hdC]at h
 |1,s,h=>by simp[hdC]at h;exact .inl h
 |_+2,s,h=>by simp[hdC]at h;exact h.symm
def CqT.vv{t:Tr}(H:CqT t){bs:List Str}(B:Bun t bs){b:Nat}(hx:∀s∈hdC b,s∈t.2):CqV zcC (hdC b) t.2 t.1:=by
 refine⟨by have:=H.kl;omega,by have:=H.l;omega,by have:=H.nl.1;omega,B.vr,fun s hs=>nmA s ?_,fun a ha=> ?_,fun a ha n hn=> ?_,fun a ha=>by have:=ztP (H.a a ha).1;omega,fun a ha=>B.bd a ha,fun s hs=> ?_,?_,fun a ha s hs=>zG4 ((H.a a ha).2 _ hs),fun k hk=>⟨(H.k k hk).1,(H.k k hk).2.1⟩,fun k hk u hu=> ?_⟩
 .rcases H.n with e|e|e<;>rw[e]at hs<;>simp only[Z5,Z164,or_false]at hs|- <;>first|exact .inl hs|exact hs.elim .inl fun h=> .inr (.inl h)|exact hs
 .obtain⟨ce,cols,h1,h2,h3⟩ :=(sc_of (H.a a ha).1).q;exact⟨ce,cols,h1,h2,h3⟩
 .exact csA n (zDh ((H.a a ha).2 _ hn))
 .rcases Z4.1 hs with hs|hs
  .exact H.b s (hx s hs)
  .exact H.b s hs
 .match b,hx with
  |0,_=>exact B.c0
  |1,hx=>exact B.c1
  |_+2,hx=>exact B.c2 (hx _ (by simp[hdC]))
 .have h3:tmB t.2 u=true:=by
   rcases hu with rfl|rfl
   .exact (H.k k hk).2.2.1
   .exact (H.k k hk).2.2.2
  exact⟨fun n e=>csA n (zDh (e▸h3)),fun s e=>zG4 (e▸h3)⟩
def vz3{z:Int}(h:z∈VzL):z=1\/z=2\/z=3:=by
 simpa only[VzL,Z5,Z164,or_false]using h
theorem zPk{n:Nat}(hn:n<=2):zj8 (Vr (· ∈VzL) n) zAs where
  a v hv:=by
    obtain⟨hl,hz⟩ :=hv
    match v,hl,hz with
    |[],_,_=>exact⟨_,keN,fun h c=>rfl⟩
    | [z],_,hz=>
      refine⟨_,keA z (hz z (by simp)),fun h c=> ?_⟩;rcases vz3 (hz z (by simp))with rfl|rfl|rfl<;>rfl
    | [y,z],_,hz=>
      refine⟨_,keB y (hz y (by simp)) z (hz z (by simp)),fun h c=> ?_⟩;rcases vz3 (hz y (by simp))with rfl|rfl|rfl<;>rcases vz3 (hz z (by simp))with rfl|rfl|rfl<;>rfl
    |_::_::_::_,h,_=>exact absurd h (by simp only[Z23];omega)
  i u v hu hv e:=by
    obtain⟨hl,hz⟩ :=hu;obtain⟨hl',hz'⟩ :=hv;have e1:∀{a b:Int},a∈VzL->b∈VzL->UInt8.ofNat a.toNat=UInt8.ofNat b.toNat->a=b:=fun{a b} ha hb h=>by
      rcases vz3 ha with rfl|rfl|rfl<;>rcases vz3 hb with rfl|rfl|rfl<;>first|rfl|exact absurd h (by decide)
    match u,v,hl,hl',hz,hz',e with
    |[],[],_,_,_,_,_=>rfl
    | [a],[b],_,_,hz,hz',e=>
      simp only[zAs,Z92,Z166,Z22,List.cons.injEq,true_and,and_true]at e;rw[e1 (hz a (by simp)) (hz' b (by simp)) e]
    | [a,c],[b,d],_,_,hz,hz',e=>
      simp only[zAs,Z92,Z166,Z22,Z29,Z28,List.cons.injEq,true_and,and_true]at e;rw[e1 (hz a (by simp)) (hz' b (by simp)) e.1,e1 (hz c (by simp)) (hz' d (by simp)) e.2]
    |[],_::_,h,h',_,_,_=>simp at h h';omega
    |_::_,[],h,h',_,_,_=>simp at h h';omega
    |[_],_::_::_,h,h',_,_,_=>simp only[Z23,Z170]at h h';omega
    |_::_::_,[_],h,h',_,_,_=>simp only[Z23,Z170]at h h';omega
    |_::_::_::_,_,h,_,_,_,_=>simp only[Z23]at h;omega
    |_,_::_::_::_,_,h,_,_,_=>simp only[Z23]at h;omega
structure zk9(L:List Rl):Prop where
 ls:LsT L
 va:∀r∈L,Ans pr 55 [.ag (rlF r)] (.i .i64 0)
 sc:Ans pr 57 [zbt L] zcC
def trN(i:Nat):Tr:=TB[i]?.getD (cq0,[])
def qsT(js:List Nat):List (List Str×CQ):=js.map fun i=>((trN i).2,cqN i)
def zGU(js:List Nat):(qsT js).map (·.2)=cqs js:=by simp[qsT,cqs]
theorem trH:∀b,b<3->((ixL b).all fun i=>decide (i<TB.length)&&(hdC b).all fun s=>decide (s∈(trN i).2))=true
 |0,_=>by kernel_rfl
 |1,_=>by kernel_rfl
 |2,_=>by kernel_rfl
 |b+3,h=>absurd h (by omega)
def Q3(b:Nat)(l:List Nat):Prop:=(b<3/\∀i∈l,i∈ixL b)/\l.length<=5
def Q3.k{b:Nat}{l:List Nat}(h:Q3 b l):QOk b l:=⟨h.1,by have:=h.2;omega⟩
def trT{b:Nat}{i:Nat}(hb:b<3)(h:i∈ixL b):trN i∈TB/\∀s∈hdC b,s∈(trN i).2:=by
 have h0:=Z50.1 (trH b hb) i h;rw[Z14]at h0;have hl:=of_decide_eq_true h0.1;exact⟨by simp[trN,Z0 hl],fun s hs=>of_decide_eq_true (Z50.1 h0.2 s hs)⟩
def zmM{b:Nat}{js:List Nat}(h:Q3 b js){q:List Str×CQ}(hq:q∈qsT js):∃t∈TB,(∀s∈hdC b,s∈t.2)/\q=(t.2,t.1):=by
 obtain⟨i,hi,rfl⟩ :=Z12.1 hq;exact⟨trN i,(trT h.1.1 (h.1.2 i hi)).1,(trT h.1.1 (h.1.2 i hi)).2,rfl⟩
theorem zAp:∀b:Nat,hdC b=[]\/hdC b=[[120]]\/hdC b=[[121],[120]]
 |0=> .inl rfl
 |1=> .inr (.inl rfl)
 |_+2=> .inr (.inr rfl)
def ztj(b:Nat):(hdC b).length<=2:=by rcases zAp b with e|e|e<;>rw[e]<;>decide
def zCt{b:Nat}{js:List Nat}(h:Q3 b js):QyV zcC (hdC b) (qsT js)/\∀q∈qsT js,q.1≠[]:=
 ⟨⟨by have:=h.2;simp[qsT];omega,zAp b,rfl,fun q hq=>by
  obtain⟨t,ht,hx,rfl⟩ :=zmM h hq;obtain⟨bs,hB,-⟩ :=bnA t ht;exact (tbC ht).vv hB hx,fun s hs=>nmA s (by simp only[Z5,Z164,or_false]at hs|-;exact hs.elim .inl fun h=> .inr (.inl h))⟩,fun q hq=>by
  obtain⟨t,ht,hx,rfl⟩ :=zmM h hq;exact (tbC ht).nl.2.2⟩
def val_ok{L:List Rl}(H:zk9 L){b:Nat}{js:List Nat}(h:Q3 b js):Ans pr 31 [zbt L,.ag (qyF (hdC b) (qsT js))] (.b true):=
 ans31 (e:=0) H.ls.lr.n H.ls.lr.o H.va H.sc rfl (zaL _) (ze8 _) (ans56 (zCt h).1 (zCt h).2 vsA)
def aq_ok{L:List Rl}(H:zk9 L){b:Nat}{js:List Nat}(h:Q3 b js):zo3 L (· ∈VzL) (hdC b) (qsT js):=by
  refine⟨⟨⟨by have:=ztj b;omega,by have:=h.2;simp only[qsT,Z18];omega,fun q hq=> ?_⟩,fun q hq=> ?_⟩,fun q hq s hs=> ?_,fun r hr tu htu z hz=> ?_⟩
  . obtain⟨t,ht,hx,rfl⟩ :=zmM h hq;obtain⟨bs,hB,-⟩ :=bnA t ht;exact⟨(tbC ht).ok H.ls,hB.vr⟩
  . obtain⟨t,ht,hx,rfl⟩ :=zmM h hq;exact (tbC ht).bb
  . obtain⟨t,ht,hx,rfl⟩ :=zmM h hq;exact hx s hs
  . obtain⟨_,_,h⟩ :=H.ls.all r hr;exact (h.t tu htu).2 z hz
def zGT{L:List Rl}(H:zk9 L){b:Nat}{js:List Nat}(h:Q3 b js):∀q∈qsT js,zm9 L q.1 q.2/\q.1.Nodup:=fun q hq=>by
 obtain⟨t,ht,hx,rfl⟩ :=zmM h hq;exact⟨(tbC ht).inn H.ls,(tbC ht).nl.2.1⟩
def zyx{L:List Rl}(H:zk9 L){b:Nat}{js:List Nat}(h:Q3 b js)(v:List Int):zk7 L (hdC b) (qsT js) v↔∃c∈cqs js,∃σ,zlC L c σ/\v=(hdC b).map σ:=by
 rw[ztM (zGT H h) (fun q hq s hs=> ?_),zGU];obtain⟨t,ht,hx,rfl⟩ :=zmM h hq;exact hx s hs
def Bw:Nat->List (List Int)
 |0=>[[]]
 |1=>[[1],[2],[3]]
 |_=>[[1,1],[1,2],[1,3],[2,1],[2,2],[2,3],[3,1],[3,2],[3,3]]
def zRx{L:List Rl}(H:zk9 L){b i:Nat}(hb:b<3)(hi:i∈ixL b){σ:Str->Int}(hs:zlC L (cqN i) σ){s:Str}(h:s∈hdC b):σ s=1\/σ s=2\/σ s=3:=by
 obtain⟨h1,h2⟩ :=trT hb hi;have HC:=tbC h1;obtain⟨a,ha,hn,hxa⟩ :=HC.b s (h2 s h);have h3:=(hs.1 a ha).2 hn;obtain⟨q,k1,k2,k3⟩ :=H.ls.at (HC.a a ha).1;rw[<-znC]at h3;simp only[hasB,k1,Z30]at h3;obtain⟨tu,htu,e⟩ :=h3;have e:tu.1=a.ts.map (teS σ):=by simpa using e
 have hz:=(k2.t tu htu).2 (σ s) (by rw[e];exact Z12.2 ⟨_,hxa,rfl⟩);exact vz3 hz
def zBz{L:List Rl}(H:zk9 L){b:Nat}{js:List Nat}(h:Q3 b js)(v:List Int)(hv:zk7 L (hdC b) (qsT js) v):v∈Bw b:=by
 obtain⟨c,hc,σ,hs,rfl⟩ :=(zyx H h v).1 hv;obtain⟨i,hi,rfl⟩ :=Z12.1 hc;have hv:=fun s=>zRx H h.1.1 (h.1.2 i hi) hs (s:=s)
 match b,hv with
 |0,_=>simp[hdC,Bw]
 |1,hv=>
  have h1:=hv [120] (by simp[hdC]);simp only[hdC,Z10,Z85];rcases h1 with e|e|e<;>rw[e]<;>decide
 |_+2,hv=>
  have h1:=hv [120] (by simp[hdC]);have h2:=hv [121] (by simp[hdC]);simp only[hdC,Z10,Z85];rcases h1 with e|e|e<;>rcases h2 with e2|e2|e2<;>rw[e,e2]<;>simp[Bw]
def zjF(L:List Rl)(b:Nat)(js:List Nat):List (List Int):=(Bw b).filter fun v=>@decide (zk7 L (hdC b) (qsT js) v) (Classical.propDecidable _)
def zrU{L:List Rl}(H:zk9 L){b:Nat}{js:List Nat}(h:Q3 b js)(v:List Int):v∈zjF L b js↔zk7 L (hdC b) (qsT js) v:=by
 simp only[zjF,Z57,Z86];exact⟨fun h=>h.2,fun hv=>⟨zBz H h v hv,hv⟩⟩
theorem bw_s:∀b,zhK (Bw b)
 |0=>by simp[Bw,zhK]
 |1=>by simp[Bw,zhK,zaH,zaW]
 |_+2=>by simp[Bw,zhK,zaH,zaW]
theorem bw_l:∀b,(Bw b).length<=9
 |0=>by decide
 |1=>by decide
 |_+2=>by simp[Bw]
def zCJ(L:List Rl)(b:Nat)(js:List Nat):zhK (zjF L b js):=Z172 _ (bw_s b)
def zCI(L:List Rl)(b:Nat)(js:List Nat):(zjF L b js).length<=9:=Z3 (Z76 _ _) (bw_l b)
def ev_m{L:List Rl}(H:zk9 L){b:Nat}{js:List Nat}(h:Q3 b js):Ans pr 9 [zbt L,.ag [zah (hdC b),qsF (cqs js)]] (zdz (zjF L b js)):=by
 have e:[zah (hdC b),qsF (cqs js)]=qyF (hdC b) (qsT js):=by rw[qyF,zGU]
 rw[e];exact ans9 (B:=Bw b) H.ls.lr H.ls.ro (zPk (ztj b)) (aq_ok H h) (zGT H h) (val_ok H h) (zCJ L b js) (zrU H h) (fun v hv=>zBz H h v hv) (by have:=bw_l b;omega)
theorem homT:∀b,b<3->((ixL b).all fun i=>(ixL b).all fun j=>!exI b i j||homG (hdC b) (cqN i) (cqN j))=true
 |0,_=>by kernel_rfl
 |1,_=>by kernel_rfl
 |2,_=>by kernel_rfl
 |b+3,h=>absurd h (by omega)
def zFv{L:List Rl}(H:zk9 L){b:Nat}{l m:List Nat}(hl:Q3 b l)(hm:Q3 b m)(h:zrD b l m=true){v:List Int}(hv:v∈zjF L b l):v∈zjF L b m:=by
 rw[zrU H hl,zyx H hl]at hv;rw[zrU H hm,zyx H hm];obtain⟨c,hc,τ,hs,rfl⟩ :=hv;obtain⟨j,hj,rfl⟩ :=Z12.1 hc;obtain⟨i,hi,he⟩ :=Z30.1 (Z50.1 h j hj);have:=Z50.1 (Z50.1 (homT b hl.1.1) i (hm.1.2 i hi)) j (hl.1.2 j hj);rw[he,Z89,Bool.false_or]at this;obtain⟨σ,h1,h2⟩ :=zEj this hs;exact⟨cqN i,List.mem_map_of_mem hi,σ,h1,h2.symm⟩
end Go.Proofs.YtdlcolcidohbkaaGreatDoor
end
