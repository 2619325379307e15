/- Variables renamed apart: new names are new and differ; the parts of a conjunction. -/
import Derived.Test.YtflgmemhalhdbaaGreatDoorPo
import Derived.KernelRfl
import Derived.IntWalk
import Derived.Test.YtflgmemhalhdbaaGreatDoorPn
set_option linter.all false
set_option maxRecDepth 100000
set_option maxHeartbeats 4000000
section
namespace Go.Proofs.YtflgmemhalhdbaaGreatDoor
open Go Go.Vse Go.Vse.Sm
def zk7{U:List Str}{x y:Str}:x∈zcw U y↔x∈U\/x=y:=by
 unfold zcw;split
 .rename_i h;exact⟨.inl,fun h2=>h2.elim id fun e=>e▸h⟩
 .simp
theorem zlP{x:Str}:∀{L U:List Str},x∈L.foldl zcw U↔x∈U\/x∈L
 |[],U=>by simp
 |y::L,U=>by
  rw[Z43,zlP (L:=L),zk7,Z6,or_assoc]
def zLO{U:List Str}{x:Str}(hU:U.length<98):nmx x (frs U x)∉U:=by
 unfold frs;cases h:(List.range' 1 99).find? fun n=>decide (nmx x n∉U)with
 |none=>
  rw[List.find?_eq_none]at h;have:=zIh (U:=U) (x:=x) (n:=100) hU fun m h1 h2=>by
   have:=h m (Z107.2 ⟨h1,by omega⟩);simpa using this
  omega
 |some n=>
  have:=List.find?_some h;simpa using this
theorem ky0(A:List Str)(x:Str):∀(B:List Str) (N:Nms),(x∈B/\x∈A->lkS x (B.foldl (kyS A []) N)=some [])/\(¬(x∈B/\x∈A)->lkS x (B.foldl (kyS A []) N)=lkS x N)
 |[],N=>⟨fun h=>by simp at h,fun _=>rfl⟩
 |b::B,N=>by
  rw[Z43];have ih:=ky0 A x B (kyS A [] N b)
  by_cases hx:x∈B/\x∈A
  .exact⟨fun _=>ih.1 hx,fun h=>absurd ⟨by simp[hx.1],hx.2⟩ h⟩
  .have h2:=ih.2 hx;constructor
   .rintro⟨h3,h4⟩;have e:x=b:=by
     rcases Z6.1 h3 with h|h
     .exact h
     .exact absurd ⟨h,h4⟩ hx
    rw[h2,<-e];unfold kyS;rw[Z52 ⟨h4,rfl⟩,zio]
   .intro h3;rw[h2];unfold kyS;split
    .rename_i h4;rw[zgp];intro e;subst e;exact h3 ⟨by simp,h4.1⟩
    .rfl
structure ApI(A B done:List Str)(st:List Str×Nms):Prop where
 g1:∀x,x∈A\/x∈B->x∈st.1
 g2:∀x∈done,∀y,lkS x st.2=some y->y∈st.1/\y∉A/\y∉B
 g3:∀x∈done,∀z∈done,∀y,lkS x st.2=some y->lkS z st.2=some y->x=z
 g4:∀x,(lkS x st.2).isSome=true↔x∈B/\x∈A
theorem ztF{A B:List Str}:∀(R done:List Str) (st:List Str×Nms),ApI A B done st->R.Nodup->(∀x∈R,x∉done)->st.1.length+R.length<98->∃done',(∀x,x∈done'↔x∈done\/x∈R)/\ApI A B done' (R.foldl apS st)
 |[],done,st,H,_,_,_=>⟨done,by simp,H⟩
 |r::R,done,st,H,hn,hd,hl=>by
  rw[Z43];have hn2:=Z75.1 hn;have hrd:=hd r (by simp);have hl':st.1.length+(R.length+1)<98:=hl;have key:ApI A B (r::done) (apS st r)/\(apS st r).1.length<=st.1.length+1:=by
   unfold apS;split
   .rename_i hs;have hnew:=zLO (U:=st.1) (x:=r) (by omega);generalize nmx r (frs st.1 r)=w at hnew|-;refine⟨⟨fun x hx=>zk7.2 (.inl (H.g1 x hx)),fun x hx y hy=> ?_,fun x hx z hz y h1 h2=> ?_,fun x=> ?_⟩,znT _ _⟩
    .by_cases e:x=r
     .subst e;simp only[zio,Z46]at hy;subst hy;exact⟨zk7.2 (.inr rfl),fun h=>hnew (H.g1 _ (.inl h)),fun h=>hnew (H.g1 _ (.inr h))⟩
     .simp only[zgp e]at hy;obtain⟨k1,k2,k3⟩ :=H.g2 x (by simpa [e]using hx) y hy;exact⟨zk7.2 (.inl k1),k2,k3⟩
    .by_cases e:x=r
     .by_cases e2:z=r
      .rw[e,e2]
      .subst e;simp only[zio,Z46]at h1;simp only[zgp e2]at h2;subst h1;exact absurd (H.g2 z (by simpa [e2]using hz) _ h2).1 hnew
     .by_cases e2:z=r
      .subst e2;simp only[zio,Z46]at h2;simp only[zgp e]at h1;subst h2;exact absurd (H.g2 x (by simpa [e]using hx) _ h1).1 hnew
      .simp only[zgp e]at h1;simp only[zgp e2]at h2;exact H.g3 x (by simpa [e]using hx) z (by simpa [e2]using hz) y h1 h2
    .by_cases e:x=r
     .subst e;simp only[zio,Option.isSome_some,true_iff];exact (H.g4 x).1 hs
     .simp only[zgp e];exact H.g4 x
   .rename_i hs;refine⟨⟨H.g1,fun x hx y hy=> ?_,fun x hx z hz y h1 h2=> ?_,H.g4⟩,by omega⟩
    .rcases Z6.1 hx with rfl|hx
     .rw[hy]at hs;simp at hs
     .exact H.g2 x hx y hy
    .rcases Z6.1 hx with rfl|hx
     .rw[h1]at hs;simp at hs
     .rcases Z6.1 hz with rfl|hz
      .rw[h2]at hs;simp at hs
      .exact H.g3 x hx z hz y h1 h2
  obtain⟨d',h1,h2⟩ :=ztF R (r::done) (apS st r) key.1 hn2.2 (fun x hx hm=>by
   rcases Z6.1 hm with rfl|hm
   .exact hn2.1 hx
   .exact hd x (by simp[hx]) hm) (by have:=key.2;omega)
  refine⟨d',fun x=> ?_,h2⟩;rw[h1,Z6,Z6];constructor
  .rintro ((h|h)|h)
   .exact .inr (.inl h)
   .exact .inl h
   .exact .inr (.inr h)
  .rintro (h|h|h)
   .exact .inl (.inr h)
   .exact .inl (.inl h)
   .exact .inr h
def zKh{A B:List Str}(hB:B.Nodup)(hl:A.length+B.length+B.length<98):(∀v∈B,v≠[]->rnV (apN A B []) v∉A)/\∀u∈B,∀v∈B,u≠[]->v≠[]->rnV (apN A B []) u=rnV (apN A B []) v->u=v:=by
 have hk:=ky0 (A.foldl zcw []) (B:=B) (N:=[]);have hA:∀x,x∈A.foldl zcw []↔x∈A:=fun x=>by rw[zlP];simp
 have H0:ApI A B [] (B.foldl zcw (A.foldl zcw []),B.foldl (kyS (A.foldl zcw []) []) []):=by
  refine⟨fun x hx=> ?_,by simp,by simp,fun x=> ?_⟩
  .rw[zlP,hA];exact hx
  .by_cases h:x∈B/\x∈A.foldl zcw []
   .rw[(hk x).1 h];simp only[Option.isSome_some,true_iff];exact⟨h.1,(hA x).1 h.2⟩
   .rw[(hk x).2 h];simp only[lkS,Option.isSome_none,Z53,false_iff];exact fun h2=>h ⟨h2.1,(hA x).2 h2.2⟩
 have l1:=zgH A [];have l2:=zgH B (A.foldl zcw []);obtain⟨d,hd,H⟩ :=ztF B [] _ H0 hB (by simp) (by simp at l1 l2|-;omega);have hd2:∀v∈B,v∈d:=fun v hv=>(hd v).2 (.inr hv)
 have e:apN A B []=(B.foldl apS (B.foldl zcw (A.foldl zcw []),B.foldl (kyS (A.foldl zcw []) []) [])).2:=rfl;rw[e];clear e;generalize B.foldl apS (B.foldl zcw (A.foldl zcw []),B.foldl (kyS (A.foldl zcw []) []) [])=st at H|-;refine⟨fun v hv hv0=> ?_,fun u hu v hv hu0 hv0 he=> ?_⟩
 .cases h:lkS v st.2 with
  |some y=>rw[zjt hv0 h];exact (H.g2 v (hd2 v hv) y h).2.1
  |none=>
   rw[zjs h];intro hvA;have:=(H.g4 v).2 ⟨hv,hvA⟩;rw[h]at this;simp at this
 .cases h1:lkS u st.2 with
  |some y=>
   rw[zjt hu0 h1]at he;cases h2:lkS v st.2 with
   |some z=>
    rw[zjt hv0 h2]at he;subst he;exact H.g3 u (hd2 u hu) v (hd2 v hv) y h1 h2
   |none=>
    rw[zjs h2]at he;subst he;exact absurd hv (H.g2 u (hd2 u hu) y h1).2.2
  |none=>
   rw[zjs h1]at he;cases h2:lkS v st.2 with
   |some z=>
    rw[zjt hv0 h2]at he;subst he;exact absurd hu (H.g2 v (hd2 v hv) u h2).2.2
   |none=>
    rw[zjs h2]at he;exact he
def hT_rn(N:Nms)(t:Trm):hT (fun v=> .var (rnV N v)) t=rnT N t:=by cases t<;>rfl
def zIp(N:Nms)(a:Atm):hA (fun v=> .var (rnV N v)) a=rnA N a:=by
 unfold hA rnA
 congr 1
 exact Z69 fun t _=>hT_rn N t
def zIr{f g:Str->Trm}{a:Atm}(h:∀v,Trm.var v∈a.ts->f v=g v):hA f a=hA g a:=by
 unfold hA
 congr 1
 refine Z69 fun t ht=> ?_
 cases t with
 |cst n=>rfl
 |var v=>exact h v ht
def zH2(acc c:CQ):Hom acc (cjS [] acc c)/\Hom c (cjS [] acc c):=
 ⟨zhK fun a ha=>Z103 _ ha,⟨fun v=> .var (rnV (apN (vrs acc) (vrs c) []) v),fun a ha=>by rw[zIp];exact Z97 _ (Z13.2 ⟨a,ha,rfl⟩)⟩⟩
def zQC{acc c x:CQ}(ha:CqOk acc)(hc:CqOk c)(hl:(vrs acc).length+(vrs c).length+(vrs c).length<98)(h1:Hom acc x)(h2:Hom c x):Hom (cjS [] acc c) x:=by
 obtain⟨f,hf⟩ :=h1;obtain⟨g,hg⟩ :=h2;obtain⟨p1,p2⟩ :=zKh (A:=vrs acc) (zgW c).1 hl;generalize hN:apN (vrs acc) (vrs c) []=N at p1 p2;have hne:=(zgW c).2;refine⟨fun v=>if v∈vrs acc then f v else match(vrs c).find? (fun u=>decide (rnV N u=v))with
  |some u=>g u
  |none=> .cst 0,fun a hx=> ?_⟩
 have hx2:a∈acc.as++c.as.map (rnA N):=by rw[<-hN];exact hx
 rcases Z5.1 hx2 with h|h
 .rw[zIr (g:=f) fun v hv=>Z52 (zqU ha ⟨a,h,hv⟩)];exact hf a h
 .obtain⟨b,hb,rfl⟩ :=Z13.1 h;rw[<-zIp,zxb,zIr (g:=g) fun u hu=> ?_]
  .exact hg b hb
  .have hm:=zqU hc ⟨b,hb,hu⟩;have hu0:u≠[]:=fun e=>hne (e▸hm)
   simp only[hT];rw[Z50 (p1 u hm hu0)];cases hfd:(vrs c).find? (fun w=>decide (rnV N w=rnV N u))with
   |none=>
    rw[List.find?_eq_none]at hfd;have:=hfd u hm;simp at this
   |some w=>
    have h3:=List.find?_some hfd;have h4:=List.mem_of_find?_eq_some hfd;simp only;rw[p2 w h4 u hm (fun e=>hne (e▸h4)) hu0 (by simpa using h3)]
def sz(c:CQ):Nat:=(tsC c).length
structure PQy(c:CQ):Prop where
 al:∀a∈c.as,zc1 a/\a.ts≠[]
 cs:c.cs=[]
def sz_as{c:CQ}(h:PQy c):c.as.length<=sz c:=by
 have key:∀l:List Atm,(∀a∈l,a.ts≠[])->l.length<=(l.flatMap (·.ts)).length:=by
  intro l
  induction l with
  |nil=>simp
  |cons a l ih=>
   intro hl;have h1:=ih fun b hb=>hl b (by simp[hb])
   have h2:0<a.ts.length:=Z130.2 (hl a (by simp));rw[Z93,Z17,Z24];omega
 unfold sz tsC tsA;rw[Z17];have:=key c.as fun a ha=>(h.al a ha).2
 omega
def PQy.ok{c:CQ}(h:PQy c)(hs:sz c<=900):CqOk c:=
 ⟨fun a ha=>(h.al a ha).1,by simp[h.cs],by have:=sz_as h;omega,by simp[h.cs]⟩
def zDF(c:CQ):(vrs c).length<=sz c:=by
 have e:zd0 [] (tsC c)=vrs c:=zjA c;rw[<-e];have:=zjE (tsC c) [];simpa [sz]using this
def PQy.cj{acc c:CQ}(h1:PQy acc)(h2:PQy c):PQy (cjS [] acc c):=by
 refine⟨fun a ha=> ?_,by simp[cjS,h1.cs,h2.cs]⟩;rcases Z5.1 ha with h|h
 .exact h1.al a h
 .obtain⟨b,hb,rfl⟩ :=Z13.1 h;have hN:=zBl (vrs acc) (vrs c) [];have:=h2.al b hb;refine⟨⟨fun t ht=> ?_,by simpa [rnA]using this.1.2⟩,by simpa [rnA]using this.2⟩;obtain⟨u,hu,rfl⟩ :=Z13.1 ht;exact zqo hN (this.1.1 u hu)
def sz_cj{acc c:CQ}(h1:PQy acc)(h2:PQy c):sz (cjS [] acc c)=sz acc+sz c:=by
 unfold sz tsC tsA cjS;simp only[h1.cs,h2.cs,Z86,Z23,Z167,Z184,Z17,Nat.add_left_cancel_iff];generalize apN _ _ _=N
 induction c.as with
 |nil=>rfl
 |cons a l ih=>simp only[Z11,Z93,Z17,ih];simp[rnA]
def szL(l:List CQ):Nat:=(l.map sz).sum
theorem zwO(x:CQ):∀(l:List CQ) (acc:CQ),PQy acc->(∀c∈l,PQy c)->sz acc+szL l<=48->PQy (l.foldl (cjS []) acc)/\sz (l.foldl (cjS []) acc)=sz acc+szL l/\(Hom (l.foldl (cjS []) acc) x↔Hom acc x/\∀c∈l,Hom c x)
 |[],acc,h1,_,_=>⟨h1,by simp[szL],by simp⟩
 |c::l,acc,h1,h2,hs=>by
  have hc:=h2 c (by simp);have e:szL (c::l)=sz c+szL l:=by simp[szL]
  have hsc:=sz_cj h1 hc;obtain⟨k1,k2,k3⟩ :=zwO x l (cjS [] acc c) (h1.cj hc) (fun d hd=>h2 d (by simp[hd])) (by omega);rw[Z43];refine⟨k1,by omega,?_⟩;rw[k3];have v1:=zDF acc;have v2:=zDF c;constructor
  .rintro⟨a,b⟩;refine⟨zf5 (zH2 acc c).1 a,fun d hd=> ?_⟩;rcases Z6.1 hd with rfl|hd
   .exact zf5 (zH2 acc d).2 a
   .exact b d hd
  .rintro⟨a,b⟩;exact⟨zQC (h1.ok (by omega)) (hc.ok (by omega)) (by omega) a (b c (by simp)),fun d hd=>b d (by simp[hd])⟩
def EqQ(x y:CQ):Prop:=Hom x y/\Hom y x
def EqQ.symm{x y:CQ}(h:EqQ x y):EqQ y x:=⟨h.2,h.1⟩
def EqQ.trans{x y z:CQ}(h:EqQ x y)(h2:EqQ y z):EqQ x z:=⟨zf5 h.1 h2.1,zf5 h2.2 h.2⟩
def zoc(x:CQ):EqQ x x:=⟨zjk x,zjk x⟩
def PSy(c:CQ):Prop:=PQy c/\sz c<=48
def PSy.ok{c:CQ}(h:PSy c):CqOk c:=h.1.ok (by have:=h.2;omega)
def zgc{a b:CQ}(ha:PSy a)(hb:PSy b):eqR [] a b=true↔EqQ a b:=by
 unfold eqR zj2 EqQ;simp only[decide_true,Z104,List.all_cons,List.any_cons,List.all_nil,List.any_nil,Bool.or_false,Z188,Z15];rw[zuB ha.ok ha.1.cs,zuB hb.ok hb.1.cs];exact And.comm
def zNn{c:CQ}(h:PSy c)(i:Nat)(na:Bool):PSy (zd2 c i na):=by
  have hm:∀a∈(zd2 c i na).as,a∈c.as:=fun a ha=>by
    rcases Z5.1 ha with h|h
    . exact Z14 h
    . exact Z22 h
  refine⟨⟨fun a ha=>h.1.al a (hm a ha),h.1.cs⟩,Z4 ?_ h.2⟩;have e:c.as=c.as.take i++c.as.drop i:=(Z95 i c.as).symm;unfold sz tsC tsA zd2;simp only[h.1.cs,Z167,Z23,Z184,Z17];have e2:(c.as.flatMap (·.ts)).length=((c.as.take i).flatMap (·.ts)).length+((c.as.drop i).flatMap (·.ts)).length:=by
    conv=>lhs;rw[e,Z184,Z17]
  have e3:((c.as.drop (i+1)).flatMap (·.ts)).length<=((c.as.drop i).flatMap (·.ts)).length:=by
    by_cases hi:i<c.as.length
    . rw[Z56 hi,Z93,Z17];omega
    . rw[Z25 (by omega),Z25 (by omega)];exact Z3 _
  omega
theorem zuk:∀k (c:CQ),PSy c->PSy (zhJ [] k c)/\EqQ (zhJ [] k c) c
 |0,c,h=>⟨h,zoc c⟩
 |k+1,c,h=>by
  unfold zhJ;have hd:=zNn h k false
  by_cases hc:cov (zd2 c k false) c []=true/\exR [] c (zd2 c k false)=true
  .have e:zl2 [] c k=zd2 c k false:=by unfold zl2;rw[Z52 hc]
   rw[e];obtain⟨h1,h2⟩ :=zuk k _ hd;refine⟨h1,h2.trans ⟨zhK fun a ha=> ?_,(zuB h.ok h.1.cs).1 hc.2⟩⟩;rcases Z5.1 ha with h|h
   .exact Z14 h
   .exact Z22 h
  .have e:zl2 [] c k=c:=by unfold zl2;rw[Z50 hc]
   rw[e];exact zuk k c h
def zQG{c:CQ}(h:PSy c):PSy (zsU [] c)/\EqQ (zsU [] c) c:=by
 have h2:PSy (cop c):=⟨⟨h.1.al,h.1.cs⟩,h.2⟩
 obtain⟨k1,k2⟩ :=zuk c.as.length (cop c) h2;exact⟨k1,k2.trans ⟨zhK fun _ h=>h,zhK fun _ h=>h⟩⟩
theorem zjw{l:List CQ}{s:Nat}{c:CQ}:∀{n:Nat},c∈zbY l s n↔∃i,i<n/\s.testBit i=true/\l[i]? =some c
 |0=>by simp[zbY]
 |n+1=>by
  unfold zbY;constructor
  .intro h;split at h
   .rename_i hb;rcases Z5.1 h with h|h
    .obtain⟨i,h1,h2⟩ :=zjw.1 h;exact⟨i,by omega,h2⟩
    .exact⟨n,by omega,hb,by simpa using h⟩
   .obtain⟨i,h1,h2⟩ :=zjw.1 h;exact⟨i,by omega,h2⟩
  .rintro⟨i,h1,h2,h3⟩
   by_cases e:i=n
   .subst e;rw[Z52 h2];exact Z97 _ (by simpa using h3)
   .have:=(zjw (n:=n)).2 ⟨i,by omega,h2,h3⟩;split
    .exact Z103 _ this
    .exact this
theorem zx0(l:List CQ)(s:Nat):∀n,n<=l.length->szL (zbY l s n)<=szL (l.take n)
 |0,_=>by simp[zbY]
 |n+1,hn=>by
  have ih:=zx0 l s n (by omega);have e:szL (l.take (n+1))=szL (l.take n)+sz l[n]:=by
   rw[Z7 (by omega)];unfold szL;rw[Z21,List.sum_append];simp only[Z11,Z86,Z160,List.sum_nil,Z112]
  unfold zbY;split
  .rw[Z0 (by omega)];have:szL (zbY l s n++(some l[n]).toList)=szL (zbY l s n)+sz l[n]:=by simp[szL]
   omega
  .omega
def PLy(l:List CQ):Prop:=(∀c∈l,PQy c)/\szL l<=48
def zhP{l:List CQ}(h:PLy l)(s:Nat):PSy (zbB [] l s)/\∀x,Hom (zbB [] l s) x↔∀i c,s.testBit i=true->l[i]? =some c->Hom c x:=by
 have h1:=zx0 l s l.length (Z3 _);rw[Z8]at h1;have hf:=fun x=>zwO x (zbY l s l.length) cj0 ⟨by simp[cj0],rfl⟩ (fun c hc=>h.1 c (zlD _ c hc)) (by have:=h.2;have:sz cj0=0:=rfl;omega)
 have hp:PSy (zf1 [] (zbY l s l.length)):=⟨(hf cj0).1,by have:=(hf cj0).2.1;have:=h.2;have:sz cj0=0:=rfl;unfold zf1;omega⟩
 obtain⟨k1,k2⟩ :=zQG hp;refine⟨k1,fun x=> ?_⟩;have k3:Hom (zbB [] l s) x↔Hom (zf1 [] (zbY l s l.length)) x:=⟨zf5 k2.2,zf5 k2.1⟩
 rw[k3];unfold zf1;rw[(hf x).2.2];constructor
 .rintro⟨-,h2⟩ i c hb hi;exact h2 c (zjw.2 ⟨i,(Z9.1 hi).1,hb,hi⟩)
 .intro h2;refine⟨zhK fun _ h=>by simp[cj0]at h,fun c hc=> ?_⟩;obtain⟨i,_,hb,hi⟩ :=zjw.1 hc;exact h2 i c hb hi
def KS(f:Nat->CQ)(n:Nat)(x:CQ):Nat->Int
 |0=>0
 |k+1=>KS f n x k+if eqR [] (f (k+1)) x=true then sgN (k+1) n else 0
structure zqN(f:Nat->CQ)(n k:Nat)(st:List CQ×List Int):Prop where
 ln:st.1.length=st.2.length
 c1:∀i (hi:i<st.1.length),st.2[i]'(by rw[<-ln];exact hi)=KS f n st.1[i] k
 c2:∀s,1<=s->s<=k->∃i,∃hi:i<st.1.length,EqQ (f s) st.1[i]
 c3:∀x∈st.1,∃s,1<=s/\s<=k/\x=f s
 ds:∀i j (hi:i<st.1.length) (hj:j<st.1.length),EqQ st.1[i] st.1[j]->i=j
theorem zDP{f:Nat->CQ}{n:Nat}{x:CQ}:∀{k:Nat},(∀s,1<=s->s<=k->eqR [] (f s) x=false)->KS f n x k=0
 |0,_=>rfl
 |k+1,h=>by
  unfold KS;rw[zDP fun s h1 h2=>h s h1 (by omega),h (k+1) (by omega) (Z3 _)];rfl
theorem zyc{f:Nat->CQ}{n:Nat}{x y:CQ}:∀{k:Nat},(∀s,1<=s->s<=k->eqR [] (f s) x=eqR [] (f s) y)->KS f n x k=KS f n y k
 |0,_=>rfl
 |k+1,h=>by
  unfold KS;rw[zyc fun s h1 h2=>h s h1 (by omega),h (k+1) (by omega) (Z3 _)]
def KS_ne{f:Nat->CQ}{n:Nat}{x:CQ}{k:Nat}(h:KS f n x k≠0):∃s,1<=s/\s<=k/\eqR [] (f s) x=true:=by
 by_cases hx:∃s,1<=s/\s<=k/\eqR [] (f s) x=true
 .exact hx
 .refine absurd (zDP fun s h1 h2=> ?_) h;cases he:eqR [] (f s) x with
  |false=>rfl
  |true=>exact absurd ⟨s,h1,h2,he⟩ hx
def zix(f:Nat->CQ)(n:Nat)(x:CQ)(k:Nat):KS f n x (k+1)=KS f n x k+if eqR [] (f (k+1)) x=true then sgN (k+1) n else 0:=rfl
theorem zu0{l:List CQ}(h:PLy l):∀k,zqN (zbB [] l) l.length k (zeD [] l k)
 |0=>⟨rfl,fun i hi=>by simp[zeD]at hi,fun s h1 h2=>by omega,by simp[zeD],fun i j hi=>by simp[zeD]at hi⟩
 |k+1=>by
  have ih:=zu0 h k;have hps:∀s,PSy (zbB [] l s):=fun s=>(zhP h s).1
  have hp1:∀x∈(zeD [] l k).1,PSy x:=fun x hx=>by
   obtain⟨s,_,_,rfl⟩ :=ih.c3 x hx;exact hps s
  unfold zeD zu1;generalize zeD [] l k=st at ih hp1|-;obtain⟨M,Z⟩ :=st;have ln:=ih.ln;have c1:=ih.c1;have c2:=ih.c2;have c3:=ih.c3;have ds:=ih.ds;simp only at ln c1 c2 c3 ds hp1|-;have hm:=hps (k+1);cases hf:M.findIdx? (fun c=>eqR [] c (zbB [] l (k+1)))with
  |none=>
   rw[Z44]at hf;have hno:∀x∈M,¬EqQ x (zbB [] l (k+1)):=fun x hx he=>by
    have h1:=hf x hx;have h2:=(zgc (hp1 x hx) hm).2 he;rw[h2]at h1;cases h1
   refine⟨by simp[ln],fun i hi=> ?_,fun s h1 h2=> ?_,fun x hx=> ?_,fun i j hi hj he=> ?_⟩
   .simp only at hi|-
    by_cases hlt:i<M.length
    .have hz:i<Z.length:=by rw[<-ln];exact hlt
     rw[Z60 hz,Z60 hlt,c1 i hlt];have h3:eqR [] (zbB [] l (k+1)) M[i]=false:=by
      rw[zlk];exact hf _ (Z2 hlt)
     rw[zix,h3];simp
    .have hi2:i=M.length:=by simp at hi;omega
     subst hi2;have e1:(Z++[sgN (k+1) l.length])[M.length]'(by simp[ln])=sgN (k+1) l.length:=by
      rw[Z59 (by omega)];simp[ln]
     have e2:(M++[zbB [] l (k+1)])[M.length]'(by simp)=zbB [] l (k+1):=by
      rw[Z59 (Z3 _)];simp
     rw[e1,e2];have h0:KS (zbB [] l) l.length (zbB [] l (k+1)) k=0:=zDP fun s h1 h2=>by
      cases he:eqR [] (zbB [] l s) (zbB [] l (k+1))with
      |false=>rfl
      |true=>
       obtain⟨i,hi3,h4⟩ :=c2 s h1 h2;exact absurd (h4.symm.trans ((zgc (hps s) hm).1 he)) (hno _ (Z2 hi3))
     rw[zix,h0,(zgc hm hm).2 (zoc _)];simp
   .by_cases e:s=k+1
    .subst e;refine⟨M.length,by simp,?_⟩;have e2:(M++[zbB [] l (k+1)])[M.length]'(by simp)=zbB [] l (k+1):=by
      rw[Z59 (Z3 _)];simp
     rw[e2];exact zoc _
    .obtain⟨i,hi,h4⟩ :=c2 s h1 (by omega);exact⟨i,by simp;omega,by rw[Z60 hi];exact h4⟩
   .rcases Z5.1 hx with hx|hx
    .obtain⟨s,h1,h2,h3⟩ :=c3 x hx;exact⟨s,h1,by omega,h3⟩
    .exact⟨k+1,by omega,Z3 _,Z32.1 hx⟩
   .simp only at hi hj he;have e2:(M++[zbB [] l (k+1)])[M.length]'(by simp)=zbB [] l (k+1):=by
     rw[Z59 (Z3 _)];simp
    by_cases h1:i<M.length
    .by_cases h2:j<M.length
     .rw[Z60 h1,Z60 h2]at he;exact ds i j h1 h2 he
     .have hj2:j=M.length:=by simp at hj;omega
      subst hj2;rw[Z60 h1,e2]at he;exact absurd he (hno _ (Z2 h1))
    .have hi2:i=M.length:=by simp at hi;omega
     subst hi2
     by_cases h2:j<M.length
     .rw[Z60 h2,e2]at he;exact absurd he.symm (hno _ (Z2 h2))
     .simp at hj;omega
  |some i0=>
   rw[Z27]at hf;obtain⟨hi0,he0,-⟩ :=hf;have hE0:=(zgc (hp1 _ (Z2 hi0)) hm).1 he0;have hz0:i0<Z.length:=by rw[<-ln];exact hi0
   refine⟨by simp[ln],fun i hi=> ?_,fun s h1 h2=> ?_,fun x hx=> ?_,ds⟩
   .simp only at hi|-;have hz:i<Z.length:=by rw[<-ln];exact hi
    by_cases e:i=i0
    .subst e;rw[Z78];have hg:Z.getD i 0=Z[i]:=by simp[hz]
     rw[zix,hg,c1 i hi,zlk,he0,Z52 rfl]
    .rw[Z71 (fun e2=>e e2.symm),c1 i hi];have h3:eqR [] (zbB [] l (k+1)) M[i]=false:=by
      cases h4:eqR [] (zbB [] l (k+1)) M[i]with
      |false=>rfl
      |true=>exact absurd (ds i i0 hi hi0 ((hE0.trans ((zgc hm (hp1 _ (Z2 hi))).1 h4)).symm)) e
     rw[zix,h3];simp
   .by_cases e:s=k+1
    .subst e;exact⟨i0,hi0,hE0.symm⟩
    .exact c2 s h1 (by omega)
   .obtain⟨s,h1,h2,h3⟩ :=c3 x hx;exact⟨s,h1,by omega,h3⟩
theorem zvW(l:List CQ)(d:CQ){s:Nat}:∀n,n<=l.length->zbY (l++[d]) s n=zbY l s n
 |0,_=>rfl
 |n+1,hn=>by
  unfold zbY;rw[zvW l d n (by omega),Z55 (by omega)]
def zu7(l:List CQ)(d:CQ){s:Nat}(hs:s<2 ^ l.length):zbB [] (l++[d]) s=zbB [] l s/\sgN s (l.length+1)=sgN s l.length:=by
 have hb:s.testBit l.length=false:=Nat.testBit_lt_two_pow hs;constructor
 .unfold zbB;have e:zbY (l++[d]) s (l++[d]).length=zbY l s l.length:=by
   rw[Z17];show zbY (l++[d]) s (l.length+1)=_
   conv=>lhs;unfold zbY
   rw[hb];exact zvW l d l.length (Z3 _)
  rw[e]
 .conv=>lhs;unfold sgN
  rw[hb];simp
theorem zAO(l:List CQ)(d:CQ)(x:CQ):∀k,k<2 ^ l.length->KS (zbB [] (l++[d])) (l.length+1) x k=KS (zbB [] l) l.length x k
 |0,_=>rfl
 |k+1,hk=>by
  obtain⟨h1,h2⟩ :=zu7 l d hk;rw[zix,zix,zAO l d x k (by omega),h1,h2]
def zCG{l:List CQ}{d:CQ}(h:PLy (l++[d])){a:CQ}(h0:l[0]? =some a)(had:Hom a d){s:Nat}(hn:s.testBit l.length=true)(hz:s.testBit 0=false)(hs:∀i,(s+1).testBit i=true↔s.testBit i=true\/i=0):EqQ (zbB [] (l++[d]) s) (zbB [] (l++[d]) (s+1)):=by
 obtain⟨-,m1⟩ :=zhP h s;obtain⟨-,m2⟩ :=zhP h (s+1);have hd:(l++[d])[l.length]? =some d:=by rw[Z63 (Z3 _)];simp
 have ha:(l++[d])[0]? =some a:=by
  rw[Z55 (Z9.1 h0).1];exact h0
 constructor
 .rw[m1];intro i c hb hi;exact (m2 _).1 (zjk _) i c ((hs i).2 (.inl hb)) hi
 .rw[m2];intro i c hb hi;rcases (hs i).1 hb with hb|rfl
  .exact (m1 _).1 (zjk _) i c hb hi
  .rw[ha]at hi;cases hi;exact zf5 had ((m1 _).1 (zjk _) l.length d hn hd)
def zTF(m i:Nat):(2*m+1).testBit i=true↔(2*m).testBit i=true\/i=0:=by
 cases i with
 |zero=>simp[Z201]
 |succ j=>
  rw[Z162,Z162,show(2*m+1)/2=m by omega,show 2*m/2=m by omega];simp
def zB8{u v x:CQ}(hu:PSy u)(hv:PSy v)(hx:PSy x)(h:EqQ u v):eqR [] u x=eqR [] v x:=by
 rw[Bool.eq_iff_iff,zgc hu hx,zgc hv hx];exact⟨h.symm.trans,h.trans⟩
def zwZ{u x y:CQ}(hu:PSy u)(hx:PSy x)(hy:PSy y)(h:EqQ x y):eqR [] u x=eqR [] u y:=by
 rw[zlk [] u x,zlk [] u y];exact zB8 hx hy hu h
def zNG{l:List CQ}{a d x:CQ}(h:PLy (l++[d]))(h0:l[0]? =some a)(hl:l.length<=2)(had:Hom a d)(hx:PSy x):KS (zbB [] (l++[d])) (l.length+1) x (2 ^ (l.length+1) - 1)=KS (zbB [] l) l.length x (2 ^ l.length - 1):=by
 have hp:=fun s=>(zhP h s).1
 have hpr:∀m,(2*m).testBit l.length=true->(2*m).testBit 0=false->eqR [] (zbB [] (l++[d]) (2*m)) x=eqR [] (zbB [] (l++[d]) (2*m+1)) x:=fun m h1 h2=>
  zB8 (hp _) (hp _) hx (zCG h h0 had h1 h2 (zTF m))
 have hext:=zAO l d x;have h1l:0<l.length:=(Z9.1 h0).1;generalize zbB [] (l++[d])=f at hp hpr hext|-;generalize zbB [] l=g at hext|-;generalize l.length=n at*;obtain rfl|rfl:n=1\/n=2:=by omega
 .have e:=hext 1 (by decide);have p1:=hpr 1 (by decide) (by decide);show KS f 2 x 3=KS g 1 x 1;rw[<-e,zix,zix];rw[p1];have s2:sgN 2 2=1:=by decide
  have s3:sgN 3 2= -1:=by decide
  simp only[Nat.reduceAdd,Nat.reduceMul,s2,s3];split<;>omega
 .have e:=hext 3 (by decide);have p2:=hpr 2 (by decide) (by decide);have p3:=hpr 3 (by decide) (by decide);show KS f 3 x 7=KS g 2 x 3;rw[<-e,zix,zix,zix,zix];have s4:sgN 4 3=1:=by decide
  have s5:sgN 5 3= -1:=by decide
  have s6:sgN 6 3= -1:=by decide
  have s7:sgN 7 3=1:=by decide
  simp only[Nat.reduceAdd,Nat.reduceMul]at p2 p3|-;rw[p2,p3,s4,s5,s6,s7];split<;>split<;>omega
def nzF(p:CQ×Int):Bool:=decide (p.2≠0)
def tms(M:List CQ)(Z:List Int):List (CQ×Int):=(M.zip Z).filter nzF
theorem zrj{α β:Type}(T:α->β->Prop):∀(A:List α) (B:List β),(A.Pairwise fun a a'=>∀b,¬(T a b/\T a' b))->(∀a∈A,∃b∈B,T a b)->A.length<=B.length
 |[],_,_,_=>Z62 _
 |a::A,B,hp,h=>by
  obtain⟨b,hb,hT⟩ :=h a (by simp);obtain⟨B1,B2,rfl⟩ :=Z121 hb;rw[Z57]at hp;have:=zrj T A (B1++B2) hp.2 fun x hx=>by
   obtain⟨y,hy,hxy⟩ :=h x (by simp[hx]);rcases Z5.1 hy with hy|hy
   .exact⟨y,by simp[hy],hxy⟩
   .rcases Z6.1 hy with rfl|hy
    .exact absurd ⟨hT,hxy⟩ (hp.1 x hx y)
    .exact⟨y,by simp[hy],hxy⟩
  simp only[Z17,Z24]at this|-;omega
def zDO{f:Nat->CQ}{n k:Nat}{M:List CQ}{Z:List Int}(h:zqN f n k (M,Z)):(M.zip Z).Pairwise fun p q=>∀b:CQ×Int,¬(EqQ p.1 b.1/\EqQ q.1 b.1):=by
 rw[Z127];intro i j hi hj hij b hb;have hi1:i<M.length:=by simp at hi;omega
 have hj1:j<M.length:=by simp at hj;omega
 simp only[Z109]at hb;have:=h.ds i j hi1 hj1 (hb.1.trans hb.2.symm);omega
def zqL{f:Nat->CQ}{n k:Nat}{M:List CQ}{Z:List Int}(h:zqN f n k (M,Z)){p:CQ×Int}(hp:p∈M.zip Z):p.1∈M/\p.2=KS f n p.1 k:=by
 obtain⟨i,hi,rfl⟩ :=Z131 hp;have hi1:i<M.length:=by simp at hi;omega
 simp only[Z109];exact⟨Z2 hi1,h.c1 i hi1⟩
def zBu{f:Nat->CQ}{n k:Nat}{M:List CQ}{Z:List Int}(h:zqN f n k (M,Z)){i:Nat}(hi:i<M.length):(M[i],KS f n M[i] k)∈M.zip Z:=by
 have ln:=h.ln;simp only at ln;have hz:i<Z.length:=by rw[<-ln];exact hi
 have e:(M.zip Z)[i]'(by simp;omega)=(M[i],KS f n M[i] k):=by
  rw[Z109,h.c1 i hi]
 rw[<-e];exact Z2 _
theorem zDv{l:List CQ}{a d:CQ}(h:PLy (l++[d]))(h0:l[0]? =some a)(hl:l.length<=2)(had:Hom a d):
  (tms (zcz [] l).1 (zcz [] l).2).length=(tms (zcz [] (l++[d])).1 (zcz [] (l++[d])).2).length/\∀p∈tms (zcz [] l).1 (zcz [] l).2,∃q∈tms (zcz [] (l++[d])).1 (zcz [] (l++[d])).2,p.2=q.2/\eqR [] p.1 q.1=true:=by
 have hPl:PLy l:=⟨fun c hc=>h.1 c (by simp[hc]),Z4 (by simp[szL]) h.2⟩
 have C1:=zu0 hPl (2 ^ l.length - 1);have C2:=zu0 h (2 ^ (l++[d]).length - 1);have hred:=fun x hx=>zNG (x:=x) h h0 hl had hx
 have hm1:=fun s=>(zhP hPl s).1
 have hm2:=fun s=>(zhP h s).1
 change zqN _ _ _ (zcz [] l)at C1;change zqN _ _ _ (zcz [] (l++[d]))at C2;have hext:=fun s (hs:s<2 ^ l.length)=>(zu7 l d hs).1
 rw[show(l++[d]).length=l.length+1 by simp]at C2;have hpow:2 ^ l.length<=2 ^ (l.length+1):=Z114 (by omega) (by omega);have hpos:0<2 ^ l.length:=Nat.two_pow_pos _;generalize zcz [] l=st at C1|-;generalize zcz [] (l++[d])=st' at C2|-;generalize zbB [] l=g at*;generalize zbB [] (l++[d])=f at*;generalize l.length=n at*;obtain⟨M,Z⟩ :=st;obtain⟨M',Z'⟩ :=st';simp only;have pM:∀x∈M,PSy x:=fun x hx=>by obtain⟨s,_,_,rfl⟩ :=C1.c3 x hx;exact hm1 s
 have pM':∀x∈M',PSy x:=fun x hx=>by obtain⟨s,_,_,rfl⟩ :=C2.c3 x hx;exact hm2 s
 have T1:∀p∈tms M Z,∃q∈tms M' Z',p.2=q.2/\EqQ p.1 q.1:=by
  intro p hp;obtain⟨hp1,hp2⟩ :=Z58.1 hp;obtain⟨h1,h2⟩ :=zqL C1 hp1;obtain⟨s,s1,s2,s3⟩ :=C1.c3 _ h1;obtain⟨j,hj,hE⟩ :=C2.c2 s s1 (by omega);rw[hext s (by omega),<-s3]at hE;have hq:KS f (n+1) M'[j] (2 ^ (n+1) - 1)=p.2:=by
   rw[hred _ (pM' _ (Z2 hj)),h2];exact zyc fun t _ _=>zwZ (hm1 t) (pM' _ (Z2 hj)) (pM _ h1) hE.symm
  have hz:=zBu C2 hj;rw[hq]at hz;exact⟨_,Z58.2 ⟨hz,hp2⟩,rfl,hE⟩
 have T2:∀q∈tms M' Z',∃p∈tms M Z,EqQ q.1 p.1:=by
  intro q hq;obtain⟨hq1,hq2⟩ :=Z58.1 hq;obtain⟨h1,h2⟩ :=zqL C2 hq1;have hk:q.2=KS g n q.1 (2 ^ n - 1):=by rw[h2];exact hred _ (pM' _ h1)
  have hne:q.2≠0:=by simpa [nzF]using hq2
  obtain⟨s,s1,s2,s3⟩ :=KS_ne (by rw[<-hk];exact hne);have hE:=(zgc (hm1 s) (pM' _ h1)).1 s3;obtain⟨i,hi,hE2⟩ :=C1.c2 s s1 s2;have hE3:EqQ q.1 M[i]:=hE.symm.trans hE2;have hv:KS g n M[i] (2 ^ n - 1)=q.2:=by
   rw[hk];exact zyc fun t _ _=>zwZ (hm1 t) (pM _ (Z2 hi)) (pM' _ h1) hE3.symm
  have hz:=zBu C1 hi;rw[hv]at hz;exact⟨_,Z58.2 ⟨hz,hq2⟩,hE3⟩
 refine⟨Nat.le_antisymm ?_ ?_,fun p hp=> ?_⟩
 .exact zrj (fun p q=>EqQ p.1 q.1) _ _ ((zDO C1).filter _) fun p hp=>by
   obtain⟨q,hq,_,hE⟩ :=T1 p hp;exact⟨q,hq,hE⟩
 .exact zrj (fun p q=>EqQ p.1 q.1) _ _ ((zDO C2).filter _) T2
 .obtain⟨q,hq,e,hE⟩ :=T1 p hp;exact⟨q,hq,e,(zgc (pM _ (zqL C1 (Z58.1 hp).1).1) (pM' _ (zqL C2 (Z58.1 hq).1).1)).2 hE⟩
def fn9:pr.fn 9=some g9:=by kernel_rfl
def zGk(Z:List Int):(zF Z).d= .f (zF Z):=zjY ..
def zwd(Z:List Int):zbv (.f (zF Z))=some Z.length:=by simp[zF,zgS]
def ztp(Z:List Int)(n:Nat):iaB 1 (.f (zF Z)) n=(Z[n]?).map fun z=>D.fptr [F.i .i64 z]:=by simp[zF,ziu,Z68]
def TJ(M:List CQ)(Z:List Int)(n:Nat)(s:St):Prop:=∃d8 d9,(s.tm.get 6=some (.f (zF Z))/\s.tm.get 8=some (d8)/\s.tm.get 9=some (d9)/\s.tm.get 21=some (.f (qsF M))/\s.tm.get 22=some (.f (.i .i64 M.length))/\s.tm.get 23=some (.f (.i .i64 (n:Nat))))/\zdA s.h 1 s.c 2 d8 (zca ((((M.zip Z).take n).filter nzF).map (·.1)))/\zdA s.h 1 s.c 1 d9 (zE ((((M.zip Z).take n).filter nzF).map (·.2)))/\(∀Y,d8.oid=some Y->d9.oid≠some Y)/\1<=s.c
def ans9(hd:List Str)(l:List CQ)(hh:hd.length<=10)(hok:OkL l):Ans pr 9 [.ag [zaM hd,qsF l]] (.tu [qsF ((tms (zcz hd l).1 (zcz hd l).2).map (·.1)),zF ((tms (zcz hd l).1 (zcz hd l).2).map (·.2)),.i .i64 0]):=by
  refine zb6 fn9 ?_;simp only[g9,rU];have q5:=fun k=>zav (k:=k) (ans18 hd l hh hok)
  have hI:=znC (hd:=hd) hok (2 ^ l.length - 1);have hp8:2 ^ l.length<=2 ^ 3:=Z114 (by omega) hok.ln;change zDS _ (zcz hd l)at hI;have hln:=hI.ln;have hle:=hI.le;generalize (zcz hd l).1=M at*;generalize (zcz hd l).2=Z at*;simp[rW,st0,zah,zcb,zhr,zGk,zkC,q5,zdf];refine zdo M.length (TJ M Z) (fun e s=>e= .exit 0/\TJ M Z M.length s) ?_ ?_ _ ?_ ?_
  . rintro n s hn ⟨d8,d9,⟨h6,h8,h9,h21,h22,h23⟩,hg8,hg9,hdj,hc⟩;have hw:=zao n (by omega);have hnz:n<Z.length:=by omega
    have hx:M[n]? =some M[n]:=Z0 hn;have hz:Z[n]? =some Z[n]:=Z0 hnz;have hzl:n< (M.zip Z).length:=by simp;omega
    have htk:(M.zip Z).take (n+1)=(M.zip Z).take n++[(M[n],Z[n])]:=by
      rw[Z7 hzl,Z109]
    have hfl:(((M.zip Z).take n).filter nzF).length<=8:=by
      refine Z4 (Z77 _ _) ?_;simp;omega
    have m1:(1<=zak)=True:=za2 (by omega);have m2:(48<=zak)=True:=za2 (by omega);have m3:(8<=zak)=True:=za2 (by omega);generalize hA:M[n]=c at hx htk;generalize hB:Z[n]=z at hz htk
    by_cases hz0:z=0
    . have e1:((M.zip Z).take (n+1)).filter nzF=((M.zip Z).take n).filter nzF:=by
        rw[htk,Z100];simp[nzF,hz0]
      simp[rW,h6,h8,h9,h21,h22,h23,hn,hnz,zgC,hx,hA,cqE,zbO,zbQ,zfx,ze8,ztp,hz,hB,hz0,hw];refine⟨d8,d9,?_,?_,?_,hdj,?_⟩
      . simp[rW,h6,h8,h9,h21,h22,h23,hw]
      . rw[e1];refine zfM hg8 (by simp[rW,]) fun y h1 h2=> ?_
        have n1:¬y=s.c:=by omega
        simp[rW,n1]
      . rw[e1];refine zfM hg9 (by simp[rW,]) fun y h1 h2=> ?_
        have n1:¬y=s.c:=by omega
        simp[rW,n1]
      . simp[rW,]
    . have e1:((M.zip Z).take (n+1)).filter nzF=((M.zip Z).take n).filter nzF++[(c,z)]:=by
        rw[htk,Z100];simp[nzF,hz0]
      simp[rW,h6,h8,h9,h21,h22,h23,hn,hnz,zgC,hx,hA,cqE,zbO,zbQ,zfx,ze8,ztp,hz,hB,hz0,hw,m1,m2,m3];refine zpO (zgM (h':=(s.h.set s.c (.arr 2 0 [[.f .nils,.f .nils]])).set s.c (.arr 2 0 [[.f (zaS c),.f (zaQ c)]])) (c':=s.c+1) hg8 (fun Y hY=> ?_) (by omega)) (by rw[zcm,Z19];omega) (by omega) ?_
      . have h1:=zcI hg8 hY;have n1:¬Y=s.c:=by omega
        simp[TG,n1]
      intro r hr1 hr2 hr3 hr4 hr5;refine⟨hr1,?_⟩;have hr6:∀y,y<s.c->d8.oid≠some y->(wrT ((s.h.set s.c (.arr 2 0 [[.f .nils,.f .nils]])).set s.c (.arr 2 0 [[.f (zaS c),.f (zaQ c)]])) r.wr).get y=s.h.get y:=fun y h1 h2=>by
        have n1:¬y=s.c:=by omega
        rw[hr5 y (by omega) h2];simp[TG,n1]
      refine zpO (zgM (h':=wrT ((s.h.set s.c (.arr 2 0 [[.f .nils,.f .nils]])).set s.c (.arr 2 0 [[.f (zaS c),.f (zaQ c)]])) r.wr) (c':=r.c) hg9 (fun Y hY=> ?_) (by omega)) (by rw[zdr,Z19];omega) (by omega) ?_
      . have h1:=zcI hg9 hY;exact hr6 Y h1.2 fun e=>hdj Y e hY
      intro r2 hq1 hq2 hq3 hq4 hq5;refine⟨hq1,?_⟩;refine⟨r.d,r2.d,?_,?_,?_,?_,?_⟩
      . simp[rW,h6,h8,h9,h21,h22,h23,hw]
      . rw[e1,Z21];refine .inr ⟨s.c+1,?_,?_,?_,by omega,?_⟩
        . rw[hr2,zcm,zcm,Z17];rfl
        . simp[zca]
        . have y2:=hq5 (s.c+1) (by omega) fun e=>by have:=zcI hg9 e;omega
          rw[hr4]at y2;simp[rW,];rw[y2];simp[zca]
        . simp[rW,];omega
      . rw[e1,Z21];refine .inr ⟨r.c,?_,?_,?_,by omega,?_⟩
        . rw[hq2,zdr,zdr,Z17];rfl
        . simp[zE]
        . simp[rW,hq4];simp[zE]
        . simp[rW,];omega
      . intro Y h1 h2;rw[hr2]at h1;rw[hq2]at h2;simp only[D.oid,Z46]at h1 h2;omega
      . simp[rW,];omega
  . rintro s ⟨d8,d9,⟨h6,h8,h9,h21,h22,h23⟩,hg8,hg9,hdj,hc⟩;simp[rW,h6,h8,h9,h21,h22,h23];refine⟨d8,d9,?_,?_,?_,hdj,?_⟩
    . simp[rW,h6,h8,h9,h21,h22,h23]
    . simp[rW,hg8]
    . simp[rW,hg9]
    . simp[rW,hc]
  . refine⟨.f .nils,.f .nils,?_,.inl ⟨rfl,rfl⟩,.inl ⟨rfl,rfl⟩,by simp[D.oid],?_⟩
    . simp[rW,]
    . simp[rW,]
  . rintro e s ⟨rfl,d8,d9,⟨h6,h8,h9,h21,h22,h23⟩,hg8,hg9,hdj,hc⟩;have e1:(M.zip Z).take M.length=M.zip Z:=Z12 (by simp;omega);rw[e1]at hg8 hg9;obtain⟨rd5,f5⟩ :=zCU hg8;obtain⟨rd6,f6⟩ :=zDK hg9;simp[rW,h8,h9,f5,f6,rd_3];exact⟨rfl,rfl⟩
end Go.Proofs.YtflgmemhalhdbaaGreatDoor
end
