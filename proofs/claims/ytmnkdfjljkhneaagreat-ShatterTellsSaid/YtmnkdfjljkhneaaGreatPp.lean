/- Plain law: the constants. -/
import Derived.Test.YtmnkdfjljkhneaaGreatPo
import Derived.KernelRfl
import Derived.IntWalk
import Derived.Test.YtmnkdfjljkhneaaGreatPf
import Derived.Test.YtmnkdfjljkhneaaGreatPh
import Derived.Test.YtmnkdfjljkhneaaGreatPj
import Derived.Test.YtmnkdfjljkhneaaGreatPk
import Derived.Test.YtmnkdfjljkhneaaGreatFct
set_option linter.all false
set_option maxRecDepth 100000
set_option maxHeartbeats 4000000
noncomputable section
section
namespace Go.Proofs.YtmnkdfjljkhneaaGreat
open Go Go.Vse Go.Vse.Sm
def Nd(l:List Int):Prop:=l.Pairwise (· <= ·)
theorem zuv:∀{l m:List Int},Srt l->Srt m->(∀v,v∈l↔v∈m)->l=m
 |[],[],_,_,_=>rfl
 |[],b::m,_,_,h=>absurd ((h b).2 (by simp)) (by simp)
 |a::l,[],_,_,h=>absurd ((h a).1 (by simp)) (by simp)
 |a::l,b::m,h1,h2,h=>by
  have h1':=List.pairwise_cons.1 h1;have h2':=List.pairwise_cons.1 h2;have e:a=b:=by
   have ha:=(h a).1 (by simp);have hb:=(h b).2 (by simp);rcases Z5.1 ha with e|ha
   .exact e
   .rcases Z5.1 hb with e|hb
    .exact e.symm
    .have:=h2'.1 a ha;have:=h1'.1 b hb;omega
  subst e
  congr 1
  refine zuv h1'.2 h2'.2 fun v=>⟨fun hv=> ?_,fun hv=> ?_⟩
  .rcases Z5.1 ((h v).1 (by simp[hv]))with rfl|h3
   .have:=h1'.1 v hv;omega
   .exact h3
  .rcases Z5.1 ((h v).2 (by simp[hv]))with rfl|h3
   .have:=h2'.1 v hv;omega
   .exact h3
theorem zv1:∀(l:List Int) (p:Int),Nd (p::l)->Srt (p::ddf p l)/\∀v,v∈p::ddf p l↔v∈p::l
 |[],p,_=>⟨by simp[ddf,Srt],fun v=>by simp[ddf]⟩
 |b::l,p,h=>by
  have h':=List.pairwise_cons.1 h;obtain⟨i1,i2⟩ :=zv1 l b h'.2;unfold ddf;split
  .rename_i e;subst e;refine⟨i1,fun v=> ?_⟩;rw[i2 v];simp
  .rename_i e;have hb:=h'.1 b (by simp);refine⟨List.pairwise_cons.2 ⟨fun x hx=> ?_,i1⟩,fun v=> ?_⟩
   .have hx2:=(i2 x).1 hx;rcases Z5.1 hx with rfl|hx
    .omega
    .have:=(List.pairwise_cons.1 i1).1 x hx;omega
   .rw[Z5,i2 v];simp
def zOW{l:List Int}(h:Nd l):Srt (dd l)/\∀v,v∈dd l↔v∈l:=by
 cases l with
 |nil=>exact⟨by simp[dd,Srt],fun v=>by simp[dd]⟩
 |cons a l=>exact zv1 l a h
def zFS(l:List Int):Nd (zf2 l):=by
 have h:=List.pairwise_mergeSort (le:=fun x y:Int=>!decide (y<x)) (by intro a b c h1 h2;simp at*;omega) (by intro a b;simp;omega) l;exact h.imp fun h=>by simpa using h
def zLV{ts:List Trm}{v:Int}:v∈kcs ts↔.cst v∈ts:=by
 unfold kcs;rw[Z38];constructor
 .rintro⟨t,ht,h⟩;cases t with
  |cst w=>simp[kc]at h;subst h;exact ht
  |var s=>simp[kc]at h
 .intro h;exact⟨_,h,by simp[kc]⟩
def zAs{l:List CQ}(hl:∀c∈l,CqSm c):dd (zf2 (kcs (l.flatMap tsC)))=cI l:=by
 obtain⟨h1,h2⟩ :=zOW (zFS (kcs (l.flatMap tsC)));refine zuv h1 (zCM l) fun v=> ?_
 rw[h2,zf2,List.mem_mergeSort,zLV,Z38,zBF hl]
def zRd{l:List CQ}(hl:∀c∈l,CqSm c):vsF (ze2 l)=iF (cI l):=by
 rw[zvY hl];unfold vsF iF;rw[Z33];rfl
def zPw(c:CQ):(kcs (tsC c)).length<=nkC c:=by
 have:∀ts:List Trm,(kcs ts).length<=ts.countP fun t=>decide (tv t=[]):=by
  intro ts
  induction ts with
  |nil=>simp[kcs]
  |cons t ts ih=>
   have e:(kcs (t::ts)).length=(kc t).length+(kcs ts).length:=by simp[kcs]
   rw[e,List.countP_cons];cases t with
   |cst v=>
    have e1:(if(fun t=>decide (tv t=[])) (Trm.cst v)=true then 1 else 0)=1:=rfl;rw[e1];show 1+_<=_;omega
   |var s=>simp only[kc,List.length_nil];omega
 exact this (tsC c)
theorem zwv:∀l:List CQ,(kcs (l.flatMap tsC)).length<=nkS l
 |[]=>by simp[kcs,nkS]
 |c::l=>by
  have h1:=zwv l;have h2:=zPw c;have e:(kcs ((c::l).flatMap tsC)).length=(kcs (tsC c)).length+(kcs (l.flatMap tsC)).length:=by simp[kcs,List.flatMap_append]
  rw[e];simp only[nkS,Z10,List.sum_cons]at h1|-;omega
def zON{hd:List Str}{l:List CQ}(hQ:QG hd l)(hw:nkS l<=12):Ans pr 16 [.ag [zaq hd,qsF l]] (iF (cI l))/\Ans pr 17 [.ag [zaq hd,qsF l]] (iF (cI l))/\Ans pr 15 [iF (cI l),iF (cI l)] (.b true):=by
 have hl:∀c∈l,CqSm c:=fun c hc=>(hQ.2.2 c hc).toCqSm
 have h12:(kcs (l.flatMap tsC)).length<=12:=Z3 (zwv l) hw;have h1:=zOs hd l hQ h12;have h2:=zGC hd l hQ;rw[zAs hl]at h1;rw[zRd hl]at h2;refine⟨h1,h2,ans15 _ ?_⟩;have h3:=zlt (l:=zf2 (kcs (l.flatMap tsC)));rw[zAs hl]at h3;have h4:(zf2 (kcs (l.flatMap tsC))).length=(kcs (l.flatMap tsC)).length:=List.length_mergeSort ..;omega
def zKF{l:List CQ}{r:Str}{p:Nat}{v:Int}:v∈cAt l r p↔∃c∈l,∃a∈c.as,a.r=r/\a.ts[p]? =some (.cst v):=by
 unfold cAt;simp only[Z38];refine exists_congr fun c=>and_congr_right fun _=>exists_congr fun a=>and_congr_right fun _=> ?_
 unfold cA1;split
 .rename_i h;simp only[h,true_and];split
  .rename_i n hn;rw[hn];constructor
   .intro h;rw[Z31.1 h]
   .intro h;cases h;simp
  .rename_i hn;constructor
   .intro h;simp at h
   .intro h;exact absurd h (hn v)
 .rename_i h;simp[h]
def zQS(q:CQ)(s:Str)(o:Option Int)(w:Int):(stS q s o w=some w/\exc q s w=false)\/(stS q s o w=o/\(o=none->exc q s w=true)):=by
 unfold stS;cases o with
 |none=>cases h:exc q s w<;>simp
 |some b=>by_cases hb:w<b<;>cases h:exc q s w<;>simp[hb]
theorem zuq{q:CQ}{s:Str}{v:Int}:∀{vs:List Int} {o:Option Int},smV q s o vs=some v->o=some v\/(v∈vs/\exc q s v=false)
 |[],o,h=> .inl h
 |w::vs,o,h=>by
  have h':smV q s (stS q s o w) vs=some v:=h;rcases zuq h' with h1|⟨h1,h2⟩
  .rcases zQS q s o w with⟨e,h3⟩ |⟨e,-⟩
   .rw[e]at h1;cases h1;exact .inr ⟨by simp,h3⟩
   .rw[e]at h1;exact .inl h1
  .exact .inr ⟨by simp[h1],h2⟩
theorem znK{l:List CQ}{q:CQ}{s:Str}{a:Atm}{v:Int}{o:Option Int}:∀{n:Nat},smT l q s a o n=some v->o=some v\/∃i,i<n/\a.ts[i]? =some (.var s)/\v∈cAt l a.r i/\exc q s v=false
 |0,h=> .inl h
 |n+1,h=>by
  rw[zup]at h;split at h
  .rename_i hv;rcases zuq h with h1|⟨h1,h2⟩
   .rcases znK h1 with h1|⟨i,hi,h1⟩
    .exact .inl h1
    .exact .inr ⟨i,by omega,h1⟩
   .exact .inr ⟨n,by omega,hv,h1,h2⟩
  .rcases znK h with h1|⟨i,hi,h1⟩
   .exact .inl h1
   .exact .inr ⟨i,by omega,h1⟩
theorem zrm{l:List CQ}{q:CQ}{s:Str}{v:Int}:∀{as':List Atm} {o:Option Int},as'.foldl (fun o a=>smT l q s a o a.ts.length) o=some v->o=some v\/∃a∈as',∃i:Nat,a.ts[i]? =some (.var s)/\v∈cAt l a.r i/\exc q s v=false
 |[],o,h=> .inl h
 |a::as',o,h=>by
  rcases zrm (as':=as') h with h1|⟨b,hb,i,h1⟩
  .rcases znK h1 with h1|⟨i,-,h1⟩
   .exact .inl h1
   .exact .inr ⟨a,by simp,i,h1⟩
  .exact .inr ⟨b,by simp[hb],i,h1⟩
def zxe{c:CQ}{k:Cm}{t:Trm}:t∈tsC (wth c k)↔t∈tsC c\/t=k.l\/t=k.r:=by
 rw[zd6,zd6];constructor
 .rintro (h|⟨j,hj,ht⟩)
  .exact .inl (.inl h)
  .rcases Z4.1 hj with hj|hj
   .exact .inl (.inr ⟨j,hj,ht⟩)
   .rw[Z31.1 hj]at ht;exact .inr ht
 .rintro ((h|⟨j,hj,ht⟩)|h)
  .exact .inl h
  .exact .inr ⟨j,List.mem_append_left _ hj,ht⟩
  .exact .inr ⟨k,List.mem_append_right _ (by simp),h⟩
def zBD{c:CQ}{k:Cm}(h1:lv c k.l=true)(h2:lv c k.r=true){t:Trm}(h:lv (wth c k) t=true):lv c t=true:=by
 cases t with
 |cst=>rfl
 |var s=>
  simp only[lv,decide_eq_true_eq]at h;rcases zxe.1 h with h|h|h
  .exact zg5 h
  .rw[h];exact h1
  .rw[h];exact h2
def zNm{op:Int}{c:CQ}{k:Cm}(h1:lv c k.l=true)(h2:lv c k.r=true){p:Trm×Trm}(h:unc op (wth c k) p=true):unc op c p=true:=by
 obtain⟨a,b,e⟩ :=zfd.1 h;refine zfd.2 ⟨zBD h1 h2 a,zBD h1 h2 b,?_⟩;have e':(c.cs++[k]).any (zcY op p.1 p.2)=false:=e;rw[List.any_append]at e';simp only[Bool.or_eq_false_iff]at e';exact e'.1
def zpk{op:Int}{c:CQ}{a b:Trm}:unc op (wth c ⟨op,a,b⟩) (a,b)=false:=by
 rw[Bool.eq_false_iff];intro h;obtain⟨-,-,e⟩ :=zfd.1 h;have e':(c.cs++[(⟨op,a,b⟩ :Cm)]).any (zcY op a b)=false:=e;rw[List.any_append]at e';simp[zcY]at e'
def zu3{op:Int}{c:CQ}{a b:Trm}:unc op (wth c ⟨op,b,a⟩) (a,b)=false:=by
 rw[Bool.eq_false_iff];intro h;obtain⟨-,-,e⟩ :=zfd.1 h;have e':(c.cs++[(⟨op,b,a⟩ :Cm)]).any (zcY op a b)=false:=e;rw[List.any_append]at e';simp[zcY]at e'
def zF9{op:Int}{s:Str}{t:Trm}(ht:t≠ .var s){c:CQ}{p:Trm×Trm}(hp:p.1= .var s\/p.2= .var s):unc op (mpC (sbT s t) c) p=false:=by
 rw[Bool.eq_false_iff];intro h;obtain⟨h1,h2,-⟩ :=zfd.1 h;have no:lv (mpC (sbT s t) c) (.var s)=true->False:=by
  intro h;simp only[lv,decide_eq_true_eq]at h;obtain⟨u,hu,e⟩ :=zph.1 h;unfold sbT at e;split at e
  .exact ht e
  .rename_i hne;exact hne e
 rcases hp with hp|hp
 .rw[hp]at h1;exact no h1
 .rw[hp]at h2;exact no h2
theorem zwo{op:Int}{L:List (Trm×Trm)}{PT:Trm->Prop}{c:CQ}(h:zfJ op L PT c){s:Str}{t:Trm}(h1:lv c t=true)(h2:PT t)(h3:zau t)(h4:t≠ .var s){p:Trm×Trm}(hp:p∈L)(h5:unc op c p=true)(h6:p.1= .var s\/p.2= .var s):
  zfJ op L PT (mpC (sbT s t) c)/\cnt op L (mpC (sbT s t) c)<cnt op L c:=by
 have hlt:cnt op L (mpC (sbT s t) c)<cnt op L c:=cnt_lt (fun p hp h=>zDe h1 h) hp h5 (zF9 h4 h6);refine⟨⟨zgS h.g fun u hu=>zjH h3 hu,fun u hu=> ?_,?_⟩,hlt⟩
 .obtain⟨v,hv,rfl⟩ :=zph.1 hu;unfold sbT;split
  .exact h2
  .exact h.t v hv
 .have:=h.b;have e:(mpC (sbT s t) c).cs.length=c.cs.length:=by simp[mpC]
  omega
theorem zns{op:Int}{L:List (Trm×Trm)}{PT:Trm->Prop}{c:CQ}(h:zfJ op L PT c){k:Cm}(h1:lv c k.l=true)(h2:lv c k.r=true)(h3:zbt k)(h4:PT k.l)(h5:PT k.r){p:Trm×Trm}(hp:p∈L)(h6:unc op c p=true)(h7:unc op (wth c k) p=false):
  zfJ op L PT (wth c k)/\cnt op L (wth c k)<cnt op L c:=by
 have hlt:cnt op L (wth c k)<cnt op L c:=cnt_lt (fun p hp h=>zNm h1 h2 h) hp h6 h7;have hb:=h.b;refine⟨⟨zme h.g h3 (by omega),fun u hu=> ?_,?_⟩,hlt⟩
 .rcases zxe.1 hu with hu|rfl|rfl
  .exact h.t u hu
  .exact h4
  .exact h5
 .have e:(wth c k).cs.length=c.cs.length+1:=by simp[wth]
  omega
def PTm(V:List Str)(K:List Int):Trm->Prop
 | .var s=>s∈V
 | .cst v=>v∈K
def prs(V:List Str)(K:List Int):List (Trm×Trm):=V.flatMap fun s=>K.map fun v=>(.var s,.cst v)
def zMa{V:List Str}{K:List Int}{s:Str}{v:Int}(h1:s∈V)(h2:v∈K):(Trm.var s,Trm.cst v)∈prs V K:=Z38.2 ⟨s,h1,Z12.2 ⟨v,h2,rfl⟩⟩
def ztC{V:List Str}{K:List Int}:∀p∈prs V K,Gd p:=by
 intro p hp;obtain⟨s,-,hp⟩ :=Z38.1 hp;obtain⟨v,-,rfl⟩ :=Z12.1 hp;exact⟨by simp,by rintro⟨a,b,e⟩;cases e⟩
def zFX{hd:List Str}{l:List CQ}{c:CQ}{p:Str×Int}(h:stQ hd l c=some p):p.1∈vrs c/\exc c p.1 p.2=false/\∃a∈c.as,∃i:Nat,a.ts[i]? =some (.var p.1)/\p.2∈cAt l a.r i:=by
 unfold stQ at h;obtain⟨s,hs,h⟩ :=List.exists_of_findSome?_eq_some h;unfold stN at h;split at h
 .cases h
 .cases ho:smA l c s c.as with
  |none=>rw[ho]at h;cases h
  |some v=>
   rw[ho]at h;cases h;rcases zrm ho with h1|⟨a,ha,i,h1,h2,h3⟩
   .cases h1
   .exact⟨hs,h3,a,ha,i,h1,h2⟩
def zFD{hd:List Str}{l M:List CQ}{i:Nat}(h:shS hd l=some (i,M)):∃(hi:i<l.length) (p:Str×Int),stQ hd l l[i]=some p/\M=spl l[i] p.1 p.2:=by
 unfold shS at h;split at h
 .rename_i j hj;obtain⟨h1,h2⟩ :=zej hj;rw[Z0 h1]at h;cases hq:stQ hd l l[j]with
  |none=>rw[hq]at h2;cases h2
  |some p=>
   simp only[hq,Option.map_some,Z45,Prod.mk.injEq]at h;obtain⟨rfl,rfl⟩ :=h;exact⟨h1,p,hq,rfl⟩
 .cases h
def pow_2{B m a b:Nat}(hB:3<=B)(h1:a<m)(h2:b<m):B ^ a+B ^ b<B ^ m:=by
 obtain⟨n,rfl⟩ :∃n,m=n+1:=⟨m - 1,by omega⟩
 have k1:B ^ a<=B ^ n:=Nat.pow_le_pow_right (by omega) (by omega);have k2:B ^ b<=B ^ n:=Nat.pow_le_pow_right (by omega) (by omega);have k3:0<B ^ n:=Nat.pow_pos (by omega);have k4:B ^ (n+1)=B ^ n*B:=Nat.pow_succ ..;have k5:B ^ n*3<=B ^ n*B:=Nat.mul_le_mul_left _ hB;omega
def zQF(hd:List Str)(V:List Str)(K:List Int)(hV:∀s∈V,s≠[]):Dcr 3 2 (prs V K) (PTm V K) (shS hd):=by
 intro l hl i M h;obtain⟨hi,p,hp,rfl⟩ :=zFD h;have hI:=hl _ (Z1 hi);obtain⟨h1,h2,a,ha,j,h3,h4⟩ :=zFX hp;generalize hc0:l[i]=c at*;have hin:=(zqr.1 h1).2;have hs:p.1∈V:=hI.t _ hin;obtain⟨c',hc',a',ha',-,h5⟩ :=zKF.1 h4;have hv:p.2∈K:=(hl c' hc').t (.cst p.2) (zd6.2 (.inl ⟨a',ha',Z39 h5⟩));have hu:unc 2 c (.var p.1,.cst p.2)=true:=zfd.2 ⟨zg5 hin,rfl,h2⟩;have hL:=zMa hs hv;obtain⟨k1,k2⟩ :=zwo hI (s:=p.1) (t:= .cst p.2) rfl hv trivial (by simp) hL hu (.inl rfl);obtain⟨k3,k4⟩ :=zns hI (k:=⟨2,.var p.1,.cst p.2⟩) (zg5 hin) rfl ⟨hV _ hs,trivial⟩ hs hv hL hu zpk;refine⟨hi,by simp[spl],by simp[spl],fun d hd=> ?_,?_⟩
 .rcases Z5.1 hd with rfl|hd
  .exact k1
  .rw[Z31.1 hd];exact k3
 .have:=pow_2 (B:=3) (by omega) k2 k4;simpa [mu,spl,hc0]using this
def fn21:pr.fn 21=some g21:=by kernel_rfl
def qb{f:Nat}{fs gs:List F}{x y:F}(h:Ans pr f fs x)(e1:fs=gs)(e2:x=y):Ans pr f gs y:=by rw[<-e1,<-e2];exact h
def kA:CQ:=⟨[⟨[82],false,[.var [120],.var [121]]⟩,⟨[82],false,[.cst 1,.var [122]]⟩],[],false,false⟩
def kB:CQ:=⟨[⟨[82],false,[.cst 1,.var [121]]⟩,⟨[82],false,[.cst 1,.var [122]]⟩],[],false,false⟩
def kC:CQ:=⟨[⟨[82],false,[.var [120],.var [121]]⟩,⟨[82],false,[.cst 1,.var [122]]⟩],[⟨2,.var [120],.cst 1⟩],false,false⟩
def kD:CQ:=⟨[⟨[82],false,[.var [120],.var [121]]⟩,⟨[82],false,[.var [121],.var [120]]⟩],[],false,false⟩
def kE:CQ:=⟨[⟨[82],false,[.var [120],.var [121]]⟩,⟨[82],false,[.var [121],.var [120]]⟩],[⟨3,.var [120],.var [121]⟩],false,false⟩
def kF:CQ:=⟨[⟨[82],false,[.var [120],.var [120]]⟩,⟨[82],false,[.var [120],.var [120]]⟩],[],false,false⟩
def kG:CQ:=⟨[⟨[82],false,[.var [120],.var [121]]⟩,⟨[82],false,[.var [121],.var [120]]⟩],[⟨3,.var [121],.var [120]⟩],false,false⟩
def k0:Ans pr 54 [.s [82,40,120,44,32,121,41,44,32,82,40,49,44,32,122,41]] (.tu [.ag [zaq [],qsF [kA]],.i .i64 0]):=qb kn0 rfl (by kernel_rfl)
def k1:Ans pr 54 [.s [82,40,120,44,32,121,41,44,32,82,40,121,44,32,120,41]] (.tu [.ag [zaq [],qsF [kD]],.i .i64 0]):=qb kn1 rfl (by kernel_rfl)
def k2:Ans pr 16 [.ag [zaq [],qsF [kA]]] (.sl 3 [[.i .i64 1,.i .i64 1,.s []]]):=qb kn2 (by kernel_rfl) rfl
def s1:zbu [] [kA]=[kA]:=by kernel_rfl
def s2:shS [] [kA]=some (0,spl kA [120] 1):=by kernel_rfl
def s3:zbu [] (rp [kA] 0 (spl kA [120] 1))=[kB,kC]:=by kernel_rfl
def s4:shS [] [kB,kC]=none:=by kernel_rfl
def s5:zbu [] [kD]=[kD]:=by kernel_rfl
def s6:rkS [] [kD]=some (0,sp3 kD [120] [121]):=by kernel_rfl
def s7:zbu [] (rp [kD] 0 (sp3 kD [120] [121]))=[kE,kF,kG]:=by kernel_rfl
def s8:rkS [] [kE,kF,kG]=none:=by kernel_rfl
def gA:CqG kA:=⟨⟨⟨by simp[kA,zbX,zau],by simp[kA],by simp[kA],by simp[kA]⟩,by simp[kA],by simp[kA],by simp[kA],by simp[kA]⟩,by simp[kA]⟩
def gB:CqG kB:=⟨⟨⟨by simp[kB,zbX,zau],by simp[kB],by simp[kB],by simp[kB]⟩,by simp[kB],by simp[kB],by simp[kB],by simp[kB]⟩,by simp[kB]⟩
def gC:CqG kC:=⟨⟨⟨by simp[kC,zbX,zau],by simp[kC,zbt,zau],by simp[kC],by simp[kC]⟩,by simp[kC],by simp[kC],by simp[kC],by simp[kC]⟩,by simp[kC]⟩
def gD:CqG kD:=⟨⟨⟨by simp[kD,zbX,zau],by simp[kD],by simp[kD],by simp[kD]⟩,by simp[kD],by simp[kD],by simp[kD],by simp[kD]⟩,by simp[kD]⟩
def gE:CqG kE:=⟨⟨⟨by simp[kE,zbX,zau],by simp[kE,zbt,zau],by simp[kE],by simp[kE]⟩,by simp[kE],by simp[kE],by simp[kE],by simp[kE]⟩,by simp[kE]⟩
def gF:CqG kF:=⟨⟨⟨by simp[kF,zbX,zau],by simp[kF],by simp[kF],by simp[kF]⟩,by simp[kF],by simp[kF],by simp[kF],by simp[kF]⟩,by simp[kF]⟩
def gG:CqG kG:=⟨⟨⟨by simp[kG,zbX,zau],by simp[kG,zbt,zau],by simp[kG],by simp[kG]⟩,by simp[kG],by simp[kG],by simp[kG],by simp[kG]⟩,by simp[kG]⟩
def qg(l:List CQ)(hl:l.length<=1000)(h:∀c∈l,CqG c):QG [] l:=⟨by simp,hl,h⟩
def rwA:RwN [] (shS []) 1 (zbu [] [kA]) (some [kB,kC]):=by
 rw[s1];have h1:QG [] [kA]:=qg _ (by simp) (by simp[gA]);have h2:RwN [] (shS []) 0 (zbu [] (rp [kA] 0 (spl kA [120] 1))) (some [kB,kC]):=by
  rw[s3];exact .stop (qg _ (by simp) (by simp[gB,gC])) (by simp) s4
 refine .go h1 (by simp) s2 (by simp) (by simp[spl]) (by simp[spl]) (by simp[rp,spl]) (qg _ (by simp[rp,spl]) ?_) h2;intro c hc;simp only[rp,spl,List.take_zero,Z28,Z4,Z5,List.not_mem_nil,or_false]at hc;rcases hc with(rfl|rfl)|hc
 .exact zgS gA fun t ht=>zmF t ht
 .exact zme gA ⟨by simp[zau],trivial⟩ (by simp[kA])
 .simp at hc
def rwD:RwN [] (rkS []) 1 (zbu [] [kD]) (some [kE,kF,kG]):=by
 rw[s5];have h1:QG [] [kD]:=qg _ (by simp) (by simp[gD]);have h2:RwN [] (rkS []) 0 (zbu [] (rp [kD] 0 (sp3 kD [120] [121]))) (some [kE,kF,kG]):=by
  rw[s7];exact .stop (qg _ (by simp) (by simp[gE,gF,gG])) (by simp) s8
 refine .go h1 (by simp) s6 (by simp) (by simp[sp3]) (by simp[sp3]) (by simp[rp,sp3]) (qg _ (by simp[rp,sp3]) ?_) h2;intro c hc;simp only[rp,sp3,List.take_zero,Z28,Z4,Z5,List.not_mem_nil,or_false]at hc;rcases hc with(rfl|rfl|rfl)|hc
 .exact zme gD ⟨by simp[zau],by simp[zau]⟩ (by simp[kD])
 .exact zgS gD fun t ht=>zjH (by simp[zau]) ht
 .exact zme gD ⟨by simp[zau],by simp[zau]⟩ (by simp[kD])
 .simp at hc
def ans21:Ans pr 21 [] (.b true):=by
 refine zbd fn21 ?_;have q0:=fun f=>zaj (k:=f) k0
 have q1:=fun f=>zaj (k:=f) k1
 have q2:=fun f=>zaj (k:=f) k2
 have q3:=fun f=>zaj (k:=f) (zGA (qg [kA] (by simp) (by simp[gA])) rwA)
 have q4:=fun f=>zaj (k:=f) (zGB (qg [kD] (by simp) (by simp[gD])) rwD)
 simp only[rwF]at q3 q4;have hl:kC.cs.length=1:=rfl;simp only[g21,rU];simp -implicitDefEqProofs [rW,st0,zae,q0,q1,q2,q3,q4,zaN,zcy,zbN,zdr,cqE,zaF,zaH,zbf,hl]
def zKr{l:List Str}{v:Str}(h:l.Nodup):(zcW l v).Nodup:=by
 unfold zcW;split
 .exact h
 .rename_i hn;rw[List.nodup_append];refine⟨h,by simp,fun a ha b hb e=> ?_⟩;rw[Z31.1 hb]at e;subst e;exact hn (.inr (by simpa using ha))
def zDv(ts:List Trm):∀{l:List Str},l.Nodup->(zcQ l ts).Nodup:=by
 unfold zcQ
 induction ts with
 |nil=>exact fun h=>h
 |cons t ts ih=>exact fun h=>ih (zKr h)
def zRc(c:CQ):(vrs c).Nodup:=by
 rw[<-zuF c];exact zDv (tsC c) List.nodup_nil
def kp_nd{hd l:List Str}(h:l.Nodup):(kp hd l).Nodup:=h.filter _
def zFa{hd:List Str}{c:CQ}{p:Str×Str}(h:rkQ hd c=some p):p.1∈vrs c/\p.2∈vrs c/\p.1≠p.2/\c.cs.any (zcY 3 (.var p.1) (.var p.2))=false:=by
 obtain⟨i,x,h1,rfl,h3,h4⟩ :=zC4 h;have hm:∀s∈kp hd (vrs c),s∈vrs c:=fun s hs=>(List.mem_filter.1 hs).1
 have hnd:=kp_nd (hd:=hd) (zRc c);refine⟨hm _ (Z39 h1),hm _ (Z21 h3),fun e=> ?_,?_⟩
 .obtain⟨j,hj,hj2⟩ :=List.mem_iff_getElem.1 h3;rw[List.getElem_drop]at hj2;simp at hj;obtain⟨hi,hi2⟩ :=Z8.1 h1;exact List.pairwise_iff_getElem.1 hnd i (i+1+j) hi (by omega) (by omega) (by rw[hi2,hj2,e])
 .unfold syP at h4;simp only[Z14,Bool.not_eq_true']at h4;exact h4.1
def zFd{hd:List Str}{l M:List CQ}{i:Nat}(h:rkS hd l=some (i,M)):∃(hi:i<l.length) (p:Str×Str),rkQ hd l[i]=some p/\M=sp3 l[i] p.1 p.2:=by
 unfold rkS at h;split at h
 .rename_i j hj;obtain⟨h1,h2⟩ :=zej hj;rw[Z0 h1]at h;cases hq:rkQ hd l[j]with
  |none=>rw[hq]at h2;cases h2
  |some p=>
   simp only[hq,Option.map_some,Z45,Prod.mk.injEq]at h;obtain⟨rfl,rfl⟩ :=h;exact⟨h1,p,hq,rfl⟩
 .cases h
def pow_3{B m a b d:Nat}(hB:4<=B)(h1:a<m)(h2:b<m)(h3:d<m):B ^ a+(B ^ b+B ^ d)<B ^ m:=by
 obtain⟨n,rfl⟩ :∃n,m=n+1:=⟨m - 1,by omega⟩
 have k1:B ^ a<=B ^ n:=Nat.pow_le_pow_right (by omega) (by omega);have k2:B ^ b<=B ^ n:=Nat.pow_le_pow_right (by omega) (by omega);have k6:B ^ d<=B ^ n:=Nat.pow_le_pow_right (by omega) (by omega);have k3:0<B ^ n:=Nat.pow_pos (by omega);have k4:B ^ (n+1)=B ^ n*B:=Nat.pow_succ ..;have k5:B ^ n*4<=B ^ n*B:=Nat.mul_le_mul_left _ hB;omega
def prv(V:List Str):List (Trm×Trm):=V.flatMap fun s=>(V.filter (· != s)).map fun v=>(.var s,.var v)
def zMb{V:List Str}{s v:Str}(h1:s∈V)(h2:v∈V)(h3:s≠v):(Trm.var s,Trm.var v)∈prv V:=Z38.2 ⟨s,h1,Z12.2 ⟨v,List.mem_filter.2 ⟨h2,by simpa using fun e=>h3 e.symm⟩,rfl⟩⟩
def zBQ{V:List Str}:∀p∈prv V,Gd p:=by
 intro p hp;obtain⟨s,-,hp⟩ :=Z38.1 hp;obtain⟨v,hv,rfl⟩ :=Z12.1 hp;have:=(List.mem_filter.1 hv).2;refine⟨fun e=> ?_,by rintro⟨a,b,e⟩;cases e⟩;cases e;simp at this
def zP3(hd:List Str)(V:List Str)(K:List Int)(hV:∀s∈V,s≠[]):Dcr 4 3 (prv V) (PTm V K) (rkS hd):=by
 intro l hl i M h;obtain⟨hi,p,hp,rfl⟩ :=zFd h;have hI:=hl _ (Z1 hi);obtain⟨h1,h2,h3,h4⟩ :=zFa hp;generalize hc0:l[i]=c at*;have i1:=(zqr.1 h1).2;have i2:=(zqr.1 h2).2;have s1:p.1∈V:=hI.t _ i1;have s2:p.2∈V:=hI.t _ i2;have hu:unc 3 c (.var p.1,.var p.2)=true:=zfd.2 ⟨zg5 i1,zg5 i2,h4⟩;have hL:=zMb s1 s2 h3;obtain⟨k1,k2⟩ :=zwo hI (s:=p.2) (t:= .var p.1) (zg5 i1) s1 (hV _ s1) (by simpa using h3) hL hu (.inr rfl);obtain⟨k3,k4⟩ :=zns hI (k:=⟨3,.var p.1,.var p.2⟩) (zg5 i1) (zg5 i2) ⟨hV _ s1,hV _ s2⟩ s1 s2 hL hu zpk;obtain⟨k5,k6⟩ :=zns hI (k:=⟨3,.var p.2,.var p.1⟩) (zg5 i2) (zg5 i1) ⟨hV _ s2,hV _ s1⟩ s2 s1 hL hu zu3;refine⟨hi,by simp[sp3],by simp[sp3],fun d hd=> ?_,?_⟩
 .simp only[sp3,Z5,List.not_mem_nil,or_false]at hd;rcases hd with rfl|rfl|rfl
  .exact k3
  .exact k1
  .exact k5
 .have:=pow_3 (B:=4) (by omega) k4 k2 k6;simpa [mu,sp3,hc0]using this
def Vs:List Str:=[[120],[121],[122]]
def zGy:∀s∈Vs,s≠[]:=by simp[Vs]
def cnc:Trm->Option Int
 | .cst n=>some n
 | .var _=>none
def Ks(l:List CQ):List Int:=l.flatMap fun c=>(tsC c).filterMap cnc
theorem zok{α β:Type}(f:α->List β)(m:Nat):∀(l:List α),(∀a∈l,(f a).length<=m)->(l.flatMap f).length<=m*l.length
 |[],_=>by simp
 |a::l,h=>by
  have h1:=zok f m l fun b hb=>h b (by simp[hb])
  have h2:=h a (by simp);rw[List.flatMap_cons,Z16,Z23,Nat.mul_add];omega
def zNl{m:Nat}{c:CQ}(h:CqW m c):(tsC c).length<=6+2*m:=by
 have h1:=zok (fun a:Atm=>a.ts) 2 c.as fun a ha=>(h.al a ha).2
 have h2:=zok ts2 2 c.cs fun k _=>by simp[ts2]
 have:=h.la;have:=h.lc;unfold tsC tsA;rw[Z16];omega
def zNw{l:List CQ}(h:∀c∈l,CqW 4 c):(Ks l).length<=14*l.length:=
 zok _ 14 l fun c hc=>Z3 (List.length_filterMap_le _ _) (zNl (h c hc))
def ptW{m:Nat}{l:List CQ}{c:CQ}(hc:c∈l)(h:CqW m c):∀t∈tsC c,PTm Vs (Ks l) t:=by
 intro t ht;cases t with
 |var s=>
  have hv:TmV (.var s):=by
   rcases zd6.1 ht with⟨a,ha,h1⟩ |⟨k,hk,h1⟩
   .exact (h.av a ha).2 _ h1
   .rcases h1 with h1|h1
    .rw[h1];exact (h.cv k hk).1
    .rw[h1];exact (h.cv k hk).2
  rcases hv with rfl|rfl|rfl<;>simp[PTm,Vs]
 |cst n=>exact Z38.2 ⟨c,hc,List.mem_filterMap.2 ⟨_,ht,rfl⟩⟩
def zL9(V:List Str)(K:List Int):(prs V K).length<=K.length*V.length:=zok _ _ V fun s _=>by simp
def zBq{l:List CQ}(hl:l.length<=4)(h:∀c∈l,CqW 4 c):∀c∈l,zfJ 2 (prs Vs (Ks l)) (PTm Vs (Ks l)) c:=by
 intro c hc;refine⟨(h c hc).g (by omega),ptW hc (h c hc),?_⟩;have h1:cnt 2 (prs Vs (Ks l)) c<=(prs Vs (Ks l)).length:=List.countP_le_length;have h2:=zL9 Vs (Ks l);have h3:=zNw h;have h4:=(h c hc).lc;have h5:Vs.length=3:=rfl;rw[h5]at h2;omega
def zPu{l:List CQ}(h:∀c∈l,CqW 4 c):∀c∈l,zfJ 3 (prv Vs) (PTm Vs (Ks l)) c:=by
 intro c hc;refine⟨(h c hc).g (by omega),ptW hc (h c hc),?_⟩;have h1:cnt 3 (prv Vs) c<=(prv Vs).length:=List.countP_le_length;have h4:=(h c hc).lc;have h5:(prv Vs).length=6:=by kernel_rfl
 omega
def zQG{hd:List Str}{l:List CQ}(hh:hd.length<10)(hl:l.length<=4)(h:∀c∈l,CqW 4 c):∃k r,RwN hd (shS hd) k (zbu hd l) r/\∀m,r=some m->(∀c∈m,zfJ 2 (prs Vs (Ks l)) (PTm Vs (Ks l)) c/\Smd hd c)/\shS hd m=none/\m.length<=64:=by
 obtain⟨k1,k2,k3⟩ :=ziz (B:=3) (by omega) (.inl rfl) ztC (hd:=hd) (zBq hl h);obtain⟨r,hr,hr2⟩ :=zJA (B:=3) (by omega) (.inl rfl) ztC (show hd.length<1000 by omega) (zQF hd Vs (Ks l) zGy) _ (zbu hd l) (by omega) k1 (Z2 _);exact⟨_,r,hr,hr2⟩
def zP4{hd:List Str}{l:List CQ}(hh:hd.length<10)(hl:l.length<=4)(h:∀c∈l,CqW 4 c):∃k r,RwN hd (rkS hd) k (zbu hd l) r/\∀m,r=some m->(∀c∈m,zfJ 3 (prv Vs) (PTm Vs (Ks l)) c/\Smd hd c)/\rkS hd m=none/\m.length<=64:=by
 obtain⟨k1,k2,k3⟩ :=ziz (B:=4) (by omega) (.inr rfl) zBQ (hd:=hd) (zPu h);obtain⟨r,hr,hr2⟩ :=zJA (B:=4) (by omega) (.inr rfl) zBQ (show hd.length<1000 by omega) (zP3 hd Vs (Ks l) zGy) _ (zbu hd l) (by omega) k1 (Z2 _);exact⟨_,r,hr,hr2⟩
def zPm{l:List CQ}{h:T Ob}{id ro:Nat}(hne:l≠[])(hg:h.get id=some (.arr 2 ro (fD (l.map cqF)))):frz h.get 11 (.sl id 0 l.length 2 l.length false)=some (qsF l,[id]):=by
 have hl:(fD (l.map cqF)).length=l.length:=by rw[zlw,Z18]
 have e2:((fD (l.map cqF)).drop 0).take l.length=(l.map cqF).map fun a=>a.map D.f:=by
  rw[Z34,<-hl,Z7];rfl
 have e:=zfm h.get 9 (l.map cqF);rw[zdx,hg,za9,zdf,if_pos ⟨rfl,by rw[hl];omega⟩,e2,e,za9,zbR (by simpa using hne)];rfl
def zEb(l:List CQ):zDp l l:=⟨rfl,fun _ _ _=>⟨rfl,rfl⟩⟩
def ans7(q:CQ)(s:Str)(n:Int)(hq:CqG q):Ans pr 7 [.ag (cqF q),.s s,.ag (vF n)] (if s=[]then .nils else qsF (spl q s n)):=by
 refine zbd fn7 ?_;simp only[g7,rU]
 by_cases hs:s=[]
 .subst hs;simp only[cqE];simp[rW,st0,zae,vF,zaF,zaH]
 .have q1:=fun k=>zaj (k:=k) (zGI q s n hs hq)
  have q2:=fun k=>zaj (k:=k) (zxM _ (zgS hq (zmF (s:=s) (n:=n))).toCqSm)
  have q3:=fun k=>zaj (k:=k) (zrJ q 2 (.var s) (.cst n) hq)
  simp only[cqE,tmF,vF]at q1 q2 q3;simp only[cqE,if_neg hs];simp[rW,st0,zae,vF,hs,zaF,zaH];refine zaL ?_;simp[rW,vF,hs,zaF,zaH,q1,q2,q3,qsF,spl];rfl
def and8(a:Int):∃r:Nat,r<=3/\zbB .and (.i .u8 a) (.i .u8 3)=some (.i .u8 r):=by
 have hle:(BitVec.ofInt 8 a&&& BitVec.ofInt 8 3).toNat<=3:=by
  rw[BitVec.toNat_and];refine Z3 Nat.and_le_right ?_;decide
 refine⟨(BitVec.ofInt 8 a&&& BitVec.ofInt 8 3).toNat,hle,?_⟩;have e:zbB .and (.i .u8 a) (.i .u8 3)=some (.i .u8 (IntKind.u8.wrap ((BitVec.ofInt 8 a&&& BitVec.ofInt 8 3).toNat:Int))):=rfl;rw[e];generalize (BitVec.ofInt 8 a&&& BitVec.ofInt 8 3).toNat=r at hle;obtain rfl|rfl|rfl|rfl:r=0\/r=1\/r=2\/r=3:=by omega
 all_goals rfl
def zPc{hd:List Str}{r r':Option (List CQ)}(hh:hd.length<1000)(hr:∀m,r=some m->(∀c∈m,CqSm c)/\m.length<1000)(he:EqO r r'):∃a b a' b' e,rwF hd r= .tu [.ag [a,b],.i .i64 e]/\rwF hd r'= .tu [.ag [a',b'],.i .i64 e]/\a.d= .f a/\b.d= .f b/\a'.d= .f a'/\b'.d= .f b'/\(D.f a).cells=some [.f a]/\(D.f b).cells=some [.f b]/\(D.f a').cells=some [.f a']/\(D.f b').cells=some [.f b']/\Ans pr 18 [.ag [a,b],.ag [a',b']] (.b true):=by
 cases r with
 |none=>
  cases r' with
  |none=>exact⟨.nils,.nils,.nils,.nils,4,rfl,rfl,rfl,rfl,rfl,rfl,rfl,rfl,rfl,rfl,zxK [] [] [] (by simp) (by simp) (by simp) (zEb _)⟩
  |some m=>exact he.elim
 |some l=>
  cases r' with
  |none=>exact he.elim
  |some m=>
   have he':EqL l m:=he;exact⟨zaq hd,qsF l,zaq hd,qsF m,0,rfl,rfl,zaN _,zcy _,zaN _,zcy _,zfL _ _,zfL _ _,zfL _ _,zfL _ _,zxK hd l m hh (hr l rfl).1 (hr l rfl).2 he'.eqv⟩
def zPH{hd:List Str}(c:CQ)(s:Str)(n:Int):EqL (spl c s n) (zhU c s n):=by
 simp only[EqL,spl,zhU,Z10,List.map_nil,zto (c:=c) (d:=c) rfl]
def fn3:pr.fn 3=some g3:=by kernel_rfl
def Agr(f g:Nat)(hd:List Str)(l:List CQ):Prop:=∃a b a' b' e,Ans pr f [.ag [zaq hd,qsF l]] (.tu [.ag [a,b],.i .i64 e])/\Ans pr g [.ag [zaq hd,qsF l]] (.tu [.ag [a',b'],.i .i64 e])/\a.d= .f a/\b.d= .f b/\a'.d= .f a'/\b'.d= .f b'/\(D.f a).cells=some [.f a]/\(D.f b).cells=some [.f b]/\(D.f a').cells=some [.f a']/\(D.f b').cells=some [.f b']/\Ans pr 18 [.ag [a,b],.ag [a',b']] (.b true)
def T3(hd:List Str)(l A B:List CQ)(n:Nat)(s:St):Prop:=(s.tm.get 9=some (.ptr 0 2 0 0)/\s.tm.get 11=some (.f (qsF A))/\s.tm.get 12=some (.f (qsF B))/\s.tm.get 13=some (.f (.i .i64 n))/\s.h.get 0=some (.arr 2 0 [[.f (zaq hd),.f (qsF l)]]))/\1<=s.c
theorem ans3w{x:F}(hx:zg4 x){n v nm:Int}{hd:List Str}{l0:List CQ}(hQ0:QG hd l0)(hl0:l0≠[])(h6:Ans pr 6 [x,.i .i64 n] (.ag [zaq hd,qsF l0]))(hnk:nkS l0<=12)(hspl:∀s,s≠[]->∀c∈spl (l0[0]'(List.length_pos_iff.2 hl0)) s v,CqG c)
  (hm:QG hd (zbu hd l0))(hml:(zbu hd l0).length<1000)(hSh:Agr 11 12 hd l0)(hRk:Agr 13 14 hd l0):Ans pr 3 [x,.i .i64 n,.i .i64 v,.i .u8 nm] (.b true):=by
 have hpos:0<l0.length:=List.length_pos_iff.2 hl0;have hx0:l0[0]? =some l0[0]:=Z0 hpos;have hG0:=hQ0.2.2 _ (Z1 hpos);generalize hC:l0[0]=c0 at hspl hx0 hG0;obtain⟨k,hk3,hk⟩ :=and8 nm;obtain⟨sv,hsv⟩ :∃sv:Str,([[.f (.s [120])],[.f (.s [121])],[.f (.s [])],[.f (.s [113])]]:List (List D))[k]? =some [.f (.s sv)]:=by
  obtain rfl|rfl|rfl|rfl:k=0\/k=1\/k=2\/k=3:=by omega
  .exact⟨_,rfl⟩
  .exact⟨_,rfl⟩
  .exact⟨_,rfl⟩
  .exact⟨_,rfl⟩
 obtain⟨A,B,hAl,hAB,hA7,hB9,hAG⟩ :∃A B:List CQ,A.length<1000/\EqL A B/\Ans pr 7 [.ag (cqF c0),.s sv,.ag (vF v)] (qsF A)/\Ans pr 9 [.ag (cqF c0),.s sv,.ag (vF v)] (qsF B)/\∀c∈A,CqG c:=by
  have a7:=ans7 c0 sv v hG0;have a9:=zDD c0 sv v hG0
  by_cases hs:sv=[]
  .rw[if_pos hs]at a7 a9;exact⟨[],[],by simp,rfl,a7,a9,by simp⟩
  .rw[if_neg hs]at a7 a9;exact⟨_,_,by simp[spl],zPH (hd:=hd) c0 sv v,a7,a9,hspl sv hs⟩
 have hBl:B.length=A.length:=hAB.len.symm;obtain⟨a1,b1,a1',b1',e1,p11,p12,d1,d2,d3,d4,z1,z2,z3,z4,p18⟩ :=hSh;obtain⟨a2,b2,a2',b2',e2,p13,p14,d5,d6,d7,d8,z5,z6,z7,z8,p18b⟩ :=hRk;obtain⟨p16,p17,p15⟩ :=zON hQ0 hnk;have p20:=znZ hd l0 hQ0;have p18c:=zxK hd (zbu hd l0) (zew hd l0) hQ0.1 (fun c hc=>(hm.2.2 c hc).toCqSm) hml (zqd hd (l:=l0) (m:=l0) rfl).symm.eqv;generalize hM:zbu hd l0=M at*;generalize zew hd l0=M' at*;generalize cI l0=C at*;refine zbd fn3 ?_;have q6:=fun f=>zaj (k:=f) h6
 have q7:=fun f=>zaj (k:=f) hA7
 have q8:=fun f=>zaj (k:=f) (zxR v)
 have q9:=fun f=>zaj (k:=f) hB9
 simp only[cqE,vF]at q7 q8 q9;simp only[g3,rU];have hk4:k<4:=by omega
 have hsv3:∀h,([[.f (.s [120])],[.f (.s [121])],[.f (.s [])],[.f (.s [113])]]:List (List D))[k]'h=[.f (.s sv)]:=fun h=>by
  have:=hsv;rw[Z0 h]at this;exact Option.some.inj this
 simp[rW,st0,zae,zmw hx,q6,zaN,zcy,zcC,hk,hk4,hsv3];refine zaL ?_;simp[rW,zaN,zcy,zdr,hx0,hC,hpos,cqE,zaF,zaH,q7,q8,q9,zbN,hBl];refine zdi A.length (T3 hd l0 A B) (fun e s=>e= .exit 0/\T3 hd l0 A B A.length s) ?_ ?_ _ ?_ ?_
 .rintro i s hi ⟨⟨h9,h11,h12,h13,g0⟩,hlo⟩;have hw:=zao i (by omega);have hxA:A[i]? =some A[i]:=Z0 hi;have hxB:B[i]? =some (B[i]'(by omega)):=Z0 (by omega);have q10:=fun f=>zaj (k:=f) (ans10 A[i] (B[i]'(by omega)) (hAB.at hi (by omega)) (hAG _ (Z1 hi)))
  have hiB:i<B.length:=by omega
  generalize hAi:A[i]=a at*;generalize hBi:B[i]=b at*;simp only[cqE]at q10;simp -implicitDefEqProofs [rW,h9,h11,h12,h13,g0,hi,zbN];refine zaL ?_;simp -implicitDefEqProofs [rW,h9,h11,h12,h13,g0,hi,hiB,hBl,zbN,zdr,hxA,hxB,hAi,hBi,cqE,zaF,zaH,q10,hw];refine⟨?_,?_⟩
  .simp -implicitDefEqProofs [rW,h9,h11,h12,h13,g0,hw]
  .simp[rW,]<;>omega
 .rintro s ⟨⟨h9,h11,h12,h13,g0⟩,hlo⟩;simp -implicitDefEqProofs [rW,h9,h11,h12,h13,g0,zbN];refine⟨?_,?_⟩
  .simp -implicitDefEqProofs [rW,h9,h11,h12,h13,g0]
  .simp[rW,]<;>omega
 .refine⟨?_,?_⟩
  .simp[rW,]
  .simp[rW,]<;>omega
 .rintro e s ⟨rfl,⟨h9,h11,h12,h13,g0⟩,hlo⟩;have q11:=fun f=>zaj (k:=f) p11
  have q12:=fun f=>zaj (k:=f) p12
  have q13:=fun f=>zaj (k:=f) p13
  have q14:=fun f=>zaj (k:=f) p14
  have n0:¬(0=s.c):=by omega
  have n1:¬(0=s.c+1):=by omega
  have n2:¬(0=s.c+1+1):=by omega
  have n3:¬(0=s.c+1+1+1):=by omega
  simp -implicitDefEqProofs [rW,h9,g0,n0,n1,n2,n3,q11,q12,q13,q14,zaN,zcy,d1,d2,d3,d4,d5,d6,d7,d8,z1,z2,z3,z4,z5,z6,z7,z8];refine ziK (fun S=>s.c+1+1+1<S.c/\(S.tm.get 9=some (.ptr 0 2 0 0)/\S.tm.get 14=some (.ptr s.c 2 0 0)/\S.tm.get 15=some (.f (.i .i64 e1))/\S.tm.get 16=some (.ptr (s.c+1) 2 0 0)/\S.tm.get 17=some (.f (.i .i64 e1))/\S.tm.get 18=some (.ptr (s.c+1+1) 2 0 0)/\S.tm.get 19=some (.f (.i .i64 e2))/\S.tm.get 20=some (.ptr (s.c+1+1+1) 2 0 0)/\S.tm.get 21=some (.f (.i .i64 e2))/\S.h.get 0=some (.arr 2 0 [[.f (zaq hd),.f (qsF l0)]]))/\S.h.get s.c=some (.arr 2 0 [[.f a1,.f b1]])/\S.h.get (s.c+1)=some (.arr 2 0 [[.f a1',.f b1']])/\S.h.get (s.c+1+1)=some (.arr 2 0 [[.f a2,.f b2]])/\S.h.get (s.c+1+1+1)=some (.arr 2 0 [[.f a2',.f b2']])) ⟨?_,⟨?_,?_,?_,?_,?_,?_,?_,?_,?_,?_⟩,?_,?_,?_,?_⟩ ?_
  .simp[rW,]
  .simp[rW,h9]
  .simp[rW,]
  .simp[rW,]
  .simp[rW,]
  .simp[rW,]
  .simp[rW,]
  .simp[rW,]
  .simp[rW,]
  .simp[rW,]
  .simp[rW,g0,n0,n1,n2,n3]
  .simp[rW,show ¬(s.c=s.c+1) by omega,show ¬(s.c=s.c+1+1) by omega,show ¬(s.c=s.c+1+1+1) by omega]
  .simp[rW,show ¬(s.c+1=s.c+1+1) by omega,show ¬(s.c+1=s.c+1+1+1) by omega,show ¬(s.c=s.c+1) by omega,show ¬(s.c=s.c+1+1) by omega]
  .simp[rW,show ¬(s.c+1+1=s.c+1+1+1) by omega,show ¬(s.c=s.c+1) by omega]
  .simp[rW,]
  clear h9 h11 h12 h13 g0;rintro S ⟨hSc,⟨h9,h14,h15,h16,h17,h18,h19,h20,h21,g0⟩,u1,u2,u3,u4⟩;have o1:s.c<S.c:=by omega
  have o2:s.c+1<S.c:=by omega
  have o3:s.c+1+1<S.c:=by omega
  clear n0 n1 n2 n3 hlo;generalize s.c+1+1+1=P4 at*;generalize s.c+1+1=P3 at*;generalize s.c+1=P2 at*;generalize s.c=P1 at*;have q16:=fun f=>zaj (k:=f) p16
  have q17:=fun f=>zaj (k:=f) p17
  have q15:=fun f=>zaj (k:=f) p15
  have q20:=fun f=>zaj (k:=f) p20
  have q21:=fun f=>zaj (k:=f) ans21
  have q18:=fun f=>zaj (k:=f) p18
  have q18b:=fun f=>zaj (k:=f) p18b
  have q18c:=fun f=>zaj (k:=f) p18c
  refine zgT ?_;simp -implicitDefEqProofs [rW,h9,g0,zaN,zcy,q16,q17,q15,iF_d];refine zuK rfl rfl (zAD hQ0) ?_;rintro d H c2 lw2 mx2 ⟨hF2,dq,rfl,hE2⟩ hcc2 hmm2;simp only[rG]at hF2 hE2 hcc2 hmm2;rw[hM]at hE2;have k0:=(hF2 0 (by omega)).trans g0;have k1:=(hF2 P1 (by omega)).trans u1;have k2:=(hF2 P2 (by omega)).trans u2;have k3:=(hF2 P3 (by omega)).trans u3;have k4:=(hF2 P4 (by omega)).trans u4;rcases hE2 with⟨rfl,e0⟩ |⟨id2,rfl,hm2,hg2,hi1,hi2⟩
  .rw[e0]at q18c;simp only[show qsF []=F.nils from rfl]at q18c;simp -implicitDefEqProofs [rW,h9,h14,h15,h16,h17,h18,h19,h20,h21,k0,k1,k2,k3,k4,zaN,zcy,zcC,q20,q18,q18b,q18c,q21,d1,d2,d3,d4,d5,d6,d7,d8];exact g0
  .have z12:=zPm (ro:=0) hm2 hg2;have y0:¬(0=id2):=by omega
   have y1:¬(P1=id2):=by omega
   have y2:¬(P2=id2):=by omega
   have y3:¬(P3=id2):=by omega
   have y4:¬(P4=id2):=by omega
   have y5:id2<mx2:=by omega
   have y6:id2<mx2+1:=by omega
   simp -implicitDefEqProofs [rW,h9,h14,h15,h16,h17,h18,h19,h20,h21,k0,k1,k2,k3,k4,zaN,zcy,zcC,q20,q18,q18b,q18c,q21,d1,d2,d3,d4,d5,d6,d7,d8,z12,hg2,zlw,hm2,y0,y1,y2,y3,y4,y5,y6];exact⟨g0,by omega⟩
def zDX{q:CQ}{k:Cm}(hq:CqG q)(hk:zbt k)(hl:q.cs.length<200):CqG (wth q k):=by
 refine⟨⟨⟨hq.as,fun x hx=> ?_,hq.la,by simp[wth];omega⟩,hq.sa,hq.st,by simp[wth];omega,hq.s2⟩,hq.tn⟩;rcases Z4.1 hx with h|h
 .exact hq.cs x h
 .rw[Z31.1 h];exact hk
def zz3{f g:Nat}{hd:List Str}{l:List CQ}{r r':Option (List CQ)}(hh:hd.length<1000)(hr:∀m,r=some m->(∀c∈m,CqSm c)/\m.length<1000)(he:EqO r r')(h1:Ans pr f [.ag [zaq hd,qsF l]] (rwF hd r))(h2:Ans pr g [.ag [zaq hd,qsF l]] (rwF hd r')):Agr f g hd l:=by
 obtain⟨a,b,a',b',e,e1,e2,rest⟩ :=zPc hh hr he;rw[e1]at h1;rw[e2]at h2;exact⟨a,b,a',b',e,h1,h2,rest⟩
def ans3{x:F}(hx:zg4 x)(n v nm:Int):Ans pr 3 [x,.i .i64 n,.i .i64 v,.i .u8 nm] (.b true):=by
 obtain⟨hd,l,hh,hne,hl,hLW,h6⟩ :=ans6x hx n;have hw:=hLW.1;obtain⟨k1,r1,hR1,hr1⟩ :=zQG hh hl hw;obtain⟨k2,r2,hR2,hr2⟩ :=zP4 hh hl hw;have hQ:QG hd l:=⟨by omega,by omega,fun c hc=>(hw c hc).g (by omega)⟩
 obtain⟨m1,m2,m3⟩ :=ziz (B:=3) (by omega) (.inl rfl) ztC (hd:=hd) (zBq hl hw);have hE:EqL (zbu hd l) (zew hd l):=(zqd hd (l:=l) (m:=l) rfl).symm;obtain⟨r1',hR1',he1⟩ :=rw_eq (zQX hd) hR1 _ hE;obtain⟨r2',hR2',he2⟩ :=rw_eq (zQV hd) hR2 _ hE;have hpos:0<l.length:=List.length_pos_iff.2 hne;have hw0:=hw _ (Z1 hpos);have hG0:=hQ.2.2 _ (Z1 hpos);refine ans3w hx hQ hne h6 (by have:=hLW.2;omega) (fun s hs c hc=> ?_) ⟨by omega,by omega,fun c hc=>(m1 c hc).1.g⟩ (by omega)
  (zz3 (by omega) (fun m e=>⟨fun c hc=>(((hr1 m e).1 c hc).1.g).toCqSm,by have:=(hr1 m e).2.2;omega⟩) he1 (zGA hQ hR1) (ans12 hd l hQ hR1'))
  (zz3 (by omega) (fun m e=>⟨fun c hc=>(((hr2 m e).1 c hc).1.g).toCqSm,by have:=(hr2 m e).2.2;omega⟩) he2 (zGB hQ hR2) (ans14 hd l hQ hR2'))
 unfold spl at hc;simp only[Z5,List.not_mem_nil,or_false]at hc;rcases hc with rfl|rfl
 .exact zgS hG0 fun t ht=>zmF t ht
 .exact zDX hG0 ⟨hs,trivial⟩ (by have:=hw0.lc;omega)
end Go.Proofs.YtmnkdfjljkhneaaGreat
end
