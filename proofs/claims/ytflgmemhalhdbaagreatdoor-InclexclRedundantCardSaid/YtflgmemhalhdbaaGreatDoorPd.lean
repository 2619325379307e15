/- The numbers of the variables among terms. -/
import Derived.Test.YtflgmemhalhdbaaGreatDoorPc
import Derived.KernelRfl
import Derived.IntWalk
set_option linter.all false
set_option maxRecDepth 100000
set_option maxHeartbeats 4000000
section
namespace Go.Proofs.YtflgmemhalhdbaaGreatDoor
open Go Go.Vse Go.Vse.Sm
def fn83:pr.fn 83=some g83:=by kernel_rfl
def zE4{l:List Nat}(h:l≠[]):F.sl 1 (l.map fun n:Nat=>[F.i .i64 (n:Int)])=zeR l:=zdz (by simpa using h)
def znB(h:Nat->Option Ob)(k:Nat)(l:List Nat):zaV (frz h (k+1)) (iE l)=some (l.map fun n:Nat=>[F.i .i64 (n:Int)],[]):=zCu h k l
def zCw{l:List Nat}(h:iE l=[]):l=[]:=by simpa [iE]using h
def zkO(l:List Nat):(iE l).take l.length=iE l:=by rw[<-zcs l,Z8]
def RdU(h:T Ob)(c:Nat)(d:D)(l:List Trm):Prop:=d= .f (zdD l)\/RdT h c d l
def RdU.up{h h':T Ob}{c c':Nat}{d:D}{l:List Trm}(H:RdU h c d l)(hf:∀id,id<c->h'.get id=h.get id)(hc:c<=c'):RdU h' c' d l:=by
 rcases H with H|H
 .exact .inl H
 .exact .inr (H.up (fun id a _=>hf id a) hc)
def RdU.len{h:T Ob}{c:Nat}{d:D}{l:List Trm}(H:RdU h c d l):zbv d=some l.length:=by
 rcases H with rfl|H
 .exact zh3 l
 .exact H.len
def RdU.get{h:T Ob}{c:Nat}{d:D}{l:List Trm}(H:RdU h c d l){n:Nat}(hn:n<l.length):∃p rd,iaB 4 d n=some p/\zbq true 4 h.get p=some (.ag (tmD l[n]),rd):=by
 rcases H with rfl|H
 .exact⟨.fptr (tmF l[n]),[],by simp[zm7,hn],by simp[zbq,zgz,tmE,tmD]⟩
 .exact H.get hn
structure SIx(ns:List Str)(h:T Ob)(c S M:Nat):Prop where
 gS:∃ro cells,h.get S=some (.arr 11 ro [cells])/\cells[1]? =some (.mp M)
 gM:h.get M=some (.map (ixE ns))
 bS:S<c
 bM:M<c
def SIx.up{ns:List Str}{h h':T Ob}{c c' S M:Nat}(H:SIx ns h c S M)(hf:∀id,id<c->h'.get id=h.get id)(hc:c<=c'):SIx ns h' c' S M:=
 ⟨by rw[hf S H.bS];exact H.gS,by rw[hf M H.bM];exact H.gM,Z16 H.bS hc,Z16 H.bM hc⟩
def SAt.ix{a b:CQ}{ns:List Str}{im:List Trm}{asg:List Bool}{dA dC dT:D}{h:T Ob}{c S M I A:Nat}(H:SAt a b ns im asg dA dC dT h c S M I A):SIx ns h c S M:=
 ⟨⟨0,_,H.gS,rfl⟩,H.gM,H.bS,H.bM⟩
def addN(ns:List Str)(l:List Nat)(t:Trm):List Nat:=if tv t∈ns/\tv t≠[]/\l.any (vix ns (tv t)== ·)=false then l++[vix ns (tv t)]else l
def nums(ns:List Str)(ts:List Trm):List Nat:=ts.foldl (addN ns) []
def zDZ(ns:List Str)(l:List Nat)(t:Trm):(addN ns l t).length<=l.length+1:=by
 unfold addN;split
 .simp
 .omega
theorem zic(ns:List Str):∀(ts:List Trm) (l:List Nat),(ts.foldl (addN ns) l).length<=l.length+ts.length
 |[],l=>by simp
 |t::ts,l=>by
  have h1:=zDZ ns l t;have h2:=zic ns ts (addN ns l t);simp only[Z43,Z24];omega
def V5(h:T Ob)(c S:Nat)(dU:D)(len:Nat)(n:Nat)(L:List Nat)(s:St):Prop:=∃d,s.tm.get 0=some (.ptr S 11 0 0)/\s.tm.get 10=some (dU)/\s.tm.get 11=some (.f (.i .i64 len))/\s.tm.get 12=some (.f (.i .i64 n))/\s.tm.get 5=some (d)/\Frm h s.h c/\Gro s.h c s.c 1 d (iE L)/\c<=s.c
theorem zyZ{ns:List Str}{h:T Ob}{c S M:Nat}(H:SIx ns h c S M)(hns:[]∉ns)(ts:List Trm){dU:D}(hU:RdU h c dU ts)(hl:ts.length<100000):
  Eff pr 83 [.ptr S 11 0 0,dU] h c fun d h' c'=>Frm h h' c/\Gro h' c c' 1 d (iE (nums ns ts)):=by
 refine zcG za0 fn83 ?_;simp only[g83,rU];simp[rW,st0,zah,hU.len];refine zeO ts (addN ns) [] (fun n L s=>V5 h c S dU ts.length n L s) (fun x s=>x= .exit 0/\∃n,V5 h c S dU ts.length n (nums ns ts) s) ?_ ?_ _ ?_ ?_
 .rintro n L s hn hL ⟨d,h0,h10,h11,h12,h5,hf,hg,hc⟩;have hw:=zao n (by omega);have hLl:L.length<=n:=by
   have:=zic ns (ts.take n) [];rw[<-hL]at this;simp at this;omega
  obtain⟨p,rd,hp1,hp2⟩ :=(hU.up (h':=s.h) hf hc).get hn;have HS:=H.up (h':=s.h) hf hc;obtain⟨ro,cells,gS,gS1⟩ :=HS.gS;have gM:=HS.gM;have hbS:=H.bS;have hbM:=H.bM;generalize ts[n]=T at hp2|-;have nS:¬S=s.c:=by omega
  have nM:¬M=s.c:=by omega
  have hFid:∀id,id<c->¬id=s.c:=fun id h=>by omega
  simp only[tmD]at hp2
  by_cases hv:tv T∈ns
  .have hv0:tv T≠[]:=fun e=>hns (by rw[<-e];exact hv)
   have hk:=zoj hv;have q:=fun k=>zav (k:=k) (zPT L (vix ns (tv T)) (by omega))
   have e0:addN ns L T=if L.any (vix ns (tv T)== ·)=false then L++[vix ns (tv T)]else L:=by unfold addN;simp[hv,hv0]
   rw[e0];clear e0;generalize vix ns (tv T)=i at q hk|-;generalize hz:L.any (i== ·)=z at q|-;have m1:(1<=zak)=True:=za2 (by omega);have m2:(8<=zak)=True:=za2 (by omega);have m3:(L.length+1<=zak)=True:=za2 (by omega);have m4:((L.length+1)*8<=zak)=True:=za2 (by omega);have hlt:(L.length+1<=L.length)=False:=leF (by omega);simp[rW,h0,h10,h11,h12,h5,hn,hp1,hp2];refine zaF ?_;rcases hg with⟨rfl,hn0⟩ |⟨id,r0,rfl,hne,hid,hro,hlid,hidc⟩
   .have:=zCw hn0;subst this;have:z=false:=by rw[<-hz];rfl
    subst this;rw[(show zeR []= .nils from rfl)]at q;simp[rW,h0,h10,h11,h12,h5,gS,gS1,gM,nS,nM,hk,hw,V5,hv0,q,m1,m2];exact⟨fun j hj=>by(simp only[TG,Vse.T.zeF];repeat rw[Z50 (by omega)]);exact hf j hj,.inr ⟨s.c+1+1+1+1+1+1+1+1+1+1+1+1+1,0,rfl,by simp[iE],by simp[TG,iE],Z62 _,by omega,by omega⟩,by omega⟩
   .rw[zcs]at*;have hl0:L≠[]:=fun e=>hne (by rw[e];rfl)
    have hz2:=zE4 hl0;have hic:¬id=s.c:=by omega
    have hci:¬s.c=id:=by omega
    by_cases hr:L.length<=r0
    .cases z with
     |true=>
      simp[rW,h0,h10,h11,h12,h5,gS,gS1,gM,nS,nM,hk,hw,V5,hv0,q,m1,m2,hid,hic,hci,hr,zcs,zkO,znB,hz2];exact⟨fun j hj=>by(simp only[TG,Vse.T.zeF];repeat rw[Z50 (by omega)]);exact hf j hj,.inr ⟨id,r0,by rw[zcs],hne,by simp[TG,hic,hid],by rw[zcs];exact hro,hlid,by omega⟩,by omega⟩
     |false=>
      simp[rW,h0,h10,h11,h12,h5,gS,gS1,gM,nS,nM,hk,hw,V5,hv0,q,m1,m2,m3,m4,hlt,hro,hid,hic,hci,hr,zcs,zkO,znB,hz2];exact⟨by omega,fun j hj=>by(simp only[TG,Vse.T.zeF];repeat rw[Z50 (by omega)]);exact hf j hj,.inr ⟨s.c+1+1+1+1+1+1+1+1+1+1+1+1+1,r0,by simp[iE],by simp[iE],by simp[TG,iE],by rw[zcs,Z17];omega,by omega,by omega⟩,by omega⟩
    .cases z with
     |true=>
      simp[rW,h0,h10,h11,h12,h5,gS,gS1,gM,nS,nM,hk,hw,V5,hv0,q,m1,m2,hid,hic,hci,hr,zcs,zkO,znB,hz2];exact⟨by omega,fun j hj=>by(simp only[TG,Vse.T.zeF];repeat rw[Z50 (by omega)]);exact hf j hj,.inr ⟨id,L.length,by rw[zcs],hne,by simp[TG],by rw[zcs];omega,hlid,by omega⟩,by omega⟩
     |false=>
      simp[rW,h0,h10,h11,h12,h5,gS,gS1,gM,nS,nM,hk,hw,V5,hv0,q,m1,m2,m3,m4,hlt,hro,hid,hic,hci,hr,zcs,zkO,znB,hz2];exact⟨by omega,by omega,fun j hj=>by(simp only[TG,Vse.T.zeF];repeat rw[Z50 (by omega)]);exact hf j hj,.inr ⟨s.c+1+1+1+1+1+1+1+1+1+1+1+1+1,L.length,by simp[iE],by simp[iE],by simp[TG,iE],by rw[zcs,Z17];omega,by omega,by omega⟩,by omega⟩
  .have hk:=zmw hv;have e0:addN ns L T=L:=by unfold addN;simp[hv]
   rw[e0];simp[rW,h0,h10,h11,h12,h5,hn,hp1,hp2];refine zaF ?_;simp[rW,h0,h10,h11,h12,h5,gS,gS1,gM,nS,nM,hk,hw,V5];refine⟨fun id h=> ?_,zbh hg (by omega) fun id h1 h2=> ?_,by omega⟩
   .simp[TG,hFid id h,hf id h]
   .simp[TG,show id≠s.c by omega]
 .rintro s ⟨d,h0,h10,h11,h12,h5,hf,hg,hc⟩;simp[rW,h0,h10,h11,h12,h5,V5];exact⟨⟨_,rfl⟩,hf,hg,hc⟩
 .simp[rW,V5];exact⟨fun _ _=>rfl,.inl ⟨rfl,rfl⟩⟩
 .rintro x s ⟨rfl,n,d,h0,h10,h11,h12,h5,hf,hg,hc⟩;simp[rW,h5,zcp];exact⟨⟨hf,hg⟩,fun _ hF=>⟨fun _ _=>rfl,zra hg hF⟩⟩
def fn96:pr.fn 96=some g96:=by kernel_rfl
def fn97:pr.fn 97=some g97:=by kernel_rfl
def root(g:List Nat)(i:Nat):Nat:=if g.getD i i<i then root g (g.getD i i)else i
termination_by i
def root_eq(g:List Nat)(i:Nat):root g i=if g.getD i i<i then root g (g.getD i i)else i:=by
 conv=>lhs;unfold root
structure Dwn(g:List Nat)(n:Nat):Prop where
 len:g.length=n
 dn:∀i,i<n->g.getD i i<=i
def ziX(g:List Nat):∀i,root g i<=i:=by
 intro i
 induction i using Nat.strongRecOn with
 |ind i ih=>
  rw[root_eq];split
  .rename_i h;exact Z4 (ih _ h) (Z111 h)
  .exact Z3 _
structure GAt(g:List Nat)(n:Nat)(h:T Ob)(c G G0:Nat):Prop where
 g0:h.get G0=some (.arr 1 0 [[.sl G 0 n 1 n true]])
 gg:h.get G=some (.arr 1 0 (iE g))
 b0:G0<c
 bg:G<c
def GAt.up{g:List Nat}{n:Nat}{h h':T Ob}{c c' G G0:Nat}(H:GAt g n h c G G0)(hf:∀id,id<c->h'.get id=h.get id)(hc:c<=c'):GAt g n h' c' G G0:=
 ⟨by rw[hf _ H.b0];exact H.g0,by rw[hf _ H.bg];exact H.gg,Z16 H.b0 hc,Z16 H.bg hc⟩
theorem zFE{g:List Nat}{n:Nat}{h:T Ob}{c G G0:Nat}(H:GAt g n h c G G0)(hd:Dwn g n)(i:Nat)(hi:i<n):
  RO pr 96 [.f (.i .i64 (i:Int)),.ptr G0 1 0 0] h c (.f (.i .i64 (root g i:Int))):=by
 refine zcA za0 fn96 rfl ?_;simp only[g96,rU];obtain⟨gg0,gg,hb0,hbg⟩ :=H;simp[rW,st0,zah];refine zcN (fun k s=>∃j,j<n/\k=j/\root g j=root g i/\s.tm.get 0=some (.f (.i .i64 (j:Int)))/\s.tm.get 1=some (.ptr G0 1 0 0)/\s.h=h/\s.lw=c) (fun x s=>x= .exit 0/\s.tm.get 0=some (.f (.i .i64 (root g i:Int)))/\s.lw=c) ?_ i _ ?_ ?_
 .rintro j s ⟨_,hj,rfl,hr,h0,h1,eh,el⟩;have hl:j<g.length:=by rw[hd.len];exact hj
  have e1:=zpV g j hl;have e2:g.getD j j=g[j]:=by simp[Z49,Z0 hl]
  have e3:=hd.dn j hj;rw[e2]at e3;rw[root_eq,e2]at hr
  by_cases hlt:g[j]<j
  .rw[Z52 hlt]at hr;have hne:¬((g[j]:Int)=(j:Int)):=by omega
   simp[rW,h0,h1,eh,gg0,gg,hj,e1,hne];rw[zcc];refine⟨g[j],hlt,g[j],by omega,rfl,hr,?_⟩;simp[rW,h0,h1,eh,el]
  .rw[Z50 hlt]at hr;have hne:((g[j]:Int)=(j:Int)):=by omega
   rw[<-hr];simp[rW,h0,h1,eh,gg0,gg,hj,e1,hne,el]
 .simp[rW,st0,zah];exact⟨i,hi,rfl,rfl,rfl⟩
 .rintro x s ⟨rfl,h0,el⟩;simp[rW,h0,zaO,el]
def uni(g:List Nat)(a b:Nat):List Nat:=g.set (max (root g a) (root g b)) (min (root g a) (root g b))
def zfT(asg:List Bool)(st:Option Nat×List Nat)(v:Nat):Option Nat×List Nat:=if asg.getD v false=true then st else(some v,st.1.elim st.2 fun f=>uni st.2 f v)
def zfj(asg:List Bool)(g:List Nat)(l:List Nat):List Nat:=(l.foldl (zfT asg) (none,g)).2
def zx3{g:List Nat}{n a b:Nat}(H:Dwn g n):Dwn (uni g a b) n:=by
 refine⟨by simp[uni,H.len],fun i hi=> ?_⟩;unfold uni;simp only[Z49,Z88];split
 .rename_i h;rw[Z52 (by rw[H.len];omega)];simp;omega
 .have:=H.dn i hi;simpa [Z49]using this
def zEv{asg:List Bool}{n:Nat}{st:Option Nat×List Nat}(H:Dwn st.2 n)(v:Nat):Dwn (zfT asg st v).2 n:=by
 unfold zfT;split
 .exact H
 .cases st.1 with
  |none=>exact H
  |some f=>exact zx3 H
def zuD:Option Nat->Int
 |none=> -1
 |some f=>f
structure CAt(asg:List Bool)(ns:List Str)(g:List Nat)(h:T Ob)(c S M A G G0 B FB:Nat):Prop where
 ix:SIx ns h c S M
 ga:GAt g ns.length h c G G0
 sA:∃ro cells,h.get S=some (.arr 11 ro [cells])/\cells[3]? =some (.sl A 0 ns.length 1 ns.length true)
 gA:h.get A=some (.arr 1 0 (bE asg))
 lA:asg.length=ns.length
 bA:A<c
 gB:h.get B=some (.arr 1 0 [[.ptr S 11 0 0]])
 bB:B<c
 gF:h.get FB=some (.arr 1 0 [[.fn 96 [] [.ptr G0 1 0 0]]])
 bF:FB<c
 nA:A≠G
def CAt.upG{asg:List Bool}{ns:List Str}{g g':List Nat}{h h':T Ob}{c c' S M A G G0 B FB:Nat}(H:CAt asg ns g h c S M A G G0 B FB)(hg:h'.get G=some (.arr 1 0 (iE g')))(hf:∀id,id<c->id≠G->h'.get id=h.get id)(hc:c<=c')(n1:S≠G)(n2:M≠G)(n3:G0≠G)(n4:B≠G)(n5:FB≠G):CAt asg ns g' h' c' S M A G G0 B FB:=by
 obtain⟨⟨x1,x2,x3,x4⟩,⟨y1,y2,y3,y4⟩,z1,z2,z3,z4,z5,z6,z7,z8,z9⟩ :=H;exact⟨⟨by rw[hf _ x3 n1];exact x1,by rw[hf _ x4 n2];exact x2,by omega,by omega⟩,⟨by rw[hf _ y3 n3];exact y1,hg,by omega,by omega⟩,by rw[hf _ x3 n1];exact z1,by rw[hf _ z4 z9];exact z2,z3,by omega,by rw[hf _ z6 n4];exact z5,by omega,by rw[hf _ z8 n5];exact z7,by omega,z9⟩
theorem zgQ{ns:List Str}:∀(ts:List Trm) (l:List Nat),(∀v∈l,v<ns.length)->∀v∈ts.foldl (addN ns) l,v<ns.length
 |[],l,h=>h
 |t::ts,l,h=>by
  refine zgQ ts (addN ns l t) ?_;intro v hv;unfold addN at hv;split at hv
  .rename_i hc;rcases Z5.1 hv with hv|hv
   .exact h v hv
   .simp at hv;rw[hv];exact ziw hc.1
  .exact h v hv
def Z1(asg:List Bool)(ns:List Str)(h:T Ob)(c S M A G G0 B FB:Nat)(dl:D)(L:List Nat)(g0:List Nat)(n:Nat)(st:Option Nat×List Nat)(s:St):Prop:=
 s.tm.get 1=some (.ptr B 1 0 0)/\s.tm.get 2=some (.ptr FB 1 0 0)/\s.tm.get 3=some (.ptr G0 1 0 0)/\s.tm.get 5=some (.f (.i .i64 (zuD st.1)))/\s.tm.get 12=some (dl)/\s.tm.get 13=some (.f (.i .i64 L.length))/\s.tm.get 14=some (.f (.i .i64 n))/\CAt asg ns st.2 s.h s.c S M A G G0 B FB/\RdI s.h s.c dl L/\dl.oid≠some G/\(∀id,id<c->id≠G->s.h.get id=h.get id)/\c<=s.c/\Dwn st.2 ns.length/\(∀f,st.1=some f->f<ns.length)/\s.lw<=c/\(s.lw=c->st.2=g0)
theorem zH6{asg:List Bool}{ns:List Str}{g:List Nat}{h:T Ob}{c S M A G G0 B FB:Nat}(H:CAt asg ns g h c S M A G G0 B FB)(hns:[]∉ns)(hd:Dwn g ns.length)(n1:S≠G)(n2:M≠G)(n3:G0≠G)(n4:B≠G)(n5:FB≠G)(ts:List Trm){dU:D}(hU:RdU h c dU ts)(hl:ts.length<100000):
  Eff pr 97 [dU,.ptr B 1 0 0,.ptr FB 1 0 0,.ptr G0 1 0 0] h c fun _ h' c'=>CAt asg ns (zfj asg g (nums ns ts)) h' c' S M A G G0 B FB/\∀id,id<c->id≠G->h'.get id=h.get id:=by
 refine zcG za0 fn97 ?_;simp only[g97,rU];have gB:=H.gB;simp[rW,st0,zah,gB];refine zer ?_ ?_ (zyZ H.ix hns ts hU hl) ?_
 .simp only[rG]
 .simp only[rG]
 .intro d' h' c' lw mx hp hcc;obtain⟨hf,hg⟩ :=hp;have hLl:(nums ns ts).length<=ts.length:=by have:=zic ns ts [];simpa [nums]using this
  have hLv:∀v∈nums ns ts,v<ns.length:=zgQ ts [] (by simp)
  unfold zfj;generalize nums ns ts=L at hg hLl hLv|-;have hoid:d'.oid≠some G:=zbi hg H.ga.bg;have hrd:RdI h' c' d' L:=by
   rcases hg.held with hh|⟨id,ro,e1,e2,e3,e4,e5⟩
   .exact .inr (.inl hh)
   .exact .inr (.inr ⟨id,ro,e1,e2,e3,Z62 _,e5⟩)
  simp[rW,zdv hg,zcs];refine zeO L (zfT asg) (none,g) (Z1 asg ns h c S M A G G0 B FB d' L g) (fun x s=>x= .exit 0/\∃n,Z1 asg ns h c S M A G G0 B FB d' L g n (L.foldl (zfT asg) (none,g)) s) ?_ ?_ _ ?_ ?_
  .rintro n st s hn hst ⟨h1,h2,h3,h5,h12,h13,h14,HC,hR,hdl,hf2,hc2,hdw,hfs,hlw,hlw2⟩;have hw:=zao n (by omega);obtain⟨p,rd,hp1,hp2⟩ :=hR.get hn;have hv:=hLv _ (Z2 hn);generalize L[n]=v at hp2 hv|-;obtain⟨ro,cells,gS,gS3⟩ :=HC.sA;have gA:=HC.gA;have gB:=HC.gB;have gF:=HC.gF;have gG0:=HC.ga.g0;have gG:=HC.ga.gg;have hbG:=H.ga.bg;have hva:v<asg.length:=by rw[HC.lA];exact hv
   have e2:=zlW asg v hva;have e3:asg.getD v false=asg[v]:=by simp[Z49,Z0 hva]
   have hl8:∀l,hd8 (iE l)=false:=by intro l;cases l<;>rfl
   unfold zfT;rw[e3];cases hav:asg[v]with
   |true=>
    rw[hav]at e2;simp[rW,h1,h2,h3,h5,h12,h13,h14,hn,hp1,hp2,gB,gS,gS3,gA,hv,e2,hw,Z1];exact⟨HC,hR,hdl,hf2,hc2,hdw,hfs,hlw,hlw2⟩
   |false=>
    rw[hav]at e2;cases hs1:st.1 with
    |none=>
     rw[hs1]at h5;simp only[zuD]at h5;simp[rW,h1,h2,h3,h5,h12,h13,h14,hn,hp1,hp2,gB,gS,gS3,gA,hv,e2,hw,Z1,zuD];exact⟨HC,hR,hdl,hf2,hc2,hdw,hlw,hlw2⟩
    |some f=>
     rw[hs1]at h5;simp only[zuD]at h5;have hfn:=hfs f hs1;have hra:root st.2 f<ns.length:=Z189 (ziX _ _) hfn;have hrb:root st.2 v<ns.length:=Z189 (ziX _ _) hv;have hud:=zx3 (a:=f) (b:=v) hdw;have r1:=fun(H':Vse.T Ob) (c':Nat) (HH:GAt st.2 ns.length H' c' G G0)=>zFE HH hdw f hfn
     have r2:=fun(H':Vse.T Ob) (c':Nat) (HH:GAt st.2 ns.length H' c' G G0)=>zFE HH hdw v hv
     have hgl:∀i,i<ns.length->(iE st.2)[i]? =some [D.f (.i .i64 ((st.2.getD i 0:Nat):Int))]:=by
      intro i hi;have hi':i<st.2.length:=by rw[hdw.len];exact hi
      rw[zpV _ _ hi'];simp[Z49,Z0 hi']
     have hset:∀i j:Nat,(iE st.2).set i [D.f (.i .i64 (j:Int))]=iE (st.2.set i j):=by intro i j;simp[iE,Z117]
     rw[Option.elim_some];unfold uni at hud|-;generalize root st.2 f=ra at hra hud r1|-;generalize root st.2 v=rb at hrb hud r2|-;have fin:∀(m k:Nat) (s':St),m=max ra rb->k=min ra rb->(s'.tm.get 1=some (.ptr B 1 0 0)/\s'.tm.get 2=some (.ptr FB 1 0 0)/\s'.tm.get 3=some (.ptr G0 1 0 0)/\s'.tm.get 5=some (.f (.i .i64 v))/\s'.tm.get 12=some (d')/\s'.tm.get 13=some (.f (.i .i64 L.length))/\s'.tm.get 14=some (.f (.i .i64 (n+1:Nat))))->s'.h=s.h.set G (.arr 1 0 (iE (st.2.set m k)))->s.c<=s'.c->s'.lw<=G->Z1 asg ns h c S M A G G0 B FB d' L g (n+1) (some v,st.2.set (max ra rb) (min ra rb)) s':=by
      rintro m k s' rfl rfl ⟨h1,h2,h3,h5,h12,h13,h14⟩ eh ec el;refine⟨h1,h2,h3,h5,h12,h13,h14,HC.upG (g':=st.2.set (max ra rb) (min ra rb)) ?_ ?_ ec n1 n2 n3 n4 n5,?_,hdl,?_,by omega,hud,?_,by omega,by omega⟩
      .rw[eh];simp[TG]
      .intro id a b;rw[eh];simp[TG,b]
      .rcases hR with hR|hR|⟨id,ro,e1,e2,e3,e4,e5⟩
       .exact .inl hR
       .exact .inr (.inl hR)
       .refine .inr (.inr ⟨id,ro,e1,e2,?_,e4,by omega⟩);have:id≠G:=fun e=>hdl (by rw[e1,e];rfl)
        rw[eh];simp[TG,this,e3]
      .intro id a b;rw[eh];simp[TG,b,hf2 id a b]
      .intro f' hf';cases hf';exact hv
     by_cases hlt:ra<rb
     .have em:rb=max ra rb:=by omega
      have ek:ra=min ra rb:=by omega
      have hgt:¬rb<ra:=by omega
      simp[rW,h1,h2,h3,h5,h12,h13,h14,hn,hp1,hp2,gB,gS,gS3,gA,hv,e2,hw];refine za5 ?_;simp[rW,h1,h2,h3,h5,h12,h13,h14,gF];refine zbS (r1 _ _ (HC.ga.up ?_ ?_)) ?_ ?_ ?_
      .intro id hid;simp only[rG]
      .simp only[rG];omega
      .simp only[rG];omega
      .simp[ckG,ck1]
      intro mx1 hmx1;simp only[rG]at hmx1;simp[rW,h1,h2,h3,h5,h12,h13,h14,gF];refine zbS (r2 _ _ (HC.ga.up ?_ ?_)) ?_ ?_ ?_
      .intro id hid;simp only[rG]
      .simp only[rG];omega
      .simp only[rG];omega
      .simp[ckG,ck1]
      intro mx2 hmx2;simp only[rG]at hmx2;simp[rW,h1,h2,h3,h5,h12,h13,h14,gF,gG0,gG,hlt,hgt,hra,hrb,hgl,hset,zcs,hl8,hw];refine⟨by omega,fin rb ra _ em ek ?_ ?_ ?_ ?_⟩
      .simp[rW,h1,h2,h3,h5,h12,h13,h14]
      .simp only[rG]
      .simp only[rG];omega
      .simp only[rG];exact zdU _ _ _ _
     .by_cases hgt:rb<ra
      .have em:ra=max ra rb:=by omega
       have ek:rb=min ra rb:=by omega
       simp[rW,h1,h2,h3,h5,h12,h13,h14,hn,hp1,hp2,gB,gS,gS3,gA,hv,e2,hw];refine za5 ?_;simp[rW,h1,h2,h3,h5,h12,h13,h14,gF];refine zbS (r1 _ _ (HC.ga.up ?_ ?_)) ?_ ?_ ?_
       .intro id hid;simp only[rG]
       .simp only[rG];omega
       .simp only[rG];omega
       .simp[ckG,ck1]
       intro mx1 hmx1;simp only[rG]at hmx1;simp[rW,h1,h2,h3,h5,h12,h13,h14,gF];refine zbS (r2 _ _ (HC.ga.up ?_ ?_)) ?_ ?_ ?_
       .intro id hid;simp only[rG]
       .simp only[rG];omega
       .simp only[rG];omega
       .simp[ckG,ck1]
       intro mx2 hmx2;simp only[rG]at hmx2;simp[rW,h1,h2,h3,h5,h12,h13,h14,gF,gG0,gG,hlt,hgt,hra,hrb,hgl,hset,zcs,hl8,hw];refine⟨by omega,fin ra rb _ em ek ?_ ?_ ?_ ?_⟩
       .simp[rW,h1,h2,h3,h5,h12,h13,h14]
       .simp only[rG]
       .simp only[rG];omega
       .simp only[rG];exact zdU _ _ _ _
      .have em:ra=max ra rb:=by omega
       have ek:ra=min ra rb:=by omega
       simp[rW,h1,h2,h3,h5,h12,h13,h14,hn,hp1,hp2,gB,gS,gS3,gA,hv,e2,hw];refine za5 ?_;simp[rW,h1,h2,h3,h5,h12,h13,h14,gF];refine zbS (r1 _ _ (HC.ga.up ?_ ?_)) ?_ ?_ ?_
       .intro id hid;simp only[rG]
       .simp only[rG];omega
       .simp only[rG];omega
       .simp[ckG,ck1]
       intro mx1 hmx1;simp only[rG]at hmx1;simp[rW,h1,h2,h3,h5,h12,h13,h14,gF];refine zbS (r2 _ _ (HC.ga.up ?_ ?_)) ?_ ?_ ?_
       .intro id hid;simp only[rG]
       .simp only[rG];omega
       .simp only[rG];omega
       .simp[ckG,ck1]
       intro mx2 hmx2;simp only[rG]at hmx2;simp[rW,h1,h2,h3,h5,h12,h13,h14,gF,gG0,gG,hlt,hgt,hra,hrb,hgl,hset,zcs,hl8,hw];refine⟨by omega,fin ra ra _ em ek ?_ ?_ ?_ ?_⟩
       .simp[rW,h1,h2,h3,h5,h12,h13,h14]
       .simp only[rG]
       .simp only[rG];omega
       .simp only[rG];exact zdU _ _ _ _
  .rintro s ⟨h1,h2,h3,h5,h12,h13,h14,HC,hR,hdl,hf2,hc2,hdw,hfs,hlw,hlw2⟩;simp[rW,h1,h2,h3,h5,h12,h13,h14,Z1];exact⟨⟨_,rfl⟩,HC,hR,hdl,hf2,hc2,hdw,hfs,hlw,hlw2⟩
  .simp[rW,Z1,zuD];refine⟨H.upG (g':=g) ?_ (fun id a b=>hf id a) hcc n1 n2 n3 n4 n5,hrd,hoid,fun id a b=>hf id a,hcc,hd,Z65 _ _⟩;rw[hf _ H.ga.bg];exact H.ga.gg
  .rintro x s ⟨rfl,n,h1,h2,h3,h5,h12,h13,h14,HC,hR,hdl,hf2,hc2,hdw,hfs,hlw,hlw2⟩;have er:∀s:St,resD s []=some (.tu []):=fun _=>rfl
   simp[rW,zcp,zfl,er];refine⟨⟨HC,hf2⟩,fun e=> ?_⟩;rw[hlw2 e];exact H
def fn99:pr.fn 99=some g99:=by kernel_rfl
def fn114:pr.fn 114=some zze:=by kernel_rfl
def fn98:pr.fn 98=some g98:=by kernel_rfl
def zFG{e:D}{k:Nat}(hk:zbv e=some k){h:T Ob}{c:Nat}:RO pr 99 [e] h c (.f (.b (decide (k=0)))):=by
 refine zcA za0 fn99 rfl ?_;simp only[g99,rU]
 by_cases h0:k=0
 .subst h0;simp[rW,st0,zah,hk,zaO]
 .have h1:¬(k:Int)=0:=by omega
  simp[rW,st0,zah,hk,zaO,h0,h1]
def zhW{els:List D}{n:Nat}(hn:n<els.length):(els.map fun e=>[e])[n]? =some [els[n]]:=by simp[Z0 hn]
def zel(ln:D->Nat)(e:D):Bool:=decide (ln e=0)
theorem ro114(els:List D)(ln:D->Nat)(hln:∀e∈els,zbv e=some (ln e))(hl:els.length<100000){h:T Ob}{c Mb:Nat}{rows:List (List D)}(gM:h.get Mb=some (.arr 1 0 rows))(hrw:∀n (hn:n<els.length),rows[n]? =some [els[n]]):
  RO pr 114 [.sl Mb 0 els.length 1 els.length true,.f (.fn 99)] h c (.f (.i .i64 (ixP els (zel ln)))):=by
 refine zcA za0 fn114 rfl ?_;simp only[zze,rU];simp[rW,st0,zah];refine zfa els (zel ln) (fun n s=>s.tm.get 0=some (.sl Mb 0 els.length 1 els.length true)/\s.tm.get 1=some (.f (.fn 99))/\s.tm.get 7=some (.f (.i .i64 els.length))/\s.tm.get 8=some (.f (.i .i64 n))/\s.h=h/\s.c=c/\s.lw=c) (fun x s=>x= .exit 0/\s.lw=c) (fun n y s=>y= .ret/\s.tm.get 4=some (.f (.i .i64 n))/\s.lw=c) ?_ ?_ _ ?_ ?_ ?_
 .rintro n s hn ⟨h0,h1,h7,h8,eh,ec,el⟩;have hw:=zao n (by omega);have e1:=hrw n hn;have hle:=hln _ (Z2 hn);generalize els[n]=e at e1 hle|-;simp[rW,h0,h1,h7,h8,hn,eh,gM,e1];refine zbW (d:= .f (.b (zel ln e))) (zFG hle) ?_ ?_
  .simp only[rG];omega
  .intro mx;cases zel ln e with
   |true=>simp[rW,h0,h1,h7,h8,el]
   |false=>simp[rW,h0,h1,h7,h8,hw,eh,ec,el]
 .rintro s ⟨h0,h1,h7,h8,eh,ec,el⟩;simp[rW,h0,h1,h7,h8,el]
 .simp[rW,st0,zah]
 .rintro h z s ⟨rfl,el⟩;rw[ziG h];simp[rW,zaO,el]
 .rintro n hn hp hm z s ⟨rfl,h4,el⟩;rw[zhq hn hp hm];simp[rW,h4,zaO,el]
def clrO(es id off m es' c:Nat)(z:List F):Ob->Option Rs
 | .arr es'' ro old=>if es=es'/\es'=es''/\off+m<=old.length/\ro<=off/\zeb old (old.take off++List.replicate m (z.map D.f)++old.drop (off+m))=true then
     some {d:= .f .un,rd:=[id],wr:=[(id,some (.arr es ro (old.take off++List.replicate m (z.map D.f)++old.drop (off+m))))],c}
    else none
 |_=>none
theorem zwP{es id off m es' c es'' ro:Nat}{z:List F}{old:List (List D)}:clrO es id off m es' c z (.arr es'' ro old)=if es=es'/\es'=es''/\off+m<=old.length/\ro<=off/\zeb old (old.take off++List.replicate m (z.map D.f)++old.drop (off+m))=true then
     some {d:= .f .un,rd:=[id],wr:=[(id,some (.arr es ro (old.take off++List.replicate m (z.map D.f)++old.drop (off+m))))],c}
    else none:=rfl
def zJX(h:Nat->Option Ob)(c es:Nat)(z:List F)(id off m es' lim:Nat)(ex:Bool):opv h c (.clr es z (.sl id off m es' lim ex))=om (h id) (clrO es id off m es' c z):=by
 simp only[opv,om];cases h id with
 |none=>rfl
 |some o=>cases o<;>rfl
def slO(es id off len es' lim:Nat)(ex:Bool)(l r:Nat):Ob->Option (D×List Nat)
 | .arr es'' _ _=>if es=es'/\es'=es''/\l<=r/\(off+r<=lim\/r<=len)then some (.sl id (off+l) (r - l) es lim ex,[id])else none
 |_=>none
def zrM{es id off len es' lim:Nat}{ex:Bool}{l r es'' ro:Nat}{els:List (List D)}:slO es id off len es' lim ex l r (.arr es'' ro els)=if es=es'/\es'=es''/\l<=r/\(off+r<=lim\/r<=len)then some (.sl id (off+l) (r - l) es lim ex,[id])else none:=rfl
def zAo{es:Nat}{h:Nat->Option Ob}{id off len es' lim:Nat}{ex:Bool}{lo hi:Option D}:sliceB es h (.sl id off len es' lim ex) lo hi none=om (h id) fun o=>om (za8 0 lo) fun l=>om (za8 len hi) fun r=>slO es id off len es' lim ex l r o:=by
 simp only[sliceB,om];cases h id with
 |none=>rfl
 |some o=>
  cases o with
  |map _=>
   simp only[Z47];cases za8 0 lo with
   |none=>rfl
   |some l=>simp only[Z47];cases za8 len hi<;>rfl
  |arr es'' ro els=>
   simp only[Z47];cases za8 0 lo with
   |none=>rfl
   |some l=>simp only[Z47];cases za8 len hi<;>rfl
def nel(ln:D->Nat)(els:List D):List D:=els.filter fun e=>!zel ln e
def D1(els:List D)(ln:D->Nat)(h:T Ob)(c Mb:Nat)(j:Nat)(s:St):Prop:=∃rows,s.tm.get 0=some (.sl Mb 0 els.length 1 els.length true)/\s.tm.get 1=some (.f (.fn 99))/\s.tm.get 5=some (.f (.i .i64 ((nel ln (els.take j)).length:Int)))/\s.tm.get 6=some (.f (.i .i64 j))/\s.h.get Mb=some (.arr 1 0 rows)/\rows.length=els.length/\
 rows.take (nel ln (els.take j)).length=(nel ln (els.take j)).map (fun e=>[e])/\(∀n (hn:n<els.length),j<=n->rows[n]? =some [els[n]])/\(nel ln (els.take j)).length<j/\(∀id,id<c->id≠Mb->s.h.get id=h.get id)/\c<=s.c/\hd8 rows=false/\(∀n,n<els.length->∃x,rows[n]? =some [x])/\s.lw<=c
def zxq(ln:D->Nat)(els:List D){j:Nat}(h:j<els.length):nel ln (els.take (j+1))=if zel ln els[j]=true then nel ln (els.take j)else nel ln (els.take j)++[els[j]]:=by
 unfold nel;rw[Z106,Z0 h,Z100,Z152,Z128,Z138];cases zel ln els[j]<;>simp
def znz{e:D}{k:Nat}(h:zbv e=some k)(l:List (List D)):hd8 ([e]::l)=false:=by
 cases e with
 |f x=>cases x<;>simp[zbv]at h<;>rfl
 |_=>rfl
def zL6(rows:List (List D))(h:hd8 rows=false){e:D}{k:Nat}(he:zbv e=some k)(i:Nat):hd8 (rows.set i [e])=false:=by
 cases rows with
 |nil=>rfl
 |cons r l=>
  cases i with
  |zero=>exact znz he _
  |succ i=>
   simp only[Z190]
   revert h
   unfold hd8;split
   .simp
   .split<;>simp_all
def ix_ge{α:Type}{l:List α}{p:α->Bool}:ixP l p= -1\/∃n,∃h:n<l.length,ixP l p=n/\p l[n]=true/\∀m (h':m<n),p (l[m]'(by omega))=false:=by
 cases h:l.findIdx? p with
 |none=>exact .inl (by simp[ixP,h])
 |some n=>
  rw[Z27]at h;obtain⟨h1,h2,h3⟩ :=h;exact .inr ⟨n,h1,zhq h1 h2 (fun m hm=>by simpa using h3 m hm),h2,fun m hm=>by simpa using h3 m hm⟩
theorem eff98(els:List D)(ln:D->Nat)(hln:∀e∈els,zbv e=some (ln e))(hce:∀e∈els,e.cells=some [e])(hl:els.length<100000){h:T Ob}{c Mb:Nat}{rows:List (List D)}(gM:h.get Mb=some (.arr 1 0 rows))(hrl:rows.length=els.length)(hrw:∀n (hn:n<els.length),rows[n]? =some [els[n]])(hM:Mb<c)(h8:hd8 rows=false):
  Eff pr 98 [.sl Mb 0 els.length 1 els.length true,.f (.fn 99)] h c fun d h' _=>∃rows' lim ex,d= .sl Mb 0 (nel ln els).length 1 lim ex/\h'.get Mb=some (.arr 1 0 rows')/\rows'.take (nel ln els).length=(nel ln els).map (fun e=>[e])/\∀id,id<c->id≠Mb->h'.get id=h.get id:=by
 refine zcG za0 fn98 ?_;simp only[g98,rU];simp[rW,st0,zah];refine zbW (ro114 els ln hln hl (by simp only[rG];exact gM) hrw) ?_ ?_
 .simp only[rG];omega
 intro mx;rcases ix_ge (l:=els) (p:=zel ln)with hx|⟨i,hi,hx,hz,hm⟩
 .rw[hx];have hn:nel ln els=els:=by
   unfold nel;rw[List.filter_eq_self];intro e he
   by_cases hz:zel ln e=true
   .obtain⟨n,hn,rfl⟩ :=Z102.1 he;have:els.findIdx? (zel ln)=none:=by
     cases hf:els.findIdx? (zel ln)with
     |none=>rfl
     |some k=>simp[ixP,hf]at hx
    rw[Z44]at this;rw[this _ he]at hz;cases hz
   .simpa using hz
  have hrows:rows=els.map fun e=>[e]:=by
   apply Z108;intro n
   by_cases hn:n<els.length
   .rw[hrw n hn,zhW hn]
   .rw[Z98 (by omega),Z98 (by simp;omega)]
  simp[rW,zcp,hn];exact⟨rows,gM,by rw[hrows,<-Z19 (f:=fun e=>[e]),Z8]⟩
 .rw[hx];have hne:¬((i:Int)= -1):=by omega
  have hw:=zao i (by omega);have hn0:nel ln (els.take (i+1))=els.take i:=by
   rw[zxq ln els hi,Z52 hz];unfold nel;rw[List.filter_eq_self];intro e he;obtain⟨k,hk,rfl⟩ :=Z102.1 he;have hk':k<i:=by simp at hk;omega
   have:=hm k hk';simp only[Z158];rw[this];rfl
  have hn1:(nel ln (els.take (i+1))).length=i:=by rw[hn0];simp;omega
  simp[rW,hne,hw];refine zcN (fun k s=>∃j,j<=els.length/\k=els.length - j/\D1 els ln h c Mb j s) (fun x s=>x= .exit 0/\D1 els ln h c Mb els.length s) ?_ (els.length - (i+1)) _ ?_ ?_
  .rintro k s ⟨j,hj,rfl,rows,h0,h1,h5,h6,gR,hrl,htk,hrw,hlt,hf,hc,h8,hx1,hlw⟩
   by_cases hjl:j<els.length
   .have hwj:=zao j (by omega);have e1:=hrw j hjl (Z3 _);have hle:=hln _ (Z2 hjl);have hcl:=hce _ (Z2 hjl);have hs:=zxq ln els hjl;generalize hN:nel ln (els.take j)=N at*;have hNl:N.length<els.length:=by omega
    obtain⟨x,hx2⟩ :=hx1 N.length hNl;have hwN:=zao N.length (by omega);have h8s:=zL6 rows h8 hle N.length;generalize hE:els[j]=e at*;cases hze:zel ln e with
    |true=>
     rw[hze]at hs;simp only[Z61]at hs;simp[rW,h0,h1,h5,h6,hjl,gR,e1];refine zbW (d:= .f (.b true)) (by rw[<-hze];exact zFG hle) ?_ ?_
     .simp only[rG];omega
     intro mx;simp[rW,h0,h1,h5,h6,hwj];rw[zcc];refine⟨els.length - (j+1),by omega,j+1,by omega,rfl,rows,?_⟩;rw[hs];simp[rW,h0,h1,h5,h6,gR,hrl,htk];exact⟨fun n hn hle=>hrw n hn (by omega),by omega,hf,hc,h8,hx1,hlw⟩
    |false=>
     rw[hze]at hs;simp only[Z53,Z64]at hs;simp[rW,h0,h1,h5,h6,hjl,gR,e1];refine zbW (d:= .f (.b false)) (by rw[<-hze];exact zFG hle) ?_ ?_
     .simp only[rG];omega
     intro mx;simp[rW,h0,h1,h5,h6,hwj,hwN,gR,hNl,hx2,hcl,h8,h8s];refine⟨by omega,?_⟩;rw[zcc];refine⟨els.length - (j+1),by omega,j+1,by omega,rfl,rows.set N.length [e],?_⟩;rw[hs];simp[rW,h0,h1,h5,h6,hrl];refine⟨?_,fun n hn hle2=> ?_,by omega,fun id h1 h2=> ?_,hc,h8s,fun n hn=> ?_,Z4 (zcu _ _) hlw⟩
     .rw[Z106,List.take_set_of_le (Z3 _),htk,Z141 (by omega)];rfl
     .rw[Z126 (by omega)];exact hrw n hn (by omega)
     .simp[h2,hf id h1 h2]
     .by_cases hh:N.length=n
      .subst hh;exact⟨e,by simp[hrl,hn]⟩
      .rw[Z126 hh];exact hx1 n hn
   .have:j=els.length:=by omega
    subst this;rw[Z8]at h5 htk hlt;simp[rW,h0,h1,h5,h6];refine⟨rows,?_⟩;simp[rW,h0,h1,h5,h6];exact⟨gR,hrl,htk,hrw,hlt,hf,hc,h8,hx1,hlw⟩
  .refine⟨i+1,by omega,rfl,rows,?_⟩;rw[hn0];have hmin:min i els.length=i:=by omega
   have hrows:rows=els.map fun e=>[e]:=by
    apply Z108;intro n
    by_cases hn:n<els.length
    .rw[hrw n hn,zhW hn]
    .rw[Z98 (by omega),Z98 (by simp;omega)]
   simp[rW,gM,hrl,hmin];exact⟨by rw[hrows],fun n hn _=>hrw n hn,h8,fun n hn=>⟨_,hrw n hn⟩⟩
  .rintro x s ⟨rfl,rows,h0,h1,h5,h6,gR,hrl,htk,hrw,hlt,hf,hc,h8,hx1,hlw⟩;rw[Z8]at h5 htk hlt;have hnl:(nel ln els).length<=els.length:=Z77 _ _;have hsum:(nel ln els).length+(els.length - (nel ln els).length)=els.length:=by omega
   simp[rW,h0,h1,h5,h6,hnl,hsum,h8,zAo,zrM,gR,zJX,zwP,hrl];refine⟨by omega,?_⟩;simp[rW,zcp];refine⟨?_,fun id h1 h2=> ?_⟩
   .rw[Z28 (by simp;omega),List.take_take,Z122,htk]
   .simp[h2,hf id h1 h2]
end Go.Proofs.YtflgmemhalhdbaaGreatDoor
end
