/- The program's groups of variables. -/
import Derived.Test.YtflgmemhalhdbaaGreatDoorPd
import Derived.KernelRfl
import Derived.IntWalk
import Derived.Sort.AssemblyPlain
import Derived.Sort.Row
set_option linter.all false
set_option maxRecDepth 100000
set_option maxHeartbeats 4000000
section
namespace Go.Proofs.YtflgmemhalhdbaaGreatDoor
open Go Go.Vse Go.Vse.Sm
def fn74:pr.fn 74=some g74:=by kernel_rfl
def zuh{asg:List Bool}{n:Nat}{g:List Nat}(H:Dwn g n)(l:List Nat):Dwn (zfj asg g l) n:=by
 unfold zfj;have:∀(l:List Nat) (st:Option Nat×List Nat),Dwn st.2 n->Dwn (l.foldl (zfT asg) st).2 n:=by
  intro l
  induction l with
  |nil=>intro st h;exact h
  |cons v l ih=>intro st h;exact ih _ (zEv h v)
 exact this l _ H
def zfA(asg:List Bool)(ns:List Str)(a:CQ):List Nat:=a.cs.foldl (fun g k=>zfj asg g (nums ns (ts2 k))) (a.as.foldl (fun g x=>zfj asg g (nums ns x.ts)) (List.range ns.length))
def mem(asg:List Bool)(g:List Nat)(k r:Nat):List Nat:=(List.range k).filter fun i=>!asg.getD i false&&decide (root g i=r)
def zey(asg:List Bool)(ns:List Str)(a:CQ):List (List Nat):=((List.range ns.length).map (mem asg (zfA asg ns a) ns.length)).filter fun l=>!decide (l.length=0)
def zCZ(n:Nat):Dwn (List.range n) n:=⟨by simp,fun i hi=>by simp[Z49,hi]⟩
def zhs(n k:Nat):List Nat:=List.range k++List.replicate (n - k) 0
def zC4(n k:Nat)(h:k<n):(zhs n k).set k k=zhs n (k+1):=by
 unfold zhs;rw[Z113 _ _ (by simp),Z38,Z195,Z137,show n - k=(n - (k+1))+1 by omega,Z182,Z154];simp
def zRU(l:List Nat)(i j:Nat):(iE l).set i [D.f (.i .i64 (j:Int))]=iE (l.set i j):=by simp[iE,Z117]
def zRS(l:List Nat):hd8 (iE l)=false:=by cases l<;>rfl
def W1(h:T Ob)(c S n:Nat)(k:Nat)(s:St):Prop:=
 s.tm.get 1=some (.ptr c 1 0 0)/\s.tm.get 3=some (.ptr (c+2) 1 0 0)/\s.tm.get 20=some (.f (.i .i64 n))/\s.tm.get 21=some (.f (.i .i64 k))/\s.h.get c=some (.arr 1 0 [[.ptr S 11 0 0]])/\s.h.get (c+1)=some (.arr 1 0 (iE (zhs n k)))/\s.h.get (c+2)=some (.arr 1 0 [[.sl (c+1) 0 n 1 n true]])/\Frm h s.h c/\s.c=c+3/\s.lw=c
def clo(c:Nat):D:= .fn 97 [] [.ptr c 1 0 0,.ptr (c+3) 1 0 0,.ptr (c+2) 1 0 0]
def W2(asg:List Bool)(ns:List Str)(h:T Ob)(c S M A:Nat)(g:List Nat)(s:St):Prop:=
 (s.tm.get 1=some (.ptr c 1 0 0)/\s.tm.get 5=some (.ptr (c+3) 1 0 0)/\s.tm.get 6=some (clo c))/\CAt asg ns g s.h s.c S M A (c+1) (c+2) c (c+3)/\Frm h s.h c/\c+4<=s.c/\Dwn g ns.length/\s.lw<=c
def CAt.up{asg:List Bool}{ns:List Str}{g:List Nat}{h h':T Ob}{c c' S M A G G0 B FB:Nat}(H:CAt asg ns g h c S M A G G0 B FB)(hf:∀id,id<c->h'.get id=h.get id)(hc:c<=c'):CAt asg ns g h' c' S M A G G0 B FB:=by
 obtain⟨x1,y1,z1,z2,z3,z4,z5,z6,z7,z8,z9⟩ :=H;exact⟨x1.up hf hc,y1.up hf hc,by rw[hf _ x1.bS];exact z1,by rw[hf _ z4];exact z2,z3,by omega,by rw[hf _ z6];exact z5,by omega,by rw[hf _ z8];exact z7,by omega,z9⟩
def CAt.lo{asg:List Bool}{ns:List Str}{g:List Nat}{h:T Ob}{c c' S M A G G0 B FB:Nat}(H:CAt asg ns g h c S M A G G0 B FB)(b1:S<c')(b2:M<c')(b3:A<c')(b4:G<c')(b5:G0<c')(b6:B<c')(b7:FB<c'):CAt asg ns g h c' S M A G G0 B FB:=by
 obtain⟨⟨x1,x2,x3,x4⟩,⟨y1,y2,y3,y4⟩,z1,z2,z3,z4,z5,z6,z7,z8,z9⟩ :=H;exact⟨⟨x1,x2,b1,b2⟩,⟨y1,y2,b5,b4⟩,z1,z2,z3,b3,z5,b6,z7,b7,z9⟩
theorem zfm{h:T Ob}{lo c es byt:Nat}{d:D}{els new:List (List D)}{rd:List Nat}{K:Rs->Prop}(hg:Gro h lo c es d els)(hlo:lo<=c)(hlen:els.length+new.length<=1000000)(hb:byt<=1000)
  (hK:∀r:Rs,zaq r.c r.wr=true->Gro (wrT h r.wr) lo r.c es r.d (els++new)->c<=r.c->(∀id,id<c->d.oid≠some id->(wrT h r.wr).get id=h.get id)->(∀x,r.d.oid=some x->x=c\/d.oid=some x)->K r):oB (zbr es byt h.get c d new rd) K:=by
 obtain⟨r,h1,h2,h3,h4,h5,h6,h7,h8⟩ :=zq9 (byt:=byt) (rd:=rd) hg hlo hlen hb;rw[h1];exact hK r h2 h3 h4 h5 h8
def zE9(ln:D->Nat)(els:List D)(ms:List (List Nat))(hl:els.length=ms.length)(hp:∀p∈els.zip ms,ln p.1=p.2.length):∃W:List (D×List Nat),(∀p∈W,p∈els.zip ms)/\nel ln els=W.map (·.1)/\ms.filter (fun l=>!decide (l.length=0))=W.map (·.2):=by
  refine⟨(els.zip ms).filter fun p=>!decide (p.2.length=0),fun p h=>(Z58.1 h).1,?_,?_⟩
  . have e:els=(els.zip ms).map (·.1):=(List.map_fst_zip (by omega)).symm;unfold nel
    conv=>lhs;rw[e]
    rw[List.filter_map]
    congr 1
    apply List.filter_congr;intro p h;simp only[Function.comp_apply,zel,hp p h]
  . have e:ms=(els.zip ms).map (·.2):=(List.map_snd_zip (by omega)).symm
    conv=>lhs;rw[e]
    rw[List.filter_map];rfl
def M1(asg:List Bool)(ns:List Str)(g:List Nat)(h:T Ob)(c S M A Mb:Nat)(k:Nat)(s:St):Prop:=∃els:List D,els.length=ns.length/\(s.tm.get 1=some (.ptr c 1 0 0)/\s.tm.get 5=some (.ptr (c+3) 1 0 0)/\s.tm.get 11=some (.sl Mb 0 ns.length 1 ns.length true)/\s.tm.get 72=some (.f (.i .i64 ns.length))/\s.tm.get 73=some (.f (.i .i64 k)))/\CAt asg ns g s.h s.c S M A (c+1) (c+2) c (c+3)/\Frm h s.h c/\s.h.get Mb=some (.arr 1 0 (els.map fun e=>[e]))/\Mb<s.c/\c+4<=Mb/\(∀r (hr:r<els.length),Gro s.h (Mb+1) s.c 1 els[r] (iE (mem asg g k r)))/\(∀r r' (hr:r<els.length) (hr':r'<els.length),r≠r'->∀x,els[r].oid=some x->els[r'].oid≠some x)/\s.lw<=c
def zMh(asg:List Bool)(g:List Nat)(k r:Nat):mem asg g (k+1) r=mem asg g k r++if asg.getD k false=false/\root g k=r then[k]else[]:=by
 unfold mem;rw[Z137,Z100,Z128,Z138]
 by_cases h1:asg.getD k false=false<;>by_cases h2:root g k=r<;>simp[h1,h2]
def zxj(asg:List Bool)(g:List Nat)(k r:Nat):(mem asg g k r).length<=k:=by
 have:=Z77 (fun i=>!asg.getD i false&&decide (root g i=r)) (List.range k);simpa [mem]using this
def RdG(h':T Ob)(c c':Nat)(d:D)(G:List (List Nat)):Prop:=∃(Mb:Nat) (rows:List (List D)) (lim:Nat) (ex:Bool) (es:List D),d= .sl Mb 0 G.length 1 lim ex/\h'.get Mb=some (.arr 1 0 rows)/\Mb<c'/\c<=Mb/\rows.take G.length=es.map (fun e=>[e])/\es.length=G.length/\∀i (h1:i<es.length) (h2:i<G.length),RdS h' c' es[i] G[i]/\(∀x,es[i].oid=some x->c<=x)
theorem eff74{a b:CQ}{ns:List Str}{im:List Trm}{asg:List Bool}{dA dC dT:D}{h:T Ob}{c S M I A:Nat}(H:SAt a b ns im asg dA dC dT h c S M I A)(ha:CqSm a)(hns:[]∉ns)(hnl:ns.length<=168):
  Eff pr 74 [.ptr S 11 0 0] h c fun d h' c'=>Frm h h' c/\RdG h' c c' d (zey asg ns a):=by
 refine zcG za0 fn74 ?_;simp only[g74,rU];have gS:=H.gS;have hbS:=H.bS;have hbM:=H.bM;have hbA:=H.bA;have nS:¬S=c:=by omega
 have m1:(ns.length<=zak)=True:=za2 (by omega);have m2:(ns.length*8<=zak)=True:=za2 (by omega);have m3:(ns.length*24<=zak)=True:=za2 (by omega);simp[rW,st0,zah,gS,nS,zbN,zqH,m1,m2];refine zdo ns.length (W1 h c S ns.length) (fun x s=>x= .exit 0/\W1 h c S ns.length ns.length s) ?_ ?_ _ ?_ ?_
 .rintro k s hk ⟨h1,h3,h20,h21,g0,g1,g2,hf,ec,el⟩;have hw:=zao k (by omega);have e1:(iE (zhs ns.length k))[k]? =some [D.f (.i .i64 (((zhs ns.length k).getD k 0:Nat):Int))]:=by
   have:k< (zhs ns.length k).length:=by simp[zhs];omega
   rw[zpV _ _ this];simp[Z49,Z0 this]
  have e2:=zC4 _ _ hk;simp[rW,h1,h3,h20,h21,hk,g2,g1,e1,zRU,e2,zcs,zRS,ec,hw,W1,g0,el];refine⟨fun id hid=> ?_,?_⟩
  .rw[TG,Z50 (by omega)];exact hf id hid
  .simp (disch:=omega) only[za3,za9]
 .rintro s ⟨h1,h3,h20,h21,g0,g1,g2,hf,ec,el⟩;simp[rW,h1,h3,h20,h21,W1,g0,g1,g2,ec,el];exact hf
 .have x1:¬c=c+1+1:=by omega
  simp[rW,W1,x1];refine⟨by simp[zhs,iE],fun id hid=> ?_,?_⟩
  .simp only[TG]
   repeat rw[Z50 (by omega)]
  .simp (disch:=omega) only[za3,za9]
 .rintro x s ⟨rfl,h1,h3,h20,h21,g0,g1,g2,hf,ec,el⟩;have gS2:s.h.get S=_:=(hf S hbS).trans gS;have gA2:s.h.get A=_:=(hf A hbA).trans H.gA;have gM2:s.h.get M=_:=(hf M hbM).trans H.gM;have hr:zhs ns.length ns.length=List.range ns.length:=by simp[zhs]
  rw[hr]at g1;have nSc:¬S=s.c:=by omega
  have nc:¬c=s.c:=by omega
  have n1:¬c+1=s.c:=by omega
  have n2:¬c+2=s.c:=by omega
  simp[rW,h1,h3,h20,h21,gS2,g0,nSc,nc,zeu];refine zeO a.as (fun g x=>zfj asg g (nums ns x.ts)) (List.range ns.length) (fun n g s=>W2 asg ns h c S M A g s/\s.tm.get 34=some (.f (zaS a))/\s.tm.get 35=some (.f (.i .i64 a.as.length))/\s.tm.get 36=some (.f (.i .i64 n))) (fun x s=>x= .exit 2/\W2 asg ns h c S M A (a.as.foldl (fun g x=>zfj asg g (nums ns x.ts)) (List.range ns.length)) s) ?_ ?_ _ ?_ ?_
  .rintro n g s hn hg ⟨⟨⟨h1,h5,h6⟩,HC,hf,hc,hd,hlw⟩,h34,h35,h36⟩;have hw:=zao n (by have:=ha.sa;omega);have hst:=ha.st _ (Z2 hn);generalize hA:a.as[n]=X at hst|-;have hA':a.as[n]? =some X:=by rw[Z0 hn,hA]
   simp[rW,h1,h5,h6,h34,h35,h36,hn,zeK,hA',hA,atE,clo];refine zer rfl rfl (zH6 (HC.up ?_ ?_) hns hd (by omega) (by omega) (by omega) (by omega) (by omega) X.ts (.inl rfl) (by omega)) ?_
   .intro id hid;simp only[rG];simp[TG,show id≠s.c by omega]
   .simp only[rG];omega
   .intro d' h' c' lw mx hp hcc;obtain⟨HC',hf'⟩ :=hp;simp only[rG]at hf' hcc;simp[rW,h1,h5,h6,h34,h35,h36,hw,W2,clo];refine⟨HC',fun id hid=> ?_,by omega,zuh hd _,(by refine Z4 (Z65 _ _) ?_;(repeat refine Z4 (zcu _ _) ?_);exact hlw)⟩;rw[hf' id (by omega) (by omega)];simp[TG,show id≠s.c by omega,hf id hid]
  .rintro s ⟨⟨⟨h1,h5,h6⟩,HC,hf,hc,hd,hlw⟩,h34,h35,h36⟩;simp[rW,h1,h5,h6,h34,h35,h36,W2];exact⟨HC,hf,hc,hd,hlw⟩
  .simp[rW,h1,h3,h20,h21,W2,clo,ec];refine⟨⟨⟨⟨0,_,Eq.trans ?_ gS2,rfl⟩,?_,by omega,by omega⟩,⟨?_,?_,by omega,by omega⟩,⟨0,_,Eq.trans ?_ gS2,rfl⟩,?_,H.lA,by omega,?_,by omega,?_,by omega,by omega⟩,fun id hid=> ?_,zCZ _,Z4 (zcu _ _) (Z4 (zcu _ _) (Z198 el))⟩
   .simp only[TG];(repeat rw[Z50 (by omega)])
   .simp only[TG];(repeat rw[Z50 (by omega)]);exact gM2
   .simp only[TG];(repeat rw[Z50 (by omega)]);exact g2
   .simp only[TG];(repeat rw[Z50 (by omega)]);exact g1
   .simp only[TG];(repeat rw[Z50 (by omega)])
   .simp only[TG];(repeat rw[Z50 (by omega)]);exact gA2
   .simp only[TG];(repeat rw[Z50 (by omega)]);exact g0
   .simp[TG]
   .simp only[TG];(repeat rw[Z50 (by omega)]);exact hf id hid
  .rintro x s ⟨rfl,⟨h1,h5,h6⟩,HC,hf,hc,hd,hlw⟩;have hg1:zfA asg ns a=a.cs.foldl (fun g k=>zfj asg g (nums ns (ts2 k))) (a.as.foldl (fun g x=>zfj asg g (nums ns x.ts)) (List.range ns.length)):=rfl;generalize a.as.foldl (fun g x=>zfj asg g (nums ns x.ts)) (List.range ns.length)=g1 at HC hd hg1|-;have gB:=HC.gB;have gS3:s.h.get S=_:=(hf S hbS).trans gS;have nSc:¬S=s.c:=by omega
   simp[rW,h1,h5,h6,gB,gS3,zhH];refine zeO a.cs (fun g k=>zfj asg g (nums ns (ts2 k))) g1 (fun n g s=>W2 asg ns h c S M A g s/\s.tm.get 48=some (.f (zaQ a))/\s.tm.get 49=some (.f (.i .i64 a.cs.length))/\s.tm.get 50=some (.f (.i .i64 n))) (fun x s=>x= .exit 4/\W2 asg ns h c S M A (zfA asg ns a) s) ?_ ?_ _ ?_ ?_
   .rintro n g s hn hg ⟨⟨⟨h1,h5,h6⟩,HC,hf,hc,hd,hlw⟩,h48,h49,h50⟩;have hw:=zao n (by have:=ha.sc;omega);generalize hA:a.cs[n]=K;have hA':a.cs[n]? =some K:=by rw[Z0 hn,hA]
    simp[rW,h1,h5,h6,h48,h49,h50,hn,zkG,hA',hA,cmF,tmE,clo];refine zer rfl rfl (zH6 (HC.up ?_ ?_) hns hd (by omega) (by omega) (by omega) (by omega) (by omega) (ts2 K) (.inr (.inr ⟨s.c+1,2,true,zaH (ts2 K),0,rfl,?_,rfl,?_⟩)) (by simp[ts2])) ?_
    .intro id hid;simp only[rG];simp[TG,show id≠s.c by omega,show id≠s.c+1 by omega]
    .simp only[rG];omega
    .simp only[rG];simp[TG,ts2,zaH,tmE]
    .simp only[rG];omega
    .intro d' h' c' lw mx hp hcc;obtain⟨HC',hf'⟩ :=hp;simp only[rG]at hf' hcc;simp[rW,h1,h5,h6,h48,h49,h50,hw,W2,clo];refine⟨HC',fun id hid=> ?_,by omega,zuh hd _,(by refine Z4 (Z65 _ _) ?_;(repeat refine Z4 (zcu _ _) ?_);exact hlw)⟩;rw[hf' id (by omega) (by omega)];simp[TG,show id≠s.c by omega,show id≠s.c+1 by omega,hf id hid]
   .rintro s ⟨⟨⟨h1,h5,h6⟩,HC,hf,hc,hd,hlw⟩,h48,h49,h50⟩;rw[<-hg1]at HC hd;simp[rW,h1,h5,h6,h48,h49,h50,W2];exact⟨HC,hf,hc,hd,hlw⟩
   .simp[rW,h1,h5,h6,W2];exact⟨HC,hf,hc,hd,hlw⟩
   .rintro x s ⟨rfl,⟨h1,h5,h6⟩,HC,hf,hc,hd,hlw⟩;have gB:=HC.gB;have gS3:s.h.get S=_:=(hf S hbS).trans gS;have hdg:=hd;generalize hgt:zfA asg ns a=g at HC hd hdg;simp[rW,h1,h5,h6,gB,gS3,zbN,zqH,m1,m3];have nSc:¬S=s.c:=by omega
    have nc:¬c=s.c:=by omega
    simp[rW,h1,h5,h6,gB,gS3,zbN,zqH,m1,m3,nSc,nc];refine zdo ns.length (M1 asg ns g h c S M A s.c) (fun x s'=>x= .exit 6/\M1 asg ns g h c S M A s.c ns.length s') ?_ ?_ _ ?_ ?_
    .rintro k s' hk ⟨els,hel,⟨h1,h5,h11,h72,h73⟩,HC,hf2,gM,hM,hM4,hgro,hdis,hlw⟩;have hw:=zao k (by omega);have gB:=HC.gB;have gF:=HC.gF;obtain⟨ro,cells,gS4,gS5⟩ :=HC.sA;have gA:=HC.gA;have hka:k<asg.length:=by rw[HC.lA];exact hk
     have e2:=zlW asg k hka;have e3:asg.getD k false=asg[k]:=by simp[Z49,Z0 hka]
     have hrr:root g k<ns.length:=Z189 (ziX _ _) hk;have r1:=fun(H':Vse.T Ob) (c':Nat) (HH:GAt g ns.length H' c' (c+1) (c+2))=>zFE HH hdg k hk
     have hms:∀r,mem asg g (k+1) r=mem asg g k r++if asg[k]=false/\root g k=r then[k]else[]:=by intro r;rw[zMh,e3]
     generalize root g k=rr at hrr r1 hms;cases hav:asg[k]with
     |true=>
      rw[hav]at e2 hms;simp[rW,h1,h5,h11,h72,h73,hk,gB,gS4,gS5,gA,e2,hw];refine⟨els,hel,?_⟩;simp[rW,h1,h5,h11,h72,h73,gM];refine⟨HC,hf2,hM,hM4,fun r hr=> ?_,hdis,hlw⟩;have:=hgro r hr;rw[hms r];simpa using this
     |false=>
      rw[hav]at e2 hms;have hre:rr<els.length:=by omega
      have hg:=hgro rr hre;have hml:=zxj asg g k rr;have erow:=zhW hre;have hcl:=zbj hg;simp[rW,h1,h5,h11,h72,h73,hk,gB,gS4,gS5,gA,e2];refine za5 ?_;simp[rW,h1,h5,h11,h72,h73,gF];refine zbS (r1 _ _ (HC.ga.up ?_ ?_)) ?_ ?_ ?_
      .intro id hid;simp only[rG]
      .simp only[rG];omega
      .simp only[rG];omega
      .simp[ckG,ck1]
      intro mx1 hmx1;simp only[rG]at hmx1;simp[rW,h1,h5,h11,h72,h73,gF];refine zbS (r1 _ _ (HC.ga.up ?_ ?_)) ?_ ?_ ?_
      .intro id hid;simp only[rG]
      .simp only[rG];omega
      .simp only[rG];omega
      .simp[ckG,ck1]
      intro mx2 hmx2;simp only[rG]at hmx2;simp[rW,h1,h5,h11,h72,h73,gM,hrr,erow];refine zfm (zbh hg (by omega) fun _ _ _=>rfl) (by omega) (by rw[zcs];simp;omega) (by omega) ?_;intro r hr1 hr2 hr3 hr4 hr5;have hoM:els[rr].oid≠some s.c:=zbi hg (by omega);have gM2:=(hr4 s.c (by omega) hoM).trans gM;have hcl2:=zbj hr2;have hset:(els.map fun e=>[e]).set rr [r.d]=(els.set rr r.d).map fun e=>[e]:=by simp[Z117]
      have h81:hd8 (els.map fun e=>[e])=false:=by
       cases hE:els with
       |nil=>rfl
       |cons x l=>
        have h0:0<els.length:=by rw[hE];simp
        have:=zdv (hgro 0 h0);simp only[hE,List.getElem_cons_zero]at this;exact znz this _
      generalize hrows:(els.map fun e=>[e])=rows at gM2 erow hset h81;refine⟨hr1,?_⟩;simp[rW,gM2,erow,hcl2,h81];refine⟨by omega,els.set rr r.d,by simpa using hel,?_⟩;rw[<-hset];simp[rW,h1,h5,h11,h72,h73,hw];have hlow:∀id,id<c+4->((wrT s'.h r.wr).set s.c (Ob.arr 1 0 (rows.set rr [r.d]))).get id=s'.h.get id:=by
       intro id hid;rw[TG,Z50 (by omega),hr4 id (by omega) (zbi hg (by omega))]
      refine⟨(HC.lo (c':=c+4) (by omega) (by omega) (by omega) (by omega) (by omega) (by omega) (by omega)).up (fun id hid=>hlow id hid) (by omega),fun id hid=> ?_,by omega,hM4,fun q hq=> ?_,fun q q' hq hq' hne x hx=> ?_,?_⟩
      .rw[hlow id (by omega),hf2 id hid]
      .have hq:q<els.length:=by first|exact hq|simpa using hq
       rw[hms q]
       by_cases hqr:q=rr
       .subst hqr;simp only[Z78,and_self,Z61];rw[<-zuU];refine zbh hr2 (by omega) fun id h1 _=> ?_
        rw[TG,Z50 (by omega)]
       .have hqr':¬rr=q:=fun e=>hqr e.symm
        simp only[Z71 hqr',hqr',and_false,Z64,Z23];have hgq:=hgro q hq;rcases hgq with hgq|⟨id,ro,e1,e2,e3,e4,e5,e6⟩
        .exact .inl hgq
        .refine .inr ⟨id,ro,e1,e2,?_,e4,e5,by omega⟩;rw[TG,Z50 (by omega),hr4 id (by omega) ?_]
         .exact e3
         .exact hdis q rr hq hre hqr id (by rw[e1];rfl)
      .have hq:q<els.length:=by first|exact hq|simpa using hq
       have hq':q'<els.length:=by first|exact hq'|simpa using hq'
       by_cases hqr:rr=q
       .subst hqr;have hqr':¬rr=q':=hne;simp only[Z78]at hx;simp only[Z71 hqr'];rcases hr5 x hx with rfl|hx
        .intro e;have:=hgro q' hq';rcases this with⟨e1,_⟩ |⟨id,ro,e1,_,_,_,_,e6⟩
         .rw[e1]at e;simp[D.oid]at e
         .rw[e1]at e;simp[D.oid]at e;omega
        .exact hdis rr q' hq hq' hqr' x hx
       .simp only[Z71 hqr]at hx
        by_cases hqr':rr=q'
        .subst hqr';simp only[Z78];intro e;rcases hr5 x e with rfl|e
         .rcases hgro q hq with⟨e1,_⟩ |⟨id,ro,e1,_,_,_,_,e6⟩
          .rw[e1]at hx;simp[D.oid]at hx
          .rw[e1]at hx;simp[D.oid]at hx;omega
         .exact hdis q rr hq hq' hne x hx e
        .simp only[Z71 hqr'];exact hdis q q' hq hq' hne x hx
      .refine Z4 (zcu _ _) ?_
       (repeat refine Z4 (zcu _ _) ?_)
       exact hlw
    .rintro s' ⟨els,hel,⟨h1,h5,h11,h72,h73⟩,HC,hf2,gM,hM,hM4,hgro,hdis,hlw⟩;simp[rW,h1,h5,h11,h72,h73];refine⟨els,hel,?_⟩;simp[rW,h1,h5,h11,h72,h73,gM];exact⟨HC,hf2,hM,hM4,hgro,hdis,hlw⟩
    .refine⟨List.replicate ns.length (.f .nils),by simp,?_⟩;simp[rW,h1,h5,h6];refine⟨HC.up (fun id hid=> ?_) (by omega),fun id hid=> ?_,hc,fun r hr=> .inl ⟨rfl,by simp[mem,iE]⟩,Z4 (zcu _ _) hlw⟩
     .rw[TG,Z50 (by omega)]
     .rw[TG,Z50 (by omega)];exact hf id hid
    .rintro x s' ⟨rfl,els,hel,⟨h1,h5,h11,h72,h73⟩,HC,hf2,gM,hM,hM4,hgro,hdis,hlw⟩;have hns:ns.length=els.length:=hel.symm;have hnm:(List.range ns.length).map (mem asg g ns.length)=(List.range els.length).map (mem asg g els.length):=by rw[hns]
     have hln:∀r (hr:r<els.length),zbv els[r]=some (mem asg g els.length r).length:=by
      intro r hr;have:=zdv (hgro r hr);rw[zcs,hns]at this;exact this
     have hlnA:∀e∈els,zbv e=some ((zbv e).getD 0):=by
      intro e he;obtain⟨r,hr,rfl⟩ :=Z102.1 he;rw[hln r hr];rfl
     have hceA:∀e∈els,e.cells=some [e]:=by
      intro e he;obtain⟨r,hr,rfl⟩ :=Z102.1 he;exact zbj (hgro r hr)
     have h81:hd8 (els.map fun e=>[e])=false:=by
      cases hE:els with
      |nil=>rfl
      |cons x l=>exact znz (hlnA x (by rw[hE];simp)) _
     obtain⟨W,hW1,hW2,hW3⟩ :=zE9 (fun e=>(zbv e).getD 0) els ((List.range els.length).map (mem asg g els.length)) (by simp) (by
      intro p hp;obtain⟨r,hr,rfl⟩ :=Z102.1 hp;have hr':r<els.length:=by simp at hr;omega
      simp only[Z109,Z206,List.getElem_range];rw[hln r hr'];rfl)
     have hG:zey asg ns a=W.map (·.2):=by
      unfold zey;rw[hgt,hnm,hW3]
     simp[rW,h1,h5,h11,h72,h73];rw[hns];refine zer ?_ ?_ (eff98 els (fun e=>(zbv e).getD 0) hlnA hceA (by omega) gM (by simp) (fun n hn=>zhW hn) hM h81) ?_
     .simp only[rG]
     .simp only[rG]
     intro d' h' c' lw mx hp hcc;obtain⟨rows',lim,ex,hd1,hd2,hd3,hd4⟩ :=hp;have hfin:Frm h h' c/\RdG h' c c' d' (zey asg ns a):=by
      refine⟨fun id hid=> ?_,s.c,rows',lim,ex,nel (fun e=>(zbv e).getD 0) els,?_,hd2,by omega,by omega,?_,?_,fun i h1 h2=> ?_⟩
      .rw[hd4 id (by omega) (by omega),hf2 id hid]
      .rw[hd1,hW2,hG];simp
      .rw[hG,Z19,<-Z19 (f:=fun x:D×List Nat=>x.1),<-hW2];exact hd3
      .rw[hW2,hG];simp
      .have hi:i<W.length:=by rw[hW2]at h1;simpa using h1
       have e1:(nel (fun e=>(zbv e).getD 0) els)[i]=W[i].1:=by simp[hW2]
       have e2:(zey asg ns a)[i]=W[i].2:=by simp[hG]
       rw[e1,e2];obtain⟨r,hr,hr2⟩ :=Z102.1 (hW1 _ (Z2 hi));have hr':r<els.length:=by simp at hr;omega
       rw[<-hr2];simp only[Z109,Z206,List.getElem_range];have hgq:=hgro r hr';rw[hns]at hgq;rcases hgq with⟨g1,g2⟩ |⟨id,ro,g1,g2,g3,g4,g5,g6⟩
       .refine⟨.inl ⟨g1,zCw g2⟩,?_⟩;rw[g1];simp[D.oid]
       .refine⟨.inr ⟨id,0,(iE (mem asg g els.length r)).length,false,ro,iE (mem asg g els.length r),?_,?_,?_,by omega⟩,?_⟩
        .rw[g1,zcs]
        .rw[hd4 id g6 (by omega)];exact g3
        .rw[Z35,zkO]
        .rw[g1];intro x hx;simp[D.oid]at hx;omega
     simp[rW,zcp];refine⟨hfin,fun _ hF=> ?_⟩;rw[hd1]at hF;simp[D.isF]at hF
def fn87:pr.fn 87=some g87:=by kernel_rfl
def ro88(a b:Trm)(ha:zaL a)(hb:zaL b){h:T Ob}{c:Nat}:RO pr 88 [.ag (tmD a),.ag (tmD b)] h c (.f (.b (zb2 a b))):=by
 unfold zb2;refine zcA za0 fn88 rfl ?_;simp only[g88,rU];have q:=fun k=>zav (k:=k) (zHS a b ha hb)
 simp only[tmE]at q;simp[rW,st0,zah,tmD,q,zaO];simp (disch:=omega) only[za3,za9]
def zfU(p:Trm):List Trm->List Trm
 |[]=>[]
 |b::l=>if zb2 b p=true then zfU b l else b::zfU b l
def cpt:List Trm->List Trm
 |[]=>[]
 |a::l=>a::zfU a l
theorem zr4(b:Trm):∀(l:List Trm) (p:Trm),zfU p (l++[b])=zfU p l++if zb2 b ((p::l).getLast (by simp))=true then[]else[b]
 |[],p=>by
  simp only[Z29,zfU,List.getLast_singleton]
  by_cases h:zb2 b p=true<;>simp[h]
 |x::l,p=>by
  have e:(p::x::l).getLast (by simp)=(x::l).getLast (by simp):=by simp
  simp only[Z30,zfU,e];rw[zr4 b l x]
  by_cases h:zb2 x p=true<;>simp[h]
def zq0(l:List Trm)(m:Nat)(h:m+1<l.length):cpt (l.take (m+2))=cpt (l.take (m+1))++if zb2 l[m+1] l[m]=true then[]else[l[m+1]]:=by
 cases l with
 |nil=>simp at h
 |cons a l=>
  simp only[Z181,cpt];have h':m<l.length:=by simpa using h
  rw[Z106,Z0 h',Z152,zr4];simp only[Z30,List.getElem_cons_succ];have e:(a::l.take m).getLast (by simp)=(a::l)[m]'(by simp;omega):=by
   rw[List.getLast_eq_getElem];simp only[Z24,Z42,Z74 (Z111 h'),Z153];cases m with
   |zero=>rfl
   |succ m=>simp
  rw[e]
def zBJ(l:List Trm):(cpt l).length<=l.length:=by
  have:∀(l:List Trm) (p:Trm),(zfU p l).length<=l.length:=by
    intro l
    induction l with
    |nil=>intro p;simp[zfU]
    | cons b l ih => intro p;unfold zfU;split
                     . exact Nat.le_succ_of_le (ih b)
                     . simp;exact ih b
  cases l with
  |nil=>simp[cpt]
  |cons a l=>simp[cpt];exact this l a
def zBI(l:List Trm)(h:∀m (hm:m+1<l.length),zb2 l[m+1] l[m]=false):∀n,n<=l.length->cpt (l.take n)=l.take n:=by
 intro n
 induction n with
 |zero=>intro _;rfl
 |succ n ih=>
  intro hn;cases n with
  |zero=>
   cases l with
   |nil=>rfl
   |cons a l=>rfl
  |succ n=>
   rw[zq0 l n (by omega),ih (by omega),h n (by omega)];simp only[Z53,Z64];rw[Z106 (i:=n+1),Z0 (by omega),Z152]
def K1(l:List Trm)(m id:Nat)(h:T Ob)(c:Nat)(k':Nat)(s:St):Prop:=∃(j k:Nat) (els:List (List D)),m<=j/\j<l.length/\m+k=j+1/\k'=l.length - j/\(s.tm.get 0=some (.sl id 0 l.length 4 l.length false)/\s.tm.get 1=some (.f (.fn 88))/\s.tm.get 6=some (.sl id m (l.length - m) 4 l.length false)/\s.tm.get 7=some (.f (.i .i64 (k:Int)))/\s.tm.get 5=some (.f (.i .i64 ((cpt (l.take (j+1))).length:Int))))/\s.h.get id=some (.arr 4 0 els)/\els.length=l.length/\els.take (cpt (l.take (j+1))).length=zaH (cpt (l.take (j+1)))/\(∀q,j<=q->els[q]? =(zaH l)[q]?)/\(cpt (l.take (j+1))).length<=j/\(∀j,j<c->j≠id->s.h.get j=h.get j)/\c<=s.c/\s.lw<=s.c/\hd8 els=false/\(∀(q:Nat) (x:List D),els[q]? =some x->x.length=4)
theorem eff87(l:List Trm)(hok:∀t∈l,zaL t)(hl:l.length<100000){h:T Ob}{c id:Nat}(gI:h.get id=some (.arr 4 0 (zaH l)))(hid:id<c):
  Eff pr 87 [.sl id 0 l.length 4 l.length false,.f (.fn 88)] h c fun d h' c'=>∃els,d= .sl id 0 (cpt l).length 4 l.length false/\h'.get id=some (.arr 4 0 els)/\els.take (cpt l).length=zaH (cpt l)/\∀j,j<c->j≠id->h'.get j=h.get j:=by
 refine zcG za0 fn87 ?_;simp only[g87,rU]
 by_cases h2:l.length<2
 .have hc:cpt l=l:=by
   match l,h2 with
   |[],_=>rfl
   |[a],_=>rfl
  have h2':(l.length:Int)<2:=by omega
  simp[rW,st0,zah,h2',hc,zcp];exact⟨_,gI,zlF l⟩
 .have h2':¬(l.length:Int)<2:=by omega
  simp[rW,st0,zah,h2'];have hlt:∀n,n< (l.tail.zip l).length->n+1<l.length:=by intro n hn;simp at hn;omega
  have hzl:(l.tail.zip l).length=l.length - 1:=by simp
  refine zfa (l.tail.zip l) (fun p=>zb2 p.1 p.2) (fun n s=>s.tm.get 0=some (.sl id 0 l.length 4 l.length false)/\s.tm.get 1=some (.f (.fn 88))/\(∃m:Nat,m=n+1/\s.tm.get 5=some (.f (.i .i64 (m:Int))))/\(∀q (hq:q+1<l.length),q<n->zb2 l[q+1] l[q]=false)/\s.h=h/\c<=s.c/\s.lw=c) (fun x s=>x= .exit 0/\s.tm.get 0=some (.sl id 0 l.length 4 l.length false)/\s.h=h) (fun n x s=>x= .ret/\∃els,s.tm.get 4=some (.sl id 0 (cpt l).length 4 l.length false)/\s.h.get id=some (.arr 4 0 els)/\els.take (cpt l).length=zaH (cpt l)/\∀j,j<c->j≠id->s.h.get j=h.get j) ?_ ?_ _ ?_ ?_ ?_
  .rintro n s hn ⟨h0,h1,⟨m,hm,h5⟩,hall,eh,hc,el⟩;have hn1:=hlt n hn;have hml:m<l.length:=by omega
   have hw:=zao m (by omega);have e1:=zfX l m hml;have e0:=zfX l n (by omega);have hsub:IntKind.i64.wrap ((m:Int) - 1)=(n:Int):=by
    have:(m:Int) - 1=(n:Int):=by omega
    rw[this];exact IntWalk.i64_in _ (by omega)
   have o1:=hok _ (Z2 hml);have o0:=hok _ (Z2 (show n<l.length by omega));have e2:(l.tail.zip l)[n]=(l[m],l[n]):=by subst hm;simp
   rw[e2];have hnl:n<l.length:=by omega
   have h60:=fun(H':Vse.T Ob) (c':Nat)=>ro88 l[m] l[n] o1 o0 (h:=H') (c:=c')
   simp only[tmD]at e1 e0 h60;generalize hL1:l[m]=t1 at*;generalize hL0:l[n]=t0 at*;simp[rW,h0,h1,h5,hml];refine za5 ?_;simp[rW,h0,h1,h5,eh,gI,hml,hnl,hsub,e1,e0];refine zbS (d:= .f (.b (zb2 t1 t0))) (h60 _ _) ?_ ?_ ?_
   .simp only[rG];omega
   .simp[ckG,ck1]
   intro mx hmx;simp only[rG]at hmx;cases hs:zb2 t1 t0 with
   |false=>
    simp[rW,h0,h1,h5,hw,eh,el];refine⟨by omega,fun q hq hqn=> ?_,by omega⟩
    by_cases hqe:q=n
    .subst hqe;have:l[q+1]=t1:=by subst hm;exact hL1
     rw[this,hL0,hs]
    .exact hall q hq (by omega)
   |true=>
    have hmle:m<=l.length:=by omega
    have hcm:cpt (l.take (m+1))=l.take m:=by
     have e3:=zq0 l n (by omega);have hidl:=zBI (l.take m) (fun q hq=>by
      have hq':q+1<m:=by simp at hq;omega
      simp only[Z158];exact hall q (by omega) (by omega)) m (by simp;omega)
     rw[List.take_take,Z122]at hidl;have hx:l[n+1]=t1:=by subst hm;exact hL1
     rw[hx,hL0,hs]at e3;simp only[Z61,Z23]at e3;rw[show m+1=n+2 by omega,e3,<-hm,hidl]
    simp[rW,h0,h1,h5,eh,gI,zAo,zrM,hmle];refine zcN (K1 l m id h c)
     (fun x s=>x= .exit 2/\∃els,(s.tm.get 0=some (.sl id 0 l.length 4 l.length false)/\s.tm.get 5=some (.f (.i .i64 ((cpt l).length:Int))))/\s.h.get id=some (.arr 4 0 els)/\els.length=l.length/\els.take (cpt l).length=zaH (cpt l)/\(∀j,j<c->j≠id->s.h.get j=h.get j)/\c<=s.c/\hd8 els=false) ?_ (l.length - m) _ ?_ ?_
    .rintro k' s ⟨j,k,els,hj1,hj2,hk,rfl,⟨h0,h1,h6,h7,h5⟩,gE,hel,htk,hrd,hle,hf,hc3,hl3,h8,hE4⟩
     by_cases hjl:j+1<l.length
     .have hkl:k<l.length - m:=by omega
      obtain⟨k0,hk0⟩ :∃k0,k0=k - 1:=⟨_,rfl⟩
      have hk0l:k0<l.length - m:=by omega
      have hwk:=zao k (by omega);have hsub2:IntKind.i64.wrap ((k:Int) - 1)=(k0:Int):=by
       have:(k:Int) - 1=(k0:Int):=by omega
       rw[this];exact IntWalk.i64_in _ (by omega)
      have eA:=(hrd (j+1) (by omega)).trans (zfX l (j+1) hjl);have eB:=(hrd j (Z3 _)).trans (zfX l j hj2);have oA:=hok _ (Z2 hjl);have oB':=hok _ (Z2 hj2);have hcs:=zq0 l j hjl;have hC:(cpt (l.take (j+1))).length<l.length:=by omega
      generalize hN:cpt (l.take (j+1))=N at*;have hwN:=zao N.length (by omega);have hRO:=fun(H':Vse.T Ob) (c':Nat)=>ro88 l[j+1] l[j] oA oB' (h:=H') (c:=c')
      have hxN:∃x,els[N.length]? =some x:=⟨els[N.length]'(by omega),by rw[Z0]⟩
      obtain⟨xN,hxN⟩ :=hxN;have hxl:xN.length=4:=hE4 _ _ hxN;have hset:=zbD l;generalize hT1:l[j+1]=u1 at*;generalize hT0:l[j]=u0 at*;rw[<-hk]at eA;rw[show j=m+k0 by omega]at eB;have hone:zaH [u1]=[tmD u1]:=by simp[zaH,tmE,tmD]
      simp only[tmD]at eA eB hRO hone;simp[rW,h0,h1,h6,h7,h5,hkl];refine za5 ?_;simp[rW,h0,h1,h6,h7,h5,gE,hkl,hk0l,hsub2,eA,eB];refine zbS (d:= .f (.b (zb2 u1 u0))) (hRO _ _) ?_ ?_ ?_
      .simp only[rG];omega
      .simp[ckG,ck1]
      intro mx2 hmx2;simp only[rG]at hmx2;cases hs2:zb2 u1 u0 with
      |true=>
       rw[hs2]at hcs;simp only[Z61,Z23]at hcs;simp[rW,h0,h1,h6,h7,h5,hwk];rw[zcc];refine⟨l.length - (j+1),by omega,j+1,k+1,els,by omega,hjl,by omega,rfl,?_⟩;rw[hcs];simp[rW,h0,h1,h6,h7,h5,gE,hel,htk,h8];exact⟨fun q hq=>hrd q (by omega),by omega,hf,by omega,by omega,hE4⟩
      |false=>
       rw[hs2]at hcs;simp only[Z53,Z64]at hcs;have hx4:xN.drop 4=[]:=Z25 (by omega);have h8s:hd8 (els.set N.length [D.f (F.s (tv u1)),D.f (F.i IntKind.i64 (tk u1)),D.f (F.i IntKind.i64 (tn u1)),D.f (F.s [])])=false:=by
        cases els with
        |nil=>rfl
        |cons e els=>cases hNl:N.length with
         |zero=>exact zE0 _ _ _ _
         |succ q=>
          simp only[Z190]
          revert h8
          unfold hd8;split
          .simp
          .split<;>simp_all
       simp[rW,h0,h1,h6,h7,h5,hwk,hwN,gE,hC,hkl,eA,hxN,hxl,hx4,h8];refine⟨by omega,?_⟩;rw[zcc];refine⟨l.length - (j+1),by omega,j+1,k+1,els.set N.length (tmD u1),by omega,hjl,by omega,rfl,?_⟩;rw[hcs];simp[rW,h0,h1,h6,h7,h5,hel,tmD,h8s];refine⟨?_,fun q hq=> ?_,by omega,fun j1 h1 h2=> ?_,by omega,?_,fun q x hx=> ?_⟩
       .rw[Z106,List.take_set_of_le (Z3 _),htk,Z141 (by omega),<-zk0,hone];rfl
       .rw[Z126 (by omega)];exact hrd q (by omega)
       .rw[Z50 h2];exact hf j1 h1 h2
       .exact Z4 (zcu _ _) (by omega)
       .rw[Z88]at hx;split at hx
        .split at hx
         .cases hx;rfl
         .cases hx
        .exact hE4 q x hx
     .have hje:j+1=l.length:=by omega
      have hkl:¬k<l.length - m:=by omega
      rw[hje,Z8]at h5 htk hle;simp[rW,h0,h1,h6,h7,h5,hkl];exact⟨els,gE,hel,htk,hf,hc3,h8⟩
    .refine⟨m,1,zaH l,Z3 _,hml,rfl,rfl,?_⟩;rw[hcm];have hlm:(l.take m).length=m:=by simp;omega
     simp[rW,h0,h1,h5,hlm,eh,gI,zbD,zpS];refine⟨by simp[zaH,Z150],by omega,by omega,fun q x hx=> ?_⟩;have:=Z40 hx;simp only[zaH,Z13]at this;obtain⟨y,⟨z,_,rfl⟩,rfl⟩ :=this;simp[tmE]
    .rintro x s ⟨rfl,els,⟨h0,h5⟩,gE,hel,htk,hf,hc3,h8⟩;have hcl:=zBJ l;have hsum:(cpt l).length+(l.length - (cpt l).length)=l.length:=by omega
     simp[rW,h0,h5,gE,zAo,zrM,zJX,zwP,hcl,hsum,hel,h8];refine⟨by omega,?_,fun j h1 h2=>by rw[Z50 h2,hf j h1 h2]⟩;exact htk
  .rintro s ⟨h0,h1,⟨m,hm,h5⟩,hall,eh,hc,el⟩;have hge:¬(m<l.length):=by rw[hm,hzl];omega
   simp[rW,h0,h1,h5,hge,eh]
  .simp[rW,]
  .rintro hno x s ⟨rfl,h0,eh⟩;have hc:cpt l=l:=by
    have:=zBI l (fun m hm=>by
     have:=hno (l.tail.zip l)[m] (Z2 (by simp;omega));simpa [Z109,List.getElem_tail]using this) l.length (Z3 _)
    rwa[Z8]at this
   simp[rW,h0,zcp,hc,eh];exact⟨_,gI,zlF l⟩
  .rintro n hn hp hm x s ⟨rfl,els,h4,g1,g2,g3⟩;simp[rW,h4,zcp];exact⟨els,g1,g2,g3⟩
theorem zBz:∀a:Str,Go.Op.bytesLess a a=false
 |[]=>rfl
 |x::a=>by
  simp only[Go.Op.bytesLess,zBz a,Bool.and_false,Bool.or_false,Z66];exact UInt8.lt_irrefl x
theorem zBA:∀a b c:Str,Go.Op.bytesLess a b=true->Go.Op.bytesLess b c=true->Go.Op.bytesLess a c=true
 |_,[],_,h,_=>by simp[bl_cn]at h
 |_,_::_,[],_,h=>by simp[Go.Op.bytesLess]at h
 |[],_::_,_::_,_,_=>rfl
 |x::a,y::b,z::c,h1,h2=>by
  simp only[Go.Op.bytesLess,Z116,Z15,beq_iff_eq,Z87]at h1 h2|-;rcases h1 with h1|⟨rfl,h1⟩
  .rcases h2 with h2|⟨rfl,h2⟩
   .exact .inl (UInt8.lt_trans h1 h2)
   .exact .inl h1
  .rcases h2 with h2|⟨rfl,h2⟩
   .exact .inl h2
   .exact .inr ⟨rfl,zBA a b c h1 h2⟩
theorem zBB:∀a b:Str,a≠b->Go.Op.bytesLess a b=false->Go.Op.bytesLess b a=true
 |[],[],h,_=>absurd rfl h
 |[],_::_,_,h=>by simp[Go.Op.bytesLess]at h
 |_::_,[],_,_=>rfl
 |x::a,y::b,h,h1=>by
  simp only[Go.Op.bytesLess,Bool.or_eq_false_iff,Z148,beq_eq_false_iff_ne,Z66]at h1;simp only[Go.Op.bytesLess,Z116,Z15,beq_iff_eq,Z87];obtain⟨h1,h2⟩ :=h1
  by_cases e:x=y
  .subst e;refine .inr ⟨rfl,zBB a b (fun e=>h (by rw[e])) ?_⟩;rcases h2 with h2|h2
   .exact absurd rfl h2
   .exact h2
  .refine .inl ?_;have h3:¬x.toNat<y.toNat:=h1;have h4:x.toNat≠y.toNat:=fun e2=>e (UInt8.toNat_inj.1 e2)
   show y.toNat<x.toNat
   omega
def zTm(a b:Str):zhv a b=0↔a=b:=by
 unfold zhv
 by_cases h:a=b
 .subst h;simp[zBz]
 .simp only[h,Z64,iff_false];split<;>omega
def zxI(a b:Str):zhv a b<0↔Go.Op.bytesLess a b=true:=by
 unfold zhv;split
 .rename_i h;simp[h]
 .rename_i h;simp only[h,Bool.not_eq_true]at*;split<;>simp[h]
def zQF(a b:Int):zej a b=0↔a=b:=by
 unfold zej
 by_cases h:a=b
 .simp[h]
 .simp only[h,Z64,iff_false];split<;>omega
def zug(a b:Int):zej a b<0↔a<b:=by
 unfold zej
 by_cases h:a=b
 .subst h;simp
 .simp only[h,Z64];split<;>omega
def zDt(a b:Trm):zaX a b=0↔a=b:=by
 cases a<;>cases b<;>simp[zaX,zQF,zTm]
def zfv(a b:Trm):zb2 a b=true↔a=b:=by
 unfold zb2;rw[beq_iff_eq,zDt]
def zv1(a b:Trm):zb2 a b=decide (a=b):=by
 rw[Bool.eq_iff_iff,zfv,Z87]
def tLt(a b:Trm):Prop:=zaX a b<0
def zgT(a:Trm):¬tLt a a:=by
 have:=(zDt a a).2 rfl;unfold tLt;omega
def zgV{a b c:Trm}(h1:tLt a b)(h2:tLt b c):tLt a c:=by
 unfold tLt at*;cases a<;>cases b<;>cases c<;>simp only[zaX,zug,zxI]at* <;>first|omega|exact zBA _ _ _ h1 h2
def zkY{a b:Trm}(h:a≠b)(h1:¬tLt a b):tLt b a:=by
 unfold tLt at*;cases a<;>cases b<;>simp only[zaX,zug,zxI]at*
 case var.var s t=>exact zBB _ _ (fun e=>h (by rw[e])) (by simpa using h1)
 case cst.cst s t=>have:s≠t:=fun e=>h (by rw[e]);omega
 all_goals omega
def ltT(x y:Trm):Bool:=decide (zaX x y<0)
theorem zAs:Go.Sort.SWO ltT where
 irrefl x:=by have:=zgT x;simpa [ltT,tLt]using this
 trans x y z h1 h2:=by
  have:=zgV (a:=x) (b:=y) (c:=z) (by simpa [ltT,tLt]using h1) (by simpa [ltT,tLt]using h2);simpa [ltT,tLt]using this
 ntrans x y z h1 h2:=by
  have h1:¬tLt x y:=by simpa [ltT,tLt]using h1
  have h2:¬tLt y z:=by simpa [ltT,tLt]using h2
  have:¬tLt x z:=by
   intro h3
   by_cases e:x=y
   .subst e;exact h2 h3
   .exact h2 (zgV (zkY e h1) h3)
  simpa [ltT,tLt]using this
def totT(x y:Trm)(h1:ltT x y=false)(h2:ltT y x=false):x=y:=by
 by_cases e:x=y
 .exact e
 .have h1:¬tLt x y:=by simpa [ltT,tLt]using h1
  have h2:¬tLt y x:=by simpa [ltT,tLt]using h2
  exact absurd (zkY e h1) h2
def zht(a b:Trm)(ha:zaL a)(hb:zaL b){h:T Ob}{c:Nat}:RO pr 86 [.ag (tmD a),.ag (tmD b)] h c (.f (.i .i64 (zaX a b))):=by
 refine zcA za0 fn86 rfl ?_;simp only[g86,rU];cases a with
 |cst a=>
  cases b with
  |cst b=>
   have q:=fun k=>zav (k:=k) (ztB a b)
   simp only[vF]at q;simp[rW,st0,zah,tmD,zv5,zAu,zAy,zaX,q,zaO];simp (disch:=omega) only[za3,za9]
  |var b=>
   simp only[zaL]at hb;simp[rW,st0,zah,tmD,zv5,zAu,zAy,zo6,zo3,zo4,zaX,hb,zaO];simp (disch:=omega) only[za3,za9]
 |var a=>
  cases b with
  |cst b=>
   simp only[zaL]at ha;simp[rW,st0,zah,tmD,zv5,zAu,zAy,zo6,zo3,zo4,zaX,ha,zaO];simp (disch:=omega) only[za3,za9]
  |var b=>
   simp only[zaL]at ha hb;have q:=fun k=>zav (k:=k) (ztC a b)
   simp[rW,st0,zah,tmD,zo6,zo3,zo4,zaX,ha,hb,q,zaO];simp (disch:=omega) only[za3,za9]
instance :Inhabited Trm:=⟨.cst 0⟩
def zb8(h:T Ob)(id:Nat)(d:Array Trm):Prop:=h.get id=some (.arr 4 0 (zaH d.toList))
def OkA(d:Array Trm):Prop:=∀i:Nat,zaL d[i]!
def zaK(d:Array Trm){i:Nat}(hi:i<d.size):(zaH d.toList)[i]? =some (tmD d[i]!):=by
 have:=zfX d.toList i (by simpa using hi);rw[this];simp[hi]
def zFK(d:Array Trm):(zaH d.toList).length=d.size:=by simp[zbD]
def zdq(d:Array Trm)(i j:Nat):((zaH d.toList).set i (tmD d[j]!)).set j (tmD d[i]!)=zaH (Go.Sort.swp d i j).toList:=by
 rw[zh2,zh2];simp[Go.Sort.swp,Array.toList_setIfInBounds]
def zxu{d:Array Trm}(h:OkA d)(i j:Nat):OkA (Go.Sort.swp d i j):=by
 intro k;unfold Go.Sort.swp
 by_cases h2:k=j
 .subst h2
  by_cases h1:k<d.size
  .rw[Go.Sort.getElem!_set_same _ _ _ (by simpa using h1)];exact h i
  .rw[getElem!_neg _ k (by simpa using h1)];trivial
 .rw[Go.Sort.getElem!_set_other _ _ _ _ h2]
  by_cases h3:k=i
  .subst h3
   by_cases h1:k<d.size
   .rw[Go.Sort.getElem!_set_same _ _ _ h1];exact h j
   .rw[getElem!_neg _ k (by simpa using h1)];trivial
  .rw[Go.Sort.getElem!_set_other _ _ _ _ h3];exact h k
def zhz(pr:Pr)(f:Nat)(args:List D)(h:T Ob)(c:Nat)(P:D->T Ob->Nat->Nat->Prop):Prop:=∃q,Con pr f args h c q/\P q.d q.h q.c q.lw/\c<=q.c/\q.c<=q.mx
def zuv(res:List Rv)(h:T Ob)(c:Nat)(P:D->T Ob->Nat->Nat->Prop)(x:Ex)(s:St):Prop:=
 (match x with| .exit _=>False|_=>True)/\oB (resD s res) fun d=>P d s.h s.c s.lw/\(s.lw=c->d.isF=true->P d h c c)
def zhh{res:List Rv}{h:T Ob}{c:Nat}{P:D->T Ob->Nat->Nat->Prop}{s:St}:zuv res h c P .ret s=oB (resD s res) fun d=>P d s.h s.c s.lw/\(s.lw=c->d.isF=true->P d h c c):=by simp[zuv]
def zpF{res:List Rv}{h:T Ob}{c:Nat}{P:D->T Ob->Nat->Nat->Prop}{s:St}:zuv res h c P .nrm s=oB (resD s res) fun d=>P d s.h s.c s.lw/\(s.lw=c->d.isF=true->P d h c c):=by simp[zuv]
def zfL{f:Nat}{fn:Go.Vse.Fn}(hf:pr.fn f=some fn){args:List D}{h:T Ob}{c:Nat}{P:D->T Ob->Nat->Nat->Prop}(hw:wpC pr fn.body (st0 args h c) (zuv fn.res h c P)):zhz pr f args h c P:=by
 obtain⟨x,s,⟨hx,hr⟩,ev⟩ :=zfJ _ _ _ hw;cases hd:resD s fn.res with
 |none=>rw[hd]at hr;exact hr.elim
 |some d=>
  rw[hd]at hr;obtain⟨h1,h2⟩ :=hr;have key:EV fun m=>zgi (evC (zcX pr m) m) fn args h c=some (if Nat.beq s.lw c&&d.isF then ⟨d,h,c,c,s.mx⟩else ⟨d,s.h,s.c,s.lw,s.mx⟩):=by
   refine ev.mono fun m hm=> ?_
   unfold zgi;unfold st0 at hm;rw[hm];cases x with
   |exit i=>exact hx.elim
   |nrm=>simp only[hd];split<;>rfl
   |ret=>simp only[hd];split<;>rfl
  have hq:Con pr f args h c (if Nat.beq s.lw c&&d.isF then ⟨d,h,c,c,s.mx⟩else ⟨d,s.h,s.c,s.lw,s.mx⟩):=by
   obtain⟨N,hN⟩ :=key;refine⟨N+1,fun m hm=> ?_⟩;obtain⟨m,rfl⟩ :∃m',m=m'+1:=⟨m - 1,by omega⟩
   simp only[zcX,hf];exact hN m (by omega)
  refine⟨_,hq,?_,za0 _ _ _ _ _ hq⟩;split
  .rename_i hb;simp only[Z15]at hb;exact h2 (Z89 hb.1) hb.2
  .exact h1
def ze5{s:St}{dst:Option Nat}{Q:St->Prop}{f:Nat}{ds:List D}{l:List Go.Vse.Op}{h:T Ob}{c:Nat}{P:D->T Ob->Nat->Nat->Prop}(e1:s.h=h)(e2:s.c=c)(he:zhz pr f ds h c P)(k:∀d' h' c' lw mx,P d' h' c' lw->c<=c'->wpO pr l (s.cal dst ⟨d',h',c',lw,mx⟩) Q):WQ pr f ds s dst l Q:=by
 subst e1 e2;obtain⟨q,h1,h2,h3,h4⟩ :=he;exact⟨q,h1,k q.d q.h q.c q.lw q.mx h2 h3⟩
structure zaR(h:T Ob)(c id n:Nat)(d:Array Trm)(h':T Ob)(c' lw:Nat):Prop where
 row:zb8 h' id d
 ok:OkA d
 sz:d.size=n
 fr:∀j,j<c->j≠id->h'.get j=h.get j
 le:c<=c'
 low:lw<=c
 same:id<lw->h'.get id=h.get id
def zaR.fin{h:T Ob}{c id n:Nat}{d:Array Trm}{h':T Ob}{c' lw:Nat}(H:zaR h c id n d h' c' lw)(hid:id<c):lw=c->zaR h c id n d h c c:=fun e=>
 ⟨by have:=H.row;unfold zb8 at*;rw[<-H.same (by omega)];exact this,H.ok,H.sz,fun _ _ _=>rfl,Z3 _,Z3 _,fun _=>rfl⟩
def zaR.trans{h h1 h2:T Ob}{c c1 c2 id n lw1 lw2:Nat}{d d2:Array Trm}(H:zaR h c id n d h1 c1 lw1)(H2:zaR h1 c1 id n d2 h2 c2 lw2):zaR h c id n d2 h2 c2 (min lw1 lw2):=by
 refine⟨H2.row,H2.ok,H2.sz,fun j hj hne=>(H2.fr j (by have:=H.le;omega) hne).trans (H.fr j hj hne),Z4 H.le H2.le,Z4 (Z65 _ _) H.low,fun e=> ?_⟩;exact (H2.same (by omega)).trans (H.same (by omega))
def zaR.refl{h:T Ob}{c id n:Nat}{d:Array Trm}(h1:zb8 h id d)(h2:OkA d)(h3:d.size=n):zaR h c id n d h c c:=⟨h1,h2,h3,fun _ _ _=>rfl,Z3 _,Z3 _,fun _=>rfl⟩
def zaR.cc{h:T Ob}{c id n:Nat}{d:Array Trm}{h':T Ob}{c' c'' lw:Nat}(H:zaR h c id n d h' c' lw)(hc:c'<=c''):zaR h c id n d h' c'' lw:=⟨H.row,H.ok,H.sz,H.fr,Z4 H.le hc,H.low,H.same⟩
def zaR.swp{h:T Ob}{c id n:Nat}{d:Array Trm}{h':T Ob}{c' lw:Nat}(H:zaR h c id n d h' c' lw)(hid:id<c){h'':T Ob}{c'' lw'':Nat}(i j:Nat)(hc:c'<=c'')(h1:h''.get id=some (.arr 4 0 (zaH (Go.Sort.swp d i j).toList)))(h2:∀q,q≠id->h''.get q=h'.get q)(hl:lw''<=id):zaR h c id n (Go.Sort.swp d i j) h'' c'' lw'':=
 ⟨h1,zxu H.ok i j,by simp[Go.Sort.swp,H.sz],fun q hq hne=>(h2 q hne).trans (H.fr q hq hne),Z4 H.le hc,by omega,fun e=>by omega⟩
def zIe:pr.fn 122=some zuF:=by kernel_rfl
def za4(z:Int)(h1: -9000000000000000000<=z)(h2:z<=9000000000000000000):IntKind.i64.wrap z=z:=IntWalk.i64_in _ (by omega)
def zcf(d:Array Trm)(i:Nat){j:Nat}(hj:j<d.size):((zaH d.toList).set i (tmD d[j]!))[j]? =some (tmD d[j]!):=by
 by_cases h:i=j
 .subst h;rw[Z141 (by rw[zFK];exact hj)]
 .rw[Z126 h];exact zaK d hj
def zcF(l:List Trm):hd8 (zaH l)=false:=by
 cases l with
 |nil=>rfl
 |cons t l=>cases t<;>rfl
def zcY(l:List Trm)(k:Nat)(t:Trm):hd8 ((zaH l).set k (tmD t))=false:=by
 rw[zh2];exact zcF _
def I2(h:T Ob)(c id n a b i:Nat)(D1:Array Trm)(k:Nat)(s:St):Prop:=∃(d:Array Trm),(s.tm.get 0=some (.sl id 0 n 4 n false)/\s.tm.get 1=some (.f (.i .i64 a))/\s.tm.get 2=some (.f (.i .i64 b))/\s.tm.get 3=some (.f (.fn 86))/\s.tm.get 8=some (.f (.i .i64 i))/\s.tm.get 9=some (.f (.i .i64 k)))/\zaR h c id n d s.h s.c s.lw/\Go.Sort.insInner ltT a k d=D1/\k<n
def I1(h:T Ob)(c id n a b:Nat)(D0:Array Trm)(m:Nat)(s:St):Prop:=∃(d:Array Trm) (i:Nat),i=a+1+m/\(s.tm.get 0=some (.sl id 0 n 4 n false)/\s.tm.get 1=some (.f (.i .i64 a))/\s.tm.get 2=some (.f (.i .i64 b))/\s.tm.get 3=some (.f (.fn 86))/\s.tm.get 8=some (.f (.i .i64 (i:Int))))/\zaR h c id n d s.h s.c s.lw/\Go.Sort.insOuter ltT a b i d=D0
theorem zQX{h:T Ob}{c id n a b:Nat}(d:Array Trm)(gR:zb8 h id d)(hok:OkA d)(hn:d.size=n)(hsz:n<100000)(hb:b<=n)(hab:a<=b)(hid:id<c):
  zhz pr 122 [.sl id 0 n 4 n false,.f (.i .i64 a),.f (.i .i64 b),.f (.fn 86)] h c fun _ h' c' lw=>zaR h c id n (Go.Sort.insertionSort ltT d a b) h' c' lw:=by
 refine zfL zIe ?_;simp only[zuF,rU];have hwa:=za4 ((a:Int)+1) (by omega) (by omega);simp[rW,st0,zah,hwa];generalize hD0:Go.Sort.insertionSort ltT d a b=D0;refine zdo (b - (a+1)) (I1 h c id n a b D0) (fun x s=>x= .exit 0/\I1 h c id n a b D0 (b - (a+1)) s) ?_ ?_ _ ?_ ?_
 .rintro m s hm ⟨d,i,hi,⟨h0,h1,h2,h3,h8⟩,HS,hD⟩;have hib:i<b:=by omega
  have hwi:=zao i (by omega);rw[Go.Sort.insOuter,Z52 hib]at hD;simp[rW,h0,h1,h2,h3,h8,hib];refine zcN (I2 h c id n a b i (Go.Sort.insInner ltT a i d)) (fun x s=>x= .exit 2/\∃d1,d1=Go.Sort.insInner ltT a i d/\(s.tm.get 0=some (.sl id 0 n 4 n false)/\s.tm.get 1=some (.f (.i .i64 a))/\s.tm.get 2=some (.f (.i .i64 b))/\s.tm.get 3=some (.f (.fn 86))/\s.tm.get 8=some (.f (.i .i64 i)))/\zaR h c id n d1 s.h s.c s.lw) ?_ i _ ?_ ?_
  .rintro k s ⟨d',⟨h0,h1,h2,h3,h8,h9⟩,HS,hI,hk⟩
   by_cases hka:a<k
   .obtain⟨j,hkj⟩ :∃j,k=j+1:=⟨k - 1,by omega⟩
    have hins:Go.Sort.insInner ltT a k d'=if zaX d'[k]! d'[j]! <0 then Go.Sort.insInner ltT a j (Go.Sort.swp d' k j)else d':=by
     subst hkj;show(if(decide (j+1>a)&&ltT d'[j+1]! d'[j]!)=true then _ else _)=_;rw[decide_eq_true (by omega)];simp[ltT]
    have hsub:IntKind.i64.wrap ((k:Int) - 1)=(j:Int):=by
     rw[za4 _ (by omega) (by omega)];omega
    have hj:j<n:=by omega
    have e1:=zaK d' (i:=k) (by rw[HS.sz];exact hk);have e0:=zaK d' (i:=j) (by rw[HS.sz];exact hj);have e0':=zcf d' k (j:=j) (by rw[HS.sz];exact hj);have hRO:=fun(H':Vse.T Ob) (c':Nat)=>zht d'[k]! d'[j]! (HS.ok k) (HS.ok j) (h:=H') (c:=c')
    have gR:=HS.row;have hsw:=zdq d' k j;have oksw:=zxu HS.ok k j;have szsw:(Go.Sort.swp d' k j).size=n:=by simp[Go.Sort.swp,HS.sz]
    generalize d'[k]! =tk' at*;generalize d'[j]! =tj at*;unfold zb8 at gR;simp only[tmD]at e1 e0 e0' hRO hsw;simp[rW,h0,h1,h2,h3,h8,h9,hka];refine za5 ?_;simp[rW,h0,h1,h2,h3,h8,h9,hka,gR,hk,hj,hsub,e1,e0];have hh8:hd8 ((zaH d'.toList).set k [D.f (F.s (tv tj)),D.f (F.i IntKind.i64 (tk tj)),D.f (F.i IntKind.i64 (tn tj)),D.f (F.s [])])=false:=zcY _ _ _;have h8b:=zcF d'.toList
    by_cases hlt:zaX tk' tj<0
    .rw[Z52 hlt]at hins;refine zbS (d:= .f (.i .i64 (zaX tk' tj))) (hRO _ _) ?_ ?_ ?_
     .simp only[rG];have:=HS.low;have:=HS.le;omega
     .simp[ckG,ck1]
     intro mx hmx;simp only[rG]at hmx;simp[rW,h0,h1,h2,h3,h8,h9,hlt];refine zaF ?_;simp[rW,h0,h1,h2,h3,h8,h9,gR,hk,hj,hsub,e1,e0,e0',hh8,h8b,hsw,zcF];have hlo:=HS.low;have hle:=HS.le;refine⟨by omega,by omega,?_⟩;rw[zcc];refine⟨j,by omega,Go.Sort.swp d' k j,?_,?_⟩
     .simp[rW,h0,h1,h2,h3,h8,h9,hsub]
     .simp[rW,];exact⟨HS.swp hid k j (by omega) (by rw[TG,Z52 rfl]) (fun q hq=>by rw[TG,Z50 hq,TG,Z50 hq]) (zdU _ _ _ _),hins.symm.trans hI,hj⟩
    .rw[Z50 hlt]at hins;rw[hins]at hI;subst hI;refine zbS (d:= .f (.i .i64 (zaX tk' tj))) (hRO _ _) ?_ ?_ ?_
     .simp only[rG];have:=HS.low;have:=HS.le;omega
     .simp[ckG,ck1]
     intro mx hmx;simp only[rG]at hmx;simp[rW,h0,h1,h2,h3,h8,h9,hlt];exact HS.cc (by omega)
   .have hins:Go.Sort.insInner ltT a k d'=d':=by
     cases k with
     |zero=>rfl
     |succ j=>
      show(if(decide (j+1>a)&&ltT d'[j+1]! d'[j]!)=true then _ else _)=_;rw[decide_eq_false (by omega)];rfl
    rw[hins]at hI;subst hI;simp[rW,h0,h1,h2,h3,h8,h9,hka];refine za5 ?_;simp[rW,h0,h1,h2,h3,h8,h9,hka];exact HS.cc (by omega)
  .simp[rW,I2,h0,h1,h2,h3,h8];exact⟨d,HS,rfl,by omega⟩
  .rintro x s ⟨rfl,d1,rfl,⟨h0,h1,h2,h3,h8⟩,HS⟩;simp[rW,h0,h1,h2,h3,h8,hwi,I1];subst hi;exact⟨by omega,_,HS,by rw[<-hD];rfl⟩
 .rintro s ⟨d,i,hi,⟨h0,h1,h2,h3,h8⟩,HS,hD⟩;have hib:¬i<b:=by omega
  simp[rW,h0,h1,h2,h3,h8,hib,I1];subst hi;exact⟨by omega,d,HS,hD⟩
 .simp[rW,I1];exact⟨d,zaR.refl gR hok hn,hD0⟩
 .rintro x s ⟨rfl,d,i,hi,⟨h0,h1,h2,h3,h8⟩,HS,hD⟩;rw[Go.Sort.insOuter,Z50 (by omega)]at hD;subst hD;simp[rW,zpF];show zaR _ _ _ _ _ _ _ _/\(_->_->_)
  exact⟨HS,fun e _=>HS.fin hid e⟩
end Go.Proofs.YtflgmemhalhdbaaGreatDoor
end
