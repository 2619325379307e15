/- A variable replaced by a term, in place. -/
import Derived.Test.YtmnkdfjljkhneaaGreatPc
import Derived.KernelRfl
import Derived.IntWalk
set_option linter.all false
set_option maxRecDepth 100000
set_option maxHeartbeats 4000000
section
namespace Go.Proofs.YtmnkdfjljkhneaaGreat
open Go Go.Vse Go.Vse.Sm
def zye:pr.fn 133=some zpS:=by kernel_rfl
def fn95:pr.fn 95=some g95:=by kernel_rfl
def zk9(pr:Pr)(f:Nat)(args:List D)(h:T Ob)(c:Nat)(P:D->T Ob->Nat->Nat->Prop):Prop:=∃q,Con pr f args h c q/\P q.d q.h q.c q.lw/\c<=q.c/\q.c<=q.mx
def zsV(res:List Rv)(h:T Ob)(c:Nat)(P:D->T Ob->Nat->Nat->Prop)(x:Ex)(s:St):Prop:=
 (match x with| .exit _=>False|_=>True)/\oB (resD s res) fun d=>P d s.h s.c s.lw/\(s.lw=c->d.isF=true->P d h c c)
def zPb{res:List Rv}{h:T Ob}{c:Nat}{P:D->T Ob->Nat->Nat->Prop}{s:St}:zsV res h c P .ret s=oB (resD s res) fun d=>P d s.h s.c s.lw/\(s.lw=c->d.isF=true->P d h c c):=by simp[zsV]
def zgc{res:List Rv}{h:T Ob}{c:Nat}{P:D->T Ob->Nat->Nat->Prop}{s:St}:zsV res h c P .nrm s=oB (resD s res) fun d=>P d s.h s.c s.lw/\(s.lw=c->d.isF=true->P d h c c):=by simp[zsV]
def zjs{f:Nat}{fn:Go.Vse.Fn}(hf:pr.fn f=some fn){args:List D}{h:T Ob}{c:Nat}{P:D->T Ob->Nat->Nat->Prop}(hw:wpC pr fn.body (st0 args h c) (zsV fn.res h c P)):zk9 pr f args h c P:=by
 obtain⟨x,s,⟨hx,hr⟩,ev⟩ :=zeO _ _ _ hw;cases hd:resD s fn.res with
 |none=>rw[hd]at hr;exact hr.elim
 |some d=>
  rw[hd]at hr;obtain⟨h1,h2⟩ :=hr;have key:EV fun m=>zeK (evC (zcL pr m) m) fn args h c=some (if Nat.beq s.lw c&&d.isF then ⟨d,h,c,c,s.mx⟩else ⟨d,s.h,s.c,s.lw,s.mx⟩):=by
   refine ev.mono fun m hm=> ?_
   unfold zeK;unfold st0 at hm;rw[hm];cases x with
   |exit i=>exact hx.elim
   |nrm=>simp only[hd];split<;>rfl
   |ret=>simp only[hd];split<;>rfl
  have hq:Con pr f args h c (if Nat.beq s.lw c&&d.isF then ⟨d,h,c,c,s.mx⟩else ⟨d,s.h,s.c,s.lw,s.mx⟩):=by
   obtain⟨N,hN⟩ :=key;refine⟨N+1,fun m hm=> ?_⟩;obtain⟨m,rfl⟩ :∃m',m=m'+1:=⟨m - 1,by omega⟩
   simp only[zcL,hf];exact hN m (by omega)
  refine⟨_,hq,?_,zbi _ _ _ _ _ hq⟩;split
  .rename_i hb;simp only[Z14]at hb;exact h2 (Nat.eq_of_beq_eq_true hb.1) hb.2
  .exact h1
def zuN{s:St}{dst:Option Nat}{Q:St->Prop}{f:Nat}{ds:List D}{l:List Go.Vse.Op}{h:T Ob}{c:Nat}{P:D->T Ob->Nat->Nat->Prop}(e1:s.h=h)(e2:s.c=c)(he:zk9 pr f ds h c P)(k:∀d' h' c' lw mx,P d' h' c' lw->c<=c'->wpO pr l (s.cal dst ⟨d',h',c',lw,mx⟩) Q):WQ pr f ds s dst l Q:=by
 subst e1 e2;obtain⟨q,h1,h2,h3,h4⟩ :=he;exact⟨q,h1,k q.d q.h q.c q.lw q.mx h2 h3⟩
def LwO(h0:T Ob)(c:Nat)(s:St):Prop:=s.lw<=c/\(s.lw=c->∀x,x<c->s.h.get x=h0.get x)
def LwO.step{h0:T Ob}{c X lw:Nat}{s s2:St}(H:LwO h0 c s)(hX:X<c)(hl:s2.lw=Nat.min s.lw lw)(hh:lw<=X\/∀x,s2.h.get x=s.h.get x):LwO h0 c s2:=by
 have h1:=H.1;have h2:s2.lw<=s.lw:=by rw[hl];exact Nat.min_le_left _ _
 have h3:s2.lw<=lw:=by rw[hl];exact Nat.min_le_right _ _
 refine⟨by omega,fun e x hx=> ?_⟩;rcases hh with hh|hh
 .omega
 .rw[hh x];exact H.2 (by omega) x hx
def LwO.step2{h0 H1:T Ob}{c X lw1 lw2:Nat}{s s2:St}(H:LwO h0 c s)(hX:X<c)(hl:s2.lw=Nat.min (Nat.min s.lw lw1) lw2)(hh1:lw1<=X\/∀x,H1.get x=s.h.get x)(hh2:lw2<=X\/∀x,s2.h.get x=H1.get x):LwO h0 c s2:=by
 have h1:=H.1;have h2:s2.lw<=Nat.min s.lw lw1:=by rw[hl];exact Nat.min_le_left _ _
 have h3:s2.lw<=lw2:=by rw[hl];exact Nat.min_le_right _ _
 have h4:=Z3 h2 (Nat.min_le_left _ _);have h5:=Z3 h2 (Nat.min_le_right _ _);refine⟨by omega,fun e x hx=> ?_⟩;rcases hh2 with hh2|hh2
 .omega
 .rcases hh1 with hh1|hh1
  .omega
  .rw[hh2 x,hh1 x];exact H.2 (by omega) x hx
def LwO.same{h0:T Ob}{c:Nat}{s s2:St}(H:LwO h0 c s)(hl:s2.lw=s.lw)(hh:∀x,x<c->s2.h.get x=s.h.get x):LwO h0 c s2:=
 ⟨by rw[hl];exact H.1,fun e x hx=>by rw[hh x hx];exact H.2 (by rw[<-hl];exact e) x hx⟩
def zfU(f:Go.Vse.A->Option D)(x:Go.Vse.A):O.res f (.nck x)=(f x).bind fun x=>some (.nck x):=rfl
def zia(h:Nat->Option Ob)(c id es i j:Nat):opv h c (.nck (.ptr id es i j))=some {d:= .ptr id es i j,c}:=rfl
def zgV{pr:Pr}{s:St}{Q:St->Prop}{dst:Option Nat}{L:List (List Nat×List Nat)}{mask:Nat}{l:List (Go.Vse.Op×Nat)}{x:Go.Vse.A}:wpE pr L ((⟨dst,none,.nck x⟩,mask)::l) s Q↔oB (((O.nck x).res (zab s.tm)).bind (opv s.h.get s.c)) fun r=>zay r.c r.wr=true/\zc1 mask L r.rd (r.wr.map (·.1))/\wpE pr (L++[(r.rd,r.wr.map (·.1))]) l (s.ae dst r.d r.wr r.c) Q:=zcG rfl
def zoW{pr:Pr}{s:St}{Q:St->Prop}{dst:Option Nat}{l:List Go.Vse.Op}{x:Go.Vse.A}:wpO pr (⟨dst,none,.nck x⟩ ::l) s Q↔oB (((O.nck x).res (zab s.tm)).bind (opv s.h.get s.c)) fun r=>zay r.c r.wr=true/\wpO pr l (s.aft dst r.d r.wr r.c) Q:=zdq rfl
theorem zLc{h:T Ob}{c X j N1 B1:Nat}{rows:List (List D)}{t b:Trm}{s:Str}(gX:h.get X=some (.arr 4 0 rows))(hj:rows[j]? =some (tmD t))(gN:h.get N1=some (.arr 1 0 [[.f (.s s)]]))(gB:h.get B1=some (.arr 4 0 [tmD b]))(hX:X<c)(hs:s≠[])(ht:zau t)(h8:hd8 rows=false):
  zk9 pr 133 [.ptr X 4 j 0,.ptr N1 1 0 0,.ptr B1 4 0 0] h c fun _ h' _ lw=>(∀x,h'.get x=if x=X then some (.arr 4 0 (rows.set j (tmD (sbT s b t))))else h.get x)/\(lw<=X\/∀x,h'.get x=h.get x):=by
 refine zjs zye ?_;simp only[zpS,rU];have hjl:=(Z8.1 hj).1;have hjg:=(Z8.1 hj).2;simp[rW,st0,zae];refine zaL ?_;have er:∀s:St,resD s []=some (.tu []):=fun _=>rfl
 have nX:¬c<X:=by omega
 unfold sbT;cases t with
 |cst n=>
  have hs':¬([]=s):=fun e=>hs e.symm
  have hset:rows.set j (tmD (.cst n))=rows:=by rw[<-hjg];exact List.set_getElem_self hjl
  simp only[tmD,zdm,zcS,zcN]at hj hset;simp[rW,st0,zae,zgV,zfU,zia,gX,hj,gN,hs,hs',zgc,er,tmD,zdm,zcS,zcN,hset]
 |var v=>
  by_cases hv:v=s
  .subst hv;simp only[tmD,zcm,zcr,zcs]at hj hjg;simp only[tmD]at gB;simp[rW,st0,zae,zgV,zfU,zia,zoW,gX,hj,gN,gB,zgc,er,tmD,hX,hjl,h8,hjg];refine⟨by omega,.inl (by simp[zcA,hX]),fun e=> ?_⟩;exfalso;simp[zcA,hX]at e;omega
  .have hset:rows.set j (tmD (.var v))=rows:=by rw[<-hjg];exact List.set_getElem_self hjl
   simp only[tmD,zcm,zcr,zcs]at hj hset;simp[rW,st0,zae,zgV,zfU,zia,gX,hj,gN,hv,zgc,er,tmD,zcm,zcr,zcs,hset]
theorem zLe{h:T Ob}{c X j N1 B1:Nat}{rows:List (List D)}{k:Cm}{b:Trm}{s:Str}(gX:h.get X=some (.arr 9 0 rows))(hj:rows[j]? =some (cmD k))(gN:h.get N1=some (.arr 1 0 [[.f (.s s)]]))(gB:h.get B1=some (.arr 4 0 [tmD b]))(hX:X<c)(hs:s≠[])(h8:hd8 rows=false):
  zk9 pr 133 [.ptr X 9 j 1,.ptr N1 1 0 0,.ptr B1 4 0 0] h c fun _ h' _ lw=>(∀x,h'.get x=if x=X then some (.arr 9 0 (rows.set j (cmD ⟨k.op,sbT s b k.l,k.r⟩)))else h.get x)/\(lw<=X\/∀x,h'.get x=h.get x):=by
 refine zjs zye ?_;simp only[zpS,rU];have hjl:=(Z8.1 hj).1;have hjg:=(Z8.1 hj).2;simp[rW,st0,zae];refine zaL ?_;have er:∀s:St,resD s []=some (.tu []):=fun _=>rfl
 have nX:¬c<X:=by omega
 have hset:rows.set j (cmD k)=rows:=by rw[<-hjg];exact List.set_getElem_self hjl
 obtain⟨op,l,r⟩ :=k;simp only[cmD,tmD,Z29,Z28]at hj hset hjg;unfold sbT;cases l with
 |cst n=>
  have hs':¬([]=s):=fun e=>hs e.symm
  simp only[zdm,zcS,zcN]at hj hset;simp[rW,st0,zae,zgV,zfU,zia,gX,hj,gN,hs,hs',zgc,er,cmD,tmD,zdm,zcS,zcN,hset]
 |var v=>
  by_cases hv:v=s
  .subst hv;simp only[zcm,zcr,zcs]at hj hjg;simp only[tmD]at gB;simp[rW,st0,zae,zgV,zfU,zia,zoW,gX,hj,gN,gB,zgc,er,cmD,tmD,hX,hjl,h8,hjg];refine⟨by omega,.inl (by simp[zcA,hX]),fun e=> ?_⟩;exfalso;simp[zcA,hX]at e;omega
  .simp only[zcm,zcr,zcs]at hj hset;simp[rW,st0,zae,zgV,zfU,zia,gX,hj,gN,hv,zgc,er,cmD,tmD,zcm,zcr,zcs,hset]
theorem zLh{h:T Ob}{c X j N1 B1:Nat}{rows:List (List D)}{k:Cm}{b:Trm}{s:Str}(gX:h.get X=some (.arr 9 0 rows))(hj:rows[j]? =some (cmD k))(gN:h.get N1=some (.arr 1 0 [[.f (.s s)]]))(gB:h.get B1=some (.arr 4 0 [tmD b]))(hX:X<c)(hs:s≠[])(h8:hd8 rows=false):
  zk9 pr 133 [.ptr X 9 j 5,.ptr N1 1 0 0,.ptr B1 4 0 0] h c fun _ h' _ lw=>(∀x,h'.get x=if x=X then some (.arr 9 0 (rows.set j (cmD ⟨k.op,k.l,sbT s b k.r⟩)))else h.get x)/\(lw<=X\/∀x,h'.get x=h.get x):=by
 refine zjs zye ?_;simp only[zpS,rU];have hjl:=(Z8.1 hj).1;have hjg:=(Z8.1 hj).2;simp[rW,st0,zae];refine zaL ?_;have er:∀s:St,resD s []=some (.tu []):=fun _=>rfl
 have nX:¬c<X:=by omega
 have hset:rows.set j (cmD k)=rows:=by rw[<-hjg];exact List.set_getElem_self hjl
 obtain⟨op,l,r⟩ :=k;simp only[cmD,tmD,Z29,Z28]at hj hset hjg;unfold sbT;cases r with
 |cst n=>
  have hs':¬([]=s):=fun e=>hs e.symm
  simp only[zdm,zcS,zcN]at hj hset;simp[rW,st0,zae,zgV,zfU,zia,gX,hj,gN,hs,hs',zgc,er,cmD,tmD,zdm,zcS,zcN,hset]
 |var v=>
  by_cases hv:v=s
  .subst hv;simp only[zcm,zcr,zcs]at hj hjg;simp only[tmD]at gB;simp[rW,st0,zae,zgV,zfU,zia,zoW,gX,hj,gN,gB,zgc,er,cmD,tmD,hX,hjl,h8,hjg];refine⟨by omega,.inl (by simp[zcA,hX]),fun e=> ?_⟩;exfalso;simp[zcA,hX]at e;omega
  .simp only[zcm,zcr,zcs]at hj hset;simp[rW,st0,zae,zgV,zfU,zia,gX,hj,gN,hv,zgc,er,cmD,tmD,zcm,zcr,zcs,hset]
def zEv{xs:List Nat}(hn:xs.Nodup){i j:Nat}(hi:i<xs.length)(hj:j<xs.length)(hij:i≠j):xs[i]≠xs[j]:=by
 rcases Nat.lt_or_gt_of_ne hij with h|h
 .exact List.pairwise_iff_getElem.1 hn i j hi hj h
 .exact fun e=>List.pairwise_iff_getElem.1 hn j i hj hi h e.symm
def AsD.setT{h h':T Ob}{lo c:Nat}{d:D}{l:List Atm}{xs:List Nat}(H:AsD h lo c d l xs){k:Nat}(hk:k<l.length)(hx:k<xs.length){ts:List Trm}(hts:ts.length=l[k].ts.length)(hX:h'.get xs[k]=some (.arr 4 0 (zbv ts)))(hh:∀x,lo<=x->x<c->x≠xs[k]->h'.get x=h.get x):AsD h' lo c d (l.set k ⟨l[k].r,l[k].neg,ts⟩) xs:=by
 refine⟨by simp[H.ln],H.nd,H.rg,fun j hj hjx=> ?_,?_,H.oi⟩
 .by_cases hjk:k=j
  .subst hjk;rw[List.getElem_set_self];exact hX
  .rw[List.getElem_set_ne hjk];have hne:=zEv H.nd hjx hx (Ne.symm hjk);have hr:=H.rg _ (Z1 hjx);rw[hh _ hr.1 hr.2 hne];exact H.rw j (by simpa using hj) hjx
 .have e:List.zipWith atR (l.set k ⟨l[k].r,l[k].neg,ts⟩) xs=List.zipWith atR l xs:=by
   apply List.ext_getElem (by simp);intro j h1 h2;simp only[List.getElem_zipWith]
   by_cases hjk:k=j
   .subst hjk;rw[List.getElem_set_self];simp[atR,hts]
   .rw[List.getElem_set_ne hjk]
  rw[e];rcases H.gr with h1|⟨id,ro,h1,h2,h3,h4,h5,h6⟩
  .exact .inl h1
  .refine .inr ⟨id,ro,h1,h2,?_,h4,h5,h6⟩;rw[hh id h5 h6 (fun e=>H.oi id (by rw[h1];rfl) (e▸Z1 hx))];exact h3
def zOy{h:T Ob}{lo c:Nat}{d:D}{l:List Atm}{xs:List Nat}(H:AsD h lo c d l xs){k:Nat}(hk:k<l.length)(hx:k<xs.length):∃B ro rows,iaB 3 d k=some (.ptr B 3 k 0)/\h.get B=some (.arr 3 ro rows)/\rows[k]? =some (atR l[k] xs[k])/\lo<=B/\B<c/\B∉xs:=by
 have hz:k< (List.zipWith atR l xs).length:=by simp;omega
 rcases H.gr with⟨h1,h2⟩ |⟨id,ro,h1,h2,h3,h4,h5,h6⟩
 .rw[h2]at hz;simp at hz
 .refine⟨id,ro,_,?_,h3,?_,h5,h6,H.oi id (by rw[h1];rfl)⟩
  .rw[h1,ziQ,if_pos ⟨rfl,hz⟩,Z25]
  .rw[Z0 hz,List.getElem_zipWith]
def zKt{h:T Ob}{lo c:Nat}{d:D}{l:List Atm}{xs:List Nat}(H:AsD h lo c d l xs):zcx d=some l.length:=by
 rw[Go.Vse.zmr H.gr,List.length_zipWith,H.ln,Nat.min_self]
def zDZ{h h':T Ob}{lo c:Nat}{d:D}{q:CQ}(H:CsD h lo c d q){k:Nat}(hk:k<q.cs.length){Y:Nat}{rows:List (List D)}{e:Cm}(hY:d.oid=some Y)(hg:h.get Y=some (.arr 9 0 rows))(hX:h'.get Y=some (.arr 9 0 (rows.set k (cmD e)))):CsD h' lo c d ⟨q.as,q.cs.set k e,q.ne,q.na⟩ :=by
 rcases H with⟨rfl,-⟩ |⟨Y',tail,ex,rfl,g1,g2,g3,g4,g5,g6,g7⟩
 .simp[D.oid]at hY
 .simp only[D.oid,Z45]at hY;subst hY;rw[g1]at hg;simp only[Z45,Ob.arr.injEq,true_and]at hg;subst hg;refine .inr ⟨Y',tail,ex,by simp,?_,fun e=> ?_,fun e=>g3 ?_,g4,g5,g6,by simpa using g7⟩
  .rw[hX,List.set_append_left _ _ (by simpa using hk),List.map_set]
  .simp at e;exact g2 e
  .intro h0;rw[h0]at hk;simp at hk
def zvR{h:T Ob}{lo c:Nat}{d:D}{q:CQ}(H:CsD h lo c d q){n:Nat}(hn:n<q.cs.length):∃Y rows,d.oid=some Y/\iaB 9 d n=some (.ptr Y 9 n 0)/\h.get Y=some (.arr 9 0 rows)/\rows[n]? =some (cmD q.cs[n])/\lo<=Y/\Y<c:=by
 rcases H with⟨rfl,e,-⟩ |⟨Y,tail,ex,rfl,hY,-,-,h1,h2,-⟩
 .rw[e]at hn;simp at hn
 .refine⟨Y,_,rfl,?_,hY,?_,h1,h2⟩
  .simp[ziQ,hn]
  .rw[List.getElem?_append_left (by simpa using hn)];simp[hn]
def znq{x:List D}{l:List (List D)}(hx:x.length≠1):hd8 (x::l)=false:=by
 unfold hd8;split
 .rename_i heq;simp only[List.cons.injEq]at heq;rw[heq.1]at hx;simp at hx
 .rfl
def zPr{rows:List (List D)}{n:Nat}{x:List D}(hn:rows[n]? =some x)(h0:∀y,rows[0]? =some y->y.length≠1):hd8 rows=false:=by
 cases rows with
 |nil=>simp at hn
 |cons y l=>exact znq (h0 y rfl)
def zLN(l:List Trm):hd8 (zbv l)=false:=by
 cases l with
 |nil=>rfl
 |cons t l=>exact znq (by cases t<;>simp[tmF])
def sbn(s:Str)(b:Trm)(n:Nat)(q:CQ):CQ:=⟨(q.as.take n).map (sbA s b)++q.as.drop n,q.cs,q.ne,q.na⟩
def sbm(s:Str)(b:Trm)(n:Nat)(q:CQ):CQ:=⟨q.as.map (sbA s b),(q.cs.take n).map (sbK s b)++q.cs.drop n,q.ne,q.na⟩
def RJ(h0:T Ob)(lo c0 c:Nat)(dA dC:D)(nm:Str)(b:Trm)(q:CQ)(s:St):Prop:=(s.tm.get 3=some (.ptr c 2 0 0)/\s.tm.get 6=some (.fn 133 [] [.ptr (c+1) 1 0 0,.ptr (c+1+1) 4 0 0]))/\s.h.get c=some (.arr 2 0 [[dA,dC]])/\s.h.get (c+1)=some (.arr 1 0 [[.f (.s nm)]])/\s.h.get (c+1+1)=some (.arr 4 0 [tmD b])/\MQ s.h lo c0 dA dC q/\(∀x,x<lo\/c0<=x/\x<c->s.h.get x=h0.get x)/\c+3<=s.c/\LwO h0 c s
def zp1{α:Type}(f:α->α)(l:List α){j:Nat}(hj:j<l.length):((l.take j).map f++l.drop j).set j (f l[j])=(l.take (j+1)).map f++l.drop (j+1):=by
 have e:((l.take j).map f).length=j:=by simp;omega
 rw[List.set_append_right _ _ (by omega),e,Nat.sub_self,List.drop_eq_getElem_cons hj,List.set_cons_zero,Z6 hj,Z20,Z32];rfl
def zp0{α:Type}(f:α->α)(l:List α){j:Nat}(hj:j<l.length):((l.take j).map f++l.drop j)[j]? =some l[j]:=by
 have e:((l.take j).map f).length=j:=by simp;omega
 rw[List.getElem?_append_right (by omega),e,Nat.sub_self,List.getElem?_drop,Nat.add_zero,Z0 hj]
def zmA{α:Type}(f:α->α)(l:List α)(j:Nat):((l.take j).map f++l.drop j).length=l.length:=by simp;omega
def zNi(l:List Trm)(j:Nat)(t:Trm):(zbv l).set j (tmD t)=zbv (l.set j t):=by
 unfold zbv;rw[Z33,Z33,List.map_set]
 congr 1
 exact (zsa t).symm
def zNg{l:List Trm}{j:Nat}{t:Trm}(h:l[j]? =some t):(zbv l)[j]? =some (tmD t):=by
 unfold zbv;rw[Z33,Z36,h];exact congrArg some (zsa t)
def zKX{h h':T Ob}{lo c:Nat}{d:D}{q:CQ}(H:CsD h lo c d q)(hh:∀Y,d.oid=some Y->h'.get Y=h.get Y):CsD h' lo c d q:=by
 rcases H with H|⟨Y,tail,ex,rfl,hY,h3⟩
 .exact .inl H
 .exact .inr ⟨Y,tail,ex,rfl,by rw[hh Y rfl];exact hY,h3⟩
def MQ.up{h h':T Ob}{lo c:Nat}{dA dC:D}{q:CQ}(H:MQ h lo c dA dC q)(hh:∀x,lo<=x->x<c->h'.get x=h.get x):MQ h' lo c dA dC q:=by
 obtain⟨xs,hA,hC,hD⟩ :=H;exact⟨xs,hA.up hh (Z2 _) (Z2 _),ziu hC hh (Z2 _) (Z2 _),hD⟩
def zAu{h:T Ob}{lo c:Nat}{d:D}{q:CQ}{Y:Nat}{r:List D}{rs:List (List D)}(H:CsD h lo c d q)(hY:d.oid=some Y)(hg:h.get Y=some (.arr 9 0 (r::rs))){n:Nat}(hn:n<q.cs.length):r.length≠1:=by
 rcases H with⟨rfl,-⟩ |⟨Y',tail,ex,rfl,g1,-⟩
 .simp[D.oid]at hY
 .simp only[D.oid,Z45]at hY;subst hY;rw[hg]at g1;simp only[Z45,Ob.arr.injEq,true_and]at g1;cases hc:q.cs with
  |nil=>rw[hc]at hn;simp at hn
  |cons k l=>
   rw[hc]at g1;simp only[Z10,Z29,List.cons.injEq]at g1;rw[g1.1];simp[cmD,tmD]
def zKU{h:T Ob}{lo c:Nat}{d:D}{q:CQ}{Y:Nat}{rows:List (List D)}(H:CsD h lo c d q)(hY:d.oid=some Y)(hg:h.get Y=some (.arr 9 0 rows)){n:Nat}(hn:n<q.cs.length):hd8 rows=false:=by
 cases rows with
 |nil=>rfl
 |cons r rs=>exact znq (zAu H hY hg hn)
def AsD.up2{h h':T Ob}{lo c:Nat}{d:D}{l:List Atm}{xs:List Nat}(H:AsD h lo c d l xs)(h1:∀x∈xs,h'.get x=h.get x)(h2:∀B,d.oid=some B->h'.get B=h.get B):AsD h' lo c d l xs:=by
 refine⟨H.ln,H.nd,H.rg,fun k hk hx=> ?_,?_,H.oi⟩
 .rw[h1 _ (Z1 hx)];exact H.rw k hk hx
 .rcases H.gr with g|⟨id,ro,g1,g2,g3,g4⟩
  .exact .inl g
  .exact .inr ⟨id,ro,g1,g2,by rw[h2 id (by rw[g1];rfl)];exact g3,g4⟩
def RI(h0:T Ob)(lo c0 c K x:Nat)(dA dC:D)(nm:Str)(b:Trm)(q:CQ)(A:Atm)(n j:Nat)(s:St):Prop:=(s.tm.get 3=some (.ptr c 2 0 0)/\s.tm.get 6=some (.fn 133 [] [.ptr (c+1) 1 0 0,.ptr (c+1+1) 4 0 0])/\s.tm.get 8=some (.ptr K 3 0 0)/\s.tm.get 13=some (dA)/\s.tm.get 14=some (.f (.i .i64 q.as.length))/\s.tm.get 15=some (.f (.i .i64 n))/\s.tm.get 20=some (.sl x 0 A.ts.length 4 A.ts.length false)/\s.tm.get 21=some (.f (.i .i64 A.ts.length))/\s.tm.get 22=some (.f (.i .i64 j)))/\s.h.get c=some (.arr 2 0 [[dA,dC]])/\s.h.get (c+1)=some (.arr 1 0 [[.f (.s nm)]])/\s.h.get (c+1+1)=some (.arr 4 0 [tmD b])/\s.h.get K=some (.arr 3 0 [atR A x])/\
 (∃xs,xs[n]? =some x/\AsD s.h lo c0 dA ((sbn nm b n q).as.set n ⟨A.r,A.neg,(A.ts.take j).map (sbT nm b)++A.ts.drop j⟩) xs/\CsD s.h lo c0 dC q/\∀Y,dC.oid=some Y->Y∉xs/\dA.oid≠some Y)/\(∀x,x<lo\/c0<=x/\x<c->s.h.get x=h0.get x)/\c+3<=K/\K<s.c/\LwO h0 c s
theorem zHP(q:CQ)(hq:CqG q)(nm:Str)(b:Trm)(hn:nm≠[]){h:T Ob}{lo c0 c:Nat}{dA dC:D}(hlo:lo<=c0)(hc0:c0<=c)(hM:MQ h lo c0 dA dC q):
  Eff pr 95 [.ag [dA,dC],.f (.s nm),.ag (tmD b)] h c fun _ h' c'=>(∀x,x<lo\/c0<=x/\x<c->h'.get x=h.get x)/\MQ h' lo c0 dA dC (sbC nm b q):=by
 refine zci zbi fn95 ?_;simp only[g95,rU];have hcA:dA.cells=some [dA]:=by obtain⟨xs,hA,-⟩ :=hM;exact za3 hA.gr
 have hcC:dC.cells=some [dC]:=by obtain⟨xs,-,hC,-⟩ :=hM;exact zfg hC
 have hlA:zcx dA=some q.as.length:=by obtain⟨xs,hA,-⟩ :=hM;exact zKt hA
 have er:∀s:St,resD s []=some (.tu []):=fun _=>rfl
 have n02:¬(c=c+1+1):=by omega
 simp[rW,st0,zae,tmD,hcA,hcC,hlA,n02];refine zdi q.as.length (fun n s=>RJ h lo c0 c dA dC nm b (sbn nm b n q) s/\s.tm.get 13=some (dA)/\s.tm.get 14=some (.f (.i .i64 q.as.length))/\s.tm.get 15=some (.f (.i .i64 n))) (fun x s=>x= .exit 0/\RJ h lo c0 c dA dC nm b (sbm nm b 0 q) s) ?_ ?_ _ ?_ ?_
 .rintro n s hlt ⟨⟨⟨h3,h6⟩,gA,gN,gB,⟨xs,hA,hC,hD⟩,hF,hc,hL⟩,h13,h14,h15⟩;have hw:=zao n (by have:=hq.sa;omega);have hq':CqG q:=hq;have htn:=hq.tn _ (Z1 hlt);have hst:=hq.st _ (Z1 hlt);have hok:=(hq.toCqSm.toCqOk.as _ (Z1 hlt)).1;have hsl:(sbn nm b n q).as.length=q.as.length:=zmA _ _ _;have hxl:n<xs.length:=by rw[hA.ln,hsl];exact hlt
  have hl1:n< (sbn nm b n q).as.length:=by omega
  have hget:(sbn nm b n q).as[n]=q.as[n]:=by
   have:=zp0 (sbA nm b) q.as hlt;exact (Z8.1 this).2
  obtain⟨B,ro,rows,hi,hB,hr,hB1,hB2,-⟩ :=zOy hA hl1 hxl;have hxr:=hA.rg _ (Z1 hxl);rw[hget]at hr;have hmix:(sbn nm b (n+1) q).as=(sbn nm b n q).as.set n (sbA nm b q.as[n]):=(zp1 (sbA nm b) q.as hlt).symm;generalize hAq:q.as[n]=A at hr htn hst hok hmix hget;generalize hx0:xs[n]=x at hr hxr;have nB:¬(B=s.c):=by omega
  have nc:¬(c=s.c):=by omega
  have nc1:¬(c+1=s.c):=by omega
  have nc2:¬(c+1+1=s.c):=by omega
  simp[rW,h3,h6,h13,h14,h15,hlt,hi,hB,hr,atR,nB];refine zdi A.ts.length (fun j s'=>RI h lo c0 c s.c x dA dC nm b q A n j s') (fun y s'=>y= .exit 2/\RI h lo c0 c s.c x dA dC nm b q A n A.ts.length s') ?_ ?_ _ ?_ ?_
  .rintro j s' hj ⟨⟨h3,h6,h8,h13,h14,h15,h20,h21,h22⟩,gA,gN,gB,gK,⟨xs',hxn,hA',hC',hD'⟩,hF',hcK,hK,hL'⟩;have hwj:=zao j (by omega);have hxl':n<xs'.length:=by rw[hA'.ln,List.length_set];omega
   have hxe:xs'[n]=x:=(Z8.1 hxn).2;have hl2:n< ((sbn nm b n q).as.set n ⟨A.r,A.neg,(A.ts.take j).map (sbT nm b)++A.ts.drop j⟩).length:=by rw[List.length_set];exact hl1
   have gx:=hA'.rw n hl2 hxl';rw[List.getElem_set_self,hxe]at gx;have gj:=zNg (zp0 (sbT nm b) A.ts hj);have h8t:=zLN ((A.ts.take j).map (sbT nm b)++A.ts.drop j);have hxr':=hA'.rg _ (Z1 hxl');rw[hxe]at hxr';simp only[atR]at gK;simp[rW,h3,h6,h8,h13,h14,h15,h20,h21,h22,hj,gK];refine zuN rfl rfl (zLc gx gj gN gB (by show x<s'.c;omega) hn (hok _ (Z1 hj)) h8t) ?_;rintro d H' c' lw mx ⟨hH,hLw⟩ hcc;simp only[rG]at hH hcc hLw;have hne:∀y,y≠x->H'.get y=s'.h.get y:=fun y hy=>by rw[hH,if_neg hy]
   have a1:=hne c (by omega);have a2:=hne (c+1) (by omega);have a3:=hne (c+1+1) (by omega);have a4:=hne s.c (by omega);rw[gA]at a1;rw[gN]at a2;rw[gB]at a3;rw[gK]at a4;have hx':=hH x;rw[if_pos rfl,zNi,zp1 (sbT nm b) A.ts hj]at hx';simp[rW,h3,h6,h8,h13,h14,h15,h20,h21,h22,hwj];refine⟨?_,?_,?_,?_,?_,⟨xs',hxn,?_,?_,hD'⟩,fun y hy=> ?_,hcK,?_,hL'.step (X:=x) (by omega) rfl hLw⟩
   .simp[rW,h3,h6,h8,h13,h14,h15,h20,h21,h22,hwj]
   .simp[rW,a1]
   .simp[rW,a2]
   .simp[rW,a3]
   .simp[rW,a4,atR]
   .have hS:=hA'.setT (h':=H') hl2 hxl' (ts:=(A.ts.take (j+1)).map (sbT nm b)++A.ts.drop (j+1)) (by rw[List.getElem_set_self,zmA,zmA]) (by rw[hxe];exact hx') (fun y h1 h2 h3=>hne y (by rw[hxe]at h3;exact h3));rw[List.getElem_set_self,List.set_set]at hS;exact hS
   .simp[rW,];refine zKX hC' fun Y hY=>hne Y ?_
    intro e;exact (hD' Y hY).1 (by rw[e,<-hxe];exact Z1 hxl')
   .simp[rW,];rw[hne y (by omega)];exact hF' y hy
   .simp[rW,];omega
  .rintro s' ⟨⟨h3,h6,h8,h13,h14,h15,h20,h21,h22⟩,hrest⟩;simp[rW,h3,h6,h8,h13,h14,h15,h20,h21,h22];refine⟨?_,hrest⟩;simp[rW,h3,h6,h8,h13,h14,h15,h20,h21,h22]
  .refine⟨?_,?_,?_,?_,?_,⟨xs,?_,?_,?_,hD⟩,fun y hy=> ?_,hc,?_,hL.same ?_ fun y hy=> ?_⟩
   .simp[rW,h3,h6,h13,h14,h15]
   .simp[rW,gA,nc]
   .simp[rW,gN,nc1]
   .simp[rW,gB,nc2]
   .simp[rW,atR]
   .rw[Z0 hxl,hx0]
   .have e:(sbn nm b n q).as.set n ⟨A.r,A.neg,(A.ts.take 0).map (sbT nm b)++A.ts.drop 0⟩ =(sbn nm b n q).as:=by
     have:(⟨A.r,A.neg,(A.ts.take 0).map (sbT nm b)++A.ts.drop 0⟩ :Atm)=(sbn nm b n q).as[n]:=by rw[hget];simp
     rw[this,List.set_getElem_self]
    rw[e];refine hA.up (fun y h1 h2=> ?_) (Z2 _) (Z2 _);have ny:¬(y=s.c):=by omega
    simp[rW,ny]
   .refine ziu hC (fun y h1 h2=> ?_) (Z2 _) (Z2 _);have ny:¬(y=s.c):=by omega
    simp[rW,ny]
   .have ny:¬(y=s.c):=by omega
    simp[rW,ny];exact hF y hy
   .simp[rW,]
   .have hl1:=hL.1;simp only[rG];simp (disch:=omega) only[zb7,zcw]
   .have ny:¬(y=s.c):=by omega
    simp[rW,ny]
  .rintro y s' ⟨rfl,⟨h3,h6,h8,h13,h14,h15,h20,h21,h22⟩,gA,gN,gB,gK,⟨xs',hxn,hA',hC',hD'⟩,hF',hcK,hK,hL'⟩;rw[Z7,List.drop_length,Z22]at hA';simp[rW,h3,h6,h8,h13,h14,h15,h20,h21,h22,hw];refine⟨?_,gA,gN,gB,⟨xs',?_,hC',hD'⟩,hF',?_,hL'.same rfl fun _ _=>rfl⟩
   .simp[rW,h3,h6,h8,h13,h14,h15,h20,h21,h22]
   .rw[hmix];exact hA'
   .simp[rW,];omega
 .rintro s ⟨⟨⟨h3,h6⟩,gA,gN,gB,hM,hF,hc,hL⟩,h13,h14,h15⟩;simp[rW,h3,h6,h13,h14,h15];have e:sbm nm b 0 q=sbn nm b q.as.length q:=by simp[sbm,sbn]
  rw[e];refine⟨?_,gA,gN,gB,hM,hF,hc,hL.same rfl fun _ _=>rfl⟩;simp[rW,h3,h6,h13,h14,h15]
 .refine⟨⟨?_,?_,?_,?_,?_,fun y hy=> ?_,?_,?_,fun _ y hy=> ?_⟩,?_⟩
  .simp[rW,]
  .simp[rW,n02]
  .simp[rW,]
  .simp[rW,tmD]
  .have e:sbn nm b 0 q=q:=by simp[sbn]
   rw[e];refine hM.up fun y h1 h2=> ?_
   have y0:¬y=c:=by omega
   have y1:¬y=c+1:=by omega
   have y2:¬y=c+1+1:=by omega
   simp[rW,y0,y1,y2]
  .have y0:¬y=c:=by omega
   have y1:¬y=c+1:=by omega
   have y2:¬y=c+1+1:=by omega
   simp[rW,y0,y1,y2]
  .simp[rW,]
  .simp only[rG];simp (disch:=omega) only[zb7,zcw];omega
  .have y0:¬y=c:=by omega
   have y1:¬y=c+1:=by omega
   have y2:¬y=c+1+1:=by omega
   simp[rW,y0,y1,y2]
  .simp[rW,]
 .rintro y s ⟨rfl,⟨h3,h6⟩,gA,gN,gB,hM,hF,hc,hL⟩;have hcl:zcx dC=some q.cs.length:=by obtain⟨xs,-,hC,-⟩ :=hM;have:=zvQ hC;simpa [sbm]using this
  simp[rW,h3,h6,gA,gN,gB,hcl];refine zdi q.cs.length (fun n s=>RJ h lo c0 c dA dC nm b (sbm nm b n q) s/\s.tm.get 34=some (dC)/\s.tm.get 35=some (.f (.i .i64 q.cs.length))/\s.tm.get 36=some (.f (.i .i64 n))) (fun x s=>x= .exit 4/\RJ h lo c0 c dA dC nm b (sbC nm b q) s) ?_ ?_ _ ?_ ?_
  .rintro n s hlt ⟨⟨⟨h3,h6⟩,gA,gN,gB,⟨xs,hA,hC,hD⟩,hF,hc,hL⟩,h34,h35,h36⟩;have hw:=zao n (by have:=hq.sc;omega);have hsl:(sbm nm b n q).cs.length=q.cs.length:=zmA _ _ _;have hl1:n< (sbm nm b n q).cs.length:=by omega
   have hget:(sbm nm b n q).cs[n]=q.cs[n]:=(Z8.1 (zp0 (sbK nm b) q.cs hlt)).2;obtain⟨Y,rows,hY,hi,hg,hr,hY1,hY2⟩ :=zvR hC hl1;rw[hget]at hr;have hmix:(sbm nm b (n+1) q).cs=(sbm nm b n q).cs.set n (sbK nm b q.cs[n]):=(zp1 (sbK nm b) q.cs hlt).symm;have h8r:hd8 rows=false:=zKU hC hY hg hl1;have hDY:=hD Y hY;generalize hkq:q.cs[n]=k at hr hmix hget;simp[rW,h3,h6,h34,h35,h36,hlt,gA,hi];refine zuN rfl rfl (zLe hg hr gN gB (by show Y<s.c;omega) hn h8r) ?_;rintro d H1 c1 lw1 mx1 ⟨hH1,hLw1⟩ hcc1;simp only[rG]at hH1 hcc1 hLw1;have hne:∀y,y≠Y->H1.get y=s.h.get y:=fun y hy=>by rw[hH1,if_neg hy]
   have hnl:=(Z8.1 hr).1;have a1:=hne c (by omega);have a2:=hne (c+1) (by omega);have a3:=hne (c+1+1) (by omega);rw[gA]at a1;rw[gN]at a2;rw[gB]at a3;have hY':=hH1 Y;rw[if_pos rfl]at hY';simp[rW,h3,h6,h34,h35,h36,a1,hi];refine zuN rfl rfl (zLh (k:=⟨k.op,sbT nm b k.l,k.r⟩) hY' (by rw[List.getElem?_set_self hnl]) a2 a3 (by show Y<c1;omega) hn ?_) ?_
   .refine zPr (n:=n) (by rw[List.getElem?_set_self hnl]) fun y hy=> ?_
    by_cases h0:n=0
    .subst h0;rw[List.getElem?_set_self hnl]at hy;cases hy;simp[cmD,tmD]
    .rw[List.getElem?_set_ne h0]at hy;cases rows with
     |nil=>simp at hy
     |cons r0 rs=>
      simp at hy;subst hy;exact zAu hC hY hg hl1
   rintro d2 H2 c2 lw2 mx2 ⟨hH2,hLw2⟩ hcc2;simp only[rG]at hH2 hcc2 hLw2;have hne2:∀y,y≠Y->H2.get y=s.h.get y:=fun y hy=>by rw[hH2,if_neg hy];exact hne y hy
   have b1:=hne2 c (by omega);have b2:=hne2 (c+1) (by omega);have b3:=hne2 (c+1+1) (by omega);rw[gA]at b1;rw[gN]at b2;rw[gB]at b3;have hY2':=hH2 Y;rw[if_pos rfl,List.set_set]at hY2';simp[rW,h3,h6,h34,h35,h36,hw];refine⟨?_,?_,?_,?_,⟨xs,?_,?_,hD⟩,fun y hy=> ?_,?_,hL.step2 (X:=Y) (H1:=H1) (by omega) rfl hLw1 hLw2⟩
   .simp[rW,h3,h6,h34,h35,h36]
   .simp[rW,b1]
   .simp[rW,b2]
   .simp[rW,b3]
   .simp[rW,];refine hA.up2 (fun y hy=>hne2 y fun e=>hDY.1 (e▸hy)) (fun B hB=>hne2 B fun e=>hDY.2 (by rw[hB,e]))
   .simp[rW,];have hS:=zDZ (h':=H2) hC hl1 hY hg hY2';have e:sbm nm b (n+1) q=⟨(sbm nm b n q).as,(sbm nm b n q).cs.set n ⟨k.op,sbT nm b k.l,sbT nm b k.r⟩,(sbm nm b n q).ne,(sbm nm b n q).na⟩ :=by
     have:(⟨k.op,sbT nm b k.l,sbT nm b k.r⟩ :Cm)=sbK nm b k:=rfl;rw[this,<-hmix];rfl
    rw[e];exact hS
   .simp[rW,];rw[hne2 y (by omega)];exact hF y hy
   .simp[rW,];omega
  .rintro s ⟨⟨⟨h3,h6⟩,gA,gN,gB,hM,hF,hc,hL⟩,h34,h35,h36⟩;simp[rW,h3,h6,h34,h35,h36];have e:sbm nm b q.cs.length q=sbC nm b q:=by simp[sbm,sbC]
   rw[e]at hM;refine⟨?_,gA,gN,gB,hM,hF,hc,hL.same rfl fun _ _=>rfl⟩;simp[rW,h3,h6,h34,h35,h36]
  .refine⟨⟨?_,gA,gN,gB,hM,hF,hc,hL.same rfl fun _ _=>rfl⟩,?_⟩
   .simp[rW,h3,h6]
   .simp[rW,]
  .rintro y s ⟨rfl,⟨h3,h6⟩,gA,gN,gB,hM,hF,hc,hL⟩;simp[rW,er,zjt];exact⟨⟨hF,hM⟩,fun e=>hM.up fun x _ hx=>(hL.2 e x (by omega)).symm⟩
def fn52:pr.fn 52=some g52:=by kernel_rfl
def zex{q:CQ}(hq:CqG q)(i:Nat):CqG (drp q i):=by
 have hm:∀k∈(drp q i).cs,k∈q.cs:=fun k hk=>(Z4.1 hk).elim Z13 Z21
 have hl:(drp q i).cs.length<=q.cs.length:=by simp[drp];omega
 exact⟨⟨⟨hq.toCqSm.toCqOk.as,fun k hk=>hq.cs k (hm k hk),hq.la,by have:=hq.lc;omega⟩,hq.sa,hq.st,by have:=hq.sc;omega,hq.s2⟩,hq.tn⟩
def ze5{q:CQ}{i:Nat}(hi:i<q.cs.length):(drp q i).cs.length=q.cs.length - 1:=by simp[drp];omega
def zjH{s:Str}{t u:Trm}(ht:zau t)(hu:zau u):zau (sbT s t u):=by unfold sbT;split<;>assumption
def zn9{q:CQ}(hq:CqG q){s:Str}{t:Trm}(ht:zau t):CqG (sbC s t q):=by
 have ha:∀a∈(sbC s t q).as,∃b∈q.as,a=sbA s t b:=fun a h=>by
  obtain⟨b,h1,h2⟩ :=Z12.1 h;exact⟨b,h1,h2.symm⟩
 refine⟨⟨⟨fun a h=> ?_,fun k h=> ?_,by simpa [sbC]using hq.la,by simpa [sbC]using hq.lc⟩,by simpa [sbC]using hq.sa,fun a h=> ?_,by simpa [sbC]using hq.sc,fun a h=> ?_⟩,fun a h=> ?_⟩
 .obtain⟨b,h1,rfl⟩ :=ha a h;have:=hq.toCqSm.toCqOk.as b h1;refine⟨fun u hu=> ?_,by simpa [sbA]using this.2⟩;obtain⟨v,h3,rfl⟩ :=Z12.1 hu;exact zjH ht (this.1 v h3)
 .obtain⟨b,h1,rfl⟩ :=Z12.1 h;have:=hq.cs b h1;exact⟨zjH ht this.1,zjH ht this.2⟩
 .obtain⟨b,h1,rfl⟩ :=ha a h;simpa [sbA]using hq.st b h1
 .obtain⟨b,h1,rfl⟩ :=ha a h;simpa [sbA]using hq.s2 b h1
 .obtain⟨b,h1,rfl⟩ :=ha a h;simpa [sbA]using hq.tn b h1
theorem zKS{h':T Ob}{lo c Y i:Nat}{q:CQ}{tail:List (List D)}(hi:i<q.cs.length)(h1:lo<=Y)(h2:Y<c)(hw:∀x∈tail,x.length=9)(hl:q.cs.length+tail.length<=10000)(hg:h'.get Y=some (.arr 9 0 ((q.cs.map cmD).take i++(q.cs.map cmD).drop (i+1)++zK::tail))):
  CsD h' lo c (.sl Y 0 ((q.cs.map cmD).take i++(q.cs.map cmD).drop (i+1)).length 9 (q.cs.length+tail.length) false) (drp q i):=by
 have e:(q.cs.map cmD).take i++(q.cs.map cmD).drop (i+1)=(drp q i).cs.map cmD:=by simp[drp,List.map_take,List.map_drop]
 have hdl:=ze5 hi;rw[e]at hg|-;refine .inr ⟨Y,zK::tail,false,?_,hg,fun _=>rfl,fun _=>rfl,h1,h2,fun x hx=> ?_,?_⟩
 .rw[Z18,hdl,Z23]
  congr 1
  omega
 .rcases Z5.1 hx with rfl|hx
  .rfl
  .exact hw x hx
 .rw[hdl,Z23];omega
def zRp{s:St}{dst:Option Nat}{Q:St->Prop}{f:Nat}{ds:List D}{l:List Go.Vse.Op}(P:St->Prop)(h1:P s)(h2:∀s,P s->WQ pr f ds s dst l Q):WQ pr f ds s dst l Q:=h2 s h1
def zAH{q:CQ}{h:T Ob}{lo c0 c i:Nat}{dA dC:D}(hc0:c0<=c)(hM:MQ h lo c0 dA dC q)(hi:i<q.cs.length):Eff pr 92 [dC,.f (.i .i64 ((i:Nat):Int)),.f (.i .i64 ((i:Int)+1))] h c fun d h' c'=>(∀x,x<lo\/c0<=x->h'.get x=h.get x)/\MQ h' lo c0 dA d (drp q i):=by
 obtain⟨xs,hA,hC,hD⟩ :=hM;rcases hC with⟨-,e,-⟩ |⟨Y,tail,ex,rfl,hY,h2,h3,h4,h5,h6,h7⟩
 .rw[e]at hi;simp at hi
 have hex:ex=false:=h3 fun e=>by rw[e]at hi;simp at hi
 subst hex;have hDY:=hD Y rfl;have:=eff92 (c:=c) (L:=q.cs.map cmD) (tail:=tail) hY (by simpa using hi) (by simpa using h7) (fun x hx=>by
  rcases Z4.1 hx with hx|hx
  .obtain⟨k,-,rfl⟩ :=Z12.1 hx;rfl
  .exact h6 x hx) (by omega)
 rw[Z18]at this;obtain⟨r,g1,⟨g2,g3⟩,g4,g5⟩ :=this;refine⟨r,g1,⟨fun x hx=>by rw[g3 x,if_neg (by omega)],?_⟩,g4,g5⟩;rw[g2];have hY':=g3 Y;rw[if_pos rfl]at hY';refine⟨xs,hA.up2 (fun x hx=>by rw[g3,if_neg fun e=>hDY.1 (by rw[<-e];exact hx)]) (fun B hB=>by rw[g3,if_neg fun e=>hDY.2 (by rw[hB,e])]),zKS hi h4 h5 h6 h7 hY',fun Y' hY''=> ?_⟩;simp only[D.oid,Z45]at hY'';subst hY'';exact hDY
def SJ(h0:T Ob)(lo c:Nat)(hd:List Str)(R:Option CQ)(k:Nat)(s:St):Prop:=∃(dA dC:D) (q:CQ),(k=q.cs.length/\CqG q/\smp hd (k+1) q=R)/\(s.tm.get 2=some (.ptr c 2 0 0)/\s.tm.get 3=some (.ptr (c+1) 1 0 0)/\s.tm.get 4=some (.ptr (c+1+1) 2 0 0))/\s.h.get c=some (.arr 2 0 [[dA,dC]])/\s.h.get (c+1)=some (.arr 1 0 [[.f (zaq hd)]])/\s.h.get (c+1+1)=some (.arr 2 0 [[.f .nils,.f .nils]])/\MQ s.h lo c dA dC q/\(∀x,x<lo->s.h.get x=h0.get x)/\c+3<=s.c/\s.lw<=c
def SR(h0:T Ob)(lo c:Nat)(R:Option CQ)(x:Ex)(s:St):Prop:=x= .ret/\∃(e1 e2:D) (b:Bool),(s.tm.get 4=some (.ptr (c+1+1) 2 0 0)/\s.tm.get 5=some (.f (.b b)))/\s.h.get (c+1+1)=some (.arr 2 0 [[e1,e2]])/\(∀x,x<lo->s.h.get x=h0.get x)/\(match R with
 |none=>b=false/\e1= .f .nils/\e2= .f .nils
 |some q=>b=true/\MQ s.h lo c e1 e2 q)/\c+3<=s.c
def zwp{α:Type}{l:List α}{p:α->Bool}(h:l.findIdx? p=none):ixP l p= -1:=by unfold ixP;rw[h]
def zwu{α:Type}{l:List α}{p:α->Bool}{i:Nat}(h:l.findIdx? p=some i):ixP l p=i:=by unfold ixP;rw[h]
def zoM{α:Type}{l:List α}{p:α->Bool}{i:Nat}(h:l.findIdx? p=some i):∃hi:i<l.length,p l[i]=true:=by
 obtain⟨h1,h2,-⟩ :=Z26.1 h;exact⟨h1,h2⟩
theorem eff52(hd:List Str)(hh:hd.length<1000)(q0:CQ)(hq0:CqG q0){h:T Ob}{lo c:Nat}{dA dC:D}(hlo:lo<=c)(hM0:MQ h lo c dA dC q0):
  Eff pr 52 [.ag [dA,dC],.f (zaq hd)] h c fun d h' c'=>(∀x,x<lo->h'.get x=h.get x)/\(match smp hd (q0.cs.length+1) q0 with
   |none=>d= .tu [.ag [.f .nils,.f .nils],.f (.b false)]
   |some q'=>∃dA' dC',d= .tu [.ag [dA',dC'],.f (.b true)]/\MQ h' lo c dA' dC' q'):=by
 refine zci zbi fn52 ?_;have hcA:dA.cells=some [dA]:=by obtain⟨xs,hA,-⟩ :=hM0;exact za3 hA.gr
 have hcC:dC.cells=some [dC]:=by obtain⟨xs,-,hC,-⟩ :=hM0;exact zfg hC
 have n02:¬(c=c+1+1):=by omega
 simp only[g52,rU];have hcS:(D.f (zaq hd)).cells=some [.f (zaq hd)]:=zfL _ _;simp[rW,st0,zae,hcA,hcC,zaN,hcS];refine zfE (SJ h lo c hd (smp hd (q0.cs.length+1) q0)) (SR h lo c (smp hd (q0.cs.length+1) q0)) ?_ q0.cs.length _ ?_ ?_
 .generalize smp hd (q0.cs.length+1) q0=R;clear hM0 hcA hcC hq0;rintro k s ⟨dA,dC,q,⟨rfl,hq,hR⟩,⟨h2,h3,h4⟩,gA,gH,gR,hM,hF,hc,hlw⟩;have hcA:dA.cells=some [dA]:=by obtain⟨xs,hA,-⟩ :=hM;exact za3 hA.gr
  obtain⟨xs,hA,hC,hD⟩ :=hM;have hcC:=zfg hC;simp[rW,h2,h3,h4,gA,gH,gR,n02];refine zdo (d:= .f (.b (q.cs.any alF))) ?_ ?_ ?_
  .simp only[rG];exact ro88 q alF (by have:=hq.sc;omega) rfl hC fun n hn=>ro89 _ (hq.cs _ (Z1 hn))
  .simp only[rG];omega
  intro mx;cases hany:q.cs.any alF with
  |true=>
   have hR':R=none:=by rw[<-hR];unfold smp;rw[if_pos hany]
   subst hR';simp[rW,h2,h3,h4,gA,gH,gR];refine⟨by omega,rfl,.f .nils,.f .nils,false,?_,?_,fun x hx=> ?_,⟨rfl,rfl,rfl⟩,?_⟩
   .simp[rW,h4]
   .simp[rW,]
   .have nx:¬(x=c+1+1):=by omega
    simp[rW,nx];exact hF x hx
   .simp[rW,];exact hc
  |false=>
   simp[rW,h2,h3,h4,gA,gH,gR];refine zdo (d:= .f (.i .i64 (ixP q.cs alT))) ?_ ?_ ?_
   .simp only[rG];exact zFf q alT (by have:=hq.sc;omega) rfl hC fun n hn=>ro91 _ (hq.cs _ (Z1 hn))
   .simp only[rG];omega
   intro mx2;cases hix:q.cs.findIdx? alT with
   |some i=>
    rw[zwu hix];obtain⟨hi,-⟩ :=zoM hix;have hil:=hq.sc;have hw:IntKind.i64.wrap ((i:Int)+1)=(i:Int)+1:=IntWalk.i64_in _ (by omega);simp[rW,h2,h3,h4,gA,gH,gR,hw];refine zcz rfl rfl (zAH (c0:=c) (by show c<=s.c;omega) ⟨xs,hA,hC,hD⟩ hi) ?_;rintro d H1 c1 lw1 mx1 ⟨hH,hM1⟩ hcc;simp only[rG]at hH hM1 hcc;have a0:=hH c (by omega);have a1:=hH (c+1) (by omega);have a2:=hH (c+1+1) (by omega);rw[gA]at a0;rw[gH]at a1;rw[gR]at a2;have hcd:d.cells=some [d]:=by obtain⟨ys,-,hC1,-⟩ :=hM1;exact zfg hC1
    simp[rW,h2,h3,h4,a0,hcd];refine⟨by omega,?_⟩;rw[zdk];refine⟨(drp q i).cs.length,by rw[ze5 hi];omega,dA,d,drp q i,⟨rfl,zex hq i,?_⟩,?_,?_,?_,?_,hM1.up fun x h1 h2=> ?_,fun x hx=> ?_,?_,?_⟩
    .rw[ze5 hi,show q.cs.length - 1+1=q.cs.length by omega,<-hR,smp,hany,hix];simp
    .simp[rW,h2,h3,h4]
    .simp[rW,]
    .simp[rW,a1]
    .have n2:¬(c+1+1=c):=by omega
     simp[rW,a2,n2]
    .have nx:¬(x=c):=by omega
     simp[rW,nx]
    .have nx:¬(x=c):=by omega
     simp[rW,nx];rw[hH x (by omega)];exact hF x hx
    .simp[rW,];omega
    .simp only[rG];have:=Nat.min_le_left s.lw lw1;simp only[zcA];split<;>omega
   |none=>
    rw[zwp hix];have n0:¬(c=s.c):=by omega
    have n1:¬(c+1=s.c):=by omega
    have n2:¬(c+1+1=s.c):=by omega
    simp[rW,h2,h3,h4,gA,gH,gR,n0,n1,n2];refine zdo (d:= .f (.i .i64 (ixP q.cs (eqV hd)))) ?_ ?_ ?_
    .simp only[rG];refine zFf q (eqV hd) (cap:=[.ptr s.c 1 0 0]) (by have:=hq.sc;omega) rfl (ziu hC (fun x h1 h2=> ?_) (Z2 _) (Z2 _)) fun n hn=>ro94 _ hd hh (hq.cs _ (Z1 hn)) (H:=c+1) (X:=s.c) ?_ (by omega) ?_ (by omega)
     .have nx:¬(x=s.c):=by omega
      simp[rW,nx]
     .simp[rW,n1,gH]
     .simp[rW,]
    .simp only[rG];simp (disch:=omega) only[zb7,zcw];omega
    intro mx3;cases hix2:q.cs.findIdx? (eqV hd)with
    |none=>
     have hR':R=some q:=by rw[<-hR,smp,hany,hix,hix2];simp
     subst hR';rw[zwp hix2];have n3:¬(c+1+1=c):=by omega
     simp[rW,h2,h3,h4,gA,gH,gR,n0,n1,n2,hcA,hcC];refine⟨by omega,rfl,dA,dC,true,?_,?_,fun x hx=> ?_,⟨rfl,xs,hA.up (fun x h1 h2=> ?_) (Z2 _) (Z2 _),ziu hC (fun x h1 h2=> ?_) (Z2 _) (Z2 _),hD⟩,?_⟩
     .simp[rW,h4]
     .simp[rW,]
     .have nx:¬(x=c+1+1):=by omega
      have nx2:¬(x=s.c):=by omega
      simp[rW,nx,nx2];exact hF x hx
     .have nx:¬(x=c+1+1):=by omega
      have nx2:¬(x=s.c):=by omega
      simp[rW,nx,nx2]
     .have nx:¬(x=c+1+1):=by omega
      have nx2:¬(x=s.c):=by omega
      simp[rW,nx,nx2]
     .simp[rW,];omega
    |some i=>
     rw[zwu hix2];obtain⟨hi,hpi⟩ :=zoM hix2;have hil:=hq.sc;have hw:IntKind.i64.wrap ((i:Int)+1)=(i:Int)+1:=IntWalk.i64_in _ (by omega);obtain⟨Y,rows,hY,hia,hg,hr,hY1,hY2⟩ :=zvR hC hi;have hkok:=hq.cs _ (Z1 hi);have hR2:smp hd (q.cs.length) (elm hd q.cs[i] (drp q i))=R:=by
      rw[<-hR,smp,hany,hix,hix2];simp[Z0 hi]
     generalize hk:q.cs[i]=k at hr hpi hkok hR2;have nY:¬(Y=s.c):=by omega
     have m0:¬(c=s.c+1):=by omega
     have m1:¬(c+1=s.c+1):=by omega
     have m2:¬(c+1+1=s.c+1):=by omega
     have hil0:¬((i:Int)<0):=by omega
     simp[rW,h2,h3,h4,gA,gH,gR,n0,n1,n2,hia,hg,hr,nY,cmD,tmD,hil0,m0,m1,m2,hw];refine zcz rfl rfl (zAH (c0:=c) (lo:=lo) (dA:=dA) (q:=q) (by show c<=s.c+1+1;omega) ⟨xs,hA.up (fun x h1 h2=> ?_) (Z2 _) (Z2 _),ziu hC (fun x h1 h2=> ?_) (Z2 _) (Z2 _),hD⟩ hi) ?_
     .have nx:¬(x=s.c):=by omega
      have nx2:¬(x=s.c+1):=by omega
      simp[rW,nx,nx2]
     .have nx:¬(x=s.c):=by omega
      have nx2:¬(x=s.c+1):=by omega
      simp[rW,nx,nx2]
     rintro d H1 c1 lw1 mx1 ⟨hH,hM1⟩ hcc;simp only[rG]at hH hM1 hcc;have hfr:∀x,x<lo->H1.get x=h.get x:=fun x hx=>by
      rw[hH x (by omega)];have nx:¬(x=s.c):=by omega
      have nx2:¬(x=s.c+1):=by omega
      simp only[Vse.T.zad,nx,nx2,if_false];exact hF x hx
     have a0:=hH c (by omega);have a1:=hH (c+1) (by omega);have a2:=hH (c+1+1) (by omega);have a3:=hH s.c (by omega);have a4:=hH (s.c+1) (by omega);simp[Vse.T.zad,n0,n1,n2,m0,m1,m2,gA,gH,gR]at a0 a1 a2 a3 a4;have hcd:d.cells=some [d]:=by obtain⟨ys,-,hC1,-⟩ :=hM1;exact zfg hC1
     have p0:¬(s.c=c):=by omega
     have p1:¬(s.c+1=c):=by omega
     simp[rW,h2,h3,h4,a0,a3,a4,hcd,p0,p1];refine⟨by omega,?_⟩;obtain⟨Hc,hHc⟩ :∃Hc,Hc=H1.set c (.arr 2 0 [[dA,d]]):=⟨_,rfl⟩
     obtain⟨f7,hf7⟩ :∃f7,f7=s.c:=⟨_,rfl⟩
     have hHx:∀x,x≠c->Hc.get x=H1.get x:=fun x hx=>by rw[hHc,Vse.T.zad,if_neg hx]
     have e0:Hc.get c=some (.arr 2 0 [[dA,d]]):=by rw[hHc,Vse.T.zad,if_pos rfl]
     have e1:Hc.get (c+1)=some (.arr 1 0 [[.f (zaq hd)]]):=by rw[hHx _ (by omega)];exact a1
     have e2:Hc.get (c+1+1)=some (.arr 2 0 [[.f .nils,.f .nils]]):=by rw[hHx _ (by omega)];exact a2
     have e4:Hc.get (f7+1)=some (.arr 9 0 [cmD k]):=by rw[hHx _ (by omega),hf7];simp only[cmD,tmD,Z29,Z28];exact a4
     have hMc:MQ Hc lo c dA d (drp q i):=hM1.up fun x h1 h2=>hHx x (by omega)
     have hfc:∀x,x<lo->Hc.get x=h.get x:=fun x hx=>by rw[hHx x (by omega)];exact hfr x hx
     have hcc1:c+3<=c1/\f7+1<c1:=by omega
     refine zRp (fun s5=>(s5.tm.get 2=some (.ptr c 2 0 0)/\s5.tm.get 3=some (.ptr (c+1) 1 0 0)/\s5.tm.get 4=some (.ptr (c+1+1) 2 0 0)/\s5.tm.get 7=some (.ptr f7 1 0 0)/\s5.tm.get 9=some (.ptr (f7+1) 9 0 0))/\s5.h=Hc/\s5.c=c1/\s5.lw<=c) ⟨?_,?_,?_,?_⟩ ?_
     .simp[rW,h2,h3,h4,hf7]
     .simp[rW,hHc]
     .simp[rW,]
     .simp only[rG];simp (disch:=omega) only[zb7,zcw];have g2:=Nat.min_le_left s.lw lw1;simp only[zcA];split<;>omega
     clear hHx hM1 hfr a0 a1 a2 a3 a4 hH hcc;rintro s5 ⟨⟨h2,h3,h4,h7,h9⟩,hS,hSc,hSl⟩;refine zdo (d:= .f (.b (frT hd k.r))) ?_ ?_ ?_
     .rw[hS,hSc];exact zFi k.r hd hh hkok.2 (H:=c+1) e1 (by omega)
     .omega
     intro mx4;cases hfr2:frT hd k.r with
     |true=>
      have hfv:frT hd k.r=true:=hfr2;have hsv:∃sv,k.r= .var sv:=by
       cases hkr:k.r with
       |var sv=>exact⟨sv,rfl⟩
       |cst z=>rw[hkr]at hfv;cases hfv
      obtain⟨sv,hsv⟩ :=hsv;have hne:tv k.r≠[]:=by have:=hkok.2;rw[hsv]at this|-;exact this
      have hnm:nmT k.r=tv k.r:=by rw[hsv];rfl
      simp[rW,h2,h3,h4,h7,h9,hS,e0,e4,cmD,tmD,hcd,hcA];refine zcz (s:=_) (by simp only[rG];exact hS) (by simp only[rG];exact hSc) (zHP (drp q i) (zex hq i) (tv k.r) k.l hne (lo:=lo) (c0:=c) hlo (by omega) hMc) ?_;rintro d2 H2 c2 lw2 mx5 ⟨hH2,hM2⟩ hcc2;have b0:=hH2 c (by omega);have b1:=hH2 (c+1) (by omega);have b2:=hH2 (c+1+1) (by omega);rw[e0]at b0;rw[e1]at b1;rw[e2]at b2;simp[rW,];rw[zdk];refine⟨(sbC (tv k.r) k.l (drp q i)).cs.length,?_,dA,d,sbC (tv k.r) k.l (drp q i),⟨rfl,zn9 (zex hq i) hkok.1,?_⟩,?_,?_,?_,?_,hM2.up fun x h1 h2=> ?_,fun x hx=> ?_,?_,?_⟩
      .have e:(sbC (tv k.r) k.l (drp q i)).cs.length=(drp q i).cs.length:=Z18 ..;rw[e,ze5 hi];omega
      .have e:(sbC (tv k.r) k.l (drp q i)).cs.length=(drp q i).cs.length:=Z18 ..;rw[e,ze5 hi,show q.cs.length - 1+1=q.cs.length by omega,<-hR2];unfold elm;rw[if_pos hfv,hnm]
      .simp[rW,h2,h3,h4]
      .simp[rW,b0]
      .simp[rW,b1]
      .simp[rW,b2]
      .simp[rW,]
      .simp[rW,];rw[hH2 x (.inl hx)];exact hfc x hx
      .simp[rW,];omega
      .simp only[rG];exact Z3 (Nat.min_le_left _ _) hSl
     |false=>
      have hfv:frT hd k.l=true:=by
       unfold eqV at hpi;rw[hfr2]at hpi;simp at hpi;exact hpi.2
      have hsv:∃sv,k.l= .var sv:=by
       cases hkr:k.l with
       |var sv=>exact⟨sv,rfl⟩
       |cst z=>rw[hkr]at hfv;cases hfv
      obtain⟨sv,hsv⟩ :=hsv;have hne:tv k.l≠[]:=by have:=hkok.1;rw[hsv]at this|-;exact this
      have hnm:nmT k.l=tv k.l:=by rw[hsv];rfl
      simp[rW,h2,h3,h4,h7,h9,hS,e0,e4,cmD,tmD,hcd,hcA];refine zcz (s:=_) (by simp only[rG];exact hS) (by simp only[rG];exact hSc) (zHP (drp q i) (zex hq i) (tv k.l) k.r hne (lo:=lo) (c0:=c) hlo (by omega) hMc) ?_;rintro d2 H2 c2 lw2 mx5 ⟨hH2,hM2⟩ hcc2;have b0:=hH2 c (by omega);have b1:=hH2 (c+1) (by omega);have b2:=hH2 (c+1+1) (by omega);rw[e0]at b0;rw[e1]at b1;rw[e2]at b2;simp[rW,];rw[zdk];refine⟨(sbC (tv k.l) k.r (drp q i)).cs.length,?_,dA,d,sbC (tv k.l) k.r (drp q i),⟨rfl,zn9 (zex hq i) hkok.2,?_⟩,?_,?_,?_,?_,hM2.up fun x h1 h2=> ?_,fun x hx=> ?_,?_,?_⟩
      .have e:(sbC (tv k.l) k.r (drp q i)).cs.length=(drp q i).cs.length:=Z18 ..;rw[e,ze5 hi];omega
      .have e:(sbC (tv k.l) k.r (drp q i)).cs.length=(drp q i).cs.length:=Z18 ..;rw[e,ze5 hi,show q.cs.length - 1+1=q.cs.length by omega,<-hR2];unfold elm;rw[if_neg (by rw[hfr2];exact Bool.false_ne_true),hnm]
      .simp[rW,h2,h3,h4]
      .simp[rW,b0]
      .simp[rW,b1]
      .simp[rW,b2]
      .simp[rW,]
      .simp[rW,];rw[hH2 x (.inl hx)];exact hfc x hx
      .simp[rW,];omega
      .simp only[rG];exact Z3 (Nat.min_le_left _ _) hSl
 .refine⟨dA,dC,q0,⟨rfl,hq0,rfl⟩,?_,?_,?_,?_,hM0.up fun x h1 h2=> ?_,fun x hx=> ?_,?_,?_⟩
  .simp[rW,]
  .simp[rW,n02]
  .simp[rW,]
  .simp[rW,]
  .have y0:¬x=c:=by omega
   have y1:¬x=c+1:=by omega
   have y2:¬x=c+1+1:=by omega
   simp[rW,y0,y1,y2]
  .have y0:¬x=c:=by omega
   have y1:¬x=c+1:=by omega
   have y2:¬x=c+1+1:=by omega
   simp[rW,y0,y1,y2]
  .simp[rW,]
  .simp only[rG];simp (disch:=omega) only[zb7,zcw];omega
 .rintro x s ⟨rfl,e1,e2,b,⟨h4,h5⟩,gR,hF,hm,hc⟩;cases hR:smp hd (q0.cs.length+1) q0 with
  |none=>
   rw[hR]at hm;obtain⟨rfl,rfl,rfl⟩ :=hm;simp[rW,h4,h5,gR,zbl];exact hF
  |some q'=>
   rw[hR]at hm;obtain⟨rfl,hm⟩ :=hm;simp[rW,h4,h5,gR,zbl];obtain⟨xs,hA,hC,hD⟩ :=hm;refine⟨⟨hF,e1,e2,⟨rfl,rfl⟩,xs,hA.up (fun _ _ _=>rfl) (Z2 _) (by omega),ziu hC (fun _ _ _=>rfl) (Z2 _) (by omega),hD⟩,fun _ h1 h2=>⟨_,_,⟨(zl4 hA h1).1,(zhg hC h2).1⟩,MQ.nil (zl4 hA h1).2 (zhg hC h2).2.1 (zhg hC h2).2.2⟩⟩
end Go.Proofs.YtmnkdfjljkhneaaGreat
end
