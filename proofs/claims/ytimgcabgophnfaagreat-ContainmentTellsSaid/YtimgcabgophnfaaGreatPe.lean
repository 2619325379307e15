/- The program's groups: empty lists are left out. -/
import Derived.Test.YtimgcabgophnfaaGreatPd
import Derived.KernelRfl
import Derived.IntWalk
set_option linter.all false
section
namespace Go.Proofs.YtimgcabgophnfaaGreat
open Go Go.Vse Go.Vse.Sm
set_option maxRecDepth 100000
set_option maxHeartbeats 1000000
set_option linter.all false
theorem fn71:pr.fn 71=some g71:=by kernel_rfl
theorem fn97:pr.fn 97=some g97:=by kernel_rfl
theorem fn70:pr.fn 70=some g70:=by kernel_rfl
theorem zGN{e:D}{k:Nat}(hk:zcr e=some k){h:T Ob}{c:Nat}:RO pr 71 [e] h c (.f (.b (decide (k=0)))):=by
 refine zc3 zbB fn71 rfl ?_;simp only[g71,rU]
 by_cases h0:k=0
 ·subst h0;simp[rW,st0,zae,hk,za8]
 ·have h1:¬(k:Int)=0:=by omega
  simp[rW,st0,zae,hk,za8,h0,h1]
theorem zhJ{els:List D}{n:Nat}(hn:n<els.length):(els.map fun e=>[e])[n]? =some [els[n]]:=by simp[List.getElem?_eq_getElem hn]
def zel(ln:D->Nat)(e:D):Bool:=decide (ln e=0)
theorem ro97(els:List D)(ln:D->Nat)(hln:∀e∈els,zcr e=some (ln e))(hl:els.length<100000){h:T Ob}{c Mb:Nat}{rows:List (List D)}(gM:h.get Mb=some (.arr 1 0 rows))(hrw:∀n (hn:n<els.length),rows[n]? =some [els[n]]):
  RO pr 97 [.sl Mb 0 els.length 1 els.length true,.f (.fn 71)] h c (.f (.i .i64 (ixP els (zel ln)))):=by
 refine zc3 zbB fn97 rfl ?_;simp only[g97,rU];simp[rW,st0,zae];refine zd2 els (zel ln) (fun n s=>s.tm.get 0=some (.sl Mb 0 els.length 1 els.length true)/\s.tm.get 1=some (.f (.fn 71))/\s.tm.get 7=some (.f (.i .i64 els.length))/\s.tm.get 8=some (.f (.i .i64 n))/\s.h=h/\s.c=c/\s.lw=c) (fun x s=>x= .exit 0/\s.lw=c) (fun n y s=>y= .ret/\s.tm.get 4=some (.f (.i .i64 n))/\s.lw=c) ?_ ?_ _ ?_ ?_ ?_
 ·rintro n s hn ⟨h0,h1,h7,h8,eh,ec,el⟩;have hw:=zao n (by omega);have e1:=hrw n hn;have hle:=hln _ (List.getElem_mem hn);generalize els[n]=e at e1 hle⊢;simp[rW,h0,h1,h7,h8,hn,eh,gM,e1];refine zcp (d:= .f (.b (zel ln e))) (zGN hle) ?_ ?_
  ·simp only[rG];omega
  ·intro mx;cases zel ln e with
   |true=>simp[rW,h0,h1,h7,h8,el]
   |false=>simp[rW,h0,h1,h7,h8,hw,eh,ec,el]
 ·rintro s ⟨h0,h1,h7,h8,eh,ec,el⟩;simp[rW,h0,h1,h7,h8,el]
 ·simp[rW,st0,zae]
 ·rintro h z s ⟨rfl,el⟩;rw[zjt h];simp[rW,za8,el]
 ·rintro n hn hp hm z s ⟨rfl,h4,el⟩;rw[zic hn hp hm];simp[rW,h4,za8,el]
def clrO(es id off m es' c:Nat)(z:List F):Ob->Option Rs
 | .arr es'' ro old=>if es=es'/\es'=es''/\off+m≤old.length/\ro≤off/\zem old (old.take off++List.replicate m (z.map D.f)++old.drop (off+m))=true then
     some {d:= .f .un,rd:=[id],wr:=[(id,some (.arr es ro (old.take off++List.replicate m (z.map D.f)++old.drop (off+m))))],c}
    else none
 |_=>none
theorem zxc{es id off m es' c es'' ro:Nat}{z:List F}{old:List (List D)}:clrO es id off m es' c z (.arr es'' ro old)=if es=es'/\es'=es''/\off+m≤old.length/\ro≤off/\zem old (old.take off++List.replicate m (z.map D.f)++old.drop (off+m))=true then
     some {d:= .f .un,rd:=[id],wr:=[(id,some (.arr es ro (old.take off++List.replicate m (z.map D.f)++old.drop (off+m))))],c}
    else none:=rfl
theorem zLC(h:Nat->Option Ob)(c es:Nat)(z:List F)(id off m es' lim:Nat)(ex:Bool):opv h c (.clr es z (.sl id off m es' lim ex))=om (h id) (clrO es id off m es' c z):=by
 simp only[opv,om];cases h id with
 |none=>rfl
 |some o=>cases o<;>rfl
def slO(es id off len es' lim:Nat)(ex:Bool)(l r:Nat):Ob->Option (D×List Nat)
 | .arr es'' _ _=>if es=es'/\es'=es''/\l≤r/\(off+r≤lim\/r≤len)then some (.sl id (off+l) (r - l) es lim ex,[id])else none
 |_=>none
theorem zrE{es id off len es' lim:Nat}{ex:Bool}{l r es'' ro:Nat}{els:List (List D)}:slO es id off len es' lim ex l r (.arr es'' ro els)=if es=es'/\es'=es''/\l≤r/\(off+r≤lim\/r≤len)then some (.sl id (off+l) (r - l) es lim ex,[id])else none:=rfl
theorem zA9{es:Nat}{h:Nat->Option Ob}{id off len es' lim:Nat}{ex:Bool}{lo hi:Option D}:sliceB es h (.sl id off len es' lim ex) lo hi none=om (h id) fun o=>om (za9 0 lo) fun l=>om (za9 len hi) fun r=>slO es id off len es' lim ex l r o:=by
 simp only[sliceB,om];cases h id with
 |none=>rfl
 |some o=>
  cases o with
  |map _=>
   simp only[Option.bind_some];cases za9 0 lo with
   |none=>rfl
   |some l=>simp only[Option.bind_some];cases za9 len hi<;>rfl
  |arr es'' ro els=>
   simp only[Option.bind_some];cases za9 0 lo with
   |none=>rfl
   |some l=>simp only[Option.bind_some];cases za9 len hi<;>rfl
def nel(ln:D->Nat)(els:List D):List D:=els.filter fun e=>!zel ln e
def D1(els:List D)(ln:D->Nat)(h:T Ob)(c Mb:Nat)(j:Nat)(s:St):Prop:=∃rows,s.tm.get 0=some (.sl Mb 0 els.length 1 els.length true)/\s.tm.get 1=some (.f (.fn 71))/\s.tm.get 5=some (.f (.i .i64 ((nel ln (els.take j)).length:Int)))/\s.tm.get 6=some (.f (.i .i64 j))/\s.h.get Mb=some (.arr 1 0 rows)/\rows.length=els.length/\
 rows.take (nel ln (els.take j)).length=(nel ln (els.take j)).map (fun e=>[e])/\(∀n (hn:n<els.length),j≤n->rows[n]? =some [els[n]])/\(nel ln (els.take j)).length<j/\(∀id,id<c->id≠Mb->s.h.get id=h.get id)/\c≤s.c/\hd8 rows=false/\(∀n,n<els.length->∃x,rows[n]? =some [x])/\s.lw≤c
theorem zx2(ln:D->Nat)(els:List D){j:Nat}(h:j<els.length):nel ln (els.take (j+1))=if zel ln els[j]=true then nel ln (els.take j)else nel ln (els.take j)++[els[j]]:=by
 unfold nel;rw[List.take_add_one,List.getElem?_eq_getElem h,List.filter_append,Option.toList_some,List.filter_cons,List.filter_nil];cases zel ln els[j]<;>simp
theorem zmA{e:D}{k:Nat}(h:zcr e=some k)(l:List (List D)):hd8 ([e]::l)=false:=by
 cases e with
 |f x=>cases x<;>simp[zcr]at h<;>rfl
 |_=>rfl
theorem zMW(rows:List (List D))(h:hd8 rows=false){e:D}{k:Nat}(he:zcr e=some k)(i:Nat):hd8 (rows.set i [e])=false:=by
 cases rows with
 |nil=>rfl
 |cons r l=>
  cases i with
  |zero=>exact zmA he _
  |succ i=>
   simp only[List.set_cons_succ]
   revert h
   unfold hd8;split
   ·simp
   ·split<;>simp_all
theorem ix_ge{α:Type}{l:List α}{p:α->Bool}:ixP l p= -1\/∃n,∃h:n<l.length,ixP l p=n/\p l[n]=true/\∀m (h':m<n),p (l[m]'(by omega))=false:=by
 cases h:l.findIdx? p with
 |none=>exact .inl (by simp[ixP,h])
 |some n=>
  rw[List.findIdx?_eq_some_iff_getElem]at h;obtain⟨h1,h2,h3⟩ :=h;exact .inr ⟨n,h1,zic h1 h2 (fun m hm=>by simpa using h3 m hm),h2,fun m hm=>by simpa using h3 m hm⟩
theorem eff70(els:List D)(ln:D->Nat)(hln:∀e∈els,zcr e=some (ln e))(hce:∀e∈els,e.cells=some [e])(hl:els.length<100000){h:T Ob}{c Mb:Nat}{rows:List (List D)}(gM:h.get Mb=some (.arr 1 0 rows))(hrl:rows.length=els.length)(hrw:∀n (hn:n<els.length),rows[n]? =some [els[n]])(hM:Mb<c)(h8:hd8 rows=false):
  Eff pr 70 [.sl Mb 0 els.length 1 els.length true,.f (.fn 71)] h c fun d h' _=>∃rows' lim ex,d= .sl Mb 0 (nel ln els).length 1 lim ex/\h'.get Mb=some (.arr 1 0 rows')/\rows'.take (nel ln els).length=(nel ln els).map (fun e=>[e])/\∀id,id<c->id≠Mb->h'.get id=h.get id:=by
 refine zdA zbB fn70 ?_;simp only[g70,rU];simp[rW,st0,zae];refine zcp (ro97 els ln hln hl (by simp only[rG];exact gM) hrw) ?_ ?_
 ·simp only[rG];omega
 intro mx;rcases ix_ge (l:=els) (p:=zel ln)with hx|⟨i,hi,hx,hz,hm⟩
 ·rw[hx];have hn:nel ln els=els:=by
   unfold nel;rw[List.filter_eq_self];intro e he
   by_cases hz:zel ln e=true
   ·obtain⟨n,hn,rfl⟩ :=List.mem_iff_getElem.1 he;have:els.findIdx? (zel ln)=none:=by
     cases hf:els.findIdx? (zel ln)with
     |none=>rfl
     |some k=>simp[ixP,hf]at hx
    rw[List.findIdx?_eq_none_iff]at this;rw[this _ he]at hz;cases hz
   ·simpa using hz
  have hrows:rows=els.map fun e=>[e]:=by
   apply List.ext_getElem?;intro n
   by_cases hn:n<els.length
   ·rw[hrw n hn,zhJ hn]
   ·rw[List.getElem?_eq_none (by omega),List.getElem?_eq_none (by simp;omega)]
  simp[rW,zct,hn];exact⟨rows,gM,by rw[hrows,<-List.length_map (f:=fun e=>[e]),List.take_length]⟩
 ·rw[hx];have hne:¬((i:Int)= -1):=by omega
  have hw:=zao i (by omega);have hn0:nel ln (els.take (i+1))=els.take i:=by
   rw[zx2 ln els hi,if_pos hz];unfold nel;rw[List.filter_eq_self];intro e he;obtain⟨k,hk,rfl⟩ :=List.mem_iff_getElem.1 he;have hk':k<i:=by simp at hk;omega
   have:=hm k hk';simp only[List.getElem_take];rw[this];rfl
  have hn1:(nel ln (els.take (i+1))).length=i:=by rw[hn0];simp;omega
  simp[rW,hne,hw];refine zcu (fun k s=>∃j,j≤els.length/\k=els.length - j/\D1 els ln h c Mb j s) (fun x s=>x= .exit 0/\D1 els ln h c Mb els.length s) ?_ (els.length - (i+1)) _ ?_ ?_
  ·rintro k s ⟨j,hj,rfl,rows,h0,h1,h5,h6,gR,hrl,htk,hrw,hlt,hf,hc,h8,hx1,hlw⟩
   by_cases hjl:j<els.length
   ·have hwj:=zao j (by omega);have e1:=hrw j hjl (Nat.le_refl _);have hle:=hln _ (List.getElem_mem hjl);have hcl:=hce _ (List.getElem_mem hjl);have hs:=zx2 ln els hjl;generalize hN:nel ln (els.take j)=N at*;have hNl:N.length<els.length:=by omega
    obtain⟨x,hx2⟩ :=hx1 N.length hNl;have hwN:=zao N.length (by omega);have h8s:=zMW rows h8 hle N.length;generalize hE:els[j]=e at*;cases hze:zel ln e with
    |true=>
     rw[hze]at hs;simp only[if_true]at hs;simp[rW,h0,h1,h5,h6,hjl,gR,e1];refine zcp (d:= .f (.b true)) (by rw[<-hze];exact zGN hle) ?_ ?_
     ·simp only[rG];omega
     intro mx;simp[rW,h0,h1,h5,h6,hwj];rw[zbh];refine⟨els.length - (j+1),by omega,j+1,by omega,rfl,rows,?_⟩;rw[hs];simp[rW,h0,h1,h5,h6,gR,hrl,htk];exact⟨fun n hn hle=>hrw n hn (by omega),by omega,hf,hc,h8,hx1,hlw⟩
    |false=>
     rw[hze]at hs;simp only[Bool.false_eq_true,if_false]at hs;simp[rW,h0,h1,h5,h6,hjl,gR,e1];refine zcp (d:= .f (.b false)) (by rw[<-hze];exact zGN hle) ?_ ?_
     ·simp only[rG];omega
     intro mx;simp[rW,h0,h1,h5,h6,hwj,hwN,gR,hNl,hx2,hcl,h8,h8s];refine⟨by omega,?_⟩;rw[zbh];refine⟨els.length - (j+1),by omega,j+1,by omega,rfl,rows.set N.length [e],?_⟩;rw[hs];simp[rW,h0,h1,h5,h6,hrl];refine⟨?_,fun n hn hle2=> ?_,by omega,fun id h1 h2=> ?_,hc,h8s,fun n hn=> ?_,Nat.le_trans (zco _ _) hlw⟩
     ·rw[List.take_add_one,List.take_set_of_le (Nat.le_refl _),htk,List.getElem?_set_self (by omega)];rfl
     ·rw[List.getElem?_set_ne (by omega)];exact hrw n hn (by omega)
     ·simp[h2,hf id h1 h2]
     ·by_cases hh:N.length=n
      ·subst hh;exact⟨e,by simp[hrl,hn]⟩
      ·rw[List.getElem?_set_ne hh];exact hx1 n hn
   ·have:j=els.length:=by omega
    subst this;rw[List.take_length]at h5 htk hlt;simp[rW,h0,h1,h5,h6];refine⟨rows,?_⟩;simp[rW,h0,h1,h5,h6];exact⟨gR,hrl,htk,hrw,hlt,hf,hc,h8,hx1,hlw⟩
  ·refine⟨i+1,by omega,rfl,rows,?_⟩;rw[hn0];have hmin:min i els.length=i:=by omega
   have hrows:rows=els.map fun e=>[e]:=by
    apply List.ext_getElem?;intro n
    by_cases hn:n<els.length
    ·rw[hrw n hn,zhJ hn]
    ·rw[List.getElem?_eq_none (by omega),List.getElem?_eq_none (by simp;omega)]
   simp[rW,gM,hrl,hmin];exact⟨by rw[hrows],fun n hn _=>hrw n hn,h8,fun n hn=>⟨_,hrw n hn⟩⟩
  ·rintro x s ⟨rfl,rows,h0,h1,h5,h6,gR,hrl,htk,hrw,hlt,hf,hc,h8,hx1,hlw⟩;rw[List.take_length]at h5 htk hlt;have hnl:(nel ln els).length≤els.length:=List.length_filter_le _ _;have hsum:(nel ln els).length+(els.length - (nel ln els).length)=els.length:=by omega
   simp[rW,h0,h1,h5,h6,hnl,hsum,h8,zA9,zrE,gR,zLC,zxc,hrl];refine⟨by omega,?_⟩;simp[rW,zct];refine⟨?_,fun id h1 h2=> ?_⟩
   ·rw[List.take_append_of_le_length (by simp;omega),List.take_take,Nat.min_self,htk]
   ·simp[h2,hf id h1 h2]
theorem fn30:pr.fn 30=some g30:=by kernel_rfl
theorem ztT{asg:List Bool}{n:Nat}{g:List Nat}(H:Dwn g n)(l:List Nat):Dwn (zfm asg g l) n:=by
 unfold zfm;have:∀(l:List Nat) (st:Option Nat×List Nat),Dwn st.2 n->Dwn (l.foldl (zfQ asg) st).2 n:=by
  intro l
  induction l with
  |nil=>intro st h;exact h
  |cons v l ih=>intro st h;exact ih _ (zFA h v)
 exact this l _ H
def zfx(asg:List Bool)(ns:List Str)(a:CQ):List Nat:=a.cs.foldl (fun g k=>zfm asg g (nums ns (ts2 k))) (a.as.foldl (fun g x=>zfm asg g (nums ns x.ts)) (List.range ns.length))
def mem(asg:List Bool)(g:List Nat)(k r:Nat):List Nat:=(List.range k).filter fun i=>!asg.getD i false&&decide (root g i=r)
def zeD(asg:List Bool)(ns:List Str)(a:CQ):List (List Nat):=((List.range ns.length).map (mem asg (zfx asg ns a) ns.length)).filter fun l=>!decide (l.length=0)
theorem zDS(n:Nat):Dwn (List.range n) n:=⟨by simp,fun i hi=>by simp[List.getD_eq_getElem?_getD,hi]⟩
def zhh(n k:Nat):List Nat:=List.range k++List.replicate (n - k) 0
theorem zDX(n k:Nat)(h:k<n):(zhh n k).set k k=zhh n (k+1):=by
 unfold zhh;rw[List.set_append_right _ _ (by simp),List.length_range,Nat.sub_self,List.range_succ,show n - k=(n - (k+1))+1 by omega,List.replicate_succ,List.set_cons_zero];simp
theorem zP7(l:List Nat)(i j:Nat):(iE l).set i [D.f (.i .i64 (j:Int))]=iE (l.set i j):=by simp[iE,List.map_set]
theorem zP6(l:List Nat):hd8 (iE l)=false:=by cases l<;>rfl
def W1(h:T Ob)(c S n:Nat)(k:Nat)(s:St):Prop:=
 s.tm.get 1=some (.ptr c 1 0 0)/\s.tm.get 3=some (.ptr (c+2) 1 0 0)/\s.tm.get 20=some (.f (.i .i64 n))/\s.tm.get 21=some (.f (.i .i64 k))/\s.h.get c=some (.arr 1 0 [[.ptr S 11 0 0]])/\s.h.get (c+1)=some (.arr 1 0 (iE (zhh n k)))/\s.h.get (c+2)=some (.arr 1 0 [[.sl (c+1) 0 n 1 n true]])/\Frm h s.h c/\s.c=c+3/\s.lw=c
def clo(c:Nat):D:= .fn 69 [] [.ptr c 1 0 0,.ptr (c+3) 1 0 0,.ptr (c+2) 1 0 0]
def W2(asg:List Bool)(ns:List Str)(h:T Ob)(c S M A:Nat)(g:List Nat)(s:St):Prop:=
 (s.tm.get 1=some (.ptr c 1 0 0)/\s.tm.get 5=some (.ptr (c+3) 1 0 0)/\s.tm.get 6=some (clo c))/\CAt asg ns g s.h s.c S M A (c+1) (c+2) c (c+3)/\Frm h s.h c/\c+4≤s.c/\Dwn g ns.length/\s.lw≤c
theorem CAt.up{asg:List Bool}{ns:List Str}{g:List Nat}{h h':T Ob}{c c' S M A G G0 B FB:Nat}(H:CAt asg ns g h c S M A G G0 B FB)(hf:∀id,id<c->h'.get id=h.get id)(hc:c≤c'):CAt asg ns g h' c' S M A G G0 B FB:=by
 obtain⟨x1,y1,z1,z2,z3,z4,z5,z6,z7,z8,z9⟩ :=H;exact⟨x1.up hf hc,y1.up hf hc,by rw[hf _ x1.bS];exact z1,by rw[hf _ z4];exact z2,z3,by omega,by rw[hf _ z6];exact z5,by omega,by rw[hf _ z8];exact z7,by omega,z9⟩
theorem CAt.lo{asg:List Bool}{ns:List Str}{g:List Nat}{h:T Ob}{c c' S M A G G0 B FB:Nat}(H:CAt asg ns g h c S M A G G0 B FB)(b1:S<c')(b2:M<c')(b3:A<c')(b4:G<c')(b5:G0<c')(b6:B<c')(b7:FB<c'):CAt asg ns g h c' S M A G G0 B FB:=by
 obtain⟨⟨x1,x2,x3,x4⟩,⟨y1,y2,y3,y4⟩,z1,z2,z3,z4,z5,z6,z7,z8,z9⟩ :=H;exact⟨⟨x1,x2,b1,b2⟩,⟨y1,y2,b5,b4⟩,z1,z2,z3,b3,z5,b6,z7,b7,z9⟩
theorem zgc{h:T Ob}{lo c es byt:Nat}{d:D}{els new:List (List D)}{rd:List Nat}{K:Rs->Prop}(hg:Gro h lo c es d els)(hlo:lo≤c)(hlen:els.length+new.length≤1000000)(hb:byt≤1000)
  (hK:∀r:Rs,zat r.c r.wr=true->Gro (wrT h r.wr) lo r.c es r.d (els++new)->c≤r.c->(∀id,id<c->d.oid≠some id->(wrT h r.wr).get id=h.get id)->(∀x,r.d.oid=some x->x=c\/d.oid=some x)->K r):oB (zbU es byt h.get c d new rd) K:=by
 obtain⟨r,h1,h2,h3,h4,h5,h6,h7,h8⟩ :=zq7 (byt:=byt) (rd:=rd) hg hlo hlen hb;rw[h1];exact hK r h2 h3 h4 h5 h8
theorem zGd(ln:D->Nat)(els:List D)(ms:List (List Nat))(hl:els.length=ms.length)(hp:∀p∈els.zip ms,ln p.1=p.2.length):∃W:List (D×List Nat),(∀p∈W,p∈els.zip ms)/\nel ln els=W.map (·.1)/\ms.filter (fun l=>!decide (l.length=0))=W.map (·.2):=by
  refine⟨(els.zip ms).filter fun p=>!decide (p.2.length=0),fun p h=>(List.mem_filter.1 h).1,?_,?_⟩
  · have e:els=(els.zip ms).map (·.1):=(List.map_fst_zip (by omega)).symm;unfold nel
    conv=>lhs;rw[e]
    rw[List.filter_map]
    congr 1
    apply List.filter_congr;intro p h;simp only[Function.comp_apply,zel,hp p h]
  · have e:ms=(els.zip ms).map (·.2):=(List.map_snd_zip (by omega)).symm
    conv=>lhs;rw[e]
    rw[List.filter_map];rfl
def M1(asg:List Bool)(ns:List Str)(g:List Nat)(h:T Ob)(c S M A Mb:Nat)(k:Nat)(s:St):Prop:=∃els:List D,els.length=ns.length/\(s.tm.get 1=some (.ptr c 1 0 0)/\s.tm.get 5=some (.ptr (c+3) 1 0 0)/\s.tm.get 11=some (.sl Mb 0 ns.length 1 ns.length true)/\s.tm.get 72=some (.f (.i .i64 ns.length))/\s.tm.get 73=some (.f (.i .i64 k)))/\CAt asg ns g s.h s.c S M A (c+1) (c+2) c (c+3)/\Frm h s.h c/\s.h.get Mb=some (.arr 1 0 (els.map fun e=>[e]))/\Mb<s.c/\c+4≤Mb/\(∀r (hr:r<els.length),Gro s.h (Mb+1) s.c 1 els[r] (iE (mem asg g k r)))/\(∀r r' (hr:r<els.length) (hr':r'<els.length),r≠r'->∀x,els[r].oid=some x->els[r'].oid≠some x)/\s.lw≤c
theorem zM3(asg:List Bool)(g:List Nat)(k r:Nat):mem asg g (k+1) r=mem asg g k r++if asg.getD k false=false/\root g k=r then[k]else[]:=by
 unfold mem;rw[List.range_succ,List.filter_append,List.filter_cons,List.filter_nil]
 by_cases h1:asg.getD k false=false<;>by_cases h2:root g k=r<;>simp[h1,h2]
theorem zxZ(asg:List Bool)(g:List Nat)(k r:Nat):(mem asg g k r).length≤k:=by
 have:=List.length_filter_le (fun i=>!asg.getD i false&&decide (root g i=r)) (List.range k);simpa [mem]using this
def RdG(h':T Ob)(c c':Nat)(d:D)(G:List (List Nat)):Prop:=∃(Mb:Nat) (rows:List (List D)) (lim:Nat) (ex:Bool) (es:List D),d= .sl Mb 0 G.length 1 lim ex/\h'.get Mb=some (.arr 1 0 rows)/\Mb<c'/\c≤Mb/\rows.take G.length=es.map (fun e=>[e])/\es.length=G.length/\∀i (h1:i<es.length) (h2:i<G.length),RdS h' c' es[i] G[i]/\(∀x,es[i].oid=some x->c≤x)
theorem eff30{a b:CQ}{ns:List Str}{im:List Trm}{asg:List Bool}{dA dC dT:D}{h:T Ob}{c S M I A:Nat}(H:SAt a b ns im asg dA dC dT h c S M I A)(ha:zbu a)(hns:[]∉ns)(hnl:ns.length≤168):
  Eff pr 30 [.ptr S 11 0 0] h c fun d h' c'=>Frm h h' c/\RdG h' c c' d (zeD asg ns a):=by
 refine zdA zbB fn30 ?_;simp only[g30,rU];have gS:=H.gS;have hbS:=H.bS;have hbM:=H.bM;have hbA:=H.bA;have nS:¬S=c:=by omega
 have m1:(ns.length≤zaj)=True:=zaR (by omega);have m2:(ns.length*8≤zaj)=True:=zaR (by omega);have m3:(ns.length*24≤zaj)=True:=zaR (by omega);simp[rW,st0,zae,gS,nS,za7,zpP,m1,m2];refine zex ns.length (W1 h c S ns.length) (fun x s=>x= .exit 0/\W1 h c S ns.length ns.length s) ?_ ?_ _ ?_ ?_
 ·rintro k s hk ⟨h1,h3,h20,h21,g0,g1,g2,hf,ec,el⟩;have hw:=zao k (by omega);have e1:(iE (zhh ns.length k))[k]? =some [D.f (.i .i64 (((zhh ns.length k).getD k 0:Nat):Int))]:=by
   have:k< (zhh ns.length k).length:=by simp[zhh];omega
   rw[zo8 _ _ this];simp[List.getD_eq_getElem?_getD,List.getElem?_eq_getElem this]
  have e2:=zDX _ _ hk;simp[rW,h1,h3,h20,h21,hk,g2,g1,e1,zP7,e2,zcE,zP6,ec,hw,W1,g0,el];refine⟨fun id hid=> ?_,?_⟩
  ·rw[Vse.T.zab,if_neg (by omega)];exact hf id hid
  ·simp (disch:=omega) only[zbk,zbN]
 ·rintro s ⟨h1,h3,h20,h21,g0,g1,g2,hf,ec,el⟩;simp[rW,h1,h3,h20,h21,W1,g0,g1,g2,ec,el];exact hf
 ·have x1:¬c=c+1+1:=by omega
  simp[rW,W1,x1];refine⟨by simp[zhh,iE],fun id hid=> ?_,?_⟩
  ·simp only[Vse.T.zab]
   repeat rw[if_neg (by omega)]
  ·simp (disch:=omega) only[zbk,zbN]
 ·rintro x s ⟨rfl,h1,h3,h20,h21,g0,g1,g2,hf,ec,el⟩;have gS2:s.h.get S=_:=(hf S hbS).trans gS;have gA2:s.h.get A=_:=(hf A hbA).trans H.gA;have gM2:s.h.get M=_:=(hf M hbM).trans H.gM;have hr:zhh ns.length ns.length=List.range ns.length:=by simp[zhh]
  rw[hr]at g1;have nSc:¬S=s.c:=by omega
  have nc:¬c=s.c:=by omega
  have n1:¬c+1=s.c:=by omega
  have n2:¬c+2=s.c:=by omega
  simp[rW,h1,h3,h20,h21,gS2,g0,nSc,nc,za2];refine zd5 a.as (fun g x=>zfm asg g (nums ns x.ts)) (List.range ns.length) (fun n g s=>W2 asg ns h c S M A g s/\s.tm.get 34=some (.f (zaC a))/\s.tm.get 35=some (.f (.i .i64 a.as.length))/\s.tm.get 36=some (.f (.i .i64 n))) (fun x s=>x= .exit 2/\W2 asg ns h c S M A (a.as.foldl (fun g x=>zfm asg g (nums ns x.ts)) (List.range ns.length)) s) ?_ ?_ _ ?_ ?_
  ·rintro n g s hn hg ⟨⟨⟨h1,h5,h6⟩,HC,hf,hc,hd,hlw⟩,h34,h35,h36⟩;have hw:=zao n (by have:=ha.sa;omega);have hst:=ha.st _ (List.getElem_mem hn);generalize hA:a.as[n]=X at hst⊢;have hA':a.as[n]? =some X:=by rw[List.getElem?_eq_getElem hn,hA]
   simp[rW,h1,h5,h6,h34,h35,h36,hn,zcI,hA',hA,atE,clo];refine zfa rfl rfl (zIX (HC.up ?_ ?_) hns hd (by omega) (by omega) (by omega) (by omega) (by omega) X.ts (.inl rfl) (by omega)) ?_
   ·intro id hid;simp only[rG];simp[Vse.T.zab,show id≠s.c by omega]
   ·simp only[rG];omega
   ·intro d' h' c' lw mx hp hcc;obtain⟨HC',hf'⟩ :=hp;simp only[rG]at hf' hcc;simp[rW,h1,h5,h6,h34,h35,h36,hw,W2,clo];refine⟨HC',fun id hid=> ?_,by omega,ztT hd _,(by refine Nat.le_trans (Nat.min_le_left _ _) ?_;(repeat refine Nat.le_trans (zco _ _) ?_);exact hlw)⟩;rw[hf' id (by omega) (by omega)];simp[Vse.T.zab,show id≠s.c by omega,hf id hid]
  ·rintro s ⟨⟨⟨h1,h5,h6⟩,HC,hf,hc,hd,hlw⟩,h34,h35,h36⟩;simp[rW,h1,h5,h6,h34,h35,h36,W2];exact⟨HC,hf,hc,hd,hlw⟩
  ·simp[rW,h1,h3,h20,h21,W2,clo,ec];refine⟨⟨⟨⟨0,_,Eq.trans ?_ gS2,rfl⟩,?_,by omega,by omega⟩,⟨?_,?_,by omega,by omega⟩,⟨0,_,Eq.trans ?_ gS2,rfl⟩,?_,H.lA,by omega,?_,by omega,?_,by omega,by omega⟩,fun id hid=> ?_,zDS _,Nat.le_trans (zco _ _) (Nat.le_trans (zco _ _) (Nat.le_of_eq el))⟩
   ·simp only[Vse.T.zab];(repeat rw[if_neg (by omega)])
   ·simp only[Vse.T.zab];(repeat rw[if_neg (by omega)]);exact gM2
   ·simp only[Vse.T.zab];(repeat rw[if_neg (by omega)]);exact g2
   ·simp only[Vse.T.zab];(repeat rw[if_neg (by omega)]);exact g1
   ·simp only[Vse.T.zab];(repeat rw[if_neg (by omega)])
   ·simp only[Vse.T.zab];(repeat rw[if_neg (by omega)]);exact gA2
   ·simp only[Vse.T.zab];(repeat rw[if_neg (by omega)]);exact g0
   ·simp[Vse.T.zab]
   ·simp only[Vse.T.zab];(repeat rw[if_neg (by omega)]);exact hf id hid
  ·rintro x s ⟨rfl,⟨h1,h5,h6⟩,HC,hf,hc,hd,hlw⟩;have hg1:zfx asg ns a=a.cs.foldl (fun g k=>zfm asg g (nums ns (ts2 k))) (a.as.foldl (fun g x=>zfm asg g (nums ns x.ts)) (List.range ns.length)):=rfl;generalize a.as.foldl (fun g x=>zfm asg g (nums ns x.ts)) (List.range ns.length)=g1 at HC hd hg1⊢;have gB:=HC.gB;have gS3:s.h.get S=_:=(hf S hbS).trans gS;have nSc:¬S=s.c:=by omega
   simp[rW,h1,h5,h6,gB,gS3,zbf];refine zd5 a.cs (fun g k=>zfm asg g (nums ns (ts2 k))) g1 (fun n g s=>W2 asg ns h c S M A g s/\s.tm.get 48=some (.f (zaF a))/\s.tm.get 49=some (.f (.i .i64 a.cs.length))/\s.tm.get 50=some (.f (.i .i64 n))) (fun x s=>x= .exit 4/\W2 asg ns h c S M A (zfx asg ns a) s) ?_ ?_ _ ?_ ?_
   ·rintro n g s hn hg ⟨⟨⟨h1,h5,h6⟩,HC,hf,hc,hd,hlw⟩,h48,h49,h50⟩;have hw:=zao n (by have:=ha.sc;omega);generalize hA:a.cs[n]=K;have hA':a.cs[n]? =some K:=by rw[List.getElem?_eq_getElem hn,hA]
    simp[rW,h1,h5,h6,h48,h49,h50,hn,zcs,hA',hA,cmF,tmE,clo];refine zfa rfl rfl (zIX (HC.up ?_ ?_) hns hd (by omega) (by omega) (by omega) (by omega) (by omega) (ts2 K) (.inr (.inr ⟨s.c+1,2,true,zaB (ts2 K),0,rfl,?_,rfl,?_⟩)) (by simp[ts2])) ?_
    ·intro id hid;simp only[rG];simp[Vse.T.zab,show id≠s.c by omega,show id≠s.c+1 by omega]
    ·simp only[rG];omega
    ·simp only[rG];simp[Vse.T.zab,ts2,zaB,tmE]
    ·simp only[rG];omega
    ·intro d' h' c' lw mx hp hcc;obtain⟨HC',hf'⟩ :=hp;simp only[rG]at hf' hcc;simp[rW,h1,h5,h6,h48,h49,h50,hw,W2,clo];refine⟨HC',fun id hid=> ?_,by omega,ztT hd _,(by refine Nat.le_trans (Nat.min_le_left _ _) ?_;(repeat refine Nat.le_trans (zco _ _) ?_);exact hlw)⟩;rw[hf' id (by omega) (by omega)];simp[Vse.T.zab,show id≠s.c by omega,show id≠s.c+1 by omega,hf id hid]
   ·rintro s ⟨⟨⟨h1,h5,h6⟩,HC,hf,hc,hd,hlw⟩,h48,h49,h50⟩;rw[<-hg1]at HC hd;simp[rW,h1,h5,h6,h48,h49,h50,W2];exact⟨HC,hf,hc,hd,hlw⟩
   ·simp[rW,h1,h5,h6,W2];exact⟨HC,hf,hc,hd,hlw⟩
   ·rintro x s ⟨rfl,⟨h1,h5,h6⟩,HC,hf,hc,hd,hlw⟩;have gB:=HC.gB;have gS3:s.h.get S=_:=(hf S hbS).trans gS;have hdg:=hd;generalize hgt:zfx asg ns a=g at HC hd hdg;simp[rW,h1,h5,h6,gB,gS3,za7,zpP,m1,m3];have nSc:¬S=s.c:=by omega
    have nc:¬c=s.c:=by omega
    simp[rW,h1,h5,h6,gB,gS3,za7,zpP,m1,m3,nSc,nc];refine zex ns.length (M1 asg ns g h c S M A s.c) (fun x s'=>x= .exit 6/\M1 asg ns g h c S M A s.c ns.length s') ?_ ?_ _ ?_ ?_
    ·rintro k s' hk ⟨els,hel,⟨h1,h5,h11,h72,h73⟩,HC,hf2,gM,hM,hM4,hgro,hdis,hlw⟩;have hw:=zao k (by omega);have gB:=HC.gB;have gF:=HC.gF;obtain⟨ro,cells,gS4,gS5⟩ :=HC.sA;have gA:=HC.gA;have hka:k<asg.length:=by rw[HC.lA];exact hk
     have e2:=zly asg k hka;have e3:asg.getD k false=asg[k]:=by simp[List.getD_eq_getElem?_getD,List.getElem?_eq_getElem hka]
     have hrr:root g k<ns.length:=Nat.lt_of_le_of_lt (ziJ _ _) hk;have r1:=fun(H':Vse.T Ob) (c':Nat) (HH:GAt g ns.length H' c' (c+1) (c+2))=>zGL HH hdg k hk
     have hms:∀r,mem asg g (k+1) r=mem asg g k r++if asg[k]=false/\root g k=r then[k]else[]:=by intro r;rw[zM3,e3]
     generalize root g k=rr at hrr r1 hms;cases hav:asg[k]with
     |true=>
      rw[hav]at e2 hms;simp[rW,h1,h5,h11,h72,h73,hk,gB,gS4,gS5,gA,e2,hw];refine⟨els,hel,?_⟩;simp[rW,h1,h5,h11,h72,h73,gM];refine⟨HC,hf2,hM,hM4,fun r hr=> ?_,hdis,hlw⟩;have:=hgro r hr;rw[hms r];simpa using this
     |false=>
      rw[hav]at e2 hms;have hre:rr<els.length:=by omega
      have hg:=hgro rr hre;have hml:=zxZ asg g k rr;have erow:=zhJ hre;have hcl:=zcS hg;simp[rW,h1,h5,h11,h72,h73,hk,gB,gS4,gS5,gA,e2];refine zbj ?_;simp[rW,h1,h5,h11,h72,h73,gF];refine zb6 (r1 _ _ (HC.ga.up ?_ ?_)) ?_ ?_ ?_
      ·intro id hid;simp only[rG]
      ·simp only[rG];omega
      ·simp only[rG];omega
      ·simp[ckG,ck1]
      intro mx1 hmx1;simp only[rG]at hmx1;simp[rW,h1,h5,h11,h72,h73,gF];refine zb6 (r1 _ _ (HC.ga.up ?_ ?_)) ?_ ?_ ?_
      ·intro id hid;simp only[rG]
      ·simp only[rG];omega
      ·simp only[rG];omega
      ·simp[ckG,ck1]
      intro mx2 hmx2;simp only[rG]at hmx2;simp[rW,h1,h5,h11,h72,h73,gM,hrr,erow];refine zgc (zcb hg (by omega) fun _ _ _=>rfl) (by omega) (by rw[zcE];simp;omega) (by omega) ?_;intro r hr1 hr2 hr3 hr4 hr5;have hoM:els[rr].oid≠some s.c:=zbQ hg (by omega);have gM2:=(hr4 s.c (by omega) hoM).trans gM;have hcl2:=zcS hr2;have hset:(els.map fun e=>[e]).set rr [r.d]=(els.set rr r.d).map fun e=>[e]:=by simp[List.map_set]
      have h81:hd8 (els.map fun e=>[e])=false:=by
       cases hE:els with
       |nil=>rfl
       |cons x l=>
        have h0:0<els.length:=by rw[hE];simp
        have:=zeK (hgro 0 h0);simp only[hE,List.getElem_cons_zero]at this;exact zmA this _
      generalize hrows:(els.map fun e=>[e])=rows at gM2 erow hset h81;refine⟨hr1,?_⟩;simp[rW,gM2,erow,hcl2,h81];refine⟨by omega,els.set rr r.d,by simpa using hel,?_⟩;rw[<-hset];simp[rW,h1,h5,h11,h72,h73,hw];have hlow:∀id,id<c+4->((wrT s'.h r.wr).set s.c (Ob.arr 1 0 (rows.set rr [r.d]))).get id=s'.h.get id:=by
       intro id hid;rw[Vse.T.zab,if_neg (by omega),hr4 id (by omega) (zbQ hg (by omega))]
      refine⟨(HC.lo (c':=c+4) (by omega) (by omega) (by omega) (by omega) (by omega) (by omega) (by omega)).up (fun id hid=>hlow id hid) (by omega),fun id hid=> ?_,by omega,hM4,fun q hq=> ?_,fun q q' hq hq' hne x hx=> ?_,?_⟩
      ·rw[hlow id (by omega),hf2 id hid]
      ·have hq:q<els.length:=by first|exact hq|simpa using hq
       rw[hms q]
       by_cases hqr:q=rr
       ·subst hqr;simp only[List.getElem_set_self,and_self,if_true];rw[<-zuM];refine zcb hr2 (by omega) fun id h1 _=> ?_
        rw[Vse.T.zab,if_neg (by omega)]
       ·have hqr':¬rr=q:=fun e=>hqr e.symm
        simp only[List.getElem_set_ne hqr',hqr',and_false,if_false,List.append_nil];have hgq:=hgro q hq;rcases hgq with hgq|⟨id,ro,e1,e2,e3,e4,e5,e6⟩
        ·exact .inl hgq
        ·refine .inr ⟨id,ro,e1,e2,?_,e4,e5,by omega⟩;rw[Vse.T.zab,if_neg (by omega),hr4 id (by omega) ?_]
         ·exact e3
         ·exact hdis q rr hq hre hqr id (by rw[e1];rfl)
      ·have hq:q<els.length:=by first|exact hq|simpa using hq
       have hq':q'<els.length:=by first|exact hq'|simpa using hq'
       by_cases hqr:rr=q
       ·subst hqr;have hqr':¬rr=q':=hne;simp only[List.getElem_set_self]at hx;simp only[List.getElem_set_ne hqr'];rcases hr5 x hx with rfl|hx
        ·intro e;have:=hgro q' hq';rcases this with⟨e1,_⟩ |⟨id,ro,e1,_,_,_,_,e6⟩
         ·rw[e1]at e;simp[D.oid]at e
         ·rw[e1]at e;simp[D.oid]at e;omega
        ·exact hdis rr q' hq hq' hqr' x hx
       ·simp only[List.getElem_set_ne hqr]at hx
        by_cases hqr':rr=q'
        ·subst hqr';simp only[List.getElem_set_self];intro e;rcases hr5 x e with rfl|e
         ·rcases hgro q hq with⟨e1,_⟩ |⟨id,ro,e1,_,_,_,_,e6⟩
          ·rw[e1]at hx;simp[D.oid]at hx
          ·rw[e1]at hx;simp[D.oid]at hx;omega
         ·exact hdis q rr hq hq' hne x hx e
        ·simp only[List.getElem_set_ne hqr'];exact hdis q q' hq hq' hne x hx
      ·refine Nat.le_trans (zco _ _) ?_
       (repeat refine Nat.le_trans (zco _ _) ?_)
       exact hlw
    ·rintro s' ⟨els,hel,⟨h1,h5,h11,h72,h73⟩,HC,hf2,gM,hM,hM4,hgro,hdis,hlw⟩;simp[rW,h1,h5,h11,h72,h73];refine⟨els,hel,?_⟩;simp[rW,h1,h5,h11,h72,h73,gM];exact⟨HC,hf2,hM,hM4,hgro,hdis,hlw⟩
    ·refine⟨List.replicate ns.length (.f .nils),by simp,?_⟩;simp[rW,h1,h5,h6];refine⟨HC.up (fun id hid=> ?_) (by omega),fun id hid=> ?_,hc,fun r hr=> .inl ⟨rfl,by simp[mem,iE]⟩,Nat.le_trans (zco _ _) hlw⟩
     ·rw[Vse.T.zab,if_neg (by omega)]
     ·rw[Vse.T.zab,if_neg (by omega)];exact hf id hid
    ·rintro x s' ⟨rfl,els,hel,⟨h1,h5,h11,h72,h73⟩,HC,hf2,gM,hM,hM4,hgro,hdis,hlw⟩;have hns:ns.length=els.length:=hel.symm;have hnm:(List.range ns.length).map (mem asg g ns.length)=(List.range els.length).map (mem asg g els.length):=by rw[hns]
     have hln:∀r (hr:r<els.length),zcr els[r]=some (mem asg g els.length r).length:=by
      intro r hr;have:=zeK (hgro r hr);rw[zcE,hns]at this;exact this
     have hlnA:∀e∈els,zcr e=some ((zcr e).getD 0):=by
      intro e he;obtain⟨r,hr,rfl⟩ :=List.mem_iff_getElem.1 he;rw[hln r hr];rfl
     have hceA:∀e∈els,e.cells=some [e]:=by
      intro e he;obtain⟨r,hr,rfl⟩ :=List.mem_iff_getElem.1 he;exact zcS (hgro r hr)
     have h81:hd8 (els.map fun e=>[e])=false:=by
      cases hE:els with
      |nil=>rfl
      |cons x l=>exact zmA (hlnA x (by rw[hE];simp)) _
     obtain⟨W,hW1,hW2,hW3⟩ :=zGd (fun e=>(zcr e).getD 0) els ((List.range els.length).map (mem asg g els.length)) (by simp) (by
      intro p hp;obtain⟨r,hr,rfl⟩ :=List.mem_iff_getElem.1 hp;have hr':r<els.length:=by simp at hr;omega
      simp only[List.getElem_zip,List.getElem_map,List.getElem_range];rw[hln r hr'];rfl)
     have hG:zeD asg ns a=W.map (·.2):=by
      unfold zeD;rw[hgt,hnm,hW3]
     simp[rW,h1,h5,h11,h72,h73];rw[hns];refine zfa ?_ ?_ (eff70 els (fun e=>(zcr e).getD 0) hlnA hceA (by omega) gM (by simp) (fun n hn=>zhJ hn) hM h81) ?_
     ·simp only[rG]
     ·simp only[rG]
     intro d' h' c' lw mx hp hcc;obtain⟨rows',lim,ex,hd1,hd2,hd3,hd4⟩ :=hp;have hfin:Frm h h' c/\RdG h' c c' d' (zeD asg ns a):=by
      refine⟨fun id hid=> ?_,s.c,rows',lim,ex,nel (fun e=>(zcr e).getD 0) els,?_,hd2,by omega,by omega,?_,?_,fun i h1 h2=> ?_⟩
      ·rw[hd4 id (by omega) (by omega),hf2 id hid]
      ·rw[hd1,hW2,hG];simp
      ·rw[hG,List.length_map,<-List.length_map (f:=fun x:D×List Nat=>x.1),<-hW2];exact hd3
      ·rw[hW2,hG];simp
      ·have hi:i<W.length:=by rw[hW2]at h1;simpa using h1
       have e1:(nel (fun e=>(zcr e).getD 0) els)[i]=W[i].1:=by simp[hW2]
       have e2:(zeD asg ns a)[i]=W[i].2:=by simp[hG]
       rw[e1,e2];obtain⟨r,hr,hr2⟩ :=List.mem_iff_getElem.1 (hW1 _ (List.getElem_mem hi));have hr':r<els.length:=by simp at hr;omega
       rw[<-hr2];simp only[List.getElem_zip,List.getElem_map,List.getElem_range];have hgq:=hgro r hr';rw[hns]at hgq;rcases hgq with⟨g1,g2⟩ |⟨id,ro,g1,g2,g3,g4,g5,g6⟩
       ·refine⟨.inl ⟨g1,zDq g2⟩,?_⟩;rw[g1];simp[D.oid]
       ·refine⟨.inr ⟨id,0,(iE (mem asg g els.length r)).length,false,ro,iE (mem asg g els.length r),?_,?_,?_,by omega⟩,?_⟩
        ·rw[g1,zcE]
        ·rw[hd4 id g6 (by omega)];exact g3
        ·rw[List.drop_zero,zkg]
        ·rw[g1];intro x hx;simp[D.oid]at hx;omega
     simp[rW,zct];refine⟨hfin,fun _ hF=> ?_⟩;rw[hd1]at hF;simp[D.isF]at hF
theorem fn59:pr.fn 59=some g59:=by kernel_rfl
theorem ro60(a b:Trm)(ha:zau a)(hb:zau b){h:T Ob}{c:Nat}:RO pr 60 [.ag (tmD a),.ag (tmD b)] h c (.f (.b (zbi a b))):=by
 unfold zbi;refine zc3 zbB fn60 rfl ?_;simp only[g60,rU];have q:=fun k=>zak (k:=k) (zH3 a b ha hb)
 simp only[tmE]at q;simp[rW,st0,zae,tmD,q,za8];simp (disch:=omega) only[zbk,zbN]
def zfR(p:Trm):List Trm->List Trm
 |[]=>[]
 |b::l=>if zbi b p=true then zfR b l else b::zfR b l
def cpt:List Trm->List Trm
 |[]=>[]
 |a::l=>a::zfR a l
theorem zrV(b:Trm):∀(l:List Trm) (p:Trm),zfR p (l++[b])=zfR p l++if zbi b ((p::l).getLast (by simp))=true then[]else[b]
 |[],p=>by
  simp only[List.nil_append,zfR,List.getLast_singleton]
  by_cases h:zbi b p=true<;>simp[h]
 |x::l,p=>by
  have e:(p::x::l).getLast (by simp)=(x::l).getLast (by simp):=by simp
  simp only[List.cons_append,zfR,e];rw[zrV b l x]
  by_cases h:zbi x p=true<;>simp[h]
theorem zp5(l:List Trm)(m:Nat)(h:m+1<l.length):cpt (l.take (m+2))=cpt (l.take (m+1))++if zbi l[m+1] l[m]=true then[]else[l[m+1]]:=by
 cases l with
 |nil=>simp at h
 |cons a l=>
  simp only[List.take_succ_cons,cpt];have h':m<l.length:=by simpa using h
  rw[List.take_add_one,List.getElem?_eq_getElem h',Option.toList_some,zrV];simp only[List.cons_append,List.getElem_cons_succ];have e:(a::l.take m).getLast (by simp)=(a::l)[m]'(by simp;omega):=by
   rw[List.getLast_eq_getElem];simp only[List.length_cons,List.length_take,Nat.min_eq_left (Nat.le_of_lt h'),Nat.add_sub_cancel];cases m with
   |zero=>rfl
   |succ m=>simp
  rw[e]
theorem zCu(l:List Trm):(cpt l).length≤l.length:=by
  have:∀(l:List Trm) (p:Trm),(zfR p l).length≤l.length:=by
    intro l
    induction l with
    |nil=>intro p;simp[zfR]
    | cons b l ih => intro p;unfold zfR;split
                     · exact Nat.le_succ_of_le (ih b)
                     · simp;exact ih b
  cases l with
  |nil=>simp[cpt]
  |cons a l=>simp[cpt];exact this l a
theorem zCt(l:List Trm)(h:∀m (hm:m+1<l.length),zbi l[m+1] l[m]=false):∀n,n≤l.length->cpt (l.take n)=l.take n:=by
 intro n
 induction n with
 |zero=>intro _;rfl
 |succ n ih=>
  intro hn;cases n with
  |zero=>
   cases l with
   |nil=>rfl
   |cons a l=>rfl
  |succ n=>
   rw[zp5 l n (by omega),ih (by omega),h n (by omega)];simp only[Bool.false_eq_true,if_false];rw[List.take_add_one (i:=n+1),List.getElem?_eq_getElem (by omega),Option.toList_some]
def K1(l:List Trm)(m id:Nat)(h:T Ob)(c:Nat)(k':Nat)(s:St):Prop:=∃(j k:Nat) (els:List (List D)),m≤j/\j<l.length/\m+k=j+1/\k'=l.length - j/\(s.tm.get 0=some (.sl id 0 l.length 4 l.length false)/\s.tm.get 1=some (.f (.fn 60))/\s.tm.get 6=some (.sl id m (l.length - m) 4 l.length false)/\s.tm.get 7=some (.f (.i .i64 (k:Int)))/\s.tm.get 5=some (.f (.i .i64 ((cpt (l.take (j+1))).length:Int))))/\s.h.get id=some (.arr 4 0 els)/\els.length=l.length/\els.take (cpt (l.take (j+1))).length=zaB (cpt (l.take (j+1)))/\(∀q,j≤q->els[q]? =(zaB l)[q]?)/\(cpt (l.take (j+1))).length≤j/\(∀j,j<c->j≠id->s.h.get j=h.get j)/\c≤s.c/\s.lw≤s.c/\hd8 els=false/\(∀(q:Nat) (x:List D),els[q]? =some x->x.length=4)
theorem eff59(l:List Trm)(hok:∀t∈l,zau t)(hl:l.length<100000){h:T Ob}{c id:Nat}(gI:h.get id=some (.arr 4 0 (zaB l)))(hid:id<c):
  Eff pr 59 [.sl id 0 l.length 4 l.length false,.f (.fn 60)] h c fun d h' c'=>∃els,d= .sl id 0 (cpt l).length 4 l.length false/\h'.get id=some (.arr 4 0 els)/\els.take (cpt l).length=zaB (cpt l)/\∀j,j<c->j≠id->h'.get j=h.get j:=by
 refine zdA zbB fn59 ?_;simp only[g59,rU]
 by_cases h2:l.length<2
 ·have hc:cpt l=l:=by
   match l,h2 with
   |[],_=>rfl
   |[a],_=>rfl
  have h2':(l.length:Int)<2:=by omega
  simp[rW,st0,zae,h2',hc,zct];exact⟨_,gI,zv1 l⟩
 ·have h2':¬(l.length:Int)<2:=by omega
  simp[rW,st0,zae,h2'];have hlt:∀n,n< (l.tail.zip l).length->n+1<l.length:=by intro n hn;simp at hn;omega
  have hzl:(l.tail.zip l).length=l.length - 1:=by simp
  refine zd2 (l.tail.zip l) (fun p=>zbi p.1 p.2) (fun n s=>s.tm.get 0=some (.sl id 0 l.length 4 l.length false)/\s.tm.get 1=some (.f (.fn 60))/\(∃m:Nat,m=n+1/\s.tm.get 5=some (.f (.i .i64 (m:Int))))/\(∀q (hq:q+1<l.length),q<n->zbi l[q+1] l[q]=false)/\s.h=h/\c≤s.c/\s.lw=c) (fun x s=>x= .exit 0/\s.tm.get 0=some (.sl id 0 l.length 4 l.length false)/\s.h=h) (fun n x s=>x= .ret/\∃els,s.tm.get 4=some (.sl id 0 (cpt l).length 4 l.length false)/\s.h.get id=some (.arr 4 0 els)/\els.take (cpt l).length=zaB (cpt l)/\∀j,j<c->j≠id->s.h.get j=h.get j) ?_ ?_ _ ?_ ?_ ?_
  ·rintro n s hn ⟨h0,h1,⟨m,hm,h5⟩,hall,eh,hc,el⟩;have hn1:=hlt n hn;have hml:m<l.length:=by omega
   have hw:=zao m (by omega);have e1:=zgC l m hml;have e0:=zgC l n (by omega);have hsub:IntKind.i64.wrap ((m:Int) - 1)=(n:Int):=by
    have:(m:Int) - 1=(n:Int):=by omega
    rw[this];exact IntWalk.i64_in _ (by omega)
   have o1:=hok _ (List.getElem_mem hml);have o0:=hok _ (List.getElem_mem (show n<l.length by omega));have e2:(l.tail.zip l)[n]=(l[m],l[n]):=by subst hm;simp
   rw[e2];have hnl:n<l.length:=by omega
   have h60:=fun(H':Vse.T Ob) (c':Nat)=>ro60 l[m] l[n] o1 o0 (h:=H') (c:=c')
   simp only[tmD]at e1 e0 h60;generalize hL1:l[m]=t1 at*;generalize hL0:l[n]=t0 at*;simp[rW,h0,h1,h5,hml];refine zbj ?_;simp[rW,h0,h1,h5,eh,gI,hml,hnl,hsub,e1,e0];refine zb6 (d:= .f (.b (zbi t1 t0))) (h60 _ _) ?_ ?_ ?_
   ·simp only[rG];omega
   ·simp[ckG,ck1]
   intro mx hmx;simp only[rG]at hmx;cases hs:zbi t1 t0 with
   |false=>
    simp[rW,h0,h1,h5,hw,eh,el];refine⟨by omega,fun q hq hqn=> ?_,by omega⟩
    by_cases hqe:q=n
    ·subst hqe;have:l[q+1]=t1:=by subst hm;exact hL1
     rw[this,hL0,hs]
    ·exact hall q hq (by omega)
   |true=>
    have hmle:m≤l.length:=by omega
    have hcm:cpt (l.take (m+1))=l.take m:=by
     have e3:=zp5 l n (by omega);have hidl:=zCt (l.take m) (fun q hq=>by
      have hq':q+1<m:=by simp at hq;omega
      simp only[List.getElem_take];exact hall q (by omega) (by omega)) m (by simp;omega)
     rw[List.take_take,Nat.min_self]at hidl;have hx:l[n+1]=t1:=by subst hm;exact hL1
     rw[hx,hL0,hs]at e3;simp only[if_true,List.append_nil]at e3;rw[show m+1=n+2 by omega,e3,<-hm,hidl]
    simp[rW,h0,h1,h5,eh,gI,zA9,zrE,hmle];refine zcu (K1 l m id h c)
     (fun x s=>x= .exit 2/\∃els,(s.tm.get 0=some (.sl id 0 l.length 4 l.length false)/\s.tm.get 5=some (.f (.i .i64 ((cpt l).length:Int))))/\s.h.get id=some (.arr 4 0 els)/\els.length=l.length/\els.take (cpt l).length=zaB (cpt l)/\(∀j,j<c->j≠id->s.h.get j=h.get j)/\c≤s.c/\hd8 els=false) ?_ (l.length - m) _ ?_ ?_
    ·rintro k' s ⟨j,k,els,hj1,hj2,hk,rfl,⟨h0,h1,h6,h7,h5⟩,gE,hel,htk,hrd,hle,hf,hc3,hl3,h8,hE4⟩
     by_cases hjl:j+1<l.length
     ·have hkl:k<l.length - m:=by omega
      obtain⟨k0,hk0⟩ :∃k0,k0=k - 1:=⟨_,rfl⟩
      have hk0l:k0<l.length - m:=by omega
      have hwk:=zao k (by omega);have hsub2:IntKind.i64.wrap ((k:Int) - 1)=(k0:Int):=by
       have:(k:Int) - 1=(k0:Int):=by omega
       rw[this];exact IntWalk.i64_in _ (by omega)
      have eA:=(hrd (j+1) (by omega)).trans (zgC l (j+1) hjl);have eB:=(hrd j (Nat.le_refl _)).trans (zgC l j hj2);have oA:=hok _ (List.getElem_mem hjl);have oB':=hok _ (List.getElem_mem hj2);have hcs:=zp5 l j hjl;have hC:(cpt (l.take (j+1))).length<l.length:=by omega
      generalize hN:cpt (l.take (j+1))=N at*;have hwN:=zao N.length (by omega);have hRO:=fun(H':Vse.T Ob) (c':Nat)=>ro60 l[j+1] l[j] oA oB' (h:=H') (c:=c')
      have hxN:∃x,els[N.length]? =some x:=⟨els[N.length]'(by omega),by rw[List.getElem?_eq_getElem]⟩
      obtain⟨xN,hxN⟩ :=hxN;have hxl:xN.length=4:=hE4 _ _ hxN;have hset:=za4 l;generalize hT1:l[j+1]=u1 at*;generalize hT0:l[j]=u0 at*;rw[<-hk]at eA;rw[show j=m+k0 by omega]at eB;have hone:zaB [u1]=[tmD u1]:=by simp[zaB,tmE,tmD]
      simp only[tmD]at eA eB hRO hone;simp[rW,h0,h1,h6,h7,h5,hkl];refine zbj ?_;simp[rW,h0,h1,h6,h7,h5,gE,hkl,hk0l,hsub2,eA,eB];refine zb6 (d:= .f (.b (zbi u1 u0))) (hRO _ _) ?_ ?_ ?_
      ·simp only[rG];omega
      ·simp[ckG,ck1]
      intro mx2 hmx2;simp only[rG]at hmx2;cases hs2:zbi u1 u0 with
      |true=>
       rw[hs2]at hcs;simp only[if_true,List.append_nil]at hcs;simp[rW,h0,h1,h6,h7,h5,hwk];rw[zbh];refine⟨l.length - (j+1),by omega,j+1,k+1,els,by omega,hjl,by omega,rfl,?_⟩;rw[hcs];simp[rW,h0,h1,h6,h7,h5,gE,hel,htk,h8];exact⟨fun q hq=>hrd q (by omega),by omega,hf,by omega,by omega,hE4⟩
      |false=>
       rw[hs2]at hcs;simp only[Bool.false_eq_true,if_false]at hcs;have hx4:xN.drop 4=[]:=List.drop_of_length_le (by omega);have h8s:hd8 (els.set N.length [D.f (F.s (tv u1)),D.f (F.i IntKind.i64 (tk u1)),D.f (F.i IntKind.i64 (tn u1)),D.f (F.s [])])=false:=by
        cases els with
        |nil=>rfl
        |cons e els=>cases hNl:N.length with
         |zero=>exact zuF _ _ _ _
         |succ q=>
          simp only[List.set_cons_succ]
          revert h8
          unfold hd8;split
          ·simp
          ·split<;>simp_all
       simp[rW,h0,h1,h6,h7,h5,hwk,hwN,gE,hC,hkl,eA,hxN,hxl,hx4,h8];refine⟨by omega,?_⟩;rw[zbh];refine⟨l.length - (j+1),by omega,j+1,k+1,els.set N.length (tmD u1),by omega,hjl,by omega,rfl,?_⟩;rw[hcs];simp[rW,h0,h1,h6,h7,h5,hel,tmD,h8s];refine⟨?_,fun q hq=> ?_,by omega,fun j1 h1 h2=> ?_,by omega,?_,fun q x hx=> ?_⟩
       ·rw[List.take_add_one,List.take_set_of_le (Nat.le_refl _),htk,List.getElem?_set_self (by omega),<-ziN,hone];rfl
       ·rw[List.getElem?_set_ne (by omega)];exact hrd q (by omega)
       ·rw[if_neg h2];exact hf j1 h1 h2
       ·exact Nat.le_trans (zco _ _) (by omega)
       ·rw[List.getElem?_set]at hx;split at hx
        ·split at hx
         ·cases hx;rfl
         ·cases hx
        ·exact hE4 q x hx
     ·have hje:j+1=l.length:=by omega
      have hkl:¬k<l.length - m:=by omega
      rw[hje,List.take_length]at h5 htk hle;simp[rW,h0,h1,h6,h7,h5,hkl];exact⟨els,gE,hel,htk,hf,hc3,h8⟩
    ·refine⟨m,1,zaB l,Nat.le_refl _,hml,rfl,rfl,?_⟩;rw[hcm];have hlm:(l.take m).length=m:=by simp;omega
     simp[rW,h0,h1,h5,hlm,eh,gI,za4,zo5];refine⟨by simp[zaB,List.map_take],by omega,by omega,fun q x hx=> ?_⟩;have:=List.mem_of_getElem? hx;simp only[zaB,List.mem_map]at this;obtain⟨y,⟨z,_,rfl⟩,rfl⟩ :=this;simp[tmE]
    ·rintro x s ⟨rfl,els,⟨h0,h5⟩,gE,hel,htk,hf,hc3,h8⟩;have hcl:=zCu l;have hsum:(cpt l).length+(l.length - (cpt l).length)=l.length:=by omega
     simp[rW,h0,h5,gE,zA9,zrE,zLC,zxc,hcl,hsum,hel,h8];refine⟨by omega,?_,fun j h1 h2=>by rw[if_neg h2,hf j h1 h2]⟩;exact htk
  ·rintro s ⟨h0,h1,⟨m,hm,h5⟩,hall,eh,hc,el⟩;have hge:¬(m<l.length):=by rw[hm,hzl];omega
   simp[rW,h0,h1,h5,hge,eh]
  ·simp[rW,]
  ·rintro hno x s ⟨rfl,h0,eh⟩;have hc:cpt l=l:=by
    have:=zCt l (fun m hm=>by
     have:=hno (l.tail.zip l)[m] (List.getElem_mem (by simp;omega));simpa [List.getElem_zip,List.getElem_tail]using this) l.length (Nat.le_refl _)
    rwa[List.take_length]at this
   simp[rW,h0,zct,hc,eh];exact⟨_,gI,zv1 l⟩
  ·rintro n hn hp hm x s ⟨rfl,els,h4,g1,g2,g3⟩;simp[rW,h4,zct];exact⟨els,g1,g2,g3⟩
end Go.Proofs.YtimgcabgophnfaaGreat
end
