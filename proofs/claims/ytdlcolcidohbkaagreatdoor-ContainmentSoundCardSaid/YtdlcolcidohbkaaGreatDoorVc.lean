/- The evaluator and its soundness. Conditions: none. -/
import Derived.Test.YtdlcolcidohbkaaGreatDoorVb
set_option linter.all false
section
namespace Go.Vse
variable [Globs]
open Go.RowKit
section
variable {P:Program}{w:World}{amb:Mu}{h:Hp}{ρ:Nat->Option Nat}{c:Nat->Prop}{n:Nat}{pur:Nat->Bool}{g:A->Option D}{ev:Operand->Value}
theorem zvS(s:Sim amb w.heap h ρ c)(E:zcI w amb h ρ c g ev){o:Oper}{x:Operand}(hop:o.op= .move x\/o.op= .assign x){co:O A}(hc:(opA x).map O.mv=some co)
  {o':O D}(hr:co.res g=some o'){r:Rs}(hv:opv h n o'=some r):∃v w',Does P (execOp ev o) w v w'/\Post amb w h ρ c n r v w':=by
 obtain⟨y,hy,rfl⟩ :=zeF hc;simp only[O.res]at hr;obtain⟨d,hd,hr⟩ :=zay hr;cases hr;simp only[opv,okD]at hv;cases hv;refine⟨ev x,w,?_,Post.same s (E x y d hy hd) []⟩;left;rcases hop with hop|hop<;>simp[execOp,hop]
theorem zFJ(s:Sim amb w.heap h ρ c)(E:zcI w amb h ρ c g ev){o:Oper}{x y z:Operand}(hop:o.op= .pick x y z){a b d:A}(ha:opA x=some a)(hb:opA y=some b)(hd:opA z=some d)
  {o':O D}(hr:(O.pick a b d).res g=some o'){r:Rs}(hv:opv h n o'=some r):∃v w',Does P (execOp ev o) w v w'/\Post amb w h ρ c n r v w':=by
 simp only[O.res]at hr;obtain⟨da,hda,hr1⟩ :=zay hr;obtain⟨db,hdb,hr2⟩ :=zay hr1;obtain⟨dd,hdd,hr3⟩ :=zay hr2;simp only[Z45]at hr3;subst hr3;clear hr hr1 hr2;simp only[opv]at hv;split at hv
 .rename_i t;simp only[okD,Z45]at hv;subst hv;have h1:=E x a _ ha hda;simp only[Rel,zaj]at h1;have h2:Rel w.heap (zal amb h ρ) ρ c (if t then db else dd) (if t then ev y else ev z):=by
   split
   .exact E y b db hb hdb
   .exact E z d dd hd hdd
  exact⟨if t then ev y else ev z,w,.inl (by simp[execOp,hop,h1,asBool]),Post.same s h2 []⟩
 .simp at hv
theorem zC3(s:Sim amb w.heap h ρ c)(E:zcI w amb h ρ c g ev){o:Oper}{t:TypeId}{ps:Array (Nat×Operand)}(hop:o.op= .build t ps){z:List F}{qs:List (Nat×Nat×A)}
  (hz:zeroCells P t=some z)(hq:znr P t ps.toList=some qs){o':O D}(hr:(O.bld z qs).res g=some o'){r:Rs}(hv:opv h n o'=some r):
  ∃v w',Does P (execOp ev o) w v w'/\Post amb w h ρ c n r v w':=by
 simp only[O.res]at hr;obtain⟨rs,hrs,hr⟩ :=zay hr;cases hr;simp only[opv]at hv;split at hv
 .rename_i cs hcs;simp only[okD]at hv;cases hv;have hlen:rs.length=qs.length:=zgm hrs;have hrsat:∀(k:Nat) p,rs[k]? =some p->∃a,qs[k]? =some (p.1,p.2.1,a)/\g a=some p.2.2:=by
   intro k p hk;obtain⟨⟨o1,n1,a1⟩,h1,h2⟩ :=zhz hrs k p hk;simp only at h2;obtain⟨d1,hd1,h2⟩ :=zay h2;cases h2;exact⟨a1,h1,hd1⟩
  have hmain:∃place:Nat->Option (Nat×Nat),qs.length=ps.toList.length/\
    (∀(k:Nat) p q,rs[k]? =some p->(ps.map fun(x:Nat×Operand)=>(x.1,ev x.2)).toList[k]? =some q->place q.1=some (p.1,p.2.1)/\Rel w.heap (zal amb h ρ) ρ c p.2.2 q.2)/\
    ((∃fs,P.underlying t=some (.struct fs)/\(∀f∈fs,∃i,P.info? f.type=some i)/\∀i:Nat,place i=(fs[i]?).map fun f=>(f.offset,(zaO P f.type).getD 0))\/
     ∃m e n,P.underlying t=some (.array m e)/\zaO P e=some n/\∀i,place i=some (i*n,n)):=by
   unfold znr at hq;split at hq
   .rename_i fs hu;split at hq
    .rename_i hall;refine⟨fun i=>(fs[i]?).map fun f=>(f.offset,(zaO P f.type).getD 0),zgm hq,fun k p q hp hq'=> ?_,.inl ⟨fs,hu,fun f hf=> ?_,fun _=>rfl⟩⟩
     .obtain⟨a,h1,h2⟩ :=hrsat k p hp;obtain⟨⟨i,x⟩,h3,h4⟩ :=zhz hq k _ h1;simp only[Z148,Z36,h3,Z134,Z45]at hq';subst hq';simp only at h4|-;split at h4
      .rename_i f hf;split at h4
       .rename_i n y hn hy;simp at h4;obtain⟨e1,e2,rfl⟩ :=h4;exact⟨by simp[hf,hn,e1,e2],E x y _ hy h2⟩
       .simp at h4
      .simp at h4
     .have:=Z50.1 hall f (by simpa using hf);simp only[Z158]at this;exact this
    .simp at hq
   .rename_i m e hu;split at hq
    .rename_i n hn;refine⟨fun i=>some (i*n,n),zgm hq,fun k p q hp hq'=> ?_,.inr ⟨m,e,n,hu,hn,fun _=>rfl⟩⟩;obtain⟨a,h1,h2⟩ :=hrsat k p hp;obtain⟨⟨i,x⟩,h3,h4⟩ :=zhz hq k _ h1;simp only[Z148,Z36,h3,Z134,Z45]at hq';subst hq';simp only at h4|-;obtain⟨y,hy,h4⟩ :=zeF h4;simp at h4;obtain⟨e1,e2,rfl⟩ :=h4;exact⟨by simp[e1,e2],E x a _ hy h2⟩
    .simp at hq
   .simp at hq
  obtain⟨place,hl2,hp,hpl⟩ :=hmain;obtain⟨v,r1,r2⟩ :=zJ1 (P:=P) (w:=w) (ρ:=ρ) (c:=c) hz place rs (ps.map fun(x:Nat×Operand)=>(x.1,ev x.2)) (by simp at hl2|-;omega) hp hcs hpl;refine⟨v,w,?_,Post.same s r2 []⟩;have:=za2 r1;simpa only[execOp,hop]using this
 .simp at hv
theorem zKC(s:Sim amb w.heap h ρ c)(hcn:¬c n)(E:zcI w amb h ρ c g ev){o:Oper}{t e:TypeId}{m es:Nat}{ps:Array (Nat×Operand)}(hop:o.op= .buildSlice t m ps){z:List F}{qs:List (Nat×A)}
  (hu:P.underlying t=some (.slice e))(hn:zaO P e=some es)(hz:zeroCells P e=some z)(hq:zat (fun(x:Nat×Operand)=>(opA x.2).map (x.1,·)) ps.toList=some qs)
  (h0:es≠0)(hzl:z.length=es)(hm:m*es<=16777216){o':O D}(hr:(O.bsl es z m qs).res g=some o'){r:Rs}(hv:opv h n o'=some r):
  ∃v w',Does P (execOp ev o) w v w'/\Post amb w h ρ c n r v w':=by
 simp only[O.res]at hr;obtain⟨rs,hrs,hr⟩ :=zay hr;cases hr;simp only[opv]at hv;split at hv
 .rename_i els hels;cases hv;have hl1:=zgm hrs;have hl2:=zgm hq;obtain⟨v,w',r1,r2⟩ :=zxt (P:=P) s hcn hu hn hz h0 hzl hm rs (ps.map fun(x:Nat×Operand)=>(x.1,ev x.2)) (by simp at hl2|-;omega)
   (fun k p q hp hq'=>by
    obtain⟨⟨i1,a1⟩,h1,h2⟩ :=zhz hrs k p hp;simp only at h2;obtain⟨d1,hd1,h2⟩ :=zay h2;cases h2;obtain⟨⟨i,x⟩,h3,h4⟩ :=zhz hq k _ h1;simp only[Z148,Z36,h3,Z134,Z45]at hq';subst hq';simp only at h4|-;obtain⟨y,hy,h4⟩ :=zeF h4;simp at h4;obtain⟨rfl,rfl⟩ :=h4;exact⟨rfl,E x a1 d1 hy hd1⟩) hels
  refine⟨v,w',?_,r2⟩;have:=za2 r1;simpa only[execOp,hop]using this
 .simp at hv
theorem zKA(s:Sim amb w.heap h ρ c)(hcn:¬c n)(E:zcI w amb h ρ c g ev){o:Oper}{t e:TypeId}{m es:Nat}{ps:Array (Nat×Operand)}(hop:o.op= .buildSlice t m ps){z:List F}{qs:List (Nat×A)}
  (hu:P.underlying t=some (.slice e))(hn:zaO P e=some es)(hz:zeroCells P e=some z)(hq:zat (fun(x:Nat×Operand)=>(opA x.2).map (x.1,·)) ps.toList=some qs)
  (h0:es≠0)(hzl:z.length=es)(hm:m*es<=16777216){o':O D}(hr:(O.bsf es z m qs).res g=some o'){r:Rs}(hv:opv h n o'=some r):
  ∃v w',Does P (execOp ev o) w v w'/\Post amb w h ρ c n r v w':=by
 simp only[O.res]at hr;obtain⟨rs,hrs,hr⟩ :=zay hr;cases hr;simp only[opv]at hv;split at hv
 .rename_i els hels;have hl1:=zgm hrs;have hl2:=zgm hq;have hpp:∀(k:Nat) p q,rs[k]? =some p->(ps.map fun(x:Nat×Operand)=>(x.1,ev x.2)).toList[k]? =some q->q.1=p.1/\Rel w.heap (zal amb h ρ) ρ c p.2 q.2:=by
   intro k p q hp hq';obtain⟨⟨i1,a1⟩,h1,h2⟩ :=zhz hrs k p hp;simp only at h2;obtain⟨d1,hd1,h2⟩ :=zay h2;cases h2;obtain⟨⟨i,x⟩,h3,h4⟩ :=zhz hq k _ h1;simp only[Z148,Z36,h3,Z134,Z45]at hq';subst hq';simp only at h4|-;obtain⟨y,hy,h4⟩ :=zeF h4;simp at h4;obtain⟨rfl,rfl⟩ :=h4;exact⟨rfl,E x a1 d1 hy hd1⟩
  split at hv
  .rename_i fs hfs;simp only[okF,Z45]at hv;subst hv;obtain⟨v,w',r1,r2⟩ :=zJ4 (P:=P) (n:=n) s hu hn hz h0 hzl hm rs (ps.map fun(x:Nat×Operand)=>(x.1,ev x.2)) (by simp at hl2|-;omega) hpp hels hfs;refine⟨v,w',?_,r2⟩;have:=za2 r1;simpa only[execOp,hop]using this
  .cases hv;obtain⟨v,w',r1,r2⟩ :=zxt (P:=P) s hcn hu hn hz h0 hzl hm rs (ps.map fun(x:Nat×Operand)=>(x.1,ev x.2)) (by simp at hl2|-;omega) hpp hels;refine⟨v,w',?_,r2⟩;have:=za2 r1;simpa only[execOp,hop]using this
 .simp at hv
theorem zxA(s:Sim amb w.heap h ρ c)(E:zcI w amb h ρ c g ev){o:Oper}{op:BinOp}{t ty:TypeId}{x y:Operand}(hop:o.op= .binOp op t x y ty){a b:A}
  (ha:opA x=some a)(hb:opA y=some b){o':O D}(hr:(O.bin op a b).res g=some o'){r:Rs}(hv:opv h n o'=some r):
  ∃v w',Does P (execOp ev o) w v w'/\Post amb w h ρ c n r v w':=by
 simp only[O.res]at hr;obtain⟨da,hda,hr1⟩ :=zay hr;obtain⟨db,hdb,hr2⟩ :=zay hr1;simp only[Z45]at hr2;subst hr2;clear hr hr1;simp only[opv]at hv;split at hv
 .rename_i fx fy;split at hv
  .rename_i z hz;simp only[okF,Z45]at hv;subst hv;have h1:=E x a _ ha hda;have h2:=E y b _ hb hdb;unfold zaK at hz;split at hz
   .simp only[Rel,zaj]at h1 h2;obtain⟨v,r1,r2⟩ :=zFw (P:=P) (w:=w) hz t (H:=w.heap) (μ:=zal amb h ρ);refine⟨v,w,?_,Post.same s (zaj.rel r2) []⟩;have:(do eqGuard op t x y (ev x) (ev y);Go.binOp op t (ev x) (ev y):Sem Value).run P w= .ok v w:=by
     rw[h1,h2];simp[zCe,r1]
    simpa only[execOp,hop]using za2 this
   .simp only[Rel,zaj]at h1 h2;obtain⟨v,r1,r2⟩ :=zFx (P:=P) (w:=w) hz t (H:=w.heap) (μ:=zal amb h ρ);refine⟨v,w,?_,Post.same s (zaj.rel r2) []⟩;have:(do eqGuard op t x y (ev x) (ev y);Go.binOp op t (ev x) (ev y):Sem Value).run P w= .ok v w:=by
     rw[h1,h2];simp[zCf,r1]
    simpa only[execOp,hop]using za2 this
   .simp at hz
  .simp at hv
 .simp at hv
theorem zxD(s:Sim amb w.heap h ρ c)(E:zcI w amb h ρ c g ev){o:Oper}{ne:Bool}{t ty:TypeId}{x y:Operand}(hop:o.op= .binOp (if ne then .neq else .eql) t x y ty){a b:A}
  (hu:P.underlying t=some .bool)(ha:opA x=some a)(hb:opA y=some b){o':O D}(hr:(O.eqb ne a b).res g=some o'){r:Rs}(hv:opv h n o'=some r):
  ∃v w',Does P (execOp ev o) w v w'/\Post amb w h ρ c n r v w':=by
 simp only[O.res]at hr;obtain⟨da,hda,hr1⟩ :=zay hr;obtain⟨db,hdb,hr2⟩ :=zay hr1;simp only[Z45]at hr2;subst hr2;clear hr hr1;simp only[opv]at hv;split at hv
 .rename_i p q;simp only[okF,Z45]at hv;subst hv;have h1:=E x a _ ha hda;have h2:=E y b _ hb hdb;simp only[Rel,zaj]at h1 h2;have hrun:=zKb (P:=P) (w:=w) hu x y p q ne;rw[<-h1,<-h2]at hrun;refine⟨.bool (if ne then !(p==q)else p==q),w,?_,Post.same s (by simp only[Rel,zaj]) []⟩;simpa only[execOp,hop]using za2 hrun
 .simp at hv
theorem zxE(s:Sim amb w.heap h ρ c)(E:zcI w amb h ρ c g ev){o:Oper}{ne:Bool}{t ty:TypeId}{td:TypeDesc}{kd:Nat}{x y:Operand}(hop:o.op= .binOp (if ne then .neq else .eql) t x y ty){a b:A}
  (hu:P.underlying t=some td)(hk:zAr td=some kd)(ha:opA x=some a)(hb:opA y=some b){o':O D}(hr:(O.eqn kd ne a b).res g=some o'){r:Rs}(hv:opv h n o'=some r):
  ∃v w',Does P (execOp ev o) w v w'/\Post amb w h ρ c n r v w':=by
 simp only[O.res]at hr;obtain⟨da,hda,hr1⟩ :=zay hr;obtain⟨db,hdb,hr2⟩ :=zay hr1;simp only[Z45]at hr2;subst hr2;clear hr hr1;simp only[opv]at hv;split at hv
 .rename_i q hq;simp only[okF,Z45]at hv;subst hv;have hrun:=zKc (P:=P) (w:=w) (ne:=ne) hu hk x y (E x a _ ha hda) (E y b _ hb hdb) hq;refine⟨.bool (if ne then !q else q),w,?_,Post.same s (by simp only[Rel,zaj]) []⟩;simpa only[execOp,hop]using za2 hrun
 .simp at hv
theorem zxC(s:Sim amb w.heap h ρ c)(E:zcI w amb h ρ c g ev){o:Oper}{ne:Bool}{t ty:TypeId}{fs:Array Field}{ks:List Nat}{x y:Operand}(hop:o.op= .binOp (if ne then .neq else .eql) t x y ty){a b:A}
  (hu:P.underlying t=some (.struct fs))(hk:flatK P 10 t=some ks)(hgd:P.eqGuardType P.depth t=false)(ha:opA x=some a)(hb:opA y=some b){o':O D}(hr:(O.eqa ks ne a b).res g=some o')
  {r:Rs}(hv:opv h n o'=some r):∃v w',Does P (execOp ev o) w v w'/\Post amb w h ρ c n r v w':=by
 simp only[O.res]at hr;obtain⟨da,hda,hr1⟩ :=zay hr;obtain⟨db,hdb,hr2⟩ :=zay hr1;simp only[Z45]at hr2;subst hr2;clear hr hr1;simp only[opv]at hv;split at hv
 .rename_i p q;split at hv
  .rename_i e he;simp only[okF,Z45]at hv;subst hv;have hrun:=zJ8 (P:=P) (w:=w) (ne:=ne) hu hk hgd x y (E x a _ ha hda) (E y b _ hb hdb) he;refine⟨.bool (if ne then !e else e),w,?_,Post.same s (by simp only[Rel,zaj]) []⟩;simpa only[execOp,hop]using za2 hrun
  .simp at hv
 .simp at hv
theorem zQZ(s:Sim amb w.heap h ρ c)(E:zcI w amb h ρ c g ev){o:Oper}{op:UnOp}{ty:TypeId}{x:Operand}(hop:o.op= .unOp op ty x){a:A}
  (ha:opA x=some a){o':O D}(hr:(O.un op a).res g=some o'){r:Rs}(hv:opv h n o'=some r):
  ∃v w',Does P (execOp ev o) w v w'/\Post amb w h ρ c n r v w':=by
 simp only[O.res]at hr;obtain⟨da,hda,hr1⟩ :=zay hr;simp only[Z45]at hr1;subst hr1;clear hr;have h1:=E x a _ ha hda;simp only[opv]at hv;split at hv
 .rename_i t;split at hv
  .simp only[okF,Z45]at hv;subst hv;simp only[Rel,zaj]at h1;refine⟨.bool !t,w,?_,Post.same s (by simp only[Rel,zaj]) []⟩;have:(Go.Op.unary .not (ev x)).run P w= .ok (.bool !t) w:=by rw[h1];rfl
   simpa only[execOp,hop]using za2 this
  .simp at hv
 .rename_i k n;split at hv
  .rename_i k' n' hp;simp only[okF,Z45]at hv;subst hv;simp only[Rel,zaj]at h1;refine⟨.int k' n',w,?_,Post.same s (by simp only[Rel,zaj]) []⟩;have:(Go.Op.unary op (ev x)).run P w= .ok (.int k' n') w:=by rw[h1];exact zsD hp
   simpa only[execOp,hop]using za2 this
  .simp at hv
 .simp at hv
theorem zDS{src dst:TypeId}{k k':IntKind}(hs:P.underlying src=some (.int k))(hd:P.underlying dst=some (.int k'))(kk:IntKind)(n:Int):
  (Go.convert src dst (.int kk n)).run P w= .ok (.int k' (k'.wrap n)) w:=by
 simp[Go.convert,zax hs,zax hd,Conv.intToInt]
theorem zDU{src dst:TypeId}(hs:P.underlying src=some .string)(hd:P.underlying dst=some .string)(b:ByteArray):
  (Go.convert src dst (.string b)).run P w= .ok (.string b) w:=by
 simp[Go.convert,zax hs,zax hd]
theorem zDT{src dst e:TypeId}(hs:P.underlying src=some .string)(hd:P.underlying dst=some (.slice e))(he:P.underlying e=some (.int .u8))(b:ByteArray):
  (Go.convert src dst (.string b)).run P w=(Conv.stringToBytes e b).run P w:=by
 simp[Go.convert,zax hs,zax hd,zax he]
theorem zDP{src dst e:TypeId}(hs:P.underlying src=some (.slice e))(hd:P.underlying dst=some .string)(he:P.underlying e=some (.int .u8))(a:Option Addr)(l k:Nat):
  (Go.convert src dst (.slice a l k)).run P w=(Conv.bytesToString (.slice a l k)).run P w:=by
 simp[Go.convert,zax hs,zax hd,zax he]
theorem zCZ{x:D}{u:Value}{els:List (List D)}{rd:List Nat}{es:Nat}{H:Array Obj}{μ:Mu}(hx:Rel H μ ρ c x u)(hns:∀q,x≠ .f (.s q))(he:elemsOf es h x=some (els,rd)):
  ∃a l k,u= .slice a l k:=by
 unfold elemsOf at he;split at he
 .simp only[Rel,zaj]at hx;exact⟨_,_,_,hx⟩
 .simp only[Rel,zaj]at hx;obtain⟨_,_,e,_⟩ :=hx;exact⟨_,_,_,e⟩
 .simp only[Rel]at hx;obtain⟨_,_,_,e,_⟩ :=hx;exact⟨_,_,_,e⟩
 .exact absurd rfl (hns _)
 .simp at he
theorem zFE(s:Sim amb w.heap h ρ c)(hcn:¬c n)(E:zcI w amb h ρ c g ev){o:Oper}{src dst:TypeId}{x:Operand}(hop:o.op= .convert src dst x){co:O A}
  (hc:(match P.underlying src,P.underlying dst,opA x with
   |some (.int _),some (.int k),some x=>some (.cvi k x)
   |some .string,some .string,some x=>some (.cvs x)
   |some .string,some (.slice e),some x=>match P.underlying e with
    |some (.int .u8)=>some (.s2b x)
    |_=>none
   |some (.slice e),some .string,some x=>match P.underlying e with
    |some (.int .u8)=>some (.b2s x)
    |_=>none
   |_,_,_=>none)=some co)
  {o':O D}(hr:co.res g=some o'){r:Rs}(hv:opv h n o'=some r):∃v w',Does P (execOp ev o) w v w'/\Post amb w h ρ c n r v w':=by
 split at hc
 .rename_i k0 k a hs hd ha;cases hc;simp only[O.res]at hr;obtain⟨d,hda,hr1⟩ :=zay hr;simp only[Z45]at hr1;subst hr1;clear hr;have h1:=E x a _ ha hda;simp only[opv]at hv;split at hv
  .rename_i kk n;simp only[okF,Z45]at hv;subst hv;simp only[Rel,zaj]at h1;refine⟨.int k (k.wrap n),w,?_,Post.same s (by simp only[Rel,zaj]) []⟩;have:=zDS (P:=P) (w:=w) hs hd kk n;rw[<-h1]at this;simpa only[execOp,hop]using za2 this
  .simp at hv
 .rename_i a hs hd ha;cases hc;simp only[O.res]at hr;obtain⟨d,hda,hr1⟩ :=zay hr;simp only[Z45]at hr1;subst hr1;clear hr;have h1:=E x a _ ha hda;simp only[opv]at hv;split at hv
  .rename_i l;simp only[okF,Z45]at hv;subst hv;simp only[Rel,zaj]at h1;refine⟨.string ⟨⟨l⟩⟩,w,?_,Post.same s (by simp only[Rel,zaj]) []⟩;have:=zDU (P:=P) (w:=w) hs hd ⟨⟨l⟩⟩;rw[<-h1]at this;rw[h1]at this;have h2:(Go.convert src dst (ev x)).run P w= .ok (.string ⟨⟨l⟩⟩) w:=by rw[h1];exact this
   simpa only[execOp,hop]using za2 h2
  .simp at hv
 .rename_i e a hs hd ha;split at hc
  .rename_i he;cases hc;simp only[O.res]at hr;obtain⟨d,hda,hr1⟩ :=zay hr;simp only[Z45]at hr1;subst hr1;clear hr;have h1:=E x a _ ha hda;simp only[opv]at hv;split at hv
   .rename_i l;split at hv
    .simp at hv
    rename_i hl0;simp only[Z45]at hv;subst hv;simp only[Rel,zaj]at h1;obtain⟨v,w',r1,r2⟩ :=zKs (P:=P) s hcn (e:=e) l hl0;have h2:(Go.convert src dst (ev x)).run P w= .ok v w':=by rw[h1,zDT hs hd he];exact r1
    exact⟨v,w',by simpa only[execOp,hop]using za2 h2,r2⟩
   .simp at hv
  .simp at hc
 .rename_i e a hs hd ha;split at hc
  .rename_i he;cases hc;simp only[O.res]at hr;obtain⟨d,hda,hr1⟩ :=zay hr;simp only[Z45]at hr1;subst hr1;clear hr;have h1:=E x a _ ha hda;simp only[opv]at hv;split at hv
   .simp at hv
   .rename_i hns;split at hv
    .rename_i els rd hel;split at hv
     .rename_i l hl;simp only[Z45]at hv;subst hv;have hns':∀q,d≠ .f (.s q):=fun q e=>hns q e
      have r1:=zJ0 (P:=P) s h1 hns' hel hl;obtain⟨a',l',k',hsv⟩ :=zCZ h1 hns' hel;have h2:(Go.convert src dst (ev x)).run P w= .ok (.string ⟨⟨l⟩⟩) w:=by rw[hsv,zDP hs hd he,<-hsv];exact r1
      exact⟨.string ⟨⟨l⟩⟩,w,by simpa only[execOp,hop]using za2 h2,Post.same s (by simp only[Rel,zaj]) rd⟩
     .simp at hv
    .simp at hv
  .simp at hc
 .simp at hc
theorem zKF(s:Sim amb w.heap h ρ c)(E:zcI w amb h ρ c g ev){o:Oper}{f:Nat}{xs ys:Array Operand}(hop:o.op= .makeFunc (.func f) xs ys){as bs:List A}
  (ha:zat opA xs.toList=some as)(hb:zat opA ys.toList=some bs){o':O D}(hr:(O.mkf f as bs).res g=some o'){r:Rs}(hv:opv h n o'=some r):
  ∃v w',Does P (execOp ev o) w v w'/\Post amb w h ρ c n r v w':=by
 simp only[O.res]at hr;obtain⟨da,hda,hr1⟩ :=zay hr;obtain⟨db,hdb,hr2⟩ :=zay hr1;simp only[Z45]at hr2;subst hr2;clear hr hr1;have h1:=E.list ha hda;have h2:=E.list hb hdb;have hrun:(Instr.makeFunc (.func f) (xs.map ev) (ys.map ev)).run P w= .ok (.func (.func f) ⟨xs.toList.map ev⟩ ⟨ys.toList.map ev⟩) w:=by
  have e1:xs.map ev=⟨xs.toList.map ev⟩ :=by apply Z104;simp
  have e2:ys.map ev=⟨ys.toList.map ev⟩ :=by apply Z104;simp
  rw[e1,e2];rfl
 have hdo:Does P (execOp ev o) w (.func (.func f) ⟨xs.toList.map ev⟩ ⟨ys.toList.map ev⟩) w:=by
  simpa only[execOp,hop]using za2 hrun
 refine⟨_,w,hdo,?_⟩;simp only[opv]at hv;split at hv
 .simp only[okF,Z45]at hv;subst hv;simp only[zaq]at h1 h2;rw[h1,h2];exact Post.same s (by simp only[Rel,zaj]) []
 .simp only[okD,Z45]at hv;subst hv;exact Post.same s (by simp only[Rel];exact⟨_,_,rfl,h1,h2⟩) []
theorem zxF(s:Sim amb w.heap h ρ c)(E:zcI w amb h ρ c g ev){o:Oper}{t kt e:TypeId}{kd:Nat}{m k v:Operand}(hop:o.op= .mapUpdate t m k v\/o.op= .insert t m k v){am ak av:A}
  (hu:P.underlying t=some (.map kt e))(hkd:ziw P kt=some kd)(hm:opA m=some am)(hk:opA k=some ak)(hvv:opA v=some av){o':O D}(hr:(O.mup kd am ak av).res g=some o')
  {r:Rs}(hv:opv h n o'=some r):∃v w',Does P (execOp ev o) w v w'/\Post amb w h ρ c n r v w':=by
 simp only[O.res]at hr;obtain⟨dm,hdm,hr1⟩ :=zay hr;obtain⟨dk,hdk,hr2⟩ :=zay hr1;obtain⟨dv,hdv,hr3⟩ :=zay hr2;simp only[Z45]at hr3;subst hr3;clear hr hr1 hr2;have h1:=E m am _ hm hdm;have h2:=E k ak _ hk hdk;have h3:=E v av _ hvv hdv;have fin:∀{w'},(Instr.mapUpdate t (ev m) (ev k) (ev v)).run P w= .ok () w'->Does P (execOp ev o) w undef w':=by
  intro w' hh;rcases hop with hop|hop<;>simpa only[execOp,hop]using zBN hh
 simp only[opv]at hv;split at hv
 .rename_i id kf;simp only[Rel]at h2;split at hv
  .rename_i ents ho;split at hv
   .split at hv
    .rename_i i d0 hf;simp only[Z45]at hv;subst hv;obtain⟨w',r1,r2⟩ :=zxy (P:=P) s hu hkd h2 h1 h3 ho hf rfl;exact⟨undef,w',fin r1,r2⟩
    .rename_i hf;simp only[Z45]at hv;subst hv;obtain⟨w',r1,r2⟩ :=zxy (P:=P) s hu hkd h2 h1 h3 ho hf rfl;exact⟨undef,w',fin r1,r2⟩
    .simp at hv
   .simp at hv
  .simp at hv
 .simp at hv
theorem zKG(s:Sim amb w.heap h ρ c)(E:zcI w amb h ρ c g ev){o:Oper}{t kt e:TypeId}{kd:Nat}{z:F}{ok:Bool}{m k:Operand}(hop:o.op= .lookup t m k ok){am ak:A}
  (hu:P.underlying t=some (.map kt e))(hkd:ziw P kt=some kd)(hz:zrn P e=some z)(hm:opA m=some am)(hk:opA k=some ak){o':O D}(hr:(O.mlk kd z ok am ak).res g=some o')
  {r:Rs}(hv:opv h n o'=some r):∃v w',Does P (execOp ev o) w v w'/\Post amb w h ρ c n r v w':=by
 simp only[O.res]at hr;obtain⟨dm,hdm,hr1⟩ :=zay hr;obtain⟨dk,hdk,hr2⟩ :=zay hr1;simp only[Z45]at hr2;subst hr2;clear hr hr1;have h1:=E m am _ hm hdm;have h2:=E k ak _ hk hdk;have fin:∀{ents:List (F×D)} {q:Option (Nat×D)} {kf:F} {rd:List Nat},dk= .f kf->((dm= .f .nilm/\ents=[])\/∃id,dm= .mp id/\h id=some (.map ents))->zc1 kd kf ents 0=some q->
   r={d:=mlkD ok z q,rd,c:=n}->∃v w',Does P (execOp ev o) w v w'/\Post amb w h ρ c n r v w':=by
  intro ents q kf rd hkf he hf hreq;subst hkf;simp only[Rel]at h2;obtain⟨v,r1,r2⟩ :=zKp (P:=P) s hu hkd hz h2 h1 ok he hf;subst hreq;exact⟨v,w,by simpa only[execOp,hop]using za2 r1,Post.same s r2 rd⟩
 simp only[opv]at hv;split at hv
 .rename_i kf;split at hv
  .split at hv
   .simp only[Z45]at hv;exact fin (ents:=[]) (q:=none) rfl (.inl ⟨rfl,rfl⟩) rfl hv.symm
   .rename_i id;split at hv
    .rename_i ents ho;split at hv
     .rename_i i v0 hf;simp only[Z45]at hv;exact fin rfl (.inr ⟨id,rfl,ho⟩) hf hv.symm
     .rename_i hf;simp only[Z45]at hv;exact fin rfl (.inr ⟨id,rfl,ho⟩) hf hv.symm
     .simp at hv
    .simp at hv
   .simp at hv
  .simp at hv
 .simp at hv
theorem zQX(s:Sim amb w.heap h ρ c)(E:zcI w amb h ρ c g ev){o:Oper}{t e:TypeId}{es:Nat}{x i:Operand}(hop:o.op= .indexAddr t x i){ax ai:A}
  (hu:P.underlying t=some (.slice e))(hn:zaO P e=some es)(hx:opA x=some ax)(hi:opA i=some ai){o':O D}(hr:(O.ia es ax ai).res g=some o')
  {r:Rs}(hv:opv h n o'=some r):∃v w',Does P (execOp ev o) w v w'/\Post amb w h ρ c n r v w':=by
 simp only[O.res]at hr;obtain⟨dx,hdx,hr1⟩ :=zay hr;obtain⟨di,hdi,hr2⟩ :=zay hr1;simp only[Z45]at hr2;subst hr2;clear hr hr1;have h1:=E x ax _ hx hdx;have h2:=E i ai _ hi hdi;simp only[opv]at hv;split at hv
 .rename_i n hidx;obtain⟨k,hk⟩ :=zcX hidx h2;split at hv
  .rename_i es' els;split at hv
   .rename_i hes;subst hes;split at hv
    .rename_i el hel;simp only[okD,Z45]at hv;subst hv;simp only[Rel,zaj]at h1;obtain⟨a0,cap,e1,_,b,o1,ha0,hf⟩ :=h1;have hlt:=(Z8.1 hel).1;rw[ha0 (fun e=>by rw[e]at hlt;simp at hlt)]at e1;have hrun:=zCL (P:=P) (w:=w) hu hn ⟨b,o1,none⟩ els.length cap k n hlt;rw[<-hk,<-e1]at hrun;refine⟨_,w,by simpa only[execOp,hop]using za2 hrun,Post.same s ?_ []⟩;simp only[Rel];exact⟨b,o1+n*es,by rw[zcM],(hf.at n el hel).2⟩
    .simp at hv
   .simp at hv
  .rename_i id off m es' lim ex;split at hv
   .rename_i hcc;obtain⟨rfl,hlt⟩ :=hcc;simp only[okD,Z45]at hv;subst hv;simp only[Rel]at h1;obtain⟨hid,a,cap,e1,q1,_,_,q4⟩ :=h1;have hrun:=zCL (P:=P) (w:=w) hu hn a m cap k n hlt;rw[<-hk,<-e1]at hrun;refine⟨_,w,by simpa only[execOp,hop]using za2 hrun,Post.same s ?_ []⟩;simp only[Rel];refine⟨hid,_,rfl,fun b hb=> ?_⟩;rw[(q4 b hb).1 (by omega),zcM,Z111,Z35]
   .simp at hv
  .simp at hv
 .simp at hv
theorem zKD(s:Sim amb w.heap h ρ c)(E:zcI w amb h ρ c g ev){o:Oper}{t e:TypeId}{es m:Nat}{x i:Operand}(hop:o.op= .indexAddr t x i){ax ai:A}
  (hu:P.underlying t=some (.array m e))(hn:zaO P e=some es)(hx:opA x=some ax)(hi:opA i=some ai){o':O D}(hr:(O.iaa es m ax ai).res g=some o')
  {r:Rs}(hv:opv h n o'=some r):∃v w',Does P (execOp ev o) w v w'/\Post amb w h ρ c n r v w':=by
 simp only[O.res]at hr;obtain⟨dx,hdx,hr1⟩ :=zay hr;obtain⟨di,hdi,hr2⟩ :=zay hr1;simp only[Z45]at hr2;subst hr2;clear hr hr1;have h1:=E x ax _ hx hdx;have h2:=E i ai _ hi hdi;simp only[opv]at hv;split at hv
 .rename_i n hidx;obtain⟨k,hk⟩ :=zcX hidx h2;split at hv
  .rename_i hlt;split at hv
   .rename_i id es' i' j;simp only[okD,Z45]at hv;subst hv;simp only[Rel]at h1;obtain⟨hid,a,e1,q4⟩ :=h1;have hrun:=zxu (P:=P) (w:=w) hu hn a k n hlt;rw[<-hk,<-e1]at hrun;refine⟨_,w,by simpa only[execOp,hop]using za2 hrun,Post.same s ?_ []⟩;simp only[Rel];refine⟨hid,_,rfl,fun b hb=> ?_⟩;rw[q4 b hb,zcM,Z82]
   .rename_i cs;simp only[okD,Z45]at hv;subst hv;simp only[Rel]at h1;obtain⟨b,o1,e1,hf⟩ :=h1;have hrun:=zxu (P:=P) (w:=w) hu hn ⟨b,o1,none⟩ k n hlt;rw[<-hk,<-e1]at hrun;refine⟨_,w,by simpa only[execOp,hop]using za2 hrun,Post.same s ?_ []⟩;simp only[Rel];exact⟨b,o1+n*es,by rw[zcM],hf.drop _⟩
   .simp at hv
  .simp at hv
 .simp at hv
theorem zFA{t e ty:TypeId}(x:D)(u:Value){n:Nat}{H:Array Obj}{μ:Mu}(hu:P.underlying t=some (.slice e))
  (hx:Rel H μ ρ c x u)(hl:zci x=some n):(Builtin.len_ #[t] ty #[u]).run P w= .ok (.int .i64 n) w:=by
 unfold zci at hl;split at hl
 .simp only[Rel,zaj]at hx;subst hx;simp at hl;subst hl;simp[Builtin.len_,zax hu,goInt]
 .simp only[Rel,zaj]at hx;obtain⟨a,cap,rfl,_⟩ :=hx;simp at hl;subst hl;simp[Builtin.len_,zax hu,goInt]
 .simp only[Rel]at hx;obtain⟨_,a,cap,rfl,_⟩ :=hx;simp at hl;subst hl;simp[Builtin.len_,zax hu,goInt]
 .simp at hl
theorem zFy{t e ty:TypeId}(x:D)(u:Value){n:Nat}{H:Array Obj}{μ:Mu}(hu:P.underlying t=some (.slice e))
  (hx:Rel H μ ρ c x u)(hl:zyR x=some n):(Builtin.cap_ #[t] ty #[u]).run P w= .ok (.int .i64 n) w:=by
 unfold zyR at hl;split at hl
 .simp only[Rel,zaj]at hx;subst hx;simp at hl;subst hl;simp[Builtin.cap_,zax hu,goInt]
 .simp only[Rel]at hx;obtain⟨_,a,cap,rfl,_,_,h3,_⟩ :=hx;simp at hl;subst hl;have:=h3 trivial;simp[Builtin.cap_,zax hu,goInt];omega
 .simp at hl
def arr1{α:Type}{xs:Array α}{x:α}(hx:xs.toList=[x]):xs= #[x]:=by apply Z104;simpa using hx
def ztT{α:Type}{xs:Array α}{x y:α}(hx:xs.toList=[x,y]):xs= #[x,y]:=by apply Z104;simpa using hx
def zA0(s:Sim amb w.heap h ρ c)(hcn:¬c n)(E:zcI w amb h ρ c g ev){o:Oper}{xs:Array Operand}{ats:Array TypeId}(hop:o.op= .call {callee:= .builtin .append,args:=xs,argTypes:=ats})
  {sx x:Operand}{ts tx e:TypeId}(hxs:xs.toList=[sx,x])(hats:ats.toList=[ts,tx])(hu:P.underlying ts=some (.slice e)){es byt:Nat}(hn:zaO P e=some es)(hby:zgJ P e=some byt)
  {z:List F}(hz:zeroCells P e=some z)(h0:es≠0)(hzl:z.length=es){as ax:A}(hs:opA sx=some as)(hx:opA x=some ax){co:O A}
  (hc:(match P.underlying tx with
     |some (.int _)=>some (.apz es byt z as ax)
     |some (.slice _)|some .string=>some (.app es byt as ax)
     |_=>none)=some co)
  {o':O D}(hr:co.res g=some o'){r:Rs}(hv:opv h n o'=some r):∃v w',Does P (execOp ev o) w v w'/\Post amb w h ρ c n r v w':=by
 have hxs':=ztT hxs;have hats':=ztT hats;subst hxs' hats';have fin:∀{new:List (List D)} {nv:List Value} {ds:D} {rd:List Nat},zx0 P w (zal amb h ρ) ρ c ts tx e es (ev x) new nv->Rel w.heap (zal amb h ρ) ρ c ds (ev sx)->
   za3 es byt h n ds new rd=some r->∃v w',Does P (execOp ev o) w v w'/\Post amb w h ρ c n r v w':=by
  intro new nv ds rd X hds happ;obtain⟨v,w',r1,r2⟩ :=zJY s hcn hby X hds happ o.type;refine⟨v,w',?_,r2⟩;left;simp[execOp,hop,resolve,invoke,Go.builtin,r1]
 have app:((∃e',P.underlying tx=some (.slice e'))\/P.underlying tx=some .string)->co= .app es byt as ax->∃v w',Does P (execOp ev o) w v w'/\Post amb w h ρ c n r v w':=by
  intro htx hco;subst hco;simp only[O.res]at hr;obtain⟨ds,hds,hr1⟩ :=zay hr;obtain⟨dx,hdx,hr2⟩ :=zay hr1;simp only[Z45]at hr2;subst hr2;simp only[opv]at hv;split at hv
  .rename_i new rd hel;obtain⟨vs,EV⟩ :=ziT (P:=P) s (E x ax _ hx hdx) hel;exact fin (zDt hu hn hz hzl htx EV) (E sx as _ hs hds) hv
  .simp at hv
 split at hc
 .rename_i k0 htx;cases hc;simp only[O.res]at hr;obtain⟨ds,hds,hr1⟩ :=zay hr;obtain⟨dx,hdx,hr2⟩ :=zay hr1;simp only[Z45]at hr2;subst hr2;simp only[opv]at hv;split at hv
  .rename_i n hidx;split at hv
   .rename_i hcc;obtain⟨k,hk⟩ :=zcX hidx (E x ax _ hx hdx);obtain⟨vs,X⟩ :=zyz (P:=P) (w:=w) (ρ:=ρ) (c:=c) (μ:=zal amb h ρ) hu hn hby hz hzl h0 htx k n hcc.1 hcc.2;rw[<-hk]at X;exact fin X (E sx as _ hs hds) hv
   .simp at hv
  .simp at hv
 .rename_i e' htx;exact app (.inl ⟨e',htx⟩) (Z53 hc).symm
 .rename_i htx;exact app (.inr htx) (Z53 hc).symm
 .simp at hc
def zFG(s:Sim amb w.heap h ρ c)(E:zcI w amb h ρ c g ev){o:Oper}{xs:Array Operand}{ats:Array TypeId}(hop:o.op= .call {callee:= .builtin .copy,args:=xs,argTypes:=ats})
  {dx x:Operand}{td e:TypeId}{tl:List TypeId}(hxs:xs.toList=[dx,x])(hats:ats.toList=td::tl)(hu:P.underlying td=some (.slice e)){es:Nat}(hn:zaO P e=some es)
  {ad ax:A}(hd:opA dx=some ad)(hx:opA x=some ax)
  {o':O D}(hr:(O.cpy es ad ax).res g=some o'){r:Rs}(hv:opv h n o'=some r):∃v w',Does P (execOp ev o) w v w'/\Post amb w h ρ c n r v w':=by
 have hxs':=ztT hxs;subst hxs';simp only[O.res]at hr;obtain⟨dd,hdd,hr1⟩ :=zay hr;obtain⟨dxx,hdx,hr2⟩ :=zay hr1;simp only[Z45]at hr2;subst hr2;clear hr hr1;have fin:∀{v:Value} {w':World},(Builtin.copy_ ats o.type #[ev dx,ev x]).run P w= .ok v w'->Does P (execOp ev o) w v w':=by
  intro v w' hh;left;simp[execOp,hop,resolve,invoke,Go.builtin,hh]
 have hat0:∀(a b:Value) (ty:TypeId),Builtin.copy_ ats ty #[a,b]=Builtin.copy_ #[td,td] ty #[a,b]:=by
  intro a b ty;have:ats[0]? =some td:=by rw[<-Z69,hats];rfl
  simp only[Builtin.copy_,this];rfl
 simp only[opv]at hv;have h1:=E dx ad _ hd hdd;split at hv
 .split at hv
  .rename_i els rd hel;obtain⟨vs,EV⟩ :=ziT (P:=P) s (E x ax _ hx hdx) hel;simp only[Z45]at hv;subst hv;simp only[Rel,zaj]at h1;refine⟨.int .i64 0,w,fin ?_,Post.same s (by simp only[Rel,zaj]) rd⟩;have hf:=EV.first w 0 rfl (Z61 _);rw[h1,hat0];simp[Builtin.copy_,zax hu,za9 hn,EV.len w,hf,goInt]
  .simp at hv
 .rename_i id off m es' lim ex;split at hv
  .rename_i els len rd hel;obtain⟨hmin,vs,EV⟩ :=zFK (P:=P) s (E x ax _ hx hdx) hel;split at hv
   .rename_i es'' ro old ho;split at hv
    .rename_i hcc;obtain⟨rfl,rfl,q1,q2,q3⟩ :=hcc;simp only[Z45]at hv;subst hv;obtain⟨w',r1,r2⟩ :=zJ7 (P:=P) s (ty:=o.type) (ts':=td) hu hn EV h1 ho q1 q2 hmin q3 (id::rd);exact⟨_,w',fin (by rw[hat0];exact r1),r2⟩
    .simp at hv
   .simp at hv
  .simp at hv
 .simp at hv
def zC4(s:Sim amb w.heap h ρ c)(E:zcI w amb h ρ c g ev){o:Oper}{xs:Array Operand}{ats:Array TypeId}(hop:o.op= .call {callee:= .builtin .clear,args:=xs,argTypes:=ats})
  {x:Operand}{t e:TypeId}(hxs:xs.toList=[x])(hats:ats.toList=[t])(hu:P.underlying t=some (.slice e)){es:Nat}{z:List F}(hz:zeroCells P e=some z)(h0:es≠0)(hzl:z.length=es)
  {ax:A}(hx:opA x=some ax)
  {o':O D}(hr:(O.clr es z ax).res g=some o'){r:Rs}(hv:opv h n o'=some r):∃v w',Does P (execOp ev o) w v w'/\Post amb w h ρ c n r v w':=by
 have hxs':=arr1 hxs;have hats':=arr1 hats;subst hxs' hats';simp only[O.res]at hr;obtain⟨dx,hdx,hr1⟩ :=zay hr;simp only[Z45]at hr1;subst hr1;clear hr;have h1:=E x ax _ hx hdx;have fin:∀{v:Value} {w':World},(Builtin.clear_ #[t] o.type #[ev x]).run P w= .ok v w'->Does P (execOp ev o) w v w':=by
  intro v w' hh;left;simp[execOp,hop,resolve,invoke,Go.builtin,hh]
 simp only[opv]at hv;split at hv
 .simp only[okF,Z45]at hv;subst hv;simp only[Rel,zaj]at h1;refine⟨.tuple #[],w,fin ?_,Post.same s (by simp only[Rel,zaj]) []⟩;rw[h1];simp[Builtin.clear_,zax hu]
 .rename_i id off m es' lim ex;split at hv
  .rename_i es'' ro old ho;split at hv
   .rename_i hcc;obtain⟨rfl,rfl,q1,q2,q3⟩ :=hcc;simp only[Z45]at hv;subst hv;obtain⟨w',r1,r2⟩ :=zJ5 (P:=P) s (ty:=o.type) hu hz hzl h0 h1 ho q1 q2 q3;exact⟨_,w',fin r1,r2⟩
   .simp at hv
  .simp at hv
 .simp at hv
def zwz(s:Sim amb w.heap h ρ c)(hcn:¬c n)(E:zcI w amb h ρ c g ev){o:Oper}{b:Builtin}{xs:Array Operand}{ats:Array TypeId}(hop:o.op= .call {callee:= .builtin b,args:=xs,argTypes:=ats})
  {co:O A}(hc:ziQ P b xs.toList ats.toList=some co){o':O D}(hr:co.res g=some o'){r:Rs}(hv:opv h n o'=some r):
  ∃v w',Does P (execOp ev o) w v w'/\Post amb w h ρ c n r v w':=by
 unfold ziQ at hc;split at hc
 ·
  rename_i sx x ts tx hxs hats;split at hc
  .rename_i e hu;split at hc
   .rename_i es byt as ax hn hby hs hx;split at hc
    .rename_i z hz;split at hc
     .simp at hc
     .rename_i hcc;have h0:es≠0:=fun e=>hcc (.inl e)
      have hzl:z.length=es:=by
       rcases Nat.decEq z.length es with e|e
       .exact absurd (.inr e) hcc
       .exact e
      exact zA0 s hcn E hop hxs hats hu hn hby hz h0 hzl hs hx hc hr hv
    .simp at hc
   .simp at hc
  .simp at hc
 ·
  rename_i dx x td tl hxs hats;split at hc
  .rename_i e hu;split at hc
   .rename_i es ad ax hn hd hx;split at hc
    .simp at hc
    .cases hc;exact zFG s E hop hxs hats hu hn hd hx hr hv
   .simp at hc
  .simp at hc
 ·
  rename_i x t hxs hats;have hxs':=arr1 hxs;have hats':=arr1 hats;subst hxs' hats';have fin:∀{v:Value} {w':World},(Builtin.len_ #[t] o.type #[ev x]).run P w= .ok v w'->Does P (execOp ev o) w v w':=by
   intro v w' hh;left;simp[execOp,hop,resolve,invoke,Go.builtin,hh]
  split at hc
  .rename_i e hu;obtain⟨ax,hx,rfl⟩ :=zeF hc;simp only[O.res]at hr;obtain⟨dx,hdx,hr1⟩ :=zay hr;simp only[Z45]at hr1;subst hr1;simp only[opv]at hv;split at hv
   .rename_i n hl;simp only[okF,Z45]at hv;subst hv;exact⟨_,w,fin (zFA dx _ hu (E x ax _ hx hdx) hl),Post.same s (by simp only[Rel,zaj]) []⟩
   .simp at hv
  .rename_i hu;obtain⟨ax,hx,rfl⟩ :=zeF hc;simp only[O.res]at hr;obtain⟨dx,hdx,hr1⟩ :=zay hr;simp only[Z45]at hr1;subst hr1;clear hr;have h1:=E x ax _ hx hdx;simp only[opv]at hv;split at hv
   .rename_i l;simp only[okF,Z45]at hv;subst hv;simp only[Rel,zaj]at h1;refine⟨.int .i64 l.length,w,fin ?_,Post.same s (by simp only[Rel,zaj]) []⟩;rw[h1];simp[Builtin.len_,zax hu,goInt,ziF]
   .simp at hv
  .rename_i kt e hu;obtain⟨ax,hx,rfl⟩ :=zeF hc;simp only[O.res]at hr;obtain⟨dx,hdx,hr1⟩ :=zay hr;simp only[Z45]at hr1;subst hr1;clear hr;have h1:=E x ax _ hx hdx;simp only[opv]at hv;split at hv
   .simp only[okF,Z45]at hv;subst hv;simp only[Rel,zaj]at h1;refine⟨.int .i64 0,w,fin ?_,Post.same s (by simp only[Rel,zaj]) []⟩;rw[h1];simp[Builtin.len_,zax hu,goInt]
   .rename_i id;split at hv
    .rename_i ents ho;simp only[Z45]at hv;subst hv;obtain⟨b,hb,es,clock,b1,b2⟩ :=s.obj id _ ho;simp only[Rel]at h1;obtain⟨_,rr,e1,hrr⟩ :=h1;rw[hrr b hb]at e1;refine⟨.int .i64 ents.length,w,fin ?_,Post.same s (by simp only[Rel,zaj]) [id]⟩;rw[e1];have:=b2.1.len;simp at this;simp[Builtin.len_,zax hu,zia b1,goInt,this]
    .simp at hv
   .simp at hv
  .simp at hc
 ·
  rename_i x t hxs hats;have hxs':=arr1 hxs;have hats':=arr1 hats;subst hxs' hats';split at hc
  .rename_i e hu;obtain⟨ax,hx,rfl⟩ :=zeF hc;simp only[O.res]at hr;obtain⟨dx,hdx,hr1⟩ :=zay hr;simp only[Z45]at hr1;subst hr1;simp only[opv]at hv;split at hv
   .rename_i n hl;simp only[okF,Z45]at hv;subst hv;have hh:=zFy (P:=P) (w:=w) (ty:=o.type) dx _ hu (E x ax _ hx hdx) hl;refine⟨.int .i64 n,w,?_,Post.same s (by simp only[Rel,zaj]) []⟩;left;simp[execOp,hop,resolve,invoke,Go.builtin,hh]
   .simp at hv
  .simp at hc
 ·
  rename_i x t hxs hats;split at hc
  .rename_i e hu;split at hc
   .rename_i es z ax hn hz hx;split at hc
    .rename_i hcc;cases hc;exact zC4 s E hop hxs hats hu hz hcc.1 hcc.2 hx hr hv
    .simp at hc
   .simp at hc
  .simp at hc
 ·
  rename_i x y hxs;have hxs':=ztT hxs;subst hxs';split at hc
  .rename_i ax ay hx hy;cases hc;simp only[O.res]at hr;obtain⟨dx,hdx,hr1⟩ :=zay hr;obtain⟨dy,hdy,hr2⟩ :=zay hr1;simp only[Z45]at hr2;subst hr2;clear hr hr1;have h1:=E x ax _ hx hdx;have h2:=E y ay _ hy hdy;simp only[opv]at hv;split at hv
   .split at hv
    .rename_i hk;subst hk;simp only[okF,Z45]at hv;subst hv;simp only[Rel,zaj]at h1 h2;refine⟨_,w,?_,Post.same s (by simp only[Rel,zaj];rfl) []⟩;left;simp[execOp,hop,resolve,invoke,Go.builtin,Builtin.min_,Builtin.min2,h1,h2]
    .simp at hv
   .simp at hv
  .simp at hc
 ·
  rename_i x y hxs;have hxs':=ztT hxs;subst hxs';split at hc
  .rename_i ax ay hx hy;cases hc;simp only[O.res]at hr;obtain⟨dx,hdx,hr1⟩ :=zay hr;obtain⟨dy,hdy,hr2⟩ :=zay hr1;simp only[Z45]at hr2;subst hr2;clear hr hr1;have h1:=E x ax _ hx hdx;have h2:=E y ay _ hy hdy;simp only[opv]at hv;split at hv
   .split at hv
    .rename_i hk;subst hk;simp only[okF,Z45]at hv;subst hv;simp only[Rel,zaj]at h1 h2;refine⟨_,w,?_,Post.same s (by simp only[Rel,zaj];rfl) []⟩;left;simp[execOp,hop,resolve,invoke,Go.builtin,Builtin.max_,Builtin.max2,h1,h2]
    .simp at hv
   .simp at hv
  .simp at hc
 .simp at hc
theorem znN(s:Sim amb w.heap h ρ c)(hcn:¬c n)(E:zcI w amb h ρ c g ev){o:Oper}{co:O A}{fz:Bool}(hc:zfi P pur fz o=some co){o':O D}(hr:co.res g=some o'){r:Rs}
  (hv:opv h n o'=some r):∃v w',Does P (execOp ev o) w v w'/\Post amb w h ρ c n r v w':=by
 unfold zfi at hc;split at hc
 ·
  rename_i x hop;exact zvS s E (.inl hop) hc hr hv
 .rename_i x hop;exact zvS s E (.inr hop) hc hr hv
 .rename_i x y z hop;split at hc
  .rename_i a b d ha hb hd;cases hc;exact zFJ s E hop ha hb hd hr hv
  .simp at hc
 ·
  rename_i t hop;obtain⟨z,hz,rfl⟩ :=zeF hc;simp only[O.res,Z45]at hr;subst hr;simp only[opv,Z45]at hv;subst hv;obtain⟨v,w',r1,r2⟩ :=zKr (P:=P) s hcn hz;exact⟨v,w',by simpa only[execOp,hop]using za2 r1,r2⟩
 ·
  rename_i t x hop;obtain⟨y,hy,rfl⟩ :=zeF hc;simp only[O.res]at hr;obtain⟨d,hd,hr⟩ :=zay hr;simp only[Z45]at hr;subst hr;simp only[opv]at hv;split at hv
  .rename_i cs hcs;simp only[Z45]at hv;subst hv;obtain⟨v,w',r1,r2⟩ :=zJ3 (P:=P) s hcn (E x y d hy hd) hcs t;exact⟨v,w',by simpa only[execOp,hop]using za2 r1,r2⟩
  .simp at hv
 ·
  rename_i t ps hop;split at hc
  .rename_i z qs hz hq;cases hc;exact zC3 s E hop hz hq hr hv
  .simp at hc
 ·
  rename_i t m ps hop;split at hc
  .rename_i e hu;split at hc
   .rename_i es z qs hn hz hq;split at hc
    .rename_i hcond;obtain⟨h0,hzl,hm⟩ :=hcond;cases fz
     .cases hc;exact zKC s hcn E hop hu hn hz hq h0 hzl hm hr hv
     .cases hc;exact zKA s hcn E hop hu hn hz hq h0 hzl hm hr hv
    .simp at hc
   .simp at hc
  .simp at hc
 ·
  rename_i t x hop;split at hc
  .rename_i gg n y hg hn hy;cases hc;simp only[O.res]at hr;obtain⟨d,hd,hr⟩ :=zay hr;simp only[Z45]at hr;subst hr;simp only[opv]at hv;split at hv
   .rename_i d' rd hl;simp only[Z45]at hv;subst hv;obtain⟨v,r1,r2⟩ :=zCM (P:=P) s hg hn (E x y d hy hd) hl;exact⟨v,w,by simpa only[execOp,hop]using za2 r1,Post.same s r2 rd⟩
   .simp at hv
  .simp at hc
 ·
  rename_i t a x hop;split at hc
  .rename_i n y z hn hy hz;cases hc;simp only[O.res]at hr;obtain⟨d,hd,hr⟩ :=zay hr;obtain⟨d2,hd2,hr⟩ :=zay hr;simp only[Z45]at hr;subst hr;simp only[opv]at hv;split at hv
   .rename_i id ob hs;simp only[Z45]at hv;subst hv;obtain⟨w',r1,r2⟩ :=zQL (P:=P) s hn (E a y d hy hd) (E x z d2 hz hd2) hs;exact⟨undef,w',by simpa only[execOp,hop]using zBN r1,r2⟩
   .simp at hv
  .simp at hc
 ·
  rename_i x hop;obtain⟨y,hy,rfl⟩ :=zeF hc;simp only[O.res]at hr;obtain⟨d,hd,hr⟩ :=zay hr;simp only[Z45]at hr;subst hr;have hrel:=E x y d hy hd;have key:((∃a,ev x= .pointer (some a))\/∃f a b,ev x= .func (.func f) a b)->okD n d=some r->∃v w',Does P (execOp ev o) w v w'/\Post amb w h ρ c n r v w':=by
   intro he hok;simp only[okD,Z45]at hok;subst hok;refine⟨ev x,w,?_,Post.same s hrel []⟩;left;rcases he with⟨a,he⟩ |⟨f,a,b,he⟩ <;>simp[execOp,hop,he]
  clear hd;cases d with
  |ptr id es i j=>
   refine key ?_ (by simpa only[opv]using hv);simp only[Rel]at hrel;obtain⟨_,a,e,_⟩ :=hrel;exact .inl ⟨_,e⟩
  |fptr cs=>
   refine key ?_ (by simpa only[opv]using hv);simp only[Rel]at hrel;obtain⟨_,a,e,_⟩ :=hrel;exact .inl ⟨_,e⟩
  |fn f a b=>
   refine key ?_ (by simpa only[opv]using hv);simp only[Rel]at hrel;obtain⟨_,a,e,_⟩ :=hrel;exact .inr ⟨_,_,_,e⟩
  |f x'=>
   cases x' with
   |fn f=>
    refine key ?_ (by simpa only[opv]using hv);simp only[Rel,zaj]at hrel;exact .inr ⟨_,_,_,hrel⟩
   |_=>simp[opv]at hv
  |_=>simp[opv]at hv
 ·
  rename_i op t x y ty hop;split at hc
  .rename_i a b ha hb;split at hc
   .cases hc;exact zxA s E hop ha hb hr hv
   .cases hc;exact zxA s E hop ha hb hr hv
   .rename_i hu;split at hc
    .cases hc;exact zxD s E (ne:=false) hop hu ha hb hr hv
    .cases hc;exact zxD s E (ne:=true) hop hu ha hb hr hv
    .simp at hc
   .rename_i fs hu;split at hc
    .rename_i ks hk;split at hc
     .simp at hc
     .rename_i hgd;split at hc
      .cases hc;exact zxC s E (ne:=false) hop hu hk (by simpa using hgd) ha hb hr hv
      .cases hc;exact zxC s E (ne:=true) hop hu hk (by simpa using hgd) ha hb hr hv
      .simp at hc
    .simp at hc
   .rename_i td _ _ _ _ hu;split at hc
    .rename_i kd hkd;have hk:zAr td=some kd:=by
      rw[<-hkd];cases td<;>rfl
     split at hc
     .cases hc;exact zxE s E (ne:=false) hop hu hk ha hb hr hv
     .cases hc;exact zxE s E (ne:=true) hop hu hk ha hb hr hv
     .simp at hc
    .simp at hc
   .simp at hc
  .simp at hc
 ·
  rename_i op ty x hop;obtain⟨a,ha,rfl⟩ :=zeF hc;exact zQZ s E hop ha hr hv
 ·
  rename_i src dst x hop;exact zFE s hcn E hop hc hr hv
 ·
  rename_i fn xs ys hop;split at hc
  .rename_i f;split at hc
   .rename_i as bs ha hb;cases hc;exact zKF s E hop ha hb hr hv
   .simp at hc
  .simp at hc
 ·
  rename_i t rr hop;split at hc
  .cases hc;simp only[O.res,Z45]at hr;subst hr;simp only[opv,Z45]at hv;subst hv;obtain⟨v,w',r1,r2⟩ :=zKq (P:=P) s hcn t;exact⟨v,w',by simpa only[execOp,hop,Option.map_none]using za2 r1,r2⟩
  .simp at hc
 ·
  rename_i t l m hop;split at hc
  .rename_i e hu;split at hc
   .rename_i es byt z al am hn hby hz hl hm;split at hc
    .rename_i hcond;obtain⟨h0,hzl⟩ :=hcond;cases hc;simp only[O.res]at hr;obtain⟨dl,hdl,hr1⟩ :=zay hr;obtain⟨dm,hdm,hr2⟩ :=zay hr1;simp only[Z45]at hr2;subst hr2;clear hr hr1;have h1:=E l al _ hl hdl;have h2:=E m am _ hm hdm;simp only[opv]at hv;split at hv
     .rename_i nl nm il im;split at hv
      .rename_i hcc;obtain⟨c1,c2,c3⟩ :=hcc;simp only[Z45]at hv;subst hv;obtain⟨k1,e1⟩ :=zcX il h1;obtain⟨k2,e2⟩ :=zcX im h2;obtain⟨v,w',r1,r2⟩ :=zKo (P:=P) s hcn hu hn hby hz h0 hzl k1 k2 nl nm c1 c2 c3;rw[<-e1,<-e2]at r1;exact⟨v,w',by simpa only[execOp,hop]using za2 r1,r2⟩
      .simp at hv
     .simp at hv
    .simp at hc
   .simp at hc
  .simp at hc
 ·
  rename_i t x lo hi mx hop;split at hc
  .rename_i ax alo ahi amx hx hlo hhi hmx;split at hc
   .rename_i hu;split at hc
    .rename_i hnone;cases hc;simp only[O.res]at hr;obtain⟨dx,hdx,hr1⟩ :=zay hr;obtain⟨dlo,hdlo,hr2⟩ :=zay hr1;obtain⟨dhi,hdhi,hr3⟩ :=zay hr2;simp only[Z45]at hr3;subst hr3;clear hr hr1 hr2;have h1:=E x ax _ hx hdx;have hmn:mx=none:=by
      have:=znL hmx;cases mx<;>simp_all
     subst hmn;simp only[opv]at hv;split at hv
     .rename_i l;split at hv
      .rename_i a b ha hb;split at hv
       .rename_i hcc;simp only[okF,Z45]at hv;subst hv;simp only[Rel,zaj]at h1;have hrun:=zKu (P:=P) (w:=w) hu l (E.opt hlo hdlo) (E.opt hhi hdhi) ha hb hcc.1 hcc.2;rw[<-h1]at hrun;exact⟨_,w,by simpa only[execOp,hop,Option.map_none]using za2 hrun,Post.same s (by simp only[Rel,zaj]) []⟩
       .simp at hv
      .simp at hv
     .simp at hv
    .simp at hc
   .rename_i e hu;split at hc
    .rename_i es hn;split at hc
     .simp at hc
     .rename_i hcond;cases hc;simp only[O.res]at hr;obtain⟨dx,hdx,hr1⟩ :=zay hr;obtain⟨dlo,hdlo,hr2⟩ :=zay hr1;obtain⟨dhi,hdhi,hr3⟩ :=zay hr2;obtain⟨dmx,hdmx,hr4⟩ :=zay hr3;simp only[Z45]at hr4;subst hr4;clear hr hr1 hr2 hr3;simp only[opv]at hv;split at hv
      .rename_i d rd hs;simp only[Z45]at hv;subst hv;have hmh:dmx.isSome=true->dhi.isSome=true:=by
        intro hq;rw[znL hdmx]at hq;rw[znL hdhi];cases hh:ahi.isSome with
        |true=>rfl
        |false=>exact absurd (.inr ⟨hq,by simpa using hh⟩) hcond
       obtain⟨v,r1,r2⟩ :=zKt (P:=P) (w:=w) hu hn (E x ax _ hx hdx) (E.opt hlo hdlo) (E.opt hhi hdhi) (E.opt hmx hdmx) hmh hs;exact⟨v,w,by simpa only[execOp,hop]using za2 r1,Post.same s r2 rd⟩
      .simp at hv
    .simp at hc
   .simp at hc
  .simp at hc
 ·
  rename_i t x f hop;split at hc
  .rename_i fs hu;split at hc
   .rename_i fl hf;split at hc
    .rename_i n ax hn hx;split at hc
     .simp at hc
     .rename_i h0;cases hc;simp only[O.res]at hr;obtain⟨dx,hdx,hr1⟩ :=zay hr;simp only[Z45]at hr1;subst hr1;clear hr;have h1:=E x ax _ hx hdx;simp only[opv]at hv;split at hv
      .simp only[okD,Z45]at hv;subst hv;simp only[Rel]at h1;obtain⟨hid,a,e1,q4⟩ :=h1;have hrun:=zCK (P:=P) (w:=w) hu hf hn h0 a;rw[<-e1]at hrun;refine⟨_,w,by simpa only[execOp,hop]using za2 hrun,Post.same s ?_ []⟩;simp only[Rel];refine⟨hid,_,rfl,fun b hb=> ?_⟩;rw[q4 b hb,zcM,Z82]
      .simp only[okD,Z45]at hv;subst hv;simp only[Rel]at h1;obtain⟨b,o1,e1,hfc⟩ :=h1;have hrun:=zCK (P:=P) (w:=w) hu hf hn h0 ⟨b,o1,none⟩;rw[<-e1]at hrun;refine⟨_,w,by simpa only[execOp,hop]using za2 hrun,Post.same s ?_ []⟩;simp only[Rel];exact⟨b,o1+fl.offset,by rw[zcM],hfc.drop _⟩
      .simp at hv
    .simp at hc
   .simp at hc
  .simp at hc
 ·
  rename_i t x f hop;split at hc
  .rename_i fs hu;split at hc
   .rename_i fl hf;split at hc
    .rename_i gg n ax hg hn hx;cases hc;simp only[O.res]at hr;obtain⟨dx,hdx,hr1⟩ :=zay hr;simp only[Z45]at hr1;subst hr1;clear hr;have h1:=E x ax _ hx hdx;simp only[opv]at hv;split at hv
     .split at hv
      .rename_i d hp;simp only[okD,Z45]at hv;subst hv;obtain⟨v,r1,r2⟩ :=zKh (P:=P) (w:=w) hu hf hg hn h1 hp;exact⟨v,w,by simpa only[execOp,hop]using za2 r1,Post.same s r2 []⟩
      .simp at hv
     .simp at hv
    .simp at hc
   .simp at hc
  .simp at hc
 ·
  rename_i t x i hop;split at hc
  .rename_i ax ai hx hi;split at hc
   .rename_i e hu;split at hc
    .rename_i es hn;split at hc
     .simp at hc
     .cases hc;exact zQX s E hop hu hn hx hi hr hv
    .simp at hc
   .rename_i m e hu;split at hc
    .rename_i es hn;split at hc
     .simp at hc
     .cases hc;exact zKD s E hop hu hn hx hi hr hv
    .simp at hc
   .simp at hc
  .simp at hc
 ·
  rename_i t x i hop;split at hc
  .rename_i ax ai hx hi;split at hc
   .rename_i hu;cases hc;simp only[O.res]at hr;obtain⟨dx,hdx,hr1⟩ :=zay hr;obtain⟨di,hdi,hr2⟩ :=zay hr1;simp only[Z45]at hr2;subst hr2;clear hr hr1;have h1:=E x ax _ hx hdx;have h2:=E i ai _ hi hdi;simp only[opv]at hv;split at hv
    .rename_i l n hidx;split at hv
     .rename_i b hb;simp only[okF,Z45]at hv;subst hv;obtain⟨k,hk⟩ :=zcX hidx h2;simp only[Rel,zaj]at h1;have hrun:=zKm (P:=P) (w:=w) hu l k n b hb;rw[<-hk,<-h1]at hrun;exact⟨_,w,by simpa only[execOp,hop]using za2 hrun,Post.same s (by simp only[Rel,zaj]) []⟩
     .simp at hv
    .simp at hv
   .rename_i m e hu;split at hc
    .rename_i gg es hg hn;cases hc;simp only[O.res]at hr;obtain⟨dx,hdx,hr1⟩ :=zay hr;obtain⟨di,hdi,hr2⟩ :=zay hr1;simp only[Z45]at hr2;subst hr2;clear hr hr1;have h1:=E x ax _ hx hdx;have h2:=E i ai _ hi hdi;simp only[opv]at hv;split at hv
     .rename_i cs n hidx;split at hv
      .rename_i hlt;split at hv
       .rename_i d hp;simp only[okD,Z45]at hv;subst hv;obtain⟨k,hk⟩ :=zcX hidx h2;obtain⟨v,r1,r2⟩ :=zKj (P:=P) (w:=w) hu hg hn h1 k n hlt hp;rw[<-hk]at r1;exact⟨v,w,by simpa only[execOp,hop]using za2 r1,Post.same s r2 []⟩
       .simp at hv
      .simp at hv
     .simp at hv
    .simp at hc
   .simp at hc
  .simp at hc
 ·
  rename_i t m k ok hop;split at hc
  .rename_i kt e hu;split at hc
   .rename_i z am ak kd hz hm hk hkd;cases hc;exact zKG s E hop hu hkd hz hm hk hr hv
   .simp at hc
  .simp at hc
 ·
  rename_i t m k v hop;split at hc
  .rename_i kt e hu;split at hc
   .rename_i am ak av kd hm hk hvv hkd;cases hc;exact zxF s E (.inl hop) hu hkd hm hk hvv hr hv
   .simp at hc
  .simp at hc
 ·
  rename_i t m k v hop;split at hc
  .rename_i kt e hu;split at hc
   .rename_i am ak av kd hm hk hvv hkd;cases hc;exact zxF s E (.inr hop) hu hkd hm hk hvv hr hv
   .simp at hc
  .simp at hc
 ·
  rename_i x i hop;obtain⟨ax,hx,rfl⟩ :=zeF hc;simp only[O.res]at hr;obtain⟨dx,hdx,hr1⟩ :=zay hr;simp only[Z45]at hr1;subst hr1;clear hr;have h1:=E x ax _ hx hdx;simp only[opv]at hv;split at hv
  .split at hv
   .rename_i d hd;simp only[okD,Z45]at hv;subst hv;obtain⟨v,r1,r2⟩ :=zKg (P:=P) (w:=w) h1 hd;exact⟨v,w,by simpa only[execOp,hop]using za2 r1,Post.same s r2 []⟩
   .simp at hv
  .simp at hv
 ·
  rename_i cc hop;split at hc
  .rename_i args hargs;split at hc
   .rename_i f hcal;split at hc
    .cases hc;simp only[O.res]at hr;obtain⟨ds,_,hr1⟩ :=zay hr;simp only[Z45]at hr1;subst hr1;simp[opv]at hv
    .cases hc;simp only[O.res]at hr;obtain⟨ds,_,hr1⟩ :=zay hr;simp only[Z45]at hr1;subst hr1;simp[opv]at hv
   .obtain⟨a,_,rfl⟩ :=zeF hc;simp only[O.res]at hr;obtain⟨d0,_,hr1⟩ :=zay hr;obtain⟨ds,_,hr2⟩ :=zay hr1;simp only[Z45]at hr2;subst hr2;simp[opv]at hv
   .rename_i b hcal;obtain⟨callee,xs,ats⟩ :=cc;simp only at hcal;subst hcal;exact zwz s hcn E hop hc hr hv
   .simp at hc
  .simp at hc
 .simp at hc
end
end Go.Vse
end
section
namespace Go.Vse
variable [Globs]
open Go.RowKit
section
variable {h h':Hp}
def zwo{g:Bool}{n:Nat}{x d:D}{rd:List Nat}(hv:zc3 g n h x=some (d,rd))(hl:∀id∈rd,h' id=h id):zc3 g n h' x=some (d,rd):=by
 unfold zc3 at hv|-;split at hv
 .exact hv
 .rename_i id es i j;have key:id∈rd->h' id=h id:=hl id;split at hv
  .rename_i es' ro els ho;split at hv
   .rename_i hes;split at hv
    .rename_i el hel;cases hp:zcW g j n el with
     |none=>simp[hp]at hv
     |some d'=>
      simp[hp]at hv;obtain⟨rfl,rfl⟩ :=hv;rw[key (by simp),ho];simp[hes,hel,hp]
    .simp at hv
   .simp at hv
  .simp at hv
 .simp at hv
def zgR{es:Nat}{x:D}{els:List (List D)}{rd:List Nat}(hv:elemsOf es h x=some (els,rd))(hl:∀id∈rd,h' id=h id):elemsOf es h' x=some (els,rd):=by
 unfold elemsOf at hv|-;split at hv
 .exact hv
 .exact hv
 .rename_i id off len es' lim ex;split at hv
  .rename_i es'' ro old ho;split at hv
   .rename_i hc;simp at hv;obtain⟨rfl,rfl⟩ :=hv;rw[hl id (by simp),ho];simp[hc]
   .simp at hv
  .simp at hv
 .exact hv
 .simp at hv
def zA2{es m len:Nat}{x:D}{els:List (List D)}{rd:List Nat}(hv:zpJ es h m x=some (els,len,rd))(hl:∀id∈rd,h' id=h id):zpJ es h' m x=some (els,len,rd):=by
 unfold zpJ at hv|-;split at hv
 .rename_i els' rd' hx;simp only[Z45,Z66]at hv;obtain⟨rfl,rfl,rfl⟩ :=hv;rw[zgR hx hl]
 .rename_i hx;split at hv
  .rename_i id off len' es' lim ex;split at hv
   .rename_i es'' ro old ho;split at hv
    .rename_i hc;simp only[Z45,Z66]at hv;obtain⟨rfl,rfl,rfl⟩ :=hv;have ho':h' id=some (.arr es'' ro old):=(hl id (by simp)).trans ho;have hx':elemsOf es h' (.sl id off len' es' lim ex)=none:=by
      unfold elemsOf at hx|-;simp only[ho,ho']at hx|-;exact hx
     rw[hx'];simp only[ho',hc,and_self,Z60]
    .simp at hv
   .simp at hv
  .simp at hv
def zvR{es:Nat}{x d:D}{lo hi mx:Option D}{rd:List Nat}(hv:sliceB es h x lo hi mx=some (d,rd))(hl:∀id∈rd,h' id=h id):sliceB es h' x lo hi mx=some (d,rd):=by
 unfold sliceB at hv|-;split at hv
 .exact hv
 .exact hv
 .rename_i id off len es' lim ex;have hid:id∈rd:=by
   split at hv
   .split at hv
    .split at hv
     .split at hv
      .simp at hv;rw[<-hv.2];simp
      .split at hv
       .split at hv
        .simp at hv;rw[<-hv.2];simp
        .simp at hv
       .simp at hv
     .simp at hv
    .simp at hv
   .simp at hv
  simp only[hl id hid];exact hv
 .simp at hv
def zvY{n:Nat}{x v:D}{id:Nat}{ob:Ob}(hv:zd7 n h x v=some (id,ob))(hl:h' id=h id):zd7 n h' x v=some (id,ob):=by
 unfold zd7 at hv|-;split at hv
 .rename_i id' es i j;have hid:id'=id:=by
   split at hv
   .split at hv
    .split at hv
     .split at hv
      .split at hv
       .simp at hv;exact hv.2.1
       .simp at hv
      .simp at hv
     .simp at hv
    .simp at hv
   .simp at hv
  subst hid;simp only[hl];exact hv
 .simp at hv
theorem zm2{es byt n:Nat}{s:D}{new:List (List D)}{rd:List Nat}{r:Rs}(hv:za3 es byt h n s new rd=some r)(hl:∀id∈r.rd,h' id=h id):
  za3 es byt h' n s new rd=some r:=by
 unfold za3 at hv|-;split at hv
 .rename_i hz;rw[Z51 hz];exact hv
 .rename_i hz;rw[Z49 hz];split at hv
  .exact hv
  .rename_i id off len es' lim ex;have hid:id∈r.rd:=by
    split at hv
    .split at hv
     .dsimp only at hv;split at hv
      .split at hv
       .simp at hv;rw[<-hv];simp
       .simp at hv
      .split at hv
       .split at hv
        .simp at hv;rw[<-hv];simp
        .split at hv
         .simp at hv;rw[<-hv];simp
         .split at hv
          .simp at hv;rw[<-hv];simp
          .simp at hv
       .simp at hv
     .simp at hv
    .simp at hv
   simp only[hl id hid];exact hv
  .simp at hv
def zyA{es byt n:Nat}{s:D}{new:List (List D)}{rd:List Nat}{r:Rs}(hv:za3 es byt h n s new rd=some r):∀id∈rd,id∈r.rd:=by
 unfold za3 at hv;split at hv
 .split at hv<;>first|(simp at hv;done)|(simp at hv;rw[<-hv];simp)
 .split at hv
  .split at hv
   .simp at hv;rw[<-hv];simp
   .simp at hv
  .split at hv
   .split at hv
    .dsimp only at hv;split at hv
     .split at hv
      .simp at hv;rw[<-hv];intro id hid;simp[hid]
      .simp at hv
     .split at hv
      .split at hv
       .simp at hv;rw[<-hv];intro id hid;simp[hid]
       .split at hv
        .simp at hv;rw[<-hv];intro id hid;simp[hid]
        .split at hv
         .simp at hv;rw[<-hv];intro id hid;simp[hid]
         .simp at hv
      .simp at hv
    .simp at hv
   .simp at hv
  .simp at hv
def zCo{n:Nat}{o:O D}{r:Rs}(hv:opv h n o=some r)(hl:∀id∈r.rd,h' id=h id):opv h' n o=some r:=by
 cases o
 case ld g m x=>
  simp only[opv]at hv|-;split at hv
  .rename_i d rd hx;simp at hv;subst hv;rw[zwo hx hl]
  .simp at hv
 case st m x v=>
  simp only[opv]at hv|-;split at hv
  .rename_i id ob hx;simp at hv;subst hv;rw[zvY hx (hl id (by simp))]
  .simp at hv
 case b2s x=>
  simp only[opv]at hv|-;split at hv
  .simp at hv
  .split at hv
   .rename_i els rd hx;split at hv
    .rename_i l hb;simp at hv;subst hv;rw[zgR hx hl];simp[hb]
    .simp at hv
   .simp at hv
 case slc es x lo hi mx=>
  simp only[opv]at hv|-;split at hv
  .rename_i d rd hx;simp at hv;subst hv;rw[zvR hx hl]
  .simp at hv
 case app es byt s x=>
  simp only[opv]at hv|-;split at hv
  .rename_i new rd hx;rw[zgR hx fun id hid=>hl id (zyA hv id hid)];exact zm2 hv hl
  .simp at hv
 case apz es byt z s m=>
  simp only[opv]at hv|-;split at hv
  .split at hv
   .rename_i hc;simp only[hc,and_self,Z60];exact zm2 hv hl
   .simp at hv
  .simp at hv
 case cpy es d s=>
  simp only[opv]at hv|-;split at hv
  .split at hv
   .rename_i els rd hx;simp at hv;subst hv;rw[zgR hx hl]
   .simp at hv
  .rename_i id off m es' lim ex;split at hv
   .rename_i els len rd hx;have hid:id∈r.rd/\∀i∈rd,i∈r.rd:=by
     split at hv
     .split at hv
      .simp at hv;rw[<-hv];exact⟨by simp,fun i hi=>by simp[hi]⟩
      .simp at hv
     .simp at hv
    rw[zA2 hx fun i hi=>hl i (hid.2 i hi)];simp only[hl id hid.1];exact hv
   .simp at hv
  .simp at hv
 case clr es z s=>
  simp only[opv]at hv|-;split at hv
  .exact hv
  .rename_i id off m es' lim ex;split at hv
   .rename_i es'' ro old ho;split at hv
    .rename_i hc;simp at hv;subst hv;rw[hl id (by simp),ho];have hc':=hc.2.2.2.2;simp only[Z32]at hc';simp[hc,hc']
    .simp at hv
   .simp at hv
  .simp at hv
 case mlen x=>
  simp only[opv]at hv|-;split at hv
  .exact hv
  .rename_i id;split at hv
   .rename_i ents ho;simp at hv;subst hv;rw[hl id (by simp),ho]
   .simp at hv
  .simp at hv
 case mup kd m k v=>
  simp only[opv]at hv|-;split at hv
  .rename_i id kf;have hid:id∈r.rd:=by
    split at hv
    .split at hv
     .split at hv<;>first|(simp at hv;done)|(simp at hv;rw[<-hv];simp)
     .simp at hv
    .simp at hv
   simp only[hl id hid];exact hv
  .simp at hv
 case mlk kd z ok m k=>
  simp only[opv]at hv|-;split at hv
  .split at hv
   .rename_i hs;rw[Z51 hs];split at hv
    .exact hv
    .rename_i id;have hid:id∈r.rd:=by
      split at hv
      .split at hv<;>first|(simp at hv;done)|(simp at hv;rw[<-hv];simp)
      .simp at hv
     simp only[hl id hid];exact hv
    .simp at hv
   .simp at hv
  .simp at hv
 all_goals exact hv
end
end Go.Vse
end
section
namespace Go.Vse
variable [Globs]
open Go.RowKit
section
variable {P:Program}{w:World}{amb:Mu}{h:Hp}{ρ:Nat->Option Nat}{c:Nat->Prop}
def zgP(amb:Mu)(h:Hp)(ρ:Nat->Option Nat)(rd:List Nat)(μ':Mu):Prop:=
 (∀b o,¬zal amb h ρ b o->¬μ' b o)/\
 ∀id∈rd,∀es ro els b,h id=some (.arr es ro els)->ρ id=some b->∀j,j<els.length*es->¬μ' b j
def zgP.left{amb:Mu}{a b:List Nat}{μ':Mu}(hx:zgP amb h ρ (a++b) μ'):zgP amb h ρ a μ':=⟨hx.1,fun id hid=>hx.2 id (by simp[hid])⟩
def zgP.right{amb:Mu}{a b:List Nat}{μ':Mu}(hx:zgP amb h ρ (a++b) μ'):zgP amb h ρ b μ':=⟨hx.1,fun id hid=>hx.2 id (by simp[hid])⟩
theorem zhy{f:D->Option (F×List Nat)}{μ':Mu}{H:Array Obj}
  (hf:∀d x rd v,f d=some (x,rd)->zgP amb h ρ rd μ'->Rel H (zal amb h ρ) ρ c d v->zaj H μ' x v):
  ∀(ds:List D) (xs:List F) (rd:List Nat) (vs:List Value),zaT f ds=some (xs,rd)->zgP amb h ρ rd μ'->zaq H (zal amb h ρ) ρ c ds vs->zaM H μ' xs vs
 |[],xs,rd,vs,hm,_,hr=>by
  simp[zaT]at hm;simp only[zaq]at hr;rw[hm.1,hr];simp only[zaM]
 |d::ds,xs,rd,vs,hm,ho,hr=>by
  unfold zaT at hm;split at hm
  .simp at hm
  .rename_i x r hx;split at hm
   .simp at hm
   .rename_i m r' hm';simp at hm;obtain⟨rfl,rfl⟩ :=hm;simp only[zaq]at hr;obtain⟨v,m',rfl,h1,h2⟩ :=hr;simp only[zaM];exact⟨v,m',rfl,hf d x r v hx ho.left h1,zhy hf ds m r' m' hm' ho.right h2⟩
theorem zsr{f:D->Option (F×List Nat)}:∀{ds:List D} {xs:List F} {rd:List Nat},zaT f ds=some (xs,rd)->xs.length=ds.length
 |[],xs,rd,hm=>by simp[zaT]at hm;rw[hm.1];rfl
 |d::ds,xs,rd,hm=>by
  unfold zaT at hm;split at hm
  .simp at hm
  .split at hm
   .simp at hm
   .rename_i m r' hm';simp at hm;rw[<-hm.1];simp[zsr hm']
theorem zss{f:D->Option (F×List Nat)}:∀{ds:List (List D)} {xs:List (List F)} {rd:List Nat},zaU f ds=some (xs,rd)->
  xs.length=ds.length/\∀(i:Nat) x,xs[i]? =some x->∃d r,ds[i]? =some d/\zaT f d=some (x,r)/\∀id∈r,id∈rd
 |[],xs,rd,hm=>by simp[zaU]at hm;rw[hm.1];simp
 |d::ds,xs,rd,hm=>by
  unfold zaU at hm;split at hm
  .simp at hm
  .rename_i x r hx;split at hm
   .simp at hm
   .rename_i m r' hm';simp at hm;obtain⟨rfl,rfl⟩ :=hm;obtain⟨h1,h2⟩ :=zss hm';refine⟨by simp[h1],fun i y hy=> ?_⟩;cases i with
    |zero=>simp at hy;subst hy;exact⟨d,r,rfl,hx,fun id hid=>by simp[hid]⟩
    |succ i=>
     obtain⟨d',r'',e1,e2,e3⟩ :=h2 i y (by simpa using hy);exact⟨d',r'',by simpa using e1,e2,fun id hid=>by simp[e3 id hid]⟩
theorem zFZ{H:Array Obj}{b o:Nat}:∀(vs:List Value) (xs:List F) (μ':Mu),zaM H μ' xs vs->(∀u∈vs,u.oneCell'=true)->(∀(k:Nat) v,vs[k]? =some v->zbn H b (o+k)=some v)->
  (∀k,k<xs.length->¬μ' b (o+k))->za1 H μ' b o xs:=by
 intro vs xs μ' hr ho hc hm;refine za1.mk fun j x hx=> ?_
 have hlt:j<xs.length:=(Z8.1 hx).1;have hl:=(zaM.toL (ρ:=fun _=>none) (c:=fun _=>True) hr).at j (.f x) (by simp[hx]);obtain⟨v,hv,hrel⟩ :=hl;simp only[Rel]at hrel;exact⟨hm j hlt,v,hc j v hv,ho v (Z39 hv),hrel⟩
theorem ziq{H:Array Obj}(s:Sim amb H h ρ c){μ':Mu}:∀(k:Nat) (d:D) (x:F) (rd:List Nat) (v:Value),frz h k d=some (x,rd)->zgP amb h ρ rd μ'->
  Rel H (zal amb h ρ) ρ c d v->zaj H μ' x v
 |0,d,x,rd,v,hf,_,_=>by simp[frz]at hf
 |k+1,d,x,rd,v,hf,ho,hr=>by
  unfold frz at hf;split at hf
  .rename_i y;simp at hf;obtain⟨rfl,rfl⟩ :=hf;simp only[Rel]at hr;exact zaj.keep (fun b o v hm hv=>⟨hv,ho.1 b o hm⟩) y v hr
  .rename_i cs;split at hf
   .rename_i l r hm;simp at hf;obtain⟨rfl,rfl⟩ :=hf;simp only[Rel]at hr;obtain⟨vs,rfl,h1,h2⟩ :=hr;simp only[zaj];exact⟨vs,rfl,h1,zhy (fun d x rd v=>ziq s k d x rd v) cs l r vs hm ho h2⟩
   .simp at hf
  .rename_i cs;split at hf
   .rename_i l r hm;simp at hf;obtain⟨rfl,rfl⟩ :=hf;simp only[Rel]at hr;obtain⟨vs,rfl,h2⟩ :=hr;simp only[zaj];exact⟨vs,rfl,zhy (fun d x rd v=>ziq s k d x rd v) cs l r vs hm ho h2⟩
   .simp at hf
  .rename_i id off len es lim ex;split at hf
   .rename_i es' ro els hob;split at hf
    .rename_i hc;obtain⟨rfl,hle⟩ :=hc;split at hf
     .rename_i l r hm;simp at hf;obtain⟨rfl,rfl⟩ :=hf;simp only[Rel]at hr;obtain⟨_,a,cap,rfl,q1,_,_,q4⟩ :=hr;obtain⟨b,hb,cells,elem,fr,b1,_,b3,b4,b5⟩ :=s.obj id _ hob;obtain⟨hl1,hl2⟩ :=zss hm;have hlen:l.length=len:=by rw[hl1];simp;omega
      simp only[zaj];have hno:=ho.2 id (by simp) es ro els b hob hb;have ho':zgP amb h ρ r μ':=⟨ho.1,fun i hi=>ho.2 i (by simp[hi])⟩
      have hels:∀o,(cap≠0->o=off*es)->zb7 H μ' b es o l:=by
       intro o hoo;refine zb7.mk fun i x hx=> ?_
       have hil:i<l.length:=(Z8.1 hx).1;have hoe:=hoo (by omega);subst hoe;obtain⟨d,r',e1,e2,e3⟩ :=hl2 i x hx;rw[Z75]at e1;split at e1
       .rw[Z81]at e1;have hdl:d.length=es:=b4 d (Z39 e1);have hxl:=zsr e2;obtain⟨vs,v1,v2,v3⟩ :=zj2 (H:=H) (μ:=zal amb h ρ) (ρ:=ρ) (c:=c) (b:=b) d ((off+i)*es) fun j d' hj=>by
         obtain⟨u,u1,u2,u3⟩ :=b5 (off+i) d e1 j d' hj;exact⟨u,by rw[zgg b1];exact u1,u2,u3⟩
        have hrl:=zhy (fun d x rd v=>ziq s k d x rd v) d x r' vs e2 ⟨ho'.1,fun i hi=>ho'.2 i (e3 i hi)⟩ v1;refine⟨by omega,?_⟩;rw[<-Z35];refine zFZ vs x μ' hrl v2 v3 fun j hj=>hno _ ?_
        have hlt2:off+i<els.length:=(Z8.1 e1).1;have:=Z9 es (show off+i+1<=els.length by omega);rw[Z35,Z177]at this;omega
       .simp at e1
      refine⟨a,cap,by rw[hlen],by rw[hlen];exact q1,b,off*es,fun hne=>(q4 b hb).1 ?_,hels _ fun _=>rfl⟩;intro hc0;exact hne (Z83 (by omega))
     .simp at hf
    .simp at hf
   .simp at hf
  .simp at hf
end
end Go.Vse
end
section
namespace Go.Vse
variable [Globs]
open Go.RowKit
section
variable {P:Program}{w:World}{amb:Mu}{h:Hp}{ρ:Nat->Option Nat}{c:Nat->Prop}
def zpV(h g:Hp):Prop:=∀id,g id=h id\/∃es ro els,h id=some (.arr es ro els)/\ro<els.length/\g id=some (.arr es els.length els)
theorem Sim.marks{H:Array Obj}(W:Nat->Prop):∀(l:List Nat) (g:Hp),zpV h g->Sim amb H g ρ c->(∀p∈zau h l,W p.1)->
  Sim amb H (zbu g (zau h l)) ρ c/\Evo amb W H g ρ c H (zbu g (zau h l)) ρ c/\zpV h (zbu g (zau h l))/\
  ∀id,(∃es ro els,h id=some (.arr es ro els)/\∃ro',g id=some (.arr es ro' els)/\els.length<=ro')\/id∈l->
   ∀es ro els,h id=some (.arr es ro els)->∃ro',zbu g (zau h l) id=some (.arr es ro' els)/\els.length<=ro'
 | [],g,hm,s,_=>⟨s,Evo.refl _ _ _ _ _ _,hm,fun id hid es ro els ho=>by
   rcases hid with⟨es',ro',els',h1,r,h2,h3⟩ |hid
   .rw[ho]at h1;cases h1;exact⟨r,h2,h3⟩
   .simp at hid⟩
 |id::l,g,hm,s,hW=>by
  have skip:zau h (id::l)=zau h l->(∀es ro els,h id=some (.arr es ro els)->els.length<=ro)->
    Sim amb H (zbu g (zau h (id::l))) ρ c/\Evo amb W H g ρ c H (zbu g (zau h (id::l))) ρ c/\zpV h (zbu g (zau h (id::l)))/\
    ∀id',(∃es ro els,h id'=some (.arr es ro els)/\∃ro',g id'=some (.arr es ro' els)/\els.length<=ro')\/id'∈id::l->
     ∀es ro els,h id'=some (.arr es ro els)->∃ro',zbu g (zau h (id::l)) id'=some (.arr es ro' els)/\els.length<=ro':=by
   intro he hro;rw[he]at hW|-;obtain⟨s1,s2,s3,s4⟩ :=Sim.marks W l g hm s hW;refine⟨s1,s2,s3,fun id' hid' es ro els ho=> ?_⟩;rcases hid' with hid'|hid'
   .exact s4 id' (.inl hid') es ro els ho
   .rcases Z5.1 hid' with rfl|hid'
    .have hle:=hro es ro els ho;rcases hm id' with hg|⟨es',ro',els',h1,h2,h3⟩
     .exact s4 id' (.inl ⟨es,ro,els,ho,ro,hg.trans ho,hle⟩) es ro els ho
     .rw[ho]at h1;cases h1;omega
    .exact s4 id' (.inr hid') es ro els ho
  by_cases hcase:∃es ro els,h id=some (.arr es ro els)/\¬els.length<=ro
  .obtain⟨es,ro,els,ho,hle⟩ :=hcase;have he:zau h (id::l)=(id,some (.arr es els.length els))::zau h l:=by simp[zau,ho,hle]
   have hg:∃ro1,g id=some (.arr es ro1 els)/\ro1<=els.length:=by
    rcases hm id with hg|⟨es',ro',els',h1,h2,h3⟩
    .exact⟨ro,hg.trans ho,by omega⟩
    .rw[ho]at h1;cases h1;exact⟨els.length,h3,Z2 _⟩
   obtain⟨ro1,hg,hr1⟩ :=hg;obtain⟨b,hb,hob⟩ :=s.obj id _ hg;have hWid:W id:=hW (id,some (.arr es els.length els)) (by rw[he];simp);obtain⟨u1,u2⟩ :=s.update (ob':= .arr es els.length els) (H':=H) W hWid hg hb rfl (fun _ _=>rfl)
    (fun i hi=>Z3 (Z9 es hr1) hi) (fun _ _ _ hv=>hv) (fun _ hx=>hx) fun μ' ρ' c' hk=>(hob.keep hk rfl:zeK H μ' ρ' c' b (.arr es ro1 els))
   have hm1:zpV h (upd g id (some (.arr es els.length els))):=by
    intro id'
    by_cases hid:id'=id
    .subst hid;exact .inr ⟨es,ro,els,ho,by omega,by simp⟩
    .rw[upd_ne _ _ _ hid];exact hm id'
   obtain⟨s1,s2,s3,s4⟩ :=Sim.marks W l _ hm1 u1 (fun p hp=>hW p (by rw[he];simp[hp]));rw[he];refine⟨s1,u2.trans s2,s3,fun id' hid' es' ro' els' ho'=> ?_⟩
   by_cases hid:id'=id
   .subst hid;rw[ho]at ho';cases ho';exact s4 id' (.inl ⟨es,ro,els,ho,els.length,by simp,Z2 _⟩) es ro els ho
   .rcases hid' with⟨e1,r1,l1,h1,r2,h2,h3⟩ |hid'
    .exact s4 id' (.inl ⟨e1,r1,l1,h1,r2,by rw[upd_ne _ _ _ hid];exact h2,h3⟩) es' ro' els' ho'
    .rcases Z5.1 hid' with e|hid'
     .exact absurd e hid
     .exact s4 id' (.inr hid') es' ro' els' ho'
  .refine skip ?_ fun es ro els ho=> ?_
   .cases ho:h id with
    |none=>simp[zau,ho]
    |some ob=>
     cases ob with
     |map e=>simp[zau,ho]
     |arr es ro els=>
      have hle:els.length<=ro:=by
       rcases Z145 ro els.length with hx|hx
       .exact absurd ⟨es,ro,els,ho,by omega⟩ hcase
       .exact hx
      simp[zau,ho,hle]
   .rcases Z145 ro els.length with hx|hx
    .exact absurd ⟨es,ro,els,ho,by omega⟩ hcase
    .exact hx
def zhJ(P:Program)(f:Nat):Prop:=∃F,P.funcs[f]? =some F/\F.body.isSome=true/\F.name≠ "runtime.NumGoroutine"
def zgV(amb:Mu)(w:World)(h:Hp)(ρ:Nat->Option Nat)(c:Nat->Prop)(n:Nat)(q:CR)(v:Value)(w':World):Prop:=
 Base w w'/\∃ρ',Rel w'.heap (zal amb q.h.get ρ') ρ' (UX c n q.c) q.d v/\Sim amb w'.heap q.h.get ρ' (UX c n q.c)/\
  Evo amb (fun id=>q.lw<=id/\id<q.mx) w.heap h ρ c w'.heap q.h.get ρ' (UX c n q.c)
def zgW(P:Program)(f:Nat)(args:List D)(h:T Ob)(n:Nat)(q:CR):Prop:=
 zhJ P f/\n<=q.c/\q.c<=q.mx/\∀amb ρ c (w:World) vs,Sim amb w.heap h.get ρ c->(∀id,n<=id->id<q.mx->¬c id)->zaq w.heap (zal amb h.get ρ) ρ c args vs->
  Calls P f ⟨vs⟩ w fun e w'=>∃v,e= .returned v/\zgV amb w h.get ρ c n q v w'
def zd5(P:Program)(cl:Cl):Prop:=∀f args h n q,cl f args h n=some q->
 zhJ P f/\n<=q.c/\q.c<=q.mx/\∀amb ρ c (w:World) vs,Sim amb w.heap h.get ρ c->(∀id,n<=id->id<q.mx->¬c id)->zaq w.heap (zal amb h.get ρ) ρ c args vs->
  Calls P f ⟨vs⟩ w fun e w'=>∃v,e= .returned v/\zgV amb w h.get ρ c n q v w'
def zfv(amb:Mu)(ρ:Nat->Option Nat):zal amb (fun _=>none) ρ=amb:=by
 funext b i
 refine propext ⟨fun hx=>hx.elim id fun⟨id,ob,hh,_⟩ =>by simp at hh,.inl⟩
def zgj:(T.e:T Ob).get=fun _=>none:=rfl
theorem zwi(s:Sim amb w.heap h ρ c){cl:Cl}(hcl:zd5 P cl){n f:Nat}{args:List D}{r:Rs}(hc:zez cl h n f args=some r){vs:List Value}
  (hargs:zaq w.heap (zal amb h ρ) ρ c args vs):zhJ P f/\r.c=n/\Calls P f ⟨vs⟩ w fun e w'=>∃v,e= .returned v/\Post amb w h ρ c n r v w':=by
 unfold zez at hc;split at hc
 .simp at hc
 .rename_i fs rd hfz;split at hc
  .simp at hc
  .rename_i q hq;split at hc
   .simp at hc
   .rename_i x rd' hx;simp only[Z45]at hc;subst hc;obtain⟨hen,_,_,hcall⟩ :=hcl _ _ _ _ _ hq;refine⟨hen,rfl,?_⟩;obtain⟨s1,e1,_,m1⟩ :=Sim.marks (h:=h) (fun id=>id∈(zau h rd).map (·.1)) rd h (fun _=> .inl rfl) s (fun p hp=>Z12.2 ⟨p,hp,rfl⟩);generalize hg:zbu h (zau h rd)=g at s1 e1 m1;have hok:zgP amb h ρ rd (zal amb g ρ):=by
     refine⟨fun b o hm hx=> ?_,fun id hid es ro els b ho hb j hj hx=> ?_⟩
     .rcases hx with hx|⟨id,ob,h1,h2,h3⟩
      .exact hm (.inl hx)
      .obtain⟨_,ob0,h0⟩ :=s.dom id b h2;refine hm (.inr ⟨id,ob0,h0,h2,?_⟩)
       by_cases hW:id∈(zau h rd).map (·.1)
       .obtain⟨p,hp,hpe⟩ :=Z12.1 hW;cases ob0 with
        |map e0=>trivial
        |arr es ro els=>
         rcases (Sim.marks (h:=h) (amb:=amb) (H:=w.heap) (ρ:=ρ) (c:=c) (fun _=>True) rd h (fun _=> .inl rfl) s (fun _ _=>trivial)).2.2.1 id with hh|⟨es',ro',els',k1,k2,k3⟩
         .rw[hg]at hh;rw[hh,h0]at h1;cases h1;exact h3
         .rw[hg,h1]at k3;rw[h0]at k1;cases k1;cases k3;exact Z3 (Z9 es (Z110 k2)) h3
       .have:=(e1.low id hW (s.lt id ob0 h0)).1;rw[this,h0]at h1;cases h1;exact h3
     .rcases hx with hx|⟨id',ob,h1,h2,h3⟩
      .exact s.out id b j hb hx
      .have hii:=s.inj id id' b hb h2;subst hii;obtain⟨ro',k1,k2⟩ :=m1 id (.inr hid) es ro els ho;rw[k1]at h1;cases h1;have:els.length*es<=j:=Z3 (Z9 es k2) h3;omega
    have hfl:zaM w.heap (zal amb g ρ) fs vs:=zhy (fun d x rd v=>ziq s 12 d x rd v) args fs rd vs hfz hok hargs;have hsim0:Sim (zal amb g ρ) w.heap (T.e:T Ob).get (fun _=>none) (fun _=>False):=by
     rw[zgj];refine⟨fun id ob ho=>by simp at ho,fun id b hb=>by simp at hb,fun id id' b hb=>by simp at hb,fun id b i hb=>by simp at hb,fun id ob ho=>by simp at ho,fun b i hx=> ?_,fun n cs hg=>by rw[zfv];exact s1.glob n cs hg⟩;rcases hx with hx|⟨id,ob,h1,h2,h3⟩
     .exact s1.amb b i hx
     .exact (s1.dom id b h2).1
    have hc0:=hcall (zal amb g ρ) (fun _=>none) (fun _=>False) w vs hsim0 (fun _ _ _ hx=>hx) (by rw[zgj,zfv];exact zaM.dL fs vs hfl);refine hc0.mono fun e w' ⟨v,he,hb,ρ',k1,k2,k3⟩ =>⟨v,he,?_⟩
    have hfin:zaj w'.heap (zal amb g ρ) x v:=by
     refine ziq k2 12 q.d x rd' v hx ⟨fun b o hm hx=>hm (.inl hx),fun id _ es ro els b ho hb j _ hx=>k2.out id b j hb hx⟩ k1
    have hold:∀b,b<w.heap.size->w'.heap[b]? =w.heap[b]? :=fun b hlt=>(k3.blk b hlt (fun id=>by simp)).1
    obtain⟨s2,e2⟩ :=s1.grown k3.size hold (fun id=>id∈(zau h rd).map (·.1));refine Post.mk0 rfl hb (ρ':=ρ) ?_ ?_ ?_
    .simp only[hg];exact zaj.d x v hfin
    .simp only[hg];exact s2
    .simp only[hg];exact e1.trans e2
end
end Go.Vse
end
section
namespace Go.Vse
variable [Globs]
open Go.RowKit
section
variable {P:Program}{w:World}{amb:Mu}{ρ:Nat->Option Nat}{c:Nat->Prop}{pur:Nat->Bool}
abbrev Tm:=Nat->Option D
def zcy(tm:Tm):A->Option D
 | .t n=>tm n
 | .k x=>some x.d
 | .x=>none
 | .g cs=>some (.fptr cs)
def zrO(t:T D):zae t=zcy t.get:=by
 funext x
 cases x<;>rfl
def zeH(tm:Tm)(dst:Option Nat)(d:D):Tm:=
 match dst with
 |some i=>upd tm i (some d)
 |none=>tm
def ziC(t:T D)(dst:Option Nat)(d:D):(zbX t dst d).get=zeH t.get dst d:=by
 cases dst with
 |none=>rfl
 |some i=>funext j;simp[zbX,zeH,T.zab,upd]
theorem zl1:∀(l:List (Nat×Option Ob)) (t:T Ob),(wrT t l).get=zbu t.get l
 |[],t=>rfl
 |(id,some ob)::l,t=>by
  have:(t.set id ob).get=upd t.get id (some ob):=by funext j;simp[T.zab,upd]
  simp only[wrT,zbu,zl1 l,this]
 |(id,none)::l,t=>by
  have:(t.del id).get=upd t.get id none:=by funext j;simp[T.zbB,upd]
  simp only[wrT,zbu,zl1 l,this]
theorem zhk:∀(l:List (Nat×Option Ob)) (m:Nat),zdL m l<=m/\∀id∈l.map (·.1),zdL m l<=id
 |[],m=>⟨Z2 _,by simp⟩
 |(id,o)::l,m=>by
  have h1:=zhk l (if id<m then id else m);simp only[zdL];refine⟨?_,fun x hx=> ?_⟩
  .have:=h1.1;split at this<;>rename_i hlt<;>simp only[hlt,Z60,Z63]<;>omega
  .simp only[Z10,Z5]at hx;rcases hx with rfl|hx
   .have:=h1.1;split at this<;>rename_i hlt<;>simp only[hlt,Z60,Z63]<;>omega
   .exact h1.2 x hx
theorem zr4{m:Nat}:∀{l:List (Nat×Option Ob)},zas m l=true->∀id∈l.map (·.1),id<m
 |[],_,id,h=>by simp at h
 |(j,o)::l,hw,id,h=>by
  simp only[zas,Z14,Z79]at hw;simp only[Z10,Z5]at h;rcases h with rfl|h
  .exact hw.1
  .exact zr4 hw.2 id h
theorem zgx{s:St}{dst:Option Nat}{r:Rs}{z:St×Fp}(h:zcw s dst (some r)=some z):zas r.c r.wr=true/\
  z=({tm:=zbX s.tm dst r.d,h:=wrT s.h r.wr,c:=r.c,lw:=zdL s.lw r.wr,mx:=Nat.max s.mx (r.c+1)},
   {all:=false,rd:=r.rd,wr:=r.wr.map (·.1),lo:=s.c,hi:=r.c+1,h:=s.h,h':=wrT s.h r.wr}):=by
 unfold zcw at h;cases hw:zas r.c r.wr with
 |false=>simp[hw]at h
 |true=>
  simp only[hw,Z89,cond_false,Z45]at h;exact⟨rfl,h.symm⟩
structure SS(amb:Mu)(nt:Nat)(tm:Tm)(h:Hp)(ρ:Nat->Option Nat)(c:Nat->Prop)(a:Act)(w:World):Prop where
 sim:Sim amb w.heap h ρ c
 tmr:∀i d,tm i=some d->∃v,a.tmps[i]? =some v/\Rel w.heap (zal amb h ρ) ρ c d v
 nt:nt<=a.tmps.size
 df:a.defers=[]
def SS.ev{nt:Nat}{tm:Tm}{h:Hp}{a:Act}(ss:SS amb nt tm h ρ c a w):zcI w amb h ρ c (zcy tm) a.eval:=by
 intro x y d hy hd;cases x with
 |tmp t=>
  simp[opA]at hy;subst hy;obtain⟨v,hv,hr⟩ :=ss.tmr t d hd;simp only[Act.eval,Z19,hv,Z118];exact hr
 |const v=>
  simp only[opA]at hy;obtain⟨z,hz,rfl⟩ :=zeF hy;simp[zcy]at hd;subst hd;exact zaj.d z v (zqb hz)
 |global n=>
  simp only[opA,Z45]at hy;subst hy;split at hd
  .rename_i cs hcs;simp only[zcy,Z45]at hd;subst hd;simp only[Act.eval,Rel];exact⟨n,0,rfl,ss.sim.glob n cs hcs⟩
  .simp[zcy]at hd
 |func f=>
  simp[opA]at hy;subst hy;simp[zcy,F.d]at hd;subst hd;simp only[Act.eval,Rel,zaj]
theorem SS.next{nt:Nat}{tm:Tm}{h h':Hp}{a:Act}(ss:SS amb nt tm h ρ c a w){w':World}{ρ':Nat->Option Nat}{c':Nat->Prop}
  (hk:Keep w.heap (zal amb h ρ) ρ c w'.heap (zal amb h' ρ') ρ' c')(hs:Sim amb w'.heap h' ρ' c'){dst:Option Nat}(hd:∀i,dst=some i->i<nt){d:D}{v:Value}
  (hr:Rel w'.heap (zal amb h' ρ') ρ' c' d v):SS amb nt (zeH tm dst d) h' ρ' c' (a.put dst v) w':=by
 cases dst with
 |none=>exact⟨hs,fun i d hi=>let ⟨v,h1,h2⟩ :=ss.tmr i d hi;⟨v,h1,Rel.keep hk d v h2⟩,ss.nt,ss.df⟩
 |some j=>
  refine⟨hs,fun i d' hi=> ?_,by simp[Act.put,ss.nt],ss.df⟩;have hj:=hd j rfl;simp only[zeH,upd]at hi;simp only[Act.put];split at hi
  .rename_i hij;subst hij;simp at hi;subst hi;exact⟨v,by simp[Z15 hj ss.nt],hr⟩
  .rename_i hij;obtain⟨v',h1,h2⟩ :=ss.tmr i d' hi;exact⟨v',by rw[Z93 (fun e=>hij e.symm)];exact h1,Rel.keep hk d' v' h2⟩
def zf6(tm:Tm):Option (Nat×Bool)->Option Bool
 |none=>some true
 |some (s,w)=>match tm s with
  |some (.f (.b x))=>some (x==w)
  |some (.f .un)=>some false
  |_=>none
def zwa(t:T D)(g:Option (Nat×Bool)):zbQ t g=zf6 t.get g:=by
 cases g<;>rfl
theorem zfE{nt:Nat}{tm:Tm}{h:Hp}{a:Act}(ss:SS amb nt tm h ρ c a w){ops:Array Oper}{o:Oper}{gd:Option (Nat×Bool)}(hg:zkT ops o=some gd){b:Bool}
  (hw:zf6 tm gd=some b):Region.wanted o (yielded ops a.tmps)=b:=by
 unfold zkT at hg;unfold Region.wanted;split at hg
 .rename_i hgn;simp at hg;subst hg;simp[zf6]at hw;simp[hgn,hw]
 .rename_i j w' hgs;obtain⟨s,hs,rfl⟩ :=zeF hg;unfold zC0 at hs;rw[hgs];simp only;unfold zf6 at hw;simp only at hw;split at hw
  .rename_i x hx;simp at hw;subst hw;obtain⟨v,h1,h2⟩ :=ss.tmr s _ hx;simp only[Rel,zaj]at h2;subst h2;have:yielded ops a.tmps j=some x:=by simp[yielded,hs,h1]
   rw[this];cases x<;>cases w'<;>rfl
  .rename_i hx;simp at hw;subst hw;obtain⟨v,h1,h2⟩ :=ss.tmr s _ hx;simp only[Rel,zaj]at h2;subst h2;have:yielded ops a.tmps j=none:=by simp[yielded,hs,h1]
   rw[this];rfl
  .simp at hw
theorem zo9{nt:Nat}{ops:Array Oper}{o:Oper}{co:Op}(hc:zbS P pur nt ops o=some co):
  co.dst=o.dst/\zkT ops o=some co.gd/\co.o=(zfi P pur (zpi ops o) o).getD bad/\∀i,o.dst=some i->i<nt:=by
 unfold zbS at hc;split at hc
 .simp at hc
 .rename_i gd hgd;cases hd:o.dst with
  |none=>
   simp only[hd,Z60,Z45]at hc;subst hc;exact⟨rfl,hgd,rfl,fun i hi=>by simp at hi⟩
  |some i=>
   simp only[hd,Z79]at hc;split at hc
   .rename_i hlt;simp only[Z45]at hc;subst hc;exact⟨rfl,hgd,rfl,fun j hj=>by cases hj;exact hlt⟩
   .simp at hc
def zi2(P:Program)(o:Oper)(a:Act)(w:World)(R:Value->World->Prop):Prop:=
 (∃v w',Does P (execOp a.eval o) w v w'/\R v w')\/
 ∃f vs,(execOp a.eval o).run P w= .ok (.enter f ⟨vs⟩) w/\Calls P f ⟨vs⟩ w fun e w'=>∃v,e= .returned v/\R v w'
theorem zi2.wp{o:Oper}{a:Act}{R:Value->World->Prop}{Q:Exit->Act->World->Prop}(hs:zi2 P o a w R){K:Act->World->Prop}(hK:∀v w',R v w'->K (a.put o.dst v) w'):
  o.wp P a w K Q:=by
 unfold Oper.wp;rcases hs with⟨v,w',hd,hr⟩ |⟨f,vs,hrun,hcall⟩
 .rcases hd with hd|⟨hd,rfl⟩
  .rw[hd];exact hK v w' hr
  .rw[hd];exact hK _ w' hr
 .rw[hrun];refine hcall.mono fun e w' ⟨v,he,hr⟩ => ?_
  subst he;exact hK v w' hr
theorem ziN{ops:Array Oper}{i:Nat}{o:Oper}(hi:ops[i]? =some o){a:Act}{K:Act->World->Prop}{Q:Exit->Act->World->Prop}
  (ht:Region.wanted o (yielded ops a.tmps)=true->o.wp P a w K Q)(hf:Region.wanted o (yielded ops a.tmps)=false->K (a.put o.dst undef) w):wpOp P ops Q i K a w:=by
 unfold wpOp;simp only[hi];split
 .rename_i hw;exact .inl (ht hw)
 .rename_i hw;exact hf (by simpa using hw)
def zsM{f:Nat}(he:zhJ P f)(args:Array Value):(callFunc f args).run P w= .ok (.enter f args) w:=by
 obtain⟨F,h1,h2,h3⟩ :=he;obtain⟨code,hb⟩ :=Z158.1 h2;simp[callFunc,h1,h3,hb]
def zsd{o:Oper}{ev:Operand->Value}{f:Nat}{xs:Array Operand}{ats:Array TypeId}(hop:o.op= .call {callee:= .value (.func f),args:=xs,argTypes:=ats})
  (hev:ev (.func f)= .func (.func f) #[] #[])(he:zhJ P f):(execOp ev o).run P w= .ok (.enter f (xs.map ev)) w:=by
 simp[execOp,hop,resolve,hev,Deferred.ofValue,invoke,zsM he]
def zql{o:Oper}{ev:Operand->Value}{x:Operand}{f:Nat}{as bs:List Value}{xs:Array Operand}{ats:Array TypeId}(hop:o.op= .call {callee:= .value x,args:=xs,argTypes:=ats})
  (hev:ev x= .func (.func f) ⟨as⟩ ⟨bs⟩)(he:zhJ P f):(execOp ev o).run P w= .ok (.enter f ⟨as++xs.toList.map ev++bs⟩) w:=by
 have:(⟨as⟩ ++xs.map ev++ ⟨bs⟩ :Array Value)=⟨as++xs.toList.map ev++bs⟩ :=by apply Z104;simp
 simp only[execOp,hop,resolve,hev,Deferred.ofValue,Sem.run_bind,Sem.run_pure,Result.andThen_ok,invoke,zsM he];rw[this]
end
end Go.Vse
end
section
namespace Go.Vse
variable [Globs]
open Go.RowKit
def znE{α:Type}:O α->Bool
 | .callp .. | .call .. | .callv .. =>true
 |_=>false
section
variable {P:Program}{w:World}{amb:Mu}{ρ:Nat->Option Nat}{c:Nat->Prop}{pur:Nat->Bool}
theorem zkU{fz:Bool}{o:Oper}{co:O A}(hc:zfi P pur fz o=some co)(hq:znE co=true):∃cc args,o.op= .call cc/\zat opA cc.args.toList=some args/\
  ((∃f,cc.callee= .value (.func f)/\co=if pur f then .callp f args else .call f args)\/∃x a,cc.callee= .value x/\opA x=some a/\co= .callv a args):=by
 unfold zfi at hc;split at hc
 case h_26 cc hop=>
  split at hc
  .rename_i args hargs;split at hc
   .rename_i f hcal;exact⟨cc,args,hop,hargs,.inl ⟨f,hcal,(Z53 hc).symm⟩⟩
   .rename_i x hne hcal;obtain⟨a,ha,rfl⟩ :=zeF hc;exact⟨cc,args,hop,hargs,.inr ⟨x,a,hcal,ha,rfl⟩⟩
   .rename_i b hcal;exfalso;unfold ziQ at hc
    (repeat' split at hc)<;>first
     |(simp at hc;done)
     |(simp only[Z45]at hc;subst hc;simp[znE]at hq;done)
     |(obtain⟨_,_,rfl⟩ :=zeF hc;simp[znE]at hq;done)
   .simp at hc
  .simp at hc
 all_goals
  exfalso
  (repeat' split at hc)<;>first
   |(simp at hc;done)
   |(simp only[Z45]at hc;subst hc;simp[znE]at hq;done)
   |(obtain⟨_,_,rfl⟩ :=zeF hc;simp[znE]at hq;done)
def zDD(cl:Cl)(s:St)(o:Op)(ho:o.o=bad):step cl s o=none:=by
 simp[step,ho,bad,O.res,zae,kindOf,F.d,opv,zcw]
def zCw{co:O A}{g:A->Option D}{f:Nat}{ds:List D}(hr:co.res g=some (.callp f ds)):∃as,co= .callp f as/\zat g as=some ds:=by
 cases co<;>simp only[O.res]at hr
 case callp f' as=>
  obtain⟨ds',h1,h2⟩ :=zay hr;simp only[Z45,O.callp.injEq]at h2;obtain⟨rfl,rfl⟩ :=h2;exact⟨as,rfl,h1⟩
 all_goals first
  |(simp at hr;done)
  | (obtain⟨_,_,hr⟩ :=zay hr;first
    |(simp at hr;done)
    | (obtain⟨_,_,hr⟩ :=zay hr;first
      |(simp at hr;done)
      | (obtain⟨_,_,hr⟩ :=zay hr;first
        |(simp at hr;done)
        |(obtain⟨_,_,hr⟩ :=zay hr;simp at hr;done))))
def zFm{co:O A}{g:A->Option D}{f:Nat}{ds:List D}(hr:co.res g=some (.call f ds)):∃as,co= .call f as/\zat g as=some ds:=by
 cases co<;>simp only[O.res]at hr
 case call f' as=>
  obtain⟨ds',h1,h2⟩ :=zay hr;simp only[Z45,O.call.injEq]at h2;obtain⟨rfl,rfl⟩ :=h2;exact⟨as,rfl,h1⟩
 all_goals first
  |(simp at hr;done)
  | (obtain⟨_,_,hr⟩ :=zay hr;first
    |(simp at hr;done)
    | (obtain⟨_,_,hr⟩ :=zay hr;first
      |(simp at hr;done)
      | (obtain⟨_,_,hr⟩ :=zay hr;first
        |(simp at hr;done)
        |(obtain⟨_,_,hr⟩ :=zay hr;simp at hr;done))))
def zsJ{co:O A}{g:A->Option D}{x:D}{ds:List D}(hr:co.res g=some (.callv x ds)):∃a as,co= .callv a as/\g a=some x/\zat g as=some ds:=by
 cases co<;>simp only[O.res]at hr
 case callv a as=>
  obtain⟨x',h0,hr⟩ :=zay hr;obtain⟨ds',h1,h2⟩ :=zay hr;simp only[Z45,O.callv.injEq]at h2;obtain⟨rfl,rfl⟩ :=h2;exact⟨a,as,rfl,h0,h1⟩
 all_goals first
  |(simp at hr;done)
  | (obtain⟨_,_,hr⟩ :=zay hr;first
    |(simp at hr;done)
    | (obtain⟨_,_,hr⟩ :=zay hr;first
      |(simp at hr;done)
      | (obtain⟨_,_,hr⟩ :=zay hr;first
        |(simp at hr;done)
        |(obtain⟨_,_,hr⟩ :=zay hr;simp at hr;done))))
theorem zC7{nt:Nat}{tm:Tm}{h:Hp}{a:Act}(ss:SS amb nt tm h ρ c a w){cl:Cl}(hcl:zd5 P cl){o:Oper}{co:O A}{fz:Bool}(hco:zfi P pur fz o=some co){o':O D}
  (hres:co.res (zcy tm)=some o'){f n:Nat}{args:List D}(hk:kindOf o'= .p f args){r:Rs}(hv:zez cl h n f args=some r):r.c=n/\zi2 P o a w (Post amb w h ρ c n r):=by
 have ho':o'= .callp f args:=by
  unfold kindOf at hk;split at hk<;>simp at hk;obtain⟨rfl,rfl⟩ :=hk;rfl
 subst ho';obtain⟨as,rfl,hm⟩ :=zCw hres;obtain⟨⟨cal,xs,ats⟩,args',hop,hargs,hh⟩ :=zkU hco rfl;rcases hh with⟨f',hcal,he⟩ |⟨x,a,_,_,he⟩
 .split at he
  .simp at he;obtain⟨rfl,rfl⟩ :=he;simp only at hcal hargs;subst hcal;have hl:=ss.ev.list hargs hm;obtain⟨hen,hrc,hcall⟩ :=zwi ss.sim hcl hv hl;refine⟨hrc,.inr ⟨f,xs.toList.map a.eval,?_,hcall⟩⟩;have:xs.map a.eval=⟨xs.toList.map a.eval⟩ :=by apply Z104;simp
   rw[<-this];exact zsd hop rfl hen
  .simp at he
 .simp at he
theorem zC9{nt:Nat}{tm:Tm}{h:T Ob}{a:Act}(ss:SS amb nt tm h.get ρ c a w){cl:Cl}(hcl:zd5 P cl){o:Oper}{co:O A}{fz:Bool}(hco:zfi P pur fz o=some co){o':O D}
  (hres:co.res (zcy tm)=some o'){f n:Nat}{args:List D}(hk:kindOf o'= .q f args){q:CR}(hv:cl f args h n=some q)(hfree:∀id,n<=id->id<q.mx->¬c id):
  zi2 P o a w (zgV amb w h.get ρ c n q):=by
 obtain⟨hen,_,_,hcall⟩ :=hcl _ _ _ _ _ hv;unfold kindOf at hk;split at hk
 .simp at hk
 ·
  simp at hk;obtain⟨rfl,rfl⟩ :=hk;obtain⟨as,rfl,hm⟩ :=zFm hres;obtain⟨⟨cal,xs,ats⟩,args',hop,hargs,hh⟩ :=zkU hco rfl;rcases hh with⟨f',hcal,he⟩ |⟨x,a,_,_,he⟩
  .split at he
   .simp at he
   .simp at he;obtain⟨rfl,rfl⟩ :=he;simp only at hcal hargs;subst hcal;have hl:=ss.ev.list hargs hm;refine .inr ⟨_,xs.toList.map a.eval,?_,hcall amb ρ c w _ ss.sim hfree hl⟩;have:xs.map a.eval=⟨xs.toList.map a.eval⟩ :=by apply Z104;simp
    rw[<-this];exact zsd hop rfl hen
  .simp at he
 ·
  rename_i f0 args0;simp at hk;obtain⟨rfl,rfl⟩ :=hk;obtain⟨a0,as,rfl,hx,hm⟩ :=zsJ hres;obtain⟨⟨cal,xs,ats⟩,args',hop,hargs,hh⟩ :=zkU hco rfl;rcases hh with⟨f',hcal,he⟩ |⟨x,a1,hcal,ha1,he⟩
  .split at he<;>simp at he
  .simp at he;obtain⟨rfl,rfl⟩ :=he;simp only at hcal hargs;subst hcal;have hl:=ss.ev.list hargs hm;have hxr:=ss.ev x a0 _ ha1 hx;simp only[Rel,zaj]at hxr;have hrun:=zql (P:=P) (w:=w) (as:=[]) (bs:=[]) hop hxr hen;simp only[Z28,Z22]at hrun;exact .inr ⟨_,_,hrun,hcall amb ρ c w _ ss.sim hfree hl⟩
 ·
  rename_i f0 first cap args0;simp at hk;obtain⟨rfl,rfl⟩ :=hk;obtain⟨a0,as,rfl,hx,hm⟩ :=zsJ hres;obtain⟨⟨cal,xs,ats⟩,args',hop,hargs,hh⟩ :=zkU hco rfl;rcases hh with⟨f',hcal,he⟩ |⟨x,a1,hcal,ha1,he⟩
  .split at he<;>simp at he
  .simp at he;obtain⟨rfl,rfl⟩ :=he;simp only at hcal hargs;subst hcal;have hl:=ss.ev.list hargs hm;have hxr:=ss.ev x a0 _ ha1 hx;simp only[Rel]at hxr;obtain⟨vs,us,hxe,h1,h2⟩ :=hxr;have hrun:=zql (P:=P) (w:=w) hop hxe hen;refine .inr ⟨_,_,hrun,hcall amb ρ c w _ ss.sim hfree ?_⟩;rw[<-Z32];exact (h1.app hl).app h2
 .simp at hk
 .simp at hk
end
end Go.Vse
end
section
namespace Go.Vse
variable [Globs]
open Go.RowKit
section
variable {P:Program}{w:World}{amb:Mu}{ρ:Nat->Option Nat}{c:Nat->Prop}{pur:Nat->Bool}
def zsa{h:Hp}{es byt n:Nat}{s:D}{new:List (List D)}{rd:List Nat}{r:Rs}(hv:za3 es byt h n s new rd=some r):n<=r.c:=by
 unfold za3 at hv
 (repeat' split at hv)<;>first
  |(simp at hv;done)
  |(simp at hv;subst hv;simp;done)
  |(dsimp only at hv;(repeat' split at hv)<;>first|(simp at hv;done)|(simp at hv;subst hv;simp;done))
def zqM{h:Hp}{n:Nat}{o:O D}{r:Rs}(hv:opv h n o=some r):n<=r.c:=by
 cases o<;>simp only[opv,okF,okD]at hv
 case app es byt s x=>
  split at hv
  .exact zsa hv
  .simp at hv
 case apz es byt z s m=>
  split at hv
  .split at hv
   .exact zsa hv
   .simp at hv
  .simp at hv
 all_goals
  (repeat' split at hv)<;>first
   |(simp at hv;done)
   |(simp only[Z45]at hv;subst hv;simp;done)
theorem zsz{nt:Nat}{a:Act}{cl:Cl}(hcl:zd5 P cl){ops:Array Oper}{o:Oper}{co:Op}(hcomp:zbS P pur nt ops o=some co){s s':St}{p:Fp}
  (hs:zdR cl s co=some (s',p))(ss:SS amb nt s.tm.get s.h.get ρ c a w)(hfree:∀id,s.c<=id->id<s'.mx->¬c id){i:Nat}(hi:ops[i]? =some o)
  {K:Act->World->Prop}{Q:Exit->Act->World->Prop}
  (hK:∀a' w' ρ',Base w w'->SS amb nt s'.tm.get s'.h.get ρ' (UX c s.c s'.c) a' w'->Evo amb (fun id=>s'.lw<=id/\id<s'.mx) w.heap s.h.get ρ c w'.heap s'.h.get ρ' (UX c s.c s'.c)->K a' w'):
  wpOp P ops Q i K a w:=by
 obtain⟨hd,hg,ho,hlt⟩ :=zo9 hcomp;unfold zdR at hs;rw[zwa]at hs;split at hs
 .simp at hs
 .rename_i hw;have hwant:=zfE ss hg hw;refine ziN hi (fun _=> ?_) (fun hf=>by rw[hwant]at hf;cases hf);cases hco:zfi P pur (zpi ops o) o with
  |none=>
   rw[hco]at ho;rw[zDD cl s co (by simpa using ho)]at hs;simp at hs
  |some cop=>
   rw[hco]at ho;simp only[Z118]at ho;unfold step at hs;rw[ho,zrO]at hs;split at hs
   .simp at hs
   .rename_i o' hres;have norm:∀r,zi2 P o a w (Post amb w s.h.get ρ c s.c r)->zcw s co.dst (some r)=some (s',p)->o.wp P a w K Q:=by
     intro r hst hn;obtain⟨hwr,hn⟩ :=zgx hn;simp only[Z66]at hn;obtain⟨rfl,_⟩ :=hn;refine hst.wp fun v w' hp=> ?_
     obtain⟨hb,ρ',k1,k2,k3⟩ :=hp;refine hK _ w' ρ' hb ?_ ?_
     .rw[zl1,ziC,hd];exact ss.next k3.keep k2 hlt k1
     .rw[zl1];exact k3.mono fun id _ hid=>⟨(zhk r.wr s.lw).2 id hid,Z15 (Nat.lt_succ_of_lt (zr4 hwr id hid)) (Z78 _ _)⟩
    split at hs
    .rename_i f args hk;cases hv:zez cl s.h.get s.c f args with
     |none=>rw[hv]at hs;simp[zcw]at hs
     |some r=>
      rw[hv]at hs;exact norm r (zC7 ss hcl hco hres hk hv).2 hs
    .rename_i f args hk;cases hv:cl f args s.h s.c with
     |none=>rw[hv]at hs;simp[zfg]at hs
     |some q=>
      rw[hv]at hs;simp only[zfg,Z45,Z66]at hs;obtain⟨rfl,_⟩ :=hs;have hst:=zC9 ss hcl hco hres hk hv (fun id h1 h2=>hfree id h1 (Z15 h2 (Z78 _ _)));refine hst.wp fun v w' hp=> ?_
      obtain⟨hb,ρ',k1,k2,k3⟩ :=hp;refine hK _ w' ρ' hb ?_ ?_
      .rw[ziC,hd];exact ss.next k3.keep k2 hlt k1
      .exact k3.mono fun id _ hid=>⟨Z3 (Z201 _ _) hid.1,Z15 hid.2 (Z78 _ _)⟩
    .rename_i hk;cases hv:opv s.h.get s.c o' with
     |none=>rw[hv]at hs;simp[zcw]at hs
     |some r=>
      rw[hv]at hs;have hcn:¬c s.c:=by
       have h1:=zqM hv;have h2:=(zgx hs).2;simp only[Z66]at h2;obtain⟨rfl,_⟩ :=h2;exact hfree s.c (Z2 _) (Z15 (by omega) (Z78 _ _))
      exact norm r (.inl (znN ss.sim hcn ss.ev hco hres hv)) hs
    .simp at hs
 .rename_i hw;have hwant:=zfE ss hg hw;simp only[Z45,Z66]at hs;obtain⟨rfl,_⟩ :=hs;refine ziN hi (fun ht=>by rw[hwant]at ht;cases ht) fun _=> ?_
  refine hK _ w ρ (Base.refl w) ?_ ?_
  .simp only[zei];rw[ziC,hd];exact ss.next (Keep.refl _ _ _ _) ss.sim hlt (by simp only[Rel,zaj];rfl)
  .simp only[zei];exact Evo.refl _ _ _ _ _ _
theorem zjw{cl:Cl}(hcl:zd5 P cl){co:Op}{s s':St}{p:Fp}(hs:zdR cl s co=some (s',p))(hm:s.c<=s.mx):
  s.c<=s'.c/\s'.c<=s'.mx/\s.mx<=s'.mx/\s'.lw<=s.lw:=by
 have norm:∀r:Rs,s.c<=r.c->zcw s co.dst (some r)=some (s',p)->s.c<=s'.c/\s'.c<=s'.mx/\s.mx<=s'.mx/\s'.lw<=s.lw:=by
  intro r hr hn;have hn:=(zgx hn).2;simp only[Z66]at hn;obtain⟨rfl,_⟩ :=hn;exact⟨hr,Z3 (Z128 _) (Z78 _ _),Z135 _ _,(zhk _ _).1⟩
 unfold zdR at hs;split at hs
 .simp at hs
 .unfold step at hs;split at hs
  .simp at hs
  .split at hs
   .rename_i f args hk;cases hv:zez cl s.h.get s.c f args with
    |none=>rw[hv]at hs;simp[zcw]at hs
    |some r=>
     rw[hv]at hs;refine norm r ?_ hs;unfold zez at hv
     (repeat' split at hv)<;>first|(simp at hv;done)|(simp only[Z45]at hv;subst hv;exact Z2 _)
   .rename_i f args hk;cases hv:cl f args s.h s.c with
    |none=>rw[hv]at hs;simp[zfg]at hs
    |some q=>
     rw[hv]at hs;simp only[zfg,Z45,Z66]at hs;obtain⟨rfl,_⟩ :=hs;obtain⟨_,h1,h2,_⟩ :=hcl _ _ _ _ _ hv;exact⟨h1,Z3 h2 (Z78 _ _),Z135 _ _,Z64 _ _⟩
   .cases hv:opv s.h.get s.c _ with
    |none=>rw[hv]at hs;simp[zcw]at hs
    |some r=>rw[hv]at hs;exact norm r (zqM hv) hs
   .simp at hs
 .simp only[Z45,Z66]at hs;obtain⟨rfl,_⟩ :=hs;exact⟨Z2 _,hm,Z2 _,Z2 _⟩
def zo4{c:Nat->Prop}{n m k:Nat}(h1:n<=m)(h2:m<=k):UX (UX c n m) m k=UX c n k:=by
 funext id
 refine propext ⟨fun hx=> ?_,fun hx=> ?_⟩
 .rcases hx with(hx|hx)|hx
  .exact .inl hx
  .exact .inr ⟨hx.1,by omega⟩
  .exact .inr ⟨by omega,hx.2⟩
 .rcases hx with hx|hx
  .exact .inl (.inl hx)
  .by_cases hm:id<m
   .exact .inl (.inr ⟨hx.1,hm⟩)
   .exact .inr ⟨by omega,hx.2⟩
def znz{c:Nat->Prop}{n m k:Nat}(hf:∀id,n<=id->id<k->¬c id)(hnm:n<=m):∀id,m<=id->id<k->¬UX c n m id:=by
 intro id h1 h2 hx;rcases hx with hx|hx
 .exact hf id (by omega) h2 hx
 .omega
def After(amb:Mu)(nt:Nat)(s s':St)(ρ:Nat->Option Nat)(c:Nat->Prop)(w:World)(a':Act)(w':World):Prop:=
 Base w w'/\∃ρ',SS amb nt s'.tm.get s'.h.get ρ' (UX c s.c s'.c) a' w'/\Evo amb (fun id=>s'.lw<=id/\id<s'.mx) w.heap s.h.get ρ c w'.heap s'.h.get ρ' (UX c s.c s'.c)
theorem zgO{cl:Cl}(hcl:zd5 P cl):∀(l:List Op) (s s':St),zeU cl l s=some s'->s.c<=s.mx->s.c<=s'.c/\s'.c<=s'.mx/\s.mx<=s'.mx/\s'.lw<=s.lw
 |[],s,s',hs,hm=>by simp[zeU]at hs;subst hs;exact⟨Z2 _,hm,Z2 _,Z2 _⟩
 |o::l,s,s',hs,hm=>by
  unfold zeU at hs;split at hs
  .simp at hs
  .rename_i s1 p h1;obtain⟨a1,a2,a3,a4⟩ :=zjw hcl h1 hm;obtain⟨b1,b2,b3,b4⟩ :=zgO hcl l s1 s' hs a2;exact⟨Z3 a1 b1,b2,Z3 a3 b3,Z3 b4 a4⟩
theorem zkz{nt:Nat}{cl:Cl}(hcl:zd5 P cl){ops:Array Oper}{Q:Exit->Act->World->Prop}:
  ∀(l:List Oper) (k:Nat) (cs:List Op) (s s':St) (ρ:Nat->Option Nat) (c:Nat->Prop) (a:Act) (w:World),(∀j,l[j]? =ops[k+j]?)->zat (zbS P pur nt ops) l=some cs->
   zeU cl cs s=some s'->s.c<=s.mx->SS amb nt s.tm.get s.h.get ρ c a w->(∀id,s.c<=id->id<s'.mx->¬c id)->
   (∀a' w',After amb nt s s' ρ c w a' w'->Q .normal a' w')->wpOps P ops Q (List.range' k l.length) a w
 |[],k,cs,s,s',ρ,c,a,w,_,hc,hs,hm,ss,_,hQ=>by
  simp[zat]at hc;subst hc;simp[zeU]at hs;subst hs;simp only[Z170,List.range'_zero,wpOps];exact hQ a w ⟨Base.refl w,ρ,by rw[zei];exact ss,by rw[zei];exact Evo.refl _ _ _ _ _ _⟩
 |o::l,k,cs,s,s',ρ,c,a,w,hops,hc,hs,hm,ss,hfree,hQ=>by
  unfold zat at hc;split at hc
  .simp at hc
  .rename_i co hco;split at hc
   .simp at hc
   .rename_i cs' hcs;simp only[Z45]at hc;subst hc;unfold zeU at hs;split at hs
    .simp at hs
    .rename_i s1 p h1;obtain⟨a1,a2,a3,a4⟩ :=zjw hcl h1 hm;obtain⟨b1,b2,b3,b4⟩ :=zgO hcl cs' s1 s' hs a2;have hi:ops[k]? =some o:=by simpa using(hops 0).symm
     simp only[Z23,List.range'_succ];rw[wpOps_cons];refine zsz hcl hco h1 ss (fun id x y=>hfree id x (Z15 y b3)) hi fun a' w' ρ' hb ss' ev'=> ?_
     refine zkz hcl l (k+1) cs' s1 s' ρ' _ a' w' (fun j=>by have:=hops (j+1);simpa [Z82,Z198 1 j]using this) hcs hs a2 ss'
      (znz hfree a1) fun a2' w2 ⟨hb2,ρ2,ss2,ev2⟩ =>hQ a2' w2 ⟨hb.trans hb2,ρ2,?_,?_⟩
     .rw[zo4 a1 b1]at ss2;exact ss2
     .rw[zo4 a1 b1]at ev2;exact (ev'.mono fun id _ hid=>⟨Z3 b4 hid.1,Z15 hid.2 b3⟩).trans ev2
end
end Go.Vse
end
section
namespace Go.Vse
variable [Globs]
open Go.RowKit
section
variable {h h':Hp}
theorem zgM{f f':D->Option (F×List Nat)}(hf:∀d x rd,f d=some (x,rd)->(∀id∈rd,h' id=h id)->f' d=some (x,rd)):
  ∀(ds:List D) (xs:List F) (rd:List Nat),zaT f ds=some (xs,rd)->(∀id∈rd,h' id=h id)->zaT f' ds=some (xs,rd)
 |[],xs,rd,hm,_=>by simpa [zaT]using hm
 |d::ds,xs,rd,hm,hl=>by
  unfold zaT at hm|-;split at hm
  .simp at hm
  .rename_i x r hx;split at hm
   .simp at hm
   .rename_i m r' hm';simp at hm;obtain⟨rfl,rfl⟩ :=hm;rw[hf d x r hx fun id hid=>hl id (by simp[hid]),zgM hf ds m r' hm' fun id hid=>hl id (by simp[hid])]
theorem znH{f f':D->Option (F×List Nat)}(hf:∀d x rd,f d=some (x,rd)->(∀id∈rd,h' id=h id)->f' d=some (x,rd)):
  ∀(ds:List (List D)) (xs:List (List F)) (rd:List Nat),zaU f ds=some (xs,rd)->(∀id∈rd,h' id=h id)->zaU f' ds=some (xs,rd)
 |[],xs,rd,hm,_=>by simpa [zaU]using hm
 |d::ds,xs,rd,hm,hl=>by
  unfold zaU at hm|-;split at hm
  .simp at hm
  .rename_i x r hx;split at hm
   .simp at hm
   .rename_i m r' hm';simp at hm;obtain⟨rfl,rfl⟩ :=hm;rw[zgM hf d x r hx fun id hid=>hl id (by simp[hid]),znH hf ds m r' hm' fun id hid=>hl id (by simp[hid])]
theorem zhr:∀(k:Nat) (d:D) (x:F) (rd:List Nat),frz h k d=some (x,rd)->(∀id∈rd,h' id=h id)->frz h' k d=some (x,rd)
 |0,d,x,rd,hf,_=>by simp[frz]at hf
 |k+1,d,x,rd,hf,hl=>by
  unfold frz at hf|-;split at hf
  .exact hf
  .split at hf
   .rename_i l r hm;simp at hf;obtain⟨rfl,rfl⟩ :=hf;rw[zgM (fun d x rd=>zhr k d x rd) _ l r hm hl]
   .simp at hf
  .split at hf
   .rename_i l r hm;simp at hf;obtain⟨rfl,rfl⟩ :=hf;rw[zgM (fun d x rd=>zhr k d x rd) _ l r hm hl]
   .simp at hf
  .rename_i id off len es lim ex;split at hf
   .rename_i es' ro els ho;split at hf
    .rename_i hc;split at hf
     .rename_i l r hm;simp at hf;obtain⟨rfl,rfl⟩ :=hf;rw[hl id (by simp),ho];simp only[hc,and_self,Z60];rw[znH (fun d x rd=>zhr k d x rd) _ l r hm fun i hi=>hl i (by simp[hi])]
     .simp at hf
    .simp at hf
   .simp at hf
  .simp at hf
theorem zm7:∀(l:List Nat),(∀id∈l,h' id=h id)->zau h' l=zau h l
 |[],_=>rfl
 |id::l,hl=>by
  unfold zau;rw[hl id (by simp),zm7 l fun i hi=>hl i (by simp[hi])]
def zwh{cl:Cl}{n f:Nat}{args:List D}{r:Rs}(hc:zez cl h n f args=some r)(hl:∀id∈r.rd,h' id=h id):zez cl h' n f args=some r:=by
 unfold zez at hc|-;split at hc
 .simp at hc
 .rename_i fs rd hfz;split at hc
  .simp at hc
  .rename_i q hq;split at hc
   .simp at hc
   .rename_i x rd' hx;simp only[Z45]at hc;subst hc;simp only at hl;have hfz':zbU h' args=some (fs,rd):=by
     unfold zbU at hfz|-;generalize 12=k at hfz|-;exact zgM (f:=frz h k) (f':=frz h' k) (fun d x rd=>zhr k d x rd) args fs rd hfz hl
    rw[hfz'];simp only[hq];rw[hx,zm7 rd hl]
def agree(t t':Tm)(l:List Nat):Prop:=∀n∈l,t n=t' n
def zej{t t':Tm}{x:A}(hx:agree t t' (zaN x)):zcy t x=zcy t' x:=by
 cases x with
 |t n=>exact hx n (by simp[zaN])
 |k x=>rfl
 |x=>rfl
 |g cs=>rfl
theorem zjN{t t':Tm}:∀{l:List A},agree t t' (zdr l)->zat (zcy t) l=zat (zcy t') l
 |[],_=>rfl
 |x::l,hx=>by
  unfold zat;rw[zej (x:=x) fun n hn=>hx n (by simp[zdr,hn]),zjN (l:=l) fun n hn=>hx n (by simp[zdr,hn])]
def zlH{t t':Tm}{x:Option A}(hx:agree t t' (zoF x)):zdp (zcy t) x=zdp (zcy t') x:=by
 cases x with
 |none=>rfl
 |some x=>unfold zdp;simp only;rw[zej (x:=x) hx]
theorem zwB{t t':Tm}:∀{l:List (Nat×Nat×A)},agree t t' (zdr (l.map (·.2.2)))->
  zat (fun(p:Nat×Nat×A)=>do some (p.1,p.2.1,<-zcy t p.2.2)) l=zat (fun(p:Nat×Nat×A)=>do some (p.1,p.2.1,<-zcy t' p.2.2)) l
 |[],_=>rfl
 |x::l,hx=>by
  unfold zat;rw[zej (x:=x.2.2) fun n hn=>hx n (by simp[zdr,hn]),zwB (l:=l) fun n hn=>hx n (by simp only[Z10,zdr,Z4];exact .inr hn)]
theorem zo6{t t':Tm}:∀{l:List (Nat×A)},agree t t' (zdr (l.map (·.2)))->
  zat (fun(p:Nat×A)=>do some (p.1,<-zcy t p.2)) l=zat (fun(p:Nat×A)=>do some (p.1,<-zcy t' p.2)) l
 |[],_=>rfl
 |x::l,hx=>by
  unfold zat;rw[zej (x:=x.2) fun n hn=>hx n (by simp[zdr,hn]),zo6 (l:=l) fun n hn=>hx n (by simp only[Z10,zdr,Z4];exact .inr hn)]
def zBp{t t':Tm}{o:O A}(hx:agree t t' o.slots):o.res (zcy t)=o.res (zcy t'):=by
 have l:∀{a b:List Nat},agree t t' (a++b)->agree t t' a:=fun hh n hn=>hh n (by simp[hn])
 have r:∀{a b:List Nat},agree t t' (a++b)->agree t t' b:=fun hh n hn=>hh n (by simp[hn])
 cases o<;>simp only[O.slots]at hx<;>simp only[O.res]
 case bld z ps=>rw[show(zat (fun x=>match x with|(o,n,x)=>do some (o,n,<-zcy t x)) ps)=_ from zwB hx]
 case bsl e z m ps=>rw[show(zat (fun x=>match x with|(o,x)=>do some (o,<-zcy t x)) ps)=_ from zo6 hx]
 case bsf e z m ps=>rw[show(zat (fun x=>match x with|(o,x)=>do some (o,<-zcy t x)) ps)=_ from zo6 hx]
 case mkf f a b=>rw[zjN (l hx),zjN (r hx)]
 case callp f a=>rw[zjN hx]
 case call f a=>rw[zjN hx]
 case callv x a=>rw[zej (l hx),zjN (r hx)]
 case sls x lo hi=>rw[zej (l (l hx)),zlH (r (l hx)),zlH (r hx)]
 case slc e x lo hi mx=>rw[zej (l (l (l hx))),zlH (r (l (l hx))),zlH (r (l hx)),zlH (r hx)]
 all_goals first
  |rfl
  |rw[zej hx]
  |rw[zej (l hx),zej (r hx)]
  |rw[zej (l (l hx)),zej (r (l hx)),zej (r hx)]
end
structure Sg where
 tm:Tm
 h:Hp
 U:Nat->Prop
inductive Kd where
 |sk
 |nm (o':O D) (r:Rs) (n:Nat)
 |cp (o':O D) (f:Nat) (args:List D) (r:Rs) (n:Nat)
 |cq (o':O D) (f:Nat) (args:List D) (q:CR) (n:Nat) (h0:T Ob)
structure De where
 co:Op
 k:Kd
def Kd.rng:Kd->Nat->Prop
 | .sk,_=>False
 | .nm _ r n,id| .cp _ _ _ r n,id=>n<=id/\id<r.c+1
 | .cq _ _ _ q n _,id=>n<=id/\id<q.mx
def Kd.d:Kd->D
 | .sk=> .f .un
 | .nm _ r _| .cp _ _ _ r _=>r.d
 | .cq _ _ _ q _ _=>q.d
def Kd.pre(cl:Cl)(k:Kd)(co:Op)(σ:Sg):Prop:=
 match k with
 | .sk=>zf6 σ.tm co.gd=some false
 | .nm o' r n=>zf6 σ.tm co.gd=some true/\co.o.res (zcy σ.tm)=some o'/\kindOf o'= .n/\opv σ.h n o'=some r
 | .cp o' f args r n=>zf6 σ.tm co.gd=some true/\co.o.res (zcy σ.tm)=some o'/\kindOf o'= .p f args/\zez cl σ.h n f args=some r
 | .cq o' f args q n h0=>zf6 σ.tm co.gd=some true/\co.o.res (zcy σ.tm)=some o'/\kindOf o'= .q f args/\cl f args h0 n=some q/\h0.get=σ.h
def Kd.simple:Kd->Bool
 | .cq .. =>false
 |_=>true
def Kd.rd:Kd->List Nat
 | .nm _ r _| .cp _ _ _ r _=>r.rd
 |_=>[]
def Kd.wr:Kd->List (Nat×Option Ob)
 | .nm _ r _| .cp _ _ _ r _=>r.wr
 |_=>[]
def Kd.hp(k:Kd)(h:Hp):Hp:=
 match k with
 | .cq _ _ _ q _ _=>q.h.get
 |k=>zbu h k.wr
structure Stp(cl:Cl)(e:De)(σ σ':Sg):Prop where
 fr:∀id,e.k.rng id->¬σ.U id
 pre:e.k.pre cl e.co σ
 eq:σ'=⟨zeH σ.tm e.co.dst e.k.d,e.k.hp σ.h,fun id=>σ.U id\/e.k.rng id⟩
structure Ind(x i:De):Prop where
  s1:∀d,x.co.dst=some d->d∉i.co.slots
  s2:∀d,x.co.dst=some d->i.co.dst≠some d
  s3:∀d,i.co.dst=some d->d∉x.co.slots
  ss:x.k.simple=true->i.k.simple=true->(∀id∈i.k.rd,id∉x.k.wr.map (·.1))/\(∀id∈x.k.rd,id∉i.k.wr.map (·.1))/\∀id∈x.k.wr.map (·.1),id∉i.k.wr.map (·.1)
  sc:x.k.simple=true->∀o' f args q n h0,i.k= .cq o' f args q n h0->x.k.wr=[]/\∀id∈x.k.rd,h0.get id=q.h.get id
  cs:i.k.simple=true->∀o' f args q n h0,x.k= .cq o' f args q n h0->i.k.wr=[]/\∀id∈i.k.rd,h0.get id=q.h.get id
  cc:x.k.simple=true\/i.k.simple=true
theorem ziK{h:Hp}{id:Nat}:∀{l:List (Nat×Option Ob)},id∉l.map (·.1)->zbu h l id=h id
 |[],_=>rfl
 |(j,o)::l,hn=>by
  simp only[Z10,Z5,not_or]at hn;unfold zbu;rw[ziK hn.2,upd_ne _ _ _ hn.1]
theorem zr1{id:Nat}:∀{l:List (Nat×Option Ob)} {h g:Hp},h id=g id->zbu h l id=zbu g l id
 |[],_,_,he=>he
 |(j,o)::l,h,g,he=>by
  unfold zbu;refine zr1 ?_;simp only[upd,he]
theorem zxN{id:Nat}:∀{l:List (Nat×Option Ob)} {h g:Hp},id∈l.map (·.1)->zbu h l id=zbu g l id
 |[],_,_,hi=>by simp at hi
 |(j,o)::l,h,g,hi=>by
  unfold zbu
  by_cases hj:id=j
  .refine zr1 ?_;subst hj;simp
  .simp only[Z10,Z5,hj,false_or]at hi;exact zxN hi
def zDi{h:Hp}{l m:List (Nat×Option Ob)}(hd:∀id∈l.map (·.1),id∉m.map (·.1)):zbu (zbu h l) m=zbu (zbu h m) l:=by
  funext id
  by_cases h1:id∈l.map (·.1)
  . rw[ziK (hd id h1),zxN (g:=zbu h m) h1]
  . rw[ziK (l:=l) h1];refine zr1 ?_;exact ziK h1
def zCp{t:Tm}{x i:Option Nat}{d e:D}(h:∀j,x=some j->i≠some j):zeH (zeH t x d) i e=zeH (zeH t i e) x d:=by
 cases x with
 |none=>rfl
 |some j=>
  cases i with
  |none=>rfl
  |some k=>
   have hne:k≠j:=fun e=>h j rfl (by rw[e])
   funext m
   simp only[zeH,upd]
   by_cases h1:m=k<;>by_cases h2:m=j<;>simp[h1,h2]
   .exact absurd (h1.symm.trans h2) hne
   .intro e;exact absurd e hne
   .intro e;exact absurd e.symm hne
def zqU{t:Tm}{x:Option Nat}{d:D}{l:List Nat}(h:∀j,x=some j->j∉l):agree (zeH t x d) t l:=by
 intro n hn;cases x with
 |none=>rfl
 |some j=>
  have:n≠j:=fun e=>h j rfl (e▸hn)
  simp[zeH,upd,this]
def zBe{t t':Tm}{co:Op}(h:agree t t' co.slots):zf6 t co.gd=zf6 t' co.gd:=by
 cases hg:co.gd with
 |none=>rfl
 |some p=>
  obtain⟨s,b⟩ :=p;have:t s=t' s:=h s (by simp[Op.slots,hg]);simp only[zf6,this]
def zCu{t t':Tm}{co:Op}(h:agree t t' co.slots):co.o.res (zcy t)=co.o.res (zcy t'):=
 zBp fun n hn=>h n (by simp[Op.slots,hn])
def Kd.zpC{cl:Cl}{k:Kd}{co:Op}{σ τ:Sg}(hp:k.pre cl co σ)(ht:agree σ.tm τ.tm co.slots)(hr:∀id∈k.rd,τ.h id=σ.h id)(hq:k.simple=false->τ.h=σ.h):k.pre cl co τ:=by
 have h1:=zBe ht;have h2:=zCu ht;cases k with
 |sk=>simp only[Kd.pre]at hp|-;rw[<-h1];exact hp
 |nm o' r n=>
  simp only[Kd.pre]at hp|-;rw[<-h1,<-h2];exact⟨hp.1,hp.2.1,hp.2.2.1,zCo hp.2.2.2 hr⟩
 |cp o' f args r n=>
  simp only[Kd.pre]at hp|-;rw[<-h1,<-h2];exact⟨hp.1,hp.2.1,hp.2.2.1,zwh hp.2.2.2 hr⟩
 |cq o' f args q n h0=>
  simp only[Kd.pre]at hp|-;rw[<-h1,<-h2,hq rfl];exact hp
def Kd.zdN{k:Kd}(hs:k.simple=true)(h:Hp):k.hp h=zbu h k.wr:=by
 cases k<;>simp[Kd.simple]at hs<;>rfl
def Kd.ziS{k:Kd}(hs:k.simple=false):∃o' f args q n h0,k= .cq o' f args q n h0:=by
 cases k<;>simp[Kd.simple]at hs;exact⟨_,_,_,_,_,_,rfl⟩
def Stp.swap{cl:Cl}{x i:De}(hi:Ind x i){σ σ1 σ2:Sg}(s1:Stp cl x σ σ1)(s2:Stp cl i σ1 σ2):∃σ1',Stp cl i σ σ1'/\Stp cl x σ1' σ2:=by
 obtain⟨f1,p1,rfl⟩ :=s1;obtain⟨f2,p2,rfl⟩ :=s2;simp only at f2;have fi:∀id,i.k.rng id->¬σ.U id:=fun id h1 h2=>f2 id h1 (.inl h2)
 have fx:∀id,x.k.rng id->¬(σ.U id\/i.k.rng id):=fun id h1 h2=>h2.elim (f1 id h1) fun h3=>f2 id h3 (.inr h1)
 have ti:∀h U h' U',agree (Sg.mk (zeH σ.tm x.co.dst x.k.d) h U).tm (Sg.mk σ.tm h' U').tm i.co.slots:=fun _ _ _ _=>zqU hi.s1
 have tx:∀h U h' U',agree (Sg.mk σ.tm h U).tm (Sg.mk (zeH σ.tm i.co.dst i.k.d) h' U').tm x.co.slots:=fun _ _ _ _ n hn=>(zqU (t:=σ.tm) (d:=i.k.d) hi.s3 n hn).symm
 have hU:(fun id=>(σ.U id\/x.k.rng id)\/i.k.rng id)=fun id=>(σ.U id\/i.k.rng id)\/x.k.rng id:=by
  funext id
  exact propext ⟨fun h=>by rcases h with(h|h)|h<;>simp[h],fun h=>by rcases h with(h|h)|h<;>simp[h]⟩
 refine⟨⟨zeH σ.tm i.co.dst i.k.d,i.k.hp σ.h,fun id=>σ.U id\/i.k.rng id⟩,⟨fi,?_,rfl⟩,⟨fx,?_,?_⟩⟩
 ·
  refine Kd.zpC p2 (ti _ _ _ _) ?_ ?_
  .intro id hid;simp only
   by_cases hx:x.k.simple=true
   .rw[Kd.zdN hx]
    by_cases hs:i.k.simple=true
    .exact (ziK ((hi.ss hx hs).1 id hid)).symm
    .obtain⟨o',f,args,q,n,h0,he⟩ :=Kd.ziS (by simpa using hs);rw[he]at hid;simp[Kd.rd]at hid
   .obtain⟨o',f,args,q,n,h0,he⟩ :=Kd.ziS (by simpa using hx);have hs:i.k.simple=true:=hi.cc.resolve_left hx;have hp:=p1;rw[he]at hp;simp only[Kd.pre]at hp;rw[he,<-hp.2.2.2.2];exact (hi.cs hs _ _ _ _ _ _ he).2 id hid
  .intro hs;obtain⟨o',f,args,q,n,h0,he⟩ :=Kd.ziS hs;have hx:x.k.simple=true:=hi.cc.resolve_right (by simp[hs]);simp only;rw[Kd.zdN hx,(hi.sc hx _ _ _ _ _ _ he).1];rfl
 ·
  refine Kd.zpC p1 (tx _ _ _ _) ?_ ?_
  .intro id hid;simp only
   by_cases hs:i.k.simple=true
   .rw[Kd.zdN hs]
    by_cases hx:x.k.simple=true
    .exact ziK ((hi.ss hx hs).2.1 id hid)
    .obtain⟨o',f,args,q,n,h0,he⟩ :=Kd.ziS (by simpa using hx);rw[he]at hid;simp[Kd.rd]at hid
   .obtain⟨o',f,args,q,n,h0,he⟩ :=Kd.ziS (by simpa using hs);have hx:x.k.simple=true:=hi.cc.resolve_right hs;have hp:=p2;rw[he]at hp;simp only[Kd.pre]at hp;have h0e:=hp.2.2.2.2;rw[Kd.zdN hx,(hi.sc hx _ _ _ _ _ _ he).1]at h0e;have:=(hi.sc hx _ _ _ _ _ _ he).2 id hid;rw[he];simp only[Kd.hp];rw[<-this,h0e];rfl
  .intro hs;obtain⟨o',f,args,q,n,h0,he⟩ :=Kd.ziS hs;have hi':i.k.simple=true:=hi.cc.resolve_left (by simp[hs]);simp only;rw[Kd.zdN hi',(hi.cs hi' _ _ _ _ _ _ he).1];rfl
 .simp only[Sg.mk.injEq];refine⟨zCp hi.s2,?_,hU⟩
  by_cases hx:x.k.simple=true
  .by_cases hs:i.k.simple=true
   .rw[Kd.zdN hx,Kd.zdN hs,Kd.zdN hs,Kd.zdN hx];exact zDi (hi.ss hx hs).2.2
   .obtain⟨o',f,args,q,n,h0,he⟩ :=Kd.ziS (by simpa using hs);rw[Kd.zdN hx (i.k.hp σ.h),(hi.sc hx _ _ _ _ _ _ he).1,he];rfl
  .obtain⟨o',f,args,q,n,h0,he⟩ :=Kd.ziS (by simpa using hx);have hs:i.k.simple=true:=hi.cc.resolve_left hx;rw[Kd.zdN hs,(hi.cs hs _ _ _ _ _ _ he).1,he];rfl
def Exec(cl:Cl):List De->Sg->Sg->Prop
 |[],σ,τ=>τ=σ
 |e::l,σ,τ=>∃σ',Stp cl e σ σ'/\Exec cl l σ' τ
theorem Exec.front{cl:Cl}{i:De}{B:List De}{τ:Sg}:∀{A:List De} {σ:Sg},(∀x∈A,Ind x i)->Exec cl (A++i::B) σ τ->Exec cl (i::(A++B)) σ τ
 |[],_,_,h=>h
 |x::A,σ,hi,h=>by
  obtain⟨σ1,s1,h1⟩ :=h;obtain⟨σ2,s2,h2⟩ :=Exec.front (A:=A) (fun y hy=>hi y (by simp[hy])) h1;obtain⟨σ1',t1,t2⟩ :=s1.swap (hi x (by simp)) s2;exact⟨σ1',t1,σ2,t2,h2⟩
end Go.Vse
end
