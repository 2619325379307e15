/- The evaluator and its soundness. Conditions: none. -/
import Derived.Test.YtdlcolcidohbkaaGreatDoorVa
import Derived.Laws.Append
import Derived.IntWalk
import Derived.Laws.AppendOwn
set_option linter.all false
section
namespace Go.Vse
variable [Globs]
open Go.RowKit
section
variable {P:Program}{w:World}{amb:Mu}{h:Hp}{ρ:Nat->Option Nat}{c:Nat->Prop}
theorem Post.row(s:Sim amb w.heap h ρ c){n:Nat}(hn:¬c n){es:Nat}{els:List (List D)}(hel:∀e∈els,e.length=es){vs rest:List Value}
  (hr:zaq w.heap (zal amb h ρ) ρ c els.flatten vs)(hone:∀u∈vs,u.oneCell'=true){elem:TypeId}{fr:Nat×Nat}
  (hfr:zgX fr (vs++rest).length els){w':World}(hb:Base w w')(hH:w'.heap=w.heap.push (.cells ⟨vs++rest⟩ elem fr))
  (ro:Nat)(rd:List Nat){d:D}{v:Value}
  (hd:∀H' μ' ρ' (c':Nat->Prop),c' n->ρ' n=some w.heap.size->zcZ H' w.heap.size=some (elem,(vs++rest).length)->Rel H' μ' ρ' c' d v):
  Post amb w h ρ c n {d,rd,wr:=[(n,some (.arr es ro els))],c:=n+1} v w':=by
 obtain⟨h1,h2⟩ :=s.newRow hn (ro:=ro) hel hr hone elem fr hfr (fun id=>id∈[(n,some (Ob.arr es ro els))].map (·.1)) hH;refine Post.mk1 rfl hb (ρ':=upd ρ n (some w.heap.size)) ?_ h1 h2;refine hd _ _ _ _ (.inr rfl) (by simp) ?_;unfold zcZ;rw[hH];simp
def zPO{H:Array Obj}{μ:Mu}{ρ:Nat->Option Nat}{c:Nat->Prop}{n b es i j:Nat}(hc:c n)(hb:ρ n=some b):Rel H μ ρ c (.ptr n es i j) (.pointer (some ⟨b,i*es+j,none⟩)):=by
 simp only[Rel];exact⟨hc,_,rfl,fun b' hb'=>by rw[hb]at hb';cases hb';rfl⟩
theorem ztt{H:Array Obj}{μ:Mu}{ρ:Nat->Option Nat}{c:Nat->Prop}{n b es len cap lim:Nat}{ex:Bool}(hcn:c n)(hb:ρ n=some b){e:TypeId}{m:Nat}(hs:zcZ H b=some (e,m))
  (hc:cap*es<=m)(h1:len<=cap)(h2:lim<=cap)(h3:ex=true->lim=cap):Rel H μ ρ c (.sl n 0 len es lim ex) (.slice (some ⟨b,0,none⟩) len cap):=by
 simp only[Rel];refine⟨hcn,_,_,rfl,h1,by omega,fun e=>by rw[h3 e];omega,fun b' hb'=> ?_⟩;rw[hb]at hb';cases hb';exact⟨fun _=>by rw[Z109],e,m,hs,by rw[Z25];exact hc⟩
def flat1{α:Type}(cs:List α):[cs].flatten=cs:=by simp
theorem zve(s:Sim amb w.heap h ρ c){n:Nat}(hn:¬c n){cs:List D}{vs:List Value}(hr:zaq w.heap (zal amb h ρ) ρ c cs vs)(hone:∀u∈vs,u.oneCell'=true)(elem:TypeId):
  Post amb w h ρ c n {d:= .ptr n cs.length 0 0,wr:=[(n,some (.arr cs.length 0 [cs]))],c:=n+1} (.pointer (some ⟨w.heap.size,0,none⟩))
   {w with heap:=w.heap.push (.cells ⟨vs⟩ elem)}:=by
 refine Post.row s hn (es:=cs.length) (els:=[cs]) (rest:=[]) (elem:=elem) (fr:=(0,0)) (w':={w with heap:=w.heap.push (.cells ⟨vs⟩ elem)}) (fun e he=>by simp at he;rw[he]) (by rw[flat1];exact hr) hone (zgX.zero _ _) ⟨rfl,rfl,rfl,Z2 _⟩ (by rw[Z22]) 0 [] fun H' μ' ρ' c' hcn hb _=> ?_
 have:=zPO (H:=H') (μ:=μ') (es:=cs.length) (i:=0) (j:=0) hcn hb;simpa using this
theorem zJ3(s:Sim amb w.heap h ρ c){n:Nat}(hn:¬c n){d:D}{u:Value}{cs:List D}(hx:Rel w.heap (zal amb h ρ) ρ c d u)(hc:d.cells=some cs)(elem:TypeId):
  ∃v w',(Instr.box elem u).run P w= .ok v w'/\
   Post amb w h ρ c n {d:= .ptr n cs.length 0 0,wr:=[(n,some (.arr cs.length 0 [cs]))],c:=n+1} v w':=by
 obtain⟨h1,h2⟩ :=hx.cells hc;exact⟨_,_,by simp[Instr.box,newVar,newRow],zve s hn h1 h2 elem⟩
def zgo{t:TypeId}{i:TypeInfo}{v:Value}(hi:P.info? t=some i)(hv:i.zero=some v):(zeroValue t).run P w= .ok v w:=by
 simp[zeroValue,zhh hi,hv]
theorem zKr(s:Sim amb w.heap h ρ c){n:Nat}(hn:¬c n){t:TypeId}{z:List F}(hz:zeroCells P t=some z):
  ∃v w',(Instr.alloc t true (.tuple #[])).run P w= .ok v w'/\
   Post amb w h ρ c n {d:= .ptr n z.length 0 0,wr:=[(n,some (.arr z.length 0 [z.map D.f]))],c:=n+1} v w':=by
 obtain⟨i,v,hi,hv,h1,h2⟩ :=zd6 (H:=w.heap) (μ:=zal amb h ρ) hz;have:=zve s hn (zaM.toL h1) h2 t;simp only[Z18]at this;exact⟨_,_,by simp[Instr.alloc,zgo hi hv,newVar,newRow],this⟩
theorem zsj(off:Nat):∀(l:List Value) (k:Nat) (cells:Array Value),off+k+l.length<=cells.size->
  ((l.zipIdx k).foldl (fun cs (x:Value×Nat)=>cs.setIfInBounds (off+x.2) x.1) cells).toList=
   cells.toList.take (off+k)++l++cells.toList.drop (off+k+l.length)
 |[],k,cells,hl=>by simp
 |v::l,k,cells,hl=>by
  simp only[Z23]at hl;simp only[List.zipIdx_cons,Z42];have ih:=zsj off l (k+1) (cells.setIfInBounds (off+k) v) (by simp;omega);rw[ih];have e1:(cells.setIfInBounds (off+k) v).toList=cells.toList.take (off+k)++v::cells.toList.drop (off+k+1):=by
   rw[Array.toList_setIfInBounds,Z191,Z51 (by simp;omega)]
  rw[e1];have hlen:(cells.toList.take (off+k)).length=off+k:=by simp;omega
  rw[Z204,hlen,Z167,hlen,Z11 (by omega),Z24 (l:=cells.toList.take (off+k)) (by omega)];rw[show off+(k+1) - (off+k)=1 by omega,show off+(k+1)+l.length - (off+k)=l.length+1 by omega];simp only[Z180,Z173,List.drop_succ_cons,Z175,Z28,Z32,Z29,Z23]
  congr 4
  omega
theorem zpH{H:Array Obj}{μ:Mu}(place:Nat->Option (Nat×Nat)):∀(ps:List (Nat×Nat×D)) (qs:List (Nat×Value)) (cells:List D) (vc:Array Value) (cells':List D),
  qs.length=ps.length->(∀(k:Nat) p q,ps[k]? =some p->qs[k]? =some q->place q.1=some (p.1,p.2.1)/\Rel H μ ρ c p.2.2 q.2)->
  zaq H μ ρ c cells vc.toList->(∀u∈vc.toList,u.oneCell'=true)->zdH cells ps=some cells'->
  ∃vc',Instr.fill place vc qs=some vc'/\zaq H μ ρ c cells' vc'.toList/\(∀u∈vc'.toList,u.oneCell'=true)/\cells'.length=cells.length
 |[],qs,cells,vc,cells',hl,_,hr,ho,hf=>by
  have:qs=[]:=by simpa using hl
  subst this;simp[zdH]at hf;subst hf;exact⟨vc,rfl,hr,ho,rfl⟩
 |(off,n,d)::ps,[],cells,vc,cells',hl,_,hr,ho,hf=>by simp at hl
 |(off,n,d)::ps,(i,v)::qs,cells,vc,cells',hl,hp,hr,ho,hf=>by
  obtain⟨hpl,hrel⟩ :=hp 0 _ _ rfl rfl;simp only at hpl hrel;unfold zdH at hf;split at hf
  .rename_i cs hcs;split at hf
   .rename_i hn;split at hf
    .rename_i c1 hov;obtain⟨q1,q2⟩ :=hrel.cells hcs;have hvl:v.cells.size=n:=by rw[<-Z72,q1.len,hn]
     unfold over at hov;split at hov
     .rename_i hle;simp at hov;have hsz:vc.size=cells.length:=by rw[<-Z72,hr.len]
      have hfold:(v.cells.zipIdx.foldl (fun cs (x:Value×Nat)=>cs.setIfInBounds (off+x.2) x.1) vc).toList=
        vc.toList.take off++v.cells.toList++vc.toList.drop (off+n):=by
       have:=zsj off v.cells.toList 0 vc (by simp[hvl];omega);simp only[Z111,Z72,hvl]at this;rw[<-this,<-Z190,Array.toList_zipIdx]
      generalize hvc:v.cells.zipIdx.foldl (fun cs (x:Value×Nat)=>cs.setIfInBounds (off+x.2) x.1) vc=vc1 at hfold;have hlen1:c1.length=cells.length:=by rw[<-hov];simp;omega
      obtain⟨vc',r1,r2,r3,r4⟩ :=zpH place ps qs c1 vc1 cells' (by simpa using hl) (fun k p q hk hq=>hp (k+1) p q (by simpa using hk) (by simpa using hq))
       (by rw[hfold,<-hov,<-hn,<-Z32];exact ((hr.take off).app q1).app (by rw[hn];exact hr.drop (off+n)))
       (by
        intro u hu;rw[hfold]at hu;simp only[Z4]at hu;rcases hu with(hu|hu)|hu
        .exact ho u (Z13 hu)
        .exact q2 u hu
        .exact ho u (Z21 hu)) hf
      refine⟨vc',?_,r2,r3,r4.trans hlen1⟩;have hno:¬((decide (v.cells.size≠n)||decide (off+v.cells.size>vc.size))=true):=by
       simp[hvl];omega
      unfold Instr.fill;simp only[hpl];rw[Z49 hno];rw[<-r1,<-hvc]
     .simp at hov
    .simp at hf
   .simp at hf
  .simp at hf
theorem zqm{es:Nat}:∀(ps:List (Nat×D)) (els els':List (List D)),(∀e∈els,e.length=es)->zee es els ps=some els'->
  zdH els.flatten (ps.map fun p=>(p.1*es,es,p.2))=some els'.flatten/\(∀e∈els',e.length=es)/\els'.length=els.length
 |[],els,els',hl,hf=>by
  simp[zee]at hf;subst hf;exact⟨by simp[zdH],hl,rfl⟩
 |(i,d)::ps,els,els',hl,hf=>by
  unfold zee at hf;split at hf
  .rename_i cs hcs;split at hf
   .rename_i hc;obtain⟨hcl,hi⟩ :=hc;have hel:els[i]? =some els[i]:=by simp[hi]
    have hov:over els[i] 0 cs=some cs:=by
     have:els[i].length=es:=hl _ (Z1 hi);unfold over;rw[Z51 (by omega)];simp;omega
    obtain⟨h1,_,_⟩ :=zsA hl hel hov;have hl':∀e∈els.set i cs,e.length=es:=by
     intro e he;rcases Z156 he with he|he
     .exact hl e he
     .subst he;exact hcl
    obtain⟨q1,q2,q3⟩ :=zqm ps _ els' hl' hf;refine⟨?_,q2,by simpa using q3⟩;have hlen:=za5 hl;have hle:i*es+es<=els.length*es:=by
     have:=Z9 es (show i+1<=els.length by omega);rw[Z35,Z177]at this;exact this
    simp only[Z10,zdH,hcs,hcl,Z60];have:over els.flatten (i*es) cs=some (els.set i cs).flatten:=by
     unfold over;rw[Z51 (by omega),h1];simp
    rw[this];exact q1
   .simp at hf
  .simp at hf
theorem run_places{fs:Array Field}(hall:∀f∈fs,∃i,P.info? f.type=some i):
  (fs.mapM fun f=>(do pure (f.offset,<-sizeOf f.type):Sem (Nat×Nat))).run P w= .ok (fs.map fun f=>(f.offset,(zaO P f.type).getD 0)) w:=by
 have key:∀(l:List Field),(∀f∈l,∃i,P.info? f.type=some i)->
   (l.mapM fun f=>(do pure (f.offset,<-sizeOf f.type):Sem (Nat×Nat))).run P w= .ok (l.map fun f=>(f.offset,(zaO P f.type).getD 0)) w:=by
  intro l
  induction l with
  |nil=>intro _;simp
  |cons f l ih=>
   intro hl;obtain⟨i,hi⟩ :=hl f (by simp);have hs:zaO P f.type=some i.size:=by simp[zaO,hi]
   simp only[List.mapM_cons,Sem.run_bind,za9 hs,Result.andThen_ok,Sem.run_pure,ih fun x hx=>hl x (by simp[hx])];simp[hs]
 rw[Array.mapM_eq_mapM_toList];simp only[Sem.run_map,key fs.toList fun f hf=>hall f (by simpa using hf),Result.andThen_ok]
 congr 1
 apply Z104;simp
end
end Go.Vse
end
section
namespace Go.Vse
variable [Globs]
open Go.RowKit
section
variable {P:Program}{w:World}{amb:Mu}{h:Hp}{ρ:Nat->Option Nat}{c:Nat->Prop}
theorem zJ1{t:TypeId}{z:List F}(hz:zeroCells P t=some z)(place:Nat->Option (Nat×Nat))(ps:List (Nat×Nat×D))(qs:Array (Nat×Value)){cs:List D}
  (hl:qs.toList.length=ps.length){H:Array Obj}{μ:Mu}
  (hp:∀(k:Nat) p q,ps[k]? =some p->qs.toList[k]? =some q->place q.1=some (p.1,p.2.1)/\Rel H μ ρ c p.2.2 q.2)(hf:zdH (z.map D.f) ps=some cs)
  (hpl:(∃fs,P.underlying t=some (.struct fs)/\(∀f∈fs,∃i,P.info? f.type=some i)/\∀i:Nat,place i=(fs[i]?).map fun f=>(f.offset,(zaO P f.type).getD 0))\/
   ∃m e n,P.underlying t=some (.array m e)/\zaO P e=some n/\∀i,place i=some (i*n,n)):
  ∃v,(Instr.build t qs).run P w= .ok v w/\Rel H μ ρ c (.ag cs) v:=by
 obtain⟨i,zv,hi,hv,h1,h2⟩ :=zd6 (H:=H) (μ:=μ) hz;obtain⟨vc',r1,r2,r3,_⟩ :=zpH place ps qs.toList (z.map D.f) zv.cells cs hl hp (zaM.toL h1) h2 hf;refine⟨.agg vc',?_,by simp only[Rel];exact⟨vc'.toList,rfl,r3,r2⟩⟩;rcases hpl with⟨fs,hu,hall,hpl⟩ |⟨m,e,n,hu,hn,hpl⟩
 .have he:(fun i:Nat=>(fs.map fun f=>(f.offset,(zaO P f.type).getD 0))[i]?)=place:=by
   funext i
   rw[hpl i,Array.getElem?_map]
  have hpm:=run_places (P:=P) (w:=w) hall;simp only[Instr.build,Sem.run_bind,zgo hi hv,Result.andThen_ok,zax hu];rw[hpm];simp only[Result.andThen_ok];rw[he,r1];simp
 .have he:(fun i:Nat=>some (i*n,n))=place:=by funext i;rw[hpl i]
  simp only[Instr.build,Sem.run_bind,zgo hi hv,Result.andThen_ok,zax hu,za9 hn];rw[he,r1];simp
def zjL(z:Array Value)(m:Nat)(hz:z.size≠0):((Array.range (m*z.size)).map (fun i=>z[i%z.size]!)).toList=(List.replicate m z.toList).flatten:=by
 have hl:∀e∈List.replicate m z.toList,e.length=z.size:=by
  intro e he;rw[(Z98.1 he).2];simp
 apply Z107;intro k;simp only[Z148,Array.toList_range,Z36]
 by_cases hk:k<m*z.size
 .have hkm:k%z.size<z.size:=Z124 _ (by omega);have hi:k/z.size<m:=Nat.div_lt_of_lt_mul (by rw[Nat.mul_comm];exact hk);have:=flat_get hl (i:=k/z.size) (j:=k%z.size) (e:=z.toList) (d:=z[k%z.size]) (by simp[hi]) (by simp[hkm]);rw[Nat.mul_comm,Nat.div_add_mod]at this;rw[this];simp[hk,hkm]
 .have hfl:=za5 hl;rw[Z97 (l:=(List.replicate m z.toList).flatten) (by rw[hfl];simp;omega)];simp[hk]
theorem zfA{H:Array Obj}{μ:Mu}{z:List F}{zv:List Value}(hz:zaM H μ z zv):∀m:Nat,zaq H μ ρ c (List.replicate m (z.map D.f)).flatten (List.replicate m zv).flatten
 |0=>by simp[zaq]
 |m+1=>by
  simp only[Z181,Z91];exact (zaM.toL hz).app (zfA hz m)
def zgT{zv:List Value}(hz:∀u∈zv,u.oneCell'=true)(m:Nat):∀u∈(List.replicate m zv).flatten,u.oneCell'=true:=by
 intro u hu;obtain⟨l,hl,hu⟩ :=List.mem_flatten.1 hu;rw[(Z98.1 hl).2]at hu;exact hz u hu
theorem zvI(w:World){t e:TypeId}{es m:Nat}{z:List F}(hu:P.underlying t=some (.slice e))(hn:zaO P e=some es)(hz:zeroCells P e=some z)
  (h0:es≠0)(hzl:z.length=es)(hm:m*es<=16777216)(ps:List (Nat×D))(qs:Array (Nat×Value)){els:List (List D)}(hl:qs.toList.length=ps.length)
  (hp:∀(k:Nat) p q,ps[k]? =some p->qs.toList[k]? =some q->q.1=p.1/\Rel w.heap (zal amb h ρ) ρ c p.2 q.2)(hf:zee es (List.replicate m (z.map D.f)) ps=some els):
  ∃vc',(Instr.buildSlice t m qs).run P w= .ok (.slice (some ⟨w.heap.size,0,none⟩) m m) {w with heap:=w.heap.push (.cells vc' e)}/\
   zaq w.heap (zal amb h ρ) ρ c els.flatten vc'.toList/\(∀u∈vc'.toList,u.oneCell'=true)/\(∀x∈els,x.length=es)/\els.length=m/\vc'.toList.length=m*es:=by
 obtain⟨i,zv,hi,hv,h1,h2⟩ :=zd6 (H:=w.heap) (μ:=zal amb h ρ) hz;have hzs:zv.cells.size=es:=by rw[<-Z72,h1.len,hzl]
 have hl0:∀x∈List.replicate m (z.map D.f),x.length=es:=by
  intro x hx;rw[(Z98.1 hx).2];simpa using hzl
 obtain⟨q1,q2,q3⟩ :=zqm ps _ els hl0 hf;have hcl:((Array.range (m*es)).map (fun i=>zv.cells[i%zv.cells.size]!)).toList=(List.replicate m zv.cells.toList).flatten:=by
  rw[<-hzs];exact zjL _ m (by omega)
 obtain⟨vc',r1,r2,r3,r4⟩ :=zpH (fun i=>some (i*es,es)) (ps.map fun p=>(p.1*es,es,p.2)) qs.toList (List.replicate m (z.map D.f)).flatten
  ((Array.range (m*es)).map (fun i=>zv.cells[i%zv.cells.size]!)) els.flatten (by simpa using hl)
  (fun k p q hk hq=>by
   rw[Z36]at hk;cases hpk:ps[k]? with
   |none=>simp[hpk]at hk
   |some p'=>
    simp[hpk]at hk;subst hk;obtain⟨e1,e2⟩ :=hp k p' q hpk hq;exact⟨by simp[e1],e2⟩)
  (by rw[hcl];exact zfA h1 m) (by rw[hcl];exact zgT h2 m) q1
 have hvl:vc'.toList.length=m*es:=by
  rw[r2.len,za5 q2,q3];simp
 refine⟨vc',?_,r2,r3,q2,by rw[q3];simp,hvl⟩;have hle:¬(m*es>2 ^ 24):=by simp;omega
 by_cases hm0:m=0
 .subst hm0;have hv0:vc'= #[]:=by apply Z104;simpa using hvl
  have hq:Instr.fill (fun i=>some (i*es,es)) ((Array.range (0*es)).map (fun i=>(#[]:Array Value)[i%(#[]:Array Value).size]!)) qs.toList=some vc':=by
   rw[<-r1];simp[show Array.range 0= #[]from rfl]
  simp[Instr.buildSlice,zax hu,za9 hn];simp at hq;rw[hq];simp[newRow]
 .have hne:m*es≠0:=Z168 hm0 h0;simp only[Instr.buildSlice,Sem.run_bind,zax hu,Result.andThen_ok,za9 hn,hle,Z63,hne,zgo hi hv,Sem.run_ite,Sem.run_pure];rw[r1];simp[newRow]
theorem zxt(s:Sim amb w.heap h ρ c){n:Nat}(hcn:¬c n){t e:TypeId}{es m:Nat}{z:List F}(hu:P.underlying t=some (.slice e))(hn:zaO P e=some es)(hz:zeroCells P e=some z)
  (h0:es≠0)(hzl:z.length=es)(hm:m*es<=16777216)(ps:List (Nat×D))(qs:Array (Nat×Value)){els:List (List D)}(hl:qs.toList.length=ps.length)
  (hp:∀(k:Nat) p q,ps[k]? =some p->qs.toList[k]? =some q->q.1=p.1/\Rel w.heap (zal amb h ρ) ρ c p.2 q.2)(hf:zee es (List.replicate m (z.map D.f)) ps=some els):
  ∃v w',(Instr.buildSlice t m qs).run P w= .ok v w'/\Post amb w h ρ c n {d:= .sl n 0 m es m true,wr:=[(n,some (.arr es 0 els))],c:=n+1} v w':=by
 obtain⟨vc',r1,r2,r3,q2,q3,hvl⟩ :=zvI (P:=P) w hu hn hz h0 hzl hm ps qs hl hp hf;refine⟨_,_,r1,?_⟩;refine Post.row s hcn (es:=es) (els:=els) (vs:=vc'.toList) (rest:=[]) (elem:=e) (fr:=(0,0)) (w':={w with heap:=w.heap.push (.cells vc' e)}) q2 r2 r3
   (zgX.zero _ _) ⟨rfl,rfl,rfl,Z2 _⟩ (by rw[Z22]) 0 [] fun H' μ' ρ' c' hc' hb hsh=> ?_
 exact ztt hc' hb hsh (by simp[hvl]) (Z2 _) (Z2 _) (fun _=>rfl)
theorem zqr:∀{l:List D} {m:List F},zdx l=some m->l=m.map D.f
 |[],m,h=>by simp[zdx]at h;subst h;rfl
 | .f x::l,m,h=>by
  simp only[zdx]at h;split at h
  .rename_i m' hm';simp only[Z45]at h;subst h;rw[zqr hm'];rfl
  .simp at h
 | .ag _::_,m,h| .tu _::_,m,h| .sl .. ::_,m,h| .ptr .. ::_,m,h| .fptr _::_,m,h| .mp _::_,m,h| .fn .. ::_,m,h=>by simp[zdx]at h
theorem zsk:∀{l:List (List D)} {m:List (List F)},zeQ l=some m->l=m.map (·.map D.f)
 |[],m,h=>by simp[zeQ]at h;subst h;rfl
 |x::l,m,h=>by
  simp only[zeQ]at h;split at h
  .simp at h
  .rename_i y hy;split at h
   .rename_i m' hm';simp only[Z45]at h;subst h;rw[zqr hy,zsk hm'];rfl
   .simp at h
theorem zaq.fz{H:Array Obj}{μ:Mu}:∀{l:List F} {vs:List Value},zaq H μ ρ c (l.map D.f) vs->zaM H μ l vs
 |[],vs,h=>by simp only[Z85,zaq]at h;simp only[zaM];exact h
 |x::l,vs,h=>by
  simp only[Z10,zaq,Rel]at h;obtain⟨v,m,e,h1,h2⟩ :=h;simp only[zaM];exact⟨v,m,e,h1,zaq.fz h2⟩
theorem zvi{H:Array Obj}{μ:Mu}{b:Nat}:∀(l:List F) (o:Nat) (vs:List Value),zaM H μ l vs->(∀(k:Nat) v,vs[k]? =some v->zbn H b (o+k)=some v/\¬μ b (o+k)/\v.oneCell'=true)->za1 H μ b o l
 |[],_,_,_,_=>by simp only[za1]
 |x::l,o,vs,h,hv=>by
  simp only[zaM]at h;obtain⟨v,m,rfl,h1,h2⟩ :=h;simp only[za1];have h0:=hv 0 v (by simp);refine⟨⟨h0.2.1,v,h0.1,h0.2.2,h1⟩,zvi l (o+1) m h2 fun k u hk=> ?_⟩;have:=hv (k+1) u (by simpa using hk)
  rwa[show o+(k+1)=o+1+k by omega]at this
theorem zoT{H:Array Obj}{μ:Mu}:∀(a b:List F) (vs:List Value),zaM H μ (a++b) vs->∃us ws,vs=us++ws/\zaM H μ a us/\zaM H μ b ws
 |[],b,vs,h=>⟨[],vs,rfl,by simp only[zaM],h⟩
 |x::a,b,vs,h=>by
  simp only[Z29,zaM]at h;obtain⟨v,m,rfl,h1,h2⟩ :=h;obtain⟨us,ws,rfl,h3,h4⟩ :=zoT a b m h2;exact⟨v::us,ws,rfl,by simp only[zaM];exact⟨v,us,rfl,h1,h3⟩,h4⟩
theorem zvl{H:Array Obj}{μ:Mu}{b es:Nat}:∀(l:List (List F)) (o:Nat) (vs:List Value),(∀x∈l,x.length=es)->zaM H μ l.flatten vs->
  (∀(k:Nat) v,vs[k]? =some v->zbn H b (o+k)=some v/\¬μ b (o+k)/\v.oneCell'=true)->zb7 H μ b es o l
 |[],_,_,_,_,_=>by simp only[zb7]
 |x::l,o,vs,hl,h,hv=>by
  simp only[Z91]at h;obtain⟨us,ws,rfl,h1,h2⟩ :=zoT _ _ _ h;have hx:x.length=es:=hl x (by simp);have hus:us.length=es:=by rw[h1.len,hx]
  simp only[zb7];refine⟨hx,zvi x o us h1 fun k v hk=>hv k v ?_,zvl l (o+es) ws (fun y hy=>hl y (by simp[hy])) h2 fun k v hk=> ?_⟩
  .rw[Z54]
   .exact hk
   .exact (Z8.1 hk).1
  .have:=hv (es+k) v (by rw[Z62 (by omega),hus,Nat.add_sub_cancel_left];exact hk)
   rwa[<-Z82]at this
def Sim.grown{H H':Array Obj}(s:Sim amb H h ρ c)(hs:H.size<=H'.size)(hb:∀b,b<H.size->H'[b]? =H[b]?)(W:Nat->Prop):Sim amb H' h ρ c/\Evo amb W H h ρ c H' h ρ c:=by
 have hcell:∀b o v,zbn H b o=some v->zbn H' b o=some v:=by
  intro b o v hv;have:=zuq hv;unfold zbn at hv|-;rw[hb b this];exact hv
 have hkeep:Keep H (zal amb h ρ) ρ c H' (zal amb h ρ) ρ c:=by
  refine⟨fun b o v hm hv=>⟨hcell b o v hv,hm⟩,fun _ _ _ hx=>hx,fun b x hx=> ?_,fun _ hx=>hx⟩;have hlt:b<H.size:=by
   unfold zcZ at hx;rcases Z145 b H.size with h'|h'
   .exact h'
   .simp[Z119 h']at hx
  unfold zcZ at hx|-;rw[hb b hlt];exact hx
 refine⟨⟨fun id ob ho=> ?_,fun id b hr=>⟨Z15 (s.dom id b hr).1 hs,(s.dom id b hr).2⟩,s.inj,s.out,s.lt,fun b i hx=>Z15 (s.amb b i hx) hs,fun n cs hg=>za1.keep hkeep.cell _ _ _ (s.glob n cs hg)⟩,
  ⟨hkeep,hs,fun b hlt hn=>⟨hb b hlt,hn⟩,fun id _ _=>⟨rfl,rfl,fun b hr=>hb b (s.dom id b hr).1⟩,fun _ _ hx=>hx⟩⟩
 obtain⟨b,hr,hob⟩ :=s.obj id ob ho;exact⟨b,hr,hob.keep hkeep (hb b (s.dom id b hr).1)⟩
theorem zJ4(s:Sim amb w.heap h ρ c){n:Nat}{t e:TypeId}{es m:Nat}{z:List F}(hu:P.underlying t=some (.slice e))(hn:zaO P e=some es)(hz:zeroCells P e=some z)
  (h0:es≠0)(hzl:z.length=es)(hm:m*es<=16777216)(ps:List (Nat×D))(qs:Array (Nat×Value)){els:List (List D)}(hl:qs.toList.length=ps.length)
  (hp:∀(k:Nat) p q,ps[k]? =some p->qs.toList[k]? =some q->q.1=p.1/\Rel w.heap (zal amb h ρ) ρ c p.2 q.2)(hf:zee es (List.replicate m (z.map D.f)) ps=some els)
  {fs:List (List F)}(hfz:zeQ els=some fs):
  ∃v w',(Instr.buildSlice t m qs).run P w= .ok v w'/\Post amb w h ρ c n {d:= .f (.sl es fs),c:=n} v w':=by
 obtain⟨vc',r1,r2,r3,q2,q3,hvl⟩ :=zvI (P:=P) w hu hn hz h0 hzl hm ps qs hl hp hf;have he:=zsk hfz;refine⟨_,_,r1,?_⟩;have hsz:w.heap.size<=(w.heap.push (.cells vc' e)).size:=by simp
 have hold:∀b,b<w.heap.size->(w.heap.push (Obj.cells vc' e))[b]? =w.heap[b]? :=by
  intro b hb;rw[Array.getElem?_push_lt hb,Array.getElem?_eq_getElem hb]
 obtain⟨s2,e2⟩ :=s.grown hsz hold (fun _=>False);have hel:(els.flatten)=(fs.flatten).map D.f:=by
  rw[he]
  induction fs with
  |nil=>rfl
  |cons x l ih=>simp
 rw[hel]at r2;have hfl:zaM (w.heap.push (.cells vc' e)) (zal amb h ρ) fs.flatten vc'.toList:=zaM.keep e2.keep.cell _ _ (zaq.fz r2);have hlen:fs.length=m:=by rw[<-q3,he];simp
 refine Post.mk0 rfl ⟨rfl,rfl,rfl,Z2 _⟩ (ρ':=ρ) ?_ s2 (e2.mono fun _ _ h=>h.elim);simp only[Rel,zaj,zbu];refine⟨⟨w.heap.size,0,none⟩,m,by rw[hlen],by omega,w.heap.size,0,fun _=>rfl,?_⟩;refine zvl fs 0 vc'.toList (fun x hx=> ?_) hfl fun k v hk=> ?_
 .have:=q2 (x.map D.f) (by rw[he];exact Z12.2 ⟨x,hx,rfl⟩);simpa using this
 .refine⟨?_,?_,r3 v (Z39 hk)⟩
  .rw[zgg (cs:=vc') (e:=e) (fr:=(0,0)) (by simp),Z25];simpa using hk
  .rintro (hx|⟨id,ob,_,hx,_⟩)
   .have:=s.amb _ _ hx;omega
   .have:=(s.dom _ _ hx).1;omega
def zr7(n:Nat)(hn:n<=zav):IntKind.i64.wrap (n:Int)=n:=by
 unfold zav at hn;exact IntWalk.i64_in _ (by omega)
theorem zKo(s:Sim amb w.heap h ρ c){n:Nat}(hcn:¬c n){t e:TypeId}{es byt:Nat}{z:List F}(hu:P.underlying t=some (.slice e))(hn:zaO P e=some es)(hby:zgJ P e=some byt)
  (hz:zeroCells P e=some z)(h0:es≠0)(hzl:z.length=es)(kl km:IntKind)(l m:Nat)(hlm:l<=m)(hm:m<=zav)(hmb:m*byt<=zav):
  ∃v w',(Instr.makeSlice t (.int kl l) (.int km m)).run P w= .ok v w'/\
   Post amb w h ρ c n {d:= .sl n 0 l es m true,wr:=[(n,some (.arr es 0 (List.replicate m (z.map D.f))))],c:=n+1} v w':=by
 obtain⟨i,zv,hi,hv,h1,h2⟩ :=zd6 (H:=w.heap) (μ:=zal amb h ρ) hz;have hzs:zv.cells.size=es:=by rw[<-Z72,h1.len,hzl]
 have hib:i.bytes=byt:=by simp[zgJ,hi]at hby;exact hby
 have hl0:∀x∈List.replicate m (z.map D.f),x.length=es:=by
  intro x hx;rw[(Z98.1 hx).2];simpa using hzl
 have w1:=zr7 l (by omega);have w2:=zr7 m hm;have hlarge:∀n:Nat,n<=m->¬(((n:Int)<0||((byt:Int)*(n:Int)>2 ^ 48:Bool))=true):=by
  intro n hnm;have:byt*n<=zav:=by
   rw[Nat.mul_comm];exact Z3 (Z9 byt hnm) hmb
  unfold zav at this;simp only[Z115,Z86,not_or];refine⟨by omega,?_⟩;have h2:((byt*n:Nat):Int)<=((140737488355328:Nat):Int):=Int.ofNat_le.2 this;rw[Int.natCast_mul]at h2;omega
 have hcl:((Array.range (m*es)).map (fun i=>zv.cells[i%zv.cells.size]!)).toList=(List.replicate m zv.cells.toList).flatten:=by
  rw[<-hzs];exact zjL _ m (by omega)
 have hfl:((List.replicate m zv.cells.toList).flatten).length=m*es:=by
  rw[za5 (es:=es)]
  .simp
  .intro e he;rw[(Z98.1 he).2];simpa using hzs
 refine⟨.slice (some ⟨w.heap.size,0,none⟩) l m,{w with heap:=w.heap.push (.cells ⟨(List.replicate m zv.cells.toList).flatten⟩ e)},?_,?_⟩
 .have hcond:¬((((m:Int)<0||((byt:Int)*(m:Int)>2 ^ 48:Bool))||((l:Int)<0)||((l:Int)>(m:Int)))=true):=by
   have:=hlarge m (Z2 _);simp only[Z115,Z86,not_or]at this|-;exact⟨⟨this,by omega⟩,by omega⟩
  have hcells:(Array.range (m*es)).map (fun i=>zv.cells[i%zv.cells.size]!)=⟨(List.replicate m zv.cells.toList).flatten⟩ :=by
   apply Z104;rw[hcl]
  by_cases hm0:m=0
  .subst hm0;have hl00:l=0:=by omega
   subst hl00;simp[Instr.makeSlice,zax hu,asInt,asIntOf,zhh hi,za9 hn,newRow,IntKind.wrap,IntKind.bits,IntKind.signed,show Array.range 0= #[]from rfl]
  .have hne:m*es≠0:=Z168 hm0 h0;simp only[Instr.makeSlice,Sem.run_bind,zax hu,Result.andThen_ok,asInt,asIntOf,Sem.run_pure,zhh hi,hib,w1,w2,hcond,Z63,run_askRoom,za9 hn,
    Int.toNat_natCast,hne,zgo hi hv,Sem.run_ite,hcells,newRow,run_newObj]
   simp
 .refine Post.row s hcn (es:=es) (els:=List.replicate m (z.map D.f)) (vs:=(List.replicate m zv.cells.toList).flatten) (rest:=[]) (elem:=e) (fr:=(0,0))
   (w':={w with heap:=w.heap.push (.cells ⟨(List.replicate m zv.cells.toList).flatten⟩ e)}) hl0 (zfA h1 m) (zgT h2 m)
   (zgX.zero _ _) ⟨rfl,rfl,rfl,Z2 _⟩ (by rw[Z22]) 0 [] fun H' μ' ρ' c' hc' hb hsh=> ?_
  exact ztt hc' hb hsh (by rw[Z22,hfl];exact Z2 _) hlm (Z2 _) (fun _=>rfl)
end
end Go.Vse
end
section
namespace Go.Vse
variable [Globs]
open Go.RowKit
section
variable {P:Program}{w:World}{amb:Mu}{h:Hp}{ρ:Nat->Option Nat}{c:Nat->Prop}
def zvQ{H:Array Obj}{b:Nat}{cells:Array Value}{e:TypeId}{fr:Nat×Nat}(hb:H[b]? =some (.cells cells e fr)):zcZ H b=some (e,cells.size):=by
 unfold zcZ;rw[hb]
theorem zQL(s:Sim amb w.heap h ρ c){n:Nat}{t:TypeId}{sz:Nat}(hn:zaO P t=some sz){x v:D}{u uv:Value}{id:Nat}{ob:Ob}
    (hx:Rel w.heap (zal amb h ρ) ρ c x u)(hv:Rel w.heap (zal amb h ρ) ρ c v uv)(hs:zd7 sz h x v=some (id,ob)):
    ∃w',(Instr.storeAt t u uv).run P w= .ok () w'/\Post amb w h ρ c n {d:= .f .un,rd:=[id],wr:=[(id,some ob)],c:=n} undef w':=by
  unfold zd7 at hs;split at hs
  . rename_i id' es i j;split at hs
    . rename_i es' ro els ho;split at hs
      . rename_i hc;obtain⟨rfl,hro⟩ :=hc;split at hs
        . rename_i el cs hel hcs;split at hs
          . rename_i hlen;split at hs
            . rename_i el' hov;split at hs
              rotate_left
              . simp at hs
              rename_i hokh;simp at hs;obtain⟨rfl,rfl⟩ :=hs;obtain⟨q1,q2⟩ :=hv.cells hcs;simp only[Rel]at hx;obtain⟨_,a,e,ha⟩ :=hx;subst e;obtain⟨b,cells,elem,fr,hb,h1,_,h3,h4,_⟩ :=s.row ho;have haa:=ha b hb;subst haa;obtain⟨f1,f2,f3⟩ :=zsA h4 hel hov;have hil:i<els.length:=(Z8.1 hel).1;have hle:i*es+es<=els.length*es:=by
                have:=Z9 es (show i+1<=els.length by omega);rw[Z35,Z177]at this;exact this
              have hfl:=za5 h4;obtain⟨w',r1,r2,r3,r4,_⟩ :=s.write (P:=P) (els':=els.set i el') ho hb q1 q2 (o:=i*es+j)
                (.inl (Z3 (Z9 es hro) (Nat.le_add_right _ _))) (by omega) (zvQ h1) (by rw[q1.len];omega)
                (fun x hx=>by
                  rcases Z156 hx with hx|hx
                  . exact h4 x hx
                  . subst hx;exact f2) f1 hokh (fun x=>x∈[(id',some (Ob.arr es ro (els.set i el')))].map (·.1)) (by simp)
              have hsz:uv.cells.size=sz:=by rw[<-Z72,q1.len,hlen]
              refine⟨w',?_,Post.mk0 rfl r2 (by simp only[Rel,zaj];rfl) r3 r4⟩;simp[Instr.storeAt,Instr.sureAddr,storeVar,za9 hn,hsz,r1]
            . simp at hs
          . simp at hs
        . simp at hs
      . simp at hs
    . simp at hs
  . simp at hs
structure ElsV(P:Program)(w:World)(μ:Mu)(ρ:Nat->Option Nat)(c:Nat->Prop)(es:Nat)(els:List (List D))(u:Value)(vs:List Value):Prop where
 el:∀e∈els,e.length=es
 rel:zaq w.heap μ ρ c els.flatten vs
 one:∀v∈vs,v.oneCell'=true
 len:∀w1,(Builtin.lenOf u).run P w1= .ok els.length w1
 first:∀(w1:World) k,w1.heap=w.heap->k<=els.length->(Builtin.firstCells es k u).run P w1= .ok ⟨vs.take (k*es)⟩ w1
theorem zuy{H:Array Obj}{μ:Mu}{b o es:Nat}{els:List (List F)}(hf:zb7 H μ b es o els):
    (∀e∈els.map (·.map D.f),e.length=es)/\∃vs,zaq H μ ρ c (els.map (·.map D.f)).flatten vs/\(∀u∈vs,u.oneCell'=true)/\∀(k:Nat) v,vs[k]? =some v->zbn H b (o+k)=some v:=by
  have hl:∀e∈els.map (·.map D.f),e.length=es:=by
    intro e he;obtain⟨x,hx,rfl⟩ :=Z12.1 he;obtain⟨i,hi⟩ :=List.getElem?_of_mem hx;simpa using(hf.at i x hi).1
  refine⟨hl,zj2 _ o fun k d hk=> ?_⟩;obtain⟨i,e,j,rfl,hi,hj⟩ :=zjT hl hk;rw[Z36]at hi;cases hx:els[i]? with
  |none=>simp[hx]at hi
  | some x=>
    simp[hx]at hi;subst hi;obtain⟨v,hv,h1,h2⟩ :=(hf.at i x hx).2.rel (ρ:=ρ) (c:=c) j d hj;exact⟨v,by rw[<-Z82];exact hv,h1,h2⟩
theorem zmw(s:Sim amb w.heap h ρ c){id es ro:Nat}{els:List (List D)}(ho:h id=some (.arr es ro els))(off len:Nat):
  ∃b,ρ id=some b/\(∀e∈(els.drop off).take len,e.length=es)/\∃vs,zaq w.heap (zal amb h ρ) ρ c ((els.drop off).take len).flatten vs/\(∀u∈vs,u.oneCell'=true)/\
   ∀(k:Nat) v,vs[k]? =some v->zbn w.heap b (off*es+k)=some v:=by
 obtain⟨b,cells,elem,fr,hb,h1,_,h3,h4,h5⟩ :=s.row ho;have hl:∀e∈(els.drop off).take len,e.length=es:=fun e he=>h4 e (Z21 (Z13 he))
 refine⟨b,hb,hl,zj2 _ _ fun k d hk=> ?_⟩;obtain⟨i,e,j,rfl,hi,hj⟩ :=zjT hl hk;rw[Z75]at hi;split at hi
 .rw[Z81]at hi;obtain⟨v,hv,r1,r2⟩ :=h5 _ e hi j d hj;refine⟨v,?_,r1,r2⟩;rw[zgg h1,<-hv,Z35,<-Z82]
 .simp at hi
theorem zmz{b o es k len cap:Nat}{vs:List Value}(w1:World)(hvl:k*es<=vs.length)(hc:∀(k:Nat) v,vs[k]? =some v->zbn w1.heap b (o+k)=some v):
  (Builtin.firstCells es k (.slice (some ⟨b,o,none⟩) len cap)).run P w1= .ok ⟨vs.take (k*es)⟩ w1:=by
 have hl:(vs.take (k*es)).length=k*es:=by simp;omega
 have:=zoU P w1 b o (vs.take (k*es)) fun j v hv=>by
  rw[Z75]at hv;split at hv
  .exact hc j v hv
  .simp at hv
 rw[hl]at this;simp[Builtin.firstCells,this]
def zjt(w1:World)(es:Nat)(a:Addr)(len cap:Nat):(Builtin.firstCells es 0 (.slice (some a) len cap)).run P w1= .ok ⟨[]⟩ w1:=by
 simp[Builtin.firstCells,loadCells,loadCellsFrom]
theorem ziT(s:Sim amb w.heap h ρ c){es:Nat}{x:D}{u:Value}{els:List (List D)}{rd:List Nat}
  (hx:Rel w.heap (zal amb h ρ) ρ c x u)(he:elemsOf es h x=some (els,rd)):∃vs,ElsV P w (zal amb h ρ) ρ c es els u vs:=by
 unfold elemsOf at he;split at he
 .simp at he;obtain⟨rfl,_⟩ :=he;simp only[Rel,zaj]at hx;subst hx;refine⟨[],by simp,by simp[zaq],by simp,fun w1=>by simp[Builtin.lenOf],fun w1 k _ hk=> ?_⟩;simp at hk;subst hk;simp[Builtin.firstCells]
 .rename_i es' els';split at he
  .rename_i hes;subst hes;simp at he;obtain⟨rfl,_⟩ :=he;simp only[Rel,zaj]at hx;obtain⟨a0,cap,rfl,_,b,o,ha0,hf⟩ :=hx;obtain⟨h1,vs,h2,h3,h4⟩ :=zuy (ρ:=ρ) (c:=c) hf;refine⟨vs,h1,h2,h3,fun w1=>by simp[Builtin.lenOf],fun w1 k hw hk=> ?_⟩
   by_cases hnil:els'=[]
   .subst hnil;simp at hk;subst hk;rw[zjt,Z109];rfl
   .rw[ha0 hnil];refine zmz w1 ?_ (by rw[hw];exact h4);rw[h2.len,za5 h1];exact Z9 es hk
  .simp at he
 .rename_i id off len es' lim ex;split at he
  .rename_i es'' ro old ho;split at he
   .rename_i hc;obtain⟨rfl,rfl,hle⟩ :=hc;simp at he;obtain⟨rfl,_⟩ :=he;simp only[Rel]at hx;obtain⟨_,a,cap,rfl,q1,_,_,q4⟩ :=hx;obtain⟨b,hb,h1,vs,h2,h3,h4⟩ :=zmw s ho off len;have hlen:((old.drop off).take len).length=len:=by simp;omega
    refine⟨vs,h1,h2,h3,fun w1=>by rw[hlen];simp[Builtin.lenOf],fun w1 k hw hk=> ?_⟩
    by_cases hc0:cap=0
    .have:k=0:=by omega
     subst this;rw[zjt,Z109];rfl
    .have ha:=(q4 b hb).1 hc0;subst ha;refine zmz w1 ?_ (by rw[hw];exact h4);rw[h2.len,za5 h1];exact Z9 es hk
   .simp at he
  .simp at he
 .rename_i l;split at he
  .rename_i hes;subst hes;simp at he;obtain⟨rfl,_⟩ :=he;simp only[Rel,zaj]at hx;subst hx;refine⟨l.map fun x=> .int .u8 x.toNat,by simp,?_,by simp[Value.oneCell'],fun w1=>by simp[Builtin.lenOf,ziF],fun w1 k _ hk=> ?_⟩
   .refine zaq.mk ?_ fun j d v hd hv=> ?_
    .rw[za5 (es:=1) (by simp)];simp
    .obtain⟨i,e,j',rfl,hi,hj⟩ :=zjT (es:=1) (by simp) hd;rw[Z36]at hi hv;cases hx:l[i]? with
     |none=>simp[hx]at hi
     |some y=>
      simp[hx]at hi;subst hi;cases j' with
      |zero=>
       simp at hj;subst hj;simp only[Z178,Z111,hx,Z134,Z45]at hv;subst hv;simp only[Rel,zaj]
      |succ j'=>simp at hj
   .simp only[Builtin.firstCells,zo1,Z178,Z34,Nat.sub_zero,Sem.run_pure];simp[Z149]
  .simp at he
 .simp at he
structure ElsP(P:Program)(w:World)(μ:Mu)(ρ:Nat->Option Nat)(c:Nat->Prop)(es:Nat)(els:List (List D))(ln:Nat)(u:Value)(vs:List Value):Prop where
 el:∀e∈els,e.length=es
 rel:zaq w.heap μ ρ c els.flatten vs
 one:∀v∈vs,v.oneCell'=true
 len:∀w1,(Builtin.lenOf u).run P w1= .ok ln w1
 first:∀(w1:World) k,w1.heap=w.heap->k<=els.length->k<=ln->(Builtin.firstCells es k u).run P w1= .ok ⟨vs.take (k*es)⟩ w1
theorem zFK(s:Sim amb w.heap h ρ c){es m len:Nat}{x:D}{u:Value}{els:List (List D)}{rd:List Nat}
  (hx:Rel w.heap (zal amb h ρ) ρ c x u)(he:zpJ es h m x=some (els,len,rd)):Nat.min len m<=els.length/\∃vs,ElsP P w (zal amb h ρ) ρ c es els len u vs:=by
 unfold zpJ at he;split at he
 .rename_i els' rd' hel;simp only[Z45,Z66]at he;obtain⟨rfl,rfl,rfl⟩ :=he;obtain⟨vs,E⟩ :=ziT (P:=P) s hx hel;exact⟨Z64 _ _,vs,E.el,E.rel,E.one,E.len,fun w1 k hw h1 _=>E.first w1 k hw h1⟩
 .split at he
  .rename_i id off len' es' lim ex _;split at he
   .rename_i es'' ro old ho;split at he
    .rename_i hc;obtain⟨rfl,rfl,hle,hlm⟩ :=hc;simp only[Z45,Z66]at he;obtain⟨rfl,rfl,_⟩ :=he;refine⟨by rw[List.length_drop];omega,?_⟩;simp only[Rel]at hx;obtain⟨_,a,cap,rfl,q1,_,_,q4⟩ :=hx;obtain⟨b,hb,h1,vs,h2,h3,h4⟩ :=zmw s ho off (old.length - off);have hall:(old.drop off).take (old.length - off)=old.drop off:=Z11 (by simp);rw[hall]at h1 h2;refine⟨vs,h1,h2,h3,fun w1=>by simp[Builtin.lenOf],fun w1 k hw hk hk2=> ?_⟩
     by_cases hc0:cap=0
     .have:k=0:=by omega
      subst this;rw[zjt,Z109];rfl
     .have ha:=(q4 b hb).1 hc0;subst ha;refine zmz w1 ?_ (by rw[hw];exact h4);rw[h2.len,za5 h1];exact Z9 es hk
    .simp at he
   .simp at he
  .simp at he
end
end Go.Vse
end
section
namespace Go.Vse
variable [Globs]
open Go.RowKit
section
variable {P:Program}{w:World}{amb:Mu}{h:Hp}{ρ:Nat->Option Nat}{c:Nat->Prop}
structure zx0(P:Program)(w:World)(μ:Mu)(ρ:Nat->Option Nat)(c:Nat->Prop)(ts tx e:TypeId)(es:Nat)(xv:Value)(new:List (List D))(nv:List Value):Prop where
 el:∀x∈new,x.length=es
 rel:zaq w.heap μ ρ c new.flatten nv
 one:∀v∈nv,v.oneCell'=true
 fits:∀(ty:TypeId) (base:Option Addr) (sLen sCap:Nat),sLen+new.length<=sCap->
  (Builtin.append_ #[ts,tx] ty #[.slice base sLen sCap,xv]).run P w=
   ((match base with
    |some a=>storeCells (a.add (sLen*es)) nv
    |none=>pure ()).run P w).andThen fun _ w'=> .ok (.slice base (sLen+new.length) sCap) w'
 grows:new.length≠0->∀(ty:TypeId) (base:Option Addr) (sLen sCap:Nat),sCap<sLen+new.length->sLen+new.length<=zav->∀byt,zgJ P e=some byt->(sLen+new.length)*byt<=zav->
  ∀(ov:List Value),(∀w1:World,w1.heap=w.heap->(Builtin.firstCells es sLen (.slice base sLen sCap)).run P w1= .ok ⟨ov⟩ w1)->
  ∃newCap rest,sLen+new.length<=newCap/\rest.length=(newCap - (sLen+new.length))*es/\
   (Builtin.append_ #[ts,tx] ty #[.slice base sLen sCap,xv]).run P w=
    .ok (.slice (some ⟨w.heap.size,0,none⟩) (sLen+new.length) newCap) {w with drawn:=w.drawn+1,heap:=w.heap.push (.cells ⟨ov++nv++rest⟩ e)}
theorem zjD(s:Sim amb w.heap h ρ c){n:Nat}(hcn:¬c n){es:Nat}{els:List (List D)}{vs rest:List Value}(hel:∀e∈els,e.length=es)(hr:zaq w.heap (zal amb h ρ) ρ c els.flatten vs)
  (hone:∀u∈vs,u.oneCell'=true){e:TypeId}{newCap:Nat}(hc:els.length<=newCap)(hrest:rest.length=(newCap - els.length)*es)(ro:Nat)(rd:List Nat):
  Post amb w h ρ c n {d:= .sl n 0 els.length es els.length false,rd,wr:=[(n,some (.arr es ro els))],c:=n+1} (.slice (some ⟨w.heap.size,0,none⟩) els.length newCap)
   {w with drawn:=w.drawn+1,heap:=w.heap.push (.cells ⟨vs++rest⟩ e)}:=by
 refine Post.row s hcn (es:=es) (els:=els) (vs:=vs) (rest:=rest) (elem:=e) (fr:=(0,0)) (w':={w with drawn:=w.drawn+1,heap:=w.heap.push (.cells ⟨vs++rest⟩ e)}) hel hr hone
  (zgX.zero _ _) ⟨rfl,rfl,rfl,Z128 _⟩ rfl ro rd fun H' μ' ρ' c' hc' hb hsh=> ?_
 refine ztt hc' hb hsh ?_ hc hc (fun e=>by simp at e);rw[Z16,hr.len,za5 hel,hrest,<-Z35];exact Z9 es (by omega)
def zxO{α:Type}(f:Nat->Option α)(i:Nat)(x y:Option α):upd (upd f i x) i y=upd f i y:=by
 funext j
 simp only[upd];split<;>rfl
theorem zJY(s:Sim amb w.heap h ρ c){n:Nat}(hcn:¬c n){ts tx e:TypeId}{es byt:Nat}(hby:zgJ P e=some byt)
  {xv:Value}{new:List (List D)}{nv:List Value}(X:zx0 P w (zal amb h ρ) ρ c ts tx e es xv new nv)
  {sd:D}{sv:Value}(hs:Rel w.heap (zal amb h ρ) ρ c sd sv){rd:List Nat}{r:Rs}(ha:za3 es byt h n sd new rd=some r)(ty:TypeId):
  ∃v w',(Builtin.append_ #[ts,tx] ty #[sv,xv]).run P w= .ok v w'/\Post amb w h ρ c n r v w':=by
 have hnl:nv.length=new.length*es:=by rw[X.rel.len,za5 X.el]
 have nil0:new.length=0->∀(base:Option Addr) (sLen sCap:Nat),sLen<=sCap->
   (Builtin.append_ #[ts,tx] ty #[.slice base sLen sCap,xv]).run P w= .ok (.slice base sLen sCap) w:=by
  intro hz base sLen sCap hle;have hnv:nv=[]:=by
   apply Z83;rw[hnl,hz,Z109]
  rw[X.fits ty base sLen sCap (by omega),hz,hnv];cases base<;>simp[storeCells]
 unfold za3 at ha;split at ha
 .rename_i hz;split at ha
  .simp at ha;subst ha;have hs':=hs;simp only[Rel,zaj]at hs';subst hs';exact⟨_,_,nil0 hz none 0 0 (Z2 _),Post.same s hs rd⟩
  .simp at ha;subst ha;have hs':=hs;simp only[Rel,zaj]at hs';obtain⟨a,cap,rfl,hle,_⟩ :=hs';exact⟨_,_,nil0 hz _ _ _ hle,Post.same s hs rd⟩
  .simp at ha;subst ha;have hs':=hs;simp only[Rel]at hs';obtain⟨_,a,cap,rfl,hle,_⟩ :=hs';exact⟨_,_,nil0 hz _ _ _ hle,Post.same s hs rd⟩
  .simp at ha
 .rename_i hz;split at ha
  .split at ha
   .rename_i hmb;simp at ha;subst ha;simp only[Rel,zaj]at hs;subst hs;obtain⟨newCap,rest,g1,g2,g3⟩ :=X.grows hz ty none 0 0 (by omega) (by omega) byt hby (by simpa using hmb.2) [] (fun w1 _=>by simp[Builtin.firstCells])
    simp only[Z25,Z28]at g1 g2 g3;exact⟨_,_,g3,zjD s hcn X.el X.rel X.one g1 g2 0 rd⟩
   .simp at ha
  .rename_i id off len es' lim ex;split at ha
   .rename_i es'' ro els ho;split at ha
    .rename_i hc;obtain⟨rfl,rfl,hol⟩ :=hc;have hs':=hs;simp only[Rel]at hs';obtain⟨hid,a,cap,rfl,q1,q2,q3,q4⟩ :=hs';obtain⟨b,cells,elem,fr,hb,b1,b2,b3,b4,b5⟩ :=s.row ho;obtain⟨k1,e3,bn,k2,k3⟩ :=q4 b hb;have hfl:=za5 b4;dsimp only at ha;split at ha
     .rename_i hneed;split at ha
      .rename_i hin;obtain⟨i1,i2,i3⟩ :=hin;simp only[Z45]at ha;subst ha;have hcap:cap≠0:=by omega
       have haa:=k1 hcap;subst haa;obtain⟨w',r1,r2,r3,r4,_⟩ :=s.write (P:=P) (els':=els.take (off+len)++new++els.drop (off+len+new.length)) ho hb X.rel X.one (o:=(off+len)*es)
        (.inl (Z9 es i2)) (by rw[hfl];exact Z9 es hol) k2
        (by rw[hnl,<-Z35];exact Z3 (Z9 es (by omega)) k3)
        (fun x hx=>by
         simp only[Z4]at hx;rcases hx with(hx|hx)|hx
         .exact b4 x (Z13 hx)
         .exact X.el x hx
         .exact b4 x (Z21 hx))
        (by
         simp only[Z71];rw[zhq b4,zi6 b4,za5 X.el,<-Z35]) i3
        (fun x=>x∈[(id,some (Ob.arr es ro (els.take (off+len)++new++els.drop (off+len+new.length))))].map (·.1)) (by simp)
       refine⟨.slice (some ⟨b,off*es,none⟩) (len+new.length) cap,w',?_,Post.mk0 rfl r2 (ρ':=ρ) ?_ ?_ ?_⟩
       .rw[X.fits ty _ _ _ (by omega)];simp only[zcM,<-Z35,r1,Result.andThen_ok]
       .have:=Rel.keep r4.keep _ _ hs;simp only[Rel]at this|-;obtain⟨_,a',cap',e',p1,p2,p3,p4⟩ :=this;simp at e';obtain⟨rfl,rfl⟩ :=e';exact⟨hid,_,_,rfl,by omega,p2,p3,p4⟩
       .exact r3
       .exact r4
      .simp at ha
     .rename_i hneed;split at ha
      .rename_i hmb;obtain⟨m1,m2⟩ :=hmb;obtain⟨b',hb',l1,ov,l2,l3,l4⟩ :=zmw s ho off len;rw[hb]at hb';cases hb';have hll:((els.drop off).take len).length=len:=by simp;omega
       have hov:∀w1:World,w1.heap=w.heap->(Builtin.firstCells es len (.slice (some a) len cap)).run P w1= .ok ⟨ov⟩ w1:=by
        intro w1 hw1;have hovl:ov.length=len*es:=by rw[l2.len,za5 l1,hll]
        by_cases hc0:cap=0
        .have:len=0:=by omega
         subst this;have:ov=[]:=by
          apply Z83;rw[hovl,Z109]
         subst this;exact zjt w1 es a 0 cap
        .have haa:=k1 hc0;subst haa;have:=zmz (P:=P) (len:=len) (cap:=cap) (es:=es) (k:=len) w1 (Z197 hovl.symm) (b:=b) (o:=off*es) (by rw[hw1];exact l4);rw[<-hovl,Z7]at this;exact this
       split at ha
       .rename_i hex;simp at ha;subst ha;have hlim:=q3 hex;obtain⟨newCap,rest,g1,g2,g3⟩ :=X.grows hz ty (some a) len cap (by omega) m1 byt hby m2 ov hov;have hel2:∀x∈(els.drop off).take len++new,x.length=es:=by
         intro x hx;rcases Z4.1 hx with hx|hx
         .exact l1 x hx
         .exact X.el x hx
        have hlen2:((els.drop off).take len++new).length=len+new.length:=by rw[Z16,hll]
        have:=zjD s hcn (es:=es) (els:=(els.drop off).take len++new) (vs:=ov++nv) (rest:=rest) hel2 (by rw[Z71];exact l2.app X.rel)
         (fun u hu=>(Z4.1 hu).elim (l3 u) (X.one u)) (e:=e) (newCap:=newCap) (by rw[hlen2];exact g1) (by rw[hlen2];exact g2) 0 (id::rd)
        rw[hlen2]at this;exact⟨_,_,g3,this⟩
       .rename_i hex;split at ha
        .rename_i hfr;obtain⟨rfl,rfl,hrl⟩ :=hfr;simp only[Z45]at ha;subst ha;simp only[Z25,Z34,Z7]at*
         by_cases hroom:els.length+new.length<=cap
         ·
          have hcap:cap≠0:=by omega
          have haa:=k1 hcap;subst haa;obtain⟨sr,er⟩ :=s.rename hcn (fun x=>x∈[(id,(none:Option Ob)),(n,some (Ob.arr es ro (els++new)))].map (·.1)) (by simp) ho hb;have hrelX:=zaq.keep er.keep _ _ X.rel;obtain⟨w',r1,r2,r3,r4,_⟩ :=sr.write (P:=P) (id:=n) (els:=els) (els':=els++new) (by simp) (by simp) hrelX X.one (o:=els.length*es)
           (.inl (Z9 es hrl)) (by rw[hfl];exact Z2 _) k2 (by rw[hnl,<-Z35];exact Z3 (Z9 es hroom) k3)
           (fun x hx=>(Z4.1 hx).elim (b4 x) (X.el x))
           (by rw[Z71,<-hfl,Z7,Z24 (by omega),Z22]) (zEy _ _)
           (fun x=>x∈[(id,(none:Option Ob)),(n,some (Ob.arr es ro (els++new)))].map (·.1)) (by simp)
          rw[zxO]at r3 r4
          .refine⟨.slice (some ⟨b,0*es,none⟩) (els.length+new.length) cap,w',?_,Post.mk1 rfl r2 (ρ':=upd (upd ρ id none) n (some b)) ?_ ?_ ?_⟩
           .rw[X.fits ty _ _ _ hroom];simp only[zcM,Z109,Z25]at r1|-;simp only[r1,Result.andThen_ok]
           .simp only[Rel];refine⟨by simp,_,_,rfl,hroom,by omega,fun e=>by simp at e,fun b' hb'=> ?_⟩;simp at hb';subst hb';have hsh:=r4.keep.shape b _ k2;exact⟨fun _=>rfl,e3,bn,hsh,by simpa using k3⟩
           .exact r3
           .exact er.trans r4
         ·
          obtain⟨newCap,rest,g1,g2,g3⟩ :=X.grows hz ty (some a) els.length cap (by omega) m1 byt hby m2 ov hov;obtain⟨sd,ed⟩ :=s.drop id (fun x=>x∈[id]) (by simp);have hlen2:(els++new).length=els.length+new.length:=Z16;have:=zjD sd hcn (es:=es) (els:=els++new) (vs:=ov++nv) (rest:=rest) (fun x hx=>(Z4.1 hx).elim (b4 x) (X.el x))
           (by rw[Z71];exact (zaq.keep ed.keep _ _ l2).app (zaq.keep ed.keep _ _ X.rel))
           (fun u hu=>(Z4.1 hu).elim (l3 u) (X.one u)) (e:=e) (newCap:=newCap) (by rw[hlen2];exact g1) (by rw[hlen2];exact g2) ro (id::rd)
          rw[hlen2]at this;obtain⟨pb,ρ',p1,p2,p3⟩ :=this;refine⟨_,_,g3,pb,ρ',p1,p2,(ed.mono ?_).trans (p3.mono ?_)⟩
          .intro x _ hx;simp at hx|-;exact .inl hx
          .intro x _ hx;simp at hx|-;exact .inr hx
        .split at ha
         .rename_i hfr;obtain⟨rfl,hrl,hge,hhd⟩ :=hfr;simp only[Z45]at ha;subst ha;simp only[Z25,Z34]at*;have hel2:∀x∈els.take len++new,x.length=es:=fun x hx=>(Z4.1 hx).elim (l1 x) (X.el x)
          have hlen2:(els.take len++new).length=len+new.length:=by rw[Z16,hll]
          by_cases hroom:len+new.length<=cap
          ·
           have hcap:cap≠0:=by omega
           have haa:=k1 hcap;subst haa;obtain⟨sr,er⟩ :=s.rename hcn (fun x=>x∈[(id,(none:Option Ob)),(n,some (Ob.arr es ro (els.take len++new)))].map (·.1)) (by simp) ho hb;have hrelX:=zaq.keep er.keep _ _ X.rel;obtain⟨w',r1,r2,r3,r4,_⟩ :=sr.write (P:=P) (id:=n) (els:=els) (els':=els.take len++new) (by simp) (by simp) hrelX X.one (o:=len*es)
            (.inl (Z9 es hrl)) (by rw[hfl];exact Z9 es hol) k2 (by rw[hnl,<-Z35];exact Z3 (Z9 es hroom) k3)
            hel2
            (by
             rw[Z71,zhq b4,Z24 (l:=els.flatten) (by rw[za5 X.el,hfl,<-Z35];exact Z9 es hge),Z22]) hhd
            (fun x=>x∈[(id,(none:Option Ob)),(n,some (Ob.arr es ro (els.take len++new)))].map (·.1)) (by simp)
           rw[zxO]at r3 r4;refine⟨.slice (some ⟨b,0*es,none⟩) (len+new.length) cap,w',?_,Post.mk1 rfl r2 (ρ':=upd (upd ρ id none) n (some b)) ?_ ?_ ?_⟩
           .rw[X.fits ty _ _ _ hroom];simp only[zcM,Z109,Z25]at r1|-;simp only[r1,Result.andThen_ok]
           .simp only[Rel];refine⟨by simp,_,_,rfl,hroom,by omega,fun e=>by simp at e,fun b' hb'=> ?_⟩;simp at hb';subst hb';have hsh:=r4.keep.shape b _ k2;exact⟨fun _=>rfl,e3,bn,hsh,by simpa using k3⟩
           .exact r3
           .exact er.trans r4
          ·
           obtain⟨newCap,rest,g1,g2,g3⟩ :=X.grows hz ty (some a) len cap (by omega) m1 byt hby m2 ov hov;obtain⟨sd,ed⟩ :=s.drop id (fun x=>x∈[id]) (by simp);have:=zjD sd hcn (es:=es) (els:=els.take len++new) (vs:=ov++nv) (rest:=rest) hel2
            (by rw[Z71];exact (zaq.keep ed.keep _ _ l2).app (zaq.keep ed.keep _ _ X.rel))
            (fun u hu=>(Z4.1 hu).elim (l3 u) (X.one u)) (e:=e) (newCap:=newCap) (by rw[hlen2];exact g1) (by rw[hlen2];exact g2) ro (id::rd)
           rw[hlen2]at this;obtain⟨pb,ρ',p1,p2,p3⟩ :=this;refine⟨_,_,g3,pb,ρ',p1,p2,(ed.mono ?_).trans (p3.mono ?_)⟩
           .intro x _ hx;simp at hx|-;exact .inl hx
           .intro x _ hx;simp at hx|-;exact .inr hx
         .simp at ha
      .simp at ha
    .simp at ha
   .simp at ha
  .simp at ha
end
end Go.Vse
end
section
namespace Go.Vse
variable [Globs]
open Go.RowKit
section
variable {P:Program}{w:World}{amb:Mu}{h:Hp}{ρ:Nat->Option Nat}{c:Nat->Prop}
def zsV{zv:Value}{es k:Nat}(hz:zv.cells.size=es):(Builtin.zeroCells zv.cells k).toList.length=k*es:=by
 simp[Builtin.zeroCells,hz]
theorem zDt{ts tx e:TypeId}{es:Nat}{z:List F}(hu:P.underlying ts=some (.slice e))(hn:zaO P e=some es)(hz:zeroCells P e=some z)(hzl:z.length=es)
  (hx:(∃e',P.underlying tx=some (.slice e'))\/P.underlying tx=some .string){xv:Value}{els:List (List D)}{vs:List Value}{μ:Mu}
  (E:ElsV P w μ ρ c es els xv vs):zx0 P w μ ρ c ts tx e es xv els vs:=by
 obtain⟨i,zv,hi,hv,h1,h2⟩ :=zd6 (H:=w.heap) (μ:=μ) hz;have hzs:zv.cells.size=es:=by rw[<-Z72,h1.len,hzl]
 have his:i.size=es:=by simp[zaO,hi]at hn;exact hn
 have hvl:vs.length=els.length*es:=by rw[E.rel.len,za5 E.el]
 have htx:∃td,P.underlying tx=some td/\(∀k,td≠ .int k):=by
  rcases hx with⟨e',hx⟩ |hx
  .exact⟨_,hx,fun k=>by simp⟩
  .exact⟨_,hx,fun k=>by simp⟩
 obtain⟨td,htd,hni⟩ :=htx;have hmat:(match td with| .int _=>true|_=>false)=false:=by
  cases td<;>first|rfl|(exact absurd rfl (hni _))
 refine⟨E.el,E.rel,E.one,fun ty base sLen sCap hle=> ?_,fun _ ty base sLen sCap hlt hmb byt hby hmb2 ov hov=> ?_⟩
 .have hf:=E.first w els.length rfl (Z2 _);rw[<-hvl,Z7]at hf;cases base<;>simp[Builtin.append_,zax hu,za9 hn,zax htd,E.len w,hle,hf,Result.andThen]
 .have hib:i.bytes=byt:=by simp[zgJ,hi]at hby;exact hby
  have hf:∀w1:World,w1.heap=w.heap->(Builtin.firstCells es els.length xv).run P w1= .ok ⟨vs⟩ w1:=by
   intro w1 hw;have:=E.first w1 els.length hw (Z2 _)
   rwa[<-hvl,Z7]at this
  have hno:¬(sLen+els.length<=sCap):=by omega
  have h63:¬(9223372036854775807< ((sLen:Int)+(els.length:Int))):=by unfold zav at hmb;omega
  have h48:¬(281474976710656<Builtin.nextslicecap (sLen+els.length) sCap*byt):=by
   have:=growslice_fits hlt (by unfold zav at hmb2;exact hmb2);omega
  refine⟨grownCap w (sLen+els.length) sCap e,(Builtin.zeroCells zv.cells (grownCap w (sLen+els.length) sCap e - (sLen+els.length))).toList,grownCap_ge w _ _ _,zsV hzs,?_⟩;have hov':=hov w.drew rfl;have hf':=hf w.drew rfl;simp[Builtin.append_,zax hu,zax htd,sizeOf,typeInfo,zeroValue,hi,hv,his,hib,E.len w,hno,h63,h48,Question.forced,hov',hf',newRow,grownCap];refine congrArg (fun a=>w.drew.alloc (Obj.cells a e)) ?_;apply Z104;simp
theorem zyz{ts tx e:TypeId}{es byt:Nat}{z:List F}{k0:IntKind}(hu:P.underlying ts=some (.slice e))(hn:zaO P e=some es)(hby:zgJ P e=some byt)
  (hz:zeroCells P e=some z)(hzl:z.length=es)(h0:es≠0)(hx:P.underlying tx=some (.int k0))(kx:IntKind)(n:Nat)(hmb:n<=zav)(hmb2:n*byt<=zav){μ:Mu}:
  ∃vs,zx0 P w μ ρ c ts tx e es (.int kx n) (List.replicate n (z.map D.f)) vs:=by
 obtain⟨i,zv,hi,hv,h1,h2⟩ :=zd6 (H:=w.heap) (μ:=μ) hz;have hzs:zv.cells.size=es:=by rw[<-Z72,h1.len,hzl]
 have his:i.size=es:=by simp[zaO,hi]at hn;exact hn
 have hib:i.bytes=byt:=by simp[zgJ,hi]at hby;exact hby
 have wn:=zr7 n hmb;have hneg:¬((n:Int)<0):=by omega
 have hbig:¬(281474976710656< (n:Int)*(byt:Int)):=by
  unfold zav at hmb2;have h2:((n*byt:Nat):Int)<=((140737488355328:Nat):Int):=Int.ofNat_le.2 hmb2;rw[Int.natCast_mul]at h2;omega
 have hzc:(Builtin.zeroCells zv.cells n)=⟨(List.replicate n zv.cells.toList).flatten⟩ :=by
  apply Z104;exact zjL zv.cells n (by omega)
 refine⟨(List.replicate n zv.cells.toList).flatten,?_,zfA h1 n,zgT h2 n,fun ty base sLen sCap hle=> ?_,fun hz0 ty base sLen sCap hlt hm1 byt' hby' hm2 ov hov=> ?_⟩
 .intro x hxx;rw[(Z98.1 hxx).2];simpa using hzl
 .simp only[Z146]at hle|-
  by_cases hn0:n=0
  .subst hn0;have w0:IntKind.i64.wrap 0=0:=rfl;simp at hle;cases base<;>simp[Builtin.append_,zax hu,zax hx,za9 hn,asInt,asIntOf,w0,zhh hi,storeCells,hle]
  .have hne:n*es≠0:=Z168 hn0 h0;cases base<;>simp[Builtin.append_,zax hu,zax hx,za9 hn,asInt,asIntOf,wn,zhh hi,hib,hneg,hbig,hle,zgo hi hv,hzc]
   all_goals exact fun e=>absurd e hne
 .simp only[Z146]at hz0 hlt hm1 hm2|-;have hbb:byt'=byt:=by rw[hby]at hby';exact (Z53 hby').symm
  subst hbb;have hno:¬(sLen+n<=sCap):=by omega
  have h63:¬(9223372036854775807< ((sLen:Int)+(n:Int))):=by unfold zav at hm1;omega
  have h48:¬(281474976710656<Builtin.nextslicecap (sLen+n) sCap*byt'):=by
   have:=growslice_fits hlt (by unfold zav at hm2;exact hm2);omega
  refine⟨grownCap w (sLen+n) sCap e,(Builtin.zeroCells zv.cells (grownCap w (sLen+n) sCap e - (sLen+n))).toList,grownCap_ge w _ _ _,zsV hzs,?_⟩;have hov':=hov w.drew rfl;have hne:n*es≠0:=Z168 hz0 h0;simp[Builtin.append_,zax hu,zax hx,za9 hn,asInt,asIntOf,wn,zhh hi,hib,hneg,hbig,zeroValue,hv,hno,h63,h48,hne,hzc,Question.forced,hov',newRow,grownCap];refine congrArg (fun a=>w.drew.alloc (Obj.cells a e)) ?_;apply Z104;simp
theorem zJ7(s:Sim amb w.heap h ρ c){n:Nat}{td ts' ty e:TypeId}{es:Nat}(hu:P.underlying td=some (.slice e))(hn:zaO P e=some es)
  {xv:Value}{els:List (List D)}{vs:List Value}{len:Nat}(E:ElsP P w (zal amb h ρ) ρ c es els len xv vs)
  {id off m lim ro:Nat}{ex:Bool}{old:List (List D)}{dv:Value}(hd:Rel w.heap (zal amb h ρ) ρ c (.sl id off m es lim ex) dv)(ho:h id=some (.arr es ro old))
  (hle:off<=old.length)(hro:ro<=off\/Nat.min len m=0)(hmin:Nat.min len m<=els.length)(hokh:ze5 old (old.take off++els.take (Nat.min len m)++old.drop (off+Nat.min len m))=true)(rd:List Nat):
  ∃w',(Builtin.copy_ #[td,ts'] ty #[dv,xv]).run P w= .ok (.int .i64 (Nat.min len m:Nat)) w'/\
   Post amb w h ρ c n {d:= .f (.i .i64 (Nat.min len m:Nat)),rd:=rd,wr:=[(id,some (.arr es ro (old.take off++els.take (Nat.min len m)++old.drop (off+Nat.min len m))))],c:=n} (.int .i64 (Nat.min len m:Nat)) w':=by
 simp only[Rel]at hd;obtain⟨_,a,cap,rfl,q1,q2,q3,q4⟩ :=hd;obtain⟨b,cells,elem,fr,hb,b1,_,_,b4,_⟩ :=s.row ho;obtain⟨k1,e3,bn,k2,k3⟩ :=q4 b hb;have hfl:=za5 b4;generalize hk:Nat.min len m=k at*;have hk1:k<=els.length:=hmin;have hk3:k<=len:=by rw[<-hk];exact Z64 _ _
 have hk2:k<=m:=by rw[<-hk];exact Z201 _ _
 have hf:=E.first w k rfl hk1 hk3;have hvl:vs.length=els.length*es:=by rw[E.rel.len,za5 E.el]
 have hnl:(vs.take (k*es)).length=k*es:=by
  rw[Z41,hvl];exact Z73 (Z9 es hk1)
 have hrel:zaq w.heap (zal amb h ρ) ρ c (els.take k).flatten (vs.take (k*es)):=by
  rw[zhq E.el];exact E.rel.take _
 have hone:∀u∈vs.take (k*es),u.oneCell'=true:=fun u hu=>E.one u (Z13 hu)
 obtain⟨w',r1,r2,r3,r4,_⟩ :=s.write (P:=P) (els':=old.take off++els.take k++old.drop (off+k)) ho hb hrel hone (o:=off*es)
  (hro.elim (fun x=> .inl (Z9 es x)) fun x=> .inr (by
   apply Z83;rw[hnl,x,Z109])) (by rw[hfl];exact Z9 es (by omega)) k2
  (by rw[hnl,<-Z35];exact Z3 (Z9 es (by omega)) k3)
  (fun x hx=>by
   simp only[Z4]at hx;rcases hx with(hx|hx)|hx
   .exact b4 x (Z13 hx)
   .exact E.el x (Z13 hx)
   .exact b4 x (Z21 hx))
  (by
   simp only[Z71];rw[zhq b4,zi6 b4,za5 (els:=els.take k) (es:=es) fun x hx=>E.el x (Z13 hx),Z41,Z73 hk1,<-Z35]) hokh
  (fun x=>x∈[(id,some (Ob.arr es ro (old.take off++els.take k++old.drop (off+k))))].map (·.1)) (by simp)
 refine⟨w',?_,Post.mk0 rfl r2 (by simp only[Rel,zaj]) r3 r4⟩
 by_cases hc0:cap=0
 .have hk0:k=0:=by omega
  subst hk0;simp only[Z109,Z173,storeCells,Sem.run_pure,Result.ok.injEq,true_and]at r1;subst r1;have hm0:m=0:=by omega
  subst hm0;simp only[Z109,Z173]at hf;simp[Builtin.copy_,zax hu,za9 hn,E.len w,hf,storeCells,goInt]
 .have haa:=k1 hc0;subst haa;simp[Builtin.copy_,zax hu,E.len w,za9 hn,hk,hf,r1,goInt]
theorem zJ5(s:Sim amb w.heap h ρ c){n:Nat}{td ty e:TypeId}{es:Nat}{z:List F}(hu:P.underlying td=some (.slice e))(hz:zeroCells P e=some z)(hzl:z.length=es)(h0:es≠0)
  {id off m lim ro:Nat}{ex:Bool}{old:List (List D)}{dv:Value}(hd:Rel w.heap (zal amb h ρ) ρ c (.sl id off m es lim ex) dv)(ho:h id=some (.arr es ro old))
  (hle:off+m<=old.length)(hro:ro<=off)(hokh:ze5 old (old.take off++List.replicate m (z.map D.f)++old.drop (off+m))=true):
  ∃w',(Builtin.clear_ #[td] ty #[dv]).run P w= .ok (.tuple #[]) w'/\
   Post amb w h ρ c n {d:= .f .un,rd:=[id],wr:=[(id,some (.arr es ro (old.take off++List.replicate m (z.map D.f)++old.drop (off+m))))],c:=n} (.tuple #[]) w':=by
 simp only[Rel]at hd;obtain⟨_,a,cap,rfl,q1,q2,q3,q4⟩ :=hd;obtain⟨i,zv,hi,hv,h1,h2⟩ :=zd6 (H:=w.heap) (μ:=zal amb h ρ) hz;have hzs:zv.cells.size=es:=by rw[<-Z72,h1.len,hzl]
 obtain⟨b,cells,elem,fr,hb,b1,_,_,b4,_⟩ :=s.row ho;obtain⟨k1,e3,bn,k2,k3⟩ :=q4 b hb;have hfl:=za5 b4;have hzc:(Builtin.zeroCells zv.cells m)=⟨(List.replicate m zv.cells.toList).flatten⟩ :=by
  apply Z104;exact zjL zv.cells m (by omega)
 have hnl:(List.replicate m zv.cells.toList).flatten.length=m*es:=by
  rw[za5 (es:=es)]
  .simp
  .intro e he;rw[(Z98.1 he).2];simpa using hzs
 have hzl0:∀x∈List.replicate m (z.map D.f),x.length=es:=by
  intro x hx;rw[(Z98.1 hx).2];simpa using hzl
 obtain⟨w',r1,r2,r3,r4,_⟩ :=s.write (P:=P) (els':=old.take off++List.replicate m (z.map D.f)++old.drop (off+m)) ho hb (zfA h1 m) (zgT h2 m) (o:=off*es)
  (.inl (Z9 es hro)) (by rw[hfl];exact Z9 es (by omega)) k2
  (by rw[hnl,<-Z35];exact Z3 (Z9 es (by omega)) k3)
  (fun x hx=>by
   simp only[Z4]at hx;rcases hx with(hx|hx)|hx
   .exact b4 x (Z13 hx)
   .exact hzl0 x hx
   .exact b4 x (Z21 hx))
  (by
   simp only[Z71];rw[zhq b4,zi6 b4,za5 hzl0,Z146,<-Z35]) hokh
  (fun x=>x∈[(id,some (Ob.arr es ro (old.take off++List.replicate m (z.map D.f)++old.drop (off+m))))].map (·.1)) (by simp)
 refine⟨w',?_,Post.mk0 rfl r2 (by simp only[Rel,zaj]) r3 r4⟩
 by_cases hm0:m=0
 .subst hm0;simp only[List.replicate_zero,List.flatten_nil,storeCells,Sem.run_pure,Result.ok.injEq,true_and]at r1;subst r1;simp[Builtin.clear_,zax hu]
 .have haa:=k1 (by omega);subst haa;obtain⟨m',rfl⟩ :∃m',m=m'+1:=⟨m - 1,by omega⟩
  simp[Builtin.clear_,zax hu,zgo hi hv,hzc,r1]
end
end Go.Vse
end
section
namespace Go.Vse
variable [Globs]
open Go.RowKit
section
variable {P:Program}{w:World}{amb:Mu}{h:Hp}{ρ:Nat->Option Nat}{c:Nat->Prop}
def zwp(H:Array Obj)(o:Obj)(f:Obj->Obj):(H.push o).modify H.size f=H.push (f o):=by
 apply Array.ext
 .simp
 .intro i h1 h2;have hi:i<H.size+1:=by simpa using h2
  simp only[Array.getElem_modify,Array.getElem_push]
  by_cases hlt:i<H.size
  .have:¬(H.size=i):=by omega
   simp[hlt,this]
  .have:H.size=i:=by omega
   simp[this]
theorem zCQ(W:World)(b:Nat){cs:Array Value}{e:TypeId}{fr:Nat×Nat}(hb:W.heap[b]? =some (.cells cs e fr)):
  (markStringish ⟨b,0,none⟩).run P W= .ok () (W.freeze ⟨b,cs.size,none⟩ 1):=by
 have:W.shape? b=some (e,cs.size):=by simp[World.shape?,hb]
 simp[markStringish,this]
theorem zKs(s:Sim amb w.heap h ρ c){n:Nat}(hcn:¬c n){e:TypeId}(l:List UInt8)(hl0:l≠[]):
  ∃v w',(Conv.stringToBytes e ⟨⟨l⟩⟩).run P w= .ok v w'/\
   Post amb w h ρ c n {d:= .sl n 0 l.length 1 l.length false,wr:=[(n,some (.arr 1 0 (l.map fun x=>[D.f (.i .u8 x.toNat)])))],c:=n+1} v w':=by
 have hge:=grownCap_ge w l.length 0 e;generalize hcap:grownCap w l.length 0 e=cap at hge;have hl1:∀x∈(l.map fun x=>[D.f (.i .u8 x.toNat)]),x.length=1:=by simp
 have hrel:zaq w.heap (zal amb h ρ) ρ c (l.map fun x=>[D.f (.i .u8 x.toNat)]).flatten (l.map fun x=>Value.int .u8 x.toNat):=by
  refine zaq.mk ?_ fun j d v hd hv=> ?_
  .rw[za5 hl1];simp
  .obtain⟨i,e,j',rfl,hi,hj⟩ :=zjT hl1 hd;rw[Z36]at hi hv;cases hx:l[i]? with
   |none=>simp[hx]at hi
   |some y=>
    simp[hx]at hi;subst hi;cases j' with
    |zero=>
     simp at hj;subst hj;simp only[Z178,Z111,hx,Z134,Z45]at hv;subst hv;simp only[Rel,zaj]
    |succ j'=>simp at hj
 have hsz:((l.map fun x=>Value.int .u8 x.toNat)++List.replicate (cap - l.length) (Value.int .u8 0)).length=cap:=by simp;omega
 refine⟨.slice (some ⟨w.heap.size,0,none⟩) l.length cap,
  {w with drawn:=w.drawn+1,heap:=w.heap.push (.cells ⟨(l.map fun x=>Value.int .u8 x.toNat)++List.replicate (cap - l.length) (Value.int .u8 0)⟩ e (cap,cap+1))},?_,?_⟩
 .have hq:(Question.appendCap l.length 0 e).cut (w.tape w.drawn (Question.appendCap l.length 0 e))=cap:=hcap;have hm:=zCQ (P:=P) (w.drew.alloc (.cells (⟨l.map fun x=>Value.int .u8 x.toNat⟩ ++Array.replicate (cap - l.length) (Value.int .u8 0)) e)) w.heap.size
   (cs:=⟨l.map fun x=>Value.int .u8 x.toNat⟩ ++Array.replicate (cap - l.length) (Value.int .u8 0)) (e:=e) (fr:=(0,0)) (by show(w.heap.push _)[w.heap.size]? =_;simp)
  simp[Conv.stringToBytes,ziF,Question.forced,hq,newRow];refine (congrArg (fun r:Result Unit=>r.andThen fun _ w'=>Result.ok (Value.slice (some ⟨w.heap.size,0,none⟩) l.length cap) w') hm).trans ?_;have hcs:(⟨l.map fun x=>Value.int .u8 x.toNat⟩ ++Array.replicate (cap - l.length) (Value.int .u8 0):Array Value)=
    ⟨(l.map fun x=>Value.int .u8 x.toNat)++List.replicate (cap - l.length) (Value.int .u8 0)⟩ :=by
   apply Z104;simp
  have hcsz:(⟨l.map fun x=>Value.int .u8 x.toNat⟩ ++Array.replicate (cap - l.length) (Value.int .u8 0):Array Value).size=cap:=by
   rw[hcs];exact hsz
  simp only[Result.andThen_ok,World.freeze,hcsz]
  congr 1
  rw[Z49 (by omega)];show({w with drawn:=w.drawn+1,heap:=(w.heap.push _).modify w.heap.size _}:World)=_;rw[zwp,hcs];rfl
 .refine Post.row s hcn (es:=1) (vs:=l.map fun x=>Value.int .u8 x.toNat) (rest:=List.replicate (cap - l.length) (Value.int .u8 0)) (elem:=e) (fr:=(cap,cap+1))
   (w':={w with drawn:=w.drawn+1,heap:=w.heap.push (.cells ⟨(l.map fun x=>Value.int .u8 x.toNat)++List.replicate (cap - l.length) (Value.int .u8 0)⟩ e (cap,cap+1))})
   hl1 hrel (by simp[Value.oneCell']) ⟨fun i hi hh=>by rw[hsz]at hi;omega,fun _=>by
    cases l with
    |nil=>exact absurd rfl hl0
    |cons x l=>rfl⟩ ⟨rfl,rfl,rfl,by first|exact Z2 _|exact Z128 _⟩ rfl 0 [] fun H' μ' ρ' c' hc' hb hsh=> ?_
  exact ztt hc' hb hsh (by rw[hsz];omega) hge hge (fun e=>by simp at e)
theorem zlL{H:Array Obj}{μ:Mu}:∀{els:List (List D)} {l:List UInt8} {vs:List Value},zdG els=some l->zaq H μ ρ c els.flatten vs->
  ∃ns:List Int,vs=ns.map (Value.int .u8)/\l=ns.map fun n=>UInt8.ofNat n.toNat
 |[],l,vs,hb,hr=>by
  simp[zdG]at hb;subst hb;simp only[List.flatten_nil,zaq]at hr;subst hr;exact⟨[],rfl,rfl⟩
 |el::els,l,vs,hb,hr=>by
  unfold zdG at hb;split at hb
  .simp_all
  .rename_i n els' heq;simp at heq;obtain⟨rfl,rfl⟩ :=heq;split at hb
   .rename_i r hr';simp at hb;subst hb;simp only[Z91,List.singleton_append,zaq]at hr;obtain⟨v,m,rfl,hv,hm⟩ :=hr;simp only[Rel,zaj]at hv;subst hv;obtain⟨ns,rfl,rfl⟩ :=zlL hr' hm;exact⟨n::ns,rfl,rfl⟩
   .simp at hb
  .simp at hb
theorem zJ0(s:Sim amb w.heap h ρ c){x:D}{u:Value}{els:List (List D)}{rd:List Nat}{l:List UInt8}(hx:Rel w.heap (zal amb h ρ) ρ c x u)(hns:∀q,x≠ .f (.s q))
  (he:elemsOf 1 h x=some (els,rd))(hb:zdG els=some l):(Conv.bytesToString u).run P w= .ok (.string ⟨⟨l⟩⟩) w:=by
 obtain⟨vs,E⟩ :=ziT (P:=P) s hx he;obtain⟨ns,e1,e2⟩ :=zlL hb E.rel;have hvl:vs.length=els.length:=by rw[E.rel.len,za5 E.el];simp
 have hsl:(u= .slice none 0 0/\els=[])\/∃a n cap,u= .slice (some a) n cap/\n=els.length:=by
  unfold elemsOf at he;split at he
  .simp at he;obtain⟨rfl,_⟩ :=he;simp only[Rel,zaj]at hx;exact .inl ⟨hx,rfl⟩
  .split at he
   .simp at he;obtain⟨rfl,_⟩ :=he;simp only[Rel,zaj]at hx;obtain⟨a,cap,rfl,_⟩ :=hx;exact .inr ⟨_,_,_,rfl,by simp⟩
   .simp at he
  .split at he
   .split at he
    .rename_i hc;simp at he;obtain⟨rfl,_⟩ :=he;simp only[Rel]at hx;obtain⟨_,a,cap,rfl,_⟩ :=hx;exact .inr ⟨_,_,_,rfl,by simp;omega⟩
    .simp at he
   .simp at he
  .exact absurd rfl (hns _)
  .simp at he
 rcases hsl with⟨rfl,rfl⟩ |⟨a,n,cap,rfl,rfl⟩
 .simp[zdG]at hb;subst hb;simp[Conv.bytesToString];rfl
 .have hf:=E.first w els.length rfl (Z2 _);simp only[Builtin.firstCells,Z178]at hf;rw[<-hvl,Z7,hvl,e1]at hf;have:=run_bytesToString (P:=P) w a els.length cap ns hf;rw[this,foldl_push_bytes,e2]
  congr 3
  simp
def zxv{kt:TypeId}{kd:Nat}(hk:ziw P kt=some kd)(b:Bool)(n:Nat)(v:Value):(Instr.checkKey b (n+1) kt v).run P w= .ok () w:=by
 unfold ziw at hk;split at hk
 all_goals first
  |(simp at hk;done)
  |(rename_i hu;simp only[Instr.checkKey,Sem.run_bind,zax hu,Result.andThen_ok];rfl)
theorem zvL{kt:TypeId}{kd:Nat}{td:TypeDesc}(hk:ziw P kt=some kd)(hu:P.underlying kt=some td){a b:F}{r:Bool}{u v:Value}{H:Array Obj}{μ:Mu}
  (he:ziU kd a b=some r)(ha:zaj H μ a u)(hb:zaj H μ b v):Instr.sameNow td u v=some r:=by
 unfold ziw at hk;rw[hu]at hk;unfold ziU at he;split at he
 .split at he
  .rename_i hkk;simp at he;subst he;simp only[zaj]at ha hb;subst ha hb;split at hk<;>simp_all;rename_i heq;subst heq;simp[Instr.sameNow]
  .simp at he
 .simp at he;subst he;simp only[zaj]at ha hb;subst ha hb;split at hk<;>simp_all;rename_i heq;subst heq;simp[Instr.sameNow,beq_toListBytes]
 .simp at he;subst he;simp only[zaj]at ha hb;subst ha hb;split at hk<;>simp_all;rename_i heq;subst heq;simp[Instr.sameNow]
 .simp at he
theorem zpe{kt:TypeId}{kd:Nat}{td:TypeDesc}(hk:ziw P kt=some kd)(hu:P.underlying kt=some td){k:F}{kv:Value}{H:Array Obj}{μ:Mu}(hkv:zaj H μ k kv):
  ∀(ents:List (F×D)) (es:List MapEntry) (i:Nat) (r:Option (Nat×D)),za4 H μ ρ c ents es->zc1 kd k ents i=some r->
   (r=none/\Instr.findNow td kv es i=some none)\/∃j d e,r=some (i+j,d)/\es[j]? =some e/\Rel H μ ρ c d e.val/\Instr.findNow td kv es i=some (some (i+j,e.val))/\
    (∃a,zaj H μ a e.key/\ziU kd k a=some true)
 |[],es,i,r,he,hf=>by
  simp only[za4]at he;subst he;simp[zc1]at hf;exact .inl ⟨hf.symm,rfl⟩
 |(a,v)::ents,es,i,r,he,hf=>by
  simp only[za4]at he;obtain⟨e,m,rfl,h1,h2,h3⟩ :=he;unfold zc1 at hf;split at hf
  .rename_i hq;simp at hf;subst hf;refine .inr ⟨0,v,e,by simp,rfl,h2,?_,a,h1,hq⟩;simp[Instr.findNow,zvL hk hu hq hkv h1]
  .rename_i hq;have hs:=zvL hk hu hq hkv h1;rcases zpe hk hu hkv ents m (i+1) r h3 hf with⟨rfl,h4⟩ |⟨j,d,e',rfl,h4,h5,h6,h7⟩
   .exact .inl ⟨rfl,by simp[Instr.findNow,hs,h4]⟩
   .refine .inr ⟨j+1,d,e',by simp;omega,by simpa using h4,h5,?_,h7⟩;simp only[Instr.findNow,hs,h6];simp;omega
  .simp at hf
end
end Go.Vse
end
section
namespace Go.Vse
variable [Globs]
open Go.RowKit
section
variable {P:Program}{w:World}{amb:Mu}{h:Hp}{ρ:Nat->Option Nat}{c:Nat->Prop}
def zuP{kt:TypeId}{kd:Nat}(hk:ziw P kt=some kd):∃td,P.underlying kt=some td:=by
 unfold ziw at hk;split at hk<;>first|(simp at hk;done)|exact⟨_,by assumption⟩
def zDo{H:Array Obj}{μ:Mu}{t:TypeId}{z:F}(hz:zrn P t=some z):∃v,(∀w:World,(zeroValue t).run P w= .ok v w)/\zaj H μ z v:=by
 unfold zrn at hz;cases hi:P.info? t with
 |none=>simp[hi]at hz
 |some i=>
  simp only[hi]at hz;cases hv:i.zero with
  |none=>simp[hv]at hz
  |some v=>
   simp only[hv]at hz;exact⟨v,fun w=>zgo hi hv,zqb hz⟩
def zia{W:World}{r:Nat}{es:Array MapEntry}{clock:Nat}(hr:W.heap[r]? =some (.map es clock)):(getObj r).run P W= .ok (.map es clock) W:=by
 simp only[getObj,Sem.run,hr]
def mlkD(ok:Bool)(z:F):Option (Nat×D)->D
 |some (_,d)=>if ok then .tu [d,.f (.b true)]else d
 |none=>if ok then .tu [z.d,.f (.b false)]else z.d
theorem zKp(s:Sim amb w.heap h ρ c){t kt e:TypeId}{kd:Nat}{z:F}(hu:P.underlying t=some (.map kt e))(hk:ziw P kt=some kd)(hz:zrn P e=some z)
  {k:F}{kv:Value}(hkv:zaj w.heap (zal amb h ρ) k kv){m:D}{mv:Value}(hm:Rel w.heap (zal amb h ρ) ρ c m mv)(ok:Bool){r:Option (Nat×D)}{ents:List (F×D)}
  (he:(m= .f .nilm/\ents=[])\/∃id,m= .mp id/\h id=some (.map ents))(hf:zc1 kd k ents 0=some r):
  ∃v,(Instr.lookup t mv kv ok).run P w= .ok v w/\Rel w.heap (zal amb h ρ) ρ c (mlkD ok z r) v:=by
 obtain⟨td,htd⟩ :=zuP hk;obtain⟨zv,hzv,hzr⟩ :=zDo (H:=w.heap) (μ:=zal amb h ρ) hz;have hobj:∃es:Array MapEntry,za4 w.heap (zal amb h ρ) ρ c ents es.toList/\((mv= .map none/\es= #[])\/∃b clock,mv= .map (some b)/\w.heap[b]? =some (.map es clock)):=by
  rcases he with⟨rfl,rfl⟩ |⟨id,rfl,ho⟩
  .simp only[Rel,zaj]at hm;exact⟨#[],by simp[za4],.inl ⟨hm,rfl⟩⟩
  .obtain⟨b,hb,es,clock,h1,h2⟩ :=s.obj id _ ho;simp only[Rel]at hm;obtain⟨_,rr,rfl,hrr⟩ :=hm;rw[hrr b hb];exact⟨es,h2.1,.inr ⟨b,clock,rfl,h1⟩⟩
 obtain⟨es,hes,hmv⟩ :=hobj;have hchk:=fun q=>zxv (P:=P) (w:=w) hk q 9999 kv
 have fin:∀(d:D) (v:Value) (q:Bool),Rel w.heap (zal amb h ρ) ρ c d v->Rel w.heap (zal amb h ρ) ρ c (if ok then .tu [d,.f (.b q)]else d) (if ok then .tuple #[v,.bool q]else v):=by
  intro d v q hd;cases ok
  .exact hd
  .simp only[Z60,Rel,zaq,zaj];exact⟨[v,.bool q],rfl,v,[.bool q],rfl,hd,.bool q,[],rfl,rfl,rfl⟩
 rcases zpe (ρ:=ρ) (c:=c) hk htd hkv ents es.toList 0 r hes hf with⟨rfl,h4⟩ |⟨j,d,e',rfl,h4,h5,h6,_⟩
 .refine⟨if ok then .tuple #[zv,.bool false]else zv,?_,fin _ _ _ (zaj.d z zv hzr)⟩;rcases hmv with⟨rfl,rfl⟩ |⟨b,clock,rfl,hb⟩
  .have:=hchk true;simp at h4;simp[Instr.lookup,zax hu,this,Instr.findKey,zax htd,h4,hzv]
  .simp[Instr.lookup,zax hu,zia hb,hchk,Instr.findKey,zax htd,h4,hzv]
 .refine⟨if ok then .tuple #[e'.val,.bool true]else e'.val,?_,fin _ _ _ h5⟩;simp only[Z25]at h6;rcases hmv with⟨rfl,rfl⟩ |⟨b,clock,rfl,hb⟩
  .simp at h4
  .simp[Instr.lookup,zax hu,zia hb,hchk,Instr.findKey,zax htd,h6]
theorem za4.len{H:Array Obj}{μ:Mu}:∀{l:List (F×D)} {es:List MapEntry},za4 H μ ρ c l es->es.length=l.length
 |[],es,he=>by simp only[za4]at he;simp[he]
 |(k,d)::l,es,he=>by
  obtain⟨e,m,rfl,_,_,h3⟩ :=he;simp[za4.len h3]
theorem za4.put{H:Array Obj}{μ:Mu}{k:F}{d:D}{e':MapEntry}(hk:zaj H μ k e'.key)(hd:Rel H μ ρ c d e'.val):
  ∀{l:List (F×D)} {es:List MapEntry} (i:Nat),za4 H μ ρ c l es->za4 H μ ρ c (l.set i (k,d)) (es.set i e')
 |[],es,i,he=>by simp only[za4]at he;subst he;simp[za4]
 |(k0,d0)::l,es,i,he=>by
  obtain⟨e,m,rfl,h1,h2,h3⟩ :=he;cases i with
  |zero=>exact⟨e',m,rfl,hk,hd,h3⟩
  |succ i=>exact⟨e,m.set i e',rfl,h1,h2,za4.put hk hd i h3⟩
theorem za4.snoc{H:Array Obj}{μ:Mu}{k:F}{d:D}{e':MapEntry}(hk:zaj H μ k e'.key)(hd:Rel H μ ρ c d e'.val):
  ∀{l:List (F×D)} {es:List MapEntry},za4 H μ ρ c l es->za4 H μ ρ c (l++[(k,d)]) (es++[e'])
 |[],es,he=>by simp only[za4]at he;subst he;exact⟨e',[],rfl,hk,hd,rfl⟩
 |(k0,d0)::l,es,he=>by
  obtain⟨e,m,rfl,h1,h2,h3⟩ :=he;exact⟨e,m++[e'],rfl,h1,h2,za4.snoc hk hd h3⟩
def zCS{kd:Nat}{a b:F}{u v:Value}{H:Array Obj}{μ:Mu}(he:ziU kd a b=some true)(ha:zaj H μ a u)(hb:zaj H μ b v)(n:Nat):Instr.sameBits n v u=true:=by
 unfold ziU at he;split at he
 .split at he
  .rename_i hk;simp at he;subst hk he;simp only[zaj]at ha hb;subst ha hb;simp[Instr.sameBits]
  .simp at he
 .simp at he;subst he;simp only[zaj]at ha hb;subst ha hb;cases n<;>simp[Instr.sameBits,beq_toListBytes]
 .simp at he;subst he;simp only[zaj]at ha hb;subst ha hb;cases n<;>simp[Instr.sameBits]
 .simp at he
def zfy.push{es:Array MapEntry}{clock:Nat}{e:MapEntry}(h:zfy es.toList clock)(he:e.born=clock):zfy (es.push e).toList (clock+1):=by
 obtain⟨h1,h2⟩ :=h;rw[Array.toList_push];refine⟨?_,fun x hx=> ?_⟩
 .rw[Z20,Z90];refine⟨h1,by simp,fun a ha b hb=> ?_⟩;obtain⟨x,hx,rfl⟩ :=Z12.1 ha;simp only[Z10,Z85,Z31]at hb;have:=h2 x hx;omega
 .rcases Z4.1 hx with hx|hx
  .have:=h2 x hx;omega
  .simp only[Z31]at hx;subst hx;omega
def zfy.put{es:List MapEntry}{clock j:Nat}{e e':MapEntry}(h:zfy es clock)(hj:es[j]? =some e')(he:e.born=e'.born):zfy (es.set j e) clock:=by
  obtain⟨h1,h2⟩ :=h;obtain⟨hlt,hge⟩ :=Z8.1 hj;refine⟨?_,fun x hx=> ?_⟩
  . have:(es.set j e).map (·.born)=es.map (·.born):=by
      rw[Z116,he];have hl:j< (es.map (·.born)).length:=by simpa using hlt
      have:e'.born=(es.map (·.born))[j]:=by simp[hge]
      rw[this,Z95]
    rw[this];exact h1
  . rcases Z156 hx with hx|rfl
    . exact h2 x hx
    . rw[he];exact h2 e' (hge▸Z1 hlt)
theorem Sim.zCq(s:Sim amb w.heap h ρ c){id b clock clock':Nat}{es es':Array MapEntry}{ents ents':List (F×D)}(ho:h id=some (.map ents))(hb:ρ id=some b)
  (hH:w.heap[b]? =some (.map es clock))(he:∀μ' ρ' c' H',Keep w.heap (zal amb h ρ) ρ c H' μ' ρ' c'->za4 H' μ' ρ' c' ents' es'.toList)(hbo:zfy es'.toList clock')(W:Nat->Prop)(hW:W id):
  Sim amb (w.heap.setIfInBounds b (.map es' clock')) (upd h id (some (.map ents'))) ρ c/\
  Evo amb W w.heap h ρ c (w.heap.setIfInBounds b (.map es' clock')) (upd h id (some (.map ents'))) ρ c:=by
 have hlt:b<w.heap.size:=(Z44.1 hH).1;refine s.update W hW ho hb (by simp) (fun b' hb'=>by rw[Z93 (fun e=>hb' e.symm)]) (fun _ _=>trivial)
  (fun i v hi hv=>absurd trivial hi) (fun x hx=> ?_) fun μ' ρ' c' hk=>⟨es',clock',by simp[hlt],he _ _ _ _ hk,hbo⟩
 unfold zcZ at hx;rw[hH]at hx;simp at hx
theorem zqZ{W:World}{r clock:Nat}{es:Array MapEntry}(hr:W.heap[r]? =some (.map es clock))(o:Obj):
  (setObj r o).run P W= .ok () {W with heap:=W.heap.setIfInBounds r o}:=by
 simp only[setObj,Sem.run,hr]
theorem zxy(s:Sim amb w.heap h ρ c){n:Nat}{t kt e:TypeId}{kd:Nat}(hu:P.underlying t=some (.map kt e))(hk:ziw P kt=some kd)
  {k:F}{kv:Value}(hkv:zaj w.heap (zal amb h ρ) k kv){id:Nat}{mv:Value}(hm:Rel w.heap (zal amb h ρ) ρ c (.mp id) mv){d:D}{dv:Value}(hd:Rel w.heap (zal amb h ρ) ρ c d dv)
  {ents ents':List (F×D)}(ho:h id=some (.map ents)){r:Option (Nat×D)}(hf:zc1 kd k ents 0=some r)
  (hr:ents'=match r with|some (i,_)=>ents.set i (k,d)|none=>ents++[(k,d)]):
  ∃w',(Instr.mapUpdate t mv kv dv).run P w= .ok () w'/\Post amb w h ρ c n {d:= .f .un,rd:=[id],wr:=[(id,some (.map ents'))],c:=n} undef w':=by
 obtain⟨td,htd⟩ :=zuP hk;obtain⟨b,hb,es,clock,h1,h2⟩ :=s.obj id _ ho;simp only[Rel]at hm;obtain⟨_,rr,rfl,hrr⟩ :=hm;have hrb:=hrr b hb;subst hrb;have hchk:=fun q=>zxv (P:=P) (w:=w) hk q 9999 kv
 rcases zpe (ρ:=ρ) (c:=c) hk htd hkv ents es.toList 0 r h2.1 hf with⟨rfl,h4⟩ |⟨j,d',e',rfl,h4,h5,h6,a,h7,h8⟩
 .simp only at hr;subst hr;obtain⟨s1,s2⟩ :=s.zCq (ents':=ents++[(k,d)]) (es':=es.push {key:=kv,val:=dv,born:=clock}) (clock':=clock+1) ho hb h1
   (fun μ' ρ' c' H' hkp=>by
    rw[Array.toList_push];exact za4.snoc (zaj.keep hkp.cell _ _ hkv) (Rel.keep hkp _ _ hd) (za4.keep hkp _ _ h2.1)) (zfy.push h2.2 rfl) (fun x=>x∈[(id,some (Ob.map (ents++[(k,d)])))].map (·.1)) (by simp)
  refine⟨{w with heap:=w.heap.setIfInBounds rr (.map (es.push {key:=kv,val:=dv,born:=clock}) (clock+1))},?_,Post.mk0 rfl ⟨rfl,rfl,rfl,by first|exact Z2 _|exact Z128 _⟩ (by simp only[Rel,zaj];rfl) s1 s2⟩;simp[Instr.mapUpdate,zax hu,zia h1,hchk,Instr.findKey,zax htd,h4,zqZ h1]
 .simp only[Z25]at hr h6;subst hr;have hlt:j<es.toList.length:=(Z8.1 h4).1;have hej:es[j]? =some e':=by rw[<-Z69];exact h4
  have hlist:(es.modify j fun e=>{e with key:=kv,val:=dv}).toList=es.toList.set j {e' with key:=kv,val:=dv}:=by
   apply Z107;intro i;rw[Z69,Z171,Z87]
   by_cases hij:j=i
   .subst hij;simp[hej];omega
   .simp[hij]
  obtain⟨s1,s2⟩ :=s.zCq (ents':=ents.set j (k,d)) (es':=es.modify j fun e=>{e with key:=kv,val:=dv}) (clock':=clock) ho hb h1
   (fun μ' ρ' c' H' hkp=>by
    rw[hlist];exact za4.put (e':={e' with key:=kv,val:=dv}) (zaj.keep hkp.cell _ _ hkv) (Rel.keep hkp _ _ hd) j (za4.keep hkp _ _ h2.1)) (by rw[hlist];exact zfy.put h2.2 h4 rfl) (fun x=>x∈[(id,some (Ob.map (ents.set j (k,d))))].map (·.1)) (by simp)
  refine⟨{w with heap:=w.heap.setIfInBounds rr (.map (es.modify j fun e=>{e with key:=kv,val:=dv}) clock)},?_,Post.mk0 rfl ⟨rfl,rfl,rfl,by first|exact Z2 _|exact Z128 _⟩ (by simp only[Rel,zaj];rfl) s1 s2⟩;have hsb:=zCS h8 hkv h7 10000;have hstay:(Instr.keyThatStays e'.key kv).run P w= .ok kv w:=by simp[Instr.keyThatStays,hsb]
  simp[Instr.mapUpdate,zax hu,zia h1,hchk,Instr.findKey,zax htd,h6,hej,hstay,zqZ h1]
theorem zKq(s:Sim amb w.heap h ρ c){n:Nat}(hcn:¬c n)(t:TypeId):
  ∃v w',(Instr.makeMap t none).run P w= .ok v w'/\Post amb w h ρ c n {d:= .mp n,wr:=[(n,some (.map []))],c:=n+1} v w':=by
 obtain⟨s1,s2⟩ :=s.alloc hcn (.map #[] 0) (.map []) (fun x=>x∈[(n,some (Ob.map []))].map (·.1)) fun H' μ' ρ' c' hk hb=>⟨#[],0,hb,by simp[za4],by simp[zfy]⟩
 refine⟨.map (some w.heap.size),{w with heap:=w.heap.push (.map #[] 0)},by simp[Instr.makeMap],Post.mk1 rfl ⟨rfl,rfl,rfl,by first|exact Z2 _|exact Z128 _⟩ (ρ':=upd ρ n (some w.heap.size)) ?_ s1 s2⟩;simp only[Rel];exact⟨by simp,_,rfl,fun b hb=>by simp at hb;exact hb⟩
end
end Go.Vse
end
section
namespace Go.Vse
variable [Globs]
open Go.RowKit
def Does(P:Program)(s:Sem Next)(w:World)(v:Value)(w':World):Prop:=
 s.run P w= .ok (.value v) w'\/(s.run P w= .ok .skip w'/\v=undef)
section
variable {P:Program}{w:World}{amb:Mu}{h:Hp}{ρ:Nat->Option Nat}{c:Nat->Prop}{pur:Nat->Bool}
def zcI(w:World)(amb:Mu)(h:Hp)(ρ:Nat->Option Nat)(c:Nat->Prop)(g:A->Option D)(ev:Operand->Value):Prop:=
 ∀x y d,opA x=some y->g y=some d->Rel w.heap (zal amb h ρ) ρ c d (ev x)
variable {g:A->Option D}{ev:Operand->Value}
theorem zcI.list(E:zcI w amb h ρ c g ev):∀{xs:List Operand} {ys:List A} {ds:List D},zat opA xs=some ys->zat g ys=some ds->
  zaq w.heap (zal amb h ρ) ρ c ds (xs.map ev)
 |[],ys,ds,h1,h2=>by
  simp[zat]at h1;subst h1;simp[zat]at h2;subst h2;simp[zaq]
 |x::xs,ys,ds,h1,h2=>by
  unfold zat at h1;split at h1
  .simp at h1
  .rename_i y hy;split at h1
   .simp at h1
   .rename_i m hm;simp at h1;subst h1;unfold zat at h2;split at h2
    .simp at h2
    .rename_i d hd;split at h2
     .simp at h2
     .rename_i m' hm';simp at h2;subst h2;simp only[Z10,zaq];exact⟨_,_,rfl,E x y d hy hd,zcI.list E hm hm'⟩
theorem zcI.opt(E:zcI w amb h ρ c g ev){x:Option Operand}{y:Option A}{d:Option D}(h1:zdp opA x=some y)(h2:zdp g y=some d):
  zeL w.heap (zal amb h ρ) ρ c d (x.map ev):=by
 cases x with
 |none=>
  simp[zdp]at h1;subst h1;simp[zdp]at h2;subst h2;simp[zeL]
 |some x=>
  unfold zdp at h1;simp only at h1;split at h1
  .simp at h1
  .rename_i y' hy;simp at h1;subst h1;unfold zdp at h2;simp only at h2;split at h2
   .simp at h2
   .rename_i d' hd;simp at h2;subst h2;exact E x y' d' hy hd
def znL{α β:Type}{f:α->Option β}{x:Option α}{y:Option β}(hx:zdp f x=some y):y.isSome=x.isSome:=by
 cases x with
 |none=>simp[zdp]at hx;subst hx;rfl
 |some x=>
  unfold zdp at hx;simp only at hx;split at hx
  .simp at hx
  .simp at hx;subst hx;rfl
theorem zgm{α β:Type}{f:α->Option β}:∀{l:List α} {m:List β},zat f l=some m->m.length=l.length
 |[],m,h1=>by simp[zat]at h1;subst h1;rfl
 |x::l,m,h1=>by
  unfold zat at h1;split at h1
  .simp at h1
  .split at h1
   .simp at h1
   .rename_i m' hm;simp at h1;subst h1;simp[zgm hm]
theorem zhz{α β:Type}{f:α->Option β}:∀{l:List α} {m:List β},zat f l=some m->∀(k:Nat) y,m[k]? =some y->∃x,l[k]? =some x/\f x=some y
 |[],m,h1,k,y,hk=>by simp[zat]at h1;subst h1;simp at hk
 |x::l,m,h1,k,y,hk=>by
  unfold zat at h1;split at h1
  .simp at h1
  .rename_i y' hy';split at h1
   .simp at h1
   .rename_i m' hm;simp at h1;subst h1;cases k with
    |zero=>simp at hk;subst hk;exact⟨x,rfl,hy'⟩
    |succ k=>
     obtain⟨x',h2,h3⟩ :=zhz hm k y (by simpa using hk);exact⟨x',by simpa using h2,h3⟩
def za2{s:Sem Value}{v:Value}{w':World}(hs:s.run P w= .ok v w'):Does P (do pure (Next.value (<-s))) w v w':=by
 left;simp[hs]
def zBN{s:Sem Unit}{w':World}(hs:s.run P w= .ok () w'):Does P (do s;pure Next.skip) w undef w':=by
 right;simp[hs]
def zay{α β:Type}{x:Option α}{f:α->Option β}{y:β}(hx:(do f (<-x))=some y):∃a,x=some a/\f a=some y:=by
 cases x with
 |none=>simp at hx
 |some a=>exact⟨a,rfl,by simpa using hx⟩
def zeF{α β:Type}{x:Option α}{f:α->β}{y:β}(hx:x.map f=some y):∃a,x=some a/\y=f a:=by
 cases x with
 |none=>simp at hx
 |some a=>exact⟨a,rfl,by simpa using hx.symm⟩
end
end Go.Vse
end
