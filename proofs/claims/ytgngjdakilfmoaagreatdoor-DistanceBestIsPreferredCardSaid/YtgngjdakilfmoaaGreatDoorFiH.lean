import Derived.Test.YtgngjdakilfmoaaGreatDoorFiF
import Derived.Test.YtgngjdakilfmoaaGreatDoorFiG
import Derived.Sort.Grow
import Derived.Deep.Draws
import Derived.Laws.IdiomRangeMap
set_option linter.unusedVariables false
set_option linter.unusedSimpArgs false
namespace Fi
open Go
section
structure Env.Le (E E':Env):Prop where
 fn:E'.fn=E.fn
 eG:E'.eG=E.eG
 jq:E'.jq=E.jq
 iO:∀ g p,E.iO g=some p->E'.iO g=some p
section up
variable {E E':Env} {r r':Nat->List FV->List ah->bJ}
theorem nX (h:E'.eG=E.eG)(st:St)(env:List FV):dw E' st env=dw E st env:=by
 funext x;cases x<;>simp[dw,h]
theorem GV (h:E'.eG=E.eG)(st:St)(env:List FV):∀ xs,fF E' st env xs=fF E st env xs
 | []=>rfl
 | x::xs=>by simp only[fF,nX h,GV h st env xs]
theorem yG (h:E'.eG=E.eG)(st:St)(env:List FV):∀ ps,ic E' st env ps=ic E st env ps
 | []=>rfl
 | a::ps=>by simp only[ic,nX h,yG h st env ps]
theorem ER (h:E'.eG=E.eG)(st:St)(env:List FV)(p:Arg):∀ ps,mi E' st env p ps=mi E st env p ps
 | []=>rfl
 | a::ps=>by simp only[mi,nX h,ER h st env p ps]
theorem AZ (h:E'.eG=E.eG)(st:St)(env:List FV)(p:Arg):∀ ps,mR E' st env p ps=mR E st env p ps
 | []=>rfl
 | a::ps=>by simp only[mR,nX h,AZ h st env p ps]
theorem Ja {st:St}{g:Nat}{xs:List FV}:eB E' r st g xs=eB E r st g xs:=by
 have hd:E'.deq=E.deq:=by funext a b;exact Subsingleton.elim _ _
 unfold eB;rw[hd]
theorem YM (h:E'.eG=E.eG){draw:Bool}{st:St}{env:List FV}{k:K}:runK E' r draw st env k=runK E r draw st env k:=by
 have ha:=nX h st env;have hl:fF E' st env=fF E st env:=funext (GV h st env);have hp:=yG h st env;have hf:=ER h st env;have hr:=AZ h st env;have hw:=fun g xs=>Ja (E:=E) (E':=E') (r:=r) (st:=st) (g:=g) (xs:=xs)
 cases k<;>simp only[runK,ha,hl,hp,hw,hf,hr,mJ,BL]
theorem wR (h:E'.eG=E.eG):∀ {ops:List jE} {st:St} {env:List FV},eu E' r ops st env=eu E r ops st env
 | [],st,env=>rfl
 | o::rest,st,env=>by
  unfold eu;simp only[YM h,wR h (ops:=rest)]
theorem sU (h:E.Le E'){run run':aF->St->Option (Out × St)}(hr:∀ c st z,run c st=some z->run' c st=some z){g:Nat}{args:List FV}{B:List ah}{x:FV × Option (List ah)}(hx:enter E g args B run=some x) :
  enter E' g args B run'=some x:=by
 unfold enter at hx ⊢;rw[h.jq,h.fn];split at hx
 ·exact hx
 ·split at hx
  ·split at hx
   ·rename_i p hp;rw[h.iO g p hp];exact hx
   ·cases hx
  ·rename_i F hF;split at hx
   ·rename_i hl;rw[if_pos hl];generalize hi:({vars:=args++List.replicate (F.nv-F.np) FV.u,base:=B,loc:=[],aX:=false}:St)=s0 at hx ⊢;cases he:run F.body s0 with
    | none=>rw[he]at hx;cases hx
    | some z=>rw[hr _ _ _ he];rw[he]at hx;exact hx
   ·cases hx
theorem xB (h:E.Le E'):∀ (n:Nat) (c:aF) (st:St) (z:Out × St),exec E n c st=some z->exec E' n c st=some z
 | 0,_,_,_,h=>by cases h
 | n+1,c,st,z,hx=>by
  have ih:=xB h n;have hc:Fi.Le (cz E n) (cz E' n):=fun g args B x hx=>sU h ih hx
  cases c with
  | skip=>exact hx
  | ret=>exact hx
  | exit id=>exact hx
  | kill js=>exact hx
  | region ops outs apart =>
   rw[um]at hx ⊢;split at hx
   ·rename_i ha;rw[if_pos ha];split at hx
    ·rename_i st' env hr;rw[wR h.eG,ma hc hr];exact hx
    ·cases hx
   ·cases hx
  | seq a b =>
   rw[uk]at hx ⊢;cases ha:exec E n a st with
   | none=>rw[ha]at hx;cases hx
   | some z1 =>
    rw[ih _ _ _ ha];rw[ha]at hx;obtain⟨o,st1⟩:=z1;cases o with
    | norm=>exact ih _ _ _ hx
    | exit id=>exact hx
    | ret=>exact hx
  | cond x a b =>
   rw[zU]at hx ⊢;rw[nX h.eG];split at hx
   ·exact ih _ _ _ hx
   ·cases hx
  | block id b =>
   rw[lh]at hx ⊢;cases hb:exec E n b st with
   | none=>rw[hb]at hx;cases hx
   | some z1=>rw[ih _ _ _ hb];rw[hb]at hx;exact hx
  | loop b =>
   rw[ql]at hx ⊢;cases hb:exec E n b st with
   | none=>rw[hb]at hx;cases hx
   | some z1 =>
    rw[ih _ _ _ hb];rw[hb]at hx;obtain⟨o,st1⟩:=z1;cases o with
    | norm=>exact ih _ _ _ hx
    | exit id=>exact hx
    | ret=>exact hx
theorem Ca.up (h:E.Le E'){g:Nat}{args:List FV}{x:FV × Option (List ah)}(hc:Ca E g args x):Ca E' g args x:=by
 obtain⟨n0,hc⟩:=hc;exact⟨n0,fun n hn=>sU h (xB h n) (hc n hn)⟩
end up
theorem R4 {I I':Nat->Prop}{w w':World}(h:Grow True I I' w w'):∃ q os,w'=Sort.grow (w.drewN q) os:=by
 refine⟨w'.drawn-w.drawn,w'.heap.extract w.heap.size w'.heap.size,?_⟩;have h1:=h.os;have h2:=h.tape;have h3:=h.output;have h4:=h.drawn trivial;have h5:=h.size;have h6:=h.keep;obtain⟨hp,tp,dr,os,out⟩:=w;obtain⟨hp',tp',dr',os',out'⟩:=w';simp only[Sort.grow,World.drewN]at*;subst h1;subst h2;subst h3;have e1:dr'=dr+(dr'-dr):=ae;have e2:hp'=hp++hp'.extract hp.size hp'.size:=by
  apply Array.ext_getElem?;intro i;rcases Qg0 i hp.size with hl|hl
  ·rw[Xj0 hl];exact h6 i hl
  ·rw[Array.getElem?_append_right hl,Xn1]
   by_cases hi:i<hp'.size
   ·rw[if_pos ae,show hp.size+(i-hp.size)=i by omega]
   ·rw[if_neg ae,Xz2 ae]
 congr 1
end
section
section iter
variable {P:Program}
theorem abl (w:World)(ty:TypeId)(r0 bm since last:Nat)(seen:Array Nat)(es:Array MapEntry)(clock:Nat)(hr:w.heap[r0]?=some (.mapIter (some bm) since seen last))(hb:w.heap[bm]?=some (.map es clock))
  (hold:∀ x ∈ es.toList,x.born<since) (hsc:since<=last) :
  ((leftOf es seen).size=0/\(Instr.next (.pointer (some ⟨r0,0,none⟩)) false ty).run P w=.ok (.tuple #[.bool false]) w) \/
  ∃ e ∈ (leftOf es seen).toList,∃ w1:World,(w1=w\/w1=w.drew)/\(Instr.next (.pointer (some ⟨r0,0,none⟩)) false ty).run P w=.ok (.tuple #[.bool true,e.key,e.val]) {w1 with heap:=w1.heap.setIfInBounds r0 (.mapIter (some bm) since (seen.push e.born) clock)}:=by
 simp only[Instr.next,getObj,Sem.run_bind,Sem.run,hr,hb,Result.andThen,next_test_false seen es since last hold hsc,Qh1,if_false];unfold leftOf;have hmem:∀ x ∈ (Array.filter (fun e => !seen.contains e.born) es).toList,x.born<since:=fun x hx=>hold x (by simp at hx ⊢;exact hx.1)
 generalize Array.filter (fun e => !seen.contains e.born) es=L at hmem ⊢;have e1:L.filter (fun x=>decide (x.born<since))=L:=Array.filter_eq_self.2 (fun x hx=>by simpa using hmem x (by simpa using hx));have e2:L.filter (fun x=>decide (x.born ≥ since))=#[]:=by
  rw[Array.filter_eq_empty_iff];intro x hx;have:=hmem x (by simpa using hx);simp;omega
 simp only[e1,e2,Array.append_empty]
 by_cases h0:L.size=0
 ·left
  have:L=#[]:=Array.eq_empty_of_size_eq_zero h0;subst this;refine⟨rfl,?_⟩;simp[choose,Sem.run,Question.forced]
 ·right
  have hne:L.isEmpty=false:=by simp[Array.isEmpty,h0]
  simp only[hne,Qh1,if_false,Array.empty_append,Array.size_map];have hch:∃ (j:Nat) (w1:World),j<L.size/\(w1=w\/w1=w.drew)/\(choose (Question.mapNext L.size)).run P w=.ok j w1:=by
   by_cases hf:L.size<=1
   ·exact⟨0,w,ae,.inl rfl,by simp[choose,Sem.run,Question.forced,hf]⟩
   ·exact⟨_,w.drew,Qu1 _ ae,.inr rfl,by
     simp only[choose,Sem.run,Question.forced,decide_eq_true_eq,hf,if_false,Question.cut];rfl⟩
  obtain⟨j,w1,hj,hal,hrun⟩:=hch;refine⟨L[j],aC,w1,hal,?_⟩;have hr1:w1.heap[r0]?=some (.mapIter (some bm) since seen last):=by rcases hal with rfl|rfl<;>exact hr
  have hset:∀ o',(setObj r0 o').run P w1=.ok () {w1 with heap:=w1.heap.setIfInBounds r0 o'}:=fun o'=>by
   simp[setObj,Sem.run,hr1]
  simp only[hrun,Array.getElem?_map,Qh0 hj,Q11,Sem.run_bind,hset,Result.andThen];rfl
theorem Xh (w:World)(r0 bm since:Nat)(seen:Array Nat)(es:Array MapEntry)(clock:Nat)(e:MapEntry)(hr:w.heap[r0]?=some (.mapIter (some bm) since (seen.push e.born) clock))(hb:w.heap[bm]?=some (.map es clock))(he:e ∈ es.toList)(hn:(es.toList.map (·.born)).Nodup) :
  (Instr.entry (.pointer (some ⟨r0,0,none⟩))).run P w=.ok (.tuple #[e.key,e.val]) w:=by
 have hf:es.find? (·.born==e.born)=some e:=by rw[<-Array.find?_toList];exact find_born e es.toList hn he
 simp only[Instr.entry,getObj,Sem.run_bind,Sem.run,hr,hb,Result.andThen,Array.back?_push,bne_self_eq_false,Qh1,if_false,hf];rfl
theorem fU {ops:Array Oper}{Q:Exit->Act->World->Prop}{o:Oper}{rest:List Oper}{a:Act}{w:World}{Φ:Value->World->Prop}(hg:o.guard=none)(h:Yields P o a.eval w Φ)
  (hK:∀ x w',Φ x w'->wpList P ops Q rest (a.put o.dst x) w'):wpList P ops Q (o::rest) a w:=by
 unfold wpList;have hw:Region.wanted o (yielded ops a.tmps)=true:=by simp[Region.wanted,hg]
 rw[hw];simp only[if_true];exact .inl (h.wp hK)
theorem jH {o:Oper}{ρ:Operand->Value}{w w':World}{x:Value}(h:(execOp ρ o).run P w=.ok (.value x) w'):Yields P o ρ w (fun y w''=>y=x/\w''=w'):=aB h ⟨rfl,rfl⟩
end iter
section other
variable {σ:Nat->Option FuncId} {β:Map} {I Wr:Nat->Prop} {w w':World} {n:Nat} {H:List ah} {mn:Prop}
theorem bf.other (h:bf σ n β I Wr (fun _=>True) H w){r0:Nat}(hr:¬ Wr r0)(hI:¬ I r0)(hsz:w'.heap.size=w.heap.size)(hk:∀ b,b≠r0->w'.heap[b]?=w.heap[b]?):bf σ n β I Wr (fun _=>True) H w':=by
 have hIk:∀ b,I b->w'.heap[b]?=w.heap[b]?:=fun b hb=>hk b (fun e=>hI (e ▸ hb))
 have hne:∀ (k:Nat) (o:ah) b bo cap,H[k]?=some o->o.live β k=some (b,bo,cap)->b≠r0:=fun k o b bo cap h1 h2 e=>hr (e ▸ (h.wr k o b bo cap h1 h2).1 trivial)
 refine⟨fun b hb=>hsz ▸ h.mf b hb,fun k v b bo cap hb=>hsz ▸ h.blt k v b bo cap hb,fun b hb=>h.kG b (hsz ▸ hb),h.dom,h.mO,h.wr,?_,?_,?_,h.inj,?_⟩
 ·intro k cs b bo cap h1 h2;obtain⟨a0,c,e,a1,a2,a3⟩:=h.box k cs b bo cap h1 h2;exact⟨a0,c,e,by rw[hk b (hne k _ b bo cap h1 h2)];exact a1,a2,fun j f x e1 e2=>(a3 j f x e1 e2).mono (fun _ _ _ h=>h) (fun _ h=>h) hIk⟩
 ·intro k av sz es b bo cap h1 h2;obtain⟨a0,c,e,a1,a2⟩:=h.row k av sz es b bo cap h1 h2;have hb:=hk b (hne k _ b bo cap h1 h2);exact⟨a0.mono (fun _ h=>h) hIk hb,c,e,by rw[hb];exact a1,a2⟩
 ·intro k av sz es b bo cap h1 h2;obtain⟨a0,a1⟩:=h.h_ k av sz es b bo cap h1 h2;exact⟨a0.mono (fun _ h=>h) hIk (hIk b a1),a1⟩
 ·intro k es b bo cap h1 h2;obtain⟨ms,clock,a1,a2⟩:=h.map k es b bo cap h1 h2;exact⟨ms,clock,by rw[hk b (hne k _ b bo cap h1 h2)];exact a1,a2.mono (fun _ h=>h) hIk⟩
theorem bn.other {cx:Cx}{vars env:List FV}{aL:List (Option Tmp)}{a:Act}(h:bn σ β I w n cx vars aL env a){r0:Nat}(hI:¬ I r0)(hk:∀ b,b≠r0->w'.heap[b]?=w.heap[b]?):bn σ β I w' n cx vars aL env a :=
 ⟨h.size,fun j t y h1 h2 h3=>(h.var j t y h1 h2 h3).mono (fun _ _ _ h=>h) (fun _ h=>h) (fun b hb=>hk b (fun e=>hI (e ▸ hb))),fun t j y h1 h2=>(h.loc t j y h1 h2).mono (fun _ _ _ h=>h) (fun _ h=>h) (fun b hb=>hk b (fun e=>hI (e ▸ hb)))⟩
end other
end
section
def JP (cs:List Value)(off n:Nat):List Value:=(cs.drop off).take n
theorem yH (cs:List Value)(off n m:Nat):JP cs off n++JP cs (off+n) m=JP cs off (n+m):=by
 unfold JP;rw[List.take_add,Xq1]
theorem Vg (cs:List Value):JP cs 0 cs.length=cs:=by simp[JP]
def qI (P:Program)(t:TypeId)(l:List (Nat × Nat × Nat))(sz:Nat):Bool :=
 match P.underlying t with
 | some (.struct fs)=>decide (fs.toList.map (fun f=>(f.type,f.offset,P.cellsOf f.type))=l)&&Nat.beq (P.cellsOf t) sz
 | _=>false
def sliceB (P:Program)(t e n:Nat):Bool :=
 match P.underlying t with
 | some (.slice e')=>Nat.beq e' e&&Nat.beq (P.cellsOf e) n
 | _=>false
def adX (P:Program)(t n e m:Nat):Bool :=
 match P.underlying t with
 | some (.array n' e')=>Nat.beq n' n&&Nat.beq e' e&&Nat.beq (P.cellsOf e) m
 | _=>false
def QW (P:Program)(t:Nat)(k:IntKind):Bool :=
 match P.underlying t with
 | some (.int k')=>decide (k'=k)
 | _=>false
def Vf (P:Program)(t:Nat):Bool :=
 match P.underlying t with
 | some .bool=>true
 | _=>false
section lift
variable {H:Type} {enc:TypeId × Value->H} {P:Program} {w:World} {base:Nat} {held:Bool} {σ:Nat->Option FuncId} {sp:Nat->Bool} {fuel:Nat} {cs:List Value} {x:DataW H × List MemPlace} {t:TypeId}
theorem Fx {l:List (Nat × Nat × Nat)}{sz:Nat}(hB:qI P t l sz=true)(h:DataW.trod enc P w base sp held fuel t cs=some x) :
  ∃ m,fuel=m+1/\cs.length=sz/\∀ (j T off n:Nat),l[j]?=some (T,off,n)->∃ y,DataW.trod enc P w base sp held m T (JP cs off n)=some y:=by
 unfold qI at hB;split at hB
 ·rename_i fs ht;simp only[Qd0,decide_eq_true_eq]at hB;obtain⟨hl,hs⟩:=hB;obtain⟨xs,m,hf,_,hlen,hxs,hget⟩:=DataW.trod_struct ht h;refine⟨m,hf,by rw[hlen];exact Ql0 hs,fun j T off n hj => ?_⟩;rw[<-hl,Qb1,Qf1]at hj;obtain⟨f,hfj,he⟩:=hj;simp only[Qm0]at he;obtain⟨rfl,rfl,rfl⟩:=he;have hj2:fs[j]?=some f:=by simpa using hfj
  have:=hget j f hj2;have hjl:j<xs.length:=by
   rw[hxs];exact(Q80.1 hj2).1
  rw[Qa1 hjl]at this;exact⟨_,this⟩
 ·cases hB
theorem YN {e n:Nat}(hB:sliceB P t e n=true):P.underlying t=some (.slice e)/\P.cellsOf e=n:=by
 unfold sliceB at hB;split at hB
 ·rename_i e' ht;simp only[Qd0]at hB;obtain⟨h1,h2⟩:=hB;obtain rfl:=Ql0 h1;exact⟨ht,Ql0 h2⟩
 ·cases hB
theorem YO {k:IntKind}(hB:QW P t k=true):P.underlying t=some (.int k):=by
 unfold QW at hB;split at hB
 ·rename_i k' ht;simp only[decide_eq_true_eq]at hB;rw[ht,hB]
 ·cases hB
theorem aci (hB:Vf P t=true):P.underlying t=some .bool:=by
 unfold Vf at hB;split at hB
 ·rename_i ht;exact ht
 ·cases hB
theorem zV {e:Nat}{k:IntKind}(hB:sliceB P t e 1=true)(he:QW P e k=true)(h:DataW.trod enc P w base sp held fuel t cs=some x) :
  ∃ l:List Int,(∀ n ∈ l,(Lit.int k n).wf=true)/\Rc σ (Here w) w [.s 1 (l.map fun n=>D.v (.int k n))] cs:=by
 obtain⟨ht,hc⟩:=YN hB;obtain⟨es,h1,h2⟩:=OP (σ:=σ) (Q:=fun d=>∃ n:Int,(Lit.int k n).wf=true/\d=.v (.int k n)) ht ae (fun n vs y _ hy=>by
  obtain⟨z,hz,hr⟩:=LH (σ:=σ) (YO he) hy;exact⟨_,⟨z,hz,rfl⟩,by rw[hc];rfl,by intro c hc';simp[D.cells]at hc';subst hc';rfl,hr⟩) h
 have:∀ es:List D,(∀ d ∈ es,∃ n:Int,(Lit.int k n).wf=true/\d=.v (.int k n))->∃ l:List Int,(∀ n ∈ l,(Lit.int k n).wf=true)/\es=l.map fun n=>D.v (.int k n):=by
  intro es
  induction es with
  | nil=>intro _;exact⟨[],aC,rfl⟩
  | cons d r ih =>
   intro hd;obtain⟨n,hn,rfl⟩:=hd d (Qi2 ..);obtain⟨l,hl,rfl⟩:=ih (fun d hd'=>hd d (Qg2 _ hd'));exact⟨n::l,by intro z hz;rcases Qi1.1 hz with rfl|hz;exact hn;exact hl z hz,rfl⟩
 obtain⟨l,hl,rfl⟩:=this es h1;rw[hc]at h2;exact⟨l,hl,h2⟩
theorem acj {ds:List D}{vs:Array Value}(h:Rc σ (Here w) w ds vs.toList):bE σ (Here w) w (.a ds) (.agg vs) :=
 .a (by simpa using h.1) (fun i d y h1 h2=>h.2 i d y h1 (by simpa using h2))
end lift
end
section
structure Env.Has (E' E:Env)(K g0:Nat)(p:List D->Option D):Prop where
 fn:E'.fn=E.fn
 eG:E'.eG=E.eG
 ve:E.jq g0=none
 ai8:E'.jq g0=some p
 jq:∀ g,g≠g0->E'.jq g=E.jq g
 iO:∀ g q,E'.iO g=some q->E.iO g=some q
 has:∀ ds v,p ds=some v->∀ n,K<=n->cz E n g0 (ds.map .d) []=some (.d v,none)
section has
variable {E E':Env} {K g0:Nat} {p:List D->Option D}
theorem LP:∀ {args:List FV} {ds:List D},jN args=some ds->args=ds.map .d
 | [],ds,h=>by simp[jN]at h;subst h;rfl
 | x::r,ds,h=>by
  cases x<;>simp only[jN]at h<;>try (cases h;done)
  split at h<;>simp at h;subst h;rename_i hr;rw[LP hr];rfl
theorem LQ (h:E'.Has E K g0 p){n:Nat}(hr:∀ c st z,exec E' n c st=some z->exec E (n+K) c st=some z){g:Nat}{args:List FV}{B:List ah}{x:FV × Option (List ah)}(hx:cz E' n g args B=some x) :
  cz E (n+K) g args B=some x:=by
 by_cases hg:g=g0
 ·subst hg;unfold cz enter at hx;rw[h.ai8]at hx;simp only at hx;split at hx
  ·rename_i ds hds;split at hx
   ·rename_i v hv;cases hx;rw[LP hds];exact h.has ds v hv (n+K) ae
   ·cases hx
  ·cases hx
 ·unfold cz enter at hx ⊢;rw[h.jq g hg,h.fn]at hx;split at hx
  ·exact hx
  ·split at hx
   ·split at hx
    ·rename_i q hq;rw[h.iO g q hq];exact hx
    ·cases hx
   ·rename_i F hF;split at hx
    ·rename_i hl;rw[if_pos hl];generalize hi:({vars:=args++List.replicate (F.nv-F.np) FV.u,base:=B,loc:=[],aX:=false}:St)=s0 at hx ⊢;cases he:exec E' n F.body s0 with
     | none=>rw[he]at hx;cases hx
     | some z=>rw[hr _ _ _ he];rw[he]at hx;exact hx
    ·cases hx
theorem LU (h:E'.Has E K g0 p):∀ (n:Nat) (c:aF) (st:St) (z:Out × St),exec E' n c st=some z->exec E (n+K) c st=some z
 | 0,_,_,_,h=>by cases h
 | n+1,c,st,z,hx=>by
  have ih:=LU h n;have hc:Fi.Le (cz E' n) (cz E (n+K)):=fun g args B x hx=>LQ h ih hx
  rw[show n+1+K=(n+K)+1 by omega];cases c with
  | skip=>exact hx
  | ret=>exact hx
  | exit id=>exact hx
  | kill js=>exact hx
  | region ops outs apart =>
   rw[um]at hx ⊢;split at hx
   ·rename_i ha;rw[if_pos ha];split at hx
    ·rename_i st' env hr;have h1:=wR (r:=cz E' n) h.eG (ops:=ops) (st:=st) (env:=[]);rw[h1]at hr;rw[ma hc hr];exact hx
    ·cases hx
   ·cases hx
  | seq a b =>
   rw[uk]at hx ⊢;cases ha:exec E' n a st with
   | none=>rw[ha]at hx;cases hx
   | some z1 =>
    rw[ih _ _ _ ha];rw[ha]at hx;obtain⟨o,st1⟩:=z1;cases o with
    | norm=>exact ih _ _ _ hx
    | exit id=>exact hx
    | ret=>exact hx
  | cond x a b =>
   rw[zU]at hx ⊢;rw[nX h.eG]at hx;split at hx
   ·exact ih _ _ _ hx
   ·cases hx
  | block id b =>
   rw[lh]at hx ⊢;cases hb:exec E' n b st with
   | none=>rw[hb]at hx;cases hx
   | some z1=>rw[ih _ _ _ hb];rw[hb]at hx;exact hx
  | loop b =>
   rw[ql]at hx ⊢;cases hb:exec E' n b st with
   | none=>rw[hb]at hx;cases hx
   | some z1 =>
    rw[ih _ _ _ hb];rw[hb]at hx;obtain⟨o,st1⟩:=z1;cases o with
    | norm=>exact ih _ _ _ hx
    | exit id=>exact hx
    | ret=>exact hx
theorem Rw (h:E'.Has E K g0 p){n g:Nat}{args:List FV}{B:List ah}{x:FV × Option (List ah)}(hx:cz E' n g args B=some x):cz E (n+K) g args B=some x:=LQ h (LU h n) hx
end has
end
end Fi
