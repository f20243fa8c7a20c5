import Derived.Test.YtkekcmgkpdkieaaGreatDoorFiF
import Derived.Test.YtkekcmgkpdkieaaGreatDoorFiG
import Derived.Sort.Grow
import Derived.Deep.Draws
import Derived.Laws.IdiomRangeMap
set_option linter.unusedVariables false
set_option linter.unusedSimpArgs false
namespace Fi
open Go
section
structure Env.Le (E E':Env):Prop where
 fn:E'.fn=E.fn
 dU:E'.dU=E.dU
 iK:E'.iK=E.iK
 iC:∀ g p,E.iC g=some p->E'.iC g=some p
section up
variable {E E':Env} {r r':Nat->List FV->List ai->bF}
theorem oz (h:E'.dU=E.dU)(st:St)(env:List FV):cu E' st env=cu E st env:=by
 funext x;cases x<;>simp[cu,h]
theorem EN (h:E'.dU=E.dU)(st:St)(env:List FV):∀ xs,eT E' st env xs=eT E st env xs
 | []=>rfl
 | x::xs=>by simp only[eT,oz h,EN h st env xs]
theorem wX (h:E'.dU=E.dU)(st:St)(env:List FV):∀ ps,f_ E' st env ps=f_ E st env ps
 | []=>rfl
 | a::ps=>by simp only[f_,oz h,wX h st env ps]
theorem Cz (h:E'.dU=E.dU)(st:St)(env:List FV)(p:Arg):∀ ps,jJ E' st env p ps=jJ E st env p ps
 | []=>rfl
 | a::ps=>by simp only[jJ,oz h,Cz h st env p ps]
theorem ze (h:E'.dU=E.dU)(st:St)(env:List FV)(p:Arg):∀ ps,jr E' st env p ps=jr E st env p ps
 | []=>rfl
 | a::ps=>by simp only[jr,oz h,ze h st env p ps]
theorem Gi {st:St}{g:Nat}{xs:List FV}:dK E' r st g xs=dK E r st g xs:=by
 have hd:E'.deq=E.deq:=by funext a b;exact Subsingleton.elim _ _
 unfold dK;rw[hd]
theorem VD (h:E'.dU=E.dU){draw:Bool}{st:St}{env:List FV}{k:K}:runK E' r draw st env k=runK E r draw st env k:=by
 have ha:=oz h st env;have hl:eT E' st env=eT E st env:=funext (EN h st env);have hp:=wX h st env;have hf:=Cz h st env;have hr:=ze h st env;have hw:=fun g xs=>Gi (E:=E) (E':=E') (r:=r) (st:=st) (g:=g) (xs:=xs)
 cases k<;>simp only[runK,ha,hl,hp,hw,hf,hr,iQ,zU]
theorem CJ (h:E'.dU=E.dU):∀ {ops:List iU} {st:St} {env:List FV},dJ E' r ops st env=dJ E r ops st env
 | [],st,env=>rfl
 | o::rest,st,env=>by
  unfold dJ;simp only[VD h,CJ h (ops:=rest)]
theorem qZ (h:E.Le E'){run run':aF->St->Option (Out × St)}(hr:∀ c st z,run c st=some z->run' c st=some z){g:Nat}{args:List FV}{B:List ai}{x:FV × Option (List ai)}(hx:enter E g args B run=some x) :
  enter E' g args B run'=some x:=by
 unfold enter at hx ⊢;rw[h.iK,h.fn];split at hx
 ·exact hx
 ·split at hx
  ·split at hx
   ·rename_i p hp;rw[h.iC g p hp];exact hx
   ·cases hx
  ·rename_i F hF;split at hx
   ·rename_i hl;rw[if_pos hl];generalize hi:({vars:=args++List.replicate (F.nv-F.np) FV.u,base:=B,loc:=[],aQ:=false}:St)=s0 at hx ⊢;cases he:run F.body s0 with
    | none=>rw[he]at hx;cases hx
    | some z=>rw[hr _ _ _ he];rw[he]at hx;exact hx
   ·cases hx
theorem vK (h:E.Le E'):∀ (n:Nat) (c:aF) (st:St) (z:Out × St),exec E n c st=some z->exec E' n c st=some z
 | 0,_,_,_,h=>by cases h
 | n+1,c,st,z,hx=>by
  have ih:=vK h n;have hc:Fi.Le (dx E n) (dx E' n):=fun g args B x hx=>qZ h ih hx
  cases c with
  | skip=>exact hx
  | ret=>exact hx
  | exit id=>exact hx
  | kill js=>exact hx
  | region ops outs apart =>
   rw[y9]at hx ⊢;split at hx
   ·rename_i ha;rw[if_pos ha];split at hx
    ·rename_i st' env hr;rw[CJ h.dU,nG hc hr];exact hx
    ·cases hx
   ·cases hx
  | seq a b =>
   rw[wU]at hx ⊢;cases ha:exec E n a st with
   | none=>rw[ha]at hx;cases hx
   | some z1 =>
    rw[ih _ _ _ ha];rw[ha]at hx;obtain⟨o,st1⟩:=z1;cases o with
    | norm=>exact ih _ _ _ hx
    | exit id=>exact hx
    | ret=>exact hx
  | cond x a b =>
   rw[EI]at hx ⊢;rw[oz h.dU];split at hx
   ·exact ih _ _ _ hx
   ·cases hx
  | block id b =>
   rw[mJ]at hx ⊢;cases hb:exec E n b st with
   | none=>rw[hb]at hx;cases hx
   | some z1=>rw[ih _ _ _ hb];rw[hb]at hx;exact hx
  | loop b =>
   rw[sW]at hx ⊢;cases hb:exec E n b st with
   | none=>rw[hb]at hx;cases hx
   | some z1 =>
    rw[ih _ _ _ hb];rw[hb]at hx;obtain⟨o,st1⟩:=z1;cases o with
    | norm=>exact ih _ _ _ hx
    | exit id=>exact hx
    | ret=>exact hx
theorem Ca.up (h:E.Le E'){g:Nat}{args:List FV}{x:FV × Option (List ai)}(hc:Ca E g args x):Ca E' g args x:=by
 obtain⟨n0,hc⟩:=hc;exact⟨n0,fun n hn=>qZ h (vK h n) (hc n hn)⟩
end up
theorem O4 {I I':Nat->Prop}{w w':World}(h:Grow True I I' w w'):∃ q os,w'=Sort.grow (w.drewN q) os:=by
 refine⟨w'.drawn-w.drawn,w'.heap.extract w.heap.size w'.heap.size,?_⟩;have h1:=h.os;have h2:=h.tape;have h3:=h.output;have h4:=h.drawn trivial;have h5:=h.size;have h6:=h.keep;obtain⟨hp,tp,dr,os,out⟩:=w;obtain⟨hp',tp',dr',os',out'⟩:=w';simp only[Sort.grow,World.drewN]at*;subst h1;subst h2;subst h3;have e1:dr'=dr+(dr'-dr):=ae;have e2:hp'=hp++hp'.extract hp.size hp'.size:=by
  apply Array.ext_getElem?;intro i;rcases Qg2 i hp.size with hl|hl
  ·rw[Xi0 hl];exact h6 i hl
  ·rw[Array.getElem?_append_right hl,Xm2]
   by_cases hi:i<hp'.size
   ·rw[if_pos ae,show hp.size+(i-hp.size)=i by omega]
   ·rw[if_neg ae,Xy0 ae]
 congr 1
end
section
section iter
variable {P:Program}
theorem Yp (w:World)(ty:TypeId)(r0 bm since last:Nat)(seen:Array Nat)(es:Array MapEntry)(clock:Nat)(hr:w.heap[r0]?=some (.mapIter (some bm) since seen last))(hb:w.heap[bm]?=some (.map es clock))
  (hold:∀ x ∈ es.toList,x.born<since) (hsc:since<=last) :
  ((leftOf es seen).size=0/\(Instr.next (.pointer (some ⟨r0,0,none⟩)) false ty).run P w=.ok (.tuple #[.bool false]) w) \/
  ∃ e ∈ (leftOf es seen).toList,∃ w1:World,(w1=w\/w1=w.drew)/\(Instr.next (.pointer (some ⟨r0,0,none⟩)) false ty).run P w=.ok (.tuple #[.bool true,e.key,e.val]) {w1 with heap:=w1.heap.setIfInBounds r0 (.mapIter (some bm) since (seen.push e.born) clock)}:=by
 simp only[Instr.next,getObj,Sem.run_bind,Sem.run,hr,hb,Result.andThen,next_test_false seen es since last hold hsc,Qh1,if_false];unfold leftOf;have hmem:∀ x ∈ (Array.filter (fun e => !seen.contains e.born) es).toList,x.born<since:=fun x hx=>hold x (by simp at hx ⊢;exact hx.1)
 generalize Array.filter (fun e => !seen.contains e.born) es=L at hmem ⊢;have e1:L.filter (fun x=>decide (x.born<since))=L:=Array.filter_eq_self.2 (fun x hx=>by simpa using hmem x (by simpa using hx));have e2:L.filter (fun x=>decide (x.born ≥ since))=#[]:=by
  rw[Array.filter_eq_empty_iff];intro x hx;have:=hmem x (by simpa using hx);simp;omega
 simp only[e1,e2,Array.append_empty]
 by_cases h0:L.size=0
 ·left
  have:L=#[]:=Array.eq_empty_of_size_eq_zero h0;subst this;refine⟨rfl,?_⟩;simp[choose,Sem.run,Question.forced]
 ·right
  have hne:L.isEmpty=false:=by simp[Array.isEmpty,h0]
  simp only[hne,Qh1,if_false,Array.empty_append,Array.size_map];have hch:∃ (j:Nat) (w1:World),j<L.size/\(w1=w\/w1=w.drew)/\(choose (Question.mapNext L.size)).run P w=.ok j w1:=by
   by_cases hf:L.size<=1
   ·exact⟨0,w,ae,.inl rfl,by simp[choose,Sem.run,Question.forced,hf]⟩
   ·exact⟨_,w.drew,Qu0 _ ae,.inr rfl,by
     simp only[choose,Sem.run,Question.forced,decide_eq_true_eq,hf,if_false,Question.cut];rfl⟩
  obtain⟨j,w1,hj,hal,hrun⟩:=hch;refine⟨L[j],aC,w1,hal,?_⟩;have hr1:w1.heap[r0]?=some (.mapIter (some bm) since seen last):=by rcases hal with rfl|rfl<;>exact hr
  have hset:∀ o',(setObj r0 o').run P w1=.ok () {w1 with heap:=w1.heap.setIfInBounds r0 o'}:=fun o'=>by
   simp[setObj,Sem.run,hr1]
  simp only[hrun,Array.getElem?_map,Qh0 hj,Q70,Sem.run_bind,hset,Result.andThen];rfl
theorem Uf (w:World)(r0 bm since:Nat)(seen:Array Nat)(es:Array MapEntry)(clock:Nat)(e:MapEntry)(hr:w.heap[r0]?=some (.mapIter (some bm) since (seen.push e.born) clock))(hb:w.heap[bm]?=some (.map es clock))(he:e ∈ es.toList)(hn:(es.toList.map (·.born)).Nodup) :
  (Instr.entry (.pointer (some ⟨r0,0,none⟩))).run P w=.ok (.tuple #[e.key,e.val]) w:=by
 have hf:es.find? (·.born==e.born)=some e:=by rw[<-Array.find?_toList];exact find_born e es.toList hn he
 simp only[Instr.entry,getObj,Sem.run_bind,Sem.run,hr,hb,Result.andThen,Array.back?_push,bne_self_eq_false,Qh1,if_false,hf];rfl
theorem eG {ops:Array Oper}{Q:Exit->Act->World->Prop}{o:Oper}{rest:List Oper}{a:Act}{w:World}{Φ:Value->World->Prop}(hg:o.guard=none)(h:Yields P o a.eval w Φ)
  (hK:∀ x w',Φ x w'->wpList P ops Q rest (a.put o.dst x) w'):wpList P ops Q (o::rest) a w:=by
 unfold wpList;have hw:Region.wanted o (yielded ops a.tmps)=true:=by simp[Region.wanted,hg]
 rw[hw];simp only[if_true];exact .inl (h.wp hK)
theorem iX {o:Oper}{ρ:Operand->Value}{w w':World}{x:Value}(h:(execOp ρ o).run P w=.ok (.value x) w'):Yields P o ρ w (fun y w''=>y=x/\w''=w'):=aD h ⟨rfl,rfl⟩
end iter
section other
variable {σ:Nat->Option FuncId} {β:Map} {I Wr:Nat->Prop} {w w':World} {n:Nat} {H:List ai} {mn:Prop}
theorem aZ.other (h:aZ σ n β I Wr (fun _=>True) H w){r0:Nat}(hr:¬ Wr r0)(hI:¬ I r0)(hsz:w'.heap.size=w.heap.size)(hk:∀ b,b≠r0->w'.heap[b]?=w.heap[b]?):aZ σ n β I Wr (fun _=>True) H w':=by
 have hIk:∀ b,I b->w'.heap[b]?=w.heap[b]?:=fun b hb=>hk b (fun e=>hI (e ▸ hb))
 have hne:∀ (k:Nat) (o:ai) b bo cap,H[k]?=some o->o.live β k=some (b,bo,cap)->b≠r0:=fun k o b bo cap h1 h2 e=>hr (e ▸ (h.wr k o b bo cap h1 h2).1 trivial)
 refine⟨fun b hb=>hsz ▸ h.kR b hb,fun k v b bo cap hb=>hsz ▸ h.blt k v b bo cap hb,fun b hb=>h.jE b (hsz ▸ hb),h.dom,h.lJ,h.wr,?_,?_,?_,h.inj,?_⟩
 ·intro k cs b bo cap h1 h2;obtain⟨a0,c,e,a1,a2,a3⟩:=h.box k cs b bo cap h1 h2;exact⟨a0,c,e,by rw[hk b (hne k _ b bo cap h1 h2)];exact a1,a2,fun j f x e1 e2=>(a3 j f x e1 e2).mono (fun _ _ _ h=>h) (fun _ h=>h) hIk⟩
 ·intro k az sz es b bo cap h1 h2;obtain⟨a0,c,e,a1,a2⟩:=h.row k az sz es b bo cap h1 h2;have hb:=hk b (hne k _ b bo cap h1 h2);exact⟨a0.mono (fun _ h=>h) hIk hb,c,e,by rw[hb];exact a1,a2⟩
 ·intro k az sz es b bo cap h1 h2;obtain⟨a0,a1⟩:=h.fU k az sz es b bo cap h1 h2;exact⟨a0.mono (fun _ h=>h) hIk (hIk b a1),a1⟩
 ·intro k es b bo cap h1 h2;obtain⟨ms,clock,a1,a2⟩:=h.map k es b bo cap h1 h2;exact⟨ms,clock,by rw[hk b (hne k _ b bo cap h1 h2)];exact a1,a2.mono (fun _ h=>h) hIk⟩
theorem a_.other {cx:Cx}{vars env:List FV}{aM:List (Option Tmp)}{a:Act}(h:a_ σ β I w n cx vars aM env a){r0:Nat}(hI:¬ I r0)(hk:∀ b,b≠r0->w'.heap[b]?=w.heap[b]?):a_ σ β I w' n cx vars aM env a :=
 ⟨h.size,fun j t y h1 h2 h3=>(h.var j t y h1 h2 h3).mono (fun _ _ _ h=>h) (fun _ h=>h) (fun b hb=>hk b (fun e=>hI (e ▸ hb))),fun t j y h1 h2=>(h.loc t j y h1 h2).mono (fun _ _ _ h=>h) (fun _ h=>h) (fun b hb=>hk b (fun e=>hI (e ▸ hb)))⟩
end other
end
section
def Dg (cs:List Value)(off n:Nat):List Value:=(cs.drop off).take n
theorem dh (cs:List Value)(off n m:Nat):Dg cs off n++Dg cs (off+n) m=Dg cs off (n+m):=by
 unfold Dg;rw[List.take_add,Xp0]
theorem Hr (cs:List Value):Dg cs 0 cs.length=cs:=by simp[Dg]
def lF (P:Program)(t:TypeId)(l:List (Nat × Nat × Nat))(sz:Nat):Bool :=
 match P.underlying t with
 | some (.struct fs)=>decide (fs.toList.map (fun f=>(f.type,f.offset,P.cellsOf f.type))=l)&&Nat.beq (P.cellsOf t) sz
 | _=>false
def sliceB (P:Program)(t e n:Nat):Bool :=
 match P.underlying t with
 | some (.slice e')=>Nat.beq e' e&&Nat.beq (P.cellsOf e) n
 | _=>false
def Ky (P:Program)(t n e m:Nat):Bool :=
 match P.underlying t with
 | some (.array n' e')=>Nat.beq n' n&&Nat.beq e' e&&Nat.beq (P.cellsOf e) m
 | _=>false
def N9 (P:Program)(t:Nat)(k:IntKind):Bool :=
 match P.underlying t with
 | some (.int k')=>decide (k'=k)
 | _=>false
def RQ (P:Program)(t:Nat):Bool :=
 match P.underlying t with
 | some .bool=>true
 | _=>false
section lift
variable {H:Type} {enc:TypeId × Value->H} {P:Program} {w:World} {base:Nat} {held:Bool} {σ:Nat->Option FuncId} {sp:Nat->Bool} {fuel:Nat} {cs:List Value} {x:DataW H × List MemPlace} {t:TypeId}
theorem gu {l:List (Nat × Nat × Nat)}{sz:Nat}(hB:lF P t l sz=true)(h:DataW.trod enc P w base sp held fuel t cs=some x) :
  ∃ m,fuel=m+1/\cs.length=sz/\∀ (j T off n:Nat),l[j]?=some (T,off,n)->∃ y,DataW.trod enc P w base sp held m T (Dg cs off n)=some y:=by
 unfold lF at hB;split at hB
 ·rename_i fs ht;simp only[Qa2,decide_eq_true_eq]at hB;obtain⟨hl,hs⟩:=hB;obtain⟨xs,m,hf,_,hlen,hxs,hget⟩:=DataW.trod_struct ht h;refine⟨m,hf,by rw[hlen];exact Qk1 hs,fun j T off n hj => ?_⟩;rw[<-hl,Qc1,Qg0]at hj;obtain⟨f,hfj,he⟩:=hj;simp only[Qo2]at he;obtain⟨rfl,rfl,rfl⟩:=he;have hj2:fs[j]?=some f:=by simpa using hfj
  have:=hget j f hj2;have hjl:j<xs.length:=by
   rw[hxs];exact(Q50.1 hj2).1
  rw[Qa1 hjl]at this;exact⟨_,this⟩
 ·cases hB
theorem qW {e n:Nat}(hB:sliceB P t e n=true):P.underlying t=some (.slice e)/\P.cellsOf e=n:=by
 unfold sliceB at hB;split at hB
 ·rename_i e' ht;simp only[Qa2]at hB;obtain⟨h1,h2⟩:=hB;obtain rfl:=Qk1 h1;exact⟨ht,Qk1 h2⟩
 ·cases hB
theorem kU {k:IntKind}(hB:N9 P t k=true):P.underlying t=some (.int k):=by
 unfold N9 at hB;split at hB
 ·rename_i k' ht;simp only[decide_eq_true_eq]at hB;rw[ht,hB]
 ·cases hB
theorem Mi (hB:RQ P t=true):P.underlying t=some .bool:=by
 unfold RQ at hB;split at hB
 ·rename_i ht;exact ht
 ·cases hB
theorem RS {n e m:Nat}(hB:Ky P t n e m=true):P.underlying t=some (.array n e)/\P.cellsOf e=m:=by
 unfold Ky at hB;split at hB
 ·rename_i n' e' ht;simp only[Qa2]at hB;obtain⟨⟨h1,h2⟩,h3⟩:=hB;obtain rfl:=Qk1 h1;obtain rfl:=Qk1 h2;exact⟨ht,Qk1 h3⟩
 ·cases hB
theorem DZ {e:Nat}{k:IntKind}(hB:sliceB P t e 1=true)(he:N9 P e k=true)(h:DataW.trod enc P w base sp held fuel t cs=some x) :
  ∃ l:List Int,(∀ n ∈ l,(Lit.int k n).wf=true)/\Rc σ (Here w) w [.s 1 (l.map fun n=>D.v (.int k n))] cs:=by
 obtain⟨ht,hc⟩:=qW hB;obtain⟨es,h1,h2⟩:=l7 (σ:=σ) (Q:=fun d=>∃ n:Int,(Lit.int k n).wf=true/\d=.v (.int k n)) ht ae (fun n vs y _ hy=>by
  obtain⟨z,hz,hr⟩:=fZ (σ:=σ) (kU he) hy;exact⟨_,⟨z,hz,rfl⟩,by rw[hc];rfl,by intro c hc';simp[D.cells]at hc';subst hc';rfl,hr⟩) h
 have:∀ es:List D,(∀ d ∈ es,∃ n:Int,(Lit.int k n).wf=true/\d=.v (.int k n))->∃ l:List Int,(∀ n ∈ l,(Lit.int k n).wf=true)/\es=l.map fun n=>D.v (.int k n):=by
  intro es
  induction es with
  | nil=>intro _;exact⟨[],aC,rfl⟩
  | cons d r ih =>
   intro hd;obtain⟨n,hn,rfl⟩:=hd d (Qi0 ..);obtain⟨l,hl,rfl⟩:=ih (fun d hd'=>hd d (Qf1 _ hd'));exact⟨n::l,by intro z hz;rcases Qg1.1 hz with rfl|hz;exact hn;exact hl z hz,rfl⟩
 obtain⟨l,hl,rfl⟩:=this es h1;rw[hc]at h2;exact⟨l,hl,h2⟩
theorem Zv {ds:List D}{vs:Array Value}(h:Rc σ (Here w) w ds vs.toList):bB σ (Here w) w (.a ds) (.agg vs) :=
 .a (by simpa using h.1) (fun i d y h1 h2=>h.2 i d y h1 (by simpa using h2))
end lift
end
section
structure Env.Has (E' E:Env)(K g0:Nat)(p:List D->Option D):Prop where
 fn:E'.fn=E.fn
 dU:E'.dU=E.dU
 yw:E.iK g0=none
 aiQ:E'.iK g0=some p
 iK:∀ g,g≠g0->E'.iK g=E.iK g
 iC:∀ g q,E'.iC g=some q->E.iC g=some q
 has:∀ ds v,p ds=some v->∀ n,K<=n->dx E n g0 (ds.map .d) []=some (.d v,none)
section has
variable {E E':Env} {K g0:Nat} {p:List D->Option D}
end has
end
end Fi
