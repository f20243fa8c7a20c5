import Derived.Test.YtgngjdakilfmoaaGreatDoorSChk
import Derived.Test.YtgngjdakilfmoaaGreatDoorCH
import Derived.Shelf.SlSortCmp.NoneTotal
set_option linter.unusedVariables false
set_option linter.unusedSimpArgs false
noncomputable section
namespace Fi.S
open Go Fi Go.Proofs
set_option maxHeartbeats 8000000
set_option maxRecDepth 10000
def f1100:bO:=by
 have:iU Tryz.prog c1100 Tryz.f137=some ?F:=by conv=>lhs;reduce;try dsimp
 exact ?F
def kT:bO:={f1100 with ref:=false}
def aeP:Cx:={c1100 with isRef:=false}
theorem aeQ:iU Tryz.prog c1098 Tryz.f136=some f1098:=by kernel_rfl
theorem aeR:iU Tryz.prog c1100 Tryz.f137=some f1100:=by kernel_rfl
theorem aeS:iU Tryz.prog aeP Tryz.f137=some kT:=by kernel_rfl
def EK (F:bO)(k:Nat):Env:={fn:=fun g=>bif Nat.beq g k then some F else none,eG:=fun _=>none,jq:=fun _=>none,iO:=fun _=>none}
theorem zB {F:bO}{k:Nat}(hk:(no.any fun n=>Nat.beq n k)=false):Bodies Tryz.prog (EK F k) sig:=by
 refine bodies _ ?_;unfold kU;rw[Qh2];intro g hg;have:Nat.beq g k=false:=by
  cases hb:Nat.beq g k with
  | false=>rfl
  | true =>
   have:(no.any fun n=>Nat.beq n k)=true:=Xe1.2 ⟨g,hg,hb⟩;rw[hk]at this;cases this
 simp[EK,this]
theorem D8 {F:bO}{k:Nat}:ja Tryz.prog (EK F k) sig:=⟨fun g p hp=>(by cases hp),fun g p hp=>(by cases hp)⟩
theorem abe (k:Nat):CL (EK f1098 1098) (k+60) 1098 [.d (.n 1)] []=some (.d (.s 1 []),none)/\CL (EK f1098 1098) (k+60) 1098 [.z 1] []=some (.d (.s 1 []),none):=by
 rw[aA rfl (show(EK f1098 1098).fn 1098=some f1098 from rfl) rfl,aA rfl (show(EK f1098 1098).fn 1098=some f1098 from rfl) rfl];constructor<;>simp[f1098,ah.view]
theorem Xa (k:Nat)(e:D)(es:List D)(h:(e::es).length<=1000000):CL (EK f1098 1098) (k+60) 1098 [.d (.s 1 (e::es))] []=some (.d (.s 1 (e::es)),none):=by
 rw[aA rfl (show(EK f1098 1098).fn 1098=some f1098 from rfl) rfl];have h1:(e::es).length*8<=most:=by unfold most;omega
 have h2:(e::es).length<=most:=by unfold most;omega
 simp only[Qf2]at h1 h2;simp[f1098,h1,h2,ah.view]
theorem abf (k:Nat):CL (EK kT 1100) (k+60) 1100 [.d (.n 11)] []=some (.d (.s 11 []),none)/\CL (EK kT 1100) (k+60) 1100 [.z 11] []=some (.d (.s 11 []),none):=by
 rw[aA rfl (show(EK kT 1100).fn 1100=some kT from rfl) rfl,aA rfl (show(EK kT 1100).fn 1100=some kT from rfl) rfl];constructor<;>simp[kT,f1100,ah.view]
theorem Xb (k:Nat)(e:D)(es:List D)(h:(e::es).length<=1000000):CL (EK kT 1100) (k+60) 1100 [.d (.s 11 (e::es))] []=some (.d (.s 11 (e::es)),none):=by
 rw[aA rfl (show(EK kT 1100).fn 1100=some kT from rfl) rfl];have h1:(e::es).length*152<=most:=by unfold most;omega
 have h2:(e::es).length<=most:=by unfold most;omega
 simp only[Qf2]at h1 h2;simp[kT,f1100,h1,h2,ah.view]
theorem Xc (k:Nat)(e:D)(es:List D)(B:List ah)(h:(e::es).length<=1000000):CL (EK f1100 1100) (k+60) 1100 [.d (.s 11 (e::es))] B=some (.ls (.old B.length) 1 11 0 (e::es).length,some (B.map (ah.az B.length)++[.row 1 11 (e::es)])):=by
 rw[aA rfl (show(EK f1100 1100).fn 1100=some f1100 from rfl) rfl];have h1:(e::es).length*152<=most:=by unfold most;omega
 have h2:(e::es).length<=most:=by unfold most;omega
 simp only[Qf2]at h1 h2;simp[f1100,h1,h2,FV.az,ah.az]
theorem NJ {F:bO}{k j:Nat}{fn:Func}{cx:Cx}(hk:iU Tryz.prog cx fn=some F)(hf:Tryz.prog.funcs[j]?=some fn)(hj:tab[j]?=some k)(hc:cx.gid=aeT tab):nL Tryz.prog (EK F k) sig:=by
 intro g F' h
 change (bif Nat.beq g k then some F else none)=some F' at h
 exact aeU (fun hg hF=>akN nodup xO hg hF hk hf hj hc) h
theorem iV.heap {P:Program}{E:Env}{σ:Nat->Option FuncId}{g:Nat}{args:List FV}{ds:List D}{v:FV}(h:iV P E σ g args [] (v,none))(ha:jN args=some ds)(B:List ah):iV P E σ g args B (v,none):=by
 intro f hf β I w bz hS hA hG;exact h f hf (fun _ _=>none) I w bz (.empty _ hS.mf (fun _ h=>h)) (xP ha hA _ _) hG
theorem RZ {E:Env}(hg:E.eG=fun _=>none)(Xd:¬ E.mn){args:List FV}{ds:List D}{v:D}(ha:jN args=some ds)(hv:zA 1 ds=some v):iV Tryz.prog E sig 1098 args [] (.d v,none):=by
 have hr:=abe 0;simp only[jS]at hr;refine KS (E:=EK f1098 1098) mixed (zB (by kernel_rfl)) (NJ aeQ Tryz.func136 rfl rfl) D8 (N:=60) hr.1 hr.2 (fun e es h => ?_) (by rw[hg];rfl) ?_ ha hv
 ·have:=Xa 0 e es h;rw[jS]at this;exact this
 ·exact propext ⟨fun h=>absurd h Xd,fun h=>h.elim⟩
theorem R3 {E:Env}(hg:E.eG=fun _=>none)(Xd:¬ E.mn){args:List FV}{B:List ah}{r:FV × Option (List ah)}(h:r_ 11 args B=some r):iV Tryz.prog E sig 1100 args B r:=by
 have he:E.mn=(EK f1100 1100).mn:=propext ⟨fun h=>absurd h Xd,fun h=>h.elim⟩;unfold r_ at h;split at h
 ·rename_i fE;split at h
  ·rename_i hsz;subst hsz;cases h;have hr:=abf 0;simp only[jS]at hr;refine iV.heap (ds:=[.s 11 []]) ?_ rfl B;refine KS (E:=EK kT 1100) mixed (zB (by kernel_rfl)) (NJ aeS Tryz.func137 rfl rfl) D8 (N:=60) hr.1 hr.2 (fun e es h => ?_) (by rw[hg];rfl) he (ds:=[.s 11 []]) rfl rfl;have:=Xb 0 e es h;rw[jS]at this;exact this
  ·cases h
 ·rename_i fE e es;split at h
  ·rename_i hh;obtain⟨rfl,hl⟩:=hh;cases h;have hr:=Xc 0 e es B hl;rw[jS]at hr;intro f hf β I Wr w bz hS hA hG;have hG':dX (EK f1100 1100) sig I w:=fun j y hy=>by cases hy
   have:=(qQ mixed (zB (F:=f1100) (k:=1100) (by kernel_rfl)) (NJ aeR Tryz.func137 rfl rfl) D8 60 1100 _ B _ hr).2 f hf β I Wr w bz hS hA hG';rw[he];exact this
  ·cases h
 ·cases h
end Fi.S
namespace Fi.S
open Go Fi Go.Proofs Go.Sort
set_option maxHeartbeats 8000000
set_option maxRecDepth 100000
section
section sort
variable {P:Program} {ρ:Shelf.Ren} {E:Env} {σ:Nat->Option FuncId} {gS gL:FuncId}
theorem Xe (hm:P.follows .mixedOrders=true)(hB:Bodies P E2 σ)(hF:nL P E2 σ)(hσ:σ 257=some gL)(d e:Int × Int × Int)(x y z x' y' z':Value)
  (h:uW x=true/\uW y=true/\uW z=true/\uW x'=true/\uW y'=true/\uW z'=true) (W:World) :
  Calls P gL #[.agg #[.int .i64 d.1,.int .i64 d.2.1,.int .i64 d.2.2,x,y,z],.agg #[.int .i64 e.1,.int .i64 e.2.1,.int .i64 e.2.2,x',y',z']] W fun en w'=>en=.returned (.int .i64 (jr d e))/\∃ q os',w'=Sort.grow (W.drewN q) os':=by
 have hrun:=QX 0 d e (.v x) (.v y) (.v z) (.v x') (.v y') (.v z') h;rw[jS]at hrun;have rep:∀ (c:Int × Int × Int) (u v t:Value),bE σ (fun _=>False) W (yZ c (.v u) (.v v) (.v t)) (.agg #[.int .i64 c.1,.int .i64 c.2.1,.int .i64 c.2.2,u,v,t]):=by
  intro c u v t;refine .a rfl (fun i a b ha hb => ?_)
  match i with
  | 0=>simp at ha hb;subst ha;subst hb;exact .v _
  | 1=>simp at ha hb;subst ha;subst hb;exact .v _
  | 2=>simp at ha hb;subst ha;subst hb;exact .v _
  | 3=>simp at ha hb;subst ha;subst hb;exact .v _
  | 4=>simp at ha hb;subst ha;subst hb;exact .v _
  | 5=>simp at ha hb;subst ha;subst hb;exact .v _
  | i+6=>simp at ha
 refine(Gi hm hB hF ⟨fun g p hp=>(by cases hp),fun g p hp=>(by cases hp)⟩ hrun hσ (I:=fun _=>False) (w:=W) (bz:=#[.agg #[.int .i64 d.1,.int .i64 d.2.1,.int .i64 d.2.2,x,y,z],.agg #[.int .i64 e.1,.int .i64 e.2.1,.int .i64 e.2.2,x',y',z']])
  (fun b hb=>hb.elim) ⟨rfl,fun i c v hc hv => ?_⟩ (fun k y hk=>by cases hk)).mono fun en w' ⟨v,u,I',he,hu,hr,hg⟩ => ?_
 ·match i with
  | 0=>simp at hc hv;subst hc;subst hv;exact .d (rep _ _ _ _)
  | 1=>simp at hc hv;subst hc;subst hv;exact .d (rep _ _ _ _)
  | i+2=>simp at hc
 ·cases hu;cases hr;exact⟨he,R4 hg⟩
end sort
section sort
variable {P:Program} {ρ:Shelf.Ren} {E:Env} {σ:Nat->Option FuncId} {gS gL:FuncId}
theorem KT {β:Fi.Map}{I:Nat->Prop}{w:World}{n:Nat}{a b:FV}{bz:Array Value}(hA:gW σ β I w n [a,b] bz.toList):∃ x y,bz=#[x,y]/\aI σ β I w n a x/\aI σ β I w n b y:=by
 have hl:bz.toList.length=2:=hA.1
 match hvl:bz.toList,hl with
 | [x,y],_ =>
  exact⟨x,y,by apply Q40;rw[hvl],hA.2 0 _ x rfl (by rw[hvl];rfl),hA.2 1 _ y rfl (by rw[hvl];rfl)⟩
theorem D9 {d:D}{I:Nat->Prop}{w:World}{x:Value}(h:bE σ I w d x)(ho:d.one=true):uW x=true:=by
 have:=h.oneCell ho;cases x<;>first|rfl|(simp[Value.oneCell']at this)
theorem Xf (hm:P.follows .mixedOrders=true)(hB:Bodies P E2 σ)(hF:nL P E2 σ)(hσ:σ 257=some gL)(L:SlLaysF0.n6 P ρ)(hρ:ρ.f 6=gS)(aE:∀ w,(isAgg (ρ.t 24)).run P w=.ok true w)(zE:∀ w,(Go.sizeOf (ρ.t 24)).run P w=.ok 6 w)
  (eg:∀ args w,(callFunc gL args).run P w=.ok (.enter gL args) w) {I:Nat->Prop} {w:World} {b bo cap:Nat} {es:List D} (hat:jk σ I w b bo cap 6 es) {c:Array Value} {e:TypeId} (hb:w.heap[b]?=some (.cells c e (0,0))) (hsz:c.size=bo+cap*6)
  (hok:y5 es=true) (hne:es≠[]) (hnI:¬ I b) (hI:∀ b,I b->b<w.heap.size) :
  Calls P gS #[.slice (some ⟨b,bo,none⟩) es.length cap,.func (.func gL) #[] #[]] w fun en w'=>en=.returned (.tuple #[])/\w.heap.size<=w'.heap.size/\(∀ x,x<w.heap.size->x≠b->w'.heap[x]?=w.heap[x]?)/\w'.os=w.os/\w'.tape=w.tape/\w'.output=w.output/\w.drawn<=w'.drawn /\
   ∃ c',w'.heap[b]?=some (.cells c' e (0,0))/\c'.size=c.size/\jk σ I w' b bo cap 6 (es.mergeSort vz):=by
 simp only[y5,Qd0,decide_eq_true_eq]at hok;obtain⟨⟨hmo,hnd⟩,hlen⟩:=hok;have akO:∀ (i:Nat) (h:i<es.length),Vj es[i]=true:=fun i h=>Qh2.1 hmo _ (Qi0 h)
 have hn:0<es.length:=Xh2.2 hne
 let val:Nat->Nat->Value:=fun i j=>(w.cell? ⟨b,bo+i*6+j,none⟩).getD undef
 have hval:∀ (i:Nat) (h:i<es.length) (j:Nat) (d:D),es[i].cells[j]?=some d->w.cell? ⟨b,bo+i*6+j,none⟩=some (val i j)/\bE σ I w d (val i j):=by
  intro i h j d hd;obtain⟨x,h1,h2⟩:=hat.at_ i es[i] (Qa1 h) j d hd;have:val i j=x:=by simp only[val,h1,Q12]
  rw[this];exact⟨h1,h2⟩
 have hshape:∀ (i:Nat) (h:i<es.length),val i 0=.int .i64 (C9 es[i]).1/\val i 1=.int .i64 (C9 es[i]).2.1/\val i 2=.int .i64 (C9 es[i]).2.2/\uW (val i 3)=true/\uW (val i 4)=true/\uW (val i 5)=true/\es[i].cells.length=6:=by
  intro i h;obtain⟨x,y,z,h1,o1,o2,o3⟩:=Vk (akO i h);have hv:=hval i h;rw[h1]at hv;generalize hme:C9 es[i]=me at*;have a0:=(hv 0 _ rfl).2;have a1:=(hv 1 _ rfl).2;have a2:=(hv 2 _ rfl).2;have a3:=(hv 3 _ rfl).2;have a4:=(hv 4 _ rfl).2;have a5:=(hv 5 _ rfl).2;generalize val i 0=v0,val i 1=v1,val i 2=v2,val i 3=v3,val i 4=v4,val i 5=v5 at*;refine⟨?_,?_,?_,D9 a3 o1,D9 a4 o2,D9 a5 o3,by rw[h1];rfl⟩
  ·cases a0;rfl
  ·cases a1;rfl
  ·cases a2;rfl
 haveI:Inhabited (Fin es.length):=⟨⟨0,hn⟩⟩
 let enc:Fin es.length->List Value:=fun i=>(List.range 6).map (val i.1)
 let cf:Fin es.length->Fin es.length->Int:=fun i j=>jr (C9 es[i.1]) (C9 es[j.1])
 have henc:∀ i:Fin es.length,enc i=[.int .i64 (C9 es[i.1]).1,.int .i64 (C9 es[i.1]).2.1,.int .i64 (C9 es[i.1]).2.2,val i.1 3,val i.1 4,val i.1 5]:=by
  intro i;obtain⟨a0,a1,a2,_⟩:=hshape i.1 i.2;simp only[enc,show List.range 6=[0,1,2,3,4,5] from rfl,Qe2,Qc2,a0,a1,a2]
 have hlt:∀ i j:Fin es.length,ltOf cf i j=lL (C9 es[i.1]) (C9 es[j.1]):=fun i j=>rfl
 have hO:SWO (ltOf cf):=by
  constructor
  ·intro x;rw[hlt,Xo1,Ne,mG];omega
  ·intro x y z h1 h2;rw[hlt,mG]at*;omega
  ·intro x y z h1 h2;rw[hlt,Xo1,Ne,mG]at*;omega
 have hT:∀ x y,(ltOf cf) x y=false->(ltOf cf) y x=false->x=y:=by
  intro x y h1 h2;rw[hlt]at h1 h2;have h3:=kN h1 h2;have h4:(es.map C9)[x.1]?=(es.map C9)[y.1]?:=by simp[h3]
  have:=(List.getElem?_inj aC hnd).1 h4;exact Fin.ext this
 let d:Array (Fin es.length):=Array.finRange es.length
 have hds:d.size=es.length:=by simp[d]
 have hget:∀ i,i<es.length->(d[i]!).1=i:=by
  intro i hi;rw[getElem!_pos d i ae];simp[d]
 have acI:∀ (dd:Array (Fin es.length)) (t:Nat),dd.size=es.length->t<es.length*6->(flatK enc 6 dd)[t]! = val (dd[t / 6]!).1 (t % 6):=by
  intro dd t h1 h2;rw[get_flatK enc 6 dd t (by rw[h1];exact h2)];have h3:t % 6<6:=Qu1 _ ae;simp only[enc];rw[getElem!_pos _ _ (by simpa using h3)];simp
 have hH:HoldsK enc 6 w b bo d:=by
  intro t ht;simp only[size_flatK,hds]at ht;have h6:t / 6<es.length:=ae;refine⟨?_,by simp[World.frozen?,hb]⟩;rw[acI d t hds ht,hget _ h6];have hc6:=(hshape _ h6).2.2.2.2.2.2;have h3:t % 6<6:=Qu1 _ ae;have:=(hval (t / 6) h6 (t % 6) _ (Qa1 ae)).1;rw[show bo+t=bo+t / 6*6+t % 6 by omega];exact this
 have hcmp:CmpLays P gL #[] enc 6 cf b bo d.size w:=by
  intro m os dk _ x y;rw[henc x,henc y];obtain⟨_,_,_,o3,o4,o5,_⟩:=hshape x.1 x.2;obtain⟨_,_,_,p3,p4,p5,_⟩:=hshape y.1 y.2;exact Xe hm hB hF hσ _ _ _ _ _ _ _ _ ⟨o3,o4,o5,p3,p4,p5⟩ _
 have hcon:=AnyQ.slices_SortFunc_total L 6 aE zE enc (fun x=>by simp[enc]) (fun x v hv=>by
  rw[henc]at hv;obtain⟨_,_,_,o3,o4,o5,_⟩:=hshape x.1 x.2;simp only[Qi1,Xr0,or_false]at hv;rcases hv with rfl|rfl|rfl|rfl|rfl|rfl
  ·rfl
  ·rfl
  ·rfl
  ·revert o3;generalize val x.1 3=v;intro o3;cases v<;>first|rfl|(simp[uW]at o3)
  ·revert o4;generalize val x.1 4=v;intro o3;cases v<;>first|rfl|(simp[uW]at o3)
  ·revert o5;generalize val x.1 5=v;intro o3;cases v<;>first|rfl|(simp[uW]at o3)) cf hO gL #[] b bo cap d w eg hcmp hH (Q80.1 hb).1 (by rw[hds];omega) hT
 rw[hρ,hds]at hcon;refine hcon.mono fun en w' ⟨he,m,os,hw⟩=>⟨he,?_⟩
 subst hw;generalize hdd:(d.toList.mergeSort fun x y => !(ltOf cf) y x)=l;have hperm:l.Perm d.toList:=by rw[<-hdd];exact Q42 _ _
 have hll:l.length=es.length:=by rw[hperm.length_eq];simpa using hds
 have hmap:es.mergeSort vz=l.map fun i=>es[i.1]:=by
  have h1:=List.map_mergeSort (r:=fun x y => !(ltOf cf) y x) (f:=fun i:Fin es.length=>es[i.1]) (s:=vz) (l:=d.toList) (fun a _ b _=>rfl);rw[hdd]at h1;rw[h1]
  congr 1
  apply List.ext_getElem
  ·simp[d]
  ·intro i h1 h2;simp[d]
 have hblt:b<w.heap.size:=(Q80.1 hb).1;have hhp:∀ x,x<w.heap.size->(sortWorldK enc 6 w b bo m l.toArray os).heap[x]?=(w.heap.modify b (onCells (putCells id bo (flatK enc 6 l.toArray))))[x]?:=by
  intro x hx;show((w.heap.modify b (onCells (putCells id bo (flatK enc 6 l.toArray))))++os)[x]?=_;rw[Xj0 (by simpa using hx)]
 have hbb:(sortWorldK enc 6 w b bo m l.toArray os).heap[b]?=some (.cells (putCells id bo (flatK enc 6 l.toArray) c) e (0,0)):=by
  rw[hhp b hblt,Xa0,if_pos rfl,hb];rfl
 refine⟨?_,?_,rfl,rfl,rfl,?_,putCells id bo (flatK enc 6 l.toArray) c,hbb,by simp[putCells],?_⟩
 ·show _<=((w.heap.modify b _)++os).size;simp
 ·intro x hx hxb;rw[hhp x hx,Xa0,if_neg (Ne.symm hxb)]
 ·show w.drawn<=w.drawn+m;omega
 ·have hmem:∀ e ∈ es.mergeSort vz,e ∈ es:=fun e he=>(Q42 es vz).mem_iff.1 he
  refine⟨hat.pos,by rw[List.length_mergeSort];exact hat.fit,fun e he=>hat.wide e (hmem e he),fun e he=>hat.one e (hmem e he),?_⟩;intro i ee hi j dd hj;rw[hmap,Qb1,Qf1]at hi;obtain⟨k,hk,rfl⟩:=hi;have hil:i<es.length:=by rw[<-hll];exact(aT hk)
  have hj6:j<6:=by have:=(aT hj);rw[(hshape k.1 k.2).2.2.2.2.2.2]at this;exact this
  obtain⟨g1,g2⟩:=hval k.1 k.2 j dd hj;refine⟨val k.1 j,?_,g2.mono (fun _ h=>h) (fun x hx => ?_)⟩
  ·have hfit:=hat.fit;have ht:i*6+j<es.length*6:=ae;have hcs:bo+(i*6+j)<c.size:=by rw[hsz];omega
   simp only[World.cell?,hbb];show(putCells id bo (flatK enc 6 l.toArray) c)[bo+i*6+j]?=_;rw[Qr0];simp only[putCells,Array.getElem?_mapIdx,Qh0 hcs,Q11];rw[if_pos ⟨ae,by simp[hll];omega⟩];simp only[id,show bo+(i*6+j)-bo=i*6+j by omega];rw[acI l.toArray _ (by simpa using hll) ht];have h1:(i*6+j) / 6=i:=ae;have h2:(i*6+j) % 6=j:=ae;rw[h1,h2];have h3:l.toArray[i]! = k:=by
    rw[getElem!_pos l.toArray i (by simpa[hll] using hil)];have:=(Qy1.1 hk).2;simpa using this
   rw[h3]
  ·have hxb:x≠b:=fun h=>hnI (h ▸ hx)
   rw[hhp x (hI x hx),Xa0,if_neg (Ne.symm hxb)]
end sort
section sort
variable {P:Program} {ρ:Shelf.Ren} {E:Env} {σ:Nat->Option FuncId} {gS gL:FuncId}
theorem abg (hm:P.follows .mixedOrders=true)(hB:Bodies P E2 σ)(hF:nL P E2 σ)(hσ:σ 257=some gL)(L:SlLaysF0.n6 P ρ)(hρ:ρ.f 6=gS)(aE:∀ w,(isAgg (ρ.t 24)).run P w=.ok true w)(zE:∀ w,(Go.sizeOf (ρ.t 24)).run P w=.ok 6 w)
  (eg:∀ args w,(callFunc gL args).run P w=.ok (.enter gL args) w) (hf6:∀ f,σ 256=some f->f=gS) (args:List FV) (B:List ah) (r:FV × Option (List ah)) (h:C_ 257 args B=some r):iV P E σ 256 args B r:=by
 have hfn:∀ {I:Nat->Prop} {w:World} {y:Value} {β:Fi.Map} {n:Nat},aI σ β I w n (.d (.fn 257)) y->y=.func (.func gL) #[] #[]:=by
  intro I w y β n hy;cases hy with
  | d hy =>
   cases hy with
   | fn hs=>rw[hσ]at hs;cases hs;rfl
 have none:∀ (p:Option Addr) (cap:Nat) (w:World),Calls P gS #[.slice p 0 cap,.func (.func gL) #[] #[]] w fun e w'=>e=.returned (.tuple #[])/\w'=w:=by
  intro p cap w;have:=AnyF.slices_SortFunc_none L p cap (.func (.func gL) #[] #[]) w;rw[hρ]at this;exact this
 have hnil:∀ (I:Nat->Prop) (w:World),bE σ I w (.t []) (.tuple #[]):=fun I w=>.t rfl (fun i c x hc=>by simp at hc)
 unfold C_ at h;split at h
 ·rename_i i av n g;split at h
  ·rename_i hg;subst hg;split at h
   ·rename_i jO es J3;split at h
    ·rename_i hh;obtain⟨rfl,rfl,hok⟩:=hh;cases h;intro f hf β I Wr w bz hS hA hG;obtain rfl:=hf6 f hf;obtain⟨x,y,rfl,hx,hy⟩:=KT hA;have hy':=hfn hy;subst hy';obtain⟨b,bo,cap,o,hβ,hlc,Jg,rfl⟩:=zC hx;simp only[Ref.abs]at hβ;obtain⟨hat,c,e,hb,hcs⟩:=hS.row i av 6 es b bo cap J3 hβ;have hwr:=hS.wr i (.row av 6 es) b bo cap J3 hβ;have hil:i<B.length:=(aT J3)
     by_cases hne:es=[]
     ·subst hne;refine(none (some ⟨b,o,.none⟩) (cap-0) w).mono fun en w' ⟨he,hw⟩ => ?_
      subst hw;have hset:B.set i (.row av 6 (([]:List D).mergeSort vz))=B:=by
       apply Xp1;intro j;rw[Xx1];split
       ·rename_i hij;subst hij;rw[J3,List.mergeSort_nil]
       ·rfl
      refine⟨_,β,I,he,Ext.refl _ _ _ _,fun n' wd' => ?_,fun n'=>.d (hnil _ _)⟩;have:=bf.aah hS n' wd';rw[<-hset]at this;simpa using this
     ·have hpos:0<es.length:=Xh2.2 hne;have ho:o=bo:=by have:=Jg ae;omega
      subst ho;have hcap:cap-0=cap:=X21 _;rw[hcap];refine(Xf hm hB hF hσ L hρ aE zE eg hat hb hcs hok hne hwr.2 hS.mf).mono fun en w' ⟨he,h1,h2,h3,h4,h5,h6,c',h7,h8,h9⟩ => ?_
      obtain⟨k1,k2⟩:=hS.upd (mn:=E.mn) (hkw:=trivial) (w':=w') J3 (show(ah.row av 6 es).live β i=some (b,o,cap) from hβ) (.row av 6 (es.mergeSort vz)) av b o cap h1 h2 (.inl rfl)
       (Qk1 (hS.blt _ _ _ _ _ hβ) h1) (fun z hz=>by rw[hβ]at hz;cases hz;rfl) h3 h4 h5 (fun _=>h6)
       (.inr (.inl ⟨6,es.mergeSort vz,c',e,rfl,fun v z hz=>hS.mO _ _ _ _ _ _ J3 hz,h7,by rw[h8,hcs],h9⟩))
      refine⟨_,_,I,he,k1,fun n' wd' => ?_,fun n'=>.d (hnil _ _)⟩;have hl:(B.set i (.row av 6 (es.mergeSort vz))).length=B.length:=aC;rw[<-hl]at k2;exact bf.aah k2 n' wd'
    ·cases h
   ·cases h
  ·cases h
 ·rename_i g;split at h
  ·rename_i hg;subst hg;cases h;intro f hf β I w bz hS hA hG;obtain rfl:=hf6 f hf;obtain⟨x,y,rfl,hx,hy⟩:=KT hA;have hy':=hfn hy;subst hy';rw[oD hx];refine(none .none 0 w).mono fun en w' ⟨he,hw⟩ => ?_
   subst hw;exact⟨_,_,I,he,rfl,hnil _ _,fun b h=>h,fun b h=>.inl h,hS.mf,Qd2 _,fun _ _=>rfl,rfl,rfl,rfl,fun _=>Qd2 _⟩
  ·cases h
 ·cases h
end sort
end
end Fi.S
noncomputable section
namespace Fi.S
open Go Fi Go.Proofs
set_option maxHeartbeats 8000000
set_option maxRecDepth 100000
noncomputable abbrev TP:Program:=Tryz.prog
def cL:Code->Code|.seq a _=>a|c=>c
def cR:Code->Code|.seq _ b=>b|c=>c
def cI:Code->Code|.block _ b=>b|.loop b=>b|c=>c
def wo:Code->Array Oper|.region _ o _=>o|_=>#[]
def op0 : Oper := { dst := none, op := .move (.tmp 0), type := 0, pos := "", after := #[], guard := none }
def opAt (c:Code)(i:Nat):Oper:=(wo c).getD i op0
noncomputable def lC:Code:=Tryz.f242.body.getD .skip
noncomputable def lC2:Code:=cR (cR lC)
noncomputable def Zb:Code:=cL (cL lC2)
noncomputable def lLp:Code:=cI (cI (cR (cL lC2)))
noncomputable def NK:Code:=cL lLp
noncomputable def lB1:Code:=cI (cR (cR lLp))
noncomputable def wy:Code:=cL lB1
theorem abj:Tryz.f242.body=some (.seq (cL lC) (.seq (cL (cR lC)) (.seq (.seq (.region 2 (wo Zb) false) (.block 0 (.loop (.seq (.region 3 (wo NK) false) (.seq (.cond (.tmp 9) .skip (.exit 0)) (.block 1 (.seq (.region 4 (wo wy) false) (cR lB1)))))))) (cR lC2)))):=by kernel_rfl
theorem aeV:(wo Zb).toList=[opAt Zb 0,opAt Zb 1]:=by kernel_rfl
theorem ahP:(opAt Zb 0).op=.move (.tmp 0)/\(opAt Zb 0).dst=some 6/\(opAt Zb 0).guard=none:=⟨by kernel_rfl,by kernel_rfl,by kernel_rfl⟩
theorem ahQ:(opAt Zb 1).op=.range 206 (.tmp 6)/\(opAt Zb 1).dst=some 7/\(opAt Zb 1).guard=none:=⟨by kernel_rfl,by kernel_rfl,by kernel_rfl⟩
theorem aeW:(wo NK).toList=[opAt NK 0,opAt NK 1]:=by kernel_rfl
theorem ahR:(opAt NK 0).op=.next (.tmp 7) false/\(opAt NK 0).dst=some 8/\(opAt NK 0).guard=none:=⟨by kernel_rfl,by kernel_rfl,by kernel_rfl⟩
theorem ahS:(opAt NK 1).op=.extract (.tmp 8) 0/\(opAt NK 1).dst=some 9/\(opAt NK 1).guard=none:=⟨by kernel_rfl,by kernel_rfl,by kernel_rfl⟩
theorem NL:(wo wy).toList=opAt wy 0::[opAt wy 1,opAt wy 2,opAt wy 3,opAt wy 4,opAt wy 5,opAt wy 6]:=by kernel_rfl
theorem ahT:(opAt wy 0).op=.entry (.tmp 7)/\(opAt wy 0).dst=some 10/\(opAt wy 0).guard=none:=⟨by kernel_rfl,by kernel_rfl,by kernel_rfl⟩
theorem ahU:TP.underlying 206=some (.map 105 34):=by kernel_rfl
noncomputable def Gj:Cx:={gid:=gid,vars:=[0,2,3,4,5,7,9,15],kills:=fun _=>[],ntmps:=25,vD:=fun f=>Nat.beq f 293}
def aeX:aF:=.region [⟨false,none,.Bh (.c (.n 6))⟩] [(1,0)] []
def aeY:aF:=.region [⟨false,none,.Bh (.c (.n 6))⟩] [(2,0)] []
def aeZ:List jE:=[⟨false,none,.ext (.loc 0) 0⟩,⟨false,none,.ext (.loc 0) 1⟩,⟨false,none,.new [(vI 0),(vI 0),(vI 0)]⟩,⟨false,none,.new [(vB false),(.n 1),(.n 1)]⟩,⟨false,none,.store 3 (.loc 3) (.loc 1)⟩,⟨false,none,.store 3 (.loc 4) (.loc 2)⟩]
theorem akQ:comp TP Gj (cL lC)=some aeX:=by kernel_rfl
theorem akR:comp TP Gj (cL (cR lC))=some aeY:=by kernel_rfl
theorem akS:comp TP Gj (cR lB1)=some Vl:=by kernel_rfl
theorem c_E:comp TP Gj (cR lC2)=some Pb:=by kernel_rfl
theorem akT:mP TP Gj [opAt wy 1,opAt wy 2,opAt wy 3,opAt wy 4,opAt wy 5,opAt wy 6] [some 10]=some aeZ:=by kernel_rfl
theorem ahV:oF TP Gj Tryz.f242.results.toList=some [.var 1]:=by kernel_rfl
theorem akU:[opAt wy 1,opAt wy 2,opAt wy 3,opAt wy 4,opAt wy 5,opAt wy 6].map (·.dst)=[some 11,some 12,some 4,some 5,none,none]:=by kernel_rfl
theorem akV:Tryz.f242.ntmps=25:=by kernel_rfl
theorem ae0 (m out k1 k2 p b1 b2:FV)(L:List ah)(e:Int × Int × Int)(x:Rat)(rec:Nat->List FV->List ah->bJ) :
  ∃ ev,eu E3 rec aeZ (rU m .u out k1 k2 p b1 b2 L) [.d (.t [kF e,qD x])]=some (rU m .u out k1 k2 p b1 b2 (L++[.box [dI e.1,dI e.2.1,dI e.2.2],.box [dB (qs x),.d (LD (qn x)),.d (LD (qd x))]]),ev) /\
   ev=[.d (.t [kF e,qD x]),.d (kF e),.d (qD x),rL L.length,rL (L.length+1),.d (.t []),.d (.t [])]:=by
 obtain⟨a,b,c⟩:=e;simp only[kF,qD,raw,LD];refine⟨_,?_,rfl⟩;rw[<-BG];simp[aeZ,rU]
section walk
variable {I0:Nat->Prop} {w0:World}
structure Since (I0:Nat->Prop)(w0:World)(I:Nat->Prop)(w:World):Prop where
 im:∀ b,I0 b->I b
 iH:∀ b,I b->I0 b\/w0.heap.size<=b
 mf:∀ b,I b->b<w.heap.size
 size:w0.heap.size<=w.heap.size
 keep:∀ b,b<w0.heap.size->w.heap[b]?=w0.heap[b]?
 os:w.os=w0.os
 tape:w.tape=w0.tape
 output:w.output=w0.output
 drawn:w0.drawn<=w.drawn
theorem bn.reb {σ:Nat->Option FuncId}{β β':Fi.Map}{I:Nat->Prop}{w:World}{n n':Nat}{cx:Cx}{vars:List FV}{a:Act}(h:bn σ β I w n cx vars [] [] a)(hv:∀ y ∈ vars,(∃ d,y=.d d)\/y=.u):bn σ β' I w n' cx vars [] [] a :=
 ⟨h.size,fun j t y h1 h2 h3=>by
  have hr:=h.var j t y h1 h2 h3;rcases hv y (Qa2 h3) with ⟨d,rfl⟩|rfl
  ·cases hr with|d hr=>exact .d hr
  ·exact .u _,fun t j y h1=>by rw[fM]at h1;cases h1⟩
theorem bn.val {σ:Nat->Option FuncId}{β:Fi.Map}{I:Nat->Prop}{w:World}{n:Nat}{cx:Cx}{vars:List FV}{a:Act}(h:bn σ β I w n cx vars [] [] a){j:Nat}{t:Tmp}{x:Value}(h1:cx.vars[j]?=some t)(h2:vars[j]?=some (.d (.v x))):a.eval (.tmp t)=x :=
 (h.var j t _ h1 (fM _) h2).val
theorem Ih (hm:TP.follows .mixedOrders=true)(hB:Bodies TP E3 sig)(hF:nL TP E3 sig)(hP:ja TP E3 sig){c:Code}{F:aF}{N:Nat}{st st':St}{o:Out}(hc:comp TP Gj c=some F)(hx:EX E3 N F st=some (o,st'))
  {Wr:Nat->Prop} {β:Fi.Map} {I:Nat->Prop} {w:World} {a:Act} {Q:Exit->Act->World->Prop} (hS:bf sig st.base.length β I Wr (fun _=>True) (st.base++st.loc) w) (hG:dX E3 sig I w) (hT:bn sig β I w st.base.length Gj st.vars [] [] a)
  (hQ:∀ β' I' w' a',Ext E3.mn β β' I I' Wr w w'->bf sig st.base.length β' I' Wr (fun _=>True) (st'.base++st'.loc) w'->bn sig β' I' w' st.base.length Gj st'.vars [] [] a'->a'.defers=a.defers->Q (D_ o) a' w'):c.wp TP Q a w:=by
 rw[rM]at hx;exact wz hm hB N (fun M _=>qQ hm hB hF hP M) N (Qd2 _) Gj (fun f g h=>BH nodup xO h) c F hc st o st' hx Wr (fun _=>True) β I w a Q ⟨fun _ _=>trivial,fun _ _=>trivial⟩ hS hG hT hQ
structure At (ms:Array MapEntry)(clock bm r0:Nat)(l:List aS)(I0:Nat->Prop)(w0:World)(p:List Nat)(out:FV)(L:List ah)(β:Fi.Map)(I:Nat->Prop)(a:Act)(w:World):Prop where
 nd:p.Nodup
 lt:∀ i ∈ p,i<l.length
 it:∃ last,clock<=last/\w.heap[r0]?=some (.mapIter (some bm) clock (p.map fun i=>(ms[i]!).born).toArray last)
 map:w.heap[bm]?=some (.map ms clock)
 Fh:xQ sig I w (l.map dN) ms clock
 qR:bf sig 0 β I (fun b=>r0<b) (fun _=>True) L w
 nI:¬ I r0
 PM:dX E3 sig I w
 tmps:bn sig β I w 0 Gj [.d (.v (.map (some bm))),.u,out,.u,.u,.d (.v (.pointer (some ⟨r0,0,none⟩))),.u,.u] [] [] a
 PN:pK out L (p.flatMap fun i=>(l[i]?).elim [] fo)
 dfr:a.defers=[]
 since:Grow False I0 I w0 w
theorem Since.of {I I':Nat->Prop}{w w':World}{β β':Fi.Map}{r0:Nat}(h:Grow False I0 I w0 w)(hr:w0.heap.size<=r0)(hx:Ext E3.mn β β' I I' (fun b=>r0<b) w w')(hi:∀ b,I' b->b<w'.heap.size):Grow False I0 I' w0 w' :=
 ⟨fun b hb=>hx.im b (h.im b hb),fun b hb=>(hx.iH b hb).elim (h.iH b) (fun hb=>.inr ae),hi,Qc1 h.size hx.size,
 fun b hb=>(hx.keepW b (Qk1 hb h.size) ae).trans (h.keep b hb),hx.os.trans h.os,hx.tape.trans h.tape,hx.output.trans h.output,fun hf=>hf.elim⟩
theorem abk (hm:TP.follows .mixedOrders=true)(hB:Bodies TP E3 sig)(hF:nL TP E3 sig)(hP:ja TP E3 sig){ms:Array MapEntry}{clock bm r0:Nat}{l:List aS}{p:List Nat}{out:FV}{L:List ah}{β:Fi.Map}{I:Nat->Prop}{a:Act}{w:World}
  (h:At ms clock bm r0 l I0 w0 p out L β I a w) (hr0:w0.heap.size<=r0) (NM:bm<w0.heap.size) (hl:∀ q ∈ l,qz q.2<=100000) (hlen:l.length<=100000) {K:Act->World->Prop} {Q:Exit->Act->World->Prop}
  (hdone:(∀ i,i<l.length->i ∈ p)->∀ a',At ms clock bm r0 l I0 w0 p out L β I a' w->Q (.exit 0) a' w)
  (hnext:∀ j out' L' β' I' a' w',j<l.length->j ∉ p->At ms clock bm r0 l I0 w0 (p++[j]) out' L' β' I' a' w'->K a' w') :
  (Code.seq (.region 3 (wo NK) false) (.seq (.cond (.tmp 9) .skip (.exit 0)) (.block 1 (.seq (.region 4 (wo wy) false) (cR lB1))))).wp TP (Exit.then K Q) a w:=by
 obtain⟨last,hlast,hit⟩:=h.it;have ahW:a.eval (.tmp 7)=.pointer (some ⟨r0,0,none⟩):=bn.val h.tmps (j:=5) rfl rfl;have hsz:a.tmps.size=25:=h.tmps.size;have hdst:∀ (t:Nat),t<25->xR Gj (some t)=true:=fun t ht=>decide_eq_true ht
 refine wp_seq (wp_region_list ?_);rw[aeW];obtain⟨o1,o2,o3⟩:=ahR;obtain⟨o4,o5,o6⟩:=ahS;have hold:∀ x ∈ ms.toList,x.born<clock:=h.Fh.old
 -- what is left
 have hleft:∀ e ∈ (leftOf ms (p.map fun i=>(ms[i]!).born).toArray).toList,∃ j,j<l.length/\j ∉ p/\ms[j]?=some e:=by
  intro e he;simp only[leftOf,Array.toList_filter,Q31]at he;obtain⟨he,hc⟩:=he;obtain⟨j,hj,rfl⟩:=Xd0 he;have hjm:j<ms.size:=by simpa using hj
  have hjl:j<l.length:=by rw[<-Qj1 (f:=dN),<-h.Fh.len];exact hjm
  refine⟨j,hjl,fun hp => ?_,by simp[hjm]⟩;simp only[Qt1,List.contains_toArray,List.contains_eq_mem,decide_eq_false_iff_not,Qg1,not_exists,not_and]at hc;exact hc j hp (by rw[getElem!_pos ms j hjm];simp)
 have Xg:∀ (a1:Act) (vs:Array Value) (t:Bool),a1.tmps.size=25->a1.eval (.tmp 8)=.tuple vs->vs[0]?=some (.bool t)->Yields TP (opAt NK 1) a1.eval w (fun y w''=>y=.bool t/\w''=w):=by
  intro a1 vs t _ h1 h2;refine jH ?_;simp[execOp,o4,h1,Instr.extract,h2]
 have hput:∀ (v:Value) (t:Bool),bn sig β I w 0 Gj [.d (.v (.map (some bm))),.u,out,.u,.u,.d (.v (.pointer (some ⟨r0,0,none⟩))),.u,.u] [] [] ((a.put (some 8) v).put (some 9) (.bool t)):=by
  intro v t;have h1:=((h.tmps.put rfl (hdst 8 ae) (.u v)).put rfl (hdst 9 ae) (v:=dB t) (x:=.bool t) (.d (.v _))).out rfl;exact h1.kill [6]
 have he8:∀ v,(a.put (some 8) v).eval (.tmp 8)=v:=fun v=>by
  rw[eval_put _ _ _ _ (fun u hu=>by cases hu;rw[hsz];exact(by decide:(8:Nat)<25)),if_pos rfl]
 have hs8:∀ v,(a.put (some 8) v).tmps.size=25:=fun v=>by rw[Ea,hsz]
 have he9:∀ v t,((a.put (some 8) v).put (some 9) (.bool t)).eval (.tmp 9)=.bool t:=fun v t=>by
  rw[eval_put _ _ _ _ (fun u hu=>by cases hu;rw[hs8];exact(by decide:(9:Nat)<25)),if_pos rfl]
 have hd9:∀ v t,((a.put (some 8) v).put (some 9) (.bool t)).defers=[]:=fun v t=>by rw[put_defers,put_defers];exact h.dfr
 rcases abl w (opAt NK 0).type r0 bm clock last _ ms clock hit h.map hold hlast with ⟨h0,hrun⟩|⟨e,he,w1,hw1,hrun⟩
 ·-- none is left
  refine fU o3 (jH (x:=.tuple #[.bool false]) (w':=w) (by simp only[execOp,o1,ahW,Sem.run_bind];rw[hrun];rfl)) ?_;rintro x w' ⟨rfl,rfl⟩;rw[o2];refine fU o6 (Xg _ #[.bool false] false (hs8 _) (he8 _) rfl) ?_;rintro x w' ⟨rfl,rfl⟩;rw[o5];show(Code.seq (.cond (.tmp 9) .skip (.exit 0)) (.block 1 (.seq (.region 4 (wo wy) false) (cR lB1)))).wp TP (Exit.then K Q) _ _;refine wp_seq (wp_cond (t:=false) (he9 _ _) (wp_exit ?_));refine hdone (fun i hi => ?_) _ ⟨h.nd,h.lt,h.it,h.map,h.Fh,h.qR,h.nI,h.PM,hput _ _,h.PN,hd9 _ _,h.since⟩;rcases Decidable.em (i ∈ p) with hp|hp
  ·exact hp
  ·exfalso;have him:i<ms.size:=by rw[h.Fh.len,Qj1];exact hi
   have hmem:ms[i] ∈ leftOf ms (p.map fun i=>(ms[i]!).born).toArray:=by
    simp only[leftOf,Array.mem_filter,Array.getElem_mem,true_and,Qt1,List.contains_toArray,List.contains_eq_mem,decide_eq_false_iff_not,Qg1,not_exists,not_and];intro k hk hb;have hkm:k<ms.size:=by rw[h.Fh.len,Qj1];exact h.lt k hk
    rw[getElem!_pos ms k hkm]at hb;have hki:k=i:=by
     have h1:(ms.toList.map (·.born))[k]?=(ms.toList.map (·.born))[i]?:=by simp[hkm,him,hb]
     exact(List.getElem?_inj (by simpa using hkm) h.Fh.once).1 h1
    exact hp (hki ▸ hk)
   have:=Array.size_pos_of_mem hmem;omega
 ·obtain⟨j,hj,hjp,jJ⟩:=hleft e he;have hjm:j<ms.size:=by rw[h.Fh.len,Qj1];exact hj
  have hjv:ms[j]! = e:=by
   rw[getElem!_pos ms j hjm];rw[Qh0 hjm]at jJ;exact Qy0 jJ
  have ae1:w1.heap=w.heap:=by rcases hw1 with rfl|rfl<;>rfl
  have ahY:r0<w.heap.size:=(Q80.1 hit).1;generalize hw2:({w1 with heap:=w1.heap.setIfInBounds r0 (.mapIter (some bm) clock ((p.map fun i=>(ms[i]!).born).toArray.push e.born) clock)}:World)=w2 at hrun;have hother:∀ b,b≠r0->w2.heap[b]?=w.heap[b]?:=fun b hb=>by
   rw[<-hw2];show(w1.heap.setIfInBounds r0 _)[b]?=_;rw[ae1];simp[Ne.symm hb]
  have hsize:w2.heap.size=w.heap.size:=by rw[<-hw2];show(w1.heap.setIfInBounds r0 _).size=_;simp[ae1]
  have hit2:w2.heap[r0]?=some (.mapIter (some bm) clock ((p.map fun i=>(ms[i]!).born).toArray.push e.born) clock):=by
   rw[<-hw2];show(w1.heap.setIfInBounds r0 _)[r0]?=_;rw[ae1];simp[ahY]
  have hos:w2.os=w.os/\w2.tape=w.tape/\w2.output=w.output:=by
   rw[<-hw2];rcases hw1 with rfl|rfl<;>exact⟨rfl,rfl,rfl⟩
  have hmap2:w2.heap[bm]?=some (.map ms clock):=by rw[hother bm ae];exact h.map
  have hI2:∀ b,I b->w2.heap[b]?=w.heap[b]?:=fun b hb=>hother b (fun e=>h.nI (e ▸ hb))
  have ahZ:=bf.other (w':=w2) h.qR (r0:=r0) ae h.nI hsize hother;have Eb:=h.PM.mono (w':=w2) (fun _ h=>h) hI2;have Ec:=h.Fh.mono (w':=w2) (fun _ h=>h) hI2;have iJ:Grow False I0 I w0 w2:=⟨h.since.im,h.since.iH,fun b hb=>hsize ▸ h.since.mf b hb,hsize ▸ h.since.size,fun b hb=>(hother b ae).trans (h.since.keep b hb),hos.1.trans h.since.os,hos.2.1.trans h.since.tape,hos.2.2.trans h.since.output,fun hf=>hf.elim⟩
  refine fU o3 (jH (x:=.tuple #[.bool true,e.key,e.val]) (w':=w2) (by simp only[execOp,o1,ahW,Sem.run_bind];rw[hrun];rfl)) ?_;rintro x w' ⟨rfl,hw'⟩;rw[hw'];clear hw' w';rw[o2];have ah0:Yields TP (opAt NK 1) (a.put (some 8) (.tuple #[.bool true,e.key,e.val])).eval w2 (fun y w''=>y=.bool true/\w''=w2):=jH (by simp[execOp,o4,he8,Instr.extract]);refine fU o6 ah0 ?_;rintro x w' ⟨rfl,hw'⟩;rw[hw'];clear hw' w';rw[o5];show(Code.seq (.cond (.tmp 9) .skip (.exit 0)) (.block 1 (.seq (.region 4 (wo wy) false) (cR lB1)))).wp TP (Exit.then K Q) _ _;refine wp_seq (wp_cond (t:=true) (he9 _ _) (wp_skip ?_));show(Code.block 1 (.seq (.region 4 (wo wy) false) (cR lB1))).wp TP (Exit.then K Q) _ _;refine wp_block (wp_seq (wp_region_list ?_));have ae2:=bn.other (w':=w2) (hput (.tuple #[.bool true,e.key,e.val]) true) h.nI hother;have ah1:=hd9 (.tuple #[.bool true,e.key,e.val]) true;generalize hga:(a.put (some 8) (.tuple #[.bool true,e.key,e.val])).put (some 9) (.bool true)=a2 at ae2 ah1 ⊢;have ah2:a2.eval (.tmp 7)=.pointer (some ⟨r0,0,none⟩):=bn.val ae2 (j:=5) rfl rfl;rw[NL];obtain⟨u1,u2,u3⟩:=ahT;have ae3:=Xh (P:=TP) w2 r0 bm clock _ ms clock e hit2 hmap2 (Qa2 (by simpa using jJ)) h.Fh.once;refine fU u3 (jH (x:=.tuple #[e.key,e.val]) (w':=w2) (by simp only[execOp,u1,ah2,Sem.run_bind];rw[ae3];rfl)) ?_;rintro x w' ⟨rfl,hw'⟩;rw[hw'];clear hw' w';rw[u2];obtain⟨q,hq⟩:∃ q,l[j]?=some q:=⟨l[j],Qa1 hj⟩
  have hqd:(l.map dN)[j]?=some (dN q):=by simp[hq]
  have hk:=Ec.key j _ e hqd jJ;have hv:=Ec.val j _ e hqd jJ;obtain⟨qe,qx⟩:=q;have hqz:qz qx<=1000000:=Qc1 (hl _ (Qa2 hq)) ae;simp only[dN]at hk hv;have hrt:aI sig β I w2 0 (.d (.t [kF qe,qD qx])) (.tuple #[e.key,e.val]):=.d (.t rfl (fun i c x hc hx=>by
   match i with
   | 0=>simp at hc hx;subst hc;subst hx;exact hk
   | 1=>simp at hc hx;subst hc;subst hx;exact hv
   | i+2=>simp at hc))
  obtain⟨ev,ah3,hev⟩:=ae0 (.d (.v (.map (some bm)))) out .u .u (.d (.v (.pointer (some ⟨r0,0,none⟩)))) .u .u L qe qx (fun _ _ _=>none);have ht3:=ae2.put rfl (hdst 10 ae) hrt;refine uL (E:=E3) (σ:=sig) (Wr:=fun b=>r0<b) (wd:=fun _=>True) (cx:=Gj) (rec:=fun _ _ _=>none) (fun f g h=>BH nodup xO h) hB (fun _ _ _ _ _ h=>by cases h) (fun _ _ _ _ h=>by cases h) _ akT ah3 rfl ?_ ?_ ⟨fun _ _=>trivial,fun _ _=>trivial⟩ ahZ Eb ht3 ?_
  ·intro k d hd
   match k with
   | 0 =>
    simp at hd;subst hd;have:(wo wy)[0]?=some (opAt wy 0):=by rw[<-Qt0,NL];rfl
    rw[this];exact u2
   | k+1=>simp at hd
  ·intro k;rw[<-Qt0,NL];simp[Xp2 1 k]
  ·intro β3 I3 w3 a3 hx3 hs3 ht3 hl3 hd3;show(cR lB1).wp TP (Exit.inBlock 1 (Exit.then K Q)) a3 w3;rw[akU]at ht3 hl3;have ht4:=ht3.out (by rw[hev];rfl);rw[hev]at ht4;have hvars:jC [.d (.v (.map (some bm))),.u,out,.u,.u,.d (.v (.pointer (some ⟨r0,0,none⟩))),.u,.u] [.d (.t [kF qe,qD qx]),.d (kF qe),.d (qD qx),rL L.length,rL (L.length+1),.d (.t []),.d (.t [])] (nM ([some 10]++[some 11,some 12,some 4,some 5,none,none]) Gj.vars 0) =
     [.d (.v (.map (some bm))),.u,out,rL L.length,rL (L.length+1),.d (.v (.pointer (some ⟨r0,0,none⟩))),.u,.u]:=by rfl
   have ht5:bn sig β3 I3 w3 0 Gj [.d (.v (.map (some bm))),.u,out,rL L.length,rL (L.length+1),.d (.v (.pointer (some ⟨r0,0,none⟩))),.u,.u] [] [] a3:=by
    rw[<-hvars];exact ht4
   have hout:pK out (L++[.box [dI qe.1,dI qe.2.1,dI qe.2.2],.box [dB (qs qx),.d (LD (qn qx)),.d (LD (qd qx))]]) (p.flatMap fun i=>(l[i]?).elim [] fo):=by
    rcases h.PN with h1|⟨i,av,h1,h2⟩
    ·exact .inl h1
    ·exact .inr ⟨i,av,h1,by rw[Qa0 (aT h2)];exact h2⟩
   have hcount:(p.flatMap fun i=>(l[i]?).elim [] fo).length<=1000000:=by
    have h1:∀ (p:List Nat),(p.flatMap fun i=>(l[i]?).elim [] fo).length<=p.length:=by
     intro p
     induction p with
     | nil=>simp
     | cons i p ih =>
      simp only[Xc2,Qb0,Qf2];have:((l[i]?).elim [] fo).length<=1:=by
       cases l[i]? with
       | none=>simp
       | some q=>simp only[Option.elim,fo];split<;>simp
      omega
    have h2:p.length<=l.length:=by
     have:=h.nd.length_le_of_subset (l₂:=List.range l.length) (fun i hi=>Xw0.2 (h.lt i hi));simpa using this
    have:=h1 p;omega
   obtain⟨N,out',L',b2',hxb,Jd⟩:=aai qe qx hqz (.d (.v (.map (some bm)))) (.d (.v (.pointer (some ⟨r0,0,none⟩)))) .u .u out L.length (L.length+1) _ _ hout hcount aC aC;refine Ih hm hB hF hP akS hxb (Wr:=fun b=>r0<b) hs3 (Eb.mono hx3.im hx3.fO) ht5 (fun β4 I4 w4 a4 hx4 hs4 ht6 hd4 => ?_);show K a4 w4;have hx34:=hx3.trans hx4;have hkr:w4.heap[r0]?=w2.heap[r0]?:=hx34.keepW r0 (by rw[hsize];exact ahY) ae;have hkm:w4.heap[bm]?=w2.heap[bm]?:=hx34.keepW bm (by rw[hsize];omega) ae;refine hnext j out' L' β4 I4 a4 w4 hj hjp ⟨?_,?_,⟨clock,Qd2 _,?_⟩,by rw[hkm];exact hmap2,Ec.mono hx34.im hx34.fO,hs4,?_,Eb.mono hx34.im hx34.fO,?_,?_,by rw[hd4,hd3];exact(put_defers _ _ _).trans ah1,Since.of iJ hr0 hx34 hs4.mf⟩
   ·rw[List.nodup_append];exact⟨h.nd,aC,fun x hx y hy=>by simp at hy;subst hy;exact fun e=>hjp (e ▸ hx)⟩
   ·intro i hi;rcases Qw0.1 hi with hi|hi
    ·exact h.lt i hi
    ·simp at hi;subst hi;exact hj
   ·rw[hkr,hit2]
    congr 2
    apply Q40;simp[hjv]
   ·intro hb;rcases hx34.iH r0 hb with hb|hb
    ·exact h.nI hb
    ·omega
   ·exact ht6.kill [3,4,6,7]
   ·rw[Xr2];simpa[hq,fo] using Jd
end walk
theorem R5 {P:Program}{f:FuncId}{fn:Func}{c:Code}{v:Value}{n:Nat}{w:World}{R:Ending->World->Prop}(hf:P.funcs[f]?=some fn)(hb:fn.body=some c)(hn:fn.ntmps=n+1)
  (h:∀ a:Act,a.tmps.size=n+1->a.eval (.tmp 0)=v->a.defers=[]->c.wp P (bodyPost P fn R) a w):Calls P f #[v] w R:=by
 refine calls_of_wp hf hb (h _ ?_ ?_ rfl)
 ·rw[hn];simp;omega
 ·simp only[Act.eval,Qs2];rw[Xj0 aC];rfl
section walk
variable {I0:Nat->Prop} {w0:World}
theorem KU (hm:TP.follows .mixedOrders=true)(hB:Bodies TP E3 sig)(hF:nL TP E3 sig)(hP:ja TP E3 sig){ms:Array MapEntry}{clock bm r0:Nat}{l:List aS}(hr0:w0.heap.size<=r0)(NM:bm<w0.heap.size)(hl:∀ q ∈ l,qz q.2<=100000)(hlen:l.length<=100000)
  {Q:Exit->Act->World->Prop} (hdone:∀ p out L β I a w,At ms clock bm r0 l I0 w0 p out L β I a w->(∀ i,i<l.length->i ∈ p)->Q (.exit 0) a w):∀ (k:Nat) (p:List Nat) (out:FV) (L:List ah) (β:Fi.Map) (I:Nat->Prop) (a:Act) (w:World),
   l.length<=p.length+k->At ms clock bm r0 l I0 w0 p out L β I a w->Code.rounds TP (.seq (.region 3 (wo NK) false) (.seq (.cond (.tmp 9) .skip (.exit 0)) (.block 1 (.seq (.region 4 (wo wy) false) (cR lB1))))) Q (k+1) a w
 | k,p,out,L,β,I,a,w,hk,h=>by
  rw[rounds_succ];refine abk hm hB hF hP h hr0 NM hl hlen (fun hall a' h'=>hdone p out L β I a' w h' hall) (fun j out' L' β' I' a' w' hj hjp h' => ?_);have hle:p.length+1<=l.length:=by
   have:=h'.nd.length_le_of_subset (l₂:=List.range l.length) (fun i hi=>Xw0.2 (h'.lt i hi));simpa using this
  match k with
  | 0=>omega
  | k+1=>exact KU hm hB hF hP hr0 NM hl hlen hdone k (p++[j]) out' L' β' I' a' w' (by simp;omega) h'
theorem R6 (hm:TP.follows .mixedOrders=true)(hB:Bodies TP E3 sig)(hF:nL TP E3 sig)(hP:ja TP E3 sig){bm clock:Nat}{ms:Array MapEntry}{l:List aS}(hI:∀ b,I0 b->b<w0.heap.size)(hG:dX E3 sig I0 w0)
  (hb:w0.heap[bm]?=some (.map ms clock)) (hM:xQ sig I0 w0 (l.map dN) ms clock) (hl:∀ q ∈ l,qz q.2<=100000) (hlen:l.length<=100000) (hnd:(l.map (·.1)).Nodup) :
  Calls TP 242 #[.map (some bm)] w0 fun e w'=>∃ x I',e=.returned x/\bE sig I' w' (pM l) x/\Grow False I0 I' w0 w':=by
 have NM:bm<w0.heap.size:=(Q80.1 hb).1;refine R5 Tryz.func242 abj akV (fun a0 hs0 he0 hd0 => ?_);have hT0:bn sig (fun _ _=>none) I0 w0 0 Gj (.d (.v (.map (some bm)))::rX) [] [] a0:=by
  refine⟨hs0,fun j t y h1 _ h3 => ?_,fun t j y h1=>by rw[fM]at h1;cases h1⟩
  match j with
  | 0 =>
   simp only[Qw1,Qe0]at h3;subst h3;have ht:t=0:=by
    have:Gj.vars[0]?=some 0:=rfl;rw[this]at h1;exact(Qy0 h1).symm
   rw[ht,he0];exact .d (.v _)
  | 1 | 2 | 3 | 4 | 5 | 6 | 7=>simp at h3;subst h3;exact .u _
  | j+8=>simp at h3
 have hS0:bf sig 0 (fun _ _=>none) I0 (fun b=>w0.heap.size<=b) (fun _=>True) [] w0:=.empty 0 hI (fun _ h=>h);have x0:EX E3 10 aeX (rU (.d (.v (.map (some bm)))) .u .u .u .u .u .u .u [])=some (.norm,rU (.d (.v (.map (some bm)))) (.d (.n 6)) .u .u .u .u .u .u []):=by
  simp[aeX,rU]
 have x1:EX E3 10 aeY (rU (.d (.v (.map (some bm)))) (.d (.n 6)) .u .u .u .u .u .u [])=some (.norm,rU (.d (.v (.map (some bm)))) (.d (.n 6)) (.d (.n 6)) .u .u .u .u .u []):=by
  simp[aeY,rU]
 refine wp_seq (Ih hm hB hF hP akQ x0 hS0 hG hT0 (fun β1 I1 w1 a1 hx1 hs1 ht1 hd1 => ?_));show(Code.seq (cL (cR lC)) _).wp TP _ a1 w1;refine wp_seq (Ih hm hB hF hP akR x1 hs1 (hG.mono hx1.im hx1.fO) ht1 (fun β2 I2 w2 a2 hx2 hs2 ht2 hd2 => ?_));show(Code.seq _ (cR lC2)).wp TP _ a2 w2;have zD:=hx1.trans hx2;have Eb:=hG.mono zD.im zD.fO;have akX:a2.defers=[]:=by rw[hd2,hd1,hd0]
 have iJ:Grow False I0 I2 w0 w2:=⟨zD.im,zD.iH,hs2.mf,zD.size,fun b hb=>zD.keepW b hb ae,zD.os,zD.tape,zD.output,fun hf=>hf.elim⟩
 have Ec:=hM.mono zD.im zD.fO;have hmap2:w2.heap[bm]?=some (.map ms clock):=by rw[zD.keepW bm NM ae];exact hb
 have hi2:=hs2.mf;clear hx1 hx2 zD hs1 hs2 ht1 hd1 hd2;have ae4:bn sig (fun _ _=>none) I2 w2 0 Gj (.d (.v (.map (some bm)))::.u::.d (.n 6)::n_) [] [] a2:=by
  refine bn.kill (vars:=(.d (.v (.map (some bm)))::.d (.n 6)::.d (.n 6)::n_)) ?_ [1];refine bn.reb ht2 (fun y hy => ?_);simp only[rU,Qi1,Xr0,or_false]at hy;rcases hy with rfl|rfl|rfl|rfl|rfl|rfl|rfl|rfl<;>first|exact .inl ⟨_,rfl⟩|exact .inr rfl
 have hm0:a2.eval (.tmp 0)=.map (some bm):=bn.val ae4 (j:=0) rfl rfl;have hsz2:a2.tmps.size=25:=ae4.size
 -- the iterator
 refine wp_seq (wp_seq (wp_region_list ?_));rw[aeV];obtain⟨o1,o2,o3⟩:=ahP;obtain⟨o4,o5,o6⟩:=ahQ;refine fU o3 (jH (x:=.map (some bm)) (w':=w2) (by simp only[execOp,o1,hm0,Sem.run_bind,Sem.run_pure])) ?_;rintro x w' ⟨rfl,hw'⟩;rw[hw'];clear hw' w';rw[o2];have he6:(a2.put (some 6) (.map (some bm))).eval (.tmp 6)=.map (some bm):=by
  rw[eval_put _ _ _ _ (fun u hu=>by cases hu;rw[hsz2];exact(by decide:(6:Nat)<25)),if_pos rfl]
 refine fU o6 (jH (x:=.pointer (some ⟨w2.heap.size,0,none⟩)) (w':=w2.alloc (.mapIter (some bm) clock #[] clock)) (by
  simp only[execOp,o4,he6,Sem.run_bind];rw[run_range_map w2 206 105 34 bm ms clock ahU hmap2];rfl)) ?_
 rintro x w' ⟨rfl,hw'⟩;rw[hw'];clear hw' w';rw[o5];generalize hw3:w2.alloc (.mapIter (some bm) clock #[] clock)=w3;have Xi:∀ b,b<w2.heap.size->w3.heap[b]?=w2.heap[b]?:=fun b hb=>by rw[<-hw3];exact alloc_old _ _ hb
 have ah4:w3.heap[w2.heap.size]?=some (.mapIter (some bm) clock #[] clock):=by rw[<-hw3];exact pY _ _
 have anw:w3.heap.size=w2.heap.size+1:=by rw[<-hw3];simp
 have hI3:∀ b,I2 b->w3.heap[b]?=w2.heap[b]?:=fun b hb=>Xi b (hi2 b hb)
 have ht3:bn sig (fun _ _=>none) I2 w3 0 Gj [.d (.v (.map (some bm))),.u,.d (.n 6),.u,.u,.d (.v (.pointer (some ⟨w2.heap.size,0,none⟩))),.u,.u] [] [] ((a2.put (some 6) (.map (some bm))).put (some 7) (.pointer (some ⟨w2.heap.size,0,none⟩))):=by
  have h1:=((ae4.put rfl (d:=some 6) (by exact decide_eq_true (by decide:(6:Nat)<25)) (v:=.d (.v (.map (some bm)))) (x:=.map (some bm)) (.d (.v _))).put rfl (d:=some 7) (by exact decide_eq_true (by decide:(7:Nat)<25)) (v:=.d (.v (.pointer (some ⟨w2.heap.size,0,none⟩)))) (x:=.pointer (some ⟨w2.heap.size,0,none⟩)) (.d (.v _))).out rfl;exact h1.mono (fun _ _ _ h=>h) (fun _ h=>h) hI3
 have hd3:((a2.put (some 6) (.map (some bm))).put (some 7) (.pointer (some ⟨w2.heap.size,0,none⟩))).defers=[]:=by rw[put_defers,put_defers];exact akX
 generalize (a2.put (some 6) (.map (some bm))).put (some 7) (.pointer (some ⟨w2.heap.size,0,none⟩))=a3 at ht3 hd3;have hat:At ms clock bm w2.heap.size l I0 w0 [] (.d (.n 6)) [] (fun _ _=>none) I2 a3 w3 :=
  {nd:=List.nodup_nil,lt:=fun i hi=>by simp at hi,it:=⟨clock,Qd2 _,ah4⟩,map:=by rw[Xi bm (Qk1 NM iJ.size)];exact hmap2,Fh:=Ec.mono (fun _ h=>h) hI3,
   qR:=.empty 0 (fun b hb=>by have:=hi2 b hb;omega) (fun b hb=>by show _<_;omega),nI:=fun hb=>by have:=hi2 _ hb;omega,PM:=Eb.mono (fun _ h=>h) hI3,tmps:=ht3,PN:=.inl ⟨rfl,rfl⟩,dfr:=hd3,
   since:=⟨iJ.im,iJ.iH,fun b hb=>by have:=hi2 b hb;omega,by have:=iJ.size;omega,fun b hb=>(Xi b (Qk1 hb iJ.size)).trans (iJ.keep b hb),by rw[<-hw3];exact iJ.os,by rw[<-hw3];exact iJ.tape,by rw[<-hw3];exact iJ.output,fun hf=>hf.elim⟩}
 show(Code.block 0 _).wp TP _ a3 w3;refine wp_block (wp_loop_rounds (l.length+1) (KU hm hB hF hP iJ.size NM hl hlen (fun p out L β I a w h hall => ?_) l.length [] _ _ _ _ _ _ aC hat));show(cR lC2).wp TP _ a w;have hperm:=Q4 h.nd h.lt hall fo;have hnd':((p.flatMap fun i=>(l[i]?).elim [] fo).map C9).Nodup:=(hperm.map C9).nodup_iff.2 (Xu2 (Aa l) hnd);have hok:y5 (p.flatMap fun i=>(l[i]?).elim [] fo)=true:=by
  simp only[y5,Qd0,decide_eq_true_eq];refine⟨⟨Qh2.2 (fun d hd=>Q3 l d (hperm.mem_iff.1 hd)),hnd'⟩,?_⟩;have h1:=(Aa l).length_le;rw[Qj1,Qj1]at h1;rw[hperm.length_eq];omega
 obtain⟨N,out',L',aX,hxe,hoe⟩:=adZ (.d (.v (.map (some bm)))) .u .u (.d (.v (.pointer (some ⟨w2.heap.size,0,none⟩)))) .u .u out L _ h.PN hok;refine Ih hm hB hF hP c_E hxe (Wr:=fun b=>w2.heap.size<b) h.qR h.PM h.tmps (fun β5 I5 w5 a5 hx5 hs5 ht5 hd5 => ?_);have abm:(p.flatMap fun i=>(l[i]?).elim [] fo).mergeSort vz=(l.flatMap fo).mergeSort vz:=Q0 hperm hnd';rw[abm]at hoe;have mQ:=Since.of h.since iJ.size hx5 hs5.mf;have hres:mo ({vars:=[.d (.v (.map (some bm))),out',out',.u,.u,.d (.v (.pointer (some ⟨w2.heap.size,0,none⟩))),.u,.u],base:=[],loc:=L',aX:=aX}:St) [.var 1]=some [out']:=rfl;obtain⟨vs,g1,g2,g3⟩:=xS (P:=TP) hs5 ht5 ahV hres;have hend:a5.defers=[]/\∃ v,(results Tryz.f242 a5.tmps).run TP w5=.ok v w5/\(∃ x I',Ending.returned v=.returned x/\bE sig I' w5 (pM l) x/\Grow False I0 I' w0 w5):=by
  refine⟨by rw[hd5];exact h.dfr,nN vs,Aw g1 g2,nN vs,?_⟩;obtain⟨v,rfl⟩:∃ v,vs=[v]:=by
   have:=g3.1
   match vs,this with
   | [v],_=>exact⟨v,rfl⟩
  have hv:=g3.2 0 out' v rfl rfl;show ∃ I',Ending.returned v=.returned v/\bE sig I' w5 (pM l) v/\Grow False I0 I' w0 w5;unfold pM;generalize (l.flatMap fo).mergeSort vz=es at hoe ⊢;rcases hoe with ⟨rfl,rfl⟩|⟨i,av,rfl,hrow⟩
  ·rw[oD hv];exact⟨I5,rfl,.s0 6,mQ⟩
  ·refine⟨fun b=>I5 b\/∃ bo cap,β5 i av=some (b,bo,cap),rfl,?_,?_⟩
   ·have:=Ii (st:=({vars:=[],base:=[],loc:=L',aX:=aX}:St)) (I':=fun b=>I5 b\/∃ bo cap,β5 i av=some (b,bo,cap)) hs5 (p:=.loc i) (av:=av) (sz:=6) (off:=0) (len:=es.length) (es:=es) (.inl (show(({vars:=[],base:=[],loc:=L',aX:=aX}:St).heap (.loc i))=_ from hrow)) ae hv (fun b hb=>.inl hb) (fun b bo cap hβ=>.inr ⟨bo,cap,by simpa[Ref.abs] using hβ⟩);simpa using this
   ·refine⟨fun b hb=>.inl (mQ.im b hb),fun b hb => ?_,fun b hb => ?_,mQ.size,mQ.keep,mQ.os,mQ.tape,mQ.output,fun hf=>hf.elim⟩
    ·rcases hb with hb|⟨bo,cap,hb⟩
     ·exact mQ.iH b hb
     ·have:=(hs5.wr i (.row av 6 es) b bo cap hrow hb).1 trivial;have h1:=iJ.size;exact .inr ae
    ·rcases hb with hb|⟨bo,cap,hb⟩
     ·exact mQ.mf b hb
     ·exact hs5.blt _ _ _ _ _ hb
 exact hend
end walk
theorem abn {σ:Nat->Option FuncId}{β:Fi.Map}{I:Nat->Prop}{w:World}{n:Nat}{a:FV}{bz:Array Value}(hA:gW σ β I w n [a] bz.toList):∃ x,bz=#[x]/\aI σ β I w n a x:=by
 have hl:bz.toList.length=1:=hA.1
 match hvl:bz.toList,hl with
 | [x],_=>exact⟨x,by apply Q40;rw[hvl],hA.2 0 _ x rfl (by rw[hvl];rfl)⟩
theorem abo (hm:TP.follows .mixedOrders=true)(hB:Bodies TP E3 sig)(hF:nL TP E3 sig)(hP:ja TP E3 sig){E:Env}(Xd:¬ E.mn)(hg:E.eG=E3.eG)(args:List FV)(B:List ah)(r:FV × Option (List ah))(h:Dc args B=some r):iV TP E sig 206 args B r:=by
 unfold Dc at h;split at h
 ·rename_i i;split at h
  ·rename_i es J3;split at h
   ·rename_i l hl;split at h
    ·rename_i hok;cases h;intro f hf β I w bz hS hA hG;have hf':sig 206=some 242:=by kernel_rfl
     obtain rfl:=Qy0 (hf'.symm.trans hf);obtain⟨x,rfl,hx⟩:=abn hA;have hes:=Ab hl;subst hes;cases hx with
     | @m _ b bo cap hβ =>
      simp only[Ref.abs]at hβ;obtain⟨ms,clock,h1,h2⟩:=hS.map i _ b bo cap J3 hβ;simp only[vX,Qd0,decide_eq_true_eq,Qh2]at hok;refine(R6 hm hB hF hP hS.mf (fun k y hk=>hG k y (by rw[hg];exact hk)) h1 h2 hok.1.2 hok.2 hok.1.1).mono fun e w' ⟨x,I',he,hr,hgr⟩ => ?_
      exact⟨x,_,I',he,rfl,hr,hgr.im,hgr.iH,hgr.mf,hgr.size,hgr.keep,hgr.os,hgr.tape,hgr.output,fun hf=>absurd hf Xd⟩
    ·cases h
   ·cases h
  ·cases h
 ·cases h
end Fi.S
