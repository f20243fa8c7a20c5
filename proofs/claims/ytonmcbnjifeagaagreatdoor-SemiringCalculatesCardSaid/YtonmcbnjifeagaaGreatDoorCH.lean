/- The polynomial that a map holds. -/
import Derived.Test.YtonmcbnjifeagaaGreatDoorCG
import Derived.Test.YtonmcbnjifeagaaGreatDoorChecked
import Derived.KernelRfl
set_option linter.unusedVariables false
set_option linter.unusedSimpArgs false
noncomputable section
namespace Fi.S
open Go Fi Go.Proofs
set_option maxHeartbeats 8000000
set_option maxRecDepth 100000
noncomputable abbrev TP:Program:=Tryz.prog
def cL:Code->Code|.seq a _=>a|c=>c
def cR:Code->Code|.seq _ b=>b|c=>c
def cI:Code->Code|.block _ b=>b|.loop b=>b|c=>c
def rM:Code->Array Oper|.region _ o _=>o|_=>#[]
def op0 : Oper := { dst := none, op := .move (.tmp 0), type := 0, pos := "", after := #[], guard := none }
def opAt (c:Code)(i:Nat):Oper:=(rM c).getD i op0
noncomputable def lC:Code:=Tryz.f206.body.getD .skip
noncomputable def Yn:Code:=cR (cR lC)
noncomputable def Rx:Code:=cL (cL Yn)
noncomputable def lLp:Code:=cI (cI (cR (cL Yn)))
noncomputable def HY:Code:=cL lLp
noncomputable def lB1:Code:=cI (cR (cR lLp))
noncomputable def rO:Code:=cL lB1
theorem Tn:Tryz.f206.body=some (.seq (cL lC) (.seq (cL (cR lC)) (.seq (.seq (.region 2 (rM Rx) false) (.block 0 (.loop (.seq (.region 3 (rM HY) false) (.seq (.cond (.tmp 9) .skip (.exit 0)) (.block 1 (.seq (.region 4 (rM rO) false) (cR lB1)))))))) (cR Yn)))):=by kernel_rfl
theorem Wv:(rM Rx).toList=[opAt Rx 0,opAt Rx 1]:=by kernel_rfl
theorem Zl:(opAt Rx 0).op=.move (.tmp 0)/\(opAt Rx 0).dst=some 6/\(opAt Rx 0).guard=none:=⟨by kernel_rfl,by kernel_rfl,by kernel_rfl⟩
theorem Zm:(opAt Rx 1).op=.range 168 (.tmp 6)/\(opAt Rx 1).dst=some 7/\(opAt Rx 1).guard=none:=⟨by kernel_rfl,by kernel_rfl,by kernel_rfl⟩
theorem Ww:(rM HY).toList=[opAt HY 0,opAt HY 1]:=by kernel_rfl
theorem Zn:(opAt HY 0).op=.next (.tmp 7) false/\(opAt HY 0).dst=some 8/\(opAt HY 0).guard=none:=⟨by kernel_rfl,by kernel_rfl,by kernel_rfl⟩
theorem Zo:(opAt HY 1).op=.extract (.tmp 8) 0/\(opAt HY 1).dst=some 9/\(opAt HY 1).guard=none:=⟨by kernel_rfl,by kernel_rfl,by kernel_rfl⟩
theorem HZ:(rM rO).toList=opAt rO 0::[opAt rO 1,opAt rO 2,opAt rO 3,opAt rO 4,opAt rO 5,opAt rO 6]:=by kernel_rfl
theorem Zp:(opAt rO 0).op=.entry (.tmp 7)/\(opAt rO 0).dst=some 10/\(opAt rO 0).guard=none:=⟨by kernel_rfl,by kernel_rfl,by kernel_rfl⟩
theorem Zq:TP.underlying 168=some (.map 84 28):=by kernel_rfl
noncomputable def Bq:Cx:={gid:=gid,vars:=[0,2,3,4,5,7,9,15],kills:=fun _=>[],ntmps:=25,yT:=fun f=>Nat.beq f 256}
def Wx:aD:=.region [⟨false,none,.bM (.c (.n 6))⟩] [(1,0)] []
def Wy:aD:=.region [⟨false,none,.bM (.c (.n 6))⟩] [(2,0)] []
def Wz:List eT:=[⟨false,none,.ext (.loc 0) 0⟩,⟨false,none,.ext (.loc 0) 1⟩,⟨false,none,.new [(.v (.int .i64 0)),(.v (.int .i64 0)),(.v (.int .i64 0))]⟩,⟨false,none,.new [(.v (.bool false)),(.n 1),(.n 1)]⟩,⟨false,none,.store 3 (.loc 3) (.loc 1)⟩,⟨false,none,.store 3 (.loc 4) (.loc 2)⟩]
theorem abH:comp TP Bq (cL lC)=some Wx:=by kernel_rfl
theorem abI:comp TP Bq (cL (cR lC))=some Wy:=by kernel_rfl
theorem abJ:comp TP Bq (cR lB1)=some OY:=by kernel_rfl
theorem c_E:comp TP Bq (cR Yn)=some JJ:=by kernel_rfl
theorem abK:jX TP Bq [opAt rO 1,opAt rO 2,opAt rO 3,opAt rO 4,opAt rO 5,opAt rO 6] [some 10]=some Wz:=by kernel_rfl
theorem Zr:lF TP Bq Tryz.f206.results.toList=some [.var 1]:=by kernel_rfl
theorem abL:[opAt rO 1,opAt rO 2,opAt rO 3,opAt rO 4,opAt rO 5,opAt rO 6].map (·.dst)=[some 11,some 12,some 4,some 5,none,none]:=by kernel_rfl
theorem abM:Tryz.f206.ntmps=25:=by kernel_rfl
theorem WA (m out k1 k2 p b1 b2:FV)(L:List ae)(e:Int × Int × Int)(x:Rat)(rec:Nat->List FV->List ae->bz) :
  ∃ ev,dE E3 rec Wz (ou m .u out k1 k2 p b1 b2 L) [.d (.t [iG e,qD x])]=some (ou m .u out k1 k2 p b1 b2 (L++[.box [.d (.v (.int .i64 e.1)),.d (.v (.int .i64 e.2.1)),.d (.v (.int .i64 e.2.2))],.box [.d (.v (.bool (qs x))),.d (LD (qn x)),.d (LD (qd x))]]),ev) /\
   ev=[.d (.t [iG e,qD x]),.d (iG e),.d (qD x),.r (.loc L.length) 0,.r (.loc (L.length+1)) 0,.d (.t []),.d (.t [])]:=by
 obtain⟨a,b,c⟩:=e;simp only[iG,qD,raw,LD];refine⟨_,?_,rfl⟩;rw[<-xB];simp -implicitDefEqProofs [Wz,ou]
end Fi.S
namespace Fi.S
open Go Fi Go.Proofs
set_option maxHeartbeats 8000000
set_option maxRecDepth 100000
section
abbrev aJ:Type:=(Int × Int × Int) × Rat
def cz (p:aJ):D × D:=(iG p.1,qD p.2)
def dW (p:aJ):List D:=if p.2=0 then [] else [qC p.1 p.2]
section walk
variable {I0:Nat->Prop} {w0:World}
structure Since (I0:Nat->Prop)(w0:World)(I:Nat->Prop)(w:World):Prop where
 im:∀ b,I0 b->I b
 gG:∀ b,I b->I0 b\/w0.heap.size<=b
 jc:∀ b,I b->b<w.heap.size
 size:w0.heap.size<=w.heap.size
 keep:∀ b,b<w0.heap.size->w.heap[b]?=w0.heap[b]?
 os:w.os=w0.os
 tape:w.tape=w0.tape
 output:w.output=w0.output
 drawn:w0.drawn<=w.drawn
theorem aR.reb {σ:Nat->Option FuncId}{β β':Fi.Map}{I:Nat->Prop}{w:World}{n n':Nat}{cx:Cx}{vars:List FV}{a:Act}(h:aR σ β I w n cx vars [] [] a)(hv:∀ y ∈ vars,(∃ d,y=.d d)\/y=.u):aR σ β' I w n' cx vars [] [] a :=
 ⟨h.size,fun j t y h1 h2 h3=>by
  have hr:=h.var j t y h1 h2 h3;rcases hv y (List.mem_of_getElem? h3) with ⟨d,rfl⟩|rfl
  ·cases hr with|d hr=>exact .d hr
  ·exact .u _,fun t j y h1=>by rw[dY]at h1;cases h1⟩
theorem aR.val {σ:Nat->Option FuncId}{β:Fi.Map}{I:Nat->Prop}{w:World}{n:Nat}{cx:Cx}{vars:List FV}{a:Act}(h:aR σ β I w n cx vars [] [] a){j:Nat}{t:Tmp}{x:Value}(h1:cx.vars[j]?=some t)(h2:vars[j]?=some (.d (.v x))):a.eval (.tmp t)=x :=
 (h.var j t _ h1 (dY _) h2).val
theorem De (hm:TP.follows .mixedOrders=true)(hB:Bodies TP E3 gid)(hF:mf TP E3 gid)(hP:iK TP E3 gid){c:Code}{F:aD}{N:Nat}{st st':St}{o:Out}(hc:comp TP Bq c=some F)(hx:EX E3 N F st=some (o,st'))
  {Wr:Nat->Prop} {β:Fi.Map} {I:Nat->Prop} {w:World} {a:Act} {Q:Exit->Act->World->Prop} (hS:aB gid st.base.length β I Wr (fun _=>True) (st.base++st.loc) w) (hG:dm E3 gid I w) (hT:aR gid β I w st.base.length Bq st.vars [] [] a)
  (hQ:∀ β' I' w' a',Ext E3.mn β β' I I' Wr w w'->aB gid st.base.length β' I' Wr (fun _=>True) (st'.base++st'.loc) w'->aR gid β' I' w' st.base.length Bq st'.vars [] [] a'->a'.defers=a.defers->Q (yU o) a' w'):c.wp TP Q a w:=by
 rw[nX]at hx;exact rP hm hB N (fun M _=>yV hm hB hF hP M) N (Nat.le_refl _) Bq (fun f g h=>by obtain⟨rfl,_⟩:=iL h;exact h) c F hc st o st' hx Wr (fun _=>True) β I w a Q ⟨fun _ _=>trivial,fun _ _=>trivial⟩ hS hG hT hQ
structure At (ms:Array MapEntry)(clock bm r0:Nat)(l:List aJ)(I0:Nat->Prop)(w0:World)(p:List Nat)(out:FV)(L:List ae)(β:Fi.Map)(I:Nat->Prop)(a:Act)(w:World):Prop where
 nd:p.Nodup
 lt:∀ i ∈ p,i<l.length
 it:∃ last,clock<=last/\w.heap[r0]?=some (.mapIter (some bm) clock (p.map fun i=>(ms[i]!).born).toArray last)
 map:w.heap[bm]?=some (.map ms clock)
 AJ:tL gid I w (l.map cz) ms clock
 oz:aB gid 0 β I (fun b=>r0<b) (fun _=>True) L w
 nI:¬ I r0
 JK:dm E3 gid I w
 tmps:aR gid β I w 0 Bq [.d (.v (.map (some bm))),.u,out,.u,.u,.d (.v (.pointer (some ⟨r0,0,none⟩))),.u,.u] [] [] a
 JL:mg out L (p.flatMap fun i=>(l[i]?).elim [] dW)
 Yo:a.defers=[]
 since:Grow False I0 I w0 w
theorem Since.of {I I':Nat->Prop}{w w':World}{β β':Fi.Map}{r0:Nat}(h:Grow False I0 I w0 w)(hr:w0.heap.size<=r0)(hx:Ext E3.mn β β' I I' (fun b=>r0<b) w w')(hi:∀ b,I' b->b<w'.heap.size):Grow False I0 I' w0 w' :=
 ⟨fun b hb=>hx.im b (h.im b hb),fun b hb=>(hx.gG b hb).elim (h.gG b) (fun hb=>.inr (by omega)),hi,Nat.le_trans h.size hx.size,
 fun b hb=>(hx.keepW b (Nat.lt_of_lt_of_le hb h.size) (by omega)).trans (h.keep b hb),hx.os.trans h.os,hx.tape.trans h.tape,hx.output.trans h.output,fun hf=>hf.elim⟩
theorem Tp (hm:TP.follows .mixedOrders=true)(hB:Bodies TP E3 gid)(hF:mf TP E3 gid)(hP:iK TP E3 gid){ms:Array MapEntry}{clock bm r0:Nat}{l:List aJ}{p:List Nat}{out:FV}{L:List ae}{β:Fi.Map}{I:Nat->Prop}{a:Act}{w:World}
  (h:At ms clock bm r0 l I0 w0 p out L β I a w) (hr0:w0.heap.size<=r0) (H5:bm<w0.heap.size) (hl:∀ q ∈ l,qz q.2<=10000000) (hlen:l.length<=10000000) {K:Act->World->Prop} {Q:Exit->Act->World->Prop}
  (hdone:(∀ i,i<l.length->i ∈ p)->∀ a',At ms clock bm r0 l I0 w0 p out L β I a' w->Q (.exit 0) a' w)
  (hnext:∀ j out' L' β' I' a' w',j<l.length->j ∉ p->At ms clock bm r0 l I0 w0 (p++[j]) out' L' β' I' a' w'->K a' w') :
  (Code.seq (.region 3 (rM HY) false) (.seq (.cond (.tmp 9) .skip (.exit 0)) (.block 1 (.seq (.region 4 (rM rO) false) (cR lB1))))).wp TP (Exit.then K Q) a w:=by
 obtain⟨last,hlast,hit⟩:=h.it;have Zt:a.eval (.tmp 7)=.pointer (some ⟨r0,0,none⟩):=aR.val h.tmps (j:=5) rfl rfl;have hsz:a.tmps.size=25:=h.tmps.size;have hdst:∀ (t:Nat),t<25->tN Bq (some t)=true:=fun t ht=>decide_eq_true ht
 refine wp_seq (wp_region_list ?_);rw[Ww];obtain⟨o1,o2,o3⟩:=Zn;obtain⟨o4,o5,o6⟩:=Zo;have hold:∀ x ∈ ms.toList,x.born<clock:=h.AJ.old
 -- what is left
 have hleft:∀ e ∈ (leftOf ms (p.map fun i=>(ms[i]!).born).toArray).toList,∃ j,j<l.length/\j ∉ p/\ms[j]?=some e:=by
  intro e he;simp only[leftOf,Array.toList_filter,List.mem_filter]at he;obtain⟨he,hc⟩:=he;obtain⟨j,hj,rfl⟩:=List.getElem_of_mem he;have hjm:j<ms.size:=by simpa using hj
  have hjl:j<l.length:=by rw[<-List.length_map (f:=cz),<-h.AJ.len];exact hjm
  refine⟨j,hjl,fun hp => ?_,by simp[hjm]⟩;simp only[Bool.not_eq_true',List.contains_toArray,List.contains_eq_mem,decide_eq_false_iff_not,List.mem_map,not_exists,not_and]at hc;exact hc j hp (by rw[getElem!_pos ms j hjm];simp)
 have OZ:∀ (a1:Act) (vs:Array Value) (t:Bool),a1.tmps.size=25->a1.eval (.tmp 8)=.tuple vs->vs[0]?=some (.bool t)->Yields TP (opAt HY 1) a1.eval w (fun y w''=>y=.bool t/\w''=w):=by
  intro a1 vs t _ h1 h2;refine ib ?_;simp[execOp,o4,h1,Instr.extract,h2]
 have hput:∀ (v:Value) (t:Bool),aR gid β I w 0 Bq [.d (.v (.map (some bm))),.u,out,.u,.u,.d (.v (.pointer (some ⟨r0,0,none⟩))),.u,.u] [] [] ((a.put (some 8) v).put (some 9) (.bool t)):=by
  intro v t;have h1:=((h.tmps.put rfl (hdst 8 (by omega)) (.u v)).put rfl (hdst 9 (by omega)) (v:=.d (.v (.bool t))) (x:=.bool t) (.d (.v _))).out rfl;exact h1.kill [6]
 have he8:∀ v,(a.put (some 8) v).eval (.tmp 8)=v:=fun v=>by
  rw[eval_put _ _ _ _ (fun u hu=>by cases hu;rw[hsz];exact(by decide:(8:Nat)<25)),if_pos rfl]
 have hs8:∀ v,(a.put (some 8) v).tmps.size=25:=fun v=>by rw[yX,hsz]
 have he9:∀ v t,((a.put (some 8) v).put (some 9) (.bool t)).eval (.tmp 9)=.bool t:=fun v t=>by
  rw[eval_put _ _ _ _ (fun u hu=>by cases hu;rw[hs8];exact(by decide:(9:Nat)<25)),if_pos rfl]
 have hd9:∀ v t,((a.put (some 8) v).put (some 9) (.bool t)).defers=[]:=fun v t=>by rw[put_defers,put_defers];exact h.Yo
 rcases Tq w (opAt HY 0).type r0 bm clock last _ ms clock hit h.map hold hlast with ⟨h0,hrun⟩|⟨e,he,w1,hw1,hrun⟩
 ·-- none is left
  refine ek o3 (ib (x:=.tuple #[.bool false]) (w':=w) (by simp only[execOp,o1,Zt,Sem.run_bind];rw[hrun];rfl)) ?_;rintro x w' ⟨rfl,rfl⟩;rw[o2];refine ek o6 (OZ _ #[.bool false] false (hs8 _) (he8 _) rfl) ?_;rintro x w' ⟨rfl,rfl⟩;rw[o5];show(Code.seq (.cond (.tmp 9) .skip (.exit 0)) (.block 1 (.seq (.region 4 (rM rO) false) (cR lB1)))).wp TP (Exit.then K Q) _ _;refine wp_seq (wp_cond (t:=false) (he9 _ _) (wp_exit ?_));refine hdone (fun i hi => ?_) _ ⟨h.nd,h.lt,h.it,h.map,h.AJ,h.oz,h.nI,h.JK,hput _ _,h.JL,hd9 _ _,h.since⟩;rcases Decidable.em (i ∈ p) with hp|hp
  ·exact hp
  ·exfalso;have him:i<ms.size:=by rw[h.AJ.len,List.length_map];exact hi
   have hmem:ms[i] ∈ leftOf ms (p.map fun i=>(ms[i]!).born).toArray:=by
    simp only[leftOf,Array.mem_filter,Array.getElem_mem,true_and,Bool.not_eq_true',List.contains_toArray,List.contains_eq_mem,decide_eq_false_iff_not,List.mem_map,not_exists,not_and];intro k hk hb;have Zu:k<ms.size:=by rw[h.AJ.len,List.length_map];exact h.lt k hk
    rw[getElem!_pos ms k Zu]at hb;have hki:k=i:=by
     have h1:(ms.toList.map (·.born))[k]?=(ms.toList.map (·.born))[i]?:=by simp[Zu,him,hb]
     exact(List.getElem?_inj (by simpa using Zu) h.AJ.once).1 h1
    exact hp (hki ▸ hk)
   have:=Array.size_pos_of_mem hmem;omega
 ·obtain⟨j,hj,hjp,KX⟩:=hleft e he;have hjm:j<ms.size:=by rw[h.AJ.len,List.length_map];exact hj
  have hjv:ms[j]! = e:=by
   rw[getElem!_pos ms j hjm];rw[Array.getElem?_eq_getElem hjm]at KX;exact Option.some.inj KX
  have WB:w1.heap=w.heap:=by rcases hw1 with rfl|rfl<;>rfl
  have Zv:r0<w.heap.size:=(Array.getElem?_eq_some_iff.1 hit).1;generalize hw2:({w1 with heap:=w1.heap.setIfInBounds r0 (.mapIter (some bm) clock ((p.map fun i=>(ms[i]!).born).toArray.push e.born) clock)}:World)=w2 at hrun;have hother:∀ b,b≠r0->w2.heap[b]?=w.heap[b]?:=fun b hb=>by
   rw[<-hw2];show(w1.heap.setIfInBounds r0 _)[b]?=_;rw[WB];simp[Ne.symm hb]
  have hsize:w2.heap.size=w.heap.size:=by rw[<-hw2];show(w1.heap.setIfInBounds r0 _).size=_;simp[WB]
  have hit2:w2.heap[r0]?=some (.mapIter (some bm) clock ((p.map fun i=>(ms[i]!).born).toArray.push e.born) clock):=by
   rw[<-hw2];show(w1.heap.setIfInBounds r0 _)[r0]?=_;rw[WB];simp[Zv]
  have hos:w2.os=w.os/\w2.tape=w.tape/\w2.output=w.output:=by
   rw[<-hw2];rcases hw1 with rfl|rfl<;>exact⟨rfl,rfl,rfl⟩
  have hmap2:w2.heap[bm]?=some (.map ms clock):=by rw[hother bm (by omega)];exact h.map
  have hI2:∀ b,I b->w2.heap[b]?=w.heap[b]?:=fun b hb=>hother b (fun e=>h.nI (e ▸ hb))
  have Zw:=aB.other (w':=w2) h.oz (r0:=r0) (by omega) h.nI hsize hother;have yY:=h.JK.mono (w':=w2) (fun _ h=>h) hI2;have yZ:=h.AJ.mono (w':=w2) (fun _ h=>h) hI2;have f_:Grow False I0 I w0 w2:=⟨h.since.im,h.since.gG,fun b hb=>hsize ▸ h.since.jc b hb,hsize ▸ h.since.size,fun b hb=>(hother b (by omega)).trans (h.since.keep b hb),hos.1.trans h.since.os,hos.2.1.trans h.since.tape,hos.2.2.trans h.since.output,fun hf=>hf.elim⟩
  refine ek o3 (ib (x:=.tuple #[.bool true,e.key,e.val]) (w':=w2) (by simp only[execOp,o1,Zt,Sem.run_bind];rw[hrun];rfl)) ?_;rintro x w' ⟨rfl,hw'⟩;rw[hw'];clear hw' w';rw[o2];have Zx:Yields TP (opAt HY 1) (a.put (some 8) (.tuple #[.bool true,e.key,e.val])).eval w2 (fun y w''=>y=.bool true/\w''=w2):=ib (by simp[execOp,o4,he8,Instr.extract]);refine ek o6 Zx ?_;rintro x w' ⟨rfl,hw'⟩;rw[hw'];clear hw' w';rw[o5];show(Code.seq (.cond (.tmp 9) .skip (.exit 0)) (.block 1 (.seq (.region 4 (rM rO) false) (cR lB1)))).wp TP (Exit.then K Q) _ _;refine wp_seq (wp_cond (t:=true) (he9 _ _) (wp_skip ?_));show(Code.block 1 (.seq (.region 4 (rM rO) false) (cR lB1))).wp TP (Exit.then K Q) _ _;refine wp_block (wp_seq (wp_region_list ?_));have WC:=aR.other (w':=w2) (hput (.tuple #[.bool true,e.key,e.val]) true) h.nI hother;have Zy:=hd9 (.tuple #[.bool true,e.key,e.val]) true;generalize hga:(a.put (some 8) (.tuple #[.bool true,e.key,e.val])).put (some 9) (.bool true)=a2 at WC Zy ⊢;have Zz:a2.eval (.tmp 7)=.pointer (some ⟨r0,0,none⟩):=aR.val WC (j:=5) rfl rfl;rw[HZ];obtain⟨u1,u2,u3⟩:=Zp;have WE:=O0 (P:=TP) w2 r0 bm clock _ ms clock e hit2 hmap2 (List.mem_of_getElem? (by simpa using KX)) h.AJ.once;refine ek u3 (ib (x:=.tuple #[e.key,e.val]) (w':=w2) (by simp only[execOp,u1,Zz,Sem.run_bind];rw[WE];rfl)) ?_;rintro x w' ⟨rfl,hw'⟩;rw[hw'];clear hw' w';rw[u2];obtain⟨q,hq⟩:∃ q,l[j]?=some q:=⟨l[j],List.getElem?_eq_getElem hj⟩
  have hqd:(l.map cz)[j]?=some (cz q):=by simp[hq]
  have hk:=yZ.key j _ e hqd KX;have hv:=yZ.val j _ e hqd KX;obtain⟨qe,qx⟩:=q;have hqz:qz qx<=100000000:=Nat.le_trans (hl _ (List.mem_of_getElem? hq)) (by omega);simp only[cz]at hk hv;have hrt:aC gid β I w2 0 (.d (.t [iG qe,qD qx])) (.tuple #[e.key,e.val]):=.d (.t rfl (fun i c x hc hx=>by
   match i with
   | 0=>simp at hc hx;subst hc;subst hx;exact hk
   | 1=>simp at hc hx;subst hc;subst hx;exact hv
   | i+2=>simp at hc))
  obtain⟨ev,ZA,hev⟩:=WA (.d (.v (.map (some bm)))) out .u .u (.d (.v (.pointer (some ⟨r0,0,none⟩)))) .u .u L qe qx (fun _ _ _=>none);have ht3:=WC.put rfl (hdst 10 (by omega)) hrt;refine ql (E:=E3) (σ:=gid) (Wr:=fun b=>r0<b) (wd:=fun _=>True) (cx:=Bq) (rec:=fun _ _ _=>none) (fun f g h=>by obtain⟨rfl,_⟩:=iL h;exact h) hB (fun _ _ _ _ _ h=>by cases h) (fun _ _ _ _ h=>by cases h) _ abK ZA rfl ?_ ?_ ⟨fun _ _=>trivial,fun _ _=>trivial⟩ Zw yY ht3 ?_
  ·intro k d hd
   match k with
   | 0 =>
    simp at hd;subst hd;have:(rM rO)[0]?=some (opAt rO 0):=by rw[<-Array.getElem?_toList,HZ];rfl
    rw[this];exact u2
   | k+1=>simp at hd
  ·intro k;rw[<-Array.getElem?_toList,HZ];simp[Nat.add_comm 1 k]
  ·intro β3 I3 w3 a3 hx3 hs3 ht3 hl3 hd3;show(cR lB1).wp TP (Exit.inBlock 1 (Exit.then K Q)) a3 w3;rw[abL]at ht3 hl3;have ht4:=ht3.out (by rw[hev];rfl);rw[hev]at ht4;have hvars:gY [.d (.v (.map (some bm))),.u,out,.u,.u,.d (.v (.pointer (some ⟨r0,0,none⟩))),.u,.u] [.d (.t [iG qe,qD qx]),.d (iG qe),.d (qD qx),.r (.loc L.length) 0,.r (.loc (L.length+1)) 0,.d (.t []),.d (.t [])] (kN ([some 10]++[some 11,some 12,some 4,some 5,none,none]) Bq.vars 0) =
     [.d (.v (.map (some bm))),.u,out,.r (.loc L.length) 0,.r (.loc (L.length+1)) 0,.d (.v (.pointer (some ⟨r0,0,none⟩))),.u,.u]:=by rfl
   have ht5:aR gid β3 I3 w3 0 Bq [.d (.v (.map (some bm))),.u,out,.r (.loc L.length) 0,.r (.loc (L.length+1)) 0,.d (.v (.pointer (some ⟨r0,0,none⟩))),.u,.u] [] [] a3:=by
    rw[<-hvars];exact ht4
   have hout:mg out (L++[.box [.d (.v (.int .i64 qe.1)),.d (.v (.int .i64 qe.2.1)),.d (.v (.int .i64 qe.2.2))],.box [.d (.v (.bool (qs qx))),.d (LD (qn qx)),.d (LD (qd qx))]]) (p.flatMap fun i=>(l[i]?).elim [] dW):=by
    rcases h.JL with h1|⟨i,az,h1,h2⟩
    ·exact .inl h1
    ·exact .inr ⟨i,az,h1,by rw[List.getElem?_append_left (bE h2)];exact h2⟩
   have hcount:(p.flatMap fun i=>(l[i]?).elim [] dW).length<=100000000:=by
    have h1:∀ (p:List Nat),(p.flatMap fun i=>(l[i]?).elim [] dW).length<=p.length:=by
     intro p
     induction p with
     | nil=>simp
     | cons i p ih =>
      simp only[List.flatMap_cons,List.length_append,List.length_cons];have:((l[i]?).elim [] dW).length<=1:=by
       cases l[i]? with
       | none=>simp
       | some q=>simp only[Option.elim,dW];split<;>simp
      omega
    have h2:p.length<=l.length:=by
     have:=h.nd.length_le_of_subset (l₂:=List.range l.length) (fun i hi=>List.mem_range.2 (h.lt i hi));simpa using this
    have:=h1 p;omega
   obtain⟨N,out',L',b2',hxb,D9⟩:=Tm qe qx hqz (.d (.v (.map (some bm)))) (.d (.v (.pointer (some ⟨r0,0,none⟩)))) .u .u out L.length (L.length+1) _ _ hout hcount (by simp) (by simp);refine De hm hB hF hP abJ hxb (Wr:=fun b=>r0<b) hs3 (yY.mono hx3.im hx3.eB) ht5 (fun β4 I4 w4 a4 hx4 hs4 ht6 hd4 => ?_);show K a4 w4;have hx34:=hx3.trans hx4;have hkr:w4.heap[r0]?=w2.heap[r0]?:=hx34.keepW r0 (by rw[hsize];exact Zv) (by omega);have Zu:w4.heap[bm]?=w2.heap[bm]?:=hx34.keepW bm (by rw[hsize];omega) (by omega);refine hnext j out' L' β4 I4 a4 w4 hj hjp ⟨?_,?_,⟨clock,Nat.le_refl _,?_⟩,by rw[Zu];exact hmap2,yZ.mono hx34.im hx34.eB,hs4,?_,yY.mono hx34.im hx34.eB,?_,?_,by rw[hd4,hd3];exact(put_defers _ _ _).trans Zy,Since.of f_ hr0 hx34 hs4.jc⟩
   ·rw[List.nodup_append];exact⟨h.nd,by simp,fun x hx y hy=>by simp at hy;subst hy;exact fun e=>hjp (e ▸ hx)⟩
   ·intro i hi;rcases List.mem_append.1 hi with hi|hi
    ·exact h.lt i hi
    ·simp at hi;subst hi;exact hj
   ·rw[hkr,hit2]
    congr 2
    apply Array.ext';simp[hjv]
   ·intro hb;rcases hx34.gG r0 hb with hb|hb
    ·exact h.nI hb
    ·omega
   ·exact ht6.kill [3,4,6,7]
   ·rw[List.flatMap_append];simpa[hq,dW] using D9
end walk
end
end Fi.S
namespace Fi.S
open Go Fi Go.Proofs
set_option maxHeartbeats 8000000
set_option maxRecDepth 100000
section
theorem La {a b c:Int × Int × Int}(h1:iZ b a=false)(h2:iZ c b=false):iZ c a=false:=by
 rw[Bool.eq_false_iff,Ne,jy]at*;omega
theorem Lb (a b:Int × Int × Int):iZ b a=false\/iZ a b=false:=by
 rw[Bool.eq_false_iff,Bool.eq_false_iff,Ne,Ne,jy,jy];omega
theorem Lc {l l':List D}(hp:l.Perm l')(hnd:(l.map yN).Nodup):l.mergeSort qV=l'.mergeSort qV:=by
 have ht:∀ a b c:D,qV a b=true->qV b c=true->qV a c=true:=by
  intro a b c h1 h2;simp only[qV,Bool.not_eq_true']at*;exact La h1 h2
 have hto:∀ a b:D,(qV a b||qV b a)=true:=by
  intro a b;simp only[qV,Bool.or_eq_true,Bool.not_eq_true'];exact Lb _ _
 refine List.Perm.eq_of_pairwise (le:=fun a b=>qV a b=true) (fun a b ha hb h1 h2 => ?_) (List.pairwise_mergeSort ht hto l) (List.pairwise_mergeSort ht hto l') (((List.mergeSort_perm l qV).trans hp).trans (List.mergeSort_perm l' qV).symm);simp only[qV,Bool.not_eq_true']at h1 h2;have he:=jh h2 h1;have ha':a ∈ l:=(List.mergeSort_perm l qV).mem_iff.1 ha;have hb':b ∈ l:=hp.mem_iff.2 ((List.mergeSort_perm l' qV).mem_iff.1 hb);obtain⟨i,hi,rfl⟩:=List.getElem_of_mem ha';obtain⟨j,hj,rfl⟩:=List.getElem_of_mem hb';have h3:(l.map yN)[i]?=(l.map yN)[j]?:=by simp[hi,hj,he]
 have:=(List.getElem?_inj (by simpa using hi) hnd).1 h3;subst this;rfl
def oU (l:List aJ):D:=.s 6 ((l.flatMap dW).mergeSort qV)
theorem wh (l:List aJ):((l.flatMap dW).map yN).Sublist (l.map (·.1)):=by
 induction l with
 | nil=>exact List.Sublist.refl _
 | cons q l ih =>
  simp only[List.flatMap_cons,List.map_append,List.map_cons]
  by_cases h:q.2=0
  ·rw[show dW q=[] from if_pos h];exact ih.cons q.1
  ·rw[show dW q=[qC q.1 q.2] from if_neg h];exact ih.cons_cons q.1
theorem Ld (l:List aJ):∀ d ∈ l.flatMap dW,OU d=true:=by
 intro d hd;obtain⟨q,_,hq⟩:=List.mem_flatMap.1 hd;unfold dW at hq;split at hq
 ·simp at hq
 ·simp only[List.mem_singleton]at hq;subst hq;rfl
theorem y9 {α β:Type}(f:α->List β):∀ l:List α,(List.range l.length).flatMap (fun i=>(l[i]?).elim [] f)=l.flatMap f
 | []=>rfl
 | a::l=>by
  rw[List.length_cons,List.range_succ_eq_map,List.flatMap_cons,List.flatMap_map,List.flatMap_cons];simp only[List.getElem?_cons_zero,Option.elim_some,List.getElem?_cons_succ];rw[y9 f l]
theorem Lf {α:Type}{l:List α}{p:List Nat}(hnd:p.Nodup)(hlt:∀ i ∈ p,i<l.length)(hall:∀ i,i<l.length->i ∈ p){β:Type}(f:α->List β):(p.flatMap fun i=>(l[i]?).elim [] f).Perm (l.flatMap f):=by
 have h1:p.Perm (List.range l.length):=(List.perm_ext_iff_of_nodup hnd List.nodup_range).2 (fun i=>by
  rw[List.mem_range];exact⟨hlt i,hall i⟩)
 rw[<-y9 f l];exact h1.flatMap_right _
theorem Lg {P:Program}{f:FuncId}{fn:Func}{c:Code}{v:Value}{n:Nat}{w:World}{R:Ending->World->Prop}(hf:P.funcs[f]?=some fn)(hb:fn.body=some c)(hn:fn.ntmps=n+1)
  (h:∀ a:Act,a.tmps.size=n+1->a.eval (.tmp 0)=v->a.defers=[]->c.wp P (bodyPost P fn R) a w):Calls P f #[v] w R:=by
 refine calls_of_wp hf hb (h _ ?_ ?_ rfl)
 ·rw[hn];simp;omega
 ·simp only[Act.eval,Array.getD_eq_getD_getElem?];rw[Array.getElem?_append_left (by simp)];rfl
section walk
variable {I0:Nat->Prop} {w0:World}
theorem ET (hm:TP.follows .mixedOrders=true)(hB:Bodies TP E3 gid)(hF:mf TP E3 gid)(hP:iK TP E3 gid){ms:Array MapEntry}{clock bm r0:Nat}{l:List aJ}(hr0:w0.heap.size<=r0)(H5:bm<w0.heap.size)(hl:∀ q ∈ l,qz q.2<=10000000)(hlen:l.length<=10000000)
  {Q:Exit->Act->World->Prop} (hdone:∀ p out L β I a w,At ms clock bm r0 l I0 w0 p out L β I a w->(∀ i,i<l.length->i ∈ p)->Q (.exit 0) a w):∀ (k:Nat) (p:List Nat) (out:FV) (L:List ae) (β:Fi.Map) (I:Nat->Prop) (a:Act) (w:World),
   l.length<=p.length+k->At ms clock bm r0 l I0 w0 p out L β I a w->Code.rounds TP (.seq (.region 3 (rM HY) false) (.seq (.cond (.tmp 9) .skip (.exit 0)) (.block 1 (.seq (.region 4 (rM rO) false) (cR lB1))))) Q (k+1) a w
 | k,p,out,L,β,I,a,w,hk,h=>by
  rw[rounds_succ];refine Tp hm hB hF hP h hr0 H5 hl hlen (fun hall a' h'=>hdone p out L β I a' w h' hall) (fun j out' L' β' I' a' w' hj hjp h' => ?_);have hle:p.length+1<=l.length:=by
   have:=h'.nd.length_le_of_subset (l₂:=List.range l.length) (fun i hi=>List.mem_range.2 (h'.lt i hi));simpa using this
  match k with
  | 0=>omega
  | k+1=>exact ET hm hB hF hP hr0 H5 hl hlen hdone k (p++[j]) out' L' β' I' a' w' (by simp;omega) h'
theorem Lh (hm:TP.follows .mixedOrders=true)(hB:Bodies TP E3 gid)(hF:mf TP E3 gid)(hP:iK TP E3 gid){bm clock:Nat}{ms:Array MapEntry}{l:List aJ}(hI:∀ b,I0 b->b<w0.heap.size)(hG:dm E3 gid I0 w0)
  (hb:w0.heap[bm]?=some (.map ms clock)) (hM:tL gid I0 w0 (l.map cz) ms clock) (hl:∀ q ∈ l,qz q.2<=10000000) (hlen:l.length<=10000000) (hnd:(l.map (·.1)).Nodup) :
  Calls TP 206 #[.map (some bm)] w0 fun e w'=>∃ x I',e=.returned x/\aV gid I' w' (oU l) x/\Grow False I0 I' w0 w':=by
 have H5:bm<w0.heap.size:=(Array.getElem?_eq_some_iff.1 hb).1;refine Lg Tryz.func206 Tn abM (fun a0 hs0 he0 hd0 => ?_);have hT0:aR gid (fun _ _=>none) I0 w0 0 Bq [.d (.v (.map (some bm))),.u,.u,.u,.u,.u,.u,.u] [] [] a0:=by
  refine⟨hs0,fun j t y h1 _ h3 => ?_,fun t j y h1=>by rw[dY]at h1;cases h1⟩
  match j with
  | 0 =>
   simp only[List.getElem?_cons_zero,Option.some.injEq]at h3;subst h3;have ht:t=0:=by
    have:Bq.vars[0]?=some 0:=rfl;rw[this]at h1;exact(Option.some.inj h1).symm
   rw[ht,he0];exact .d (.v _)
  | 1 | 2 | 3 | 4 | 5 | 6 | 7=>simp at h3;subst h3;exact .u _
  | j+8=>simp at h3
 have hS0:aB gid 0 (fun _ _=>none) I0 (fun b=>w0.heap.size<=b) (fun _=>True) [] w0:=.empty 0 hI (fun _ h=>h);have x0:EX E3 10 Wx (ou (.d (.v (.map (some bm)))) .u .u .u .u .u .u .u [])=some (.norm,ou (.d (.v (.map (some bm)))) (.d (.n 6)) .u .u .u .u .u .u []):=by
  simp -implicitDefEqProofs [Wx,ou]
 have x1:EX E3 10 Wy (ou (.d (.v (.map (some bm)))) (.d (.n 6)) .u .u .u .u .u .u [])=some (.norm,ou (.d (.v (.map (some bm)))) (.d (.n 6)) (.d (.n 6)) .u .u .u .u .u []):=by
  simp -implicitDefEqProofs [Wy,ou]
 refine wp_seq (De hm hB hF hP abH x0 hS0 hG hT0 (fun β1 I1 w1 a1 hx1 hs1 ht1 hd1 => ?_));show(Code.seq (cL (cR lC)) _).wp TP _ a1 w1;refine wp_seq (De hm hB hF hP abI x1 hs1 (hG.mono hx1.im hx1.eB) ht1 (fun β2 I2 w2 a2 hx2 hs2 ht2 hd2 => ?_));show(Code.seq _ (cR Yn)).wp TP _ a2 w2;have u_:=hx1.trans hx2;have yY:=hG.mono u_.im u_.eB;have abO:a2.defers=[]:=by rw[hd2,hd1,hd0]
 have f_:Grow False I0 I2 w0 w2:=⟨u_.im,u_.gG,hs2.jc,u_.size,fun b hb=>u_.keepW b hb (by omega),u_.os,u_.tape,u_.output,fun hf=>hf.elim⟩
 have yZ:=hM.mono u_.im u_.eB;have hmap2:w2.heap[bm]?=some (.map ms clock):=by rw[u_.keepW bm H5 (by omega)];exact hb
 have hi2:=hs2.jc;clear hx1 hx2 u_ hs1 hs2 ht1 hd1 hd2;have WG:aR gid (fun _ _=>none) I2 w2 0 Bq [.d (.v (.map (some bm))),.u,.d (.n 6),.u,.u,.u,.u,.u] [] [] a2:=by
  refine aR.kill (vars:=[.d (.v (.map (some bm))),.d (.n 6),.d (.n 6),.u,.u,.u,.u,.u]) ?_ [1];refine aR.reb ht2 (fun y hy => ?_);simp only[ou,List.mem_cons,List.not_mem_nil,or_false]at hy;rcases hy with rfl|rfl|rfl|rfl|rfl|rfl|rfl|rfl<;>first|exact .inl ⟨_,rfl⟩|exact .inr rfl
 have hm0:a2.eval (.tmp 0)=.map (some bm):=aR.val WG (j:=0) rfl rfl;have hsz2:a2.tmps.size=25:=WG.size
 -- the iterator
 refine wp_seq (wp_seq (wp_region_list ?_));rw[Wv];obtain⟨o1,o2,o3⟩:=Zl;obtain⟨o4,o5,o6⟩:=Zm;refine ek o3 (ib (x:=.map (some bm)) (w':=w2) (by simp only[execOp,o1,hm0,Sem.run_bind,Sem.run_pure])) ?_;rintro x w' ⟨rfl,hw'⟩;rw[hw'];clear hw' w';rw[o2];have he6:(a2.put (some 6) (.map (some bm))).eval (.tmp 6)=.map (some bm):=by
  rw[eval_put _ _ _ _ (fun u hu=>by cases hu;rw[hsz2];exact(by decide:(6:Nat)<25)),if_pos rfl]
 refine ek o6 (ib (x:=.pointer (some ⟨w2.heap.size,0,none⟩)) (w':=w2.alloc (.mapIter (some bm) clock #[] clock)) (by
  simp only[execOp,o4,he6,Sem.run_bind];rw[run_range_map w2 168 84 28 bm ms clock Zq hmap2];rfl)) ?_
 rintro x w' ⟨rfl,hw'⟩;rw[hw'];clear hw' w';rw[o5];generalize hw3:w2.alloc (.mapIter (some bm) clock #[] clock)=w3;have O1:∀ b,b<w2.heap.size->w3.heap[b]?=w2.heap[b]?:=fun b hb=>by rw[<-hw3];exact alloc_old _ _ hb
 have ZB:w3.heap[w2.heap.size]?=some (.mapIter (some bm) clock #[] clock):=by rw[<-hw3];exact mo _ _
 have aeV:w3.heap.size=w2.heap.size+1:=by rw[<-hw3];simp
 have hI3:∀ b,I2 b->w3.heap[b]?=w2.heap[b]?:=fun b hb=>O1 b (hi2 b hb)
 have ht3:aR gid (fun _ _=>none) I2 w3 0 Bq [.d (.v (.map (some bm))),.u,.d (.n 6),.u,.u,.d (.v (.pointer (some ⟨w2.heap.size,0,none⟩))),.u,.u] [] [] ((a2.put (some 6) (.map (some bm))).put (some 7) (.pointer (some ⟨w2.heap.size,0,none⟩))):=by
  have h1:=((WG.put rfl (d:=some 6) (by exact decide_eq_true (by decide:(6:Nat)<25)) (v:=.d (.v (.map (some bm)))) (x:=.map (some bm)) (.d (.v _))).put rfl (d:=some 7) (by exact decide_eq_true (by decide:(7:Nat)<25)) (v:=.d (.v (.pointer (some ⟨w2.heap.size,0,none⟩)))) (x:=.pointer (some ⟨w2.heap.size,0,none⟩)) (.d (.v _))).out rfl;exact h1.mono (fun _ _ _ h=>h) (fun _ h=>h) hI3
 have hd3:((a2.put (some 6) (.map (some bm))).put (some 7) (.pointer (some ⟨w2.heap.size,0,none⟩))).defers=[]:=by rw[put_defers,put_defers];exact abO
 generalize (a2.put (some 6) (.map (some bm))).put (some 7) (.pointer (some ⟨w2.heap.size,0,none⟩))=a3 at ht3 hd3;have hat:At ms clock bm w2.heap.size l I0 w0 [] (.d (.n 6)) [] (fun _ _=>none) I2 a3 w3 :=
  {nd:=List.nodup_nil,lt:=fun i hi=>by simp at hi,it:=⟨clock,Nat.le_refl _,ZB⟩,map:=by rw[O1 bm (Nat.lt_of_lt_of_le H5 f_.size)];exact hmap2,AJ:=yZ.mono (fun _ h=>h) hI3,
   oz:=.empty 0 (fun b hb=>by have:=hi2 b hb;omega) (fun b hb=>by show _<_;omega),nI:=fun hb=>by have:=hi2 _ hb;omega,JK:=yY.mono (fun _ h=>h) hI3,tmps:=ht3,JL:=.inl ⟨rfl,rfl⟩,Yo:=hd3,
   since:=⟨f_.im,f_.gG,fun b hb=>by have:=hi2 b hb;omega,by have:=f_.size;omega,fun b hb=>(O1 b (Nat.lt_of_lt_of_le hb f_.size)).trans (f_.keep b hb),by rw[<-hw3];exact f_.os,by rw[<-hw3];exact f_.tape,by rw[<-hw3];exact f_.output,fun hf=>hf.elim⟩}
 show(Code.block 0 _).wp TP _ a3 w3;refine wp_block (wp_loop_rounds (l.length+1) (ET hm hB hF hP f_.size H5 hl hlen (fun p out L β I a w h hall => ?_) l.length [] _ _ _ _ _ _ (by simp) hat));show(cR Yn).wp TP _ a w;have hperm:=Lf h.nd h.lt hall dW;have hnd':((p.flatMap fun i=>(l[i]?).elim [] dW).map yN).Nodup:=(hperm.map yN).nodup_iff.2 (List.Nodup.sublist (wh l) hnd);have hok:u7 (p.flatMap fun i=>(l[i]?).elim [] dW)=true:=by
  simp only[u7,Bool.and_eq_true,decide_eq_true_eq];refine⟨⟨List.all_eq_true.2 (fun d hd=>Ld l d (hperm.mem_iff.1 hd)),hnd'⟩,?_⟩;have h1:=(wh l).length_le;rw[List.length_map,List.length_map]at h1;rw[hperm.length_eq];omega
 obtain⟨N,out',L',aQ,hxe,hoe⟩:=Wt (.d (.v (.map (some bm)))) .u .u (.d (.v (.pointer (some ⟨w2.heap.size,0,none⟩)))) .u .u out L _ h.JL hok;refine De hm hB hF hP c_E hxe (Wr:=fun b=>w2.heap.size<b) h.oz h.JK h.tmps (fun β5 I5 w5 a5 hx5 hs5 ht5 hd5 => ?_);have Tt:(p.flatMap fun i=>(l[i]?).elim [] dW).mergeSort qV=(l.flatMap dW).mergeSort qV:=Lc hperm hnd';rw[Tt]at hoe;have jY:=Since.of h.since f_.size hx5 hs5.jc;have hres:qO ({vars:=[.d (.v (.map (some bm))),out',out',.u,.u,.d (.v (.pointer (some ⟨w2.heap.size,0,none⟩))),.u,.u],base:=[],loc:=L',aQ:=aQ}:St) [.var 1]=some [out']:=rfl;obtain⟨vs,g1,g2,g3⟩:=tO (P:=TP) hs5 ht5 Zr hres;have hend:a5.defers=[]/\∃ v,(results Tryz.f206 a5.tmps).run TP w5=.ok v w5/\(∃ x I',Ending.returned v=.returned x/\aV gid I' w5 (oU l) x/\Grow False I0 I' w0 w5):=by
  refine⟨by rw[hd5];exact h.Yo,kP vs,wo g1 g2,kP vs,?_⟩;obtain⟨v,rfl⟩:∃ v,vs=[v]:=by
   have:=g3.1
   match vs,this with
   | [v],_=>exact⟨v,rfl⟩
  have hv:=g3.2 0 out' v rfl rfl;show ∃ I',Ending.returned v=.returned v/\aV gid I' w5 (oU l) v/\Grow False I0 I' w0 w5;unfold oU;generalize (l.flatMap dW).mergeSort qV=es at hoe ⊢;rcases hoe with ⟨rfl,rfl⟩|⟨i,az,rfl,hrow⟩
  ·rw[lD hv];exact⟨I5,rfl,.s0 6,jY⟩
  ·refine⟨fun b=>I5 b\/∃ bo cap,β5 i az=some (b,bo,cap),rfl,?_,?_⟩
   ·have:=Df (st:=({vars:=[],base:=[],loc:=L',aQ:=aQ}:St)) (I':=fun b=>I5 b\/∃ bo cap,β5 i az=some (b,bo,cap)) hs5 (p:=.loc i) (az:=az) (sz:=6) (off:=0) (len:=es.length) (es:=es) (.inl (show(({vars:=[],base:=[],loc:=L',aQ:=aQ}:St).heap (.loc i))=_ from hrow)) (by omega) hv (fun b hb=>.inl hb) (fun b bo cap hβ=>.inr ⟨bo,cap,by simpa[Ref.abs] using hβ⟩);simpa using this
   ·refine⟨fun b hb=>.inl (jY.im b hb),fun b hb => ?_,fun b hb => ?_,jY.size,jY.keep,jY.os,jY.tape,jY.output,fun hf=>hf.elim⟩
    ·rcases hb with hb|⟨bo,cap,hb⟩
     ·exact jY.gG b hb
     ·have:=(hs5.wr i (.row az 6 es) b bo cap hrow hb).1 trivial;have h1:=f_.size;exact .inr (by omega)
    ·rcases hb with hb|⟨bo,cap,hb⟩
     ·exact jY.jc b hb
     ·exact hs5.blt _ _ _ _ _ hb
 exact hend
end walk
end
end Fi.S
namespace Fi.S
open Go Fi Go.Proofs
set_option maxHeartbeats 8000000
set_option maxRecDepth 100000
def unI:D->Option Nat
 | .v (.int .u32 n)=>some n.toNat
 | _=>none
def Tu:List D->Option (List Nat)
 | []=>some []
 | d::r=>match unI d,Tu r with
  | some n,some s=>some (n::s)
  | _,_=>none
def unL:D->Option (List Nat)
 | .s _ es=>Tu es
 | _=>none
def Yp (d:D):Option Rat :=
 match d with
 | .a [.v (.bool s),a,b]=>match unL a,unL b with
  | some a,some b=>if gH (qD (qR s (val a) (if b.isEmpty then 1 else val b))) d then some (qR s (val a) (if b.isEmpty then 1 else val b)) else none
  | _,_=>none
 | _=>none
def unE:D->Option (Int × Int × Int)
 | .a [.v (.int .i64 a),.v (.int .i64 b),.v (.int .i64 c)]=>some (a,b,c)
 | _=>none
def rQ:List (D × D)->Option (List aJ)
 | []=>some []
 | e::r=>match unE e.1,Yp e.2,rQ r with
  | some a,some x,some s=>some ((a,x)::s)
  | _,_,_=>none
theorem JM:∀ l:List Nat,Tu (LL l)=some l
 | []=>rfl
 | x::l=>by
  have:=JM l;simp only[LL,List.map_cons]at this ⊢;simp[Tu,unI,this]
theorem H6 (a:Int):EU a a=true:=by cases a<;>simp[EU]
theorem EW:∀ l:List Nat,oV (LL l) (LL l)=true
 | []=>rfl
 | x::l=>by
  have:=EW l;simp only[LL,List.map_cons]at this ⊢;simp[oV,gH,EY,O3,H6,this]
theorem WH (x:Rat):Yp (qD x)=some x:=by
 have h1:qR (qs x) (val (qn x)) (if (qd x).isEmpty then 1 else val (qd x))=x:=by
  have e1:val (qn x)=x.num.natAbs:=aN _;have e2:(if (qd x).isEmpty then 1 else val (qd x))=x.den:=by
   unfold qd
   by_cases h:x.den=1
   ·simp[h]
   ·rw[if_neg h];have:enc x.den≠[]:=by rw[Ne,dx];exact x.den_nz
    have:(enc x.den).isEmpty=false:=by simpa using this
    rw[this];simp[aN]
  rw[e1,e2,xY]
 have h2:gH (qD x) (qD x)=true:=by
  simp[qD,raw,LD,gH,oV,EY,EW]
 have h3:Yp (qD x)=if gH (qD (qR (qs x) (val (qn x)) (if (qd x).isEmpty then 1 else val (qd x)))) (qD x) then some (qR (qs x) (val (qn x)) (if (qd x).isEmpty then 1 else val (qd x))) else none:=by
  simp only[Yp,qD,raw,LD,unL,JM]
 rw[h3,h1,if_pos h2]
theorem y_:∀ l:List aJ,rQ (l.map cz)=some l
 | []=>rfl
 | (e,x)::l=>by
  have:=y_ l;simp[rQ,cz,WH,iG,unE]at this ⊢;simp[this]
theorem O4 {d:D}{x:Rat}(h:Yp d=some x):d=qD x:=by
 unfold Yp at h;split at h
 ·split at h
  ·rename_i a' b' ha hb;generalize qR _ (val a') (if b'.isEmpty then 1 else val b')=y at h;split at h
   ·rename_i hs;cases h;exact(oW hs).symm
   ·cases h
  ·cases h
 ·cases h
theorem wy:∀ {es:List (D × D)} {l:List aJ},rQ es=some l->es=l.map cz
 | [],l,h=>by simp[rQ]at h;subst h;rfl
 | e::es,l,h=>by
  simp only[rQ]at h;split at h<;>simp at h;subst h;rename_i a x s h1 h2 h3;rw[List.map_cons,<-wy h3]
  congr 1
  obtain⟨k,v⟩:=e;simp only at h1 h2;have:=O4 h2;subst this;unfold unE at h1;split at h1
  ·cases h1;rfl
  ·cases h1
def rR (l:List aJ):Bool:=decide ((l.map (·.1)).Nodup)&&l.all (fun q=>decide (qz q.2<=10000000))&&decide (l.length<=10000000)
def ze (args:List FV)(B:List ae):bz :=
 match args with
 | [.m (.old i)]=>match B[i]? with
  | some (.map es)=>match rQ es with
   | some l=>if rR l then some (.d (oU l),none) else none
   | none=>none
  | _=>none
 | _=>none
theorem O5 {i:Nat}{B:List ae}{l:List aJ}(hB:B[i]?=some (.map (l.map cz)))(hl:rR l=true):ze [.m (.old i)] B=some (.d (oU l),none):=by
 simp[ze,hB,y_,hl]
theorem Tv {σ:Nat->Option FuncId}{β:Fi.Map}{I:Nat->Prop}{w:World}{n:Nat}{a:FV}{aU:Array Value}(hA:fD σ β I w n [a] aU.toList):∃ x,aU=#[x]/\aC σ β I w n a x:=by
 have hl:aU.toList.length=1:=hA.1
 match hvl:aU.toList,hl with
 | [x],_=>exact⟨x,by apply Array.ext';rw[hvl],hA.2 0 _ x rfl (by rw[hvl];rfl)⟩
theorem Tw (hm:TP.follows .mixedOrders=true)(hB:Bodies TP E3 gid)(hF:mf TP E3 gid)(hP:iK TP E3 gid){E:Env}(Ry:¬ E.mn)(hg:E.eZ=E3.eZ)(args:List FV)(B:List ae)(r:FV × Option (List ae))(h:ze args B=some r):oQ TP E gid 206 args B r:=by
 unfold ze at h;split at h
 ·rename_i i;split at h
  ·rename_i es Dc;split at h
   ·rename_i l hl;split at h
    ·rename_i hok;cases h;intro f hf β I w aU hS hA hG;obtain⟨rfl,_⟩:=iL hf;obtain⟨x,rfl,hx⟩:=Tv hA;have hes:=wy hl;subst hes;cases hx with
     | @m _ b bo cap hβ =>
      simp only[Ref.abs]at hβ;obtain⟨ms,clock,h1,h2⟩:=hS.map i _ b bo cap Dc hβ;simp only[rR,Bool.and_eq_true,decide_eq_true_eq,List.all_eq_true]at hok;refine(Lh hm hB hF hP hS.jc (fun k y hk=>hG k y (by rw[hg];exact hk)) h1 h2 hok.1.2 hok.2 hok.1.1).mono fun e w' ⟨x,I',he,hr,hgr⟩ => ?_
      exact⟨x,_,I',he,rfl,hr,hgr.im,hgr.gG,hgr.jc,hgr.size,hgr.keep,hgr.os,hgr.tape,hgr.output,fun hf=>absurd hf Ry⟩
    ·cases h
   ·cases h
  ·cases h
 ·cases h
end Fi.S
noncomputable section
namespace Fi.S
open Go Fi
def E1:Env:={fn:=fn,eZ:=eZ,iY:=yR,iA:=fun g=>bif Nat.beq g 206 then some ze else none}
theorem zf:E0.Le E1:=⟨rfl,rfl,rfl,fun g p hp=>by cases hp⟩
theorem Ca.dO {g:Nat}{args:List FV}{x:FV × Option (List ae)}(h:Ca E0 g args x):Ca E1 g args x:=h.up zf
end Fi.S
namespace Fi.S
open Go Fi
set_option maxHeartbeats 8000000
def gK:List aJ->Int × Int × Int->Option Rat
 | [],_=>none
 | (a,y)::r,e=>if e=a then some y else gK r e
def qN:List aJ->Int × Int × Int->Rat->List aJ
 | [],e,x=>[(e,x)]
 | (a,y)::r,e,x=>if e=a then(e,x)::r else(a,y)::qN r e x
def kQ (l:List aJ)(e:Int × Int × Int)(c:Rat):List aJ:=qN l e ((gK l e).getD 0+c)
theorem EZ (e a:Int × Int × Int):jE 5 (iG e) (iG a)=some (decide (e=a)):=by
 obtain⟨x,y,z⟩:=e;obtain⟨x',y',z'⟩:=a;simp only[jE,iG,List.length_cons,List.length_nil,if_true,bQ,Option.some.injEq,Bool.and_true];rw[Bool.eq_iff_iff];simp
theorem ve (e:Int × Int × Int):∀ l:List aJ,wz 5 (iG e) (l.map cz)=some ((gK l e).map qD)
 | []=>rfl
 | (a,y)::r=>by
  simp only[List.map_cons,wz,cz,EZ,gK]
  by_cases h:e=a
  ·simp[h]
  ·have:=ve e r;simp only[decide_eq_false h,if_neg h];exact this
theorem zg (e:Int × Int × Int)(x:Rat):∀ l:List aJ,E5 5 (iG e) (qD x) (l.map cz)=some ((qN l e x).map cz)
 | []=>rfl
 | (a,y)::r=>by
  simp only[List.map_cons,E5,cz,EZ,qN]
  by_cases h:e=a
  ·simp[h,cz]
  ·have:=zg e x r;simp only[decide_eq_false h,if_neg h,this,List.map_cons,cz]
theorem E8 (e:Int × Int × Int):jR 5 (iG e)=true:=by
 obtain⟨x,y,z⟩:=e;simp[jR,iG,bQ]
theorem oZ (n:Nat)(e:Int × Int × Int):CL E1 (n+100) 254 [.d (iG e)] []=some (.d (.v (.int .i64 (ni e))),none):=by
 have:=rF n e;rw[nW]at this ⊢;exact tQ zf (xC zf _) this
theorem iM:qD 0=.a [.v (.bool false),.s 1 [],.s 1 []]:=by
 have h1:qs 0=false:=by decide
 have h2:qn 0=[]:=bU;have h3:qd 0=[]:=if_pos rfl;simp[qD,raw,h1,h2,h3,LD,LL]
theorem fE:qz 0<=1:=by
 have h:qz 0=max (sz 0) (sz 1):=rfl;have h0:sz 0=0:=by simp[sz,bU]
 rw[h,GZ,h0];decide
theorem E9 (n:Nat)(v:FV)(e:Int × Int × Int)(c:Rat)(B:List ae)(hd:¬ ni e<=5):CL E1 (n+200) 205 [v,.d (iG e),.d (qD c)] B=some (.d (.t []),none):=by
 have t:=fun m=>oZ m e
 rw[ah rfl (k205:E1.fn _=_) rfl];generalize ni e=dg at*;obtain⟨x,y,z⟩:=e;simp only[iG,qD,raw]at*;generalize qs c=s at*;simp only[LD]at*;generalize LL (qn c)=ns,LL (qd c)=ds at*;have hd':¬ (5:Int) ≥ dg:=hd;simp -implicitDefEqProofs [f205,t,hd,jb]
theorem E_ (B:List ae)(i:Nat)(l:List aJ)(hB:B[i]?=some (.map (l.map cz)))(e:Int × Int × Int)(c:Rat)(hc:qz c<=5000000)(hl:∀ y,gK l e=some y->qz y<=5000000)(hd:ni e<=5) :
  ∃ N B',(∀ k,CL E1 (N+k) 205 [.m (.old i),.d (iG e),.d (qD c)] B=some (.d (.t []),some B'))/\B.length<=B'.length/\B'[i]?=some (.map ((kQ l e c).map cz)):=by
 have hz:qz 0<=5000000:=Nat.le_trans fE (by omega);have hold:qz ((gK l e).getD 0)<=5000000:=by
  cases h:gK l e with
  | none=>exact hz
  | some y=>exact hl y h
 obtain⟨N,t⟩:=(Ca.dO (sQ ((gK l e).getD 0) c (by omega) (by omega))).get;have t2:=fun m=>oZ m e
 have hil:i<B.length:=(bE hB)
 have Dc:∀ L,(B++L)[i]?=some (.map (l.map cz)):=fun L=>by rw[List.getElem?_append_left hil];exact hB
 have hf:=ve e l;have hs:=zg e ((gK l e).getD 0+c) l;have hk:=E8 e;have hput:qN l e ((gK l e).getD 0+c)=kQ l e c:=rfl;rw[hput]at hs;generalize (kQ l e c).map cz=es',(gK l e).getD 0+c=sm,l.map cz=es,ni e=dg at*;refine⟨N+200,((B.set i (ae.map es'))++[ae.box [.d (.v (.int .i64 e.1)),.d (.v (.int .i64 e.2.1)),.d (.v (.int .i64 e.2.2))],ae.box [.d (.v (.bool (qs c))),.d (LD (qn c)),.d (LD (qd c))]]).map (ae.ag B.length),fun k => ?_,by simp,by rw[List.getElem?_map,List.getElem?_append_left (by simpa using hil),List.getElem?_set_self hil];rfl⟩;replace t:=fun j=>t (k+j)
 simp only[<-Nat.add_assoc]at t;rw[show N+200+k=N+k+200 by omega];generalize N+k=M at*;rw[ah rfl (k205:E1.fn _=_) rfl];obtain⟨x,y,z⟩:=e;cases hg:gK l (x,y,z) with
 | none =>
  rw[hg]at hf t;simp only[Option.map_none,Option.getD_none,iM]at hf t;simp only[iG,qD,raw]at*;generalize qs c=s,qs sm=s' at*;simp only[LD]at*;generalize LL (qn c)=ns,LL (qd c)=ds,LL (qn sm)=ns',LL (qd sm)=ds' at*;simp -implicitDefEqProofs [f205,t,t2,hd,jb,Dc,hf,hs,hk,hil,FV.ag]
 | some u =>
  rw[hg]at hf t;simp only[Option.map_some,Option.getD_some]at hf t;simp only[iG,qD,raw]at*;generalize qs c=s,qs sm=s',qs u=s'' at*;simp only[LD]at*;generalize LL (qn c)=ns,LL (qd c)=ds,LL (qn sm)=ns',LL (qd sm)=ds',LL (qn u)=Li,LL (qd u)=ds'' at*;simp -implicitDefEqProofs [f205,t,t2,hd,jb,Dc,hf,hs,hk,hil,FV.ag]
theorem Br (m:Nat)(i:Nat)(B:List ae)(l:List aJ)(hB:B[i]?=some (.map (l.map cz)))(hl:rR l=true):CL E1 m 206 [.m (.old i)] B=some (.d (oU l),none):=by
 rw[yS (p:=ze) rfl (z206:E1.fn _=_) rfl,O5 hB hl]
theorem Fa (x:Rat)(hx:qz x<=5000000):Ca E1 153 [.d (qD x)] (.d (oU [((0,0,0),0+x)]),none):=by
 have hd:ni (0,0,0)<=5:=by
  rw[rG rfl rfl rfl];simp
 have hq:qz (0+x)<=10000000:=by
  have:=m_ 0 x;have:=fE;omega
 obtain⟨N,B',t,hlen,hB'⟩:=E_ [.box [.d (.v (.bool (qs x))),.d (LD (qn x)),.d (LD (qd x))],.map []] 1 [] rfl (0,0,0) x hx (fun y h=>by simp[gK]at h) hd;have hput:kQ [] (0,0,0) x=[((0,0,0),0+x)]:=rfl;rw[hput]at hB';have hB2:(List.map (ae.ag 0) B')[1]?=some (.map (List.map cz [((0,0,0),0+x)])):=by rw[List.getElem?_map,hB'];rfl
 have t2:=fun m=>Br m 1 _ [((0,0,0),0+x)] hB2 (by simp[rR,hq])
 generalize hres:oU [((0,0,0),0+x)]=res at*;obtain⟨es,rfl⟩:∃ es,res=.s 6 es:=⟨_,hres.symm⟩
 clear hres;refine Ca.a_ (n:=N+100) ?_;rw[ah rfl (k153:E1.fn _=_) rfl];clear hB' hB2 hput hd hq;simp only[iG,qD,raw]at*;generalize qs x=s at*;simp only[LD]at*;generalize LL (qn x)=ns,LL (qd x)=ds at*;simp -implicitDefEqProofs [f153,t,t2,FV.ag,FV.aK,ae.ag]
end Fi.S
