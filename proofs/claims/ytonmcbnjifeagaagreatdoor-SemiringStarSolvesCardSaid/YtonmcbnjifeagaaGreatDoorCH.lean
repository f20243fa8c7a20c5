/- The polynomial that a map holds. -/
import Derived.Test.YtonmcbnjifeagaaGreatDoorCG
import Derived.Test.YtonmcbnjifeagaaGreatDoorChecked
import Derived.KernelRfl
set_option linter.unusedVariables false
set_option linter.unusedSimpArgs false
noncomputable section
namespace Fi.S
open Go Fi Go.Proofs
set_option maxHeartbeats 8000000
attribute [local simp] oo og ci ml mv ld lf fa lo st0 cl ia lr fl ln sv fb mF mi mn bx bc bl pF pT sl EX_skip EX_ret EX_exit EX_kill EX_seq EX_cond EX_block EX_region ROps_nil ROps_cons RK_mov RK_pick RK_bin RK_conv RK_beq RK_aeq RK_nileq RK_un RK_box RK_new RK_load RK_store RK_faddr RK_field RK_iaddr RK_aaddr RK_index RK_build RK_lit RK_len RK_maxi RK_mini RK_app RK_slice RK_mk RK_ext RK_clo RK_call RK_callv RK_callr RK_callw RK_loadl RK_mkmap RK_mget RK_mput RK_cap RK_appz callFull RK_slen RK_sindex RK_sslice guardV runK argV argsV doCall callPure D.cells FV.cells FV.one D.one oneV St.push St.heap St.setHeap splice partF partD s_add s_sub s_mul s_quo s_rem s_or s_and s_xor s_shl s_shr s_eql s_neq s_lss s_leq s_gtr s_geq unV setVars killVars apartOk finish ressV resV leavesL leaves leaveL leave1 allD mkA fillF finish2 isPure oneOf freezeAll FV.rows FV.rows1 D.norm D.norm1 scalar D.isV FV.shift FV.shiftL AObj.shift pureElem fillE elems FStmt.l FStmt.r FStmt.bl FStmt.lp
set_option maxRecDepth 100000
noncomputable abbrev TP:Program:=Tryz.prog
def cL:Code->Code|.seq a _=>a|c=>c
def cR:Code->Code|.seq _ b=>b|c=>c
def cI:Code->Code|.block _ b=>b|.loop b=>b|c=>c
def rOps:Code->Array Oper|.region _ o _=>o|_=>#[]
def op0 : Oper := { dst := none, op := .move (.tmp 0), type := 0, pos := "", after := #[], guard := none }
def opAt (c:Code)(i:Nat):Oper:=(rOps c).getD i op0
noncomputable def lC:Code:=Tryz.f206.body.getD .skip
noncomputable def lC2:Code:=cR (cR lC)
noncomputable def lR2:Code:=cL (cL lC2)
noncomputable def lLp:Code:=cI (cI (cR (cL lC2)))
noncomputable def lR3:Code:=cL lLp
noncomputable def lB1:Code:=cI (cR (cR lLp))
noncomputable def lR4:Code:=cL lB1
theorem l_shape:Tryz.f206.body=some (.seq (cL lC) (.seq (cL (cR lC)) (.seq (.seq (.region 2 (rOps lR2) false) (.block 0 (.loop (.seq (.region 3 (rOps lR3) false) (.seq (.cond (.tmp 9) .skip (.exit 0)) (.block 1 (.seq (.region 4 (rOps lR4) false) (cR lB1)))))))) (cR lC2)))):=by kernel_rfl
theorem l_ops2:(rOps lR2).toList=[opAt lR2 0,opAt lR2 1]:=by kernel_rfl
theorem l_o20:(opAt lR2 0).op=.move (.tmp 0)/\(opAt lR2 0).dst=some 6/\(opAt lR2 0).guard=none:=⟨by kernel_rfl,by kernel_rfl,by kernel_rfl⟩
theorem l_o21:(opAt lR2 1).op=.range 168 (.tmp 6)/\(opAt lR2 1).dst=some 7/\(opAt lR2 1).guard=none:=⟨by kernel_rfl,by kernel_rfl,by kernel_rfl⟩
theorem l_ops3:(rOps lR3).toList=[opAt lR3 0,opAt lR3 1]:=by kernel_rfl
theorem l_o30:(opAt lR3 0).op=.next (.tmp 7) false/\(opAt lR3 0).dst=some 8/\(opAt lR3 0).guard=none:=⟨by kernel_rfl,by kernel_rfl,by kernel_rfl⟩
theorem l_o31:(opAt lR3 1).op=.extract (.tmp 8) 0/\(opAt lR3 1).dst=some 9/\(opAt lR3 1).guard=none:=⟨by kernel_rfl,by kernel_rfl,by kernel_rfl⟩
theorem l_ops4:(rOps lR4).toList=opAt lR4 0::[opAt lR4 1,opAt lR4 2,opAt lR4 3,opAt lR4 4,opAt lR4 5,opAt lR4 6]:=by kernel_rfl
theorem l_o40:(opAt lR4 0).op=.entry (.tmp 7)/\(opAt lR4 0).dst=some 10/\(opAt lR4 0).guard=none:=⟨by kernel_rfl,by kernel_rfl,by kernel_rfl⟩
theorem l_map:TP.underlying 168=some (.map 84 28):=by kernel_rfl
noncomputable def cxL:Cx:={gid:=gid,vars:=[0,2,3,4,5,7,9,15],kills:=fun _=>[],ntmps:=25,byRef:=fun f=>Nat.beq f 256}
def liR0:FStmt:=.region [⟨false,none,.mov (.c (.n 6))⟩] [(1,0)] []
def liR1:FStmt:=.region [⟨false,none,.mov (.c (.n 6))⟩] [(2,0)] []
def liK4:List FOp:=[⟨false,none,.ext (.loc 0) 0⟩,⟨false,none,.ext (.loc 0) 1⟩,⟨false,none,.new [(.v (.int .i64 0)),(.v (.int .i64 0)),(.v (.int .i64 0))]⟩,⟨false,none,.new [(.v (.bool false)),(.n 1),(.n 1)]⟩,⟨false,none,.store 3 (.loc 3) (.loc 1)⟩,⟨false,none,.store 3 (.loc 4) (.loc 2)⟩]
theorem c_R0:comp TP cxL (cL lC)=some liR0:=by kernel_rfl
theorem c_R1:comp TP cxL (cL (cR lC))=some liR1:=by kernel_rfl
theorem c_B5:comp TP cxL (cR lB1)=some liB5:=by kernel_rfl
theorem c_E:comp TP cxL (cR lC2)=some liEnd:=by kernel_rfl
theorem c_K4:compOps TP cxL [opAt lR4 1,opAt lR4 2,opAt lR4 3,opAt lR4 4,opAt lR4 5,opAt lR4 6] [some 10]=some liK4:=by kernel_rfl
theorem c_res:compRes TP cxL Tryz.f206.results.toList=some [.var 1]:=by kernel_rfl
theorem l_d4:[opAt lR4 1,opAt lR4 2,opAt lR4 3,opAt lR4 4,opAt lR4 5,opAt lR4 6].map (·.dst)=[some 11,some 12,some 4,some 5,none,none]:=by kernel_rfl
theorem l_nt:Tryz.f206.ntmps=25:=by kernel_rfl
theorem run_K4 (m out k1 k2 p b1 b2:FV)(L:List AObj)(e:Int × Int × Int)(x:Rat)(rec:Nat->List FV->List AObj->CallR) :
  ∃ ev,runOps E3 rec liK4 (liSt m .u out k1 k2 p b1 b2 L) [.d (.t [exD e,qD x])]=some (liSt m .u out k1 k2 p b1 b2 (L++[.box [.d (.v (.int .i64 e.1)),.d (.v (.int .i64 e.2.1)),.d (.v (.int .i64 e.2.2))],.box [.d (.v (.bool (qs x))),.d (LD (qn x)),.d (LD (qd x))]]),ev) /\
   ev=[.d (.t [exD e,qD x]),.d (exD e),.d (qD x),.r (.loc L.length) 0,.r (.loc (L.length+1)) 0,.d (.t []),.d (.t [])]:=by
 obtain⟨a,b,c⟩:=e;simp only[exD,qD,raw,LD];refine⟨_,?_,rfl⟩;rw[<-ROps_eq];simp -implicitDefEqProofs [liK4,liSt]
end Fi.S
namespace Fi.S
open Go Fi Go.Proofs
set_option maxHeartbeats 8000000
set_option maxRecDepth 100000
section
abbrev Ent:Type:=(Int × Int × Int) × Rat
def entD (p:Ent):D × D:=(exD p.1,qD p.2)
def entOut (p:Ent):List D:=if p.2=0 then [] else [qC p.1 p.2]
section walk
variable {I0:Nat->Prop} {w0:World}
structure Since (I0:Nat->Prop)(w0:World)(I:Nat->Prop)(w:World):Prop where
 im:∀ b,I0 b->I b
 inew:∀ b,I b->I0 b\/w0.heap.size<=b
 ilt:∀ b,I b->b<w.heap.size
 size:w0.heap.size<=w.heap.size
 keep:∀ b,b<w0.heap.size->w.heap[b]?=w0.heap[b]?
 os:w.os=w0.os
 tape:w.tape=w0.tape
 output:w.output=w0.output
 drawn:w0.drawn<=w.drawn
theorem TmpsOK.reb {σ:Nat->Option FuncId}{β β':Fi.Map}{I:Nat->Prop}{w:World}{n n':Nat}{cx:Cx}{vars:List FV}{a:Act}(h:TmpsOK σ β I w n cx vars [] [] a)(hv:∀ y ∈ vars,(∃ d,y=.d d)\/y=.u):TmpsOK σ β' I w n' cx vars [] [] a :=
 ⟨h.size,fun j t y h1 h2 h3=>by
  have hr:=h.var j t y h1 h2 h3;rcases hv y (List.mem_of_getElem? h3) with ⟨d,rfl⟩|rfl
  ·cases hr with|d hr=>exact .d hr
  ·exact .u _,fun t j y h1=>by rw[lastDst_nil]at h1;cases h1⟩
theorem TmpsOK.val {σ:Nat->Option FuncId}{β:Fi.Map}{I:Nat->Prop}{w:World}{n:Nat}{cx:Cx}{vars:List FV}{a:Act}(h:TmpsOK σ β I w n cx vars [] [] a){j:Nat}{t:Tmp}{x:Value}(h1:cx.vars[j]?=some t)(h2:vars[j]?=some (.d (.v x))):a.eval (.tmp t)=x :=
 (h.var j t _ h1 (lastDst_nil _) h2).val
theorem l_step (hm:TP.follows .mixedOrders=true)(hB:Bodies TP E3 gid)(hF:FnsOK TP E3 gid)(hP:PrimsOK TP E3 gid){c:Code}{F:FStmt}{N:Nat}{st st':St}{o:Out}(hc:comp TP cxL c=some F)(hx:EX E3 N F st=some (o,st'))
  {Wr:Nat->Prop} {β:Fi.Map} {I:Nat->Prop} {w:World} {a:Act} {Q:Exit->Act->World->Prop} (hS:SimH gid st.base.length β I Wr (fun _=>True) (st.base++st.loc) w) (hG:Globs E3 gid I w) (hT:TmpsOK gid β I w st.base.length cxL st.vars [] [] a)
  (hQ:∀ β' I' w' a',Ext E3.mn β β' I I' Wr w w'->SimH gid st.base.length β' I' Wr (fun _=>True) (st'.base++st'.loc) w'->TmpsOK gid β' I' w' st.base.length cxL st'.vars [] [] a'->a'.defers=a.defers->Q (exitOf o) a' w'):c.wp TP Q a w:=by
 rw[EX_eq]at hx;exact exec_sound hm hB N (fun M _=>recs_sound hm hB hF hP M) N (Nat.le_refl _) cxL (fun f g h=>by obtain⟨rfl,_⟩:=sg_some h;exact h) c F hc st o st' hx Wr (fun _=>True) β I w a Q ⟨fun _ _=>trivial,fun _ _=>trivial⟩ hS hG hT hQ
structure At (ms:Array MapEntry)(clock bm r0:Nat)(l:List Ent)(I0:Nat->Prop)(w0:World)(p:List Nat)(out:FV)(L:List AObj)(β:Fi.Map)(I:Nat->Prop)(a:Act)(w:World):Prop where
 nd:p.Nodup
 lt:∀ i ∈ p,i<l.length
 it:∃ last,clock<=last/\w.heap[r0]?=some (.mapIter (some bm) clock (p.map fun i=>(ms[i]!).born).toArray last)
 map:w.heap[bm]?=some (.map ms clock)
 ents:AtMap gid I w (l.map entD) ms clock
 sim:SimH gid 0 β I (fun b=>r0<b) (fun _=>True) L w
 nI:¬ I r0
 globs:Globs E3 gid I w
 tmps:TmpsOK gid β I w 0 cxL [.d (.v (.map (some bm))),.u,out,.u,.u,.d (.v (.pointer (some ⟨r0,0,none⟩))),.u,.u] [] [] a
 outAt:OutAt out L (p.flatMap fun i=>(l[i]?).elim [] entOut)
 dfr:a.defers=[]
 since:Grow False I0 I w0 w
theorem Since.of {I I':Nat->Prop}{w w':World}{β β':Fi.Map}{r0:Nat}(h:Grow False I0 I w0 w)(hr:w0.heap.size<=r0)(hx:Ext E3.mn β β' I I' (fun b=>r0<b) w w')(hi:∀ b,I' b->b<w'.heap.size):Grow False I0 I' w0 w' :=
 ⟨fun b hb=>hx.im b (h.im b hb),fun b hb=>(hx.inew b hb).elim (h.inew b) (fun hb=>.inr (by omega)),hi,Nat.le_trans h.size hx.size,
 fun b hb=>(hx.keepW b (Nat.lt_of_lt_of_le hb h.size) (by omega)).trans (h.keep b hb),hx.os.trans h.os,hx.tape.trans h.tape,hx.output.trans h.output,fun hf=>hf.elim⟩
theorem l_round (hm:TP.follows .mixedOrders=true)(hB:Bodies TP E3 gid)(hF:FnsOK TP E3 gid)(hP:PrimsOK TP E3 gid){ms:Array MapEntry}{clock bm r0:Nat}{l:List Ent}{p:List Nat}{out:FV}{L:List AObj}{β:Fi.Map}{I:Nat->Prop}{a:Act}{w:World}
  (h:At ms clock bm r0 l I0 w0 p out L β I a w) (hr0:w0.heap.size<=r0) (hbm:bm<w0.heap.size) (hl:∀ q ∈ l,qz q.2<=100000) (hlen:l.length<=100000) {K:Act->World->Prop} {Q:Exit->Act->World->Prop}
  (hdone:(∀ i,i<l.length->i ∈ p)->∀ a',At ms clock bm r0 l I0 w0 p out L β I a' w->Q (.exit 0) a' w)
  (hnext:∀ j out' L' β' I' a' w',j<l.length->j ∉ p->At ms clock bm r0 l I0 w0 (p++[j]) out' L' β' I' a' w'->K a' w') :
  (Code.seq (.region 3 (rOps lR3) false) (.seq (.cond (.tmp 9) .skip (.exit 0)) (.block 1 (.seq (.region 4 (rOps lR4) false) (cR lB1))))).wp TP (Exit.then K Q) a w:=by
 obtain⟨last,hlast,hit⟩:=h.it;have hptr:a.eval (.tmp 7)=.pointer (some ⟨r0,0,none⟩):=TmpsOK.val h.tmps (j:=5) rfl rfl;have hsz:a.tmps.size=25:=h.tmps.size;have hdst:∀ (t:Nat),t<25->dstOk cxL (some t)=true:=fun t ht=>decide_eq_true ht
 refine wp_seq (wp_region_list ?_);rw[l_ops3];obtain⟨o1,o2,o3⟩:=l_o30;obtain⟨o4,o5,o6⟩:=l_o31;have hold:∀ x ∈ ms.toList,x.born<clock:=h.ents.old
 -- what is left
 have hleft:∀ e ∈ (leftOf ms (p.map fun i=>(ms[i]!).born).toArray).toList,∃ j,j<l.length/\j ∉ p/\ms[j]?=some e:=by
  intro e he;simp only[leftOf,Array.toList_filter,List.mem_filter]at he;obtain⟨he,hc⟩:=he;obtain⟨j,hj,rfl⟩:=List.getElem_of_mem he;have hjm:j<ms.size:=by simpa using hj
  have hjl:j<l.length:=by rw[<-List.length_map (f:=entD),<-h.ents.len];exact hjm
  refine⟨j,hjl,fun hp => ?_,by simp[hjm]⟩;simp only[Bool.not_eq_true',List.contains_toArray,List.contains_eq_mem,decide_eq_false_iff_not,List.mem_map,not_exists,not_and]at hc;exact hc j hp (by rw[getElem!_pos ms j hjm];simp)
 have hextract:∀ (a1:Act) (vs:Array Value) (t:Bool),a1.tmps.size=25->a1.eval (.tmp 8)=.tuple vs->vs[0]?=some (.bool t)->Yields TP (opAt lR3 1) a1.eval w (fun y w''=>y=.bool t/\w''=w):=by
  intro a1 vs t _ h1 h2;refine yields_run ?_;simp[execOp,o4,h1,Instr.extract,h2]
 have hput:∀ (v:Value) (t:Bool),TmpsOK gid β I w 0 cxL [.d (.v (.map (some bm))),.u,out,.u,.u,.d (.v (.pointer (some ⟨r0,0,none⟩))),.u,.u] [] [] ((a.put (some 8) v).put (some 9) (.bool t)):=by
  intro v t;have h1:=((h.tmps.put rfl (hdst 8 (by omega)) (.u v)).put rfl (hdst 9 (by omega)) (v:=.d (.v (.bool t))) (x:=.bool t) (.d (.v _))).out rfl;exact h1.kill [6]
 have he8:∀ v,(a.put (some 8) v).eval (.tmp 8)=v:=fun v=>by
  rw[eval_put _ _ _ _ (fun u hu=>by cases hu;rw[hsz];exact(by decide:(8:Nat)<25)),if_pos rfl]
 have hs8:∀ v,(a.put (some 8) v).tmps.size=25:=fun v=>by rw[put_size,hsz]
 have he9:∀ v t,((a.put (some 8) v).put (some 9) (.bool t)).eval (.tmp 9)=.bool t:=fun v t=>by
  rw[eval_put _ _ _ _ (fun u hu=>by cases hu;rw[hs8];exact(by decide:(9:Nat)<25)),if_pos rfl]
 have hd9:∀ v t,((a.put (some 8) v).put (some 9) (.bool t)).defers=[]:=fun v t=>by rw[put_defers,put_defers];exact h.dfr
 rcases next_at w (opAt lR3 0).type r0 bm clock last _ ms clock hit h.map hold hlast with ⟨h0,hrun⟩|⟨e,he,w1,hw1,hrun⟩
 ·-- none is left
  refine wpList_yields o3 (yields_run (x:=.tuple #[.bool false]) (w':=w) (by simp only[execOp,o1,hptr,Sem.run_bind];rw[hrun];rfl)) ?_;rintro x w' ⟨rfl,rfl⟩;rw[o2];refine wpList_yields o6 (hextract _ #[.bool false] false (hs8 _) (he8 _) rfl) ?_;rintro x w' ⟨rfl,rfl⟩;rw[o5];show(Code.seq (.cond (.tmp 9) .skip (.exit 0)) (.block 1 (.seq (.region 4 (rOps lR4) false) (cR lB1)))).wp TP (Exit.then K Q) _ _;refine wp_seq (wp_cond (t:=false) (he9 _ _) (wp_exit ?_));refine hdone (fun i hi => ?_) _ ⟨h.nd,h.lt,h.it,h.map,h.ents,h.sim,h.nI,h.globs,hput _ _,h.outAt,hd9 _ _,h.since⟩;rcases Decidable.em (i ∈ p) with hp|hp
  ·exact hp
  ·exfalso;have him:i<ms.size:=by rw[h.ents.len,List.length_map];exact hi
   have hmem:ms[i] ∈ leftOf ms (p.map fun i=>(ms[i]!).born).toArray:=by
    simp only[leftOf,Array.mem_filter,Array.getElem_mem,true_and,Bool.not_eq_true',List.contains_toArray,List.contains_eq_mem,decide_eq_false_iff_not,List.mem_map,not_exists,not_and];intro k hk hb;have hkm:k<ms.size:=by rw[h.ents.len,List.length_map];exact h.lt k hk
    rw[getElem!_pos ms k hkm]at hb;have hki:k=i:=by
     have h1:(ms.toList.map (·.born))[k]?=(ms.toList.map (·.born))[i]?:=by simp[hkm,him,hb]
     exact(List.getElem?_inj (by simpa using hkm) h.ents.once).1 h1
    exact hp (hki ▸ hk)
   have:=Array.size_pos_of_mem hmem;omega
 ·obtain⟨j,hj,hjp,hje⟩:=hleft e he;have hjm:j<ms.size:=by rw[h.ents.len,List.length_map];exact hj
  have hjv:ms[j]! = e:=by
   rw[getElem!_pos ms j hjm];rw[Array.getElem?_eq_getElem hjm]at hje;exact Option.some.inj hje
  have hw1h:w1.heap=w.heap:=by rcases hw1 with rfl|rfl<;>rfl
  have hr0s:r0<w.heap.size:=(Array.getElem?_eq_some_iff.1 hit).1;generalize hw2:({w1 with heap:=w1.heap.setIfInBounds r0 (.mapIter (some bm) clock ((p.map fun i=>(ms[i]!).born).toArray.push e.born) clock)}:World)=w2 at hrun;have hother:∀ b,b≠r0->w2.heap[b]?=w.heap[b]?:=fun b hb=>by
   rw[<-hw2];show(w1.heap.setIfInBounds r0 _)[b]?=_;rw[hw1h];simp[Ne.symm hb]
  have hsize:w2.heap.size=w.heap.size:=by rw[<-hw2];show(w1.heap.setIfInBounds r0 _).size=_;simp[hw1h]
  have hit2:w2.heap[r0]?=some (.mapIter (some bm) clock ((p.map fun i=>(ms[i]!).born).toArray.push e.born) clock):=by
   rw[<-hw2];show(w1.heap.setIfInBounds r0 _)[r0]?=_;rw[hw1h];simp[hr0s]
  have hos:w2.os=w.os/\w2.tape=w.tape/\w2.output=w.output:=by
   rw[<-hw2];rcases hw1 with rfl|rfl<;>exact⟨rfl,rfl,rfl⟩
  have hmap2:w2.heap[bm]?=some (.map ms clock):=by rw[hother bm (by omega)];exact h.map
  have hI2:∀ b,I b->w2.heap[b]?=w.heap[b]?:=fun b hb=>hother b (fun e=>h.nI (e ▸ hb))
  have hsim2:=SimH.other (w':=w2) h.sim (r0:=r0) (by omega) h.nI hsize hother;have hglob2:=h.globs.mono (w':=w2) (fun _ h=>h) hI2;have hents2:=h.ents.mono (w':=w2) (fun _ h=>h) hI2;have hsince2:Grow False I0 I w0 w2:=⟨h.since.im,h.since.inew,fun b hb=>hsize ▸ h.since.ilt b hb,hsize ▸ h.since.size,fun b hb=>(hother b (by omega)).trans (h.since.keep b hb),hos.1.trans h.since.os,hos.2.1.trans h.since.tape,hos.2.2.trans h.since.output,fun hf=>hf.elim⟩
  refine wpList_yields o3 (yields_run (x:=.tuple #[.bool true,e.key,e.val]) (w':=w2) (by simp only[execOp,o1,hptr,Sem.run_bind];rw[hrun];rfl)) ?_;rintro x w' ⟨rfl,hw'⟩;rw[hw'];clear hw' w';rw[o2];have hext2:Yields TP (opAt lR3 1) (a.put (some 8) (.tuple #[.bool true,e.key,e.val])).eval w2 (fun y w''=>y=.bool true/\w''=w2):=yields_run (by simp[execOp,o4,he8,Instr.extract]);refine wpList_yields o6 hext2 ?_;rintro x w' ⟨rfl,hw'⟩;rw[hw'];clear hw' w';rw[o5];show(Code.seq (.cond (.tmp 9) .skip (.exit 0)) (.block 1 (.seq (.region 4 (rOps lR4) false) (cR lB1)))).wp TP (Exit.then K Q) _ _;refine wp_seq (wp_cond (t:=true) (he9 _ _) (wp_skip ?_));show(Code.block 1 (.seq (.region 4 (rOps lR4) false) (cR lB1))).wp TP (Exit.then K Q) _ _;refine wp_block (wp_seq (wp_region_list ?_));have htm2:=TmpsOK.other (w':=w2) (hput (.tuple #[.bool true,e.key,e.val]) true) h.nI hother;have hdf2:=hd9 (.tuple #[.bool true,e.key,e.val]) true;generalize hga:(a.put (some 8) (.tuple #[.bool true,e.key,e.val])).put (some 9) (.bool true)=a2 at htm2 hdf2 ⊢;have hptr2:a2.eval (.tmp 7)=.pointer (some ⟨r0,0,none⟩):=TmpsOK.val htm2 (j:=5) rfl rfl;rw[l_ops4];obtain⟨u1,u2,u3⟩:=l_o40;have hentry:=entry_at (P:=TP) w2 r0 bm clock _ ms clock e hit2 hmap2 (List.mem_of_getElem? (by simpa using hje)) h.ents.once;refine wpList_yields u3 (yields_run (x:=.tuple #[e.key,e.val]) (w':=w2) (by simp only[execOp,u1,hptr2,Sem.run_bind];rw[hentry];rfl)) ?_;rintro x w' ⟨rfl,hw'⟩;rw[hw'];clear hw' w';rw[u2];obtain⟨q,hq⟩:∃ q,l[j]?=some q:=⟨l[j],List.getElem?_eq_getElem hj⟩
  have hqd:(l.map entD)[j]?=some (entD q):=by simp[hq]
  have hk:=hents2.key j _ e hqd hje;have hv:=hents2.val j _ e hqd hje;obtain⟨qe,qx⟩:=q;have hqz:qz qx<=1000000:=Nat.le_trans (hl _ (List.mem_of_getElem? hq)) (by omega);simp only[entD]at hk hv;have hrt:RepF gid β I w2 0 (.d (.t [exD qe,qD qx])) (.tuple #[e.key,e.val]):=.d (.t rfl (fun i c x hc hx=>by
   match i with
   | 0=>simp at hc hx;subst hc;subst hx;exact hk
   | 1=>simp at hc hx;subst hc;subst hx;exact hv
   | i+2=>simp at hc))
  obtain⟨ev,hrunK,hev⟩:=run_K4 (.d (.v (.map (some bm)))) out .u .u (.d (.v (.pointer (some ⟨r0,0,none⟩)))) .u .u L qe qx (fun _ _ _=>none);have ht3:=htm2.put rfl (hdst 10 (by omega)) hrt;refine seq_sound (E:=E3) (σ:=gid) (Wr:=fun b=>r0<b) (wd:=fun _=>True) (cx:=cxL) (rec:=fun _ _ _=>none) (fun f g h=>by obtain⟨rfl,_⟩:=sg_some h;exact h) hB (fun _ _ _ _ _ h=>by cases h) (fun _ _ _ _ h=>by cases h) _ c_K4 hrunK rfl ?_ ?_ ⟨fun _ _=>trivial,fun _ _=>trivial⟩ hsim2 hglob2 ht3 ?_
  ·intro k d hd
   match k with
   | 0 =>
    simp at hd;subst hd;have:(rOps lR4)[0]?=some (opAt lR4 0):=by rw[<-Array.getElem?_toList,l_ops4];rfl
    rw[this];exact u2
   | k+1=>simp at hd
  ·intro k;rw[<-Array.getElem?_toList,l_ops4];simp[Nat.add_comm 1 k]
  ·intro β3 I3 w3 a3 hx3 hs3 ht3 hl3 hd3;show(cR lB1).wp TP (Exit.inBlock 1 (Exit.then K Q)) a3 w3;rw[l_d4]at ht3 hl3;have ht4:=ht3.out (by rw[hev];rfl);rw[hev]at ht4;have hvars:setVars [.d (.v (.map (some bm))),.u,out,.u,.u,.d (.v (.pointer (some ⟨r0,0,none⟩))),.u,.u] [.d (.t [exD qe,qD qx]),.d (exD qe),.d (qD qx),.r (.loc L.length) 0,.r (.loc (L.length+1)) 0,.d (.t []),.d (.t [])] (outsAt ([some 10]++[some 11,some 12,some 4,some 5,none,none]) cxL.vars 0) =
     [.d (.v (.map (some bm))),.u,out,.r (.loc L.length) 0,.r (.loc (L.length+1)) 0,.d (.v (.pointer (some ⟨r0,0,none⟩))),.u,.u]:=by rfl
   have ht5:TmpsOK gid β3 I3 w3 0 cxL [.d (.v (.map (some bm))),.u,out,.r (.loc L.length) 0,.r (.loc (L.length+1)) 0,.d (.v (.pointer (some ⟨r0,0,none⟩))),.u,.u] [] [] a3:=by
    rw[<-hvars];exact ht4
   have hout:OutAt out (L++[.box [.d (.v (.int .i64 qe.1)),.d (.v (.int .i64 qe.2.1)),.d (.v (.int .i64 qe.2.2))],.box [.d (.v (.bool (qs qx))),.d (LD (qn qx)),.d (LD (qd qx))]]) (p.flatMap fun i=>(l[i]?).elim [] entOut):=by
    rcases h.outAt with h1|⟨i,ver,h1,h2⟩
    ·exact .inl h1
    ·exact .inr ⟨i,ver,h1,by rw[List.getElem?_append_left (List.getElem?_eq_some_iff.1 h2).1];exact h2⟩
   have hcount:(p.flatMap fun i=>(l[i]?).elim [] entOut).length<=1000000:=by
    have h1:∀ (p:List Nat),(p.flatMap fun i=>(l[i]?).elim [] entOut).length<=p.length:=by
     intro p
     induction p with
     | nil=>simp
     | cons i p ih =>
      simp only[List.flatMap_cons,List.length_append,List.length_cons];have:((l[i]?).elim [] entOut).length<=1:=by
       cases l[i]? with
       | none=>simp
       | some q=>simp only[Option.elim,entOut];split<;>simp
      omega
    have h2:p.length<=l.length:=by
     have:=h.nd.length_le_of_subset (l₂:=List.range l.length) (fun i hi=>List.mem_range.2 (h.lt i hi));simpa using this
    have:=h1 p;omega
   obtain⟨N,out',L',b2',hxb,hob⟩:=li_body qe qx hqz (.d (.v (.map (some bm)))) (.d (.v (.pointer (some ⟨r0,0,none⟩)))) .u .u out L.length (L.length+1) _ _ hout hcount (by simp) (by simp);refine l_step hm hB hF hP c_B5 hxb (Wr:=fun b=>r0<b) hs3 (hglob2.mono hx3.im hx3.keepI) ht5 (fun β4 I4 w4 a4 hx4 hs4 ht6 hd4 => ?_);show K a4 w4;have hx34:=hx3.trans hx4;have hkr:w4.heap[r0]?=w2.heap[r0]?:=hx34.keepW r0 (by rw[hsize];exact hr0s) (by omega);have hkm:w4.heap[bm]?=w2.heap[bm]?:=hx34.keepW bm (by rw[hsize];omega) (by omega);refine hnext j out' L' β4 I4 a4 w4 hj hjp ⟨?_,?_,⟨clock,Nat.le_refl _,?_⟩,by rw[hkm];exact hmap2,hents2.mono hx34.im hx34.keepI,hs4,?_,hglob2.mono hx34.im hx34.keepI,?_,?_,by rw[hd4,hd3];exact(put_defers _ _ _).trans hdf2,Since.of hsince2 hr0 hx34 hs4.ilt⟩
   ·rw[List.nodup_append];exact⟨h.nd,by simp,fun x hx y hy=>by simp at hy;subst hy;exact fun e=>hjp (e ▸ hx)⟩
   ·intro i hi;rcases List.mem_append.1 hi with hi|hi
    ·exact h.lt i hi
    ·simp at hi;subst hi;exact hj
   ·rw[hkr,hit2]
    congr 2
    apply Array.ext';simp[hjv]
   ·intro hb;rcases hx34.inew r0 hb with hb|hb
    ·exact h.nI hb
    ·omega
   ·exact ht6.kill [3,4,6,7]
   ·rw[List.flatMap_append];simpa[hq,entOut] using hob
end walk
end
end Fi.S
namespace Fi.S
open Go Fi Go.Proofs
set_option maxHeartbeats 8000000
attribute [local simp] oo og ci ml mv ld lf fa lo st0 cl ia lr fl ln sv fb mF mi mn bx bc bl pF pT sl EX_skip EX_ret EX_exit EX_kill EX_seq EX_cond EX_block EX_region ROps_nil ROps_cons RK_mov RK_pick RK_bin RK_conv RK_beq RK_aeq RK_nileq RK_un RK_box RK_new RK_load RK_store RK_faddr RK_field RK_iaddr RK_aaddr RK_index RK_build RK_lit RK_len RK_maxi RK_mini RK_app RK_slice RK_mk RK_ext RK_clo RK_call RK_callv RK_callr RK_callw RK_loadl RK_mkmap RK_mget RK_mput RK_cap RK_appz callFull RK_slen RK_sindex RK_sslice guardV runK argV argsV doCall callPure D.cells FV.cells FV.one D.one oneV St.push St.heap St.setHeap splice partF partD s_add s_sub s_mul s_quo s_rem s_or s_and s_xor s_shl s_shr s_eql s_neq s_lss s_leq s_gtr s_geq unV setVars killVars apartOk finish ressV resV leavesL leaves leaveL leave1 allD mkA fillF finish2 isPure oneOf freezeAll FV.rows FV.rows1 D.norm D.norm1 scalar D.isV FV.shift FV.shiftL AObj.shift pureElem fillE elems FStmt.l FStmt.r FStmt.bl FStmt.lp
set_option maxRecDepth 100000
section
theorem leE_trans {a b c:Int × Int × Int}(h1:ltE b a=false)(h2:ltE c b=false):ltE c a=false:=by
 rw[Bool.eq_false_iff,Ne,ltE_iff]at*;omega
theorem leE_total (a b:Int × Int × Int):ltE b a=false\/ltE a b=false:=by
 rw[Bool.eq_false_iff,Bool.eq_false_iff,Ne,Ne,ltE_iff,ltE_iff];omega
theorem sort_same {l l':List D}(hp:l.Perm l')(hnd:(l.map moE).Nodup):l.mergeSort leD=l'.mergeSort leD:=by
 have ht:∀ a b c:D,leD a b=true->leD b c=true->leD a c=true:=by
  intro a b c h1 h2;simp only[leD,Bool.not_eq_true']at*;exact leE_trans h1 h2
 have hto:∀ a b:D,(leD a b||leD b a)=true:=by
  intro a b;simp only[leD,Bool.or_eq_true,Bool.not_eq_true'];exact leE_total _ _
 refine List.Perm.eq_of_pairwise (le:=fun a b=>leD a b=true) (fun a b ha hb h1 h2 => ?_) (List.pairwise_mergeSort ht hto l) (List.pairwise_mergeSort ht hto l') (((List.mergeSort_perm l leD).trans hp).trans (List.mergeSort_perm l' leD).symm);simp only[leD,Bool.not_eq_true']at h1 h2;have he:=ltE_total h2 h1;have ha':a ∈ l:=(List.mergeSort_perm l leD).mem_iff.1 ha;have hb':b ∈ l:=hp.mem_iff.2 ((List.mergeSort_perm l' leD).mem_iff.1 hb);obtain⟨i,hi,rfl⟩:=List.getElem_of_mem ha';obtain⟨j,hj,rfl⟩:=List.getElem_of_mem hb';have h3:(l.map moE)[i]?=(l.map moE)[j]?:=by simp[hi,hj,he]
 have:=(List.getElem?_inj (by simpa using hi) hnd).1 h3;subst this;rfl
def listD (l:List Ent):D:=.s 6 ((l.flatMap entOut).mergeSort leD)
theorem entOut_keys (l:List Ent):((l.flatMap entOut).map moE).Sublist (l.map (·.1)):=by
 induction l with
 | nil=>exact List.Sublist.refl _
 | cons q l ih =>
  simp only[List.flatMap_cons,List.map_append,List.map_cons]
  by_cases h:q.2=0
  ·rw[show entOut q=[] from if_pos h];exact ih.cons q.1
  ·rw[show entOut q=[qC q.1 q.2] from if_neg h];exact ih.cons_cons q.1
theorem entOut_mo (l:List Ent):∀ d ∈ l.flatMap entOut,isMo d=true:=by
 intro d hd;obtain⟨q,_,hq⟩:=List.mem_flatMap.1 hd;unfold entOut at hq;split at hq
 ·simp at hq
 ·simp only[List.mem_singleton]at hq;subst hq;rfl
theorem flat_range {α β:Type}(f:α->List β):∀ l:List α,(List.range l.length).flatMap (fun i=>(l[i]?).elim [] f)=l.flatMap f
 | []=>rfl
 | a::l=>by
  rw[List.length_cons,List.range_succ_eq_map,List.flatMap_cons,List.flatMap_map,List.flatMap_cons];simp only[List.getElem?_cons_zero,Option.elim_some,List.getElem?_cons_succ];rw[flat_range f l]
theorem perm_flat {α:Type}{l:List α}{p:List Nat}(hnd:p.Nodup)(hlt:∀ i ∈ p,i<l.length)(hall:∀ i,i<l.length->i ∈ p){β:Type}(f:α->List β):(p.flatMap fun i=>(l[i]?).elim [] f).Perm (l.flatMap f):=by
 have h1:p.Perm (List.range l.length):=(List.perm_ext_iff_of_nodup hnd List.nodup_range).2 (fun i=>by
  rw[List.mem_range];exact⟨hlt i,hall i⟩)
 rw[<-flat_range f l];exact h1.flatMap_right _
theorem calls_one {P:Program}{f:FuncId}{fn:Func}{c:Code}{v:Value}{n:Nat}{w:World}{R:Ending->World->Prop}(hf:P.funcs[f]?=some fn)(hb:fn.body=some c)(hn:fn.ntmps=n+1)
  (h:∀ a:Act,a.tmps.size=n+1->a.eval (.tmp 0)=v->a.defers=[]->c.wp P (bodyPost P fn R) a w):Calls P f #[v] w R:=by
 refine calls_of_wp hf hb (h _ ?_ ?_ rfl)
 ·rw[hn];simp;omega
 ·simp only[Act.eval,Array.getD_eq_getD_getElem?];rw[Array.getElem?_append_left (by simp)];rfl
section walk
variable {I0:Nat->Prop} {w0:World}
theorem l_rounds (hm:TP.follows .mixedOrders=true)(hB:Bodies TP E3 gid)(hF:FnsOK TP E3 gid)(hP:PrimsOK TP E3 gid){ms:Array MapEntry}{clock bm r0:Nat}{l:List Ent}(hr0:w0.heap.size<=r0)(hbm:bm<w0.heap.size)(hl:∀ q ∈ l,qz q.2<=100000)(hlen:l.length<=100000)
  {Q:Exit->Act->World->Prop} (hdone:∀ p out L β I a w,At ms clock bm r0 l I0 w0 p out L β I a w->(∀ i,i<l.length->i ∈ p)->Q (.exit 0) a w):∀ (k:Nat) (p:List Nat) (out:FV) (L:List AObj) (β:Fi.Map) (I:Nat->Prop) (a:Act) (w:World),
   l.length<=p.length+k->At ms clock bm r0 l I0 w0 p out L β I a w->Code.rounds TP (.seq (.region 3 (rOps lR3) false) (.seq (.cond (.tmp 9) .skip (.exit 0)) (.block 1 (.seq (.region 4 (rOps lR4) false) (cR lB1))))) Q (k+1) a w
 | k,p,out,L,β,I,a,w,hk,h=>by
  rw[rounds_succ];refine l_round hm hB hF hP h hr0 hbm hl hlen (fun hall a' h'=>hdone p out L β I a' w h' hall) (fun j out' L' β' I' a' w' hj hjp h' => ?_);have hle:p.length+1<=l.length:=by
   have:=h'.nd.length_le_of_subset (l₂:=List.range l.length) (fun i hi=>List.mem_range.2 (h'.lt i hi));simpa using this
  match k with
  | 0=>omega
  | k+1=>exact l_rounds hm hB hF hP hr0 hbm hl hlen hdone k (p++[j]) out' L' β' I' a' w' (by simp;omega) h'
theorem list_core (hm:TP.follows .mixedOrders=true)(hB:Bodies TP E3 gid)(hF:FnsOK TP E3 gid)(hP:PrimsOK TP E3 gid){bm clock:Nat}{ms:Array MapEntry}{l:List Ent}(hI:∀ b,I0 b->b<w0.heap.size)(hG:Globs E3 gid I0 w0)
  (hb:w0.heap[bm]?=some (.map ms clock)) (hM:AtMap gid I0 w0 (l.map entD) ms clock) (hl:∀ q ∈ l,qz q.2<=100000) (hlen:l.length<=100000) (hnd:(l.map (·.1)).Nodup) :
  Calls TP 206 #[.map (some bm)] w0 fun e w'=>∃ x I',e=.returned x/\RepD gid I' w' (listD l) x/\Grow False I0 I' w0 w':=by
 have hbm:bm<w0.heap.size:=(Array.getElem?_eq_some_iff.1 hb).1;refine calls_one Tryz.func206 l_shape l_nt (fun a0 hs0 he0 hd0 => ?_);have hT0:TmpsOK gid (fun _ _=>none) I0 w0 0 cxL [.d (.v (.map (some bm))),.u,.u,.u,.u,.u,.u,.u] [] [] a0:=by
  refine⟨hs0,fun j t y h1 _ h3 => ?_,fun t j y h1=>by rw[lastDst_nil]at h1;cases h1⟩
  match j with
  | 0 =>
   simp only[List.getElem?_cons_zero,Option.some.injEq]at h3;subst h3;have ht:t=0:=by
    have:cxL.vars[0]?=some 0:=rfl;rw[this]at h1;exact(Option.some.inj h1).symm
   rw[ht,he0];exact .d (.v _)
  | 1 | 2 | 3 | 4 | 5 | 6 | 7=>simp at h3;subst h3;exact .u _
  | j+8=>simp at h3
 have hS0:SimH gid 0 (fun _ _=>none) I0 (fun b=>w0.heap.size<=b) (fun _=>True) [] w0:=.empty 0 hI (fun _ h=>h);have x0:EX E3 10 liR0 (liSt (.d (.v (.map (some bm)))) .u .u .u .u .u .u .u [])=some (.norm,liSt (.d (.v (.map (some bm)))) (.d (.n 6)) .u .u .u .u .u .u []):=by
  simp -implicitDefEqProofs [liR0,liSt]
 have x1:EX E3 10 liR1 (liSt (.d (.v (.map (some bm)))) (.d (.n 6)) .u .u .u .u .u .u [])=some (.norm,liSt (.d (.v (.map (some bm)))) (.d (.n 6)) (.d (.n 6)) .u .u .u .u .u []):=by
  simp -implicitDefEqProofs [liR1,liSt]
 refine wp_seq (l_step hm hB hF hP c_R0 x0 hS0 hG hT0 (fun β1 I1 w1 a1 hx1 hs1 ht1 hd1 => ?_));show(Code.seq (cL (cR lC)) _).wp TP _ a1 w1;refine wp_seq (l_step hm hB hF hP c_R1 x1 hs1 (hG.mono hx1.im hx1.keepI) ht1 (fun β2 I2 w2 a2 hx2 hs2 ht2 hd2 => ?_));show(Code.seq _ (cR lC2)).wp TP _ a2 w2;have hx12:=hx1.trans hx2;have hglob2:=hG.mono hx12.im hx12.keepI;have hd2':a2.defers=[]:=by rw[hd2,hd1,hd0]
 have hsince2:Grow False I0 I2 w0 w2:=⟨hx12.im,hx12.inew,hs2.ilt,hx12.size,fun b hb=>hx12.keepW b hb (by omega),hx12.os,hx12.tape,hx12.output,fun hf=>hf.elim⟩
 have hents2:=hM.mono hx12.im hx12.keepI;have hmap2:w2.heap[bm]?=some (.map ms clock):=by rw[hx12.keepW bm hbm (by omega)];exact hb
 have hi2:=hs2.ilt;clear hx1 hx2 hx12 hs1 hs2 ht1 hd1 hd2;have ht2':TmpsOK gid (fun _ _=>none) I2 w2 0 cxL [.d (.v (.map (some bm))),.u,.d (.n 6),.u,.u,.u,.u,.u] [] [] a2:=by
  refine TmpsOK.kill (vars:=[.d (.v (.map (some bm))),.d (.n 6),.d (.n 6),.u,.u,.u,.u,.u]) ?_ [1];refine TmpsOK.reb ht2 (fun y hy => ?_);simp only[liSt,List.mem_cons,List.not_mem_nil,or_false]at hy;rcases hy with rfl|rfl|rfl|rfl|rfl|rfl|rfl|rfl<;>first|exact .inl ⟨_,rfl⟩|exact .inr rfl
 have hm0:a2.eval (.tmp 0)=.map (some bm):=TmpsOK.val ht2' (j:=0) rfl rfl;have hsz2:a2.tmps.size=25:=ht2'.size
 -- the iterator
 refine wp_seq (wp_seq (wp_region_list ?_));rw[l_ops2];obtain⟨o1,o2,o3⟩:=l_o20;obtain⟨o4,o5,o6⟩:=l_o21;refine wpList_yields o3 (yields_run (x:=.map (some bm)) (w':=w2) (by simp only[execOp,o1,hm0,Sem.run_bind,Sem.run_pure])) ?_;rintro x w' ⟨rfl,hw'⟩;rw[hw'];clear hw' w';rw[o2];have he6:(a2.put (some 6) (.map (some bm))).eval (.tmp 6)=.map (some bm):=by
  rw[eval_put _ _ _ _ (fun u hu=>by cases hu;rw[hsz2];exact(by decide:(6:Nat)<25)),if_pos rfl]
 refine wpList_yields o6 (yields_run (x:=.pointer (some ⟨w2.heap.size,0,none⟩)) (w':=w2.alloc (.mapIter (some bm) clock #[] clock)) (by
  simp only[execOp,o4,he6,Sem.run_bind];rw[run_range_map w2 168 84 28 bm ms clock l_map hmap2];rfl)) ?_
 rintro x w' ⟨rfl,hw'⟩;rw[hw'];clear hw' w';rw[o5];generalize hw3:w2.alloc (.mapIter (some bm) clock #[] clock)=w3;have hold3:∀ b,b<w2.heap.size->w3.heap[b]?=w2.heap[b]?:=fun b hb=>by rw[<-hw3];exact alloc_old _ _ hb
 have hnew3:w3.heap[w2.heap.size]?=some (.mapIter (some bm) clock #[] clock):=by rw[<-hw3];exact alloc_new _ _
 have hsz3:w3.heap.size=w2.heap.size+1:=by rw[<-hw3];simp
 have hI3:∀ b,I2 b->w3.heap[b]?=w2.heap[b]?:=fun b hb=>hold3 b (hi2 b hb)
 have ht3:TmpsOK gid (fun _ _=>none) I2 w3 0 cxL [.d (.v (.map (some bm))),.u,.d (.n 6),.u,.u,.d (.v (.pointer (some ⟨w2.heap.size,0,none⟩))),.u,.u] [] [] ((a2.put (some 6) (.map (some bm))).put (some 7) (.pointer (some ⟨w2.heap.size,0,none⟩))):=by
  have h1:=((ht2'.put rfl (d:=some 6) (by exact decide_eq_true (by decide:(6:Nat)<25)) (v:=.d (.v (.map (some bm)))) (x:=.map (some bm)) (.d (.v _))).put rfl (d:=some 7) (by exact decide_eq_true (by decide:(7:Nat)<25)) (v:=.d (.v (.pointer (some ⟨w2.heap.size,0,none⟩)))) (x:=.pointer (some ⟨w2.heap.size,0,none⟩)) (.d (.v _))).out rfl;exact h1.mono (fun _ _ _ h=>h) (fun _ h=>h) hI3
 have hd3:((a2.put (some 6) (.map (some bm))).put (some 7) (.pointer (some ⟨w2.heap.size,0,none⟩))).defers=[]:=by rw[put_defers,put_defers];exact hd2'
 generalize (a2.put (some 6) (.map (some bm))).put (some 7) (.pointer (some ⟨w2.heap.size,0,none⟩))=a3 at ht3 hd3;have hat:At ms clock bm w2.heap.size l I0 w0 [] (.d (.n 6)) [] (fun _ _=>none) I2 a3 w3 :=
  {nd:=List.nodup_nil,lt:=fun i hi=>by simp at hi,it:=⟨clock,Nat.le_refl _,hnew3⟩,map:=by rw[hold3 bm (Nat.lt_of_lt_of_le hbm hsince2.size)];exact hmap2,ents:=hents2.mono (fun _ h=>h) hI3,
   sim:=.empty 0 (fun b hb=>by have:=hi2 b hb;omega) (fun b hb=>by show _<_;omega),nI:=fun hb=>by have:=hi2 _ hb;omega,globs:=hglob2.mono (fun _ h=>h) hI3,tmps:=ht3,outAt:=.inl ⟨rfl,rfl⟩,dfr:=hd3,
   since:=⟨hsince2.im,hsince2.inew,fun b hb=>by have:=hi2 b hb;omega,by have:=hsince2.size;omega,fun b hb=>(hold3 b (Nat.lt_of_lt_of_le hb hsince2.size)).trans (hsince2.keep b hb),by rw[<-hw3];exact hsince2.os,by rw[<-hw3];exact hsince2.tape,by rw[<-hw3];exact hsince2.output,fun hf=>hf.elim⟩}
 show(Code.block 0 _).wp TP _ a3 w3;refine wp_block (wp_loop_rounds (l.length+1) (l_rounds hm hB hF hP hsince2.size hbm hl hlen (fun p out L β I a w h hall => ?_) l.length [] _ _ _ _ _ _ (by simp) hat));show(cR lC2).wp TP _ a w;have hperm:=perm_flat h.nd h.lt hall entOut;have hnd':((p.flatMap fun i=>(l[i]?).elim [] entOut).map moE).Nodup:=(hperm.map moE).nodup_iff.2 (List.Nodup.sublist (entOut_keys l) hnd);have hok:sortOk (p.flatMap fun i=>(l[i]?).elim [] entOut)=true:=by
  simp only[sortOk,Bool.and_eq_true,decide_eq_true_eq];refine⟨⟨List.all_eq_true.2 (fun d hd=>entOut_mo l d (hperm.mem_iff.1 hd)),hnd'⟩,?_⟩;have h1:=(entOut_keys l).length_le;rw[List.length_map,List.length_map]at h1;rw[hperm.length_eq];omega
 obtain⟨N,out',L',dirty,hxe,hoe⟩:=li_end (.d (.v (.map (some bm)))) .u .u (.d (.v (.pointer (some ⟨w2.heap.size,0,none⟩)))) .u .u out L _ h.outAt hok;refine l_step hm hB hF hP c_E hxe (Wr:=fun b=>w2.heap.size<b) h.sim h.globs h.tmps (fun β5 I5 w5 a5 hx5 hs5 ht5 hd5 => ?_);have hsorted:(p.flatMap fun i=>(l[i]?).elim [] entOut).mergeSort leD=(l.flatMap entOut).mergeSort leD:=sort_same hperm hnd';rw[hsorted]at hoe;have hsince5:=Since.of h.since hsince2.size hx5 hs5.ilt;have hres:ressV ({vars:=[.d (.v (.map (some bm))),out',out',.u,.u,.d (.v (.pointer (some ⟨w2.heap.size,0,none⟩))),.u,.u],base:=[],loc:=L',dirty:=dirty}:St) [.var 1]=some [out']:=rfl;obtain⟨vs,g1,g2,g3⟩:=res_spec (P:=TP) hs5 ht5 c_res hres;have hend:a5.defers=[]/\∃ v,(results Tryz.f206 a5.tmps).run TP w5=.ok v w5/\(∃ x I',Ending.returned v=.returned x/\RepD gid I' w5 (listD l) x/\Grow False I0 I' w0 w5):=by
  refine⟨by rw[hd5];exact h.dfr,oneVal vs,results_run g1 g2,oneVal vs,?_⟩;obtain⟨v,rfl⟩:∃ v,vs=[v]:=by
   have:=g3.1
   match vs,this with
   | [v],_=>exact⟨v,rfl⟩
  have hv:=g3.2 0 out' v rfl rfl;show ∃ I',Ending.returned v=.returned v/\RepD gid I' w5 (listD l) v/\Grow False I0 I' w0 w5;unfold listD;generalize (l.flatMap entOut).mergeSort leD=es at hoe ⊢;rcases hoe with ⟨rfl,rfl⟩|⟨i,ver,rfl,hrow⟩
  ·rw[nil_inv hv];exact⟨I5,rfl,.s0 6,hsince5⟩
  ·refine⟨fun b=>I5 b\/∃ bo cap,β5 i ver=some (b,bo,cap),rfl,?_,?_⟩
   ·have:=ls_data (st:=({vars:=[],base:=[],loc:=L',dirty:=dirty}:St)) (I':=fun b=>I5 b\/∃ bo cap,β5 i ver=some (b,bo,cap)) hs5 (p:=.loc i) (ver:=ver) (sz:=6) (off:=0) (len:=es.length) (es:=es) (.inl (show(({vars:=[],base:=[],loc:=L',dirty:=dirty}:St).heap (.loc i))=_ from hrow)) (by omega) hv (fun b hb=>.inl hb) (fun b bo cap hβ=>.inr ⟨bo,cap,by simpa[Ref.abs] using hβ⟩);simpa using this
   ·refine⟨fun b hb=>.inl (hsince5.im b hb),fun b hb => ?_,fun b hb => ?_,hsince5.size,hsince5.keep,hsince5.os,hsince5.tape,hsince5.output,fun hf=>hf.elim⟩
    ·rcases hb with hb|⟨bo,cap,hb⟩
     ·exact hsince5.inew b hb
     ·have:=(hs5.wr i (.row ver 6 es) b bo cap hrow hb).1 trivial;have h1:=hsince2.size;exact .inr (by omega)
    ·rcases hb with hb|⟨bo,cap,hb⟩
     ·exact hsince5.ilt b hb
     ·exact hs5.blt _ _ _ _ _ hb
 exact hend
end walk
end
end Fi.S
namespace Fi.S
open Go Fi Go.Proofs
set_option maxHeartbeats 8000000
set_option maxRecDepth 100000
def unI:D->Option Nat
 | .v (.int .u32 n)=>some n.toNat
 | _=>none
def unIs:List D->Option (List Nat)
 | []=>some []
 | d::r=>match unI d,unIs r with
  | some n,some s=>some (n::s)
  | _,_=>none
def unL:D->Option (List Nat)
 | .s _ es=>unIs es
 | _=>none
def unQ (d:D):Option Rat :=
 match d with
 | .a [.v (.bool s),a,b]=>match unL a,unL b with
  | some a,some b=>if sameD (qD (mkq s (val a) (if b.isEmpty then 1 else val b))) d then some (mkq s (val a) (if b.isEmpty then 1 else val b)) else none
  | _,_=>none
 | _=>none
def unE:D->Option (Int × Int × Int)
 | .a [.v (.int .i64 a),.v (.int .i64 b),.v (.int .i64 c)]=>some (a,b,c)
 | _=>none
def unEnts:List (D × D)->Option (List Ent)
 | []=>some []
 | e::r=>match unE e.1,unQ e.2,unEnts r with
  | some a,some x,some s=>some ((a,x)::s)
  | _,_,_=>none
theorem unIs_LL:∀ l:List Nat,unIs (LL l)=some l
 | []=>rfl
 | x::l=>by
  have:=unIs_LL l;simp only[LL,List.map_cons]at this ⊢;simp[unIs,unI,this]
theorem sameI_self (a:Int):sameI a a=true:=by cases a<;>simp[sameI]
theorem sameL_LL:∀ l:List Nat,sameL (LL l) (LL l)=true
 | []=>rfl
 | x::l=>by
  have:=sameL_LL l;simp only[LL,List.map_cons]at this ⊢;simp[sameL,sameD,sameV,sameK,sameI_self,this]
theorem unQ_qD (x:Rat):unQ (qD x)=some x:=by
 have h1:mkq (qs x) (val (qn x)) (if (qd x).isEmpty then 1 else val (qd x))=x:=by
  have e1:val (qn x)=x.num.natAbs:=val_enc _;have e2:(if (qd x).isEmpty then 1 else val (qd x))=x.den:=by
   unfold qd
   by_cases h:x.den=1
   ·simp[h]
   ·rw[if_neg h];have:enc x.den≠[]:=by rw[Ne,enc_nil];exact x.den_nz
    have:(enc x.den).isEmpty=false:=by simpa using this
    rw[this];simp[val_enc]
  rw[e1,e2,mkq_self]
 have h2:sameD (qD x) (qD x)=true:=by
  simp[qD,raw,LD,sameD,sameL,sameV,sameL_LL]
 have h3:unQ (qD x)=if sameD (qD (mkq (qs x) (val (qn x)) (if (qd x).isEmpty then 1 else val (qd x)))) (qD x) then some (mkq (qs x) (val (qn x)) (if (qd x).isEmpty then 1 else val (qd x))) else none:=by
  simp only[unQ,qD,raw,LD,unL,unIs_LL]
 rw[h3,h1,if_pos h2]
theorem unEnts_ent:∀ l:List Ent,unEnts (l.map entD)=some l
 | []=>rfl
 | (e,x)::l=>by
  have:=unEnts_ent l;simp[unEnts,entD,unQ_qD,exD,unE]at this ⊢;simp[this]
theorem unQ_some {d:D}{x:Rat}(h:unQ d=some x):d=qD x:=by
 unfold unQ at h;split at h
 ·split at h
  ·rename_i a' b' ha hb;generalize mkq _ (val a') (if b'.isEmpty then 1 else val b')=y at h;split at h
   ·rename_i hs;cases h;exact(sameD_eq hs).symm
   ·cases h
  ·cases h
 ·cases h
theorem unEnts_some:∀ {es:List (D × D)} {l:List Ent},unEnts es=some l->es=l.map entD
 | [],l,h=>by simp[unEnts]at h;subst h;rfl
 | e::es,l,h=>by
  simp only[unEnts]at h;split at h<;>simp at h;subst h;rename_i a x s h1 h2 h3;rw[List.map_cons,<-unEnts_some h3]
  congr 1
  obtain⟨k,v⟩:=e;simp only at h1 h2;have:=unQ_some h2;subst this;unfold unE at h1;split at h1
  ·cases h1;rfl
  ·cases h1
def listOk (l:List Ent):Bool:=decide ((l.map (·.1)).Nodup)&&l.all (fun q=>decide (qz q.2<=100000))&&decide (l.length<=100000)
def listP (args:List FV)(B:List AObj):CallR :=
 match args with
 | [.m (.old i)]=>match B[i]? with
  | some (.map es)=>match unEnts es with
   | some l=>if listOk l then some (.d (listD l),none) else none
   | none=>none
  | _=>none
 | _=>none
theorem listP_eq {i:Nat}{B:List AObj}{l:List Ent}(hB:B[i]?=some (.map (l.map entD)))(hl:listOk l=true):listP [.m (.old i)] B=some (.d (listD l),none):=by
 simp[listP,hB,unEnts_ent,hl]
theorem one_val {σ:Nat->Option FuncId}{β:Fi.Map}{I:Nat->Prop}{w:World}{n:Nat}{a:FV}{vargs:Array Value}(hA:RepC σ β I w n [a] vargs.toList):∃ x,vargs=#[x]/\RepF σ β I w n a x:=by
 have hl:vargs.toList.length=1:=hA.1
 match hvl:vargs.toList,hl with
 | [x],_=>exact⟨x,by apply Array.ext';rw[hvl],hA.2 0 _ x rfl (by rw[hvl];rfl)⟩
theorem list_ok (hm:TP.follows .mixedOrders=true)(hB:Bodies TP E3 gid)(hF:FnsOK TP E3 gid)(hP:PrimsOK TP E3 gid){E:Env}(hmn:¬ E.mn)(hg:E.glob=E3.glob)(args:List FV)(B:List AObj)(r:FV × Option (List AObj))(h:listP args B=some r):CallOK TP E gid 206 args B r:=by
 unfold listP at h;split at h
 ·rename_i i;split at h
  ·rename_i es hBi;split at h
   ·rename_i l hl;split at h
    ·rename_i hok;cases h;intro f hf β I w vargs hS hA hG;obtain⟨rfl,_⟩:=sg_some hf;obtain⟨x,rfl,hx⟩:=one_val hA;have hes:=unEnts_some hl;subst hes;cases hx with
     | @m _ b bo cap hβ =>
      simp only[Ref.abs]at hβ;obtain⟨ms,clock,h1,h2⟩:=hS.map i _ b bo cap hBi hβ;simp only[listOk,Bool.and_eq_true,decide_eq_true_eq,List.all_eq_true]at hok;refine(list_core hm hB hF hP hS.ilt (fun k y hk=>hG k y (by rw[hg];exact hk)) h1 h2 hok.1.2 hok.2 hok.1.1).mono fun e w' ⟨x,I',he,hr,hgr⟩ => ?_
      exact⟨x,_,I',he,rfl,hr,hgr.im,hgr.inew,hgr.ilt,hgr.size,hgr.keep,hgr.os,hgr.tape,hgr.output,fun hf=>absurd hf hmn⟩
    ·cases h
   ·cases h
  ·cases h
 ·cases h
end Fi.S
noncomputable section
namespace Fi.S
open Go Fi
def E1:Env:={fn:=fn,glob:=glob,prim:=prim0,primB:=fun g=>bif Nat.beq g 206 then some listP else none}
theorem E0_le1:E0.Le E1:=⟨rfl,rfl,rfl,fun g p hp=>by cases hp⟩
theorem Ca.up1 {g:Nat}{args:List FV}{x:FV × Option (List AObj)}(h:Ca E0 g args x):Ca E1 g args x:=h.up E0_le1
end Fi.S
namespace Fi.S
open Go Fi
set_option maxHeartbeats 8000000
attribute [local simp] oo og ci ml mv ld lf fa lo st0 cl ia lr fl ln sv fb mF mi mn bx bc bl pF pT sl EX_skip EX_ret EX_exit EX_kill EX_seq EX_cond EX_block EX_region ROps_nil ROps_cons RK_mov RK_pick RK_bin RK_conv RK_beq RK_aeq RK_nileq RK_un RK_box RK_new RK_load RK_store RK_faddr RK_field RK_iaddr RK_aaddr RK_index RK_build RK_lit RK_len RK_maxi RK_mini RK_app RK_slice RK_mk RK_ext RK_clo RK_call RK_callv RK_callr RK_callw RK_loadl RK_mkmap RK_mget RK_mput RK_cap RK_appz callFull RK_slen RK_sindex RK_sslice guardV runK argV argsV doCall callPure D.cells FV.cells FV.one D.one oneV St.push St.heap St.setHeap splice partF partD s_add s_sub s_mul s_quo s_rem s_or s_and s_xor s_shl s_shr s_eql s_neq s_lss s_leq s_gtr s_geq unV setVars killVars apartOk finish ressV resV leavesL leaves leaveL leave1 allD mkA fillF finish2 isPure oneOf freezeAll FV.rows FV.rows1 D.norm D.norm1 scalar D.isV FV.shift FV.shiftL AObj.shift pureElem fillE elems FStmt.l FStmt.r FStmt.bl FStmt.lp
def getE:List Ent->Int × Int × Int->Option Rat
 | [],_=>none
 | (a,y)::r,e=>if e=a then some y else getE r e
def setE:List Ent->Int × Int × Int->Rat->List Ent
 | [],e,x=>[(e,x)]
 | (a,y)::r,e,x=>if e=a then(e,x)::r else(a,y)::setE r e x
def putE (l:List Ent)(e:Int × Int × Int)(c:Rat):List Ent:=setE l e ((getE l e).getD 0+c)
theorem keyEq_ex (e a:Int × Int × Int):keyEq 5 (exD e) (exD a)=some (decide (e=a)):=by
 obtain⟨x,y,z⟩:=e;obtain⟨x',y',z'⟩:=a;simp only[keyEq,exD,List.length_cons,List.length_nil,if_true,intsEq,Option.some.injEq,Bool.and_true];rw[Bool.eq_iff_iff];simp
theorem mfind_ent (e:Int × Int × Int):∀ l:List Ent,mfind 5 (exD e) (l.map entD)=some ((getE l e).map qD)
 | []=>rfl
 | (a,y)::r=>by
  simp only[List.map_cons,mfind,entD,keyEq_ex,getE]
  by_cases h:e=a
  ·simp[h]
  ·have:=mfind_ent e r;simp only[decide_eq_false h,if_neg h];exact this
theorem mset_ent (e:Int × Int × Int)(x:Rat):∀ l:List Ent,mset 5 (exD e) (qD x) (l.map entD)=some ((setE l e x).map entD)
 | []=>rfl
 | (a,y)::r=>by
  simp only[List.map_cons,mset,entD,keyEq_ex,setE]
  by_cases h:e=a
  ·simp[h,entD]
  ·have:=mset_ent e x r;simp only[decide_eq_false h,if_neg h,this,List.map_cons,entD]
theorem keyOk_ex (e:Int × Int × Int):keyOk 5 (exD e)=true:=by
 obtain⟨x,y,z⟩:=e;simp[keyOk,exD,intsEq]
theorem run1_degree (n:Nat)(e:Int × Int × Int):CL E1 (n+100) 254 [.d (exD e)] []=some (.d (.v (.int .i64 (degW e))),none):=by
 have:=run_degree n e;rw[CL_eq]at this ⊢;exact enter_le E0_le1 (exec_le E0_le1 _) this
theorem qD_zero:qD 0=.a [.v (.bool false),.s 1 [],.s 1 []]:=by
 have h1:qs 0=false:=by decide
 have h2:qn 0=[]:=enc_zero;have h3:qd 0=[]:=if_pos rfl;simp[qD,raw,h1,h2,h3,LD,LL]
theorem qz_zero:qz 0<=1:=by
 have h:qz 0=max (sz 0) (sz 1):=rfl;have h0:sz 0=0:=by simp[sz,enc_zero]
 rw[h,sz_one,h0];decide
theorem run_padd_no (n:Nat)(v:FV)(e:Int × Int × Int)(c:Rat)(B:List AObj)(hd:¬ degW e<=5):CL E1 (n+200) 205 [v,.d (exD e),.d (qD c)] B=some (.d (.t []),none):=by
 have t:=fun m=>run1_degree m e
 rw[CL_fn rfl (k205:E1.fn _=_) rfl];generalize degW e=dg at*;obtain⟨x,y,z⟩:=e;simp only[exD,qD,raw]at*;generalize qs c=s at*;simp only[LD]at*;generalize LL (qn c)=ns,LL (qd c)=ds at*;have hd':¬ (5:Int) ≥ dg:=hd;simp -implicitDefEqProofs [f205,t,hd,mkT]
theorem run_padd (B:List AObj)(i:Nat)(l:List Ent)(hB:B[i]?=some (.map (l.map entD)))(e:Int × Int × Int)(c:Rat)(hc:qz c<=50000)(hl:∀ y,getE l e=some y->qz y<=50000)(hd:degW e<=5) :
  ∃ N B',(∀ k,CL E1 (N+k) 205 [.m (.old i),.d (exD e),.d (qD c)] B=some (.d (.t []),some B'))/\B.length<=B'.length/\B'[i]?=some (.map ((putE l e c).map entD)):=by
 have hz:qz 0<=50000:=Nat.le_trans qz_zero (by omega);have hold:qz ((getE l e).getD 0)<=50000:=by
  cases h:getE l e with
  | none=>exact hz
  | some y=>exact hl y h
 obtain⟨N,t⟩:=(Ca.up1 (ca_addq ((getE l e).getD 0) c (by omega) (by omega))).get;have t2:=fun m=>run1_degree m e
 have hil:i<B.length:=(List.getElem?_eq_some_iff.1 hB).1;have hBi:∀ L,(B++L)[i]?=some (.map (l.map entD)):=fun L=>by rw[List.getElem?_append_left hil];exact hB
 have hf:=mfind_ent e l;have hs:=mset_ent e ((getE l e).getD 0+c) l;have hk:=keyOk_ex e;have hput:setE l e ((getE l e).getD 0+c)=putE l e c:=rfl;rw[hput]at hs;generalize (putE l e c).map entD=es',(getE l e).getD 0+c=sm,l.map entD=es,degW e=dg at*;refine⟨N+200,((B.set i (AObj.map es'))++[AObj.box [.d (.v (.int .i64 e.1)),.d (.v (.int .i64 e.2.1)),.d (.v (.int .i64 e.2.2))],AObj.box [.d (.v (.bool (qs c))),.d (LD (qn c)),.d (LD (qd c))]]).map (AObj.toOld B.length),fun k => ?_,by simp,by rw[List.getElem?_map,List.getElem?_append_left (by simpa using hil),List.getElem?_set_self hil];rfl⟩;replace t:=fun j=>t (k+j)
 simp only[<-Nat.add_assoc]at t;rw[show N+200+k=N+k+200 by omega];generalize N+k=M at*;rw[CL_fn rfl (k205:E1.fn _=_) rfl];obtain⟨x,y,z⟩:=e;cases hg:getE l (x,y,z) with
 | none =>
  rw[hg]at hf t;simp only[Option.map_none,Option.getD_none,qD_zero]at hf t;simp only[exD,qD,raw]at*;generalize qs c=s,qs sm=s' at*;simp only[LD]at*;generalize LL (qn c)=ns,LL (qd c)=ds,LL (qn sm)=ns',LL (qd sm)=ds' at*;simp -implicitDefEqProofs [f205,t,t2,hd,mkT,hBi,hf,hs,hk,hil,FV.toOld]
 | some u =>
  rw[hg]at hf t;simp only[Option.map_some,Option.getD_some]at hf t;simp only[exD,qD,raw]at*;generalize qs c=s,qs sm=s',qs u=s'' at*;simp only[LD]at*;generalize LL (qn c)=ns,LL (qd c)=ds,LL (qn sm)=ns',LL (qd sm)=ds',LL (qn u)=ns'',LL (qd u)=ds'' at*;simp -implicitDefEqProofs [f205,t,t2,hd,mkT,hBi,hf,hs,hk,hil,FV.toOld]
theorem run1_list (m:Nat)(i:Nat)(B:List AObj)(l:List Ent)(hB:B[i]?=some (.map (l.map entD)))(hl:listOk l=true):CL E1 m 206 [.m (.old i)] B=some (.d (listD l),none):=by
 rw[CL_primB (p:=listP) rfl (z206:E1.fn _=_) rfl,listP_eq hB hl]
theorem ca_constant (x:Rat)(hx:qz x<=50000):Ca E1 153 [.d (qD x)] (.d (listD [((0,0,0),0+x)]),none):=by
 have hd:degW (0,0,0)<=5:=by
  rw[degW_small rfl rfl rfl];simp
 have hq:qz (0+x)<=100000:=by
  have:=qz_add 0 x;have:=qz_zero;omega
 obtain⟨N,B',t,hlen,hB'⟩:=run_padd [.box [.d (.v (.bool (qs x))),.d (LD (qn x)),.d (LD (qd x))],.map []] 1 [] rfl (0,0,0) x hx (fun y h=>by simp[getE]at h) hd;have hput:putE [] (0,0,0) x=[((0,0,0),0+x)]:=rfl;rw[hput]at hB';have hB2:(List.map (AObj.toOld 0) B')[1]?=some (.map (List.map entD [((0,0,0),0+x)])):=by rw[List.getElem?_map,hB'];rfl
 have t2:=fun m=>run1_list m 1 _ [((0,0,0),0+x)] hB2 (by simp[listOk,hq])
 generalize hres:listD [((0,0,0),0+x)]=res at*;obtain⟨es,rfl⟩:∃ es,res=.s 6 es:=⟨_,hres.symm⟩
 clear hres;refine Ca.ofS (n:=N+100) ?_;rw[CL_fn rfl (k153:E1.fn _=_) rfl];clear hB' hB2 hput hd hq;simp only[exD,qD,raw]at*;generalize qs x=s at*;simp only[LD]at*;generalize LL (qn x)=ns,LL (qd x)=ds at*;simp -implicitDefEqProofs [f153,t,t2,FV.toOld,FV.toOldL,AObj.toOld]
end Fi.S
