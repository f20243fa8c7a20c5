import Derived.Test.YtgngjdakilfmoaaGreatDoorSPrims
import Derived.Test.YtgngjdakilfmoaaGreatDoorDM
import Derived.Test.YtgngjdakilfmoaaGreatDoorCAwake21
import Derived.Test.YtgngjdakilfmoaaGreatDoorRows
import Derived.Test.YtgngjdakilfmoaaGreatDoorTie
import Derived.Test.YtgngjdakilfmoaaGreatDoorCards
import Derived.Carry
set_option linter.unusedVariables false
set_option linter.unusedSimpArgs false
namespace Go.Proofs.YtgngjdakilfmoaaGreatDoor
open Go.ChangeShapes Go.WideShapes Go.ChangeAt Go.RowKit Fi Fi.S
set_option maxRecDepth 1000000
theorem laidOut:laidOutB Tryz.prog=true:=by kernel_rfl
theorem afN {w:World}{ds:List D}{v:Value}(h:Rc sig (Here w) w ds v.cells.toList)(hn:1<ds.length):bE sig (Here w) w (.a ds) v:=by
 have hl:=h.1;cases v with
 | agg cs=>exact acj h
 | _=>simp[Value.cells]at hl;omega
theorem tyM:qI Tryz.prog 24 [(3,0,1),(22,1,1),(22,2,1),(22,3,1),(4,4,1)] 5=true:=by kernel_rfl
theorem OQ {H:Type}{enc:TypeId × Value->H}{w:World}{base:Nat}{held:Bool}{sp:Nat->Bool}{fuel:Nat}{cs:List Value}{x:DataW H × List MemPlace}(h:DataW.trod enc Tryz.prog w base sp held fuel 24 cs=some x) :
  ∃ (st:Int) (li lf la:List Int) (em:Bool),(∀ x ∈ li,ib x)/\(∀ x ∈ lf,ib x)/\(∀ x ∈ la,ib x)/\Rc sig (Here w) w [vI st,.s 1 (LK .i64 li),.s 1 (LK .i64 lf),.s 1 (LK .i64 la),vB em] cs:=by
 obtain⟨k,_,hl,hf⟩:=Fx tyM h;obtain⟨_,h0⟩:=hf 0 3 0 1 rfl;obtain⟨_,h1⟩:=hf 1 22 1 1 rfl;obtain⟨_,h2⟩:=hf 2 22 2 1 rfl;obtain⟨_,h3⟩:=hf 3 22 3 1 rfl;obtain⟨_,h4⟩:=hf 4 4 4 1 rfl;obtain⟨st,_,r0⟩:=LH (σ:=sig) (YO yg.int) h0;obtain⟨li,g1,r1⟩:=zV (σ:=sig) yg.ints yg.int h1;obtain⟨lf,g2,r2⟩:=zV (σ:=sig) yg.ints yg.int h2;obtain⟨la,g3,r3⟩:=zV (σ:=sig) yg.ints yg.int h3;obtain⟨em,r4⟩:=Tp (σ:=sig) (aci yg.bool) h4;refine⟨st,li,lf,la,em,fun x hx=>wf_i64 (g1 x hx),fun x hx=>wf_i64 (g2 x hx),fun x hx=>wf_i64 (g3 x hx),?_⟩;have:=(((r0.append r1).append r2).append r3).append r4;rw[yH,yH,yH,yH,M3 (n:=1+1+1+1+1) hl]at this;exact this
theorem aoO (k0:Bool)(em1:Bool)(st1:Int)(li1 lf1 la1:List Int)(k2:Int)(l3:List Int)(ri1:∀ x ∈ li1,ib x)(rf1:∀ x ∈ lf1,ib x)(ra1:∀ x ∈ la1,ib x)(r2:ib k2)(r3:∀ x ∈ l3,ib x)(W:World)(x1 x3:Value)
  (h1:bE sig (Here W) W (.a [vI st1,.s 1 (LK .i64 li1),.s 1 (LK .i64 lf1),.s 1 (LK .i64 la1),vB em1]) x1) (h3:bE sig (Here W) W (.s 1 (LK .i64 l3)) x3) :
  Calls Tryz.prog 3 #[.bool k0,x1,.int .i64 k2,x3] W fun e w'=>e=.returned (.bool true)/\Below W.heap.size W w':=by
 obtain⟨N,hN⟩:=ajj k0 em1 st1 li1 lf1 la1 k2 l3 ri1 rf1 ra1 r2 r3 Ms;refine ach (ds:=[vB k0,.a [vI st1,.s 1 (LK .i64 li1),.s 1 (LK .i64 lf1),.s 1 (LK .i64 la1),vB em1],vI k2,.s 1 (LK .i64 l3)]) mixed (bodies E1 no1) (fns E1 rfl) afO (hN N (Qd2 _)) (f:=3) (by kernel_rfl) (I:=Here W) (fun b hb=>hb) rfl ?_ (fun j y hy=>by cases hy);intro i d x hd hx
 match i with
 | 0=>cases hd;cases hx;exact .v _
 | 1=>cases hd;cases hx;exact h1
 | 2=>cases hd;cases hx;exact .v _
 | 3=>cases hd;cases hx;exact h3
 | i+4=>cases hd
theorem akf (os:Os)(started:os.Started)(H:Type)(enc:TypeId × Value->H) :
  ReturnsInHanded {} Tryz.checked os 3 .any (fun w args=>(Rows.distanceBestIsPreferredSpec.pre enc Tryz.prog Tryz.f3 [] false w args/\laidMetH Tryz.prog Rows.distanceBestIsPreferredRow.laid w)/\sizedMet enc Tryz.prog Tryz.f3 (OpenSpec.ofChange Rows.distanceBestIsPreferredSpec) false w args)
   (Rows.distanceBestIsPreferredSpec.post enc Tryz.prog Tryz.f3 false true false false):=by
 have hplain:∀ w,laidMetH Tryz.prog Rows.distanceBestIsPreferredRow.laid w=laidMet Tryz.prog Rows.distanceBestIsPreferredRow.laid w:=fun w=>MakeChecks.laidMetH_plain _ _ _ (by kernel_rfl)
 refine returnsInHanded_of_change_and (C:=Tryz.checked) (X:=fun w _=>laidMetH Tryz.prog Rows.distanceBestIsPreferredRow.laid w) (fun _ _ _ hh h=>h.of_heap hh) own started (by kernel_rfl) Tryz.func3
  (ChangeSpec.witness_shaped (enc:=enc) (C:=Tryz.checked) (os:=os) (X:=fun w _=>laidMetH Tryz.prog Rows.distanceBestIsPreferredRow.laid w) false (World.laidAll Tryz.prog os Rows.distanceBestIsPreferredRow.laid) #[.bool false,.agg #[.int .i64 0,.slice none 0 0,.slice none 0 0,.slice none 0 0,.bool false],.int .i64 0,.slice none 0 0] 8 (World.laidAll_os _ _ _)
   (World.shaped_of_ZipB (by kernel_rfl) (by kernel_rfl)) (by kernel_rfl) (by kernel_rfl) (by kernel_rfl)
   (by rw[hplain];exact laidMet_laidAll _ (by kernel_rfl) (by kernel_rfl))) ?_
 intro W base args ds gs before hval0 hW _ _ hL _;have hval:∀ (j:Nat) t v,Tryz.f3.params[j]?=some t->args[j]?=some v->Value.okWide Tryz.prog W .any base t v:=hval0;have hW':=hW;obtain⟨p,q,Y5,hV,rfl,_,_⟩:=hW;have hA:DataW.TrodAll enc Tryz.prog W 0 (fun _=>true) true Tryz.f3.params.toList args.toList ds p:=Y5;rw[Tryz.params3]at hA hval;obtain⟨v0,vs0,d0,ds0,p0,q0,hargs,rfl,rfl,t0,r0⟩:=trodAll_cons hA;obtain⟨v1,vs1,d1,ds1,p1,q1,rfl,rfl,rfl,t1,r1⟩:=trodAll_cons r0;obtain⟨v2,vs2,d2,ds2,p2,q2,rfl,rfl,rfl,t2,r2⟩:=trodAll_cons r1;obtain⟨v3,vs3,d3,ds3,p3,q3,rfl,rfl,rfl,t3,r3⟩:=trodAll_cons r2;obtain⟨rfl,rfl,rfl⟩:=trodAll_nil r3;obtain rfl:args=#[v0,v1,v2,v3]:=by cases args;simp_all
 obtain⟨rfl,rfl⟩:=trodVars_none hV;obtain⟨a0,rfl,rfl,rfl⟩:=open_bool Tryz.underlying4 (hval 0 4 v0 rfl rfl) t0;obtain⟨a2,rfl,rfl,rfl,w2⟩:=open_int Tryz.underlying3 (hval 2 3 v2 rfl rfl) t2;obtain⟨sa3,sl3,sc3,rfl⟩:=okWide_slice Tryz.underlying22 (hval 3 22 v3 rfl rfl);clear Y5 hval0 hval;simp only[Q10]at hW';rw[hplain]at hL;obtain⟨n1,g1⟩:=t1;obtain⟨n3,g3⟩:=t3;obtain⟨st1,li1,lf1,la1,em1,hi1,hf1,ha1,c1⟩:=OQ g1;have b1:=afN c1 aC;obtain⟨m3,hm3,c3⟩:=zV (σ:=sig) yg.ints yg.int g3;have b3:bE sig (Here W) W (.s 1 (LK .i64 m3)) (.slice sa3 sl3 sc3):=c3.2 0 _ _ rfl rfl;refine(aoO a0 em1 st1 li1 lf1 la1 a2 m3 hi1 hf1 ha1 (wf_i64 w2) (fun x hx=>wf_i64 (hm3 x hx)) W v1 (.slice sa3 sl3 sc3) b1 b3).mono fun e W' ⟨he,hb⟩ => ?_
 subst he;have l1:∀ x ∈ p1,x.block<W.heap.size:=fun x hx=>hW'.lt x (by simp[hx])
 have k1:=Below.trod laidOut (by kernel_rfl) (of_decide_eq_true (by kernel_rfl)) ⟨n1,g1⟩ hb l1;have l3:∀ x ∈ p3,x.block<W.heap.size:=fun x hx=>hW'.lt x (by simp[hx])
 have k3:=Below.trod laidOut (by kernel_rfl) (of_decide_eq_true (by kernel_rfl)) ⟨n3,g3⟩ hb l3;exact⟨_,rfl,_,_,_,[],_,[],hW',trodAll_mk1 (shut_bool Tryz.underlying4 _),(trodAll_cons_mk (shut_bool Tryz.underlying4 a0) (trodAll_cons_mk k1 (trodAll_cons_mk (shut_int Tryz.underlying3 w2) (trodAll_cons_mk k3 trodAll_mk0)))),rfl,hb.frame _,fun h=>by cases h⟩
end Go.Proofs.YtgngjdakilfmoaaGreatDoor
