import Derived.Test.YtkekcmgkpdkieaaGreatDoorSPrims
import Derived.Test.YtkekcmgkpdkieaaGreatDoorDF
import Derived.Test.YtkekcmgkpdkieaaGreatDoorCAwake9
import Derived.Test.YtkekcmgkpdkieaaGreatDoorRows
import Derived.Test.YtkekcmgkpdkieaaGreatDoorTie
import Derived.Test.YtkekcmgkpdkieaaGreatDoorCards
import Derived.Carry
set_option linter.unusedVariables false
set_option linter.unusedSimpArgs false
namespace Go.Proofs.YtkekcmgkpdkieaaGreatDoor
open Go.ChangeShapes Go.WideShapes Go.ChangeAt Go.RowKit Fi Fi.S
set_option maxRecDepth 1000000
theorem laidOut:laidOutB Tryz.prog=true:=by kernel_rfl
theorem adW {w:World}{ds:List D}{v:Value}(h:Rc sig (Here w) w ds v.cells.toList)(hn:1<ds.length):bB sig (Here w) w (.a ds) v:=by
 have hl:=h.1;cases v with
 | agg cs=>exact aav h
 | _=>simp[Value.cells]at hl;omega
theorem tyM:pF Tryz.prog 24 [(3,0,1),(22,1,1),(22,2,1),(22,3,1),(4,4,1)] 5=true:=by kernel_rfl
theorem NR {H:Type}{enc:TypeId × Value->H}{w:World}{base:Nat}{held:Bool}{sp:Nat->Bool}{fuel:Nat}{cs:List Value}{x:DataW H × List MemPlace}(h:DataW.trod enc Tryz.prog w base sp held fuel 24 cs=some x) :
  ∃ (st:Int) (li lf la:List Int) (em:Bool),(∀ x ∈ li,d_ x)/\(∀ x ∈ lf,d_ x)/\(∀ x ∈ la,d_ x)/\Rc sig (Here w) w [.v (.int .i64 st),.s 1 (LK .i64 li),.s 1 (LK .i64 lf),.s 1 (LK .i64 la),.v (.bool em)] cs:=by
 obtain⟨k,_,hl,hf⟩:=EE tyM h;obtain⟨_,h0⟩:=hf 0 3 0 1 rfl;obtain⟨_,h1⟩:=hf 1 22 1 1 rfl;obtain⟨_,h2⟩:=hf 2 22 2 1 rfl;obtain⟨_,h3⟩:=hf 3 22 3 1 rfl;obtain⟨_,h4⟩:=hf 4 4 4 1 rfl;obtain⟨st,_,r0⟩:=KQ (σ:=sig) (Xf uH.int) h0;obtain⟨li,g1,r1⟩:=oO (σ:=sig) uH.ints uH.int h1;obtain⟨lf,g2,r2⟩:=oO (σ:=sig) uH.ints uH.int h2;obtain⟨la,g3,r3⟩:=oO (σ:=sig) uH.ints uH.int h3;obtain⟨em,r4⟩:=RS (σ:=sig) (aau uH.bool) h4;refine⟨st,li,lf,la,em,fun x hx=>wf_i64 (g1 x hx),fun x hx=>wf_i64 (g2 x hx),fun x hx=>wf_i64 (g3 x hx),?_⟩;have:=(((r0.append r1).append r2).append r3).append r4;rw[yg,yg,yg,yg,Ma (n:=1+1+1+1+1) hl]at this;exact this
theorem ajS (k fr lb tt v:Int)(em:Bool)(st:Int)(li lf la:List Int)(hk:d_ k)(hfr:d_ fr)(hlb:d_ lb)(ZL:d_ tt)(hv:d_ v)(Km:∀ x ∈ li,d_ x)(hlf:∀ x ∈ lf,d_ x)(hla:∀ x ∈ la,d_ x)(W:World)(x1:Value)
  (h1:bB sig (Here W) W (.a [.v (.int .i64 st),.s 1 (LK .i64 li),.s 1 (LK .i64 lf),.s 1 (LK .i64 la),.v (.bool em)]) x1) :
  Calls Tryz.prog 6 #[.int .i64 k,x1,.int .i64 fr,.int .i64 lb,.int .i64 tt,.int .i64 v] W fun e w'=>e=.returned (.bool true)/\Below W.heap.size W w':=by
 obtain⟨N,hN⟩:=ad6 k fr lb tt v em st li lf la hk hfr hlb ZL hv Km hlf hla aaV;refine aat (ds:=[.v (.int .i64 k),.a [.v (.int .i64 st),.s 1 (LK .i64 li),.s 1 (LK .i64 lf),.s 1 (LK .i64 la),.v (.bool em)],.v (.int .i64 fr),.v (.int .i64 lb),.v (.int .i64 tt),.v (.int .i64 v)]) mixed (bodies E1 no1) (fns E1 rfl) adX (hN N (Qd2 _)) (f:=6) (by kernel_rfl) (I:=Here W) (fun b hb=>hb) rfl ?_ (fun j y hy=>by cases hy);intro i d x hd hx
 match i with
 | 0=>cases hd;cases hx;exact .v _
 | 1=>cases hd;cases hx;exact h1
 | 2=>cases hd;cases hx;exact .v _
 | 3=>cases hd;cases hx;exact .v _
 | 4=>cases hd;cases hx;exact .v _
 | 5=>cases hd;cases hx;exact .v _
 | i+6=>cases hd
theorem aej (os:Os)(started:os.Started)(H:Type)(enc:TypeId × Value->H) :
  ReturnsInHanded {} Tryz.checked os 6 .any (fun w args=>(Rows.trimGrowsWithArcsSpec.pre enc Tryz.prog Tryz.f6 [] false w args/\laidMetH Tryz.prog Rows.trimGrowsWithArcsRow.laid w)/\sizedMet enc Tryz.prog Tryz.f6 (OpenSpec.ofChange Rows.trimGrowsWithArcsSpec) false w args)
   (Rows.trimGrowsWithArcsSpec.post enc Tryz.prog Tryz.f6 false true false false):=by
 have hplain:∀ w,laidMetH Tryz.prog Rows.trimGrowsWithArcsRow.laid w=laidMet Tryz.prog Rows.trimGrowsWithArcsRow.laid w:=fun w=>MakeChecks.laidMetH_plain _ _ _ (by kernel_rfl)
 refine returnsInHanded_of_change_and (C:=Tryz.checked) (X:=fun w _=>laidMetH Tryz.prog Rows.trimGrowsWithArcsRow.laid w) (fun _ _ _ hh h=>h.of_heap hh) own started (by kernel_rfl) Tryz.func6
  (ChangeSpec.witness_shaped (enc:=enc) (C:=Tryz.checked) (os:=os) (X:=fun w _=>laidMetH Tryz.prog Rows.trimGrowsWithArcsRow.laid w) false (World.laidAll Tryz.prog os Rows.trimGrowsWithArcsRow.laid) #[.int .i64 0,.agg #[.int .i64 0,.slice none 0 0,.slice none 0 0,.slice none 0 0,.bool false],.int .i64 0,.int .i64 0,.int .i64 0,.int .i64 0] 8 (World.laidAll_os _ _ _)
   (World.shaped_of_ZipB (by kernel_rfl) (by kernel_rfl)) (by kernel_rfl) (by kernel_rfl) (by kernel_rfl)
   (by rw[hplain];exact laidMet_laidAll _ (by kernel_rfl) (by kernel_rfl))) ?_
 intro W base args ds gs before hval0 hW _ _ hL _;have hval:∀ (j:Nat) t v,Tryz.f6.params[j]?=some t->args[j]?=some v->Value.okWide Tryz.prog W .any base t v:=hval0;have hW':=hW;obtain⟨p,q,Xx,hV,rfl,_,_⟩:=hW;have hA:DataW.TrodAll enc Tryz.prog W 0 (fun _=>true) true Tryz.f6.params.toList args.toList ds p:=Xx;rw[Tryz.params6]at hA hval;obtain⟨v0,vs0,d0,ds0,p0,q0,hargs,rfl,rfl,t0,r0⟩:=trodAll_cons hA;obtain⟨v1,vs1,d1,ds1,p1,q1,rfl,rfl,rfl,t1,r1⟩:=trodAll_cons r0;obtain⟨v2,vs2,d2,Wy,p2,q2,rfl,rfl,rfl,t2,r2⟩:=trodAll_cons r1;obtain⟨v3,vs3,d3,ds3,p3,q3,rfl,rfl,rfl,t3,r3⟩:=trodAll_cons r2;obtain⟨v4,vs4,d4,ds4,p4,q4,rfl,rfl,rfl,t4,r4⟩:=trodAll_cons r3;obtain⟨v5,vs5,d5,ds5,p5,q5,rfl,rfl,rfl,t5,r5⟩:=trodAll_cons r4;obtain⟨rfl,rfl,rfl⟩:=trodAll_nil r5;obtain rfl:args=#[v0,v1,v2,v3,v4,v5]:=by cases args;simp_all
 obtain⟨rfl,rfl⟩:=trodVars_none hV;obtain⟨a0,rfl,rfl,rfl,w0⟩:=open_int Tryz.underlying3 (hval 0 3 v0 rfl rfl) t0;obtain⟨a2,rfl,rfl,rfl,w2⟩:=open_int Tryz.underlying3 (hval 2 3 v2 rfl rfl) t2;obtain⟨a3,rfl,rfl,rfl,w3⟩:=open_int Tryz.underlying3 (hval 3 3 v3 rfl rfl) t3;obtain⟨a4,rfl,rfl,rfl,w4⟩:=open_int Tryz.underlying3 (hval 4 3 v4 rfl rfl) t4;obtain⟨a5,rfl,rfl,rfl,w5⟩:=open_int Tryz.underlying3 (hval 5 3 v5 rfl rfl) t5;clear Xx hval0 hval;simp only[Q01,Qv1]at hW';rw[hplain]at hL;obtain⟨n1,g1⟩:=t1;obtain⟨st,li,lf,la,em,Km,hlf,hla,c1⟩:=NR g1;have b1:=adW c1 (by simp);refine(ajS a0 a2 a3 a4 a5 em st li lf la (wf_i64 w0) (wf_i64 w2) (wf_i64 w3) (wf_i64 w4) (wf_i64 w5) Km hlf hla W v1 b1).mono fun e W' ⟨he,hb⟩ => ?_
 subst he;have l1:∀ x ∈ p1,x.block<W.heap.size:=fun x hx=>hW'.lt x (by simp[hx])
 have k1:=Below.trod laidOut (by kernel_rfl) (of_decide_eq_true (by kernel_rfl)) ⟨n1,g1⟩ hb l1;exact⟨_,rfl,_,_,_,[],_,[],hW',trodAll_mk1 (shut_bool Tryz.underlying4 _),(trodAll_cons_mk (shut_int Tryz.underlying3 w0) (trodAll_cons_mk k1 (trodAll_cons_mk (shut_int Tryz.underlying3 w2) (trodAll_cons_mk (shut_int Tryz.underlying3 w3) (trodAll_cons_mk (shut_int Tryz.underlying3 w4) (trodAll_cons_mk (shut_int Tryz.underlying3 w5) trodAll_mk0)))))),rfl,hb.frame _,fun h=>by cases h⟩
end Go.Proofs.YtkekcmgkpdkieaaGreatDoor
