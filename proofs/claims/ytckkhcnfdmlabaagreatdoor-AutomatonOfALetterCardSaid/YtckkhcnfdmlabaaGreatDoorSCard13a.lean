import Derived.Test.YtckkhcnfdmlabaaGreatDoorSPrims
import Derived.Test.YtckkhcnfdmlabaaGreatDoorCU
import Derived.Test.YtckkhcnfdmlabaaGreatDoorCAwake
import Derived.Test.YtckkhcnfdmlabaaGreatDoorRows
import Derived.Test.YtckkhcnfdmlabaaGreatDoorTie
import Derived.Test.YtckkhcnfdmlabaaGreatDoorCards
import Derived.Carry
set_option linter.unusedVariables false
set_option linter.unusedSimpArgs false
namespace Go.Proofs.YtckkhcnfdmlabaaGreatDoor
open Go.ChangeShapes Go.WideShapes Go.ChangeAt Go.RowKit Fi Fi.S
set_option maxRecDepth 1000000
theorem laidOut:laidOutB Tryz.prog=true:=by kernel_rfl
theorem wT {w:World}{ds:List D}{v:Value}(h:Rc sig (Here w) w ds v.cells.toList)(hn:1<ds.length):bg sig (Here w) w (.a ds) v:=by
 have hl:=h.1;cases v with
 | agg cs=>exact Il h
 | _=>simp[Value.cells]at hl;omega
theorem ajE (k:Int)(ps:List Int)(sy sb:Int)(v:W)(hv:v.nA)(W:World)(x0 x1 x2 x3:Value)(h0:bg sig (Here W) W (aP k ps) x0)(h1:bg sig (Here W) W (.v (.int .i64 sy)) x1)
  (h2:bg sig (Here W) W (.v (.int .i64 sb)) x2) (h3:bg sig (Here W) W v.d x3) :
  Calls Tryz.prog 3 #[x0,x1,x2,x3] W fun e w'=>e=.returned (.bool true)/\Below W.heap.size W w':=by
 obtain⟨N,hN⟩:=VI k ps sy sb v hv wY;refine BH (ds:=[aP k ps,.v (.int .i64 sy),.v (.int .i64 sb),v.d]) mixed (bodies E1 no1) (fns E1 rfl) Im (hN N (Nat.le_refl _)) (f:=3) (by kernel_rfl) (I:=Here W) (fun b hb=>hb) rfl ?_ (fun j y hy=>by cases hy);intro i d x hd hx
 match i with
 | 0=>cases hd;cases hx;exact h0
 | 1=>cases hd;cases hx;exact h1
 | 2=>cases hd;cases hx;exact h2
 | 3=>cases hd;cases hx;exact h3
 | i+4=>cases hd
theorem aar (os:Os)(started:os.Started)(H:Type)(enc:TypeId × Value->H) :
  ReturnsInHanded {} Tryz.checked os 3 .any (fun w args=>(Rows.automatonOfALetterSpec.pre enc Tryz.prog Tryz.f3 [] false w args/\laidMetH Tryz.prog Rows.automatonOfALetterRow.laid w)/\sizedMet enc Tryz.prog Tryz.f3 (OpenSpec.ofChange Rows.automatonOfALetterSpec) false w args)
   (Rows.automatonOfALetterSpec.post enc Tryz.prog Tryz.f3 false true false false):=by
 have hplain:∀ w,laidMetH Tryz.prog Rows.automatonOfALetterRow.laid w=laidMet Tryz.prog Rows.automatonOfALetterRow.laid w:=fun w=>MakeChecks.laidMetH_plain _ _ _ (by kernel_rfl)
 refine returnsInHanded_of_change_and (C:=Tryz.checked) (X:=fun w _=>laidMetH Tryz.prog Rows.automatonOfALetterRow.laid w) (fun _ _ _ hh h=>h.of_heap hh) own started (by kernel_rfl) Tryz.func3
  (ChangeSpec.witness_shaped (enc:=enc) (C:=Tryz.checked) (os:=os) (X:=fun w _=>laidMetH Tryz.prog Rows.automatonOfALetterRow.laid w) false (World.laidAll Tryz.prog os Rows.automatonOfALetterRow.laid) #[.agg #[.int .i64 0,.slice none 0 0],.int .i64 0,.int .i64 0,.agg #[.bool false,.slice none 0 0,.slice none 0 0,.int .i64 0,.bool false,.int .u64 0,.slice none 0 0,.slice none 0 0]] 8 (World.laidAll_os _ _ _)
   (World.shaped_of_ZipB (by kernel_rfl) (by kernel_rfl)) (by kernel_rfl) (by kernel_rfl) (by kernel_rfl)
   (by rw[hplain];exact laidMet_laidAll _ (by kernel_rfl) (by kernel_rfl))) ?_
 intro W base args ds gs before hval0 hW _ _ hL _;have hval:∀ (j:Nat) t v,Tryz.f3.params[j]?=some t->args[j]?=some v->Value.okWide Tryz.prog W .any base t v:=hval0;have hW':=hW;obtain⟨p,q,GZ,hV,rfl,_,_⟩:=hW;have hA:DataW.TrodAll enc Tryz.prog W 0 (fun _=>true) true Tryz.f3.params.toList args.toList ds p:=GZ;rw[Tryz.params3]at hA hval;obtain⟨v0,vs0,d0,ds0,p0,q0,hargs,rfl,rfl,t0,r0⟩:=trodAll_cons hA;obtain⟨v1,vs1,d1,ds1,p1,q1,rfl,rfl,rfl,t1,r1⟩:=trodAll_cons r0;obtain⟨v2,vs2,d2,ds2,p2,q2,rfl,rfl,rfl,t2,r2⟩:=trodAll_cons r1;obtain⟨v3,vs3,d3,ds3,p3,q3,rfl,rfl,rfl,t3,r3⟩:=trodAll_cons r2;obtain⟨rfl,rfl,rfl⟩:=trodAll_nil r3;obtain rfl:args=#[v0,v1,v2,v3]:=by cases args;simp_all
 obtain⟨rfl,rfl⟩:=trodVars_none hV;obtain⟨sy,rfl,rfl,rfl,w1⟩:=open_int Tryz.underlying3 (hval 1 3 v1 rfl rfl) t1;obtain⟨sb,rfl,rfl,rfl,w2⟩:=open_int Tryz.underlying3 (hval 2 3 v2 rfl rfl) t2;clear GZ hval0;simp only[List.append_nil]at hW';rw[hplain]at hL;obtain⟨n0,g0⟩:=t0;obtain⟨n3,g3⟩:=t3;obtain⟨k,ps,_,_,c0⟩:=Fv (σ:=sig) wW g0;obtain⟨w,hw,c3⟩:=sO (σ:=sig) wW n3 g3;have b0:=wT c0 (by simp);have b3:bg sig (Here W) W w.d v3:=by
  obtain⟨s,a,b,c,i,u,p,pp⟩:=w;exact wT c3 (by simp[Fi.S.W.d,D.cells])
 refine(ajE k ps sy sb w hw W v0 (.int .i64 sy) (.int .i64 sb) v3 b0 (.v _) (.v _) b3).mono fun e W' ⟨he,hb⟩ => ?_
 subst he;have l0:∀ x ∈ p0,x.block<W.heap.size:=fun x hx=>hW'.lt x (by simp[hx])
 have l3:∀ x ∈ p3,x.block<W.heap.size:=fun x hx=>hW'.lt x (by simp[hx])
 have k0:=Below.trod laidOut (by kernel_rfl) (of_decide_eq_true (by kernel_rfl)) ⟨n0,g0⟩ hb l0;have k3:=Below.trod laidOut (by kernel_rfl) (of_decide_eq_true (by kernel_rfl)) ⟨n3,g3⟩ hb l3;exact⟨_,rfl,_,_,_,[],_,[],hW',trodAll_mk1 (shut_bool Tryz.underlying4 _),(trodAll_cons_mk k0 (trodAll_cons_mk (shut_int Tryz.underlying3 w1) (trodAll_cons_mk (shut_int Tryz.underlying3 w2) (trodAll_cons_mk k3 trodAll_mk0)))),rfl,hb.frame _,fun h=>by cases h⟩
end Go.Proofs.YtckkhcnfdmlabaaGreatDoor
