import Derived.Test.YthojoinggmjklaaGreatDoorSPrims
import Derived.Test.YthojoinggmjklaaGreatDoorCY
import Derived.Test.YthojoinggmjklaaGreatDoorCAwake
import Derived.Test.YthojoinggmjklaaGreatDoorRows
import Derived.Test.YthojoinggmjklaaGreatDoorTie
import Derived.Test.YthojoinggmjklaaGreatDoorCards
import Derived.Carry
set_option linter.unusedVariables false
set_option linter.unusedSimpArgs false
namespace Go.Proofs.YthojoinggmjklaaGreatDoor
open Go.ChangeShapes Go.WideShapes Go.ChangeAt Go.RowKit Fi Fi.S
set_option maxRecDepth 1000000
theorem laidOut:laidOutB Tryz.prog=true:=by kernel_rfl
theorem aae {w:World}{ds:List D}{v:Value}(h:Rc sig (Here w) w ds v.cells.toList)(hn:1<ds.length):bq sig (Here w) w (.a ds) v:=by
 have hl:=h.1;cases v with
 | agg cs=>exact WB h
 | _=>simp[Value.cells]at hl;omega
theorem afb:VR Tryz.prog:=⟨by kernel_rfl,by kernel_rfl,by kernel_rfl⟩
theorem afc (a:Au)(to:List Int)(ha:a.nJ)(W:World)(x0 x1:Value)(h0:bq sig (Here W) W a.d x0)(h1:bq sig (Here W) W (.s 1 (LK .i64 to)) x1) :
  Calls Tryz.prog 3 #[x0,x1] W fun e w'=>e=.returned (.bool true)/\Below W.heap.size W w':=by
 obtain⟨N,hN⟩:=R6 a to ha OY;refine WA (ds:=[a.d,.s 1 (LK .i64 to)]) mixed (bodies E1 no1) (fns E1 rfl) aaf (hN N (Nat.le_refl _)) (f:=3) (by kernel_rfl) (I:=Here W) (fun b hb=>hb) rfl ?_ (fun j y hy=>by cases hy);intro i d x hd hx
 match i with
 | 0=>cases hd;cases hx;exact h0
 | 1=>cases hd;cases hx;exact h1
 | i+2=>cases hd
theorem WC (os:Os)(started:os.Started)(H:Type)(enc:TypeId × Value->H) :
  ReturnsInHanded {} Tryz.checked os 3 .any (fun w args=>(Rows.automatonRenumbersSpec.pre enc Tryz.prog Tryz.f3 [] false w args/\laidMetH Tryz.prog Rows.automatonRenumbersRow.laid w)/\sizedMet enc Tryz.prog Tryz.f3 (OpenSpec.ofChange Rows.automatonRenumbersSpec) false w args)
   (Rows.automatonRenumbersSpec.post enc Tryz.prog Tryz.f3 false true false false):=by
 have hplain:∀ w,laidMetH Tryz.prog Rows.automatonRenumbersRow.laid w=laidMet Tryz.prog Rows.automatonRenumbersRow.laid w:=fun w=>MakeChecks.laidMetH_plain _ _ _ (by kernel_rfl)
 refine returnsInHanded_of_change_and (C:=Tryz.checked) (X:=fun w _=>laidMetH Tryz.prog Rows.automatonRenumbersRow.laid w) (fun _ _ _ hh h=>h.of_heap hh) own started (by kernel_rfl) Tryz.func3
  (ChangeSpec.witness_shaped (enc:=enc) (C:=Tryz.checked) (os:=os) (X:=fun w _=>laidMetH Tryz.prog Rows.automatonRenumbersRow.laid w) false (World.laidAll Tryz.prog os Rows.automatonRenumbersRow.laid) #[.agg #[.int .i64 0,.slice none 0 0,.int .i64 0,.int .i64 0,.slice none 0 0,.slice none 0 0,.slice none 0 0],.slice none 0 0] 8 (World.laidAll_os _ _ _)
   (World.shaped_of_ZipB (by kernel_rfl) (by kernel_rfl)) (by kernel_rfl) (by kernel_rfl) (by kernel_rfl)
   (by rw[hplain];exact laidMet_laidAll _ (by kernel_rfl) (by kernel_rfl))) ?_
 intro W base args ds gs before hval0 hW _ _ hL _;have hval:∀ (j:Nat) t v,Tryz.f3.params[j]?=some t->args[j]?=some v->Value.okWide Tryz.prog W .any base t v:=hval0;have hW':=hW;obtain⟨p,q,Tp,hV,rfl,_,_⟩:=hW;have hA:DataW.TrodAll enc Tryz.prog W 0 (fun _=>true) true Tryz.f3.params.toList args.toList ds p:=Tp;rw[Tryz.params3]at hA hval;obtain⟨v0,vs0,d0,ds0,p0,q0,hargs,rfl,rfl,t0,r0⟩:=trodAll_cons hA;obtain⟨v1,vs1,d1,ds1,p1,q1,rfl,rfl,rfl,t1,r1⟩:=trodAll_cons r0;obtain⟨rfl,rfl,rfl⟩:=trodAll_nil r1;obtain rfl:args=#[v0,v1]:=by cases args;simp_all
 obtain⟨rfl,rfl⟩:=trodVars_none hV;obtain⟨sa,sl,sc,rfl⟩:=okWide_slice Tryz.underlying22 (hval 1 22 v1 rfl rfl);clear Tp hval0 hval;simp only[List.append_nil]at hW';rw[hplain]at hL;obtain⟨n0,g0⟩:=t0;obtain⟨n1,g1⟩:=t1;obtain⟨a,ha,c0⟩:=Na (σ:=sig) yO afb g0;obtain⟨to,_,c1⟩:=wy (σ:=sig) yO.ints yO.int g1;have b0:=aae c0 (by simp[Au.d,kX,q9,D.cells]);have b1:bq sig (Here W) W (.s 1 (LK .i64 to)) (.slice sa sl sc):=c1.2 0 _ _ rfl rfl;refine(afc a to ha W v0 (.slice sa sl sc) b0 b1).mono fun e W' ⟨he,hb⟩ => ?_
 subst he;have l0:∀ x ∈ p0,x.block<W.heap.size:=fun x hx=>hW'.lt x (by simp[hx])
 have l1:∀ x ∈ p1,x.block<W.heap.size:=fun x hx=>hW'.lt x (by simp[hx])
 have k0:=Below.trod laidOut (by kernel_rfl) (of_decide_eq_true (by kernel_rfl)) ⟨n0,g0⟩ hb l0;have k1:=Below.trod laidOut (by kernel_rfl) (of_decide_eq_true (by kernel_rfl)) ⟨n1,g1⟩ hb l1;exact⟨_,rfl,_,_,_,[],_,[],hW',trodAll_mk1 (shut_bool Tryz.underlying4 _),(trodAll_cons_mk k0 (trodAll_cons_mk k1 trodAll_mk0)),rfl,hb.frame _,fun h=>by cases h⟩
end Go.Proofs.YthojoinggmjklaaGreatDoor
