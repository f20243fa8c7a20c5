import Derived.Test.YtckkhcnfdmlabaaGreatDoorSPrims
import Derived.Test.YtckkhcnfdmlabaaGreatDoorCW
import Derived.Test.YtckkhcnfdmlabaaGreatDoorCAwake
import Derived.Test.YtckkhcnfdmlabaaGreatDoorRows
import Derived.Test.YtckkhcnfdmlabaaGreatDoorTie
import Derived.Test.YtckkhcnfdmlabaaGreatDoorCards
import Derived.Carry
set_option linter.unusedVariables false
set_option linter.unusedSimpArgs false
namespace Go.Proofs.YtckkhcnfdmlabaaGreatDoor
open Go.ChangeShapes Go.WideShapes Go.ChangeAt Go.RowKit Fi Fi.S
set_option maxRecDepth 1000000
theorem laidOut:laidOutB Tryz.prog=true:=by kernel_rfl
theorem wT {w:World}{ds:List D}{v:Value}(h:Rc sig (Here w) w ds v.cells.toList)(hn:1<ds.length):bg sig (Here w) w (.a ds) v:=by
 have hl:=h.1;cases v with
 | agg cs=>exact Il h
 | _=>simp[Value.cells]at hl;omega
theorem aau:VV Tryz.prog:=⟨by kernel_rfl,by kernel_rfl,by kernel_rfl⟩
theorem ajH (a b:Au)(ha:a.nA)(hb:b.nA)(W:World)(x0 x1:Value)(h0:bg sig (Here W) W a.d x0)(h1:bg sig (Here W) W b.d x1) :
  Calls Tryz.prog 5 #[x0,x1] W fun e w'=>e=.returned (.bool true)/\Below W.heap.size W w':=by
 obtain⟨N,hN⟩:=VS a b ha hb wY;refine BH (ds:=[a.d,b.d]) mixed (bodies E1 no1) (fns E1 rfl) Im (hN N (Nat.le_refl _)) (f:=5) (by kernel_rfl) (I:=Here W) (fun b hb=>hb) rfl ?_ (fun j y hy=>by cases hy);intro i d x hd hx
 match i with
 | 0=>cases hd;cases hx;exact h0
 | 1=>cases hd;cases hx;exact h1
 | i+2=>cases hd
theorem aat (os:Os)(started:os.Started)(H:Type)(enc:TypeId × Value->H) :
  ReturnsInHanded {} Tryz.checked os 5 .any (fun w args=>(Rows.automatonHasAFormSpec.pre enc Tryz.prog Tryz.f5 [] false w args/\laidMetH Tryz.prog Rows.automatonHasAFormRow.laid w)/\sizedMet enc Tryz.prog Tryz.f5 (OpenSpec.ofChange Rows.automatonHasAFormSpec) false w args)
   (Rows.automatonHasAFormSpec.post enc Tryz.prog Tryz.f5 false true false false):=by
 have hplain:∀ w,laidMetH Tryz.prog Rows.automatonHasAFormRow.laid w=laidMet Tryz.prog Rows.automatonHasAFormRow.laid w:=fun w=>MakeChecks.laidMetH_plain _ _ _ (by kernel_rfl)
 refine returnsInHanded_of_change_and (C:=Tryz.checked) (X:=fun w _=>laidMetH Tryz.prog Rows.automatonHasAFormRow.laid w) (fun _ _ _ hh h=>h.of_heap hh) own started (by kernel_rfl) Tryz.func5
  (ChangeSpec.witness_shaped (enc:=enc) (C:=Tryz.checked) (os:=os) (X:=fun w _=>laidMetH Tryz.prog Rows.automatonHasAFormRow.laid w) false (World.laidAll Tryz.prog os Rows.automatonHasAFormRow.laid) #[.agg #[.int .i64 0,.slice none 0 0,.int .i64 0,.int .i64 0,.slice none 0 0,.slice none 0 0,.slice none 0 0],.agg #[.int .i64 0,.slice none 0 0,.int .i64 0,.int .i64 0,.slice none 0 0,.slice none 0 0,.slice none 0 0]] 8 (World.laidAll_os _ _ _)
   (World.shaped_of_ZipB (by kernel_rfl) (by kernel_rfl)) (by kernel_rfl) (by kernel_rfl) (by kernel_rfl)
   (by rw[hplain];exact laidMet_laidAll _ (by kernel_rfl) (by kernel_rfl))) ?_
 intro W base args ds gs before hval0 hW _ _ hL _;have hW':=hW;obtain⟨p,q,GZ,hV,rfl,_,_⟩:=hW;have hA:DataW.TrodAll enc Tryz.prog W 0 (fun _=>true) true Tryz.f5.params.toList args.toList ds p:=GZ;rw[Tryz.params5]at hA;obtain⟨v0,vs0,d0,ds0,p0,q0,hargs,rfl,rfl,t0,r0⟩:=trodAll_cons hA;obtain⟨v1,vs1,d1,ds1,p1,q1,rfl,rfl,rfl,t1,r1⟩:=trodAll_cons r0;obtain⟨rfl,rfl,rfl⟩:=trodAll_nil r1;obtain rfl:args=#[v0,v1]:=by cases args;simp_all
 obtain⟨rfl,rfl⟩:=trodVars_none hV;clear GZ hval0;simp only[List.append_nil]at hW';rw[hplain]at hL;obtain⟨n0,g0⟩:=t0;obtain⟨n1,g1⟩:=t1;obtain⟨a,ha,c0⟩:=zL (σ:=sig) wW aau g0;obtain⟨b,hb',c1⟩:=zL (σ:=sig) wW aau g1;have b0:=wT c0 (by simp[Au.d,jf,fA,D.cells]);have b1:=wT c1 (by simp[Au.d,jf,fA,D.cells]);refine(ajH a b ha hb' W v0 v1 b0 b1).mono fun e W' ⟨he,hb⟩ => ?_
 subst he;have l0:∀ x ∈ p0,x.block<W.heap.size:=fun x hx=>hW'.lt x (by simp[hx])
 have l1:∀ x ∈ p1,x.block<W.heap.size:=fun x hx=>hW'.lt x (by simp[hx])
 have k0:=Below.trod laidOut (by kernel_rfl) (of_decide_eq_true (by kernel_rfl)) ⟨n0,g0⟩ hb l0;have k1:=Below.trod laidOut (by kernel_rfl) (of_decide_eq_true (by kernel_rfl)) ⟨n1,g1⟩ hb l1;exact⟨_,rfl,_,_,_,[],_,[],hW',trodAll_mk1 (shut_bool Tryz.underlying4 _),(trodAll_cons_mk k0 (trodAll_cons_mk k1 trodAll_mk0)),rfl,hb.frame _,fun h=>by cases h⟩
end Go.Proofs.YtckkhcnfdmlabaaGreatDoor
