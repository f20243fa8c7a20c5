import Derived.Test.YtkekcmgkpdkieaaGreatDoorSPrims
import Derived.Test.YtkekcmgkpdkieaaGreatDoorDH
import Derived.Test.YtkekcmgkpdkieaaGreatDoorCAwake9
import Derived.Test.YtkekcmgkpdkieaaGreatDoorRows
import Derived.Test.YtkekcmgkpdkieaaGreatDoorTie
import Derived.Test.YtkekcmgkpdkieaaGreatDoorCards
import Derived.Carry
set_option linter.unusedVariables false
set_option linter.unusedSimpArgs false
namespace Go.Proofs.YtkekcmgkpdkieaaGreatDoor
open Go.ChangeShapes Go.WideShapes Go.ChangeAt Go.RowKit Fi Fi.S
set_option maxRecDepth 1000000
theorem laidOut:laidOutB Tryz.prog=true:=by kernel_rfl
theorem ac0 {w:World}{ds:List D}{v:Value}(h:Rc sig (Here w) w ds v.cells.toList)(hn:1<ds.length):bB sig (Here w) w (.a ds) v:=by
 have hl:=h.1;cases v with
 | agg cs=>exact Zv h
 | _=>simp[Value.cells]at hl;omega
theorem ahY:Yw Tryz.prog:=⟨by kernel_rfl,by kernel_rfl,by kernel_rfl⟩
theorem ahZ (a:Au)(ha:a.oP)(W:World)(x0:Value)(h0:bB sig (Here W) W a.d x0) :
  Calls Tryz.prog 4 #[x0] W fun e w'=>e=.returned (.bool true)/\Below W.heap.size W w':=by
 obtain⟨N,hN⟩:=U6 a ha NG;refine Zu (ds:=[a.d]) mixed (bodies E1 no1) (fns E1 rfl) ac1 (hN N (Qd1 _)) (f:=4) (by kernel_rfl) (I:=Here W) (fun b hb=>hb) rfl ?_ (fun j y hy=>by cases hy);intro i d x hd hx
 match i with
 | 0=>cases hd;cases hx;exact h0
 | i+1=>cases hd
theorem Zw (os:Os)(started:os.Started)(H:Type)(enc:TypeId × Value->H) :
  ReturnsInHanded {} Tryz.checked os 4 .any (fun w args=>(Rows.trimKeepsUsefulStatesSpec.pre enc Tryz.prog Tryz.f4 [] false w args/\laidMetH Tryz.prog Rows.trimKeepsUsefulStatesRow.laid w)/\sizedMet enc Tryz.prog Tryz.f4 (OpenSpec.ofChange Rows.trimKeepsUsefulStatesSpec) false w args)
   (Rows.trimKeepsUsefulStatesSpec.post enc Tryz.prog Tryz.f4 false true false false):=by
 have hplain:∀ w,laidMetH Tryz.prog Rows.trimKeepsUsefulStatesRow.laid w=laidMet Tryz.prog Rows.trimKeepsUsefulStatesRow.laid w:=fun w=>MakeChecks.laidMetH_plain _ _ _ (by kernel_rfl)
 refine returnsInHanded_of_change_and (C:=Tryz.checked) (X:=fun w _=>laidMetH Tryz.prog Rows.trimKeepsUsefulStatesRow.laid w) (fun _ _ _ hh h=>h.of_heap hh) own started (by kernel_rfl) Tryz.func4
  (ChangeSpec.witness_shaped (enc:=enc) (C:=Tryz.checked) (os:=os) (X:=fun w _=>laidMetH Tryz.prog Rows.trimKeepsUsefulStatesRow.laid w) false (World.laidAll Tryz.prog os Rows.trimKeepsUsefulStatesRow.laid) #[.agg #[.int .i64 0,.slice none 0 0,.int .i64 0,.int .i64 0,.slice none 0 0,.slice none 0 0,.slice none 0 0]] 8 (World.laidAll_os _ _ _)
   (World.shaped_of_ZipB (by kernel_rfl) (by kernel_rfl)) (by kernel_rfl) (by kernel_rfl) (by kernel_rfl)
   (by rw[hplain];exact laidMet_laidAll _ (by kernel_rfl) (by kernel_rfl))) ?_
 intro W base args ds gs before hval0 hW _ _ hL _;have hW':=hW;obtain⟨p,q,VX,hV,rfl,_,_⟩:=hW;have hA:DataW.TrodAll enc Tryz.prog W 0 (fun _=>true) true Tryz.f4.params.toList args.toList ds p:=VX;rw[Tryz.params4]at hA;obtain⟨v0,vs0,d0,ds0,p0,q0,hargs,rfl,rfl,t0,r0⟩:=trodAll_cons hA;obtain⟨rfl,rfl,rfl⟩:=trodAll_nil r0;obtain rfl:args=#[v0]:=by cases args;simp_all
 obtain⟨rfl,rfl⟩:=trodVars_none hV;clear VX hval0;simp only[Qx1]at hW';rw[hplain]at hL;obtain⟨n0,g0⟩:=t0;obtain⟨a,ha,c0⟩:=O9 (σ:=sig) CY ahY g0;have b0:=ac0 c0 (by simp[Au.d,mR,gI,D.cells]);refine(ahZ a ha W v0 b0).mono fun e W' ⟨he,hb⟩ => ?_
 subst he;have l0:∀ x ∈ p0,x.block<W.heap.size:=fun x hx=>hW'.lt x (by simp[hx])
 have k0:=Below.trod laidOut (by kernel_rfl) (of_decide_eq_true (by kernel_rfl)) ⟨n0,g0⟩ hb l0;exact⟨_,rfl,_,_,_,[],_,[],hW',trodAll_mk1 (shut_bool Tryz.underlying4 _),(trodAll_cons_mk k0 trodAll_mk0),rfl,hb.frame _,fun h=>by cases h⟩
end Go.Proofs.YtkekcmgkpdkieaaGreatDoor
