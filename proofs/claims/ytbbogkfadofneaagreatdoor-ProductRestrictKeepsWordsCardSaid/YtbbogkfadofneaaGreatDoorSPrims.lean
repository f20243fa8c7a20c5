import Derived.Test.YtbbogkfadofneaaGreatDoorCV
import Derived.Test.YtbbogkfadofneaaGreatDoorCF
import Derived.Test.YtbbogkfadofneaaGreatDoorShelf2
import Derived.WalkKit
import Derived.ProofKit
import Derived.Handy
import Derived.Lay
import Derived.SevenTiedAt
set_option linter.unusedVariables false
set_option linter.unusedSimpArgs false
namespace Go.Proofs.YtbbogkfadofneaaGreatDoor
open Go.ChangeShapes Go.WideShapes Go.ChangeAt Go.RowKit Fi Fi.S
set_option maxRecDepth 1000000
theorem own:ownKnob Tryz.prog.godebug=none:=by kernel_rfl
theorem KJ {E:Env}(hE:E.iV=uA)(hG:E.d9=d9)(VM:¬ E.mn):∀ g p,E.iV g=some p->∀ args ds v,jU args=some ds->p ds=some v->iL Tryz.prog E sig g args [] (.d v,none):=by
 intro g p hp args ds v ha hv;rw[hE]at hp;unfold uA at hp;cases h1:Nat.beq g 1098 with
 | true =>
  rw[h1]at hp;cases hp;obtain rfl:=Qg2 h1;exact QG (by rw[hG];rfl) VM ha hv
 | false =>
  rw[h1]at hp;cases hp
theorem no2:ky E2 no=true:=by kernel_rfl
theorem no3:ky E3 no=true:=by kernel_rfl
theorem no1:ky E1 no=true:=by kernel_rfl
theorem RL:∀ args w,(callFunc 306 args).run Tryz.prog w=.ok (.enter 306 args) w:=enters_of Tryz.func306 (by kernel_rfl) rfl
theorem ad5:sig 257=some 306:=by kernel_rfl
theorem ad6:sig 256=some 305:=by kernel_rfl
theorem ad7:iR Tryz.prog E3 sig:=by
 refine⟨KJ rfl rfl (fun h=>h),fun g p hp args B r hr => ?_⟩
 change (bif Nat.beq g 256 then some (BQ 257) else none)=some p at hp
 cases h1:Nat.beq g 256 with
 | false=>rw[h1]at hp;cases hp
 | true =>
  rw[h1]at hp;cases hp;obtain rfl:=Qg2 h1;exact ZG (E:=E3) mixed (bodies E2 no2) (fns E2 rfl) ad5 Tryz.sortL rfl Tryz.isAgg92 Tryz.sizeOf92 RL (fun f hf=>(Qw1 (ad6.symm.trans hf)).symm) args B r hr
theorem ad2:iR Tryz.prog E1 sig:=by
 refine⟨KJ rfl rfl (fun h=>h),fun g p hp args B r hr => ?_⟩
 change (bif Nat.beq g 206 then some BU else bif Nat.beq g 1100 then some (qY 11) else none)=some p at hp
 cases h1:Nat.beq g 206 with
 | true =>
  rw[h1]at hp;cases hp;obtain rfl:=Qg2 h1;exact ZN mixed (bodies E3 no3) (fns E3 rfl) ad7 (E:=E1) (fun h=>h) rfl args B r hr
 | false =>
  rw[h1]at hp;simp only[cond_false]at hp;cases h2:Nat.beq g 1100 with
  | true =>
   rw[h2]at hp;cases hp;obtain rfl:=Qg2 h2;exact QH (E:=E1) rfl (fun h=>h) hr
  | false =>
   rw[h2]at hp;cases hp
theorem vk:Tys Tryz.prog:=⟨by kernel_rfl,by kernel_rfl,by kernel_rfl,by kernel_rfl,by kernel_rfl,by kernel_rfl,by kernel_rfl,by kernel_rfl,by kernel_rfl,by kernel_rfl,by kernel_rfl,by kernel_rfl,by kernel_rfl⟩
end Go.Proofs.YtbbogkfadofneaaGreatDoor
