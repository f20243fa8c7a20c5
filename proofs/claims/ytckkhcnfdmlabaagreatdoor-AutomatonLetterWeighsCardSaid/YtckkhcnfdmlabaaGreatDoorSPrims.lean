import Derived.Test.YtckkhcnfdmlabaaGreatDoorCV
import Derived.Test.YtckkhcnfdmlabaaGreatDoorCF
import Derived.Test.YtckkhcnfdmlabaaGreatDoorShelf2
import Derived.WalkKit
import Derived.ProofKit
import Derived.Handy
import Derived.Lay
import Derived.SevenTiedAt
set_option linter.unusedVariables false
set_option linter.unusedSimpArgs false
namespace Go.Proofs.YtckkhcnfdmlabaaGreatDoor
open Go.ChangeShapes Go.WideShapes Go.ChangeAt Go.RowKit Fi Fi.S
set_option maxRecDepth 1000000
theorem own:ownKnob Tryz.prog.godebug=none:=by kernel_rfl
theorem KN {E:Env}(hE:E.ja=uZ)(hG:E.dZ=dZ)(VM:¬ E.mn):∀ g p,E.ja g=some p->∀ args ds v,j6 args=some ds->p ds=some v->iF Tryz.prog E sig g args [] (.d v,none):=by
 intro g p hp args ds v ha hv;rw[hE]at hp;unfold uZ at hp;cases h1:Nat.beq g 1098 with
 | true =>
  rw[h1]at hp;cases hp;obtain rfl:=Nat.eq_of_beq_eq_true h1;exact QL (by rw[hG];rfl) VM ha hv
 | false =>
  rw[h1]at hp;cases hp
theorem no2:kN E2 no=true:=by kernel_rfl
theorem no3:kN E3 no=true:=by kernel_rfl
theorem no1:kN E1 no=true:=by kernel_rfl
theorem RI:∀ args w,(callFunc 289 args).run Tryz.prog w=.ok (.enter 289 args) w:=enters_of Tryz.func289 (by kernel_rfl) rfl
theorem ad3:sig 257=some 289:=by kernel_rfl
theorem ad4:sig 256=some 288:=by kernel_rfl
theorem ad5:iO Tryz.prog E3 sig:=by
 refine⟨KN rfl rfl (fun h=>h),fun g p hp args B r hr => ?_⟩
 change (bif Nat.beq g 256 then some (Da 257) else none)=some p at hp
 cases h1:Nat.beq g 256 with
 | false=>rw[h1]at hp;cases hp
 | true =>
  rw[h1]at hp;cases hp;obtain rfl:=Nat.eq_of_beq_eq_true h1;exact ZB (E:=E3) mixed (bodies E2 no2) (fns E2 rfl) ad3 Tryz.sortL rfl Tryz.isAgg65 Tryz.sizeOf65 RI (fun f hf=>(Option.some.inj (ad4.symm.trans hf)).symm) args B r hr
theorem Im:iO Tryz.prog E1 sig:=by
 refine⟨KN rfl rfl (fun h=>h),fun g p hp args B r hr => ?_⟩
 change (bif Nat.beq g 206 then some De else bif Nat.beq g 1100 then some (rV 11) else none)=some p at hp
 cases h1:Nat.beq g 206 with
 | true =>
  rw[h1]at hp;cases hp;obtain rfl:=Nat.eq_of_beq_eq_true h1;exact ZJ mixed (bodies E3 no3) (fns E3 rfl) ad5 (E:=E1) (fun h=>h) rfl args B r hr
 | false =>
  rw[h1]at hp;simp only[cond_false]at hp;cases h2:Nat.beq g 1100 with
  | true =>
   rw[h2]at hp;cases hp;obtain rfl:=Nat.eq_of_beq_eq_true h2;exact QM (E:=E1) rfl (fun h=>h) hr
  | false =>
   rw[h2]at hp;cases hp
theorem wW:RP Tryz.prog:=⟨by kernel_rfl,by kernel_rfl,by kernel_rfl,by kernel_rfl,by kernel_rfl,by kernel_rfl,by kernel_rfl,by kernel_rfl,by kernel_rfl,by kernel_rfl,by kernel_rfl,by kernel_rfl,by kernel_rfl⟩
end Go.Proofs.YtckkhcnfdmlabaaGreatDoor
