import Derived.Test.YtkekcmgkpdkieaaGreatDoorCV
import Derived.Test.YtkekcmgkpdkieaaGreatDoorCF
import Derived.Test.YtkekcmgkpdkieaaGreatDoorShelf2
import Derived.WalkKit
import Derived.ProofKit
import Derived.Handy
import Derived.Lay
import Derived.SevenTiedAt
set_option linter.unusedVariables false
set_option linter.unusedSimpArgs false
namespace Go.Proofs.YtkekcmgkpdkieaaGreatDoor
open Go.ChangeShapes Go.WideShapes Go.ChangeAt Go.RowKit Fi Fi.S
set_option maxRecDepth 1000000
theorem own:ownKnob Tryz.prog.godebug=none:=by kernel_rfl
theorem Jw {E:Env}(hE:E.iK=yw)(hG:E.dU=dU)(Ub:¬ E.mn):∀ g p,E.iK g=some p->∀ args ds v,kT args=some ds->p ds=some v->gZ Tryz.prog E sig g args [] (.d v,none):=by
 intro g p hp args ds v ha hv;rw[hE]at hp;unfold yw at hp;cases h1:Nat.beq g 1098 with
 | true =>
  rw[h1]at hp;cases hp;obtain rfl:=Qk1 h1;exact O1 (by rw[hG];rfl) Ub ha hv
 | false =>
  rw[h1]at hp;cases hp
theorem no2:jW E2 no=true:=by kernel_rfl
theorem no3:jW E3 no=true:=by kernel_rfl
theorem no1:jW E1 no=true:=by kernel_rfl
theorem Qh:∀ args w,(callFunc 309 args).run Tryz.prog w=.ok (.enter 309 args) w:=enters_of Tryz.func309 (by kernel_rfl) rfl
theorem ac4:sig 257=some 309:=by kernel_rfl
theorem ac5:sig 256=some 308:=by kernel_rfl
theorem ac6:iA Tryz.prog E3 sig:=by
 refine⟨Jw rfl rfl (fun h=>h),fun g p hp args B r hr => ?_⟩
 change (bif Nat.beq g 256 then some (A8 257) else none)=some p at hp
 cases h1:Nat.beq g 256 with
 | false=>rw[h1]at hp;cases hp
 | true =>
  rw[h1]at hp;cases hp;obtain rfl:=Qk1 h1;exact Yl (E:=E3) mixed (bodies E2 no2) (fns E2 rfl) ac4 Tryz.sortL rfl Tryz.isAgg115 Tryz.sizeOf115 Qh (fun f hf=>(Qz2 (ac5.symm.trans hf)).symm) args B r hr
theorem ac1:iA Tryz.prog E1 sig:=by
 refine⟨Jw rfl rfl (fun h=>h),fun g p hp args B r hr => ?_⟩
 change (bif Nat.beq g 206 then some Bb else bif Nat.beq g 1100 then some (qK 11) else none)=some p at hp
 cases h1:Nat.beq g 206 with
 | true =>
  rw[h1]at hp;cases hp;obtain rfl:=Qk1 h1;exact Yt mixed (bodies E3 no3) (fns E3 rfl) ac6 (E:=E1) (fun h=>h) rfl args B r hr
 | false =>
  rw[h1]at hp;simp only[cond_false]at hp;cases h2:Nat.beq g 1100 with
  | true =>
   rw[h2]at hp;cases hp;obtain rfl:=Qk1 h2;exact O3 (E:=E1) rfl (fun h=>h) hr
  | false =>
   rw[h2]at hp;cases hp
theorem CY:Qm Tryz.prog:=⟨by kernel_rfl,by kernel_rfl,by kernel_rfl,by kernel_rfl,by kernel_rfl,by kernel_rfl,by kernel_rfl,by kernel_rfl,by kernel_rfl,by kernel_rfl,by kernel_rfl,by kernel_rfl,by kernel_rfl⟩
end Go.Proofs.YtkekcmgkpdkieaaGreatDoor
