import Derived.Test.YthojoinggmjklaaGreatDoorCV
import Derived.Test.YthojoinggmjklaaGreatDoorCF
import Derived.Test.YthojoinggmjklaaGreatDoorShelf2
import Derived.WalkKit
import Derived.ProofKit
import Derived.Handy
import Derived.Lay
import Derived.SevenTiedAt
set_option linter.unusedVariables false
set_option linter.unusedSimpArgs false
namespace Go.Proofs.YthojoinggmjklaaGreatDoor
open Go.ChangeShapes Go.WideShapes Go.ChangeAt Go.RowKit Fi Fi.S
set_option maxRecDepth 1000000
theorem own:ownKnob Tryz.prog.godebug=none:=by kernel_rfl
theorem Hw {E:Env}(hE:E.iF=xk)(hG:E.dO=dO)(RA:¬ E.mn):∀ g p,E.iF g=some p->∀ args ds v,ku args=some ds->p ds=some v->gG Tryz.prog E sig g args [] (.d v,none):=by
 intro g p hp args ds v ha hv;rw[hE]at hp;unfold xk at hp;cases h1:Nat.beq g 1098 with
 | true =>
  rw[h1]at hp;cases hp;obtain rfl:=Nat.eq_of_beq_eq_true h1;exact M4 (by rw[hG];rfl) RA ha hv
 | false =>
  rw[h1]at hp;cases hp
theorem no2:jG E2 no=true:=by kernel_rfl
theorem no3:jG E3 no=true:=by kernel_rfl
theorem no1:jG E1 no=true:=by kernel_rfl
theorem NW:∀ args w,(callFunc 261 args).run Tryz.prog w=.ok (.enter 261 args) w:=enters_of Tryz.func261 (by kernel_rfl) rfl
theorem aah:sig 257=some 261:=by kernel_rfl
theorem aai:sig 256=some 260:=by kernel_rfl
theorem aaj:gQ Tryz.prog E3 sig:=by
 refine⟨Hw rfl rfl (fun h=>h),fun g p hp args B r hr => ?_⟩
 change (bif Nat.beq g 256 then some (zR 257) else none)=some p at hp
 cases h1:Nat.beq g 256 with
 | false=>rw[h1]at hp;cases hp
 | true =>
  rw[h1]at hp;cases hp;obtain rfl:=Nat.eq_of_beq_eq_true h1;exact VH (E:=E3) mixed (bodies E2 no2) (fns E2 rfl) aah Tryz.sortL rfl Tryz.isAgg61 Tryz.sizeOf61 NW (fun f hf=>(Option.some.inj (aai.symm.trans hf)).symm) args B r hr
theorem aaf:gQ Tryz.prog E1 sig:=by
 refine⟨Hw rfl rfl (fun h=>h),fun g p hp args B r hr => ?_⟩
 change (bif Nat.beq g 206 then some zV else bif Nat.beq g 1100 then some (o8 11) else none)=some p at hp
 cases h1:Nat.beq g 206 with
 | true =>
  rw[h1]at hp;cases hp;obtain rfl:=Nat.eq_of_beq_eq_true h1;exact VO mixed (bodies E3 no3) (fns E3 rfl) aaj (E:=E1) (fun h=>h) rfl args B r hr
 | false =>
  rw[h1]at hp;simp only[cond_false]at hp;cases h2:Nat.beq g 1100 with
  | true =>
   rw[h2]at hp;cases hp;obtain rfl:=Nat.eq_of_beq_eq_true h2;exact M5 (E:=E1) rfl (fun h=>h) hr
  | false =>
   rw[h2]at hp;cases hp
theorem yO:N9 Tryz.prog:=⟨by kernel_rfl,by kernel_rfl,by kernel_rfl,by kernel_rfl,by kernel_rfl,by kernel_rfl,by kernel_rfl,by kernel_rfl,by kernel_rfl,by kernel_rfl,by kernel_rfl,by kernel_rfl,by kernel_rfl⟩
end Go.Proofs.YthojoinggmjklaaGreatDoor
