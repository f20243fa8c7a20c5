import Derived.Test.YtgngjdakilfmoaaGreatDoorCV
import Derived.Test.YtgngjdakilfmoaaGreatDoorCF
import Derived.Test.YtgngjdakilfmoaaGreatDoorShelf2
import Derived.WalkKit
import Derived.ProofKit
import Derived.Handy
import Derived.Lay
import Derived.SevenTiedAt
set_option linter.unusedVariables false
set_option linter.unusedSimpArgs false
namespace Go.Proofs.YtgngjdakilfmoaaGreatDoor
open Go.ChangeShapes Go.WideShapes Go.ChangeAt Go.RowKit Fi Fi.S
set_option maxRecDepth 1000000
theorem own:ownKnob Tryz.prog.godebug=none:=by kernel_rfl
theorem LV {E:Env}(hE:E.jq=ve)(hG:E.eG=eG)(Xd:¬ E.mn):∀ g p,E.jq g=some p->∀ args ds v,jN args=some ds->p ds=some v->iV Tryz.prog E sig g args [] (.d v,none):=by
 intro g p hp args ds v ha hv;rw[hE]at hp;unfold ve at hp;cases h1:Nat.beq g 1098 with
 | true =>
  rw[h1]at hp;cases hp;obtain rfl:=Ql0 h1;exact RZ (by rw[hG];rfl) Xd ha hv
 | false =>
  rw[h1]at hp;cases hp
theorem no2:kU E2 no=true:=by kernel_rfl
theorem no3:kU E3 no=true:=by kernel_rfl
theorem no1:kU E1 no=true:=by kernel_rfl
theorem Tu:∀ args w,(callFunc 294 args).run Tryz.prog w=.ok (.enter 294 args) w:=enters_of Tryz.func294 (by kernel_rfl) rfl
theorem afR:sig 257=some 294:=by kernel_rfl
theorem afS:sig 256=some 293:=by kernel_rfl
theorem afT:ja Tryz.prog E3 sig:=by
 refine⟨LV rfl rfl (fun h=>h),fun g p hp args B r hr => ?_⟩
 change (bif Nat.beq g 256 then some (C_ 257) else none)=some p at hp
 cases h1:Nat.beq g 256 with
 | false=>rw[h1]at hp;cases hp
 | true =>
  rw[h1]at hp;cases hp;obtain rfl:=Ql0 h1;exact abg (E:=E3) mixed (bodies E2 no2) (fns E2 rfl) afR Tryz.sortL rfl Tryz.isAgg107 Tryz.sizeOf107 Tu (fun f hf=>(Qy0 (afS.symm.trans hf)).symm) args B r hr
theorem afO:ja Tryz.prog E1 sig:=by
 refine⟨LV rfl rfl (fun h=>h),fun g p hp args B r hr => ?_⟩
 change (bif Nat.beq g 206 then some Dc else bif Nat.beq g 1100 then some (r_ 11) else none)=some p at hp
 cases h1:Nat.beq g 206 with
 | true =>
  rw[h1]at hp;cases hp;obtain rfl:=Ql0 h1;exact abo mixed (bodies E3 no3) (fns E3 rfl) afT (E:=E1) (fun h=>h) rfl args B r hr
 | false =>
  rw[h1]at hp;simp only[cond_false]at hp;cases h2:Nat.beq g 1100 with
  | true =>
   rw[h2]at hp;cases hp;obtain rfl:=Ql0 h2;exact R3 (E:=E1) rfl (fun h=>h) hr
  | false =>
   rw[h2]at hp;cases hp
theorem yg:Tys Tryz.prog:=⟨by kernel_rfl,by kernel_rfl,by kernel_rfl,by kernel_rfl,by kernel_rfl,by kernel_rfl,by kernel_rfl,by kernel_rfl,by kernel_rfl,by kernel_rfl,by kernel_rfl,by kernel_rfl,by kernel_rfl⟩
end Go.Proofs.YtgngjdakilfmoaaGreatDoor
