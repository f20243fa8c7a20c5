/- The functions that are given. -/
import Derived.Test.YtonmcbnjifeagaaGreatDoorSChk
import Derived.Test.YtonmcbnjifeagaaGreatDoorCH
import Derived.Test.YtonmcbnjifeagaaGreatDoorCF
import Derived.Test.YtonmcbnjifeagaaGreatDoorShelf
import Derived.Test.YtonmcbnjifeagaaGreatDoorShelf2
import Derived.WalkKit
import Derived.ProofKit
import Derived.Handy
import Derived.Lay
import Derived.SevenTiedAt
set_option linter.unusedVariables false
set_option linter.unusedSimpArgs false
namespace Go.Proofs.YtonmcbnjifeagaaGreatDoor
open Go.ChangeShapes Go.WideShapes Go.ChangeAt Go.RowKit Fi Fi.S
set_option maxRecDepth 1000000
theorem own:ownKnob Tryz.prog.godebug=none:=by kernel_rfl
theorem tab_at : Tryz.prog.globalNamed "internal/strconv.uint64pow10" = some 3 := by kernel_rfl
theorem prims_of {E:Env}(hE:E.prim=prim0)(hG:E.glob=glob)(hmn:¬ E.mn):∀ g p,E.prim g=some p->∀ args ds v,allD args=some ds->p ds=some v->CallOK Tryz.prog E gid g args [] (.d v,none):=by
 intro g p hp args ds v ha hv;rw[hE]at hp;unfold prim0 at hp;cases h1:Nat.beq g 76 with
 | true =>
  rw[h1]at hp;cases hp;obtain rfl:=Nat.eq_of_beq_eq_true h1;refine join_ok Tryz.lays156 Tryz.Builder_Extra_156 hmn (fun f hf => ?_) args ds v ha hv;obtain⟨rfl,_⟩:=sg_some hf
  kernel_rfl
 | false =>
  rw[h1]at hp;simp only[cond_false]at hp;cases h2:Nat.beq g 129 with
  | true =>
   rw[h2]at hp;cases hp;obtain rfl:=Nat.eq_of_beq_eq_true h2;refine itoa_ok Tryz.laysM171 tab_at (by rw[hG];rfl) (fun f hf => ?_) args ds v ha hv;obtain⟨rfl,_⟩:=sg_some hf
   kernel_rfl
  | false =>
   rw[h2]at hp;cases hp
theorem no2:noneGiven E2 no=true:=by kernel_rfl
theorem no3:noneGiven E3 no=true:=by kernel_rfl
theorem no1:noneGiven E1 no=true:=by kernel_rfl
theorem enters257:∀ args w,(callFunc 257 args).run Tryz.prog w=.ok (.enter 257 args) w:=enters_of Tryz.func257 (by kernel_rfl) rfl
theorem prims3:PrimsOK Tryz.prog E3 gid:=by
 refine⟨prims_of rfl rfl (fun h=>h),fun g p hp args B r hr => ?_⟩
 change (bif Nat.beq g 256 then some (sortP 257) else none)=some p at hp
 cases h1:Nat.beq g 256 with
 | false=>rw[h1]at hp;cases hp
 | true =>
  rw[h1]at hp;cases hp;obtain rfl:=Nat.eq_of_beq_eq_true h1;exact sort_ok (E:=E3) mixed (bodies E2 no2) (fns E2 rfl) rfl Tryz.sortL rfl Tryz.isAgg86 Tryz.sizeOf86 enters257 (fun f hf=>(sg_some hf).1) args B r hr
theorem prims1:PrimsOK Tryz.prog E1 gid:=by
 refine⟨prims_of rfl rfl (fun h=>h),fun g p hp args B r hr => ?_⟩
 change (bif Nat.beq g 206 then some listP else none)=some p at hp
 cases h1:Nat.beq g 206 with
 | false=>rw[h1]at hp;cases hp
 | true =>
  rw[h1]at hp;cases hp;obtain rfl:=Nat.eq_of_beq_eq_true h1;exact list_ok mixed (bodies E3 no3) (fns E3 rfl) prims3 (E:=E1) (fun h=>h) rfl args B r hr
theorem glob_only:∀ j y,E1.glob j=some y->j=3/\y=.a (Lib.pow10Tab.map fun z=>.v (.int .u64 z)):=by
 intro j y h
 change glob j=some y at h
 unfold glob at h;cases h1:Nat.beq j 3 with
 | true=>rw[h1]at h;cases h;exact⟨Nat.eq_of_beq_eq_true h1,rfl⟩
 | false=>rw[h1]at h;cases h
theorem tys:Tys Tryz.prog:=⟨by kernel_rfl,by kernel_rfl,by kernel_rfl,by kernel_rfl,by kernel_rfl,by kernel_rfl,by kernel_rfl,by kernel_rfl,by kernel_rfl,by kernel_rfl,by kernel_rfl,by kernel_rfl,by kernel_rfl⟩
end Go.Proofs.YtonmcbnjifeagaaGreatDoor
