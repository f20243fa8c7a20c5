/- The call, and its lifting to the row. -/
import Derived.Test.YtonmcbnjifeagaaGreatDoorSPrims
import Derived.Test.YtonmcbnjifeagaaGreatDoorCQ
import Derived.Test.YtonmcbnjifeagaaGreatDoorSAwake
import Derived.Test.YtonmcbnjifeagaaGreatDoorRows
import Derived.Test.YtonmcbnjifeagaaGreatDoorTie
import Derived.Test.YtonmcbnjifeagaaGreatDoorCards
import Derived.WalkKit
import Derived.ProofKit
import Derived.Handy
import Derived.Lay
import Derived.Carry
import Derived.SevenTiedAt
set_option linter.unusedVariables false
set_option linter.unusedSimpArgs false
namespace Go.Proofs.YtonmcbnjifeagaaGreatDoor
open Go.ChangeShapes Go.WideShapes Go.ChangeAt Go.RowKit Fi Fi.S
set_option maxRecDepth 1000000
theorem law4 (k v:Int)(hk:i64r k)(hv:i64r v)(W:World)(hL:laidMet Tryz.prog Rows.semiringStarSolvesRow.laid W) :
  Calls Tryz.prog 4 #[.int .i64 k,.int .i64 v] W fun e w'=>e=.returned (.bool true)/\Below W.heap.size W w':=by
 have ht : Lib.TabIs Tryz.prog W "internal/strconv.uint64pow10" .u64 Lib.pow10Tab :=
  tabIs_of_mem tab_at (by kernel_rfl) (t:=235) (e:=29) (n:=20) (by kernel_rfl) (by kernel_rfl) (by kernel_rfl) (by kernel_rfl) (List.mem_of_getElem? (i:=2) (by rfl)) hL
 obtain⟨hG,hI⟩:=globs_of_tab (E:=E1) (σ:=gid) tab_at ht glob_only;obtain⟨N,hN⟩:=ca_law4 (Ca.up1 awake_ca) k v hk hv;refine law_run (ds:=[.v (.int .i64 k),.v (.int .i64 v)]) mixed (bodies E1 no1) (fns E1 rfl) prims1 (hN N (Nat.le_refl _)) (f:=4) rfl hI rfl ?_ hG;intro i d x hd hx
 match i with
 | 0=>cases hd;cases hx;exact .v _
 | 1=>cases hd;cases hx;exact .v _
 | i+2=>cases hd
theorem lifted4 (os:Os)(started:os.Started)(H:Type)(enc:TypeId × Value->H) :
  ReturnsInHanded {} Tryz.checked os 4 .any (fun w args=>(Rows.semiringStarSolvesSpec.pre enc Tryz.prog Tryz.f4 [] false w args/\laidMetH Tryz.prog Rows.semiringStarSolvesRow.laid w)/\sizedMet enc Tryz.prog Tryz.f4 (OpenSpec.ofChange Rows.semiringStarSolvesSpec) false w args)
   (Rows.semiringStarSolvesSpec.post enc Tryz.prog Tryz.f4 false true false false):=by
 have hplain:∀ w,laidMetH Tryz.prog Rows.semiringStarSolvesRow.laid w=laidMet Tryz.prog Rows.semiringStarSolvesRow.laid w:=fun w=>MakeChecks.laidMetH_plain _ _ _ (by kernel_rfl)
 refine returnsInHanded_of_change_and (C:=Tryz.checked) (X:=fun w _=>laidMetH Tryz.prog Rows.semiringStarSolvesRow.laid w) (fun _ _ _ hh h=>h.of_heap hh) own started (by kernel_rfl) Tryz.func4
  (ChangeSpec.witness_shaped (enc:=enc) (C:=Tryz.checked) (os:=os) (X:=fun w _=>laidMetH Tryz.prog Rows.semiringStarSolvesRow.laid w) false (World.laidAll Tryz.prog os Rows.semiringStarSolvesRow.laid) #[.int .i64 0,.int .i64 0] 8 (World.laidAll_os _ _ _)
   (World.shaped_of_ZipB (by kernel_rfl) (by kernel_rfl)) (by kernel_rfl) (by kernel_rfl) (by kernel_rfl)
   (by rw[hplain];exact laidMet_laidAll _ (by kernel_rfl) (by kernel_rfl))) ?_
 intro W base args ds gs before hval0 hW _ _ hL _;have hval:∀ (j:Nat) t v,Tryz.f4.params[j]?=some t->args[j]?=some v->Value.okWide Tryz.prog W .any base t v:=hval0;have hW':=hW;obtain⟨p,q,hA0,hV,rfl,_,_⟩:=hW;have hA:DataW.TrodAll enc Tryz.prog W 0 (fun _=>true) true Tryz.f4.params.toList args.toList ds p:=hA0;rw[Tryz.params4]at hA hval;obtain⟨v0,vs0,d0,ds0,p0,q0,hargs,rfl,rfl,h0,r0⟩:=trodAll_cons hA;obtain⟨v1,vs1,d1,ds1,p1,q1,rfl,rfl,rfl,h1,r1⟩:=trodAll_cons r0;obtain⟨rfl,rfl,rfl⟩:=trodAll_nil r1;obtain rfl:args=#[v0,v1]:=by cases args;simp_all
 obtain⟨rfl,rfl⟩:=trodVars_none hV;obtain⟨a0,rfl,rfl,rfl,w0⟩:=open_int Tryz.underlying3 (hval 0 3 v0 rfl rfl) h0;obtain⟨a1,rfl,rfl,rfl,w1⟩:=open_int Tryz.underlying3 (hval 1 3 v1 rfl rfl) h1;clear hA0 hval0;simp only[List.append_nil]at hW';rw[hplain]at hL;refine(law4 a0 a1 (wf_i64 w0) (wf_i64 w1) W hL).mono fun e W' ⟨he,hb⟩ => ?_
 subst he;exact⟨_,rfl,_,_,_,[],[],[],hW',trodAll_mk1 (shut_bool Tryz.underlying4 _),(trodAll_cons_mk (shut_int Tryz.underlying3 w0) (trodAll_cons_mk (shut_int Tryz.underlying3 w1) trodAll_mk0)),rfl,hb.frame _,fun h=>by cases h⟩
end Go.Proofs.YtonmcbnjifeagaaGreatDoor
