/- The call, and its lifting to the row. -/
import Derived.Test.YtonmcbnjifeagaaGreatDoorSPrims
import Derived.Test.YtonmcbnjifeagaaGreatDoorCS
import Derived.Test.YtonmcbnjifeagaaGreatDoorSAwake
import Derived.Test.YtonmcbnjifeagaaGreatDoorRows
import Derived.Test.YtonmcbnjifeagaaGreatDoorTie
import Derived.Test.YtonmcbnjifeagaaGreatDoorCards
import Derived.WalkKit
import Derived.ProofKit
import Derived.Handy
import Derived.Lay
import Derived.Carry
import Derived.SevenTiedAt
set_option linter.unusedVariables false
set_option linter.unusedSimpArgs false
namespace Go.Proofs.YtonmcbnjifeagaaGreatDoor
open Go.ChangeShapes Go.WideShapes Go.ChangeAt Go.RowKit Fi Fi.S
set_option maxRecDepth 1000000
theorem laidOut:laidOutB Tryz.prog=true:=by kernel_rfl
theorem Jj {w:World}{ds:List D}{v:Value}(h:Rc gid (Here w) w ds v.cells.toList)(hn:1<ds.length):aV gid (Here w) w (.a ds) v:=by
 have hl:=h.1;cases v with
 | agg cs=>exact UY h
 | _=>simp[Value.cells]at hl;omega
theorem adA (k:Int)(ps:List Int)(v w:W)(hv:v.uZ)(hw:w.uZ)(W:World)(x0 x2 x3:Value)(h0:aV gid (Here W) W (aT k ps) x0)
  (h2:aV gid (Here W) W v.d x2) (h3:aV gid (Here W) W w.d x3) (hL:laidMet Tryz.prog Rows.semiringCalculatesRow.laid W) :
  Calls Tryz.prog 5 #[x0,x2,x3] W fun e w'=>e=.returned (.bool true)/\Below W.heap.size W w':=by
 have ht : Lib.TabIs Tryz.prog W "internal/strconv.uint64pow10" .u64 Lib.pow10Tab :=
  D6 Jk (by kernel_rfl) (t:=235) (e:=29) (n:=20) (by kernel_rfl) (by kernel_rfl) (by kernel_rfl) (by kernel_rfl) (List.mem_of_getElem? (i:=2) (by rfl)) hL
 obtain⟨hG,hI⟩:=D7 (E:=E1) (σ:=gid) Jk ht MX;obtain⟨N,hN⟩:=Ut (Ca.dO Rj) k ps v w hv hw;refine UX (ds:=[aT k ps,v.d,w.d]) mixed (bodies E1 no1) (fns E1 rfl) Ya (hN N (Nat.le_refl _)) (f:=5) rfl (I:=Here W) (fun b hb=>hb) rfl ?_ ?_
 ·intro i d x hd hx
  match i with
  | 0=>cases hd;cases hx;exact h0
  | 1=>cases hd;cases hx;exact h2
  | 2=>cases hd;cases hx;exact h3
  | i+3=>cases hd
 ·exact hG.mono hI (fun _ _=>rfl)
theorem U0 (os:Os)(started:os.Started)(H:Type)(enc:TypeId × Value->H) :
  ReturnsInHanded {} Tryz.checked os 5 .any (fun w args=>(Rows.semiringCalculatesSpec.pre enc Tryz.prog Tryz.f5 [] false w args/\laidMetH Tryz.prog Rows.semiringCalculatesRow.laid w)/\sizedMet enc Tryz.prog Tryz.f5 (OpenSpec.ofChange Rows.semiringCalculatesSpec) false w args)
   (Rows.semiringCalculatesSpec.post enc Tryz.prog Tryz.f5 false true false false):=by
 have hplain:∀ w,laidMetH Tryz.prog Rows.semiringCalculatesRow.laid w=laidMet Tryz.prog Rows.semiringCalculatesRow.laid w:=fun w=>MakeChecks.laidMetH_plain _ _ _ (by kernel_rfl)
 refine returnsInHanded_of_change_and (C:=Tryz.checked) (X:=fun w _=>laidMetH Tryz.prog Rows.semiringCalculatesRow.laid w) (fun _ _ _ hh h=>h.of_heap hh) own started (by kernel_rfl) Tryz.func5
  (ChangeSpec.witness_shaped (enc:=enc) (C:=Tryz.checked) (os:=os) (X:=fun w _=>laidMetH Tryz.prog Rows.semiringCalculatesRow.laid w) false (World.laidAll Tryz.prog os Rows.semiringCalculatesRow.laid) #[.agg #[.int .i64 0,.slice none 0 0],.agg #[.bool false,.slice none 0 0,.slice none 0 0,.int .i64 0,.bool false,.int .u64 0,.slice none 0 0,.slice none 0 0],.agg #[.bool false,.slice none 0 0,.slice none 0 0,.int .i64 0,.bool false,.int .u64 0,.slice none 0 0,.slice none 0 0]] 8 (World.laidAll_os _ _ _)
   (World.shaped_of_ZipB (by kernel_rfl) (by kernel_rfl)) (by kernel_rfl) (by kernel_rfl) (by kernel_rfl)
   (by rw[hplain];exact laidMet_laidAll _ (by kernel_rfl) (by kernel_rfl))) ?_
 intro W base args ds gs before hval0 hW _ _ hL _;have hW':=hW;obtain⟨p,q,Ig,hV,rfl,_,_⟩:=hW;have hA:DataW.TrodAll enc Tryz.prog W 0 (fun _=>true) true Tryz.f5.params.toList args.toList ds p:=Ig;rw[Tryz.params5]at hA;obtain⟨v0,vs0,d0,ds0,p0,q0,hargs,rfl,rfl,t0,r0⟩:=trodAll_cons hA;obtain⟨v2,vs2,d2,ds2,p2,q2,rfl,rfl,rfl,t2,r2⟩:=trodAll_cons r0;obtain⟨v3,vs3,d3,ds3,p3,q3,rfl,rfl,rfl,t3,r3⟩:=trodAll_cons r2;obtain⟨rfl,rfl,rfl⟩:=trodAll_nil r3;obtain rfl:args=#[v0,v2,v3]:=by cases args;simp_all
 obtain⟨rfl,rfl⟩:=trodVars_none hV;clear Ig hval0;simp only[List.append_nil]at hW';rw[hplain]at hL;obtain⟨n0,g0⟩:=t0;obtain⟨n2,g2⟩:=t2;obtain⟨n3,g3⟩:=t3;obtain⟨k,ps,_,_,c0⟩:=K4 (σ:=gid) zO g0;obtain⟨v,hv,c2⟩:=v_ (σ:=gid) zO n2 g2;obtain⟨w,hw,c3⟩:=v_ (σ:=gid) zO n3 g3;have b0:=Jj c0 (by simp);have b2:aV gid (Here W) W v.d v2:=by
  obtain⟨s,a,b,c,i,u,p,pp⟩:=v;exact Jj c2 (by simp[Fi.S.W.d,D.cells])
 have b3:aV gid (Here W) W w.d v3:=by
  obtain⟨s,a,b,c,i,u,p,pp⟩:=w;exact Jj c3 (by simp[Fi.S.W.d,D.cells])
 refine(adA k ps v w hv hw W v0 v2 v3 b0 b2 b3 hL).mono fun e W' ⟨he,hb⟩ => ?_
 subst he;have l0:∀ x ∈ p0,x.block<W.heap.size:=fun x hx=>hW'.lt x (by simp[hx])
 have l2:∀ x ∈ p2,x.block<W.heap.size:=fun x hx=>hW'.lt x (by simp[hx])
 have l3:∀ x ∈ p3,x.block<W.heap.size:=fun x hx=>hW'.lt x (by simp[hx])
 have k0:=Below.trod laidOut (by kernel_rfl) (of_decide_eq_true (by kernel_rfl)) ⟨n0,g0⟩ hb l0;have k2:=Below.trod laidOut (by kernel_rfl) (of_decide_eq_true (by kernel_rfl)) ⟨n2,g2⟩ hb l2;have k3:=Below.trod laidOut (by kernel_rfl) (of_decide_eq_true (by kernel_rfl)) ⟨n3,g3⟩ hb l3;exact⟨_,rfl,_,_,_,[],_,[],hW',trodAll_mk1 (shut_bool Tryz.underlying4 _),(trodAll_cons_mk k0 (trodAll_cons_mk k2 (trodAll_cons_mk k3 trodAll_mk0))),rfl,hb.frame _,fun h=>by cases h⟩
end Go.Proofs.YtonmcbnjifeagaaGreatDoor
