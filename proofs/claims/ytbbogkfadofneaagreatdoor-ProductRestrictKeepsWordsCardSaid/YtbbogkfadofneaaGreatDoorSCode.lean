import Derived.Test.YtbbogkfadofneaaGreatDoorSCodeA
import Derived.Test.YtbbogkfadofneaaGreatDoorSCodeB
import Derived.Test.YtbbogkfadofneaaGreatDoorSCodeC
import Derived.Test.YtbbogkfadofneaaGreatDoorSCodeD
namespace Fi.S
open Go Fi Go.Proofs
set_option maxHeartbeats 8000000
set_option maxRecDepth 1000000

theorem nodup:nodupB tab=true:=by kernel_rfl
theorem wZ:vO tab twins no=true:=by kernel_rfl
theorem aba:∀ (l:List (Nat × List Nat)),(l.all fun p=>p.2.all fun y=>twins.any (Nat.beq y))=true->∀ g,((yl l g).all fun y=>twins.any (Nat.beq y))=true
 | [],_,_=>rfl
 | c::r,h,g=>by
  simp only[X42,Qb1]at h;unfold yl;cases Nat.beq g c.1
  ·exact aba r h.2 g
  ·exact h.1
theorem NA {c:Bool}{A B:Option bK}{F:bK}{Q:Prop}(hA:A=some F->Q)(hB:B=some F->Q):(bif c then A else B)=some F->Q:=by
 cases c
 ·exact hB
 ·exact hA
@[irreducible] def fn (g:Nat):Option bK:=bif Nat.blt g 83 then look Xl g else(bif Nat.blt g 182 then look Xm g else(bif Nat.blt g 1102 then look Xn g else(look Xo g)))
theorem ahd {g:Nat}{F:bK}(h:fn g=some F):Xp g=some F:=by
 unfold fn at h;exact(NA (fun h=>look_ok ajy h) (fun h=>(NA (fun h=>look_ok ajz h) (fun h=>(NA (fun h=>look_ok ajA h) (fun h=>look_ok ajB h) h)) h)) h)
theorem fns (E:Env)(hE:E.fn=fn):mU Tryz.prog E sig:=by
 intro g F h f hf;rw[hE]at h;replace h:=ahd h;unfold Xp at h;rw[hf]at h;simp only at h;split at h
 ·rename_i fn hF;unfold ad4 at h;split at h
  ·exact⟨_,_,hF,h,fun f' g' h'=>KC nodup wZ (aba yls (by kernel_rfl) _) h'⟩
  ·cases h
 ·cases h
theorem aM (g:Nat)(f:bK)(h:fn g=some f:=by kernel_rfl):fn g=some f:=h
abbrev k12:=aM 12 f12
abbrev k14:=aM 14 f14
abbrev k16:=aM 16 f16
abbrev k18:=aM 18 f18
abbrev k19:=aM 19 f19
abbrev k21:=aM 21 f21
abbrev k29:=aM 29 f29
abbrev k35:=aM 35 f35
abbrev k40:=aM 40 f40
abbrev k45:=aM 45 f45
abbrev k53:=aM 53 f53
abbrev k54:=aM 54 f54
abbrev k66:=aM 66 f66
abbrev k68:=aM 68 f68
abbrev k70:=aM 70 f70
abbrev k73:=aM 73 f73
abbrev k74:=aM 74 f74
abbrev k78:=aM 78 f78
abbrev k84:=aM 84 f84
abbrev k89:=aM 89 f89
abbrev k91:=aM 91 f91
abbrev k97:=aM 97 f97
abbrev k99:=aM 99 f99
abbrev k100:=aM 100 f100
abbrev k109:=aM 109 f109
abbrev k133:=aM 133 f133
abbrev k150:=aM 150 f150
abbrev k181:=aM 181 f181
abbrev k186:=aM 186 f186
abbrev k187:=aM 187 f187
abbrev k203:=aM 203 f203
abbrev k204:=aM 204 f204
abbrev k207:=aM 207 f207
abbrev k226:=aM 226 f226
abbrev k231:=aM 231 f231
abbrev k255:=aM 255 f255
abbrev k258:=aM 258 f258
abbrev k282:=aM 282 f282
abbrev k1018:=aM 1018 f1018
abbrev k1020:=aM 1020 f1020
abbrev k1054:=aM 1054 f1054
abbrev k1064:=aM 1064 f1064
abbrev k1075:=aM 1075 f1075
abbrev k1101:=aM 1101 f1101
abbrev k1102:=aM 1102 f1102
abbrev k1105:=aM 1105 f1105
abbrev k1138:=aM 1138 f1138
abbrev k1139:=aM 1139 f1139
abbrev k1208:=aM 1208 f1208
abbrev k1534:=aM 1534 f1534
abbrev k3537:=aM 3537 f3537
theorem z206:fn 206=none:=by kernel_rfl
theorem afe:fn 256=none:=by kernel_rfl
theorem aaR:fn 1100=none:=by kernel_rfl
end Fi.S
