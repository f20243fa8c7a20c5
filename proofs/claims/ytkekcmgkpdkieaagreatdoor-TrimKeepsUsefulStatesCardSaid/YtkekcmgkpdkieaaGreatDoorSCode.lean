import Derived.Test.YtkekcmgkpdkieaaGreatDoorSCodeA
import Derived.Test.YtkekcmgkpdkieaaGreatDoorSCodeB
import Derived.Test.YtkekcmgkpdkieaaGreatDoorSCodeC
import Derived.Test.YtkekcmgkpdkieaaGreatDoorSCodeD
namespace Fi.S
open Go Fi Go.Proofs
set_option maxHeartbeats 8000000
set_option maxRecDepth 1000000

theorem nodup:nodupB tab=true:=by kernel_rfl
theorem wh:uW tab twins no=true:=by kernel_rfl
theorem aag:∀ (l:List (Nat × List Nat)),(l.all fun p=>p.2.all fun y=>twins.any (Nat.beq y))=true->∀ g,((yl l g).all fun y=>twins.any (Nat.beq y))=true
 | [],_,_=>rfl
 | c::r,h,g=>by
  simp only[Xy2,Qa2]at h;unfold yl;cases Nat.beq g c.1
  ·exact aag r h.2 g
  ·exact h.1
theorem LY {c:Bool}{A B:Option bI}{F:bI}{Q:Prop}(hA:A=some F->Q)(hB:B=some F->Q):(bif c then A else B)=some F->Q:=by
 cases c
 ·exact hB
 ·exact hA
@[irreducible] def fn (g:Nat):Option bI:=bif Nat.blt g 87 then look VF g else(bif Nat.blt g 173 then look VG g else(bif Nat.blt g 1065 then look VH g else(look VI g)))
theorem agk {g:Nat}{F:bI}(h:fn g=some F):VJ g=some F:=by
 unfold fn at h;exact(LY (fun h=>look_ok ah0 h) (fun h=>(LY (fun h=>look_ok ah1 h) (fun h=>(LY (fun h=>look_ok ah2 h) (fun h=>look_ok ah3 h) h)) h)) h)
theorem fns (E:Env)(hE:E.fn=fn):mi Tryz.prog E sig:=by
 intro g F h f hf;rw[hE]at h;replace h:=agk h;unfold VJ at h;rw[hf]at h;simp only at h;split at h
 ·rename_i fn hF;unfold ac3 at h;split at h
  ·exact⟨_,_,hF,h,fun f' g' h'=>Jt nodup wh (aag yls (by kernel_rfl) _) h'⟩
  ·cases h
 ·cases h
theorem aN (g:Nat)(f:bI)(h:fn g=some f:=by kernel_rfl):fn g=some f:=h
abbrev k12:=aN 12 f12
abbrev k14:=aN 14 f14
abbrev k18:=aN 18 f18
abbrev k19:=aN 19 f19
abbrev k29:=aN 29 f29
abbrev k33:=aN 33 f33
abbrev k35:=aN 35 f35
abbrev k40:=aN 40 f40
abbrev k45:=aN 45 f45
abbrev k53:=aN 53 f53
abbrev k54:=aN 54 f54
abbrev k59:=aN 59 f59
abbrev k66:=aN 66 f66
abbrev k68:=aN 68 f68
abbrev k70:=aN 70 f70
abbrev k73:=aN 73 f73
abbrev k74:=aN 74 f74
abbrev k78:=aN 78 f78
abbrev k84:=aN 84 f84
abbrev k89:=aN 89 f89
abbrev k91:=aN 91 f91
abbrev k97:=aN 97 f97
abbrev k99:=aN 99 f99
abbrev k100:=aN 100 f100
abbrev k109:=aN 109 f109
abbrev k133:=aN 133 f133
abbrev k150:=aN 150 f150
abbrev k181:=aN 181 f181
abbrev k186:=aN 186 f186
abbrev k187:=aN 187 f187
abbrev k203:=aN 203 f203
abbrev k204:=aN 204 f204
abbrev k207:=aN 207 f207
abbrev k226:=aN 226 f226
abbrev k231:=aN 231 f231
abbrev k255:=aN 255 f255
abbrev k258:=aN 258 f258
abbrev k282:=aN 282 f282
abbrev k1014:=aN 1014 f1014
abbrev k1020:=aN 1020 f1020
abbrev k1023:=aN 1023 f1023
abbrev k1024:=aN 1024 f1024
abbrev k1046:=aN 1046 f1046
abbrev k1054:=aN 1054 f1054
abbrev k1061:=aN 1061 f1061
abbrev k1064:=aN 1064 f1064
abbrev k1074:=aN 1074 f1074
abbrev k1101:=aN 1101 f1101
abbrev k1102:=aN 1102 f1102
abbrev k1105:=aN 1105 f1105
abbrev k1138:=aN 1138 f1138
abbrev k1139:=aN 1139 f1139
abbrev k1208:=aN 1208 f1208
abbrev k1501:=aN 1501 f1501
abbrev k1505:=aN 1505 f1505
abbrev k1506:=aN 1506 f1506
abbrev k1510:=aN 1510 f1510
abbrev k1520:=aN 1520 f1520
abbrev k1521:=aN 1521 f1521
abbrev k1526:=aN 1526 f1526
theorem z206:fn 206=none:=by kernel_rfl
theorem ael:fn 256=none:=by kernel_rfl
theorem ZN:fn 1100=none:=by kernel_rfl
end Fi.S
