import Derived.Test.YtgngjdakilfmoaaGreatDoorSCodeA
import Derived.Test.YtgngjdakilfmoaaGreatDoorSCodeB
import Derived.Test.YtgngjdakilfmoaaGreatDoorSCodeC
import Derived.Test.YtgngjdakilfmoaaGreatDoorSCodeD
namespace Fi.S
open Go Fi Go.Proofs
set_option maxHeartbeats 8000000
set_option maxRecDepth 1000000

theorem nodup:nodupB tab=true:=by kernel_rfl
theorem xO:EL tab twins no=true:=by kernel_rfl
theorem ac6:∀ (l:List (Nat × List Nat)),(l.all fun p=>p.2.all fun y=>twins.any (Nat.beq y))=true->∀ g,((yl l g).all fun y=>twins.any (Nat.beq y))=true
 | [],_,_=>rfl
 | c::r,h,g=>by
  simp only[List.all_cons,Qd0]at h;unfold yl;cases Nat.beq g c.1
  ·exact ac6 r h.2 g
  ·exact h.1
theorem OT {c:Bool}{A B:Option bO}{F:bO}{Q:Prop}(hA:A=some F->Q)(hB:B=some F->Q):(bif c then A else B)=some F->Q:=by
 cases c
 ·exact hB
 ·exact hA
@[irreducible] def fn (g:Nat):Option bO:=bif Nat.blt g 78 then look YQ g else(bif Nat.blt g 163 then look YR g else(bif Nat.blt g 1070 then look YS g else(look YT g)))
theorem ai' {g:Nat}{F:bO}(h:fn g=some F):YU g=some F:=by
 unfold fn at h;exact(OT (fun h=>look_ok alx h) (fun h=>(OT (fun h=>look_ok aly h) (fun h=>(OT (fun h=>look_ok alz h) (fun h=>look_ok alA h) h)) h)) h)
theorem fns (E:Env)(hE:E.fn=fn):nL Tryz.prog E sig:=by
 intro g F h f hf;rw[hE]at h;replace h:=ai' h;unfold YU at h;rw[hf]at h;simp only at h;split at h
 ·rename_i fn hF;unfold afQ at h;split at h
  ·exact⟨_,_,hF,h,fun f' g' h'=>aja nodup xO (ac6 yls (by kernel_rfl) _) h'⟩
  ·cases h
 ·cases h
theorem aO (g:Nat)(f:bO)(h:fn g=some f:=by kernel_rfl):fn g=some f:=h
abbrev k12:=aO 12 f12
abbrev k16:=aO 16 f16
abbrev k18:=aO 18 f18
abbrev k19:=aO 19 f19
abbrev k21:=aO 21 f21
abbrev k25:=aO 25 f25
abbrev k29:=aO 29 f29
abbrev k40:=aO 40 f40
abbrev k54:=aO 54 f54
abbrev k66:=aO 66 f66
abbrev k68:=aO 68 f68
abbrev k73:=aO 73 f73
abbrev k74:=aO 74 f74
abbrev k78:=aO 78 f78
abbrev k89:=aO 89 f89
abbrev k91:=aO 91 f91
abbrev k97:=aO 97 f97
abbrev k99:=aO 99 f99
abbrev k100:=aO 100 f100
abbrev k101:=aO 101 f101
abbrev k109:=aO 109 f109
abbrev k133:=aO 133 f133
abbrev k150:=aO 150 f150
abbrev k181:=aO 181 f181
abbrev k186:=aO 186 f186
abbrev k187:=aO 187 f187
abbrev k203:=aO 203 f203
abbrev k204:=aO 204 f204
abbrev k226:=aO 226 f226
abbrev k231:=aO 231 f231
abbrev k255:=aO 255 f255
abbrev k282:=aO 282 f282
abbrev k1028:=aO 1028 f1028
abbrev k1064:=aO 1064 f1064
abbrev k1075:=aO 1075 f1075
abbrev k1090:=aO 1090 f1090
abbrev k1101:=aO 1101 f1101
abbrev k1102:=aO 1102 f1102
abbrev k1105:=aO 1105 f1105
abbrev k1138:=aO 1138 f1138
abbrev k1139:=aO 1139 f1139
abbrev k1208:=aO 1208 f1208
abbrev k1717:=aO 1717 f1717
theorem z206:fn 206=none:=by kernel_rfl
theorem ag8:fn 256=none:=by kernel_rfl
theorem acC:fn 1100=none:=by kernel_rfl
end Fi.S
