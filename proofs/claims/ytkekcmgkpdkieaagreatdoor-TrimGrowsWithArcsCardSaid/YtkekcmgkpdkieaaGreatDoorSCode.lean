import Derived.Test.YtkekcmgkpdkieaaGreatDoorSCodeA
import Derived.Test.YtkekcmgkpdkieaaGreatDoorSCodeB
import Derived.Test.YtkekcmgkpdkieaaGreatDoorSCodeC
import Derived.Test.YtkekcmgkpdkieaaGreatDoorSCodeD
set_option linter.unusedVariables false
set_option linter.unusedSimpArgs false
namespace Fi.S
open Go Fi Go.Proofs
set_option maxHeartbeats 8000000
set_option maxRecDepth 1000000

theorem nodup:nodupB tab=true:=by kernel_rfl
theorem xw:wh tab twins no=true:=by kernel_rfl
theorem abd:∀ (l:List (Nat × List Nat)),(l.all fun p=>p.2.all fun y=>twins.any (Nat.beq y))=true->∀ g,((yl l g).all fun y=>twins.any (Nat.beq y))=true
 | [],_,_=>rfl
 | c::r,h,g=>by
  simp only[List.all_cons,Qc0]at h;unfold yl;cases Nat.beq g c.1
  ·exact abd r h.2 g
  ·exact h.1
theorem NS {c:Bool}{A B:Option ai}{F:ai}{Q:Prop}(hA:A=some F->Q)(hB:B=some F->Q):(bif c then A else B)=some F->Q:=by
 cases c
 ·exact hB
 ·exact hA
@[irreducible] def fn (g:Nat):Option ai:=bif Nat.blt g 77 then look Xh g else(bif Nat.blt g 149 then look Xi g else(bif Nat.blt g 1024 then look Xj g else(look Xk g)))
theorem ag8 {g:Nat}{F:ai}(h:fn g=some F):Xl g=some F:=by
 unfold fn at h;exact(NS (fun h=>look_ok aju h) (fun h=>(NS (fun h=>look_ok ajv h) (fun h=>(NS (fun h=>look_ok ajw h) (fun h=>look_ok ajx h) h)) h)) h)
theorem fns (E:Env)(hE:E.fn=fn):mP Tryz.prog E sig:=by
 intro g F h f hf;rw[hE]at h;replace h:=ag8 h;unfold Xl at h;rw[hf]at h;simp only at h;split at h
 ·rename_i fn hF;unfold aF at h;split at h
  ·exact⟨_,_,hF,h,fun f' g' h'=>KP nodup xw (abd yls (by kernel_rfl) _) h'⟩
  ·cases h
 ·cases h
theorem k12:fn 12=some f12:=by kernel_rfl
theorem k14:fn 14=some f14:=by kernel_rfl
theorem k16:fn 16=some f16:=by kernel_rfl
theorem k18:fn 18=some f18:=by kernel_rfl
theorem k19:fn 19=some f19:=by kernel_rfl
theorem k28:fn 28=some f28:=by kernel_rfl
theorem k29:fn 29=some f29:=by kernel_rfl
theorem k31:fn 31=some f31:=by kernel_rfl
theorem k34:fn 34=some f34:=by kernel_rfl
theorem k35:fn 35=some f35:=by kernel_rfl
theorem k38:fn 38=some f38:=by kernel_rfl
theorem k39:fn 39=some f39:=by kernel_rfl
theorem k40:fn 40=some f40:=by kernel_rfl
theorem k41:fn 41=some f41:=by kernel_rfl
theorem k43:fn 43=some f43:=by kernel_rfl
theorem k45:fn 45=some f45:=by kernel_rfl
theorem k46:fn 46=some f46:=by kernel_rfl
theorem k47:fn 47=some f47:=by kernel_rfl
theorem k48:fn 48=some f48:=by kernel_rfl
theorem k49:fn 49=some f49:=by kernel_rfl
theorem k50:fn 50=some f50:=by kernel_rfl
theorem k51:fn 51=some f51:=by kernel_rfl
theorem k53:fn 53=some f53:=by kernel_rfl
theorem k54:fn 54=some f54:=by kernel_rfl
theorem k55:fn 55=some f55:=by kernel_rfl
theorem k56:fn 56=some f56:=by kernel_rfl
theorem k57:fn 57=some f57:=by kernel_rfl
theorem k58:fn 58=some f58:=by kernel_rfl
theorem k62:fn 62=some f62:=by kernel_rfl
theorem k66:fn 66=some f66:=by kernel_rfl
theorem k67:fn 67=some f67:=by kernel_rfl
theorem k68:fn 68=some f68:=by kernel_rfl
theorem k69:fn 69=some f69:=by kernel_rfl
theorem k70:fn 70=some f70:=by kernel_rfl
theorem k71:fn 71=some f71:=by kernel_rfl
theorem k72:fn 72=some f72:=by kernel_rfl
theorem k73:fn 73=some f73:=by kernel_rfl
theorem k74:fn 74=some f74:=by kernel_rfl
theorem k77:fn 77=some f77:=by kernel_rfl
theorem k78:fn 78=some f78:=by kernel_rfl
theorem k79:fn 79=some f79:=by kernel_rfl
theorem k84:fn 84=some f84:=by kernel_rfl
theorem k85:fn 85=some f85:=by kernel_rfl
theorem k86:fn 86=some f86:=by kernel_rfl
theorem k87:fn 87=some f87:=by kernel_rfl
theorem k88:fn 88=some f88:=by kernel_rfl
theorem k89:fn 89=some f89:=by kernel_rfl
theorem k90:fn 90=some f90:=by kernel_rfl
theorem k91:fn 91=some f91:=by kernel_rfl
theorem k92:fn 92=some f92:=by kernel_rfl
theorem k93:fn 93=some f93:=by kernel_rfl
theorem k95:fn 95=some f95:=by kernel_rfl
theorem k97:fn 97=some f97:=by kernel_rfl
theorem k98:fn 98=some f98:=by kernel_rfl
theorem k99:fn 99=some f99:=by kernel_rfl
theorem k100:fn 100=some f100:=by kernel_rfl
theorem k101:fn 101=some f101:=by kernel_rfl
theorem k106:fn 106=some f106:=by kernel_rfl
theorem k107:fn 107=some f107:=by kernel_rfl
theorem k108:fn 108=some f108:=by kernel_rfl
theorem k109:fn 109=some f109:=by kernel_rfl
theorem k112:fn 112=some f112:=by kernel_rfl
theorem k113:fn 113=some f113:=by kernel_rfl
theorem k114:fn 114=some f114:=by kernel_rfl
theorem k122:fn 122=some f122:=by kernel_rfl
theorem k125:fn 125=some f125:=by kernel_rfl
theorem k126:fn 126=some f126:=by kernel_rfl
theorem k133:fn 133=some f133:=by kernel_rfl
theorem k134:fn 134=some f134:=by kernel_rfl
theorem k135:fn 135=some f135:=by kernel_rfl
theorem k136:fn 136=some f136:=by kernel_rfl
theorem k137:fn 137=some f137:=by kernel_rfl
theorem k139:fn 139=some f139:=by kernel_rfl
theorem k142:fn 142=some f142:=by kernel_rfl
theorem k149:fn 149=some f149:=by kernel_rfl
theorem k150:fn 150=some f150:=by kernel_rfl
theorem k153:fn 153=some f153:=by kernel_rfl
theorem k154:fn 154=some f154:=by kernel_rfl
theorem k155:fn 155=some f155:=by kernel_rfl
theorem k167:fn 167=some f167:=by kernel_rfl
theorem k168:fn 168=some f168:=by kernel_rfl
theorem k169:fn 169=some f169:=by kernel_rfl
theorem k170:fn 170=some f170:=by kernel_rfl
theorem k171:fn 171=some f171:=by kernel_rfl
theorem k172:fn 172=some f172:=by kernel_rfl
theorem k173:fn 173=some f173:=by kernel_rfl
theorem k174:fn 174=some f174:=by kernel_rfl
theorem k180:fn 180=some f180:=by kernel_rfl
theorem k181:fn 181=some f181:=by kernel_rfl
theorem k182:fn 182=some f182:=by kernel_rfl
theorem k183:fn 183=some f183:=by kernel_rfl
theorem k184:fn 184=some f184:=by kernel_rfl
theorem k185:fn 185=some f185:=by kernel_rfl
theorem k186:fn 186=some f186:=by kernel_rfl
theorem k187:fn 187=some f187:=by kernel_rfl
theorem k188:fn 188=some f188:=by kernel_rfl
theorem k191:fn 191=some f191:=by kernel_rfl
theorem k203:fn 203=some f203:=by kernel_rfl
theorem k204:fn 204=some f204:=by kernel_rfl
theorem k205:fn 205=some f205:=by kernel_rfl
theorem k207:fn 207=some f207:=by kernel_rfl
theorem k208:fn 208=some f208:=by kernel_rfl
theorem k225:fn 225=some f225:=by kernel_rfl
theorem k226:fn 226=some f226:=by kernel_rfl
theorem k227:fn 227=some f227:=by kernel_rfl
theorem k228:fn 228=some f228:=by kernel_rfl
theorem k229:fn 229=some f229:=by kernel_rfl
theorem k230:fn 230=some f230:=by kernel_rfl
theorem k231:fn 231=some f231:=by kernel_rfl
theorem k232:fn 232=some f232:=by kernel_rfl
theorem k233:fn 233=some f233:=by kernel_rfl
theorem k254:fn 254=some f254:=by kernel_rfl
theorem k255:fn 255=some f255:=by kernel_rfl
theorem k257:fn 257=some f257:=by kernel_rfl
theorem k258:fn 258=some f258:=by kernel_rfl
theorem k266:fn 266=some f266:=by kernel_rfl
theorem k267:fn 267=some f267:=by kernel_rfl
theorem k268:fn 268=some f268:=by kernel_rfl
theorem k282:fn 282=some f282:=by kernel_rfl
theorem k287:fn 287=some f287:=by kernel_rfl
theorem k303:fn 303=some f303:=by kernel_rfl
theorem k1024:fn 1024=some f1024:=by kernel_rfl
theorem k1026:fn 1026=some f1026:=by kernel_rfl
theorem k1028:fn 1028=some f1028:=by kernel_rfl
theorem k1062:fn 1062=some f1062:=by kernel_rfl
theorem k1063:fn 1063=some f1063:=by kernel_rfl
theorem k1064:fn 1064=some f1064:=by kernel_rfl
theorem k1065:fn 1065=some f1065:=by kernel_rfl
theorem k1066:fn 1066=some f1066:=by kernel_rfl
theorem k1067:fn 1067=some f1067:=by kernel_rfl
theorem k1068:fn 1068=some f1068:=by kernel_rfl
theorem k1070:fn 1070=some f1070:=by kernel_rfl
theorem k1075:fn 1075=some f1075:=by kernel_rfl
theorem k1101:fn 1101=some f1101:=by kernel_rfl
theorem k1102:fn 1102=some f1102:=by kernel_rfl
theorem k1103:fn 1103=some f1103:=by kernel_rfl
theorem k1104:fn 1104=some f1104:=by kernel_rfl
theorem k1105:fn 1105=some f1105:=by kernel_rfl
theorem k1106:fn 1106=some f1106:=by kernel_rfl
theorem k1107:fn 1107=some f1107:=by kernel_rfl
theorem k1108:fn 1108=some f1108:=by kernel_rfl
theorem k1109:fn 1109=some f1109:=by kernel_rfl
theorem k1126:fn 1126=some f1126:=by kernel_rfl
theorem k1138:fn 1138=some f1138:=by kernel_rfl
theorem k1139:fn 1139=some f1139:=by kernel_rfl
theorem k1208:fn 1208=some f1208:=by kernel_rfl
theorem k1503:fn 1503=some f1503:=by kernel_rfl
theorem k1506:fn 1506=some f1506:=by kernel_rfl
theorem k1508:fn 1508=some f1508:=by kernel_rfl
theorem k1509:fn 1509=some f1509:=by kernel_rfl
theorem k1510:fn 1510=some f1510:=by kernel_rfl
theorem k3507:fn 3507=some f3507:=by kernel_rfl
theorem z206:fn 206=none:=by kernel_rfl
theorem afe:fn 256=none:=by kernel_rfl
theorem aaS:fn 1100=none:=by kernel_rfl
end Fi.S
