/- Each function's F-code is what its body comes to. Printed by program. -/
import Derived.Test.YtonmcbnjifeagaaGreatDoorSCode
import Derived.Test.YtonmcbnjifeagaaGreatDoorChecked
set_option linter.unusedVariables false
set_option linter.unusedSimpArgs false
namespace Fi.S
open Go Fi Go.Proofs
set_option maxRecDepth 1000000

theorem mixed:Tryz.prog.follows .mixedOrders=true:=by kernel_rfl

theorem bodied:bodiedB Tryz.prog 344 no=true:=by kernel_rfl

theorem bodies (E:Env) (h:noneGiven E no=true):Bodies Tryz.prog E gid:=bodies_of bodied h

theorem k8:compFunc Tryz.prog c8 Tryz.f8=some f8:=by kernel_rfl
theorem k11:compFunc Tryz.prog c11 Tryz.f11=some f11:=by kernel_rfl
theorem k12:compFunc Tryz.prog c12 Tryz.f12=some f12:=by kernel_rfl
theorem k13:compFunc Tryz.prog c13 Tryz.f13=some f13:=by kernel_rfl
theorem k14:compFunc Tryz.prog c14 Tryz.f14=some f14:=by kernel_rfl
theorem k17:compFunc Tryz.prog c17 Tryz.f17=some f17:=by kernel_rfl
theorem k18:compFunc Tryz.prog c18 Tryz.f18=some f18:=by kernel_rfl
theorem k22:compFunc Tryz.prog c22 Tryz.f22=some f22:=by kernel_rfl
theorem k26:compFunc Tryz.prog c26 Tryz.f26=some f26:=by kernel_rfl
theorem k27:compFunc Tryz.prog c27 Tryz.f27=some f27:=by kernel_rfl
theorem k28:compFunc Tryz.prog c28 Tryz.f28=some f28:=by kernel_rfl
theorem k29:compFunc Tryz.prog c29 Tryz.f29=some f29:=by kernel_rfl
theorem k30:compFunc Tryz.prog c30 Tryz.f30=some f30:=by kernel_rfl
theorem k31:compFunc Tryz.prog c31 Tryz.f31=some f31:=by kernel_rfl
theorem k34:compFunc Tryz.prog c34 Tryz.f34=some f34:=by kernel_rfl
theorem k37:compFunc Tryz.prog c37 Tryz.f37=some f37:=by kernel_rfl
theorem k38:compFunc Tryz.prog c38 Tryz.f38=some f38:=by kernel_rfl
theorem k39:compFunc Tryz.prog c39 Tryz.f39=some f39:=by kernel_rfl
theorem k40:compFunc Tryz.prog c40 Tryz.f40=some f40:=by kernel_rfl
theorem k41:compFunc Tryz.prog c41 Tryz.f41=some f41:=by kernel_rfl
theorem k42:compFunc Tryz.prog c42 Tryz.f42=some f42:=by kernel_rfl
theorem k43:compFunc Tryz.prog c43 Tryz.f43=some f43:=by kernel_rfl
theorem k44:compFunc Tryz.prog c44 Tryz.f44=some f44:=by kernel_rfl
theorem k45:compFunc Tryz.prog c45 Tryz.f45=some f45:=by kernel_rfl
theorem k52:compFunc Tryz.prog c52 Tryz.f52=some f52:=by kernel_rfl
theorem k54:compFunc Tryz.prog c54 Tryz.f54=some f54:=by kernel_rfl
theorem k55:compFunc Tryz.prog c55 Tryz.f55=some f55:=by kernel_rfl
theorem k59:compFunc Tryz.prog c59 Tryz.f59=some f59:=by kernel_rfl
theorem k62:compFunc Tryz.prog c62 Tryz.f62=some f62:=by kernel_rfl
theorem k64:compFunc Tryz.prog c64 Tryz.f64=some f64:=by kernel_rfl
theorem k65:compFunc Tryz.prog c65 Tryz.f65=some f65:=by kernel_rfl
theorem k66:compFunc Tryz.prog c66 Tryz.f66=some f66:=by kernel_rfl
theorem k67:compFunc Tryz.prog c67 Tryz.f67=some f67:=by kernel_rfl
theorem k68:compFunc Tryz.prog c68 Tryz.f68=some f68:=by kernel_rfl
theorem k69:compFunc Tryz.prog c69 Tryz.f69=some f69:=by kernel_rfl
theorem k70:compFunc Tryz.prog c70 Tryz.f70=some f70:=by kernel_rfl
theorem k71:compFunc Tryz.prog c71 Tryz.f71=some f71:=by kernel_rfl
theorem k72:compFunc Tryz.prog c72 Tryz.f72=some f72:=by kernel_rfl
theorem k73:compFunc Tryz.prog c73 Tryz.f73=some f73:=by kernel_rfl
theorem k74:compFunc Tryz.prog c74 Tryz.f74=some f74:=by kernel_rfl
theorem k77:compFunc Tryz.prog c77 Tryz.f77=some f77:=by kernel_rfl
theorem k78:compFunc Tryz.prog c78 Tryz.f78=some f78:=by kernel_rfl
theorem k79:compFunc Tryz.prog c79 Tryz.f79=some f79:=by kernel_rfl
theorem k80:compFunc Tryz.prog c80 Tryz.f80=some f80:=by kernel_rfl
theorem k81:compFunc Tryz.prog c81 Tryz.f81=some f81:=by kernel_rfl
theorem k82:compFunc Tryz.prog c82 Tryz.f82=some f82:=by kernel_rfl
theorem k83:compFunc Tryz.prog c83 Tryz.f83=some f83:=by kernel_rfl
theorem k85:compFunc Tryz.prog c85 Tryz.f85=some f85:=by kernel_rfl
theorem k87:compFunc Tryz.prog c87 Tryz.f87=some f87:=by kernel_rfl
theorem k88:compFunc Tryz.prog c88 Tryz.f88=some f88:=by kernel_rfl
theorem k89:compFunc Tryz.prog c89 Tryz.f89=some f89:=by kernel_rfl
theorem k90:compFunc Tryz.prog c90 Tryz.f90=some f90:=by kernel_rfl
theorem k91:compFunc Tryz.prog c91 Tryz.f91=some f91:=by kernel_rfl
theorem k92:compFunc Tryz.prog c92 Tryz.f92=some f92:=by kernel_rfl
theorem k93:compFunc Tryz.prog c93 Tryz.f93=some f93:=by kernel_rfl
theorem k94:compFunc Tryz.prog c94 Tryz.f94=some f94:=by kernel_rfl
theorem k95:compFunc Tryz.prog c95 Tryz.f95=some f95:=by kernel_rfl
theorem k97:compFunc Tryz.prog c97 Tryz.f97=some f97:=by kernel_rfl
theorem k98:compFunc Tryz.prog c98 Tryz.f98=some f98:=by kernel_rfl
theorem k99:compFunc Tryz.prog c99 Tryz.f99=some f99:=by kernel_rfl
theorem k100:compFunc Tryz.prog c100 Tryz.f100=some f100:=by kernel_rfl
theorem k101:compFunc Tryz.prog c101 Tryz.f101=some f101:=by kernel_rfl
theorem k106:compFunc Tryz.prog c106 Tryz.f106=some f106:=by kernel_rfl
theorem k107:compFunc Tryz.prog c107 Tryz.f107=some f107:=by kernel_rfl
theorem k108:compFunc Tryz.prog c108 Tryz.f108=some f108:=by kernel_rfl
theorem k109:compFunc Tryz.prog c109 Tryz.f109=some f109:=by kernel_rfl
theorem k110:compFunc Tryz.prog c110 Tryz.f110=some f110:=by kernel_rfl
theorem k111:compFunc Tryz.prog c111 Tryz.f111=some f111:=by kernel_rfl
theorem k112:compFunc Tryz.prog c112 Tryz.f112=some f112:=by kernel_rfl
theorem k113:compFunc Tryz.prog c113 Tryz.f113=some f113:=by kernel_rfl
theorem k114:compFunc Tryz.prog c114 Tryz.f114=some f114:=by kernel_rfl
theorem k115:compFunc Tryz.prog c115 Tryz.f115=some f115:=by kernel_rfl
theorem k116:compFunc Tryz.prog c116 Tryz.f116=some f116:=by kernel_rfl
theorem k117:compFunc Tryz.prog c117 Tryz.f117=some f117:=by kernel_rfl
theorem k119:compFunc Tryz.prog c119 Tryz.f119=some f119:=by kernel_rfl
theorem k120:compFunc Tryz.prog c120 Tryz.f120=some f120:=by kernel_rfl
theorem k122:compFunc Tryz.prog c122 Tryz.f122=some f122:=by kernel_rfl
theorem k123:compFunc Tryz.prog c123 Tryz.f123=some f123:=by kernel_rfl
theorem k124:compFunc Tryz.prog c124 Tryz.f124=some f124:=by kernel_rfl
theorem k125:compFunc Tryz.prog c125 Tryz.f125=some f125:=by kernel_rfl
theorem k126:compFunc Tryz.prog c126 Tryz.f126=some f126:=by kernel_rfl
theorem k127:compFunc Tryz.prog c127 Tryz.f127=some f127:=by kernel_rfl
theorem k128:compFunc Tryz.prog c128 Tryz.f128=some f128:=by kernel_rfl
theorem k130:compFunc Tryz.prog c130 Tryz.f130=some f130:=by kernel_rfl
theorem k133:compFunc Tryz.prog c133 Tryz.f133=some f133:=by kernel_rfl
theorem k134:compFunc Tryz.prog c134 Tryz.f134=some f134:=by kernel_rfl
theorem k135:compFunc Tryz.prog c135 Tryz.f135=some f135:=by kernel_rfl
theorem k136:compFunc Tryz.prog c136 Tryz.f136=some f136:=by kernel_rfl
theorem k137:compFunc Tryz.prog c137 Tryz.f137=some f137:=by kernel_rfl
theorem k139:compFunc Tryz.prog c139 Tryz.f139=some f139:=by kernel_rfl
theorem k140:compFunc Tryz.prog c140 Tryz.f140=some f140:=by kernel_rfl
theorem k141:compFunc Tryz.prog c141 Tryz.f141=some f141:=by kernel_rfl
theorem k142:compFunc Tryz.prog c142 Tryz.f142=some f142:=by kernel_rfl
theorem k143:compFunc Tryz.prog c143 Tryz.f143=some f143:=by kernel_rfl
theorem k149:compFunc Tryz.prog c149 Tryz.f149=some f149:=by kernel_rfl
theorem k150:compFunc Tryz.prog c150 Tryz.f150=some f150:=by kernel_rfl
theorem k151:compFunc Tryz.prog c151 Tryz.f151=some f151:=by kernel_rfl
theorem k152:compFunc Tryz.prog c152 Tryz.f152=some f152:=by kernel_rfl
theorem k153:compFunc Tryz.prog c153 Tryz.f153=some f153:=by kernel_rfl
theorem k154:compFunc Tryz.prog c154 Tryz.f154=some f154:=by kernel_rfl
theorem k155:compFunc Tryz.prog c155 Tryz.f155=some f155:=by kernel_rfl
theorem k156:compFunc Tryz.prog c156 Tryz.f156=some f156:=by kernel_rfl
theorem k157:compFunc Tryz.prog c157 Tryz.f157=some f157:=by kernel_rfl
theorem k167:compFunc Tryz.prog c167 Tryz.f167=some f167:=by kernel_rfl
theorem k168:compFunc Tryz.prog c168 Tryz.f168=some f168:=by kernel_rfl
theorem k169:compFunc Tryz.prog c169 Tryz.f169=some f169:=by kernel_rfl
theorem k170:compFunc Tryz.prog c170 Tryz.f170=some f170:=by kernel_rfl
theorem k171:compFunc Tryz.prog c171 Tryz.f171=some f171:=by kernel_rfl
theorem k172:compFunc Tryz.prog c172 Tryz.f172=some f172:=by kernel_rfl
theorem k173:compFunc Tryz.prog c173 Tryz.f173=some f173:=by kernel_rfl
theorem k174:compFunc Tryz.prog c174 Tryz.f174=some f174:=by kernel_rfl
theorem k180:compFunc Tryz.prog c180 Tryz.f180=some f180:=by kernel_rfl
theorem k181:compFunc Tryz.prog c181 Tryz.f181=some f181:=by kernel_rfl
theorem k182:compFunc Tryz.prog c182 Tryz.f182=some f182:=by kernel_rfl
theorem k183:compFunc Tryz.prog c183 Tryz.f183=some f183:=by kernel_rfl
theorem k184:compFunc Tryz.prog c184 Tryz.f184=some f184:=by kernel_rfl
theorem k185:compFunc Tryz.prog c185 Tryz.f185=some f185:=by kernel_rfl
theorem k186:compFunc Tryz.prog c186 Tryz.f186=some f186:=by kernel_rfl
theorem k187:compFunc Tryz.prog c187 Tryz.f187=some f187:=by kernel_rfl
theorem k188:compFunc Tryz.prog c188 Tryz.f188=some f188:=by kernel_rfl
theorem k189:compFunc Tryz.prog c189 Tryz.f189=some f189:=by kernel_rfl
theorem k190:compFunc Tryz.prog c190 Tryz.f190=some f190:=by kernel_rfl
theorem k191:compFunc Tryz.prog c191 Tryz.f191=some f191:=by kernel_rfl
theorem k192:compFunc Tryz.prog c192 Tryz.f192=some f192:=by kernel_rfl
theorem k195:compFunc Tryz.prog c195 Tryz.f195=some f195:=by kernel_rfl
theorem k203:compFunc Tryz.prog c203 Tryz.f203=some f203:=by kernel_rfl
theorem k204:compFunc Tryz.prog c204 Tryz.f204=some f204:=by kernel_rfl
theorem k205:compFunc Tryz.prog c205 Tryz.f205=some f205:=by kernel_rfl
theorem k207:compFunc Tryz.prog c207 Tryz.f207=some f207:=by kernel_rfl
theorem k208:compFunc Tryz.prog c208 Tryz.f208=some f208:=by kernel_rfl
theorem k225:compFunc Tryz.prog c225 Tryz.f225=some f225:=by kernel_rfl
theorem k226:compFunc Tryz.prog c226 Tryz.f226=some f226:=by kernel_rfl
theorem k227:compFunc Tryz.prog c227 Tryz.f227=some f227:=by kernel_rfl
theorem k228:compFunc Tryz.prog c228 Tryz.f228=some f228:=by kernel_rfl
theorem k229:compFunc Tryz.prog c229 Tryz.f229=some f229:=by kernel_rfl
theorem k230:compFunc Tryz.prog c230 Tryz.f230=some f230:=by kernel_rfl
theorem k231:compFunc Tryz.prog c231 Tryz.f231=some f231:=by kernel_rfl
theorem k232:compFunc Tryz.prog c232 Tryz.f232=some f232:=by kernel_rfl
theorem k233:compFunc Tryz.prog c233 Tryz.f233=some f233:=by kernel_rfl
theorem k234:compFunc Tryz.prog c234 Tryz.f234=some f234:=by kernel_rfl
theorem k235:compFunc Tryz.prog c235 Tryz.f235=some f235:=by kernel_rfl
theorem k254:compFunc Tryz.prog c254 Tryz.f254=some f254:=by kernel_rfl
theorem k255:compFunc Tryz.prog c255 Tryz.f255=some f255:=by kernel_rfl
theorem k257:compFunc Tryz.prog c257 Tryz.f257=some f257:=by kernel_rfl
theorem k258:compFunc Tryz.prog c258 Tryz.f258=some f258:=by kernel_rfl
theorem k266:compFunc Tryz.prog c266 Tryz.f266=some f266:=by kernel_rfl
theorem k267:compFunc Tryz.prog c267 Tryz.f267=some f267:=by kernel_rfl
theorem k268:compFunc Tryz.prog c268 Tryz.f268=some f268:=by kernel_rfl
theorem k269:compFunc Tryz.prog c269 Tryz.f269=some f269:=by kernel_rfl
theorem k282:compFunc Tryz.prog c282 Tryz.f282=some f282:=by kernel_rfl
theorem k287:compFunc Tryz.prog c287 Tryz.f287=some f287:=by kernel_rfl
theorem k303:compFunc Tryz.prog c303 Tryz.f303=some f303:=by kernel_rfl

theorem fns (E:Env) (hE:E.fn=fn):FnsOK Tryz.prog E gid:=by
 intro g F h
 rw [hE] at h
 unfold fn at h
 revert h
 exact (t_or (t_or (t_or (t_or (t_or (t_or (t_or (t_leaf fun hg hF=>fok hg hF k8 Tryz.func8 rfl) (t_leaf fun hg hF=>fok hg hF k11 Tryz.func11 rfl)) (t_or (t_leaf fun hg hF=>fok hg hF k12 Tryz.func12 rfl) (t_leaf fun hg hF=>fok hg hF k13 Tryz.func13 rfl))) (t_or (t_or (t_leaf fun hg hF=>fok hg hF k14 Tryz.func14 rfl) (t_leaf fun hg hF=>fok hg hF k17 Tryz.func17 rfl)) (t_or (t_leaf fun hg hF=>fok hg hF k18 Tryz.func18 rfl) (t_or (t_leaf fun hg hF=>fok hg hF k22 Tryz.func22 rfl) (t_leaf fun hg hF=>fok hg hF k26 Tryz.func26 rfl))))) (t_or (t_or (t_or (t_leaf fun hg hF=>fok hg hF k27 Tryz.func27 rfl) (t_leaf fun hg hF=>fok hg hF k28 Tryz.func28 rfl)) (t_or (t_leaf fun hg hF=>fok hg hF k29 Tryz.func29 rfl) (t_or (t_leaf fun hg hF=>fok hg hF k30 Tryz.func30 rfl) (t_leaf fun hg hF=>fok hg hF k31 Tryz.func31 rfl)))) (t_or (t_or (t_leaf fun hg hF=>fok hg hF k34 Tryz.func34 rfl) (t_leaf fun hg hF=>fok hg hF k37 Tryz.func37 rfl)) (t_or (t_leaf fun hg hF=>fok hg hF k38 Tryz.func38 rfl) (t_or (t_leaf fun hg hF=>fok hg hF k39 Tryz.func39 rfl) (t_leaf fun hg hF=>fok hg hF k40 Tryz.func40 rfl)))))) (t_or (t_or (t_or (t_or (t_leaf fun hg hF=>fok hg hF k41 Tryz.func41 rfl) (t_leaf fun hg hF=>fok hg hF k42 Tryz.func42 rfl)) (t_or (t_leaf fun hg hF=>fok hg hF k43 Tryz.func43 rfl) (t_leaf fun hg hF=>fok hg hF k44 Tryz.func44 rfl))) (t_or (t_or (t_leaf fun hg hF=>fok hg hF k45 Tryz.func45 rfl) (t_leaf fun hg hF=>fok hg hF k52 Tryz.func52 rfl)) (t_or (t_leaf fun hg hF=>fok hg hF k54 Tryz.func54 rfl) (t_or (t_leaf fun hg hF=>fok hg hF k55 Tryz.func55 rfl) (t_leaf fun hg hF=>fok hg hF k59 Tryz.func59 rfl))))) (t_or (t_or (t_or (t_leaf fun hg hF=>fok hg hF k62 Tryz.func62 rfl) (t_leaf fun hg hF=>fok hg hF k64 Tryz.func64 rfl)) (t_or (t_leaf fun hg hF=>fok hg hF k65 Tryz.func65 rfl) (t_or (t_leaf fun hg hF=>fok hg hF k66 Tryz.func66 rfl) (t_leaf fun hg hF=>fok hg hF k67 Tryz.func67 rfl)))) (t_or (t_or (t_leaf fun hg hF=>fok hg hF k68 Tryz.func68 rfl) (t_leaf fun hg hF=>fok hg hF k69 Tryz.func69 rfl)) (t_or (t_leaf fun hg hF=>fok hg hF k70 Tryz.func70 rfl) (t_or (t_leaf fun hg hF=>fok hg hF k71 Tryz.func71 rfl) (t_leaf fun hg hF=>fok hg hF k72 Tryz.func72 rfl))))))) (t_or (t_or (t_or (t_or (t_or (t_leaf fun hg hF=>fok hg hF k73 Tryz.func73 rfl) (t_leaf fun hg hF=>fok hg hF k74 Tryz.func74 rfl)) (t_or (t_leaf fun hg hF=>fok hg hF k77 Tryz.func77 rfl) (t_leaf fun hg hF=>fok hg hF k78 Tryz.func78 rfl))) (t_or (t_or (t_leaf fun hg hF=>fok hg hF k79 Tryz.func79 rfl) (t_leaf fun hg hF=>fok hg hF k80 Tryz.func80 rfl)) (t_or (t_leaf fun hg hF=>fok hg hF k81 Tryz.func81 rfl) (t_or (t_leaf fun hg hF=>fok hg hF k82 Tryz.func82 rfl) (t_leaf fun hg hF=>fok hg hF k83 Tryz.func83 rfl))))) (t_or (t_or (t_or (t_leaf fun hg hF=>fok hg hF k85 Tryz.func85 rfl) (t_leaf fun hg hF=>fok hg hF k87 Tryz.func87 rfl)) (t_or (t_leaf fun hg hF=>fok hg hF k88 Tryz.func88 rfl) (t_or (t_leaf fun hg hF=>fok hg hF k89 Tryz.func89 rfl) (t_leaf fun hg hF=>fok hg hF k90 Tryz.func90 rfl)))) (t_or (t_or (t_leaf fun hg hF=>fok hg hF k91 Tryz.func91 rfl) (t_leaf fun hg hF=>fok hg hF k92 Tryz.func92 rfl)) (t_or (t_leaf fun hg hF=>fok hg hF k93 Tryz.func93 rfl) (t_or (t_leaf fun hg hF=>fok hg hF k94 Tryz.func94 rfl) (t_leaf fun hg hF=>fok hg hF k95 Tryz.func95 rfl)))))) (t_or (t_or (t_or (t_or (t_leaf fun hg hF=>fok hg hF k97 Tryz.func97 rfl) (t_leaf fun hg hF=>fok hg hF k98 Tryz.func98 rfl)) (t_or (t_leaf fun hg hF=>fok hg hF k99 Tryz.func99 rfl) (t_leaf fun hg hF=>fok hg hF k100 Tryz.func100 rfl))) (t_or (t_or (t_leaf fun hg hF=>fok hg hF k101 Tryz.func101 rfl) (t_leaf fun hg hF=>fok hg hF k106 Tryz.func106 rfl)) (t_or (t_leaf fun hg hF=>fok hg hF k107 Tryz.func107 rfl) (t_or (t_leaf fun hg hF=>fok hg hF k108 Tryz.func108 rfl) (t_leaf fun hg hF=>fok hg hF k109 Tryz.func109 rfl))))) (t_or (t_or (t_or (t_leaf fun hg hF=>fok hg hF k110 Tryz.func110 rfl) (t_leaf fun hg hF=>fok hg hF k111 Tryz.func111 rfl)) (t_or (t_leaf fun hg hF=>fok hg hF k112 Tryz.func112 rfl) (t_or (t_leaf fun hg hF=>fok hg hF k113 Tryz.func113 rfl) (t_leaf fun hg hF=>fok hg hF k114 Tryz.func114 rfl)))) (t_or (t_or (t_leaf fun hg hF=>fok hg hF k115 Tryz.func115 rfl) (t_leaf fun hg hF=>fok hg hF k116 Tryz.func116 rfl)) (t_or (t_leaf fun hg hF=>fok hg hF k117 Tryz.func117 rfl) (t_or (t_leaf fun hg hF=>fok hg hF k119 Tryz.func119 rfl) (t_leaf fun hg hF=>fok hg hF k120 Tryz.func120 rfl)))))))) (t_or (t_or (t_or (t_or (t_or (t_or (t_leaf fun hg hF=>fok hg hF k122 Tryz.func122 rfl) (t_leaf fun hg hF=>fok hg hF k123 Tryz.func123 rfl)) (t_or (t_leaf fun hg hF=>fok hg hF k124 Tryz.func124 rfl) (t_leaf fun hg hF=>fok hg hF k125 Tryz.func125 rfl))) (t_or (t_or (t_leaf fun hg hF=>fok hg hF k126 Tryz.func126 rfl) (t_leaf fun hg hF=>fok hg hF k127 Tryz.func127 rfl)) (t_or (t_leaf fun hg hF=>fok hg hF k128 Tryz.func128 rfl) (t_or (t_leaf fun hg hF=>fok hg hF k130 Tryz.func130 rfl) (t_leaf fun hg hF=>fok hg hF k133 Tryz.func133 rfl))))) (t_or (t_or (t_or (t_leaf fun hg hF=>fok hg hF k134 Tryz.func134 rfl) (t_leaf fun hg hF=>fok hg hF k135 Tryz.func135 rfl)) (t_or (t_leaf fun hg hF=>fok hg hF k136 Tryz.func136 rfl) (t_or (t_leaf fun hg hF=>fok hg hF k137 Tryz.func137 rfl) (t_leaf fun hg hF=>fok hg hF k139 Tryz.func139 rfl)))) (t_or (t_or (t_leaf fun hg hF=>fok hg hF k140 Tryz.func140 rfl) (t_leaf fun hg hF=>fok hg hF k141 Tryz.func141 rfl)) (t_or (t_leaf fun hg hF=>fok hg hF k142 Tryz.func142 rfl) (t_or (t_leaf fun hg hF=>fok hg hF k143 Tryz.func143 rfl) (t_leaf fun hg hF=>fok hg hF k149 Tryz.func149 rfl)))))) (t_or (t_or (t_or (t_or (t_leaf fun hg hF=>fok hg hF k150 Tryz.func150 rfl) (t_leaf fun hg hF=>fok hg hF k151 Tryz.func151 rfl)) (t_or (t_leaf fun hg hF=>fok hg hF k152 Tryz.func152 rfl) (t_leaf fun hg hF=>fok hg hF k153 Tryz.func153 rfl))) (t_or (t_or (t_leaf fun hg hF=>fok hg hF k154 Tryz.func154 rfl) (t_leaf fun hg hF=>fok hg hF k155 Tryz.func155 rfl)) (t_or (t_leaf fun hg hF=>fok hg hF k156 Tryz.func156 rfl) (t_or (t_leaf fun hg hF=>fok hg hF k157 Tryz.func157 rfl) (t_leaf fun hg hF=>fok hg hF k167 Tryz.func167 rfl))))) (t_or (t_or (t_or (t_leaf fun hg hF=>fok hg hF k168 Tryz.func168 rfl) (t_leaf fun hg hF=>fok hg hF k169 Tryz.func169 rfl)) (t_or (t_leaf fun hg hF=>fok hg hF k170 Tryz.func170 rfl) (t_or (t_leaf fun hg hF=>fok hg hF k171 Tryz.func171 rfl) (t_leaf fun hg hF=>fok hg hF k172 Tryz.func172 rfl)))) (t_or (t_or (t_leaf fun hg hF=>fok hg hF k173 Tryz.func173 rfl) (t_leaf fun hg hF=>fok hg hF k174 Tryz.func174 rfl)) (t_or (t_leaf fun hg hF=>fok hg hF k180 Tryz.func180 rfl) (t_or (t_leaf fun hg hF=>fok hg hF k181 Tryz.func181 rfl) (t_leaf fun hg hF=>fok hg hF k182 Tryz.func182 rfl))))))) (t_or (t_or (t_or (t_or (t_or (t_leaf fun hg hF=>fok hg hF k183 Tryz.func183 rfl) (t_leaf fun hg hF=>fok hg hF k184 Tryz.func184 rfl)) (t_or (t_leaf fun hg hF=>fok hg hF k185 Tryz.func185 rfl) (t_leaf fun hg hF=>fok hg hF k186 Tryz.func186 rfl))) (t_or (t_or (t_leaf fun hg hF=>fok hg hF k187 Tryz.func187 rfl) (t_leaf fun hg hF=>fok hg hF k188 Tryz.func188 rfl)) (t_or (t_leaf fun hg hF=>fok hg hF k189 Tryz.func189 rfl) (t_or (t_leaf fun hg hF=>fok hg hF k190 Tryz.func190 rfl) (t_leaf fun hg hF=>fok hg hF k191 Tryz.func191 rfl))))) (t_or (t_or (t_or (t_leaf fun hg hF=>fok hg hF k192 Tryz.func192 rfl) (t_leaf fun hg hF=>fok hg hF k195 Tryz.func195 rfl)) (t_or (t_leaf fun hg hF=>fok hg hF k203 Tryz.func203 rfl) (t_or (t_leaf fun hg hF=>fok hg hF k204 Tryz.func204 rfl) (t_leaf fun hg hF=>fok hg hF k205 Tryz.func205 rfl)))) (t_or (t_or (t_leaf fun hg hF=>fok hg hF k207 Tryz.func207 rfl) (t_leaf fun hg hF=>fok hg hF k208 Tryz.func208 rfl)) (t_or (t_leaf fun hg hF=>fok hg hF k225 Tryz.func225 rfl) (t_or (t_leaf fun hg hF=>fok hg hF k226 Tryz.func226 rfl) (t_leaf fun hg hF=>fok hg hF k227 Tryz.func227 rfl)))))) (t_or (t_or (t_or (t_or (t_leaf fun hg hF=>fok hg hF k228 Tryz.func228 rfl) (t_leaf fun hg hF=>fok hg hF k229 Tryz.func229 rfl)) (t_or (t_leaf fun hg hF=>fok hg hF k230 Tryz.func230 rfl) (t_leaf fun hg hF=>fok hg hF k231 Tryz.func231 rfl))) (t_or (t_or (t_leaf fun hg hF=>fok hg hF k232 Tryz.func232 rfl) (t_leaf fun hg hF=>fok hg hF k233 Tryz.func233 rfl)) (t_or (t_leaf fun hg hF=>fok hg hF k234 Tryz.func234 rfl) (t_or (t_leaf fun hg hF=>fok hg hF k235 Tryz.func235 rfl) (t_leaf fun hg hF=>fok hg hF k254 Tryz.func254 rfl))))) (t_or (t_or (t_or (t_leaf fun hg hF=>fok hg hF k255 Tryz.func255 rfl) (t_leaf fun hg hF=>fok hg hF k257 Tryz.func257 rfl)) (t_or (t_leaf fun hg hF=>fok hg hF k258 Tryz.func258 rfl) (t_or (t_leaf fun hg hF=>fok hg hF k266 Tryz.func266 rfl) (t_leaf fun hg hF=>fok hg hF k267 Tryz.func267 rfl)))) (t_or (t_or (t_leaf fun hg hF=>fok hg hF k268 Tryz.func268 rfl) (t_leaf fun hg hF=>fok hg hF k269 Tryz.func269 rfl)) (t_or (t_leaf fun hg hF=>fok hg hF k282 Tryz.func282 rfl) (t_or (t_leaf fun hg hF=>fok hg hF k287 Tryz.func287 rfl) (t_leaf fun hg hF=>fok hg hF k303 Tryz.func303 rfl)))))))))
end Fi.S
