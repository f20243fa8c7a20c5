import Derived.Test.YtbbogkfadofneaaGreatDoorSCode0
namespace Fi.S
open Go Fi Go.Proofs
set_option maxHeartbeats 8000000
set_option maxRecDepth 1000000
def f12:=aD 12 Tryz.f12 _
def f13:=aD 13 Tryz.f102 _
def f14:=aD 14 Tryz.f67 _
def f15:=aD 15 Tryz.f5 _
def f16:=aD 16 Tryz.f35 _
def f18:=aD 18 Tryz.f110 _
def f19:=aD 19 Tryz.f43 _
def f20:=aD 20 Tryz.f24 _
def f21:=aD 21 Tryz.f44 _
def f26:=aD 26 Tryz.f68 _
def f28:=aD 28 Tryz.f22 _
def f29:=aD 29 Tryz.f125 _
def f31:=aD 31 Tryz.f61 _
def f32:=aD 32 Tryz.f92 _
def f34:=aD 34 Tryz.f121 _
def f35:=aD 35 Tryz.f10 _
def f38:=aD 38 Tryz.f25 _
def f39:=aD 39 Tryz.f27 _
def f40:=aD 40 Tryz.f28 _
def f41:=aD 41 Tryz.f113 _
def f42:=aD 42 Tryz.f114 _
def f43:=aD 43 Tryz.f115 _
def f44:=aD 44 Tryz.f146 _
def f45:=aD 45 Tryz.f116 _
def f46:=aD 46 Tryz.f17 _
def f47:=aD 47 Tryz.f57 _
def f48:=aD 48 Tryz.f45 _
def f49:=aD 49 Tryz.f58 _
def f50:=aD 50 Tryz.f59 _
def f51:=aD 51 Tryz.f60 _
def f53:=aD 53 Tryz.f82 _
def f54:=aD 54 Tryz.f83 _
def f55:=aD 55 Tryz.f84 _
def f56:=aD 56 Tryz.f23 _
def f57:=aD 57 Tryz.f85 _
def f58:=aD 58 Tryz.f86 _
def f62:=aD 62 Tryz.f165 _
def f64:=aD 64 Tryz.f117 _
def f66:=aD 66 Tryz.f162 _
def f67:=aD 67 Tryz.f105 _
def f68:=aD 68 Tryz.f106 _
def f69:=aD 69 Tryz.f107 _
def f70:=aD 70 Tryz.f141 _
def f71:=aD 71 Tryz.f158 _
def f72:=aD 72 Tryz.f159 _
def f73:=aD 73 Tryz.f160 _
def f74:=aD 74 Tryz.f161 _
def f77:=aD 77 Tryz.f46 _
def f78:=aD 78 Tryz.f52 _
def f79:=aD 79 Tryz.f150 _
def f80:=aD 80 Tryz.f151 _
def f81:=aD 81 Tryz.f152 _
def f82:=aD 82 Tryz.f153 _
def Xl:TF:=[(12,f12),(13,f13),(14,f14),(15,f15),(16,f16),(18,f18),(19,f19),(20,f20),(21,f21),(26,f26),(28,f28),(29,f29),(31,f31),(32,f32),(34,f34),(35,f35),(38,f38),(39,f39),(40,f40),(41,f41),(42,f42),(43,f43),(44,f44),(45,f45),(46,f46),(47,f47),(48,f48),(49,f49),(50,f50),(51,f51),(53,f53),(54,f54),(55,f55),(56,f56),(57,f57),(58,f58),(62,f62),(64,f64),(66,f66),(67,f67),(68,f68),(69,f69),(70,f70),(71,f71),(72,f72),(73,f73),(74,f74),(77,f77),(78,f78),(79,f79),(80,f80),(81,f81),(82,f82)]
theorem ajy:xR Xl:=by
 unfold Xl
 repeat refine HV (by kernel_rfl) ?_
 exact HY
end Fi.S
