import Derived.Test.YtbbogkfadofneaaGreatDoorFiE
import Derived.Test.YtbbogkfadofneaaGreatDoorChecked
namespace Fi.S
open Go Fi Go.Proofs
set_option maxHeartbeats 8000000
set_option maxRecDepth 1000000

def no:List Nat:=[0,1,223,224,221,285,263,314,315,316,317,318,319,320,321,322,323,324,325,326,327,328,329,330,331,332,333,334,335,336,337,338,339,340,341,342]
def tab:List Nat:=[0,1,2,1601,1602,15,1613,1018,1605,1530,35,1604,12,1606,1607,1628,1014,46,1028,1024,1531,1532,28,56,20,38,1608,39,40,1621,1622,33,1046,1047,1075,16,1026,1062,1063,1064,1533,1044,1534,19,21,48,77,1629,1620,1505,1609,1610,78,1623,5054,1624,1090,47,49,50,51,31,1065,1066,1067,1068,1098,14,26,1100,1101,1070,1102,1103,1104,1020,1535,1536,1043,1088,1089,1537,53,54,55,57,58,84,85,89,106,107,32,1626,1627,1506,1511,1507,1508,1512,1611,1625,13,5103,86,67,68,69,1105,1106,18,1107,1108,41,42,43,45,64,1138,1109,255,34,1040,1041,1054,29,1126,87,88,90,91,92,93,167,98,168,97,170,171,172,169,70,1509,1510,1513,1612,44,99,100,1139,79,80,81,82,83,1208,1209,282,71,72,73,74,66,173,174,62,108,109,110,111,112,113,114,115,116,117,118,119,120,121,122,123,124,125,126,127,128,129,130,131,132,133,134,135,136,137,138,139,140,141,142,143,144,145,146,147,148,149,150,151,152,153,154,155,156,157,158,159,160,161,162,163,164,165,166,1254,101,95,180,181,182,183,184,185,186,187,188,189,190,191,192,193,194,195,196,197,198,199,200,103,104,201,105,202,203,204,205,206,207,208,209,210,211,212,213,214,215,216,217,218,177,1298,225,226,227,228,229,230,231,232,233,234,235,76,236,237,238,239,240,241,242,243,244,245,246,247,248,249,250,251,178,179,252,253,254,256,257,258,176,220,259,260,75,261,222,266,267,268,269,270,271,272,273,274,275,276,277,278,279,280,281,223,224,283,284,219,221,262,285,102,263,264,265,287,288,289,290,291,292,293,294,295,296,297,298,299,300,301,302,303,175,286,304,305,306,307,308,309,310,311,312,313,314,315,316,317,318,319,320,321,322,323,324,325,326,327,328,329,330,331,332,333,334,335,336,337,338,339,340,341,342,343]
def twins:List Nat:=[3064,3024,3012,3507,3537]
def gid:FuncId->Option Nat:=ac_ tab
def sig:Nat->Option FuncId:=Ag tab twins

def uF (f:FuncId):Bool:=[307,69,70,72,118,155,156,225,271,142,143].any (Nat.beq f ·)

abbrev st0 (v:List FV)(L:List ah):St:={vars:=v,base:=[],loc:=L,aS:=false}

def kl:List (Nat × List Nat)->Nat->List Nat
 | [],_=>[]
 | (a,l)::r,id=>bif Nat.beq id a then l else kl r id
def yls:List (Nat × List Nat):=[(1506,[3507]),(1534,[3537]),(1609,[3507]),(3507,[]),(3537,[])]
def yl:List (Nat × List Nat)->Nat->List Nat
 | [],_=>[]
 | c::r,g=>bif Nat.beq g c.1 then c.2 else yl r g
noncomputable def ad4 (g:Nat) (F:Func):Option bK:=match lvs F with
 | some x=>fP Tryz.prog {gid:=aau tab (yl yls g),vars:=x.1,kills:=kl x.2,ntmps:=F.ntmps,uF:=uF,isRef:=[258,1101,1102,1138,1208,1209,1254,1298,1509,1510,3507,3537].any (Nat.beq g ·),WB:=[43,1611].any (Nat.beq g ·),far:=[1508,1512,1611].any (Nat.beq g ·)} F
 | none=>none
abbrev aD (g:Nat)(F:Func)(x:bK)(_:ad4 g F=some x:=by conv=>lhs;reduce;try dsimp):bK:=x
noncomputable def Xp (g:Nat):Option bK:=match sig g with
 | some j=>match Tryz.prog.funcs[j]? with
  | some F=>ad4 g F
  | none=>none
 | none=>none
abbrev TF:=List (Nat × bK)
def xR:TF->Prop
 | []=>True
 | p::r=>Xp p.1=some p.2/\xR r
theorem HV {p:Nat × bK}{r:TF}(h:Xp p.1=some p.2)(t:xR r):xR (p::r):=⟨h,t⟩
theorem HY:xR []:=trivial
def look:TF->Nat->Option bK
 | [],_=>none
 | p::r,g=>bif Nat.beq g p.1 then some p.2 else look r g
theorem look_ok:∀ {l:TF},xR l->∀ {g F},look l g=some F->Xp g=some F
 | [],_,_,_,h=>by cases h
 | p::r,ho,g,F,h=>by
  unfold look at h;cases hb:Nat.beq g p.1 with
  | true=>rw[hb]at h;cases h;rw[Qg2 hb];exact ho.1
  | false=>rw[hb]at h;exact look_ok ho.2 h
def c1098:Cx:={gid:=gid,vars:=[0,2,4],kills:=fun id=>bif Nat.beq id 0 then [1] else bif Nat.beq id 2 then [0,2] else bif Nat.beq id 3 then [0,2] else [],ntmps:=8,uF:=uF}
def c1100:Cx:={gid:=gid,vars:=[0,2,4],kills:=fun id=>bif Nat.beq id 0 then [1] else bif Nat.beq id 2 then [0,2] else bif Nat.beq id 3 then [0,2] else [],ntmps:=8,uF:=uF,isRef:=true}
end Fi.S
