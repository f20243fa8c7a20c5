import Derived.Test.YtgngjdakilfmoaaGreatDoorFiE
import Derived.Test.YtgngjdakilfmoaaGreatDoorChecked
namespace Fi.S
open Go Fi Go.Proofs
set_option maxHeartbeats 8000000
set_option maxRecDepth 1000000

def no:List Nat:=[0,1,223,224,221,285,263,314,315,316,317,318,319,320,321,322,323,324,325,326,327,328,329,330,331,332,333,334,335,336,337,338,339,340,341,342]
def tab:List Nat:=[0,1,2,1703,1705,1704,1702,1701,1707,1717,46,21,1126,1706,25,1090,1715,1721,1724,1046,1708,1730,1023,1714,1722,1532,12,1044,1028,1710,1712,1716,1104,1105,1718,13,34,28,53,57,58,56,35,20,55,1713,1508,1720,19,1729,1723,1725,1728,30,1061,59,1726,39,40,1043,1088,1089,1075,16,1024,1711,26,24,31,41,42,43,44,71,72,73,74,29,85,86,89,87,88,84,38,48,93,14,1020,54,49,94,1727,78,1047,47,50,51,1026,1062,1063,1064,64,67,68,69,18,79,80,81,82,83,101,66,97,99,170,171,172,169,167,98,168,77,62,45,1040,1041,1054,90,91,92,1065,1066,1067,1068,1098,1100,1101,1070,1102,1103,100,108,109,110,111,112,113,114,115,116,117,118,119,120,121,122,123,124,125,126,127,128,129,130,131,132,133,134,135,136,137,138,139,140,141,142,143,144,145,146,147,148,149,150,151,152,153,154,155,156,157,158,159,160,161,162,163,164,165,166,106,107,95,173,174,1106,1107,1108,1138,1109,255,180,181,182,183,184,185,186,187,188,189,190,191,192,193,194,195,196,197,198,199,200,103,104,201,105,202,203,204,205,206,207,208,209,210,211,212,213,214,215,216,217,218,177,1139,1208,1209,282,225,226,227,228,229,230,231,232,233,234,235,76,236,237,238,239,240,241,242,243,244,245,246,247,248,249,250,251,178,179,252,253,254,256,257,258,176,220,259,260,75,261,222,1254,266,267,268,269,270,271,272,273,274,275,276,277,278,279,280,281,223,224,283,284,219,221,262,285,102,263,264,265,1298,287,288,289,290,291,292,293,294,295,296,297,298,299,300,301,302,303,175,286,304,305,306,307,308,309,310,311,312,313,314,315,316,317,318,319,320,321,322,323,324,325,326,327,328,329,330,331,332,333,334,335,336,337,338,339,340,341,342,343]
def twins:List Nat:=[3064,3024,3012,3507,3537]
def gid:FuncId->Option Nat:=aeT tab
def sig:Nat->Option FuncId:=OL tab twins

def vD (f:FuncId):Bool:=[295,137,138,140,210,257,258,303,332,100000,100000].any (Nat.beq f ·)

abbrev st0 (v:List FV)(L:List ah):St:={vars:=v,base:=[],loc:=L,aX:=false}

def kl:List (Nat × List Nat)->Nat->List Nat
 | [],_=>[]
 | (a,l)::r,id=>bif Nat.beq id a then l else kl r id
def yls:List (Nat × List Nat):=[]
def yl:List (Nat × List Nat)->Nat->List Nat
 | [],_=>[]
 | c::r,g=>bif Nat.beq g c.1 then c.2 else yl r g
noncomputable def afQ (g:Nat) (F:Func):Option bO:=match lvs F with
 | some x=>iU Tryz.prog {gid:=an3 tab (yl yls g),vars:=x.1,kills:=kl x.2,ntmps:=F.ntmps,vD:=vD,isRef:=[258,1101,1102,1138,1208,1209,1254,1298].any (Nat.beq g ·),Yg:=[43].any (Nat.beq g ·),far:=[1508,1703,1717].any (Nat.beq g ·),lits:=[1712].any (Nat.beq g ·)} F
 | none=>none
abbrev aG (g:Nat)(F:Func)(x:bO)(_:afQ g F=some x:=by conv=>lhs;reduce;try dsimp):bO:=x
noncomputable def YU (g:Nat):Option bO:=match sig g with
 | some j=>match Tryz.prog.funcs[j]? with
  | some F=>afQ g F
  | none=>none
 | none=>none
abbrev TF:=List (Nat × bO)
def yI:TF->Prop
 | []=>True
 | p::r=>YU p.1=some p.2/\yI r
theorem Jb {p:Nat × bO}{r:TF}(h:YU p.1=some p.2)(t:yI r):yI (p::r):=⟨h,t⟩
theorem Jc:yI []:=trivial
def look:TF->Nat->Option bO
 | [],_=>none
 | p::r,g=>bif Nat.beq g p.1 then some p.2 else look r g
theorem look_ok:∀ {l:TF},yI l->∀ {g F},look l g=some F->YU g=some F
 | [],_,_,_,h=>by cases h
 | p::r,ho,g,F,h=>by
  unfold look at h;cases hb:Nat.beq g p.1 with
  | true=>rw[hb]at h;cases h;rw[Ql0 hb];exact ho.1
  | false=>rw[hb]at h;exact look_ok ho.2 h
def c1098:Cx:={gid:=gid,vars:=[0,2,4],kills:=fun id=>bif Nat.beq id 0 then [1] else bif Nat.beq id 2 then [0,2] else bif Nat.beq id 3 then [0,2] else [],ntmps:=8,vD:=vD}
def c1100:Cx:={gid:=gid,vars:=[0,2,4],kills:=fun id=>bif Nat.beq id 0 then [1] else bif Nat.beq id 2 then [0,2] else bif Nat.beq id 3 then [0,2] else [],ntmps:=8,vD:=vD,isRef:=true}
end Fi.S
