import Derived.Test.YtblpbpnilkfjhaaGreatR6Blk
import Derived.Test.YtblpbpnilkfjhaaGreatR6FacP
import Derived.Test.YtblpbpnilkfjhaaGreatR6FacS
set_option linter.unusedVariables false
set_option linter.unusedSimpArgs false
set_option linter.defProp false
set_option maxRecDepth 100000
set_option linter.unusedVariables false
namespace Go.Ab
open Go.Proofs
section
variable (s:Sys) (k wl n n0 m0:Nat) (a b c d e g i j l m o p q r u v w x y z A B C D E F G I J L M N O Q R S T U:V) (h:Hp) (P:Program) (zz:List V) (K:Out→St→Option (V×Hp)) (rd:Bool) (ac:List Nat×List Nat) (cx:Cx) (s0:St)
noncomputable def Gi:Code:=ai (aj Tryz.f21) [1,0,1,0,0]
noncomputable def Mr:List Fr:=[.block 0,.seq (ai (aj Tryz.f21) [1,1])]
noncomputable def LG:Code:=ai (aj Tryz.f21) [1,0,1,0,0,0,0]
noncomputable def HM:List Fr:=[.seq (ai (aj Tryz.f21) [1,0,1,0,0,0,1]),.seq (ai (aj Tryz.f21) [1,0,1,0,0,1])]
def apr:=(yB5 s k wl 21 Tryz.f21 [.u,.b false,.i 0] 3 [.mv 1 5,.mv 2 6,.lo Gi [4,17] Mr] 23 [a] h :)
def apw:=(yE5 k wl 21 Tryz.f21 [a] h :)
def aoV:=(yZ5 P Tryz.f21 [.u] 1 [.rv 3] (a::b::c::zz) h :)
def ahv:=(rL5 s k wl 21 rd Gi n0 K n [.u,.b true,.i 40,.b false] 4 [.rg,.mv 7 8,.mv 4 9,.le 24 9 10,.bo .lss 3 8 10 11,.mv 11 12,.gd 12 [.mv 1 12,.mv 7 13,.bo .leq 3 13 2 14,.sg LG 7 HM] [.mv 3 12,.mv 0 13,.mv 0 14,.sg LG 7 HM] [.mv 0 13,.sg LG 6 HM]] (a::b::c::d::e::g::i::j::l::m::o::zz) h :)
def WJ:=(jB5 s k wl 21 Tryz.f21 Mr (.exit 0) [.u,.i 40] 2 [.mv 2 23,.le 24 23 24,.bo .leq 3 24 1 25,.mv 25 4,.rv 4] [a,b,c,d,e,g,i,j,l,m,o,p,q,r,u,v,w,x,y,z,A,B,C,D] h :)
def WP:=(gL5 s k wl 21 rd Gi n0 K n LG 7 HM [.u,.b false,.i 40,.i 1] 4 [.pk 12 14 1 15,.cn 15 [.mv 4 18,.mv 7 19,.ia 24 18 19 20,.fa 101 20 1 21,.ld 53 21 22,.le 53 22 23,.bo .gtr 3 23 2 24,.cn 24 [.mv 1 6,.kf .ret] [.mv 7 16,.bo .add 3 16 3 17,.mv 17 7,.nx Gi [4,17]]] [.kt (.exit 0) [4,17]]] [a,b,c,d,e,g,i,j,l,m,o,p,q,r,u,v,w,x,y,z,A,B,C,D] h m0 ac :)
def D2:=(yK5 cx K Mr s0 :)
def Dp:=(yK5 cx K HM s0 :)
noncomputable def Lh:Code:=ai (aj Tryz.f56) [1,0,0]
noncomputable def GC:List Fr:=[.seq (ai (aj Tryz.f56) [1,0,1]),.seq (ai (aj Tryz.f56) [1,1])]
noncomputable def Xh:Code:=ai (aj Tryz.f56) [1,1,1,0,1,0]
noncomputable def GW:Code:=ai (aj Tryz.f56) [1,1,1,0,1,0,0]
noncomputable def G2:Code:=ai (aj Tryz.f56) [1,1,1,0,1,0,1]
noncomputable def DD:List Fr:=[.block 0,.seq (ai (aj Tryz.f56) [1,1,1,1])]
noncomputable def wX:Code:=ai (aj Tryz.f56) [1,1,1,0,1,0,1,0,0,0]
noncomputable def u3:List Fr:=[.seq (ai (aj Tryz.f56) [1,1,1,0,1,0,1,0,0,1]),.seq (ai (aj Tryz.f56) [1,1,1,0,1,0,1,0,1]),.block 1]
theorem BY:Xh = .rangeFunc (.tmp 17) #[18,19] GW G2:=by kernel_rfl
def anX:=(yB5 s k wl 56 Tryz.f56 [.u,.i 30,.b true,.b false,.f 98,.f 99] 6 [.bx 6 7,.al 4 8,.rg,.ld 24 7 12,.le 24 12 13,.bo .gtr 3 13 1 14,.mv 14 15,.gd 15 [.mv 2 15,.sg Lh 6 GC] [.mv 3 15,.ld 24 7 16,.ca false true 4 [16,5] 17,.sg Lh 6 GC] [.sg Lh 5 GC]] 37 [a] h :)
def aix:=(yE5 k wl 56 Tryz.f56 [a] h :)
def aoH:=(yZ5 P Tryz.f56 [.u] 1 [.ro [(some 4,3)]] (a::b::c::zz) h :)
def RD:=(gB5 s k wl 56 Tryz.f56 Lh 6 GC [.u,.b true,.b false,.f 100] 4 [.pk 13 1 15 16,.cn 16 [.st 4 6 2,.ro [(some 4,6)]] [.ld 24 5 17,.le 24 17 18,.ms 150 18 18 19,.al 150 7,.st 150 7 19,.ld 24 5 20,.ca false true 3 [20] 21,.rf Xh DD]] (a::b::c::d::e::g::i::j::l::m::o::p::q::r::u::v::w::x::zz) h m0 ac :)
def QQ:=(jB5 s k wl 56 Tryz.f56 DD .norm [.u,.b true] 2 [.st 4 4 1,.ro [(some 4,4)]] (a::b::c::zz) h :)
def gW:=(qF5 s k wl 56 rd K G2 [.u,.b true,.b false] 3 [.rg,.mv 7 23,.mv 8 24,.bo .leq 3 23 24 25,.mv 25 26,.gd 26 [.mv 1 26,.mv 0 27,.mv 0 28,.mv 0 29,.mv 0 30,.sg wX 8 u3] [.mv 2 26,.mv 7 27,.ld 24 4 28,.le 24 28 29,.bo .geq 3 27 29 30,.sg wX 8 u3] [.mv 0 27,.sg wX 5 u3]] (a::b::c::d::e::g::i::j::l::m::o::p::q::r::u::v::w::x::y::z::A::B::C::D::E::F::G::I::zz) h :)
def iv:=(qF5 s k wl 56 rd K GW [.u] 1 [.mv 19 5,.mv 20 6,.kf .norm] (a::b::c::d::e::g::i::j::l::m::o::p::q::r::u::v::w::x::y::z::zz) h :)
def PR:=(gF5 s k wl 56 rd K wX 8 u3 [.u,.b true,.b false] 3 [.pk 26 1 30 31,.mv 31 32,.gd 32 [.mv 1 32,.mv 0 33,.mv 0 34,.mv 0 35,.mv 0 36,.sg wX 14 u3] [.mv 2 32,.ld 150 6 33,.mv 7 34,.ia 150 33 34 35,.ld 4 35 36,.sg wX 14 u3] [.mv 0 33,.sg wX 11 u3]] (a::b::c::d::e::g::i::j::l::m::o::p::q::r::u::v::w::x::y::z::A::B::C::D::E::F::G::I::J::L::M::N::O::Q::zz) h m0 ac :)
def Qe:=(gF5 s k wl 56 rd K wX 14 u3 [.u,.b true,.b false] 3 [.pk 32 1 36 37,.cn 37 [.st 4 5 2,.kf .ret] [.ld 150 6 38,.mv 7 39,.ia 150 38 39 40,.st 4 40 1,.kf .norm]] [a,b,c,d,e,g,i,j,l,m,o,p,q,r,u,v,w,x,y,z,A,B,C,D,E,F,G,I,J,L,M,N,O,Q,R,S,T,U] h m0 ac :)
def wz:=(yK5 cx K GC s0 :)
def wh:=(yK5 cx K DD s0 :)
def wo:=(yK5 cx K u3 s0 :)
noncomputable def D5:Code:=ai (aj Tryz.f57) [1,1,1,0,1,0,0]
noncomputable def Gg:List Fr:=[.block 0,.seq (ai (aj Tryz.f57) [1,1,1,1])]
def adL:=(yB5 s k wl 57 Tryz.f57 [.u,.f 56,.i 0] 3 [.nl 5,.mv 3 8,.ca false true 1 [8] 9,.un .not 9 10,.cn 10 [.nl 5,.rv 5] [.nl 6,.mv 3 11,.le 24 11 12,.mv 2 13,.lo D5 [11,11] Gg]] 22 [a] h :)
def afy:=(yE5 k wl 57 Tryz.f57 [a] h :)
def agn:=(yZ5 P Tryz.f57 [.u] 1 [.rv 3] (a::b::c::zz) h :)
def ad5:=(rL5 s k wl 57 rd D5 n0 K n [.u,.f 101,.i (-1),.i 1] 4 [.bo .lss 3 14 13 15,.cn 15 [.mv 14 16,.mv 16 8,.mv 4 17,.mv 8 18,.ca false true 1 [17,18] 19,.bo .eql 3 19 2 20,.cn 20 [.mv 7 21,.mv 8 22,.bS false 53 1 [(0,22)] 23,.ap 53 53 21 23 24,.mv 24 7,.bo .add 3 14 3 25,.mv 25 14,.nx D5 [11,11]] [.bo .add 3 14 3 25,.mv 25 14,.nx D5 [11,11]]] [.kt (.exit 0) [10,12]]] [a,b,c,d,e,g,i,j,l,m,o,p,q,r,u,v,w,x,y,z,A,B,C] h :)
def GF:=(jB5 s k wl 57 Tryz.f57 Gg (.exit 0) [.u] 1 [.mv 4 23,.mv 23 3,.rv 3] [a,b,c,d,e,g,i,j,l,m,o,p,q,r,u,v,w,x,y,z,A,B,C] h :)
def nG:=(yK5 cx K Gg s0 :)
def ahN:=(yB5 s k wl 98 Tryz.f98 [.u,.b false,.f 147,.i 0] 4 [.mv 1 8,.mv 4 9,.mv 5 10,.ca false true 2 [9,10] 11,.bo .geq 3 11 3 12,.mv 12 8,.rv 8] 7 [a,b] h :)
def ahV:=(yE5 k wl 98 Tryz.f98 [a,b] h :)
noncomputable def ME:Code:=ai (aj Tryz.f99) [1,0]
noncomputable def G3:List Fr:=[.seq (ai (aj Tryz.f99) [1,1])]
def ahW:=(yB5 s k wl 99 Tryz.f99 [.u,.b false,.i 0,.b true,.i 20] 5 [.bx 5 6,.mv 1 7,.rg,.fa 101 6 0 8,.ld 3 8 9,.bo .lss 3 9 2 10,.mv 10 11,.gd 11 [.mv 3 11,.sg ME 7 G3] [.mv 1 11,.fa 101 6 0 12,.ld 3 12 13,.bo .gtr 3 13 4 14,.sg ME 7 G3] [.sg ME 5 G3]] 10 [a] h :)
def ahX:=(yE5 k wl 99 Tryz.f99 [a] h :)
def Lv:=(gB5 s k wl 99 Tryz.f99 ME 7 G3 [.u,.b true] 2 [.pk 8 1 11 12,.mv 12 4,.rv 4] [a,b,c,d,e,g,i,j,l,m,o] h m0 ac :)
def pQ:=(yK5 cx K G3 s0 :)
def M8:=(yB5 s k wl 100 Tryz.f100 [.u,.v (f9 Value.nilFunc)] 2 [.bx 2 3,.mv 1 4,.fn 148 [] [3] 5,.mv 5 4,.rv 4] 3 [a] h :)
def Ol:=(yE5 k wl 100 Tryz.f100 [a] h :)
noncomputable def EN:Code:=ai (aj Tryz.f147) [1,0,1,0,0]
noncomputable def E5:List Fr:=[.block 0,.seq (ai (aj Tryz.f147) [1,1])]
def ND:=(yB5 s k wl 147 Tryz.f147 [.u,.i 0] 2 [.mv 1 6,.mv 2 8,.le 24 8 9,.mv 1 10,.lo EN [9] E5] 17 [a,b] h :)
def N5:=(yE5 k wl 147 Tryz.f147 [a,b] h :)
def MY:=(yZ5 P Tryz.f147 [.u] 1 [.rv 5] (a::b::c::d::e::zz) h :)
def XX:=(rL5 s k wl 147 rd EN n0 K n [.u,.i 1] 2 [.bo .lss 3 10 9 11,.cn 11 [.mv 10 12,.mv 12 7,.mv 3 13,.mv 2 14,.mv 7 15,.ia 24 14 15 16,.ld 101 16 17,.ca false true 13 [17] 18,.cn 18 [.mv 7 19,.mv 19 6,.kf .ret] [.bo .add 3 10 1 20,.mv 20 10,.nx EN [9]]] [.kt (.exit 0) [8]]] [a,b,c,d,e,g,i,j,l,m,o,p,q,r,u,v,w,x,y] h :)
def wI:=(jB5 s k wl 147 Tryz.f147 E5 (.exit 0) [.u,.i (-1)] 2 [.mv 1 6,.rv 6] (a::b::c::d::e::zz) h :)
def kg:=(yK5 cx K E5 s0 :)
noncomputable def mV:Code:=ai (aj Tryz.f148) [1,0,0]
noncomputable def od:List Fr:=[.block 0]
noncomputable def Bg:Code:=ai (aj Tryz.f148) [1,0,0,1,1,0,0,1,1,0,0]
noncomputable def Be:List Fr:=[.block 2,.block 1,.seq (ai (aj Tryz.f148) [1,0,0,1,1,1])]
def NI:=(yB5 s k wl 148 Tryz.f148 [.u,.i 0] 2 [.ld 24 3 9,.le 24 9 10,.mv 1 11,.lo mV [10] od] 26 [a,b] h :)
def NW:=(yE5 k wl 148 Tryz.f148 [a,b] h :)
def M0:=(yZ5 P Tryz.f148 [.u] 1 [.rt []] zz h :)
def R9:=(rL5 s k wl 148 rd mV n0 K n [.u,.i 0] 2 [.bo .lss 3 11 10 12,.cn 12 [.mv 11 13,.ia 24 9 11 14,.ld 101 14 15,.al 101 6,.mv 13 5,.st 101 6 15,.fa 101 6 1 16,.ld 53 16 17,.le 53 17 18,.mv 1 19,.lo Bg [18,9] Be] [.kt (.exit 0) [9]]] [a,b,c,d,e,g,i,j,l,m,o,p,q,r,u,v,w,x,y,z,A,B,C,D,E,F,G,I] h :)
def wF:=(jB5 s k wl 148 Tryz.f148 od (.exit 0) [.u] 1 [.rt []] zz h :)
def QM:=(rL5 s k wl 148 rd Bg n0 K n [.u,.i 1] 2 [.bo .lss 3 19 18 20,.cn 20 [.ia 53 17 19 21,.ld 3 21 22,.mv 22 8,.mv 2 23,.mv 8 24,.mv 5 25,.ca false true 23 [24,25] 26,.un .not 26 27,.cn 27 [.kf .ret] [.bo .add 3 19 1 28,.mv 28 19,.nx Bg [18,9]]] [.kt (.exit 2) [17,10]]] [a,b,c,d,e,g,i,j,l,m,o,p,q,r,u,v,w,x,y,z,A,B,C,D,E,F,G,I] h :)
def wM:=(jL5 s k wl 148 rd mV n0 K n Be (.exit 2) [.u,.i 1] 2 [.bo .add 3 11 1 29,.mv 29 11,.nx mV [10]] [a,b,c,d,e,g,i,j,l,m,o,p,q,r,u,v,w,x,y,z,A,B,C,D,E,F,G,I] h :)
def iV:=(yK5 cx K od s0 :)
def i9:=(yK5 cx K Be s0 :)
noncomputable def BG:Code:=ai (aj Tryz.f97) [1,0,1,0,0]
noncomputable def Cf:List Fr:=[.block 0,.seq (ai (aj Tryz.f97) [1,1])]
def KI:=(yB5 s k wl 97 Tryz.f97 [.u,.i 0] 2 [.mv 1 6,.mv 2 8,.le 53 8 9,.mv 1 10,.lo BG [9] Cf] 17 [a,b] h :)
def LK:=(yE5 k wl 97 Tryz.f97 [a,b] h :)
def La:=(yZ5 P Tryz.f97 [.u] 1 [.rv 5] (a::b::c::d::e::zz) h :)
def MF:=(rL5 s k wl 97 rd BG n0 K n [.u,.i 1] 2 [.bo .lss 3 10 9 11,.cn 11 [.mv 10 12,.mv 12 7,.mv 3 13,.mv 2 14,.mv 7 15,.ia 53 14 15 16,.ld 3 16 17,.ca false true 13 [17] 18,.cn 18 [.mv 7 19,.mv 19 6,.kf .ret] [.bo .add 3 10 1 20,.mv 20 10,.nx BG [9]]] [.kt (.exit 0) [8]]] [a,b,c,d,e,g,i,j,l,m,o,p,q,r,u,v,w,x,y] h :)
def mQ:=(jB5 s k wl 97 Tryz.f97 Cf (.exit 0) [.u,.i (-1)] 2 [.mv 1 6,.rv 6] (a::b::c::d::e::zz) h :)
def cO:=(yK5 cx K Cf s0 :)
def Sk:=(yB5 s k wl 55 Tryz.f55 [.u,.b false,.f 97,.i 0] 4 [.mv 1 8,.mv 4 9,.mv 5 10,.ca false true 2 [9,10] 11,.bo .geq 3 11 3 12,.mv 12 8,.rv 8] 7 [a,b] h :)
def Sf:=(yE5 k wl 55 Tryz.f55 [a,b] h :)
def Sq:=(yB5 s k wl 52 Tryz.f52 [.u,.b false,.f 96,.i 0] 4 [.mv 1 8,.mv 4 9,.mv 5 10,.ca false true 2 [9,10] 11,.bo .geq 3 11 3 12,.mv 12 8,.rv 8] 7 [a,b] h :)
def S2:=(yE5 k wl 52 Tryz.f52 [a,b] h :)
noncomputable def Ea:Code:=ai (aj Tryz.f96) [1,0,1,0,0]
noncomputable def D6:List Fr:=[.block 0,.seq (ai (aj Tryz.f96) [1,1])]
def NL:=(yB5 s k wl 96 Tryz.f96 [.u,.i 0] 2 [.mv 1 6,.mv 2 8,.le 28 8 9,.mv 1 10,.lo Ea [9] D6] 17 [a,b] h :)
def NK:=(yE5 k wl 96 Tryz.f96 [a,b] h :)
def Nc:=(yZ5 P Tryz.f96 [.u] 1 [.rv 5] (a::b::c::d::e::zz) h :)
def Ri:=(rL5 s k wl 96 rd Ea n0 K n [.u,.i 1] 2 [.bo .lss 3 10 9 11,.cn 11 [.mv 10 12,.mv 12 7,.mv 3 13,.mv 2 14,.mv 7 15,.ia 28 14 15 16,.ld 57 16 17,.ca false true 13 [17] 18,.cn 18 [.mv 7 19,.mv 19 6,.kf .ret] [.bo .add 3 10 1 20,.mv 20 10,.nx Ea [9]]] [.kt (.exit 0) [8]]] [a,b,c,d,e,g,i,j,l,m,o,p,q,r,u,v,w,x,y] h :)
def na:=(jB5 s k wl 96 Tryz.f96 D6 (.exit 0) [.u,.i (-1)] 2 [.mv 1 6,.rv 6] (a::b::c::d::e::zz) h :)
def dm:=(yK5 cx K D6 s0 :)
noncomputable def L2:Code:=ai (aj Tryz.f61) [1,0,1,0,0]
noncomputable def LF:List Fr:=[.block 0,.seq (ai (aj Tryz.f61) [1,1])]
def apk:=(yB5 s k wl 61 Tryz.f61 [.u,.i 0] 2 [.mv 1 6,.mv 2 8,.le 53 8 9,.mv 1 10,.lo L2 [9] LF] 17 [a,b] h :)
def ao7:=(yE5 k wl 61 Tryz.f61 [a,b] h :)
def apy:=(yZ5 P Tryz.f61 [.u] 1 [.rv 5] (a::b::c::d::e::zz) h :)
def ahu:=(rL5 s k wl 61 rd L2 n0 K n [.u,.i 1] 2 [.bo .lss 3 10 9 11,.cn 11 [.mv 10 12,.mv 12 7,.mv 3 13,.mv 2 14,.mv 7 15,.ia 53 14 15 16,.ld 3 16 17,.bo .eql 3 13 17 18,.cn 18 [.mv 7 19,.mv 19 6,.kf .ret] [.bo .add 3 10 1 20,.mv 20 10,.nx L2 [9]]] [.kt (.exit 0) [8]]] [a,b,c,d,e,g,i,j,l,m,o,p,q,r,u,v,w,x,y] h :)
def XA:=(jB5 s k wl 61 Tryz.f61 LF (.exit 0) [.u,.i (-1)] 2 [.mv 1 6,.rv 6] (a::b::c::d::e::zz) h :)
def Dz:=(yK5 cx K LF s0 :)
noncomputable def Pv:Code:=ai (aj Tryz.f101) [1,0,1,0,1,0]
noncomputable def Cg:Code:=ai (aj Tryz.f101) [1,0,1,0,1,0,0]
noncomputable def BK:Code:=ai (aj Tryz.f101) [1,0,1,0,1,0,1]
noncomputable def wq:List Fr:=[.block 0,.seq (ai (aj Tryz.f101) [1,1])]
theorem wb:Pv = .rangeFunc (.tmp 10) #[11,12] Cg BK:=by kernel_rfl
def Ym:=(yB5 s k wl 101 Tryz.f101 [.u,.f 56,.f 100,.i (-1)] 4 [.bx 5 7,.al 3 8,.mv 4 11,.ca false true 1 [11] 12,.cn 12 [.mv 4 13,.ca false true 2 [13] 14,.rf Pv wq] [.st 3 8 3,.ro [(some 3,8)]]] 15 [a,b] h :)
def acD:=(yE5 k wl 101 Tryz.f101 [a,b] h :)
def aai:=(yZ5 P Tryz.f101 [.u] 1 [.ro [(some 3,5)]] (a::b::c::d::e::zz) h :)
def IM:=(jB5 s k wl 101 Tryz.f101 wq .norm [.u,.i (-1)] 2 [.st 3 6 1,.ro [(some 3,6)]] (a::b::c::d::e::zz) h :)
def gI:=(qF5 s k wl 101 rd K BK [.u] 1 [.mv 6 14,.ld 3 4 15,.bo .eql 3 14 15 16,.cn 16 [.mv 7 17,.st 3 5 17,.kf .ret] [.kf .norm]] [a,b,c,d,e,g,i,j,l,m,o,p,q,r,u,v,w] h :)
def gE:=(qF5 s k wl 101 rd K Cg [.u] 1 [.mv 12 6,.mv 13 7,.kf .norm] (a::b::c::d::e::g::i::j::l::m::o::p::q::zz) h :)
def rO:=(yK5 cx K wq s0 :)
end
end Go.Ab
set_option maxRecDepth 100000
set_option linter.unusedVariables false
namespace Go.Ab
open Go.Proofs
section
variable (s:Sys) (k wl m0:Nat) (a b c d e g i j l m o p q r u v w x y z A B C D E F G I J L:V) (h:Hp) (ac:List Nat×List Nat) (zz:List V) (cx:Cx) (K:Out→St→Option (V×Hp)) (s0:St)
def apZ:=(yB5 s k wl 27 Tryz.f27 [.u,.v (.lit (.int .u64 0)),.f 66] 3 [.mv 1 7,.mv 3 8,.mv 4 9,.ca false true 2 [8,9] 10,.un .not 10 11,.cn 11 [.mv 1 7,.rv 7] [.mv 3 12,.mv 4 13,.ia 26 12 13 14,.ld 46 14 15,.mv 15 7,.rv 7]] 11 [a,b] h :)
def ard:=(yE5 k wl 27 Tryz.f27 [a,b] h :)
def arf:=(yB5 s k wl 32 Tryz.f32 [.u,.i 0,.f 70] 3 [.bx 3 5,.bx 4 6,.mv 1 7,.ld 23 5 8,.ld 3 6 9,.fn 71 [] [5,6] 10,.ca false true 2 [8,9,10] 11,.mv 11 7,.rv 7] 7 [a,b] h :)
def apV:=(yE5 k wl 32 Tryz.f32 [a,b] h :)
noncomputable def lB:Code:=ai (aj Tryz.f50) [1,0]
noncomputable def kK:List Fr:=[.seq (ai (aj Tryz.f50) [1,1])]
def apU:=(yB5 s k wl 50 Tryz.f50 [.u,.b false,.f 93,.i 1,.i 8,.b true,.i 16] 7 [.bx 7 8,.mv 1 9,.rg,.fa 23 8 0 10,.ld 3 10 11,.ca false true 2 [11,3,4] 12,.mv 12 13,.gd 13 [.mv 5 13,.fa 23 8 1 14,.ld 3 14 15,.ca false true 2 [15,3,6] 16,.sg lB 7 kK] [.mv 1 13,.sg lB 7 kK] [.sg lB 5 kK]] 29 [a] h :)
def aq1:=(yE5 k wl 50 Tryz.f50 [a] h :)
def afB:=(gB5 s k wl 50 Tryz.f50 lB 7 kK [.u,.b false,.b true,.i 1,.i 0] 5 [.pk 11 14 1 15,.mv 15 16,.gd 16 [.mv 2 16,.fa 23 6 1 17,.ld 3 17 18,.fa 23 6 1 19,.ld 3 19 20,.bo .sub 3 20 3 21,.bo .and 3 18 21 22,.bo .eql 3 22 4 23,.sg lB 16 kK] [.mv 1 16,.mv 0 17,.mv 0 18,.mv 0 19,.mv 0 20,.mv 0 21,.mv 0 22,.mv 0 23,.sg lB 16 kK] [.mv 0 17,.sg lB 10 kK]] (a::b::c::d::e::g::i::j::l::m::o::p::q::r::u::v::w::x::y::zz) h m0 ac :)
def afv:=(gB5 s k wl 50 Tryz.f50 lB 16 kK [.u,.b false,.b true,.f 93,.i 1,.i 16] 6 [.pk 17 24 1 25,.mv 25 26,.gd 26 [.mv 2 26,.fa 23 7 2 27,.ld 3 27 28,.ca false true 3 [28,4,5] 29,.sg lB 21 kK] [.mv 1 26,.mv 0 27,.mv 0 28,.mv 0 29,.sg lB 21 kK] [.mv 0 27,.sg lB 19 kK]] (a::b::c::d::e::g::i::j::l::m::o::p::q::r::u::v::w::x::y::z::A::B::C::D::zz) h m0 ac :)
def agV:=(gB5 s k wl 50 Tryz.f50 lB 21 kK [.u,.b false,.b true,.f 93,.i 0,.i 4] 6 [.pk 26 29 1 30,.mv 30 31,.gd 31 [.mv 2 31,.fa 23 7 3 32,.ld 3 32 33,.ca false true 3 [33,4,5] 34,.sg lB 26 kK] [.mv 1 31,.mv 0 32,.mv 0 33,.mv 0 34,.sg lB 26 kK] [.mv 0 32,.sg lB 24 kK]] [a,b,c,d,e,g,i,j,l,m,o,p,q,r,u,v,w,x,y,z,A,B,C,D,E,F,G,I,J,L] h m0 ac :)
def agj:=(gB5 s k wl 50 Tryz.f50 lB 26 kK [.u,.b false] 2 [.pk 27 30 1 31,.mv 31 4,.rv 4] [a,b,c,d,e,g,i,j,l,m,o,p,q,r,u,v,w,x,y,z,A,B,C,D,E,F,G,I,J,L] h m0 ac :)
def OA:=(yK5 cx K kK s0 :)
noncomputable def Lz:Code:=ai (aj Tryz.f66) [1,0]
noncomputable def HV:List Fr:=[.seq (ai (aj Tryz.f66) [1,1])]
def apW:=(yB5 s k wl 66 Tryz.f66 [.u,.b false,.i 0,.b true] 4 [.mv 1 8,.rg,.mv 5 9,.bo .geq 3 9 2 10,.mv 10 11,.gd 11 [.mv 3 11,.mv 5 12,.mv 4 13,.le 26 13 14,.bo .lss 3 12 14 15,.sg Lz 7 HV] [.mv 1 11,.sg Lz 7 HV] [.sg Lz 4 HV]] 11 [a,b] h :)
def aqI:=(yE5 k wl 66 Tryz.f66 [a,b] h :)
def aga:=(gB5 s k wl 66 Tryz.f66 Lz 7 HV [.u,.b false] 2 [.pk 9 13 1 14,.mv 14 6,.rv 6] [a,b,c,d,e,g,i,j,l,m,o,p,q] h m0 ac :)
def Oy:=(yK5 cx K HV s0 :)
noncomputable def wY:Code:=ai (aj Tryz.f69) [1,0]
noncomputable def uA:List Fr:=[.seq (ai (aj Tryz.f69) [1,1])]
def arj:=(yB5 s k wl 69 Tryz.f69 [.u,.b false,.i 5,.b true,.f 110] 5 [.bx 5 6,.mv 1 7,.rg,.fa 55 6 0 8,.ld 3 8 9,.bo .eql 3 9 2 10,.mv 10 11,.gd 11 [.mv 3 11,.ld 55 6 12,.ca false true 4 [12] 13,.un .not 13 14,.sg wY 7 uA] [.mv 1 11,.sg wY 7 uA] [.sg wY 5 uA]] 15 [a] h :)
def ap0:=(yE5 k wl 69 Tryz.f69 [a] h :)
def adl:=(gB5 s k wl 69 Tryz.f69 wY 7 uA [.u,.b false,.b true,.i 3] 4 [.pk 10 13 1 14,.mv 14 15,.gd 15 [.mv 2 15,.fa 55 5 1 16,.ld 3 16 17,.bo .eql 3 17 3 18,.sg wY 12 uA] [.mv 1 15,.mv 0 16,.mv 0 17,.mv 0 18,.sg wY 12 uA] [.mv 0 16,.sg wY 10 uA]] [a,b,c,d,e,g,i,j,l,m,o,p,q,r,u,v] h m0 ac :)
def aeJ:=(gB5 s k wl 69 Tryz.f69 wY 12 uA [.u,.b false] 2 [.pk 13 16 1 17,.mv 17 4,.rv 4] [a,b,c,d,e,g,i,j,l,m,o,p,q,r,u,v] h m0 ac :)
def OE:=(yK5 cx K uA s0 :)
noncomputable def Mm:Code:=ai (aj Tryz.f70) [1,0,0]
noncomputable def GR:List Fr:=[.seq (ai (aj Tryz.f70) [1,0,1]),.seq (ai (aj Tryz.f70) [1,1])]
def ac0:=(yB5 s k wl 70 Tryz.f70 [.u,.i 0,.f 50,.b true,.b false,.i 1,.f 93] 7 [.bx 7 10,.mv 1 13,.rg,.ld 23 10 14,.ca false true 2 [14] 15,.un .not 15 16,.mv 16 17,.gd 17 [.mv 3 17,.sg Mm 10 GR] [.mv 4 17,.mv 8 18,.fa 23 10 0 19,.ld 3 19 20,.bo .sub 3 20 5 21,.ca false true 6 [18,1,21] 22,.un .not 22 23,.sg Mm 10 GR] [.sg Mm 5 GR]] 17 [a,b,c] h :)
def ac1:=(yE5 k wl 70 Tryz.f70 [a,b,c] h :)
def Dw:=(gB5 s k wl 70 Tryz.f70 Mm 10 GR [.u,.b true,.i (-1)] 3 [.pk 13 1 19 20,.cn 20 [.mv 2 9,.rv 9] [.mv 5 21,.ca false true 21 [] 22,.mv 22 9,.rv 9]] [a,b,c,d,e,g,i,j,l,m,o,p,q,r,u,v,w,x,y,z] h m0 ac :)
def lS:=(yK5 cx K GR s0 :)
def aqq:=(yB5 s k wl 71 Tryz.f71 [.u,.i 0,.f 72,.i 2] 4 [.mv 1 6,.ld 23 4 7,.ld 3 5 8,.ca false true 2 [7,8] 9,.bo .add 3 9 3 10,.mv 10 6,.rv 6] 5 [a,b] h :)
def arc:=(yE5 k wl 71 Tryz.f71 [a,b] h :)
def aqY:=(yB5 s k wl 72 Tryz.f72 [.u,.i 0,.i 2,.i 6,.i 3] 5 [.bx 5 7,.mv 1 9,.fa 23 7 2 10,.ld 3 10 11,.bo .mul 3 2 11 12,.bo .add 3 3 12 13,.mv 6 14,.fa 23 7 1 15,.ld 3 15 16,.bo .add 3 4 16 17,.bo .mul 3 14 17 18,.bo .add 3 13 18 19,.mv 19 9,.rv 9] 13 [a,b] h :)
def aqT:=(yE5 k wl 72 Tryz.f72 [a,b] h :)
def aq7:=(yB5 s k wl 88 Tryz.f88 [.u,.f 143] 2 [.bx 4 7,.nl 8,.mv 2 12,.mv 3 13,.fn 144 [] [7] 14,.ca false true 1 [12,13,14] 15,.mv 15 11,.ex 11 0 16,.ex 11 1 17,.mv 16 9,.mv 17 10,.mv 9 18,.mv 18 8,.rv 8] 14 [a,b,c] h :)
def aqh:=(yE5 k wl 88 Tryz.f88 [a,b,c] h :)
noncomputable def KX:Code:=ai (aj Tryz.f93) [1,0]
noncomputable def G6:List Fr:=[.seq (ai (aj Tryz.f93) [1,1])]
def aqn:=(yB5 s k wl 93 Tryz.f93 [.u,.b false,.b true] 3 [.mv 1 9,.rg,.mv 3 10,.mv 4 11,.bo .geq 3 10 11 12,.mv 12 13,.gd 13 [.mv 2 13,.mv 3 14,.mv 5 15,.bo .leq 3 14 15 16,.sg KX 7 G6] [.mv 1 13,.sg KX 7 G6] [.sg KX 5 G6]] 12 [a,b,c] h :)
def aqd:=(yE5 k wl 93 Tryz.f93 [a,b,c] h :)
def ahy:=(gB5 s k wl 93 Tryz.f93 KX 7 G6 [.u,.b false] 2 [.pk 12 15 1 16,.mv 16 8,.rv 8] [a,b,c,d,e,g,i,j,l,m,o,p,q,r,u] h m0 ac :)
def MZ:=(yK5 cx K G6 s0 :)
def anI:=(yB5 s k wl 103 Tryz.f103 [.u,.i 0,.f 50,.f 72] 4 [.bx 4 5,.mv 1 6,.ld 23 5 7,.ca false true 2 [7] 8,.un .not 8 9,.cn 9 [.mv 1 6,.rv 6] [.ld 23 5 10,.fa 23 5 0 11,.ld 3 11 12,.ca false true 3 [10,12] 13,.mv 13 6,.rv 6]] 9 [a] h :)
def ajj:=(yE5 k wl 103 Tryz.f103 [a] h :)
def aiZ:=(yB5 s k wl 104 Tryz.f104 [.u] 1 [.al 55 7,.mv 1 8,.mv 2 9,.mv 3 10,.bu 55 [(0,8),(2,9),(3,10)] 11,.st 55 7 11,.ro [(some 55,7)]] 8 [a,b,c] h :)
def aor:=(yE5 k wl 104 Tryz.f104 [a,b,c] h :)
def ak1:=(yB5 s k wl 107 Tryz.f107 [.u,.i 0,.f 70] 3 [.bx 3 5,.bx 4 6,.mv 1 7,.ld 23 5 8,.ld 3 6 9,.fn 149 [] [5,6] 10,.ca false true 2 [8,9,10] 11,.mv 11 7,.rv 7] 7 [a,b] h :)
def amC:=(yE5 k wl 107 Tryz.f107 [a,b] h :)
def aj0:=(yB5 s k wl 108 Tryz.f108 [.u,.i 0,.f 70] 3 [.bx 3 5,.bx 4 6,.mv 1 7,.ld 23 5 8,.ld 3 6 9,.fn 150 [] [5,6] 10,.ca false true 2 [8,9,10] 11,.mv 11 7,.rv 7] 7 [a,b] h :)
def anu:=(yE5 k wl 108 Tryz.f108 [a,b] h :)
def am9:=(yB5 s k wl 109 Tryz.f109 [.u,.i 0,.f 70] 3 [.bx 3 6,.bx 4 7,.bx 5 8,.mv 1 9,.ld 23 6 10,.ld 3 7 11,.fn 151 [] [6,7,8] 12,.ca false true 2 [10,11,12] 13,.mv 13 9,.rv 9] 8 [a,b,c] h :)
def akE:=(yE5 k wl 109 Tryz.f109 [a,b,c] h :)
def anx:=(yB5 s k wl 110 Tryz.f110 [.u,.b false,.i 0] 3 [.bx 3 4,.mv 1 5,.fa 55 4 6 6,.ld 3 6 7,.bo .neq 3 7 2 8,.mv 8 5,.rv 5] 5 [a] h :)
def aiH:=(yE5 k wl 110 Tryz.f110 [a] h :)
def ajC:=(yB5 s k wl 138 Tryz.f138 [.u,.v (.lit (.int .u64 0)),.f 143] 3 [.bx 5 8,.nl 9,.mv 1 10,.mv 3 11,.mv 4 12,.fn 169 [] [8] 13,.ca false true 2 [11,12,13] 14,.ex 14 0 15,.ex 14 1 16,.mv 15 9,.mv 16 10,.rt [9,10]] 11 [a,b,c] h :)
def akw:=(yE5 k wl 138 Tryz.f138 [a,b,c] h :)
def Z3:=(yB5 s k wl 143 Tryz.f143 [.u,.v (.lit (.int .u64 0)),.f 76,.f 66] 4 [.nl 10,.mv 1 11,.mv 4 13,.ca false true 2 [13] 14,.mv 14 12,.mv 4 15,.mv 5 16,.ca false true 3 [15,16] 17,.un .not 17 18,.cn 18 [.mv 12 19,.mv 19 10,.mv 1 11,.rt [10,11]] [.mv 12 20,.mv 5 21,.mv 6 22,.mv 4 23,.mv 5 24,.ia 26 23 24 25,.ld 46 25 26,.ca false true 22 [26] 27,.ia 26 20 21 28,.st 46 28 27,.rg,.mv 12 29,.mv 4 30,.mv 5 31,.ia 26 30 31 32,.ld 46 32 33,.mv 29 10,.mv 33 11,.rt [10,11]]] 27 [a,b,c] h :)
def aaT:=(yE5 k wl 143 Tryz.f143 [a,b,c] h :)
def am6:=(yB5 s k wl 144 Tryz.f144 [.u,.v (.lit (.int .u64 0))] 2 [.mv 1 5,.ld 46 3 6,.mv 6 5,.rv 5] 3 [a,b] h :)
def ana:=(yE5 k wl 144 Tryz.f144 [a,b] h :)
def akQ:=(yB5 s k wl 149 Tryz.f149 [.u,.i 0,.f 72] 3 [.mv 1 5,.ld 23 3 6,.ld 3 4 7,.ca false true 2 [6,7] 8,.mv 8 5,.rv 5] 4 [a,b] h :)
def ak3:=(yE5 k wl 149 Tryz.f149 [a,b] h :)
def ans:=(yB5 s k wl 150 Tryz.f150 [.u,.i 0,.f 72,.i 1] 4 [.mv 1 6,.ld 23 4 7,.ld 3 5 8,.ca false true 2 [7,8] 9,.bo .add 3 9 3 10,.mv 10 6,.rv 6] 5 [a,b] h :)
def aoA:=(yE5 k wl 150 Tryz.f150 [a,b] h :)
def ald:=(yB5 s k wl 151 Tryz.f151 [.u,.i 0,.f 72,.i 3,.i 1] 5 [.mv 1 8,.rg,.ld 23 5 9,.ld 3 6 10,.ca true true 2 [9,10] 11,.bo .add 3 11 3 12,.so 7,.ld 46 7 13,.fa 23 5 1 14,.so 14,.ld 3 14 15,.bo .sub 3 15 4 16,.cv 3 46 16 17,.bo .and 46 13 17 18,.cv 46 3 18 19,.bo .add 3 12 19 20,.mv 20 8,.rv 8] 13 [a,b,c] h :)
def anc:=(yE5 k wl 151 Tryz.f151 [a,b,c] h :)
def akM:=(yB5 s k wl 169 Tryz.f169 [.u,.v (.lit (.int .u64 0))] 2 [.mv 1 5,.mv 2 6,.ld 46 3 7,.bo .add 46 6 7 8,.mv 8 5,.rv 5] 5 [a,b] h :)
def am1:=(yE5 k wl 169 Tryz.f169 [a,b] h :)
def alA:=(yB5 s k wl 191 Tryz.f191 [.u,.b false,.f 143] 3 [.bx 5 9,.bx 6 10,.nl 11,.mv 1 12,.al 4 13,.st 4 13 1,.mv 3 17,.mv 4 18,.fn 219 [] [9,13,10] 19,.ca false true 2 [17,18,19] 20,.mv 20 16,.ex 16 0 21,.ex 16 1 22,.mv 21 14,.mv 22 15,.rg,.mv 14 23,.ld 4 13 24,.mv 23 11,.mv 24 12,.rt [11,12]] 18 [a,b,c,d] h :)
def amn:=(yE5 k wl 191 Tryz.f191 [a,b,c,d] h :)
def akj:=(yB5 s k wl 219 Tryz.f219 [.u,.v (.lit (.int .u64 0)),.b true] 3 [.mv 1 8,.mv 3 9,.ld 46 4 10,.bo .neq 46 9 10 11,.cn 11 [.mv 3 12,.mv 12 8,.rv 8] [.st 4 5 2,.ld 46 6 13,.mv 13 8,.rv 8]] 7 [a,b,c,d] h :)
def alC:=(yE5 k wl 219 Tryz.f219 [a,b,c,d] h :)
def aoO:=(yB5 s k wl 222 Tryz.f222 [.u,.i 0,.i 6] 3 [.mv 1 5,.ld 46 3 6,.fa 23 4 2 7,.ld 3 7 8,.cv 3 46 8 9,.bo .rem 46 6 9 10,.cv 46 3 10 11,.bo .add 3 2 11 12,.mv 12 5,.rv 5] 8 [a,b] h :)
def anA:=(yE5 k wl 222 Tryz.f222 [a,b] h :)
def ak7:=(yB5 s k wl 223 Tryz.f223 [.u,.i 0,.i 6] 3 [.mv 1 5,.rg,.fa 23 3 2 6,.ld 3 6 7,.bo .add 3 2 7 8,.ld 46 4 9,.fa 23 3 2 10,.ld 3 10 11,.cv 3 46 11 12,.bo .rem 46 9 12 13,.cv 46 3 13 14,.bo .add 3 8 14 15,.mv 15 5,.rv 5] 11 [a,b] h :)
def aon:=(yE5 k wl 223 Tryz.f223 [a,b] h :)
def aif:=(yB5 s k wl 203 Tryz.f203 [.u,.i 0,.f 70] 3 [.bx 3 5,.bx 4 6,.mv 1 7,.ld 23 5 8,.fn 222 [] [6,5] 9,.ca false true 2 [8,1,9] 10,.mv 10 7,.rv 7] 6 [a,b] h :)
def akV:=(yE5 k wl 203 Tryz.f203 [a,b] h :)
def ajV:=(yB5 s k wl 205 Tryz.f205 [.u,.i 0,.f 70] 3 [.bx 3 5,.bx 4 6,.mv 1 7,.ld 23 5 8,.fn 223 [] [5,6] 9,.ca false true 2 [8,1,9] 10,.mv 10 7,.rv 7] 6 [a,b] h :)
def an8:=(yE5 k wl 205 Tryz.f205 [a,b] h :)
end
end Go.Ab
set_option maxRecDepth 100000
set_option linter.unusedVariables false
namespace Go.Ab
open Go.Proofs
section
variable (s:Sys) (k wl m0 n n0:Nat) (a b c d e g i j l m o p q r u v w x y z A B C D E F G I J L M N O Q R S T U:V) (h:Hp) (ac:List Nat×List Nat) (cx:Cx) (K:Out→St→Option (V×Hp)) (s0:St) (P:Program) (zz:List V) (rd:Bool)
noncomputable def Kx:Code:=ai (aj Tryz.f31) [1,0]
noncomputable def Gp:List Fr:=[.seq (ai (aj Tryz.f31) [1,1])]
def aqs:=(yB5 s k wl 31 Tryz.f31 [.u,.b false,.i 8,.b true,.f 69] 5 [.bx 5 6,.mv 1 7,.rg,.fa 65 6 0 8,.ld 3 8 9,.bo .eql 3 9 2 10,.mv 10 11,.gd 11 [.mv 3 11,.fa 65 6 2 12,.ld 55 12 13,.ca false true 4 [13] 14,.sg Kx 7 Gp] [.mv 1 11,.sg Kx 7 Gp] [.sg Kx 5 Gp]] 10 [a] h :)
def ara:=(yE5 k wl 31 Tryz.f31 [a] h :)
def agq:=(gB5 s k wl 31 Tryz.f31 Kx 7 Gp [.u,.b false] 2 [.pk 8 11 1 12,.mv 12 4,.rv 4] [a,b,c,d,e,g,i,j,l,m,o] h m0 ac :)
def Ne:=(yK5 cx K Gp s0 :)
def anQ:=(yB5 s k wl 106 Tryz.f106 [.u,.i 0] 2 [.mv 1 6,.mv 2 7,.mv 3 8,.bo .sub 46 7 8 9,.cv 46 3 9 10,.mv 10 6,.rv 6] 7 [a,b] h :)
def aov:=(yE5 k wl 106 Tryz.f106 [a,b] h :)
noncomputable def FS:Code:=ai (aj Tryz.f161) [1,0,0]
noncomputable def Cs:List Fr:=[.seq (ai (aj Tryz.f161) [1,0,1]),.seq (ai (aj Tryz.f161) [1,1])]
def anh:=(yB5 s k wl 161 Tryz.f161 [.u,.i 0,.i 2,.b true,.b false,.f 81] 6 [.mv 1 12,.rg,.mv 8 14,.bo .lss 3 14 2 15,.mv 15 16,.gd 16 [.mv 3 16,.sg FS 7 Cs] [.mv 4 16,.mv 7 17,.mv 8 18,.ca false true 5 [17,18] 19,.un .not 19 20,.sg FS 7 Cs] [.sg FS 4 Cs]] 26 [a,b,c] h :)
def amj:=(yE5 k wl 161 Tryz.f161 [a,b,c] h :)
def ab9:=(gB5 s k wl 161 Tryz.f161 FS 7 Cs [.u,.b true,.i (-1),.v (.lit (.int .u64 1))] 4 [.pk 14 1 18 19,.cn 19 [.mv 2 10,.rv 10] [.mv 6 20,.cv 3 46 20 21,.mv 21 11,.mv 5 22,.cv 3 46 22 23,.bo .add 46 23 3 24,.mv 4 25,.mv 11 26,.bo .sub 46 26 3 27,.bo .rem 46 25 27 28,.bo .add 46 24 28 29,.mv 11 30,.bo .rem 46 29 30 31,.cv 46 3 31 32,.mv 32 10,.rv 10]] [a,b,c,d,e,g,i,j,l,m,o,p,q,r,u,v,w,x,y,z,A,B,C,D,E,F,G,I,J] h m0 ac :)
def JI:=(yK5 cx K Cs s0 :)
def alm:=(yB5 s k wl 192 Tryz.f192 [.u,.v (.lit (.int .u64 0)),.v (.lit (.int .u64 65535))] 3 [.mv 1 5,.mv 3 6,.bo .and 46 6 2 7,.mv 7 5,.rv 5] 4 [a] h :)
def ajm:=(yE5 k wl 192 Tryz.f192 [a] h :)
noncomputable def Qu:Code:=ai (aj Tryz.f195) [1,0,1,0]
noncomputable def JJ:Code:=ai (aj Tryz.f195) [1,0,1,0,0]
noncomputable def Jk:Code:=ai (aj Tryz.f195) [1,0,1,0,1]
noncomputable def FU:List Fr:=[.block 0,.seq (ai (aj Tryz.f195) [1,1])]
theorem Dv:Qu = .rangeFunc (.tmp 5) #[6] JJ Jk:=by kernel_rfl
def aeT:=(yB5 s k wl 195 Tryz.f195 [.u,.f 220] 2 [.al 3 4,.mv 2 6,.ca false true 1 [6] 7,.rf Qu FU] 7 [a] h :)
def ae6:=(yE5 k wl 195 Tryz.f195 [a] h :)
def afh:=(yZ5 P Tryz.f195 [.u] 1 [.ro [(some 3,3)]] (a::b::c::zz) h :)
def PQ:=(jB5 s k wl 195 Tryz.f195 FU .norm [.u,.i (-1)] 2 [.st 3 4 1,.ro [(some 3,4)]] (a::b::c::zz) h :)
def oW:=(qF5 s k wl 195 rd K Jk [.u] 1 [.mv 4 8,.st 3 3 8,.kf .ret] [a,b,c,d,e,g,i,j] h :)
def pd:=(qF5 s k wl 195 rd K JJ [.u] 1 [.mv 7 4,.kf .norm] [a,b,c,d,e,g,i,j] h :)
def CO:=(yK5 cx K FU s0 :)
def alf:=(yB5 s k wl 213 Tryz.f213 [.u,.v (.lit (.int .u64 0)),.v (.lit (.int .u64 16))] 3 [.mv 1 5,.mv 3 6,.bo .shr 46 6 2 7,.mv 7 5,.rv 5] 4 [a] h :)
def alI:=(yE5 k wl 213 Tryz.f213 [a] h :)
noncomputable def E1:Code:=ai (aj Tryz.f214) [1,0,0]
noncomputable def Ca:List Fr:=[.seq (ai (aj Tryz.f214) [1,0,1]),.seq (ai (aj Tryz.f214) [1,1])]
def anv:=(yB5 s k wl 214 Tryz.f214 [.u,.v (.lit (.int .u64 0)),.i 0,.b true,.b false,.i 16] 6 [.mv 1 10,.rg,.mv 7 11,.bo .lss 3 11 2 12,.mv 12 13,.gd 13 [.mv 3 13,.sg E1 5 Ca] [.mv 4 13,.mv 7 14,.bo .geq 3 14 5 15,.sg E1 5 Ca] [.sg E1 4 Ca]] 14 [a,b] h :)
def amt:=(yE5 k wl 214 Tryz.f214 [a,b] h :)
def acW:=(gB5 s k wl 214 Tryz.f214 E1 5 Ca [.u,.b true,.v (.lit (.int .u64 1))] 3 [.pk 10 1 12 13,.cn 13 [.mv 3 14,.mv 14 7,.rv 7] [.mv 3 15,.mv 4 16,.bo .shl 46 2 16 17,.bo .or 46 15 17 18,.mv 18 7,.rv 7]] [a,b,c,d,e,g,i,j,l,m,o,p,q,r,u,v] h m0 ac :)
def Ka:=(yK5 cx K Ca s0 :)
def amJ:=(yB5 s k wl 216 Tryz.f216 [.u,.v (.lit (.int .u64 0)),.i 0,.f 192,.f 213,.v (.lit (.int .u64 1)),.f 233,.f 195] 8 [.mv 1 10,.mv 2 11,.mv 8 13,.ca false true 3 [13] 14,.mv 14 12,.mv 8 15,.ca false true 4 [15] 16,.bo .add 46 16 5 17,.mv 12 18,.mv 12 19,.bo .sub 46 19 5 20,.bo .and 46 18 20 21,.ca false true 6 [17,21] 22,.mv 12 23,.ca false true 7 [23] 24,.mv 22 10,.mv 24 11,.rt [10,11]] 16 [a] h :)
def aox:=(yE5 k wl 216 Tryz.f216 [a] h :)
def amZ:=(yB5 s k wl 218 Tryz.f218 [.u,.v (.lit (.int .u64 0)),.f 213,.v (.lit (.int .u64 1)),.f 233] 5 [.mv 1 7,.mv 5 8,.ca false true 2 [8] 9,.bo .add 46 9 3 10,.ca false true 4 [10,1] 11,.mv 11 7,.rv 7] 6 [a] h :)
def aiW:=(yE5 k wl 218 Tryz.f218 [a] h :)
def afD:=(yB5 s k wl 220 Tryz.f220 [.u,.v (f9 Value.nilFunc)] 2 [.bx 2 3,.mv 1 4,.fn 234 [] [3] 5,.mv 5 4,.rv 4] 3 [a] h :)
def afd:=(yE5 k wl 220 Tryz.f220 [a] h :)
def alv:=(yB5 s k wl 233 Tryz.f233 [.u,.v (.lit (.int .u64 0)),.v (.lit (.int .u64 16)),.v (.lit (.int .u64 65535))] 4 [.mv 1 8,.mv 4 9,.bo .shl 46 9 2 10,.mv 5 11,.bo .and 46 11 3 12,.bo .or 46 10 12 13,.mv 13 8,.rv 8] 8 [a,b] h :)
def aiK:=(yE5 k wl 233 Tryz.f233 [a,b] h :)
noncomputable def Cm:Code:=ai (aj Tryz.f234) [1,0,0]
noncomputable def Fs:List Fr:=[.block 0]
noncomputable def Fe:Code:=ai (aj Tryz.f234) [1,0,0,1,1,0,0,1,0]
noncomputable def Cp:List Fr:=[.seq (ai (aj Tryz.f234) [1,0,0,1,1,0,0,1,1]),.block 1,.seq (ai (aj Tryz.f234) [1,0,0,1,1,1])]
def afl:=(yB5 s k wl 234 Tryz.f234 [.u,.i 0] 2 [.mv 1 6,.lo Cm [5] Fs] 17 [a,b] h :)
def afj:=(yE5 k wl 234 Tryz.f234 [a,b] h :)
def agJ:=(yZ5 P Tryz.f234 [.u] 1 [.rt []] zz h :)
def XO:=(rL5 s k wl 234 rd Cm n0 K n [.u,.i 16,.v (.lit (.int .u64 1)),.b true,.b false] 5 [.bo .lss 3 9 1 10,.cn 10 [.mv 9 11,.mv 11 8,.rg,.ld 46 6 12,.mv 8 13,.bo .shr 46 12 13 14,.bo .and 46 14 2 15,.bo .eql 46 15 2 16,.mv 16 17,.gd 17 [.mv 3 17,.mv 5 18,.mv 8 19,.ca false true 18 [19] 20,.un .not 20 21,.sg Fe 10 Cp] [.mv 4 17,.mv 0 18,.mv 0 19,.mv 0 20,.mv 0 21,.sg Fe 10 Cp] [.mv 0 18,.sg Fe 7 Cp]] [.kt (.exit 0) [4]]] [a,b,c,d,e,g,i,j,l,m,o,p,q,r,u,v,w,x,y] h :)
def Ru:=(jB5 s k wl 234 Tryz.f234 Fs (.exit 0) [.u] 1 [.rt []] zz h :)
def Sa:=(gL5 s k wl 234 rd Cm n0 K n Fe 10 Cp [.u,.b false,.i 1] 3 [.pk 15 19 1 20,.cn 20 [.kf .ret] [.bo .add 3 7 2 21,.mv 21 7,.nx Cm [5]]] [a,b,c,d,e,g,i,j,l,m,o,p,q,r,u,v,w,x,y] h m0 ac :)
def CH:=(yK5 cx K Fs s0 :)
def Cy:=(yK5 cx K Cp s0 :)
def ajZ:=(yB5 s k wl 193 Tryz.f193 [.u] 1 [.bx 1 4,.al 55 7,.fa 55 4 0 8,.ld 3 8 9,.fa 55 4 2 10,.ld 3 10 11,.mv 3 12,.mv 2 13,.bu 55 [(0,9),(2,11),(3,12),(6,13)] 14,.st 55 7 14,.ro [(some 55,7)]] 11 [a,b,c] h :)
def aoi:=(yE5 k wl 193 Tryz.f193 [a,b,c] h :)
end
end Go.Ab
set_option maxRecDepth 100000
set_option linter.unusedVariables false
namespace Go.Ab
open Go.Proofs
section
variable (s:Sys) (k wl m0 n n0:Nat) (a b c d e g i j l m o p q r u v w x y z A B C D E F G I J L M N O Q R S T U W X Y Z ta tb tc td te tf tg th ti tj tk tl tm tn tp tq tr:V) (h:Hp) (ac:List Nat×List Nat) (zz:List V) (cx:Cx) (K:Out→St→Option (V×Hp)) (s0:St) (P:Program) (rd:Bool)
noncomputable def cA:Code:=ai (aj Tryz.f188) [1,0]
noncomputable def cj:List Fr:=[.seq (ai (aj Tryz.f188) [1,1])]
def aoE:=(yB5 s k wl 188 Tryz.f188 [.u,.b false,.f 50,.b true,.f 103] 5 [.bx 5 10,.bx 7 12,.mv 1 15,.rg,.ld 23 10 16,.ca false true 2 [16] 17,.mv 17 18,.gd 18 [.mv 3 18,.mv 6 19,.le 26 19 20,.ld 23 10 21,.ca false true 4 [21] 22,.bo .eql 3 20 22 23,.sg cA 8 cj] [.mv 1 18,.sg cA 8 cj] [.sg cA 4 cj]] 49 [a,b,c,d,e] h :)
def aom:=(yE5 k wl 188 Tryz.f188 [a,b,c,d,e] h :)
def Y8:=(gB5 s k wl 188 Tryz.f188 cA 8 cj [.u,.b false,.b true,.f 110] 4 [.pk 17 22 1 23,.mv 23 24,.gd 24 [.mv 2 24,.ld 55 11 25,.ca false true 3 [25] 26,.un .not 26 27,.sg cA 13 cj] [.mv 1 24,.mv 0 25,.mv 0 26,.mv 0 27,.sg cA 13 cj] [.mv 0 25,.sg cA 11 cj]] (a::b::c::d::e::g::i::j::l::m::o::p::q::r::u::v::w::x::y::z::A::B::C::D::zz) h m0 ac :)
def YD:=(gB5 s k wl 188 Tryz.f188 cA 13 cj [.u,.b false,.b true,.i 0] 4 [.pk 24 27 1 28,.mv 28 29,.gd 29 [.mv 2 29,.fa 55 11 2 30,.ld 3 30 31,.bo .geq 3 31 3 32,.sg cA 18 cj] [.mv 1 29,.mv 0 30,.mv 0 31,.mv 0 32,.sg cA 18 cj] [.mv 0 30,.sg cA 16 cj]] (a::b::c::d::e::g::i::j::l::m::o::p::q::r::u::v::w::x::y::z::A::B::C::D::E::F::G::I::J::zz) h m0 ac :)
def abF:=(gB5 s k wl 188 Tryz.f188 cA 18 cj [.u,.b false,.b true] 3 [.pk 28 31 1 32,.mv 32 33,.gd 33 [.mv 2 33,.fa 55 10 2 34,.ld 3 34 35,.fa 23 8 0 36,.ld 3 36 37,.bo .lss 3 35 37 38,.sg cA 25 cj] [.mv 1 33,.mv 0 34,.mv 0 35,.mv 0 36,.mv 0 37,.mv 0 38,.sg cA 25 cj] [.mv 0 34,.sg cA 21 cj]] (a::b::c::d::e::g::i::j::l::m::o::p::q::r::u::v::w::x::y::z::A::B::C::D::E::F::G::I::J::L::M::N::O::Q::R::S::zz) h m0 ac :)
def Zs:=(gB5 s k wl 188 Tryz.f188 cA 25 cj [.u,.b false,.b true] 3 [.pk 33 38 1 39,.mv 39 40,.gd 40 [.mv 2 40,.fa 55 10 0 41,.ld 3 41 42,.mv 6 43,.bo .eql 3 42 43 44,.sg cA 31 cj] [.mv 1 40,.mv 0 41,.mv 0 42,.mv 0 43,.mv 0 44,.sg cA 31 cj] [.mv 0 41,.sg cA 28 cj]] (a::b::c::d::e::g::i::j::l::m::o::p::q::r::u::v::w::x::y::z::A::B::C::D::E::F::G::I::J::L::M::N::O::Q::R::S::T::U::W::X::Y::Z::zz) h m0 ac :)
def abO:=(gB5 s k wl 188 Tryz.f188 cA 31 cj [.u,.b false,.b true,.i 0] 4 [.pk 41 45 1 46,.mv 46 47,.gd 47 [.mv 2 47,.fa 55 11 1 48,.ld 3 48 49,.bo .geq 3 49 3 50,.sg cA 36 cj] [.mv 1 47,.mv 0 48,.mv 0 49,.mv 0 50,.sg cA 36 cj] [.mv 0 48,.sg cA 34 cj]] (a::b::c::d::e::g::i::j::l::m::o::p::q::r::u::v::w::x::y::z::A::B::C::D::E::F::G::I::J::L::M::N::O::Q::R::S::T::U::W::X::Y::Z::ta::tb::tc::td::te::zz) h m0 ac :)
def acA:=(gB5 s k wl 188 Tryz.f188 cA 36 cj [.u,.b false,.b true] 3 [.pk 46 49 1 50,.mv 50 51,.gd 51 [.mv 2 51,.fa 55 10 1 52,.ld 3 52 53,.mv 7 54,.bo .lss 3 53 54 55,.sg cA 42 cj] [.mv 1 51,.mv 0 52,.mv 0 53,.mv 0 54,.mv 0 55,.sg cA 42 cj] [.mv 0 52,.sg cA 39 cj]] [a,b,c,d,e,g,i,j,l,m,o,p,q,r,u,v,w,x,y,z,A,B,C,D,E,F,G,I,J,L,M,N,O,Q,R,S,T,U,W,X,Y,Z,ta,tb,tc,td,te,tf,tg,th,ti,tj,tk,tl] h m0 ac :)
def Zb:=(gB5 s k wl 188 Tryz.f188 cA 42 cj [.u,.b false] 2 [.pk 50 54 1 55,.mv 55 12,.rv 12] [a,b,c,d,e,g,i,j,l,m,o,p,q,r,u,v,w,x,y,z,A,B,C,D,E,F,G,I,J,L,M,N,O,Q,R,S,T,U,W,X,Y,Z,ta,tb,tc,td,te,tf,tg,th,ti,tj,tk,tl] h m0 ac :)
def JH:=(yK5 cx K cj s0 :)
noncomputable def ef:Code:=ai (aj Tryz.f189) [1,1,0]
noncomputable def dX:List Fr:=[.seq (ai (aj Tryz.f189) [1,1,1])]
def alk:=(yB5 s k wl 189 Tryz.f189 [.u,.b false,.f 190,.b true,.f 50] 5 [.bx 5 8,.bx 7 10,.mv 1 11,.rg,.ca true true 2 [] 15,.fa 55 10 0 16,.so 16,.ld 3 16 17,.lk 212 15 17 true 18,.mv 18 14,.ex 14 0 19,.ex 14 1 20,.mv 19 12,.mv 20 13,.rg,.mv 13 21,.mv 21 22,.gd 22 [.mv 3 22,.ld 23 8 23,.ca false true 4 [23] 24,.sg ef 4 dX] [.mv 1 22,.sg ef 4 dX] [.sg ef 3 dX]] 40 [a,b,c] h :)
def ai6:=(yE5 k wl 189 Tryz.f189 [a,b,c] h :)
def abE:=(gB5 s k wl 189 Tryz.f189 ef 4 dX [.u,.b false,.b true,.f 103] 4 [.pk 21 23 1 24,.mv 24 25,.gd 25 [.mv 2 25,.mv 5 26,.le 26 26 27,.ld 23 7 28,.ca false true 3 [28] 29,.bo .eql 3 27 29 30,.sg ef 11 dX] [.mv 1 25,.mv 0 26,.mv 0 27,.mv 0 28,.mv 0 29,.mv 0 30,.sg ef 11 dX] [.mv 0 26,.sg ef 7 dX]] (a::b::c::d::e::g::i::j::l::m::o::p::q::r::u::v::w::x::y::z::A::B::C::D::E::F::G::zz) h m0 ac :)
def acS:=(gB5 s k wl 189 Tryz.f189 ef 11 dX [.u,.b false,.b true,.f 110] 4 [.pk 25 30 1 31,.mv 31 32,.gd 32 [.mv 2 32,.ld 55 9 33,.ca false true 3 [33] 34,.un .not 34 35,.sg ef 16 dX] [.mv 1 32,.mv 0 33,.mv 0 34,.mv 0 35,.sg ef 16 dX] [.mv 0 33,.sg ef 14 dX]] (a::b::c::d::e::g::i::j::l::m::o::p::q::r::u::v::w::x::y::z::A::B::C::D::E::F::G::I::J::L::M::N::zz) h m0 ac :)
def ZW:=(gB5 s k wl 189 Tryz.f189 ef 16 dX [.u,.b false,.b true,.i 0] 4 [.pk 32 35 1 36,.mv 36 37,.gd 37 [.mv 2 37,.fa 55 9 1 38,.ld 3 38 39,.bo .geq 3 39 3 40,.sg ef 21 dX] [.mv 1 37,.mv 0 38,.mv 0 39,.mv 0 40,.sg ef 21 dX] [.mv 0 38,.sg ef 19 dX]] (a::b::c::d::e::g::i::j::l::m::o::p::q::r::u::v::w::x::y::z::A::B::C::D::E::F::G::I::J::L::M::N::O::Q::R::S::T::zz) h m0 ac :)
def abw:=(gB5 s k wl 189 Tryz.f189 ef 21 dX [.u,.b false,.b true,.i 2] 4 [.pk 37 40 1 41,.mv 41 42,.gd 42 [.mv 2 42,.fa 55 9 1 43,.ld 3 43 44,.bo .leq 3 44 3 45,.sg ef 26 dX] [.mv 1 42,.mv 0 43,.mv 0 44,.mv 0 45,.sg ef 26 dX] [.mv 0 43,.sg ef 24 dX]] [a,b,c,d,e,g,i,j,l,m,o,p,q,r,u,v,w,x,y,z,A,B,C,D,E,F,G,I,J,L,M,N,O,Q,R,S,T,U,W,X,Y,Z,ta] h m0 ac :)
def aaL:=(gB5 s k wl 189 Tryz.f189 ef 26 dX [.u,.b false] 2 [.pk 40 43 1 44,.mv 44 8,.rv 8] [a,b,c,d,e,g,i,j,l,m,o,p,q,r,u,v,w,x,y,z,A,B,C,D,E,F,G,I,J,L,M,N,O,Q,R,S,T,U,W,X,Y,Z,ta] h m0 ac :)
def IX:=(yK5 cx K dX s0 :)
def adG:=(yB5 s k wl 190 Tryz.f190 [.u,.v (f9 (Value.map none)),.i 6,.f 215,.i 7,.f 217] 6 [.mv 1 6,.mk 7,.is 212 7 2 3,.is 212 7 4 5,.mv 7 8,.mv 8 6,.rv 6] 3 [] h :)
def afb:=(yE5 k wl 190 Tryz.f190 [] h :)
noncomputable def F6:Code:=ai (aj Tryz.f194) [1,0,1,0,0]
noncomputable def F0:List Fr:=[.block 0,.seq (ai (aj Tryz.f194) [1,1])]
def ag9:=(yB5 s k wl 194 Tryz.f194 [.u,.i 0] 2 [.bx 2 5,.nl 8,.mv 4 11,.le 53 11 12,.mv 1 13,.lo F6 [12,9] F0] 19 [a,b,c] h :)
def ahi:=(yE5 k wl 194 Tryz.f194 [a,b,c] h :)
def ac7:=(yZ5 P Tryz.f194 [.u] 1 [.rv 7] (a::b::c::d::e::g::i::zz) h :)
def Z5:=(rL5 s k wl 194 rd F6 n0 K n [.u,.f 32,.f 88,.v (.lit (.int .u64 1)),.i 1] 5 [.bo .lss 3 16 15 17,.cn 17 [.ia 53 14 16 18,.ld 3 18 19,.mv 19 13,.mv 6 20,.ld 23 8 21,.mv 13 22,.ca false true 1 [21,22] 23,.ca false true 2 [20,23,3] 24,.mv 24 6,.bo .add 3 16 4 25,.mv 25 16,.nx F6 [12,9]] [.kt (.exit 0) [11,10]]] [a,b,c,d,e,g,i,j,l,m,o,p,q,r,u,v,w,x,y,z,A,B] h :)
def Sc:=(jB5 s k wl 194 Tryz.f194 F0 (.exit 0) [.u] 1 [.mv 2 22,.mv 22 7,.rv 7] [a,b,c,d,e,g,i,j,l,m,o,p,q,r,u,v,w,x,y,z,A,B] h :)
def CQ:=(yK5 cx K F0 s0 :)
noncomputable def Fy:List Fr:=[.seq (ai (aj Tryz.f207) [1,1,1,1])]
def ajb:=(yB5 s k wl 207 Tryz.f207 [.u,.f 76,.f 188,.i 0,.i 4] 5 [.bx 5 8,.bx 7 10,.nl 11,.al 55 12,.rg,.so 10,.ld 55 10 15,.so 8,.ld 23 8 16,.mv 6 17,.ca true true 1 [17] 18,.bu 235 [(0,15),(1,16),(2,18)] 19,.bx 19 20,.mv 20 13,.mv 13 21,.fn 224 [21] [] 22,.mv 13 23,.fn 225 [23] [] 24,.mv 13 25,.fn 226 [25] [] 26,.mv 13 27,.fn 227 [27] [] 28,.bu 236 [(0,22),(1,24),(2,26),(3,28)] 29,.al 236 14,.st 236 14 29,.ld 23 8 30,.mv 6 31,.ld 55 10 32,.ca false true 2 [30,31,32,3,4] 33,.cn 33 [.fa 55 10 1 34,.ld 3 34 35,.ia 236 14 35 36,.ld 1 36 37,.ca false true 37 [] 38,.jn Fy] [.jn Fy]] 39 [a,b,c] h :)
def ajJ:=(yE5 k wl 207 Tryz.f207 [a,b,c] h :)
def aaP:=(jB5 s k wl 207 Tryz.f207 Fy .norm [.u] 1 [.rg,.mv 9 35,.nk 35 36,.fa 235 36 2 37,.ld 26 37 38,.mv 9 39,.nk 39 40,.fa 235 40 0 41,.ld 55 41 42,.mv 38 7,.st 55 8 42,.ro [(none,7),(some 55,8)]] [a,b,c,d,e,g,i,j,l,m,o,p,q,r,u,v,w,x,y,z,A,B,C,D,E,F,G,I,J,L,M,N,O,Q,R,S,T,U,W,X,Y,Z] h :)
def JW:=(yK5 cx K Fy s0 :)
def al1:=(yB5 s k wl 208 Tryz.f208 [.u,.f 76,.f 188,.i 1,.i 7,.f 107,.f 108,.i 0,.f 27,.v (.lit (.int .u64 1)),.f 88,.i 2,.f 106,.i 6,.i 3,.f 109,.f 193,.i 4,.b false,.f 191,.i 5,.v (.lit (.int .u64 0))] 22 [.bx 22 25,.bx 24 27,.nl 28,.al 55 29,.mv 23 36,.ca false true 1 [36] 37,.al 26 30,.st 26 30 37,.ld 23 25 38,.mv 23 39,.ld 55 27 40,.ca false true 2 [38,39,40,3,4] 41,.un .not 41 42,.cn 42 [.rg,.ld 26 30 43,.ld 55 27 44,.mv 43 28,.st 55 29 44,.ro [(none,28),(some 55,29)]] [.rg,.al 3 32,.ld 23 25 45,.fa 55 27 2 46,.ld 3 46 47,.ca true true 5 [45,47] 48,.so 25,.ld 23 25 49,.fa 55 27 2 50,.so 50,.ld 3 50 51,.ca true true 6 [49,51] 52,.mv 48 31,.st 3 32 52,.fn 228 [] [30,32,27] 53,.mv 53 33,.fa 55 27 1 54,.ld 3 54 55,.bo .add 3 55 3 56,.mv 56 34,.fa 55 27 1 57,.ld 3 57 58,.bo .eql 3 58 7 60,.mv 60 59,.cn 59 [.ld 26 30 61,.ld 3 32 62,.ca false true 8 [61,62] 63,.bo .sub 46 63 9 64,.fa 55 27 4 65,.st 46 65 64,.mv 34 133,.fa 55 27 1 134,.st 3 134 133,.rg,.ld 26 30 135,.ld 55 27 136,.mv 135 28,.st 55 29 136,.ro [(none,28),(some 55,29)]] [.bo .eql 3 58 3 67,.mv 67 66,.cn 66 [.ld 26 30 68,.ld 3 32 69,.fa 55 27 4 70,.ld 46 70 71,.ca false true 10 [68,69,71] 72,.st 26 30 72,.mv 34 133,.fa 55 27 1 134,.st 3 134 133,.rg,.ld 26 30 135,.ld 55 27 136,.mv 135 28,.st 55 29 136,.ro [(none,28),(some 55,29)]] [.bo .eql 3 58 11 74,.mv 74 73,.cn 73 [.ld 26 30 75,.mv 31 76,.ca false true 8 [75,76] 77,.fa 55 27 5 78,.st 46 78 77,.fa 55 27 4 79,.ld 46 79 80,.fa 55 27 5 81,.ld 46 81 82,.ca false true 12 [80,82] 83,.bo .lss 3 83 7 84,.cn 84 [.mv 13 34,.mv 34 133,.fa 55 27 1 134,.st 3 134 133,.rg,.ld 26 30 135,.ld 55 27 136,.mv 135 28,.st 55 29 136,.ro [(none,28),(some 55,29)]] [.mv 34 133,.fa 55 27 1 134,.st 3 134 133,.rg,.ld 26 30 135,.ld 55 27 136,.mv 135 28,.st 55 29 136,.ro [(none,28),(some 55,29)]]] [.bo .eql 3 58 14 86,.mv 86 85,.cn 85 [.rg,.so 30,.ld 26 30 87,.ld 23 25 88,.fa 55 27 2 89,.ld 3 89 90,.fa 55 27 4 91,.ld 46 91 92,.ca true true 15 [88,90,92] 93,.ca false true 8 [87,93] 94,.fa 55 27 3 95,.st 46 95 94,.fa 55 27 4 96,.ld 46 96 97,.fa 55 27 5 98,.ld 46 98 99,.bo .neq 46 97 99 100,.cn 100 [.rg,.so 30,.ld 26 30 101,.ld 55 27 102,.fa 55 27 3 103,.ld 46 103 104,.ca true true 16 [102,3,104] 105,.mv 101 28,.st 55 29 105,.ro [(none,28),(some 55,29)]] [.mv 34 133,.fa 55 27 1 134,.st 3 134 133,.rg,.ld 26 30 135,.ld 55 27 136,.mv 135 28,.st 55 29 136,.ro [(none,28),(some 55,29)]]] [.bo .eql 3 58 17 107,.mv 107 106,.cn 106 [.mv 18 35,.ld 26 30 109,.mv 31 110,.fa 55 27 5 111,.ld 46 111 112,.fa 55 27 5 113,.ld 46 113 114,.bo .add 46 114 9 115,.ca false true 19 [109,110,112,115] 116,.mv 116 108,.ex 108 0 117,.ex 108 1 118,.st 26 30 117,.mv 118 35,.mv 35 119,.un .not 119 120,.cn 120 [.mv 13 34,.mv 34 133,.fa 55 27 1 134,.st 3 134 133,.rg,.ld 26 30 135,.ld 55 27 136,.mv 135 28,.st 55 29 136,.ro [(none,28),(some 55,29)]] [.mv 34 133,.fa 55 27 1 134,.st 3 134 133,.rg,.ld 26 30 135,.ld 55 27 136,.mv 135 28,.st 55 29 136,.ro [(none,28),(some 55,29)]]] [.bo .eql 3 58 20 122,.mv 122 121,.cn 121 [.mv 33 123,.fa 55 27 3 124,.ld 46 124 125,.ca false true 123 [3,125] 126,.ex 126 0 127,.ex 126 1 128,.mv 127 28,.st 55 29 128,.ro [(none,28),(some 55,29)]] [.mv 33 129,.ca false true 129 [14,21] 130,.ex 130 0 131,.ex 130 1 132,.mv 131 28,.st 55 29 132,.ro [(none,28),(some 55,29)]]]]]]]]] 112 [a,b,c] h :)
def akC:=(yE5 k wl 208 Tryz.f208 [a,b,c] h :)
noncomputable def Fp:Code:=ai (aj Tryz.f209) [1,0,1,1,1,1,1,0,1,0,0]
noncomputable def Fj:List Fr:=[.block 0,.seq (ai (aj Tryz.f209) [1,0,1,1,1,1,1,1]),.scope (ai (aj Tryz.f209) [1,0])]
def afq:=(yB5 s k wl 209 Tryz.f209 [.u,.f 76,.f 188,.i 2,.i 4,.f 107,.f 108,.i 0] 8 [.bx 8 11,.bx 10 13,.nl 14,.al 55 15,.mv 9 22,.ca false true 1 [22] 23,.al 26 16,.st 26 16 23,.ld 23 11 24,.mv 9 25,.ld 55 13 26,.ca false true 2 [24,25,26,3,4] 27,.un .not 27 28,.cn 28 [.rg,.ld 26 16 29,.ld 55 13 30,.mv 29 14,.st 55 15 30,.ro [(none,14),(some 55,15)]] [.rg,.al 3 17,.al 3 18,.ld 23 11 31,.fa 55 13 2 32,.ld 3 32 33,.ca true true 5 [31,33] 34,.so 11,.ld 23 11 35,.fa 55 13 2 36,.so 36,.ld 3 36 37,.ca true true 6 [35,37] 38,.st 3 17 34,.st 3 18 38,.fn 229 [] [16,17,13] 39,.fn 230 [] [16,18,13] 40,.fn 231 [] [16,11,13] 41,.fn 232 [] [16,17,13] 42,.bS false 238 4 [(0,39),(1,40),(2,41),(3,42)] 43,.mv 43 19,.mv 19 44,.le 238 44 45,.mv 7 46,.lo Fp [39,18] Fj]] 56 [a,b,c] h :)
def adx:=(yE5 k wl 209 Tryz.f209 [a,b,c] h :)
def aes:=(yZ5 P Tryz.f209 [.u] 1 [.ro [(none,7),(some 55,8)]] (a::b::c::d::e::g::i::j::zz) h :)
def acL:=(rL5 s k wl 209 rd Fp n0 K n [.u,.i 1,.f 110] 3 [.bo .lss 3 41 40 42,.cn 42 [.mv 41 43,.ia 238 39 41 44,.ld 1 44 45,.mv 43 15,.mv 45 16,.mv 15 46,.fa 55 8 1 47,.ld 3 47 48,.bo .neq 3 46 48 49,.cn 49 [.bo .add 3 41 1 59,.mv 59 41,.nx Fp [39,18]] [.mv 16 50,.ca false true 50 [] 51,.ld 55 8 52,.ca false true 2 [52] 53,.un .not 53 54,.cn 54 [.fa 55 8 1 55,.ld 3 55 56,.bo .add 3 56 1 57,.fa 55 8 1 58,.st 3 58 57,.kt (.exit 0) [38,19]] [.kt (.exit 0) [38,19]]]] [.kt (.exit 0) [38,19]]] [a,b,c,d,e,g,i,j,l,m,o,p,q,r,u,v,w,x,y,z,A,B,C,D,E,F,G,I,J,L,M,N,O,Q,R,S,T,U,W,X,Y,Z,ta,tb,tc,td,te,tf,tg,th,ti,tj,tk,tl,tm,tn,tp,tq,tr] h :)
def PN:=(jB5 s k wl 209 Tryz.f209 Fj (.exit 0) [.u] 1 [.rg,.ld 26 9 58,.ld 55 6 59,.mv 58 7,.st 55 8 59,.ro [(none,7),(some 55,8)]] [a,b,c,d,e,g,i,j,l,m,o,p,q,r,u,v,w,x,y,z,A,B,C,D,E,F,G,I,J,L,M,N,O,Q,R,S,T,U,W,X,Y,Z,ta,tb,tc,td,te,tf,tg,th,ti,tj,tk,tl,tm,tn,tp,tq,tr] h :)
def Bz:=(yK5 cx K Fj s0 :)
def Zk:=(yB5 s k wl 215 Tryz.f215 [.u,.v (.lit (.int .u64 0)),.f 216,.i 0] 4 [.mv 1 6,.mv 1 7,.mv 4 11,.ca false true 2 [11] 12,.mv 12 10,.ex 10 0 13,.ex 10 1 14,.mv 13 8,.mv 14 9,.mv 8 15,.mv 9 16,.mm true [16,3] 17,.cv 3 46 17 18,.mv 15 6,.mv 18 7,.rt [6,7]] 14 [a] h :)
def Zu:=(yE5 k wl 215 Tryz.f215 [a] h :)
def aaj:=(yB5 s k wl 217 Tryz.f217 [.u,.v (.lit (.int .u64 0)),.f 218,.f 192] 4 [.mv 1 6,.mv 1 7,.mv 4 8,.ca false true 2 [8] 9,.mv 4 10,.ca false true 3 [10] 11,.mv 9 6,.mv 11 7,.rt [6,7]] 7 [a] h :)
def aca:=(yE5 k wl 217 Tryz.f217 [a] h :)
def aok:=(yB5 s k wl 224 Tryz.f224 [.u,.f 108,.f 27,.i 1] 4 [.rg,.mv 4 6,.mv 4 7,.so 7,.nk 7 8,.fa 235 8 2 9,.so 9,.ld 26 9 10,.mv 4 11,.nk 11 12,.fa 235 12 1 13,.ld 23 13 14,.mv 4 15,.nk 15 16,.fa 235 16 0 17,.fa 55 17 2 18,.ld 3 18 19,.ca true true 1 [14,19] 20,.ca false true 2 [10,20] 21,.nk 6 22,.fa 235 22 0 23,.fa 55 23 4 24,.st 46 24 21,.mv 4 25,.nk 25 26,.fa 235 26 0 27,.fa 55 27 1 28,.st 3 28 3,.rt []] 24 [a] h :)
def ajH:=(yE5 k wl 224 Tryz.f224 [a] h :)
def amS:=(yB5 s k wl 225 Tryz.f225 [.u,.f 107,.f 27,.i 2,.f 193] 5 (.rg::.mv 5 7::.mv 5 8::.so 8::.nk 8 9::.fa 235 9 2 10::.so 10::.ld 26 10 11::.mv 5 12::.nk 12 13::.fa 235 13 1 14::.ld 23 14 15::.mv 5 16::.nk 16 17::.fa 235 17 0 18::.fa 55 18 2 19::.ld 3 19 20::.ca true true 1 [15,20] 21::.ca false true 2 [11,21] 22::.nk 7 23::.fa 235 23 0 24::.fa 55 24 5 25::.st 46 25 22::.mv 5 26::.nk 26 27::.fa 235 27 0 28::.fa 55 28 1 29::.st 3 29 3::.rg::.mv 5 30::.nk 30 31::.fa 235 31 0 32::.fa 55 32 4 33::.ld 46 33 34::.mv 5 35::.nk 35 36::.fa 235 36 0 37::.fa 55 37 5 38::.ld 46 38 39::.bo .sub 46 34 39 40::.mv 5 41::.nk 41 42::.fa 235 42 1 43::.fa 23 43 1 44::.ld 3 44 45::.cv 3 46 45 46::.bo .geq 46 40 46 47::.cn 47 [.rg,.mv 5 48,.mv 5 49,.nk 49 50,.fa 235 50 0 51,.ld 55 51 52,.mv 5 53,.nk 53 54,.fa 235 54 0 55,.fa 55 55 3 56,.ld 46 56 57,.ca false true 4 [52,3,57] 58,.nk 48 59,.fa 235 59 0 60,.st 55 60 58,.rt []] [.rt []]::[]) 55 [a] h :)
def aly:=(yE5 k wl 225 Tryz.f225 [a] h :)
def aml:=(yB5 s k wl 226 Tryz.f226 [.u,.f 109,.f 88,.i 3] 4 [.rg,.mv 4 6,.mv 4 7,.so 7,.nk 7 8,.fa 235 8 2 9,.so 9,.ld 26 9 10,.mv 4 11,.nk 11 12,.fa 235 12 1 13,.ld 23 13 14,.mv 4 15,.nk 15 16,.fa 235 16 0 17,.fa 55 17 2 18,.ld 3 18 19,.mv 4 20,.nk 20 21,.fa 235 21 0 22,.fa 55 22 4 23,.ld 46 23 24,.ca true true 1 [14,19,24] 25,.mv 4 26,.so 26,.nk 26 27,.fa 235 27 0 28,.fa 55 28 3 29,.so 29,.ld 46 29 30,.ca false true 2 [10,25,30] 31,.nk 6 32,.fa 235 32 2 33,.st 26 33 31,.mv 4 34,.nk 34 35,.fa 235 35 0 36,.fa 55 36 1 37,.st 3 37 3,.rt []] 33 [a] h :)
def anp:=(yE5 k wl 226 Tryz.f226 [a] h :)
def aj7:=(yB5 s k wl 227 Tryz.f227 [.u,.f 108,.v (.lit (.int .u64 1)),.f 88,.f 193,.i 1] 6 (.rg::.mv 6 8::.mv 6 9::.so 9::.nk 9 10::.fa 235 10 2 11::.so 11::.ld 26 11 12::.mv 6 13::.nk 13 14::.fa 235 14 1 15::.ld 23 15 16::.mv 6 17::.nk 17 18::.fa 235 18 0 19::.fa 55 19 2 20::.ld 3 20 21::.ca true true 1 [16,21] 22::.mv 6 23::.so 23::.nk 23 24::.fa 235 24 0 25::.fa 55 25 4 26::.so 26::.ld 46 26 27::.bo .add 46 27 2 28::.ca false true 3 [12,22,28] 29::.nk 8 30::.fa 235 30 2 31::.st 26 31 29::.rg::.mv 6 32::.mv 6 33::.nk 33 34::.fa 235 34 0 35::.ld 55 35 36::.mv 6 37::.nk 37 38::.fa 235 38 0 39::.fa 55 39 3 40::.ld 46 40 41::.ca false true 4 [36,5,41] 42::.nk 32 43::.fa 235 43 0 44::.st 55 44 42::.rt []::[]) 38 [a] h :)
def ajo:=(yE5 k wl 227 Tryz.f227 [a] h :)
def aiA:=(yB5 s k wl 228 Tryz.f228 [.u,.v (.lit (.int .u64 1)),.f 88,.f 193] 4 [.nl 11,.al 55 12,.rg,.ld 26 6 13,.ld 3 7 14,.fa 55 8 4 15,.ld 46 15 16,.bo .add 46 16 1 17,.ca true true 2 [13,14,17] 18,.so 8,.ld 55 8 19,.mv 4 20,.mv 5 21,.ca false true 3 [19,20,21] 22,.mv 18 11,.st 55 12 22,.ro [(none,11),(some 55,12)]] 14 [a,b,c,d,e] h :)
def aj5:=(yE5 k wl 228 Tryz.f228 [a,b,c,d,e] h :)
def ahM:=(yB5 s k wl 229 Tryz.f229 [.u,.f 27] 2 [.ld 26 2 5,.ld 3 3 6,.ca false true 1 [5,6] 7,.fa 55 4 5 8,.st 46 8 7,.rt []] 4 [a,b,c] h :)
def ae1:=(yE5 k wl 229 Tryz.f229 [a,b,c] h :)
def adH:=(yB5 s k wl 230 Tryz.f230 [.u,.f 27,.f 106,.i 0,.f 193,.i 3,.v (.lit (.int .u64 0))] 7 [.ld 26 7 10,.ld 3 8 11,.ca false true 1 [10,11] 12,.fa 55 9 4 13,.st 46 13 12,.fa 55 9 4 14,.ld 46 14 15,.fa 55 9 5 16,.ld 46 16 17,.ca false true 2 [15,17] 18,.bo .leq 3 18 3 19,.cn 19 [.ld 55 9 20,.ca false true 4 [20,5,6] 21,.st 55 9 21,.rt []] [.rt []]] 12 [a,b,c] h :)
def adg:=(yE5 k wl 230 Tryz.f230 [a,b,c] h :)
def aeZ:=(yB5 s k wl 231 Tryz.f231 [.u,.f 109,.f 27] 3 [.rg,.so 3,.ld 26 3 6,.ld 23 4 7,.fa 55 5 2 8,.ld 3 8 9,.fa 55 5 5 10,.ld 46 10 11,.ca true true 1 [7,9,11] 12,.ca false true 2 [6,12] 13,.fa 55 5 3 14,.st 46 14 13,.rt []] 9 [a,b,c] h :)
def agG:=(yE5 k wl 231 Tryz.f231 [a,b,c] h :)
def agM:=(yB5 s k wl 232 Tryz.f232 [.u,.b false,.v (.lit (.int .u64 1)),.f 191,.f 193,.i 1,.i 4,.v (.lit (.int .u64 0))] 8 [.mv 1 11,.ld 26 8 13,.ld 3 9 14,.fa 55 10 5 15,.ld 46 15 16,.fa 55 10 5 17,.ld 46 17 18,.bo .add 46 18 2 19,.ca false true 3 [13,14,16,19] 20,.mv 20 12,.ex 12 0 21,.ex 12 1 22,.st 26 8 21,.mv 22 11,.mv 11 23,.cn 23 [.ld 55 10 24,.fa 55 10 3 25,.ld 46 25 26,.ca false true 4 [24,5,26] 27,.st 55 10 27,.rt []] [.ld 55 10 28,.ca false true 4 [28,6,7] 29,.st 55 10 29,.rt []]] 19 [a,b,c] h :)
def adU:=(yE5 k wl 232 Tryz.f232 [a,b,c] h :)
end
end Go.Ab
set_option maxRecDepth 100000
set_option linter.unusedVariables false
namespace Go.Ab
open Go.Proofs
section
variable (s:Sys) (k wl m0:Nat) (a b c d e g i j l m o p q r u v w x y z A B C D E F G I J L M N O Q R S T U:V) (h:Hp) (cx:Cx) (K:Out→St→Option (V×Hp)) (s0:St) (ac:List Nat×List Nat) (zz:List V)
noncomputable def FG:List Fr:=[.seq (ai (aj Tryz.f165) [1,1,1,1])]
def aj8:=(yB5 s k wl 165 Tryz.f165 [.u,.f 76,.f 183,.f 184,.f 185,.f 186,.f 187,.f 188,.i 5] 9 [.bx 9 12,.bx 11 14,.nl 15,.al 55 16,.rg,.so 14,.ld 55 14 19,.so 12,.ld 23 12 20,.mv 10 21,.ca true true 1 [21] 22,.bu 205 [(0,19),(1,20),(2,22)] 23,.bx 23 24,.mv 24 17,.bS false 207 5 [(0,2),(1,3),(2,4),(3,5),(4,6)] 25,.mv 25 18,.ld 23 12 26,.mv 10 27,.ld 55 14 28,.mv 18 29,.le 207 29 30,.ca false true 7 [26,27,28,8,30] 31,.cn 31 [.mv 18 32,.fa 55 14 1 33,.ld 3 33 34,.ia 207 32 34 35,.ld 206 35 36,.mv 17 37,.ca false true 36 [37] 38,.jn FG] [.jn FG]] 35 [a,b,c] h :)
def aoI:=(yE5 k wl 165 Tryz.f165 [a,b,c] h :)
def Z1:=(jB5 s k wl 165 Tryz.f165 FG .norm [.u] 1 [.rg,.mv 9 31,.nk 31 32,.fa 205 32 2 33,.ld 26 33 34,.mv 9 35,.nk 35 36,.fa 205 36 0 37,.ld 55 37 38,.mv 34 7,.st 55 8 38,.ro [(none,7),(some 55,8)]] [a,b,c,d,e,g,i,j,l,m,o,p,q,r,u,v,w,x,y,z,A,B,C,D,E,F,G,I,J,L,M,N,O,Q,R,S,T,U] h :)
def J1:=(yK5 cx K FG s0 :)
def alq:=(yB5 s k wl 183 Tryz.f183 [.u,.f 27,.i 2,.i 1] 4 [.mv 4 6,.mv 4 7,.nk 7 8,.fa 205 8 2 9,.ld 26 9 10,.ca false true 1 [10,2] 11,.nk 6 12,.fa 205 12 0 13,.fa 55 13 4 14,.st 46 14 11,.mv 4 15,.nk 15 16,.fa 205 16 0 17,.fa 55 17 1 18,.st 3 18 3,.rt []] 14 [a] h :)
def anJ:=(yE5 k wl 183 Tryz.f183 [a] h :)
def amG:=(yB5 s k wl 184 Tryz.f184 [.u,.f 27,.i 2,.f 213,.f 193,.i 4,.v (.lit (.int .u64 0))] 7 [.mv 7 9,.mv 7 10,.nk 10 11,.fa 205 11 2 12,.ld 26 12 13,.ca false true 1 [13,2] 14,.nk 9 15,.fa 205 15 0 16,.fa 55 16 5 17,.st 46 17 14,.mv 7 18,.nk 18 19,.fa 205 19 0 20,.fa 55 20 1 21,.st 3 21 2,.rg,.mv 7 22,.nk 22 23,.fa 205 23 0 24,.fa 55 24 5 25,.ld 46 25 26,.ca true true 3 [26] 27,.mv 7 28,.so 28,.nk 28 29,.fa 205 29 0 30,.fa 55 30 4 31,.so 31,.ld 46 31 32,.ca false true 3 [32] 33,.bo .neq 46 27 33 34,.cn 34 [.mv 7 35,.mv 7 36,.nk 36 37,.fa 205 37 0 38,.ld 55 38 39,.ca false true 4 [39,5,6] 40,.nk 35 41,.fa 205 41 0 42,.st 55 42 40,.rt []] [.rt []]] 35 [a] h :)
def akl:=(yE5 k wl 184 Tryz.f184 [a] h :)
def alw:=(yB5 s k wl 185 Tryz.f185 [.u,.b false,.i 1,.f 214,.f 191,.i 2,.i 3] 7 (.mv 1 9::.mv 7 10::.nk 10 11::.fa 205 11 0 12::.fa 55 12 1 13::.st 3 13 2::.rg::.mv 7 15::.mv 7 16::.so 16::.nk 16 17::.fa 205 17 2 18::.so 18::.ld 26 18 19::.mv 7 20::.so 20::.nk 20 21::.fa 205 21 0 22::.fa 55 22 5 23::.so 23::.ld 46 23 24::.mv 7 25::.nk 25 26::.fa 205 26 0 27::.fa 55 27 5 28::.ld 46 28 29::.mv 7 30::.nk 30 31::.fa 205 31 0 32::.fa 55 32 2 33::.ld 3 33 34::.ca true true 3 [29,34] 35::.ca false true 4 [19,5,24,35] 36::.mv 36 14::.ex 14 0 37::.ex 14 1 38::.nk 15 39::.fa 205 39 2 40::.st 26 40 37::.mv 38 9::.mv 9 41::.cn 41 [.mv 7 42,.nk 42 43,.fa 205 43 0 44,.fa 55 44 1 45,.st 3 45 6,.rt []] [.rt []]::[]) 38 [a] h :)
def aoa:=(yE5 k wl 185 Tryz.f185 [a] h :)
def akG:=(yB5 s k wl 186 Tryz.f186 [.u,.f 32,.f 27,.v (.lit (.int .u64 0)),.i 4] 5 [.rg,.mv 5 7,.mv 5 8,.so 8,.nk 8 9,.fa 205 9 2 10,.so 10,.ld 26 10 11,.mv 5 12,.nk 12 13,.fa 205 13 1 14,.ld 23 14 15,.mv 5 16,.nk 16 17,.fa 205 17 0 18,.fa 55 18 2 19,.ld 3 19 20,.ca true true 1 [15,20] 21,.ca false true 2 [11,21] 22,.nk 7 23,.fa 205 23 0 24,.fa 55 24 5 25,.st 46 25 22,.mv 5 26,.nk 26 27,.fa 205 27 0 28,.fa 55 28 5 29,.ld 46 29 30,.bo .neq 46 30 3 31,.cn 31 [.mv 5 32,.nk 32 33,.fa 205 33 0 34,.fa 55 34 1 35,.st 3 35 4,.rt []] [.rt []]] 30 [a] h :)
def akF:=(yE5 k wl 186 Tryz.f186 [a] h :)
def an1:=(yB5 s k wl 187 Tryz.f187 [.u,.f 32,.f 88,.v (.lit (.int .u64 0)),.f 193,.i 1] 6 [.rg,.mv 6 8,.mv 6 9,.so 9,.nk 9 10,.fa 205 10 2 11,.so 11,.ld 26 11 12,.mv 6 13,.nk 13 14,.fa 205 14 1 15,.ld 23 15 16,.mv 6 17,.nk 17 18,.fa 205 18 0 19,.fa 55 19 2 20,.ld 3 20 21,.ca true true 1 [16,21] 22,.ca false true 2 [12,22,3] 23,.nk 8 24,.fa 205 24 2 25,.st 26 25 23,.mv 6 26,.mv 6 27,.nk 27 28,.fa 205 28 0 29,.ld 55 29 30,.ca false true 4 [30,5,3] 31,.nk 26 32,.fa 205 32 0 33,.st 55 33 31,.rt []] 27 [a] h :)
def amL:=(yE5 k wl 187 Tryz.f187 [a] h :)
noncomputable def ga:Code:=ai (aj Tryz.f196) [1,0]
noncomputable def fD:List Fr:=[.seq (ai (aj Tryz.f196) [1,1])]
def aiw:=(yB5 s k wl 196 Tryz.f196 [.u,.b false,.f 105,.b true,.f 110] 5 [.bx 5 9,.bx 7 11,.mv 1 13,.rg,.ld 23 9 14,.mv 6 15,.ca false true 2 [14,15] 16,.mv 16 17,.gd 17 [.mv 3 17,.ld 55 11 18,.ca false true 4 [18] 19,.un .not 19 20,.sg ga 7 fD] [.mv 1 17,.sg ga 7 fD] [.sg ga 5 fD]] 29 [a,b,c,d] h :)
def ai2:=(yE5 k wl 196 Tryz.f196 [a,b,c,d] h :)
def XN:=(gB5 s k wl 196 Tryz.f196 ga 7 fD [.u,.b false,.b true] 3 [.pk 15 18 1 19,.mv 19 20,.gd 20 [.mv 2 20,.fa 55 9 0 21,.ld 3 21 22,.mv 6 23,.bo .eql 3 22 23 24,.sg ga 13 fD] [.mv 1 20,.mv 0 21,.mv 0 22,.mv 0 23,.mv 0 24,.sg ga 13 fD] [.mv 0 21,.sg ga 10 fD]] (a::b::c::d::e::g::i::j::l::m::o::p::q::r::u::v::w::x::y::z::A::B::zz) h m0 ac :)
def ZI:=(gB5 s k wl 196 Tryz.f196 ga 13 fD [.u,.b false,.b true,.i 0] 4 [.pk 21 25 1 26,.mv 26 27,.gd 27 [.mv 2 27,.fa 55 10 1 28,.ld 3 28 29,.bo .geq 3 29 3 30,.sg ga 18 fD] [.mv 1 27,.mv 0 28,.mv 0 29,.mv 0 30,.sg ga 18 fD] [.mv 0 28,.sg ga 16 fD]] (a::b::c::d::e::g::i::j::l::m::o::p::q::r::u::v::w::x::y::z::A::B::C::D::E::F::G::zz) h m0 ac :)
def X8:=(gB5 s k wl 196 Tryz.f196 ga 18 fD [.u,.b false,.b true,.i 5] 4 [.pk 27 30 1 31,.mv 31 32,.gd 32 [.mv 2 32,.fa 55 10 1 33,.ld 3 33 34,.bo .lss 3 34 3 35,.sg ga 23 fD] [.mv 1 32,.mv 0 33,.mv 0 34,.mv 0 35,.sg ga 23 fD] [.mv 0 33,.sg ga 21 fD]] [a,b,c,d,e,g,i,j,l,m,o,p,q,r,u,v,w,x,y,z,A,B,C,D,E,F,G,I,J,L,M,N,O] h m0 ac :)
def aab:=(gB5 s k wl 196 Tryz.f196 ga 23 fD [.u,.b false] 2 [.pk 30 33 1 34,.mv 34 10,.rv 10] [a,b,c,d,e,g,i,j,l,m,o,p,q,r,u,v,w,x,y,z,A,B,C,D,E,F,G,I,J,L,M,N,O] h m0 ac :)
def J8:=(yK5 cx K fD s0 :)
def amH:=(yB5 s k wl 197 Tryz.f197 [.u,.i 0,.f 27,.i 5,.i 1] 5 [.mv 1 7,.mv 5 8,.mv 5 9,.nk 9 10,.fa 221 10 2 11,.ld 26 11 12,.ca false true 2 [12,3] 13,.nk 8 14,.fa 221 14 0 15,.fa 55 15 4 16,.st 46 16 13,.mv 4 7,.rv 7] 11 [a] h :)
def an2:=(yE5 k wl 197 Tryz.f197 [a] h :)
def ain:=(yB5 s k wl 198 Tryz.f198 [.u,.i 0,.f 203,.f 27,.f 221,.i 2,.f 106,.f 193] 8 [.mv 1 10,.rg,.mv 8 11,.mv 8 12,.so 12,.nk 12 13,.fa 221 13 2 14,.so 14,.ld 26 14 15,.mv 8 16,.nk 16 17,.fa 221 17 1 18,.ld 23 18 19,.mv 8 20,.nk 20 21,.fa 221 21 0 22,.fa 55 22 4 23,.ld 46 23 24,.ca true true 2 [19,24] 25,.ca false true 3 [15,25] 26,.nk 11 27,.fa 221 27 0 28,.fa 55 28 5 29,.st 46 29 26,.rg,.mv 8 31,.so 31,.nk 31 32,.fa 221 32 0 33,.fa 55 33 5 34,.so 34,.ld 46 34 35,.mv 8 36,.ca true true 4 [36] 37,.bo .eql 46 35 37 38,.mv 38 30,.cn 30 [.mv 5 10,.rv 10] [.rg,.mv 8 40,.so 40,.nk 40 41,.fa 221 41 0 42,.fa 55 42 5 43,.so 43,.ld 46 43 44,.mv 8 45,.ca true true 4 [45] 46,.ca false true 6 [44,46] 47,.bo .lss 3 47 1 48,.mv 48 39,.cn 39 [.rg,.mv 8 49,.mv 8 50,.nk 50 51,.fa 221 51 0 52,.ld 55 52 53,.mv 8 54,.nk 54 55,.fa 221 55 0 56,.fa 55 56 3 57,.ld 46 57 58,.ca false true 7 [53,5,58] 59,.nk 49 60,.fa 221 60 0 61,.st 55 61 59,.mv 1 10,.rv 10] [.mv 1 10,.rv 10]]] 53 [a] h :)
def ai3:=(yE5 k wl 198 Tryz.f198 [a] h :)
def amN:=(yB5 s k wl 199 Tryz.f199 [.u,.i 0,.b false,.v (.lit (.int .u64 1)),.f 191,.i 5,.i 3] 7 [.mv 1 9,.mv 2 10,.rg,.mv 7 12,.mv 7 13,.nk 13 14,.fa 221 14 2 15,.ld 26 15 16,.mv 7 17,.nk 17 18,.fa 221 18 0 19,.fa 55 19 4 20,.ld 46 20 21,.mv 7 22,.nk 22 23,.fa 221 23 0 24,.fa 55 24 4 25,.ld 46 25 26,.bo .add 46 26 3 27,.ca false true 4 [16,5,21,27] 28,.mv 28 11,.ex 11 0 29,.ex 11 1 30,.nk 12 31,.fa 221 31 2 32,.st 26 32 29,.mv 30 10,.mv 10 33,.cn 33 [.mv 6 9,.rv 9] [.mv 1 9,.rv 9]] 26 [a] h :)
def akb:=(yE5 k wl 199 Tryz.f199 [a] h :)
def aji:=(yB5 s k wl 200 Tryz.f200 [.u,.i 0,.f 205,.f 88,.i 4] 5 [.mv 1 7,.rg,.mv 5 8,.mv 5 9,.so 9,.nk 9 10,.fa 221 10 2 11,.so 11,.ld 26 11 12,.mv 5 13,.nk 13 14,.fa 221 14 1 15,.ld 23 15 16,.mv 5 17,.nk 17 18,.fa 221 18 0 19,.fa 55 19 4 20,.ld 46 20 21,.ca true true 2 [16,21] 22,.mv 5 23,.so 23,.nk 23 24,.fa 221 24 0 25,.fa 55 25 3 26,.so 26,.ld 46 26 27,.ca false true 3 [12,22,27] 28,.nk 8 29,.fa 221 29 2 30,.st 26 30 28,.mv 4 7,.rv 7] 25 [a] h :)
def akc:=(yE5 k wl 200 Tryz.f200 [a] h :)
def aoe:=(yB5 s k wl 201 Tryz.f201 [.u,.i 0,.f 203,.f 221,.v (.lit (.int .u64 1)),.f 88,.f 193,.i 1] 8 (.mv 1 10::.rg::.mv 8 11::.mv 8 12::.so 12::.nk 12 13::.fa 221 13 2 14::.so 14::.ld 26 14 15::.mv 8 16::.nk 16 17::.fa 221 17 1 18::.ld 23 18 19::.mv 8 20::.nk 20 21::.fa 221 21 0 22::.fa 55 22 4 23::.ld 46 23 24::.ca true true 2 [19,24] 25::.mv 8 26::.ca true true 3 [26] 27::.bo .add 46 27 4 28::.ca false true 5 [15,25,28] 29::.nk 11 30::.fa 221 30 2 31::.st 26 31 29::.rg::.mv 8 32::.mv 8 33::.nk 33 34::.fa 221 34 0 35::.ld 55 35 36::.mv 8 37::.nk 37 38::.fa 221 38 0 39::.fa 55 39 3 40::.ld 46 40 41::.ca false true 6 [36,7,41] 42::.nk 32 43::.fa 221 43 0 44::.st 55 44 42::.mv 1 10::.rv 10::[]) 36 [a] h :)
def ak8:=(yE5 k wl 201 Tryz.f201 [a] h :)
def akT:=(yB5 s k wl 202 Tryz.f202 [.u,.i 0] 2 [.mv 1 4,.ld 223 2 5,.fa 55 3 1 6,.ld 3 6 7,.ia 223 5 7 8,.ld 116 8 9,.ca false true 9 [] 10,.mv 10 4,.rv 4] 7 [a,b] h :)
def alP:=(yE5 k wl 202 Tryz.f202 [a,b] h :)
def aoB:=(yB5 s k wl 204 Tryz.f204 [.u,.v (.lit (.int .u64 0)),.v (.lit (.int .u64 2)),.v (.lit (.int .u64 1))] 4 [.bx 4 6,.mv 1 8,.mv 5 9,.fa 23 6 2 10,.ld 3 10 11,.cv 3 46 11 12,.bo .quo 46 9 12 13,.bo .mul 46 13 2 14,.bo .add 46 14 3 15,.mv 15 8,.rv 8] 10 [a,b] h :)
def ajl:=(yE5 k wl 204 Tryz.f204 [a,b] h :)
def akk:=(yB5 s k wl 221 Tryz.f221 [.u,.v (.lit (.int .u64 0)),.v (.lit (.int .u64 2))] 3 [.mv 1 5,.rg,.mv 3 6,.nk 6 7,.fa 221 7 0 8,.fa 55 8 4 9,.ld 46 9 10,.mv 3 11,.nk 11 12,.fa 221 12 1 13,.fa 23 13 2 14,.ld 3 14 15,.cv 3 46 15 16,.bo .quo 46 10 16 17,.bo .mul 46 17 2 18,.mv 18 5,.rv 5] 15 [a] h :)
def aoD:=(yE5 k wl 221 Tryz.f221 [a] h :)
noncomputable def Fv:Code:=ai (aj Tryz.f105) [1,0]
noncomputable def BD:List Fr:=[.seq (ai (aj Tryz.f105) [1,1])]
def akx:=(yB5 s k wl 105 Tryz.f105 [.u,.b false,.f 50,.b true,.f 103] 5 [.bx 5 7,.mv 1 9,.rg,.ld 23 7 10,.ca false true 2 [10] 11,.mv 11 12,.gd 12 [.mv 3 12,.mv 6 13,.le 26 13 14,.ld 23 7 15,.ca false true 4 [15] 16,.bo .eql 3 14 16 17,.sg Fv 8 BD] [.mv 1 12,.sg Fv 8 BD] [.sg Fv 4 BD]] 12 [a,b] h :)
def aiy:=(yE5 k wl 105 Tryz.f105 [a,b] h :)
def aaH:=(gB5 s k wl 105 Tryz.f105 Fv 8 BD [.u,.b false] 2 [.pk 9 14 1 15,.mv 15 6,.rv 6] [a,b,c,d,e,g,i,j,l,m,o,p,q,r] h m0 ac :)
def Kv:=(yK5 cx K BD s0 :)
end
end Go.Ab
set_option maxRecDepth 100000
set_option linter.unusedVariables false
namespace Go.Ab
open Go.Proofs
section
variable (s:Sys) (k wl m0:Nat) (a b c d e g i j l m o p q r u v w x y z A B C D E F G I J L M N O Q R S T U W X Y Z ta tb tc td te tf tg th ti tj tk tl tm tn tp tq tr ts tt tu tv tw tx ty tz tA tB tC tD tE tF tG tH tI tJ tK tL tM tN tO tP tQ tR tS tT tU tV tW tX tY tZ q0 q1 q2 q3 q4 q5 q6 q7 q8 q9 qa qb qc qd qe qf qg qh qi qj qk ql qm qn qo qp qq qr qs qt qu qv qw:V) (h:Hp) (cx:Cx) (K:Out→St→Option (V×Hp)) (s0:St) (ac:List Nat×List Nat) (zz:List V)
noncomputable def FZ:List Fr:=[.seq (ai (aj Tryz.f134) [1,0,1,0,1,1,1]),.block 0,.seq (ai (aj Tryz.f134) [1,1])]
def aiM:=(yB5 s k wl 134 Tryz.f134 [.u,.i 5,.f 165,.i 6,.i 7] 5 [.bx 5 8,.bx 7 10,.nl 11,.al 55 12,.fa 55 10 0 13,.ld 3 13 14,.bo .eql 3 14 1 16,.mv 16 15,.cn 15 [.ld 23 8 17,.mv 6 18,.ld 55 10 19,.ca false true 2 [17,18,19] 20,.ex 20 0 21,.ex 20 1 22,.mv 21 11,.st 55 12 22,.ro [(none,11),(some 55,12)]] [.bo .eql 3 14 3 24,.mv 24 23,.cn 23 [.jn FZ] [.bo .eql 3 14 4 25,.mv 25 23,.jn FZ]]] 27 [a,b,c] h :)
def aoN:=(yE5 k wl 134 Tryz.f134 [a,b,c] h :)
def Y9:=(jB5 s k wl 134 Tryz.f134 FZ .norm [.u,.f 166,.f 76] 3 [.cn 21 [.ld 23 6 24,.mv 4 25,.ld 55 8 26,.ca false true 1 [24,25,26] 27,.ex 27 0 28,.ex 27 1 29,.mv 28 9,.st 55 10 29,.ro [(none,9),(some 55,10)]] [.rg,.mv 4 30,.ca true true 2 [30] 31,.so 8,.ld 55 8 32,.mv 31 9,.st 55 10 32,.ro [(none,9),(some 55,10)]]] [a,b,c,d,e,g,i,j,l,m,o,p,q,r,u,v,w,x,y,z,A,B,C,D,E,F,G,I,J,L] h :)
def Kq:=(yK5 cx K FZ s0 :)
def amd:=(yB5 s k wl 135 Tryz.f135 [.u,.i 3,.f 167,.i 4,.f 168,.f 76] 6 [.bx 6 9,.bx 8 11,.nl 12,.al 55 13,.fa 55 11 0 14,.ld 3 14 15,.bo .eql 3 15 1 17,.mv 17 16,.cn 16 [.ld 23 9 18,.mv 7 19,.ld 55 11 20,.ca false true 2 [18,19,20] 21,.ex 21 0 22,.ex 21 1 23,.mv 22 12,.st 55 13 23,.ro [(none,12),(some 55,13)]] [.bo .eql 3 15 3 25,.mv 25 24,.cn 24 [.ld 23 9 26,.mv 7 27,.ld 55 11 28,.ca false true 4 [26,27,28] 29,.ex 29 0 30,.ex 29 1 31,.mv 30 12,.st 55 13 31,.ro [(none,12),(some 55,13)]] [.rg,.mv 7 32,.ca true true 5 [32] 33,.so 11,.ld 55 11 34,.mv 33 12,.st 55 13 34,.ro [(none,12),(some 55,13)]]]] 26 [a,b,c] h :)
def ak4:=(yE5 k wl 135 Tryz.f135 [a,b,c] h :)
noncomputable def A7:List Fr:=[.block 0,.seq (ai (aj Tryz.f166) [1,1,1,1])]
noncomputable def FB:List Fr:=[.seq (ai (aj Tryz.f166) [1,1,1,0,0,1,1,1,1,1,0,1,1]),.block 0,.seq (ai (aj Tryz.f166) [1,1,1,1])]
noncomputable def Fz:Code:=ai (aj Tryz.f166) [1,1,1,0,0,1,1,1,1,1,1,1,0,1,0]
noncomputable def A3:List Fr:=[.seq (ai (aj Tryz.f166) [1,1,1,0,0,1,1,1,1,1,1,1,0,1,1]),.seq (ai (aj Tryz.f166) [1,1,1,0,0,1,1,1,1,1,1,1,1]),.block 0,.seq (ai (aj Tryz.f166) [1,1,1,1])]
def aj9:=(yB5 s k wl 166 Tryz.f166 [.u,.f 76,.f 189,.i 0,.f 27,.i 2,.i 1,.f 190,.f 191,.f 192,.v (.lit (.int .u64 0)),.f 193,.i 3,.i 6,.i (-1),.v (.lit (.int .u64 8)),.f 195,.f 194,.v (.lit (.int .u64 1)),.b true,.b false] 21 [.bx 21 24,.bx 23 26,.nl 27,.al 55 28,.mv 22 35,.ca false true 1 [35] 36,.mv 36 29,.ld 23 24 37,.mv 22 38,.ld 55 26 39,.ca false true 2 [37,38,39] 40,.un .not 40 41,.cn 41 [.rg,.mv 29 42,.ld 55 26 43,.mv 42 27,.st 55 28 43,.ro [(none,27),(some 55,28)]] [.fa 55 26 1 81,.ld 3 81 82,.bo .eql 3 82 3 83,.mv 83 80,.cn 80 [.mv 29 84,.ca false true 4 [84,5] 85,.fa 55 26 4 86,.st 46 86 85,.fa 55 26 1 87,.st 3 87 6,.jn A7] [.fa 55 26 1 89,.ld 3 89 90,.bo .eql 3 90 6 91,.mv 91 88,.cn 88 [.rg,.ca true true 7 [] 93,.fa 55 26 0 94,.so 94,.ld 3 94 95,.lk 212 93 95 false 96,.fa 55 26 4 97,.so 97,.ld 46 97 98,.ca false true 96 [98] 99,.mv 99 92,.ex 92 0 100,.ex 92 1 101,.mv 100 30,.mv 101 31,.mv 29 103,.fa 55 26 4 104,.ld 46 104 105,.mv 30 106,.ca false true 8 [103,5,105,106] 107,.mv 107 102,.ex 102 0 108,.ex 102 1 109,.mv 108 32,.mv 109 33,.mv 32 110,.mv 110 29,.fa 55 26 1 111,.st 3 111 3,.mv 33 112,.un .not 112 113,.cn 113 [.rg,.mv 29 114,.ld 55 26 115,.mv 114 27,.st 55 28 115,.ro [(none,27),(some 55,28)]] [.fa 55 26 4 116,.ld 46 116 117,.ca false true 9 [117] 118,.bo .eql 46 118 10 119,.cn 119 [.mv 29 120,.ld 55 26 121,.ca false true 11 [121,12,10] 122,.mv 120 27,.st 55 28 122,.ro [(none,27),(some 55,28)]] [.mv 31 123,.fa 55 26 5 124,.st 46 124 123,.fa 55 26 1 125,.st 3 125 5,.jn A7]]] [.fa 55 26 0 127,.ld 3 127 128,.bo .eql 3 128 13 129,.mv 129 126,.cn 126 [.mv 14 34,.fa 55 26 5 130,.ld 46 130 131,.bo .lss 46 131 15 132,.cn 132 [.fa 55 26 5 133,.ld 46 133 134,.cv 46 3 134 135,.mv 135 34,.jn FB] [.jn FB]] [.rg,.so 24,.ld 23 24 44,.mv 29 45,.fa 55 26 5 46,.ld 46 46 47,.ca true true 16 [47] 48,.bS true 53 1 [(0,48)] 49,.ca false true 17 [44,45,49] 50,.mv 50 29,.fa 55 26 5 51,.ld 46 51 52,.ca false true 9 [52] 53,.fa 55 26 5 54,.st 46 54 53,.rg,.fa 55 26 5 55,.ld 46 55 56,.fa 55 26 5 57,.ld 46 57 58,.bo .sub 46 58 18 59,.bo .and 46 56 59 60,.bo .eql 46 60 10 61,.mv 61 62,.gd 62 [.mv 19 62,.sg Fz 11 A3] [.mv 20 62,.fa 55 26 5 63,.ld 46 63 64,.bo .eql 46 64 10 65,.sg Fz 11 A3] [.sg Fz 9 A3]]]]]] 123 [a,b,c] h :)
def ane:=(yE5 k wl 166 Tryz.f166 [a,b,c] h :)
def acV:=(jB5 s k wl 166 Tryz.f166 A7 .norm [.u] 1 [.rg,.mv 9 125,.ld 55 6 126,.mv 125 7,.st 55 8 126,.ro [(none,7),(some 55,8)]] (a::b::c::d::e::g::i::j::l::m::o::p::q::r::u::v::w::x::y::z::A::B::C::D::E::F::G::I::J::L::M::N::O::Q::R::S::T::U::W::X::Y::Z::ta::tb::tc::td::te::tf::tg::th::ti::tj::tk::tl::tm::tn::tp::tq::tr::ts::tt::tu::tv::tw::tx::ty::tz::tA::tB::tC::tD::tE::tF::tG::tH::tI::tJ::tK::tL::tM::tN::tO::tP::tQ::tR::tS::tT::tU::tV::tW::tX::tY::tZ::q0::q1::q2::q3::q4::q5::q6::q7::q8::q9::qa::qb::qc::qd::qe::qf::qg::qh::qi::qj::qk::ql::qm::qn::qo::qp::qq::qr::qs::qt::qu::qv::qw::[]) h :)
def Zc:=(jB5 s k wl 166 Tryz.f166 FB .norm [.u,.f 194,.f 193,.i 1] 4 [.rg,.so 7,.ld 23 7 119,.mv 12 120,.mv 17 121,.bS true 53 1 [(0,121)] 122,.ca true true 1 [119,120,122] 123,.so 9,.ld 55 9 124,.fa 55 9 5 125,.so 125,.ld 46 125 126,.ca false true 2 [124,3,126] 127,.mv 123 10,.st 55 11 127,.ro [(none,10),(some 55,11)]] (a::b::c::d::e::g::i::j::l::m::o::p::q::r::u::v::w::x::y::z::A::B::C::D::E::F::G::I::J::L::M::N::O::Q::R::S::T::U::W::X::Y::Z::ta::tb::tc::td::te::tf::tg::th::ti::tj::tk::tl::tm::tn::tp::tq::tr::ts::tt::tu::tv::tw::tx::ty::tz::tA::tB::tC::tD::tE::tF::tG::tH::tI::tJ::tK::tL::tM::tN::tO::tP::tQ::tR::tS::tT::tU::tV::tW::tX::tY::tZ::q0::q1::q2::q3::q4::q5::q6::q7::q8::q9::qa::qb::qc::qd::qe::qf::qg::qh::qi::qj::qk::ql::qm::qn::qo::qp::qq::qr::qs::qt::qu::qv::qw::[]) h :)
def Yn:=(aqM s k wl 166 Tryz.f166 Fz 11 A3 [2] [.u,.b true,.f 192,.f 193,.i 1,.v (.lit (.int .u64 1))] 6 [.pk 47 1 50 51,.cn 51 [.rg,.mv 14 52,.so 11,.ld 55 11 53,.fa 55 11 4 54,.ld 46 54 55,.ca true true 2 [55] 56,.ca false true 3 [53,4,56] 57,.mv 52 12,.st 55 13 57,.ro [(none,12),(some 55,13)]] [.fa 55 11 5 58,.ld 46 58 59,.fa 55 11 5 60,.ld 46 60 61,.bo .sub 46 61 5 62,.bo .and 46 59 62 63,.fa 55 11 5 64,.st 46 64 63,.jn A7]] (a::b::c::d::e::g::i::j::l::m::o::p::q::r::u::v::w::x::y::z::A::B::C::D::E::F::G::I::J::L::M::N::O::Q::R::S::T::U::W::X::Y::Z::ta::tb::tc::td::te::tf::tg::th::ti::tj::tk::tl::tm::tn::tp::tq::tr::zz) h m0 ac :)
def Km:=(yK5 cx K A7 s0 :)
def IZ:=(yK5 cx K FB s0 :)
def JX:=(yK5 cx K A3 s0 :)
def akm:=(yB5 s k wl 167 Tryz.f167 [.u,.f 76,.f 196,.i 3] 4 [.bx 4 7,.bx 6 9,.nl 10,.al 55 11,.rg,.so 9,.ld 55 9 15,.so 7,.ld 23 7 16,.mv 5 17,.ca true true 1 [17] 18,.bu 221 [(0,15),(1,16),(2,18)] 19,.bx 19 20,.mv 20 12,.ld 23 7 21,.mv 5 22,.ld 55 9 23,.ca false true 2 [21,22,23,3] 24,.un .not 24 25,.cn 25 [.rg,.mv 12 26,.nk 26 27,.fa 221 27 2 28,.ld 26 28 29,.ld 55 9 30,.mv 29 10,.st 55 11 30,.ro [(none,10),(some 55,11)]] [.mv 12 31,.fn 197 [31] [] 32,.mv 12 33,.fn 198 [33] [] 34,.mv 12 35,.fn 199 [35] [] 36,.mv 12 37,.fn 200 [37] [] 38,.mv 12 39,.fn 201 [39] [] 40,.bS false 223 5 [(0,32),(1,34),(2,36),(3,38),(4,40)] 41,.al 223 13,.st 223 13 41,.fn 202 [] [13,9] 42,.mv 42 14,.mv 12 43,.mv 14 44,.ca false true 44 [] 45,.nk 43 46,.fa 221 46 0 47,.fa 55 47 1 48,.st 3 48 45,.rg,.mv 12 49,.nk 49 50,.fa 221 50 2 51,.ld 26 51 52,.mv 12 53,.nk 53 54,.fa 221 54 0 55,.ld 55 55 56,.mv 52 10,.st 55 11 56,.ro [(none,10),(some 55,11)]]] 50 [a,b,c] h :)
def anf:=(yE5 k wl 167 Tryz.f167 [a,b,c] h :)
noncomputable def mU:List Fr:=[.block 0,.seq (ai (aj Tryz.f168) [1,1,1,1])]
def aoL:=(yB5 s k wl 168 Tryz.f168 [.u,.f 76,.f 196,.i 4,.i 0,.f 27,.i 1,.f 203,.f 204,.f 106,.i 2,.f 193,.i 3,.v (.lit (.int .u64 0)),.b false,.v (.lit (.int .u64 1)),.f 191,.f 205,.f 88] 19 [.bx 19 22,.bx 21 24,.nl 25,.al 55 26,.mv 20 30,.ca false true 1 [30] 31,.mv 31 27,.ld 23 22 32,.mv 20 33,.ld 55 24 34,.ca false true 2 [32,33,34,3] 35,.un .not 35 36,.cn 36 [.rg,.mv 27 37,.ld 55 24 38,.mv 37 25,.st 55 26 38,.ro [(none,25),(some 55,26)]] [.fa 55 24 1 39,.ld 3 39 40,.bo .eql 3 40 4 57,.mv 57 56,.cn 56 [.mv 27 58,.ca false true 5 [58,3] 59,.fa 55 24 4 60,.st 46 60 59,.fa 55 24 1 61,.st 3 61 6,.jn mU] [.bo .eql 3 40 6 63,.mv 63 62,.cn 62 [.mv 27 64,.ld 23 22 65,.fa 55 24 4 66,.ld 46 66 67,.ca false true 7 [65,67] 68,.ca false true 5 [64,68] 69,.fa 55 24 5 70,.st 46 70 69,.fa 55 24 1 71,.st 3 71 4,.rg,.fa 55 24 5 72,.so 72,.ld 46 72 73,.ld 23 22 74,.fa 55 24 4 75,.ld 46 75 76,.ca true true 8 [74,76] 77,.ca false true 9 [73,77] 78,.mv 78 28,.mv 28 79,.bo .eql 3 79 4 80,.cn 80 [.fa 55 24 1 81,.st 3 81 10,.jn mU] [.mv 28 82,.bo .lss 3 82 4 83,.cn 83 [.ld 55 24 84,.ca false true 11 [84,12,13] 85,.st 55 24 85,.jn mU] [.jn mU]]] [.bo .eql 3 40 10 87,.mv 87 86,.cn 86 [.mv 14 29,.fa 55 24 1 88,.st 3 88 4,.mv 27 90,.fa 55 24 4 91,.ld 46 91 92,.fa 55 24 4 93,.ld 46 93 94,.bo .add 46 94 15 95,.ca false true 16 [90,3,92,95] 96,.mv 96 89,.ex 89 0 97,.ex 89 1 98,.mv 97 27,.mv 98 29,.mv 29 99,.cn 99 [.fa 55 24 1 100,.st 3 100 12,.jn mU] [.jn mU]] [.bo .eql 3 40 12 102,.mv 102 101,.cn 101 [.mv 27 103,.ld 23 22 104,.fa 55 24 4 105,.ld 46 105 106,.ca false true 17 [104,106] 107,.ca false true 5 [103,107] 108,.fa 55 24 3 109,.st 46 109 108,.fa 55 24 1 110,.st 3 110 3,.jn mU] [.rg,.mv 27 41,.ld 23 22 42,.fa 55 24 4 43,.ld 46 43 44,.ca true true 7 [42,44] 45,.so 22,.ld 23 22 46,.fa 55 24 4 47,.so 47,.ld 46 47 48,.ca false true 8 [46,48] 49,.bo .add 46 49 15 50,.ca false true 18 [41,45,50] 51,.mv 51 27,.ld 55 24 52,.fa 55 24 3 53,.ld 46 53 54,.ca false true 11 [52,6,54] 55,.st 55 24 55,.jn mU]]]]]] 91 [a,b,c] h :)
def ant:=(yE5 k wl 168 Tryz.f168 [a,b,c] h :)
def abV:=(jB5 s k wl 168 Tryz.f168 mU .norm [.u] 1 [.rg,.mv 9 93,.ld 55 6 94,.mv 93 7,.st 55 8 94,.ro [(none,7),(some 55,8)]] (a::b::c::d::e::g::i::j::l::m::o::p::q::r::u::v::w::x::y::z::A::B::C::D::E::F::G::I::J::L::M::N::O::Q::R::S::T::U::W::X::Y::Z::ta::tb::tc::td::te::tf::tg::th::ti::tj::tk::tl::tm::tn::tp::tq::tr::ts::tt::tu::tv::tw::tx::ty::tz::tA::tB::tC::tD::tE::tF::tG::tH::tI::tJ::tK::tL::tM::tN::tO::tP::tQ::tR::tS::tT::tU::tV::tW::tX::tY::tZ::q0::[]) h :)
def IP:=(yK5 cx K mU s0 :)
def anj:=(yB5 s k wl 180 Tryz.f180 [.u,.i 0,.f 207,.i 1,.f 208,.i 2,.f 209,.f 76] 8 [.bx 8 11,.bx 10 13,.nl 14,.al 55 15,.fa 55 13 0 16,.ld 3 16 17,.bo .eql 3 17 1 19,.mv 19 18,.cn 18 [.ld 23 11 20,.mv 9 21,.ld 55 13 22,.ca false true 2 [20,21,22] 23,.ex 23 0 24,.ex 23 1 25,.mv 24 14,.st 55 15 25,.ro [(none,14),(some 55,15)]] [.bo .eql 3 17 3 27,.mv 27 26,.cn 26 [.ld 23 11 28,.mv 9 29,.ld 55 13 30,.ca false true 4 [28,29,30] 31,.ex 31 0 32,.ex 31 1 33,.mv 32 14,.st 55 15 33,.ro [(none,14),(some 55,15)]] [.bo .eql 3 17 5 35,.mv 35 34,.cn 34 [.ld 23 11 36,.mv 9 37,.ld 55 13 38,.ca false true 6 [36,37,38] 39,.ex 39 0 40,.ex 39 1 41,.mv 40 14,.st 55 15 41,.ro [(none,14),(some 55,15)]] [.rg,.mv 9 42,.ca true true 7 [42] 43,.so 13,.ld 55 13 44,.mv 43 14,.st 55 15 44,.ro [(none,14),(some 55,15)]]]]] 34 [a,b,c] h :)
def akD:=(yE5 k wl 180 Tryz.f180 [a,b,c] h :)
end
end Go.Ab
set_option maxRecDepth 100000
set_option linter.unusedVariables false
namespace Go.Ab
open Go.Proofs
section
variable (s:Sys) (k wl m0 n n0:Nat) (a b c d e g i j l m o p q r u v w x y z A B C D E F G I J L M N O Q R S T U W X Y Z ta tb tc td te tf tg th ti tj tk tl tm tn tp tq tr ts tt tu tv tw tx ty tz tA tB tC tD tE:V) (h:Hp) (ac:List Nat×List Nat) (zz:List V) (cx:Cx) (K:Out→St→Option (V×Hp)) (s0:St) (P:Program) (rd:Bool)
noncomputable def cK:Code:=ai (aj Tryz.f42) [1,0]
noncomputable def cF:List Fr:=[.seq (ai (aj Tryz.f42) [1,1])]
def apM:=(yB5 s k wl 42 Tryz.f42 [.u,.b false,.i 0,.b true,.f 81] 5 [.bx 5 8,.mv 1 11,.rg,.fa 48 8 0 12,.ld 3 12 13,.bo .eql 3 13 2 14,.mv 14 15,.gd 15 [.mv 3 15,.fa 48 8 1 16,.ld 3 16 17,.mv 6 18,.ca false true 4 [17,18] 19,.sg cK 8 cF] [.mv 1 15,.sg cK 8 cF] [.sg cK 5 cF]] 34 [a,b,c] h :)
def ap8:=(yE5 k wl 42 Tryz.f42 [a,b,c] h :)
def ady:=(gB5 s k wl 42 Tryz.f42 cK 8 cF [.u,.b false,.b true,.i 1] 4 [.pk 14 18 1 19,.mv 19 20,.gd 20 [.mv 2 20,.mv 0 21,.mv 0 22,.mv 0 23,.mv 0 24,.mv 0 25,.mv 0 26,.mv 0 27,.mv 0 28,.mv 0 29,.sg cK 19 cF] [.mv 1 20,.fa 48 7 0 21,.ld 3 21 22,.bo .eql 3 22 3 23,.mv 23 24,.sg cK 14 cF] [.mv 0 21,.sg cK 11 cF]] (a::b::c::d::e::g::i::j::l::m::o::p::q::r::u::v::w::x::y::z::A::B::C::D::E::F::zz) h m0 ac :)
def adb:=(gB5 s k wl 42 Tryz.f42 cK 19 cF [.u,.b true,.b false,.i 2] 4 [.pk 20 1 29 30,.mv 30 31,.gd 31 [.mv 1 31,.mv 0 32,.mv 0 33,.mv 0 34,.sg cK 24 cF] [.mv 2 31,.fa 48 7 0 32,.ld 3 32 33,.bo .eql 3 33 3 34,.sg cK 24 cF] [.mv 0 32,.sg cK 22 cF]] (a::b::c::d::e::g::i::j::l::m::o::p::q::r::u::v::w::x::y::z::A::B::C::D::E::F::G::I::J::L::M::zz) h m0 ac :)
def ad8:=(gB5 s k wl 42 Tryz.f42 cK 14 cF [.u,.b true,.f 81,.b false] 4 [.gd 24 [.mv 1 24,.fa 48 7 1 25,.ld 3 25 26,.mv 6 27,.ca false true 2 [26,27] 28,.sg cK 18 cF] [.mv 3 24,.mv 0 25,.mv 0 26,.mv 0 27,.mv 0 28,.sg cK 18 cF] [.mv 0 25,.sg cK 15 cF]] (a::b::c::d::e::g::i::j::l::m::o::p::q::r::u::v::w::x::y::z::A::B::C::D::E::zz) h m0 ac :)
def af4:=(gB5 s k wl 42 Tryz.f42 cK 24 cF [.u,.b true,.b false,.i 3] 4 [.pk 31 1 34 35,.mv 35 36,.gd 36 [.mv 1 36,.mv 0 37,.mv 0 38,.mv 0 39,.sg cK 29 cF] [.mv 2 36,.fa 48 7 0 37,.ld 3 37 38,.bo .eql 3 38 3 39,.sg cK 29 cF] [.mv 0 37,.sg cK 27 cF]] [a,b,c,d,e,g,i,j,l,m,o,p,q,r,u,v,w,x,y,z,A,B,C,D,E,F,G,I,J,L,M,N,O,Q,R,S,T] h m0 ac :)
def ags:=(gB5 s k wl 42 Tryz.f42 cK 18 cF [.u,.b true,.b false] 3 [.gd 19 [.mv 1 19,.mv 0 28,.sg cK 19 cF] [.mv 2 19,.pk 23 27 2 28,.sg cK 19 cF] [.mv 0 28,.sg cK 19 cF]] (a::b::c::d::e::g::i::j::l::m::o::p::q::r::u::v::w::x::y::z::A::B::C::D::E::F::zz) h m0 ac :)
def adm:=(gB5 s k wl 42 Tryz.f42 cK 15 cF [.u,.b true,.f 81,.b false] 4 [.gd 24 [.mv 1 24,.ld 3 25 26,.mv 6 27,.ca false true 2 [26,27] 28,.sg cK 18 cF] [.mv 3 24,.mv 0 26,.mv 0 27,.mv 0 28,.sg cK 18 cF] [.mv 0 26,.sg cK 16 cF]] (a::b::c::d::e::g::i::j::l::m::o::p::q::r::u::v::w::x::y::z::A::B::C::D::E::zz) h m0 ac :)
def afC:=(gB5 s k wl 42 Tryz.f42 cK 29 cF [.u,.b true] 2 [.pk 34 1 37 38,.mv 38 8,.rv 8] [a,b,c,d,e,g,i,j,l,m,o,p,q,r,u,v,w,x,y,z,A,B,C,D,E,F,G,I,J,L,M,N,O,Q,R,S,T] h m0 ac :)
def agp:=(gB5 s k wl 42 Tryz.f42 cK 16 cF [.u,.b true,.f 81,.b false] 4 [.gd 24 [.mv 1 24,.mv 6 27,.ca false true 2 [26,27] 28,.sg cK 18 cF] [.mv 3 24,.mv 0 27,.mv 0 28,.sg cK 18 cF] [.mv 0 27,.sg cK 17 cF]] (a::b::c::d::e::g::i::j::l::m::o::p::q::r::u::v::w::x::y::z::A::B::C::D::E::zz) h m0 ac :)
def ahB:=(gB5 s k wl 42 Tryz.f42 cK 17 cF [.u,.b true,.f 81,.b false] 4 [.gd 24 [.mv 1 24,.ca false true 2 [26,27] 28,.sg cK 18 cF] [.mv 3 24,.mv 0 28,.sg cK 18 cF] [.mv 0 28,.sg cK 18 cF]] (a::b::c::d::e::g::i::j::l::m::o::p::q::r::u::v::w::x::y::z::A::B::C::D::E::zz) h m0 ac :)
def MW:=(yK5 cx K cF s0 :)
noncomputable def Mh:Code:=ai (aj Tryz.f59) [1,1,0,1,0,0]
noncomputable def K3:List Fr:=[.block 0,.seq (ai (aj Tryz.f59) [1,1,1])]
def ao1:=(yB5 s k wl 59 Tryz.f59 [.u,.f 103,.i 0] 3 [.bx 3 4,.nl 5,.nl 6,.ld 23 4 7,.ca false true 1 [7] 8,.mv 2 9,.lo Mh [7,5] K3] 12 [a] h :)
def apz:=(yE5 k wl 59 Tryz.f59 [a] h :)
def apI:=(yZ5 P Tryz.f59 [.u] 1 [.rv 3] (a::b::c::zz) h :)
def aft:=(rL5 s k wl 59 rd Mh n0 K n [.u,.v (.lit (.int .u64 0)),.i 1] 3 [.bo .lss 3 9 8 10,.cn 10 [.mv 6 11,.bS false 26 1 [(0,1)] 12,.ap 26 26 11 12 13,.mv 13 6,.bo .add 3 9 2 14,.mv 14 9,.nx Mh [7,5]] [.kt (.exit 0) [6,6]]] [a,b,c,d,e,g,i,j,l,m,o,p,q] h :)
def WO:=(jB5 s k wl 59 Tryz.f59 K3 (.exit 0) [.u] 1 [.mv 4 13,.mv 13 3,.rv 3] [a,b,c,d,e,g,i,j,l,m,o,p,q] h :)
def DN:=(yK5 cx K K3 s0 :)
def arb:=(yB5 s k wl 60 Tryz.f60 [.u,.f 104,.i 1,.v (.lit (.int .u64 0))] 4 [.al 65 6,.mv 4 7,.ca false true 1 [2,7,3] 8,.bu 65 [(2,8)] 9,.st 65 6 9,.ro [(some 65,6)]] 5 [a] h :)
def aqb:=(yE5 k wl 60 Tryz.f60 [a] h :)
noncomputable def KF:Code:=ai (aj Tryz.f81) [1,0]
noncomputable def Hu:List Fr:=[.seq (ai (aj Tryz.f81) [1,1])]
def aqV:=(yB5 s k wl 81 Tryz.f81 [.u,.b false,.i 0,.b true] 4 [.mv 1 8,.rg,.mv 4 9,.bo .geq 3 9 2 10,.mv 10 11,.gd 11 [.mv 3 11,.mv 4 12,.mv 5 13,.bo .lss 3 12 13 14,.sg KF 6 Hu] [.mv 1 11,.sg KF 6 Hu] [.sg KF 4 Hu]] 10 [a,b] h :)
def aqu:=(yE5 k wl 81 Tryz.f81 [a,b] h :)
def agZ:=(gB5 s k wl 81 Tryz.f81 KF 6 Hu [.u,.b false] 2 [.pk 9 12 1 13,.mv 13 6,.rv 6] [a,b,c,d,e,g,i,j,l,m,o,p] h m0 ac :)
def MO:=(yK5 cx K Hu s0 :)
end
end Go.Ab
set_option maxRecDepth 100000
set_option linter.unusedVariables false
namespace Go.Ab
open Go.Proofs
section
variable (s:Sys) (k wl n n0 m0:Nat) (a b c d e g i j l m o p q r u v w x y z A B C D E F G I J L M N O Q R S T U W X Y Z ta tb tc td te tf tg th ti tj tk tl:V) (h:Hp) (P:Program) (zz:List V) (K:Out→St→Option (V×Hp)) (rd:Bool) (cx:Cx) (s0:St) (ac:List Nat×List Nat)
noncomputable def FJ:Code:=ai (aj Tryz.f146) [1,0]
noncomputable def Cv:List Fr:=[.seq (ai (aj Tryz.f146) [1,1])]
def adN:=(yB5 s k wl 146 Tryz.f146 [.u,.b false,.f 56,.b true,.f 170] 5 [.bx 5 7,.mv 1 9,.rg,.ld 24 7 10,.ca false true 2 [10] 11,.mv 11 12,.gd 12 [.mv 3 12,.mv 6 13,.fn 171 [] [7] 14,.ca false true 4 [13,14] 15,.un .not 15 16,.sg FJ 7 Cv] [.mv 1 12,.sg FJ 7 Cv] [.sg FJ 4 Cv]] 11 [a,b] h :)
def ag8:=(yE5 k wl 146 Tryz.f146 [a,b] h :)
def Q8:=(gB5 s k wl 146 Tryz.f146 FJ 7 Cv [.u,.b false] 2 [.pk 9 13 1 14,.mv 14 6,.rv 6] [a,b,c,d,e,g,i,j,l,m,o,p,q] h m0 ac :)
def A4:=(yK5 cx K Cv s0 :)
noncomputable def FT:Code:=ai (aj Tryz.f162) [1,0,0]
noncomputable def BN:List Fr:=[.seq (ai (aj Tryz.f162) [1,0,1]),.seq (ai (aj Tryz.f162) [1,1])]
def anH:=(yB5 s k wl 162 Tryz.f162 [.u,.i 0,.b true,.b false,.f 146] 5 [.al 194 9,.rg,.mv 6 12,.le 63 12 13,.bo .eql 3 13 1 14,.mv 14 15,.gd 15 [.mv 2 15,.sg FT 8 BN] [.mv 3 15,.mv 5 16,.mv 6 17,.ca false true 4 [16,17] 18,.un .not 18 19,.sg FT 8 BN] [.sg FT 5 BN]] 52 [a,b] h :)
def ala:=(yE5 k wl 162 Tryz.f162 [a,b] h :)
def YI:=(gB5 s k wl 162 Tryz.f162 FT 8 BN [.u,.b true,.i 1,.i 2,.i 3] 5 [.pk 15 1 19 20,.cn 20 [.bu 194 [] 21,.st 194 9 21,.ro [(some 194,9)]] [.mv 6 22,.mv 6 23,.le 63 23 24,.bo .sub 3 24 2 25,.ia 63 22 25 26,.ld 129 26 27,.al 129 10,.st 129 10 27,.mv 5 28,.fa 129 10 0 29,.ld 3 29 30,.ia 24 28 30 31,.ld 101 31 32,.al 101 11,.st 101 11 32,.fa 129 10 1 34,.ld 3 34 35,.fa 101 11 0 36,.ld 3 36 37,.bo .lss 3 35 37 38,.mv 38 33,.cn 33 [.fa 129 10 0 39,.ld 3 39 40,.bu 194 [(0,2),(1,40)] 41,.st 194 9 41,.ro [(some 194,9)]] [.fa 129 10 2 43,.ld 3 43 44,.fa 101 11 1 45,.ld 53 45 46,.le 53 46 47,.bo .lss 3 44 47 48,.mv 48 42,.cn 42 [.fa 101 11 1 49,.ld 53 49 50,.fa 129 10 2 51,.ld 3 51 52,.ia 53 50 52 53,.ld 3 53 54,.bu 194 [(0,3),(1,54)] 55,.st 194 9 55,.ro [(some 194,9)]] [.fa 129 10 0 56,.ld 3 56 57,.bu 194 [(0,4),(1,57)] 58,.st 194 9 58,.ro [(some 194,9)]]]]] [a,b,c,d,e,g,i,j,l,m,o,p,q,r,u,v,w,x,y,z,A,B,C,D,E,F,G,I,J,L,M,N,O,Q,R,S,T,U,W,X,Y,Z,ta,tb,tc,td,te,tf,tg,th,ti,tj,tk,tl] h m0 ac :)
def J5:=(yK5 cx K BN s0 :)
def amx:=(yB5 s k wl 163 Tryz.f163 [.u,.f 79,.f 182,.f 162] 4 [.nl 8,.mv 5 12,.ca false true 1 [12] 13,.mv 13 9,.ca false true 2 [] 15,.mv 4 16,.mv 5 17,.ca false true 3 [16,17] 18,.fi 194 18 0 19,.lk 201 15 19 true 20,.mv 20 14,.ex 14 0 21,.ex 14 1 22,.mv 21 10,.mv 22 11,.mv 11 23,.cn 23 [.mv 10 24,.mv 9 25,.ca false true 24 [25] 26,.mv 26 8,.rv 8] [.mv 9 27,.mv 27 8,.rv 8]] 22 [a,b] h :)
def anM:=(yE5 k wl 163 Tryz.f163 [a,b] h :)
def afi:=(yB5 s k wl 170 Tryz.f170 [.u,.b false,.f 206,.i 0] 4 [.mv 1 8,.mv 4 9,.mv 5 10,.ca false true 2 [9,10] 11,.bo .geq 3 11 3 12,.mv 12 8,.rv 8] 7 [a,b] h :)
def adk:=(yE5 k wl 170 Tryz.f170 [a,b] h :)
noncomputable def dc:Code:=ai (aj Tryz.f171) [1,1,1,0]
noncomputable def cV:List Fr:=[.seq (ai (aj Tryz.f171) [1,1,1,1])]
def af7:=(yB5 s k wl 171 Tryz.f171 [.u,.b false,.i 1,.f 172,.b true] 5 [.bx 5 7,.mv 1 8,.fa 129 7 0 10,.ld 3 10 11,.ld 24 6 12,.le 24 12 13,.bo .sub 3 13 2 14,.ca false true 3 [11,14] 15,.un .not 15 16,.cn 16 [.mv 4 8,.rv 8] [.ld 24 6 17,.fa 129 7 0 18,.ld 3 18 19,.ia 24 17 19 20,.ld 101 20 21,.al 101 9,.st 101 9 21,.rg,.fa 129 7 1 22,.ld 3 22 23,.fa 101 9 0 24,.ld 3 24 25,.ca false true 3 [23,25] 26,.un .not 26 27,.mv 27 28,.gd 28 [.mv 4 28,.sg dc 14 cV] [.mv 1 28,.fa 129 7 2 29,.ld 3 29 30,.fa 101 9 1 31,.ld 53 31 32,.le 53 32 33,.ca false true 3 [30,33] 34,.un .not 34 35,.sg dc 14 cV] [.sg dc 8 cV]]] 42 [a,b] h :)
def ad1:=(yE5 k wl 171 Tryz.f171 [a,b] h :)
def QT:=(gB5 s k wl 171 Tryz.f171 dc 14 cV [.u,.b true,.b false] 3 [.pk 26 1 33 34,.mv 34 35,.gd 35 [.mv 1 35,.mv 0 36,.mv 0 37,.mv 0 38,.mv 0 39,.mv 0 40,.mv 0 41,.mv 0 42,.mv 0 43,.mv 0 44,.mv 0 45,.sg dc 26 cV] [.mv 2 35,.fa 129 5 1 36,.ld 3 36 37,.fa 101 7 0 38,.ld 3 38 39,.bo .lss 3 37 39 40,.mv 40 41,.sg dc 22 cV] [.mv 0 36,.sg dc 17 cV]] [a,b,c,d,e,g,i,j,l,m,o,p,q,r,u,v,w,x,y,z,A,B,C,D,E,F,G,I,J,L,M,N,O,Q,R,S,T,U,W,X,Y,Z,ta,tb] h m0 ac :)
def Pz:=(gB5 s k wl 171 Tryz.f171 dc 26 cV [.u,.b true] 2 [.pk 34 1 44 45,.mv 45 5,.rv 5] [a,b,c,d,e,g,i,j,l,m,o,p,q,r,u,v,w,x,y,z,A,B,C,D,E,F,G,I,J,L,M,N,O,Q,R,S,T,U,W,X,Y,Z,ta,tb] h m0 ac :)
def RA:=(gB5 s k wl 171 Tryz.f171 dc 22 cV [.u,.b true,.i 0,.b false] 4 [.gd 42 [.mv 1 42,.fa 129 6 2 43,.ld 3 43 44,.bo .gtr 3 44 2 45,.sg dc 25 cV] [.mv 3 42,.mv 0 43,.mv 0 44,.mv 0 45,.sg dc 25 cV] [.mv 0 43,.sg dc 23 cV]] [a,b,c,d,e,g,i,j,l,m,o,p,q,r,u,v,w,x,y,z,A,B,C,D,E,F,G,I,J,L,M,N,O,Q,R,S,T,U,W,X,Y,Z,ta,tb] h m0 ac :)
def Pr:=(gB5 s k wl 171 Tryz.f171 dc 25 cV [.u,.b true,.b false] 3 [.gd 35 [.mv 1 35,.mv 0 45,.sg dc 26 cV] [.mv 2 35,.pk 41 44 2 45,.sg dc 26 cV] [.mv 0 45,.sg dc 26 cV]] [a,b,c,d,e,g,i,j,l,m,o,p,q,r,u,v,w,x,y,z,A,B,C,D,E,F,G,I,J,L,M,N,O,Q,R,S,T,U,W,X,Y,Z,ta,tb] h m0 ac :)
def OV:=(gB5 s k wl 171 Tryz.f171 dc 23 cV [.u,.b true,.i 0,.b false] 4 [.gd 42 [.mv 1 42,.ld 3 43 44,.bo .gtr 3 44 2 45,.sg dc 25 cV] [.mv 3 42,.mv 0 44,.mv 0 45,.sg dc 25 cV] [.mv 0 44,.sg dc 24 cV]] [a,b,c,d,e,g,i,j,l,m,o,p,q,r,u,v,w,x,y,z,A,B,C,D,E,F,G,I,J,L,M,N,O,Q,R,S,T,U,W,X,Y,Z,ta,tb] h m0 ac :)
def Ry:=(gB5 s k wl 171 Tryz.f171 dc 24 cV [.u,.b true,.i 0,.b false] 4 [.gd 42 [.mv 1 42,.bo .gtr 3 44 2 45,.sg dc 25 cV] [.mv 3 42,.mv 0 45,.sg dc 25 cV] [.mv 0 45,.sg dc 25 cV]] [a,b,c,d,e,g,i,j,l,m,o,p,q,r,u,v,w,x,y,z,A,B,C,D,E,F,G,I,J,L,M,N,O,Q,R,S,T,U,W,X,Y,Z,ta,tb] h m0 ac :)
def Bj:=(yK5 cx K cV s0 :)
noncomputable def EM:Code:=ai (aj Tryz.f172) [1,0]
noncomputable def BL:List Fr:=[.seq (ai (aj Tryz.f172) [1,1])]
def anO:=(yB5 s k wl 172 Tryz.f172 [.u,.b false,.i 0,.b true] 4 [.mv 1 8,.rg,.mv 4 9,.bo .geq 3 9 2 10,.mv 10 11,.gd 11 [.mv 3 11,.mv 4 12,.mv 5 13,.bo .leq 3 12 13 14,.sg EM 6 BL] [.mv 1 11,.sg EM 6 BL] [.sg EM 4 BL]] 10 [a,b] h :)
def alH:=(yE5 k wl 172 Tryz.f172 [a,b] h :)
def ZL:=(gB5 s k wl 172 Tryz.f172 EM 6 BL [.u,.b false] 2 [.pk 9 12 1 13,.mv 13 6,.rv 6] [a,b,c,d,e,g,i,j,l,m,o,p] h m0 ac :)
def Jj:=(yK5 cx K BL s0 :)
noncomputable def EU:Code:=ai (aj Tryz.f181) [1,1,0,0]
noncomputable def Ck:List Fr:=[.seq (ai (aj Tryz.f181) [1,1,0,1]),.seq (ai (aj Tryz.f181) [1,1,1])]
def aof:=(yB5 s k wl 181 Tryz.f181 [.u,.f 79,.f 146,.b true,.b false,.i 1,.f 172] 7 [.nl 13,.mv 8 15,.ca false true 1 [15] 16,.mv 16 14,.rg,.mv 7 17,.mv 8 18,.ca false true 2 [17,18] 19,.un .not 19 20,.mv 20 21,.gd 21 [.mv 3 21,.sg EU 11 Ck] [.mv 4 21,.mv 9 22,.mv 7 23,.le 24 23 24,.bo .sub 3 24 5 25,.ca false true 6 [22,25] 26,.un .not 26 27,.sg EU 11 Ck] [.sg EU 6 Ck]] 25 [a,b,c] h :)
def aio:=(yE5 k wl 181 Tryz.f181 [a,b,c] h :)
def ab7:=(gB5 s k wl 181 Tryz.f181 EU 11 Ck [.u,.b true] 2 [.pk 16 1 22 23,.cn 23 [.mv 9 24,.mv 24 8,.rv 8] [.mv 9 25,.mv 4 26,.bu 129 [(0,26)] 27,.bS false 63 1 [(0,27)] 28,.ap 63 63 25 28 29,.mv 29 8,.rv 8]] [a,b,c,d,e,g,i,j,l,m,o,p,q,r,u,v,w,x,y,z,A,B,C,D,E,F,G,I] h m0 ac :)
def JF:=(yK5 cx K Ck s0 :)
def aoy:=(yB5 s k wl 182 Tryz.f182 [.u,.v (f9 (Value.map none)),.i 1,.f 210,.i 2,.f 211,.i 3,.f 212] 8 [.mv 1 8,.mk 9,.is 201 9 2 3,.is 201 9 4 5,.is 201 9 6 7,.mv 9 10,.mv 10 8,.rv 8] 3 [] h :)
def alb:=(yE5 k wl 182 Tryz.f182 [] h :)
noncomputable def F1:Code:=ai (aj Tryz.f206) [1,0,1,0,0]
noncomputable def FE:List Fr:=[.block 0,.seq (ai (aj Tryz.f206) [1,1])]
def aed:=(yB5 s k wl 206 Tryz.f206 [.u,.i 0] 2 [.mv 1 6,.mv 2 8,.le 63 8 9,.mv 1 10,.lo F1 [9] FE] 17 [a,b] h :)
def afG:=(yE5 k wl 206 Tryz.f206 [a,b] h :)
def aeK:=(yZ5 P Tryz.f206 [.u] 1 [.rv 5] (a::b::c::d::e::zz) h :)
def aah:=(rL5 s k wl 206 rd F1 n0 K n [.u,.i 1] 2 [.bo .lss 3 10 9 11,.cn 11 [.mv 10 12,.mv 12 7,.mv 3 13,.mv 2 14,.mv 7 15,.ia 63 14 15 16,.ld 129 16 17,.ca false true 13 [17] 18,.cn 18 [.mv 7 19,.mv 19 6,.kf .ret] [.bo .add 3 10 1 20,.mv 20 10,.nx F1 [9]]] [.kt (.exit 0) [8]]] [a,b,c,d,e,g,i,j,l,m,o,p,q,r,u,v,w,x,y] h :)
def Q2:=(jB5 s k wl 206 Tryz.f206 FE (.exit 0) [.u,.i (-1)] 2 [.mv 1 6,.rv 6] (a::b::c::d::e::zz) h :)
def Cd:=(yK5 cx K FE s0 :)
def alg:=(yB5 s k wl 210 Tryz.f210 [.u,.i 1] 2 [.nl 4,.mv 2 5,.mv 2 6,.le 63 6 7,.bo .sub 3 7 1 8,.ia 63 5 8 9,.fa 129 9 1 10,.ld 3 10 11,.bo .add 3 11 1 12,.ia 63 5 8 13,.fa 129 13 1 14,.st 3 14 12,.mv 2 15,.mv 15 4,.rv 4] 13 [a] h :)
def amr:=(yE5 k wl 210 Tryz.f210 [a] h :)
def am3:=(yB5 s k wl 211 Tryz.f211 [.u,.i 1] 2 [.nl 4,.mv 2 5,.mv 2 6,.le 63 6 7,.bo .sub 3 7 1 8,.ia 63 5 8 9,.fa 129 9 2 10,.ld 3 10 11,.bo .add 3 11 1 12,.ia 63 5 8 13,.fa 129 13 2 14,.st 3 14 12,.mv 2 15,.mv 15 4,.rv 4] 13 [a] h :)
def amM:=(yE5 k wl 211 Tryz.f211 [a] h :)
def aiD:=(yB5 s k wl 212 Tryz.f212 [.u,.i 1] 2 [.nl 4,.mv 2 5,.mv 2 6,.le 63 6 7,.bo .sub 3 7 1 8,.sl false 63 5 0 8 0 9,.mv 9 4,.rv 4] 7 [a] h :)
def ai8:=(yE5 k wl 212 Tryz.f212 [a] h :)
end
end Go.Ab
set_option maxRecDepth 100000
set_option linter.unusedVariables false
namespace Go.Ab
open Go.Proofs
section
variable (s:Sys) (k wl m0:Nat) (a b c d e g i j l m o p q r u v w x y z A B C D E F G I J L M N O Q R S T U W X Y Z ta tb tc td te tf tg th ti tj tk tl tm tn tp tq tr ts tt tu tv tw tx ty tz tA tB tC tD tE tF tG tH tI tJ tK tL tM tN tO tP tQ tR tS tT tU tV tW tX tY tZ q0 q1 q2 q3 q4 q5 q6 q7 q8 q9 qa qb qc qd qe qf qg qh qi qj qk ql qm qn qo qp qq qr qs qt qu qv qw qx qy qz qA qB qC qD qE qG qH qI qJ qK qL:V) (h:Hp) (ac:List Nat×List Nat) (zz:List V) (cx:Cx) (K:Out→St→Option (V×Hp)) (s0:St)
def apP:=(yB5 s k wl 83 Tryz.f83 [.u,.f 76,.f 79,.f 95] 4 [.bx 4 10,.bx 8 14,.nl 16,.al 65 17,.nl 18,.rg,.so 14,.ld 65 14 21,.so 10,.ld 23 10 22,.mv 5 23,.mv 6 24,.ca true true 1 [24] 25,.mv 7 26,.mv 9 27,.bu 168 [(0,21),(1,22),(2,23),(3,25),(4,26),(5,27)] 28,.bx 28 29,.mv 29 19,.mv 19 30,.fa 65 14 1 31,.ld 63 31 32,.ca false true 2 [32] 33,.nk 30 34,.fa 168 34 0 35,.fa 65 35 1 36,.st 63 36 33,.ld 23 10 37,.mv 5 38,.mv 6 39,.mv 7 40,.ld 65 14 41,.ca false true 3 [37,38,39,40,41] 42,.un .not 42 43,.cn 43 [.rg,.mv 19 44,.nk 44 45,.fa 168 45 3 46,.ld 26 46 47,.mv 19 48,.nk 48 49,.fa 168 49 0 50,.ld 65 50 51,.mv 47 16,.st 65 17 51,.nl 18,.ro [(none,16),(some 65,17),(none,18)]] [.mv 19 52,.fn 116 [52] [] 53,.mv 19 54,.fn 117 [54] [] 55,.mv 19 56,.fn 118 [56] [] 57,.mv 19 58,.fn 118 [58] [] 59,.mv 19 60,.fn 119 [60] [] 61,.mv 19 62,.fn 120 [62] [] 63,.mv 19 64,.fn 121 [64] [] 65,.mv 19 66,.fn 122 [66] [] 67,.mv 19 68,.fn 123 [68] [] 69,.mv 19 70,.fn 124 [70] [] 71,.mv 19 72,.fn 125 [72] [] 73,.mv 19 74,.fn 126 [74] [] 75,.mv 19 76,.fn 127 [76] [] 77,.mv 19 78,.fn 128 [78] [] 79,.mv 19 80,.fn 129 [80] [] 81,.mv 19 82,.fn 130 [82] [] 83,.bu 169 [(0,53),(1,55),(2,57),(3,59),(4,61),(5,63),(6,65),(7,67),(8,69),(9,71),(10,73),(11,75),(12,77),(13,79),(14,81),(15,83)] 84,.al 169 20,.st 169 20 84,.fa 65 14 0 85,.ld 3 85 86,.ia 169 20 86 87,.ld 1 87 88,.ca false true 88 [] 89,.rg,.mv 19 90,.nk 90 91,.fa 168 91 3 92,.ld 26 92 93,.mv 19 94,.nk 94 95,.fa 168 95 0 96,.ld 65 96 97,.mv 19 98,.so 98,.lr 98,.nk 98 99,.fa 168 99 6 100,.so 100,.lr 100,.ld 34 100 101,.mv 93 16,.lw 17,.st 65 17 97,.mv 101 18,.pt,.ro [(none,16),(some 65,17),(none,18)]]] 92 [a,b,c,d,e,g] h :)
def apO:=(yE5 k wl 83 Tryz.f83 [a,b,c,d,e,g] h :)
def ai7:=(yB5 s k wl 116 Tryz.f116 [.u,.f 156,.i 1,.f 157,.i 9,.f 158] 6 [.mv 6 9,.ca false true 1 [9] 10,.un .not 10 11,.cn 11 [.rt []] [.mv 6 12,.nk 12 13,.fa 168 13 0 14,.fa 65 14 2 15,.ld 55 15 16,.al 55 8,.st 55 8 16,.fa 55 8 6 17,.ld 3 17 18,.bo .neq 3 18 2 19,.cn 19 [.mv 6 20,.ca false true 3 [20,2] 21,.rt []] [.mv 6 22,.ca false true 3 [22,4] 23,.mv 6 24,.fa 55 8 3 25,.ld 46 25 26,.ca false true 5 [24,26] 27,.rt []]]] 21 [a] h :)
def am7:=(yE5 k wl 116 Tryz.f116 [a] h :)
def anl:=(yB5 s k wl 117 Tryz.f117 [.u,.f 159,.i 1,.v (.lit (.int .u64 1)),.f 160,.i 2,.i 4,.v (.lit (.int .u64 0))] 8 [.mv 8 10,.ca false true 1 [10,2,3] 11,.mv 8 12,.mv 8 13,.nk 13 14,.fa 168 14 1 15,.fa 23 15 3 16,.ld 3 16 17,.nk 12 18,.fa 168 18 0 19,.fa 65 19 3 20,.st 3 20 17,.mv 8 21,.mv 8 22,.nk 22 23,.fa 168 23 4 24,.ld 3 24 25,.ca false true 4 [21,5,6,25,7] 26,.rt []] 18 [a] h :)
def anU:=(yE5 k wl 117 Tryz.f117 [a] h :)
noncomputable def F4:Code:=ai (aj Tryz.f118) [0,1,1,1,0,0]
noncomputable def A0:List Fr:=[.seq (ai (aj Tryz.f118) [0,1,1,1,0,1]),.seq (ai (aj Tryz.f118) [0,1,1,1,1]),.scope (ai (aj Tryz.f118) [0])]
def alX:=(yB5 s k wl 118 Tryz.f118 [.u,.f 161,.f 156,.i 1,.i 4,.i 2,.b true,.i 0,.b false] 9 [.rg,.mv 9 12,.nk 12 13,.fa 168 13 5 14,.ld 46 14 15,.mv 9 16,.nk 16 17,.fa 168 17 4 18,.ld 3 18 19,.mv 9 20,.nk 20 21,.fa 168 21 1 22,.fa 23 22 0 23,.ld 3 23 24,.ca false true 1 [15,19,24] 25,.mv 25 11,.mv 9 26,.ca false true 2 [26] 27,.un .not 27 28,.cn 28 [.rt []] [.mv 9 29,.nk 29 30,.fa 168 30 0 31,.fa 65 31 2 32,.fa 55 32 6 33,.ld 3 33 34,.bo .eql 3 34 3 35,.cn 35 [.mv 9 76,.nk 76 77,.fa 168 77 0 78,.fa 65 78 0 79,.st 3 79 4,.rt []] [.rg,.mv 9 36,.nk 36 37,.fa 168 37 0 38,.fa 65 38 0 39,.ld 3 39 40,.bo .eql 3 40 5 41,.mv 41 42,.gd 42 [.mv 6 42,.mv 11 43,.bo .geq 3 43 7 44,.sg F4 9 A0] [.mv 8 42,.sg F4 9 A0] [.sg F4 8 A0]]]] 70 [a] h :)
def ak6:=(yE5 k wl 118 Tryz.f118 [a] h :)
def acn:=(gB5 s k wl 118 Tryz.f118 F4 9 A0 [.u,.b false,.f 160,.i 3,.i 2,.v (.lit (.int .u64 0)),.i 0,.i 5,.i 1,.i 4] 10 [.pk 43 45 1 46,.cn 46 [.mv 10 47,.mv 12 48,.ca false true 2 [47,3,4,48,5] 49,.rt []] [.mv 10 50,.nk 50 51,.fa 168 51 0 52,.fa 65 52 3 53,.ld 3 53 54,.bo .leq 3 54 6 55,.cn 55 [.mv 10 71,.mv 10 72,.nk 72 73,.fa 168 73 4 74,.ld 3 74 75,.ca false true 2 [71,7,7,75,5] 76,.rt []] [.mv 10 56,.nk 56 57,.fa 168 57 0 58,.fa 65 58 3 59,.ld 3 59 60,.bo .sub 3 60 8 61,.nk 56 62,.fa 168 62 0 63,.fa 65 63 3 64,.st 3 64 61,.mv 10 65,.mv 10 66,.nk 66 67,.fa 168 67 4 68,.ld 3 68 69,.ca false true 2 [65,4,9,69,5] 70,.rt []]]] (a::b::c::d::e::g::i::j::l::m::o::p::q::r::u::v::w::x::y::z::A::B::C::D::E::F::G::I::J::L::M::N::O::Q::R::S::T::U::W::X::Y::Z::ta::tb::tc::td::te::tf::tg::th::ti::tj::tk::tl::tm::tn::tp::tq::tr::ts::tt::tu::tv::tw::tx::ty::tz::zz) h m0 ac :)
def Jq:=(yK5 cx K A0 s0 :)
noncomputable def EL:List Fr:=[.seq (ai (aj Tryz.f119) [1,1])]
def aiX:=(yB5 s k wl 119 Tryz.f119 [.u,.f 159,.i 1,.v (.lit (.int .u64 18446744073709551615)),.v (.lit (.int .u64 1)),.f 160,.i 14,.i 6,.v (.lit (.int .u64 0)),.f 157,.i 9] 11 [.mv 11 14,.nk 14 15,.fa 168 15 0 16,.fa 65 16 2 17,.fa 55 17 3 18,.ld 46 18 19,.mv 19 13,.mv 11 20,.ca false true 1 [20,2,3] 21,.bo .eql 46 21 4 22,.cn 22 [.mv 11 23,.mv 11 24,.nk 24 25,.fa 168 25 4 26,.ld 3 26 27,.ca false true 5 [23,6,7,27,8] 28,.jn EL] [.mv 11 29,.ca false true 9 [29,10] 30,.jn EL]] 22 [a] h :)
def akI:=(yE5 k wl 119 Tryz.f119 [a] h :)
def YJ:=(jB5 s k wl 119 Tryz.f119 EL .norm [.u,.f 158] 2 [.mv 2 22,.mv 4 23,.ca false true 1 [22,23] 24,.rt []] [a,b,c,d,e,g,i,j,l,m,o,p,q,r,u,v,w,x,y,z,A,B,C] h :)
def Jb:=(yK5 cx K EL s0 :)
def aiI:=(yB5 s k wl 120 Tryz.f120 [.u,.f 156,.i 6] 3 [.mv 3 5,.ca false true 1 [5] 6,.mv 3 7,.nk 7 8,.fa 168 8 0 9,.fa 65 9 0 10,.st 3 10 2,.rt []] 7 [a] h :)
def ajX:=(yE5 k wl 120 Tryz.f120 [a] h :)
def ajD:=(yB5 s k wl 121 Tryz.f121 [.u,.f 159,.i 1,.v (.lit (.int .u64 18446744073709551615)),.i 7,.i 0] 6 [.mv 6 8,.ca false true 1 [8,2,3] 9,.mv 6 10,.mv 6 11,.nk 10 12,.fa 168 12 0 13,.fa 65 13 0 14,.st 3 14 4,.nk 11 15,.fa 168 15 0 16,.fa 65 16 4 17,.st 3 17 5,.rt []] 11 [a] h :)
def akf:=(yE5 k wl 121 Tryz.f121 [a] h :)
noncomputable def Fh:Code:=ai (aj Tryz.f122) [1,1,0,0]
noncomputable def Bw:List Fr:=[.seq (ai (aj Tryz.f122) [1,1,0,1]),.seq (ai (aj Tryz.f122) [1,1,1])]
noncomputable def wB:List Fr:=[.block 0,.seq (ai (aj Tryz.f122) [1,1,1,1,1,1])]
def amq:=(yB5 s k wl 122 Tryz.f122 [.u,.i 2,.i 0,.b true,.b false] 5 [.mv 5 11,.nk 11 12,.fa 168 12 0 13,.fa 65 13 4 14,.ld 3 14 15,.mv 15 7,.mv 5 16,.nk 16 17,.fa 168 17 1 18,.fa 23 18 0 19,.ld 3 19 20,.bo .mul 3 1 20 21,.bo .add 3 1 21 22,.mv 22 8,.rg,.mv 7 23,.bo .lss 3 23 2 24,.mv 24 25,.gd 25 [.mv 3 25,.sg Fh 6 Bw] [.mv 4 25,.mv 7 26,.mv 8 27,.bo .geq 3 26 27 28,.sg Fh 6 Bw] [.sg Fh 4 Bw]] 139 [a] h :)
def als:=(yE5 k wl 122 Tryz.f122 [a] h :)
def abP:=(gB5 s k wl 122 Tryz.f122 Fh 6 Bw [.u,.b true,.i 8,.v (.lit (.int .u64 0)),.i 0,.b false,.i 2,.f 27,.i 4,.i 1,.i 5,.f 107,.f 108,.f 106] 14 [.pk 34 1 37 38,.cn 38 [.mv 14 39,.mv 14 40,.mv 14 41,.nk 39 42,.fa 168 42 0 43,.fa 65 43 0 44,.st 3 44 2,.nk 40 45,.fa 168 45 0 46,.fa 65 46 2 47,.fa 55 47 3 48,.st 46 48 3,.nk 41 49,.fa 168 49 0 50,.fa 65 50 4 51,.st 3 51 4,.rt []] [.mv 5 18,.mv 16 52,.bo .sub 3 52 6 53,.bo .quo 3 53 6 54,.mv 54 19,.mv 16 75,.bo .eql 3 75 4 76,.mv 76 74,.cn 74 [.mv 14 77,.mv 14 78,.nk 78 79,.fa 168 79 3 80,.ld 26 80 81,.ca false true 7 [81,8] 82,.nk 77 83,.fa 168 83 0 84,.fa 65 84 2 85,.fa 55 85 3 86,.st 46 86 82,.jn wB] [.mv 16 88,.bo .eql 3 88 9 89,.mv 89 87,.cn 87 [.rg,.mv 14 90,.nk 90 91,.fa 168 91 3 92,.ld 26 92 93,.ca true true 7 [93,10] 94,.mv 14 95,.so 95,.nk 95 96,.fa 168 96 0 97,.fa 65 97 2 98,.fa 55 98 3 99,.so 99,.ld 46 99 100,.bo .neq 46 94 100 101,.mv 101 18,.jn wB] [.mv 16 103,.bo .rem 3 103 6 104,.bo .eql 3 104 4 105,.mv 105 102,.cn 102 [.rg,.mv 14 106,.mv 14 107,.so 107,.nk 107 108,.fa 168 108 3 109,.so 109,.ld 26 109 110,.mv 14 111,.nk 111 112,.fa 168 112 1 113,.ld 23 113 114,.mv 19 115,.ca true true 11 [114,115] 116,.ca false true 7 [110,116] 117,.nk 106 118,.fa 168 118 0 119,.fa 65 119 2 120,.fa 55 120 3 121,.st 46 121 117,.jn wB] [.rg,.mv 14 55,.so 55,.nk 55 56,.fa 168 56 3 57,.so 57,.ld 26 57 58,.mv 14 59,.nk 59 60,.fa 168 60 1 61,.ld 23 61 62,.mv 19 63,.ca true true 12 [62,63] 64,.ca true true 7 [58,64] 65,.mv 14 66,.so 66,.nk 66 67,.fa 168 67 0 68,.fa 65 68 2 69,.fa 55 69 3 70,.so 70,.ld 46 70 71,.ca false true 13 [65,71] 72,.bo .gtr 3 72 4 73,.mv 73 18,.jn wB]]]]] (a::b::c::d::e::g::i::j::l::m::o::p::q::r::u::v::w::x::y::z::A::B::C::D::E::F::G::I::J::L::M::N::O::Q::R::S::T::U::W::X::Y::Z::ta::tb::tc::td::te::tf::tg::th::ti::tj::tk::tl::tm::tn::tp::tq::tr::ts::tt::tu::tv::tw::tx::ty::tz::tA::tB::tC::tD::tE::tF::tG::tH::tI::tJ::tK::tL::tM::tN::tO::tP::tQ::tR::tS::tT::tU::tV::tW::tX::tY::tZ::q0::q1::q2::q3::q4::q5::q6::q7::q8::q9::qa::qb::qc::qd::qe::zz) h m0 ac :)
def X0:=(jB5 s k wl 122 Tryz.f122 wB .norm [.u,.f 157,.i 1,.i 8,.v (.lit (.int .u64 0)),.i 0] 6 [.mv 10 114,.cn 114 [.mv 6 115,.ca false true 1 [115,2] 116,.rt []] [.mv 6 117,.nk 117 118,.fa 168 118 0 119,.fa 65 119 4 120,.ld 3 120 121,.bo .add 3 121 2 122,.nk 117 123,.fa 168 123 0 124,.fa 65 124 4 125,.st 3 125 122,.mv 6 126,.nk 126 127,.fa 168 127 0 128,.fa 65 128 4 129,.ld 3 129 130,.mv 9 131,.bo .eql 3 130 131 132,.cn 132 [.mv 6 133,.mv 6 134,.mv 6 135,.nk 133 136,.fa 168 136 0 137,.fa 65 137 0 138,.st 3 138 3,.nk 134 139,.fa 168 139 0 140,.fa 65 140 2 141,.fa 55 141 3 142,.st 46 142 4,.nk 135 143,.fa 168 143 0 144,.fa 65 144 4 145,.st 3 145 5,.rt []] [.rt []]]] (a::b::c::d::e::g::i::j::l::m::o::p::q::r::u::v::w::x::y::z::A::B::C::D::E::F::G::I::J::L::M::N::O::Q::R::S::T::U::W::X::Y::Z::ta::tb::tc::td::te::tf::tg::th::ti::tj::tk::tl::tm::tn::tp::tq::tr::ts::tt::tu::tv::tw::tx::ty::tz::tA::tB::tC::tD::tE::tF::tG::tH::tI::tJ::tK::tL::tM::tN::tO::tP::tQ::tR::tS::tT::tU::tV::tW::tX::tY::tZ::q0::q1::q2::q3::q4::q5::q6::q7::q8::q9::qa::qb::qc::qd::qe::qf::qg::qh::qi::qj::qk::ql::qm::qn::qo::qp::qq::qr::qs::qt::qu::qv::qw::qx::qy::qz::qA::qB::qC::qD::qE::qG::qH::qI::qJ::qK::qL::[]) h :)
def IO:=(yK5 cx K Bw s0 :)
def I3:=(yK5 cx K wB s0 :)
def aj6:=(yB5 s k wl 123 Tryz.f123 [.u,.f 156,.f 157,.i 1] 4 [.mv 4 6,.ca false true 1 [6] 7,.cn 7 [.mv 4 8,.ca false true 2 [8,3] 9,.rt []] [.rt []]] 5 [a] h :)
def ak0:=(yE5 k wl 123 Tryz.f123 [a] h :)
def al3:=(yB5 s k wl 124 Tryz.f124 [.u,.f 162,.i 1,.f 163,.i 2,.i 10,.i 3,.i 15,.f 160,.i 0,.v (.lit (.int .u64 0))] 11 [.rg,.mv 11 13,.nk 13 14,.fa 168 14 2 15,.ld 24 15 16,.mv 11 17,.nk 17 18,.fa 168 18 0 19,.fa 65 19 1 20,.ld 63 20 21,.ca false true 1 [16,21] 22,.fi 194 22 0 23,.bo .eql 3 23 2 31,.mv 31 30,.cn 30 [.rg,.mv 11 32,.mv 11 33,.nk 33 34,.fa 168 34 2 35,.ld 24 35 36,.mv 11 37,.nk 37 38,.fa 168 38 0 39,.fa 65 39 1 40,.ld 63 40 41,.ca false true 3 [36,41] 42,.nk 32 43,.fa 168 43 0 44,.fa 65 44 1 45,.st 63 45 42,.rt []] [.bo .eql 3 23 4 47,.mv 47 46,.cn 46 [.mv 11 48,.nk 48 49,.fa 168 49 0 50,.fa 65 50 0 51,.st 3 51 5,.rt []] [.bo .eql 3 23 6 53,.mv 53 52,.cn 52 [.mv 11 54,.nk 54 55,.fa 168 55 0 56,.fa 65 56 0 57,.st 3 57 7,.rt []] [.mv 11 24,.mv 11 25,.nk 25 26,.fa 168 26 4 27,.ld 3 27 28,.ca false true 8 [24,9,2,28,10] 29,.rt []]]]] 46 [a] h :)
def aiN:=(yE5 k wl 124 Tryz.f124 [a] h :)
def amh:=(yB5 s k wl 125 Tryz.f125 [.u,.f 162,.i 2,.f 157,.i 9,.f 159,.i 0,.v (.lit (.int .u64 1)),.f 164,.i 3,.f 163,.f 160,.i 11] 13 [.rg,.al 194 15,.mv 13 16,.nk 16 17,.fa 168 17 2 18,.ld 24 18 19,.mv 13 20,.nk 20 21,.fa 168 21 0 22,.fa 65 22 1 23,.ld 63 23 24,.ca true true 1 [19,24] 25,.st 194 15 25,.fa 194 15 0 26,.ld 3 26 27,.bo .neq 3 27 2 28,.cn 28 [.mv 13 29,.ca false true 3 [29,4] 30,.rt []] [.mv 13 31,.ca false true 5 [31,6,7] 32,.mv 13 33,.fa 194 15 1 34,.ld 3 34 35,.ca false true 8 [33,9,35] 36,.rg,.mv 13 37,.mv 13 38,.nk 38 39,.fa 168 39 2 40,.ld 24 40 41,.mv 13 42,.nk 42 43,.fa 168 43 0 44,.fa 65 44 1 45,.ld 63 45 46,.ca false true 10 [41,46] 47,.nk 37 48,.fa 168 48 0 49,.fa 65 49 1 50,.st 63 50 47,.rg,.mv 13 51,.mv 13 52,.nk 52 53,.fa 168 53 4 54,.ld 3 54 55,.fa 194 15 1 56,.ld 3 56 57,.cv 3 46 57 58,.ca false true 11 [51,12,6,55,58] 59,.rt []]] 46 [a] h :)
def ajF:=(yE5 k wl 125 Tryz.f125 [a] h :)
def alt:=(yB5 s k wl 126 Tryz.f126 [.u,.f 156,.i 2,.f 160,.i 12,.i 3,.f 157,.i 13] 8 [.mv 8 13,.ca false true 1 [13] 14,.un .not 14 15,.mv 15 12,.cn 12 [.rt []] [.mv 8 17,.nk 17 18,.fa 168 18 0 19,.fa 65 19 2 20,.fa 55 20 6 21,.ld 3 21 22,.bo .eql 3 22 2 23,.mv 23 16,.cn 16 [.rg,.mv 8 24,.mv 8 25,.nk 25 26,.fa 168 26 4 27,.ld 3 27 28,.mv 8 29,.nk 29 30,.fa 168 30 0 31,.fa 65 31 2 32,.fa 55 32 3 33,.ld 46 33 34,.ca false true 3 [24,4,5,28,34] 35,.rt []] [.mv 8 10,.ca false true 6 [10,7] 11,.rt []]]] 27 [a] h :)
def amD:=(yE5 k wl 126 Tryz.f126 [a] h :)
def al8:=(yB5 s k wl 127 Tryz.f127 [.u,.f 156,.i 2,.f 157,.i 9,.f 158,.i 13] 7 [.mv 7 13,.ca false true 1 [13] 14,.un .not 14 15,.mv 15 12,.cn 12 [.rt []] [.mv 7 17,.nk 17 18,.fa 168 18 0 19,.fa 65 19 2 20,.fa 55 20 6 21,.ld 3 21 22,.bo .eql 3 22 2 23,.mv 23 16,.cn 16 [.mv 7 24,.nk 24 25,.fa 168 25 0 26,.fa 65 26 2 27,.fa 55 27 3 28,.ld 46 28 29,.mv 29 9,.mv 7 30,.ca false true 3 [30,4] 31,.mv 7 32,.mv 9 33,.ca false true 5 [32,33] 34,.rt []] [.mv 7 10,.ca false true 3 [10,6] 11,.rt []]]] 27 [a] h :)
def amT:=(yE5 k wl 127 Tryz.f127 [a] h :)
def aiu:=(yB5 s k wl 128 Tryz.f128 [.u,.f 27,.i 1,.v (.lit (.int .u64 0)),.f 160,.i 14,.i 6,.f 157,.i 9] 9 [.mv 9 11,.nk 11 12,.fa 168 12 3 13,.ld 26 13 14,.ca false true 1 [14,2] 15,.bo .eql 46 15 3 16,.cn 16 [.mv 9 17,.mv 9 18,.nk 18 19,.fa 168 19 4 20,.ld 3 20 21,.ca false true 4 [17,5,6,21,3] 22,.rt []] [.mv 9 23,.ca false true 7 [23,8] 24,.rt []]] 15 [a] h :)
def akZ:=(yE5 k wl 128 Tryz.f128 [a] h :)
def aiY:=(yB5 s k wl 129 Tryz.f129 [.u,.f 156,.f 157,.i 9] 4 [.mv 4 6,.ca false true 1 [6] 7,.cn 7 [.mv 4 8,.ca false true 2 [8,3] 9,.rt []] [.rt []]] 5 [a] h :)
def aol:=(yE5 k wl 129 Tryz.f129 [a] h :)
noncomputable def Ff:List Fr:=[.seq (ai (aj Tryz.f130) [1,1,1,1,1])]
def aiz:=(yB5 s k wl 130 Tryz.f130 [.u,.f 162,.i 3,.f 157,.i 9,.f 159,.i 0,.v (.lit (.int .u64 18446744073709551615)),.f 164,.i 4,.v (.lit (.int .u64 1)),.i 5] 12 [.rg,.al 194 14,.mv 12 16,.nk 16 17,.fa 168 17 2 18,.ld 24 18 19,.mv 12 20,.nk 20 21,.fa 168 21 0 22,.fa 65 22 1 23,.ld 63 23 24,.ca true true 1 [19,24] 25,.st 194 14 25,.fa 194 14 0 26,.ld 3 26 27,.bo .neq 3 27 2 28,.cn 28 [.mv 12 29,.ca false true 3 [29,4] 30,.rt []] [.mv 12 31,.ca false true 5 [31,6,7] 32,.mv 32 15,.mv 12 33,.fa 194 14 1 34,.ld 3 34 35,.ca false true 8 [33,9,35] 36,.mv 15 37,.bo .eql 46 37 10 38,.cn 38 [.mv 12 39,.ca false true 8 [39,11,6] 40,.jn Ff] [.jn Ff]]] 57 [a] h :)
def ajA:=(yE5 k wl 130 Tryz.f130 [a] h :)
def aba:=(jB5 s k wl 130 Tryz.f130 Ff .norm [.u,.f 163,.i 0,.f 160,.i 1,.v (.lit (.int .u64 0)),.f 157,.i 9] 8 [.rg,.mv 8 37,.mv 8 38,.nk 38 39,.fa 168 39 2 40,.ld 24 40 41,.mv 8 42,.nk 42 43,.fa 168 43 0 44,.fa 65 44 1 45,.ld 63 45 46,.ca false true 1 [41,46] 47,.nk 37 48,.fa 168 48 0 49,.fa 65 49 1 50,.st 63 50 47,.mv 8 51,.nk 51 52,.fa 168 52 0 53,.fa 65 53 1 54,.ld 63 54 55,.le 63 55 56,.bo .eql 3 56 2 57,.cn 57 [.mv 8 58,.mv 8 59,.nk 59 60,.fa 168 60 4 61,.ld 3 61 62,.ca false true 3 [58,2,4,62,5] 63,.rt []] [.mv 8 64,.ca false true 6 [64,7] 65,.rt []]] [a,b,c,d,e,g,i,j,l,m,o,p,q,r,u,v,w,x,y,z,A,B,C,D,E,F,G,I,J,L,M,N,O,Q,R,S,T,U,W,X,Y,Z,ta,tb,tc,td,te,tf,tg,th,ti,tj,tk,tl,tm,tn,tp,tq] h :)
def Ju:=(yK5 cx K Ff s0 :)
noncomputable def CI:List Fr:=[.seq (ai (aj Tryz.f156) [1,1,0,1,0,1]),.block 0,.seq (ai (aj Tryz.f156) [1,1,1])]
noncomputable def rB:List Fr:=[.block 0,.seq (ai (aj Tryz.f156) [1,1,1])]
def aiF:=(yB5 s k wl 156 Tryz.f156 [.u,.b false,.f 134,.i 0,.i 1,.i 2] 6 [.mv 1 8,.mv 2 9,.mv 6 10,.nk 10 11,.fa 168 11 0 12,.fa 65 12 2 13,.fa 55 13 0 14,.ld 3 14 15,.bo .eql 3 15 3 17,.mv 17 16,.cn 16 [.jn CI] [.bo .eql 3 15 4 18,.mv 18 16,.cn 16 [.jn CI] [.bo .eql 3 15 5 19,.mv 19 16,.jn CI]]] 47 [a] h :)
def ajW:=(yE5 k wl 156 Tryz.f156 [a] h :)
def abC:=(jB5 s k wl 156 Tryz.f156 CI .norm [.u,.f 180,.i 3,.f 135,.i 4] 5 [.cn 15 [.mv 1 8,.jn rB] [.bo .eql 3 14 2 20,.mv 20 19,.cn 19 [.cn 19 [.mv 3 8,.jn rB] [.jn rB]] [.bo .eql 3 14 4 21,.mv 21 19,.cn 19 [.mv 3 8,.jn rB] [.jn rB]]]] (a::b::c::d::e::g::i::j::l::m::o::p::q::r::u::v::w::zz) h :)
def XT:=(jB5 s k wl 156 Tryz.f156 rB .norm [.u,.f 110] 2 [.rg,.mv 2 20,.mv 2 21,.mv 5 22,.mv 2 23,.nk 23 24,.fa 168 24 1 25,.ld 23 25 26,.mv 2 27,.nk 27 28,.fa 168 28 3 29,.ld 26 29 30,.mv 2 31,.nk 31 32,.fa 168 32 0 33,.fa 65 33 2 34,.ld 55 34 35,.ca false true 22 [26,30,35] 36,.mv 36 19,.ex 19 0 37,.ex 19 1 38,.nk 20 39,.fa 168 39 3 40,.st 26 40 37,.nk 21 41,.fa 168 41 0 42,.fa 65 42 2 43,.st 55 43 38,.mv 2 44,.nk 44 45,.fa 168 45 0 46,.fa 65 46 2 47,.ld 55 47 48,.ca false true 1 [48] 49,.mv 49 4,.rv 4] [a,b,c,d,e,g,i,j,l,m,o,p,q,r,u,v,w,x,y,z,A,B,C,D,E,F,G,I,J,L,M,N,O,Q,R,S,T,U,W,X,Y,Z,ta,tb,tc,td,te,tf] h :)
def Jn:=(yK5 cx K CI s0 :)
def J6:=(yK5 cx K rB s0 :)
def ajN:=(yB5 s k wl 157 Tryz.f157 [.u] 1 [.mv 1 5,.mv 1 6,.mv 2 7,.bu 55 [] 8,.nk 5 9,.fa 168 9 0 10,.fa 65 10 0 11,.st 3 11 7,.nk 6 12,.fa 168 12 0 13,.fa 65 13 2 14,.st 55 14 8,.rt []] 12 [a,b] h :)
def aiq:=(yE5 k wl 157 Tryz.f157 [a,b] h :)
def amY:=(yB5 s k wl 158 Tryz.f158 [.u,.f 181,.f 164,.i 2] 4 [.rg,.mv 4 8,.mv 4 9,.nk 9 10,.fa 168 10 2 11,.ld 24 11 12,.mv 4 13,.nk 13 14,.fa 168 14 0 15,.fa 65 15 1 16,.ld 63 16 17,.mv 5 18,.cv 46 3 18 19,.ca false true 1 [12,17,19] 20,.nk 8 21,.fa 168 21 0 22,.fa 65 22 1 23,.st 63 23 20,.mv 4 24,.mv 5 25,.cv 46 3 25 26,.ca false true 2 [24,3,26] 27,.rt []] 22 [a,b] h :)
def amU:=(yE5 k wl 158 Tryz.f158 [a,b] h :)
def al7:=(yB5 s k wl 159 Tryz.f159 [.u,.v (.lit (.int .u64 0)),.f 138] 3 [.mv 1 9,.mv 3 11,.mv 3 12,.nk 12 13,.fa 168 13 3 14,.ld 26 14 15,.mv 4 16,.mv 5 17,.ca false true 2 [15,16,17] 18,.mv 18 10,.ex 10 0 19,.ex 10 1 20,.nk 11 21,.fa 168 21 3 22,.st 26 22 19,.mv 20 9,.mv 9 23,.mv 23 9,.rv 9] 18 [a,b,c] h :)
def akO:=(yE5 k wl 159 Tryz.f159 [a,b,c] h :)
def anb:=(yB5 s k wl 160 Tryz.f160 [.u,.f 104] 2 [.mv 2 12,.mv 2 13,.mv 3 14,.mv 4 15,.mv 5 16,.mv 6 17,.ca false true 1 [15,16,17] 18,.nk 12 19,.fa 168 19 0 20,.fa 65 20 0 21,.st 3 21 14,.nk 13 22,.fa 168 22 0 23,.fa 65 23 2 24,.st 55 24 18,.rt []] 18 [a,b,c,d,e] h :)
def anD:=(yE5 k wl 160 Tryz.f160 [a,b,c,d,e] h :)
def amK:=(yB5 s k wl 164 Tryz.f164 [.u] 1 [.rg,.mv 1 7,.mv 1 8,.so 8,.nk 8 9,.fa 168 9 6 10,.so 10,.ld 34 10 11,.mv 2 12,.mv 3 13,.mv 1 14,.nk 14 15,.fa 168 15 4 16,.ld 3 16 17,.bu 52 [(0,12),(1,13),(2,17)] 18,.bS true 34 1 [(0,18)] 19,.ap 34 34 11 19 20,.nk 7 21,.fa 168 21 6 22,.st 34 22 20,.rt []] 19 [a,b,c] h :)
def aiP:=(yE5 k wl 164 Tryz.f164 [a,b,c] h :)
noncomputable def dZ:Code:=ai (aj Tryz.f95) [1,0]
noncomputable def dN:List Fr:=[.seq (ai (aj Tryz.f95) [1,1])]
def aqC:=(yB5 s k wl 95 Tryz.f95 [.u,.b false,.f 50,.b true,.f 103] 5 [.bx 5 10,.bx 9 14,.mv 1 15,.rg,.ld 23 10 16,.ca false true 2 [16] 17,.mv 17 18,.gd 18 [.mv 3 18,.mv 7 19,.le 26 19 20,.ld 23 10 21,.ca false true 4 [21] 22,.bo .eql 3 20 22 23,.sg dZ 8 dN] [.mv 1 18,.sg dZ 8 dN] [.sg dZ 4 dN]] 45 [a,b,c,d,e] h :)
def aq8:=(yE5 k wl 95 Tryz.f95 [a,b,c,d,e] h :)
def ahr:=(gB5 s k wl 95 Tryz.f95 dZ 8 dN [.u,.b false,.b true,.f 56] 4 [.pk 17 22 1 23,.mv 23 24,.gd 24 [.mv 2 24,.mv 5 25,.ca false true 3 [25] 26,.sg dZ 12 dN] [.mv 1 24,.mv 0 25,.mv 0 26,.sg dZ 12 dN] [.mv 0 25,.sg dZ 11 dN]] (a::b::c::d::e::g::i::j::l::m::o::p::q::r::u::v::w::x::y::z::A::B::C::zz) h m0 ac :)
def ahs:=(gB5 s k wl 95 Tryz.f95 dZ 12 dN [.u,.b false,.b true,.i 0] 4 [.pk 24 26 1 27,.mv 27 28,.gd 28 [.mv 2 28,.mv 7 29,.bo .geq 3 29 3 30,.sg dZ 16 dN] [.mv 1 28,.mv 0 29,.mv 0 30,.sg dZ 16 dN] [.mv 0 29,.sg dZ 15 dN]] (a::b::c::d::e::g::i::j::l::m::o::p::q::r::u::v::w::x::y::z::A::B::C::D::E::F::G::zz) h m0 ac :)
def af9:=(gB5 s k wl 95 Tryz.f95 dZ 16 dN [.u,.b false,.b true] 3 [.pk 27 29 1 30,.mv 30 31,.gd 31 [.mv 2 31,.mv 6 32,.fa 23 8 0 33,.ld 3 33 34,.bo .lss 3 32 34 35,.sg dZ 22 dN] [.mv 1 31,.mv 0 32,.mv 0 33,.mv 0 34,.mv 0 35,.sg dZ 22 dN] [.mv 0 32,.sg dZ 19 dN]] (a::b::c::d::e::g::i::j::l::m::o::p::q::r::u::v::w::x::y::z::A::B::C::D::E::F::G::I::J::L::M::N::O::zz) h m0 ac :)
def adC:=(gB5 s k wl 95 Tryz.f95 dZ 22 dN [.u,.b false,.b true,.i 0] 4 [.pk 32 36 1 37,.mv 37 38,.gd 38 [.mv 2 38,.fa 65 13 0 39,.ld 3 39 40,.bo .geq 3 40 3 41,.sg dZ 27 dN] [.mv 1 38,.mv 0 39,.mv 0 40,.mv 0 41,.sg dZ 27 dN] [.mv 0 39,.sg dZ 25 dN]] (a::b::c::d::e::g::i::j::l::m::o::p::q::r::u::v::w::x::y::z::A::B::C::D::E::F::G::I::J::L::M::N::O::Q::R::S::T::U::zz) h m0 ac :)
def aev:=(gB5 s k wl 95 Tryz.f95 dZ 27 dN [.u,.b false,.b true,.i 16] 4 [.pk 38 41 1 42,.mv 42 43,.gd 43 [.mv 2 43,.fa 65 13 0 44,.ld 3 44 45,.bo .lss 3 45 3 46,.sg dZ 32 dN] [.mv 1 43,.mv 0 44,.mv 0 45,.mv 0 46,.sg dZ 32 dN] [.mv 0 44,.sg dZ 30 dN]] (a::b::c::d::e::g::i::j::l::m::o::p::q::r::u::v::w::x::y::z::A::B::C::D::E::F::G::I::J::L::M::N::O::Q::R::S::T::U::W::X::Y::Z::ta::zz) h m0 ac :)
def af8:=(gB5 s k wl 95 Tryz.f95 dZ 32 dN [.u,.b false,.b true,.f 146] 4 [.pk 43 46 1 47,.mv 47 48,.gd 48 [.mv 2 48,.mv 5 49,.fa 65 13 1 50,.ld 63 50 51,.ca false true 3 [49,51] 52,.sg dZ 38 dN] [.mv 1 48,.mv 0 49,.mv 0 50,.mv 0 51,.mv 0 52,.sg dZ 38 dN] [.mv 0 49,.sg dZ 35 dN]] [a,b,c,d,e,g,i,j,l,m,o,p,q,r,u,v,w,x,y,z,A,B,C,D,E,F,G,I,J,L,M,N,O,Q,R,S,T,U,W,X,Y,Z,ta,tb,tc,td,te,tf,tg,th] h m0 ac :)
def ac4:=(gB5 s k wl 95 Tryz.f95 dZ 38 dN [.u,.b false] 2 [.pk 46 50 1 51,.mv 51 12,.rv 12] [a,b,c,d,e,g,i,j,l,m,o,p,q,r,u,v,w,x,y,z,A,B,C,D,E,F,G,I,J,L,M,N,O,Q,R,S,T,U,W,X,Y,Z,ta,tb,tc,td,te,tf,tg,th] h m0 ac :)
def Ot:=(yK5 cx K dN s0 :)
end
end Go.Ab
set_option maxRecDepth 100000
set_option linter.unusedVariables false
namespace Go.Ab
open Go.Proofs
section
variable (s:Sys) (k wl m0:Nat) (a b c d e g i j l m o p q r u v w x y z A B C D E F G I J L M N O Q R S T U W X Y Z ta tb tc td te tf tg th ti tj tk tl:V) (h:Hp) (ac:List Nat×List Nat) (zz:List V) (cx:Cx) (K:Out→St→Option (V×Hp)) (s0:St)
noncomputable def d9:Code:=ai (aj Tryz.f85) [1,0]
noncomputable def dK:List Fr:=[.seq (ai (aj Tryz.f85) [1,1])]
def aql:=(yB5 s k wl 85 Tryz.f85 [.u,.b false,.f 50,.b true,.f 103] 5 [.bx 5 9,.bx 8 12,.mv 1 13,.rg,.ld 23 9 14,.ca false true 2 [14] 15,.mv 15 16,.gd 16 [.mv 3 16,.mv 7 17,.le 26 17 18,.ld 23 9 19,.ca false true 4 [19] 20,.bo .eql 3 18 20 21,.sg d9 8 dK] [.mv 1 16,.sg d9 8 dK] [.sg d9 4 dK]] 50 [a,b,c,d] h :)
def ap7:=(yE5 k wl 85 Tryz.f85 [a,b,c,d] h :)
def ag7:=(gB5 s k wl 85 Tryz.f85 d9 8 dK [.u,.b false,.b true,.f 56] 4 [.pk 15 20 1 21,.mv 21 22,.gd 22 [.mv 2 22,.mv 5 23,.ca false true 3 [23] 24,.sg d9 12 dK] [.mv 1 22,.mv 0 23,.mv 0 24,.sg d9 12 dK] [.mv 0 23,.sg d9 11 dK]] (a::b::c::d::e::g::i::j::l::m::o::p::q::r::u::v::w::x::y::z::A::zz) h m0 ac :)
def ahx:=(gB5 s k wl 85 Tryz.f85 d9 12 dK [.u,.b false,.b true,.i 0] 4 [.pk 22 24 1 25,.mv 25 26,.gd 26 [.mv 2 26,.fa 57 11 0 27,.ld 3 27 28,.bo .geq 3 28 3 29,.sg d9 17 dK] [.mv 1 26,.mv 0 27,.mv 0 28,.mv 0 29,.sg d9 17 dK] [.mv 0 27,.sg d9 15 dK]] (a::b::c::d::e::g::i::j::l::m::o::p::q::r::u::v::w::x::y::z::A::B::C::D::E::F::zz) h m0 ac :)
def adh:=(gB5 s k wl 85 Tryz.f85 d9 17 dK [.u,.b false,.b true,.i 6] 4 [.pk 26 29 1 30,.mv 30 31,.gd 31 [.mv 2 31,.fa 57 11 0 32,.ld 3 32 33,.bo .lss 3 33 3 34,.sg d9 22 dK] [.mv 1 31,.mv 0 32,.mv 0 33,.mv 0 34,.sg d9 22 dK] [.mv 0 32,.sg d9 20 dK]] (a::b::c::d::e::g::i::j::l::m::o::p::q::r::u::v::w::x::y::z::A::B::C::D::E::F::G::I::J::L::M::zz) h m0 ac :)
def adE:=(gB5 s k wl 85 Tryz.f85 d9 22 dK [.u,.b false,.b true,.i 0] 4 [.pk 31 34 1 35,.mv 35 36,.gd 36 [.mv 2 36,.fa 57 11 1 37,.ld 53 37 38,.le 53 38 39,.bo .gtr 3 39 3 40,.sg d9 28 dK] [.mv 1 36,.mv 0 37,.mv 0 38,.mv 0 39,.mv 0 40,.sg d9 28 dK] [.mv 0 37,.sg d9 25 dK]] (a::b::c::d::e::g::i::j::l::m::o::p::q::r::u::v::w::x::y::z::A::B::C::D::E::F::G::I::J::L::M::N::O::Q::R::S::T::zz) h m0 ac :)
def afU:=(gB5 s k wl 85 Tryz.f85 d9 28 dK [.u,.b false,.b true,.i 0] 4 [.pk 36 40 1 41,.mv 41 42,.gd 42 [.mv 2 42,.fa 57 11 1 43,.ld 53 43 44,.ia 53 44 3 45,.ld 3 45 46,.bo .geq 3 46 3 47,.sg d9 35 dK] [.mv 1 42,.mv 0 43,.mv 0 44,.mv 0 45,.mv 0 46,.mv 0 47,.sg d9 35 dK] [.mv 0 43,.sg d9 31 dK]] (a::b::c::d::e::g::i::j::l::m::o::p::q::r::u::v::w::x::y::z::A::B::C::D::E::F::G::I::J::L::M::N::O::Q::R::S::T::U::W::X::Y::Z::ta::tb::zz) h m0 ac :)
def aeS:=(gB5 s k wl 85 Tryz.f85 d9 35 dK [.u,.b false,.b true,.i 0] 4 [.pk 42 47 1 48,.mv 48 49,.gd 49 [.mv 2 49,.fa 57 11 1 50,.ld 53 50 51,.ia 53 51 3 52,.ld 3 52 53,.mv 5 54,.le 24 54 55,.bo .lss 3 53 55 56,.sg d9 44 dK] [.mv 1 49,.mv 0 50,.mv 0 51,.mv 0 52,.mv 0 53,.mv 0 54,.mv 0 55,.mv 0 56,.sg d9 44 dK] [.mv 0 50,.sg d9 38 dK]] [a,b,c,d,e,g,i,j,l,m,o,p,q,r,u,v,w,x,y,z,A,B,C,D,E,F,G,I,J,L,M,N,O,Q,R,S,T,U,W,X,Y,Z,ta,tb,tc,td,te,tf,tg,th,ti,tj,tk,tl] h m0 ac :)
def ad9:=(gB5 s k wl 85 Tryz.f85 d9 44 dK [.u,.b false] 2 [.pk 47 54 1 55,.mv 55 10,.rv 10] [a,b,c,d,e,g,i,j,l,m,o,p,q,r,u,v,w,x,y,z,A,B,C,D,E,F,G,I,J,L,M,N,O,Q,R,S,T,U,W,X,Y,Z,ta,tb,tc,td,te,tf,tg,th,ti,tj,tk,tl] h m0 ac :)
def Ob:=(yK5 cx K dK s0 :)
def aqy:=(yB5 s k wl 86 Tryz.f86 [.u,.f 76,.f 80,.f 85,.i 0] 5 [.bx 5 10,.bx 8 13,.bx 9 14,.nl 15,.al 57 16,.nl 17,.mv 7 26,.ca false true 1 [26] 27,.al 26 18,.st 26 18 27,.rg,.al 57 19,.fa 57 14 0 28,.so 28,.ld 3 28 29,.fa 57 14 1 30,.ld 53 30 31,.ca true true 2 [31] 32,.fa 57 14 2 33,.so 33,.ld 55 33 34,.bu 57 [(0,29),(1,32),(2,34)] 35,.st 57 19 35,.ld 23 10 36,.mv 6 37,.mv 7 38,.ld 57 14 39,.ca false true 3 [36,37,38,39] 40,.un .not 40 41,.cn 41 [.rg,.ld 26 18 42,.ld 57 19 43,.mv 42 15,.st 57 16 43,.nl 17,.ro [(none,15),(some 57,16),(none,17)]] [.al 34 20,.fa 57 19 1 44,.ld 53 44 45,.ia 53 45 4 46,.ld 3 46 47,.al 3 21,.st 3 21 47,.fn 131 [] [20,13] 48,.al 170 22,.st 170 22 48,.fn 132 [] [19] 49,.al 1 23,.st 1 23 49,.fn 133 [] [19,10,18] 50,.al 32 24,.st 32 24 50,.fn 136 [] [19,18,22,21,23] 51,.fn 137 [] [18,13,21,19] 52,.fn 139 [] [24,19,22,21] 53,.fn 140 [] [18,23,13,19] 54,.fn 141 [] [24,23] 55,.fn 142 [] [18,22,21,23] 56,.bu 175 [(0,51),(1,52),(2,53),(3,54),(4,55),(5,56)] 57,.al 175 25,.st 175 25 57,.fa 57 14 0 58,.ld 3 58 59,.ia 175 25 59 60,.ld 1 60 61,.ca false true 61 [] 62,.rg,.ld 26 18 63,.ld 57 19 64,.so 20,.lr 20,.ld 34 20 65,.mv 63 15,.lw 16,.st 57 16 64,.mv 65 17,.pt,.ro [(none,15),(some 57,16),(none,17)]]] 56 [a,b,c,d,e] h :)
def aq9:=(yE5 k wl 86 Tryz.f86 [a,b,c,d,e] h :)
def anK:=(yB5 s k wl 131 Tryz.f131 [.u] 1 [.ld 34 3 7,.mv 1 8,.mv 2 9,.ld 3 4 10,.bu 52 [(0,8),(1,9),(2,10)] 11,.bS false 34 1 [(0,11)] 12,.ap 34 34 7 12 13,.st 34 3 13,.rt []] 9 [a,b,c,d] h :)
def alD:=(yE5 k wl 131 Tryz.f131 [a,b,c,d] h :)
def aij:=(yB5 s k wl 132 Tryz.f132 [.u,.i 1] 2 [.fa 57 2 1 3,.ld 53 3 4,.sl false 53 4 1 0 0 5,.bu 57 [(1,5)] 6,.st 57 2 6,.rt []] 4 [a] h :)
def ajh:=(yE5 k wl 132 Tryz.f132 [a] h :)
noncomputable def F5:Code:=ai (aj Tryz.f133) [1,1,0,0]
noncomputable def B2:List Fr:=[.seq (ai (aj Tryz.f133) [1,1,0,1]),.seq (ai (aj Tryz.f133) [1,1,1])]
noncomputable def E9:List Fr:=[.seq (ai (aj Tryz.f133) [1,1,1])]
def alM:=(yB5 s k wl 133 Tryz.f133 [.u,.b false,.f 134,.i 3,.b true,.i 4] 6 [.mv 1 9,.mv 2 10,.rg,.fa 57 6 2 11,.fa 55 11 0 12,.ld 3 12 13,.bo .eql 3 13 3 14,.mv 14 15,.gd 15 [.mv 4 15,.sg F5 9 B2] [.mv 1 15,.fa 57 6 2 16,.fa 55 16 0 17,.ld 3 17 18,.bo .eql 3 18 5 19,.sg F5 9 B2] [.sg F5 6 B2]] 25 [a,b,c] h :)
def anR:=(yE5 k wl 133 Tryz.f133 [a,b,c] h :)
def aaz:=(gB5 s k wl 133 Tryz.f133 F5 9 B2 [.u,.b true,.f 135] 3 [.pk 12 1 16 17,.cn 17 [.mv 2 7,.jn E9] [.jn E9]] (a::b::c::d::e::g::i::j::l::m::o::p::q::r::u::zz) h m0 ac :)
def Yr:=(jB5 s k wl 133 Tryz.f133 E9 .norm [.u,.f 110] 2 [.mv 6 18,.ld 23 3 19,.ld 26 4 20,.fa 57 2 2 21,.ld 55 21 22,.ca false true 18 [19,20,22] 23,.mv 23 17,.ex 17 0 24,.ex 17 1 25,.st 26 4 24,.fa 57 2 2 26,.st 55 26 25,.fa 57 2 2 27,.ld 55 27 28,.ca false true 1 [28] 29,.mv 29 5,.rv 5] [a,b,c,d,e,g,i,j,l,m,o,p,q,r,u,v,w,x,y,z,A,B,C,D,E,F,G,I] h :)
def I6:=(yK5 cx K B2 s0 :)
def JM:=(yK5 cx K E9 s0 :)
def anm:=(yB5 s k wl 136 Tryz.f136 [.u,.i 1,.f 27,.i 3,.v (.lit (.int .u64 0))] 5 [.fa 57 5 0 10,.st 3 10 1,.ld 26 6 11,.ca false true 2 [11,3] 12,.bo .neq 46 12 4 13,.cn 13 [.ld 170 7 14,.ld 3 8 15,.ca false true 14 [1,15] 16,.ld 1 9 17,.ca false true 17 [] 18,.rt []] [.rt []]] 9 [a,b,c,d,e] h :)
def akJ:=(yE5 k wl 136 Tryz.f136 [a,b,c,d,e] h :)
def ai1:=(yB5 s k wl 137 Tryz.f137 [.u,.f 138,.i 0,.v (.lit (.int .u64 1)),.f 104,.i 3,.i 2] 7 [.ld 26 7 12,.ca false true 1 [12,2,3] 13,.mv 13 11,.ex 11 0 14,.ex 11 1 15,.st 26 7 14,.ld 3 8 16,.ld 3 9 17,.cv 3 46 17 18,.ca false true 4 [5,16,18] 19,.fa 57 10 0 20,.st 3 20 6,.fa 57 10 2 21,.st 55 21 19,.rt []] 11 [a,b,c,d] h :)
def ami:=(yE5 k wl 137 Tryz.f137 [a,b,c,d] h :)
def aiG:=(yB5 s k wl 139 Tryz.f139 [.u,.i 5,.i 2,.i 0,.i 3] 5 [.ld 32 5 9,.ca false true 9 [] 10,.un .not 10 11,.cn 11 [.rt []] [.fa 57 6 0 12,.st 3 12 1,.fa 57 6 2 13,.fa 55 13 6 14,.ld 3 14 15,.bo .neq 3 15 2 16,.cn 16 [.ld 170 7 17,.ld 3 8 18,.ca false true 17 [3,18] 19,.fa 57 6 0 20,.st 3 20 4,.rt []] [.rt []]]] 12 [a,b,c,d] h :)
def ams:=(yE5 k wl 139 Tryz.f139 [a,b,c,d] h :)
def aiB:=(yB5 s k wl 140 Tryz.f140 [.u,.f 27,.i 1,.v (.lit (.int .u64 0)),.f 104,.i 6,.i 4] 7 [.ld 26 7 11,.ca false true 1 [11,2] 12,.bo .neq 46 12 3 13,.cn 13 [.ld 1 8 14,.ca false true 14 [] 15,.rt []] [.ld 3 9 16,.ca false true 4 [5,16,3] 17,.fa 57 10 0 18,.st 3 18 6,.fa 57 10 2 19,.st 55 19 17,.rt []]] 9 [a,b,c,d] h :)
def anB:=(yE5 k wl 140 Tryz.f140 [a,b,c,d] h :)
def aiC:=(yB5 s k wl 141 Tryz.f141 [.u] 1 [.ld 32 1 3,.ca false true 3 [] 4,.cn 4 [.ld 1 2 5,.ca false true 5 [] 6,.rt []] [.rt []]] 4 [a,b] h :)
def ajp:=(yE5 k wl 141 Tryz.f141 [a,b] h :)
def an5:=(yB5 s k wl 142 Tryz.f142 [.u,.v (.lit (.int .u64 0)),.f 138,.i 0,.v (.lit (.int .u64 18446744073709551615)),.i 1,.v (.lit (.int .u64 1)),.i 5] 8 [.mv 1 12,.ld 26 8 14,.ca false true 2 [14,3,4] 15,.mv 15 13,.ex 13 0 16,.ex 13 1 17,.st 26 8 16,.mv 17 12,.ld 170 9 18,.ld 3 10 19,.ca false true 18 [5,19] 20,.mv 12 21,.bo .eql 46 21 6 22,.cn 22 [.ld 170 9 23,.ca false true 23 [7,3] 24,.ld 1 11 25,.ca false true 25 [] 26,.rt []] [.ld 1 11 25,.ca false true 25 [] 26,.rt []]] 15 [a,b,c,d] h :)
def aki:=(yE5 k wl 142 Tryz.f142 [a,b,c,d] h :)
def aqJ:=(yB5 s k wl 28 Tryz.f28 [.u,.b false,.i 0] 3 [.bx 3 4,.mv 1 5,.fa 57 4 0 6,.ld 3 6 7,.bo .neq 3 7 2 8,.mv 8 5,.rv 5] 5 [a] h :)
def aq0:=(yE5 k wl 28 Tryz.f28 [a] h :)
def apR:=(yB5 s k wl 63 Tryz.f63 [.u,.f 80] 2 [.al 57 4,.mv 2 5,.ca false true 1 [5] 6,.bu 57 [(1,6)] 7,.st 57 4 7,.ro [(some 57,4)]] 5 [a] h :)
def ap5:=(yE5 k wl 63 Tryz.f63 [a] h :)
end
end Go.Ab
set_option maxRecDepth 100000
set_option linter.unusedVariables false
namespace Go.Ab
open Go.Proofs
section
variable (s:Sys) (k wl n n0 m0:Nat) (a b c d e g i j l m o p q r u v w x y z A B C D E F G I J L M N O Q R S T U W X Y Z ta tb tc td te tf tg th ti tj tk tl tm tn tp tq tr ts:V) (h:Hp) (P:Program) (zz:List V) (K:Out→St→Option (V×Hp)) (rd:Bool) (cx:Cx) (s0:St) (ac:List Nat×List Nat)
noncomputable def Cq:Code:=ai (aj Tryz.f17) [1,1,1,1,0,1,0,0]
noncomputable def DW:List Fr:=[.block 0,.seq (ai (aj Tryz.f17) [1,1,1,1,1])]
def WH:=(yB5 s k wl 17 Tryz.f17 [.u,.f 41,.f 20,.i 0] 4 [.bx 4 6,.al 30 8,.nl 9,.ld 30 6 14,.ca false true 1 [14] 15,.al 30 10,.st 30 10 15,.ld 30 6 16,.ca false true 2 [16] 17,.un .not 17 18,.cn 18 [.ld 30 10 19,.st 30 8 19,.nl 9,.ro [(some 30,8),(none,9)]] [.nl 11,.mv 5 20,.le 31 20 21,.mv 3 22,.lo Cq [19,16] DW]] 35 [a,b] h :)
def Xl:=(yE5 k wl 17 Tryz.f17 [a,b] h :)
def XF:=(yZ5 P Tryz.f17 [.u] 1 [.ro [(some 30,5),(none,6)]] (a::b::c::d::e::g::zz) h :)
def P0:=(rL5 s k wl 17 rd Cq n0 K n [.u,.f 42,.f 43,.i 1] 4 [.bo .lss 3 22 21 23,.cn 23 [.ia 31 20 22 24,.ld 48 24 25,.al 48 13,.st 48 13 25,.ld 48 13 26,.fa 30 6 0 27,.fa 23 27 0 28,.ld 3 28 29,.fa 30 6 4 30,.ld 28 30 31,.le 28 31 32,.ca false true 1 [26,29,32] 33,.cn 33 [.mv 11 34,.ld 48 13 35,.ca false true 2 [10,35] 36,.ap 34 34 34 36 37,.mv 37 11,.bo .add 3 22 3 38,.mv 38 22,.nx Cq [19,16]] [.bo .add 3 22 3 38,.mv 38 22,.nx Cq [19,16]]] [.kt (.exit 0) [18,17]]] [a,b,c,d,e,g,i,j,l,m,o,p,q,r,u,v,w,x,y,z,A,B,C,D,E,F,G,I,J,L,M,N,O,Q,R,S,T] h :)
def Ae:=(jB5 s k wl 17 Tryz.f17 DW (.exit 0) [.u] 1 [.ld 30 7 36,.mv 8 37,.st 30 5 36,.mv 37 6,.ro [(some 30,5),(none,6)]] [a,b,c,d,e,g,i,j,l,m,o,p,q,r,u,v,w,x,y,z,A,B,C,D,E,F,G,I,J,L,M,N,O,Q,R,S,T] h :)
def gN:=(yK5 cx K DW s0 :)
noncomputable def Am:Code:=ai (aj Tryz.f20) [1,0,0]
noncomputable def u5:List Fr:=[.seq (ai (aj Tryz.f20) [1,0,1]),.seq (ai (aj Tryz.f20) [1,1])]
noncomputable def Xt:Code:=ai (aj Tryz.f20) [1,1,0,1,0]
noncomputable def P8:Code:=ai (aj Tryz.f20) [1,1,0,1,0,0]
noncomputable def RV:Code:=ai (aj Tryz.f20) [1,1,0,1,0,1]
noncomputable def K9:List Fr:=[.block 0,.seq (ai (aj Tryz.f20) [1,1,1])]
theorem uo:Xt = .rangeFunc (.tmp 23) #[24] P8 RV:=by kernel_rfl
def ah4:=(yB5 s k wl 20 Tryz.f20 [.u,.f 50,.b true,.b false] 4 [.bx 4 5,.al 4 6,.rg,.fa 30 5 0 7,.ld 23 7 8,.ca false true 1 [8] 9,.un .not 9 10,.mv 10 11,.gd 11 [.mv 2 11,.sg Am 12 u5] [.mv 3 11,.fa 30 5 3 12,.ld 27 12 13,.le 27 13 14,.fa 30 5 0 15,.fa 23 15 0 16,.ld 3 16 17,.bo .neq 3 14 17 18,.sg Am 12 u5] [.sg Am 6 u5]] 29 [a] h :)
def ah7:=(yE5 k wl 20 Tryz.f20 [a] h :)
def ah5:=(yZ5 P Tryz.f20 [.u] 1 [.ro [(some 4,3)]] (a::b::c::zz) h :)
def Ld:=(gB5 s k wl 20 Tryz.f20 Am 12 u5 [.u,.b true,.b false,.i 3] 4 [.pk 11 1 18 19,.mv 19 20,.gd 20 [.mv 1 20,.mv 0 21,.mv 0 22,.mv 0 23,.mv 0 24,.sg Am 18 u5] [.mv 2 20,.fa 30 5 4 21,.ld 28 21 22,.le 28 22 23,.bo .gtr 3 23 3 24,.sg Am 18 u5] [.mv 0 21,.sg Am 15 u5]] (a::b::c::d::e::g::i::j::l::m::o::p::q::r::u::v::w::x::y::z::A::zz) h m0 ac :)
def Lm:=(gB5 s k wl 20 Tryz.f20 Am 18 u5 [.u,.b true,.b false,.f 51] 4 [.pk 20 1 24 25,.cn 25 [.st 4 6 2,.ro [(some 4,6)]] [.ld 30 5 26,.ca false true 3 [26] 27,.rf Xt K9]] (a::b::c::d::e::g::i::j::l::m::o::p::q::r::u::v::w::x::y::z::A::B::C::D::zz) h m0 ac :)
def LY:=(jB5 s k wl 20 Tryz.f20 K9 .norm [.u,.f 52] 2 [.fa 30 3 4 27,.ld 28 27 28,.fn 53 [] [3] 29,.ca false true 1 [28,29] 30,.un .not 30 31,.st 4 4 31,.ro [(some 4,4)]] [a,b,c,d,e,g,i,j,l,m,o,p,q,r,u,v,w,x,y,z,A,B,C,D,E,F,G,I,J,L] h :)
def gq:=(qF5 s k wl 20 rd K RV [.u,.b false] 2 [.st 4 4 1,.kf .ret] (a::b::c::zz) h :)
def gp:=(qF5 s k wl 20 rd K P8 [.u] 1 [.kf .norm] zz h :)
def pV:=(yK5 cx K u5 s0 :)
def pU:=(yK5 cx K K9 s0 :)
noncomputable def LR:Code:=ai (aj Tryz.f25) [1,0,0]
noncomputable def GU:List Fr:=[.seq (ai (aj Tryz.f25) [1,0,1]),.seq (ai (aj Tryz.f25) [1,1])]
noncomputable def GI:Code:=ai (aj Tryz.f25) [1,1,0,1,0,0]
noncomputable def Kz:List Fr:=[.block 0,.seq (ai (aj Tryz.f25) [1,1,1])]
noncomputable def Mb:Code:=ai (aj Tryz.f25) [1,1,0,1,0,0,1,1,0,0,1,0]
noncomputable def Gh:List Fr:=[.seq (ai (aj Tryz.f25) [1,1,0,1,0,0,1,1,0,0,1,1]),.block 1,.seq (ai (aj Tryz.f25) [1,1,0,1,0,0,1,1,1])]
def aph:=(yB5 s k wl 25 Tryz.f25 [.u,.b false,.f 20,.b true,.f 52,.f 28] 6 [.bx 6 7,.mv 1 8,.rg,.ld 30 7 11,.ca false true 2 [11] 12,.un .not 12 13,.mv 13 14,.gd 14 [.mv 3 14,.sg LR 7 GU] [.mv 1 14,.fa 30 7 4 15,.ld 28 15 16,.ca false true 4 [16,5] 17,.sg LR 7 GU] [.sg LR 5 GU]] 34 [a] h :)
def apJ:=(yE5 k wl 25 Tryz.f25 [a] h :)
def apj:=(yZ5 P Tryz.f25 [.u] 1 [.rv 3] (a::b::c::zz) h :)
def XH:=(gB5 s k wl 25 Tryz.f25 LR 7 GU [.u,.b true,.b false,.i 0] 4 [.pk 12 1 15 16,.cn 16 [.mv 2 6,.rv 6] [.fa 30 5 3 17,.ld 27 17 18,.le 27 18 19,.mv 3 20,.lo GI [17] Kz]] [a,b,c,d,e,g,i,j,l,m,o,p,q,r,u,v,w,x,y,z,A,B,C,D,E,F,G,I,J,L,M,N,O,Q,R] h m0 ac :)
def ag1:=(rL5 s k wl 25 rd GI n0 K n [.u,.f 31,.b true,.b false,.f 32,.f 27,.v (.lit (.int .u64 0))] 7 [.bo .lss 3 23 22 24,.cn 24 [.mv 23 25,.ia 27 21 23 26,.ld 65 26 27,.al 65 11,.mv 25 10,.st 65 11 27,.rg,.ld 65 11 28,.ca false true 1 [28] 29,.un .not 29 30,.mv 30 31,.gd 31 [.mv 2 31,.mv 0 32,.mv 0 33,.mv 0 34,.mv 0 35,.mv 0 36,.mv 0 37,.mv 0 38,.mv 0 39,.sg Mb 12 Gh] [.mv 3 31,.fa 30 8 2 32,.so 32,.ld 26 32 33,.fa 30 8 0 34,.ld 23 34 35,.mv 10 36,.ca true true 4 [35,36] 37,.ca false true 5 [33,37] 38,.bo .neq 46 38 6 39,.sg Mb 12 Gh] [.mv 0 32,.sg Mb 5 Gh]] [.kt (.exit 0) [16]]] [a,b,c,d,e,g,i,j,l,m,o,p,q,r,u,v,w,x,y,z,A,B,C,D,E,F,G,I,J,L,M,N,O,Q,R] h :)
def W3:=(jB5 s k wl 25 Tryz.f25 Kz (.exit 0) [.u,.b true] 2 [.mv 1 4,.rv 4] (a::b::c::zz) h :)
def Xs:=(gL5 s k wl 25 rd GI n0 K n Mb 12 Gh [.u,.b true,.b false,.i 1] 4 [.pk 28 1 36 37,.cn 37 [.mv 2 6,.kf .ret] [.bo .add 3 20 3 38,.mv 38 20,.nx GI [17]]] [a,b,c,d,e,g,i,j,l,m,o,p,q,r,u,v,w,x,y,z,A,B,C,D,E,F,G,I,J,L,M,N,O,Q,R] h m0 ac :)
def Eo:=(yK5 cx K GU s0 :)
def DG:=(yK5 cx K Kz s0 :)
def D8:=(yK5 cx K Gh s0 :)
noncomputable def w6:Code:=ai (aj Tryz.f29) [1,0]
noncomputable def uH:List Fr:=[.seq (ai (aj Tryz.f29) [1,1])]
def aqm:=(yB5 s k wl 29 Tryz.f29 [.u,.b false,.f 25,.b true,.f 27,.i 0,.v (.lit (.int .u64 0))] 7 [.bx 7 8,.mv 1 9,.rg,.ld 30 8 10,.ca false true 2 [10] 11,.mv 11 12,.gd 12 [.mv 3 12,.fa 30 8 2 13,.ld 26 13 14,.ca false true 4 [14,5] 15,.bo .eql 46 15 6 16,.sg w6 7 uH] [.mv 1 12,.sg w6 7 uH] [.sg w6 4 uH]] 16 [a] h :)
def aqB:=(yE5 k wl 29 Tryz.f29 [a] h :)
def afW:=(gB5 s k wl 29 Tryz.f29 w6 7 uH [.u,.b false,.b true,.f 52,.f 67] 5 [.pk 10 14 1 15,.mv 15 16,.gd 16 [.mv 2 16,.fa 30 6 4 17,.ld 28 17 18,.ca false true 3 [18,4] 19,.un .not 19 20,.sg w6 13 uH] [.mv 1 16,.mv 0 17,.mv 0 18,.mv 0 19,.mv 0 20,.sg w6 13 uH] [.mv 0 17,.sg w6 10 uH]] [a,b,c,d,e,g,i,j,l,m,o,p,q,r,u,v,w] h m0 ac :)
def ae9:=(gB5 s k wl 29 Tryz.f29 w6 13 uH [.u,.b false] 2 [.pk 13 17 1 18,.mv 18 4,.rv 4] [a,b,c,d,e,g,i,j,l,m,o,p,q,r,u,v,w] h m0 ac :)
def OF:=(yK5 cx K uH s0 :)
noncomputable def Lx:Code:=ai (aj Tryz.f41) [1,1,1,0,1,0,0]
noncomputable def KE:List Fr:=[.block 0,.seq (ai (aj Tryz.f41) [1,1,1,1])]
noncomputable def LI:Code:=ai (aj Tryz.f41) [1,1,1,1,0,1,0,0]
noncomputable def Le:List Fr:=[.block 2,.seq (ai (aj Tryz.f41) [1,1,1,1,1])]
def XL:=(yB5 s k wl 41 Tryz.f41 [.u,.f 58,.f 76,.f 77,.f 78,.i 0] 6 [.bx 6 7,.al 30 8,.rg,.fa 30 7 1 11,.ld 24 11 12,.ca true true 1 [12] 13,.fa 30 7 2 14,.so 14,.ld 26 14 15,.ca false true 2 [15] 16,.fa 30 7 1 17,.st 24 17 13,.fa 30 7 2 18,.st 26 18 16,.rg,.fa 30 7 3 19,.ld 27 19 20,.ca true true 3 [20] 21,.fa 30 7 4 22,.so 22,.ld 28 22 23,.ca false true 4 [23] 24,.fa 30 7 3 25,.st 27 25 21,.fa 30 7 4 26,.st 28 26 24,.fa 30 7 3 27,.ld 27 27 28,.le 27 28 29,.mv 5 30,.lo Lx [25,15] KE] 59 [a] h :)
def XJ:=(yE5 k wl 41 Tryz.f41 [a] h :)
def Xw:=(yZ5 P Tryz.f41 [.u] 1 [.ro [(some 30,3)]] (a::b::c::zz) h :)
def aee:=(rL5 s k wl 41 rd Lx n0 K n [.u,.f 79,.i 1] 3 [.bo .lss 3 27 26 28,.cn 28 [.mv 27 29,.mv 29 6,.rg,.fa 30 4 3 30,.so 30,.ld 27 30 31,.mv 6 32,.fa 30 4 3 33,.ld 27 33 34,.mv 6 35,.ia 27 34 35 36,.fa 65 36 1 37,.ld 63 37 38,.ca true true 1 [38] 39,.ia 27 31 32 40,.fa 65 40 1 41,.st 63 41 39,.bo .add 3 27 2 42,.mv 42 27,.nx Lx [25,15]] [.kt (.exit 0) [24,16]]] [a,b,c,d,e,g,i,j,l,m,o,p,q,r,u,v,w,x,y,z,A,B,C,D,E,F,G,I,J,L,M,N,O,Q,R,S,T,U,W,X,Y,Z,ta,tb,tc,td,te,tf,tg,th,ti,tj,tk,tl,tm,tn,tp,tq,tr,ts] h :)
def Ao:=(jB5 s k wl 41 Tryz.f41 KE (.exit 0) [.u,.i 0] 2 [.fa 30 3 4 42,.ld 28 42 43,.le 28 43 44,.mv 1 45,.lo LI [44,15] Le] [a,b,c,d,e,g,i,j,l,m,o,p,q,r,u,v,w,x,y,z,A,B,C,D,E,F,G,I,J,L,M,N,O,Q,R,S,T,U,W,X,Y,Z,ta,tb,tc,td,te,tf,tg,th,ti,tj,tk,tl,tm,tn,tp,tq,tr,ts] h :)
def aff:=(rL5 s k wl 41 rd LI n0 K n [.u,.f 80,.i 1] 3 [.bo .lss 3 46 45 47,.cn 47 [.mv 46 48,.mv 48 7,.rg,.fa 30 4 4 49,.so 49,.ld 28 49 50,.mv 7 51,.fa 30 4 4 52,.ld 28 52 53,.mv 7 54,.ia 28 53 54 55,.fa 57 55 1 56,.ld 53 56 57,.ca true true 1 [57] 58,.ia 28 50 51 59,.fa 57 59 1 60,.st 53 60 58,.bo .add 3 46 2 61,.mv 61 46,.nx LI [44,15]] [.kt (.exit 2) [43,16]]] [a,b,c,d,e,g,i,j,l,m,o,p,q,r,u,v,w,x,y,z,A,B,C,D,E,F,G,I,J,L,M,N,O,Q,R,S,T,U,W,X,Y,Z,ta,tb,tc,td,te,tf,tg,th,ti,tj,tk,tl,tm,tn,tp,tq,tr,ts] h :)
def wZ:=(jB5 s k wl 41 Tryz.f41 Le (.exit 2) [.u] 1 [.ld 30 2 60,.st 30 3 60,.ro [(some 30,3)]] [a,b,c,d,e,g,i,j,l,m,o,p,q,r,u,v,w,x,y,z,A,B,C,D,E,F,G,I,J,L,M,N,O,Q,R,S,T,U,W,X,Y,Z,ta,tb,tc,td,te,tf,tg,th,ti,tj,tk,tl,tm,tn,tp,tq,tr,ts] h :)
def gJ:=(yK5 cx K KE s0 :)
def gM:=(yK5 cx K Le s0 :)
noncomputable def MC:List Fr:=[.seq (ai (aj Tryz.f43) [1,1,1])]
def Xn:=(yB5 s k wl 43 Tryz.f43 [.u,.i 0,.i 1,.i 2] 4 [.bx 4 6,.bx 5 7,.al 34 8,.mk 12,.fn 82 [] [6,7,8] 13,.is 138 12 1 13,.fn 84 [] [6,7,8] 14,.is 138 12 2 14,.fn 87 [] [6] 15,.is 138 12 3 15,.mv 12 16,.mv 16 9,.mv 9 18,.fa 48 7 0 19,.ld 3 19 20,.lk 138 18 20 true 21,.mv 21 17,.ex 17 0 22,.ex 17 1 23,.mv 22 10,.mv 23 11,.mv 11 24,.cn 24 [.mv 10 25,.ca false true 25 [] 26,.jn MC] [.jn MC]] 22 [a,b] h :)
def WV:=(yE5 k wl 43 Tryz.f43 [a,b] h :)
def Al:=(jB5 s k wl 43 Tryz.f43 MC .norm [.u] 1 [.ld 34 5 24,.st 34 5 24,.ro [(some 34,5)]] [a,b,c,d,e,g,i,j,l,m,o,p,q,r,u,v,w,x,y,z,A,B,C,D] h :)
def gR:=(yK5 cx K MC s0 :)
def ahZ:=(yB5 s k wl 51 Tryz.f51 [.u,.v (f9 Value.nilFunc)] 2 [.bx 2 3,.mv 1 4,.fn 94 [] [3] 5,.mv 5 4,.rv 4] 3 [a] h :)
def aib:=(yE5 k wl 51 Tryz.f51 [a] h :)
noncomputable def dk:Code:=ai (aj Tryz.f53) [1,1,0]
noncomputable def cY:List Fr:=[.seq (ai (aj Tryz.f53) [1,1,1])]
def aia:=(yB5 s k wl 53 Tryz.f53 [.u,.b false,.i 0,.b true,.i 6] 5 [.bx 5 7,.mv 1 8,.fn 54 [] [6] 10,.mv 10 9,.rg,.fa 57 7 0 11,.ld 3 11 12,.bo .lss 3 12 2 13,.mv 13 14,.gd 14 [.mv 3 14,.sg dk 7 cY] [.mv 1 14,.fa 57 7 0 15,.ld 3 15 16,.bo .geq 3 16 4 17,.sg dk 7 cY] [.sg dk 5 cY]] 29 [a,b] h :)
def ah2:=(yE5 k wl 53 Tryz.f53 [a,b] h :)
def Lq:=(gB5 s k wl 53 Tryz.f53 dk 7 cY [.u,.b true,.b false,.f 55] 4 [.pk 13 1 16 17,.mv 17 18,.gd 18 [.mv 1 18,.mv 0 19,.mv 0 20,.mv 0 21,.mv 0 22,.sg dk 13 cY] [.mv 2 18,.fa 57 6 1 19,.ld 53 19 20,.mv 8 21,.ca false true 3 [20,21] 22,.sg dk 13 cY] [.mv 0 19,.sg dk 10 cY]] (a::b::c::d::e::g::i::j::l::m::o::p::q::r::u::v::w::x::y::zz) h m0 ac :)
def Me:=(gB5 s k wl 53 Tryz.f53 dk 13 cY [.u,.b true,.b false,.i 0] 4 [.pk 18 1 22 23,.mv 23 24,.gd 24 [.mv 1 24,.mv 0 25,.mv 0 26,.mv 0 27,.mv 0 28,.mv 0 29,.mv 0 30,.mv 0 31,.mv 0 32,.mv 0 33,.sg dk 24 cY] [.mv 2 24,.fa 57 6 0 25,.ld 3 25 26,.bo .neq 3 26 3 27,.mv 27 28,.sg dk 19 cY] [.mv 0 25,.sg dk 16 cY]] [a,b,c,d,e,g,i,j,l,m,o,p,q,r,u,v,w,x,y,z,A,B,C,D,E,F,G,I,J,L,M] h m0 ac :)
def Lr:=(gB5 s k wl 53 Tryz.f53 dk 24 cY [.u,.b true] 2 [.pk 22 1 31 32,.mv 32 5,.rv 5] [a,b,c,d,e,g,i,j,l,m,o,p,q,r,u,v,w,x,y,z,A,B,C,D,E,F,G,I,J,L,M] h m0 ac :)
def L3:=(gB5 s k wl 53 Tryz.f53 dk 19 cY [.u,.b true,.i 0,.b false] 4 [.gd 28 [.mv 1 28,.fa 57 6 1 29,.ld 53 29 30,.le 53 30 31,.bo .eql 3 31 2 32,.sg dk 23 cY] [.mv 3 28,.mv 0 29,.mv 0 30,.mv 0 31,.mv 0 32,.sg dk 23 cY] [.mv 0 29,.sg dk 20 cY]] [a,b,c,d,e,g,i,j,l,m,o,p,q,r,u,v,w,x,y,z,A,B,C,D,E,F,G,I,J,L,M] h m0 ac :)
def KZ:=(gB5 s k wl 53 Tryz.f53 dk 23 cY [.u,.b true,.b false] 3 [.gd 23 [.mv 1 23,.mv 0 32,.sg dk 24 cY] [.mv 2 23,.pk 27 31 2 32,.sg dk 24 cY] [.mv 0 32,.sg dk 24 cY]] [a,b,c,d,e,g,i,j,l,m,o,p,q,r,u,v,w,x,y,z,A,B,C,D,E,F,G,I,J,L,M] h m0 ac :)
def Mz:=(gB5 s k wl 53 Tryz.f53 dk 20 cY [.u,.b true,.i 0,.b false] 4 [.gd 28 [.mv 1 28,.ld 53 29 30,.le 53 30 31,.bo .eql 3 31 2 32,.sg dk 23 cY] [.mv 3 28,.mv 0 30,.mv 0 31,.mv 0 32,.sg dk 23 cY] [.mv 0 30,.sg dk 21 cY]] [a,b,c,d,e,g,i,j,l,m,o,p,q,r,u,v,w,x,y,z,A,B,C,D,E,F,G,I,J,L,M] h m0 ac :)
def Lk:=(gB5 s k wl 53 Tryz.f53 dk 21 cY [.u,.b true,.i 0,.b false] 4 [.gd 28 [.mv 1 28,.le 53 30 31,.bo .eql 3 31 2 32,.sg dk 23 cY] [.mv 3 28,.mv 0 31,.mv 0 32,.sg dk 23 cY] [.mv 0 31,.sg dk 22 cY]] [a,b,c,d,e,g,i,j,l,m,o,p,q,r,u,v,w,x,y,z,A,B,C,D,E,F,G,I,J,L,M] h m0 ac :)
def LN:=(gB5 s k wl 53 Tryz.f53 dk 22 cY [.u,.b true,.i 0,.b false] 4 [.gd 28 [.mv 1 28,.bo .eql 3 31 2 32,.sg dk 23 cY] [.mv 3 28,.mv 0 32,.sg dk 23 cY] [.mv 0 32,.sg dk 23 cY]] [a,b,c,d,e,g,i,j,l,m,o,p,q,r,u,v,w,x,y,z,A,B,C,D,E,F,G,I,J,L,M] h m0 ac :)
def pM:=(yK5 cx K cY s0 :)
noncomputable def K6:Code:=ai (aj Tryz.f54) [1,0]
noncomputable def Ia:List Fr:=[.seq (ai (aj Tryz.f54) [1,1])]
def ah0:=(yB5 s k wl 54 Tryz.f54 [.u,.b false,.i 0,.b true] 4 [.mv 1 7,.rg,.mv 4 8,.bo .lss 3 8 2 9,.mv 9 10,.gd 10 [.mv 3 10,.sg K6 8 Ia] [.mv 1 10,.mv 4 11,.fa 30 5 1 12,.ld 24 12 13,.le 24 13 14,.bo .geq 3 11 14 15,.sg K6 8 Ia] [.sg K6 4 Ia]] 11 [a,b] h :)
def aid:=(yE5 k wl 54 Tryz.f54 [a,b] h :)
def KS:=(gB5 s k wl 54 Tryz.f54 K6 8 Ia [.u,.b true] 2 [.pk 8 1 13 14,.mv 14 5,.rv 5] [a,b,c,d,e,g,i,j,l,m,o,p,q] h m0 ac :)
def pI:=(yK5 cx K Ia s0 :)
noncomputable def Ln:Code:=ai (aj Tryz.f58) [1,1,0,1,0,0]
noncomputable def Mi:List Fr:=[.block 0,.seq (ai (aj Tryz.f58) [1,1,1])]
def aoU:=(yB5 s k wl 58 Tryz.f58 [.u,.f 102,.i 0] 3 [.nl 5,.mv 3 8,.ca false true 1 [8] 9,.mv 9 6,.mv 6 10,.le 24 10 11,.mv 2 12,.lo Ln [10,13] Mi] 23 [a] h :)
def ao6:=(yE5 k wl 58 Tryz.f58 [a] h :)
def ao2:=(yZ5 P Tryz.f58 [.u] 1 [.rv 3] (a::b::c::zz) h :)
def aeO:=(rL5 s k wl 58 rd Ln n0 K n [.u,.f 80,.i 1] 3 [.bo .lss 3 12 11 13,.cn 13 [.mv 12 14,.mv 14 7,.mv 6 15,.mv 7 16,.mv 6 17,.mv 7 18,.ia 24 17 18 19,.fa 101 19 1 20,.ld 53 20 21,.ca false true 1 [21] 22,.ia 24 15 16 23,.fa 101 23 1 24,.st 53 24 22,.bo .add 3 12 2 25,.mv 25 12,.nx Ln [10,13]] [.kt (.exit 0) [9,14]]] [a,b,c,d,e,g,i,j,l,m,o,p,q,r,u,v,w,x,y,z,A,B,C,D] h :)
def Xi:=(jB5 s k wl 58 Tryz.f58 Mi (.exit 0) [.u] 1 [.mv 4 24,.mv 24 3,.rv 3] [a,b,c,d,e,g,i,j,l,m,o,p,q,r,u,v,w,x,y,z,A,B,C,D] h :)
def En:=(yK5 cx K Mi s0 :)
def apE:=(yB5 s k wl 67 Tryz.f67 [.u,.b false,.i 0] 3 [.bx 3 4,.mv 1 5,.fa 57 4 1 6,.ld 53 6 7,.le 53 7 8,.bo .gtr 3 8 2 9,.mv 9 5,.rv 5] 6 [a] h :)
def aoT:=(yE5 k wl 67 Tryz.f67 [a] h :)
def XC:=(yB5 s k wl 82 Tryz.f82 [.u,.f 83] 2 (.rg::.so 2::.ld 86 2 6::.so 2::.ld 86 2 7::.so 7::.nk 7 8::.fa 30 8 3 9::.so 9::.ld 27 9 10::.fa 48 3 1 11::.so 11::.lr 11::.ld 3 11 12::.ld 86 2 13::.nk 13 14::.fa 30 14 0 15::.ld 23 15 16::.ld 86 2 17::.nk 17 18::.fa 30 18 1 19::.ld 24 19 20::.ld 86 2 21::.nk 21 22::.fa 30 22 2 23::.ld 26 23 24::.fa 48 3 1 25::.ld 3 25 26::.ld 86 2 27::.nk 27 28::.fa 30 28 3 29::.ld 27 29 30::.fa 48 3 1 31::.ld 3 31 32::.ia 27 30 32 33::.ld 65 33 34::.fa 48 3 2 35::.ld 46 35 36::.ca true true 1 [16,20,24,26,34,36] 37::.mv 37 5::.ex 5 0 38::.ex 5 1 39::.ex 5 2 40::.nk 6 41::.fa 30 41 2 42::.lw 42::.st 26 42 38::.ia 27 10 12 43::.lw 43::.st 65 43 39::.lw 4::.st 34 4 40::.pt::.rt []::[]) 39 [a,b,c] h :)
def W9:=(yE5 k wl 82 Tryz.f82 [a,b,c] h :)
def WZ:=(yB5 s k wl 84 Tryz.f84 [.u,.f 85,.f 86] 3 [.rg,.ld 86 3 6,.nk 6 7,.fa 30 7 0 8,.ld 23 8 9,.ld 86 3 10,.nk 10 11,.fa 30 11 1 12,.ld 24 12 13,.ld 86 3 14,.nk 14 15,.fa 30 15 2 16,.ld 26 16 17,.ld 86 3 18,.nk 18 19,.fa 30 19 4 20,.ld 28 20 21,.fa 48 4 1 22,.ld 3 22 23,.ia 28 21 23 24,.ld 57 24 25,.ca false true 1 [9,13,17,25] 26,.cn 26 [.rg,.so 3,.ld 86 3 28,.so 3,.ld 86 3 29,.so 29,.nk 29 30,.fa 30 30 4 31,.so 31,.ld 28 31 32,.fa 48 4 1 33,.so 33,.lr 33,.ld 3 33 34,.ld 86 3 35,.nk 35 36,.fa 30 36 0 37,.ld 23 37 38,.ld 86 3 39,.nk 39 40,.fa 30 40 1 41,.ld 24 41 42,.ld 86 3 43,.nk 43 44,.fa 30 44 2 45,.ld 26 45 46,.fa 48 4 1 47,.ld 3 47 48,.ld 86 3 49,.nk 49 50,.fa 30 50 4 51,.ld 28 51 52,.fa 48 4 1 53,.ld 3 53 54,.ia 28 52 54 55,.ld 57 55 56,.ca true true 2 [38,42,46,48,56] 57,.mv 57 27,.ex 27 0 58,.ex 27 1 59,.ex 27 2 60,.nk 28 61,.fa 30 61 2 62,.lw 62,.st 26 62 58,.ia 28 32 34 63,.lw 63,.st 57 63 59,.lw 5,.st 34 5 60,.pt,.rt []] [.rt []]] 58 [a,b,c] h :)
def WX:=(yE5 k wl 84 Tryz.f84 [a,b,c] h :)
def WU:=(yB5 s k wl 87 Tryz.f87 [.u,.f 88,.i 3,.v (.lit (.int .u64 1))] 4 [.rg,.so 4,.ld 86 4 5,.ld 86 4 6,.nk 6 7,.fa 30 7 2 8,.ld 26 8 9,.ca true true 1 [9,2,3] 10,.nk 5 11,.fa 30 11 2 12,.st 26 12 10,.rt []] 8 [a] h :)
def Xf:=(yE5 k wl 87 Tryz.f87 [a] h :)
noncomputable def Gd:Code:=ai (aj Tryz.f94) [1,0,0]
noncomputable def LW:List Fr:=[.block 0]
noncomputable def KM:Code:=ai (aj Tryz.f94) [1,0,0,1,1,0,0,1,0]
noncomputable def HA:List Fr:=[.seq (ai (aj Tryz.f94) [1,0,0,1,1,0,0,1,1]),.block 1,.seq (ai (aj Tryz.f94) [1,0,0,1,1,1])]
def ahU:=(yB5 s k wl 94 Tryz.f94 [.u,.i 0] 2 [.fa 30 3 3 7,.ld 27 7 8,.le 27 8 9,.mv 1 10,.lo Gd [9] LW] 28 [a,b] h :)
def ahR:=(yE5 k wl 94 Tryz.f94 [a,b] h :)
def ah1:=(yZ5 P Tryz.f94 [.u] 1 [.rt []] zz h :)
def agS:=(rL5 s k wl 94 rd Gd n0 K n [.u,.f 95,.b true,.b false] 4 [.bo .lss 3 12 11 13,.cn 13 [.mv 12 14,.ia 27 10 12 15,.ld 65 15 16,.al 65 8,.mv 14 7,.st 65 8 16,.rg,.fa 30 5 0 17,.ld 23 17 18,.fa 30 5 1 19,.ld 24 19 20,.fa 30 5 2 21,.ld 26 21 22,.mv 7 23,.ld 65 8 24,.ca false true 1 [18,20,22,23,24] 25,.un .not 25 26,.mv 26 27,.gd 27 [.mv 2 27,.mv 4 28,.mv 7 29,.ca false true 28 [29] 30,.un .not 30 31,.sg KM 15 HA] [.mv 3 27,.mv 0 28,.mv 0 29,.mv 0 30,.mv 0 31,.sg KM 15 HA] [.mv 0 28,.sg KM 12 HA]] [.kt (.exit 0) [8]]] [a,b,c,d,e,g,i,j,l,m,o,p,q,r,u,v,w,x,y,z,A,B,C,D,E,F,G,I,J,L] h :)
def MG:=(jB5 s k wl 94 Tryz.f94 LW (.exit 0) [.u] 1 [.rt []] zz h :)
def KN:=(gL5 s k wl 94 rd Gd n0 K n KM 15 HA [.u,.b false,.i 1] 3 [.pk 26 30 1 31,.cn 31 [.kf .ret] [.bo .add 3 11 2 32,.mv 32 11,.nx Gd [9]]] [a,b,c,d,e,g,i,j,l,m,o,p,q,r,u,v,w,x,y,z,A,B,C,D,E,F,G,I,J,L] h m0 ac :)
def pR:=(yK5 cx K LW s0 :)
def pZ:=(yK5 cx K HA s0 :)
end
end Go.Ab
set_option maxRecDepth 100000
set_option linter.unusedVariables false
namespace Go.Ab
open Go.Proofs
section
variable (s:Sys) (k wl m0 n n0:Nat) (a b c d e g i j l m o p q r u v w x y z A B C D E F G I J L M N O Q R S T U W X Y Z ta tb tc td te tf tg th ti tj tk tl tm tn tp tq tr ts tt tu tv tw tx ty tz tA tB tC tD tE tF tG tH tI tJ tK tL tM tN tO tP tQ:V) (h:Hp) (P:Program) (zz:List V) (ac:List Nat×List Nat) (K:Out→St→Option (V×Hp)) (rd:Bool) (cx:Cx) (s0:St)
noncomputable def w7:Code:=ai (aj Tryz.f23) [1,0,0]
noncomputable def uF:List Fr:=[.seq (ai (aj Tryz.f23) [1,0,1]),.seq (ai (aj Tryz.f23) [1,1])]
noncomputable def Lj:Code:=ai (aj Tryz.f23) [1,1,1,1,0,1,0,0]
noncomputable def LO:List Fr:=[.block 0,.seq (ai (aj Tryz.f23) [1,1,1,1,1])]
noncomputable def BH:Code:=ai (aj Tryz.f23) [1,1,1,1,1,0,1,0,0]
noncomputable def D9:List Fr:=[.block 2,.seq (ai (aj Tryz.f23) [1,1,1,1,1,1])]
noncomputable def Mc:Code:=ai (aj Tryz.f23) [1,1,1,1,1,0,1,0,0,1,1,0,0,1,0,1,0,0]
noncomputable def LS:List Fr:=[.block 4,.seq (ai (aj Tryz.f23) [1,1,1,1,1,0,1,0,0,1,1,0,0,1,1]),.block 3,.seq (ai (aj Tryz.f23) [1,1,1,1,1,0,1,0,0,1,1,1])]
def adZ:=(yB5 s k wl 23 Tryz.f23 [.u,.b false,.f 50,.b true,.f 56] 5 [.bx 5 8,.al 30 11,.mv 1 12,.rg,.ld 23 8 21,.ca false true 2 [21] 22,.un .not 22 23,.mv 23 24,.gd 24 [.mv 3 24,.sg w7 7 uF] [.mv 1 24,.mv 6 25,.ca false true 4 [25] 26,.un .not 26 27,.sg w7 7 uF] [.sg w7 5 uF]] 81 [a,b,c] h :)
def aej:=(yE5 k wl 23 Tryz.f23 [a,b,c] h :)
def adI:=(yZ5 P Tryz.f23 [.u] 1 [.ro [(some 30,7),(none,8)]] (a::b::c::d::e::g::i::j::zz) h :)
def GT:=(gB5 s k wl 23 Tryz.f23 w7 7 uF [.u,.b true,.b false,.i 3] 4 [.pk 23 1 26 27,.mv 27 28,.gd 28 [.mv 1 28,.mv 0 29,.mv 0 30,.mv 0 31,.sg w7 12 uF] [.mv 2 28,.mv 6 29,.le 40 29 30,.bo .gtr 3 30 3 31,.sg w7 12 uF] [.mv 0 29,.sg w7 10 uF]] (a::b::c::d::e::g::i::j::l::m::o::p::q::r::u::v::w::x::y::z::A::B::C::D::E::F::G::I::zz) h m0 ac :)
def Ha:=(gB5 s k wl 23 Tryz.f23 w7 12 uF [.u,.b true,.b false,.f 57,.f 58,.f 59,.i 0] 7 [.pk 31 1 34 35,.cn 35 [.bu 30 [] 36,.st 30 13 36,.mv 2 14,.ro [(some 30,13),(none,14)]] [.mv 8 37,.ca false true 3 [37] 38,.mv 38 15,.rg,.al 30 16,.so 10,.ld 23 10 39,.mv 8 40,.ca true true 4 [40] 41,.so 10,.ld 23 10 42,.ca true true 5 [42] 43,.bu 30 [(0,39),(1,41),(2,43)] 44,.st 30 16 44,.fa 23 10 0 45,.ld 3 45 46,.mv 6 47,.lo Lj [41,10] LO]] (a::b::c::d::e::g::i::j::l::m::o::p::q::r::u::v::w::x::y::z::A::B::C::D::E::F::G::I::J::L::M::N::O::Q::R::S::T::U::W::X::Y::Z::ta::tb::tc::td::te::tf::tg::th::ti::tj::tk::tl::tm::tn::tp::tq::tr::ts::tt::tu::tv::tw::tx::ty::tz::tA::tB::tC::tD::tE::tF::tG::tH::tI::tJ::tK::tL::tM::tN::tO::tP::tQ::[]) h m0 ac :)
def afP:=(rL5 s k wl 23 rd Lj n0 K n [.u,.f 60,.i 1] 3 [.bo .lss 3 43 42 44,.cn 44 [.mv 43 45,.mv 45 13,.rg,.fa 30 12 3 46,.so 46,.ld 27 46 47,.mv 13 48,.ca true true 1 [48] 49,.bS true 27 1 [(0,49)] 50,.ap 27 27 47 50 51,.fa 30 12 3 52,.st 27 52 51,.bo .add 3 43 2 53,.mv 53 43,.nx Lj [41,10]] [.kt (.exit 0) [40,11]]] (a::b::c::d::e::g::i::j::l::m::o::p::q::r::u::v::w::x::y::z::A::B::C::D::E::F::G::I::J::L::M::N::O::Q::R::S::T::U::W::X::Y::Z::ta::tb::tc::td::te::tf::tg::th::ti::tj::tk::tl::tm::tn::tp::tq::tr::ts::tt::tu::tv::tw::tx::ty::tz::tA::tB::tC::tD::tE::tF::tG::tH::tI::tJ::tK::tL::tM::tN::tO::tP::tQ::[]) h :)
def H9:=(jB5 s k wl 23 Tryz.f23 LO (.exit 0) [.u,.i 0] 2 [.mv 4 53,.le 40 53 54,.mv 1 55,.lo BH [54,29] D9] (a::b::c::d::e::g::i::j::l::m::o::p::q::r::u::v::w::x::y::z::A::B::C::D::E::F::G::I::J::L::M::N::O::Q::R::S::T::U::W::X::Y::Z::ta::tb::tc::td::te::tf::tg::th::ti::tj::tk::tl::tm::tn::tp::tq::tr::ts::tt::tu::tv::tw::tx::ty::tz::tA::tB::tC::tD::tE::tF::tG::tH::tI::tJ::tK::tL::tM::tN::tO::tP::tQ::[]) h :)
def aec:=(rL5 s k wl 23 rd BH n0 K n [.u,.i 0] 2 [.bo .lss 3 55 54 56,.cn 56 [.ia 40 53 55 57,.ld 53 57 58,.mv 58 14,.mv 14 59,.le 53 59 60,.mv 1 61,.lo Mc [60,15] LS] [.kt (.exit 2) [53,30]]] (a::b::c::d::e::g::i::j::l::m::o::p::q::r::u::v::w::x::y::z::A::B::C::D::E::F::G::I::J::L::M::N::O::Q::R::S::T::U::W::X::Y::Z::ta::tb::tc::td::te::tf::tg::th::ti::tj::tk::tl::tm::tn::tp::tq::tr::ts::tt::tu::tv::tw::tx::ty::tz::tA::tB::tC::tD::tE::tF::tG::tH::tI::tJ::tK::tL::tM::tN::tO::tP::tQ::[]) h :)
def Gn:=(jB5 s k wl 23 Tryz.f23 D9 (.exit 2) [.u,.b true] 2 [.ld 30 11 85,.st 30 8 85,.mv 1 9,.ro [(some 30,8),(none,9)]] (a::b::c::d::e::g::i::j::l::m::o::p::q::r::u::v::w::x::y::z::A::B::C::D::E::F::G::I::J::L::M::N::O::Q::R::S::T::U::W::X::Y::Z::ta::tb::tc::td::te::tf::tg::th::ti::tj::tk::tl::tm::tn::tp::tq::tr::ts::tt::tu::tv::tw::tx::ty::tz::tA::tB::tC::tD::tE::tF::tG::tH::tI::tJ::tK::tL::tM::tN::tO::tP::tQ::[]) h :)
def aeE:=(rL5 s k wl 23 rd Mc n0 K n [.u,.f 61,.i 0,.b false,.i 1,.f 62] 6 [.bo .lss 3 65 64 66,.cn 66 [.ia 53 63 65 67,.ld 3 67 68,.mv 68 20,.mv 14 69,.mv 20 70,.ca false true 1 [69,70] 71,.mv 71 21,.mv 21 72,.bo .lss 3 72 2 73,.cn 73 [.bu 30 [] 74,.st 30 12 74,.mv 3 13,.kf .ret] [.mv 14 75,.mv 21 76,.mv 21 77,.bo .add 3 77 4 78,.ca false true 5 [75,76,78] 79,.mv 79 14,.bo .add 3 65 4 80,.mv 80 65,.nx Mc [60,15]]] [.kt (.exit 4) [59,16]]] (a::b::c::d::e::g::i::j::l::m::o::p::q::r::u::v::w::x::y::z::A::B::C::D::E::F::G::I::J::L::M::N::O::Q::R::S::T::U::W::X::Y::Z::ta::tb::tc::td::te::tf::tg::th::ti::tj::tk::tl::tm::tn::tp::tq::tr::ts::tt::tu::tv::tw::tx::ty::tz::tA::tB::tC::tD::tE::tF::tG::tH::tI::tJ::tK::tL::tM::tN::tO::tP::tQ::[]) h :)
def GV:=(jL5 s k wl 23 rd BH n0 K n LS (.exit 4) [.u,.f 63,.i 1] 3 [.rg,.fa 30 12 4 78,.so 78,.ld 28 78 79,.mv 15 80,.ca true true 1 [80] 81,.bS true 28 1 [(0,81)] 82,.ap 28 28 79 82 83,.fa 30 12 4 84,.st 28 84 83,.bo .add 3 56 2 85,.mv 85 56,.nx BH [54,29]] (a::b::c::d::e::g::i::j::l::m::o::p::q::r::u::v::w::x::y::z::A::B::C::D::E::F::G::I::J::L::M::N::O::Q::R::S::T::U::W::X::Y::Z::ta::tb::tc::td::te::tf::tg::th::ti::tj::tk::tl::tm::tn::tp::tq::tr::ts::tt::tu::tv::tw::tx::ty::tz::tA::tB::tC::tD::tE::tF::tG::tH::tI::tJ::tK::tL::tM::tN::tO::tP::tQ::[]) h :)
def nJ:=(yK5 cx K uF s0 :)
def ni:=(yK5 cx K LO s0 :)
def nw:=(yK5 cx K D9 s0 :)
def nj:=(yK5 cx K LS s0 :)
end
end Go.Ab
set_option maxRecDepth 100000
set_option linter.unusedVariables false
namespace Go.Ab
open Go.Proofs
section
variable (s:Sys) (k wl m0 n n0:Nat) (h:Hp) (P:Program) (zz:List V) (a b c d e g i j l m o p q r u v w x y z A B C D E F G I J L M N O Q R S T U W X Y Z ta tb tc td te tf tg th ti tj tk tl tm tn tp tq tr ts tt tu tv tw tx ty tz tA tB tC tD tE tF tG tH tI tJ tK tL tM tN tO tP tQ tR tS:V) (ac:List Nat×List Nat) (K:Out→St→Option (V×Hp)) (rd:Bool) (cx:Cx) (s0:St)
noncomputable def Ic:Code:=ai (aj Tryz.f22) [1,0,1,0,0]
noncomputable def MH:List Fr:=[.block 0,.seq (ai (aj Tryz.f22) [1,1])]
noncomputable def KG:Code:=ai (aj Tryz.f22) [1,0,1,0,0,0,0]
noncomputable def HH:List Fr:=[.seq (ai (aj Tryz.f22) [1,0,1,0,0,0,1]),.seq (ai (aj Tryz.f22) [1,0,1,0,0,1])]
def api:=(yB5 s k wl 22 Tryz.f22 [.u,.b false,.i 0] 3 [.mv 1 5,.mv 2 6,.lo Ic [4,16] MH] 22 [a] h :)
def apb:=(yE5 k wl 22 Tryz.f22 [a] h :)
def aoR:=(yZ5 P Tryz.f22 [.u] 1 [.rv 3] (a::b::c::zz) h :)
def ag5:=(rL5 s k wl 22 rd Ic n0 K n [.u,.b true,.i 10,.b false] 4 [.rg,.mv 7 8,.mv 4 9,.le 40 9 10,.bo .lss 3 8 10 11,.mv 11 12,.gd 12 [.mv 1 12,.mv 7 13,.bo .leq 3 13 2 14,.sg KG 7 HH] [.mv 3 12,.mv 0 13,.mv 0 14,.sg KG 7 HH] [.mv 0 13,.sg KG 6 HH]] (a::b::c::d::e::g::i::j::l::m::o::zz) h :)
def Xe:=(jB5 s k wl 22 Tryz.f22 MH (.exit 0) [.u,.i 10] 2 [.mv 2 22,.le 40 22 23,.bo .leq 3 23 1 24,.mv 24 4,.rv 4] [a,b,c,d,e,g,i,j,l,m,o,p,q,r,u,v,w,x,y,z,A,B,C] h :)
def WG:=(gL5 s k wl 22 rd Ic n0 K n KG 7 HH [.u,.b false,.i 60,.i 1] 4 [.pk 12 14 1 15,.cn 15 [.mv 4 18,.mv 7 19,.ia 40 18 19 20,.ld 53 20 21,.le 53 21 22,.bo .gtr 3 22 2 23,.cn 23 [.mv 1 6,.kf .ret] [.mv 7 16,.bo .add 3 16 3 17,.mv 17 7,.nx Ic [4,16]]] [.kt (.exit 0) [4,16]]] [a,b,c,d,e,g,i,j,l,m,o,p,q,r,u,v,w,x,y,z,A,B,C] h m0 ac :)
def D7:=(yK5 cx K MH s0 :)
def Eg:=(yK5 cx K HH s0 :)
noncomputable def bP:Code:=ai (aj Tryz.f33) [1,1,1,1,1,0]
noncomputable def bM:List Fr:=[.seq (ai (aj Tryz.f33) [1,1,1,1,1,1])]
def apX:=(yB5 s k wl 33 Tryz.f33 [.u,.b false,.i 1,.i 0,.f 34,.v .nil,.f 36,.i 500,.f 37,.b true] 10 (.mv 1 10::.bu 101 [(0,2)] 21::.bS false 24 1 [(0,21)] 22::.mv 22 11::.bu 23 [(0,2),(1,2),(2,2)] 24::.mv 11 25::.bS false 53 1 [(0,3)] 26::.bS false 40 1 [(0,26)] 27::.ca false true 4 [24,25,27,5] 28::.mv 28 23::.ex 23 0 29::.ex 23 1 30::.ex 23 2 31::.al 30 12::.st 30 12 29::.mv 30 13::.mv 31 14::.ld 30 12 33::.ca false true 6 [33,7] 34::.mv 34 32::.ex 32 0 35::.ex 32 1 36::.ex 32 2 37::.al 30 15::.st 30 15 35::.mv 36 16::.mv 37 17::.mv 11 39::.mv 16 40::.ca false true 8 [39,40] 41::.mv 41 38::.ex 38 0 42::.ex 38 1 43::.ex 38 2 44::.mv 42 18::.mv 43 19::.mv 44 20::.rg::.mv 14 45::.mv 45 46::.gd 46 [.mv 9 46,.mv 13 47,.le 34 47 48,.bo .eql 3 48 3 49,.sg bP 5 bM] [.mv 1 46,.sg bP 5 bM] [.sg bP 3 bM]::[]) 86 [] h :)
def aqg:=(yE5 k wl 33 Tryz.f33 [] h :)
def ahl:=(gB5 s k wl 33 Tryz.f33 bP 5 bM [.u,.b false,.b true,.f 39,.i 1] 5 [.pk 41 44 1 45,.mv 45 46,.gd 46 [.mv 2 46,.ld 30 7 47,.ca false true 3 [47] 48,.bo .eql 3 48 4 49,.sg bP 10 bM] [.mv 1 46,.mv 0 47,.mv 0 48,.mv 0 49,.sg bP 10 bM] [.mv 0 47,.sg bP 8 bM]] (a::b::c::d::e::g::i::j::l::m::o::p::q::r::u::v::w::x::y::z::A::B::C::D::E::F::G::I::J::L::M::N::O::Q::R::S::T::U::W::X::Y::Z::ta::tb::tc::zz) h m0 ac :)
def adc:=(gB5 s k wl 33 Tryz.f33 bP 10 bM [.u,.b false,.b true,.f 29] 4 [.pk 45 48 1 49,.mv 49 50,.gd 50 [.mv 2 50,.ld 30 9 51,.ca false true 3 [51] 52,.sg bP 14 bM] [.mv 1 50,.mv 0 51,.mv 0 52,.sg bP 14 bM] [.mv 0 51,.sg bP 13 bM]] (a::b::c::d::e::g::i::j::l::m::o::p::q::r::u::v::w::x::y::z::A::B::C::D::E::F::G::I::J::L::M::N::O::Q::R::S::T::U::W::X::Y::Z::ta::tb::tc::td::te::tf::tg::zz) h m0 ac :)
def agt:=(gB5 s k wl 33 Tryz.f33 bP 14 bM [.u,.b false,.b true,.i 10] 4 [.pk 50 52 1 53,.mv 53 54,.gd 54 [.mv 2 54,.mv 11 55,.bo .gtr 3 55 3 56,.sg bP 18 bM] [.mv 1 54,.mv 0 55,.mv 0 56,.sg bP 18 bM] [.mv 0 55,.sg bP 17 bM]] (a::b::c::d::e::g::i::j::l::m::o::p::q::r::u::v::w::x::y::z::A::B::C::D::E::F::G::I::J::L::M::N::O::Q::R::S::T::U::W::X::Y::Z::ta::tb::tc::td::te::tf::tg::th::ti::tj::tk::zz) h m0 ac :)
def agQ:=(gB5 s k wl 33 Tryz.f33 bP 18 bM [.u,.b false,.b true,.i 500] 4 [.pk 54 56 1 57,.mv 57 58,.gd 58 [.mv 2 58,.mv 11 59,.bo .lss 3 59 3 60,.sg bP 22 bM] [.mv 1 58,.mv 0 59,.mv 0 60,.sg bP 22 bM] [.mv 0 59,.sg bP 21 bM]] (a::b::c::d::e::g::i::j::l::m::o::p::q::r::u::v::w::x::y::z::A::B::C::D::E::F::G::I::J::L::M::N::O::Q::R::S::T::U::W::X::Y::Z::ta::tb::tc::td::te::tf::tg::th::ti::tj::tk::tl::tm::tn::tp::zz) h m0 ac :)
def adF:=(gB5 s k wl 33 Tryz.f33 bP 22 bM [.u,.b false,.b true,.i 1] 4 [.pk 58 60 1 61,.mv 61 62,.gd 62 [.mv 2 62,.mv 12 63,.bo .eql 3 63 3 64,.sg bP 26 bM] [.mv 1 62,.mv 0 63,.mv 0 64,.sg bP 26 bM] [.mv 0 63,.sg bP 25 bM]] (a::b::c::d::e::g::i::j::l::m::o::p::q::r::u::v::w::x::y::z::A::B::C::D::E::F::G::I::J::L::M::N::O::Q::R::S::T::U::W::X::Y::Z::ta::tb::tc::td::te::tf::tg::th::ti::tj::tk::tl::tm::tn::tp::tq::tr::ts::tt::zz) h m0 ac :)
def ahg:=(gB5 s k wl 33 Tryz.f33 bP 26 bM [.u,.b false,.b true,.i 0] 4 [.pk 62 64 1 65,.mv 65 66,.gd 66 [.mv 2 66,.mv 13 67,.bo .eql 3 67 3 68,.sg bP 30 bM] [.mv 1 66,.mv 0 67,.mv 0 68,.sg bP 30 bM] [.mv 0 67,.sg bP 29 bM]] (a::b::c::d::e::g::i::j::l::m::o::p::q::r::u::v::w::x::y::z::A::B::C::D::E::F::G::I::J::L::M::N::O::Q::R::S::T::U::W::X::Y::Z::ta::tb::tc::td::te::tf::tg::th::ti::tj::tk::tl::tm::tn::tp::tq::tr::ts::tt::tu::tv::tw::tx::zz) h m0 ac :)
def af1:=(gB5 s k wl 33 Tryz.f33 bP 30 bM [.u,.b false,.b true,.i 1] 4 [.pk 66 68 1 69,.mv 69 70,.gd 70 [.mv 2 70,.mv 14 71,.bo .eql 3 71 3 72,.sg bP 34 bM] [.mv 1 70,.mv 0 71,.mv 0 72,.sg bP 34 bM] [.mv 0 71,.sg bP 33 bM]] (a::b::c::d::e::g::i::j::l::m::o::p::q::r::u::v::w::x::y::z::A::B::C::D::E::F::G::I::J::L::M::N::O::Q::R::S::T::U::W::X::Y::Z::ta::tb::tc::td::te::tf::tg::th::ti::tj::tk::tl::tm::tn::tp::tq::tr::ts::tt::tu::tv::tw::tx::ty::tz::tA::tB::zz) h m0 ac :)
def ae3:=(gB5 s k wl 33 Tryz.f33 bP 34 bM [.u,.b false,.b true,.i 4] 4 [.pk 70 72 1 73,.mv 73 74,.gd 74 [.mv 2 74,.mv 10 75,.le 34 75 76,.bo .eql 3 76 3 77,.sg bP 39 bM] [.mv 1 74,.mv 0 75,.mv 0 76,.mv 0 77,.sg bP 39 bM] [.mv 0 75,.sg bP 37 bM]] (a::b::c::d::e::g::i::j::l::m::o::p::q::r::u::v::w::x::y::z::A::B::C::D::E::F::G::I::J::L::M::N::O::Q::R::S::T::U::W::X::Y::Z::ta::tb::tc::td::te::tf::tg::th::ti::tj::tk::tl::tm::tn::tp::tq::tr::ts::tt::tu::tv::tw::tx::ty::tz::tA::tB::tC::tD::tE::tF::tG::zz) h m0 ac :)
def adJ:=(gB5 s k wl 33 Tryz.f33 bP 39 bM [.u,.b false,.b true,.i 3,.i 5] 5 [.pk 75 78 1 79,.mv 79 80,.gd 80 [.mv 2 80,.mv 11 81,.ia 34 81 3 82,.fa 52 82 0 83,.ld 3 83 84,.bo .eql 3 84 4 85,.sg bP 46 bM] [.mv 1 80,.mv 0 81,.mv 0 82,.mv 0 83,.mv 0 84,.mv 0 85,.sg bP 46 bM] [.mv 0 81,.sg bP 42 bM]] (a::b::c::d::e::g::i::j::l::m::o::p::q::r::u::v::w::x::y::z::A::B::C::D::E::F::G::I::J::L::M::N::O::Q::R::S::T::U::W::X::Y::Z::ta::tb::tc::td::te::tf::tg::th::ti::tj::tk::tl::tm::tn::tp::tq::tr::ts::tt::tu::tv::tw::tx::ty::tz::tA::tB::tC::tD::tE::tF::tG::tH::tI::tJ::tK::tL::tM::tN::zz) h m0 ac :)
def aeW:=(gB5 s k wl 33 Tryz.f33 bP 46 bM [.u,.b false,.b true,.f 35,.v .nil] 5 [.pk 80 85 1 86,.mv 86 87,.gd 87 [.mv 2 87,.ld 30 7 88,.ca false true 3 [88,4] 89,.sg bP 50 bM] [.mv 1 87,.mv 0 88,.mv 0 89,.sg bP 50 bM] [.mv 0 88,.sg bP 49 bM]] (a::b::c::d::e::g::i::j::l::m::o::p::q::r::u::v::w::x::y::z::A::B::C::D::E::F::G::I::J::L::M::N::O::Q::R::S::T::U::W::X::Y::Z::ta::tb::tc::td::te::tf::tg::th::ti::tj::tk::tl::tm::tn::tp::tq::tr::ts::tt::tu::tv::tw::tx::ty::tz::tA::tB::tC::tD::tE::tF::tG::tH::tI::tJ::tK::tL::tM::tN::tO::tP::tQ::tR::tS::[]) h m0 ac :)
def aaD:=(gB5 s k wl 33 Tryz.f33 bP 50 bM [.u,.b false] 2 [.pk 84 86 1 87,.mv 87 2,.rv 2] (a::b::c::d::e::g::i::j::l::m::o::p::q::r::u::v::w::x::y::z::A::B::C::D::E::F::G::I::J::L::M::N::O::Q::R::S::T::U::W::X::Y::Z::ta::tb::tc::td::te::tf::tg::th::ti::tj::tk::tl::tm::tn::tp::tq::tr::ts::tt::tu::tv::tw::tx::ty::tz::tA::tB::tC::tD::tE::tF::tG::tH::tI::tJ::tK::tL::tM::tN::tO::tP::tQ::tR::tS::[]) h m0 ac :)
def MV:=(yK5 cx K bM s0 :)
end
end Go.Ab
set_option maxRecDepth 100000
set_option linter.unusedVariables false
namespace Go.Ab
open Go.Proofs
section
variable (s:Sys) (k wl n n0 m0:Nat) (a b c d e g i j l m o p q r u v w x y z A B C D E F G I J L M N O Q R S T U W X Y Z ta tb tc:V) (h:Hp) (P:Program) (zz:List V) (K:Out→St→Option (V×Hp)) (rd:Bool) (ac:List Nat×List Nat) (cx:Cx) (s0:St)
def aq4:=(yB5 s k wl 34 Tryz.f34 [.u,.b false,.f 23,.f 73,.f 17,.b true] 6 [.bx 6 10,.al 30 14,.nl 15,.mv 1 16,.ld 23 10 22,.mv 7 23,.mv 8 24,.ca false true 2 [22,23,24] 25,.mv 25 21,.ex 21 0 26,.ex 21 1 27,.al 30 17,.st 30 17 26,.mv 27 18,.mv 18 28,.un .not 28 29,.cn 29 [.bu 30 [] 30,.st 30 14 30,.nl 15,.mv 1 16,.ro [(some 30,14),(none,15),(none,16)]] [.rg,.al 30 19,.so 17,.ld 30 17 32,.mv 9 33,.ca true true 3 [33] 34,.ca true true 4 [32,34] 35,.mv 35 31,.ex 31 0 36,.ex 31 1 37,.st 30 19 36,.mv 37 20,.ld 30 19 38,.mv 20 39,.st 30 14 38,.mv 39 15,.mv 5 16,.ro [(some 30,14),(none,15),(none,16)]]] 30 [a,b,c,d] h :)
def apL:=(yE5 k wl 34 Tryz.f34 [a,b,c,d] h :)
noncomputable def WF:Code:=ai (aj Tryz.f36) [1,1,1,1,0,1,0]
noncomputable def QU:Code:=ai (aj Tryz.f36) [1,1,1,1,0,1,0,0]
noncomputable def O9:Code:=ai (aj Tryz.f36) [1,1,1,1,0,1,0,1]
noncomputable def Gt:List Fr:=[.block 0,.seq (ai (aj Tryz.f36) [1,1,1,1,1])]
theorem H0:WF = .rangeFunc (.tmp 25) #[26,27] QU O9:=by kernel_rfl
def aoX:=(yB5 s k wl 36 Tryz.f36 [.u,.i 0,.f 17,.v .nil,.f 20,.f 74] 6 [.bx 6 8,.al 30 10,.nl 11,.mv 1 12,.ld 30 8 21,.ca false true 2 [21,3] 22,.mv 22 20,.ex 20 0 23,.ex 20 1 24,.al 30 13,.al 34 14,.st 30 13 23,.st 34 14 24,.ld 30 8 25,.ca false true 4 [25] 26,.un .not 26 27,.cn 27 [.ld 30 13 28,.st 30 10 28,.nl 11,.mv 1 12,.ro [(some 30,10),(none,11),(none,12)]] [.al 3 15,.st 3 15 1,.ld 30 8 29,.mv 7 30,.ca false true 5 [29,30] 31,.rf WF Gt]] 43 [a,b] h :)
def apm:=(yE5 k wl 36 Tryz.f36 [a,b] h :)
def apD:=(yZ5 P Tryz.f36 [.u] 1 [.ro [(some 30,5),(none,6),(none,7)]] (a::b::c::d::e::g::i::zz) h :)
def W2:=(jB5 s k wl 36 Tryz.f36 Gt .norm [.u] 1 [.rg,.ld 30 8 43,.so 9,.lr 9,.ld 34 9 44,.so 10,.lr 10,.ld 3 10 45,.lw 5,.st 30 5 43,.mv 44 6,.mv 45 7,.pt,.ro [(some 30,5),(none,6),(none,7)]] [a,b,c,d,e,g,i,j,l,m,o,p,q,r,u,v,w,x,y,z,A,B,C,D,E,F,G,I,J,L,M,N,O,Q,R,S,T,U,W,X,Y,Z,ta,tb,tc] h :)
def WT:=(jB5 s k wl 36 Tryz.f36 Gt (.exit 0) [.u] 1 [.rg,.ld 30 8 43,.so 9,.lr 9,.ld 34 9 44,.so 10,.lr 10,.ld 3 10 45,.lw 5,.st 30 5 43,.mv 44 6,.mv 45 7,.pt,.ro [(some 30,5),(none,6),(none,7)]] [a,b,c,d,e,g,i,j,l,m,o,p,q,r,u,v,w,x,y,z,A,B,C,D,E,F,G,I,J,L,M,N,O,Q,R,S,T,U,W,X,Y,Z,ta,tb,tc] h :)
def lC:=(qF5 s k wl 36 rd K O9 [.u,.f 29,.f 17,.i 1] 4 [.ld 30 11 32,.ca false true 1 [32] 33,.cn 33 [.kf (.exit 0)] [.ld 30 11 35,.mv 15 36,.ca false true 2 [35,36] 37,.mv 37 34,.ex 34 0 38,.ex 34 1 39,.al 30 16,.st 30 16 38,.mv 39 17,.rg,.so 16,.lr 16,.ld 30 16 40,.ld 34 12 41,.mv 17 42,.lw 41,.ap 34 34 41 42 43,.mv 14 44,.bo .add 3 44 3 45,.lw 11,.st 30 11 40,.lw 12,.st 34 12 43,.lw 13,.st 3 13 45,.pt,.kf .norm]] [a,b,c,d,e,g,i,j,l,m,o,p,q,r,u,v,w,x,y,z,A,B,C,D,E,F,G,I,J,L,M,N,O,Q,R,S,T,U,W,X,Y,Z,ta,tb,tc] h :)
def lE:=(qF5 s k wl 36 rd K QU [.u] 1 [.mv 27 11,.mv 28 12,.kf .norm] (a::b::c::d::e::g::i::j::l::m::o::p::q::r::u::v::w::x::y::z::A::B::C::D::E::F::G::I::zz) h :)
def Dq:=(yK5 cx K Gt s0 :)
noncomputable def Em:Code:=ai (aj Tryz.f37) [1,0,1,1,0,1,0,0]
noncomputable def KP:List Fr:=[.block 0,.seq (ai (aj Tryz.f37) [1,0,1,1,1]),.scope (ai (aj Tryz.f37) [1,0])]
noncomputable def Mt:Code:=ai (aj Tryz.f37) [1,0,1,1,0,1,0,0,1,1,0,0,1,0,0]
noncomputable def HT:List Fr:=[.seq (ai (aj Tryz.f37) [1,0,1,1,0,1,0,0,1,1,0,0,1,0,1]),.seq (ai (aj Tryz.f37) [1,0,1,1,0,1,0,0,1,1,0,0,1,1]),.block 1,.seq (ai (aj Tryz.f37) [1,0,1,1,0,1,0,0,1,1,1])]
def ao0:=(yB5 s k wl 37 Tryz.f37 [.u,.i 0] 2 [.mv 1 6,.mv 1 7,.mv 1 8,.al 121 9,.mv 3 12,.le 34 12 13,.mv 1 14,.lo Em [13,18] KP] 35 [a,b] h :)
def apg:=(yE5 k wl 37 Tryz.f37 [a,b] h :)
def apC:=(yZ5 P Tryz.f37 [.u] 1 [.rt [5,6,7]] (a::b::c::d::e::g::i::zz) h :)
def aen:=(rL5 s k wl 37 rd Em n0 K n [.u,.i 0,.b true,.b false,.i 6] 5 [.bo .lss 3 17 16 18,.cn 18 [.ia 34 15 17 19,.ld 52 19 20,.al 52 14,.st 52 14 20,.rg,.fa 52 14 0 21,.ld 3 21 22,.bo .lss 3 22 1 23,.mv 23 24,.gd 24 [.mv 2 24,.mv 0 25,.mv 0 26,.mv 0 27,.sg Mt 7 HT] [.mv 3 24,.fa 52 14 0 25,.ld 3 25 26,.bo .geq 3 26 4 27,.sg Mt 7 HT] [.mv 0 25,.sg Mt 5 HT]] [.kt (.exit 0) [12,19]]] [a,b,c,d,e,g,i,j,l,m,o,p,q,r,u,v,w,x,y,z,A,B,C,D,E,F,G,I,J,L,M,N,O,Q,R,S,T] h :)
def W7:=(jB5 s k wl 37 Tryz.f37 KP (.exit 0) [.u,.i 0,.i 1,.i 4] 4 [.rg,.ia 121 11 1 35,.ld 3 35 36,.ia 121 11 2 37,.ld 3 37 38,.ia 121 11 3 39,.ld 3 39 40,.mv 36 8,.mv 38 9,.mv 40 10,.rt [8,9,10]] [a,b,c,d,e,g,i,j,l,m,o,p,q,r,u,v,w,x,y,z,A,B,C,D,E,F,G,I,J,L,M,N,O,Q,R,S,T] h :)
def Xo:=(gL5 s k wl 37 rd Em n0 K n Mt 7 HT [.u,.b true,.i 1] 3 [.pk 22 1 25 26,.cn 26 [.bo .add 3 15 2 33,.mv 33 15,.nx Em [13,18]] [.fa 52 12 0 27,.ld 3 27 28,.ia 121 10 28 29,.ld 3 29 30,.bo .add 3 30 2 31,.ia 121 10 28 32,.st 3 32 31,.bo .add 3 15 2 33,.mv 33 15,.nx Em [13,18]]] [a,b,c,d,e,g,i,j,l,m,o,p,q,r,u,v,w,x,y,z,A,B,C,D,E,F,G,I,J,L,M,N,O,Q,R,S,T] h m0 ac :)
def Ed:=(yK5 cx K KP s0 :)
def El:=(yK5 cx K HT s0 :)
noncomputable def Mo:Code:=ai (aj Tryz.f39) [1,1,0,1,0,0]
noncomputable def LX:List Fr:=[.block 0,.seq (ai (aj Tryz.f39) [1,1,1])]
def apa:=(yB5 s k wl 39 Tryz.f39 [.u,.i 0] 2 [.bx 2 3,.mv 1 4,.mv 1 5,.fa 30 3 4 8,.ld 28 8 9,.le 28 9 10,.mv 1 11,.lo Mo [10,9] LX] 22 [a] h :)
def apu:=(yE5 k wl 39 Tryz.f39 [a] h :)
def aoW:=(yZ5 P Tryz.f39 [.u] 1 [.rv 3] (a::b::c::zz) h :)
def aeo:=(rL5 s k wl 39 rd Mo n0 K n [.u,.i 1] 2 [.bo .lss 3 11 10 12,.cn 12 [.ia 28 9 11 13,.ld 57 13 14,.al 57 7,.st 57 7 14,.mv 5 15,.fa 57 7 1 16,.ld 53 16 17,.le 53 17 18,.bo .add 3 15 18 19,.mv 19 5,.bo .add 3 11 1 20,.mv 20 11,.nx Mo [10,9]] [.kt (.exit 0) [9,10]]] [a,b,c,d,e,g,i,j,l,m,o,p,q,r,u,v,w,x,y,z,A,B,C] h :)
def Xk:=(jB5 s k wl 39 Tryz.f39 LX (.exit 0) [.u,.f 20,.i 0] 3 [.ld 30 4 22,.ca false true 1 [22] 23,.un .not 23 24,.cn 24 [.mv 2 5,.rv 5] [.mv 6 25,.mv 25 5,.rv 5]] [a,b,c,d,e,g,i,j,l,m,o,p,q,r,u,v,w,x,y,z,A,B,C] h :)
def Ek:=(yK5 cx K LX s0 :)
noncomputable def WS:Code:=ai (aj Tryz.f73) [1,1,0,1,0]
noncomputable def QL:Code:=ai (aj Tryz.f73) [1,1,0,1,0,0]
noncomputable def QB:Code:=ai (aj Tryz.f73) [1,1,0,1,0,1]
noncomputable def Lw:List Fr:=[.block 0,.seq (ai (aj Tryz.f73) [1,1,1])]
theorem HY:WS = .rangeFunc (.tmp 6) #[7] QL QB:=by kernel_rfl
def apx:=(yB5 s k wl 73 Tryz.f73 [.u,.f 111,.i 3] 3 [.nl 5,.al 31 6,.mv 3 8,.ca false true 1 [8,2] 9,.rf WS Lw] 28 [a] h :)
def apl:=(yE5 k wl 73 Tryz.f73 [a] h :)
def aoQ:=(yZ5 P Tryz.f73 [.u] 1 [.rv 3] (a::b::c::zz) h :)
def XD:=(jB5 s k wl 73 Tryz.f73 Lw .norm [.u] 1 [.ld 31 4 29,.mv 29 3,.rv 3] [a,b,c,d,e,g,i,j,l,m,o,p,q,r,u,v,w,x,y,z,A,B,C,D,E,F,G,I,J] h :)
def oJ:=(qF5 s k wl 73 rd K QB [.u,.i 3,.i 0,.v (.lit (.int .u8 4)),.i 1,.i 2] 6 [.mv 10 14,.le 67 14 15,.bo .eql 3 15 1 16,.cn 16 [.rg,.so 9,.ld 31 9 17,.mv 10 18,.ia 67 18 2 19,.ld 5 19 20,.bo .rem 5 20 3 21,.cv 5 3 21 22,.mv 10 23,.ia 67 23 4 24,.ld 5 24 25,.cv 5 3 25 26,.mv 10 27,.ia 67 27 5 28,.ld 5 28 29,.cv 5 46 29 30,.bu 48 [(0,22),(1,26),(2,30)] 31,.bS true 31 1 [(0,31)] 32,.ap 31 31 17 32 33,.st 31 9 33,.kf .norm] [.kf .norm]] [a,b,c,d,e,g,i,j,l,m,o,p,q,r,u,v,w,x,y,z,A,B,C,D,E,F,G,I,J] h :)
def oG:=(qF5 s k wl 73 rd K QL [.u] 1 [.mv 8 5,.kf .norm] (a::b::c::d::e::g::i::j::zz) h :)
def Ee:=(yK5 cx K Lw s0 :)
def ape:=(yB5 s k wl 74 Tryz.f74 [.u,.v (f9 Value.nilFunc)] 2 [.bx 2 4,.bx 3 5,.mv 1 6,.fn 112 [] [5,4] 7,.mv 7 6,.rv 6] 4 [a,b] h :)
def ao4:=(yE5 k wl 74 Tryz.f74 [a,b] h :)
noncomputable def JN:List Fr:=[.seq (ai (aj Tryz.f111) [1,1])]
def ahJ:=(yB5 s k wl 111 Tryz.f111 [.u,.v (f9 Value.nilFunc),.i 1] 3 [.bx 3 5,.bx 4 6,.mv 1 7,.ld 3 6 8,.bo .lss 3 8 2 9,.cn 9 [.no] [.jn JN]] 7 [a,b] h :)
def afX:=(yE5 k wl 111 Tryz.f111 [a,b] h :)
def Qk:=(jB5 s k wl 111 Tryz.f111 JN .norm [.u] 1 [.fn 152 [] [3,4] 9,.mv 9 5,.rv 5] [a,b,c,d,e,g,i,j,l] h :)
def CL:=(yK5 cx K JN s0 :)
noncomputable def FQ:Code:=ai (aj Tryz.f112) [1,0,0]
noncomputable def EO:List Fr:=[.block 0]
def agT:=(yB5 s k wl 112 Tryz.f112 [.u,.i 0] 2 [.mv 1 6,.lo FQ [5] EO] 21 [a,b,c] h :)
def agL:=(yE5 k wl 112 Tryz.f112 [a,b,c] h :)
def agP:=(yZ5 P Tryz.f112 [.u] 1 [.rt []] zz h :)
def ab1:=(rL5 s k wl 112 rd FQ n0 K n [.u,.i 5000,.f 113,.i 1] 4 [.mv 8 9,.ld 3 5 10,.mm false [10,1] 11,.bo .lss 3 9 11 12,.cn 12 [.mv 4 15,.mv 8 16,.fa 30 6 0 17,.fa 23 17 0 18,.ld 3 18 19,.fa 30 6 4 20,.ld 28 20 21,.le 28 21 22,.mv 8 23,.cv 3 46 23 24,.ca false true 2 [19,22,24] 25,.ca false true 15 [16,25] 26,.un .not 26 27,.cn 27 [.kf .ret] [.mv 8 13,.bo .add 3 13 3 14,.mv 14 8,.nx FQ [5]]] [.kt (.exit 0) [5]]] [a,b,c,d,e,g,i,j,l,m,o,p,q,r,u,v,w,x,y,z,A,B,C,D] h :)
def OT:=(jB5 s k wl 112 Tryz.f112 EO (.exit 0) [.u] 1 [.rt []] zz h :)
def BW:=(yK5 cx K EO s0 :)
noncomputable def FW:Code:=ai (aj Tryz.f113) [1,0,0]
noncomputable def CB:List Fr:=[.seq (ai (aj Tryz.f113) [1,0,1]),.seq (ai (aj Tryz.f113) [1,1])]
noncomputable def Ep:Code:=ai (aj Tryz.f113) [1,1,1,0,1,0,0]
noncomputable def Er:List Fr:=[.block 0,.seq (ai (aj Tryz.f113) [1,1,1,1])]
noncomputable def Et:Code:=ai (aj Tryz.f113) [1,1,1,1,0,1,0,0]
noncomputable def Ev:List Fr:=[.block 2,.seq (ai (aj Tryz.f113) [1,1,1,1,1])]
def ach:=(yB5 s k wl 113 Tryz.f113 [.u,.f 81,.i 21,.b true,.b false] 5 [.nl 11,.rg,.mv 5 15,.ca false true 1 [15,2] 16,.un .not 16 17,.mv 17 18,.gd 18 [.mv 3 18,.sg FW 7 CB] [.mv 4 18,.mv 6 19,.ca false true 1 [19,2] 20,.un .not 20 21,.sg FW 7 CB] [.sg FW 5 CB]] 38 [a,b,c] h :)
def abl:=(yE5 k wl 113 Tryz.f113 [a,b,c] h :)
def acb:=(yZ5 P Tryz.f113 [.u] 1 [.rv 7] (a::b::c::d::e::g::i::zz) h :)
def IG:=(gB5 s k wl 113 Tryz.f113 FW 7 CB [.u,.b true,.i 0] 3 [.pk 16 1 19 20,.cn 20 [.nl 9,.rv 9] [.nl 10,.mv 3 21,.mv 2 22,.lo Ep [20,9] Er]] [a,b,c,d,e,g,i,j,l,m,o,p,q,r,u,v,w,x,y,z,A,B,C,D,E,F,G,I,J,L,M,N,O,Q,R,S,T,U,W,X,Y] h m0 ac :)
def acm:=(rL5 s k wl 113 rd Ep n0 K n [.u,.i 0,.i 1] 3 [.bo .lss 3 22 21 23,.cn 23 [.mv 22 24,.mv 24 11,.mv 10 25,.mv 11 26,.mv 5 27,.bu 48 [(0,1),(1,26),(2,27)] 28,.bS false 31 1 [(0,28)] 29,.ap 31 31 25 29 30,.mv 30 10,.bo .add 3 22 2 31,.mv 31 22,.nx Ep [20,9]] [.kt (.exit 0) [19,10]]] [a,b,c,d,e,g,i,j,l,m,o,p,q,r,u,v,w,x,y,z,A,B,C,D,E,F,G,I,J,L,M,N,O,Q,R,S,T,U,W,X,Y] h :)
def JU:=(jB5 s k wl 113 Tryz.f113 Er (.exit 0) [.u,.i 0] 2 [.mv 3 31,.mv 1 32,.lo Et [31,9] Ev] [a,b,c,d,e,g,i,j,l,m,o,p,q,r,u,v,w,x,y,z,A,B,C,D,E,F,G,I,J,L,M,N,O,Q,R,S,T,U,W,X,Y] h :)
def ZV:=(rL5 s k wl 113 rd Et n0 K n [.u,.i 1] 2 [.bo .lss 3 32 31 33,.cn 33 [.mv 32 34,.mv 34 11,.mv 9 35,.mv 11 36,.mv 4 37,.bu 48 [(0,1),(1,36),(2,37)] 38,.bS false 31 1 [(0,38)] 39,.ap 31 31 35 39 40,.mv 40 9,.bo .add 3 32 1 41,.mv 41 32,.nx Et [31,9]] [.kt (.exit 2) [30,10]]] [a,b,c,d,e,g,i,j,l,m,o,p,q,r,u,v,w,x,y,z,A,B,C,D,E,F,G,I,J,L,M,N,O,Q,R,S,T,U,W,X,Y] h :)
def IY:=(jB5 s k wl 113 Tryz.f113 Ev (.exit 2) [.u] 1 [.mv 8 41,.mv 41 7,.rv 7] [a,b,c,d,e,g,i,j,l,m,o,p,q,r,u,v,w,x,y,z,A,B,C,D,E,F,G,I,J,L,M,N,O,Q,R,S,T,U,W,X,Y] h :)
def rF:=(yK5 cx K CB s0 :)
def rG:=(yK5 cx K Er s0 :)
def r8:=(yK5 cx K Ev s0 :)
noncomputable def Fo:Code:=ai (aj Tryz.f152) [1,0,0]
noncomputable def F7:List Fr:=[.block 0]
def adP:=(yB5 s k wl 152 Tryz.f152 [.u,.i 0] 2 [.mv 1 6,.lo Fo [6] F7] 28 [a,b,c] h :)
def ae4:=(yE5 k wl 152 Tryz.f152 [a,b,c] h :)
def adR:=(yZ5 P Tryz.f152 [.u] 1 [.rt []] zz h :)
def aal:=(rL5 s k wl 152 rd Fo n0 K n [.u] 1 [.mv 5 7,.ld 67 2 8,.le 67 8 9,.bo .lss 3 7 9 10,.cn 10 [.rg,.ld 3 3 14,.ld 67 2 15,.mv 5 16,.sl true 67 15 16 0 0 17,.le 67 17 18,.mm false [14,18] 19,.mv 19 6,.mv 1 20,.ld 67 2 21,.mv 5 22,.mv 5 23,.mv 6 24,.bo .add 3 23 24 25,.mv 5 26,.mv 6 27,.bo .add 3 26 27 28,.sl false 67 21 22 25 28 29,.ca false true 20 [29] 30,.un .not 30 31,.cn 31 [.kf .ret] [.mv 5 11,.ld 3 3 12,.bo .add 3 11 12 13,.mv 13 5,.nx Fo [6]]] [.kt (.exit 0) [6]]] [a,b,c,d,e,g,i,j,l,m,o,p,q,r,u,v,w,x,y,z,A,B,C,D,E,F,G,I,J,L,M] h :)
def Rk:=(jB5 s k wl 152 Tryz.f152 F7 (.exit 0) [.u] 1 [.rt []] zz h :)
def BJ:=(yK5 cx K F7 s0 :)
end
end Go.Ab
set_option maxRecDepth 100000
set_option linter.unusedVariables false
namespace Go.Ab
open Go.Proofs
section
variable (s:Sys) (k wl m0 n n0:Nat) (a b c d e g i j l m o p q r u v w x y z A B C D E F G I J L M N O Q R S T U W X Y Z ta tb tc td te tf tg th ti tj tk tl tm tn tp tq tr ts tt tu tv tw tx ty tz tA tB tC tD tE tF:V) (h:Hp) (ac:List Nat×List Nat) (cx:Cx) (K:Out→St→Option (V×Hp)) (s0:St) (P:Program) (zz:List V) (rd:Bool)
noncomputable def Ms:Code:=ai (aj Tryz.f40) [1,1,0]
noncomputable def Gy:List Fr:=[.seq (ai (aj Tryz.f40) [1,1,1])]
def aqR:=(yB5 s k wl 40 Tryz.f40 [.u,.b false,.f 75,.b true,.f 56] 5 [.mv 1 9,.mv 5 13,.mv 6 14,.ca false true 2 [13,14] 15,.mv 15 12,.ex 12 0 16,.ex 12 1 17,.mv 16 10,.mv 17 11,.rg,.mv 11 18,.mv 18 19,.gd 19 [.mv 3 19,.mv 5 20,.ca false true 4 [20] 21,.sg Ms 4 Gy] [.mv 1 19,.sg Ms 4 Gy] [.sg Ms 3 Gy]] 16 [a,b] h :)
def aqO:=(yE5 k wl 40 Tryz.f40 [a,b] h :)
def ad7:=(gB5 s k wl 40 Tryz.f40 Ms 4 Gy [.u,.b false] 2 [.pk 16 18 1 19,.mv 19 6,.rv 6] [a,b,c,d,e,g,i,j,l,m,o,p,q,r,u,v,w,x] h m0 ac :)
def Ox:=(yK5 cx K Gy s0 :)
noncomputable def LH:Code:=ai (aj Tryz.f75) [1,0,1,1,0,1,0,0]
noncomputable def MD:List Fr:=[.block 0,.seq (ai (aj Tryz.f75) [1,0,1,1,1]),.scope (ai (aj Tryz.f75) [1,0])]
def apf:=(yB5 s k wl 75 Tryz.f75 [.u,.b false,.f 114,.b true,.i 0] 5 [.nl 9,.mv 1 10,.mv 5 15,.ca false true 2 [15] 16,.mv 16 11,.mv 3 12,.mv 6 17,.le 34 17 18,.mv 4 19,.lo LH [15,13] MD] 28 [a,b] h :)
def apH:=(yE5 k wl 75 Tryz.f75 [a,b] h :)
def ao8:=(yZ5 P Tryz.f75 [.u] 1 [.rt [5,6]] (a::b::c::d::e::g::zz) h :)
def afJ:=(rL5 s k wl 75 rd LH n0 K n [.u,.f 115,.i 1] 3 [.bo .lss 3 17 16 18,.cn 18 [.ia 34 15 17 19,.ld 52 19 20,.al 52 12,.st 52 12 20,.mv 3 22,.mv 9 23,.ld 52 12 24,.ca false true 1 [22,23,24] 25,.mv 25 21,.ex 21 0 26,.ex 21 1 27,.mv 26 9,.mv 27 10,.mv 10 28,.un .not 28 29,.cn 29 [.kt (.exit 0) [14,14]] [.bo .add 3 17 2 30,.mv 30 17,.nx LH [15,13]]] [.kt (.exit 0) [14,14]]] [a,b,c,d,e,g,i,j,l,m,o,p,q,r,u,v,w,x,y,z,A,B,C,D,E,F,G,I,J,L] h :)
def W4:=(jB5 s k wl 75 Tryz.f75 MD (.exit 0) [.u] 1 [.mv 7 29,.mv 8 30,.mv 29 5,.mv 30 6,.rt [5,6]] [a,b,c,d,e,g,i,j,l,m,o,p,q,r,u,v,w,x,y,z,A,B,C,D,E,F,G,I,J,L] h :)
def DX:=(yK5 cx K MD s0 :)
def amV:=(yB5 s k wl 114 Tryz.f114 [.u,.f 56] 2 [.nl 4,.mv 2 5,.ca false true 1 [5] 6,.un .not 6 7,.cn 7 [.nl 4,.rv 4] [.mv 2 8,.le 24 8 9,.ms 53 9 9 10,.mv 10 4,.rv 4]] 8 [a] h :)
def anq:=(yE5 k wl 114 Tryz.f114 [a] h :)
noncomputable def E8:Code:=ai (aj Tryz.f115) [1,1,1,0,0,1,1,1,1,0]
noncomputable def CP:List Fr:=[.seq (ai (aj Tryz.f115) [1,1,1,0,0,1,1,1,1,1]),.block 0,.seq (ai (aj Tryz.f115) [1,1,1,1])]
noncomputable def pn:Code:=ai (aj Tryz.f115) [1,1,1,1,1,0,0]
noncomputable def ot:List Fr:=[.seq (ai (aj Tryz.f115) [1,1,1,1,1,0,1]),.seq (ai (aj Tryz.f115) [1,1,1,1,1,1])]
def afR:=(yB5 s k wl 115 Tryz.f115 [.u,.b false,.f 80,.f 153,.i 5,.f 154,.i 0,.b true] 8 [.bx 10 13,.nl 14,.mv 1 15,.mv 9 20,.ca false true 2 [20] 21,.mv 21 16,.fa 52 13 1 22,.ld 3 22 23,.mv 23 17,.mv 8 25,.mv 9 26,.ca false true 3 [25,26] 27,.un .not 27 28,.mv 28 24,.cn 24 [.mv 16 29,.mv 29 14,.mv 1 15,.rt [14,15]] [.fa 52 13 0 31,.ld 3 31 32,.bo .eql 3 32 4 33,.mv 33 30,.cn 30 [.mv 16 34,.mv 9 35,.ca false true 5 [35] 36,.mv 34 14,.mv 36 15,.rt [14,15]] [.rg,.mv 17 38,.bo .lss 3 38 6 39,.mv 39 40,.gd 40 [.mv 7 40,.sg E8 7 CP] [.mv 1 40,.mv 17 41,.mv 8 42,.le 24 42 43,.bo .geq 3 41 43 44,.sg E8 7 CP] [.sg E8 4 CP]]]] 70 [a,b,c] h :)
def agI:=(yE5 k wl 115 Tryz.f115 [a,b,c] h :)
def RP:=(gB5 s k wl 115 Tryz.f115 E8 7 CP [.u,.b true,.b false,.f 155] 4 [.pk 36 1 40 41,.mv 41 33,.cn 33 [.mv 12 42,.mv 42 10,.mv 2 11,.rt [10,11]] [.rg,.al 184 14,.mv 4 44,.mv 5 45,.mv 13 46,.ca true true 3 [44,45,46] 47,.fa 52 9 0 48,.so 48,.ld 3 48 49,.lk 186 47 49 true 50,.mv 50 43,.ex 43 0 51,.ex 43 1 52,.st 184 14 51,.mv 52 15,.rg,.mv 15 53,.un .not 53 54,.mv 54 55,.gd 55 [.mv 1 55,.mv 0 56,.mv 0 57,.mv 0 58,.mv 0 59,.mv 0 60,.mv 0 61,.mv 0 62,.sg pn 10 ot] [.mv 2 55,.mv 5 56,.mv 13 57,.ia 53 56 57 58,.ld 3 58 59,.fa 184 14 0 60,.ld 3 60 61,.bo .neq 3 59 61 62,.sg pn 10 ot] [.mv 0 56,.sg pn 4 ot]]] (a::b::c::d::e::g::i::j::l::m::o::p::q::r::u::v::w::x::y::z::A::B::C::D::E::F::G::I::J::L::M::N::O::Q::R::S::T::U::W::X::Y::Z::ta::tb::tc::td::te::tf::tg::th::ti::tj::tk::tl::tm::tn::tp::tq::tr::zz) h m0 ac :)
def O2:=(gB5 s k wl 115 Tryz.f115 pn 10 ot [.u,.b true,.b false] 3 [.pk 54 1 61 62,.mv 62 63,.gd 63 [.mv 1 63,.mv 0 64,.mv 0 65,.mv 0 66,.mv 0 67,.sg pn 16 ot] [.mv 2 63,.fa 184 13 2 64,.ld 32 64 65,.ca false true 65 [] 66,.un .not 66 67,.sg pn 16 ot] [.mv 0 64,.sg pn 13 ot]] (a::b::c::d::e::g::i::j::l::m::o::p::q::r::u::v::w::x::y::z::A::B::C::D::E::F::G::I::J::L::M::N::O::Q::R::S::T::U::W::X::Y::Z::ta::tb::tc::td::te::tf::tg::th::ti::tj::tk::tl::tm::tn::tp::tq::tr::ts::tt::tu::tv::tw::tx::zz) h m0 ac :)
def Se:=(gB5 s k wl 115 Tryz.f115 pn 16 ot [.u,.b true,.b false] 3 [.pk 63 1 67 68,.cn 68 [.mv 11 69,.mv 69 9,.mv 2 10,.rt [9,10]] [.mv 11 70,.mv 12 71,.fa 184 13 1 72,.ld 3 72 73,.ia 53 70 71 74,.st 3 74 73,.mv 11 75,.mv 75 9,.mv 1 10,.rt [9,10]]] (a::b::c::d::e::g::i::j::l::m::o::p::q::r::u::v::w::x::y::z::A::B::C::D::E::F::G::I::J::L::M::N::O::Q::R::S::T::U::W::X::Y::Z::ta::tb::tc::td::te::tf::tg::th::ti::tj::tk::tl::tm::tn::tp::tq::tr::ts::tt::tu::tv::tw::tx::ty::tz::tA::tB::tC::tD::tE::tF::[]) h m0 ac :)
def Br:=(yK5 cx K CP s0 :)
def BS:=(yK5 cx K ot s0 :)
noncomputable def pa:Code:=ai (aj Tryz.f153) [1,0]
noncomputable def nT:List Fr:=[.seq (ai (aj Tryz.f153) [1,1])]
def ang:=(yB5 s k wl 153 Tryz.f153 [.u,.b false,.f 56,.b true] 4 [.mv 1 8,.rg,.mv 4 9,.ca false true 2 [9] 10,.mv 10 11,.gd 11 [.mv 3 11,.mv 5 12,.le 53 12 13,.mv 4 14,.le 24 14 15,.bo .eql 3 13 15 16,.sg pa 8 nT] [.mv 1 11,.sg pa 8 nT] [.sg pa 4 nT]] 17 [a,b] h :)
def akY:=(yE5 k wl 153 Tryz.f153 [a,b] h :)
def abg:=(gB5 s k wl 153 Tryz.f153 pa 8 nT [.u,.b false,.b true,.f 55,.f 173] 5 [.pk 12 17 1 18,.mv 18 19,.gd 19 [.mv 2 19,.mv 6 20,.ca false true 3 [20,4] 21,.un .not 21 22,.sg pa 13 nT] [.mv 1 19,.mv 0 20,.mv 0 21,.mv 0 22,.sg pa 13 nT] [.mv 0 20,.sg pa 11 nT]] [a,b,c,d,e,g,i,j,l,m,o,p,q,r,u,v,w,x,y] h m0 ac :)
def abU:=(gB5 s k wl 153 Tryz.f153 pa 13 nT [.u,.b false] 2 [.pk 16 19 1 20,.mv 20 6,.rv 6] [a,b,c,d,e,g,i,j,l,m,o,p,q,r,u,v,w,x,y] h m0 ac :)
def IV:=(yK5 cx K nT s0 :)
def ajd:=(yB5 s k wl 154 Tryz.f154 [.u,.b false,.f 55,.f 174] 4 [.mv 1 6,.mv 4 7,.ca false true 2 [7,3] 8,.un .not 8 9,.mv 9 6,.rv 6] 5 [a] h :)
def aiT:=(yE5 k wl 154 Tryz.f154 [a] h :)
def agY:=(yB5 s k wl 155 Tryz.f155 [.u,.v (f9 (Value.map none)),.f 101,.i 0,.i 1,.i 3,.i 2,.f 177,.i 4] 9 [.bx 9 12,.bx 10 13,.bx 11 14,.mv 1 15,.ld 24 12 18,.ld 3 14 19,.ca false true 2 [18,19] 20,.al 3 16,.st 3 16 20,.fn 175 [] [16] 21,.mv 21 17,.mk 22,.mv 17 23,.bu 184 [(0,3),(1,4),(2,23)] 24,.is 186 22 3 24,.mv 17 25,.bu 184 [(0,3),(1,3),(2,25)] 26,.is 186 22 4 26,.fn 176 [] [16,13] 27,.bu 184 [(0,3),(1,4),(2,27)] 28,.is 186 22 5 28,.bu 184 [(0,4),(1,6),(2,7)] 29,.is 186 22 6 29,.fn 178 [] [12,14,13] 30,.bu 184 [(0,6),(1,5),(2,30)] 31,.is 186 22 8 31,.mv 22 32,.mv 32 15,.rv 15] 21 [a,b,c] h :)
def ahH:=(yE5 k wl 155 Tryz.f155 [a,b,c] h :)
noncomputable def FI:Code:=ai (aj Tryz.f173) [1,0]
noncomputable def BF:List Fr:=[.seq (ai (aj Tryz.f173) [1,1])]
def afu:=(yB5 s k wl 173 Tryz.f173 [.u,.b false,.i 0,.b true,.i 3] 5 [.mv 1 7,.rg,.mv 5 8,.bo .lss 3 8 2 9,.mv 9 10,.gd 10 [.mv 3 10,.sg FI 5 BF] [.mv 1 10,.mv 5 11,.bo .gtr 3 11 4 12,.sg FI 5 BF] [.sg FI 4 BF]] 8 [a] h :)
def ac3:=(yE5 k wl 173 Tryz.f173 [a] h :)
def Pk:=(gB5 s k wl 173 Tryz.f173 FI 5 BF [.u,.b true] 2 [.pk 7 1 9 10,.mv 10 4,.rv 4] [a,b,c,d,e,g,i,j,l] h m0 ac :)
def BR:=(yK5 cx K BF s0 :)
noncomputable def EK:Code:=ai (aj Tryz.f174) [1,0]
noncomputable def Bu:List Fr:=[.seq (ai (aj Tryz.f174) [1,1])]
def aeA:=(yB5 s k wl 174 Tryz.f174 [.u,.b false,.i 1,.b true,.i 2] 5 [.mv 1 7,.rg,.mv 5 8,.bo .eql 3 8 2 9,.mv 9 10,.gd 10 [.mv 3 10,.sg EK 5 Bu] [.mv 1 10,.mv 5 11,.bo .eql 3 11 4 12,.sg EK 5 Bu] [.sg EK 4 Bu]] 8 [a] h :)
def aer:=(yE5 k wl 174 Tryz.f174 [a] h :)
def Rj:=(gB5 s k wl 174 Tryz.f174 EK 5 Bu [.u,.b true] 2 [.pk 7 1 9 10,.mv 10 4,.rv 4] [a,b,c,d,e,g,i,j,l] h m0 ac :)
def B6:=(yK5 cx K Bu s0 :)
def aey:=(yB5 s k wl 175 Tryz.f175 [.u,.b false,.i 0] 3 [.mv 1 4,.ld 3 3 5,.bo .lss 3 5 2 6,.mv 6 4,.rv 4] 3 [a] h :)
def agX:=(yE5 k wl 175 Tryz.f175 [a] h :)
noncomputable def F8:Code:=ai (aj Tryz.f176) [1,0]
noncomputable def BI:List Fr:=[.seq (ai (aj Tryz.f176) [1,1])]
def aeq:=(yB5 s k wl 176 Tryz.f176 [.u,.b false,.i 0,.b true,.i 2] 5 [.mv 1 7,.rg,.ld 3 5 8,.bo .geq 3 8 2 9,.mv 9 10,.gd 10 [.mv 3 10,.ld 53 6 11,.ld 3 5 12,.ia 53 11 12 13,.ld 3 13 14,.bo .eql 3 14 4 15,.sg F8 8 BI] [.mv 1 10,.sg F8 8 BI] [.sg F8 4 BI]] 10 [a,b] h :)
def ad2:=(yE5 k wl 176 Tryz.f176 [a,b] h :)
def R7:=(gB5 s k wl 176 Tryz.f176 F8 8 BI [.u,.b false] 2 [.pk 7 12 1 13,.mv 13 4,.rv 4] [a,b,c,d,e,g,i,j,l,m,o,p] h m0 ac :)
def Bs:=(yK5 cx K BI s0 :)
def abm:=(yB5 s k wl 177 Tryz.f177 [.u,.b false,.b true] 3 [.mv 1 3,.mv 2 3,.rv 3] 1 [] h :)
def aaJ:=(yE5 k wl 177 Tryz.f177 [] h :)
def ahh:=(yB5 s k wl 178 Tryz.f178 [.u,.b false,.f 55] 3 [.mv 1 6,.ld 24 3 7,.ld 3 4 8,.ia 24 7 8 9,.fa 101 9 1 10,.ld 53 10 11,.fn 179 [] [5] 12,.ca false true 2 [11,12] 13,.un .not 13 14,.mv 14 6,.rv 6] 9 [a,b,c] h :)
def ag3:=(yE5 k wl 178 Tryz.f178 [a,b,c] h :)
def adj:=(yB5 s k wl 179 Tryz.f179 [.u,.b false,.i 0] 3 [.mv 1 6,.ld 53 4 7,.mv 3 8,.ia 53 7 8 9,.ld 3 9 10,.bo .eql 3 10 2 11,.mv 11 6,.rv 6] 7 [a,b] h :)
def adu:=(yE5 k wl 179 Tryz.f179 [a,b] h :)
end
end Go.Ab
set_option maxRecDepth 100000
set_option linter.unusedVariables false
namespace Go.Ab
open Go.Proofs
section
variable (s:Sys) (k wl m0:Nat) (a b c d e g i j l m o p q r u v w x y z A B C D E F G I J L M N O Q R S T U W X Y Z ta tb tc td te tf tg th ti tj tk tl tm tn tp tq tr ts tt tu tv tw tx ty tz tA tB tC tD tE tF tG tH tI tJ:V) (h:Hp) (ac:List Nat×List Nat) (zz:List V) (cx:Cx) (K:Out→St→Option (V×Hp)) (s0:St)
noncomputable def lD:Code:=ai (aj Tryz.f14) [1,1,1,1,0,0]
noncomputable def kV:List Fr:=[.seq (ai (aj Tryz.f14) [1,1,1,1,0,1]),.seq (ai (aj Tryz.f14) [1,1,1,1,1])]
noncomputable def LA:Code:=ai (aj Tryz.f14) [1,1,1,1,1,1,1,1,0]
noncomputable def Hh:List Fr:=[.seq (ai (aj Tryz.f14) [1,1,1,1,1,1,1,1,1])]
def apN:=(yB5 s k wl 14 Tryz.f14 [.u,.b false,.f 33,.f 21,.f 22,.b true] 6 [.bx 6 11,.mv 1 16,.ca false true 2 [] 26,.mv 26 17,.mv 7 27,.ca false true 3 [27] 28,.mv 28 18,.mv 8 29,.ca false true 4 [29] 30,.mv 30 19,.rg,.mv 17 31,.un .not 31 32,.mv 32 33,.gd 33 [.mv 5 33,.sg lD 5 kV] [.mv 1 33,.mv 18 34,.un .not 34 35,.sg lD 5 kV] [.sg lD 4 kV]] 72 [a,b,c,d,e] h :)
def aqD:=(yE5 k wl 14 Tryz.f14 [a,b,c,d,e] h :)
def aem:=(gB5 s k wl 14 Tryz.f14 lD 5 kV [.u,.b true,.b false] 3 [.pk 30 1 32 33,.mv 33 34,.gd 34 [.mv 1 34,.mv 0 35,.mv 0 36,.sg lD 9 kV] [.mv 2 34,.mv 16 35,.un .not 35 36,.sg lD 9 kV] [.mv 0 35,.sg lD 8 kV]] (a::b::c::d::e::g::i::j::l::m::o::p::q::r::u::v::w::x::y::z::A::B::C::D::E::F::G::I::J::L::M::N::O::Q::zz) h m0 ac :)
def aeI:=(gB5 s k wl 14 Tryz.f14 lD 9 kV [.u,.b true,.b false,.i 900] 4 [.pk 35 1 37 38,.mv 38 39,.gd 39 [.mv 1 39,.mv 0 40,.mv 0 41,.mv 0 42,.sg lD 14 kV] [.mv 2 39,.mv 7 40,.le 67 40 41,.bo .gtr 3 41 3 42,.sg lD 14 kV] [.mv 0 40,.sg lD 12 kV]] (a::b::c::d::e::g::i::j::l::m::o::p::q::r::u::v::w::x::y::z::A::B::C::D::E::F::G::I::J::L::M::N::O::Q::R::S::T::U::W::zz) h m0 ac :)
def ahe:=(gB5 s k wl 14 Tryz.f14 lD 14 kV [.u,.b true,.b false,.i 60] 4 [.pk 39 1 42 43,.mv 43 44,.gd 44 [.mv 1 44,.mv 0 45,.mv 0 46,.sg lD 18 kV] [.mv 2 44,.mv 8 45,.bo .gtr 3 45 3 46,.sg lD 18 kV] [.mv 0 45,.sg lD 17 kV]] (a::b::c::d::e::g::i::j::l::m::o::p::q::r::u::v::w::x::y::z::A::B::C::D::E::F::G::I::J::L::M::N::O::Q::R::S::T::U::W::X::Y::Z::ta::zz) h m0 ac :)
def afK:=(gB5 s k wl 14 Tryz.f14 lD 18 kV [.u,.b true,.f 34,.i 0,.f 36,.f 40,.v .nil,.b false] 8 [.pk 48 1 50 51,.cn 51 [.mv 19 52,.mv 52 18,.rv 18] [.ld 23 13 54,.mv 9 55,.mv 10 56,.mv 11 57,.ca false true 2 [54,55,56,57] 58,.mv 58 53,.ex 53 0 59,.ex 53 1 60,.ex 53 2 61,.al 30 22,.st 30 22 59,.mv 60 23,.mv 61 24,.mv 24 62,.un .not 62 63,.cn 63 [.mv 23 64,.le 34 64 65,.bo .eql 3 65 3 66,.mv 66 18,.rv 18] [.ld 30 22 68,.mv 12 69,.ca false true 4 [68,69] 70,.mv 70 67,.ex 67 0 71,.ex 67 1 72,.ex 67 2 73,.al 30 25,.st 30 25 71,.mv 72 26,.mv 73 27,.rg,.mv 9 74,.mv 23 75,.ca false true 5 [74,75] 76,.mv 76 77,.gd 77 [.mv 1 77,.mv 9 78,.mv 23 79,.ap 34 34 6 79 80,.mv 26 81,.ap 34 34 80 81 82,.ca false true 5 [78,82] 83,.sg LA 10 Hh] [.mv 7 77,.mv 0 78,.mv 0 79,.mv 0 80,.mv 0 81,.mv 0 82,.mv 0 83,.sg LA 10 Hh] [.mv 0 78,.sg LA 5 Hh]]]] (a::b::c::d::e::g::i::j::l::m::o::p::q::r::u::v::w::x::y::z::A::B::C::D::E::F::G::I::J::L::M::N::O::Q::R::S::T::U::W::X::Y::Z::ta::tb::tc::td::te::tf::tg::th::ti::tj::tk::tl::tm::tn::tp::tq::tr::ts::tt::tu::tv::tw::tx::ty::tz::tA::tB::tC::tD::tE::tF::tG::tH::tI::tJ::[]) h m0 ac :)
def afM:=(gB5 s k wl 14 Tryz.f14 LA 10 Hh [.u,.b false] 2 [.pk 71 77 1 78,.mv 78 12,.rv 12] (a::b::c::d::e::g::i::j::l::m::o::p::q::r::u::v::w::x::y::z::A::B::C::D::E::F::G::I::J::L::M::N::O::Q::R::S::T::U::W::X::Y::Z::ta::tb::tc::td::te::tf::tg::th::ti::tj::tk::tl::tm::tn::tp::tq::tr::ts::tt::tu::tv::tw::tx::ty::tz::tA::tB::tC::tD::tE::tF::tG::tH::tI::tJ::[]) h m0 ac :)
def Nl:=(yK5 cx K kV s0 :)
def NR:=(yK5 cx K Hh s0 :)
end
end Go.Ab
