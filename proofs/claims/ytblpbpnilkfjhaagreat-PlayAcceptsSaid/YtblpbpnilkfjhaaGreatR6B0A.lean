import Derived.Test.YtblpbpnilkfjhaaGreatR6Blk
import Derived.Test.YtblpbpnilkfjhaaGreatR6FacP
import Derived.Test.YtblpbpnilkfjhaaGreatR6FacS
set_option linter.unusedVariables false
set_option linter.unusedSimpArgs false
set_option linter.defProp false
set_option maxRecDepth 100000
set_option linter.unusedVariables false
namespace Go.Ab
open Go.Proofs
section
variable (s:Sys) (k wl n n0 m0:Nat) (a b c d e g i j l m o p q r u v w x y z A B C D E F G I J L M N O Q R S T U:V) (h:Hp) (P:Program) (zz:List V) (K:Out→St→Option (V×Hp)) (rd:Bool) (ac:List Nat×List Nat) (cx:Cx) (s0:St)
noncomputable def Gk:Code:=ai (aj Tryz.f21) [1,0,1,0,0]
noncomputable def K8:List Fr:=[.block 0,.seq (ai (aj Tryz.f21) [1,1])]
noncomputable def K7:Code:=ai (aj Tryz.f21) [1,0,1,0,0,0,0]
noncomputable def GP:List Fr:=[.seq (ai (aj Tryz.f21) [1,0,1,0,0,0,1]),.seq (ai (aj Tryz.f21) [1,0,1,0,0,1])]
def apv:=(yB5 s k wl 21 Tryz.f21 [.u,.b false,.i 0] 3 [.mv 1 5,.mv 2 6,.lo Gk [4,17] K8] 23 [a] h :)
def apj:=(yE5 k wl 21 Tryz.f21 [a] h :)
def ao5:=(yZ5 P Tryz.f21 [.u] 1 [.rv 3] (a::b::c::zz) h :)
def adK:=(rL5 s k wl 21 rd Gk n0 K n [.u,.b true,.i 40,.b false] 4 [.rg,.mv 7 8,.mv 4 9,.le 24 9 10,.bo .lss 3 8 10 11,.mv 11 12,.gd 12 [.mv 1 12,.mv 7 13,.bo .leq 3 13 2 14,.sg K7 7 GP] [.mv 3 12,.mv 0 13,.mv 0 14,.sg K7 7 GP] [.mv 0 13,.sg K7 6 GP]] (a::b::c::d::e::g::i::j::l::m::o::zz) h :)
def WM:=(jB5 s k wl 21 Tryz.f21 K8 (.exit 0) [.u,.i 40] 2 [.mv 2 23,.le 24 23 24,.bo .leq 3 24 1 25,.mv 25 4,.rv 4] [a,b,c,d,e,g,i,j,l,m,o,p,q,r,u,v,w,x,y,z,A,B,C,D] h :)
def W2:=(gL5 s k wl 21 rd Gk n0 K n K7 7 GP [.u,.b false,.i 40,.i 1] 4 [.pk 12 14 1 15,.cn 15 [.mv 4 18,.mv 7 19,.ia 24 18 19 20,.fa 101 20 1 21,.ld 53 21 22,.le 53 22 23,.bo .gtr 3 23 2 24,.cn 24 [.mv 1 6,.kf .ret] [.mv 7 16,.bo .add 3 16 3 17,.mv 17 7,.nx Gk [4,17]]] [.kt (.exit 0) [4,17]]] [a,b,c,d,e,g,i,j,l,m,o,p,q,r,u,v,w,x,y,z,A,B,C,D] h m0 ac :)
def Eo:=(yK5 cx K K8 s0 :)
def DC:=(yK5 cx K GP s0 :)
noncomputable def KV:Code:=ai (aj Tryz.f56) [1,0,0]
noncomputable def Gz:List Fr:=[.seq (ai (aj Tryz.f56) [1,0,1]),.seq (ai (aj Tryz.f56) [1,1])]
noncomputable def Xh:Code:=ai (aj Tryz.f56) [1,1,1,0,1,0]
noncomputable def Gu:Code:=ai (aj Tryz.f56) [1,1,1,0,1,0,0]
noncomputable def Hb:Code:=ai (aj Tryz.f56) [1,1,1,0,1,0,1]
noncomputable def Eg:List Fr:=[.block 0,.seq (ai (aj Tryz.f56) [1,1,1,1])]
noncomputable def w8:Code:=ai (aj Tryz.f56) [1,1,1,0,1,0,1,0,0,0]
noncomputable def ug:List Fr:=[.seq (ai (aj Tryz.f56) [1,1,1,0,1,0,1,0,0,1]),.seq (ai (aj Tryz.f56) [1,1,1,0,1,0,1,0,1]),.block 1]
theorem Cr:Xh = .rangeFunc (.tmp 17) #[18,19] Gu Hb:=by kernel_rfl
def aoh:=(yB5 s k wl 56 Tryz.f56 [.u,.i 30,.b true,.b false,.f 98,.f 99] 6 [.bx 6 7,.al 4 8,.rg,.ld 24 7 12,.le 24 12 13,.bo .gtr 3 13 1 14,.mv 14 15,.gd 15 [.mv 2 15,.sg KV 6 Gz] [.mv 3 15,.ld 24 7 16,.ca false true 4 [16,5] 17,.sg KV 6 Gz] [.sg KV 5 Gz]] 37 [a] h :)
def anR:=(yE5 k wl 56 Tryz.f56 [a] h :)
def alE:=(yZ5 P Tryz.f56 [.u] 1 [.ro [(some 4,3)]] (a::b::c::zz) h :)
def PI:=(gB5 s k wl 56 Tryz.f56 KV 6 Gz [.u,.b true,.b false,.f 100] 4 [.pk 13 1 15 16,.cn 16 [.st 4 6 2,.ro [(some 4,6)]] [.ld 24 5 17,.le 24 17 18,.ms 150 18 18 19,.al 150 7,.st 150 7 19,.ld 24 5 20,.ca false true 3 [20] 21,.rf Xh Eg]] (a::b::c::d::e::g::i::j::l::m::o::p::q::r::u::v::w::x::zz) h m0 ac :)
def Qj:=(jB5 s k wl 56 Tryz.f56 Eg .norm [.u,.b true] 2 [.st 4 4 1,.ro [(some 4,4)]] (a::b::c::zz) h :)
def iC:=(qF5 s k wl 56 rd K Hb [.u,.b true,.b false] 3 [.rg,.mv 7 23,.mv 8 24,.bo .leq 3 23 24 25,.mv 25 26,.gd 26 [.mv 1 26,.mv 0 27,.mv 0 28,.mv 0 29,.mv 0 30,.sg w8 8 ug] [.mv 2 26,.mv 7 27,.ld 24 4 28,.le 24 28 29,.bo .geq 3 27 29 30,.sg w8 8 ug] [.mv 0 27,.sg w8 5 ug]] (a::b::c::d::e::g::i::j::l::m::o::p::q::r::u::v::w::x::y::z::A::B::C::D::E::F::G::I::zz) h :)
def iB:=(qF5 s k wl 56 rd K Gu [.u] 1 [.mv 19 5,.mv 20 6,.kf .norm] (a::b::c::d::e::g::i::j::l::m::o::p::q::r::u::v::w::x::y::z::zz) h :)
def OY:=(gF5 s k wl 56 rd K w8 8 ug [.u,.b true,.b false] 3 [.pk 26 1 30 31,.mv 31 32,.gd 32 [.mv 1 32,.mv 0 33,.mv 0 34,.mv 0 35,.mv 0 36,.sg w8 14 ug] [.mv 2 32,.ld 150 6 33,.mv 7 34,.ia 150 33 34 35,.ld 4 35 36,.sg w8 14 ug] [.mv 0 33,.sg w8 11 ug]] (a::b::c::d::e::g::i::j::l::m::o::p::q::r::u::v::w::x::y::z::A::B::C::D::E::F::G::I::J::L::M::N::O::Q::zz) h m0 ac :)
def Sc:=(gF5 s k wl 56 rd K w8 14 ug [.u,.b true,.b false] 3 [.pk 32 1 36 37,.cn 37 [.st 4 5 2,.kf .ret] [.ld 150 6 38,.mv 7 39,.ia 150 38 39 40,.st 4 40 1,.kf .norm]] [a,b,c,d,e,g,i,j,l,m,o,p,q,r,u,v,w,x,y,z,A,B,C,D,E,F,G,I,J,L,M,N,O,Q,R,S,T,U] h m0 ac :)
def wq:=(yK5 cx K Gz s0 :)
def wH:=(yK5 cx K Eg s0 :)
def wD:=(yK5 cx K ug s0 :)
noncomputable def Dq:Code:=ai (aj Tryz.f57) [1,1,1,0,1,0,0]
noncomputable def Hh:List Fr:=[.block 0,.seq (ai (aj Tryz.f57) [1,1,1,1])]
def ady:=(yB5 s k wl 57 Tryz.f57 [.u,.f 56,.i 0] 3 [.nl 5,.mv 3 8,.ca false true 1 [8] 9,.un .not 9 10,.cn 10 [.nl 5,.rv 5] [.nl 6,.mv 3 11,.le 24 11 12,.mv 2 13,.lo Dq [11,11] Hh]] 22 [a] h :)
def ae4:=(yE5 k wl 57 Tryz.f57 [a] h :)
def af4:=(yZ5 P Tryz.f57 [.u] 1 [.rv 3] (a::b::c::zz) h :)
def ahB:=(rL5 s k wl 57 rd Dq n0 K n [.u,.f 101,.i (-1),.i 1] 4 [.bo .lss 3 14 13 15,.cn 15 [.mv 14 16,.mv 16 8,.mv 4 17,.mv 8 18,.ca false true 1 [17,18] 19,.bo .eql 3 19 2 20,.cn 20 [.mv 7 21,.mv 8 22,.bS false 53 1 [(0,22)] 23,.ap 53 53 21 23 24,.mv 24 7,.bo .add 3 14 3 25,.mv 25 14,.nx Dq [11,11]] [.bo .add 3 14 3 25,.mv 25 14,.nx Dq [11,11]]] [.kt (.exit 0) [10,12]]] [a,b,c,d,e,g,i,j,l,m,o,p,q,r,u,v,w,x,y,z,A,B,C] h :)
def Gx:=(jB5 s k wl 57 Tryz.f57 Hh (.exit 0) [.u] 1 [.mv 4 23,.mv 23 3,.rv 3] [a,b,c,d,e,g,i,j,l,m,o,p,q,r,u,v,w,x,y,z,A,B,C] h :)
def nc:=(yK5 cx K Hh s0 :)
def ahX:=(yB5 s k wl 98 Tryz.f98 [.u,.b false,.f 147,.i 0] 4 [.mv 1 8,.mv 4 9,.mv 5 10,.ca false true 2 [9,10] 11,.bo .geq 3 11 3 12,.mv 12 8,.rv 8] 7 [a,b] h :)
def ahN:=(yE5 k wl 98 Tryz.f98 [a,b] h :)
noncomputable def LZ:Code:=ai (aj Tryz.f99) [1,0]
noncomputable def Gw:List Fr:=[.seq (ai (aj Tryz.f99) [1,1])]
def ah3:=(yB5 s k wl 99 Tryz.f99 [.u,.b false,.i 0,.b true,.i 20] 5 [.bx 5 6,.mv 1 7,.rg,.fa 101 6 0 8,.ld 3 8 9,.bo .lss 3 9 2 10,.mv 10 11,.gd 11 [.mv 3 11,.sg LZ 7 Gw] [.mv 1 11,.fa 101 6 0 12,.ld 3 12 13,.bo .gtr 3 13 4 14,.sg LZ 7 Gw] [.sg LZ 5 Gw]] 10 [a] h :)
def ahO:=(yE5 k wl 99 Tryz.f99 [a] h :)
def Mo:=(gB5 s k wl 99 Tryz.f99 LZ 7 Gw [.u,.b true] 2 [.pk 8 1 11 12,.mv 12 4,.rv 4] [a,b,c,d,e,g,i,j,l,m,o] h m0 ac :)
def pX:=(yK5 cx K Gw s0 :)
def N4:=(yB5 s k wl 100 Tryz.f100 [.u,.v (f9 Value.nilFunc)] 2 [.bx 2 3,.mv 1 4,.fn 148 [] [3] 5,.mv 5 4,.rv 4] 3 [a] h :)
def Nr:=(yE5 k wl 100 Tryz.f100 [a] h :)
noncomputable def F2:Code:=ai (aj Tryz.f147) [1,0,1,0,0]
noncomputable def EB:List Fr:=[.block 0,.seq (ai (aj Tryz.f147) [1,1])]
def NQ:=(yB5 s k wl 147 Tryz.f147 [.u,.i 0] 2 [.mv 1 6,.mv 2 8,.le 24 8 9,.mv 1 10,.lo F2 [9] EB] 17 [a,b] h :)
def MN:=(yE5 k wl 147 Tryz.f147 [a,b] h :)
def Or:=(yZ5 P Tryz.f147 [.u] 1 [.rv 5] (a::b::c::d::e::zz) h :)
def aao:=(rL5 s k wl 147 rd F2 n0 K n [.u,.i 1] 2 [.bo .lss 3 10 9 11,.cn 11 [.mv 10 12,.mv 12 7,.mv 3 13,.mv 2 14,.mv 7 15,.ia 24 14 15 16,.ld 101 16 17,.ca false true 13 [17] 18,.cn 18 [.mv 7 19,.mv 19 6,.kf .ret] [.bo .add 3 10 1 20,.mv 20 10,.nx F2 [9]]] [.kt (.exit 0) [8]]] [a,b,c,d,e,g,i,j,l,m,o,p,q,r,u,v,w,x,y] h :)
def wd:=(jB5 s k wl 147 Tryz.f147 EB (.exit 0) [.u,.i (-1)] 2 [.mv 1 6,.rv 6] (a::b::c::d::e::zz) h :)
def kv:=(yK5 cx K EB s0 :)
noncomputable def mW:Code:=ai (aj Tryz.f148) [1,0,0]
noncomputable def oc:List Fr:=[.block 0]
noncomputable def B8:Code:=ai (aj Tryz.f148) [1,0,0,1,1,0,0,1,1,0,0]
noncomputable def BN:List Fr:=[.block 2,.block 1,.seq (ai (aj Tryz.f148) [1,0,0,1,1,1])]
def NU:=(yB5 s k wl 148 Tryz.f148 [.u,.i 0] 2 [.ld 24 3 9,.le 24 9 10,.mv 1 11,.lo mW [10] oc] 26 [a,b] h :)
def MS:=(yE5 k wl 148 Tryz.f148 [a,b] h :)
def MI:=(yZ5 P Tryz.f148 [.u] 1 [.rt []] zz h :)
def P3:=(rL5 s k wl 148 rd mW n0 K n [.u,.i 0] 2 [.bo .lss 3 11 10 12,.cn 12 [.mv 11 13,.ia 24 9 11 14,.ld 101 14 15,.al 101 6,.mv 13 5,.st 101 6 15,.fa 101 6 1 16,.ld 53 16 17,.le 53 17 18,.mv 1 19,.lo B8 [18,9] BN] [.kt (.exit 0) [9]]] [a,b,c,d,e,g,i,j,l,m,o,p,q,r,u,v,w,x,y,z,A,B,C,D,E,F,G,I] h :)
def wS:=(jB5 s k wl 148 Tryz.f148 oc (.exit 0) [.u] 1 [.rt []] zz h :)
def Py:=(rL5 s k wl 148 rd B8 n0 K n [.u,.i 1] 2 [.bo .lss 3 19 18 20,.cn 20 [.ia 53 17 19 21,.ld 3 21 22,.mv 22 8,.mv 2 23,.mv 8 24,.mv 5 25,.ca false true 23 [24,25] 26,.un .not 26 27,.cn 27 [.kf .ret] [.bo .add 3 19 1 28,.mv 28 19,.nx B8 [18,9]]] [.kt (.exit 2) [17,10]]] [a,b,c,d,e,g,i,j,l,m,o,p,q,r,u,v,w,x,y,z,A,B,C,D,E,F,G,I] h :)
def wj:=(jL5 s k wl 148 rd mW n0 K n BN (.exit 2) [.u,.i 1] 2 [.bo .add 3 11 1 29,.mv 29 11,.nx mW [10]] [a,b,c,d,e,g,i,j,l,m,o,p,q,r,u,v,w,x,y,z,A,B,C,D,E,F,G,I] h :)
def kA:=(yK5 cx K oc s0 :)
def kj:=(yK5 cx K BN s0 :)
noncomputable def CP:Code:=ai (aj Tryz.f97) [1,0,1,0,0]
noncomputable def Bc:List Fr:=[.block 0,.seq (ai (aj Tryz.f97) [1,1])]
def KD:=(yB5 s k wl 97 Tryz.f97 [.u,.i 0] 2 [.mv 1 6,.mv 2 8,.le 53 8 9,.mv 1 10,.lo CP [9] Bc] 17 [a,b] h :)
def Lu:=(yE5 k wl 97 Tryz.f97 [a,b] h :)
def MB:=(yZ5 P Tryz.f97 [.u] 1 [.rv 5] (a::b::c::d::e::zz) h :)
def Mx:=(rL5 s k wl 97 rd CP n0 K n [.u,.i 1] 2 [.bo .lss 3 10 9 11,.cn 11 [.mv 10 12,.mv 12 7,.mv 3 13,.mv 2 14,.mv 7 15,.ia 53 14 15 16,.ld 3 16 17,.ca false true 13 [17] 18,.cn 18 [.mv 7 19,.mv 19 6,.kf .ret] [.bo .add 3 10 1 20,.mv 20 10,.nx CP [9]]] [.kt (.exit 0) [8]]] [a,b,c,d,e,g,i,j,l,m,o,p,q,r,u,v,w,x,y] h :)
def mO:=(jB5 s k wl 97 Tryz.f97 Bc (.exit 0) [.u,.i (-1)] 2 [.mv 1 6,.rv 6] (a::b::c::d::e::zz) h :)
def cO:=(yK5 cx K Bc s0 :)
def Sf:=(yB5 s k wl 55 Tryz.f55 [.u,.b false,.f 97,.i 0] 4 [.mv 1 8,.mv 4 9,.mv 5 10,.ca false true 2 [9,10] 11,.bo .geq 3 11 3 12,.mv 12 8,.rv 8] 7 [a,b] h :)
def Sk:=(yE5 k wl 55 Tryz.f55 [a,b] h :)
def Tu:=(yB5 s k wl 52 Tryz.f52 [.u,.b false,.f 96,.i 0] 4 [.mv 1 8,.mv 4 9,.mv 5 10,.ca false true 2 [9,10] 11,.bo .geq 3 11 3 12,.mv 12 8,.rv 8] 7 [a,b] h :)
def VG:=(yE5 k wl 52 Tryz.f52 [a,b] h :)
noncomputable def Ee:Code:=ai (aj Tryz.f96) [1,0,1,0,0]
noncomputable def Dv:List Fr:=[.block 0,.seq (ai (aj Tryz.f96) [1,1])]
def Ou:=(yB5 s k wl 96 Tryz.f96 [.u,.i 0] 2 [.mv 1 6,.mv 2 8,.le 28 8 9,.mv 1 10,.lo Ee [9] Dv] 17 [a,b] h :)
def Oh:=(yE5 k wl 96 Tryz.f96 [a,b] h :)
def MR:=(yZ5 P Tryz.f96 [.u] 1 [.rv 5] (a::b::c::d::e::zz) h :)
def O8:=(rL5 s k wl 96 rd Ee n0 K n [.u,.i 1] 2 [.bo .lss 3 10 9 11,.cn 11 [.mv 10 12,.mv 12 7,.mv 3 13,.mv 2 14,.mv 7 15,.ia 28 14 15 16,.ld 57 16 17,.ca false true 13 [17] 18,.cn 18 [.mv 7 19,.mv 19 6,.kf .ret] [.bo .add 3 10 1 20,.mv 20 10,.nx Ee [9]]] [.kt (.exit 0) [8]]] [a,b,c,d,e,g,i,j,l,m,o,p,q,r,u,v,w,x,y] h :)
def nu:=(jB5 s k wl 96 Tryz.f96 Dv (.exit 0) [.u,.i (-1)] 2 [.mv 1 6,.rv 6] (a::b::c::d::e::zz) h :)
def dm:=(yK5 cx K Dv s0 :)
noncomputable def Mv:Code:=ai (aj Tryz.f61) [1,0,1,0,0]
noncomputable def K2:List Fr:=[.block 0,.seq (ai (aj Tryz.f61) [1,1])]
def apy:=(yB5 s k wl 61 Tryz.f61 [.u,.i 0] 2 [.mv 1 6,.mv 2 8,.le 53 8 9,.mv 1 10,.lo Mv [9] K2] 17 [a,b] h :)
def apm:=(yE5 k wl 61 Tryz.f61 [a,b] h :)
def aoW:=(yZ5 P Tryz.f61 [.u] 1 [.rv 5] (a::b::c::d::e::zz) h :)
def aeN:=(rL5 s k wl 61 rd Mv n0 K n [.u,.i 1] 2 [.bo .lss 3 10 9 11,.cn 11 [.mv 10 12,.mv 12 7,.mv 3 13,.mv 2 14,.mv 7 15,.ia 53 14 15 16,.ld 3 16 17,.bo .eql 3 13 17 18,.cn 18 [.mv 7 19,.mv 19 6,.kf .ret] [.bo .add 3 10 1 20,.mv 20 10,.nx Mv [9]]] [.kt (.exit 0) [8]]] [a,b,c,d,e,g,i,j,l,m,o,p,q,r,u,v,w,x,y] h :)
def WY:=(jB5 s k wl 61 Tryz.f61 K2 (.exit 0) [.u,.i (-1)] 2 [.mv 1 6,.rv 6] (a::b::c::d::e::zz) h :)
def Dz:=(yK5 cx K K2 s0 :)
noncomputable def P2:Code:=ai (aj Tryz.f101) [1,0,1,0,1,0]
noncomputable def A7:Code:=ai (aj Tryz.f101) [1,0,1,0,1,0,0]
noncomputable def CH:Code:=ai (aj Tryz.f101) [1,0,1,0,1,0,1]
noncomputable def wO:List Fr:=[.block 0,.seq (ai (aj Tryz.f101) [1,1])]
theorem wu:P2 = .rangeFunc (.tmp 10) #[11,12] A7 CH:=by kernel_rfl
def aaT:=(yB5 s k wl 101 Tryz.f101 [.u,.f 56,.f 100,.i (-1)] 4 [.bx 5 7,.al 3 8,.mv 4 11,.ca false true 1 [11] 12,.cn 12 [.mv 4 13,.ca false true 2 [13] 14,.rf P2 wO] [.st 3 8 3,.ro [(some 3,8)]]] 15 [a,b] h :)
def ace:=(yE5 k wl 101 Tryz.f101 [a,b] h :)
def aaw:=(yZ5 P Tryz.f101 [.u] 1 [.ro [(some 3,5)]] (a::b::c::d::e::zz) h :)
def IL:=(jB5 s k wl 101 Tryz.f101 wO .norm [.u,.i (-1)] 2 [.st 3 6 1,.ro [(some 3,6)]] (a::b::c::d::e::zz) h :)
def gH:=(qF5 s k wl 101 rd K CH [.u] 1 [.mv 6 14,.ld 3 4 15,.bo .eql 3 14 15 16,.cn 16 [.mv 7 17,.st 3 5 17,.kf .ret] [.kf .norm]] [a,b,c,d,e,g,i,j,l,m,o,p,q,r,u,v,w] h :)
def gG:=(qF5 s k wl 101 rd K A7 [.u] 1 [.mv 12 6,.mv 13 7,.kf .norm] (a::b::c::d::e::g::i::j::l::m::o::p::q::zz) h :)
def rU:=(yK5 cx K wO s0 :)
end
end Go.Ab
set_option maxRecDepth 100000
set_option linter.unusedVariables false
namespace Go.Ab
open Go.Proofs
section
variable (s:Sys) (k wl m0:Nat) (a b c d e g i j l m o p q r u v w x y z A B C D E F G I J L:V) (h:Hp) (ac:List Nat×List Nat) (zz:List V) (cx:Cx) (K:Out→St→Option (V×Hp)) (s0:St)
def aq2:=(yB5 s k wl 27 Tryz.f27 [.u,.v (.lit (.int .u64 0)),.f 66] 3 [.mv 1 7,.mv 3 8,.mv 4 9,.ca false true 2 [8,9] 10,.un .not 10 11,.cn 11 [.mv 1 7,.rv 7] [.mv 3 12,.mv 4 13,.ia 26 12 13 14,.ld 46 14 15,.mv 15 7,.rv 7]] 11 [a,b] h :)
def aqW:=(yE5 k wl 27 Tryz.f27 [a,b] h :)
def apO:=(yB5 s k wl 32 Tryz.f32 [.u,.i 0,.f 70] 3 [.bx 3 5,.bx 4 6,.mv 1 7,.ld 23 5 8,.ld 3 6 9,.fn 71 [] [5,6] 10,.ca false true 2 [8,9,10] 11,.mv 11 7,.rv 7] 7 [a,b] h :)
def aqT:=(yE5 k wl 32 Tryz.f32 [a,b] h :)
noncomputable def lD:Code:=ai (aj Tryz.f50) [1,0]
noncomputable def kW:List Fr:=[.seq (ai (aj Tryz.f50) [1,1])]
def apM:=(yB5 s k wl 50 Tryz.f50 [.u,.b false,.f 93,.i 1,.i 8,.b true,.i 16] 7 [.bx 7 8,.mv 1 9,.rg,.fa 23 8 0 10,.ld 3 10 11,.ca false true 2 [11,3,4] 12,.mv 12 13,.gd 13 [.mv 5 13,.fa 23 8 1 14,.ld 3 14 15,.ca false true 2 [15,3,6] 16,.sg lD 7 kW] [.mv 1 13,.sg lD 7 kW] [.sg lD 5 kW]] 29 [a] h :)
def ap2:=(yE5 k wl 50 Tryz.f50 [a] h :)
def ahk:=(gB5 s k wl 50 Tryz.f50 lD 7 kW [.u,.b false,.b true,.i 1,.i 0] 5 [.pk 11 14 1 15,.mv 15 16,.gd 16 [.mv 2 16,.fa 23 6 1 17,.ld 3 17 18,.fa 23 6 1 19,.ld 3 19 20,.bo .sub 3 20 3 21,.bo .and 3 18 21 22,.bo .eql 3 22 4 23,.sg lD 16 kW] [.mv 1 16,.mv 0 17,.mv 0 18,.mv 0 19,.mv 0 20,.mv 0 21,.mv 0 22,.mv 0 23,.sg lD 16 kW] [.mv 0 17,.sg lD 10 kW]] (a::b::c::d::e::g::i::j::l::m::o::p::q::r::u::v::w::x::y::zz) h m0 ac :)
def ae6:=(gB5 s k wl 50 Tryz.f50 lD 16 kW [.u,.b false,.b true,.f 93,.i 1,.i 16] 6 [.pk 17 24 1 25,.mv 25 26,.gd 26 [.mv 2 26,.fa 23 7 2 27,.ld 3 27 28,.ca false true 3 [28,4,5] 29,.sg lD 21 kW] [.mv 1 26,.mv 0 27,.mv 0 28,.mv 0 29,.sg lD 21 kW] [.mv 0 27,.sg lD 19 kW]] (a::b::c::d::e::g::i::j::l::m::o::p::q::r::u::v::w::x::y::z::A::B::C::D::zz) h m0 ac :)
def aeS:=(gB5 s k wl 50 Tryz.f50 lD 21 kW [.u,.b false,.b true,.f 93,.i 0,.i 4] 6 [.pk 26 29 1 30,.mv 30 31,.gd 31 [.mv 2 31,.fa 23 7 3 32,.ld 3 32 33,.ca false true 3 [33,4,5] 34,.sg lD 26 kW] [.mv 1 31,.mv 0 32,.mv 0 33,.mv 0 34,.sg lD 26 kW] [.mv 0 32,.sg lD 24 kW]] [a,b,c,d,e,g,i,j,l,m,o,p,q,r,u,v,w,x,y,z,A,B,C,D,E,F,G,I,J,L] h m0 ac :)
def agk:=(gB5 s k wl 50 Tryz.f50 lD 26 kW [.u,.b false] 2 [.pk 27 30 1 31,.mv 31 4,.rv 4] [a,b,c,d,e,g,i,j,l,m,o,p,q,r,u,v,w,x,y,z,A,B,C,D,E,F,G,I,J,L] h m0 ac :)
def Nj:=(yK5 cx K kW s0 :)
noncomputable def KS:Code:=ai (aj Tryz.f66) [1,0]
noncomputable def GX:List Fr:=[.seq (ai (aj Tryz.f66) [1,1])]
def ap5:=(yB5 s k wl 66 Tryz.f66 [.u,.b false,.i 0,.b true] 4 [.mv 1 8,.rg,.mv 5 9,.bo .geq 3 9 2 10,.mv 10 11,.gd 11 [.mv 3 11,.mv 5 12,.mv 4 13,.le 26 13 14,.bo .lss 3 12 14 15,.sg KS 7 GX] [.mv 1 11,.sg KS 7 GX] [.sg KS 4 GX]] 11 [a,b] h :)
def aq0:=(yE5 k wl 66 Tryz.f66 [a,b] h :)
def afn:=(gB5 s k wl 66 Tryz.f66 KS 7 GX [.u,.b false] 2 [.pk 9 13 1 14,.mv 14 6,.rv 6] [a,b,c,d,e,g,i,j,l,m,o,p,q] h m0 ac :)
def NS:=(yK5 cx K GX s0 :)
noncomputable def Ai:Code:=ai (aj Tryz.f69) [1,0]
noncomputable def uM:List Fr:=[.seq (ai (aj Tryz.f69) [1,1])]
def aqi:=(yB5 s k wl 69 Tryz.f69 [.u,.b false,.i 5,.b true,.f 110] 5 [.bx 5 6,.mv 1 7,.rg,.fa 55 6 0 8,.ld 3 8 9,.bo .eql 3 9 2 10,.mv 10 11,.gd 11 [.mv 3 11,.ld 55 6 12,.ca false true 4 [12] 13,.un .not 13 14,.sg Ai 7 uM] [.mv 1 11,.sg Ai 7 uM] [.sg Ai 5 uM]] 15 [a] h :)
def aqZ:=(yE5 k wl 69 Tryz.f69 [a] h :)
def afP:=(gB5 s k wl 69 Tryz.f69 Ai 7 uM [.u,.b false,.b true,.i 3] 4 [.pk 10 13 1 14,.mv 14 15,.gd 15 [.mv 2 15,.fa 55 5 1 16,.ld 3 16 17,.bo .eql 3 17 3 18,.sg Ai 12 uM] [.mv 1 15,.mv 0 16,.mv 0 17,.mv 0 18,.sg Ai 12 uM] [.mv 0 16,.sg Ai 10 uM]] [a,b,c,d,e,g,i,j,l,m,o,p,q,r,u,v] h m0 ac :)
def ags:=(gB5 s k wl 69 Tryz.f69 Ai 12 uM [.u,.b false] 2 [.pk 13 16 1 17,.mv 17 4,.rv 4] [a,b,c,d,e,g,i,j,l,m,o,p,q,r,u,v] h m0 ac :)
def NP:=(yK5 cx K uM s0 :)
noncomputable def Lf:Code:=ai (aj Tryz.f70) [1,0,0]
noncomputable def Gm:List Fr:=[.seq (ai (aj Tryz.f70) [1,0,1]),.seq (ai (aj Tryz.f70) [1,1])]
def ac1:=(yB5 s k wl 70 Tryz.f70 [.u,.i 0,.f 50,.b true,.b false,.i 1,.f 93] 7 [.bx 7 10,.mv 1 13,.rg,.ld 23 10 14,.ca false true 2 [14] 15,.un .not 15 16,.mv 16 17,.gd 17 [.mv 3 17,.sg Lf 10 Gm] [.mv 4 17,.mv 8 18,.fa 23 10 0 19,.ld 3 19 20,.bo .sub 3 20 5 21,.ca false true 6 [18,1,21] 22,.un .not 22 23,.sg Lf 10 Gm] [.sg Lf 5 Gm]] 17 [a,b,c] h :)
def acZ:=(yE5 k wl 70 Tryz.f70 [a,b,c] h :)
def En:=(gB5 s k wl 70 Tryz.f70 Lf 10 Gm [.u,.b true,.i (-1)] 3 [.pk 13 1 19 20,.cn 20 [.mv 2 9,.rv 9] [.mv 5 21,.ca false true 21 [] 22,.mv 22 9,.rv 9]] [a,b,c,d,e,g,i,j,l,m,o,p,q,r,u,v,w,x,y,z] h m0 ac :)
def l8:=(yK5 cx K Gm s0 :)
def aqG:=(yB5 s k wl 71 Tryz.f71 [.u,.i 0,.f 72,.i 2] 4 [.mv 1 6,.ld 23 4 7,.ld 3 5 8,.ca false true 2 [7,8] 9,.bo .add 3 9 3 10,.mv 10 6,.rv 6] 5 [a,b] h :)
def aqq:=(yE5 k wl 71 Tryz.f71 [a,b] h :)
def aqX:=(yB5 s k wl 72 Tryz.f72 [.u,.i 0,.i 2,.i 6,.i 3] 5 [.bx 5 7,.mv 1 9,.fa 23 7 2 10,.ld 3 10 11,.bo .mul 3 2 11 12,.bo .add 3 3 12 13,.mv 6 14,.fa 23 7 1 15,.ld 3 15 16,.bo .add 3 4 16 17,.bo .mul 3 14 17 18,.bo .add 3 13 18 19,.mv 19 9,.rv 9] 13 [a,b] h :)
def aqS:=(yE5 k wl 72 Tryz.f72 [a,b] h :)
def aq6:=(yB5 s k wl 88 Tryz.f88 [.u,.f 143] 2 [.bx 4 7,.nl 8,.mv 2 12,.mv 3 13,.fn 144 [] [7] 14,.ca false true 1 [12,13,14] 15,.mv 15 11,.ex 11 0 16,.ex 11 1 17,.mv 16 9,.mv 17 10,.mv 9 18,.mv 18 8,.rv 8] 14 [a,b,c] h :)
def aqB:=(yE5 k wl 88 Tryz.f88 [a,b,c] h :)
noncomputable def KP:Code:=ai (aj Tryz.f93) [1,0]
noncomputable def HG:List Fr:=[.seq (ai (aj Tryz.f93) [1,1])]
def ap0:=(yB5 s k wl 93 Tryz.f93 [.u,.b false,.b true] 3 [.mv 1 9,.rg,.mv 3 10,.mv 4 11,.bo .geq 3 10 11 12,.mv 12 13,.gd 13 [.mv 2 13,.mv 3 14,.mv 5 15,.bo .leq 3 14 15 16,.sg KP 7 HG] [.mv 1 13,.sg KP 7 HG] [.sg KP 5 HG]] 12 [a,b,c] h :)
def aq7:=(yE5 k wl 93 Tryz.f93 [a,b,c] h :)
def aeV:=(gB5 s k wl 93 Tryz.f93 KP 7 HG [.u,.b false] 2 [.pk 12 15 1 16,.mv 16 8,.rv 8] [a,b,c,d,e,g,i,j,l,m,o,p,q,r,u] h m0 ac :)
def NL:=(yK5 cx K HG s0 :)
def ak5:=(yB5 s k wl 103 Tryz.f103 [.u,.i 0,.f 50,.f 72] 4 [.bx 4 5,.mv 1 6,.ld 23 5 7,.ca false true 2 [7] 8,.un .not 8 9,.cn 9 [.mv 1 6,.rv 6] [.ld 23 5 10,.fa 23 5 0 11,.ld 3 11 12,.ca false true 3 [10,12] 13,.mv 13 6,.rv 6]] 9 [a] h :)
def amE:=(yE5 k wl 103 Tryz.f103 [a] h :)
def akh:=(yB5 s k wl 104 Tryz.f104 [.u] 1 [.al 55 7,.mv 1 8,.mv 2 9,.mv 3 10,.bu 55 [(0,8),(2,9),(3,10)] 11,.st 55 7 11,.ro [(some 55,7)]] 8 [a,b,c] h :)
def aj2:=(yE5 k wl 104 Tryz.f104 [a,b,c] h :)
def alC:=(yB5 s k wl 107 Tryz.f107 [.u,.i 0,.f 70] 3 [.bx 3 5,.bx 4 6,.mv 1 7,.ld 23 5 8,.ld 3 6 9,.fn 149 [] [5,6] 10,.ca false true 2 [8,9,10] 11,.mv 11 7,.rv 7] 7 [a,b] h :)
def aiX:=(yE5 k wl 107 Tryz.f107 [a,b] h :)
def anB:=(yB5 s k wl 108 Tryz.f108 [.u,.i 0,.f 70] 3 [.bx 3 5,.bx 4 6,.mv 1 7,.ld 23 5 8,.ld 3 6 9,.fn 150 [] [5,6] 10,.ca false true 2 [8,9,10] 11,.mv 11 7,.rv 7] 7 [a,b] h :)
def aoK:=(yE5 k wl 108 Tryz.f108 [a,b] h :)
def aj3:=(yB5 s k wl 109 Tryz.f109 [.u,.i 0,.f 70] 3 [.bx 3 6,.bx 4 7,.bx 5 8,.mv 1 9,.ld 23 6 10,.ld 3 7 11,.fn 151 [] [6,7,8] 12,.ca false true 2 [10,11,12] 13,.mv 13 9,.rv 9] 8 [a,b,c] h :)
def aih:=(yE5 k wl 109 Tryz.f109 [a,b,c] h :)
def an2:=(yB5 s k wl 110 Tryz.f110 [.u,.b false,.i 0] 3 [.bx 3 4,.mv 1 5,.fa 55 4 6 6,.ld 3 6 7,.bo .neq 3 7 2 8,.mv 8 5,.rv 5] 5 [a] h :)
def amv:=(yE5 k wl 110 Tryz.f110 [a] h :)
def alr:=(yB5 s k wl 138 Tryz.f138 [.u,.v (.lit (.int .u64 0)),.f 143] 3 [.bx 5 8,.nl 9,.mv 1 10,.mv 3 11,.mv 4 12,.fn 169 [] [8] 13,.ca false true 2 [11,12,13] 14,.ex 14 0 15,.ex 14 1 16,.mv 15 9,.mv 16 10,.rt [9,10]] 11 [a,b,c] h :)
def amB:=(yE5 k wl 138 Tryz.f138 [a,b,c] h :)
def YK:=(yB5 s k wl 143 Tryz.f143 [.u,.v (.lit (.int .u64 0)),.f 76,.f 66] 4 [.nl 10,.mv 1 11,.mv 4 13,.ca false true 2 [13] 14,.mv 14 12,.mv 4 15,.mv 5 16,.ca false true 3 [15,16] 17,.un .not 17 18,.cn 18 [.mv 12 19,.mv 19 10,.mv 1 11,.rt [10,11]] [.mv 12 20,.mv 5 21,.mv 6 22,.mv 4 23,.mv 5 24,.ia 26 23 24 25,.ld 46 25 26,.ca false true 22 [26] 27,.ia 26 20 21 28,.st 46 28 27,.rg,.mv 12 29,.mv 4 30,.mv 5 31,.ia 26 30 31 32,.ld 46 32 33,.mv 29 10,.mv 33 11,.rt [10,11]]] 27 [a,b,c] h :)
def XV:=(yE5 k wl 143 Tryz.f143 [a,b,c] h :)
def ajY:=(yB5 s k wl 144 Tryz.f144 [.u,.v (.lit (.int .u64 0))] 2 [.mv 1 5,.ld 46 3 6,.mv 6 5,.rv 5] 3 [a,b] h :)
def alZ:=(yE5 k wl 144 Tryz.f144 [a,b] h :)
def ai0:=(yB5 s k wl 149 Tryz.f149 [.u,.i 0,.f 72] 3 [.mv 1 5,.ld 23 3 6,.ld 3 4 7,.ca false true 2 [6,7] 8,.mv 8 5,.rv 5] 4 [a,b] h :)
def alL:=(yE5 k wl 149 Tryz.f149 [a,b] h :)
def akY:=(yB5 s k wl 150 Tryz.f150 [.u,.i 0,.f 72,.i 1] 4 [.mv 1 6,.ld 23 4 7,.ld 3 5 8,.ca false true 2 [7,8] 9,.bo .add 3 9 3 10,.mv 10 6,.rv 6] 5 [a,b] h :)
def akT:=(yE5 k wl 150 Tryz.f150 [a,b] h :)
def aiu:=(yB5 s k wl 151 Tryz.f151 [.u,.i 0,.f 72,.i 3,.i 1] 5 [.mv 1 8,.rg,.ld 23 5 9,.ld 3 6 10,.ca true true 2 [9,10] 11,.bo .add 3 11 3 12,.so 7,.ld 46 7 13,.fa 23 5 1 14,.so 14,.ld 3 14 15,.bo .sub 3 15 4 16,.cv 3 46 16 17,.bo .and 46 13 17 18,.cv 46 3 18 19,.bo .add 3 12 19 20,.mv 20 8,.rv 8] 13 [a,b,c] h :)
def aj5:=(yE5 k wl 151 Tryz.f151 [a,b,c] h :)
def ajx:=(yB5 s k wl 169 Tryz.f169 [.u,.v (.lit (.int .u64 0))] 2 [.mv 1 5,.mv 2 6,.ld 46 3 7,.bo .add 46 6 7 8,.mv 8 5,.rv 5] 5 [a,b] h :)
def aiC:=(yE5 k wl 169 Tryz.f169 [a,b] h :)
def an7:=(yB5 s k wl 191 Tryz.f191 [.u,.b false,.f 143] 3 [.bx 5 9,.bx 6 10,.nl 11,.mv 1 12,.al 4 13,.st 4 13 1,.mv 3 17,.mv 4 18,.fn 219 [] [9,13,10] 19,.ca false true 2 [17,18,19] 20,.mv 20 16,.ex 16 0 21,.ex 16 1 22,.mv 21 14,.mv 22 15,.rg,.mv 14 23,.ld 4 13 24,.mv 23 11,.mv 24 12,.rt [11,12]] 18 [a,b,c,d] h :)
def aiL:=(yE5 k wl 191 Tryz.f191 [a,b,c,d] h :)
def amL:=(yB5 s k wl 219 Tryz.f219 [.u,.v (.lit (.int .u64 0)),.b true] 3 [.mv 1 8,.mv 3 9,.ld 46 4 10,.bo .neq 46 9 10 11,.cn 11 [.mv 3 12,.mv 12 8,.rv 8] [.st 4 5 2,.ld 46 6 13,.mv 13 8,.rv 8]] 7 [a,b,c,d] h :)
def akC:=(yE5 k wl 219 Tryz.f219 [a,b,c,d] h :)
def amm:=(yB5 s k wl 222 Tryz.f222 [.u,.i 0,.i 6] 3 [.mv 1 5,.ld 46 3 6,.fa 23 4 2 7,.ld 3 7 8,.cv 3 46 8 9,.bo .rem 46 6 9 10,.cv 46 3 10 11,.bo .add 3 2 11 12,.mv 12 5,.rv 5] 8 [a,b] h :)
def akq:=(yE5 k wl 222 Tryz.f222 [a,b] h :)
def akr:=(yB5 s k wl 223 Tryz.f223 [.u,.i 0,.i 6] 3 [.mv 1 5,.rg,.fa 23 3 2 6,.ld 3 6 7,.bo .add 3 2 7 8,.ld 46 4 9,.fa 23 3 2 10,.ld 3 10 11,.cv 3 46 11 12,.bo .rem 46 9 12 13,.cv 46 3 13 14,.bo .add 3 8 14 15,.mv 15 5,.rv 5] 11 [a,b] h :)
def akM:=(yE5 k wl 223 Tryz.f223 [a,b] h :)
def ajB:=(yB5 s k wl 203 Tryz.f203 [.u,.i 0,.f 70] 3 [.bx 3 5,.bx 4 6,.mv 1 7,.ld 23 5 8,.fn 222 [] [6,5] 9,.ca false true 2 [8,1,9] 10,.mv 10 7,.rv 7] 6 [a,b] h :)
def amO:=(yE5 k wl 203 Tryz.f203 [a,b] h :)
def ajC:=(yB5 s k wl 205 Tryz.f205 [.u,.i 0,.f 70] 3 [.bx 3 5,.bx 4 6,.mv 1 7,.ld 23 5 8,.fn 223 [] [5,6] 9,.ca false true 2 [8,1,9] 10,.mv 10 7,.rv 7] 6 [a,b] h :)
def ajp:=(yE5 k wl 205 Tryz.f205 [a,b] h :)
end
end Go.Ab
set_option maxRecDepth 100000
set_option linter.unusedVariables false
namespace Go.Ab
open Go.Proofs
section
variable (s:Sys) (k wl m0 n n0:Nat) (a b c d e g i j l m o p q r u v w x y z A B C D E F G I J L M N O Q R S T U:V) (h:Hp) (ac:List Nat×List Nat) (cx:Cx) (K:Out→St→Option (V×Hp)) (s0:St) (P:Program) (zz:List V) (rd:Bool)
noncomputable def Kz:Code:=ai (aj Tryz.f31) [1,0]
noncomputable def GZ:List Fr:=[.seq (ai (aj Tryz.f31) [1,1])]
def aqd:=(yB5 s k wl 31 Tryz.f31 [.u,.b false,.i 8,.b true,.f 69] 5 [.bx 5 6,.mv 1 7,.rg,.fa 65 6 0 8,.ld 3 8 9,.bo .eql 3 9 2 10,.mv 10 11,.gd 11 [.mv 3 11,.fa 65 6 2 12,.ld 55 12 13,.ca false true 4 [13] 14,.sg Kz 7 GZ] [.mv 1 11,.sg Kz 7 GZ] [.sg Kz 5 GZ]] 10 [a] h :)
def apR:=(yE5 k wl 31 Tryz.f31 [a] h :)
def af8:=(gB5 s k wl 31 Tryz.f31 Kz 7 GZ [.u,.b false] 2 [.pk 8 11 1 12,.mv 12 4,.rv 4] [a,b,c,d,e,g,i,j,l,m,o] h m0 ac :)
def Nn:=(yK5 cx K GZ s0 :)
def amN:=(yB5 s k wl 106 Tryz.f106 [.u,.i 0] 2 [.mv 1 6,.mv 2 7,.mv 3 8,.bo .sub 46 7 8 9,.cv 46 3 9 10,.mv 10 6,.rv 6] 7 [a,b] h :)
def aoB:=(yE5 k wl 106 Tryz.f106 [a,b] h :)
noncomputable def ED:Code:=ai (aj Tryz.f161) [1,0,0]
noncomputable def B6:List Fr:=[.seq (ai (aj Tryz.f161) [1,0,1]),.seq (ai (aj Tryz.f161) [1,1])]
def ai6:=(yB5 s k wl 161 Tryz.f161 [.u,.i 0,.i 2,.b true,.b false,.f 81] 6 [.mv 1 12,.rg,.mv 8 14,.bo .lss 3 14 2 15,.mv 15 16,.gd 16 [.mv 3 16,.sg ED 7 B6] [.mv 4 16,.mv 7 17,.mv 8 18,.ca false true 5 [17,18] 19,.un .not 19 20,.sg ED 7 B6] [.sg ED 4 B6]] 26 [a,b,c] h :)
def akb:=(yE5 k wl 161 Tryz.f161 [a,b,c] h :)
def Zz:=(gB5 s k wl 161 Tryz.f161 ED 7 B6 [.u,.b true,.i (-1),.v (.lit (.int .u64 1))] 4 [.pk 14 1 18 19,.cn 19 [.mv 2 10,.rv 10] [.mv 6 20,.cv 3 46 20 21,.mv 21 11,.mv 5 22,.cv 3 46 22 23,.bo .add 46 23 3 24,.mv 4 25,.mv 11 26,.bo .sub 46 26 3 27,.bo .rem 46 25 27 28,.bo .add 46 24 28 29,.mv 11 30,.bo .rem 46 29 30 31,.cv 46 3 31 32,.mv 32 10,.rv 10]] [a,b,c,d,e,g,i,j,l,m,o,p,q,r,u,v,w,x,y,z,A,B,C,D,E,F,G,I,J] h m0 ac :)
def Ix:=(yK5 cx K B6 s0 :)
def anj:=(yB5 s k wl 192 Tryz.f192 [.u,.v (.lit (.int .u64 0)),.v (.lit (.int .u64 65535))] 3 [.mv 1 5,.mv 3 6,.bo .and 46 6 2 7,.mv 7 5,.rv 5] 4 [a] h :)
def alc:=(yE5 k wl 192 Tryz.f192 [a] h :)
noncomputable def PS:Code:=ai (aj Tryz.f195) [1,0,1,0]
noncomputable def Jf:Code:=ai (aj Tryz.f195) [1,0,1,0,0]
noncomputable def IO:Code:=ai (aj Tryz.f195) [1,0,1,0,1]
noncomputable def FQ:List Fr:=[.block 0,.seq (ai (aj Tryz.f195) [1,1])]
theorem DG:PS = .rangeFunc (.tmp 5) #[6] Jf IO:=by kernel_rfl
def agQ:=(yB5 s k wl 195 Tryz.f195 [.u,.f 220] 2 [.al 3 4,.mv 2 6,.ca false true 1 [6] 7,.rf PS FQ] 7 [a] h :)
def ag6:=(yE5 k wl 195 Tryz.f195 [a] h :)
def ahe:=(yZ5 P Tryz.f195 [.u] 1 [.ro [(some 3,3)]] (a::b::c::zz) h :)
def Rh:=(jB5 s k wl 195 Tryz.f195 FQ .norm [.u,.i (-1)] 2 [.st 3 4 1,.ro [(some 3,4)]] (a::b::c::zz) h :)
def pn:=(qF5 s k wl 195 rd K IO [.u] 1 [.mv 4 8,.st 3 3 8,.kf .ret] [a,b,c,d,e,g,i,j] h :)
def pp:=(qF5 s k wl 195 rd K Jf [.u] 1 [.mv 7 4,.kf .norm] [a,b,c,d,e,g,i,j] h :)
def Br:=(yK5 cx K FQ s0 :)
def anN:=(yB5 s k wl 213 Tryz.f213 [.u,.v (.lit (.int .u64 0)),.v (.lit (.int .u64 16))] 3 [.mv 1 5,.mv 3 6,.bo .shr 46 6 2 7,.mv 7 5,.rv 5] 4 [a] h :)
def akQ:=(yE5 k wl 213 Tryz.f213 [a] h :)
noncomputable def EI:Code:=ai (aj Tryz.f214) [1,0,0]
noncomputable def CV:List Fr:=[.seq (ai (aj Tryz.f214) [1,0,1]),.seq (ai (aj Tryz.f214) [1,1])]
def amX:=(yB5 s k wl 214 Tryz.f214 [.u,.v (.lit (.int .u64 0)),.i 0,.b true,.b false,.i 16] 6 [.mv 1 10,.rg,.mv 7 11,.bo .lss 3 11 2 12,.mv 12 13,.gd 13 [.mv 3 13,.sg EI 5 CV] [.mv 4 13,.mv 7 14,.bo .geq 3 14 5 15,.sg EI 5 CV] [.sg EI 4 CV]] 14 [a,b] h :)
def am3:=(yE5 k wl 214 Tryz.f214 [a,b] h :)
def Zc:=(gB5 s k wl 214 Tryz.f214 EI 5 CV [.u,.b true,.v (.lit (.int .u64 1))] 3 [.pk 10 1 12 13,.cn 13 [.mv 3 14,.mv 14 7,.rv 7] [.mv 3 15,.mv 4 16,.bo .shl 46 2 16 17,.bo .or 46 15 17 18,.mv 18 7,.rv 7]] [a,b,c,d,e,g,i,j,l,m,o,p,q,r,u,v] h m0 ac :)
def Ja:=(yK5 cx K CV s0 :)
def alv:=(yB5 s k wl 216 Tryz.f216 [.u,.v (.lit (.int .u64 0)),.i 0,.f 192,.f 213,.v (.lit (.int .u64 1)),.f 233,.f 195] 8 [.mv 1 10,.mv 2 11,.mv 8 13,.ca false true 3 [13] 14,.mv 14 12,.mv 8 15,.ca false true 4 [15] 16,.bo .add 46 16 5 17,.mv 12 18,.mv 12 19,.bo .sub 46 19 5 20,.bo .and 46 18 20 21,.ca false true 6 [17,21] 22,.mv 12 23,.ca false true 7 [23] 24,.mv 22 10,.mv 24 11,.rt [10,11]] 16 [a] h :)
def alu:=(yE5 k wl 216 Tryz.f216 [a] h :)
def aiB:=(yB5 s k wl 218 Tryz.f218 [.u,.v (.lit (.int .u64 0)),.f 213,.v (.lit (.int .u64 1)),.f 233] 5 [.mv 1 7,.mv 5 8,.ca false true 2 [8] 9,.bo .add 46 9 3 10,.ca false true 4 [10,1] 11,.mv 11 7,.rv 7] 6 [a] h :)
def am7:=(yE5 k wl 218 Tryz.f218 [a] h :)
def afi:=(yB5 s k wl 220 Tryz.f220 [.u,.v (f9 Value.nilFunc)] 2 [.bx 2 3,.mv 1 4,.fn 234 [] [3] 5,.mv 5 4,.rv 4] 3 [a] h :)
def afd:=(yE5 k wl 220 Tryz.f220 [a] h :)
def ame:=(yB5 s k wl 233 Tryz.f233 [.u,.v (.lit (.int .u64 0)),.v (.lit (.int .u64 16)),.v (.lit (.int .u64 65535))] 4 [.mv 1 8,.mv 4 9,.bo .shl 46 9 2 10,.mv 5 11,.bo .and 46 11 3 12,.bo .or 46 10 12 13,.mv 13 8,.rv 8] 8 [a,b] h :)
def ais:=(yE5 k wl 233 Tryz.f233 [a,b] h :)
noncomputable def BY:Code:=ai (aj Tryz.f234) [1,0,0]
noncomputable def FJ:List Fr:=[.block 0]
noncomputable def Fb:Code:=ai (aj Tryz.f234) [1,0,0,1,1,0,0,1,0]
noncomputable def B2:List Fr:=[.seq (ai (aj Tryz.f234) [1,0,0,1,1,0,0,1,1]),.block 1,.seq (ai (aj Tryz.f234) [1,0,0,1,1,1])]
def afe:=(yB5 s k wl 234 Tryz.f234 [.u,.i 0] 2 [.mv 1 6,.lo BY [5] FJ] 17 [a,b] h :)
def ae8:=(yE5 k wl 234 Tryz.f234 [a,b] h :)
def afI:=(yZ5 P Tryz.f234 [.u] 1 [.rt []] zz h :)
def YM:=(rL5 s k wl 234 rd BY n0 K n [.u,.i 16,.v (.lit (.int .u64 1)),.b true,.b false] 5 [.bo .lss 3 9 1 10,.cn 10 [.mv 9 11,.mv 11 8,.rg,.ld 46 6 12,.mv 8 13,.bo .shr 46 12 13 14,.bo .and 46 14 2 15,.bo .eql 46 15 2 16,.mv 16 17,.gd 17 [.mv 3 17,.mv 5 18,.mv 8 19,.ca false true 18 [19] 20,.un .not 20 21,.sg Fb 10 B2] [.mv 4 17,.mv 0 18,.mv 0 19,.mv 0 20,.mv 0 21,.sg Fb 10 B2] [.mv 0 18,.sg Fb 7 B2]] [.kt (.exit 0) [4]]] [a,b,c,d,e,g,i,j,l,m,o,p,q,r,u,v,w,x,y] h :)
def OV:=(jB5 s k wl 234 Tryz.f234 FJ (.exit 0) [.u] 1 [.rt []] zz h :)
def QR:=(gL5 s k wl 234 rd BY n0 K n Fb 10 B2 [.u,.b false,.i 1] 3 [.pk 15 19 1 20,.cn 20 [.kf .ret] [.bo .add 3 7 2 21,.mv 21 7,.nx BY [5]]] [a,b,c,d,e,g,i,j,l,m,o,p,q,r,u,v,w,x,y] h m0 ac :)
def By:=(yK5 cx K FJ s0 :)
def A5:=(yK5 cx K B2 s0 :)
def an0:=(yB5 s k wl 193 Tryz.f193 [.u] 1 [.bx 1 4,.al 55 7,.fa 55 4 0 8,.ld 3 8 9,.fa 55 4 2 10,.ld 3 10 11,.mv 3 12,.mv 2 13,.bu 55 [(0,9),(2,11),(3,12),(6,13)] 14,.st 55 7 14,.ro [(some 55,7)]] 11 [a,b,c] h :)
def akP:=(yE5 k wl 193 Tryz.f193 [a,b,c] h :)
end
end Go.Ab
set_option maxRecDepth 100000
set_option linter.unusedVariables false
namespace Go.Ab
open Go.Proofs
section
variable (s:Sys) (k wl m0 n n0:Nat) (a b c d e g i j l m o p q r u v w x y z A B C D E F G I J L M N O Q R S T U W X Y Z ta tb tc td te tf tg th ti tj tk tl tm tn tp tq tr:V) (h:Hp) (ac:List Nat×List Nat) (zz:List V) (cx:Cx) (K:Out→St→Option (V×Hp)) (s0:St) (P:Program) (rd:Bool)
noncomputable def cA:Code:=ai (aj Tryz.f188) [1,0]
noncomputable def cp:List Fr:=[.seq (ai (aj Tryz.f188) [1,1])]
def alX:=(yB5 s k wl 188 Tryz.f188 [.u,.b false,.f 50,.b true,.f 103] 5 [.bx 5 10,.bx 7 12,.mv 1 15,.rg,.ld 23 10 16,.ca false true 2 [16] 17,.mv 17 18,.gd 18 [.mv 3 18,.mv 6 19,.le 26 19 20,.ld 23 10 21,.ca false true 4 [21] 22,.bo .eql 3 20 22 23,.sg cA 8 cp] [.mv 1 18,.sg cA 8 cp] [.sg cA 4 cp]] 49 [a,b,c,d,e] h :)
def aoC:=(yE5 k wl 188 Tryz.f188 [a,b,c,d,e] h :)
def aat:=(gB5 s k wl 188 Tryz.f188 cA 8 cp [.u,.b false,.b true,.f 110] 4 [.pk 17 22 1 23,.mv 23 24,.gd 24 [.mv 2 24,.ld 55 11 25,.ca false true 3 [25] 26,.un .not 26 27,.sg cA 13 cp] [.mv 1 24,.mv 0 25,.mv 0 26,.mv 0 27,.sg cA 13 cp] [.mv 0 25,.sg cA 11 cp]] (a::b::c::d::e::g::i::j::l::m::o::p::q::r::u::v::w::x::y::z::A::B::C::D::zz) h m0 ac :)
def Zp:=(gB5 s k wl 188 Tryz.f188 cA 13 cp [.u,.b false,.b true,.i 0] 4 [.pk 24 27 1 28,.mv 28 29,.gd 29 [.mv 2 29,.fa 55 11 2 30,.ld 3 30 31,.bo .geq 3 31 3 32,.sg cA 18 cp] [.mv 1 29,.mv 0 30,.mv 0 31,.mv 0 32,.sg cA 18 cp] [.mv 0 30,.sg cA 16 cp]] (a::b::c::d::e::g::i::j::l::m::o::p::q::r::u::v::w::x::y::z::A::B::C::D::E::F::G::I::J::zz) h m0 ac :)
def Ym:=(gB5 s k wl 188 Tryz.f188 cA 18 cp [.u,.b false,.b true] 3 [.pk 28 31 1 32,.mv 32 33,.gd 33 [.mv 2 33,.fa 55 10 2 34,.ld 3 34 35,.fa 23 8 0 36,.ld 3 36 37,.bo .lss 3 35 37 38,.sg cA 25 cp] [.mv 1 33,.mv 0 34,.mv 0 35,.mv 0 36,.mv 0 37,.mv 0 38,.sg cA 25 cp] [.mv 0 34,.sg cA 21 cp]] (a::b::c::d::e::g::i::j::l::m::o::p::q::r::u::v::w::x::y::z::A::B::C::D::E::F::G::I::J::L::M::N::O::Q::R::S::zz) h m0 ac :)
def X6:=(gB5 s k wl 188 Tryz.f188 cA 25 cp [.u,.b false,.b true] 3 [.pk 33 38 1 39,.mv 39 40,.gd 40 [.mv 2 40,.fa 55 10 0 41,.ld 3 41 42,.mv 6 43,.bo .eql 3 42 43 44,.sg cA 31 cp] [.mv 1 40,.mv 0 41,.mv 0 42,.mv 0 43,.mv 0 44,.sg cA 31 cp] [.mv 0 41,.sg cA 28 cp]] (a::b::c::d::e::g::i::j::l::m::o::p::q::r::u::v::w::x::y::z::A::B::C::D::E::F::G::I::J::L::M::N::O::Q::R::S::T::U::W::X::Y::Z::zz) h m0 ac :)
def Zg:=(gB5 s k wl 188 Tryz.f188 cA 31 cp [.u,.b false,.b true,.i 0] 4 [.pk 41 45 1 46,.mv 46 47,.gd 47 [.mv 2 47,.fa 55 11 1 48,.ld 3 48 49,.bo .geq 3 49 3 50,.sg cA 36 cp] [.mv 1 47,.mv 0 48,.mv 0 49,.mv 0 50,.sg cA 36 cp] [.mv 0 48,.sg cA 34 cp]] (a::b::c::d::e::g::i::j::l::m::o::p::q::r::u::v::w::x::y::z::A::B::C::D::E::F::G::I::J::L::M::N::O::Q::R::S::T::U::W::X::Y::Z::ta::tb::tc::td::te::zz) h m0 ac :)
def Y8:=(gB5 s k wl 188 Tryz.f188 cA 36 cp [.u,.b false,.b true] 3 [.pk 46 49 1 50,.mv 50 51,.gd 51 [.mv 2 51,.fa 55 10 1 52,.ld 3 52 53,.mv 7 54,.bo .lss 3 53 54 55,.sg cA 42 cp] [.mv 1 51,.mv 0 52,.mv 0 53,.mv 0 54,.mv 0 55,.sg cA 42 cp] [.mv 0 52,.sg cA 39 cp]] [a,b,c,d,e,g,i,j,l,m,o,p,q,r,u,v,w,x,y,z,A,B,C,D,E,F,G,I,J,L,M,N,O,Q,R,S,T,U,W,X,Y,Z,ta,tb,tc,td,te,tf,tg,th,ti,tj,tk,tl] h m0 ac :)
def aaY:=(gB5 s k wl 188 Tryz.f188 cA 42 cp [.u,.b false] 2 [.pk 50 54 1 55,.mv 55 12,.rv 12] [a,b,c,d,e,g,i,j,l,m,o,p,q,r,u,v,w,x,y,z,A,B,C,D,E,F,G,I,J,L,M,N,O,Q,R,S,T,U,W,X,Y,Z,ta,tb,tc,td,te,tf,tg,th,ti,tj,tk,tl] h m0 ac :)
def IY:=(yK5 cx K cp s0 :)
noncomputable def eu:Code:=ai (aj Tryz.f189) [1,1,0]
noncomputable def dY:List Fr:=[.seq (ai (aj Tryz.f189) [1,1,1])]
def al0:=(yB5 s k wl 189 Tryz.f189 [.u,.b false,.f 190,.b true,.f 50] 5 [.bx 5 8,.bx 7 10,.mv 1 11,.rg,.ca true true 2 [] 15,.fa 55 10 0 16,.so 16,.ld 3 16 17,.lk 212 15 17 true 18,.mv 18 14,.ex 14 0 19,.ex 14 1 20,.mv 19 12,.mv 20 13,.rg,.mv 13 21,.mv 21 22,.gd 22 [.mv 3 22,.ld 23 8 23,.ca false true 4 [23] 24,.sg eu 4 dY] [.mv 1 22,.sg eu 4 dY] [.sg eu 3 dY]] 40 [a,b,c] h :)
def aoD:=(yE5 k wl 189 Tryz.f189 [a,b,c] h :)
def acF:=(gB5 s k wl 189 Tryz.f189 eu 4 dY [.u,.b false,.b true,.f 103] 4 [.pk 21 23 1 24,.mv 24 25,.gd 25 [.mv 2 25,.mv 5 26,.le 26 26 27,.ld 23 7 28,.ca false true 3 [28] 29,.bo .eql 3 27 29 30,.sg eu 11 dY] [.mv 1 25,.mv 0 26,.mv 0 27,.mv 0 28,.mv 0 29,.mv 0 30,.sg eu 11 dY] [.mv 0 26,.sg eu 7 dY]] (a::b::c::d::e::g::i::j::l::m::o::p::q::r::u::v::w::x::y::z::A::B::C::D::E::F::G::zz) h m0 ac :)
def aaH:=(gB5 s k wl 189 Tryz.f189 eu 11 dY [.u,.b false,.b true,.f 110] 4 [.pk 25 30 1 31,.mv 31 32,.gd 32 [.mv 2 32,.ld 55 9 33,.ca false true 3 [33] 34,.un .not 34 35,.sg eu 16 dY] [.mv 1 32,.mv 0 33,.mv 0 34,.mv 0 35,.sg eu 16 dY] [.mv 0 33,.sg eu 14 dY]] (a::b::c::d::e::g::i::j::l::m::o::p::q::r::u::v::w::x::y::z::A::B::C::D::E::F::G::I::J::L::M::N::zz) h m0 ac :)
def Zo:=(gB5 s k wl 189 Tryz.f189 eu 16 dY [.u,.b false,.b true,.i 0] 4 [.pk 32 35 1 36,.mv 36 37,.gd 37 [.mv 2 37,.fa 55 9 1 38,.ld 3 38 39,.bo .geq 3 39 3 40,.sg eu 21 dY] [.mv 1 37,.mv 0 38,.mv 0 39,.mv 0 40,.sg eu 21 dY] [.mv 0 38,.sg eu 19 dY]] (a::b::c::d::e::g::i::j::l::m::o::p::q::r::u::v::w::x::y::z::A::B::C::D::E::F::G::I::J::L::M::N::O::Q::R::S::T::zz) h m0 ac :)
def aaQ:=(gB5 s k wl 189 Tryz.f189 eu 21 dY [.u,.b false,.b true,.i 2] 4 [.pk 37 40 1 41,.mv 41 42,.gd 42 [.mv 2 42,.fa 55 9 1 43,.ld 3 43 44,.bo .leq 3 44 3 45,.sg eu 26 dY] [.mv 1 42,.mv 0 43,.mv 0 44,.mv 0 45,.sg eu 26 dY] [.mv 0 43,.sg eu 24 dY]] [a,b,c,d,e,g,i,j,l,m,o,p,q,r,u,v,w,x,y,z,A,B,C,D,E,F,G,I,J,L,M,N,O,Q,R,S,T,U,W,X,Y,Z,ta] h m0 ac :)
def ZG:=(gB5 s k wl 189 Tryz.f189 eu 26 dY [.u,.b false] 2 [.pk 40 43 1 44,.mv 44 8,.rv 8] [a,b,c,d,e,g,i,j,l,m,o,p,q,r,u,v,w,x,y,z,A,B,C,D,E,F,G,I,J,L,M,N,O,Q,R,S,T,U,W,X,Y,Z,ta] h m0 ac :)
def Jd:=(yK5 cx K dY s0 :)
def ad2:=(yB5 s k wl 190 Tryz.f190 [.u,.v (f9 (Value.map none)),.i 6,.f 215,.i 7,.f 217] 6 [.mv 1 6,.mk 7,.is 212 7 2 3,.is 212 7 4 5,.mv 7 8,.mv 8 6,.rv 6] 3 [] h :)
def afQ:=(yE5 k wl 190 Tryz.f190 [] h :)
noncomputable def EG:Code:=ai (aj Tryz.f194) [1,0,1,0,0]
noncomputable def FP:List Fr:=[.block 0,.seq (ai (aj Tryz.f194) [1,1])]
def ahw:=(yB5 s k wl 194 Tryz.f194 [.u,.i 0] 2 [.bx 2 5,.nl 8,.mv 4 11,.le 53 11 12,.mv 1 13,.lo EG [12,9] FP] 19 [a,b,c] h :)
def adC:=(yE5 k wl 194 Tryz.f194 [a,b,c] h :)
def adT:=(yZ5 P Tryz.f194 [.u] 1 [.rv 7] (a::b::c::d::e::g::i::zz) h :)
def Z2:=(rL5 s k wl 194 rd EG n0 K n [.u,.f 32,.f 88,.v (.lit (.int .u64 1)),.i 1] 5 [.bo .lss 3 16 15 17,.cn 17 [.ia 53 14 16 18,.ld 3 18 19,.mv 19 13,.mv 6 20,.ld 23 8 21,.mv 13 22,.ca false true 1 [21,22] 23,.ca false true 2 [20,23,3] 24,.mv 24 6,.bo .add 3 16 4 25,.mv 25 16,.nx EG [12,9]] [.kt (.exit 0) [11,10]]] [a,b,c,d,e,g,i,j,l,m,o,p,q,r,u,v,w,x,y,z,A,B] h :)
def PP:=(jB5 s k wl 194 Tryz.f194 FP (.exit 0) [.u] 1 [.mv 2 22,.mv 22 7,.rv 7] [a,b,c,d,e,g,i,j,l,m,o,p,q,r,u,v,w,x,y,z,A,B] h :)
def Bm:=(yK5 cx K FP s0 :)
noncomputable def Fo:List Fr:=[.seq (ai (aj Tryz.f207) [1,1,1,1])]
def akk:=(yB5 s k wl 207 Tryz.f207 [.u,.f 76,.f 188,.i 0,.i 4] 5 [.bx 5 8,.bx 7 10,.nl 11,.al 55 12,.rg,.so 10,.ld 55 10 15,.so 8,.ld 23 8 16,.mv 6 17,.ca true true 1 [17] 18,.bu 235 [(0,15),(1,16),(2,18)] 19,.bx 19 20,.mv 20 13,.mv 13 21,.fn 224 [21] [] 22,.mv 13 23,.fn 225 [23] [] 24,.mv 13 25,.fn 226 [25] [] 26,.mv 13 27,.fn 227 [27] [] 28,.bu 236 [(0,22),(1,24),(2,26),(3,28)] 29,.al 236 14,.st 236 14 29,.ld 23 8 30,.mv 6 31,.ld 55 10 32,.ca false true 2 [30,31,32,3,4] 33,.cn 33 [.fa 55 10 1 34,.ld 3 34 35,.ia 236 14 35 36,.ld 1 36 37,.ca false true 37 [] 38,.jn Fo] [.jn Fo]] 39 [a,b,c] h :)
def akc:=(yE5 k wl 207 Tryz.f207 [a,b,c] h :)
def acx:=(jB5 s k wl 207 Tryz.f207 Fo .norm [.u] 1 [.rg,.mv 9 35,.nk 35 36,.fa 235 36 2 37,.ld 26 37 38,.mv 9 39,.nk 39 40,.fa 235 40 0 41,.ld 55 41 42,.mv 38 7,.st 55 8 42,.ro [(none,7),(some 55,8)]] [a,b,c,d,e,g,i,j,l,m,o,p,q,r,u,v,w,x,y,z,A,B,C,D,E,F,G,I,J,L,M,N,O,Q,R,S,T,U,W,X,Y,Z] h :)
def Kq:=(yK5 cx K Fo s0 :)
def ajk:=(yB5 s k wl 208 Tryz.f208 [.u,.f 76,.f 188,.i 1,.i 7,.f 107,.f 108,.i 0,.f 27,.v (.lit (.int .u64 1)),.f 88,.i 2,.f 106,.i 6,.i 3,.f 109,.f 193,.i 4,.b false,.f 191,.i 5,.v (.lit (.int .u64 0))] 22 [.bx 22 25,.bx 24 27,.nl 28,.al 55 29,.mv 23 36,.ca false true 1 [36] 37,.al 26 30,.st 26 30 37,.ld 23 25 38,.mv 23 39,.ld 55 27 40,.ca false true 2 [38,39,40,3,4] 41,.un .not 41 42,.cn 42 [.rg,.ld 26 30 43,.ld 55 27 44,.mv 43 28,.st 55 29 44,.ro [(none,28),(some 55,29)]] [.rg,.al 3 32,.ld 23 25 45,.fa 55 27 2 46,.ld 3 46 47,.ca true true 5 [45,47] 48,.so 25,.ld 23 25 49,.fa 55 27 2 50,.so 50,.ld 3 50 51,.ca true true 6 [49,51] 52,.mv 48 31,.st 3 32 52,.fn 228 [] [30,32,27] 53,.mv 53 33,.fa 55 27 1 54,.ld 3 54 55,.bo .add 3 55 3 56,.mv 56 34,.fa 55 27 1 57,.ld 3 57 58,.bo .eql 3 58 7 60,.mv 60 59,.cn 59 [.ld 26 30 61,.ld 3 32 62,.ca false true 8 [61,62] 63,.bo .sub 46 63 9 64,.fa 55 27 4 65,.st 46 65 64,.mv 34 133,.fa 55 27 1 134,.st 3 134 133,.rg,.ld 26 30 135,.ld 55 27 136,.mv 135 28,.st 55 29 136,.ro [(none,28),(some 55,29)]] [.bo .eql 3 58 3 67,.mv 67 66,.cn 66 [.ld 26 30 68,.ld 3 32 69,.fa 55 27 4 70,.ld 46 70 71,.ca false true 10 [68,69,71] 72,.st 26 30 72,.mv 34 133,.fa 55 27 1 134,.st 3 134 133,.rg,.ld 26 30 135,.ld 55 27 136,.mv 135 28,.st 55 29 136,.ro [(none,28),(some 55,29)]] [.bo .eql 3 58 11 74,.mv 74 73,.cn 73 [.ld 26 30 75,.mv 31 76,.ca false true 8 [75,76] 77,.fa 55 27 5 78,.st 46 78 77,.fa 55 27 4 79,.ld 46 79 80,.fa 55 27 5 81,.ld 46 81 82,.ca false true 12 [80,82] 83,.bo .lss 3 83 7 84,.cn 84 [.mv 13 34,.mv 34 133,.fa 55 27 1 134,.st 3 134 133,.rg,.ld 26 30 135,.ld 55 27 136,.mv 135 28,.st 55 29 136,.ro [(none,28),(some 55,29)]] [.mv 34 133,.fa 55 27 1 134,.st 3 134 133,.rg,.ld 26 30 135,.ld 55 27 136,.mv 135 28,.st 55 29 136,.ro [(none,28),(some 55,29)]]] [.bo .eql 3 58 14 86,.mv 86 85,.cn 85 [.rg,.so 30,.ld 26 30 87,.ld 23 25 88,.fa 55 27 2 89,.ld 3 89 90,.fa 55 27 4 91,.ld 46 91 92,.ca true true 15 [88,90,92] 93,.ca false true 8 [87,93] 94,.fa 55 27 3 95,.st 46 95 94,.fa 55 27 4 96,.ld 46 96 97,.fa 55 27 5 98,.ld 46 98 99,.bo .neq 46 97 99 100,.cn 100 [.rg,.so 30,.ld 26 30 101,.ld 55 27 102,.fa 55 27 3 103,.ld 46 103 104,.ca true true 16 [102,3,104] 105,.mv 101 28,.st 55 29 105,.ro [(none,28),(some 55,29)]] [.mv 34 133,.fa 55 27 1 134,.st 3 134 133,.rg,.ld 26 30 135,.ld 55 27 136,.mv 135 28,.st 55 29 136,.ro [(none,28),(some 55,29)]]] [.bo .eql 3 58 17 107,.mv 107 106,.cn 106 [.mv 18 35,.ld 26 30 109,.mv 31 110,.fa 55 27 5 111,.ld 46 111 112,.fa 55 27 5 113,.ld 46 113 114,.bo .add 46 114 9 115,.ca false true 19 [109,110,112,115] 116,.mv 116 108,.ex 108 0 117,.ex 108 1 118,.st 26 30 117,.mv 118 35,.mv 35 119,.un .not 119 120,.cn 120 [.mv 13 34,.mv 34 133,.fa 55 27 1 134,.st 3 134 133,.rg,.ld 26 30 135,.ld 55 27 136,.mv 135 28,.st 55 29 136,.ro [(none,28),(some 55,29)]] [.mv 34 133,.fa 55 27 1 134,.st 3 134 133,.rg,.ld 26 30 135,.ld 55 27 136,.mv 135 28,.st 55 29 136,.ro [(none,28),(some 55,29)]]] [.bo .eql 3 58 20 122,.mv 122 121,.cn 121 [.mv 33 123,.fa 55 27 3 124,.ld 46 124 125,.ca false true 123 [3,125] 126,.ex 126 0 127,.ex 126 1 128,.mv 127 28,.st 55 29 128,.ro [(none,28),(some 55,29)]] [.mv 33 129,.ca false true 129 [14,21] 130,.ex 130 0 131,.ex 130 1 132,.mv 131 28,.st 55 29 132,.ro [(none,28),(some 55,29)]]]]]]]]] 112 [a,b,c] h :)
def anf:=(yE5 k wl 208 Tryz.f208 [a,b,c] h :)
noncomputable def F3:Code:=ai (aj Tryz.f209) [1,0,1,1,1,1,1,0,1,0,0]
noncomputable def FF:List Fr:=[.block 0,.seq (ai (aj Tryz.f209) [1,0,1,1,1,1,1,1]),.scope (ai (aj Tryz.f209) [1,0])]
def ahh:=(yB5 s k wl 209 Tryz.f209 [.u,.f 76,.f 188,.i 2,.i 4,.f 107,.f 108,.i 0] 8 [.bx 8 11,.bx 10 13,.nl 14,.al 55 15,.mv 9 22,.ca false true 1 [22] 23,.al 26 16,.st 26 16 23,.ld 23 11 24,.mv 9 25,.ld 55 13 26,.ca false true 2 [24,25,26,3,4] 27,.un .not 27 28,.cn 28 [.rg,.ld 26 16 29,.ld 55 13 30,.mv 29 14,.st 55 15 30,.ro [(none,14),(some 55,15)]] [.rg,.al 3 17,.al 3 18,.ld 23 11 31,.fa 55 13 2 32,.ld 3 32 33,.ca true true 5 [31,33] 34,.so 11,.ld 23 11 35,.fa 55 13 2 36,.so 36,.ld 3 36 37,.ca true true 6 [35,37] 38,.st 3 17 34,.st 3 18 38,.fn 229 [] [16,17,13] 39,.fn 230 [] [16,18,13] 40,.fn 231 [] [16,11,13] 41,.fn 232 [] [16,17,13] 42,.bS false 238 4 [(0,39),(1,40),(2,41),(3,42)] 43,.mv 43 19,.mv 19 44,.le 238 44 45,.mv 7 46,.lo F3 [39,18] FF]] 56 [a,b,c] h :)
def adj:=(yE5 k wl 209 Tryz.f209 [a,b,c] h :)
def ahC:=(yZ5 P Tryz.f209 [.u] 1 [.ro [(none,7),(some 55,8)]] (a::b::c::d::e::g::i::j::zz) h :)
def X9:=(rL5 s k wl 209 rd F3 n0 K n [.u,.i 1,.f 110] 3 [.bo .lss 3 41 40 42,.cn 42 [.mv 41 43,.ia 238 39 41 44,.ld 1 44 45,.mv 43 15,.mv 45 16,.mv 15 46,.fa 55 8 1 47,.ld 3 47 48,.bo .neq 3 46 48 49,.cn 49 [.bo .add 3 41 1 59,.mv 59 41,.nx F3 [39,18]] [.mv 16 50,.ca false true 50 [] 51,.ld 55 8 52,.ca false true 2 [52] 53,.un .not 53 54,.cn 54 [.fa 55 8 1 55,.ld 3 55 56,.bo .add 3 56 1 57,.fa 55 8 1 58,.st 3 58 57,.kt (.exit 0) [38,19]] [.kt (.exit 0) [38,19]]]] [.kt (.exit 0) [38,19]]] [a,b,c,d,e,g,i,j,l,m,o,p,q,r,u,v,w,x,y,z,A,B,C,D,E,F,G,I,J,L,M,N,O,Q,R,S,T,U,W,X,Y,Z,ta,tb,tc,td,te,tf,tg,th,ti,tj,tk,tl,tm,tn,tp,tq,tr] h :)
def O4:=(jB5 s k wl 209 Tryz.f209 FF (.exit 0) [.u] 1 [.rg,.ld 26 9 58,.ld 55 6 59,.mv 58 7,.st 55 8 59,.ro [(none,7),(some 55,8)]] [a,b,c,d,e,g,i,j,l,m,o,p,q,r,u,v,w,x,y,z,A,B,C,D,E,F,G,I,J,L,M,N,O,Q,R,S,T,U,W,X,Y,Z,ta,tb,tc,td,te,tf,tg,th,ti,tj,tk,tl,tm,tn,tp,tq,tr] h :)
def BF:=(yK5 cx K FF s0 :)
def Z7:=(yB5 s k wl 215 Tryz.f215 [.u,.v (.lit (.int .u64 0)),.f 216,.i 0] 4 [.mv 1 6,.mv 1 7,.mv 4 11,.ca false true 2 [11] 12,.mv 12 10,.ex 10 0 13,.ex 10 1 14,.mv 13 8,.mv 14 9,.mv 8 15,.mv 9 16,.mm true [16,3] 17,.cv 3 46 17 18,.mv 15 6,.mv 18 7,.rt [6,7]] 14 [a] h :)
def YY:=(yE5 k wl 215 Tryz.f215 [a] h :)
def Yq:=(yB5 s k wl 217 Tryz.f217 [.u,.v (.lit (.int .u64 0)),.f 218,.f 192] 4 [.mv 1 6,.mv 1 7,.mv 4 8,.ca false true 2 [8] 9,.mv 4 10,.ca false true 3 [10] 11,.mv 9 6,.mv 11 7,.rt [6,7]] 7 [a] h :)
def Ze:=(yE5 k wl 217 Tryz.f217 [a] h :)
def aki:=(yB5 s k wl 224 Tryz.f224 [.u,.f 108,.f 27,.i 1] 4 [.rg,.mv 4 6,.mv 4 7,.so 7,.nk 7 8,.fa 235 8 2 9,.so 9,.ld 26 9 10,.mv 4 11,.nk 11 12,.fa 235 12 1 13,.ld 23 13 14,.mv 4 15,.nk 15 16,.fa 235 16 0 17,.fa 55 17 2 18,.ld 3 18 19,.ca true true 1 [14,19] 20,.ca false true 2 [10,20] 21,.nk 6 22,.fa 235 22 0 23,.fa 55 23 4 24,.st 46 24 21,.mv 4 25,.nk 25 26,.fa 235 26 0 27,.fa 55 27 1 28,.st 3 28 3,.rt []] 24 [a] h :)
def anl:=(yE5 k wl 224 Tryz.f224 [a] h :)
def alI:=(yB5 s k wl 225 Tryz.f225 [.u,.f 107,.f 27,.i 2,.f 193] 5 (.rg::.mv 5 7::.mv 5 8::.so 8::.nk 8 9::.fa 235 9 2 10::.so 10::.ld 26 10 11::.mv 5 12::.nk 12 13::.fa 235 13 1 14::.ld 23 14 15::.mv 5 16::.nk 16 17::.fa 235 17 0 18::.fa 55 18 2 19::.ld 3 19 20::.ca true true 1 [15,20] 21::.ca false true 2 [11,21] 22::.nk 7 23::.fa 235 23 0 24::.fa 55 24 5 25::.st 46 25 22::.mv 5 26::.nk 26 27::.fa 235 27 0 28::.fa 55 28 1 29::.st 3 29 3::.rg::.mv 5 30::.nk 30 31::.fa 235 31 0 32::.fa 55 32 4 33::.ld 46 33 34::.mv 5 35::.nk 35 36::.fa 235 36 0 37::.fa 55 37 5 38::.ld 46 38 39::.bo .sub 46 34 39 40::.mv 5 41::.nk 41 42::.fa 235 42 1 43::.fa 23 43 1 44::.ld 3 44 45::.cv 3 46 45 46::.bo .geq 46 40 46 47::.cn 47 [.rg,.mv 5 48,.mv 5 49,.nk 49 50,.fa 235 50 0 51,.ld 55 51 52,.mv 5 53,.nk 53 54,.fa 235 54 0 55,.fa 55 55 3 56,.ld 46 56 57,.ca false true 4 [52,3,57] 58,.nk 48 59,.fa 235 59 0 60,.st 55 60 58,.rt []] [.rt []]::[]) 55 [a] h :)
def aoP:=(yE5 k wl 225 Tryz.f225 [a] h :)
def ali:=(yB5 s k wl 226 Tryz.f226 [.u,.f 109,.f 88,.i 3] 4 [.rg,.mv 4 6,.mv 4 7,.so 7,.nk 7 8,.fa 235 8 2 9,.so 9,.ld 26 9 10,.mv 4 11,.nk 11 12,.fa 235 12 1 13,.ld 23 13 14,.mv 4 15,.nk 15 16,.fa 235 16 0 17,.fa 55 17 2 18,.ld 3 18 19,.mv 4 20,.nk 20 21,.fa 235 21 0 22,.fa 55 22 4 23,.ld 46 23 24,.ca true true 1 [14,19,24] 25,.mv 4 26,.so 26,.nk 26 27,.fa 235 27 0 28,.fa 55 28 3 29,.so 29,.ld 46 29 30,.ca false true 2 [10,25,30] 31,.nk 6 32,.fa 235 32 2 33,.st 26 33 31,.mv 4 34,.nk 34 35,.fa 235 35 0 36,.fa 55 36 1 37,.st 3 37 3,.rt []] 33 [a] h :)
def alo:=(yE5 k wl 226 Tryz.f226 [a] h :)
def ans:=(yB5 s k wl 227 Tryz.f227 [.u,.f 108,.v (.lit (.int .u64 1)),.f 88,.f 193,.i 1] 6 (.rg::.mv 6 8::.mv 6 9::.so 9::.nk 9 10::.fa 235 10 2 11::.so 11::.ld 26 11 12::.mv 6 13::.nk 13 14::.fa 235 14 1 15::.ld 23 15 16::.mv 6 17::.nk 17 18::.fa 235 18 0 19::.fa 55 19 2 20::.ld 3 20 21::.ca true true 1 [16,21] 22::.mv 6 23::.so 23::.nk 23 24::.fa 235 24 0 25::.fa 55 25 4 26::.so 26::.ld 46 26 27::.bo .add 46 27 2 28::.ca false true 3 [12,22,28] 29::.nk 8 30::.fa 235 30 2 31::.st 26 31 29::.rg::.mv 6 32::.mv 6 33::.nk 33 34::.fa 235 34 0 35::.ld 55 35 36::.mv 6 37::.nk 37 38::.fa 235 38 0 39::.fa 55 39 3 40::.ld 46 40 41::.ca false true 4 [36,5,41] 42::.nk 32 43::.fa 235 43 0 44::.st 55 44 42::.rt []::[]) 38 [a] h :)
def air:=(yE5 k wl 227 Tryz.f227 [a] h :)
def ajm:=(yB5 s k wl 228 Tryz.f228 [.u,.v (.lit (.int .u64 1)),.f 88,.f 193] 4 [.nl 11,.al 55 12,.rg,.ld 26 6 13,.ld 3 7 14,.fa 55 8 4 15,.ld 46 15 16,.bo .add 46 16 1 17,.ca true true 2 [13,14,17] 18,.so 8,.ld 55 8 19,.mv 4 20,.mv 5 21,.ca false true 3 [19,20,21] 22,.mv 18 11,.st 55 12 22,.ro [(none,11),(some 55,12)]] 14 [a,b,c,d,e] h :)
def amG:=(yE5 k wl 228 Tryz.f228 [a,b,c,d,e] h :)
def ag1:=(yB5 s k wl 229 Tryz.f229 [.u,.f 27] 2 [.ld 26 2 5,.ld 3 3 6,.ca false true 1 [5,6] 7,.fa 55 4 5 8,.st 46 8 7,.rt []] 4 [a,b,c] h :)
def agV:=(yE5 k wl 229 Tryz.f229 [a,b,c] h :)
def aed:=(yB5 s k wl 230 Tryz.f230 [.u,.f 27,.f 106,.i 0,.f 193,.i 3,.v (.lit (.int .u64 0))] 7 [.ld 26 7 10,.ld 3 8 11,.ca false true 1 [10,11] 12,.fa 55 9 4 13,.st 46 13 12,.fa 55 9 4 14,.ld 46 14 15,.fa 55 9 5 16,.ld 46 16 17,.ca false true 2 [15,17] 18,.bo .leq 3 18 3 19,.cn 19 [.ld 55 9 20,.ca false true 4 [20,5,6] 21,.st 55 9 21,.rt []] [.rt []]] 12 [a,b,c] h :)
def aeF:=(yE5 k wl 230 Tryz.f230 [a,b,c] h :)
def ad3:=(yB5 s k wl 231 Tryz.f231 [.u,.f 109,.f 27] 3 [.rg,.so 3,.ld 26 3 6,.ld 23 4 7,.fa 55 5 2 8,.ld 3 8 9,.fa 55 5 5 10,.ld 46 10 11,.ca true true 1 [7,9,11] 12,.ca false true 2 [6,12] 13,.fa 55 5 3 14,.st 46 14 13,.rt []] 9 [a,b,c] h :)
def adP:=(yE5 k wl 231 Tryz.f231 [a,b,c] h :)
def adR:=(yB5 s k wl 232 Tryz.f232 [.u,.b false,.v (.lit (.int .u64 1)),.f 191,.f 193,.i 1,.i 4,.v (.lit (.int .u64 0))] 8 [.mv 1 11,.ld 26 8 13,.ld 3 9 14,.fa 55 10 5 15,.ld 46 15 16,.fa 55 10 5 17,.ld 46 17 18,.bo .add 46 18 2 19,.ca false true 3 [13,14,16,19] 20,.mv 20 12,.ex 12 0 21,.ex 12 1 22,.st 26 8 21,.mv 22 11,.mv 11 23,.cn 23 [.ld 55 10 24,.fa 55 10 3 25,.ld 46 25 26,.ca false true 4 [24,5,26] 27,.st 55 10 27,.rt []] [.ld 55 10 28,.ca false true 4 [28,6,7] 29,.st 55 10 29,.rt []]] 19 [a,b,c] h :)
def aev:=(yE5 k wl 232 Tryz.f232 [a,b,c] h :)
end
end Go.Ab
set_option maxRecDepth 100000
set_option linter.unusedVariables false
namespace Go.Ab
open Go.Proofs
section
variable (s:Sys) (k wl m0:Nat) (a b c d e g i j l m o p q r u v w x y z A B C D E F G I J L M N O Q R S T U:V) (h:Hp) (cx:Cx) (K:Out→St→Option (V×Hp)) (s0:St) (ac:List Nat×List Nat) (zz:List V)
noncomputable def EQ:List Fr:=[.seq (ai (aj Tryz.f165) [1,1,1,1])]
def aoo:=(yB5 s k wl 165 Tryz.f165 [.u,.f 76,.f 183,.f 184,.f 185,.f 186,.f 187,.f 188,.i 5] 9 [.bx 9 12,.bx 11 14,.nl 15,.al 55 16,.rg,.so 14,.ld 55 14 19,.so 12,.ld 23 12 20,.mv 10 21,.ca true true 1 [21] 22,.bu 205 [(0,19),(1,20),(2,22)] 23,.bx 23 24,.mv 24 17,.bS false 207 5 [(0,2),(1,3),(2,4),(3,5),(4,6)] 25,.mv 25 18,.ld 23 12 26,.mv 10 27,.ld 55 14 28,.mv 18 29,.le 207 29 30,.ca false true 7 [26,27,28,8,30] 31,.cn 31 [.mv 18 32,.fa 55 14 1 33,.ld 3 33 34,.ia 207 32 34 35,.ld 206 35 36,.mv 17 37,.ca false true 36 [37] 38,.jn EQ] [.jn EQ]] 35 [a,b,c] h :)
def ajd:=(yE5 k wl 165 Tryz.f165 [a,b,c] h :)
def YJ:=(jB5 s k wl 165 Tryz.f165 EQ .norm [.u] 1 [.rg,.mv 9 31,.nk 31 32,.fa 205 32 2 33,.ld 26 33 34,.mv 9 35,.nk 35 36,.fa 205 36 0 37,.ld 55 37 38,.mv 34 7,.st 55 8 38,.ro [(none,7),(some 55,8)]] [a,b,c,d,e,g,i,j,l,m,o,p,q,r,u,v,w,x,y,z,A,B,C,D,E,F,G,I,J,L,M,N,O,Q,R,S,T,U] h :)
def JV:=(yK5 cx K EQ s0 :)
def aiR:=(yB5 s k wl 183 Tryz.f183 [.u,.f 27,.i 2,.i 1] 4 [.mv 4 6,.mv 4 7,.nk 7 8,.fa 205 8 2 9,.ld 26 9 10,.ca false true 1 [10,2] 11,.nk 6 12,.fa 205 12 0 13,.fa 55 13 4 14,.st 46 14 11,.mv 4 15,.nk 15 16,.fa 205 16 0 17,.fa 55 17 1 18,.st 3 18 3,.rt []] 14 [a] h :)
def anq:=(yE5 k wl 183 Tryz.f183 [a] h :)
def aiS:=(yB5 s k wl 184 Tryz.f184 [.u,.f 27,.i 2,.f 213,.f 193,.i 4,.v (.lit (.int .u64 0))] 7 [.mv 7 9,.mv 7 10,.nk 10 11,.fa 205 11 2 12,.ld 26 12 13,.ca false true 1 [13,2] 14,.nk 9 15,.fa 205 15 0 16,.fa 55 16 5 17,.st 46 17 14,.mv 7 18,.nk 18 19,.fa 205 19 0 20,.fa 55 20 1 21,.st 3 21 2,.rg,.mv 7 22,.nk 22 23,.fa 205 23 0 24,.fa 55 24 5 25,.ld 46 25 26,.ca true true 3 [26] 27,.mv 7 28,.so 28,.nk 28 29,.fa 205 29 0 30,.fa 55 30 4 31,.so 31,.ld 46 31 32,.ca false true 3 [32] 33,.bo .neq 46 27 33 34,.cn 34 [.mv 7 35,.mv 7 36,.nk 36 37,.fa 205 37 0 38,.ld 55 38 39,.ca false true 4 [39,5,6] 40,.nk 35 41,.fa 205 41 0 42,.st 55 42 40,.rt []] [.rt []]] 35 [a] h :)
def ajb:=(yE5 k wl 184 Tryz.f184 [a] h :)
def aiy:=(yB5 s k wl 185 Tryz.f185 [.u,.b false,.i 1,.f 214,.f 191,.i 2,.i 3] 7 (.mv 1 9::.mv 7 10::.nk 10 11::.fa 205 11 0 12::.fa 55 12 1 13::.st 3 13 2::.rg::.mv 7 15::.mv 7 16::.so 16::.nk 16 17::.fa 205 17 2 18::.so 18::.ld 26 18 19::.mv 7 20::.so 20::.nk 20 21::.fa 205 21 0 22::.fa 55 22 5 23::.so 23::.ld 46 23 24::.mv 7 25::.nk 25 26::.fa 205 26 0 27::.fa 55 27 5 28::.ld 46 28 29::.mv 7 30::.nk 30 31::.fa 205 31 0 32::.fa 55 32 2 33::.ld 3 33 34::.ca true true 3 [29,34] 35::.ca false true 4 [19,5,24,35] 36::.mv 36 14::.ex 14 0 37::.ex 14 1 38::.nk 15 39::.fa 205 39 2 40::.st 26 40 37::.mv 38 9::.mv 9 41::.cn 41 [.mv 7 42,.nk 42 43,.fa 205 43 0 44,.fa 55 44 1 45,.st 3 45 6,.rt []] [.rt []]::[]) 38 [a] h :)
def aoi:=(yE5 k wl 185 Tryz.f185 [a] h :)
def ajZ:=(yB5 s k wl 186 Tryz.f186 [.u,.f 32,.f 27,.v (.lit (.int .u64 0)),.i 4] 5 [.rg,.mv 5 7,.mv 5 8,.so 8,.nk 8 9,.fa 205 9 2 10,.so 10,.ld 26 10 11,.mv 5 12,.nk 12 13,.fa 205 13 1 14,.ld 23 14 15,.mv 5 16,.nk 16 17,.fa 205 17 0 18,.fa 55 18 2 19,.ld 3 19 20,.ca true true 1 [15,20] 21,.ca false true 2 [11,21] 22,.nk 7 23,.fa 205 23 0 24,.fa 55 24 5 25,.st 46 25 22,.mv 5 26,.nk 26 27,.fa 205 27 0 28,.fa 55 28 5 29,.ld 46 29 30,.bo .neq 46 30 3 31,.cn 31 [.mv 5 32,.nk 32 33,.fa 205 33 0 34,.fa 55 34 1 35,.st 3 35 4,.rt []] [.rt []]] 30 [a] h :)
def aii:=(yE5 k wl 186 Tryz.f186 [a] h :)
def anE:=(yB5 s k wl 187 Tryz.f187 [.u,.f 32,.f 88,.v (.lit (.int .u64 0)),.f 193,.i 1] 6 [.rg,.mv 6 8,.mv 6 9,.so 9,.nk 9 10,.fa 205 10 2 11,.so 11,.ld 26 11 12,.mv 6 13,.nk 13 14,.fa 205 14 1 15,.ld 23 15 16,.mv 6 17,.nk 17 18,.fa 205 18 0 19,.fa 55 19 2 20,.ld 3 20 21,.ca true true 1 [16,21] 22,.ca false true 2 [12,22,3] 23,.nk 8 24,.fa 205 24 2 25,.st 26 25 23,.mv 6 26,.mv 6 27,.nk 27 28,.fa 205 28 0 29,.ld 55 29 30,.ca false true 4 [30,5,3] 31,.nk 26 32,.fa 205 32 0 33,.st 55 33 31,.rt []] 27 [a] h :)
def akO:=(yE5 k wl 187 Tryz.f187 [a] h :)
noncomputable def gf:Code:=ai (aj Tryz.f196) [1,0]
noncomputable def fL:List Fr:=[.seq (ai (aj Tryz.f196) [1,1])]
def alt:=(yB5 s k wl 196 Tryz.f196 [.u,.b false,.f 105,.b true,.f 110] 5 [.bx 5 9,.bx 7 11,.mv 1 13,.rg,.ld 23 9 14,.mv 6 15,.ca false true 2 [14,15] 16,.mv 16 17,.gd 17 [.mv 3 17,.ld 55 11 18,.ca false true 4 [18] 19,.un .not 19 20,.sg gf 7 fL] [.mv 1 17,.sg gf 7 fL] [.sg gf 5 fL]] 29 [a,b,c,d] h :)
def amM:=(yE5 k wl 196 Tryz.f196 [a,b,c,d] h :)
def Yz:=(gB5 s k wl 196 Tryz.f196 gf 7 fL [.u,.b false,.b true] 3 [.pk 15 18 1 19,.mv 19 20,.gd 20 [.mv 2 20,.fa 55 9 0 21,.ld 3 21 22,.mv 6 23,.bo .eql 3 22 23 24,.sg gf 13 fL] [.mv 1 20,.mv 0 21,.mv 0 22,.mv 0 23,.mv 0 24,.sg gf 13 fL] [.mv 0 21,.sg gf 10 fL]] (a::b::c::d::e::g::i::j::l::m::o::p::q::r::u::v::w::x::y::z::A::B::zz) h m0 ac :)
def YF:=(gB5 s k wl 196 Tryz.f196 gf 13 fL [.u,.b false,.b true,.i 0] 4 [.pk 21 25 1 26,.mv 26 27,.gd 27 [.mv 2 27,.fa 55 10 1 28,.ld 3 28 29,.bo .geq 3 29 3 30,.sg gf 18 fL] [.mv 1 27,.mv 0 28,.mv 0 29,.mv 0 30,.sg gf 18 fL] [.mv 0 28,.sg gf 16 fL]] (a::b::c::d::e::g::i::j::l::m::o::p::q::r::u::v::w::x::y::z::A::B::C::D::E::F::G::zz) h m0 ac :)
def Zr:=(gB5 s k wl 196 Tryz.f196 gf 18 fL [.u,.b false,.b true,.i 5] 4 [.pk 27 30 1 31,.mv 31 32,.gd 32 [.mv 2 32,.fa 55 10 1 33,.ld 3 33 34,.bo .lss 3 34 3 35,.sg gf 23 fL] [.mv 1 32,.mv 0 33,.mv 0 34,.mv 0 35,.sg gf 23 fL] [.mv 0 33,.sg gf 21 fL]] [a,b,c,d,e,g,i,j,l,m,o,p,q,r,u,v,w,x,y,z,A,B,C,D,E,F,G,I,J,L,M,N,O] h m0 ac :)
def YE:=(gB5 s k wl 196 Tryz.f196 gf 23 fL [.u,.b false] 2 [.pk 30 33 1 34,.mv 34 10,.rv 10] [a,b,c,d,e,g,i,j,l,m,o,p,q,r,u,v,w,x,y,z,A,B,C,D,E,F,G,I,J,L,M,N,O] h m0 ac :)
def JM:=(yK5 cx K fL s0 :)
def aoM:=(yB5 s k wl 197 Tryz.f197 [.u,.i 0,.f 27,.i 5,.i 1] 5 [.mv 1 7,.mv 5 8,.mv 5 9,.nk 9 10,.fa 221 10 2 11,.ld 26 11 12,.ca false true 2 [12,3] 13,.nk 8 14,.fa 221 14 0 15,.fa 55 15 4 16,.st 46 16 13,.mv 4 7,.rv 7] 11 [a] h :)
def ajN:=(yE5 k wl 197 Tryz.f197 [a] h :)
def akD:=(yB5 s k wl 198 Tryz.f198 [.u,.i 0,.f 203,.f 27,.f 221,.i 2,.f 106,.f 193] 8 [.mv 1 10,.rg,.mv 8 11,.mv 8 12,.so 12,.nk 12 13,.fa 221 13 2 14,.so 14,.ld 26 14 15,.mv 8 16,.nk 16 17,.fa 221 17 1 18,.ld 23 18 19,.mv 8 20,.nk 20 21,.fa 221 21 0 22,.fa 55 22 4 23,.ld 46 23 24,.ca true true 2 [19,24] 25,.ca false true 3 [15,25] 26,.nk 11 27,.fa 221 27 0 28,.fa 55 28 5 29,.st 46 29 26,.rg,.mv 8 31,.so 31,.nk 31 32,.fa 221 32 0 33,.fa 55 33 5 34,.so 34,.ld 46 34 35,.mv 8 36,.ca true true 4 [36] 37,.bo .eql 46 35 37 38,.mv 38 30,.cn 30 [.mv 5 10,.rv 10] [.rg,.mv 8 40,.so 40,.nk 40 41,.fa 221 41 0 42,.fa 55 42 5 43,.so 43,.ld 46 43 44,.mv 8 45,.ca true true 4 [45] 46,.ca false true 6 [44,46] 47,.bo .lss 3 47 1 48,.mv 48 39,.cn 39 [.rg,.mv 8 49,.mv 8 50,.nk 50 51,.fa 221 51 0 52,.ld 55 52 53,.mv 8 54,.nk 54 55,.fa 221 55 0 56,.fa 55 56 3 57,.ld 46 57 58,.ca false true 7 [53,5,58] 59,.nk 49 60,.fa 221 60 0 61,.st 55 61 59,.mv 1 10,.rv 10] [.mv 1 10,.rv 10]]] 53 [a] h :)
def alD:=(yE5 k wl 198 Tryz.f198 [a] h :)
def aiT:=(yB5 s k wl 199 Tryz.f199 [.u,.i 0,.b false,.v (.lit (.int .u64 1)),.f 191,.i 5,.i 3] 7 [.mv 1 9,.mv 2 10,.rg,.mv 7 12,.mv 7 13,.nk 13 14,.fa 221 14 2 15,.ld 26 15 16,.mv 7 17,.nk 17 18,.fa 221 18 0 19,.fa 55 19 4 20,.ld 46 20 21,.mv 7 22,.nk 22 23,.fa 221 23 0 24,.fa 55 24 4 25,.ld 46 25 26,.bo .add 46 26 3 27,.ca false true 4 [16,5,21,27] 28,.mv 28 11,.ex 11 0 29,.ex 11 1 30,.nk 12 31,.fa 221 31 2 32,.st 26 32 29,.mv 30 10,.mv 10 33,.cn 33 [.mv 6 9,.rv 9] [.mv 1 9,.rv 9]] 26 [a] h :)
def ang:=(yE5 k wl 199 Tryz.f199 [a] h :)
def aiw:=(yB5 s k wl 200 Tryz.f200 [.u,.i 0,.f 205,.f 88,.i 4] 5 [.mv 1 7,.rg,.mv 5 8,.mv 5 9,.so 9,.nk 9 10,.fa 221 10 2 11,.so 11,.ld 26 11 12,.mv 5 13,.nk 13 14,.fa 221 14 1 15,.ld 23 15 16,.mv 5 17,.nk 17 18,.fa 221 18 0 19,.fa 55 19 4 20,.ld 46 20 21,.ca true true 2 [16,21] 22,.mv 5 23,.so 23,.nk 23 24,.fa 221 24 0 25,.fa 55 25 3 26,.so 26,.ld 46 26 27,.ca false true 3 [12,22,27] 28,.nk 8 29,.fa 221 29 2 30,.st 26 30 28,.mv 4 7,.rv 7] 25 [a] h :)
def ai1:=(yE5 k wl 200 Tryz.f200 [a] h :)
def ajr:=(yB5 s k wl 201 Tryz.f201 [.u,.i 0,.f 203,.f 221,.v (.lit (.int .u64 1)),.f 88,.f 193,.i 1] 8 (.mv 1 10::.rg::.mv 8 11::.mv 8 12::.so 12::.nk 12 13::.fa 221 13 2 14::.so 14::.ld 26 14 15::.mv 8 16::.nk 16 17::.fa 221 17 1 18::.ld 23 18 19::.mv 8 20::.nk 20 21::.fa 221 21 0 22::.fa 55 22 4 23::.ld 46 23 24::.ca true true 2 [19,24] 25::.mv 8 26::.ca true true 3 [26] 27::.bo .add 46 27 4 28::.ca false true 5 [15,25,28] 29::.nk 11 30::.fa 221 30 2 31::.st 26 31 29::.rg::.mv 8 32::.mv 8 33::.nk 33 34::.fa 221 34 0 35::.ld 55 35 36::.mv 8 37::.nk 37 38::.fa 221 38 0 39::.fa 55 39 3 40::.ld 46 40 41::.ca false true 6 [36,7,41] 42::.nk 32 43::.fa 221 43 0 44::.st 55 44 42::.mv 1 10::.rv 10::[]) 36 [a] h :)
def ai5:=(yE5 k wl 201 Tryz.f201 [a] h :)
def anX:=(yB5 s k wl 202 Tryz.f202 [.u,.i 0] 2 [.mv 1 4,.ld 223 2 5,.fa 55 3 1 6,.ld 3 6 7,.ia 223 5 7 8,.ld 116 8 9,.ca false true 9 [] 10,.mv 10 4,.rv 4] 7 [a,b] h :)
def anO:=(yE5 k wl 202 Tryz.f202 [a,b] h :)
def aoL:=(yB5 s k wl 204 Tryz.f204 [.u,.v (.lit (.int .u64 0)),.v (.lit (.int .u64 2)),.v (.lit (.int .u64 1))] 4 [.bx 4 6,.mv 1 8,.mv 5 9,.fa 23 6 2 10,.ld 3 10 11,.cv 3 46 11 12,.bo .quo 46 9 12 13,.bo .mul 46 13 2 14,.bo .add 46 14 3 15,.mv 15 8,.rv 8] 10 [a,b] h :)
def alT:=(yE5 k wl 204 Tryz.f204 [a,b] h :)
def alF:=(yB5 s k wl 221 Tryz.f221 [.u,.v (.lit (.int .u64 0)),.v (.lit (.int .u64 2))] 3 [.mv 1 5,.rg,.mv 3 6,.nk 6 7,.fa 221 7 0 8,.fa 55 8 4 9,.ld 46 9 10,.mv 3 11,.nk 11 12,.fa 221 12 1 13,.fa 23 13 2 14,.ld 3 14 15,.cv 3 46 15 16,.bo .quo 46 10 16 17,.bo .mul 46 17 2 18,.mv 18 5,.rv 5] 15 [a] h :)
def alx:=(yE5 k wl 221 Tryz.f221 [a] h :)
noncomputable def EL:Code:=ai (aj Tryz.f105) [1,0]
noncomputable def BG:List Fr:=[.seq (ai (aj Tryz.f105) [1,1])]
def anS:=(yB5 s k wl 105 Tryz.f105 [.u,.b false,.f 50,.b true,.f 103] 5 [.bx 5 7,.mv 1 9,.rg,.ld 23 7 10,.ca false true 2 [10] 11,.mv 11 12,.gd 12 [.mv 3 12,.mv 6 13,.le 26 13 14,.ld 23 7 15,.ca false true 4 [15] 16,.bo .eql 3 14 16 17,.sg EL 8 BG] [.mv 1 12,.sg EL 8 BG] [.sg EL 4 BG]] 12 [a,b] h :)
def ajz:=(yE5 k wl 105 Tryz.f105 [a,b] h :)
def abJ:=(gB5 s k wl 105 Tryz.f105 EL 8 BG [.u,.b false] 2 [.pk 9 14 1 15,.mv 15 6,.rv 6] [a,b,c,d,e,g,i,j,l,m,o,p,q,r] h m0 ac :)
def Jj:=(yK5 cx K BG s0 :)
end
end Go.Ab
set_option maxRecDepth 100000
set_option linter.unusedVariables false
namespace Go.Ab
open Go.Proofs
section
variable (s:Sys) (k wl m0:Nat) (a b c d e g i j l m o p q r u v w x y z A B C D E F G I J L M N O Q R S T U W X Y Z ta tb tc td te tf tg th ti tj tk tl tm tn tp tq tr ts tt tu tv tw tx ty tz tA tB tC tD tE tF tG tH tI tJ tK tL tM tN tO tP tQ tR tS tT tU tV tW tX tY tZ q0 q1 q2 q3 q4 q5 q6 q7 q8 q9 qa qb qc qd qe qf qg qh qi qj qk ql qm qn qo qp qq qr qs qt qu qv qw:V) (h:Hp) (cx:Cx) (K:Out→St→Option (V×Hp)) (s0:St) (ac:List Nat×List Nat) (zz:List V)
noncomputable def Ex:List Fr:=[.seq (ai (aj Tryz.f134) [1,0,1,0,1,1,1]),.block 0,.seq (ai (aj Tryz.f134) [1,1])]
def amt:=(yB5 s k wl 134 Tryz.f134 [.u,.i 5,.f 165,.i 6,.i 7] 5 [.bx 5 8,.bx 7 10,.nl 11,.al 55 12,.fa 55 10 0 13,.ld 3 13 14,.bo .eql 3 14 1 16,.mv 16 15,.cn 15 [.ld 23 8 17,.mv 6 18,.ld 55 10 19,.ca false true 2 [17,18,19] 20,.ex 20 0 21,.ex 20 1 22,.mv 21 11,.st 55 12 22,.ro [(none,11),(some 55,12)]] [.bo .eql 3 14 3 24,.mv 24 23,.cn 23 [.jn Ex] [.bo .eql 3 14 4 25,.mv 25 23,.jn Ex]]] 27 [a,b,c] h :)
def ajv:=(yE5 k wl 134 Tryz.f134 [a,b,c] h :)
def Y0:=(jB5 s k wl 134 Tryz.f134 Ex .norm [.u,.f 166,.f 76] 3 [.cn 21 [.ld 23 6 24,.mv 4 25,.ld 55 8 26,.ca false true 1 [24,25,26] 27,.ex 27 0 28,.ex 27 1 29,.mv 28 9,.st 55 10 29,.ro [(none,9),(some 55,10)]] [.rg,.mv 4 30,.ca true true 2 [30] 31,.so 8,.ld 55 8 32,.mv 31 9,.st 55 10 32,.ro [(none,9),(some 55,10)]]] [a,b,c,d,e,g,i,j,l,m,o,p,q,r,u,v,w,x,y,z,A,B,C,D,E,F,G,I,J,L] h :)
def Jw:=(yK5 cx K Ex s0 :)
def ajc:=(yB5 s k wl 135 Tryz.f135 [.u,.i 3,.f 167,.i 4,.f 168,.f 76] 6 [.bx 6 9,.bx 8 11,.nl 12,.al 55 13,.fa 55 11 0 14,.ld 3 14 15,.bo .eql 3 15 1 17,.mv 17 16,.cn 16 [.ld 23 9 18,.mv 7 19,.ld 55 11 20,.ca false true 2 [18,19,20] 21,.ex 21 0 22,.ex 21 1 23,.mv 22 12,.st 55 13 23,.ro [(none,12),(some 55,13)]] [.bo .eql 3 15 3 25,.mv 25 24,.cn 24 [.ld 23 9 26,.mv 7 27,.ld 55 11 28,.ca false true 4 [26,27,28] 29,.ex 29 0 30,.ex 29 1 31,.mv 30 12,.st 55 13 31,.ro [(none,12),(some 55,13)]] [.rg,.mv 7 32,.ca true true 5 [32] 33,.so 11,.ld 55 11 34,.mv 33 12,.st 55 13 34,.ro [(none,12),(some 55,13)]]]] 26 [a,b,c] h :)
def amP:=(yE5 k wl 135 Tryz.f135 [a,b,c] h :)
noncomputable def Cv:List Fr:=[.block 0,.seq (ai (aj Tryz.f166) [1,1,1,1])]
noncomputable def Ey:List Fr:=[.seq (ai (aj Tryz.f166) [1,1,1,0,0,1,1,1,1,1,0,1,1]),.block 0,.seq (ai (aj Tryz.f166) [1,1,1,1])]
noncomputable def Fq:Code:=ai (aj Tryz.f166) [1,1,1,0,0,1,1,1,1,1,1,1,0,1,0]
noncomputable def A1:List Fr:=[.seq (ai (aj Tryz.f166) [1,1,1,0,0,1,1,1,1,1,1,1,0,1,1]),.seq (ai (aj Tryz.f166) [1,1,1,0,0,1,1,1,1,1,1,1,1]),.block 0,.seq (ai (aj Tryz.f166) [1,1,1,1])]
def amH:=(yB5 s k wl 166 Tryz.f166 [.u,.f 76,.f 189,.i 0,.f 27,.i 2,.i 1,.f 190,.f 191,.f 192,.v (.lit (.int .u64 0)),.f 193,.i 3,.i 6,.i (-1),.v (.lit (.int .u64 8)),.f 195,.f 194,.v (.lit (.int .u64 1)),.b true,.b false] 21 [.bx 21 24,.bx 23 26,.nl 27,.al 55 28,.mv 22 35,.ca false true 1 [35] 36,.mv 36 29,.ld 23 24 37,.mv 22 38,.ld 55 26 39,.ca false true 2 [37,38,39] 40,.un .not 40 41,.cn 41 [.rg,.mv 29 42,.ld 55 26 43,.mv 42 27,.st 55 28 43,.ro [(none,27),(some 55,28)]] [.fa 55 26 1 81,.ld 3 81 82,.bo .eql 3 82 3 83,.mv 83 80,.cn 80 [.mv 29 84,.ca false true 4 [84,5] 85,.fa 55 26 4 86,.st 46 86 85,.fa 55 26 1 87,.st 3 87 6,.jn Cv] [.fa 55 26 1 89,.ld 3 89 90,.bo .eql 3 90 6 91,.mv 91 88,.cn 88 [.rg,.ca true true 7 [] 93,.fa 55 26 0 94,.so 94,.ld 3 94 95,.lk 212 93 95 false 96,.fa 55 26 4 97,.so 97,.ld 46 97 98,.ca false true 96 [98] 99,.mv 99 92,.ex 92 0 100,.ex 92 1 101,.mv 100 30,.mv 101 31,.mv 29 103,.fa 55 26 4 104,.ld 46 104 105,.mv 30 106,.ca false true 8 [103,5,105,106] 107,.mv 107 102,.ex 102 0 108,.ex 102 1 109,.mv 108 32,.mv 109 33,.mv 32 110,.mv 110 29,.fa 55 26 1 111,.st 3 111 3,.mv 33 112,.un .not 112 113,.cn 113 [.rg,.mv 29 114,.ld 55 26 115,.mv 114 27,.st 55 28 115,.ro [(none,27),(some 55,28)]] [.fa 55 26 4 116,.ld 46 116 117,.ca false true 9 [117] 118,.bo .eql 46 118 10 119,.cn 119 [.mv 29 120,.ld 55 26 121,.ca false true 11 [121,12,10] 122,.mv 120 27,.st 55 28 122,.ro [(none,27),(some 55,28)]] [.mv 31 123,.fa 55 26 5 124,.st 46 124 123,.fa 55 26 1 125,.st 3 125 5,.jn Cv]]] [.fa 55 26 0 127,.ld 3 127 128,.bo .eql 3 128 13 129,.mv 129 126,.cn 126 [.mv 14 34,.fa 55 26 5 130,.ld 46 130 131,.bo .lss 46 131 15 132,.cn 132 [.fa 55 26 5 133,.ld 46 133 134,.cv 46 3 134 135,.mv 135 34,.jn Ey] [.jn Ey]] [.rg,.so 24,.ld 23 24 44,.mv 29 45,.fa 55 26 5 46,.ld 46 46 47,.ca true true 16 [47] 48,.bS true 53 1 [(0,48)] 49,.ca false true 17 [44,45,49] 50,.mv 50 29,.fa 55 26 5 51,.ld 46 51 52,.ca false true 9 [52] 53,.fa 55 26 5 54,.st 46 54 53,.rg,.fa 55 26 5 55,.ld 46 55 56,.fa 55 26 5 57,.ld 46 57 58,.bo .sub 46 58 18 59,.bo .and 46 56 59 60,.bo .eql 46 60 10 61,.mv 61 62,.gd 62 [.mv 19 62,.sg Fq 11 A1] [.mv 20 62,.fa 55 26 5 63,.ld 46 63 64,.bo .eql 46 64 10 65,.sg Fq 11 A1] [.sg Fq 9 A1]]]]]] 123 [a,b,c] h :)
def anz:=(yE5 k wl 166 Tryz.f166 [a,b,c] h :)
def abu:=(jB5 s k wl 166 Tryz.f166 Cv .norm [.u] 1 [.rg,.mv 9 125,.ld 55 6 126,.mv 125 7,.st 55 8 126,.ro [(none,7),(some 55,8)]] (a::b::c::d::e::g::i::j::l::m::o::p::q::r::u::v::w::x::y::z::A::B::C::D::E::F::G::I::J::L::M::N::O::Q::R::S::T::U::W::X::Y::Z::ta::tb::tc::td::te::tf::tg::th::ti::tj::tk::tl::tm::tn::tp::tq::tr::ts::tt::tu::tv::tw::tx::ty::tz::tA::tB::tC::tD::tE::tF::tG::tH::tI::tJ::tK::tL::tM::tN::tO::tP::tQ::tR::tS::tT::tU::tV::tW::tX::tY::tZ::q0::q1::q2::q3::q4::q5::q6::q7::q8::q9::qa::qb::qc::qd::qe::qf::qg::qh::qi::qj::qk::ql::qm::qn::qo::qp::qq::qr::qs::qt::qu::qv::qw::[]) h :)
def aaR:=(jB5 s k wl 166 Tryz.f166 Ey .norm [.u,.f 194,.f 193,.i 1] 4 [.rg,.so 7,.ld 23 7 119,.mv 12 120,.mv 17 121,.bS true 53 1 [(0,121)] 122,.ca true true 1 [119,120,122] 123,.so 9,.ld 55 9 124,.fa 55 9 5 125,.so 125,.ld 46 125 126,.ca false true 2 [124,3,126] 127,.mv 123 10,.st 55 11 127,.ro [(none,10),(some 55,11)]] (a::b::c::d::e::g::i::j::l::m::o::p::q::r::u::v::w::x::y::z::A::B::C::D::E::F::G::I::J::L::M::N::O::Q::R::S::T::U::W::X::Y::Z::ta::tb::tc::td::te::tf::tg::th::ti::tj::tk::tl::tm::tn::tp::tq::tr::ts::tt::tu::tv::tw::tx::ty::tz::tA::tB::tC::tD::tE::tF::tG::tH::tI::tJ::tK::tL::tM::tN::tO::tP::tQ::tR::tS::tT::tU::tV::tW::tX::tY::tZ::q0::q1::q2::q3::q4::q5::q6::q7::q8::q9::qa::qb::qc::qd::qe::qf::qg::qh::qi::qj::qk::ql::qm::qn::qo::qp::qq::qr::qs::qt::qu::qv::qw::[]) h :)
def abw:=(aqy s k wl 166 Tryz.f166 Fq 11 A1 [2] [.u,.b true,.f 192,.f 193,.i 1,.v (.lit (.int .u64 1))] 6 [.pk 47 1 50 51,.cn 51 [.rg,.mv 14 52,.so 11,.ld 55 11 53,.fa 55 11 4 54,.ld 46 54 55,.ca true true 2 [55] 56,.ca false true 3 [53,4,56] 57,.mv 52 12,.st 55 13 57,.ro [(none,12),(some 55,13)]] [.fa 55 11 5 58,.ld 46 58 59,.fa 55 11 5 60,.ld 46 60 61,.bo .sub 46 61 5 62,.bo .and 46 59 62 63,.fa 55 11 5 64,.st 46 64 63,.jn Cv]] (a::b::c::d::e::g::i::j::l::m::o::p::q::r::u::v::w::x::y::z::A::B::C::D::E::F::G::I::J::L::M::N::O::Q::R::S::T::U::W::X::Y::Z::ta::tb::tc::td::te::tf::tg::th::ti::tj::tk::tl::tm::tn::tp::tq::tr::zz) h m0 ac :)
def JS:=(yK5 cx K Cv s0 :)
def Kl:=(yK5 cx K Ey s0 :)
def Jc:=(yK5 cx K A1 s0 :)
def akU:=(yB5 s k wl 167 Tryz.f167 [.u,.f 76,.f 196,.i 3] 4 [.bx 4 7,.bx 6 9,.nl 10,.al 55 11,.rg,.so 9,.ld 55 9 15,.so 7,.ld 23 7 16,.mv 5 17,.ca true true 1 [17] 18,.bu 221 [(0,15),(1,16),(2,18)] 19,.bx 19 20,.mv 20 12,.ld 23 7 21,.mv 5 22,.ld 55 9 23,.ca false true 2 [21,22,23,3] 24,.un .not 24 25,.cn 25 [.rg,.mv 12 26,.nk 26 27,.fa 221 27 2 28,.ld 26 28 29,.ld 55 9 30,.mv 29 10,.st 55 11 30,.ro [(none,10),(some 55,11)]] [.mv 12 31,.fn 197 [31] [] 32,.mv 12 33,.fn 198 [33] [] 34,.mv 12 35,.fn 199 [35] [] 36,.mv 12 37,.fn 200 [37] [] 38,.mv 12 39,.fn 201 [39] [] 40,.bS false 223 5 [(0,32),(1,34),(2,36),(3,38),(4,40)] 41,.al 223 13,.st 223 13 41,.fn 202 [] [13,9] 42,.mv 42 14,.mv 12 43,.mv 14 44,.ca false true 44 [] 45,.nk 43 46,.fa 221 46 0 47,.fa 55 47 1 48,.st 3 48 45,.rg,.mv 12 49,.nk 49 50,.fa 221 50 2 51,.ld 26 51 52,.mv 12 53,.nk 53 54,.fa 221 54 0 55,.ld 55 55 56,.mv 52 10,.st 55 11 56,.ro [(none,10),(some 55,11)]]] 50 [a,b,c] h :)
def amk:=(yE5 k wl 167 Tryz.f167 [a,b,c] h :)
noncomputable def mY:List Fr:=[.block 0,.seq (ai (aj Tryz.f168) [1,1,1,1])]
def akZ:=(yB5 s k wl 168 Tryz.f168 [.u,.f 76,.f 196,.i 4,.i 0,.f 27,.i 1,.f 203,.f 204,.f 106,.i 2,.f 193,.i 3,.v (.lit (.int .u64 0)),.b false,.v (.lit (.int .u64 1)),.f 191,.f 205,.f 88] 19 [.bx 19 22,.bx 21 24,.nl 25,.al 55 26,.mv 20 30,.ca false true 1 [30] 31,.mv 31 27,.ld 23 22 32,.mv 20 33,.ld 55 24 34,.ca false true 2 [32,33,34,3] 35,.un .not 35 36,.cn 36 [.rg,.mv 27 37,.ld 55 24 38,.mv 37 25,.st 55 26 38,.ro [(none,25),(some 55,26)]] [.fa 55 24 1 39,.ld 3 39 40,.bo .eql 3 40 4 57,.mv 57 56,.cn 56 [.mv 27 58,.ca false true 5 [58,3] 59,.fa 55 24 4 60,.st 46 60 59,.fa 55 24 1 61,.st 3 61 6,.jn mY] [.bo .eql 3 40 6 63,.mv 63 62,.cn 62 [.mv 27 64,.ld 23 22 65,.fa 55 24 4 66,.ld 46 66 67,.ca false true 7 [65,67] 68,.ca false true 5 [64,68] 69,.fa 55 24 5 70,.st 46 70 69,.fa 55 24 1 71,.st 3 71 4,.rg,.fa 55 24 5 72,.so 72,.ld 46 72 73,.ld 23 22 74,.fa 55 24 4 75,.ld 46 75 76,.ca true true 8 [74,76] 77,.ca false true 9 [73,77] 78,.mv 78 28,.mv 28 79,.bo .eql 3 79 4 80,.cn 80 [.fa 55 24 1 81,.st 3 81 10,.jn mY] [.mv 28 82,.bo .lss 3 82 4 83,.cn 83 [.ld 55 24 84,.ca false true 11 [84,12,13] 85,.st 55 24 85,.jn mY] [.jn mY]]] [.bo .eql 3 40 10 87,.mv 87 86,.cn 86 [.mv 14 29,.fa 55 24 1 88,.st 3 88 4,.mv 27 90,.fa 55 24 4 91,.ld 46 91 92,.fa 55 24 4 93,.ld 46 93 94,.bo .add 46 94 15 95,.ca false true 16 [90,3,92,95] 96,.mv 96 89,.ex 89 0 97,.ex 89 1 98,.mv 97 27,.mv 98 29,.mv 29 99,.cn 99 [.fa 55 24 1 100,.st 3 100 12,.jn mY] [.jn mY]] [.bo .eql 3 40 12 102,.mv 102 101,.cn 101 [.mv 27 103,.ld 23 22 104,.fa 55 24 4 105,.ld 46 105 106,.ca false true 17 [104,106] 107,.ca false true 5 [103,107] 108,.fa 55 24 3 109,.st 46 109 108,.fa 55 24 1 110,.st 3 110 3,.jn mY] [.rg,.mv 27 41,.ld 23 22 42,.fa 55 24 4 43,.ld 46 43 44,.ca true true 7 [42,44] 45,.so 22,.ld 23 22 46,.fa 55 24 4 47,.so 47,.ld 46 47 48,.ca false true 8 [46,48] 49,.bo .add 46 49 15 50,.ca false true 18 [41,45,50] 51,.mv 51 27,.ld 55 24 52,.fa 55 24 3 53,.ld 46 53 54,.ca false true 11 [52,6,54] 55,.st 55 24 55,.jn mY]]]]]] 91 [a,b,c] h :)
def ajJ:=(yE5 k wl 168 Tryz.f168 [a,b,c] h :)
def ab0:=(jB5 s k wl 168 Tryz.f168 mY .norm [.u] 1 [.rg,.mv 9 93,.ld 55 6 94,.mv 93 7,.st 55 8 94,.ro [(none,7),(some 55,8)]] (a::b::c::d::e::g::i::j::l::m::o::p::q::r::u::v::w::x::y::z::A::B::C::D::E::F::G::I::J::L::M::N::O::Q::R::S::T::U::W::X::Y::Z::ta::tb::tc::td::te::tf::tg::th::ti::tj::tk::tl::tm::tn::tp::tq::tr::ts::tt::tu::tv::tw::tx::ty::tz::tA::tB::tC::tD::tE::tF::tG::tH::tI::tJ::tK::tL::tM::tN::tO::tP::tQ::tR::tS::tT::tU::tV::tW::tX::tY::tZ::q0::[]) h :)
def IA:=(yK5 cx K mY s0 :)
def akj:=(yB5 s k wl 180 Tryz.f180 [.u,.i 0,.f 207,.i 1,.f 208,.i 2,.f 209,.f 76] 8 [.bx 8 11,.bx 10 13,.nl 14,.al 55 15,.fa 55 13 0 16,.ld 3 16 17,.bo .eql 3 17 1 19,.mv 19 18,.cn 18 [.ld 23 11 20,.mv 9 21,.ld 55 13 22,.ca false true 2 [20,21,22] 23,.ex 23 0 24,.ex 23 1 25,.mv 24 14,.st 55 15 25,.ro [(none,14),(some 55,15)]] [.bo .eql 3 17 3 27,.mv 27 26,.cn 26 [.ld 23 11 28,.mv 9 29,.ld 55 13 30,.ca false true 4 [28,29,30] 31,.ex 31 0 32,.ex 31 1 33,.mv 32 14,.st 55 15 33,.ro [(none,14),(some 55,15)]] [.bo .eql 3 17 5 35,.mv 35 34,.cn 34 [.ld 23 11 36,.mv 9 37,.ld 55 13 38,.ca false true 6 [36,37,38] 39,.ex 39 0 40,.ex 39 1 41,.mv 40 14,.st 55 15 41,.ro [(none,14),(some 55,15)]] [.rg,.mv 9 42,.ca true true 7 [42] 43,.so 13,.ld 55 13 44,.mv 43 14,.st 55 15 44,.ro [(none,14),(some 55,15)]]]]] 34 [a,b,c] h :)
def ane:=(yE5 k wl 180 Tryz.f180 [a,b,c] h :)
end
end Go.Ab
set_option maxRecDepth 100000
set_option linter.unusedVariables false
namespace Go.Ab
open Go.Proofs
section
variable (s:Sys) (k wl m0 n n0:Nat) (a b c d e g i j l m o p q r u v w x y z A B C D E F G I J L M N O Q R S T U W X Y Z ta tb tc td te tf tg th ti tj tk tl tm tn tp tq tr ts tt tu tv tw tx ty tz tA tB tC tD tE:V) (h:Hp) (ac:List Nat×List Nat) (zz:List V) (cx:Cx) (K:Out→St→Option (V×Hp)) (s0:St) (P:Program) (rd:Bool)
noncomputable def cL:Code:=ai (aj Tryz.f42) [1,0]
noncomputable def cF:List Fr:=[.seq (ai (aj Tryz.f42) [1,1])]
def arc:=(yB5 s k wl 42 Tryz.f42 [.u,.b false,.i 0,.b true,.f 81] 5 [.bx 5 8,.mv 1 11,.rg,.fa 48 8 0 12,.ld 3 12 13,.bo .eql 3 13 2 14,.mv 14 15,.gd 15 [.mv 3 15,.fa 48 8 1 16,.ld 3 16 17,.mv 6 18,.ca false true 4 [17,18] 19,.sg cL 8 cF] [.mv 1 15,.sg cL 8 cF] [.sg cL 5 cF]] 34 [a,b,c] h :)
def aqE:=(yE5 k wl 42 Tryz.f42 [a,b,c] h :)
def adt:=(gB5 s k wl 42 Tryz.f42 cL 8 cF [.u,.b false,.b true,.i 1] 4 [.pk 14 18 1 19,.mv 19 20,.gd 20 [.mv 2 20,.mv 0 21,.mv 0 22,.mv 0 23,.mv 0 24,.mv 0 25,.mv 0 26,.mv 0 27,.mv 0 28,.mv 0 29,.sg cL 19 cF] [.mv 1 20,.fa 48 7 0 21,.ld 3 21 22,.bo .eql 3 22 3 23,.mv 23 24,.sg cL 14 cF] [.mv 0 21,.sg cL 11 cF]] (a::b::c::d::e::g::i::j::l::m::o::p::q::r::u::v::w::x::y::z::A::B::C::D::E::F::zz) h m0 ac :)
def aeA:=(gB5 s k wl 42 Tryz.f42 cL 19 cF [.u,.b true,.b false,.i 2] 4 [.pk 20 1 29 30,.mv 30 31,.gd 31 [.mv 1 31,.mv 0 32,.mv 0 33,.mv 0 34,.sg cL 24 cF] [.mv 2 31,.fa 48 7 0 32,.ld 3 32 33,.bo .eql 3 33 3 34,.sg cL 24 cF] [.mv 0 32,.sg cL 22 cF]] (a::b::c::d::e::g::i::j::l::m::o::p::q::r::u::v::w::x::y::z::A::B::C::D::E::F::G::I::J::L::M::zz) h m0 ac :)
def af5:=(gB5 s k wl 42 Tryz.f42 cL 14 cF [.u,.b true,.f 81,.b false] 4 [.gd 24 [.mv 1 24,.fa 48 7 1 25,.ld 3 25 26,.mv 6 27,.ca false true 2 [26,27] 28,.sg cL 18 cF] [.mv 3 24,.mv 0 25,.mv 0 26,.mv 0 27,.mv 0 28,.sg cL 18 cF] [.mv 0 25,.sg cL 15 cF]] (a::b::c::d::e::g::i::j::l::m::o::p::q::r::u::v::w::x::y::z::A::B::C::D::E::zz) h m0 ac :)
def aeW:=(gB5 s k wl 42 Tryz.f42 cL 24 cF [.u,.b true,.b false,.i 3] 4 [.pk 31 1 34 35,.mv 35 36,.gd 36 [.mv 1 36,.mv 0 37,.mv 0 38,.mv 0 39,.sg cL 29 cF] [.mv 2 36,.fa 48 7 0 37,.ld 3 37 38,.bo .eql 3 38 3 39,.sg cL 29 cF] [.mv 0 37,.sg cL 27 cF]] [a,b,c,d,e,g,i,j,l,m,o,p,q,r,u,v,w,x,y,z,A,B,C,D,E,F,G,I,J,L,M,N,O,Q,R,S,T] h m0 ac :)
def ahq:=(gB5 s k wl 42 Tryz.f42 cL 18 cF [.u,.b true,.b false] 3 [.gd 19 [.mv 1 19,.mv 0 28,.sg cL 19 cF] [.mv 2 19,.pk 23 27 2 28,.sg cL 19 cF] [.mv 0 28,.sg cL 19 cF]] (a::b::c::d::e::g::i::j::l::m::o::p::q::r::u::v::w::x::y::z::A::B::C::D::E::F::zz) h m0 ac :)
def ac2:=(gB5 s k wl 42 Tryz.f42 cL 15 cF [.u,.b true,.f 81,.b false] 4 [.gd 24 [.mv 1 24,.ld 3 25 26,.mv 6 27,.ca false true 2 [26,27] 28,.sg cL 18 cF] [.mv 3 24,.mv 0 26,.mv 0 27,.mv 0 28,.sg cL 18 cF] [.mv 0 26,.sg cL 16 cF]] (a::b::c::d::e::g::i::j::l::m::o::p::q::r::u::v::w::x::y::z::A::B::C::D::E::zz) h m0 ac :)
def agM:=(gB5 s k wl 42 Tryz.f42 cL 29 cF [.u,.b true] 2 [.pk 34 1 37 38,.mv 38 8,.rv 8] [a,b,c,d,e,g,i,j,l,m,o,p,q,r,u,v,w,x,y,z,A,B,C,D,E,F,G,I,J,L,M,N,O,Q,R,S,T] h m0 ac :)
def adQ:=(gB5 s k wl 42 Tryz.f42 cL 16 cF [.u,.b true,.f 81,.b false] 4 [.gd 24 [.mv 1 24,.mv 6 27,.ca false true 2 [26,27] 28,.sg cL 18 cF] [.mv 3 24,.mv 0 27,.mv 0 28,.sg cL 18 cF] [.mv 0 27,.sg cL 17 cF]] (a::b::c::d::e::g::i::j::l::m::o::p::q::r::u::v::w::x::y::z::A::B::C::D::E::zz) h m0 ac :)
def agj:=(gB5 s k wl 42 Tryz.f42 cL 17 cF [.u,.b true,.f 81,.b false] 4 [.gd 24 [.mv 1 24,.ca false true 2 [26,27] 28,.sg cL 18 cF] [.mv 3 24,.mv 0 28,.sg cL 18 cF] [.mv 0 28,.sg cL 18 cF]] (a::b::c::d::e::g::i::j::l::m::o::p::q::r::u::v::w::x::y::z::A::B::C::D::E::zz) h m0 ac :)
def N6:=(yK5 cx K cF s0 :)
noncomputable def K5:Code:=ai (aj Tryz.f59) [1,1,0,1,0,0]
noncomputable def K0:List Fr:=[.block 0,.seq (ai (aj Tryz.f59) [1,1,1])]
def apx:=(yB5 s k wl 59 Tryz.f59 [.u,.f 103,.i 0] 3 [.bx 3 4,.nl 5,.nl 6,.ld 23 4 7,.ca false true 1 [7] 8,.mv 2 9,.lo K5 [7,5] K0] 12 [a] h :)
def apr:=(yE5 k wl 59 Tryz.f59 [a] h :)
def apd:=(yZ5 P Tryz.f59 [.u] 1 [.rv 3] (a::b::c::zz) h :)
def afL:=(rL5 s k wl 59 rd K5 n0 K n [.u,.v (.lit (.int .u64 0)),.i 1] 3 [.bo .lss 3 9 8 10,.cn 10 [.mv 6 11,.bS false 26 1 [(0,1)] 12,.ap 26 26 11 12 13,.mv 13 6,.bo .add 3 9 2 14,.mv 14 9,.nx K5 [7,5]] [.kt (.exit 0) [6,6]]] [a,b,c,d,e,g,i,j,l,m,o,p,q] h :)
def WL:=(jB5 s k wl 59 Tryz.f59 K0 (.exit 0) [.u] 1 [.mv 4 13,.mv 13 3,.rv 3] [a,b,c,d,e,g,i,j,l,m,o,p,q] h :)
def Ej:=(yK5 cx K K0 s0 :)
def aqP:=(yB5 s k wl 60 Tryz.f60 [.u,.f 104,.i 1,.v (.lit (.int .u64 0))] 4 [.al 65 6,.mv 4 7,.ca false true 1 [2,7,3] 8,.bu 65 [(2,8)] 9,.st 65 6 9,.ro [(some 65,6)]] 5 [a] h :)
def ap8:=(yE5 k wl 60 Tryz.f60 [a] h :)
noncomputable def MF:Code:=ai (aj Tryz.f81) [1,0]
noncomputable def H6:List Fr:=[.seq (ai (aj Tryz.f81) [1,1])]
def apV:=(yB5 s k wl 81 Tryz.f81 [.u,.b false,.i 0,.b true] 4 [.mv 1 8,.rg,.mv 4 9,.bo .geq 3 9 2 10,.mv 10 11,.gd 11 [.mv 3 11,.mv 4 12,.mv 5 13,.bo .lss 3 12 13 14,.sg MF 6 H6] [.mv 1 11,.sg MF 6 H6] [.sg MF 4 H6]] 10 [a,b] h :)
def aqa:=(yE5 k wl 81 Tryz.f81 [a,b] h :)
def ada:=(gB5 s k wl 81 Tryz.f81 MF 6 H6 [.u,.b false] 2 [.pk 9 12 1 13,.mv 13 6,.rv 6] [a,b,c,d,e,g,i,j,l,m,o,p] h m0 ac :)
def Om:=(yK5 cx K H6 s0 :)
end
end Go.Ab
set_option maxRecDepth 100000
set_option linter.unusedVariables false
namespace Go.Ab
open Go.Proofs
section
variable (s:Sys) (k wl n n0 m0:Nat) (a b c d e g i j l m o p q r u v w x y z A B C D E F G I J L M N O Q R S T U W X Y Z ta tb tc td te tf tg th ti tj tk tl:V) (h:Hp) (P:Program) (zz:List V) (K:Out→St→Option (V×Hp)) (rd:Bool) (cx:Cx) (s0:St) (ac:List Nat×List Nat)
noncomputable def FA:Code:=ai (aj Tryz.f146) [1,0]
noncomputable def CW:List Fr:=[.seq (ai (aj Tryz.f146) [1,1])]
def aeu:=(yB5 s k wl 146 Tryz.f146 [.u,.b false,.f 56,.b true,.f 170] 5 [.bx 5 7,.mv 1 9,.rg,.ld 24 7 10,.ca false true 2 [10] 11,.mv 11 12,.gd 12 [.mv 3 12,.mv 6 13,.fn 171 [] [7] 14,.ca false true 4 [13,14] 15,.un .not 15 16,.sg FA 7 CW] [.mv 1 12,.sg FA 7 CW] [.sg FA 4 CW]] 11 [a,b] h :)
def age:=(yE5 k wl 146 Tryz.f146 [a,b] h :)
def RS:=(gB5 s k wl 146 Tryz.f146 FA 7 CW [.u,.b false] 2 [.pk 9 13 1 14,.mv 14 6,.rv 6] [a,b,c,d,e,g,i,j,l,m,o,p,q] h m0 ac :)
def Bv:=(yK5 cx K CW s0 :)
noncomputable def Ez:Code:=ai (aj Tryz.f162) [1,0,0]
noncomputable def Cs:List Fr:=[.seq (ai (aj Tryz.f162) [1,0,1]),.seq (ai (aj Tryz.f162) [1,1])]
def ajf:=(yB5 s k wl 162 Tryz.f162 [.u,.i 0,.b true,.b false,.f 146] 5 [.al 194 9,.rg,.mv 6 12,.le 63 12 13,.bo .eql 3 13 1 14,.mv 14 15,.gd 15 [.mv 2 15,.sg Ez 8 Cs] [.mv 3 15,.mv 5 16,.mv 6 17,.ca false true 4 [16,17] 18,.un .not 18 19,.sg Ez 8 Cs] [.sg Ez 5 Cs]] 52 [a,b] h :)
def anG:=(yE5 k wl 162 Tryz.f162 [a,b] h :)
def Yr:=(gB5 s k wl 162 Tryz.f162 Ez 8 Cs [.u,.b true,.i 1,.i 2,.i 3] 5 [.pk 15 1 19 20,.cn 20 [.bu 194 [] 21,.st 194 9 21,.ro [(some 194,9)]] [.mv 6 22,.mv 6 23,.le 63 23 24,.bo .sub 3 24 2 25,.ia 63 22 25 26,.ld 129 26 27,.al 129 10,.st 129 10 27,.mv 5 28,.fa 129 10 0 29,.ld 3 29 30,.ia 24 28 30 31,.ld 101 31 32,.al 101 11,.st 101 11 32,.fa 129 10 1 34,.ld 3 34 35,.fa 101 11 0 36,.ld 3 36 37,.bo .lss 3 35 37 38,.mv 38 33,.cn 33 [.fa 129 10 0 39,.ld 3 39 40,.bu 194 [(0,2),(1,40)] 41,.st 194 9 41,.ro [(some 194,9)]] [.fa 129 10 2 43,.ld 3 43 44,.fa 101 11 1 45,.ld 53 45 46,.le 53 46 47,.bo .lss 3 44 47 48,.mv 48 42,.cn 42 [.fa 101 11 1 49,.ld 53 49 50,.fa 129 10 2 51,.ld 3 51 52,.ia 53 50 52 53,.ld 3 53 54,.bu 194 [(0,3),(1,54)] 55,.st 194 9 55,.ro [(some 194,9)]] [.fa 129 10 0 56,.ld 3 56 57,.bu 194 [(0,4),(1,57)] 58,.st 194 9 58,.ro [(some 194,9)]]]]] [a,b,c,d,e,g,i,j,l,m,o,p,q,r,u,v,w,x,y,z,A,B,C,D,E,F,G,I,J,L,M,N,O,Q,R,S,T,U,W,X,Y,Z,ta,tb,tc,td,te,tf,tg,th,ti,tj,tk,tl] h m0 ac :)
def Jr:=(yK5 cx K Cs s0 :)
def akX:=(yB5 s k wl 163 Tryz.f163 [.u,.f 79,.f 182,.f 162] 4 [.nl 8,.mv 5 12,.ca false true 1 [12] 13,.mv 13 9,.ca false true 2 [] 15,.mv 4 16,.mv 5 17,.ca false true 3 [16,17] 18,.fi 194 18 0 19,.lk 201 15 19 true 20,.mv 20 14,.ex 14 0 21,.ex 14 1 22,.mv 21 10,.mv 22 11,.mv 11 23,.cn 23 [.mv 10 24,.mv 9 25,.ca false true 24 [25] 26,.mv 26 8,.rv 8] [.mv 9 27,.mv 27 8,.rv 8]] 22 [a,b] h :)
def aiW:=(yE5 k wl 163 Tryz.f163 [a,b] h :)
def aeb:=(yB5 s k wl 170 Tryz.f170 [.u,.b false,.f 206,.i 0] 4 [.mv 1 8,.mv 4 9,.mv 5 10,.ca false true 2 [9,10] 11,.bo .geq 3 11 3 12,.mv 12 8,.rv 8] 7 [a,b] h :)
def ad0:=(yE5 k wl 170 Tryz.f170 [a,b] h :)
noncomputable def dd:Code:=ai (aj Tryz.f171) [1,1,1,0]
noncomputable def cS:List Fr:=[.seq (ai (aj Tryz.f171) [1,1,1,1])]
def ahi:=(yB5 s k wl 171 Tryz.f171 [.u,.b false,.i 1,.f 172,.b true] 5 [.bx 5 7,.mv 1 8,.fa 129 7 0 10,.ld 3 10 11,.ld 24 6 12,.le 24 12 13,.bo .sub 3 13 2 14,.ca false true 3 [11,14] 15,.un .not 15 16,.cn 16 [.mv 4 8,.rv 8] [.ld 24 6 17,.fa 129 7 0 18,.ld 3 18 19,.ia 24 17 19 20,.ld 101 20 21,.al 101 9,.st 101 9 21,.rg,.fa 129 7 1 22,.ld 3 22 23,.fa 101 9 0 24,.ld 3 24 25,.ca false true 3 [23,25] 26,.un .not 26 27,.mv 27 28,.gd 28 [.mv 4 28,.sg dd 14 cS] [.mv 1 28,.fa 129 7 2 29,.ld 3 29 30,.fa 101 9 1 31,.ld 53 31 32,.le 53 32 33,.ca false true 3 [30,33] 34,.un .not 34 35,.sg dd 14 cS] [.sg dd 8 cS]]] 42 [a,b] h :)
def aez:=(yE5 k wl 171 Tryz.f171 [a,b] h :)
def Pe:=(gB5 s k wl 171 Tryz.f171 dd 14 cS [.u,.b true,.b false] 3 [.pk 26 1 33 34,.mv 34 35,.gd 35 [.mv 1 35,.mv 0 36,.mv 0 37,.mv 0 38,.mv 0 39,.mv 0 40,.mv 0 41,.mv 0 42,.mv 0 43,.mv 0 44,.mv 0 45,.sg dd 26 cS] [.mv 2 35,.fa 129 5 1 36,.ld 3 36 37,.fa 101 7 0 38,.ld 3 38 39,.bo .lss 3 37 39 40,.mv 40 41,.sg dd 22 cS] [.mv 0 36,.sg dd 17 cS]] [a,b,c,d,e,g,i,j,l,m,o,p,q,r,u,v,w,x,y,z,A,B,C,D,E,F,G,I,J,L,M,N,O,Q,R,S,T,U,W,X,Y,Z,ta,tb] h m0 ac :)
def Qg:=(gB5 s k wl 171 Tryz.f171 dd 26 cS [.u,.b true] 2 [.pk 34 1 44 45,.mv 45 5,.rv 5] [a,b,c,d,e,g,i,j,l,m,o,p,q,r,u,v,w,x,y,z,A,B,C,D,E,F,G,I,J,L,M,N,O,Q,R,S,T,U,W,X,Y,Z,ta,tb] h m0 ac :)
def OP:=(gB5 s k wl 171 Tryz.f171 dd 22 cS [.u,.b true,.i 0,.b false] 4 [.gd 42 [.mv 1 42,.fa 129 6 2 43,.ld 3 43 44,.bo .gtr 3 44 2 45,.sg dd 25 cS] [.mv 3 42,.mv 0 43,.mv 0 44,.mv 0 45,.sg dd 25 cS] [.mv 0 43,.sg dd 23 cS]] [a,b,c,d,e,g,i,j,l,m,o,p,q,r,u,v,w,x,y,z,A,B,C,D,E,F,G,I,J,L,M,N,O,Q,R,S,T,U,W,X,Y,Z,ta,tb] h m0 ac :)
def RZ:=(gB5 s k wl 171 Tryz.f171 dd 25 cS [.u,.b true,.b false] 3 [.gd 35 [.mv 1 35,.mv 0 45,.sg dd 26 cS] [.mv 2 35,.pk 41 44 2 45,.sg dd 26 cS] [.mv 0 45,.sg dd 26 cS]] [a,b,c,d,e,g,i,j,l,m,o,p,q,r,u,v,w,x,y,z,A,B,C,D,E,F,G,I,J,L,M,N,O,Q,R,S,T,U,W,X,Y,Z,ta,tb] h m0 ac :)
def OX:=(gB5 s k wl 171 Tryz.f171 dd 23 cS [.u,.b true,.i 0,.b false] 4 [.gd 42 [.mv 1 42,.ld 3 43 44,.bo .gtr 3 44 2 45,.sg dd 25 cS] [.mv 3 42,.mv 0 44,.mv 0 45,.sg dd 25 cS] [.mv 0 44,.sg dd 24 cS]] [a,b,c,d,e,g,i,j,l,m,o,p,q,r,u,v,w,x,y,z,A,B,C,D,E,F,G,I,J,L,M,N,O,Q,R,S,T,U,W,X,Y,Z,ta,tb] h m0 ac :)
def RA:=(gB5 s k wl 171 Tryz.f171 dd 24 cS [.u,.b true,.i 0,.b false] 4 [.gd 42 [.mv 1 42,.bo .gtr 3 44 2 45,.sg dd 25 cS] [.mv 3 42,.mv 0 45,.sg dd 25 cS] [.mv 0 45,.sg dd 25 cS]] [a,b,c,d,e,g,i,j,l,m,o,p,q,r,u,v,w,x,y,z,A,B,C,D,E,F,G,I,J,L,M,N,O,Q,R,S,T,U,W,X,Y,Z,ta,tb] h m0 ac :)
def BV:=(yK5 cx K cS s0 :)
noncomputable def EO:Code:=ai (aj Tryz.f172) [1,0]
noncomputable def A8:List Fr:=[.seq (ai (aj Tryz.f172) [1,1])]
def akx:=(yB5 s k wl 172 Tryz.f172 [.u,.b false,.i 0,.b true] 4 [.mv 1 8,.rg,.mv 4 9,.bo .geq 3 9 2 10,.mv 10 11,.gd 11 [.mv 3 11,.mv 4 12,.mv 5 13,.bo .leq 3 12 13 14,.sg EO 6 A8] [.mv 1 11,.sg EO 6 A8] [.sg EO 4 A8]] 10 [a,b] h :)
def anr:=(yE5 k wl 172 Tryz.f172 [a,b] h :)
def acj:=(gB5 s k wl 172 Tryz.f172 EO 6 A8 [.u,.b false] 2 [.pk 9 12 1 13,.mv 13 6,.rv 6] [a,b,c,d,e,g,i,j,l,m,o,p] h m0 ac :)
def Ka:=(yK5 cx K A8 s0 :)
noncomputable def FZ:Code:=ai (aj Tryz.f181) [1,1,0,0]
noncomputable def Bd:List Fr:=[.seq (ai (aj Tryz.f181) [1,1,0,1]),.seq (ai (aj Tryz.f181) [1,1,1])]
def aiJ:=(yB5 s k wl 181 Tryz.f181 [.u,.f 79,.f 146,.b true,.b false,.i 1,.f 172] 7 [.nl 13,.mv 8 15,.ca false true 1 [15] 16,.mv 16 14,.rg,.mv 7 17,.mv 8 18,.ca false true 2 [17,18] 19,.un .not 19 20,.mv 20 21,.gd 21 [.mv 3 21,.sg FZ 11 Bd] [.mv 4 21,.mv 9 22,.mv 7 23,.le 24 23 24,.bo .sub 3 24 5 25,.ca false true 6 [22,25] 26,.un .not 26 27,.sg FZ 11 Bd] [.sg FZ 6 Bd]] 25 [a,b,c] h :)
def ajD:=(yE5 k wl 181 Tryz.f181 [a,b,c] h :)
def ZS:=(gB5 s k wl 181 Tryz.f181 FZ 11 Bd [.u,.b true] 2 [.pk 16 1 22 23,.cn 23 [.mv 9 24,.mv 24 8,.rv 8] [.mv 9 25,.mv 4 26,.bu 129 [(0,26)] 27,.bS false 63 1 [(0,27)] 28,.ap 63 63 25 28 29,.mv 29 8,.rv 8]] [a,b,c,d,e,g,i,j,l,m,o,p,q,r,u,v,w,x,y,z,A,B,C,D,E,F,G,I] h m0 ac :)
def JE:=(yK5 cx K Bd s0 :)
def anV:=(yB5 s k wl 182 Tryz.f182 [.u,.v (f9 (Value.map none)),.i 1,.f 210,.i 2,.f 211,.i 3,.f 212] 8 [.mv 1 8,.mk 9,.is 201 9 2 3,.is 201 9 4 5,.is 201 9 6 7,.mv 9 10,.mv 10 8,.rv 8] 3 [] h :)
def ak9:=(yE5 k wl 182 Tryz.f182 [] h :)
noncomputable def Fs:Code:=ai (aj Tryz.f206) [1,0,1,0,0]
noncomputable def Es:List Fr:=[.block 0,.seq (ai (aj Tryz.f206) [1,1])]
def agt:=(yB5 s k wl 206 Tryz.f206 [.u,.i 0] 2 [.mv 1 6,.mv 2 8,.le 63 8 9,.mv 1 10,.lo Fs [9] Es] 17 [a,b] h :)
def afz:=(yE5 k wl 206 Tryz.f206 [a,b] h :)
def ago:=(yZ5 P Tryz.f206 [.u] 1 [.rv 5] (a::b::c::d::e::zz) h :)
def Za:=(rL5 s k wl 206 rd Fs n0 K n [.u,.i 1] 2 [.bo .lss 3 10 9 11,.cn 11 [.mv 10 12,.mv 12 7,.mv 3 13,.mv 2 14,.mv 7 15,.ia 63 14 15 16,.ld 129 16 17,.ca false true 13 [17] 18,.cn 18 [.mv 7 19,.mv 19 6,.kf .ret] [.bo .add 3 10 1 20,.mv 20 10,.nx Fs [9]]] [.kt (.exit 0) [8]]] [a,b,c,d,e,g,i,j,l,m,o,p,q,r,u,v,w,x,y] h :)
def Rj:=(jB5 s k wl 206 Tryz.f206 Es (.exit 0) [.u,.i (-1)] 2 [.mv 1 6,.rv 6] (a::b::c::d::e::zz) h :)
def CM:=(yK5 cx K Es s0 :)
def aoJ:=(yB5 s k wl 210 Tryz.f210 [.u,.i 1] 2 [.nl 4,.mv 2 5,.mv 2 6,.le 63 6 7,.bo .sub 3 7 1 8,.ia 63 5 8 9,.fa 129 9 1 10,.ld 3 10 11,.bo .add 3 11 1 12,.ia 63 5 8 13,.fa 129 13 1 14,.st 3 14 12,.mv 2 15,.mv 15 4,.rv 4] 13 [a] h :)
def aky:=(yE5 k wl 210 Tryz.f210 [a] h :)
def amo:=(yB5 s k wl 211 Tryz.f211 [.u,.i 1] 2 [.nl 4,.mv 2 5,.mv 2 6,.le 63 6 7,.bo .sub 3 7 1 8,.ia 63 5 8 9,.fa 129 9 2 10,.ld 3 10 11,.bo .add 3 11 1 12,.ia 63 5 8 13,.fa 129 13 2 14,.st 3 14 12,.mv 2 15,.mv 15 4,.rv 4] 13 [a] h :)
def amf:=(yE5 k wl 211 Tryz.f211 [a] h :)
def aif:=(yB5 s k wl 212 Tryz.f212 [.u,.i 1] 2 [.nl 4,.mv 2 5,.mv 2 6,.le 63 6 7,.bo .sub 3 7 1 8,.sl false 63 5 0 8 0 9,.mv 9 4,.rv 4] 7 [a] h :)
def alg:=(yE5 k wl 212 Tryz.f212 [a] h :)
end
end Go.Ab
set_option maxRecDepth 100000
set_option linter.unusedVariables false
namespace Go.Ab
open Go.Proofs
section
variable (s:Sys) (k wl m0:Nat) (a b c d e g i j l m o p q r u v w x y z A B C D E F G I J L M N O Q R S T U W X Y Z ta tb tc td te tf tg th ti tj tk tl tm tn tp tq tr ts tt tu tv tw tx ty tz tA tB tC tD tE tF tG tH tI tJ tK tL tM tN tO tP tQ tR tS tT tU tV tW tX tY tZ q0 q1 q2 q3 q4 q5 q6 q7 q8 q9 qa qb qc qd qe qf qg qh qi qj qk ql qm qn qo qp qq qr qs qt qu qv qw qx qy qz qA qB qC qD qE qG qH qI qJ qK qL:V) (h:Hp) (ac:List Nat×List Nat) (zz:List V) (cx:Cx) (K:Out→St→Option (V×Hp)) (s0:St)
def aqz:=(yB5 s k wl 83 Tryz.f83 [.u,.f 76,.f 79,.f 95] 4 [.bx 4 10,.bx 8 14,.nl 16,.al 65 17,.nl 18,.rg,.so 14,.ld 65 14 21,.so 10,.ld 23 10 22,.mv 5 23,.mv 6 24,.ca true true 1 [24] 25,.mv 7 26,.mv 9 27,.bu 168 [(0,21),(1,22),(2,23),(3,25),(4,26),(5,27)] 28,.bx 28 29,.mv 29 19,.mv 19 30,.fa 65 14 1 31,.ld 63 31 32,.ca false true 2 [32] 33,.nk 30 34,.fa 168 34 0 35,.fa 65 35 1 36,.st 63 36 33,.ld 23 10 37,.mv 5 38,.mv 6 39,.mv 7 40,.ld 65 14 41,.ca false true 3 [37,38,39,40,41] 42,.un .not 42 43,.cn 43 [.rg,.mv 19 44,.nk 44 45,.fa 168 45 3 46,.ld 26 46 47,.mv 19 48,.nk 48 49,.fa 168 49 0 50,.ld 65 50 51,.mv 47 16,.st 65 17 51,.nl 18,.ro [(none,16),(some 65,17),(none,18)]] [.mv 19 52,.fn 116 [52] [] 53,.mv 19 54,.fn 117 [54] [] 55,.mv 19 56,.fn 118 [56] [] 57,.mv 19 58,.fn 118 [58] [] 59,.mv 19 60,.fn 119 [60] [] 61,.mv 19 62,.fn 120 [62] [] 63,.mv 19 64,.fn 121 [64] [] 65,.mv 19 66,.fn 122 [66] [] 67,.mv 19 68,.fn 123 [68] [] 69,.mv 19 70,.fn 124 [70] [] 71,.mv 19 72,.fn 125 [72] [] 73,.mv 19 74,.fn 126 [74] [] 75,.mv 19 76,.fn 127 [76] [] 77,.mv 19 78,.fn 128 [78] [] 79,.mv 19 80,.fn 129 [80] [] 81,.mv 19 82,.fn 130 [82] [] 83,.bu 169 [(0,53),(1,55),(2,57),(3,59),(4,61),(5,63),(6,65),(7,67),(8,69),(9,71),(10,73),(11,75),(12,77),(13,79),(14,81),(15,83)] 84,.al 169 20,.st 169 20 84,.fa 65 14 0 85,.ld 3 85 86,.ia 169 20 86 87,.ld 1 87 88,.ca false true 88 [] 89,.rg,.mv 19 90,.nk 90 91,.fa 168 91 3 92,.ld 26 92 93,.mv 19 94,.nk 94 95,.fa 168 95 0 96,.ld 65 96 97,.mv 19 98,.so 98,.lr 98,.nk 98 99,.fa 168 99 6 100,.so 100,.lr 100,.ld 34 100 101,.mv 93 16,.lw 17,.st 65 17 97,.mv 101 18,.pt,.ro [(none,16),(some 65,17),(none,18)]]] 92 [a,b,c,d,e,g] h :)
def aqg:=(yE5 k wl 83 Tryz.f83 [a,b,c,d,e,g] h :)
def alN:=(yB5 s k wl 116 Tryz.f116 [.u,.f 156,.i 1,.f 157,.i 9,.f 158] 6 [.mv 6 9,.ca false true 1 [9] 10,.un .not 10 11,.cn 11 [.rt []] [.mv 6 12,.nk 12 13,.fa 168 13 0 14,.fa 65 14 2 15,.ld 55 15 16,.al 55 8,.st 55 8 16,.fa 55 8 6 17,.ld 3 17 18,.bo .neq 3 18 2 19,.cn 19 [.mv 6 20,.ca false true 3 [20,2] 21,.rt []] [.mv 6 22,.ca false true 3 [22,4] 23,.mv 6 24,.fa 55 8 3 25,.ld 46 25 26,.ca false true 5 [24,26] 27,.rt []]]] 21 [a] h :)
def anW:=(yE5 k wl 116 Tryz.f116 [a] h :)
def ajX:=(yB5 s k wl 117 Tryz.f117 [.u,.f 159,.i 1,.v (.lit (.int .u64 1)),.f 160,.i 2,.i 4,.v (.lit (.int .u64 0))] 8 [.mv 8 10,.ca false true 1 [10,2,3] 11,.mv 8 12,.mv 8 13,.nk 13 14,.fa 168 14 1 15,.fa 23 15 3 16,.ld 3 16 17,.nk 12 18,.fa 168 18 0 19,.fa 65 19 3 20,.st 3 20 17,.mv 8 21,.mv 8 22,.nk 22 23,.fa 168 23 4 24,.ld 3 24 25,.ca false true 4 [21,5,6,25,7] 26,.rt []] 18 [a] h :)
def alQ:=(yE5 k wl 117 Tryz.f117 [a] h :)
noncomputable def Fg:Code:=ai (aj Tryz.f118) [0,1,1,1,0,0]
noncomputable def Ci:List Fr:=[.seq (ai (aj Tryz.f118) [0,1,1,1,0,1]),.seq (ai (aj Tryz.f118) [0,1,1,1,1]),.scope (ai (aj Tryz.f118) [0])]
def ajR:=(yB5 s k wl 118 Tryz.f118 [.u,.f 161,.f 156,.i 1,.i 4,.i 2,.b true,.i 0,.b false] 9 [.rg,.mv 9 12,.nk 12 13,.fa 168 13 5 14,.ld 46 14 15,.mv 9 16,.nk 16 17,.fa 168 17 4 18,.ld 3 18 19,.mv 9 20,.nk 20 21,.fa 168 21 1 22,.fa 23 22 0 23,.ld 3 23 24,.ca false true 1 [15,19,24] 25,.mv 25 11,.mv 9 26,.ca false true 2 [26] 27,.un .not 27 28,.cn 28 [.rt []] [.mv 9 29,.nk 29 30,.fa 168 30 0 31,.fa 65 31 2 32,.fa 55 32 6 33,.ld 3 33 34,.bo .eql 3 34 3 35,.cn 35 [.mv 9 76,.nk 76 77,.fa 168 77 0 78,.fa 65 78 0 79,.st 3 79 4,.rt []] [.rg,.mv 9 36,.nk 36 37,.fa 168 37 0 38,.fa 65 38 0 39,.ld 3 39 40,.bo .eql 3 40 5 41,.mv 41 42,.gd 42 [.mv 6 42,.mv 11 43,.bo .geq 3 43 7 44,.sg Fg 9 Ci] [.mv 8 42,.sg Fg 9 Ci] [.sg Fg 8 Ci]]]] 70 [a] h :)
def aik:=(yE5 k wl 118 Tryz.f118 [a] h :)
def acv:=(gB5 s k wl 118 Tryz.f118 Fg 9 Ci [.u,.b false,.f 160,.i 3,.i 2,.v (.lit (.int .u64 0)),.i 0,.i 5,.i 1,.i 4] 10 [.pk 43 45 1 46,.cn 46 [.mv 10 47,.mv 12 48,.ca false true 2 [47,3,4,48,5] 49,.rt []] [.mv 10 50,.nk 50 51,.fa 168 51 0 52,.fa 65 52 3 53,.ld 3 53 54,.bo .leq 3 54 6 55,.cn 55 [.mv 10 71,.mv 10 72,.nk 72 73,.fa 168 73 4 74,.ld 3 74 75,.ca false true 2 [71,7,7,75,5] 76,.rt []] [.mv 10 56,.nk 56 57,.fa 168 57 0 58,.fa 65 58 3 59,.ld 3 59 60,.bo .sub 3 60 8 61,.nk 56 62,.fa 168 62 0 63,.fa 65 63 3 64,.st 3 64 61,.mv 10 65,.mv 10 66,.nk 66 67,.fa 168 67 4 68,.ld 3 68 69,.ca false true 2 [65,4,9,69,5] 70,.rt []]]] (a::b::c::d::e::g::i::j::l::m::o::p::q::r::u::v::w::x::y::z::A::B::C::D::E::F::G::I::J::L::M::N::O::Q::R::S::T::U::W::X::Y::Z::ta::tb::tc::td::te::tf::tg::th::ti::tj::tk::tl::tm::tn::tp::tq::tr::ts::tt::tu::tv::tw::tx::ty::tz::zz) h m0 ac :)
def JY:=(yK5 cx K Ci s0 :)
noncomputable def E2:List Fr:=[.seq (ai (aj Tryz.f119) [1,1])]
def aoF:=(yB5 s k wl 119 Tryz.f119 [.u,.f 159,.i 1,.v (.lit (.int .u64 18446744073709551615)),.v (.lit (.int .u64 1)),.f 160,.i 14,.i 6,.v (.lit (.int .u64 0)),.f 157,.i 9] 11 [.mv 11 14,.nk 14 15,.fa 168 15 0 16,.fa 65 16 2 17,.fa 55 17 3 18,.ld 46 18 19,.mv 19 13,.mv 11 20,.ca false true 1 [20,2,3] 21,.bo .eql 46 21 4 22,.cn 22 [.mv 11 23,.mv 11 24,.nk 24 25,.fa 168 25 4 26,.ld 3 26 27,.ca false true 5 [23,6,7,27,8] 28,.jn E2] [.mv 11 29,.ca false true 9 [29,10] 30,.jn E2]] 22 [a] h :)
def ajy:=(yE5 k wl 119 Tryz.f119 [a] h :)
def abB:=(jB5 s k wl 119 Tryz.f119 E2 .norm [.u,.f 158] 2 [.mv 2 22,.mv 4 23,.ca false true 1 [22,23] 24,.rt []] [a,b,c,d,e,g,i,j,l,m,o,p,q,r,u,v,w,x,y,z,A,B,C] h :)
def Ko:=(yK5 cx K E2 s0 :)
def aiv:=(yB5 s k wl 120 Tryz.f120 [.u,.f 156,.i 6] 3 [.mv 3 5,.ca false true 1 [5] 6,.mv 3 7,.nk 7 8,.fa 168 8 0 9,.fa 65 9 0 10,.st 3 10 2,.rt []] 7 [a] h :)
def aly:=(yE5 k wl 120 Tryz.f120 [a] h :)
def aiK:=(yB5 s k wl 121 Tryz.f121 [.u,.f 159,.i 1,.v (.lit (.int .u64 18446744073709551615)),.i 7,.i 0] 6 [.mv 6 8,.ca false true 1 [8,2,3] 9,.mv 6 10,.mv 6 11,.nk 10 12,.fa 168 12 0 13,.fa 65 13 0 14,.st 3 14 4,.nk 11 15,.fa 168 15 0 16,.fa 65 16 4 17,.st 3 17 5,.rt []] 11 [a] h :)
def amT:=(yE5 k wl 121 Tryz.f121 [a] h :)
noncomputable def Fl:Code:=ai (aj Tryz.f122) [1,1,0,0]
noncomputable def B9:List Fr:=[.seq (ai (aj Tryz.f122) [1,1,0,1]),.seq (ai (aj Tryz.f122) [1,1,1])]
noncomputable def wx:List Fr:=[.block 0,.seq (ai (aj Tryz.f122) [1,1,1,1,1,1])]
def alR:=(yB5 s k wl 122 Tryz.f122 [.u,.i 2,.i 0,.b true,.b false] 5 [.mv 5 11,.nk 11 12,.fa 168 12 0 13,.fa 65 13 4 14,.ld 3 14 15,.mv 15 7,.mv 5 16,.nk 16 17,.fa 168 17 1 18,.fa 23 18 0 19,.ld 3 19 20,.bo .mul 3 1 20 21,.bo .add 3 1 21 22,.mv 22 8,.rg,.mv 7 23,.bo .lss 3 23 2 24,.mv 24 25,.gd 25 [.mv 3 25,.sg Fl 6 B9] [.mv 4 25,.mv 7 26,.mv 8 27,.bo .geq 3 26 27 28,.sg Fl 6 B9] [.sg Fl 4 B9]] 139 [a] h :)
def amC:=(yE5 k wl 122 Tryz.f122 [a] h :)
def ZZ:=(gB5 s k wl 122 Tryz.f122 Fl 6 B9 [.u,.b true,.i 8,.v (.lit (.int .u64 0)),.i 0,.b false,.i 2,.f 27,.i 4,.i 1,.i 5,.f 107,.f 108,.f 106] 14 [.pk 34 1 37 38,.cn 38 [.mv 14 39,.mv 14 40,.mv 14 41,.nk 39 42,.fa 168 42 0 43,.fa 65 43 0 44,.st 3 44 2,.nk 40 45,.fa 168 45 0 46,.fa 65 46 2 47,.fa 55 47 3 48,.st 46 48 3,.nk 41 49,.fa 168 49 0 50,.fa 65 50 4 51,.st 3 51 4,.rt []] [.mv 5 18,.mv 16 52,.bo .sub 3 52 6 53,.bo .quo 3 53 6 54,.mv 54 19,.mv 16 75,.bo .eql 3 75 4 76,.mv 76 74,.cn 74 [.mv 14 77,.mv 14 78,.nk 78 79,.fa 168 79 3 80,.ld 26 80 81,.ca false true 7 [81,8] 82,.nk 77 83,.fa 168 83 0 84,.fa 65 84 2 85,.fa 55 85 3 86,.st 46 86 82,.jn wx] [.mv 16 88,.bo .eql 3 88 9 89,.mv 89 87,.cn 87 [.rg,.mv 14 90,.nk 90 91,.fa 168 91 3 92,.ld 26 92 93,.ca true true 7 [93,10] 94,.mv 14 95,.so 95,.nk 95 96,.fa 168 96 0 97,.fa 65 97 2 98,.fa 55 98 3 99,.so 99,.ld 46 99 100,.bo .neq 46 94 100 101,.mv 101 18,.jn wx] [.mv 16 103,.bo .rem 3 103 6 104,.bo .eql 3 104 4 105,.mv 105 102,.cn 102 [.rg,.mv 14 106,.mv 14 107,.so 107,.nk 107 108,.fa 168 108 3 109,.so 109,.ld 26 109 110,.mv 14 111,.nk 111 112,.fa 168 112 1 113,.ld 23 113 114,.mv 19 115,.ca true true 11 [114,115] 116,.ca false true 7 [110,116] 117,.nk 106 118,.fa 168 118 0 119,.fa 65 119 2 120,.fa 55 120 3 121,.st 46 121 117,.jn wx] [.rg,.mv 14 55,.so 55,.nk 55 56,.fa 168 56 3 57,.so 57,.ld 26 57 58,.mv 14 59,.nk 59 60,.fa 168 60 1 61,.ld 23 61 62,.mv 19 63,.ca true true 12 [62,63] 64,.ca true true 7 [58,64] 65,.mv 14 66,.so 66,.nk 66 67,.fa 168 67 0 68,.fa 65 68 2 69,.fa 55 69 3 70,.so 70,.ld 46 70 71,.ca false true 13 [65,71] 72,.bo .gtr 3 72 4 73,.mv 73 18,.jn wx]]]]] (a::b::c::d::e::g::i::j::l::m::o::p::q::r::u::v::w::x::y::z::A::B::C::D::E::F::G::I::J::L::M::N::O::Q::R::S::T::U::W::X::Y::Z::ta::tb::tc::td::te::tf::tg::th::ti::tj::tk::tl::tm::tn::tp::tq::tr::ts::tt::tu::tv::tw::tx::ty::tz::tA::tB::tC::tD::tE::tF::tG::tH::tI::tJ::tK::tL::tM::tN::tO::tP::tQ::tR::tS::tT::tU::tV::tW::tX::tY::tZ::q0::q1::q2::q3::q4::q5::q6::q7::q8::q9::qa::qb::qc::qd::qe::zz) h m0 ac :)
def abe:=(jB5 s k wl 122 Tryz.f122 wx .norm [.u,.f 157,.i 1,.i 8,.v (.lit (.int .u64 0)),.i 0] 6 [.mv 10 114,.cn 114 [.mv 6 115,.ca false true 1 [115,2] 116,.rt []] [.mv 6 117,.nk 117 118,.fa 168 118 0 119,.fa 65 119 4 120,.ld 3 120 121,.bo .add 3 121 2 122,.nk 117 123,.fa 168 123 0 124,.fa 65 124 4 125,.st 3 125 122,.mv 6 126,.nk 126 127,.fa 168 127 0 128,.fa 65 128 4 129,.ld 3 129 130,.mv 9 131,.bo .eql 3 130 131 132,.cn 132 [.mv 6 133,.mv 6 134,.mv 6 135,.nk 133 136,.fa 168 136 0 137,.fa 65 137 0 138,.st 3 138 3,.nk 134 139,.fa 168 139 0 140,.fa 65 140 2 141,.fa 55 141 3 142,.st 46 142 4,.nk 135 143,.fa 168 143 0 144,.fa 65 144 4 145,.st 3 145 5,.rt []] [.rt []]]] (a::b::c::d::e::g::i::j::l::m::o::p::q::r::u::v::w::x::y::z::A::B::C::D::E::F::G::I::J::L::M::N::O::Q::R::S::T::U::W::X::Y::Z::ta::tb::tc::td::te::tf::tg::th::ti::tj::tk::tl::tm::tn::tp::tq::tr::ts::tt::tu::tv::tw::tx::ty::tz::tA::tB::tC::tD::tE::tF::tG::tH::tI::tJ::tK::tL::tM::tN::tO::tP::tQ::tR::tS::tT::tU::tV::tW::tX::tY::tZ::q0::q1::q2::q3::q4::q5::q6::q7::q8::q9::qa::qb::qc::qd::qe::qf::qg::qh::qi::qj::qk::ql::qm::qn::qo::qp::qq::qr::qs::qt::qu::qv::qw::qx::qy::qz::qA::qB::qC::qD::qE::qG::qH::qI::qJ::qK::qL::[]) h :)
def JC:=(yK5 cx K B9 s0 :)
def Jb:=(yK5 cx K wx s0 :)
def am2:=(yB5 s k wl 123 Tryz.f123 [.u,.f 156,.f 157,.i 1] 4 [.mv 4 6,.ca false true 1 [6] 7,.cn 7 [.mv 4 8,.ca false true 2 [8,3] 9,.rt []] [.rt []]] 5 [a] h :)
def anM:=(yE5 k wl 123 Tryz.f123 [a] h :)
def ajL:=(yB5 s k wl 124 Tryz.f124 [.u,.f 162,.i 1,.f 163,.i 2,.i 10,.i 3,.i 15,.f 160,.i 0,.v (.lit (.int .u64 0))] 11 [.rg,.mv 11 13,.nk 13 14,.fa 168 14 2 15,.ld 24 15 16,.mv 11 17,.nk 17 18,.fa 168 18 0 19,.fa 65 19 1 20,.ld 63 20 21,.ca false true 1 [16,21] 22,.fi 194 22 0 23,.bo .eql 3 23 2 31,.mv 31 30,.cn 30 [.rg,.mv 11 32,.mv 11 33,.nk 33 34,.fa 168 34 2 35,.ld 24 35 36,.mv 11 37,.nk 37 38,.fa 168 38 0 39,.fa 65 39 1 40,.ld 63 40 41,.ca false true 3 [36,41] 42,.nk 32 43,.fa 168 43 0 44,.fa 65 44 1 45,.st 63 45 42,.rt []] [.bo .eql 3 23 4 47,.mv 47 46,.cn 46 [.mv 11 48,.nk 48 49,.fa 168 49 0 50,.fa 65 50 0 51,.st 3 51 5,.rt []] [.bo .eql 3 23 6 53,.mv 53 52,.cn 52 [.mv 11 54,.nk 54 55,.fa 168 55 0 56,.fa 65 56 0 57,.st 3 57 7,.rt []] [.mv 11 24,.mv 11 25,.nk 25 26,.fa 168 26 4 27,.ld 3 27 28,.ca false true 8 [24,9,2,28,10] 29,.rt []]]]] 46 [a] h :)
def aiM:=(yE5 k wl 124 Tryz.f124 [a] h :)
def ai9:=(yB5 s k wl 125 Tryz.f125 [.u,.f 162,.i 2,.f 157,.i 9,.f 159,.i 0,.v (.lit (.int .u64 1)),.f 164,.i 3,.f 163,.f 160,.i 11] 13 [.rg,.al 194 15,.mv 13 16,.nk 16 17,.fa 168 17 2 18,.ld 24 18 19,.mv 13 20,.nk 20 21,.fa 168 21 0 22,.fa 65 22 1 23,.ld 63 23 24,.ca true true 1 [19,24] 25,.st 194 15 25,.fa 194 15 0 26,.ld 3 26 27,.bo .neq 3 27 2 28,.cn 28 [.mv 13 29,.ca false true 3 [29,4] 30,.rt []] [.mv 13 31,.ca false true 5 [31,6,7] 32,.mv 13 33,.fa 194 15 1 34,.ld 3 34 35,.ca false true 8 [33,9,35] 36,.rg,.mv 13 37,.mv 13 38,.nk 38 39,.fa 168 39 2 40,.ld 24 40 41,.mv 13 42,.nk 42 43,.fa 168 43 0 44,.fa 65 44 1 45,.ld 63 45 46,.ca false true 10 [41,46] 47,.nk 37 48,.fa 168 48 0 49,.fa 65 49 1 50,.st 63 50 47,.rg,.mv 13 51,.mv 13 52,.nk 52 53,.fa 168 53 4 54,.ld 3 54 55,.fa 194 15 1 56,.ld 3 56 57,.cv 3 46 57 58,.ca false true 11 [51,12,6,55,58] 59,.rt []]] 46 [a] h :)
def ajH:=(yE5 k wl 125 Tryz.f125 [a] h :)
def ajh:=(yB5 s k wl 126 Tryz.f126 [.u,.f 156,.i 2,.f 160,.i 12,.i 3,.f 157,.i 13] 8 [.mv 8 13,.ca false true 1 [13] 14,.un .not 14 15,.mv 15 12,.cn 12 [.rt []] [.mv 8 17,.nk 17 18,.fa 168 18 0 19,.fa 65 19 2 20,.fa 55 20 6 21,.ld 3 21 22,.bo .eql 3 22 2 23,.mv 23 16,.cn 16 [.rg,.mv 8 24,.mv 8 25,.nk 25 26,.fa 168 26 4 27,.ld 3 27 28,.mv 8 29,.nk 29 30,.fa 168 30 0 31,.fa 65 31 2 32,.fa 55 32 3 33,.ld 46 33 34,.ca false true 3 [24,4,5,28,34] 35,.rt []] [.mv 8 10,.ca false true 6 [10,7] 11,.rt []]]] 27 [a] h :)
def aij:=(yE5 k wl 126 Tryz.f126 [a] h :)
def aiE:=(yB5 s k wl 127 Tryz.f127 [.u,.f 156,.i 2,.f 157,.i 9,.f 158,.i 13] 7 [.mv 7 13,.ca false true 1 [13] 14,.un .not 14 15,.mv 15 12,.cn 12 [.rt []] [.mv 7 17,.nk 17 18,.fa 168 18 0 19,.fa 65 19 2 20,.fa 55 20 6 21,.ld 3 21 22,.bo .eql 3 22 2 23,.mv 23 16,.cn 16 [.mv 7 24,.nk 24 25,.fa 168 25 0 26,.fa 65 26 2 27,.fa 55 27 3 28,.ld 46 28 29,.mv 29 9,.mv 7 30,.ca false true 3 [30,4] 31,.mv 7 32,.mv 9 33,.ca false true 5 [32,33] 34,.rt []] [.mv 7 10,.ca false true 3 [10,6] 11,.rt []]]] 27 [a] h :)
def al6:=(yE5 k wl 127 Tryz.f127 [a] h :)
def alP:=(yB5 s k wl 128 Tryz.f128 [.u,.f 27,.i 1,.v (.lit (.int .u64 0)),.f 160,.i 14,.i 6,.f 157,.i 9] 9 [.mv 9 11,.nk 11 12,.fa 168 12 3 13,.ld 26 13 14,.ca false true 1 [14,2] 15,.bo .eql 46 15 3 16,.cn 16 [.mv 9 17,.mv 9 18,.nk 18 19,.fa 168 19 4 20,.ld 3 20 21,.ca false true 4 [17,5,6,21,3] 22,.rt []] [.mv 9 23,.ca false true 7 [23,8] 24,.rt []]] 15 [a] h :)
def aiN:=(yE5 k wl 128 Tryz.f128 [a] h :)
def anL:=(yB5 s k wl 129 Tryz.f129 [.u,.f 156,.f 157,.i 9] 4 [.mv 4 6,.ca false true 1 [6] 7,.cn 7 [.mv 4 8,.ca false true 2 [8,3] 9,.rt []] [.rt []]] 5 [a] h :)
def ald:=(yE5 k wl 129 Tryz.f129 [a] h :)
noncomputable def EA:List Fr:=[.seq (ai (aj Tryz.f130) [1,1,1,1,1])]
def aiU:=(yB5 s k wl 130 Tryz.f130 [.u,.f 162,.i 3,.f 157,.i 9,.f 159,.i 0,.v (.lit (.int .u64 18446744073709551615)),.f 164,.i 4,.v (.lit (.int .u64 1)),.i 5] 12 [.rg,.al 194 14,.mv 12 16,.nk 16 17,.fa 168 17 2 18,.ld 24 18 19,.mv 12 20,.nk 20 21,.fa 168 21 0 22,.fa 65 22 1 23,.ld 63 23 24,.ca true true 1 [19,24] 25,.st 194 14 25,.fa 194 14 0 26,.ld 3 26 27,.bo .neq 3 27 2 28,.cn 28 [.mv 12 29,.ca false true 3 [29,4] 30,.rt []] [.mv 12 31,.ca false true 5 [31,6,7] 32,.mv 32 15,.mv 12 33,.fa 194 14 1 34,.ld 3 34 35,.ca false true 8 [33,9,35] 36,.mv 15 37,.bo .eql 46 37 10 38,.cn 38 [.mv 12 39,.ca false true 8 [39,11,6] 40,.jn EA] [.jn EA]]] 57 [a] h :)
def alJ:=(yE5 k wl 130 Tryz.f130 [a] h :)
def abc:=(jB5 s k wl 130 Tryz.f130 EA .norm [.u,.f 163,.i 0,.f 160,.i 1,.v (.lit (.int .u64 0)),.f 157,.i 9] 8 [.rg,.mv 8 37,.mv 8 38,.nk 38 39,.fa 168 39 2 40,.ld 24 40 41,.mv 8 42,.nk 42 43,.fa 168 43 0 44,.fa 65 44 1 45,.ld 63 45 46,.ca false true 1 [41,46] 47,.nk 37 48,.fa 168 48 0 49,.fa 65 49 1 50,.st 63 50 47,.mv 8 51,.nk 51 52,.fa 168 52 0 53,.fa 65 53 1 54,.ld 63 54 55,.le 63 55 56,.bo .eql 3 56 2 57,.cn 57 [.mv 8 58,.mv 8 59,.nk 59 60,.fa 168 60 4 61,.ld 3 61 62,.ca false true 3 [58,2,4,62,5] 63,.rt []] [.mv 8 64,.ca false true 6 [64,7] 65,.rt []]] [a,b,c,d,e,g,i,j,l,m,o,p,q,r,u,v,w,x,y,z,A,B,C,D,E,F,G,I,J,L,M,N,O,Q,R,S,T,U,W,X,Y,Z,ta,tb,tc,td,te,tf,tg,th,ti,tj,tk,tl,tm,tn,tp,tq] h :)
def Kb:=(yK5 cx K EA s0 :)
noncomputable def Cz:List Fr:=[.seq (ai (aj Tryz.f156) [1,1,0,1,0,1]),.block 0,.seq (ai (aj Tryz.f156) [1,1,1])]
noncomputable def rN:List Fr:=[.block 0,.seq (ai (aj Tryz.f156) [1,1,1])]
def ana:=(yB5 s k wl 156 Tryz.f156 [.u,.b false,.f 134,.i 0,.i 1,.i 2] 6 [.mv 1 8,.mv 2 9,.mv 6 10,.nk 10 11,.fa 168 11 0 12,.fa 65 12 2 13,.fa 55 13 0 14,.ld 3 14 15,.bo .eql 3 15 3 17,.mv 17 16,.cn 16 [.jn Cz] [.bo .eql 3 15 4 18,.mv 18 16,.cn 16 [.jn Cz] [.bo .eql 3 15 5 19,.mv 19 16,.jn Cz]]] 47 [a] h :)
def ako:=(yE5 k wl 156 Tryz.f156 [a] h :)
def abO:=(jB5 s k wl 156 Tryz.f156 Cz .norm [.u,.f 180,.i 3,.f 135,.i 4] 5 [.cn 15 [.mv 1 8,.jn rN] [.bo .eql 3 14 2 20,.mv 20 19,.cn 19 [.cn 19 [.mv 3 8,.jn rN] [.jn rN]] [.bo .eql 3 14 4 21,.mv 21 19,.cn 19 [.mv 3 8,.jn rN] [.jn rN]]]] (a::b::c::d::e::g::i::j::l::m::o::p::q::r::u::v::w::zz) h :)
def Ye:=(jB5 s k wl 156 Tryz.f156 rN .norm [.u,.f 110] 2 [.rg,.mv 2 20,.mv 2 21,.mv 5 22,.mv 2 23,.nk 23 24,.fa 168 24 1 25,.ld 23 25 26,.mv 2 27,.nk 27 28,.fa 168 28 3 29,.ld 26 29 30,.mv 2 31,.nk 31 32,.fa 168 32 0 33,.fa 65 33 2 34,.ld 55 34 35,.ca false true 22 [26,30,35] 36,.mv 36 19,.ex 19 0 37,.ex 19 1 38,.nk 20 39,.fa 168 39 3 40,.st 26 40 37,.nk 21 41,.fa 168 41 0 42,.fa 65 42 2 43,.st 55 43 38,.mv 2 44,.nk 44 45,.fa 168 45 0 46,.fa 65 46 2 47,.ld 55 47 48,.ca false true 1 [48] 49,.mv 49 4,.rv 4] [a,b,c,d,e,g,i,j,l,m,o,p,q,r,u,v,w,x,y,z,A,B,C,D,E,F,G,I,J,L,M,N,O,Q,R,S,T,U,W,X,Y,Z,ta,tb,tc,td,te,tf] h :)
def J5:=(yK5 cx K Cz s0 :)
def Kd:=(yK5 cx K rN s0 :)
def akB:=(yB5 s k wl 157 Tryz.f157 [.u] 1 [.mv 1 5,.mv 1 6,.mv 2 7,.bu 55 [] 8,.nk 5 9,.fa 168 9 0 10,.fa 65 10 0 11,.st 3 11 7,.nk 6 12,.fa 168 12 0 13,.fa 65 13 2 14,.st 55 14 8,.rt []] 12 [a,b] h :)
def al8:=(yE5 k wl 157 Tryz.f157 [a,b] h :)
def aoE:=(yB5 s k wl 158 Tryz.f158 [.u,.f 181,.f 164,.i 2] 4 [.rg,.mv 4 8,.mv 4 9,.nk 9 10,.fa 168 10 2 11,.ld 24 11 12,.mv 4 13,.nk 13 14,.fa 168 14 0 15,.fa 65 15 1 16,.ld 63 16 17,.mv 5 18,.cv 46 3 18 19,.ca false true 1 [12,17,19] 20,.nk 8 21,.fa 168 21 0 22,.fa 65 22 1 23,.st 63 23 20,.mv 4 24,.mv 5 25,.cv 46 3 25 26,.ca false true 2 [24,3,26] 27,.rt []] 22 [a,b] h :)
def akf:=(yE5 k wl 158 Tryz.f158 [a,b] h :)
def al4:=(yB5 s k wl 159 Tryz.f159 [.u,.v (.lit (.int .u64 0)),.f 138] 3 [.mv 1 9,.mv 3 11,.mv 3 12,.nk 12 13,.fa 168 13 3 14,.ld 26 14 15,.mv 4 16,.mv 5 17,.ca false true 2 [15,16,17] 18,.mv 18 10,.ex 10 0 19,.ex 10 1 20,.nk 11 21,.fa 168 21 3 22,.st 26 22 19,.mv 20 9,.mv 9 23,.mv 23 9,.rv 9] 18 [a,b,c] h :)
def alM:=(yE5 k wl 159 Tryz.f159 [a,b,c] h :)
def ajo:=(yB5 s k wl 160 Tryz.f160 [.u,.f 104] 2 [.mv 2 12,.mv 2 13,.mv 3 14,.mv 4 15,.mv 5 16,.mv 6 17,.ca false true 1 [15,16,17] 18,.nk 12 19,.fa 168 19 0 20,.fa 65 20 0 21,.st 3 21 14,.nk 13 22,.fa 168 22 0 23,.fa 65 23 2 24,.st 55 24 18,.rt []] 18 [a,b,c,d,e] h :)
def aow:=(yE5 k wl 160 Tryz.f160 [a,b,c,d,e] h :)
def aju:=(yB5 s k wl 164 Tryz.f164 [.u] 1 [.rg,.mv 1 7,.mv 1 8,.so 8,.nk 8 9,.fa 168 9 6 10,.so 10,.ld 34 10 11,.mv 2 12,.mv 3 13,.mv 1 14,.nk 14 15,.fa 168 15 4 16,.ld 3 16 17,.bu 52 [(0,12),(1,13),(2,17)] 18,.bS true 34 1 [(0,18)] 19,.ap 34 34 11 19 20,.nk 7 21,.fa 168 21 6 22,.st 34 22 20,.rt []] 19 [a,b,c] h :)
def aie:=(yE5 k wl 164 Tryz.f164 [a,b,c] h :)
noncomputable def d8:Code:=ai (aj Tryz.f95) [1,0]
noncomputable def dN:List Fr:=[.seq (ai (aj Tryz.f95) [1,1])]
def arh:=(yB5 s k wl 95 Tryz.f95 [.u,.b false,.f 50,.b true,.f 103] 5 [.bx 5 10,.bx 9 14,.mv 1 15,.rg,.ld 23 10 16,.ca false true 2 [16] 17,.mv 17 18,.gd 18 [.mv 3 18,.mv 7 19,.le 26 19 20,.ld 23 10 21,.ca false true 4 [21] 22,.bo .eql 3 20 22 23,.sg d8 8 dN] [.mv 1 18,.sg d8 8 dN] [.sg d8 4 dN]] 45 [a,b,c,d,e] h :)
def apL:=(yE5 k wl 95 Tryz.f95 [a,b,c,d,e] h :)
def afS:=(gB5 s k wl 95 Tryz.f95 d8 8 dN [.u,.b false,.b true,.f 56] 4 [.pk 17 22 1 23,.mv 23 24,.gd 24 [.mv 2 24,.mv 5 25,.ca false true 3 [25] 26,.sg d8 12 dN] [.mv 1 24,.mv 0 25,.mv 0 26,.sg d8 12 dN] [.mv 0 25,.sg d8 11 dN]] (a::b::c::d::e::g::i::j::l::m::o::p::q::r::u::v::w::x::y::z::A::B::C::zz) h m0 ac :)
def ag2:=(gB5 s k wl 95 Tryz.f95 d8 12 dN [.u,.b false,.b true,.i 0] 4 [.pk 24 26 1 27,.mv 27 28,.gd 28 [.mv 2 28,.mv 7 29,.bo .geq 3 29 3 30,.sg d8 16 dN] [.mv 1 28,.mv 0 29,.mv 0 30,.sg d8 16 dN] [.mv 0 29,.sg d8 15 dN]] (a::b::c::d::e::g::i::j::l::m::o::p::q::r::u::v::w::x::y::z::A::B::C::D::E::F::G::zz) h m0 ac :)
def af9:=(gB5 s k wl 95 Tryz.f95 d8 16 dN [.u,.b false,.b true] 3 [.pk 27 29 1 30,.mv 30 31,.gd 31 [.mv 2 31,.mv 6 32,.fa 23 8 0 33,.ld 3 33 34,.bo .lss 3 32 34 35,.sg d8 22 dN] [.mv 1 31,.mv 0 32,.mv 0 33,.mv 0 34,.mv 0 35,.sg d8 22 dN] [.mv 0 32,.sg d8 19 dN]] (a::b::c::d::e::g::i::j::l::m::o::p::q::r::u::v::w::x::y::z::A::B::C::D::E::F::G::I::J::L::M::N::O::zz) h m0 ac :)
def aeg:=(gB5 s k wl 95 Tryz.f95 d8 22 dN [.u,.b false,.b true,.i 0] 4 [.pk 32 36 1 37,.mv 37 38,.gd 38 [.mv 2 38,.fa 65 13 0 39,.ld 3 39 40,.bo .geq 3 40 3 41,.sg d8 27 dN] [.mv 1 38,.mv 0 39,.mv 0 40,.mv 0 41,.sg d8 27 dN] [.mv 0 39,.sg d8 25 dN]] (a::b::c::d::e::g::i::j::l::m::o::p::q::r::u::v::w::x::y::z::A::B::C::D::E::F::G::I::J::L::M::N::O::Q::R::S::T::U::zz) h m0 ac :)
def agn:=(gB5 s k wl 95 Tryz.f95 d8 27 dN [.u,.b false,.b true,.i 16] 4 [.pk 38 41 1 42,.mv 42 43,.gd 43 [.mv 2 43,.fa 65 13 0 44,.ld 3 44 45,.bo .lss 3 45 3 46,.sg d8 32 dN] [.mv 1 43,.mv 0 44,.mv 0 45,.mv 0 46,.sg d8 32 dN] [.mv 0 44,.sg d8 30 dN]] (a::b::c::d::e::g::i::j::l::m::o::p::q::r::u::v::w::x::y::z::A::B::C::D::E::F::G::I::J::L::M::N::O::Q::R::S::T::U::W::X::Y::Z::ta::zz) h m0 ac :)
def aes:=(gB5 s k wl 95 Tryz.f95 d8 32 dN [.u,.b false,.b true,.f 146] 4 [.pk 43 46 1 47,.mv 47 48,.gd 48 [.mv 2 48,.mv 5 49,.fa 65 13 1 50,.ld 63 50 51,.ca false true 3 [49,51] 52,.sg d8 38 dN] [.mv 1 48,.mv 0 49,.mv 0 50,.mv 0 51,.mv 0 52,.sg d8 38 dN] [.mv 0 49,.sg d8 35 dN]] [a,b,c,d,e,g,i,j,l,m,o,p,q,r,u,v,w,x,y,z,A,B,C,D,E,F,G,I,J,L,M,N,O,Q,R,S,T,U,W,X,Y,Z,ta,tb,tc,td,te,tf,tg,th] h m0 ac :)
def ahb:=(gB5 s k wl 95 Tryz.f95 d8 38 dN [.u,.b false] 2 [.pk 46 50 1 51,.mv 51 12,.rv 12] [a,b,c,d,e,g,i,j,l,m,o,p,q,r,u,v,w,x,y,z,A,B,C,D,E,F,G,I,J,L,M,N,O,Q,R,S,T,U,W,X,Y,Z,ta,tb,tc,td,te,tf,tg,th] h m0 ac :)
def Nq:=(yK5 cx K dN s0 :)
end
end Go.Ab
set_option maxRecDepth 100000
set_option linter.unusedVariables false
namespace Go.Ab
open Go.Proofs
section
variable (s:Sys) (k wl m0:Nat) (a b c d e g i j l m o p q r u v w x y z A B C D E F G I J L M N O Q R S T U W X Y Z ta tb tc td te tf tg th ti tj tk tl:V) (h:Hp) (ac:List Nat×List Nat) (zz:List V) (cx:Cx) (K:Out→St→Option (V×Hp)) (s0:St)
noncomputable def dZ:Code:=ai (aj Tryz.f85) [1,0]
noncomputable def dO:List Fr:=[.seq (ai (aj Tryz.f85) [1,1])]
def apP:=(yB5 s k wl 85 Tryz.f85 [.u,.b false,.f 50,.b true,.f 103] 5 [.bx 5 9,.bx 8 12,.mv 1 13,.rg,.ld 23 9 14,.ca false true 2 [14] 15,.mv 15 16,.gd 16 [.mv 3 16,.mv 7 17,.le 26 17 18,.ld 23 9 19,.ca false true 4 [19] 20,.bo .eql 3 18 20 21,.sg dZ 8 dO] [.mv 1 16,.sg dZ 8 dO] [.sg dZ 4 dO]] 50 [a,b,c,d] h :)
def aqH:=(yE5 k wl 85 Tryz.f85 [a,b,c,d] h :)
def afq:=(gB5 s k wl 85 Tryz.f85 dZ 8 dO [.u,.b false,.b true,.f 56] 4 [.pk 15 20 1 21,.mv 21 22,.gd 22 [.mv 2 22,.mv 5 23,.ca false true 3 [23] 24,.sg dZ 12 dO] [.mv 1 22,.mv 0 23,.mv 0 24,.sg dZ 12 dO] [.mv 0 23,.sg dZ 11 dO]] (a::b::c::d::e::g::i::j::l::m::o::p::q::r::u::v::w::x::y::z::A::zz) h m0 ac :)
def adg:=(gB5 s k wl 85 Tryz.f85 dZ 12 dO [.u,.b false,.b true,.i 0] 4 [.pk 22 24 1 25,.mv 25 26,.gd 26 [.mv 2 26,.fa 57 11 0 27,.ld 3 27 28,.bo .geq 3 28 3 29,.sg dZ 17 dO] [.mv 1 26,.mv 0 27,.mv 0 28,.mv 0 29,.sg dZ 17 dO] [.mv 0 27,.sg dZ 15 dO]] (a::b::c::d::e::g::i::j::l::m::o::p::q::r::u::v::w::x::y::z::A::B::C::D::E::F::zz) h m0 ac :)
def ahc:=(gB5 s k wl 85 Tryz.f85 dZ 17 dO [.u,.b false,.b true,.i 6] 4 [.pk 26 29 1 30,.mv 30 31,.gd 31 [.mv 2 31,.fa 57 11 0 32,.ld 3 32 33,.bo .lss 3 33 3 34,.sg dZ 22 dO] [.mv 1 31,.mv 0 32,.mv 0 33,.mv 0 34,.sg dZ 22 dO] [.mv 0 32,.sg dZ 20 dO]] (a::b::c::d::e::g::i::j::l::m::o::p::q::r::u::v::w::x::y::z::A::B::C::D::E::F::G::I::J::L::M::zz) h m0 ac :)
def afr:=(gB5 s k wl 85 Tryz.f85 dZ 22 dO [.u,.b false,.b true,.i 0] 4 [.pk 31 34 1 35,.mv 35 36,.gd 36 [.mv 2 36,.fa 57 11 1 37,.ld 53 37 38,.le 53 38 39,.bo .gtr 3 39 3 40,.sg dZ 28 dO] [.mv 1 36,.mv 0 37,.mv 0 38,.mv 0 39,.mv 0 40,.sg dZ 28 dO] [.mv 0 37,.sg dZ 25 dO]] (a::b::c::d::e::g::i::j::l::m::o::p::q::r::u::v::w::x::y::z::A::B::C::D::E::F::G::I::J::L::M::N::O::Q::R::S::T::zz) h m0 ac :)
def afH:=(gB5 s k wl 85 Tryz.f85 dZ 28 dO [.u,.b false,.b true,.i 0] 4 [.pk 36 40 1 41,.mv 41 42,.gd 42 [.mv 2 42,.fa 57 11 1 43,.ld 53 43 44,.ia 53 44 3 45,.ld 3 45 46,.bo .geq 3 46 3 47,.sg dZ 35 dO] [.mv 1 42,.mv 0 43,.mv 0 44,.mv 0 45,.mv 0 46,.mv 0 47,.sg dZ 35 dO] [.mv 0 43,.sg dZ 31 dO]] (a::b::c::d::e::g::i::j::l::m::o::p::q::r::u::v::w::x::y::z::A::B::C::D::E::F::G::I::J::L::M::N::O::Q::R::S::T::U::W::X::Y::Z::ta::tb::zz) h m0 ac :)
def ae7:=(gB5 s k wl 85 Tryz.f85 dZ 35 dO [.u,.b false,.b true,.i 0] 4 [.pk 42 47 1 48,.mv 48 49,.gd 49 [.mv 2 49,.fa 57 11 1 50,.ld 53 50 51,.ia 53 51 3 52,.ld 3 52 53,.mv 5 54,.le 24 54 55,.bo .lss 3 53 55 56,.sg dZ 44 dO] [.mv 1 49,.mv 0 50,.mv 0 51,.mv 0 52,.mv 0 53,.mv 0 54,.mv 0 55,.mv 0 56,.sg dZ 44 dO] [.mv 0 50,.sg dZ 38 dO]] [a,b,c,d,e,g,i,j,l,m,o,p,q,r,u,v,w,x,y,z,A,B,C,D,E,F,G,I,J,L,M,N,O,Q,R,S,T,U,W,X,Y,Z,ta,tb,tc,td,te,tf,tg,th,ti,tj,tk,tl] h m0 ac :)
def aeO:=(gB5 s k wl 85 Tryz.f85 dZ 44 dO [.u,.b false] 2 [.pk 47 54 1 55,.mv 55 10,.rv 10] [a,b,c,d,e,g,i,j,l,m,o,p,q,r,u,v,w,x,y,z,A,B,C,D,E,F,G,I,J,L,M,N,O,Q,R,S,T,U,W,X,Y,Z,ta,tb,tc,td,te,tf,tg,th,ti,tj,tk,tl] h m0 ac :)
def Ob:=(yK5 cx K dO s0 :)
def aqj:=(yB5 s k wl 86 Tryz.f86 [.u,.f 76,.f 80,.f 85,.i 0] 5 [.bx 5 10,.bx 8 13,.bx 9 14,.nl 15,.al 57 16,.nl 17,.mv 7 26,.ca false true 1 [26] 27,.al 26 18,.st 26 18 27,.rg,.al 57 19,.fa 57 14 0 28,.so 28,.ld 3 28 29,.fa 57 14 1 30,.ld 53 30 31,.ca true true 2 [31] 32,.fa 57 14 2 33,.so 33,.ld 55 33 34,.bu 57 [(0,29),(1,32),(2,34)] 35,.st 57 19 35,.ld 23 10 36,.mv 6 37,.mv 7 38,.ld 57 14 39,.ca false true 3 [36,37,38,39] 40,.un .not 40 41,.cn 41 [.rg,.ld 26 18 42,.ld 57 19 43,.mv 42 15,.st 57 16 43,.nl 17,.ro [(none,15),(some 57,16),(none,17)]] [.al 34 20,.fa 57 19 1 44,.ld 53 44 45,.ia 53 45 4 46,.ld 3 46 47,.al 3 21,.st 3 21 47,.fn 131 [] [20,13] 48,.al 170 22,.st 170 22 48,.fn 132 [] [19] 49,.al 1 23,.st 1 23 49,.fn 133 [] [19,10,18] 50,.al 32 24,.st 32 24 50,.fn 136 [] [19,18,22,21,23] 51,.fn 137 [] [18,13,21,19] 52,.fn 139 [] [24,19,22,21] 53,.fn 140 [] [18,23,13,19] 54,.fn 141 [] [24,23] 55,.fn 142 [] [18,22,21,23] 56,.bu 175 [(0,51),(1,52),(2,53),(3,54),(4,55),(5,56)] 57,.al 175 25,.st 175 25 57,.fa 57 14 0 58,.ld 3 58 59,.ia 175 25 59 60,.ld 1 60 61,.ca false true 61 [] 62,.rg,.ld 26 18 63,.ld 57 19 64,.so 20,.lr 20,.ld 34 20 65,.mv 63 15,.lw 16,.st 57 16 64,.mv 65 17,.pt,.ro [(none,15),(some 57,16),(none,17)]]] 56 [a,b,c,d,e] h :)
def apK:=(yE5 k wl 86 Tryz.f86 [a,b,c,d,e] h :)
def aiP:=(yB5 s k wl 131 Tryz.f131 [.u] 1 [.ld 34 3 7,.mv 1 8,.mv 2 9,.ld 3 4 10,.bu 52 [(0,8),(1,9),(2,10)] 11,.bS false 34 1 [(0,11)] 12,.ap 34 34 7 12 13,.st 34 3 13,.rt []] 9 [a,b,c,d] h :)
def ale:=(yE5 k wl 131 Tryz.f131 [a,b,c,d] h :)
def alk:=(yB5 s k wl 132 Tryz.f132 [.u,.i 1] 2 [.fa 57 2 1 3,.ld 53 3 4,.sl false 53 4 1 0 0 5,.bu 57 [(1,5)] 6,.st 57 2 6,.rt []] 4 [a] h :)
def aot:=(yE5 k wl 132 Tryz.f132 [a] h :)
noncomputable def EF:Code:=ai (aj Tryz.f133) [1,1,0,0]
noncomputable def BH:List Fr:=[.seq (ai (aj Tryz.f133) [1,1,0,1]),.seq (ai (aj Tryz.f133) [1,1,1])]
noncomputable def Et:List Fr:=[.seq (ai (aj Tryz.f133) [1,1,1])]
def aiH:=(yB5 s k wl 133 Tryz.f133 [.u,.b false,.f 134,.i 3,.b true,.i 4] 6 [.mv 1 9,.mv 2 10,.rg,.fa 57 6 2 11,.fa 55 11 0 12,.ld 3 12 13,.bo .eql 3 13 3 14,.mv 14 15,.gd 15 [.mv 4 15,.sg EF 9 BH] [.mv 1 15,.fa 57 6 2 16,.fa 55 16 0 17,.ld 3 17 18,.bo .eql 3 18 5 19,.sg EF 9 BH] [.sg EF 6 BH]] 25 [a,b,c] h :)
def alB:=(yE5 k wl 133 Tryz.f133 [a,b,c] h :)
def abb:=(gB5 s k wl 133 Tryz.f133 EF 9 BH [.u,.b true,.f 135] 3 [.pk 12 1 16 17,.cn 17 [.mv 2 7,.jn Et] [.jn Et]] (a::b::c::d::e::g::i::j::l::m::o::p::q::r::u::zz) h m0 ac :)
def ack:=(jB5 s k wl 133 Tryz.f133 Et .norm [.u,.f 110] 2 [.mv 6 18,.ld 23 3 19,.ld 26 4 20,.fa 57 2 2 21,.ld 55 21 22,.ca false true 18 [19,20,22] 23,.mv 23 17,.ex 17 0 24,.ex 17 1 25,.st 26 4 24,.fa 57 2 2 26,.st 55 26 25,.fa 57 2 2 27,.ld 55 27 28,.ca false true 1 [28] 29,.mv 29 5,.rv 5] [a,b,c,d,e,g,i,j,l,m,o,p,q,r,u,v,w,x,y,z,A,B,C,D,E,F,G,I] h :)
def IB:=(yK5 cx K BH s0 :)
def Jp:=(yK5 cx K Et s0 :)
def amq:=(yB5 s k wl 136 Tryz.f136 [.u,.i 1,.f 27,.i 3,.v (.lit (.int .u64 0))] 5 [.fa 57 5 0 10,.st 3 10 1,.ld 26 6 11,.ca false true 2 [11,3] 12,.bo .neq 46 12 4 13,.cn 13 [.ld 170 7 14,.ld 3 8 15,.ca false true 14 [1,15] 16,.ld 1 9 17,.ca false true 17 [] 18,.rt []] [.rt []]] 9 [a,b,c,d,e] h :)
def al2:=(yE5 k wl 136 Tryz.f136 [a,b,c,d,e] h :)
def al9:=(yB5 s k wl 137 Tryz.f137 [.u,.f 138,.i 0,.v (.lit (.int .u64 1)),.f 104,.i 3,.i 2] 7 [.ld 26 7 12,.ca false true 1 [12,2,3] 13,.mv 13 11,.ex 11 0 14,.ex 11 1 15,.st 26 7 14,.ld 3 8 16,.ld 3 9 17,.cv 3 46 17 18,.ca false true 4 [5,16,18] 19,.fa 57 10 0 20,.st 3 20 6,.fa 57 10 2 21,.st 55 21 19,.rt []] 11 [a,b,c,d] h :)
def akW:=(yE5 k wl 137 Tryz.f137 [a,b,c,d] h :)
def ant:=(yB5 s k wl 139 Tryz.f139 [.u,.i 5,.i 2,.i 0,.i 3] 5 [.ld 32 5 9,.ca false true 9 [] 10,.un .not 10 11,.cn 11 [.rt []] [.fa 57 6 0 12,.st 3 12 1,.fa 57 6 2 13,.fa 55 13 6 14,.ld 3 14 15,.bo .neq 3 15 2 16,.cn 16 [.ld 170 7 17,.ld 3 8 18,.ca false true 17 [3,18] 19,.fa 57 6 0 20,.st 3 20 4,.rt []] [.rt []]]] 12 [a,b,c,d] h :)
def anC:=(yE5 k wl 139 Tryz.f139 [a,b,c,d] h :)
def al3:=(yB5 s k wl 140 Tryz.f140 [.u,.f 27,.i 1,.v (.lit (.int .u64 0)),.f 104,.i 6,.i 4] 7 [.ld 26 7 11,.ca false true 1 [11,2] 12,.bo .neq 46 12 3 13,.cn 13 [.ld 1 8 14,.ca false true 14 [] 15,.rt []] [.ld 3 9 16,.ca false true 4 [5,16,3] 17,.fa 57 10 0 18,.st 3 18 6,.fa 57 10 2 19,.st 55 19 17,.rt []]] 9 [a,b,c,d] h :)
def amz:=(yE5 k wl 140 Tryz.f140 [a,b,c,d] h :)
def aob:=(yB5 s k wl 141 Tryz.f141 [.u] 1 [.ld 32 1 3,.ca false true 3 [] 4,.cn 4 [.ld 1 2 5,.ca false true 5 [] 6,.rt []] [.rt []]] 4 [a,b] h :)
def anm:=(yE5 k wl 141 Tryz.f141 [a,b] h :)
def ank:=(yB5 s k wl 142 Tryz.f142 [.u,.v (.lit (.int .u64 0)),.f 138,.i 0,.v (.lit (.int .u64 18446744073709551615)),.i 1,.v (.lit (.int .u64 1)),.i 5] 8 [.mv 1 12,.ld 26 8 14,.ca false true 2 [14,3,4] 15,.mv 15 13,.ex 13 0 16,.ex 13 1 17,.st 26 8 16,.mv 17 12,.ld 170 9 18,.ld 3 10 19,.ca false true 18 [5,19] 20,.mv 12 21,.bo .eql 46 21 6 22,.cn 22 [.ld 170 9 23,.ca false true 23 [7,3] 24,.ld 1 11 25,.ca false true 25 [] 26,.rt []] [.ld 1 11 25,.ca false true 25 [] 26,.rt []]] 15 [a,b,c,d] h :)
def anA:=(yE5 k wl 142 Tryz.f142 [a,b,c,d] h :)
def aq3:=(yB5 s k wl 28 Tryz.f28 [.u,.b false,.i 0] 3 [.bx 3 4,.mv 1 5,.fa 57 4 0 6,.ld 3 6 7,.bo .neq 3 7 2 8,.mv 8 5,.rv 5] 5 [a] h :)
def ap9:=(yE5 k wl 28 Tryz.f28 [a] h :)
def apQ:=(yB5 s k wl 63 Tryz.f63 [.u,.f 80] 2 [.al 57 4,.mv 2 5,.ca false true 1 [5] 6,.bu 57 [(1,6)] 7,.st 57 4 7,.ro [(some 57,4)]] 5 [a] h :)
def aqo:=(yE5 k wl 63 Tryz.f63 [a] h :)
end
end Go.Ab
set_option maxRecDepth 100000
set_option linter.unusedVariables false
namespace Go.Ab
open Go.Proofs
section
variable (s:Sys) (k wl n n0 m0:Nat) (a b c d e g i j l m o p q r u v w x y z A B C D E F G I J L M N O Q R S T U W X Y Z ta tb tc td te tf tg th ti tj tk tl tm tn tp tq tr ts:V) (h:Hp) (P:Program) (zz:List V) (K:Out→St→Option (V×Hp)) (rd:Bool) (cx:Cx) (s0:St) (ac:List Nat×List Nat)
noncomputable def Ch:Code:=ai (aj Tryz.f17) [1,1,1,1,0,1,0,0]
noncomputable def Dx:List Fr:=[.block 0,.seq (ai (aj Tryz.f17) [1,1,1,1,1])]
def WT:=(yB5 s k wl 17 Tryz.f17 [.u,.f 41,.f 20,.i 0] 4 [.bx 4 6,.al 30 8,.nl 9,.ld 30 6 14,.ca false true 1 [14] 15,.al 30 10,.st 30 10 15,.ld 30 6 16,.ca false true 2 [16] 17,.un .not 17 18,.cn 18 [.ld 30 10 19,.st 30 8 19,.nl 9,.ro [(some 30,8),(none,9)]] [.nl 11,.mv 5 20,.le 31 20 21,.mv 3 22,.lo Ch [19,16] Dx]] 35 [a,b] h :)
def WW:=(yE5 k wl 17 Tryz.f17 [a,b] h :)
def XC:=(yZ5 P Tryz.f17 [.u] 1 [.ro [(some 30,5),(none,6)]] (a::b::c::d::e::g::zz) h :)
def Rc:=(rL5 s k wl 17 rd Ch n0 K n [.u,.f 42,.f 43,.i 1] 4 [.bo .lss 3 22 21 23,.cn 23 [.ia 31 20 22 24,.ld 48 24 25,.al 48 13,.st 48 13 25,.ld 48 13 26,.fa 30 6 0 27,.fa 23 27 0 28,.ld 3 28 29,.fa 30 6 4 30,.ld 28 30 31,.le 28 31 32,.ca false true 1 [26,29,32] 33,.cn 33 [.mv 11 34,.ld 48 13 35,.ca false true 2 [10,35] 36,.ap 34 34 34 36 37,.mv 37 11,.bo .add 3 22 3 38,.mv 38 22,.nx Ch [19,16]] [.bo .add 3 22 3 38,.mv 38 22,.nx Ch [19,16]]] [.kt (.exit 0) [18,17]]] [a,b,c,d,e,g,i,j,l,m,o,p,q,r,u,v,w,x,y,z,A,B,C,D,E,F,G,I,J,L,M,N,O,Q,R,S,T] h :)
def An:=(jB5 s k wl 17 Tryz.f17 Dx (.exit 0) [.u] 1 [.ld 30 7 36,.mv 8 37,.st 30 5 36,.mv 37 6,.ro [(some 30,5),(none,6)]] [a,b,c,d,e,g,i,j,l,m,o,p,q,r,u,v,w,x,y,z,A,B,C,D,E,F,G,I,J,L,M,N,O,Q,R,S,T] h :)
def gJ:=(yK5 cx K Dx s0 :)
noncomputable def Al:Code:=ai (aj Tryz.f20) [1,0,0]
noncomputable def ue:List Fr:=[.seq (ai (aj Tryz.f20) [1,0,1]),.seq (ai (aj Tryz.f20) [1,1])]
noncomputable def WX:Code:=ai (aj Tryz.f20) [1,1,0,1,0]
noncomputable def RX:Code:=ai (aj Tryz.f20) [1,1,0,1,0,0]
noncomputable def O3:Code:=ai (aj Tryz.f20) [1,1,0,1,0,1]
noncomputable def LJ:List Fr:=[.block 0,.seq (ai (aj Tryz.f20) [1,1,1])]
theorem uk:WX = .rangeFunc (.tmp 23) #[24] RX O3:=by kernel_rfl
def aic:=(yB5 s k wl 20 Tryz.f20 [.u,.f 50,.b true,.b false] 4 [.bx 4 5,.al 4 6,.rg,.fa 30 5 0 7,.ld 23 7 8,.ca false true 1 [8] 9,.un .not 9 10,.mv 10 11,.gd 11 [.mv 2 11,.sg Al 12 ue] [.mv 3 11,.fa 30 5 3 12,.ld 27 12 13,.le 27 13 14,.fa 30 5 0 15,.fa 23 15 0 16,.ld 3 16 17,.bo .neq 3 14 17 18,.sg Al 12 ue] [.sg Al 6 ue]] 29 [a] h :)
def ahY:=(yE5 k wl 20 Tryz.f20 [a] h :)
def aia:=(yZ5 P Tryz.f20 [.u] 1 [.ro [(some 4,3)]] (a::b::c::zz) h :)
def KB:=(gB5 s k wl 20 Tryz.f20 Al 12 ue [.u,.b true,.b false,.i 3] 4 [.pk 11 1 18 19,.mv 19 20,.gd 20 [.mv 1 20,.mv 0 21,.mv 0 22,.mv 0 23,.mv 0 24,.sg Al 18 ue] [.mv 2 20,.fa 30 5 4 21,.ld 28 21 22,.le 28 22 23,.bo .gtr 3 23 3 24,.sg Al 18 ue] [.mv 0 21,.sg Al 15 ue]] (a::b::c::d::e::g::i::j::l::m::o::p::q::r::u::v::w::x::y::z::A::zz) h m0 ac :)
def KI:=(gB5 s k wl 20 Tryz.f20 Al 18 ue [.u,.b true,.b false,.f 51] 4 [.pk 20 1 24 25,.cn 25 [.st 4 6 2,.ro [(some 4,6)]] [.ld 30 5 26,.ca false true 3 [26] 27,.rf WX LJ]] (a::b::c::d::e::g::i::j::l::m::o::p::q::r::u::v::w::x::y::z::A::B::C::D::zz) h m0 ac :)
def L0:=(jB5 s k wl 20 Tryz.f20 LJ .norm [.u,.f 52] 2 [.fa 30 3 4 27,.ld 28 27 28,.fn 53 [] [3] 29,.ca false true 1 [28,29] 30,.un .not 30 31,.st 4 4 31,.ro [(some 4,4)]] [a,b,c,d,e,g,i,j,l,m,o,p,q,r,u,v,w,x,y,z,A,B,C,D,E,F,G,I,J,L] h :)
def gr:=(qF5 s k wl 20 rd K O3 [.u,.b false] 2 [.st 4 4 1,.kf .ret] (a::b::c::zz) h :)
def gu:=(qF5 s k wl 20 rd K RX [.u] 1 [.kf .norm] zz h :)
def pK:=(yK5 cx K ue s0 :)
def pN:=(yK5 cx K LJ s0 :)
noncomputable def L8:Code:=ai (aj Tryz.f25) [1,0,0]
noncomputable def HP:List Fr:=[.seq (ai (aj Tryz.f25) [1,0,1]),.seq (ai (aj Tryz.f25) [1,1])]
noncomputable def HZ:Code:=ai (aj Tryz.f25) [1,1,0,1,0,0]
noncomputable def LR:List Fr:=[.block 0,.seq (ai (aj Tryz.f25) [1,1,1])]
noncomputable def Mz:Code:=ai (aj Tryz.f25) [1,1,0,1,0,0,1,1,0,0,1,0]
noncomputable def Gy:List Fr:=[.seq (ai (aj Tryz.f25) [1,1,0,1,0,0,1,1,0,0,1,1]),.block 1,.seq (ai (aj Tryz.f25) [1,1,0,1,0,0,1,1,1])]
def ao0:=(yB5 s k wl 25 Tryz.f25 [.u,.b false,.f 20,.b true,.f 52,.f 28] 6 [.bx 6 7,.mv 1 8,.rg,.ld 30 7 11,.ca false true 2 [11] 12,.un .not 12 13,.mv 13 14,.gd 14 [.mv 3 14,.sg L8 7 HP] [.mv 1 14,.fa 30 7 4 15,.ld 28 15 16,.ca false true 4 [16,5] 17,.sg L8 7 HP] [.sg L8 5 HP]] 34 [a] h :)
def ao3:=(yE5 k wl 25 Tryz.f25 [a] h :)
def ao4:=(yZ5 P Tryz.f25 [.u] 1 [.rv 3] (a::b::c::zz) h :)
def WH:=(gB5 s k wl 25 Tryz.f25 L8 7 HP [.u,.b true,.b false,.i 0] 4 [.pk 12 1 15 16,.cn 16 [.mv 2 6,.rv 6] [.fa 30 5 3 17,.ld 27 17 18,.le 27 18 19,.mv 3 20,.lo HZ [17] LR]] [a,b,c,d,e,g,i,j,l,m,o,p,q,r,u,v,w,x,y,z,A,B,C,D,E,F,G,I,J,L,M,N,O,Q,R] h m0 ac :)
def afx:=(rL5 s k wl 25 rd HZ n0 K n [.u,.f 31,.b true,.b false,.f 32,.f 27,.v (.lit (.int .u64 0))] 7 [.bo .lss 3 23 22 24,.cn 24 [.mv 23 25,.ia 27 21 23 26,.ld 65 26 27,.al 65 11,.mv 25 10,.st 65 11 27,.rg,.ld 65 11 28,.ca false true 1 [28] 29,.un .not 29 30,.mv 30 31,.gd 31 [.mv 2 31,.mv 0 32,.mv 0 33,.mv 0 34,.mv 0 35,.mv 0 36,.mv 0 37,.mv 0 38,.mv 0 39,.sg Mz 12 Gy] [.mv 3 31,.fa 30 8 2 32,.so 32,.ld 26 32 33,.fa 30 8 0 34,.ld 23 34 35,.mv 10 36,.ca true true 4 [35,36] 37,.ca false true 5 [33,37] 38,.bo .neq 46 38 6 39,.sg Mz 12 Gy] [.mv 0 32,.sg Mz 5 Gy]] [.kt (.exit 0) [16]]] [a,b,c,d,e,g,i,j,l,m,o,p,q,r,u,v,w,x,y,z,A,B,C,D,E,F,G,I,J,L,M,N,O,Q,R] h :)
def W1:=(jB5 s k wl 25 Tryz.f25 LR (.exit 0) [.u,.b true] 2 [.mv 1 4,.rv 4] (a::b::c::zz) h :)
def WU:=(gL5 s k wl 25 rd HZ n0 K n Mz 12 Gy [.u,.b true,.b false,.i 1] 4 [.pk 28 1 36 37,.cn 37 [.mv 2 6,.kf .ret] [.bo .add 3 20 3 38,.mv 38 20,.nx HZ [17]]] [a,b,c,d,e,g,i,j,l,m,o,p,q,r,u,v,w,x,y,z,A,B,C,D,E,F,G,I,J,L,M,N,O,Q,R] h m0 ac :)
def D9:=(yK5 cx K HP s0 :)
def DF:=(yK5 cx K LR s0 :)
def Em:=(yK5 cx K Gy s0 :)
noncomputable def w6:Code:=ai (aj Tryz.f29) [1,0]
noncomputable def us:List Fr:=[.seq (ai (aj Tryz.f29) [1,1])]
def arf:=(yB5 s k wl 29 Tryz.f29 [.u,.b false,.f 25,.b true,.f 27,.i 0,.v (.lit (.int .u64 0))] 7 [.bx 7 8,.mv 1 9,.rg,.ld 30 8 10,.ca false true 2 [10] 11,.mv 11 12,.gd 12 [.mv 3 12,.fa 30 8 2 13,.ld 26 13 14,.ca false true 4 [14,5] 15,.bo .eql 46 15 6 16,.sg w6 7 us] [.mv 1 12,.sg w6 7 us] [.sg w6 4 us]] 16 [a] h :)
def ap3:=(yE5 k wl 29 Tryz.f29 [a] h :)
def afK:=(gB5 s k wl 29 Tryz.f29 w6 7 us [.u,.b false,.b true,.f 52,.f 67] 5 [.pk 10 14 1 15,.mv 15 16,.gd 16 [.mv 2 16,.fa 30 6 4 17,.ld 28 17 18,.ca false true 3 [18,4] 19,.un .not 19 20,.sg w6 13 us] [.mv 1 16,.mv 0 17,.mv 0 18,.mv 0 19,.mv 0 20,.sg w6 13 us] [.mv 0 17,.sg w6 10 us]] [a,b,c,d,e,g,i,j,l,m,o,p,q,r,u,v,w] h m0 ac :)
def af0:=(gB5 s k wl 29 Tryz.f29 w6 13 us [.u,.b false] 2 [.pk 13 17 1 18,.mv 18 4,.rv 4] [a,b,c,d,e,g,i,j,l,m,o,p,q,r,u,v,w] h m0 ac :)
def Oc:=(yK5 cx K us s0 :)
noncomputable def Mn:Code:=ai (aj Tryz.f41) [1,1,1,0,1,0,0]
noncomputable def Mw:List Fr:=[.block 0,.seq (ai (aj Tryz.f41) [1,1,1,1])]
noncomputable def Le:Code:=ai (aj Tryz.f41) [1,1,1,1,0,1,0,0]
noncomputable def MH:List Fr:=[.block 2,.seq (ai (aj Tryz.f41) [1,1,1,1,1])]
def Xg:=(yB5 s k wl 41 Tryz.f41 [.u,.f 58,.f 76,.f 77,.f 78,.i 0] 6 [.bx 6 7,.al 30 8,.rg,.fa 30 7 1 11,.ld 24 11 12,.ca true true 1 [12] 13,.fa 30 7 2 14,.so 14,.ld 26 14 15,.ca false true 2 [15] 16,.fa 30 7 1 17,.st 24 17 13,.fa 30 7 2 18,.st 26 18 16,.rg,.fa 30 7 3 19,.ld 27 19 20,.ca true true 3 [20] 21,.fa 30 7 4 22,.so 22,.ld 28 22 23,.ca false true 4 [23] 24,.fa 30 7 3 25,.st 27 25 21,.fa 30 7 4 26,.st 28 26 24,.fa 30 7 3 27,.ld 27 27 28,.le 27 28 29,.mv 5 30,.lo Mn [25,15] Mw] 59 [a] h :)
def XJ:=(yE5 k wl 41 Tryz.f41 [a] h :)
def Xr:=(yZ5 P Tryz.f41 [.u] 1 [.ro [(some 30,3)]] (a::b::c::zz) h :)
def adO:=(rL5 s k wl 41 rd Mn n0 K n [.u,.f 79,.i 1] 3 [.bo .lss 3 27 26 28,.cn 28 [.mv 27 29,.mv 29 6,.rg,.fa 30 4 3 30,.so 30,.ld 27 30 31,.mv 6 32,.fa 30 4 3 33,.ld 27 33 34,.mv 6 35,.ia 27 34 35 36,.fa 65 36 1 37,.ld 63 37 38,.ca true true 1 [38] 39,.ia 27 31 32 40,.fa 65 40 1 41,.st 63 41 39,.bo .add 3 27 2 42,.mv 42 27,.nx Mn [25,15]] [.kt (.exit 0) [24,16]]] [a,b,c,d,e,g,i,j,l,m,o,p,q,r,u,v,w,x,y,z,A,B,C,D,E,F,G,I,J,L,M,N,O,Q,R,S,T,U,W,X,Y,Z,ta,tb,tc,td,te,tf,tg,th,ti,tj,tk,tl,tm,tn,tp,tq,tr,ts] h :)
def Ac:=(jB5 s k wl 41 Tryz.f41 Mw (.exit 0) [.u,.i 0] 2 [.fa 30 3 4 42,.ld 28 42 43,.le 28 43 44,.mv 1 45,.lo Le [44,15] MH] [a,b,c,d,e,g,i,j,l,m,o,p,q,r,u,v,w,x,y,z,A,B,C,D,E,F,G,I,J,L,M,N,O,Q,R,S,T,U,W,X,Y,Z,ta,tb,tc,td,te,tf,tg,th,ti,tj,tk,tl,tm,tn,tp,tq,tr,ts] h :)
def ahm:=(rL5 s k wl 41 rd Le n0 K n [.u,.f 80,.i 1] 3 [.bo .lss 3 46 45 47,.cn 47 [.mv 46 48,.mv 48 7,.rg,.fa 30 4 4 49,.so 49,.ld 28 49 50,.mv 7 51,.fa 30 4 4 52,.ld 28 52 53,.mv 7 54,.ia 28 53 54 55,.fa 57 55 1 56,.ld 53 56 57,.ca true true 1 [57] 58,.ia 28 50 51 59,.fa 57 59 1 60,.st 53 60 58,.bo .add 3 46 2 61,.mv 61 46,.nx Le [44,15]] [.kt (.exit 2) [43,16]]] [a,b,c,d,e,g,i,j,l,m,o,p,q,r,u,v,w,x,y,z,A,B,C,D,E,F,G,I,J,L,M,N,O,Q,R,S,T,U,W,X,Y,Z,ta,tb,tc,td,te,tf,tg,th,ti,tj,tk,tl,tm,tn,tp,tq,tr,ts] h :)
def Aa:=(jB5 s k wl 41 Tryz.f41 MH (.exit 2) [.u] 1 [.ld 30 2 60,.st 30 3 60,.ro [(some 30,3)]] [a,b,c,d,e,g,i,j,l,m,o,p,q,r,u,v,w,x,y,z,A,B,C,D,E,F,G,I,J,L,M,N,O,Q,R,S,T,U,W,X,Y,Z,ta,tb,tc,td,te,tf,tg,th,ti,tj,tk,tl,tm,tn,tp,tq,tr,ts] h :)
def gN:=(yK5 cx K Mw s0 :)
def gO:=(yK5 cx K MH s0 :)
noncomputable def Lo:List Fr:=[.seq (ai (aj Tryz.f43) [1,1,1])]
def XI:=(yB5 s k wl 43 Tryz.f43 [.u,.i 0,.i 1,.i 2] 4 [.bx 4 6,.bx 5 7,.al 34 8,.mk 12,.fn 82 [] [6,7,8] 13,.is 138 12 1 13,.fn 84 [] [6,7,8] 14,.is 138 12 2 14,.fn 87 [] [6] 15,.is 138 12 3 15,.mv 12 16,.mv 16 9,.mv 9 18,.fa 48 7 0 19,.ld 3 19 20,.lk 138 18 20 true 21,.mv 21 17,.ex 17 0 22,.ex 17 1 23,.mv 22 10,.mv 23 11,.mv 11 24,.cn 24 [.mv 10 25,.ca false true 25 [] 26,.jn Lo] [.jn Lo]] 22 [a,b] h :)
def Xo:=(yE5 k wl 43 Tryz.f43 [a,b] h :)
def wY:=(jB5 s k wl 43 Tryz.f43 Lo .norm [.u] 1 [.ld 34 5 24,.st 34 5 24,.ro [(some 34,5)]] [a,b,c,d,e,g,i,j,l,m,o,p,q,r,u,v,w,x,y,z,A,B,C,D] h :)
def gM:=(yK5 cx K Lo s0 :)
def ah2:=(yB5 s k wl 51 Tryz.f51 [.u,.v (f9 Value.nilFunc)] 2 [.bx 2 3,.mv 1 4,.fn 94 [] [3] 5,.mv 5 4,.rv 4] 3 [a] h :)
def ah6:=(yE5 k wl 51 Tryz.f51 [a] h :)
noncomputable def dk:Code:=ai (aj Tryz.f53) [1,1,0]
noncomputable def cW:List Fr:=[.seq (ai (aj Tryz.f53) [1,1,1])]
def ah0:=(yB5 s k wl 53 Tryz.f53 [.u,.b false,.i 0,.b true,.i 6] 5 [.bx 5 7,.mv 1 8,.fn 54 [] [6] 10,.mv 10 9,.rg,.fa 57 7 0 11,.ld 3 11 12,.bo .lss 3 12 2 13,.mv 13 14,.gd 14 [.mv 3 14,.sg dk 7 cW] [.mv 1 14,.fa 57 7 0 15,.ld 3 15 16,.bo .geq 3 16 4 17,.sg dk 7 cW] [.sg dk 5 cW]] 29 [a,b] h :)
def ahS:=(yE5 k wl 53 Tryz.f53 [a,b] h :)
def KU:=(gB5 s k wl 53 Tryz.f53 dk 7 cW [.u,.b true,.b false,.f 55] 4 [.pk 13 1 16 17,.mv 17 18,.gd 18 [.mv 1 18,.mv 0 19,.mv 0 20,.mv 0 21,.mv 0 22,.sg dk 13 cW] [.mv 2 18,.fa 57 6 1 19,.ld 53 19 20,.mv 8 21,.ca false true 3 [20,21] 22,.sg dk 13 cW] [.mv 0 19,.sg dk 10 cW]] (a::b::c::d::e::g::i::j::l::m::o::p::q::r::u::v::w::x::y::zz) h m0 ac :)
def Lh:=(gB5 s k wl 53 Tryz.f53 dk 13 cW [.u,.b true,.b false,.i 0] 4 [.pk 18 1 22 23,.mv 23 24,.gd 24 [.mv 1 24,.mv 0 25,.mv 0 26,.mv 0 27,.mv 0 28,.mv 0 29,.mv 0 30,.mv 0 31,.mv 0 32,.mv 0 33,.sg dk 24 cW] [.mv 2 24,.fa 57 6 0 25,.ld 3 25 26,.bo .neq 3 26 3 27,.mv 27 28,.sg dk 19 cW] [.mv 0 25,.sg dk 16 cW]] [a,b,c,d,e,g,i,j,l,m,o,p,q,r,u,v,w,x,y,z,A,B,C,D,E,F,G,I,J,L,M] h m0 ac :)
def Mu:=(gB5 s k wl 53 Tryz.f53 dk 24 cW [.u,.b true] 2 [.pk 22 1 31 32,.mv 32 5,.rv 5] [a,b,c,d,e,g,i,j,l,m,o,p,q,r,u,v,w,x,y,z,A,B,C,D,E,F,G,I,J,L,M] h m0 ac :)
def KC:=(gB5 s k wl 53 Tryz.f53 dk 19 cW [.u,.b true,.i 0,.b false] 4 [.gd 28 [.mv 1 28,.fa 57 6 1 29,.ld 53 29 30,.le 53 30 31,.bo .eql 3 31 2 32,.sg dk 23 cW] [.mv 3 28,.mv 0 29,.mv 0 30,.mv 0 31,.mv 0 32,.sg dk 23 cW] [.mv 0 29,.sg dk 20 cW]] [a,b,c,d,e,g,i,j,l,m,o,p,q,r,u,v,w,x,y,z,A,B,C,D,E,F,G,I,J,L,M] h m0 ac :)
def L5:=(gB5 s k wl 53 Tryz.f53 dk 23 cW [.u,.b true,.b false] 3 [.gd 23 [.mv 1 23,.mv 0 32,.sg dk 24 cW] [.mv 2 23,.pk 27 31 2 32,.sg dk 24 cW] [.mv 0 32,.sg dk 24 cW]] [a,b,c,d,e,g,i,j,l,m,o,p,q,r,u,v,w,x,y,z,A,B,C,D,E,F,G,I,J,L,M] h m0 ac :)
def Ma:=(gB5 s k wl 53 Tryz.f53 dk 20 cW [.u,.b true,.i 0,.b false] 4 [.gd 28 [.mv 1 28,.ld 53 29 30,.le 53 30 31,.bo .eql 3 31 2 32,.sg dk 23 cW] [.mv 3 28,.mv 0 30,.mv 0 31,.mv 0 32,.sg dk 23 cW] [.mv 0 30,.sg dk 21 cW]] [a,b,c,d,e,g,i,j,l,m,o,p,q,r,u,v,w,x,y,z,A,B,C,D,E,F,G,I,J,L,M] h m0 ac :)
def Ln:=(gB5 s k wl 53 Tryz.f53 dk 21 cW [.u,.b true,.i 0,.b false] 4 [.gd 28 [.mv 1 28,.le 53 30 31,.bo .eql 3 31 2 32,.sg dk 23 cW] [.mv 3 28,.mv 0 31,.mv 0 32,.sg dk 23 cW] [.mv 0 31,.sg dk 22 cW]] [a,b,c,d,e,g,i,j,l,m,o,p,q,r,u,v,w,x,y,z,A,B,C,D,E,F,G,I,J,L,M] h m0 ac :)
def L6:=(gB5 s k wl 53 Tryz.f53 dk 22 cW [.u,.b true,.i 0,.b false] 4 [.gd 28 [.mv 1 28,.bo .eql 3 31 2 32,.sg dk 23 cW] [.mv 3 28,.mv 0 32,.sg dk 23 cW] [.mv 0 32,.sg dk 23 cW]] [a,b,c,d,e,g,i,j,l,m,o,p,q,r,u,v,w,x,y,z,A,B,C,D,E,F,G,I,J,L,M] h m0 ac :)
def pz:=(yK5 cx K cW s0 :)
noncomputable def KT:Code:=ai (aj Tryz.f54) [1,0]
noncomputable def Hl:List Fr:=[.seq (ai (aj Tryz.f54) [1,1])]
def ah5:=(yB5 s k wl 54 Tryz.f54 [.u,.b false,.i 0,.b true] 4 [.mv 1 7,.rg,.mv 4 8,.bo .lss 3 8 2 9,.mv 9 10,.gd 10 [.mv 3 10,.sg KT 8 Hl] [.mv 1 10,.mv 4 11,.fa 30 5 1 12,.ld 24 12 13,.le 24 13 14,.bo .geq 3 11 14 15,.sg KT 8 Hl] [.sg KT 4 Hl]] 11 [a,b] h :)
def ahZ:=(yE5 k wl 54 Tryz.f54 [a,b] h :)
def LO:=(gB5 s k wl 54 Tryz.f54 KT 8 Hl [.u,.b true] 2 [.pk 8 1 13 14,.mv 14 5,.rv 5] [a,b,c,d,e,g,i,j,l,m,o,p,q] h m0 ac :)
def ra:=(yK5 cx K Hl s0 :)
noncomputable def Lg:Code:=ai (aj Tryz.f58) [1,1,0,1,0,0]
noncomputable def LX:List Fr:=[.block 0,.seq (ai (aj Tryz.f58) [1,1,1])]
def aoY:=(yB5 s k wl 58 Tryz.f58 [.u,.f 102,.i 0] 3 [.nl 5,.mv 3 8,.ca false true 1 [8] 9,.mv 9 6,.mv 6 10,.le 24 10 11,.mv 2 12,.lo Lg [10,13] LX] 23 [a] h :)
def apC:=(yE5 k wl 58 Tryz.f58 [a] h :)
def aoR:=(yZ5 P Tryz.f58 [.u] 1 [.rv 3] (a::b::c::zz) h :)
def adF:=(rL5 s k wl 58 rd Lg n0 K n [.u,.f 80,.i 1] 3 [.bo .lss 3 12 11 13,.cn 13 [.mv 12 14,.mv 14 7,.mv 6 15,.mv 7 16,.mv 6 17,.mv 7 18,.ia 24 17 18 19,.fa 101 19 1 20,.ld 53 20 21,.ca false true 1 [21] 22,.ia 24 15 16 23,.fa 101 23 1 24,.st 53 24 22,.bo .add 3 12 2 25,.mv 25 12,.nx Lg [10,13]] [.kt (.exit 0) [9,14]]] [a,b,c,d,e,g,i,j,l,m,o,p,q,r,u,v,w,x,y,z,A,B,C,D] h :)
def Xq:=(jB5 s k wl 58 Tryz.f58 LX (.exit 0) [.u] 1 [.mv 4 24,.mv 24 3,.rv 3] [a,b,c,d,e,g,i,j,l,m,o,p,q,r,u,v,w,x,y,z,A,B,C,D] h :)
def D8:=(yK5 cx K LX s0 :)
def apw:=(yB5 s k wl 67 Tryz.f67 [.u,.b false,.i 0] 3 [.bx 3 4,.mv 1 5,.fa 57 4 1 6,.ld 53 6 7,.le 53 7 8,.bo .gtr 3 8 2 9,.mv 9 5,.rv 5] 6 [a] h :)
def apo:=(yE5 k wl 67 Tryz.f67 [a] h :)
def Xd:=(yB5 s k wl 82 Tryz.f82 [.u,.f 83] 2 (.rg::.so 2::.ld 86 2 6::.so 2::.ld 86 2 7::.so 7::.nk 7 8::.fa 30 8 3 9::.so 9::.ld 27 9 10::.fa 48 3 1 11::.so 11::.lr 11::.ld 3 11 12::.ld 86 2 13::.nk 13 14::.fa 30 14 0 15::.ld 23 15 16::.ld 86 2 17::.nk 17 18::.fa 30 18 1 19::.ld 24 19 20::.ld 86 2 21::.nk 21 22::.fa 30 22 2 23::.ld 26 23 24::.fa 48 3 1 25::.ld 3 25 26::.ld 86 2 27::.nk 27 28::.fa 30 28 3 29::.ld 27 29 30::.fa 48 3 1 31::.ld 3 31 32::.ia 27 30 32 33::.ld 65 33 34::.fa 48 3 2 35::.ld 46 35 36::.ca true true 1 [16,20,24,26,34,36] 37::.mv 37 5::.ex 5 0 38::.ex 5 1 39::.ex 5 2 40::.nk 6 41::.fa 30 41 2 42::.lw 42::.st 26 42 38::.ia 27 10 12 43::.lw 43::.st 65 43 39::.lw 4::.st 34 4 40::.pt::.rt []::[]) 39 [a,b,c] h :)
def WQ:=(yE5 k wl 82 Tryz.f82 [a,b,c] h :)
def Xp:=(yB5 s k wl 84 Tryz.f84 [.u,.f 85,.f 86] 3 [.rg,.ld 86 3 6,.nk 6 7,.fa 30 7 0 8,.ld 23 8 9,.ld 86 3 10,.nk 10 11,.fa 30 11 1 12,.ld 24 12 13,.ld 86 3 14,.nk 14 15,.fa 30 15 2 16,.ld 26 16 17,.ld 86 3 18,.nk 18 19,.fa 30 19 4 20,.ld 28 20 21,.fa 48 4 1 22,.ld 3 22 23,.ia 28 21 23 24,.ld 57 24 25,.ca false true 1 [9,13,17,25] 26,.cn 26 [.rg,.so 3,.ld 86 3 28,.so 3,.ld 86 3 29,.so 29,.nk 29 30,.fa 30 30 4 31,.so 31,.ld 28 31 32,.fa 48 4 1 33,.so 33,.lr 33,.ld 3 33 34,.ld 86 3 35,.nk 35 36,.fa 30 36 0 37,.ld 23 37 38,.ld 86 3 39,.nk 39 40,.fa 30 40 1 41,.ld 24 41 42,.ld 86 3 43,.nk 43 44,.fa 30 44 2 45,.ld 26 45 46,.fa 48 4 1 47,.ld 3 47 48,.ld 86 3 49,.nk 49 50,.fa 30 50 4 51,.ld 28 51 52,.fa 48 4 1 53,.ld 3 53 54,.ia 28 52 54 55,.ld 57 55 56,.ca true true 2 [38,42,46,48,56] 57,.mv 57 27,.ex 27 0 58,.ex 27 1 59,.ex 27 2 60,.nk 28 61,.fa 30 61 2 62,.lw 62,.st 26 62 58,.ia 28 32 34 63,.lw 63,.st 57 63 59,.lw 5,.st 34 5 60,.pt,.rt []] [.rt []]] 58 [a,b,c] h :)
def Xi:=(yE5 k wl 84 Tryz.f84 [a,b,c] h :)
def Xv:=(yB5 s k wl 87 Tryz.f87 [.u,.f 88,.i 3,.v (.lit (.int .u64 1))] 4 [.rg,.so 4,.ld 86 4 5,.ld 86 4 6,.nk 6 7,.fa 30 7 2 8,.ld 26 8 9,.ca true true 1 [9,2,3] 10,.nk 5 11,.fa 30 11 2 12,.st 26 12 10,.rt []] 8 [a] h :)
def WG:=(yE5 k wl 87 Tryz.f87 [a] h :)
noncomputable def Ib:Code:=ai (aj Tryz.f94) [1,0,0]
noncomputable def LK:List Fr:=[.block 0]
noncomputable def LV:Code:=ai (aj Tryz.f94) [1,0,0,1,1,0,0,1,0]
noncomputable def G0:List Fr:=[.seq (ai (aj Tryz.f94) [1,0,0,1,1,0,0,1,1]),.block 1,.seq (ai (aj Tryz.f94) [1,0,0,1,1,1])]
def ahT:=(yB5 s k wl 94 Tryz.f94 [.u,.i 0] 2 [.fa 30 3 3 7,.ld 27 7 8,.le 27 8 9,.mv 1 10,.lo Ib [9] LK] 28 [a,b] h :)
def ahW:=(yE5 k wl 94 Tryz.f94 [a,b] h :)
def ah4:=(yZ5 P Tryz.f94 [.u] 1 [.rt []] zz h :)
def adu:=(rL5 s k wl 94 rd Ib n0 K n [.u,.f 95,.b true,.b false] 4 [.bo .lss 3 12 11 13,.cn 13 [.mv 12 14,.ia 27 10 12 15,.ld 65 15 16,.al 65 8,.mv 14 7,.st 65 8 16,.rg,.fa 30 5 0 17,.ld 23 17 18,.fa 30 5 1 19,.ld 24 19 20,.fa 30 5 2 21,.ld 26 21 22,.mv 7 23,.ld 65 8 24,.ca false true 1 [18,20,22,23,24] 25,.un .not 25 26,.mv 26 27,.gd 27 [.mv 2 27,.mv 4 28,.mv 7 29,.ca false true 28 [29] 30,.un .not 30 31,.sg LV 15 G0] [.mv 3 27,.mv 0 28,.mv 0 29,.mv 0 30,.mv 0 31,.sg LV 15 G0] [.mv 0 28,.sg LV 12 G0]] [.kt (.exit 0) [8]]] [a,b,c,d,e,g,i,j,l,m,o,p,q,r,u,v,w,x,y,z,A,B,C,D,E,F,G,I,J,L] h :)
def LH:=(jB5 s k wl 94 Tryz.f94 LK (.exit 0) [.u] 1 [.rt []] zz h :)
def Lb:=(gL5 s k wl 94 rd Ib n0 K n LV 15 G0 [.u,.b false,.i 1] 3 [.pk 26 30 1 31,.cn 31 [.kf .ret] [.bo .add 3 11 2 32,.mv 32 11,.nx Ib [9]]] [a,b,c,d,e,g,i,j,l,m,o,p,q,r,u,v,w,x,y,z,A,B,C,D,E,F,G,I,J,L] h m0 ac :)
def pZ:=(yK5 cx K LK s0 :)
def pA:=(yK5 cx K G0 s0 :)
end
end Go.Ab
set_option maxRecDepth 100000
set_option linter.unusedVariables false
namespace Go.Ab
open Go.Proofs
section
variable (s:Sys) (k wl m0 n n0:Nat) (a b c d e g i j l m o p q r u v w x y z A B C D E F G I J L M N O Q R S T U W X Y Z ta tb tc td te tf tg th ti tj tk tl tm tn tp tq tr ts tt tu tv tw tx ty tz tA tB tC tD tE tF tG tH tI tJ tK tL tM tN tO tP tQ:V) (h:Hp) (P:Program) (zz:List V) (ac:List Nat×List Nat) (K:Out→St→Option (V×Hp)) (rd:Bool) (cx:Cx) (s0:St)
noncomputable def Af:Code:=ai (aj Tryz.f23) [1,0,0]
noncomputable def uy:List Fr:=[.seq (ai (aj Tryz.f23) [1,0,1]),.seq (ai (aj Tryz.f23) [1,1])]
noncomputable def L4:Code:=ai (aj Tryz.f23) [1,1,1,1,0,1,0,0]
noncomputable def Mk:List Fr:=[.block 0,.seq (ai (aj Tryz.f23) [1,1,1,1,1])]
noncomputable def Bg:Code:=ai (aj Tryz.f23) [1,1,1,1,1,0,1,0,0]
noncomputable def D2:List Fr:=[.block 2,.seq (ai (aj Tryz.f23) [1,1,1,1,1,1])]
noncomputable def Mc:Code:=ai (aj Tryz.f23) [1,1,1,1,1,0,1,0,0,1,1,0,0,1,0,1,0,0]
noncomputable def LA:List Fr:=[.block 4,.seq (ai (aj Tryz.f23) [1,1,1,1,1,0,1,0,0,1,1,0,0,1,1]),.block 3,.seq (ai (aj Tryz.f23) [1,1,1,1,1,0,1,0,0,1,1,1])]
def ahA:=(yB5 s k wl 23 Tryz.f23 [.u,.b false,.f 50,.b true,.f 56] 5 [.bx 5 8,.al 30 11,.mv 1 12,.rg,.ld 23 8 21,.ca false true 2 [21] 22,.un .not 22 23,.mv 23 24,.gd 24 [.mv 3 24,.sg Af 7 uy] [.mv 1 24,.mv 6 25,.ca false true 4 [25] 26,.un .not 26 27,.sg Af 7 uy] [.sg Af 5 uy]] 81 [a,b,c] h :)
def ac5:=(yE5 k wl 23 Tryz.f23 [a,b,c] h :)
def ahD:=(yZ5 P Tryz.f23 [.u] 1 [.ro [(some 30,7),(none,8)]] (a::b::c::d::e::g::i::j::zz) h :)
def Gj:=(gB5 s k wl 23 Tryz.f23 Af 7 uy [.u,.b true,.b false,.i 3] 4 [.pk 23 1 26 27,.mv 27 28,.gd 28 [.mv 1 28,.mv 0 29,.mv 0 30,.mv 0 31,.sg Af 12 uy] [.mv 2 28,.mv 6 29,.le 40 29 30,.bo .gtr 3 30 3 31,.sg Af 12 uy] [.mv 0 29,.sg Af 10 uy]] (a::b::c::d::e::g::i::j::l::m::o::p::q::r::u::v::w::x::y::z::A::B::C::D::E::F::G::I::zz) h m0 ac :)
def Ih:=(gB5 s k wl 23 Tryz.f23 Af 12 uy [.u,.b true,.b false,.f 57,.f 58,.f 59,.i 0] 7 [.pk 31 1 34 35,.cn 35 [.bu 30 [] 36,.st 30 13 36,.mv 2 14,.ro [(some 30,13),(none,14)]] [.mv 8 37,.ca false true 3 [37] 38,.mv 38 15,.rg,.al 30 16,.so 10,.ld 23 10 39,.mv 8 40,.ca true true 4 [40] 41,.so 10,.ld 23 10 42,.ca true true 5 [42] 43,.bu 30 [(0,39),(1,41),(2,43)] 44,.st 30 16 44,.fa 23 10 0 45,.ld 3 45 46,.mv 6 47,.lo L4 [41,10] Mk]] (a::b::c::d::e::g::i::j::l::m::o::p::q::r::u::v::w::x::y::z::A::B::C::D::E::F::G::I::J::L::M::N::O::Q::R::S::T::U::W::X::Y::Z::ta::tb::tc::td::te::tf::tg::th::ti::tj::tk::tl::tm::tn::tp::tq::tr::ts::tt::tu::tv::tw::tx::ty::tz::tA::tB::tC::tD::tE::tF::tG::tH::tI::tJ::tK::tL::tM::tN::tO::tP::tQ::[]) h m0 ac :)
def adL:=(rL5 s k wl 23 rd L4 n0 K n [.u,.f 60,.i 1] 3 [.bo .lss 3 43 42 44,.cn 44 [.mv 43 45,.mv 45 13,.rg,.fa 30 12 3 46,.so 46,.ld 27 46 47,.mv 13 48,.ca true true 1 [48] 49,.bS true 27 1 [(0,49)] 50,.ap 27 27 47 50 51,.fa 30 12 3 52,.st 27 52 51,.bo .add 3 43 2 53,.mv 53 43,.nx L4 [41,10]] [.kt (.exit 0) [40,11]]] (a::b::c::d::e::g::i::j::l::m::o::p::q::r::u::v::w::x::y::z::A::B::C::D::E::F::G::I::J::L::M::N::O::Q::R::S::T::U::W::X::Y::Z::ta::tb::tc::td::te::tf::tg::th::ti::tj::tk::tl::tm::tn::tp::tq::tr::ts::tt::tu::tv::tw::tx::ty::tz::tA::tB::tC::tD::tE::tF::tG::tH::tI::tJ::tK::tL::tM::tN::tO::tP::tQ::[]) h :)
def Hq:=(jB5 s k wl 23 Tryz.f23 Mk (.exit 0) [.u,.i 0] 2 [.mv 4 53,.le 40 53 54,.mv 1 55,.lo Bg [54,29] D2] (a::b::c::d::e::g::i::j::l::m::o::p::q::r::u::v::w::x::y::z::A::B::C::D::E::F::G::I::J::L::M::N::O::Q::R::S::T::U::W::X::Y::Z::ta::tb::tc::td::te::tf::tg::th::ti::tj::tk::tl::tm::tn::tp::tq::tr::ts::tt::tu::tv::tw::tx::ty::tz::tA::tB::tC::tD::tE::tF::tG::tH::tI::tJ::tK::tL::tM::tN::tO::tP::tQ::[]) h :)
def ad8:=(rL5 s k wl 23 rd Bg n0 K n [.u,.i 0] 2 [.bo .lss 3 55 54 56,.cn 56 [.ia 40 53 55 57,.ld 53 57 58,.mv 58 14,.mv 14 59,.le 53 59 60,.mv 1 61,.lo Mc [60,15] LA] [.kt (.exit 2) [53,30]]] (a::b::c::d::e::g::i::j::l::m::o::p::q::r::u::v::w::x::y::z::A::B::C::D::E::F::G::I::J::L::M::N::O::Q::R::S::T::U::W::X::Y::Z::ta::tb::tc::td::te::tf::tg::th::ti::tj::tk::tl::tm::tn::tp::tq::tr::ts::tt::tu::tv::tw::tx::ty::tz::tA::tB::tC::tD::tE::tF::tG::tH::tI::tJ::tK::tL::tM::tN::tO::tP::tQ::[]) h :)
def GQ:=(jB5 s k wl 23 Tryz.f23 D2 (.exit 2) [.u,.b true] 2 [.ld 30 11 85,.st 30 8 85,.mv 1 9,.ro [(some 30,8),(none,9)]] (a::b::c::d::e::g::i::j::l::m::o::p::q::r::u::v::w::x::y::z::A::B::C::D::E::F::G::I::J::L::M::N::O::Q::R::S::T::U::W::X::Y::Z::ta::tb::tc::td::te::tf::tg::th::ti::tj::tk::tl::tm::tn::tp::tq::tr::ts::tt::tu::tv::tw::tx::ty::tz::tA::tB::tC::tD::tE::tF::tG::tH::tI::tJ::tK::tL::tM::tN::tO::tP::tQ::[]) h :)
def ac8:=(rL5 s k wl 23 rd Mc n0 K n [.u,.f 61,.i 0,.b false,.i 1,.f 62] 6 [.bo .lss 3 65 64 66,.cn 66 [.ia 53 63 65 67,.ld 3 67 68,.mv 68 20,.mv 14 69,.mv 20 70,.ca false true 1 [69,70] 71,.mv 71 21,.mv 21 72,.bo .lss 3 72 2 73,.cn 73 [.bu 30 [] 74,.st 30 12 74,.mv 3 13,.kf .ret] [.mv 14 75,.mv 21 76,.mv 21 77,.bo .add 3 77 4 78,.ca false true 5 [75,76,78] 79,.mv 79 14,.bo .add 3 65 4 80,.mv 80 65,.nx Mc [60,15]]] [.kt (.exit 4) [59,16]]] (a::b::c::d::e::g::i::j::l::m::o::p::q::r::u::v::w::x::y::z::A::B::C::D::E::F::G::I::J::L::M::N::O::Q::R::S::T::U::W::X::Y::Z::ta::tb::tc::td::te::tf::tg::th::ti::tj::tk::tl::tm::tn::tp::tq::tr::ts::tt::tu::tv::tw::tx::ty::tz::tA::tB::tC::tD::tE::tF::tG::tH::tI::tJ::tK::tL::tM::tN::tO::tP::tQ::[]) h :)
def GO:=(jL5 s k wl 23 rd Bg n0 K n LA (.exit 4) [.u,.f 63,.i 1] 3 [.rg,.fa 30 12 4 78,.so 78,.ld 28 78 79,.mv 15 80,.ca true true 1 [80] 81,.bS true 28 1 [(0,81)] 82,.ap 28 28 79 82 83,.fa 30 12 4 84,.st 28 84 83,.bo .add 3 56 2 85,.mv 85 56,.nx Bg [54,29]] (a::b::c::d::e::g::i::j::l::m::o::p::q::r::u::v::w::x::y::z::A::B::C::D::E::F::G::I::J::L::M::N::O::Q::R::S::T::U::W::X::Y::Z::ta::tb::tc::td::te::tf::tg::th::ti::tj::tk::tl::tm::tn::tp::tq::tr::ts::tt::tu::tv::tw::tx::ty::tz::tA::tB::tC::tD::tE::tF::tG::tH::tI::tJ::tK::tL::tM::tN::tO::tP::tQ::[]) h :)
def nq:=(yK5 cx K uy s0 :)
def nz:=(yK5 cx K Mk s0 :)
def nh:=(yK5 cx K D2 s0 :)
def nD:=(yK5 cx K LA s0 :)
end
end Go.Ab
set_option maxRecDepth 100000
set_option linter.unusedVariables false
namespace Go.Ab
open Go.Proofs
section
variable (s:Sys) (k wl m0 n n0:Nat) (h:Hp) (P:Program) (zz:List V) (a b c d e g i j l m o p q r u v w x y z A B C D E F G I J L M N O Q R S T U W X Y Z ta tb tc td te tf tg th ti tj tk tl tm tn tp tq tr ts tt tu tv tw tx ty tz tA tB tC tD tE tF tG tH tI tJ tK tL tM tN tO tP tQ tR tS:V) (ac:List Nat×List Nat) (K:Out→St→Option (V×Hp)) (rd:Bool) (cx:Cx) (s0:St)
noncomputable def Hj:Code:=ai (aj Tryz.f22) [1,0,1,0,0]
noncomputable def LI:List Fr:=[.block 0,.seq (ai (aj Tryz.f22) [1,1])]
noncomputable def KX:Code:=ai (aj Tryz.f22) [1,0,1,0,0,0,0]
noncomputable def HN:List Fr:=[.seq (ai (aj Tryz.f22) [1,0,1,0,0,0,1]),.seq (ai (aj Tryz.f22) [1,0,1,0,0,1])]
def apJ:=(yB5 s k wl 22 Tryz.f22 [.u,.b false,.i 0] 3 [.mv 1 5,.mv 2 6,.lo Hj [4,16] LI] 22 [a] h :)
def aoQ:=(yE5 k wl 22 Tryz.f22 [a] h :)
def apq:=(yZ5 P Tryz.f22 [.u] 1 [.rv 3] (a::b::c::zz) h :)
def aeh:=(rL5 s k wl 22 rd Hj n0 K n [.u,.b true,.i 10,.b false] 4 [.rg,.mv 7 8,.mv 4 9,.le 40 9 10,.bo .lss 3 8 10 11,.mv 11 12,.gd 12 [.mv 1 12,.mv 7 13,.bo .leq 3 13 2 14,.sg KX 7 HN] [.mv 3 12,.mv 0 13,.mv 0 14,.sg KX 7 HN] [.mv 0 13,.sg KX 6 HN]] (a::b::c::d::e::g::i::j::l::m::o::zz) h :)
def WO:=(jB5 s k wl 22 Tryz.f22 LI (.exit 0) [.u,.i 10] 2 [.mv 2 22,.le 40 22 23,.bo .leq 3 23 1 24,.mv 24 4,.rv 4] [a,b,c,d,e,g,i,j,l,m,o,p,q,r,u,v,w,x,y,z,A,B,C] h :)
def W8:=(gL5 s k wl 22 rd Hj n0 K n KX 7 HN [.u,.b false,.i 60,.i 1] 4 [.pk 12 14 1 15,.cn 15 [.mv 4 18,.mv 7 19,.ia 40 18 19 20,.ld 53 20 21,.le 53 21 22,.bo .gtr 3 22 2 23,.cn 23 [.mv 1 6,.kf .ret] [.mv 7 16,.bo .add 3 16 3 17,.mv 17 7,.nx Hj [4,16]]] [.kt (.exit 0) [4,16]]] [a,b,c,d,e,g,i,j,l,m,o,p,q,r,u,v,w,x,y,z,A,B,C] h m0 ac :)
def DW:=(yK5 cx K LI s0 :)
def DU:=(yK5 cx K HN s0 :)
noncomputable def bP:Code:=ai (aj Tryz.f33) [1,1,1,1,1,0]
noncomputable def bM:List Fr:=[.seq (ai (aj Tryz.f33) [1,1,1,1,1,1])]
def ari:=(yB5 s k wl 33 Tryz.f33 [.u,.b false,.i 1,.i 0,.f 34,.v .nil,.f 36,.i 500,.f 37,.b true] 10 (.mv 1 10::.bu 101 [(0,2)] 21::.bS false 24 1 [(0,21)] 22::.mv 22 11::.bu 23 [(0,2),(1,2),(2,2)] 24::.mv 11 25::.bS false 53 1 [(0,3)] 26::.bS false 40 1 [(0,26)] 27::.ca false true 4 [24,25,27,5] 28::.mv 28 23::.ex 23 0 29::.ex 23 1 30::.ex 23 2 31::.al 30 12::.st 30 12 29::.mv 30 13::.mv 31 14::.ld 30 12 33::.ca false true 6 [33,7] 34::.mv 34 32::.ex 32 0 35::.ex 32 1 36::.ex 32 2 37::.al 30 15::.st 30 15 35::.mv 36 16::.mv 37 17::.mv 11 39::.mv 16 40::.ca false true 8 [39,40] 41::.mv 41 38::.ex 38 0 42::.ex 38 1 43::.ex 38 2 44::.mv 42 18::.mv 43 19::.mv 44 20::.rg::.mv 14 45::.mv 45 46::.gd 46 [.mv 9 46,.mv 13 47,.le 34 47 48,.bo .eql 3 48 3 49,.sg bP 5 bM] [.mv 1 46,.sg bP 5 bM] [.sg bP 3 bM]::[]) 86 [] h :)
def aqQ:=(yE5 k wl 33 Tryz.f33 [] h :)
def aew:=(gB5 s k wl 33 Tryz.f33 bP 5 bM [.u,.b false,.b true,.f 39,.i 1] 5 [.pk 41 44 1 45,.mv 45 46,.gd 46 [.mv 2 46,.ld 30 7 47,.ca false true 3 [47] 48,.bo .eql 3 48 4 49,.sg bP 10 bM] [.mv 1 46,.mv 0 47,.mv 0 48,.mv 0 49,.sg bP 10 bM] [.mv 0 47,.sg bP 8 bM]] (a::b::c::d::e::g::i::j::l::m::o::p::q::r::u::v::w::x::y::z::A::B::C::D::E::F::G::I::J::L::M::N::O::Q::R::S::T::U::W::X::Y::Z::ta::tb::tc::zz) h m0 ac :)
def agc:=(gB5 s k wl 33 Tryz.f33 bP 10 bM [.u,.b false,.b true,.f 29] 4 [.pk 45 48 1 49,.mv 49 50,.gd 50 [.mv 2 50,.ld 30 9 51,.ca false true 3 [51] 52,.sg bP 14 bM] [.mv 1 50,.mv 0 51,.mv 0 52,.sg bP 14 bM] [.mv 0 51,.sg bP 13 bM]] (a::b::c::d::e::g::i::j::l::m::o::p::q::r::u::v::w::x::y::z::A::B::C::D::E::F::G::I::J::L::M::N::O::Q::R::S::T::U::W::X::Y::Z::ta::tb::tc::td::te::tf::tg::zz) h m0 ac :)
def afc:=(gB5 s k wl 33 Tryz.f33 bP 14 bM [.u,.b false,.b true,.i 10] 4 [.pk 50 52 1 53,.mv 53 54,.gd 54 [.mv 2 54,.mv 11 55,.bo .gtr 3 55 3 56,.sg bP 18 bM] [.mv 1 54,.mv 0 55,.mv 0 56,.sg bP 18 bM] [.mv 0 55,.sg bP 17 bM]] (a::b::c::d::e::g::i::j::l::m::o::p::q::r::u::v::w::x::y::z::A::B::C::D::E::F::G::I::J::L::M::N::O::Q::R::S::T::U::W::X::Y::Z::ta::tb::tc::td::te::tf::tg::th::ti::tj::tk::zz) h m0 ac :)
def ag7:=(gB5 s k wl 33 Tryz.f33 bP 18 bM [.u,.b false,.b true,.i 500] 4 [.pk 54 56 1 57,.mv 57 58,.gd 58 [.mv 2 58,.mv 11 59,.bo .lss 3 59 3 60,.sg bP 22 bM] [.mv 1 58,.mv 0 59,.mv 0 60,.sg bP 22 bM] [.mv 0 59,.sg bP 21 bM]] (a::b::c::d::e::g::i::j::l::m::o::p::q::r::u::v::w::x::y::z::A::B::C::D::E::F::G::I::J::L::M::N::O::Q::R::S::T::U::W::X::Y::Z::ta::tb::tc::td::te::tf::tg::th::ti::tj::tk::tl::tm::tn::tp::zz) h m0 ac :)
def aeQ:=(gB5 s k wl 33 Tryz.f33 bP 22 bM [.u,.b false,.b true,.i 1] 4 [.pk 58 60 1 61,.mv 61 62,.gd 62 [.mv 2 62,.mv 12 63,.bo .eql 3 63 3 64,.sg bP 26 bM] [.mv 1 62,.mv 0 63,.mv 0 64,.sg bP 26 bM] [.mv 0 63,.sg bP 25 bM]] (a::b::c::d::e::g::i::j::l::m::o::p::q::r::u::v::w::x::y::z::A::B::C::D::E::F::G::I::J::L::M::N::O::Q::R::S::T::U::W::X::Y::Z::ta::tb::tc::td::te::tf::tg::th::ti::tj::tk::tl::tm::tn::tp::tq::tr::ts::tt::zz) h m0 ac :)
def ac4:=(gB5 s k wl 33 Tryz.f33 bP 26 bM [.u,.b false,.b true,.i 0] 4 [.pk 62 64 1 65,.mv 65 66,.gd 66 [.mv 2 66,.mv 13 67,.bo .eql 3 67 3 68,.sg bP 30 bM] [.mv 1 66,.mv 0 67,.mv 0 68,.sg bP 30 bM] [.mv 0 67,.sg bP 29 bM]] (a::b::c::d::e::g::i::j::l::m::o::p::q::r::u::v::w::x::y::z::A::B::C::D::E::F::G::I::J::L::M::N::O::Q::R::S::T::U::W::X::Y::Z::ta::tb::tc::td::te::tf::tg::th::ti::tj::tk::tl::tm::tn::tp::tq::tr::ts::tt::tu::tv::tw::tx::zz) h m0 ac :)
def adl:=(gB5 s k wl 33 Tryz.f33 bP 30 bM [.u,.b false,.b true,.i 1] 4 [.pk 66 68 1 69,.mv 69 70,.gd 70 [.mv 2 70,.mv 14 71,.bo .eql 3 71 3 72,.sg bP 34 bM] [.mv 1 70,.mv 0 71,.mv 0 72,.sg bP 34 bM] [.mv 0 71,.sg bP 33 bM]] (a::b::c::d::e::g::i::j::l::m::o::p::q::r::u::v::w::x::y::z::A::B::C::D::E::F::G::I::J::L::M::N::O::Q::R::S::T::U::W::X::Y::Z::ta::tb::tc::td::te::tf::tg::th::ti::tj::tk::tl::tm::tn::tp::tq::tr::ts::tt::tu::tv::tw::tx::ty::tz::tA::tB::zz) h m0 ac :)
def agb:=(gB5 s k wl 33 Tryz.f33 bP 34 bM [.u,.b false,.b true,.i 4] 4 [.pk 70 72 1 73,.mv 73 74,.gd 74 [.mv 2 74,.mv 10 75,.le 34 75 76,.bo .eql 3 76 3 77,.sg bP 39 bM] [.mv 1 74,.mv 0 75,.mv 0 76,.mv 0 77,.sg bP 39 bM] [.mv 0 75,.sg bP 37 bM]] (a::b::c::d::e::g::i::j::l::m::o::p::q::r::u::v::w::x::y::z::A::B::C::D::E::F::G::I::J::L::M::N::O::Q::R::S::T::U::W::X::Y::Z::ta::tb::tc::td::te::tf::tg::th::ti::tj::tk::tl::tm::tn::tp::tq::tr::ts::tt::tu::tv::tw::tx::ty::tz::tA::tB::tC::tD::tE::tF::tG::zz) h m0 ac :)
def aeC:=(gB5 s k wl 33 Tryz.f33 bP 39 bM [.u,.b false,.b true,.i 3,.i 5] 5 [.pk 75 78 1 79,.mv 79 80,.gd 80 [.mv 2 80,.mv 11 81,.ia 34 81 3 82,.fa 52 82 0 83,.ld 3 83 84,.bo .eql 3 84 4 85,.sg bP 46 bM] [.mv 1 80,.mv 0 81,.mv 0 82,.mv 0 83,.mv 0 84,.mv 0 85,.sg bP 46 bM] [.mv 0 81,.sg bP 42 bM]] (a::b::c::d::e::g::i::j::l::m::o::p::q::r::u::v::w::x::y::z::A::B::C::D::E::F::G::I::J::L::M::N::O::Q::R::S::T::U::W::X::Y::Z::ta::tb::tc::td::te::tf::tg::th::ti::tj::tk::tl::tm::tn::tp::tq::tr::ts::tt::tu::tv::tw::tx::ty::tz::tA::tB::tC::tD::tE::tF::tG::tH::tI::tJ::tK::tL::tM::tN::zz) h m0 ac :)
def afJ:=(gB5 s k wl 33 Tryz.f33 bP 46 bM [.u,.b false,.b true,.f 35,.v .nil] 5 [.pk 80 85 1 86,.mv 86 87,.gd 87 [.mv 2 87,.ld 30 7 88,.ca false true 3 [88,4] 89,.sg bP 50 bM] [.mv 1 87,.mv 0 88,.mv 0 89,.sg bP 50 bM] [.mv 0 88,.sg bP 49 bM]] (a::b::c::d::e::g::i::j::l::m::o::p::q::r::u::v::w::x::y::z::A::B::C::D::E::F::G::I::J::L::M::N::O::Q::R::S::T::U::W::X::Y::Z::ta::tb::tc::td::te::tf::tg::th::ti::tj::tk::tl::tm::tn::tp::tq::tr::ts::tt::tu::tv::tw::tx::ty::tz::tA::tB::tC::tD::tE::tF::tG::tH::tI::tJ::tK::tL::tM::tN::tO::tP::tQ::tR::tS::[]) h m0 ac :)
def ZC:=(gB5 s k wl 33 Tryz.f33 bP 50 bM [.u,.b false] 2 [.pk 84 86 1 87,.mv 87 2,.rv 2] (a::b::c::d::e::g::i::j::l::m::o::p::q::r::u::v::w::x::y::z::A::B::C::D::E::F::G::I::J::L::M::N::O::Q::R::S::T::U::W::X::Y::Z::ta::tb::tc::td::te::tf::tg::th::ti::tj::tk::tl::tm::tn::tp::tq::tr::ts::tt::tu::tv::tw::tx::ty::tz::tA::tB::tC::tD::tE::tF::tG::tH::tI::tJ::tK::tL::tM::tN::tO::tP::tQ::tR::tS::[]) h m0 ac :)
def M6:=(yK5 cx K bM s0 :)
end
end Go.Ab
set_option maxRecDepth 100000
set_option linter.unusedVariables false
namespace Go.Ab
open Go.Proofs
section
variable (s:Sys) (k wl n n0 m0:Nat) (a b c d e g i j l m o p q r u v w x y z A B C D E F G I J L M N O Q R S T U W X Y Z ta tb tc:V) (h:Hp) (P:Program) (zz:List V) (K:Out→St→Option (V×Hp)) (rd:Bool) (ac:List Nat×List Nat) (cx:Cx) (s0:St)
def aqu:=(yB5 s k wl 34 Tryz.f34 [.u,.b false,.f 23,.f 73,.f 17,.b true] 6 [.bx 6 10,.al 30 14,.nl 15,.mv 1 16,.ld 23 10 22,.mv 7 23,.mv 8 24,.ca false true 2 [22,23,24] 25,.mv 25 21,.ex 21 0 26,.ex 21 1 27,.al 30 17,.st 30 17 26,.mv 27 18,.mv 18 28,.un .not 28 29,.cn 29 [.bu 30 [] 30,.st 30 14 30,.nl 15,.mv 1 16,.ro [(some 30,14),(none,15),(none,16)]] [.rg,.al 30 19,.so 17,.ld 30 17 32,.mv 9 33,.ca true true 3 [33] 34,.ca true true 4 [32,34] 35,.mv 35 31,.ex 31 0 36,.ex 31 1 37,.st 30 19 36,.mv 37 20,.ld 30 19 38,.mv 20 39,.st 30 14 38,.mv 39 15,.mv 5 16,.ro [(some 30,14),(none,15),(none,16)]]] 30 [a,b,c,d] h :)
def aqx:=(yE5 k wl 34 Tryz.f34 [a,b,c,d] h :)
noncomputable def W6:Code:=ai (aj Tryz.f36) [1,1,1,1,0,1,0]
noncomputable def Rv:Code:=ai (aj Tryz.f36) [1,1,1,1,0,1,0,0]
noncomputable def Qm:Code:=ai (aj Tryz.f36) [1,1,1,1,0,1,0,1]
noncomputable def Hw:List Fr:=[.block 0,.seq (ai (aj Tryz.f36) [1,1,1,1,1])]
theorem HJ:W6 = .rangeFunc (.tmp 25) #[26,27] Rv Qm:=by kernel_rfl
def api:=(yB5 s k wl 36 Tryz.f36 [.u,.i 0,.f 17,.v .nil,.f 20,.f 74] 6 [.bx 6 8,.al 30 10,.nl 11,.mv 1 12,.ld 30 8 21,.ca false true 2 [21,3] 22,.mv 22 20,.ex 20 0 23,.ex 20 1 24,.al 30 13,.al 34 14,.st 30 13 23,.st 34 14 24,.ld 30 8 25,.ca false true 4 [25] 26,.un .not 26 27,.cn 27 [.ld 30 13 28,.st 30 10 28,.nl 11,.mv 1 12,.ro [(some 30,10),(none,11),(none,12)]] [.al 3 15,.st 3 15 1,.ld 30 8 29,.mv 7 30,.ca false true 5 [29,30] 31,.rf W6 Hw]] 43 [a,b] h :)
def apa:=(yE5 k wl 36 Tryz.f36 [a,b] h :)
def apc:=(yZ5 P Tryz.f36 [.u] 1 [.ro [(some 30,5),(none,6),(none,7)]] (a::b::c::d::e::g::i::zz) h :)
def WP:=(jB5 s k wl 36 Tryz.f36 Hw .norm [.u] 1 [.rg,.ld 30 8 43,.so 9,.lr 9,.ld 34 9 44,.so 10,.lr 10,.ld 3 10 45,.lw 5,.st 30 5 43,.mv 44 6,.mv 45 7,.pt,.ro [(some 30,5),(none,6),(none,7)]] [a,b,c,d,e,g,i,j,l,m,o,p,q,r,u,v,w,x,y,z,A,B,C,D,E,F,G,I,J,L,M,N,O,Q,R,S,T,U,W,X,Y,Z,ta,tb,tc] h :)
def W4:=(jB5 s k wl 36 Tryz.f36 Hw (.exit 0) [.u] 1 [.rg,.ld 30 8 43,.so 9,.lr 9,.ld 34 9 44,.so 10,.lr 10,.ld 3 10 45,.lw 5,.st 30 5 43,.mv 44 6,.mv 45 7,.pt,.ro [(some 30,5),(none,6),(none,7)]] [a,b,c,d,e,g,i,j,l,m,o,p,q,r,u,v,w,x,y,z,A,B,C,D,E,F,G,I,J,L,M,N,O,Q,R,S,T,U,W,X,Y,Z,ta,tb,tc] h :)
def lA:=(qF5 s k wl 36 rd K Qm [.u,.f 29,.f 17,.i 1] 4 [.ld 30 11 32,.ca false true 1 [32] 33,.cn 33 [.kf (.exit 0)] [.ld 30 11 35,.mv 15 36,.ca false true 2 [35,36] 37,.mv 37 34,.ex 34 0 38,.ex 34 1 39,.al 30 16,.st 30 16 38,.mv 39 17,.rg,.so 16,.lr 16,.ld 30 16 40,.ld 34 12 41,.mv 17 42,.lw 41,.ap 34 34 41 42 43,.mv 14 44,.bo .add 3 44 3 45,.lw 11,.st 30 11 40,.lw 12,.st 34 12 43,.lw 13,.st 3 13 45,.pt,.kf .norm]] [a,b,c,d,e,g,i,j,l,m,o,p,q,r,u,v,w,x,y,z,A,B,C,D,E,F,G,I,J,L,M,N,O,Q,R,S,T,U,W,X,Y,Z,ta,tb,tc] h :)
def lG:=(qF5 s k wl 36 rd K Rv [.u] 1 [.mv 27 11,.mv 28 12,.kf .norm] (a::b::c::d::e::g::i::j::l::m::o::p::q::r::u::v::w::x::y::z::A::B::C::D::E::F::G::I::zz) h :)
def D4:=(yK5 cx K Hw s0 :)
noncomputable def D1:Code:=ai (aj Tryz.f37) [1,0,1,1,0,1,0,0]
noncomputable def Mm:List Fr:=[.block 0,.seq (ai (aj Tryz.f37) [1,0,1,1,1]),.scope (ai (aj Tryz.f37) [1,0])]
noncomputable def Kx:Code:=ai (aj Tryz.f37) [1,0,1,1,0,1,0,0,1,1,0,0,1,0,0]
noncomputable def GM:List Fr:=[.seq (ai (aj Tryz.f37) [1,0,1,1,0,1,0,0,1,1,0,0,1,0,1]),.seq (ai (aj Tryz.f37) [1,0,1,1,0,1,0,0,1,1,0,0,1,1]),.block 1,.seq (ai (aj Tryz.f37) [1,0,1,1,0,1,0,0,1,1,1])]
def ao7:=(yB5 s k wl 37 Tryz.f37 [.u,.i 0] 2 [.mv 1 6,.mv 1 7,.mv 1 8,.al 121 9,.mv 3 12,.le 34 12 13,.mv 1 14,.lo D1 [13,18] Mm] 35 [a,b] h :)
def apb:=(yE5 k wl 37 Tryz.f37 [a,b] h :)
def ape:=(yZ5 P Tryz.f37 [.u] 1 [.rt [5,6,7]] (a::b::c::d::e::g::i::zz) h :)
def ahj:=(rL5 s k wl 37 rd D1 n0 K n [.u,.i 0,.b true,.b false,.i 6] 5 [.bo .lss 3 17 16 18,.cn 18 [.ia 34 15 17 19,.ld 52 19 20,.al 52 14,.st 52 14 20,.rg,.fa 52 14 0 21,.ld 3 21 22,.bo .lss 3 22 1 23,.mv 23 24,.gd 24 [.mv 2 24,.mv 0 25,.mv 0 26,.mv 0 27,.sg Kx 7 GM] [.mv 3 24,.fa 52 14 0 25,.ld 3 25 26,.bo .geq 3 26 4 27,.sg Kx 7 GM] [.mv 0 25,.sg Kx 5 GM]] [.kt (.exit 0) [12,19]]] [a,b,c,d,e,g,i,j,l,m,o,p,q,r,u,v,w,x,y,z,A,B,C,D,E,F,G,I,J,L,M,N,O,Q,R,S,T] h :)
def W3:=(jB5 s k wl 37 Tryz.f37 Mm (.exit 0) [.u,.i 0,.i 1,.i 4] 4 [.rg,.ia 121 11 1 35,.ld 3 35 36,.ia 121 11 2 37,.ld 3 37 38,.ia 121 11 3 39,.ld 3 39 40,.mv 36 8,.mv 38 9,.mv 40 10,.rt [8,9,10]] [a,b,c,d,e,g,i,j,l,m,o,p,q,r,u,v,w,x,y,z,A,B,C,D,E,F,G,I,J,L,M,N,O,Q,R,S,T] h :)
def WV:=(gL5 s k wl 37 rd D1 n0 K n Kx 7 GM [.u,.b true,.i 1] 3 [.pk 22 1 25 26,.cn 26 [.bo .add 3 15 2 33,.mv 33 15,.nx D1 [13,18]] [.fa 52 12 0 27,.ld 3 27 28,.ia 121 10 28 29,.ld 3 29 30,.bo .add 3 30 2 31,.ia 121 10 28 32,.st 3 32 31,.bo .add 3 15 2 33,.mv 33 15,.nx D1 [13,18]]] [a,b,c,d,e,g,i,j,l,m,o,p,q,r,u,v,w,x,y,z,A,B,C,D,E,F,G,I,J,L,M,N,O,Q,R,S,T] h m0 ac :)
def Ea:=(yK5 cx K Mm s0 :)
def D6:=(yK5 cx K GM s0 :)
noncomputable def Ms:Code:=ai (aj Tryz.f39) [1,1,0,1,0,0]
noncomputable def LD:List Fr:=[.block 0,.seq (ai (aj Tryz.f39) [1,1,1])]
def apE:=(yB5 s k wl 39 Tryz.f39 [.u,.i 0] 2 [.bx 2 3,.mv 1 4,.mv 1 5,.fa 30 3 4 8,.ld 28 8 9,.le 28 9 10,.mv 1 11,.lo Ms [10,9] LD] 22 [a] h :)
def apH:=(yE5 k wl 39 Tryz.f39 [a] h :)
def aoT:=(yZ5 P Tryz.f39 [.u] 1 [.rv 3] (a::b::c::zz) h :)
def adY:=(rL5 s k wl 39 rd Ms n0 K n [.u,.i 1] 2 [.bo .lss 3 11 10 12,.cn 12 [.ia 28 9 11 13,.ld 57 13 14,.al 57 7,.st 57 7 14,.mv 5 15,.fa 57 7 1 16,.ld 53 16 17,.le 53 17 18,.bo .add 3 15 18 19,.mv 19 5,.bo .add 3 11 1 20,.mv 20 11,.nx Ms [10,9]] [.kt (.exit 0) [9,10]]] [a,b,c,d,e,g,i,j,l,m,o,p,q,r,u,v,w,x,y,z,A,B,C] h :)
def Xb:=(jB5 s k wl 39 Tryz.f39 LD (.exit 0) [.u,.f 20,.i 0] 3 [.ld 30 4 22,.ca false true 1 [22] 23,.un .not 23 24,.cn 24 [.mv 2 5,.rv 5] [.mv 6 25,.mv 25 5,.rv 5]] [a,b,c,d,e,g,i,j,l,m,o,p,q,r,u,v,w,x,y,z,A,B,C] h :)
def Ed:=(yK5 cx K LD s0 :)
noncomputable def Xj:Code:=ai (aj Tryz.f73) [1,1,0,1,0]
noncomputable def QS:Code:=ai (aj Tryz.f73) [1,1,0,1,0,0]
noncomputable def Pv:Code:=ai (aj Tryz.f73) [1,1,0,1,0,1]
noncomputable def KF:List Fr:=[.block 0,.seq (ai (aj Tryz.f73) [1,1,1])]
theorem HO:Xj = .rangeFunc (.tmp 6) #[7] QS Pv:=by kernel_rfl
def apf:=(yB5 s k wl 73 Tryz.f73 [.u,.f 111,.i 3] 3 [.nl 5,.al 31 6,.mv 3 8,.ca false true 1 [8,2] 9,.rf Xj KF] 28 [a] h :)
def apF:=(yE5 k wl 73 Tryz.f73 [a] h :)
def apl:=(yZ5 P Tryz.f73 [.u] 1 [.rv 3] (a::b::c::zz) h :)
def Xs:=(jB5 s k wl 73 Tryz.f73 KF .norm [.u] 1 [.ld 31 4 29,.mv 29 3,.rv 3] [a,b,c,d,e,g,i,j,l,m,o,p,q,r,u,v,w,x,y,z,A,B,C,D,E,F,G,I,J] h :)
def oK:=(qF5 s k wl 73 rd K Pv [.u,.i 3,.i 0,.v (.lit (.int .u8 4)),.i 1,.i 2] 6 [.mv 10 14,.le 67 14 15,.bo .eql 3 15 1 16,.cn 16 [.rg,.so 9,.ld 31 9 17,.mv 10 18,.ia 67 18 2 19,.ld 5 19 20,.bo .rem 5 20 3 21,.cv 5 3 21 22,.mv 10 23,.ia 67 23 4 24,.ld 5 24 25,.cv 5 3 25 26,.mv 10 27,.ia 67 27 5 28,.ld 5 28 29,.cv 5 46 29 30,.bu 48 [(0,22),(1,26),(2,30)] 31,.bS true 31 1 [(0,31)] 32,.ap 31 31 17 32 33,.st 31 9 33,.kf .norm] [.kf .norm]] [a,b,c,d,e,g,i,j,l,m,o,p,q,r,u,v,w,x,y,z,A,B,C,D,E,F,G,I,J] h :)
def oH:=(qF5 s k wl 73 rd K QS [.u] 1 [.mv 8 5,.kf .norm] (a::b::c::d::e::g::i::j::zz) h :)
def Du:=(yK5 cx K KF s0 :)
def ao8:=(yB5 s k wl 74 Tryz.f74 [.u,.v (f9 Value.nilFunc)] 2 [.bx 2 4,.bx 3 5,.mv 1 6,.fn 112 [] [5,4] 7,.mv 7 6,.rv 6] 4 [a,b] h :)
def aoX:=(yE5 k wl 74 Tryz.f74 [a,b] h :)
noncomputable def IC:List Fr:=[.seq (ai (aj Tryz.f111) [1,1])]
def afk:=(yB5 s k wl 111 Tryz.f111 [.u,.v (f9 Value.nilFunc),.i 1] 3 [.bx 3 5,.bx 4 6,.mv 1 7,.ld 3 6 8,.bo .lss 3 8 2 9,.cn 9 [.no] [.jn IC]] 7 [a,b] h :)
def aeB:=(yE5 k wl 111 Tryz.f111 [a,b] h :)
def Rq:=(jB5 s k wl 111 Tryz.f111 IC .norm [.u] 1 [.fn 152 [] [3,4] 9,.mv 9 5,.rv 5] [a,b,c,d,e,g,i,j,l] h :)
def BL:=(yK5 cx K IC s0 :)
noncomputable def Fu:Code:=ai (aj Tryz.f112) [1,0,0]
noncomputable def E4:List Fr:=[.block 0]
def adS:=(yB5 s k wl 112 Tryz.f112 [.u,.i 0] 2 [.mv 1 6,.lo Fu [5] E4] 21 [a,b,c] h :)
def ahx:=(yE5 k wl 112 Tryz.f112 [a,b,c] h :)
def adD:=(yZ5 P Tryz.f112 [.u] 1 [.rt []] zz h :)
def acB:=(rL5 s k wl 112 rd Fu n0 K n [.u,.i 5000,.f 113,.i 1] 4 [.mv 8 9,.ld 3 5 10,.mm false [10,1] 11,.bo .lss 3 9 11 12,.cn 12 [.mv 4 15,.mv 8 16,.fa 30 6 0 17,.fa 23 17 0 18,.ld 3 18 19,.fa 30 6 4 20,.ld 28 20 21,.le 28 21 22,.mv 8 23,.cv 3 46 23 24,.ca false true 2 [19,22,24] 25,.ca false true 15 [16,25] 26,.un .not 26 27,.cn 27 [.kf .ret] [.mv 8 13,.bo .add 3 13 3 14,.mv 14 8,.nx Fu [5]]] [.kt (.exit 0) [5]]] [a,b,c,d,e,g,i,j,l,m,o,p,q,r,u,v,w,x,y,z,A,B,C,D] h :)
def OM:=(jB5 s k wl 112 Tryz.f112 E4 (.exit 0) [.u] 1 [.rt []] zz h :)
def CK:=(yK5 cx K E4 s0 :)
noncomputable def FE:Code:=ai (aj Tryz.f113) [1,0,0]
noncomputable def CU:List Fr:=[.seq (ai (aj Tryz.f113) [1,0,1]),.seq (ai (aj Tryz.f113) [1,1])]
noncomputable def Fz:Code:=ai (aj Tryz.f113) [1,1,1,0,1,0,0]
noncomputable def F0:List Fr:=[.block 0,.seq (ai (aj Tryz.f113) [1,1,1,1])]
noncomputable def ET:Code:=ai (aj Tryz.f113) [1,1,1,1,0,1,0,0]
noncomputable def FN:List Fr:=[.block 2,.seq (ai (aj Tryz.f113) [1,1,1,1,1])]
def Z6:=(yB5 s k wl 113 Tryz.f113 [.u,.f 81,.i 21,.b true,.b false] 5 [.nl 11,.rg,.mv 5 15,.ca false true 1 [15,2] 16,.un .not 16 17,.mv 17 18,.gd 18 [.mv 3 18,.sg FE 7 CU] [.mv 4 18,.mv 6 19,.ca false true 1 [19,2] 20,.un .not 20 21,.sg FE 7 CU] [.sg FE 5 CU]] 38 [a,b,c] h :)
def acm:=(yE5 k wl 113 Tryz.f113 [a,b,c] h :)
def XS:=(yZ5 P Tryz.f113 [.u] 1 [.rv 7] (a::b::c::d::e::g::i::zz) h :)
def Jq:=(gB5 s k wl 113 Tryz.f113 FE 7 CU [.u,.b true,.i 0] 3 [.pk 16 1 19 20,.cn 20 [.nl 9,.rv 9] [.nl 10,.mv 3 21,.mv 2 22,.lo Fz [20,9] F0]] [a,b,c,d,e,g,i,j,l,m,o,p,q,r,u,v,w,x,y,z,A,B,C,D,E,F,G,I,J,L,M,N,O,Q,R,S,T,U,W,X,Y] h m0 ac :)
def ab9:=(rL5 s k wl 113 rd Fz n0 K n [.u,.i 0,.i 1] 3 [.bo .lss 3 22 21 23,.cn 23 [.mv 22 24,.mv 24 11,.mv 10 25,.mv 11 26,.mv 5 27,.bu 48 [(0,1),(1,26),(2,27)] 28,.bS false 31 1 [(0,28)] 29,.ap 31 31 25 29 30,.mv 30 10,.bo .add 3 22 2 31,.mv 31 22,.nx Fz [20,9]] [.kt (.exit 0) [19,10]]] [a,b,c,d,e,g,i,j,l,m,o,p,q,r,u,v,w,x,y,z,A,B,C,D,E,F,G,I,J,L,M,N,O,Q,R,S,T,U,W,X,Y] h :)
def JK:=(jB5 s k wl 113 Tryz.f113 F0 (.exit 0) [.u,.i 0] 2 [.mv 3 31,.mv 1 32,.lo ET [31,9] FN] [a,b,c,d,e,g,i,j,l,m,o,p,q,r,u,v,w,x,y,z,A,B,C,D,E,F,G,I,J,L,M,N,O,Q,R,S,T,U,W,X,Y] h :)
def acK:=(rL5 s k wl 113 rd ET n0 K n [.u,.i 1] 2 [.bo .lss 3 32 31 33,.cn 33 [.mv 32 34,.mv 34 11,.mv 9 35,.mv 11 36,.mv 4 37,.bu 48 [(0,1),(1,36),(2,37)] 38,.bS false 31 1 [(0,38)] 39,.ap 31 31 35 39 40,.mv 40 9,.bo .add 3 32 1 41,.mv 41 32,.nx ET [31,9]] [.kt (.exit 2) [30,10]]] [a,b,c,d,e,g,i,j,l,m,o,p,q,r,u,v,w,x,y,z,A,B,C,D,E,F,G,I,J,L,M,N,O,Q,R,S,T,U,W,X,Y] h :)
def JX:=(jB5 s k wl 113 Tryz.f113 FN (.exit 2) [.u] 1 [.mv 8 41,.mv 41 7,.rv 7] [a,b,c,d,e,g,i,j,l,m,o,p,q,r,u,v,w,x,y,z,A,B,C,D,E,F,G,I,J,L,M,N,O,Q,R,S,T,U,W,X,Y] h :)
def rY:=(yK5 cx K CU s0 :)
def rK:=(yK5 cx K F0 s0 :)
def r8:=(yK5 cx K FN s0 :)
noncomputable def FO:Code:=ai (aj Tryz.f152) [1,0,0]
noncomputable def E6:List Fr:=[.block 0]
def aek:=(yB5 s k wl 152 Tryz.f152 [.u,.i 0] 2 [.mv 1 6,.lo FO [6] E6] 28 [a,b,c] h :)
def adB:=(yE5 k wl 152 Tryz.f152 [a,b,c] h :)
def ahz:=(yZ5 P Tryz.f152 [.u] 1 [.rt []] zz h :)
def aan:=(rL5 s k wl 152 rd FO n0 K n [.u] 1 [.mv 5 7,.ld 67 2 8,.le 67 8 9,.bo .lss 3 7 9 10,.cn 10 [.rg,.ld 3 3 14,.ld 67 2 15,.mv 5 16,.sl true 67 15 16 0 0 17,.le 67 17 18,.mm false [14,18] 19,.mv 19 6,.mv 1 20,.ld 67 2 21,.mv 5 22,.mv 5 23,.mv 6 24,.bo .add 3 23 24 25,.mv 5 26,.mv 6 27,.bo .add 3 26 27 28,.sl false 67 21 22 25 28 29,.ca false true 20 [29] 30,.un .not 30 31,.cn 31 [.kf .ret] [.mv 5 11,.ld 3 3 12,.bo .add 3 11 12 13,.mv 13 5,.nx FO [6]]] [.kt (.exit 0) [6]]] [a,b,c,d,e,g,i,j,l,m,o,p,q,r,u,v,w,x,y,z,A,B,C,D,E,F,G,I,J,L,M] h :)
def Qk:=(jB5 s k wl 152 Tryz.f152 E6 (.exit 0) [.u] 1 [.rt []] zz h :)
def Bz:=(yK5 cx K E6 s0 :)
end
end Go.Ab
set_option maxRecDepth 100000
set_option linter.unusedVariables false
namespace Go.Ab
open Go.Proofs
section
variable (s:Sys) (k wl m0 n n0:Nat) (a b c d e g i j l m o p q r u v w x y z A B C D E F G I J L M N O Q R S T U W X Y Z ta tb tc td te tf tg th ti tj tk tl tm tn tp tq tr ts tt tu tv tw tx ty tz tA tB tC tD tE tF:V) (h:Hp) (ac:List Nat×List Nat) (cx:Cx) (K:Out→St→Option (V×Hp)) (s0:St) (P:Program) (zz:List V) (rd:Bool)
noncomputable def MD:Code:=ai (aj Tryz.f40) [1,1,0]
noncomputable def Ha:List Fr:=[.seq (ai (aj Tryz.f40) [1,1,1])]
def ap7:=(yB5 s k wl 40 Tryz.f40 [.u,.b false,.f 75,.b true,.f 56] 5 [.mv 1 9,.mv 5 13,.mv 6 14,.ca false true 2 [13,14] 15,.mv 15 12,.ex 12 0 16,.ex 12 1 17,.mv 16 10,.mv 17 11,.rg,.mv 11 18,.mv 18 19,.gd 19 [.mv 3 19,.mv 5 20,.ca false true 4 [20] 21,.sg MD 4 Ha] [.mv 1 19,.sg MD 4 Ha] [.sg MD 3 Ha]] 16 [a,b] h :)
def aqR:=(yE5 k wl 40 Tryz.f40 [a,b] h :)
def adm:=(gB5 s k wl 40 Tryz.f40 MD 4 Ha [.u,.b false] 2 [.pk 16 18 1 19,.mv 19 6,.rv 6] [a,b,c,d,e,g,i,j,l,m,o,p,q,r,u,v,w,x] h m0 ac :)
def MU:=(yK5 cx K Ha s0 :)
noncomputable def Mt:Code:=ai (aj Tryz.f75) [1,0,1,1,0,1,0,0]
noncomputable def MC:List Fr:=[.block 0,.seq (ai (aj Tryz.f75) [1,0,1,1,1]),.scope (ai (aj Tryz.f75) [1,0])]
def apD:=(yB5 s k wl 75 Tryz.f75 [.u,.b false,.f 114,.b true,.i 0] 5 [.nl 9,.mv 1 10,.mv 5 15,.ca false true 2 [15] 16,.mv 16 11,.mv 3 12,.mv 6 17,.le 34 17 18,.mv 4 19,.lo Mt [15,13] MC] 28 [a,b] h :)
def apI:=(yE5 k wl 75 Tryz.f75 [a,b] h :)
def ao1:=(yZ5 P Tryz.f75 [.u] 1 [.rt [5,6]] (a::b::c::d::e::g::zz) h :)
def ac6:=(rL5 s k wl 75 rd Mt n0 K n [.u,.f 115,.i 1] 3 [.bo .lss 3 17 16 18,.cn 18 [.ia 34 15 17 19,.ld 52 19 20,.al 52 12,.st 52 12 20,.mv 3 22,.mv 9 23,.ld 52 12 24,.ca false true 1 [22,23,24] 25,.mv 25 21,.ex 21 0 26,.ex 21 1 27,.mv 26 9,.mv 27 10,.mv 10 28,.un .not 28 29,.cn 29 [.kt (.exit 0) [14,14]] [.bo .add 3 17 2 30,.mv 30 17,.nx Mt [15,13]]] [.kt (.exit 0) [14,14]]] [a,b,c,d,e,g,i,j,l,m,o,p,q,r,u,v,w,x,y,z,A,B,C,D,E,F,G,I,J,L] h :)
def Xn:=(jB5 s k wl 75 Tryz.f75 MC (.exit 0) [.u] 1 [.mv 7 29,.mv 8 30,.mv 29 5,.mv 30 6,.rt [5,6]] [a,b,c,d,e,g,i,j,l,m,o,p,q,r,u,v,w,x,y,z,A,B,C,D,E,F,G,I,J,L] h :)
def DR:=(yK5 cx K MC s0 :)
def alb:=(yB5 s k wl 114 Tryz.f114 [.u,.f 56] 2 [.nl 4,.mv 2 5,.ca false true 1 [5] 6,.un .not 6 7,.cn 7 [.nl 4,.rv 4] [.mv 2 8,.le 24 8 9,.ms 53 9 9 10,.mv 10 4,.rv 4]] 8 [a] h :)
def ajT:=(yE5 k wl 114 Tryz.f114 [a] h :)
noncomputable def F6:Code:=ai (aj Tryz.f115) [1,1,1,0,0,1,1,1,1,0]
noncomputable def Bb:List Fr:=[.seq (ai (aj Tryz.f115) [1,1,1,0,0,1,1,1,1,1]),.block 0,.seq (ai (aj Tryz.f115) [1,1,1,1])]
noncomputable def pm:Code:=ai (aj Tryz.f115) [1,1,1,1,1,0,0]
noncomputable def ow:List Fr:=[.seq (ai (aj Tryz.f115) [1,1,1,1,1,0,1]),.seq (ai (aj Tryz.f115) [1,1,1,1,1,1])]
def ad9:=(yB5 s k wl 115 Tryz.f115 [.u,.b false,.f 80,.f 153,.i 5,.f 154,.i 0,.b true] 8 [.bx 10 13,.nl 14,.mv 1 15,.mv 9 20,.ca false true 2 [20] 21,.mv 21 16,.fa 52 13 1 22,.ld 3 22 23,.mv 23 17,.mv 8 25,.mv 9 26,.ca false true 3 [25,26] 27,.un .not 27 28,.mv 28 24,.cn 24 [.mv 16 29,.mv 29 14,.mv 1 15,.rt [14,15]] [.fa 52 13 0 31,.ld 3 31 32,.bo .eql 3 32 4 33,.mv 33 30,.cn 30 [.mv 16 34,.mv 9 35,.ca false true 5 [35] 36,.mv 34 14,.mv 36 15,.rt [14,15]] [.rg,.mv 17 38,.bo .lss 3 38 6 39,.mv 39 40,.gd 40 [.mv 7 40,.sg F6 7 Bb] [.mv 1 40,.mv 17 41,.mv 8 42,.le 24 42 43,.bo .geq 3 41 43 44,.sg F6 7 Bb] [.sg F6 4 Bb]]]] 70 [a,b,c] h :)
def adh:=(yE5 k wl 115 Tryz.f115 [a,b,c] h :)
def Q5:=(gB5 s k wl 115 Tryz.f115 F6 7 Bb [.u,.b true,.b false,.f 155] 4 [.pk 36 1 40 41,.mv 41 33,.cn 33 [.mv 12 42,.mv 42 10,.mv 2 11,.rt [10,11]] [.rg,.al 184 14,.mv 4 44,.mv 5 45,.mv 13 46,.ca true true 3 [44,45,46] 47,.fa 52 9 0 48,.so 48,.ld 3 48 49,.lk 186 47 49 true 50,.mv 50 43,.ex 43 0 51,.ex 43 1 52,.st 184 14 51,.mv 52 15,.rg,.mv 15 53,.un .not 53 54,.mv 54 55,.gd 55 [.mv 1 55,.mv 0 56,.mv 0 57,.mv 0 58,.mv 0 59,.mv 0 60,.mv 0 61,.mv 0 62,.sg pm 10 ow] [.mv 2 55,.mv 5 56,.mv 13 57,.ia 53 56 57 58,.ld 3 58 59,.fa 184 14 0 60,.ld 3 60 61,.bo .neq 3 59 61 62,.sg pm 10 ow] [.mv 0 56,.sg pm 4 ow]]] (a::b::c::d::e::g::i::j::l::m::o::p::q::r::u::v::w::x::y::z::A::B::C::D::E::F::G::I::J::L::M::N::O::Q::R::S::T::U::W::X::Y::Z::ta::tb::tc::td::te::tf::tg::th::ti::tj::tk::tl::tm::tn::tp::tq::tr::zz) h m0 ac :)
def RF:=(gB5 s k wl 115 Tryz.f115 pm 10 ow [.u,.b true,.b false] 3 [.pk 54 1 61 62,.mv 62 63,.gd 63 [.mv 1 63,.mv 0 64,.mv 0 65,.mv 0 66,.mv 0 67,.sg pm 16 ow] [.mv 2 63,.fa 184 13 2 64,.ld 32 64 65,.ca false true 65 [] 66,.un .not 66 67,.sg pm 16 ow] [.mv 0 64,.sg pm 13 ow]] (a::b::c::d::e::g::i::j::l::m::o::p::q::r::u::v::w::x::y::z::A::B::C::D::E::F::G::I::J::L::M::N::O::Q::R::S::T::U::W::X::Y::Z::ta::tb::tc::td::te::tf::tg::th::ti::tj::tk::tl::tm::tn::tp::tq::tr::ts::tt::tu::tv::tw::tx::zz) h m0 ac :)
def Qn:=(gB5 s k wl 115 Tryz.f115 pm 16 ow [.u,.b true,.b false] 3 [.pk 63 1 67 68,.cn 68 [.mv 11 69,.mv 69 9,.mv 2 10,.rt [9,10]] [.mv 11 70,.mv 12 71,.fa 184 13 1 72,.ld 3 72 73,.ia 53 70 71 74,.st 3 74 73,.mv 11 75,.mv 75 9,.mv 1 10,.rt [9,10]]] (a::b::c::d::e::g::i::j::l::m::o::p::q::r::u::v::w::x::y::z::A::B::C::D::E::F::G::I::J::L::M::N::O::Q::R::S::T::U::W::X::Y::Z::ta::tb::tc::td::te::tf::tg::th::ti::tj::tk::tl::tm::tn::tp::tq::tr::ts::tt::tu::tv::tw::tx::ty::tz::tA::tB::tC::tD::tE::tF::[]) h m0 ac :)
def CS:=(yK5 cx K Bb s0 :)
def Cu:=(yK5 cx K ow s0 :)
noncomputable def oU:Code:=ai (aj Tryz.f153) [1,0]
noncomputable def og:List Fr:=[.seq (ai (aj Tryz.f153) [1,1])]
def akg:=(yB5 s k wl 153 Tryz.f153 [.u,.b false,.f 56,.b true] 4 [.mv 1 8,.rg,.mv 4 9,.ca false true 2 [9] 10,.mv 10 11,.gd 11 [.mv 3 11,.mv 5 12,.le 53 12 13,.mv 4 14,.le 24 14 15,.bo .eql 3 13 15 16,.sg oU 8 og] [.mv 1 11,.sg oU 8 og] [.sg oU 4 og]] 17 [a,b] h :)
def amI:=(yE5 k wl 153 Tryz.f153 [a,b] h :)
def XY:=(gB5 s k wl 153 Tryz.f153 oU 8 og [.u,.b false,.b true,.f 55,.f 173] 5 [.pk 12 17 1 18,.mv 18 19,.gd 19 [.mv 2 19,.mv 6 20,.ca false true 3 [20,4] 21,.un .not 21 22,.sg oU 13 og] [.mv 1 19,.mv 0 20,.mv 0 21,.mv 0 22,.sg oU 13 og] [.mv 0 20,.sg oU 11 og]] [a,b,c,d,e,g,i,j,l,m,o,p,q,r,u,v,w,x,y] h m0 ac :)
def ZU:=(gB5 s k wl 153 Tryz.f153 oU 13 og [.u,.b false] 2 [.pk 16 19 1 20,.mv 20 6,.rv 6] [a,b,c,d,e,g,i,j,l,m,o,p,q,r,u,v,w,x,y] h m0 ac :)
def Iv:=(yK5 cx K og s0 :)
def aok:=(yB5 s k wl 154 Tryz.f154 [.u,.b false,.f 55,.f 174] 4 [.mv 1 6,.mv 4 7,.ca false true 2 [7,3] 8,.un .not 8 9,.mv 9 6,.rv 6] 5 [a] h :)
def an4:=(yE5 k wl 154 Tryz.f154 [a] h :)
def ahs:=(yB5 s k wl 155 Tryz.f155 [.u,.v (f9 (Value.map none)),.f 101,.i 0,.i 1,.i 3,.i 2,.f 177,.i 4] 9 [.bx 9 12,.bx 10 13,.bx 11 14,.mv 1 15,.ld 24 12 18,.ld 3 14 19,.ca false true 2 [18,19] 20,.al 3 16,.st 3 16 20,.fn 175 [] [16] 21,.mv 21 17,.mk 22,.mv 17 23,.bu 184 [(0,3),(1,4),(2,23)] 24,.is 186 22 3 24,.mv 17 25,.bu 184 [(0,3),(1,3),(2,25)] 26,.is 186 22 4 26,.fn 176 [] [16,13] 27,.bu 184 [(0,3),(1,4),(2,27)] 28,.is 186 22 5 28,.bu 184 [(0,4),(1,6),(2,7)] 29,.is 186 22 6 29,.fn 178 [] [12,14,13] 30,.bu 184 [(0,6),(1,5),(2,30)] 31,.is 186 22 8 31,.mv 22 32,.mv 32 15,.rv 15] 21 [a,b,c] h :)
def ae1:=(yE5 k wl 155 Tryz.f155 [a,b,c] h :)
noncomputable def Fi:Code:=ai (aj Tryz.f173) [1,0]
noncomputable def Ct:List Fr:=[.seq (ai (aj Tryz.f173) [1,1])]
def aef:=(yB5 s k wl 173 Tryz.f173 [.u,.b false,.i 0,.b true,.i 3] 5 [.mv 1 7,.rg,.mv 5 8,.bo .lss 3 8 2 9,.mv 9 10,.gd 10 [.mv 3 10,.sg Fi 5 Ct] [.mv 1 10,.mv 5 11,.bo .gtr 3 11 4 12,.sg Fi 5 Ct] [.sg Fi 4 Ct]] 8 [a] h :)
def ahL:=(yE5 k wl 173 Tryz.f173 [a] h :)
def Rm:=(gB5 s k wl 173 Tryz.f173 Fi 5 Ct [.u,.b true] 2 [.pk 7 1 9 10,.mv 10 4,.rv 4] [a,b,c,d,e,g,i,j,l] h m0 ac :)
def Bl:=(yK5 cx K Ct s0 :)
noncomputable def Gb:Code:=ai (aj Tryz.f174) [1,0]
noncomputable def BK:List Fr:=[.seq (ai (aj Tryz.f174) [1,1])]
def agR:=(yB5 s k wl 174 Tryz.f174 [.u,.b false,.i 1,.b true,.i 2] 5 [.mv 1 7,.rg,.mv 5 8,.bo .eql 3 8 2 9,.mv 9 10,.gd 10 [.mv 3 10,.sg Gb 5 BK] [.mv 1 10,.mv 5 11,.bo .eql 3 11 4 12,.sg Gb 5 BK] [.sg Gb 4 BK]] 8 [a] h :)
def agm:=(yE5 k wl 174 Tryz.f174 [a] h :)
def O0:=(gB5 s k wl 174 Tryz.f174 Gb 5 BK [.u,.b true] 2 [.pk 7 1 9 10,.mv 10 4,.rv 4] [a,b,c,d,e,g,i,j,l] h m0 ac :)
def B5:=(yK5 cx K BK s0 :)
def ae5:=(yB5 s k wl 175 Tryz.f175 [.u,.b false,.i 0] 3 [.mv 1 4,.ld 3 3 5,.bo .lss 3 5 2 6,.mv 6 4,.rv 4] 3 [a] h :)
def ahv:=(yE5 k wl 175 Tryz.f175 [a] h :)
noncomputable def Fp:Code:=ai (aj Tryz.f176) [1,0]
noncomputable def BI:List Fr:=[.seq (ai (aj Tryz.f176) [1,1])]
def afj:=(yB5 s k wl 176 Tryz.f176 [.u,.b false,.i 0,.b true,.i 2] 5 [.mv 1 7,.rg,.ld 3 5 8,.bo .geq 3 8 2 9,.mv 9 10,.gd 10 [.mv 3 10,.ld 53 6 11,.ld 3 5 12,.ia 53 11 12 13,.ld 3 13 14,.bo .eql 3 14 4 15,.sg Fp 8 BI] [.mv 1 10,.sg Fp 8 BI] [.sg Fp 4 BI]] 10 [a,b] h :)
def afA:=(yE5 k wl 176 Tryz.f176 [a,b] h :)
def R4:=(gB5 s k wl 176 Tryz.f176 Fp 8 BI [.u,.b false] 2 [.pk 7 12 1 13,.mv 13 4,.rv 4] [a,b,c,d,e,g,i,j,l,m,o,p] h m0 ac :)
def BA:=(yK5 cx K BI s0 :)
def aaC:=(yB5 s k wl 177 Tryz.f177 [.u,.b false,.b true] 3 [.mv 1 3,.mv 2 3,.rv 3] 1 [] h :)
def aas:=(yE5 k wl 177 Tryz.f177 [] h :)
def afv:=(yB5 s k wl 178 Tryz.f178 [.u,.b false,.f 55] 3 [.mv 1 6,.ld 24 3 7,.ld 3 4 8,.ia 24 7 8 9,.fa 101 9 1 10,.ld 53 10 11,.fn 179 [] [5] 12,.ca false true 2 [11,12] 13,.un .not 13 14,.mv 14 6,.rv 6] 9 [a,b,c] h :)
def ahu:=(yE5 k wl 178 Tryz.f178 [a,b,c] h :)
def agX:=(yB5 s k wl 179 Tryz.f179 [.u,.b false,.i 0] 3 [.mv 1 6,.ld 53 4 7,.mv 3 8,.ia 53 7 8 9,.ld 3 9 10,.bo .eql 3 10 2 11,.mv 11 6,.rv 6] 7 [a,b] h :)
def afT:=(yE5 k wl 179 Tryz.f179 [a,b] h :)
end
end Go.Ab
set_option maxRecDepth 100000
set_option linter.unusedVariables false
namespace Go.Ab
open Go.Proofs
section
variable (s:Sys) (k wl m0:Nat) (a b c d e g i j l m o p q r u v w x y z A B C D E F G I J L M N O Q R S T U W X Y Z ta tb tc td te tf tg th ti tj tk tl tm tn tp tq tr ts tt tu tv tw tx ty tz tA tB tC tD tE tF tG tH tI tJ:V) (h:Hp) (ac:List Nat×List Nat) (zz:List V) (cx:Cx) (K:Out→St→Option (V×Hp)) (s0:St)
noncomputable def lF:Code:=ai (aj Tryz.f14) [1,1,1,1,0,0]
noncomputable def kV:List Fr:=[.seq (ai (aj Tryz.f14) [1,1,1,1,0,1]),.seq (ai (aj Tryz.f14) [1,1,1,1,1])]
noncomputable def Li:Code:=ai (aj Tryz.f14) [1,1,1,1,1,1,1,1,0]
noncomputable def GL:List Fr:=[.seq (ai (aj Tryz.f14) [1,1,1,1,1,1,1,1,1])]
def aqF:=(yB5 s k wl 14 Tryz.f14 [.u,.b false,.f 33,.f 21,.f 22,.b true] 6 [.bx 6 11,.mv 1 16,.ca false true 2 [] 26,.mv 26 17,.mv 7 27,.ca false true 3 [27] 28,.mv 28 18,.mv 8 29,.ca false true 4 [29] 30,.mv 30 19,.rg,.mv 17 31,.un .not 31 32,.mv 32 33,.gd 33 [.mv 5 33,.sg lF 5 kV] [.mv 1 33,.mv 18 34,.un .not 34 35,.sg lF 5 kV] [.sg lF 4 kV]] 72 [a,b,c,d,e] h :)
def aq8:=(yE5 k wl 14 Tryz.f14 [a,b,c,d,e] h :)
def adG:=(gB5 s k wl 14 Tryz.f14 lF 5 kV [.u,.b true,.b false] 3 [.pk 30 1 32 33,.mv 33 34,.gd 34 [.mv 1 34,.mv 0 35,.mv 0 36,.sg lF 9 kV] [.mv 2 34,.mv 16 35,.un .not 35 36,.sg lF 9 kV] [.mv 0 35,.sg lF 8 kV]] (a::b::c::d::e::g::i::j::l::m::o::p::q::r::u::v::w::x::y::z::A::B::C::D::E::F::G::I::J::L::M::N::O::Q::zz) h m0 ac :)
def agC:=(gB5 s k wl 14 Tryz.f14 lF 9 kV [.u,.b true,.b false,.i 900] 4 [.pk 35 1 37 38,.mv 38 39,.gd 39 [.mv 1 39,.mv 0 40,.mv 0 41,.mv 0 42,.sg lF 14 kV] [.mv 2 39,.mv 7 40,.le 67 40 41,.bo .gtr 3 41 3 42,.sg lF 14 kV] [.mv 0 40,.sg lF 12 kV]] (a::b::c::d::e::g::i::j::l::m::o::p::q::r::u::v::w::x::y::z::A::B::C::D::E::F::G::I::J::L::M::N::O::Q::R::S::T::U::W::zz) h m0 ac :)
def ae2:=(gB5 s k wl 14 Tryz.f14 lF 14 kV [.u,.b true,.b false,.i 60] 4 [.pk 39 1 42 43,.mv 43 44,.gd 44 [.mv 1 44,.mv 0 45,.mv 0 46,.sg lF 18 kV] [.mv 2 44,.mv 8 45,.bo .gtr 3 45 3 46,.sg lF 18 kV] [.mv 0 45,.sg lF 17 kV]] (a::b::c::d::e::g::i::j::l::m::o::p::q::r::u::v::w::x::y::z::A::B::C::D::E::F::G::I::J::L::M::N::O::Q::R::S::T::U::W::X::Y::Z::ta::zz) h m0 ac :)
def afW:=(gB5 s k wl 14 Tryz.f14 lF 18 kV [.u,.b true,.f 34,.i 0,.f 36,.f 40,.v .nil,.b false] 8 [.pk 48 1 50 51,.cn 51 [.mv 19 52,.mv 52 18,.rv 18] [.ld 23 13 54,.mv 9 55,.mv 10 56,.mv 11 57,.ca false true 2 [54,55,56,57] 58,.mv 58 53,.ex 53 0 59,.ex 53 1 60,.ex 53 2 61,.al 30 22,.st 30 22 59,.mv 60 23,.mv 61 24,.mv 24 62,.un .not 62 63,.cn 63 [.mv 23 64,.le 34 64 65,.bo .eql 3 65 3 66,.mv 66 18,.rv 18] [.ld 30 22 68,.mv 12 69,.ca false true 4 [68,69] 70,.mv 70 67,.ex 67 0 71,.ex 67 1 72,.ex 67 2 73,.al 30 25,.st 30 25 71,.mv 72 26,.mv 73 27,.rg,.mv 9 74,.mv 23 75,.ca false true 5 [74,75] 76,.mv 76 77,.gd 77 [.mv 1 77,.mv 9 78,.mv 23 79,.ap 34 34 6 79 80,.mv 26 81,.ap 34 34 80 81 82,.ca false true 5 [78,82] 83,.sg Li 10 GL] [.mv 7 77,.mv 0 78,.mv 0 79,.mv 0 80,.mv 0 81,.mv 0 82,.mv 0 83,.sg Li 10 GL] [.mv 0 78,.sg Li 5 GL]]]] (a::b::c::d::e::g::i::j::l::m::o::p::q::r::u::v::w::x::y::z::A::B::C::D::E::F::G::I::J::L::M::N::O::Q::R::S::T::U::W::X::Y::Z::ta::tb::tc::td::te::tf::tg::th::ti::tj::tk::tl::tm::tn::tp::tq::tr::ts::tt::tu::tv::tw::tx::ty::tz::tA::tB::tC::tD::tE::tF::tG::tH::tI::tJ::[]) h m0 ac :)
def ahM:=(gB5 s k wl 14 Tryz.f14 Li 10 GL [.u,.b false] 2 [.pk 71 77 1 78,.mv 78 12,.rv 12] (a::b::c::d::e::g::i::j::l::m::o::p::q::r::u::v::w::x::y::z::A::B::C::D::E::F::G::I::J::L::M::N::O::Q::R::S::T::U::W::X::Y::Z::ta::tb::tc::td::te::tf::tg::th::ti::tj::tk::tl::tm::tn::tp::tq::tr::ts::tt::tu::tv::tw::tx::ty::tz::tA::tB::tC::tD::tE::tF::tG::tH::tI::tJ::[]) h m0 ac :)
def OH:=(yK5 cx K kV s0 :)
def MQ:=(yK5 cx K GL s0 :)
end
end Go.Ab
