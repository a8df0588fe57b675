import Derived.Test.YtblpbpnilkfjhaaGreatR6GY
import Derived.Test.YtblpbpnilkfjhaaGreatR6BX
import Derived.Test.YtblpbpnilkfjhaaGreatR6BL8
set_option linter.unusedVariables false
set_option linter.unusedSimpArgs false
set_option maxRecDepth 100000
set_option linter.unusedVariables false
set_option linter.unusedSimpArgs false
namespace Go.Ab
open Go.Proofs
def aH (k:Nat) (v0:(Int×Int×Int×Int)) (v1:(List (Int×List Int))) (v2:(List (List Int))) (v3:(List (Int×Int×Int)))  : Nat→List Int→List (Int×List (Int×Int×Int)×(Int×Int×Int×Int×Int×Int×Int)×Int×Int)→List (Int×List Int×Int×Int×Int×Int×Int×Int×Int)→Int→Int→Int→Int→Option Bool
 | 0,_,_,_,_,_,_,_=>none
 | n+1,s115,s116,s117,s140,s141,s143,s145=>
 bif decide (s145<(↑s117.length:Int)) then
 ob (idx s117 s145) fun x198=>
 bif x198.1==(4:Int) then
 ob (idx s117 s145) fun x199=>
 bif x199.2.2.2.1==(2:Int) then
 aH k v0 v1 v2 v3  n (s115) (s116) (s117) (s140) (s141) (IntKind.i64.wrap (s143+(1:Int))) (IntKind.i64.wrap (s145+(1:Int)))
 else
 aH k v0 v1 v2 v3  n (s115) (s116) (s117) (s140) (s141) (s143) (IntKind.i64.wrap (s145+(1:Int)))
 else
 aH k v0 v1 v2 v3  n (s115) (s116) (s117) (s140) (s141) (s143) (IntKind.i64.wrap (s145+(1:Int)))
 else
 bif (↑s116.length:Int)==v0.1 then
 ob (aD s115 (1:Int)) fun x200=>
 bif x200==IntKind.u64.wrap s140 then
 bif decide (s140≤v0.1) then
 some (decide (s141≤s143))
 else
 some (false)
 else
 some (false)
 else
 some (false)
theorem fI (k:Nat) (v0_0 v0_1 v0_2 v0_3:Int) (v1:List (Int×List Int)) (v2:List (List Int)) (v3:List (Int×Int×Int)):∀ (n:Nat) (s115:List Int) (s116:List (Int×List (Int×Int×Int)×(Int×Int×Int×Int×Int×Int×Int)×Int×Int)) (s117:List (Int×List Int×Int×Int×Int×Int×Int×Int×Int)) (s140:Int) (s141:Int) (s143:Int) (s145:Int) ⦃s96:Bool⦄ ⦃s97:Bool⦄ ⦃s98:Bool⦄ ⦃s99:List (Int×Int×Int)⦄ ⦃s100:Bool⦄ ⦃s101:Bool⦄ ⦃s102:Int⦄ ⦃s103:Int⦄ ⦃s104:Int⦄ ⦃s105:Int⦄ ⦃s106:List (Int×List Int)⦄ ⦃s107:List Int⦄ ⦃s108:List (Int×List (Int×Int×Int)×(Int×Int×Int×Int×Int×Int×Int)×Int×Int)⦄ ⦃s109:List (Int×List Int×Int×Int×Int×Int×Int×Int×Int)⦄ ⦃s110:Int⦄ ⦃s111:Int⦄ ⦃s112:Int⦄ ⦃s113:Int⦄ ⦃s114:List (Int×List Int)⦄ ⦃s118:Bool⦄ ⦃s142:Int⦄ ⦃s144:Int⦄,rt none (itX (xX (xS (k+80)) 8 0 (k+80) false) rP (11) (au (xX (xS (k+80)) 8 0 (k+80) false) (aC (xS (k+80)).P Tryz.f8) MR) n ⟨(.agg [.lit (.int .i64 v0_0),.lit (.int .i64 v0_1),.lit (.int .i64 v0_2),.lit (.int .i64 v0_3)]::.ro (List.map ao v1)::.ro (List.map cO v2)::.ro (List.map ej v3)::.ptr 0 0 0 0::uu::uu::uu::.lit (.bool false)::.lit (.bool true)::.lit (.bool s96)::.lit (.bool s97)::.ptr 5 0 0 0::.lit (.bool s98)::.ptr 10 0 0 0::.ro (List.map aM s99)::.lit (.int .i64 s140)::.lit (.int .i64 s141)::.lit (.int .i64 s142)::.lit (.int .i64 s143)::.lit (.int .i64 s144)::.lit (.int .i64 s145)::.lit (.bool true)::.ro (List.map ao v1)::.lit (.bool s96)::.ro (List.map cO v2)::.lit (.bool s97)::.lit (.bool true)::.lit (.bool false)::.lit (.bool false)::.lit (.bool s96)::.lit (.bool s100)::.lit (.bool s100)::.lit (.bool false)::.lit (.bool s97)::.lit (.bool s101)::.lit (.bool s101)::.lit (.bool false)::.ro (List.map ej v3)::.lit (.int .i64 (↑v3.length:Int))::.lit (.bool (decide ((500:Int)<(↑v3.length:Int))))::.lit (.bool (decide ((500:Int)<(↑v3.length:Int))))::uu::.tup [.agg [.lit (.int .i64 s102),.lit (.int .i64 s103),.lit (.int .i64 s104),.lit (.int .i64 s105),.ro (List.map ao s106),.ro (List.map (aI IntKind.u64) s107),.ro (List.map aP s108),.ro (List.map b8 s109)],.lit (.bool s98)]::.agg [.lit (.int .i64 v0_0),.lit (.int .i64 v0_1),.lit (.int .i64 v0_2),.lit (.int .i64 v0_3)]::.ro (List.map ao v1)::.ro (List.map cO v2)::.tup [.agg [.lit (.int .i64 s102),.lit (.int .i64 s103),.lit (.int .i64 s104),.lit (.int .i64 s105),.ro (List.map ao s106),.ro (List.map (aI IntKind.u64) s107),.ro (List.map aP s108),.ro (List.map b8 s109)],.lit (.bool s98)]::.agg [.lit (.int .i64 s102),.lit (.int .i64 s103),.lit (.int .i64 s104),.lit (.int .i64 s105),.ro (List.map ao s106),.ro (List.map (aI IntKind.u64) s107),.ro (List.map aP s108),.ro (List.map b8 s109)]::.lit (.bool s98)::.tup [.agg [.lit (.int .i64 s110),.lit (.int .i64 s111),.lit (.int .i64 s112),.lit (.int .i64 s113),.ro (List.map ao s114),.ro (List.map (aI IntKind.u64) s115),.ro (List.map aP s116),.ro (List.map b8 s117)],.ro (List.map aM s99)]::.agg [.lit (.int .i64 s102),.lit (.int .i64 s103),.lit (.int .i64 s104),.lit (.int .i64 s105),.ro (List.map ao s106),.ro (List.map (aI IntKind.u64) s107),.ro (List.map aP s108),.ro (List.map b8 s109)]::.ro (List.map ej v3)::.tup [.agg [.lit (.int .i64 s110),.lit (.int .i64 s111),.lit (.int .i64 s112),.lit (.int .i64 s113),.ro (List.map ao s114),.ro (List.map (aI IntKind.u64) s115),.ro (List.map aP s116),.ro (List.map b8 s117)],.ro (List.map aM s99)]::.agg [.lit (.int .i64 s110),.lit (.int .i64 s111),.lit (.int .i64 s112),.lit (.int .i64 s113),.ro (List.map ao s114),.ro (List.map (aI IntKind.u64) s115),.ro (List.map aP s116),.ro (List.map b8 s117)]::.ro (List.map aM s99)::.lit (.bool s98)::.lit (.bool s118)::.junk::.junk::.junk::.junk::.junk::.junk::.junk::.junk::.junk::.junk::.junk::.junk::.junk::.junk::.junk::.junk::.junk::.junk::.junk::.junk::.junk::.junk::.junk::.junk::.junk::.junk::.junk::.junk::.junk::.junk::.junk::.junk::.junk::.junk::.junk::.junk::.junk::.junk::.junk::.junk::.junk::.junk::.junk::.junk::.junk::.junk::.junk::.junk::.junk::.junk::.junk::.junk::.junk::.junk::.junk::.junk::.junk::.junk::.junk::.junk::.junk::.junk::.junk::.junk::.junk::.junk::.junk::.junk::.junk::.junk::.junk::.junk::.junk::.junk::.junk::.junk::.junk::.junk::.junk::.junk::.junk::.junk::.junk::.junk::.junk::.junk::.junk::.junk::.junk::.junk::.junk::.junk::.junk::.junk::.junk::.junk::.junk::.junk::uu::uu::uu::uu::uu::uu::uu::uu::uu::uu::uu::uu::uu::uu::uu::uu::uu::uu::uu::uu::uu::uu::uu::uu::uu::[]),[.box [.lit (.int .i64 v0_0),.lit (.int .i64 v0_1),.lit (.int .i64 v0_2),.lit (.int .i64 v0_3)],.rows 0 [] 0 true,.rows 0 [] 0 true,.rows 0 [] 0 true,.rows 0 [] 0 true,.box [.lit (.int .i64 s102),.lit (.int .i64 s103),.lit (.int .i64 s104),.lit (.int .i64 s105),.ro (List.map ao s106),.ro (List.map (aI IntKind.u64) s107),.ro (List.map aP s108),.ro (List.map b8 s109)],.rows 0 [] 0 true,.rows 0 [] 0 true,.rows 0 [] 0 true,.rows 0 [] 0 true,.box [.lit (.int .i64 s110),.lit (.int .i64 s111),.lit (.int .i64 s112),.lit (.int .i64 s113),.ro (List.map ao s114),.ro (List.map (aI IntKind.u64) s115),.ro (List.map aP s116),.ro (List.map b8 s117)]]⟩)=ob (aH k (v0_0,v0_1,v0_2,v0_3) v1 v2 v3  n s115 s116 s117 s140 s141 s143 s145) fun r=>some ((.lit (.bool r)),[]):=by
 intro n
 induction n with
 | zero=>intros;rfl
 | succ n ih=>
  intro s115 s116 s117 s140 s141 s143 s145 s96 s97 s98 s99 s100 s101 s102 s103 s104 s105 s106 s107 s108 s109 s110 s111 s112 s113 s114 s118 s142 s144
  rw [aH]
  simp (maxSteps:=2000000) -implicitDefEqProofs only [xe8,xb8,xz8,KD,II,Jh,IC,Km,IZ,K1,Id,Kp,K2,A5,Ca,Ci,Bc,BR,CW,Cz,Cc,lJ,lK,lO,lT,lN,lZ,lY,ma,l9,lU,kF,kw,kr,↓syP,syA,syD,simprocAttr,syE,ah,ag,af,syW,xQ,Gh,JP,Bh,IB,Cf,IX,Cj,IO,BP,KM,CB,CV,r9,dQ,cq,iP,lE,ld,gP,ml,cA,X4,ih]
  all_goals simp -implicitDefEqProofs only [List.map_nil]
def aE (k:Nat) (v0:(Int×Int×Int×Int)) (v1:(List (Int×List Int))) (v2:(List (List Int))) (v3:(List (Int×Int×Int)))  : Nat→List Int→List (Int×List (Int×Int×Int)×(Int×Int×Int×Int×Int×Int×Int)×Int×Int)→List (Int×List Int×Int×Int×Int×Int×Int×Int×Int)→Int→Int→Int→Int→Option Bool
 | 0,_,_,_,_,_,_,_=>none
 | n+1,s68,s69,s70,s90,s91,s93,s94=>
 bif decide (s94<(↑s69.length:Int)) then
 ob (idx s69 s94) fun x193=>
 bif x193.1==(14:Int) then
 ob (idx s69 s94) fun x194=>
 bif x194.2.2.1.2.1==(2:Int) then
 aE k v0 v1 v2 v3  n (s68) (s69) (s70) (s90) (s91) (IntKind.i64.wrap (s93+(1:Int))) (IntKind.i64.wrap (s94+(1:Int)))
 else
 aE k v0 v1 v2 v3  n (s68) (s69) (s70) (s90) (s91) (s93) (IntKind.i64.wrap (s94+(1:Int)))
 else
 aE k v0 v1 v2 v3  n (s68) (s69) (s70) (s90) (s91) (s93) (IntKind.i64.wrap (s94+(1:Int)))
 else
 aH k v0 v1 v2 v3 (k+80) (s68) (s69) (s70) (s90) (s91) (s93) ((0:Int))
theorem fR (k:Nat) (v0_0 v0_1 v0_2 v0_3:Int) (v1:List (Int×List Int)) (v2:List (List Int)) (v3:List (Int×Int×Int)):∀ (n:Nat) (s68:List Int) (s69:List (Int×List (Int×Int×Int)×(Int×Int×Int×Int×Int×Int×Int)×Int×Int)) (s70:List (Int×List Int×Int×Int×Int×Int×Int×Int×Int)) (s90:Int) (s91:Int) (s93:Int) (s94:Int) ⦃s49:Bool⦄ ⦃s50:Bool⦄ ⦃s51:Bool⦄ ⦃s52:List (Int×Int×Int)⦄ ⦃s53:Bool⦄ ⦃s54:Bool⦄ ⦃s55:Int⦄ ⦃s56:Int⦄ ⦃s57:Int⦄ ⦃s58:Int⦄ ⦃s59:List (Int×List Int)⦄ ⦃s60:List Int⦄ ⦃s61:List (Int×List (Int×Int×Int)×(Int×Int×Int×Int×Int×Int×Int)×Int×Int)⦄ ⦃s62:List (Int×List Int×Int×Int×Int×Int×Int×Int×Int)⦄ ⦃s63:Int⦄ ⦃s64:Int⦄ ⦃s65:Int⦄ ⦃s66:Int⦄ ⦃s67:List (Int×List Int)⦄ ⦃s71:Bool⦄ ⦃s92:Int⦄,rt none (itX (xX (xS (k+80)) 8 0 (k+80) false) um (11) (au (xX (xS (k+80)) 8 0 (k+80) false) (aC (xS (k+80)).P Tryz.f8) O1) n ⟨(.agg [.lit (.int .i64 v0_0),.lit (.int .i64 v0_1),.lit (.int .i64 v0_2),.lit (.int .i64 v0_3)]::.ro (List.map ao v1)::.ro (List.map cO v2)::.ro (List.map ej v3)::.ptr 0 0 0 0::uu::uu::uu::.lit (.bool false)::.lit (.bool true)::.lit (.bool s49)::.lit (.bool s50)::.ptr 5 0 0 0::.lit (.bool s51)::.ptr 10 0 0 0::.ro (List.map aM s52)::.lit (.int .i64 s90)::.lit (.int .i64 s91)::.lit (.int .i64 s92)::.lit (.int .i64 s93)::.lit (.int .i64 s94)::uu::.lit (.bool true)::.ro (List.map ao v1)::.lit (.bool s49)::.ro (List.map cO v2)::.lit (.bool s50)::.lit (.bool true)::.lit (.bool false)::.lit (.bool false)::.lit (.bool s49)::.lit (.bool s53)::.lit (.bool s53)::.lit (.bool false)::.lit (.bool s50)::.lit (.bool s54)::.lit (.bool s54)::.lit (.bool false)::.ro (List.map ej v3)::.lit (.int .i64 (↑v3.length:Int))::.lit (.bool (decide ((500:Int)<(↑v3.length:Int))))::.lit (.bool (decide ((500:Int)<(↑v3.length:Int))))::uu::.tup [.agg [.lit (.int .i64 s55),.lit (.int .i64 s56),.lit (.int .i64 s57),.lit (.int .i64 s58),.ro (List.map ao s59),.ro (List.map (aI IntKind.u64) s60),.ro (List.map aP s61),.ro (List.map b8 s62)],.lit (.bool s51)]::.agg [.lit (.int .i64 v0_0),.lit (.int .i64 v0_1),.lit (.int .i64 v0_2),.lit (.int .i64 v0_3)]::.ro (List.map ao v1)::.ro (List.map cO v2)::.tup [.agg [.lit (.int .i64 s55),.lit (.int .i64 s56),.lit (.int .i64 s57),.lit (.int .i64 s58),.ro (List.map ao s59),.ro (List.map (aI IntKind.u64) s60),.ro (List.map aP s61),.ro (List.map b8 s62)],.lit (.bool s51)]::.agg [.lit (.int .i64 s55),.lit (.int .i64 s56),.lit (.int .i64 s57),.lit (.int .i64 s58),.ro (List.map ao s59),.ro (List.map (aI IntKind.u64) s60),.ro (List.map aP s61),.ro (List.map b8 s62)]::.lit (.bool s51)::.tup [.agg [.lit (.int .i64 s63),.lit (.int .i64 s64),.lit (.int .i64 s65),.lit (.int .i64 s66),.ro (List.map ao s67),.ro (List.map (aI IntKind.u64) s68),.ro (List.map aP s69),.ro (List.map b8 s70)],.ro (List.map aM s52)]::.agg [.lit (.int .i64 s55),.lit (.int .i64 s56),.lit (.int .i64 s57),.lit (.int .i64 s58),.ro (List.map ao s59),.ro (List.map (aI IntKind.u64) s60),.ro (List.map aP s61),.ro (List.map b8 s62)]::.ro (List.map ej v3)::.tup [.agg [.lit (.int .i64 s63),.lit (.int .i64 s64),.lit (.int .i64 s65),.lit (.int .i64 s66),.ro (List.map ao s67),.ro (List.map (aI IntKind.u64) s68),.ro (List.map aP s69),.ro (List.map b8 s70)],.ro (List.map aM s52)]::.agg [.lit (.int .i64 s63),.lit (.int .i64 s64),.lit (.int .i64 s65),.lit (.int .i64 s66),.ro (List.map ao s67),.ro (List.map (aI IntKind.u64) s68),.ro (List.map aP s69),.ro (List.map b8 s70)]::.ro (List.map aM s52)::.lit (.bool s51)::.lit (.bool s71)::.junk::.junk::.junk::.junk::.junk::.junk::.junk::.junk::.junk::.junk::.junk::.junk::.junk::.junk::.junk::.junk::.junk::.junk::.junk::.junk::.junk::.junk::.junk::.junk::.junk::.junk::.junk::.junk::.junk::.junk::.junk::.junk::.junk::.junk::.junk::.junk::.junk::.junk::.junk::.junk::.junk::.junk::.junk::.junk::.junk::.junk::.junk::.junk::.junk::.junk::.junk::.junk::.junk::.junk::.junk::.junk::.junk::.junk::.junk::.junk::.junk::.junk::.junk::.junk::.junk::.junk::.junk::.junk::.junk::.junk::.junk::.junk::uu::uu::uu::uu::uu::uu::uu::uu::uu::uu::uu::uu::uu::uu::uu::uu::uu::uu::uu::uu::uu::uu::uu::uu::uu::uu::uu::uu::uu::uu::uu::uu::uu::uu::uu::uu::uu::uu::uu::uu::uu::uu::uu::uu::uu::uu::uu::uu::uu::uu::uu::[]),[.box [.lit (.int .i64 v0_0),.lit (.int .i64 v0_1),.lit (.int .i64 v0_2),.lit (.int .i64 v0_3)],.rows 0 [] 0 true,.rows 0 [] 0 true,.rows 0 [] 0 true,.rows 0 [] 0 true,.box [.lit (.int .i64 s55),.lit (.int .i64 s56),.lit (.int .i64 s57),.lit (.int .i64 s58),.ro (List.map ao s59),.ro (List.map (aI IntKind.u64) s60),.ro (List.map aP s61),.ro (List.map b8 s62)],.rows 0 [] 0 true,.rows 0 [] 0 true,.rows 0 [] 0 true,.rows 0 [] 0 true,.box [.lit (.int .i64 s63),.lit (.int .i64 s64),.lit (.int .i64 s65),.lit (.int .i64 s66),.ro (List.map ao s67),.ro (List.map (aI IntKind.u64) s68),.ro (List.map aP s69),.ro (List.map b8 s70)]]⟩)=ob (aE k (v0_0,v0_1,v0_2,v0_3) v1 v2 v3  n s68 s69 s70 s90 s91 s93 s94) fun r=>some ((.lit (.bool r)),[]):=by
 intro n
 induction n with
 | zero=>intros;rfl
 | succ n ih=>
  intro s68 s69 s70 s90 s91 s93 s94 s49 s50 s51 s52 s53 s54 s55 s56 s57 s58 s59 s60 s61 s62 s63 s64 s65 s66 s67 s71 s92
  rw [aE]
  simp (maxSteps:=2000000) -implicitDefEqProofs only [xe8,xb8,xz8,KD,II,Jh,IC,Km,IZ,K1,Id,Kp,K2,A5,Ca,Ci,Bc,BR,CW,Cz,Cc,lJ,lK,lO,lT,lN,lZ,lY,ma,l9,lU,kF,kw,kr,↓syP,syA,syD,simprocAttr,syE,ah,ag,af,syW,xQ,Gh,JP,Bh,IB,Cf,IX,Cj,IO,BP,KM,CB,CV,r9,dQ,cq,iP,lE,ld,gP,ml,cA,X5,ih,fI k v0_0 v0_1 v0_2 v0_3 v1 v2 v3]
  all_goals simp -implicitDefEqProofs only [List.map_nil]
def an (k:Nat) (v0:(Int×Int×Int×Int)) (v1:(List (Int×List Int))) (v2:(List (List Int))) (v3:(List (Int×Int×Int)))  : Nat→List Int→List (Int×List (Int×Int×Int)×(Int×Int×Int×Int×Int×Int×Int)×Int×Int)→List (Int×List Int×Int×Int×Int×Int×Int×Int×Int)→Int→Int→Int→Option Bool
 | 0,_,_,_,_,_,_=>none
 | n+1,s25,s26,s27,s45,s46,s47=>
 bif decide (s47<(↑s26.length:Int)) then
 bif decide (s47<(16:Int)) then
 ob (idx s26 s47) fun x179=>
 ob (fY (k+77) (x179.1,x179.2.1,(x179.2.2.1.1,x179.2.2.1.2.1,x179.2.2.1.2.2.1,x179.2.2.1.2.2.2.1,x179.2.2.1.2.2.2.2.1,x179.2.2.1.2.2.2.2.2.1,x179.2.2.1.2.2.2.2.2.2),x179.2.2.2.1,x179.2.2.2.2)) fun x180=>
 bif x180 then
 ob (idx s26 s47) fun x181=>
 ob (ez (x181.1,x181.2.1,(x181.2.2.1.1,x181.2.2.1.2.1,x181.2.2.1.2.2.1,x181.2.2.1.2.2.2.1,x181.2.2.1.2.2.2.2.1,x181.2.2.1.2.2.2.2.2.1,x181.2.2.1.2.2.2.2.2.2),x181.2.2.2.1,x181.2.2.2.2)) fun x182=>
 bif x182 then
 ob (eB (v0.1,v0.2.1,v0.2.2.1,v0.2.2.2) s47) fun x183=>
 ob (aD s25 x183) fun x184=>
 bif x184==(0:Int) then
 ob (aD s25 (2:Int)) fun x185=>
 bif decide ((0:Int)≤s47) then
 bif Dm IntKind.u64 (1:Int) s47 !=(0:Int) then
 bif (IntKind.u64.wrap (x185.tdiv (Dm IntKind.u64 (1:Int) s47))).tmod (2:Int)==(0:Int) then
 an k v0 v1 v2 v3  n (s25) (s26) (s27) (IntKind.i64.wrap (s45+(1:Int))) (IntKind.i64.wrap (s46+(1:Int))) (IntKind.i64.wrap (s47+(1:Int)))
 else
 an k v0 v1 v2 v3  n (s25) (s26) (s27) (IntKind.i64.wrap (s45+(1:Int))) (s46) (IntKind.i64.wrap (s47+(1:Int)))
 else
 none
 else
 none
 else
 an k v0 v1 v2 v3  n (s25) (s26) (s27) (IntKind.i64.wrap (s45+(1:Int))) (s46) (IntKind.i64.wrap (s47+(1:Int)))
 else
 an k v0 v1 v2 v3  n (s25) (s26) (s27) (IntKind.i64.wrap (s45+(1:Int))) (s46) (IntKind.i64.wrap (s47+(1:Int)))
 else
 ob (idx s26 s47) fun x186=>
 ob (ez (x186.1,x186.2.1,(x186.2.2.1.1,x186.2.2.1.2.1,x186.2.2.1.2.2.1,x186.2.2.1.2.2.2.1,x186.2.2.1.2.2.2.2.1,x186.2.2.1.2.2.2.2.2.1,x186.2.2.1.2.2.2.2.2.2),x186.2.2.2.1,x186.2.2.2.2)) fun x187=>
 bif x187 then
 ob (eB (v0.1,v0.2.1,v0.2.2.1,v0.2.2.2) s47) fun x188=>
 ob (aD s25 x188) fun x189=>
 bif x189==(0:Int) then
 ob (aD s25 (2:Int)) fun x190=>
 bif decide ((0:Int)≤s47) then
 bif Dm IntKind.u64 (1:Int) s47 !=(0:Int) then
 bif (IntKind.u64.wrap (x190.tdiv (Dm IntKind.u64 (1:Int) s47))).tmod (2:Int)==(0:Int) then
 an k v0 v1 v2 v3  n (s25) (s26) (s27) (s45) (IntKind.i64.wrap (s46+(1:Int))) (IntKind.i64.wrap (s47+(1:Int)))
 else
 an k v0 v1 v2 v3  n (s25) (s26) (s27) (s45) (s46) (IntKind.i64.wrap (s47+(1:Int)))
 else
 none
 else
 none
 else
 an k v0 v1 v2 v3  n (s25) (s26) (s27) (s45) (s46) (IntKind.i64.wrap (s47+(1:Int)))
 else
 an k v0 v1 v2 v3  n (s25) (s26) (s27) (s45) (s46) (IntKind.i64.wrap (s47+(1:Int)))
 else
 aE k v0 v1 v2 v3 (k+80) (s25) (s26) (s27) (s45) (s46) ((0:Int)) ((0:Int))
 else
 aE k v0 v1 v2 v3 (k+80) (s25) (s26) (s27) (s45) (s46) ((0:Int)) ((0:Int))
theorem fL (k:Nat) (v0_0 v0_1 v0_2 v0_3:Int) (v1:List (Int×List Int)) (v2:List (List Int)) (v3:List (Int×Int×Int)):∀ (n:Nat) (s25:List Int) (s26:List (Int×List (Int×Int×Int)×(Int×Int×Int×Int×Int×Int×Int)×Int×Int)) (s27:List (Int×List Int×Int×Int×Int×Int×Int×Int×Int)) (s45:Int) (s46:Int) (s47:Int) ⦃s6:Bool⦄ ⦃s7:Bool⦄ ⦃s8:Bool⦄ ⦃s9:List (Int×Int×Int)⦄ ⦃s10:Bool⦄ ⦃s11:Bool⦄ ⦃s12:Int⦄ ⦃s13:Int⦄ ⦃s14:Int⦄ ⦃s15:Int⦄ ⦃s16:List (Int×List Int)⦄ ⦃s17:List Int⦄ ⦃s18:List (Int×List (Int×Int×Int)×(Int×Int×Int×Int×Int×Int×Int)×Int×Int)⦄ ⦃s19:List (Int×List Int×Int×Int×Int×Int×Int×Int×Int)⦄ ⦃s20:Int⦄ ⦃s21:Int⦄ ⦃s22:Int⦄ ⦃s23:Int⦄ ⦃s24:List (Int×List Int)⦄ ⦃s28:Bool⦄,rt none (itX (xX (xS (k+80)) 8 0 (k+80) false) iy (11) (au (xX (xS (k+80)) 8 0 (k+80) false) (aC (xS (k+80)).P Tryz.f8) NU) n ⟨(.agg [.lit (.int .i64 v0_0),.lit (.int .i64 v0_1),.lit (.int .i64 v0_2),.lit (.int .i64 v0_3)]::.ro (List.map ao v1)::.ro (List.map cO v2)::.ro (List.map ej v3)::.ptr 0 0 0 0::uu::uu::uu::.lit (.bool false)::.lit (.bool true)::.lit (.bool s6)::.lit (.bool s7)::.ptr 5 0 0 0::.lit (.bool s8)::.ptr 10 0 0 0::.ro (List.map aM s9)::.lit (.int .i64 s45)::.lit (.int .i64 s46)::.lit (.int .i64 s47)::uu::uu::uu::.lit (.bool true)::.ro (List.map ao v1)::.lit (.bool s6)::.ro (List.map cO v2)::.lit (.bool s7)::.lit (.bool true)::.lit (.bool false)::.lit (.bool false)::.lit (.bool s6)::.lit (.bool s10)::.lit (.bool s10)::.lit (.bool false)::.lit (.bool s7)::.lit (.bool s11)::.lit (.bool s11)::.lit (.bool false)::.ro (List.map ej v3)::.lit (.int .i64 (↑v3.length:Int))::.lit (.bool (decide ((500:Int)<(↑v3.length:Int))))::.lit (.bool (decide ((500:Int)<(↑v3.length:Int))))::uu::.tup [.agg [.lit (.int .i64 s12),.lit (.int .i64 s13),.lit (.int .i64 s14),.lit (.int .i64 s15),.ro (List.map ao s16),.ro (List.map (aI IntKind.u64) s17),.ro (List.map aP s18),.ro (List.map b8 s19)],.lit (.bool s8)]::.agg [.lit (.int .i64 v0_0),.lit (.int .i64 v0_1),.lit (.int .i64 v0_2),.lit (.int .i64 v0_3)]::.ro (List.map ao v1)::.ro (List.map cO v2)::.tup [.agg [.lit (.int .i64 s12),.lit (.int .i64 s13),.lit (.int .i64 s14),.lit (.int .i64 s15),.ro (List.map ao s16),.ro (List.map (aI IntKind.u64) s17),.ro (List.map aP s18),.ro (List.map b8 s19)],.lit (.bool s8)]::.agg [.lit (.int .i64 s12),.lit (.int .i64 s13),.lit (.int .i64 s14),.lit (.int .i64 s15),.ro (List.map ao s16),.ro (List.map (aI IntKind.u64) s17),.ro (List.map aP s18),.ro (List.map b8 s19)]::.lit (.bool s8)::.tup [.agg [.lit (.int .i64 s20),.lit (.int .i64 s21),.lit (.int .i64 s22),.lit (.int .i64 s23),.ro (List.map ao s24),.ro (List.map (aI IntKind.u64) s25),.ro (List.map aP s26),.ro (List.map b8 s27)],.ro (List.map aM s9)]::.agg [.lit (.int .i64 s12),.lit (.int .i64 s13),.lit (.int .i64 s14),.lit (.int .i64 s15),.ro (List.map ao s16),.ro (List.map (aI IntKind.u64) s17),.ro (List.map aP s18),.ro (List.map b8 s19)]::.ro (List.map ej v3)::.tup [.agg [.lit (.int .i64 s20),.lit (.int .i64 s21),.lit (.int .i64 s22),.lit (.int .i64 s23),.ro (List.map ao s24),.ro (List.map (aI IntKind.u64) s25),.ro (List.map aP s26),.ro (List.map b8 s27)],.ro (List.map aM s9)]::.agg [.lit (.int .i64 s20),.lit (.int .i64 s21),.lit (.int .i64 s22),.lit (.int .i64 s23),.ro (List.map ao s24),.ro (List.map (aI IntKind.u64) s25),.ro (List.map aP s26),.ro (List.map b8 s27)]::.ro (List.map aM s9)::.lit (.bool s8)::.lit (.bool s28)::.junk::.junk::.junk::.junk::.junk::.junk::.junk::.junk::.junk::.junk::.junk::.junk::.junk::.junk::.junk::.junk::.junk::.junk::.junk::.junk::.junk::.junk::.junk::.junk::.junk::.junk::.junk::.junk::.junk::.junk::.junk::.junk::.junk::.junk::.junk::.junk::.junk::.junk::.junk::.junk::.junk::.junk::.junk::.junk::.junk::.junk::uu::uu::uu::uu::uu::uu::uu::uu::uu::uu::uu::uu::uu::uu::uu::uu::uu::uu::uu::uu::uu::uu::uu::uu::uu::uu::uu::uu::uu::uu::uu::uu::uu::uu::uu::uu::uu::uu::uu::uu::uu::uu::uu::uu::uu::uu::uu::uu::uu::uu::uu::uu::uu::uu::uu::uu::uu::uu::uu::uu::uu::uu::uu::uu::uu::uu::uu::uu::uu::uu::uu::uu::uu::uu::uu::uu::uu::[]),[.box [.lit (.int .i64 v0_0),.lit (.int .i64 v0_1),.lit (.int .i64 v0_2),.lit (.int .i64 v0_3)],.rows 0 [] 0 true,.rows 0 [] 0 true,.rows 0 [] 0 true,.rows 0 [] 0 true,.box [.lit (.int .i64 s12),.lit (.int .i64 s13),.lit (.int .i64 s14),.lit (.int .i64 s15),.ro (List.map ao s16),.ro (List.map (aI IntKind.u64) s17),.ro (List.map aP s18),.ro (List.map b8 s19)],.rows 0 [] 0 true,.rows 0 [] 0 true,.rows 0 [] 0 true,.rows 0 [] 0 true,.box [.lit (.int .i64 s20),.lit (.int .i64 s21),.lit (.int .i64 s22),.lit (.int .i64 s23),.ro (List.map ao s24),.ro (List.map (aI IntKind.u64) s25),.ro (List.map aP s26),.ro (List.map b8 s27)]]⟩)=ob (an k (v0_0,v0_1,v0_2,v0_3) v1 v2 v3  n s25 s26 s27 s45 s46 s47) fun r=>some ((.lit (.bool r)),[]):=by
 intro n
 induction n with
 | zero=>intros;rfl
 | succ n ih=>
  intro s25 s26 s27 s45 s46 s47 s6 s7 s8 s9 s10 s11 s12 s13 s14 s15 s16 s17 s18 s19 s20 s21 s22 s23 s24 s28
  rw [an]
  simp (maxSteps:=2000000) -implicitDefEqProofs only [xe8,xb8,xz8,KD,II,Jh,IC,Km,IZ,K1,Id,Kp,K2,A5,Ca,Ci,Bc,BR,CW,Cz,Cc,lJ,lK,lO,lT,lN,lZ,lY,ma,l9,lU,kF,kw,kr,↓syP,syA,syD,simprocAttr,syE,ah,ag,af,syW,xQ,Gh,JP,Bh,IB,Cf,IX,Cj,IO,BP,KM,CB,CV,r9,dQ,cq,iP,lE,ld,gP,ml,cA,VV,ih,fR k v0_0 v0_1 v0_2 v0_3 v1 v2 v3]
  all_goals simp -implicitDefEqProofs only [List.map_nil]
def bX (k:Nat) (v0:(Int×Int×Int×Int)) (v1:(List (Int×List Int))) (v2:(List (List Int))) (v3:(List (Int×Int×Int))):Option Bool:=
 ob (cZ (k+79) v1) fun x201=>
 ob (bG (k+79) v2) fun x202=>
 bif !x201 then
 some true
 else
 bif !x202 then
 some true
 else
 bif decide (500<(↑v3.length:Int)) then
 some true
 else
 ob (gF (k+58) v0 v1 v2) fun x203=>
 ob (eE (k+17) ((x203.1.1.1,x203.1.1.2.1,x203.1.1.2.2.1,x203.1.1.2.2.2),x203.1.2) v3) fun x204=>
 bif !x203.2 then
 some true
 else
 an k v0 v1 v2 v3 (k+80) x204.1.2.2.1 x204.1.2.2.2.1 x204.1.2.2.2.2 0 0 0
theorem iN (k:Nat) (v0_0 v0_1 v0_2 v0_3:Int) (v1:List (Int×List Int)) (v2:List (List Int)) (v3:List (Int×Int×Int)):xC (k+81) none 8 [.agg [.lit (.int .i64 v0_0),.lit (.int .i64 v0_1),.lit (.int .i64 v0_2),.lit (.int .i64 v0_3)],.ro (List.map ao v1),.ro (List.map cO v2),.ro (List.map ej v3)]=ob (bX k (v0_0,v0_1,v0_2,v0_3) v1 v2 v3) fun r=>some ((.lit (.bool r)),[]):=by
 rw [aK]
 unfold bX
 simp (maxSteps:=2000000) -implicitDefEqProofs only [xe8,xb8,xz8,KD,II,Jh,IC,Km,IZ,K1,Id,Kp,K2,A5,Ca,Ci,Bc,BR,CW,Cz,Cc,lJ,lK,lO,lT,lN,lZ,lY,ma,l9,lU,kF,kw,kr,↓syP,syA,syD,simprocAttr,syE,ah,ag,af,syW,xQ,Gh,JP,Bh,IB,Cf,IX,Cj,IO,BP,KM,CB,CV,r9,dQ,gP,ml,cA,fL k v0_0 v0_1 v0_2 v0_3 v1 v2 v3]
 all_goals simp -implicitDefEqProofs only [List.map_nil]
end Go.Ab
